/- A part of the proofs of this seat: ALIAS PevGlob PevDefs PevEval PevLoop PevSem PevStep PevConv PevRun PevOps PevPrs0 PevRows PevOps2 PevOps3 PevOps4 PevOps5 PevOps6. -/
import Derived.Calls
import Derived.Laws.Sem
import Derived.Orders
import Derived.Below
import Derived.Laws.AppendOwn
import Derived.Laws.Entries
import Derived.Maps.AppendAt
import Derived.Laws.Small
import Derived.Laws.StructEq
import Derived.WideLaws
set_option linter.unusedVariables false
set_option linter.unusedSimpArgs false
set_option linter.unusedSectionVars false
set_option maxRecDepth 100000
section
namespace Go.Pev
abbrev Apo:=@decide_eq_false
abbrev Apq:=@Option.some.injEq
abbrev Apr:=@decide_eq_true
abbrev Aps:=@decide_eq_true_eq
abbrev Apt:=@Bool.and_eq_true
abbrev Apu:=@List.getD_eq_getElem?_getD
abbrev Apv:=@List.mem_cons
abbrev Apw:=@List.length_cons
abbrev Apx:=@Bool.not_true
abbrev Apy:=@decide_true
abbrev Apz:=@List.getElem?_eq_getElem
abbrev Ap0:=@List.mem_of_getElem?
abbrev Ap1:=@Nat.le_refl
abbrev Ap2:=@Option.map_eq_some_iff
abbrev Ap3:=@List.length_append
abbrev Ap4:=@if_neg
abbrev Ap5:=@if_pos
abbrev Ap6:=@List.mem_append
abbrev Ap7:=@Int.eq_ofNat_of_zero_le
abbrev Ap8:=@List.length_nil
abbrev Ap9:=@Prod.mk.injEq
abbrev AqA:=@decide_false
abbrev AqB:=@if_false
abbrev AqC:=@Bool.false_eq_true
abbrev AqD:=@List.mem_cons_of_mem
abbrev AqE:=@List.all_eq_true
abbrev AqF:=@List.cons.injEq
abbrev AqG:=@Array.length_toList
abbrev AqH:=@List.length_range
abbrev AqI:=@List.nil_append
abbrev AqJ:=@List.cons_append
abbrev AqK:=@Option.getD_some
abbrev AqL:=@List.map_cons
abbrev AqM:=@Array.getD_eq_getD_getElem?
abbrev AqN:=@List.eq_nil_of_length_eq_zero
abbrev AqO:=@List.nodup_cons
abbrev AqP:=@if_true
abbrev AqQ:=@Option.bind_some
abbrev AqR:=@List.mem_singleton
abbrev AqS:=@Nat.eq_of_beq_eq_true
abbrev AqT:=@Nat.le_of_ble_eq_true
abbrev AqU:=@List.mem_map
abbrev AqV:=@List.getElem?_append_right
abbrev AqW:=@Int.toNat_natCast
abbrev AqX:=@List.drop_eq_getElem_cons
abbrev AqY:=@List.foldl_cons
abbrev AqZ:=@List.getElem?_eq_some_iff
abbrev Aqa:=@List.take_append_drop
abbrev Aqb:=@Bool.not_false
abbrev Aqc:=@decide_eq_false_iff_not
abbrev Aqd:=@List.getElem?_cons_zero
abbrev Aqe:=@List.length_singleton
abbrev Aqf:=@List.pairwise_cons
abbrev Aqg:=@Nat.zero_add
abbrev Aqh:=@Option.bind_eq_some_iff
abbrev Aqi:=@List.mem_range
abbrev Aqj:=@Nat.mul_le_mul_right
abbrev Aqk:=@List.length_map
abbrev Aql:=@Classical.byContradiction
abbrev Aqm:=@Nat.mod_eq_of_lt
abbrev Aqn:=@List.length_take
abbrev Aqo:=@Array.getElem?_toList
abbrev Aqp:=@List.range_succ
abbrev Aqq:=@List.drop_of_length_le
abbrev Aqr:=@Bool.and_self
abbrev Aqs:=@Option.isSome_iff_exists
abbrev Aqt:=@not_true_eq_false
abbrev Aqu:=@Bool.or_eq_true
abbrev Aqv:=@List.append_nil
abbrev Aqw:=@Nat.min_eq_left
abbrev Aqx:=@congrArg
abbrev Aqy:=@List.flatten_cons
abbrev Aqz:=@Bool.not_eq_true'
abbrev Aq0:=@List.size_toArray
abbrev Aq1:=@Nat.lt_of_lt_of_le
abbrev Aq2:=@Ne.symm
abbrev Aq3:=@List.length_drop
abbrev Aq4:=@List.getElem?_set_ne
abbrev Aq5:=@List.getElem_mem
abbrev Aq6:=@Int.tdiv_eq_ediv_of_nonneg
abbrev Aq7:=@Nat.add_mul
abbrev Aq8:=@List.getElem_of_mem
abbrev Aq9:=@Array.getElem?_eq_getElem
abbrev ArA:=@List.getElem?_append_left
abbrev ArB:=@List.length_replicate
abbrev ArC:=@Nat.le_of_lt
abbrev ArD:=@Nat.le_trans
abbrev ArE:=@Array.toList_map
abbrev ArF:=@List.range'_succ
abbrev ArG:=@Nat.sub_self
abbrev ArH:=@beq_iff_eq
abbrev ArI:=@List.getLast?_concat
abbrev ArJ:=@List.flatMap_cons
abbrev ArK:=@Option.map_some
abbrev ArL:=@List.mem_filter
abbrev ArM:=@List.take_of_length_le
abbrev ArN:=@List.drop_one
abbrev ArO:=@List.not_mem_nil
abbrev ArP:=@List.drop_drop
abbrev ArQ:=@List.tail_cons
abbrev ArR:=@Nat.eq_zero_or_pos
abbrev ArS:=@List.singleton_append
abbrev ArT:=@List.mem_of_mem_drop
abbrev ArU:=@Nat.mod_lt
abbrev ArV:=@List.append_assoc
abbrev ArW:=@List.pairwise_map
abbrev ArX:=@false_and
abbrev ArY:=@List.drop_zero
abbrev ArZ:=@List.take_length
abbrev Ara:=@List.findIdx_lt_length
abbrev Arb:=@Nat.add_zero
abbrev Arc:=@decide_eq_true_iff
abbrev Ard:=@List.length_set
abbrev Are:=@List.map_append
abbrev Arf:=@Option.some.inj
abbrev Arh:=@List.perm_append_comm
abbrev Ari:=@Int.fdiv_eq_ediv_of_nonneg
abbrev Arj:=@List.getElem?_map
abbrev Ark:=@List.ext_getElem?
abbrev Arl:=@List.nodup_append
abbrev Arm:=@Array.toArray_toList
abbrev Arn:=@List.range_eq_range'
abbrev Aro:=@List.getLast?_append
abbrev Arp:=@List.mem_take_iff_getElem
abbrev Arq:=@List.pairwise_iff_getElem
abbrev Arr:=@Nat.one_mul
abbrev Ars:=@Nat.le_of_eq
abbrev Art:=@List.map_nil
abbrev Aru:=@Nat.lt_or_ge
abbrev Arv:=@List.take_succ_eq_append_getElem
abbrev Arw:=@List.any_eq_true
abbrev Arx:=@true_and
abbrev Ary:=@decide_eq_decide
abbrev Arz:=@List.filter_eq_self
abbrev Ar0:=@List.eraseIdx_cons_succ
abbrev Ar1:=@List.getElem?_take
abbrev Ar2:=@List.filter_append
abbrev Ar3:=@List.append_of_mem
abbrev Ar4:=@List.range_zero
abbrev Ar5:=@Nat.add_sub_cancel
abbrev Ar6:=@of_decide_eq_true
abbrev Ar7:=@Nat.zero_mul
abbrev Ar8:=@Nat.mul_le_mul
abbrev Ar9:=@Bool.false_and
abbrev AsA:=@List.eraseIdx_sublist
abbrev AsB:=@and_true
abbrev AsC:=@List.Pairwise.filter
abbrev AsD:=@or_false
abbrev AsE:=@Bool.false_or
abbrev AsF:=@Int.tmod_eq_emod_of_nonneg
abbrev AsG:=@Nat.mul_one
abbrev AsH:=@Nat.zero_le
abbrev AsI:=@List.flatten_append
abbrev AsJ:=@List.flatMap_append
abbrev AsK:=@Array.mapM_eq_mapM_toList
abbrev AsL:=@Bool.eq_iff_iff
abbrev AsM:=@List.extract_eq_take_drop
abbrev AsN:=@List.take_left'
abbrev AsO:=@List.headD_cons
abbrev AsP:=@List.getElem?_drop
abbrev AsQ:=@List.eq_of_mem_replicate
abbrev AsR:=@Nat.mod_eq_sub_mod
abbrev AsS:=@Nat.lt_or_gt_of_ne
abbrev AsT:=@List.find?_range_eq_some
abbrev AsU:=@BitVec.toNat_ofInt
abbrev AsV:=@List.take_take
abbrev AsW:=@List.getLast?_cons_cons
abbrev AsX:=@List.filter_cons_of_pos
abbrev AsY:=@List.filter_cons_of_neg
abbrev AsZ:=@Classical.not_not
abbrev Asa:=@List.pairwise_lt_range
abbrev Asb:=@Int.mul_add
abbrev Asc:=@Int.mul_one
abbrev Asd:=@List.map_eq_append_iff
abbrev Ase:=@Bool.true_and
abbrev Asf:=@List.take_append
abbrev Asg:=@Array.all_toList
abbrev Ash:=@Nat.max_eq_right
abbrev Asi:=@Nat.min_eq_right
end Go.Pev
end
section
namespace Go.Pev
def ALI:List Int:=[0,1,28,2,29,14,24,3,30,22,20,15,25,17,4,8,31,27,13,23,21,19,16,7,26,12,18,6,11,5,10,9]
def AGB:List (Nat×IntKind×List Int):=[(0,.u8,ALI)]
end Go.Pev
end
section
namespace Go.Pev
inductive Ty where
 |unit|bool
 |int (k:IntKind)
 |slice (e:Ty)
 |prod (a b:Ty)
 |arr (n:Nat) (e:Ty)
 |nul (e:Ty)
 |mapi (j:IntKind) (e:Ty)
 deriving DecidableEq
@[reducible] def Ty.den:Ty→Type
 |.unit=>Unit
 |.bool=>Bool
 |.int _=>Int
 |.slice e=>List e.den
 |.prod a b=>a.den×b.den
 |.arr _ e=>List e.den
 |.nul _=>Unit
 |.mapi _ e=>List (Int×e.den)
def Ty.size:Ty→Nat
 |.unit=>0
 |.bool=>1
 |.int _=>1
 |.slice _=>1
 |.prod a b=>a.size+b.size
 |.arr n e=>n*e.size
 |.nul _=>1
 |.mapi _ _=>1
def Ty.isAgg:Ty→Bool
 |.unit=>true
 |.prod _ _=>true
 |.arr _ _=>true
 |_=>false
def Ty.made(b:Bool):Ty→Ty
 |.slice e=>match b with
  |true=>.nul e
  |false=>.slice e
 |t=>t
def Ty.nul? : (t:Ty)→Option Ty
 |.nul e=>some e
 |_=>none
def Ty.zero:(t:Ty)→t.den
 |.unit=>()
 |.bool=>false
 |.int _=>(0:Int)
 |.slice _=>[]
 |.prod a b=>(a.zero,b.zero)
 |.arr n e=>List.replicate n e.zero
 |.nul _=>()
 |.mapi _ _=>[]
def Ty.flat:Ty→Bool
 |.unit=>true
 |.bool=>true
 |.int _=>true
 |.slice _=>false
 |.prod a b=>a.flat&&b.flat
 |.arr _ e=>e.flat
 |.nul _=>true
 |.mapi _ _=>false
inductive AV where
 |CA
 |data (t:Ty) (d:t.den)
 |nils (e:Ty)
 |agg (cs:List AV)
 |own (id:Nat)
 |win (id off n:Nat)
 |ptr (id off:Nat)
 |eptr (id i sub:Nat)
 |dptr (cs:List AV)
 |clo (f:FuncId) (caps:List AV)
 |bnd (f:FuncId) (fs:List AV)
 |str (xs:List Int)
 |clip (t:Ty) (xs:List t.den)
 |mp (id:Nat)
 |tup (vs:List AV)
 |rowp (id i ver:Nat)
 |glob (g:Nat)
 |aptr (id n:Nat)
 |nilp
 |ifc (o:Option (TypeId×List (IntKind×Int)))
def Jd:Option (TypeId×List (IntKind×Int))→Value
 |none=>.nilIface
 |some (T,l)=>.iface T (.agg (l.map fun p=>Value.int p.1 p.2).toArray)
def AK5:List AV→Option (List (IntKind×Int))
 |[]=>some []
 |.data (.int k) n::r=>(AK5 r).map ((k,n) :: ·)
 |_::_=>none
def AX{α:Type}(xs:List α)(i:Nat)(x:α):List α:=xs.set i x
inductive RK where
 |arr (T:TypeId)
 |map (j:IntKind) (ks:List Int)
def RK.JG:RK→Bool
 |.arr _=>true
 |.map _ _=>false
def G8(ks:List Int)(x:Int):Nat:=
 match ks with
 |[]=>0
 |k::ks=>if k=x then 0 else G8 ks x+1
def VG{α:Type}(xs:List α)(i:Nat)(x:α):List α:=if i<xs.length then xs.set i x else xs++[x]
def RK.put{α:Type}(K:RK)(xs:List α)(i:Nat)(x:α):List α:=
 match K with
 |.arr _=>AX xs i x
 |.map _ _=>VG xs i x
inductive Ob where
 |free
 |dead
 |box (cs:List AV)
 |arr (T:TypeId) (t:Ty) (xs:List t.den)
 |map (k v:Ty) (es:List (k.den×v.den))
 |prs (T:TypeId) (tgt:Nat) (is:List Int)
 |rows (K:RK) (e:TypeId) (t:Ty) (xs:List (List t.den)) (ver:Nat) (out:Option Nat)
def Fv(tgt:Nat)(is:List Int):List AV:=is.map fun i=>.eptr tgt i.toNat 0
def BP:Ob→Bool
 |.rows _ _ _ _ _ _=>false
 |_=>true
structure Tm where
 n:Nat
 f:Nat→AV
noncomputable def Tm.set(m:Tm)(t:Nat)(v:AV):Tm:=⟨m.n,fun i=>Bool.rec (m.f i) (Bool.rec (m.f i) v (Nat.blt t m.n)) (Nat.beq i t)⟩
def Tm.of(l:List AV)(n:Nat):Tm:=⟨n,fun i=>l.getD i .CA⟩
def Tm.at(m:Tm)(t:Nat):Option AV:=match Nat.blt t m.n with
 |true=>some (m.f t)
 |false=>none
def Tm.list(m:Tm):List AV:=(List.range m.n).map m.f
def lk(l:List AV)(t:Nat):Option AV:=l[t]?
theorem Tm.ext{m m':Tm}(h:m.n=m'.n)(k:∀ i,m.f i=m'.f i):m=m':=by cases m;cases m';simp only at h k;subst h;congr;grind
theorem Tm.TJ(m:Tm)(t:Nat)(v:AV)(i:Nat):(m.set t v).f i=if i=t∧t<m.n then v else m.f i:=by
 unfold Tm.set;dsimp only;cases h:Nat.beq i t with
  |false=>
   have:i≠t:=by rintro rfl;simp_all
   grind
  |true=>
   have:=AqS h;subst this;cases h2:Nat.blt i m.n with
    |false=>
     have:¬ i<m.n:=by intro h3;have h4:Nat.ble (i+1) m.n=true:=Nat.ble_eq_true_of_le h3;rw[show Nat.blt i m.n=Nat.ble (i+1) m.n from rfl,h4]at h2;cases h2
     grind
    |true=>simp_all
theorem Tm.Lt{m:Tm}{t:Nat}{v:AV}(h:m.f t=v):m.set t v=m:=Tm.ext rfl fun i=>by rw[Tm.TJ];grind
theorem Tm.set_comm(m:Tm){t u:Nat}(v w:AV)(h:t≠u):(m.set t v).set u w=(m.set u w).set t v:=Tm.ext rfl fun i=>by simp only[Tm.TJ,show ∀ a b,(Tm.set m a b).n=m.n from fun _ _=>rfl];grind
theorem Tm.set_set(m:Tm)(t:Nat)(v w:AV):(m.set t v).set t w=m.set t w:=Tm.ext rfl fun i=>by simp only[Tm.TJ,show ∀ a b,(Tm.set m a b).n=m.n from fun _ _=>rfl];grind
theorem Tm.AmF{m:Tm}{t:Nat}{v:AV}(h:m.at t=some v):v=m.f t∧t<m.n:=by unfold Tm.at at h;split at h;all_goals simp_all
theorem Tm.Af8(m:Tm):m.list.length=m.n:=by simp[Tm.list]
theorem Tm.Af9{m:Tm}{t:Nat}{v:AV}(h:m.list[t]? = some v):v=m.f t:=by unfold Tm.list at h;grind
structure St where
 tmps:Tm
 heap:List Ob
 frz:List Bool
def nf{R:Type}(n:Nat)(k:Nat→R):R:=match n with
 |0=>k 0
 |n+1=>k (Nat.succ n)
theorem N3{R:Type}(n:Nat)(k:Nat→R):nf n k=k n:=by cases n<;>rfl
structure Eff where
 heap:Option (List Ob×List Bool):=none
 objs:List (Nat×Ob):=[]
 frz:List Nat:=[]
def AH{α:Type}(xs:List α):Int:=(xs.length:Int)
def AJ{α:Type}(xs:List α)(i:Nat)(z:α):α:=xs.getD i z
def Ai{α:Type}(xs ys:List α):List α:=xs++ys
def CL{α:Type}(n:Nat)(xs:List α):List α:=xs.take n
def Eo{α:Type}(off n:Nat)(xs:List α):List α:=(xs.drop off).take n
def Cb{α:Type}(n:Nat)(x:α):List α:=List.replicate n x
def AF(n:Int):Nat:=n.toNat
def C3{α:Type}(off n:Nat)(z:α)(xs:List α):List α:=xs.take off++(List.replicate n z++xs.drop (off+n))
def Yq:Operand→Option ByteArray
 |.const (.string s)=>some s
 |_=>none
def isConst:Operand→Bool
 |.const _=>true
 |_=>false
def bytesOf(s:ByteArray):List Int:=s.data.toList.map fun b=>(b.toNat:Int)
def LN(xs:List Int):List Int:=xs.map fun n=>((UInt8.ofNat n.toNat).toNat:Int)
def Bs(a b:Int):Int:=if b<a then b else a
def imax(a b:Int):Int:=if b > a then b else a
noncomputable def lock{α:Type}(x:α):α:=Classical.choose (⟨x,rfl⟩:∃ y,y=x)
theorem AB{α:Type}(x:α):lock x=x:=Classical.choose_spec (⟨x,rfl⟩:∃ y,y=x)
class Lk where
 f:{α:Type}→α→α
noncomputable instance lockI:Lk:=⟨fun x=>lock x⟩
abbrev idI:Lk:=⟨fun x=>x⟩
theorem X0:lockI=idI:=by unfold lockI idI;congr;funext α x;exact AB x
def YI{α:Type}(xs:List α)(i:Int):Option α:=if i<0 then none else xs[i.toNat]?
def idx[Lk]{α:Type}(xs:List α)(i:Int):Option α:=Lk.f (YI xs i)
theorem idx_eq{α:Type}(xs:List α)(i:Int):idx xs i=YI xs i:=AB _
def ABq{α:Type}(xs:List α)(l h:Int):Option (List α):=
 if 0≤l∧l≤h∧h≤xs.length then some ((xs.take h.toNat).drop l.toNat)else none
def CE[Lk]{α:Type}(xs:List α)(l h:Int):Option (List α):=Lk.f (ABq xs l h)
theorem NF{α:Type}(xs:List α)(l h:Int):CE xs l h=ABq xs l h:=AB _
def ilt[Lk](a b:Int):Bool:=Lk.f (decide (a<b))
def ile[Lk](a b:Int):Bool:=Lk.f (decide (a≤b))
def ieq[Lk](a b:Int):Bool:=Lk.f (a==b)
theorem Ab(a b:Int):ilt a b=decide (a<b):=AB _
theorem Ao(a b:Int):ile a b=decide (a≤b):=AB _
theorem Db(a b:Int):ieq a b=(a==b):=AB _
def Ad6(a b:List Int):Bool:=a==b
def seq?[Lk](a b:List Int):Bool:=Lk.f (Ad6 a b)
theorem seq_eq(a b:List Int):seq? a b=Ad6 a b:=AB _
def BS:(t:Ty)→t.den→List AV
 |.unit,_=>[]
 |.bool,b=>[.data .bool b]
 |.int k,n=>[.data (.int k) n]
 |.slice e,xs=>[.data (.slice e) xs]
 |.prod a b,d=>BS a d.1++BS b d.2
 |.arr n e,xs=>(List.range n).flatMap fun i=>BS e (AJ xs i e.zero)
 |.nul e,_=>[.nils e]
 |.mapi j e,es=>[.data (.mapi j e) es]
def zeroCells:Ty→List AV
 |.unit=>[]
 |.bool=>[.data .bool false]
 |.int k=>[.data (.int k) (0:Int)]
 |.slice e=>[.nils e]
 |.prod a b=>zeroCells a++zeroCells b
 |.arr n e=>(List.replicate n (zeroCells e)).flatten
 |.nul e=>[.nils e]
 |.mapi _ _=>[.CA]
def Ot(k:IntKind):List AV→Option (List Int)
 |[]=>some []
 |.data (.int j) n::r=>match decide (j=k),Ot k r with
  |true,some ns=>some (n::ns)
  |_,_=>none
 |_::_=>none
def cast{t t':Ty}(d:t.den):Option t'.den:=if h:t=t' then some (h▸d)else none
def LZ{t t':Ty}(d:List t.den):Option (List t'.den):=if h:t=t' then some (h▸d)else none
def Dy(H:List Ob)(t:Ty)(v:AV):Option (t.den×List Nat):=
 match v with
 |.data _ d=>(cast d:Option t.den).map fun x=>(x,[])
 |.clip e xs=>(cast (t:=.slice e) xs:Option t.den).map fun x=>(x,[])
 |.nils _=>match t with
  |.slice _=>some ([],[])
  |.nul _=>some ((),[])
  |_=>none
 |.own id=>match H[id]? with
  |some (.arr _ e xs)=>(cast (t:=.slice e) xs:Option t.den).map fun x=>(x,[id])
  |_=>none
 |.win id off n=>match H[id]? with
  |some (.arr _ e xs)=>(cast (t:=.slice e) (Eo off n xs):Option t.den).map fun x=>(x,[id])
  |_=>none
 |.mp id=>match H[id]? with
  |some (.rows (.map j ks) _ e xs _ none)=>(cast (t:=.mapi j (.slice e)) (List.zip (β:=List e.den) ks xs):Option t.den).map fun x=>(x,[id])
  |_=>none
 |_=>none
def QU{α:Type}(one:List AV→Option (α×List Nat×List AV)):Nat→List AV→Option (List α×List Nat×List AV)
 |0,cs=>some ([],[],cs)
 |n+1,cs=>match one cs with
  |none=>none
  |some (x,f,cs)=>match QU one n cs with
   |none=>none
   |some (xs,g,cs)=>some (x::xs,f++g,cs)
def Al(H:List Ob):(t:Ty)→List AV→Option (t.den×List Nat×List AV)
 |.unit,cs=>some ((),[],cs)
 |.bool,c::cs=>match Dy H .bool c with
  |none=>none
  |some (x,f)=>some (x,f,cs)
 |.int k,c::cs=>match Dy H (.int k) c with
  |none=>none
  |some (x,f)=>some (x,f,cs)
 |.slice e,c::cs=>match Dy H (.slice e) c with
  |none=>none
  |some (x,f)=>some (x,f,cs)
 |.prod a b,cs=>match Al H a cs with
  |none=>none
  |some (x,f,cs)=>match Al H b cs with
   |none=>none
   |some (y,g,cs)=>some ((x,y),f++g,cs)
 |.arr n e,cs=>QU (Al H e) n cs
 |.nul e,c::cs=>match Dy H (.nul e) c with
  |none=>none
  |some (x,f)=>some (x,f,cs)
 |.mapi j e,c::cs=>match Dy H (.mapi j e) c with
  |none=>none
  |some (x,f)=>some (x,f,cs)
 |_,[]=>none
def asAgg(H:List Ob)(t:Ty)(v:AV):Option (t.den×List Nat):=
 match v with
 |.data _ d=>(cast d:Option t.den).map fun x=>(x,[])
 |.agg cs=>match Al H t cs with
  |some (x,f,[])=>some (x,f)
  |_=>none
 |_=>none
def E0(H:List Ob)(t:Ty)(v:AV):Option (t.den×List Nat):=
 match t.isAgg with
 |true=>asAgg H t v
 |false=>Dy H t v
def Y3(H:List Ob)(t:Ty)(v:AV):Option (t.den×List Nat):=
 match v with
 |.own id=>match H[id]? with
  |some (.rows (.arr _) _ e xs _ none)=>(cast (t:=.slice (.slice e)) xs:Option t.den).map fun x=>(x,[id])
  |_=>E0 H t (.own id)
 |v=>E0 H t v
@[reducible] def Au:List Ty→Type
 |[]=>Unit
 |t::ts=>t.den×Au ts
abbrev Spec:=(R:Type)→List AV→List Ob→List Bool→Nat→(AV→Eff→Option R)→Option R
abbrev PV:=TypeId×List (IntKind×Int)
abbrev KM:=(R:Type)→List AV→List Ob→List Bool→Nat→(AV→Eff→Option R)→(PV→Eff→Option R)→Option R
def CJ(p:PV):PanicEntry:={ v:=Jd (some p),recovered:=false }
abbrev ZC:=(R:Type)→St→(Exit→St→Option R)→Option R
def UP(P:Program):Nat→TypeId→Option Ty
 |0,_=>none
 |n+1,t=>match P.underlying t with
  |some .bool=>some .bool
  |some (.int k)=>some (.int k)
  |some (.slice e)=>(UP P n e).map .slice
  |some (.array c e)=>(UP P n e).map (.arr c)
  |some (.struct fs)=>(fs.toList.mapM fun f=>UP P n f.type).map fun ts=>ts.foldr Ty.prod .unit
  |_=>none
def AEb(P:Program)(t:TypeId):Option Ty:=UP P 12 t
def sliceAt(P:Program)(t:TypeId):Option (TypeId×Ty):=
 match P.underlying t with
 |some (.slice e)=>match AEb P e with
  |some x=>match decide (0<x.size)with
   |true=>some (e,x)
   |false=>none
  |none=>none
 |_=>none
def EZ(P:Program)(t:TypeId):Option Bool:=
 match P.underlying t with
 |some (.struct _)=>some true
 |some (.array _ _)=>some true
 |some _=>some false
 |none=>none
def C9:AV→Value→Bool
 |.data .bool b,.bool c=>b==c
 |.data (.int k) n,.int k' m=>(decide (k=k'))&&(n==m)
 |.nils _,.slice none 0 0=>true
 |_,_=>false
def B1:List AV→List Value→Bool
 |[],[]=>true
 |a::asz,v::vs=>C9 a v&&B1 asz vs
 |_,_=>false
def Oo:Value→Bool
 |.agg _=>true
 |_=>false
def zeroAt(P:Program)(T:TypeId):Option (Ty×List AV):=
 match AEb P T,P.info? T with
 |some t,some i=>match i.zero with
  |some z=>if B1 (zeroCells t) z.cells.toList&&(i.size==t.size)&&(t.isAgg==Oo z)then some (t,zeroCells t)else none
  |none=>none
 |_,_=>none
def AGZ:Value→AV
 |.bool b=>.data .bool b
 |.int k n=>.data (.int k) n
 |.slice none 0 0=>.nils .unit
 |.pointer none=>.nilp
 |.string s=>.str (bytesOf s)
 |.nilIface=>.ifc none
 |_=>.CA
def An(tmps:Tm):Operand→AV
 |.tmp t=>tmps.f t
 |.const v=>AGZ v
 |.func f=>.clo f []
 |.global g=>.glob g
def cells? : AV→Option (List AV)
 |.CA=>none
 |.tup _=>none
 |.data .unit _=>some []
 |.data (.prod a b) d=>some (BS (.prod a b) d)
 |.data (.arr n e) d=>some (BS (.arr n e) d)
 |.agg cs=>some cs
 |v=>some [v]
noncomputable def ATG[Lk](op:BinOp)(k:IntKind)(a b:Int):Option AV:=
 match op with
 |.add=>some (.data (.int k) (k.wrap (a+b)))
 |.sub=>some (.data (.int k) (k.wrap (a-b)))
 |.mul=>some (.data (.int k) (k.wrap (a*b)))
 |.and=>some (.data (.int k) (k.wrap (BitVec.ofInt k.bits a &&& BitVec.ofInt k.bits b).toNat))
 |.or=>some (.data (.int k) (k.wrap (BitVec.ofInt k.bits a ||| BitVec.ofInt k.bits b).toNat))
 |.xor=>some (.data (.int k) (k.wrap (BitVec.ofInt k.bits a ^^^ BitVec.ofInt k.bits b).toNat))
 |.andNot=>some (.data (.int k) (k.wrap (BitVec.ofInt k.bits a &&& ~~~(BitVec.ofInt k.bits b)).toNat))
 |.eql=>some (.data .bool (ieq a b))
 |.neq=>some (.data .bool (!(ieq a b)))
 |.lss=>some (.data .bool (ilt a b))
 |.leq=>some (.data .bool (ile a b))
 |.gtr=>some (.data .bool (ilt b a))
 |.geq=>some (.data .bool (ile b a))
 |_=>none
def AFM(k:IntKind)(a b:Int):Option Int:=if b=0 then none else some (k.wrap (a.tdiv b))
def quo?[Lk](k:IntKind)(a b:Int):Option Int:=Lk.f (AFM k a b)
theorem OT(k:IntKind)(a b:Int):quo? k a b=AFM k a b:=AB _
def AP6(a b:Int):Option Int:=if b=0 then none else some (a.tmod b)
def rem?[Lk](a b:Int):Option Int:=Lk.f (AP6 a b)
theorem XT(a b:Int):rem? a b=AP6 a b:=AB _
def AYR(k:IntKind)(a b:Int):Option Int:=if b<0 then none else some (k.wrap (a*2 ^ min b.toNat k.bits))
def shl?[Lk](k:IntKind)(a b:Int):Option Int:=Lk.f (AYR k a b)
theorem AEz(k:IntKind)(a b:Int):shl? k a b=AYR k a b:=AB _
def AIz(k:IntKind)(a b:Int):Option Int:=if b<0 then none else some (a.fdiv (2 ^ min b.toNat k.bits))
def shr?[Lk](k:IntKind)(a b:Int):Option Int:=Lk.f (AIz k a b)
theorem Rr(k:IntKind)(a b:Int):shr? k a b=AIz k a b:=AB _
def ALS(n:Int):Bool:=Nat.ble n.toNat 4294967296
theorem Sg(n:Int):ALS n=true↔n≤4294967296:=by unfold ALS;simp
def fits[Lk](n:Int):Bool:=Lk.f (ALS n)
theorem Als(n:Int):fits n=ALS n:=AB _
theorem FN(n:Int):fits n=true↔n≤4294967296:=by rw[Als,Sg]
def AGG(n:Int):Bool:=decide (0≤n)&&Nat.ble n.toNat 4294967296
theorem AR3(n:Int):AGG n=true↔0≤n∧n≤4294967296:=by unfold AGG;simp
def Bq[Lk](n:Int):Bool:=Lk.f (AGG n)
theorem AhM(n:Int):Bq n=AGG n:=AB _
theorem Hy(n:Int):Bq n=true↔0≤n∧n≤4294967296:=by rw[AhM,AR3]
def K0(P:Program)(t:TypeId):Option IntKind:=
 match P.underlying t with
 |some (.int k)=>some k
 |_=>none
def Dj(cs new:List AV)(off:Nat):Option (List AV):=
 if off+new.length≤cs.length then some (cs.take off++new++cs.drop (off+new.length))else none
def Ep(place:Nat→Option (Nat×Nat)):List (Nat×AV)→List AV→Option (List AV)
 |[],cs=>some cs
 |(i,v)::rest,cs=>match place i with
  |none=>none
  |some (off,size)=>match cells? v with
   |none=>none
   |some vs=>match decide (vs.length=size)with
    |false=>none
    |true=>match Dj cs vs off with
     |none=>none
     |some cs=>Ep place rest cs
def fieldAt(P:Program)(T:TypeId)(f:Nat):Option (Nat×Nat×Bool):=
 match P.underlying T with
 |some (.struct fs)=>match fs[f]? with
  |some f=>match P.info? f.type,EZ P f.type with
   |some i,some ag=>some (f.offset,i.size,ag)
   |_,_=>none
  |none=>none
 |_=>none
def elemAt(P:Program)(T:TypeId):Option (Nat×Bool):=
 match P.underlying T with
 |some (.array _ e)=>match P.info? e,EZ P e with
  |some i,some ag=>some (i.size,ag)
  |_,_=>none
 |_=>none
def BT(P:Program)(T:TypeId):Option Nat:=(P.info? T).map (·.size)
def cellAt(P:Program)(T:TypeId):Option TypeId:=
 match P.underlying T with
 |some (.slice e)=>match P.info? e with
  |some i=>match i.zero with
   |some z=>match decide (i.size=1)&&(decide (z.cells.size=1)&&decide (i.bytes≤1024))with
    |true=>some e
    |false=>none
   |none=>none
  |none=>none
 |_=>none
def loadCells(agg:Bool)(size:Nat)(cs:List AV):Option AV:=
 match agg with
 |true=>if size≤cs.length then some (.agg (cs.take size))else none
 |false=>cs.head?
def AR{α β:Type}[DecidableEq α](es:List (α×β))(k:α):Option β:=
 match es with
 |[]=>none
 |(a,b)::es=>if a=k then some b else AR es k
def Ae{α β:Type}[DecidableEq α](es:List (α×β))(k:α)(v:β):List (α×β):=
 match es with
 |[]=>[(k,v)]
 |(a,b)::es=>if a=k then(a,v)::es else(a,b)::Ae es k v
def G7{α β:Type}[DecidableEq α](es:List (α×β))(k:α):Option Nat:=
 match es with
 |[]=>none
 |(a,_)::es=>if a=k then some 0 else(G7 es k).map (· + 1)
def AAC{α β:Type}[DecidableEq α](es:List (α×β))(k:α):Int:=((G7 es k).getD es.length:Nat)
def AZw{α β:Type}(es:List (α×β))(i:Int)(v:β):List (α×β):=es.modify i.toNat fun e=>(e.1,v)
instance decDen:(t:Ty)→DecidableEq t.den
 |.unit=>inferInstanceAs (DecidableEq Unit)
 |.bool=>inferInstanceAs (DecidableEq Bool)
 |.int _=>inferInstanceAs (DecidableEq Int)
 |.slice e=>haveI:=decDen e;inferInstanceAs (DecidableEq (List e.den))
 |.prod a b=>@instDecidableEqProd _ _ (decDen a) (decDen b)
 |.arr _ e=>haveI:=decDen e;inferInstanceAs (DecidableEq (List e.den))
 |.nul _=>inferInstanceAs (DecidableEq Unit)
 |.mapi _ e=>haveI:=decDen e;inferInstanceAs (DecidableEq (List (Int×e.den)))
def FE(H:List Ob)(id:Nat):Bool:=
 match H[id]? with
 |some (.box _)=>true
 |_=>false
def Cu(H:List Ob)(id:Nat):Bool:=
 match H[id]? with
 |some (.arr _ _ _)=>true
 |_=>false
def F9(H:List Ob):AV→Bool
 |.data (.slice _) _=>true
 |.nils _=>true
 |.own id=>Cu H id
 |.win id _ _=>Cu H id
 |_=>false
def OC:AV→Bool
 |.agg _=>true
 |.data t _=>t.isAgg
 |_=>false
def Aq(H:List Ob)(fz:List Bool)(slot:Nat):Bool:=
 match H[slot]? with
 |some .free => !(fz.getD slot false)
 |_=>false
def AZ(fz:List Bool)(id:Nat):Bool := !(fz.getD id false)
noncomputable def GP[Lk](H:List Ob)(sz:Option Nat)(x:AV)(lo hi:Option Int):(R:Type)→(AV→Option R)→Option R:=fun _ k=>
 match x with
 |.data (.slice e) xs=>match decide (sz=some e.size)with
  |true=>match CE xs (lo.getD 0) (hi.getD (AH xs))with
   |none=>none
   |some ys=>k (.data (.slice e) ys)
  |false=>none
 |.nils e=>match sz.isSome with
  |true=>match CE ([]:List Unit) (lo.getD 0) (hi.getD 0)with
   |some _=>k (.nils e)
   |none=>none
  |false=>none
 |.own id=>match H[id]? with
  |some (.arr _ e xs)=>match decide (sz=some e.size)with
   |true=>match CE xs (lo.getD 0) (hi.getD (AH xs))with
    |none=>none
    |some ys=>k (.win id (AF (lo.getD 0)) (AF (AH ys)))
   |false=>none
  |_=>none
 |.win id off n=>match H[id]? with
  |some (.arr _ e xs)=>match decide (sz=some e.size)with
   |true=>match CE (Eo off n xs) (lo.getD 0) (hi.getD (n:Int))with
    |none=>none
    |some ys=>k (.win id (off+AF (lo.getD 0)) (AF (AH ys)))
   |false=>none
  |_=>none
 |_=>none
def ACp:AV→Option Int
 |.data (.int _) n=>some n
 |_=>none
def El(ρ:Operand→AV):Option Operand→Option (Option Int)
 |none=>some none
 |some x=>(ACp (ρ x)).map some
end Go.Pev
end
section
namespace Go.Pev
noncomputable section
structure Env where
 spec:FuncId→Spec
 loc:FuncId→Bool
 F7:FuncId→Bool
 keep:Bool:=false
 rows:Bool:=false
 arrs:Bool:=false
 pan:FuncId→Option KM:=fun _=>none
def A5:List (Nat×Ob)→List Ob→List Ob
 |[],H=>H
 |(i,o)::rest,H=>A5 rest (H.set i o)
def AY:List Nat→List Bool→List Bool
 |[],F=>F
 |i::rest,F=>AY rest (F.set i true)
structure Hints where
 fp:Nat→List (List Nat):=fun _=>[]
 loop:Nat→ZC:=fun _ _ _ _=>none
def slotsOf:Op→Nat
 |.alloc _=>1
 |.box ..=>1
 |.buildSlice ..=>1
 |.makeSlice ..=>1
 |.makeMap ..=>1
 |.slice _ _ _ _ (some _)=>1
 |.call { callee:=.builtin .append,.. }=>1
 |.call { callee:=.value _,.. }=>4
 |_=>0
def DZ(H:List Ob)(t:Ty):List (Nat×AV)→List t.den→List Nat→Option (List t.den×List Nat)
 |[],xs,fr=>some (xs,fr)
 |(i,v)::rest,xs,fr=>match E0 H t v,decide (i<xs.length)with
  |some (x,f),true=>DZ H t rest (xs.set i x) (fr++f)
  |_,_=>none
def WT(P:Program)(T:TypeId):Bool:=
 match P.underlying T with
 |some (.slice e)=>match P.underlying e with
  |some (.int .u8)=>true
  |_=>false
 |_=>false
def AUT(P:Program)(T:TypeId):Bool:=
 match P.underlying T with
 |some .string=>true
 |_=>false
def AgU(P:Program)(T:TypeId):Option Ty:=
 match P.underlying T with
 |some (.int k)=>some (.int k)
 |_=>none
def Afw(P:Program)(T:TypeId):AV:=
 match sliceAt P T with
 |some (_,t)=>.nils t
 |none=>.nils .unit
def Lv(P:Program)(t:TypeId):Bool:=
 match P.underlying t with
 |some (.int _)=>true
 |some .bool=>true
 |_=>false
def Dt(P:Program):List Field→Nat→Bool
 |[],_=>true
 | f :: fs, i => (f.name != "_") && (decide (f.offset = i) && (Lv P f.type && Dt P fs (i + 1)))
def IZ(P:Program)(t:TypeId):Bool:=
 match P.underlying t with
 |some (.int _)=>true
 |_=>false
def structEq(P:Program)(T:TypeId):Option (List Bool):=
 match P.underlying T with
 |some (.struct fs)=>match !(P.eqGuardType P.depth T)&&(!(P.stoodInHeld T)&&Dt P fs.toList 0)with
  |true=>some (fs.toList.map fun f=>IZ P f.type)
  |false=>none
 |_=>none
def Oe(P:Program):List Field→Nat→Option (List Bool)
 |[],_=>some []
 | f :: fs, i => match (f.name != "_") && decide (f.offset = i) with
  |false=>none
  |true=>match Lv P f.type with
   |true=>(Oe P fs (i+1)).map (IZ P f.type :: ·)
   |false=>match P.underlying f.type with
    |some (.struct gs)=>match !(P.stoodInHeld f.type)&&(Dt P gs.toList 0&&decide (BT P f.type=some gs.size))with
     |true=>(Oe P fs (i+gs.size)).map ((gs.toList.map fun g=>IZ P g.type) ++ ·)
     |false=>none
    |_=>none
def Rq(P:Program)(T:TypeId):Option (List Bool):=
 match P.underlying T with
 |some (.struct fs)=>match !(P.eqGuardType P.depth T) && !(P.stoodInHeld T)with
  |true=>Oe P fs.toList 0
  |false=>none
 |_=>none
def ARm(P:Program)(T:TypeId):Option Nat:=
 match P.info? T with
 |some i=>match i.zero with
  |some z=>match z.cells.toList.all fun u=>u.oneCell' with
   |true=>some z.cells.size
   |false=>none
  |none=>none
 |none=>none
def kinds? : Ty→Option (List Bool)
 |.unit=>some []
 |.prod (.int _) r=>(kinds? r).map (true :: ·)
 |.prod .bool r=>(kinds? r).map (false :: ·)
 |_=>none
def P5(P:Program)(T:TypeId):Option Ty:=
 match P.underlying T with
 |some (.array n e)=>match decide (n=2),P.underlying e,decide (BT P e=some 1)with
  |true,some (.int k),true=>some (.prod (.int k) (.prod (.int k) .unit))
  |_,_,_=>none
 |_=>none
def X8(P:Program)(T:TypeId):Option Ty:=
 match AgU P T with
 |some t=>some t
 |none=>match structEq P T,AEb P T with
  |some n,some t=>match decide (kinds? t=some n)with
   |true=>some t
   |false=>none
  |_,_=>P5 P T
noncomputable def BJ[Lk]:List Bool→List AV→List AV→Option Bool
 |[],[],[]=>some true
 |true::ks,.data (.int j) a::cs,.data (.int j') b::ds=>match decide (j=j'),BJ ks cs ds with
  |true,some r=>some (ieq a b&&r)
  |_,_=>none
 |false::ks,.data .bool a::cs,.data .bool b::ds=>match BJ ks cs ds with
  |some r=>some ((a==b)&&r)
  |none=>none
 |_,_,_=>none
def Aed(P:Program)(T:TypeId):Option (List AV):=
 match P.info? T,P.underlying T with
 |some i,some (.struct fs)=>match i.zero with
  |some z=>match(z.cells.toList.all fun u=>u.oneCell')&&fs.toList.all fun f=>(P.info? f.type).isSome with
   |true=>some (List.replicate z.cells.size .CA)
   |false=>none
  |none=>none
 |_,_=>none
def Amr(E:Env)(t:Ty):Option (Nat×Ty):=
 match E.arrs,t with
 |true,.arr n e=>match decide (0<n)&&(Nat.ble n 4294967296&&decide (0<e.size))with
  |true=>some (n,e)
  |false=>none
 |_,_=>none
def Y4(H:List Ob)(n:Nat)(v:AV):Option (Nat×Nat×Int):=
 match v with
 |.aptr id n'=>match H[id]? with
  |some (.arr _ t xs)=>match decide (n'=n)with
   |true=>some (id,t.size,AH xs)
   |false=>none
  |_=>none
 |_=>none
def gAt:AV→Option (IntKind×List Int)
 |.glob g=>(AGB.find? fun p=>p.1==g).map (·.2)
 |_=>none
def Of(P:Program)(E:Env)(e:TypeId)(t:Ty)(n:Nat):Ob:=
 match E.rows,sliceAt P e with
 |true,some (e2,t2)=>.rows (.arr e) e2 t2 (Cb n []) 0 none
 |_,_=>.arr e (t.made E.keep) (Cb n (t.made E.keep).zero)
def Si[Lk](P:Program)(E:Env)(R:Type)(c:Operand)(a:Operand)(b:Operand)(ty:TypeId)(ρ:Operand→AV)(H:List Ob)(fz:List Bool)(slot:Nat)(k:AV→Eff→Option R):Option R:=
 match ρ c with
  |.data .bool true=>k (ρ a) {}
  |.data .bool false=>k (ρ b) {}
  |_=>none
def Nf[Lk](P:Program)(E:Env)(R:Type)(T:TypeId)(ty:TypeId)(ρ:Operand→AV)(H:List Ob)(fz:List Bool)(slot:Nat)(k:AV→Eff→Option R):Option R:=
 match zeroAt P T with
  |some (t,cs)=>(match Aq H fz slot with
   |true=>(match Amr E t with
    |some (n,e)=>k (.aptr slot n) { objs:=[(slot,.arr T e (Cb n e.zero))] }
    |none=>k (.ptr slot 0) { objs:=[(slot,.box cs)] })
   |false=>none)
  |none=>match ARm P T with
   |some n=>(match Aq H fz slot with|true=>k (.ptr slot 0) { objs:=[(slot,.box (List.replicate n .CA))] }|false=>none)
   |none=>none
def ALY[Lk](P:Program)(E:Env)(R:Type)(T:TypeId)(x:Operand)(ty:TypeId)(ρ:Operand→AV)(H:List Ob)(fz:List Bool)(slot:Nat)(k:AV→Eff→Option R):Option R:=
 match BT P T with
  |some n=>match cells? (ρ x)with
   |some vs=>match decide (vs.length=n)with
    |true=>(match Aq H fz slot with|true=>k (.ptr slot 0) { objs:=[(slot,.box vs)] }|false=>none)
    |false=>none
   |none=>none
  |none=>none
def LF[Lk](P:Program)(E:Env)(R:Type)(T:TypeId)(parts:Array (Nat×Operand))(ty:TypeId)(ρ:Operand→AV)(H:List Ob)(fz:List Bool)(slot:Nat)(k:AV→Eff→Option R):Option R:=
 match zeroAt P T with
  |some (_,cs)=>match P.underlying T with
   |some (.struct fs)=>match Ep (fun i=>match fs[i]? with
     |some f=>(BT P f.type).map fun n=>(f.offset,n)
     |none=>none) (parts.toList.map fun p=>(p.1,ρ p.2)) cs with
    |some cs=>k (.agg cs) {}
    |none=>none
   |some (.array _ e)=>match BT P e with
    |some n=>match Ep (fun i=>some (i*n,n)) (parts.toList.map fun p=>(p.1,ρ p.2)) cs with
     |some cs=>k (.agg cs) {}
     |none=>none
    |none=>none
   |_=>none
  |none=>match Aed P T,P.underlying T with
   |some cs,some (.struct fs)=>match Ep (fun i=>match fs[i]? with
     |some f=>(BT P f.type).map fun n=>(f.offset,n)
     |none=>none) (parts.toList.map fun p=>(p.1,ρ p.2)) cs with
    |some cs=>k (.agg cs) {}
    |none=>none
   |_,_=>none
def EF[Lk](P:Program)(E:Env)(R:Type)(T:TypeId)(len:Nat)(parts:Array (Nat×Operand))(ty:TypeId)(ρ:Operand→AV)(H:List Ob)(fz:List Bool)(slot:Nat)(k:AV→Eff→Option R):Option R:=
 match sliceAt P T with
  |some (e,t)=>match zeroAt P e with
   |some _=>match decide (len*t.size≤16777216)with
    |true=>match DZ H t (parts.toList.map fun p=>(p.1,ρ p.2)) (List.replicate len t.zero) []with
     |some (xs,fr)=>(match Aq H (AY fr fz) slot with|true=>k (.own slot) { objs:=[(slot,.arr e t xs)],frz:=fr }|false=>none)
     |none=>none
    |false=>none
   |none=>none
  |none=>match cellAt P T,decide (len=1),parts.toList.map (fun p=>(p.1,ρ p.2))with
   |some e,true,[p]=>match p.2 with
    |.eptr tgt i sub=>match decide (p.1=0)&&(decide (sub=0)&&Cu H tgt)with
     |true=>(match Aq H fz slot with|true=>k (.own slot) { objs:=[(slot,.prs e tgt [Int.ofNat i])] }|false=>none)
     |false=>none
    |_=>none
   |_,_,_=>none
def Jh[Lk](P:Program)(E:Env)(R:Type)(T:TypeId)(a:Operand)(ty:TypeId)(ρ:Operand→AV)(H:List Ob)(fz:List Bool)(slot:Nat)(k:AV→Eff→Option R):Option R:=
 match BT P T,EZ P T with
  |some n,some ag=>match ρ a with
   |.ptr id off=>match H[id]? with
    |some (.box cs)=>match loadCells ag n (cs.drop off)with
     |some v=>k v {}
     |none=>none
    |_=>none
   |.dptr cs=>match loadCells ag n cs with
    |some v=>k v {}
    |none=>none
   |.eptr id i sub=>match H[id]? with
    |some (.arr _ t xs)=>match loadCells ag n ((BS t (AJ xs i t.zero)).drop sub)with
     |some v=>k v {}
     |none=>none
    |some (.prs _ tgt is)=>match(n==1)&&((sub==0) && !ag)with
     |true=>k (.eptr tgt (AF (AJ is i 0)) 0) {}
     |false=>none
    |some (.rows (.arr _) _ _ _ ver none)=>match(n==1)&&((sub==0) && !ag)with
     |true=>k (.rowp id i ver) {}
     |false=>none
    |_=>none
   |_=>none
  |_,_=>none
def GW[Lk](P:Program)(E:Env)(R:Type)(T:TypeId)(a:Operand)(x:Operand)(ty:TypeId)(ρ:Operand→AV)(H:List Ob)(fz:List Bool)(slot:Nat)(k:AV→Eff→Option R):Option R:=
 match BT P T,cells? (ρ x)with
  |some n,some vs=>match decide (vs.length=n)with
   |false=>none
   |true=>match ρ a with
    |.ptr id off=>match H[id]? with
     |some (.box cs)=>match Dj cs vs off with
      |some cs=>k .CA { objs:=[(id,.box cs)] }
      |none=>none
     |_=>none
    |.eptr id i sub=>match H[id]? with
     |some (.arr T' t xs)=>match t.nul? with
      |some e=>match(sub==0)&&(n==1)with
       |true=>match E0 H (.slice e) (ρ x)with
        |some (y,fr)=>match AZ (AY fr fz) id with
         |true=>k .CA { objs:=[(id,.arr T' (.slice e) (AX (Cb (List.length (α:=t.den) xs) []) i y))],frz:=fr }
         |false=>none
        |none=>none
       |false=>none
      |none=>match(sub==0)&&(n==t.size)with
       |true=>match E0 H t (ρ x)with
        |some (y,fr)=>match AZ (AY fr fz) id with
         |true=>k .CA { objs:=[(id,.arr T' t (AX xs i y))],frz:=fr }
         |false=>none
        |none=>none
       |false=>match Dj (BS t (AJ xs i t.zero)) vs sub with
        |none=>none
        |some cs=>match Al H t cs with
         |some (y,fr,[])=>match AZ (AY fr fz) id with
          |true=>k .CA { objs:=[(id,.arr T' t (AX xs i y))],frz:=fr }
          |false=>none
         |_=>none
     |some (.rows (.arr T') e t xs ver (some i'))=>match ρ x,((sub==0)&&(n==1))&&AZ fz id with
      |.rowp id' j ver',true=>match decide (id=id')&&decide (ver=ver')with
       |true=>match ieq (i:Int) (i':Int)&&ieq (j:Int) (i':Int)with
        |true=>k .CA { objs:=[(id,.rows (.arr T') e t xs ver none)] }
        |false=>none
       |false=>none
      |_,_=>none
     |_=>none
    |_=>none
  |_,_=>none
def Cs[Lk](P:Program)(E:Env)(R:Type)(x:Operand)(ty:TypeId)(ρ:Operand→AV)(H:List Ob)(fz:List Bool)(slot:Nat)(k:AV→Eff→Option R):Option R:=
 match ρ x with
  |.ptr id off=>match FE H id with
   |true=>k (.ptr id off) {}
   |false=>none
  |.eptr id i s=>match Cu H id with
   |true=>k (.eptr id i s) {}
   |false=>none
  |.dptr cs=>k (.dptr cs) {}
  |.clo f cs=>k (.clo f cs) {}
  |.bnd f cs=>k (.bnd f cs) {}
  |_=>none
def Cm[Lk](P:Program)(E:Env)(R:Type)(op:BinOp)(T:TypeId)(x:Operand)(y:Operand)(ty:TypeId)(ρ:Operand→AV)(H:List Ob)(fz:List Bool)(slot:Nat)(k:AV→Eff→Option R):Option R:=
 match Rq P T with
  |some n=>match cells? (ρ x),cells? (ρ y),OC (ρ x)&&OC (ρ y)with
   |some cs,some ds,true=>match BJ n cs ds,op with
    |some b,.eql=>k (.data .bool b) {}
    |some b,.neq=>k (.data .bool (!b)) {}
    |_,_=>none
   |_,_,_=>none
  |none=>match ρ x,ρ y with
   |.data (.int j) a,.data (.int j') b=>match op with
    |.shl=>match shl? j a b with
     |some n=>k (.data (.int j) n) {}
     |none=>none
    |.shr=>match shr? j a b with
     |some n=>k (.data (.int j) n) {}
     |none=>none
    |.quo=>match decide (j=j')with
     |true=>match quo? j a b with
      |some n=>k (.data (.int j) n) {}
      |none=>none
     |false=>none
    |.rem=>match decide (j=j')with
     |true=>match rem? a b with
      |some n=>k (.data (.int j) n) {}
      |none=>none
     |false=>none
    |op=>match decide (j=j'),ATG op j a b with
     |true,some v=>k v {}
     |_,_=>none
   |.data .bool a,.data .bool b=>match op,P.underlying T with
    |.eql,some .bool=>k (.data .bool (a==b)) {}
    |.neq,some .bool=>k (.data .bool (!(a==b))) {}
    |_,_=>none
   |.str a,.str b=>match op with
    |.eql=>k (.data .bool (seq? a b)) {}
    |.neq=>k (.data .bool (!(seq? a b))) {}
    |_=>none
   |.ifc a,.ifc none=>match op,P.underlying T,isConst y with
    |.eql,some (.interface _),true=>k (.data .bool a.isNone) {}
    |.neq,some (.interface _),true=>k (.data .bool (!a.isNone)) {}
    |_,_,_=>none
   |_,_=>none
def Sh[Lk](P:Program)(E:Env)(R:Type)(op:UnOp)(x:Operand)(ty:TypeId)(ρ:Operand→AV)(H:List Ob)(fz:List Bool)(slot:Nat)(k:AV→Eff→Option R):Option R:=
 match op,ρ x with
  |.not,.data .bool b=>k (.data .bool (!b)) {}
  |.neg,.data (.int j) n=>k (.data (.int j) (j.wrap (0-n))) {}
  |_,_=>none
def GD[Lk](P:Program)(E:Env)(R:Type)(src:TypeId)(dst:TypeId)(x:Operand)(ty:TypeId)(ρ:Operand→AV)(H:List Ob)(fz:List Bool)(slot:Nat)(k:AV→Eff→Option R):Option R:=
 match ρ x,(P.underlying src).isSome,K0 P dst with
  |.data (.int _) n,true,some j=>k (.data (.int j) (j.wrap n)) {}
  |x,_,_=>match WT P src,AUT P dst with
   |true,true=>match E0 H (.slice (.int .u8)) x with
    |some (xs,_)=>k (.str (LN xs)) {}
    |none=>none
   |_,_=>none
def Eb[Lk](P:Program)(E:Env)(R:Type)(T:TypeId)(x:Operand)(ty:TypeId)(ρ:Operand→AV)(H:List Ob)(fz:List Bool)(slot:Nat)(k:AV→Eff→Option R):Option R:=
 match P.underlying T,OC (ρ x),(cells? (ρ x)).bind AK5 with
  |some (.struct _),true,some l=>k (.ifc (some (T,l))) {}
  |_,_,_=>none
def EE[Lk](P:Program)(E:Env)(R:Type)(x:Operand)(T:TypeId)(ok:Bool)(ty:TypeId)(ρ:Operand→AV)(H:List Ob)(fz:List Bool)(slot:Nat)(k:AV→Eff→Option R):Option R:=
 match P.underlying T,zeroAt P T,ρ x with
  |some (.struct _),some (t,cs),.ifc o=>match ok&&t.isAgg with
   |true=>match o with
    |none=>k (.tup [.agg cs,.data .bool false]) {}
    |some (T',l)=>match decide (T'=T)with
     |true=>k (.tup [.agg (l.map fun p=>.data (.int p.1) p.2),.data .bool true]) {}
     |false=>k (.tup [.agg cs,.data .bool false]) {}
   |false=>none
  |_,_,_=>none
def En[Lk](P:Program)(E:Env)(R:Type)(f:FuncId)(first:Array Operand)(cs:Array Operand)(ty:TypeId)(ρ:Operand→AV)(H:List Ob)(fz:List Bool)(slot:Nat)(k:AV→Eff→Option R):Option R:=
 match first.toList with
  |[]=>k (.clo f (cs.toList.map ρ)) {}
  |x::xs=>match cs.toList with
   |[]=>k (.bnd f ((x::xs).map ρ)) {}
   |_::_=>none
def Hz[Lk](P:Program)(E:Env)(R:Type)(T:TypeId)(ty:TypeId)(ρ:Operand→AV)(H:List Ob)(fz:List Bool)(slot:Nat)(k:AV→Eff→Option R):Option R:=
 match P.underlying T with
  |some (.map a b)=>match E.rows,K0 P a,sliceAt P b with
   |true,some j,some (e,t)=>(match Aq H fz slot with|true=>k (.mp slot) { objs:=[(slot,.rows (.map j []) e t [] 0 none)] }|false=>none)
   |_,_,_=>match X8 P a,AEb P b with
   |some a,some b=>(match Aq H fz slot with|true=>k (.mp slot) { objs:=[(slot,.map a b [])] }|false=>none)
   |_,_=>none
  |_=>none
def Gv[Lk](P:Program)(E:Env)(R:Type)(T:TypeId)(l:Operand)(c:Operand)(ty:TypeId)(ρ:Operand→AV)(H:List Ob)(fz:List Bool)(slot:Nat)(k:AV→Eff→Option R):Option R:=
 match sliceAt P T with
  |some (e,t)=>match zeroAt P e,ρ l,ρ c with
   |some _,.data (.int _) l,.data (.int _) c=>match Bq l&&Bq c&&ile l c&&decide (((P.info? e).map (·.bytes)).getD 65537≤65536)with
    |true=>(match Aq H fz slot with|true=>k (.own slot) { objs:=[(slot,Of P E e t (AF l))] }|false=>none)
    |false=>none
   |_,_,_=>none
  |none=>none
def Cl[Lk](P:Program)(E:Env)(R:Type)(T:TypeId)(x:Operand)(lo:Option Operand)(hi:Option Operand)(mx:Option Operand)(ty:TypeId)(ρ:Operand→AV)(H:List Ob)(fz:List Bool)(slot:Nat)(k:AV→Eff→Option R):Option R:=
 match P.underlying T with
  |some (.slice e)=>match mx with
   |none=>match El ρ lo,El ρ hi with
    |some lo,some hi=>GP H (BT P e) (ρ x) lo hi R fun v=>k v {}
    |_,_=>none
   |some m=>match hi with
    |some (.tmp h)=>match El ρ lo,ACp (ρ (.tmp h)),ACp (ρ m)with
     |some lo,some n,some n'=>match ρ x with
      |.data (.slice t) xs=>match decide (BT P e=some t.size)with
       |true=>match ieq n n' with
        |true=>match CE xs (lo.getD 0) n with
         |none=>none
         |some ys=>k (.clip t ys) {}
        |false=>none
       |false=>none
      |_=>none
     |_,_,_=>none
    |hi=>match El ρ lo,El ρ hi,ACp (ρ m),sliceAt P T with
     |some none,some (some 0),some 0,some (_,t)=>match F9 H (ρ x),BT P e with
      |true,some _=>(match Aq H fz slot with|true=>k (.own slot) { objs:=[(slot,.arr e t [])] }|false=>none)
      |_,_=>none
     |_,_,_,_=>none
  |some (.array n e)=>match mx,El ρ lo,El ρ hi,ρ x with
   |none,some lo,some hi,.aptr id n'=>match H[id]? with
    |some (.arr _ t xs)=>match decide (n'=n)&&decide (BT P e=some t.size)with
     |true=>match CE xs (lo.getD 0) (hi.getD (AH xs))with
      |none=>none
      |some ys=>k (.win id (AF (lo.getD 0)) (AF (AH ys))) {}
     |false=>none
    |_=>none
   |_,_,_,_=>none
  |_=>none
def C8[Lk](P:Program)(E:Env)(R:Type)(T:TypeId)(x:Operand)(f:Nat)(ty:TypeId)(ρ:Operand→AV)(H:List Ob)(fz:List Bool)(slot:Nat)(k:AV→Eff→Option R):Option R:=
 match fieldAt P T f with
  |none=>none
  |some (off,size,_)=>match decide (size=0)with
   |true=>none
   |false=>match ρ x with
    |.ptr id o=>match FE H id with
     |true=>k (.ptr id (o+off)) {}
     |false=>none
    |.eptr id i s=>match Cu H id with
     |true=>k (.eptr id i (s+off)) {}
     |false=>none
    |.dptr cs=>k (.dptr (cs.drop off)) {}
    |_=>none
def Qu[Lk](P:Program)(E:Env)(R:Type)(T:TypeId)(x:Operand)(f:Nat)(ty:TypeId)(ρ:Operand→AV)(H:List Ob)(fz:List Bool)(slot:Nat)(k:AV→Eff→Option R):Option R:=
 match fieldAt P T f with
  |none=>none
  |some (off,size,ag)=>match cells? (ρ x),OC (ρ x)with
   |some vs,true=>match loadCells ag size (vs.drop off)with
    |some v=>k v {}
    |none=>none
   |_,_=>none
def BY[Lk](P:Program)(E:Env)(R:Type)(T:TypeId)(x:Operand)(i:Operand)(ty:TypeId)(ρ:Operand→AV)(H:List Ob)(fz:List Bool)(slot:Nat)(k:AV→Eff→Option R):Option R:=
 match P.underlying T,ρ i with
  |some (.slice e),.data (.int _) i=>match ρ x with
   |.data (.slice t) xs=>match decide (BT P e=some t.size)with
    |true=>match idx xs i with
     |some d=>k (.dptr (BS t d)) {}
     |none=>none
    |false=>none
   |.own id=>match H[id]? with
    |some (.arr _ t xs)=>match decide (BT P e=some t.size)with
     |true=>match idx xs i with
      |some _=>k (.eptr id (AF i) 0) {}
      |none=>none
     |false=>none
    |some (.prs _ _ is)=>match decide (BT P e=some 1)with
     |true=>match idx is i with
      |some _=>k (.eptr id (AF i) 0) {}
      |none=>none
     |false=>none
    |some (.rows (.arr _) _ _ xs _ _)=>match decide (BT P e=some 1)with
     |true=>match idx xs i with
      |some _=>k (.eptr id (AF i) 0) {}
      |none=>none
     |false=>none
    |_=>none
   |.win id off n=>match H[id]? with
    |some (.arr _ t xs)=>match decide (BT P e=some t.size)with
     |true=>match idx (Eo off n xs) i with
      |some _=>k (.eptr id (off+AF i) 0) {}
      |none=>none
     |false=>none
    |_=>none
   |_=>none
  |some (.array n e),.data (.int _) i=>match Y4 H n (ρ x)with
   |some (id,s,len)=>match decide (BT P e=some s)with
    |true=>match ile 0 i&&(ilt i (n:Int)&&ilt i len)with
     |true=>k (.eptr id (AF i) 0) {}
     |false=>none
    |false=>none
   |none=>match gAt (ρ x)with
   |some (kk,ns)=>match decide (BT P e=some 1)with
    |true=>match ile 0 i&&(ilt i (n:Int)&&ilt i (AH ns))with
     |true=>k (.dptr [.data (.int kk) (AJ ns (AF i) 0)]) {}
     |false=>none
    |false=>none
   |none=>match BT P e,decide (0≤i∧i<(n:Int))with
   |some s,true=>match ρ x with
    |.ptr id o=>match FE H id with
     |true=>k (.ptr id (o+i.toNat*s)) {}
     |false=>none
    |.eptr id j o=>match Cu H id with
     |true=>k (.eptr id j (o+i.toNat*s)) {}
     |false=>none
    |.dptr cs=>k (.dptr (cs.drop (i.toNat*s))) {}
    |_=>none
   |_,_=>none
  |_,_=>none
def LD[Lk](P:Program)(E:Env)(R:Type)(T:TypeId)(x:Operand)(i:Operand)(ty:TypeId)(ρ:Operand→AV)(H:List Ob)(fz:List Bool)(slot:Nat)(k:AV→Eff→Option R):Option R:=
 match Yq x with
  |some s=>match P.underlying T,ρ i with
   |some .string,.data (.int _) i=>match idx (bytesOf s) i with
    |some b=>k (.data (.int .u8) b) {}
    |none=>none
   |_,_=>none
  |none=>match E.arrs with
   |true=>match elemAt P T,P.underlying T,ρ i with
    |some (1,false),some (.array n e),.data (.int _) i=>match cells? (ρ x),OC (ρ x),K0 P e with
     |some vs,true,some kk=>match Ot kk vs with
      |some ns=>match decide (ns.length=n)with
       |true=>match idx ns i with
        |none=>none
        |some d=>k (.data (.int kk) d) {}
       |false=>none
      |none=>none
     |_,_,_=>none
    |_,_,_=>none
   |false=>match elemAt P T,P.underlying T,ρ i with
   |some (size,ag),some (.array n _),.data (.int _) i=>match decide (0≤i∧i<(n:Int))with
    |true=>match cells? (ρ x),OC (ρ x)with
     |some vs,true=>match loadCells ag size (vs.drop (i.toNat*size))with
      |some v=>k v {}
      |none=>none
     |_,_=>none
    |false=>none
   |_,_,_=>none
def Ds[Lk](P:Program)(E:Env)(R:Type)(T:TypeId)(m:Operand)(x:Operand)(ok:Bool)(ty:TypeId)(ρ:Operand→AV)(H:List Ob)(fz:List Bool)(slot:Nat)(k:AV→Eff→Option R):Option R:=
 match P.underlying T,ρ m with
  |some (.map kt vt),.mp id=>match H[id]? with
   |some (.map a b es)=>match decide (X8 P kt=some a),zeroAt P vt with
    |true,some (b',_)=>match decide (b'=b),E0 H a (ρ x)with
     |true,some (key,_)=>match ok with
      |true=>k (.tup [.data b ((AR (α:=a.den) es key).getD b.zero),.data .bool (AR (α:=a.den) es key).isSome]) {}
      |false=>k (.data b ((AR (α:=a.den) es key).getD b.zero)) {}
     |_,_=>none
    |_,_=>none
   |some (.rows (.map j ks) e _ _ ver none)=>match decide (K0 P kt=some j),sliceAt P vt,(zeroAt P vt).isSome && !ok with
    |true,some (e',_),true=>match decide (e'=e),E0 H (.int j) (ρ x)with
     |true,some (key,_)=>k (.rowp id (G8 ks key) ver) {}
     |_,_=>none
    |_,_,_=>none
   |_=>none
  |some (.map kt vt),.data (.mapi j b) es=>match decide (K0 P kt=some j),zeroAt P vt with
   |true,some (b',_)=>match decide (b'=b) && !b.isAgg,E0 H (.int j) (ρ x)with
    |true,some (key,_)=>match ok with
     |true=>k (.tup [.data b ((AR (α:=Int) es key).getD b.zero),.data .bool (AR (α:=Int) es key).isSome]) {}
     |false=>k (.data b ((AR (α:=Int) es key).getD b.zero)) {}
    |_,_=>none
   |_,_=>none
  |_,_=>none
def Ex[Lk](P:Program)(E:Env)(R:Type)(T:TypeId)(m:Operand)(x:Operand)(v:Operand)(ty:TypeId)(ρ:Operand→AV)(H:List Ob)(fz:List Bool)(slot:Nat)(k:AV→Eff→Option R):Option R:=
 match P.underlying T,ρ m with
  |some (.map kt _),.mp id=>match H[id]? with
   |some (.map a b es)=>match decide (X8 P kt=some a),E0 H a (ρ x),E0 H b (ρ v)with
    |true,some (key,_),some (val,fr)=>k .CA { objs:=[(id,.map a b (Ae (α:=a.den) es key val))],frz:=fr }
    |_,_,_=>none
   |some (.rows (.map j ks) e t xs ver (some i'))=>match decide (K0 P kt=some j)&&AZ fz id,E0 H (.int j) (ρ x),ρ v with
    |true,some (key,_),.rowp id' i ver'=>match decide (id=id')&&decide (ver=ver')with
     |true=>match ieq (i:Int) (i':Int)&&ieq (G8 ks key:Int) (i':Int)with
      |true=>k .CA { objs:=[(id,.rows (.map j (VG ks i' key)) e t xs ver none)] }
      |false=>none
     |false=>none
    |_,_,_=>none
   |_=>none
  |_,_=>none
def MT[Lk](P:Program)(E:Env)(R:Type)(T:TypeId)(m:Operand)(x:Operand)(v:Operand)(ty:TypeId)(ρ:Operand→AV)(H:List Ob)(fz:List Bool)(slot:Nat)(k:AV→Eff→Option R):Option R:=
 match P.underlying T,ρ m with
  |some (.map kt _),.mp id=>match H[id]? with
   |some (.map a b es)=>match decide (X8 P kt=some a),E0 H a (ρ x),E0 H b (ρ v)with
    |true,some (key,_),some (val,fr)=>k .CA { objs:=[(id,.map a b (Ae (α:=a.den) es key val))],frz:=fr }
    |_,_,_=>none
   |_=>none
  |_,_=>none
def GC[Lk](P:Program)(E:Env)(R:Type)(T:TypeId)(m:Operand)(x:Operand)(ty:TypeId)(ρ:Operand→AV)(H:List Ob)(fz:List Bool)(slot:Nat)(k:AV→Eff→Option R):Option R:=
 match P.underlying T,ρ m with
  |some (.map kt vt),.mp id=>match H[id]? with
   |some (.map a b es)=>match decide (X8 P kt=some a),zeroAt P vt,E0 H a (ρ x)with
    |true,some (b',_),some (key,_)=>match decide (b'=b)with
     |true=>k (.tup [.data b ((AR (α:=a.den) es key).getD b.zero),.data (.int .i64) (AAC (α:=a.den) es key)]) { objs:=[(id,.map a b (Ae (α:=a.den) es key ((AR (α:=a.den) es key).getD b.zero)))] }
     |false=>none
    |_,_,_=>none
   |_=>none
  |_,_=>none
def FP[Lk](P:Program)(E:Env)(R:Type)(m:Operand)(s:Operand)(v:Operand)(ty:TypeId)(ρ:Operand→AV)(H:List Ob)(fz:List Bool)(slot:Nat)(k:AV→Eff→Option R):Option R:=
 match ρ m,ρ s with
  |.mp id,.data (.int .i64) i=>match H[id]? with
   |some (.map a b es)=>match E0 H b (ρ v)with
    |some (val,fr)=>match(ile (0:Int) i&&ilt i (AH es))with
     |true=>k .CA { objs:=[(id,.map a b (AZw es i val))],frz:=fr }
     |false=>none
    |none=>none
   |_=>none
  |_,_=>none
def KC[Lk](P:Program)(E:Env)(R:Type)(x:Operand)(i:Nat)(ty:TypeId)(ρ:Operand→AV)(H:List Ob)(fz:List Bool)(slot:Nat)(k:AV→Eff→Option R):Option R:=
 match ρ x with
  |.tup vs=>match vs[i]? with
   |some v=>k v {}
   |none=>none
  |_=>none
def MS[Lk](P:Program)(E:Env)(R:Type)(args:Array Operand)(argTypes:Array TypeId)(ty:TypeId)(ρ:Operand→AV)(H:List Ob)(fz:List Bool)(slot:Nat)(k:AV→Eff→Option R):Option R:=
 match args.toList,argTypes.toList with
  |[x],[T]=>match P.underlying T with
   |some (.slice _)=>match ρ x with
    |.data (.slice _) xs=>k (.data (.int .i64) (AH xs)) {}
    |.nils _=>k (.data (.int .i64) (0:Int)) {}
    |.own id=>match H[id]? with
     |some (.arr _ _ xs)=>k (.data (.int .i64) (AH xs)) {}
     |some (.prs _ _ is)=>k (.data (.int .i64) (AH is)) {}
     |_=>none
    |.win id _ n=>match Cu H id with
     |true=>k (.data (.int .i64) (n:Int)) {}
     |false=>none
    |_=>none
   |some (.map _ _)=>match ρ x with
    |.mp id=>match H[id]? with
     |some (.map _ _ es)=>k (.data (.int .i64) (AH es)) {}
     |_=>none
    |_=>none
   |_=>none
  |_,_=>none
def C1[Lk](P:Program)(E:Env)(R:Type)(args:Array Operand)(argTypes:Array TypeId)(ty:TypeId)(ρ:Operand→AV)(H:List Ob)(fz:List Bool)(slot:Nat)(k:AV→Eff→Option R):Option R:=
 match args.toList,argTypes.toList with
  |[s,x],[T,T']=>match sliceAt P T,decide (T=T')with
   |some (e,t),true=>match E0 H (.slice t) (ρ x),zeroAt P e,(P.info? e).map (fun i=>decide (i.bytes≤1024))with
    |some (ys,_),some _,some true=>match ρ s with
     |.nils _=>match fits (AH ys)with
      |true=>(match Aq H fz slot with|true=>k (.own slot) { objs:=[(slot,.arr e t ys)] }|false=>none)
      |false=>none
     |.clip _ xs=>match(LZ xs:Option (List t.den)),ys.isEmpty with
      |some xs,false=>match fits (AH xs+AH ys)with
       |true=>(match Aq H fz slot with|true=>k (.own slot) { objs:=[(slot,.arr e t (Ai xs ys))] }|false=>none)
       |false=>none
      |_,_=>none
     |.own id=>match H[id]? with
      |some (.arr e' _ xs)=>match AZ fz id&&decide (e=e')with
       |true=>match(LZ xs:Option (List t.den))with
        |some xs=>match fits (AH xs+AH ys)with
         |true=>match E.keep with
          |true=>k (.data (.slice t) (Ai xs ys)) { frz:=[id] }
          |false=>(match Aq H fz slot with|true=>k (.own slot) { objs:=[(id,.dead),(slot,.arr e t (Ai xs ys))] }|false=>none)
         |false=>none
        |none=>none
       |false=>none
      |_=>none
     |.rowp id i ver=>match H[id]? with
      |some (.rows K e' t' xs ver' none)=>match AZ fz id&&(decide (e=e')&&decide (ver=ver'))with
       |true=>match(LZ (t:=.slice t') xs:Option (List (Ty.slice t).den))with
        |some xs=>match fits (AH (AJ xs i [])+AH ys)with
         |true=>k (.rowp id i (ver+1)) { objs:=[(id,.rows K e t (K.put xs i (Ai (AJ xs i []) ys)) (ver+1) (some i))] }
         |false=>none
        |none=>none
       |false=>none
      |_=>none
     |.win id 0 n=>match H[id]? with
      |some (.arr e' _ xs)=>match AZ fz id&&decide (e=e')with
       |true=>match(LZ xs:Option (List t.den))with
        |some xs=>match fits ((n:Int)+AH ys)with
         |true=>(match Aq H fz slot with|true=>k (.own slot) { objs:=[(id,.dead),(slot,.arr e t (Ai (CL n xs) ys))] }|false=>none)
         |false=>none
        |none=>none
       |false=>none
      |_=>none
     |_=>none
    |_,_,_=>none
   |some (e,t),false=>match ρ s,ρ x,zeroAt P e,K0 P T',(P.info? e).map (fun i=>decide (i.bytes≤1024))with
    |.nils _,.data (.int _) n,some _,some _,some true=>match Bq n with
     |true=>(match Aq H fz slot with|true=>k (.own slot) { objs:=[(slot,.arr e t (Cb (AF n) t.zero))] }|false=>none)
     |false=>none
    |_,_,_,_,_=>none
   |none,true=>match cellAt P T,ρ x with
    |some e,.own ix=>match H[ix]? with
     |some (.prs e1 tgt ys)=>match decide (e1=e)with
      |true=>match ρ s with
       |.nils _=>match fits (AH ys)with
        |true=>(match Aq H fz slot with|true=>k (.own slot) { objs:=[(slot,.prs e tgt ys)] }|false=>none)
        |false=>none
       |.own id=>match H[id]? with
        |some (.prs e2 tgt2 xs)=>match decide (e2=e)&&decide (tgt2=tgt)with
         |true=>match fits (AH xs+AH ys)with
          |true=>(match Aq H fz slot with|true=>k (.own slot) { objs:=[(id,.dead),(slot,.prs e tgt (Ai xs ys))] }|false=>none)
          |false=>none
         |false=>none
        |_=>none
       |_=>none
      |false=>none
     |_=>none
    |_,_=>none
   |_,_=>none
  |_,_=>none
def AV4[Lk](P:Program)(E:Env)(R:Type)(args:Array Operand)(argTypes:Array TypeId)(ty:TypeId)(ρ:Operand→AV)(H:List Ob)(fz:List Bool)(slot:Nat)(k:AV→Eff→Option R):Option R:=
 match args.toList,argTypes.toList with
  |[x],[T]=>match P.underlying T,ρ x with
   |some (.slice _),.nils _=>k (.data (.int .i64) (0:Int)) {}
   |_,_=>none
  |_,_=>none
def AV2[Lk](P:Program)(E:Env)(R:Type)(args:Array Operand)(ty:TypeId)(ρ:Operand→AV)(H:List Ob)(fz:List Bool)(slot:Nat)(k:AV→Eff→Option R):Option R:=
 match args.toList with
  |[x,y]=>match ρ x,ρ y with
   |.data (.int j) a,.data (.int _) b=>k (.data (.int j) (Bs a b)) {}
   |_,_=>none
  |_=>none
def AV3[Lk](P:Program)(E:Env)(R:Type)(args:Array Operand)(ty:TypeId)(ρ:Operand→AV)(H:List Ob)(fz:List Bool)(slot:Nat)(k:AV→Eff→Option R):Option R:=
 match args.toList with
  |[x,y]=>match ρ x,ρ y with
   |.data (.int j) a,.data (.int _) b=>k (.data (.int j) (imax a b)) {}
   |_,_=>none
  |_=>none
def HZ[Lk](P:Program)(E:Env)(R:Type)(args:Array Operand)(argTypes:Array TypeId)(ty:TypeId)(ρ:Operand→AV)(H:List Ob)(fz:List Bool)(slot:Nat)(k:AV→Eff→Option R):Option R:=
 match args.toList,argTypes.toList with
  |[x],[T]=>match sliceAt P T with
   |some (e,t)=>match zeroAt P e with
    |some _=>match ρ x with
     |.nils _=>k .CA {}
     |.own id=>match H[id]? with
      |some (.arr e' t' xs)=>match AZ fz id&&decide (t=t')with
       |true=>k .CA { objs:=[(id,.arr e' t' (C3 0 xs.length t'.zero xs))] }
       |false=>none
      |_=>none
     |.win id off n=>match H[id]? with
      |some (.arr e' t' xs)=>match AZ fz id&&decide (t=t')with
       |true=>k .CA { objs:=[(id,.arr e' t' (C3 off n t'.zero xs))] }
       |false=>none
      |_=>none
     |_=>none
    |none=>none
   |none=>none
  |_,_=>none
def Ji[Lk](P:Program)(E:Env)(R:Type)(f:Operand)(args:Array Operand)(ty:TypeId)(ρ:Operand→AV)(H:List Ob)(fz:List Bool)(slot:Nat)(k:AV→Eff→Option R):Option R:=
 match ρ f with
  |.clo g caps=>E.spec g R (args.toList.map ρ++caps) H fz slot k
  |.bnd g fs=>E.spec g R (fs++args.toList.map ρ) H fz slot k
  |_=>none
def evalOp[Lk](P:Program)(E:Env)(R:Type)(o:Op)(ty:TypeId)(ρ:Operand→AV)(H:List Ob)(fz:List Bool)(slot:Nat)(k:AV→Eff→Option R):Option R:=
 match o with
 |.move x|.assign x=>match ρ x with
  |.nils .unit=>k (Afw P ty) {}
  |v=>k v {}
 |.pick c a b=>Si P E R c a b ty ρ H fz slot k
 |.alloc T=>Nf P E R T ty ρ H fz slot k
 |.box T x=>ALY P E R T x ty ρ H fz slot k
 |.build T parts=>LF P E R T parts ty ρ H fz slot k
 |.buildSlice T len parts=>EF P E R T len parts ty ρ H fz slot k
 |.load T a=>Jh P E R T a ty ρ H fz slot k
 |.store T a x=>GW P E R T a x ty ρ H fz slot k
 |.nilCheck x=>Cs P E R x ty ρ H fz slot k
 |.binOp op T x y _=>Cm P E R op T x y ty ρ H fz slot k
 |.unOp op _ x=>Sh P E R op x ty ρ H fz slot k
 |.convert src dst x=>GD P E R src dst x ty ρ H fz slot k
 |.makeInterface T x=>Eb P E R T x ty ρ H fz slot k
 |.typeAssert x _ T ok=>EE P E R x T ok ty ρ H fz slot k
 |.makeFunc (.func f) first cs=>En P E R f first cs ty ρ H fz slot k
 |.makeMap T none=>Hz P E R T ty ρ H fz slot k
 |.makeSlice T l c=>Gv P E R T l c ty ρ H fz slot k
 |.slice T x lo hi mx=>Cl P E R T x lo hi mx ty ρ H fz slot k
 |.fieldAddr T x f=>C8 P E R T x f ty ρ H fz slot k
 |.field T x f=>Qu P E R T x f ty ρ H fz slot k
 |.indexAddr T x i=>BY P E R T x i ty ρ H fz slot k
 |.index T x i=>LD P E R T x i ty ρ H fz slot k
 |.lookup T m x ok=>Ds P E R T m x ok ty ρ H fz slot k
 |.mapUpdate T m x v=>Ex P E R T m x v ty ρ H fz slot k
 |.insert T m x v=>MT P E R T m x v ty ρ H fz slot k
 |.mapEntry T m x=>GC P E R T m x ty ρ H fz slot k
 |.entryStore _ m s v=>FP P E R m s v ty ρ H fz slot k
 |.extract x i=>KC P E R x i ty ρ H fz slot k
 |.call { callee:=.builtin .len,args,argTypes }=>MS P E R args argTypes ty ρ H fz slot k
 |.call { callee:=.builtin .append,args,argTypes }=>C1 P E R args argTypes ty ρ H fz slot k
 |.call { callee:=.builtin .cap,args,argTypes }=>AV4 P E R args argTypes ty ρ H fz slot k
 |.call { callee:=.builtin .min,args,.. }=>AV2 P E R args ty ρ H fz slot k
 |.call { callee:=.builtin .max,args,.. }=>AV3 P E R args ty ρ H fz slot k
 |.call { callee:=.builtin .clear,args,argTypes }=>HZ P E R args argTypes ty ρ H fz slot k
 |.call { callee:=.value f,args,.. }=>Ji P E R f args ty ρ H fz slot k
 |_=>none
def St.put(s:St)(d:Option Tmp)(v:AV):St:=
 match d with
 |some d=>{ s with tmps:=s.tmps.set d v }
 |none=>s
def CH(e:Eff)(H:List Ob):List Ob:=A5 e.objs (match e.heap with
 |none=>H
 |some p=>p.1)
def EY(e:Eff)(fz:List Bool):List Bool:=AY e.frz (match e.heap with
 |none=>fz
 |some p=>p.2)
def St.app(s:St)(e:Eff):St:={ s with heap:=CH e s.heap,frz:=EY e s.frz }
def Ba:AV:=.tup []
def guarded(R:Type)(all:List Oper)(g:Option (Nat×Bool))(st:St)(yes no:St→Option R):Option R:=
 match g with
 |none=>yes st
 |some (j,want)=>match(all[j]?).bind (·.dst)with
  |none=>none
  |some d=>match st.tmps.f d with
   |.data .bool b=>match b with
    |true=>match want with
     |true=>yes { st with tmps:=st.tmps.set d (.data .bool true) }
     |false=>no { st with tmps:=st.tmps.set d (.data .bool true) }
    |false=>match want with
     |true=>no { st with tmps:=st.tmps.set d (.data .bool false) }
     |false=>yes { st with tmps:=st.tmps.set d (.data .bool false) }
   |.tup []=>no st
   |_=>none
def E7[Lk](P:Program)(E:Env)(R:Type)(all:List Oper):List Oper→Nat→St→(St→Option R)→Option R
 |[],_,st,k=>k st
 |o::rest,slot,st,k=>
  guarded R all o.guard st
   (fun st=>evalOp P E R o.op o.type (An st.tmps) st.heap st.frz slot fun v e=>E7 P E R all rest (slot+slotsOf o.op) ((st.app e).put o.dst v) k)
   (fun st=>E7 P E R all rest (slot+slotsOf o.op) (st.put o.dst Ba) k)
def B9(ops:List Oper):Nat:=(ops.map fun o=>slotsOf o.op).foldr (· + ·) 0
def St.pad(s:St)(n:Nat):St:={ s with heap:=s.heap++List.replicate n .free,frz:=s.frz++List.replicate n false }
def Fw[Lk](P:Program)(E:Env)(R:Type)(ops:List Oper)(st:St)(k:St→Option R):Option R:=
 nf st.heap.length fun n=>E7 P E R ops ops n (st.pad (B9 ops)) k
mutual
def Ag:AV→List Nat
 |.agg cs=>BF cs
 |.own id=>[id]
 |.win id _ _=>[id]
 |.ptr id _=>[id]
 |.eptr id _ _=>[id]
 |.dptr cs=>BF cs
 |.clo _ cs=>BF cs
 |.bnd _ cs=>BF cs
 |.mp id=>[id]
 |.rowp id _ _=>[id]
 |.aptr id _=>[id]
 |.tup vs=>BF vs
 |_=>[]
def BF:List AV→List Nat
 |[]=>[]
 |v::vs=>Ag v++BF vs
end
def G5(ρ:Operand→AV)(o:Op):List Nat:=o.operands.toList.flatMap fun x=>Ag (ρ x)
def Jo(ρ:Operand→AV)(o:Op):List Nat:=
 match o with
 |.move _=>[]
 |.assign _=>[]
 |.pick _ _ _=>[]
 |.extract _ _=>[]
 |.build _ _=>[]
 |.makeFunc _ _ _=>[]
 |.store T a x=>match ρ a with
  |.ptr id _=>[id]
  |_=>G5 ρ (.store T a x)
 |o=>G5 ρ o
def writer:Op→Bool
 |.store ..=>true
 |.mapUpdate ..=>true
 |.insert ..=>true
 |.mapEntry ..=>true
 |.entryStore ..=>true
 |.call { callee:=.builtin .append,.. }=>true
 |.call { callee:=.builtin .clear,.. }=>true
 |_=>false
def FD(E:Env)(ρ:Operand→AV):Op→Bool
 |.call { callee:=.value f,.. }=>match ρ f with
  |.clo g _=>E.loc g
  |.bnd g _=>E.loc g
  |_=>false
 |_=>true
def rd(φ:List Nat)(i:Nat):Bool:=φ.contains (2*i)||φ.contains (2*i+1)
def wt(φ:List Nat)(i:Nat):Bool:=φ.contains (2*i+1)
def Dg(ρ:Operand→AV)(o:Op):List Nat:=
 match o with
 |.store _ a _=>Ag (ρ a)
 |.mapUpdate _ m _ _=>Ag (ρ m)
 |.insert _ m _ _=>Ag (ρ m)
 |.mapEntry _ m _=>Ag (ρ m)
 |.entryStore _ m _ _=>Ag (ρ m)
 |.call { callee:=.builtin .append,args,.. }=>match args.toList with
  |s::_=>Ag (ρ s)
  |[]=>[]
 |.call { callee:=.builtin .clear,args,.. }=>match args.toList with
  |s::_=>Ag (ρ s)
  |[]=>[]
 |_=>[]
def within(l φ:List Nat):Bool:=l.all (rd φ)
def M5(l φ:List Nat):Bool:=l.all (wt φ)
def Q0(wr:Bool)(φ:List Nat)(slot n:Nat)(e:Eff):Bool:=
 e.heap.isNone&&(e.objs.all fun p=>(decide (slot≤p.1)&&decide (p.1<slot+n))||(wr&&wt φ p.1))&&within e.frz φ
def Bu:Op→Bool
 |.move _=>true
 |.assign _=>true
 |.pick _ _ _=>true
 |.binOp _ _ _ _ _=>true
 |.unOp _ _ _=>true
 |.extract _ _=>true
 |_=>false
def Kg(φ:List Nat):Bool:=φ.contains 1000003
def Ct:Op→Bool
 |.load _ _=>true
 |.convert _ _ _=>true
 |.fieldAddr _ _ _=>true
 |.field _ _ _=>true
 |.indexAddr _ _ _=>true
 |.index _ _ _=>true
 |.nilCheck _=>true
 |.lookup _ _ _ _=>true
 |.slice _ _ _ _ none=>true
 |.build _ _=>true
 |.makeFunc (.func _) _ _=>true
 |.call { callee:=.builtin .len,.. }=>true
 |o=>Bu o
def Li(φ:List Nat):Bool:=φ.contains 1000005
def SM(E:Env)(ρ:Operand→AV):Op→Bool
 |.call { callee:=.value f,.. }=>match ρ f with
  |.clo g _=>E.F7 g
  |.bnd g _=>E.F7 g
  |_=>false
 |_=>false
def Nl(φ:List Nat)(H:List Ob):Bool:=φ.all fun c=>match H[c/2]? with
 |some (.box cs)=>(BF cs).all (wt φ)
 |_=>true
def KT(E:Env)(ρ:Operand→AV)(o:Op)(φ:List Nat)(H:List Ob):Bool:=
 (G5 ρ o).all (wt φ)&&Nl φ H&&(φ.all fun c=>c % 2==1)&&SM E ρ o
def Pg[Lk](P:Program)(E:Env)(R:Type)(all:List Oper)(o:Oper)(φ:List Nat)(slot:Nat)(st:St)(k:St→Option R):Option R:=
 guarded R all o.guard st
  (fun st=>match Kg φ||((Li φ&&KT E (An st.tmps) o.op φ st.heap)||(!(Li φ)&&(within (Jo (An st.tmps) o.op) φ&&M5 (Dg (An st.tmps) o.op) φ&&FD E (An st.tmps) o.op)))with
   |true=>evalOp P E R o.op o.type (An st.tmps) st.heap st.frz slot fun v e=>match Kg φ||Q0 (writer o.op||Li φ) φ slot (slotsOf o.op) e with
    |true=>k ((st.app e).put o.dst v)
    |false=>none
   |false=>none)
  (fun st=>k (st.put o.dst Ba))
def I7[Lk](P:Program)(E:Env)(R:Type)(all:List Oper):List Oper→List (List Nat)→Nat→St→(St→Option R)→Option R
 |[],_,_,st,k=>k st
 |o::rest,fp,slot,st,k=>Pg P E R all o (fp.headD []) slot st fun st=>I7 P E R all rest fp.tail (slot+slotsOf o.op) st k
def apart?(ops:List Oper)(x y:Oper):Bool:=Oper.apart ops.toArray x y
def WG:Op→Op→Bool
 |.lookup _ _ _ ok,.mapEntry _ _ _ => !ok
 |_,_=>false
def indep(all:List Oper)(x y:Oper)(φx φy:List Nat)(sx sy:Nat):Bool:=
 apart? all x y&&((Kg φx&&Bu y.op)||(Kg φy&&Bu x.op)||(!(Kg φx) && !(Kg φy)&&(φy.all fun c => !(decide (sx≤c/2)&&decide (c/2<sx+slotsOf x.op)))&&(φx.all fun c => !(decide (sy≤c/2)&&decide (c/2<sy+slotsOf y.op))) &&
  (φx.all fun c=>decide (c % 2=0) || !(rd φy (c/2)))&&(φy.all fun c=>decide (c % 2=0) || !(rd φx (c/2))))||(!(Li φx)&&(!(Li φy)&&WG x.op y.op)))
def AF8(y:Oper)(i:Nat):Bool:=y.after.toList.any fun e=>Region.binds .any e&&decide (e.on=i)
def reach(all:List Oper):Nat→Oper→Nat→Bool
 |0,_,_=>false
 |n+1,y,i=>AF8 y i||y.after.toList.any fun e=>Region.binds .any e&&match all[e.on]? with
  |some z=>reach all n z i
  |none=>false
def WE(all:List Oper)(y:Oper)(φy:List Nat)(sy:Nat):List (Nat×Oper×List Nat×Nat)→Bool
 |[]=>true
 |(i,x,φx,sx)::r=>(AF8 y i||(indep all x y φx φy sx sy||reach all 8 y i))&&WE all y φy sy r
def Xu(all:List Oper):List Oper→List (List Nat)→Nat→Nat→List (Nat×Oper×List Nat×Nat)→Bool
 |[],_,_,_,_=>true
 |o::rest,fp,i,slot,acc=>WE all o (fp.headD []) slot acc&&(o.after.toList.all fun e => !Region.binds .any e||decide (e.on<i)) &&
  Xu all rest fp.tail (i+1) (slot+slotsOf o.op) ((i,o,fp.headD [],slot)::acc)
def Ej[Lk](P:Program)(E:Env)(R:Type)(fp:List (List Nat))(ops:List Oper)(st:St)(k:St→Option R):Option R:=
 nf st.heap.length fun n=>match P.follows .mixedOrders&&Xu ops ops fp 0 n []with
 |true=>I7 P E R ops ops fp n (st.pad (B9 ops)) k
 |false=>none
def Ta(E:Env)(ops:List Oper):Bool:=ops.any fun o=>match o.op with
 |.panic _=>true
 |.call { callee:=.value (.func f),.. }=>(E.pan f).isSome
 |_=>false
def TZ(E:Env)(ρ:Operand→AV)(o:Oper):Option (PV⊕(KM×List AV)):=
 match o.guard with
 |some _=>none
 |none=>match o.op with
  |.panic x=>match ρ x with
   |.ifc (some p)=>some (.inl p)
   |_=>none
  |.call { callee:=.value (.func f),args,.. }=>match E.pan f with
   |some s=>some (.inr (s,args.toList.map ρ))
   |none=>none
  |_=>none
def Ff:List Oper→St→St
 |[],st=>st
 |o::r,st=>Ff r (st.put o.dst .CA)
def jk(dr:Bool)(all:List Oper)(st:St):St:=match dr with
 |true=>Ff all st
 |false=>st
def Aen(E:Env)(o:Oper)(φ:List Nat)(st:St):Bool:=
 Kg φ||((Li φ&&KT E (An st.tmps) o.op φ st.heap)||(!(Li φ)&&(within (Jo (An st.tmps) o.op) φ&&M5 (Dg (An st.tmps) o.op) φ&&FD E (An st.tmps) o.op)))
def Bz[Lk](P:Program)(E:Env)(R:Type)(dr:Bool)(all:List Oper):List Oper→List (List Nat)→Nat→St→(Exit→St→Option R)→Option R
 |[],_,_,st,k=>k .normal st
 |o::rest,fp,slot,st,k=>match TZ E (An st.tmps) o with
  |none=>match dr with
   |true=>Pg P E R all o (fp.headD []) slot st fun st=>Bz P E R dr all rest fp.tail (slot+slotsOf o.op) st k
   |false=>guarded R all o.guard st
    (fun st=>evalOp P E R o.op o.type (An st.tmps) st.heap st.frz slot fun v e=>Bz P E R dr all rest fp.tail (slot+slotsOf o.op) ((st.app e).put o.dst v) k)
    (fun st=>Bz P E R dr all rest fp.tail (slot+slotsOf o.op) (st.put o.dst Ba) k)
  |some (.inl p)=>k (.panic [CJ p]) (jk dr all st)
  |some (.inr (s,args))=>s R args st.heap st.frz slot
   (fun v e=>match !dr||(Aen E o (fp.headD []) st&&(Kg (fp.headD [])||Q0 (writer o.op||Li (fp.headD [])) (fp.headD []) slot (slotsOf o.op) e))with
    |true=>Bz P E R dr all rest fp.tail (slot+slotsOf o.op) ((st.app e).put o.dst v) k
    |false=>none)
   (fun p e=>k (.panic [CJ p]) (jk dr all (st.app e)))
def AVR(E:Env)(all:List Oper)(i:Nat)(o:Oper):Bool:=
 match Ta E [o]with
 |false=>true
 |true=>(List.range all.length).all fun j=>match all[j]? with
  |none=>true
  |some x=>match decide (j<i)with
   |true=>reach all 8 o j||Ct x.op
   |false=>decide (j=i)||(reach all 8 x i||(x.guard.isNone&&(match x.op with
    |.move _=>true
    |_=>false)))
def IQ[Lk](P:Program)(E:Env)(R:Type)(fp:List (List Nat))(dr:Bool)(ops:List Oper)(st:St)(k:Exit→St→Option R):Option R:=
 nf st.heap.length fun n=>match !dr||(P.follows .mixedOrders&&(Xu ops ops fp 0 n []&&((List.range ops.length).all fun i=>match ops[i]? with
  |some o=>AVR E ops i o
  |none=>true)))with
 |true=>Bz P E R dr ops ops fp n (st.pad (B9 ops)) k
 |false=>none
def loops:Code→Nat
 |.seq a b=>loops a+loops b
 |.cond _ a b=>loops a+loops b
 |.block _ c=>loops c
 |.scope c=>loops c
 |.loop c=>loops c+1
 |_=>0
noncomputable def OQ(tmps:Tm)(c:Operand)(b:Bool):Tm:=
 match c with
 |.tmp t=>tmps.set t (.data .bool b)
 |_=>tmps
def Az[Lk](P:Program)(E:Env)(h:Hints)(R:Type):Code→Nat→St→(Exit→St→Option R)→Option R
 |.skip,_,st,k=>k .normal st
 |.region id ops draw,_,st,k=>match Ta E ops.toList with
  |true=>IQ P E R (h.fp id) draw ops.toList st k
  |false=>match draw with
   |false=>Fw P E R ops.toList st (k .normal)
   |true=>Ej P E R (h.fp id) ops.toList st (k .normal)
 |.seq a b,n,st,k=>Az P E h R a n st fun e st=>match e with
  |.normal=>Az P E h R b (n+loops a) st k
  |e=>k e st
 |.cond c a b,n,st,k=>match An st.tmps c with
  |.data .bool x=>match x with
   |true=>Az P E h R a n { st with tmps:=OQ st.tmps c true } k
   |false=>Az P E h R b (n+loops a) { st with tmps:=OQ st.tmps c false } k
  |_=>none
 |.block id c,n,st,k=>Az P E h R c n st fun e st=>match e with
  |.exit id'=>match decide (id'=id)with
   |true=>k .normal st
   |false=>k (.exit id') st
  |e=>k e st
 |.loop _,n,st,k=>h.loop n R st k
 |.exit id,_,st,k=>k (.exit id) st
 |.ret,_,st,k=>k .ret st
 |_,_,_,_=>none
def Pw(P:Program)(st:St):ResultVar→Option AV
 |.tmp t=>some (st.tmps.f t)
 |.cell t T=>match An st.tmps (.tmp t),BT P T,EZ P T with
  |.ptr id off,some n,some ag=>match st.heap[id]? with
   |some (.box cs)=>loadCells ag n (cs.drop off)
   |_=>none
  |_,_,_=>none
def DW(P:Program)(st:St):List ResultVar→Option (List AV)
 |[]=>some []
 |r::rs=>match Pw P st r with
  |none=>none
  |some v=>match DW P st rs with
   |none=>none
   |some vs=>some (v::vs)
end
end Go.Pev
end
section
namespace Go.Pev
noncomputable section
inductive Loc where
 |tmp (t:Nat)
 |cell (j c:Nat)
 |cap (t i:Nat)
 |obj (j:Nat)
inductive Con where
 |dat (t:Ty)
 |own (T:TypeId) (e:Ty)
 |box (n:Nat)
 |map (k v:Ty)
 |own' (j:Nat)
 |ptr' (j off:Nat)
 |map' (j:Nat)
 |win' (j:Nat)
 |sub' (j:Nat)
 |clo (f:FuncId) (ps:List (Nat×Nat))
 |bnd (f:FuncId) (j:Nat)
 |prs (T:TypeId) (j:Nat)
 |nil (e:Ty)
 |rows (T e:TypeId) (t:Ty)
 |mrows (j:IntKind) (e:TypeId) (t:Ty)
 |aptr (T:TypeId) (e:Ty) (n:Nat)
 |aptr' (j n:Nat)
 |bndp (f:FuncId) (j:Nat)
 |nilp
abbrev Con.di:Con:=.dat (.int .i64)
abbrev AD:=List (Loc×Con)
def leaves:AD→List Ty
 |[]=>[]
 |(_,.dat t)::r=>t::leaves r
 |(_,.own _ e)::r=>.slice e::leaves r
 |(_,.map k v)::r=>.slice (.prod k v)::leaves r
 |(_,.win' _)::r=>.int .i64::leaves r
 |(_,.prs _ _)::r=>.slice (.int .i64)::leaves r
 |(_,.sub' _)::r=>.int .i64 :: .int .i64::leaves r
 |(_,.rows _ _ t)::r=>.slice (.slice t)::leaves r
 |(_,.mrows j _ t)::r=>.mapi j (.slice t)::leaves r
 |(_,.aptr _ e _)::r=>.slice e::leaves r
 |(_,_)::r=>leaves r
inductive Bnd where
 |none
 |whole (id:Nat)
 |cut (id:Nat)
 deriving DecidableEq
def Bnd.id? : Bnd→Option Nat
 |.none=>Option.none
 |.whole id=>some id
 |.cut id=>some id
def AmY(H:List Ob)(j:Nat):Option AV:=
 match H[j]? with
 |some (.arr _ _ _)=>some (.own j)
 |some (.box _)=>some (.ptr j 0)
 |some (.map _ _ _)=>some (.mp j)
 |some (.prs _ _ _)=>some (.own j)
 |some (.rows (.arr _) _ _ _ _ _)=>some (.own j)
 |some (.rows (.map _ _) _ _ _ _ _)=>some (.mp j)
 |_=>none
def look(tm:Nat→Option AV)(H:List Ob)(bs:List Bnd):Loc→Option AV
 |.tmp t=>tm t
 |.cell j c=>match bs[j]? with
  |some (.whole id)=>match H[id]? with
   |some (.box cs)=>cs[c]?
   |_=>none
  |_=>none
 |.cap t i=>match tm t with
  |some (.clo _ cs)=>cs[i]?
  |some (.bnd _ cs)=>cs[i]?
  |_=>none
 |.obj j=>AmY H j
def Abp(bs:List Bnd):List AV→List (Nat×Nat)→Bool
 |[],[]=>true
 |.ptr id o::vs,(j,o')::ps=>(match bs[j]? with
  |some (.whole id')=>decide (id=id')&&decide (o=o')
  |_=>false)&&Abp bs vs ps
 |_,_=>false
def fresh?(bs:List Bnd)(id:Nat):Bool:=bs.all fun b=>match b with
 |.none=>true
 |.whole i => !(decide (i=id))
 |.cut i => !(decide (i=id))
abbrev Apn(α:Type):=Option (α×List Bnd×List Nat)
def dec(tm:Nat→Option AV)(H:List Ob):(its:AD)→List Bool→List Bnd→Apn (Au (leaves its))
 |[],_,bs=>some ((),bs,[])
 |(l,.dat t)::r,fz,bs=>match look tm H bs l with
  |some v=>match Y3 H t v with
   |some (x,f)=>match f.all (fresh? bs)with
    |true=>match dec tm H r (AY f fz) bs with
     |some (xs,bs',g)=>some ((x,xs),bs',f++g)
     |none=>none
    |false=>none
   |none=>none
  |none=>none
 |(l,.own T e)::r,fz,bs=>match look tm H bs l with
  |some (.nils _)=>match decide (0<e.size)with
   |true=>match dec tm H r fz (bs++[.none])with
    |some (xs,bs',g)=>some (([],xs),bs',g)
    |none=>none
   |false=>none
  |some (.own id)=>match H[id]?,AZ fz id&&fresh? bs id with
   |some (.arr T' e' ys),true=>match decide (T=T'),(LZ ys:Option (List e.den))with
    |true,some ys=>match dec tm H r fz (bs++[.whole id])with
     |some (xs,bs',g)=>some ((ys,xs),bs',g)
     |none=>none
    |_,_=>none
   |_,_=>none
  |some (.win id 0 n)=>match H[id]?,AZ fz id&&fresh? bs id with
   |some (.arr T' e' ys),true=>match decide (T=T'),(LZ ys:Option (List e.den))with
    |true,some ys=>match dec tm H r fz (bs++[.cut id])with
     |some (xs,bs',g)=>some ((CL n ys,xs),bs',g)
     |none=>none
    |_,_=>none
   |_,_=>none
  |_=>none
 |(l,.box n)::r,fz,bs=>match look tm H bs l with
  |some (.ptr id 0)=>match H[id]?,fresh? bs id with
   |some (.box cs),true=>match decide (cs.length=n)with
    |true=>dec tm H r fz (bs++[.whole id])
    |false=>none
   |_,_=>none
  |_=>none
 |(l,.map k v)::r,fz,bs=>match look tm H bs l with
  |some (.mp id)=>match H[id]?,fresh? bs id with
   |some (.map k' v' es),true=>match(LZ (t:=.prod k' v') es:Option (List (Ty.prod k v).den))with
    |some es=>match dec tm H r fz (bs++[.whole id])with
     |some (xs,bs',g)=>some ((es,xs),bs',g)
     |none=>none
    |_=>none
   |_,_=>none
  |_=>none
 |(l,.own' j)::r,fz,bs=>match look tm H bs l,bs[j]? with
  |some (.own id),some (.whole id')=>match decide (id=id')with
   |true=>dec tm H r fz bs
   |false=>none
  |_,_=>none
 |(l,.ptr' j off)::r,fz,bs=>match look tm H bs l,bs[j]? with
  |some (.ptr id o),some (.whole id')=>match decide (id=id')&&decide (o=off)with
   |true=>dec tm H r fz bs
   |false=>none
  |_,_=>none
 |(l,.map' j)::r,fz,bs=>match look tm H bs l,bs[j]? with
  |some (.mp id),some (.whole id')=>match decide (id=id')with
   |true=>dec tm H r fz bs
   |false=>none
  |_,_=>none
 |(l,.win' j)::r,fz,bs=>match look tm H bs l,bs[j]? with
  |some (.win id 0 n),some (.whole id')=>match decide (id=id')with
   |true=>match dec tm H r fz bs with
    |some (xs,bs',g)=>some (((n:Int),xs),bs',g)
    |none=>none
   |false=>none
  |some (.own id),some (.whole id')=>match decide (id=id'),H[id]? with
   |true,some (.arr _ _ ys)=>match dec tm H r fz bs with
    |some (xs,bs',g)=>some ((AH ys,xs),bs',g)
    |none=>none
   |_,_=>none
  |_,_=>none
 |(l,.sub' j)::r,fz,bs=>match look tm H bs l,bs[j]? with
  |some (.win id off n),some (.whole id')=>match decide (id=id')with
   |true=>match dec tm H r fz bs with
    |some (xs,bs',g)=>some (((off:Int),(n:Int),xs),bs',g)
    |none=>none
   |false=>none
  |_,_=>none
 |(l,.clo f ps)::r,fz,bs=>match look tm H bs l with
  |some (.clo f' vs)=>match decide (f=f')&&Abp bs vs ps with
   |true=>dec tm H r fz bs
   |false=>none
  |_=>none
 |(l,.bnd f j)::r,fz,bs=>match look tm H bs l,bs[j]? with
  |some (.bnd f' [.own id]),some (.whole id')=>match decide (f=f')&&decide (id=id')with
   |true=>dec tm H r fz bs
   |false=>none
  |_,_=>none
 |(l,.prs T j)::r,fz,bs=>match look tm H bs l with
  |some (.nils _)=>match dec tm H r fz (bs++[.none])with
   |some (xs,bs',g)=>some ((([]:List Int),xs),bs',g)
   |none=>none
  |some (.own id)=>match H[id]?,fresh? bs id,bs[j]? with
   |some (.prs T' tgt is),true,some (.whole tgt')=>match decide (T=T')&&decide (tgt=tgt')with
    |true=>match dec tm H r fz (bs++[.whole id])with
     |some (xs,bs',g)=>some ((is,xs),bs',g)
     |none=>none
    |false=>none
   |_,_,_=>none
  |_=>none
 |(l,.nil _)::r,fz,bs=>match look tm H bs l with
  |some (.nils _)=>dec tm H r fz bs
  |_=>none
 |(l,.rows T e t)::r,fz,bs=>match look tm H bs l with
  |some (.own id)=>match H[id]?,AZ fz id&&fresh? bs id with
   |some (.rows (.arr T') e' t' ys _ none),true=>match decide (T=T')&&decide (e=e'),(LZ (t:=.slice t') ys:Option (List (Ty.slice t).den))with
    |true,some ys=>match dec tm H r fz (bs++[.whole id])with
     |some (xs,bs',g)=>some ((ys,xs),bs',g)
     |none=>none
    |_,_=>none
   |_,_=>none
  |_=>none
 |(l,.mrows j e t)::r,fz,bs=>match look tm H bs l with
  |some (.mp id)=>match H[id]?,AZ fz id&&fresh? bs id with
   |some (.rows (.map j' ks) e' t' ys _ none),true=>match decide (j=j')&&decide (e=e'),(LZ (t:=.slice t') ys:Option (List (Ty.slice t).den))with
    |true,some ys=>match dec tm H r fz (bs++[.whole id])with
     |some (xs,bs',g)=>some ((List.zip (β:=List t.den) ks ys,xs),bs',g)
     |none=>none
    |_,_=>none
   |_,_=>none
  |_=>none
 |(l,.aptr T e n)::r,fz,bs=>match look tm H bs l with
  |some (.aptr id n')=>match H[id]?,AZ fz id&&fresh? bs id with
   |some (.arr T' e' ys),true=>match decide (T=T')&&decide (n=n'),(LZ ys:Option (List e.den))with
    |true,some ys=>match dec tm H r fz (bs++[.whole id])with
     |some (xs,bs',g)=>some ((ys,xs),bs',g)
     |none=>none
    |_,_=>none
   |_,_=>none
  |_=>none
 |(l,.bndp f j)::r,fz,bs=>match look tm H bs l,bs[j]? with
  |some (.bnd f' [.ptr id 0]),some (.whole id')=>match decide (f=f')&&decide (id=id')with
   |true=>dec tm H r fz bs
   |false=>none
  |_,_=>none
 |(l,.nilp)::r,fz,bs=>match look tm H bs l with
  |some .nilp=>dec tm H r fz bs
  |_=>none
 |(l,.aptr' j n)::r,fz,bs=>match look tm H bs l,bs[j]? with
  |some (.aptr id n'),some (.whole id')=>match decide (id=id')&&decide (n=n')with
   |true=>dec tm H r fz bs
   |false=>none
  |_,_=>none
def place(st:St)(v:AV):Loc→St
 |.tmp t=>{ st with tmps:=st.tmps.set t v }
 |.cell j c=>match st.heap[j]? with
  |some (.box cs)=>{ st with heap:=st.heap.set j (.box (cs.set c v)) }
  |_=>st
 |_=>st
def Dz(st:St)(o:Ob):St:={ st with heap:=st.heap++[o],frz:=st.frz++[false] }
def enc:(its:AD)→Au (leaves its)→St→St
 |[],_,st=>st
 |(l,.dat t)::r,d,st=>enc r d.2 (place st (.data t d.1) l)
 |(l,.own T e)::r,d,st=>enc r d.2 (place (Dz st (.arr T e d.1)) (.own st.heap.length) l)
 |(l,.box n)::r,d,st=>enc r d (place (Dz st (.box (List.replicate n .CA))) (.ptr st.heap.length 0) l)
 |(l,.map k v)::r,d,st=>enc r d.2 (place (Dz st (.map k v d.1)) (.mp st.heap.length) l)
 |(l,.own' j)::r,d,st=>enc r d (place st (.own j) l)
 |(l,.ptr' j off)::r,d,st=>enc r d (place st (.ptr j off) l)
 |(l,.map' j)::r,d,st=>enc r d (place st (.mp j) l)
 |(l,.win' j)::r,d,st=>enc r d.2 (place st (.win j 0 (AF d.1)) l)
 |(l,.sub' j)::r,d,st=>enc r d.2.2 (place st (.win j (AF d.1) (AF d.2.1)) l)
 |(l,.clo f ps)::r,d,st=>enc r d (place st (.clo f (ps.map fun p=>.ptr p.1 p.2)) l)
 |(l,.bnd f j)::r,d,st=>enc r d (place st (.bnd f [.own j]) l)
 |(l,.prs T j)::r,d,st=>enc r d.2 (place (Dz st (.prs T j d.1)) (.own st.heap.length) l)
 |(l,.nil e)::r,d,st=>enc r d (place st (.nils e) l)
 |(l,.rows T e t)::r,d,st=>enc r d.2 (place (Dz st (.rows (.arr T) e t d.1 0 none)) (.own st.heap.length) l)
 |(l,.mrows j e t)::r,d,st=>enc r d.2 (place (Dz st (.rows (.map j (List.map (α:=Int×List t.den) Prod.fst d.1)) e t (List.map (α:=Int×List t.den) Prod.snd d.1) 0 none)) (.mp st.heap.length) l)
 |(l,.aptr T e n)::r,d,st=>enc r d.2 (place (Dz st (.arr T e d.1)) (.aptr st.heap.length n) l)
 |(l,.aptr' j n)::r,d,st=>enc r d (place st (.aptr j n) l)
 |(l,.bndp f j)::r,d,st=>enc r d (place st (.bnd f [.ptr j 0]) l)
 |(l,.nilp)::r,d,st=>enc r d (place st .nilp l)
def blank(n:Nat):St:={ tmps:=⟨n,fun _=>.CA⟩,heap:=[],frz:=[] }
def encode(n:Nat)(its:AD)(d:Au (leaves its)):St:=enc its d (blank n)
def pins:Nat→Nat→List Bnd→Bool
 |0,_,_=>true
 |n+1,i,b::bs=>decide (b = .whole i)&&pins n (i+1) bs
 |_+1,_,[]=>false
def decode(np nt:Nat)(st:St)(its:AD):Option (Au (leaves its)):=
 match decide (st.tmps.n=nt)with
 |true=>match dec st.tmps.at st.heap its st.frz []with
  |some (v,bs,_)=>match pins np 0 bs&&(st.heap.take np).all BP with
   |true=>some v
   |false=>none
  |none=>none
 |false=>none
abbrev AW:=List (Exit×AD)
@[reducible] def ZB:AW→Type
 |[]=>Unit
 |o::r=>Au (leaves o.2)⊕ZB r
def XG:Exit→Exit→Bool
 |.normal,.normal=>true
 |.ret,.ret=>true
 |.exit a,.exit b=>decide (a=b)
 |_,_=>false
def Tb(np nt:Nat)(e:Exit)(st:St):(os:AW)→Option (ZB os)
 |[]=>none
 |o::r=>match XG e o.1 with
  |true=>match decode np nt st o.2 with
   |some d=>some (.inl d)
   |none=>none
  |false=>match Tb np nt e st r with
   |some x=>some (.inr x)
   |none=>none
def YS(n:Nat){R:Type}(k:Exit→St→Option R):(os:AW)→ZB os→Option R
 |[],_=>none
 |o::r,x=>match x with
  |.inl d=>k o.1 (encode n o.2 d)
  |.inr x=>YS n k r x
def AU{σ ρ:Type}(step:σ→Option (σ⊕ρ)):Nat→σ→Option ρ
 |0,_=>none
 |n+1,v=>match step v with
  |none=>none
  |some (.inl v')=>AU step n v'
  |some (.inr r)=>some r
def many:Nat:=18446744073709551616
def AL[Lk]{σ ρ:Type}(step:σ→Option (σ⊕ρ))(n:Nat)(v:σ):Option ρ:=Lk.f (AU step n v)
theorem At{σ ρ:Type}(step:σ→Option (σ⊕ρ))(n:Nat)(v:σ):AL step n v=AU step n v:=AB _
def AJV(np nt:Nat)(its:AD)(os:AW)(e:Exit)(st:St):Option (Au (leaves its)⊕ZB os):=
 match e with
 |.normal=>match decode np nt st its with
  |some d=>some (.inl d)
  |none=>none
 |e=>match Tb np nt e st os with
  |some x=>some (.inr x)
  |none=>none
def Kw[Lk](np nt:Nat)(its:AD)(os:AW)(step:Au (leaves its)→Option (Au (leaves its)⊕ZB os)):ZC:=fun R st k=>
 match decode np nt st its with
 |none=>none
 |some v=>match AL step many v with
  |none=>none
  |some r=>YS nt k os r
def roundOf[Lk](P:Program)(E:Env)(h:Hints)(n np nt:Nat)(body:Code)(its:AD)(os:AW)(v:Au (leaves its)):Option (Au (leaves its)⊕ZB os):=
 Az P E h _ body n (encode nt its v) (AJV np nt its os)
inductive RS where
 |one
 |agg (n:Nat)
def FM:List RS→List AV→Option (List AV)
 |[],[]=>some []
 |.one::r,v::vs=>match FM r vs with
  |some l=>some (v::l)
  |none=>none
 |.agg n::r,v::vs=>match OC v,cells? v with
  |true,some cs=>match decide (cs.length=n)with
   |true=>match FM r vs with
    |some l=>some (cs++l)
    |none=>none
   |false=>none
  |_,_=>none
 |_,_=>none
def D6:List RS→List AV→List AV
 |[],_=>[]
 |.one::r,vs=>vs.headD .CA::D6 r vs.tail
 |.agg n::r,vs=>.agg (vs.take n)::D6 r (vs.drop n)
def RS.cells:RS→Nat
 |.one=>1
 |.agg n=>n
def cellsOf:List RS→Nat
 |[]=>0
 |r::rs=>r.cells+cellsOf rs
def Cq:AD→Nat
 |[]=>0
 |(_,.own _ _)::r=>Cq r+1
 |(_,.box _)::r=>Cq r+1
 |(_,.map _ _)::r=>Cq r+1
 |(_,.prs _ _)::r=>Cq r+1
 |(_,.rows _ _ _)::r=>Cq r+1
 |(_,.mrows _ _ _)::r=>Cq r+1
 |(_,.aptr _ _ _)::r=>Cq r+1
 |_::r=>Cq r
def Fy:AD→Bool
 |[]=>true
 |(_,.rows _ _ _)::_=>false
 |(_,.mrows _ _ _)::_=>false
 |_::r=>Fy r
def finish(np:Nat)(P:Program)(fn:Func)(outs:AD)(rs:List RS)(st:St):Option (Au (leaves outs)):=
 match DW P st fn.results.toList with
 |some vs=>match FM rs vs with
  |some tm=>match dec (lk tm) st.heap outs st.frz []with
   |some (y,bs,_)=>match pins np 0 bs&&(st.heap.take np).all BP with
    |true=>some y
    |false=>none
   |none=>none
  |none=>none
 |none=>none
def DC[Lk](np:Nat)(P:Program)(E:Env)(h:Hints)(fn:Func)(its outs:AD)(rs:List RS)(x:Au (leaves its)):Option (Au (leaves outs)):=
 match fn.body with
 |none=>none
 |some c=>Az P E h _ c 0 (encode fn.ntmps its x) fun e st=>
  match e with
  |.normal=>finish np P fn outs rs st
  |.ret=>finish np P fn outs rs st
  |_=>none
def given:List Bnd→List Nat
 |[]=>[]
 |.whole id::bs=>id::given bs
 |_::bs=>given bs
def CY:Nat→List Bnd→Nat→List Nat
 |0,_,_=>[]
 |n+1,.whole id::bs,slot=>id::CY n bs slot
 |n+1,_::bs,slot=>slot::CY n bs (slot+1)
 |n+1,[],slot=>slot::CY n [] (slot+1)
mutual
def Di(ids:List Nat):AV→AV
 |.agg cs=>.agg (Iw ids cs)
 |.own id=>.own (ids.getD id 0)
 |.win id off n=>.win (ids.getD id 0) off n
 |.ptr id off=>.ptr (ids.getD id 0) off
 |.eptr id i s=>.eptr (ids.getD id 0) i s
 |.dptr cs=>.dptr (Iw ids cs)
 |.clo f cs=>.clo f (Iw ids cs)
 |.bnd f cs=>.bnd f (Iw ids cs)
 |.mp id=>.mp (ids.getD id 0)
 |.tup vs=>.tup (Iw ids vs)
 |.rowp _ _ _=>.CA
 |.aptr id n=>.aptr (ids.getD id 0) n
 |v=>v
def Iw(ids:List Nat):List AV→List AV
 |[]=>[]
 |v::vs=>Di ids v::Iw ids vs
end
def Dc(ids:List Nat):Ob→Ob
 |.box cs=>.box (Iw ids cs)
 |.prs T tgt is=>.prs T (ids.getD tgt 0) is
 |o=>o
mutual
def Jf:AV→Bool
 |.data t _=>t.flat
 |.agg cs=>JQ cs
 |.dptr _=>false
 |.clip _ _=>false
 |.clo _ cs=>JQ cs
 |.bnd _ cs=>JQ cs
 |.tup vs=>JQ vs
 |_=>true
def JQ:List AV→Bool
 |[]=>true
 |v::vs=>Jf v&&JQ vs
end
def MR:Ob→Bool
 |.box cs=>JQ cs
 |.arr _ t _=>t.flat
 |.map k v _=>k.flat&&v.flat
 |_=>true
def FI(H:List Ob)(fz:List Bool):List Nat→List Bnd→Bool
 |[],_=>true
 |i::ids,bs=>(match bs with
  |.whole id::_=>decide (i=id)
  |_=>Aq H fz i)&&FI H fz ids bs.tail
def IT:List Nat→Bool
 |[]=>true
 |i::ids => !(ids.contains i)&&IT ids
def single:List AV→AV
 |[v]=>v
 |vs=>.tup vs
def Bnd.AUH:Bnd→Bool
 |.cut _=>false
 |_=>true
def Ir(R:Type)(gv:List Nat)(bs:List Bnd)(fr:List Nat)(rs:List RS)(E:St)(ids:List Nat)(H:List Ob)(fz:List Bool)(k:AV→Eff→Option R):Option R:=
 match JQ E.tmps.list&&E.heap.all MR with
 |true=>match FI H fz ids bs&&IT ids with
  |true=>k (single (D6 rs (Iw ids E.tmps.list))) { objs:=gv.map (fun i=>(i,.dead))++ids.zip (E.heap.map (Dc ids)) }
  |false=>none
 |false=>match FI H (AY fr fz) ids bs&&IT ids with
  |true=>k (single (D6 rs (Iw ids E.tmps.list))) { objs:=gv.map (fun i=>(i,.dead))++ids.zip (E.heap.map (Dc ids)),frz:=fr }
  |false=>none
def AG(np na:Nat)(its outs:AD)(rs:List RS)(f:Au (leaves its)→Option (Au (leaves outs))):Spec:=fun R args H fz slot k=>
 match dec (lk args) H its fz []with
 |none=>none
 |some (x,bs,fr)=>match bs.all Bnd.AUH&&decide (bs.length=Cq its)&&decide (args.length=na)&&(Fy its&&Fy outs)with
  |false=>none
  |true=>match f x with
   |none=>none
   |some y=>Ir R (given (bs.drop np)) (bs.take np) fr rs (encode (cellsOf rs) outs y) (CY (Cq outs) (bs.take np) slot) H fz k
def Bb[Lk](P:Program)(E:Env)(h:Hints)(fn:Func):Spec:=fun R args H fz _ k=>
 match fn.body with
 |none=>none
 |some c=>match decide (args.length≤fn.ntmps)with
  |false=>none
  |true=>Az P E h R c 0 { tmps:=.of args fn.ntmps,heap:=H,frz:=fz } fun e st=>
   match e with
   |.normal=>match DW P st fn.results.toList with
    |some vs=>k (single vs) { heap:=some (st.heap,st.frz) }
    |none=>none
   |.ret=>match DW P st fn.results.toList with
    |some vs=>k (single vs) { heap:=some (st.heap,st.frz) }
    |none=>none
   |_=>none
end
end Go.Pev
end
section
namespace Go.Pev
open Go.RowKit
def rows{α:Type}(R:α→List Value→Prop):List α→List Value→Prop
 |[],cs=>cs=[]
 |x::xs,cs=>∃ c1 c2,cs=c1++c2∧R x c1∧rows R xs c2
def Yb{α β:Type}(K:α→Value→Prop)(V:β→Value→Prop):List (α×β)→List MapEntry→Prop
 |[],ms=>ms=[]
 |e::es,ms=>∃ me ms',ms=me::ms'∧K e.1 me.key∧V e.2 me.val∧Yb K V es ms'
def Dat(w:World)(F:Nat→Prop):(t:Ty)→t.den→List Value→Prop
 |.unit,_,cs=>cs=[]
 |.bool,b,cs=>cs=[.bool b]
 |.int k,n,cs=>cs=[.int k n]
 |.slice e,xs,cs=>∃ a cap,cs=[.slice a (List.length (α:=e.den) xs) cap]∧List.length (α:=e.den) xs≤cap∧(xs≠[]→∃ ad row,a=some ad∧F ad.block∧rows (Dat w F e) xs row ∧
   ∀ j u,row[j]? = some u→w.cell? (ad.add j)=some u)
 |.prod a b,d,cs=>∃ c1 c2,cs=c1++c2∧Dat w F a d.1 c1∧Dat w F b d.2 c2
 |.arr n e,xs,cs=>List.length (α:=e.den) xs=n∧rows (Dat w F e) xs cs
 |.nul _,_,cs=>cs=[.slice none 0 0]
 |.mapi j e,es,cs=>∃ b ms clock,cs=[.map (some b)]∧F b∧w.heap[b]? = some (.map ms clock)∧Yb (fun d v=>v = .int j d) (fun d v=>Dat w F e d [v]) es ms.toList
def Bn(w:World)(F:Nat→Prop)(t:Ty)(d:t.den)(v:Value):Prop:=
 if t.isAgg then ∃ vs,v = .agg vs∧Dat w F t d vs.toList else Dat w F t d [v]
inductive Ix where
 |o (i:Nat)
 |r (i k:Nat)
 deriving DecidableEq
instance:Coe Nat Ix:=⟨.o⟩
def Ix.id:Ix→Nat
 |.o i=>i
 |.r i _=>i
abbrev Mp:=Ix→Option (Nat×Nat)
def A4(o:Option Ob)(l:Option (Nat×Nat))(v:Value):Prop:=
 match o with
 |some (.arr _ t xs)=>match l with
  |none=>∃ a,v = .slice a 0 0
  |some (b,cap)=>v = .slice (some ⟨b,0,none⟩) (List.length (α:=t.den) xs) cap
 |some (.prs _ _ is)=>match l with
  |none=>∃ a,v = .slice a 0 0
  |some (b,cap)=>v = .slice (some ⟨b,0,none⟩) is.length cap
 |some (.rows (.arr _) _ t xs _ _)=>match l with
  |none=>∃ a,v = .slice a 0 0
  |some (b,cap)=>v = .slice (some ⟨b,0,none⟩) (List.length (α:=List t.den) xs) cap
 |some .dead=>v.oneCell'=true
 |_=>False
def Y7(o:Option Ob)(l:Option (Nat×Nat))(i ver:Nat)(v:Value):Prop:=
 match o with
 |some (.rows K _ t xs ver' _)=>v.oneCell'=true∧ver≤ver'∧(ver=ver'→(∃ ys:List t.den,xs[i]? = some ys∧A4 (some (.arr 0 t ys)) l v)∨(K.JG=false∧i=List.length (α:=List t.den) xs∧v = .slice none 0 0))
 |some .dead=>v.oneCell'=true
 |_=>False
def HJ(o:Option Ob)(l:Option (Nat×Nat))(off n:Nat)(v:Value):Prop:=
 match o with
 |some (.arr _ t xs)=>off+n≤List.length (α:=t.den) xs∧match l with
  |none=>∃ a,v = .slice a n 0
  |some (b,cap)=>∃ a,v = .slice a n (cap-off)∧(off<cap→a=some ⟨b,off*t.size,none⟩)
 |some .dead=>v.oneCell'=true
 |_=>False
def GM(o:Option Ob)(l:Option (Nat×Nat))(off:Nat)(v:Value):Prop:=
 match o with
 |some (.box _)=>∃ b c,l=some (b,c)∧v = .pointer (some ⟨b,off,none⟩)
 |some .dead=>v.oneCell'=true
 |_=>False
def Cv(o:Option Ob)(l:Option (Nat×Nat))(i sub:Nat)(v:Value):Prop:=
 match o with
 |some (.arr _ t xs)=>i<List.length (α:=t.den) xs∧∃ b c,l=some (b,c)∧v = .pointer (some ⟨b,i*t.size+sub,none⟩)
 |some (.prs _ _ is)=>i<is.length∧∃ b c,l=some (b,c)∧v = .pointer (some ⟨b,i+sub,none⟩)
 |some (.rows (.arr _) _ t xs _ _)=>i<List.length (α:=List t.den) xs∧∃ b c,l=some (b,c)∧v = .pointer (some ⟨b,i+sub,none⟩)
 |some .dead=>v.oneCell'=true
 |_=>False
def La(o:Option Ob)(l:Option (Nat×Nat))(v:Value):Prop:=
 match o with
 |some (.map _ _ _)=>∃ b c,l=some (b,c)∧v = .map (some b)
 |some (.rows (.map _ _) _ _ _ _ _)=>∃ b c,l=some (b,c)∧v = .map (some b)
 |some .dead=>v.oneCell'=true
 |_=>False
def FZ(o:Option Ob)(l:Option (Nat×Nat))(n:Nat)(v:Value):Prop:=
 match o with
 |some (.arr _ t xs)=>List.length (α:=t.den) xs=n∧∃ b,l=some (b,n)∧v = .pointer (some ⟨b,0,none⟩)
 |some .dead=>v.oneCell'=true
 |_=>False
theorem A4.one{o:Ob}{l:Option (Nat×Nat)}{v:Value}(h:A4 (some o) l v):v.oneCell'=true:=by
 unfold A4 at h;split at h;all_goals try exact h.elim
 all_goals try exact h
 all_goals
  cases l with
  |none=>obtain⟨a,rfl⟩:=h;rfl
  |some p=>obtain⟨b,c⟩:=p;simp only at h;subst h;rfl
theorem HJ.one{o:Ob}{l:Option (Nat×Nat)}{off n:Nat}{v:Value}(h:HJ (some o) l off n v):v.oneCell'=true:=by
 unfold HJ at h;cases o<;>simp only at h<;>first|omega|exact h|skip
 obtain⟨_,h⟩:=h;cases l with
  |none=>obtain⟨a,rfl⟩:=h;rfl
  |some p=>obtain⟨b,c⟩:=p;obtain⟨a,rfl,_⟩:=h;rfl
theorem GM.one{o:Ob}{l:Option (Nat×Nat)}{off:Nat}{v:Value}(h:GM (some o) l off v):v.oneCell'=true:=by
 unfold GM at h;cases o<;>simp only at h<;>first|omega|exact h|skip
 obtain⟨b,c,_,rfl⟩:=h;rfl
theorem Cv.one{o:Ob}{l:Option (Nat×Nat)}{i sub:Nat}{v:Value}(h:Cv (some o) l i sub v):v.oneCell'=true:=by
 unfold Cv at h;split at h;all_goals try exact h.elim
 all_goals try exact h
 all_goals obtain⟨_,b,c,_,rfl⟩:=h;rfl
theorem Y7.one{o:Ob}{l:Option (Nat×Nat)}{i ver:Nat}{v:Value}(h:Y7 (some o) l i ver v):v.oneCell'=true:=by unfold Y7 at h;grind
theorem La.one{o:Ob}{l:Option (Nat×Nat)}{v:Value}(h:La (some o) l v):v.oneCell'=true:=by
 unfold La at h;split at h;all_goals try exact h.elim
 all_goals try exact h
 all_goals obtain⟨b,c,_,rfl⟩:=h;rfl
theorem FZ.one{o:Ob}{l:Option (Nat×Nat)}{n:Nat}{v:Value}(h:FZ (some o) l n v):v.oneCell'=true:=by
 unfold FZ at h;split at h;all_goals try exact h.elim
 all_goals try exact h
 all_goals obtain⟨_,b,_,rfl⟩:=h;rfl
section
variable (w:World) (F:Nat→Prop) (m:Mp) (H:List Ob)
mutual
def Rep:AV→Value→Prop
 |.CA,_=>True
 |.data t d,v=>Bn w F t d v
 |.nils _,v=>v = .slice none 0 0
 |.agg cs,v=>∃ vs,v = .agg vs∧AT cs vs.toList∧∀ u∈vs.toList,u.oneCell'=true
 |.own id,v=>A4 H[id]? (m id) v
 |.win id off n,v=>HJ H[id]? (m id) off n v
 |.ptr id off,v=>GM H[id]? (m id) off v
 |.eptr id i sub,v=>Cv H[id]? (m id) i sub v
 |.dptr cs,v=>∃ ad us,v = .pointer (some ad)∧(cs≠[]→F ad.block)∧AT cs us∧(∀ u∈us,u.oneCell'=true)∧∀ j u,us[j]? = some u→w.cell? (ad.add j)=some u
 |.clo f caps,v=>∃ cs,v = .func (.func f) #[] cs∧AT caps cs.toList
 |.bnd f fs,v=>∃ cs,v = .func (.func f) cs #[]∧AT fs cs.toList
 |.str xs,v=>∃ s,v = .string s∧bytesOf s=xs
 |.clip t xs,v=>Dat w F (.slice t) xs [v]∧∃ a,v = .slice a (List.length (α:=t.den) xs) (List.length (α:=t.den) xs)
 |.mp id,v=>La H[id]? (m id) v
 |.tup vs,v=>∃ us,v = .tuple us∧AT vs us.toList
 |.rowp id i ver,v=>Y7 H[id]? (m (.r id i)) i ver v
 |.glob g,v=>v = .pointer (some ⟨g,0,none⟩)
 |.nilp,v=>v = .pointer none
 |.ifc o,v=>v=Jd o
 |.aptr id n,v=>FZ H[id]? (m id) n v
def AT:List AV→List Value→Prop
 |[],vs=>vs=[]
 |c::cs,vs=>∃ v vs',vs=v::vs'∧Rep c v∧AT cs vs'
end
end
def AoN(w:World)(F:Nat→Prop)(k v:Ty)(e:k.den×v.den)(me:MapEntry):Prop:=Bn w F k e.1 me.key∧Bn w F v e.2 me.val
def Iy(w:World)(F:Nat→Prop)(k v:Ty):List (k.den×v.den)→List MapEntry→Prop
 |[],ms=>ms=[]
 |e::es,ms=>∃ me ms',ms=me::ms'∧AoN w F k v e me∧Iy w F k v es ms'
def GL(ms:Array MapEntry)(clock:Nat):Prop:=clock=ms.size∧∀ (i:Nat) (e:MapEntry),ms[i]? = some e→e.born=i
def Hdr(w:World)(K:RK)(n:Nat)(out:Option Nat)(b cap:Nat):Prop:=
 match K with
 |.arr T=>∃ vs,w.heap[b]? = some (.cells vs T (0,0))∧n≤cap∧cap≤maxLen∧vs.size=cap∧∀ u∈vs.toList,u.oneCell'=true
 |.map j ks=>∃ ms clock,w.heap[b]? = some (.map ms clock)∧GL ms clock∧ms.toList.map (·.key)=ks.map (Value.int j)∧(n=ks.length∨(out=some ks.length∧n=ks.length+1))∧∀ k,out=some k→k<n
def LS(w:World)(K:RK)(b k:Nat)(u:Value):Prop:=
 match K with
 |.arr T=>∃ vs,w.heap[b]? = some (.cells vs T (0,0))∧vs.toList[k]? = some u
 |.map _ _=>∃ ms clock e,w.heap[b]? = some (.map ms clock)∧ms.toList[k]? = some e∧e.val=u
def ObI(w:World)(F:Nat→Prop)(m:Mp)(H:List Ob)(o:Ob)(l:Option (Nat×Nat)):Prop:=
 match o with
 |.free=>True
 |.dead=>True
 |.box cs=>∃ b c vs T,l=some (b,c)∧w.heap[b]? = some (.cells vs T (0,0))∧AT w F m H cs vs.toList∧∀ u∈vs.toList,u.oneCell'=true
 |.arr T t xs=>0<t.size∧match l with
  |none=>xs=[]
  |some (b,cap)=>∃ vs row,w.heap[b]? = some (.cells vs T (0,0))∧List.length (α:=t.den) xs≤cap∧cap≤maxLen∧vs.size=cap*t.size∧rows (Dat w F t) xs row∧vs.toList.take row.length=row
 |.map k v es=>∃ b c ms clock,l=some (b,c)∧w.heap[b]? = some (.map ms clock)∧Iy w F k v es ms.toList∧GL ms clock
 |.prs T tgt is=>match l with
  |none=>is=[]
  |some (b,cap)=>∃ vs us,w.heap[b]? = some (.cells vs T (0,0))∧is.length≤cap∧cap≤maxLen∧vs.size=cap∧AT w F m H (Fv tgt is) us∧(∀ u∈us,u.oneCell'=true)∧vs.toList.take us.length=us
 |.rows K _ t xs _ out=>0<t.size∧match l with
  |none=>K.JG=true∧xs=[]
  |some (b,cap)=>Hdr w K (List.length (α:=List t.den) xs) out b cap
def Bv(H:List Ob)(fz:List Bool)(i:Nat):Prop:=
 match H[i]? with
 |some (.box _)=>True
 |some (.map _ _ _)=>True
 |some (.prs _ _ _)=>True
 |some (.arr _ _ _)=>fz.getD i false=false
 |some (.rows _ _ _ _ _ _)=>fz.getD i false=false
 |_=>False
def owned(H:List Ob)(fz:List Bool):Ix→Prop
 |.o i=>Bv H fz i
 |.r i k=>match H[i]? with
  |some (.rows _ _ t xs _ _)=>k<List.length (α:=List t.den) xs∧fz.getD i false=false
  |_=>False
def there(H:List Ob):Ix→Prop
 |.o i=>∃ o,H[i]? = some o∧o≠.free∧o≠.dead
 |.r i k=>match H[i]? with
  |some (.rows _ _ t xs _ _)=>k<List.length (α:=List t.den) xs
  |_=>False
def B7(w:World)(F:Nat→Prop)(m:Mp)(H:List Ob)(i:Nat):Prop:=
 ∀ T e t xs ver out,H[i]? = some (.rows T e t xs ver out)→∀ (k:Nat) (ys:List t.den),xs[k]? = some ys →
  ObI w F m H (.arr e t ys) (m (.r i k))∧(out≠some k→∃ b cap u,m i=some (b,cap)∧LS w T b k u∧A4 (some (.arr e t ys)) (m (.r i k)) u)
def AcS(w:World)(F:Nat→Prop):Prop:=∀ p∈AGB,F p.1∧∀ (j:Nat) (n:Int),p.2.2[j]? = some n→w.cell? ⟨p.1,j,none⟩=some (.int p.2.1 n)
structure HI(w:World)(F:Nat→Prop)(m:Mp)(H:List Ob)(fz:List Bool):Prop where
 obj:∀ (id:Nat) o,H[id]? = some o→ObI w F m H o (m id)
 row:∀ i,B7 w F m H i
 rfz:∀ (i:Nat) T e t xs ver out,H[i]? = some (.rows T e t xs ver out)→fz.getD i false=true→∀ x:Ix,x.id=i→there H x→∀ b c,m x=some (b,c)→F b
 sep:∀ i j b c b' c',owned H fz i→owned H fz j→i≠j→m i=some (b,c)→m j=some (b',c')→b≠b'
 off:∀ i b c,owned H fz i→m i=some (b,c)→¬ F b
 froz:∀ (i:Nat) T t xs b c,H[i]? = some (.arr T t xs)→fz.getD i false=true→m i=some (b,c)→F b
 lt:∀ b,F b→b<w.heap.size
 glo:AcS w F
 len:H.length=fz.length
def PW:Ob→Nat
 |.rows _ _ _ _ ver _=>ver
 |_=>0
def sameShape:Ob→Ob→Prop
 |.box _,.box _=>True
 |.map _ _ _,.map _ _ _=>True
 |.prs _ _ is,.prs _ _ is'=>is.length=is'.length
 |.rows K e t xs ver out,.rows K' e' t' xs' ver' out'=>K.JG=K'.JG∧(K.JG=true→List.length (α:=List t.den) xs=List.length (α:=List t'.den) xs')∧(ver<ver'∨ver=ver'∧(⟨t,xs⟩:(t:Ty)×List (List t.den))=⟨t',xs'⟩)
 |.arr _ t xs,.arr _ t' xs'=>t.size=t'.size∧List.length (α:=t.den) xs=List.length (α:=t'.den) xs'
 |_,_=>False
def CQ(H H':List Ob)(m m':Mp):Prop:=
 ∀ (i:Nat) (o:Ob),H[i]? = some o→o≠.free→H'[i]? = some .dead∨(o≠.dead∧∃ o',H'[i]? = some o'∧sameShape o o'∧m' i=m i∧(BP o=false→PW o'=PW o→∀ k,m' (.r i k)=m (.r i k)))
structure Ext(w:World)(F:Nat→Prop)(m:Mp)(H:List Ob)(fz:List Bool)(w':World)(F':Nat→Prop)(m':Mp)(H':List Ob)(fz':List Bool):Prop where
 os:w'.os=w.os
 tape:w'.tape=w.tape
 output:w'.output=w.output
 size:w.heap.size≤w'.heap.size
 keep:∀ b,b<w.heap.size→(∀ i c,owned H fz i→m i≠some (b,c))→w'.heap[b]? = w.heap[b]?
 sub:∀ b,F b→F' b
 bnd:∀ b,F' b→F b∨(∃ i c,owned H fz i∧m i=some (b,c))∨w.heap.size≤b
 own:∀ i b c,owned H' fz' i→m' i=some (b,c)→(∃ i c,owned H fz i∧m i=some (b,c))∨w.heap.size≤b
 comp:CQ H H' m m'
theorem BL{α:Type}{R R':α→List Value→Prop}{xs:List α}(h:∀ x∈xs,∀ cs,R x cs→R' x cs):∀ {cs},rows R xs cs→rows R' xs cs:=by
 induction xs with
  |nil=>exact fun h=>h
  |cons x xs ih=>rintro cs ⟨c1,c2,rfl,h1,h2⟩;exact⟨c1,c2,rfl,h x (by simp) _ h1,ih (fun y hy=>h y (by simp[hy])) h2⟩
theorem AR6{α β:Type}{K:α→Value→Prop}{V V':β→Value→Prop}(h:∀ x v,V x v→V' x v):∀ {es:List (α×β)} {ms},Yb K V es ms→Yb K V' es ms:=by
 intro es;induction es with
  |nil=>exact fun h=>h
  |cons e es ih=>rintro ms ⟨me,ms',e1,h1,h2,h3⟩;exact⟨me,ms',e1,h1,h _ _ h2,ih h3⟩
theorem Dat.mono{w w':World}{F F':Nat→Prop}(hc:∀ b,F b→w'.heap[b]? = w.heap[b]?)(hF:∀ b,F b→F' b):
  ∀ (t:Ty) {d:t.den} {cs:List Value},Dat w F t d cs→Dat w' F' t d cs:=by
 have hcell:∀ a:Addr,F a.block→w'.cell? a=w.cell? a:=fun a ha=>by simp only[World.cell?,hc _ ha]
 have hadd:∀ (a:Addr) (n:Nat),(a.add n).block=a.block:=fun a n=>by unfold Addr.add;grind
 intro t;induction t with
  |unit=>exact fun h=>h
  |bool=>exact fun h=>h
  |int k=>exact fun h=>h
  |slice e ih=>rintro d cs ⟨a,cap,h1,h2,h3⟩;refine⟨a,cap,h1,h2,fun hne => ?_⟩;obtain⟨ad,row,e1,e2,e3,e4⟩:=h3 hne;exact⟨ad,row,e1,hF _ e2,BL (fun x _ cs hx=>ih hx) e3,fun j u hu=>(hcell _ (by grind)).trans (e4 j u hu)⟩
  |prod a b iha ihb=>rintro d cs ⟨c1,c2,h1,h2,h3⟩;exact⟨c1,c2,h1,iha h2,ihb h3⟩
  |arr n e ih=>rintro d cs ⟨h1,h2⟩;exact⟨h1,BL (fun x _ cs hx=>ih hx) h2⟩
  |nul e=>exact fun h=>h
  |mapi j e ih=>rintro d cs ⟨b,ms,clock,h1,h2,h3,h4⟩;exact⟨b,ms,clock,h1,hF _ h2,(hc _ h2).trans h3,AR6 (fun x v hx=>ih hx) h4⟩
theorem Bn.mono{w w':World}{F F':Nat→Prop}(hc:∀ b,F b→w'.heap[b]? = w.heap[b]?)(hF:∀ b,F b→F' b)
  {t:Ty} {d:t.den} {v:Value} (h:Bn w F t d v):Bn w' F' t d v:=by unfold Bn at *;split;rename_i hg;simp only[hg,AqP]at h;obtain⟨vs,e,hd⟩:=h;exact⟨vs,e,hd.mono hc hF t⟩;rename_i hg;simp only[hg]at h;exact Dat.mono hc hF t h
theorem A9{α:Type}{R:α→List Value→Prop}{n:Nat}(h:∀ x cs,R x cs→cs.length=n):∀ {xs:List α} {cs},rows R xs cs→cs.length=xs.length*n:=by
 intro xs;induction xs with
  |nil=>rintro cs rfl;simp
  |cons x xs ih=>rintro cs ⟨c1,c2,rfl,h1,h2⟩;grind
theorem Dat.length{w:World}{F:Nat→Prop}:∀ (t:Ty) {d:t.den} {cs:List Value},Dat w F t d cs→cs.length=t.size:=by
 intro t;induction t with
  |unit=>rintro d cs rfl;rfl
  |bool=>rintro d cs rfl;rfl
  |int k=>rintro d cs rfl;rfl
  |slice e ih=>rintro d cs ⟨a,cap,rfl,_,_⟩;rfl
  |prod a b iha ihb=>rintro d cs ⟨c1,c2,rfl,h2,h3⟩;rw[Ap3,iha h2,ihb h3];rfl
  |arr n e ih=>rintro d cs ⟨h1,h2⟩;rw[A9 (fun x cs hx=>ih hx) h2,h1];rfl
  |nul e=>rintro d cs rfl;rfl
  |mapi j e ih=>rintro d cs ⟨b,ms,clock,rfl,_⟩;rfl
theorem Ps{α:Type}{R:α→List Value→Prop}{p:Value→Prop}(h:∀ x cs,R x cs→∀ u∈cs,p u):∀ {xs:List α} {cs},rows R xs cs→∀ u∈cs,p u:=by
 intro xs;induction xs with
  |nil=>rintro cs rfl u hu;cases hu
  |cons x xs ih=>rintro cs ⟨c1,c2,rfl,h1,h2⟩ u hu;grind
theorem Dat.HS{w:World}{F:Nat→Prop}:∀ (t:Ty) {d:t.den} {cs:List Value},Dat w F t d cs→∀ u∈cs,u.oneCell'=true:=by
 intro t;induction t with
  |unit=>rintro d cs rfl u hu;cases hu
  |bool=>rintro d cs rfl u hu;simp at hu;subst hu;rfl
  |int k=>rintro d cs rfl u hu;simp at hu;subst hu;rfl
  |slice e ih=>rintro d cs ⟨a,cap,rfl,_,_⟩ u hu;simp at hu;subst hu;rfl
  |prod a b iha ihb=>rintro d cs ⟨c1,c2,rfl,h2,h3⟩ u hu;grind
  |arr n e ih=>rintro d cs ⟨h1,h2⟩;exact Ps (fun x cs hx=>ih hx) h2
  |nul e=>rintro d cs rfl u hu;simp at hu;subst hu;rfl
  |mapi j e ih=>rintro d cs ⟨b,ms,clock,rfl,_⟩ u hu;simp at hu;subst hu;rfl
theorem Ap{w:World}{F:Nat→Prop}{m:Mp}{H:List Ob}:∀ {cs:List AV} {vs:List Value},AT w F m H cs vs→vs.length=cs.length:=by
 intro cs;induction cs with
  |nil=>intro vs h;unfold AT at h;grind
  |cons c cs ih=>intro vs h;unfold AT at h;grind
theorem CW{w:World}{F:Nat→Prop}{m:Mp}{H:List Ob}:∀ {cs:List AV} {vs:List Value},AT w F m H cs vs→∀ {i:Nat} {c:AV},cs[i]? = some c→∃ v,vs[i]? = some v∧Rep w F m H c v:=by
 intro cs;induction cs with
  |nil=>simp
  |cons c cs ih=>intro vs h i c' hc;unfold AT at h;grind
theorem DL{w:World}{F:Nat→Prop}{m:Mp}{H:List Ob}:∀ {cs:List AV} {vs:List Value},vs.length=cs.length→(∀ (i:Nat) (c:AV) (v:Value),cs[i]? = some c→vs[i]? = some v→Rep w F m H c v)→AT w F m H cs vs:=by
 intro cs;induction cs with
  |nil=>intro vs h _;unfold AT;grind
  |cons c cs ih=>
   intro vs hl h;unfold AT;match vs,hl with
   |v::vs',hl=>exact⟨v,vs',rfl,h 0 c v rfl rfl,ih (by grind) fun i c v hc hv=>h (i+1) c v (by grind) (by grind)⟩
theorem Gx{w:World}{F:Nat→Prop}{m:Mp}{H:List Ob}{cs cs':List AV}{vs vs':List Value}(h:AT w F m H cs vs)(h':AT w F m H cs' vs'):AT w F m H (cs++cs') (vs++vs'):=by
 induction cs generalizing vs with
  |nil=>unfold AT at h;grind
  |cons c cs ih=>unfold AT at h;obtain⟨v,vs1,rfl,hv,h⟩:=h;simp only[AqJ];unfold AT;grind
theorem No{w:World}{F:Nat→Prop}{m:Mp}{H:List Ob}{cs:List AV}{vs:List Value}(h:AT w F m H cs vs)(n:Nat):AT w F m H (cs.take n) (vs.take n):=by refine DL (by simp[Ap h]) fun i c v hc hv => ?_;rw[Ar1]at hc hv;split at hc;rename_i hi;simp only[hi,AqP]at hv;obtain⟨v',hv',hr⟩:=CW h hc;grind;grind
theorem Ez{w:World}{F:Nat→Prop}{m:Mp}{H:List Ob}{cs:List AV}{vs:List Value}(h:AT w F m H cs vs)(n:Nat):AT w F m H (cs.drop n) (vs.drop n):=by refine DL (by simp[Ap h]) fun i c v hc hv => ?_;rw[AsP]at hc hv;obtain⟨v',hv',hr⟩:=CW h hc;grind
section
variable {w w':World} {F F':Nat→Prop} {m m':Mp} {H H':List Ob}
theorem GJ(hcomp:CQ H H' m m')(P:Option Ob→Option (Nat×Nat)→Prop)(hdead:∀ o l l',P (some o) l→P (some .dead) l')(hnone:∀ l,¬ P none l)(hfree:∀ l,¬ P (some .free) l)
  (hsame:∀ o o' l,sameShape o o'→P (some o) l→P (some o') l) (i:Nat) (h:P H[i]? (m i)):P H'[i]? (m' i):=by
 cases ho:H[i]? with
  |none=>grind
  |some o=>
   rw[ho]at h;by_cases hf:o = .free;grind
   ·rcases hcomp i o ho hf with h1|⟨_,o',h1,h2,h3,_⟩
    all_goals grind
mutual
theorem Rep.mono(hc:∀ b,F b→w'.heap[b]? = w.heap[b]?)(hF:∀ b,F b→F' b)(hcomp:CQ H H' m m'):∀ (a:AV) {v:Value},Rep w F m H a v→Rep w' F' m' H' a v
 |.CA,_,_=>by unfold Rep;trivial
 |.data t d,v,h=>by unfold Rep at *;exact h.mono hc hF
 |.nils _,v,h=>by unfold Rep at *;exact h
 |.agg cs,v,h=>by unfold Rep at *;obtain⟨vs,e,h,h1⟩:=h;exact⟨vs,e,AT.mono hc hF hcomp cs h,h1⟩
 |.own id,v,h=>by
  unfold Rep at *;refine GJ hcomp (fun o l=>A4 o l v) (fun o l l'=>A4.one) (fun l h=>h) (fun l h=>h) ?_ id h;intro o o' l hs h;cases o<;>cases o'<;>simp only[sameShape]at hs<;>try exact hs.elim
  exact h.elim;obtain⟨hz,hl⟩:=hs;unfold A4 at *;grind;exact h.elim;unfold A4 at *;grind
  ·rename_i K _ _ _ _ _ K' _ _ _ _ _;cases K<;>cases K'<;>first|(cases hs.1;done)|exact h.elim|skip
   unfold A4 at *;simp only at *;rw[← hs.2.1 rfl];exact h
 |.win id off n,v,h=>by
  unfold Rep at *;refine GJ hcomp (fun o l=>HJ o l off n v) (fun o l l'=>HJ.one) (fun l h=>h) (fun l h=>h) ?_ id h;intro o o' l hs h;cases o<;>cases o'<;>simp only[sameShape]at hs<;>try exact hs.elim
  exact h.elim;obtain⟨hz,hl⟩:=hs;unfold HJ at *;grind;exact h.elim;exact h.elim;exact h.elim
 |.ptr id off,v,h=>by
  unfold Rep at *;refine GJ hcomp (fun o l=>GM o l off v) (fun o l l'=>GM.one) (fun l h=>h) (fun l h=>h) ?_ id h;intro o o' l hs h;cases o<;>cases o'<;>simp only[sameShape]at hs<;>try exact hs.elim
  exact h;exact h.elim;exact h.elim;exact h.elim;exact h.elim
 |.eptr id i sub,v,h=>by
  unfold Rep at *;refine GJ hcomp (fun o l=>Cv o l i sub v) (fun o l l'=>Cv.one) (fun l h=>h) (fun l h=>h) ?_ id h;intro o o' l hs h;cases o<;>cases o'<;>simp only[sameShape]at hs<;>try exact hs.elim
  exact h.elim;obtain⟨hz,hl⟩:=hs;unfold Cv at *;grind;exact h.elim;unfold Cv at *;grind
  ·rename_i K _ _ _ _ _ K' _ _ _ _ _;cases K<;>cases K'<;>first|(cases hs.1;done)|exact h.elim|skip
   unfold Cv at *;simp only at *;rw[← hs.2.1 rfl];exact h
 |.dptr cs,v,h=>by
  unfold Rep at *;obtain⟨ad,us,e,h1,h2,h4,h3⟩:=h;refine⟨ad,us,e,fun hne=>hF _ (h1 hne),AT.mono hc hF hcomp cs h2,h4,fun j u hu => ?_⟩;have hadd:(ad.add j).block=ad.block:=by unfold Addr.add;grind
  have hne:cs≠[]:=by rintro rfl;unfold AT at h2;grind
  have h3:=h3 j u hu;simp only[World.cell?]at h3 ⊢;grind
 |.clo f caps,v,h=>by unfold Rep at *;obtain⟨cs,e,h⟩:=h;exact⟨cs,e,AT.mono hc hF hcomp caps h⟩
 |.bnd f caps,v,h=>by unfold Rep at *;obtain⟨cs,e,h⟩:=h;exact⟨cs,e,AT.mono hc hF hcomp caps h⟩
 |.str _,v,h=>by unfold Rep at *;exact h
 |.clip t xs,v,h=>by unfold Rep at *;exact⟨Dat.mono hc hF (.slice t) h.1,h.2⟩
 |.mp id,v,h=>by
  unfold Rep at *;refine GJ hcomp (fun o l=>La o l v) (fun o l l'=>La.one) (fun l h=>h) (fun l h=>h) ?_ id h;intro o o' l hs h;cases o<;>cases o'<;>simp only[sameShape]at hs<;>try exact hs.elim
  exact h.elim;exact h.elim;exact h;exact h.elim;·rename_i K _ _ _ _ _ K' _ _ _ _ _;cases K<;>cases K'<;>first|(cases hs.1;done)|exact h.elim|exact h
 |.glob g,v,h=>by unfold Rep at *;exact h
 |.nilp,v,h=>by unfold Rep at *;exact h
 |.ifc o,v,h=>by unfold Rep at *;exact h
 |.aptr id n,v,h=>by
  unfold Rep at *;refine GJ hcomp (fun o l=>FZ o l n v) (fun o l l'=>FZ.one) (fun l h=>h) (fun l h=>h) ?_ id h;intro o o' l hs h;cases o<;>cases o'<;>simp only[sameShape]at hs<;>try exact hs.elim
  exact h.elim;obtain⟨hz,hl⟩:=hs;unfold FZ at *;grind;exact h.elim;exact h.elim;exact h.elim
 |.tup vs,v,h=>by unfold Rep at *;obtain⟨us,e,h⟩:=h;exact⟨us,e,AT.mono hc hF hcomp vs h⟩
 |.rowp id i ver,v,h=>by
  unfold Rep at *;cases ho:H[id]? with
   |none=>rw[ho]at h;exact h.elim
   |some o=>
    rw[ho]at h;have hone:=Y7.one h;by_cases hf:o = .free;subst hf;exact h.elim;rcases hcomp id o ho hf with h1|⟨_,o',h1,h2,h3,h4⟩
    rw[h1];exact hone;rw[h1];cases o<;>(try exact h.elim)<;>cases o'<;>simp only[sameShape]at h2;obtain⟨_,h6,h7⟩:=h;obtain⟨ha,h8,h9⟩:=h2;refine⟨hone,?_,fun e => ?_⟩;omega;rcases h9 with h9|⟨h9,h10⟩
    omega;subst h9;cases h10;rw[h4 rfl rfl i,← ha];grind
theorem AT.mono(hc:∀ b,F b→w'.heap[b]? = w.heap[b]?)(hF:∀ b,F b→F' b)(hcomp:CQ H H' m m'):∀ (cs:List AV) {vs:List Value},AT w F m H cs vs→AT w' F' m' H' cs vs
 |[],vs,h=>by unfold AT at *;exact h
 |c::cs,vs,h=>by unfold AT at *;obtain⟨v,vs',e,h1,h2⟩:=h;exact⟨v,vs',e,Rep.mono hc hF hcomp c h1,AT.mono hc hF hcomp cs h2⟩
end
theorem CQ.refl(H:List Ob)(m:Mp):CQ H H m m:=by intro i o ho _;by_cases hd:o = .dead;grind;refine .inr ⟨hd,o,ho,?_,rfl,fun _ _ _=>rfl⟩;cases o<;>simp_all [sameShape]
theorem sameShape.trans{a b c:Ob}(h:sameShape a b)(h':sameShape b c):sameShape a c:=by cases a<;>cases b<;>simp only[sameShape]at h<;>(try exact h.elim)<;>cases c<;>simp only[sameShape]at h'<;>(try exact h'.elim)<;>simp only[sameShape];all_goals grind
theorem sameShape.ver{a b:Ob}(h:sameShape a b):PW a≤PW b∧BP a=BP b:=by
 cases a<;>cases b<;>simp only[sameShape]at h<;>(try exact h.elim)<;>(try exact⟨Ap1 _,rfl⟩)
 rcases h.2.2 with h1|⟨h1,_⟩
 exact⟨ArC h1,rfl⟩;exact⟨Ars h1,rfl⟩
theorem CQ.trans{a b c:List Ob}{m m' m'':Mp}(h:CQ a b m m')(h':CQ b c m' m''):CQ a c m m'':=by
 intro i o ho hf;rcases h i o ho hf with h1|⟨hd,o',h1,h2,h3,hp⟩
 ·rcases h' i _ h1 (by simp)with h4|⟨h5,_⟩
  all_goals grind
 have hf':o'≠.free:=by rintro rfl;cases o<;>simp[sameShape]at h2
 rcases h' i o' h1 hf' with h4|⟨_,o'',h4,h5,h6,hq⟩
 grind;refine .inr ⟨hd,o'',h4,h2.trans h5,h6.trans h3,fun a b k => ?_⟩;have h8:=h2.ver;have h9:=h5.ver;grind
theorem Ext.refl(w:World)(F:Nat→Prop)(m:Mp)(H:List Ob)(fz:List Bool):Ext w F m H fz w F m H fz:=
 ⟨rfl,rfl,rfl,Ap1 _,fun _ _ _=>rfl,fun _ h=>h,fun _ h=>.inl h,fun i b c h1 h2=>.inl ⟨i,c,h1,h2⟩,CQ.refl H m⟩
theorem Ext.trans{w w1 w2:World}{F F1 F2:Nat→Prop}{m m1 m2:Mp}{H H1 H2:List Ob}{fz fz1 fz2:List Bool}
  (h:Ext w F m H fz w1 F1 m1 H1 fz1) (k:Ext w1 F1 m1 H1 fz1 w2 F2 m2 H2 fz2):Ext w F m H fz w2 F2 m2 H2 fz2 where
 os:=k.os.trans h.os
 tape:=k.tape.trans h.tape
 output:=k.output.trans h.output
 size:=ArD h.size k.size
 keep b hb hn:=by rw[k.keep b (Aq1 hb h.size) ?_,h.keep b hb hn];intro i c ho he;rcases h.own i b c ho he with⟨i',c',h1,h2⟩|h1;all_goals grind
 sub b hb:=k.sub b (h.sub b hb)
 bnd b hb:=by
  rcases k.bnd b hb with h1|⟨i,c,h1,h2⟩|h1;exact h.bnd b h1;·rcases h.own i b c h1 h2 with h3|h3;all_goals grind
  exact .inr (.inr (ArD h.size h1))
 own i b c h1 h2:=by rcases k.own i b c h1 h2 with⟨i',c',h3,h4⟩|h3;exact h.own i' b c' h3 h4;exact .inr (ArD h.size h3)
 comp:=h.comp.trans k.comp
theorem Ext.frozen{fz fz':List Bool}(hi:HI w F m H fz)(h:Ext w F m H fz w' F' m' H' fz'){b:Nat}(hb:F b):w'.heap[b]? = w.heap[b]? :=
 h.keep b (hi.lt b hb) fun i c ho he=>hi.off i b c ho he hb
theorem Ext.rep{fz fz':List Bool}(hi:HI w F m H fz)(h:Ext w F m H fz w' F' m' H' fz'){a:AV}{v:Value}(hr:Rep w F m H a v):Rep w' F' m' H' a v:=
 Rep.mono (fun b hb=>h.frozen hi hb) h.sub h.comp a hr
theorem Ext.Apg{fz fz':List Bool}(hi:HI w F m H fz)(h:Ext w F m H fz w' F' m' H' fz'){a:List AV}{v:List Value}(hr:AT w F m H a v):AT w' F' m' H' a v:=
 AT.mono (fun b hb=>h.frozen hi hb) h.sub h.comp a hr
theorem Ext.dat{fz fz':List Bool}(hi:HI w F m H fz)(h:Ext w F m H fz w' F' m' H' fz'){t:Ty}{d:t.den}{v:List Value}(hr:Dat w F t d v):Dat w' F' t d v:=
 hr.mono (fun b hb=>h.frozen hi hb) h.sub t
theorem Iy.mono{k v:Ty}(hc:∀ b,F b→w'.heap[b]? = w.heap[b]?)(hF:∀ b,F b→F' b):
  ∀ {es:List (k.den×v.den)} {ms:List MapEntry},Iy w F k v es ms→Iy w' F' k v es ms:=by
 intro es;induction es with
  |nil=>exact fun h=>h
  |cons e es ih=>rintro ms ⟨me,ms',e1,⟨h1,h2⟩,h3⟩;exact⟨me,ms',e1,⟨h1.mono hc hF,h2.mono hc hF⟩,ih h3⟩
end
end Go.Pev
end
section
namespace Go.Pev
open Go.RowKit
theorem BW{w:World}{b:Nat}{o:Obj}(h:w.heap[b]? = some o):b<w.heap.size:=by grind
theorem Hdr.mono{w w':World}{K:RK}{n:Nat}{out:Option Nat}{b cap:Nat}(hb:b<w.heap.size→w'.heap[b]? = w.heap[b]?)(h:Hdr w K n out b cap):Hdr w' K n out b cap:=by
 cases K with
  |arr T=>obtain⟨vs,e1,e2⟩:=h;exact⟨vs,(hb (BW e1)).trans e1,e2⟩
  |map j ks=>obtain⟨ms,clock,e1,e2⟩:=h;exact⟨ms,clock,(hb (BW e1)).trans e1,e2⟩
theorem LS.mono{w w':World}{K:RK}{b k:Nat}{u:Value}(hb:b<w.heap.size→w'.heap[b]? = w.heap[b]?)(h:LS w K b k u):LS w' K b k u:=by
 cases K with
  |arr T=>obtain⟨vs,e1,e2⟩:=h;exact⟨vs,(hb (BW e1)).trans e1,e2⟩
  |map j ks=>obtain⟨ms,clock,e,e1,e2⟩:=h;exact⟨ms,clock,e,(hb (BW e1)).trans e1,e2⟩
theorem Hdr.lt{w:World}{K:RK}{n:Nat}{out:Option Nat}{b cap:Nat}(h:Hdr w K n out b cap):b<w.heap.size:=by
 cases K with
  |arr T=>obtain⟨vs,e1,e2⟩:=h;grind
  |map j ks=>obtain⟨ms,clock,e1,e2⟩:=h;grind
theorem AcS.mono{w w':World}{F F':Nat→Prop}(hc:∀ b,F b→w'.heap[b]? = w.heap[b]?)(hF:∀ b,F b→F' b)(h:AcS w F):AcS w' F':=fun p hp=>by obtain⟨h1,h2⟩:=h p hp;exact⟨hF _ h1,fun j n hn=>by have:=h2 j n hn;simp only[World.cell?]at this ⊢;grind⟩
theorem ObI.mono{w w':World}{F F':Nat→Prop}{m m':Mp}{H H':List Ob}{o:Ob}{l:Option (Nat×Nat)}
  (hc:∀ b,F b→w'.heap[b]? = w.heap[b]?) (hF:∀ b,F b→F' b) (hcomp:CQ H H' m m')
  (hb:o≠.free→o≠.dead→∀ b c,l=some (b,c)→b<w.heap.size→w'.heap[b]? = w.heap[b]?) (h:ObI w F m H o l):ObI w' F' m' H' o l:=by
 cases o with
  |free=>trivial
  |dead=>trivial
  |box cs=>obtain⟨b,c,vs,T,e1,e2,e3,e4⟩:=h;exact⟨b,c,vs,T,e1,(hb (by simp) (by simp) b c e1 (BW e2)).trans e2,AT.mono hc hF hcomp cs e3,e4⟩
  |arr T t xs=>
   obtain⟨h0,h⟩:=h;refine⟨h0,?_⟩;cases l with
    |none=>exact h
    |some p=>obtain⟨b,cap⟩:=p;obtain⟨vs,row,e1,e2,e3,e4,e5,e6⟩:=h;exact⟨vs,row,(hb (by simp) (by simp) b cap rfl (BW e1)).trans e1,e2,e3,e4,BL (fun x _ cs hx=>hx.mono hc hF t) e5,e6⟩
  |map k v es=>obtain⟨b,c,ms,clock,e1,e2,e3,e4⟩:=h;exact⟨b,c,ms,clock,e1,(hb (by simp) (by simp) b c e1 (BW e2)).trans e2,Iy.mono hc hF e3,e4⟩
  |prs T tgt is=>
   cases l with
    |none=>exact h
    |some p=>obtain⟨b,cap⟩:=p;obtain⟨vs,us,e1,e2,e3,e4,e5,e6,e7⟩:=h;exact⟨vs,us,(hb (by simp) (by simp) b cap rfl (BW e1)).trans e1,e2,e3,e4,AT.mono hc hF hcomp _ e5,e6,e7⟩
  |rows T e t xs ver out=>
   obtain⟨h0,h⟩:=h;refine⟨h0,?_⟩;cases l with
    |none=>exact h
    |some p=>obtain⟨b,cap⟩:=p;exact Hdr.mono (fun hlt=>hb (by simp) (by simp) b cap rfl hlt) h
theorem Cg{H H':List Ob}{fz:List Bool}{i:Ix}(h:H'[i.id]? = H[i.id]?):owned H' fz i↔owned H fz i:=by
 cases i with
  |o i=>simp only[owned,Bv];rw[show H'[i]? = H[i]? from h]
  |r i k=>simp only[owned];rw[show H'[i]? = H[i]? from h]
theorem Es{H:List Ob}{fz:List Bool}{i k:Nat}{o:Ob}(h:H[i]? = some o)(p:BP o=true):¬ owned H fz (.r i k):=by simp only[owned];rw[h];cases o<;>first|exact id|cases p
theorem Ce{H H':List Ob}{x:Ix}(h:H'[x.id]? = H[x.id]?):there H' x↔there H x:=by
 cases x with
  |o i=>simp only[there];rw[show H'[i]? = H[i]? from h]
  |r i k=>simp only[there];rw[show H'[i]? = H[i]? from h]
theorem AIq{H:List Ob}{i k:Nat}{o:Ob}(h:H[i]? = some o)(p:BP o=true):¬ there H (.r i k):=by simp only[there];rw[h];cases o<;>first|exact id|cases p
theorem B7.plain{w:World}{F:Nat→Prop}{m:Mp}{H:List Ob}{i:Nat}{o:Ob}(h:H[i]? = some o)(p:BP o=true):B7 w F m H i:=by intro T e t xs ver out h1;rw[h]at h1;cases h1;cases p
theorem B7.mono{w w':World}{F F':Nat→Prop}{m m':Mp}{H H':List Ob}{i:Nat}
  (hc:∀ b,F b→w'.heap[b]? = w.heap[b]?) (hF:∀ b,F b→F' b) (hcomp:CQ H H' m m') (hH:H'[i]? = H[i]?) (hm:∀ x:Ix,x.id=i→m' x=m x)
  (hb:∀ x:Ix,x.id=i→there H x→∀ b c,m x=some (b,c)→b<w.heap.size→w'.heap[b]? = w.heap[b]?) (h:B7 w F m H i):B7 w' F' m' H' i:=by
 intro T e t xs ver out h1 k ys hk;rw[hH]at h1;obtain⟨h2,h3⟩:=h T e t xs ver out h1 k ys hk;have hlt:k<List.length (α:=List t.den) xs:=by grind
 rw[hm (.r i k) rfl];refine⟨ObI.mono hc hF hcomp (fun _ _ b c hl hlt'=>hb (.r i k) rfl (by simp only[there];grind) b c hl hlt') h2,fun ho => ?_⟩;obtain⟨b,cap,u,e1,e2,e3⟩:=h3 ho;exact⟨b,cap,u,(hm (.o i) rfl).trans e1,e2.mono (hb (.o i) rfl ⟨_,h1,by simp,by simp⟩ b cap e1),e3⟩
theorem HI.neI{w:World}{F:Nat→Prop}{m:Mp}{H:List Ob}{fz:List Bool}(hi:HI w F m H fz){i:Nat}{j:Ix}{b c b' c':Nat}(ho:owned H fz j)
  (hj:m j=some (b',c')) {o:Ob} (hio:H[i]? = some o) (hal:o≠.free) (hal':o≠.dead) (hi':m i=some (b,c)) (hne:.o i≠j):b≠b':=by
 by_cases hoi:owned H fz i;exact hi.sep i j b c b' c' hoi ho hne hi' hj;cases o with
  |free=>grind
  |dead=>grind
  |box cs=>exact absurd (by simp[owned,Bv,hio]) hoi
  |map k v es=>exact absurd (by simp[owned,Bv,hio]) hoi
  |prs T tgt is=>exact absurd (by simp[owned,Bv,hio]) hoi
  |rows T e t xs ver out=>
   have hf:fz.getD i false=true:=by
    cases hx:fz.getD i false with
     |true=>rfl
     |false=>exact absurd (by simp only[owned,Bv,hio];exact hx) hoi
   have h1:=hi.rfz i T e t xs ver out hio hf i rfl ⟨_,hio,by simp,by simp⟩ b c hi';rintro rfl;exact hi.off j b c' ho hj h1
  |arr T t xs=>
   have hf:fz.getD i false=true:=by
    cases hx:fz.getD i false with
     |true=>rfl
     |false=>exact absurd (by simp only[owned,Bv,hio];exact hx) hoi
   have h1:=hi.froz i T t xs b c hio hf hi';rintro rfl;exact hi.off j b c' ho hj h1
theorem Akl{i j:Nat}(h:i≠j):Ix.o i≠Ix.o j:=fun e=>h (Ix.o.inj e)
theorem HI.ne{w:World}{F:Nat→Prop}{m:Mp}{H:List Ob}{fz:List Bool}(hi:HI w F m H fz){i j:Nat}{b c b' c':Nat}(ho:owned H fz j)
  (hj:m j=some (b',c')) {o:Ob} (hio:H[i]? = some o) (hal:o≠.free) (hal':o≠.dead) (hi':m i=some (b,c)) (hne:i≠j):b≠b':=hi.neI ho hj hio hal hal' hi' (Akl hne)
theorem DD{H:List Ob}{fz:List Bool}{i:Ix}(h:owned H fz i):∃ o,H[i.id]? = some o∧o≠.free∧o≠.dead:=by
 cases i with
  |o i=>simp only[owned,Bv]at h;split at h;rename_i h1;exact⟨_,h1,by simp,by simp⟩;rename_i h1;exact⟨_,h1,by simp,by simp⟩;rename_i h1;exact⟨_,h1,by simp,by simp⟩;rename_i h1;exact⟨_,h1,by simp,by simp⟩;rename_i h1;exact⟨_,h1,by simp,by simp⟩;grind
  |r i k=>simp only[owned]at h;split at h;rename_i h1;exact⟨_,h1,by simp,by simp⟩;grind
theorem owned.there{H:List Ob}{fz:List Bool}{x:Ix}(h:owned H fz x):there H x:=by
 cases x with
  |o i=>exact DD h
  |r i k=>simp only[owned,Pev.there]at *;grind
theorem HI.neX{w:World}{F:Nat→Prop}{m:Mp}{H:List Ob}{fz:List Bool}(hi:HI w F m H fz){x j:Ix}{b c b' c':Nat}(ho:owned H fz j)
  (hj:m j=some (b',c')) (ht:there H x) (hx:m x=some (b,c)) (hne:x≠j):b≠b':=by
 cases x with
  |o i=>obtain⟨o,h1,h2,h3⟩:=ht;exact hi.neI ho hj h1 h2 h3 hx hne
  |r i k=>
   by_cases hox:owned H fz (.r i k);exact hi.sep _ _ b c b' c' hox ho hne hx hj;have ht':=ht;simp only[there,owned]at ht hox;split at ht;rename_i T e t xs ver out h1;have hf:fz.getD i false=true:=by grind
   have h2:=hi.rfz i T e t xs ver out h1 hf (.r i k) rfl ht' b c hx;rintro rfl;exact hi.off j b c' ho hj h2;grind
theorem Eu{H:List Ob}{fz:List Bool}{i:Nat}(h:owned H fz i):∃ o,H[i]? = some o∧o≠.free∧o≠.dead:=DD h
theorem ObI.lt{w:World}{F:Nat→Prop}{m:Mp}{H:List Ob}{o:Ob}{b c:Nat}(h:ObI w F m H o (some (b,c)))(h1:o≠.free)(h2:o≠.dead):b<w.heap.size:=by
 cases o with
  |free=>grind
  |dead=>grind
  |box cs=>obtain⟨b,c,vs,T,e1,e2,_⟩:=h;grind
  |map k v es=>obtain⟨b,c,vs,T,e1,e2,_⟩:=h;grind
  |arr T t xs=>obtain⟨_,vs,row,e1,_⟩:=h;grind
  |prs T tgt is=>obtain⟨vs,us,e1,_⟩:=h;grind
  |rows T e t xs ver out=>obtain⟨_,h⟩:=h;exact Hdr.lt h
theorem HI.AKr{w:World}{F:Nat→Prop}{m:Mp}{H:List Ob}{fz:List Bool}(hi:HI w F m H fz){i:Ix}{b c:Nat}(h:there H i)(hm:m i=some (b,c)):b<w.heap.size:=by
 cases i with
  |o i=>obtain⟨o,ho,h1,h2⟩:=h;have:=hi.obj i o ho;rw[hm]at this;exact this.lt h1 h2
  |r i k=>
   simp only[there]at h;split at h;rename_i T e t xs ver out h3;obtain⟨ys,hys⟩:∃ ys:List t.den,xs[k]? = some ys:=⟨_,Apz h⟩
   have:=((hi.row i) T e t xs ver out h3 k ys hys).1;rw[hm]at this;exact this.lt (by simp) (by simp);grind
theorem HI.IU{w:World}{F:Nat→Prop}{m:Mp}{H:List Ob}{fz:List Bool}(hi:HI w F m H fz){i:Ix}{b c:Nat}(h:owned H fz i)(hm:m i=some (b,c)):b<w.heap.size:=hi.AKr h.there hm
def Af(w:World)(F:Nat→Prop)(m:Mp)(H:List Ob)(fz:List Bool)(w':World)(F':Nat→Prop)(m':Mp)(H':List Ob)(fz':List Bool):Prop:=
 Ext w F m H fz w' F' m' H' fz'∧HI w' F' m' H' fz'
theorem Af.trans{w w1 w2:World}{F F1 F2:Nat→Prop}{m m1 m2:Mp}{H H1 H2:List Ob}{fz fz1 fz2:List Bool}
  (h:Af w F m H fz w1 F1 m1 H1 fz1) (k:Af w1 F1 m1 H1 fz1 w2 F2 m2 H2 fz2):Af w F m H fz w2 F2 m2 H2 fz2:=⟨h.1.trans k.1,k.2⟩
section
variable {w w':World} {F:Nat→Prop} {m:Mp} {H:List Ob} {fz:List Bool}
theorem Af.refl(hi:HI w F m H fz):Af w F m H fz w F m H fz:=⟨Ext.refl ..,hi⟩
theorem Af.grow(hi:HI w F m H fz)(h1:w'.os=w.os)(h2:w'.tape=w.tape)(h3:w'.output=w.output)(hsz:w.heap.size≤w'.heap.size)(hb:∀ b,b<w.heap.size→w'.heap[b]? = w.heap[b]?):
  Af w F m H fz w' F m H fz:=by refine⟨⟨h1,h2,h3,hsz,fun b h _=>hb b h,fun _ h=>h,fun _ h=>.inl h,fun i b c h1 h2=>.inl ⟨i,c,h1,h2⟩,CQ.refl H m⟩,?_,?_,hi.rfz,hi.sep,hi.off,hi.froz,fun b h=>Aq1 (hi.lt b h) hsz,hi.glo.mono (fun b hF=>hb b (hi.lt b hF)) (fun _ h=>h),hi.len⟩;exact fun id o ho=>ObI.mono (fun b hF=>hb b (hi.lt b hF)) (fun _ h=>h) (CQ.refl H m) (fun _ _ b c _ hlt=>hb b hlt) (hi.obj id o ho);exact fun i=>B7.mono (fun b hF=>hb b (hi.lt b hF)) (fun _ h=>h) (CQ.refl H m) rfl (fun _ _=>rfl) (fun _ _ _ b c _ hlt=>hb b hlt) (hi.row i)
theorem Af.drew(hi:HI w F m H fz):Af w F m H fz w.drew F m H fz:=Af.grow hi rfl rfl rfl (Ap1 _) fun _ _=>rfl
def upd(m:Mp)(i:Nat)(l:Option (Nat×Nat)):Mp:=fun j=>if j = .o i then l else m j
theorem Am(m:Mp)(i:Nat)(l:Option (Nat×Nat)):upd m i l i=l:=by simp[upd]
theorem Ed{m:Mp}{i:Nat}{j:Ix}{l:Option (Nat×Nat)}(h:j≠.o i):upd m i l j=m j:=by simp[upd,h]
theorem Fh{m:Mp}{i j:Nat}{l:Option (Nat×Nat)}(h:j≠i):upd m i l j=m j:=Ed (Akl h)
def Ns(m:Mp)(i:Nat)(l:Option (Nat×Nat))(f:Nat→Option (Nat×Nat)):Mp
 |.o j=>if j=i then l else m (.o j)
 |.r j k=>if j=i then f k else m (.r j k)
theorem KY{m:Mp}{i:Nat}{l:Option (Nat×Nat)}{f:Nat→Option (Nat×Nat)}:Ns m i l f (.o i)=l:=by simp[Ns]
theorem AEa{m:Mp}{i k:Nat}{l:Option (Nat×Nat)}{f:Nat→Option (Nat×Nat)}:Ns m i l f (.r i k)=f k:=by simp[Ns]
theorem HN{m:Mp}{i:Nat}{l:Option (Nat×Nat)}{f:Nat→Option (Nat×Nat)}{x:Ix}(h:x.id≠i):Ns m i l f x=m x:=by
 cases x with
  |o j=>have h:j≠i:=h;simp[Ns,h]
  |r j k=>have h:j≠i:=h;simp[Ns,h]
theorem Wf{m:Mp}{i j:Nat}{l:Option (Nat×Nat)}(h:j≠i)(x:Ix)(hx:x.id=j):upd m i l x=m x:=Ed (by rintro rfl;exact h hx.symm)
theorem Aw{H:List Ob}{i j:Nat}{o:Ob}(h:j≠i):(H.set i o)[j]? = H[j]? := by grind
theorem BM{slot:Nat}(h:Aq H fz slot=true):H[slot]? = some .free∧fz.getD slot false=false:=by unfold Aq at h;grind
theorem Aj{H:List Ob}{i:Nat}{o:Ob}(h:H[i]? = some o):i<H.length:=by grind
theorem Ax{H:List Ob}{i:Nat}{o:Ob}(h:i<H.length):(H.set i o)[i]? = some o:=by simp[h]
def alive:Ob→Prop
 |.free=>False
 |.dead=>False
 |_=>True
theorem Af.new(hi:HI w F m H fz){slot:Nat}(hs:Aq H fz slot=true){ob:Ob}(hal:alive ob)(l:Option (Nat×Nat))
  (h1:w'.os=w.os) (h2:w'.tape=w.tape) (h3:w'.output=w.output) (hsz:w.heap.size≤w'.heap.size) (hb:∀ b,b<w.heap.size→w'.heap[b]? = w.heap[b]?)
  (hl:∀ b c,l=some (b,c)→w.heap.size≤b)
  (ho:(∀ {a:AV} {v:Value},Rep w F m H a v→Rep w' F (upd m slot l) (H.set slot ob) a v)→ObI w' F (upd m slot l) (H.set slot ob) ob l) (hpl:BP ob=true:=by rfl) :
  Af w F m H fz w' F (upd m slot l) (H.set slot ob) fz:=by
 obtain⟨hs1,hs2⟩:=BM hs;have hlt:=Aj hs1;have hcell:∀ b,F b→w'.heap[b]? = w.heap[b]? := fun b hF=>hb b (hi.lt b hF);have hcomp:CQ H (H.set slot ob) m (upd m slot l):=by
  intro i o hio hf;have hne:i≠slot:=by grind
  rcases CQ.refl H m i o hio hf with h|⟨hd,o',h4,h5,_⟩
  grind;exact .inr ⟨hd,o',by grind,h5,Fh hne,fun _ _ k=>Ed (by simp)⟩
 have hown:∀ i:Ix,i≠.o slot→(owned (H.set slot ob) fz i↔owned H fz i):=fun i hne=>by
  by_cases hid:i.id=slot;cases i with
   |o i=>exact absurd (Aqx Ix.o hid) hne
   |r i k=>have hid:i=slot:=hid;subst hid;exact⟨fun h=>absurd h (Es (Ax hlt) hpl),fun h=>absurd h (Es hs1 rfl)⟩
  exact Cg (Aw hid)
 refine⟨⟨h1,h2,h3,hsz,fun b h _=>hb b h,fun _ h=>h,fun _ h=>.inl h,?_,hcomp⟩,⟨?_,?_,?_,?_,?_,?_,fun b h=>Aq1 (hi.lt b h) hsz,hi.glo.mono hcell (fun _ h=>h),by simpa using hi.len⟩⟩;intro i b c ho' hm;by_cases hne:i = .o slot;subst hne;rw[Am]at hm;grind;rw[Ed hne]at hm;grind;intro id o hio;by_cases hne:id=slot;subst hne;rw[Ax hlt]at hio;cases hio;rw[Am];exact ho fun h=>Rep.mono hcell (fun _ h=>h) hcomp _ h;rw[Aw hne]at hio;rw[Fh hne];exact ObI.mono hcell (fun _ h=>h) hcomp (fun _ _ b c _ hlt=>hb b hlt) (hi.obj id o hio);intro i;by_cases hne:i=slot;subst hne;exact B7.plain (Ax hlt) hpl;exact B7.mono hcell (fun _ h=>h) hcomp (Aw hne) (fun x hx=>Wf hne x hx) (fun _ _ _ b c _ hlt=>hb b hlt) (hi.row i);intro i T e t xs ver out hio hf x hx ht b c hm;by_cases hne:i=slot;grind;rw[Wf hne x hx]at hm;rw[Aw hne]at hio;exact hi.rfz i T e t xs ver out hio hf x hx ((Ce (by grind)).1 ht) b c hm;intro i j b c b' c' hoi hoj hij hmi hmj;by_cases hi1:i = .o slot;subst hi1;have hj1:=Aq2 hij;rw[Am]at hmi;rw[Ed hj1]at hmj;have:=hi.IU ((hown j hj1).1 hoj) hmj;grind;rw[Ed hi1]at hmi;by_cases hj1:j = .o slot;subst hj1;rw[Am]at hmj;have:=hi.IU ((hown i hi1).1 hoi) hmi;grind;rw[Ed hj1]at hmj;exact hi.sep i j b c b' c' ((hown i hi1).1 hoi) ((hown j hj1).1 hoj) hij hmi hmj;intro i b c hoi hmi hF;by_cases hi1:i = .o slot;subst hi1;rw[Am]at hmi;have:=hl b c hmi;have:=hi.lt b hF;omega;rw[Ed hi1]at hmi;exact hi.off i b c ((hown i hi1).1 hoi) hmi hF;intro i T t xs b c hio hf hmi;by_cases hi1:i=slot;grind;rw[Fh hi1]at hmi;rw[Aw hi1]at hio;exact hi.froz i T t xs b c hio hf hmi
theorem Af.set(hi:HI w F m H fz){j b c:Nat}(hoj:owned H fz j)(hmj:m j=some (b,c)){o o':Ob}(hj:H[j]? = some o)(hss:sameShape o o')
  (h1:w'.os=w.os) (h2:w'.tape=w.tape) (h3:w'.output=w.output) (hsz:w'.heap.size=w.heap.size) (hb:∀ k,k≠b→w'.heap[k]? = w.heap[k]?)
  (ho:(∀ {a:AV} {v:Value},Rep w F m H a v→Rep w' F m (H.set j o') a v)→ObI w' F m (H.set j o') o' (m j)) (hpl:BP o'=true:=by rfl) :
  Af w F m H fz w' F m (H.set j o') fz:=by
 have hlt:=Aj hj;have hcell:∀ b,F b→w'.heap[b]? = w.heap[b]? := fun k ha=>hb k (by rintro e;exact hi.off j b c hoj hmj (e▸ha));have hcomp:CQ H (H.set j o') m m:=by
  intro i x hix hf;by_cases hne:i=j;subst hne;rw[hj]at hix;cases hix;exact .inr ⟨by rintro rfl;simp[sameShape]at hss,o',Ax hlt,hss,rfl,fun _ _ _=>rfl⟩
  ·rcases CQ.refl H m i x hix hf with h|⟨hd,x',h4,h5,_⟩
   all_goals grind
 have hown:∀ i:Ix,owned (H.set j o') fz i→owned H fz i:=fun i hoi=>by
  by_cases hid:i.id=j;cases i with
   |o i=>have hid:i=j:=hid;grind
   |r i k=>have hid:i=j:=hid;subst hid;exact absurd hoi (Es (Ax hlt) hpl)
  exact(Cg (Aw hid)).1 hoi
 refine⟨⟨h1,h2,h3,Ars hsz.symm,fun k _ hk=>hb k ?_,fun _ h=>h,fun _ h=>.inl h,fun i b c ho' hm=>.inl ⟨i,c,hown i ho',hm⟩,hcomp⟩,⟨?_,?_,?_,?_,?_,?_,fun b h=>by rw[hsz];exact hi.lt b h,hi.glo.mono hcell (fun _ h=>h),by simpa using hi.len⟩⟩;grind;intro id x hix;by_cases hne:id=j;subst hne;rw[Ax hlt]at hix;cases hix;exact ho fun h=>Rep.mono hcell (fun _ h=>h) hcomp _ h;rw[Aw hne]at hix;exact ObI.mono hcell (fun _ h=>h) hcomp (fun n1 n2 b' c' hm _=>hb b' (hi.ne hoj hmj hix n1 n2 hm hne)) (hi.obj id x hix);intro i;by_cases hne:i=j;subst hne;exact B7.plain (Ax hlt) hpl;exact B7.mono hcell (fun _ h=>h) hcomp (Aw hne) (fun _ _=>rfl) (fun x hx hox b' c' hm _=>hb b' (hi.neX hoj hmj hox hm (by rintro rfl;exact hne hx.symm))) (hi.row i);intro i T e t xs ver out hio hf x hx ht b' c' hm;by_cases hne:i=j;subst hne;rw[Ax hlt]at hio;cases hio;cases hpl;rw[Aw hne]at hio;exact hi.rfz i T e t xs ver out hio hf x hx ((Ce (by grind)).1 ht) b' c' hm;exact fun i k b c b' c' hoi hok=>hi.sep i k b c b' c' (hown i hoi) (hown k hok);exact fun i b c hoi=>hi.off i b c (hown i hoi);intro i T t xs b' c' hio hf hmi;by_cases hne:i=j;subst hne;rw[Ax hlt]at hio;cases hio;cases o<;>simp only[sameShape]at hss;simp only[owned,Bv]at hoj;grind;rw[Aw hne]at hio;exact hi.froz i T t xs b' c' hio hf hmi
theorem Af.move(hi:HI w F m H fz){j b c slot:Nat}(hoj:owned H fz j)(hmj:m j=some (b,c))(hs:Aq H fz slot=true){ob:Ob}(hal:alive ob){b' c':Nat}
  (hb':b'=b∨w.heap.size≤b')
  (h1:w'.os=w.os) (h2:w'.tape=w.tape) (h3:w'.output=w.output) (hsz:w.heap.size≤w'.heap.size) (hb:∀ k,k<w.heap.size→k≠b→w'.heap[k]? = w.heap[k]?)
  (ho:(∀ {a:AV} {v:Value},Rep w F m H a v→Rep w' F (upd m slot (some (b',c'))) ((H.set j .dead).set slot ob) a v)→ObI w' F (upd m slot (some (b',c'))) ((H.set j .dead).set slot ob) ob (some (b',c'))) (hpl:BP ob=true:=by rfl) :
  Af w F m H fz w' F (upd m slot (some (b',c'))) ((H.set j .dead).set slot ob) fz:=by
 obtain⟨hs1,hs2⟩:=BM hs;obtain⟨oj,hj,hjf,hjd⟩:=Eu hoj;have hjs:j≠slot:=by grind
 have hltj:=Aj hj;have hlts:=Aj hs1;have hgs:((H.set j .dead).set slot ob)[slot]? = some ob:=Ax (by grind);have hgj:((H.set j .dead).set slot ob)[j]? = some .dead:=by grind
 have hgo:∀ i,i≠j→i≠slot→((H.set j .dead).set slot ob)[i]? = H[i]? := fun i h4 h5=>by grind
 have hbF:¬ F b:=hi.off j b c hoj hmj;have hcell:∀ b,F b→w'.heap[b]? = w.heap[b]? := fun k ha=>hb k (hi.lt _ ha) (by grind);have hcomp:CQ H ((H.set j .dead).set slot ob) m (upd m slot (some (b',c'))):=by
  intro i x hix hf;have hne:i≠slot:=by grind
  by_cases hij:i=j;grind;rcases CQ.refl H m i x hix hf with h|⟨hd,x',h4,h5,_⟩
  grind;exact .inr ⟨hd,x',by grind,h5,Fh hne,fun _ _ k=>Ed (by simp)⟩
 have hown:∀ i:Ix,i≠.o slot→owned ((H.set j .dead).set slot ob) fz i→owned H fz i∧i≠.o j:=fun i hne hoi=>by
  by_cases hid:i.id=slot;cases i with
   |o i=>exact absurd (Aqx Ix.o hid) hne
   |r i k=>have hid:i=slot:=hid;subst hid;exact absurd hoi (Es hgs hpl)
  by_cases hij:i.id=j;obtain⟨o,ho,_,hd⟩:=DD hoi;grind;exact⟨(Cg (hgo i.id hij hid)).1 hoi,by rintro rfl;exact hij rfl⟩
 refine⟨⟨h1,h2,h3,hsz,fun k hk hn=>hb k hk ?_,fun _ h=>h,fun _ h=>.inl h,?_,hcomp⟩,⟨?_,?_,?_,?_,?_,?_,fun b h=>Aq1 (hi.lt b h) hsz,hi.glo.mono hcell (fun _ h=>h),by simpa using hi.len⟩⟩;grind;intro i b2 c2 ho' hm;by_cases hne:i = .o slot;subst hne;rw[Am]at hm;grind;rw[Ed hne]at hm;grind;intro id x hix;by_cases hne:id=slot;subst hne;rw[hgs]at hix;cases hix;rw[Am];exact ho fun h=>Rep.mono hcell (fun _ h=>h) hcomp _ h;rw[Fh hne];by_cases hij:id=j;subst hij;rw[hgj]at hix;cases hix;trivial;rw[hgo id hij hne]at hix;exact ObI.mono hcell (fun _ h=>h) hcomp (fun n1 n2 b2 c2 hm hlt=>hb b2 hlt (hi.ne hoj hmj hix n1 n2 hm hij)) (hi.obj id x hix);intro i;by_cases hne:i=slot;subst hne;exact B7.plain hgs hpl;by_cases hij:i=j;subst hij;exact B7.plain hgj rfl;exact B7.mono hcell (fun _ h=>h) hcomp (hgo i hij hne) (fun x hx=>Wf hne x hx) (fun x hx hox b2 c2 hm hlt=>hb b2 hlt (hi.neX hoj hmj hox hm (by rintro rfl;exact hij hx.symm))) (hi.row i);intro i T e t xs ver out hio hf x hx ht b2 c2 hm;by_cases hne:i=slot;grind;by_cases hij:i=j;grind;rw[hgo i hij hne]at hio;rw[Wf hne x hx]at hm;exact hi.rfz i T e t xs ver out hio hf x hx ((Ce (by grind)).1 ht) b2 c2 hm;intro i k b1 c1 b2 c2 hoi hok hik hmi hmk;by_cases hi1:i = .o slot;subst hi1;have hk1:=Aq2 hik;rw[Am]at hmi;cases hmi;rw[Ed hk1]at hmk;obtain⟨hok,hkj⟩:=hown k hk1 hok;rcases hb' with rfl|h;exact(hi.sep k j b2 c2 b' c hok hoj hkj hmk hmj).symm;have:=hi.IU hok hmk;omega;rw[Ed hi1]at hmi;obtain⟨hoi',hij⟩:=hown i hi1 hoi;by_cases hk1:k = .o slot;subst hk1;rw[Am]at hmk;cases hmk;rcases hb' with rfl|h;exact hi.sep i j b1 c1 b' c hoi' hoj hij hmi hmj;have:=hi.IU hoi' hmi;omega;rw[Ed hk1]at hmk;exact hi.sep i k b1 c1 b2 c2 hoi' (hown k hk1 hok).1 hik hmi hmk;intro i b1 c1 hoi hmi hF;by_cases hi1:i = .o slot;subst hi1;rw[Am]at hmi;cases hmi;rcases hb' with rfl|h;grind;have:=hi.lt _ hF;omega;rw[Ed hi1]at hmi;exact hi.off i b1 c1 (hown i hi1 hoi).1 hmi hF;intro i T t xs b1 c1 hio hf hmi;by_cases hi1:i=slot;grind;rw[Fh hi1]at hmi;by_cases hij:i=j;grind;rw[hgo i hij hi1]at hio;exact hi.froz i T t xs b1 c1 hio hf hmi
def AV0(H:List Ob)(x:Ix):Prop:=there H x∧((∃ T t xs,H[x.id]? = some (.arr T t xs))∨∃ T e t xs ver out,H[x.id]? = some (.rows T e t xs ver out))
def DF(F:Nat→Prop)(m:Mp)(H:List Ob)(ids:List Nat)(b:Nat):Prop:=
 F b∨∃ x:Ix,x.id∈ids∧AV0 H x∧∃ c,m x=some (b,c)
theorem DB(ids:List Nat):∀ (fz:List Bool),(AY ids fz).length=fz.length:=by
 induction ids with
  |nil=>intro fz;rfl
  |cons a ids ih=>intro fz;rw[AY,ih,Ard]
theorem Av(ids:List Nat):∀ (fz:List Bool) (i:Nat),(AY ids fz).getD i false=(fz.getD i false||(decide (i∈ids)&&decide (i<fz.length))):=by
 induction ids with
  |nil=>intro fz i;simp[AY]
  |cons a ids ih=>intro fz i;rw[AY,ih,Ard];grind
theorem Af.freeze(hi:HI w F m H fz)(ids:List Nat):Af w F m H fz w (DF F m H ids) m H (AY ids fz):=by
 have hlen:∀ {i:Nat} {o:Ob},H[i]? = some o→i<fz.length:=fun h=>Aq1 (Aj h) (Ars hi.len);have unf:∀ {i:Nat},(AY ids fz).getD i false=false→i<fz.length→fz.getD i false=false∧i∉ids:=by intro i h hl;rw[Av]at h;grind
 have hown:∀ x:Ix,owned H (AY ids fz) x→owned H fz x∧(x.id∉ids∨¬ AV0 H x):=by
  intro x ho;cases x with
   |r i k=>simp only[owned]at ho ⊢;split at ho;rename_i T e t xs ver out h1;obtain⟨h2,h3⟩:=unf ho.2 (hlen h1);exact⟨⟨ho.1,h2⟩,.inl h3⟩;grind
   |o i=>
    simp only[owned,Bv]at ho ⊢;cases hio:H[i]? with
     |none=>grind
     |some o=>
      rw[hio]at ho;have no:((∃ T t xs,o=Ob.arr T t xs)∨∃ T e t xs ver out,o=Ob.rows T e t xs ver out)∨¬ AV0 H (.o i):=by
       by_cases h:(∃ T t xs,o=Ob.arr T t xs)∨∃ T e t xs ver out,o=Ob.rows T e t xs ver out;grind;refine .inr fun ⟨_,h2⟩=>h ?_;rcases h2 with⟨T,t,xs,h2⟩|⟨T,e,t,xs,ver,out,h2⟩
       have h2:H[i]? = some (.arr T t xs):=h2;grind;have h2:H[i]? = some (.rows T e t xs ver out):=h2;grind
      cases o with
       |free=>grind
       |dead=>grind
       |box cs=>grind
       |map k v es=>grind
       |prs T tgt is=>grind
       |rows T e t xs ver out=>obtain⟨h2,h3⟩:=unf ho (hlen hio);exact⟨h2,.inl h3⟩
       |arr T t xs=>obtain⟨h2,h3⟩:=unf ho (hlen hio);exact⟨h2,.inl h3⟩
 have hsub:∀ b,F b→DF F m H ids b:=fun b h=>.inl h;have hownS:∀ x:Ix,AV0 H x→owned H fz x∨(∀ b c,m x=some (b,c)→F b):=by
  rintro x ⟨ht,⟨T,t,xs,h⟩|⟨T,e,t,xs,ver,out,h⟩⟩;cases x with
   |r i k=>exact absurd ht (AIq h rfl)
   |o i=>
    have h:H[i]? = some (.arr T t xs):=h;cases hx:fz.getD i false with
     |true=>exact .inr fun b c hm=>hi.froz i T t xs b c h hx hm
     |false=>exact .inl (by simp only[owned,Bv];grind)
  cases hx:fz.getD x.id false with
   |true=>exact .inr fun b c hm=>hi.rfz x.id T e t xs ver out h hx x rfl ht b c hm
   |false=>
    left;cases x with
     |o i=>simp only[owned,Bv];rw[show H[i]? = _ from h];exact hx
     |r i k=>simp only[owned,there]at ht ⊢;rw[show H[i]? = _ from h]at ht ⊢;exact⟨ht,hx⟩
 refine⟨⟨rfl,rfl,rfl,Ap1 _,fun _ _ _=>rfl,hsub,?_,fun i b c h1 h2=>.inl ⟨i,c,(hown i h1).1,h2⟩,CQ.refl H m⟩,⟨?_,?_,?_,?_,?_,?_,?_,hi.glo.mono (fun _ _=>rfl) hsub,by rw[DB];exact hi.len⟩⟩;·rintro b (h|⟨x,hx,h4,c,h5⟩);all_goals grind
 exact fun id o ho=>ObI.mono (fun _ _=>rfl) hsub (CQ.refl H m) (fun _ _ _ _ _ _=>rfl) (hi.obj id o ho);exact fun i=>B7.mono (fun _ _=>rfl) hsub (CQ.refl H m) rfl (fun _ _=>rfl) (fun _ _ _ _ _ _ _=>rfl) (hi.row i);intro i T e t xs ver out hio hf x hx ht b c hm;rw[Av]at hf;simp only[Aqu,Apt,Aps]at hf;rcases hf with hf|⟨hf,_⟩
 exact .inl (hi.rfz i T e t xs ver out hio hf x hx ht b c hm);exact .inr ⟨x,by grind,⟨ht,.inr ⟨T,e,t,xs,ver,out,by grind⟩⟩,c,hm⟩;exact fun i j b c b' c' h1 h2=>hi.sep i j b c b' c' (hown i h1).1 (hown j h2).1;rintro i b c h1 h2 (hF|⟨x,hx,h4,c',h5⟩);exact hi.off i b c (hown i h1).1 h2 hF;have hki:x≠i:=by grind
 exact hi.neX (hown i h1).1 h2 h4.1 h5 hki rfl;intro i T t xs b c hio hf hmi;rw[Av]at hf;simp only[Aqu,Apt,Aps]at hf;rcases hf with hf|⟨hf,_⟩
 exact .inl (hi.froz i T t xs b c hio hf hmi);exact .inr ⟨.o i,hf,⟨⟨_,hio,by simp,by simp⟩,.inl ⟨T,t,xs,hio⟩⟩,c,hmi⟩;rintro b (h|⟨x,_,h4,c,h5⟩);exact hi.lt b h;exact hi.AKr h4.1 h5
end
end Go.Pev
end
section
namespace Go.Pev
open Go.RowKit
theorem H5(a:Addr)(n:Nat):(a.add n).block=a.block:=by unfold Addr.add;grind
theorem add_add(a:Addr)(i j:Nat):(a.add i).add j=a.add (i+j):=by unfold Addr.add;grind
theorem CB(b o n:Nat):(⟨b,o,none⟩:Addr).add n=⟨b,o+n,none⟩:=by unfold Addr.add;simp
theorem C4{t t':Ty}{d:t.den}{x:t'.den}(h:cast d=some x):∃ e:t=t',e▸d=x:=by unfold cast at h;grind
theorem CU{t t':Ty}{d:List t.den}{x:List t'.den}(h:LZ d=some x):∃ e:t=t',e▸d=x:=by unfold LZ at h;grind
theorem D5{α:Type}{R:α→List Value→Prop}{k:Nat}(hk:∀ x cs,R x cs→cs.length=k):∀ {xs:List α} {cs:List Value} (n:Nat),rows R xs cs→rows R (xs.take n) (cs.take (n*k)):=by
 intro xs;induction xs with
  |nil=>rintro cs n rfl;simp[rows]
  |cons x xs ih=>
   rintro cs n ⟨c1,c2,rfl,h1,h2⟩;cases n with
    |zero=>simp[rows]
    |succ n=>have hl:=hk _ _ h1;refine⟨c1,c2.take (n*k),?_,h1,ih n h2⟩;rw[Asf,Aq7,Arr,ArM (by omega)];grind
theorem Hn{α:Type}{R:α→List Value→Prop}{k:Nat}(hk:∀ x cs,R x cs→cs.length=k):∀ {xs:List α} {cs:List Value} (n:Nat),rows R xs cs→rows R (xs.drop n) (cs.drop (n*k)):=by
 intro xs;induction xs with
  |nil=>rintro cs n rfl;simp[rows]
  |cons x xs ih=>
   rintro cs n ⟨c1,c2,rfl,h1,h2⟩;cases n with
    |zero=>simp only[ArY,Ar7];exact⟨c1,c2,rfl,h1,h2⟩
    |succ n=>
     have hl:=hk _ _ h1;have e:(c1++c2).drop ((n+1)*k)=c2.drop (n*k):=by rw[Aq7,Arr,List.drop_append,Aqq (show c1.length≤n*k+k by omega),AqI];grind
     grind
theorem Lz{α:Type}{R:α→List Value→Prop}{k:Nat}(hk:∀ x cs,R x cs→cs.length=k){xs:List α}{cs:List Value}(h:rows R xs cs){i:Nat}{x:α}(hx:xs[i]? = some x):
  R x ((cs.drop (i*k)).take k):=by
 have h1:=D5 hk 1 (Hn hk i h);rw[Arr]at h1;have h2:(xs.drop i).take 1=[x]:=by
  have hlt:i<xs.length:=by grind
  rw[AqX hlt];grind
 rw[h2]at h1;obtain⟨c1,c2,e,h3,rfl⟩:=h1;grind
theorem IJ{α:Type}{R:α→List Value→Prop}{xs ys:List α}{cs ds:List Value}(h:rows R xs cs)(h':rows R ys ds):rows R (xs++ys) (cs++ds):=by
 induction xs generalizing cs with
  |nil=>cases h;grind
  |cons x xs ih=>obtain⟨c1,c2,rfl,h1,h2⟩:=h;exact⟨c1,c2++ds,by simp,h1,ih h2⟩
theorem AJS{α:Type}{R:α→List Value→Prop}{k:Nat}(hk:∀ x cs,R x cs→cs.length=k):∀ {xs:List α} {cs:List Value} {i:Nat} {y:α} {ds:List Value},rows R xs cs→i<xs.length→R y ds →
  rows R (xs.set i y) (cs.take (i*k)++ds++cs.drop (i*k+k)):=by
 intro xs;induction xs with
  |nil=>simp
  |cons x xs ih=>
   rintro cs i y ds ⟨c1,c2,rfl,h1,h2⟩ hi hy;have hl:=hk _ _ h1;cases i with
    |zero=>simp only[List.set_cons_zero,Ar7,List.take_zero,AqI,Aqg];refine⟨ds,c2,?_,hy,h2⟩;grind
    |succ i=>simp only[List.set_cons_succ];refine⟨c1,_,?_,h1,ih h2 (by grind) hy⟩;rw[Aq7,Arr,Asf,ArM (show c1.length≤i*k+k by omega),List.drop_append,Aqq (show c1.length≤i*k+k+k by omega)];grind
section
variable {w:World} {F:Nat→Prop} {m:Mp} {H:List Ob} {fz:List Bool}
theorem Aat{ids ids':List Nat}(h:∀ i∈ids,i∈ids'){b:Nat}(hb:DF F m H ids b):DF F m H ids' b:=by
 rcases hb with hb|⟨i,hi,r⟩
 exact .inl hb;exact .inr ⟨i,h i.id hi,r⟩
theorem Dat.frz{t:Ty}{d:t.den}{cs:List Value}{ids:List Nat}(h:Dat w F t d cs):Dat w (DF F m H ids) t d cs:=h.mono (fun _ _=>rfl) (fun _=>.inl) t
theorem Dat.AhE{t:Ty}{d:t.den}{cs:List Value}{ids ids':List Nat}(hh:∀ i∈ids,i∈ids')(h:Dat w (DF F m H ids) t d cs):Dat w (DF F m H ids') t d cs:=h.mono (fun _ _=>rfl) (fun _=>Aat hh) t
theorem AAw{vs:Array Value}{row:List Value}(h:vs.toList.take row.length=row){j:Nat}{u:Value}(hu:row[j]? = some u):vs[j]? = some u:=by grind
theorem Sl{F':Nat→Prop}{l:Option (Nat×Nat)}{T:TypeId}{e:Ty}{xs:List e.den}(h:ObI w F m H (.arr T e xs) l){v:Value}(hr:A4 (some (.arr T e xs)) l v)(hF:∀ b,F b→F' b)(hl:∀ b c,l=some (b,c)→F' b):
  Dat w F' (.slice e) xs [v]:=by
 obtain⟨_,h⟩:=h;cases l with
  |none=>obtain⟨a,rfl⟩:=hr;simp only at h;subst h;exact⟨a,0,rfl,Ap1 _,fun h=>absurd rfl h⟩
  |some p=>obtain⟨b,cap⟩:=p;obtain⟨vs,row,e1,e2,e3,e4,e5,e6⟩:=h;simp only[A4]at hr;subst hr;refine⟨_,cap,rfl,e2,fun _=>⟨_,row,rfl,hl b cap rfl,BL (fun x _ cs hx=>hx.mono (fun _ _=>rfl) hF e) e5,fun j u hu => ?_⟩⟩;rw[CB];simp only[World.cell?,e1,Aqg];grind
theorem AVz{id:Nat}{T:TypeId}{e:Ty}{xs:List e.den}(ho:H[id]? = some (.arr T e xs)){b c:Nat}(hm:m id=some (b,c)):DF F m H [id] b:=
 .inr ⟨.o id,by simp[Ix.id],⟨⟨_,ho,by simp,by simp⟩,.inl ⟨T,e,xs,ho⟩⟩,c,hm⟩
theorem ASb(hi:HI w F m H fz){id:Nat}{T:TypeId}{e:Ty}{xs:List e.den}(ho:H[id]? = some (.arr T e xs)){v:Value}(hr:A4 (some (.arr T e xs)) (m id) v):
  Dat w (DF F m H [id]) (.slice e) xs [v]:=Sl (hi.obj id _ ho) hr (fun _=>.inl) fun _ _ hm=>AVz ho hm
theorem AYs{α:Type}{R:α→List Value→Prop}:∀ {xs:List α} {us:List Value},us.length=xs.length→(∀ (k:Nat) (x:α) (u:Value),xs[k]? = some x→us[k]? = some u→R x [u])→rows R xs us:=by
 intro xs;induction xs with
  |nil=>intro us hl _;exact AqN hl
  |cons x xs ih=>
   intro us hl h;match us,hl with
   |u::us,hl=>exact⟨[u],us,rfl,h 0 x u rfl rfl,ih (by grind) fun k y v hy hv=>h (k+1) y v hy hv⟩
theorem ALu(hi:HI w F m H fz){id:Nat}{T e:TypeId}{t:Ty}{xs:List (List t.den)}{ver:Nat}(ho:H[id]? = some (.rows (.arr T) e t xs ver none)){v:Value}(hr:A4 (some (.rows (.arr T) e t xs ver none)) (m id) v):
  Dat w (DF F m H [id]) (.slice (.slice t)) xs [v]:=by
 obtain⟨_,h⟩:=hi.obj id _ ho;have hfr:∀ x:Ix,x.id=id→there H x→∀ b c,m x=some (b,c)→DF F m H [id] b:=fun x hx ht b c hm=>.inr ⟨x,by simp[hx],⟨ht,.inr ⟨.arr T,e,t,xs,ver,none,by grind⟩⟩,c,hm⟩;cases hm:m id with
  |none=>rw[hm]at h hr;obtain⟨a,rfl⟩:=hr;obtain⟨_,h⟩:=h;subst h;exact⟨a,0,rfl,Ap1 _,fun h=>absurd rfl h⟩
  |some p=>
   obtain⟨b,cap⟩:=p;rw[hm]at h hr;obtain⟨vs,e1,e2,e3,e4,e5⟩:=h;simp only[A4]at hr;subst hr;refine⟨_,cap,rfl,e2,fun _=>⟨_,vs.toList.take (List.length (α:=List t.den) xs),rfl,hfr (.o id) rfl ⟨_,ho,by simp,by simp⟩ b cap hm,AYs (by grind) fun k ys u hk hu => ?_,fun j u hu => ?_⟩⟩;obtain⟨h1,h2⟩:=hi.row id _ e t xs ver none ho k ys hk;obtain⟨b',cap',u',a1,⟨vs',a2,a3⟩,a4⟩:=h2 (by simp);rw[hm]at a1;cases a1;rw[e1]at a2;cases a2;have hlt:k<List.length (α:=List t.den) xs:=by grind
   rw[Ar1,Ap5 hlt,a3]at hu;cases hu;exact Sl h1 a4 (fun _=>.inl) (hfr (.r id k) rfl (by simp only[there];grind));rw[CB];simp only[World.cell?,e1,Aqg];grind
theorem AhQ{α β:Type}{K:α→Value→Prop}{V:β→Value→Prop}:∀ {es:List (α×β)} {ms:List MapEntry},ms.length=es.length→(∀ (k:Nat) (x:α×β) (u:MapEntry),es[k]? = some x→ms[k]? = some u→K x.1 u.key∧V x.2 u.val)→Yb K V es ms:=by
 intro es;induction es with
  |nil=>intro us hl _;exact AqN hl
  |cons x xs ih=>
   intro us hl h;match us,hl with
   |u::us,hl=>
    obtain⟨h1,h2⟩:=h 0 x u rfl rfl
    exact⟨u,us,rfl,h1,h2,ih (by grind) fun k y v hy hv=>h (k+1) y v hy hv⟩
theorem AGX(hi:HI w F m H fz){id:Nat}{j:IntKind}{ks:List Int}{e:TypeId}{t:Ty}{xs:List (List t.den)}{ver:Nat}(ho:H[id]? = some (.rows (.map j ks) e t xs ver none)){v:Value}(hr:La (some (.rows (.map j ks) e t xs ver none)) (m id) v):
  Dat w (DF F m H [id]) (.mapi j (.slice t)) (List.zip (β:=List t.den) ks xs) [v]:=by
 obtain⟨_,h⟩:=hi.obj id _ ho;have hfr:∀ x:Ix,x.id=id→there H x→∀ b c,m x=some (b,c)→DF F m H [id] b:=fun x hx ht b c hm=>.inr ⟨x,by simp[hx],⟨ht,.inr ⟨.map j ks,e,t,xs,ver,none,by grind⟩⟩,c,hm⟩;obtain⟨b,cap,hm,rfl⟩:=hr;rw[hm]at h;obtain⟨ms,clock,e1,e2,e3,e4,_⟩:=h;have hxk:List.length (α:=List t.den) xs=ks.length:=by grind
 have hmk:ms.toList.length=ks.length:=by have:=Aqx List.length e3;grind
 refine⟨b,ms,clock,rfl,hfr (.o id) rfl ⟨_,ho,by simp,by simp⟩ b cap hm,e1,AhQ (by grind) fun k x u hx hu => ?_⟩;rw[List.getElem?_zip_eq_some]at hx;obtain⟨hk,hys⟩:=hx;obtain⟨h1,h2⟩:=hi.row id _ e t xs ver none ho k x.2 hys;obtain⟨b',cap',u',a1,⟨ms',clock',en,a2,a3,rfl⟩,a4⟩:=h2 (by simp);rw[hm]at a1;cases a1;rw[e1]at a2;cases a2;rw[hu]at a3;cases a3;have hlt:k<List.length (α:=List t.den) xs:=by grind
 refine⟨?_,Sl h1 a4 (fun _=>.inl) (hfr (.r id k) rfl (by simp only[there];grind))⟩;have:=Aqx (fun l:List Value=>l[k]?) e3;grind
theorem ASa(hi:HI w F m H fz){id:Nat}{T:TypeId}{e:Ty}{xs:List e.den}(ho:H[id]? = some (.arr T e xs)){off n:Nat}{v:Value}(hr:HJ (some (.arr T e xs)) (m id) off n v):
  Dat w (DF F m H [id]) (.slice e) (Eo off n xs) [v]:=by
 have h:=hi.obj id _ ho;obtain⟨_,h⟩:=h;obtain⟨hle,hr⟩:=hr;have hlen:(Eo off n xs).length=n:=by unfold Eo;grind
 cases hm:m id with
  |none=>
   rw[hm]at h hr;obtain⟨a,rfl⟩:=hr;simp only at h;subst h;have hn:n=0:=by grind
   refine⟨a,0,by rw[hlen],by omega,fun h=>absurd ?_ h⟩;grind
  |some p=>
   obtain⟨b,cap⟩:=p;rw[hm]at h hr;obtain⟨vs,row,e1,e2,e3,e4,e5,e6⟩:=h;obtain⟨a,rfl,ha⟩:=hr;have hk:=fun(x:e.den) cs (h:Dat w F e x cs)=>Dat.length e h;refine⟨a,cap-off,by rw[hlen],by omega,fun hne => ?_⟩;have hn:0<n:=by grind
   refine⟨_,(row.drop (off*e.size)).take (n*e.size),ha (by omega),AVz ho hm,BL (fun x _ cs hx=>hx.frz) (D5 hk n (Hn hk off e5)),fun j u hu => ?_⟩;rw[CB];simp only[World.cell?,e1];grind
theorem ADI(hi:HI w F m H fz){t:Ty}{v:AV}{x:t.den}{fr:List Nat}(h:Dy H t v=some (x,fr))(ht:t.isAgg=false){u:Value}(hr:Rep w F m H v u):Dat w (DF F m H fr) t x [u]:=by unfold Dy at h;split at h;rename_i t' d;simp only[Ap2,Ap9]at h;obtain⟨y,h1,rfl,rfl⟩:=h;obtain⟨e,h2⟩:=C4 h1;subst e;simp only at h2;subst h2;unfold Rep Bn at hr;rw[ht]at hr;exact Dat.frz (by grind);rename_i e' d;simp only[Ap2,Ap9]at h;obtain⟨y,h1,rfl,rfl⟩:=h;obtain⟨e,h2⟩:=C4 h1;subst e;simp only at h2;subst h2;unfold Rep at hr;exact Dat.frz hr.1;split at h;simp only[Apq,Ap9]at h;obtain⟨rfl,rfl⟩:=h;unfold Rep at hr;subst hr;exact⟨none,0,rfl,Ap1 _,fun h=>absurd rfl h⟩;simp only[Apq,Ap9]at h;obtain⟨_,rfl⟩:=h;unfold Rep at hr;subst hr;rfl;grind;rename_i id;split at h;rename_i T e xs ho;simp only[Ap2,Ap9]at h;obtain⟨y,h1,rfl,rfl⟩:=h;obtain⟨e',h2⟩:=C4 h1;subst e';simp only at h2;subst h2;unfold Rep at hr;rw[ho]at hr;exact ASb hi ho hr;grind;rename_i id off n;split at h;rename_i T e xs ho;simp only[Ap2,Ap9]at h;obtain⟨y,h1,rfl,rfl⟩:=h;obtain⟨e',h2⟩:=C4 h1;subst e';simp only at h2;subst h2;unfold Rep at hr;rw[ho]at hr;exact ASa hi ho hr;grind;rename_i id;split at h;rename_i j ks _ e xs ver ho;simp only[Ap2,Ap9]at h;obtain⟨y,h1,rfl,rfl⟩:=h;obtain⟨e',h2⟩:=C4 h1;subst e';simp only at h2;subst h2;unfold Rep at hr;rw[ho]at hr;exact AGX hi ho hr;grind;grind
theorem AlM{α:Type}{one:List AV→Option (α×List Nat×List AV)}{R:List Nat→α→List Value→Prop}
  (hR:∀ fr fr' x cs,(∀ i∈fr,i∈fr')→R fr x cs→R fr' x cs)
  (h1:∀ cs x fr rest us,one cs=some (x,fr,rest)→AT w F m H cs us→∃ us1 us2,us=us1++us2∧R fr x us1∧AT w F m H rest us2) :
  ∀ (n:Nat) {cs:List AV} {xs:List α} {fr:List Nat} {rest:List AV} {us:List Value},QU one n cs=some (xs,fr,rest)→AT w F m H cs us →
   ∃ us1 us2,us=us1++us2∧xs.length=n∧rows (R fr) xs us1∧AT w F m H rest us2:=by
 intro n;induction n with
  |zero=>intro cs xs fr rest us h hr;simp only[QU,Apq,Ap9]at h;obtain⟨rfl,rfl,rfl⟩:=h;exact⟨[],us,rfl,rfl,rfl,hr⟩
  |succ n ih=>intro cs xs fr rest us h hr;simp only[QU]at h;split at h;cases h;rename_i x f cs1 ho;split at h;cases h;rename_i ys g cs2 hi;simp only[Apq,Ap9]at h;obtain⟨rfl,rfl,rfl⟩:=h;obtain⟨u1,u2,rfl,r1,r2⟩:=h1 _ _ _ _ _ ho hr;obtain⟨u3,u4,rfl,hl,r3,r4⟩:=ih hi r2;exact⟨u1++u3,u4,by simp,by simp[hl],⟨u1,u3,rfl,hR _ _ _ _ (fun i hi=>by simp[hi]) r1,BL (fun x _ cs hx=>hR _ _ _ _ (fun i hi=>by simp[hi]) hx) r3⟩,r4⟩
theorem YG(hi:HI w F m H fz):∀ (t:Ty) {cs:List AV} {x:t.den} {fr:List Nat} {rest:List AV} {us:List Value},Al H t cs=some (x,fr,rest)→AT w F m H cs us →
  ∃ us1 us2,us=us1++us2∧Dat w (DF F m H fr) t x us1∧AT w F m H rest us2:=by
 have cell:∀ (t:Ty),t.isAgg=false→∀ {c:AV} {cs:List AV} {x:t.den} {fr:List Nat} {rest:List AV} {us:List Value} {p:Option (t.den×List Nat)},Dy H t c=p →
   p=some (x,fr)→cs=rest→AT w F m H (c::cs) us →
   ∃ us1 us2,us=us1++us2∧Dat w (DF F m H fr) t x us1∧AT w F m H rest us2:=by
  rintro t ht c cs x fr rest us p hy rfl rfl hr
  unfold AT at hr
  obtain⟨v,vs',rfl,h1,h2⟩:=hr
  exact⟨[v],vs',rfl,ADI hi hy ht h1,h2⟩
 intro t;induction t with
  |unit=>intro cs x fr rest us h hr;simp only[Al,Apq,Ap9]at h;obtain⟨_,rfl,rfl⟩:=h;exact⟨[],us,rfl,rfl,hr⟩
  |bool=>
   intro cs x fr rest us h hr;cases cs with
    |nil=>simp[Al]at h
    |cons c cs=>unfold Al at h;split at h;cases h;rename_i y f hy;simp only[Apq,Ap9]at h;obtain⟨h1,h2,h3⟩:=h;exact cell .bool rfl hy (by grind) h3 hr
  |int k=>
   intro cs x fr rest us h hr;cases cs with
    |nil=>simp[Al]at h
    |cons c cs=>unfold Al at h;split at h;cases h;rename_i y f hy;simp only[Apq,Ap9]at h;obtain⟨h1,h2,h3⟩:=h;exact cell (.int k) rfl hy (by grind) h3 hr
  |slice e _=>
   intro cs x fr rest us h hr;cases cs with
    |nil=>simp[Al]at h
    |cons c cs=>unfold Al at h;split at h;cases h;rename_i y f hy;simp only[Apq,Ap9]at h;obtain⟨h1,h2,h3⟩:=h;exact cell (.slice e) rfl hy (by grind) h3 hr
  |nul e=>
   intro cs x fr rest us h hr;cases cs with
    |nil=>simp[Al]at h
    |cons c cs=>unfold Al at h;split at h;cases h;rename_i y f hy;simp only[Apq,Ap9]at h;obtain⟨_,h2,h3⟩:=h;exact cell (.nul e) rfl hy (by rw[h2]) h3 hr
  |mapi j e _=>
   intro cs x fr rest us h hr;cases cs with
    |nil=>simp[Al]at h
    |cons c cs=>unfold Al at h;split at h;cases h;rename_i y f hy;simp only[Apq,Ap9]at h;obtain⟨h1,h2,h3⟩:=h;exact cell (.mapi j e) rfl hy (by grind) h3 hr
  |prod a b iha ihb=>intro cs x fr rest us h hr;simp only[Al]at h;split at h;cases h;rename_i y f cs1 hy;split at h;cases h;rename_i z g cs2 hz;simp only[Apq,Ap9]at h;obtain⟨rfl,rfl,rfl⟩:=h;obtain⟨u1,u2,rfl,r1,r2⟩:=iha hy hr;obtain⟨u3,u4,rfl,r3,r4⟩:=ihb hz r2;exact⟨u1++u3,u4,by simp,⟨u1,u3,rfl,r1.AhE (fun i hi=>by simp[hi]),r3.AhE (fun i hi=>by simp[hi])⟩,r4⟩
  |arr n e ih=>intro cs x fr rest us h hr;simp only[Al]at h;obtain⟨u1,u2,e1,e2,e3,e4⟩:=AlM (R:=fun fr=>Dat w (DF F m H fr) e) (fun fr fr' x cs h1 h2=>h2.AhE h1) (fun cs x fr rest us h1 h2=>ih h1 h2) n h hr;exact⟨u1,u2,e1,⟨e2,e3⟩,e4⟩
theorem DK(hi:HI w F m H fz){t:Ty}{v:AV}{x:t.den}{fr:List Nat}(h:E0 H t v=some (x,fr)){u:Value}(hr:Rep w F m H v u):Bn w (DF F m H fr) t x u:=by unfold E0 at h;split at h;rename_i ht;unfold Bn;rw[Ap5 ht];unfold asAgg at h;split at h;rename_i t' d;simp only[Ap2,Ap9]at h;obtain⟨y,h1,rfl,rfl⟩:=h;obtain⟨e,h2⟩:=C4 h1;subst e;simp only at h2;subst h2;unfold Rep Bn at hr;rw[Ap5 ht]at hr;obtain⟨vs,e1,e2⟩:=hr;exact⟨vs,e1,e2.frz⟩;rename_i cs;split at h;rename_i y f hy;simp only[Apq,Ap9]at h;obtain⟨rfl,rfl⟩:=h;unfold Rep at hr;obtain⟨vs,rfl,hr,_⟩:=hr;obtain⟨u1,u2,e1,e2,e3⟩:=YG hi t hy hr;unfold AT at e3;grind;grind;grind;rename_i ht;unfold Bn;rw[Ap4 (by simp[ht])];exact ADI hi h ht hr
theorem AiR(hi:HI w F m H fz){t:Ty}{v:AV}{x:t.den}{fr:List Nat}(h:Y3 H t v=some (x,fr)){u:Value}(hr:Rep w F m H v u):Bn w (DF F m H fr) t x u:=by unfold Y3 at h;split at h;split at h;rename_i id T e t' xs ver ho;simp only[Ap2,Ap9]at h;obtain⟨y,h1,rfl,rfl⟩:=h;obtain⟨e',h2⟩:=C4 h1;subst e';simp only at h2;subst h2;unfold Rep at hr;rw[ho]at hr;exact ALu hi ho hr;exact DK hi h hr;exact DK hi h hr
theorem ALW{n:Nat}(e:Ty)(d:List e.den)(h:d.length=n):BS (.arr n e) d=d.flatMap (BS e):=by
 have gen:∀ (xs:List e.den) (f:Nat→e.den),(∀ i,i<xs.length→f i=xs.getD i e.zero)→((List.range xs.length).flatMap fun i=>BS e (f i))=xs.flatMap (BS e):=by
  intro xs;induction xs with
   |nil=>simp
   |cons x xs ih=>intro f hf;rw[Apw,List.range_succ_eq_map,ArJ,ArJ,List.flatMap_map];simp_all
 subst h;exact gen d (fun i=>AJ d i e.zero) fun i _=>rfl
theorem Ih:∀ (t:Ty) {d:t.den} {cs:List Value},Dat w F t d cs→AT w F m H (BS t d) cs:=by
 have one:∀ (t:Ty) (d:t.den) (u:Value),t.isAgg=false→Dat w F t d [u]→AT w F m H [.data t d] [u]:=by intro t d u ht h;unfold AT;refine⟨u,[],rfl,?_,?_⟩;unfold Rep Bn;grind;unfold AT;rfl
 intro t;induction t with
  |unit=>rintro d cs rfl;simp only[BS];unfold AT;rfl
  |bool=>rintro d cs h;obtain rfl:=h;exact one .bool d _ rfl rfl
  |int k=>rintro d cs h;obtain rfl:=h;exact one (.int k) d _ rfl rfl
  |slice e _=>rintro d cs h;obtain⟨a,cap,rfl,h1,h2⟩:=h;exact one (.slice e) d _ rfl ⟨a,cap,rfl,h1,h2⟩
  |nul e=>rintro d cs h;obtain rfl:=h;simp only[BS];unfold AT;exact⟨_,[],rfl,by unfold Rep;rfl,by unfold AT;rfl⟩
  |mapi j e _=>rintro d cs h;have h':=h;obtain⟨b,ms,clock,rfl,_⟩:=h';exact one (.mapi j e) d _ rfl h
  |prod a b iha ihb=>rintro d cs ⟨c1,c2,rfl,h1,h2⟩;exact Gx (iha h1) (ihb h2)
  |arr n e ih=>
   rintro d cs ⟨hlen,h⟩;rw[ALW e d hlen];have key:∀ (xs:List e.den) (cs:List Value),rows (Dat w F e) xs cs→AT w F m H (xs.flatMap (BS e)) cs:=by
    intro xs;induction xs with
     |nil=>rintro cs rfl;simp only[List.flatMap_nil];unfold AT;rfl
     |cons x xs ih'=>rintro cs ⟨c1,c2,rfl,h1,h2⟩;rw[ArJ];exact Gx (ih h1) (ih' _ h2)
   grind
theorem Mo{v:AV}{u:Value}(hr:Rep w F m H v u):AT w F m H [v] [u]:=by unfold AT;exact⟨u,[],rfl,hr,by unfold AT;rfl⟩
theorem KL:AT w F m H [] []:=by unfold AT;rfl
theorem FV{u:Value}(h:u.oneCell'=true):u.cells.toList=[u]:=by cases u<;>first|rfl|(simp[Value.oneCell']at h)
def AVN:AV→Prop
 |.CA=>False
 |.tup _=>False
 |.agg _=>False
 |.data t _=>t.isAgg=false
 |_=>True
theorem Xs{v:AV}{u:Value}(hr:Rep w F m H v u)(hv:AVN v):u.oneCell'=true:=by
 cases v with
  |CA=>exact hv.elim
  |tup vs=>exact hv.elim
  |agg cs=>exact hv.elim
  |data t d=>unfold AVN at hv;unfold Rep Bn at hr;rw[hv]at hr;exact Dat.HS t (by simpa using hr) u (by simp)
  |nils e=>unfold Rep at hr;subst hr;rfl
  |clip t xs=>unfold Rep at hr;obtain⟨_,a,rfl⟩:=hr;rfl
  |own id=>
   unfold Rep at hr;cases ho:H[id]? with
    |none=>rw[ho]at hr;exact hr.elim
    |some o=>rw[ho]at hr;exact hr.one
  |win id off n=>
   unfold Rep at hr;cases ho:H[id]? with
    |none=>rw[ho]at hr;exact hr.elim
    |some o=>rw[ho]at hr;exact hr.one
  |ptr id off=>
   unfold Rep at hr;cases ho:H[id]? with
    |none=>rw[ho]at hr;exact hr.elim
    |some o=>rw[ho]at hr;exact hr.one
  |eptr id i sub=>
   unfold Rep at hr;cases ho:H[id]? with
    |none=>rw[ho]at hr;exact hr.elim
    |some o=>rw[ho]at hr;exact hr.one
  |dptr cs=>unfold Rep at hr;obtain⟨ad,us,rfl,_⟩:=hr;rfl
  |clo f cs=>unfold Rep at hr;obtain⟨us,rfl,_⟩:=hr;rfl
  |bnd f cs=>unfold Rep at hr;obtain⟨us,rfl,_⟩:=hr;rfl
  |str xs=>unfold Rep at hr;obtain⟨us,rfl,_⟩:=hr;rfl
  |mp id=>
   unfold Rep at hr;cases ho:H[id]? with
    |none=>rw[ho]at hr;exact hr.elim
    |some o=>rw[ho]at hr;exact hr.one
  |rowp id i ver=>
   unfold Rep at hr;cases ho:H[id]? with
    |none=>rw[ho]at hr;exact hr.elim
    |some o=>rw[ho]at hr;exact hr.one
  |glob g=>unfold Rep at hr;subst hr;rfl
  |nilp=>unfold Rep at hr;subst hr;rfl
  |ifc o=>unfold Rep at hr;subst hr;rcases o with _|⟨T,l⟩<;>rfl
  |aptr id n=>
   unfold Rep at hr;cases ho:H[id]? with
    |none=>rw[ho]at hr;exact hr.elim
    |some o=>rw[ho]at hr;exact hr.one
theorem cells?_ok{v:AV}{cs:List AV}(h:cells? v=some cs){u:Value}(hr:Rep w F m H v u):AT w F m H cs u.cells.toList:=by
 have agg:∀ (t:Ty) (d:t.den),t.isAgg=true→Rep w F m H (.data t d) u→AT w F m H (BS t d) u.cells.toList:=by intro t d ht hr;unfold Rep Bn at hr;rw[Ap5 ht]at hr;obtain⟨vs,rfl,hd⟩:=hr;exact Ih t hd
 have one:AVN v→cs=[v]→AT w F m H cs u.cells.toList:=by rintro hv rfl;rw[FV (Xs hr hv)];exact Mo hr
 cases v with
  |CA=>simp[cells?]at h
  |tup vs=>simp[cells?]at h
  |agg cs'=>simp only[cells?,Apq]at h;subst h;unfold Rep at hr;obtain⟨vs,rfl,hr',_⟩:=hr;exact hr'
  |data t d=>
   cases t with
    |unit=>simp only[cells?,Apq]at h;subst h;exact agg .unit d rfl hr
    |prod a b=>simp only[cells?,Apq]at h;subst h;exact agg _ d rfl hr
    |arr n e=>simp only[cells?,Apq]at h;subst h;exact agg _ d rfl hr
    |bool=>exact one rfl (by simpa [cells?]using h.symm)
    |int k=>exact one rfl (by simpa [cells?]using h.symm)
    |slice e=>exact one rfl (by simpa [cells?]using h.symm)
    |nul e=>exact one rfl (by simpa [cells?]using h.symm)
    |mapi j e=>exact one rfl (by simpa [cells?]using h.symm)
  |nils e=>exact one trivial (by simpa [cells?]using h.symm)
  |clip t xs=>exact one trivial (by simpa [cells?]using h.symm)
  |own id=>exact one trivial (by simpa [cells?]using h.symm)
  |win id off n=>exact one trivial (by simpa [cells?]using h.symm)
  |ptr id off=>exact one trivial (by simpa [cells?]using h.symm)
  |eptr id i sub=>exact one trivial (by simpa [cells?]using h.symm)
  |dptr cs'=>exact one trivial (by simpa [cells?]using h.symm)
  |clo f cs'=>exact one trivial (by simpa [cells?]using h.symm)
  |bnd f cs'=>exact one trivial (by simpa [cells?]using h.symm)
  |str xs=>exact one trivial (by simpa [cells?]using h.symm)
  |mp id=>exact one trivial (by simpa [cells?]using h.symm)
  |rowp id i ver=>exact one trivial (by simpa [cells?]using h.symm)
  |glob g=>exact one trivial (by simpa [cells?]using h.symm)
  |nilp=>exact one trivial (by simpa [cells?]using h.symm)
  |ifc o=>exact one trivial (by simpa [cells?]using h.symm)
  |aptr id n=>exact one trivial (by simpa [cells?]using h.symm)
theorem cells?_one{v:AV}{cs:List AV}(h:cells? v=some cs){u:Value}(hr:Rep w F m H v u):∀ x∈u.cells.toList,x.oneCell'=true:=by
 have one:AVN v→∀ x∈u.cells.toList,x.oneCell'=true:=by intro hv x hx;have h1:=Xs hr hv;rw[FV h1]at hx;grind
 have agg:∀ (t:Ty) (d:t.den),t.isAgg=true→Rep w F m H (.data t d) u→∀ x∈u.cells.toList,x.oneCell'=true:=by intro t d ht hr;unfold Rep Bn at hr;rw[Ap5 ht]at hr;obtain⟨vs,rfl,hd⟩:=hr;exact Dat.HS t hd
 cases v with
  |CA=>simp[cells?]at h
  |tup vs=>simp[cells?]at h
  |agg cs'=>unfold Rep at hr;obtain⟨vs,rfl,_,h1⟩:=hr;exact h1
  |data t d=>
   cases t with
    |unit=>exact agg .unit d rfl hr
    |prod a b=>exact agg _ d rfl hr
    |arr n e=>exact agg _ d rfl hr
    |bool=>exact one rfl
    |int k=>exact one rfl
    |slice e=>exact one rfl
    |nul e=>exact one rfl
    |mapi j e=>exact one rfl
  |nils e=>exact one trivial
  |clip t xs=>exact one trivial
  |own id=>exact one trivial
  |win id off n=>exact one trivial
  |ptr id off=>exact one trivial
  |eptr id i sub=>exact one trivial
  |dptr cs'=>exact one trivial
  |clo f cs'=>exact one trivial
  |bnd f cs'=>exact one trivial
  |str xs=>exact one trivial
  |mp id=>exact one trivial
  |rowp id i ver=>exact one trivial
  |glob g=>exact one trivial
  |nilp=>exact one trivial
  |ifc o=>exact one trivial
  |aptr id n=>exact one trivial
theorem KQ:∀ (cs:List AV) (vs:List Value),B1 cs vs=true→∀ x∈vs,x.oneCell'=true:=by
 intro cs;induction cs with
  |nil=>
   intro vs h x hx;cases vs with
    |nil=>cases hx
    |cons v vs=>simp[B1]at h
  |cons c cs ih=>
   intro vs h x hx;cases vs with
    |nil=>cases hx
    |cons v vs=>
     simp only[B1,Apt]at h;rcases Apv.1 hx with rfl|hx;have h:=h.1;unfold C9 at h;split at h<;>first|rfl|cases h
     grind
theorem Ja{cs new out:List AV}{off:Nat}(h:Dj cs new off=some out){us vs:List Value}(h1:AT w F m H cs us)(h2:AT w F m H new vs):
  off+new.length≤cs.length∧AT w F m H out (us.take off++vs++us.drop (off+new.length)):=by unfold Dj at h;split at h;rename_i hle;simp only[Apq]at h;subst h;exact⟨hle,Gx (Gx (No h1 off) h2) (Ez h1 _)⟩;grind
theorem ASf(v:Value):Rep w F m H (AGZ v) v:=by unfold AGZ;split;unfold Rep Bn;exact rfl;unfold Rep Bn;exact rfl;unfold Rep;rfl;unfold Rep;rfl;unfold Rep;simp;unfold Rep;rfl;unfold Rep;trivial
theorem EW{tmps:Tm}{a:Act}(h:∀ t,Rep w F m H (tmps.f t) (a.tmps.getD t undef))(x:Operand):Rep w F m H (An tmps x) (a.eval x):=by
 cases x with
  |tmp t=>exact h t
  |const v=>exact ASf v
  |func f=>unfold An Rep;exact⟨#[],rfl,KL⟩
  |global g=>unfold An Rep;rfl
theorem HM:∀ (cs:List AV) (vs:List Value),B1 cs vs=true→AT w F m H cs vs:=by
 intro cs;induction cs with
  |nil=>intro vs h;cases vs with
   |nil=>exact KL
   |cons v vs=>simp[B1]at h
  |cons c cs ih=>
   intro vs h;cases vs with
    |nil=>simp[B1]at h
    |cons v vs=>simp only[B1,Apt]at h;unfold AT;refine⟨v,vs,rfl,?_,ih vs h.2⟩;have h:=h.1;unfold C9 at h;split at h;simp only[ArH]at h;subst h;unfold Rep Bn;exact rfl;simp only[Apt,Aps,ArH]at h;obtain⟨rfl,rfl⟩:=h;unfold Rep Bn;exact rfl;unfold Rep;rfl;grind
end
end Go.Pev
end
section
namespace Go.Pev
open Go.RowKit
section
variable {P:Program} {w:World}
theorem run_typeInfo{T:TypeId}{i:TypeInfo}(h:P.info? T=some i):(typeInfo T).run P w = .ok i w:=by simp[typeInfo,h]
theorem run_sizeOf{T:TypeId}{i:TypeInfo}(h:P.info? T=some i):(sizeOf T).run P w = .ok i.size w:=by simp[sizeOf,run_typeInfo h]
theorem A6{T:TypeId}{n:Nat}(h:BT P T=some n):∃ i,P.info? T=some i∧i.size=n:=by unfold BT at h;simp_all
theorem Cc{T:TypeId}{b:Bool}(h:EZ P T=some b):(isAgg T).run P w = .ok b w:=by unfold EZ at h;split at h;rename_i hu;simp only[Apq]at h;subst h;simp[isAgg,run_underlying hu];rename_i hu;simp only[Apq]at h;subst h;simp[isAgg,run_underlying hu];rename_i d h1 h2 hu;simp only[Apq]at h;subst h;simp only[isAgg,Sem.run_bind,run_underlying hu,Result.andThen_ok];rfl;grind
theorem Cw{F:Nat→Prop}{m:Mp}{H:List Ob}{T:TypeId}{n:Nat}{ag:Bool}(hs:BT P T=some n)(ha:EZ P T=some ag){cs:List AV}{us:List Value}{v:AV}{ad:Addr}
  (hl:loadCells ag n cs=some v) (hr:AT w F m H cs us) (h1:∀ u∈us,u.oneCell'=true) (hc:∀ j u,us[j]? = some u→w.cell? (ad.add j)=some u) :
  ∃ u,(loadVar T ad).run P w = .ok u w∧Rep w F m H v u:=by
 obtain⟨i,hi,rfl⟩:=A6 hs;unfold loadCells at hl;cases ag with
  |true=>
   simp only at hl;split at hl;rename_i hle;simp only[Apq]at hl;subst hl;have hlen:=Ap hr;have hl2:(us.take i.size).length=i.size:=by grind
   refine⟨.agg (us.take i.size).toArray,?_,?_⟩;have:=run_loadCells_list (P:=P) w ad (us.take i.size) (fun j u hu=>by grind)
   rw[hl2]at this;simp[loadVar,Cc ha,run_sizeOf hi,this];unfold Rep;exact⟨_,rfl,by simpa using No hr i.size,fun u hu=>h1 u (by grind)⟩;grind
  |false=>
   simp only at hl;cases cs with
    |nil=>grind
    |cons c cs=>
     simp only[List.head?_cons,Apq]at hl;subst hl;unfold AT at hr;obtain⟨u,us',rfl,h3,_⟩:=hr;refine⟨u,?_,h3⟩;have:=hc 0 u rfl;have h0:ad.add 0=ad:=by simp[Addr.add]
     rw[h0]at this;simp[loadVar,Cc ha,this]
theorem DM{T T':TypeId}{n:Nat}(hs:BT P T=some n){b off:Nat}{cur:Array Value}(hb:w.heap[b]? = some (.cells cur T' (0,0))){u:Value}(hu:u.cells.size=n)
  (h1:∀ x∈u.cells.toList,x.oneCell'=true) (hfit:off+n≤cur.size) :
  (storeVar T ⟨b,off,none⟩ u).run P w = .ok () (w.setRow b (cur.toList.take off++u.cells.toList++cur.toList.drop (off+n)).toArray):=by obtain⟨i,hi,rfl⟩:=A6 hs;have:=run_storeCells_at P b off T' u.cells.toList 0 cur w hb (by grind) h1;simp only[Arb,AqG]at this;rw[hu]at this;simp[storeVar,run_sizeOf hi,hu,this]
theorem Bl{T:TypeId}{t:Ty}{cs:List AV}(h:zeroAt P T=some (t,cs)):AEb P T=some t∧cs=zeroCells t∧∃ i z,P.info? T=some i∧i.zero=some z∧B1 cs z.cells.toList=true∧i.size=t.size∧t.isAgg=Oo z:=by unfold zeroAt at h;grind
theorem BO{T:TypeId}{i:TypeInfo}{z:Value}(h:P.info? T=some i)(hz:i.zero=some z):(zeroValue T).run P w = .ok z w:=by simp[zeroValue,run_typeInfo h,hz]
theorem Be{F:Nat→Prop}:∀ (t:Ty) (vs:List Value),B1 (zeroCells t) vs=true→Dat w F t t.zero vs:=by
 have app:∀ (asz bs:List AV) (vs:List Value),B1 (asz++bs) vs=true→∃ v1 v2,vs=v1++v2∧B1 asz v1=true∧B1 bs v2=true:=by
  intro asz;induction asz with
   |nil=>intro bs vs h;exact⟨[],vs,rfl,rfl,h⟩
   |cons a asz ih=>
    intro bs vs h;cases vs with
     |nil=>simp[B1]at h
     |cons v vs=>simp only[AqJ,B1,Apt]at h;obtain⟨v1,v2,rfl,h1,h2⟩:=ih bs vs h.2;exact⟨v::v1,v2,rfl,by simp[B1,h.1,h1],h2⟩
 have one:∀ (a:AV) (vs:List Value),B1 [a] vs=true→∃ v,vs=[v]∧C9 a v=true:=by
  intro a vs h;cases vs with
   |nil=>simp[B1]at h
   |cons v vs=>
    simp only[B1,Apt]at h;cases vs with
     |nil=>grind
     |cons x xs=>simp[B1]at h
 intro t;induction t with
  |unit=>intro vs h;cases vs with
   |nil=>exact rfl
   |cons v vs=>simp[B1,zeroCells]at h
  |bool=>intro vs h;obtain⟨v,hv,h'⟩:=one (.data .bool false) _ h;subst hv;clear h;have h:=h';unfold C9 at h;split at h;rename_i h1;simp only[AV.data.injEq]at h1;simp only[ArH]at h;subst h;obtain⟨_,h1⟩:=h1;exact Aqx (fun b=>[Value.bool b]) (eq_of_heq h1).symm;all_goals grind
  |int k=>intro vs h;obtain⟨v,hv,h'⟩:=one (.data (.int k) (0:Int)) _ h;subst hv;clear h;have h:=h';unfold C9 at h;split at h;grind;rename_i h1;simp only[AV.data.injEq,Ty.int.injEq]at h1;simp only[Apt,Aps,ArH]at h;obtain⟨rfl,h1⟩:=h1;obtain⟨rfl,rfl⟩:=h;exact Aqx (fun n=>[Value.int k n]) (eq_of_heq h1).symm;all_goals grind
  |slice e _=>intro vs h;obtain⟨v,hv,h'⟩:=one (.nils e) _ h;subst hv;clear h;have h:=h';unfold C9 at h;split at h;grind;grind;exact⟨none,0,rfl,Ap1 _,fun h=>absurd rfl h⟩;grind
  |nul e=>intro vs h;obtain⟨v,hv,h'⟩:=one (.nils e) _ h;subst hv;clear h;have h:=h';unfold C9 at h;split at h;grind;grind;rfl;grind
  |mapi j e _=>intro vs h;obtain⟨v,hv,h'⟩:=one .CA _ h;simp[C9]at h'
  |prod a b iha ihb=>intro vs h;obtain⟨v1,v2,rfl,h1,h2⟩:=app _ _ _ h;exact⟨v1,v2,rfl,iha _ h1,ihb _ h2⟩
  |arr n e ih=>
   intro vs h;refine⟨by simp[Ty.zero],?_⟩;simp only[zeroCells]at h;have key:∀ (n:Nat) (vs:List Value),B1 (List.replicate n (zeroCells e)).flatten vs=true→rows (Dat w F e) (List.replicate n e.zero) vs:=by
    intro n;induction n with
     |zero=>intro vs h;cases vs with
      |nil=>exact rfl
      |cons v vs=>simp[B1]at h
     |succ n ihn=>intro vs h;rw[List.replicate_succ,Aqy]at h;obtain⟨v1,v2,rfl,h1,h2⟩:=app _ _ _ h;exact⟨v1,v2,rfl,ih _ h1,ihn _ h2⟩
   exact key n vs h
theorem M3{F:Nat→Prop}{t:Ty}{z:Value}(h:B1 (zeroCells t) z.cells.toList=true)(ha:t.isAgg=Oo z):Bn w F t t.zero z:=by
 have hd:=Be (w:=w) (F:=F) t _ h;unfold Bn;split;rename_i hg;rw[hg]at ha;cases z<;>simp[Oo]at ha;exact⟨_,rfl,hd⟩;rename_i hg;have hz:z.cells.toList=[z]:=by cases z<;>simp_all [Oo,Value.cells]
 grind
end
end Go.Pev
end
section
namespace Go.Pev
open Go.RowKit
def G4(P:Program)(g:FuncId):Prop:=∀ args w,(callFunc g args).run P w = .ok (.enter g args) w
def Ak(P:Program)(g:FuncId)(s:Spec):Prop:=
 ∀ R args H fz slot k r,s R args H fz slot k=some r→∃ v e,k v e=some r∧(∀ R' k',s R' args H fz slot k'=k' v e)∧G4 P g ∧
  ∀ w F m vals,HI w F m H fz→AT w F m H args vals→Calls P g vals.toArray w fun en w'=>∃ u,en = .returned u∧∃ F' m',Af w F m H fz w' F' m' (CH e H) (EY e fz)∧Rep w' F' m' (CH e H) v u
def Gb(P:Program)(g:FuncId)(sn:Spec)(s:KM):Prop:=
 ∀ R args H fz slot k kp r,s R args H fz slot k kp=some r →
  (∃ v e,k v e=some r∧(∀ R' k' kp',s R' args H fz slot k' kp'=k' v e)∧∀ R' k',sn R' args H fz slot k'=k' v e) ∨
  (∃ p e,kp p e=some r∧(∀ R' k' kp',s R' args H fz slot k' kp'=kp' p e)∧G4 P g ∧
   ∀ w F m vals,HI w F m H fz→AT w F m H args vals→Calls P g vals.toArray w fun en w'=>en = .panicked [CJ p]∧∃ F' m',Af w F m H fz w' F' m' (CH e H) (EY e fz))
def Fb(P:Program)(E:Env):Prop:=∀ g s,E.pan g=some s→Gb P g (E.spec g) s
def AG2(P:Program)(op:Op)(ty:TypeId)(ρ:Operand→AV)(H:List Ob)(fz:List Bool)(v:AV)(e:Eff):Prop:=
 ∀ (w:World) (F:Nat→Prop) (m:Mp) (a:Act) (o:Oper) (next:Act→World→Prop) (Q:Exit→Act→World→Prop),o.op=op→o.type=ty→HI w F m H fz→(∀ x,Rep w F m H (ρ x) (a.eval x)) →
  (∀ u w' F' m',Af w F m H fz w' F' m' (CH e H) (EY e fz)→Rep w' F' m' (CH e H) v u→next (a.put o.dst u) w')→o.wp P a w next Q
section
variable {P:Program} {op:Op} {ty:TypeId} {ρ:Operand→AV} {H:List Ob} {fz:List Bool} {v:AV} {e:Eff}
theorem A0(h:∀ (w:World) (F:Nat→Prop) (m:Mp) (ρc:Operand→Value) (o:Oper),o.op=op→o.type=ty→HI w F m H fz→(∀ x,Rep w F m H (ρ x) (ρc x)) →
  ∃ u w' F' m',(execOp ρc o).run P w = .ok (.value u) w'∧Af w F m H fz w' F' m' (CH e H) (EY e fz)∧Rep w' F' m' (CH e H) v u):AG2 P op ty ρ H fz v e:=by
 intro w F m a o next Q ho ht hi hr hn
 obtain⟨u,w',F',m',h1,h2,h3⟩:=h w F m a.eval o ho ht hi hr;unfold Oper.wp;rw[h1];exact hn u w' F' m' h2 h3
theorem EC(h:∀ (w:World) (F:Nat→Prop) (m:Mp) (ρc:Operand→Value) (o:Oper),o.op=op→o.type=ty→HI w F m H fz→(∀ x,Rep w F m H (ρ x) (ρc x)) →
  ∃ w' F' m',(execOp ρc o).run P w = .ok .skip w'∧Af w F m H fz w' F' m' (CH e H) (EY e fz)):AG2 P op ty ρ H fz .CA e:=by
 intro w F m a o next Q ho ht hi hr hn
 obtain⟨w',F',m',h1,h2⟩:=h w F m a.eval o ho ht hi hr;unfold Oper.wp;rw[h1];exact hn undef w' F' m' h2 (by unfold Rep;trivial)
theorem AS(h:∀ (w:World) (F:Nat→Prop) (m:Mp) (ρc:Operand→Value) (o:Oper),o.op=op→o.type=ty→HI w F m H fz→(∀ x,Rep w F m H (ρ x) (ρc x)) →
  ∃ u,(execOp ρc o).run P w = .ok (.value u) w∧Rep w F m H v u):AG2 P op ty ρ H fz v {}:=
 A0 fun w F m ρc o ho ht hi hr=>let ⟨u,h1,h2⟩:=h w F m ρc o ho ht hi hr;⟨u,w,F,m,h1,Af.refl hi,h2⟩
end
def Claim(P:Program)(E:Env)(o:Op):Prop:=
 ∀ (R:Type) (ty:TypeId) (ρ:Operand→AV) (H:List Ob) (fz:List Bool) (slot:Nat) (k:AV→Eff→Option R) (r:R),evalOp P E R o ty ρ H fz slot k=some r →
  ∃ v e,k v e=some r∧(∀ R' (k':AV→Eff→Option R'),evalOp P E R' o ty ρ H fz slot k'=k' v e)∧AG2 P o ty ρ H fz v e
section
variable {P:Program} {E:Env}
theorem ASw(x:Operand):Claim P E (.move x):=by
 intro R ty ρ H fz slot k r h;simp only[evalOp]at h;split at h;rename_i hx;refine⟨_,_,h,fun R' k'=>by simp[evalOp,hx],AS fun w F m ρc o ho ht hi hr=>⟨ρc x,by simp[execOp,ho],?_⟩⟩;have:=hr x;rw[hx]at this;unfold Rep at this;unfold Afw;split<;>(unfold Rep;omega)
 rename_i hx;refine⟨_,_,h,fun R' k' => ?_,AS fun w F m ρc o ho ht hi hr=>⟨ρc x,by simp[execOp,ho],hr x⟩⟩;simp only[evalOp]
theorem AGq(x:Operand):Claim P E (.assign x):=by
 intro R ty ρ H fz slot k r h;simp only[evalOp]at h;split at h;rename_i hx;refine⟨_,_,h,fun R' k'=>by simp[evalOp,hx],AS fun w F m ρc o ho ht hi hr=>⟨ρc x,by simp[execOp,ho],?_⟩⟩;have:=hr x;rw[hx]at this;unfold Rep at this;unfold Afw;split<;>(unfold Rep;omega)
 rename_i hx;refine⟨_,_,h,fun R' k' => ?_,AS fun w F m ρc o ho ht hi hr=>⟨ρc x,by simp[execOp,ho],hr x⟩⟩;simp only[evalOp]
theorem Cx{w:World}{F:Nat→Prop}{m:Mp}{H:List Ob}{b:Bool}{v:Value}(h:Rep w F m H (.data .bool b) v):v = .bool b:=by unfold Rep Bn at h;have h:Dat w F .bool b [v]:=h;simpa [Dat]using h
theorem A1{w:World}{F:Nat→Prop}{m:Mp}{H:List Ob}{k:IntKind}{n:Int}{v:Value}(h:Rep w F m H (.data (.int k) n) v):v = .int k n:=by unfold Rep Bn at h;have h:Dat w F (.int k) n [v]:=h;simpa [Dat]using h
theorem BH{w:World}{F:Nat→Prop}{m:Mp}{H:List Ob}(b:Bool):Rep w F m H (.data .bool b) (.bool b):=by unfold Rep Bn;exact rfl
theorem Ar{w:World}{F:Nat→Prop}{m:Mp}{H:List Ob}(k:IntKind)(n:Int):Rep w F m H (.data (.int k) n) (.int k n):=by unfold Rep Bn;exact rfl
theorem ASv(c a b:Operand):Claim P E (.pick c a b):=by intro R ty ρ H fz slot k r h;simp only[evalOp,Si]at h;split at h;rename_i hx;refine⟨_,_,h,fun R' k'=>by simp[evalOp,Si,hx],AS fun w F m ρc o ho ht hi hr=>⟨ρc a,?_,hr a⟩⟩;have:=Cx (hx▸hr c);simp[execOp,ho,this,asBool];rename_i hx;refine⟨_,_,h,fun R' k'=>by simp[evalOp,Si,hx],AS fun w F m ρc o ho ht hi hr=>⟨ρc b,?_,hr b⟩⟩;have:=Cx (hx▸hr c);simp[execOp,ho,this,asBool];grind
theorem AKy{T:TypeId}{n:Nat}(h:ARm P T=some n):∃ i z,P.info? T=some i∧i.zero=some z∧(∀ u∈z.cells.toList,u.oneCell'=true)∧n=z.cells.size:=by unfold ARm at h;grind
theorem AMG(T:TypeId):Claim P E (.alloc T):=by
 intro R ty ρ H fz slot k r h;simp only[evalOp,Nf]at h;split at h
 ·rename_i t cs hz;split at h
  ·rename_i hf;obtain⟨_,rfl,i,z,hi0,hz0,hok,hsz,_⟩:=Bl hz;split at h
   ·rename_i n e ha;refine⟨_,_,h,fun R' k'=>by simp[evalOp,Nf,hz,hf,ha],A0 fun w F m ρc o ho ht hi hr => ?_⟩;have⟨et,hn,hm4,he⟩:t = .arr n e∧0<n∧n≤4294967296∧0<e.size:=by
     unfold Amr at ha;split at ha;·split at ha;all_goals simp_all
     grind
    subst et;have hrun:(execOp ρc o).run P w = .ok (.value (.pointer (some ⟨w.heap.size,0,none⟩))) (w.alloc (.cells z.cells T)):=by simp[execOp,ho,Instr.alloc,BO hi0 hz0,newVar,newRow]
    have hzd:Dat w F (.arr n e) (List.replicate n e.zero) z.cells.toList:=Be (w:=w) (F:=F) (.arr n e) _ hok;have hzl:=Dat.length (.arr n e) hzd
    have hg:=Af.new (w':=w.alloc (.cells z.cells T)) hi hf (ob:=.arr T e (List.replicate n e.zero)) trivial (some (w.heap.size,n)) rfl rfl rfl (by simp) (fun b hb=>Below.heap_alloc w _ b hb)
     (fun b c h=>by grind)
     (fun hmono=>⟨he,z.cells,z.cells.toList,heap_alloc_new w _,by simp,by simp only[maxLen];omega,by rw[← AqG,hzl];rfl,
      BL (fun x _ cs hx=>hx.mono (fun b hb=>Below.heap_alloc w _ _ (hi.lt b hb)) (fun _ h=>h) e) hzd.2,ArZ⟩)
    refine⟨.pointer (some ⟨w.heap.size,0,none⟩),w.alloc (.cells z.cells T),F,_,hrun,hg,?_⟩;unfold Rep;have hlt:=Aj (BM hf).1;rw[show CH { objs:=[(slot,.arr T e (Cb n e.zero))] } H=H.set slot (.arr T e (List.replicate n e.zero))from rfl,Ax hlt,Am];exact⟨ArB,_,rfl,rfl⟩
   rename_i ha;refine⟨_,_,h,fun R' k'=>by simp[evalOp,Nf,hz,hf,ha],A0 fun w F m ρc o ho ht hi hr => ?_⟩;have hrun:(execOp ρc o).run P w = .ok (.value (.pointer (some ⟨w.heap.size,0,none⟩))) (w.alloc (.cells z.cells T)):=by simp[execOp,ho,Instr.alloc,BO hi0 hz0,newVar,newRow]
   have hg:=Af.new (w':=w.alloc (.cells z.cells T)) hi hf (ob:=.box (zeroCells t)) trivial (some (w.heap.size,0)) rfl rfl rfl (by simp) (fun b hb=>Below.heap_alloc w _ b hb)
    (fun b c h=>by grind)
    (fun _=>⟨w.heap.size,0,z.cells,T,rfl,heap_alloc_new w _,HM _ _ hok,KQ _ _ hok⟩)
   refine⟨_,_,F,_,hrun,hg,?_⟩;unfold Rep;have hlt:=Aj (BM hf).1;rw[show CH { objs:=[(slot,.box (zeroCells t))] } H=H.set slot (.box (zeroCells t))from rfl,Ax hlt,Am];exact⟨_,_,rfl,rfl⟩
  grind
 rename_i hz;split at h;rename_i n hj;split at h;rename_i hf;obtain⟨i,z,hi0,hz0,hone,rfl⟩:=AKy hj;refine⟨_,_,h,fun R' k'=>by simp[evalOp,Nf,hz,hj,hf],A0 fun w F m ρc o ho ht hi hr => ?_⟩;have hrun:(execOp ρc o).run P w = .ok (.value (.pointer (some ⟨w.heap.size,0,none⟩))) (w.alloc (.cells z.cells T)):=by simp[execOp,ho,Instr.alloc,BO hi0 hz0,newVar,newRow]
 have hg:=Af.new (w':=w.alloc (.cells z.cells T)) hi hf (ob:=.box (List.replicate z.cells.size .CA)) trivial (some (w.heap.size,0)) rfl rfl rfl (by simp) (fun b hb=>Below.heap_alloc w _ b hb)
  (fun b c h=>by grind)
  (fun _=>⟨w.heap.size,0,z.cells,T,rfl,heap_alloc_new w _,DL (by simp) (fun i c v hc _=>by
   rw[AsQ (Ap0 hc)];unfold Rep;trivial),hone⟩)
 refine⟨_,_,F,_,hrun,hg,?_⟩;unfold Rep;have hlt:=Aj (BM hf).1;rw[show CH { objs:=[(slot,.box (List.replicate z.cells.size .CA))] } H=H.set slot (.box (List.replicate z.cells.size .CA))from rfl,Ax hlt,Am];exact⟨_,_,rfl,rfl⟩;grind;grind
theorem Abw(T:TypeId)(x:Operand):Claim P E (.box T x):=by
 intro R ty ρ H fz slot k r h;simp only[evalOp,ALY]at h;split at h;rename_i n hs;split at h;rename_i vs hv;split at h;rename_i hd;split at h;rename_i hf;refine⟨_,_,h,fun R' k'=>by simp[evalOp,ALY,hs,hv,hd,hf],A0 fun w F m ρc o ho ht hi hr => ?_⟩;have hrun:(execOp ρc o).run P w = .ok (.value (.pointer (some ⟨w.heap.size,0,none⟩))) (w.alloc (.cells (ρc x).cells T)):=by simp[execOp,ho,Instr.box,newVar,newRow]
 have hrx:=cells?_ok hv (hr x);have h1:=cells?_one hv (hr x)
 have hg:=Af.new (w':=w.alloc (.cells (ρc x).cells T)) hi hf (ob:=.box vs) trivial (some (w.heap.size,0)) rfl rfl rfl (by simp) (fun b hb=>Below.heap_alloc w _ b hb)
  (fun b c h=>by grind)
  (fun hmono=>⟨w.heap.size,0,(ρc x).cells,T,rfl,heap_alloc_new w _,DL (Ap hrx) fun i c v hc hv=>by
    obtain⟨v',hv',hr'⟩:=CW hrx hc
    grind,h1⟩)
 refine⟨_,_,F,_,hrun,hg,?_⟩;unfold Rep;have hlt:=Aj (BM hf).1;rw[show CH { objs:=[(slot,.box vs)] } H=H.set slot (.box vs)from rfl,Ax hlt,Am];exact⟨_,_,rfl,rfl⟩;grind;grind;grind;grind
theorem To(off:Nat):∀ (l:List Value) (n:Nat) (us:Array Value),off+n+l.length≤us.size →
  ((l.zipIdx n).foldl (fun cs (p:Value×Nat)=>cs.setIfInBounds (off+p.2) p.1) us).toList=us.toList.take (off+n)++l++us.toList.drop (off+n+l.length):=by
 intro l;induction l with
  |nil=>simp
  |cons v l ih=>
   intro n us h;simp only[Apw]at h;simp only[List.zipIdx_cons,AqY];rw[ih (n+1) _ (by grind)];have hlt:off+n<us.toList.length:=by grind
   rw[Array.toList_setIfInBounds,List.set_eq_take_append_cons_drop,Ap5 hlt];have ht:(us.toList.take (off+n)).length=off+n:=by grind
   have e1:(us.toList.take (off+n)++v::us.toList.drop (off+n+1)).take (off+(n+1))=us.toList.take (off+n)++[v]:=by grind
   have e2:(us.toList.take (off+n)++v::us.toList.drop (off+n+1)).drop (off+(n+1)+l.length)=us.toList.drop (off+n+(l.length+1)):=by rw[List.drop_append,Aqq (by omega),ht,AqI,show off+(n+1)+l.length-(off+n)=l.length+1 from by omega,List.drop_succ_cons,ArP];grind
   simp_all
theorem AGH{w:World}{F:Nat→Prop}{m:Mp}{H:List Ob}{ρ:Operand→AV}{ρc:Operand→Value}(hr:∀ x,Rep w F m H (ρ x) (ρc x)){pl pl':Nat→Option (Nat×Nat)}(hpl:∀ i p,pl i=some p→pl' i=some p):
  ∀ (ps:List (Nat×Operand)) {cs out:List AV} {us:Array Value},Ep pl (ps.map fun p=>(p.1,ρ p.2)) cs=some out→AT w F m H cs us.toList→(∀ x∈us.toList,x.oneCell'=true) →
   ∃ us':Array Value,Instr.fill pl' us (ps.map fun p=>(p.1,ρc p.2))=some us'∧AT w F m H out us'.toList∧∀ x∈us'.toList,x.oneCell'=true:=by
 intro ps;induction ps with
  |nil=>intro cs out us h h1 h2;simp only[Art,Ep,Apq]at h;subst h;exact⟨us,rfl,h1,h2⟩
  |cons p ps ih=>
   intro cs out us h h1 h2;obtain⟨i,x⟩:=p;simp only[AqL,Ep]at h;split at h;cases h;rename_i off size hp;split at h;cases h;rename_i vs hv;split at h;cases h;rename_i hd;split at h;cases h;rename_i cs1 hc;simp only[Aps]at hd;have hrx:=cells?_ok hv (hr x);have h1x:=cells?_one hv (hr x);obtain⟨hle,hr1⟩:=Ja hc h1 hrx;have hlen:=Ap hrx;have hlen2:=Ap h1;have hsz:(ρc x).cells.size=size:=by grind
   have hfold:((ρc x).cells.zipIdx.foldl (fun cs (c,j)=>cs.setIfInBounds (off+j) c) us).toList=us.toList.take off++(ρc x).cells.toList++us.toList.drop (off+vs.length):=by have:=To off (ρc x).cells.toList 0 us (by grind);rw[← Array.foldl_toList,Array.toList_zipIdx,this];grind
   obtain⟨us',e1,e2,e3⟩:=ih (us:=(ρc x).cells.zipIdx.foldl (fun cs (c,j)=>cs.setIfInBounds (off+j) c) us) h (by grind) (by grind)
   refine⟨us',?_,e2,e3⟩;simp only[AqL,Instr.fill,hpl _ _ hp];grind
end
end Go.Pev
end
section
namespace Go.Pev
open Go.RowKit
section
variable {P:Program}
theorem AMl{w w':World}{F F':Nat→Prop}{m m':Mp}{H H':List Ob}(h:∀ {a:AV} {v:Value},Rep w F m H a v→Rep w' F' m' H' a v){cs:List AV}{us:List Value}(hr:AT w F m H cs us):AT w' F' m' H' cs us:=by refine DL (Ap hr) fun i c v hc hv => ?_;obtain⟨v',hv',hr'⟩:=CW hr hc;grind
theorem ACJ{H:List Ob}{fz:List Bool}{id:Nat}{T:TypeId}{tgt:Nat}{is:List Int}(h:H[id]? = some (.prs T tgt is)):owned H fz id:=by simp only[owned,Bv];grind
theorem ALN{H:List Ob}{fz:List Bool}{slot id:Nat}{T:TypeId}{tgt:Nat}{is:List Int}(hf:Aq H fz slot=true)(ho:H[id]? = some (.prs T tgt is)):slot≠id:=by rintro rfl;rw[(BM hf).1]at ho;cases ho
theorem Tu{T e:TypeId}(h:cellAt P T=some e):P.underlying T=some (.slice e)∧∃ i z,P.info? e=some i∧i.zero=some z∧i.size=1∧z.cells.size=1∧i.bytes≤1024:=by unfold cellAt at h;grind
theorem AAg{w:World}{F:Nat→Prop}{m:Mp}{H:List Ob}{fz:List Bool}(hi:HI w F m H fz){slot:Nat}(hf:Aq H fz slot=true)(T:TypeId)(tgt:Nat)(a:Option Addr):
  ∃ m',Af w F m H fz w F m' (H.set slot (.prs T tgt [])) fz∧Rep w F m' (H.set slot (.prs T tgt [])) (.own slot) (.slice a 0 0):=by have hg:=Af.new (w':=w) hi hf (ob:=.prs T tgt []) trivial none rfl rfl rfl (Ap1 _) (fun _ _=>rfl) (fun b c h=>by cases h) (fun _=>(rfl:([]:List Int)=[]));refine⟨_,hg,?_⟩;unfold Rep;have hlt:=Aj (BM hf).1;rw[Ax hlt,Am];exact⟨a,rfl⟩
theorem Qn{w:World}{F:Nat→Prop}{m:Mp}{H:List Ob}{fz:List Bool}(hi:HI w F m H fz){slot:Nat}(hf:Aq H fz slot=true){T:TypeId}{tgt:Nat}{is:List Int}{vs:Array Value}{cap:Nat}
  {w':World} (hb:w'.heap[w.heap.size]? = some (.cells vs T (0,0))) (h1:w'.os=w.os) (h2:w'.tape=w.tape) (h3:w'.output=w.output) (hsz:w.heap.size≤w'.heap.size) (hk:∀ b,b<w.heap.size→w'.heap[b]? = w.heap[b]?)
  (hcap:is.length≤cap) (hmax:cap≤maxLen) (hvs:vs.size=cap) {us:List Value} (hr:AT w F m H (Fv tgt is) us) (hone:∀ u∈us,u.oneCell'=true) (htake:vs.toList.take us.length=us) :
  ∃ m',Af w F m H fz w' F m' (H.set slot (.prs T tgt is)) fz∧Rep w' F m' (H.set slot (.prs T tgt is)) (.own slot) (.slice (some ⟨w.heap.size,0,none⟩) is.length cap):=by
 have hg:=Af.new (w':=w') hi hf (ob:=.prs T tgt is) trivial (some (w.heap.size,cap)) h1 h2 h3 hsz hk (fun b c h=>by grind)
  (fun hmono=>⟨vs,us,hb,hcap,hmax,hvs,AMl hmono hr,hone,htake⟩)
 refine⟨_,hg,?_⟩;unfold Rep;have hlt:=Aj (BM hf).1;rw[Ax hlt,Am];rfl
theorem XV(tgt:Nat)(is:List Int):(Fv tgt is).length=is.length:=by simp[Fv]
theorem Aei(tgt:Nat)(is js:List Int):Fv tgt (is++js)=Fv tgt is++Fv tgt js:=by simp[Fv]
end
end Go.Pev
end
section
namespace Go.Pev
open Go.RowKit
section
variable {w w':World} {F:Nat→Prop} {m:Mp} {H:List Ob} {fz:List Bool}
theorem Ht{α:Type}{xs:List α}{k:Nat}{y:α}(h:xs[k]? = some y):k<xs.length:=by grind
theorem SD{id k:Nat}{T:RK}{e:TypeId}{t:Ty}{xs:List (List t.den)}{ver:Nat}{out:Option Nat}(ho:H[id]? = some (.rows T e t xs ver out))(hun:fz.getD id false=false)(hk:k<List.length (α:=List t.den) xs):owned H fz (.r id k):=by simp only[owned];grind
theorem Xo{id:Nat}{T:RK}{e:TypeId}{t:Ty}{xs:List (List t.den)}{ver:Nat}{out:Option Nat}(ho:H[id]? = some (.rows T e t xs ver out))(hun:fz.getD id false=false):owned H fz id:=by simp only[owned,Bv];grind
def AXn(m:Mp)(x:Ix)(l:Option (Nat×Nat)):Mp:=fun y=>if y=x then l else m y
theorem Hi(m:Mp)(x:Ix)(l:Option (Nat×Nat)):AXn m x l x=l:=by simp[AXn]
theorem Bo{m:Mp}{x y:Ix}{l:Option (Nat×Nat)}(h:y≠x):AXn m x l y=m y:=by simp[AXn,h]
theorem Af.Ao8(hi:HI w F m H fz){slot:Nat}(hs:Aq H fz slot=true){T:RK}{e:TypeId}{t:Ty}{n:Nat}(l:Option (Nat×Nat))
  (h1:w'.os=w.os) (h2:w'.tape=w.tape) (h3:w'.output=w.output) (hsz:w.heap.size≤w'.heap.size) (hb:∀ b,b<w.heap.size→w'.heap[b]? = w.heap[b]?)
  (hl:∀ b c,l=some (b,c)→w.heap.size≤b) (hpos:0<t.size)
  (hob:ObI w' F m H (.rows T e t (List.replicate n ([]:List t.den)) 0 none) l) (hhd:∀ k,k<n→∃ b cap a,l=some (b,cap)∧LS w' T b k (.slice a 0 0)) :
  Af w F m H fz w' F (Ns m slot l fun _=>none) (H.set slot (.rows T e t (List.replicate n ([]:List t.den)) 0 none)) fz:=by
 obtain⟨hs1,hs2⟩:=BM hs;have hlt:=Aj hs1;have hcell:∀ b,F b→w'.heap[b]? = w.heap[b]? := fun b hF=>hb b (hi.lt b hF);have hgs:(H.set slot (.rows T e t (List.replicate n ([]:List t.den)) 0 none))[slot]? = some (.rows T e t (List.replicate n ([]:List t.den)) 0 none):=Ax hlt;have hcomp:CQ H (H.set slot (.rows T e t (List.replicate n ([]:List t.den)) 0 none)) m (Ns m slot l fun _=>none):=by
  intro i o hio hf;have hne:i≠slot:=by grind
  rcases CQ.refl H m i o hio hf with h|⟨hd,o',h4,h5,_⟩
  grind;exact .inr ⟨hd,o',by grind,h5,HN hne,fun _ _ k=>HN hne⟩
 have hown:∀ x:Ix,owned (H.set slot (.rows T e t (List.replicate n ([]:List t.den)) 0 none)) fz x→(x.id≠slot∧owned H fz x)∨x = .o slot∨∃ k,x = .r slot k:=fun x hx=>by
  by_cases hid:x.id=slot;cases x with
   |o i=>exact .inr (.inl (Aqx Ix.o hid))
   |r i k=>have hid:i=slot:=hid;grind
  exact .inl ⟨hid,(Cg (Aw hid)).1 hx⟩
 have src:∀ (x:Ix) (b c:Nat),owned (H.set slot (.rows T e t (List.replicate n ([]:List t.den)) 0 none)) fz x→Ns m slot l (fun _=>none) x=some (b,c)→(x.id≠slot∧owned H fz x∧m x=some (b,c))∨(x = .o slot∧l=some (b,c)):=by
  intro x b c hx hm;rcases hown x hx with⟨h,h'⟩|rfl|⟨k,rfl⟩
  rw[HN h]at hm;grind;rw[KY]at hm;grind;rw[AEa]at hm;cases hm
 refine⟨⟨h1,h2,h3,hsz,fun b h _=>hb b h,fun _ h=>h,fun _ h=>.inl h,?_,hcomp⟩,⟨?_,?_,?_,?_,?_,?_,fun b h=>Aq1 (hi.lt b h) hsz,hi.glo.mono hcell (fun _ h=>h),by simpa using hi.len⟩⟩;grind;intro i o hio;by_cases hne:i=slot;subst hne;rw[hgs]at hio;cases hio;rw[KY];exact hob;rw[Aw hne]at hio;rw[HN (x:=.o i) hne];exact ObI.mono hcell (fun _ h=>h) hcomp (fun _ _ b c _ hlt=>hb b hlt) (hi.obj i o hio);intro i;by_cases hne:i=slot;subst hne;intro T' e' t' xs ver out hio k ys hk;rw[hgs]at hio;cases hio;have hkn:k<n:=by grind
 have hys:ys=[]:=by grind
 subst hys;rw[AEa];obtain⟨b,cap,a,a1,a2⟩:=hhd k hkn;exact⟨⟨hpos,rfl⟩,fun _=>⟨b,cap,_,KY.trans a1,a2,a,rfl⟩⟩;exact B7.mono hcell (fun _ h=>h) hcomp (Aw hne) (fun x hx=>HN (by omega)) (fun _ _ _ b c _ hlt=>hb b hlt) (hi.row i);intro i T' e' t' xs ver out hio hf x hx ht b c hm;by_cases hne:i=slot;grind;rw[Aw hne]at hio;rw[HN (by omega)]at hm;exact hi.rfz i T' e' t' xs ver out hio hf x hx ((Ce (by grind)).1 ht) b c hm;intro x y b c b' c' hx hy hxy hmx hmy;rcases src x b c hx hmx with⟨_,p1,p2⟩|⟨rfl,p2⟩
 rcases src y b' c' hy hmy with⟨_,q1,q2⟩|⟨rfl,q2⟩
 exact hi.sep x y b c b' c' p1 q1 hxy p2 q2;have:=hi.IU p1 p2;grind;rcases src y b' c' hy hmy with⟨_,q1,q2⟩|⟨rfl,q2⟩
 have:=hi.IU q1 q2;grind;grind;intro x b c hx hm hF;rcases src x b c hx hm with⟨_,p1,p2⟩|⟨_,p2⟩
 exact hi.off x b c p1 p2 hF;have:=hl b c p2;have:=hi.lt b hF;omega;intro i T' t' xs b c hio hf hm;by_cases hne:i=slot;grind;rw[Aw hne]at hio;rw[HN (x:=.o i) hne]at hm;exact hi.froz i T' t' xs b c hio hf hm
theorem Hdr.out{w:World}{K:RK}{n k:Nat}{b cap:Nat}(h:Hdr w K n none b cap)(hk:k<n):Hdr w K n (some k) b cap:=by
 cases K with
  |arr T=>exact h
  |map j ks=>obtain⟨ms,clock,e1,e2,e3,e4,_⟩:=h;exact⟨ms,clock,e1,e2,e3,.inl (e4.resolve_right fun h=>by cases h.1),fun k' h=>by grind⟩
theorem Af.Aox(hi:HI w F m H fz){id k:Nat}{T:RK}{e:TypeId}{t:Ty}{xs xs1:List (List t.den)}{ver:Nat}(ho:H[id]? = some (.rows T e t xs ver none))(hun:fz.getD id false=false)(l:Option (Nat×Nat))
  {ys:List t.den} (hxk:xs1[k]? = some ys) (hxo:∀ k',k'≠k→xs1[k']? = xs[k']?) (hxa:T.JG=true→xs.length=xs1.length)
  (hhd:∀ b cap,m id=some (b,cap)→Hdr w T xs.length none b cap→Hdr w T xs1.length (some k) b cap) (hhn:T.JG=true→xs=[]→xs1=[])
  (hl:∀ b c,l=some (b,c)→(∃ c0,owned H fz (.r id k)∧m (.r id k)=some (b,c0))∨w.heap.size≤b)
  (h1:w'.os=w.os) (h2:w'.tape=w.tape) (h3:w'.output=w.output) (hsz:w.heap.size≤w'.heap.size) (hb:∀ b,b<w.heap.size→(∀ c,owned H fz (.r id k)→m (.r id k)≠some (b,c))→w'.heap[b]? = w.heap[b]?)
  (hob:(∀ {d:t.den} {cs:List Value},Dat w F t d cs→Dat w' F t d cs)→ObI w' F m H (.arr e t ys) l) :
  Af w F m H fz w' F (AXn m (.r id k) l) (H.set id (.rows T e t xs1 (ver+1) (some k))) fz:=by
 have hlt:=Aj ho;have hgs:(H.set id (.rows T e t xs1 (ver+1) (some k)))[id]? = some (.rows T e t xs1 (ver+1) (some k)):=Ax hlt;have hcell:∀ b,F b→w'.heap[b]? = w.heap[b]? := fun b ha=>hb b (hi.lt _ ha) fun c hor hc=>hi.off _ _ c hor hc ha;have hne:∀ {x:Ix},there H x→x≠.r id k→∀ b c,m x=some (b,c)→b<w.heap.size→w'.heap[b]? = w.heap[b]? := fun ht hx b c hm hlt'=>hb b hlt' fun c' hor hc'=>hi.neX hor hc' ht hm hx rfl;have hcomp:CQ H (H.set id (.rows T e t xs1 (ver+1) (some k))) m (AXn m (.r id k) l):=by
  intro i o hio hf;by_cases hni:i=id;subst hni;rw[ho]at hio;cases hio;refine .inr ⟨by simp,_,hgs,⟨rfl,hxa,.inl (Nat.lt_succ_self _)⟩,Bo (by simp),fun _ hv => ?_⟩;simp only[PW]at hv;omega;rcases CQ.refl H m i o hio hf with h|⟨hd,o',h4,h5,_⟩
  grind;exact .inr ⟨hd,o',by grind,h5,Bo (by simp),fun _ _ k'=>Bo (by grind)⟩
 have hdat:∀ {d:t.den} {cs:List Value},Dat w F t d cs→Dat w' F t d cs:=fun h=>h.mono hcell (fun _ h=>h) t;have hlow:∀ k',k'≠k→k'<xs1.length→k'<xs.length:=fun k' hk hl'=>by have:=hxo k' hk;grind
 have hown:∀ x:Ix,x≠.r id k→owned (H.set id (.rows T e t xs1 (ver+1) (some k))) fz x→owned H fz x:=fun x hxk hx=>by
  by_cases hid:x.id=id;cases x with
   |o i=>have hid:i=id:=hid;subst hid;exact Xo ho hun
   |r i k'=>have hid:i=id:=hid;subst hid;simp only[owned]at hx;rw[hgs]at hx;exact SD ho hun (hlow k' (by grind) hx.1)
  exact(Cg (Aw hid)).1 hx
 refine⟨⟨h1,h2,h3,hsz,fun b h hn=>hb b h fun c hor hc=>hn _ c hor hc,fun _ h=>h,fun _ h=>.inl h,?_,hcomp⟩,⟨?_,?_,?_,?_,?_,?_,fun b h=>Aq1 (hi.lt b h) hsz,hi.glo.mono hcell (fun _ h=>h),by simpa using hi.len⟩⟩;intro x b c hx hm;by_cases hxk:x = .r id k;subst hxk;rw[Hi]at hm;grind;rw[Bo hxk]at hm;grind;intro i o hio;rw[Bo (by simp)];by_cases hni:i=id;subst hni;rw[hgs]at hio;cases hio;obtain⟨h4,h5⟩:=hi.obj i _ ho;refine⟨h4,?_⟩;cases hm:m i with
  |none=>grind
  |some p=>obtain⟨b,cap⟩:=p;rw[hm]at h5;exact Hdr.mono (fun hl'=>hne (x:=.o i) ⟨_,ho,by simp,by simp⟩ (by simp) b cap hm hl') (hhd b cap hm h5)
 rw[Aw hni]at hio;exact ObI.mono hcell (fun _ h=>h) hcomp (fun n1 n2 b c hm hlt'=>hne (x:=.o i) ⟨_,hio,n1,n2⟩ (by simp) b c hm hlt') (hi.obj i o hio);intro i;by_cases hni:i=id;subst hni;intro T' e' t' xs' ver' out hio k' ys' hk';rw[hgs]at hio;cases hio;by_cases hkk:k'=k;subst hkk;rw[hxk]at hk';cases hk';rw[Hi];refine⟨?_,fun h=>absurd rfl h⟩;obtain⟨q1,q2⟩:=hob hdat;exact⟨q1,q2⟩;rw[hxo k' hkk]at hk';have hlt':=Ht hk';obtain⟨q1,q2⟩:=hi.row i T e t xs ver none ho k' ys' hk';have hth:there H (.r i k'):=by simp only[there];grind
 rw[Bo (by grind)];refine⟨ObI.mono hcell (fun _ h=>h) hcomp (fun _ _ b c hm hl'=>hne hth (by grind) b c hm hl') q1,fun _ => ?_⟩;obtain⟨b,cap,u,a1,a2,a3⟩:=q2 (by simp);exact⟨b,cap,u,(Bo (by simp)).trans a1,a2.mono (hne (x:=.o i) ⟨_,ho,by simp,by simp⟩ (by simp) b cap a1),a3⟩;exact B7.mono hcell (fun _ h=>h) hcomp (Aw hni) (fun x hx=>Bo (by rintro rfl;exact hni hx.symm)) (fun x hx ht b c hm hl'=>hne ht (by rintro rfl;exact hni hx.symm) b c hm hl') (hi.row i);intro i T' e' t' xs' ver' out hio hf x hx ht b c hm;by_cases hni:i=id;grind;rw[Aw hni]at hio;rw[Bo (by rintro rfl;exact hni hx.symm)]at hm;exact hi.rfz i T' e' t' xs' ver' out hio hf x hx ((Ce (by grind)).1 ht) b c hm;intro x y b c b' c' hx hy hxy hmx hmy;by_cases hxk:x = .r id k;subst hxk;rw[Hi]at hmx;rw[Bo (Aq2 hxy)]at hmy;rcases hl b c hmx with⟨c0,hor,h⟩|h;exact hi.sep _ y b c0 b' c' hor (hown y (Aq2 hxy) hy) hxy h hmy;have:=hi.IU (hown y (Aq2 hxy) hy) hmy;omega;rw[Bo hxk]at hmx;by_cases hyk:y = .r id k;subst hyk;rw[Hi]at hmy;rcases hl b' c' hmy with⟨c0,hor,h⟩|h;exact hi.sep x _ b c b' c0 (hown x hxk hx) hor hxy hmx h;have:=hi.IU (hown x hxk hx) hmx;omega;rw[Bo hyk]at hmy;exact hi.sep x y b c b' c' (hown x hxk hx) (hown y hyk hy) hxy hmx hmy;intro x b c hx hm hF;by_cases hxk:x = .r id k;subst hxk;rw[Hi]at hm;rcases hl b c hm with⟨c0,hor,h⟩|h;exact hi.off _ b c0 hor h hF;have:=hi.lt b hF;omega;rw[Bo hxk]at hm;exact hi.off x b c (hown x hxk hx) hm hF;intro i T' t' xs' b c hio hf hm;have hni:i≠id:=by grind
 rw[Aw hni]at hio;rw[Bo (by simp)]at hm;exact hi.froz i T' t' xs' b c hio hf hm
theorem Af.Ao4(hi:HI w F m H fz){id k:Nat}{T T1:RK}{e:TypeId}{t:Ty}{xs:List (List t.den)}{ver:Nat}{ys:List t.den}(ho:H[id]? = some (.rows T e t xs ver (some k)))(hun:fz.getD id false=false)(hk:xs[k]? = some ys)(hTT:T.JG=T1.JG)
  {b cap:Nat} (hm:m id=some (b,cap)) {u:Value} (hu:A4 (some (.arr e t ys)) (m (.r id k)) u)
  (h1:w'.os=w.os) (h2:w'.tape=w.tape) (h3:w'.output=w.output) (hsz:w'.heap.size=w.heap.size) (hho:∀ k',k'≠b→w'.heap[k']? = w.heap[k']?)
  (hhd:Hdr w T xs.length (some k) b cap→Hdr w' T1 xs.length none b cap∧LS w' T1 b k u) (hco:∀ k' v,k'≠k→LS w T b k' v→LS w' T1 b k' v) :
  Af w F m H fz w' F m (H.set id (.rows T1 e t xs ver none)) fz:=by
 have hlt:=Aj ho;have hkl:=Ht hk;have hor:=Xo ho hun;have hgs:(H.set id (.rows T1 e t xs ver none))[id]? = some (.rows T1 e t xs ver none):=Ax hlt;have hcell:∀ b,F b→w'.heap[b]? = w.heap[b]? := fun k' ha=>hho k' (by rintro h;exact hi.off _ b cap hor hm (h▸ha));have hne:∀ {x:Ix},there H x→x≠.o id→∀ b' c,m x=some (b',c)→w'.heap[b']? = w.heap[b']? := fun ht hx b' c hm'=>hho b' (hi.neX hor hm ht hm' hx);have hcomp:CQ H (H.set id (.rows T1 e t xs ver none)) m m:=by
  intro i o hio hf;by_cases hni:i=id;subst hni;rw[ho]at hio;cases hio;exact .inr ⟨by simp,_,hgs,⟨hTT,fun _=>rfl,.inr ⟨rfl,rfl⟩⟩,rfl,fun _ _ _=>rfl⟩
  ·rcases CQ.refl H m i o hio hf with h|⟨hd,o',h4,h5,_⟩
   all_goals grind
 have hown:∀ x:Ix,owned (H.set id (.rows T1 e t xs ver none)) fz x→owned H fz x:=fun x hx=>by
  by_cases hid:x.id=id;cases x with
   |o i=>have hid:i=id:=hid;grind
   |r i k'=>have hid:i=id:=hid;subst hid;simp only[owned]at hx;rw[hgs]at hx;exact SD ho hun hx.1
  exact(Cg (Aw hid)).1 hx
 obtain⟨hz0,hz1⟩:=hi.obj id _ ho;rw[hm]at hz1;obtain⟨hz2,hz3⟩:=hhd hz1;refine⟨⟨h1,h2,h3,Ars hsz.symm,fun b' h hn=>hho b' (by grind),fun _ h=>h,fun _ h=>.inl h,fun x b' c hx hm'=>.inl ⟨x,c,hown x hx,hm'⟩,hcomp⟩,⟨?_,?_,?_,?_,?_,?_,fun b' h=>by rw[hsz];exact hi.lt b' h,hi.glo.mono hcell (fun _ h=>h),by simpa using hi.len⟩⟩;intro i o hio;by_cases hni:i=id;subst hni;rw[hgs]at hio;cases hio;refine⟨hz0,?_⟩;grind;rw[Aw hni]at hio;exact ObI.mono hcell (fun _ h=>h) hcomp (fun n1 n2 b' c hm' _=>hne (x:=.o i) ⟨_,hio,n1,n2⟩ (by grind) b' c hm') (hi.obj i o hio);intro i;by_cases hni:i=id;subst hni;intro T' e' t' xs' ver' out hio k' ys' hk';rw[hgs]at hio;cases hio;have hlt':=Ht hk';obtain⟨q1,q2⟩:=hi.row i T e t xs ver (some k) ho k' ys' hk';have hth:there H (.r i k'):=by simp only[there];grind
 refine⟨ObI.mono hcell (fun _ h=>h) hcomp (fun _ _ b' c hm' _=>hne hth (by simp) b' c hm') q1,fun _ => ?_⟩;by_cases hkk:k'=k;grind;obtain⟨b2,cap2,u2,a1,a2,a4⟩:=q2 (by grind);grind;exact B7.mono hcell (fun _ h=>h) hcomp (Aw hni) (fun _ _=>rfl) (fun x hx ht b' c hm' _=>hne ht (by rintro rfl;exact hni hx.symm) b' c hm') (hi.row i);intro i T' e' t' xs' ver' out hio hf x hx ht b' c hm';by_cases hni:i=id;grind;rw[Aw hni]at hio;exact hi.rfz i T' e' t' xs' ver' out hio hf x hx ((Ce (by grind)).1 ht) b' c hm';exact fun x y b' c' b2 c2 hx hy=>hi.sep x y b' c' b2 c2 (hown x hx) (hown y hy);exact fun x b' c' hx=>hi.off x b' c' (hown x hx);intro i T' t' xs' b' c hio hf hm';have hni:i≠id:=by grind
 rw[Aw hni]at hio;exact hi.froz i T' t' xs' b' c hio hf hm'
theorem Af.put(hi:HI w F m H fz){id k:Nat}{T e:TypeId}{t:Ty}{xs:List (List t.den)}{ver:Nat}{ys:List t.den}(ho:H[id]? = some (.rows (.arr T) e t xs ver (some k)))(hun:fz.getD id false=false)(hk:xs[k]? = some ys)
  {b cap:Nat} (hm:m id=some (b,cap)) {vs vs':Array Value} (hw:w.heap[b]? = some (.cells vs T (0,0))) {u:Value} (hu:A4 (some (.arr e t ys)) (m (.r id k)) u)
  (h1:w'.os=w.os) (h2:w'.tape=w.tape) (h3:w'.output=w.output) (hsz:w'.heap.size=w.heap.size) (hho:∀ k',k'≠b→w'.heap[k']? = w.heap[k']?) (hhb:w'.heap[b]? = some (.cells vs' T (0,0))) (hvs:vs'.toList=vs.toList.set k u) :
  Af w F m H fz w' F m (H.set id (.rows (.arr T) e t xs ver none)) fz:=by
 have hvz:vs'.size=vs.size:=by rw[← AqG,hvs,Ard,AqG]
 refine Af.Ao4 hi ho hun hk rfl hm hu h1 h2 h3 hsz hho ?_ ?_;rintro⟨vs1,e1,e2,e3,e4,e5⟩;rw[hw]at e1;cases e1;refine⟨⟨_,hhb,e2,e3,hvz.trans e4,fun v hv => ?_⟩,_,hhb,?_⟩;rw[hvs]at hv;rcases List.mem_or_eq_of_mem_set hv with h|rfl;grind;exact A4.one hu;grind;rintro k' v hkk ⟨vs2,a2,a3⟩;rw[hw]at a2;cases a2;refine⟨_,hhb,?_⟩;grind
theorem AJU(hi:HI w F m H fz){id k:Nat}{T:RK}{e:TypeId}{t:Ty}{xs:List (List t.den)}{ver:Nat}(ho:H[id]? = some (.rows T e t xs ver none))(hk:k<List.length (α:=List t.den) xs):
  ∃ b cap u,m id=some (b,cap)∧LS w T b k u∧Rep w F m H (.rowp id k ver) u:=by have hys:xs[k]? = some xs[k]:=Apz hk;obtain⟨_,h2⟩:=hi.row id T e t xs ver none ho k _ hys;obtain⟨b,cap,u,a1,a2,a4⟩:=h2 (by simp);refine⟨b,cap,u,a1,a2,?_⟩;unfold Rep;rw[ho];exact⟨A4.one a4,Ap1 _,fun _=>.inl ⟨_,hys,a4⟩⟩
end
end Go.Pev
end
section
namespace Go.Pev
open Go.RowKit
section
variable {P:Program} {E:Env}
theorem info_of_underlying{T:TypeId}{d:TypeDesc}(h:P.underlying T=some d):∃ i,P.info? T=some i:=by unfold Program.underlying at h;grind
theorem UO{n:Nat}{T:TypeId}{t:Ty}(h:UP P n T=some t):∃ d,P.underlying T=some d:=by
 cases n with
  |zero=>simp[UP]at h
  |succ n=>simp only[UP]at h;grind
theorem mapM_some{α β:Type}{f:α→Option β}:∀ {l:List α} {ys:List β},l.mapM f=some ys→∀ x∈l,∃ y,f x=some y:=by
 intro l;induction l with
  |nil=>simp
  |cons a l ih=>intro ys h x hx;rw[List.mapM_cons]at h;simp only[bind,Aqh,pure]at h;grind
theorem ALU{T:TypeId}{t:Ty}{fs:Array Field}(ht:AEb P T=some t)(hu:P.underlying T=some (.struct fs)):∀ f∈fs.toList,∃ i,P.info? f.type=some i:=by
 have gen:∀ n,UP P (n+1) T=some t→∃ ts,fs.toList.mapM (fun f=>UP P n f.type)=some ts:=by intro n h;simp only[UP,hu,Ap2]at h;grind
 obtain⟨ts,h1⟩:=gen 11 ht;intro f hf;obtain⟨t',h2⟩:=mapM_some h1 f hf;obtain⟨d,h3⟩:=UO h2;exact info_of_underlying h3
theorem run_places(w:World):∀ (l:List Field),(∀ f∈l,∃ i,P.info? f.type=some i) →
  (l.mapM (fun f=>do pure (f.offset,← sizeOf f.type):Field→Sem (Nat×Nat))).run P w = .ok (l.map fun f=>(f.offset,(BT P f.type).getD 0)) w:=by
 intro l;induction l with
  |nil=>simp
  |cons f l ih=>intro h;obtain⟨i,hi⟩:=h f (by simp);rw[List.mapM_cons];have:=ih fun g hg=>h g (by simp[hg]);simp only[Sem.run_bind,run_sizeOf hi,Result.andThen_ok,Sem.run_pure,this,AqL,BT,hi,ArK,AqK]
theorem AQC{T:TypeId}{cs:List AV}{fs:Array Field}(h:Aed P T=some cs)(hu:P.underlying T=some (.struct fs)):
  ∃ i z,P.info? T=some i∧i.zero=some z∧(∀ u∈z.cells.toList,u.oneCell'=true)∧(∀ f∈fs.toList,∃ i,P.info? f.type=some i)∧cs=List.replicate z.cells.toList.length .CA:=by unfold Aed at h;split at h;rename_i i fs' hi hu';rw[hu]at hu';cases hu';split at h;rename_i z hz;split at h;rename_i hok;cases h;rw[Apt,AqE,AqE]at hok;refine⟨i,z,hi,hz,hok.1,fun f hf => ?_,by simp⟩;have:=hok.2 f hf;rw[Aqs]at this;omega;grind;grind;grind
theorem ADN{w:World}{F:Nat→Prop}{m:Mp}{H:List Ob}:∀ vs:List Value,AT w F m H (List.replicate vs.length .CA) vs
 |[]=>by simp[AT]
 |v::vs=>by rw[Apw,List.replicate_succ];unfold AT;exact⟨v,vs,rfl,by unfold Rep;trivial,ADN vs⟩
theorem AME(T:TypeId)(parts:Array (Nat×Operand)):Claim P E (.build T parts):=by
 intro R ty ρ H fz slot k r h;simp only[evalOp,LF]at h;split at h;rename_i t cs hz;obtain⟨hty,rfl,i,z,hi0,hz0,hok,hsz,hza⟩:=Bl hz;split at h;rename_i fs hu;split at h;rename_i cs' hb;refine⟨_,_,h,fun R' k'=>by simp only[evalOp,LF,hz,hu,hb],AS fun w F m ρc o ho ht hi hr => ?_⟩;have hpl:∀ (i:Nat) (p:Nat×Nat),(match fs[i]? with
   |some f=>(BT P (Field.type f)).map fun n=>(Field.offset f,n)
   |none=>none)=some p→(fs.map fun f=>(f.offset,(BT P f.type).getD 0))[i]? = some p:=by
  intro i p hp
  split at hp
  ·rename_i f hf
   simp only[Ap2]at hp
   grind
  grind
 obtain⟨us,h1,h2,h3⟩:=AGH hr hpl parts.toList hb (HM _ _ hok) (KQ _ _ hok);refine⟨.agg us,?_,?_⟩;have hp:=run_places (P:=P) w fs.toList (ALU hty hu);have h1':Instr.fill ((fs.map fun f=>(f.offset,(BT P f.type).getD 0))[·]?) z.cells (parts.map fun p=>(p.1,ρc p.2)).toList=some us:=by rw[ArE];exact h1
 simp only[execOp,ho,Instr.build,Sem.run_bind,BO hi0 hz0,Result.andThen_ok,run_underlying hu];rw[AsK];simp_all;unfold Rep;grind;grind;rename_i n e hu;split at h;rename_i sz hs;split at h;rename_i cs' hb;obtain⟨ie,hie,rfl⟩:=A6 hs;refine⟨_,_,h,fun R' k'=>by simp only[evalOp,LF,hz,hu,hs,hb],AS fun w F m ρc o ho ht hi hr => ?_⟩;obtain⟨us,h1,h2,h3⟩:=AGH hr (fun i p h=>h) parts.toList hb (HM _ _ hok) (KQ _ _ hok);refine⟨.agg us,?_,?_⟩;have h1':Instr.fill (fun i=>some (i*ie.size,ie.size)) z.cells (parts.map fun p=>(p.1,ρc p.2)).toList=some us:=by simp_all
 simp only[execOp,ho,Instr.build,Sem.run_bind,BO hi0 hz0,Result.andThen_ok,run_underlying hu,run_sizeOf hie,h1'];rfl;unfold Rep;grind;grind;grind;grind;rename_i hz;split at h;rename_i cs fs hraw hu;split at h;rename_i cs' hb;obtain⟨i,z,hi0,hz0,hone,hinf,rfl⟩:=AQC hraw hu;refine⟨_,_,h,fun R' k'=>by simp only[evalOp,LF,hz,hraw,hu,hb],AS fun w F m ρc o ho ht hi hr => ?_⟩;have hpl:∀ (i:Nat) (p:Nat×Nat),(match fs[i]? with
   |some f=>(BT P (Field.type f)).map fun n=>(Field.offset f,n)
   |none=>none)=some p→(fs.map fun f=>(f.offset,(BT P f.type).getD 0))[i]? = some p:=by
  intro i p hp
  split at hp
  ·rename_i f hf
   simp only[Ap2]at hp
   grind
  grind
 obtain⟨us,h1,h2,h3⟩:=AGH hr hpl parts.toList hb (ADN (w:=w) (F:=F) (m:=m) (H:=H) z.cells.toList) hone;refine⟨.agg us,?_,?_⟩;have hp:=run_places (P:=P) w fs.toList hinf;have h1':Instr.fill ((fs.map fun f=>(f.offset,(BT P f.type).getD 0))[·]?) z.cells (parts.map fun p=>(p.1,ρc p.2)).toList=some us:=by rw[ArE];exact h1
 simp only[execOp,ho,Instr.build,Sem.run_bind,BO hi0 hz0,Result.andThen_ok,run_underlying hu];rw[AsK];simp_all;unfold Rep;grind;grind;grind
theorem PK{w:World}{F:Nat→Prop}{t:Ty}{x:t.den}{u:Value}(h:Bn w F t x u):Dat w F t x u.cells.toList:=by unfold Bn at h;split at h;obtain⟨vs,rfl,h⟩:=h;exact h;have h1:=Dat.HS t h u (by simp);rw[FV h1];exact h
theorem AGI{w:World}{F:Nat→Prop}{m:Mp}{H:List Ob}{fz:List Bool}(hi:HI w F m H fz){ρ:Operand→AV}{ρc:Operand→Value}(hr:∀ x,Rep w F m H (ρ x) (ρc x)){t:Ty}:
  ∀ (ps:List (Nat×Operand)) {xs xs':List t.den} {fr fr':List Nat} {us:Array Value},DZ H t (ps.map fun p=>(p.1,ρ p.2)) xs fr=some (xs',fr')→rows (Dat w (DF F m H fr) t) xs us.toList →
   ∃ us':Array Value,Instr.fill (fun i=>some (i*t.size,t.size)) us (ps.map fun p=>(p.1,ρc p.2))=some us'∧rows (Dat w (DF F m H fr') t) xs' us'.toList∧xs'.length=xs.length:=by
 intro ps;induction ps with
  |nil=>intro xs xs' fr fr' us h hrw;simp only[Art,DZ,Apq,Ap9]at h;obtain⟨rfl,rfl⟩:=h;exact⟨us,rfl,hrw,rfl⟩
  |cons p ps ih=>
   intro xs xs' fr fr' us h hrw;obtain⟨i,o⟩:=p;simp only[AqL,DZ]at h;split at h;rename_i x f hx hd;simp only[Aps]at hd;have hk:=fun(x:t.den) cs (h:Dat w (DF F m H (fr++f)) t x cs)=>Dat.length t h;have hdx:Dat w (DF F m H (fr++f)) t x (ρc o).cells.toList:=(PK (DK hi hx (hr o))).AhE (fun i hi=>by simp[hi]);have hrw':rows (Dat w (DF F m H (fr++f)) t) xs us.toList:=BL (fun x _ cs hx=>hx.AhE (fun i hi=>by simp[hi])) hrw;have hlen:=A9 hk hrw';have hl2:=hk _ _ hdx;have hle:i*t.size+t.size≤us.size:=by rw[← AqG,hlen];have:(i+1)*t.size≤xs.length*t.size:=Aqj _ hd;grind
   have hfold:((ρc o).cells.zipIdx.foldl (fun cs (c,j)=>cs.setIfInBounds (i*t.size+j) c) us).toList=us.toList.take (i*t.size)++(ρc o).cells.toList++us.toList.drop (i*t.size+t.size):=by have:=To (i*t.size) (ρc o).cells.toList 0 us (by omega);rw[← Array.foldl_toList,Array.toList_zipIdx,this,Arb,hl2]
   obtain⟨us',e1,e2,e3⟩:=ih (us:=(ρc o).cells.zipIdx.foldl (fun cs (c,j)=>cs.setIfInBounds (i*t.size+j) c) us) h (by rw[hfold];exact AJS hk hrw' hd hdx);refine⟨us',?_,e2,by grind⟩;simp only[AqL,Instr.fill];grind;grind
theorem E6{w:World}{F:Nat→Prop}{t:Ty}{z:List Value}(hz:Dat w F t t.zero z)(n:Nat):rows (Dat w F t) (List.replicate n t.zero) (List.replicate n z).flatten:=by
 induction n with
  |zero=>rfl
  |succ n ih=>exact⟨z,_,by grind,hz,ih⟩
theorem Cy(z:Array Value):∀ (n:Nat),((Array.range (n*z.size)).map (z[· % z.size]!)).toList=(List.replicate n z.toList).flatten:=by
 intro n;rw[ArE,Array.toList_range];induction n with
  |zero=>simp
  |succ n ih=>rw[Aq7,Arr,List.range_add,Are,ih,List.replicate_succ'];simp only[AsI,Aqy,List.flatten_nil,Aqv,List.append_cancel_left_eq,List.map_map];apply List.ext_getElem;simp;intro i h1 h2;simp only[Aqk,AqH]at h1;simp[Nat.add_mod,Aqm h1,h1]
theorem By{T:TypeId}{e:TypeId}{t:Ty}(h:sliceAt P T=some (e,t)):P.underlying T=some (.slice e)∧AEb P e=some t∧0<t.size:=by unfold sliceAt at h;grind
theorem FK{w:World}{F:Nat→Prop}{m:Mp}{H:List Ob}{fz:List Bool}(hi:HI w F m H fz){slot:Nat}(hf:Aq H fz slot=true){T:TypeId}{t:Ty}(ht:0<t.size){xs:List t.den}{vs:Array Value}{cap:Nat}
  {w':World} (hb:w'.heap[w.heap.size]? = some (.cells vs T (0,0))) (h1:w'.os=w.os) (h2:w'.tape=w.tape) (h3:w'.output=w.output) (hsz:w.heap.size≤w'.heap.size) (hk:∀ b,b<w.heap.size→w'.heap[b]? = w.heap[b]?)
  (hcap:xs.length≤cap) (hmax:cap≤maxLen) (hvs:vs.size=cap*t.size) {row:List Value} (hrow:rows (Dat w F t) xs row) (htake:vs.toList.take row.length=row) :
  ∃ m',Af w F m H fz w' F m' (H.set slot (.arr T t xs)) fz∧Rep w' F m' (H.set slot (.arr T t xs)) (.own slot) (.slice (some ⟨w.heap.size,0,none⟩) xs.length cap):=by
 have hc:∀ b,F b→w'.heap[b]? = w.heap[b]? := fun b hF=>hk b (hi.lt b hF)
 have hg:=Af.new (w':=w') hi hf (ob:=.arr T t xs) trivial (some (w.heap.size,cap)) h1 h2 h3 hsz hk (fun b c h=>by grind)
  (fun _=>⟨ht,vs,row,hb,hcap,hmax,hvs,BL (fun x _ cs hx=>hx.mono hc (fun _ h=>h) t) hrow,htake⟩)
 refine⟨_,hg,?_⟩;unfold Rep;have hlt:=Aj (BM hf).1;rw[Ax hlt,Am];rfl
theorem II{w:World}{T e:TypeId}{len:Nat}{t':Ty}{parts:Array (Nat×Value)}{i:TypeInfo}{z:Value}{us:Array Value}(hu:P.underlying T=some (.slice e))(hi0:P.info? e=some i)(hz0:i.zero=some z)
 (hsz:i.size=t'.size) (hd:len*t'.size≤16777216)
 (e1':Instr.fill (fun i=>some (i*t'.size,t'.size)) ((Array.range (len*t'.size)).map (z.cells[· % z.cells.size]!)) parts.toList=some us):(Instr.buildSlice T len parts).run P w = .ok (.slice (some ⟨w.heap.size,0,none⟩) len len) (w.alloc (.cells us e)):=by
 unfold Instr.buildSlice;simp only[Sem.run_bind,run_underlying hu,Result.andThen_ok,run_sizeOf hi0,hsz];rw[Ap4 (by omega)];by_cases h0:len*t'.size=0;have e2:Instr.fill (fun i=>some (i*t'.size,t'.size)) #[] parts.toList=some us:=by grind
 simp only[h0];simp[e2,newRow,Array.range];rw[Ap4 h0];simp[BO hi0 hz0,e1',newRow]
theorem Sr(T:TypeId)(len:Nat)(parts:Array (Nat×Operand)):Claim P E (.buildSlice T len parts):=by
 intro R ty ρ H fz slot k r h;simp only[evalOp,EF]at h;split at h;rename_i e t hsl;split at h;rename_i zz hz;split at h;rename_i hd;split at h;rename_i xs fr hp;split at h;rename_i hf;refine⟨_,_,h,fun R' k'=>by simp only[evalOp,EF,hsl,hz,hd,hp,hf],A0 fun w F m ρc o ho ht hi hr => ?_⟩;obtain⟨hu,hty,hpos⟩:=By hsl;obtain⟨t',cs'⟩:=zz;obtain⟨hty',hcs',i,z,hi0,hz0,hok,hsz,hza⟩:=Bl hz;subst hcs';have:t'=t:=by grind
 subst this;simp only[Aps]at hd;have hzd:=Be (w:=w) (F:=F) t' _ hok;have hzl:z.cells.size=t'.size:=by rw[← AqG];exact Dat.length t' hzd
 have hr0:rows (Dat w (DF F m H []) t') (List.replicate len t'.zero) ((Array.range (len*t'.size)).map (z.cells[· % z.cells.size]!)).toList:=by have:=Cy z.cells len;rw[hzl]at this;rw[hzl,this];exact E6 hzd.frz len
 obtain⟨us,e1,e2,e3⟩:=AGI hi hr parts.toList hp hr0;have hgf:=Af.freeze hi fr;have hlen:=A9 (fun x cs (h:Dat w (DF F m H fr) t' x cs)=>Dat.length t' h) e2;have hxl:xs.length=len:=by grind
 have hbig:len≤16777216:=ArD (Nat.le_mul_of_pos_right len hpos) hd
 obtain⟨m',hg,hrep⟩:=FK hgf.2 hf (w':=w.alloc (.cells us e)) hpos (heap_alloc_new w _) rfl rfl rfl (by simp) (fun b hb=>Below.heap_alloc w _ b hb) (cap:=len) (by omega) (by simp only[maxLen];omega)
  (by grind) e2 (by grind)
 refine⟨_,_,_,m',?_,hgf.trans hg,hrep⟩;have e1':Instr.fill (fun i=>some (i*t'.size,t'.size)) ((Array.range (len*t'.size)).map (z.cells[· % z.cells.size]!)) (parts.map fun p=>(p.1,ρc p.2)).toList=some us:=by simp_all
 rw[hxl];have:=II (w:=w) hu hi0 hz0 hsz hd e1';simp[execOp,ho,this];grind;grind;grind;grind
 ·rename_i hsl;split at h
  ·rename_i e q hce hlen hps;have hq:=hps;rw[List.map_eq_singleton_iff]at hq;obtain⟨p,hps',hqp⟩:=hq;subst hqp;dsimp only at h;split at h
   ·rename_i tgt i sub hx;split at h
    ·rename_i hc;split at h
     ·rename_i hf;refine⟨_,_,h,fun R' k'=>by simp only[evalOp,EF,hsl,hce,hlen,hps,hx,hc,hf],A0 fun w F m ρc o ho ht hi hr => ?_⟩;simp only[Apt,Aps]at hc;obtain⟨hp0,rfl,hlive⟩:=hc;simp only[Aps]at hlen;subst hlen;obtain⟨hu,ii,z,hi0,hz0,hsz,hzs,hby⟩:=Tu hce;have hrp:=hr p.2;rw[hx]at hrp;have hone:(ρc p.2).oneCell'=true:=by
       have h2:=hrp;unfold Rep at h2;cases hto:H[tgt]? with
        |none=>rw[hto]at h2;exact h2.elim
        |some o=>rw[hto]at h2;exact Cv.one h2
      have hpt:(ρc p.2).cells = #[ρc p.2]:=by rw[← Arm (xs:=(ρc p.2).cells),FV hone]
      have e1':Instr.fill (fun i=>some (i*Ty.bool.size,Ty.bool.size)) ((Array.range (1*Ty.bool.size)).map (z.cells[· % z.cells.size]!)) (parts.map fun p=>(p.1,ρc p.2)).toList=some #[ρc p.2]:=by
       rw[ArE,hps'];simp only[AqL,Art,hp0];have key:∀ (f:Fin 1→Value) (v:Value),(Array.ofFn f).setIfInBounds 0 v = #[v]:=by intro f v;apply Array.ext;all_goals simp_all
       simp[Instr.fill,hpt,Ty.size,Array.range,key]
      have hrl:AT w F m H (Fv tgt [Int.ofNat i]) [ρc p.2]:=by show AT w F m H [AV.eptr tgt (Int.ofNat i).toNat 0] [ρc p.2];unfold AT;exact⟨_,_,rfl,hrp,by unfold AT;rfl⟩
      obtain⟨m',hg,hrep⟩:=Qn hi hf (w':=w.alloc (.cells #[ρc p.2] e)) (heap_alloc_new w _) rfl rfl rfl (by simp) (fun b hb=>Below.heap_alloc w _ b hb) (cap:=1) (by simp) (by simp only[maxLen];omega) (by simp) hrl (by grind) (by simp);refine⟨_,_,_,m',?_,hg,hrep⟩;have:=II (w:=w) (T:=T) (t':=.bool) hu hi0 hz0 (by rw[hsz];rfl) (by simp[Ty.size]) e1';simp[execOp,ho,this]
     grind
    grind
   grind
  grind
end
end Go.Pev
end
section
namespace Go.Pev
open Go.RowKit
section
variable {P:Program} {E:Env}
theorem DJ{w:World}{b:Nat}{vs:Array Value}{T:TypeId}{f:Nat×Nat}(h:w.heap[b]? = some (.cells vs T f))(i:Nat):w.cell? ⟨b,i,none⟩=vs[i]? := by simp[World.cell?,h]
theorem RC{w:World}{F:Nat→Prop}{m:Mp}{H:List Ob}{fz:List Bool}(hi:HI w F m H fz){id:Nat}{cs:List AV}(ho:H[id]? = some (.box cs)){off:Nat}{v:Value}(hr:Rep w F m H (.ptr id off) v):
  ∃ b c vs T,m id=some (b,c)∧v = .pointer (some ⟨b,off,none⟩)∧w.heap[b]? = some (.cells vs T (0,0))∧AT w F m H cs vs.toList∧∀ u∈vs.toList,u.oneCell'=true:=by obtain⟨b,c,vs,T,e1,e2,e3,e4⟩:=hi.obj id _ ho;unfold Rep GM at hr;grind
theorem LP{w:World}{F:Nat→Prop}{m:Mp}{H:List Ob}{fz:List Bool}(hi:HI w F m H fz){id:Nat}{T:TypeId}{t:Ty}{xs:List t.den}(ho:H[id]? = some (.arr T t xs)){i sub:Nat}{v:Value}(hr:Rep w F m H (.eptr id i sub) v):
  ∃ b cap vs row,m id=some (b,cap)∧v = .pointer (some ⟨b,i*t.size+sub,none⟩)∧i<xs.length∧w.heap[b]? = some (.cells vs T (0,0))∧xs.length≤cap∧cap≤maxLen∧vs.size=cap*t.size∧rows (Dat w F t) xs row∧vs.toList.take row.length=row∧0<t.size:=by obtain⟨h0,h⟩:=hi.obj id _ ho;unfold Rep Cv at hr;rw[ho]at hr;obtain⟨hlt,b,c,e5,e6⟩:=hr;rw[e5]at h;obtain⟨vs,row,e1,e2,e3,e4,e7,e8⟩:=h;exact⟨b,c,vs,row,e5,e6,hlt,e1,e2,e3,e4,e7,e8,h0⟩
theorem ASx(T:TypeId)(x:Operand):Claim P E (.load T x):=by
 intro R ty ρ H fz slot k r h;simp only[evalOp,Jh]at h;split at h;rename_i n ag hs ha;split at h;rename_i id off hx;split at h;rename_i cs ho;split at h;rename_i v hl;refine⟨_,_,h,fun R' k'=>by simp only[evalOp,Jh,hs,ha,hx,ho,hl],AS fun w F m ρc o hop hty hi hr => ?_⟩;obtain⟨b,c,vs,T',e1,e2,e3,e4,e5⟩:=RC hi ho (hx▸hr x);obtain⟨u,h1,h2⟩:=Cw (P:=P) hs ha hl (Ez e4 off) (ad:=⟨b,off,none⟩) (fun u hu=>e5 u (ArT hu)) (fun j u hu=>by rw[CB,DJ e3];grind)
 exact⟨u,by simp[execOp,hop,Instr.loadAt,e2,Instr.sureAddr,h1],h2⟩;grind;grind;rename_i cs hx;split at h;rename_i v hl;refine⟨_,_,h,fun R' k'=>by simp only[evalOp,Jh,hs,ha,hx,hl],AS fun w F m ρc o hop hty hi hr => ?_⟩;have hrx:=hr x;rw[hx]at hrx;unfold Rep at hrx;obtain⟨ad,us,e1,e2,e3,e4,e5⟩:=hrx;obtain⟨u,h1,h2⟩:=Cw (P:=P) hs ha hl e3 (ad:=ad) e4 e5;exact⟨u,by simp[execOp,hop,Instr.loadAt,e1,Instr.sureAddr,h1],h2⟩;grind;rename_i id i sub hx;split at h;rename_i T' t xs ho;split at h;rename_i v hl;refine⟨_,_,h,fun R' k'=>by simp only[evalOp,Jh,hs,ha,hx,ho,hl],AS fun w F m ρc o hop hty hi hr => ?_⟩;obtain⟨b,cap,vs,row,e1,e2,e3,e4,e5,e6,e7,e8,e9,e10⟩:=LP hi ho (hx▸hr x);have hk:=fun(x:t.den) cs (h:Dat w F t x cs)=>Dat.length t h;have hget:xs[i]? = some (AJ xs i t.zero):=by unfold AJ;grind
 have hd:=Lz hk e8 hget;have hre:=Ih (m:=m) (H:=H) t hd;obtain⟨u,h1,h2⟩:=Cw (P:=P) hs ha hl (Ez hre sub) (ad:=⟨b,i*t.size+sub,none⟩) (fun u hu=>Dat.HS t hd u (ArT hu)) (fun j u hu=>by rw[CB,DJ e4];grind)
 exact⟨u,by simp[execOp,hop,Instr.loadAt,e2,Instr.sureAddr,h1],h2⟩;grind;rename_i T' tgt is ho;split at h;rename_i hc;refine⟨_,_,h,fun R' k'=>by simp only[evalOp,Jh,hs,ha,hx,ho,hc],AS fun w F m ρc o hop hty hi hr => ?_⟩;simp only[Apt,ArH,Aqz]at hc;obtain⟨rfl,rfl,rfl⟩:=hc;have hrx:=hr x;rw[hx]at hrx;unfold Rep Cv at hrx;rw[ho]at hrx;obtain⟨hlt,b,c,hm,e2⟩:=hrx;rw[Arb]at e2;have hob:=hi.obj id _ ho;rw[hm]at hob;obtain⟨vs,us,o1,o2,o3,o4,o5,o6,o7⟩:=hob;have hget:(Fv tgt is)[i]? = some (.eptr tgt (AF (AJ is i 0)) 0):=by unfold AJ AF Fv;grind
 obtain⟨u,hu,hru⟩:=CW o5 hget;have hv:=AAw o7 hu;obtain⟨u',h1,h2⟩:=Cw (P:=P) (T:=T) (n:=1) (ag:=false) (cs:=[.eptr tgt (AF (AJ is i 0)) 0]) (us:=[u]) (v:=.eptr tgt (AF (AJ is i 0)) 0) hs ha rfl (by unfold AT;exact⟨_,_,rfl,hru,by unfold AT;rfl⟩) (ad:=⟨b,i,none⟩) (fun x hx=>by
  grind) (fun j x hj=>by
  cases j with
   |zero=>rw[CB,DJ o1];grind
   |succ j=>grind)
 exact⟨u',by simp[execOp,hop,Instr.loadAt,e2,Instr.sureAddr,h1],h2⟩;grind;rename_i T' e t xs ver ho;split at h;rename_i hc;refine⟨_,_,h,fun R' k'=>by simp only[evalOp,Jh,hs,ha,hx,ho,hc],AS fun w F m ρc o hop hty hi hr => ?_⟩;simp only[Apt,ArH,Aqz]at hc;obtain⟨rfl,rfl,rfl⟩:=hc;have hrx:=hr x;rw[hx]at hrx;unfold Rep Cv at hrx;rw[ho]at hrx;obtain⟨hlt,b,c,hm,e2⟩:=hrx;rw[Arb]at e2;obtain⟨b',cap,u,q1,⟨vs,q2,q3⟩,q4⟩:=AJU hi ho hlt;rw[hm]at q1;cases q1;obtain⟨u',h1,h2⟩:=Cw (P:=P) (T:=T) (n:=1) (ag:=false) (cs:=[.rowp id i ver]) (us:=[u]) (v:=.rowp id i ver) hs ha rfl (by unfold AT;exact⟨_,_,rfl,q4,by unfold AT;rfl⟩) (ad:=⟨b,i,none⟩) (fun x hx=>by
  rw[AqR]at hx;subst hx;have:=q4;unfold Rep at this;rw[ho]at this;exact this.one) (fun j x hj=>by
  cases j with
   |zero=>rw[CB,DJ q2];grind
   |succ j=>grind)
 exact⟨u',by simp[execOp,hop,Instr.loadAt,e2,Instr.sureAddr,h1],h2⟩;grind;grind;grind;grind
theorem Gj{w:World}{b:Nat}{cs:Array Value}:(w.setRow b cs).os=w.os∧(w.setRow b cs).tape=w.tape∧(w.setRow b cs).output=w.output∧(w.setRow b cs).heap.size=w.heap.size∧∀ k,k≠b→(w.setRow b cs).heap[k]? = w.heap[k]? :=
 ⟨rfl,rfl,rfl,setRow_size w b cs,fun k hk=>setRow_other w b k cs hk⟩
theorem AZj{H:List Ob}{fz:List Bool}{id:Nat}{cs:List AV}(h:H[id]? = some (.box cs)):owned H fz id:=by simp only[owned,Bv];grind
theorem CO{H:List Ob}{fz:List Bool}{id:Nat}{T:TypeId}{t:Ty}{xs:List t.den}(h:H[id]? = some (.arr T t xs))(hf:AZ fz id=true):owned H fz id:=by simp only[owned,Bv];rw[h];simpa [AZ]using hf
theorem Et{H:List Ob}{fz:List Bool}{id:Nat}{a b:Ty}{es:List (a.den×b.den)}(h:H[id]? = some (.map a b es)):owned H fz id:=by simp only[owned,Bv];grind
theorem AGy{w:World}{F:Nat→Prop}{m:Mp}{H:List Ob}{fz:List Bool}(hi:HI w F m H fz){id:Nat}{T:TypeId}{t:Ty}{xs:List t.den}(ho:H[id]? = some (.arr T t xs))(hf:AZ fz id=true)
  {b cap:Nat} (hm:m id=some (b,cap)) {i:Nat} (hlt:i<xs.length) {y:t.den} {ds:List Value} (hy:Dat w F t y ds) {vs:Array Value} {row:List Value}
  (e1:w.heap[b]? = some (.cells vs T (0,0))) (e2:xs.length≤cap) (e3:cap≤maxLen) (e4:vs.size=cap*t.size) (e7:rows (Dat w F t) xs row) (e8:vs.toList.take row.length=row) (h0:0<t.size) :
  Af w F m H fz (w.setRow b (vs.toList.take (i*t.size)++ds++vs.toList.drop (i*t.size+t.size)).toArray) F m (H.set id (.arr T t (AX xs i y))) fz:=by
 obtain⟨r1,r2,r3,r4,r5⟩:=Gj (w:=w) (b:=b) (cs:=(vs.toList.take (i*t.size)++ds++vs.toList.drop (i*t.size+t.size)).toArray);have hk:=fun(x:t.den) cs (h:Dat w F t x cs)=>Dat.length t h;have hlen:=A9 hk e7;have hdl:=hk _ _ hy;have hle:i*t.size+t.size≤xs.length*t.size:=by have:(i+1)*t.size≤xs.length*t.size:=Aqj _ hlt;grind
 have hle2:xs.length*t.size≤cap*t.size:=Aqj _ e2;have hvl:vs.toList.length=cap*t.size:=by omega
 refine Af.set hi (CO ho hf) hm ho ⟨rfl,by simp[AX]⟩ r1 r2 r3 r4 r5 fun hmono => ?_;refine⟨h0,?_⟩;rw[hm];refine⟨_,row.take (i*t.size)++ds++row.drop (i*t.size+t.size),setRow_heap w b vs _ T _ e1,by simpa [AX]using e2,e3,?_,?_,?_⟩;grind
 have hcell:∀ k,F k→(w.setRow b (vs.toList.take (i*t.size)++ds++vs.toList.drop (i*t.size+t.size)).toArray).heap[k]? = w.heap[k]? := fun k ha=>
  r5 k (by rintro rfl;exact hi.off id _ cap (CO ho hf) hm ha)
 exact BL (fun x _ cs hx=>hx.mono hcell (fun _ h=>h) t) (AJS hk e7 hlt hy)
 ·have hrl:(row.take (i*t.size)++ds++row.drop (i*t.size+t.size)).length=row.length:=by grind
  rw[hrl];show List.take row.length (vs.toList.take (i*t.size)++ds++vs.toList.drop (i*t.size+t.size))=_;have h1:row.take (i*t.size)=vs.toList.take (i*t.size):=by rw[← e8,AsV,Aqw (by omega)]
  have h2:row.drop (i*t.size+t.size)=(vs.toList.drop (i*t.size+t.size)).take (row.length-(i*t.size+t.size)):=by
   conv=>lhs;rw[← e8]
   rw[List.drop_take]
  rw[h1,h2,Asf,ArM (by grind)];congr 2;simp only[Ap3,Aqn,hvl,hdl];omega
theorem nul?_some{t e:Ty}(h:t.nul? = some e):t = .nul e:=by
 cases t<;>simp only[Ty.nul?]at h<;>first|(cases h;done)|skip
 grind
theorem AJT{w:World}{F:Nat→Prop}{e:Ty}:∀ {xs:List Unit} {cs:List Value},rows (Dat w F (.nul e)) xs cs→rows (Dat w F (.slice e)) (Cb xs.length []) cs:=by
 intro xs;induction xs with
  |nil=>exact fun h=>h
  |cons x xs ih=>rintro cs ⟨c1,c2,rfl,h1,h2⟩;cases h1;exact⟨_,c2,rfl,⟨none,0,rfl,Ap1 _,fun h=>absurd rfl h⟩,ih h2⟩
theorem AmI{w:World}{F:Nat→Prop}{m:Mp}{H:List Ob}{fz:List Bool}(hi:HI w F m H fz){id:Nat}{T:TypeId}{e:Ty}{xs:List Unit}(ho:H[id]? = some (.arr T (.nul e) xs))(hf:AZ fz id=true)
  {b cap:Nat} (hm:m id=some (b,cap)) {vs:Array Value} {row:List Value}
  (e1:w.heap[b]? = some (.cells vs T (0,0))) (e2:xs.length≤cap) (e3:cap≤maxLen) (e4:vs.size=cap*1) (e7:rows (Dat w F (.nul e)) xs row) (e8:vs.toList.take row.length=row) :
  Af w F m H fz w F m (H.set id (.arr T (.slice e) (Cb xs.length []))) fz:=by
 refine Af.set hi (CO ho hf) hm ho ⟨rfl,by simp[Cb]⟩ rfl rfl rfl rfl (fun _ _=>rfl) fun _=>⟨Nat.one_pos,?_⟩
 rw[hm];exact⟨vs,row,e1,by simpa [Cb]using e2,e3,e4,AJT e7,e8⟩
theorem AMA(T:TypeId)(x y:Operand):Claim P E (.store T x y):=by
 intro R ty ρ H fz slot k r h;simp only[evalOp,GW]at h;split at h
 ·rename_i n vs hs hv;split at h;cases h
  ·rename_i hd;simp only[Aps]at hd;split at h;rename_i id off hx;split at h;rename_i cs ho;split at h;rename_i cs' hp;refine⟨_,_,h,fun R' k'=>by simp only[evalOp,GW,hs,hv,hd,Apy,hx,ho,hp],EC fun w F m ρc o hop hty hi hr => ?_⟩;obtain⟨b,c,us,T',e1,e2,e3,e4,e5⟩:=RC hi ho (hx▸hr x);have hry:=cells?_ok hv (hr y);have h1y:=cells?_one hv (hr y);obtain⟨hle,hr'⟩:=Ja hp e4 hry;have hyl:=Ap hry;have hul:=Ap e4;have hsz:(ρc y).cells.size=n:=by grind
   have hst:=DM (P:=P) hs e3 (off:=off) hsz h1y (by grind);obtain⟨r1,r2,r3,r4,r5⟩:=Gj (w:=w) (b:=b) (cs:=(us.toList.take off++(ρc y).cells.toList++us.toList.drop (off+n)).toArray);have hg:=Af.set hi (AZj ho) e1 ho (o':=.box cs') trivial r1 r2 r3 r4 r5 fun hmono=>⟨b,c,_,T',e1,setRow_heap w b us _ T' _ e3,?_,?_⟩
   exact⟨_,F,m,by simp[execOp,hop,Instr.storeAt,e2,Instr.sureAddr,hst],hg⟩;rw[hd]at hr';exact DL (Ap hr') fun i c v hc hv=>by obtain⟨v',hv',hr''⟩:=CW hr' hc;grind
   grind;grind;grind
   ·rename_i id i sub hx;split at h
    ·rename_i T' t xs ho;split at h;rename_i e hnul;have htn:=nul?_some hnul;subst htn;split at h;rename_i hc;split at h;rename_i z fr hz;split at h;rename_i hf;refine⟨_,_,h,fun R' k'=>by simp only[evalOp,GW,hs,hv,hd,Apy,hx,ho,hnul,hc,hz,hf],EC fun w F m ρc o hop hty hi hr => ?_⟩;simp only[Apt,ArH]at hc;obtain⟨rfl,rfl⟩:=hc;have hgf:=Af.freeze hi fr;have hrx:=hgf.1.rep hi (hx▸hr x);obtain⟨b,cap,us,row,e1,e2,e3,e4,e5,e6,e7,e8,e9,e10⟩:=LP hgf.2 ho hrx;have hg0:=AmI hgf.2 ho hf e1 e4 e5 e6 e7 e8 e9;have hyd:=PK (DK hi hz (hr y));have hyl:=Dat.length (.slice e) hyd;have hst:=DM (P:=P) hs e4 (off:=i*1) (u:=ρc y) (by rw[← AqG,hyl];rfl) (cells?_one hv (hr y)) (by rw[e7];have:(i+1)*1≤cap*1:=Aqj _ (by omega);rwa [Aq7,Arr]at this)
     have hlt:=Aj ho;have hg:=AGy (t:=.slice e) hg0.2 (Ax hlt) hf e1 (by simpa [Cb]using e3) (hg0.1.dat hgf.2 (t:=.slice e) hyd) e4 (by simpa [Cb]using e5) e6 e7 (AJT e8) e9 e10;rw[List.set_set]at hg;have e2':ρc x = .pointer (some ⟨b,i*(Ty.slice e).size,none⟩):=e2;refine⟨_,_,m,(?_:(execOp ρc o).run P w = .ok _ _),(hgf.trans hg0).trans hg⟩;have hst':(storeVar T ⟨b,i*(Ty.slice e).size,none⟩ (ρc y)).run P w = .ok () (w.setRow b (us.toList.take (i*(Ty.slice e).size)++(ρc y).cells.toList++us.toList.drop (i*(Ty.slice e).size+(Ty.slice e).size)).toArray):=hst;simp[execOp,hop,Instr.storeAt,e2',Instr.sureAddr,hst'];grind;grind;grind;rename_i hnul;split at h;rename_i hc;split at h;rename_i z fr hz;split at h;rename_i hf;refine⟨_,_,h,fun R' k'=>by simp only[evalOp,GW,hs,hv,hd,Apy,hx,ho,hnul,hc,hz,hf],EC fun w F m ρc o hop hty hi hr => ?_⟩;simp only[Apt,ArH]at hc;obtain⟨rfl,rfl⟩:=hc;have hgf:=Af.freeze hi fr;have hrx:=hgf.1.rep hi (hx▸hr x);obtain⟨b,cap,us,row,e1,e2,e3,e4,e5,e6,e7,e8,e9,e10⟩:=LP hgf.2 ho hrx;have hyd:=PK (DK hi hz (hr y));have hyl:=Dat.length t hyd;have hst:=DM (P:=P) hs e4 (off:=i*t.size) (u:=ρc y) (by omega) (cells?_one hv (hr y)) (by rw[e7];have:(i+1)*t.size≤cap*t.size:=Aqj _ (by omega);grind)
     have hg:=AGy hgf.2 ho hf e1 e3 hyd e4 e5 e6 e7 e8 e9 e10;exact⟨_,_,m,by simp[execOp,hop,Instr.storeAt,e2,Instr.sureAddr,hst],hgf.trans hg⟩;grind;grind
     ·rename_i hc;split at h;cases h
      ·rename_i cs' hp;split at h
       ·rename_i z fr hz;split at h
        ·rename_i hf;refine⟨_,_,h,fun R' k'=>by simp only[evalOp,GW,hs,hv,hd,Apy,hx,ho,hnul,hc,hp,hz,hf],EC fun w F m ρc o hop hty hi hr => ?_⟩;have hgf:=Af.freeze hi fr;obtain⟨b,cap,us,row,e1,e2,e3,e4,e5,e6,e7,e8,e9,e10⟩:=LP hi ho (hx▸hr x);have hk:=fun(x:t.den) cs (h:Dat w F t x cs)=>Dat.length t h;have hget:xs[i]? = some (AJ xs i t.zero):=by unfold AJ;grind
         have hdi:=Lz hk e8 hget;have hre:=Ih (m:=m) (H:=H) t hdi;have hry:=cells?_ok hv (hr y);have h1y:=cells?_one hv (hr y);obtain⟨hle,hr'⟩:=Ja hp hre hry;have hyl:=Ap hry;have hel:=Ap hre;have hrl:=A9 hk e8;have hcl:=hk _ _ hdi;have hi1:i*t.size+t.size≤xs.length*t.size:=by grind
         have hi2:xs.length*t.size≤cap*t.size:=Aqj _ e5;rw[hd]at hle hr';have hst:=DM (P:=P) hs e4 (off:=i*t.size+sub) (u:=ρc y) (by grind) h1y (by omega);obtain⟨u1,u2,q1,q2,q3⟩:=YG hi t hz hr';unfold AT at q3;subst q3;rw[Aqv]at q1;subst q1;have hg:=AGy hgf.2 ho hf e1 e3 q2 e4 e5 e6 e7 (BL (fun x _ cs hx=>hx.frz) e8) e9 e10;have hX:(row.drop (i*t.size)).take t.size=(us.toList.drop (i*t.size)).take t.size:=by
          conv=>lhs;rw[← e9]
          rw[List.drop_take,AsV,Aqw (by omega)]
         have hEq:us.toList.take (i*t.size)++(((row.drop (i*t.size)).take t.size).take sub++(ρc y).cells.toList++((row.drop (i*t.size)).take t.size).drop (sub+n))++us.toList.drop (i*t.size+t.size) =
           us.toList.take (i*t.size+sub)++(ρc y).cells.toList++us.toList.drop (i*t.size+sub+n):=by
          rw[hX,List.take_add,AsV,Aqw (by omega)]
          have:((us.toList.drop (i*t.size)).take t.size).drop (sub+n)++us.toList.drop (i*t.size+t.size)=us.toList.drop (i*t.size+sub+n):=by
           rw[← ArP (i:=t.size),Nat.add_assoc,← ArP (i:=sub+n)]
           conv=>rhs;rw[← Aqa t.size (us.toList.drop (i*t.size))]
           grind
          grind
         rw[hEq]at hg;exact⟨_,_,m,by simp[execOp,hop,Instr.storeAt,e2,Instr.sureAddr,hst],hgf.trans hg⟩
        grind
       grind
    rename_i T' e t xs ver i' ho;split at h;rename_i id' j ver' hy hc;split at h;rename_i hd2;split at h;rename_i hq;refine⟨_,_,h,fun R' k'=>by have hv':=hv;rw[hy]at hv';simp only[evalOp,GW,hs,hv',hd,Apy,hx,ho,hy,hc,hd2,hq],EC fun w F m ρc o hop hty hi hr => ?_⟩
    simp only[Apt,ArH,Aps,Db]at hc hd2 hq;obtain⟨⟨rfl,rfl⟩,hun⟩:=hc;obtain⟨rfl,rfl⟩:=hd2;obtain⟨hq1,hq2⟩:=hq;have e1:i=i':=by omega
    have e2:j=i':=by omega
    subst e1;subst e2;have hun':fz.getD id false=false:=by unfold AZ at hun;grind
    have hrx:=hr x;rw[hx]at hrx;unfold Rep Cv at hrx;rw[ho]at hrx;obtain⟨hlt,b,c,hm,e2⟩:=hrx;rw[Arb]at e2;have hry:=hr y;rw[hy]at hry;unfold Rep at hry;rw[ho]at hry;obtain⟨hone,_,h7⟩:=hry;obtain⟨ys,hys,hrep⟩:=(h7 rfl).resolve_right fun h=>by cases h.1
    obtain⟨h4,h5⟩:=hi.obj id _ ho;rw[hm]at h5;obtain⟨us,q1,q2,q3,q4,q5⟩:=h5;have hcl:=FV hone;have hsz1:(ρc y).cells.size=1:=by rw[← AqG,hcl];rfl
    have hlu:j+1≤us.size:=by omega
    have hst:=DM (P:=P) hs q1 (off:=j) (u:=ρc y) hsz1 (cells?_one hv (hr y)) hlu;obtain⟨r1,r2,r3,r4,r5⟩:=Gj (w:=w) (b:=b) (cs:=(us.toList.take j++(ρc y).cells.toList++us.toList.drop (j+1)).toArray);have hg:=Af.put hi ho hun' hys hm q1 hrep r1 r2 r3 r4 r5 (setRow_heap w b us _ T' _ q1) (by rw[List.toList_toArray,hcl,List.set_eq_take_append_cons_drop,Ap5 (by grind)];simp)
    exact⟨_,F,m,by simp[execOp,hop,Instr.storeAt,e2,Instr.sureAddr,hst],hg⟩;grind;grind;grind;grind
   grind
 grind
theorem Kx{H:List Ob}{id:Nat}(h:FE H id=true):∃ cs,H[id]? = some (.box cs):=by unfold FE at h;grind
theorem D9{H:List Ob}{id:Nat}(h:Cu H id=true):∃ T t xs,H[id]? = some (.arr T t xs):=by unfold Cu at h;grind
theorem Ys(x:Operand):Claim P E (.nilCheck x):=by intro R ty ρ H fz slot k r h;simp only[evalOp,Cs]at h;split at h;rename_i id off hx;split at h;rename_i hl;obtain⟨cs,ho⟩:=Kx hl;refine⟨_,_,h,fun R' k'=>by simp only[evalOp,Cs,hx,hl],AS fun w F m ρc o hop hty hi hr=>⟨ρc x,?_,hx▸hr x⟩⟩;obtain⟨b,c,vs,T,_,e2,_⟩:=RC hi ho (hx▸hr x);simp[execOp,hop,e2];grind;rename_i id i s hx;split at h;rename_i hl;obtain⟨T,t,xs,ho⟩:=D9 hl;refine⟨_,_,h,fun R' k'=>by simp only[evalOp,Cs,hx,hl],AS fun w F m ρc o hop hty hi hr=>⟨ρc x,?_,hx▸hr x⟩⟩;obtain⟨b,c,vs,T,_,e2,_⟩:=LP hi ho (hx▸hr x);simp[execOp,hop,e2];grind;rename_i cs hx;refine⟨_,_,h,fun R' k'=>by simp only[evalOp,Cs,hx],AS fun w F m ρc o hop hty hi hr=>⟨ρc x,?_,hx▸hr x⟩⟩;have hrx:=hr x;rw[hx]at hrx;unfold Rep at hrx;obtain⟨ad,us,e1,_⟩:=hrx;simp[execOp,hop,e1];rename_i f cs hx;refine⟨_,_,h,fun R' k'=>by simp only[evalOp,Cs,hx],AS fun w F m ρc o hop hty hi hr=>⟨ρc x,?_,hx▸hr x⟩⟩;have hrx:=hr x;rw[hx]at hrx;unfold Rep at hrx;obtain⟨us,e1,_⟩:=hrx;simp[execOp,hop,e1];rename_i f cs hx;refine⟨_,_,h,fun R' k'=>by simp only[evalOp,Cs,hx],AS fun w F m ρc o hop hty hi hr=>⟨ρc x,?_,hx▸hr x⟩⟩;have hrx:=hr x;rw[hx]at hrx;unfold Rep at hrx;obtain⟨us,e1,_⟩:=hrx;simp[execOp,hop,e1];grind
end
end Go.Pev
end
section
namespace Go.Pev
open Go.RowKit
section
variable {P:Program} {E:Env}
theorem Gw(op:BinOp)(t:TypeId)(x y:Operand)(w:World)(k:IntKind)(n:Int)(v:Value):(eqGuard op t x y (.int k n) v).run P w = .ok () w:=by rw[eqGuard_at_int];rfl
theorem Qw(op:BinOp)(t:TypeId)(x y:Operand)(w:World)(b:Bool)(v:Value):(eqGuard op t x y (.bool b) v).run P w = .ok () w:=by rw[eqGuard_at_bool];rfl
theorem Qv(op:BinOp)(t:TypeId)(x y:Operand)(w:World)(b:ByteArray)(v:Value):(eqGuard op t x y (.string b) v).run P w = .ok () w:=by rw[eqGuard_at_string];rfl
theorem AMR(s s':ByteArray):Ad6 (bytesOf s) (bytesOf s')=(s.toList==s'.toList):=by rw[AsL];unfold Ad6;rw[ArH,ArH,ByteArray.toList_eq,ByteArray.toList_eq];unfold bytesOf;constructor;intro h;exact(List.map_inj_right (fun a b e=>UInt8.toNat_inj.1 (Int.ofNat.inj e))).1 h;grind
theorem APk{op:BinOp}{j:IntKind}{a b:Int}{v:AV}(h:ATG op j a b=some v)(t:TypeId)(w:World):
  ∃ u,(binOp op t (.int j a) (.int j b)).run P w = .ok u w∧∀ F m H,Rep w F m H v u:=by
 unfold ATG at h;simp only[Ab,Ao,Db]at h;cases op with
  |add=>simp only[Apq]at h;subst h;exact⟨.int j (j.wrap (a+b)),by simp[binOp,Op.intArith],fun _ _ _=>Ar _ _⟩
  |sub=>simp only[Apq]at h;subst h;exact⟨.int j (j.wrap (a-b)),by simp[binOp,Op.intArith],fun _ _ _=>Ar _ _⟩
  |mul=>simp only[Apq]at h;subst h;exact⟨.int j (j.wrap (a*b)),by simp[binOp,Op.intArith],fun _ _ _=>Ar _ _⟩
  |and=>simp only[Apq]at h;subst h;exact⟨.int j (j.wrap (BitVec.ofInt j.bits a &&& BitVec.ofInt j.bits b).toNat),by simp only[binOp,ne_eq,Aqt,AqB];rfl,fun _ _ _=>Ar _ _⟩
  |or=>simp only[Apq]at h;subst h;exact⟨.int j (j.wrap (BitVec.ofInt j.bits a ||| BitVec.ofInt j.bits b).toNat),by simp only[binOp,ne_eq,Aqt,AqB];rfl,fun _ _ _=>Ar _ _⟩
  |xor=>simp only[Apq]at h;subst h;exact⟨.int j (j.wrap (BitVec.ofInt j.bits a ^^^ BitVec.ofInt j.bits b).toNat),by simp only[binOp,ne_eq,Aqt,AqB];rfl,fun _ _ _=>Ar _ _⟩
  |andNot=>simp only[Apq]at h;subst h;exact⟨.int j (j.wrap (BitVec.ofInt j.bits a &&& ~~~(BitVec.ofInt j.bits b)).toNat),by simp only[binOp,ne_eq,Aqt,AqB];rfl,fun _ _ _=>Ar _ _⟩
  |eql=>simp only[Apq]at h;subst h;exact⟨.bool (a==b),by simp only[binOp,ne_eq,Aqt,AqB];rfl,fun _ _ _=>BH _⟩
  |neq=>simp only[Apq]at h;subst h;exact⟨.bool (a != b),by simp only[binOp,ne_eq,Aqt,AqB];rfl,fun _ _ _=>BH _⟩
  |lss=>simp only[Apq]at h;subst h;exact⟨.bool (decide (a<b)),by simp only[binOp,ne_eq,Aqt,AqB];rfl,fun _ _ _=>BH _⟩
  |leq=>simp only[Apq]at h;subst h;exact⟨.bool (decide (a≤b)),by simp only[binOp,ne_eq,Aqt,AqB];rfl,fun _ _ _=>BH _⟩
  |gtr=>simp only[Apq]at h;subst h;exact⟨.bool (decide (a > b)),by simp only[binOp,ne_eq,Aqt,AqB];rfl,fun _ _ _=>BH _⟩
  |geq=>simp only[Apq]at h;subst h;exact⟨.bool (decide (a≥b)),by simp only[binOp,ne_eq,Aqt,AqB];rfl,fun _ _ _=>BH _⟩
  |_=>cases h
theorem KJ{w:World}{F:Nat→Prop}{m:Mp}{H:List Ob}{v:AV}(h:OC v=true){u:Value}(hr:Rep w F m H v u):∃ vs,u = .agg vs:=by
 cases v with
  |agg cs=>unfold Rep at hr;grind
  |data t d=>have h:t.isAgg=true:=h;unfold Rep Bn at hr;grind
  |_=>simp[OC]at h
theorem Z6{T:TypeId}{n:List Bool}(h:structEq P T=some n):∃ fs:Array Field,P.underlying T=some (.struct fs)∧P.eqGuardType P.depth T=false∧P.stoodInHeld T=false∧Dt P fs.toList 0=true∧n=fs.toList.map fun f=>IZ P f.type:=by unfold structEq at h;grind
theorem B2{t:TypeId}(h:Lv P t=true):(∃ k,P.underlying t=some (.int k)∧IZ P t=true)∨(P.underlying t=some .bool∧IZ P t=false):=by unfold Lv at h;split at h;rename_i k hk;exact .inl ⟨k,hk,by simp[IZ,hk]⟩;rename_i hk;exact .inr ⟨hk,by simp[IZ,hk]⟩;grind
theorem MU{k:Bool}{ks:List Bool}{c e:AV}{cs ds:List AV}{r:Bool}(h:BJ (k::ks) (c::cs) (e::ds)=some r):
  (∃ j a b r',k=true∧c = .data (.int j) a∧e = .data (.int j) b∧BJ ks cs ds=some r'∧r=(ieq a b&&r'))∨(∃ a b r',k=false∧c = .data .bool a∧e = .data .bool b∧BJ ks cs ds=some r'∧r=((a==b)&&r')):=by unfold BJ at h;grind
theorem Qx{w:World}{F:Nat→Prop}{m:Mp}{H:List Ob}(d:Nat)(xs ys:Array Value):∀ (fs:List Field) (i:Nat) (cs ds:List AV) (r:Bool),Dt P fs i=true→AT w F m H cs (xs.toList.drop i)→AT w F m H ds (ys.toList.drop i)→BJ (fs.map fun f=>IZ P f.type) cs ds=some r →
  (Op.eqFields (d+1) xs ys fs).run P w = .ok r w:=by
 intro fs;induction fs with
  |nil=>
   intro i cs ds r hok hc hd he;cases cs with
    |cons c cs=>simp[BJ]at he
    |nil=>
     cases ds with
      |cons c cs=>simp[BJ]at he
      |nil=>simp only[Art,BJ,Apq]at he;subst he;simp[Op.eqFields]
  |cons f fs ih=>
   intro i cs ds r hok hc hd he;rw[AqL]at he;cases cs with
    |nil=>cases hf:IZ P f.type<;>rw[hf]at he<;>simp[BJ]at he
    |cons c cs=>
     cases ds with
      |nil=>cases hf:IZ P f.type<;>rw[hf]at he<;>simp[BJ]at he
      |cons e ds=>
       simp only[Dt,Apt,bne_iff_ne,Aps]at hok;obtain⟨hn,ho,hsc,hok⟩:=hok;unfold AT at hc hd;obtain⟨v,vs,e1,hv,hvs⟩:=hc;obtain⟨u,us,e2,hu,hus⟩:=hd;have g1:xs[i]? = some v:=by
        have:=Aqx (·[0]?) e1
        grind
       have g2:ys[i]? = some u:=by
        have:=Aqx (·[0]?) e2
        grind
       have n1:xs.toList.drop (i+1)=vs:=by have:=Aqx (List.drop 1) e1;simpa only[ArP,ArN,ArQ]using this
       have n2:ys.toList.drop (i+1)=us:=by have:=Aqx (List.drop 1) e2;simpa only[ArP,ArN,ArQ]using this
       have hag:EZ P f.type=some false:=by rcases B2 hsc with⟨k,hk,_⟩|⟨hk,_⟩<;>simp[EZ,hk]
       have p1:(part f.type xs f.offset).run P w = .ok v w:=by rw[ho];simp[part,Cc hag,g1]
       have p2:(part f.type ys f.offset).run P w = .ok u w:=by rw[ho];simp[part,Cc hag,g2]
       have step:∀ (q r':Bool),(Op.equalIn (d+1) f.type v u).run P w = .ok q w→BJ (fs.map fun f=>IZ P f.type) cs ds=some r'→(Op.eqFields (d+1) xs ys (f::fs)).run P w = .ok (q&&r') w:=by intro q r' h1 h2;have h3:=ih (i+1) cs ds r' hok (by grind) (by grind) h2;simp only[Op.eqFields,hn,ne_eq,not_false_eq_true,AqP,Sem.run_bind,p1,Result.andThen_ok,p2,h1,Sem.run_ite];cases q;all_goals simp_all
       rcases MU he with⟨j,a,b,r',hk,rfl,rfl,h2,rfl⟩|⟨a,b,r',hk,rfl,rfl,h2,rfl⟩
       have v1:=A1 hv;have v2:=A1 hu;subst v1 v2;rcases B2 hsc with⟨k,hk1,_⟩|⟨_,hk2⟩
       rw[Db];exact step _ _ (run_equalIn_int w d f.type j k a b hk1) h2;grind;have v1:=Cx hv;have v2:=Cx hu;subst v1 v2;rcases B2 hsc with⟨k,_,hk2⟩|⟨hk1,_⟩
       grind;exact step _ _ (run_equalIn_bool' w d f.type a b hk1) h2
theorem ALb:∀ {ks ks':List Bool} {cs ds:List AV} {r:Bool},BJ (ks++ks') cs ds=some r →
  ∃ cs1 cs2 ds1 ds2 r1 r2,cs=cs1++cs2∧ds=ds1++ds2∧cs1.length=ks.length∧ds1.length=ks.length∧BJ ks cs1 ds1=some r1∧BJ ks' cs2 ds2=some r2∧r=(r1&&r2):=by
 intro ks;induction ks with
  |nil=>intro ks' cs ds r h;exact⟨[],cs,[],ds,true,r,rfl,rfl,rfl,rfl,rfl,h,by simp⟩
  |cons b ks ih=>
   intro ks' cs ds r h;rw[AqJ]at h;cases cs with
    |nil=>cases b<;>simp[BJ]at h
    |cons c cs=>
     cases ds with
      |nil=>cases b<;>simp[BJ]at h
      |cons e ds=>
       rcases MU h with⟨j,x,y,r',rfl,rfl,rfl,h2,rfl⟩|⟨x,y,r',rfl,rfl,rfl,h2,rfl⟩
       obtain⟨cs1,cs2,ds1,ds2,r1,r2,rfl,rfl,l1,l2,q1,q2,rfl⟩:=ih h2;exact⟨_::cs1,cs2,_::ds1,ds2,(ieq x y&&r1),r2,rfl,rfl,by simp[l1],by simp[l2],by simp[BJ,q1],q2,by grind⟩;obtain⟨cs1,cs2,ds1,ds2,r1,r2,rfl,rfl,l1,l2,q1,q2,rfl⟩:=ih h2;exact⟨_::cs1,cs2,_::ds1,ds2,((x==y)&&r1),r2,rfl,rfl,by simp[l1],by simp[l2],by simp[BJ,q1],q2,by grind⟩
theorem Y8{w:World}{F:Nat→Prop}{m:Mp}{H:List Ob}:∀ {a b:List AV} {vs:List Value},AT w F m H (a++b) vs→∃ v1 v2,vs=v1++v2∧AT w F m H a v1∧AT w F m H b v2:=by
 intro a;induction a with
  |nil=>intro b vs h;exact⟨[],vs,rfl,by unfold AT;rfl,h⟩
  |cons c a ih=>intro b vs h;rw[AqJ]at h;unfold AT at h;obtain⟨v,vs',rfl,hv,h⟩:=h;obtain⟨v1,v2,rfl,h1,h2⟩:=ih h;exact⟨v::v1,v2,rfl,by unfold AT;grind,h2⟩
theorem AR5{w:World}{F:Nat→Prop}{m:Mp}{H:List Ob}(d:Nat)(xs ys:Array Value):∀ (fs:List Field) (i:Nat) (n:List Bool) (cs ds:List AV) (r:Bool),Oe P fs i=some n→AT w F m H cs (xs.toList.drop i)→AT w F m H ds (ys.toList.drop i)→BJ n cs ds=some r →
  (Op.eqFields (d+1+1) xs ys fs).run P w = .ok r w:=by
 intro fs;induction fs with
  |nil=>
   intro i n cs ds r hok hc hd he;cases hok;cases cs with
    |cons c cs=>simp[BJ]at he
    |nil=>
     cases ds with
      |cons c cs=>simp[BJ]at he
      |nil=>simp only[BJ,Apq]at he;subst he;simp[Op.eqFields]
  |cons f fs ih=>
   intro i n cs ds r hok hc hd he;unfold Oe at hok;split at hok;cases hok;rename_i hno;simp only[Apt,bne_iff_ne,Aps]at hno;obtain⟨hn,ho⟩:=hno
   have go:∀ (v u:Value) (n1 n2:List Bool) (cs1 cs2 ds1 ds2:List AV) (q r':Bool) (j:Nat),Oe P fs (i+j)=some n2→AT w F m H cs2 (xs.toList.drop (i+j))→AT w F m H ds2 (ys.toList.drop (i+j))→BJ n2 cs2 ds2=some r' →
     (part f.type xs f.offset).run P w = .ok v w→(part f.type ys f.offset).run P w = .ok u w→(Op.equalIn (d+1+1) f.type v u).run P w = .ok q w→(Op.eqFields (d+1+1) xs ys (f::fs)).run P w = .ok (q&&r') w:=by
    intro v u n1 n2 cs1 cs2 ds1 ds2 q r' j h1 h2 h3 h4 p1 p2 h5
    have h6:=ih (i+j) n2 cs2 ds2 r' h1 h2 h3 h4
    simp only[Op.eqFields,hn,ne_eq,not_false_eq_true,AqP,Sem.run_bind,p1,Result.andThen_ok,p2,h5,Sem.run_ite]
    cases q
    all_goals simp_all
   split at hok;rename_i hsc;obtain⟨n2,h2,rfl⟩:=Ap2.1 hok;cases cs with
    |nil=>cases hf:IZ P f.type<;>rw[hf]at he<;>simp[BJ]at he
    |cons c cs=>
     cases ds with
      |nil=>cases hf:IZ P f.type<;>rw[hf]at he<;>simp[BJ]at he
      |cons e ds=>
       unfold AT at hc hd;obtain⟨v,vs,e1,hv,hvs⟩:=hc;obtain⟨u,us,e2,hu,hus⟩:=hd;have g1:xs[i]? = some v:=by
        have:=Aqx (·[0]?) e1
        grind
       have g2:ys[i]? = some u:=by
        have:=Aqx (·[0]?) e2
        grind
       have n1:xs.toList.drop (i+1)=vs:=by have:=Aqx (List.drop 1) e1;simpa only[ArP,ArN,ArQ]using this
       have n3:ys.toList.drop (i+1)=us:=by have:=Aqx (List.drop 1) e2;simpa only[ArP,ArN,ArQ]using this
       have hag:EZ P f.type=some false:=by rcases B2 hsc with⟨k,hk,_⟩|⟨hk,_⟩<;>simp[EZ,hk]
       have p1:(part f.type xs f.offset).run P w = .ok v w:=by rw[ho];simp[part,Cc hag,g1]
       have p2:(part f.type ys f.offset).run P w = .ok u w:=by rw[ho];simp[part,Cc hag,g2]
       rcases MU he with⟨j,a,b,r',hk,rfl,rfl,h4,rfl⟩|⟨a,b,r',hk,rfl,rfl,h4,rfl⟩
       have v1:=A1 hv;have v2:=A1 hu;subst v1 v2;rcases B2 hsc with⟨k,hk1,_⟩|⟨_,hk2⟩
       rw[Db];exact go _ _ [] n2 [] cs [] ds _ _ 1 h2 (by grind) (by grind) h4 p1 p2 (run_equalIn_int w _ f.type j k a b hk1);grind;have v1:=Cx hv;have v2:=Cx hu;subst v1 v2;rcases B2 hsc with⟨k,_,hk2⟩|⟨hk1,_⟩
       grind;exact go _ _ [] n2 [] cs [] ds _ _ 1 h2 (by grind) (by grind) h4 p1 p2 (run_equalIn_bool' w _ f.type a b hk1)
   split at hok;rename_i gs hu;split at hok;rename_i hg;simp only[Apt,Aqz,Aps]at hg;obtain⟨hst,hge,hsz⟩:=hg;obtain⟨n2,h2,rfl⟩:=Ap2.1 hok;obtain⟨cs1,cs2,ds1,ds2,r1,r2,rfl,rfl,l1,l2,q1,q2,rfl⟩:=ALb he;obtain⟨x1,x2,ex,hx1,hx2⟩:=Y8 hc;obtain⟨y1,y2,ey,hy1,hy2⟩:=Y8 hd;have lx:=Ap hx1;have ly:=Ap hy1;have lg:(gs.toList.map fun g=>IZ P g.type).length=gs.size:=by simp
   rw[lg]at l1 l2;have hag:EZ P f.type=some true:=by simp[EZ,hu]
   have hfo:P.fieldsOf f.type=gs:=by simp[Program.fieldsOf,hu]
   have tk:∀ (zs:Array Value) (z1 z2:List Value),zs.toList.drop i=z1++z2→z1.length=gs.size→(zs.extract i (i+gs.size)).toList=z1∧zs.toList.drop (i+gs.size)=z2:=by intro zs z1 z2 hz hl;constructor;rw[Array.toList_extract,AsM,hz,Nat.add_sub_cancel_left,← hl,AsN];rfl;rw[← ArP,hz,← hl,List.drop_left'];rfl
   obtain⟨t1,t2⟩:=tk xs x1 x2 ex (by omega);obtain⟨t3,t4⟩:=tk ys y1 y2 ey (by omega);have hso:(sizeOf f.type).run P w = .ok gs.size w:=by obtain⟨ii,hi1,hi2⟩:=Ap2.1 hsz;rw[run_sizeOf hi1,hi2]
   have p1:(part f.type xs f.offset).run P w = .ok (.agg (xs.extract i (i+gs.size))) w:=by rw[ho];simp[part,Cc hag,hso]
   have p2:(part f.type ys f.offset).run P w = .ok (.agg (ys.extract i (i+gs.size))) w:=by rw[ho];simp[part,Cc hag,hso]
   refine go _ _ [] n2 [] cs2 [] ds2 r1 r2 gs.size h2 (by grind) (by grind) q2 p1 p2 ?_;rw[run_equalIn_agg w (d+1) f.type _ _ (by grind) hst,hfo];exact Qx d _ _ gs.toList 0 cs1 ds1 r1 hge (by rw[t1];exact hx1) (by grind) q1;grind;grind
theorem W0{T:TypeId}{n:List Bool}(h:Rq P T=some n):∃ fs:Array Field,P.underlying T=some (.struct fs)∧P.eqGuardType P.depth T=false∧P.stoodInHeld T=false∧Oe P fs.toList 0=some n:=by unfold Rq at h;grind
theorem AMF(op:BinOp)(T:TypeId)(x y:Operand)(T':TypeId):Claim P E (.binOp op T x y T'):=by
 intro R ty ρ H fz slot k r h;simp only[evalOp,Cm]at h;split at h;rename_i n hse;split at h;rename_i cs ds hcx hcy hag;rw[Apt]at hag;obtain⟨fs,hu,hgt,hst,hok⟩:=W0 hse;have hfo:P.fieldsOf T=fs:=by simp[Program.fieldsOf,hu]
 have hrun:∀ (b:Bool),BJ n cs ds=some b→∀ (w:World) (F:Nat→Prop) (m:Mp) (ρc:Operand→Value),(∀ x,Rep w F m H (ρ x) (ρc x)) →
   ∃ vs us,ρc x = .agg vs∧ρc y = .agg us∧(Op.equalIn 10000 T (.agg vs) (.agg us)).run P w = .ok b w:=by
  intro b hb w F m ρc hr
  obtain⟨vs,e1⟩:=KJ hag.1 (hr x)
  obtain⟨us,e2⟩:=KJ hag.2 (hr y)
  have r1:=cells?_ok hcx (hr x)
  have r2:=cells?_ok hcy (hr y)
  rw[e1]at r1
  rw[e2]at r2
  refine⟨vs,us,e1,e2,?_⟩
  rw[run_equalIn_agg w 9999 T vs us (by grind) hst,hfo]
  exact AR5 9997 vs us fs.toList 0 n cs ds b hok (by simpa [Value.cells]using r1) (by simpa [Value.cells]using r2) hb
 split at h;rename_i b hb;refine⟨_,_,h,fun R' k'=>by simp only[evalOp,Cm,hse,hcx,hcy,hag.1,hag.2,Aqr,hb],AS fun w F m ρc o hop hty hi hr=>⟨.bool b,?_,BH _⟩⟩;obtain⟨vs,us,e1,e2,e3⟩:=hrun b hb w F m ρc hr;simp[execOp,hop,e1,e2,run_eqGuard_agg w _ T x y vs us hgt,run_eql_struct w T vs us,e3];rename_i b hb;refine⟨_,_,h,fun R' k'=>by simp only[evalOp,Cm,hse,hcx,hcy,hag.1,hag.2,Aqr,hb],AS fun w F m ρc o hop hty hi hr=>⟨.bool (!b),?_,BH _⟩⟩;obtain⟨vs,us,e1,e2,e3⟩:=hrun b hb w F m ρc hr;simp[execOp,hop,e1,e2,run_eqGuard_agg w _ T x y vs us hgt,run_neq_struct w T vs us,e3];grind;grind;rename_i hse;split at h;rename_i j a j' b hx hy;split at h;split at h;rename_i n hn;refine⟨_,_,h,fun R' k'=>by simp only[evalOp,Cm,hse,hx,hy,hn],AS fun w F m ρc o hop hty hi hr=>⟨.int j n,?_,Ar _ _⟩⟩;have e1:=A1 (hx▸hr x);have e2:=A1 (hy▸hr y);rw[AEz]at hn;unfold AYR at hn;split at hn;cases hn;simp only[Apq]at hn;subst hn;simp[execOp,Gw,binOp,Op.shift, *];grind;split at h;rename_i n hn;refine⟨_,_,h,fun R' k'=>by simp only[evalOp,Cm,hse,hx,hy,hn],AS fun w F m ρc o hop hty hi hr=>⟨.int j n,?_,Ar _ _⟩⟩;have e1:=A1 (hx▸hr x);have e2:=A1 (hy▸hr y);rw[Rr]at hn;unfold AIz at hn;split at hn;cases hn;simp only[Apq]at hn;subst hn;simp[execOp,Gw,binOp,Op.shift, *];grind;split at h;rename_i hj;split at h;rename_i n hn;refine⟨_,_,h,fun R' k'=>by simp only[evalOp,Cm,hse,hx,hy,hn,hj],AS fun w F m ρc o hop hty hi hr=>⟨.int j n,?_,Ar _ _⟩⟩;have e1:=A1 (hx▸hr x);have e2:=A1 (hy▸hr y);simp only[Aps]at hj;subst hj;rw[OT]at hn;unfold AFM at hn;split at hn;cases hn;simp only[Apq]at hn;subst hn;simp[execOp,Gw,binOp,Op.intDiv, *];grind;grind;split at h;rename_i hj;split at h;rename_i n hn;refine⟨_,_,h,fun R' k'=>by simp only[evalOp,Cm,hse,hx,hy,hn,hj],AS fun w F m ρc o hop hty hi hr=>⟨.int j n,?_,Ar _ _⟩⟩;have e1:=A1 (hx▸hr x);have e2:=A1 (hy▸hr y);simp only[Aps]at hj;subst hj;rw[XT]at hn;unfold AP6 at hn;split at hn;cases hn;simp only[Apq]at hn;subst hn;simp[execOp,Gw,binOp,Op.intDiv, *];grind;grind;rename_i h1 h2 h3 h4;split at h;rename_i v hj hv;refine⟨_,_,h,fun R' k' => ?_,AS fun w F m ρc o hop hty hi hr => ?_⟩;simp only[evalOp,Cm,hse,hx,hy];grind;have e1:=A1 (hx▸hr x);have e2:=A1 (hy▸hr y);simp only[Aps]at hj;subst hj;obtain⟨u,q1,q2⟩:=APk (P:=P) hv T w;exact⟨u,by simp[execOp,hop,e1,e2,Gw,q1],q2 _ _ _⟩;grind;rename_i a b hx hy;split at h;rename_i hu;refine⟨_,_,h,fun R' k'=>by simp only[evalOp,Cm,hse,hx,hy,hu],AS fun w F m ρc o hop hty hi hr=>⟨.bool (a==b),?_,BH _⟩⟩;have e1:=Cx (hx▸hr x);have e2:=Cx (hy▸hr y);simp[execOp,hop,e1,e2,Qw,run_eql_bool w T a b hu];rename_i hu;refine⟨_,_,h,fun R' k'=>by simp only[evalOp,Cm,hse,hx,hy,hu],AS fun w F m ρc o hop hty hi hr=>⟨.bool (!(a==b)),?_,BH _⟩⟩;have e1:=Cx (hx▸hr x);have e2:=Cx (hy▸hr y);simp[execOp,hop,e1,e2,Qw,run_neq_bool w T a b hu];grind;rename_i a b hx hy;have hstr:∀ {w:World} {F:Nat→Prop} {m:Mp} {ρc:Operand→Value},(∀ x,Rep w F m H (ρ x) (ρc x))→∃ s s',ρc x = .string s∧ρc y = .string s'∧(s.toList==s'.toList)=seq? a b:=by intro w F m ρc hr;have r1:=hx▸hr x;have r2:=hy▸hr y;unfold Rep at r1 r2;obtain⟨s,e1,rfl⟩:=r1;obtain⟨s',e2,rfl⟩:=r2;refine⟨s,s',e1,e2,?_⟩;rw[seq_eq];exact(AMR s s').symm
 split at h;refine⟨_,_,h,fun R' k'=>by simp only[evalOp,Cm,hse,hx,hy],AS fun w F m ρc o hop hty hi hr=>⟨.bool (seq? a b),?_,BH _⟩⟩;obtain⟨s,s',e1,e2,e3⟩:=hstr hr;simp[execOp,hop,e1,e2,Qv,binOp_string_eql,e3];refine⟨_,_,h,fun R' k'=>by simp only[evalOp,Cm,hse,hx,hy],AS fun w F m ρc o hop hty hi hr=>⟨.bool (!(seq? a b)),?_,BH _⟩⟩;obtain⟨s,s',e1,e2,e3⟩:=hstr hr;simp[execOp,hop,e1,e2,Qv,binOp_string_neq,e3];grind;rename_i a hx hy;have hif:∀ {w:World} {F:Nat→Prop} {m:Mp} {ρc:Operand→Value},(∀ x,Rep w F m H (ρ x) (ρc x))→ρc x=Jd a∧ρc y = .nilIface:=by intro w F m ρc hr;have r1:=hx▸hr x;have r2:=hy▸hr y;unfold Rep at r1 r2;exact⟨r1,r2⟩
 have hg:∀ {w:World} (op:BinOp),isConst y=true→(eqGuard op T x y (Jd a) .nilIface).run P w = .ok () w:=by
  intro w op hc;rcases a with _|⟨U,l⟩
  cases y<;>simp only[isConst,AqC]at hc;simp only[Jd,eqGuard_nil_constR];rfl;simp only[Jd,eqGuard_at_iface];rfl
 split at h;rename_i ms hu hc;refine⟨_,_,h,fun R' k'=>by simp only[evalOp,Cm,hse,hx,hy,hu,hc],AS fun w F m ρc o hop hty hi hr=>⟨.bool a.isNone,?_,BH _⟩⟩;obtain⟨e1,e2⟩:=hif hr;have hms:P.underlying T=some (.interface (P.methodsAt T)):=by unfold Program.methodsAt;rw[hu]
 have hb:(binOp .eql T (Jd a) .nilIface).run P w = .ok (.bool a.isNone) w:=by
  rcases a with _|⟨U,l⟩
  exact run_eql_nil_nil w T hms;exact run_eql_held_nil w T U _ hms
 simp[execOp,hop,e1,e2,hg _ hc,hb];rename_i ms hu hc;refine⟨_,_,h,fun R' k'=>by simp only[evalOp,Cm,hse,hx,hy,hu,hc],AS fun w F m ρc o hop hty hi hr=>⟨.bool (!a.isNone),?_,BH _⟩⟩;obtain⟨e1,e2⟩:=hif hr;have hms:P.underlying T=some (.interface (P.methodsAt T)):=by unfold Program.methodsAt;rw[hu]
 have hb:(binOp .neq T (Jd a) .nilIface).run P w = .ok (.bool (!a.isNone)) w:=by
  rcases a with _|⟨U,l⟩
  exact run_neq_nil_nil w T hms;exact run_neq_held_nil w T U _ hms
 simp[execOp,hop,e1,e2,hg _ hc,hb];grind;grind
theorem ASu(op:UnOp)(T:TypeId)(x:Operand):Claim P E (.unOp op T x):=by intro R ty ρ H fz slot k r h;simp only[evalOp,Sh]at h;split at h;rename_i b hx;refine⟨_,_,h,fun R' k'=>by simp only[evalOp,Sh,hx],AS fun w F m ρc o hop hty hi hr=>⟨.bool (!b),?_,BH _⟩⟩;have e1:=Cx (hx▸hr x);simp[execOp,hop,e1,Op.unary];rename_i j n hx;refine⟨_,_,h,fun R' k'=>by simp only[evalOp,Sh,hx],AS fun w F m ρc o hop hty hi hr=>⟨.int j (j.wrap (0-n)),?_,Ar _ _⟩⟩;have e1:=A1 (hx▸hr x);simp[execOp,hop,e1,Op.unary,Op.intArith];grind
theorem Gp{T:TypeId}{j:IntKind}(h:K0 P T=some j):P.underlying T=some (.int j):=by unfold K0 at h;grind
theorem Yu(fn:Fn)(first cs:Array Operand):Claim P E (.makeFunc fn first cs):=by
 intro R ty ρ H fz slot k r h;cases fn with
  |func f=>
   simp only[evalOp,En]at h;split at h;rename_i hf;refine⟨_,_,h,fun R' k'=>by simp only[evalOp,En,hf],AS fun w F m ρc o hop hty hi hr=>⟨.func (.func f) #[] (cs.map ρc),?_,?_⟩⟩;have:first = #[]:=by grind
   subst this;simp[execOp,hop,Instr.makeFunc];unfold Rep;refine⟨_,rfl,?_⟩;rw[ArE];exact DL (by simp) fun i c v hc hv=>by grind
   rename_i y ys hf;split at h;rename_i hcs;refine⟨_,_,h,fun R' k'=>by simp only[evalOp,En,hf,hcs],AS fun w F m ρc o hop hty hi hr=>⟨.func (.func f) (first.map ρc) #[],?_,?_⟩⟩;have:cs = #[]:=by grind
   subst this;simp[execOp,hop,Instr.makeFunc];unfold Rep;refine⟨_,rfl,?_⟩;rw[ArE,← hf];exact DL (by simp) fun i c v hc hv=>by grind
   grind
  |_=>simp[evalOp,En]at h
theorem AAt(T:TypeId)(o:Option Operand):Claim P E (.makeMap T o):=by
 intro R ty ρ H fz slot k r h;cases o with
  |some x=>simp[evalOp,Hz]at h
  |none=>
   simp only[evalOp,Hz]at h;split at h;rename_i a b hu;split at h;rename_i j e t hE hj hsl;split at h;rename_i hf;refine⟨_,_,h,fun R' k'=>by simp only[evalOp,Hz,hu,hE,hj,hsl,hf],A0 fun w F m ρc o hop hty hi hr => ?_⟩;obtain⟨_,_,hpos⟩:=By hsl
   have hg:=Af.Ao8 (w':=w.alloc (.map #[] 0)) hi hf (T:=.map j []) (e:=e) (t:=t) (n:=0) (some (w.heap.size,0)) rfl rfl rfl (by simp) (fun b hb=>Below.heap_alloc w _ b hb)
    (fun b c h=>by grind) hpos
    ⟨hpos,#[],0,heap_alloc_new w _,⟨rfl,fun i e h=>by simp at h⟩,rfl,.inl rfl,fun k h=>by cases h⟩
    (fun k hk=>absurd hk (Nat.not_lt_zero k))
   refine⟨.map (some w.heap.size),_,F,_,by simp[execOp,hop,Instr.makeMap],hg,?_⟩;unfold Rep;have hlt:=Aj (BM hf).1;rw[show CH { objs:=[(slot,.rows (.map j []) e t [] 0 none)] } H=H.set slot (.rows (.map j []) e t (List.replicate 0 ([]:List t.den)) 0 none)from rfl,Ax hlt,KY];exact⟨_,_,rfl,rfl⟩;grind;rename_i hno;split at h;rename_i ta tb ha hb;split at h;rename_i hf;refine⟨_,_,h,fun R' k'=>by simp only[evalOp,Hz,hu,ha,hb,hf],A0 fun w F m ρc o hop hty hi hr => ?_⟩
   have hg:=Af.new (w':=w.alloc (.map #[] 0)) hi hf (ob:=.map ta tb []) trivial (some (w.heap.size,0)) rfl rfl rfl (by simp) (fun b hb=>Below.heap_alloc w _ b hb)
    (fun b c h=>by grind)
    (fun _=>⟨w.heap.size,0,#[],0,rfl,heap_alloc_new w _,rfl,rfl,fun i e h=>by simp at h⟩)
   refine⟨.map (some w.heap.size),_,F,_,by simp[execOp,hop,Instr.makeMap],hg,?_⟩;unfold Rep;have hlt:=Aj (BM hf).1;rw[show CH { objs:=[(slot,.map ta tb [])] } H=H.set slot (.map ta tb [])from rfl,Ax hlt,Am];exact⟨_,_,rfl,rfl⟩;grind;grind;grind
theorem ARZ(b:Bool)(t:Ty):zeroCells (t.made b)=zeroCells t:=by cases t<;>cases b<;>rfl
theorem AaF(b:Bool)(t:Ty):(t.made b).size=t.size:=by cases t<;>cases b<;>rfl
theorem VQ(T:TypeId)(x y:Operand):Claim P E (.makeSlice T x y):=by
 intro R ty ρ H fz slot k r h;simp only[evalOp,Gv]at h;split at h;rename_i e t hsl;split at h;rename_i zz j l j' c hz hx hy;split at h;rename_i hfit;split at h;rename_i hf;refine⟨_,_,h,fun R' k'=>by simp only[evalOp,Gv,hsl,hz,hx,hy,hfit,hf],A0 fun w F m ρc o hop hty hi hr => ?_⟩;obtain⟨hu,hty0,hpos⟩:=By hsl;obtain⟨t',cs'⟩:=zz;obtain⟨hty',hcs',i,z,hi0,hz0,hok,hsz,hza⟩:=Bl hz;subst hcs';have:t'=t:=by grind
 subst this;simp only[Apt,Hy,Ao,Aps,hi0,ArK,AqK]at hfit;obtain⟨⟨⟨⟨a1,a2⟩,a3,a4⟩,a5⟩,a6⟩:=hfit;have e1:=A1 (hx▸hr x);have e2:=A1 (hy▸hr y);obtain⟨l',rfl⟩:=Ap7 a1;obtain⟨c',rfl⟩:=Ap7 a3;have hbb:(i.bytes:Int)*(c':Int)≤281474976710656:=by have:i.bytes*c'≤65536*4294967296:=Ar8 a6 (by omega);omega
 have hrun:=run_make (P:=P) w T e i z hu hi0 hz0 j j' l' c' a1 a5 hbb (by omega);simp only[AqW]at hrun;have a5':(l':Int)≤(c':Int):=a5;have a4':(c':Int)≤4294967296:=a4;have hle:l'≤c':=by omega
 cases hrw:(match E.rows,sliceAt P e with|true,some q=>some q|_,_=>none)with
  |some q=>
   obtain⟨er,t2⟩:=q;have hme:Of P E e t' (AF (l':Int)) = .rows (.arr e) er t2 (List.replicate l' []) 0 none:=by unfold Of;split at hrw;rename_i q' h1 h2;cases hrw;rw[h1,h2];rfl;grind
   have hs2:sliceAt P e=some (er,t2):=by grind
   obtain⟨hu2,hty2,hpos2⟩:=By hs2;have htt:∃ y,t' = .slice y:=by unfold AEb UP at hty0;rw[hu2]at hty0;simp only[Ap2]at hty0;grind
   obtain⟨y,rfl⟩:=htt;have hz1:z.cells.toList=[.slice none 0 0]:=by have:=Be (w:=w) (F:=F) (.nul y) _ hok;exact this
   have hsz1:i.size=1:=hsz;have hzl:z.cells.size=1:=by rw[← AqG,hz1];rfl
   have hmade:(madeCells z.cells (c'*i.size)).toList=List.replicate c' (.slice none 0 0):=by
    have:=Cy z.cells c';rw[hzl,AsG]at this;rw[hsz1,AsG];have h2:(madeCells z.cells c').toList=(List.replicate c' z.cells.toList).flatten:=by unfold madeCells;grind
    simp_all
   have hhp:=heap_alloc_new w (.cells (madeCells z.cells (c'*i.size)) e)
   have hg:=Af.Ao8 (w':=w.alloc (.cells (madeCells z.cells (c'*i.size)) e)) hi hf (T:=.arr e) (e:=er) (t:=t2) (n:=l') (some (w.heap.size,c')) rfl rfl rfl (by simp) (fun b hb=>Below.heap_alloc w _ b hb)
    (fun b c h=>by grind) hpos2
    ⟨hpos2,_,hhp,by grind,by simp only[maxLen];omega,by rw[size_madeCells,hsz1,AsG],fun u hu=>by
     rw[hmade]at hu
     rw[AsQ hu];rfl⟩
    (fun k hk=>⟨_,_,none,rfl,_,hhp,by grind⟩)
   refine⟨.slice (some ⟨w.heap.size,0,none⟩) l' c',w.alloc (.cells (madeCells z.cells (c'*i.size)) e),F,(Ns m slot (some (w.heap.size,c')) fun _=>none),by simp[execOp,hop,e1,e2,hrun],(?_:Af w F m H fz (w.alloc (.cells (madeCells z.cells (c'*i.size)) e)) F (Ns m slot (some (w.heap.size,c')) fun _=>none) (H.set slot (Of P E e (.slice y) (AF (l':Int)))) fz),?_⟩;grind;show Rep _ _ _ (H.set slot (Of P E e (.slice y) (AF (l':Int)))) _ _;rw[hme];unfold Rep;rw[Ax (Aj (BM hf).1),KY];simp only[A4,ArB]
  |none=>
   have hme:Of P E e t' (AF (l':Int)) = .arr e (t'.made E.keep) (Cb (AF (l':Int)) (t'.made E.keep).zero):=by unfold Of;grind
   rw[hme];rw[← ARZ E.keep t']at hok;rw[← AaF E.keep t']at hpos hsz;generalize t'.made E.keep=t' at *;have hzd:=Be (w:=w) (F:=F) t' _ hok;have hzl:z.cells.size=t'.size:=by rw[← AqG];exact Dat.length t' hzd
   have hmade:(madeCells z.cells (c'*i.size)).toList=(List.replicate c' z.cells.toList).flatten:=by have:=Cy z.cells c';rw[hzl,← hsz]at this;exact(by unfold madeCells;grind)
   have hrow:=E6 (w:=w) (F:=F) hzd l';have hrl:=A9 (fun x cs (h:Dat w F t' x cs)=>Dat.length t' h) hrow;rw[ArB]at hrl
   obtain⟨m',hg,hrep⟩:=FK hi hf (w':=w.alloc (.cells (madeCells z.cells (c'*i.size)) e)) hpos (xs:=List.replicate l' t'.zero) (heap_alloc_new w _) rfl rfl rfl (by simp) (fun b hb=>Below.heap_alloc w _ b hb)
    (cap:=c') (by grind) (by simp only[maxLen];omega) (by rw[size_madeCells,hsz]) hrow (by
     rw[hmade,hrl]
     have:c'=l'+(c'-l'):=by omega
     rw[this,← List.replicate_append_replicate,AsI,Asf,ArM (by omega),hrl]
     simp)
   rw[ArB]at hrep;exact⟨_,_,F,m',by simp[execOp,hop,e1,e2,hrun],hg,hrep⟩
 grind;grind;grind;grind
end
end Go.Pev
end
section
namespace Go.Pev
open Go.RowKit
section
variable {P:Program} {E:Env}
theorem Hk{α:Type}{xs ys:List α}{l h:Int}(e:CE xs l h=some ys):0≤l∧l≤h∧h≤xs.length∧ys=(xs.take h.toNat).drop l.toNat:=by rw[NF]at e;unfold ABq at e;split at e;rename_i hc;simp only[Apq]at e;exact⟨hc.1,hc.2.1,hc.2.2,e.symm⟩;cases e
theorem Aa{α:Type}{xs:List α}{i:Int}{x:α}(e:idx xs i=some x):0≤i∧i<xs.length∧xs[i.toNat]? = some x:=by rw[idx_eq]at e;unfold YI at e;split at e;cases e;rename_i hc;have:=(AqZ.1 e).1;exact⟨by omega,by omega,e⟩
theorem K7{w:World}{F:Nat→Prop}{m:Mp}{H:List Ob}{v:AV}{n:Int}(h:ACp v=some n){u:Value}(hr:Rep w F m H v u):∃ k,u = .int k n:=by unfold ACp at h;split at h;simp only[Apq]at h;subst h;exact⟨_,A1 hr⟩;cases h
theorem MF{w:World}{F:Nat→Prop}{m:Mp}{H:List Ob}{ρ:Operand→AV}{ρc:Operand→Value}(hr:∀ x,Rep w F m H (ρ x) (ρc x)){o:Option Operand}{l:Option Int}(h:El ρ o=some l):
  (o.map ρc=none∧l=none)∨∃ k n,o.map ρc=some (.int k n)∧l=some n:=by unfold El at h;split at h;simp only[Apq]at h;exact .inl ⟨rfl,h.symm⟩;rename_i x;simp only[Ap2]at h;obtain⟨n,h1,rfl⟩:=h;obtain⟨k,h2⟩:=K7 h1 (hr x);exact .inr ⟨k,n,by simp[h2],rfl⟩
theorem DU{w:World}{T e:TypeId}{i:TypeInfo}(hu:P.underlying T=some (.slice e))(hi:P.info? e=some i)(a:Option Addr)(len cap:Nat){lo hi':Option Value}{l h:Int}
  (hlo:(lo=none∧l=0)∨∃ k,lo=some (.int k l)) (hhi:(hi'=none∧h=len)∨∃ k,hi'=some (.int k h)) (h0:0≤l) (h1:l≤h) (h2:h≤cap) (h3:len≤cap) :
  (Instr.sliceAt T (.slice a len cap) lo hi' none).run P w = .ok (.slice (if cap=l.toNat then a else a.map (·.add (l.toNat*i.size))) (h.toNat-l.toNat) (cap-l.toNat)) w:=by
 have hb:(Instr.sliceBounds true len cap lo hi' none).run P w = .ok (l.toNat,h.toNat,cap) w:=by
  obtain⟨l,rfl⟩:=Ap7 h0;obtain⟨h,rfl⟩:=Ap7 (show 0≤h by omega);have h1:l≤h:=by omega
  have h2:h≤cap:=by omega
  rcases hhi with⟨rfl,e1⟩|⟨k,rfl⟩<;>rcases hlo with⟨rfl,e2⟩|⟨k',rfl⟩
  have e3:l=0:=by omega
  have e4:h=len:=by omega
  subst e3;subst e4;simp[Instr.sliceBounds];have e4:h=len:=by omega
  subst e4;simp[Instr.sliceBounds,Instr.sliceBound,asIntOf,h1];have e3:l=0:=by omega
  subst e3;simp[Instr.sliceBounds,Instr.sliceBound,asIntOf,h2];simp[Instr.sliceBounds,Instr.sliceBound,asIntOf,h1,h2]
 simp only[Instr.sliceAt,Sem.run_bind,run_underlying hu,Result.andThen_ok,Instr.slice,hb,run_sizeOf hi,Sem.run_pure]
theorem XL{w:World}(n:Nat){lo hi':Option Value}{l h:Int}
  (hlo:(lo=none∧l=0)∨∃ k,lo=some (.int k l)) (hhi:(hi'=none∧h=n)∨∃ k,hi'=some (.int k h)) (h0:0≤l) (h1:l≤h) (h2:h≤n) :
  (Instr.sliceBounds false n n lo hi' none).run P w = .ok (l.toNat,h.toNat,n) w:=by
 obtain⟨l,rfl⟩:=Ap7 h0;obtain⟨h,rfl⟩:=Ap7 (show 0≤h by omega);have h1:l≤h:=by omega
 have h2:h≤n:=by omega
 rcases hhi with⟨rfl,e1⟩|⟨k,rfl⟩<;>rcases hlo with⟨rfl,e2⟩|⟨k',rfl⟩
 have e3:l=0:=by omega
 have e4:h=n:=by omega
 subst e3;subst e4;simp[Instr.sliceBounds];have e4:h=n:=by omega
 subst e4;simp[Instr.sliceBounds,Instr.sliceBound,asIntOf,h1];have e3:l=0:=by omega
 subst e3;simp[Instr.sliceBounds,Instr.sliceBound,asIntOf,h2];simp[Instr.sliceBounds,Instr.sliceBound,asIntOf,h1,h2]
theorem Og{w:World}{F:Nat→Prop}{m:Mp}{H:List Ob}{ρ:Operand→AV}{ρc:Operand→Value}(hr:∀ x,Rep w F m H (ρ x) (ρc x)){o:Option Operand}{l:Option Int}(h:El ρ o=some l)(d:Int):
  (o.map ρc=none∧l.getD d=d)∨∃ k,o.map ρc=some (.int k (l.getD d)):=by
 rcases MF hr h with⟨h1,rfl⟩|⟨k,n,h1,rfl⟩
 exact .inl ⟨h1,rfl⟩;exact .inr ⟨k,h1⟩
theorem Em{w w':World}{ρc:Operand→Value}{o:Oper}{T:TypeId}{x:Operand}{lo up:Option Operand}{v u:Value}(hop:o.op = .slice T x lo up none)(e1:ρc x=v)
  (hrun:(Instr.sliceAt T v (lo.map ρc) (up.map ρc) none).run P w = .ok u w'):(execOp ρc o).run P w = .ok (.value u) w':=by simp[execOp,hop,e1,hrun]
theorem Sp(T:TypeId)(x:Operand)(lo up:Option Operand):Claim P E (.slice T x lo up none):=by
 intro R ty ρ H fz slot k r h;simp only[evalOp,Cl]at h;split at h;rename_i e hu;split at h;rename_i l h' hl hh;unfold GP at h;split at h;rename_i t xs hx;split at h;rename_i hsz;split at h;cases h;rename_i ys hs;refine⟨_,_,h,fun R' k'=>by simp only[evalOp,Cl,hu,hl,hh,GP,hx,hsz,hs],AS fun w F m ρc o hop hty hi hr => ?_⟩;obtain⟨a1,a2,a3,rfl⟩:=Hk hs;simp only[Aps]at hsz;obtain⟨i,hi0,hsz'⟩:=A6 hsz;have hrx:=hr x;rw[hx]at hrx;have hrx:Dat w F (.slice t) xs [ρc x]:=hrx;obtain⟨a,cap,e1,e2,e3⟩:=hrx;simp only[AqF,AsB]at e1;have hrun:=DU (P:=P) (w:=w) hu hi0 a (List.length (α:=t.den) xs) cap (Og hr hl 0) (Og hr hh (AH xs)) a1 a2 (by omega) e2;refine⟨_,Em hop e1 hrun,?_⟩;have hlen:((xs.take (h'.getD (AH xs)).toNat).drop (l.getD 0).toNat).length=(h'.getD (AH xs)).toNat-(l.getD 0).toNat:=by rw[Aq3,Aqn];omega
 show Dat w F (.slice t) _ [_];refine⟨_,_,by rw[hlen],by rw[hlen];omega,fun hne => ?_⟩;have hpos:(l.getD 0).toNat<(h'.getD (AH xs)).toNat:=by rcases Aru (l.getD 0).toNat (h'.getD (AH xs)).toNat with hh'|hh';exact hh';exact absurd (AqN (by rw[hlen];omega)) hne
 have hxne:xs≠[]:=by rintro rfl;simp at hne
 obtain⟨ad,row,q1,q2,q3,q4⟩:=e3 hxne;have hk:=fun(x:t.den) cs (h:Dat w F t x cs)=>Dat.length t h;refine⟨ad.add ((l.getD 0).toNat*t.size),_,?_,by rw[H5];exact q2,Hn hk (l.getD 0).toNat (D5 hk (h'.getD (AH xs)).toNat q3),fun j u hu' => ?_⟩;rw[Ap4 (by omega),q1,hsz'];rfl;rw[add_add];rw[AsP,Ar1]at hu';split at hu';exact q4 _ u hu';cases hu';cases h;rename_i t hx;split at h;rename_i hss;split at h;rename_i ys hs;refine⟨_,_,h,fun R' k'=>by simp only[evalOp,Cl,hu,hl,hh,GP,hx,hss,hs],AS fun w F m ρc o hop hty hi hr => ?_⟩;obtain⟨a1,a2,a3,_⟩:=Hk hs;obtain⟨sz,hsz⟩:=Aqs.1 hss;obtain⟨i,hi0,hsz'⟩:=A6 hsz;have hrx:=hr x;rw[hx]at hrx;unfold Rep at hrx;simp only[Ap8]at a3;have hrun:=DU (P:=P) (w:=w) hu hi0 none 0 0 (Og hr hl 0) (Og hr hh 0) a1 a2 a3 (Ap1 _);refine⟨_,Em hop hrx hrun,?_⟩;unfold Rep;have h1:(l.getD 0).toNat=0:=by omega
 have h2:(h'.getD 0).toNat=0:=by omega
 rw[h1,h2];rfl;cases h;cases h;rename_i id hx;split at h;rename_i T' t xs ho;split at h;rename_i hsz;split at h;cases h;rename_i ys hs;refine⟨_,_,h,fun R' k'=>by simp only[evalOp,Cl,hu,hl,hh,GP,hx,ho,hsz,hs],AS fun w F m ρc o hop hty hi hr => ?_⟩;obtain⟨a1,a2,a3,rfl⟩:=Hk hs;simp only[Aps]at hsz;obtain⟨i,hi0,hsz'⟩:=A6 hsz;have hrx:=hr x;rw[hx]at hrx;unfold Rep at hrx;rw[ho]at hrx;have hlen:((xs.take (h'.getD (AH xs)).toNat).drop (l.getD 0).toNat).length=(h'.getD (AH xs)).toNat-(l.getD 0).toNat:=by rw[Aq3,Aqn];omega
 obtain⟨hpos,hob⟩:=hi.obj id _ ho;cases hm:m id with
  |none=>
   rw[hm]at hrx hob;obtain⟨a,e1⟩:=hrx;simp only at hob;subst hob;have hrun:=DU (P:=P) (w:=w) hu hi0 a 0 0 (Og hr hl 0) (Og hr hh (AH ([]:List t.den))) a1 a2 (by simpa using a3) (Ap1 _);refine⟨_,Em hop e1 hrun,?_⟩;unfold Rep;rw[ho,hm];simp only[Ap8]at a3;have q1:(l.getD 0).toNat=0:=by omega
   have q2:(h'.getD (AH ([]:List t.den))).toNat=0:=by omega
   rw[q1,q2];exact And.intro (by simp[AF,q1,AH]) ⟨_,by simp[AF,AH];rfl⟩
  |some p=>
   obtain⟨b,cap⟩:=p;rw[hm]at hrx hob;obtain⟨vs,row,e1,e2,_⟩:=hob;simp only[A4]at hrx;have hrun:=DU (P:=P) (w:=w) hu hi0 (some ⟨b,0,none⟩) (List.length (α:=t.den) xs) cap (Og hr hl 0) (Og hr hh (AH xs)) a1 a2 (by omega) e2;refine⟨_,Em hop hrx hrun,?_⟩;unfold Rep;rw[ho,hm];have q:AF (AH ((xs.take (h'.getD (AH xs)).toNat).drop (l.getD 0).toNat))=(h'.getD (AH xs)).toNat-(l.getD 0).toNat:=by unfold AF AH;rw[AqW];exact hlen
   rw[q];refine⟨by unfold AF;omega,_,rfl,fun hlt => ?_⟩;unfold AF at hlt ⊢;rw[Ap4 (by omega),← hsz'];simp[CB]
 cases h;cases h;rename_i id off n hx;split at h;rename_i T' t xs ho;split at h;rename_i hsz;split at h;cases h;rename_i ys hs;refine⟨_,_,h,fun R' k'=>by simp only[evalOp,Cl,hu,hl,hh,GP,hx,ho,hsz,hs],AS fun w F m ρc o hop hty hi hr => ?_⟩;obtain⟨a1,a2,a3,rfl⟩:=Hk hs;simp only[Aps]at hsz;obtain⟨i,hi0,hsz'⟩:=A6 hsz;have hrx:=hr x;rw[hx]at hrx;unfold Rep at hrx;rw[ho]at hrx;obtain⟨hle,hrx⟩:=hrx;have hcl:(Eo off n xs).length=n:=by unfold Eo;rw[Aqn,Aq3];omega
 rw[hcl]at a3;have q:AF (AH (((Eo off n xs).take (h'.getD (n:Int)).toNat).drop (l.getD 0).toNat))=(h'.getD (n:Int)).toNat-(l.getD 0).toNat:=by unfold AF AH;rw[AqW,Aq3,Aqn,hcl];omega
 obtain⟨hpos,hob⟩:=hi.obj id _ ho;cases hm:m id with
  |none=>
   rw[hm]at hrx hob;obtain⟨a,e1⟩:=hrx;simp only at hob;subst hob;have hn:n=0:=by have:=hle;simp at this;exact this.2
   subst hn;have hrun:=DU (P:=P) (w:=w) hu hi0 a 0 0 (Og hr hl 0) (Og hr hh ((0:Nat):Int)) a1 a2 a3 (Ap1 _);refine⟨_,Em hop e1 hrun,?_⟩;unfold Rep;rw[ho,hm,q];have q1:(l.getD 0).toNat=0:=by omega
   have q2:(h'.getD ((0:Nat):Int)).toNat=0:=by omega
   have hoff:off=0:=by have:=hle;simpa using this
   rw[q1,q2];exact And.intro (by simp[AF,q1,hoff]) ⟨_,by simp;rfl⟩
  |some p=>
   obtain⟨b,cap⟩:=p;rw[hm]at hrx hob;obtain⟨vs,row,e1,e2,_⟩:=hob;obtain⟨a,e3,e4⟩:=hrx;have hrun:=DU (P:=P) (w:=w) hu hi0 a n (cap-off) (Og hr hl 0) (Og hr hh (n:Int)) a1 a2 (by omega) (by omega);refine⟨_,Em hop e3 hrun,?_⟩;unfold Rep;rw[ho,hm,q];refine And.intro (by unfold AF;omega) ⟨if cap-off=(l.getD 0).toNat then a else a.map (·.add ((l.getD 0).toNat*i.size)),?_,fun hlt => ?_⟩
   unfold AF;congr 1;omega;unfold AF at hlt ⊢;rw[Ap4 (by omega),e4 (by omega),hsz'];simp[CB,Aq7]
 cases h;cases h;cases h;cases h;rename_i n e hu;split at h;rename_i l h' id n' hmx hl hh hx;split at h;rename_i T' t xs ho;split at h;rename_i hc;split at h;cases h;rename_i ys hs;refine⟨_,_,h,fun R' k'=>by simp only[evalOp,Cl,hu,hl,hh,hx,ho,hc,hs],AS fun w F m ρc o hop hty hi hr => ?_⟩;obtain⟨a1,a2,a3,rfl⟩:=Hk hs;simp only[Apt,Aps]at hc;obtain⟨rfl,hsz⟩:=hc;obtain⟨i,hi0,hsz'⟩:=A6 hsz;have hrx:=hr x;rw[hx]at hrx;unfold Rep FZ at hrx;rw[ho]at hrx;obtain⟨hlen,b,hm,e1⟩:=hrx;have hb:=XL (P:=P) (w:=w) n' (Og hr hl 0) ((Og hr hh (AH xs)).imp (fun q=>⟨q.1,q.2.trans (by unfold AH;rw[hlen])⟩) (fun q=>q)) a1 a2 (by omega);refine⟨_,Em hop e1 (by simp only[Instr.sliceAt,Sem.run_bind,run_underlying hu,Result.andThen_ok,Instr.sureAddr,hb,run_sizeOf hi0,Sem.run_pure];rfl),?_⟩;unfold Rep;rw[ho,hm];have q:AF (AH ((xs.take (h'.getD (AH xs)).toNat).drop (l.getD 0).toNat))=(h'.getD (AH xs)).toNat-(l.getD 0).toNat:=by unfold AF;generalize h'.getD (AH xs)=hh' at a2 a3 ⊢;unfold AH;rw[AqW,Aq3,Aqn];omega
 rw[q];refine And.intro (by unfold AF;omega) ⟨_,rfl,fun hlt => ?_⟩;unfold AF at hlt ⊢;rw[Ap4 (by omega),hsz',CB,Aqg];cases h;cases h;cases h;cases h
end
end Go.Pev
end
section
namespace Go.Pev
open Go.RowKit
section
variable {P:Program} {E:Env}
theorem Dr{w:World}{F:Nat→Prop}{m:Mp}{H:List Ob}{fz:List Bool}(hi:HI w F m H fz){slot:Nat}(hf:Aq H fz slot=true)(T:TypeId){t:Ty}(ht:0<t.size)(a:Option Addr):
  ∃ m',Af w F m H fz w F m' (H.set slot (.arr T t [])) fz∧Rep w F m' (H.set slot (.arr T t [])) (.own slot) (.slice a 0 0):=by have hg:=Af.new (w':=w) hi hf (ob:=.arr T t []) trivial none rfl rfl rfl (Ap1 _) (fun _ _=>rfl) (fun b c h=>by cases h) (fun _=>⟨ht,rfl⟩);refine⟨_,hg,?_⟩;unfold Rep;have hlt:=Aj (BM hf).1;rw[Ax hlt,Am];exact⟨a,rfl⟩
theorem UQ{w:World}{T e:TypeId}{i:TypeInfo}(hu:P.underlying T=some (.slice e))(hi:P.info? e=some i)(a:Option Addr)(len cap:Nat)(k k':IntKind):
  (Instr.sliceAt T (.slice a len cap) none (some (.int k 0)) (some (.int k' 0))).run P w = .ok (.slice a 0 0) w:=by simp[Instr.sliceAt,run_underlying hu,Instr.slice,Instr.sliceBounds,Instr.sliceBound,asIntOf,run_sizeOf hi]
theorem AFs{w:World}{F:Nat→Prop}{m:Mp}{H:List Ob}{v:AV}(h:F9 H v=true){u:Value}(hr:Rep w F m H v u):∃ a len cap,u = .slice a len cap:=by
 cases v with
  |data t d=>cases t<;>simp only[F9,AqC]at h;rename_i t;have hrx:Dat w F (.slice t) d [u]:=hr;obtain⟨a,cap,e1,_⟩:=hrx;grind
  |nils e=>unfold Rep at hr;grind
  |own id=>
   obtain⟨T,t,xs,ho⟩:=D9 h;unfold Rep at hr;rw[ho]at hr;cases hm:m id with
    |none=>rw[hm]at hr;obtain⟨a,e1⟩:=hr;grind
    |some p=>rw[hm]at hr;exact⟨_,_,_,hr⟩
  |win id off n=>obtain⟨T,t,xs,ho⟩:=D9 h;unfold Rep at hr;rw[ho]at hr;obtain⟨_,hr⟩:=hr;grind
  |_=>simp[F9]at h
theorem Lw{w:World}{T e:TypeId}{i:TypeInfo}(hu:P.underlying T=some (.slice e))(hi:P.info? e=some i)(a:Option Addr)(len cap:Nat){lo:Option Value}{l h:Int}{kh km:IntKind}
  (hlo:(lo=none∧l=0)∨∃ k,lo=some (.int k l)) (h0:0≤l) (h1:l≤h) (h2:h≤cap) :
  (Instr.sliceAt T (.slice a len cap) lo (some (.int kh h)) (some (.int km h))).run P w = .ok (.slice (if h.toNat=l.toNat then a else a.map (·.add (l.toNat*i.size))) (h.toNat-l.toNat) (h.toNat-l.toNat)) w:=by
 have hb:(Instr.sliceBounds true len cap lo (some (.int kh h)) (some (.int km h))).run P w = .ok (l.toNat,h.toNat,h.toNat) w:=by
  obtain⟨l,rfl⟩:=Ap7 h0;obtain⟨h,rfl⟩:=Ap7 (show 0≤h by omega);have h1:l≤h:=by omega
  have h2:h≤cap:=by omega
  rcases hlo with⟨rfl,e2⟩|⟨k',rfl⟩
  have e3:l=0:=by omega
  subst e3;simp[Instr.sliceBounds,Instr.sliceBound,asIntOf,h2];simp[Instr.sliceBounds,Instr.sliceBound,asIntOf,h1,h2]
 simp only[Instr.sliceAt,Sem.run_bind,run_underlying hu,Result.andThen_ok,Instr.slice,hb,run_sizeOf hi,Sem.run_pure]
theorem VO(T:TypeId)(x:Operand)(lo up:Option Operand)(mx:Operand):Claim P E (.slice T x lo up (some mx)):=by
 intro R ty ρ H fz slot k r h;simp only[evalOp,Cl]at h;split at h
 ·rename_i e hu;split at h;rename_i u;split at h;rename_i l n n' hl hn hm;split at h;rename_i t xs hx;split at h;rename_i hsz;split at h;rename_i hnn;split at h;cases h;rename_i ys hs;refine⟨_,_,h,fun R' k'=>by simp only[evalOp,Cl,hu,hl,hn,hm,hx,hsz,hnn,hs],AS fun w F m ρc o hop hty hi hr => ?_⟩;obtain⟨a1,a2,a3,rfl⟩:=Hk hs;rw[Db,ArH]at hnn;subst hnn;simp only[Aps]at hsz;obtain⟨i,hi0,hsz'⟩:=A6 hsz;have hrx:=hr x;rw[hx]at hrx;have hrx:Dat w F (.slice t) xs [ρc x]:=hrx;obtain⟨a,cap,e1,e2,e3⟩:=hrx;simp only[AqF,AsB]at e1;obtain⟨k1,hup⟩:=K7 hn (hr (.tmp u));obtain⟨k2,hmx⟩:=K7 hm (hr mx);have hrun:=Lw (P:=P) (w:=w) (kh:=k1) (km:=k2) hu hi0 a (List.length (α:=t.den) xs) cap (Og hr hl 0) a1 a2 (by omega);refine⟨.slice (if n.toNat=(l.getD 0).toNat then a else a.map (·.add ((l.getD 0).toNat*i.size))) (n.toNat-(l.getD 0).toNat) (n.toNat-(l.getD 0).toNat),by simp[execOp,hop,e1,hup,hmx,hrun],?_⟩
  have hlen:((xs.take n.toNat).drop (l.getD 0).toNat).length=n.toNat-(l.getD 0).toNat:=by grind
  unfold Rep;refine⟨⟨_,_,by rw[hlen],by omega,fun hne => ?_⟩,_,by rw[hlen]⟩;have hpos:(l.getD 0).toNat<n.toNat:=by grind
  have hxne:xs≠[]:=by grind
  obtain⟨ad,row,q1,q2,q3,q4⟩:=e3 hxne;have hk:=fun(x:t.den) cs (h:Dat w F t x cs)=>Dat.length t h;refine⟨ad.add ((l.getD 0).toNat*t.size),_,?_,by rw[H5];exact q2,Hn hk (l.getD 0).toNat (D5 hk n.toNat q3),fun j u hu' => ?_⟩;grind;rw[add_add];grind;grind;grind;grind;grind
  ·rename_i hnt;split at h
   ·rename_i e' t hl hh hm hsl;obtain⟨hu',hty',hpos⟩:=By hsl;split at h
    ·rename_i n hx hs;split at h
     ·rename_i hf;refine⟨_,_,h,fun R' k' => ?_,A0 fun w F m ρc o hop hty hi hr => ?_⟩;rcases up with _|q;simp only[evalOp,Cl,hu,hl,hh,hm,hsl,hx,hs,hf];cases q with
       |tmp u=>grind
       |_=>simp only[evalOp,Cl,hu,hl,hh,hm,hsl,hx,hs,hf]
      obtain⟨i,hi0,_⟩:=A6 hs;have hslice:=AFs hx (hr x);obtain⟨a,len,cap,e1⟩:=hslice;have hlo:lo.map ρc=none:=by
       rcases MF hr hl with⟨h1,_⟩|⟨_,_,_,h2⟩
       all_goals grind
      have hup:∃ k,up.map ρc=some (.int k 0):=by
       rcases MF hr hh with⟨_,h2⟩|⟨k,n,h1,h2⟩
       all_goals grind
      obtain⟨k1,hup⟩:=hup;obtain⟨k2,hmx⟩:=K7 hm (hr mx);have hrun:=UQ (P:=P) (w:=w) hu hi0 a len cap k1 k2;obtain⟨m',hg,hrep⟩:=Dr hi hf e hpos a;exact⟨_,w,F,m',by simp[execOp,hop,e1,hlo,hup,hmx,hrun],hg,hrep⟩
     grind
    grind
   grind
 all_goals grind
theorem Qs{T:TypeId}{f off size:Nat}{ag:Bool}(h:fieldAt P T f=some (off,size,ag)):∃ fs fd i,P.underlying T=some (.struct fs)∧fs[f]? = some fd∧P.info? fd.type=some i∧fd.offset=off∧i.size=size∧EZ P fd.type=some ag:=by unfold fieldAt at h;grind
theorem JZ{w:World}{T:TypeId}{f off size:Nat}{ag:Bool}(h:fieldAt P T f=some (off,size,ag))(hs:size≠0)(a:Addr):(Instr.fieldAt T (.pointer (some a)) f).run P w = .ok (.pointer (some (a.add off))) w:=by obtain⟨fs,fd,i,hu,hf,hi,rfl,rfl,ha⟩:=Qs h;simp[Instr.fieldAt,run_underlying hu,hf,Instr.sureAddr,fieldPlace,run_sizeOf hi,hs]
theorem VS(T:TypeId)(x:Operand)(f:Nat):Claim P E (.fieldAddr T x f):=by
 intro R ty ρ H fz slot k r h;simp only[evalOp,C8]at h;split at h;cases h;rename_i off size ag hf;split at h;cases h;rename_i hs;simp only[Aqc]at hs;split at h;rename_i id o' hx;split at h;rename_i hl;obtain⟨cs,ho⟩:=Kx hl;refine⟨_,_,h,fun R' k'=>by simp only[evalOp,C8,hf,hs,AqA,hx,hl],AS fun w F m ρc o hop hty hi hr => ?_⟩;obtain⟨b,c,vs,T,e1,e2,_⟩:=RC hi ho (hx▸hr x);refine⟨.pointer (some ⟨b,o'+off,none⟩),by simp[execOp,hop,e2,JZ hf hs,CB],?_⟩;unfold Rep;rw[ho];exact⟨b,c,e1,rfl⟩;grind;rename_i id i s hx;split at h;rename_i hl;obtain⟨T',t,xs,ho⟩:=D9 hl;refine⟨_,_,h,fun R' k'=>by simp only[evalOp,C8,hf,hs,AqA,hx,hl],AS fun w F m ρc o hop hty hi hr => ?_⟩;obtain⟨b,c,vs,row,e1,e2,e3,_⟩:=LP hi ho (hx▸hr x);refine⟨.pointer (some ⟨b,i*t.size+s+off,none⟩),by simp[execOp,hop,e2,JZ hf hs,CB],?_⟩;unfold Rep;rw[ho];exact⟨e3,b,c,e1,by grind⟩;grind;rename_i cs hx;refine⟨_,_,h,fun R' k'=>by simp only[evalOp,C8,hf,hs,AqA,hx],AS fun w F m ρc o hop hty hi hr => ?_⟩;have hrx:=hr x;rw[hx]at hrx;unfold Rep at hrx;obtain⟨ad,us,e1,e2,e3,e4,e5⟩:=hrx;refine⟨.pointer (some (ad.add off)),by simp[execOp,hop,e1,JZ hf hs],?_⟩;unfold Rep;exact⟨ad.add off,us.drop off,rfl,fun hne=>by rw[H5];grind,Ez e3 off,fun u hu=>e4 u (ArT hu),fun j u hu=>by rw[add_add];grind⟩
 grind
theorem XK{w:World}{F:Nat→Prop}{m:Mp}{H:List Ob}{T:TypeId}{i:TypeInfo}{ag:Bool}(hi:P.info? T=some i)(ha:EZ P T=some ag){cs:List AV}{v:AV}{us:Array Value}{off:Nat}
  (hl:loadCells ag i.size (cs.drop off)=some v) (hr:AT w F m H cs us.toList) (h1:∀ u∈us.toList,u.oneCell'=true):∃ u,(part T us off).run P w = .ok u w∧Rep w F m H v u:=by
 unfold loadCells at hl;cases ag with
  |true=>simp only at hl;split at hl;rename_i hle;simp only[Apq]at hl;subst hl;refine⟨.agg (us.extract off (off+i.size)),by simp[part,Cc ha,run_sizeOf hi],?_⟩;unfold Rep;refine⟨_,rfl,?_,?_⟩;rw[Array.toList_extract,AsM,show off+i.size-off=i.size from by omega];exact No (Ez hr off) _;intro u hu;rw[Array.toList_extract,AsM]at hu;grind;grind
  |false=>
   simp only at hl;have hg:cs[off]? = some v:=by simp_all
   obtain⟨u,h2,h3⟩:=CW hr hg;refine⟨u,?_,h3⟩;have:us[off]? = some u:=by grind
   simp[part,Cc ha,this]
theorem AMC(T:TypeId)(x:Operand)(f:Nat):Claim P E (.field T x f):=by intro R ty ρ H fz slot k r h;simp only[evalOp,Qu]at h;split at h;cases h;rename_i off size ag hf;split at h;rename_i cs hc hag;split at h;rename_i v hl;refine⟨_,_,h,fun R' k'=>by simp only[evalOp,Qu,hf,hc,hag,hl],AS fun w F m ρc o hop hty hi hr => ?_⟩;obtain⟨fs,fd,i,hu,hfd,hi0,rfl,rfl,ha⟩:=Qs hf;obtain⟨vs,e1⟩:=KJ hag (hr x);have hrc:=cells?_ok hc (hr x);have h1:=cells?_one hc (hr x);rw[e1]at hrc h1;obtain⟨u,q1,q2⟩:=XK (P:=P) hi0 ha hl hrc h1;refine⟨u,?_,q2⟩;simp only[Value.cells]at q1;simp[execOp,hop,e1,Instr.field,run_underlying hu,hfd,Go.asAgg,q1];grind;grind
theorem AAu(x:Operand)(i:Nat):Claim P E (.extract x i):=by
 intro R ty ρ H fz slot k r h;simp only[evalOp,KC]at h;split at h;rename_i vs hx;split at h;rename_i v hv;refine⟨_,_,h,fun R' k'=>by simp only[evalOp,KC,hx,hv],AS fun w F m ρc o hop hty hi hr => ?_⟩;have hrx:=hr x;rw[hx]at hrx;unfold Rep at hrx;obtain⟨us,e1,e2⟩:=hrx;obtain⟨u,h1,h2⟩:=CW e2 hv;exact⟨u,by
  have:us[i]? = some u:=by grind
  simp[execOp,hop,e1,Instr.extract,this],h2⟩
 grind;grind
end
end Go.Pev
end
