/- A part of the proofs of this seat: ALIAS PevGlob PevDefs PevEval PevLoop PevSem PevStep PevConv PevRun PevOps PevPrs0 PevRows PevOps2 PevOps3 PevOps4 PevOps5 PevOps6 PevOps7. -/
import Derived.Calls
import Derived.Laws.Sem
import Derived.Orders
import Derived.Below
import Derived.Laws.AppendOwn
import Derived.Laws.Entries
import Derived.Maps.AppendAt
import Derived.Laws.Small
import Derived.Laws.StructEq
import Derived.WideLaws
set_option linter.unusedVariables false
set_option linter.unusedSimpArgs false
set_option linter.unusedSectionVars false
set_option maxRecDepth 100000
section
namespace Go.Pev
noncomputable section
abbrev Aaq:=@decide_eq_false
abbrev Aar:=@decide_eq_true
abbrev Aas:=@Option.some.injEq
abbrev Aat:=@decide_eq_true_eq
abbrev Aau:=@Bool.and_eq_true
abbrev Aav:=@Bool.not_true
abbrev Aaw:=@Int.eq_ofNat_of_zero_le
abbrev Aax:=@Nat.le_refl
abbrev Aay:=@List.mem_of_getElem?
abbrev Aaz:=@List.getElem?_eq_getElem
abbrev Aa0:=@Option.map_eq_some_iff
abbrev Aa1:=@List.length_cons
abbrev Aa2:=@if_neg
abbrev Aa3:=@List.length_append
abbrev Aa4:=@Prod.mk.injEq
abbrev Aa5:=@if_pos
abbrev Aa6:=@decide_true
abbrev Aa7:=@List.mem_append
abbrev Aa8:=@List.length_nil
abbrev Aa9:=@List.length_range
abbrev AbA:=@List.mem_map
abbrev AbB:=@Bool.false_eq_true
abbrev AbC:=@List.getElem?_eq_some_iff
abbrev AbD:=@List.mem_cons
abbrev AbE:=@if_false
abbrev AbF:=@Bool.not_false
abbrev AbG:=@List.getD_eq_getElem?_getD
abbrev AbH:=@Array.length_toList
abbrev AbI:=@List.mem_range
abbrev AbJ:=@List.range_succ
abbrev AbK:=@List.all_eq_true
abbrev AbL:=@List.map_cons
abbrev AbM:=@List.take_length
abbrev AbN:=@List.length_map
abbrev AbO:=@List.cons_append
abbrev AbP:=@Nat.le_of_ble_eq_true
abbrev AbQ:=@List.eq_nil_of_length_eq_zero
abbrev AbR:=@List.cons.injEq
abbrev AbS:=@List.mem_filter
abbrev AbT:=@Array.getD_eq_getD_getElem?
abbrev AbU:=@List.length_take
abbrev AbV:=@decide_false
abbrev AbW:=@List.nil_append
abbrev AbX:=@decide_eq_false_iff_not
abbrev AbY:=@Nat.mul_le_mul_right
abbrev AbZ:=@Nat.eq_of_beq_eq_true
abbrev Aba:=@List.length_replicate
abbrev Abb:=@List.getElem?_append_right
abbrev Abc:=@if_true
abbrev Abd:=@List.append_nil
abbrev Abe:=@List.ext_getElem?
abbrev Abf:=@List.getElem?_cons_zero
abbrev Abg:=@Option.getD_some
abbrev Abh:=@Option.bind_some
abbrev Abi:=@List.pairwise_cons
abbrev Abj:=@List.nodup_cons
abbrev Abk:=@Nat.le_trans
abbrev Abl:=@List.drop_eq_getElem_cons
abbrev Abm:=@List.map_append
abbrev Abn:=@Int.toNat_natCast
abbrev Abo:=@Nat.zero_add
abbrev Abp:=@List.flatMap_append
abbrev Abq:=@List.take_succ_eq_append_getElem
abbrev Abr:=@List.flatMap_cons
abbrev Abs:=@List.take_of_length_le
abbrev Abt:=@Bool.or_eq_true
abbrev Abu:=@List.foldl_cons
abbrev Abv:=@List.take_append_drop
abbrev Abw:=@Array.getElem?_toList
abbrev Abx:=@congrArg
abbrev Aby:=@Bool.and_self
abbrev Abz:=@Nat.eq_zero_or_pos
abbrev Ab0:=@Option.isSome_iff_exists
abbrev Ab1:=@List.getElem_of_mem
abbrev Ab2:=@not_true_eq_false
abbrev Ab3:=@List.mem_cons_of_mem
abbrev Ab4:=@List.mem_flatMap
abbrev Ab5:=@List.getElem_mem
abbrev Ab6:=@Classical.byContradiction
abbrev Ab7:=@List.pairwise_iff_getElem
abbrev Ab8:=@Bool.not_eq_true'
abbrev Ab9:=@List.size_toArray
abbrev AcA:=@List.pairwise_map
abbrev AcB:=@List.foldl_append
abbrev AcC:=@List.append_assoc
abbrev AcD:=@Nat.add_zero
abbrev AcE:=@List.map_nil
abbrev AcF:=@Nat.add_mul
abbrev AcG:=@Nat.min_eq_left
abbrev AcH:=@Bool.eq_iff_iff
abbrev AcI:=@Nat.lt_of_lt_of_le
abbrev AcJ:=@List.mem_singleton
abbrev AcK:=@Option.bind_eq_some_iff
abbrev AcL:=@List.range_eq_range'
abbrev AcM:=@List.nodup_range
abbrev AcN:=@List.map_congr_left
abbrev AcO:=@List.filter_eq_self
abbrev AcP:=@Array.getElem?_eq_getElem
abbrev AcQ:=@List.singleton_append
abbrev AcR:=@List.contains_iff_mem
abbrev AcS:=@List.getElem?_eq_none
abbrev AcT:=@List.length_singleton
abbrev AcU:=@Array.toList_map
abbrev AcV:=@Nat.mod_eq_of_lt
abbrev AcW:=@List.range'_succ
abbrev AcX:=@List.filter_append
abbrev AcY:=@decide_eq_decide
abbrev AcZ:=@List.drop_drop
abbrev Aca:=@Nat.mul_le_mul
abbrev Acb:=@List.filter_congr
abbrev Acd:=@Ne.symm
abbrev Ace:=@beq_iff_eq
abbrev Acf:=@List.tail_cons
abbrev Acg:=@decide_eq_true_iff
abbrev Ach:=@List.length_filter_le
abbrev Aci:=@List.getElem?_append_left
abbrev Acj:=@Nat.le_of_lt
abbrev Ack:=@Nat.zero_mul
abbrev Acl:=@List.mem_of_mem_drop
abbrev Acm:=@Nat.sub_self
abbrev Acn:=@List.getElem?_of_mem
abbrev Aco:=@List.Perm.eq_of_pairwise
abbrev Acp:=@List.length_drop
abbrev Acq:=@Nat.zero_le
abbrev Acr:=@Nat.mod_lt
abbrev Acs:=@Nat.lt_or_ge
abbrev Acu:=@Option.map_some
abbrev Acv:=@Int.tdiv_eq_ediv_of_nonneg
abbrev Acw:=@List.perm_ext_iff_of_nodup
abbrev Acx:=@List.countP_congr
abbrev Acy:=@Classical.not_not
abbrev Acz:=@List.getElem?_set
abbrev Ac0:=@Array.toArray_toList
abbrev Ac1:=@List.getElem?_set_ne
abbrev Ac2:=@List.Pairwise.filter
abbrev Ac3:=@BitVec.ofInt_natCast
abbrev Ac4:=@Nat.one_mul
abbrev Ac5:=@Nat.le_of_eq
abbrev Ac6:=@List.filter_cons
abbrev Ac7:=@List.filterMap_cons
abbrev Ac8:=@List.eraseIdx_cons_succ
abbrev Ac9:=@Nat.add_assoc
abbrev AdA:=@List.getElem?_take
abbrev AdB:=@List.length_set
abbrev AdC:=@List.append_of_mem
abbrev AdD:=@List.range_zero
abbrev AdE:=@BitVec.toNat_ofNat
abbrev AdF:=@List.drop_of_length_le
abbrev AdG:=@and_true
abbrev AdH:=@List.findIdx_lt_length
abbrev AdI:=@List.getElem?_map
abbrev AdJ:=@of_decide_eq_true
abbrev AdK:=@List.getElem?_inj
abbrev AdL:=@List.take_take
abbrev AdM:=@Nat.succ_mul
abbrev AdN:=@List.take_append
abbrev AdO:=@List.ext_getElem
abbrev AdP:=@List.not_mem_nil
abbrev AdQ:=@Nat.pow_le_pow_right
abbrev AdR:=@Bool.false_or
abbrev AdS:=@List.flatten_append
abbrev AdT:=@Array.mapM_eq_mapM_toList
abbrev AdU:=@List.extract_eq_take_drop
abbrev AdV:=@List.headD_cons
abbrev AdW:=@List.getLast?_eq_some_iff
abbrev AdX:=@List.mem_take_iff_getElem
abbrev AdY:=@Int.natCast_mul
abbrev AdZ:=@Nat.two_pow_pos
abbrev Ada:=@List.getElem?_drop
abbrev Adb:=@List.eq_of_mem_replicate
abbrev Adc:=@false_and
abbrev Ade:=@true_and
abbrev Adf:=@Nat.add_sub_cancel
abbrev Adg:=@Nat.le_mul_of_pos_right
abbrev Adh:=@List.flatten_cons
abbrev Adi:=@List.nodup_append
abbrev Adj:=@List.mem_range'_1
abbrev Adk:=@List.take_add_one
abbrev Adl:=@List.getElem?_set_self
abbrev Adm:=@Option.map_eq_none_iff
abbrev Adn:=@List.pairwise_lt_range
abbrev Ado:=@List.filter_eq_nil_iff
abbrev Adp:=@List.drop_one
abbrev Adq:=@Bool.and_true
abbrev Adr:=@List.flatMap_nil
abbrev Ads:=@List.any_eq_true
abbrev Adt:=@Array.all_toList
abbrev Adu:=@Nat.min_eq_right
abbrev Adv:=@List.countP_cons
def AUz:List Int:=[0,1,28,2,29,14,24,3,30,22,20,15,25,17,4,8,31,27,13,23,21,19,16,7,26,12,18,6,11,5,10,9]
def ow:List (Nat×IntKind×List Int):=[(0,.u8,AUz)]
inductive Ty where
 |unit|bool
 |int (k:IntKind)
 |slice (e:Ty)
 |prod (a b:Ty)
 |arr (n:Nat) (e:Ty)
 |nul (e:Ty)
 |mapi (j:IntKind) (e:Ty)
 deriving DecidableEq
@[reducible] def Ty.den:Ty->Type
 |.unit=>Unit
 |.bool=>Bool
 |.int _=>Int
 |.slice e=>List e.den
 |.prod a b=>a.den×b.den
 |.arr _ e=>List e.den
 |.nul _=>Unit
 |.mapi _ e=>List (Int×e.den)
def Ty.size:Ty->Nat
 |.unit=>0
 |.bool=>1
 |.int _=>1
 |.slice _=>1
 |.prod a b=>a.size+b.size
 |.arr n e=>n*e.size
 |.nul _=>1
 |.mapi _ _=>1
def Ty.isAgg:Ty->Bool
 |.unit=>true
 |.prod _ _=>true
 |.arr _ _=>true
 |_=>false
def Ty.made(b:Bool):Ty->Ty
 |.slice e=>match b with
  |true=>.nul e
  |false=>.slice e
 |t=>t
def Ty.nul? : (t:Ty)->Option Ty
 |.nul e=>some e
 |_=>none
def Ty.zero:(t:Ty)->t.den
 |.unit=>()
 |.bool=>false
 |.int _=>(0:Int)
 |.slice _=>[]
 |.prod a b=>(a.zero,b.zero)
 |.arr n e=>List.replicate n e.zero
 |.nul _=>()
 |.mapi _ _=>[]
def Ty.flat:Ty->Bool
 |.unit=>true
 |.bool=>true
 |.int _=>true
 |.slice _=>false
 |.prod a b=>a.flat&&b.flat
 |.arr _ e=>e.flat
 |.nul _=>true
 |.mapi _ _=>false
inductive AV where
 |DM
 |data (t:Ty) (d:t.den)
 |nils (e:Ty)
 |agg (cs:List AV)
 |own (id:Nat)
 |win (id off n:Nat)
 |ptr (id off:Nat)
 |eptr (id i sub:Nat)
 |dptr (cs:List AV)
 |clo (f:FuncId) (caps:List AV)
 |bnd (f:FuncId) (fs:List AV)
 |str (xs:List Int)
 |clip (t:Ty) (xs:List t.den)
 |mp (id:Nat)
 |tup (vs:List AV)
 |rowp (id i ver:Nat)
 |glob (g:Nat)
 |aptr (id n:Nat)
 |nilp
 |ifc (o:Option (TypeId×List (IntKind×Int)))
def Ll:Option (TypeId×List (IntKind×Int))->Value
 |none=>.nilIface
 |some (T,l)=>.iface T (.agg (l.map fun p=>Value.int p.1 p.2).toArray)
def vJ:List AV->Option (List (IntKind×Int))
 |[]=>some []
 |.data (.int k) n::r=>(vJ r).map ((k,n) :: ·)
 |_::_=>none
def Bl{α:Type}(xs:List α)(i:Nat)(x:α):List α:=xs.set i x
inductive RK where
 |arr (T:TypeId)
 |map (j:IntKind) (ks:List Int)
def RK.LL:RK->Bool
 |.arr _=>true
 |.map _ _=>false
def GU(a:List Int)(x:Int):Nat:=
 match a with
 |[]=>0
 |k::a=>if k=x then 0 else GU a x+1
def Oo{α:Type}(xs:List α)(i:Nat)(x:α):List α:=if i<xs.length then xs.set i x else xs++[x]
def RK.put{α:Type}(K:RK)(xs:List α)(i:Nat)(x:α):List α:=
 match K with
 |.arr _=>Bl xs i x
 |.map _ _=>Oo xs i x
inductive Ob where
 |free
 |dead
 |box (cs:List AV)
 |arr (T:TypeId) (t:Ty) (xs:List t.den)
 |map (k v:Ty) (es:List (k.den×v.den))
 |prs (T:TypeId) (tgt:Nat) (is:List Int)
 |rows (K:RK) (e:TypeId) (t:Ty) (xs:List (List t.den)) (ver:Nat) (out:Option Nat)
def Ha(a:Nat)(b:List Int):List AV:=b.map fun i=>.eptr a i.toNat 0
def CK:Ob->Bool
 |.rows _ _ _ _ _ _=>false
 |_=>true
structure Tm where
 n:Nat
 f:Nat->AV
noncomputable def Tm.set(m:Tm)(t:Nat)(v:AV):Tm:=⟨m.n,fun i=>Bool.rec (m.f i) (Bool.rec (m.f i) v (Nat.blt t m.n)) (Nat.beq i t)⟩
def Tm.of(l:List AV)(n:Nat):Tm:=⟨n,fun i=>l.getD i .DM⟩
def Tm.at(m:Tm)(t:Nat):Option AV:=match Nat.blt t m.n with
 |true=>some (m.f t)
 |false=>none
def Tm.list(m:Tm):List AV:=(List.range m.n).map m.f
def lk(l:List AV)(t:Nat):Option AV:=l[t]?
theorem Tm.ext{m a:Tm}(h:m.n=a.n)(k:∀ i,m.f i=a.f i):m=a:=by cases m;cases a;simp only at h k;subst h;congr;grind
theorem Tm.YZ(m:Tm)(t:Nat)(v:AV)(i:Nat):(m.set t v).f i=if i=t/\t<m.n then v else m.f i:=by
 unfold Tm.set;dsimp only;cases h:Nat.beq i t with
  |false=>
   have:i≠t:=by rintro rfl;simp_all
   grind
  |true=>
   have:=AbZ h;subst this;cases a:Nat.blt i m.n with
    |false=>
     have:¬ i<m.n:=by intro b;have c:Nat.ble (i+1) m.n=true:=Nat.ble_eq_true_of_le b;rw[show Nat.blt i m.n=Nat.ble (i+1) m.n from rfl,c]at a;cases a
     grind
    |true=>simp_all
theorem Tm.O'{m:Tm}{t:Nat}{v:AV}(h:m.f t=v):m.set t v=m:=Tm.ext rfl fun i=>by rw[Tm.YZ];grind
theorem Tm.set_comm(m:Tm){t u:Nat}(v w:AV)(h:t≠u):(m.set t v).set u w=(m.set u w).set t v:=Tm.ext rfl fun i=>by simp only[Tm.YZ,show ∀ a b,(Tm.set m a b).n=m.n from fun _ _=>rfl];grind
theorem Tm.set_set(m:Tm)(t:Nat)(v w:AV):(m.set t v).set t w=m.set t w:=Tm.ext rfl fun i=>by simp only[Tm.YZ,show ∀ a b,(Tm.set m a b).n=m.n from fun _ _=>rfl];grind
theorem Tm.AVg{m:Tm}{t:Nat}{v:AV}(h:m.at t=some v):v=m.f t/\t<m.n:=by unfold Tm.at at h;split at h;all_goals simp_all
theorem Tm.AOl(m:Tm):m.list.length=m.n:=by simp[Tm.list]
theorem Tm.AOm{m:Tm}{t:Nat}{v:AV}(h:m.list[t]? = some v):v=m.f t:=by unfold Tm.list at h;grind
abbrev w64(n:Int):Int:=IntKind.wrap .i64 n
structure St where
 tmps:Tm
 heap:List Ob
 frz:List Bool
def nf{R:Type}(n:Nat)(k:Nat->R):R:=match n with
 |0=>k 0
 |n+1=>k (Nat.succ n)
theorem Pb{R:Type}(n:Nat)(k:Nat->R):nf n k=k n:=by cases n<;>rfl
structure Eff where
 heap:Option (List Ob×List Bool):=none
 objs:List (Nat×Ob):=[]
 frz:List Nat:=[]
def A2{α:Type}(xs:List α):Int:=(xs.length:Int)
def A9{α:Type}(xs:List α)(i:Nat)(z:α):α:=xs.getD i z
def B2{α:Type}(xs ys:List α):List α:=xs++ys
def C5{α:Type}(n:Nat)(xs:List α):List α:=xs.take n
def Iq{α:Type}(off n:Nat)(xs:List α):List α:=(xs.drop off).take n
def Df{α:Type}(n:Nat)(x:α):List α:=List.replicate n x
def A4(n:Int):Nat:=n.toNat
def Cu{α:Type}(off n:Nat)(z:α)(xs:List α):List α:=xs.take off++(List.replicate n z++xs.drop (off+n))
def fJ:Operand->Option ByteArray
 |.const (.string s)=>some s
 |_=>none
def isConst:Operand->Bool
 |.const _=>true
 |_=>false
def bytesOf(s:ByteArray):List Int:=s.data.toList.map fun b=>(b.toNat:Int)
def Kq(xs:List Int):List Int:=xs.map fun n=>((UInt8.ofNat n.toNat).toNat:Int)
def C8(a b:Int):Int:=if b<a then b else a
def imax(a b:Int):Int:=if b > a then b else a
noncomputable def lock{α:Type}(x:α):α:=Classical.choose (⟨x,rfl⟩:∃ y,y=x)
theorem A0{α:Type}(x:α):lock x=x:=Classical.choose_spec (⟨x,rfl⟩:∃ y,y=x)
class Lk where
 f:{α:Type}->α->α
@[reducible] def lkk [Lk] {α β:Type} (f:α->β) (v:α):β:=Lk.f (f v)
noncomputable instance lockI:Lk:=⟨fun x=>lock x⟩
abbrev idI:Lk:=⟨fun x=>x⟩
theorem dg:lockI=idI:=by unfold lockI idI;congr;funext α x;exact A0 x
def eE{α:Type}(xs:List α)(i:Int):Option α:=if i<0 then none else xs[i.toNat]?
def idx[Lk]{α:Type}(xs:List α)(i:Int):Option α:=Lk.f (eE xs i)
theorem idx_eq{α:Type}(xs:List α)(i:Int):idx xs i=eE xs i:=A0 _
def sE{α:Type}(xs:List α)(l h:Int):Option (List α):=
 if 0<=l/\l<=h/\h<=xs.length then some ((xs.take h.toNat).drop l.toNat)else none
def EX[Lk]{α:Type}(xs:List α)(l h:Int):Option (List α):=Lk.f (sE xs l h)
theorem Zn{α:Type}(xs:List α)(l h:Int):EX xs l h=sE xs l h:=A0 _
def ilt[Lk](a b:Int):Bool:=Lk.f (decide (a<b))
def ile[Lk](a b:Int):Bool:=Lk.f (decide (a<=b))
def ieq[Lk](a b:Int):Bool:=Lk.f (a==b)
theorem BF(a b:Int):ilt a b=decide (a<b):=A0 _
theorem BR(a b:Int):ile a b=decide (a<=b):=A0 _
theorem DF(a b:Int):ieq a b=(a==b):=A0 _
def ASd(a b:List Int):Bool:=a==b
def seq?[Lk](a b:List Int):Bool:=Lk.f (ASd a b)
theorem seq_eq(a b:List Int):seq? a b=ASd a b:=A0 _
def CN:(t:Ty)->t.den->List AV
 |.unit,_=>[]
 |.bool,b=>[.data .bool b]
 |.int k,n=>[.data (.int k) n]
 |.slice e,xs=>[.data (.slice e) xs]
 |.prod a b,d=>CN a d.1++CN b d.2
 |.arr n e,xs=>(List.range n).flatMap fun i=>CN e (A9 xs i e.zero)
 |.nul e,_=>[.nils e]
 |.mapi j e,es=>[.data (.mapi j e) es]
def zeroCells:Ty->List AV
 |.unit=>[]
 |.bool=>[.data .bool false]
 |.int k=>[.data (.int k) (0:Int)]
 |.slice e=>[.nils e]
 |.prod a b=>zeroCells a++zeroCells b
 |.arr n e=>(List.replicate n (zeroCells e)).flatten
 |.nul e=>[.nils e]
 |.mapi _ _=>[.DM]
def Sy(k:IntKind):List AV->Option (List Int)
 |[]=>some []
 |.data (.int j) n::r=>match decide (j=k),Sy k r with
  |true,some ns=>some (n::ns)
  |_,_=>none
 |_::_=>none
def cast{t t':Ty}(d:t.den):Option t'.den:=if h:t=t' then some (h▸d)else none
def Oh{t t':Ty}(d:List t.den):Option (List t'.den):=if h:t=t' then some (h▸d)else none
def E9(H:List Ob)(t:Ty)(v:AV):Option (t.den×List Nat):=
 match v with
 |.data _ d=>(cast d:Option t.den).map fun x=>(x,[])
 |.clip e xs=>(cast (t:=.slice e) xs:Option t.den).map fun x=>(x,[])
 |.nils _=>match t with
  |.slice _=>some ([],[])
  |.nul _=>some ((),[])
  |_=>none
 |.own id=>match H[id]? with
  |some (.arr _ e xs)=>(cast (t:=.slice e) xs:Option t.den).map fun x=>(x,[id])
  |_=>none
 |.win id off n=>match H[id]? with
  |some (.arr _ e xs)=>(cast (t:=.slice e) (Iq off n xs):Option t.den).map fun x=>(x,[id])
  |_=>none
 |.mp id=>match H[id]? with
  |some (.rows (.map j ks) _ e xs _ none)=>(cast (t:=.mapi j (.slice e)) (List.zip (β:=List e.den) ks xs):Option t.den).map fun x=>(x,[id])
  |_=>none
 |_=>none
def UO{α:Type}(one:List AV->Option (α×List Nat×List AV)):Nat->List AV->Option (List α×List Nat×List AV)
 |0,cs=>some ([],[],cs)
 |n+1,cs=>match one cs with
  |none=>none
  |some (x,f,cs)=>match UO one n cs with
   |none=>none
   |some (xs,g,cs)=>some (x::xs,f++g,cs)
def BZ(H:List Ob):(t:Ty)->List AV->Option (t.den×List Nat×List AV)
 |.unit,cs=>some ((),[],cs)
 |.bool,c::cs=>match E9 H .bool c with
  |none=>none
  |some (x,f)=>some (x,f,cs)
 |.int k,c::cs=>match E9 H (.int k) c with
  |none=>none
  |some (x,f)=>some (x,f,cs)
 |.slice e,c::cs=>match E9 H (.slice e) c with
  |none=>none
  |some (x,f)=>some (x,f,cs)
 |.prod a b,cs=>match BZ H a cs with
  |none=>none
  |some (x,f,cs)=>match BZ H b cs with
   |none=>none
   |some (y,g,cs)=>some ((x,y),f++g,cs)
 |.arr n e,cs=>UO (BZ H e) n cs
 |.nul e,c::cs=>match E9 H (.nul e) c with
  |none=>none
  |some (x,f)=>some (x,f,cs)
 |.mapi j e,c::cs=>match E9 H (.mapi j e) c with
  |none=>none
  |some (x,f)=>some (x,f,cs)
 |_,[]=>none
def asAgg(H:List Ob)(t:Ty)(v:AV):Option (t.den×List Nat):=
 match v with
 |.data _ d=>(cast d:Option t.den).map fun x=>(x,[])
 |.agg cs=>match BZ H t cs with
  |some (x,f,[])=>some (x,f)
  |_=>none
 |_=>none
def GW(H:List Ob)(t:Ty)(v:AV):Option (t.den×List Nat):=
 match t.isAgg with
 |true=>asAgg H t v
 |false=>E9 H t v
def fe(H:List Ob)(t:Ty)(v:AV):Option (t.den×List Nat):=
 match v with
 |.own id=>match H[id]? with
  |some (.rows (.arr _) _ e xs _ none)=>(cast (t:=.slice (.slice e)) xs:Option t.den).map fun x=>(x,[id])
  |_=>GW H t (.own id)
 |v=>GW H t v
@[reducible] def Bd:List Ty->Type
 |[]=>Unit
 |t::ts=>t.den×Bd ts
abbrev Spec:=(R:Type)->List AV->List Ob->List Bool->Nat->(AV->Eff->Option R)->Option R
abbrev PV:=TypeId×List (IntKind×Int)
abbrev NH:=(R:Type)->List AV->List Ob->List Bool->Nat->(AV->Eff->Option R)->(PV->Eff->Option R)->Option R
def DC(p:PV):PanicEntry:={ v:=Ll (some p),recovered:=false }
abbrev fm:=(R:Type)->St->(Exit->St->Option R)->Option R
def ZR(P:Program):Nat->TypeId->Option Ty
 |0,_=>none
 |n+1,t=>match P.underlying t with
  |some .bool=>some .bool
  |some (.int k)=>some (.int k)
  |some (.slice e)=>(ZR P n e).map .slice
  |some (.array c e)=>(ZR P n e).map (.arr c)
  |some (.struct fs)=>(fs.toList.mapM fun f=>ZR P n f.type).map fun ts=>ts.foldr Ty.prod .unit
  |_=>none
def mP(P:Program)(t:TypeId):Option Ty:=ZR P 12 t
def sliceAt(P:Program)(t:TypeId):Option (TypeId×Ty):=
 match P.underlying t with
 |some (.slice e)=>match mP P e with
  |some x=>match decide (0<x.size)with
   |true=>some (e,x)
   |false=>none
  |none=>none
 |_=>none
def Fq(P:Program)(t:TypeId):Option Bool:=
 match P.underlying t with
 |some (.struct _)=>some true
 |some (.array _ _)=>some true
 |some _=>some false
 |none=>none
def EE:AV->Value->Bool
 |.data .bool b,.bool c=>b==c
 |.data (.int k) n,.int k' m=>(decide (k=k'))&&(n==m)
 |.nils _,.slice none 0 0=>true
 |_,_=>false
def C1:List AV->List Value->Bool
 |[],[]=>true
 |a::asz,v::vs=>EE a v&&C1 asz vs
 |_,_=>false
def Sx:Value->Bool
 |.agg _=>true
 |_=>false
def zeroAt(P:Program)(T:TypeId):Option (Ty×List AV):=
 match mP P T,P.info? T with
 |some t,some i=>match i.zero with
  |some z=>if C1 (zeroCells t) z.cells.toList&&(i.size==t.size)&&(t.isAgg==Sx z)then some (t,zeroCells t)else none
  |none=>none
 |_,_=>none
def pn:Value->AV
 |.bool b=>.data .bool b
 |.int k n=>.data (.int k) n
 |.slice none 0 0=>.nils .unit
 |.pointer none=>.nilp
 |.string s=>.str (bytesOf s)
 |.nilIface=>.ifc none
 |_=>.DM
def Bc(a:Tm):Operand->AV
 |.tmp t=>a.f t
 |.const v=>pn v
 |.func f=>.clo f []
 |.global g=>.glob g
def cells? : AV->Option (List AV)
 |.DM=>none
 |.tup _=>none
 |.data .unit _=>some []
 |.data (.prod a b) d=>some (CN (.prod a b) d)
 |.data (.arr n e) d=>some (CN (.arr n e) d)
 |.agg cs=>some cs
 |v=>some [v]
noncomputable def ACx[Lk](c:BinOp)(k:IntKind)(a b:Int):Option AV:=
 match c with
 |.add=>some (.data (.int k) (k.wrap (a+b)))
 |.sub=>some (.data (.int k) (k.wrap (a-b)))
 |.mul=>some (.data (.int k) (k.wrap (a*b)))
 |.and=>some (.data (.int k) (k.wrap (BitVec.ofInt k.bits a &&& BitVec.ofInt k.bits b).toNat))
 |.or=>some (.data (.int k) (k.wrap (BitVec.ofInt k.bits a ||| BitVec.ofInt k.bits b).toNat))
 |.xor=>some (.data (.int k) (k.wrap (BitVec.ofInt k.bits a ^^^ BitVec.ofInt k.bits b).toNat))
 |.andNot=>some (.data (.int k) (k.wrap (BitVec.ofInt k.bits a &&& ~~~(BitVec.ofInt k.bits b)).toNat))
 |.eql=>some (.data .bool (ieq a b))
 |.neq=>some (.data .bool (!(ieq a b)))
 |.lss=>some (.data .bool (ilt a b))
 |.leq=>some (.data .bool (ile a b))
 |.gtr=>some (.data .bool (ilt b a))
 |.geq=>some (.data .bool (ile b a))
 |_=>none
def nS(k:IntKind)(a b:Int):Option Int:=if b=0 then none else some (k.wrap (a.tdiv b))
def quo?[Lk](k:IntKind)(a b:Int):Option Int:=Lk.f (nS k a b)
theorem Se(k:IntKind)(a b:Int):quo? k a b=nS k a b:=A0 _
def zS(a b:Int):Option Int:=if b=0 then none else some (a.tmod b)
def rem?[Lk](a b:Int):Option Int:=Lk.f (zS a b)
theorem cg(a b:Int):rem? a b=zS a b:=A0 _
def mu(k:IntKind)(a b:Int):Option Int:=if b<0 then none else some (k.wrap (a*2 ^ min b.toNat k.bits))
def shl?[Lk](k:IntKind)(a b:Int):Option Int:=Lk.f (mu k a b)
theorem SW(k:IntKind)(a b:Int):shl? k a b=mu k a b:=A0 _
def yr(k:IntKind)(a b:Int):Option Int:=if b<0 then none else some (a.fdiv (2 ^ min b.toNat k.bits))
def shr?[Lk](k:IntKind)(a b:Int):Option Int:=Lk.f (yr k a b)
theorem cD(k:IntKind)(a b:Int):shr? k a b=yr k a b:=A0 _
def vc(n:Int):Bool:=Nat.ble n.toNat 4294967296
theorem Xu(n:Int):vc n=true↔n<=4294967296:=by unfold vc;simp
def fits[Lk](n:Int):Bool:=Lk.f (vc n)
theorem AU4(n:Int):fits n=vc n:=A0 _
theorem Gv(n:Int):fits n=true↔n<=4294967296:=by rw[AU4,Xu]
def pJ(n:Int):Bool:=decide (0<=n)&&Nat.ble n.toNat 4294967296
theorem AB0(n:Int):pJ n=true↔0<=n/\n<=4294967296:=by unfold pJ;simp
def CY[Lk](n:Int):Bool:=Lk.f (pJ n)
theorem AP1(n:Int):CY n=pJ n:=A0 _
theorem J3(n:Int):CY n=true↔0<=n/\n<=4294967296:=by rw[AP1,AB0]
def Ns(P:Program)(t:TypeId):Option IntKind:=
 match P.underlying t with
 |some (.int k)=>some k
 |_=>none
def Ey(cs new:List AV)(off:Nat):Option (List AV):=
 if off+new.length<=cs.length then some (cs.take off++new++cs.drop (off+new.length))else none
def F_(place:Nat->Option (Nat×Nat)):List (Nat×AV)->List AV->Option (List AV)
 |[],cs=>some cs
 |(i,v)::rest,cs=>match place i with
  |none=>none
  |some (off,size)=>match cells? v with
   |none=>none
   |some vs=>match decide (vs.length=size)with
    |false=>none
    |true=>match Ey cs vs off with
     |none=>none
     |some cs=>F_ place rest cs
def fieldAt(P:Program)(T:TypeId)(f:Nat):Option (Nat×Nat×Bool):=
 match P.underlying T with
 |some (.struct fs)=>match fs[f]? with
  |some f=>match P.info? f.type,Fq P f.type with
   |some i,some ag=>some (f.offset,i.size,ag)
   |_,_=>none
  |none=>none
 |_=>none
def elemAt(P:Program)(T:TypeId):Option (Nat×Bool):=
 match P.underlying T with
 |some (.array _ e)=>match P.info? e,Fq P e with
  |some i,some ag=>some (i.size,ag)
  |_,_=>none
 |_=>none
def CO(P:Program)(T:TypeId):Option Nat:=(P.info? T).map (·.size)
def cellAt(P:Program)(T:TypeId):Option TypeId:=
 match P.underlying T with
 |some (.slice e)=>match P.info? e with
  |some i=>match i.zero with
   |some z=>match decide (i.size=1)&&(decide (z.cells.size=1)&&decide (i.bytes<=1024))with
    |true=>some e
    |false=>none
   |none=>none
  |none=>none
 |_=>none
def loadCells(a:Bool)(size:Nat)(cs:List AV):Option AV:=
 match a with
 |true=>if size<=cs.length then some (.agg (cs.take size))else none
 |false=>cs.head?
def A_{α β:Type}[DecidableEq α](c:List (α×β))(k:α):Option β:=
 match c with
 |[]=>none
 |(a,b)::c=>if a=k then some b else A_ c k
def BH{α β:Type}[DecidableEq α](c:List (α×β))(k:α)(v:β):List (α×β):=
 match c with
 |[]=>[(k,v)]
 |(a,b)::c=>if a=k then(a,v)::c else(a,b)::BH c k v
def Fb{α β:Type}[DecidableEq α](b:List (α×β))(k:α):Option Nat:=
 match b with
 |[]=>none
 |(a,_)::b=>if a=k then some 0 else(Fb b k).map (· + 1)
def Om{α β:Type}[DecidableEq α](a:List (α×β))(k:α):Int:=((Fb a k).getD a.length:Nat)
def ZU{α β:Type}(a:List (α×β))(i:Int)(v:β):List (α×β):=a.modify i.toNat fun e=>(e.1,v)
instance decDen:(t:Ty)->DecidableEq t.den
 |.unit=>inferInstanceAs (DecidableEq Unit)
 |.bool=>inferInstanceAs (DecidableEq Bool)
 |.int _=>inferInstanceAs (DecidableEq Int)
 |.slice e=>haveI:=decDen e;inferInstanceAs (DecidableEq (List e.den))
 |.prod a b=>@instDecidableEqProd _ _ (decDen a) (decDen b)
 |.arr _ e=>haveI:=decDen e;inferInstanceAs (DecidableEq (List e.den))
 |.nul _=>inferInstanceAs (DecidableEq Unit)
 |.mapi _ e=>haveI:=decDen e;inferInstanceAs (DecidableEq (List (Int×e.den)))
def Gn(H:List Ob)(id:Nat):Bool:=
 match H[id]? with
 |some (.box _)=>true
 |_=>false
def Dy(H:List Ob)(id:Nat):Bool:=
 match H[id]? with
 |some (.arr _ _ _)=>true
 |_=>false
def Hj(H:List Ob):AV->Bool
 |.data (.slice _) _=>true
 |.nils _=>true
 |.own id=>Dy H id
 |.win id _ _=>Dy H id
 |_=>false
def SH:AV->Bool
 |.agg _=>true
 |.data t _=>t.isAgg
 |_=>false
def Bi(H:List Ob)(fz:List Bool)(slot:Nat):Bool:=
 match H[slot]? with
 |some .free => !(fz.getD slot false)
 |_=>false
def BO(fz:List Bool)(id:Nat):Bool := !(fz.getD id false)
noncomputable def H6[Lk](H:List Ob)(b:Option Nat)(x:AV)(a hi:Option Int):(R:Type)->(AV->Option R)->Option R:=fun _ k=>
 match x with
 |.data (.slice e) xs=>match decide (b=some e.size)with
  |true=>match EX xs (a.getD 0) (hi.getD (A2 xs))with
   |none=>none
   |some ys=>k (.data (.slice e) ys)
  |false=>none
 |.nils e=>match b.isSome with
  |true=>match EX ([]:List Unit) (a.getD 0) (hi.getD 0)with
   |some _=>k (.nils e)
   |none=>none
  |false=>none
 |.own id=>match H[id]? with
  |some (.arr _ e xs)=>match decide (b=some e.size)with
   |true=>match EX xs (a.getD 0) (hi.getD (A2 xs))with
    |none=>none
    |some ys=>k (.win id (A4 (a.getD 0)) (A4 (A2 ys)))
   |false=>none
  |_=>none
 |.win id off n=>match H[id]? with
  |some (.arr _ e xs)=>match decide (b=some e.size)with
   |true=>match EX (Iq off n xs) (a.getD 0) (hi.getD (n:Int))with
    |none=>none
    |some ys=>k (.win id (off+A4 (a.getD 0)) (A4 (A2 ys)))
   |false=>none
  |_=>none
 |_=>none
def kO:AV->Option Int
 |.data (.int _) n=>some n
 |_=>none
def F6(ρ:Operand->AV):Option Operand->Option (Option Int)
 |none=>some none
 |some x=>(kO (ρ x)).map some
structure Env where
 spec:FuncId->Spec
 loc:FuncId->Bool
 Hi:FuncId->Bool
 keep:Bool:=false
 rows:Bool:=false
 arrs:Bool:=false
 pan:FuncId->Option NH:=fun _=>none
def Bq:List (Nat×Ob)->List Ob->List Ob
 |[],H=>H
 |(i,o)::rest,H=>Bq rest (H.set i o)
def BN:List Nat->List Bool->List Bool
 |[],F=>F
 |i::rest,F=>BN rest (F.set i true)
structure Hints where
 fp:Nat->List (List Nat):=fun _=>[]
 loop:Nat->fm:=fun _ _ _ _=>none
def slotsOf:Op->Nat
 |.alloc _=>1
 |.box ..=>1
 |.buildSlice ..=>1
 |.makeSlice ..=>1
 |.makeMap ..=>1
 |.slice _ _ _ _ (some _)=>1
 |.call { callee:=.builtin .append,.. }=>1
 |.call { callee:=.value _,.. }=>4
 |_=>0
def El(H:List Ob)(t:Ty):List (Nat×AV)->List t.den->List Nat->Option (List t.den×List Nat)
 |[],xs,fr=>some (xs,fr)
 |(i,v)::rest,xs,fr=>match GW H t v,decide (i<xs.length)with
  |some (x,f),true=>El H t rest (xs.set i x) (fr++f)
  |_,_=>none
def aU(P:Program)(T:TypeId):Bool:=
 match P.underlying T with
 |some (.slice e)=>match P.underlying e with
  |some (.int .u8)=>true
  |_=>false
 |_=>false
def ADa(P:Program)(T:TypeId):Bool:=
 match P.underlying T with
 |some .string=>true
 |_=>false
def AO0(P:Program)(T:TypeId):Option Ty:=
 match P.underlying T with
 |some (.int k)=>some (.int k)
 |_=>none
def AOZ(P:Program)(T:TypeId):AV:=
 match sliceAt P T with
 |some (_,t)=>.nils t
 |none=>.nils .unit
def PC(P:Program)(t:TypeId):Bool:=
 match P.underlying t with
 |some (.int _)=>true
 |some .bool=>true
 |_=>false
def E7(P:Program):List Field->Nat->Bool
 |[],_=>true
 | f :: fs, i => (f.name != "_") && (decide (f.offset = i) && (PC P f.type && E7 P fs (i + 1)))
def KZ(P:Program)(t:TypeId):Bool:=
 match P.underlying t with
 |some (.int _)=>true
 |_=>false
def structEq(P:Program)(T:TypeId):Option (List Bool):=
 match P.underlying T with
 |some (.struct fs)=>match !(P.eqGuardType P.depth T)&&(!(P.stoodInHeld T)&&E7 P fs.toList 0)with
  |true=>some (fs.toList.map fun f=>KZ P f.type)
  |false=>none
 |_=>none
def Sp(P:Program):List Field->Nat->Option (List Bool)
 |[],_=>some []
 | f :: fs, i => match (f.name != "_") && decide (f.offset = i) with
  |false=>none
  |true=>match PC P f.type with
   |true=>(Sp P fs (i+1)).map (KZ P f.type :: ·)
   |false=>match P.underlying f.type with
    |some (.struct gs)=>match !(P.stoodInHeld f.type)&&(E7 P gs.toList 0&&decide (CO P f.type=some gs.size))with
     |true=>(Sp P fs (i+gs.size)).map ((gs.toList.map fun g=>KZ P g.type) ++ ·)
     |false=>none
    |_=>none
def W5(P:Program)(T:TypeId):Option (List Bool):=
 match P.underlying T with
 |some (.struct fs)=>match !(P.eqGuardType P.depth T) && !(P.stoodInHeld T)with
  |true=>Sp P fs.toList 0
  |false=>none
 |_=>none
def ABY(P:Program)(T:TypeId):Option Nat:=
 match P.info? T with
 |some i=>match i.zero with
  |some z=>match z.cells.toList.all fun u=>u.oneCell' with
   |true=>some z.cells.size
   |false=>none
  |none=>none
 |none=>none
def kinds? : Ty->Option (List Bool)
 |.unit=>some []
 |.prod (.int _) r=>(kinds? r).map (true :: ·)
 |.prod .bool r=>(kinds? r).map (false :: ·)
 |_=>none
def T9(P:Program)(T:TypeId):Option Ty:=
 match P.underlying T with
 |some (.array n e)=>match decide (n=2),P.underlying e,decide (CO P e=some 1)with
  |true,some (.int k),true=>some (.prod (.int k) (.prod (.int k) .unit))
  |_,_,_=>none
 |_=>none
def dt(P:Program)(T:TypeId):Option Ty:=
 match AO0 P T with
 |some t=>some t
 |none=>match structEq P T,mP P T with
  |some n,some t=>match decide (kinds? t=some n)with
   |true=>some t
   |false=>none
  |_,_=>T9 P T
noncomputable def CB[Lk]:List Bool->List AV->List AV->Option Bool
 |[],[],[]=>some true
 |true::ks,.data (.int j) a::cs,.data (.int j') b::ds=>match decide (j=j'),CB ks cs ds with
  |true,some r=>some (ieq a b&&r)
  |_,_=>none
 |false::ks,.data .bool a::cs,.data .bool b::ds=>match CB ks cs ds with
  |some r=>some ((a==b)&&r)
  |none=>none
 |_,_,_=>none
def Zy:Value->AV
 |.slice none 0 0=>.nils .unit
 |_=>.DM
def AM8(P:Program)(T:TypeId):Option (List AV):=
 match P.info? T,P.underlying T with
 |some i,some (.struct fs)=>match i.zero with
  |some z=>match(z.cells.toList.all fun u=>u.oneCell')&&fs.toList.all fun f=>(P.info? f.type).isSome with
   |true=>some (z.cells.toList.map Zy)
   |false=>none
  |none=>none
 |_,_=>none
def AXU(E:Env)(t:Ty):Option (Nat×Ty):=
 match E.arrs,t with
 |true,.arr n e=>match decide (0<n)&&(Nat.ble n 4294967296&&decide (0<e.size))with
  |true=>some (n,e)
  |false=>none
 |_,_=>none
def ff(H:List Ob)(n:Nat)(v:AV):Option (Nat×Nat×Int):=
 match v with
 |.aptr id a=>match H[id]? with
  |some (.arr _ t xs)=>match decide (a=n)with
   |true=>some (id,t.size,A2 xs)
   |false=>none
  |_=>none
 |_=>none
def gAt:AV->Option (IntKind×List Int)
 |.glob g=>(ow.find? fun p=>p.1==g).map (·.2)
 |_=>none
def Sq(P:Program)(E:Env)(e:TypeId)(t:Ty)(n:Nat):Ob:=
 match E.rows,sliceAt P e with
 |true,some (e2,t2)=>.rows (.arr e) e2 t2 (Df n []) 0 none
 |_,_=>.arr e (t.made E.keep) (Df n (t.made E.keep).zero)
def Xx[Lk](P:Program)(E:Env)(R:Type)(c:Operand)(a:Operand)(b:Operand)(ty:TypeId)(ρ:Operand->AV)(H:List Ob)(fz:List Bool)(slot:Nat)(k:AV->Eff->Option R):Option R:=
 match ρ c with
  |.data .bool true=>k (ρ a) {}
  |.data .bool false=>k (ρ b) {}
  |_=>none
def Q8[Lk](P:Program)(E:Env)(R:Type)(T:TypeId)(ty:TypeId)(ρ:Operand->AV)(H:List Ob)(fz:List Bool)(slot:Nat)(k:AV->Eff->Option R):Option R:=
 match zeroAt P T with
  |some (t,cs)=>(match Bi H fz slot with
   |true=>(match AXU E t with
    |some (n,e)=>k (.aptr slot n) { objs:=[(slot,.arr T e (Df n e.zero))] }
    |none=>k (.ptr slot 0) { objs:=[(slot,.box cs)] })
   |false=>none)
  |none=>match ABY P T with
   |some n=>(match Bi H fz slot with|true=>k (.ptr slot 0) { objs:=[(slot,.box (List.replicate n .DM))] }|false=>none)
   |none=>none
def vm[Lk](P:Program)(E:Env)(R:Type)(T:TypeId)(x:Operand)(ty:TypeId)(ρ:Operand->AV)(H:List Ob)(fz:List Bool)(slot:Nat)(k:AV->Eff->Option R):Option R:=
 match CO P T with
  |some n=>match cells? (ρ x)with
   |some vs=>match decide (vs.length=n)with
    |true=>(match Bi H fz slot with|true=>k (.ptr slot 0) { objs:=[(slot,.box vs)] }|false=>none)
    |false=>none
   |none=>none
  |none=>none
def N7[Lk](P:Program)(E:Env)(R:Type)(T:TypeId)(parts:Array (Nat×Operand))(ty:TypeId)(ρ:Operand->AV)(H:List Ob)(fz:List Bool)(slot:Nat)(k:AV->Eff->Option R):Option R:=
 match zeroAt P T with
  |some (_,cs)=>match P.underlying T with
   |some (.struct fs)=>match F_ (fun i=>match fs[i]? with
     |some f=>(CO P f.type).map fun n=>(f.offset,n)
     |none=>none) (parts.toList.map fun p=>(p.1,ρ p.2)) cs with
    |some cs=>k (.agg cs) {}
    |none=>none
   |some (.array _ e)=>match CO P e with
    |some n=>match F_ (fun i=>some (i*n,n)) (parts.toList.map fun p=>(p.1,ρ p.2)) cs with
     |some cs=>k (.agg cs) {}
     |none=>none
    |none=>none
   |_=>none
  |none=>match AM8 P T,P.underlying T with
   |some cs,some (.struct fs)=>match F_ (fun i=>match fs[i]? with
     |some f=>(CO P f.type).map fun n=>(f.offset,n)
     |none=>none) (parts.toList.map fun p=>(p.1,ρ p.2)) cs with
    |some cs=>k (.agg cs) {}
    |none=>none
   |_,_=>none
def FW[Lk](P:Program)(E:Env)(R:Type)(T:TypeId)(len:Nat)(parts:Array (Nat×Operand))(ty:TypeId)(ρ:Operand->AV)(H:List Ob)(fz:List Bool)(slot:Nat)(k:AV->Eff->Option R):Option R:=
 match sliceAt P T with
  |some (e,t)=>match zeroAt P e with
   |some _=>match decide (len*t.size<=16777216)with
    |true=>match El H t (parts.toList.map fun p=>(p.1,ρ p.2)) (List.replicate len t.zero) []with
     |some (xs,fr)=>(match Bi H (BN fr fz) slot with|true=>k (.own slot) { objs:=[(slot,.arr e t xs)],frz:=fr }|false=>none)
     |none=>none
    |false=>none
   |none=>none
  |none=>match cellAt P T,decide (len=1),parts.toList.map (fun p=>(p.1,ρ p.2))with
   |some e,true,[p]=>match p.2 with
    |.eptr a i sub=>match decide (p.1=0)&&(decide (sub=0)&&Dy H a)with
     |true=>(match Bi H fz slot with|true=>k (.own slot) { objs:=[(slot,.prs e a [Int.ofNat i])] }|false=>none)
     |false=>none
    |_=>none
   |_,_,_=>none
def Lp[Lk](P:Program)(E:Env)(R:Type)(T:TypeId)(a:Operand)(ty:TypeId)(ρ:Operand->AV)(H:List Ob)(fz:List Bool)(slot:Nat)(k:AV->Eff->Option R):Option R:=
 match CO P T,Fq P T with
  |some n,some ag=>match ρ a with
   |.ptr id off=>match H[id]? with
    |some (.box cs)=>match loadCells ag n (cs.drop off)with
     |some v=>k v {}
     |none=>none
    |_=>none
   |.dptr cs=>match loadCells ag n cs with
    |some v=>k v {}
    |none=>none
   |.eptr id i sub=>match H[id]? with
    |some (.arr _ t xs)=>match loadCells ag n ((CN t (A9 xs i t.zero)).drop sub)with
     |some v=>k v {}
     |none=>none
    |some (.prs _ tgt is)=>match(n==1)&&((sub==0) && !ag)with
     |true=>k (.eptr tgt (A4 (A9 is i 0)) 0) {}
     |false=>none
    |some (.rows (.arr _) _ _ _ ver none)=>match(n==1)&&((sub==0) && !ag)with
     |true=>k (.rowp id i ver) {}
     |false=>none
    |_=>none
   |_=>none
  |_,_=>none
def IC[Lk](P:Program)(E:Env)(R:Type)(T:TypeId)(a:Operand)(x:Operand)(ty:TypeId)(ρ:Operand->AV)(H:List Ob)(fz:List Bool)(slot:Nat)(k:AV->Eff->Option R):Option R:=
 match CO P T,cells? (ρ x)with
  |some n,some vs=>match decide (vs.length=n)with
   |false=>none
   |true=>match ρ a with
    |.ptr id off=>match H[id]? with
     |some (.box cs)=>match Ey cs vs off with
      |some cs=>k .DM { objs:=[(id,.box cs)] }
      |none=>none
     |_=>none
    |.eptr id i sub=>match H[id]? with
     |some (.arr T' t xs)=>match t.nul? with
      |some e=>match(sub==0)&&(n==1)with
       |true=>match GW H (.slice e) (ρ x)with
        |some (y,fr)=>match BO (BN fr fz) id with
         |true=>k .DM { objs:=[(id,.arr T' (.slice e) (Bl (Df (List.length (α:=t.den) xs) []) i y))],frz:=fr }
         |false=>none
        |none=>none
       |false=>none
      |none=>match(sub==0)&&(n==t.size)with
       |true=>match GW H t (ρ x)with
        |some (y,fr)=>match BO (BN fr fz) id with
         |true=>k .DM { objs:=[(id,.arr T' t (Bl xs i y))],frz:=fr }
         |false=>none
        |none=>none
       |false=>match Ey (CN t (A9 xs i t.zero)) vs sub with
        |none=>none
        |some cs=>match BZ H t cs with
         |some (y,fr,[])=>match BO (BN fr fz) id with
          |true=>k .DM { objs:=[(id,.arr T' t (Bl xs i y))],frz:=fr }
          |false=>none
         |_=>none
     |some (.rows (.arr T') e t xs ver (some b))=>match ρ x,((sub==0)&&(n==1))&&BO fz id with
      |.rowp id' j ver',true=>match decide (id=id')&&decide (ver=ver')with
       |true=>match ieq (i:Int) (b:Int)&&ieq (j:Int) (b:Int)with
        |true=>k .DM { objs:=[(id,.rows (.arr T') e t xs ver none)] }
        |false=>none
       |false=>none
      |_,_=>none
     |_=>none
    |_=>none
  |_,_=>none
def Dv[Lk](P:Program)(E:Env)(R:Type)(x:Operand)(ty:TypeId)(ρ:Operand->AV)(H:List Ob)(fz:List Bool)(slot:Nat)(k:AV->Eff->Option R):Option R:=
 match ρ x with
  |.ptr id off=>match Gn H id with
   |true=>k (.ptr id off) {}
   |false=>none
  |.eptr id i s=>match Dy H id with
   |true=>k (.eptr id i s) {}
   |false=>none
  |.dptr cs=>k (.dptr cs) {}
  |.clo f cs=>k (.clo f cs) {}
  |.bnd f cs=>k (.bnd f cs) {}
  |_=>none
def Ds[Lk](P:Program)(E:Env)(R:Type)(op:BinOp)(T:TypeId)(x:Operand)(y:Operand)(ty:TypeId)(ρ:Operand->AV)(H:List Ob)(fz:List Bool)(slot:Nat)(k:AV->Eff->Option R):Option R:=
 match W5 P T with
  |some n=>match cells? (ρ x),cells? (ρ y),SH (ρ x)&&SH (ρ y)with
   |some cs,some ds,true=>match CB n cs ds,op with
    |some b,.eql=>k (.data .bool b) {}
    |some b,.neq=>k (.data .bool (!b)) {}
    |_,_=>none
   |_,_,_=>none
  |none=>match ρ x,ρ y with
   |.data (.int j) a,.data (.int j') b=>match op with
    |.shl=>match shl? j a b with
     |some n=>k (.data (.int j) n) {}
     |none=>none
    |.shr=>match shr? j a b with
     |some n=>k (.data (.int j) n) {}
     |none=>none
    |.quo=>match decide (j=j')with
     |true=>match quo? j a b with
      |some n=>k (.data (.int j) n) {}
      |none=>none
     |false=>none
    |.rem=>match decide (j=j')with
     |true=>match rem? a b with
      |some n=>k (.data (.int j) n) {}
      |none=>none
     |false=>none
    |op=>match decide (j=j'),ACx op j a b with
     |true,some v=>k v {}
     |_,_=>none
   |.data .bool a,.data .bool b=>match op,P.underlying T with
    |.eql,some .bool=>k (.data .bool (a==b)) {}
    |.neq,some .bool=>k (.data .bool (!(a==b))) {}
    |_,_=>none
   |.str a,.str b=>match op with
    |.eql=>k (.data .bool (seq? a b)) {}
    |.neq=>k (.data .bool (!(seq? a b))) {}
    |_=>none
   |.ifc a,.ifc none=>match op,P.underlying T,isConst y with
    |.eql,some (.interface _),true=>k (.data .bool a.isNone) {}
    |.neq,some (.interface _),true=>k (.data .bool (!a.isNone)) {}
    |_,_,_=>none
   |_,_=>none
def Xw[Lk](P:Program)(E:Env)(R:Type)(a:UnOp)(x:Operand)(ty:TypeId)(ρ:Operand->AV)(H:List Ob)(fz:List Bool)(slot:Nat)(k:AV->Eff->Option R):Option R:=
 match a,ρ x with
  |.not,.data .bool b=>k (.data .bool (!b)) {}
  |.neg,.data (.int j) n=>k (.data (.int j) (j.wrap (0-n))) {}
  |_,_=>none
def Hq[Lk](P:Program)(E:Env)(R:Type)(src:TypeId)(a:TypeId)(x:Operand)(ty:TypeId)(ρ:Operand->AV)(H:List Ob)(fz:List Bool)(slot:Nat)(k:AV->Eff->Option R):Option R:=
 match ρ x,(P.underlying src).isSome,Ns P a with
  |.data (.int _) n,true,some j=>k (.data (.int j) (j.wrap n)) {}
  |x,_,_=>match aU P src,ADa P a with
   |true,true=>match GW H (.slice (.int .u8)) x with
    |some (xs,_)=>k (.str (Kq xs)) {}
    |none=>none
   |_,_=>none
def Ft[Lk](P:Program)(E:Env)(R:Type)(T:TypeId)(x:Operand)(ty:TypeId)(ρ:Operand->AV)(H:List Ob)(fz:List Bool)(slot:Nat)(k:AV->Eff->Option R):Option R:=
 match P.underlying T,SH (ρ x),(cells? (ρ x)).bind vJ with
  |some (.struct _),true,some l=>k (.ifc (some (T,l))) {}
  |_,_,_=>none
def FV[Lk](P:Program)(E:Env)(R:Type)(x:Operand)(T:TypeId)(ok:Bool)(ty:TypeId)(ρ:Operand->AV)(H:List Ob)(fz:List Bool)(slot:Nat)(k:AV->Eff->Option R):Option R:=
 match P.underlying T,zeroAt P T,ρ x with
  |some (.struct _),some (t,cs),.ifc o=>match ok&&t.isAgg with
   |true=>match o with
    |none=>k (.tup [.agg cs,.data .bool false]) {}
    |some (T',l)=>match decide (T'=T)with
     |true=>k (.tup [.agg (l.map fun p=>.data (.int p.1) p.2),.data .bool true]) {}
     |false=>k (.tup [.agg cs,.data .bool false]) {}
   |false=>none
  |_,_,_=>none
def F8[Lk](P:Program)(E:Env)(R:Type)(f:FuncId)(first:Array Operand)(cs:Array Operand)(ty:TypeId)(ρ:Operand->AV)(H:List Ob)(fz:List Bool)(slot:Nat)(k:AV->Eff->Option R):Option R:=
 match first.toList with
  |[]=>k (.clo f (cs.toList.map ρ)) {}
  |x::xs=>match cs.toList with
   |[]=>k (.bnd f ((x::xs).map ρ)) {}
   |_::_=>none
def J5[Lk](P:Program)(E:Env)(R:Type)(T:TypeId)(ty:TypeId)(ρ:Operand->AV)(H:List Ob)(fz:List Bool)(slot:Nat)(k:AV->Eff->Option R):Option R:=
 match P.underlying T with
  |some (.map a b)=>match E.rows,Ns P a,sliceAt P b with
   |true,some j,some (e,t)=>(match Bi H fz slot with|true=>k (.mp slot) { objs:=[(slot,.rows (.map j []) e t [] 0 none)] }|false=>none)
   |_,_,_=>match dt P a,mP P b with
   |some a,some b=>(match Bi H fz slot with|true=>k (.mp slot) { objs:=[(slot,.map a b [])] }|false=>none)
   |_,_=>none
  |_=>none
def Ij[Lk](P:Program)(E:Env)(R:Type)(T:TypeId)(l:Operand)(c:Operand)(ty:TypeId)(ρ:Operand->AV)(H:List Ob)(fz:List Bool)(slot:Nat)(k:AV->Eff->Option R):Option R:=
 match sliceAt P T with
  |some (e,t)=>match zeroAt P e,ρ l,ρ c with
   |some _,.data (.int _) l,.data (.int _) c=>match CY l&&CY c&&ile l c&&decide (((P.info? e).map (·.bytes)).getD 65537<=65536)with
    |true=>(match Bi H fz slot with|true=>k (.own slot) { objs:=[(slot,Sq P E e t (A4 l))] }|false=>none)
    |false=>none
   |_,_,_=>none
  |none=>none
def Dr[Lk](P:Program)(E:Env)(R:Type)(T:TypeId)(x:Operand)(a:Option Operand)(hi:Option Operand)(b:Option Operand)(ty:TypeId)(ρ:Operand->AV)(H:List Ob)(fz:List Bool)(slot:Nat)(k:AV->Eff->Option R):Option R:=
 match P.underlying T with
  |some (.slice e)=>match b with
   |none=>match F6 ρ a,F6 ρ hi with
    |some a,some hi=>H6 H (CO P e) (ρ x) a hi R fun v=>k v {}
    |_,_=>none
   |some m=>match hi with
    |some (.tmp h)=>match F6 ρ a,kO (ρ (.tmp h)),kO (ρ m)with
     |some a,some n,some n'=>match ρ x with
      |.data (.slice t) xs=>match decide (CO P e=some t.size)with
       |true=>match ieq n n' with
        |true=>match EX xs (a.getD 0) n with
         |none=>none
         |some ys=>k (.clip t ys) {}
        |false=>none
       |false=>none
      |_=>none
     |_,_,_=>none
    |hi=>match F6 ρ a,F6 ρ hi,kO (ρ m),sliceAt P T with
     |some none,some (some 0),some 0,some (_,t)=>match Hj H (ρ x),CO P e with
      |true,some _=>(match Bi H fz slot with|true=>k (.own slot) { objs:=[(slot,.arr e t [])] }|false=>none)
      |_,_=>none
     |_,_,_,_=>none
  |some (.array n e)=>match b,F6 ρ a,F6 ρ hi,ρ x with
   |none,some a,some hi,.aptr id n'=>match H[id]? with
    |some (.arr _ t xs)=>match decide (n'=n)&&decide (CO P e=some t.size)with
     |true=>match EX xs (a.getD 0) (hi.getD (A2 xs))with
      |none=>none
      |some ys=>k (.win id (A4 (a.getD 0)) (A4 (A2 ys))) {}
     |false=>none
    |_=>none
   |_,_,_,_=>none
  |_=>none
def ED[Lk](P:Program)(E:Env)(R:Type)(T:TypeId)(x:Operand)(f:Nat)(ty:TypeId)(ρ:Operand->AV)(H:List Ob)(fz:List Bool)(slot:Nat)(k:AV->Eff->Option R):Option R:=
 match fieldAt P T f with
  |none=>none
  |some (off,size,_)=>match decide (size=0)with
   |true=>none
   |false=>match ρ x with
    |.ptr id o=>match Gn H id with
     |true=>k (.ptr id (o+off)) {}
     |false=>none
    |.eptr id i s=>match Dy H id with
     |true=>k (.eptr id i (s+off)) {}
     |false=>none
    |.dptr cs=>k (.dptr (cs.drop off)) {}
    |_=>none
def VI[Lk](P:Program)(E:Env)(R:Type)(T:TypeId)(x:Operand)(f:Nat)(ty:TypeId)(ρ:Operand->AV)(H:List Ob)(fz:List Bool)(slot:Nat)(k:AV->Eff->Option R):Option R:=
 match fieldAt P T f with
  |none=>none
  |some (off,size,ag)=>match cells? (ρ x),SH (ρ x)with
   |some vs,true=>match loadCells ag size (vs.drop off)with
    |some v=>k v {}
    |none=>none
   |_,_=>none
def CT[Lk](P:Program)(E:Env)(R:Type)(T:TypeId)(x:Operand)(i:Operand)(ty:TypeId)(ρ:Operand->AV)(H:List Ob)(fz:List Bool)(slot:Nat)(k:AV->Eff->Option R):Option R:=
 match P.underlying T,ρ i with
  |some (.slice e),.data (.int _) i=>match ρ x with
   |.data (.slice t) xs=>match decide (CO P e=some t.size)with
    |true=>match idx xs i with
     |some d=>k (.dptr (CN t d)) {}
     |none=>none
    |false=>none
   |.own id=>match H[id]? with
    |some (.arr _ t xs)=>match decide (CO P e=some t.size)with
     |true=>match idx xs i with
      |some _=>k (.eptr id (A4 i) 0) {}
      |none=>none
     |false=>none
    |some (.prs _ _ is)=>match decide (CO P e=some 1)with
     |true=>match idx is i with
      |some _=>k (.eptr id (A4 i) 0) {}
      |none=>none
     |false=>none
    |some (.rows (.arr _) _ _ xs _ _)=>match decide (CO P e=some 1)with
     |true=>match idx xs i with
      |some _=>k (.eptr id (A4 i) 0) {}
      |none=>none
     |false=>none
    |_=>none
   |.win id off n=>match H[id]? with
    |some (.arr _ t xs)=>match decide (CO P e=some t.size)with
     |true=>match idx (Iq off n xs) i with
      |some _=>k (.eptr id (off+A4 i) 0) {}
      |none=>none
     |false=>none
    |_=>none
   |_=>none
  |some (.array n e),.data (.int _) i=>match ff H n (ρ x)with
   |some (id,s,len)=>match decide (CO P e=some s)with
    |true=>match ile 0 i&&(ilt i (n:Int)&&ilt i len)with
     |true=>k (.eptr id (A4 i) 0) {}
     |false=>none
    |false=>none
   |none=>match gAt (ρ x)with
   |some (kk,ns)=>match decide (CO P e=some 1)with
    |true=>match ile 0 i&&(ilt i (n:Int)&&ilt i (A2 ns))with
     |true=>k (.dptr [.data (.int kk) (A9 ns (A4 i) 0)]) {}
     |false=>none
    |false=>none
   |none=>match CO P e,decide (0<=i/\i<(n:Int))with
   |some s,true=>match ρ x with
    |.ptr id o=>match Gn H id with
     |true=>k (.ptr id (o+i.toNat*s)) {}
     |false=>none
    |.eptr id j o=>match Dy H id with
     |true=>k (.eptr id j (o+i.toNat*s)) {}
     |false=>none
    |.dptr cs=>k (.dptr (cs.drop (i.toNat*s))) {}
    |_=>none
   |_,_=>none
  |_,_=>none
def N6[Lk](P:Program)(E:Env)(R:Type)(T:TypeId)(x:Operand)(i:Operand)(ty:TypeId)(ρ:Operand->AV)(H:List Ob)(fz:List Bool)(slot:Nat)(k:AV->Eff->Option R):Option R:=
 match fJ x with
  |some s=>match P.underlying T,ρ i with
   |some .string,.data (.int _) i=>match idx (bytesOf s) i with
    |some b=>k (.data (.int .u8) b) {}
    |none=>none
   |_,_=>none
  |none=>match E.arrs with
   |true=>match elemAt P T,P.underlying T,ρ i with
    |some (1,false),some (.array n e),.data (.int _) i=>match cells? (ρ x),SH (ρ x),Ns P e with
     |some vs,true,some kk=>match Sy kk vs with
      |some a=>match decide (a.length=n)with
       |true=>match idx a i with
        |none=>none
        |some d=>k (.data (.int kk) d) {}
       |false=>none
      |none=>none
     |_,_,_=>none
    |_,_,_=>none
   |false=>match elemAt P T,P.underlying T,ρ i with
   |some (size,ag),some (.array n _),.data (.int _) i=>match decide (0<=i/\i<(n:Int))with
    |true=>match cells? (ρ x),SH (ρ x)with
     |some vs,true=>match loadCells ag size (vs.drop (i.toNat*size))with
      |some v=>k v {}
      |none=>none
     |_,_=>none
    |false=>none
   |_,_,_=>none
def E6[Lk](P:Program)(E:Env)(R:Type)(T:TypeId)(m:Operand)(x:Operand)(ok:Bool)(ty:TypeId)(ρ:Operand->AV)(H:List Ob)(fz:List Bool)(slot:Nat)(k:AV->Eff->Option R):Option R:=
 match P.underlying T,ρ m with
  |some (.map kt vt),.mp id=>match H[id]? with
   |some (.map a b es)=>match decide (dt P kt=some a),zeroAt P vt with
    |true,some (b',_)=>match decide (b'=b),GW H a (ρ x)with
     |true,some (key,_)=>match ok with
      |true=>k (.tup [.data b ((A_ (α:=a.den) es key).getD b.zero),.data .bool (A_ (α:=a.den) es key).isSome]) {}
      |false=>k (.data b ((A_ (α:=a.den) es key).getD b.zero)) {}
     |_,_=>none
    |_,_=>none
   |some (.rows (.map j ks) e _ _ ver none)=>match decide (Ns P kt=some j),sliceAt P vt,(zeroAt P vt).isSome && !ok with
    |true,some (e',_),true=>match decide (e'=e),GW H (.int j) (ρ x)with
     |true,some (key,_)=>k (.rowp id (GU ks key) ver) {}
     |_,_=>none
    |_,_,_=>none
   |_=>none
  |some (.map kt vt),.data (.mapi j b) es=>match decide (Ns P kt=some j),zeroAt P vt with
   |true,some (b',_)=>match decide (b'=b) && !b.isAgg,GW H (.int j) (ρ x)with
    |true,some (key,_)=>match ok with
     |true=>k (.tup [.data b ((A_ (α:=Int) es key).getD b.zero),.data .bool (A_ (α:=Int) es key).isSome]) {}
     |false=>k (.data b ((A_ (α:=Int) es key).getD b.zero)) {}
    |_,_=>none
   |_,_=>none
  |_,_=>none
def GL[Lk](P:Program)(E:Env)(R:Type)(T:TypeId)(m:Operand)(x:Operand)(v:Operand)(ty:TypeId)(ρ:Operand->AV)(H:List Ob)(fz:List Bool)(slot:Nat)(k:AV->Eff->Option R):Option R:=
 match P.underlying T,ρ m with
  |some (.map kt _),.mp id=>match H[id]? with
   |some (.map a b es)=>match decide (dt P kt=some a),GW H a (ρ x),GW H b (ρ v)with
    |true,some (key,_),some (val,fr)=>k .DM { objs:=[(id,.map a b (BH (α:=a.den) es key val))],frz:=fr }
    |_,_,_=>none
   |some (.rows (.map j d) e t xs ver (some c))=>match decide (Ns P kt=some j)&&BO fz id,GW H (.int j) (ρ x),ρ v with
    |true,some (key,_),.rowp id' i ver'=>match decide (id=id')&&decide (ver=ver')with
     |true=>match ieq (i:Int) (c:Int)&&ieq (GU d key:Int) (c:Int)with
      |true=>k .DM { objs:=[(id,.rows (.map j (Oo d c key)) e t xs ver none)] }
      |false=>none
     |false=>none
    |_,_,_=>none
   |_=>none
  |_,_=>none
def Px[Lk](P:Program)(E:Env)(R:Type)(T:TypeId)(m:Operand)(x:Operand)(v:Operand)(ty:TypeId)(ρ:Operand->AV)(H:List Ob)(fz:List Bool)(slot:Nat)(k:AV->Eff->Option R):Option R:=
 match P.underlying T,ρ m with
  |some (.map kt _),.mp id=>match H[id]? with
   |some (.map a b es)=>match decide (dt P kt=some a),GW H a (ρ x),GW H b (ρ v)with
    |true,some (key,_),some (val,fr)=>k .DM { objs:=[(id,.map a b (BH (α:=a.den) es key val))],frz:=fr }
    |_,_,_=>none
   |_=>none
  |_,_=>none
def Hp[Lk](P:Program)(E:Env)(R:Type)(T:TypeId)(m:Operand)(x:Operand)(ty:TypeId)(ρ:Operand->AV)(H:List Ob)(fz:List Bool)(slot:Nat)(k:AV->Eff->Option R):Option R:=
 match P.underlying T,ρ m with
  |some (.map kt vt),.mp id=>match H[id]? with
   |some (.map a b es)=>match decide (dt P kt=some a),zeroAt P vt,GW H a (ρ x)with
    |true,some (b',_),some (key,_)=>match decide (b'=b)with
     |true=>k (.tup [.data b ((A_ (α:=a.den) es key).getD b.zero),.data (.int .i64) (Om (α:=a.den) es key)]) { objs:=[(id,.map a b (BH (α:=a.den) es key ((A_ (α:=a.den) es key).getD b.zero)))] }
     |false=>none
    |_,_,_=>none
   |_=>none
  |_,_=>none
def Gx[Lk](P:Program)(E:Env)(R:Type)(m:Operand)(s:Operand)(v:Operand)(ty:TypeId)(ρ:Operand->AV)(H:List Ob)(fz:List Bool)(slot:Nat)(k:AV->Eff->Option R):Option R:=
 match ρ m,ρ s with
  |.mp id,.data (.int .i64) i=>match H[id]? with
   |some (.map a b es)=>match GW H b (ρ v)with
    |some (val,fr)=>match(ile (0:Int) i&&ilt i (A2 es))with
     |true=>k .DM { objs:=[(id,.map a b (ZU es i val))],frz:=fr }
     |false=>none
    |none=>none
   |_=>none
  |_,_=>none
def Mt[Lk](P:Program)(E:Env)(R:Type)(x:Operand)(i:Nat)(ty:TypeId)(ρ:Operand->AV)(H:List Ob)(fz:List Bool)(slot:Nat)(k:AV->Eff->Option R):Option R:=
 match ρ x with
  |.tup vs=>match vs[i]? with
   |some v=>k v {}
   |none=>none
  |_=>none
def Pw[Lk](P:Program)(E:Env)(R:Type)(args:Array Operand)(a:Array TypeId)(ty:TypeId)(ρ:Operand->AV)(H:List Ob)(fz:List Bool)(slot:Nat)(k:AV->Eff->Option R):Option R:=
 match args.toList,a.toList with
  |[x],[T]=>match P.underlying T with
   |some (.slice _)=>match ρ x with
    |.data (.slice _) xs=>k (.data (.int .i64) (A2 xs)) {}
    |.nils _=>k (.data (.int .i64) (0:Int)) {}
    |.own id=>match H[id]? with
     |some (.arr _ _ xs)=>k (.data (.int .i64) (A2 xs)) {}
     |some (.prs _ _ is)=>k (.data (.int .i64) (A2 is)) {}
     |_=>none
    |.win id _ n=>match Dy H id with
     |true=>k (.data (.int .i64) (n:Int)) {}
     |false=>none
    |_=>none
   |some (.map _ _)=>match ρ x with
    |.mp id=>match H[id]? with
     |some (.map _ _ es)=>k (.data (.int .i64) (A2 es)) {}
     |_=>none
    |_=>none
   |_=>none
  |_,_=>none
def D7[Lk](P:Program)(E:Env)(R:Type)(args:Array Operand)(a:Array TypeId)(ty:TypeId)(ρ:Operand->AV)(H:List Ob)(fz:List Bool)(slot:Nat)(k:AV->Eff->Option R):Option R:=
 match args.toList,a.toList with
  |[s,x],[T,T']=>match sliceAt P T,decide (T=T')with
   |some (e,t),true=>match GW H (.slice t) (ρ x),zeroAt P e,(P.info? e).map (fun i=>decide (i.bytes<=1024))with
    |some (ys,_),some _,some true=>match ρ s with
     |.nils _=>match fits (A2 ys)with
      |true=>(match Bi H fz slot with|true=>k (.own slot) { objs:=[(slot,.arr e t ys)] }|false=>none)
      |false=>none
     |.clip _ xs=>match(Oh xs:Option (List t.den)),ys.isEmpty with
      |some xs,false=>match fits (A2 xs+A2 ys)with
       |true=>(match Bi H fz slot with|true=>k (.own slot) { objs:=[(slot,.arr e t (B2 xs ys))] }|false=>none)
       |false=>none
      |_,_=>none
     |.own id=>match H[id]? with
      |some (.arr e' _ xs)=>match BO fz id&&decide (e=e')with
       |true=>match(Oh xs:Option (List t.den))with
        |some xs=>match fits (A2 xs+A2 ys)with
         |true=>match E.keep with
          |true=>k (.data (.slice t) (B2 xs ys)) { frz:=[id] }
          |false=>(match Bi H fz slot with|true=>k (.own slot) { objs:=[(id,.dead),(slot,.arr e t (B2 xs ys))] }|false=>none)
         |false=>none
        |none=>none
       |false=>none
      |_=>none
     |.rowp id i ver=>match H[id]? with
      |some (.rows K e' t' xs ver' none)=>match BO fz id&&(decide (e=e')&&decide (ver=ver'))with
       |true=>match(Oh (t:=.slice t') xs:Option (List (Ty.slice t).den))with
        |some xs=>match fits (A2 (A9 xs i [])+A2 ys)with
         |true=>k (.rowp id i (ver+1)) { objs:=[(id,.rows K e t (K.put xs i (B2 (A9 xs i []) ys)) (ver+1) (some i))] }
         |false=>none
        |none=>none
       |false=>none
      |_=>none
     |.win id 0 n=>match H[id]? with
      |some (.arr e' _ xs)=>match BO fz id&&decide (e=e')with
       |true=>match(Oh xs:Option (List t.den))with
        |some xs=>match fits ((n:Int)+A2 ys)with
         |true=>(match Bi H fz slot with|true=>k (.own slot) { objs:=[(id,.dead),(slot,.arr e t (B2 (C5 n xs) ys))] }|false=>none)
         |false=>none
        |none=>none
       |false=>none
      |_=>none
     |_=>none
    |_,_,_=>none
   |some (e,t),false=>match ρ s,ρ x,zeroAt P e,Ns P T',(P.info? e).map (fun i=>decide (i.bytes<=1024))with
    |.nils _,.data (.int _) n,some _,some _,some true=>match CY n with
     |true=>(match Bi H fz slot with|true=>k (.own slot) { objs:=[(slot,.arr e t (Df (A4 n) t.zero))] }|false=>none)
     |false=>none
    |_,_,_,_,_=>none
   |none,true=>match cellAt P T,ρ x with
    |some e,.own ix=>match H[ix]? with
     |some (.prs e1 tgt ys)=>match decide (e1=e)with
      |true=>match ρ s with
       |.nils _=>match fits (A2 ys)with
        |true=>(match Bi H fz slot with|true=>k (.own slot) { objs:=[(slot,.prs e tgt ys)] }|false=>none)
        |false=>none
       |.own id=>match H[id]? with
        |some (.prs e2 tgt2 xs)=>match decide (e2=e)&&decide (tgt2=tgt)with
         |true=>match fits (A2 xs+A2 ys)with
          |true=>(match Bi H fz slot with|true=>k (.own slot) { objs:=[(id,.dead),(slot,.prs e tgt (B2 xs ys))] }|false=>none)
          |false=>none
         |false=>none
        |_=>none
       |_=>none
      |false=>none
     |_=>none
    |_,_=>none
   |_,_=>none
  |_,_=>none
def AE0[Lk](P:Program)(E:Env)(R:Type)(args:Array Operand)(a:Array TypeId)(ty:TypeId)(ρ:Operand->AV)(H:List Ob)(fz:List Bool)(slot:Nat)(k:AV->Eff->Option R):Option R:=
 match args.toList,a.toList with
  |[x],[T]=>match P.underlying T,ρ x with
   |some (.slice _),.nils _=>k (.data (.int .i64) (0:Int)) {}
   |_,_=>none
  |_,_=>none
def AEy[Lk](P:Program)(E:Env)(R:Type)(args:Array Operand)(ty:TypeId)(ρ:Operand->AV)(H:List Ob)(fz:List Bool)(slot:Nat)(k:AV->Eff->Option R):Option R:=
 match args.toList with
  |[x,y]=>match ρ x,ρ y with
   |.data (.int j) a,.data (.int _) b=>k (.data (.int j) (C8 a b)) {}
   |_,_=>none
  |_=>none
def AEz[Lk](P:Program)(E:Env)(R:Type)(args:Array Operand)(ty:TypeId)(ρ:Operand->AV)(H:List Ob)(fz:List Bool)(slot:Nat)(k:AV->Eff->Option R):Option R:=
 match args.toList with
  |[x,y]=>match ρ x,ρ y with
   |.data (.int j) a,.data (.int _) b=>k (.data (.int j) (imax a b)) {}
   |_,_=>none
  |_=>none
def JP[Lk](P:Program)(E:Env)(R:Type)(args:Array Operand)(a:Array TypeId)(ty:TypeId)(ρ:Operand->AV)(H:List Ob)(fz:List Bool)(slot:Nat)(k:AV->Eff->Option R):Option R:=
 match args.toList,a.toList with
  |[x],[T]=>match sliceAt P T with
   |some (e,t)=>match zeroAt P e with
    |some _=>match ρ x with
     |.nils _=>k .DM {}
     |.own id=>match H[id]? with
      |some (.arr e' t' xs)=>match BO fz id&&decide (t=t')with
       |true=>k .DM { objs:=[(id,.arr e' t' (Cu 0 xs.length t'.zero xs))] }
       |false=>none
      |_=>none
     |.win id off n=>match H[id]? with
      |some (.arr e' t' xs)=>match BO fz id&&decide (t=t')with
       |true=>k .DM { objs:=[(id,.arr e' t' (Cu off n t'.zero xs))] }
       |false=>none
      |_=>none
     |_=>none
    |none=>none
   |none=>none
  |_,_=>none
def Lq[Lk](P:Program)(E:Env)(R:Type)(f:Operand)(args:Array Operand)(ty:TypeId)(ρ:Operand->AV)(H:List Ob)(fz:List Bool)(slot:Nat)(k:AV->Eff->Option R):Option R:=
 match ρ f with
  |.clo g a=>E.spec g R (args.toList.map ρ++a) H fz slot k
  |.bnd g b=>E.spec g R (b++args.toList.map ρ) H fz slot k
  |_=>none
def evalOp[Lk](P:Program)(E:Env)(R:Type)(o:Op)(ty:TypeId)(ρ:Operand->AV)(H:List Ob)(fz:List Bool)(slot:Nat)(k:AV->Eff->Option R):Option R:=
 match o with
 |.move x|.assign x=>match ρ x with
  |.nils .unit=>k (AOZ P ty) {}
  |v=>k v {}
 |.pick c a b=>Xx P E R c a b ty ρ H fz slot k
 |.alloc T=>Q8 P E R T ty ρ H fz slot k
 |.box T x=>vm P E R T x ty ρ H fz slot k
 |.build T parts=>N7 P E R T parts ty ρ H fz slot k
 |.buildSlice T len parts=>FW P E R T len parts ty ρ H fz slot k
 |.load T a=>Lp P E R T a ty ρ H fz slot k
 |.store T a x=>IC P E R T a x ty ρ H fz slot k
 |.nilCheck x=>Dv P E R x ty ρ H fz slot k
 |.binOp d T x y _=>Ds P E R d T x y ty ρ H fz slot k
 |.unOp d _ x=>Xw P E R d x ty ρ H fz slot k
 |.convert src e x=>Hq P E R src e x ty ρ H fz slot k
 |.makeInterface T x=>Ft P E R T x ty ρ H fz slot k
 |.typeAssert x _ T ok=>FV P E R x T ok ty ρ H fz slot k
 |.makeFunc (.func f) first cs=>F8 P E R f first cs ty ρ H fz slot k
 |.makeMap T none=>J5 P E R T ty ρ H fz slot k
 |.makeSlice T l c=>Ij P E R T l c ty ρ H fz slot k
 |.slice T x g hi h=>Dr P E R T x g hi h ty ρ H fz slot k
 |.fieldAddr T x f=>ED P E R T x f ty ρ H fz slot k
 |.field T x f=>VI P E R T x f ty ρ H fz slot k
 |.indexAddr T x i=>CT P E R T x i ty ρ H fz slot k
 |.index T x i=>N6 P E R T x i ty ρ H fz slot k
 |.lookup T m x ok=>E6 P E R T m x ok ty ρ H fz slot k
 |.mapUpdate T m x v=>GL P E R T m x v ty ρ H fz slot k
 |.insert T m x v=>Px P E R T m x v ty ρ H fz slot k
 |.mapEntry T m x=>Hp P E R T m x ty ρ H fz slot k
 |.entryStore _ m s v=>Gx P E R m s v ty ρ H fz slot k
 |.extract x i=>Mt P E R x i ty ρ H fz slot k
 |.call { callee:=.builtin .len,args,argTypes }=>Pw P E R args argTypes ty ρ H fz slot k
 |.call { callee:=.builtin .append,args,argTypes }=>D7 P E R args argTypes ty ρ H fz slot k
 |.call { callee:=.builtin .cap,args,argTypes }=>AE0 P E R args argTypes ty ρ H fz slot k
 |.call { callee:=.builtin .min,args,.. }=>AEy P E R args ty ρ H fz slot k
 |.call { callee:=.builtin .max,args,.. }=>AEz P E R args ty ρ H fz slot k
 |.call { callee:=.builtin .clear,args,argTypes }=>JP P E R args argTypes ty ρ H fz slot k
 |.call { callee:=.value f,args,.. }=>Lq P E R f args ty ρ H fz slot k
 |_=>none
def St.put(s:St)(d:Option Tmp)(v:AV):St:=
 match d with
 |some d=>{ s with tmps:=s.tmps.set d v }
 |none=>s
def C6(e:Eff)(H:List Ob):List Ob:=Bq e.objs (match e.heap with
 |none=>H
 |some p=>p.1)
def FY(e:Eff)(fz:List Bool):List Bool:=BN e.frz (match e.heap with
 |none=>fz
 |some p=>p.2)
def St.app(s:St)(e:Eff):St:={ s with heap:=C6 e s.heap,frz:=FY e s.frz }
def CW:AV:=.tup []
def guarded(R:Type)(all:List Oper)(g:Option (Nat×Bool))(st:St)(a c:St->Option R):Option R:=
 match g with
 |none=>a st
 |some (j,want)=>match(all[j]?).bind (·.dst)with
  |none=>none
  |some d=>match st.tmps.f d with
   |.data .bool b=>match b with
    |true=>match want with
     |true=>a { st with tmps:=st.tmps.set d (.data .bool true) }
     |false=>c { st with tmps:=st.tmps.set d (.data .bool true) }
    |false=>match want with
     |true=>c { st with tmps:=st.tmps.set d (.data .bool false) }
     |false=>a { st with tmps:=st.tmps.set d (.data .bool false) }
   |.tup []=>c st
   |_=>none
def Gf[Lk](P:Program)(E:Env)(R:Type)(all:List Oper):List Oper->Nat->St->(St->Option R)->Option R
 |[],_,st,k=>k st
 |o::rest,slot,st,k=>
  guarded R all o.guard st
   (fun st=>evalOp P E R o.op o.type (Bc st.tmps) st.heap st.frz slot fun v e=>Gf P E R all rest (slot+slotsOf o.op) ((st.app e).put o.dst v) k)
   (fun st=>Gf P E R all rest (slot+slotsOf o.op) (st.put o.dst CW) k)
def DE(ops:List Oper):Nat:=(ops.map fun o=>slotsOf o.op).foldr (· + ·) 0
def St.pad(s:St)(n:Nat):St:={ s with heap:=s.heap++List.replicate n .free,frz:=s.frz++List.replicate n false }
def Hc[Lk](P:Program)(E:Env)(R:Type)(ops:List Oper)(st:St)(k:St->Option R):Option R:=
 nf st.heap.length fun n=>Gf P E R ops ops n (st.pad (DE ops)) k
mutual
def BV:AV->List Nat
 |.agg cs=>B1 cs
 |.own id=>[id]
 |.win id _ _=>[id]
 |.ptr id _=>[id]
 |.eptr id _ _=>[id]
 |.dptr cs=>B1 cs
 |.clo _ cs=>B1 cs
 |.bnd _ cs=>B1 cs
 |.mp id=>[id]
 |.rowp id _ _=>[id]
 |.aptr id _=>[id]
 |.tup vs=>B1 vs
 |_=>[]
def B1:List AV->List Nat
 |[]=>[]
 |v::vs=>BV v++B1 vs
end
def I1(ρ:Operand->AV)(o:Op):List Nat:=o.operands.toList.flatMap fun x=>BV (ρ x)
def Oc(ρ:Operand->AV)(o:Op):List Nat:=
 match o with
 |.move _=>[]
 |.assign _=>[]
 |.pick _ _ _=>[]
 |.extract _ _=>[]
 |.build _ _=>[]
 |.makeFunc _ _ _=>[]
 |.store T a x=>match ρ a with
  |.ptr id _=>[id]
  |_=>I1 ρ (.store T a x)
 |o=>I1 ρ o
def writer:Op->Bool
 |.store ..=>true
 |.mapUpdate ..=>true
 |.insert ..=>true
 |.mapEntry ..=>true
 |.entryStore ..=>true
 |.call { callee:=.builtin .append,.. }=>true
 |.call { callee:=.builtin .clear,.. }=>true
 |_=>false
def Gm(E:Env)(ρ:Operand->AV):Op->Bool
 |.call { callee:=.value f,.. }=>match ρ f with
  |.clo g _=>E.loc g
  |.bnd g _=>E.loc g
  |_=>false
 |_=>true
def rd(φ:List Nat)(i:Nat):Bool:=φ.contains (2*i)||φ.contains (2*i+1)
def wt(φ:List Nat)(i:Nat):Bool:=φ.contains (2*i+1)
def Eu(ρ:Operand->AV)(o:Op):List Nat:=
 match o with
 |.store _ a _=>BV (ρ a)
 |.mapUpdate _ m _ _=>BV (ρ m)
 |.insert _ m _ _=>BV (ρ m)
 |.mapEntry _ m _=>BV (ρ m)
 |.entryStore _ m _ _=>BV (ρ m)
 |.call { callee:=.builtin .append,args,.. }=>match args.toList with
  |s::_=>BV (ρ s)
  |[]=>[]
 |.call { callee:=.builtin .clear,args,.. }=>match args.toList with
  |s::_=>BV (ρ s)
  |[]=>[]
 |_=>[]
def within(l φ:List Nat):Bool:=l.all (rd φ)
def QQ(l φ:List Nat):Bool:=l.all (wt φ)
def AVM(φ:List Nat):Bool:=φ.contains 1000008
def SD(a:Bool)(φ:List Nat)(slot n:Nat)(e:Eff):Bool:=
 e.heap.isNone&&(e.objs.all fun p=>(decide (slot<=p.1)&&decide (p.1<slot+n))||(a&&wt φ p.1))&&(within e.frz φ&&(!(AVM φ)||e.frz.isEmpty))
def Cr:Op->Bool
 |.move _=>true
 |.assign _=>true
 |.pick _ _ _=>true
 |.binOp _ _ _ _ _=>true
 |.unOp _ _ _=>true
 |.extract _ _=>true
 |_=>false
def NY(φ:List Nat):Bool:=φ.contains 1000003
def Dw:Op->Bool
 |.load _ _=>true
 |.convert _ _ _=>true
 |.fieldAddr _ _ _=>true
 |.field _ _ _=>true
 |.indexAddr _ _ _=>true
 |.index _ _ _=>true
 |.nilCheck _=>true
 |.lookup _ _ _ _=>true
 |.slice _ _ _ _ none=>true
 |.build _ _=>true
 |.makeFunc (.func _) _ _=>true
 |.call { callee:=.builtin .len,.. }=>true
 |o=>Cr o
def Ol(φ:List Nat):Bool:=φ.contains 1000005
def XZ(E:Env)(ρ:Operand->AV):Op->Bool
 |.call { callee:=.value f,.. }=>match ρ f with
  |.clo g _=>E.Hi g
  |.bnd g _=>E.Hi g
  |_=>false
 |_=>false
def RC(φ:List Nat)(H:List Ob):Bool:=φ.all fun c=>match H[c/2]? with
 |some (.box cs)=>(B1 cs).all (rd φ)
 |_=>true
def Ow(E:Env)(ρ:Operand->AV)(o:Op)(φ:List Nat)(H:List Ob):Bool:=
 (I1 ρ o).all (rd φ)&&RC φ H&&XZ E ρ o
def Tl[Lk](P:Program)(E:Env)(R:Type)(all:List Oper)(o:Oper)(φ:List Nat)(slot:Nat)(st:St)(k:St->Option R):Option R:=
 guarded R all o.guard st
  (fun st=>match NY φ||((Ol φ&&Ow E (Bc st.tmps) o.op φ st.heap)||(!(Ol φ)&&(within (Oc (Bc st.tmps) o.op) φ&&QQ (Eu (Bc st.tmps) o.op) φ&&Gm E (Bc st.tmps) o.op)))with
   |true=>evalOp P E R o.op o.type (Bc st.tmps) st.heap st.frz slot fun v e=>match NY φ||SD (writer o.op||Ol φ) φ slot (slotsOf o.op) e with
    |true=>k ((st.app e).put o.dst v)
    |false=>none
   |false=>none)
  (fun st=>k (st.put o.dst CW))
def LD[Lk](P:Program)(E:Env)(R:Type)(all:List Oper):List Oper->List (List Nat)->Nat->St->(St->Option R)->Option R
 |[],_,_,st,k=>k st
 |o::rest,fp,slot,st,k=>Tl P E R all o (fp.headD []) slot st fun st=>LD P E R all rest fp.tail (slot+slotsOf o.op) st k
def apart?(ops:List Oper)(x y:Oper):Bool:=Oper.apart ops.toArray x y
def Z9:Op->Op->Bool
 |.lookup _ _ _ ok,.mapEntry _ _ _ => !ok
 |_,_=>false
def LY(φx φy:List Nat):Bool := !(Ol φy)||(AVM φx||φy.all fun c=>decide (c % 2=1) || !(rd φx (c/2)))
def indep(all:List Oper)(x y:Oper)(φx φy:List Nat)(a b:Nat):Bool:=
 apart? all x y&&((NY φx&&Cr y.op)||(NY φy&&Cr x.op)||(!(NY φx) && !(NY φy)&&(φy.all fun c => !(decide (a<=c/2)&&decide (c/2<a+slotsOf x.op)))&&(φx.all fun c => !(decide (b<=c/2)&&decide (c/2<b+slotsOf y.op))) &&
  (φx.all fun c=>decide (c % 2=0) || !(rd φy (c/2)))&&(φy.all fun c=>decide (c % 2=0) || !(rd φx (c/2)))&&(LY φx φy&&LY φy φx))||(!(Ol φx)&&(!(Ol φy)&&Z9 x.op y.op)))
def oo(y:Oper)(i:Nat):Bool:=y.after.toList.any fun e=>Region.binds .any e&&decide (e.on=i)
def reach(all:List Oper):Nat->Oper->Nat->Bool
 |0,_,_=>false
 |n+1,y,i=>oo y i||y.after.toList.any fun e=>Region.binds .any e&&match all[e.on]? with
  |some z=>reach all n z i
  |none=>false
def Z6(all:List Oper)(y:Oper)(φy:List Nat)(a:Nat):List (Nat×Oper×List Nat×Nat)->Bool
 |[]=>true
 |(i,x,φx,sx)::r=>(oo y i||(indep all x y φx φy sx a||reach all 8 y i))&&Z6 all y φy a r
def dS(all:List Oper):List Oper->List (List Nat)->Nat->Nat->List (Nat×Oper×List Nat×Nat)->Bool
 |[],_,_,_,_=>true
 |o::rest,fp,i,slot,acc=>Z6 all o (fp.headD []) slot acc&&(o.after.toList.all fun e => !Region.binds .any e||decide (e.on<i)) &&
  dS all rest fp.tail (i+1) (slot+slotsOf o.op) ((i,o,fp.headD [],slot)::acc)
def Fz[Lk](P:Program)(E:Env)(R:Type)(fp:List (List Nat))(ops:List Oper)(st:St)(k:St->Option R):Option R:=
 nf st.heap.length fun n=>match P.follows .mixedOrders&&dS ops ops fp 0 n []with
 |true=>LD P E R ops ops fp n (st.pad (DE ops)) k
 |false=>none
def Yn(E:Env)(ops:List Oper):Bool:=ops.any fun o=>match o.op with
 |.panic _=>true
 |.call { callee:=.value (.func f),.. }=>(E.pan f).isSome
 |_=>false
def Ym(E:Env)(ρ:Operand->AV)(o:Oper):Option (PV⊕(NH×List AV)):=
 match o.guard with
 |some _=>none
 |none=>match o.op with
  |.panic x=>match ρ x with
   |.ifc (some p)=>some (.inl p)
   |_=>none
  |.call { callee:=.value (.func f),args,.. }=>match E.pan f with
   |some s=>some (.inr (s,args.toList.map ρ))
   |none=>none
  |_=>none
def HH:List Oper->St->St
 |[],st=>st
 |o::r,st=>HH r (st.put o.dst .DM)
def jk(a:Bool)(all:List Oper)(st:St):St:=match a with
 |true=>HH all st
 |false=>st
def ANE(E:Env)(o:Oper)(φ:List Nat)(st:St):Bool:=
 NY φ||((Ol φ&&Ow E (Bc st.tmps) o.op φ st.heap)||(!(Ol φ)&&(within (Oc (Bc st.tmps) o.op) φ&&QQ (Eu (Bc st.tmps) o.op) φ&&Gm E (Bc st.tmps) o.op)))
def Cz[Lk](P:Program)(E:Env)(R:Type)(a:Bool)(all:List Oper):List Oper->List (List Nat)->Nat->St->(Exit->St->Option R)->Option R
 |[],_,_,st,k=>k .normal st
 |o::rest,fp,slot,st,k=>match Ym E (Bc st.tmps) o with
  |none=>match a with
   |true=>Tl P E R all o (fp.headD []) slot st fun st=>Cz P E R a all rest fp.tail (slot+slotsOf o.op) st k
   |false=>guarded R all o.guard st
    (fun st=>evalOp P E R o.op o.type (Bc st.tmps) st.heap st.frz slot fun v e=>Cz P E R a all rest fp.tail (slot+slotsOf o.op) ((st.app e).put o.dst v) k)
    (fun st=>Cz P E R a all rest fp.tail (slot+slotsOf o.op) (st.put o.dst CW) k)
  |some (.inl p)=>k (.panic [DC p]) (jk a all st)
  |some (.inr (s,args))=>s R args st.heap st.frz slot
   (fun v e=>match !a||(ANE E o (fp.headD []) st&&(NY (fp.headD [])||SD (writer o.op||Ol (fp.headD [])) (fp.headD []) slot (slotsOf o.op) e))with
    |true=>Cz P E R a all rest fp.tail (slot+slotsOf o.op) ((st.app e).put o.dst v) k
    |false=>none)
   (fun p e=>k (.panic [DC p]) (jk a all (st.app e)))
def AET(E:Env)(all:List Oper)(i:Nat)(o:Oper):Bool:=
 match Yn E [o]with
 |false=>true
 |true=>(List.range all.length).all fun j=>match all[j]? with
  |none=>true
  |some x=>match decide (j<i)with
   |true=>reach all 8 o j||Dw x.op
   |false=>decide (j=i)||(reach all 8 x i||(x.guard.isNone&&(match x.op with
    |.move _=>true
    |_=>false)))
def KV[Lk](P:Program)(E:Env)(R:Type)(fp:List (List Nat))(a:Bool)(ops:List Oper)(st:St)(k:Exit->St->Option R):Option R:=
 nf st.heap.length fun n=>match !a||(P.follows .mixedOrders&&(dS ops ops fp 0 n []&&((List.range ops.length).all fun i=>match ops[i]? with
  |some o=>AET E ops i o
  |none=>true)))with
 |true=>Cz P E R a ops ops fp n (st.pad (DE ops)) k
 |false=>none
def loops:Code->Nat
 |.seq a b=>loops a+loops b
 |.cond _ a b=>loops a+loops b
 |.block _ c=>loops c
 |.scope c=>loops c
 |.loop c=>loops c+1
 |_=>0
noncomputable def SX(a:Tm)(c:Operand)(b:Bool):Tm:=
 match c with
 |.tmp t=>a.set t (.data .bool b)
 |_=>a
def Bb[Lk](P:Program)(E:Env)(h:Hints)(R:Type):Code->Nat->St->(Exit->St->Option R)->Option R
 |.skip,_,st,k=>k .normal st
 |.region id ops draw,_,st,k=>match Yn E ops.toList with
  |true=>KV P E R (h.fp id) draw ops.toList st k
  |false=>match draw with
   |false=>Hc P E R ops.toList st (k .normal)
   |true=>Fz P E R (h.fp id) ops.toList st (k .normal)
 |.seq a b,n,st,k=>Bb P E h R a n st fun e st=>match e with
  |.normal=>Bb P E h R b (n+loops a) st k
  |e=>k e st
 |.cond c a b,n,st,k=>match Bc st.tmps c with
  |.data .bool x=>match x with
   |true=>Bb P E h R a n { st with tmps:=SX st.tmps c true } k
   |false=>Bb P E h R b (n+loops a) { st with tmps:=SX st.tmps c false } k
  |_=>none
 |.block id c,n,st,k=>Bb P E h R c n st fun e st=>match e with
  |.exit d=>match decide (d=id)with
   |true=>k .normal st
   |false=>k (.exit d) st
  |e=>k e st
 |.loop _,n,st,k=>h.loop n R st k
 |.scope c,n,st,k=>Bb P E h R c n st fun e st=>match e with
  |.goto _=>none
  |e=>k e st
 |.label _,_,st,k=>k .normal st
 |.exit id,_,st,k=>k (.exit id) st
 |.ret,_,st,k=>k .ret st
 |_,_,_,_=>none
def T2(P:Program)(st:St):ResultVar->Option AV
 |.tmp t=>some (st.tmps.f t)
 |.cell t T=>match Bc st.tmps (.tmp t),CO P T,Fq P T with
  |.ptr id off,some n,some ag=>match st.heap[id]? with
   |some (.box cs)=>loadCells ag n (cs.drop off)
   |_=>none
  |_,_,_=>none
def Ef(P:Program)(st:St):List ResultVar->Option (List AV)
 |[]=>some []
 |r::rs=>match T2 P st r with
  |none=>none
  |some v=>match Ef P st rs with
   |none=>none
   |some vs=>some (v::vs)
inductive Loc where
 |tmp (t:Nat)
 |cell (j c:Nat)
 |cap (t i:Nat)
 |obj (j:Nat)
inductive Con where
 |dat (t:Ty)
 |own (T:TypeId) (e:Ty)
 |box (n:Nat)
 |map (k v:Ty)
 |own' (j:Nat)
 |ptr' (j off:Nat)
 |map' (j:Nat)
 |win' (j:Nat)
 |sub' (j:Nat)
 |clo (f:FuncId) (ps:List (Nat×Nat))
 |bnd (f:FuncId) (j:Nat)
 |prs (T:TypeId) (j:Nat)
 |nil (e:Ty)
 |rows (T e:TypeId) (t:Ty)
 |mrows (j:IntKind) (e:TypeId) (t:Ty)
 |aptr (T:TypeId) (e:Ty) (n:Nat)
 |aptr' (j n:Nat)
 |bndp (f:FuncId) (j:Nat)
 |nilp
abbrev Con.di:Con:=.dat (.int .i64)
abbrev A1:=List (Loc×Con)
def leaves:A1->List Ty
 |[]=>[]
 |(_,.dat t)::r=>t::leaves r
 |(_,.own _ e)::r=>.slice e::leaves r
 |(_,.map k v)::r=>.slice (.prod k v)::leaves r
 |(_,.win' _)::r=>.int .i64::leaves r
 |(_,.prs _ _)::r=>.slice (.int .i64)::leaves r
 |(_,.sub' _)::r=>.int .i64 :: .int .i64::leaves r
 |(_,.rows _ _ t)::r=>.slice (.slice t)::leaves r
 |(_,.mrows j _ t)::r=>.mapi j (.slice t)::leaves r
 |(_,.aptr _ e _)::r=>.slice e::leaves r
 |(_,_)::r=>leaves r
inductive Bnd where
 |none
 |whole (id:Nat)
 |cut (id:Nat)
 deriving DecidableEq
def Bnd.id? : Bnd->Option Nat
 |.none=>Option.none
 |.whole id=>some id
 |.cut id=>some id
def AXC(H:List Ob)(j:Nat):Option AV:=
 match H[j]? with
 |some (.arr _ _ _)=>some (.own j)
 |some (.box _)=>some (.ptr j 0)
 |some (.map _ _ _)=>some (.mp j)
 |some (.prs _ _ _)=>some (.own j)
 |some (.rows (.arr _) _ _ _ _ _)=>some (.own j)
 |some (.rows (.map _ _) _ _ _ _ _)=>some (.mp j)
 |_=>none
def look(a:Nat->Option AV)(H:List Ob)(b:List Bnd):Loc->Option AV
 |.tmp t=>a t
 |.cell j c=>match b[j]? with
  |some (.whole id)=>match H[id]? with
   |some (.box cs)=>cs[c]?
   |_=>none
  |_=>none
 |.cap t i=>match a t with
  |some (.clo _ cs)=>cs[i]?
  |some (.bnd _ cs)=>cs[i]?
  |_=>none
 |.obj j=>AXC H j
def AKJ(a:List Bnd):List AV->List (Nat×Nat)->Bool
 |[],[]=>true
 |.ptr id o::vs,(j,o')::ps=>(match a[j]? with
  |some (.whole id')=>decide (id=id')&&decide (o=o')
  |_=>false)&&AKJ a vs ps
 |_,_=>false
def fresh?(a:List Bnd)(id:Nat):Bool:=a.all fun b=>match b with
 |.none=>true
 |.whole i => !(decide (i=id))
 |.cut i => !(decide (i=id))
abbrev Aao(α:Type):=Option (α×List Bnd×List Nat)
def dec(a:Nat->Option AV)(H:List Ob):(its:A1)->List Bool->List Bnd->Aao (Bd (leaves its))
 |[],_,bs=>some ((),bs,[])
 |(l,.dat t)::r,fz,bs=>match look a H bs l with
  |some v=>match fe H t v with
   |some (x,f)=>match f.all (fresh? bs)with
    |true=>match dec a H r (BN f fz) bs with
     |some (xs,bs',g)=>some ((x,xs),bs',f++g)
     |none=>none
    |false=>none
   |none=>none
  |none=>none
 |(l,.own T e)::r,fz,bs=>match look a H bs l with
  |some (.nils _)=>match decide (0<e.size)with
   |true=>match dec a H r fz (bs++[.none])with
    |some (xs,bs',g)=>some (([],xs),bs',g)
    |none=>none
   |false=>none
  |some (.own id)=>match H[id]?,BO fz id&&fresh? bs id with
   |some (.arr T' e' ys),true=>match decide (T=T'),(Oh ys:Option (List e.den))with
    |true,some ys=>match dec a H r fz (bs++[.whole id])with
     |some (xs,bs',g)=>some ((ys,xs),bs',g)
     |none=>none
    |_,_=>none
   |_,_=>none
  |some (.win id 0 n)=>match H[id]?,BO fz id&&fresh? bs id with
   |some (.arr T' e' ys),true=>match decide (T=T'),(Oh ys:Option (List e.den))with
    |true,some ys=>match dec a H r fz (bs++[.cut id])with
     |some (xs,bs',g)=>some ((C5 n ys,xs),bs',g)
     |none=>none
    |_,_=>none
   |_,_=>none
  |_=>none
 |(l,.box n)::r,fz,bs=>match look a H bs l with
  |some (.ptr id 0)=>match H[id]?,fresh? bs id with
   |some (.box cs),true=>match decide (cs.length=n)with
    |true=>dec a H r fz (bs++[.whole id])
    |false=>none
   |_,_=>none
  |_=>none
 |(l,.map k v)::r,fz,bs=>match look a H bs l with
  |some (.mp id)=>match H[id]?,fresh? bs id with
   |some (.map k' v' b),true=>match(Oh (t:=.prod k' v') b:Option (List (Ty.prod k v).den))with
    |some b=>match dec a H r fz (bs++[.whole id])with
     |some (xs,bs',g)=>some ((b,xs),bs',g)
     |none=>none
    |_=>none
   |_,_=>none
  |_=>none
 |(l,.own' j)::r,fz,bs=>match look a H bs l,bs[j]? with
  |some (.own id),some (.whole id')=>match decide (id=id')with
   |true=>dec a H r fz bs
   |false=>none
  |_,_=>none
 |(l,.ptr' j off)::r,fz,bs=>match look a H bs l,bs[j]? with
  |some (.ptr id o),some (.whole id')=>match decide (id=id')&&decide (o=off)with
   |true=>dec a H r fz bs
   |false=>none
  |_,_=>none
 |(l,.map' j)::r,fz,bs=>match look a H bs l,bs[j]? with
  |some (.mp id),some (.whole id')=>match decide (id=id')with
   |true=>dec a H r fz bs
   |false=>none
  |_,_=>none
 |(l,.win' j)::r,fz,bs=>match look a H bs l,bs[j]? with
  |some (.win id 0 n),some (.whole id')=>match decide (id=id')with
   |true=>match dec a H r fz bs with
    |some (xs,bs',g)=>some (((n:Int),xs),bs',g)
    |none=>none
   |false=>none
  |some (.own id),some (.whole id')=>match decide (id=id'),H[id]? with
   |true,some (.arr _ _ ys)=>match dec a H r fz bs with
    |some (xs,bs',g)=>some ((A2 ys,xs),bs',g)
    |none=>none
   |_,_=>none
  |_,_=>none
 |(l,.sub' j)::r,fz,bs=>match look a H bs l,bs[j]? with
  |some (.win id off n),some (.whole id')=>match decide (id=id')with
   |true=>match dec a H r fz bs with
    |some (xs,bs',g)=>some (((off:Int),(n:Int),xs),bs',g)
    |none=>none
   |false=>none
  |_,_=>none
 |(l,.clo f ps)::r,fz,bs=>match look a H bs l with
  |some (.clo f' vs)=>match decide (f=f')&&AKJ bs vs ps with
   |true=>dec a H r fz bs
   |false=>none
  |_=>none
 |(l,.bnd f j)::r,fz,bs=>match look a H bs l,bs[j]? with
  |some (.bnd f' [.own id]),some (.whole id')=>match decide (f=f')&&decide (id=id')with
   |true=>dec a H r fz bs
   |false=>none
  |_,_=>none
 |(l,.prs T j)::r,fz,bs=>match look a H bs l with
  |some (.nils _)=>match dec a H r fz (bs++[.none])with
   |some (xs,bs',g)=>some ((([]:List Int),xs),bs',g)
   |none=>none
  |some (.own id)=>match H[id]?,fresh? bs id,bs[j]? with
   |some (.prs T' tgt is),true,some (.whole tgt')=>match decide (T=T')&&decide (tgt=tgt')with
    |true=>match dec a H r fz (bs++[.whole id])with
     |some (xs,bs',g)=>some ((is,xs),bs',g)
     |none=>none
    |false=>none
   |_,_,_=>none
  |_=>none
 |(l,.nil _)::r,fz,bs=>match look a H bs l with
  |some (.nils _)=>dec a H r fz bs
  |_=>none
 |(l,.rows T e t)::r,fz,bs=>match look a H bs l with
  |some (.own id)=>match H[id]?,BO fz id&&fresh? bs id with
   |some (.rows (.arr T') e' t' ys _ none),true=>match decide (T=T')&&decide (e=e'),(Oh (t:=.slice t') ys:Option (List (Ty.slice t).den))with
    |true,some ys=>match dec a H r fz (bs++[.whole id])with
     |some (xs,bs',g)=>some ((ys,xs),bs',g)
     |none=>none
    |_,_=>none
   |_,_=>none
  |_=>none
 |(l,.mrows j e t)::r,fz,bs=>match look a H bs l with
  |some (.mp id)=>match H[id]?,BO fz id&&fresh? bs id with
   |some (.rows (.map j' ks) e' t' ys _ none),true=>match decide (j=j')&&decide (e=e'),(Oh (t:=.slice t') ys:Option (List (Ty.slice t).den))with
    |true,some ys=>match dec a H r fz (bs++[.whole id])with
     |some (xs,bs',g)=>some ((List.zip (β:=List t.den) ks ys,xs),bs',g)
     |none=>none
    |_,_=>none
   |_,_=>none
  |_=>none
 |(l,.aptr T e n)::r,fz,bs=>match look a H bs l with
  |some (.aptr id n')=>match H[id]?,BO fz id&&fresh? bs id with
   |some (.arr T' e' ys),true=>match decide (T=T')&&decide (n=n'),(Oh ys:Option (List e.den))with
    |true,some ys=>match dec a H r fz (bs++[.whole id])with
     |some (xs,bs',g)=>some ((ys,xs),bs',g)
     |none=>none
    |_,_=>none
   |_,_=>none
  |_=>none
 |(l,.bndp f j)::r,fz,bs=>match look a H bs l,bs[j]? with
  |some (.bnd f' [.ptr id 0]),some (.whole id')=>match decide (f=f')&&decide (id=id')with
   |true=>dec a H r fz bs
   |false=>none
  |_,_=>none
 |(l,.nilp)::r,fz,bs=>match look a H bs l with
  |some .nilp=>dec a H r fz bs
  |_=>none
 |(l,.aptr' j n)::r,fz,bs=>match look a H bs l,bs[j]? with
  |some (.aptr id n'),some (.whole id')=>match decide (id=id')&&decide (n=n')with
   |true=>dec a H r fz bs
   |false=>none
  |_,_=>none
def place(st:St)(v:AV):Loc->St
 |.tmp t=>{ st with tmps:=st.tmps.set t v }
 |.cell j c=>match st.heap[j]? with
  |some (.box cs)=>{ st with heap:=st.heap.set j (.box (cs.set c v)) }
  |_=>st
 |_=>st
def E_(st:St)(o:Ob):St:={ st with heap:=st.heap++[o],frz:=st.frz++[false] }
def enc:(its:A1)->Bd (leaves its)->St->St
 |[],_,st=>st
 |(l,.dat t)::r,d,st=>enc r d.2 (place st (.data t d.1) l)
 |(l,.own T e)::r,d,st=>enc r d.2 (place (E_ st (.arr T e d.1)) (.own st.heap.length) l)
 |(l,.box n)::r,d,st=>enc r d (place (E_ st (.box (List.replicate n .DM))) (.ptr st.heap.length 0) l)
 |(l,.map k v)::r,d,st=>enc r d.2 (place (E_ st (.map k v d.1)) (.mp st.heap.length) l)
 |(l,.own' j)::r,d,st=>enc r d (place st (.own j) l)
 |(l,.ptr' j off)::r,d,st=>enc r d (place st (.ptr j off) l)
 |(l,.map' j)::r,d,st=>enc r d (place st (.mp j) l)
 |(l,.win' j)::r,d,st=>enc r d.2 (place st (.win j 0 (A4 d.1)) l)
 |(l,.sub' j)::r,d,st=>enc r d.2.2 (place st (.win j (A4 d.1) (A4 d.2.1)) l)
 |(l,.clo f ps)::r,d,st=>enc r d (place st (.clo f (ps.map fun p=>.ptr p.1 p.2)) l)
 |(l,.bnd f j)::r,d,st=>enc r d (place st (.bnd f [.own j]) l)
 |(l,.prs T j)::r,d,st=>enc r d.2 (place (E_ st (.prs T j d.1)) (.own st.heap.length) l)
 |(l,.nil e)::r,d,st=>enc r d (place st (.nils e) l)
 |(l,.rows T e t)::r,d,st=>enc r d.2 (place (E_ st (.rows (.arr T) e t d.1 0 none)) (.own st.heap.length) l)
 |(l,.mrows j e t)::r,d,st=>enc r d.2 (place (E_ st (.rows (.map j (List.map (α:=Int×List t.den) Prod.fst d.1)) e t (List.map (α:=Int×List t.den) Prod.snd d.1) 0 none)) (.mp st.heap.length) l)
 |(l,.aptr T e n)::r,d,st=>enc r d.2 (place (E_ st (.arr T e d.1)) (.aptr st.heap.length n) l)
 |(l,.aptr' j n)::r,d,st=>enc r d (place st (.aptr j n) l)
 |(l,.bndp f j)::r,d,st=>enc r d (place st (.bnd f [.ptr j 0]) l)
 |(l,.nilp)::r,d,st=>enc r d (place st .nilp l)
def blank(n:Nat):St:={ tmps:=⟨n,fun _=>.DM⟩,heap:=[],frz:=[] }
def encode(n:Nat)(its:A1)(d:Bd (leaves its)):St:=enc its d (blank n)
def pins:Nat->Nat->List Bnd->Bool
 |0,_,_=>true
 |n+1,i,b::bs=>decide (b = .whole i)&&pins n (i+1) bs
 |_+1,_,[]=>false
def decode(np a:Nat)(st:St)(its:A1):Option (Bd (leaves its)):=
 match decide (st.tmps.n=a)with
 |true=>match dec st.tmps.at st.heap its st.frz []with
  |some (v,bs,_)=>match pins np 0 bs&&(st.heap.take np).all CK with
   |true=>some v
   |false=>none
  |none=>none
 |false=>none
abbrev BJ:=List (Exit×A1)
@[reducible] def QK:BJ->Type
 |[]=>Unit
 |o::r=>Bd (leaves o.2)⊕QK r
def cN:Exit->Exit->Bool
 |.normal,.normal=>true
 |.ret,.ret=>true
 |.exit a,.exit b=>decide (a=b)
 |_,_=>false
def Yo(np a:Nat)(e:Exit)(st:St):(os:BJ)->Option (QK os)
 |[]=>none
 |o::r=>match cN e o.1 with
  |true=>match decode np a st o.2 with
   |some d=>some (.inl d)
   |none=>none
  |false=>match Yo np a e st r with
   |some x=>some (.inr x)
   |none=>none
def eM(n:Nat){R:Type}(k:Exit->St->Option R):(os:BJ)->QK os->Option R
 |[],_=>none
 |o::r,x=>match x with
  |.inl d=>k o.1 (encode n o.2 d)
  |.inr x=>eM n k r x
def BK{σ ρ:Type}(step:σ->Option (σ⊕ρ)):Nat->σ->Option ρ
 |0,_=>none
 |n+1,v=>match step v with
  |none=>none
  |some (.inl v')=>BK step n v'
  |some (.inr r)=>some r
def many:Nat:=18446744073709551616
def A'[Lk]{σ ρ:Type}(step:σ->Option (σ⊕ρ))(n:Nat)(v:σ):Option ρ:=Lk.f (BK step n v)
theorem Bo{σ ρ:Type}(step:σ->Option (σ⊕ρ))(n:Nat)(v:σ):A' step n v=BK step n v:=A0 _
def sg(np a:Nat)(its:A1)(os:BJ)(e:Exit)(st:St):Option (Bd (leaves its)⊕QK os):=
 match e with
 |.normal=>match decode np a st its with
  |some d=>some (.inl d)
  |none=>none
 |e=>match Yo np a e st os with
  |some x=>some (.inr x)
  |none=>none
def Gl[Lk](np a:Nat)(its:A1)(os:BJ)(step:Bd (leaves its)->Option (Bd (leaves its)⊕QK os)):fm:=fun R st k=>
 match decode np a st its with
 |none=>none
 |some v=>match A' step many v with
  |none=>none
  |some r=>eM a k os r
def roundOf[Lk](P:Program)(E:Env)(h:Hints)(n np b:Nat)(a:Code)(its:A1)(os:BJ)(v:Bd (leaves its)):Option (Bd (leaves its)⊕QK os):=
 Bb P E h _ a n (encode b its v) (sg np b its os)
inductive RS where
 |one
 |agg (n:Nat)
def Gu:List RS->List AV->Option (List AV)
 |[],[]=>some []
 |.one::r,v::vs=>match Gu r vs with
  |some l=>some (v::l)
  |none=>none
 |.agg n::r,v::vs=>match SH v,cells? v with
  |true,some cs=>match decide (cs.length=n)with
   |true=>match Gu r vs with
    |some l=>some (cs++l)
    |none=>none
   |false=>none
  |_,_=>none
 |_,_=>none
def FG:List RS->List AV->List AV
 |[],_=>[]
 |.one::r,vs=>vs.headD .DM::FG r vs.tail
 |.agg n::r,vs=>.agg (vs.take n)::FG r (vs.drop n)
def RS.cells:RS->Nat
 |.one=>1
 |.agg n=>n
def cellsOf:List RS->Nat
 |[]=>0
 |r::rs=>r.cells+cellsOf rs
def Db:A1->Nat
 |[]=>0
 |(_,.own _ _)::r=>Db r+1
 |(_,.box _)::r=>Db r+1
 |(_,.map _ _)::r=>Db r+1
 |(_,.prs _ _)::r=>Db r+1
 |(_,.rows _ _ _)::r=>Db r+1
 |(_,.mrows _ _ _)::r=>Db r+1
 |(_,.aptr _ _ _)::r=>Db r+1
 |_::r=>Db r
def Fe:A1->Bool
 |[]=>true
 |(_,.rows _ _ _)::_=>false
 |(_,.mrows _ _ _)::_=>false
 |_::r=>Fe r
def finish(np:Nat)(P:Program)(fn:Func)(outs:A1)(rs:List RS)(st:St):Option (Bd (leaves outs)):=
 match Ef P st fn.results.toList with
 |some vs=>match Gu rs vs with
  |some a=>match dec (lk a) st.heap outs st.frz []with
   |some (y,bs,_)=>match pins np 0 bs&&(st.heap.take np).all CK with
    |true=>some y
    |false=>none
   |none=>none
  |none=>none
 |none=>none
def Cq[Lk](np:Nat)(P:Program)(E:Env)(h:Hints)(fn:Func)(its outs:A1)(rs:List RS)(x:Bd (leaves its)):Option (Bd (leaves outs)):=
 match fn.body with
 |none=>none
 |some c=>Bb P E h _ c 0 (encode fn.ntmps its x) fun e st=>
  match e with
  |.normal=>finish np P fn outs rs st
  |.ret=>finish np P fn outs rs st
  |_=>none
def given:List Bnd->List Nat
 |[]=>[]
 |.whole id::bs=>id::given bs
 |_::bs=>given bs
def DQ:Nat->List Bnd->Nat->List Nat
 |0,_,_=>[]
 |n+1,.whole id::bs,slot=>id::DQ n bs slot
 |n+1,_::bs,slot=>slot::DQ n bs (slot+1)
 |n+1,[],slot=>slot::DQ n [] (slot+1)
mutual
def Ew(ids:List Nat):AV->AV
 |.agg cs=>.agg (K1 ids cs)
 |.own id=>.own (ids.getD id 0)
 |.win id off n=>.win (ids.getD id 0) off n
 |.ptr id off=>.ptr (ids.getD id 0) off
 |.eptr id i s=>.eptr (ids.getD id 0) i s
 |.dptr cs=>.dptr (K1 ids cs)
 |.clo f cs=>.clo f (K1 ids cs)
 |.bnd f cs=>.bnd f (K1 ids cs)
 |.mp id=>.mp (ids.getD id 0)
 |.tup vs=>.tup (K1 ids vs)
 |.rowp _ _ _=>.DM
 |.aptr id n=>.aptr (ids.getD id 0) n
 |v=>v
def K1(ids:List Nat):List AV->List AV
 |[]=>[]
 |v::vs=>Ew ids v::K1 ids vs
end
def Eo(ids:List Nat):Ob->Ob
 |.box cs=>.box (K1 ids cs)
 |.prs T a b=>.prs T (ids.getD a 0) b
 |o=>o
mutual
def Ln:AV->Bool
 |.data t _=>t.flat
 |.agg cs=>LR cs
 |.dptr _=>false
 |.clip _ _=>false
 |.clo _ cs=>LR cs
 |.bnd _ cs=>LR cs
 |.tup vs=>LR vs
 |_=>true
def LR:List AV->Bool
 |[]=>true
 |v::vs=>Ln v&&LR vs
end
def Pv:Ob->Bool
 |.box cs=>LR cs
 |.arr _ t _=>t.flat
 |.map k v _=>k.flat&&v.flat
 |_=>true
def Gq(H:List Ob)(fz:List Bool):List Nat->List Bnd->Bool
 |[],_=>true
 |i::ids,bs=>(match bs with
  |.whole id::_=>decide (i=id)
  |_=>Bi H fz i)&&Gq H fz ids bs.tail
def Fc:List Nat->Bool
 |[]=>true
 |i::ids => !(ids.contains i)&&Fc ids
def single:List AV->AV
 |[v]=>v
 |vs=>.tup vs
def Bnd.rm:Bnd->Bool
 |.cut _=>false
 |_=>true
def Hz(R:Type)(a:List Nat)(b:List Bnd)(c:List Nat)(rs:List RS)(E:St)(ids:List Nat)(H:List Ob)(fz:List Bool)(k:AV->Eff->Option R):Option R:=
 match LR E.tmps.list&&E.heap.all Pv with
 |true=>match Gq H fz ids b&&Fc ids with
  |true=>k (single (FG rs (K1 ids E.tmps.list))) { objs:=a.map (fun i=>(i,.dead))++ids.zip (E.heap.map (Eo ids)) }
  |false=>none
 |false=>match Gq H (BN c fz) ids b&&Fc ids with
  |true=>k (single (FG rs (K1 ids E.tmps.list))) { objs:=a.map (fun i=>(i,.dead))++ids.zip (E.heap.map (Eo ids)),frz:=c }
  |false=>none
def BT(np a:Nat)(its outs:A1)(rs:List RS)(f:Bd (leaves its)->Option (Bd (leaves outs))):Spec:=fun R args H fz slot k=>
 match dec (lk args) H its fz []with
 |none=>none
 |some (x,bs,fr)=>match bs.all Bnd.rm&&decide (bs.length=Db its)&&decide (args.length=a)&&(Fe its&&Fe outs)with
  |false=>none
  |true=>match f x with
   |none=>none
   |some y=>Hz R (given (bs.drop np)) (bs.take np) fr rs (encode (cellsOf rs) outs y) (DQ (Db outs) (bs.take np) slot) H fz k
def J4(np:Nat)(P:Program)(fn:Func)(rs:List RS)(st:St):(os:BJ)->Option (QK os)
 |[]=>none
 |o::r=>match finish np P fn o.2 rs st with
  |some d=>some (.inl d)
  |none=>match J4 np P fn rs st r with
   |some x=>some (.inr x)
   |none=>none
def zu[Lk](np:Nat)(P:Program)(E:Env)(h:Hints)(fn:Func)(its:A1)(os:BJ)(rs:List RS)(x:Bd (leaves its)):Option (QK os):=
 match fn.body with
 |none=>none
 |some c=>Bb P E h _ c 0 (encode fn.ntmps its x) fun e st=>
  match e with
  |.normal=>J4 np P fn rs st os
  |.ret=>J4 np P fn rs st os
  |_=>none
def IG(R:Type)(np:Nat)(a:List Bnd)(b:List Nat)(rs:List RS)(slot:Nat)(H:List Ob)(fz:List Bool)(k:AV->Eff->Option R):(os:BJ)->QK os->Option R
 |[],_=>none
 |o::r,x=>match x with
  |.inl y=>match Fe o.2 with
   |true=>Hz R (given (a.drop np)) (a.take np) b rs (encode (cellsOf rs) o.2 y) (DQ (Db o.2) (a.take np) slot) H fz k
   |false=>none
  |.inr x=>IG R np a b rs slot H fz k r x
def uu(np a:Nat)(its:A1)(os:BJ)(rs:List RS)(f:Bd (leaves its)->Option (QK os)):Spec:=fun R args H fz slot k=>
 match dec (lk args) H its fz []with
 |none=>none
 |some (x,bs,fr)=>match bs.all Bnd.rm&&decide (bs.length=Db its)&&decide (args.length=a)&&Fe its with
  |false=>none
  |true=>match f x with
   |none=>none
   |some y=>IG R np bs fr rs slot H fz k os y
def CJ[Lk](P:Program)(E:Env)(h:Hints)(fn:Func):Spec:=fun R args H fz _ k=>
 match fn.body with
 |none=>none
 |some c=>match decide (args.length<=fn.ntmps)with
  |false=>none
  |true=>Bb P E h R c 0 { tmps:=.of args fn.ntmps,heap:=H,frz:=fz } fun e st=>
   match e with
   |.normal=>match Ef P st fn.results.toList with
    |some vs=>k (single vs) { heap:=some (st.heap,st.frz) }
    |none=>none
   |.ret=>match Ef P st fn.results.toList with
    |some vs=>k (single vs) { heap:=some (st.heap,st.frz) }
    |none=>none
   |_=>none
open Go.RowKit
def rows{α:Type}(R:α->List Value->Prop):List α->List Value->Prop
 |[],cs=>cs=[]
 |x::xs,cs=>∃ a c2,cs=a++c2/\R x a/\rows R xs c2
def ea{α β:Type}(K:α->Value->Prop)(V:β->Value->Prop):List (α×β)->List MapEntry->Prop
 |[],ms=>ms=[]
 |e::es,ms=>∃ b a,ms=b::a/\K e.1 b.key/\V e.2 b.val/\ea K V es a
def Dat(w:World)(F:Nat->Prop):(t:Ty)->t.den->List Value->Prop
 |.unit,_,cs=>cs=[]
 |.bool,b,cs=>cs=[.bool b]
 |.int k,n,cs=>cs=[.int k n]
 |.slice e,xs,cs=>∃ a cap,cs=[.slice a (List.length (α:=e.den) xs) cap]/\List.length (α:=e.den) xs<=cap/\(xs≠[]->∃ ad f,a=some ad/\F ad.block/\rows (Dat w F e) xs f /\
   ∀ j u,f[j]? = some u->w.cell? (ad.add j)=some u)
 |.prod a b,d,cs=>∃ g c2,cs=g++c2/\Dat w F a d.1 g/\Dat w F b d.2 c2
 |.arr n e,xs,cs=>List.length (α:=e.den) xs=n/\rows (Dat w F e) xs cs
 |.nul _,_,cs=>cs=[.slice none 0 0]
 |.mapi j e,es,cs=>∃ b h c,cs=[.map (some b)]/\F b/\w.heap[b]? = some (.map h c)/\ea (fun d v=>v = .int j d) (fun d v=>Dat w F e d [v]) es h.toList
def Cl(w:World)(F:Nat->Prop)(t:Ty)(d:t.den)(v:Value):Prop:=
 if t.isAgg then ∃ vs,v = .agg vs/\Dat w F t d vs.toList else Dat w F t d [v]
inductive Ix where
 |o (i:Nat)
 |r (i k:Nat)
 deriving DecidableEq
instance:Coe Nat Ix:=⟨.o⟩
def Ix.id:Ix->Nat
 |.o i=>i
 |.r i _=>i
abbrev Mp:=Ix->Option (Nat×Nat)
def By(o:Option Ob)(l:Option (Nat×Nat))(v:Value):Prop:=
 match o with
 |some (.arr _ t xs)=>match l with
  |none=>∃ a,v = .slice a 0 0
  |some (b,cap)=>v = .slice (some ⟨b,0,none⟩) (List.length (α:=t.den) xs) cap
 |some (.prs _ _ is)=>match l with
  |none=>∃ a,v = .slice a 0 0
  |some (b,cap)=>v = .slice (some ⟨b,0,none⟩) is.length cap
 |some (.rows (.arr _) _ t xs _ _)=>match l with
  |none=>∃ a,v = .slice a 0 0
  |some (b,cap)=>v = .slice (some ⟨b,0,none⟩) (List.length (α:=List t.den) xs) cap
 |some .dead=>v.oneCell'=true
 |_=>False
def fi(o:Option Ob)(l:Option (Nat×Nat))(i ver:Nat)(v:Value):Prop:=
 match o with
 |some (.rows K _ t xs ver' _)=>v.oneCell'=true/\ver<=ver'/\(ver=ver'->(∃ ys:List t.den,xs[i]? = some ys/\By (some (.arr 0 t ys)) l v)\/(K.LL=false/\i=List.length (α:=List t.den) xs/\v = .slice none 0 0))
 |some .dead=>v.oneCell'=true
 |_=>False
def I8(o:Option Ob)(l:Option (Nat×Nat))(off n:Nat)(v:Value):Prop:=
 match o with
 |some (.arr _ t xs)=>off+n<=List.length (α:=t.den) xs/\match l with
  |none=>∃ a,v = .slice a n 0
  |some (b,cap)=>∃ a,v = .slice a n (cap-off)/\(off<cap->a=some ⟨b,off*t.size,none⟩)
 |some .dead=>v.oneCell'=true
 |_=>False
def H0(o:Option Ob)(l:Option (Nat×Nat))(off:Nat)(v:Value):Prop:=
 match o with
 |some (.box _)=>∃ b c,l=some (b,c)/\v = .pointer (some ⟨b,off,none⟩)
 |some .dead=>v.oneCell'=true
 |_=>False
def Dz(o:Option Ob)(l:Option (Nat×Nat))(i sub:Nat)(v:Value):Prop:=
 match o with
 |some (.arr _ t xs)=>i<List.length (α:=t.den) xs/\∃ b c,l=some (b,c)/\v = .pointer (some ⟨b,i*t.size+sub,none⟩)
 |some (.prs _ _ is)=>i<is.length/\∃ b c,l=some (b,c)/\v = .pointer (some ⟨b,i+sub,none⟩)
 |some (.rows (.arr _) _ t xs _ _)=>i<List.length (α:=List t.den) xs/\∃ b c,l=some (b,c)/\v = .pointer (some ⟨b,i+sub,none⟩)
 |some .dead=>v.oneCell'=true
 |_=>False
def Oi(o:Option Ob)(l:Option (Nat×Nat))(v:Value):Prop:=
 match o with
 |some (.map _ _ _)=>∃ b c,l=some (b,c)/\v = .map (some b)
 |some (.rows (.map _ _) _ _ _ _ _)=>∃ b c,l=some (b,c)/\v = .map (some b)
 |some .dead=>v.oneCell'=true
 |_=>False
def G5(o:Option Ob)(l:Option (Nat×Nat))(n:Nat)(v:Value):Prop:=
 match o with
 |some (.arr _ t xs)=>List.length (α:=t.den) xs=n/\∃ b,l=some (b,n)/\v = .pointer (some ⟨b,0,none⟩)
 |some .dead=>v.oneCell'=true
 |_=>False
theorem By.one{o:Ob}{l:Option (Nat×Nat)}{v:Value}(h:By (some o) l v):v.oneCell'=true:=by
 unfold By at h;split at h;all_goals try exact h.elim
 all_goals try exact h
 all_goals
  cases l with
  |none=>obtain⟨a,rfl⟩:=h;rfl
  |some p=>obtain⟨b,c⟩:=p;simp only at h;subst h;rfl
theorem I8.one{o:Ob}{l:Option (Nat×Nat)}{off n:Nat}{v:Value}(h:I8 (some o) l off n v):v.oneCell'=true:=by
 unfold I8 at h;cases o<;>simp only at h<;>first|omega|exact h|skip
 obtain⟨_,h⟩:=h;cases l with
  |none=>obtain⟨a,rfl⟩:=h;rfl
  |some p=>obtain⟨b,c⟩:=p;obtain⟨a,rfl,_⟩:=h;rfl
theorem H0.one{o:Ob}{l:Option (Nat×Nat)}{off:Nat}{v:Value}(h:H0 (some o) l off v):v.oneCell'=true:=by
 unfold H0 at h;cases o<;>simp only at h<;>first|omega|exact h|skip
 obtain⟨b,c,_,rfl⟩:=h;rfl
theorem Dz.one{o:Ob}{l:Option (Nat×Nat)}{i sub:Nat}{v:Value}(h:Dz (some o) l i sub v):v.oneCell'=true:=by
 unfold Dz at h;split at h;all_goals try exact h.elim
 all_goals try exact h
 all_goals obtain⟨_,b,c,_,rfl⟩:=h;rfl
theorem fi.one{o:Ob}{l:Option (Nat×Nat)}{i ver:Nat}{v:Value}(h:fi (some o) l i ver v):v.oneCell'=true:=by unfold fi at h;grind
theorem Oi.one{o:Ob}{l:Option (Nat×Nat)}{v:Value}(h:Oi (some o) l v):v.oneCell'=true:=by
 unfold Oi at h;split at h;all_goals try exact h.elim
 all_goals try exact h
 all_goals obtain⟨b,c,_,rfl⟩:=h;rfl
theorem G5.one{o:Ob}{l:Option (Nat×Nat)}{n:Nat}{v:Value}(h:G5 (some o) l n v):v.oneCell'=true:=by
 unfold G5 at h;split at h;all_goals try exact h.elim
 all_goals try exact h
 all_goals obtain⟨_,b,_,rfl⟩:=h;rfl
section
variable (w:World) (F:Nat->Prop) (m:Mp) (H:List Ob)
mutual
def Rep:AV->Value->Prop
 |.DM,_=>True
 |.data t d,v=>Cl w F t d v
 |.nils _,v=>v = .slice none 0 0
 |.agg cs,v=>∃ vs,v = .agg vs/\BG cs vs.toList/\∀ u∈vs.toList,u.oneCell'=true
 |.own id,v=>By H[id]? (m id) v
 |.win id off n,v=>I8 H[id]? (m id) off n v
 |.ptr id off,v=>H0 H[id]? (m id) off v
 |.eptr id i sub,v=>Dz H[id]? (m id) i sub v
 |.dptr cs,v=>∃ ad us,v = .pointer (some ad)/\(cs≠[]->F ad.block)/\BG cs us/\(∀ u∈us,u.oneCell'=true)/\∀ j u,us[j]? = some u->w.cell? (ad.add j)=some u
 |.clo f caps,v=>∃ cs,v = .func (.func f) #[] cs/\BG caps cs.toList
 |.bnd f fs,v=>∃ cs,v = .func (.func f) cs #[]/\BG fs cs.toList
 |.str xs,v=>∃ s,v = .string s/\bytesOf s=xs
 |.clip t xs,v=>Dat w F (.slice t) xs [v]/\∃ a,v = .slice a (List.length (α:=t.den) xs) (List.length (α:=t.den) xs)
 |.mp id,v=>Oi H[id]? (m id) v
 |.tup vs,v=>∃ us,v = .tuple us/\BG vs us.toList
 |.rowp id i ver,v=>fi H[id]? (m (.r id i)) i ver v
 |.glob g,v=>v = .pointer (some ⟨g,0,none⟩)
 |.nilp,v=>v = .pointer none
 |.ifc o,v=>v=Ll o
 |.aptr id n,v=>G5 H[id]? (m id) n v
def BG:List AV->List Value->Prop
 |[],vs=>vs=[]
 |c::cs,vs=>∃ v a,vs=v::a/\Rep c v/\BG cs a
end
end
def AY0(w:World)(F:Nat->Prop)(k v:Ty)(e:k.den×v.den)(a:MapEntry):Prop:=Cl w F k e.1 a.key/\Cl w F v e.2 a.val
def K3(w:World)(F:Nat->Prop)(k v:Ty):List (k.den×v.den)->List MapEntry->Prop
 |[],ms=>ms=[]
 |e::es,ms=>∃ b a,ms=b::a/\AY0 w F k v e b/\K3 w F k v es a
def Hy(b:Array MapEntry)(a:Nat):Prop:=a=b.size/\∀ (i:Nat) (e:MapEntry),b[i]? = some e->e.born=i
def Hdr(w:World)(K:RK)(n:Nat)(out:Option Nat)(b cap:Nat):Prop:=
 match K with
 |.arr T=>∃ vs,w.heap[b]? = some (.cells vs T (0,0))/\n<=cap/\cap<=maxLen/\vs.size=cap/\∀ u∈vs.toList,u.oneCell'=true
 |.map j c=>∃ d a,w.heap[b]? = some (.map d a)/\Hy d a/\d.toList.map (·.key)=c.map (Value.int j)/\(n=c.length\/(out=some c.length/\n=c.length+1))/\∀ k,out=some k->k<n
def OZ(w:World)(K:RK)(b k:Nat)(u:Value):Prop:=
 match K with
 |.arr T=>∃ vs,w.heap[b]? = some (.cells vs T (0,0))/\vs.toList[k]? = some u
 |.map _ _=>∃ c a e,w.heap[b]? = some (.map c a)/\c.toList[k]? = some e/\e.val=u
def ObI(w:World)(F:Nat->Prop)(m:Mp)(H:List Ob)(o:Ob)(l:Option (Nat×Nat)):Prop:=
 match o with
 |.free=>True
 |.dead=>True
 |.box cs=>∃ b c vs T,l=some (b,c)/\w.heap[b]? = some (.cells vs T (0,0))/\BG w F m H cs vs.toList/\∀ u∈vs.toList,u.oneCell'=true
 |.arr T t xs=>0<t.size/\match l with
  |none=>xs=[]
  |some (b,cap)=>∃ vs d,w.heap[b]? = some (.cells vs T (0,0))/\List.length (α:=t.den) xs<=cap/\cap<=maxLen/\vs.size=cap*t.size/\rows (Dat w F t) xs d/\vs.toList.take d.length=d
 |.map k v h=>∃ b c e a,l=some (b,c)/\w.heap[b]? = some (.map e a)/\K3 w F k v h e.toList/\Hy e a
 |.prs T f g=>match l with
  |none=>g=[]
  |some (b,cap)=>∃ vs us,w.heap[b]? = some (.cells vs T (0,0))/\g.length<=cap/\cap<=maxLen/\vs.size=cap/\BG w F m H (Ha f g) us/\(∀ u∈us,u.oneCell'=true)/\vs.toList.take us.length=us
 |.rows K _ t xs _ out=>0<t.size/\match l with
  |none=>K.LL=true/\xs=[]
  |some (b,cap)=>Hdr w K (List.length (α:=List t.den) xs) out b cap
def Cs(H:List Ob)(fz:List Bool)(i:Nat):Prop:=
 match H[i]? with
 |some (.box _)=>True
 |some (.map _ _ _)=>True
 |some (.prs _ _ _)=>True
 |some (.arr _ _ _)=>fz.getD i false=false
 |some (.rows _ _ _ _ _ _)=>fz.getD i false=false
 |_=>False
def owned(H:List Ob)(fz:List Bool):Ix->Prop
 |.o i=>Cs H fz i
 |.r i k=>match H[i]? with
  |some (.rows _ _ t xs _ _)=>k<List.length (α:=List t.den) xs/\fz.getD i false=false
  |_=>False
def there(H:List Ob):Ix->Prop
 |.o i=>∃ o,H[i]? = some o/\o≠.free/\o≠.dead
 |.r i k=>match H[i]? with
  |some (.rows _ _ t xs _ _)=>k<List.length (α:=List t.den) xs
  |_=>False
def C7(w:World)(F:Nat->Prop)(m:Mp)(H:List Ob)(i:Nat):Prop:=
 ∀ T e t xs ver out,H[i]? = some (.rows T e t xs ver out)->∀ (k:Nat) (ys:List t.den),xs[k]? = some ys ->
  ObI w F m H (.arr e t ys) (m (.r i k))/\(out≠some k->∃ b cap u,m i=some (b,cap)/\OZ w T b k u/\By (some (.arr e t ys)) (m (.r i k)) u)
def AKy(w:World)(F:Nat->Prop):Prop:=∀ p∈ow,F p.1/\∀ (j:Nat) (n:Int),p.2.2[j]? = some n->w.cell? ⟨p.1,j,none⟩=some (.int p.2.1 n)
structure HI(w:World)(F:Nat->Prop)(m:Mp)(H:List Ob)(fz:List Bool):Prop where
 obj:∀ (id:Nat) o,H[id]? = some o->ObI w F m H o (m id)
 row:∀ i,C7 w F m H i
 rfz:∀ (i:Nat) T e t xs ver out,H[i]? = some (.rows T e t xs ver out)->fz.getD i false=true->∀ x:Ix,x.id=i->there H x->∀ b c,m x=some (b,c)->F b
 sep:∀ i j b c b' c',owned H fz i->owned H fz j->i≠j->m i=some (b,c)->m j=some (b',c')->b≠b'
 off:∀ i b c,owned H fz i->m i=some (b,c)->¬ F b
 froz:∀ (i:Nat) T t xs b c,H[i]? = some (.arr T t xs)->fz.getD i false=true->m i=some (b,c)->F b
 lt:∀ b,F b->b<w.heap.size
 glo:AKy w F
 len:H.length=fz.length
def TV:Ob->Nat
 |.rows _ _ _ _ ver _=>ver
 |_=>0
def sameShape:Ob->Ob->Prop
 |.box _,.box _=>True
 |.map _ _ _,.map _ _ _=>True
 |.prs _ _ is,.prs _ _ is'=>is.length=is'.length
 |.rows K e t xs ver out,.rows K' e' t' xs' ver' out'=>K.LL=K'.LL/\(K.LL=true->List.length (α:=List t.den) xs=List.length (α:=List t'.den) xs')/\(ver<ver'\/ver=ver'/\(⟨t,xs⟩:(t:Ty)×List (List t.den))=⟨t',xs'⟩)
 |.arr _ t xs,.arr _ t' xs'=>t.size=t'.size/\List.length (α:=t.den) xs=List.length (α:=t'.den) xs'
 |_,_=>False
def DT(H H':List Ob)(m a:Mp):Prop:=
 ∀ (i:Nat) (o:Ob),H[i]? = some o->o≠.free->H'[i]? = some .dead\/(o≠.dead/\∃ o',H'[i]? = some o'/\sameShape o o'/\a i=m i/\(CK o=false->TV o'=TV o->∀ k,a (.r i k)=m (.r i k)))
structure Ext(w:World)(F:Nat->Prop)(m:Mp)(H:List Ob)(fz:List Bool)(w':World)(F':Nat->Prop)(m':Mp)(H':List Ob)(fz':List Bool):Prop where
 os:w'.os=w.os
 tape:w'.tape=w.tape
 output:w'.output=w.output
 size:w.heap.size<=w'.heap.size
 keep:∀ b,b<w.heap.size->(∀ i c,owned H fz i->m i≠some (b,c))->w'.heap[b]? = w.heap[b]?
 sub:∀ b,F b->F' b
 bnd:∀ b,F' b->F b\/(∃ i c,owned H fz i/\m i=some (b,c))\/w.heap.size<=b
 own:∀ i b c,owned H' fz' i->m' i=some (b,c)->(∃ i c,owned H fz i/\m i=some (b,c))\/w.heap.size<=b
 comp:DT H H' m m'
theorem CC{α:Type}{R a:α->List Value->Prop}{xs:List α}(h:∀ x∈xs,∀ cs,R x cs->a x cs):∀ {cs},rows R xs cs->rows a xs cs:=by
 induction xs with
  |nil=>exact fun h=>h
  |cons x xs b=>rintro cs ⟨c,c2,rfl,d,e⟩;exact⟨c,c2,rfl,h x (by simp) _ d,b (fun y f=>h y (by simp[f])) e⟩
theorem AB6{α β:Type}{K:α->Value->Prop}{V d:β->Value->Prop}(h:∀ x v,V x v->d x v):∀ {a:List (α×β)} {b},ea K V a b->ea K d a b:=by
 intro a;induction a with
  |nil=>exact fun h=>h
  |cons e a f=>rintro b ⟨g,c,i,j,k,l⟩;exact⟨g,c,i,j,h _ _ k,f l⟩
theorem Dat.mono{w w':World}{F y:Nat->Prop}(z:∀ b,F b->w'.heap[b]? = w.heap[b]?)(A:∀ b,F b->y b):
  ∀ (t:Ty) {d:t.den} {cs:List Value},Dat w F t d cs->Dat w' y t d cs:=by
 have f:∀ a:Addr,F a.block->w'.cell? a=w.cell? a:=fun a C=>by simp only[World.cell?,z _ C]
 have B:∀ (a:Addr) (n:Nat),(a.add n).block=a.block:=fun a n=>by unfold Addr.add;grind
 intro t;induction t with
  |unit=>exact fun h=>h
  |bool=>exact fun h=>h
  |int k=>exact fun h=>h
  |slice e l=>rintro d cs ⟨a,cap,g,c,m⟩;refine⟨a,cap,g,c,fun p => ?_⟩;obtain⟨ad,q,D,E,G,H⟩:=m p;exact⟨ad,q,D,A _ E,CC (fun x _ cs o=>l o) G,fun j u I=>(f _ (by grind)).trans (H j u I)⟩
  |prod a b r s=>rintro d cs ⟨J,c2,g,c,m⟩;exact⟨J,c2,g,r c,s m⟩
  |arr n e l=>rintro d cs ⟨g,c⟩;exact⟨g,CC (fun x _ cs o=>l o) c⟩
  |nul e=>exact fun h=>h
  |mapi j e l=>rintro d cs ⟨b,K,i,g,c,m,L⟩;exact⟨b,K,i,g,A _ c,(z _ c).trans m,AB6 (fun x v o=>l o) L⟩
theorem Cl.mono{w w':World}{F c:Nat->Prop}(f:∀ b,F b->w'.heap[b]? = w.heap[b]?)(g:∀ b,F b->c b)
  {t:Ty} {d:t.den} {v:Value} (h:Cl w F t d v):Cl w' c t d v:=by unfold Cl at *;split;rename_i a;simp only[a,Abc]at h;obtain⟨vs,e,hd⟩:=h;exact⟨vs,e,hd.mono f g t⟩;rename_i a;simp only[a]at h;exact Dat.mono f g t h
theorem B5{α:Type}{R:α->List Value->Prop}{n:Nat}(h:∀ x cs,R x cs->cs.length=n):∀ {xs:List α} {cs},rows R xs cs->cs.length=xs.length*n:=by
 intro xs;induction xs with
  |nil=>rintro cs rfl;simp
  |cons x xs a=>rintro cs ⟨b,c2,rfl,c,d⟩;grind
theorem Dat.length{w:World}{F:Nat->Prop}:∀ (t:Ty) {d:t.den} {cs:List Value},Dat w F t d cs->cs.length=t.size:=by
 intro t;induction t with
  |unit=>rintro d cs rfl;rfl
  |bool=>rintro d cs rfl;rfl
  |int k=>rintro d cs rfl;rfl
  |slice e c=>rintro d cs ⟨a,cap,rfl,_,_⟩;rfl
  |prod a b f g=>rintro d cs ⟨p,c2,rfl,h,l⟩;rw[Aa3,f h,g l];rfl
  |arr n e c=>rintro d cs ⟨m,h⟩;rw[B5 (fun x cs o=>c o) h,m];rfl
  |nul e=>rintro d cs rfl;rfl
  |mapi j e c=>rintro d cs ⟨b,q,i,rfl,_⟩;rfl
theorem Tx{α:Type}{R:α->List Value->Prop}{p:Value->Prop}(h:∀ x cs,R x cs->∀ u∈cs,p u):∀ {xs:List α} {cs},rows R xs cs->∀ u∈cs,p u:=by
 intro xs;induction xs with
  |nil=>rintro cs rfl u a;cases a
  |cons x xs b=>rintro cs ⟨c,c2,rfl,d,e⟩ u a;grind
theorem Dat.JH{w:World}{F:Nat->Prop}:∀ (t:Ty) {d:t.den} {cs:List Value},Dat w F t d cs->∀ u∈cs,u.oneCell'=true:=by
 intro t;induction t with
  |unit=>rintro d cs rfl u c;cases c
  |bool=>rintro d cs rfl u c;simp at c;subst c;rfl
  |int k=>rintro d cs rfl u c;simp at c;subst c;rfl
  |slice e f=>rintro d cs ⟨a,cap,rfl,_,_⟩ u c;simp at c;subst c;rfl
  |prod a b i l=>rintro d cs ⟨o,c2,rfl,h,p⟩ u c;grind
  |arr n e f=>rintro d cs ⟨q,h⟩;exact Tx (fun x cs m=>f m) h
  |nul e=>rintro d cs rfl u c;simp at c;subst c;rfl
  |mapi j e f=>rintro d cs ⟨b,r,g,rfl,_⟩ u c;simp at c;subst c;rfl
theorem Be{w:World}{F:Nat->Prop}{m:Mp}{H:List Ob}:∀ {cs:List AV} {vs:List Value},BG w F m H cs vs->vs.length=cs.length:=by
 intro cs;induction cs with
  |nil=>intro vs h;unfold BG at h;grind
  |cons c cs a=>intro vs h;unfold BG at h;grind
theorem Da{w:World}{F:Nat->Prop}{m:Mp}{H:List Ob}:∀ {cs:List AV} {vs:List Value},BG w F m H cs vs->∀ {i:Nat} {c:AV},cs[i]? = some c->∃ v,vs[i]? = some v/\Rep w F m H c v:=by
 intro cs;induction cs with
  |nil=>simp
  |cons c cs a=>intro vs h i c' b;unfold BG at h;grind
theorem EV{w:World}{F:Nat->Prop}{m:Mp}{H:List Ob}:∀ {cs:List AV} {vs:List Value},vs.length=cs.length->(∀ (i:Nat) (c:AV) (v:Value),cs[i]? = some c->vs[i]? = some v->Rep w F m H c v)->BG w F m H cs vs:=by
 intro cs;induction cs with
  |nil=>intro vs h _;unfold BG;grind
  |cons c cs b=>
   intro vs a h;unfold BG;match vs,a with
   |v::vs',a=>exact⟨v,vs',rfl,h 0 c v rfl rfl,b (by grind) fun i c v d e=>h (i+1) c v (by grind) (by grind)⟩
theorem Is{w:World}{F:Nat->Prop}{m:Mp}{H:List Ob}{cs a:List AV}{vs b:List Value}(h:BG w F m H cs vs)(e:BG w F m H a b):BG w F m H (cs++a) (vs++b):=by
 induction cs generalizing vs with
  |nil=>unfold BG at h;grind
  |cons c cs f=>unfold BG at h;obtain⟨v,d,rfl,g,h⟩:=h;simp only[AbO];unfold BG;grind
theorem RI{w:World}{F:Nat->Prop}{m:Mp}{H:List Ob}{cs:List AV}{vs:List Value}(h:BG w F m H cs vs)(n:Nat):BG w F m H (cs.take n) (vs.take n):=by refine EV (by simp[Be h]) fun i c v a b => ?_;rw[AdA]at a b;split at a;rename_i hi;simp only[hi,Abc]at b;obtain⟨e,d,f⟩:=Da h a;grind;grind
theorem GS{w:World}{F:Nat->Prop}{m:Mp}{H:List Ob}{cs:List AV}{vs:List Value}(h:BG w F m H cs vs)(n:Nat):BG w F m H (cs.drop n) (vs.drop n):=by refine EV (by simp[Be h]) fun i c v a b => ?_;rw[Ada]at a b;obtain⟨e,d,f⟩:=Da h a;grind
section
variable {w w':World} {F F':Nat->Prop} {m m':Mp} {H H':List Ob}
theorem Hw(a:DT H H' m m')(P:Option Ob->Option (Nat×Nat)->Prop)(b:∀ o l g,P (some o) l->P (some .dead) g)(c:∀ l,¬ P none l)(d:∀ l,¬ P (some .free) l)
  (e:∀ o o' l,sameShape o o'->P (some o) l->P (some o') l) (i:Nat) (h:P H[i]? (m i)):P H'[i]? (m' i):=by
 cases f:H[i]? with
  |none=>grind
  |some o=>
   rw[f]at h;by_cases j:o = .free;grind
   ·rcases a i o f j with k|⟨_,o',k,n,p,_⟩
    all_goals grind
mutual
theorem Rep.mono(r:∀ b,F b->w'.heap[b]? = w.heap[b]?)(p:∀ b,F b->F' b)(c:DT H H' m m'):∀ (a:AV) {v:Value},Rep w F m H a v->Rep w' F' m' H' a v
 |.DM,_,_=>by unfold Rep;trivial
 |.data t d,v,h=>by unfold Rep at *;exact h.mono r p
 |.nils _,v,h=>by unfold Rep at *;exact h
 |.agg cs,v,h=>by unfold Rep at *;obtain⟨vs,e,h,s⟩:=h;exact⟨vs,e,BG.mono r p c cs h,s⟩
 |.own id,v,h=>by
  unfold Rep at *;refine Hw c (fun o l=>By o l v) (fun o l x=>By.one) (fun l h=>h) (fun l h=>h) ?_ id h;intro o o' l k h;cases o<;>cases o'<;>simp only[sameShape]at k<;>try exact k.elim
  exact h.elim;obtain⟨D,E⟩:=k;unfold By at *;grind;exact h.elim;unfold By at *;grind
  ·rename_i K _ _ _ _ _ y _ _ _ _ _;cases K<;>cases y<;>first|(cases k.1;done)|exact h.elim|skip
   unfold By at *;simp only at *;rw[<- k.2.1 rfl];exact h
 |.win id off n,v,h=>by
  unfold Rep at *;refine Hw c (fun o l=>I8 o l off n v) (fun o l x=>I8.one) (fun l h=>h) (fun l h=>h) ?_ id h;intro o o' l k h;cases o<;>cases o'<;>simp only[sameShape]at k<;>try exact k.elim
  exact h.elim;obtain⟨D,E⟩:=k;unfold I8 at *;grind;exact h.elim;exact h.elim;exact h.elim
 |.ptr id off,v,h=>by
  unfold Rep at *;refine Hw c (fun o l=>H0 o l off v) (fun o l x=>H0.one) (fun l h=>h) (fun l h=>h) ?_ id h;intro o o' l k h;cases o<;>cases o'<;>simp only[sameShape]at k<;>try exact k.elim
  exact h;exact h.elim;exact h.elim;exact h.elim;exact h.elim
 |.eptr id i sub,v,h=>by
  unfold Rep at *;refine Hw c (fun o l=>Dz o l i sub v) (fun o l x=>Dz.one) (fun l h=>h) (fun l h=>h) ?_ id h;intro o o' l k h;cases o<;>cases o'<;>simp only[sameShape]at k<;>try exact k.elim
  exact h.elim;obtain⟨D,E⟩:=k;unfold Dz at *;grind;exact h.elim;unfold Dz at *;grind
  ·rename_i K _ _ _ _ _ y _ _ _ _ _;cases K<;>cases y<;>first|(cases k.1;done)|exact h.elim|skip
   unfold Dz at *;simp only at *;rw[<- k.2.1 rfl];exact h
 |.dptr cs,v,h=>by
  unfold Rep at *;obtain⟨ad,us,e,s,z,G,B⟩:=h;refine⟨ad,us,e,fun A=>p _ (s A),BG.mono r p c cs z,G,fun j u N => ?_⟩;have L:(ad.add j).block=ad.block:=by unfold Addr.add;grind
  have A:cs≠[]:=by rintro rfl;unfold BG at z;grind
  have B:=B j u N;simp only[World.cell?]at B |-;grind
 |.clo f caps,v,h=>by unfold Rep at *;obtain⟨cs,e,h⟩:=h;exact⟨cs,e,BG.mono r p c caps h⟩
 |.bnd f caps,v,h=>by unfold Rep at *;obtain⟨cs,e,h⟩:=h;exact⟨cs,e,BG.mono r p c caps h⟩
 |.str _,v,h=>by unfold Rep at *;exact h
 |.clip t xs,v,h=>by unfold Rep at *;exact⟨Dat.mono r p (.slice t) h.1,h.2⟩
 |.mp id,v,h=>by
  unfold Rep at *;refine Hw c (fun o l=>Oi o l v) (fun o l x=>Oi.one) (fun l h=>h) (fun l h=>h) ?_ id h;intro o o' l k h;cases o<;>cases o'<;>simp only[sameShape]at k<;>try exact k.elim
  exact h.elim;exact h.elim;exact h;exact h.elim;·rename_i K _ _ _ _ _ y _ _ _ _ _;cases K<;>cases y<;>first|(cases k.1;done)|exact h.elim|exact h
 |.glob g,v,h=>by unfold Rep at *;exact h
 |.nilp,v,h=>by unfold Rep at *;exact h
 |.ifc o,v,h=>by unfold Rep at *;exact h
 |.aptr id n,v,h=>by
  unfold Rep at *;refine Hw c (fun o l=>G5 o l n v) (fun o l x=>G5.one) (fun l h=>h) (fun l h=>h) ?_ id h;intro o o' l k h;cases o<;>cases o'<;>simp only[sameShape]at k<;>try exact k.elim
  exact h.elim;obtain⟨D,E⟩:=k;unfold G5 at *;grind;exact h.elim;exact h.elim;exact h.elim
 |.tup vs,v,h=>by unfold Rep at *;obtain⟨us,e,h⟩:=h;exact⟨us,e,BG.mono r p c vs h⟩
 |.rowp id i ver,v,h=>by
  unfold Rep at *;cases I:H[id]? with
   |none=>rw[I]at h;exact h.elim
   |some o=>
    rw[I]at h;have q:=fi.one h;by_cases M:o = .free;subst M;exact h.elim;rcases c id o I M with s|⟨_,o',s,z,B,G⟩
    rw[s];exact q;rw[s];cases o<;>(try exact h.elim)<;>cases o'<;>simp only[sameShape]at z;obtain⟨_,P,Q⟩:=h;obtain⟨O,R,C⟩:=z;refine⟨q,?_,fun e => ?_⟩;omega;rcases C with C|⟨C,J⟩
    omega;subst C;cases J;rw[G rfl rfl i,<- O];grind
theorem BG.mono(f:∀ b,F b->w'.heap[b]? = w.heap[b]?)(g:∀ b,F b->F' b)(a:DT H H' m m'):∀ (cs:List AV) {vs:List Value},BG w F m H cs vs->BG w' F' m' H' cs vs
 |[],vs,h=>by unfold BG at *;exact h
 |c::cs,vs,h=>by unfold BG at *;obtain⟨v,d,e,i,j⟩:=h;exact⟨v,d,e,Rep.mono f g a c i,BG.mono f g a cs j⟩
end
theorem DT.refl(H:List Ob)(m:Mp):DT H H m m:=by intro i o a _;by_cases hd:o = .dead;grind;refine .inr ⟨hd,o,a,?_,rfl,fun _ _ _=>rfl⟩;cases o<;>simp_all [sameShape]
theorem sameShape.trans{a b c:Ob}(h:sameShape a b)(d:sameShape b c):sameShape a c:=by cases a<;>cases b<;>simp only[sameShape]at h<;>(try exact h.elim)<;>cases c<;>simp only[sameShape]at d<;>(try exact d.elim)<;>simp only[sameShape];all_goals grind
theorem sameShape.ver{a b:Ob}(h:sameShape a b):TV a<=TV b/\CK a=CK b:=by
 cases a<;>cases b<;>simp only[sameShape]at h<;>(try exact h.elim)<;>(try exact⟨Aax _,rfl⟩)
 rcases h.2.2 with c|⟨c,_⟩
 exact⟨Acj c,rfl⟩;exact⟨Ac5 c,rfl⟩
theorem DT.trans{a b c:List Ob}{m m' d:Mp}(h:DT a b m m')(p:DT b c m' d):DT a c m d:=by
 intro i o q r;rcases h i o q r with e|⟨hd,o',e,f,s,u⟩
 ·rcases p i _ e (by simp)with g|⟨j,_⟩
  all_goals grind
 have l:o'≠.free:=by rintro rfl;cases o<;>simp[sameShape]at f
 rcases p i o' e l with g|⟨_,n,g,j,t,v⟩
 grind;refine .inr ⟨hd,n,g,f.trans j,t.trans s,fun a b k => ?_⟩;have x:=f.ver;have y:=j.ver;grind
theorem Ext.refl(w:World)(F:Nat->Prop)(m:Mp)(H:List Ob)(fz:List Bool):Ext w F m H fz w F m H fz:=
 ⟨rfl,rfl,rfl,Aax _,fun _ _ _=>rfl,fun _ h=>h,fun _ h=>.inl h,fun i b c a d=>.inl ⟨i,c,a,d⟩,DT.refl H m⟩
theorem Ext.trans{w j l:World}{F n o:Nat->Prop}{m p q:Mp}{H r s:List Ob}{fz d e:List Bool}
  (h:Ext w F m H fz j n p r d) (k:Ext j n p r d l o q s e):Ext w F m H fz l o q s e where
 os:=k.os.trans h.os
 tape:=k.tape.trans h.tape
 output:=k.output.trans h.output
 size:=Abk h.size k.size
 keep b hb hn:=by rw[k.keep b (AcI hb h.size) ?_,h.keep b hb hn];intro i c u v;rcases h.own i b c u v with⟨t,c',a,g⟩|a;all_goals grind
 sub b hb:=k.sub b (h.sub b hb)
 bnd b hb:=by
  rcases k.bnd b hb with a|⟨i,c,a,g⟩|a;exact h.bnd b a;·rcases h.own i b c a g with f|f;all_goals grind
  exact .inr (.inr (Abk h.size a))
 own i b c a g:=by rcases k.own i b c a g with⟨t,c',f,x⟩|f;exact h.own t b c' f x;exact .inr (Abk h.size f)
 comp:=h.comp.trans k.comp
theorem Ext.frozen{fz fz':List Bool}(hi:HI w F m H fz)(h:Ext w F m H fz w' F' m' H' fz'){b:Nat}(a:F b):w'.heap[b]? = w.heap[b]? :=
 h.keep b (hi.lt b a) fun i c d e=>hi.off i b c d e a
theorem Ext.rep{fz fz':List Bool}(hi:HI w F m H fz)(h:Ext w F m H fz w' F' m' H' fz'){a:AV}{v:Value}(c:Rep w F m H a v):Rep w' F' m' H' a v:=
 Rep.mono (fun b d=>h.frozen hi d) h.sub h.comp a c
theorem Ext.Aaf{fz fz':List Bool}(hi:HI w F m H fz)(h:Ext w F m H fz w' F' m' H' fz'){a:List AV}{v:List Value}(c:BG w F m H a v):BG w' F' m' H' a v:=
 BG.mono (fun b d=>h.frozen hi d) h.sub h.comp a c
theorem Ext.dat{fz fz':List Bool}(hi:HI w F m H fz)(h:Ext w F m H fz w' F' m' H' fz'){t:Ty}{d:t.den}{v:List Value}(a:Dat w F t d v):Dat w' F' t d v:=
 a.mono (fun b c=>h.frozen hi c) h.sub t
theorem K3.mono{k v:Ty}(f:∀ b,F b->w'.heap[b]? = w.heap[b]?)(g:∀ b,F b->F' b):
  ∀ {a:List (k.den×v.den)} {c:List MapEntry},K3 w F k v a c->K3 w' F' k v a c:=by
 intro a;induction a with
  |nil=>exact fun h=>h
  |cons e a i=>rintro c ⟨j,d,l,⟨n,o⟩,p⟩;exact⟨j,d,l,⟨n.mono f g,o.mono f g⟩,i p⟩
end
theorem CR{w:World}{b:Nat}{o:Obj}(h:w.heap[b]? = some o):b<w.heap.size:=by grind
theorem Hdr.mono{w w':World}{K:RK}{n:Nat}{out:Option Nat}{b cap:Nat}(e:b<w.heap.size->w'.heap[b]? = w.heap[b]?)(h:Hdr w K n out b cap):Hdr w' K n out b cap:=by
 cases K with
  |arr T=>obtain⟨vs,c,d⟩:=h;exact⟨vs,(e (CR c)).trans c,d⟩
  |map j g=>obtain⟨f,a,c,d⟩:=h;exact⟨f,a,(e (CR c)).trans c,d⟩
theorem OZ.mono{w w':World}{K:RK}{b k:Nat}{u:Value}(f:b<w.heap.size->w'.heap[b]? = w.heap[b]?)(h:OZ w K b k u):OZ w' K b k u:=by
 cases K with
  |arr T=>obtain⟨vs,c,d⟩:=h;exact⟨vs,(f (CR c)).trans c,d⟩
  |map j i=>obtain⟨g,a,e,c,d⟩:=h;exact⟨g,a,e,(f (CR c)).trans c,d⟩
theorem Hdr.lt{w:World}{K:RK}{n:Nat}{out:Option Nat}{b cap:Nat}(h:Hdr w K n out b cap):b<w.heap.size:=by
 cases K with
  |arr T=>obtain⟨vs,c,d⟩:=h;grind
  |map j e=>obtain⟨f,a,c,d⟩:=h;grind
theorem AKy.mono{w w':World}{F a:Nat->Prop}(i:∀ b,F b->w'.heap[b]? = w.heap[b]?)(c:∀ b,F b->a b)(h:AKy w F):AKy w' a:=fun p d=>by obtain⟨e,f⟩:=h p d;exact⟨c _ e,fun j n g=>by have:=f j n g;simp only[World.cell?]at this |-;grind⟩
theorem ObI.mono{w w':World}{F B:Nat->Prop}{m C:Mp}{H H':List Ob}{o:Ob}{l:Option (Nat×Nat)}
  (q:∀ b,F b->w'.heap[b]? = w.heap[b]?) (r:∀ b,F b->B b) (a:DT H H' m C)
  (n:o≠.free->o≠.dead->∀ b c,l=some (b,c)->b<w.heap.size->w'.heap[b]? = w.heap[b]?) (h:ObI w F m H o l):ObI w' B C H' o l:=by
 cases o with
  |free=>trivial
  |dead=>trivial
  |box cs=>obtain⟨b,c,vs,T,d,f,g,i⟩:=h;exact⟨b,c,vs,T,d,(n (by simp) (by simp) b c d (CR f)).trans f,BG.mono q r a cs g,i⟩
  |arr T t xs=>
   obtain⟨s,h⟩:=h;refine⟨s,?_⟩;cases l with
    |none=>exact h
    |some p=>obtain⟨b,cap⟩:=p;obtain⟨vs,u,d,f,g,i,y,z⟩:=h;exact⟨vs,u,(n (by simp) (by simp) b cap rfl (CR d)).trans d,f,g,i,CC (fun x _ cs D=>D.mono q r t) y,z⟩
  |map k v J=>obtain⟨b,c,E,j,d,f,g,i⟩:=h;exact⟨b,c,E,j,d,(n (by simp) (by simp) b c d (CR f)).trans f,K3.mono q r g,i⟩
  |prs T G K=>
   cases l with
    |none=>exact h
    |some p=>obtain⟨b,cap⟩:=p;obtain⟨vs,us,d,f,g,i,y,z,I⟩:=h;exact⟨vs,us,(n (by simp) (by simp) b cap rfl (CR d)).trans d,f,g,i,BG.mono q r a _ y,z,I⟩
  |rows T e t xs ver out=>
   obtain⟨s,h⟩:=h;refine⟨s,?_⟩;cases l with
    |none=>exact h
    |some p=>obtain⟨b,cap⟩:=p;exact Hdr.mono (fun A=>n (by simp) (by simp) b cap rfl A) h
theorem Dm{H H':List Ob}{fz:List Bool}{i:Ix}(h:H'[i.id]? = H[i.id]?):owned H' fz i↔owned H fz i:=by
 cases i with
  |o i=>simp only[owned,Cs];rw[show H'[i]? = H[i]? from h]
  |r i k=>simp only[owned];rw[show H'[i]? = H[i]? from h]
theorem GG{H:List Ob}{fz:List Bool}{i k:Nat}{o:Ob}(h:H[i]? = some o)(p:CK o=true):¬ owned H fz (.r i k):=by simp only[owned];rw[h];cases o<;>first|exact id|cases p
theorem Dk{H H':List Ob}{x:Ix}(h:H'[x.id]? = H[x.id]?):there H' x↔there H x:=by
 cases x with
  |o i=>simp only[there];rw[show H'[i]? = H[i]? from h]
  |r i k=>simp only[there];rw[show H'[i]? = H[i]? from h]
theorem sC{H:List Ob}{i k:Nat}{o:Ob}(h:H[i]? = some o)(p:CK o=true):¬ there H (.r i k):=by simp only[there];rw[h];cases o<;>first|exact id|cases p
theorem C7.plain{w:World}{F:Nat->Prop}{m:Mp}{H:List Ob}{i:Nat}{o:Ob}(h:H[i]? = some o)(p:CK o=true):C7 w F m H i:=by intro T e t xs ver out a;rw[h]at a;cases a;cases p
theorem C7.mono{w w':World}{F j:Nat->Prop}{m f:Mp}{H H':List Ob}{i:Nat}
  (p:∀ b,F b->w'.heap[b]? = w.heap[b]?) (q:∀ b,F b->j b) (a:DT H H' m f) (s:H'[i]? = H[i]?) (hm:∀ x:Ix,x.id=i->f x=m x)
  (l:∀ x:Ix,x.id=i->there H x->∀ b c,m x=some (b,c)->b<w.heap.size->w'.heap[b]? = w.heap[b]?) (h:C7 w F m H i):C7 w' j f H' i:=by
 intro T e t xs ver out g k ys v;rw[s]at g;obtain⟨y,z⟩:=h T e t xs ver out g k ys v;have A:k<List.length (α:=List t.den) xs:=by grind
 rw[hm (.r i k) rfl];refine⟨ObI.mono p q a (fun _ _ b c B d=>l (.r i k) rfl (by simp only[there];grind) b c B d) y,fun C => ?_⟩;obtain⟨b,cap,u,n,D,E⟩:=z C;exact⟨b,cap,u,(hm (.o i) rfl).trans n,D.mono (l (.o i) rfl ⟨_,g,by simp,by simp⟩ b cap n),E⟩
theorem HI.neI{w:World}{F:Nat->Prop}{m:Mp}{H:List Ob}{fz:List Bool}(hi:HI w F m H fz){i:Nat}{j:Ix}{b c b' c':Nat}(g:owned H fz j)
  (h:m j=some (b',c')) {o:Ob} (a:H[i]? = some o) (s:o≠.free) (r:o≠.dead) (f:m i=some (b,c)) (l:.o i≠j):b≠b':=by
 by_cases d:owned H fz i;exact hi.sep i j b c b' c' d g l f h;cases o with
  |free=>grind
  |dead=>grind
  |box cs=>exact absurd (by simp[owned,Cs,a]) d
  |map k v x=>exact absurd (by simp[owned,Cs,a]) d
  |prs T u y=>exact absurd (by simp[owned,Cs,a]) d
  |rows T e t xs ver out=>
   have n:fz.getD i false=true:=by
    cases p:fz.getD i false with
     |true=>rfl
     |false=>exact absurd (by simp only[owned,Cs,a];exact p) d
   have q:=hi.rfz i T e t xs ver out a n i rfl ⟨_,a,by simp,by simp⟩ b c f;rintro rfl;exact hi.off j b c' g h q
  |arr T t xs=>
   have n:fz.getD i false=true:=by
    cases p:fz.getD i false with
     |true=>rfl
     |false=>exact absurd (by simp only[owned,Cs,a];exact p) d
   have q:=hi.froz i T t xs b c a n f;rintro rfl;exact hi.off j b c' g h q
theorem ATq{i j:Nat}(h:i≠j):Ix.o i≠Ix.o j:=fun e=>h (Ix.o.inj e)
theorem HI.ne{w:World}{F:Nat->Prop}{m:Mp}{H:List Ob}{fz:List Bool}(hi:HI w F m H fz){i j:Nat}{b c b' c':Nat}(h:owned H fz j)
  (k:m j=some (b',c')) {o:Ob} (d:H[i]? = some o) (e:o≠.free) (a:o≠.dead) (f:m i=some (b,c)) (g:i≠j):b≠b':=hi.neI h k d e a f (ATq g)
theorem EK{H:List Ob}{fz:List Bool}{i:Ix}(h:owned H fz i):∃ o,H[i.id]? = some o/\o≠.free/\o≠.dead:=by
 cases i with
  |o i=>simp only[owned,Cs]at h;split at h;rename_i a;exact⟨_,a,by simp,by simp⟩;rename_i a;exact⟨_,a,by simp,by simp⟩;rename_i a;exact⟨_,a,by simp,by simp⟩;rename_i a;exact⟨_,a,by simp,by simp⟩;rename_i a;exact⟨_,a,by simp,by simp⟩;grind
  |r i k=>simp only[owned]at h;split at h;rename_i a;exact⟨_,a,by simp,by simp⟩;grind
theorem owned.there{H:List Ob}{fz:List Bool}{x:Ix}(h:owned H fz x):there H x:=by
 cases x with
  |o i=>exact EK h
  |r i k=>simp only[owned,Pev.there]at *;grind
theorem HI.neX{w:World}{F:Nat->Prop}{m:Mp}{H:List Ob}{fz:List Bool}(hi:HI w F m H fz){x j:Ix}{b c b' c':Nat}(g:owned H fz j)
  (h:m j=some (b',c')) (f:there H x) (l:m x=some (b,c)) (a:x≠j):b≠b':=by
 cases x with
  |o i=>obtain⟨o,n,p,s⟩:=f;exact hi.neI g h n p s l a
  |r i k=>
   by_cases d:owned H fz (.r i k);exact hi.sep _ _ b c b' c' d g a l h;have q:=f;simp only[there,owned]at f d;split at f;rename_i T e t xs ver out n;have u:fz.getD i false=true:=by grind
   have p:=hi.rfz i T e t xs ver out n u (.r i k) rfl q b c l;rintro rfl;exact hi.off j b c' g h p;grind
theorem GJ{H:List Ob}{fz:List Bool}{i:Nat}(h:owned H fz i):∃ o,H[i]? = some o/\o≠.free/\o≠.dead:=EK h
theorem ObI.lt{w:World}{F:Nat->Prop}{m:Mp}{H:List Ob}{o:Ob}{b c:Nat}(h:ObI w F m H o (some (b,c)))(i:o≠.free)(j:o≠.dead):b<w.heap.size:=by
 cases o with
  |free=>grind
  |dead=>grind
  |box cs=>obtain⟨b,c,vs,T,a,d,_⟩:=h;grind
  |map k v l=>obtain⟨b,c,vs,T,a,d,_⟩:=h;grind
  |arr T t xs=>obtain⟨_,vs,f,a,_⟩:=h;grind
  |prs T g n=>obtain⟨vs,us,a,_⟩:=h;grind
  |rows T e t xs ver out=>obtain⟨_,h⟩:=h;exact Hdr.lt h
theorem HI.u6{w:World}{F:Nat->Prop}{m:Mp}{H:List Ob}{fz:List Bool}(hi:HI w F m H fz){i:Ix}{b c:Nat}(h:there H i)(d:m i=some (b,c)):b<w.heap.size:=by
 cases i with
  |o i=>obtain⟨o,f,g,j⟩:=h;have:=hi.obj i o f;rw[d]at this;exact this.lt g j
  |r i k=>
   simp only[there]at h;split at h;rename_i T e t xs ver out l;obtain⟨ys,a⟩:∃ ys:List t.den,xs[k]? = some ys:=⟨_,Aaz h⟩
   have:=((hi.row i) T e t xs ver out l k ys a).1;rw[d]at this;exact this.lt (by simp) (by simp);grind
theorem HI.KX{w:World}{F:Nat->Prop}{m:Mp}{H:List Ob}{fz:List Bool}(hi:HI w F m H fz){i:Ix}{b c:Nat}(h:owned H fz i)(a:m i=some (b,c)):b<w.heap.size:=hi.u6 h.there a
def BU(w:World)(F:Nat->Prop)(m:Mp)(H:List Ob)(fz:List Bool)(w':World)(a:Nat->Prop)(b:Mp)(H':List Ob)(fz':List Bool):Prop:=
 Ext w F m H fz w' a b H' fz'/\HI w' a b H' fz'
theorem BU.trans{w c d:World}{F e f:Nat->Prop}{m g i:Mp}{H j l:List Ob}{fz a b:List Bool}
  (h:BU w F m H fz c e g j a) (k:BU c e g j a d f i l b):BU w F m H fz d f i l b:=⟨h.1.trans k.1,k.2⟩
section
variable {w w':World} {F:Nat->Prop} {m:Mp} {H:List Ob} {fz:List Bool}
theorem BU.refl(hi:HI w F m H fz):BU w F m H fz w F m H fz:=⟨Ext.refl ..,hi⟩
theorem BU.grow(hi:HI w F m H fz)(g:w'.os=w.os)(j:w'.tape=w.tape)(k:w'.output=w.output)(e:w.heap.size<=w'.heap.size)(d:∀ b,b<w.heap.size->w'.heap[b]? = w.heap[b]?):
  BU w F m H fz w' F m H fz:=by refine⟨⟨g,j,k,e,fun b h _=>d b h,fun _ h=>h,fun _ h=>.inl h,fun i b c g j=>.inl ⟨i,c,g,j⟩,DT.refl H m⟩,?_,?_,hi.rfz,hi.sep,hi.off,hi.froz,fun b h=>AcI (hi.lt b h) e,hi.glo.mono (fun b f=>d b (hi.lt b f)) (fun _ h=>h),hi.len⟩;exact fun id o l=>ObI.mono (fun b f=>d b (hi.lt b f)) (fun _ h=>h) (DT.refl H m) (fun _ _ b c _ a=>d b a) (hi.obj id o l);exact fun i=>C7.mono (fun b f=>d b (hi.lt b f)) (fun _ h=>h) (DT.refl H m) rfl (fun _ _=>rfl) (fun _ _ _ b c _ a=>d b a) (hi.row i)
theorem BU.drew(hi:HI w F m H fz):BU w F m H fz w.drew F m H fz:=BU.grow hi rfl rfl rfl (Aax _) fun _ _=>rfl
def upd(m:Mp)(i:Nat)(l:Option (Nat×Nat)):Mp:=fun j=>if j = .o i then l else m j
theorem Ba(m:Mp)(i:Nat)(l:Option (Nat×Nat)):upd m i l i=l:=by simp[upd]
theorem Fx{m:Mp}{i:Nat}{j:Ix}{l:Option (Nat×Nat)}(h:j≠.o i):upd m i l j=m j:=by simp[upd,h]
theorem HL{m:Mp}{i j:Nat}{l:Option (Nat×Nat)}(h:j≠i):upd m i l j=m j:=Fx (ATq h)
def Rr(m:Mp)(i:Nat)(l:Option (Nat×Nat))(f:Nat->Option (Nat×Nat)):Mp
 |.o j=>if j=i then l else m (.o j)
 |.r j k=>if j=i then f k else m (.r j k)
theorem NR{m:Mp}{i:Nat}{l:Option (Nat×Nat)}{f:Nat->Option (Nat×Nat)}:Rr m i l f (.o i)=l:=by simp[Rr]
theorem mN{m:Mp}{i k:Nat}{l:Option (Nat×Nat)}{f:Nat->Option (Nat×Nat)}:Rr m i l f (.r i k)=f k:=by simp[Rr]
theorem JB{m:Mp}{i:Nat}{l:Option (Nat×Nat)}{f:Nat->Option (Nat×Nat)}{x:Ix}(h:x.id≠i):Rr m i l f x=m x:=by
 cases x with
  |o j=>have h:j≠i:=h;simp[Rr,h]
  |r j k=>have h:j≠i:=h;simp[Rr,h]
theorem bM{m:Mp}{i j:Nat}{l:Option (Nat×Nat)}(h:j≠i)(x:Ix)(a:x.id=j):upd m i l x=m x:=Fx (by rintro rfl;exact h a.symm)
theorem Bn{H:List Ob}{i j:Nat}{o:Ob}(h:j≠i):(H.set i o)[j]? = H[j]? := by grind
theorem CF{slot:Nat}(h:Bi H fz slot=true):H[slot]? = some .free/\fz.getD slot false=false:=by unfold Bi at h;grind
theorem BW{H:List Ob}{i:Nat}{o:Ob}(h:H[i]? = some o):i<H.length:=by grind
theorem Bs{H:List Ob}{i:Nat}{o:Ob}(h:i<H.length):(H.set i o)[i]? = some o:=by simp[h]
def alive:Ob->Prop
 |.free=>False
 |.dead=>False
 |_=>True
theorem BU.new(hi:HI w F m H fz){slot:Nat}(O:Bi H fz slot=true){ob:Ob}(P:alive ob)(l:Option (Nat×Nat))
  (Q:w'.os=w.os) (R:w'.tape=w.tape) (S:w'.output=w.output) (C:w.heap.size<=w'.heap.size) (L:∀ b,b<w.heap.size->w'.heap[b]? = w.heap[b]?)
  (U:∀ b c,l=some (b,c)->w.heap.size<=b)
  (V:(∀ {a:AV} {v:Value},Rep w F m H a v->Rep w' F (upd m slot l) (H.set slot ob) a v)->ObI w' F (upd m slot l) (H.set slot ob) ob l) (D:CK ob=true:=by rfl) :
  BU w F m H fz w' F (upd m slot l) (H.set slot ob) fz:=by
 obtain⟨E,W⟩:=CF O;have u:=BW E;have p:∀ b,F b->w'.heap[b]? = w.heap[b]? := fun b M=>L b (hi.lt b M);have q:DT H (H.set slot ob) m (upd m slot l):=by
  intro i o f G;have d:i≠slot:=by grind
  rcases DT.refl H m i o f G with h|⟨hd,o',h4,X,_⟩
  grind;exact .inr ⟨hd,o',by grind,X,HL d,fun _ _ k=>Fx (by simp)⟩
 have s:∀ i:Ix,i≠.o slot->(owned (H.set slot ob) fz i↔owned H fz i):=fun i d=>by
  by_cases z:i.id=slot;cases i with
   |o i=>exact absurd (Abx Ix.o z) d
   |r i k=>have z:i=slot:=z;subst z;exact⟨fun h=>absurd h (GG (Bs u) D),fun h=>absurd h (GG E rfl)⟩
  exact Dm (Bn z)
 refine⟨⟨Q,R,S,C,fun b h _=>L b h,fun _ h=>h,fun _ h=>.inl h,?_,q⟩,⟨?_,?_,?_,?_,?_,?_,fun b h=>AcI (hi.lt b h) C,hi.glo.mono p (fun _ h=>h),by simpa using hi.len⟩⟩;intro i b c Y I;by_cases d:i = .o slot;subst d;rw[Ba]at I;grind;rw[Fx d]at I;grind;intro id o f;by_cases d:id=slot;subst d;rw[Bs u]at f;cases f;rw[Ba];exact V fun h=>Rep.mono p (fun _ h=>h) q _ h;rw[Bn d]at f;rw[HL d];exact ObI.mono p (fun _ h=>h) q (fun _ _ b c _ u=>L b u) (hi.obj id o f);intro i;by_cases d:i=slot;subst d;exact C7.plain (Bs u) D;exact C7.mono p (fun _ h=>h) q (Bn d) (fun x N=>bM d x N) (fun _ _ _ b c _ u=>L b u) (hi.row i);intro i T e t xs ver out f G x N Z b c I;by_cases d:i=slot;grind;rw[bM d x N]at I;rw[Bn d]at f;exact hi.rfz i T e t xs ver out f G x N ((Dk (by grind)).1 Z) b c I;intro i j b c b' c' B J K g A;by_cases n:i = .o slot;subst n;have y:=Acd K;rw[Ba]at g;rw[Fx y]at A;have:=hi.KX ((s j y).1 J) A;grind;rw[Fx n]at g;by_cases y:j = .o slot;subst y;rw[Ba]at A;have:=hi.KX ((s i n).1 B) g;grind;rw[Fx y]at A;exact hi.sep i j b c b' c' ((s i n).1 B) ((s j y).1 J) K g A;intro i b c B g M;by_cases n:i = .o slot;subst n;rw[Ba]at g;have:=U b c g;have:=hi.lt b M;omega;rw[Fx n]at g;exact hi.off i b c ((s i n).1 B) g M;intro i T t xs b c f G g;by_cases n:i=slot;grind;rw[HL n]at g;rw[Bn n]at f;exact hi.froz i T t xs b c f G g
theorem BU.set(hi:HI w F m H fz){j b c:Nat}(y:owned H fz j)(z:m j=some (b,c)){o o':Ob}(N:H[j]? = some o)(A:sameShape o o')
  (O:w'.os=w.os) (P:w'.tape=w.tape) (Q:w'.output=w.output) (D:w'.heap.size=w.heap.size) (G:∀ k,k≠b->w'.heap[k]? = w.heap[k]?)
  (R:(∀ {a:AV} {v:Value},Rep w F m H a v->Rep w' F m (H.set j o') a v)->ObI w' F m (H.set j o') o' (m j)) (B:CK o'=true:=by rfl) :
  BU w F m H fz w' F m (H.set j o') fz:=by
 have q:=BW N;have f:∀ b,F b->w'.heap[b]? = w.heap[b]? := fun k S=>G k (by rintro e;exact hi.off j b c y z (e▸S));have g:DT H (H.set j o') m m:=by
  intro i x l E;by_cases d:i=j;subst d;rw[N]at l;cases l;exact .inr ⟨by rintro rfl;simp[sameShape]at A,o',Bs q,A,rfl,fun _ _ _=>rfl⟩
  ·rcases DT.refl H m i x l E with h|⟨hd,X,Y,Z,_⟩
   all_goals grind
 have p:∀ i:Ix,owned (H.set j o') fz i->owned H fz i:=fun i s=>by
  by_cases u:i.id=j;cases i with
   |o i=>have u:i=j:=u;grind
   |r i k=>have u:i=j:=u;subst u;exact absurd s (GG (Bs q) B)
  exact(Dm (Bn u)).1 s
 refine⟨⟨O,P,Q,Ac5 D.symm,fun k _ hk=>G k ?_,fun _ h=>h,fun _ h=>.inl h,fun i b c I C=>.inl ⟨i,c,p i I,C⟩,g⟩,⟨?_,?_,?_,?_,?_,?_,fun b h=>by rw[D];exact hi.lt b h,hi.glo.mono f (fun _ h=>h),by simpa using hi.len⟩⟩;grind;intro id x l;by_cases d:id=j;subst d;rw[Bs q]at l;cases l;exact R fun h=>Rep.mono f (fun _ h=>h) g _ h;rw[Bn d]at l;exact ObI.mono f (fun _ h=>h) g (fun U V b' c' C _=>G b' (hi.ne y z l U V C d)) (hi.obj id x l);intro i;by_cases d:i=j;subst d;exact C7.plain (Bs q) B;exact C7.mono f (fun _ h=>h) g (Bn d) (fun _ _=>rfl) (fun x J K b' c' C _=>G b' (hi.neX y z K C (by rintro rfl;exact d J.symm))) (hi.row i);intro i T e t xs ver out n E x J W b' c' C;by_cases d:i=j;subst d;rw[Bs q]at n;cases n;cases B;rw[Bn d]at n;exact hi.rfz i T e t xs ver out n E x J ((Dk (by grind)).1 W) b' c' C;exact fun i k b c b' c' s L=>hi.sep i k b c b' c' (p i s) (p k L);exact fun i b c s=>hi.off i b c (p i s);intro i T t xs b' c' n E M;by_cases d:i=j;subst d;rw[Bs q]at n;cases n;cases o<;>simp only[sameShape]at A;simp only[owned,Cs]at y;grind;rw[Bn d]at n;exact hi.froz i T t xs b' c' n E M
theorem BU.move(hi:HI w F m H fz){j b c slot:Nat}(z:owned H fz j)(B:m j=some (b,c))(hs:Bi H fz slot=true){ob:Ob}(hal:alive ob){b' c':Nat}
  (L:b'=b\/w.heap.size<=b')
  (h1:w'.os=w.os) (h2:w'.tape=w.tape) (h3:w'.output=w.output) (R:w.heap.size<=w'.heap.size) (X:∀ k,k<w.heap.size->k≠b->w'.heap[k]? = w.heap[k]?)
  (ho:(∀ {a:AV} {v:Value},Rep w F m H a v->Rep w' F (upd m slot (some (b',c'))) ((H.set j .dead).set slot ob) a v)->ObI w' F (upd m slot (some (b',c'))) ((H.set j .dead).set slot ob) ob (some (b',c'))) (S:CK ob=true:=by rfl) :
  BU w F m H fz w' F (upd m slot (some (b',c'))) ((H.set j .dead).set slot ob) fz:=by
 obtain⟨Y,hs2⟩:=CF hs;obtain⟨oj,hj,hjf,hjd⟩:=GJ z;have hjs:j≠slot:=by grind
 have hltj:=BW hj;have hlts:=BW Y;have M:((H.set j .dead).set slot ob)[slot]? = some ob:=Bs (by grind);have U:((H.set j .dead).set slot ob)[j]? = some .dead:=by grind
 have C:∀ i,i≠j->i≠slot->((H.set j .dead).set slot ob)[i]? = H[i]? := fun i h4 h5=>by grind
 have hbF:¬ F b:=hi.off j b c z B;have n:∀ b,F b->w'.heap[b]? = w.heap[b]? := fun k ha=>X k (hi.lt _ ha) (by grind);have p:DT H ((H.set j .dead).set slot ob) m (upd m slot (some (b',c'))):=by
  intro i x q V;have d:i≠slot:=by grind
  by_cases f:i=j;grind;rcases DT.refl H m i x q V with h|⟨hd,x',h4,h5,_⟩
  grind;exact .inr ⟨hd,x',by grind,h5,HL d,fun _ _ k=>Fx (by simp)⟩
 have y:∀ i:Ix,i≠.o slot->owned ((H.set j .dead).set slot ob) fz i->owned H fz i/\i≠.o j:=fun i d s=>by
  by_cases D:i.id=slot;cases i with
   |o i=>exact absurd (Abx Ix.o D) d
   |r i k=>have D:i=slot:=D;subst D;exact absurd s (GG M S)
  by_cases f:i.id=j;obtain⟨o,ho,_,hd⟩:=EK s;grind;exact⟨(Dm (C i.id f D)).1 s,by rintro rfl;exact f rfl⟩
 refine⟨⟨h1,h2,h3,R,fun k hk hn=>X k hk ?_,fun _ h=>h,fun _ h=>.inl h,?_,p⟩,⟨?_,?_,?_,?_,?_,?_,fun b h=>AcI (hi.lt b h) R,hi.glo.mono n (fun _ h=>h),by simpa using hi.len⟩⟩;grind;intro i J c2 ho' K;by_cases d:i = .o slot;subst d;rw[Ba]at K;grind;rw[Fx d]at K;grind;intro id x q;by_cases d:id=slot;subst d;rw[M]at q;cases q;rw[Ba];exact ho fun h=>Rep.mono n (fun _ h=>h) p _ h;rw[HL d];by_cases f:id=j;subst f;rw[U]at q;cases q;trivial;rw[C id f d]at q;exact ObI.mono n (fun _ h=>h) p (fun n1 n2 J c2 K N=>X J N (hi.ne z B q n1 n2 K f)) (hi.obj id x q);intro i;by_cases d:i=slot;subst d;exact C7.plain M S;by_cases f:i=j;subst f;exact C7.plain U rfl;exact C7.mono n (fun _ h=>h) p (C i f d) (fun x O=>bM d x O) (fun x O Z J c2 K N=>X J N (hi.neX z B Z K (by rintro rfl;exact f O.symm))) (hi.row i);intro i T e t xs ver out E V x O ht J c2 K;by_cases d:i=slot;grind;by_cases f:i=j;grind;rw[C i f d]at E;rw[bM d x O]at K;exact hi.rfz i T e t xs ver out E V x O ((Dk (by grind)).1 ht) J c2 K;intro i k P Q J c2 s G W g u;by_cases l:i = .o slot;subst l;have A:=Acd W;rw[Ba]at g;cases g;rw[Fx A]at u;obtain⟨G,hkj⟩:=y k A G;rcases L with rfl|h;exact(hi.sep k j J c2 b' c G z hkj u B).symm;have:=hi.KX G u;omega;rw[Fx l]at g;obtain⟨I,f⟩:=y i l s;by_cases A:k = .o slot;subst A;rw[Ba]at u;cases u;rcases L with rfl|h;exact hi.sep i j P Q b' c I z f g B;have:=hi.KX I g;omega;rw[Fx A]at u;exact hi.sep i k P Q J c2 I (y k A G).1 W g u;intro i P Q s g hF;by_cases l:i = .o slot;subst l;rw[Ba]at g;cases g;rcases L with rfl|h;grind;have:=hi.lt _ hF;omega;rw[Fx l]at g;exact hi.off i P Q (y i l s).1 g hF;intro i T t xs P Q E V g;by_cases l:i=slot;grind;rw[HL l]at g;by_cases f:i=j;grind;rw[C i f l]at E;exact hi.froz i T t xs P Q E V g
def AEw(H:List Ob)(x:Ix):Prop:=there H x/\((∃ T t xs,H[x.id]? = some (.arr T t xs))\/∃ T e t xs ver out,H[x.id]? = some (.rows T e t xs ver out))
def EO(F:Nat->Prop)(m:Mp)(H:List Ob)(ids:List Nat)(b:Nat):Prop:=
 F b\/∃ x:Ix,x.id∈ids/\AEw H x/\∃ c,m x=some (b,c)
theorem EG(ids:List Nat):∀ (fz:List Bool),(BN ids fz).length=fz.length:=by
 induction ids with
  |nil=>intro fz;rfl
  |cons a ids b=>intro fz;rw[BN,b,AdB]
theorem Bm(ids:List Nat):∀ (fz:List Bool) (i:Nat),(BN ids fz).getD i false=(fz.getD i false||(decide (i∈ids)&&decide (i<fz.length))):=by
 induction ids with
  |nil=>intro fz i;simp[BN]
  |cons a ids b=>intro fz i;rw[BN,b,AdB];grind
theorem BU.freeze(hi:HI w F m H fz)(ids:List Nat):BU w F m H fz w (EO F m H ids) m H (BN ids fz):=by
 have n:∀ {i:Nat} {o:Ob},H[i]? = some o->i<fz.length:=fun h=>AcI (BW h) (Ac5 hi.len);have y:∀ {i:Nat},(BN ids fz).getD i false=false->i<fz.length->fz.getD i false=false/\i∉ids:=by intro i h K;rw[Bm]at h;grind
 have f:∀ x:Ix,owned H (BN ids fz) x->owned H fz x/\(x.id∉ids\/¬ AEw H x):=by
  intro x p;cases x with
   |r i k=>simp only[owned]at p |-;split at p;rename_i T e t xs ver out s;obtain⟨a,A⟩:=y p.2 (n s);exact⟨⟨p.1,a⟩,.inl A⟩;grind
   |o i=>
    simp only[owned,Cs]at p |-;cases d:H[i]? with
     |none=>grind
     |some o=>
      rw[d]at p;have L:((∃ T t xs,o=Ob.arr T t xs)\/∃ T e t xs ver out,o=Ob.rows T e t xs ver out)\/¬ AEw H (.o i):=by
       by_cases h:(∃ T t xs,o=Ob.arr T t xs)\/∃ T e t xs ver out,o=Ob.rows T e t xs ver out;grind;refine .inr fun ⟨_,a⟩=>h ?_;rcases a with⟨T,t,xs,a⟩|⟨T,e,t,xs,ver,out,a⟩
       have a:H[i]? = some (.arr T t xs):=a;grind;have a:H[i]? = some (.rows T e t xs ver out):=a;grind
      cases o with
       |free=>grind
       |dead=>grind
       |box cs=>grind
       |map k v M=>grind
       |prs T I N=>grind
       |rows T e t xs ver out=>obtain⟨a,A⟩:=y p (n d);exact⟨a,.inl A⟩
       |arr T t xs=>obtain⟨a,A⟩:=y p (n d);exact⟨a,.inl A⟩
 have g:∀ b,F b->EO F m H ids b:=fun b h=>.inl h;have E:∀ x:Ix,AEw H x->owned H fz x\/(∀ b c,m x=some (b,c)->F b):=by
  rintro x ⟨u,⟨T,t,xs,h⟩|⟨T,e,t,xs,ver,out,h⟩⟩;cases x with
   |r i k=>exact absurd u (sC h rfl)
   |o i=>
    have h:H[i]? = some (.arr T t xs):=h;cases q:fz.getD i false with
     |true=>exact .inr fun b c z=>hi.froz i T t xs b c h q z
     |false=>exact .inl (by simp only[owned,Cs];grind)
  cases q:fz.getD x.id false with
   |true=>exact .inr fun b c z=>hi.rfz x.id T e t xs ver out h q x rfl u b c z
   |false=>
    left;cases x with
     |o i=>simp only[owned,Cs];rw[show H[i]? = _ from h];exact q
     |r i k=>simp only[owned,there]at u |-;rw[show H[i]? = _ from h]at u |-;exact⟨u,q⟩
 refine⟨⟨rfl,rfl,rfl,Aax _,fun _ _ _=>rfl,g,?_,fun i b c s a=>.inl ⟨i,c,(f i s).1,a⟩,DT.refl H m⟩,⟨?_,?_,?_,?_,?_,?_,?_,hi.glo.mono (fun _ _=>rfl) g,by rw[EG];exact hi.len⟩⟩;·rintro b (h|⟨x,q,C,c,D⟩);all_goals grind
 exact fun id o p=>ObI.mono (fun _ _=>rfl) g (DT.refl H m) (fun _ _ _ _ _ _=>rfl) (hi.obj id o p);exact fun i=>C7.mono (fun _ _=>rfl) g (DT.refl H m) rfl (fun _ _=>rfl) (fun _ _ _ _ _ _ _=>rfl) (hi.row i);intro i T e t xs ver out d l x q u b c z;rw[Bm]at l;simp only[Abt,Aau,Aat]at l;rcases l with l|⟨l,_⟩
 exact .inl (hi.rfz i T e t xs ver out d l x q u b c z);exact .inr ⟨x,by grind,⟨u,.inr ⟨T,e,t,xs,ver,out,by grind⟩⟩,c,z⟩;exact fun i j b c b' c' s a=>hi.sep i j b c b' c' (f i s).1 (f j a).1;rintro i b c s a (J|⟨x,q,C,c',D⟩);exact hi.off i b c (f i s).1 a J;have G:x≠i:=by grind
 exact hi.neX (f i s).1 a C.1 D G rfl;intro i T t xs b c d l B;rw[Bm]at l;simp only[Abt,Aau,Aat]at l;rcases l with l|⟨l,_⟩
 exact .inl (hi.froz i T t xs b c d l B);exact .inr ⟨.o i,l,⟨⟨_,d,by simp,by simp⟩,.inl ⟨T,t,xs,d⟩⟩,c,B⟩;rintro b (h|⟨x,_,C,c,D⟩);exact hi.lt b h;exact hi.u6 C.1 D
end
theorem KE(a:Addr)(n:Nat):(a.add n).block=a.block:=by unfold Addr.add;grind
theorem add_add(a:Addr)(i j:Nat):(a.add i).add j=a.add (i+j):=by unfold Addr.add;grind
theorem DG(b o n:Nat):(⟨b,o,none⟩:Addr).add n=⟨b,o+n,none⟩:=by unfold Addr.add;simp
theorem EB{t t':Ty}{d:t.den}{x:t'.den}(h:cast d=some x):∃ e:t=t',e▸d=x:=by unfold cast at h;grind
theorem DX{t t':Ty}{d:List t.den}{x:List t'.den}(h:Oh d=some x):∃ e:t=t',e▸d=x:=by unfold Oh at h;grind
theorem FF{α:Type}{R:α->List Value->Prop}{k:Nat}(b:∀ x cs,R x cs->cs.length=k):∀ {xs:List α} {cs:List Value} (n:Nat),rows R xs cs->rows R (xs.take n) (cs.take (n*k)):=by
 intro xs;induction xs with
  |nil=>rintro cs n rfl;simp[rows]
  |cons x xs c=>
   rintro cs n ⟨d,c2,rfl,a,e⟩;cases n with
    |zero=>simp[rows]
    |succ n=>have f:=b _ _ a;refine⟨d,c2.take (n*k),?_,a,c n e⟩;rw[AdN,AcF,Ac4,Abs (by omega)];grind
theorem Jr{α:Type}{R:α->List Value->Prop}{k:Nat}(c:∀ x cs,R x cs->cs.length=k):∀ {xs:List α} {cs:List Value} (n:Nat),rows R xs cs->rows R (xs.drop n) (cs.drop (n*k)):=by
 intro xs;induction xs with
  |nil=>rintro cs n rfl;simp[rows]
  |cons x xs f=>
   rintro cs n ⟨a,c2,rfl,b,d⟩;cases n with
    |zero=>simp only[List.drop_zero,Ack];exact⟨a,c2,rfl,b,d⟩
    |succ n=>
     have g:=c _ _ b;have e:(a++c2).drop ((n+1)*k)=c2.drop (n*k):=by rw[AcF,Ac4,List.drop_append,AdF (show a.length<=n*k+k by omega),AbW];grind
     grind
theorem ca{α:Type}{R:α->List Value->Prop}{k:Nat}(c:∀ x cs,R x cs->cs.length=k){xs:List α}{cs:List Value}(h:rows R xs cs){i:Nat}{x:α}(f:xs[i]? = some x):
  R x ((cs.drop (i*k)).take k):=by
 have a:=FF c 1 (Jr c i h);rw[Ac4]at a;have d:(xs.drop i).take 1=[x]:=by
  have b:i<xs.length:=by grind
  rw[Abl b];grind
 rw[d]at a;obtain⟨g,c2,e,j,rfl⟩:=a;grind
theorem KR{α:Type}{R:α->List Value->Prop}{xs ys:List α}{cs ds:List Value}(h:rows R xs cs)(e:rows R ys ds):rows R (xs++ys) (cs++ds):=by
 induction xs generalizing cs with
  |nil=>cases h;grind
  |cons x xs a=>obtain⟨b,c2,rfl,c,d⟩:=h;exact⟨b,c2++ds,by simp,c,a d⟩
theorem sb{α:Type}{R:α->List Value->Prop}{k:Nat}(e:∀ x cs,R x cs->cs.length=k):∀ {xs:List α} {cs:List Value} {i:Nat} {y:α} {ds:List Value},rows R xs cs->i<xs.length->R y ds ->
  rows R (xs.set i y) (cs.take (i*k)++ds++cs.drop (i*k+k)):=by
 intro xs;induction xs with
  |nil=>simp
  |cons x xs f=>
   rintro cs i y ds ⟨a,c2,rfl,b,c⟩ hi d;have g:=e _ _ b;cases i with
    |zero=>simp only[List.set_cons_zero,Ack,List.take_zero,AbW,Abo];refine⟨ds,c2,?_,d,c⟩;grind
    |succ i=>simp only[List.set_cons_succ];refine⟨a,_,?_,b,f c (by grind) d⟩;rw[AcF,Ac4,AdN,Abs (show a.length<=i*k+k by omega),List.drop_append,AdF (show a.length<=i*k+k+k by omega)];grind
section
variable {w:World} {F:Nat->Prop} {m:Mp} {H:List Ob} {fz:List Bool}
theorem AJU{ids a:List Nat}(h:∀ i∈ids,i∈a){b:Nat}(c:EO F m H ids b):EO F m H a b:=by
 rcases c with c|⟨i,hi,r⟩
 exact .inl c;exact .inr ⟨i,h i.id hi,r⟩
theorem Dat.frz{t:Ty}{d:t.den}{cs:List Value}{ids:List Nat}(h:Dat w F t d cs):Dat w (EO F m H ids) t d cs:=h.mono (fun _ _=>rfl) (fun _=>.inl) t
theorem Dat.APo{t:Ty}{d:t.den}{cs:List Value}{ids a:List Nat}(b:∀ i∈ids,i∈a)(h:Dat w (EO F m H ids) t d cs):Dat w (EO F m H a) t d cs:=h.mono (fun _ _=>rfl) (fun _=>AJU b) t
theorem iL{vs:Array Value}{a:List Value}(h:vs.toList.take a.length=a){j:Nat}{u:Value}(b:a[j]? = some u):vs[j]? = some u:=by grind
theorem X6{d:Nat->Prop}{l:Option (Nat×Nat)}{T:TypeId}{e:Ty}{xs:List e.den}(h:ObI w F m H (.arr T e xs) l){v:Value}(f:By (some (.arr T e xs)) l v)(i:∀ b,F b->d b)(k:∀ b c,l=some (b,c)->d b):
  Dat w d (.slice e) xs [v]:=by
 obtain⟨_,h⟩:=h;cases l with
  |none=>obtain⟨a,rfl⟩:=f;simp only at h;subst h;exact⟨a,0,rfl,Aax _,fun h=>absurd rfl h⟩
  |some p=>obtain⟨b,cap⟩:=p;obtain⟨vs,g,n,o,s,t,q,y⟩:=h;simp only[By]at f;subst f;refine⟨_,cap,rfl,o,fun _=>⟨_,g,rfl,k b cap rfl,CC (fun x _ cs r=>r.mono (fun _ _=>rfl) i e) q,fun j u z => ?_⟩⟩;rw[DG];simp only[World.cell?,n,Abo];grind
theorem AEv{id:Nat}{T:TypeId}{e:Ty}{xs:List e.den}(a:H[id]? = some (.arr T e xs)){b c:Nat}(d:m id=some (b,c)):EO F m H [id] b:=
 .inr ⟨.o id,by simp[Ix.id],⟨⟨_,a,by simp,by simp⟩,.inl ⟨T,e,xs,a⟩⟩,c,d⟩
theorem ACX(hi:HI w F m H fz){id:Nat}{T:TypeId}{e:Ty}{xs:List e.den}(a:H[id]? = some (.arr T e xs)){v:Value}(b:By (some (.arr T e xs)) (m id) v):
  Dat w (EO F m H [id]) (.slice e) xs [v]:=X6 (hi.obj id _ a) b (fun _=>.inl) fun _ _ c=>AEv a c
theorem AGp{α:Type}{R:α->List Value->Prop}:∀ {xs:List α} {us:List Value},us.length=xs.length->(∀ (k:Nat) (x:α) (u:Value),xs[k]? = some x->us[k]? = some u->R x [u])->rows R xs us:=by
 intro xs;induction xs with
  |nil=>intro us a _;exact AbQ a
  |cons x xs b=>
   intro us a h;match us,a with
   |u::us,a=>exact⟨[u],us,rfl,h 0 x u rfl rfl,b (by grind) fun k y v c d=>h (k+1) y v c d⟩
theorem wH(hi:HI w F m H fz){id:Nat}{T e:TypeId}{t:Ty}{xs:List (List t.den)}{ver:Nat}(i:H[id]? = some (.rows (.arr T) e t xs ver none)){v:Value}(f:By (some (.rows (.arr T) e t xs ver none)) (m id) v):
  Dat w (EO F m H [id]) (.slice (.slice t)) xs [v]:=by
 obtain⟨_,h⟩:=hi.obj id _ i;have g:∀ x:Ix,x.id=id->there H x->∀ b c,m x=some (b,c)->EO F m H [id] b:=fun x A B b c d=>.inr ⟨x,by simp[A],⟨B,.inr ⟨.arr T,e,t,xs,ver,none,by grind⟩⟩,c,d⟩;cases d:m id with
  |none=>rw[d]at h f;obtain⟨a,rfl⟩:=f;obtain⟨_,h⟩:=h;subst h;exact⟨a,0,rfl,Aax _,fun h=>absurd rfl h⟩
  |some p=>
   obtain⟨b,cap⟩:=p;rw[d]at h f;obtain⟨vs,q,C,L,M,N⟩:=h;simp only[By]at f;subst f;refine⟨_,cap,rfl,C,fun _=>⟨_,vs.toList.take (List.length (α:=List t.den) xs),rfl,g (.o id) rfl ⟨_,i,by simp,by simp⟩ b cap d,AGp (by grind) fun k ys u D l => ?_,fun j u l => ?_⟩⟩;obtain⟨E,G⟩:=hi.row id _ e t xs ver none i k ys D;obtain⟨b',s,O,y,⟨I,z,J⟩,K⟩:=G (by simp);rw[d]at y;cases y;rw[q]at z;cases z;have n:k<List.length (α:=List t.den) xs:=by grind
   rw[AdA,Aa5 n,J]at l;cases l;exact X6 E K (fun _=>.inl) (g (.r id k) rfl (by simp only[there];grind));rw[DG];simp only[World.cell?,q,Abo];grind
theorem AP6{α β:Type}{K:α->Value->Prop}{V:β->Value->Prop}:∀ {a:List (α×β)} {c:List MapEntry},c.length=a.length->(∀ (k:Nat) (x:α×β) (u:MapEntry),a[k]? = some x->c[k]? = some u->K x.1 u.key/\V x.2 u.val)->ea K V a c:=by
 intro a;induction a with
  |nil=>intro us b _;exact AbQ b
  |cons x xs d=>
   intro us b h;match us,b with
   |u::us,b=>
    obtain⟨e,f⟩:=h 0 x u rfl rfl
    exact⟨u,us,rfl,e,f,d (by grind) fun k y v g i=>h (k+1) y v g i⟩
theorem pd(hi:HI w F m H fz){id:Nat}{j:IntKind}{d:List Int}{e:TypeId}{t:Ty}{xs:List (List t.den)}{ver:Nat}(p:H[id]? = some (.rows (.map j d) e t xs ver none)){v:Value}(E:Oi (some (.rows (.map j d) e t xs ver none)) (m id) v):
  Dat w (EO F m H [id]) (.mapi j (.slice t)) (List.zip (β:=List t.den) d xs) [v]:=by
 obtain⟨_,h⟩:=hi.obj id _ p;have f:∀ x:Ix,x.id=id->there H x->∀ b c,m x=some (b,c)->EO F m H [id] b:=fun x i G b c g=>.inr ⟨x,by simp[i],⟨G,.inr ⟨.map j d,e,t,xs,ver,none,by grind⟩⟩,c,g⟩;obtain⟨b,cap,g,rfl⟩:=E;rw[g]at h;obtain⟨s,a,y,Q,z,R,_⟩:=h;have I:List.length (α:=List t.den) xs=d.length:=by grind
 have J:s.toList.length=d.length:=by have:=Abx List.length z;grind
 refine⟨b,s,a,rfl,f (.o id) rfl ⟨_,p,by simp,by simp⟩ b cap g,y,AP6 (by grind) fun k x u i K => ?_⟩;rw[List.getElem?_zip_eq_some]at i;obtain⟨S,q⟩:=i;obtain⟨L,M⟩:=hi.row id _ e t xs ver none p k x.2 q;obtain⟨b',A,T,B,⟨N,n,U,C,D,rfl⟩,O⟩:=M (by simp);rw[g]at B;cases B;rw[y]at C;cases C;rw[K]at D;cases D;have P:k<List.length (α:=List t.den) xs:=by grind
 refine⟨?_,X6 L O (fun _=>.inl) (f (.r id k) rfl (by simp only[there];grind))⟩;have:=Abx (fun l:List Value=>l[k]?) z;grind
theorem ACW(hi:HI w F m H fz){id:Nat}{T:TypeId}{e:Ty}{xs:List e.den}(i:H[id]? = some (.arr T e xs)){off n:Nat}{v:Value}(d:I8 (some (.arr T e xs)) (m id) off n v):
  Dat w (EO F m H [id]) (.slice e) (Iq off n xs) [v]:=by
 have h:=hi.obj id _ i;obtain⟨_,h⟩:=h;obtain⟨l,d⟩:=d;have c:(Iq off n xs).length=n:=by unfold Iq;grind
 cases f:m id with
  |none=>
   rw[f]at h d;obtain⟨a,rfl⟩:=d;simp only at h;subst h;have o:n=0:=by grind
   refine⟨a,0,by rw[c],by omega,fun h=>absurd ?_ h⟩;grind
  |some p=>
   obtain⟨b,cap⟩:=p;rw[f]at h d;obtain⟨vs,g,q,z,A,B,r,C⟩:=h;obtain⟨a,rfl,s⟩:=d;have k:=fun(x:e.den) cs (h:Dat w F e x cs)=>Dat.length e h;refine⟨a,cap-off,by rw[c],by omega,fun t => ?_⟩;have o:0<n:=by grind
   refine⟨_,(g.drop (off*e.size)).take (n*e.size),s (by omega),AEv i f,CC (fun x _ cs y=>y.frz) (FF k n (Jr k off r)),fun j u D => ?_⟩;rw[DG];simp only[World.cell?,q];grind
theorem lM(hi:HI w F m H fz){t:Ty}{v:AV}{x:t.den}{i:List Nat}(h:E9 H t v=some (x,i))(k:t.isAgg=false){u:Value}(a:Rep w F m H v u):Dat w (EO F m H i) t x [u]:=by unfold E9 at h;split at h;rename_i t' d;simp only[Aa0,Aa4]at h;obtain⟨y,c,rfl,rfl⟩:=h;obtain⟨e,b⟩:=EB c;subst e;simp only at b;subst b;unfold Rep Cl at a;rw[k]at a;exact Dat.frz (by grind);rename_i g d;simp only[Aa0,Aa4]at h;obtain⟨y,c,rfl,rfl⟩:=h;obtain⟨e,b⟩:=EB c;subst e;simp only at b;subst b;unfold Rep at a;exact Dat.frz a.1;split at h;simp only[Aas,Aa4]at h;obtain⟨rfl,rfl⟩:=h;unfold Rep at a;subst a;exact⟨none,0,rfl,Aax _,fun h=>absurd rfl h⟩;simp only[Aas,Aa4]at h;obtain⟨_,rfl⟩:=h;unfold Rep at a;subst a;rfl;grind;rename_i id;split at h;rename_i T e xs f;simp only[Aa0,Aa4]at h;obtain⟨y,c,rfl,rfl⟩:=h;obtain⟨g,b⟩:=EB c;subst g;simp only at b;subst b;unfold Rep at a;rw[f]at a;exact ACX hi f a;grind;rename_i id off n;split at h;rename_i T e xs f;simp only[Aa0,Aa4]at h;obtain⟨y,c,rfl,rfl⟩:=h;obtain⟨g,b⟩:=EB c;subst g;simp only at b;subst b;unfold Rep at a;rw[f]at a;exact ACW hi f a;grind;rename_i id;split at h;rename_i j l _ e xs ver f;simp only[Aa0,Aa4]at h;obtain⟨y,c,rfl,rfl⟩:=h;obtain⟨g,b⟩:=EB c;subst g;simp only at b;subst b;unfold Rep at a;rw[f]at a;exact pd hi f a;grind;grind
theorem AUa{α:Type}{one:List AV->Option (α×List Nat×List AV)}{R:List Nat->α->List Value->Prop}
  (k:∀ d e x cs,(∀ i∈d,i∈e)->R d x cs->R e x cs)
  (p:∀ cs x d a us,one cs=some (x,d,a)->BG w F m H cs us->∃ b c,us=b++c/\R d x b/\BG w F m H a c) :
  ∀ (n:Nat) {cs:List AV} {xs:List α} {d:List Nat} {a:List AV} {us:List Value},UO one n cs=some (xs,d,a)->BG w F m H cs us ->
   ∃ b c,us=b++c/\xs.length=n/\rows (R d) xs b/\BG w F m H a c:=by
 intro n;induction n with
  |zero=>intro cs xs d a us h j;simp only[UO,Aas,Aa4]at h;obtain⟨rfl,rfl,rfl⟩:=h;exact⟨[],us,rfl,rfl,rfl,j⟩
  |succ n q=>intro cs xs d a us h j;simp only[UO]at h;split at h;cases h;rename_i x f r s;split at h;cases h;rename_i ys g t hi;simp only[Aas,Aa4]at h;obtain⟨rfl,rfl,rfl⟩:=h;obtain⟨l,D,rfl,u,v⟩:=p _ _ _ _ _ s j;obtain⟨o,y,rfl,z,A,B⟩:=q hi v;exact⟨l++o,y,by simp,by simp[z],⟨l,o,rfl,k _ _ _ _ (fun i hi=>by simp[hi]) u,CC (fun x _ cs C=>k _ _ _ _ (fun i hi=>by simp[hi]) C) A⟩,B⟩
theorem eD(hi:HI w F m H fz):∀ (t:Ty) {cs:List AV} {x:t.den} {l:List Nat} {d:List AV} {us:List Value},BZ H t cs=some (x,l,d)->BG w F m H cs us ->
  ∃ r s,us=r++s/\Dat w (EO F m H l) t x r/\BG w F m H d s:=by
 have cell:∀ (t:Ty),t.isAgg=false->∀ {c:AV} {cs:List AV} {x:t.den} {l:List Nat} {d:List AV} {us:List Value} {p:Option (t.den×List Nat)},E9 H t c=p ->
   p=some (x,l)->cs=d->BG w F m H (c::cs) us ->
   ∃ r s,us=r++s/\Dat w (EO F m H l) t x r/\BG w F m H d s:=by
  rintro t K c cs x l d us p q rfl rfl o
  unfold BG at o
  obtain⟨v,D,rfl,A,u⟩:=o
  exact⟨[v],D,rfl,lM hi q K A,u⟩
 intro t;induction t with
  |unit=>intro cs x l d us h o;simp only[BZ,Aas,Aa4]at h;obtain⟨_,rfl,rfl⟩:=h;exact⟨[],us,rfl,rfl,o⟩
  |bool=>
   intro cs x l d us h o;cases cs with
    |nil=>simp[BZ]at h
    |cons c cs=>unfold BZ at h;split at h;cases h;rename_i y f q;simp only[Aas,Aa4]at h;obtain⟨A,u,B⟩:=h;exact cell .bool rfl q (by grind) B o
  |int k=>
   intro cs x l d us h o;cases cs with
    |nil=>simp[BZ]at h
    |cons c cs=>unfold BZ at h;split at h;cases h;rename_i y f q;simp only[Aas,Aa4]at h;obtain⟨A,u,B⟩:=h;exact cell (.int k) rfl q (by grind) B o
  |slice e _=>
   intro cs x l d us h o;cases cs with
    |nil=>simp[BZ]at h
    |cons c cs=>unfold BZ at h;split at h;cases h;rename_i y f q;simp only[Aas,Aa4]at h;obtain⟨A,u,B⟩:=h;exact cell (.slice e) rfl q (by grind) B o
  |nul e=>
   intro cs x l d us h o;cases cs with
    |nil=>simp[BZ]at h
    |cons c cs=>unfold BZ at h;split at h;cases h;rename_i y f q;simp only[Aas,Aa4]at h;obtain⟨_,u,B⟩:=h;exact cell (.nul e) rfl q (by rw[u]) B o
  |mapi j e _=>
   intro cs x l d us h o;cases cs with
    |nil=>simp[BZ]at h
    |cons c cs=>unfold BZ at h;split at h;cases h;rename_i y f q;simp only[Aas,Aa4]at h;obtain⟨A,u,B⟩:=h;exact cell (.mapi j e) rfl q (by grind) B o
  |prod a b E G=>intro cs x l d us h o;simp only[BZ]at h;split at h;cases h;rename_i y f L q;split at h;cases h;rename_i z g M N;simp only[Aas,Aa4]at h;obtain⟨rfl,rfl,rfl⟩:=h;obtain⟨C,I,rfl,O,P⟩:=E q o;obtain⟨J,Q,rfl,S,T⟩:=G N P;exact⟨C++J,Q,by simp,⟨C,J,rfl,O.APo (fun i hi=>by simp[hi]),S.APo (fun i hi=>by simp[hi])⟩,T⟩
  |arr n e U=>intro cs x l d us h o;simp only[BZ]at h;obtain⟨C,I,V,W,X,Y⟩:=AUa (R:=fun l=>Dat w (EO F m H l) e) (fun l Z x cs A u=>u.APo A) (fun cs x l d us A u=>U A u) n h o;exact⟨C,I,V,⟨W,X⟩,Y⟩
theorem EU(hi:HI w F m H fz){t:Ty}{v:AV}{x:t.den}{c:List Nat}(h:GW H t v=some (x,c)){u:Value}(a:Rep w F m H v u):Cl w (EO F m H c) t x u:=by unfold GW at h;split at h;rename_i b;unfold Cl;rw[Aa5 b];unfold asAgg at h;split at h;rename_i t' d;simp only[Aa0,Aa4]at h;obtain⟨y,k,rfl,rfl⟩:=h;obtain⟨e,g⟩:=EB k;subst e;simp only at g;subst g;unfold Rep Cl at a;rw[Aa5 b]at a;obtain⟨vs,i,j⟩:=a;exact⟨vs,i,j.frz⟩;rename_i cs;split at h;rename_i y f l;simp only[Aas,Aa4]at h;obtain⟨rfl,rfl⟩:=h;unfold Rep at a;obtain⟨vs,rfl,a,_⟩:=a;obtain⟨o,p,i,j,n⟩:=eD hi t l a;unfold BG at n;grind;grind;grind;rename_i b;unfold Cl;rw[Aa2 (by simp[b])];exact lM hi h b a
theorem ARC(hi:HI w F m H fz){t:Ty}{v:AV}{x:t.den}{b:List Nat}(h:fe H t v=some (x,b)){u:Value}(a:Rep w F m H v u):Cl w (EO F m H b) t x u:=by unfold fe at h;split at h;split at h;rename_i id T e t' xs ver c;simp only[Aa0,Aa4]at h;obtain⟨y,f,rfl,rfl⟩:=h;obtain⟨g,d⟩:=EB f;subst g;simp only at d;subst d;unfold Rep at a;rw[c]at a;exact wH hi c a;exact EU hi h a;exact EU hi h a
theorem vk{n:Nat}(e:Ty)(d:List e.den)(h:d.length=n):CN (.arr n e) d=d.flatMap (CN e):=by
 have a:∀ (xs:List e.den) (f:Nat->e.den),(∀ i,i<xs.length->f i=xs.getD i e.zero)->((List.range xs.length).flatMap fun i=>CN e (f i))=xs.flatMap (CN e):=by
  intro xs;induction xs with
   |nil=>simp
   |cons x xs b=>intro f c;rw[Aa1,List.range_succ_eq_map,Abr,Abr,List.flatMap_map];simp_all
 subst h;exact a d (fun i=>A9 d i e.zero) fun i _=>rfl
theorem Kj:∀ (t:Ty) {d:t.den} {cs:List Value},Dat w F t d cs->BG w F m H (CN t d) cs:=by
 have one:∀ (t:Ty) (d:t.den) (u:Value),t.isAgg=false->Dat w F t d [u]->BG w F m H [.data t d] [u]:=by intro t d u y h;unfold BG;refine⟨u,[],rfl,?_,?_⟩;unfold Rep Cl;grind;unfold BG;rfl
 intro t;induction t with
  |unit=>rintro d cs rfl;simp only[CN];unfold BG;rfl
  |bool=>rintro d cs h;obtain rfl:=h;exact one .bool d _ rfl rfl
  |int k=>rintro d cs h;obtain rfl:=h;exact one (.int k) d _ rfl rfl
  |slice e _=>rintro d cs h;obtain⟨a,cap,rfl,c,f⟩:=h;exact one (.slice e) d _ rfl ⟨a,cap,rfl,c,f⟩
  |nul e=>rintro d cs h;obtain rfl:=h;simp only[CN];unfold BG;exact⟨_,[],rfl,by unfold Rep;rfl,by unfold BG;rfl⟩
  |mapi j e _=>rintro d cs h;have q:=h;obtain⟨b,z,i,rfl,_⟩:=q;exact one (.mapi j e) d _ rfl h
  |prod a b l o=>rintro d cs ⟨r,c2,rfl,c,f⟩;exact Is (l c) (o f)
  |arr n e s=>
   rintro d cs ⟨g,h⟩;rw[vk e d g];have v:∀ (xs:List e.den) (cs:List Value),rows (Dat w F e) xs cs->BG w F m H (xs.flatMap (CN e)) cs:=by
    intro xs;induction xs with
     |nil=>rintro cs rfl;simp only[Adr];unfold BG;rfl
     |cons x xs p=>rintro cs ⟨r,c2,rfl,c,f⟩;rw[Abr];exact Is (s c) (p _ f)
   grind
theorem QJ{v:AV}{u:Value}(a:Rep w F m H v u):BG w F m H [v] [u]:=by unfold BG;exact⟨u,[],rfl,a,by unfold BG;rfl⟩
theorem NG:BG w F m H [] []:=by unfold BG;rfl
theorem G2{u:Value}(h:u.oneCell'=true):u.cells.toList=[u]:=by cases u<;>first|rfl|(simp[Value.oneCell']at h)
def AEQ:AV->Prop
 |.DM=>False
 |.tup _=>False
 |.agg _=>False
 |.data t _=>t.isAgg=false
 |_=>True
theorem dQ{v:AV}{u:Value}(b:Rep w F m H v u)(h:AEQ v):u.oneCell'=true:=by
 cases v with
  |DM=>exact h.elim
  |tup vs=>exact h.elim
  |agg cs=>exact h.elim
  |data t d=>unfold AEQ at h;unfold Rep Cl at b;rw[h]at b;exact Dat.JH t (by simpa using b) u (by simp)
  |nils e=>unfold Rep at b;subst b;rfl
  |clip t xs=>unfold Rep at b;obtain⟨_,a,rfl⟩:=b;rfl
  |own id=>
   unfold Rep at b;cases c:H[id]? with
    |none=>rw[c]at b;exact b.elim
    |some o=>rw[c]at b;exact b.one
  |win id off n=>
   unfold Rep at b;cases c:H[id]? with
    |none=>rw[c]at b;exact b.elim
    |some o=>rw[c]at b;exact b.one
  |ptr id off=>
   unfold Rep at b;cases c:H[id]? with
    |none=>rw[c]at b;exact b.elim
    |some o=>rw[c]at b;exact b.one
  |eptr id i sub=>
   unfold Rep at b;cases c:H[id]? with
    |none=>rw[c]at b;exact b.elim
    |some o=>rw[c]at b;exact b.one
  |dptr cs=>unfold Rep at b;obtain⟨ad,us,rfl,_⟩:=b;rfl
  |clo f cs=>unfold Rep at b;obtain⟨us,rfl,_⟩:=b;rfl
  |bnd f cs=>unfold Rep at b;obtain⟨us,rfl,_⟩:=b;rfl
  |str xs=>unfold Rep at b;obtain⟨us,rfl,_⟩:=b;rfl
  |mp id=>
   unfold Rep at b;cases c:H[id]? with
    |none=>rw[c]at b;exact b.elim
    |some o=>rw[c]at b;exact b.one
  |rowp id i ver=>
   unfold Rep at b;cases c:H[id]? with
    |none=>rw[c]at b;exact b.elim
    |some o=>rw[c]at b;exact b.one
  |glob g=>unfold Rep at b;subst b;rfl
  |nilp=>unfold Rep at b;subst b;rfl
  |ifc o=>unfold Rep at b;subst b;rcases o with _|⟨T,l⟩<;>rfl
  |aptr id n=>
   unfold Rep at b;cases c:H[id]? with
    |none=>rw[c]at b;exact b.elim
    |some o=>rw[c]at b;exact b.one
theorem cells?_ok{v:AV}{cs:List AV}(h:cells? v=some cs){u:Value}(c:Rep w F m H v u):BG w F m H cs u.cells.toList:=by
 have agg:∀ (t:Ty) (d:t.den),t.isAgg=true->Rep w F m H (.data t d) u->BG w F m H (CN t d) u.cells.toList:=by intro t d q c;unfold Rep Cl at c;rw[Aa5 q]at c;obtain⟨vs,rfl,hd⟩:=c;exact Kj t hd
 have one:AEQ v->cs=[v]->BG w F m H cs u.cells.toList:=by rintro r rfl;rw[G2 (dQ c r)];exact QJ c
 cases v with
  |DM=>simp[cells?]at h
  |tup vs=>simp[cells?]at h
  |agg l=>simp only[cells?,Aas]at h;subst h;unfold Rep at c;obtain⟨vs,rfl,p,_⟩:=c;exact p
  |data t d=>
   cases t with
    |unit=>simp only[cells?,Aas]at h;subst h;exact agg .unit d rfl c
    |prod a b=>simp only[cells?,Aas]at h;subst h;exact agg _ d rfl c
    |arr n e=>simp only[cells?,Aas]at h;subst h;exact agg _ d rfl c
    |bool=>exact one rfl (by simpa [cells?]using h.symm)
    |int k=>exact one rfl (by simpa [cells?]using h.symm)
    |slice e=>exact one rfl (by simpa [cells?]using h.symm)
    |nul e=>exact one rfl (by simpa [cells?]using h.symm)
    |mapi j e=>exact one rfl (by simpa [cells?]using h.symm)
  |nils e=>exact one trivial (by simpa [cells?]using h.symm)
  |clip t xs=>exact one trivial (by simpa [cells?]using h.symm)
  |own id=>exact one trivial (by simpa [cells?]using h.symm)
  |win id off n=>exact one trivial (by simpa [cells?]using h.symm)
  |ptr id off=>exact one trivial (by simpa [cells?]using h.symm)
  |eptr id i sub=>exact one trivial (by simpa [cells?]using h.symm)
  |dptr l=>exact one trivial (by simpa [cells?]using h.symm)
  |clo f l=>exact one trivial (by simpa [cells?]using h.symm)
  |bnd f l=>exact one trivial (by simpa [cells?]using h.symm)
  |str xs=>exact one trivial (by simpa [cells?]using h.symm)
  |mp id=>exact one trivial (by simpa [cells?]using h.symm)
  |rowp id i ver=>exact one trivial (by simpa [cells?]using h.symm)
  |glob g=>exact one trivial (by simpa [cells?]using h.symm)
  |nilp=>exact one trivial (by simpa [cells?]using h.symm)
  |ifc o=>exact one trivial (by simpa [cells?]using h.symm)
  |aptr id n=>exact one trivial (by simpa [cells?]using h.symm)
theorem cells?_one{v:AV}{cs:List AV}(h:cells? v=some cs){u:Value}(c:Rep w F m H v u):∀ x∈u.cells.toList,x.oneCell'=true:=by
 have one:AEQ v->∀ x∈u.cells.toList,x.oneCell'=true:=by intro q x r;have p:=dQ c q;rw[G2 p]at r;grind
 have agg:∀ (t:Ty) (d:t.den),t.isAgg=true->Rep w F m H (.data t d) u->∀ x∈u.cells.toList,x.oneCell'=true:=by intro t d s c;unfold Rep Cl at c;rw[Aa5 s]at c;obtain⟨vs,rfl,hd⟩:=c;exact Dat.JH t hd
 cases v with
  |DM=>simp[cells?]at h
  |tup vs=>simp[cells?]at h
  |agg l=>unfold Rep at c;obtain⟨vs,rfl,_,p⟩:=c;exact p
  |data t d=>
   cases t with
    |unit=>exact agg .unit d rfl c
    |prod a b=>exact agg _ d rfl c
    |arr n e=>exact agg _ d rfl c
    |bool=>exact one rfl
    |int k=>exact one rfl
    |slice e=>exact one rfl
    |nul e=>exact one rfl
    |mapi j e=>exact one rfl
  |nils e=>exact one trivial
  |clip t xs=>exact one trivial
  |own id=>exact one trivial
  |win id off n=>exact one trivial
  |ptr id off=>exact one trivial
  |eptr id i sub=>exact one trivial
  |dptr l=>exact one trivial
  |clo f l=>exact one trivial
  |bnd f l=>exact one trivial
  |str xs=>exact one trivial
  |mp id=>exact one trivial
  |rowp id i ver=>exact one trivial
  |glob g=>exact one trivial
  |nilp=>exact one trivial
  |ifc o=>exact one trivial
  |aptr id n=>exact one trivial
theorem NL:∀ (cs:List AV) (vs:List Value),C1 cs vs=true->∀ x∈vs,x.oneCell'=true:=by
 intro cs;induction cs with
  |nil=>
   intro vs h x a;cases vs with
    |nil=>cases a
    |cons v vs=>simp[C1]at h
  |cons c cs b=>
   intro vs h x a;cases vs with
    |nil=>cases a
    |cons v vs=>
     simp only[C1,Aau]at h;rcases AbD.1 a with rfl|a;have h:=h.1;unfold EE at h;split at h<;>first|rfl|cases h
     grind
theorem Li{cs new out:List AV}{off:Nat}(h:Ey cs new off=some out){us vs:List Value}(b:BG w F m H cs us)(c:BG w F m H new vs):
  off+new.length<=cs.length/\BG w F m H out (us.take off++vs++us.drop (off+new.length)):=by unfold Ey at h;split at h;rename_i a;simp only[Aas]at h;subst h;exact⟨a,Is (Is (RI b off) c) (GS b _)⟩;grind
theorem ACb(v:Value):Rep w F m H (pn v) v:=by unfold pn;split;unfold Rep Cl;exact rfl;unfold Rep Cl;exact rfl;unfold Rep;rfl;unfold Rep;rfl;unfold Rep;simp;unfold Rep;rfl;unfold Rep;trivial
theorem Fp{b:Tm}{a:Act}(h:∀ t,Rep w F m H (b.f t) (a.tmps.getD t undef))(x:Operand):Rep w F m H (Bc b x) (a.eval x):=by
 cases x with
  |tmp t=>exact h t
  |const v=>exact ACb v
  |func f=>unfold Bc Rep;exact⟨#[],rfl,NG⟩
  |global g=>unfold Bc Rep;rfl
theorem JA:∀ (cs:List AV) (vs:List Value),C1 cs vs=true->BG w F m H cs vs:=by
 intro cs;induction cs with
  |nil=>intro vs h;cases vs with
   |nil=>exact NG
   |cons v vs=>simp[C1]at h
  |cons c cs a=>
   intro vs h;cases vs with
    |nil=>simp[C1]at h
    |cons v vs=>simp only[C1,Aau]at h;unfold BG;refine⟨v,vs,rfl,?_,a vs h.2⟩;have h:=h.1;unfold EE at h;split at h;simp only[Ace]at h;subst h;unfold Rep Cl;exact rfl;simp only[Aau,Aat,Ace]at h;obtain⟨rfl,rfl⟩:=h;unfold Rep Cl;exact rfl;unfold Rep;rfl;grind
end
section
variable {P:Program} {w:World}
theorem run_typeInfo{T:TypeId}{i:TypeInfo}(h:P.info? T=some i):(typeInfo T).run P w = .ok i w:=by simp[typeInfo,h]
theorem run_sizeOf{T:TypeId}{i:TypeInfo}(h:P.info? T=some i):(sizeOf T).run P w = .ok i.size w:=by simp[sizeOf,run_typeInfo h]
theorem B0{T:TypeId}{n:Nat}(h:CO P T=some n):∃ i,P.info? T=some i/\i.size=n:=by unfold CO at h;simp_all
theorem Dg{T:TypeId}{b:Bool}(h:Fq P T=some b):(isAgg T).run P w = .ok b w:=by unfold Fq at h;split at h;rename_i a;simp only[Aas]at h;subst h;simp[isAgg,run_underlying a];rename_i a;simp only[Aas]at h;subst h;simp[isAgg,run_underlying a];rename_i d c e a;simp only[Aas]at h;subst h;simp only[isAgg,Sem.run_bind,run_underlying a,Result.andThen_ok];rfl;grind
theorem D0{F:Nat->Prop}{m:Mp}{H:List Ob}{T:TypeId}{n:Nat}{ag:Bool}(g:CO P T=some n)(e:Fq P T=some ag){cs:List AV}{us:List Value}{v:AV}{ad:Addr}
  (a:loadCells ag n cs=some v) (b:BG w F m H cs us) (h:∀ u∈us,u.oneCell'=true) (k:∀ j u,us[j]? = some u->w.cell? (ad.add j)=some u) :
  ∃ u,(loadVar T ad).run P w = .ok u w/\Rep w F m H v u:=by
 obtain⟨i,hi,rfl⟩:=B0 g;unfold loadCells at a;cases ag with
  |true=>
   simp only at a;split at a;rename_i l;simp only[Aas]at a;subst a;have f:=Be b;have d:(us.take i.size).length=i.size:=by grind
   refine⟨.agg (us.take i.size).toArray,?_,?_⟩;have:=run_loadCells_list (P:=P) w ad (us.take i.size) (fun j u o=>by grind)
   rw[d]at this;simp[loadVar,Dg e,run_sizeOf hi,this];unfold Rep;exact⟨_,rfl,by simpa using RI b i.size,fun u o=>h u (by grind)⟩;grind
  |false=>
   simp only at a;cases cs with
    |nil=>grind
    |cons c cs=>
     simp only[List.head?_cons,Aas]at a;subst a;unfold BG at b;obtain⟨u,p,rfl,q,_⟩:=b;refine⟨u,?_,q⟩;have:=k 0 u rfl;have r:ad.add 0=ad:=by simp[Addr.add]
     rw[r]at this;simp[loadVar,Dg e,this]
theorem EY{T c:TypeId}{n:Nat}(f:CO P T=some n){b off:Nat}{a:Array Value}(g:w.heap[b]? = some (.cells a c (0,0))){u:Value}(d:u.cells.size=n)
  (h:∀ x∈u.cells.toList,x.oneCell'=true) (e:off+n<=a.size) :
  (storeVar T ⟨b,off,none⟩ u).run P w = .ok () (w.setRow b (a.toList.take off++u.cells.toList++a.toList.drop (off+n)).toArray):=by obtain⟨i,hi,rfl⟩:=B0 f;have:=run_storeCells_at P b off c u.cells.toList 0 a w g (by grind) h;simp only[AcD,AbH]at this;rw[d]at this;simp[storeVar,run_sizeOf hi,d,this]
theorem Ci{T:TypeId}{t:Ty}{cs:List AV}(h:zeroAt P T=some (t,cs)):mP P T=some t/\cs=zeroCells t/\∃ i z,P.info? T=some i/\i.zero=some z/\C1 cs z.cells.toList=true/\i.size=t.size/\t.isAgg=Sx z:=by unfold zeroAt at h;grind
theorem CH{T:TypeId}{i:TypeInfo}{z:Value}(h:P.info? T=some i)(a:i.zero=some z):(zeroValue T).run P w = .ok z w:=by simp[zeroValue,run_typeInfo h,a]
theorem Ca{F:Nat->Prop}:∀ (t:Ty) (vs:List Value),C1 (zeroCells t) vs=true->Dat w F t t.zero vs:=by
 have app:∀ (d m:List AV) (vs:List Value),C1 (d++m) vs=true->∃ g i,vs=g++i/\C1 d g=true/\C1 m i=true:=by
  intro d;induction d with
   |nil=>intro m vs h;exact⟨[],vs,rfl,rfl,h⟩
   |cons a d p=>
    intro m vs h;cases vs with
     |nil=>simp[C1]at h
     |cons v vs=>simp only[AbO,C1,Aau]at h;obtain⟨g,i,rfl,c,o⟩:=p m vs h.2;exact⟨v::g,i,rfl,by simp[C1,h.1,c],o⟩
 have one:∀ (a:AV) (vs:List Value),C1 [a] vs=true->∃ v,vs=[v]/\EE a v=true:=by
  intro a vs h;cases vs with
   |nil=>simp[C1]at h
   |cons v vs=>
    simp only[C1,Aau]at h;cases vs with
     |nil=>grind
     |cons x xs=>simp[C1]at h
 intro t;induction t with
  |unit=>intro vs h;cases vs with
   |nil=>exact rfl
   |cons v vs=>simp[C1,zeroCells]at h
  |bool=>intro vs h;obtain⟨v,l,f⟩:=one (.data .bool false) _ h;subst l;clear h;have h:=f;unfold EE at h;split at h;rename_i c;simp only[AV.data.injEq]at c;simp only[Ace]at h;subst h;obtain⟨_,c⟩:=c;exact Abx (fun b=>[Value.bool b]) (eq_of_heq c).symm;all_goals grind
  |int k=>intro vs h;obtain⟨v,l,f⟩:=one (.data (.int k) (0:Int)) _ h;subst l;clear h;have h:=f;unfold EE at h;split at h;grind;rename_i c;simp only[AV.data.injEq,Ty.int.injEq]at c;simp only[Aau,Aat,Ace]at h;obtain⟨rfl,c⟩:=c;obtain⟨rfl,rfl⟩:=h;exact Abx (fun n=>[Value.int k n]) (eq_of_heq c).symm;all_goals grind
  |slice e _=>intro vs h;obtain⟨v,l,f⟩:=one (.nils e) _ h;subst l;clear h;have h:=f;unfold EE at h;split at h;grind;grind;exact⟨none,0,rfl,Aax _,fun h=>absurd rfl h⟩;grind
  |nul e=>intro vs h;obtain⟨v,l,f⟩:=one (.nils e) _ h;subst l;clear h;have h:=f;unfold EE at h;split at h;grind;grind;rfl;grind
  |mapi j e _=>intro vs h;obtain⟨v,l,f⟩:=one .DM _ h;simp[EE]at f
  |prod a b q r=>intro vs h;obtain⟨g,i,rfl,c,o⟩:=app _ _ _ h;exact⟨g,i,rfl,q _ c,r _ o⟩
  |arr n e p=>
   intro vs h;refine⟨by simp[Ty.zero],?_⟩;simp only[zeroCells]at h;have s:∀ (n:Nat) (vs:List Value),C1 (List.replicate n (zeroCells e)).flatten vs=true->rows (Dat w F e) (List.replicate n e.zero) vs:=by
    intro n;induction n with
     |zero=>intro vs h;cases vs with
      |nil=>exact rfl
      |cons v vs=>simp[C1]at h
     |succ n u=>intro vs h;rw[List.replicate_succ,Adh]at h;obtain⟨g,i,rfl,c,o⟩:=app _ _ _ h;exact⟨g,i,rfl,p _ c,u _ o⟩
   exact s n vs h
theorem QO{F:Nat->Prop}{t:Ty}{z:Value}(h:C1 (zeroCells t) z.cells.toList=true)(a:t.isAgg=Sx z):Cl w F t t.zero z:=by
 have hd:=Ca (w:=w) (F:=F) t _ h;unfold Cl;split;rename_i b;rw[b]at a;cases z<;>simp[Sx]at a;exact⟨_,rfl,hd⟩;rename_i b;have c:z.cells.toList=[z]:=by cases z<;>simp_all [Sx,Value.cells]
 grind
end
def I0(P:Program)(g:FuncId):Prop:=∀ args w,(callFunc g args).run P w = .ok (.enter g args) w
def BS(P:Program)(g:FuncId)(s:Spec):Prop:=
 ∀ R args H fz slot k r,s R args H fz slot k=some r->∃ v e,k v e=some r/\(∀ f b,s f args H fz slot b=b v e)/\I0 P g /\
  ∀ w F m a,HI w F m H fz->BG w F m H args a->Calls P g a.toArray w fun h w'=>∃ u,h = .returned u/\∃ c d,BU w F m H fz w' c d (C6 e H) (FY e fz)/\Rep w' c d (C6 e H) v u
def IH(P:Program)(g:FuncId)(f:Spec)(s:NH):Prop:=
 ∀ R args H fz slot k kp r,s R args H fz slot k kp=some r ->
  (∃ v e,k v e=some r/\(∀ d c a,s d args H fz slot c a=c v e)/\∀ d c,f d args H fz slot c=c v e) \/
  (∃ p e,kp p e=some r/\(∀ d c a,s d args H fz slot c a=a p e)/\I0 P g /\
   ∀ w F m b,HI w F m H fz->BG w F m H args b->Calls P g b.toArray w fun h w'=>h = .panicked [DC p]/\∃ i j,BU w F m H fz w' i j (C6 e H) (FY e fz))
def G7(P:Program)(E:Env):Prop:=∀ g s,E.pan g=some s->IH P g (E.spec g) s
def qc(P:Program)(d:Op)(ty:TypeId)(ρ:Operand->AV)(H:List Ob)(fz:List Bool)(v:AV)(e:Eff):Prop:=
 ∀ (w:World) (F:Nat->Prop) (m:Mp) (a:Act) (o:Oper) (next:Act->World->Prop) (Q:Exit->Act->World->Prop),o.op=d->o.type=ty->HI w F m H fz->(∀ x,Rep w F m H (ρ x) (a.eval x)) ->
  (∀ u w' b c,BU w F m H fz w' b c (C6 e H) (FY e fz)->Rep w' b c (C6 e H) v u->next (a.put o.dst u) w')->o.wp P a w next Q
section
variable {P:Program} {op:Op} {ty:TypeId} {ρ:Operand->AV} {H:List Ob} {fz:List Bool} {v:AV} {e:Eff}
theorem Bt(h:∀ (w:World) (F:Nat->Prop) (m:Mp) (ρc:Operand->Value) (o:Oper),o.op=op->o.type=ty->HI w F m H fz->(∀ x,Rep w F m H (ρ x) (ρc x)) ->
  ∃ u w' b d,(execOp ρc o).run P w = .ok (.value u) w'/\BU w F m H fz w' b d (C6 e H) (FY e fz)/\Rep w' b d (C6 e H) v u):qc P op ty ρ H fz v e:=by
 intro w F m a o next Q f g hi i j
 obtain⟨u,w',b,d,k,l,n⟩:=h w F m a.eval o f g hi i;unfold Oper.wp;rw[k];exact j u w' b d l n
theorem FT(h:∀ (w:World) (F:Nat->Prop) (m:Mp) (ρc:Operand->Value) (o:Oper),o.op=op->o.type=ty->HI w F m H fz->(∀ x,Rep w F m H (ρ x) (ρc x)) ->
  ∃ w' b d,(execOp ρc o).run P w = .ok .skip w'/\BU w F m H fz w' b d (C6 e H) (FY e fz)):qc P op ty ρ H fz .DM e:=by
 intro w F m a o next Q f g hi i j
 obtain⟨w',b,d,k,l⟩:=h w F m a.eval o f g hi i;unfold Oper.wp;rw[k];exact j undef w' b d l (by unfold Rep;trivial)
theorem BD(h:∀ (w:World) (F:Nat->Prop) (m:Mp) (ρc:Operand->Value) (o:Oper),o.op=op->o.type=ty->HI w F m H fz->(∀ x,Rep w F m H (ρ x) (ρc x)) ->
  ∃ u,(execOp ρc o).run P w = .ok (.value u) w/\Rep w F m H v u):qc P op ty ρ H fz v {}:=
 Bt fun w F m ρc o a b hi d=>let ⟨u,h1,h2⟩:=h w F m ρc o a b hi d;⟨u,w,F,m,h1,BU.refl hi,h2⟩
end
def Claim(P:Program)(E:Env)(o:Op):Prop:=
 ∀ (R:Type) (ty:TypeId) (ρ:Operand->AV) (H:List Ob) (fz:List Bool) (slot:Nat) (k:AV->Eff->Option R) (r:R),evalOp P E R o ty ρ H fz slot k=some r ->
  ∃ v e,k v e=some r/\(∀ a (b:AV->Eff->Option a),evalOp P E a o ty ρ H fz slot b=b v e)/\qc P o ty ρ H fz v e
section
variable {P:Program} {E:Env}
theorem ACn(x:Operand):Claim P E (.move x):=by
 intro R ty ρ H fz slot k r h;simp only[evalOp]at h;split at h;rename_i a;refine⟨_,_,h,fun e f=>by simp[evalOp,a],BD fun w F m ρc o b g hi d=>⟨ρc x,by simp[execOp,b],?_⟩⟩;have:=d x;rw[a]at this;unfold Rep at this;unfold AOZ;split<;>(unfold Rep;omega)
 rename_i a;refine⟨_,_,h,fun e f => ?_,BD fun w F m ρc o b g hi d=>⟨ρc x,by simp[execOp,b],d x⟩⟩;simp only[evalOp]
theorem qI(x:Operand):Claim P E (.assign x):=by
 intro R ty ρ H fz slot k r h;simp only[evalOp]at h;split at h;rename_i a;refine⟨_,_,h,fun e f=>by simp[evalOp,a],BD fun w F m ρc o b g hi d=>⟨ρc x,by simp[execOp,b],?_⟩⟩;have:=d x;rw[a]at this;unfold Rep at this;unfold AOZ;split<;>(unfold Rep;omega)
 rename_i a;refine⟨_,_,h,fun e f => ?_,BD fun w F m ρc o b g hi d=>⟨ρc x,by simp[execOp,b],d x⟩⟩;simp only[evalOp]
theorem D1{w:World}{F:Nat->Prop}{m:Mp}{H:List Ob}{b:Bool}{v:Value}(h:Rep w F m H (.data .bool b) v):v = .bool b:=by unfold Rep Cl at h;have h:Dat w F .bool b [v]:=h;simpa [Dat]using h
theorem Bv{w:World}{F:Nat->Prop}{m:Mp}{H:List Ob}{k:IntKind}{n:Int}{v:Value}(h:Rep w F m H (.data (.int k) n) v):v = .int k n:=by unfold Rep Cl at h;have h:Dat w F (.int k) n [v]:=h;simpa [Dat]using h
theorem B'{w:World}{F:Nat->Prop}{m:Mp}{H:List Ob}(b:Bool):Rep w F m H (.data .bool b) (.bool b):=by unfold Rep Cl;exact rfl
theorem Bj{w:World}{F:Nat->Prop}{m:Mp}{H:List Ob}(k:IntKind)(n:Int):Rep w F m H (.data (.int k) n) (.int k n):=by unfold Rep Cl;exact rfl
theorem ACm(c a b:Operand):Claim P E (.pick c a b):=by intro R ty ρ H fz slot k r h;simp only[evalOp,Xx]at h;split at h;rename_i d;refine⟨_,_,h,fun g i=>by simp[evalOp,Xx,d],BD fun w F m ρc o f j hi e=>⟨ρc a,?_,e a⟩⟩;have:=D1 (d▸e c);simp[execOp,f,this,asBool];rename_i d;refine⟨_,_,h,fun g i=>by simp[evalOp,Xx,d],BD fun w F m ρc o f j hi e=>⟨ρc b,?_,e b⟩⟩;have:=D1 (d▸e c);simp[execOp,f,this,asBool];grind
theorem vF{T:TypeId}{n:Nat}(h:ABY P T=some n):∃ i z,P.info? T=some i/\i.zero=some z/\(∀ u∈z.cells.toList,u.oneCell'=true)/\n=z.cells.size:=by unfold ABY at h;grind
theorem wh(T:TypeId):Claim P E (.alloc T):=by
 intro R ty ρ H fz slot k r h;simp only[evalOp,Q8]at h;split at h
 ·rename_i t cs s;split at h
  ·rename_i f;obtain⟨_,rfl,i,z,g,j,l,M,_⟩:=Ci s;split at h
   ·rename_i n e q;refine⟨_,_,h,fun G I=>by simp[evalOp,Q8,s,f,q],Bt fun w F m ρc o u J hi K => ?_⟩;have⟨et,hn,hm4,he⟩:t = .arr n e/\0<n/\n<=4294967296/\0<e.size:=by
     unfold AXU at q;split at q;·split at q;all_goals simp_all
     grind
    subst et;have a:(execOp ρc o).run P w = .ok (.value (.pointer (some ⟨w.heap.size,0,none⟩))) (w.alloc (.cells z.cells T)):=by simp[execOp,u,Instr.alloc,CH g j,newVar,newRow]
    have y:Dat w F (.arr n e) (List.replicate n e.zero) z.cells.toList:=Ca (w:=w) (F:=F) (.arr n e) _ l;have C:=Dat.length (.arr n e) y
    have A:=BU.new (w':=w.alloc (.cells z.cells T)) hi f (ob:=.arr T e (List.replicate n e.zero)) trivial (some (w.heap.size,n)) rfl rfl rfl (by simp) (fun b p=>Below.heap_alloc w _ b p)
     (fun b c h=>by grind)
     (fun D=>⟨he,z.cells,z.cells.toList,heap_alloc_new w _,by simp,by simp only[maxLen];omega,by rw[<- AbH,C];rfl,
      CC (fun x _ cs N=>N.mono (fun b p=>Below.heap_alloc w _ _ (hi.lt b p)) (fun _ h=>h) e) y.2,AbM⟩)
    refine⟨.pointer (some ⟨w.heap.size,0,none⟩),w.alloc (.cells z.cells T),F,_,a,A,?_⟩;unfold Rep;have d:=BW (CF f).1;rw[show C6 { objs:=[(slot,.arr T e (Df n e.zero))] } H=H.set slot (.arr T e (List.replicate n e.zero))from rfl,Bs d,Ba];exact⟨Aba,_,rfl,rfl⟩
   rename_i q;refine⟨_,_,h,fun G I=>by simp[evalOp,Q8,s,f,q],Bt fun w F m ρc o u J hi K => ?_⟩;have a:(execOp ρc o).run P w = .ok (.value (.pointer (some ⟨w.heap.size,0,none⟩))) (w.alloc (.cells z.cells T)):=by simp[execOp,u,Instr.alloc,CH g j,newVar,newRow]
   have A:=BU.new (w':=w.alloc (.cells z.cells T)) hi f (ob:=.box (zeroCells t)) trivial (some (w.heap.size,0)) rfl rfl rfl (by simp) (fun b p=>Below.heap_alloc w _ b p)
    (fun b c h=>by grind)
    (fun _=>⟨w.heap.size,0,z.cells,T,rfl,heap_alloc_new w _,JA _ _ l,NL _ _ l⟩)
   refine⟨_,_,F,_,a,A,?_⟩;unfold Rep;have d:=BW (CF f).1;rw[show C6 { objs:=[(slot,.box (zeroCells t))] } H=H.set slot (.box (zeroCells t))from rfl,Bs d,Ba];exact⟨_,_,rfl,rfl⟩
  grind
 rename_i s;split at h;rename_i n L;split at h;rename_i f;obtain⟨i,z,g,j,B,rfl⟩:=vF L;refine⟨_,_,h,fun G I=>by simp[evalOp,Q8,s,L,f],Bt fun w F m ρc o u J hi K => ?_⟩;have a:(execOp ρc o).run P w = .ok (.value (.pointer (some ⟨w.heap.size,0,none⟩))) (w.alloc (.cells z.cells T)):=by simp[execOp,u,Instr.alloc,CH g j,newVar,newRow]
 have A:=BU.new (w':=w.alloc (.cells z.cells T)) hi f (ob:=.box (List.replicate z.cells.size .DM)) trivial (some (w.heap.size,0)) rfl rfl rfl (by simp) (fun b p=>Below.heap_alloc w _ b p)
  (fun b c h=>by grind)
  (fun _=>⟨w.heap.size,0,z.cells,T,rfl,heap_alloc_new w _,EV (by simp) (fun i c v O _=>by
   rw[Adb (Aay O)];unfold Rep;trivial),B⟩)
 refine⟨_,_,F,_,a,A,?_⟩;unfold Rep;have d:=BW (CF f).1;rw[show C6 { objs:=[(slot,.box (List.replicate z.cells.size .DM))] } H=H.set slot (.box (List.replicate z.cells.size .DM))from rfl,Bs d,Ba];exact⟨_,_,rfl,rfl⟩;grind;grind
theorem AKR(T:TypeId)(x:Operand):Claim P E (.box T x):=by
 intro R ty ρ H fz slot k r h;simp only[evalOp,vm]at h;split at h;rename_i n p;split at h;rename_i vs e;split at h;rename_i hd;split at h;rename_i f;refine⟨_,_,h,fun B C=>by simp[evalOp,vm,p,e,hd,f],Bt fun w F m ρc o q D hi l => ?_⟩;have a:(execOp ρc o).run P w = .ok (.value (.pointer (some ⟨w.heap.size,0,none⟩))) (w.alloc (.cells (ρc x).cells T)):=by simp[execOp,q,Instr.box,newVar,newRow]
 have d:=cells?_ok e (l x);have s:=cells?_one e (l x)
 have t:=BU.new (w':=w.alloc (.cells (ρc x).cells T)) hi f (ob:=.box vs) trivial (some (w.heap.size,0)) rfl rfl rfl (by simp) (fun b u=>Below.heap_alloc w _ b u)
  (fun b c h=>by grind)
  (fun g=>⟨w.heap.size,0,(ρc x).cells,T,rfl,heap_alloc_new w _,EV (Be d) fun i c v y e=>by
    obtain⟨G,z,A⟩:=Da d y
    grind,s⟩)
 refine⟨_,_,F,_,a,t,?_⟩;unfold Rep;have j:=BW (CF f).1;rw[show C6 { objs:=[(slot,.box vs)] } H=H.set slot (.box vs)from rfl,Bs j,Ba];exact⟨_,_,rfl,rfl⟩;grind;grind;grind;grind
theorem Yz(off:Nat):∀ (l:List Value) (n:Nat) (us:Array Value),off+n+l.length<=us.size ->
  ((l.zipIdx n).foldl (fun cs (p:Value×Nat)=>cs.setIfInBounds (off+p.2) p.1) us).toList=us.toList.take (off+n)++l++us.toList.drop (off+n+l.length):=by
 intro l;induction l with
  |nil=>simp
  |cons v l b=>
   intro n us h;simp only[Aa1]at h;simp only[List.zipIdx_cons,Abu];rw[b (n+1) _ (by grind)];have a:off+n<us.toList.length:=by grind
   rw[Array.toList_setIfInBounds,List.set_eq_take_append_cons_drop,Aa5 a];have c:(us.toList.take (off+n)).length=off+n:=by grind
   have d:(us.toList.take (off+n)++v::us.toList.drop (off+n+1)).take (off+(n+1))=us.toList.take (off+n)++[v]:=by grind
   have e:(us.toList.take (off+n)++v::us.toList.drop (off+n+1)).drop (off+(n+1)+l.length)=us.toList.drop (off+n+(l.length+1)):=by rw[List.drop_append,AdF (by omega),c,AbW,show off+(n+1)+l.length-(off+n)=l.length+1 from by omega,List.drop_succ_cons,AcZ];grind
   simp_all
theorem pK{w:World}{F:Nat->Prop}{m:Mp}{H:List Ob}{ρ:Operand->AV}{ρc:Operand->Value}(n:∀ x,Rep w F m H (ρ x) (ρc x)){o b:Nat->Option (Nat×Nat)}(g:∀ i p,o i=some p->b i=some p):
  ∀ (d:List (Nat×Operand)) {cs out:List AV} {us:Array Value},F_ o (d.map fun p=>(p.1,ρ p.2)) cs=some out->BG w F m H cs us.toList->(∀ x∈us.toList,x.oneCell'=true) ->
   ∃ a:Array Value,Instr.fill b us (d.map fun p=>(p.1,ρc p.2))=some a/\BG w F m H out a.toList/\∀ x∈a.toList,x.oneCell'=true:=by
 intro d;induction d with
  |nil=>intro cs out us h f q;simp only[AcE,F_,Aas]at h;subst h;exact⟨us,rfl,f,q⟩
  |cons p d t=>
   intro cs out us h f q;obtain⟨i,x⟩:=p;simp only[AbL,F_]at h;split at h;cases h;rename_i off size u;split at h;cases h;rename_i vs r;split at h;cases h;rename_i hd;split at h;cases h;rename_i v y;simp only[Aat]at hd;have e:=cells?_ok r (n x);have z:=cells?_one r (n x);obtain⟨A,B⟩:=Li y f e;have s:=Be e;have k:=Be f;have C:(ρc x).cells.size=size:=by grind
   have l:((ρc x).cells.zipIdx.foldl (fun cs (c,j)=>cs.setIfInBounds (off+j) c) us).toList=us.toList.take off++(ρc x).cells.toList++us.toList.drop (off+vs.length):=by have:=Yz off (ρc x).cells.toList 0 us (by grind);rw[<- Array.foldl_toList,Array.toList_zipIdx,this];grind
   obtain⟨a,I,D,G⟩:=t (us:=(ρc x).cells.zipIdx.foldl (fun cs (c,j)=>cs.setIfInBounds (off+j) c) us) h (by grind) (by grind)
   refine⟨a,?_,D,G⟩;simp only[AbL,Instr.fill,g _ _ u];grind
end
section
variable {P:Program}
theorem xK{w w':World}{F b:Nat->Prop}{m d:Mp}{H H':List Ob}(h:∀ {a:AV} {v:Value},Rep w F m H a v->Rep w' b d H' a v){cs:List AV}{us:List Value}(e:BG w F m H cs us):BG w' b d H' cs us:=by refine EV (Be e) fun i c v f k => ?_;obtain⟨l,g,j⟩:=Da e f;grind
theorem j8{H:List Ob}{fz:List Bool}{id:Nat}{T:TypeId}{a:Nat}{b:List Int}(h:H[id]? = some (.prs T a b)):owned H fz id:=by simp only[owned,Cs];grind
theorem vZ{H:List Ob}{fz:List Bool}{slot id:Nat}{T:TypeId}{a:Nat}{c:List Int}(d:Bi H fz slot=true)(b:H[id]? = some (.prs T a c)):slot≠id:=by rintro rfl;rw[(CF d).1]at b;cases b
theorem ZB{T e:TypeId}(h:cellAt P T=some e):P.underlying T=some (.slice e)/\∃ i z,P.info? e=some i/\i.zero=some z/\i.size=1/\z.cells.size=1/\i.bytes<=1024:=by unfold cellAt at h;grind
theorem g9{w:World}{F:Nat->Prop}{m:Mp}{H:List Ob}{fz:List Bool}(hi:HI w F m H fz){slot:Nat}(f:Bi H fz slot=true)(T:TypeId)(d:Nat)(a:Option Addr):
  ∃ g,BU w F m H fz w F g (H.set slot (.prs T d [])) fz/\Rep w F g (H.set slot (.prs T d [])) (.own slot) (.slice a 0 0):=by have i:=BU.new (w':=w) hi f (ob:=.prs T d []) trivial none rfl rfl rfl (Aax _) (fun _ _=>rfl) (fun b c h=>by cases h) (fun _=>(rfl:([]:List Int)=[]));refine⟨_,i,?_⟩;unfold Rep;have e:=BW (CF f).1;rw[Bs e,Ba];exact⟨a,rfl⟩
theorem VC{w:World}{F:Nat->Prop}{m:Mp}{H:List Ob}{fz:List Bool}(hi:HI w F m H fz){slot:Nat}(o:Bi H fz slot=true){T:TypeId}{a:Nat}{f:List Int}{vs:Array Value}{cap:Nat}
  {w':World} (q:w'.heap[w.heap.size]? = some (.cells vs T (0,0))) (r:w'.os=w.os) (s:w'.tape=w.tape) (t:w'.output=w.output) (k:w.heap.size<=w'.heap.size) (v:∀ b,b<w.heap.size->w'.heap[b]? = w.heap[b]?)
  (g:f.length<=cap) (i:cap<=maxLen) (l:vs.size=cap) {us:List Value} (x:BG w F m H (Ha a f) us) (j:∀ u∈us,u.oneCell'=true) (d:vs.toList.take us.length=us) :
  ∃ p,BU w F m H fz w' F p (H.set slot (.prs T a f)) fz/\Rep w' F p (H.set slot (.prs T a f)) (.own slot) (.slice (some ⟨w.heap.size,0,none⟩) f.length cap):=by
 have y:=BU.new (w':=w') hi o (ob:=.prs T a f) trivial (some (w.heap.size,cap)) r s t k v (fun b c h=>by grind)
  (fun e=>⟨vs,us,q,g,i,l,xK e x,j,d⟩)
 refine⟨_,y,?_⟩;unfold Rep;have n:=BW (CF o).1;rw[Bs n,Ba];rfl
theorem cr(a:Nat)(b:List Int):(Ha a b).length=b.length:=by simp[Ha]
theorem ANC(a:Nat)(b c:List Int):Ha a (b++c)=Ha a b++Ha a c:=by simp[Ha]
end
section
variable {w w':World} {F:Nat->Prop} {m:Mp} {H:List Ob} {fz:List Bool}
theorem Jy{α:Type}{xs:List α}{k:Nat}{y:α}(h:xs[k]? = some y):k<xs.length:=by grind
theorem XS{id k:Nat}{T:RK}{e:TypeId}{t:Ty}{xs:List (List t.den)}{ver:Nat}{out:Option Nat}(b:H[id]? = some (.rows T e t xs ver out))(a:fz.getD id false=false)(c:k<List.length (α:=List t.den) xs):owned H fz (.r id k):=by simp only[owned];grind
theorem dL{id:Nat}{T:RK}{e:TypeId}{t:Ty}{xs:List (List t.den)}{ver:Nat}{out:Option Nat}(b:H[id]? = some (.rows T e t xs ver out))(a:fz.getD id false=false):owned H fz id:=by simp only[owned,Cs];grind
def AFp(m:Mp)(x:Ix)(l:Option (Nat×Nat)):Mp:=fun y=>if y=x then l else m y
theorem Ja(m:Mp)(x:Ix)(l:Option (Nat×Nat)):AFp m x l x=l:=by simp[AFp]
theorem Cm{m:Mp}{x y:Ix}{l:Option (Nat×Nat)}(h:y≠x):AFp m x l y=m y:=by simp[AFp,h]
theorem BU.AaB(hi:HI w F m H fz){slot:Nat}(X:Bi H fz slot=true){T:RK}{e:TypeId}{t:Ty}{n:Nat}(l:Option (Nat×Nat))
  (Y:w'.os=w.os) (Z:w'.tape=w.tape) (h3:w'.output=w.output) (z:w.heap.size<=w'.heap.size) (I:∀ b,b<w.heap.size->w'.heap[b]? = w.heap[b]?)
  (hl:∀ b c,l=some (b,c)->w.heap.size<=b) (A:0<t.size)
  (M:ObI w' F m H (.rows T e t (List.replicate n ([]:List t.den)) 0 none) l) (N:∀ k,k<n->∃ b cap a,l=some (b,cap)/\OZ w' T b k (.slice a 0 0)) :
  BU w F m H fz w' F (Rr m slot l fun _=>none) (H.set slot (.rows T e t (List.replicate n ([]:List t.den)) 0 none)) fz:=by
 obtain⟨O,hs2⟩:=CF X;have q:=BW O;have g:∀ b,F b->w'.heap[b]? = w.heap[b]? := fun b J=>I b (hi.lt b J);have B:(H.set slot (.rows T e t (List.replicate n ([]:List t.den)) 0 none))[slot]? = some (.rows T e t (List.replicate n ([]:List t.den)) 0 none):=Bs q;have j:DT H (H.set slot (.rows T e t (List.replicate n ([]:List t.den)) 0 none)) m (Rr m slot l fun _=>none):=by
  intro i o d C;have f:i≠slot:=by grind
  rcases DT.refl H m i o d C with h|⟨hd,o',h4,h5,_⟩
  grind;exact .inr ⟨hd,o',by grind,h5,JB f,fun _ _ k=>JB f⟩
 have D:∀ x:Ix,owned (H.set slot (.rows T e t (List.replicate n ([]:List t.den)) 0 none)) fz x->(x.id≠slot/\owned H fz x)\/x = .o slot\/∃ k,x = .r slot k:=fun x u=>by
  by_cases s:x.id=slot;cases x with
   |o i=>exact .inr (.inl (Abx Ix.o s))
   |r i k=>have s:i=slot:=s;grind
  exact .inl ⟨s,(Dm (Bn s)).1 u⟩
 have src:∀ (x:Ix) (b c:Nat),owned (H.set slot (.rows T e t (List.replicate n ([]:List t.den)) 0 none)) fz x->Rr m slot l (fun _=>none) x=some (b,c)->(x.id≠slot/\owned H fz x/\m x=some (b,c))\/(x = .o slot/\l=some (b,c)):=by
  intro x b c u p;rcases D x u with⟨h,h'⟩|rfl|⟨k,rfl⟩
  rw[JB h]at p;grind;rw[NR]at p;grind;rw[mN]at p;cases p
 refine⟨⟨Y,Z,h3,z,fun b h _=>I b h,fun _ h=>h,fun _ h=>.inl h,?_,j⟩,⟨?_,?_,?_,?_,?_,?_,fun b h=>AcI (hi.lt b h) z,hi.glo.mono g (fun _ h=>h),by simpa using hi.len⟩⟩;grind;intro i o d;by_cases f:i=slot;subst f;rw[B]at d;cases d;rw[NR];exact M;rw[Bn f]at d;rw[JB (x:=.o i) f];exact ObI.mono g (fun _ h=>h) j (fun _ _ b c _ q=>I b q) (hi.obj i o d);intro i;by_cases f:i=slot;subst f;intro K V t' xs ver out d k ys hk;rw[B]at d;cases d;have P:k<n:=by grind
 have Q:ys=[]:=by grind
 subst Q;rw[mN];obtain⟨b,cap,a,a1,a2⟩:=N k P;exact⟨⟨A,rfl⟩,fun _=>⟨b,cap,_,NR.trans a1,a2,a,rfl⟩⟩;exact C7.mono g (fun _ h=>h) j (Bn f) (fun x u=>JB (by omega)) (fun _ _ _ b c _ q=>I b q) (hi.row i);intro i K V t' xs ver out d C x u ht b c p;by_cases f:i=slot;grind;rw[Bn f]at d;rw[JB (by omega)]at p;exact hi.rfz i K V t' xs ver out d C x u ((Dk (by grind)).1 ht) b c p;intro x y b c b' c' u W R S E;rcases src x b c u S with⟨_,L,v⟩|⟨rfl,v⟩
 rcases src y b' c' W E with⟨_,U,G⟩|⟨rfl,G⟩
 exact hi.sep x y b c b' c' L U R v G;have:=hi.KX L v;grind;rcases src y b' c' W E with⟨_,U,G⟩|⟨rfl,G⟩
 have:=hi.KX U G;grind;grind;intro x b c u p J;rcases src x b c u p with⟨_,L,v⟩|⟨_,v⟩
 exact hi.off x b c L v J;have:=hl b c v;have:=hi.lt b J;omega;intro i K t' xs b c d C p;by_cases f:i=slot;grind;rw[Bn f]at d;rw[JB (x:=.o i) f]at p;exact hi.froz i K t' xs b c d C p
theorem Hdr.out{w:World}{K:RK}{n k:Nat}{b cap:Nat}(h:Hdr w K n none b cap)(i:k<n):Hdr w K n (some k) b cap:=by
 cases K with
  |arr T=>exact h
  |map j l=>obtain⟨c,a,d,e,f,g,_⟩:=h;exact⟨c,a,d,e,f,.inl (g.resolve_right fun h=>by cases h.1),fun o h=>by grind⟩
theorem BU.Aae(hi:HI w F m H fz){id k:Nat}{T:RK}{e:TypeId}{t:Ty}{xs n:List (List t.den)}{ver:Nat}(O:H[id]? = some (.rows T e t xs ver none))(S:fz.getD id false=false)(l:Option (Nat×Nat))
  {ys:List t.den} (f:n[k]? = some ys) (U:∀ B,B≠k->n[B]? = xs[B]?) (hxa:T.LL=true->xs.length=n.length)
  (hhd:∀ b cap,m id=some (b,cap)->Hdr w T xs.length none b cap->Hdr w T n.length (some k) b cap) (hhn:T.LL=true->xs=[]->n=[])
  (hl:∀ b c,l=some (b,c)->(∃ Q,owned H fz (.r id k)/\m (.r id k)=some (b,Q))\/w.heap.size<=b)
  (h1:w'.os=w.os) (h2:w'.tape=w.tape) (h3:w'.output=w.output) (V:w.heap.size<=w'.heap.size) (hb:∀ b,b<w.heap.size->(∀ c,owned H fz (.r id k)->m (.r id k)≠some (b,c))->w'.heap[b]? = w.heap[b]?)
  (hob:(∀ {d:t.den} {cs:List Value},Dat w F t d cs->Dat w' F t d cs)->ObI w' F m H (.arr e t ys) l) :
  BU w F m H fz w' F (AFp m (.r id k) l) (H.set id (.rows T e t n (ver+1) (some k))) fz:=by
 have hlt:=BW O;have M:(H.set id (.rows T e t n (ver+1) (some k)))[id]? = some (.rows T e t n (ver+1) (some k)):=Bs hlt;have q:∀ b,F b->w'.heap[b]? = w.heap[b]? := fun b ha=>hb b (hi.lt _ ha) fun c s hc=>hi.off _ _ c s hc ha;have K:∀ {x:Ix},there H x->x≠.r id k->∀ b c,m x=some (b,c)->b<w.heap.size->w'.heap[b]? = w.heap[b]? := fun W z b c j E=>hb b E fun c' s hc'=>hi.neX s hc' W j z rfl;have A:DT H (H.set id (.rows T e t n (ver+1) (some k))) m (AFp m (.r id k) l):=by
  intro i o a X;by_cases g:i=id;subst g;rw[O]at a;cases a;refine .inr ⟨by simp,_,M,⟨rfl,hxa,.inl (Nat.lt_succ_self _)⟩,Cm (by simp),fun _ hv => ?_⟩;simp only[TV]at hv;omega;rcases DT.refl H m i o a X with h|⟨hd,o',h4,h5,_⟩
  grind;exact .inr ⟨hd,o',by grind,h5,Cm (by simp),fun _ _ B=>Cm (by grind)⟩
 have Y:∀ {d:t.den} {cs:List Value},Dat w F t d cs->Dat w' F t d cs:=fun h=>h.mono q (fun _ h=>h) t;have Z:∀ B,B≠k->B<n.length->B<xs.length:=fun B hk G=>by have:=U B hk;grind
 have v:∀ x:Ix,x≠.r id k->owned (H.set id (.rows T e t n (ver+1) (some k))) fz x->owned H fz x:=fun x f z=>by
  by_cases C:x.id=id;cases x with
   |o i=>have C:i=id:=C;subst C;exact dL O S
   |r i B=>have C:i=id:=C;subst C;simp only[owned]at z;rw[M]at z;exact XS O S (Z B (by grind) z.1)
  exact(Dm (Bn C)).1 z
 refine⟨⟨h1,h2,h3,V,fun b h hn=>hb b h fun c s hc=>hn _ c s hc,fun _ h=>h,fun _ h=>.inl h,?_,A⟩,⟨?_,?_,?_,?_,?_,?_,fun b h=>AcI (hi.lt b h) V,hi.glo.mono q (fun _ h=>h),by simpa using hi.len⟩⟩;intro x b c z j;by_cases f:x = .r id k;subst f;rw[Ja]at j;grind;rw[Cm f]at j;grind;intro i o a;rw[Cm (by simp)];by_cases g:i=id;subst g;rw[M]at a;cases a;obtain⟨h4,h5⟩:=hi.obj i _ O;refine⟨h4,?_⟩;cases j:m i with
  |none=>grind
  |some p=>obtain⟨b,cap⟩:=p;rw[j]at h5;exact Hdr.mono (fun G=>K (x:=.o i) ⟨_,O,by simp,by simp⟩ (by simp) b cap j G) (hhd b cap j h5)
 rw[Bn g]at a;exact ObI.mono q (fun _ h=>h) A (fun n1 n2 b c j E=>K (x:=.o i) ⟨_,a,n1,n2⟩ (by simp) b c j E) (hi.obj i o a);intro i;by_cases g:i=id;subst g;intro T' e' t' N P out a B ys' L;rw[M]at a;cases a;by_cases hkk:B=k;subst hkk;rw[f]at L;cases L;rw[Ja];refine⟨?_,fun h=>absurd rfl h⟩;obtain⟨q1,q2⟩:=hob Y;exact⟨q1,q2⟩;rw[U B hkk]at L;have E:=Jy L;obtain⟨q1,q2⟩:=hi.row i T e t xs ver none O B ys' L;have hth:there H (.r i B):=by simp only[there];grind
 rw[Cm (by grind)];refine⟨ObI.mono q (fun _ h=>h) A (fun _ _ b c j G=>K hth (by grind) b c j G) q1,fun _ => ?_⟩;obtain⟨b,cap,u,a1,a2,a3⟩:=q2 (by simp);exact⟨b,cap,u,(Cm (by simp)).trans a1,a2.mono (K (x:=.o i) ⟨_,O,by simp,by simp⟩ (by simp) b cap a1),a3⟩;exact C7.mono q (fun _ h=>h) A (Bn g) (fun x z=>Cm (by rintro rfl;exact g z.symm)) (fun x z W b c j G=>K W (by rintro rfl;exact g z.symm) b c j G) (hi.row i);intro i T' e' t' N P out a X x z W b c j;by_cases g:i=id;grind;rw[Bn g]at a;rw[Cm (by rintro rfl;exact g z.symm)]at j;exact hi.rfz i T' e' t' N P out a X x z ((Dk (by grind)).1 W) b c j;intro x y b c b' c' z hy I J D;by_cases f:x = .r id k;subst f;rw[Ja]at J;rw[Cm (Acd I)]at D;rcases hl b c J with⟨Q,s,h⟩|h;exact hi.sep _ y b Q b' c' s (v y (Acd I) hy) I h D;have:=hi.KX (v y (Acd I) hy) D;omega;rw[Cm f]at J;by_cases R:y = .r id k;subst R;rw[Ja]at D;rcases hl b' c' D with⟨Q,s,h⟩|h;exact hi.sep x _ b c b' Q (v x f z) s I J h;have:=hi.KX (v x f z) J;omega;rw[Cm R]at D;exact hi.sep x y b c b' c' (v x f z) (v y R hy) I J D;intro x b c z j hF;by_cases f:x = .r id k;subst f;rw[Ja]at j;rcases hl b c j with⟨Q,s,h⟩|h;exact hi.off _ b Q s h hF;have:=hi.lt b hF;omega;rw[Cm f]at j;exact hi.off x b c (v x f z) j hF;intro i T' t' N b c a X j;have g:i≠id:=by grind
 rw[Bn g]at a;rw[Cm (by simp)]at j;exact hi.froz i T' t' N b c a X j
theorem BU.AZ5(hi:HI w F m H fz){id k:Nat}{T s:RK}{e:TypeId}{t:Ty}{xs:List (List t.den)}{ver:Nat}{ys:List t.den}(E:H[id]? = some (.rows T e t xs ver (some k)))(G:fz.getD id false=false)(hk:xs[k]? = some ys)(P:T.LL=s.LL)
  {b cap:Nat} (hm:m id=some (b,cap)) {u:Value} (hu:By (some (.arr e t ys)) (m (.r id k)) u)
  (h1:w'.os=w.os) (h2:w'.tape=w.tape) (h3:w'.output=w.output) (I:w'.heap.size=w.heap.size) (C:∀ n,n≠b->w'.heap[n]? = w.heap[n]?)
  (Q:Hdr w T xs.length (some k) b cap->Hdr w' s xs.length none b cap/\OZ w' s b k u) (hco:∀ n v,n≠k->OZ w T b n v->OZ w' s b n v) :
  BU w F m H fz w' F m (H.set id (.rows s e t xs ver none)) fz:=by
 have R:=BW E;have hkl:=Jy hk;have J:=dL E G;have z:(H.set id (.rows s e t xs ver none))[id]? = some (.rows s e t xs ver none):=Bs R;have g:∀ b,F b->w'.heap[b]? = w.heap[b]? := fun n ha=>C n (by rintro h;exact hi.off _ b cap J hm (h▸ha));have D:∀ {x:Ix},there H x->x≠.o id->∀ b' c,m x=some (b',c)->w'.heap[b']? = w.heap[b']? := fun K l b' c d=>C b' (hi.neX J hm K d l);have j:DT H (H.set id (.rows s e t xs ver none)) m m:=by
  intro i o a L;by_cases f:i=id;subst f;rw[E]at a;cases a;exact .inr ⟨by simp,_,z,⟨P,fun _=>rfl,.inr ⟨rfl,rfl⟩⟩,rfl,fun _ _ _=>rfl⟩
  ·rcases DT.refl H m i o a L with h|⟨hd,o',h4,h5,_⟩
   all_goals grind
 have p:∀ x:Ix,owned (H.set id (.rows s e t xs ver none)) fz x->owned H fz x:=fun x l=>by
  by_cases q:x.id=id;cases x with
   |o i=>have q:i=id:=q;grind
   |r i n=>have q:i=id:=q;subst q;simp only[owned]at l;rw[z]at l;exact XS E G l.1
  exact(Dm (Bn q)).1 l
 obtain⟨S,M⟩:=hi.obj id _ E;rw[hm]at M;obtain⟨hz2,hz3⟩:=Q M;refine⟨⟨h1,h2,h3,Ac5 I.symm,fun b' h hn=>C b' (by grind),fun _ h=>h,fun _ h=>.inl h,fun x b' c l d=>.inl ⟨x,c,p x l,d⟩,j⟩,⟨?_,?_,?_,?_,?_,?_,fun b' h=>by rw[I];exact hi.lt b' h,hi.glo.mono g (fun _ h=>h),by simpa using hi.len⟩⟩;intro i o a;by_cases f:i=id;subst f;rw[z]at a;cases a;refine⟨S,?_⟩;grind;rw[Bn f]at a;exact ObI.mono g (fun _ h=>h) j (fun n1 n2 b' c d _=>D (x:=.o i) ⟨_,a,n1,n2⟩ (by grind) b' c d) (hi.obj i o a);intro i;by_cases f:i=id;subst f;intro O W t' A B out a n U N;rw[z]at a;cases a;have X:=Jy N;obtain⟨q1,q2⟩:=hi.row i T e t xs ver (some k) E n U N;have V:there H (.r i n):=by simp only[there];grind
 refine⟨ObI.mono g (fun _ h=>h) j (fun _ _ b' c d _=>D V (by simp) b' c d) q1,fun _ => ?_⟩;by_cases hkk:n=k;grind;obtain⟨Y,Z,u2,a1,a2,a4⟩:=q2 (by grind);grind;exact C7.mono g (fun _ h=>h) j (Bn f) (fun _ _=>rfl) (fun x l K b' c d _=>D K (by rintro rfl;exact f l.symm) b' c d) (hi.row i);intro i O W t' A B out a L x l K b' c d;by_cases f:i=id;grind;rw[Bn f]at a;exact hi.rfz i O W t' A B out a L x l ((Dk (by grind)).1 K) b' c d;exact fun x y b' c' Y c2 l hy=>hi.sep x y b' c' Y c2 (p x l) (p y hy);exact fun x b' c' l=>hi.off x b' c' (p x l);intro i O t' A b' c a L d;have f:i≠id:=by grind
 rw[Bn f]at a;exact hi.froz i O t' A b' c a L d
theorem BU.put(hi:HI w F m H fz){id k:Nat}{T e:TypeId}{t:Ty}{xs:List (List t.den)}{ver:Nat}{ys:List t.den}(q:H[id]? = some (.rows (.arr T) e t xs ver (some k)))(g:fz.getD id false=false)(s:xs[k]? = some ys)
  {b cap:Nat} (hm:m id=some (b,cap)) {vs a:Array Value} (hw:w.heap[b]? = some (.cells vs T (0,0))) {u:Value} (hu:By (some (.arr e t ys)) (m (.r id k)) u)
  (x:w'.os=w.os) (y:w'.tape=w.tape) (z:w'.output=w.output) (i:w'.heap.size=w.heap.size) (j:∀ f,f≠b->w'.heap[f]? = w.heap[f]?) (c:w'.heap[b]? = some (.cells a T (0,0))) (d:a.toList=vs.toList.set k u) :
  BU w F m H fz w' F m (H.set id (.rows (.arr T) e t xs ver none)) fz:=by
 have l:a.size=vs.size:=by rw[<- AbH,d,AdB,AbH]
 refine BU.AZ5 hi q g s rfl hm hu x y z i j ?_ ?_;rintro⟨A,n,B,C,D,I⟩;rw[hw]at n;cases n;refine⟨⟨_,c,B,C,l.trans D,fun v o => ?_⟩,_,c,?_⟩;rw[d]at o;rcases List.mem_or_eq_of_mem_set o with h|rfl;grind;exact By.one hu;grind;rintro f v E ⟨G,p,J⟩;rw[hw]at p;cases p;refine⟨_,c,?_⟩;grind
theorem sd(hi:HI w F m H fz){id k:Nat}{T:RK}{e:TypeId}{t:Ty}{xs:List (List t.den)}{ver:Nat}(c:H[id]? = some (.rows T e t xs ver none))(f:k<List.length (α:=List t.den) xs):
  ∃ b cap u,m id=some (b,cap)/\OZ w T b k u/\Rep w F m H (.rowp id k ver) u:=by have a:xs[k]? = some xs[k]:=Aaz f;obtain⟨_,g⟩:=hi.row id T e t xs ver none c k _ a;obtain⟨b,cap,u,h,i,d⟩:=g (by simp);refine⟨b,cap,u,h,i,?_⟩;unfold Rep;rw[c];exact⟨By.one d,Aax _,fun _=>.inl ⟨_,a,d⟩⟩
end
section
variable {P:Program} {E:Env}
theorem info_of_underlying{T:TypeId}{d:TypeDesc}(h:P.underlying T=some d):∃ i,P.info? T=some i:=by unfold Program.underlying at h;grind
theorem ZQ{n:Nat}{T:TypeId}{t:Ty}(h:ZR P n T=some t):∃ d,P.underlying T=some d:=by
 cases n with
  |zero=>simp[ZR]at h
  |succ n=>simp only[ZR]at h;grind
theorem mapM_some{α β:Type}{f:α->Option β}:∀ {l:List α} {ys:List β},l.mapM f=some ys->∀ x∈l,∃ y,f x=some y:=by
 intro l;induction l with
  |nil=>simp
  |cons a l b=>intro ys h x c;rw[List.mapM_cons]at h;simp only[bind,AcK,pure]at h;grind
theorem vi{T:TypeId}{t:Ty}{a:Array Field}(c:mP P T=some t)(e:P.underlying T=some (.struct a)):∀ f∈a.toList,∃ i,P.info? f.type=some i:=by
 have b:∀ n,ZR P (n+1) T=some t->∃ ts,a.toList.mapM (fun f=>ZR P n f.type)=some ts:=by intro n h;simp only[ZR,e,Aa0]at h;grind
 obtain⟨ts,g⟩:=b 11 c;intro f j;obtain⟨t',k⟩:=mapM_some g f j;obtain⟨d,l⟩:=ZQ k;exact info_of_underlying l
theorem run_places(w:World):∀ (l:List Field),(∀ f∈l,∃ i,P.info? f.type=some i) ->
  (l.mapM (fun f=>do pure (f.offset,<- sizeOf f.type):Field->Sem (Nat×Nat))).run P w = .ok (l.map fun f=>(f.offset,(CO P f.type).getD 0)) w:=by
 intro l;induction l with
  |nil=>simp
  |cons f l a=>intro h;obtain⟨i,hi⟩:=h f (by simp);rw[List.mapM_cons];have:=a fun g b=>h g (by simp[b]);simp only[Sem.run_bind,run_sizeOf hi,Result.andThen_ok,Sem.run_pure,this,AbL,CO,hi,Acu,Abg]
theorem zZ{T:TypeId}{cs:List AV}{c:Array Field}(h:AM8 P T=some cs)(d:P.underlying T=some (.struct c)):
  ∃ i z,P.info? T=some i/\i.zero=some z/\(∀ u∈z.cells.toList,u.oneCell'=true)/\(∀ f∈c.toList,∃ i,P.info? f.type=some i)/\cs=z.cells.toList.map Zy:=by unfold AM8 at h;split at h;rename_i i e hi b;rw[d]at b;cases b;split at h;rename_i z g;split at h;rename_i a;cases h;rw[Aau,AbK,AbK]at a;refine⟨i,z,hi,g,a.1,fun f j => ?_,by simp⟩;have:=a.2 f j;rw[Ab0]at this;omega;grind;grind;grind
theorem lS{w:World}{F:Nat->Prop}{m:Mp}{H:List Ob}:∀ vs:List Value,BG w F m H (vs.map Zy) vs
 |[]=>by simp[BG]
 |v::vs=>by
  rw[AbL];unfold BG;refine⟨v,vs,rfl,?_,lS vs⟩;unfold Zy;split
  all_goals
   unfold Rep
   trivial
theorem wc(T:TypeId)(parts:Array (Nat×Operand)):Claim P E (.build T parts):=by
 intro R ty ρ H fz slot k r h;simp only[evalOp,N7]at h;split at h;rename_i t cs x;obtain⟨I,rfl,i,z,b,d,g,U,V⟩:=Ci x;split at h;rename_i j a;split at h;rename_i y l;refine⟨_,_,h,fun K L=>by simp only[evalOp,N7,x,a,l],BD fun w F m ρc o A M hi B => ?_⟩;have s:∀ (i:Nat) (p:Nat×Nat),(match j[i]? with
   |some f=>(CO P (Field.type f)).map fun n=>(Field.offset f,n)
   |none=>none)=some p->(j.map fun f=>(f.offset,(CO P f.type).getD 0))[i]? = some p:=by
  intro i p u
  split at u
  ·rename_i f W
   simp only[Aa0]at u
   grind
  grind
 obtain⟨us,G,N,O⟩:=pK B s parts.toList l (JA _ _ g) (NL _ _ g);refine⟨.agg us,?_,?_⟩;have u:=run_places (P:=P) w j.toList (vi I a);have v:Instr.fill ((j.map fun f=>(f.offset,(CO P f.type).getD 0))[·]?) z.cells (parts.map fun p=>(p.1,ρc p.2)).toList=some us:=by rw[AcU];exact G
 simp only[execOp,A,Instr.build,Sem.run_bind,CH b d,Result.andThen_ok,run_underlying a];rw[AdT];simp_all;unfold Rep;grind;grind;rename_i n e a;split at h;rename_i X Q;split at h;rename_i y l;obtain⟨S,J,rfl⟩:=B0 Q;refine⟨_,_,h,fun K L=>by simp only[evalOp,N7,x,a,Q,l],BD fun w F m ρc o A M hi B => ?_⟩;obtain⟨us,G,N,O⟩:=pK B (fun i p h=>h) parts.toList l (JA _ _ g) (NL _ _ g);refine⟨.agg us,?_,?_⟩;have v:Instr.fill (fun i=>some (i*S.size,S.size)) z.cells (parts.map fun p=>(p.1,ρc p.2)).toList=some us:=by simp_all
 simp only[execOp,A,Instr.build,Sem.run_bind,CH b d,Result.andThen_ok,run_underlying a,run_sizeOf J,v];rfl;unfold Rep;grind;grind;grind;grind;rename_i x;split at h;rename_i cs j q a;split at h;rename_i y l;obtain⟨i,z,b,d,C,D,rfl⟩:=zZ q a;refine⟨_,_,h,fun K L=>by simp only[evalOp,N7,x,q,a,l],BD fun w F m ρc o A M hi B => ?_⟩;have s:∀ (i:Nat) (p:Nat×Nat),(match j[i]? with
   |some f=>(CO P (Field.type f)).map fun n=>(Field.offset f,n)
   |none=>none)=some p->(j.map fun f=>(f.offset,(CO P f.type).getD 0))[i]? = some p:=by
  intro i p u
  split at u
  ·rename_i f W
   simp only[Aa0]at u
   grind
  grind
 obtain⟨us,G,N,O⟩:=pK B s parts.toList l (lS (w:=w) (F:=F) (m:=m) (H:=H) z.cells.toList) C;refine⟨.agg us,?_,?_⟩;have u:=run_places (P:=P) w j.toList D;have v:Instr.fill ((j.map fun f=>(f.offset,(CO P f.type).getD 0))[·]?) z.cells (parts.map fun p=>(p.1,ρc p.2)).toList=some us:=by rw[AcU];exact G
 simp only[execOp,A,Instr.build,Sem.run_bind,CH b d,Result.andThen_ok,run_underlying a];rw[AdT];simp_all;unfold Rep;grind;grind;grind
theorem TM{w:World}{F:Nat->Prop}{t:Ty}{x:t.den}{u:Value}(h:Cl w F t x u):Dat w F t x u.cells.toList:=by unfold Cl at h;split at h;obtain⟨vs,rfl,h⟩:=h;exact h;have a:=Dat.JH t h u (by simp);rw[G2 a];exact h
theorem pL{w:World}{F:Nat->Prop}{m:Mp}{H:List Ob}{fz:List Bool}(hi:HI w F m H fz){ρ:Operand->AV}{ρc:Operand->Value}(y:∀ x,Rep w F m H (ρ x) (ρc x)){t:Ty}:
  ∀ (n:List (Nat×Operand)) {xs a:List t.den} {g b:List Nat} {us:Array Value},El H t (n.map fun p=>(p.1,ρ p.2)) xs g=some (a,b)->rows (Dat w (EO F m H g) t) xs us.toList ->
   ∃ d:Array Value,Instr.fill (fun i=>some (i*t.size,t.size)) us (n.map fun p=>(p.1,ρc p.2))=some d/\rows (Dat w (EO F m H b) t) a d.toList/\a.length=xs.length:=by
 intro n;induction n with
  |nil=>intro xs a g b us h k;simp only[AcE,El,Aas,Aa4]at h;obtain⟨rfl,rfl⟩:=h;exact⟨us,rfl,k,rfl⟩
  |cons p n z=>
   intro xs a g b us h k;obtain⟨i,o⟩:=p;simp only[AbL,El]at h;split at h;rename_i x f s hd;simp only[Aat]at hd;have u:=fun(x:t.den) cs (h:Dat w (EO F m H (g++f)) t x cs)=>Dat.length t h;have q:Dat w (EO F m H (g++f)) t x (ρc o).cells.toList:=(TM (EU hi s (y o))).APo (fun i hi=>by simp[hi]);have e:rows (Dat w (EO F m H (g++f)) t) xs us.toList:=CC (fun x _ cs s=>s.APo (fun i hi=>by simp[hi])) k;have r:=B5 u e;have v:=u _ _ q;have A:i*t.size+t.size<=us.size:=by rw[<- AbH,r];have:(i+1)*t.size<=xs.length*t.size:=AbY _ hd;grind
   have l:((ρc o).cells.zipIdx.foldl (fun cs (c,j)=>cs.setIfInBounds (i*t.size+j) c) us).toList=us.toList.take (i*t.size)++(ρc o).cells.toList++us.toList.drop (i*t.size+t.size):=by have:=Yz (i*t.size) (ρc o).cells.toList 0 us (by omega);rw[<- Array.foldl_toList,Array.toList_zipIdx,this,AcD,v]
   obtain⟨d,C,B,D⟩:=z (us:=(ρc o).cells.zipIdx.foldl (fun cs (c,j)=>cs.setIfInBounds (i*t.size+j) c) us) h (by rw[l];exact sb u e hd q);refine⟨d,?_,B,by grind⟩;simp only[AbL,Instr.fill];grind;grind
theorem Gd{w:World}{F:Nat->Prop}{t:Ty}{z:List Value}(a:Dat w F t t.zero z)(n:Nat):rows (Dat w F t) (List.replicate n t.zero) (List.replicate n z).flatten:=by
 induction n with
  |zero=>rfl
  |succ n b=>exact⟨z,_,by grind,a,b⟩
theorem D2(z:Array Value):∀ (n:Nat),((Array.range (n*z.size)).map (z[· % z.size]!)).toList=(List.replicate n z.toList).flatten:=by
 intro n;rw[AcU,Array.toList_range];induction n with
  |zero=>simp
  |succ n b=>rw[AcF,Ac4,List.range_add,Abm,b,List.replicate_succ'];simp only[AdS,Adh,List.flatten_nil,Abd,List.append_cancel_left_eq,List.map_map];apply AdO;simp;intro i a c;simp only[AbN,Aa9]at a;simp[Nat.add_mod,AcV a,a]
theorem Cy{T:TypeId}{e:TypeId}{t:Ty}(h:sliceAt P T=some (e,t)):P.underlying T=some (.slice e)/\mP P e=some t/\0<t.size:=by unfold sliceAt at h;grind
theorem Gs{w:World}{F:Nat->Prop}{m:Mp}{H:List Ob}{fz:List Bool}(hi:HI w F m H fz){slot:Nat}(k:Bi H fz slot=true){T:TypeId}{t:Ty}(o:0<t.size){xs:List t.den}{vs:Array Value}{cap:Nat}
  {w':World} (p:w'.heap[w.heap.size]? = some (.cells vs T (0,0))) (q:w'.os=w.os) (r:w'.tape=w.tape) (s:w'.output=w.output) (g:w.heap.size<=w'.heap.size) (l:∀ b,b<w.heap.size->w'.heap[b]? = w.heap[b]?)
  (d:xs.length<=cap) (e:cap<=maxLen) (i:vs.size=cap*t.size) {row:List Value} (f:rows (Dat w F t) xs row) (a:vs.toList.take row.length=row) :
  ∃ n,BU w F m H fz w' F n (H.set slot (.arr T t xs)) fz/\Rep w' F n (H.set slot (.arr T t xs)) (.own slot) (.slice (some ⟨w.heap.size,0,none⟩) xs.length cap):=by
 have u:∀ b,F b->w'.heap[b]? = w.heap[b]? := fun b v=>l b (hi.lt b v)
 have y:=BU.new (w':=w') hi k (ob:=.arr T t xs) trivial (some (w.heap.size,cap)) q r s g l (fun b c h=>by grind)
  (fun _=>⟨o,vs,row,p,d,e,i,CC (fun x _ cs z=>z.mono u (fun _ h=>h) t) f,a⟩)
 refine⟨_,y,?_⟩;unfold Rep;have j:=BW (CF k).1;rw[Bs j,Ba];rfl
theorem KO{w:World}{T e:TypeId}{len:Nat}{t':Ty}{parts:Array (Nat×Value)}{i:TypeInfo}{z:Value}{us:Array Value}(g:P.underlying T=some (.slice e))(a:P.info? e=some i)(b:i.zero=some z)
 (c:i.size=t'.size) (hd:len*t'.size<=16777216)
 (d:Instr.fill (fun i=>some (i*t'.size,t'.size)) ((Array.range (len*t'.size)).map (z.cells[· % z.cells.size]!)) parts.toList=some us):(Instr.buildSlice T len parts).run P w = .ok (.slice (some ⟨w.heap.size,0,none⟩) len len) (w.alloc (.cells us e)):=by
 unfold Instr.buildSlice;simp only[Sem.run_bind,run_underlying g,Result.andThen_ok,run_sizeOf a,c];rw[Aa2 (by omega)];by_cases f:len*t'.size=0;have h:Instr.fill (fun i=>some (i*t'.size,t'.size)) #[] parts.toList=some us:=by grind
 simp only[f];simp[h,newRow,Array.range];rw[Aa2 f];simp[CH a b,d,newRow]
theorem YC(T:TypeId)(len:Nat)(parts:Array (Nat×Operand)):Claim P E (.buildSlice T len parts):=by
 intro R ty ρ H fz slot k r h;simp only[evalOp,FW]at h;split at h;rename_i e t g;split at h;rename_i zz hz;split at h;rename_i hd;split at h;rename_i xs fr hp;split at h;rename_i B;refine⟨_,_,h,fun R' k'=>by simp only[evalOp,FW,g,hz,hd,hp,B],Bt fun w F m ρc o Q ht hi S => ?_⟩;obtain⟨U,hty,j⟩:=Cy g;obtain⟨t',cs'⟩:=zz;obtain⟨hty',C,i,z,l,n,V,s,hza⟩:=Ci hz;subst C;have:t'=t:=by grind
 subst this;simp only[Aat]at hd;have D:=Ca (w:=w) (F:=F) t' _ V;have G:z.cells.size=t'.size:=by rw[<- AbH];exact Dat.length t' D
 have W:rows (Dat w (EO F m H []) t') (List.replicate len t'.zero) ((Array.range (len*t'.size)).map (z.cells[· % z.cells.size]!)).toList:=by have:=D2 z.cells len;rw[G]at this;rw[G,this];exact Gd D.frz len
 obtain⟨us,e1,e2,e3⟩:=pL hi S parts.toList hp W;have I:=BU.freeze hi fr;have a:=B5 (fun x cs (h:Dat w (EO F m H fr) t' x cs)=>Dat.length t' h) e2;have X:xs.length=len:=by grind
 have hbig:len<=16777216:=Abk (Adg len j) hd
 obtain⟨Y,Z,d⟩:=Gs I.2 B (w':=w.alloc (.cells us e)) j (heap_alloc_new w _) rfl rfl rfl (by simp) (fun b hb=>Below.heap_alloc w _ b hb) (cap:=len) (by omega) (by simp only[maxLen];omega)
  (by grind) e2 (by grind)
 refine⟨_,_,_,Y,?_,I.trans Z,d⟩;have u:Instr.fill (fun i=>some (i*t'.size,t'.size)) ((Array.range (len*t'.size)).map (z.cells[· % z.cells.size]!)) (parts.map fun p=>(p.1,ρc p.2)).toList=some us:=by simp_all
 rw[X];have:=KO (w:=w) U l n s hd u;simp[execOp,Q,this];grind;grind;grind;grind
 ·rename_i g;split at h
  ·rename_i e q J a K;have hq:=K;rw[List.map_eq_singleton_iff]at hq;obtain⟨p,L,hqp⟩:=hq;subst hqp;dsimp only at h;split at h
   ·rename_i y i sub hx;split at h
    ·rename_i hc;split at h
     ·rename_i B;refine⟨_,_,h,fun R' k'=>by simp only[evalOp,FW,g,J,a,K,hx,hc,B],Bt fun w F m ρc o Q ht hi S => ?_⟩;simp only[Aau,Aat]at hc;obtain⟨hp0,rfl,hlive⟩:=hc;simp only[Aat]at a;subst a;obtain⟨U,ii,z,l,n,s,hzs,hby⟩:=ZB J;have A:=S p.2;rw[hx]at A;have M:(ρc p.2).oneCell'=true:=by
       have N:=A;unfold Rep at N;cases O:H[y]? with
        |none=>rw[O]at N;exact N.elim
        |some o=>rw[O]at N;exact Dz.one N
      have hpt:(ρc p.2).cells = #[ρc p.2]:=by rw[<- Ac0 (xs:=(ρc p.2).cells),G2 M]
      have u:Instr.fill (fun i=>some (i*Ty.bool.size,Ty.bool.size)) ((Array.range (1*Ty.bool.size)).map (z.cells[· % z.cells.size]!)) (parts.map fun p=>(p.1,ρc p.2)).toList=some #[ρc p.2]:=by
       rw[AcU,L];simp only[AbL,AcE,hp0];have key:∀ (f:Fin 1->Value) (v:Value),(Array.ofFn f).setIfInBounds 0 v = #[v]:=by intro f v;apply Array.ext;all_goals simp_all
       simp[Instr.fill,hpt,Ty.size,Array.range,key]
      have hrl:BG w F m H (Ha y [Int.ofNat i]) [ρc p.2]:=by show BG w F m H [AV.eptr y (Int.ofNat i).toNat 0] [ρc p.2];unfold BG;exact⟨_,_,rfl,A,by unfold BG;rfl⟩
      obtain⟨Y,Z,d⟩:=VC hi B (w':=w.alloc (.cells #[ρc p.2] e)) (heap_alloc_new w _) rfl rfl rfl (by simp) (fun b hb=>Below.heap_alloc w _ b hb) (cap:=1) (by simp) (by simp only[maxLen];omega) (by simp) hrl (by grind) (by simp);refine⟨_,_,_,Y,?_,Z,d⟩;have:=KO (w:=w) (T:=T) (t':=.bool) U l n (by rw[s];rfl) (by simp[Ty.size]) u;simp[execOp,Q,this]
     grind
    grind
   grind
  grind
end
section
variable {P:Program} {E:Env}
theorem ET{w:World}{b:Nat}{vs:Array Value}{T:TypeId}{f:Nat×Nat}(h:w.heap[b]? = some (.cells vs T f))(i:Nat):w.cell? ⟨b,i,none⟩=vs[i]? := by simp[World.cell?,h]
theorem Vs{w:World}{F:Nat->Prop}{m:Mp}{H:List Ob}{fz:List Bool}(hi:HI w F m H fz){id:Nat}{cs:List AV}(a:H[id]? = some (.box cs)){off:Nat}{v:Value}(d:Rep w F m H (.ptr id off) v):
  ∃ b c vs T,m id=some (b,c)/\v = .pointer (some ⟨b,off,none⟩)/\w.heap[b]? = some (.cells vs T (0,0))/\BG w F m H cs vs.toList/\∀ u∈vs.toList,u.oneCell'=true:=by obtain⟨b,c,vs,T,e,f,g,h⟩:=hi.obj id _ a;unfold Rep H0 at d;grind
theorem OF{w:World}{F:Nat->Prop}{m:Mp}{H:List Ob}{fz:List Bool}(hi:HI w F m H fz){id:Nat}{T:TypeId}{t:Ty}{xs:List t.den}(f:H[id]? = some (.arr T t xs)){i sub:Nat}{v:Value}(d:Rep w F m H (.eptr id i sub) v):
  ∃ b cap vs a,m id=some (b,cap)/\v = .pointer (some ⟨b,i*t.size+sub,none⟩)/\i<xs.length/\w.heap[b]? = some (.cells vs T (0,0))/\xs.length<=cap/\cap<=maxLen/\vs.size=cap*t.size/\rows (Dat w F t) xs a/\vs.toList.take a.length=a/\0<t.size:=by obtain⟨j,h⟩:=hi.obj id _ f;unfold Rep Dz at d;rw[f]at d;obtain⟨e,b,c,g,k⟩:=d;rw[g]at h;obtain⟨vs,a,l,n,o,p,q,r⟩:=h;exact⟨b,c,vs,a,g,k,e,l,n,o,p,q,r,j⟩
theorem ACo(T:TypeId)(x:Operand):Claim P E (.load T x):=by
 intro R ty ρ H fz slot k r h;simp only[evalOp,Lp]at h;split at h;rename_i n ag p q;split at h;rename_i id off f;split at h;rename_i cs g;split at h;rename_i v D;refine⟨_,_,h,fun M N=>by simp only[evalOp,Lp,p,q,f,g,D],BD fun w F m ρc o d y hi z => ?_⟩;obtain⟨b,c,vs,U,V,s,O,J,Q⟩:=Vs hi g (f▸z x);obtain⟨u,A,B⟩:=D0 (P:=P) p q D (GS J off) (ad:=⟨b,off,none⟩) (fun u G=>Q u (Acl G)) (fun j u G=>by rw[DG,ET O];grind)
 exact⟨u,by simp[execOp,d,Instr.loadAt,s,Instr.sureAddr,A],B⟩;grind;grind;rename_i cs f;split at h;rename_i v D;refine⟨_,_,h,fun M N=>by simp only[evalOp,Lp,p,q,f,D],BD fun w F m ρc o d y hi z => ?_⟩;have a:=z x;rw[f]at a;unfold Rep at a;obtain⟨ad,us,V,s,O,J,Q⟩:=a;obtain⟨u,A,B⟩:=D0 (P:=P) p q D O (ad:=ad) J Q;exact⟨u,by simp[execOp,d,Instr.loadAt,V,Instr.sureAddr,A],B⟩;grind;rename_i id i sub f;split at h;rename_i U t xs g;split at h;rename_i v D;refine⟨_,_,h,fun M N=>by simp only[evalOp,Lp,p,q,f,g,D],BD fun w F m ρc o d y hi z => ?_⟩;obtain⟨b,cap,vs,row,V,s,O,J,Q,e6,e7,e8,e9,e10⟩:=OF hi g (f▸z x);have hk:=fun(x:t.den) cs (h:Dat w F t x cs)=>Dat.length t h;have l:xs[i]? = some (A9 xs i t.zero):=by unfold A9;grind
 have hd:=ca hk e8 l;have W:=Kj (m:=m) (H:=H) t hd;obtain⟨u,A,B⟩:=D0 (P:=P) p q D (GS W sub) (ad:=⟨b,i*t.size+sub,none⟩) (fun u G=>Dat.JH t hd u (Acl G)) (fun j u G=>by rw[DG,ET J];grind)
 exact⟨u,by simp[execOp,d,Instr.loadAt,s,Instr.sureAddr,A],B⟩;grind;rename_i U C S g;split at h;rename_i I;refine⟨_,_,h,fun M N=>by simp only[evalOp,Lp,p,q,f,g,I],BD fun w F m ρc o d y hi z => ?_⟩;simp only[Aau,Ace,Ab8]at I;obtain⟨rfl,rfl,rfl⟩:=I;have a:=z x;rw[f]at a;unfold Rep Dz at a;rw[g]at a;obtain⟨K,b,c,X,s⟩:=a;rw[AcD]at s;have L:=hi.obj id _ g;rw[X]at L;obtain⟨vs,us,o1,o2,o3,o4,o5,o6,o7⟩:=L;have l:(Ha C S)[i]? = some (.eptr C (A4 (A9 S i 0)) 0):=by unfold A9 A4 Ha;grind
 obtain⟨u,G,Y⟩:=Da o5 l;have hv:=iL o7 G;obtain⟨Z,A,B⟩:=D0 (P:=P) (T:=T) (n:=1) (ag:=false) (cs:=[.eptr C (A4 (A9 S i 0)) 0]) (us:=[u]) (v:=.eptr C (A4 (A9 S i 0)) 0) p q rfl (by unfold BG;exact⟨_,_,rfl,Y,by unfold BG;rfl⟩) (ad:=⟨b,i,none⟩) (fun x f=>by
  grind) (fun j x hj=>by
  cases j with
   |zero=>rw[DG,ET o1];grind
   |succ j=>grind)
 exact⟨Z,by simp[execOp,d,Instr.loadAt,s,Instr.sureAddr,A],B⟩;grind;rename_i U e t xs ver g;split at h;rename_i I;refine⟨_,_,h,fun M N=>by simp only[evalOp,Lp,p,q,f,g,I],BD fun w F m ρc o d y hi z => ?_⟩;simp only[Aau,Ace,Ab8]at I;obtain⟨rfl,rfl,rfl⟩:=I;have a:=z x;rw[f]at a;unfold Rep Dz at a;rw[g]at a;obtain⟨K,b,c,X,s⟩:=a;rw[AcD]at s;obtain⟨b',cap,u,q1,⟨vs,q2,q3⟩,q4⟩:=sd hi g K;rw[X]at q1;cases q1;obtain⟨Z,A,B⟩:=D0 (P:=P) (T:=T) (n:=1) (ag:=false) (cs:=[.rowp id i ver]) (us:=[u]) (v:=.rowp id i ver) p q rfl (by unfold BG;exact⟨_,_,rfl,q4,by unfold BG;rfl⟩) (ad:=⟨b,i,none⟩) (fun x f=>by
  rw[AcJ]at f;subst f;have:=q4;unfold Rep at this;rw[g]at this;exact this.one) (fun j x hj=>by
  cases j with
   |zero=>rw[DG,ET q2];grind
   |succ j=>grind)
 exact⟨Z,by simp[execOp,d,Instr.loadAt,s,Instr.sureAddr,A],B⟩;grind;grind;grind;grind
theorem IZ{w:World}{b:Nat}{cs:Array Value}:(w.setRow b cs).os=w.os/\(w.setRow b cs).tape=w.tape/\(w.setRow b cs).output=w.output/\(w.setRow b cs).heap.size=w.heap.size/\∀ k,k≠b->(w.setRow b cs).heap[k]? = w.heap[k]? :=
 ⟨rfl,rfl,rfl,setRow_size w b cs,fun k a=>setRow_other w b k cs a⟩
theorem AHo{H:List Ob}{fz:List Bool}{id:Nat}{cs:List AV}(h:H[id]? = some (.box cs)):owned H fz id:=by simp only[owned,Cs];grind
theorem DS{H:List Ob}{fz:List Bool}{id:Nat}{T:TypeId}{t:Ty}{xs:List t.den}(h:H[id]? = some (.arr T t xs))(a:BO fz id=true):owned H fz id:=by simp only[owned,Cs];rw[h];simpa [BO]using a
theorem GH{H:List Ob}{fz:List Bool}{id:Nat}{a b:Ty}{c:List (a.den×b.den)}(h:H[id]? = some (.map a b c)):owned H fz id:=by simp only[owned,Cs];grind
theorem qW{w:World}{F:Nat->Prop}{m:Mp}{H:List Ob}{fz:List Bool}(hi:HI w F m H fz){id:Nat}{T:TypeId}{t:Ty}{xs:List t.den}(d:H[id]? = some (.arr T t xs))(n:BO fz id=true)
  {b cap:Nat} (hm:m id=some (b,cap)) {i:Nat} (c:i<xs.length) {y:t.den} {ds:List Value} (o:Dat w F t y ds) {vs:Array Value} {row:List Value}
  (z:w.heap[b]? = some (.cells vs T (0,0))) (p:xs.length<=cap) (A:cap<=maxLen) (O:vs.size=cap*t.size) (q:rows (Dat w F t) xs row) (r:vs.toList.take row.length=row) (B:0<t.size) :
  BU w F m H fz (w.setRow b (vs.toList.take (i*t.size)++ds++vs.toList.drop (i*t.size+t.size)).toArray) F m (H.set id (.arr T t (Bl xs i y))) fz:=by
 obtain⟨C,D,G,I,s⟩:=IZ (w:=w) (b:=b) (cs:=(vs.toList.take (i*t.size)++ds++vs.toList.drop (i*t.size+t.size)).toArray);have e:=fun(x:t.den) cs (h:Dat w F t x cs)=>Dat.length t h;have u:=B5 e q;have f:=e _ _ o;have J:i*t.size+t.size<=xs.length*t.size:=by have:(i+1)*t.size<=xs.length*t.size:=AbY _ c;grind
 have v:xs.length*t.size<=cap*t.size:=AbY _ p;have g:vs.toList.length=cap*t.size:=by omega
 refine BU.set hi (DS d n) hm d ⟨rfl,by simp[Bl]⟩ C D G I s fun j => ?_;refine⟨B,?_⟩;rw[hm];refine⟨_,row.take (i*t.size)++ds++row.drop (i*t.size+t.size),setRow_heap w b vs _ T _ z,by simpa [Bl]using p,A,?_,?_,?_⟩;grind
 have a:∀ k,F k->(w.setRow b (vs.toList.take (i*t.size)++ds++vs.toList.drop (i*t.size+t.size)).toArray).heap[k]? = w.heap[k]? := fun k K=>
  s k (by rintro rfl;exact hi.off id _ cap (DS d n) hm K)
 exact CC (fun x _ cs L=>L.mono a (fun _ h=>h) t) (sb e q c o)
 ·have l:(row.take (i*t.size)++ds++row.drop (i*t.size+t.size)).length=row.length:=by grind
  rw[l];show List.take row.length (vs.toList.take (i*t.size)++ds++vs.toList.drop (i*t.size+t.size))=_;have M:row.take (i*t.size)=vs.toList.take (i*t.size):=by rw[<- r,AdL,AcG (by omega)]
  have N:row.drop (i*t.size+t.size)=(vs.toList.drop (i*t.size+t.size)).take (row.length-(i*t.size+t.size)):=by
   conv=>lhs;rw[<- r]
   rw[List.drop_take]
  rw[M,N,AdN,Abs (by grind)];congr 2;simp only[Aa3,AbU,g,f];omega
theorem nul?_some{t e:Ty}(h:t.nul? = some e):t = .nul e:=by
 cases t<;>simp only[Ty.nul?]at h<;>first|(cases h;done)|skip
 grind
theorem sc{w:World}{F:Nat->Prop}{e:Ty}:∀ {xs:List Unit} {cs:List Value},rows (Dat w F (.nul e)) xs cs->rows (Dat w F (.slice e)) (Df xs.length []) cs:=by
 intro xs;induction xs with
  |nil=>exact fun h=>h
  |cons x xs a=>rintro cs ⟨d,c2,rfl,b,c⟩;cases b;exact⟨_,c2,rfl,⟨none,0,rfl,Aax _,fun h=>absurd rfl h⟩,a c⟩
theorem AVj{w:World}{F:Nat->Prop}{m:Mp}{H:List Ob}{fz:List Bool}(hi:HI w F m H fz){id:Nat}{T:TypeId}{e:Ty}{xs:List Unit}(a:H[id]? = some (.arr T (.nul e) xs))(c:BO fz id=true)
  {b cap:Nat} (hm:m id=some (b,cap)) {vs:Array Value} {row:List Value}
  (d:w.heap[b]? = some (.cells vs T (0,0))) (f:xs.length<=cap) (g:cap<=maxLen) (h:vs.size=cap*1) (i:rows (Dat w F (.nul e)) xs row) (j:vs.toList.take row.length=row) :
  BU w F m H fz w F m (H.set id (.arr T (.slice e) (Df xs.length []))) fz:=by
 refine BU.set hi (DS a c) hm a ⟨rfl,by simp[Df]⟩ rfl rfl rfl rfl (fun _ _=>rfl) fun _=>⟨Nat.one_pos,?_⟩
 rw[hm];exact⟨vs,row,d,by simpa [Df]using f,g,h,sc i,j⟩
theorem wX(T:TypeId)(x y:Operand):Claim P E (.store T x y):=by
 intro R ty ρ H fz slot k r h;simp only[evalOp,IC]at h;split at h
 ·rename_i n vs O B;split at h;cases h
  ·rename_i hd;simp only[Aat]at hd;split at h;rename_i id off C;split at h;rename_i cs d;split at h;rename_i cs' hp;refine⟨_,_,h,fun R' k'=>by simp only[evalOp,IC,O,B,hd,Aa6,C,d,hp],FT fun w F m ρc o g Q hi l => ?_⟩;obtain⟨b,c,us,T',J,G,V,I,W⟩:=Vs hi d (C▸l x);have f:=cells?_ok B (l y);have h1y:=cells?_one B (l y);obtain⟨hle,D⟩:=Li hp I f;have S:=Be f;have hul:=Be I;have hsz:(ρc y).cells.size=n:=by grind
   have p:=EY (P:=P) O V (off:=off) hsz h1y (by grind);obtain⟨r1,r2,r3,r4,r5⟩:=IZ (w:=w) (b:=b) (cs:=(us.toList.take off++(ρc y).cells.toList++us.toList.drop (off+n)).toArray);have K:=BU.set hi (AHo d) J d (o':=.box cs') trivial r1 r2 r3 r4 r5 fun hmono=>⟨b,c,_,T',J,setRow_heap w b us _ T' _ V,?_,?_⟩
   exact⟨_,F,m,by simp[execOp,g,Instr.storeAt,G,Instr.sureAddr,p],K⟩;rw[hd]at D;exact EV (Be D) fun i c v A B=>by obtain⟨v',hv',hr''⟩:=Da D A;grind
   grind;grind;grind
   ·rename_i id i sub C;split at h
    ·rename_i T' t xs d;split at h;rename_i e q;have htn:=nul?_some q;subst htn;split at h;rename_i A;split at h;rename_i z fr X;split at h;rename_i U;refine⟨_,_,h,fun R' k'=>by simp only[evalOp,IC,O,B,hd,Aa6,C,d,q,A,X,U],FT fun w F m ρc o g Q hi l => ?_⟩;simp only[Aau,Ace]at A;obtain⟨rfl,rfl⟩:=A;have a:=BU.freeze hi fr;have s:=a.1.rep hi (C▸l x);obtain⟨b,cap,us,L,J,G,V,I,W,e6,Y,Z,e9,M⟩:=OF a.2 d s;have hg0:=AVj a.2 d U J I W e6 Y Z e9;have N:=TM (EU hi X (l y));have S:=Dat.length (.slice e) N;have p:=EY (P:=P) O I (off:=i*1) (u:=ρc y) (by rw[<- AbH,S];rfl) (cells?_one B (l y)) (by rw[Y];have:(i+1)*1<=cap*1:=AbY _ (by omega);rwa [AcF,Ac4]at this)
     have hlt:=BW d;have K:=qW (t:=.slice e) hg0.2 (Bs hlt) U J (by simpa [Df]using V) (hg0.1.dat a.2 (t:=.slice e) N) I (by simpa [Df]using W) e6 Y (sc Z) e9 M;rw[List.set_set]at K;have e2':ρc x = .pointer (some ⟨b,i*(Ty.slice e).size,none⟩):=G;refine⟨_,_,m,(?_:(execOp ρc o).run P w = .ok _ _),(a.trans hg0).trans K⟩;have hst':(storeVar T ⟨b,i*(Ty.slice e).size,none⟩ (ρc y)).run P w = .ok () (w.setRow b (us.toList.take (i*(Ty.slice e).size)++(ρc y).cells.toList++us.toList.drop (i*(Ty.slice e).size+(Ty.slice e).size)).toArray):=p;simp[execOp,g,Instr.storeAt,e2',Instr.sureAddr,hst'];grind;grind;grind;rename_i q;split at h;rename_i A;split at h;rename_i z fr X;split at h;rename_i U;refine⟨_,_,h,fun R' k'=>by simp only[evalOp,IC,O,B,hd,Aa6,C,d,q,A,X,U],FT fun w F m ρc o g Q hi l => ?_⟩;simp only[Aau,Ace]at A;obtain⟨rfl,rfl⟩:=A;have a:=BU.freeze hi fr;have s:=a.1.rep hi (C▸l x);obtain⟨b,cap,us,L,J,G,V,I,W,e6,Y,Z,e9,M⟩:=OF a.2 d s;have N:=TM (EU hi X (l y));have S:=Dat.length t N;have p:=EY (P:=P) O I (off:=i*t.size) (u:=ρc y) (by omega) (cells?_one B (l y)) (by rw[Y];have:(i+1)*t.size<=cap*t.size:=AbY _ (by omega);grind)
     have K:=qW a.2 d U J V N I W e6 Y Z e9 M;exact⟨_,_,m,by simp[execOp,g,Instr.storeAt,G,Instr.sureAddr,p],a.trans K⟩;grind;grind
     ·rename_i A;split at h;cases h
      ·rename_i cs' hp;split at h
       ·rename_i z fr X;split at h
        ·rename_i U;refine⟨_,_,h,fun R' k'=>by simp only[evalOp,IC,O,B,hd,Aa6,C,d,q,A,hp,X,U],FT fun w F m ρc o g Q hi l => ?_⟩;have a:=BU.freeze hi fr;obtain⟨b,cap,us,L,J,G,V,I,W,e6,Y,Z,e9,M⟩:=OF hi d (C▸l x);have hk:=fun(x:t.den) cs (h:Dat w F t x cs)=>Dat.length t h;have hget:xs[i]? = some (A9 xs i t.zero):=by unfold A9;grind
         have hdi:=ca hk Z hget;have hre:=Kj (m:=m) (H:=H) t hdi;have f:=cells?_ok B (l y);have h1y:=cells?_one B (l y);obtain⟨hle,D⟩:=Li hp hre f;have S:=Be f;have hel:=Be hre;have hrl:=B5 hk Z;have hcl:=hk _ _ hdi;have hi1:i*t.size+t.size<=xs.length*t.size:=by grind
         have hi2:xs.length*t.size<=cap*t.size:=AbY _ W;rw[hd]at hle D;have p:=EY (P:=P) O I (off:=i*t.size+sub) (u:=ρc y) (by grind) h1y (by omega);obtain⟨u1,u2,q1,q2,q3⟩:=eD hi t X D;unfold BG at q3;subst q3;rw[Abd]at q1;subst q1;have K:=qW a.2 d U J V q2 I W e6 Y (CC (fun x _ cs C=>C.frz) Z) e9 M;have hX:(L.drop (i*t.size)).take t.size=(us.toList.drop (i*t.size)).take t.size:=by
          conv=>lhs;rw[<- e9]
          rw[List.drop_take,AdL,AcG (by omega)]
         have hEq:us.toList.take (i*t.size)++(((L.drop (i*t.size)).take t.size).take sub++(ρc y).cells.toList++((L.drop (i*t.size)).take t.size).drop (sub+n))++us.toList.drop (i*t.size+t.size) =
           us.toList.take (i*t.size+sub)++(ρc y).cells.toList++us.toList.drop (i*t.size+sub+n):=by
          rw[hX,List.take_add,AdL,AcG (by omega)]
          have:((us.toList.drop (i*t.size)).take t.size).drop (sub+n)++us.toList.drop (i*t.size+t.size)=us.toList.drop (i*t.size+sub+n):=by
           rw[<- AcZ (i:=t.size),Ac9,<- AcZ (i:=sub+n)]
           conv=>rhs;rw[<- Abv t.size (us.toList.drop (i*t.size))]
           grind
          grind
         rw[hEq]at K;exact⟨_,_,m,by simp[execOp,g,Instr.storeAt,G,Instr.sureAddr,p],a.trans K⟩
        grind
       grind
    rename_i T' e t xs ver i' d;split at h;rename_i id' j ver' hy A;split at h;rename_i hd2;split at h;rename_i hq;refine⟨_,_,h,fun R' k'=>by have hv':=B;rw[hy]at hv';simp only[evalOp,IC,O,hv',hd,Aa6,C,d,hy,A,hd2,hq],FT fun w F m ρc o g Q hi l => ?_⟩
    simp only[Aau,Ace,Aat,DF]at A hd2 hq;obtain⟨⟨rfl,rfl⟩,hun⟩:=A;obtain⟨rfl,rfl⟩:=hd2;obtain⟨hq1,hq2⟩:=hq;have J:i=i':=by omega
    have G:j=i':=by omega
    subst J;subst G;have hun':fz.getD id false=false:=by unfold BO at hun;grind
    have s:=l x;rw[C]at s;unfold Rep Dz at s;rw[d]at s;obtain⟨hlt,b,c,hm,G⟩:=s;rw[AcD]at G;have f:=l y;rw[hy]at f;unfold Rep at f;rw[d]at f;obtain⟨hone,_,h7⟩:=f;obtain⟨ys,hys,hrep⟩:=(h7 rfl).resolve_right fun h=>by cases h.1
    obtain⟨h4,h5⟩:=hi.obj id _ d;rw[hm]at h5;obtain⟨us,q1,q2,q3,q4,q5⟩:=h5;have hcl:=G2 hone;have hsz1:(ρc y).cells.size=1:=by rw[<- AbH,hcl];rfl
    have hlu:j+1<=us.size:=by omega
    have p:=EY (P:=P) O q1 (off:=j) (u:=ρc y) hsz1 (cells?_one B (l y)) hlu;obtain⟨r1,r2,r3,r4,r5⟩:=IZ (w:=w) (b:=b) (cs:=(us.toList.take j++(ρc y).cells.toList++us.toList.drop (j+1)).toArray);have K:=BU.put hi d hun' hys hm q1 hrep r1 r2 r3 r4 r5 (setRow_heap w b us _ T' _ q1) (by rw[List.toList_toArray,hcl,List.set_eq_take_append_cons_drop,Aa5 (by grind)];simp)
    exact⟨_,F,m,by simp[execOp,g,Instr.storeAt,G,Instr.sureAddr,p],K⟩;grind;grind;grind;grind
   grind
 grind
theorem Nr{H:List Ob}{id:Nat}(h:Gn H id=true):∃ cs,H[id]? = some (.box cs):=by unfold Gn at h;grind
theorem FN{H:List Ob}{id:Nat}(h:Dy H id=true):∃ T t xs,H[id]? = some (.arr T t xs):=by unfold Dy at h;grind
theorem fQ(x:Operand):Claim P E (.nilCheck x):=by intro R ty ρ H fz slot k r h;simp only[evalOp,Dv]at h;split at h;rename_i id off d;split at h;rename_i l;obtain⟨cs,u⟩:=Nr l;refine⟨_,_,h,fun p q=>by simp only[evalOp,Dv,d,l],BD fun w F m ρc o e j hi g=>⟨ρc x,?_,d▸g x⟩⟩;obtain⟨b,c,vs,T,_,v,_⟩:=Vs hi u (d▸g x);simp[execOp,e,v];grind;rename_i id i s d;split at h;rename_i l;obtain⟨T,t,xs,u⟩:=FN l;refine⟨_,_,h,fun p q=>by simp only[evalOp,Dv,d,l],BD fun w F m ρc o e j hi g=>⟨ρc x,?_,d▸g x⟩⟩;obtain⟨b,c,vs,T,_,v,_⟩:=OF hi u (d▸g x);simp[execOp,e,v];grind;rename_i cs d;refine⟨_,_,h,fun p q=>by simp only[evalOp,Dv,d],BD fun w F m ρc o e j hi g=>⟨ρc x,?_,d▸g x⟩⟩;have a:=g x;rw[d]at a;unfold Rep at a;obtain⟨ad,us,n,_⟩:=a;simp[execOp,e,n];rename_i f cs d;refine⟨_,_,h,fun p q=>by simp only[evalOp,Dv,d],BD fun w F m ρc o e j hi g=>⟨ρc x,?_,d▸g x⟩⟩;have a:=g x;rw[d]at a;unfold Rep at a;obtain⟨us,n,_⟩:=a;simp[execOp,e,n];rename_i f cs d;refine⟨_,_,h,fun p q=>by simp only[evalOp,Dv,d],BD fun w F m ρc o e j hi g=>⟨ρc x,?_,d▸g x⟩⟩;have a:=g x;rw[d]at a;unfold Rep at a;obtain⟨us,n,_⟩:=a;simp[execOp,e,n];grind
end
section
variable {P:Program} {E:Env}
theorem Ik(a:BinOp)(t:TypeId)(x y:Operand)(w:World)(k:IntKind)(n:Int)(v:Value):(eqGuard a t x y (.int k n) v).run P w = .ok () w:=by rw[eqGuard_at_int];rfl
theorem VK(a:BinOp)(t:TypeId)(x y:Operand)(w:World)(b:Bool)(v:Value):(eqGuard a t x y (.bool b) v).run P w = .ok () w:=by rw[eqGuard_at_bool];rfl
theorem VJ(a:BinOp)(t:TypeId)(x y:Operand)(w:World)(b:ByteArray)(v:Value):(eqGuard a t x y (.string b) v).run P w = .ok () w:=by rw[eqGuard_at_string];rfl
theorem wm(s c:ByteArray):ASd (bytesOf s) (bytesOf c)=(s.toList==c.toList):=by rw[AcH];unfold ASd;rw[Ace,Ace,ByteArray.toList_eq,ByteArray.toList_eq];unfold bytesOf;constructor;intro h;exact(List.map_inj_right (fun a b e=>UInt8.toNat_inj.1 (Int.ofNat.inj e))).1 h;grind
theorem zG{c:BinOp}{j:IntKind}{a b:Int}{v:AV}(h:ACx c j a b=some v)(t:TypeId)(w:World):
  ∃ u,(binOp c t (.int j a) (.int j b)).run P w = .ok u w/\∀ F m H,Rep w F m H v u:=by
 unfold ACx at h;simp only[BF,BR,DF]at h;cases c with
  |add=>simp only[Aas]at h;subst h;exact⟨.int j (j.wrap (a+b)),by simp[binOp,Op.intArith],fun _ _ _=>Bj _ _⟩
  |sub=>simp only[Aas]at h;subst h;exact⟨.int j (j.wrap (a-b)),by simp[binOp,Op.intArith],fun _ _ _=>Bj _ _⟩
  |mul=>simp only[Aas]at h;subst h;exact⟨.int j (j.wrap (a*b)),by simp[binOp,Op.intArith],fun _ _ _=>Bj _ _⟩
  |and=>simp only[Aas]at h;subst h;exact⟨.int j (j.wrap (BitVec.ofInt j.bits a &&& BitVec.ofInt j.bits b).toNat),by simp only[binOp,ne_eq,Ab2,AbE];rfl,fun _ _ _=>Bj _ _⟩
  |or=>simp only[Aas]at h;subst h;exact⟨.int j (j.wrap (BitVec.ofInt j.bits a ||| BitVec.ofInt j.bits b).toNat),by simp only[binOp,ne_eq,Ab2,AbE];rfl,fun _ _ _=>Bj _ _⟩
  |xor=>simp only[Aas]at h;subst h;exact⟨.int j (j.wrap (BitVec.ofInt j.bits a ^^^ BitVec.ofInt j.bits b).toNat),by simp only[binOp,ne_eq,Ab2,AbE];rfl,fun _ _ _=>Bj _ _⟩
  |andNot=>simp only[Aas]at h;subst h;exact⟨.int j (j.wrap (BitVec.ofInt j.bits a &&& ~~~(BitVec.ofInt j.bits b)).toNat),by simp only[binOp,ne_eq,Ab2,AbE];rfl,fun _ _ _=>Bj _ _⟩
  |eql=>simp only[Aas]at h;subst h;exact⟨.bool (a==b),by simp only[binOp,ne_eq,Ab2,AbE];rfl,fun _ _ _=>B' _⟩
  |neq=>simp only[Aas]at h;subst h;exact⟨.bool (a != b),by simp only[binOp,ne_eq,Ab2,AbE];rfl,fun _ _ _=>B' _⟩
  |lss=>simp only[Aas]at h;subst h;exact⟨.bool (decide (a<b)),by simp only[binOp,ne_eq,Ab2,AbE];rfl,fun _ _ _=>B' _⟩
  |leq=>simp only[Aas]at h;subst h;exact⟨.bool (decide (a<=b)),by simp only[binOp,ne_eq,Ab2,AbE];rfl,fun _ _ _=>B' _⟩
  |gtr=>simp only[Aas]at h;subst h;exact⟨.bool (decide (a > b)),by simp only[binOp,ne_eq,Ab2,AbE];rfl,fun _ _ _=>B' _⟩
  |geq=>simp only[Aas]at h;subst h;exact⟨.bool (decide (a≥b)),by simp only[binOp,ne_eq,Ab2,AbE];rfl,fun _ _ _=>B' _⟩
  |_=>cases h
theorem NC{w:World}{F:Nat->Prop}{m:Mp}{H:List Ob}{v:AV}(h:SH v=true){u:Value}(a:Rep w F m H v u):∃ vs,u = .agg vs:=by
 cases v with
  |agg cs=>unfold Rep at a;grind
  |data t d=>have h:t.isAgg=true:=h;unfold Rep Cl at a;grind
  |_=>simp[SH]at h
theorem gX{T:TypeId}{n:List Bool}(h:structEq P T=some n):∃ a:Array Field,P.underlying T=some (.struct a)/\P.eqGuardType P.depth T=false/\P.stoodInHeld T=false/\E7 P a.toList 0=true/\n=a.toList.map fun f=>KZ P f.type:=by unfold structEq at h;grind
theorem C2{t:TypeId}(h:PC P t=true):(∃ k,P.underlying t=some (.int k)/\KZ P t=true)\/(P.underlying t=some .bool/\KZ P t=false):=by unfold PC at h;split at h;rename_i k a;exact .inl ⟨k,a,by simp[KZ,a]⟩;rename_i a;exact .inr ⟨a,by simp[KZ,a]⟩;grind
theorem Py{k:Bool}{f:List Bool}{c e:AV}{cs ds:List AV}{r:Bool}(h:CB (k::f) (c::cs) (e::ds)=some r):
  (∃ j a b d,k=true/\c = .data (.int j) a/\e = .data (.int j) b/\CB f cs ds=some d/\r=(ieq a b&&d))\/(∃ a b d,k=false/\c = .data .bool a/\e = .data .bool b/\CB f cs ds=some d/\r=((a==b)&&d)):=by unfold CB at h;grind
theorem VL{w:World}{F:Nat->Prop}{m:Mp}{H:List Ob}(d:Nat)(xs ys:Array Value):∀ (l:List Field) (i:Nat) (cs ds:List AV) (r:Bool),E7 P l i=true->BG w F m H cs (xs.toList.drop i)->BG w F m H ds (ys.toList.drop i)->CB (l.map fun f=>KZ P f.type) cs ds=some r ->
  (Op.eqFields (d+1) xs ys l).run P w = .ok r w:=by
 intro l;induction l with
  |nil=>
   intro i cs ds r g y hd h;cases cs with
    |cons c cs=>simp[CB]at h
    |nil=>
     cases ds with
      |cons c cs=>simp[CB]at h
      |nil=>simp only[AcE,CB,Aas]at h;subst h;simp[Op.eqFields]
  |cons f l L=>
   intro i cs ds r g y hd h;rw[AbL]at h;cases cs with
    |nil=>cases z:KZ P f.type<;>rw[z]at h<;>simp[CB]at h
    |cons c cs=>
     cases ds with
      |nil=>cases z:KZ P f.type<;>rw[z]at h<;>simp[CB]at h
      |cons e ds=>
       simp only[E7,Aau,bne_iff_ne,Aat]at g;obtain⟨M,D,n,g⟩:=g;unfold BG at y hd;obtain⟨v,vs,G,I,N⟩:=y;obtain⟨u,us,J,K,O⟩:=hd;have Q:xs[i]? = some v:=by
        have:=Abx (·[0]?) G
        grind
       have R:ys[i]? = some u:=by
        have:=Abx (·[0]?) J
        grind
       have V:xs.toList.drop (i+1)=vs:=by have:=Abx (List.drop 1) G;simpa only[AcZ,Adp,Acf]using this
       have W:ys.toList.drop (i+1)=us:=by have:=Abx (List.drop 1) J;simpa only[AcZ,Adp,Acf]using this
       have s:Fq P f.type=some false:=by rcases C2 n with⟨k,x,_⟩|⟨x,_⟩<;>simp[Fq,x]
       have S:(part f.type xs f.offset).run P w = .ok v w:=by rw[D];simp[part,Dg s,Q]
       have T:(part f.type ys f.offset).run P w = .ok u w:=by rw[D];simp[part,Dg s,R]
       have step:∀ (q p:Bool),(Op.equalIn (d+1) f.type v u).run P w = .ok q w->CB (l.map fun f=>KZ P f.type) cs ds=some p->(Op.eqFields (d+1) xs ys (f::l)).run P w = .ok (q&&p) w:=by intro q p U t;have X:=L (i+1) cs ds p g (by grind) (by grind) t;simp only[Op.eqFields,M,ne_eq,not_false_eq_true,Abc,Sem.run_bind,S,Result.andThen_ok,T,U,Sem.run_ite];cases q;all_goals simp_all
       rcases Py h with⟨j,a,b,p,x,rfl,rfl,t,rfl⟩|⟨a,b,p,x,rfl,rfl,t,rfl⟩
       have A:=Bv I;have B:=Bv K;subst A B;rcases C2 n with⟨k,o,_⟩|⟨_,C⟩
       rw[DF];exact step _ _ (run_equalIn_int w d f.type j k a b o) t;grind;have A:=D1 I;have B:=D1 K;subst A B;rcases C2 n with⟨k,_,C⟩|⟨o,_⟩
       grind;exact step _ _ (run_equalIn_bool' w d f.type a b o) t
theorem vn:∀ {k i:List Bool} {cs ds:List AV} {r:Bool},CB (k++i) cs ds=some r ->
  ∃ a f d g l m,cs=a++f/\ds=d++g/\a.length=k.length/\d.length=k.length/\CB k a d=some l/\CB i f g=some m/\r=(l&&m):=by
 intro k;induction k with
  |nil=>intro i cs ds r h;exact⟨[],cs,[],ds,true,r,rfl,rfl,rfl,rfl,rfl,h,by simp⟩
  |cons b k t=>
   intro i cs ds r h;rw[AbO]at h;cases cs with
    |nil=>cases b<;>simp[CB]at h
    |cons c cs=>
     cases ds with
      |nil=>cases b<;>simp[CB]at h
      |cons e ds=>
       rcases Py h with⟨j,x,y,u,rfl,rfl,rfl,n,rfl⟩|⟨x,y,u,rfl,rfl,rfl,n,rfl⟩
       obtain⟨a,f,d,g,l,m,rfl,rfl,o,p,q,s,rfl⟩:=t n;exact⟨_::a,f,_::d,g,(ieq x y&&l),m,rfl,rfl,by simp[o],by simp[p],by simp[CB,q],s,by grind⟩;obtain⟨a,f,d,g,l,m,rfl,rfl,o,p,q,s,rfl⟩:=t n;exact⟨_::a,f,_::d,g,((x==y)&&l),m,rfl,rfl,by simp[o],by simp[p],by simp[CB,q],s,by grind⟩
theorem fj{w:World}{F:Nat->Prop}{m:Mp}{H:List Ob}:∀ {a b:List AV} {vs:List Value},BG w F m H (a++b) vs->∃ d e,vs=d++e/\BG w F m H a d/\BG w F m H b e:=by
 intro a;induction a with
  |nil=>intro b vs h;exact⟨[],vs,rfl,by unfold BG;rfl,h⟩
  |cons c a f=>intro b vs h;rw[AbO]at h;unfold BG at h;obtain⟨v,g,rfl,j,h⟩:=h;obtain⟨d,e,rfl,k,i⟩:=f h;exact⟨v::d,e,rfl,by unfold BG;grind,i⟩
theorem AB5{w:World}{F:Nat->Prop}{m:Mp}{H:List Ob}(d:Nat)(xs ys:Array Value):∀ (y:List Field) (i:Nat) (n:List Bool) (cs ds:List AV) (r:Bool),Sp P y i=some n->BG w F m H cs (xs.toList.drop i)->BG w F m H ds (ys.toList.drop i)->CB n cs ds=some r ->
  (Op.eqFields (d+1+1) xs ys y).run P w = .ok r w:=by
 intro y;induction y with
  |nil=>
   intro i n cs ds r h Q hd p;cases h;cases cs with
    |cons c cs=>simp[CB]at p
    |nil=>
     cases ds with
      |cons c cs=>simp[CB]at p
      |nil=>simp only[CB,Aas]at p;subst p;simp[Op.eqFields]
  |cons f y ih=>
   intro i n cs ds r h Q hd p;unfold Sp at h;split at h;cases h;rename_i K;simp only[Aau,bne_iff_ne,Aat]at K;obtain⟨hn,R⟩:=K
   have go:∀ (v u:Value) (n1 x:List Bool) (z l A o:List AV) (q D:Bool) (j:Nat),Sp P y (i+j)=some x->BG w F m H l (xs.toList.drop (i+j))->BG w F m H o (ys.toList.drop (i+j))->CB x l o=some D ->
     (part f.type xs f.offset).run P w = .ok v w->(part f.type ys f.offset).run P w = .ok u w->(Op.equalIn (d+1+1) f.type v u).run P w = .ok q w->(Op.eqFields (d+1+1) xs ys (f::y)).run P w = .ok (q&&D) w:=by
    intro v u n1 x z l A o q D j h1 G h3 L I J h5
    have h6:=ih (i+j) x l o D h1 G h3 L
    simp only[Op.eqFields,hn,ne_eq,not_false_eq_true,Abc,Sem.run_bind,I,Result.andThen_ok,J,h5,Sem.run_ite]
    cases q
    all_goals simp_all
   split at h;rename_i B;obtain⟨x,G,rfl⟩:=Aa0.1 h;cases cs with
    |nil=>cases V:KZ P f.type<;>rw[V]at p<;>simp[CB]at p
    |cons c cs=>
     cases ds with
      |nil=>cases V:KZ P f.type<;>rw[V]at p<;>simp[CB]at p
      |cons e ds=>
       unfold BG at Q hd;obtain⟨v,vs,e1,hv,hvs⟩:=Q;obtain⟨u,us,e2,M,hus⟩:=hd;have g1:xs[i]? = some v:=by
        have:=Abx (·[0]?) e1
        grind
       have g2:ys[i]? = some u:=by
        have:=Abx (·[0]?) e2
        grind
       have n1:xs.toList.drop (i+1)=vs:=by have:=Abx (List.drop 1) e1;simpa only[AcZ,Adp,Acf]using this
       have n3:ys.toList.drop (i+1)=us:=by have:=Abx (List.drop 1) e2;simpa only[AcZ,Adp,Acf]using this
       have s:Fq P f.type=some false:=by rcases C2 B with⟨k,S,_⟩|⟨S,_⟩<;>simp[Fq,S]
       have I:(part f.type xs f.offset).run P w = .ok v w:=by rw[R];simp[part,Dg s,g1]
       have J:(part f.type ys f.offset).run P w = .ok u w:=by rw[R];simp[part,Dg s,g2]
       rcases Py p with⟨j,a,b,D,S,rfl,rfl,L,rfl⟩|⟨a,b,D,S,rfl,rfl,L,rfl⟩
       have W:=Bv hv;have X:=Bv M;subst W X;rcases C2 B with⟨k,C,_⟩|⟨_,Y⟩
       rw[DF];exact go _ _ [] x [] cs [] ds _ _ 1 G (by grind) (by grind) L I J (run_equalIn_int w _ f.type j k a b C);grind;have W:=D1 hv;have X:=D1 M;subst W X;rcases C2 B with⟨k,_,Y⟩|⟨C,_⟩
       grind;exact go _ _ [] x [] cs [] ds _ _ 1 G (by grind) (by grind) L I J (run_equalIn_bool' w _ f.type a b C)
   split at h;rename_i t M;split at h;rename_i hg;simp only[Aau,Ab8,Aat]at hg;obtain⟨Z,hge,hsz⟩:=hg;obtain⟨x,G,rfl⟩:=Aa0.1 h;obtain⟨z,l,A,o,r1,r2,rfl,rfl,l1,l2,q1,q2,rfl⟩:=vn p;obtain⟨x1,x2,ex,N,hx2⟩:=fj Q;obtain⟨y1,y2,ey,hy1,hy2⟩:=fj hd;have lx:=Be N;have ly:=Be hy1;have lg:(t.toList.map fun g=>KZ P g.type).length=t.size:=by simp
   rw[lg]at l1 l2;have s:Fq P f.type=some true:=by simp[Fq,M]
   have hfo:P.fieldsOf f.type=t:=by simp[Program.fieldsOf,M]
   have tk:∀ (T:Array Value) (U z2:List Value),T.toList.drop i=U++z2->U.length=t.size->(T.extract i (i+t.size)).toList=U/\T.toList.drop (i+t.size)=z2:=by intro T U z2 hz hl;constructor;rw[Array.toList_extract,AdU,hz,Nat.add_sub_cancel_left,<- hl,List.take_left'];rfl;rw[<- AcZ,hz,<- hl,List.drop_left'];rfl
   obtain⟨t1,t2⟩:=tk xs x1 x2 ex (by omega);obtain⟨t3,t4⟩:=tk ys y1 y2 ey (by omega);have O:(sizeOf f.type).run P w = .ok t.size w:=by obtain⟨ii,hi1,hi2⟩:=Aa0.1 hsz;rw[run_sizeOf hi1,hi2]
   have I:(part f.type xs f.offset).run P w = .ok (.agg (xs.extract i (i+t.size))) w:=by rw[R];simp[part,Dg s,O]
   have J:(part f.type ys f.offset).run P w = .ok (.agg (ys.extract i (i+t.size))) w:=by rw[R];simp[part,Dg s,O]
   refine go _ _ [] x [] l [] o r1 r2 t.size G (by grind) (by grind) q2 I J ?_;rw[run_equalIn_agg w (d+1) f.type _ _ (by grind) Z,hfo];exact VL d _ _ t.toList 0 z A r1 hge (by rw[t1];exact N) (by grind) q1;grind;grind
theorem bq{T:TypeId}{n:List Bool}(h:W5 P T=some n):∃ a:Array Field,P.underlying T=some (.struct a)/\P.eqGuardType P.depth T=false/\P.stoodInHeld T=false/\Sp P a.toList 0=some n:=by unfold W5 at h;grind
theorem wg(Z:BinOp)(T:TypeId)(x y:Operand)(T':TypeId):Claim P E (.binOp Z T x y T'):=by
 intro R ty ρ H fz slot k r h;simp only[evalOp,Ds]at h;split at h;rename_i n f;split at h;rename_i cs ds O Q A;rw[Aau]at A;obtain⟨fs,B,X,hst,hok⟩:=bq f;have hfo:P.fieldsOf T=fs:=by simp[Program.fieldsOf,B]
 have K:∀ (b:Bool),CB n cs ds=some b->∀ (w:World) (F:Nat->Prop) (m:Mp) (ρc:Operand->Value),(∀ x,Rep w F m H (ρ x) (ρc x)) ->
   ∃ vs us,ρc x = .agg vs/\ρc y = .agg us/\(Op.equalIn 10000 T (.agg vs) (.agg us)).run P w = .ok b w:=by
  intro b G w F m ρc d
  obtain⟨vs,i⟩:=NC A.1 (d x)
  obtain⟨us,p⟩:=NC A.2 (d y)
  have L:=cells?_ok O (d x)
  have M:=cells?_ok Q (d y)
  rw[i]at L
  rw[p]at M
  refine⟨vs,us,i,p,?_⟩
  rw[run_equalIn_agg w 9999 T vs us (by grind) hst,hfo]
  exact AB5 9997 vs us fs.toList 0 n cs ds b hok (by simpa [Value.cells]using L) (by simpa [Value.cells]using M) G
 split at h;rename_i b G;refine⟨_,_,h,fun C D=>by simp only[evalOp,Ds,f,O,Q,A.1,A.2,Aby,G],BD fun w F m ρc o e q hi d=>⟨.bool b,?_,B' _⟩⟩;obtain⟨vs,us,i,p,S⟩:=K b G w F m ρc d;simp[execOp,e,i,p,run_eqGuard_agg w _ T x y vs us X,run_eql_struct w T vs us,S];rename_i b G;refine⟨_,_,h,fun C D=>by simp only[evalOp,Ds,f,O,Q,A.1,A.2,Aby,G],BD fun w F m ρc o e q hi d=>⟨.bool (!b),?_,B' _⟩⟩;obtain⟨vs,us,i,p,S⟩:=K b G w F m ρc d;simp[execOp,e,i,p,run_eqGuard_agg w _ T x y vs us X,run_neq_struct w T vs us,S];grind;grind;rename_i f;split at h;rename_i j a j' b t z;split at h;split at h;rename_i n g;refine⟨_,_,h,fun C D=>by simp only[evalOp,Ds,f,t,z,g],BD fun w F m ρc o e q hi d=>⟨.int j n,?_,Bj _ _⟩⟩;have i:=Bv (t▸d x);have p:=Bv (z▸d y);rw[SW]at g;unfold mu at g;split at g;cases g;simp only[Aas]at g;subst g;simp[execOp,Ik,binOp,Op.shift, *];grind;split at h;rename_i n g;refine⟨_,_,h,fun C D=>by simp only[evalOp,Ds,f,t,z,g],BD fun w F m ρc o e q hi d=>⟨.int j n,?_,Bj _ _⟩⟩;have i:=Bv (t▸d x);have p:=Bv (z▸d y);rw[cD]at g;unfold yr at g;split at g;cases g;simp only[Aas]at g;subst g;simp[execOp,Ik,binOp,Op.shift, *];grind;split at h;rename_i J;split at h;rename_i n g;refine⟨_,_,h,fun C D=>by simp only[evalOp,Ds,f,t,z,g,J],BD fun w F m ρc o e q hi d=>⟨.int j n,?_,Bj _ _⟩⟩;have i:=Bv (t▸d x);have p:=Bv (z▸d y);simp only[Aat]at J;subst J;rw[Se]at g;unfold nS at g;split at g;cases g;simp only[Aas]at g;subst g;simp[execOp,Ik,binOp,Op.intDiv, *];grind;grind;split at h;rename_i J;split at h;rename_i n g;refine⟨_,_,h,fun C D=>by simp only[evalOp,Ds,f,t,z,g,J],BD fun w F m ρc o e q hi d=>⟨.int j n,?_,Bj _ _⟩⟩;have i:=Bv (t▸d x);have p:=Bv (z▸d y);simp only[Aat]at J;subst J;rw[cg]at g;unfold zS at g;split at g;cases g;simp only[Aas]at g;subst g;simp[execOp,Ik,binOp,Op.intDiv, *];grind;grind;rename_i h1 h2 h3 h4;split at h;rename_i v J hv;refine⟨_,_,h,fun C D => ?_,BD fun w F m ρc o e q hi d => ?_⟩;simp only[evalOp,Ds,f,t,z];grind;have i:=Bv (t▸d x);have p:=Bv (z▸d y);simp only[Aat]at J;subst J;obtain⟨u,q1,q2⟩:=zG (P:=P) hv T w;exact⟨u,by simp[execOp,e,i,p,Ik,q1],q2 _ _ _⟩;grind;rename_i a b t z;split at h;rename_i B;refine⟨_,_,h,fun C D=>by simp only[evalOp,Ds,f,t,z,B],BD fun w F m ρc o e q hi d=>⟨.bool (a==b),?_,B' _⟩⟩;have i:=D1 (t▸d x);have p:=D1 (z▸d y);simp[execOp,e,i,p,VK,run_eql_bool w T a b B];rename_i B;refine⟨_,_,h,fun C D=>by simp only[evalOp,Ds,f,t,z,B],BD fun w F m ρc o e q hi d=>⟨.bool (!(a==b)),?_,B' _⟩⟩;have i:=D1 (t▸d x);have p:=D1 (z▸d y);simp[execOp,e,i,p,VK,run_neq_bool w T a b B];grind;rename_i a b t z;have N:∀ {w:World} {F:Nat->Prop} {m:Mp} {ρc:Operand->Value},(∀ x,Rep w F m H (ρ x) (ρc x))->∃ s V,ρc x = .string s/\ρc y = .string V/\(s.toList==V.toList)=seq? a b:=by intro w F m ρc d;have L:=t▸d x;have M:=z▸d y;unfold Rep at L M;obtain⟨s,i,rfl⟩:=L;obtain⟨V,p,rfl⟩:=M;refine⟨s,V,i,p,?_⟩;rw[seq_eq];exact(wm s V).symm
 split at h;refine⟨_,_,h,fun C D=>by simp only[evalOp,Ds,f,t,z],BD fun w F m ρc o e q hi d=>⟨.bool (seq? a b),?_,B' _⟩⟩;obtain⟨s,V,i,p,S⟩:=N d;simp[execOp,e,i,p,VJ,binOp_string_eql,S];refine⟨_,_,h,fun C D=>by simp only[evalOp,Ds,f,t,z],BD fun w F m ρc o e q hi d=>⟨.bool (!(seq? a b)),?_,B' _⟩⟩;obtain⟨s,V,i,p,S⟩:=N d;simp[execOp,e,i,p,VJ,binOp_string_neq,S];grind;rename_i a t z;have Y:∀ {w:World} {F:Nat->Prop} {m:Mp} {ρc:Operand->Value},(∀ x,Rep w F m H (ρ x) (ρc x))->ρc x=Ll a/\ρc y = .nilIface:=by intro w F m ρc d;have L:=t▸d x;have M:=z▸d y;unfold Rep at L M;exact⟨L,M⟩
 have hg:∀ {w:World} (Z:BinOp),isConst y=true->(eqGuard Z T x y (Ll a) .nilIface).run P w = .ok () w:=by
  intro w Z W;rcases a with _|⟨U,l⟩
  cases y<;>simp only[isConst,AbB]at W;simp only[Ll,eqGuard_nil_constR];rfl;simp only[Ll,eqGuard_at_iface];rfl
 split at h;rename_i ms B W;refine⟨_,_,h,fun C D=>by simp only[evalOp,Ds,f,t,z,B,W],BD fun w F m ρc o e q hi d=>⟨.bool a.isNone,?_,B' _⟩⟩;obtain⟨i,p⟩:=Y d;have I:P.underlying T=some (.interface (P.methodsAt T)):=by unfold Program.methodsAt;rw[B]
 have G:(binOp .eql T (Ll a) .nilIface).run P w = .ok (.bool a.isNone) w:=by
  rcases a with _|⟨U,l⟩
  exact run_eql_nil_nil w T I;exact run_eql_held_nil w T U _ I
 simp[execOp,e,i,p,hg _ W,G];rename_i ms B W;refine⟨_,_,h,fun C D=>by simp only[evalOp,Ds,f,t,z,B,W],BD fun w F m ρc o e q hi d=>⟨.bool (!a.isNone),?_,B' _⟩⟩;obtain⟨i,p⟩:=Y d;have I:P.underlying T=some (.interface (P.methodsAt T)):=by unfold Program.methodsAt;rw[B]
 have G:(binOp .neq T (Ll a) .nilIface).run P w = .ok (.bool (!a.isNone)) w:=by
  rcases a with _|⟨U,l⟩
  exact run_neq_nil_nil w T I;exact run_neq_held_nil w T U _ I
 simp[execOp,e,i,p,hg _ W,G];grind;grind
theorem ACl(i:UnOp)(T:TypeId)(x:Operand):Claim P E (.unOp i T x):=by intro R ty ρ H fz slot k r h;simp only[evalOp,Xw]at h;split at h;rename_i b d;refine⟨_,_,h,fun l p=>by simp only[evalOp,Xw,d],BD fun w F m ρc o a e hi f=>⟨.bool (!b),?_,B' _⟩⟩;have g:=D1 (d▸f x);simp[execOp,a,g,Op.unary];rename_i j n d;refine⟨_,_,h,fun l p=>by simp only[evalOp,Xw,d],BD fun w F m ρc o a e hi f=>⟨.int j (j.wrap (0-n)),?_,Bj _ _⟩⟩;have g:=Bv (d▸f x);simp[execOp,a,g,Op.unary,Op.intArith];grind
theorem Ic{T:TypeId}{j:IntKind}(h:Ns P T=some j):P.underlying T=some (.int j):=by unfold Ns at h;grind
theorem fS(fn:Fn)(first cs:Array Operand):Claim P E (.makeFunc fn first cs):=by
 intro R ty ρ H fz slot k r h;cases fn with
  |func f=>
   simp only[evalOp,F8]at h;split at h;rename_i b;refine⟨_,_,h,fun g j=>by simp only[evalOp,F8,b],BD fun w F m ρc o a d hi l=>⟨.func (.func f) #[] (cs.map ρc),?_,?_⟩⟩;have:first = #[]:=by grind
   subst this;simp[execOp,a,Instr.makeFunc];unfold Rep;refine⟨_,rfl,?_⟩;rw[AcU];exact EV (by simp) fun i c v n p=>by grind
   rename_i y ys b;split at h;rename_i e;refine⟨_,_,h,fun g j=>by simp only[evalOp,F8,b,e],BD fun w F m ρc o a d hi l=>⟨.func (.func f) (first.map ρc) #[],?_,?_⟩⟩;have:cs = #[]:=by grind
   subst this;simp[execOp,a,Instr.makeFunc];unfold Rep;refine⟨_,rfl,?_⟩;rw[AcU,<- b];exact EV (by simp) fun i c v n p=>by grind
   grind
  |_=>simp[evalOp,F8]at h
theorem iI(T:TypeId)(o:Option Operand):Claim P E (.makeMap T o):=by
 intro R ty ρ H fz slot k r h;cases o with
  |some x=>simp[evalOp,J5]at h
  |none=>
   simp only[evalOp,J5]at h;split at h;rename_i a b z;split at h;rename_i j e t A B p;split at h;rename_i f;refine⟨_,_,h,fun C D=>by simp only[evalOp,J5,z,A,B,p,f],Bt fun w F m ρc o g s hi G => ?_⟩;obtain⟨_,_,d⟩:=Cy p
   have u:=BU.AaB (w':=w.alloc (.map #[] 0)) hi f (T:=.map j []) (e:=e) (t:=t) (n:=0) (some (w.heap.size,0)) rfl rfl rfl (by simp) (fun b q=>Below.heap_alloc w _ b q)
    (fun b c h=>by grind) d
    ⟨d,#[],0,heap_alloc_new w _,⟨rfl,fun i e h=>by simp at h⟩,rfl,.inl rfl,fun k h=>by cases h⟩
    (fun k I=>absurd I (Nat.not_lt_zero k))
   refine⟨.map (some w.heap.size),_,F,_,by simp[execOp,g,Instr.makeMap],u,?_⟩;unfold Rep;have l:=BW (CF f).1;rw[show C6 { objs:=[(slot,.rows (.map j []) e t [] 0 none)] } H=H.set slot (.rows (.map j []) e t (List.replicate 0 ([]:List t.den)) 0 none)from rfl,Bs l,NR];exact⟨_,_,rfl,rfl⟩;grind;rename_i J;split at h;rename_i v y K q;split at h;rename_i f;refine⟨_,_,h,fun C D=>by simp only[evalOp,J5,z,K,q,f],Bt fun w F m ρc o g s hi G => ?_⟩
   have u:=BU.new (w':=w.alloc (.map #[] 0)) hi f (ob:=.map v y []) trivial (some (w.heap.size,0)) rfl rfl rfl (by simp) (fun b q=>Below.heap_alloc w _ b q)
    (fun b c h=>by grind)
    (fun _=>⟨w.heap.size,0,#[],0,rfl,heap_alloc_new w _,rfl,rfl,fun i e h=>by simp at h⟩)
   refine⟨.map (some w.heap.size),_,F,_,by simp[execOp,g,Instr.makeMap],u,?_⟩;unfold Rep;have l:=BW (CF f).1;rw[show C6 { objs:=[(slot,.map v y [])] } H=H.set slot (.map v y [])from rfl,Bs l,Ba];exact⟨_,_,rfl,rfl⟩;grind;grind;grind
theorem ABR(b:Bool)(t:Ty):zeroCells (t.made b)=zeroCells t:=by cases t<;>cases b<;>rfl
theorem AIr(b:Bool)(t:Ty):(t.made b).size=t.size:=by cases t<;>cases b<;>rfl
theorem Zc(T:TypeId)(x y:Operand):Claim P E (.makeSlice T x y):=by
 intro R ty ρ H fz slot k r h;simp only[evalOp,Ij]at h;split at h;rename_i e t L;split at h;rename_i zz j l j' c hz hx hy;split at h;rename_i f;split at h;rename_i V;refine⟨_,_,h,fun R' k'=>by simp only[evalOp,Ij,L,hz,hx,hy,f,V],Bt fun w F m ρc o M hty hi hr => ?_⟩;obtain⟨W,g,A⟩:=Cy L;obtain⟨t',cs'⟩:=zz;obtain⟨hty',N,i,z,O,X,G,v,hza⟩:=Ci hz;subst N;have:t'=t:=by grind
 subst this;simp only[Aau,J3,BR,Aat,O,Acu,Abg]at f;obtain⟨⟨⟨⟨a1,a2⟩,a3,a4⟩,a5⟩,a6⟩:=f;have e1:=Bv (hx▸hr x);have e2:=Bv (hy▸hr y);obtain⟨a,rfl⟩:=Aaw a1;obtain⟨c',rfl⟩:=Aaw a3;have Y:(i.bytes:Int)*(c':Int)<=281474976710656:=by have:i.bytes*c'<=65536*4294967296:=Aca a6 (by omega);omega
 have p:=run_make (P:=P) w T e i z W O X j j' a c' a1 a5 Y (by omega);simp only[Abn]at p;have a5':(a:Int)<=(c':Int):=a5;have a4':(c':Int)<=4294967296:=a4;have hle:a<=c':=by omega
 cases Q:(match E.rows,sliceAt P e with|true,some q=>some q|_,_=>none)with
  |some q=>
   obtain⟨Z,t2⟩:=q;have I:Sq P E e t' (A4 (a:Int)) = .rows (.arr e) Z t2 (List.replicate a []) 0 none:=by unfold Sq;split at Q;rename_i q' h1 h2;cases Q;rw[h1,h2];rfl;grind
   have hs2:sliceAt P e=some (Z,t2):=by grind
   obtain⟨hu2,hty2,s⟩:=Cy hs2;have htt:∃ y,t' = .slice y:=by unfold mP ZR at g;rw[hu2]at g;simp only[Aa0]at g;grind
   obtain⟨y,rfl⟩:=htt;have hz1:z.cells.toList=[.slice none 0 0]:=by have:=Ca (w:=w) (F:=F) (.nul y) _ G;exact this
   have B:i.size=1:=v;have J:z.cells.size=1:=by rw[<- AbH,hz1];rfl
   have d:(madeCells z.cells (c'*i.size)).toList=List.replicate c' (.slice none 0 0):=by
    have:=D2 z.cells c';rw[J,Nat.mul_one]at this;rw[B,Nat.mul_one];have h2:(madeCells z.cells c').toList=(List.replicate c' z.cells.toList).flatten:=by unfold madeCells;grind
    simp_all
   have S:=heap_alloc_new w (.cells (madeCells z.cells (c'*i.size)) e)
   have hg:=BU.AaB (w':=w.alloc (.cells (madeCells z.cells (c'*i.size)) e)) hi V (T:=.arr e) (e:=Z) (t:=t2) (n:=a) (some (w.heap.size,c')) rfl rfl rfl (by simp) (fun b hb=>Below.heap_alloc w _ b hb)
    (fun b c h=>by grind) s
    ⟨s,_,S,by grind,by simp only[maxLen];omega,by rw[size_madeCells,B,Nat.mul_one],fun u W=>by
     rw[d]at W
     rw[Adb W];rfl⟩
    (fun k hk=>⟨_,_,none,rfl,_,S,by grind⟩)
   refine⟨.slice (some ⟨w.heap.size,0,none⟩) a c',w.alloc (.cells (madeCells z.cells (c'*i.size)) e),F,(Rr m slot (some (w.heap.size,c')) fun _=>none),by simp[execOp,M,e1,e2,p],(?_:BU w F m H fz (w.alloc (.cells (madeCells z.cells (c'*i.size)) e)) F (Rr m slot (some (w.heap.size,c')) fun _=>none) (H.set slot (Sq P E e (.slice y) (A4 (a:Int)))) fz),?_⟩;grind;show Rep _ _ _ (H.set slot (Sq P E e (.slice y) (A4 (a:Int)))) _ _;rw[I];unfold Rep;rw[Bs (BW (CF V).1),NR];simp only[By,Aba]
  |none=>
   have I:Sq P E e t' (A4 (a:Int)) = .arr e (t'.made E.keep) (Df (A4 (a:Int)) (t'.made E.keep).zero):=by unfold Sq;grind
   rw[I];rw[<- ABR E.keep t']at G;rw[<- AIr E.keep t']at A v;generalize t'.made E.keep=t' at *;have U:=Ca (w:=w) (F:=F) t' _ G;have J:z.cells.size=t'.size:=by rw[<- AbH];exact Dat.length t' U
   have d:(madeCells z.cells (c'*i.size)).toList=(List.replicate c' z.cells.toList).flatten:=by have:=D2 z.cells c';rw[J,<- v]at this;exact(by unfold madeCells;grind)
   have C:=Gd (w:=w) (F:=F) U a;have K:=B5 (fun x cs (h:Dat w F t' x cs)=>Dat.length t' h) C;rw[Aba]at K
   obtain⟨m',hg,D⟩:=Gs hi V (w':=w.alloc (.cells (madeCells z.cells (c'*i.size)) e)) A (xs:=List.replicate a t'.zero) (heap_alloc_new w _) rfl rfl rfl (by simp) (fun b hb=>Below.heap_alloc w _ b hb)
    (cap:=c') (by grind) (by simp only[maxLen];omega) (by rw[size_madeCells,v]) C (by
     rw[d,K]
     have:c'=a+(c'-a):=by omega
     rw[this,<- List.replicate_append_replicate,AdS,AdN,Abs (by omega),K]
     simp)
   rw[Aba]at D;exact⟨_,_,F,m',by simp[execOp,M,e1,e2,p],hg,D⟩
 grind;grind;grind;grind
end
section
variable {P:Program} {E:Env}
theorem Jg{α:Type}{xs ys:List α}{l h:Int}(e:EX xs l h=some ys):0<=l/\l<=h/\h<=xs.length/\ys=(xs.take h.toNat).drop l.toNat:=by rw[Zn]at e;unfold sE at e;split at e;rename_i a;simp only[Aas]at e;exact⟨a.1,a.2.1,a.2.2,e.symm⟩;cases e
theorem BA{α:Type}{xs:List α}{i:Int}{x:α}(e:idx xs i=some x):0<=i/\i<xs.length/\xs[i.toNat]? = some x:=by rw[idx_eq]at e;unfold eE at e;split at e;cases e;rename_i a;have:=(AbC.1 e).1;exact⟨by omega,by omega,e⟩
theorem Nv{w:World}{F:Nat->Prop}{m:Mp}{H:List Ob}{v:AV}{n:Int}(h:kO v=some n){u:Value}(a:Rep w F m H v u):∃ k,u = .int k n:=by unfold kO at h;split at h;simp only[Aas]at h;subst h;exact⟨_,Bv a⟩;cases h
theorem Pk{w:World}{F:Nat->Prop}{m:Mp}{H:List Ob}{ρ:Operand->AV}{ρc:Operand->Value}(a:∀ x,Rep w F m H (ρ x) (ρc x)){o:Option Operand}{l:Option Int}(h:F6 ρ o=some l):
  (o.map ρc=none/\l=none)\/∃ k n,o.map ρc=some (.int k n)/\l=some n:=by unfold F6 at h;split at h;simp only[Aas]at h;exact .inl ⟨rfl,h.symm⟩;rename_i x;simp only[Aa0]at h;obtain⟨n,b,rfl⟩:=h;obtain⟨k,d⟩:=Nv b (a x);exact .inr ⟨k,n,by simp[d],rfl⟩
theorem Ee{w:World}{T e:TypeId}{i:TypeInfo}(o:P.underlying T=some (.slice e))(hi:P.info? e=some i)(a:Option Addr)(len cap:Nat){c b:Option Value}{l h:Int}
  (d:(c=none/\l=0)\/∃ k,c=some (.int k l)) (f:(b=none/\h=len)\/∃ k,b=some (.int k h)) (p:0<=l) (g:l<=h) (j:h<=cap) (r:len<=cap) :
  (Instr.sliceAt T (.slice a len cap) c b none).run P w = .ok (.slice (if cap=l.toNat then a else a.map (·.add (l.toNat*i.size))) (h.toNat-l.toNat) (cap-l.toNat)) w:=by
 have q:(Instr.sliceBounds true len cap c b none).run P w = .ok (l.toNat,h.toNat,cap) w:=by
  obtain⟨l,rfl⟩:=Aaw p;obtain⟨h,rfl⟩:=Aaw (show 0<=h by omega);have g:l<=h:=by omega
  have j:h<=cap:=by omega
  rcases f with⟨rfl,s⟩|⟨k,rfl⟩<;>rcases d with⟨rfl,t⟩|⟨u,rfl⟩
  have m:l=0:=by omega
  have n:h=len:=by omega
  subst m;subst n;simp[Instr.sliceBounds];have n:h=len:=by omega
  subst n;simp[Instr.sliceBounds,Instr.sliceBound,asIntOf,g];have m:l=0:=by omega
  subst m;simp[Instr.sliceBounds,Instr.sliceBound,asIntOf,j];simp[Instr.sliceBounds,Instr.sliceBound,asIntOf,g,j]
 simp only[Instr.sliceAt,Sem.run_bind,run_underlying o,Result.andThen_ok,Instr.slice,q,run_sizeOf hi,Sem.run_pure]
theorem cT{w:World}(n:Nat){b a:Option Value}{l h:Int}
  (c:(b=none/\l=0)\/∃ k,b=some (.int k l)) (d:(a=none/\h=n)\/∃ k,a=some (.int k h)) (j:0<=l) (e:l<=h) (f:h<=n) :
  (Instr.sliceBounds false n n b a none).run P w = .ok (l.toNat,h.toNat,n) w:=by
 obtain⟨l,rfl⟩:=Aaw j;obtain⟨h,rfl⟩:=Aaw (show 0<=h by omega);have e:l<=h:=by omega
 have f:h<=n:=by omega
 rcases d with⟨rfl,m⟩|⟨k,rfl⟩<;>rcases c with⟨rfl,o⟩|⟨p,rfl⟩
 have g:l=0:=by omega
 have i:h=n:=by omega
 subst g;subst i;simp[Instr.sliceBounds];have i:h=n:=by omega
 subst i;simp[Instr.sliceBounds,Instr.sliceBound,asIntOf,e];have g:l=0:=by omega
 subst g;simp[Instr.sliceBounds,Instr.sliceBound,asIntOf,f];simp[Instr.sliceBounds,Instr.sliceBound,asIntOf,e,f]
theorem Sr{w:World}{F:Nat->Prop}{m:Mp}{H:List Ob}{ρ:Operand->AV}{ρc:Operand->Value}(b:∀ x,Rep w F m H (ρ x) (ρc x)){o:Option Operand}{l:Option Int}(h:F6 ρ o=some l)(d:Int):
  (o.map ρc=none/\l.getD d=d)\/∃ k,o.map ρc=some (.int k (l.getD d)):=by
 rcases Pk b h with⟨a,rfl⟩|⟨k,n,a,rfl⟩
 exact .inl ⟨a,rfl⟩;exact .inr ⟨k,a⟩
theorem F7{w w':World}{ρc:Operand->Value}{o:Oper}{T:TypeId}{x:Operand}{d e:Option Operand}{v u:Value}(b:o.op = .slice T x d e none)(f:ρc x=v)
  (a:(Instr.sliceAt T v (d.map ρc) (e.map ρc) none).run P w = .ok u w'):(execOp ρc o).run P w = .ok (.value u) w':=by simp[execOp,b,f,a]
theorem YA(T:TypeId)(x:Operand)(lo up:Option Operand):Claim P E (.slice T x lo up none):=by
 intro R ty ρ H fz slot k r h;simp only[evalOp,Dr]at h;split at h;rename_i e J;split at h;rename_i l C K L;unfold H6 at h;split at h;rename_i t xs G;split at h;rename_i g;split at h;cases h;rename_i ys I;refine⟨_,_,h,fun R' k'=>by simp only[evalOp,Dr,J,K,L,H6,G,g,I],BD fun w F m ρc o v V hi y => ?_⟩;obtain⟨N,M,O,rfl⟩:=Jg I;simp only[Aat]at g;obtain⟨i,z,s⟩:=B0 g;have d:=y x;rw[G]at d;have d:Dat w F (.slice t) xs [ρc x]:=d;obtain⟨a,cap,U,e2,e3⟩:=d;simp only[AbR,AdG]at U;have f:=Ee (P:=P) (w:=w) J z a (List.length (α:=t.den) xs) cap (Sr y K 0) (Sr y L (A2 xs)) N M (by omega) e2;refine⟨_,F7 v U f,?_⟩;have A:((xs.take (C.getD (A2 xs)).toNat).drop (l.getD 0).toNat).length=(C.getD (A2 xs)).toNat-(l.getD 0).toNat:=by rw[Acp,AbU];omega
 show Dat w F (.slice t) _ [_];refine⟨_,_,by rw[A],by rw[A];omega,fun hne => ?_⟩;have X:(l.getD 0).toNat<(C.getD (A2 xs)).toNat:=by rcases Acs (l.getD 0).toNat (C.getD (A2 xs)).toNat with Y|Y;exact Y;exact absurd (AbQ (by rw[A];omega)) hne
 have hxne:xs≠[]:=by rintro rfl;simp at hne
 obtain⟨ad,row,Z,q2,q3,q4⟩:=e3 hxne;have hk:=fun(x:t.den) cs (h:Dat w F t x cs)=>Dat.length t h;refine⟨ad.add ((l.getD 0).toNat*t.size),_,?_,by rw[KE];exact q2,Jr hk (l.getD 0).toNat (FF hk (C.getD (A2 xs)).toNat q3),fun j u W => ?_⟩;rw[Aa2 (by omega),Z,s];rfl;rw[add_add];rw[Ada,AdA]at W;split at W;exact q4 _ u W;cases W;cases h;rename_i t G;split at h;rename_i hss;split at h;rename_i ys I;refine⟨_,_,h,fun R' k'=>by simp only[evalOp,Dr,J,K,L,H6,G,hss,I],BD fun w F m ρc o v V hi y => ?_⟩;obtain⟨N,M,O,_⟩:=Jg I;obtain⟨sz,g⟩:=Ab0.1 hss;obtain⟨i,z,s⟩:=B0 g;have d:=y x;rw[G]at d;unfold Rep at d;simp only[Aa8]at O;have f:=Ee (P:=P) (w:=w) J z none 0 0 (Sr y K 0) (Sr y L 0) N M O (Aax _);refine⟨_,F7 v d f,?_⟩;unfold Rep;have h1:(l.getD 0).toNat=0:=by omega
 have h2:(C.getD 0).toNat=0:=by omega
 rw[h1,h2];rfl;cases h;cases h;rename_i id G;split at h;rename_i T' t xs D;split at h;rename_i g;split at h;cases h;rename_i ys I;refine⟨_,_,h,fun R' k'=>by simp only[evalOp,Dr,J,K,L,H6,G,D,g,I],BD fun w F m ρc o v V hi y => ?_⟩;obtain⟨N,M,O,rfl⟩:=Jg I;simp only[Aat]at g;obtain⟨i,z,s⟩:=B0 g;have d:=y x;rw[G]at d;unfold Rep at d;rw[D]at d;have A:((xs.take (C.getD (A2 xs)).toNat).drop (l.getD 0).toNat).length=(C.getD (A2 xs)).toNat-(l.getD 0).toNat:=by rw[Acp,AbU];omega
 obtain⟨X,B⟩:=hi.obj id _ D;cases Q:m id with
  |none=>
   rw[Q]at d B;obtain⟨a,U⟩:=d;simp only at B;subst B;have f:=Ee (P:=P) (w:=w) J z a 0 0 (Sr y K 0) (Sr y L (A2 ([]:List t.den))) N M (by simpa using O) (Aax _);refine⟨_,F7 v U f,?_⟩;unfold Rep;rw[D,Q];simp only[Aa8]at O;have Z:(l.getD 0).toNat=0:=by omega
   have q2:(C.getD (A2 ([]:List t.den))).toNat=0:=by omega
   rw[Z,q2];exact And.intro (by simp[A4,Z,A2]) ⟨_,by simp[A4,A2];rfl⟩
  |some p=>
   obtain⟨b,cap⟩:=p;rw[Q]at d B;obtain⟨vs,row,U,e2,_⟩:=B;simp only[By]at d;have f:=Ee (P:=P) (w:=w) J z (some ⟨b,0,none⟩) (List.length (α:=t.den) xs) cap (Sr y K 0) (Sr y L (A2 xs)) N M (by omega) e2;refine⟨_,F7 v d f,?_⟩;unfold Rep;rw[D,Q];have q:A4 (A2 ((xs.take (C.getD (A2 xs)).toNat).drop (l.getD 0).toNat))=(C.getD (A2 xs)).toNat-(l.getD 0).toNat:=by unfold A4 A2;rw[Abn];exact A
   rw[q];refine⟨by unfold A4;omega,_,rfl,fun S => ?_⟩;unfold A4 at S |-;rw[Aa2 (by omega),<- s];simp[DG]
 cases h;cases h;rename_i id off n G;split at h;rename_i T' t xs D;split at h;rename_i g;split at h;cases h;rename_i ys I;refine⟨_,_,h,fun R' k'=>by simp only[evalOp,Dr,J,K,L,H6,G,D,g,I],BD fun w F m ρc o v V hi y => ?_⟩;obtain⟨N,M,O,rfl⟩:=Jg I;simp only[Aat]at g;obtain⟨i,z,s⟩:=B0 g;have d:=y x;rw[G]at d;unfold Rep at d;rw[D]at d;obtain⟨hle,d⟩:=d;have hcl:(Iq off n xs).length=n:=by unfold Iq;rw[AbU,Acp];omega
 rw[hcl]at O;have q:A4 (A2 (((Iq off n xs).take (C.getD (n:Int)).toNat).drop (l.getD 0).toNat))=(C.getD (n:Int)).toNat-(l.getD 0).toNat:=by unfold A4 A2;rw[Abn,Acp,AbU,hcl];omega
 obtain⟨X,B⟩:=hi.obj id _ D;cases Q:m id with
  |none=>
   rw[Q]at d B;obtain⟨a,U⟩:=d;simp only at B;subst B;have hn:n=0:=by have:=hle;simp at this;exact this.2
   subst hn;have f:=Ee (P:=P) (w:=w) J z a 0 0 (Sr y K 0) (Sr y L ((0:Nat):Int)) N M O (Aax _);refine⟨_,F7 v U f,?_⟩;unfold Rep;rw[D,Q,q];have Z:(l.getD 0).toNat=0:=by omega
   have q2:(C.getD ((0:Nat):Int)).toNat=0:=by omega
   have hoff:off=0:=by have:=hle;simpa using this
   rw[Z,q2];exact And.intro (by simp[A4,Z,hoff]) ⟨_,by simp;rfl⟩
  |some p=>
   obtain⟨b,cap⟩:=p;rw[Q]at d B;obtain⟨vs,row,U,e2,_⟩:=B;obtain⟨a,e3,e4⟩:=d;have f:=Ee (P:=P) (w:=w) J z a n (cap-off) (Sr y K 0) (Sr y L (n:Int)) N M (by omega) (by omega);refine⟨_,F7 v e3 f,?_⟩;unfold Rep;rw[D,Q,q];refine And.intro (by unfold A4;omega) ⟨if cap-off=(l.getD 0).toNat then a else a.map (·.add ((l.getD 0).toNat*i.size)),?_,fun S => ?_⟩
   unfold A4;congr 1;omega;unfold A4 at S |-;rw[Aa2 (by omega),e4 (by omega),s];simp[DG,AcF]
 cases h;cases h;cases h;cases h;rename_i n e J;split at h;rename_i l C id n' hmx K L G;split at h;rename_i T' t xs D;split at h;rename_i hc;split at h;cases h;rename_i ys I;refine⟨_,_,h,fun R' k'=>by simp only[evalOp,Dr,J,K,L,G,D,hc,I],BD fun w F m ρc o v V hi y => ?_⟩;obtain⟨N,M,O,rfl⟩:=Jg I;simp only[Aau,Aat]at hc;obtain⟨rfl,g⟩:=hc;obtain⟨i,z,s⟩:=B0 g;have d:=y x;rw[G]at d;unfold Rep G5 at d;rw[D]at d;obtain⟨A,b,Q,U⟩:=d;have hb:=cT (P:=P) (w:=w) n' (Sr y K 0) ((Sr y L (A2 xs)).imp (fun q=>⟨q.1,q.2.trans (by unfold A2;rw[A])⟩) (fun q=>q)) N M (by omega);refine⟨_,F7 v U (by simp only[Instr.sliceAt,Sem.run_bind,run_underlying J,Result.andThen_ok,Instr.sureAddr,hb,run_sizeOf z,Sem.run_pure];rfl),?_⟩;unfold Rep;rw[D,Q];have q:A4 (A2 ((xs.take (C.getD (A2 xs)).toNat).drop (l.getD 0).toNat))=(C.getD (A2 xs)).toNat-(l.getD 0).toNat:=by unfold A4;generalize C.getD (A2 xs)=Y at M O |-;unfold A2;rw[Abn,Acp,AbU];omega
 rw[q];refine And.intro (by unfold A4;omega) ⟨_,rfl,fun S => ?_⟩;unfold A4 at S |-;rw[Aa2 (by omega),s,DG,Abo];cases h;cases h;cases h;cases h
end
section
variable {P:Program} {E:Env}
theorem E4{w:World}{F:Nat->Prop}{m:Mp}{H:List Ob}{fz:List Bool}(hi:HI w F m H fz){slot:Nat}(e:Bi H fz slot=true)(T:TypeId){t:Ty}(g:0<t.size)(a:Option Addr):
  ∃ f,BU w F m H fz w F f (H.set slot (.arr T t [])) fz/\Rep w F f (H.set slot (.arr T t [])) (.own slot) (.slice a 0 0):=by have i:=BU.new (w':=w) hi e (ob:=.arr T t []) trivial none rfl rfl rfl (Aax _) (fun _ _=>rfl) (fun b c h=>by cases h) (fun _=>⟨g,rfl⟩);refine⟨_,i,?_⟩;unfold Rep;have d:=BW (CF e).1;rw[Bs d,Ba];exact⟨a,rfl⟩
theorem ZS{w:World}{T e:TypeId}{i:TypeInfo}(b:P.underlying T=some (.slice e))(hi:P.info? e=some i)(a:Option Addr)(len cap:Nat)(k c:IntKind):
  (Instr.sliceAt T (.slice a len cap) none (some (.int k 0)) (some (.int c 0))).run P w = .ok (.slice a 0 0) w:=by simp[Instr.sliceAt,run_underlying b,Instr.slice,Instr.sliceBounds,Instr.sliceBound,asIntOf,run_sizeOf hi]
theorem oO{w:World}{F:Nat->Prop}{m:Mp}{H:List Ob}{v:AV}(h:Hj H v=true){u:Value}(b:Rep w F m H v u):∃ a len cap,u = .slice a len cap:=by
 cases v with
  |data t d=>cases t<;>simp only[Hj,AbB]at h;rename_i t;have c:Dat w F (.slice t) d [u]:=b;obtain⟨a,cap,i,_⟩:=c;grind
  |nils e=>unfold Rep at b;grind
  |own id=>
   obtain⟨T,t,xs,f⟩:=FN h;unfold Rep at b;rw[f]at b;cases g:m id with
    |none=>rw[g]at b;obtain⟨a,i⟩:=b;grind
    |some p=>rw[g]at b;exact⟨_,_,_,b⟩
  |win id off n=>obtain⟨T,t,xs,f⟩:=FN h;unfold Rep at b;rw[f]at b;obtain⟨_,b⟩:=b;grind
  |_=>simp[Hj]at h
theorem PE{w:World}{T e:TypeId}{i:TypeInfo}(g:P.underlying T=some (.slice e))(hi:P.info? e=some i)(a:Option Addr)(len cap:Nat){b:Option Value}{l h:Int}{kh km:IntKind}
  (c:(b=none/\l=0)\/∃ k,b=some (.int k l)) (j:0<=l) (f:l<=h) (d:h<=cap) :
  (Instr.sliceAt T (.slice a len cap) b (some (.int kh h)) (some (.int km h))).run P w = .ok (.slice (if h.toNat=l.toNat then a else a.map (·.add (l.toNat*i.size))) (h.toNat-l.toNat) (h.toNat-l.toNat)) w:=by
 have m:(Instr.sliceBounds true len cap b (some (.int kh h)) (some (.int km h))).run P w = .ok (l.toNat,h.toNat,h.toNat) w:=by
  obtain⟨l,rfl⟩:=Aaw j;obtain⟨h,rfl⟩:=Aaw (show 0<=h by omega);have f:l<=h:=by omega
  have d:h<=cap:=by omega
  rcases c with⟨rfl,o⟩|⟨p,rfl⟩
  have n:l=0:=by omega
  subst n;simp[Instr.sliceBounds,Instr.sliceBound,asIntOf,d];simp[Instr.sliceBounds,Instr.sliceBound,asIntOf,f,d]
 simp only[Instr.sliceAt,Sem.run_bind,run_underlying g,Result.andThen_ok,Instr.slice,m,run_sizeOf hi,Sem.run_pure]
theorem Za(T:TypeId)(x:Operand)(lo Q:Option Operand)(S:Operand):Claim P E (.slice T x lo Q (some S)):=by
 intro R ty ρ H fz slot k r h;simp only[evalOp,Dr]at h;split at h
 ·rename_i e L;split at h;rename_i u;split at h;rename_i l n n' G hn I;split at h;rename_i t xs J;split at h;rename_i y;split at h;rename_i z;split at h;cases h;rename_i ys K;refine⟨_,_,h,fun R' k'=>by simp only[evalOp,Dr,L,G,hn,I,J,y,z,K],BD fun w F m ρc o A U hi f => ?_⟩;obtain⟨a1,a2,a3,rfl⟩:=Jg K;rw[DF,Ace]at z;subst z;simp only[Aat]at y;obtain⟨i,B,hsz'⟩:=B0 y;have g:=f x;rw[J]at g;have g:Dat w F (.slice t) xs [ρc x]:=g;obtain⟨a,cap,O,e2,e3⟩:=g;simp only[AbR,AdG]at O;obtain⟨V,b⟩:=Nv hn (f (.tmp u));obtain⟨W,C⟩:=Nv I (f S);have d:=PE (P:=P) (w:=w) (kh:=V) (km:=W) L B a (List.length (α:=t.den) xs) cap (Sr f G 0) a1 a2 (by omega);refine⟨.slice (if n.toNat=(l.getD 0).toNat then a else a.map (·.add ((l.getD 0).toNat*i.size))) (n.toNat-(l.getD 0).toNat) (n.toNat-(l.getD 0).toNat),by simp[execOp,A,O,b,C,d],?_⟩
  have s:((xs.take n.toNat).drop (l.getD 0).toNat).length=n.toNat-(l.getD 0).toNat:=by grind
  unfold Rep;refine⟨⟨_,_,by rw[s],by omega,fun hne => ?_⟩,_,by rw[s]⟩;have v:(l.getD 0).toNat<n.toNat:=by grind
  have M:xs≠[]:=by grind
  obtain⟨ad,row,q1,q2,q3,q4⟩:=e3 M;have hk:=fun(x:t.den) cs (h:Dat w F t x cs)=>Dat.length t h;refine⟨ad.add ((l.getD 0).toNat*t.size),_,?_,by rw[KE];exact q2,Jr hk (l.getD 0).toNat (FF hk n.toNat q3),fun j u X => ?_⟩;grind;rw[add_add];grind;grind;grind;grind;grind
  ·rename_i hnt;split at h
   ·rename_i e' t G Y I D;obtain⟨X,hty',v⟩:=Cy D;split at h
    ·rename_i n J K;split at h
     ·rename_i Z;refine⟨_,_,h,fun R' k' => ?_,Bt fun w F m ρc o A U hi f => ?_⟩;rcases Q with _|q;simp only[evalOp,Dr,L,G,Y,I,D,J,K,Z];cases q with
       |tmp u=>grind
       |_=>simp only[evalOp,Dr,L,G,Y,I,D,J,K,Z]
      obtain⟨i,B,_⟩:=B0 K;have p:=oO J (f x);obtain⟨a,len,cap,O⟩:=p;have hlo:lo.map ρc=none:=by
       rcases Pk f G with⟨h1,_⟩|⟨_,_,_,h2⟩
       all_goals grind
      have b:∃ k,Q.map ρc=some (.int k 0):=by
       rcases Pk f Y with⟨_,h2⟩|⟨k,n,h1,h2⟩
       all_goals grind
      obtain⟨V,b⟩:=b;obtain⟨W,C⟩:=Nv I (f S);have d:=ZS (P:=P) (w:=w) L B a len cap V W;obtain⟨m',hg,N⟩:=E4 hi Z e v a;exact⟨_,w,F,m',by simp[execOp,A,O,hlo,b,C,d],hg,N⟩
     grind
    grind
   grind
 all_goals grind
theorem VH{T:TypeId}{f off size:Nat}{ag:Bool}(h:fieldAt P T f=some (off,size,ag)):∃ b a i,P.underlying T=some (.struct b)/\b[f]? = some a/\P.info? a.type=some i/\a.offset=off/\i.size=size/\Fq P a.type=some ag:=by unfold fieldAt at h;grind
theorem Lh{w:World}{T:TypeId}{f off size:Nat}{ag:Bool}(h:fieldAt P T f=some (off,size,ag))(b:size≠0)(a:Addr):(Instr.fieldAt T (.pointer (some a)) f).run P w = .ok (.pointer (some (a.add off))) w:=by obtain⟨e,g,i,c,d,hi,rfl,rfl,j⟩:=VH h;simp[Instr.fieldAt,run_underlying c,d,Instr.sureAddr,fieldPlace,run_sizeOf hi,b]
theorem Ze(T:TypeId)(x:Operand)(f:Nat):Claim P E (.fieldAddr T x f):=by
 intro R ty ρ H fz slot k r h;simp only[evalOp,ED]at h;split at h;cases h;rename_i off size ag l;split at h;cases h;rename_i e;simp only[AbX]at e;split at h;rename_i id o' d;split at h;rename_i n;obtain⟨cs,p⟩:=Nr n;refine⟨_,_,h,fun B C=>by simp only[evalOp,ED,l,e,AbV,d,n],BD fun w F m ρc o a q hi v => ?_⟩;obtain⟨b,c,vs,T,y,z,_⟩:=Vs hi p (d▸v x);refine⟨.pointer (some ⟨b,o'+off,none⟩),by simp[execOp,a,z,Lh l e,DG],?_⟩;unfold Rep;rw[p];exact⟨b,c,y,rfl⟩;grind;rename_i id i s d;split at h;rename_i n;obtain⟨K,t,xs,p⟩:=FN n;refine⟨_,_,h,fun B C=>by simp only[evalOp,ED,l,e,AbV,d,n],BD fun w F m ρc o a q hi v => ?_⟩;obtain⟨b,c,vs,G,y,z,A,_⟩:=OF hi p (d▸v x);refine⟨.pointer (some ⟨b,i*t.size+s+off,none⟩),by simp[execOp,a,z,Lh l e,DG],?_⟩;unfold Rep;rw[p];exact⟨A,b,c,y,by grind⟩;grind;rename_i cs d;refine⟨_,_,h,fun B C=>by simp only[evalOp,ED,l,e,AbV,d],BD fun w F m ρc o a q hi v => ?_⟩;have g:=v x;rw[d]at g;unfold Rep at g;obtain⟨ad,us,y,z,A,I,L⟩:=g;refine⟨.pointer (some (ad.add off)),by simp[execOp,a,y,Lh l e],?_⟩;unfold Rep;exact⟨ad.add off,us.drop off,rfl,fun J=>by rw[KE];grind,GS A off,fun u D=>I u (Acl D),fun j u D=>by rw[add_add];grind⟩
 grind
theorem cS{w:World}{F:Nat->Prop}{m:Mp}{H:List Ob}{T:TypeId}{i:TypeInfo}{ag:Bool}(hi:P.info? T=some i)(b:Fq P T=some ag){cs:List AV}{v:AV}{us:Array Value}{off:Nat}
  (a:loadCells ag i.size (cs.drop off)=some v) (c:BG w F m H cs us.toList) (h:∀ u∈us.toList,u.oneCell'=true):∃ u,(part T us off).run P w = .ok u w/\Rep w F m H v u:=by
 unfold loadCells at a;cases ag with
  |true=>simp only at a;split at a;rename_i d;simp only[Aas]at a;subst a;refine⟨.agg (us.extract off (off+i.size)),by simp[part,Dg b,run_sizeOf hi],?_⟩;unfold Rep;refine⟨_,rfl,?_,?_⟩;rw[Array.toList_extract,AdU,show off+i.size-off=i.size from by omega];exact RI (GS c off) _;intro u e;rw[Array.toList_extract,AdU]at e;grind;grind
  |false=>
   simp only at a;have f:cs[off]? = some v:=by simp_all
   obtain⟨u,j,g⟩:=Da c f;refine⟨u,?_,g⟩;have:us[off]? = some u:=by grind
   simp[part,Dg b,this]
theorem wZ(T:TypeId)(x:Operand)(f:Nat):Claim P E (.field T x f):=by intro R ty ρ H fz slot k r h;simp only[evalOp,VI]at h;split at h;cases h;rename_i off size ag n;split at h;rename_i cs d a;split at h;rename_i v p;refine⟨_,_,h,fun C D=>by simp only[evalOp,VI,n,d,a,p],BD fun w F m ρc o e y hi g => ?_⟩;obtain⟨G,I,i,z,j,l,rfl,rfl,A⟩:=VH n;obtain⟨vs,q⟩:=NC a (g x);have b:=cells?_ok d (g x);have s:=cells?_one d (g x);rw[q]at b s;obtain⟨u,t,B⟩:=cS (P:=P) l A p b s;refine⟨u,?_,B⟩;simp only[Value.cells]at t;simp[execOp,e,q,Instr.field,run_underlying z,j,Go.asAgg,t];grind;grind
theorem iJ(x:Operand)(i:Nat):Claim P E (.extract x i):=by
 intro R ty ρ H fz slot k r h;simp only[evalOp,Mt]at h;split at h;rename_i vs d;split at h;rename_i v e;refine⟨_,_,h,fun p q=>by simp only[evalOp,Mt,d,e],BD fun w F m ρc o b f hi g => ?_⟩;have a:=g x;rw[d]at a;unfold Rep at a;obtain⟨us,j,l⟩:=a;obtain⟨u,s,n⟩:=Da l e;exact⟨u,by
  have:us[i]? = some u:=by grind
  simp[execOp,b,j,Instr.extract,this],n⟩
 grind;grind
end
section
variable {P:Program} {E:Env}
theorem Y5{T:TypeId}{size:Nat}{ag:Bool}(h:elemAt P T=some (size,ag)):∃ n e i,P.underlying T=some (.array n e)/\P.info? e=some i/\i.size=size/\Fq P e=some ag:=by unfold elemAt at h;grind
theorem iF{x:Operand}{s:ByteArray}(h:fJ x=some s):x = .const (.string s):=by unfold fJ at h;grind
theorem ABe{k:IntKind}:∀ {cs:List AV} {a:List Int} {i:Nat} {d:Int},Sy k cs=some a->a[i]? = some d->cs[i]? = some (.data (.int k) d):=by
 intro cs;induction cs with
  |nil=>intro a i d h hi;simp only[Sy,Aas]at h;grind
  |cons c cs b=>
   intro a i d h hi;cases c with
    |data t x=>
     cases t with
      |int j=>simp only[Sy]at h;grind
      |_=>simp[Sy]at h
    |_=>simp[Sy]at h
theorem wY(T:TypeId)(x y:Operand):Claim P E (.index T x y):=by
 intro R ty ρ H fz slot k r h;simp only[evalOp,N6]at h;split at h
 ·rename_i s g;split at h
  ·rename_i j i A C;split at h
   ·rename_i b D;refine⟨_,_,h,fun R' k'=>by simp only[evalOp,N6,g,A,C,D],fun w F m a o next Q l M hi p hn => ?_⟩;have N:=Bv (C▸p y);have hx:=iF g;subst hx;rw[idx_eq]at D;unfold eE at D;split at D;cases D;rename_i f;have hi1:(0:Int)<=i:=Int.not_lt.1 f;have G:a.eval (.const (.string s)) = .string s:=rfl;have O:(execOp a.eval o).run P w = .ok (.value (.int .u8 b)) w:=by
     have I:s[i.toNat]? = some (UInt8.ofNat b.toNat)/\((UInt8.ofNat b.toNat).toNat:Int)=b:=by
      unfold bytesOf at D;rw[AdI,Aa0]at D;obtain⟨c,B,rfl⟩:=D;have e:UInt8.ofNat (c.toNat:Int).toNat=c:=by simp
      rw[e];refine⟨?_,rfl⟩;rw[Abw]at B;have S:i.toNat<s.data.size:=by grind
      rw[AcP S]at B;simp only[Aas]at B;have U:i.toNat<s.size:=S;rw[getElem?_pos s i.toNat U];exact Abx some B
     have h2:=I.2;generalize UInt8.ofNat b.toNat=c at I h2;subst h2;simp[execOp,l,N,G,Instr.index,asIntOf,run_underlying A,hi1,I.1]
    unfold Oper.wp;rw[O];have:=hn (.int .u8 b) w F m (BU.refl hi) (Bj _ _);exact this
   grind
  grind
 rename_i g;split at h;rename_i hE;split at h;rename_i n e j i G A C;split at h;rename_i cs kk J q hkk;split at h;rename_i ns V;split at h;rename_i hd;split at h;cases h;rename_i d W;refine⟨_,_,h,fun R' k'=>by simp only[evalOp,N6,g,hE,G,A,C,J,q,hkk,V,hd,W],BD fun w F m ρc o l M hi p => ?_⟩;obtain⟨n',e',i',t,f,hsz,ha⟩:=Y5 G;rw[A]at t;cases t;simp only[Aat]at hd;obtain⟨a1,a2,a3⟩:=BA W;obtain⟨vs,X⟩:=NC q (p x);have N:=Bv (C▸p y);have z:=cells?_ok J (p x);have B:=cells?_one J (p x);rw[X]at z B;have Z:loadCells false i'.size (cs.drop (i.toNat*i'.size))=some (.data (.int kk) d):=by rw[hsz,Nat.mul_one];unfold loadCells;simp only;rw[List.head?_drop];exact ABe V a3
 obtain⟨u,Y,q2⟩:=cS (P:=P) f ha Z z B;refine⟨u,?_,q2⟩;simp only[Value.cells]at Y;have K:0<=i:=a1;have L:i<(n:Int):=by grind
 simp[execOp,l,X,N,Instr.index,asIntOf,run_underlying A,K,L,run_sizeOf f,Y];grind;grind;grind;grind;rename_i hE;split at h;rename_i size ag n e j i G A C;split at h;rename_i hd;split at h;rename_i cs J q;split at h;rename_i v Z;refine⟨_,_,h,fun R' k'=>by simp only[evalOp,N6,g,hE,G,A,C,hd,J,q,Z],BD fun w F m ρc o l M hi p => ?_⟩;obtain⟨n',e',i',t,f,rfl,ha⟩:=Y5 G;rw[A]at t;cases t;simp only[Aat]at hd;obtain⟨vs,X⟩:=NC q (p x);have N:=Bv (C▸p y);have z:=cells?_ok J (p x);have B:=cells?_one J (p x);rw[X]at z B;obtain⟨u,Y,q2⟩:=cS (P:=P) f ha Z z B;refine⟨u,?_,q2⟩;simp only[Value.cells]at Y;have K:0<=i:=hd.1;have L:i<(n:Int):=hd.2;simp[execOp,l,X,N,Instr.index,asIntOf,run_underlying A,K,L,run_sizeOf f,Y];grind;grind;grind;grind
theorem EZ{w:World}{T e:TypeId}{i:TypeInfo}(a:P.underlying T=some (.slice e))(hi:P.info? e=some i)(ad:Addr)(len cap:Nat)(k:IntKind){n:Int}(b:0<=n)(c:n<len):
  (Instr.indexAt T (.slice (some ad) len cap) (.int k n)).run P w = .ok (.pointer (some (ad.add (n.toNat*i.size)))) w:=by simp[Instr.indexAt,asIntOf,run_underlying a,b,c,run_sizeOf hi]
theorem Cg{w w':World}{ρc:Operand->Value}{o:Oper}{T:TypeId}{x y:Operand}{v n u:Value}(b:o.op = .indexAddr T x y)(d:ρc x=v)(e:ρc y=n)
  (a:(Instr.indexAt T v n).run P w = .ok u w'):(execOp ρc o).run P w = .ok (.value u) w':=by simp[execOp,b,d,e,a]
theorem Zd(T:TypeId)(x y:Operand):Claim P E (.indexAddr T x y):=by
 intro R ty ρ H fz slot k r h;simp only[evalOp,CT]at h;split at h;rename_i e j i C M;split at h;rename_i t xs D;split at h;rename_i v;split at h;rename_i d hd;refine⟨_,_,h,fun R' k'=>by simp only[evalOp,CT,C,M,D,v,hd],BD fun w F m ρc o z N hi B => ?_⟩;simp only[Aat]at v;obtain⟨X,A,l⟩:=B0 v;obtain⟨a1,Z,a3⟩:=BA hd;have f:=B x;rw[D]at f;have f:Dat w F (.slice t) xs [ρc x]:=f;obtain⟨a,cap,Y,e2,e3⟩:=f;simp only[AbR,AdG]at Y;have hne:xs≠[]:=by grind
 obtain⟨ad,row,rfl,q2,q3,q4⟩:=e3 hne;have hk:=fun(x:t.den) cs (h:Dat w F t x cs)=>Dat.length t h;have U:=ca hk q3 a3;refine⟨_,Cg z Y (Bv (M▸B y)) (EZ C A ad _ cap j a1 Z),?_⟩;unfold Rep;refine⟨_,(row.drop (i.toNat*t.size)).take t.size,rfl,fun _=>by rw[KE];exact q2,Kj t U,Dat.JH t U,fun k u hu' => ?_⟩;rw[add_add,l];grind;grind;grind;rename_i id D;split at h;rename_i T' t xs G;split at h;rename_i v;split at h;rename_i d hd;refine⟨_,_,h,fun R' k'=>by simp only[evalOp,CT,C,M,D,G,v,hd],BD fun w F m ρc o z N hi B => ?_⟩;simp only[Aat]at v;obtain⟨X,A,l⟩:=B0 v;obtain⟨a1,Z,a3⟩:=BA hd;have f:=B x;rw[D]at f;unfold Rep at f;rw[G]at f;obtain⟨hpos,Q⟩:=hi.obj id _ G;cases V:m id with
  |none=>grind
  |some p=>obtain⟨b,cap⟩:=p;rw[V]at f;simp only[By]at f;refine⟨_,Cg z f (Bv (M▸B y)) (EZ C A ⟨b,0,none⟩ _ cap j a1 Z),?_⟩;unfold Rep;rw[G];exact⟨by unfold A4;omega,b,cap,V,by rw[DG,l];simp[A4]⟩
 grind;grind;rename_i T' tgt is G;split at h;rename_i v;split at h;rename_i d hd;refine⟨_,_,h,fun R' k'=>by simp only[evalOp,CT,C,M,D,G,v,hd],BD fun w F m ρc o z N hi B => ?_⟩;simp only[Aat]at v;obtain⟨X,A,l⟩:=B0 v;obtain⟨a1,Z,a3⟩:=BA hd;have f:=B x;rw[D]at f;unfold Rep at f;rw[G]at f;have Q:=hi.obj id _ G;cases V:m id with
  |none=>rw[V]at Q;have Q:is=[]:=Q;grind
  |some p=>obtain⟨b,cap⟩:=p;rw[V]at f;simp only[By]at f;refine⟨_,Cg z f (Bv (M▸B y)) (EZ C A ⟨b,0,none⟩ _ cap j a1 Z),?_⟩;unfold Rep;rw[G];exact⟨by unfold A4;omega,b,cap,V,by rw[DG,l];simp[A4]⟩
 grind;grind;rename_i T' e' t xs ver out G;split at h;rename_i v;split at h;rename_i d hd;refine⟨_,_,h,fun R' k'=>by simp only[evalOp,CT,C,M,D,G,v,hd],BD fun w F m ρc o z N hi B => ?_⟩;simp only[Aat]at v;obtain⟨X,A,l⟩:=B0 v;obtain⟨a1,Z,a3⟩:=BA hd;have f:=B x;rw[D]at f;unfold Rep at f;rw[G]at f;obtain⟨hpos,Q⟩:=hi.obj id _ G;cases V:m id with
  |none=>grind
  |some p=>obtain⟨b,cap⟩:=p;rw[V]at f;simp only[By]at f;refine⟨_,Cg z f (Bv (M▸B y)) (EZ C A ⟨b,0,none⟩ _ cap j a1 Z),?_⟩;unfold Rep;rw[G];exact⟨by unfold A4;omega,b,cap,V,by rw[DG,l];simp[A4]⟩
 grind;grind;grind;rename_i id off n D;split at h;rename_i T' t xs G;split at h;rename_i v;split at h;rename_i d hd;refine⟨_,_,h,fun R' k'=>by simp only[evalOp,CT,C,M,D,G,v,hd],BD fun w F m ρc o z N hi B => ?_⟩;simp only[Aat]at v;obtain⟨X,A,l⟩:=B0 v;obtain⟨a1,Z,a3⟩:=BA hd;have f:=B x;rw[D]at f;unfold Rep at f;rw[G]at f;obtain⟨hle,f⟩:=f;have hcl:(Iq off n xs).length=n:=by unfold Iq;grind
 rw[hcl]at Z;obtain⟨hpos,Q⟩:=hi.obj id _ G;cases V:m id with
  |none=>grind
  |some p=>obtain⟨b,cap⟩:=p;rw[V]at f Q;obtain⟨vs,row,Y,e2,_⟩:=Q;obtain⟨a,e3,e4⟩:=f;have e4:=e4 (by omega);subst e4;refine⟨_,Cg z e3 (Bv (M▸B y)) (EZ C A ⟨b,off*t.size,none⟩ _ _ j a1 Z),?_⟩;unfold Rep;rw[G];exact⟨by unfold A4;omega,b,cap,V,by rw[DG,l];simp[A4,AcF]⟩
 grind;grind;grind;grind;rename_i n e j i C M;cases J:ff H n (ρ x)with
  |some q=>
   obtain⟨id,s,len⟩:=q;rw[J]at h;simp only at h;split at h;rename_i W;split at h;rename_i hc;refine⟨_,_,h,fun R' k'=>by simp only[evalOp,CT,C,M,J,W,hc],BD fun w F m ρc o z N hi B => ?_⟩;simp only[Aat]at W;obtain⟨X,A,l⟩:=B0 W;simp only[Aau,BR,BF,Aat]at hc;obtain⟨K,O,hd3⟩:=hc;have K:(0:Int)<=i:=K;have O:i<(n:Int):=O;unfold ff at J;split at J;rename_i id' n' D;split at J;rename_i T' t xs G;split at J;cases J;have f:=B x;rw[D]at f;unfold Rep G5 at f;rw[G]at f;obtain⟨_,b,Y,e2⟩:=f;have L:(Instr.indexAt T (.pointer (some ⟨b,0,none⟩)) (.int j i)).run P w = .ok (.pointer (some ((⟨b,0,none⟩:Addr).add (i.toNat*X.size)))) w:=by simp[Instr.indexAt,asIntOf,run_underlying C,Instr.sureAddr,K,O,run_sizeOf A]
   refine⟨_,Cg z e2 (Bv (M▸B y)) L,?_⟩;unfold Rep;rw[G];refine⟨?_,b,_,Y,by rw[DG,l];simp[A4]⟩;exact(Int.toNat_lt (n:=List.length (α:=t.den) xs) K).2 hd3;grind;grind;grind;grind;grind
  |none=>rw[J]at h;simp only at h;cases U:gAt (ρ x)with
  |some q=>
   obtain⟨kk,ns⟩:=q;rw[U]at h;simp only at h;split at h;rename_i W;split at h;rename_i hc;refine⟨_,_,h,fun R' k'=>by simp only[evalOp,CT,C,M,J,U,W,hc],BD fun w F m ρc o z N hi B => ?_⟩;simp only[Aat]at W;obtain⟨X,A,l⟩:=B0 W;simp only[Aau,BR,BF,Aat]at hc;obtain⟨K,O,hd3⟩:=hc;have K:(0:Int)<=i:=K;have O:i<(n:Int):=O;unfold gAt at U;split at U;rename_i g D;have f:=B x;rw[D]at f;unfold Rep at f;simp only[Aa0]at U;obtain⟨p,hp,hp2⟩:=U;have hpm:=List.mem_of_find?_eq_some hp;have hpg:p.1=g:=by grind
   obtain⟨g1,g2⟩:=hi.glo p hpm;rw[hp2]at g2;have L:(Instr.indexAt T (.pointer (some ⟨g,0,none⟩)) (.int j i)).run P w = .ok (.pointer (some ((⟨g,0,none⟩:Addr).add (i.toNat*X.size)))) w:=by simp[Instr.indexAt,asIntOf,run_underlying C,Instr.sureAddr,K,O,run_sizeOf A]
   refine⟨_,Cg z f (Bv (M▸B y)) L,?_⟩;have hlt:i.toNat<ns.length:=(Int.toNat_lt K).2 hd3;unfold Rep;refine⟨_,[.int kk (A9 ns (A4 i) 0)],rfl,fun _=>by rw[KE,<- hpg];exact g1,?_,fun u C => ?_,fun jj u C => ?_⟩;unfold BG;exact⟨_,_,rfl,by unfold Rep Cl;exact rfl,by unfold BG;rfl⟩;rw[AcJ]at C;subst C;rfl;cases jj with
    |zero=>simp only[Abf,Aas]at C;subst C;rw[DG,DG,l,Nat.mul_one,Abo,AcD,<- hpg];exact g2 i.toNat _ (by rw[Aaz hlt];simp[A9,A4,hlt])
    |succ jj=>grind
   grind;grind;grind
  |none=>
   rw[U]at h;simp only at h;split at h;rename_i s W hd;obtain⟨X,A,rfl⟩:=B0 W;have hd':=hd;simp only[Aat]at hd';have K:0<=i:=hd'.1;have O:i<(n:Int):=hd'.2;have L:∀ (w:World) (ad:Addr),(Instr.indexAt T (.pointer (some ad)) (.int j i)).run P w = .ok (.pointer (some (ad.add (i.toNat*X.size)))) w:=by intro w ad;simp[Instr.indexAt,asIntOf,run_underlying C,Instr.sureAddr,K,O,run_sizeOf A]
   split at h;rename_i id o' D;split at h;rename_i hl;obtain⟨cs,G⟩:=Nr hl;refine⟨_,_,h,fun R' k'=>by have I:=J;have S:=U;rw[D]at I S;simp only[evalOp,CT,C,M,I,S,W,hd,D,hl],BD fun w F m ρc o z N hi B => ?_⟩
   obtain⟨b,c,vs,T,Y,e2,_⟩:=Vs hi G (D▸B x);refine⟨_,Cg z e2 (Bv (M▸B y)) (L w _),?_⟩;unfold Rep;rw[G];exact⟨b,c,Y,by rw[DG]⟩;grind;rename_i id jj s D;split at h;rename_i hl;obtain⟨T',t,xs,G⟩:=FN hl;refine⟨_,_,h,fun R' k'=>by have I:=J;have S:=U;rw[D]at I S;simp only[evalOp,CT,C,M,I,S,W,hd,D,hl],BD fun w F m ρc o z N hi B => ?_⟩
   obtain⟨b,c,vs,row,Y,e2,e3,_⟩:=OF hi G (D▸B x);refine⟨_,Cg z e2 (Bv (M▸B y)) (L w _),?_⟩;unfold Rep;rw[G];exact⟨e3,b,c,Y,by rw[DG,Ac9]⟩;grind;rename_i cs D;refine⟨_,_,h,fun R' k'=>by have I:=J;have S:=U;rw[D]at I S;simp only[evalOp,CT,C,M,I,S,W,hd,D],BD fun w F m ρc o z N hi B => ?_⟩
   have f:=B x;rw[D]at f;unfold Rep at f;obtain⟨ad,us,Y,e2,e3,e4,e5⟩:=f;refine⟨_,Cg z Y (Bv (M▸B y)) (L w _),?_⟩;unfold Rep;exact⟨_,us.drop (i.toNat*X.size),rfl,fun hne=>by rw[KE];grind,GS e3 _,fun u C=>e4 u (Acl C),fun j u C=>by rw[add_add];grind⟩
   grind;grind
 grind
end
end
end Go.Pev
end
