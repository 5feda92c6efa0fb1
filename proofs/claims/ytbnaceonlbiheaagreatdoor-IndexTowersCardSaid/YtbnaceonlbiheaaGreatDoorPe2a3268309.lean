/- A part of the proofs of this seat: PevTake PevPanC PevDefer PevClip PevRaw PevRow G28P1 G28P2 G28P3 G28P4 G28P5 G28P6 G28P7 G28P8 G28P9 G28P10 G28P11 G28P12 G28P13 G28P14 G28P15 G28P16 G28P17 G28P18 G28P19 G28X1 G28M6 G28M7 G28P20 G28P21 G28P22 G28P23 G28P24 G28X2 G28M8 G28M Pln PlnB T18a T18b T18c PlnM. -/
import Derived.Test.YtbnaceonlbiheaaGreatDoorPafd853e937
import Derived.Recover
import Derived.KernelRfl
import Derived.Test.YtbnaceonlbiheaaGreatDoorProg
import Derived.IntWalk
import Derived.Sort.AssemblyPlain
set_option linter.unusedVariables false
set_option linter.unusedSimpArgs false
set_option linter.unusedSectionVars false
set_option maxRecDepth 100000
section
namespace Go.Pev
open Go.RowKit
def cm{R:Type}(slot:Nat)(H:List Ob)(fz:List Bool)(k:AV→Eff→Option R)(v:AV)(e:Eff):Option R:=
 match e.heap with
 |none=>match v with
  |.win id 0 n=>match(Cy e H)[id]? with
   |some (.arr T t xs)=>match BJ (Ev e fz) id&&Bc (Cy e H) (Ev e fz) (slot+3)&&(e.objs.any fun p=>Nat.beq p.1 id)with
    |true=>k (.own (slot+3)) { objs:=e.objs++[(id,.dead),(slot+3,.arr T t (C1 n xs))],frz:=e.frz }
    |false=>none
   |_=>none
  |_=>none
 |some _=>none
def Gv(s:Spec):Spec:=fun R args H fz slot k=>s R args H fz slot (cm slot H fz k)
section
variable {P:Program} {g:FuncId}
theorem AJh{w:World}{F:Nat→Prop}{m:Mp}{H:List Ob}{fz:List Bool}(hi:HI w F m H fz){id n slot:Nat}{T:TypeId}{t:Ty}{xs:List t.den}(ho:H[id]? = some (.arr T t xs))(hf:BJ fz id=true)
  (hs:Bc H fz slot=true) {u:Value} (hr:Rep w F m H (.win id 0 n) u) :
  ∃ m',BQ w F m H fz w F m' ((H.set id .dead).set slot (.arr T t (C1 n xs))) fz∧Rep w F m' ((H.set id .dead).set slot (.arr T t (C1 n xs))) (.own slot) u:=by
 have hob:=hi.obj id _ ho;obtain⟨h0,hob⟩:=hob;unfold Rep at hr;rw[ho]at hr;obtain⟨hle,hr⟩:=hr;rw[AYQ]at hle;have hsn:slot≠id:=kW hs ho;have hkill:=BQ.kill hi (C3 ho hf);have zero:∀ a,n=0→u = .slice a 0 0→∃ m',BQ w F m H fz w F m' ((H.set id .dead).set slot (.arr T t (C1 n xs))) fz∧Rep w F m' ((H.set id .dead).set slot (.arr T t (C1 n xs))) (.own slot) u:=by intro a hn hu;subst hn;subst hu;obtain⟨m',hg,hrep⟩:=EJ (w:=w) hkill.2 (K9 hs hsn) T h0 a;exact⟨m',hkill.trans hg,hrep⟩
 cases hm:m id with
  |none=>rw[hm]at hr hob;obtain⟨a,e1⟩:=hr;simp_all
  |some p=>
   obtain⟨b,cap⟩:=p;rw[hm]at hr hob;obtain⟨vs,row,e1,e2,e3,e4,e7,e8⟩:=hob;obtain⟨a,rfl,ha⟩:=hr;rcases AZB cap with hc|hc;simp_all;have:=ha hc;rw[AZr]at this;subst this;have hk:=fun(x:t.den) cs (h:Dat w F t x cs)=>Dat.length t h;have hlen:(xs.take n).length=n:=by grind
   have hrw:=EZ hk n e7;have hrl:=Bv hk hrw;rw[hlen]at hrl;have hg:=BQ.move (w':=w) hi (C3 ho hf) hm hs (ob:=.arr T t (C1 n xs)) trivial (b':=b) (c':=cap) (.inl rfl) rfl rfl rfl (AXl _) (fun _ _ _=>rfl) (fun _=>⟨h0,vs,row.take (n*t.size),e1,by
    show(xs.take n).length≤cap;omega,e3,e4,hrw,by
    grind⟩)
   refine⟨_,hg,?_⟩;have hlts:=BU (B9 hs).1;unfold Rep;rw[Bj (by grind),BX];show Value.slice _ n (cap-0)=Value.slice _ (xs.take n).length cap;grind
theorem oU{s:Spec}(hs:BV P g s):BV P g (Gv s):=by
 intro R args H fz slot k r hk;obtain⟨v,e,h1,h2,h3,h4⟩:=hs R args H fz slot _ r hk;unfold cm at h1;split at h1;rename_i he;split at h1;rename_i id n;split at h1;rename_i T t xs ho;split at h1;rename_i hc;refine⟨_,_,h1,fun R' k' => ?_,h3,fun w F m vals hi hr => ?_⟩;unfold Gv;rw[h2];simp only[cm,he,ho,hc];refine(h4 w F m vals hi hr).mono ?_;rintro en w' ⟨u,rfl,F',m',hg,hrep⟩;simp only[AXd]at hc;obtain⟨m2,hg2,hr2⟩:=AJh hg.2 ho hc.1.1 hc.1.2 hrep;have eH:Cy { objs:=e.objs++[(id,.dead),(slot+3,.arr T t (C1 n xs))],frz:=e.frz } H=((Cy e H).set id .dead).set (slot+3) (.arr T t (C1 n xs)):=by rw[C4 rfl,C4 he,TJ];rfl
 have eF:Ev { objs:=e.objs++[(id,.dead),(slot+3,.arr T t (C1 n xs))],frz:=e.frz } fz=Ev e fz:=by rw[DG rfl,DG he]
 refine⟨u,rfl,F',m2,?_,?_⟩;rw[eH,eF];exact hg.trans hg2;grind;grind;grind;grind;grind
theorem JE{np na:Nat}{its outs:A1}{rs:List RS}{f:Bg (leaves its)→Option (Bg (leaves outs))}(hf:∀ x,f x=none):BV P g (Bb np na its outs rs f):=by intro R args H fz slot k r hk;unfold Bb at hk;grind
end
section
variable {S:List Nat} {H H':List Ob}
theorem Ga.AHE{s:Spec}(h:Ga s):Hh s:=
 fun R args H H' fz fz' slot k S hS _ ha=>h R args H H' fz fz' slot k ⟨fun id hid=>ha.heap id (hS id hid),ha.slotH,ha.slotF,ha.len,fun id hid=>by cases hid⟩
def Tb:A1→Bool
 |[]=>true
 |(.obj _,_)::_=>false
 |_::r=>Tb r
def AVR(S:List Nat)(v:AV):Prop:=∀ id∈BS v,id∈S
def ZI(S:List Nat)(bs:List Bnd):Prop:=∀ b∈bs,∀ id,b.id? = some id→id∈S
theorem ZI.get{bs:List Bnd}(h:ZI S bs){j:Nat}{b:Bnd}{id:Nat}(hj:bs[j]? = some b)(hi:b.id? = some id):id∈S:=h b (AXk hj) id hi
theorem ZI.snoc{bs:List Bnd}(h:ZI S bs){b:Bnd}(hb:∀ id,b.id? = some id→id∈S):ZI S (bs++[b]):=by intro x hx id hi;rcases AXq.1 hx with hx|hx;exact h x hx id hi;grind
theorem AEV{tm:List AV}{bs:List Bnd}{l:Loc}(hS:∀ id∈B1 tm,id∈S)(hc:WS S H)(hH:∀ id∈S,H[id]? = H'[id]?)(hb:ZI S bs)(hl:∀ j,l≠.obj j):
  look (lk tm) H bs l=look (lk tm) H' bs l∧∀ v,look (lk tm) H bs l=some v→AVR S v:=by
 cases l with
  |tmp t=>refine⟨rfl,fun v hv id hid=>hS id ?_⟩;exact DI (AXk hv) hid
  |cell j c=>
   simp only[look];cases hj:bs[j]? with
    |none=>simp
    |some b=>
     cases b with
      |none=>simp
      |cut id=>simp
      |whole id=>
       have hid:=hb.get hj (id:=id) rfl;simp only;rw[hH id hid];refine⟨rfl,fun v hv => ?_⟩;cases ho:H'[id]? with
        |none=>grind
        |some o=>
         rw[ho]at hv;cases o<;>simp only at hv<;>first|grind|skip
         rename_i cs;intro i hi;exact hc id hid cs (by grind) i (DI (AXk hv) hi)
  |cap t i=>
   refine⟨rfl,fun v hv => ?_⟩;simp only[look]at hv;cases ht:lk tm t with
    |none=>grind
    |some a=>
     rw[ht]at hv;cases a<;>simp only at hv<;>first|grind|skip
     rename_i f cs;intro id hid;refine hS id (DI (AXk (show tm[t]? = _ from ht)) ?_);simp only[BS];exact DI (AXk hv) hid;rename_i f cs;intro id hid;refine hS id (DI (AXk (show tm[t]? = _ from ht)) ?_);simp only[BS];exact DI (AXk hv) hid
  |obj j=>grind
theorem Kl{f:List Nat}{fz fz':List Bool}(hl:fz.length=fz'.length){id:Nat}(h:fz.getD id false=fz'.getD id false):(BI f fz).getD id false=(BI f fz').getD id false:=by rw[Bh,Bh,h,hl]
theorem AQJ{tm:List AV}(hS:∀ id∈B1 tm,id∈S)(hc:WS S H)(hH:∀ id∈S,H[id]? = H'[id]?):∀ (its:A1) (fz fz':List Bool) (bs:List Bnd),Tb its=true→ZI S bs→fz.length=fz'.length→(∀ id∈S,fz.getD id false=fz'.getD id false) →
  dec (lk tm) H its fz bs=dec (lk tm) H' its fz' bs:=by
 intro its;induction its with
  |nil=>intro fz fz' bs _ _ _ _;rfl
  |cons p r ih=>
   intro fz fz' bs hn hb hlen hz;obtain⟨l,c⟩:=p;have hno:(∀ j,l≠.obj j)∧Tb r=true:=by
    cases l with
     |obj j=>cases hn
     |tmp t=>exact⟨fun j h=>(by cases h),hn⟩
     |cell a b=>exact⟨fun j h=>(by cases h),hn⟩
     |cap a b=>exact⟨fun j h=>(by cases h),hn⟩
   obtain⟨e1,e2⟩:=AEV hS hc hH hb hno.1;have ihr:=fun bs hb=>ih fz fz' bs hno.2 hb hlen hz;have unf:∀ id∈S,BJ fz id=BJ fz' id:=fun id hid=>by unfold BJ;grind
   cases c with
    |dat t=>
     simp only[dec,← e1];cases hv:look (lk tm) H bs l with
      |none=>rfl
      |some v=>
       simp only;rw[T3 t v fun id hid=>hH id (e2 v hv id hid)];cases ZM H' t v with
        |none=>rfl
        |some q=>obtain⟨x,f⟩:=q;simp only;rw[ih (BI f fz) (BI f fz') bs hno.2 hb (by rw[Dn,Dn,hlen]) (fun id hid=>Kl hlen (hz id hid))]
    |own T e=>
     simp only[dec,← e1];cases hv:look (lk tm) H bs l with
      |none=>rfl
      |some v=>
       cases v with
        |nils e'=>simp only;rw[ihr _ (hb.snoc fun id h=>by cases h)]
        |own id=>have hid:id∈S:=e2 _ hv id (by simp[BS]);simp only;rw[← hH id hid,unf id hid,ihr _ (hb.snoc fun id' h=>by simp only[Bnd.id?,AXa]at h;grind)]
        |win id off n=>
         have hid:id∈S:=e2 _ hv id (by simp[BS]);cases off with
          |succ off=>rfl
          |zero=>simp only;rw[← hH id hid,unf id hid,ihr _ (hb.snoc fun id' h=>by simp only[Bnd.id?,AXa]at h;grind)]
        |_=>rfl
    |box n=>
     simp only[dec,← e1];cases hv:look (lk tm) H bs l with
      |none=>rfl
      |some v=>
       cases v with
        |ptr id off=>
         have hid:id∈S:=e2 _ hv id (by simp[BS]);cases off with
          |succ off=>rfl
          |zero=>simp only;rw[← hH id hid,ihr _ (hb.snoc fun id' h=>by simp only[Bnd.id?,AXa]at h;grind)]
        |_=>rfl
    |map k v=>
     simp only[dec,← e1];cases hv:look (lk tm) H bs l with
      |none=>rfl
      |some u=>
       cases u with
        |mp id=>have hid:id∈S:=e2 _ hv id (by simp[BS]);simp only;rw[← hH id hid,ihr _ (hb.snoc fun id' h=>by simp only[Bnd.id?,AXa]at h;grind)]
        |_=>rfl
    |rows T e t=>
     simp only[dec,← e1];cases hv:look (lk tm) H bs l with
      |none=>rfl
      |some u=>
       cases u with
        |own id=>have hid:id∈S:=e2 _ hv id (by simp[BS]);simp only;rw[← hH id hid,unf id hid,ihr _ (hb.snoc fun id' h=>by simp only[Bnd.id?,AXa]at h;grind)]
        |_=>rfl
    |mrows j e t=>
     simp only[dec,← e1];cases hv:look (lk tm) H bs l with
      |none=>rfl
      |some u=>
       cases u with
        |mp id=>have hid:id∈S:=e2 _ hv id (by simp[BS]);simp only;rw[← hH id hid,unf id hid,ihr _ (hb.snoc fun id' h=>by simp only[Bnd.id?,AXa]at h;grind)]
        |_=>rfl
    |aptr T e n=>
     simp only[dec,← e1];cases hv:look (lk tm) H bs l with
      |none=>rfl
      |some u=>
       cases u with
        |aptr id n'=>have hid:id∈S:=e2 _ hv id (by simp[BS]);simp only;rw[← hH id hid,unf id hid,ihr _ (hb.snoc fun id' h=>by simp only[Bnd.id?,AXa]at h;grind)]
        |_=>rfl
    |aptr' j n=>simp only[dec,← e1,ihr bs hb]
    |bndp f j=>simp only[dec,← e1,ihr bs hb]
    |nilp=>simp only[dec,← e1,ihr bs hb]
    |own' j=>simp only[dec,← e1,ihr bs hb]
    |ptr' j off=>simp only[dec,← e1,ihr bs hb]
    |map' j=>simp only[dec,← e1,ihr bs hb]
    |sub' j=>simp only[dec,← e1,ihr bs hb]
    |win' j=>
     simp only[dec,← e1];rw[ihr bs hb];cases hv:look (lk tm) H bs l with
      |none=>rfl
      |some v=>
       cases v with
        |own id=>have hid:id∈S:=e2 _ hv id (by simp[BS]);grind
        |win id off n=>grind
        |_=>simp
    |clo f ps=>simp only[dec,← e1,ihr bs hb]
    |bnd f j=>simp only[dec,← e1,ihr bs hb]
    |prs T j=>
     simp only[dec,← e1];cases hv:look (lk tm) H bs l with
      |none=>rfl
      |some v=>
       cases v with
        |nils e'=>simp only;rw[ihr _ (hb.snoc fun id h=>by cases h)]
        |own id=>have hid:id∈S:=e2 _ hv id (by simp[BS]);simp only;rw[← hH id hid,ihr _ (hb.snoc fun id' h=>by simp only[Bnd.id?,AXa]at h;grind)]
        |_=>rfl
    |nil e=>simp only[dec,← e1,ihr bs hb]
theorem Qd{fz fz':List Bool}:∀ (n:Nat) (bs:List Bnd) (slot:Nat),(∀ s,slot≤s→s<slot+n→Bc H fz s=Bc H' fz' s)→FX H fz (DA n bs slot) bs=FX H' fz' (DA n bs slot) bs:=by
 intro n;induction n with
  |zero=>intro bs slot _;cases bs<;>rfl
  |succ n ih=>
   intro bs slot h;cases bs with
    |nil=>simp only[DA,FX,List.tail_nil];grind
    |cons b bs=>
     cases b with
      |whole id=>simp only[DA,FX,AY2];grind
      |none=>simp only[DA,FX,AY2];grind
      |cut id=>simp only[DA,FX,AY2];grind
theorem Ce{np na:Nat}{its outs:A1}{rs:List RS}{f:Bg (leaves its)→Option (Bg (leaves outs))}(hno:Tb its=true)(hn:Nat.ble (DS outs) 4=true):Hh (Bb np na its outs rs f):=by intro R args H H' fz fz' slot k S hS hc ha;have hn4:=AYD hn;have hd:dec (lk args) H its fz []=dec (lk args) H' its fz' []:=AQJ hS hc ha.heap its fz fz' [] hno (fun b hb=>by cases hb) ha.len ha.wrF;unfold Bb;rw[hd];split;rfl;rename_i x bs fr _;split;rfl;split;rfl;have hf:∀ (g:List Nat) s,slot≤s→s<slot+DS outs→Bc H (BI g fz) s=Bc H' (BI g fz') s:=fun g s h1 h2=>Ee ha h1 (by omega) g;unfold Iv;rw[Qd (fz:=fz) (fz':=fz') (DS outs) (bs.take np) slot (hf []),Qd (fz:=BI fr fz) (fz':=BI fr fz') (DS outs) (bs.take np) slot (hf fr)]
theorem AJY:∀ (n:Nat) (bs:List Bnd) (slot i:Nat),i∈DA n bs slot→(∃ b∈bs,b.id? = some i)∨(slot≤i∧i<slot+n):=by
 intro n;induction n with
  |zero=>intro bs slot i h;cases bs<;>cases h
  |succ n ih=>
   intro bs slot i h;have next:∀ bs',i∈slot::DA n bs' (slot+1)→(∃ b∈bs',b.id? = some i)∨(slot≤i∧i<slot+(n+1)):=by grind
   cases bs with
    |nil=>exact next [] h
    |cons b bs=>
     cases b with
      |whole id=>simp only[DA]at h;rcases AXf.1 h with rfl|h;exact .inl ⟨.whole i,by simp,rfl⟩;grind
      |none=>rcases next bs h with⟨b,hb,e⟩|h;all_goals grind
      |cut id=>rcases next bs h with⟨b,hb,e⟩|h;all_goals grind
theorem AKJ{tm:List AV}(hS:∀ id∈B1 tm,id∈S)(hc:WS S H):∀ (its:A1) (fz:List Bool) (bs:List Bnd) (x:Bg (leaves its)) (bs':List Bnd) (fr:List Nat),Tb its=true→ZI S bs →
  dec (lk tm) H its fz bs=some (x,bs',fr)→ZI S bs':=by
 intro its;induction its with
  |nil=>intro fz bs x bs' fr _ hb h;simp only[dec,AXa]at h;grind
  |cons p r ih=>
   intro fz bs x bs' fr hn hb h;obtain⟨l,c⟩:=p;have hno:(∀ j,l≠.obj j)∧Tb r=true:=by
    cases l with
     |obj j=>cases hn
     |tmp t=>exact⟨fun j h=>(by cases h),hn⟩
     |cell a b=>exact⟨fun j h=>(by cases h),hn⟩
     |cap a b=>exact⟨fun j h=>(by cases h),hn⟩
   have e2:=(AEV (H':=H) hS hc (fun _ _=>rfl) hb hno.1 (l:=l)).2;have one:∀ {id:Nat} {b:Bnd},id∈S→b.id? = some id→ZI S (bs++[b]):=fun hid hbid=>hb.snoc fun id' h'=>by grind
   cases c<;>simp only[dec]at h
   case dat t=>
    grind
   case own T e=>
    split at h
    ·split at h
     ·split at h
      ·rename_i hd;cases h;exact ih _ _ _ _ _ hno.2 (hb.snoc fun id h=>by cases h) hd
      grind
     grind
    ·rename_i id hl
     split at h
     ·split at h
      ·split at h
       ·rename_i hd;cases h;exact ih _ _ _ _ _ hno.2 (one (e2 _ hl id (by simp[BS])) rfl) hd
       grind
      grind
     grind
    ·rename_i id n hl
     split at h
     ·split at h
      ·split at h
       ·rename_i hd;cases h;exact ih _ _ _ _ _ hno.2 (one (e2 _ hl id (by simp[BS])) rfl) hd
       grind
      grind
     grind
    grind
   case prs T j=>
    split at h
    ·split at h
     ·rename_i hd;cases h;exact ih _ _ _ _ _ hno.2 (hb.snoc fun id h=>by cases h) hd
     grind
    ·rename_i id hl
     split at h
     ·split at h
      ·split at h
       ·rename_i hd;cases h;exact ih _ _ _ _ _ hno.2 (one (e2 _ hl id (by simp[BS])) rfl) hd
       grind
      grind
     grind
    grind
   case box n=>
    split at h
    ·rename_i id hl
     split at h
     ·split at h
      ·exact ih _ _ _ _ _ hno.2 (one (e2 _ hl id (by simp[BS])) rfl) h
      grind
     grind
    grind
   case map k v=>
    split at h
    ·rename_i id hl
     split at h
     ·split at h
      ·split at h
       ·rename_i hd;cases h;exact ih _ _ _ _ _ hno.2 (one (e2 _ hl id (by simp[BS])) rfl) hd
       grind
      grind
     grind
    grind
   case rows T e t=>
    split at h
    ·rename_i id hl
     split at h
     ·split at h
      ·split at h
       ·rename_i hd;cases h;exact ih _ _ _ _ _ hno.2 (one (e2 _ hl id (by simp[BS])) rfl) hd
       grind
      grind
     grind
    grind
   case mrows j e t=>
    split at h
    ·rename_i id hl
     split at h
     ·split at h
      ·split at h
       ·rename_i hd;cases h;exact ih _ _ _ _ _ hno.2 (one (e2 _ hl id (by simp[BS])) rfl) hd
       grind
      grind
     grind
    grind
   case aptr T e n=>
    split at h
    ·rename_i id n' hl
     split at h
     ·split at h
      ·split at h
       ·rename_i hd;cases h;exact ih _ _ _ _ _ hno.2 (one (e2 _ hl id (by simp[BS])) rfl) hd
       grind
      grind
     grind
    grind
   case bndp f j=>
    split at h
    ·split at h
     ·exact ih _ _ _ _ _ hno.2 hb h
     grind
    grind
   case nilp=>
    cases hv:look (lk tm) H bs l with
    |none=>grind
    |some v=>
     rw[hv]at h
     cases v<;>simp only at h<;>first|exact ih _ _ _ _ _ hno.2 hb h|cases h
   case aptr' j n=>
    split at h
    ·split at h
     ·exact ih _ _ _ _ _ hno.2 hb h
     grind
    grind
   case own' j=>
    split at h
    ·split at h
     ·exact ih _ _ _ _ _ hno.2 hb h
     grind
    grind
   case ptr' j off=>
    split at h
    ·split at h
     ·exact ih _ _ _ _ _ hno.2 hb h
     grind
    grind
   case map' j=>
    split at h
    ·split at h
     ·exact ih _ _ _ _ _ hno.2 hb h
     grind
    grind
   case win' j=>
    grind
   case sub' j=>
    grind
   case clo f ps=>
    split at h
    ·split at h
     ·exact ih _ _ _ _ _ hno.2 hb h
     grind
    grind
   case bnd f j=>
    split at h
    ·split at h
     ·exact ih _ _ _ _ _ hno.2 hb h
     grind
    grind
   case nil e=>
    cases hv:look (lk tm) H bs l with
    |none=>grind
    |some v=>
     rw[hv]at h
     cases v<;>simp only at h<;>first|exact ih _ _ _ _ _ hno.2 hb h|cases h
theorem ASA{np na:Nat}{its outs:A1}{rs:List RS}{f:Bg (leaves its)→Option (Bg (leaves outs))}(hno:Tb its=true)(hn:Nat.ble (DS outs) 4=true):Hh (Gv (Bb np na its outs rs f)):=by
 intro R args H H' fz fz' slot k hS0 hS hc ha;have hn4:=AYD hn;have hd:dec (lk args) H its fz []=dec (lk args) H' its fz' []:=AQJ hS hc ha.heap its fz fz' [] hno (fun b hb=>by cases hb) ha.len ha.wrF;have hbs:∀ x bs fr,dec (lk args) H its fz []=some (x,bs,fr)→ZI hS0 bs:=fun x bs fr h=>AKJ hS hc its fz [] x bs fr hno (fun b hb=>by cases hb) h;unfold Gv Bb;rw[hd]at hbs ⊢;split;rfl
 ·rename_i x bs fr hdec;have hb:=hbs x bs fr hdec;split;rfl
  ·split;rfl
   ·rename_i y _;have hf:∀ (g:List Nat) s,slot≤s→s<slot+DS outs→Bc H (BI g fz) s=Bc H' (BI g fz') s:=fun g s h1 h2=>Ee ha h1 (by omega) g;have key:∀ (e:Eff) (v:AV),e.heap=none→(∀ p∈e.objs,p.1∈given (bs.drop np)∨p.1∈DA (DS outs) (bs.take np) slot)→cm slot H fz k v e=cm slot H' fz' k v e:=by
     intro e v he ho;unfold cm;rw[he];simp only;have hfree:Bc (Cy e H) (Ev e fz) (slot+3)=Bc (Cy e H') (Ev e fz') (slot+3):=by rw[C4 he,C4 he,DG he,DG he];unfold Bc;rw[Gd e.objs H H' (ha.slotH (slot+3) (by omega) (by omega)),Kl ha.len (ha.slotF (slot+3) (by omega) (by omega))]
     cases v with
      |win id off n=>
       cases off with
        |succ off=>rfl
        |zero=>
         simp only;cases hany:(e.objs.any fun p=>Nat.beq p.1 id)with
          |false=>grind
          |true=>
           rw[AZf]at hany;obtain⟨p,hp,hpi⟩:=hany;have hpi:=AYC hpi;subst hpi;have hin:(∃ b∈bs,b.id? = some p.1)∨(slot≤p.1∧p.1<slot+DS outs):=by rcases ho p hp with h|h;obtain⟨j,hj⟩:=Sa.1 h;exact .inl ⟨_,AZD (AXk hj),rfl⟩;·rcases AJY _ _ _ _ h with⟨b,h1,h2⟩|h;all_goals grind
           have h1:H[p.1]? = H'[p.1]? := by
            rcases hin with⟨b,hbm,hbi⟩|⟨h1,h2⟩
            exact ha.heap _ (hb b hbm _ hbi);exact ha.slotH _ h1 (by omega)
           have h2:fz.getD p.1 false=fz'.getD p.1 false:=by
            rcases hin with⟨b,hbm,hbi⟩|⟨h1,h2⟩
            exact ha.wrF _ (hb b hbm _ hbi);exact ha.slotF _ h1 (by omega)
           have h3:(Cy e H)[p.1]? = (Cy e H')[p.1]? := by rw[C4 he,C4 he];exact Gd e.objs H H' h1
           have h4:BJ (Ev e fz) p.1=BJ (Ev e fz') p.1:=by rw[DG he,DG he];unfold BJ;rw[Kl ha.len h2]
           grind
      |_=>rfl
    have mem:∀ p∈(given (bs.drop np)).map (fun i=>(i,Ob.dead))++(DA (DS outs) (bs.take np) slot).zip ((encode (cellsOf rs) outs y).heap.map (D' (DA (DS outs) (bs.take np) slot))),p.1∈given (bs.drop np)∨p.1∈DA (DS outs) (bs.take np) slot:=by intro p hp;rcases AXq.1 hp with h|h;grind;exact .inr (List.of_mem_zip h).1
    unfold Iv;rw[Qd (fz:=fz) (fz':=fz') (DS outs) (bs.take np) slot (hf []),Qd (fz:=BI fr fz) (fz':=BI fr fz') (DS outs) (bs.take np) slot (hf fr)];split;·split;all_goals grind
    ·split;all_goals grind
end
def AUx(i:Nat)(args:List AV):Option FuncId:=
 match args[i]? with
 |some (.clo f _)=>some f
 |some (.bnd f _)=>some f
 |_=>none
def Env.VI(E:Env)(g:FuncId)(i:Nat)(c:FuncId)(s:Spec):Env where
 spec x:=match Nat.beq x g with
  |true=>fun R args H fz slot k=>match AUx i args with
   |some c'=>match Nat.beq c' c with
    |true=>s R args H fz slot k
    |false=>E.spec x R args H fz slot k
   |.none=>Option.none
  |false=>E.spec x
 loc x:=match Nat.beq x g with
  |true=>false
  |false=>E.loc x
 GL x:=match Nat.beq x g with
  |true=>E.GL g
  |false=>E.GL x
 pan x:=match Nat.beq x g with
  |true=>.none
  |false=>E.pan x
theorem Env.Qq{P:Program}{E:Env}{g:FuncId}{i:Nat}{c:FuncId}{s:Spec}(h:A5 P E)(hs:BV P g s)(hl2:Hh s):A5 P (E.VI g i c s):=by
 refine⟨?_,⟨?_,?_⟩,fun x s' hx => ?_⟩;intro x;simp only[Env.VI];cases hx:Nat.beq x g with
  |false=>exact h.1 x
  |true=>have:=AYC hx;subst this;intro R args H fz slot k r hk;simp only at hk;split at hk;rename_i c' hc';split at hk;rename_i hb;obtain⟨v,e,h1,h2,h3,h4⟩:=hs R args H fz slot k r hk;grind;rename_i hb;obtain⟨v,e,h1,h2,h3,h4⟩:=h.1 x R args H fz slot k r hk;grind;grind
 intro x hx;simp only[Env.VI]at hx ⊢;cases hb:Nat.beq x g with
  |true=>grind
  |false=>rw[hb]at hx;exact h.2.1.1 x hx
 intro x hx;simp only[Env.VI]at hx ⊢;cases hb:Nat.beq x g with
  |true=>rw[hb]at hx;have:=AYC hb;subst this;have h2:=h.2.1.2 x hx;intro R args H H' fz fz' slot k S a1 a2 a3;simp only;split;split;exact hl2 R args H H' fz fz' slot k S a1 a2 a3;exact h2 R args H H' fz fz' slot k S a1 a2 a3;rfl
  |false=>rw[hb]at hx;exact h.2.1.2 x hx
 simp only[Env.VI]at hx ⊢;cases hb:Nat.beq x g with
  |true=>grind
  |false=>rw[hb]at hx;exact h.2.2 x s' hx
end Go.Pev
end
section
namespace Go.Pev
open Go.RowKit
def rq:List Value→Option (List (IntKind×Int))
 |[]=>some []
 |.int k n::r=>(rq r).map ((k,n) :: ·)
 |_::_=>none
def ARu:Exit→Option PV
 |.panic [⟨.iface T (.agg a),false,false⟩]=>(rq a.toList).map fun l=>(T,l)
 |_=>none
def ADc(T:TypeId)(ks:List IntKind)(e:Exit):Option (List Int):=
 match ARu e with
 |some (T',l)=>match decide (T'=T)&&decide (l.map (·.1)=ks)with
  |true=>some (l.map (·.2))
  |false=>none
 |none=>none
def ARr:List IntKind→List Int→List (IntKind×Int)
 |[],_=>[]
 |k::ks,ns=>(k,ns.headD 0)::ARr ks ns.tail
def ANG(T:TypeId)(ks:List IntKind)(ns:List Int):PV:=(T,ARr ks ns)
theorem AOx:∀ {vs:List Value} {l:List (IntKind×Int)},rq vs=some l→vs=l.map fun p=>Value.int p.1 p.2:=by
 intro vs;induction vs with
  |nil=>intro l h;simp only[rq,AXa]at h;grind
  |cons v vs ih=>intro l h;unfold rq at h;split at h;grind;rename_i k n r h1;cases h1;simp only[AXm]at h;grind;grind
theorem ACr{e:Exit}{p:PV}(h:ARu e=some p):e = .panic [Cz p]:=by unfold ARu at h;split at h;rename_i T a;simp only[AXm]at h;obtain⟨l,h1,rfl⟩:=h;have:=AOx h1;simp only[Cz,Ji];rw[← this];grind
theorem pr{T:TypeId}{ks:List IntKind}{e:Exit}{ns:List Int}(h:ADc T ks e=some ns):e = .panic [Cz (ANG T ks ns)]:=by
 unfold ADc at h;split at h;rename_i T' l hu;split at h;rename_i hc;simp only[AXd,AXc]at hc;obtain⟨rfl,rfl⟩:=hc;simp only[AXa]at h;subst h;rw[ACr hu];unfold ANG;have:∀ l:List (IntKind×Int),ARr (l.map (·.1)) (l.map (·.2))=l:=by
  intro l;induction l with
   |nil=>rfl
   |cons p l ih=>simp only[AX4,ARr,AZn,AY2,ih]
 rw[this];grind;grind
noncomputable section
abbrev ARF(os:BF)(pits:A1):Type:=ZU os⊕(List Int×Bg (leaves pits))
def Rr(np nt:Nat)(its:A1)(os:BF)(T:TypeId)(ks:List IntKind)(pits:A1)(e:Exit)(st:St):Option (Bg (leaves its)⊕ARF os pits):=
 match e with
 |.normal=>match decode np nt st its with
  |some d=>some (.inl d)
  |none=>none
 |.panic c=>match ADc T ks (.panic c)with
  |some ns=>match decode np nt st pits with
   |some d=>some (.inr (.inr (ns,d)))
   |none=>none
  |none=>none
 |e=>match Ta np nt e st os with
  |some x=>some (.inr (.inl x))
  |none=>none
def AAV(nt:Nat){R:Type}(T:TypeId)(ks:List IntKind)(pits:A1)(k:Exit→St→Option R)(os:BF):ARF os pits→Option R
 |.inl r=>Yh nt k os r
 |.inr q=>k (.panic [Cz (ANG T ks q.1)]) (encode nt pits q.2)
def Kz[Lk](np nt:Nat)(its:A1)(os:BF)(T:TypeId)(ks:List IntKind)(pits:A1)(step:Bg (leaves its)→Option (Bg (leaves its)⊕ARF os pits)):ZV:=fun R st k=>
 match decode np nt st its with
 |none=>none
 |some v=>match A9 step many v with
  |none=>none
  |some r=>AAV nt T ks pits k os r
def IJ[Lk](P:Program)(E:Env)(h:Hints)(n np nt:Nat)(body:Code)(its:A1)(os:BF)(T:TypeId)(ks:List IntKind)(pits:A1)(v:Bg (leaves its)):Option (Bg (leaves its)⊕ARF os pits):=
 Bl P E h _ body n (encode nt its v) (Rr np nt its os T ks pits)
def DR[Lk](np:Nat)(P:Program)(E:Env)(h:Hints)(fn:Func)(its outs:A1)(rs:List RS)(T:TypeId)(ks:List IntKind)(pits:A1)(x:Bg (leaves its)):Option (Bg (leaves outs)⊕(List Int×Bg (leaves pits))):=
 match fn.body with
 |none=>none
 |some c=>Bl P E h _ c 0 (encode fn.ntmps its x) fun e st=>
  match e with
  |.normal=>match finish np P fn outs rs st with
   |some y=>some (.inl y)
   |none=>none
  |.ret=>match finish np P fn outs rs st with
   |some y=>some (.inl y)
   |none=>none
  |.panic c=>match ADc T ks (.panic c)with
   |some ns=>match dec (lk []) st.heap pits st.frz []with
    |some (z,bs,_)=>match pins np 0 bs&&(st.heap.take np).all CA with
     |true=>some (.inr (ns,z))
     |false=>none
    |none=>none
   |none=>none
  |_=>none
def HR(np na:Nat)(its outs:A1)(rs:List RS)(T:TypeId)(ks:List IntKind)(pits:A1)(f:Bg (leaves its)→Option (Bg (leaves outs)⊕(List Int×Bg (leaves pits)))):KS:=fun R args H fz slot k kp=>
 match dec (lk args) H its fz []with
 |none=>none
 |some (x,bs,fr)=>match bs.all Bnd.ACq&&decide (bs.length=DS its)&&decide (args.length=na)&&(GH its&&GH outs&&GH pits)with
  |false=>none
  |true=>match f x with
   |none=>none
   |some (.inl y)=>Iv R (given (bs.drop np)) (bs.take np) fr rs (encode (cellsOf rs) outs y) (DA (DS outs) (bs.take np) slot) H fz k
   |some (.inr q)=>Iv R (given (bs.drop np)) (bs.take np) fr [] (encode 0 pits q.2) (DA (DS pits) (bs.take np) slot) H fz fun _ e=>kp (ANG T ks q.1) e
def DC{α β:Type}:Option (α⊕β)→Option α
 |some (.inl y)=>some y
 |_=>none
end
section
variable {P:Program} {E:Env}
theorem Xz[DfI]{h':Hints}(hE:∀ g,BV P g (E.spec g))(hL:EV E)(hP:Fs P E){np nt n:Nat}{body:Code}{its:A1}{os:BF}{T:TypeId}{ks:List IntKind}{pits:A1}{stp:Bg (leaves its)→Option (Bg (leaves its)⊕ARF os pits)}
  (hstep:∀ v,stp v=IJ P E h' n np nt body its os T ks pits v) (hl:By P np h' body n):I0 P np (.loop body) (Kz np nt its os T ks pits stp):=by
 intro R st k r hk;unfold Kz at hk;split at hk;cases hk;rename_i v hv;split at hk;cases hk;rename_i x hx;have hout:∃ e st',k e st'=some r∧∀ (R':Type) (k':Exit→St→Option R'),AAV nt T ks pits k' os x=k' e st':=by
  cases x with
   |inl x=>exact ei os x hk
   |inr q=>exact⟨_,_,hk,fun _ _=>rfl⟩
 obtain⟨e,st',h1,h2⟩:=hout;refine⟨e,st',h1,fun R' k'=>by simp only[Kz,hv,hx];grind,?_⟩
 have key:∀ (fuel:Nat) (v:Bg (leaves its)),BE stp fuel v=some x→∀ (w:World) (F:Nat→Prop) (m:Mp) (a:Act) (Q:Exit→Act→World→Prop),SI w F m (encode nt its v) a →
   (∀ a' w' F' m',SI w' F' m' st' a'→Hi np w F m (encode nt its v).heap (encode nt its v).frz w' F' m' st'.heap st'.frz→Q e a' w')→Code.rounds P body Q fuel a w:=by
  intro fuel
  induction fuel with
  |zero=>intro v h;simp[BE]at h
  |succ fuel ih=>
   intro v h w F m a Q hs hq
   simp only[BE]at h
   rw[hstep v]at h
   cases hr:IJ P E h' n np nt body its os T ks pits v with
   |none=>grind
   |some y=>
    rw[hr]at h
    unfold IJ at hr
    obtain⟨e1,st1,g1,_,g3⟩:=C8 hE hL hP body n hl _ _ _ _ hr
    show body.wp P (Exit.then (Code.rounds P body Q fuel) Q) a w
    refine g3 w F m a _ hs fun a' w' F' m' s1 x1 => ?_
    have fin:∀ (its':A1) (d:Bg (leaves its')),decode np nt st1 its'=some d→(∀ (R':Type) (k':Exit→St→Option R'),AAV nt T ks pits k' os x=k' e1 (encode nt its' d))→Q e1 a' w':=by
     intro its' d o1 o2
     obtain⟨F2,m2,s2,x2⟩:=GS s1 o1
     have e3:=(h2 (Exit×St) fun e st=>some (e,st)).symm.trans (o2 (Exit×St) fun e st=>some (e,st))
     simp only[AXa,AXt]at e3
     obtain⟨rfl,rfl⟩:=e3
     exact hq a' w' F2 m2 s2 (x1.trans x2)
    have other:e1≠.normal→(∀ c,e1≠.panic c)→Q e1 a' w':=by
     intro hn hp
     have g1':(match Ta np nt e1 st1 os with
      |some x=>some (Sum.inr (Sum.inl x))
      |none=>none)=some y:=by
      cases e1<;>first|grind|exact absurd rfl (hp _)|exact g1
     split at g1'
     ·rename_i z hz
      simp only[AXa]at g1';subst g1'
      simp only[AXa]at h;subst h
      obtain⟨its',d,o1,o2⟩:=rD os _ hz
      exact fin its' d o1 o2
     grind
    cases e1 with
    |normal=>
     simp only[Rr]at g1
     split at g1
     ·rename_i d hd
      simp only[AXa]at g1;subst g1
      obtain⟨F2,m2,s2,x2⟩:=GS s1 hd
      show Code.rounds P body Q fuel a' w'
      exact ih d h w' F2 m2 a' Q s2 fun a3 w3 F3 m3 s3 x3=>hq a3 w3 F3 m3 s3 (x1.trans (x2.trans x3))
     grind
    |panic c=>
     simp only[Rr]at g1
     split at g1
     ·rename_i ns hns
      split at g1
      ·rename_i d hd
       simp only[AXa]at g1;subst g1
       simp only[AXa]at h;subst h
       exact fin pits d hd fun R' k'=>by rw[pr hns];rfl
      grind
     grind
    |exit id=>exact other (by simp) (by simp)
    |goto l=>exact other (by simp) (by simp)
    |ret=>exact other (by simp) (by simp)
    |outgrown=>exact other (by simp) (by simp)
 intro w F m a Q hs hq;obtain⟨F2,m2,s2,x2⟩:=GS hs hv;exact wp_loop_rounds many (key many v (by rw[← Bf];exact hx) w F2 m2 a Q s2 fun a3 w3 F3 m3 s3 x3=>hq a3 w3 F3 m3 s3 (x2.trans x3))
variable {h:Hints} {g:FuncId} {fn:Func} {c:Code}
theorem qJ(hE:∀ g,BV P g (E.spec g))(hL:EV E)(hP:Fs P E)(hb:fn.body=some c){np:Nat}{its outs:A1}{rs:List RS}{T:TypeId}{ks:List IntKind}{pits:A1}(hl:By P np h c 0)(x:Bg (leaves its)){y:Bg (leaves outs)}
  (hy:DR np P E h fn its outs rs T ks pits x=some (.inl y)):Dp np P E h fn its outs rs x=some y:=by unfold DR at hy;unfold Dp;rw[hb]at hy ⊢;simp only at hy ⊢;obtain⟨ex,st',g1,g2,_⟩:=C8 hE hL hP c 0 hl _ _ _ _ hy;grind
theorem ATG(hE:∀ g,BV P g (E.spec g))(hL:EV E)(hP:Fs P E)(hb:fn.body=some c){np:Nat}{its outs:A1}{rs:List RS}{T:TypeId}{ks:List IntKind}{pits:A1}(hl:By P np h c 0)(x:Bg (leaves its)):
  DC (DR np P E h fn its outs rs T ks pits x)=Dp np P E h fn its outs rs x:=by
 cases hy:DR np P E h fn its outs rs T ks pits x with
  |some y=>
   cases y with
    |inl y=>exact(qJ hE hL hP hb hl x hy).symm
    |inr q=>
     cases hc:Dp np P E h fn its outs rs x with
      |none=>rfl
      |some y=>exfalso;unfold Dp at hc;unfold DR at hy;rw[hb]at hy hc;simp only at hy hc;obtain⟨ex,st',g1,g2,_⟩:=C8 hE hL hP c 0 hl _ _ _ _ hc;grind
  |none=>
   cases hc:Dp np P E h fn its outs rs x with
    |none=>rfl
    |some y=>exfalso;unfold Dp at hc;unfold DR at hy;rw[hb]at hy hc;simp only at hy hc;obtain⟨ex,st',g1,g2,_⟩:=C8 hE hL hP c 0 hl _ _ _ _ hc;grind
theorem J5(hE:∀ g,BV P g (E.spec g))(hL:EV E)(hP:Fs P E)(hf:P.funcs[g]? = some fn)(hb:fn.body=some c)(hc:HD P g)
  {np na:Nat} (hna:na≤fn.ntmps) {its outs:A1} {rs:List RS} {T:TypeId} {ks:List IntKind} {pits:A1} {f:Bg (leaves its)→Option (Bg (leaves outs)⊕(List Int×Bg (leaves pits)))} (hfun:∀ x,f x=DR np P E h fn its outs rs T ks pits x) (hl:By P np h c 0) :
  Gm P g (Bb np na its outs rs fun x=>DC (f x)) (HR np na its outs rs T ks pits f):=by
 intro R args H fz slot k kp r hk;simp only[HR]at hk;split at hk;cases hk;rename_i x bs fr hdec;split at hk;cases hk;rename_i hchk;simp only[AXd,AXc]at hchk;obtain⟨⟨⟨huncut,hbl⟩,hal⟩,⟨hri,hro⟩,hrp⟩:=hchk;split at hk;cases hk;rename_i y hy;left;obtain⟨e,h4,_,_,h5,_⟩:=Q8 hk;refine⟨_,e,h4,fun R' k' kp' => ?_,fun R' k' => ?_⟩;simp only[HR,hdec,huncut,hbl,hal,hri,hro,hrp,hy,AXi,AYb];grind;simp only[Bb,hdec,huncut,hbl,hal,hri,hro,hy,DC,AXi,AYb];grind;rename_i q hy;right;obtain⟨ns,z⟩:=q;simp only at hk;obtain⟨e,h4,he1,he2,h5,hok,hnd,hfl⟩:=Q8 hk;refine⟨_,e,h4,fun R' k' kp' => ?_,hc,fun w F m vals hi hr => ?_⟩;simp only[HR,hdec,huncut,hbl,hal,hri,hro,hrp,hy,AXi,AYb];grind;rw[hfun x]at hy;unfold DR at hy;rw[hb]at hy;simp only at hy;obtain⟨ex,st',g1,_,g3⟩:=C8 hE hL hP c 0 hl _ _ _ _ hy;have hfin:∃ bs' fr',ex = .panic [Cz (ANG T ks ns)]∧dec (lk []) st'.heap pits st'.frz []=some (z,bs',fr')∧pins np 0 bs'=true:=by
  cases ex with
   |normal=>grind
   |ret=>grind
   |panic ch=>simp only at g1;split at g1;rename_i ns' hns;split at g1;rename_i z' bs' fr' hd;split at g1;rename_i hp;simp only[AXa,Sum.inr.injEq,AXt]at g1;obtain⟨rfl,rfl⟩:=g1;rw[AXd]at hp;exact⟨bs',fr',pr hns,hd,hp.1⟩;grind;grind;grind
   |_=>grind
 obtain⟨bs',fr',rfl,hd',hp⟩:=hfin;refine calls_of_wp hf hb ?_;obtain⟨F2,m2,gA,invA,hsi⟩:=PD hi hr hal hna hdec;refine g3 w F2 m2 _ _ hsi fun a' w' F' m' s1 x1 => ?_;obtain⟨F3,m3,hg,_⟩:=ZG (rs:=[]) hi gA invA huncut hri hrp rfl rfl he1 he2 hok hnd hfl s1.heap x1 (vs:=[]) (us:=[]) KR rfl hd' hp;exact⟨s1.defers,rfl,F3,m3,hg⟩
theorem J3 (hE : A5 P E) (hf : P.funcs[g]? = some fn) (hb : fn.body.isSome = true) (hn : (fn.name == "runtime.NumGoroutine") = false) {np na : Nat} (hna : Nat.ble na fn.ntmps = true) {its outs : A1} {rs : List RS} {T : TypeId} {ks : List IntKind} {pits : A1}
  {f:Bg (leaves its)→Option (Bg (leaves outs)⊕(List Int×Bg (leaves pits)))} (hfun:∀ x,f x=DR np P E h fn its outs rs T ks pits x) (hl:By P np h (CE fn) 0):BV P g (Bb np na its outs rs fun x=>DC (f x)):=
 H3 hE hf hb hn hna (fun x=>by rw[hfun];exact ATG hE.1 hE.2.1 hE.2.2 (Fk hb) hl x) hl
def Env.ki(E:Env)(g:FuncId)(GL:Bool)(sn:Spec)(s:KS):Env where
 spec x:=match Nat.beq x g with
  |true=>sn
  |false=>E.spec x
 loc x:=match Nat.beq x g with
  |true=>false
  |false=>E.loc x
 GL x:=match Nat.beq x g with
  |true=>GL
  |false=>E.GL x
 pan x:=match Nat.beq x g with
  |true=>some s
  |false=>E.pan x
theorem Env.WI{GL:Bool}{sn:Spec}{s:KS}(h:A5 P E)(hs:BV P g sn)(hp:Gm P g sn s)(hl2:GL=true→Hh sn):A5 P (E.ki g GL sn s):=by
 refine⟨?_,⟨?_,?_⟩,fun x s' hx => ?_⟩;intro x;simp only[Env.ki];cases hx:Nat.beq x g with
  |true=>simp_all
  |false=>exact h.1 x
 intro x hx;simp only[Env.ki]at hx ⊢;cases hb:Nat.beq x g with
  |true=>grind
  |false=>rw[hb]at hx;exact h.2.1.1 x hx
 intro x hx;simp only[Env.ki]at hx ⊢;cases hb:Nat.beq x g with
  |true=>grind
  |false=>rw[hb]at hx;exact h.2.1.2 x hx
 simp only[Env.ki]at hx ⊢;cases hb:Nat.beq x g with
  |true=>simp_all
  |false=>rw[hb]at hx;exact h.2.2 x s' hx
def AKh(i:Nat)(c:FuncId)(s:KS)(s':Option KS):KS:=fun R args H fz slot k kp=>
 match AUx i args with
 |some c'=>match Nat.beq c' c with
  |true=>s R args H fz slot k kp
  |false=>match s' with
   |some s'=>s' R args H fz slot k kp
   |none=>none
 |none=>none
def Env.Tr(E:Env)(g:FuncId)(i:Nat)(c:FuncId)(sn:Spec)(s:KS):Env:=
 { E.VI g i c sn with pan:=fun x=>match Nat.beq x g with
  |true=>some (AKh i c s (E.pan g))
  |false=>E.pan x }
theorem Env.sZ{i:Nat}{c:FuncId}{sn:Spec}{s:KS}(h:A5 P E)(hs:BV P g sn)(hp:Gm P g sn s)(hl2:Hh sn):A5 P (E.Tr g i c sn s):=by
 have h0:=Env.Qq (i:=i) (c:=c) h hs hl2;refine⟨h0.1,h0.2.1,fun x s' hx => ?_⟩;simp only[Env.Tr]at hx;cases hb:Nat.beq x g with
  |false=>
   rw[hb]at hx;have e:(E.Tr g i c sn s).spec x=E.spec x:=by simp only[Env.Tr,Env.VI,hb]
   rw[e];exact h.2.2 x s' hx
  |true=>
   rw[hb]at hx;have:=AYC hb;subst this;simp only[AXa]at hx;subst hx;intro R args H fz slot k kp r hk;unfold AKh at hk;split at hk;rename_i c' hc';have e:∀ (R':Type) (k':AV→Eff→Option R'),(E.Tr x i c sn s).spec x R' args H fz slot k'=match Nat.beq c' c with
     |true=>sn R' args H fz slot k'
     |false=>E.spec x R' args H fz slot k':=by
    intro R' k'
    simp only[Env.Tr,Env.VI,Nat.beq_refl,hc']<;>grind
   split at hk;rename_i hcc;rcases hp R args H fz slot k kp r hk with⟨v,e1,a1,a2,a3⟩|⟨p,e1,a1,a2,a3⟩
   exact .inl ⟨v,e1,a1,fun R' k' kp'=>by simp only[AKh,hc',hcc];grind,fun R' k'=>by grind⟩;exact .inr ⟨p,e1,a1,fun R' k' kp'=>by simp only[AKh,hc',hcc];grind,a3⟩;rename_i hcc;split at hk;rename_i s' hs';rcases h.2.2 x s' hs' R args H fz slot k kp r hk with⟨v,e1,a1,a2,a3⟩|⟨p,e1,a1,a2,a3⟩
   exact .inl ⟨v,e1,a1,fun R' k' kp'=>by simp only[AKh,hc',hcc,hs'];grind,fun R' k'=>by grind⟩;exact .inr ⟨p,e1,a1,fun R' k' kp'=>by simp only[AKh,hc',hcc,hs'];grind,a3⟩;grind;grind
end
end Go.Pev
end
section
namespace Go.Pev
open Go.RowKit
noncomputable section
def k5:List Oper→Option (FuncId×List Operand×Tmp)
 |[o0,o1]=>match o0.op,o0.dst,o0.guard with
  |.makeFunc (.func g) first cs,some t,none=>match o1.op,o1.dst,o1.guard with
   |.defer c,none,none=>match c.callee with
    |.value (.tmp t')=>match Nat.beq t' t&&(c.args.isEmpty&&first.isEmpty)with
     |true=>some (g,cs.toList,t)
     |false=>none
    |_=>none
   |_,_,_=>none
  |_,_,_=>none
 |_=>none
def isRec(o:Oper):Bool:=match o.op,o.guard with
 |.call { callee:=.builtin .recover,args,.. },none=>args.isEmpty
 |_,_=>false
def R3[Lk](P:Program)(E:Env)(h:Hints)(R:Type)(fnC:Func)(rv:AV)(caps:List AV)(H:List Ob)(fz:List Bool)(k:St→Option R):Option R:=
 match fnC.body with
 |some (.seq (.region _ ops false) rest)=>match ops.toList with
  |[]=>none
  | o :: os => match isRec o && (Nat.beq (loops rest) 0 && (fnC.results.toList.isEmpty && (Nat.ble caps.length fnC.ntmps && !(fnC.name == "runtime.NumGoroutine")))) with
   |false=>none
   |true=>FQ P E R (o::os) os H.length ((({ tmps:=.of caps fnC.ntmps,heap:=H,frz:=fz }:St).pad (Cq (o::os))).put o.dst rv) fun st=>Bl P E h R rest 0 st fun e st=>match e with
    |.normal=>k st
    |.ret=>k st
    |_=>none
 |_=>none
def Ks[Lk](P:Program)(E:Env)(h:Hints)(R:Type):Nat→Code→St→(Exit→St→Option R)→(List Oper→Code→St→Option R)→Option R
 |0,.seq (.region _ ops false) b,st,_,kd=>kd ops.toList b st
 |m+1,.seq a b,st,ke,kd=>match Nat.beq (loops a) 0 with
  |true=>Bl P E h R a 0 st fun e st=>match e with
   |.normal=>Ks P E h R m b st ke kd
   |e=>ke e st
  |false=>none
 |_,_,_,_,_=>none
def ZJ(H:List Ob):AV→Bool
 |.ptr i 0=>FW H i
 |_=>false
def ADi(np:Nat):AV→Bool
 |.ptr i 0=>decide (i<np)
 |_=>false
def tQ:Nat→Code→Code
 |0,.seq _ b=>b
 |m+1,.seq _ b=>tQ m b
 |_,c=>c
def AWv(t:Tmp):Operand→Bool
 |.tmp t' => !(Nat.beq t' t)
 |_=>true
def R2[Lk](P:Program)(E:Env)(fn:Func)(m:Nat)(its outs:A1)(rs:List RS)(hA hB hC:Hints)(itsB:A1)(npB:Nat)(x:Bg (leaves its)):Option (Bg (leaves outs)):=
 match fn.body with
 |none=>none
 |some c=>Ks P E hA _ m c (encode fn.ntmps its x)
  (fun e st=>match e with
   |.ret=>finish 0 P fn outs rs st
   |_=>none)
  fun ops b st=>match k5 ops with
   |none=>none
   |some (g,cs,t)=>match P.funcs[g]? with
    |none=>none
    |some fnC=>match decode 0 fn.ntmps (st.put (some t) (.clo g (cs.map (BY st.tmps)))) itsB with
     |none=>none
     |some v=>match(Nat.blt t fn.ntmps&&cs.all (AWv t))&&(cs.map (BY (encode fn.ntmps itsB v).tmps)).all fun a=>ADi npB a&&ZJ (encode fn.ntmps itsB v).heap a with
      |false=>none
      |true=>Bl P E hB _ b 0 (encode fn.ntmps itsB v) fun e st2=>match(cs.map (BY (encode fn.ntmps itsB v).tmps)).all (ZJ st2.heap)with
       |false=>none
       |true=>match e with
        |.normal=>R3 P E hC _ fnC (.ifc none) (cs.map (BY (encode fn.ntmps itsB v).tmps)) st2.heap st2.frz fun st3=>finish 0 P fn outs rs { tmps:=st2.tmps,heap:=st3.heap,frz:=st3.frz }
        |.ret=>R3 P E hC _ fnC (.ifc none) (cs.map (BY (encode fn.ntmps itsB v).tmps)) st2.heap st2.frz fun st3=>finish 0 P fn outs rs { tmps:=st2.tmps,heap:=st3.heap,frz:=st3.frz }
        |.panic ch=>match ARu (.panic ch)with
         |some p=>R3 P E hC _ fnC (.ifc (some p)) (cs.map (BY (encode fn.ntmps itsB v).tmps)) st2.heap st2.frz fun st3=>finish 0 P fn outs rs { tmps:=st2.tmps,heap:=st3.heap,frz:=st3.frz }
         |none=>none
        |_=>none
end
section
variable {P:Program} {E:Env} {h:Hints}
theorem yu{R:Type}{r:R}(hE:∀ g,BV P g (E.spec g)){ops:Array Oper}{Q:Exit→Act→List Frame→World→Prop}{cs:List Frame}{k:St→Option R}:∀ (rest pre:List Oper) (slot:Nat) (st:St) (w:World) (F:Nat→Prop) (m:Mp) (a:Act),ops.toList=pre++rest →
  FQ P E R ops.toList rest slot st k=some r→SI w F m st a→(∀ a' w',AUX r k w F m st.heap st.frz a' w'→Q .normal a' cs w')→wpOpsS P ops Q (List.range' pre.length rest.length) a cs w:=by
 intro rest;induction rest with
  |nil=>intro pre slot st w F m a _ h hs hq;exact hq a w ⟨st,F,m,h,hs,Ext.refl ..⟩
  |cons o rest ih=>
   intro pre slot st w F m a hops h hs hq;simp only[FQ]at h;have hget:ops[pre.length]? = some o:=by rw[← AYY,hops];simp
   have hops':ops.toList=(pre++[o])++rest:=by grind
   have hlen:(pre++[o]).length=pre.length+1:=by simp
   rw[AXg,AYz];simp only[wpOpsS,hget];obtain⟨st',hs',e1,e2,hh⟩:=O6 hs h;rcases hh with⟨hw,hy⟩|⟨hw,hn⟩
   rw[AXp hw];obtain⟨v,e,h1,_,h3⟩:=Eg hE o.op R _ _ _ _ _ _ _ hy;have hwp:o.wp P a w (fun a' w'=>wpOpsS P ops Q (List.range' (pre.length+1) rest.length) a' cs w') (fun e a' w'=>Q e a' cs w'):=by
    refine h3 w F m a o _ _ rfl rfl hs'.heap (fun x=>Et hs'.tmps x) fun u w' F' m' hg hr => ?_;have hs2:=(hs'.go hg).put hr o.dst;have:=ih (pre++[o]) _ _ w' F' m' (a.put o.dst u) hops' h1 hs2 fun a' w'' ⟨st2,F2,m2,q1,q2,q3⟩=>hq a' w'' ⟨st2,F2,m2,q1,q2,by
     have hx:=hg.1;rw[e1,e2]at hx;refine hx.trans ?_;have:((st'.app e).put o.dst v).heap=Cy e st.heap∧((st'.app e).put o.dst v).frz=Ev e st.frz:=by cases o.dst<;>simp[St.put,St.app,e1,e2]
     grind⟩
    grind
   unfold Oper.wp at hwp;generalize (execOp a.eval o).run P w=res at hwp ⊢;split;simp[Oper.upon]at hwp;omega;rw[AXo (by simp[hw])];have hs2:SI w F m (st'.put o.dst CK) (a.put o.dst undef):=hs'.put Pc o.dst;have:=ih (pre++[o]) _ _ w F m (a.put o.dst undef) hops' hn hs2 fun a' w'' ⟨st2,F2,m2,q1,q2,q3⟩=>hq a' w'' ⟨st2,F2,m2,q1,q2,by
    have:(st'.put o.dst CK).heap=st.heap∧(st'.put o.dst CK).frz=st.frz:=by cases o.dst<;>simp[St.put,e1,e2]
    grind⟩
   grind
theorem Hi.ext{w:World}{F:Nat→Prop}{m:Mp}{H:List Ob}{fz:List Bool}{w':World}{F':Nat→Prop}{m':Mp}{H':List Ob}{fz':List Bool}(x:Hi H.length w F m H fz w' F' m' H' fz'):Ext w F m H fz w' F' m' H' fz':=
 ⟨x.os,x.tape,x.output,x.size,x.keep,x.sub,x.bnd,x.own,fun i o ho hf=>x.comp i o (BU ho) ho hf⟩
theorem Hi.AXL{np:Nat}{w:World}{F:Nat→Prop}{m:Mp}{H:List Ob}{fz:List Bool}{w':World}{F':Nat→Prop}{m':Mp}{H':List Ob}{fz':List Bool}(x:Hi np w F m H fz w' F' m' H' fz'):Hi 0 w F m H fz w' F' m' H' fz':=
 ⟨x.os,x.tape,x.output,x.size,x.keep,x.sub,x.bnd,x.own,fun i o h=>absurd h (Nat.not_lt_zero _)⟩
theorem AIK(hE:∀ g,BV P g (E.spec g))(hL:EV E)(hP:Fs P E){R:Type}{r:R}{g:FuncId}{fnC:Func}{rv:AV}{caps:List AV}{H:List Ob}{fz:List Bool}{k:St→Option R}(hf:P.funcs[g]? = some fnC)(hk:R3 P E h R fnC rv caps H fz k=some r):
  ∃ st3,k st3=some r∧HD P g∧∀ (w:World) (F:Nat→Prop) (m:Mp) (vals:List Value) (u:FrameMode),HI w F m H fz→BD w F m H caps vals→((u = .returning∧rv = .ifc none)∨∃ p,u = .panicking [Cz p]∧rv = .ifc (some p)) →
   CallsD P g vals.toArray u w fun en u' w'=>(∃ v,en = .returned v)∧settle u' = .returning∧∃ F' m',BQ w F m H fz w' F' m' st3.heap st3.frz:=by
 unfold R3 at hk;split at hk;rename_i id ops rest hb;split at hk;cases hk;rename_i o os hops;split at hk;cases hk;rename_i hc;simp only[AXd]at hc;obtain⟨hrec,hl0,hres,hle,hnm⟩:=hc;have hl0:=AYC hl0;have hle:=AYD hle;obtain⟨st1,h1,h2⟩:=XY hE _ _ _ _ hk;obtain⟨e,st3,g1,_,g3⟩:=C8 hE hL hP (np:=st1.heap.length) rest 0 (LR rest 0 hl0) R _ _ r h1;have hfin:k st3=some r∧(e = .normal∨e = .ret):=by grind
 refine⟨st3,hfin.1,CV hf (by grind) (by grind),fun w F m vals u hi hr hu => ?_⟩;have hlv:=Ba hr;have hsi:SI w F m { tmps:=.of caps fnC.ntmps,heap:=H,frz:=fz } { tmps:=vals.toArray++Array.replicate (fnC.ntmps-vals.toArray.size) undef,defers:=[] }:=by refine⟨fun t => ?_,?_,hi,rfl⟩;have:=iZ hr (fnC.ntmps-caps.length) t;simp only[AYk,hlv];exact this;simp[hlv,Tm.of];omega
 obtain⟨hs2,he2⟩:=hsi.pad (Cq (o::os));refine callsD_of_wpS hf hb fun c0 cs hc0 => ?_;refine wpS_seq (wpS_region ?_);have hop:o.guard=none∧∃ args ts,o.op = .call { callee:=.builtin .recover,args:=args,argTypes:=ts }∧args.isEmpty=true:=by unfold isRec at hrec;grind
 obtain⟨hg,args,ts,hop,hargs⟩:=hop;have hsize:ops.size=os.length+1:=by rw[← AX0,hops];rfl
 have h0:ops[0]? = some o:=by rw[← AYY,hops];rfl
 rw[hsize,AZW,AYz];simp only[wpOpsS,h0];rw[AXp (by simp[Region.wanted,hg])];have hrun:(execOp (Act.eval { tmps:=vals.toArray++Array.replicate (fnC.ntmps-vals.toArray.size) undef,defers:=[] }) o).run P w = .ok .recover w:=by
  have ha:args = #[]:=by grind
  subst ha;simp[execOp,hop,resolve,invoke,builtin]
 rw[hrun];simp only
 have go:∀ (v:Value) (c1:Frame) (u':FrameMode),Rep w F m ((St.pad { tmps:=.of caps fnC.ntmps,heap:=H,frz:=fz } (Cq (o::os))).heap) rv v→c1 = { c0 with mode:=u' }→settle u' = .returning →
   wpOpsS P ops (Exit.thenS (rest.wpS P (bodyPostS P fnC c0 cs fun en u' w'=>(∃ v,en = .returned v)∧settle u' = .returning∧∃ F' m',BQ w F m H fz w' F' m' st3.heap st3.frz)) (bodyPostS P fnC c0 cs fun en u' w'=>(∃ v,en = .returned v)∧settle u' = .returning∧∃ F' m',BQ w F m H fz w' F' m' st3.heap st3.frz))
    (List.range' 1 os.length) (Act.put { tmps:=vals.toArray++Array.replicate (fnC.ntmps-vals.toArray.size) undef,defers:=[] } o.dst v) (c1::cs) w:=by
  intro v c1 u' hrv hc1 hst
  have hs3:=hs2.put hrv o.dst
  have h3:FQ P E St ops.toList os H.length ((St.pad { tmps:=.of caps fnC.ntmps,heap:=H,frz:=fz } (Cq (o::os))).put o.dst rv) some=some st1:=by
   grind
  have:=yu (cs:=c1::cs) hE os [o] _ _ w F m _ (by grind) h3 hs3 (Q:=(Exit.thenS (rest.wpS P (bodyPostS P fnC c0 cs fun en u' w'=>(∃ v,en = .returned v)∧settle u' = .returning∧∃ F' m',BQ w F m H fz w' F' m' st3.heap st3.frz)) (bodyPostS P fnC c0 cs fun en u' w'=>(∃ v,en = .returned v)∧settle u' = .returning∧∃ F' m',BQ w F m H fz w' F' m' st3.heap st3.frz))) fun a' w' hp => ?_
  ·omega
  ·obtain⟨st',F',m',e1,s1,x1⟩:=hp
   cases e1
   show rest.wpS P _ a' (c1::cs) w'
   refine wpS_of_wp (g3 w' F' m' a' _ s1 fun a2 w2 F2 m2 s2 x2 => ?_)
   have hx:Ext w F m H fz w2 F2 m2 st3.heap st3.frz:=by
    have hh:=Er (St.pad { tmps:=.of caps fnC.ntmps,heap:=H,frz:=fz } (Cq (o::os))) o.dst rv
    rw[hh.1,hh.2]at x1
    exact he2.trans (x1.trans x2.ext)
   have hres':fnC.results.toList=[]:=by grind
   obtain⟨us,r1,_⟩:=Ko (P:=P) s2 (fn:=fnC) (vs:=[]) (by rw[hres'];rfl)
   have hpost:a2.defers=[]∧∃ u',(c1::cs:List Frame) = { c0 with mode:=u' }::cs∧∃ v,(results fnC a2.tmps).run P w2 = .ok v w2∧((∃ v',Ending.returned v = .returned v')∧settle u' = .returning∧∃ F' m',BQ w F m H fz w2 F' m' st3.heap st3.frz):=
    ⟨s2.defers,u',by rw[hc1],_,r1,⟨_,rfl⟩,hst,F2,m2,hx,s2.heap⟩
   rcases hfin.2 with rfl|rfl<;>exact hpost
 rcases hu with⟨rfl,rfl⟩|⟨p,rfl,rfl⟩
 have hr0:recoverD (c0::cs)=none:=by simp[recoverD,hc0]
 rw[hr0];simp only;exact go .nilIface c0 .returning (by unfold Rep;rfl) (by cases c0;grind) rfl;have hr0:recoverD (c0::cs)=some (Ji (some p),{ c0 with mode:=.panicking [{ v:=Ji (some p),recovered:=true }] }::cs):=by simp[recoverD,hc0,Cz]
 rw[hr0];simp only;exact go _ _ (.panicking [{ v:=Ji (some p),recovered:=true }]) (by unfold Rep;rfl) rfl rfl;grind
theorem AII(hE:∀ g,BV P g (E.spec g))(hL:EV E)(hP:Fs P E){R:Type}{r:R}{ke:Exit→St→Option R}{kd:List Oper→Code→St→Option R}:∀ (m:Nat) (c:Code) (st:St),Ks P E h R m c st ke kd=some r →
  (∃ e st',e≠.normal∧ke e st'=some r∧AXJ P 0 c st e st') ∨
  (∃ id ops b st',kd ops.toList b st'=some r∧tQ m c=b∧∀ (w:World) (F:Nat→Prop) (m:Mp) (a:Act) (Q:Exit→Act→World→Prop),SI w F m st a →
   (∀ a' w' F' m',SI w' F' m' st' a'→Hi 0 w F m st.heap st.frz w' F' m' st'.heap st'.frz→(Code.seq (.region id ops false) b).wp P Q a' w')→c.wp P Q a w):=by
 intro m;induction m with
  |zero=>
   intro c st hk;cases c with
    |seq a b=>cases a with
     |region id ops draw=>cases draw with
      |false=>
       simp only[Ks]at hk
       exact .inr ⟨id,ops,b,st,hk,rfl,fun w F m a Q hs hq=>hq a w F m hs (Hi.refl ..)⟩
      |true=>simp[Ks]at hk
     |_=>simp[Ks]at hk
    |_=>simp[Ks]at hk
  |succ m ih=>
   intro c st hk;cases c with
    |seq a b=>
     simp only[Ks]at hk;split at hk;rename_i hl0;have hl0:=AYC hl0;obtain⟨e,st1,h1,_,h3⟩:=C8 hE hL hP (np:=0) a 0 (LR a 0 hl0) R _ _ r hk;by_cases he:e = .normal;subst he;rcases ih b st1 h1 with⟨e2,st2,k1,k2,k3⟩|⟨id,ops,b',st2,k1,kb,k2⟩
     refine .inl ⟨e2,st2,k1,k2,fun w F m act Q hs hq=>wp_seq ?_⟩;refine h3 w F m act _ hs fun a' w' F' m' s1 x1 => ?_;exact k3 w' F' m' a' Q s1 fun a2 w2 F2 m2 s2 x2=>hq a2 w2 F2 m2 s2 (x1.trans x2);refine .inr ⟨id,ops,b',st2,k1,kb,fun w F m act Q hs hq=>wp_seq ?_⟩;refine h3 w F m act _ hs fun a' w' F' m' s1 x1 => ?_;exact k2 w' F' m' a' Q s1 fun a2 w2 F2 m2 s2 x2=>hq a2 w2 F2 m2 s2 (x1.trans x2);have h1':ke e st1=some r:=by grind
     refine .inl ⟨e,st1,he,h1',fun w F m act Q hs hq=>wp_seq ?_⟩;refine h3 w F m act _ hs fun a' w' F' m' s1 x1 => ?_;have:=hq a' w' F' m' s1 x1;cases e<;>first|grind|exact this
     grind
    |_=>simp[Ks]at hk
variable {g0:FuncId} {fn:Func} {c:Code}
theorem k0{ops:List Oper}{g:FuncId}{cs:List Operand}{t:Tmp}(h:k5 ops=some (g,cs,t)):∃ o0 o1,ops=[o0,o1]∧o0.guard=none∧o0.dst=some t∧(∃ csA fst,o0.op = .makeFunc (.func g) fst csA∧fst.toList=[]∧csA.toList=cs) ∧
  o1.guard=none∧o1.dst=none∧∃ args ts,o1.op = .defer { callee:=.value (.tmp t),args:=args,argTypes:=ts }∧args.toList=[]:=by
 unfold k5 at h;split at h;rename_i o0 o1;split at h;rename_i g' first cs' t' h1 h2 h3
 split at h;rename_i cl h4 h5 h6;split at h;rename_i t2 h7;split at h;rename_i hc;simp only[AXd]at hc;simp only[AXa,AXt]at h;obtain⟨rfl,rfl,rfl⟩:=h;have:=AYC hc.1;subst this;obtain⟨callee,args,ts⟩:=cl;grind;grind;grind;grind;grind;grind
theorem yt{np:Nat}{H:List Ob}{v:AV}(h:(ADi np v&&ZJ H v)=true):∃ i cs,v = .ptr i 0∧i<np∧H[i]? = some (.box cs):=by rw[AXd]at h;obtain⟨h1,h2⟩:=h;unfold ADi at h1;split at h1;rename_i i;refine⟨i,?_⟩;simp only[AXc]at h1;simp only[ZJ,FW]at h2;grind;grind
theorem AKr{np:Nat}{w w':World}{F F':Nat→Prop}{m m':Mp}{H H':List Ob}{fz fz':List Bool}(x:Hi np w F m H fz w' F' m' H' fz'):∀ {vs:List AV} {us:List Value},(vs.all fun a=>ADi np a&&ZJ H a)=true→vs.all (ZJ H')=true→BD w F m H vs us→BD w' F' m' H' vs us:=by
 intro vs;induction vs with
  |nil=>intro us _ _ h;unfold BD at *;exact h
  |cons v vs ih=>
   intro us h1 h2 h;simp only[List.all_cons]at h1 h2;rw[AXd]at h1 h2;unfold BD at h ⊢;obtain⟨u,us',rfl,h3,h4⟩:=h;refine⟨u,us',rfl,?_,ih h1.2 h2.2 h4⟩;obtain⟨i,cs,rfl,hi,hb⟩:=yt h1.1;have h5:=h2.1;simp only[ZJ,FW]at h5;split at h5
   ·rename_i cs' hb';unfold Rep GZ at h3 ⊢;rw[hb]at h3;rw[hb'];rcases x.comp i _ hi hb (by simp)with h6|⟨_,o',h6,h7,h8,_⟩
    all_goals grind
   grind
theorem rI(hE:∀ g,BV P g (E.spec g))(hL:EV E)(hP:Fs P E)(hf:P.funcs[g0]? = some fn)(hb:fn.body=some c)(hc:HD P g0)
  {m:Nat} {na:Nat} (hna:na≤fn.ntmps) {its outs:A1} {rs:List RS} {hA hB hC:Hints} {itsB:A1} {npB:Nat} {f:Bg (leaves its)→Option (Bg (leaves outs))} (hfun:∀ x,f x=R2 P E fn m its outs rs hA hB hC itsB npB x)
  (hl:∀ [DfI],By P npB hB (tQ m c) 0):BV P g0 (Bb 0 na its outs rs f):=by
 intro R args H fz slot k r hk;simp only[Bb]at hk;split at hk;cases hk;rename_i x bs fr hdec;split at hk;cases hk;rename_i hchk;simp only[AXd,AXc]at hchk;obtain⟨⟨⟨huncut,hbl⟩,hal⟩,hri,hro⟩:=hchk;split at hk;cases hk;rename_i y hy;generalize hids:DA (DS outs) (bs.take 0) slot=ids at hk;generalize hgv:given (bs.drop 0)=gv at hk;obtain⟨e,h4,he1,he2,h5,hok,hnd,hfl⟩:=Q8 hk;refine⟨_,e,h4,fun R' k' => ?_,hc,fun w F mm vals hi hr => ?_⟩;simp only[Bb,hdec,huncut,hbl,hal,hri,hro,hy,AXi,AYb,hids,hgv];grind;rw[hfun x]at hy;unfold R2 at hy;rw[hb]at hy;simp only at hy;refine calls_of_wp_defers hf hb ?_;obtain⟨F2,m2,gA,invA,hsi⟩:=PD hi hr hal hna hdec
 have fin:∀ (w':World) (F':Nat→Prop) (m':Mp) (st':St) (tm:Array Value),SI w' F' m' st' { tmps:=tm,defers:=[] }→Hi 0 w F2 m2 (encode fn.ntmps its x).heap (encode fn.ntmps its x).frz w' F' m' st'.heap st'.frz→finish 0 P fn outs rs st'=some y →
   Leaves P fn tm (fun en w'=>∃ u,en = .returned u∧∃ F' m',BQ w F mm H fz w' F' m' (Cy e H) (Ev e fz)∧Rep w' F' m' (Cy e H) (single (Ea rs (I1 ids (encode (cellsOf rs) outs y).tmps.list))) u) [] .returning w':=by
  intro w' F' m' st' tm hs x1 hfin
  obtain⟨vs,tm',bs',fr',hvs,htm,hd',hp⟩:=Tp hfin
  rw[AXd]at hp
  obtain⟨us,r1,r2⟩:=Ko hs hvs
  exact⟨_,r1,_,rfl,ZG hi gA invA huncut hri hro hids hgv he1 he2 hok hnd hfl hs.heap x1 r2 htm hd' hp.1⟩
 rcases AII hE hL hP m c _ hy with⟨ex,st',hne,hke,hrun⟩|⟨id,ops,b,st',hkd,hcb,hrun⟩
 have hex:ex = .ret∧finish 0 P fn outs rs st'=some y:=by grind
 obtain⟨rfl,hke⟩:=hex;refine hrun w F2 m2 _ _ hsi fun a' w' F' m' s1 x1 => ?_;show Leaves P fn a'.tmps _ a'.defers .returning w';rw[show a'.defers=[]from s1.defers];exact fin w' F' m' st' a'.tmps ⟨s1.tmps,s1.size,s1.heap,rfl⟩ x1 hke;split at hkd;cases hkd;rename_i g cs t hdf;split at hkd;cases hkd;rename_i fnC hfC;split at hkd;cases hkd;rename_i v hv;split at hkd;cases hkd;rename_i hcap0;rw[AXd,AXd]at hcap0;obtain⟨⟨htn,hnt⟩,hcap⟩:=hcap0;refine hrun w F2 m2 _ _ hsi fun a' w' F' m' s1 x1 => ?_;obtain⟨o0,o1,hops,hg0,hd0,⟨csA,fst,hop0,hfst,hcs⟩,hg1,hd1,args1,ts1,hop1,hargs1⟩:=k0 hdf;have hsize:ops.size=2:=by rw[← AX0,hops];rfl
 have h0:ops[0]? = some o0:=by rw[← AYY,hops];rfl
 have h1:ops[1]? = some o1:=by rw[← AYY,hops];rfl
 have hfst':fst = #[]:=by grind
 have hargs1':args1 = #[]:=by grind
 subst hfst';subst hargs1';subst hcs;have hrun0:(execOp a'.eval o0).run P w' = .ok (.value (.func (.func g) #[] (csA.map a'.eval))) w':=by simp[execOp,hop0,Instr.makeFunc]
 have hcr:BD w' F' m' st'.heap (csA.toList.map (BY st'.tmps)) (csA.map a'.eval).toList:=ZO (fun x=>Et s1.tmps x) csA;have hrc:Rep w' F' m' st'.heap (.clo g (csA.toList.map (BY st'.tmps))) (.func (.func g) #[] (csA.map a'.eval)):=by unfold Rep;grind
 have s2:=s1.put hrc (some t);obtain⟨F3,m3,s3,x3⟩:=GS s2 hv;have hev:(a'.put (some t) (.func (.func g) #[] (csA.map a'.eval))).eval (.tmp t) = .func (.func g) #[] (csA.map a'.eval):=by
  have h1:t<a'.tmps.size:=by
   have h2:(st'.put (some t) (.clo g (csA.toList.map (BY st'.tmps)))).tmps.n=fn.ntmps:=by unfold decode at hv;grind
   rw[← s1.size];rw[show st'.tmps.n=fn.ntmps from h2];simp_all
  simp[Act.eval,Act.put,h1]
 have hrun1:(execOp (a'.put (some t) (.func (.func g) #[] (csA.map a'.eval))).eval o1).run P w' = .ok (.defer { target:=.fn (.func g) (csA.map a'.eval),args:=#[] }) w':=by simp[execOp,hop1,resolve,hev,Deferred.ofValue]
 refine wp_seq (wp_region ?_);rw[hsize];refine KY h0 hg0 (Cl hrun0 ?_);rw[hd0];refine KY h1 hg1 ?_;unfold Oper.wp;rw[hrun1,Oper.upon_defer,hd1];have e0:(a'.put (some t) (.func (.func g) #[] (csA.map a'.eval))).defers=[]:=s2.defers;have s3t:=s3.tmps;have s3s:=s3.size;have s3h:=s3.heap;letI D:DfI:=⟨[{ target:=.fn (.func g) (csA.map a'.eval),args:=#[] }]⟩
 have s4:@SI D w' F3 m3 (encode fn.ntmps itsB v) { (a'.put (some t) (.func (.func g) #[] (csA.map a'.eval)))with defers:={ target:=.fn (.func g) (csA.map a'.eval),args:=#[] }::(a'.put (some t) (.func (.func g) #[] (csA.map a'.eval))).defers }:=
  @SI.mk D _ _ _ _ _ s3t s3s s3h (by rw[e0];rfl)
 obtain⟨ex,st2,g1,_,g3⟩:=C8 hE hL hP b 0 (hcb▸hl) _ _ _ _ hkd;have hcapr:BD w' F3 m3 (encode fn.ntmps itsB v).heap (csA.toList.map (BY (encode fn.ntmps itsB v).tmps)) (csA.map a'.eval).toList:=by
  have h1:csA.map a'.eval=csA.map (a'.put (some t) (.func (.func g) #[] (csA.map a'.eval))).eval:=by
   apply Array.map_congr_left;intro z hz;rw[AXy]at hnt;have:=hnt z (by grind);cases z with
    |tmp t'=>
     have hne:t≠t':=by rintro rfl;simp[AWv]at this
     simp[Act.eval,Act.put,Array.getElem?_setIfInBounds_ne hne]
    |_=>rfl
  rw[h1];exact ZO (fun x=>Et s3t x) csA
 refine g3 w' F3 m3 _ _ s4 fun a2 w2 F4 m4 s5 x5 => ?_;split at g1;cases g1;rename_i hal2
 have closing:∀ (rv:AV) (u:FrameMode),u≠.run→((u = .returning∧rv = .ifc none)∨∃ p,u = .panicking [Cz p]∧rv = .ifc (some p)) →
   R3 P E hC _ fnC rv (csA.toList.map (BY (encode fn.ntmps itsB v).tmps)) st2.heap st2.frz (fun st3=>finish 0 P fn outs rs { tmps:=st2.tmps,heap:=st3.heap,frz:=st3.frz })=some y →
   Leaves P fn a2.tmps (fun en w'=>∃ u,en = .returned u∧∃ F' m',BQ w F mm H fz w' F' m' (Cy e H) (Ev e fz)∧Rep w' F' m' (Cy e H) (single (Ea rs (I1 ids (encode (cellsOf rs) outs y).tmps.list))) u) [{ target:=.fn (.func g) (csA.map a'.eval),args:=#[] }] u w2:=by
  intro rv u hne hmode hclo
  obtain⟨st3,k1,kc,k2⟩:=AIK hE hL hP hfC hclo
  refine leaves_cons (f:=g) (args:=csA.map a'.eval) hne (by simp[invoke,kc _ w2]) ?_
  have hcall:=k2 w2 F4 m4 _ u s5.heap (AKr x5 hcap hal2 hcapr) hmode
  rw[AZV]at hcall
  refine hcall.mono fun en u' w3 ⟨⟨v',hen⟩,hset,F5,m5,hgo⟩ => ?_
  subst hen
  show Leaves P fn a2.tmps _ [] (settle u') w3
  rw[hset]
  refine fin w3 F5 m5 { tmps:=st2.tmps,heap:=st3.heap,frz:=st3.frz } a2.tmps (@SI.mk noDf _ _ _ _ _ (fun t=>hgo.1.rep s5.heap (s5.tmps t)) s5.size hgo.2 rfl) ?_ k1
  exact x1.trans (x3.trans (x5.AXL.trans (hgo.1.toN 0)))
 have hdf2:a2.defers=[{ target:=.fn (.func g) (csA.map a'.eval),args:=#[] }]:=s5.defers;cases ex with
  |normal=>show Leaves P fn a2.tmps _ a2.defers .returning w2;grind
  |ret=>show Leaves P fn a2.tmps _ a2.defers .returning w2;grind
  |panic ch=>simp only at g1;split at g1;rename_i p hp;have:=ACr hp;simp only[Exit.panic.injEq]at this;subst this;show Leaves P fn a2.tmps _ a2.defers (.panicking [Cz p]) w2;grind;grind
  |_=>grind
end
theorem C2[DfI]{P:Program}{np:Nat}{h:Hints}:∀ (c:Code) (n:Nat),loops c=0→By P np h c n:=by
 intro c;induction c with
  |seq a b iha ihb=>intro n hl;simp only[loops]at hl;exact⟨iha n (by omega),ihb _ (by omega)⟩
  |cond c a b iha ihb=>intro n hl;simp only[loops]at hl;exact⟨iha n (by omega),ihb _ (by omega)⟩
  |block id c ih=>intro n hl;simp only[loops]at hl;exact ih n hl
  |loop c ih=>intro n hl;simp only[loops]at hl;omega
  |_=>intro n _;trivial
def S5[DfI](P:Program)(np:Nat)(h:Hints):List (Nat×Code)→Prop
 |[]=>True
 |p::l=>I0 P np (.loop p.2) (h.loop p.1)∧S5 P np h l
theorem aJ[DfI]{P:Program}{np:Nat}{h:Hints}:∀ {a b:List (Nat×Code)},S5 P np h (a++b)→S5 P np h a∧S5 P np h b:=by
 intro a;induction a with
  |nil=>exact fun h=>⟨trivial,h⟩
  |cons p a ih=>intro b h;exact⟨⟨h.1,(ih h.2).1⟩,(ih h.2).2⟩
theorem ln[DfI]{P:Program}{np:Nat}{h:Hints}:∀ (c:Code) (n:Nat),S5 P np h (Cm c n)→By P np h c n:=by
 intro c;induction c with
  |seq a b iha ihb=>intro n hl;have:=aJ hl;exact⟨iha n this.1,ihb _ this.2⟩
  |cond c a b iha ihb=>intro n hl;have:=aJ hl;exact⟨iha n this.1,ihb _ this.2⟩
  |block id c ih=>intro n hl;exact ih n hl
  |loop c ih=>intro n hl;exact hl.1
  |_=>intro n _;trivial
theorem T5[DfI]{P:Program}{np:Nat}{h:Hints}{c:Code}{n:Nat}{l:List (Nat×Code)}(e:Cm c n=l)(a:S5 P np h l):By P np h c n:=ln c n (by grind)
def Ql:List (Nat×List (List Nat))→Nat→List (List Nat)
 |[],_=>[]
 |(k,x)::l,n=>match Nat.beq k n with
  |true=>x
  |false=>Ql l n
end Go.Pev
end
section
namespace Go.Pev
open Go.RowKit
noncomputable def Mw(n:Nat):Spec:=fun R args _ _ _ k=>
 match args with
 |[.data (.slice e) xs]=>match decide (e.size=n)with
  |true=>k (.clip e xs) {}
  |false=>none
 |_=>none
structure iH(P:Program)(fn:Func)(T e:TypeId)(n:Nat):Prop where
 body:fn.body=some (.seq (.region 0 #[CQ fn 0 0] false) (.seq (.region 1 #[CQ fn 1 0,CQ fn 1 1,CQ fn 1 2,CQ fn 1 3,CQ fn 1 4,CQ fn 1 5,CQ fn 1 6] false) .ret))
 nt:fn.ntmps=9
 res:fn.results = #[.tmp 2]
 d:(CQ fn 0 0).dst=some 2∧(CQ fn 1 0).dst=some 3∧(CQ fn 1 1).dst=some 4∧(CQ fn 1 2).dst=some 5∧(CQ fn 1 3).dst=some 6∧(CQ fn 1 4).dst=some 7∧(CQ fn 1 5).dst=some 8∧(CQ fn 1 6).dst=some 2
 g:(CQ fn 0 0).guard=none∧(CQ fn 1 0).guard=none∧(CQ fn 1 1).guard=none∧(CQ fn 1 2).guard=none∧(CQ fn 1 3).guard=none∧(CQ fn 1 4).guard=none∧(CQ fn 1 5).guard=none∧(CQ fn 1 6).guard=none
 o00:(CQ fn 0 0).op = .assign (.const (.slice none 0 0))
 o10:(CQ fn 1 0).op = .move (.tmp 0)
 o11:(CQ fn 1 1).op = .move (.tmp 0)
 o12:(CQ fn 1 2).op = .call { callee:=.builtin .len,args:=#[.tmp 4],argTypes:=#[T] }
 o13:(CQ fn 1 3).op = .move (.tmp 0)
 o14:(CQ fn 1 4).op = .call { callee:=.builtin .len,args:=#[.tmp 6],argTypes:=#[T] }
 o15:(CQ fn 1 5).op = .slice T (.tmp 3) none (some (.tmp 5)) (some (.tmp 7))
 o16:(CQ fn 1 6).op = .assign (.tmp 8)
 sl:P.underlying T=some (.slice e)
 sz:CD P e=some n
section
variable {P:Program} {g:FuncId} {fn:Func} {T e:TypeId} {n:Nat}
theorem AUG (hs : iH P fn T e n) (hf : P.funcs[g]? = some fn) (hn : (fn.name == "runtime.NumGoroutine") = false) : BV P g (Mw n) := by
 intro R args H fz slot k r hk;unfold Mw at hk;split at hk;rename_i t xs;split at hk;rename_i hsz;refine⟨_,_,hk,fun R' k'=>by simp only[Mw,hsz],CV hf (by rw[hs.body];rfl) hn,fun w F m vals hi hr => ?_⟩;simp only[AXc]at hsz;obtain⟨i,hi0,hsz'⟩:=Bs hs.sz;unfold BD at hr;obtain⟨v,vs',rfl,hrv,hnil⟩:=hr;unfold BD at hnil;subst hnil;have hrv:Dat w F (.slice t) xs [v]:=hrv;obtain⟨a,cap,e1,e2,e3⟩:=hrv;simp only[AXz,AZv]at e1;subst e1;refine calls_of_wp hf hs.body ?_;obtain⟨d0,d1,d2,d3,d4,d5,d6,d7⟩:=hs.d;obtain⟨g0,g1,g2,g3,g4,g5,g6,g7⟩:=hs.g;have hres:∀ (tm:Array Value) (w0:World),(results fn tm).run P w0 = .ok (tm.getD 2 undef) w0:=fun tm w0=>by simp[results,hs.res]
 refine wp_seq (wp_region ?_);simp only[AYk,AXg,AXs,AYZ,AZo,AX2];refine Cw (by rfl) g0 (Cl (G4 hs.o00) ?_);refine wp_seq (wp_region ?_);simp only[AYk,AXg,AXs,AYZ,AZo,AX2,AX3];refine Cw (by rfl) g1 (Cl (KH hs.o10) ?_);refine Cw (by rfl) g2 (Cl (KH hs.o11) ?_);refine Cw (by rfl) g3 (Cl (u:=.int .i64 (List.length (α:=t.den) xs)) (w':=w) (by simp[execOp,hs.o12,resolve,invoke,builtin,Act.eval,Act.put,d0,d1,d2,hs.nt,CP hs.sl]) ?_);refine Cw (by rfl) g4 (Cl (KH hs.o13) ?_);refine Cw (by rfl) g5 (Cl (u:=.int .i64 (List.length (α:=t.den) xs)) (w':=w) (by simp[execOp,hs.o14,resolve,invoke,builtin,Act.eval,Act.put,d0,d1,d2,d3,d4,hs.nt,CP hs.sl]) ?_);have hrun:=L0 (P:=P) (w:=w) (kh:=.i64) (km:=.i64) hs.sl hi0 a (List.length (α:=t.den) xs) cap (l:=0) (h:=(List.length (α:=t.den) xs:Int)) (.inl ⟨rfl,rfl⟩) (by omega) (by omega) (by omega);refine Cw (by rfl) g6 (Cl (u:=.slice a (List.length (α:=t.den) xs) (List.length (α:=t.den) xs)) (w':=w) (by simp[execOp,hs.o15,Act.eval,Act.put,d0,d1,d2,d3,d4,d5,hs.nt,hrun];intro _;cases a<;>rfl) ?_)
 refine Cw (by rfl) g7 (Cl (G4 hs.o16) ?_);refine wp_ret ?_;refine⟨by simp[Act.put,d0,d1,d2,d3,d4,d5,d6,d7],_,hres _ _,?_⟩;refine⟨_,rfl,F,m,BQ.refl hi,?_⟩;have:Rep w F m H (.clip t xs) (.slice a (List.length (α:=t.den) xs) (List.length (α:=t.den) xs)):=by unfold Rep;exact⟨⟨a,_,rfl,AXl _,e3⟩,a,rfl⟩
 show Rep _ _ _ H _ _;simpa [Act.put,Act.eval,d0,d1,d2,d3,d4,d5,d6,d7,hs.nt]using this;grind;grind
theorem Mv(n:Nat):Ga (Mw n):=fun _ _ _ _ _ _ _ _ _=>rfl
end
end Go.Pev
end
section
namespace Go.Pev
noncomputable section
abbrev Tab:=Nat→A1×BF
def Em[Lk](P:Program)(E:Env)(np nt:Nat)(tab:Tab):Code→Nat→Hints→Hints
 |.seq a b,n,h=>Em P E np nt tab a n (Em P E np nt tab b (n+loops a) h)
 |.cond _ a b,n,h=>Em P E np nt tab a n (Em P E np nt tab b (n+loops a) h)
 |.block _ c,n,h=>Em P E np nt tab c n h
 |.loop c,n,h=>{ fp:=h.fp,loop:=fun m=>match Nat.beq m n with
   |true=>K0 np nt (tab n).1 (tab n).2 (roundOf P E (Em P E np nt tab c (n+1) h) (n+1) np nt c (tab n).1 (tab n).2)
   |false=>(Em P E np nt tab c (n+1) h).loop m }
 |_,_,h=>h
theorem Yc(P:Program)(E:Env)(np nt:Nat)(tab:Tab):∀ (c:Code) (n:Nat) (h:Hints) (m:Nat),(m<n∨n+loops c≤m)→(Em P E np nt tab c n h).loop m=h.loop m:=by
 intro c;induction c with
  |seq a b iha ihb=>intro n h m hm;simp only[Em,loops]at *;grind
  |cond c a b iha ihb=>intro n h m hm;simp only[Em,loops]at *;grind
  |block id c ih=>intro n h m hm;exact ih n h m hm
  |loop c ih=>
   intro n h m hm;simp only[Em,loops]at *;have:Nat.beq m n=false:=by
    cases hb:Nat.beq m n with
     |true=>have:=AYC hb;omega
     |false=>rfl
   grind
  |_=>intro n h m hm;rfl
theorem OA{P:Program}{np:Nat}{h h':Hints}:∀ (c:Code) (n:Nat),(∀ m,n≤m→m<n+loops c→h'.loop m=h.loop m)→By P np h c n→By P np h' c n:=by
 intro c;induction c with
  |seq a b iha ihb=>intro n he hl;simp only[loops]at he;exact⟨iha n (fun m h1 h2=>he m h1 (by omega)) hl.1,ihb _ (fun m h1 h2=>he m (by omega) (by omega)) hl.2⟩
  |cond c a b iha ihb=>intro n he hl;simp only[loops]at he;exact⟨iha n (fun m h1 h2=>he m h1 (by omega)) hl.1,ihb _ (fun m h1 h2=>he m (by omega) (by omega)) hl.2⟩
  |block id c ih=>intro n he hl;exact ih n he hl
  |loop c ih=>intro n he hl;simp only[loops]at he;unfold By at *;grind
  |_=>intro n he hl;trivial
theorem AJb{P:Program}{E:Env}(hE:A5 P E){np nt:Nat}{tab:Tab}:∀ (c:Code) (n:Nat) (h:Hints),By P np (Em P E np nt tab c n h) c n:=by
 intro c;induction c with
  |seq a b iha ihb=>intro n h;refine⟨iha n _,?_⟩;refine OA b _ (fun m h1 h2 => ?_) (ihb (n+loops a) h);simp only[Em];exact Yc P E np nt tab a n _ m (by omega)
  |cond c a b iha ihb=>intro n h;refine⟨iha n _,?_⟩;refine OA b _ (fun m h1 h2 => ?_) (ihb (n+loops a) h);simp only[Em];exact Yc P E np nt tab a n _ m (by omega)
  |block id c ih=>intro n h;exact ih n h
  |loop c ih=>intro n h;unfold By;simp only[Em];rw[show Nat.beq n n=true from Nat.beq_refl n];exact QB hE (fun _=>rfl) (ih (n+1) h)
  |_=>intro n h;trivial
structure Row where
 g:FuncId
 k:Nat:=0
 np:Nat:=0
 na:Nat:=0
 fl:Nat:=0
 clo:Option (Nat×FuncId):=none
 its:A1:=[]
 os:BF:=[]
 rs:List RS:=[]
 fp:List (Nat×List (List Nat)):=[]
 tab:List (Nat×A1×BF):=[]
def APw{α:Type}(d:α):List (Nat×α)→Nat→α
 |[],_=>d
 |p::l,n=>match Nat.beq p.1 n with
  |true=>p.2
  |false=>APw d l n
def Row.outs(r:Row):A1:=match r.os with
 |[]=>[]
 |o::_=>o.2
def Row.mark(r:Row)(i:Nat):Bool:=Nat.testBit r.fl i
def Row.hint[Lk](r:Row)(P:Program)(E:Env)(fn:Func):Hints:=
 Em P E r.np fn.ntmps (APw ([],[]) r.tab) (CE fn) 0 { fp:=APw [] r.fp }
def Row.loc(r:Row):Bool:=Y4 r.its&&(Nat.ble (DS r.outs) 4 && !r.mark 3)
def Row.GL(r:Row):Bool:=Tb r.its&&Nat.ble (DS r.outs) 4
def Row.call(r:Row)(f:Bg (leaves r.its)→Option (Bg (leaves r.outs))):Spec:=Bb r.np r.na r.its r.outs r.rs f
def Row.self[Lk](r:Row)(P:Program)(E:Env)(fn:Func):Bg (leaves r.its)→Option (Bg (leaves r.outs)):=
 Dp r.np P E (r.hint P E fn) fn r.its r.outs r.rs
def Row.put[Lk](r:Row)(E:Env)(s:Spec):Env:=
 match r.clo with
 |none=>E.ext r.g r.loc r.GL (match r.mark 3 with
  |true=>Gv s
  |false=>s)
 |some (i,c)=>E.VI r.g i c (match r.mark 3 with
  |true=>Gv s
  |false=>s)
def Row.okF(r:Row)(fn:Func):Bool:=
 fn.body.isSome && (!(fn.name == "runtime.NumGoroutine") && (Nat.ble r.na fn.ntmps && (match r.k with
  |1=>Nat.beq (loops (CE fn)) 0
  |_=>true)&&(match r.clo with
  |none=>true
  |some _=>r.GL)))
theorem Row.AVf{P:Program}{E:Env}{r:Row}(hE:A5 P E){f:Bg (leaves r.its)→Option (Bg (leaves r.outs))}(hs:BV P r.g (r.call f))(hc:(match r.clo with
  |none=>true
  |some _=>r.GL)=true):A5 P (r.put E (r.call f)):=by
 have hin:r.GL=true→Hh (match r.mark 3 with
  |true=>Gv (r.call f)
  |false=>r.call f):=by
  intro h
  simp only[Row.GL,AXd]at h
  cases r.mark 3 with
  |true=>exact ASA h.1 h.2
  |false=>exact Ce h.1 h.2
 have hs':BV P r.g (match r.mark 3 with
  |true=>Gv (r.call f)
  |false=>r.call f):=by
  cases r.mark 3 with
  |true=>exact oU hs
  |false=>exact hs
 unfold Row.put;split;refine Env.CR hE hs' (fun h => ?_) hin;simp only[Row.loc,AXd]at h;have h3:r.mark 3=false:=by grind
 rw[h3];exact Kx h.1 h.2.1;rename_i i c hcl;rw[hcl]at hc;exact Env.Qq hE hs' (hin hc)
theorem Row.AHW {P : Program} {E : Env} {r : Row} {fn : Func} (hE : A5 P E) (hf : P.funcs[r.g]? = some fn) (hb : fn.body.isSome = true) (hn : (fn.name == "runtime.NumGoroutine") = false) (ha : Nat.ble r.na fn.ntmps = true)
  {f:Bg (leaves r.its)→Option (Bg (leaves r.outs))} (he:∀ x,f x=r.self P E fn x):BV P r.g (r.call f):=
 H3 hE hf hb hn ha he (AJb hE _ _ _)
end
end Go.Pev
end
section
namespace Go.Pev
noncomputable section
variable {P:Program} {E:Env} {r:Row} {fn:Func}
def Row.ev[Lk](r:Row)(E:Env):Env:={ E with keep:=r.mark 0,rows:=r.mark 1,arrs:=r.mark 2 }
def Row.BC[Lk](r:Row)(E:Env)(f:Bg (leaves r.its)→Option (Bg (leaves r.outs))):Env:=r.put E (r.call f)
theorem Row.A2(r:Row)(hE:A5 P E)(hf:P.funcs[r.g]? = some fn){f d:Bg (leaves r.its)→Option (Bg (leaves r.outs))}(he:∀ x,f x=d x)
  (hok:r.okF fn=true:=by kernel_rfl) (hd:∀ x,d x=r.self P (r.ev E) fn x:=by intro _;kernel_rfl):A5 P (r.BC E f):=by simp only[Row.okF,AXd,AYj]at hok;obtain⟨hb,hn,⟨ha,hk⟩,hc⟩:=hok;exact Row.AVf hE (Row.AHW (E:=r.ev E) hE hf hb hn ha fun x=>(he x).trans (hd x)) hc
structure Ma{α β:Type}(f:α→β)where
 d:α→β
 h:∀ v,f v=d v
end
end Go.Pev
end
section
namespace Go.Pev
open Go.Proofs
noncomputable section
abbrev ATF:Row:=⟨247,0,0,1,0,none,Gg,[(.ret,BL)],A6,[],[]⟩
def AGD[Lk]:Env:=Env.none.ext 247 true true (Bb 0 1 Gg BL A6 AUr)
theorem ACL:A5 Tryz.prog AGD:=Row.A2 ATF Env.AS8 Tryz.func247 AOp
abbrev ry:Row:=⟨29,0,0,2,0,none,KA,[(.ret,BG)],A6,[(6,[[],[],[],[],[],[],[],[],[]])],[(0,AJS,Hy)]⟩
def vk[Lk]:Env:=ry.BC AGD Ot
theorem vj:A5 Tryz.prog vk:=Row.A2 ry ACL Tryz.func29 eY
abbrev oA:Row:=⟨123,0,0,1,0,none,BL,[(.ret,BG)],A6,[],[]⟩
def uY[Lk]:Env:=oA.BC vk OH
theorem uX:A5 Tryz.prog uY:=Row.A2 oA vj Tryz.func123 cP
abbrev AUd:Row:=⟨173,0,0,2,0,none,Jv,[(.ret,BG)],A6,[],[]⟩
def AU7[Lk]:Env:=AUd.BC uY tin
theorem ARJ:A5 Tryz.prog AU7:=Row.A2 AUd uX Tryz.func173 AL5
abbrev AMA:Row:=⟨268,0,0,3,0,none,im,[(.ret,BL)],A6,[],[]⟩
def ARK[Lk]:Env:=AMA.BC AU7 AMB
theorem ALH:A5 Tryz.prog ARK:=Row.A2 AMA ARJ Tryz.func268 AC2
abbrev n9:Row:=⟨209,0,0,2,0,none,Jv,[(.ret,n8)],Ls,[(5,[[],[],[],[],[],[],[],[],[]])],[]⟩
def uW[Lk]:Env:=n9.BC ARK iT
theorem uV:A5 Tryz.prog uW:=Row.A2 n9 ALH Tryz.func209 cO
abbrev ACz:Row:=⟨170,0,0,1,0,none,BL,[(.ret,ACy)],Vu,[],[(0,ALz,oJ)]⟩
def AFr[Lk]:Env:=ACz.BC uW AC0
theorem ABz:A5 Tryz.prog AFr:=Row.A2 ACz uV Tryz.func170 oK
abbrev rz:Row:=⟨137,0,0,2,0,none,Ie,[(.ret,BL)],A6,[],[(0,AJU,D7)]⟩
def vm[Lk]:Env:=rz.BC AFr SU
theorem vl:A5 Tryz.prog vm:=Row.A2 rz ABz Tryz.func137 ea
abbrev Tv:Row:=⟨231,0,0,2,0,none,Ie,[(.ret,BG)],A6,[],[]⟩
def UO[Lk]:Env:=Tv.BC vm GU
theorem aF:A5 Tryz.prog UO:=Row.A2 Tv vl Tryz.func231 Q2
abbrev AOb:Row:=⟨125,0,0,1,0,none,Oc,[(.ret,BL)],A6,[],[(0,AEK,jz)]⟩
def ARa[Lk]:Env:=AOb.BC UO AOc
theorem ALU:A5 Tryz.prog ARa:=Row.A2 AOb aF Tryz.func125 AEL
abbrev AEt:Row:=⟨219,0,0,2,0,none,ATl,[(.ret,EB)],A6,[],[]⟩
def AGK[Lk]:Env:=AEt.BC ARa sF
theorem ACT:A5 Tryz.prog AGK:=Row.A2 AEt ALU Tryz.func219 Yf
abbrev fM:Row:=⟨149,0,0,1,0,none,AKd,[(.ret,EB)],A6,[],[(0,ABO,ABM),(1,ABN,ABL)]⟩
def S3[Lk]:Env:=fM.BC AGK He
theorem RV:A5 Tryz.prog S3:=Row.A2 fM ACT Tryz.func149 PA
end
end Go.Pev
end
section
namespace Go.Pev
open Go.Proofs
noncomputable section
theorem AHu:Tryz.f207.body.isSome=true:=by kernel_rfl
theorem AHt : (Tryz.f207.name == "runtime.NumGoroutine") = false := by kernel_rfl
theorem AHs:loops (CE Tryz.f207)=0:=by kernel_rfl
def UI[Lk]:Env:=S3.ext 207 false false (CL Tryz.prog S3 {} Tryz.f207)
theorem Zt:A5 Tryz.prog UI:=Env.CR RV (B5 RV Tryz.func207 AHu AHt AHs) (by simp) (by simp)
abbrev MQ:Row:=⟨134,0,0,2,0,some (1,207),MP,[(.ret,BL)],A6,[],[(0,VB,D7)]⟩
def M7[Lk]:Env:=MQ.BC UI LB
theorem RE:A5 Tryz.prog M7:=Row.A2 MQ Zt Tryz.func134 LW
abbrev AOX:Row:=⟨208,0,0,1,0,none,Oc,[(.ret,BG)],A6,[],[(0,AS5,AS4)]⟩
def ARX[Lk]:Env:=AOX.BC M7 once
theorem ALR:A5 Tryz.prog ARX:=Row.A2 AOX RE Tryz.func208 AEE
abbrev n7:Row:=⟨318,0,0,2,0,none,Ie,[(.ret,EB)],A6,[(1,[[],[],[],[],[],[],[],[0],[]])],[]⟩
def Zd[Lk]:Env:=n7.BC ARX Wf
theorem UB:A5 Tryz.prog Zd:=Row.A2 n7 ALR Tryz.func318 cM
theorem AHC:Tryz.f230.body.isSome=true:=by kernel_rfl
theorem AHB : (Tryz.f230.name == "runtime.NumGoroutine") = false := by kernel_rfl
theorem AHA:loops (CE Tryz.f230)=0:=by kernel_rfl
def UD[Lk]:Env:=Zd.ext 230 false false (CL Tryz.prog Zd {} Tryz.f230)
theorem Ze:A5 Tryz.prog UD:=Env.CR UB (B5 UB Tryz.func230 AHC AHB AHA) (by simp) (by simp)
abbrev KD:Row:=⟨229,0,1,2,0,some (1,230),SW,[(.ret,SV)],A6,[],[(0,QN,QM)]⟩
def KT[Lk]:Env:=KD.BC UD Ig
theorem Nr:A5 Tryz.prog KT:=Row.A2 KD Ze Tryz.func229 JM
abbrev oF:Row:=⟨174,0,0,2,0,none,FO,[(.ret,BL)],A6,[],[]⟩
def Zf[Lk]:Env:=oF.BC KT Rf
theorem UC:A5 Tryz.prog Zf:=Row.A2 oF Nr Tryz.func174 cT
theorem AUV:Tryz.f210.body.isSome=true:=by kernel_rfl
theorem AUU : (Tryz.f210.name == "runtime.NumGoroutine") = false := by kernel_rfl
theorem AUT:loops (CE Tryz.f210)=0:=by kernel_rfl
def iF[Lk]:Env:=Zf.ext 210 false false (CL Tryz.prog Zf {} Tryz.f210)
theorem nX:A5 Tryz.prog iF:=Env.CR UC (B5 UC Tryz.func210 AUV AUU AUT) (by simp) (by simp)
abbrev APj:Row:=⟨126,0,0,2,0,none,APi,[(.ret,BG)],A6,[(8,[[],[],[],[],[],[],[],[],[1000003],[],[],[],[],[],[],[],[],[0],[0],[0],[],[0],[0],[0],[2,26],[],[2,26],[2,26],[],[],[],[],[]]),(13,[[],[0],[0],[0],[2],[],[],[],[0],[0],[0],[6],[],[0],[0],[0],[4],[],[],[]]),(3,[[],[],[],[],[],[],[],[],[11],[],[],[],[8,10,12],[]])],[(0,ATq,ATp)]⟩
def ARi[Lk]:Env:=APj.BC iF goes
theorem ALc:A5 Tryz.prog ARi:=Row.A2 APj nX Tryz.func126 AEw
abbrev AOa:Row:=⟨249,0,0,1,0,none,BL,[(.ret,BG)],A6,[],[]⟩
def ARZ[Lk]:Env:=AOa.BC ARi AIo
theorem ALT:A5 Tryz.prog ARZ:=Row.A2 AOa ALc Tryz.func249 jw
abbrev Y_:Row:=⟨189,0,0,2,0,none,Jv,[(.ret,BL)],A6,[],[]⟩
def aG[Lk]:Env:=Y_.BC ARZ Eu
theorem bu:A5 Tryz.prog aG:=Row.A2 Y_ ALT Tryz.func189 Mt
abbrev ACk:Row:=⟨321,0,0,2,0,none,KA,[(.ret,BL)],A6,[(1,[[],[],[],[],[],[],[],[]])],[]⟩
def AFk[Lk]:Env:=ACk.BC aG Cp
theorem ABt:A5 Tryz.prog AFk:=Row.A2 ACk bu Tryz.func321 nr
end
end Go.Pev
end
section
namespace Go.Pev
open Go.Proofs
noncomputable section
abbrev AEa:Row:=⟨248,0,0,1,0,none,j7,[(.ret,BL)],A6,[],[]⟩
def AGC[Lk]:Env:=AEa.BC AFk AEb
theorem ACK:A5 Tryz.prog AGC:=Row.A2 AEa ABt Tryz.func248 rY
abbrev fY:Row:=⟨187,0,0,1,0,none,j7,[(.ret,BL)],A6,[],[]⟩
def iC[Lk]:Env:=fY.BC AGC bitsLen
theorem nU:A5 Tryz.prog iC:=Row.A2 fY ACK Tryz.func187 ZL
abbrev bz:Row:=⟨295,0,1,1,0,none,AGb,[(.ret,AGa)],A6,[(3,[[],[0],[0],[],[0],[0],[],[],[0],[1]]),(2,[[],[0],[0],[],[0],[0],[],[],[0],[1]]),(1,[[],[0],[0],[],[0],[0],[],[],[0],[1]])],[]⟩
def fh[Lk]:Env:=bz.BC iC xorNext
theorem lq:A5 Tryz.prog fh:=Row.A2 bz nU Tryz.func295 WT
abbrev dq:Row:=⟨294,0,0,1,0,none,BL,[(.ret,j7)],A6,[],[]⟩
def gf[Lk]:Env:=dq.BC fh P1
theorem mv:A5 Tryz.prog gf:=Row.A2 dq lq Tryz.func294 Xu
abbrev AO1:Row:=⟨370,0,1,4,0,some (3,321),SM,[(.ret,Ia)],Bx,[(4,[[],[],[],[],[],[],[],[0],[0],[],[],[],[0],[0],[],[],[]]),(6,[[],[],[],[],[],[],[],[],[0],[0],[],[],[0],[0],[0],[1],[0],[1]])],[(0,ATQ,kG),(1,ATP,ATO)]⟩
def ARe[Lk]:Env:=AO1.BC gf AW0
theorem ALY:A5 Tryz.prog ARe:=Row.A2 AO1 mv Tryz.func370 ATR
abbrev ADM:Row:=⟨390,0,1,5,0,some (4,321),I7,[(.ret,Ia)],Bx,[(6,[[],[],[],[],[],[],[],[],[],[],[],[],[0],[0],[],[],[],[],[0],[0],[0],[1],[0],[1]]),(5,[[],[],[],[],[],[0],[0],[],[],[],[],[0],[0],[],[],[]]),(3,[[],[],[],[],[],[],[],[],[],[],[0],[0],[],[],[],[],[],[0],[0],[],[],[]])],[(0,AMY,AMX)]⟩
def AFz[Lk]:Env:=ADM.BC ARe AUf
theorem AB7:A5 Tryz.prog AFz:=Row.A2 ADM ALY Tryz.func390 AMZ
abbrev AEm:Row:=⟨371,0,1,4,0,some (3,321),SM,[(.ret,Ia)],Bx,[(10,[[],[],[],[],[],[],[],[],[],[],[0],[0],[],[],[0],[0],[0],[1],[0],[1]])],[(0,APM,APK),(1,APL,APJ)]⟩
def AGG[Lk]:Env:=AEm.BC AFz AUu
theorem ACP:A5 Tryz.prog AGG:=Row.A2 AEm AB7 Tryz.func371 APN
abbrev tu:Row:=⟨372,0,1,4,0,some (3,321),SM,[(.ret,Ia)],Bx,[(10,[[],[],[],[],[],[],[],[],[],[],[0],[0],[],[],[0],[0],[0],[1],[0],[1]])],[(0,AKw,kG)]⟩
def wh[Lk]:Env:=tu.BC AGG AQl
theorem wg:A5 Tryz.prog wh:=Row.A2 tu ACP Tryz.func372 AKx
abbrev dk:Row:=⟨396,0,2,5,0,some (4,321),AIe,[(.ret,AId)],BO,[(1,[[],[],[],[0],[0],[],[],[0],[0],[],[]])],[]⟩
def ga[Lk]:Env:=dk.BC wh AEB
theorem mq:A5 Tryz.prog ga:=Row.A2 dk wg Tryz.func396 zk
abbrev dw:Row:=⟨392,0,2,6,0,some (5,321),AIu,[(.ret,dv)],A6,[],[]⟩
def gh[Lk]:Env:=dw.BC ga AEN
theorem mz:A5 Tryz.prog gh:=Row.A2 dw mq Tryz.func392 z0
abbrev eG:Row:=⟨391,0,2,4,0,some (3,321),AI1,[(.ret,dv)],A6,[],[]⟩
def gl[Lk]:Env:=eG.BC gh AEQ
theorem m9:A5 Tryz.prog gl:=Row.A2 eG mz Tryz.func391 z7
abbrev qC:Row:=⟨373,0,1,4,0,some (3,321),SM,[(.ret,ANa)],BO,[],[]⟩
def vM[Lk]:Env:=qC.BC gl ANc
theorem vL:A5 Tryz.prog vM:=Row.A2 qC m9 Tryz.func373 AIB
end
end Go.Pev
end
section
namespace Go.Pev
open Go.Proofs
noncomputable section
abbrev AM5:Row:=⟨374,0,1,4,0,some (3,321),SM,[(.ret,Ia)],Bx,[(3,[[],[],[],[],[],[],[0],[0],[],[],[0],[0],[0],[1],[0],[1]])],[(0,ASO,kG)]⟩
def ARM[Lk]:Env:=AM5.BC vM AWn
theorem ALJ:A5 Tryz.prog ARM:=Row.A2 AM5 vL Tryz.func374 ASP
abbrev Xd:Row:=⟨375,0,1,4,0,some (3,321),SM,[(.ret,zJ)],A6,[(11,[[],[],[],[],[],[],[],[],[0],[0],[],[],[0],[0],[0],[1],[0],[1]]),(5,[[],[],[],[],[],[],[],[0],[0],[],[],[],[0],[0],[],[],[],[]]),(17,[[],[],[],[],[],[],[],[],[0],[0],[],[],[0],[0],[0],[1],[0],[1]]),(16,[[],[],[],[0],[0],[],[],[],[0],[0],[],[],[]]),(23,[[],[],[],[],[],[],[],[],[0],[0],[],[],[0],[0],[0],[1],[0],[1]]),(22,[[],[],[],[0],[0],[],[],[],[0],[0],[],[],[]])],[(0,TR,qa),(1,TR,qZ),(2,qc,qY),(3,qb,qX)]⟩
def Zy[Lk]:Env:=Xd.BC ARM qe
theorem bf:A5 Tryz.prog Zy:=Row.A2 Xd ALJ Tryz.func375 qd
abbrev dc:Row:=⟨376,0,1,5,0,some (4,321),I7,[(.ret,AIV)],A6,[(8,[[],[],[],[],[],[],[0],[0],[],[],[0],[0],[0],[1],[0],[1]]),(3,[[],[],[],[],[],[],[],[0],[0],[],[],[0],[0],[],[],[],[]]),(5,[[],[],[],[],[],[],[],[0],[0],[],[],[0],[0],[],[],[]]),(1,[[],[],[],[],[],[],[0],[0],[],[],[0],[0],[0],[1],[0],[1]])],[(0,OU,zV),(1,OU,zU),(2,OU,zS)]⟩
def gW[Lk]:Env:=dc.BC Zy AD7
theorem mh:A5 Tryz.prog gW:=Row.A2 dc bf Tryz.func376 zW
abbrev AD2:Row:=⟨377,0,1,5,0,some (4,321),I7,[(.ret,ASx)],BO,[(3,[[],[],[],[],[],[],[],[0],[0],[],[],[0],[0],[],[],[]]),(5,[[],[],[],[],[],[],[],[0],[0],[],[],[0],[0],[],[],[],[]]),(18,[[],[],[],[],[],[],[0],[0],[],[],[0],[0],[0],[1],[0],[1]]),(13,[[],[],[],[],[],[],[],[0],[0],[],[],[0],[0],[],[],[]]),(15,[[],[],[],[],[],[],[],[0],[0],[],[],[0],[0],[],[],[],[]]),(21,[[],[],[],[],[],[],[0],[0],[],[],[0],[0],[0],[1],[0],[1]]),(10,[[],[],[],[],[],[],[0],[0],[],[],[0],[0],[0],[1],[0],[1]]),(8,[[],[],[],[],[],[],[0],[0],[],[],[0],[0],[0],[1],[0],[1]]),(1,[[],[],[],[],[],[],[0],[0],[],[],[0],[0],[0],[1],[0],[1]])],[(0,L9,AN7),(1,L9,AN6),(2,L9,AN5),(3,L9,AN4),(4,L9,AN3)]⟩
def mc[Lk]:Env:=AD2.BC gW AUo
theorem Zw:A5 Tryz.prog mc:=Row.A2 AD2 mh Tryz.func377 AN8
abbrev yz(self:(List (List Int)×Int×Int×Int×Unit)→Option ((List (List Int)×Unit))):Hints:={ loop:=fun n=>match n with|0=>K0 1 148 ADv ADu (ADt self)|_=>fun _ _ _=>none,fp:=fun n=>match n with|17=>[[],[],[],[],[],[],[],[0],[0],[],[],[0],[0],[],[],[],[]]|_=>[] }
abbrev ji(self:(List (List Int)×Int×Int×Int×Unit)→Option ((List (List Int)×Unit))):Env:=mc.ext 346 false true (Bb 1 5 I7 Ia Bx self)
theorem yy(self:(List (List Int)×Int×Int×Int×Unit)→Option ((List (List Int)×Unit))):∀ v,ADt self v=roundOf Tryz.prog (ji self) (yz self) 1 1 148 (DB Tryz.f346 0) ADv ADu v:=by rintro⟨a0,a1,a2,a3,a4,a5,⟨⟩⟩;kernel_rfl
theorem ASj:Cm (DB Tryz.f346 0) 1=[]:=by kernel_rfl
theorem ASk(self:(List (List Int)×Int×Int×Int×Unit)→Option ((List (List Int)×Unit)))(hE:A5 Tryz.prog (ji self)):I0 Tryz.prog 1 (.loop (DB Tryz.f346 0)) ((yz self).loop 0):=QB hE (yy self) (EU ASj trivial)
theorem ANq(self:(List (List Int)×Int×Int×Int×Unit)→Option ((List (List Int)×Unit))):∀ v,AVm self v=Dp 1 Tryz.prog (ji self) (yz self) Tryz.f346 I7 Ia Bx v:=by rintro⟨a0,a1,a2,a3,⟨⟩⟩;kernel_rfl
theorem AVl:Cm (CE Tryz.f346) 0=[(0,DB Tryz.f346 0)]:=by kernel_rfl
theorem zA:∀ n,BV Tryz.prog 346 (Bb 1 5 I7 Ia Bx (Xa n)):=by
 intro n;induction n with
  |zero=>exact JE fun _=>rfl
  |succ n ih=>have hE:A5 Tryz.prog (ji (Xa n)):=Env.CR Zw ih ((by simp)) (fun _=>Ce rfl rfl);let self:=Xa n;exact H3 hE Tryz.func346 (by kernel_rfl) (by kernel_rfl) rfl (ANq self) (EU AVl ⟨(ASk self hE),trivial⟩)
theorem AIO:BV Tryz.prog 346 (Bb 1 5 I7 Ia Bx ASm):=by have e:ASm=Xa 100:=funext ASl;rw[e];exact zA _
def ARS[Lk]:Env:=mc.VI 346 4 321 (Bb 1 5 I7 Ia Bx ASm)
theorem ALO:A5 Tryz.prog ARS:=Env.Qq Zw AIO (Ce rfl rfl)
abbrev ADD:Row:=⟨320,0,1,2,0,some (1,321),ASE,[(.ret,Ia)],Bx,[],[]⟩
def mH[Lk]:Env:=ADD.BC ARS ADE
theorem Zn:A5 Tryz.prog mH:=Row.A2 ADD ALO Tryz.func320 AML
theorem AL9:Tryz.f172.body.isSome=true:=by kernel_rfl
theorem AL8 : (Tryz.f172.name == "runtime.NumGoroutine") = false := by kernel_rfl
theorem AL7:loops (CE Tryz.f172)=0:=by kernel_rfl
def Zj[Lk]:Env:=mH.ext 172 false false (CL Tryz.prog mH {} Tryz.f172)
theorem bW:A5 Tryz.prog Zj:=Env.CR Zn (B5 Zn Tryz.func172 AL9 AL8 AL7) (by simp) (by simp)
abbrev KF:Row:=⟨134,0,1,2,0,some (1,172),KE,[(.ret,SX)],A6,[],[(0,QP,QO)]⟩
def KU[Lk]:Env:=KF.BC Zj Ih
theorem Ns:A5 Tryz.prog KU:=Row.A2 KF bW Tryz.func134 JN
abbrev AP0:Row:=⟨265,0,0,1,0,none,AWG,[(.ret,EB)],A6,[],[(0,AT6,AE6)]⟩
def ARm[Lk]:Env:=AP0.BC KU ends
theorem ALf:A5 Tryz.prog ARm:=Row.A2 AP0 Ns Tryz.func265 AE7
abbrev AUq:Row:=⟨188,0,0,1,0,none,Oc,[(.ret,BL)],A6,[],[(0,AV4,AV3)]⟩
def AVA[Lk]:Env:=AUq.BC ARm orI
theorem ARW:A5 Tryz.prog AVA:=Row.A2 AUq ALf Tryz.func188 AOU
abbrev rQ:Row:=⟨167,0,0,1,0,none,BL,[(.ret,BG)],A6,[],[]⟩
def vY[Lk]:Env:=rQ.BC AVA Xy
theorem vX:A5 Tryz.prog vY:=Row.A2 rQ ARW Tryz.func167 R_
abbrev AOf:Row:=⟨168,0,0,1,0,none,BL,[(.ret,BL)],A6,[],[]⟩
def ARb[Lk]:Env:=AOf.BC vY j5
theorem ALV:A5 Tryz.prog ARb:=Row.A2 AOf vX Tryz.func168 ATB
end
end Go.Pev
end
section
namespace Go.Pev
open Go.Proofs
noncomputable section
abbrev X7:Row:=⟨169,0,0,2,0,none,X6,[(.ret,BL)],A6,[(1,[[0],[0],[2],[2],[],[0],[0],[2],[2],[],[],[20],[]])],[]⟩
def Z4[Lk]:Env:=X7.BC ARb IW
theorem bj:A5 Tryz.prog Z4:=Row.A2 X7 ALV Tryz.func169 Tf
abbrev rN:Row:=⟨88,0,0,2,0,none,MG,[(.ret,Xx)],A6,[],[(0,AI9,eM)]⟩
def vW[Lk]:Env:=rN.BC Z4 R9
theorem vV:A5 Tryz.prog vW:=Row.A2 rN bj Tryz.func88 R8
abbrev Tw:Row:=⟨30,0,0,2,0,none,G7,[(.ret,EB)],A6,[(14,[[],[],[0],[0],[],[],[0],[0],[],[]]),(13,[[],[],[],[],[],[],[],[],[],[],[],[],[],[],[],[],[],[],[],[0],[0],[],[],[0],[0],[],[]]),(12,[[],[],[],[],[],[],[],[],[],[],[],[]])],[(0,lP,lM),(1,lO,lL),(2,lN,lK)]⟩
def UP[Lk]:Env:=Tw.BC vW Nh
theorem aH:A5 Tryz.prog UP:=Row.A2 Tw vV Tryz.func30 Q5
abbrev ACx:Row:=⟨80,0,0,1,0,none,BL,[(.ret,BL)],A6,[],[(0,ALw,jz)]⟩
def AFq[Lk]:Env:=ACx.BC UP PX
theorem ABy:A5 Tryz.prog AFq:=Row.A2 ACx aH Tryz.func80 ALx
abbrev dM:Row:=⟨28,0,0,1,0,none,Jy,[(.ret,BG)],A6,[(10,[[],[],[],[0],[0],[],[],[],[],[],[4],[4],[],[],[0],[0],[],[],[],[],[],[4],[4],[],[],[0],[0],[],[],[],[],[],[4],[4],[],[],[],[]]),(8,[[4],[4],[],[],[4],[4],[4],[4],[],[],[],[4],[4],[0],[0],[],[],[],[4],[4],[],[],[],[4],[4],[0],[0],[],[],[]])],[(0,yK,yI),(1,yJ,yH)]⟩
def gM[Lk]:Env:=dM.BC AFq HW
theorem mR:A5 Tryz.prog gM:=Row.A2 dM ABy Tryz.func28 F8
abbrev AO7:Row:=⟨307,0,0,2,0,none,Jv,[(.ret,BG)],A6,[],[]⟩
def ARh[Lk]:Env:=AO7.BC gM kJ
theorem ALb:A5 Tryz.prog ARh:=Row.A2 AO7 mR Tryz.func307 AEg
abbrev cU:Row:=⟨358,0,0,2,0,none,Jv,[(.ret,n8)],Ls,[(5,[[],[],[],[],[],[],[],[],[],[],[],[]])],[]⟩
def fq[Lk]:Env:=cU.BC ARh PY
theorem l6:A5 Tryz.prog fq:=Row.A2 cU ALb Tryz.func358 Ws
abbrev AFZ:Row:=⟨310,0,0,3,0,none,im,[(.ret,BL)],A6,[],[]⟩
def AGY[Lk]:Env:=AFZ.BC fq fc
theorem ACh:A5 Tryz.prog AGY:=Row.A2 AFZ l6 Tryz.func310 uE
abbrev rM:Row:=⟨215,0,0,1,0,none,BL,[(.ret,ACy)],Vu,[],[(0,AI7,oJ)]⟩
def vU[Lk]:Env:=rM.BC AGY Xw
theorem vT:A5 Tryz.prog vU:=Row.A2 rM ACh Tryz.func215 eL
abbrev W1:Row:=⟨359,0,0,3,0,none,im,[(.ret,BG)],A6,[],[]⟩
def Zk[Lk]:Env:=W1.BC vU Pb
theorem bX:A5 Tryz.prog Zk:=Row.A2 W1 vT Tryz.func359 TC
abbrev oE:Row:=⟨340,0,0,2,0,none,APi,[(.ret,BG)],A6,[(7,[[],[],[0],[0],[],[],[],[],[0],[],[0],[0],[],[],[],[],[0],[],[0],[0],[],[],[]])],[(0,AG9,AG6),(1,AG8,AG5),(2,AG7,AG4)]⟩
def uc[Lk]:Env:=oE.BC Zk iW
theorem ub:A5 Tryz.prog uc:=Row.A2 oE bX Tryz.func340 cS
abbrev da:Row:=⟨217,0,0,2,0,none,Ie,[(.ret,BL)],A6,[],[(0,yp,D7)]⟩
def gT[Lk]:Env:=da.BC uc Kr
theorem mZ:A5 Tryz.prog gT:=Row.A2 da ub Tryz.func217 XX
end
end Go.Pev
end
section
namespace Go.Pev
open Go.Proofs
noncomputable section
abbrev dP:Row:=⟨146,0,0,1,0,none,Oc,[(.ret,BG)],A6,[(6,[[],[],[],[],[],[],[],[],[],[],[],[],[],[],[],[],[],[],[],[],[],[],[]])],[(0,yP,OO)]⟩
def gO[Lk]:Env:=dP.BC gT I'
theorem mT:A5 Tryz.prog gO:=Row.A2 dP mZ Tryz.func146 XP
abbrev sM:Row:=⟨309,0,0,2,0,none,Ie,[(.ret,Qk)],BO,[(4,[[],[],[],[],[17],[],[],[],[19],[],[]])],[]⟩
def vu[Lk]:Env:=sM.BC gO Sb
theorem vr:A5 Tryz.prog vu:=Row.A2 sM mT Tryz.func309 ep
abbrev dX:Row:=⟨341,0,0,1,0,none,Oc,[(.ret,EB)],A6,[],[(0,AEK,yl)]⟩
def gR[Lk]:Env:=dX.BC vu Ps
theorem mX:A5 Tryz.prog gR:=Row.A2 dX vr Tryz.func341 XU
abbrev eO:Row:=⟨154,0,0,2,0,none,AJG,[(.ret,BG)],A6,[(6,[[],[],[],[],[],[],[],[],[],[]])],[(0,AAG,Hy)]⟩
def gp[Lk]:Env:=eO.BC gR QC
theorem nE:A5 Tryz.prog gp:=Row.A2 eO mX Tryz.func154 X1
abbrev dO:Row:=⟨306,0,0,1,0,none,dN,[(.ret,BG)],A6,[(16,[[],[],[],[],[0],[0],[]])],[(0,yO,yM),(1,yN,yL)]⟩
def gN[Lk]:Env:=dO.BC gp Pn
theorem mS:A5 Tryz.prog gN:=Row.A2 dO nE Tryz.func306 XO
abbrev dZ:Row:=⟨308,0,0,2,0,none,FO,[(.ret,BL)],A6,[],[(0,yo,D7)]⟩
def gS[Lk]:Env:=dZ.BC gN Kq
theorem mY:A5 Tryz.prog gS:=Row.A2 dZ mS Tryz.func308 XW
abbrev ADf:Row:=⟨312,0,0,2,0,none,ASX,[(.ret,ADe)],A6,[(3,[[],[],[],[],[],[],[],[],[],[],[],[],[0],[0],[],[]]),(5,[[],[],[],[],[3],[],[0],[5,6],[],[],[],[9],[]])],[(0,ANI,ANH)]⟩
def AF6[Lk]:Env:=ADf.BC gS pw
theorem ACE:A5 Tryz.prog AF6:=Row.A2 ADf mY Tryz.func312 pt
abbrev S7:Row:=⟨311,0,0,2,0,none,nn,[(.ret,ADe)],A6,[(1,[[],[],[],[],[1],[],[],[],[],[3],[]])],[]⟩
def T9[Lk]:Env:=S7.BC AF6 Fw
theorem Za:A5 Tryz.prog T9:=Row.A2 S7 ACE Tryz.func311 PN
abbrev rX:Row:=⟨261,0,0,3,0,none,X3,[(.ret,rW)],Vu,[(13,[[0],[0],[],[],[],[],[102],[],[110,100],[],[3],[]]),(11,[[],[0],[0],[],[],[],[],[87,96],[],[60],[99,60],[]]),(7,[[0],[],[],[0],[],[],[],[]]),(5,[[0],[],[],[0],[],[],[],[]])],[]⟩
def vc[Lk]:Env:=rX.BC T9 Of
theorem vb:A5 Tryz.prog vc:=Row.A2 rX Za Tryz.func261 J9
abbrev ck:Row:=⟨260,0,0,2,0,none,Jw,[(.ret,BL)],A6,[(6,[[],[],[],[],[],[],[],[],[],[],[],[],[0],[0],[],[],[],[],[],[],[],[],[],[],[],[],[],[],[],[],[0],[0],[],[]])],[(0,xX,D7)]⟩
def fy[Lk]:Env:=ck.BC vc Vx
theorem mE:A5 Tryz.prog fy:=Row.A2 ck vb Tryz.func260 Ww
abbrev eP:Row:=⟨216,0,0,2,0,none,Jw,[(.ret,SC)],DF,[(8,[[0],[],[],[],[],[],[],[],[],[],[],[],[],[],[],[],[15],[]])],[(0,AAJ,AAI)]⟩
def gq[Lk]:Env:=eP.BC fy WD
theorem nF:A5 Tryz.prog gq:=Row.A2 eP mE Tryz.func216 X2
abbrev AOY:Row:=⟨145,0,0,2,0,none,G7,[(.ret,FO)],BO,[],[]⟩
def ARY[Lk]:Env:=AOY.BC gq AS6
theorem ALS:A5 Tryz.prog ARY:=Row.A2 AOY nF Tryz.func145 AEJ
end
end Go.Pev
end
section
namespace Go.Pev
open Go.Proofs
noncomputable section
abbrev cR:Row:=⟨32,0,0,2,0,none,MG,[(.ret,Xx)],A6,[(6,[[],[0],[0],[],[],[],[],[0],[0],[],[],[],[],[],[],[3,4],[]])],[(0,xJ,eM)]⟩
def fm[Lk]:Env:=cR.BC ARY Vt
theorem l5:A5 Tryz.prog fm:=Row.A2 cR ALS Tryz.func32 Wm
abbrev Yn:Row:=⟨71,0,0,2,0,none,MG,[(.ret,FO)],BO,[(3,[[0],[0],[0],[],[],[12],[],[],[3],[]])],[]⟩
def Z9[Lk]:Env:=Yn.BC fm Qm
theorem bo:A5 Tryz.prog Z9:=Row.A2 Yn l5 Tryz.func71 Tn
theorem AQW : (Tryz.f131.name == "runtime.NumGoroutine") = false := by kernel_rfl
theorem lI:Gb Tryz.prog Tryz.f131 36 3 (.int .i64) where
 body:=by kernel_rfl
 nt:=by kernel_rfl
 res:=by kernel_rfl
 d:=⟨by kernel_rfl,by kernel_rfl,by kernel_rfl,by kernel_rfl,by kernel_rfl,by kernel_rfl,by kernel_rfl,by kernel_rfl⟩
 g:=⟨by kernel_rfl,by kernel_rfl,by kernel_rfl,by kernel_rfl,by kernel_rfl,by kernel_rfl,by kernel_rfl,by kernel_rfl⟩
 o00:=by kernel_rfl
 o10:=by kernel_rfl
 o11:=by kernel_rfl
 o20:=by kernel_rfl
 o30:=by kernel_rfl
 o31:=by kernel_rfl
 o32:=by kernel_rfl
 o33:=by kernel_rfl
 sl:=by kernel_rfl
 z:=by kernel_rfl
 by1:=by kernel_rfl
def wR[Lk]:Env:=Z9.ext 131 true true (D9 3 (.int .i64))
theorem wQ:A5 Tryz.prog wR:=Env.CR bo (Mu lI Tryz.func131 AQW) (fun _=>CJ _ _) (fun _=>(CJ _ _).AHE)
abbrev tP:Row:=⟨133,0,0,2,0,none,tO,[(.ret,Gg)],A6,[],[]⟩
def wL[Lk]:Env:=tP.BC wR Sk
theorem wK:A5 Tryz.prog wL:=Row.A2 tP wQ Tryz.func133 Sj
abbrev ALo:Row:=⟨211,0,0,1,0,none,Gg,[(.ret,BL)],A6,[],[]⟩
def ARG[Lk]:Env:=ALo.BC wL AGw
theorem ALF:A5 Tryz.prog ARG:=Row.A2 ALo wK Tryz.func211 ACs
abbrev fS:Row:=⟨132,0,0,1,0,none,Gg,[(.ret,BL)],A6,[],[]⟩
def hY[Lk]:Env:=fS.BC ARG WL
theorem nR:A5 Tryz.prog hY:=Row.A2 fS ALF Tryz.func132 ZD
abbrev n5:Row:=⟨130,0,0,1,0,none,BL,[(.ret,BG)],A6,[],[]⟩
def Zb[Lk]:Env:=n5.BC hY iR
theorem T_:A5 Tryz.prog Zb:=Row.A2 n5 nR Tryz.func130 cK
theorem xF:Tryz.f129.body.isSome=true:=by kernel_rfl
theorem xE : (Tryz.f129.name == "runtime.NumGoroutine") = false := by kernel_rfl
theorem xD:loops (CE Tryz.f129)=0:=by kernel_rfl
def RC[Lk]:Env:=Zb.ext 129 false false (CL Tryz.prog Zb {} Tryz.f129)
theorem VW:A5 Tryz.prog RC:=Env.CR T_ (B5 T_ Tryz.func129 xF xE xD) (by simp) (by simp)
abbrev N1:Row:=⟨134,0,0,2,0,some (1,129),N0,[(.ret,BL)],A6,[],[(0,YY,D7)]⟩
def OC[Lk]:Env:=N1.BC RC MO
theorem Sy:A5 Tryz.prog OC:=Row.A2 N1 VW Tryz.func134 MN
abbrev S9:Row:=⟨59,0,0,2,0,none,S8,[(.ret,EB)],A6,[],[(0,iS,PS)]⟩
def UA[Lk]:Env:=S9.BC OC NJ
theorem Zc:A5 Tryz.prog UA:=Row.A2 S9 Sy Tryz.func59 PT
abbrev AQy:Row:=⟨148,0,0,2,0,none,tO,[(.ret,Gg)],A6,[],[]⟩
def ARq[Lk]:Env:=AQy.BC UA AUP
theorem ALi:A5 Tryz.prog ARq:=Row.A2 AQy Zc Tryz.func148 AFV
abbrev AFR:Row:=⟨218,0,0,2,0,none,AUJ,[(.ret,Gg)],A6,[],[]⟩
def AGU[Lk]:Env:=AFR.BC ARq AFS
theorem ACd:A5 Tryz.prog AGU:=Row.A2 AFR ALi Tryz.func218 uB
end
end Go.Pev
end
section
namespace Go.Pev
open Go.Proofs
noncomputable section
abbrev Ye:Row:=⟨147,0,0,1,0,none,Gg,[(.ret,BL)],A6,[],[(0,sC,jz)]⟩
def Z7[Lk]:Env:=Ye.BC AGU Qf
theorem bm:A5 Tryz.prog Z7:=Row.A2 Ye ACd Tryz.func147 Tl
abbrev Tk:Row:=⟨73,0,0,2,0,none,S8,[(.ret,EB)],A6,[],[(0,kQ,PS)]⟩
def UK[Lk]:Env:=Tk.BC Z7 Na
theorem Z6:A5 Tryz.prog UK:=Row.A2 Tk bm Tryz.func73 Qe
abbrev fX:Row:=⟨72,0,0,2,0,none,KA,[(.ret,fW)],Sq,[],[(0,ABh,ABd),(1,ABg,ABc),(2,ABf,ABb),(3,ABe,ABa)]⟩
def iB[Lk]:Env:=fX.BC UK WN
theorem nT:A5 Tryz.prog iB:=Row.A2 fX Z6 Tryz.func72 ZH
abbrev pN:Row:=⟨76,0,0,2,0,none,AMn,[(.ret,BG)],A6,[],[]⟩
def Zs[Lk]:Env:=pN.BC iB jO
theorem UH:A5 Tryz.prog Zs:=Row.A2 pN nT Tryz.func76 dE
theorem ATo:Tryz.f191.body.isSome=true:=by kernel_rfl
theorem ATn : (Tryz.f191.name == "runtime.NumGoroutine") = false := by kernel_rfl
theorem ATm:loops (CE Tryz.f191)=0:=by kernel_rfl
def gz[Lk]:Env:=Zs.ext 191 false false (CL Tryz.prog Zs {} Tryz.f191)
theorem nJ:A5 Tryz.prog gz:=Env.CR UH (B5 UH Tryz.func191 ATo ATn ATm) (by simp) (by simp)
abbrev QZ:Row:=⟨225,0,3,2,0,some (1,191),QX,[(.ret,kO)],A6,[],[(0,ay,aw)]⟩
def RN[Lk]:Env:=QZ.BC gz O2
theorem VZ:A5 Tryz.prog RN:=Row.A2 QZ nJ Tryz.func225 az
abbrev Yj:Row:=⟨108,0,0,2,0,none,AAW,[(.ret,BL)],A6,[(1,[[0],[0],[2],[2],[],[0],[0],[2],[2],[],[],[20],[]])],[]⟩
def Z8[Lk]:Env:=Yj.BC RN Bk
theorem bn:A5 Tryz.prog Z8:=Row.A2 Yj VZ Tryz.func108 sK
abbrev AO6:Row:=⟨285,0,1,4,0,some (3,108),SO,[(.ret,Ic)],Bx,[(4,[[],[],[],[],[],[],[],[0],[0],[],[],[],[0],[0],[],[],[]]),(6,[[],[],[],[],[],[],[],[],[0],[0],[],[],[0],[0],[0],[1],[0],[1]])],[(0,ATc,kI),(1,ATb,ATa)]⟩
def ARg[Lk]:Env:=AO6.BC Z8 AW1
theorem ALa:A5 Tryz.prog ARg:=Row.A2 AO6 bn Tryz.func285 ATd
abbrev ADQ:Row:=⟨329,0,1,5,0,some (4,108),I9,[(.ret,Ic)],Bx,[(6,[[],[],[],[],[],[],[],[],[],[],[],[],[0],[0],[],[],[],[],[0],[0],[0],[1],[0],[1]]),(5,[[],[],[],[],[],[0],[0],[],[],[],[],[0],[0],[],[],[]]),(3,[[],[],[],[],[],[],[],[],[],[],[0],[0],[],[],[],[],[],[0],[0],[],[],[]])],[(0,AMg,AMf)]⟩
def AF1[Lk]:Env:=ADQ.BC ARg AUg
theorem AB9:A5 Tryz.prog AF1:=Row.A2 ADQ ALa Tryz.func329 AMh
abbrev AEp:Row:=⟨286,0,1,4,0,some (3,108),SO,[(.ret,Ic)],Bx,[(10,[[],[],[],[],[],[],[],[],[],[],[0],[0],[],[],[0],[0],[0],[1],[0],[1]])],[(0,APa,APY),(1,APZ,APX)]⟩
def AGI[Lk]:Env:=AEp.BC AF1 AUv
theorem ACR:A5 Tryz.prog AGI:=Row.A2 AEp AB9 Tryz.func286 APb
abbrev uA:Row:=⟨287,0,1,4,0,some (3,108),SO,[(.ret,Ic)],Bx,[(10,[[],[],[],[],[],[],[],[],[],[],[0],[0],[],[],[0],[0],[0],[1],[0],[1]])],[(0,AK2,kI)]⟩
def wm[Lk]:Env:=uA.BC AGI AQn
theorem wk:A5 Tryz.prog wm:=Row.A2 uA ACR Tryz.func287 AK3
abbrev dp:Row:=⟨353,0,2,5,0,some (4,108),AIj,[(.ret,AIi)],BO,[(1,[[],[],[],[0],[0],[],[],[0],[0],[],[]])],[]⟩
def gd[Lk]:Env:=dp.BC wm AEC
theorem mu:A5 Tryz.prog gd:=Row.A2 dp wk Tryz.func353 zn
end
end Go.Pev
end
section
namespace Go.Pev
open Go.Proofs
noncomputable section
abbrev eD:Row:=⟨331,0,2,6,0,some (5,108),AIx,[(.ret,eB)],A6,[],[]⟩
def gj[Lk]:Env:=eD.BC gd AEO
theorem m7:A5 Tryz.prog gj:=Row.A2 eD mu Tryz.func331 z5
abbrev eK:Row:=⟨330,0,2,4,0,some (3,108),AI4,[(.ret,eB)],A6,[],[]⟩
def gn[Lk]:Env:=eK.BC gj AER
theorem nD:A5 Tryz.prog gn:=Row.A2 eK m7 Tryz.func330 AAA
abbrev qF:Row:=⟨288,0,1,4,0,some (3,108),SO,[(.ret,ANe)],BO,[],[]⟩
def vQ[Lk]:Env:=qF.BC gn ANg
theorem vP:A5 Tryz.prog vQ:=Row.A2 qF nD Tryz.func288 AIE
abbrev AM9:Row:=⟨289,0,1,4,0,some (3,108),SO,[(.ret,Ic)],Bx,[(3,[[],[],[],[],[],[],[0],[0],[],[],[0],[0],[0],[1],[0],[1]])],[(0,ASU,kI)]⟩
def ARO[Lk]:Env:=AM9.BC vQ AWo
theorem ALL:A5 Tryz.prog ARO:=Row.A2 AM9 vP Tryz.func289 ASV
abbrev Xh:Row:=⟨290,0,1,4,0,some (3,108),SO,[(.ret,zL)],A6,[(11,[[],[],[],[],[],[],[],[],[0],[0],[],[],[0],[0],[0],[1],[0],[1]]),(5,[[],[],[],[],[],[],[],[0],[0],[],[],[],[0],[0],[],[],[],[]]),(17,[[],[],[],[],[],[],[],[],[0],[0],[],[],[0],[0],[0],[1],[0],[1]]),(16,[[],[],[],[0],[0],[],[],[],[0],[0],[],[],[]]),(23,[[],[],[],[],[],[],[],[],[0],[0],[],[],[0],[0],[0],[1],[0],[1]]),(22,[[],[],[],[0],[0],[],[],[],[0],[0],[],[],[]])],[(0,TW,qu),(1,TW,qt),(2,qw,qs),(3,qv,qq)]⟩
def Z0[Lk]:Env:=Xh.BC ARO qy
theorem bh:A5 Tryz.prog Z0:=Row.A2 Xh ALL Tryz.func290 qx
abbrev dg:Row:=⟨291,0,1,5,0,some (4,108),I9,[(.ret,AIX)],A6,[(8,[[],[],[],[],[],[],[0],[0],[],[],[0],[0],[0],[1],[0],[1]]),(3,[[],[],[],[],[],[],[],[0],[0],[],[],[0],[0],[],[],[],[]]),(5,[[],[],[],[],[],[],[],[0],[0],[],[],[0],[0],[],[],[]]),(1,[[],[],[],[],[],[],[0],[0],[],[],[0],[0],[0],[1],[0],[1]])],[(0,OZ,zh),(1,OZ,zg),(2,OZ,zf)]⟩
def gY[Lk]:Env:=dg.BC Z0 AD8
theorem mj:A5 Tryz.prog gY:=Row.A2 dg bh Tryz.func291 zi
abbrev AD9:Row:=⟨292,0,1,5,0,some (4,108),I9,[(.ret,AS0)],BO,[(3,[[],[],[],[],[],[],[],[0],[0],[],[],[0],[0],[],[],[]]),(5,[[],[],[],[],[],[],[],[0],[0],[],[],[0],[0],[],[],[],[]]),(18,[[],[],[],[],[],[],[0],[0],[],[],[0],[0],[0],[1],[0],[1]]),(13,[[],[],[],[],[],[],[],[0],[0],[],[],[0],[0],[],[],[]]),(15,[[],[],[],[],[],[],[],[0],[0],[],[],[0],[0],[],[],[],[]]),(21,[[],[],[],[],[],[],[0],[0],[],[],[0],[0],[0],[1],[0],[1]]),(10,[[],[],[],[],[],[],[0],[0],[],[],[0],[0],[0],[1],[0],[1]]),(8,[[],[],[],[],[],[],[0],[0],[],[],[0],[0],[0],[1],[0],[1]]),(1,[[],[],[],[],[],[],[0],[0],[],[],[0],[0],[0],[1],[0],[1]])],[(0,MC,AOP),(1,MC,AOO),(2,MC,AON),(3,MC,AOM),(4,MC,AOL)]⟩
def ml[Lk]:Env:=AD9.BC gY AUp
theorem Z2:A5 Tryz.prog ml:=Row.A2 AD9 mj Tryz.func292 AOQ
abbrev zF(self:(List (Int×Int×Unit)×Int×Int×Int×Unit)→Option ((List (Int×Int×Unit)×Unit))):Hints:={ loop:=fun n=>match n with|0=>K0 1 148 AD0 ADz (ADy self)|_=>fun _ _ _=>none,fp:=fun n=>match n with|17=>[[],[],[],[],[],[],[],[0],[0],[],[],[0],[0],[],[],[],[]]|_=>[] }
abbrev jr(self:(List (Int×Int×Unit)×Int×Int×Int×Unit)→Option ((List (Int×Int×Unit)×Unit))):Env:=ml.ext 237 false true (Bb 1 5 I9 Ic Bx self)
theorem zE(self:(List (Int×Int×Unit)×Int×Int×Int×Unit)→Option ((List (Int×Int×Unit)×Unit))):∀ v,ADy self v=roundOf Tryz.prog (jr self) (zF self) 1 1 148 (DB Tryz.f237 0) AD0 ADz v:=by rintro⟨a0,a1,a2,a3,a4,a5,⟨⟩⟩;kernel_rfl
theorem ASr:Cm (DB Tryz.f237 0) 1=[]:=by kernel_rfl
theorem ASs(self:(List (Int×Int×Unit)×Int×Int×Int×Unit)→Option ((List (Int×Int×Unit)×Unit)))(hE:A5 Tryz.prog (jr self)):I0 Tryz.prog 1 (.loop (DB Tryz.f237 0)) ((zF self).loop 0):=QB hE (zE self) (EU ASr trivial)
theorem ANw(self:(List (Int×Int×Unit)×Int×Int×Int×Unit)→Option ((List (Int×Int×Unit)×Unit))):∀ v,AVp self v=Dp 1 Tryz.prog (jr self) (zF self) Tryz.f237 I9 Ic Bx v:=by rintro⟨a0,a1,a2,a3,⟨⟩⟩;kernel_rfl
theorem AVo:Cm (CE Tryz.f237) 0=[(0,DB Tryz.f237 0)]:=by kernel_rfl
theorem zG:∀ n,BV Tryz.prog 237 (Bb 1 5 I9 Ic Bx (Xb n)):=by
 intro n;induction n with
  |zero=>exact JE fun _=>rfl
  |succ n ih=>have hE:A5 Tryz.prog (jr (Xb n)):=Env.CR Z2 ih ((by simp)) (fun _=>Ce rfl rfl);let self:=Xb n;exact H3 hE Tryz.func237 (by kernel_rfl) (by kernel_rfl) rfl (ANw self) (EU AVo ⟨(ASs self hE),trivial⟩)
theorem AIR:BV Tryz.prog 237 (Bb 1 5 I9 Ic Bx ASu):=by have e:ASu=Xb 100:=funext ASt;rw[e];exact zG _
def ARU[Lk]:Env:=ml.VI 237 4 108 (Bb 1 5 I9 Ic Bx ASu)
theorem ALQ:A5 Tryz.prog ARU:=Env.Qq Z2 AIR (Ce rfl rfl)
abbrev ADH:Row:=⟨184,0,1,2,0,some (1,108),ASG,[(.ret,Ic)],Bx,[],[]⟩
def AFw[Lk]:Env:=ADH.BC ARU AMQ
theorem AB4:A5 Tryz.prog AFw:=Row.A2 ADH ALQ Tryz.func184 AMP
abbrev ACm:Row:=⟨161,0,0,1,0,none,BL,[(.ret,BG)],A6,[],[]⟩
def AFl[Lk]:Env:=ACm.BC AFw cE
theorem ABu:A5 Tryz.prog AFl:=Row.A2 ACm AB4 Tryz.func161 ALm
abbrev nk:Row:=⟨164,0,0,1,0,none,BL,[(.ret,BG)],A6,[],[]⟩
def ZZ[Lk]:Env:=nk.BC AFl wz
theorem T8:A5 Tryz.prog ZZ:=Row.A2 nk ABu Tryz.func164 AGm
theorem AGi:Tryz.f160.body.isSome=true:=by kernel_rfl
theorem AGh : (Tryz.f160.name == "runtime.NumGoroutine") = false := by kernel_rfl
theorem AGg:loops (CE Tryz.f160)=0:=by kernel_rfl
end
end Go.Pev
end
section
namespace Go.Pev
open Go.Proofs
noncomputable section
theorem AGf:Tryz.f163.body.isSome=true:=by kernel_rfl
theorem AGe : (Tryz.f163.name == "runtime.NumGoroutine") = false := by kernel_rfl
theorem AGd:loops (CE Tryz.f163)=0:=by kernel_rfl
def T7[Lk]:Env:=ZZ.ext 160 false false (CL Tryz.prog ZZ {} Tryz.f160)
theorem ZY:A5 Tryz.prog T7:=Env.CR T8 (B5 T8 Tryz.func160 AGi AGh AGg) (by simp) (by simp)
abbrev QW:Row:=⟨225,0,0,2,0,some (1,160),QU,[(.ret,BL)],A6,[],[(0,ar,D7)]⟩
def RL[Lk]:Env:=QW.BC T7 O1
theorem VY:A5 Tryz.prog RL:=Row.A2 QW ZY Tryz.func225 au
abbrev N8:Row:=⟨162,0,0,2,0,some (1,160),QU,[(.ret,BG)],A6,[],[]⟩
def Jp[Lk]:Env:=N8.BC RL JZ
theorem KV:A5 Tryz.prog Jp:=Row.A2 N8 VY Tryz.func162 Y7
def T6[Lk]:Env:=Jp.ext 163 false false (CL Tryz.prog Jp {} Tryz.f163)
theorem ZX:A5 Tryz.prog T6:=Env.CR KV (B5 KV Tryz.func163 AGf AGe AGd) (by simp) (by simp)
abbrev Qc:Row:=⟨226,0,0,2,0,some (1,163),Qa,[(.ret,BL)],A6,[],[(0,bB,D7)]⟩
def RO[Lk]:Env:=Qc.BC T6 O3
theorem Vo:A5 Tryz.prog RO:=Row.A2 Qc ZX Tryz.func226 bC
abbrev N_:Row:=⟨165,0,0,2,0,some (1,163),Qa,[(.ret,BG)],A6,[],[]⟩
def OE[Lk]:Env:=N_.BC RO Mr
theorem S1:A5 Tryz.prog OE:=Row.A2 N_ Vo Tryz.func165 Y8
abbrev nh:Row:=⟨81,0,0,1,0,none,nd,[(.ret,BG)],A6,[],[]⟩
def uU[Lk]:Env:=nh.BC OE wx
theorem uT:A5 Tryz.prog uU:=Row.A2 nh S1 Tryz.func81 AGc
abbrev uJ:Row:=⟨197,0,0,1,0,none,AQ2,[(.ret,EB)],A6,[],[]⟩
def wq[Lk]:Env:=uJ.BC uU ABp
theorem wo:A5 Tryz.prog wq:=Row.A2 uJ uT Tryz.func197 AK7
abbrev AFU:Row:=⟨114,0,0,1,0,none,nd,[(.ret,EB)],A6,[],[(0,AQv,AQt),(1,AQu,AQs)]⟩
def AGV[Lk]:Env:=AFU.BC wq AQx
theorem ACe:A5 Tryz.prog AGV:=Row.A2 AFU wo Tryz.func114 AQw
abbrev AFH:Row:=⟨182,0,0,1,0,none,BL,[(.ret,BG)],A6,[],[]⟩
def AGP[Lk]:Env:=AFH.BC AGV AFI
theorem ACY:A5 Tryz.prog AGP:=Row.A2 AFH ACe Tryz.func182 AQE
abbrev AQC:Row:=⟨99,0,0,1,0,none,AQA,[(.ret,AWL)],BO,[],[]⟩
def ARn[Lk]:Env:=AQC.BC AGP AWM
theorem ALg:A5 Tryz.prog ARn:=Row.A2 AQC ACY Tryz.func99 AT9
abbrev AFK:Row:=⟨101,0,0,1,0,none,Gg,[(.ret,AQA)],A6,[],[]⟩
def AGQ[Lk]:Env:=AFK.BC ARn AQI
theorem ACZ:A5 Tryz.prog AGQ:=Row.A2 AFK ALg Tryz.func101 AQH
abbrev fJ:Row:=⟨236,0,0,1,0,none,fH,[(.ret,AKA)],A6,[],[(0,AA2,AA1)]⟩
def hO[Lk]:Env:=fJ.BC AGQ kv
theorem nO:A5 Tryz.prog hO:=Row.A2 fJ ACZ Tryz.func236 AA3
end
end Go.Pev
end
section
namespace Go.Pev
open Go.Proofs
noncomputable section
abbrev dK:Row:=⟨279,0,0,1,0,none,BL,[(.ret,BL)],A6,[],[]⟩
def gK[Lk]:Env:=dK.BC hO Vz
theorem mP:A5 Tryz.prog gK:=Row.A2 dK nO Tryz.func279 yF
abbrev pU:Row:=⟨352,0,0,2,0,none,Jv,[(.ret,BG)],A6,[],[]⟩
def u5[Lk]:Env:=pU.BC gK xz
theorem u0:A5 Tryz.prog u5:=Row.A2 pU mP Tryz.func352 AHo
abbrev pk:Row:=⟨328,0,0,3,0,none,ANC,[(.ret,Gg)],A6,[],[]⟩
def vC[Lk]:Env:=pk.BC u5 jY
theorem vB:A5 Tryz.prog vC:=Row.A2 pk u0 Tryz.func328 AH0
abbrev ADZ:Row:=⟨282,0,0,2,0,none,Ie,[(.ret,BG)],A6,[],[(0,AM1,AM0)]⟩
def AF4[Lk]:Env:=ADZ.BC vC AM3
theorem ACC:A5 Tryz.prog AF4:=Row.A2 ADZ vB Tryz.func282 AM2
abbrev AUj:Row:=⟨281,0,0,4,0,none,AWp,[(.ret,EB)],A6,[(10,[[],[],[],[0],[0],[],[],[0],[0],[],[0],[1]])],[(0,AVb,AVY),(1,AVa,AVX),(2,AVZ,AVW)]⟩
def AU8[Lk]:Env:=AUj.BC AF4 rby
theorem ARP:A5 Tryz.prog AU8:=Row.A2 AUj ACC Tryz.func281 AVc
abbrev TB:Row:=⟨177,0,0,2,0,none,Jv,[(.ret,BG)],A6,[],[]⟩
def UE[Lk]:Env:=TB.BC AU8 NM
theorem Zi:A5 Tryz.prog UE:=Row.A2 TB ARP Tryz.func177 ig
abbrev cb:Row:=⟨198,0,0,1,0,none,AHG,[(.ret,BG)],A6,[],[(0,xQ,OO)]⟩
def fv[Lk]:Env:=cb.BC UE Vv
theorem l9:A5 Tryz.prog fv:=Row.A2 cb Zi Tryz.func198 xR
abbrev cZ:Row:=⟨304,0,0,2,0,none,Ju,[(.ret,BL)],A6,[],[]⟩
def fu[Lk]:Env:=cZ.BC fv PZ
theorem l8:A5 Tryz.prog fu:=Row.A2 cZ l9 Tryz.func304 xO
abbrev cX:Row:=⟨305,0,0,1,0,none,AHF,[(.ret,BL)],A6,[],[]⟩
def ft[Lk]:Env:=cX.BC fu NL
theorem l7:A5 Tryz.prog ft:=Row.A2 cX l8 Tryz.func305 xN
abbrev cf:Row:=⟨257,0,0,2,0,none,Ju,[(.ret,BG)],A6,[(1,[[0],[],[],[],[],[0],[0],[],[],[],[],[0],[0],[],[],[]])],[]⟩
def fw[Lk]:Env:=cf.BC ft Vw
theorem mC:A5 Tryz.prog fw:=Row.A2 cf l7 Tryz.func257 xT
abbrev cj:Row:=⟨95,0,0,2,0,none,Jv,[(.ret,AHI)],Sq,[],[]⟩
def fx[Lk]:Env:=cj.BC fw ij
theorem mD:A5 Tryz.prog fx:=Row.A2 cj mC Tryz.func95 xW
theorem AKg : (Tryz.f355.name == "runtime.NumGoroutine") = false := by kernel_rfl
theorem bO:Gb Tryz.prog Tryz.f355 111 212 (.prod (.int .i64) (.prod (.int .i64) (.prod (.int .i64) (.prod (.int .i64) .unit)))) where
 body:=by kernel_rfl
 nt:=by kernel_rfl
 res:=by kernel_rfl
 d:=⟨by kernel_rfl,by kernel_rfl,by kernel_rfl,by kernel_rfl,by kernel_rfl,by kernel_rfl,by kernel_rfl,by kernel_rfl⟩
 g:=⟨by kernel_rfl,by kernel_rfl,by kernel_rfl,by kernel_rfl,by kernel_rfl,by kernel_rfl,by kernel_rfl,by kernel_rfl⟩
 o00:=by kernel_rfl
 o10:=by kernel_rfl
 o11:=by kernel_rfl
 o20:=by kernel_rfl
 o30:=by kernel_rfl
 o31:=by kernel_rfl
 o32:=by kernel_rfl
 o33:=by kernel_rfl
 sl:=by kernel_rfl
 z:=by kernel_rfl
 by1:=by kernel_rfl
def hU[Lk]:Env:=fx.ext 355 true true (D9 212 (.prod (.int .i64) (.prod (.int .i64) (.prod (.int .i64) (.prod (.int .i64) .unit)))))
theorem nQ:A5 Tryz.prog hU:=Env.CR mD (Mu bO Tryz.func355 AKg) (fun _=>CJ _ _) (fun _=>(CJ _ _).AHE)
end
end Go.Pev
end
section
namespace Go.Pev
open Go.Proofs
noncomputable section
theorem AQX : (Tryz.f356.name == "runtime.NumGoroutine") = false := by kernel_rfl
theorem lJ:Gb Tryz.prog Tryz.f356 98 4 .bool where
 body:=by kernel_rfl
 nt:=by kernel_rfl
 res:=by kernel_rfl
 d:=⟨by kernel_rfl,by kernel_rfl,by kernel_rfl,by kernel_rfl,by kernel_rfl,by kernel_rfl,by kernel_rfl,by kernel_rfl⟩
 g:=⟨by kernel_rfl,by kernel_rfl,by kernel_rfl,by kernel_rfl,by kernel_rfl,by kernel_rfl,by kernel_rfl,by kernel_rfl⟩
 o00:=by kernel_rfl
 o10:=by kernel_rfl
 o11:=by kernel_rfl
 o20:=by kernel_rfl
 o30:=by kernel_rfl
 o31:=by kernel_rfl
 o32:=by kernel_rfl
 o33:=by kernel_rfl
 sl:=by kernel_rfl
 z:=by kernel_rfl
 by1:=by kernel_rfl
def wT[Lk]:Env:=hU.ext 356 true true (D9 4 .bool)
theorem wS:A5 Tryz.prog wT:=Env.CR nQ (Mu lJ Tryz.func356 AQX) (fun _=>CJ _ _) (fun _=>(CJ _ _).AHE)
theorem AQV : (Tryz.f300.name == "runtime.NumGoroutine") = false := by kernel_rfl
theorem lH:Gb Tryz.prog Tryz.f300 37 36 (.slice (.int .i64)) where
 body:=by kernel_rfl
 nt:=by kernel_rfl
 res:=by kernel_rfl
 d:=⟨by kernel_rfl,by kernel_rfl,by kernel_rfl,by kernel_rfl,by kernel_rfl,by kernel_rfl,by kernel_rfl,by kernel_rfl⟩
 g:=⟨by kernel_rfl,by kernel_rfl,by kernel_rfl,by kernel_rfl,by kernel_rfl,by kernel_rfl,by kernel_rfl,by kernel_rfl⟩
 o00:=by kernel_rfl
 o10:=by kernel_rfl
 o11:=by kernel_rfl
 o20:=by kernel_rfl
 o30:=by kernel_rfl
 o31:=by kernel_rfl
 o32:=by kernel_rfl
 o33:=by kernel_rfl
 sl:=by kernel_rfl
 z:=by kernel_rfl
 by1:=by kernel_rfl
def wP[Lk]:Env:=wT.ext 300 true true (D9 36 (.slice (.int .i64)))
theorem wO:A5 Tryz.prog wP:=Env.CR wS (Mu lH Tryz.func300 AQV) (fun _=>CJ _ _) (fun _=>(CJ _ _).AHE)
theorem AUH : (Tryz.f338.name == "runtime.NumGoroutine") = false := by kernel_rfl
theorem tS:iH Tryz.prog Tryz.f338 36 3 1 where
 body:=by kernel_rfl
 nt:=by kernel_rfl
 res:=by kernel_rfl
 d:=⟨by kernel_rfl,by kernel_rfl,by kernel_rfl,by kernel_rfl,by kernel_rfl,by kernel_rfl,by kernel_rfl,by kernel_rfl⟩
 g:=⟨by kernel_rfl,by kernel_rfl,by kernel_rfl,by kernel_rfl,by kernel_rfl,by kernel_rfl,by kernel_rfl,by kernel_rfl⟩
 o00:=by kernel_rfl
 o10:=by kernel_rfl
 o11:=by kernel_rfl
 o12:=by kernel_rfl
 o13:=by kernel_rfl
 o14:=by kernel_rfl
 o15:=by kernel_rfl
 o16:=by kernel_rfl
 sl:=by kernel_rfl
 sz:=by kernel_rfl
def AGS[Lk]:Env:=wP.ext 338 true true (Mw 1)
theorem ACb:A5 Tryz.prog AGS:=Env.CR wO (AUG tS Tryz.func338 AUH) (fun _=>Mv _) (fun _=>(Mv _).AHE)
abbrev oM:Row:=⟨337,0,0,2,0,none,Ju,[(.ret,AL1)],AL0,[(11,[[0],[0],[],[12],[12],[],[],[],[],[12],[12],[],[],[],[31,38],[0],[1]]),(10,[[12],[12],[12],[],[],[],[]]),(6,[[12],[],[0],[0],[],[],[12],[12],[],[],[]])],[]⟩
def ue[Lk]:Env:=oM.BC AGS xS
theorem ud:A5 Tryz.prog ue:=Row.A2 oM ACb Tryz.func337 AHH
abbrev Wu:Row:=⟨357,0,1,2,0,none,xV,[(.ret,xU)],A6,[],[(0,oP,oO)]⟩
def Zh[Lk]:Env:=Wu.BC ue Wv
theorem bV:A5 Tryz.prog Zh:=Row.A2 Wu ud Tryz.func357 oQ
abbrev AL4:Row:=⟨339,0,0,2,0,none,Ju,[(.ret,AVH)],AL2,[(12,[[0],[0],[0],[8],[8],[1000005,3],[7],[],[]]),(7,[[0],[0],[],[0],[0],[],[0],[1],[0],[1]]),(5,[[12],[],[0],[0],[],[],[12],[12],[],[],[],[0],[0],[12],[12],[],[],[]])],[(0,AR8,AR7)]⟩
def ARI[Lk]:Env:=AL4.BC Zh AVI
theorem ALG:A5 Tryz.prog ARI:=Row.A2 AL4 bV Tryz.func339 AR9
abbrev ZF:Row:=⟨199,0,0,1,0,none,BL,[(.ret,BG)],A6,[],[]⟩
def aI[Lk]:Env:=ZF.BC ARI Q6
theorem bw:A5 Tryz.prog aI:=Row.A2 ZF ALG Tryz.func199 tj
abbrev te:Row:=⟨200,0,0,2,0,none,Ju,[(.ret,BG)],A6,[(1,[[],[],[],[],[0],[0],[],[],[],[],[0],[0],[],[],[],[],[],[],[],[0],[],[],[],[0],[0],[0],[0],[],[],[],[],[],[],[],[],[],[]])],[]⟩
def wV[Lk]:Env:=te.BC aI ABW
theorem wU:A5 Tryz.prog wV:=Row.A2 te bw Tryz.func200 AKn
abbrev tH:Row:=⟨117,0,0,1,0,none,tF,[(.ret,BG)],A6,[],[(0,AKS,OO),(1,AKR,AKQ)]⟩
def wH[Lk]:Env:=tH.BC wV AA9
theorem wG:A5 Tryz.prog wH:=Row.A2 tH wU Tryz.func117 AKT
abbrev tp:Row:=⟨44,0,0,3,1,none,im,[(.ret,AQg)],AQf,[],[]⟩
def wZ[Lk]:Env:=tp.BC wH ABY
theorem wY:A5 Tryz.prog wZ:=Row.A2 tp wG Tryz.func44 AKq
abbrev AFQ:Row:=⟨256,0,0,1,0,none,tF,[(.ret,BL)],A6,[],[(0,AQa,AQZ)]⟩
def AGT[Lk]:Env:=AFQ.BC wZ AQc
theorem ACc:A5 Tryz.prog AGT:=Row.A2 AFQ wY Tryz.func256 AQb
abbrev fQ:Row:=⟨301,0,2,2,0,none,fO,[(.ret,fN)],A6,[],[]⟩
def hQ[Lk]:Env:=fQ.BC AGT WK
theorem nP:A5 Tryz.prog hQ:=Row.A2 fQ ACc Tryz.func301 ABP
end
end Go.Pev
end
section
namespace Go.Pev
open Go.Proofs
noncomputable section
abbrev ti:Row:=⟨302,0,2,3,0,none,AQe,[(.ret,AQd)],A6,[(9,[[],[0],[0],[0],[0],[],[],[],[2],[3]]),(6,[[],[0],[0],[0],[0],[],[],[],[],[],[2],[3]]),(1,[[],[0],[0],[0],[0],[],[2],[2],[],[0],[0],[0],[0],[],[2],[2],[],[]])],[]⟩
def wX[Lk]:Env:=ti.BC hQ ABX
theorem wW:A5 Tryz.prog wX:=Row.A2 ti nP Tryz.func302 AKp
abbrev AUz:Row:=⟨303,0,2,2,0,none,fO,[(.ret,fN)],A6,[(9,[[],[],[0],[0],[0],[0],[],[0],[0],[0],[0],[],[],[],[],[],[0],[0],[0],[1],[],[]]),(6,[[],[0],[0],[0],[0],[],[],[0],[0],[0],[0],[],[2],[2],[],[],[],[],[28],[2],[3,30]]),(3,[[],[],[0],[0],[0],[0],[],[0],[0],[0],[0],[],[],[],[],[],[],[0],[0],[0],[1],[],[],[]]),(1,[[],[0],[0],[0],[0],[],[0],[0],[0],[0],[]])],[]⟩
def AVC[Lk]:Env:=AUz.BC wX cgo
theorem ARo:A5 Tryz.prog AVC:=Row.A2 AUz wW Tryz.func303 AWO
abbrev AFN:Row:=⟨255,0,0,3,0,none,AUC,[(.ret,AUB)],AUA,[(18,[[],[14],[14],[14],[],[14],[14],[14],[3],[5],[]]),(14,[[],[14],[14],[14],[],[14],[14],[14],[3],[5],[]])],[]⟩
def AGR[Lk]:Env:=AFN.BC AVC AQN
theorem ACa:A5 Tryz.prog AGR:=Row.A2 AFN ARo Tryz.func255 AQM
abbrev AFB:Row:=⟨195,0,1,3,0,none,AT7,[(.ret,AE9)],A6,[(3,[[],[],[12],[],[0],[0],[0],[14],[],[3,16],[0],[0],[1],[0],[0],[1]])],[]⟩
def AGN[Lk]:Env:=AFB.BC AGR AFC
theorem ACW:A5 Tryz.prog AGN:=Row.A2 AFB ACa Tryz.func195 AP5
abbrev fA:Row:=⟨196,0,1,1,0,none,AJ6,[(.ret,AE9)],A6,[],[(0,AAo,AAm),(1,AAn,AAl)]⟩
def g9[Lk]:Env:=fA.BC AGN kq
theorem nL:A5 Tryz.prog g9:=Row.A2 fA ACW Tryz.func196 AAp
abbrev s0:Row:=⟨112,0,0,4,0,none,AP4,[(.ret,AP3)],DF,[(11,[[],[2],[2],[2],[],[2],[2],[2],[],[1],[],[]]),(14,[[],[2],[2],[2],[],[2],[2],[2],[],[1],[],[]])],[(0,AJ4,AJ3)]⟩
def wD[Lk]:Env:=s0.BC g9 AAi
theorem wC:A5 Tryz.prog wD:=Row.A2 s0 nL Tryz.func112 AJ5
abbrev fC:Row:=⟨113,0,0,2,0,none,AJ8,[(.ret,AJ7)],A6,[],[(0,AAu,AAt)]⟩
def hJ[Lk]:Env:=fC.BC wD kr
theorem nM:A5 Tryz.prog hJ:=Row.A2 fC wC Tryz.func113 AAv
abbrev sO:Row:=⟨111,0,0,1,0,none,APr,[(.ret,BG)],A6,[],[]⟩
def vw[Lk]:Env:=sO.BC hJ AAX
theorem vv:A5 Tryz.prog vw:=Row.A2 sO nM Tryz.func111 AJk
abbrev sR:Row:=⟨49,0,0,2,0,none,APs,[(.ret,EK)],DF,[],[(0,AJq,AJo),(1,AJp,AJn)]⟩
def v3[Lk]:Env:=sR.BC vw kX
theorem vz:A5 Tryz.prog v3:=Row.A2 sR vv Tryz.func49 AJr
abbrev oW:Row:=⟨348,0,0,1,0,none,BL,[(.ret,BG)],A6,[],[]⟩
def ug[Lk]:Env:=oW.BC v3 iy
theorem uf:A5 Tryz.prog ug:=Row.A2 oW vz Tryz.func348 AHK
abbrev dC:Row:=⟨349,0,0,2,0,none,Jv,[(.ret,BL)],A6,[],[]⟩
def gH[Lk]:Env:=dC.BC ug jM
theorem mM:A5 Tryz.prog gH:=Row.A2 dC uf Tryz.func349 xu
abbrev ADA:Row:=⟨351,0,0,3,0,none,ASB,[(.ret,fH)],A6,[],[]⟩
def mG[Lk]:Env:=ADA.BC gH ADB
theorem Zm:A5 Tryz.prog mG:=Row.A2 ADA mM Tryz.func351 AMI
end
end Go.Pev
end
section
namespace Go.Pev
open Go.Proofs
noncomputable section
theorem AMG:Tryz.f327.body.isSome=true:=by kernel_rfl
theorem AMF : (Tryz.f327.name == "runtime.NumGoroutine") = false := by kernel_rfl
theorem AME:loops (CE Tryz.f327)=0:=by kernel_rfl
def Zl[Lk]:Env:=mG.ext 327 false false (CL Tryz.prog mG {} Tryz.f327)
theorem bY:A5 Tryz.prog Zl:=Env.CR Zm (B5 Zm Tryz.func327 AMG AMF AME) (by simp) (by simp)
abbrev pR:Row:=⟨350,0,0,2,0,some (1,327),AMp,[(.ret,AMo)],BO,[],[(0,AHm,AHl)]⟩
def uz[Lk]:Env:=pR.BC Zl XH
theorem uy:A5 Tryz.prog uz:=Row.A2 pR bY Tryz.func350 AHn
abbrev cw:Row:=⟨326,0,0,4,0,some (3,327),AHL,[(.ret,cr)],Ls,[],[(0,xm,xj),(1,xl,xi),(2,xk,xh)]⟩
def gD[Lk]:Env:=cw.BC uz iz
theorem mF:A5 Tryz.prog gD:=Row.A2 cw uy Tryz.func326 xn
abbrev AC7:Row:=⟨280,0,0,3,0,none,AC5,[(.ret,cr)],Ls,[],[]⟩
def AFt[Lk]:Env:=AC7.BC gD AC8
theorem AB1:A5 Tryz.prog AFt:=Row.A2 AC7 mF Tryz.func280 AMD
abbrev p8:Row:=⟨284,0,0,2,0,none,ANW,[(.ret,ANV)],A6,[],[(0,AH5,AH4)]⟩
def vG[Lk]:Env:=p8.BC AFt yi
theorem vF:A5 Tryz.prog vG:=Row.A2 p8 AB1 Tryz.func284 AH6
abbrev dW:Row:=⟨283,0,0,3,0,none,AC5,[(.ret,EK)],DF,[],[(0,yg,yf)]⟩
def gQ[Lk]:Env:=dW.BC vG jb
theorem mW:A5 Tryz.prog gQ:=Row.A2 dW vF Tryz.func283 yh
abbrev pq:Row:=⟨235,0,0,3,0,none,ANF,[(.ret,EK)],DF,[(1,[[],[],[],[0],[2],[],[],[],[],[],[]])],[]⟩
def vE[Lk]:Env:=pq.BC gQ yb
theorem vD:A5 Tryz.prog vE:=Row.A2 pq mW Tryz.func235 AH1
abbrev ADW:Row:=⟨233,0,0,4,0,none,ASL,[(.ret,EK)],DF,[],[(0,AMw,AMu),(1,AMv,AMt)]⟩
def AF3[Lk]:Env:=ADW.BC vE AMy
theorem ACB:A5 Tryz.prog AF3:=Row.A2 ADW vD Tryz.func233 AMx
abbrev dG:Row:=⟨234,0,0,2,0,none,AHq,[(.ret,AHp)],BO,[],[(0,yC,yB)]⟩
def gJ[Lk]:Env:=dG.BC AF3 jQ
theorem mO:A5 Tryz.prog gJ:=Row.A2 dG ACB Tryz.func234 yD
abbrev fF:Row:=⟨183,0,0,2,0,none,fD,[(.ret,AJ9)],Ls,[(5,[[],[10],[0],[0],[0],[0],[18],[],[],[],[],[],[],[]])],[(0,AAy,AAx)]⟩
def hM[Lk]:Env:=fF.BC gJ ku
theorem nN:A5 Tryz.prog hM:=Row.A2 fF mO Tryz.func183 AAz
abbrev AFE:Row:=⟨100,0,0,2,0,none,fD,[(.ret,AT8)],DF,[],[]⟩
def AGO[Lk]:Env:=AFE.BC hM AP9
theorem ACX:A5 Tryz.prog AGO:=Row.A2 AFE nN Tryz.func100 AP8
abbrev tA:Row:=⟨46,0,0,2,0,none,AQG,[(.ret,AQF)],DF,[],[(0,AKG,AKE),(1,AKF,AKD)]⟩
def aC[Lk]:Env:=tA.BC AGO AA4
theorem UL:A5 Tryz.prog aC:=Row.A2 tA ACX Tryz.func46 AKH
end
end Go.Pev
end
section
namespace Go.Pev
open Go.Proofs
noncomputable section
theorem ALB:Tryz.f115.body.isSome=true:=by kernel_rfl
theorem ALA : (Tryz.f115.name == "runtime.NumGoroutine") = false := by kernel_rfl
theorem AK9:loops (CE Tryz.f115)=0:=by kernel_rfl
def RW[Lk]:Env:=aC.ext 115 false false (CL Tryz.prog aC {} Tryz.f115)
theorem Vr:A5 Tryz.prog RW:=Env.CR UL (B5 UL Tryz.func115 ALB ALA AK9) (by simp) (by simp)
abbrev QT:Row:=⟨134,0,1,2,0,some (1,115),QR,[(.ret,kN)],A6,[],[(0,al,ak)]⟩
def RJ[Lk]:Env:=QT.BC RW O0
theorem VX:A5 Tryz.prog RJ:=Row.A2 QT Vr Tryz.func134 ao
abbrev oy:Row:=⟨91,0,0,2,0,none,G7,[(.ret,BL)],A6,[],[(0,AHa,D7)]⟩
def uo[Lk]:Env:=oy.BC RJ jN
theorem um:A5 Tryz.prog uo:=Row.A2 oy VX Tryz.func91 AHb
abbrev pP:Row:=⟨92,0,0,1,0,none,BL,[(.ret,EB)],A6,[],[(0,AHi,AE6)]⟩
def ux[Lk]:Env:=pP.BC uo jP
theorem uw:A5 Tryz.prog ux:=Row.A2 pP um Tryz.func92 AHj
abbrev oa:Row:=⟨94,0,1,2,0,none,Lv,[(.ret,oY)],A6,[],[(0,AHP,AHO)]⟩
def ui[Lk]:Env:=oa.BC ux W3
theorem uh:A5 Tryz.prog ui:=Row.A2 oa uw Tryz.func94 AHQ
abbrev ADK:Row:=⟨176,0,1,3,0,none,EK,[(.ret,ADI)],A6,[],[]⟩
def AFx[Lk]:Env:=ADK.BC ui AMT
theorem AB5:A5 Tryz.prog AFx:=Row.A2 ADK uh Tryz.func176 AMS
abbrev Y0:Row:=⟨175,0,1,2,0,some (1,176),AAh,[(.ret,Yy)],A6,[],[(0,su,ss)]⟩
def aB[Lk]:Env:=Y0.BC AFx Y1
theorem bt:A5 Tryz.prog aB:=Row.A2 Y0 AB5 Tryz.func175 sv
abbrev od:Row:=⟨93,0,1,2,0,none,AMR,[(.ret,Yy)],A6,[],[]⟩
def uk[Lk]:Env:=od.BC aB jA
theorem uj:A5 Tryz.prog uk:=Row.A2 od bt Tryz.func93 AHR
abbrev W9:Row:=⟨41,0,0,2,0,none,G7,[(.ret,Lv)],BO,[],[(0,ot,oq)]⟩
def Zq[Lk]:Env:=W9.BC uk W_
theorem bZ:A5 Tryz.prog Zq:=Row.A2 W9 uj Tryz.func41 ou
theorem AQU : (Tryz.f105.name == "runtime.NumGoroutine") = false := by kernel_rfl
theorem lF:Gb Tryz.prog Tryz.f105 22 152 (.prod (.int .i64) (.prod (.int .i64) (.prod (.int .i64) (.prod .bool .unit)))) where
 body:=by kernel_rfl
 nt:=by kernel_rfl
 res:=by kernel_rfl
 d:=⟨by kernel_rfl,by kernel_rfl,by kernel_rfl,by kernel_rfl,by kernel_rfl,by kernel_rfl,by kernel_rfl,by kernel_rfl⟩
 g:=⟨by kernel_rfl,by kernel_rfl,by kernel_rfl,by kernel_rfl,by kernel_rfl,by kernel_rfl,by kernel_rfl,by kernel_rfl⟩
 o00:=by kernel_rfl
 o10:=by kernel_rfl
 o11:=by kernel_rfl
 o20:=by kernel_rfl
 o30:=by kernel_rfl
 o31:=by kernel_rfl
 o32:=by kernel_rfl
 o33:=by kernel_rfl
 sl:=by kernel_rfl
 z:=by kernel_rfl
 by1:=by kernel_rfl
def wN[Lk]:Env:=Zq.ext 105 true true (D9 152 (.prod (.int .i64) (.prod (.int .i64) (.prod (.int .i64) (.prod .bool .unit)))))
theorem wM:A5 Tryz.prog wN:=Env.CR bZ (Mu lF Tryz.func105 AQU) (fun _=>CJ _ _) (fun _=>(CJ _ _).AHE)
abbrev AEZ:Row:=⟨384,0,0,2,0,none,Jv,[(.ret,BG)],A6,[],[]⟩
def AGB[Lk]:Env:=AEZ.BC wN Fu
theorem ACJ:A5 Tryz.prog AGB:=Row.A2 AEZ wM Tryz.func384 AOo
abbrev AO3:Row:=⟨378,0,1,3,0,none,EK,[(.ret,Ib)],Bx,[(4,[[],[],[],[],[],[],[0],[0],[],[],[],[0],[0],[],[]]),(6,[[],[],[],[],[],[],[],[],[0],[0],[],[],[0],[0],[0],[1],[0],[1]])],[(0,ATW,kH),(1,ATV,ATU)]⟩
def ARf[Lk]:Env:=AO3.BC AGB AWA
theorem ALZ:A5 Tryz.prog ARf:=Row.A2 AO3 ACJ Tryz.func378 ATX
end
end Go.Pev
end
section
namespace Go.Pev
open Go.Proofs
noncomputable section
abbrev ADO:Row:=⟨393,0,1,4,0,none,I8,[(.ret,Ib)],Bx,[(6,[[],[],[],[],[],[],[],[],[],[],[],[],[0],[0],[],[],[],[],[0],[0],[0],[1],[0],[1]]),(5,[[],[],[],[],[0],[0],[],[],[],[],[0],[0],[],[]]),(3,[[],[],[],[],[],[],[],[],[],[0],[0],[],[],[],[],[],[0],[0],[],[]])],[(0,AMc,AMb)]⟩
def AF0[Lk]:Env:=ADO.BC ARf ADP
theorem AB8:A5 Tryz.prog AF0:=Row.A2 ADO ALZ Tryz.func393 AMd
abbrev AEo:Row:=⟨379,0,1,3,0,none,EK,[(.ret,Ib)],Bx,[(10,[[],[],[],[],[],[],[],[],[],[],[0],[0],[],[],[0],[0],[0],[1],[0],[1]])],[(0,APT,APR),(1,APS,APQ)]⟩
def AGH[Lk]:Env:=AEo.BC AF0 APV
theorem ACQ:A5 Tryz.prog AGH:=Row.A2 AEo AB8 Tryz.func379 APU
abbrev tx:Row:=⟨380,0,1,3,0,none,EK,[(.ret,Ib)],Bx,[(10,[[],[],[],[],[],[],[],[],[],[],[0],[0],[],[],[0],[0],[0],[1],[0],[1]])],[(0,AKz,kH)]⟩
def wj[Lk]:Env:=tx.BC AGH ABi
theorem wi:A5 Tryz.prog wj:=Row.A2 tx ACQ Tryz.func380 AK0
abbrev dn:Row:=⟨397,0,2,4,0,none,AIh,[(.ret,AIg)],BO,[(1,[[],[],[0],[0],[],[],[0],[0],[]])],[]⟩
def gb[Lk]:Env:=dn.BC wj Pv
theorem mr:A5 Tryz.prog gb:=Row.A2 dn wi Tryz.func397 zl
abbrev dz:Row:=⟨395,0,2,5,0,none,AIw,[(.ret,dx)],A6,[],[]⟩
def gi[Lk]:Env:=dz.BC gb P6
theorem m6:A5 Tryz.prog gi:=Row.A2 dz mr Tryz.func395 z3
abbrev eJ:Row:=⟨394,0,2,3,0,none,AI3,[(.ret,dx)],A6,[],[]⟩
def gm[Lk]:Env:=eJ.BC gi P7
theorem nC:A5 Tryz.prog gm:=Row.A2 eJ m6 Tryz.func394 z8
abbrev qE:Row:=⟨381,0,1,3,0,none,EK,[(.ret,ANd)],BO,[],[]⟩
def vO[Lk]:Env:=qE.BC gm yq
theorem vN:A5 Tryz.prog vO:=Row.A2 qE nC Tryz.func381 AIC
abbrev AM7:Row:=⟨382,0,1,3,0,none,EK,[(.ret,Ib)],Bx,[(3,[[],[],[],[],[],[],[0],[0],[],[],[0],[0],[0],[1],[0],[1]])],[(0,ASR,kH)]⟩
def ARN[Lk]:Env:=AM7.BC vO AVO
theorem ALK:A5 Tryz.prog ARN:=Row.A2 AM7 vN Tryz.func382 ASS
abbrev Xf:Row:=⟨383,0,1,3,0,none,EK,[(.ret,ADI)],A6,[(11,[[],[],[],[],[],[],[],[],[0],[0],[],[],[0],[0],[0],[1],[0],[1]]),(5,[[],[],[],[],[],[],[0],[0],[],[],[],[0],[0],[],[],[]]),(17,[[],[],[],[],[],[],[],[],[0],[0],[],[],[0],[0],[0],[1],[0],[1]]),(16,[[],[],[0],[0],[],[],[],[0],[0],[],[]]),(23,[[],[],[],[],[],[],[],[],[0],[0],[],[],[0],[0],[0],[1],[0],[1]]),(22,[[],[],[0],[0],[],[],[],[0],[0],[],[]])],[(0,TU,ql),(1,TU,qk),(2,qn,qj),(3,qm,qi)]⟩
def Zz[Lk]:Env:=Xf.BC ARN Xg
theorem bg:A5 Tryz.prog Zz:=Row.A2 Xf ALK Tryz.func383 qo
abbrev df:Row:=⟨385,0,1,4,0,none,I8,[(.ret,oY)],A6,[(8,[[],[],[],[],[],[],[0],[0],[],[],[0],[0],[0],[1],[0],[1]]),(3,[[],[],[],[],[],[],[0],[0],[],[],[0],[0],[],[],[]]),(5,[[],[],[],[],[],[],[0],[0],[],[],[0],[0],[],[]]),(1,[[],[],[],[],[],[],[0],[0],[],[],[0],[0],[0],[1],[0],[1]])],[(0,OV,zc),(1,OV,zb),(2,OV,za)]⟩
def gX[Lk]:Env:=df.BC Zz ju
theorem mi:A5 Tryz.prog gX:=Row.A2 df bg Tryz.func385 zd
abbrev AD4:Row:=⟨386,0,1,4,0,none,I8,[(.ret,ASz)],BO,[(3,[[],[],[],[],[],[],[0],[0],[],[],[0],[0],[],[]]),(5,[[],[],[],[],[],[],[0],[0],[],[],[0],[0],[],[],[]]),(18,[[],[],[],[],[],[],[0],[0],[],[],[0],[0],[0],[1],[0],[1]]),(13,[[],[],[],[],[],[],[0],[0],[],[],[0],[0],[],[]]),(15,[[],[],[],[],[],[],[0],[0],[],[],[0],[0],[],[],[]]),(21,[[],[],[],[],[],[],[0],[0],[],[],[0],[0],[0],[1],[0],[1]]),(10,[[],[],[],[],[],[],[0],[0],[],[],[0],[0],[0],[1],[0],[1]]),(8,[[],[],[],[],[],[],[0],[0],[],[],[0],[0],[0],[1],[0],[1]]),(1,[[],[],[],[],[],[],[0],[0],[],[],[0],[0],[0],[1],[0],[1]])],[(0,MA,AOI),(1,MA,AOH),(2,MA,AOG),(3,MA,AOF),(4,MA,AOE)]⟩
def mf[Lk]:Env:=AD4.BC gX AD5
theorem Z1:A5 Tryz.prog mf:=Row.A2 AD4 mi Tryz.func386 AOJ
abbrev zC(self:(List Int×Int×Int×Int×Unit)→Option ((List Int×Unit))):Hints:={ loop:=fun n=>match n with|0=>K0 1 134 ADx ADw (jm self)|_=>fun _ _ _=>none,fp:=fun n=>match n with|17=>[[],[],[],[],[],[],[0],[0],[],[],[0],[0],[],[],[]]|_=>[] }
abbrev jn(self:(List Int×Int×Int×Int×Unit)→Option ((List Int×Unit))):Env:=mf.ext 354 false true (Bb 1 4 I8 Ib Bx self)
theorem zB(self:(List Int×Int×Int×Int×Unit)→Option ((List Int×Unit))):∀ v,jm self v=roundOf Tryz.prog (jn self) (zC self) 1 1 134 (DB Tryz.f354 0) ADx ADw v:=by rintro⟨a0,a1,a2,a3,a4,a5,⟨⟩⟩;kernel_rfl
theorem ASn:Cm (DB Tryz.f354 0) 1=[]:=by kernel_rfl
theorem ASo(self:(List Int×Int×Int×Int×Unit)→Option ((List Int×Unit)))(hE:A5 Tryz.prog (jn self)):I0 Tryz.prog 1 (.loop (DB Tryz.f354 0)) ((zC self).loop 0):=QB hE (zB self) (EU ASn trivial)
theorem ANr(self:(List Int×Int×Int×Int×Unit)→Option ((List Int×Unit))):∀ v,ANu self v=Dp 1 Tryz.prog (jn self) (zC self) Tryz.f354 I8 Ib Bx v:=by rintro⟨a0,a1,a2,a3,⟨⟩⟩;kernel_rfl
theorem AVn:Cm (CE Tryz.f354) 0=[(0,DB Tryz.f354 0)]:=by kernel_rfl
theorem zD:∀ n,BV Tryz.prog 354 (Bb 1 4 I8 Ib Bx (OS n)):=by
 intro n;induction n with
  |zero=>exact JE fun _=>rfl
  |succ n ih=>have hE:A5 Tryz.prog (jn (OS n)):=Env.CR Z1 ih ((by simp)) (fun _=>Ce rfl rfl);let self:=OS n;exact H3 hE Tryz.func354 (by kernel_rfl) (by kernel_rfl) rfl (ANr self) (EU AVn ⟨(ASo self hE),trivial⟩)
theorem AIP:BV Tryz.prog 354 (Bb 1 4 I8 Ib Bx ANv):=by have e:ANv=OS 100:=funext ASp;rw[e];exact zD _
def ART[Lk]:Env:=mf.ext 354 false true (Bb 1 4 I8 Ib Bx ANv)
theorem ALP:A5 Tryz.prog ART:=Env.CR Z1 AIP ((by simp)) (fun _=>Ce rfl rfl)
end
end Go.Pev
end
section
namespace Go.Pev
open Go.Proofs
noncomputable section
abbrev ADG:Row:=⟨336,0,1,1,0,none,EB,[(.ret,Ib)],Bx,[],[]⟩
def AFv[Lk]:Env:=ADG.BC ART AMN
theorem AB3:A5 Tryz.prog AFv:=Row.A2 ADG ALP Tryz.func336 AMM
abbrev AQp:Row:=⟨333,0,0,3,0,some (2,169),AWP,[(.ret,ABl)],BO,[(5,[[],[],[],[],[],[0],[],[]]),(8,[[],[],[],[],[],[],[],[],[],[],[0],[],[],[],[],[]])],[(0,AUM,AUL)]⟩
def ARp[Lk]:Env:=AQp.BC AFv AWQ
theorem ALh:A5 Tryz.prog ARp:=Row.A2 AQp AB3 Tryz.func333 AUN
abbrev rU:Row:=⟨298,0,0,3,0,none,P_,[(.ret,ABl)],BO,[],[]⟩
def Z3[Lk]:Env:=rU.BC ARp AAF
theorem UJ:A5 Tryz.prog Z3:=Row.A2 rU ALh Tryz.func298 AJC
theorem zx:Tryz.f335.body.isSome=true:=by kernel_rfl
theorem zw : (Tryz.f335.name == "runtime.NumGoroutine") = false := by kernel_rfl
theorem zv:loops (CE Tryz.f335)=0:=by kernel_rfl
def OB[Lk]:Env:=Z3.ext 335 false false (CL Tryz.prog Z3 {} Tryz.f335)
theorem Sw:A5 Tryz.prog OB:=Env.CR UJ (B5 UJ Tryz.func335 zx zw zv) (by simp) (by simp)
abbrev MT:Row:=⟨134,0,2,2,0,some (1,335),MR,[(.ret,YZ)],A6,[],[(0,VE,VD)]⟩
def M8[Lk]:Env:=MT.BC OB LC
theorem RH:A5 Tryz.prog M8:=Row.A2 MT Sw Tryz.func134 VF
abbrev AEs:Row:=⟨251,0,0,2,0,none,ATk,[(.ret,AEq)],A6,[],[]⟩
def AGJ[Lk]:Env:=AEs.BC M8 APd
theorem ACS:A5 Tryz.prog AGJ:=Row.A2 AEs RH Tryz.func251 APc
abbrev fL:Row:=⟨193,0,0,1,0,none,AKc,[(.ret,AEq)],A6,[],[(0,ABI,ABG),(1,ABH,ABF)]⟩
def S2[Lk]:Env:=fL.BC AGJ lC
theorem RU:A5 Tryz.prog S2:=Row.A2 fL ACS Tryz.func193 ABJ
theorem ANR:Tryz.f254.body.isSome=true:=by kernel_rfl
theorem ANQ : (Tryz.f254.name == "runtime.NumGoroutine") = false := by kernel_rfl
theorem ANP:loops (CE Tryz.f254)=0:=by kernel_rfl
theorem AV2:Tryz.f253.body.isSome=true:=by kernel_rfl
theorem AV1 : (Tryz.f253.name == "runtime.NumGoroutine") = false := by kernel_rfl
theorem AV0:loops (CE Tryz.f253)=0:=by kernel_rfl
theorem AKN:Tryz.f212.body.isSome=true:=by kernel_rfl
theorem AKM : (Tryz.f212.name == "runtime.NumGoroutine") = false := by kernel_rfl
theorem AKL:loops (CE Tryz.f212)=0:=by kernel_rfl
def RR[Lk]:Env:=S2.ext 212 false false (CL Tryz.prog S2 {} Tryz.f212)
theorem Vq:A5 Tryz.prog RR:=Env.CR RU (B5 RU Tryz.func212 AKN AKM AKL) (by simp) (by simp)
abbrev JQ:Row:=⟨134,0,1,2,0,some (1,212),JO,[(.ret,QQ)],A6,[],[(0,Oy,Ox)]⟩
def Ft[Lk]:Env:=JQ.BC RR HL
theorem HC:A5 Tryz.prog Ft:=Row.A2 JQ Vq Tryz.func134 Oz
theorem AWW:Tryz.f141.body.isSome=true:=by kernel_rfl
theorem AWV : (Tryz.f141.name == "runtime.NumGoroutine") = false := by kernel_rfl
theorem AWU:loops (CE Tryz.f141)=0:=by kernel_rfl
def iE[Lk]:Env:=Ft.ext 141 false false (CL Tryz.prog Ft {} Tryz.f141)
theorem nW:A5 Tryz.prog iE:=Env.CR HC (B5 HC Tryz.func141 AWW AWV AWU) (by simp) (by simp)
end
end Go.Pev
end
section
namespace Go.Pev
open Go.Proofs
noncomputable section
abbrev tL:Row:=⟨140,0,2,2,0,some (1,141),AQQ,[(.ret,AQP)],A6,[],[(0,AKa,AKZ)]⟩
def aE[Lk]:Env:=tL.BC iE k8
theorem UN:A5 Tryz.prog aE:=Row.A2 tL nW Tryz.func140 AKb
theorem AWT:Tryz.f142.body.isSome=true:=by kernel_rfl
theorem AWS : (Tryz.f142.name == "runtime.NumGoroutine") = false := by kernel_rfl
theorem AWR:loops (CE Tryz.f142)=0:=by kernel_rfl
def iD[Lk]:Env:=aE.ext 142 false false (CL Tryz.prog aE {} Tryz.f142)
theorem nV:A5 Tryz.prog iD:=Env.CR UN (B5 UN Tryz.func142 AWT AWS AWR) (by simp) (by simp)
abbrev tJ:Row:=⟨140,0,0,2,0,some (1,142),AQO,[(.ret,BL)],A6,[],[(0,AKW,AKV)]⟩
def wJ[Lk]:Env:=tJ.BC iD ABA
theorem wI:A5 Tryz.prog wJ:=Row.A2 tJ nV Tryz.func140 AKX
abbrev cB:Row:=⟨83,0,0,2,0,none,AGl,[(.ret,ABl)],BO,[(3,[[],[],[],[],[],[],[],[],[],[],[],[],[],[],[]])],[]⟩
def fi[Lk]:Env:=cB.BC wJ ACj
theorem lu:A5 Tryz.prog fi:=Row.A2 cB wI Tryz.func83 wy
abbrev AEz:Row:=⟨107,0,0,2,0,none,X6,[(.ret,BL)],A6,[],[]⟩
def AGM[Lk]:Env:=AEz.BC fi C0
theorem ACV:A5 Tryz.prog AGM:=Row.A2 AEz lu Tryz.func107 APo
abbrev AO0:Row:=⟨239,0,1,4,0,some (3,107),SK,[(.ret,IZ)],Bx,[(4,[[],[],[],[],[],[],[],[0],[0],[],[],[],[0],[0],[],[],[]]),(6,[[],[],[],[],[],[],[],[],[0],[0],[],[],[0],[0],[0],[1],[0],[1]])],[(0,ATM,kF),(1,ATL,ATK)]⟩
def ARd[Lk]:Env:=AO0.BC AGM AWz
theorem ALX:A5 Tryz.prog ARd:=Row.A2 AO0 ACV Tryz.func239 ATN
abbrev ADL:Row:=⟨293,0,1,5,0,some (4,107),I6,[(.ret,IZ)],Bx,[(6,[[],[],[],[],[],[],[],[],[],[],[],[],[0],[0],[],[],[],[],[0],[0],[0],[1],[0],[1]]),(5,[[],[],[],[],[],[0],[0],[],[],[],[],[0],[0],[],[],[]]),(3,[[],[],[],[],[],[],[],[],[],[],[0],[0],[],[],[],[],[],[0],[0],[],[],[]])],[(0,AMV,AMU)]⟩
def AFy[Lk]:Env:=ADL.BC ARd AUe
theorem AB6:A5 Tryz.prog AFy:=Row.A2 ADL ALX Tryz.func293 AMW
abbrev AEl:Row:=⟨240,0,1,4,0,some (3,107),SK,[(.ret,IZ)],Bx,[(10,[[],[],[],[],[],[],[],[],[],[],[0],[0],[],[],[0],[0],[0],[1],[0],[1]])],[(0,APH,APF),(1,APG,APE)]⟩
def AGF[Lk]:Env:=AEl.BC AFy AUt
theorem ACO:A5 Tryz.prog AGF:=Row.A2 AEl AB6 Tryz.func240 API
abbrev tt:Row:=⟨241,0,1,4,0,some (3,107),SK,[(.ret,IZ)],Bx,[(10,[[],[],[],[],[],[],[],[],[],[],[0],[0],[],[],[0],[0],[0],[1],[0],[1]])],[(0,AKu,kF)]⟩
def wc[Lk]:Env:=tt.BC AGF breakT
theorem wa:A5 Tryz.prog wc:=Row.A2 tt ACO Tryz.func241 AKv
abbrev dj:Row:=⟨332,0,2,5,0,some (4,107),AIb,[(.ret,AIa)],BO,[(1,[[],[],[],[0],[0],[],[],[0],[0],[],[]])],[]⟩
def gZ[Lk]:Env:=dj.BC wc AEA
theorem mo:A5 Tryz.prog gZ:=Row.A2 dj wa Tryz.func332 zj
abbrev du:Row:=⟨297,0,2,6,0,some (5,107),AIs,[(.ret,dt)],A6,[],[]⟩
def gg[Lk]:Env:=du.BC gZ AEM
theorem mw:A5 Tryz.prog gg:=Row.A2 du mo Tryz.func297 zy
abbrev eE:Row:=⟨296,0,2,4,0,some (3,107),AIz,[(.ret,dt)],A6,[],[]⟩
def gk[Lk]:Env:=eE.BC gg AEP
theorem m8:A5 Tryz.prog gk:=Row.A2 eE mw Tryz.func296 z6
end
end Go.Pev
end
section
namespace Go.Pev
open Go.Proofs
noncomputable section
abbrev qB:Row:=⟨242,0,1,4,0,some (3,107),SK,[(.ret,ANX)],BO,[],[]⟩
def vK[Lk]:Env:=qB.BC gk ANZ
theorem vJ:A5 Tryz.prog vK:=Row.A2 qB m8 Tryz.func242 AIA
abbrev AM4:Row:=⟨243,0,1,4,0,some (3,107),SK,[(.ret,IZ)],Bx,[(3,[[],[],[],[],[],[],[0],[0],[],[],[0],[0],[0],[1],[0],[1]])],[(0,ASM,kF)]⟩
def ARL[Lk]:Env:=AM4.BC vK AWm
theorem ALI:A5 Tryz.prog ARL:=Row.A2 AM4 vJ Tryz.func243 ASN
abbrev Xc:Row:=⟨244,0,1,4,0,some (3,107),SK,[(.ret,zH)],A6,[(11,[[],[],[],[],[],[],[],[],[0],[0],[],[],[0],[0],[0],[1],[0],[1]]),(5,[[],[],[],[],[],[],[],[0],[0],[],[],[],[0],[0],[],[],[],[]]),(17,[[],[],[],[],[],[],[],[],[0],[0],[],[],[0],[0],[0],[1],[0],[1]]),(16,[[],[],[],[0],[0],[],[],[],[0],[0],[],[],[]]),(23,[[],[],[],[],[],[],[],[],[0],[0],[],[],[0],[0],[0],[1],[0],[1]]),(22,[[],[],[],[0],[0],[],[],[],[0],[0],[],[],[]])],[(0,TQ,qS),(1,TQ,qR),(2,qU,qQ),(3,qT,qP)]⟩
def Zx[Lk]:Env:=Xc.BC ARL qW
theorem bc:A5 Tryz.prog Zx:=Row.A2 Xc ALI Tryz.func244 qV
abbrev db:Row:=⟨245,0,1,5,0,some (4,107),I6,[(.ret,AIT)],A6,[(8,[[],[],[],[],[],[],[0],[0],[],[],[0],[0],[0],[1],[0],[1]]),(3,[[],[],[],[],[],[],[],[0],[0],[],[],[0],[0],[],[],[],[]]),(5,[[],[],[],[],[],[],[],[0],[0],[],[],[0],[0],[],[],[]]),(1,[[],[],[],[],[],[],[0],[0],[],[],[0],[0],[0],[1],[0],[1]])],[(0,OT,zQ),(1,OT,zP),(2,OT,zO)]⟩
def gV[Lk]:Env:=db.BC Zx AD6
theorem mg:A5 Tryz.prog gV:=Row.A2 db bc Tryz.func245 zR
abbrev AD1:Row:=⟨246,0,1,5,0,some (4,107),I6,[(.ret,ASv)],BO,[(3,[[],[],[],[],[],[],[],[0],[0],[],[],[0],[0],[],[],[]]),(5,[[],[],[],[],[],[],[],[0],[0],[],[],[0],[0],[],[],[],[]]),(18,[[],[],[],[],[],[],[0],[0],[],[],[0],[0],[0],[1],[0],[1]]),(13,[[],[],[],[],[],[],[],[0],[0],[],[],[0],[0],[],[],[]]),(15,[[],[],[],[],[],[],[],[0],[0],[],[],[0],[0],[],[],[],[]]),(21,[[],[],[],[],[],[],[0],[0],[],[],[0],[0],[0],[1],[0],[1]]),(10,[[],[],[],[],[],[],[0],[0],[],[],[0],[0],[0],[1],[0],[1]]),(8,[[],[],[],[],[],[],[0],[0],[],[],[0],[0],[0],[1],[0],[1]]),(1,[[],[],[],[],[],[],[0],[0],[],[],[0],[0],[0],[1],[0],[1]])],[(0,L8,AN1),(1,L8,AN0),(2,L8,ANz),(3,L8,ANy),(4,L8,ANx)]⟩
def mb[Lk]:Env:=AD1.BC gV AUn
theorem Zv:A5 Tryz.prog mb:=Row.A2 AD1 mg Tryz.func246 AN2
abbrev yw(self:(List (Int×Int×Int×Bool×Unit)×Int×Int×Int×Unit)→Option ((List (Int×Int×Int×Bool×Unit)×Unit))):Hints:={ loop:=fun n=>match n with|0=>K0 1 148 ADs ADr (ADq self)|_=>fun _ _ _=>none,fp:=fun n=>match n with|17=>[[],[],[],[],[],[],[],[0],[0],[],[],[0],[0],[],[],[],[]]|_=>[] }
abbrev jh(self:(List (Int×Int×Int×Bool×Unit)×Int×Int×Int×Unit)→Option ((List (Int×Int×Int×Bool×Unit)×Unit))):Env:=mb.ext 186 false true (Bb 1 5 I6 IZ Bx self)
theorem yv(self:(List (Int×Int×Int×Bool×Unit)×Int×Int×Int×Unit)→Option ((List (Int×Int×Int×Bool×Unit)×Unit))):∀ v,ADq self v=roundOf Tryz.prog (jh self) (yw self) 1 1 148 (DB Tryz.f186 0) ADs ADr v:=by rintro⟨a0,a1,a2,a3,a4,a5,⟨⟩⟩;kernel_rfl
theorem ASf:Cm (DB Tryz.f186 0) 1=[]:=by kernel_rfl
theorem ASg(self:(List (Int×Int×Int×Bool×Unit)×Int×Int×Int×Unit)→Option ((List (Int×Int×Int×Bool×Unit)×Unit)))(hE:A5 Tryz.prog (jh self)):I0 Tryz.prog 1 (.loop (DB Tryz.f186 0)) ((yw self).loop 0):=QB hE (yv self) (EU ASf trivial)
theorem ANp(self:(List (Int×Int×Int×Bool×Unit)×Int×Int×Int×Unit)→Option ((List (Int×Int×Int×Bool×Unit)×Unit))):∀ v,AVk self v=Dp 1 Tryz.prog (jh self) (yw self) Tryz.f186 I6 IZ Bx v:=by rintro⟨a0,a1,a2,a3,⟨⟩⟩;kernel_rfl
theorem AVj:Cm (CE Tryz.f186) 0=[(0,DB Tryz.f186 0)]:=by kernel_rfl
theorem yx:∀ n,BV Tryz.prog 186 (Bb 1 5 I6 IZ Bx (XZ n)):=by
 intro n;induction n with
  |zero=>exact JE fun _=>rfl
  |succ n ih=>have hE:A5 Tryz.prog (jh (XZ n)):=Env.CR Zv ih ((by simp)) (fun _=>Ce rfl rfl);let self:=XZ n;exact H3 hE Tryz.func186 (by kernel_rfl) (by kernel_rfl) rfl (ANp self) (EU AVj ⟨(ASg self hE),trivial⟩)
theorem AIN:BV Tryz.prog 186 (Bb 1 5 I6 IZ Bx ASi):=by have e:ASi=XZ 100:=funext ASh;rw[e];exact yx _
def ARR[Lk]:Env:=mb.VI 186 4 107 (Bb 1 5 I6 IZ Bx ASi)
theorem ALN:A5 Tryz.prog ARR:=Env.Qq Zv AIN (Ce rfl rfl)
abbrev ADC:Row:=⟨106,0,1,2,0,some (1,107),ASC,[(.ret,IZ)],Bx,[],[]⟩
def AFu[Lk]:Env:=ADC.BC ARR AMK
theorem AB2:A5 Tryz.prog AFu:=Row.A2 ADC ALN Tryz.func106 AMJ
abbrev AEv:Row:=⟨103,0,0,2,0,none,MG,[(.ret,BG)],A6,[],[]⟩
def AGL[Lk]:Env:=AEv.BC AFu APg
theorem ACU:A5 Tryz.prog AGL:=Row.A2 AEv AB2 Tryz.func103 APf
abbrev Qz:Row:=⟨190,0,3,2,8,some (1,191),QX,[(.ret,kz)],A6,[],[(0,bI,bH)]⟩
def RQ[Lk]:Env:=Qz.BC AGL O_
theorem Vp:A5 Tryz.prog RQ:=Row.A2 Qz ACU Tryz.func190 bJ
abbrev Ya:Row:=⟨128,0,0,1,0,none,BL,[(.ret,BG)],A6,[],[]⟩
def Z5[Lk]:Env:=Ya.BC RQ MW
theorem bl:A5 Tryz.prog Z5:=Row.A2 Ya Vp Tryz.func128 Tj
abbrev AUZ:Row:=⟨221,0,0,1,0,none,BL,[(.ret,BG)],A6,[],[]⟩
def AFm[Lk]:Env:=AUZ.BC Z5 wb1
theorem M4:A5 Tryz.prog AFm:=Row.A2 AUZ bl Tryz.func221 AVE
end
end Go.Pev
end
section
namespace Go.Pev
open Go.Proofs
noncomputable section
set_option maxHeartbeats 8000000
attribute [local irreducible] A4 A7 BT C1 E' DD A3 Dg Cb imax idx Cv ilt ile ieq seq? quo? rem? shl? shr? fits CZ IntKind.wrap BA BP aT AIp BH VJ A9 many LO
abbrev Ab8:Loc×Con:=(.cell 0 0,.dat (.slice (.int .u8)))
abbrev Ab9:Loc×Con:=(.tmp 0,.box 2)
abbrev Gr:A1:=[Ab9,Ab8,AbF,(.tmp 1,.clo 221 [])]
abbrev Gq:A1:=[AB,AaS,Ab8,AbF]
abbrev H7:List RS:=[.one]
abbrev Lj:A1:=[AaS]
def WV[Lk]:Hints:={ fp:=Ql [(1,[[],[0],[0],[0],[],[0],[0],[0],[],[]]),(3,[[],[0],[0],[0],[],[0],[0],[0],[],[],[],[]])] }
def Ra[Lk](v:Bg (leaves Gr)):Option (Bg (leaves Gq)⊕(List Int×Bg (leaves Lj))):=Lk.f (DR 1 Tryz.prog AFm WV Tryz.f220 Gr Gq H7 239 [.i64,.i64] Lj v)
theorem cD(v):Ra v=DR 1 Tryz.prog AFm WV Tryz.f220 Gr Gq H7 239 [.i64,.i64] Lj v:=A0 _
theorem PM:By Tryz.prog 1 WV (CE Tryz.f220) 0:=C2 _ 0 (by kernel_rfl)
theorem AGq:Gm Tryz.prog 220 (Bb 1 2 Gr Gq H7 fun x=>DC (Ra x)) (HR 1 2 Gr Gq H7 239 [.i64,.i64] Lj Ra):=J5 M4.1 M4.2.1 M4.2.2 Tryz.func220 (Fk (by kernel_rfl)) (CV Tryz.func220 (by kernel_rfl) (by kernel_rfl)) (AYD rfl) cD PM
theorem AGp:BV Tryz.prog 220 (Bb 1 2 Gr Gq H7 fun x=>DC (Ra x)):=J3 M4 Tryz.func220 (by kernel_rfl) (by kernel_rfl) rfl cD PM
def RB[Lk]:Env:=Env.Tr AFm 220 1 221 (Bb 1 2 Gr Gq H7 fun x=>DC (Ra x)) (HR 1 2 Gr Gq H7 239 [.i64,.i64] Lj Ra)
theorem G':A5 Tryz.prog RB:=Env.sZ M4 AGp AGq (Ce rfl rfl)
abbrev Gp:A1:=[Ab9,Ab8,AbF,(.tmp 1,.clo 164 [])]
abbrev Gn:A1:=[AB,AaS,Ab8,AbF]
abbrev H6:List RS:=[.one]
abbrev Li:A1:=[AaS]
def WU[Lk]:Hints:={ fp:=Ql [(1,[[],[0],[0],[0],[],[0],[0],[0],[],[]]),(3,[[],[0],[0],[0],[],[0],[0],[0],[],[],[],[]])] }
def RZ[Lk](v:Bg (leaves Gp)):Option (Bg (leaves Gn)⊕(List Int×Bg (leaves Li))):=Lk.f (DR 1 Tryz.prog RB WU Tryz.f220 Gp Gn H6 239 [.i64,.i64] Li v)
theorem cC(v):RZ v=DR 1 Tryz.prog RB WU Tryz.f220 Gp Gn H6 239 [.i64,.i64] Li v:=A0 _
theorem PL:By Tryz.prog 1 WU (CE Tryz.f220) 0:=C2 _ 0 (by kernel_rfl)
theorem AGo:Gm Tryz.prog 220 (Bb 1 2 Gp Gn H6 fun x=>DC (RZ x)) (HR 1 2 Gp Gn H6 239 [.i64,.i64] Li RZ):=J5 G'.1 G'.2.1 G'.2.2 Tryz.func220 (Fk (by kernel_rfl)) (CV Tryz.func220 (by kernel_rfl) (by kernel_rfl)) (AYD rfl) cC PL
theorem AGn:BV Tryz.prog 220 (Bb 1 2 Gp Gn H6 fun x=>DC (RZ x)):=J3 G' Tryz.func220 (by kernel_rfl) (by kernel_rfl) rfl cC PL
def RA[Lk]:Env:=Env.Tr RB 220 1 164 (Bb 1 2 Gp Gn H6 fun x=>DC (RZ x)) (HR 1 2 Gp Gn H6 239 [.i64,.i64] Li RZ)
theorem G_:A5 Tryz.prog RA:=Env.sZ G' AGn AGo (Ce rfl rfl)
abbrev I4:A1:=[Ab9,Ab8,AbF]
abbrev I3:A1:=[AB,AaS,Ab8,AbF]
abbrev KX:List RS:=[.one]
abbrev PK:A1:=[AaS]
def iK[Lk]:Hints:={ fp:=Ql [(1,[[],[0],[0],[0],[],[0],[0],[0],[],[],[],[],[],[]])] }
def b7[Lk](v:Bg (leaves I4)):Option (Bg (leaves I3)⊕(List Int×Bg (leaves PK))):=Lk.f (DR 1 Tryz.prog RA iK Tryz.f222 I4 I3 KX 239 [.i64,.i64] PK v)
theorem ni(v):b7 v=DR 1 Tryz.prog RA iK Tryz.f222 I4 I3 KX 239 [.i64,.i64] PK v:=A0 _
theorem S6:By Tryz.prog 1 iK (CE Tryz.f222) 0:=C2 _ 0 (by kernel_rfl)
theorem ALk:Gm Tryz.prog 222 (Bb 1 1 I4 I3 KX fun x=>DC (b7 x)) (HR 1 1 I4 I3 KX 239 [.i64,.i64] PK b7):=J5 G_.1 G_.2.1 G_.2.2 Tryz.func222 (Fk (by kernel_rfl)) (CV Tryz.func222 (by kernel_rfl) (by kernel_rfl)) (AYD rfl) ni S6
theorem ALj:BV Tryz.prog 222 (Bb 1 1 I4 I3 KX fun x=>DC (b7 x)):=J3 G_ Tryz.func222 (by kernel_rfl) (by kernel_rfl) rfl ni S6
def Nk[Lk]:Env:=Env.ki RA 222 true (Bb 1 1 I4 I3 KX fun x=>DC (b7 x)) (HR 1 1 I4 I3 KX 239 [.i64,.i64] PK b7)
theorem EW:A5 Tryz.prog Nk:=Env.WI G_ ALj ALk (fun _=>Ce rfl rfl)
abbrev AcA:Loc×Con:=(.cell 1 2,.own 46 (.prod (.int .i64) (.prod (.int .i64) (.prod (.int .i64) .unit))))
abbrev AcB:Loc×Con:=(.cell 1 1,.own 88 (.prod (.int .i64) (.prod (.int .i64) .unit)))
abbrev NH:A1:=[Ab9,Ab8,AbF,AbI,AQ,AcB,AcA,Abn,(.tmp 20,.di)]
abbrev NG:BF:=[(.exit 0,[Ab9,Ab8,AbF,AbI,AQ,AcB,AcA])]
abbrev NF:A1:=[AaS]
def cF[Lk]:Hints:={ fp:=Ql [(9,[[2],[2],[],[1000005,1],[],[1000005,1],[],[1000005,1],[],[],[7,32],[2],[3]]),(10,[[2],[2],[],[1000005,1],[],[1000005,1],[],[],[5,24],[2],[3]])] }
theorem PO:By Tryz.prog 1 { fp:=Ql [(9,[[2],[2],[],[1000005,1],[],[1000005,1],[],[1000005,1],[],[],[7,32],[2],[3]]),(10,[[2],[2],[],[1000005,1],[],[1000005,1],[],[],[5,24],[2],[3]])],loop:=fun _=>Kz 1 49 NH NG 239 [.i64,.i64] NF (IJ Tryz.prog Nk cF 1 1 49 (DB Tryz.f157 0) NH NG 239 [.i64,.i64] NF) } (CE Tryz.f157) 0:=T5 (l:=[(0,(DB Tryz.f157 0))]) (by kernel_rfl) ⟨Xz EW.1 EW.2.1 EW.2.2 (fun _=>rfl) (C2 _ _ (by kernel_rfl)),trivial⟩
abbrev Gt:A1:=[Ab9,Ab8,AbF]
abbrev Gs:A1:=[(.tmp 0,.dat (.prod (.int .i64) (.prod (.slice (.prod (.int .i64) (.prod (.int .i64) .unit))) (.prod (.slice (.prod (.int .i64) (.prod (.int .i64) (.prod (.int .i64) .unit)))) .unit)))),AaS,Ab8,AbF]
abbrev H8:List RS:=[.one]
abbrev Ln:A1:=[AaS]
def nu[Lk]:Hints:={ fp:=Ql [(9,[[2],[2],[],[1000005,1],[],[1000005,1],[],[1000005,1],[],[],[7,32],[2],[3]]),(10,[[2],[2],[],[1000005,1],[],[1000005,1],[],[],[5,24],[2],[3]])],loop:=fun _=>Kz 1 49 NH NG 239 [.i64,.i64] NF (IJ Tryz.prog Nk cF 1 1 49 (DB Tryz.f157 0) NH NG 239 [.i64,.i64] NF) }
def Rb[Lk](v:Bg (leaves Gt)):Option (Bg (leaves Gs)⊕(List Int×Bg (leaves Ln))):=Lk.f (DR 1 Tryz.prog Nk nu Tryz.f157 Gt Gs H8 239 [.i64,.i64] Ln v)
theorem cG(v):Rb v=DR 1 Tryz.prog Nk nu Tryz.f157 Gt Gs H8 239 [.i64,.i64] Ln v:=A0 _
theorem AGs:Gm Tryz.prog 157 (Bb 1 1 Gt Gs H8 fun x=>DC (Rb x)) (HR 1 1 Gt Gs H8 239 [.i64,.i64] Ln Rb):=J5 EW.1 EW.2.1 EW.2.2 Tryz.func157 (Fk (by kernel_rfl)) (CV Tryz.func157 (by kernel_rfl) (by kernel_rfl)) (AYD rfl) cG PO
theorem AGr:BV Tryz.prog 157 (Bb 1 1 Gt Gs H8 fun x=>DC (Rb x)):=J3 EW Tryz.func157 (by kernel_rfl) (by kernel_rfl) rfl cG PO
def M3[Lk]:Env:=Env.ki Nk 157 false (Bb 1 1 Gt Gs H8 fun x=>DC (Rb x)) (HR 1 1 Gt Gs H8 239 [.i64,.i64] Ln Rb)
theorem HA:A5 Tryz.prog M3:=Env.WI EW AGr AGs (by simp)
abbrev AcC:Loc×Con:=(.tmp 2,.own 91 (.prod (.int .i64) (.prod (.slice (.prod (.int .i64) (.prod (.int .i64) .unit))) (.prod (.slice (.prod (.int .i64) (.prod (.int .i64) (.prod (.int .i64) .unit)))) .unit))))
abbrev AcD:Loc×Con:=(.cell 2 0,.dat (.slice (.int .u8)))
abbrev Kc:A1:=[Ar,At,AO,AQ,(.tmp 5,.box 2),AcD,Abf,Ab4,AcC]
abbrev Kb:BF:=[(.exit 0,[Ar,At,AO,AQ,(.tmp 5,.box 2),AcD,Abf,Ab4,AcC])]
abbrev Ka:A1:=[Ar,At,AO,AQ,AcC]
def WZ[Lk]:Hints:={}
theorem aK[DfI]:By Tryz.prog 2 { fp:=Ql [(5,[[],[],[4],[4],[4],[],[1],[3]])],loop:=fun _=>Kz 2 27 Kc Kb 239 [.i64,.i64] Ka (IJ Tryz.prog M3 WZ 1 2 27 (DB Tryz.f77 0) Kc Kb 239 [.i64,.i64] Ka) } (tQ 1 (CE Tryz.f77)) 0:=T5 (l:=[(0,(DB Tryz.f77 0))]) (by kernel_rfl) ⟨Xz HA.1 HA.2.1 HA.2.2 (fun _=>rfl) (C2 _ _ (by kernel_rfl)),trivial⟩
def Nl[Lk]:Env:=M3.ext 156 false false (CL Tryz.prog M3 {} Tryz.f156)
theorem Hj:A5 Tryz.prog Nl:=Env.CR HA (B5 HA Tryz.func156 (by kernel_rfl) (by kernel_rfl) (by kernel_rfl)) (by simp) (by simp)
abbrev Jr:A1:=[Ab4]
abbrev Jq:A1:=[(.tmp 0,.dat (.slice (.prod (.int .i64) (.prod (.slice (.prod (.int .i64) (.prod (.int .i64) .unit))) (.prod (.slice (.prod (.int .i64) (.prod (.int .i64) (.prod (.int .i64) .unit)))) .unit))))),AI,AJ]
abbrev NI:List RS:=[.one,.one,.one]
abbrev cH:A1:=[Ar,At,AO,AQ,Ab4,(.tmp 2,.nil (.prod (.int .i64) (.prod (.slice (.prod (.int .i64) (.prod (.int .i64) .unit))) (.prod (.slice (.prod (.int .i64) (.prod (.int .i64) (.prod (.int .i64) .unit)))) .unit))))]
def WY[Lk]:Hints:={ fp:=Ql [(5,[[],[],[4],[4],[4],[],[1],[3]])],loop:=fun _=>Kz 2 27 Kc Kb 239 [.i64,.i64] Ka (IJ Tryz.prog M3 WZ 1 2 27 (DB Tryz.f77 0) Kc Kb 239 [.i64,.i64] Ka) }
def WX:Hints:={ fp:=Ql [(2,[[14],[14],[14],[14],[1],[3]])] }
def Kd[Lk](v:Bg (leaves Jr)):Option (Bg (leaves Jq)):=Lk.f (R2 Tryz.prog Nl Tryz.f77 1 Jr Jq NI {} WY WX cH 2 v)
theorem w7(v):Kd v=R2 Tryz.prog Nl Tryz.f77 1 Jr Jq NI {} WY WX cH 2 v:=A0 _
theorem iM:BV Tryz.prog 77 (Bb 0 1 Jr Jq NI Kd):=rI Hj.1 Hj.2.1 Hj.2.2 Tryz.func77 (Fk (by kernel_rfl)) (CV Tryz.func77 (by kernel_rfl) (by kernel_rfl)) (AYD rfl) w7 aK
def fj[Lk]:Env:=Nl.ext 77 true true (Bb 0 1 Jr Jq NI Kd)
theorem lv:A5 Tryz.prog fj:=Env.CR Hj iM (fun _=>Kx rfl rfl) (fun _=>Ce rfl rfl)
end
end Go.Pev
end
section
namespace Go.Pev
noncomputable section
def jD[Lk]:U8→Option (Uc):=fun(a,_)=>
 some ((ieq a (w64 (IntKind.wrap .u16 a))),())
def ADS[Lk]:=fun v=>Lk.f (jD v)
theorem og v:ADS v=jD v:=A0 _
abbrev MU:A1:=[AE,(.tmp 1,.clo 150 [])]
abbrev VG:A1:=[AE,(.tmp 1,.clo 150 []),AU,AT]
def D2[Lk]:Ub→Option (Ub⊕U8⊕(Unit)⊕Unit):=fun(b,c,a,_)=>
 match(ilt a c)with
 |true=>match idx b a with|none=>none|some d=>match ADS (d,())with|none=>none|some (e,_)=>match(!e)with
  |true=>some (.inr (.inl (a,())))
  |false=>some (.inl (b,c,(w64 (a+1)),()))
 |false=>some (.inr (.inr (.inl ())))
def Ij[Lk]:Ua→Option (U8):=fun(a,_)=>
 match A9 D2 many (a,(A4 a),0,())with|none=>none|some r=>match r with
 |.inl (b,_)=>some (b,())
 |.inr r=>match r with
 |.inl _=>some ((-1:Int),())
 |.inr _=>none
def LD[Lk]:=fun v=>Lk.f (Ij v)
theorem LX v:LD v=Ij v:=A0 _
def HN[Lk]:Ua→Option (Uc):=fun(a,_)=>
 match LD (a,())with|none=>none|some (b,_)=>some ((ile 0 b),())
def Gk[Lk]:=fun v=>Lk.f (HN v)
theorem KM v:Gk v=HN v:=A0 _
def Rk[Lk]:U8→Option (Uc):=fun(a,_)=>
 match(ile 0 a)with
 |true=>some ((ile a 65535),())
 |false=>some (false,())
def NQ[Lk]:=fun v=>Lk.f (Rk v)
theorem W6 v:NQ v=Rk v:=A0 _
abbrev ARv:A1:=[(.tmp 0,.own 5 (.int .u8))]
def iP[Lk]:U8→Option (Ua):=fun(a,_)=>
 match quo? .i64 a 256 with|none=>none|some b=>match rem? a 256 with|none=>none|some c=>some (([(IntKind.wrap .u8 b),(IntKind.wrap .u8 c)]:List (Int)),())
def cI[Lk]:=fun v=>Lk.f (iP v)
theorem nz v:cI v=iP v:=A0 _
abbrev Yu:A1:=[(.tmp 0,.dat Ut)]
abbrev LI:A1:=[(.tmp 0,.own 5 (.int .u8)),AI]
abbrev AcE:Loc×Con:=(.tmp 4,.own 5 (.int .u8))
abbrev sk:A1:=[Aa7,AO,AbF,(.cell 0 2,.dat U6),AcE,AG]
abbrev Mg:BF:=[(.ret,[(.tmp 2,.nil (.int .u8)),AX]),(.exit 0,[AcE])]
def EO[Lk]:(Int×Int×List Int×List Int×Int×Unit)→Option ((Int×Int×List Int×List Int×Int×Unit)⊕U8⊕Ua⊕Unit):=fun(e,f,a,c,b,_)=>
 match(ilt b (A4 a))with
 |true=>match idx a b with|none=>none|some g=>match NQ (g,())with|none=>none|some (h,_)=>match(!h)with
  |true=>some (.inr (.inl (1,())))
  |false=>match idx a b with|none=>none|some i=>match cI (i,())with|none=>none|some (d,_)=>match(fits ((A4 c)+(A4 d)))with
  |true=>some (.inl (e,f,a,(BT c d),(w64 (b+1)),()))
  |false=>none
 |false=>some (.inr (.inr (.inl (c,()))))
def O9[Lk]:(Ui×Unit)→Option (Uh):=fun(a,_)=>
 match(ilt a.1 0)with
 |true=>some (([]:List (Int)),1,())
 |false=>match(ilt 255 a.1)with
 |true=>some (([]:List (Int)),1,())
 |false=>match NQ (a.2.1,())with|none=>none|some (d,_)=>match(!d)with
 |true=>some (([]:List (Int)),1,())
 |false=>match NQ ((A4 a.2.2.1),())with|none=>none|some (e,_)=>match(!e)with
 |true=>some (([]:List (Int)),1,())
 |false=>match cI (a.2.1,())with|none=>none|some (b,_)=>match(fits ((A4 ([(IntKind.wrap .u8 a.1)]:List (Int)))+(A4 b)))with
 |true=>match cI ((A4 a.2.2.1),())with|none=>none|some (c,_)=>match(fits ((A4 (BT ([(IntKind.wrap .u8 a.1)]:List (Int)) b))+(A4 c)))with
  |true=>match A9 EO many (a.1,a.2.1,a.2.2.1,(BT (BT ([(IntKind.wrap .u8 a.1)]:List (Int)) b) c),0,())with|none=>none|some r=>match r with
   |.inl (f,_)=>some (([]:List (Int)),f,())
   |.inr r=>match r with
   |.inl (g,_)=>some (g,0,())
   |.inr _=>none
  |false=>none
 |false=>none
def Qw[Lk]:=fun v=>Lk.f (O9 v)
theorem Ts v:Qw v=O9 v:=A0 _
abbrev AMm:A1:=[(.tmp 0,.dat Ut),(.tmp 1,.dat Ut)]
def pH[Lk]:(Ui×Ui×Unit)→Option (Uc):=fun(a,b,_)=>
 match(ieq a.1 b.1)with
 |true=>match(ieq a.2.1 b.2.1)with
  |true=>match Ot (a.2.2.1,b.2.2.1,())with|none=>none|some (c,_)=>some (c,())
  |false=>some (false,())
 |false=>some (false,())
def Rq[Lk]:=fun v=>Lk.f (pH v)
theorem AHd v:Rq v=pH v:=A0 _
abbrev pJ:A1:=[AaV,(.tmp 1,.dat Um)]
abbrev AcF:Loc×Con:=(.tmp 3,.box 2)
abbrev AHf:A1:=[AP,AO,Aad,AcF,AQ,(.cell 1 1,.dat Uy),AG]
def AHe[Lk]:(Int×List U1×Int×List U1×Int×Unit)→Option ((Int×List U1×Int×List U1×Int×Unit)⊕Uc⊕(Unit)⊕Unit):=fun(f,d,g,e,a,_)=>
 match(ilt a (A4 d))with
 |true=>match idx d a with|none=>none|some b=>match idx e a with|none=>none|some c=>match(!(ieq b.1 c.1&&(ieq b.2.1 c.2.1&&(ieq b.2.2.1 c.2.2.1&&((b.2.2.2.1==c.2.2.2.1)&&true)))))with
  |true=>some (.inr (.inl (false,())))
  |false=>some (.inl (f,d,g,e,(w64 (a+1)),()))
 |false=>some (.inr (.inr (.inl ())))
def pK[Lk]:(Uf×Uf×Unit)→Option (Uc):=fun(a,b,_)=>
 match(!(ieq a.1 b.1))with
 |true=>some (false,())
 |false=>match(!(ieq (A4 a.2.1) (A4 b.2.1)))with
 |true=>some (false,())
 |false=>match A9 AHe many (a.1,a.2.1,b.1,b.2.1,0,())with|none=>none|some r=>match r with
 |.inl (c,_)=>some (c,())
 |.inr r=>match r with
 |.inl _=>some (true,())
 |.inr _=>none
def XF[Lk]:=fun v=>Lk.f (pK v)
theorem AHg v:XF v=pK v:=A0 _
abbrev APx:A1:=[Abv,Abb]
abbrev AJy:A1:=[Abv,Abb,AR,AS]
def AJx[Lk]:(List U1×List U1×Int×Int×Unit)→Option ((List U1×List U1×Int×Int×Unit)⊕Uc⊕(Unit)⊕Unit):=fun(d,e,f,a,_)=>
 match(ilt a f)with
 |true=>match idx d a with|none=>none|some b=>match idx e a with|none=>none|some c=>match(!(ieq b.1 c.1&&(ieq b.2.1 c.2.1&&(ieq b.2.2.1 c.2.2.1&&((b.2.2.2.1==c.2.2.2.1)&&true)))))with
  |true=>some (.inr (.inl (false,())))
  |false=>some (.inl (d,e,f,(w64 (a+1)),()))
 |false=>some (.inr (.inr (.inl ())))
def se[Lk]:(List U1×List U1×Unit)→Option (Uc):=fun(a,b,_)=>
 match(!(ieq (A4 a) (A4 b)))with
 |true=>some (false,())
 |false=>match A9 AJx many (a,b,(A4 a),0,())with|none=>none|some r=>match r with
 |.inl (c,_)=>some (c,())
 |.inr r=>match r with
 |.inl _=>some (true,())
 |.inr _=>none
def AAc[Lk]:=fun v=>Lk.f (se v)
theorem AJz v:AAc v=se v:=A0 _
def AES[Lk]:(Uf×Uf×Unit)→Option (Uc):=fun(a,b,_)=>
 match(ieq a.1 b.1)with
 |true=>match AAc (a.2.1,b.2.1,())with|none=>none|some (c,_)=>some (c,())
 |false=>some (false,())
def AOh[Lk]:=fun v=>Lk.f (AES v)
theorem AOg v:AOh v=AES v:=A0 _
def HM[Lk]:Ua→Option (Uc):=fun(a,_)=>
 match LB (a,())with|none=>none|some (b,_)=>some ((ile 0 b),())
def Gj[Lk]:=fun v=>Lk.f (HM v)
theorem KL v:Gj v=HM v:=A0 _
abbrev Q3:A1:=[AaS,AO,Az,AF]
def Fg[Lk]:(List Int×Int×List U5×Unit)→Option ((Int×List U5×Bool×Unit)):=fun(a,b,c,_)=>
 match Ih (a,b,c,())with|none=>none|some (d,e,f,_)=>some (d,e,(ile 0 f),())
def Ez[Lk]:=fun v=>Lk.f (Fg v)
theorem Io v:Ez v=Fg v:=A0 _
def Ip[Lk]:Ua→Option (Uc):=fun(a,_)=>
 match MO (a,())with|none=>none|some (b,_)=>some ((ile 0 b),())
def Hd[Lk]:=fun v=>Lk.f (Ip v)
theorem LZ v:Hd v=Ip v:=A0 _
abbrev O':A1:=[Ai,Ab2,AF]
def Iq[Lk]:Vc→Option ((List Int×Bool×Unit)):=fun(a,b,_)=>
 match HL (a,b,())with|none=>none|some (c,d,_)=>some (c,(ile 0 d),())
def GV[Lk]:=fun v=>Lk.f (Iq v)
theorem Np v:GV v=Iq v:=A0 _
abbrev bL:A1:=[AaS,AO,Aad,AF]
def N5[Lk]:(List Int×Int×List U1×Unit)→Option ((Int×List U1×Bool×Unit)):=fun(a,b,c,_)=>
 match O0 (a,b,c,())with|none=>none|some (d,e,f,_)=>some (d,e,(ile 0 f),())
def Mq[Lk]:=fun v=>Lk.f (N5 v)
theorem Y6 v:Mq v=N5 v:=A0 _
abbrev Y2:A1:=[Abt,Abz,AQ,Aby,(.tmp 0,.win' 0)]
abbrev VM:A1:=[Abt,Abz,AQ,Aby,An,Abx,AG,Aab]
abbrev VL:BF:=[(.exit 0,[Abt,Abz,AQ,Aby,An,AG])]
def VK[Lk]:(List Int×Int×List U5×Int×Int×Unit)→Option ((List Int×Int×List U5×Int×Int×Unit)⊕(List Int×Int×List U5×Int×Unit)⊕Unit):=fun(a,d,e,c,b,_)=>
 match(ilt b (A4 a))with
 |true=>match idx a b with|none=>none|some f=>match(!(ile d (A7 a (A3 b) 0)))with
  |true=>match idx a c with|none=>none|some g=>some (.inl ((BH a (A3 c) (A7 a (A3 b) 0)),d,e,(w64 (c+1)),(w64 (b+1)),()))
  |false=>some (.inl (a,d,e,c,(w64 (b+1)),()))
 |false=>some (.inr (.inl (a,d,e,c,())))
def Mk[Lk]:(List Int×Int×List U5×Unit)→Option ((List Int×Int×List U5×Int×Unit)):=fun(h,i,j,_)=>
 match LC (h,i,j,())with|none=>none|some (c,e,f,d,_)=>match(ieq d (-1:Int))with
 |true=>some (c,e,f,(A4 c),())
 |false=>match A9 VK many (c,e,f,d,(w64 (d+1)),())with|none=>none|some r=>match r with
 |.inl (a,k,l,b,_)=>match Cv a b (A4 a)with|none=>none|some g=>match Cv (Dg (A3 b) (A3 (A4 g)) 0 a) 0 b with|none=>none|some m=>some ((Dg (A3 b) (A3 (A4 g)) 0 a),k,l,(((A3 (A4 m)):Nat):Int),())
 |.inr _=>none
def LN[Lk]:=fun v=>Lk.f (Mk v)
theorem VN v:LN v=Mk v:=A0 _
def tD[Lk]:Vc→Option (Uc):=fun(a,b,_)=>
 match GV (b,a,())with|none=>none|some (d,c,_)=>some ((!c),())
def Y5[Lk]:=fun v=>Lk.f (tD v)
theorem AKK v:Y5 v=tD v:=A0 _
abbrev AKs:A1:=[AE,(.tmp 1,.dat (.prod U0 U4))]
def fU[Lk]:(List Int×Ug×Unit)→Option (U3):=fun(b,a,_)=>
 match(ieq a.1 1)with
 |true=>match Y5 (b,([a.2.1,a.2.2.1]:List (Int)),())with|none=>none|some (c,_)=>match(!c)with
  |true=>some (0,10,())
  |false=>match idx b a.2.1 with|none=>none|some d=>match idx b a.2.2.1 with|none=>none|some e=>match(ieq d e)with
  |true=>some (1,0,())
  |false=>some (0,0,())
 |false=>match(ieq a.1 2)with
 |true=>match Y5 (b,([a.2.1]:List (Int)),())with|none=>none|some (f,_)=>match(!f)with
  |true=>some (0,10,())
  |false=>match(ieq a.1 2)with
  |true=>match idx b a.2.1 with|none=>none|some g=>some (g,0,())
  |false=>match k8 (b,b,a.1,a.2.1,a.2.2.1,())with|none=>none|some (m,n,o,p,h,_)=>some (h,0,())
 |false=>match(ieq a.1 3)with
 |true=>match Y5 (b,([a.2.1]:List (Int)),())with|none=>none|some (i,_)=>match(!i)with
  |true=>some (0,10,())
  |false=>match(ieq a.1 2)with
  |true=>match idx b a.2.1 with|none=>none|some j=>some (j,0,())
  |false=>match k8 (b,b,a.1,a.2.1,a.2.2.1,())with|none=>none|some (q,r,s,t,k,_)=>some (k,0,())
 |false=>match(ieq a.1 4)with
 |true=>match ABA (b,())with|none=>none|some (l,_)=>some (l,0,())
 |false=>some (0,1,())
def lW[Lk]:=fun v=>Lk.f (fU v)
theorem ABZ v:lW v=fU v:=A0 _
abbrev xr:A1:=[(.tmp 5,.own 5 (.int .u8)),(.tmp 33,.own 3 U0),(.tmp 34,.di),(.tmp 35,.di)]
abbrev xq:BF:=[(.exit 0,[(.tmp 5,.own 5 (.int .u8))])]
def F6[Lk]:Va→Option (Va⊕Ua⊕Unit):=fun(c,b,d,a,_)=>
 match(ilt a d)with
 |true=>match idx b a with|none=>none|some f=>match shr? .i64 (A7 b (A3 a) 0) 8 with|none=>none|some e=>match(fits ((A4 c)+(A4 ([(IntKind.wrap .u8 e),(IntKind.wrap .u8 (A7 b (A3 a) 0))]:List (Int)))))with
  |true=>some (.inl ((BT c ([(IntKind.wrap .u8 e),(IntKind.wrap .u8 (A7 b (A3 a) 0))]:List (Int))),b,d,(w64 (a+1)),()))
  |false=>none
 |false=>some (.inr (.inl (c,())))
def Rl[Lk]:(Ui×Unit)→Option (Uh):=fun(a,_)=>
 match He (([([a.2.1,(A4 a.2.2.1)]:List (Int)),a.2.2.1]:List U5),())with|none=>none|some (b,_)=>match(!(ieq a.1 (w64 (IntKind.wrap .u8 a.1))))with
 |true=>some (([]:List (Int)),1,())
 |false=>match Gk (b,())with|none=>none|some (c,_)=>match c with
 |true=>some (([]:List (Int)),1,())
 |false=>match A9 F6 many (([(IntKind.wrap .u8 a.1)]:List (Int)),b,(A4 b),0,())with|none=>none|some r=>match r with
 |.inl (d,_)=>some (d,0,())
 |.inr _=>none
def Vy[Lk]:=fun v=>Lk.f (Rl v)
theorem W7 v:Vy v=Rl v:=A0 _
def XK[Lk]:Ua→Option (Uc):=fun(a,_)=>
 match(ilt 1000 (A4 a))with
 |true=>some (false,())
 |false=>match Gj (a,())with|none=>none|some (b,_)=>match(!b)with
 |true=>match once (a,())with|none=>none|some (c,_)=>some (c,())
 |false=>some (false,())
def L4[Lk]:=fun v=>Lk.f (XK v)
theorem dH v:L4 v=XK v:=A0 _
abbrev AH9:A1:=[AE,Aa,(.tmp 12,.dat U6),AS,AbZ]
abbrev AH8:BF:=[(.exit 0,[Aa])]
def Hq[Lk]:Vd→Option (Vd⊕Ua⊕Unit):=fun(c,a,d,e,b,_)=>
 match(ilt b e)with
 |true=>match idx d b with|none=>none|some g=>match SU (c,g,())with|none=>none|some (f,_)=>match(fits ((A4 a)+(A4 ([f]:List (Int)))))with
  |true=>some (.inl (c,(BT a ([f]:List (Int))),d,e,(w64 (b+1)),()))
  |false=>none
 |false=>some (.inr (.inl (a,())))
def XV[Lk]:Vc→Option ((List Int×Bool×Unit)):=fun(a,b,_)=>
 match L4 (a,())with|none=>none|some (d,_)=>match(!d)with
 |true=>some (([]:List (Int)),false,())
 |false=>match A9 Hq many (a,([]:List (Int)),b,(A4 b),0,())with|none=>none|some r=>match r with
 |.inl (c,_)=>match GU (c,(-1:Int),())with|none=>none|some (e,_)=>some (c,(!e),())
 |.inr _=>none
def places[Lk]:=fun v=>Lk.f (XV v)
theorem dY v:places v=XV v:=A0 _
def jT[Lk]:Uh→Option ((List Int×Bool×Unit)):=fun(a,c,_)=>
 match places (a,([c]:List (Int)),())with|none=>none|some (b,d,_)=>match(!d)with
 |true=>some (([]:List (Int)),false,())
 |false=>match idx b 0 with|none=>none|some f=>match Wf (a,(A7 b 0 0),())with|none=>none|some (e,_)=>some (e,true,())
def pg[Lk]:=fun v=>Lk.f (jT v)
theorem pf v:pg v=jT v:=A0 _
def XL[Lk]:Ua→Option (Ua):=fun(a,_)=>
 match L4 (a,())with|none=>none|some (b,_)=>match(!b)with
 |true=>some (([]:List (Int)),())
 |false=>match(ieq (A4 a) 0)with
 |true=>some (([]:List (Int)),())
 |false=>match AOc (a,())with|none=>none|some (c,_)=>match SU (a,c,())with|none=>none|some (d,_)=>match Wf (a,d,())with|none=>none|some (e,_)=>some (e,())
def jR[Lk]:=fun v=>Lk.f (XL v)
theorem dI v:jR v=XL v:=A0 _
abbrev AG0:A1:=[Af,Aah,(.tmp 79,.di)]
abbrev AGx:BF:=[(.ret,[AK]),(.exit 4,[])]
def Hl[Lk]:(List Uz×Int×Int×Unit)→Option ((List Uz×Int×Int×Unit)⊕Uc⊕(Unit)⊕Unit):=fun(b,c,a,_)=>
 match(ilt a c)with
 |true=>match(ieq ((BA b a).getD 0) 0)with
  |true=>some (.inr (.inl (false,())))
  |false=>some (.inl (b,c,(w64 (a+1)),()))
 |false=>some (.inr (.inr (.inl ())))
abbrev AcG:Loc×Con:=(.tmp 29,.di)
abbrev AcH:Loc×Con:=(.tmp 47,.di)
abbrev AcI:Loc×Con:=(.tmp 42,.di)
abbrev AcJ:Loc×Con:=(.tmp 28,.di)
abbrev AcK:Loc×Con:=(.tmp 18,.di)
abbrev AG1:A1:=[Aae,AO,Az,Af,AW,(.tmp 16,.dat Ue),(.tmp 17,.di),AcK,(.tmp 26,.dat U6),AcJ,AcG,(.tmp 30,.dat .bool),(.tmp 33,.dat U6),(.tmp 34,.dat .bool),(.tmp 35,.dat .bool),(.tmp 38,.dat U6),AbO,(.tmp 40,.dat U6),AcI,(.tmp 43,.dat .bool),(.tmp 46,.ptr' 0 0),AcH,(.tmp 48,.dat U6),(.tmp 49,.dat .bool),(.tmp 50,.dat .bool),(.tmp 55,.dat U6),(.tmp 56,.di),(.tmp 57,.di)]
abbrev AGy:BF:=[(.ret,[AK]),(.exit 2,[Aae,AO,Az,Af,AW,(.tmp 16,.dat Ue),(.tmp 17,.di),AcK,(.tmp 26,.dat U6),AcJ,AcG,(.tmp 30,.dat .bool),(.tmp 33,.dat U6),(.tmp 34,.dat .bool),(.tmp 35,.dat .bool),(.tmp 38,.dat U6),AbO,(.tmp 40,.dat U6),AcI,(.tmp 43,.dat .bool),(.tmp 46,.ptr' 0 0),AcH,(.tmp 48,.dat U6),(.tmp 49,.dat .bool),(.tmp 50,.dat .bool)])]
def Fy[Lk]:Vi→Option (Vi⊕Uc⊕(Int×List U5×List Uz×Int×List U5×Int×Int×List Int×Int×Int×Bool×List Int×Bool×Bool×List Int×Int×List Int×Int×Bool×Int×List Int×Bool×Bool×Unit)⊕Unit):=fun(c,e,a,f,g,h,i,j,k,l,m,n,o,p,q,r,s,t,u,v,w,x,y,z,A,d,_)=>
 match(ilt d A)with
 |true=>match idx z d with|none=>none|some b=>match(ilt b c)with
  |true=>match(ilt 0 ((BA a b).getD 0))with
   |true=>some (.inr (.inl (false,())))
   |false=>some (.inl (c,e,(BP a b (w64 (((BA a b).getD 0)+1))),f,g,h,i,j,k,l,m,n,o,p,q,r,s,t,u,v,w,x,y,z,A,(w64 (d+1)),()))
  |false=>some (.inl (c,e,(BP a b (w64 (((BA a b).getD 0)+1))),f,g,h,i,j,k,l,m,n,o,p,q,r,s,t,u,v,w,x,y,z,A,(w64 (d+1)),()))
 |false=>some (.inr (.inr (.inl (c,e,a,f,g,h,i,j,k,l,m,n,o,p,q,r,s,t,u,v,w,x,y,()))))
abbrev AG2:A1:=[Aae,AO,Az,Af,AW,(.tmp 16,.dat Ue),(.tmp 17,.di),AcK]
abbrev AGz:BF:=[(.ret,[AK]),(.exit 0,[Aae,AO,Az,Af])]
def Fz[Lk]:(Int×List U5×List Uz×Int×List U5×Int×Int×Unit)→Option ((Int×List U5×List Uz×Int×List U5×Int×Int×Unit)⊕Uc⊕(Int×List U5×List Uz×Unit)⊕Unit):=fun(b,j,k,c,l,m,d,_)=>
 match(ilt d m)with
 |true=>match idx l d with|none=>none|some a=>match(ieq (A4 a) 0)with
  |true=>some (.inr (.inl (false,())))
  |false=>match idx a 0 with|none=>none|some e=>match(ile e c)with
  |true=>some (.inr (.inl (false,())))
  |false=>match L4 (a,())with|none=>none|some (f,_)=>match(!f)with
  |true=>some (.inr (.inl (false,())))
  |false=>match AOc (a,())with|none=>none|some (g,_)=>match idx a 0 with|none=>none|some h=>match(!(ieq g h))with
  |true=>some (.inr (.inl (false,())))
  |false=>match goes (b,a,())with|none=>none|some (i,_)=>match(!i)with
  |true=>some (.inr (.inl (false,())))
  |false=>match idx a 0 with|none=>none|some n=>match A9 Fy many (b,j,k,n,l,m,d,a,e,c,(ile e c),a,f,(!f),a,g,a,h,(!(ieq g h)),b,a,i,(!i),a,(A4 a),0,())with|none=>none|some r=>match r with
  |.inl (o,_)=>some (.inr (.inl (o,())))
  |.inr r=>match r with
  |.inl (p,q,s,t,u,v,w,x,y,z,A,B,C,D,E,F,G,H,I,J,K,L,M,_)=>some (.inl (p,q,s,t,u,v,(w64 (w+1)),()))
  |.inr _=>none
 |false=>some (.inr (.inr (.inl (b,j,k,()))))
def Wl[Lk]:(Uo×Unit)→Option (Uc):=fun(a,_)=>
 match OH (a.1,())with|none=>none|some (b,_)=>match(!b)with
 |true=>some (false,())
 |false=>match A9 Fz many (a.1,a.2.1,([]:List Uz),(-1:Int),a.2.1,(A4 a.2.1),0,())with|none=>none|some r=>match r with
 |.inl (c,_)=>some (c,())
 |.inr r=>match r with
 |.inl (d,g,e,_)=>match A9 Hl many (e,d,0,())with|none=>none|some r=>match r with
  |.inl (f,_)=>some (f,())
  |.inr r=>match r with
  |.inl _=>some (true,())
  |.inr _=>none
 |.inr _=>none
def OJ[Lk]:=fun v=>Lk.f (Wl v)
theorem cQ v:OJ v=Wl v:=A0 _
def lZ[Lk]:(Uo×Int×Int×Unit)→Option (U8):=fun(a,b,c,_)=>
 match OJ ((a.1,(a.2.1,())),())with|none=>none|some (d,_)=>match(!d)with
 |true=>some (1,())
 |false=>match tin (a.1,b,())with|none=>none|some (e,_)=>match(!e)with
 |true=>some (10,())
 |false=>match tin (a.1,c,())with|none=>none|some (f,_)=>match(!f)with
 |true=>some (10,())
 |false=>some (0,())
def asked[Lk]:=fun v=>Lk.f (lZ v)
theorem uC v:asked v=lZ v:=A0 _
abbrev ARy:A1:=[Aj,AD,(.tmp 2,.dat Ue)]
abbrev ARx:A1:=[AB,(.tmp 1,.own 36 U6)]
abbrev ARw:List RS:=[.agg 2]
abbrev AcL:Loc×Con:=(.tmp 7,.own 36 U6)
abbrev AcM:Loc×Con:=(.tmp 6,.box 2)
abbrev ALr:A1:=[AcF,AO,Az,AcM,AQ,Aam,AcL,(.tmp 29,.dat Ue),(.tmp 30,.di),(.tmp 31,.di)]
abbrev ALp:BF:=[(.exit 2,[AcF,AO,Az,AcM,AQ,Aam,AcL])]
def Lp[Lk]:(Int×List U5×Int×List U5×List U5×Int×Int×Unit)→Option ((Int×List U5×Int×List U5×List U5×Int×Int×Unit)⊕(Int×List U5×Int×List U5×Unit)⊕Unit):=fun(c,d,e,a,f,g,b,_)=>
 match(ilt b g)with
 |true=>match idx f b with|none=>none|some i=>match jR (i,())with|none=>none|some (h,_)=>match(fits ((A4 a)+(A4 ([h]:List U5))))with
  |true=>some (.inl (c,d,e,(BT a ([h]:List U5)),f,g,(w64 (b+1)),()))
  |false=>none
 |false=>some (.inr (.inl (c,d,e,a,())))
abbrev ALs:A1:=[AD,(.tmp 2,.dat Ue),AcF,AO,Az,AcM,AQ,Aam,AcL,(.tmp 13,.dat Ue),AbZ,Aag]
abbrev ALq:BF:=[(.exit 0,[(.tmp 2,.dat Ue),AcF,AO,Az,AcM,AQ,Aam,AcL])]
def Lq[Lk]:(List Int×List U5×Int×List U5×Int×List U5×List U5×Int×Int×Unit)→Option ((List Int×List U5×Int×List U5×Int×List U5×List U5×Int×Int×Unit)⊕(List U5×Int×List U5×Int×List U5×Unit)⊕Unit):=fun(c,d,e,f,g,b,h,i,a,_)=>
 match(ilt a i)with
 |true=>match idx h a with|none=>none|some j=>match GU (c,a,())with|none=>none|some (k,_)=>match(!k)with
  |true=>match(fits ((A4 b)+(A4 ([j]:List U5))))with
   |true=>some (.inl (c,d,e,f,g,(BT b ([j]:List U5)),h,i,(w64 (a+1)),()))
   |false=>none
  |false=>some (.inl (c,d,e,f,g,b,h,i,(w64 (a+1)),()))
 |false=>some (.inr (.inl (d,e,f,g,b,())))
def iQ[Lk]:(Uo×List Int×List U5×Unit)→Option ((Int×List U5×Unit)):=fun(a,c,d,_)=>
 match A9 Lq many (c,d,a.1,a.2.1,0,([]:List U5),a.2.1,(A4 a.2.1),0,())with|none=>none|some r=>match r with
 |.inl (b,e,f,g,h,_)=>match A9 Lp many (e,f,g,h,b,(A4 b),0,())with|none=>none|some r=>match r with
  |.inl (i,l,m,j,_)=>match ADE (j,())with|none=>none|some (k,_)=>some (i,k,())
  |.inr _=>none
 |.inr _=>none
def ACv[Lk]:=fun v=>Lk.f (iQ v)
theorem n0 v:ACv v=iQ v:=A0 _
def I5[Lk]:(Uo×Int×Int×Unit)→Option ((Int×List U5×Int×Unit)):=fun(a,b,c,_)=>
 match asked ((a.1,(a.2.1,())),b,c,())with|none=>none|some (g,_)=>match(!(ieq g 0))with
 |true=>some (a.1,a.2.1,g,())
 |false=>match Rf ((a.1,(a.2.1,())),b,())with|none=>none|some (e,_)=>match Rf ((a.1,(a.2.1,())),c,())with|none=>none|some (f,_)=>match(ieq e f)with
 |true=>some (a.1,a.2.1,5,())
 |false=>match idx a.2.1 e with|none=>none|some h=>match pg (h,b,())with|none=>none|some (d,r,_)=>match idx a.2.1 f with|none=>none|some i=>match pg (i,c,())with|none=>none|some (j,s,_)=>match Cv d 0 1 with|none=>none|some k=>match AMB (a.1,b,c,())with|none=>none|some (l,_)=>match AMB (a.1,c,b,())with|none=>none|some (m,_)=>match Cv d 1 (A4 d)with|none=>none|some n=>match He (([(E' 0 (A3 (A4 k)) d),([l]:List (Int)),j,([m]:List (Int)),(E' 1 (A3 (A4 n)) d)]:List U5),())with|none=>none|some (o,_)=>match ACv ((a.1,(a.2.1,())),([e,f]:List (Int)),([o]:List U5),())with|none=>none|some (p,q,_)=>some (p,q,0,())
def Nu[Lk]:=fun v=>Lk.f (I5 v)
theorem IB v:Nu v=I5 v:=A0 _
abbrev APp:A1:=[Aj,AD]
def Yl[Lk]:(Uo×List Int×Unit)→Option (U8):=fun(a,b,_)=>
 match OJ ((a.1,(a.2.1,())),())with|none=>none|some (c,_)=>match(!c)with
 |true=>some (1,())
 |false=>match Ez (b,a.1,a.2.1,())with|none=>none|some (e,f,d,_)=>match d with
 |true=>some (10,())
 |false=>some (0,())
def MZ[Lk]:=fun v=>Lk.f (Yl v)
theorem eo v:MZ v=Yl v:=A0 _
abbrev AAg:A1:=[Aj,AaY,(.tmp 2,.clo 228 [])]
abbrev sq:A1:=[(.tmp 2,.clo 228 []),AcF,AO,Az,AcM,AQ,Aam,(.tmp 10,.own 4 .bool),(.tmp 23,.dat Vb),AbB,Aa5]
abbrev sm:BF:=[(.exit 0,[AcF,AO,Az,AcM,AQ,Aam,(.tmp 10,.own 4 .bool)])]
def DP[Lk]:(Int×List U5×Int×List Bool×List U3×Int×Int×Unit)→Option ((Int×List U5×Int×List Bool×List U3×Int×Int×Unit)⊕(Int×List U5×Int×List Bool×Unit)⊕Unit):=fun(c,d,e,a,f,g,b,_)=>
 match(ilt b g)with
 |true=>match idx f b with|none=>none|some h=>match Nu ((c,(d,())),h.1,h.2.1,())with|none=>none|some (j,k,i,_)=>match(fits ((A4 a)+(A4 ([(ieq i 0)]:List (Bool)))))with
  |true=>some (.inl (j,k,e,(BT a ([(ieq i 0)]:List (Bool))),f,g,(w64 (b+1)),()))
  |false=>none
 |false=>some (.inr (.inl (c,d,e,a,())))
def LK[Lk]:(Uo×List U3×Unit)→Option ((Uo×List Bool×Int×Unit)):=fun(a,b,_)=>
 match ends (b,())with|none=>none|some (d,_)=>match MZ ((a.1,(a.2.1,())),d,())with|none=>none|some (c,_)=>match(!(ieq c 0))with
 |true=>some ((a.1,(a.2.1,())),([]:List (Bool)),c,())
 |false=>match A9 DP many (a.1,a.2.1,0,([]:List (Bool)),b,(A4 b),0,())with|none=>none|some r=>match r with
 |.inl (e,f,h,g,_)=>some ((e,(f,())),g,0,())
 |.inr _=>none
def Yx[Lk]:=fun v=>Lk.f (LK v)
theorem Mi v:Yx v=LK v:=A0 _
def Qo[Lk]:(Uo×List U3×Unit)→Option ((Uo×List Bool×Int×Unit)):=fun(a,c,_)=>
 match Yx ((a.1,(a.2.1,())),c,())with|none=>none|some (b,d,e,_)=>some ((b.1,(b.2.1,())),d,e,())
def AAa[Lk]:=fun v=>Lk.f (Qo v)
theorem Sc v:AAa v=Qo v:=A0 _
def AE2[Lk]:(Int×List U3×Unit)→Option ((Uo×Int×Unit)):=fun(d,e,_)=>
 match AC0 (d,())with|none=>none|some (f,g,a,_)=>match(!(ieq a 0))with
 |true=>some ((0,(([]:List U5),())),a,())
 |false=>match AAa ((f,(g,())),e,())with|none=>none|some (b,h,c,_)=>match(!(ieq c 0))with
 |true=>some ((0,(([]:List U5),())),c,())
 |false=>some ((b.1,(b.2.1,())),0,())
def fof[Lk]:=fun v=>Lk.f (AE2 v)
theorem AAZ v:fof v=AE2 v:=A0 _
abbrev AJB:A1:=[Aae,AO,Aad,AX,(.tmp 23,.dat Uy),AbB,Aa5]
abbrev AJA:BF:=[(.ret,[AK]),(.exit 0,[Aae,AO,Aad])]
def GK[Lk]:(Int×List U1×Int×List U1×Int×Int×Unit)→Option ((Int×List U1×Int×List U1×Int×Int×Unit)⊕Uc⊕(Int×List U1×Unit)⊕Unit):=fun(c,d,f,g,h,b,_)=>
 match(ilt b h)with
 |true=>match idx g b with|none=>none|some a=>match(ilt a.1 0)with
  |true=>some (.inr (.inl (false,())))
  |false=>match(ile a.2.1 a.1)with
  |true=>some (.inr (.inl (false,())))
  |false=>match(ile c a.2.1)with
  |true=>some (.inr (.inl (false,())))
  |false=>match(ilt a.2.2.1 0)with
  |true=>some (.inr (.inl (false,())))
  |false=>match(ilt f a.2.2.1)with
  |true=>some (.inr (.inl (false,())))
  |false=>match(ilt 0 b)with
  |true=>match idx d (w64 (b-1))with|none=>none|some e=>match IW ((e.1,(e.2.1,(e.2.2.1,(e.2.2.2.1,())))),(a.1,(a.2.1,(a.2.2.1,(a.2.2.2.1,())))),())with|none=>none|some (i,_)=>match(ile 0 i)with
   |true=>some (.inr (.inl (false,())))
   |false=>some (.inl (c,d,f,g,h,(w64 (b+1)),()))
  |false=>some (.inl (c,d,f,g,h,(w64 (b+1)),()))
 |false=>some (.inr (.inr (.inl (c,d,()))))
def J8[Lk]:(Uf×Unit)→Option (Uc):=fun(a,_)=>
 match Xy (a.1,())with|none=>none|some (d,_)=>match(!d)with
 |true=>some (false,())
 |false=>match(ilt 400 (A4 a.2.1))with
 |true=>some (false,())
 |false=>match j5 (a.1,())with|none=>none|some (e,_)=>match A9 GK many (a.1,a.2.1,e,a.2.1,(A4 a.2.1),0,())with|none=>none|some r=>match r with
 |.inl (f,_)=>some (f,())
 |.inr r=>match r with
 |.inl (b,g,_)=>match R9 ((b,(g,())),0,())with|none=>none|some (c,_)=>match fof (b,c,())with|none=>none|some (h,i,_)=>match(ieq i 0)with
  |true=>some ((ieq (A4 h.2.1) (w64 (b-(A4 c)))),())
  |false=>some (false,())
 |.inr _=>none
def E7[Lk]:=fun v=>Lk.f (J8 v)
theorem J7 v:E7 v=J8 v:=A0 _
def AUb[Lk]:(Uo×Int×Unit)→Option (U8):=fun(a,b,_)=>
 match tin (a.1,b,())with|none=>none|some (c,_)=>match(!c)with
 |true=>some ((-1:Int),())
 |false=>match OJ ((a.1,(a.2.1,())),())with|none=>none|some (d,_)=>match(!d)with
 |true=>some ((-1:Int),())
 |false=>match Rf ((a.1,(a.2.1,())),b,())with|none=>none|some (e,_)=>some (e,())
def tof[Lk]:=fun v=>Lk.f (AUb v)
theorem AVG v:tof v=AUb v:=A0 _
def SF[Lk]:(Uf×Int×Unit)→Option ((Uo×Int×Unit)):=fun(a,c,_)=>
 match E7 ((a.1,(a.2.1,())),())with|none=>none|some (d,_)=>match(!d)with
 |true=>some ((0,(([]:List U5),())),1,())
 |false=>match R9 ((a.1,(a.2.1,())),c,())with|none=>none|some (e,_)=>match fof (a.1,e,())with|none=>none|some (b,f,_)=>some ((b.1,(b.2.1,())),f,())
def NW[Lk]:=fun v=>Lk.f (SF v)
theorem X4 v:NW v=SF v:=A0 _
abbrev AcN:Loc×Con:=(.tmp 9,.aptr 219 U0 8)
abbrev xB:A1:=[AD,Aax,Aav,Aat,Aau,Aab,Aaw,Aar,Aaq,Aap,AcN,Ae,AcI,(.tmp 43,.di),(.tmp 68,.di),(.tmp 69,.di)]
abbrev w9:BF:=[(.exit 2,[AD,Aax,Aav,Aat,Aau,Aab,Aaw,Aar,Aaq,Aap,AcN,AcI,(.tmp 43,.di)])]
def E1[Lk]:(List Int×Int×List Int×List Int×List U5×List Int×Int×Int×Int×Int×Int×Unit)→Option ((List Int×Int×List Int×List Int×List U5×List Int×Int×Int×Int×Int×Int×Unit)⊕(List Int×Int×List Int×List Int×List U5×List Int×Int×Int×Unit)⊕Unit):=fun(c,d,e,f,g,b,h,i,j,k,a,_)=>
 match(ilt a k)with
 |true=>match(ile 0 a&&(ilt a 8&&ilt a (A4 b)))with
  |true=>some (.inl (c,d,e,f,g,(BH b (A3 a) h),h,i,j,k,(w64 (a+1)),()))
  |false=>none
 |false=>some (.inr (.inl (c,d,e,f,g,b,i,j,())))
abbrev xC:A1:=[AD,Aax,Aav,Aat,Aau,Aab,Aaw,Aar,Aaq,Aap,AcN,AcI,(.tmp 43,.di)]
abbrev xA:BF:=[(.exit 0,[Aax,Aav,Aat,Aau,Aaw,Aar,Aaq,Aap])]
def H9[Lk]:(List Int×Int×List Int×List Int×List U5×List Int×Int×Int×Unit)→Option ((List Int×Int×List Int×List Int×List U5×List Int×Int×Int×Unit)⊕(List Int×List Int×List U5×Unit)⊕Unit):=fun(c,a,g,h,e,f,i,d,_)=>
 match(ilt d i)with
 |true=>match rem? d a with|none=>none|some b=>match(ile a d)with
  |true=>match idx c (w64 ((w64 (a-1))-b))with|none=>none|some j=>match Cv f 0 j with|none=>none|some k=>match HP (E' 0 (A3 (A4 k)) f)with|none=>none|some l=>match idx e (w64 ((w64 (a-1))-b))with|none=>none|some F=>match idx c (w64 ((w64 (a-1))-b))with|none=>none|some m=>match A9 E1 many (c,a,g,h,(BH e (A3 (w64 ((w64 (a-1))-b))) l),f,(w64 ((w64 (a-1))-b)),i,d,m,0,())with|none=>none|some r=>match r with
   |.inl (n,o,p,q,s,t,u,v,_)=>some (.inl (n,o,p,q,s,t,u,(w64 (v+1)),()))
   |.inr _=>none
  |false=>match idx c (w64 ((w64 (a-1))-b))with|none=>none|some w=>match A9 E1 many (c,a,g,h,e,f,(w64 ((w64 (a-1))-b)),i,d,w,0,())with|none=>none|some r=>match r with
  |.inl (x,y,z,A,B,C,D,E,_)=>some (.inl (x,y,z,A,B,C,D,(w64 (E+1)),()))
  |.inr _=>none
 |false=>some (.inr (.inl (g,h,e,())))
def Rd[Lk]:Vc→Option ((List Int×List Int×List U5×Int×Unit)):=fun(a,b,_)=>
 match(ieq (A4 a) 0)with
 |true=>some (([]:List (Int)),([]:List (Int)),([]:List U5),1,())
 |false=>match(!(ieq (A4 b) (A4 a)))with
 |true=>some (([]:List (Int)),([]:List (Int)),([]:List U5),1,())
 |false=>match L4 (a,())with|none=>none|some (c,_)=>match(!c)with
 |true=>some (([]:List (Int)),([]:List (Int)),([]:List U5),1,())
 |false=>match Hd (b,())with|none=>none|some (d,_)=>match d with
 |true=>some (([]:List (Int)),([]:List (Int)),([]:List U5),1,())
 |false=>match HP a with|none=>none|some e=>match HP b with|none=>none|some f=>match(CZ (A4 a)&&CZ (A4 a)&&ile (A4 a) (A4 a)&&true)with
 |true=>match A9 H9 many (b,(A4 a),e,f,(DD (A3 (A4 a)) ([]:List (Int))),(DD 8 (0:Int)),(w64 ((2:Int)*(A4 a))),(0:Int),())with|none=>none|some r=>match r with
  |.inl (g,h,i,_)=>some (g,h,i,0,())
  |.inr _=>none
 |false=>none
def Vs[Lk]:=fun v=>Lk.f (Rd v)
theorem Wc v:Vs v=Rd v:=A0 _
abbrev AJN:A1:=[Aac,(.tmp 10,.dat Uy),Ae,AR]
abbrev AJM:BF:=[(.exit 0,[Aac])]
def AJL[Lk]:(List U3×List U1×Int×Int×Unit)→Option ((List U3×List U1×Int×Int×Unit)⊕Ux⊕Unit):=fun(b,d,e,c,_)=>
 match(ilt c e)with
 |true=>match idx d c with|none=>none|some a=>match(fits ((A4 b)+(A4 ([(a.1,(a.2.1,()))]:List U3))))with
  |true=>some (.inl ((BT b ([(a.1,(a.2.1,()))]:List U3)),d,e,(w64 (c+1)),()))
  |false=>none
 |false=>some (.inr (.inl (b,())))
def rZ[Lk]:(Uf×Unit)→Option (Ux):=fun(a,_)=>
 match E7 ((a.1,(a.2.1,())),())with|none=>none|some (b,_)=>match(!b)with
 |true=>some (([]:List U3),())
 |false=>match A9 AJL many (([]:List U3),a.2.1,(A4 a.2.1),0,())with|none=>none|some r=>match r with
 |.inl (c,_)=>some (c,())
 |.inr _=>none
def X5[Lk]:=fun v=>Lk.f (rZ v)
theorem AJO v:X5 v=rZ v:=A0 _
abbrev WA:A1:=[AaV,AaY]
abbrev je:A1:=[AaW,AI]
abbrev ANj:A1:=[AP,AO,Aad,(.tmp 6,.box 1),Aaz,(.tmp 13,.dat Vb),AbZ,Aag]
abbrev ANi:BF:=[(.ret,[(.tmp 4,.nil U4),AG]),(.exit 0,[AP,AO,Aad,(.tmp 6,.box 1),Aaz])]
def ANh[Lk]:(Int×List U1×List (U3×Int)×List U3×Int×Int×Unit)→Option ((Int×List U1×List (U3×Int)×List U3×Int×Int×Unit)⊕U8⊕(Int×List U1×List (U3×Int)×Unit)⊕Unit):=fun(c,e,b,f,g,d,_)=>
 match(ilt d g)with
 |true=>match idx f d with|none=>none|some a=>match(ilt (Cb a.1 a.2.1) 0)with
  |true=>some (.inr (.inl (10,())))
  |false=>match(ile c (imax a.1 a.2.1))with
  |true=>some (.inr (.inl (10,())))
  |false=>match(ile 0 (aT b ((Cb a.1 a.2.1),((imax a.1 a.2.1),())))&&ilt (aT b ((Cb a.1 a.2.1),((imax a.1 a.2.1),()))) (A4 (BP b ((Cb a.1 a.2.1),((imax a.1 a.2.1),())) ((BA b ((Cb a.1 a.2.1),((imax a.1 a.2.1),()))).getD 0))))with
  |true=>some (.inl (c,e,(AIp (BP b ((Cb a.1 a.2.1),((imax a.1 a.2.1),())) ((BA b ((Cb a.1 a.2.1),((imax a.1 a.2.1),()))).getD 0)) (aT b ((Cb a.1 a.2.1),((imax a.1 a.2.1),()))) (w64 (((BA b ((Cb a.1 a.2.1),((imax a.1 a.2.1),()))).getD 0)+1))),f,g,(w64 (d+1)),()))
  |false=>none
 |false=>some (.inr (.inr (.inl (c,e,b,()))))
def ADj[Lk]:(Uf×List U3×Unit)→Option ((List U3×Int×Unit)):=fun(a,b,_)=>
 match E7 ((a.1,(a.2.1,())),())with|none=>none|some (c,_)=>match(!c)with
 |true=>some (([]:List U3),1,())
 |false=>match A9 ANh many (a.1,a.2.1,([]:List (U3×Int)),b,(A4 b),0,())with|none=>none|some r=>match r with
 |.inl (d,_)=>some (([]:List U3),d,())
 |.inr r=>match r with
 |.inl (e,f,g,_)=>match X5 ((e,(f,())),())with|none=>none|some (h,_)=>match O_ (h,g,())with|none=>none|some (i,k,j,_)=>some ((C1 (A3 j) i),0,())
 |.inr _=>none
def ADl[Lk]:=fun v=>Lk.f (ADj v)
theorem ANk v:ADl v=ADj v:=A0 _
abbrev AcO:Loc×Con:=(.tmp 6,.map U4 U0)
abbrev ATv:A1:=[AP,AO,Aad,AcO,(.tmp 9,.own 88 U4),(.tmp 26,.dat Vb),Ab,AcJ]
abbrev ATt:BF:=[(.ret,[(.tmp 4,.nil U4),AG]),(.exit 2,[(.tmp 9,.own 88 U4)])]
def ATr[Lk]:(Int×List U1×List (U3×Int)×List U3×List U3×Int×Int×Unit)→Option ((Int×List U1×List (U3×Int)×List U3×List U3×Int×Int×Unit)⊕U8⊕Ux⊕Unit):=fun(d,h,e,b,f,g,c,_)=>
 match(ilt c g)with
 |true=>match idx f c with|none=>none|some a=>match(ilt (Cb a.1 a.2.1) 0)with
  |true=>some (.inr (.inl (10,())))
  |false=>match(ile d (imax a.1 a.2.1))with
  |true=>some (.inr (.inl (10,())))
  |false=>match(ilt (Cb a.1 a.2.1) (imax a.1 a.2.1))with
  |true=>match(ieq ((BA e ((Cb a.1 a.2.1),((imax a.1 a.2.1),()))).getD 0) 0)with
   |true=>match(fits ((A4 b)+(A4 ([((Cb a.1 a.2.1),((imax a.1 a.2.1),()))]:List U3))))with
    |true=>some (.inl (d,h,(BP e ((Cb a.1 a.2.1),((imax a.1 a.2.1),())) 1),(BT b ([((Cb a.1 a.2.1),((imax a.1 a.2.1),()))]:List U3)),f,g,(w64 (c+1)),()))
    |false=>none
   |false=>some (.inl (d,h,e,b,f,g,(w64 (c+1)),()))
  |false=>some (.inl (d,h,e,b,f,g,(w64 (c+1)),()))
 |false=>some (.inr (.inr (.inl (b,()))))
abbrev ATw:A1:=[AaY,AP,AO,Aad,AcO,(.tmp 17,.own 88 U4),AcK,Abn]
abbrev ATu:BF:=[(.exit 0,[AaY,AP,AO,Aad,AcO])]
def ATs[Lk]:(List U3×Int×List U1×List (U3×Int)×List U3×Int×Int×Unit)→Option ((List U3×Int×List U1×List (U3×Int)×List U3×Int×Int×Unit)⊕(List U3×Int×List U1×List (U3×Int)×Unit)⊕Unit):=fun(c,d,e,f,b,g,a,_)=>
 match(ilt a g)with
 |true=>match idx b a with|none=>none|some h=>some (.inl (c,d,e,(BP f ((A7 b (A3 a) (0,(0,()))).1,((A7 b (A3 a) (0,(0,()))).2.1,())) 1),b,g,(w64 (a+1)),()))
 |false=>some (.inr (.inl (c,d,e,f,())))
def APk[Lk]:(Uf×List U3×Unit)→Option ((List U3×Int×Unit)):=fun(a,d,_)=>
 match E7 ((a.1,(a.2.1,())),())with|none=>none|some (e,_)=>match(!e)with
 |true=>some (([]:List U3),1,())
 |false=>match X5 ((a.1,(a.2.1,())),())with|none=>none|some (b,_)=>match A9 ATs many (d,a.1,a.2.1,([]:List (U3×Int)),b,(A4 b),0,())with|none=>none|some r=>match r with
 |.inl (c,f,g,h,_)=>match A9 ATr many (f,g,h,([]:List U3),c,(A4 c),0,())with|none=>none|some r=>match r with
  |.inl (i,_)=>some (([]:List U3),i,())
  |.inr r=>match r with
  |.inl (j,_)=>match AMQ (j,())with|none=>none|some (k,_)=>some (k,0,())
  |.inr _=>none
 |.inr _=>none
def ATy[Lk]:=fun v=>Lk.f (APk v)
theorem ATx v:ATy v=APk v:=A0 _
def AFX[Lk]:(Uf×Unit)→Option (U8):=fun(a,_)=>
 match E7 ((a.1,(a.2.1,())),())with|none=>none|some (b,_)=>match(!b)with
 |true=>some (0,())
 |false=>some ((w64 (400-(A4 a.2.1))),())
def AQ1[Lk]:=fun v=>Lk.f (AFX v)
theorem AQ0 v:AQ1 v=AFX v:=A0 _
abbrev AcP:Loc×Con:=(.tmp 2,.dat (.prod U0 (.prod U0 (.prod Us .unit))))
abbrev AQ9:A1:=[AaV,(.tmp 1,.dat (.prod U0 (.prod Vb (.prod (.slice (.prod U0 U4)) .unit)))),AcP]
abbrev AQ8:A1:=[AB,(.tmp 1,.own 88 U4),(.tmp 2,.dat (.slice (.prod U0 U4))),AX,AW]
def uM[Lk]:(Uf×(Int×(List U3)×(List Ug)×Unit)×(Int×Int×V0×Unit)×Unit)→Option ((Int×List U3×List Ug×Int×Int×Unit)):=fun(c,a,b,_)=>
 match E7 ((c.1,(c.2.1,())),())with|none=>none|some (j,_)=>match(!j)with
 |true=>some (0,([]:List U3),([]:List Ug),0,1,())
 |false=>match wx ((a.1,(a.2.1,(a.2.2.1,()))),())with|none=>none|some (k,_)=>match(!k)with
 |true=>some (0,([]:List U3),([]:List Ug),0,1,())
 |false=>match AQx ((a.1,(a.2.1,(a.2.2.1,()))),())with|none=>none|some (l,_)=>match Mq (l,c.1,c.2.1,())with|none=>none|some (d,e,m,_)=>match m with
 |true=>some (0,([]:List U3),([]:List Ug),0,10,())
 |false=>match(ieq a.1 3)with
 |true=>some (a.1,([]:List U3),a.2.2.1,0,0,())
 |false=>match AA4 (a.2.1,(b.1,(b.2.1,((b.2.2.1.1,(b.2.2.1.2.1,(b.2.2.1.2.2.1,()))),()))),())with|none=>none|some (f,g,h,_)=>match(!(ieq h 0))with
 |true=>some (0,([]:List U3),([]:List Ug),0,h,())
 |false=>match(ieq a.1 2)with
 |true=>match ADl ((d,(e,())),f,())with|none=>none|some (n,o,_)=>some (a.1,n,([]:List Ug),g,o,())
 |false=>match ATy ((d,(e,())),f,())with|none=>none|some (i,p,_)=>match AQ1 ((d,(e,())),())with|none=>none|some (q,_)=>match(ilt q (A4 i))with
 |true=>some (0,([]:List U3),([]:List Ug),0,2,())
 |false=>some (a.1,i,([]:List Ug),g,p,())
def ARA[Lk]:=fun v=>Lk.f (uM v)
theorem AK8 v:ARA v=uM v:=A0 _
def AEW[Lk]:V2→Option (U8):=fun(a,b,c,_)=>
 match E7 ((a.1,(a.2.1,())),())with|none=>none|some (d,_)=>match(!d)with
 |true=>some ((-1:Int),())
 |false=>match AAF ((a.1,(a.2.1,())),b,c,())with|none=>none|some (e,f,_)=>match(!f)with
 |true=>some ((-1:Int),())
 |false=>some (e,())
def AOn[Lk]:=fun v=>Lk.f (AEW v)
theorem AOm v:AOn v=AEW v:=A0 _
def Yo[Lk]:(Uo×Int×Unit)→Option (Uh):=fun(a,b,_)=>
 match MZ ((a.1,(a.2.1,())),([b]:List (Int)),())with|none=>none|some (c,_)=>match(!(ieq c 0))with
 |true=>some (([]:List (Int)),c,())
 |false=>match tof ((a.1,(a.2.1,())),b,())with|none=>none|some (d,_)=>match idx a.2.1 d with|none=>none|some e=>match HP e with|none=>none|some f=>match LN (f,a.1,a.2.1,())with|none=>none|some (g,j,k,h,_)=>match AMN ((C1 (A3 h) g),())with|none=>none|some (i,_)=>some (i,0,())
def Qn[Lk]:=fun v=>Lk.f (Yo v)
theorem sS v:Qn v=Yo v:=A0 _
def qH[Lk]:V2→Option (U3):=fun(a,b,c,_)=>
 match E7 ((a.1,(a.2.1,())),())with|none=>none|some (e,_)=>match(!e)with
 |true=>some (0,1,())
 |false=>match(ilt (Cb b c) 0)with
 |true=>some (0,10,())
 |false=>match(ile a.1 (imax b c))with
 |true=>some (0,10,())
 |false=>match AOn ((a.1,(a.2.1,())),b,c,())with|none=>none|some (d,_)=>match(ilt d 0)with
 |true=>some (0,6,())
 |false=>some (d,0,())
def jf[Lk]:=fun v=>Lk.f (qH v)
theorem AIH v:jf v=qH v:=A0 _
abbrev ASZ:A1:=[AaV,AI,AJ,AX]
def ADg[Lk]:(Uf×Int×Int×Int×Unit)→Option (Uh):=fun(b,g,f,h,_)=>
 match jf ((b.1,(b.2.1,())),g,f,())with|none=>none|some (m,c,_)=>match(ieq c 1)with
 |true=>some (([]:List (Int)),c,())
 |false=>match(ieq c 10)with
 |true=>some (([]:List (Int)),c,())
 |false=>match NW ((b.1,(b.2.1,())),h,())with|none=>none|some (d,n,_)=>match Qn ((d.1,(d.2.1,())),g,())with|none=>none|some (a,o,_)=>match Qn ((d.1,(d.2.1,())),f,())with|none=>none|some (e,p,_)=>match GU (a,f,())with|none=>none|some (i,_)=>match i with
 |true=>some (([]:List (Int)),5,())
 |false=>match Eu ((A4 a),(A4 e),())with|none=>none|some (j,_)=>match idx a 0 with|none=>none|some q=>match idx e 0 with|none=>none|some r=>match Eu ((A7 a 0 0),(A7 e 0 0),())with|none=>none|some (k,_)=>match orI (([j,k]:List (Int)),())with|none=>none|some (l,_)=>match(ilt l 0)with
 |true=>some (a,0,())
 |false=>some (e,0,())
def ANM[Lk]:=fun v=>Lk.f (ADg v)
theorem ANL v:ANM v=ADg v:=A0 _
abbrev AcQ:Loc×Con:=(.cell 0 1,.own 152 U2)
abbrev AcR:Loc×Con:=(.cell 0 2,.dat .bool)
abbrev AcS:Loc×Con:=(.cell 0 4,.di)
abbrev AWu:A1:=[(.tmp 0,.box 8),AO,AcQ,AcR,Abw,AcS,AbN,AbM,AbU,AI,AJ,AX]
abbrev AWt:A1:=[AbX,AO,AcQ,AcR,Abw,AcS,AbN,AbM,AbU,AbV,AF]
abbrev AcT:Loc×Con:=(.tmp 14,.clo 253 [(2,0)])
abbrev AcU:Loc×Con:=(.cell 2 0,.map U0 U0)
abbrev AVw:A1:=[AbX,AO,AcQ,AcR,Abw,AcS,AbN,AbM,AbU,AbV,AbY,(.cap 14 0,.box 1),AcU,AcT,(.tmp 86,.prs 329 1),(.tmp 87,.di),(.tmp 88,.di)]
abbrev AVt:BF:=[(.exit 5,[AbX,AO,AcQ,AcR,Abw,AcS,AbN,AbM,AbU,AbV]),(.ret,[AbX,AO,AcQ,AcR,Abw,AcS,AbN,AbM,AbU,AbV,Av])]
def AVq[Lk]:(Int×List U1×Bool×Bool×Int×Int×Int×Int×List Uz×List Int×Int×Int×Unit)→Option ((Int×List U1×Bool×Bool×Int×Int×Int×Int×List Uz×List Int×Int×Int×Unit)⊕(Int×List U1×Bool×Bool×Int×Int×Int×Int×Unit)⊕(Int×List U1×Bool×Bool×Int×Int×Int×Int×Bool×Unit)⊕Unit):=fun(f,c,g,i,j,k,h,e,d,b,l,a,_)=>
 match(ilt a l)with
 |true=>match idx b a with|none=>none|some m=>match(ieq (w64 (((BA d (A7 c (A3 (A7 b (A3 a) 0)) (0,(0,(0,(false,()))))).1).getD 0)+((BA d (A7 c (A3 (A7 b (A3 a) 0)) (0,(0,(0,(false,()))))).2.1).getD 0))) 0)with
  |true=>some (.inl (f,c,g,i,j,k,h,e,d,b,l,(w64 (a+1)),()))
  |false=>match(ieq (w64 (((BA d (A7 c (A3 (A7 b (A3 a) 0)) (0,(0,(0,(false,()))))).1).getD 0)+((BA d (A7 c (A3 (A7 b (A3 a) 0)) (0,(0,(0,(false,()))))).2.1).getD 0))) 2)with
  |true=>some (.inl (f,(BH c (A3 (A7 b (A3 a) 0)) ((A7 c (A3 (A7 b (A3 a) 0)) (0,(0,(0,(false,()))))).1,((A7 c (A3 (A7 b (A3 a) 0)) (0,(0,(0,(false,()))))).2.1,((Cb e (w64 ((A7 c (A3 (A7 b (A3 a) 0)) (0,(0,(0,(false,()))))).2.2.1+1))),((A7 c (A3 (A7 b (A3 a) 0)) (0,(0,(0,(false,()))))).2.2.2.1,()))))),g,i,j,k,(w64 (h+1)),e,d,b,l,(w64 (a+1)),()))
  |false=>match(ieq (w64 (((BA d (A7 c (A3 (A7 b (A3 a) 0)) (0,(0,(0,(false,()))))).1).getD 0)+((BA d (A7 c (A3 (A7 b (A3 a) 0)) (0,(0,(0,(false,()))))).2.1).getD 0))) 1)with
  |true=>some (.inr (.inr (.inl (f,(BH c (A3 (A7 b (A3 a) 0)) ((A7 c (A3 (A7 b (A3 a) 0)) (0,(0,(0,(false,()))))).1,((A7 c (A3 (A7 b (A3 a) 0)) (0,(0,(0,(false,()))))).2.1,((A7 c (A3 (A7 b (A3 a) 0)) (0,(0,(0,(false,()))))).2.2.1,(true,()))))),g,true,(A7 (BH c (A3 (A7 b (A3 a) 0)) ((A7 c (A3 (A7 b (A3 a) 0)) (0,(0,(0,(false,()))))).1,((A7 c (A3 (A7 b (A3 a) 0)) (0,(0,(0,(false,()))))).2.1,((A7 c (A3 (A7 b (A3 a) 0)) (0,(0,(0,(false,()))))).2.2.1,(true,()))))) (A3 (A7 b (A3 a) 0)) (0,(0,(0,(false,()))))).1,(A7 (BH c (A3 (A7 b (A3 a) 0)) ((A7 c (A3 (A7 b (A3 a) 0)) (0,(0,(0,(false,()))))).1,((A7 c (A3 (A7 b (A3 a) 0)) (0,(0,(0,(false,()))))).2.1,((A7 c (A3 (A7 b (A3 a) 0)) (0,(0,(0,(false,()))))).2.2.1,(true,()))))) (A3 (A7 b (A3 a) 0)) (0,(0,(0,(false,()))))).2.1,h,e,true,()))))
  |false=>some (.inl (f,c,g,i,j,k,h,e,d,b,l,(w64 (a+1)),()))
 |false=>some (.inr (.inl (f,c,g,i,j,k,h,e,())))
abbrev AVx:A1:=[AbX,AO,AcQ,AcR,Abw,AcS,AbN,AbM,AbU,AbV,AbY,AX,(.cap 14 0,.box 1),AcU,AcT,(.tmp 15,.prs 329 1),AcH,(.tmp 48,.di)]
abbrev AVu:BF:=[(.exit 2,[AbX,AO,AcQ,AcR,Abw,AcS,AbN,AbM,AbU,AbV,AbY,(.cap 14 0,.box 1),AcU,AcT,(.tmp 15,.prs 329 1)])]
def AVr[Lk]:V5→Option (V5⊕(Int×List U1×Bool×Bool×Int×Int×Int×Int×List Uz×List Int×Unit)⊕Unit):=fun(f,b,g,h,i,j,k,d,l,c,e,m,a,_)=>
 match(ilt a m)with
 |true=>match idx b a with|none=>none|some n=>match(!(ieq (A7 b (A3 a) (0,(0,(0,(false,()))))).2.2.1 l))with
  |true=>some (.inl (f,b,g,h,i,j,k,d,l,c,e,m,(w64 (a+1)),()))
  |false=>match(!(A7 b (A3 a) (0,(0,(0,(false,()))))).2.2.2.1)with
  |true=>match(fits ((A4 e)+(A4 ([(Int.ofNat (A3 a))]:List (Int)))))with
   |true=>some (.inl (f,b,g,h,i,j,k,d,l,c,(BT e ([(Int.ofNat (A3 a))]:List (Int))),m,(w64 (a+1)),()))
   |false=>none
  |false=>match(ieq (w64 (((BA c (A7 b (A3 a) (0,(0,(0,(false,()))))).1).getD 0)+((BA c (A7 b (A3 a) (0,(0,(0,(false,()))))).2.1).getD 0))) 2)with
  |true=>some (.inl (f,(BH b (A3 a) ((A7 b (A3 a) (0,(0,(0,(false,()))))).1,((A7 b (A3 a) (0,(0,(0,(false,()))))).2.1,((Cb d (w64 ((A7 b (A3 a) (0,(0,(0,(false,()))))).2.2.1+1))),((A7 b (A3 a) (0,(0,(0,(false,()))))).2.2.2.1,()))))),g,h,i,j,(w64 (k+1)),d,l,c,e,m,(w64 (a+1)),()))
  |false=>some (.inl (f,b,g,h,i,j,k,d,l,c,e,m,(w64 (a+1)),()))
 |false=>some (.inr (.inl (f,b,g,h,i,j,k,d,c,e,())))
abbrev AVy:A1:=[AbX,AO,AcQ,AcR,Abw,AcS,AbN,AbM,AbU,AbV,AbY,AX,(.tmp 11,.box 1),AcU,(.tmp 32,.own 3 U0),(.tmp 33,.di),(.tmp 34,.di)]
abbrev AVv:BF:=[(.exit 0,[AbX,AO,AcQ,AcR,Abw,AcS,AbN,AbM,AbU,AbV,AbY,AX,(.tmp 11,.box 1),AcU])]
def AVs[Lk]:V5→Option (V5⊕(Int×List U1×Bool×Bool×Int×Int×Int×Int×Int×List Uz×Unit)⊕Unit):=fun(c,d,e,f,g,h,i,j,k,l,b,m,a,_)=>
 match(ilt a m)with
 |true=>match idx b a with|none=>none|some n=>some (.inl (c,d,e,f,g,h,i,j,k,(BP l (A7 b (A3 a) 0) 1),b,m,(w64 (a+1)),()))
 |false=>some (.inr (.inl (c,d,e,f,g,h,i,j,k,l,())))
def AUl[Lk]:(Int×List U1×Bool×Bool×Int×Int×Int×Int×Int×Int×Int×Unit)→Option ((Int×List U1×Bool×Bool×Int×Int×Int×Int×Bool×Unit)):=fun(a,b,g,h,i,j,k,l,m,n,c,_)=>
 match ANM ((a,(b,())),m,n,c,())with|none=>none|some (d,Y,_)=>match A9 AVs many (a,b,g,h,i,j,k,l,c,([]:List Uz),d,(A4 d),0,())with|none=>none|some r=>match r with
 |.inl (o,e,p,q,s,t,u,v,w,x,_)=>match A9 AVr many (o,e,p,q,s,t,u,v,w,x,([]:List (Int)),(A4 e),0,())with|none=>none|some r=>match r with
  |.inl (y,z,A,B,C,D,E,F,G,f,_)=>match A9 AVq many (y,z,A,B,C,D,E,F,G,f,(A4 f),0,())with|none=>none|some r=>match r with
   |.inl (H,I,J,K,L,M,N,O,_)=>some (H,I,J,K,L,M,N,O,false,())
   |.inr r=>match r with
   |.inl (P,Q,R,S,T,U,V,W,X,_)=>some (P,Q,R,S,T,U,V,W,X,())
   |.inr _=>none
  |.inr _=>none
 |.inr _=>none
def pat[Lk]:=fun v=>Lk.f (AUl v)
theorem AVz v:pat v=AUl v:=A0 _
abbrev AVg:A1:=[AB,Abb,(.tmp 2,.dat Vn),AX]
abbrev ANS:List RS:=[.agg 2,.one,.one]
abbrev AcV:Loc×Con:=(.cell 0 1,.nil U2)
abbrev AcW:Loc×Con:=(.cell 1 3,.di)
abbrev ASc:A1:=[AcM,AO,AcV,(.tmp 7,.box 5),(.cell 1 0,.dat .bool),(.cell 1 1,.dat .bool),Ab3,AcW,(.cell 1 4,.di),(.tmp 11,.box 4),Abe,Abf,(.cell 2 2,.di),(.cell 2 3,.dat .bool),(.tmp 12,.box 8),(.cell 3 0,.di),(.cell 3 1,.own 152 U2),(.cell 3 2,.dat .bool),(.cell 3 3,.dat .bool),(.cell 3 4,.di),(.cell 3 5,.di),(.cell 3 6,.di),(.cell 3 7,.di),AS]
abbrev ASb:BF:=[(.exit 0,[AcM,AO,AcV,(.tmp 7,.box 5),(.cell 1 0,.dat .bool),(.cell 1 1,.dat .bool),Ab3,AcW,(.cell 1 4,.di),(.tmp 12,.box 8),Abe,(.cell 2 1,.own 152 U2),(.cell 2 2,.dat .bool),(.cell 2 3,.dat .bool),(.cell 2 4,.di),(.cell 2 5,.di),(.cell 2 6,.di),(.cell 2 7,.di)])]
def ASa[Lk]:(Int×Bool×Bool×Int×Int×Int×Int×Int×Int×Bool×Int×List U1×Bool×Bool×Int×Int×Int×Int×Int×Unit)→Option ((Int×Bool×Bool×Int×Int×Int×Int×Int×Int×Bool×Int×List U1×Bool×Bool×Int×Int×Int×Int×Int×Unit)⊕(Int×Bool×Bool×Int×Int×Int×Int×List U1×Bool×Bool×Int×Int×Int×Int×Unit)⊕Unit):=fun(a,b,c,d,e,f,p,q,A,r,g,h,i,j,k,l,m,n,o,_)=>
 match r with
 |true=>match(ile 0 o)with
  |true=>match pat (g,h,i,j,k,l,m,n,p,q,o,())with|none=>none|some (s,t,u,v,w,x,y,z,B,_)=>match(!B)with
   |true=>some (.inl (a,b,c,d,e,f,p,q,A,r,s,t,u,v,w,x,y,z,(w64 (o-1)),()))
   |false=>some (.inr (.inl (a,b,c,d,e,f,s,t,u,v,w,x,y,z,())))
  |false=>some (.inr (.inl (a,b,c,d,e,f,g,h,i,j,k,l,m,n,())))
 |false=>some (.inr (.inl (a,b,c,d,e,f,g,h,i,j,k,l,m,n,())))
def ANT[Lk]:V2→Option ((Int×List U1×V9×Int×Unit)):=fun(a,e,f,_)=>
 match jf ((a.1,(a.2.1,())),e,f,())with|none=>none|some (c,d,_)=>match(!(ieq d 0))with
 |true=>some (a.1,a.2.1,(false,(false,((0,(0,())),(0,())))),d,())
 |false=>match idx a.2.1 c with|none=>none|some b=>match Cv a.2.1 0 c with|none=>none|some g=>match Cv a.2.1 (w64 (c+1)) (A4 a.2.1)with|none=>none|some h=>match lC (([g,h]:List (List U1)),())with|none=>none|some (i,_)=>match j5 (a.1,())with|none=>none|some (j,_)=>match A9 ASa many (0,false,false,0,0,0,b.1,b.2.1,b.2.2.1,b.2.2.2.1,a.1,i,b.2.2.2.1,false,0,0,0,j,b.2.2.1,())with|none=>none|some r=>match r with
 |.inl (s,t,u,v,w,x,k,l,m,n,o,p,q,y,_)=>some (k,l,(m,(n,((o,(p,())),(q,())))),0,())
 |.inr _=>none
def AVh[Lk]:=fun v=>Lk.f (ANT v)
theorem ASd v:AVh v=ANT v:=A0 _
abbrev ASe:A1:=[AaV,(.tmp 1,.own 196 Vn),AJ]
abbrev AcX:Loc×Con:=(.cell 1 1,.nil U2)
abbrev ANn:A1:=[AP,AO,Aad,AN,AQ,AcX,(.tmp 9,.own 196 Vn),(.tmp 10,.box 2),(.cell 3 0,.di),(.cell 3 1,.dat Uy),(.tmp 27,.own 88 U4),AcJ,AcG]
abbrev ANm:BF:=[(.ret,[AN,AO,Aad,(.tmp 5,.nil Vn),Aab]),(.exit 0,[AN,AO,AcV,(.tmp 9,.own 196 Vn),(.tmp 10,.box 2),Abe,(.cell 2 1,.dat Uy)])]
def ANl[Lk]:(Int×List U1×Int×List V9×Int×List U1×List U3×Int×Int×Unit)→Option ((Int×List U1×Int×List V9×Int×List U1×List U3×Int×Int×Unit)⊕(Int×List U1×Int×Unit)⊕(Int×List V9×Int×List U1×Unit)⊕Unit):=fun(e,f,g,d,h,i,c,j,b,_)=>
 match(ilt b j)with
 |true=>match idx c b with|none=>none|some n=>match AVh ((h,(i,())),(A7 c (A3 b) (0,(0,()))).1,(A7 c (A3 b) (0,(0,()))).2.1,())with|none=>none|some (l,m,a,k,_)=>match(!(ieq k 0))with
  |true=>some (.inr (.inl (e,f,k,())))
  |false=>match(fits ((A4 d)+(A4 ([(a.1,(a.2.1,((a.2.2.1.1,(a.2.2.1.2.1,())),(a.2.2.2.1,()))))]:List V9))))with
  |true=>some (.inl (e,f,g,(BT d ([(a.1,(a.2.1,((a.2.2.1.1,(a.2.2.1.2.1,())),(a.2.2.2.1,()))))]:List V9)),l,m,c,j,(w64 (b+1)),()))
  |false=>none
 |false=>some (.inr (.inr (.inl (g,d,h,i,()))))
def ADm[Lk]:(Uf×List U3×Unit)→Option ((Uf×List V9×Int×Unit)):=fun(a,d,_)=>
 match ADl ((a.1,(a.2.1,())),d,())with|none=>none|some (b,c,_)=>match(!(ieq c 0))with
 |true=>some ((a.1,(a.2.1,())),([]:List V9),c,())
 |false=>match A9 ANl many (a.1,a.2.1,0,([]:List V9),a.1,a.2.1,b,(A4 b),0,())with|none=>none|some r=>match r with
 |.inl (e,f,g,_)=>some ((e,(f,())),([]:List V9),g,())
 |.inr r=>match r with
 |.inl (k,h,i,j,_)=>some ((i,(j,())),h,0,())
 |.inr _=>none
def AUk[Lk]:=fun v=>Lk.f (ADm v)
theorem ANo v:AUk v=ADm v:=A0 _
def ADT[Lk]:(Uf×Unit)→Option ((List Int×Bool×Unit)):=fun(a,_)=>
 match E7 ((a.1,(a.2.1,())),())with|none=>none|some (b,_)=>match(!b)with
 |true=>some (([]:List (Int)),false,())
 |false=>match X5 ((a.1,(a.2.1,())),())with|none=>none|some (c,_)=>match W_ (a.1,c,())with|none=>none|some (d,e,_)=>some (d,true,())
def AMk[Lk]:=fun v=>Lk.f (ADT v)
theorem AMj v:AMk v=ADT v:=A0 _
abbrev xv:A1:=[AaV,(.tmp 1,.dat (.slice (.prod U0 U4)))]
abbrev pD:A1:=[Aa,(.tmp 8,.own 3 U0),(.tmp 20,.dat (.slice (.prod U0 U4))),(.tmp 21,.di),(.tmp 22,.di)]
abbrev pC:BF:=[(.ret,[(.tmp 4,.nil U0),AG]),(.exit 0,[(.tmp 8,.own 3 U0)])]
def oz[Lk]:(List Int×List Int×List Ug×Int×Int×Unit)→Option ((List Int×List Int×List Ug×Int×Int×Unit)⊕U8⊕Ua⊕Unit):=fun(d,a,e,f,b,_)=>
 match(ilt b f)with
 |true=>match idx e b with|none=>none|some c=>match lW (d,(c.1,(c.2.1,(c.2.2.1,()))),())with|none=>none|some (g,h,_)=>match(!(ieq h 0))with
  |true=>some (.inr (.inl (h,())))
  |false=>match(fits ((A4 a)+(A4 ([g]:List (Int)))))with
  |true=>some (.inl (d,(BT a ([g]:List (Int))),e,f,(w64 (b+1)),()))
  |false=>none
 |false=>some (.inr (.inr (.inl (a,()))))
def XA[Lk]:(Uf×List Ug×Unit)→Option (Uh):=fun(a,b,_)=>
 match AMk ((a.1,(a.2.1,())),())with|none=>none|some (c,d,_)=>match(!d)with
 |true=>some (([]:List (Int)),1,())
 |false=>match A9 oz many (c,([]:List (Int)),b,(A4 b),0,())with|none=>none|some r=>match r with
 |.inl (e,_)=>some (([]:List (Int)),e,())
 |.inr r=>match r with
 |.inl (f,_)=>some (f,0,())
 |.inr _=>none
def pF[Lk]:=fun v=>Lk.f (XA v)
theorem pE v:pF v=XA v:=A0 _
def sU[Lk]:(Uo×Int×Unit)→Option (U3):=fun(a,b,_)=>
 match MZ ((a.1,(a.2.1,())),([b]:List (Int)),())with|none=>none|some (c,_)=>match(!(ieq c 0))with
 |true=>some (0,c,())
 |false=>match tof ((a.1,(a.2.1,())),b,())with|none=>none|some (d,_)=>match idx a.2.1 d with|none=>none|some e=>match idx e 0 with|none=>none|some f=>some (f,0,())
def kY[Lk]:=fun v=>Lk.f (sU v)
theorem AJs v:kY v=sU v:=A0 _
abbrev AcY:Loc×Con:=(.tmp 7,.own 88 U4)
abbrev jI:A1:=[AP,AO,Az,AcY,(.tmp 24,.dat Vb),Aa5,Ac]
abbrev jH:BF:=[(.exit 0,[AcY])]
def jG[Lk]:(Int×List U5×List U3×List U3×Int×Int×Unit)→Option ((Int×List U5×List U3×List U3×Int×Int×Unit)⊕Ux⊕Unit):=fun(a,b,c,e,f,d,_)=>
 match(ilt d f)with
 |true=>match idx e d with|none=>none|some g=>match kY ((a,(b,())),g.1,())with|none=>none|some (h,j,_)=>match kY ((a,(b,())),g.2.1,())with|none=>none|some (i,k,_)=>match(fits ((A4 c)+(A4 ([(h,(i,()))]:List U3))))with
  |true=>some (.inl (a,b,(BT c ([(h,(i,()))]:List U3)),e,f,(w64 (d+1)),()))
  |false=>none
 |false=>some (.inr (.inl (c,())))
def TK[Lk]:(Uo×List U3×Unit)→Option ((List U3×Int×Unit)):=fun(a,b,_)=>
 match OJ ((a.1,(a.2.1,())),())with|none=>none|some (d,_)=>match(!d)with
 |true=>some (([]:List U3),1,())
 |false=>match jN (a.1,b,())with|none=>none|some (c,_)=>match(!(ieq c 0))with
 |true=>some (([]:List U3),c,())
 |false=>match A9 jG many (a.1,a.2.1,([]:List U3),b,(A4 b),0,())with|none=>none|some r=>match r with
 |.inl (e,_)=>some (e,0,())
 |.inr _=>none
def Rm[Lk]:=fun v=>Lk.f (TK v)
theorem jJ v:Rm v=TK v:=A0 _
abbrev AHX:A1:=[Aa8,AI]
def c9[Lk]:(Uo×List U3×Unit)→Option ((List Bool×Int×Unit)):=fun(a,c,_)=>
 match Rm ((a.1,(a.2.1,())),c,())with|none=>none|some (d,b,_)=>match(!(ieq b 0))with
 |true=>some (([]:List (Bool)),b,())
 |false=>match jP (a.1,())with|none=>none|some (e,_)=>match jA (e,d,())with|none=>none|some (g,f,_)=>some (f,0,())
def jK[Lk]:=fun v=>Lk.f (c9 v)
theorem xt v:jK v=c9 v:=A0 _
end
end Go.Pev
end
section
namespace Go.Pev
noncomputable section
abbrev AWE:A1:=[AB,Abb,AJ,AX]
abbrev AT1:A1:=[AP,AO,Aad,AN,AQ,AcX,AcY,(.tmp 11,.own 4 .bool),(.tmp 13,.own 152 U2),(.tmp 46,.own' 2),AcH,(.tmp 48,.di)]
abbrev AT0:BF:=[(.exit 0,[AP,AO,Aad,AN,AQ,AcX,AcY,(.tmp 13,.own 152 U2)])]
def ATz[Lk]:(Int×List U1×Int×List U3×List Bool×List U1×Int×Int×Unit)→Option ((Int×List U1×Int×List U3×List Bool×List U1×Int×Int×Unit)⊕(Int×List U1×Int×List U3×List U1×Unit)⊕Unit):=fun(e,f,g,b,c,d,h,a,_)=>
 match(ilt a h)with
 |true=>match idx b a with|none=>none|some i=>match idx c a with|none=>none|some j=>match(fits ((A4 d)+(A4 ([((A7 b (A3 a) (0,(0,()))).1,((A7 b (A3 a) (0,(0,()))).2.1,(0,((A7 c (A3 a) false),()))))]:List U1))))with
  |true=>some (.inl (e,f,g,b,c,(BT d ([((A7 b (A3 a) (0,(0,()))).1,((A7 b (A3 a) (0,(0,()))).2.1,(0,((A7 c (A3 a) false),()))))]:List U1)),h,(w64 (a+1)),()))
  |false=>none
 |false=>some (.inr (.inl (e,f,g,b,d,())))
def APm[Lk]:(Uf×List U3×Unit)→Option ((Int×List U1×Int×Int×Unit)):=fun(a,e,_)=>
 match ATy ((a.1,(a.2.1,())),e,())with|none=>none|some (b,c,_)=>match(!(ieq c 0))with
 |true=>some (a.1,a.2.1,0,c,())
 |false=>match APg ((a.1,(a.2.1,())),(A4 b),())with|none=>none|some (f,_)=>match(!f)with
 |true=>some (a.1,a.2.1,0,2,())
 |false=>match NW ((a.1,(a.2.1,())),0,())with|none=>none|some (d,m,_)=>match jK ((d.1,(d.2.1,())),b,())with|none=>none|some (g,n,_)=>match HP a.2.1 with|none=>none|some h=>match A9 ATz many (a.1,a.2.1,0,b,g,h,(A4 b),0,())with|none=>none|some r=>match r with
 |.inl (i,o,p,j,k,_)=>match AMK (k,())with|none=>none|some (l,_)=>some (i,l,(A4 j),0,())
 |.inr _=>none
def AW3[Lk]:=fun v=>Lk.f (APm v)
theorem AT2 v:AW3 v=APm v:=A0 _
abbrev AcZ:Loc×Con:=(.tmp 0,.dat (.prod Um U4))
abbrev rl:A1:=[AcZ]
def YB[Lk]:(V2×Unit)→Option (Uc):=fun(a,_)=>
 match E7 ((a.1.1,(a.1.2.1,())),())with|none=>none|some (b,_)=>match b with
 |true=>match MW (a.2.1,())with|none=>none|some (c,_)=>match c with
  |true=>match MW (a.2.2.1,())with|none=>none|some (d,_)=>some (d,())
  |false=>some (false,())
 |false=>some (false,())
def HK[Lk]:=fun v=>Lk.f (YB v)
theorem eW v:HK v=YB v:=A0 _
end
end Go.Pev
end
section
namespace Go.Pev
open Go.Proofs
noncomputable section
abbrev ADR:Row:=⟨151,0,0,1,0,none,BL,[(.ret,BG)],A6,[],[]⟩
def mJ[Lk]:Env:=ADR.BC fj ADS
theorem Zo:A5 Tryz.prog mJ:=Row.A2 ADR lv Tryz.func151 og
theorem AWJ:Tryz.f150.body.isSome=true:=by kernel_rfl
theorem AWI : (Tryz.f150.name == "runtime.NumGoroutine") = false := by kernel_rfl
theorem AWH:loops (CE Tryz.f150)=0:=by kernel_rfl
def g8[Lk]:Env:=mJ.ext 150 false false (CL Tryz.prog mJ {} Tryz.f150)
theorem nK:A5 Tryz.prog g8:=Env.CR Zo (B5 Zo Tryz.func150 AWJ AWI AWH) (by simp) (by simp)
abbrev MV:Row:=⟨134,0,0,2,0,some (1,150),MU,[(.ret,BL)],A6,[],[(0,VG,D7)]⟩
def M9[Lk]:Env:=MV.BC g8 LD
theorem RI:A5 Tryz.prog M9:=Row.A2 MV nK Tryz.func134 LX
abbrev Lb:Row:=⟨60,0,0,2,0,some (1,150),MU,[(.ret,BG)],A6,[],[]⟩
def Lg[Lk]:Env:=Lb.BC M9 Gk
theorem PI:A5 Tryz.prog Lg:=Row.A2 Lb RI Tryz.func60 KM
abbrev c6:Row:=⟨152,0,0,1,0,none,BL,[(.ret,BG)],A6,[],[]⟩
def gE[Lk]:Env:=c6.BC Lg NQ
theorem mI:A5 Tryz.prog gE:=Row.A2 c6 PI Tryz.func152 W6
abbrev ACt:Row:=⟨153,0,0,1,0,none,BL,[(.ret,ARv)],A6,[],[]⟩
def AFo[Lk]:Env:=ACt.BC gE cI
theorem ABw:A5 Tryz.prog AFo:=Row.A2 ACt mI Tryz.func153 nz
abbrev Yv:Row:=⟨75,0,0,1,0,none,Yu,[(.ret,LI)],BO,[(3,[[0],[0],[],[],[0],[0],[],[19,20],[0],[0],[],[],[29,30],[]])],[(0,sk,Mg)]⟩
def Z'[Lk]:Env:=Yv.BC AFo Qw
theorem bq:A5 Tryz.prog Z':=Row.A2 Yv ABw Tryz.func75 Ts
abbrev pI:Row:=⟨70,0,0,2,0,none,AMm,[(.ret,BG)],A6,[],[]⟩
def ur[Lk]:Env:=pI.BC Z' Rq
theorem uq:A5 Tryz.prog ur:=Row.A2 pI bq Tryz.func70 AHd
abbrev pL:Row:=⟨25,0,0,2,0,none,pJ,[(.ret,BG)],A6,[(6,[[0],[0],[],[],[],[2],[2],[],[],[],[]])],[(0,AHf,Hy)]⟩
def uv[Lk]:Env:=pL.BC ur XF
theorem uu:A5 Tryz.prog uv:=Row.A2 pL uq Tryz.func25 AHg
abbrev sf:Row:=⟨122,0,0,2,0,none,APx,[(.ret,BG)],A6,[(6,[[],[],[],[],[],[],[],[],[]])],[(0,AJy,Hy)]⟩
def wB[Lk]:Env:=sf.BC uv AAc
theorem wA:A5 Tryz.prog wB:=Row.A2 sf uu Tryz.func122 AJz
abbrev AET:Row:=⟨54,0,0,2,0,none,pJ,[(.ret,BG)],A6,[],[]⟩
def AF9[Lk]:Env:=AET.BC wB AOh
theorem ACH:A5 Tryz.prog AF9:=Row.A2 AET wA Tryz.func54 AOg
abbrev La:Row:=⟨60,0,0,2,0,some (1,207),MP,[(.ret,BG)],A6,[],[]⟩
def Lf[Lk]:Env:=La.BC AF9 Gj
theorem PH:A5 Tryz.prog Lf:=Row.A2 La ACH Tryz.func60 KL
end
end Go.Pev
end
section
namespace Go.Pev
open Go.Proofs
noncomputable section
abbrev JY:Row:=⟨60,0,1,2,0,some (1,172),KE,[(.ret,Q3)],A6,[],[]⟩
def Jb[Lk]:Env:=JY.BC Lf Ez
theorem M':A5 Tryz.prog Jb:=Row.A2 JY PH Tryz.func60 Io
abbrev Mo:Row:=⟨60,0,0,2,0,some (1,129),N0,[(.ret,BG)],A6,[],[]⟩
def NA[Lk]:Env:=Mo.BC Jb Hd
theorem RT:A5 Tryz.prog NA:=Row.A2 Mo M' Tryz.func60 LZ
abbrev Ir:Row:=⟨60,0,1,2,0,some (1,212),JO,[(.ret,O')],A6,[],[]⟩
def Iz[Lk]:Env:=Ir.BC NA GV
theorem Lh:A5 Tryz.prog Iz:=Row.A2 Ir RT Tryz.func60 Np
abbrev N6:Row:=⟨60,0,1,2,0,some (1,115),QR,[(.ret,bL)],A6,[],[]⟩
def OD[Lk]:Env:=N6.BC Iz Mq
theorem S0:A5 Tryz.prog OD:=Row.A2 N6 Lh Tryz.func60 Y6
abbrev Ml:Row:=⟨334,0,2,2,8,some (1,335),MR,[(.ret,Y2)],A6,[],[(0,VM,VL)]⟩
def M_[Lk]:Env:=Ml.BC OD LN
theorem RP:A5 Tryz.prog M_:=Row.A2 Ml S0 Tryz.func334 VN
abbrev tE:Row:=⟨139,0,0,2,0,none,KA,[(.ret,BG)],A6,[],[]⟩
def wF[Lk]:Env:=tE.BC M_ Y5
theorem wE:A5 Tryz.prog wF:=Row.A2 tE RP Tryz.func139 AKK
abbrev fV:Row:=⟨65,0,0,2,0,none,AKs,[(.ret,Jv)],BO,[(5,[[0],[2],[2],[],[],[0],[2],[2],[],[],[],[]])],[]⟩
def iA[Lk]:Env:=fV.BC wF lW
theorem nS:A5 Tryz.prog iA:=Row.A2 fV wE Tryz.func65 ABZ
abbrev c8:Row:=⟨74,0,0,1,0,none,Yu,[(.ret,LI)],BO,[],[(0,xr,xq)]⟩
def gF[Lk]:Env:=c8.BC iA Vy
theorem mK:A5 Tryz.prog gF:=Row.A2 c8 nS Tryz.func74 W7
abbrev pV:Row:=⟨124,0,0,1,0,none,Oc,[(.ret,BG)],A6,[],[]⟩
def u7[Lk]:Env:=pV.BC gF L4
theorem u6:A5 Tryz.prog u7:=Row.A2 pV mK Tryz.func124 dH
abbrev qA:Row:=⟨317,0,0,2,0,none,KA,[(.ret,Qk)],BO,[],[(0,AH9,AH8)]⟩
def vI[Lk]:Env:=qA.BC u7 places
theorem vH:A5 Tryz.prog vI:=Row.A2 qA u6 Tryz.func317 dY
abbrev ADa:Row:=⟨267,0,0,2,0,none,Ie,[(.ret,Qk)],BO,[],[]⟩
def AF5[Lk]:Env:=ADa.BC vI pg
theorem ACD:A5 Tryz.prog AF5:=Row.A2 ADa vH Tryz.func267 pf
abbrev pW:Row:=⟨319,0,0,1,0,none,Oc,[(.ret,EB)],A6,[],[]⟩
def vA[Lk]:Env:=pW.BC AF5 jR
theorem u9:A5 Tryz.prog vA:=Row.A2 pW ACD Tryz.func319 dI
end
end Go.Pev
end
section
namespace Go.Pev
open Go.Proofs
noncomputable section
abbrev oD:Row:=⟨55,0,0,1,0,none,dN,[(.ret,BG)],A6,[(8,[[],[],[],[],[],[],[],[],[],[],[],[],[],[],[],[],[],[],[],[],[],[],[],[],[0],[0],[],[],[],[]])],[(0,AG2,AGz),(1,AG1,AGy),(2,AG0,AGx)]⟩
def ua[Lk]:Env:=oD.BC vA OJ
theorem uZ:A5 Tryz.prog ua:=Row.A2 oD u9 Tryz.func55 cQ
abbrev AFW:Row:=⟨266,0,0,3,0,none,X3,[(.ret,BL)],A6,[],[]⟩
def AGW[Lk]:Env:=AFW.BC ua asked
theorem ACf:A5 Tryz.prog AGW:=Row.A2 AFW uZ Tryz.func266 uC
abbrev ACu:Row:=⟨269,0,0,3,0,none,ARy,[(.ret,ARx)],ARw,[],[(0,ALs,ALq),(1,ALr,ALp)]⟩
def AFp[Lk]:Env:=ACu.BC AGW ACv
theorem ABx:A5 Tryz.prog AFp:=Row.A2 ACu ACf Tryz.func269 n0
abbrev AC1:Row:=⟨228,0,0,3,0,none,X3,[(.ret,rW)],Vu,[(9,[[],[28],[0],[0],[],[],[],[],[],[0],[0],[],[],[],[],[],[28],[28,52,36,62],[64],[]]),(4,[[0],[],[],[0],[],[],[],[]])],[]⟩
def AFs[Lk]:Env:=AC1.BC AFp Nu
theorem AB0:A5 Tryz.prog AFs:=Row.A2 AC1 ABx Tryz.func228 IB
abbrev sL:Row:=⟨89,0,0,2,0,none,APp,[(.ret,BL)],A6,[],[]⟩
def vq[Lk]:Env:=sL.BC AFs MZ
theorem vp:A5 Tryz.prog vq:=Row.A2 sL AB0 Tryz.func89 eo
abbrev Yw:Row:=⟨227,0,0,3,0,some (2,228),AAg,[(.ret,SC)],DF,[(1,[[0],[],[],[4],[]])],[(0,sq,sm)]⟩
def aA[Lk]:Env:=Yw.BC vq Yx
theorem br:A5 Tryz.prog aA:=Row.A2 Yw vp Tryz.func227 Mi
abbrev sT:Row:=⟨171,0,0,2,0,none,Jw,[(.ret,SC)],DF,[],[]⟩
def v7[Lk]:Env:=sT.BC aA AAa
theorem v5:A5 Tryz.prog v7:=Row.A2 sT br Tryz.func171 Sc
abbrev AUw:Row:=⟨87,0,0,2,0,none,G7,[(.ret,FO)],BO,[],[]⟩
def AVB[Lk]:Env:=AUw.BC v7 fof
theorem ARl:A5 Tryz.prog AVB:=Row.A2 AUw v5 Tryz.func87 AAZ
abbrev rS:Row:=⟨86,0,0,1,0,none,Jy,[(.ret,BG)],A6,[(7,[[2],[2],[],[],[2],[2],[2],[2],[],[],[],[2],[2],[0],[0],[],[],[],[2],[2],[],[],[],[2],[2],[],[],[],[],[],[],[],[0],[0],[],[],[],[],[2],[],[],[],[]])],[(0,AJB,AJA)]⟩
def va[Lk]:Env:=rS.BC AVB E7
theorem vZ:A5 Tryz.prog va:=Row.A2 rS ARl Tryz.func86 J7
abbrev AUc:Row:=⟨90,0,0,2,0,none,FO,[(.ret,BL)],A6,[],[]⟩
def AU6[Lk]:Env:=AUc.BC va tof
theorem ARH:A5 Tryz.prog AU6:=Row.A2 AUc vZ Tryz.func90 AVG
abbrev eQ:Row:=⟨39,0,0,2,0,none,MG,[(.ret,FO)],BO,[(3,[[0],[0],[0],[],[],[12],[],[],[3],[]])],[]⟩
def gr[Lk]:Env:=eQ.BC AU6 NW
theorem nG:A5 Tryz.prog gr:=Row.A2 eQ ARH Tryz.func39 X4
abbrev cL:Row:=⟨58,0,0,2,4,none,KA,[(.ret,fW)],Sq,[(12,[[2],[2],[],[],[],[],[],[10],[10],[8],[9,12]]),(5,[[],[],[],[],[],[],[],[],[37]])],[(0,xC,xA),(1,xB,w9)]⟩
def fk[Lk]:Env:=cL.BC gr Vs
theorem lz:A5 Tryz.prog fk:=Row.A2 cL nG Tryz.func58 Wc
end
end Go.Pev
end
section
namespace Go.Pev
open Go.Proofs
noncomputable section
abbrev ra:Row:=⟨42,0,0,1,0,none,Jy,[(.ret,Xx)],A6,[],[(0,AJN,AJM)]⟩
def ve[Lk]:Env:=ra.BC fk X5
theorem vd:A5 Tryz.prog ve:=Row.A2 ra lz Tryz.func42 AJO
abbrev ADk:Row:=⟨109,0,0,2,0,none,WA,[(.ret,je)],BO,[(10,[[2],[6],[4],[],[5],[],[5]])],[(0,ANj,ANi)]⟩
def AF7[Lk]:Env:=ADk.BC ve ADl
theorem ACF:A5 Tryz.prog AF7:=Row.A2 ADk vd Tryz.func109 ANk
abbrev APl:Row:=⟨102,0,0,2,0,none,WA,[(.ret,je)],BO,[],[(0,ATw,ATu),(1,ATv,ATt)]⟩
def ARj[Lk]:Env:=APl.BC AF7 ATy
theorem ALd:A5 Tryz.prog ARj:=Row.A2 APl ACF Tryz.func102 ATx
abbrev AFY:Row:=⟨116,0,0,1,0,none,Jy,[(.ret,BL)],A6,[],[]⟩
def AGX[Lk]:Env:=AFY.BC ARj AQ1
theorem ACg:A5 Tryz.prog AGX:=Row.A2 AFY ALd Tryz.func116 AQ0
abbrev uN:Row:=⟨50,0,0,3,0,none,AQ9,[(.ret,AQ8)],AL2,[(16,[[48],[48],[50],[0],[],[]])],[]⟩
def wv[Lk]:Env:=uN.BC AGX ARA
theorem wu:A5 Tryz.prog wv:=Row.A2 uN ACg Tryz.func50 AK8
abbrev AEX:Row:=⟨250,0,0,3,0,none,P_,[(.ret,BL)],A6,[],[]⟩
def AGA[Lk]:Env:=AEX.BC wv AOn
theorem ACI:A5 Tryz.prog AGA:=Row.A2 AEX wu Tryz.func250 AOm
abbrev Yp:Row:=⟨299,0,0,2,0,none,FO,[(.ret,Lv)],BO,[(4,[[0],[0],[0],[],[],[],[],[],[],[1000005,21,1],[]])],[]⟩
def Z_[Lk]:Env:=Yp.BC AGA Qn
theorem bp:A5 Tryz.prog Z_:=Row.A2 Yp ACI Tryz.func299 sS
abbrev qI:Row:=⟨192,0,0,3,0,none,P_,[(.ret,Jv)],BO,[],[]⟩
def vS[Lk]:Env:=qI.BC Z_ jf
theorem vR:A5 Tryz.prog vS:=Row.A2 qI bp Tryz.func192 AIH
abbrev ADh:Row:=⟨252,0,0,4,0,none,ASZ,[(.ret,Lv)],BO,[(9,[[],[20],[],[28],[],[],[20],[20],[],[28],[28],[],[],[60],[],[]])],[]⟩
def mV[Lk]:Env:=ADh.BC vS ANM
theorem Zu:A5 Tryz.prog mV:=Row.A2 ADh vR Tryz.func252 ANL
def M6[Lk]:Env:=mV.ext 254 false false (CL Tryz.prog mV { fp:=fun n=>match n with|0=>[[],[],[0],[0],[0],[],[2],[2],[2],[],[],[2],[2],[3]]|_=>[] } Tryz.f254)
theorem M5:A5 Tryz.prog M6:=Env.CR Zu (B5 Zu Tryz.func254 ANR ANQ ANP) (by simp) (by simp)
def gU[Lk]:Env:=M6.ext 253 false false (CL Tryz.prog M6 {} Tryz.f253)
theorem ma:A5 Tryz.prog gU:=Env.CR M5 (B5 M5 Tryz.func253 AV2 AV1 AV0) (by simp) (by simp)
abbrev AUm:Row:=⟨194,0,2,4,0,none,AWu,[(.ret,AWt)],A6,[(29,[[],[],[],[2],[2],[2],[],[2],[2],[2],[],[0],[0],[0],[1],[0],[0],[0],[1]])],[(0,AVy,AVv),(1,AVx,AVu),(2,AVw,AVt)]⟩
def AU9[Lk]:Env:=AUm.BC gU pat
theorem ARV:A5 Tryz.prog AU9:=Row.A2 AUm ma Tryz.func194 AVz
abbrev ANU:Row:=⟨110,0,0,3,0,none,P_,[(.ret,AVg)],ANS,[(9,[[],[4],[4],[4],[],[4],[4],[4],[1],[3],[]]),(5,[[0],[0],[0],[0],[],[],[0],[0],[],[],[],[],[16],[],[14],[14],[],[0],[0],[],[],[18],[]])],[(0,ASc,ASb)]⟩
def ARQ[Lk]:Env:=ANU.BC AU9 AVh
theorem ALM:A5 Tryz.prog ARQ:=Row.A2 ANU ARV Tryz.func110 ASd
abbrev ADn:Row:=⟨48,0,0,2,0,none,WA,[(.ret,ASe)],DF,[(12,[[20],[],[22],[],[5,24],[7],[]])],[(0,ANn,ANm)]⟩
def AF8[Lk]:Env:=ADn.BC ARQ AUk
theorem ACG:A5 Tryz.prog AF8:=Row.A2 ADn ALM Tryz.func48 ANo
end
end Go.Pev
end
section
namespace Go.Pev
open Go.Proofs
noncomputable section
abbrev ADU:Row:=⟨64,0,0,1,0,none,Jy,[(.ret,Qk)],BO,[(3,[[0],[0],[0],[],[10],[],[],[],[],[]])],[]⟩
def AF2[Lk]:Env:=ADU.BC AF8 AMk
theorem ACA:A5 Tryz.prog AF2:=Row.A2 ADU ACG Tryz.func64 AMj
abbrev XB:Row:=⟨214,0,0,2,0,none,xv,[(.ret,Lv)],BO,[],[(0,pD,pC)]⟩
def Zr[Lk]:Env:=XB.BC AF2 pF
theorem ba:A5 Tryz.prog Zr:=Row.A2 XB ACA Tryz.func214 pE
abbrev sV:Row:=⟨238,0,0,2,0,none,FO,[(.ret,Jv)],BO,[(4,[[0],[0],[0],[],[],[],[],[],[],[],[]])],[]⟩
def v9[Lk]:Env:=sV.BC Zr kY
theorem v8:A5 Tryz.prog v9:=Row.A2 sV ba Tryz.func238 AJs
abbrev TL:Row:=⟨185,0,0,2,0,none,Jw,[(.ret,je)],BO,[],[(0,jI,jH)]⟩
def UG[Lk]:Env:=TL.BC v9 Rm
theorem Zp:A5 Tryz.prog UG:=Row.A2 TL v8 Tryz.func185 jJ
abbrev dA:Row:=⟨104,0,0,2,0,none,Jw,[(.ret,AHX)],BO,[],[]⟩
def gG[Lk]:Env:=dA.BC UG jK
theorem mL:A5 Tryz.prog gG:=Row.A2 dA Zp Tryz.func104 xt
abbrev APn:Row:=⟨47,0,0,2,0,none,WA,[(.ret,AWE)],ANS,[(12,[[],[10],[10],[10],[10],[],[],[6],[6],[],[],[9,12],[]])],[(0,AT1,AT0)]⟩
def ARk[Lk]:Env:=APn.BC gG AW3
theorem ALe:A5 Tryz.prog ARk:=Row.A2 APn mL Tryz.func47 AT2
abbrev rm:Row:=⟨57,0,0,1,0,none,rl,[(.ret,BG)],A6,[],[]⟩
def RD[Lk]:Env:=rm.BC ARk HK
theorem HB:A5 Tryz.prog RD:=Row.A2 rm ALe Tryz.func57 eW
end
end Go.Pev
end
section
namespace Go.Pev
open Go.Proofs
noncomputable section
set_option maxHeartbeats 8000000
attribute [local irreducible] A4 A7 BT C1 E' DD A3 Dg Cb imax idx Cv ilt ile ieq seq? quo? rem? shl? shr? fits CZ IntKind.wrap BA BP aT AIp BH VJ A9 many LO
abbrev JL:A1:=[AB]
abbrev JK:A1:=[]
abbrev LA:List RS:=[]
abbrev QJ:A1:=[]
def kK[Lk]:Hints:={ fp:=Ql [] }
def eb[Lk](v:Bg (leaves JL)):Option (Bg (leaves JK)⊕(List Int×Bg (leaves QJ))):=Lk.f (DR 0 Tryz.prog RD kK Tryz.f213 JL JK LA 229 [.i64] QJ v)
theorem r6(v):eb v=DR 0 Tryz.prog RD kK Tryz.f213 JL JK LA 229 [.i64] QJ v:=A0 _
theorem Th:By Tryz.prog 0 kK (CE Tryz.f213) 0:=C2 _ 0 (by kernel_rfl)
theorem AO9:Gm Tryz.prog 213 (Bb 0 1 JL JK LA fun x=>DC (eb x)) (HR 0 1 JL JK LA 229 [.i64] QJ eb):=J5 HB.1 HB.2.1 HB.2.2 Tryz.func213 (Fk (by kernel_rfl)) (CV Tryz.func213 (by kernel_rfl) (by kernel_rfl)) (AYD rfl) r6 Th
theorem AO8:BV Tryz.prog 213 (Bb 0 1 JL JK LA fun x=>DC (eb x)):=J3 HB Tryz.func213 (by kernel_rfl) (by kernel_rfl) rfl r6 Th
def WR[Lk]:Env:=Env.ki RD 213 true (Bb 0 1 JL JK LA fun x=>DC (eb x)) (HR 0 1 JL JK LA 229 [.i64] QJ eb)
theorem Iy:A5 Tryz.prog WR:=Env.WI HB AO8 AO9 (fun _=>Ce rfl rfl)
abbrev Aca:Loc×Con:=(.tmp 1,.dat (.prod (.int .i64) (.prod (.slice (.prod (.int .i64) (.prod (.int .i64) .unit))) (.prod (.slice (.prod (.int .i64) (.prod (.int .i64) (.prod (.int .i64) .unit)))) .unit))))
abbrev Acb:Loc×Con:=(.tmp 2,.dat (.prod (.int .i64) (.prod (.int .i64) (.prod (.prod (.int .i64) (.prod (.int .i64) (.prod (.slice (.arr 2 (.int .i64))) .unit))) .unit))))
abbrev Acd:Loc×Con:=(.cell 0 1,.dat (.slice (.prod (.int .i64) (.prod (.int .i64) (.prod (.int .i64) (.prod .bool .unit))))))
abbrev Ace:Loc×Con:=(.cell 0 6,.dat (.slice (.int .i64)))
abbrev JI:A1:=[(.tmp 0,.box 7),AO,Acd,Abs,Abr,AcS,AbN,Ace,Aca,Acb]
abbrev JH:A1:=[(.obj 0,.box 7),AO,Acd,Abs,Abr,AcS,AbN,Ace]
abbrev K8:List RS:=[]
abbrev QG:A1:=[(.obj 0,.box 7)]
def kD[Lk]:Hints:={ fp:=Ql [(1,[[],[0],[0],[0],[0],[2],[4],[],[],[],[],[],[],[15],[],[]]),(7,[[],[],[],[0],[0],[0],[0],[14],[14],[6],[],[],[],[],[0],[0],[0],[1],[0],[0],[0],[1],[]]),(9,[[],[],[0],[0],[0],[0],[14],[14],[6],[],[],[],[],[0],[0],[0],[1],[]]),(12,[[],[],[0],[0],[0],[0],[14],[14],[],[],[],[],[0],[0],[0],[1],[]])] }
def eV[Lk](v:Bg (leaves JI)):Option (Bg (leaves JH)⊕(List Int×Bg (leaves QG))):=Lk.f (DR 1 Tryz.prog WR kD Tryz.f144 JI JH K8 229 [.i64] QG v)
theorem rj(v):eV v=DR 1 Tryz.prog WR kD Tryz.f144 JI JH K8 229 [.i64] QG v:=A0 _
theorem Tg:By Tryz.prog 1 kD (CE Tryz.f144) 0:=C2 _ 0 (by kernel_rfl)
theorem AOs:Gm Tryz.prog 144 (Bb 1 3 JI JH K8 fun x=>DC (eV x)) (HR 1 3 JI JH K8 229 [.i64] QG eV):=J5 Iy.1 Iy.2.1 Iy.2.2 Tryz.func144 (Fk (by kernel_rfl)) (CV Tryz.func144 (by kernel_rfl) (by kernel_rfl)) (AYD rfl) rj Tg
theorem AOr:BV Tryz.prog 144 (Bb 1 3 JI JH K8 fun x=>DC (eV x)):=J3 Iy Tryz.func144 (by kernel_rfl) (by kernel_rfl) rfl rj Tg
def WQ[Lk]:Env:=Env.ki WR 144 false (Bb 1 3 JI JH K8 fun x=>DC (eV x)) (HR 1 3 JI JH K8 229 [.i64] QG eV)
theorem LS:A5 Tryz.prog WQ:=Env.WI Iy AOr AOs (by simp)
abbrev Acf:Loc×Con:=(.tmp 0,.dat (.prod (.prod (.int .i64) (.prod (.slice (.prod (.int .i64) (.prod (.int .i64) (.prod (.int .i64) (.prod .bool .unit))))) .unit)) (.prod (.int .i64) (.prod (.int .i64) .unit))))
abbrev MJ:A1:=[Acf,Aca,Acb]
abbrev MH:A1:=[Acf,(.tmp 1,.dat (.prod (.int .i64) (.prod (.int .i64) (.prod (.slice (.int .i64)) .unit))))]
abbrev QF:List RS:=[.one,.one]
abbrev Acg:Loc×Con:=(.tmp 3,.box 4)
abbrev ri:A1:=[Acg,(.tmp 6,.box 4),(.tmp 7,.box 3),AO,Acd,Abs,Abr,AQ,(.cell 1 1,.nil (.prod (.int .i64) (.prod (.int .i64) (.prod (.int .i64) (.prod .bool .unit))))),Ab3,AcW,Abe,Abf,(.cell 2 2,.nil (.int .i64)),Aax,(.cell 3 0,.di),(.cell 3 1,.dat (.slice (.prod (.int .i64) (.prod (.int .i64) .unit)))),(.cell 3 2,.dat (.slice (.prod (.int .i64) (.prod (.int .i64) (.prod (.int .i64) .unit))))),(.tmp 5,.box 5),(.cell 4 0,.di),(.cell 4 1,.di),(.cell 4 2,.di),(.cell 4 3,.di),(.cell 4 4,.dat (.slice (.arr 2 (.int .i64))))]
def SJ[Lk]:Hints:={ fp:=Ql [(6,[[],[10],[10],[10],[],[10],[10],[10],[3],[5]])] }
def eT:Hints:={ fp:=Ql [(3,[[0],[20],[20],[],[3],[5]])] }
def El[Lk](v:Bg (leaves MJ)):Option (Bg (leaves MH)):=Lk.f (R2 Tryz.prog WQ Tryz.f68 2 MJ MH QF {} SJ eT ri 3 v)
theorem AJQ(v):El v=R2 Tryz.prog WQ Tryz.f68 2 MJ MH QF {} SJ eT ri 3 v:=A0 _
theorem kB[DfI]:By Tryz.prog 3 SJ (tQ 2 (CE Tryz.f68)) 0:=C2 _ 0 (by kernel_rfl)
theorem rh:BV Tryz.prog 68 (Bb 0 3 MJ MH QF El):=rI LS.1 LS.2.1 LS.2.2 Tryz.func68 (Fk (by kernel_rfl)) (CV Tryz.func68 (by kernel_rfl) (by kernel_rfl)) (AYD rfl) AJQ kB
def vg[Lk]:Env:=WQ.ext 68 true true (Bb 0 3 MJ MH QF El)
theorem vf:A5 Tryz.prog vg:=Env.CR LS rh (fun _=>Kx rfl rfl) (fun _=>Ce rfl rfl)
end
end Go.Pev
end
section
namespace Go.Pev
noncomputable section
def Mm[Lk]:U8→Option (Uc):=fun(a,_)=>
 match(ile 0 a)with
 |true=>some ((ile a 1099511627776),())
 |false=>some (false,())
def KK[Lk]:=fun v=>Lk.f (Mm v)
theorem Q1 v:KK v=Mm v:=A0 _
def Rs[Lk]:(V2×Unit)→Option (Uc):=fun(a,_)=>
 match HW ((a.1.1,(a.1.2.1,())),())with|none=>none|some (b,_)=>match b with
 |true=>match KK (a.2.1,())with|none=>none|some (c,_)=>match c with
  |true=>match KK (a.2.2.1,())with|none=>none|some (d,_)=>some (d,())
  |false=>some (false,())
 |false=>some (false,())
def Pk[Lk]:=fun v=>Lk.f (Rs v)
theorem XN v:Pk v=Rs v:=A0 _
abbrev Wq:A1:=[AcZ,Aao]
abbrev Wp:A1:=[(.tmp 0,.own 39 V7),AI]
abbrev Ach:Loc×Con:=(.tmp 8,.own 39 V7)
abbrev oH:A1:=[Aao,AcM,AO,Az,Ach,Ah]
abbrev S_:BF:=[(.exit 0,[Ach])]
def Gu[Lk]:(List Int×Int×List U5×List Uk×Int×Unit)→Option ((List Int×Int×List U5×List Uk×Int×Unit)⊕(List Uk×Unit)⊕Unit):=fun(d,h,a,c,b,_)=>
 match(ilt b (A4 a))with
 |true=>match idx a b with|none=>none|some i=>match idx a b with|none=>none|some j=>match Na (j,d,())with|none=>none|some (k,_)=>match WN (i,k,())with|none=>none|some (e,f,g,l,_)=>match(fits ((A4 c)+(A4 ([(e,(f,(g,())))]:List Uk))))with
  |true=>some (.inl (d,h,a,(BT c ([(e,(f,(g,())))]:List Uk)),(w64 (b+1)),()))
  |false=>none
 |false=>some (.inr (.inl (c,())))
def Kh[Lk]:(V2×List Int×Unit)→Option ((List Uk×Int×Unit)):=fun(a,c,_)=>
 match Pk (((a.1.1,(a.1.2.1,())),(a.2.1,(a.2.2.1,()))),())with|none=>none|some (d,_)=>match(!d)with
 |true=>some (([]:List Uk),1,())
 |false=>match Qm ((a.1.1,(a.1.2.1,())),0,())with|none=>none|some (b,f,_)=>match A9 Gu many (c,b.1,b.2.1,([]:List Uk),0,())with|none=>none|some r=>match r with
 |.inl (e,_)=>some (e,0,())
 |.inr _=>none
def PU[Lk]:=fun v=>Lk.f (Kh v)
theorem Lt v:PU v=Kh v:=A0 _
abbrev AHc:A1:=[(.tmp 0,.dat (.slice V7)),(.tmp 1,.dat (.slice V7))]
abbrev xw:A1:=[(.tmp 0,.dat (.slice V7)),(.tmp 1,.dat (.slice V7)),AG]
def IF[Lk]:(List Uk×List Uk×Int×Unit)→Option ((List Uk×List Uk×Int×Unit)⊕Uc⊕(Unit)⊕Unit):=fun(b,e,a,_)=>
 match(ilt a (A4 b))with
 |true=>match idx b a with|none=>none|some c=>match idx e a with|none=>none|some d=>match jO ((c.1,(c.2.1,(c.2.2.1,()))),(d.1,(d.2.1,(d.2.2.1,()))),())with|none=>none|some (f,_)=>match(!f)with
  |true=>some (.inr (.inl (false,())))
  |false=>some (.inl (b,e,(w64 (a+1)),()))
 |false=>some (.inr (.inr (.inl ())))
def Rp[Lk]:(List Uk×List Uk×Unit)→Option (Uc):=fun(a,b,_)=>
 match(!(ieq (A4 a) (A4 b)))with
 |true=>some (false,())
 |false=>match A9 IF many (a,b,0,())with|none=>none|some r=>match r with
 |.inl (c,_)=>some (c,())
 |.inr r=>match r with
 |.inl _=>some (true,())
 |.inr _=>none
def Pg[Lk]:=fun v=>Lk.f (Rp v)
theorem XD v:Pg v=Rp v:=A0 _
abbrev Aci:Loc×Con:=(.tmp 0,.dat (.slice Ut))
abbrev dR:A1:=[Aci]
abbrev yS:A1:=[Aci,AcE,AG]
def GB[Lk]:(List Ui×List Int×Int×Unit)→Option ((List Ui×List Int×Int×Unit)⊕U8⊕Ua⊕Unit):=fun(a,b,c,_)=>
 match(ilt c (A4 a))with
 |true=>match idx a c with|none=>none|some d=>match Qw ((d.1,(d.2.1,(d.2.2.1,()))),())with|none=>none|some (e,f,_)=>match(!(ieq f 0))with
  |true=>some (.inr (.inl (f,())))
  |false=>match(fits ((A4 b)+(A4 e)))with
  |true=>some (.inl (a,(BT b e),(w64 (c+1)),()))
  |false=>none
 |false=>some (.inr (.inr (.inl (b,()))))
def Rx[Lk]:(List Ui×Unit)→Option (Uh):=fun(a,_)=>
 match A9 GB many (a,([]:List (Int)),0,())with|none=>none|some r=>match r with
 |.inl (b,_)=>some (([]:List (Int)),b,())
 |.inr r=>match r with
 |.inl (c,_)=>some (c,0,())
 |.inr _=>none
def V_[Lk]:=fun v=>Lk.f (Rx v)
theorem XQ v:V_ v=Rx v:=A0 _
abbrev AUW:A1:=[Aci,(.tmp 1,.dat (.slice Ut))]
abbrev AQ4:A1:=[Aci,(.tmp 1,.dat (.slice Ut)),AG]
def AQ3[Lk]:(List Ui×List Ui×Int×Unit)→Option ((List Ui×List Ui×Int×Unit)⊕Uc⊕(Unit)⊕Unit):=fun(b,e,a,_)=>
 match(ilt a (A4 b))with
 |true=>match idx b a with|none=>none|some c=>match idx e a with|none=>none|some d=>match Rq ((c.1,(c.2.1,(c.2.2.1,()))),(d.1,(d.2.1,(d.2.2.1,()))),())with|none=>none|some (f,_)=>match(!f)with
  |true=>some (.inr (.inl (false,())))
  |false=>some (.inl (b,e,(w64 (a+1)),()))
 |false=>some (.inr (.inr (.inl ())))
def AFb[Lk]:(List Ui×List Ui×Unit)→Option (Uc):=fun(a,b,_)=>
 match(!(ieq (A4 a) (A4 b)))with
 |true=>some (false,())
 |false=>match A9 AQ3 many (a,b,0,())with|none=>none|some r=>match r with
 |.inl (c,_)=>some (c,())
 |.inr r=>match r with
 |.inl _=>some (true,())
 |.inr _=>none
def uK[Lk]:=fun v=>Lk.f (AFb v)
theorem AQ5 v:uK v=AFb v:=A0 _
abbrev APC:A1:=[AcZ,AI]
def r8[Lk]:U8→Option ((V2×Int×Unit)):=fun(a,_)=>
 match(ilt a 1)with
 |true=>some (((0,(([]:List U1),())),(0,(0,()))),1,())
 |false=>match(ilt 64 a)with
 |true=>some (((0,(([]:List U1),())),(0,(0,()))),1,())
 |false=>some (((a,(([]:List U1),())),(0,(0,()))),0,())
def Yb[Lk]:=fun v=>Lk.f (r8 v)
theorem AJa v:Yb v=r8 v:=A0 _
abbrev AV7:A1:=[AcZ,(.tmp 1,.dat (.slice (.int .u8))),AcP]
abbrev AV6:A1:=[AcZ,(.tmp 1,.own 58 Ut),AJ]
abbrev ATJ:A1:=[Acg,AO,Aad,Abs,Abr,(.tmp 5,.box 5),AQ,Aba,Ab3,AcW,(.cell 1 4,.dat (.slice (.arr 2 U0))),(.tmp 6,.box 4),Abe,(.cell 2 1,.nil U2),(.cell 2 2,.di),(.cell 2 3,.di),Ae,(.tmp 12,.own 58 Ut),(.tmp 27,.dat (.slice (.prod U0 (.prod Vb (.prod (.slice (.prod U0 U4)) .unit))))),AcJ,AcG]
abbrev ATI:BF:=[(.exit 0,[Acg,AO,Aad,Abs,Abr,(.tmp 6,.box 4),AQ,AcX,Ab3,AcW,Ae,(.tmp 12,.own 58 Ut)])]
def QH[Lk]:(Int×List U1×Int×Int×Int×Int×Int×Int×List U5×Int×Int×Int×Int×List Ui×List (Int×(List U3)×(List Ug)×Unit)×Int×Int×Unit)→Option ((Int×List U1×Int×Int×Int×Int×Int×Int×List U5×Int×Int×Int×Int×List Ui×List (Int×(List U3)×(List Ug)×Unit)×Int×Int×Unit)⊕(Int×List U1×Int×Int×Int×Int×Int×Int×List Ui×Unit)⊕Unit):=fun(f,g,h,i,j,k,l,m,n,o,p,q,r,c,s,t,d,_)=>
 match(ilt d t)with
 |true=>match idx s d with|none=>none|some e=>match El (((f,(g,())),(h,(i,()))),(e.1,(e.2.1,(e.2.2.1,()))),(j,(k,((l,(m,(n,()))),()))),())with|none=>none|some (b,a,_)=>match(fits ((A4 c)+(A4 ([(a.1,(a.2.1,(a.2.2.1,())))]:List Ui))))with
  |true=>some (.inl (b.1.1,b.1.2.1,b.2.1,b.2.2.1,j,k,l,m,n,o,p,q,r,(BT c ([(a.1,(a.2.1,(a.2.2.1,())))]:List Ui)),s,t,(w64 (d+1)),()))
  |false=>none
 |false=>some (.inr (.inl (f,g,h,i,o,p,q,r,c,())))
def AAQ[Lk]:(V2×List Int×(Int×Int×V0×Unit)×Unit)→Option ((V2×List Ui×Int×Unit)):=fun(a,j,b,_)=>
 match HK (((a.1.1,(a.1.2.1,())),(a.2.1,(a.2.2.1,()))),())with|none=>none|some (k,_)=>match(!k)with
 |true=>some (((a.1.1,(a.1.2.1,())),(a.2.1,(a.2.2.1,()))),([]:List Ui),1,())
 |false=>match Kd (j,())with|none=>none|some (e,m,l,_)=>match A9 QH many (a.1.1,a.1.2.1,a.2.1,a.2.2.1,b.1,b.2.1,b.2.2.1.1,b.2.2.1.2.1,b.2.2.1.2.2.1,0,0,0,l,([]:List Ui),e,(A4 e),0,())with|none=>none|some r=>match r with
 |.inl (f,g,h,i,n,o,p,c,d,_)=>match(!(ieq c 0))with
  |true=>match(fits ((A4 d)+(A4 ([(c,(0,(([]:List (Int)),())))]:List Ui))))with
   |true=>some (((f,(g,())),(h,(i,()))),(BT d ([(c,(0,(([]:List (Int)),())))]:List Ui)),c,())
   |false=>none
  |false=>some (((f,(g,())),(h,(i,()))),d,c,())
 |.inr _=>none
def AOv[Lk]:=fun v=>Lk.f (AAQ v)
theorem AEf v:AOv v=AAQ v:=A0 _
abbrev AJR:A1:=[AcE,(.tmp 9,.dat (.slice Ut)),Ad,Ae]
def Hw[Lk]:(List Int×List Ui×Int×Int×Unit)→Option ((List Int×List Ui×Int×Int×Unit)⊕U8⊕Ua⊕Unit):=fun(a,d,e,b,_)=>
 match(ilt b e)with
 |true=>match idx d b with|none=>none|some c=>match Vy ((c.1,(c.2.1,(c.2.2.1,()))),())with|none=>none|some (f,g,_)=>match(!(ieq g 0))with
  |true=>some (.inr (.inl (g,())))
  |false=>match(fits ((A4 a)+(A4 f)))with
  |true=>some (.inl ((BT a f),d,e,(w64 (b+1)),()))
  |false=>none
 |false=>some (.inr (.inr (.inl (a,()))))
def YC[Lk]:(List Ui×Unit)→Option (Uh):=fun(a,_)=>
 match A9 Hw many (([]:List (Int)),a,(A4 a),0,())with|none=>none|some r=>match r with
 |.inl (b,_)=>some (([]:List (Int)),b,())
 |.inr r=>match r with
 |.inl (c,_)=>some (c,0,())
 |.inr _=>none
def On[Lk]:=fun v=>Lk.f (YC v)
theorem eX v:On v=YC v:=A0 _
abbrev AAP:A1:=[Aao,Ach,(.tmp 23,.dat Ue),AbB,Aa5]
def IX[Lk]:(List Int×List Uk×List U5×Int×Int×Unit)→Option ((List Int×List Uk×List U5×Int×Int×Unit)⊕(List Uk×Unit)⊕Unit):=fun(c,a,d,e,b,_)=>
 match(ilt b e)with
 |true=>match idx d b with|none=>none|some f=>match NJ (f,c,())with|none=>none|some (j,_)=>match Vs (f,j,())with|none=>none|some (g,h,i,k,_)=>match(fits ((A4 a)+(A4 ([(g,(h,(i,())))]:List Uk))))with
  |true=>some (.inl (c,(BT a ([(g,(h,(i,())))]:List Uk)),d,e,(w64 (b+1)),()))
  |false=>none
 |false=>some (.inr (.inl (a,())))
def NY[Lk]:(V2×List Int×Unit)→Option ((List Uk×Int×Unit)):=fun(a,c,_)=>
 match HK (((a.1.1,(a.1.2.1,())),(a.2.1,(a.2.2.1,()))),())with|none=>none|some (d,_)=>match(!d)with
 |true=>some (([]:List Uk),1,())
 |false=>match NW ((a.1.1,(a.1.2.1,())),0,())with|none=>none|some (b,f,_)=>match A9 IX many (c,([]:List Uk),b.2.1,(A4 b.2.1),0,())with|none=>none|some r=>match r with
 |.inl (e,_)=>some (e,0,())
 |.inr _=>none
def K7[Lk]:=fun v=>Lk.f (NY v)
theorem Ol v:K7 v=NY v:=A0 _
abbrev ATH:A1:=[AcZ,(.tmp 1,.dat (.prod Um U4))]
def AEd[Lk]:(V2×V2×Unit)→Option (Uc):=fun(a,b,_)=>
 match AOh ((a.1.1,(a.1.2.1,())),(b.1.1,(b.1.2.1,())),())with|none=>none|some (c,_)=>match c with
 |true=>match(ieq a.2.1 b.2.1)with
  |true=>some ((ieq a.2.2.1 b.2.2.1),())
  |false=>some (false,())
 |false=>some (false,())
def rk[Lk]:=fun v=>Lk.f (AEd v)
theorem AOt v:rk v=AEd v:=A0 _
abbrev ACn:A1:=[]
abbrev ARt:A1:=[AB,AI,AJ,AX,(.tmp 4,.own 161 (.arr 2 U0))]
abbrev ARs:List RS:=[.agg 5]
def ACo[Lk]:(Unit)→Option ((Int×Int×Int×Int×List U5×Unit)):=fun _=>
 some (8,2,1,2,([([0,0]:List (Int)),([1,0]:List (Int))]:List U5),())
def nw[Lk]:=fun v=>Lk.f (ACo v)
theorem nv v:nw v=ACo v:=A0 _
abbrev AJf:A1:=[AcZ,Abp]
def SZ[Lk]:(V2×(Int×Int×V0×Unit)×Unit)→Option (Uc):=fun(a,b,_)=>
 match(ilt 30 (A4 a.1.2.1))with
 |true=>some (true,())
 |false=>match(ilt 12 a.1.1)with
 |true=>some (true,())
 |false=>some ((ilt 60 (A4 b.2.2.1.2.2.1)),())
def Qi[Lk]:=fun v=>Lk.f (SZ v)
theorem Yg v:Qi v=SZ v:=A0 _
def Sv[Lk]:(Unit)→Option (Uc):=fun _=>
 match Yb (4,())with|none=>none|some (b,f,_)=>match nw ()with|none=>none|some (g,h,i,j,k,_)=>match AOv (((b.1.1,(b.1.2.1,())),(b.2.1,(b.2.2.1,()))),([1,0,2,0,3,0,1,0,0,0,1,3,0,2,3,0,3,0,0,4,0,0,0,0,2,0,1,0,0,0,1,3,0,1,2,0,3,0,0,9]:List (Int)),(g,(h,((i,(j,(k,()))),()))),())with|none=>none|some (a,e,l,_)=>match K7 (((a.1.1,(a.1.2.1,())),(a.2.1,(a.2.2.1,()))),([1,2]:List (Int)),())with|none=>none|some (m,n,_)=>match On (e,())with|none=>none|some (o,p,_)=>match nw ()with|none=>none|some (q,r,s,t,u,_)=>match El (((a.1.1,(a.1.2.1,())),(a.2.1,(a.2.2.1,()))),(2,(([(4,(0,()))]:List U3),(([]:List Ug),()))),(q,(r,((s,(t,(u,()))),()))),())with|none=>none|some (c,d,_)=>match(ieq f 0)with
 |true=>match(ieq l 8)with
  |true=>match(ieq n 0)with
   |true=>match(ieq p 0)with
    |true=>match uK (e,([(0,(2,(([]:List (Int)),()))),(0,(0,(([3,2]:List (Int)),()))),(0,(1,(([]:List (Int)),()))),(0,(0,(([1]:List (Int)),()))),(8,(0,(([]:List (Int)),())))]:List Ui),())with|none=>none|some (v,_)=>match v with
     |true=>match(ieq (A4 m) 3)with
      |true=>match(ieq (A4 o) 31)with
       |true=>match(ieq a.2.1 4)with
        |true=>match(ilt 0 a.2.2.1)with
         |true=>match HK (((a.1.1,(a.1.2.1,())),(a.2.1,(a.2.2.1,()))),())with|none=>none|some (w,_)=>match w with
          |true=>match rk (((a.1.1,(a.1.2.1,())),(a.2.1,(a.2.2.1,()))),((c.1.1,(c.1.2.1,())),(c.2.1,(c.2.2.1,()))),())with|none=>none|some (x,_)=>match x with
           |true=>match Rq ((d.1,(d.2.1,(d.2.2.1,()))),(10,(0,(([]:List (Int)),()))),())with|none=>none|some (y,_)=>match y with
            |true=>match XF ((a.1.1,(a.1.2.1,())),(4,(([(1,(3,(0,(true,()))))]:List U1),())),())with|none=>none|some (z,_)=>some (z,())
            |false=>some (false,())
           |false=>some (false,())
          |false=>some (false,())
         |false=>some (false,())
        |false=>some (false,())
       |false=>some (false,())
      |false=>some (false,())
     |false=>some (false,())
    |false=>some (false,())
   |false=>some (false,())
  |false=>some (false,())
 |false=>some (false,())
def Q9[Lk]:=fun v=>Lk.f (Sv v)
theorem ZP v:Q9 v=Sv v:=A0 _
abbrev Acj:Loc×Con:=(.tmp 2,.dat (.slice Ut))
abbrev Jg:A1:=[AcZ,Aao,Acj]
abbrev YS:A1:=[Aao,Acj,Acg,AO,Aad,Abs,Abr,AU]
abbrev YF:BF:=[(.ret,[(.tmp 6,.dat .bool)]),(.exit 0,[Aao,Acj,Acg,AO,Aad,Abs,Abr])]
def Dd[Lk]:(List Int×List Ui×Int×List U1×Int×Int×Int×Unit)→Option ((List Int×List Ui×Int×List U1×Int×Int×Int×Unit)⊕Uc⊕(List Int×List Ui×Int×List U1×Int×Int×Unit)⊕Unit):=fun(c,a,d,e,f,g,b,_)=>
 match(ilt b (A4 a))with
 |true=>match idx a b with|none=>none|some h=>match(ilt 100 (A4 h.2.2.1))with
  |true=>some (.inr (.inl (true,())))
  |false=>some (.inl (c,a,d,e,f,g,(w64 (b+1)),()))
 |false=>some (.inr (.inr (.inl (c,a,d,e,f,g,()))))
def Jh[Lk]:(V2×List Int×List Ui×Unit)→Option (Uc):=fun(a,i,b,_)=>
 match Q9 ()with|none=>none|some (j,_)=>match(!j)with
 |true=>some (false,())
 |false=>match Qi (((a.1.1,(a.1.2.1,())),(a.2.1,(a.2.2.1,()))),(0,(0,((0,(0,(([]:List U5),()))),()))),())with|none=>none|some (k,_)=>match k with
 |true=>some (true,())
 |false=>match(ilt 10 (A4 b))with
 |true=>some (true,())
 |false=>match A9 Dd many (i,b,a.1.1,a.1.2.1,a.2.1,a.2.2.1,0,())with|none=>none|some r=>match r with
 |.inl (l,_)=>some (l,())
 |.inr r=>match r with
 |.inl (c,d,e,f,g,h,_)=>match K7 (((e,(f,())),(g,(h,()))),c,())with|none=>none|some (m,n,_)=>match PU (((e,(f,())),(g,(h,()))),c,())with|none=>none|some (o,p,_)=>match On (d,())with|none=>none|some (q,s,_)=>match V_ (d,())with|none=>none|some (t,u,_)=>match Pg (m,o,())with|none=>none|some (v,_)=>match v with
  |true=>match(ieq n p)with
   |true=>match(seq? (LO q) (LO t))with
    |true=>some ((ieq s u),())
    |false=>some (false,())
   |false=>some (false,())
  |false=>some (false,())
 |.inr _=>none
def Di[Lk]:=fun v=>Lk.f (Jh v)
theorem ML v:Di v=Jh v:=A0 _
end
end Go.Pev
end
section

end
section
namespace Go.Pev.Pl
theorem b9{n:Int}(h:-9223372036854775808≤n∧n≤9223372036854775807):IntKind.wrap .i64 n=n:=IntWalk.i64_in n h
theorem BR{n:Int}(h:-9223372036854775808≤n∧n≤9223372036854775807):w64 n=n:=IntWalk.i64_in n h
section
variable {α:Type} [Inhabited α]
theorem Bp{d:Array α}{n:Nat}(h:n<d.size):idx d.toList (n:Int)=some d[n]! := by rw[idx_eq,YX,AXo (by omega)];simp[h]
theorem CM{d:Array α}{n:Nat}{z:α}(h:n<d.size):A7 d.toList (A3 (n:Int)) z=d[n]! := by simp[A7,A3,h]
theorem JX{d:Array α}{n:Nat}{x:α}:BH d.toList (A3 (n:Int)) x=(d.setIfInBounds n x).toList:=by simp[BH,A3]
theorem AFF{d:Array α}:A4 d.toList=(d.size:Int):=by simp[A4]
theorem Jx(d:Array α)(i j:Nat):(d.setIfInBounds i d[j]!).setIfInBounds j d[i]! = Go.Sort.swp d i j:=rfl
theorem size_swp(d:Array α)(i j:Nat):(Go.Sort.swp d i j).size=d.size:=by simp[Go.Sort.swp]
end
theorem A_(a b:Nat):ilt (a:Int) (b:Int)=decide (a<b):=by rw[BM];simp
theorem Ex(a b:Nat):ile (a:Int) (b:Int)=decide (a≤b):=by rw[BZ];simp
theorem AEh(a b:Nat):ieq (a:Int) (b:Int)=decide (a=b):=by rw[D_];by_cases h:a=b;simp[h];simp[h];omega
section
theorem wrap_add{a b:Nat}(h:a+b<9223372036854775808):w64 ((a:Int)+(b:Int))=((a+b:Nat):Int):=by rw[BR (by omega)];omega
theorem A'{a:Nat}(h:a+1<9223372036854775808):w64 ((a:Int)+1)=((a+1:Nat):Int):=by rw[BR (by omega)];omega
theorem b8{a:Nat}(h:2*a<9223372036854775808):w64 ((2:Int)*(a:Int))=((2*a:Nat):Int):=by rw[BR (by omega)];omega
theorem AGk{a:Nat}(h:a<9223372036854775808):w64 ((a:Int)*1)=((a*1:Nat):Int):=by rw[BR (by omega)];omega
theorem NC{a:Nat}(h:a*2<9223372036854775808):w64 ((a:Int)*2)=((a*2:Nat):Int):=by rw[BR (by omega)];omega
theorem AGj{a:Nat}(h:a*3<9223372036854775808):w64 ((a:Int)*3)=((a*3:Nat):Int):=by rw[BR (by omega)];omega
theorem EC{a b:Nat}(h:b≤a∧a<9223372036854775808):w64 ((a:Int)-(b:Int))=((a-b:Nat):Int):=by rw[BR (by omega)];omega
theorem Bu{a:Nat}(h:1≤a∧a<9223372036854775808):w64 ((a:Int)-1)=((a-1:Nat):Int):=by rw[BR (by omega)];omega
theorem AWr{a:Nat}(h:a<9223372036854775808):quo? .i64 (a:Int) 2=some ((a/2:Nat):Int):=by rw[OQ,jZ,AXo (by omega),AYq (by omega),b9 (by omega)];rfl
theorem ADb{a:Nat}(h:a<9223372036854775808):quo? .i64 (a:Int) 4=some ((a/4:Nat):Int):=by rw[OQ,jZ,AXo (by omega),AYq (by omega),b9 (by omega)];rfl
theorem AWq{a:Nat}(h:a<9223372036854775808):quo? .i64 (a:Int) 8=some ((a/8:Nat):Int):=by rw[OQ,jZ,AXo (by omega),AYq (by omega),b9 (by omega)];rfl
end
end Go.Pev.Pl
end
section
namespace Go.Pev.Pl
section
variable {α:Type}
theorem Es{xs:List α}{n:Nat}(z:α)(h:n<xs.length):idx xs (n:Int)=some (xs.getD n z):=by rw[idx_eq,YX,AXo (by omega)];simp[h]
theorem AWC{xs:List α}{n:Nat}(h:n<xs.length):∃ x,idx xs (n:Int)=some x:=by rw[idx_eq,YX,AXo (by omega)];exact⟨xs[n],by simp[h]⟩
theorem kM(xs:List α)(n:Nat):idx xs (n:Int)=xs[n]? := by rw[idx_eq,YX,AXo (by omega)];simp
theorem G2(xs:List α):idx xs (0:Int)=xs.head? := by rw[idx_eq,YX,AXo (by omega)];cases xs<;>rfl
theorem LM(xs:List α)(n:Nat)(z:α):A7 xs (A3 (n:Int)) z=xs.getD n z:=by simp[A7,A3]
theorem ko(xs:List α)(n:Nat)(x:α):BH xs (A3 (n:Int)) x=xs.set n x:=by simp[BH,A3]
theorem A8(xs:List α):A4 xs=(xs.length:Int):=rfl
theorem Mj(n:Nat):A3 (n:Int)=n:=by simp[A3]
theorem Dt(xs ys:List α):BT xs ys=xs++ys:=rfl
theorem iq{xs:List α}{l h:Nat}(h1:l≤h)(h2:h≤xs.length):Cv xs (l:Int) (h:Int)=some ((xs.take h).drop l):=by rw[NN,cn,AXp (by omega)];simp
end
theorem Bt{n:Int}(h:n≤4294967296):fits n=true:=(Fc n).2 h
theorem PC{α:Type}{xs:List α}(h:xs.length≤4294967296):HP xs=some xs:=by rw[fR,lG,(Sd _).2 (by rw[A8];omega)]
theorem YW{α β:Type}(xs:List α)(ys:List β):ieq (A4 xs) (A4 ys)=decide (xs.length=ys.length):=by rw[A8,A8,AEh]
theorem Be(a b:Int):ieq a b=decide (a=b):=by rw[D_];by_cases h:a=b<;>simp[h]
def walk{α β ρ:Type}(f:β→α→α⊕ρ)(fin:α→ρ):List β→α→ρ
 |[],a=>fin a
 |x::xs,a=>match f x a with
  |.inl a=>walk f fin xs a
  |.inr r=>r
theorem AGt{σ ρ α β:Type}{step:σ→Option (σ⊕ρ)}(st:Nat→α→σ)(xs:List β)(f:β→α→α⊕ρ)(fin:α→ρ)(I:Nat→α→Prop)
  (h:∀ i x a,i<xs.length→xs[i]? = some x→I i a→(∀ a',f x a = .inl a'→step (st i a)=some (.inl (st (i+1) a'))∧I (i+1) a')∧(∀ r,f x a = .inr r→step (st i a)=some (.inr r)))
  (hN:∀ a,I xs.length a→step (st xs.length a)=some (.inr (fin a))) :
  ∀ (m i n:Nat) (a:α),xs.length-i=m→i≤xs.length→m<n→I i a→BE step n (st i a)=some (walk f fin (xs.drop i) a):=by
 intro m;induction m with
  |zero=>
   intro i n a hk hi hn hI;obtain⟨n,rfl⟩:∃ k,n=k+1:=⟨n-1,by omega⟩
   have e:i=xs.length:=by omega
   subst e;rw[BE,hN a hI,List.drop_length];rfl
  |succ m ih=>
   intro i n a hk hi hn hI;obtain⟨n,rfl⟩:∃ k,n=k+1:=⟨n-1,by omega⟩
   have hi':i<xs.length:=by omega
   obtain⟨g1,g2⟩:=h i xs[i] a hi' (by simp[hi']) hI;rw[AYH hi',walk,BE];cases hf:f xs[i] a with
    |inl a'=>obtain⟨e,hI'⟩:=g1 a' hf;rw[e];exact ih (i+1) n a' (by omega) (by omega) (by omega) hI'
    |inr r=>rw[g2 r hf]
theorem Ct{σ ρ α β:Type}{step:σ→Option (σ⊕ρ)}(st:Nat→α→σ)(xs:List β)(f:β→α→α⊕ρ)(fin:α→ρ)(I:Nat→α→Prop)(hs:xs.length<9223372036854775808)
  (h:∀ i x a,i<xs.length→xs[i]? = some x→I i a→(∀ a',f x a = .inl a'→step (st i a)=some (.inl (st (i+1) a'))∧I (i+1) a')∧(∀ r,f x a = .inr r→step (st i a)=some (.inr r)))
  (hN:∀ a,I xs.length a→step (st xs.length a)=some (.inr (fin a))) (a:α) (h0:I 0 a):A9 step many (st 0 a)=some (walk f fin xs a):=by
 have hm:9223372036854775808<many:=by simp only[many];omega
 rw[Bf,AGt st xs f fin I h hN xs.length 0 many a (by omega) (by omega) (by omega) h0];rfl
theorem AGu{β ρ:Type}(P:β→Bool)(rt:ρ)(rf:ρ)(xs:List β):walk (fun x (_:Unit)=>if P x then .inr rt else .inl ()) (fun _=>rf) xs ()=if xs.any P then rt else rf:=by
 induction xs with
  |nil=>rfl
  |cons x xs ih=>simp only[walk,List.any_cons];by_cases hx:P x=true;simp[hx];simp[hx,ih]
theorem Hc{α:Type}{xs ys:List α}(z:α)(hl:xs.length=ys.length)(h:∀ j,j<xs.length→xs.getD j z=ys.getD j z):xs=ys:=by apply List.ext_getElem hl;intro i h1 h2;have:=h i h1;simpa [h1,h2]using this
theorem Tc{α:Type}{xs ys:List α}(z:α){j:Nat}(h:xs.getD j z≠ys.getD j z):xs≠ys:=fun e=>h (by rw[e])
theorem AHY{σ ρ:Type}{step:σ→Option (σ⊕ρ)}(st:Nat→σ)(N:Nat)(P:Nat→Bool)(rt:Nat→ρ)(rf:ρ)
  (h:∀ i,i<N→step (st i)=if P i then some (.inr (rt i))else some (.inl (st (i+1)))) (hN:step (st N)=some (.inr rf)) :
  ∀ (m i n:Nat),N-i=m→i≤N→m<n→(∃ k,i≤k∧k<N∧P k=true∧(∀ j,i≤j→j<k→P j=false)∧BE step n (st i)=some (rt k))∨((∀ j,i≤j→j<N→P j=false)∧BE step n (st i)=some rf):=by
 intro m;induction m with
  |zero=>
   intro i n hk hi hn;obtain⟨n,rfl⟩:∃ k,n=k+1:=⟨n-1,by omega⟩
   have e:i=N:=by omega
   subst e;exact .inr ⟨fun j h1 h2=>by omega,by rw[BE,hN]⟩
  |succ m ih=>
   intro i n hk hi hn;obtain⟨n,rfl⟩:∃ k,n=k+1:=⟨n-1,by omega⟩
   have hi':i<N:=by omega
   cases hP:P i;have e:BE step (n+1) (st i)=BE step n (st (i+1)):=by rw[BE,h i hi',hP];rfl
   rw[e];rcases ih (i+1) n (by omega) (by omega) (by omega)with⟨k,h1,h2,h3,h4,h5⟩|⟨h1,h2⟩
   refine .inl ⟨k,by omega,h2,h3,fun j a1 a2 => ?_,h5⟩;by_cases ej:j=i;subst ej;exact hP;exact h4 j (by omega) a2;refine .inr ⟨fun j a1 a2 => ?_,h2⟩;by_cases ej:j=i;subst ej;exact hP;exact h1 j (by omega) a2;exact .inl ⟨i,AXl _,hi',hP,fun j a1 a2=>by omega,by rw[BE,h i hi',hP];rfl⟩
theorem ow{σ ρ:Type}{step:σ→Option (σ⊕ρ)}(st:Nat→σ)(N:Nat)(P:Nat→Bool)(rt:Nat→ρ)(rf:ρ)(hs:N<9223372036854775808)
  (h:∀ i,i<N→step (st i)=if P i then some (.inr (rt i))else some (.inl (st (i+1)))) (hN:step (st N)=some (.inr rf)) :
  (∃ k,k<N∧P k=true∧(∀ j,j<k→P j=false)∧A9 step many (st 0)=some (rt k))∨((∀ j,j<N→P j=false)∧A9 step many (st 0)=some rf):=by
 have hm:9223372036854775808<many:=by simp only[many];omega
 rw[Bf];rcases AHY st N P rt rf h hN N 0 many rfl (by omega) (by omega)with⟨k,h1,h2,h3,h4,h5⟩|⟨h1,h2⟩
 exact .inl ⟨k,h2,h3,fun j a=>h4 j (by omega) a,h5⟩;exact .inr ⟨fun j a=>h1 j (by omega) a,h2⟩
end Go.Pev.Pl
end
section
namespace Go.Pev.Pl
inductive Tok where
 |ver (v:Int)
 |arc (u v:Int)
 deriving DecidableEq
namespace Tok
def st:Tok→Int
 |.ver v=>v
 |.arc _ v=>v
def step(s:List Int×List Int):Tok→Option (List Int×List Int)
 |.ver v=>match s.1 with
  |w::_=>if w=v then some s else none
  |[]=>none
 |.arc u v=>match s.1 with
  |w::r=>if w=u then match r with
    |p::r'=>if p=v then some (p::r',s.2)else if v∈s.2 then none else some (v::w::r,v::s.2)
    |[]=>if v∈s.2 then none else some (v::w::r,v::s.2)
   else none
  |[]=>none
def run:List Int×List Int→List Tok→Option (List Int×List Int)
 |s,[]=>some s
 |s,t::l=>match step s t with
  |some s=>run s l
  |none=>none
theorem E2(s:List Int×List Int)(a b:List Tok):run s (a++b)=(run s a).bind fun s=>run s b:=by
 induction a generalizing s with
  |nil=>rfl
  |cons t a ih=>
   simp only[AX3,run];cases step s t with
    |none=>rfl
    |some s=>exact ih s
theorem EE{s s':List Int×List Int}{t:Tok}(h:step s t=some s'):
  (∃ v r,t = .ver v∧s.1=v::r∧s'=s) ∨
  (∃ u v r,t = .arc u v∧s.1=u::v::r∧s'=(v::r,s.2)) ∨
  (∃ u v r,t = .arc u v∧s.1=u::r∧r.head?≠some v∧v∉s.2∧s'=(v::u::r,v::s.2)):=by
 obtain⟨way,c⟩:=s;cases t with
  |ver v=>
   cases way with
    |nil=>simp[step]at h
    |cons w r=>simp only[step]at h;split at h;rename_i e;cases h;exact .inl ⟨v,r,rfl,by simp[e],rfl⟩;cases h
  |arc u v=>
   cases way with
    |nil=>simp[step]at h
    |cons w r=>
     simp only[step]at h;split at h;rename_i e;subst e;cases r with
      |nil=>simp only at h;split at h;cases h;rename_i hc;cases h;exact .inr (.inr ⟨w,v,[],rfl,rfl,by simp,hc,rfl⟩)
      |cons p r=>simp only at h;split at h;rename_i e;subst e;cases h;exact .inr (.inl ⟨w,p,r,rfl,rfl,rfl⟩);split at h;cases h;rename_i e hc;cases h;exact .inr (.inr ⟨w,v,p::r,rfl,rfl,by simpa using e,hc,rfl⟩)
     cases h
theorem Eo(v:Int)(r c:List Int):step (v::r,c) (.ver v)=some (v::r,c):=by simp[step]
theorem IE(u v:Int)(r c:List Int):step (u::v::r,c) (.arc u v)=some (v::r,c):=by simp[step]
theorem Hn(u v:Int)(r c:List Int)(h1:r.head?≠some v)(h2:v∉c):step (u::r,c) (.arc u v)=some (v::u::r,v::c):=by
 cases r with
  |nil=>simp[step,h2]
  |cons p r=>
   have:p≠v:=by simpa using h1
   simp[step,h2,this]
def Inv(s:List Int×List Int):Prop:=s.1.Nodup∧(∀ x∈s.1,x∈s.2)
theorem Wy{s s':List Int×List Int}{t:Tok}(h:step s t=some s')(hi:Inv s):Inv s'∧(∀ x∈s.2,x∈s'.2)∧s'.1.head? = some t.st:=by
 obtain⟨way,c⟩:=s;obtain⟨h1,h2⟩:=hi;rcases EE h with⟨v,r,rfl,hw,rfl⟩|⟨u,v,r,rfl,hw,rfl⟩|⟨u,v,r,rfl,hw,_,hn,rfl⟩
 exact⟨⟨h1,h2⟩,fun x hx=>hx,by rw[hw];rfl⟩;simp only at hw h1 h2;subst hw;refine⟨⟨?_,?_⟩,fun x hx=>hx,rfl⟩;exact(AX8.1 h1).2;intro x hx;exact h2 x (by simp only at hx;simp[AXf.1 hx]);simp only at hw h1 h2 hn;subst hw;refine⟨⟨?_,?_⟩,fun x hx=>by simp[hx],rfl⟩;exact AX8.2 ⟨fun hm=>hn (h2 _ hm),h1⟩;intro x hx;rcases AXf.1 hx with rfl|hx;simp;exact AXx _ (h2 x hx)
theorem Ph{l:List Tok}:∀ {s s':List Int×List Int},run s l=some s'→Inv s→Inv s'∧(∀ x∈s.2,x∈s'.2)∧∀ t,l.getLast? = some t→s'.1.head? = some t.st:=by
 induction l with
  |nil=>intro s s' h hi;cases h;exact⟨hi,fun x hx=>hx,fun t ht=>by simp at ht⟩
  |cons t l ih=>
   intro s s' h hi;simp only[run]at h;split at h;rename_i s1 h1;obtain⟨q1,q2,q3⟩:=Wy h1 hi;obtain⟨p1,p2,p3⟩:=ih h q1;refine⟨p1,fun x hx=>p2 x (q2 x hx),fun t' ht' => ?_⟩;cases l with
    |nil=>simp at ht';subst ht';simp only[run]at h;cases h;exact q3
    |cons y l=>exact p3 t' (by rw[AaF]at ht';exact ht')
   cases h
theorem Ho{Z:Int→Prop}:∀ {l:List Tok} {way way' c d c2 low:List Int},run (way,c) l=some (way',d)→way≠[]→(∀ x,x∈c2↔x∈c∨Z x) →
  (∀ u v,.arc u v∈l→¬ Z v)→(∀ y∈low,Z y)→∃ d2,run (way++low,c2) l=some (way'++low,d2)∧(∀ x,x∈d2↔x∈d∨Z x):=by
 intro l;induction l with
  |nil=>intro way way' c d c2 low h _ hc _ _;cases h;exact⟨c2,rfl,hc⟩
  |cons t l ih=>
   intro way way' c d c2 low h hne hc hz hl;simp only[run]at h;split at h;rename_i s1 h1;have hz':∀ u v,Tok.arc u v∈l→¬ Z v:=fun u v hm=>hz u v (AXx _ hm);rcases EE h1 with⟨v,r,rfl,hw,rfl⟩|⟨u,v,r,rfl,hw,rfl⟩|⟨u,v,r,rfl,hw,hh,hn,rfl⟩
   simp only at hw;subst hw;obtain⟨d2,e1,e2⟩:=ih h hne hc hz' hl;exact⟨d2,by simp only[run,AX3,Eo];exact e1,e2⟩;simp only at hw;subst hw;obtain⟨d2,e1,e2⟩:=ih h (by simp) hc hz' hl;exact⟨d2,by simp only[run,AX3,IE];exact e1,e2⟩;simp only at hw hn;subst hw;have hzv:=hz u v (by simp);have hn2:v∉c2:=by rw[hc];rintro (h|h);exact hn h;exact hzv h
   have hh2:(r++low).head?≠some v:=by
    cases r with
     |nil=>
      cases low with
       |nil=>simp
       |cons y low=>simp only[AX2,List.head?_cons,ne_eq,AXa];rintro rfl;exact hzv (hl _ (by simp))
     |cons p r=>simpa using hh
   obtain⟨d2,e1,e2⟩:=ih (c2:=v::c2) h (by simp) (by intro x;simp only[AXf,hc,or_assoc]) hz' hl;exact⟨d2,by simp only[run,AX3,Hn _ _ _ _ hh2 hn2];exact e1,e2⟩;cases h
theorem pS{z:Int}:∀ {l:List Tok} {way way' c2 d2 c:List Int},run (way,c2) l=some (way',d2)→z∉way→(∀ x,x∈c2↔x∈c∨x=z)→z∉c →
  .ver z∉l∧∃ d,run (way,c) l=some (way',d)∧(∀ x,x∈d2↔x∈d∨x=z)∧z∉d:=by
 intro l;induction l with
  |nil=>intro way way' c2 d2 c h _ hc hz;cases h;exact⟨by simp,c,rfl,hc,hz⟩
  |cons t l ih=>
   intro way way' c2 d2 c h hzw hc hz;simp only[run]at h;split at h;rename_i s1 h1;rcases EE h1 with⟨v,r,rfl,hw,rfl⟩|⟨u,v,r,rfl,hw,rfl⟩|⟨u,v,r,rfl,hw,hh,hn,rfl⟩
   simp only at hw;subst hw;obtain⟨e0,d,e1,e2,e3⟩:=ih h hzw hc hz;refine⟨?_,d,by simp only[run,Eo];exact e1,e2,e3⟩;rintro hm;rcases AXf.1 hm with hm|hm;cases hm;exact hzw (by simp);exact e0 hm;simp only at hw;subst hw;obtain⟨e0,d,e1,e2,e3⟩:=ih h (fun hm=>hzw (AXx _ hm)) hc hz;refine⟨?_,d,by simp only[run,IE];exact e1,e2,e3⟩;rintro hm;rcases AXf.1 hm with hm|hm;cases hm;exact e0 hm;simp only at hw hn;subst hw;have hvz:v≠z:=by rintro rfl;exact hn ((hc v).2 (.inr rfl))
   have hn':v∉c:=fun hm=>hn ((hc v).2 (.inl hm))
   obtain⟨e0,d,e1,e2,e3⟩:=ih (c:=v::c) h (by intro hm;rcases AXf.1 hm with hm|hm;exact hvz hm.symm;exact hzw hm)
    (by intro x;simp only[AXf,hc,or_assoc])
    (by intro hm;rcases AXf.1 hm with hm|hm;exact hvz hm.symm;exact hz hm)
   refine⟨?_,d,by simp only[run,Hn _ _ _ _ hh hn'];exact e1,e2,e3⟩;rintro hm;rcases AXf.1 hm with hm|hm;cases hm;exact e0 hm;cases h
def Rot(a b:List Tok):Prop:=∃ x y,a=x++y∧b=y++x
theorem Rot.refl(a:List Tok):Rot a a:=⟨[],a,rfl,by simp⟩
theorem Rot.trans{a b c:List Tok}(h:Rot a b)(g:Rot b c):Rot a c:=by
 obtain⟨x,y,rfl,h2⟩:=h;obtain⟨z,w,h3,rfl⟩:=g;rw[h2]at h3;rcases List.append_eq_append_iff.1 h3 with⟨k,h4,h5⟩|⟨k,h4,h5⟩
 subst h4 h5;exact⟨k,w++y,by simp,by simp⟩;subst h4 h5;exact⟨x++z,k,by simp,by simp⟩
theorem Rot.perm{a b:List Tok}(h:Rot a b):a.Perm b:=by obtain⟨x,y,rfl,rfl⟩:=h;exact AZQ
theorem Rot.mem{a b:List Tok}(h:Rot a b)(t:Tok):t∈a↔t∈b:=h.perm.mem_iff
theorem Rot.nodup{a b:List Tok}(h:Rot a b):a.Nodup↔b.Nodup:=h.perm.nodup_iff
theorem Rot.length{a b:List Tok}(h:Rot a b):a.length=b.length:=h.perm.length_eq
inductive T:List Tok→Prop
 |one (v:Int):T [.ver v]
 |add (x:Tok) (l:List Tok) (v:Int):T (x::l)→x.st≠v→.ver v∉x::l→T (x :: .arc x.st v :: .ver v :: .arc v x.st::l)
 |rot (a b:List Tok):T (a++b)→T (b++a)
theorem T.zq{a b:List Tok}(h:T a)(r:Rot a b):T b:=by obtain⟨x,y,rfl,rfl⟩:=r;exact T.rot x y h
theorem T.facts{l:List Tok}(h:T l):l≠[]∧(∀ t∈l,.ver t.st∈l)∧(∀ u v,.arc u v∈l→.ver u∈l∧.ver v∈l∧.arc v u∈l∧u≠v):=by
 induction h with
  |one v=>exact⟨by simp,by simp[st],by simp⟩
  |add x l v h hne hv ih=>
   obtain⟨_,i2,i3⟩:=ih;have hsub:∀ t,t∈x::l→t∈x::Tok.arc x.st v :: .ver v :: .arc v x.st::l:=by intro t ht;rcases AXf.1 ht with rfl|ht;simp;simp[ht]
   have hx:=hsub _ (i2 x (by simp));have cases3:∀ t,t∈x::Tok.arc x.st v :: .ver v :: .arc v x.st::l→t∈x::l∨t = .arc x.st v∨t = .ver v∨t = .arc v x.st:=by intro t ht;simp only[AXf]at ht ⊢;rcases ht with h|h|h|h|h<;>simp[h]
   refine⟨by simp,fun t ht => ?_,fun a b hab => ?_⟩;rcases cases3 t ht with h|rfl|rfl|rfl;exact hsub _ (i2 t h);simp[st];simp[st];exact hx;rcases cases3 _ hab with h|h|h|h;obtain⟨p1,p2,p3,p4⟩:=i3 a b h;exact⟨hsub _ p1,hsub _ p2,hsub _ p3,p4⟩;cases h;exact⟨hx,by simp,by simp,hne⟩;cases h;cases h;exact⟨by simp,hx,by simp,AYm hne⟩
  |rot a b h ih=>obtain⟨i1,i2,i3⟩:=ih;have hm:∀ t,t∈a++b↔t∈b++a:=fun t=>List.perm_append_comm.mem_iff;refine⟨by intro e;simp only[List.append_eq_nil_iff]at e;exact i1 (by simp[e.1,e.2]),fun t ht=>(hm _).1 (i2 t ((hm _).2 ht)),fun u v huv => ?_⟩;obtain⟨p1,p2,p3,p4⟩:=i3 u v ((hm _).2 huv);exact⟨(hm _).1 p1,(hm _).1 p2,(hm _).1 p3,p4⟩
theorem T.nodup{l:List Tok}(h:T l):l.Nodup:=by
 induction h with
  |one v=>simp
  |add x l v h hne hv ih=>obtain⟨_,_,f3⟩:=h.facts;have h1:Tok.arc x.st v∉x::l:=fun hm=>hv (f3 _ _ hm).2.1;have h2:Tok.arc v x.st∉x::l:=fun hm=>hv (f3 _ _ hm).1;simp only[AXf,not_or]at h1 h2 hv;have ih':=AX8.1 ih;simp only[AX8,AXf,not_or];refine⟨⟨fun e=>h1.1 e.symm,fun e=>hv.1 e.symm,fun e=>h2.1 e.symm,ih'.1⟩,⟨by simp,?_,h1.2⟩,⟨by simp,hv.2⟩,h2.2,ih'.2⟩;intro e;simp only[Tok.arc.injEq]at e;exact hne e.1
  |rot a b h ih=>exact(List.perm_append_comm.nodup_iff).1 ih
def C(l:List Tok):Prop:=∀ r,Rot l r→∀ t,r.getLast? = some t→∃ c,run ([t.st],[t.st]) r=some ([t.st],c)∧∀ x,x∈c↔.ver x∈l
end Tok
end Go.Pev.Pl
end
section
namespace Go.Pev.Pl.Tok
theorem getLast?_app{a b:List Tok}{t:Tok}(h:b.getLast? = some t):(a++b).getLast? = some t:=by rw[AZX,h];rfl
theorem B7(s:List Int×List Int)(t:Tok)(l:List Tok):run s (t::l)=(step s t).bind fun s=>run s l:=by rw[run];cases step s t<;>rfl
theorem Q'(v:Int):Inv ([v],[v]):=⟨by simp,by simp⟩
theorem T.toC{l:List Tok}(h:T l):C l:=by
 induction h with
  |one v=>intro r hr t ht;have:r=[.ver v]:=List.perm_singleton.1 hr.perm.symm;subst this;simp at ht;subst ht;exact⟨[v],by simp[run,st,step],by simp⟩
  |rot a b h ih=>intro r hr t ht;obtain⟨c,h1,h2⟩:=ih r (Rot.trans ⟨a,b,rfl,rfl⟩ hr) t ht;exact⟨c,h1,fun x=>(h2 x).trans (List.perm_append_comm.mem_iff)⟩
  |add x l v h hne hv ih=>
   obtain⟨_,f2,f3⟩:=h.facts;have hnz:∀ u w,Tok.arc u w∈x::l→¬ (w=v):=fun u w hm e=>hv (e▸(f3 u w hm).2.1);have fin:∀ {d2 c:List Int},(∀ y,y∈d2↔y∈c∨y=v)→(∀ y,y∈c↔.ver y∈x::l)→∀ y,y∈d2↔Tok.ver y∈x :: .arc x.st v :: .ver v :: .arc v x.st::l:=by intro d2 c e1 e2 y;rw[e1,e2];simp only[AXf,reduceCtorEq,false_or,Tok.ver.injEq];constructor;rintro ((h|h)|h)<;>simp[h];rintro (h|h|h)<;>simp[h]
   have triple:∀ {w' c1:List Int},Inv (x.st::w',c1)→v∉c1→∀ p,run (x.st::w',c1) (.arc x.st v :: .ver v :: .arc v x.st::p)=run (x.st::w',v::c1) p:=by
    intro w' c1 hi hn p;have hh:w'.head?≠some v:=by intro e;exact hn (hi.2 v (AXx _ (List.mem_of_head? e)))
    rw[B7,Hn _ _ _ _ hh hn,AYA,B7,Eo,AYA,B7,IE,AYA]
   have G:∀ q1 p1,l=p1++q1→∀ t,(q1++x :: .arc x.st v :: .ver v :: .arc v x.st::p1).getLast? = some t→∃ c,run ([t.st],[t.st]) (q1++x :: .arc x.st v :: .ver v :: .arc v x.st::p1)=some ([t.st],c)∧∀ y,y∈c↔.ver y∈x :: .arc x.st v :: .ver v :: .arc v x.st::l:=by
    intro q1 p1 hl t ht;have hrot:Rot (x::l) (q1++x::p1):=⟨x::p1,q1,by simp[hl],rfl⟩
    have ht0:∃ t0,(q1++x::p1).getLast? = some t0∧t0.st=t.st:=by
     cases p1 with
      |nil=>refine⟨x,getLast?_app (by simp),?_⟩;rw[show q1++[x,Tok.arc x.st v,.ver v,.arc v x.st]=(q1++[x,Tok.arc x.st v,.ver v])++[Tok.arc v x.st] by simp,AY3]at ht;cases ht;rfl
      |cons y p1=>refine⟨t,?_,rfl⟩;rw[show q1++x::Tok.arc x.st v :: .ver v :: .arc v x.st::y::p1=(q1++[x,Tok.arc x.st v,.ver v,.arc v x.st])++y::p1 by simp,AZX]at ht;rw[show q1++x::y::p1=(q1++[x])++y::p1 by simp,AZX];exact ht
    obtain⟨t0,e0,e1⟩:=ht0;obtain⟨c,h1,h2⟩:=ih _ hrot t0 e0;rw[e1,show q1++x::p1=(q1++[x])++p1 by simp,E2,AYR]at h1;obtain⟨⟨w1,c1⟩,g1,g2⟩:=h1;obtain⟨i1,i2,i3⟩:=Ph g1 (Q' _);obtain⟨j1,j2,j3⟩:=Ph g2 i1;have i3':=i3 x (by simp);simp only at i3';cases w1 with
     |nil=>simp at i3'
     |cons w0 w'=>
      simp at i3';subst i3';have hn:v∉c1:=fun hm=>hv ((h2 v).1 (j2 v hm));obtain⟨d2,k1,k2⟩:=Ho (Z:=(· = v)) (c2:=v::c1) (low:=[]) g2 (by simp) (fun y=>by simp[or_comm]) (fun u w hm=>hnz u w (by simp[hl,hm])) (by simp)
      refine⟨d2,?_,fin k2 h2⟩;rw[show q1++x::Tok.arc x.st v :: .ver v :: .arc v x.st::p1=(q1++[x])++Tok.arc x.st v :: .ver v :: .arc v x.st::p1 by simp,E2,g1,AYA,triple i1 hn];simpa using k1
   intro r hr t ht;obtain⟨p,q,hpq,rfl⟩:=hr;have base:∀ t0:Tok,(l++[x]).getLast? = some t0→t0=x:=fun t0 h=>by rw[AY3]at h;exact(AZP h).symm
   obtain⟨c,h1,h2⟩:=ih (l++[x]) ⟨[x],l,rfl,rfl⟩ x (by simp);match p with
   |[]=>
    simp only[AX2]at hpq
    subst hpq
    have:=G [] l (by simp) t (by simpa using ht)
    simpa using this
   |[y]=>
    simp only[AX3,AX2,AXz]at hpq
    obtain⟨rfl,rfl⟩:=hpq
    have:t=x:=by
     rw[AY3]at ht
     exact(AZP ht).symm
    subst this
    have hn:v∉[t.st]:=by simp;exact AYm hne
    obtain⟨d2,k1,k2⟩:=Ho (Z:=(· = v)) (c2:=[v,t.st]) (low:=[]) h1 (by simp) (fun y=>by simp[or_comm]) (fun u w hm=>hnz u w (by simpa [or_comm]using hm)) (by simp)
    refine⟨d2,?_,fin k2 h2⟩
    rw[show(Tok.arc t.st v :: .ver v :: .arc v t.st::l)++[t]=Tok.arc t.st v :: .ver v :: .arc v t.st::(l++[t]) by simp,triple (Q' _) hn]
    simpa using k1
   |[y,z]=>
    simp only[AX3,AX2,AXz]at hpq
    obtain⟨rfl,rfl,rfl⟩:=hpq
    have:t = .arc x.st v:=by
     rw[show(Tok.ver v :: .arc v x.st::l)++[x,.arc x.st v]=(Tok.ver v :: .arc v x.st::l++[x])++[.arc x.st v] by simp,AY3]at ht
     exact(AZP ht).symm
    subst this
    obtain⟨d2,k1,k2⟩:=Ho (Z:=(· = v)) (c2:=[x.st,v]) (low:=[v]) h1 (by simp) (fun y=>by simp) (fun u w hm=>hnz u w (by simpa [or_comm]using hm)) (by simp)
    refine⟨d2,?_,fin k2 h2⟩
    rw[show(Tok.ver v :: .arc v x.st::l)++[x,.arc x.st v]=Tok.ver v :: .arc v x.st::((l++[x])++[.arc x.st v]) by simp]
    rw[B7]
    show(step ([v],[v]) _).bind _=_
    rw[Eo,AYA,B7,Hn _ _ _ _ (by simp) (by simp;exact hne),AYA,E2]
    rw[show([x.st]++[v]:List Int)=[x.st,v]from rfl]at k1
    rw[k1,AYA,B7,IE]
    rfl
   |[y,z,w]=>
    simp only[AX3,AX2,AXz]at hpq
    obtain⟨rfl,rfl,rfl,rfl⟩:=hpq
    have:t = .ver v:=by
     rw[show(Tok.arc v x.st::l)++[x,.arc x.st v,.ver v]=(Tok.arc v x.st::l++[x,.arc x.st v])++[.ver v] by simp,AY3]at ht
     exact(AZP ht).symm
    subst this
    obtain⟨d2,k1,k2⟩:=Ho (Z:=(· = v)) (c2:=[x.st,v]) (low:=[v]) h1 (by simp) (fun y=>by simp) (fun u w hm=>hnz u w (by simpa [or_comm]using hm)) (by simp)
    refine⟨d2,?_,fin k2 h2⟩
    rw[show(Tok.arc v x.st::l)++[x,.arc x.st v,.ver v]=Tok.arc v x.st::((l++[x])++[.arc x.st v,.ver v]) by simp]
    rw[B7]
    show(step ([v],[v]) _).bind _=_
    rw[Hn _ _ _ _ (by simp) (by simp;exact hne),AYA,E2]
    rw[show([x.st]++[v]:List Int)=[x.st,v]from rfl]at k1
    rw[k1,AYA,B7,IE,AYA,B7,Eo]
    rfl
   |y::z::w::w2::p1=>
    simp only[AX3,AXz]at hpq
    obtain⟨rfl,rfl,rfl,rfl,rfl⟩:=hpq
    exact G q p1 rfl t ht
def comp(P:List Tok):List Int→List Tok
 |[]=>[]
 |w::r=>(if .ver w∈P then []else [.ver w])++match r with
  |[]=>[]
  |p::_=>.arc w p::comp P r
theorem PB{P P':List Tok}:∀ {way:List Int},(∀ w∈way,(Tok.ver w∈P↔Tok.ver w∈P'))→comp P way=comp P' way:=by
 intro way;induction way with
  |nil=>intro _;rfl
  |cons w r ih=>intro h;have h1:=h w (by simp);have h2:=ih fun x hx=>h x (AXx _ hx);simp only[comp,h1,h2]
theorem AWD:∀ (M P:List Tok) (way c c':List Int) (r:Int) (t0:Tok),run (way,c) M=some ([r],c')→Inv (way,c)→P.getLast? = some t0→way.head? = some t0.st →
  T (P++comp P way)→(∀ x,.ver x∈P++comp P way→x∈c)→(∀ x∈c',Tok.ver x∈P++M)→(P++M).Nodup→T (P++M):=by
 intro M;induction M with
  |nil=>intro P way c c' r t0 h hi hl hh hT hc hc' hn;cases h;have:=hc' r (hi.2 r (by simp));rw[AYf]at this;simpa [comp,this]using hT
  |cons t M ih=>
   intro P way c c' r t0 h hi hl hh hT hc hc' hn;rw[B7,AYR]at h;obtain⟨⟨w1,c1⟩,h1,h2⟩:=h;obtain⟨hi1,hsub,hhd⟩:=Wy h1 hi;have asso:P++t::M=(P++[t])++M:=by simp
   rw[asso]at hn hc' ⊢;have hnt:t∉P:=by
    have:=(AZU.1 (AZU.1 hn).1)
    intro hm;exact this.2.2 t hm t (by simp) rfl
   rcases EE h1 with⟨v,rr,rfl,hw,e⟩|⟨u,v,rr,rfl,hw,e⟩|⟨u,v,rr,rfl,hw,hh2,hn2,e⟩
   cases e;simp only at hw;subst hw;have key:comp P (v::rr) = .ver v::comp (P++[.ver v]) (v::rr):=by
    have e2:comp P rr=comp (P++[.ver v]) rr:=PB fun w hwm=>by
     have:w≠v:=by rintro rfl;exact(AX8.1 hi.1).1 hwm
     simp[this]
    simp only[comp,hnt,e2];simp
   rw[key]at hT hc;exact ih _ _ _ _ _ (.ver v) h2 hi1 (by simp) hhd (by simpa using hT) (fun x hx=>hc x (by simpa using hx)) hc' hn;cases e;simp only at hw;subst hw;have hu:Tok.ver u∈P:=by
    have hun:=(AX8.1 hi.1).1;obtain⟨g1,_⟩:=pS (z:=u) (c:=c.filter (·≠u)) h2 hun (fun x=>by simp only[AY6,AXc];constructor;intro h;by_cases e:x=u;exact .inr e;exact .inl ⟨h,by simpa using e⟩;rintro (h|rfl);exact h.1;exact hi.2 x (by simp)) (by simp)
    have hmono:=(Ph h2 hi1).2.1 u (hi.2 u (by simp));have:=hc' u hmono;simp only[AXq,AYB,reduceCtorEq,AZx]at this;rcases this with h|h;exact h;exact absurd h g1
   have key:comp P (u::v::rr) = .arc u v::comp (P++[.arc u v]) (v::rr):=by
    have e2:comp P (v::rr)=comp (P++[.arc u v]) (v::rr):=PB fun w hwm=>by simp
    rw[← e2];simp only[comp,hu];simp
   rw[key]at hT hc;exact ih _ _ _ _ _ (.arc u v) h2 hi1 (by simp) hhd (by simpa using hT) (fun x hx=>hc x (by simpa using hx)) hc' hn;cases e;simp only at hw hn2;subst hw;have hu:u=t0.st:=by simpa using hh
   subst hu;have hvc:∀ x,Tok.ver x∈P++comp P (t0.st::rr)→x≠v:=by rintro x hx rfl;exact hn2 (hc x hx)
   have hvP:Tok.ver v∉P++comp P (t0.st::rr):=fun hm=>hvc v hm rfl;have hvP':Tok.ver v∉P:=fun hm=>hvP (by simp[hm]);have key:comp (P++[.arc t0.st v]) (v::t0.st::rr) = .ver v :: .arc v t0.st::comp P (t0.st::rr):=by
    have e2:comp (P++[.arc t0.st v]) (t0.st::rr)=comp P (t0.st::rr):=PB fun w hwm=>by simp
    rw[← e2];simp only[comp,AXq,hvP',AYB,reduceCtorEq,AZx,AXv];rfl
   have hne:t0.st≠v:=by rintro e;exact hn2 (e▸hi.2 t0.st (by simp))
   refine ih _ _ _ _ _ (.arc t0.st v) h2 hi1 (by simp) hhd ?_ ?_ hc' hn;rw[key];obtain⟨P0,rfl⟩:∃ P0,P=P0++[t0]:=List.getLast?_eq_some_iff.1 hl;have hT1:T (t0::(comp (P0++[t0]) (t0.st::rr)++P0)):=hT.zq ⟨P0,t0::comp (P0++[t0]) (t0.st::rr),by simp,by simp⟩;have hT2:=T.add t0 _ v hT1 hne (by intro hm;apply hvP;simp only[AXq,AXf,AY9,AZx]at hm ⊢;rcases hm with h|h|h<;>simp[h])
   exact hT2.zq ⟨t0 :: .arc t0.st v :: .ver v :: .arc v t0.st::comp (P0++[t0]) (t0.st::rr),P0,by simp,by simp⟩;intro x hx;rw[key]at hx;simp only[AXq,AXf,AY9,AZx,reduceCtorEq,Tok.ver.injEq,false_or]at hx;rcases hx with h|h|h;exact AXx _ (hc x (by simp[h]));simp[h];exact AXx _ (hc x (by simp[h]))
def BQ(l:List Tok):Prop:=∃ r l' c,l = .ver r::l'∧run ([r],[r]) l=some ([r],c)∧∀ x∈c,Tok.ver x∈l
theorem BQ.toT{l:List Tok}(h:BQ l)(hn:l.Nodup):T l:=by obtain⟨r,l',c,rfl,h1,h2⟩:=h;rw[B7,Eo,AYA]at h1;have:=AWD l' [.ver r] [r] [r] c r (.ver r) h1 (Q' r) (by simp) (by simp[st]) (by simp[comp];exact T.one r) (by simp[comp]) (by simpa using h2) (by simpa using hn);simpa using this
theorem T.iY{r:Int}{l:List Tok}(h:T (.ver r::l)):BQ (.ver r::l):=by
 obtain⟨t,ht⟩:∃ t,(Tok.ver r::l).getLast? = some t:=⟨_,List.getLast?_eq_some_getLast (by simp)⟩
 obtain⟨c,h1,h2⟩:=h.toC _ (Rot.refl _) t ht;have h1':=h1;rw[B7,AYR]at h1';obtain⟨s,g1,_⟩:=h1';have e:t.st=r:=by simp only[step]at g1;split at g1;assumption;cases g1
 rw[e]at h1;exact⟨r,l,c,rfl,h1,fun x hx=>(h2 x).1 hx⟩
end Go.Pev.Pl.Tok
end
section
namespace Go.Pev.Pl.Tok
theorem T.tN{l:List Tok}(h:T l):∃ v r,Rot l (.ver v::r):=by obtain⟨f1,f2,_⟩:=h.facts;obtain⟨t,ht⟩:=List.exists_mem_of_ne_nil l f1;obtain⟨a,b,rfl⟩:=AZm (f2 t ht);exact⟨t.st,b++a,a,.ver t.st::b,rfl,rfl⟩
theorem T.less{x:Tok}{v:Int}{l:List Tok}(h:T (x :: .arc x.st v :: .ver v :: .arc v x.st::l)):T (x::l):=by
 have hC:=h.toC;have hn:=h.nodup;obtain⟨_,f2,f3⟩:=h.facts;have hne:x.st≠v:=(f3 x.st v (by simp)).2.2.2;have hvl:Tok.ver v∉l:=by intro hm;simp only[AX8,AXf,not_or]at hn;exact hn.2.2.1.2 hm
 have hvx:x≠.ver v:=by rintro rfl;exact hne rfl
 have key:∀ p q,l=p++q→∀ t0,(q++x::p).getLast? = some t0→∃ c,run ([t0.st],[t0.st]) (q++x::p)=some ([t0.st],c)∧∀ y,y∈c↔.ver y∈x::l:=by
  intro p q hl t0 ht0;have hrot:Rot (x :: .arc x.st v :: .ver v :: .arc v x.st::l) (q++x :: .arc x.st v :: .ver v :: .arc v x.st::p):=⟨x :: .arc x.st v :: .ver v :: .arc v x.st::p,q,by simp[hl],rfl⟩
  have ht:∃ t,(q++x::Tok.arc x.st v :: .ver v :: .arc v x.st::p).getLast? = some t∧t.st=t0.st:=by
   cases p with
    |nil=>rw[AY3]at ht0;cases ht0;exact⟨.arc v x.st,by rw[show q++[x,Tok.arc x.st v,.ver v,.arc v x.st]=(q++[x,Tok.arc x.st v,.ver v])++[Tok.arc v x.st] by simp,AY3],rfl⟩
    |cons y p=>refine⟨t0,?_,rfl⟩;rw[show q++x::Tok.arc x.st v :: .ver v :: .arc v x.st::y::p=(q++[x,Tok.arc x.st v,.ver v,.arc v x.st])++y::p by simp,AZX];rw[show q++x::y::p=(q++[x])++y::p by simp,AZX]at ht0;exact ht0
  obtain⟨t,e0,e1⟩:=ht;obtain⟨c,h1,h2⟩:=hC _ hrot t e0;rw[e1,show q++x::Tok.arc x.st v :: .ver v :: .arc v x.st::p=(q++[x])++Tok.arc x.st v :: .ver v :: .arc v x.st::p by simp,E2,AYR]at h1;obtain⟨⟨w1,c1⟩,g1,g2⟩:=h1;obtain⟨i1,i2,i3⟩:=Ph g1 (Q' _);have i3':=i3 x (by simp);simp only at i3';cases w1 with
   |nil=>simp at i3'
   |cons w0 w'=>
    simp at i3';subst i3';rw[B7,AYR]at g2;obtain⟨s1,k1,k2⟩:=g2;rcases EE k1 with⟨v',r,e,_⟩|⟨u',v',r,e,hw,rfl⟩|⟨u',v',r,e,hw,hh,hnc,rfl⟩
    cases e;cases e;simp only[AXz]at hw;obtain⟨_,rfl⟩:=hw;exfalso;rw[B7,Eo,AYA,B7,AYR]at k2;obtain⟨s2,m1,_⟩:=k2;have hnd:=i1.1;rcases EE m1 with⟨v',r',e,_⟩|⟨u',v',r',e,hw,rfl⟩|⟨u',v',r',e,hw,hh,hnc,rfl⟩
    cases e;cases e;simp only[AXz]at hw;obtain⟨_,rfl⟩:=hw;simp at hnd;cases e;exact hnc (i1.2 _ (by simp));cases e;simp only[AXz,AZg]at hw;subst hw;simp only at hnc;rw[B7,Eo,AYA,B7,IE,AYA]at k2;have hvw:v∉x.st::w':=fun hm=>hnc (i1.2 v hm);obtain⟨_,d,m1,m2,m3⟩:=pS (z:=v) (c:=c1) k2 hvw (fun y=>by simp[or_comm]) hnc;refine⟨d,?_,fun y => ?_⟩;rw[show q++x::p=(q++[x])++p by simp,E2,g1,AYA,m1];have q1:=m2 y;have q2:=h2 y;by_cases e:y=v;subst e;refine⟨fun h=>absurd h m3,fun h => ?_⟩;rcases AXf.1 h with h|h;exact absurd h.symm hvx;exact absurd h hvl;rw[q2]at q1;simp only[e,AZx]at q1;rw[← q1];simp[e]
 obtain⟨s,b,a,hsb⟩:∃ s a b,x::l=a ++ .ver s::b:=by have:=f2 x (by simp);simp only[AXf,reduceCtorEq,false_or,Tok.ver.injEq,hne]at this;rcases this with h|h;exact⟨x.st,[],l,by rw[← h];rfl⟩;obtain⟨a,b,rfl⟩:=AZm h;exact⟨x.st,x::a,b,rfl⟩
 have hg:BQ (.ver s::a++b):=by
  have hr:∃ p q,l=p++q∧q++x::p = .ver s::a++b:=by
   cases b with
    |nil=>simp only[AX2,AXz]at hsb;obtain⟨rfl,rfl⟩:=hsb;exact⟨l,[],by simp,by simp⟩
    |cons y b=>simp only[AX3,AXz]at hsb;obtain⟨rfl,rfl⟩:=hsb;exact⟨b,.ver s::a,rfl,by simp⟩
  obtain⟨p,q,hl,e⟩:=hr;obtain⟨t0,ht0⟩:∃ t0,(q++x::p).getLast? = some t0:=⟨_,List.getLast?_eq_some_getLast (by simp)⟩
  obtain⟨c,h1,h2⟩:=key p q hl t0 ht0;rw[e]at h1;have h1':=h1;rw[AX3,B7,AYR]at h1';obtain⟨s',g1,_⟩:=h1';have e':t0.st=s:=by simp only[step]at g1;split at g1;assumption;cases g1
  rw[e']at h1;refine⟨s,a++b,c,rfl,h1,fun y hy => ?_⟩;have:=(h2 y).1 hy;rw[hsb]at this;simp only[AXq,AXf]at this ⊢;rcases this with h|h|h<;>simp[h]
 have hrot2:Rot (.ver s::a++b) (x::l):=⟨.ver s::a,b,rfl,hsb⟩
 have hnx:(x::l).Nodup:=by simp only[AX8,AXf,not_or]at hn ⊢;exact⟨hn.1.2.2.2,hn.2.2.2.2⟩
 exact(hg.toT (hrot2.nodup.2 hnx)).zq hrot2
theorem T.leaf{l:List Tok}(h:T l):(∃ v,l=[.ver v])∨∃ x v r,Rot l (x :: .arc x.st v :: .ver v :: .arc v x.st::r):=by
 induction h with
  |one v=>exact .inl ⟨v,rfl⟩
  |add x l v h hne hv ih=>exact .inr ⟨x,v,l,Rot.refl _⟩
  |rot a b h ih=>
   rcases ih with⟨v,e⟩|⟨x,v,r,hr⟩
   have hr:Rot [.ver v] (b++a):=⟨a,b,e.symm,rfl⟩
   exact .inl ⟨v,List.perm_singleton.1 hr.perm.symm⟩;exact .inr ⟨x,v,r,Rot.trans ⟨b,a,rfl,rfl⟩ hr⟩
def Lo:List Tok→List Int
 |[]=>[]
 |.ver v::l=>v::Lo l
 |.arc _ _::l=>Lo l
theorem P5{v:Int}:∀ {l:List Tok},v∈Lo l↔.ver v∈l
 |[]=>by simp[Lo]
 |.ver w::l=>by simp[Lo,P5 (l:=l)]
 |.arc _ _::l=>by simp[Lo,P5 (l:=l)]
theorem ny(a b:List Tok):Lo (a++b)=Lo a++Lo b:=by
 induction a with
  |nil=>rfl
  |cons t a ih=>cases t<;>simp[Lo,ih]
theorem T.len{l:List Tok}(h:T l):l.length+2=3*(Lo l).length:=by
 induction h with
  |one v=>rfl
  |add x l v h hne hv ih=>cases x<;>simp[Lo]at ih ⊢<;>omega
  |rot a b h ih=>simp only[ny,AXn]at ih ⊢;omega
end Go.Pev.Pl.Tok
end
section
namespace Go.Pev.Pl
section
variable {β:Type}
def B2(es:List (Int×β)):List Int:=es.map Prod.fst
theorem SH(es:List (Int×β)):(B2 es).length=es.length:=by simp[B2]
theorem Ha(es:List (Int×β))(k:Int)(v:β)(j:Int):BA (BP es k v) j=if j=k then some v else BA es j:=by
 induction es with
  |nil=>simp only[BP,BA];by_cases h:k=j;simp[h];simp[h,AYm h]
  |cons e es ih=>obtain⟨a,b⟩:=e;simp only[BP];by_cases h:a=k;subst h;simp only[AX9,BA];by_cases h2:a=j;simp[h2];simp[h2,AYm h2];simp only[h,AXv,BA,ih];by_cases h2:a=j;subst h2;simp[h];simp[h2]
theorem Oh(es:List (Int×β))(k:Int)(v:β):B2 (BP es k v)=if k∈B2 es then B2 es else B2 es++[k]:=by
 induction es with
  |nil=>rfl
  |cons e es ih=>
   obtain⟨a,b⟩:=e;simp only[BP];by_cases h:a=k;subst h;simp[B2];simp only[h,AXv];show a::B2 (BP es k v)=_;rw[ih];have:k∈B2 ((a,b)::es)↔k∈B2 es:=by simp[B2,AYm h]
   simp only[this];split<;>rfl
theorem Td(es:List (Int×β))(k:Int):BA es k=none↔k∉B2 es:=by
 induction es with
  |nil=>simp[BA,B2]
  |cons e es ih=>obtain⟨a,b⟩:=e;simp only[BA];by_cases h:a=k;simp[h,B2];simp only[h,AXv,ih];simp[B2,AYm h]
theorem FU(es:List (Int×β))(k:Int)(v:β)(j:Int):j∈B2 (BP es k v)↔j=k∨j∈B2 es:=by rw[Oh];split;rename_i h;constructor;exact .inr;rintro (rfl|h2);exact h;exact h2;simp[or_comm]
theorem J4{es:List (Int×β)}(h:(B2 es).Nodup)(k:Int)(v:β):(B2 (BP es k v)).Nodup:=by rw[Oh];split;exact h;rename_i hk;rw[AZU];exact⟨h,by simp,fun a ha b hb=>by rintro rfl;simp at hb;exact hk (hb▸ha)⟩
end
def dd:List Int→List Int→List Int
 |ks,[]=>ks
 |ks,x::xs=>dd (if x∈ks then ks else ks++[x]) xs
theorem AWN:∀ (xs ks:List Int),(dd ks xs).length≤ks.length+xs.length∧((dd ks xs).length=ks.length+xs.length↔xs.Nodup∧∀ x∈xs,x∉ks):=by
 intro xs;induction xs with
  |nil=>intro ks;simp[dd]
  |cons x xs ih=>intro ks;rw[dd];by_cases h:x∈ks;obtain⟨h1,_⟩:=ih ks;rw[AXp h];refine⟨by simp only[AXg];omega,?_,fun hh=>absurd h (hh.2 x (by simp))⟩;intro e;simp only[AXg]at e;omega;obtain⟨h1,h2⟩:=ih (ks++[x]);rw[AXo h];simp only[AXn,AXg,AXs,AYQ]at h1 h2 ⊢;refine⟨by omega,?_⟩;rw[show ks.length+(xs.length+1)=ks.length+1+xs.length by omega,h2,AX8];constructor;rintro⟨g1,g2⟩;refine⟨⟨fun hx=>g2 x hx (by simp),g1⟩,fun y hy => ?_⟩;rcases AXf.1 hy with rfl|hy;exact h;exact fun hk=>g2 y hy (by simp[hk]);rintro⟨⟨g1,g2⟩,g3⟩;refine⟨g2,fun y hy hk => ?_⟩;simp only[AXq,AYB]at hk;rcases hk with hk|rfl;exact g3 y (by simp[hy]) hk;exact g1 hy
theorem AQK(xs:List Int):(dd [] xs).length=xs.length↔xs.Nodup:=by have:=(AWN xs []).2;simpa using this
theorem B0{α β ρ:Type}(g:β→α→α)(fin:α→ρ):∀ (xs:List β) (a:α),walk (fun x a=>.inl (g x a)) fin xs a=fin (xs.foldl (fun a x=>g x a) a):=by
 intro xs;induction xs with
  |nil=>intro a;rfl
  |cons x xs ih=>intro a;rw[walk,AYI];exact ih _
theorem N3{σ ρ β:Type}{step:σ→Option (σ⊕ρ)}(st:Nat→σ)(xs:List β)(P:β→Bool)(rt:Nat→ρ)(rf:ρ)(hs:xs.length<9223372036854775808)
  (h:∀ i x,i<xs.length→xs[i]? = some x→step (st i)=if P x then some (.inr (rt i))else some (.inl (st (i+1)))) (hN:step (st xs.length)=some (.inr rf)) :
  A9 step many (st 0)=some (if xs.any P then rt (xs.findIdx P)else rf):=by
 have key:∀ (l:List β) (a:Nat),walk (fun x (a:Nat)=>if P x then .inr (rt a)else .inl (a+1)) (fun _=>rf) l a=if l.any P then rt (a+l.findIdx P)else rf:=by
  intro l;induction l with
   |nil=>intro a;rfl
   |cons x l ih=>intro a;rw[walk,List.any_cons,List.findIdx_cons];by_cases hx:P x=true;simp[hx];simp only[hx,AXw,AXv,AZy,cond_false];rw[ih,show a+1+List.findIdx P l=a+(List.findIdx P l+1) by omega]
 have:=Ct (step:=step) (fun i (a:Nat)=>st a) xs (fun x (a:Nat)=>if P x then .inr (rt a)else .inl (a+1)) (fun _=>rf) (fun i a=>a=i) hs
  (fun i x a hi hx ha=>by
   subst ha
   refine⟨fun a' h' => ?_,fun r h' => ?_⟩
   ·rw[h a x hi hx]
    split at h'
    ·cases h'
    ·rename_i hp
     cases h'
     simp[hp]
   ·rw[h a x hi hx]
    split at h'
    ·rename_i hp
     cases h'
     simp[hp]
    ·cases h')
  (fun a ha=>by subst ha;exact hN) 0 rfl
 rw[this,key,AYQ]
theorem BK{α:Type}{xs:List α}{n:Nat}{x:α}(h:xs[n]? = some x):idx xs (n:Int)=some x:=by rw[kM,h]
theorem fG{α:Type}{xs:List α}{n:Nat}{x z:α}(h:xs[n]? = some x):A7 xs (A3 (n:Int)) z=x:=by rw[LM,AXe,h];rfl
theorem OL{α:Type}{xs:List α}{h:Nat}(h2:h≤xs.length):Cv xs (0:Int) (h:Int)=some (xs.take h):=by have:=iq (xs:=xs) (l:=0) (AZ1 h) h2;simpa using this
theorem ID{α:Type}{xs:List α}{l:Nat}(h1:l≤xs.length):Cv xs (l:Int) (A4 xs)=some (xs.drop l):=by have:=iq (xs:=xs) h1 (AXl _);rw[AZJ]at this;exact this
def pos(xs:List Int)(t:Int):Int:=if t∈xs then((xs.findIdx (fun x=>decide (x=t)):Nat):Int)else -1
theorem AFa(xs:List Int)(t:Int):(xs.any fun x=>decide (x=t))=decide (t∈xs):=by
 induction xs with
  |nil=>rfl
  |cons x xs ih=>simp only[List.any_cons,ih,AXf,Bool.decide_or];congr 1;exact AZh.2 eq_comm
theorem jc{xs:List Int}{t:Int}(h:t∈xs):∃ k:Nat,pos xs t=(k:Int)∧k<xs.length∧xs[k]? = some t∧xs=xs.take k++t::xs.drop (k+1)∧t∉xs.take k:=by
 have hk:xs.findIdx (fun x=>decide (x=t))<xs.length:=AZK.2 ⟨t,h,by simp⟩;have hg:xs[xs.findIdx (fun x=>decide (x=t))]'hk=t:=by have:=List.findIdx_getElem (xs:=xs) (p:=fun x=>decide (x=t)) (w:=hk);simpa using this
 refine⟨_,by rw[pos,AXp h],hk,by rw[AXj hk,hg],?_,?_⟩;·conv=>lhs;rw[← AYK (xs.findIdx (fun x=>decide (x=t))) xs,AYH hk,hg]
 intro hm;obtain⟨j,hj,e⟩:=AZY.1 hm;have:=List.not_of_lt_findIdx (p:=fun x=>decide (x=t)) (xs:=xs) (i:=j) (by omega);simp[e]at this
theorem Pr{xs:List Int}{t:Int}(h:t∉xs):pos xs t = -1:=by rw[pos,AXo h]
end Go.Pev.Pl
end
