/- Part 1 of what the proofs stand on: plain functions of the program, and that they are its functions. -/
import Derived.WalkKit
import Derived.WalkSpells
import Derived.WalkLawsBesides
import Derived.Lib.Hide
import Derived.Laws.AppendOwnNone
import Derived.BigQuiet
import Derived.Laws.CopyRow
import Derived.Laws.Pointers
import Derived.Laws.Small
import Derived.Laws.Tables
import Derived.ArgAppend
import Derived.Laws.AppendOwn
import Derived.Laws.MakeOwn
import Derived.Laws.BytesArg
import Derived.Deep.Upon
import Derived.Lib.ConvBytes
import Derived.Laws.StructEq
import Derived.MapKept
import Derived.Laws.Sem
import Derived.Orders
set_option linter.unusedVariables false
set_option linter.unusedSimpArgs false
set_option linter.defProp false
noncomputable section
open Option renaming some->Z,none->U
open Bool renaming true->O,false->Y
open Decidable renaming decide->J
open List renaming length->I
open Array renaming toList->V
open Go renaming Value->ah,World->ao,TypeId->aO,Program->aX,Operand->bw,FuncId->dm,BinOp->mN
namespace Go
abbrev aa:=@List
abbrev ac:=@Option
abbrev aA:=@UInt8
abbrev aM:=@Array
abbrev gS:=@ByteArray
abbrev af:=@if_neg
abbrev ag:=@if_pos
abbrev al:=@Nat.le_refl
abbrev aK:=@Bool.and_eq_true
abbrev aL:=@Nat.zero_le
abbrev aP:=@List.mem_of_getElem?
abbrev aS:=@List.mem_cons_of_mem
abbrev aU:=@List.length_append
abbrev aV:=@List.getElem?_eq_getElem
abbrev aW:=@List.mem_cons_self
abbrev aY:=@congrArg
abbrev aZ:=@List.map_cons
abbrev bc:=@List.mem_append
abbrev bi:=@List.mem_cons
abbrev bu:=@List.mem_map
abbrev bD:=@List.length_take
abbrev bE:=@List.append_assoc
abbrev bG:=@List.length_cons
abbrev bH:=@of_decide_eq_true
abbrev bJ:=@List.all_eq_true
abbrev bR:=@Nat.le_trans
abbrev bW:=@List.mem_singleton
abbrev bZ:=@List.append_nil
abbrev ce:=@List.length_map
abbrev cg:=@Nat.eq_of_beq_eq_true
abbrev cj:=@Nat.mul_le_mul_right
abbrev cC:=@decide_eq_true_eq
abbrev cI:=@Nat.zero_add
abbrev cJ:=@List.eq_nil_of_length_eq_zero
abbrev cO:=@decide_eq_true
abbrev cU:=@Nat.lt_of_lt_of_le
abbrev cV:=@List.take_length
abbrev dl:=@List.drop_zero
abbrev dy:=@List.getElem?_append_right
abbrev dC:=@List.getElem?_map
abbrev dD:=@Nat.add_mul
abbrev dE:=@Nat.add_zero
abbrev dF:=@Option.some.injEq
abbrev dV:=@List.getElem?_eq_some_iff
abbrev dW:=@Array.getElem?_eq_some_iff
abbrev dX:=@List.length_set
abbrev dY:=@List.getElem?_append_left
abbrev eh:=@Nat.not_lt_zero
abbrev ei:=@Bool.true_and
abbrev ej:=@List.drop_length
abbrev eF:=@List.mem_map_of_mem
abbrev eO:=@Nat.le_succ
abbrev eX:=@List.getElem?_take
abbrev eY:=@Nat.add_assoc
abbrev fm:=@List.all_cons
abbrev fo:=@Prod.mk.injEq
abbrev ft:=@List.map_append
abbrev fE:=@List.length_nil
abbrev fF:=@Bool.not_eq_true'
abbrev fS:=@List.nil_append
abbrev gh:=@List.getElem?_set_self
abbrev gi:=@Array.getElem?_eq_getElem
abbrev gj:=@decide_eq_false
abbrev gE:=@List.getD_eq_getElem?_getD
abbrev gF:=@Nat.sub_self
abbrev gG:=@beq_eq_false_iff_ne
abbrev gH:=@decide_eq_true_iff
abbrev gR:=@Bool.or_eq_true
abbrev iq:=@List.getElem_mem
abbrev ir:=@List.mem_flatMap
abbrev iu:=@List.map_map
abbrev iP:=@List.mem_of_mem_drop
abbrev je:=@List.length_drop
abbrev jf:=@List.mem_of_mem_take
abbrev jg:=@Array.length_toList
abbrev jh:=@Array.getElem?_toList
abbrev ji:=@List.sum_cons
abbrev jy:=@List.foldl_cons
abbrev jz:=@Bool.false_and
abbrev jA:=@List.getElem?_set_ne
abbrev jB:=@List.mem_flatten
abbrev jQ:=@List.mem_filter
abbrev jR:=@Array.getD_eq_getD_getElem?
abbrev kK:=@Nat.zero_mul
abbrev kL:=@Nat.succ_mul
abbrev kM:=@Nat.le_add_right
abbrev kN:=@List.size_toArray
abbrev kO:=@Option.some.inj
abbrev kP:=@Nat.min_eq_left
abbrev kQ:=@decide_true
abbrev lI:=@List.getElem?_of_mem
abbrev lJ:=@List.take_add_one
abbrev lK:=@Option.map_some
abbrev lL:=@Int.toNat_natCast
abbrev mG:=@List.getElem?_drop
abbrev mH:=@List.append_eq_nil_iff
abbrev mI:=@List.nodup_cons
abbrev mJ:=@Bool.and_true
abbrev mK:=@Bool.false_ne_true
abbrev mL:=@List.map_congr_left
abbrev mM:=@List.filterMap_append
abbrev nJ:=@List.map_nil
abbrev nK:=@List.nodup_nil
abbrev nL:=@List.mem_filterMap
abbrev nM:=@List.mem_range
abbrev nN:=@Bool.and_self
abbrev nO:=@Bool.true_or
abbrev nQ:=@Bool.not_eq_true
abbrev nT:=@Nat.le_of_ble_eq_true
abbrev oN:=@List.getElem?_set
abbrev oO:=@Ne.symm
abbrev oP:=@List.take_append_drop
abbrev pH:=@List.length_eq_zero_iff
abbrev pI:=@Nat.succ_pos
abbrev pJ:=@List.ext_getElem?
abbrev pK:=@Bool.or_true
abbrev pL:=@List.getElem?_eq_none
abbrev pM:=@Bool.false_or
abbrev qR:=@Nat.mod_lt
abbrev qS:=@List.not_mem_nil
abbrev qT:=@List.flatMap_eq_nil_iff
abbrev qU:=@Nat.le_of_lt
abbrev qV:=@Nat.succ_le_succ
abbrev qW:=@List.take_zero
abbrev tg:=@Nat.mul_comm
abbrev th:=@Nat.add_sub_cancel_left
abbrev ti:=@List.length_replicate
abbrev tj:=@congrFun
abbrev tk:=@Nat.lt_succ_self
abbrev tn:=@List.take_of_length_le
abbrev tp:=@getElem!_pos
abbrev tq:=@decide_eq_false_iff_not
abbrev tu:=@beq_iff_eq
abbrev tv:=@Nat.ble_eq_true_of_le
abbrev tw:=@Bool.eq_false_iff
abbrev wb:=@List.getElem?_eq_none_iff
abbrev wc:=@Nat.mod_eq_of_lt
abbrev wd:=@List.length_pos_iff
abbrev we:=@List.flatMap_cons
abbrev wg:=@Bool.false_eq_true
abbrev wh:=@if_false
abbrev wi:=@List.isEmpty_iff
abbrev wj:=@Bool.eq_iff_iff
abbrev wk:=@Bool.and_false
abbrev wm:=@List.length_range
abbrev wn:=@Decidable.of_not_not
abbrev yr:=@List.getElem?_append
abbrev yt:=@List.mem_append_right
abbrev yu:=@if_true
abbrev yv:=@Array.toList_append
abbrev yw:=@Array.toList_replicate
abbrev yx:=@List.take_append_of_le_length
abbrev yy:=@List.pairwise_cons
abbrev yz:=@List.foldl_append
abbrev Bk:=@Bool.or_eq_false_iff
abbrev Bl:=@Bool.not_false
abbrev Bm:=@Array.getElem?_replicate
abbrev Bn:=@Nat.ne_of_lt
abbrev Bo:=@Nat.le_of_eq
abbrev Bp:=@Array.getElem?_setIfInBounds
abbrev Bq:=@List.take_take
abbrev Br:=@List.flatten_append
abbrev HZ:=@Nat.one_mul
abbrev H2:=@Nat.div_add_mod
abbrev H3:=@Array.toList_map
abbrev H4:=@Option.map_none
abbrev H5:=@Array.toList_setIfInBounds
abbrev H6:=@Int.le_refl
abbrev H7:=@Array.size_append
abbrev H8:=@List.mem_append_left
abbrev H9:=@List.flatMap_map
abbrev Ia:=@List.any_eq_true
abbrev Ib:=@Function.comp_def
abbrev Ic:=@List.filterMap_cons_some
abbrev Ie:=@List.set_append_right
abbrev If:=@List.replicate_zero
abbrev Ig:=@List.of_mem_zip
abbrev OT:=@Nat.mul_pos
abbrev OU:=@Nat.div_lt_iff_lt_mul
abbrev OV:=@Nat.le_max_left
abbrev OW:=@Nat.le_max_right
abbrev OX:=@List.getElem?_toArray
abbrev OY:=@Array.size_setIfInBounds
abbrev OZ:=@List.take_set_of_le
abbrev O0:=@Array.toArray_toList
abbrev O1:=@List.zipIdx_cons
abbrev O2:=@Nat.lt_irrefl
abbrev O3:=@List.flatten_cons
abbrev O4:=@List.eq_of_mem_replicate
abbrev O5:=@Nat.add_right_comm
abbrev O6:=@Classical.byContradiction
abbrev O7:=@Nat.blt_eq
abbrev O8:=@List.length_eq_one_iff
abbrev O9:=@List.filter_cons_of_neg
abbrev Pa:=@List.filter_cons_of_pos
abbrev Pb:=@List.all_map
abbrev Pc:=@List.filterMap_cons_none
abbrev Pd:=@Nat.mul_le_mul
abbrev Pe:=@Nat.sub_mul
abbrev Pf:=@List.cons_ne_nil
abbrev Pg:=@List.filterMap_cons
abbrev Ph:=@Array.size_range
abbrev Pj:=@List.getElem!_eq_getElem?_getD
abbrev Pk:=@Nat.add_sub_cancel
abbrev Pl:=@List.drop_eq_getElem_cons
abbrev Pm:=@UInt8.lt_iff_toNat_lt
abbrev Pn:=@List.any_cons
abbrev Po:=@List.length_filter_le
abbrev Pp:=@bne_eq_false_iff_eq
abbrev Pq:=@List.replicate_succ'
abbrev Ps:=@UInt8.toNat_ofNat'
abbrev Zz:=@Nat.lt_of_le_of_lt
abbrev ZA:=@List.length_modify
abbrev ZB:=@Array.getElem?_modify
abbrev ZC:=@List.drop_set_of_lt
abbrev ZD:=@List.flatMap_def
abbrev ZE:=@List.getElem?_modify
abbrev ZF:=@Bool.not_true
abbrev ZG:=@Nat.add_comm
abbrev ZH:=@List.filter_nil
abbrev ZI:=@List.getElem?_range
abbrev ZJ:=@List.countP_replicate
abbrev ZK:=@Nat.lt_of_not_le
abbrev ZL:=@List.cons_append
abbrev ZM:=@Bool.and_eq_false_iff
abbrev ZN:=@Nat.succ_lt_succ
abbrev ZO:=@Int.eq_ofNat_of_zero_le
abbrev ZP:=@Array.size_mapIdx
abbrev ZQ:=@Nat.sub_zero
abbrev ZR:=@List.mem_iff_getElem?
abbrev ZS:=@List.getElem?_inj
abbrev ZT:=@of_decide_eq_false
abbrev ZU:=@Nat.mul_le_mul_left
abbrev ZV:=@List.find?_cons
abbrev ZW:=@List.pairwise_singleton
abbrev ZX:=@List.pairwise_iff_getElem
abbrev ZY:=@Nat.le_mul_of_pos_left
abbrev ZZ:=@List.length_zip
abbrev Z0:=@List.cons.inj
abbrev qoK:=@Nat.mul_sub_right_distrib
abbrev qoL:=@List.mem_zipIdx_iff_getElem?
abbrev qoM:=@Array.getElem?_setIfInBounds_self_of_lt
abbrev qoN:=@List.filter_eq_nil_iff
abbrev qoO:=@List.set_eq_take_append_cons_drop
abbrev qoP:=@List.getElem?_cons_zero
abbrev qoQ:=@List.contains_iff_mem
abbrev qoR:=@Array.getElem?_append_left
abbrev qoS:=@Option.isSome_iff_exists
abbrev qoT:=@Array.getElem?_mapIdx
abbrev qoU:=@List.mem_of_find?_eq_some
abbrev qoV:=@List.sublist_flatten_of_mem
abbrev qoW:=@List.replicate_append_replicate
abbrev qoX:=@List.drop_eq_nil_of_le
theorem ifN{c:Prop}[Decidable c]{α:Sort _}{a b:α}(h:¬c:=by omega):(if c then a else b)=b:=if_neg h
theorem ifP{c:Prop}[Decidable c]{α:Sort _}{a b:α}(h:c:=by omega):(if c then a else b)=a:=if_pos h
end Go
namespace Go.GxZ
open Go.RowKit
def qjs{α:Type}(e:Ask α):∀w:ao,w.drawn<=(w.ask e).2.drawn:=by
 induction e with
 |done a=>exact λ w=>al _
 |ask c b k d=>
   intro w;unfold World.ask;grind
def qkq(w:ao)(c:Sys):w.drawn<=(w.sys c).2.drawn:=by
 have h:=qjs (Kernel.perform c w.os) w;unfold World.sys;grind
def qjE{p:aX}{w w':ao}{a:Addr}{v:ah}{b:Bool}{l:aa Addr}(h:w.farStore p a v b=.ok (w',l)):w'.drawn=w.drawn:=by
 unfold World.farStore at h;split at h
 .split at h
  .rename_i r c;cases h;unfold World.viewStore at c;simp only[bind,Except.bind,pure,Except.pure,throw,throwThe,MonadExceptOf.throw]at c
   repeat' split at c
   all_goals first|(cases c;done)|(cases c;rfl)|skip
  .cases h
 .cases h
def run_drawn{p:aX}{α : Type}(e:Sem α):∀{w w':ao} {a : α},e.run p w = .ok a w'->w.drawn<=w'.drawn:=by
 induction e with
 | pure a=>intro w w' b h;cases h;exact al _
 | load m a k d =>
   intro w w' b h;simp only[Sem.run]at h;grind
 | store m a v k d =>
   intro w w' b h
   cases v<;>simp only[Sem.run]at h<;>first
    | (cases h;done)
    | (split at h
       ·split at h
        ·cases h
        ·have:=d h;exact this
       ·split at h
        ·next f=>have:=d h;rw[qjE f]at this;exact this
        ·cases h)
 | new o k d=>intro w w' b h;simp only[Sem.run]at h;have:=d _ h;exact this
 | shape r k d=>intro w w' b h;simp only[Sem.run]at h;exact d _ h
 | freeze a n k d =>
   intro w w' b h;simp only[Sem.run]at h;have:=d h;have e:(w.freeze a n).drawn=w.drawn:=by unfold World.freeze;split<;>rfl
   rw[e]at this;exact this
 | frozen a k d=>intro w w' b h;simp only[Sem.run]at h;exact d _ h
 | getObj r k d =>
   intro w w' b h;simp only[Sem.run]at h;grind
 | setObj r o k d =>
   intro w w' b h;simp only[Sem.run]at h;grind
 | choose q k d =>
   intro w w' b h;simp only[Sem.run]at h;grind
 | sys c k d =>
   intro w w' b h;simp only[Sem.run]at h;exact bR (qkq w c) (d _ h)
 | program k d=>intro w w' b h;simp only[Sem.run]at h;exact d _ h
 | mark m k d=>intro w w' b h;simp only[Sem.run]at h;exact d h
 | halt h=>intro w w' b h;simp only[Sem.run]at h;cases h
structure qoA (B:Nat) (w:ao) where
 val:ao
 below:Below B w val
instance (B:Nat)(w:ao):Nonempty (qoA B w):=⟨⟨w,Below.refl _ _⟩⟩
end Go.GxZ
namespace Go.AmZ
open GxZ
inductive KC where
 |str|int (k:IntKind)|bool
 deriving DecidableEq
inductive AV where
 |v (x:ah)
 |dead
 |sl (k:Nat) (es:List (List AV)) (lv:Nat)
 |rs (r lo n ep:Nat) (full:Bool)
 |ptr (b o:Nat)
 |rpt (r i o ep:Nat)
 |ept (cs:List AV) (o:Nat)
 |fn (f:dm) (caps:List AV)
 |agg (cs:List AV)
 |tup (vs:List AV)
 |mp (b:Nat)
 |mc (kc:List KC) (ka va:Bool) (ks vs:List (List AV))
 deriving Inhabited
structure Row where
 k:Nat
 c:List (List AV)
 ver:Nat
 fz:Nat
 off:Bool
structure St where
 bx:List (List AV)
 rw:List Row
 wr:List Nat
 wrr:List Nat
structure S where
 tm:List AV
 σ:St
inductive TK where
 |other|bool|int (k:IntKind)|string|ptr|slice (e esz ebytes:Nat) (ez:List ah)|struct (fs:List (Nat×Nat×Bool))|array (n e esz:Nat)|map (kc:List KC) (ka va:Bool) (vn:Nat) (vz:List ah)
structure TD where
 size:Nat
 bytes:Nat
 agg:Bool
 zero:List ah
 k:TK
def sV:TypeDesc->Bool
 |.struct _|.array _ _=>O
 |_=>Y
def fieldsOf(P:aX):aa Field->ac (aa (Nat×Nat×Bool))
 |[]=>Z []
 |f::a=>match P.info? f.type,P.underlying f.type,fieldsOf P a with
   |Z i,Z u,Z l=>Z ((f.offset,i.size,sV u)::l)
   |_,_,_=>U
def YP:ah->Bool
 |.agg _=>O
 |_=>Y
def kc1(P:aX)(t:aO):ac KC:=match P.underlying t with
 |Z .string=>Z .str
 |Z (.int k)=>Z (.int k)
 |Z .bool=>Z .bool
 |_=>U
def kcs(P:aX):aa Field->Nat->ac (aa KC)
 |[],_=>Z []
 |f::a,o=>match J (f.offset=o/\f.name≠"_"),kc1 P f.type,kcs P a (o+1)with
   |O,Z c,Z l=>Z (c::l)
   |_,_,_=>U
def nA(P:aX)(t:aO):ac (aa KC×Bool):=match P.underlying t with
 |Z (.struct a)=>match P.stoodInHeld t,kcs P (V a) 0 with
   |Y,Z l=>Z (l,O)
   |_,_=>U
 |_=>match kc1 P t with
   |Z c=>Z ([c],Y)
   |U=>U
def AW(P:aX)(k e:aO):ac TK:=match nA P k,P.info? e,P.underlying e with
 |Z (a,b),Z i,Z u=>match i.zero with
   |Z z=>match YP z,sV u with
     |O,O=>Z (.map a b O i.size (V z.cells))
     |Y,Y=>Z (.map a b Y i.size (V z.cells))
     |_,_=>Z .other
   |U=>Z .other
 |_,_,_=>Z .other
def qnY:TK->Bool
 |.other|.map .. => O
 |_=>Y
def uU{P:aX}{k e:aO}{x:TK}(h:AW P k e=Z x):qnY x=O:=by
 unfold AW at h
 repeat' split at h
 all_goals cases h;rfl
def gg(P:aX):TypeDesc->ac TK
 |.bool=>Z .bool
 |.int k=>Z (.int k)
 |.string=>Z .string
 |.pointer _=>Z .ptr
 |.slice e=>match P.info? e with
   |Z i=>match i.zero with
     |Z z=>Z (.slice e i.size i.bytes (V z.cells))
     |U=>U
   |U=>U
 |.struct a=>(fieldsOf P (V a)).map .struct
 |.array n e=>match P.info? e with
   |Z i=>Z (.array n e i.size)
   |U=>U
 |.map k e=>AW P k e
 |_=>Z .other
def cH(P:aX)(t:aO):ac TD:=
 match P.info? t,P.underlying t with
 |Z i,Z u=>match i.zero,gg P u with
   |Z z,Z k=>Z ⟨i.size,i.bytes,sV u,V z.cells,k⟩
   |_,_=>U
 |_,_=>U
def iw(k:IntKind)(n:Int):Int:=k.wrap n
def aD(a b:Int):Int:=a+b
def cr(a b:Int):Int:=a-b
def Oh(a b:Int):Int:=a*b
def OM(a b:Int):Int:=a.tdiv b
def Oc(a b:Int):Int:=a.tmod b
def ieq(a b:Int):Bool:=a==b
def ilt(a b:Int):Bool:=J (a<b)
def ile(a b:Int):Bool:=J (a<=b)
def pw(a b:Int):Int:=if a<b then b else a
def NU(a b:Int):Int:=if b<a then b else a
def qP(op:mN)(k:IntKind)(a b:Int):Int:=
 match op with
 |.and=>k.wrap (BitVec.ofInt k.bits a&&&BitVec.ofInt k.bits b).toNat
 |.or=>k.wrap (BitVec.ofInt k.bits a|||BitVec.ofInt k.bits b).toNat
 |.xor=>k.wrap (BitVec.ofInt k.bits a ^^^ BitVec.ofInt k.bits b).toNat
 |_=>k.wrap (BitVec.ofInt k.bits a &&& ~~~BitVec.ofInt k.bits b).toNat
def OA(k:IntKind)(a b:Int):Int:=k.wrap (a*2^(min b.toNat k.bits))
def qO(k:IntKind)(a b:Int):Int:=a.fdiv (2^(min b.toNat k.bits))
def au(a:Bool):Bool := !a
def eE(a b:Bool):Bool:=a==b
def xeq(a b:gS):Bool:=V a.data==V b.data
def xlt(a b:gS):Bool:=Op.bytesLess (V a.data) (V b.data)
def tf(a b:Bool):Bool:=a||b
def Hu(a b:gS):ac gS:=if((a.size+b.size:Nat):Int)>IntKind.i64.max then U else Z (a++b)
def qN(a:gS):Nat:=a.size
def Hq(s:gS)(j:Int):ac Int:=if 0<=j then(match s.data.toList[j.toNat]? with
 |Z b=>Z b.toNat
 |U=>U)else U
def Bf(s:gS)(l h:Nat):gS:=s.extract l h
def bnd(y:Nat)(i:Int):ac Nat:=if 0<=i/\i<=y then Z i.toNat else U
def fR(a:aa (aa AV)):Nat:=I a
def Hv(a:aa (aa AV))(j:Int):ac (aa AV):=if 0<=j then a[j.toNat]? else U
def Ht(a:aa (aa AV))(l h:Nat):aa (aa AV):=(a.take h).drop l
def bN(a b:Nat):Bool:=J (a=b)
def lv1:Nat->Nat
 |0=>0
 |_+1=>1
def lvS(f:Nat)(b:Bool):Nat:=match J (1<f)&&b with|O=>2|Y=>1
def pos(n:Nat):Bool:=J (0<n)
def br:AV->Bool
 |.v _|.sl _ _ _|.mc .. => O
 |_=>Y
def uni(k:Nat)(a:aa (aa AV)):Bool:=a.all λ e=>J (I e=k)&&e.all br
def sI(R:Row)(k lo n a:Nat):ac (aa (aa AV)):=if R.k=k/\R.ver=a/\lo+n<=I R.c then Z ((R.c.drop lo).take n)else U
def MP(R:Row)(k lo n a:Nat)(j:Int):ac Nat:=if R.k=k/\0<=j/\j<n/\R.ver=a/\lo+n<=I R.c then Z (lo+j.toNat)else U
def xX(R:Row)(i a:Nat):ac (aa AV):=if R.ver=a then R.c[i]? else U
def yc(R:Row)(k lo n a:Nat)(f:Bool)(bytes:Nat)(xs:aa (aa AV)):ac (Row×Nat):=
 if R.k=k/\R.ver=a/\n=I R.c/\lo=0/\f=Y/\R.fz<=I R.c/\(n+I xs)*bytes<=2^47/\n+I xs<2^62 then Z ({R with c:=R.c++xs,ver:=R.ver+1},n+I xs)else U
def rowNew(k bytes:Nat)(xs:aa (aa AV)):ac (Row×Nat):=if I xs*bytes<=2^47/\I xs<2^62 then Z (⟨k,xs,0,0,Y⟩,I xs)else U
def G7(R:Row)(k lo n a l:Nat):ac Row:=
 if R.k=k/\R.ver=a/\n=I R.c/\lo=0/\l<=n/\R.fz<=I R.c then Z {R with c:=R.c.drop l,ver:=R.ver+1,fz:=R.fz-l,off:=O}else U
def ya(R:Row)(i o a size:Nat)(xs:aa AV):ac Row:=match J (R.ver=a/\R.fz<=i/\o+size<=R.k/\I xs=size/\R.off=Y)&&xs.all br,R.c[i]? with
 |O,Z e=>Z {R with c:=R.c.set i (e.take o++(xs++e.drop (o+size)))}
 |_,_=>U
def me(b:gS):aa (aa AV):=b.data.toList.map λ c=>[.v (.int .u8 c.toNat)]
def M6:aa AV->ac aA
 |[.v (.int .u8 n)]=>Z (UInt8.ofNat n.toNat)
 |_=>U
def xU:aa (aa AV)->ac (aa aA)
 |[]=>Z []
 |e::l=>match M6 e,xU l with
   |Z b,Z r=>Z (b::r)
   |_,_=>U
def Ax:AV->Bool
 |.ptr _ _|.rpt _ _ _ _|.ept _ _=>O
 |_=>Y
def A9:AV->Bool
 |.v (.pointer U)=>O
 |_=>Y
def sQ:ac TD->Bool
 |Z ⟨_,_,_,_,.int .u8⟩=>O
 |_=>Y
def oC(a xs:aa (aa AV)):aa (aa AV):=a++xs
def pA(R:Row):Row:={R with fz:=max R.fz (I R.c)}
def bQ:ah->Bool
 |.bool _|.int _ _|.string _|.pointer U|.slice U 0 0|.map U|.nilFunc|.nilIface=>O
 |_=>Y
def ofC(x:ah):AV:=match bQ x with|O=>.v x|Y=>.dead
def Gt:ah->AV
 |.agg cs=>match cs.toList.all bQ with
   |O=>.agg (cs.toList.map .v)
   |Y=>.dead
 |.tuple vs=>match V vs with
   |[]=>.tup []
   |_=>.dead
 |x=>ofC x
def aev(a:aa AV):bw->AV
 |.tmp t=>a.getD t .dead
 |.const x=>Gt x
 |.func f=>.fn f []
 |.global _=>.dead
def cellsOf:AV->aa AV
 |.agg cs=>cs
 |x=>[x]
def isC:AV->Bool
 |.agg _|.tup _|.dead=>Y
 |_=>O
def elems(rw:aa Row)(k:Nat):AV->ac (aa (aa AV))
 |.v (.slice U 0 0)=>Z []
 |.sl a b _=>match bN a k with
   |O=>Z b
   |Y=>U
 |.rs r lo n c _=>match rw[r]? with
   |Z R=>sI R k lo n c
   |U=>U
 |_=>U
def bC(rw:aa Row):AV->AV
 |.sl k a f=>.sl k a (lv1 f)
 |.rs r lo n b _=>match rw[r]? with
   |Z R=>match sI R R.k lo n b with
     |Z a=>.sl R.k a 1
     |U=>.dead
   |U=>.dead
 |x=>x
def cS(rw:aa Row):AV->AV
 |.agg cs=>.agg (cs.map (bC rw))
 |x=>bC rw x
def rsC:AV->aa Nat
 |.rs r _ _ _ _=>[r]
 |_=>[]
def rsA:AV->aa Nat
 |.agg cs=>cs.flatMap rsC
 |x=>rsC x
def frz(rw:aa Row)(a:aa Nat):aa Row:=a.foldl (λ l r=>l.modify r pA) rw
mutual
def rb:AV->aa Nat
 |.ptr b _|.mp b=>[b]
 |.fn _ cs|.agg cs|.tup cs=>rbL cs
 |_=>[]
def rbL:aa AV->aa Nat
 |[]=>[]
 |x::l=>rb x++rbL l
end
mutual
def rr:AV->aa Nat
 |.rs r _ _ _ _|.rpt r _ _ _=>[r]
 |.fn _ cs|.agg cs|.tup cs=>rrL cs
 |_=>[]
def rrL:aa AV->aa Nat
 |[]=>[]
 |x::l=>rr x++rrL l
end
mutual
def ren(fb fr:Nat->Nat):AV->AV
 |.ptr b o=>.ptr (fb b) o
 |.mp b=>.mp (fb b)
 |.rs r lo n a f=>.rs (fr r) lo n a f
 |.rpt r i o a=>.rpt (fr r) i o a
 |.fn f cs=>.fn f (bB fb fr cs)
 |.agg cs=>.agg (bB fb fr cs)
 |.tup cs=>.tup (bB fb fr cs)
 |x=>x
def bB(fb fr:Nat->Nat):aa AV->aa AV
 |[]=>[]
 |x::l=>ren fb fr x::bB fb fr l
end
def refs(nb a:Nat)(x:AV):Bool:=(rb x).any (λ b=>J (nb<=b))||(rr x).any λ r=>J (a<=r)
def vN (b:Nat) (rw:aa Row):AV->AV
 | .sl k c f => .sl k c (lv1 f)
 | .rs r lo n a f=>match J (b<=r) with
   | O=>bC rw (.rs r lo n a f)
   | Y => .rs r lo n a f
 | x=>x
def oH(a:Nat)(rw:aa Row):AV->AV
 |.agg cs=>.agg (cs.map (vN a rw))
 |x=>vN a rw x
def nz(a:Nat)(rw:aa Row):AV->AV
 |.tup vs=>.tup (vs.map (oH a rw))
 |x=>oH a rw x
def mj(a:Bool)(size:Nat)(cs:aa AV)(o:Nat):ac AV:=
 match a with
 |O=>match J (o+size<=I cs)with
   |O=>Z (.agg ((cs.drop o).take size))
   |Y=>U
 |Y=>cs[o]?
def noMc:aa AV->Bool
 |[.mc ..]=>Y
 |_=>O
def dN(d:TD)(σ:St):AV->ac AV
 |.ptr b o=>match σ.bx[b]? with
   |Z cs=>match noMc cs with
     |O=>mj d.agg d.size cs o
     |Y=>U
   |U=>U
 |.rpt r i o a=>match σ.rw[r]? with
   |Z R=>match xX R i a with
     |Z cs=>mj d.agg d.size cs o
     |U=>U
   |U=>U
 |.ept cs o=>mj d.agg d.size cs o
 |_=>U
def A7(op:mN)(k:IntKind)(a b:Int):ac ah:=
 match op with
 |.add=>Z (.int k (iw k (aD a b)))
 |.sub=>Z (.int k (iw k (cr a b)))
 |.mul=>Z (.int k (iw k (Oh a b)))
 |.quo=>match ieq b 0 with
   |O=>U
   |Y=>Z (.int k (iw k (OM a b)))
 |.rem=>match ieq b 0 with
   |O=>U
   |Y=>Z (.int k (Oc a b))
 |.and=>Z (.int k (qP .and k a b))
 |.or=>Z (.int k (qP .or k a b))
 |.xor=>Z (.int k (qP .xor k a b))
 |.andNot=>Z (.int k (qP .andNot k a b))
 |.eql=>Z (.bool (ieq a b))
 |.neq=>Z (.bool (au (ieq a b)))
 |.lss=>Z (.bool (ilt a b))
 |.leq=>Z (.bool (ile a b))
 |.gtr=>Z (.bool (ilt b a))
 |.geq=>Z (.bool (ile b a))
 |_=>U
def Bb(op:mN)(x y:gS):ac ah:=
 match op with
 |.add=>match Hu x y with
   |Z z=>Z (.string z)
   |U=>U
 |.eql=>Z (.bool (xeq x y))
 |.neq=>Z (.bool (au (xeq x y)))
 |.lss=>Z (.bool (xlt x y))
 |.leq=>Z (.bool (tf (xlt x y) (xeq x y)))
 |.gtr=>Z (.bool (au (tf (xlt x y) (xeq x y))))
 |.geq=>Z (.bool (au (xlt x y)))
 |_=>U
def sO(op:mN)(x y:ah):ac ah:=
 match x,y with
 |.int k a,.int c b=>match op with
   |.shl=>match ilt b 0 with
     |O=>U
     |Y=>Z (.int k (OA k a b))
   |.shr=>match ilt b 0 with
     |O=>U
     |Y=>Z (.int k (qO k a b))
   |op=>match J (k=c)with
     |O=>A7 op k a b
     |Y=>U
 |.string a,.string b=>Bb op a b
 |_,_=>U
def unA(op:UnOp)(x:ah):ac ah:=
 match op,x with
 |.neg,.int k n=>Z (.int k (iw k (cr 0 n)))
 |.not,.bool b=>Z (.bool (au b))
 |_,_=>U
def sC(place:Nat->ac (Nat×Nat))(cells:aa AV):aa (Nat×AV)->ac (aa AV)
 |[]=>Z cells
 |(i,x)::a=>match place i with
   |U=>U
   |Z (off,size)=>match J (I (cellsOf x)=size)&&J (off+size<=I cells)&&(cellsOf x).all isC with
     |O=>sC place (cells.take off++(cellsOf x++cells.drop (off+size))) a
     |Y=>U
def GZ(y:Nat):AV->ac Nat
 |.v (.int _ i)=>bnd y i
 |_=>U
def iK(d:Nat)(y:Nat):ac AV->ac Nat
 |U=>Z d
 |Z x=>GZ y x
structure Cfg where
 ty:Nat->Option TD
 fn:Nat->Option Func
 prim:Nat->Option (St->List AV->Option (AV×Option St))
 raw:Nat->Bool
 pur:Code->List Nat
 lo:Nat->Bool
 inl:Nat->Option Func
def vb(k n:Nat)(rw:aa Row)(ps:aa (Nat×AV)):Bool:=
 decide (I ps=n)&&J (n*k<=2^24)&&J (0<k)&&(ps.zipIdx).all λ p=>J (p.1.1=p.2)&&J (I (cellsOf p.1.2)=k)&&(cellsOf p.1.2).all λ x=>br (bC rw x)
def cu:aa KC->aa AV->Bool
 |[],[]=>O
 |.str::l,.v (.string _)::r=>cu l r
 |.int k::l,.v (.int a _)::r=>J (a=k)&&cu l r
 |.bool::l,.v (.bool _)::r=>cu l r
 |_,_=>Y
def ox:AV->AV->Bool
 |.v (.string a),.v (.string b)=>xeq a b
 |.v (.int _ a),.v (.int _ b)=>ieq a b
 |.v (.bool a),.v (.bool b)=>eE a b
 |_,_=>Y
def gp:aa AV->aa AV->Bool
 |[],[]=>O
 |x::l,y::r=>ox x y&&gp l r
 |_,_=>Y
def gL(k:aa AV):aa (aa AV)->Nat->ac Nat
 |[],_=>U
 |e::a,i=>match gp k e with
   |O=>Z i
   |Y=>gL k a (i+1)
def gY:AV->Bool
 |.agg _=>O
 |_=>Y
def fy(g:Bool)(cs:aa AV):AV:=match g with
 |O=>.agg cs
 |Y=>match cs with
   |[x]=>x
   |_=>.dead
def vF(σ:St)(f:aa KC)(g e:Bool):AV->ac (Nat×aa (aa AV)×aa (aa AV))
 |.mp b=>match σ.bx[b]? with
   |Z [.mc c d a ks vs]=>match J (c=f)&&(eE d g&&eE a e)with
     |O=>Z (b,ks,vs)
     |Y=>U
   |_=>U
 |_=>U
def vm(a:aa KC)(b:Bool)(x:AV):Bool:=eE (gY x) b&&cu a (cellsOf x)
def AR(b:Bool)(a:Nat)(x:AV):Bool:=eE (gY x) b&&J (I (cellsOf x)=a)&&(cellsOf x).all br
def yb(c:aa KC)(a:Bool)(b:aa ah)(ks vs:aa (aa AV))(k:aa AV):ac (AV×Bool):=match gL k ks 0 with
 |Z j=>match vs[j]? with
   |Z v=>Z (fy a v,O)
   |U=>U
 |U=>Z (fy a (b.map .v),Y)
def lF(ks vs:aa (aa AV))(k v:aa AV):aa (aa AV)×aa (aa AV):=match gL k ks 0 with
 |Z j=>(ks,vs.set j v)
 |U=>(ks++[k],vs++[v])
def ma(C:Cfg)(a:aa AV)(σ:St)(t:Nat)(x k v:bw):ac (AV×ac St):=match C.ty t with
 |Z ⟨_,_,_,_,.map d e c f _⟩=>match vF σ d e c (aev a x),vm d e (aev a k)&&AR c f (aev a v)with
   |Z (b,ks,vs),O=>Z (.tup [],Z {σ with bx:=σ.bx.set b [.mc d e c (lF ks vs (cellsOf (aev a k)) (cellsOf (aev a v))).1 (lF ks vs (cellsOf (aev a k)) (cellsOf (aev a v))).2],wr:=b::σ.wr})
   |_,_=>U
 |_=>U
def aC(C:Cfg)(q:aa AV)(σ:St)(op:Op):ac (AV×ac St):=
 match op with
 |.move x|.assign x=>Z (aev q x,U)
 |.pick c a b=>match aev q c with
   |.v (.bool O)=>Z (aev q a,U)
   |.v (.bool Y)=>Z (aev q b,U)
   |_=>U
 |.alloc e=>match C.ty e with
   |Z d=>match d.zero.all bQ with
     |O=>Z (.ptr (I σ.bx) 0,Z {σ with bx:=σ.bx++[d.zero.map .v]})
     |Y=>U
   |U=>U
 |.box e x=>match C.ty e with
   |Z _=>match(cellsOf (aev q x)).all isC with
     |O=>Z (.ptr (I σ.bx) 0,Z {σ with bx:=σ.bx++[cellsOf (aev q x)]})
     |Y=>U
   |U=>U
 |.build t parts=>match C.ty t with
   |Z ⟨_,_,_,z,.struct A⟩=>match z.all bQ with
     |O=>match sC (λ i=>match A[i]? with|Z f=>Z (f.1,f.2.1)|U=>U) (z.map .v) (parts.toList.map λ p=>(p.1,aev q p.2))with
       |Z cs=>Z (.agg cs,U)
       |U=>U
     |Y=>U
   |_=>U
 |.buildSlice t n parts=>match C.ty t with
   |Z ⟨_,_,_,_,.slice _ k _ _⟩=>
     match vb k n σ.rw (parts.toList.map λ p=>(p.1,aev q p.2))with
     |O=>match parts.toList.flatMap λ p=>rsA (aev q p.2)with
       |[]=>Z (.sl k (parts.toList.map λ p=>(cellsOf (aev q p.2)).map (bC σ.rw)) 2,U)
       |r::l=>Z (.sl k (parts.toList.map λ p=>(cellsOf (aev q p.2)).map (bC σ.rw)) 2,Z {σ with rw:=frz σ.rw (r::l),wrr:=(r::l)++σ.wrr})
     |Y=>U
   |_=>U
 |.load t a=>match C.ty t with
   |Z d=>match dN d σ (aev q a)with
     |Z x=>Z (x,U)
     |U=>U
   |U=>U
 |.store t a x=>match C.ty t,aev q a with
   |Z d,.ptr b o=>match σ.bx[b]? with
     |Z cs=>match noMc cs&&J (I (cellsOf (aev q x))=d.size)&&J (o+d.size<=I cs)&&(cellsOf (aev q x)).all isC with
       |O=>Z (undefA',Z {σ with bx:=σ.bx.set b (cs.take o++(cellsOf (aev q x)++cs.drop (o+d.size))),wr:=b::σ.wr})
       |Y=>U
     |U=>U
   |Z d,.rpt r i o u=>match σ.rw[r]? with
     |Z R=>match ya R i o u d.size (cellsOf (aev q x))with
       |Z R'=>Z (undefA',Z {σ with rw:=σ.rw.set r R',wrr:=r::σ.wrr})
       |U=>U
     |U=>U
   |_,_=>U
 |.makeSlice t n m=>match C.ty t,aev q n,aev q m with
   |Z ⟨_,_,_,_,.slice _ k bytes z⟩,.v (.int _ a),.v (.int _ b)=>match J (a=b/\0<=a/\a.toNat*bytes<=2^47/\a.toNat<2^62/\0<k/\I z=k)&&z.all bQ&&(z.map .v).all br with
     |O=>match bN a.toNat 0 with
       |O=>Z (.sl k [] 2,U)
       |Y=>Z (.rs (I σ.rw) 0 a.toNat 0 Y,Z {σ with rw:=σ.rw++[⟨k,List.replicate a.toNat (z.map .v),0,0,Y⟩]})
     |Y=>U
   |_,_,_=>U
 |.nilCheck x=>match aev q x with
   |.ptr b o=>Z (.ptr b o,U)
   |.rpt r i o u=>Z (.rpt r i o u,U)
   |.ept cs o=>Z (.ept cs o,U)
   |_=>U
 |.binOp op t x y _=>match aev q x,aev q y with
   |.v (.bool a),.v (.bool b)=>match op,C.ty t with
     |.eql,Z ⟨_,_,_,_,.bool⟩=>Z (.v (.bool (eE a b)),U)
     |.neq,Z ⟨_,_,_,_,.bool⟩=>Z (.v (.bool (au (eE a b))),U)
     |_,_=>U
   |.v (.pointer U),.v (.pointer U)=>match op,C.ty t with
     |.eql,Z ⟨_,_,_,_,.ptr⟩=>Z (.v (.bool O),U)
     |.neq,Z ⟨_,_,_,_,.ptr⟩=>Z (.v (.bool Y),U)
     |_,_=>U
   |.v a,.v b=>match sO op a b with
     |Z z=>Z (.v z,U)
     |U=>U
   |a,b=>match Ax a&&A9 b,op,C.ty t with
     |O,.eql,Z ⟨_,_,_,_,.ptr⟩=>Z (.v (.bool Y),U)
     |O,.neq,Z ⟨_,_,_,_,.ptr⟩=>Z (.v (.bool O),U)
     |_,_,_=>U
 |.unOp op _ x=>match aev q x with
   |.v a=>match unA op a with
     |Z z=>Z (.v z,U)
     |U=>U
   |_=>U
 |.convert s d x=>match C.ty s,C.ty d,aev q x with
   |Z _,Z ⟨_,_,_,_,.int k⟩,.v (.int _ n)=>Z (.v (.int k (iw k n)),U)
   |Z _,Z ⟨_,_,_,_,.string⟩,.v (.string s)=>Z (.v (.string s),U)
   |Z ⟨_,_,_,_,.string⟩,Z ⟨_,_,_,_,.slice e 1 _ _⟩,.v (.string b)=>match sQ (C.ty e)with
     |O=>Z (.rs (I σ.rw) 0 b.size 0 Y,Z {σ with rw:=σ.rw++[⟨1,me b,0,0,Y⟩]})
     |Y=>U
   |Z ⟨_,_,_,_,.slice e 1 _ _⟩,Z ⟨_,_,_,_,.string⟩,y=>match sQ (C.ty e),elems σ.rw 1 y with
     |O,Z w=>match xU w with
       |Z l=>Z (.v (.string ⟨l.toArray⟩),U)
       |U=>U
     |_,_=>U
   |_,_,_=>U
 |.makeFunc (.func f) A cs=>match V A with
   |[]=>Z (.fn f (cs.toList.map (aev q)),U)
   |_=>U
 |.slice t x lo F U=>match C.ty t,aev q x with
   |Z ⟨_,_,_,_,.string⟩,.v (.string s)=>match iK (qN s) (qN s) (F.map (aev q))with
     |Z h=>match iK 0 h (lo.map (aev q))with
       |Z l=>Z (.v (.string (Bf s l h)),U)
       |U=>U
     |U=>U
   |Z ⟨_,_,_,_,.slice _ k _ _⟩,.sl H w f=>match bN H k&&pos f with
     |O=>match iK (fR w) (fR w) (F.map (aev q))with
       |Z h=>match iK 0 h (lo.map (aev q))with
         |Z l=>Z (.sl k (Ht w l h) (lvS f (bN h (fR w))),U)
         |U=>U
       |U=>U
     |Y=>U
   |Z ⟨_,_,_,_,.slice _ _ _ _⟩,.v (.slice U 0 0)=>match iK 0 0 (F.map (aev q))with
     |Z h=>match iK 0 h (lo.map (aev q))with
       |Z _=>Z (.v (.slice U 0 0),U)
       |U=>U
     |U=>U
   |Z ⟨_,_,_,_,.slice _ k _ _⟩,.rs r o n u _=>match iK n n (F.map (aev q)),σ.rw[r]? with
     |Z h,Z R=>match iK 0 h (lo.map (aev q))with
       |Z l=>match bN h n,G7 R k o n u l with
         |O,Z R'=>Z (.rs r 0 (n-l) (u+1) Y,Z {σ with rw:=σ.rw.set r R',wrr:=r::σ.wrr})
         |_,_=>U
       |U=>U
     |_,_=>U
   |_,_=>U
 |.fieldAddr t x i=>match C.ty t with
   |Z ⟨_,_,_,_,.struct A⟩=>match A[i]? with
     |Z (off,size,_)=>match size with
       |0=>U
       |_+1=>match aev q x with
         |.ptr b o=>Z (.ptr b (o+off),U)
         |.rpt r j o u=>Z (.rpt r j (o+off) u,U)
         |.ept cs o=>Z (.ept cs (o+off),U)
         |_=>U
     |U=>U
   |_=>U
 |.field t x i=>match C.ty t,aev q x with
   |Z ⟨_,_,_,_,.struct A⟩,.agg cs=>match A[i]? with
     |Z (off,size,g)=>match mj g size cs off with
       |Z y=>Z (y,U)
       |U=>U
     |U=>U
   |_,_=>U
 |.indexAddr t x i=>match C.ty t,aev q i with
   |Z ⟨_,_,_,_,.slice _ k _ _⟩,.v (.int _ j)=>match aev q x with
     |.sl H w _=>match bN H k with
       |O=>match Hv w j with
         |Z cs=>Z (.ept cs 0,U)
         |U=>U
       |Y=>U
     |.rs r lo n u _=>match σ.rw[r]? with
       |Z R=>match MP R k lo n u j with
         |Z p=>Z (.rpt r p 0 u,U)
         |U=>U
       |U=>U
     |_=>U
   |Z ⟨_,_,_,_,.array n _ k⟩,.v (.int _ j)=>match aev q x with
     |.ptr b o=>match J (0<=j/\j<(n:Int))with
       |O=>Z (.ptr b (o+j.toNat*k),U)
       |Y=>U
     |_=>U
   |_,_=>U
 |.index t x i=>match C.ty t,aev q x,aev q i with
   |Z ⟨_,_,_,_,.string⟩,.v (.string s),.v (.int _ j)=>match Hq s j with
     |Z b=>Z (.v (.int .u8 b),U)
     |U=>U
   |_,_,_=>U
 |.extract x i=>match aev q x with
   |.tup vs=>match vs[i]? with
     |Z y=>Z (y,U)
     |U=>U
   |_=>U
 |.makeMap t U=>match C.ty t with
   |Z ⟨_,_,_,_,.map D E B _ _⟩=>Z (.mp (I σ.bx),Z {σ with bx:=σ.bx++[[.mc D E B [] []]]})
   |_=>U
 |.lookup t x k M=>match C.ty t with
   |Z ⟨_,_,_,_,.map D E B L G⟩=>match vF σ D E B (aev q x),vm D E (aev q k)&&(G.all bQ&&J (I G=L)&&(B||J (L=1)))with
     |Z (_,ks,vs),O=>match yb D B G ks vs (cellsOf (aev q k))with
       |Z (v,b)=>Z (match M with|O=>.tup [v,.v (.bool b)]|Y=>v,U)
       |U=>U
     |_,_=>U
   |_=>U
 |.mapUpdate t x k v|.insert t x k v=>ma C q σ t x k v
 |_=>U
where undefA':AV:=.tup []
def eG(k bytes:Nat)(σ:St)(s:AV)(xs:aa (aa AV)):ac (AV×ac St):=
 match s with
 |.v (.slice U 0 0)=>match bN (fR xs) 0 with
   |O=>Z (.v (.slice U 0 0),U)
   |Y=>match rowNew k bytes xs with
     |Z (R,n)=>Z (.rs (I σ.rw) 0 n 0 Y,Z {σ with rw:=σ.rw++[R]})
     |U=>U
 |.sl c a f=>match bN (fR xs) 0 with
   |O=>match pos f with
     |O=>Z (.sl c a f,U)
     |Y=>U
   |Y=>match J (1<f)&&bN c k&&uni k a with
     |O=>match rowNew k bytes (oC a xs)with
       |Z (R,n)=>Z (.rs (I σ.rw) 0 n 0 Y,Z {σ with rw:=σ.rw++[R]})
       |U=>U
     |Y=>U
 |.rs r lo n b f=>match bN (fR xs) 0 with
   |O=>Z (.rs r lo n b f,U)
   |Y=>match σ.rw[r]? with
     |Z R=>match yc R k lo n b f bytes xs with
       |Z (R',m)=>Z (.rs r 0 m (b+1) Y,Z {σ with rw:=σ.rw.set r R',wrr:=r::σ.wrr})
       |U=>U
     |U=>U
 |_=>U
def om:TK->Bool
 |.slice .. => O
 |_=>Y
def zQ:TK->Bool
 |.string=>O
 |_=>Y
def mE(d:TD):AV->ac Nat
 |.v (.string s)=>match zQ d.k with|O=>Z (qN s)|Y=>U
 |.v (.slice U 0 0)=>match om d.k with|O=>Z 0|Y=>U
 |.sl _ a _=>match om d.k with|O=>Z (fR a)|Y=>U
 |.rs _ _ n _ _=>match om d.k with|O=>Z n|Y=>U
 |_=>U
def Ho(k:TK)(σ:St)(x:AV):ac Nat:=match k with
 |.map b c a _ _=>match vF σ b c a x with
   |Z (_,ks,_)=>Z (I ks)
   |U=>U
 |_=>U
def iA(C:Cfg)(σ:St)(b:Builtin)(ts:aM aO)(c:aa AV):ac (AV×ac St):=
 match b,c with
 |.len,[x]=>match ts[0]? with
   |Z t=>match C.ty t with
     |Z d=>match mE d x with
       |Z n=>Z (.v (.int .i64 n),U)
       |U=>match Ho d.k σ x with
         |Z n=>Z (.v (.int .i64 n),U)
         |U=>U
     |U=>U
   |U=>U
 |.append,[s,x]=>match ts[0]?,ts[1]? with
   |Z t,Z u=>match C.ty t,C.ty u with
     |Z ⟨_,_,_,_,.slice _ k bytes z⟩,Z ⟨_,_,_,_,.slice _ _ _ _⟩=>match J (0<k)&&J (I z=k)with
       |O=>match elems σ.rw k x with
         |Z xs=>match uni k xs with
           |O=>eG k bytes σ s xs
           |Y=>U
         |U=>U
       |Y=>U
     |Z ⟨_,_,_,_,.slice e 1 bytes z⟩,Z ⟨_,_,_,_,.string⟩=>match J (I z=1)&&sQ (C.ty e),x with
       |O,.v (.string b)=>eG 1 bytes σ s (me b)
       |_,_=>U
     |_,_=>U
   |_,_=>U
 |.max,[.v (.int k a),.v (.int f b)]=>match J (k=f)with|O=>Z (.v (.int k (pw a b)),U)|Y=>U
 |.min,[.v (.int k a),.v (.int f b)]=>match J (k=f)with|O=>Z (.v (.int k (NU a b)),U)|Y=>U
 |_,_=>U
inductive Ex where
 |normal|exit (id:Nat)|ret
 deriving DecidableEq
def vC(σ:St)(a:AV)(σ':St):Bool:=
 refs (I σ.bx) (I σ.rw) (nz (I σ.rw) σ'.rw a)||(σ'.wr.filter λ b=>J (b<I σ.bx)).any λ b=>(σ'.bx.getD b []).any (refs (I σ.bx) (I σ.rw))
def mV(σ:St)(a:AV)(σ':St):AV×ac St:=
 match vC σ a σ' with
 |O=>(a,Z {σ' with wr:=σ'.wr.filter λ b=>J (b<I σ.bx),wrr:=σ'.wrr.filter λ b=>J (b<I σ.rw)})
 |Y=>match(σ'.wr.filter λ b=>J (b<I σ.bx))++σ'.wrr.filter λ b=>J (b<I σ.rw)with
   |[]=>(nz (I σ.rw) σ'.rw a,U)
   |_::_=>(nz (I σ.rw) σ'.rw a,Z ⟨σ'.bx.take (I σ.bx),σ'.rw.take (I σ.rw),σ'.wr.filter λ b=>J (b<I σ.bx),σ'.wrr.filter λ b=>J (b<I σ.rw)⟩)
def xt(C:Cfg)(b:aa AV)(σ:St):ResultVar->ac AV
 |.tmp t=>Z (b.getD t .dead)
 |.cell a t=>match C.ty t with
   |Z d=>dN d σ (b.getD a .dead)
   |U=>U
def jH(C:Cfg)(a:aa AV)(σ:St):aa ResultVar->ac (aa AV)
 |[]=>Z []
 |r::l=>match xt C a σ r with
   |Z x=>match jH C a σ l with
     |Z xs=>Z (x::xs)
     |U=>U
   |U=>U
def cN:aa AV->AV
 |[x]=>x
 |l=>.tup l
def od(C:Cfg)(fn:Func)(s:S):ac AV:=
 match jH C s.tm s.σ (V fn.results) with
 |Z l=>Z (cN l)
 |U=>U
abbrev dQ:=Code->S->ac (Ex×S)
def ql(fn:Func)(σ:St)(a:aa AV):S:=⟨a++List.replicate (fn.ntmps-I a) .dead,{σ with wr:=[],wrr:=[]}⟩
def sa(C:Cfg)(fn:Func)(σ:St)(a:S):ac (AV×ac St):=
 match od C fn a with
 |Z r=>Z (mV σ r a.σ)
 |U=>U
def ju(C:Cfg)(ex:dQ)(σ:St)(f:dm)(a:aa AV):ac (AV×ac St):=
 match C.prim f with
 |Z p=>p σ a
 |U=>match C.fn f with
   |U=>U
   |Z fn=>match fn.body with
     |U=>U
     |Z c=>match ex c (ql fn σ a)with
       |Z (.ret,b)|Z (.normal,b)=>sa C fn σ b
       |_=>U
def aB(l:aa Nat):aa Nat->aa Nat
 |[]=>[]
 |b::a=>match l.contains b with
   |O=>aB l a
   |Y=>b::aB (b::l) a
def xK(a:aa (aa AV)):Nat->aa Nat->aa Nat
 |0,l=>l
 |n+1,l=>match aB l (l.flatMap λ b=>rbL (a.getD b []))with
   |[]=>l
   |b::c=>xK a n (l++(b::c))
def dP(σ:St)(a:aa AV):aa Nat:=xK σ.bx (I σ.bx) (aB [] (rbL a))
def gD(σ:St)(a:aa AV):aa Nat:=aB [] (rrL a++(dP σ a).flatMap λ b=>rrL (σ.bx.getD b []))
def nd:aa Nat->Bool
 |[]=>O
 |b::l => !l.contains b&&nd l
def ng(σ:St)(a:aa AV):Bool:=
 nd (dP σ a)&&nd (gD σ a) &&   (rbL a).all (λ b=>(dP σ a).contains b)&&(rrL a).all (λ r=>(gD σ a).contains r)&&(dP σ a).all (λ b=>J (b<I σ.bx)&&(rbL (σ.bx.getD b [])).all (λ b=>(dP σ a).contains b)&&(rrL (σ.bx.getD b [])).all λ r=>(gD σ a).contains r)&&(gD σ a).all λ r=>J (r<I σ.rw)
def bO(σ:St)(c a:aa Nat):St:=
 ⟨c.map λ b=>bB (λ b=>c.idxOf b) (λ r=>a.idxOf r) (σ.bx.getD b []),a.map λ r=>σ.rw.getD r ⟨0,[],0,0,Y⟩,[],[]⟩
def cM(l:aa Nat)(n i:Nat):Nat:=match l[i]? with
 |Z b=>b
 |U=>n+(i-I l)
def dv{α:Type}(l:aa α):aa Nat->aa α->aa α
 |[],xs=>l++xs
 |_,[]=>l
 |b::a,x::xs=>dv (l.set b x) a xs
def qp(σ:St)(b a:aa Nat)(σ':St):St:=
 ⟨dv σ.bx b (σ'.bx.map (bB (cM b (I σ.bx)) (cM a (I σ.rw)))),dv σ.rw a σ'.rw,σ'.wr.map (cM b (I σ.bx))++σ.wr,σ'.wrr.map (cM a (I σ.rw))++σ.wrr⟩
def oA(σ:St)(b a:aa Nat):AV×ac St->AV×ac St
 |(r,U)=>(ren (cM b (I σ.bx)) (cM a (I σ.rw)) r,U)
 |(r,Z σ')=>(ren (cM b (I σ.bx)) (cM a (I σ.rw)) r,Z (qp σ b a σ'))
def pt(C:Cfg)(σ:St)(f:dm)(a:aa AV):aa AV×ac St:=
 match C.raw f with
 |O=>(a,U)
 |Y=>match a.flatMap rsA with
   |[]=>(a.map (cS σ.rw),U)
   |r::l=>(a.map (cS σ.rw),Z {σ with rw:=frz σ.rw (r::l),wrr:=(r::l)++σ.wrr})
def fd(σ:St)(a:aa AV)(c:St->aa AV->ac (AV×ac St)):ac (AV×ac St):=
 match ng σ a with
 |O=>match c (bO σ (dP σ a) (gD σ a)) (bB (λ b=>(dP σ a).idxOf b) (λ r=>(gD σ a).idxOf r) a)with
   |Z r=>Z (oA σ (dP σ a) (gD σ a) r)
   |U=>U
 |Y=>U
def isV:AV->Bool
 |.v _=>O
 |_=>Y
def rY:AV->Bool
 |.tup vs=>vs.all isV
 |x=>isV x
def xL(a:aa AV)(σ:St):ac (AV×ac St)->ac (AV×ac St)
 |Z (r,U)=>match rY r&&(rbL a).isEmpty&&(rrL a).isEmpty with
   |O=>Z (r,U)
   |Y=>Z (r,Z σ)
 |r=>r
def mW(C:Cfg)(ex:dQ)(σ:St)(f:dm)(a:aa AV):ac (AV×ac St):=
 match pt C σ f a with
 |(a,U)=>fd σ a λ σ a=>ju C ex σ f a
 |(a,Z σ')=>xL a σ' (fd σ' a λ σ a=>ju C ex σ f a)
def dO(x:AV):Bool:=(rb x).isEmpty&&(rr x).isEmpty
def noRefs(xs:aa AV):Bool:=xs.all dO
def yo(C:Cfg)(ex:dQ)(σ:St)(fn:Func)(a:aa AV):ac (AV×ac St):=match fn.body with
 |U=>U
 |Z c=>match ex c ⟨a++List.replicate (fn.ntmps-I a) .dead,σ⟩with
   |Z (.exit _,_)=>U
   |Z (_,b)=>match od C fn b with
     |Z r=>Z (r,Z b.σ)
     |U=>U
   |U=>U
def mX(C:Cfg)(ex:dQ)(σ:St)(f:dm)(a:aa AV):ac (AV×ac St):=
 match C.lo f with
 |O=>match C.inl f with
   |Z fn=>yo C ex σ fn a
   |U=>mW C ex σ f a
 |Y=>match C.raw f,noRefs (a.map (cS σ.rw))with
   |Y,O=>match mW C ex σ f a with
     |Z (r,o)=>match dO r with
       |O=>Z (r,o)
       |Y=>U
     |U=>U
   |_,_=>U
def rR(b:aa AV):Callee->ac (dm×aa AV)
 |.value f=>match aev b f with
   |.fn f a=>Z (f,a)
   |_=>U
 |_=>U
def opA(C:Cfg)(ex:dQ)(d:aa AV)(σ:St)(op:Op):ac (AV×ac St):=
 match op with
 |.call c=>match c.callee with
   |.builtin b=>iA C σ b c.argTypes (c.args.toList.map (aev d))
   |e=>match rR d e with
     |Z (f,a)=>mX C ex σ f (c.args.toList.map (aev d)++a)
     |U=>U
 |op=>aC C d σ op
def dh(ops:aM Oper)(c:aa AV)(o:Oper):ac Bool:=
 match o.guard with
 |U=>Z O
 |Z (j,a)=>match(ops[j]?).bind (·.dst)with
   |U=>U
   |Z d=>match c.getD d .dead with
     |.v (.bool b)=>Z (eE b a)
     |.tup []=>Z Y
     |_=>U
def ic(a:aa AV):ac Tmp->AV->aa AV
 |U,_=>a
 |Z d,x=>a.set d x
def xH:AV:=.tup []
def cQ(b:Nat->Bool):Op->Bool
 |.store ..|.mapUpdate ..|.insert ..|.makeMap .. => O
 |.call {callee:=.builtin .append,.. }=>O
 |.call {callee:=.value (.func f),.. }=>b f
 |_=>Y
def turn(σ:St):ac St->St
 |U=>σ
 |Z σ'=>σ'
def iC:Op->Bool
 |.load .. |.store .. |.indexAddr .. |.convert .. |.lookup .. |.mapUpdate .. |.insert .. => O
 |.call {callee:=.builtin .max,.. }|.call {callee:=.builtin .min,.. }=>Y
 |.call _=>O
 |_=>Y
def dM(o:Oper):aa Nat:=(o.after.toList.filter (Region.binds .any)).map (·.on)
def Av(a:aa Nat)(o:Oper):Nat:=(dM o).foldl (λ m e=>m|||(2^e|||a.getD e 0)) 0
def fO:aa Oper->aa Nat->aa Nat
 |[],a=>a
 |o::r,a=>fO r (a++[Av a o])
def iZ(ops:aM Oper)(o:Oper):aa Tmp:=
 o.dst.toList++(o.op.operands.toList.filterMap λ|.tmp t=>Z t|_=>U)++match o.guard with
  |U=>[]
  |Z (j,_)=>((ops[j]?).bind (·.dst)).toList
def sD(t:Tmp)(o:Oper):Bool:=match o.dst with
 |Z d=>Nat.beq d t
 |U=>Y
def oY(ops:aa Oper)(t:Tmp):aa (Oper×Nat):=ops.zipIdx.filter λ p=>sD t p.1
def OJ:Op->ac Tmp
 |.fieldAddr _ (.tmp u) _|.move (.tmp u)|.assign (.tmp u)|.nilCheck (.tmp u)=>Z u
 |_=>U
def sG(ops:aM Oper):Nat->Nat->Tmp->ac Tmp
 |0,_,_=>U
 |n+1,k,t=>match oY (V ops) t with
   |[]=>Z t
   |[(o,i)]=>match OJ o.op,J (i<k)with
     |Z u,O=>sG ops n i u
     |_,_=>U
   |_=>U
def Hg(ops:aM Oper)(k:Nat)(t:Tmp):ac Tmp:=sG ops 6 k t
def eI(a:aa AV)(ops:aM Oper)(k:Nat)(t:Tmp):ac Nat:=match Hg ops k t with
 |Z u=>match a.getD u .dead with
   |.ptr b _=>Z b
   |_=>U
 |U=>U
def ND:AV->Bool
 |.rpt ..|.ept .. => O
 |_=>Y
def na(a:aa AV)(ops:aM Oper)(k:Nat)(t:Tmp):Bool:=match Hg ops k t with
 |Z u=>ND (a.getD u .dead)
 |U=>Y
def si(c:aa AV)(ops:aM Oper)(j:Nat)(o:Oper)(i:Nat)(q:Oper):Bool:=match o.op,q.op with
 |.store _ (.tmp a) _,.load _ (.tmp b)=>match eI c ops j a,eI c ops i b with
   |Z x,Z y => !Nat.beq x y
   |Z _,U=>na c ops i b
   |_,_=>Y
 |.call ⟨.builtin .append,_,_⟩,.load _ (.tmp b)|.call ⟨.value _,_,_⟩,.load _ (.tmp b)=>(eI c ops i b).isSome
 |_,_=>Y
def pg(a:aa AV)(ops:aM Oper)(j:Nat)(o:Oper)(i:Nat)(q:Oper):Bool:=si a ops j o i q||si a ops i q j o
def GQ(C:Cfg)(c:aa AV)(σ:St):Op->aa Nat
 |.call ⟨.value g,as,_⟩=>match rR c (.value g)with
   |Z (f,b)=>match C.inl f with
     |Z _=>List.range (I σ.bx)
     |U=>match pt C σ f (as.toList.map (aev c)++b)with
       |(a,U)=>dP σ a
       |(a,Z σ')=>dP σ' a
   |U=>[]
 |_=>[]
def Mf:Op->Bool
 |.call ⟨.value _,_,_⟩=>O
 |_=>Y
def ml(C:Cfg)(ops:aM Oper)(j:Nat)(b:aa AV)(σ:St)(op:Op):Bool := !Mf op||ops.toList.zipIdx.all λ(q,i)=>match q.op with
 |.load _ (.tmp a)=>((fO (V ops) []).getD (max i j) 0).testBit (min i j)||match eI b ops i a with
   |Z y=>J (y<I σ.bx) && !(GQ C b σ op).contains y
   |U=>Y
 |_=>O
def cY(C:Cfg)(ex:dQ)(ops:aM Oper)(b:Bool):aa Oper->S->ac S
 |[],s=>Z s
 |o::a,s=>match dh ops s.tm o with
   |Z O=>match opA C ex s.tm s.σ o.op with
     |Z (x,U)=>cY C ex ops b a ⟨ic s.tm o.dst x,s.σ⟩
     |Z (x,Z σ')=>match b && !(cQ C.lo o.op&&ml C ops (ops.size-(I a+1)) s.tm s.σ o.op)with
       |O=>U
       |Y=>cY C ex ops b a ⟨ic s.tm o.dst x,σ'⟩
     |U=>U
   |Z Y=>cY C ex ops b a ⟨ic s.tm o.dst xH,s.σ⟩
   |U=>U
def sX:Op->Bool
 |.makeMap _ _=>O
 |_=>Y
def sw(a:Nat->Bool):Op->Bool
 |.load .. |.indexAddr .. => O
 |.call ⟨.value (.func f),_,_⟩ => !a f
 |_=>Y
def vj(a:Nat->Bool)(o q:Oper):Bool:=cQ a o.op&&((iC q.op||cQ a q.op) && !(sX o.op&&sw a q.op))
def vq(a:Nat->Bool)(o q:Oper):Bool:=vj a o q||vj a q o
def nD(a:Nat->Bool)(b:aa AV)(ops:aM Oper)(j:Nat)(o:Oper)(i:Nat)(q:Oper):Bool:=
 (match q.dst with|Z d=>(iZ ops o).contains d|U=>Y)||(vq a o q && !pg b ops j o i q)
def lm(a:Nat->Bool)(c:aa AV)(ops:aM Oper):Bool:=
 let b:=fO (V ops) []
 ops.toList.zipIdx.all λ(o,j)=>((dM o).all λ e=>J (e<j))&&ops.toList.zipIdx.all λ(q,i)=>
  decide (i=j) || !nD a c ops j o i q||(b.getD (max i j) 0).testBit (min i j)
def vy(a:Nat->Bool)(ops:aM Oper)(o q:Oper):Bool:=
 (match q.dst with|Z d=>(iZ ops o).contains d|U=>Y)||(cQ a o.op&&cQ a q.op)
def oi(a:Nat->Bool)(ops:aM Oper):Bool:=
 let b:=fO (V ops) []
 ops.toList.zipIdx.all λ(o,j)=>((dM o).all λ e=>J (e<j))&&ops.toList.zipIdx.all λ(q,i)=>
  decide (i=j) || !vy a ops o q||(b.getD (max i j) 0).testBit (min i j)
def mq(b:Nat->Bool)(c:aa AV)(ops:aM Oper)(a:Bool):Bool:=match a with
 |O=>lm b c ops
 |Y=>O
def stP(o:Oper):ac (Tmp×bw):=match o.op with
 |.store _ (.tmp a) v=>match o.guard,o.dst with
   |U,U=>Z (a,v)
   |_,_=>U
 |_=>U
def ixP(o:Oper):ac Tmp:=match o.op with
 |.indexAddr _ _ _=>match o.guard,o.dst with
   |U,Z d=>Z d
   |_,_=>U
 |_=>U
def Hn(d:Tmp):bw->Bool
 |.tmp t => !Nat.beq t d
 |_=>O
def wa:Nat->Nat->Bool
 |0,_=>O
 |k+1,b=>b.testBit k&&wa k b
def M3(a:aa Nat)(m:Nat)(p o q:Oper):Bool:=((dM p).all λ e=>Nat.blt e m)&&(((dM o).all λ e=>Nat.blt e (m+1))&&(((dM q).all λ e=>Nat.blt e m)&&(wa m (a.getD m 0)&&(wa (m+1) (a.getD (m+1) 0)&&wa m (a.getD (m+2) 0)))))
def Yz(c:aa Nat)(n:Nat):aa Oper->ac Tmp
 |[p,o,q]=>match ixP p,stP o,stP q with
   |Z d,Z a,Z b=>match(Nat.beq a.1 d&&(!Nat.beq b.1 d&&Hn d b.2))&&M3 c n p o q with
     |O=>Z b.1
     |Y=>U
   |_,_,_=>U
 |_=>U
def oz(ops:aM Oper):aa Oper:=ops.toList.drop (I (V ops)-3)
def jL(ops:aM Oper):aM Oper:=⟨ops.toList.take (I (V ops)-3)⟩
def qL(ops:aM Oper)(a:Bool):ac Tmp:=match a with
 |O=>Yz (fO (V ops) []) (I (V ops)-3) (oz ops)
 |Y=>U
def yq:AV->Bool
 |.ptr _ _=>O
 |_=>Y
def Nk(a:aa AV)(ops:aM Oper):Bool:=match oz ops with
 |p::_=>match p.op with
   |.indexAddr _ u _ => !yq (aev a u)
   |_=>Y
 |[]=>Y
def vY(a:aa AV)(ops:aM Oper)(p:Tmp):Bool:=yq (a.getD p .dead)&&Nk a ops
def bT(o:Oper):Bool:=match o.op with
 |.alloc _=>O
 |_=>Y
def sj(ops:aM Oper)(a:Bool):Bool:=a&&ops.toList.any bT
def Ow(ops:aa Oper)(o:Oper):Bool := !bT o&&ops.any λ q=>bT q&&match q.dst with
 |Z d=>(iZ ⟨ops⟩ o).contains d
 |U=>Y
def Hw(ops:aa Oper):aa Oper->Nat
 |[]=>0
 |o::r=>match Ow ops o with
   |O=>0
   |Y=>Hw ops r+1
def ia(_:Nat->Bool)(ops:aa Oper):Nat:=Hw ops ops
def eJ(o:Oper):Oper:=match bT o with
 |O=>{o with op:=.move (.global 0)}
 |Y=>o
def bo(lo:Nat->Bool)(ops:aa Oper):aa Oper:=(ops.take (ia lo ops)).map eJ
def alL(lo:Nat->Bool)(ops:aa Oper):aa Oper:=(ops.take (ia lo ops)).filter bT
def sL(lo:Nat->Bool)(ops:aa Oper):aa Oper:=ops.drop (ia lo ops)
def qn(ops:aa Oper)(o:Oper):Bool:=(!iC o.op && !sX o.op)&&(!bT o&&ops.all λ q => !bT q||match q.dst with
 |Z d => !(iZ ⟨ops⟩ o).contains d
 |U=>O)
def vV:Op->Bool
 |.load .. |.indexAddr .. => O
 |_=>Y
def xV(ops:aa Oper)(o:Oper):Bool:=vV o.op && !Ow ops o
def AT(ops:aa Oper)(o:Oper):Bool:=match o.op with
 |.store _ (.tmp a) _=>ops.any λ q=>bT q&&sD a q
 |_=>Y
def iV(ops:aa Oper)(o:Oper):Bool:=qn ops o||xV ops o
def rX(lo:Nat->Bool)(ops:aa Oper):Bool:=
 let b:=fO ops []
 ops.zipIdx.all λ(o,j)=>((dM o).all λ e=>J (e<j))&&((Nat.blt j (ia lo ops)||(List.range j).all λ i=>(b.getD j 0).testBit i||(Nat.blt i (ia lo ops)&&match ops[i]? with
  |Z q=>qn ops q||(xV ops q&&AT ops o)
  |U=>Y))&&(!bT o||(o.guard.isNone&&match o.dst with
  |Z d=>Nat.beq (I (oY ops d)) 1
  |U=>Y)))
def iD:Code->Bool
 |.seq a b|.cond _ a b=>iD a&&iD b
 |.block _ b|.loop b=>iD b
 |_=>O
def io(s:S)(t:Nat):S:=match rsA (s.tm.getD t .dead)with
 |[]=>s
 |r::l=>⟨s.tm.set t (cS s.σ.rw (s.tm.getD t .dead)),{s.σ with rw:=frz s.σ.rw (r::l),wrr:=(r::l)++s.σ.wrr}⟩
def kH(ts:aa Nat)(s:S):S:=ts.foldl io s
def jJ(C:Cfg)(ex:dQ):dQ
 |.skip,s|.label _,s=>Z (.normal,s)
 |.region _ ops d,s=>match sj ops d with
   |O=>match rX C.lo (V ops)&&(oi C.lo ops&&mq C.lo s.tm ⟨bo C.lo (V ops)⟩ O),cY C ex ⟨bo C.lo (V ops)⟩ O (bo C.lo (V ops)) s with
     |O,Z f=>match cY C ex ops Y (alL C.lo (V ops)) f with
       |Z g=>match cY C ex ops O (sL C.lo (V ops)) g with
         |Z e=>Z (.normal,e)
         |U=>U
       |U=>U
     |_,_=>U
   |Y=>match qL ops d with
     |Z p=>match mq C.lo s.tm (jL ops) O,cY C ex (jL ops) O (V (jL ops)) s with
       |O,Z f=>match vY f.tm ops p,cY C ex ops O (oz ops) f with
         |O,Z e=>Z (.normal,e)
         |_,_=>U
       |_,_=>U
     |U=>match mq C.lo s.tm ops d,cY C ex ops d (V ops) s with
       |O,Z e=>Z (.normal,e)
       |_,_=>U
 |.seq a b,s=>match ex a s with
   |Z (.normal,e)=>ex b e
   |r=>r
 |.cond c x y,s=>match aev s.tm c with
   |.v (.bool O)=>ex x s
   |.v (.bool Y)=>ex y s
   |_=>U
 |.block id b,s=>match ex b s with
   |Z (.exit i,e)=>Z (if i=id then .normal else .exit i,e)
   |r=>r
 |.loop b,s=>match ex b (kH (C.pur b) s)with
   |Z (.normal,e)=>ex (.loop b) e
   |r=>r
 |.exit id,s=>Z (.exit id,s)
 |.ret,s=>Z (.ret,s)
 |_,_=>U
def eA(C:Cfg):Nat->dQ
 |0=>λ _ _=>U
 |n+1=>jJ C (eA C n)
section
open RowKit
structure Gh where
 mem:Nat->Nat->Option ah
 nb:Nat
 β:Nat->Nat
 nr:Nat
 ver:Nat->Nat
 k:Nat->Nat
 cur:Nat->Nat
 sz:Nat->Nat
 of:Nat->Nat
inductive Rep (Γ:Gh):AV->ah->Prop
 |v (x:ah) (h:bQ x=O):Rep Γ (.v x) x
 |dead (u:ah):Rep Γ .dead u
 |sl (k:Nat) (es:List (List AV)) (f:Nat) (a:Option Addr) (n cap b o:Nat) (us:Nat->Nat->ah) (hn:n=es.length) (hc:0<f->n<=cap) (hf:1<f->cap=n) (hk:∀e∈es,e.length=k) (hp:∀e∈es,∀x∈e,br x=O) (h0:0<k)
  (ha:es=[]\/a=Z ⟨b,o,U⟩) (hm:∀(i:Nat) (e:List AV) (j:Nat) (x:AV),es[i]?=Z e->e[j]?=Z x->Γ.mem b (o+i*k+j)=Z (us i j))
  (hr:∀(i:Nat) (e:List AV) (j:Nat) (x:AV),es[i]?=Z e->e[j]?=Z x->Rep Γ x (us i j)):Rep Γ (.sl k es f) (.slice a n cap)
 |rs (r lo n ep:Nat) (f:Bool) (a:Option Addr) (cap:Nat) (hr:r<Γ.nr) (hv:ep<=Γ.ver r) (hc:n<=cap) (hf:f=O->cap=n)
  (hl:Γ.ver r=ep->(cap=0\/a=Z ⟨Γ.cur r,Γ.of r+lo*Γ.k r,U⟩)/\Γ.of r+(lo+cap)*Γ.k r<=Γ.sz r):Rep Γ (.rs r lo n ep f) (.slice a n cap)
 |ptr (b o:Nat) (h:b<Γ.nb):Rep Γ (.ptr b o) (.pointer (Z ⟨Γ.β b,o,U⟩))
 |rpt (r i o ep:Nat) (A:Addr) (hr:r<Γ.nr) (hv:ep<=Γ.ver r) (hl:Γ.ver r=ep->A=⟨Γ.cur r,Γ.of r+i*Γ.k r+o,U⟩):Rep Γ (.rpt r i o ep) (.pointer (Z A))
 |ept (cs:List AV) (o b o':Nat) (us:Nat->ah) (hp:∀x∈cs,br x=O) (hm:∀(j:Nat) (x:AV),cs[j]?=Z x->Γ.mem b (o'+j)=Z (us j)) (hr:∀(j:Nat) (x:AV),cs[j]?=Z x->Rep Γ x (us j)):Rep Γ (.ept cs o) (.pointer (Z ⟨b,o'+o,U⟩))
 |fn (f:dm) (cs:List AV) (us:List ah) (hn:us.length=cs.length) (hr:∀(i:Nat) (x:AV) (u:ah),cs[i]?=Z x->us[i]?=Z u->Rep Γ x u):Rep Γ (.fn f cs) (.func (.func f) #[] us.toArray)
 |agg (cs:List AV) (us:List ah) (hn:us.length=cs.length) (h1:∀u∈us,u.oneCell'=O) (hr:∀(i:Nat) (x:AV) (u:ah),cs[i]?=Z x->us[i]?=Z u->Rep Γ x u):Rep Γ (.agg cs) (.agg us.toArray)
 |tup (cs:List AV) (us:List ah) (hn:us.length=cs.length) (hr:∀(i:Nat) (x:AV) (u:ah),cs[i]?=Z x->us[i]?=Z u->Rep Γ x u):Rep Γ (.tup cs) (.tuple us.toArray)
 |mp (b:Nat) (h:b<Γ.nb):Rep Γ (.mp b) (.map (Z (Γ.β b)))
structure RepL (Γ:Gh) (cs:List AV) (us:List ah):Prop where
 len:us.length=cs.length
 rep:∀(i:Nat) (x:AV) (u:ah),cs[i]?=Z x->us[i]?=Z u->Rep Γ x u
structure Le (Γ Γ':Gh):Prop where
 mem:∀b o u,Γ.mem b o=Z u->Γ'.mem b o=Z u
 nb:Γ.nb<=Γ'.nb
 β:∀i,i<Γ.nb->Γ'.β i=Γ.β i
 nr:Γ.nr<=Γ'.nr
 k:∀r,r<Γ.nr->Γ'.k r=Γ.k r
 ver:∀r,r<Γ.nr->Γ.ver r<=Γ'.ver r
 loc:∀r,r<Γ.nr->Γ'.ver r=Γ.ver r->Γ'.cur r=Γ.cur r/\Γ'.sz r=Γ.sz r/\Γ'.of r=Γ.of r
def Le.refl(Γ:Gh):Le Γ Γ:=⟨λ _ _ _ h=>h,al _,λ _ _=>rfl,al _,λ _ _=>rfl,λ _ _=>al _,λ _ _ _=>⟨rfl,rfl,rfl⟩⟩
def Le.trans{a b c:Gh}(h:Le a b)(g:Le b c):Le a c where
 mem:=λ x o u e=>g.mem _ _ _ (h.mem _ _ _ e)
 nb:=bR h.nb g.nb
 β:=λ i f=>(g.β i (cU f h.nb)).trans (h.β i f)
 nr:=bR h.nr g.nr
 k:=λ r d=>(g.k r (cU d h.nr)).trans (h.k r d)
 ver:=λ r d=>bR (h.ver r d) (g.ver r (cU d h.nr))
 loc:=λ r d e=>by
  have t:=h.ver r d;have s:=g.ver r (cU d h.nr);let⟨q,p,n⟩:=h.loc r d (by omega);let⟨m,l,j⟩:=g.loc r (cU d h.nr) (by omega);exact⟨m.trans q,l.trans p,j.trans n⟩
def Rep.mono{Γ Γ':Gh}(d:Le Γ Γ'){x:AV}{u:ah}(h:Rep Γ x u):Rep Γ' x u:=by
 induction h with
 |v x h=>exact .v x h
 |dead u=>exact .dead u
 |sl k K f a n cap b o us m y w F t H G p c g=>exact .sl k K f a n cap b o us m y w F t H G (λ i e j x l z=>d.mem _ _ _ (p i e j x l z)) (λ i e j x l z=>g i e j x l z)
 |rs r lo n B f a cap c s y w q=>
   have l:=d.ver r c;refine .rs r lo n B f a cap (cU c d.nr) (bR s l) y w λ p=>?_;let⟨e1,D,C⟩:=d.loc r c (by omega);rw[e1,D,C,d.k r c];exact q (by omega)
 |ptr b o h=>rw[<-d.β b h];exact .ptr b o (cU h d.nb)
 |rpt r i o B A c s q=>
   have l:=d.ver r c;refine .rpt r i o B A (cU c d.nr) (bR s l) λ p=>?_;let⟨e1,D,C⟩:=d.loc r c (by omega);rw[e1,C,d.k r c];exact q (by omega)
 |ept cs o b E us t p c g=>exact .ept cs o b E us t (λ j x h=>d.mem _ _ _ (p j x h)) g
 |fn f cs us m c g=>exact .fn f cs us m g
 |agg cs us m l c g=>exact .agg cs us m l g
 |tup cs us m c g=>exact .tup cs us m g
 |mp b h=>rw[<-d.β b h];exact .mp b (cU h d.nb)
def RepL.mono{Γ Γ':Gh}(c:Le Γ Γ'){cs:aa AV}{us:aa ah}(h:RepL Γ cs us):RepL Γ' cs us:=⟨h.len,λ i x u a b=>(h.rep i x u a b).mono c⟩
def RepL.nil{Γ:Gh}:RepL Γ [] []:=⟨rfl,λ i x u h=>by simp at h⟩
def RepL.cons{Γ:Gh}{x:AV}{u:ah}{cs:aa AV}{us:aa ah}(h:Rep Γ x u)(t:RepL Γ cs us):RepL Γ (x::cs) (u::us):=by
 refine⟨by simp[t.len],λ i y v a b=>?_⟩;cases i with
 |zero=>simp at a b;subst a;subst b;exact h
 |succ i=>simp at a b;exact t.rep i y v a b
def RepL.uncons{Γ:Gh}{x:AV}{cs:aa AV}{us:aa ah}(h:RepL Γ (x::cs) us):∃u r,us=u::r/\Rep Γ x u/\RepL Γ cs r:=by
 let⟨d,c⟩:=h;cases us with
 |nil=>simp at d
 |cons u r=>exact⟨u,r,rfl,c 0 x u rfl rfl,by simpa using d,λ i y v a b=>c (i+1) y v (by simpa using a) (by simpa using b)⟩
def RepL.nil_inv{Γ:Gh}{us:aa ah}(h:RepL Γ [] us):us=[]:=pH.1 h.len
theorem RepL.get{Γ:Gh}{cs:aa AV}{us:aa ah}(h:RepL Γ cs us){i:Nat}{x:AV}(a:cs[i]?=Z x):∃u,us[i]?=Z u/\Rep Γ x u:=by
 have b:i<I us:=by rw[h.len];exact(dV.1 a).1
 exact⟨us[i],aV b,h.rep i x _ a (aV b)⟩
def RepL.append{Γ:Gh}{a b:aa AV}{u v:aa ah}(h:RepL Γ a u)(g:RepL Γ b v):RepL Γ (a++b) (u++v):=by
 induction a generalizing u with
 |nil=>rw[h.nil_inv];exact g
 |cons x a c=>
   obtain⟨y,r,rfl,e,d⟩:=h.uncons;exact RepL.cons e (c d)
def RepL.take{Γ:Gh}{a:aa AV}{u:aa ah}(h:RepL Γ a u)(n:Nat):RepL Γ (a.take n) (u.take n):=by
 refine⟨by simp[h.len],λ i x w b c=>?_⟩;rw[eX]at b c;split at b
 .next d=>rw[ag d]at c;exact h.rep i x w b c
 .cases b
def RepL.drop{Γ:Gh}{a:aa AV}{u:aa ah}(h:RepL Γ a u)(n:Nat):RepL Γ (a.drop n) (u.drop n):=by
 refine⟨by simp[h.len],λ i x w b c=>?_⟩;rw[mG]at b c;exact h.rep _ x w b c
theorem RepL.set{Γ:Gh}{a:aa AV}{u:aa ah}(h:RepL Γ a u)(n:Nat){x:AV}{y:ah}(d:Rep Γ x y):RepL Γ (a.set n x) (u.set n y):=by
 refine⟨by simp[h.len],λ i x' w b c=>?_⟩;rw[oN]at b c;have f:=h.len;split at b
 .grind
 .next e=>rw[af e]at c;exact h.rep i x' w b c
def Un{x:ah}(h:bQ x=O):x.oneCell'=O:=by
 cases x<;>simp_all [bQ,Value.oneCell']
def Rep.one{Γ:Gh}{x:AV}{u:ah}(h:Rep Γ x u)(a:isC x=O):u.oneCell'=O:=by
 cases h<;>first|(exact Un ‹_›)|rfl|(simp[isC]at a)
def qjS{u:ah}(h:u.oneCell'=O):u.cells = #[u]:=by
 cases u<;>simp_all [Value.oneCell',Value.cells]
def Rep.cells{Γ:Gh}{x:AV}{u:ah}(h:Rep Γ x u)(f:(cellsOf x).all isC=O):RepL Γ (cellsOf x) (V u.cells)/\∀y∈V u.cells,y.oneCell'=O:=by
 have c:isC x=O->cellsOf x=[x]->RepL Γ (cellsOf x) (V u.cells)/\∀y∈V u.cells,y.oneCell'=O:=by
  intro d k;rw[k,qjS (h.one d)];exact⟨RepL.cons h RepL.nil,by intro y e;simp at e;subst e;exact h.one d⟩
 cases h with
 |agg cs us j d g=>exact⟨⟨by simpa[Value.cells,cellsOf]using j,λ i x u a b=>g i x u a (by simpa[Value.cells]using b)⟩,by simpa[Value.cells]using d⟩
 |v x h=>exact c rfl rfl
 |dead u=>simp[cellsOf,isC]at f
 |sl|rs|ptr|rpt|ept|fn=>exact c rfl rfl
 |tup=>simp[cellsOf,isC]at f
 |mp=>exact c rfl rfl
def Rep.cells_len{Γ:Gh}{x:AV}{u:ah}(h:Rep Γ x u)(a:(cellsOf x).all isC=O):u.cells.size=I (cellsOf x):=by
 have:=(h.cells a).1.len;simpa using this
def xi(Γ:Gh)(w:ao)(b:Nat)(cs:aa AV):Prop:=
 ∃vs e,w.heap[b]?=Z (.cells vs e (0,0))/\RepL Γ cs (V vs)/\∀u∈V vs,u.oneCell'=O
def Na(Γ:Gh)(b:aa KC)(c a:Bool)(k v:aa AV)(e:MapEntry):Prop:=
 Rep Γ (fy c k) e.key/\Rep Γ (fy a v) e.val/\cu b k=O/\v.all br=O
structure kC (Γ:Gh) (w:ao) (b:Nat) (kc:List KC) (ka va:Bool) (ks vs:List (List AV)):Prop where
 len:vs.length=ks.length
 obj:∃es clock,w.heap[b]?=Z (.map es clock)/\es.size=ks.length/\∀(j:Nat) (k v:List AV) (e:MapEntry),ks[j]?=Z k->vs[j]?=Z v->es[j]?=Z e->Na Γ kc ka va k v e
def fx(Γ:Gh)(w:ao)(i:Nat):aa AV->Prop
 |[.mc b c a ks vs]=>kC Γ w (Γ.β i) b c a ks vs
 |cs=>xi Γ w (Γ.β i) cs
def fx.cells{Γ:Gh}{w:ao}{i:Nat}{cs:aa AV}(h:fx Γ w i cs)(a:noMc cs=O):xi Γ w (Γ.β i) cs:=by
 unfold fx at h;split at h
 .cases a
 .exact h
def X0{Γ:Gh}{b:aa KC}{c a:Bool}{ks vs:aa (aa AV)}{u:ah}(h:Rep Γ (.mc b c a ks vs) u):False:=by cases h
def xi.noMc{Γ:Gh}{w:ao}{b:Nat}{cs:aa AV}(h:xi Γ w b cs):noMc cs=O:=by
 let⟨vs,e,d,a,c⟩:=h;unfold Go.AmZ.noMc;split
 .let⟨u,_,h⟩:=a.get (i:=0) rfl;exact(X0 h).elim
 .rfl
def fx.of{Γ:Gh}{w:ao}{i:Nat}{cs:aa AV}(h:xi Γ w (Γ.β i) cs):fx Γ w i cs:=by
 have a:=h.noMc;unfold fx;split
 .cases a
 .exact h
def fx.split{Γ:Gh}{w:ao}{i:Nat}{cs:aa AV}(h:fx Γ w i cs):xi Γ w (Γ.β i) cs\/∃b c a ks vs,cs=[.mc b c a ks vs]/\kC Γ w (Γ.β i) b c a ks vs:=by
 unfold fx at h;grind
def qir(a:aa KC)(k:aa AV):cu a k=O->k.all br=O:=by
 fun_induction cu a k<;>simp_all [br]
def kC.to{Γ Γ':Gh}{w w':ao}{b B:Nat}{y:aa KC}{z s:Bool}{ks vs:aa (aa AV)}(h:kC Γ w b y z s ks vs)(E:∀o,w.heap[b]?=Z o->w'.heap[B]?=Z o)(A:∀x u,Rep Γ x u->rb x=[]->rr x=[]->Rep Γ' x u):kC Γ' w' B y z s ks vs:=by
 let⟨K,N,d,H,G,F⟩:=h;refine⟨K,N,d,E _ H,G,λ j k v e a b c=>?_⟩;let⟨M,L,g3,p⟩:=F j k v e a b c
 have i:∀(g:Bool) (cs:aa AV),cs.all br=O->rb (fy g cs)=[]/\rr (fy g cs)=[]:=by
  intro g cs n;have f:∀x,br x=O->rb x=[]/\rr x=[]:=λ x D=>by cases x<;>first|exact⟨rfl,rfl⟩|(simp[br]at D)
  have all:∀l:aa AV,l.all br=O->rbL l=[]/\rrL l=[]:=by
   intro l
   induction l with
   |nil=>exact λ _=>⟨rfl,rfl⟩
   |cons x l C=>
     intro m;rw[fm,aK]at m;let⟨r,q⟩:=f x m.1;let⟨Q,P⟩:=C m.2;exact⟨by rw[rbL,r,Q];rfl,by rw[rrL,q,P];rfl⟩
  cases g with
  |true=>let⟨r,q⟩:=all cs n;exact⟨by rw[fy,rb,r],by rw[fy,rr,q]⟩
  |false=>
    unfold fy;split
    .cases ‹_›
    .split
     .rw[fm,aK]at n;exact f _ n.1
     .exact⟨rfl,rfl⟩
 have t:=qir;exact⟨A _ _ M (i _ _ (t _ _ g3)).1 (i _ _ (t _ _ g3)).2,A _ _ L (i _ _ p).1 (i _ _ p).2,g3,p⟩
def kC.lift{Γ Γ':Gh}{w w':ao}{b e:Nat}{c:aa KC}{d a:Bool}{ks vs:aa (aa AV)}(h:kC Γ w b c d a ks vs)(g:Le Γ Γ')(i:∀o,w.heap[b]?=Z o->w'.heap[e]?=Z o):kC Γ' w' e c d a ks vs:=h.to i λ _ _ f _ _=>f.mono g
def fx.to{Γ Γ':Gh}{w w':ao}{i c:Nat}{cs:aa AV}(f:AV->AV)(h:fx Γ w i cs)(g:∀o,w.heap[Γ.β i]?=Z o->w'.heap[Γ'.β c]?=Z o)(d:∀x u,Rep Γ x u->(x∈cs\/rb x=[]/\rr x=[])->Rep Γ' (f x) u)(k:∀x,rb x=[]->rr x=[]->f x=x):fx Γ' w' c (cs.map f):=by
 obtain⟨vs,e,r,l,q⟩|⟨t,v,s,ks,vs,rfl,p⟩:=h.split
 .refine .of ⟨vs,e,g _ r,⟨by rw[ce];exact l.len,λ j x u a n=>?_⟩,q⟩;rw[dC]at a;cases b:cs[j]? with
  |none=>rw[b]at a;cases a
  |some y=>
    rw[b]at a;cases a;exact d y u (l.rep j y u b n) (.inl (aP b))
 .rw[aZ,nJ,k _ rfl rfl];exact p.to g λ x u a e1 m=>by have:=d x u a (.inr ⟨e1,m⟩);rwa [k x e1 m]at this
def fx.to'{Γ Γ':Gh}{w w':ao}{i a:Nat}{cs:aa AV}(h:fx Γ w i cs)(c:∀o,w.heap[Γ.β i]?=Z o->w'.heap[Γ'.β a]?=Z o)(b:∀x u,Rep Γ x u->(x∈cs\/rb x=[]/\rr x=[])->Rep Γ' x u):fx Γ' w' a cs:=by
 have:=h.to id c b λ _ _ _=>rfl
 rwa [List.map_id]at this
def vB(n:Nat)(fr:Nat×Nat):Prop:=∀j,j<n->¬ (fr.1<=j/\j<fr.2)
def G9(n:Nat):vB n (0,0):=λ j _ h=>absurd h.2 (eh j)
structure ni (Γ:Gh) (w:ao) (r:Nat) (R:Row):Prop where
 k:R.k=Γ.k r
 ver:R.fz<=R.c.length->R.ver=Γ.ver r
 pos:0<R.k
 len:∀e∈R.c,e.length=R.k
 plain:∀e∈R.c,∀x∈e,br x=O
 fz:R.c=[]\/R.fz<=R.c.length
 blk:Γ.sz r≠0->∃vs e fr,w.heap[Γ.cur r]?=Z (.cells vs e fr)/\vs.size=Γ.sz r/\vB vs.size fr/\(R.k≠1->fr=(0,0))
 fit:Γ.of r+R.c.length*R.k<=Γ.sz r
 un:Γ.sz r≠0->∀off,Γ.of r+R.fz*R.k<=off->Γ.mem (Γ.cur r) off=U
 cells:∀(i:Nat) (e:List AV) (j:Nat) (x:AV),R.c[i]?=Z e->e[j]?=Z x->∃u,w.cell? ⟨Γ.cur r,Γ.of r+(i*R.k+j),U⟩=Z u/\Rep Γ x u/\u.oneCell'=O
 nbx:Γ.sz r≠0->∀i,i<Γ.nb->Γ.β i≠Γ.cur r
 off:R.off=Y->Γ.of r=0
def fN(Γ:Gh)(b:Nat):Prop:=(∃i,i<Γ.nb/\Γ.β i=b)\/∃r,r<Γ.nr/\Γ.sz r≠0/\Γ.cur r=b
def Be:aM ah:=((List.range 20).map λ i=>Value.int .u64 ((10^i:Nat):Int)).toArray
def Tab(Γ:Gh)(w:ao):Prop:=(∃e fr,w.heap[0]?=Z (.cells Be e fr))/\¬ fN Γ 0/\Γ.mem 0 0≠U
structure Inv (Γ:Gh) (σ:St) (w:ao):Prop where
 nb:Γ.nb=σ.bx.length
 nr:Γ.nr=σ.rw.length
 mem:∀b o u,Γ.mem b o=Z u->w.cell? ⟨b,o,U⟩=Z u/\u.oneCell'=O
 box:∀i cs,σ.bx[i]?=Z cs->fx Γ w i cs
 inj:∀i j,i<Γ.nb->j<Γ.nb->Γ.β i=Γ.β j->i=j
 boxmem:∀i,i<Γ.nb->∀o,Γ.mem (Γ.β i) o=U
 row:∀r R,σ.rw[r]?=Z R->ni Γ w r R
 apart:∀r r',r<Γ.nr->r'<Γ.nr->r≠r'->Γ.sz r≠0->Γ.sz r'≠0->Γ.cur r≠Γ.cur r'
 tab:Tab Γ w
structure Ext (Γ:Gh) (w:ao) (Γ':Gh) (w':ao):Prop where
 le:Le Γ Γ'
 os:w'.os=w.os
 tape:w'.tape=w.tape
 output:w'.output=w.output
 size:w.heap.size<=w'.heap.size
 block:∀b,b<w.heap.size->¬ fN Γ b->w'.heap[b]?=w.heap[b]?
 own:∀b,fN Γ' b->fN Γ b\/w.heap.size<=b
 memg:∀b o u,Γ'.mem b o=Z u->Γ.mem b o=Z u\/fN Γ b\/w.heap.size<=b
 drawn:w.drawn<=w'.drawn
def XB{Γ Γ':Gh}(h:Le Γ Γ')(t:Γ.mem 0 0≠U):Γ'.mem 0 0≠U:=λ a=>by
 cases b:Γ.mem 0 0 with
 |none=>exact t b
 |some u=>rw[h.mem _ _ _ b]at a;cases a
def Ext.tab{Γ Γ':Gh}{w w':ao}(h:Ext Γ w Γ' w')(t:Tab Γ w):Tab Γ' w':=by
 let⟨⟨e,fr,b⟩,a,d⟩:=t;have f:0<w.heap.size:=(dW.1 b).1;exact⟨⟨e,fr,by rw[h.block 0 f a];exact b⟩,λ c=>(h.own 0 c).elim a λ g=>by omega,XB h.le d⟩
def vW{a b:Prop}(x:a)(f:a->b):a/\b:=⟨x,f x⟩
def Ext.refl(Γ:Gh)(w:ao):Ext Γ w Γ w:=⟨.refl _,rfl,rfl,rfl,al _,λ _ _ _=>rfl,λ _ h=>.inl h,λ _ _ _ h=>.inl h,al _⟩
def Ext.trans{Γ e d:Gh}{w i f:ao}(h:Ext Γ w e i)(g:Ext e i d f):Ext Γ w d f where
 le:=h.le.trans g.le
 os:=g.os.trans h.os
 tape:=g.tape.trans h.tape
 output:=g.output.trans h.output
 size:=bR h.size g.size
 block:=λ b c j=>(g.block b (cU c h.size) λ k=>(h.own b k).elim j λ a=>by omega).trans (h.block b c j)
 own:=λ b c=>(g.own b c).elim (h.own b) λ a=>.inr (bR h.size a)
 memg:=λ b o u c=>(g.memg b o u c).elim (h.memg b o u) λ a=>.inr (a.elim (h.own b) λ a=>.inr (bR h.size a))
 drawn:=bR h.drawn g.drawn
def Inv.drew{Γ:Gh}{σ:St}{w:ao}(h:Inv Γ σ w):Inv Γ σ {w with drawn:=w.drawn+1}:=by
 refine⟨h.nb,h.nr,λ b o u e=>h.mem b o u e,λ i cs e=>?_,h.inj,h.boxmem,λ r R e=>?_,h.apart,h.tab⟩
 .obtain j|⟨t,v,s,ks,vs,rfl,l⟩:=(h.box i cs e).split
  .exact .of j
  .exact l.to (λ _ h=>h) λ _ _ h _ _=>h
 let⟨a,b,c,d,e1,f,g,j,q,p,n,m⟩:=h.row r R e;exact⟨a,b,c,d,e1,f,g,j,q,p,n,m⟩
def Ext.drew(Γ:Gh)(w:ao):Ext Γ w Γ {w with drawn:=w.drawn+1}:=⟨.refl _,rfl,rfl,rfl,al _,λ _ _ _=>rfl,λ _ h=>.inl h,λ _ _ _ h=>.inl h,eO _⟩
def Gz{w:ao}{b o:Nat}{u:ah}(h:w.cell? ⟨b,o,U⟩=Z u):b<w.heap.size:=by
 unfold World.cell? at h;grind
def Inv.mem_lt{Γ:Gh}{σ:St}{w:ao}(h:Inv Γ σ w){b o:Nat}{u:ah}(e:Γ.mem b o=Z u):b<w.heap.size:=Gz (h.mem b o u e).1
abbrev nU:=@RepL.cons
abbrev Ih:=@RepL.mono
def pT{w w'}(a:Below w.heap.size w w'){b:Nat}{o}(h:w.heap[b]?=Z o):w'.heap[b]?=Z o:=by
 have:=(dW.1 h).1;rw[a.block b this];exact h
def R6{w w'}(a:Below w.heap.size w w'){b o u}(h:w.cell? ⟨b,o,U⟩=Z u):w'.cell? ⟨b,o,U⟩=Z u:=by
 rw[a.cell (Gz h)];exact h
theorem jp{w:ao}{b vs e fr}(h:w.heap[b]?=Z (.cells vs e fr))(off):w.cell? ⟨b,off,U⟩=vs[off]?:=by
 unfold World.cell?;grind
def getElem?_lt' {α:Type}{l:aa α}{i:Nat}{x:α}(h:l[i]?=Z x):i<I l:=(dV.1 h).1
def ni.lift{Γ Γ' w w' r R}(h:ni Γ w r R)(A:r<Γ.nr)(l:Le Γ Γ')(d:Γ'.ver r=Γ.ver r)(S:Γ.sz r≠0->∀z,w.heap[Γ.cur r]?=Z z->w'.heap[Γ.cur r]?=Z z)(F:Γ.sz r≠0->∀off,Γ.mem (Γ.cur r) off=U->Γ'.mem (Γ.cur r) off=U)(p:Γ.sz r≠0->∀i,i<Γ'.nb->Γ.nb<=i->Γ'.β i≠Γ.cur r):ni Γ' w' r R:=by
 let⟨k,n,pos,o,C,P,v,N,M,L,K,H⟩:=h;let⟨g,b,c⟩:=l.loc r A d;refine⟨k.trans (l.k r A).symm,λ E=>(n E).trans d.symm,pos,o,C,P,λ a=>?_,by rw[b,c];exact N,λ a off B=>by rw[b]at a;rw[c]at B;rw[g];exact F a off (M a off B),?_,?_,λ h=>c.trans (H h)⟩
 .grind
 .intro i Q j x m G
  have a:Γ.sz r≠0:=by
   have s:=getElem?_lt' m;have:=OT (Zz (aL _) s) pos;omega
  let⟨vs,e,fr,v,T,_⟩:=v a;let⟨u,D,q,y⟩:=L i Q j x m G;refine⟨u,?_,q.mono l,y⟩;rw[jp v]at D;grind [jp]
 .intro a i m t;rw[b]at a;rw[g]at t;by_cases f:i<Γ.nb
  .exact K a i f (by rw[<-l.β i f];exact t)
  .exact p a i m (by omega) t
def fx.lift{Γ Γ' w w' i cs}(h:fx Γ w i cs)(b:i<Γ.nb)(a:Le Γ Γ')(c:∀o,w.heap[Γ.β i]?=Z o->w'.heap[Γ.β i]?=Z o):fx Γ' w' i cs:=by
 obtain⟨vs,e,j,g,f⟩|⟨l,m,k,ks,vs,rfl,d⟩:=h.split
 .exact .of ⟨vs,e,by rw[a.β i b];exact c _ j,g.mono a,f⟩
 .exact d.lift a (by rw[a.β i b];exact c)
def fx.heap{Γ w i cs}(h:fx Γ w i cs):∃o,w.heap[Γ.β i]?=Z o:=by
 obtain⟨vs,e,b,_⟩|⟨d,f,c,ks,vs,rfl,_,g,a,b,_⟩:=h.split<;>exact⟨_,b⟩
def getElem?_lt {α:Type}{l:aa α}{i:Nat}{x:α}(h:l[i]?=Z x):i<I l:=(dV.1 h).1
def wY{Γ w w'}(a:Below w.heap.size w w')(c:w.drawn<=w'.drawn):Ext Γ w Γ w':=⟨.refl _,a.os,a.tape,a.output,a.size,λ b d _=>a.block b d,λ _ h=>.inl h,λ _ _ _ h=>.inl h,c⟩
def Inv.box_lt{Γ σ w}(h:Inv Γ σ w){i}(b:i<Γ.nb):Γ.β i<w.heap.size:=by
 have a:=h.nb▸b;let⟨o,c⟩:=(h.box i _ (aV a)).heap;grind
def Inv.cur_lt{Γ σ w}(h:Inv Γ σ w){r}(c:r<Γ.nr)(b:Γ.sz r≠0):Γ.cur r<w.heap.size:=by
 have a:=h.nr▸c;let⟨vs,e,fr,f,d,_⟩:=(h.row r _ (aV a)).blk b;grind
def ni.live{Γ w r R}(h:ni Γ w r R){i:Nat}{e}(b:R.c[i]?=Z e):R.fz<=I R.c:=h.fz.resolve_left λ a=>by grind
def ni.liveN{Γ w r R}(h:ni Γ w r R){m n}(b:m+n<=I R.c)(a:0<n):R.fz<=I R.c:=h.fz.resolve_left λ d=>by grind
def ni.real{Γ w r R}(h:ni Γ w r R){i:Nat}{e}(b:R.c[i]?=Z e):Γ.sz r≠0:=by
 have a:=getElem?_lt' b;have:=OT (Zz (aL _) a) h.pos;have:=h.fit;omega
def Inv.later{Γ:Gh}{σ:St}{w w':ao}(h:Inv Γ σ w)(a:Below w.heap.size w w'):Inv Γ σ w' where
 tab:=⟨let⟨e,fr,f⟩:=h.tab.1;⟨e,fr,pT a f⟩,h.tab.2⟩
 nb:=h.nb
 nr:=h.nr
 mem:=λ b o u e=>⟨R6 a (h.mem b o u e).1,(h.mem b o u e).2⟩
 box:=λ i cs e=>(h.box i cs e).lift (by rw[h.nb];exact getElem?_lt e) (.refl _) λ o c=>pT a c
 inj:=h.inj
 boxmem:=h.boxmem
 row:=λ r R e=>(h.row r R e).lift (by rw[h.nr];exact getElem?_lt e) (.refl _) rfl (λ _ g c=>pT a c) (λ _ _ d=>d) λ _ i k j=>by omega
 apart:=h.apart
def RK{Γ:Gh}{σ:St}{w:ao}(h:Inv Γ σ w){cs:aa AV}{k:Obj}(B:∀Γ',Le Γ Γ'->Γ'.β Γ.nb=w.heap.size->fx Γ' (w.alloc k) Γ.nb cs):
  ∃Γ',Ext Γ w Γ' (w.alloc k)/\Inv Γ' {σ with bx:=σ.bx++[cs]} (w.alloc k)/\I σ.bx<Γ'.nb/\Γ'.β (I σ.bx)=w.heap.size:=by
 have v:Below w.heap.size w (w.alloc k):=(Below.refl _ _).alloc (al _) _;let Γ':Gh:={Γ with nb:=Γ.nb+1,β:=λ i=>if i=Γ.nb then w.heap.size else Γ.β i}
 have d:∀i,i<Γ.nb->Γ'.β i=Γ.β i:=λ i c=>ifN;have a:Γ'.β Γ.nb=w.heap.size:=ag rfl;have f:Le Γ Γ':=⟨λ _ _ _ h=>h,eO _,d,al _,λ _ _=>rfl,λ _ _=>al _,λ _ _ _=>⟨rfl,rfl,rfl⟩⟩
 have s:=h.later v;refine⟨Γ',vW ⟨f,rfl,rfl,rfl,v.size,λ b C _=>v.block b C,?_,λ _ _ _ h=>.inl h,al _⟩ λ F=>⟨⟨?_,h.nr,s.mem,?_,?_,?_,?_,h.apart,F.tab h.tab⟩,?_⟩⟩
 .rintro b (⟨i,c,rfl⟩|n)
  .by_cases e:i=Γ.nb
   .grind
   .left;left;exact⟨i,by show i<Γ.nb;have:i<Γ.nb+1:=c;omega,(d i (by have:i<Γ.nb+1:=c;omega)).symm⟩
  .exact .inl (.inr n)
 .show Γ.nb+1=I (σ.bx++[cs]);simp[h.nb]
 .intro i cs' c;rw[yr]at c;split at c
  .next p=>exact(h.box i cs' c).lift (by rw[h.nb];exact p) f λ o n=>pT v n
  .rename_i p
   have z:i-I σ.bx=0:=by
    grind
   rw[z]at c;simp at c;subst c;have y:i=Γ.nb:=by rw[h.nb];omega
   rw[y];exact B Γ' f a
 .intro i j c E g;have t:i<Γ.nb+1:=c;have D:j<Γ.nb+1:=E;by_cases e:i=Γ.nb<;>by_cases q:j=Γ.nb
  .rw[e,q]
  .rw[e,a,d j (by omega)]at g;have:=h.box_lt (i:=j) (by omega);omega
  .rw[q,a,d i (by omega)]at g;have:=h.box_lt (i:=i) (by omega);omega
  .rw[d i (by omega),d j (by omega)]at g;exact h.inj i j (by omega) (by omega) g
 .intro i c o;have t:i<Γ.nb+1:=c;by_cases e:i=Γ.nb
  .rw[e,a];show Γ.mem w.heap.size o=U;cases x:Γ.mem w.heap.size o with
   |none=>rfl
   |some u=>have:=h.mem_lt x;omega
  .rw[d i (by omega)];exact h.boxmem i (by omega) o
 .intro r R m;have l:r<Γ.nr:=by rw[h.nr];exact getElem?_lt m
  refine(h.row r R m).lift l f rfl (λ _ k n=>pT v n) (λ _ _ x=>x) λ A i c G g=>?_;have t:i<Γ.nb+1:=c;have e:i=Γ.nb:=by omega
  rw[e,a]at g;have:=h.cur_lt l A;omega
 .rw[<-h.nb];grind
def S8{Γ σ w}(h:Inv Γ σ w){cs vs}(g:RepL Γ cs vs)(j:∀u∈vs,u.oneCell'=O)(e):
  ∃Γ',Ext Γ w Γ' (w.alloc (.cells vs.toArray e))/\Inv Γ' {σ with bx:=σ.bx++[cs]} (w.alloc (.cells vs.toArray e))/\Rep Γ' (.ptr (I σ.bx) 0) (.pointer (Z ⟨w.heap.size,0,U⟩)):=by
 obtain⟨Γ',a,b,c,d⟩:=RK h λ Γ' i f=>.of ⟨vs.toArray,e,by rw[f];exact heap_alloc_new w _,by simpa using g.mono i,by simpa using j⟩;exact⟨Γ',a,b,by rw[<-d];exact .ptr _ _ c⟩
def qjy{Γ σ w}(h:Inv Γ σ w)(kc ka va):
  ∃Γ',Ext Γ w Γ' (w.alloc (.map #[] 0))/\Inv Γ' {σ with bx:=σ.bx++[[.mc kc ka va [] []]]} (w.alloc (.map #[] 0))/\Rep Γ' (.mp (I σ.bx)) (.map (Z w.heap.size)):=by
 obtain⟨Γ',a,b,c,d⟩:=RK h (cs:=[.mc kc ka va [] []]) λ Γ' i f=>⟨rfl,#[],0,by rw[f];exact heap_alloc_new w _,rfl,λ j k v e g=>by simp at g⟩
 exact⟨Γ',a,b,by rw[<-d];exact .mp _ c⟩
def Tp{Γ:Gh}{σ:St}{w:ao}(h:Inv Γ σ w){vs:aa ah}(z:∀u∈vs,u.oneCell'=O)(e:aO):
  ∃Γ',Ext Γ w Γ' (w.alloc (.cells vs.toArray e))/\Inv Γ' σ (w.alloc (.cells vs.toArray e))/\∀j u,vs[j]?=Z u->Γ'.mem w.heap.size j=Z u:=by
 have m:Below w.heap.size w (w.alloc (.cells vs.toArray e)):=(Below.refl _ _).alloc (al _) _;let Γ':Gh:={Γ with mem:=λ b o=>if b=w.heap.size then vs[o]? else Γ.mem b o}
 have p:∀b o u,Γ.mem b o=Z u->b≠w.heap.size:=λ b o u e l=>by have:=h.mem_lt e;omega
 have c:Le Γ Γ':=⟨λ b o u e=>by show(if b=w.heap.size then vs[o]? else Γ.mem b o)=Z u;rw[af (p b o u e)];exact e,al _,λ _ _=>rfl,al _,λ _ _=>rfl,λ _ _=>al _,λ _ _ _=>⟨rfl,rfl,rfl⟩⟩
 have k:=h.later m;refine⟨Γ',vW ⟨c,rfl,rfl,rfl,m.size,λ b v _=>m.block b v,λ b g=>.inl g,λ b o u t=>?_,al _⟩ λ y=>⟨⟨h.nb,h.nr,?_,?_,h.inj,?_,?_,h.apart,y.tab h.tab⟩,?_⟩⟩
 .grind
 .intro b o u l;have a:(if b=w.heap.size then vs[o]? else Γ.mem b o)=Z u:=l;by_cases d:b=w.heap.size
  .rw[ag d]at a;subst d;refine⟨?_,z u (aP a)⟩;simp_all
  .rw[af d]at a;exact k.mem b o u a
 .intro i cs l;exact(h.box i cs l).lift (by rw[h.nb];exact getElem?_lt l) c λ o g=>pT m g
 .intro i n o;show(if Γ.β i=w.heap.size then vs[o]? else Γ.mem (Γ.β i) o)=U;have:=h.box_lt n;rw[ifN];exact h.boxmem i n o
 .intro r R q;have f:r<Γ.nr:=by rw[h.nr];exact getElem?_lt q
  refine(h.row r R q).lift f c rfl (λ _ A g=>pT m g) (λ s off t=>?_) λ _ i n B=>by have:i<Γ.nb:=n;omega
  have x:=h.cur_lt f s;grind
 .grind
def Sx{Γ:Gh}{σ:St}{w:ao}(h:Inv Γ σ w){b:Nat}{cs cs':aa AV}(E:σ.bx[b]?=Z cs)(A:aa Nat)(w':ao)
  (K:fx Γ w' b cs') (q:∀k,k≠Γ.β b->w'.heap[k]?=w.heap[k]?) (t:w'.os=w.os) (s:w'.tape=w.tape) (l:w'.output=w.output) (C:w'.heap.size=w.heap.size) (y:w.drawn<=w'.drawn):
  Ext Γ w Γ w'/\Inv Γ {σ with bx:=σ.bx.set b cs',wr:=A} w':=by
 have c:b<Γ.nb:=by rw[h.nb];exact getElem?_lt E
 have f:∀k o,k≠Γ.β b->w'.cell? ⟨k,o,U⟩=w.cell? ⟨k,o,U⟩:=λ k o d=>by unfold World.cell?;rw[q k d]
 have a:∀k o u,Γ.mem k o=Z u->k≠Γ.β b:=λ k o u e d=>by rw[d,h.boxmem b c o]at e;cases e
 refine(vW ⟨.refl _,t,s,l,by omega,λ k _ z=>q k λ d=>z (.inl ⟨b,c,d.symm⟩),λ _ h=>.inl h,λ _ _ _ h=>.inl h,y⟩ λ F=>⟨?_,h.nr,?_,?_,h.inj,h.boxmem,?_,h.apart,F.tab h.tab⟩)
 .show Γ.nb=I (σ.bx.set b cs');rw[dX];exact h.nb
 .intro k o u e;rw[f k o (a k o u e)];exact h.mem k o u e
 .intro i p n;rw[oN]at n;split at n
  .grind
  .rename_i v;have m:i<Γ.nb:=by rw[h.nb];exact getElem?_lt n
   refine(h.box i p n).lift m (.refl _) λ o g=>?_;rw[q _ λ x=>v (h.inj b i c m x.symm)];exact g
 .intro r R j;have H:=h.row r R j;refine H.lift (by rw[h.nr];exact getElem?_lt j) (.refl _) rfl (λ B G d=>?_) (λ _ _ D=>D) λ _ i n z=>by omega
  rw[q _ λ x=>H.nbx B b c x.symm];exact d
def qjH{Γ σ w}(h:Inv Γ σ w){b cs cs'}(i:σ.bx[b]?=Z cs)(n:noMc cs=O){vs'}(l:RepL Γ cs' vs')(o:∀u∈vs',u.oneCell'=O)(wl w')(j:∀vs e,w.heap[Γ.β b]?=Z (.cells vs e (0,0))->w'.heap[Γ.β b]?=Z (.cells vs'.toArray e (0,0)))(m:∀k,k≠Γ.β b->w'.heap[k]?=w.heap[k]?)(f:w'.os=w.os)(c:w'.tape=w.tape)(a:w'.output=w.output)(d:w'.heap.size=w.heap.size)(g:w.drawn<=w'.drawn):
  Ext Γ w Γ w'/\Inv Γ {σ with bx:=σ.bx.set b cs',wr:=wl} w':=by
 let⟨vs,e,p,_⟩:=(h.box b cs i).cells n;exact Sx h i wl w' (.of ⟨vs'.toArray,e,j vs e p,by simpa using l,by simpa using o⟩) m f c a d g
def Us{Γ:Gh}{σ:St}{w w':ao}(h:Inv Γ σ w){k:Nat}(hk:0<k){c:aa (aa AV)}(H:∀e∈c,I e=k)(T:∀e∈c,∀x∈e,br x=O){vs:aM ah}(N:I c*k<=vs.size)
  (m:∀(i:Nat) (e:aa AV) (j:Nat) (x:AV),c[i]?=Z e->e[j]?=Z x->∃u,vs[i*k+j]?=Z u/\Rep Γ x u/\u.oneCell'=O) {e:aO}{cap:Nat} (hc:I c<=cap) (a0:cap*k<=vs.size) (z:Below w.heap.size w w') (ar:w.drawn<=w'.drawn) {g:Nat} (hg:w.heap.size<=g) {fr:Nat×Nat} (P:vB vs.size fr) (ad:k≠1->fr=(0,0)) (y:w'.heap[g]?=Z (.cells vs e fr)):
  ∃Γ',Ext Γ w Γ' w'/\Inv Γ' {σ with rw:=σ.rw++[⟨k,c,0,0,Y⟩]} w'/\Rep Γ' (.rs (I σ.rw) 0 (I c) 0 Y) (.slice (Z ⟨g,0,U⟩) (I c) cap):=by
 let Γ':Gh:={Γ with nr:=Γ.nr+1,ver:=λ r=>if r=Γ.nr then 0 else Γ.ver r,k:=λ r=>if r=Γ.nr then k else Γ.k r,cur:=λ r=>if r=Γ.nr then g else Γ.cur r,sz:=λ r=>if r=Γ.nr then vs.size else Γ.sz r,of:=λ r=>if r=Γ.nr then 0 else Γ.of r}
 have C:∀r,r<Γ.nr->Γ'.ver r=Γ.ver r:=λ r m=>ifN;have ab:∀r,r<Γ.nr->Γ'.k r=Γ.k r:=λ r m=>ifN;have f:∀r,r<Γ.nr->Γ'.cur r=Γ.cur r:=λ r m=>ifN;have d:∀r,r<Γ.nr->Γ'.sz r=Γ.sz r:=λ r m=>ifN;have E:∀r,r<Γ.nr->Γ'.of r=Γ.of r:=λ r m=>ifN;have l:Γ'.of Γ.nr=0:=ag rfl;have a:Γ'.cur Γ.nr=g:=ag rfl;have n:Γ'.sz Γ.nr=vs.size:=ag rfl;have B:Γ'.ver Γ.nr=0:=ag rfl;have K:Γ'.k Γ.nr=k:=ag rfl;have t:Le Γ Γ':=⟨λ _ _ _ h=>h,al _,λ _ _=>rfl,eO _,ab,λ r m=>by rw[C r m];exact al _,λ r m _=>⟨f r m,d r m,E r m⟩⟩
 have L:=h.later z;refine⟨Γ',vW ⟨t,z.os,z.tape,z.output,z.size,λ b hl _=>z.block b hl,?_,λ _ _ _ h=>.inl h,ar⟩ λ hX=>⟨⟨h.nb,?_,L.mem,?_,h.inj,h.boxmem,?_,?_,hX.tab h.tab⟩,?_⟩⟩
 .rintro b (F|⟨r,aE,hz,hl⟩)
  .exact .inl (.inl F)
  .by_cases s:r=Γ.nr
   .right;rw[s,a]at hl;omega
   .left;right;grind
 .show Γ.nr+1=I (σ.rw++[_]);simp[h.nr]
 .intro i cs he;exact(h.box i cs he).lift (by rw[h.nb];exact getElem?_lt he) t λ o F=>pT z F
 .intro r R A;rw[yr]at A;split at A
  .rename_i G;have s:r<Γ.nr:=by rw[h.nr];exact G
   exact(h.row r R A).lift s t (C r s) (λ _ ob F=>pT z F) (λ _ _ X=>X) λ _ i M hn=>by have:i<Γ.nb:=M;omega
  .rename_i G
   have an:r-I σ.rw=0:=by
    grind
   rw[an]at A;simp at A;subst A;obtain rfl:r=Γ.nr:=by rw[h.nr];omega
   refine⟨K.symm,λ _=>B.symm,hk,H,T,.inr (aL _),λ _=>⟨vs,e,fr,by rw[a];exact y,n.symm,P,ad⟩,by rw[n,l,cI];exact N,?_,?_,?_,λ _=>l⟩
   .intro _ off _;rw[a];show Γ.mem g off=U;cases X:Γ.mem g off with
    |none=>rfl
    |some u=>have:=h.mem_lt X;omega
   .intro i e' j x M hj;let⟨u,hu,D,h1⟩:=m i e' j x M hj;refine⟨u,?_,D.mono t,h1⟩;rw[a,l,cI,jp y];exact hu
   .intro _ i M he;have:=h.box_lt (i:=i) M;grind
 .intro r v S Q W q p;have az:r<Γ.nr+1:=S;have ax:v<Γ.nr+1:=Q;by_cases h1:r=Γ.nr<;>by_cases h2:v=Γ.nr
  .omega
  .rw[d v (by omega)]at p;rw[h1,a,f v (by omega)];have:=h.cur_lt (r:=v) (by omega) p;omega
  .rw[d r (by omega)]at q;rw[h2,a,f r (by omega)];have:=h.cur_lt (r:=r) (by omega) q;omega
  .rw[d r (by omega)]at q;rw[d v (by omega)]at p;rw[f r (by omega),f v (by omega)];exact h.apart r v (by omega) (by omega) W q p
 .refine .rs _ _ _ _ _ _ _ (by show I σ.rw<Γ.nr+1;rw[h.nr];omega) (aL _) hc (λ hf=>by cases hf) λ _=>?_;rw[<-h.nr,a,K,n,l];grind
def gJ(Γ:Gh)(r:Nat)(R:Row):Prop:=
 ∀(i:Nat) (e:aa AV) (j:Nat) (x:AV),R.c[i]?=Z e->e[j]?=Z x->∃u,Γ.mem (Γ.cur r) (Γ.of r+(i*R.k+j))=Z u/\Rep Γ x u
def LV{Γ σ w w'}(h:Inv Γ σ w){k}(o:0<k){c}(b:∀e∈c,I e=k)(f:∀e∈c,∀x∈e,br x=O){vs}(d:I c*k<=vs.size)(n:∀i e j x,c[i]?=Z e->e[j]?=Z x->∃u,vs[i*k+j]?=Z u/\Rep Γ x u/\u.oneCell'=O){e cap}(q:I c<=cap)(m:cap*k<=vs.size)(r:Below w.heap.size w w')(l:w.drawn<=w'.drawn){g}(p:w.heap.size<=g)(a:w'.heap[g]?=Z (.cells vs e (0,0))):
  ∃Γ',Ext Γ w Γ' w'/\Inv Γ' {σ with rw:=σ.rw++[⟨k,c,0,0,Y⟩]} w'/\Rep Γ' (.rs (I σ.rw) 0 (I c) 0 Y) (.slice (Z ⟨g,0,U⟩) (I c) cap):=
 Us h o b f d n q m r l p (G9 _) (λ _=>rfl) a
def qiu{α}{l:aa α}{r i f y}(h:(l.modify r f)[i]?=Z y):∃x,l[i]?=Z x/\y=if r=i then f x else x:=by
 grind
structure Fz (Γ:Gh) (m:Nat->Nat->Option ah):Prop where
 le:Le Γ {Γ with mem:=m}
 own:∀b o u,m b o=Z u->Γ.mem b o=Z u\/fN Γ b
def Se{Γ:Gh}{σ:St}{w:ao}(h:Inv Γ σ w){r:Nat}{R:Row}(G:σ.rw[r]?=Z R)(wl:aa Nat):
  ∃m,Fz Γ m/\Inv {Γ with mem:=m} {σ with rw:=σ.rw.modify r pA,wrr:=wl} w/\gJ {Γ with mem:=m} r R:=by
 have H0:=h.row r R G;let⟨k,E,pos,s,pl,fz,g2,g4,g5,S,g8,g9⟩:=H0;have F:r<Γ.nr:=by rw[h.nr];exact getElem?_lt G
 let m:Nat->Nat->ac ah:=λ a off=>if a=Γ.cur r/\Γ.of r<=off/\off<Γ.of r+I R.c*R.k then w.cell? ⟨a,off,U⟩else Γ.mem a off
 have K:∀a off u,Γ.mem a off=Z u->m a off=Z u:=by
  intro a off u b;show(if _ then _ else _)=_;split
  .exact(h.mem a off u b).1
  .exact b
 have d:Le Γ {Γ with mem:=m}:=⟨K,al _,λ _ _=>rfl,al _,λ _ _=>rfl,λ _ _=>al _,λ _ _ _=>⟨rfl,rfl,rfl⟩⟩
 have z:∀(i:Nat) (e:aa AV) (j:Nat) (x:AV),R.c[i]?=Z e->e[j]?=Z x->∃u,m (Γ.cur r) (Γ.of r+(i*R.k+j))=Z u/\Rep {Γ with mem:=m} x u:=by
  intro i e j x l C;let⟨u,X,g,h1⟩:=S i e j x l C;refine⟨u,?_,g.mono d⟩;have P:=getElem?_lt l;have M:=getElem?_lt C;rw[s e (aP l)]at M
  have:i*R.k+j<I R.c*R.k:=by
   calc i*R.k+j<i*R.k+R.k:=by omega
    _=(i+1)*R.k:=by rw[dD,HZ]
    _<=I R.c*R.k:=cj _ P
  grind
 refine⟨m,⟨d,λ a off u b=>?_⟩,⟨h.nb,?_,?_,?_,h.inj,?_,?_,h.apart,h.tab.1,h.tab.2.1,XB d h.tab.2.2⟩,z⟩
 .have f:(if a=Γ.cur r/\Γ.of r<=off/\off<Γ.of r+I R.c*R.k then w.cell? ⟨a,off,U⟩else Γ.mem a off)=Z u:=b;split at f
  .next y=>right;right;grind
  .exact .inl f
 .show Γ.nr=I (σ.rw.modify r pA);rw[ZA];exact h.nr
 .intro a off u b;have f:(if a=Γ.cur r/\Γ.of r<=off/\off<Γ.of r+I R.c*R.k then w.cell? ⟨a,off,U⟩else Γ.mem a off)=Z u:=b;split at f
  .rename_i y;refine⟨f,?_⟩;let⟨az,ax,ar⟩:=y;obtain⟨off,rfl⟩:∃p,off=Γ.of r+p:=⟨off-Γ.of r,by omega⟩
   have v:off/R.k<I R.c:=by
    rw[OU pos];omega
   have N:off%R.k<R.k:=qR _ pos;have L:=s _ (iq v);let⟨u',ab,_,aE⟩:=S (off/R.k) _ (off%R.k) _ (aV v) (aV (by rw[L];exact N));grind [Nat.mul_comm,Nat.div_add_mod]
  .exact h.mem a off u f
 .intro i cs b;exact(h.box i cs b).lift (by rw[h.nb];exact getElem?_lt b) d λ o B=>B
 .intro i l off;show(if _ then _ else _)=_;rw[af λ y=>g8 (by omega) i l y.1];exact h.boxmem i l off
 .intro A R' Q;let⟨R0,D,b⟩:=qiu Q;by_cases t:r=A
  .subst t;rw[ag rfl]at b;rw[G]at D;cases D;subst b;refine⟨k,λ v=>E (bR (OV _ (I R.c)) v),pos,s,pl,fz.imp_right λ v=>Nat.max_le.2 ⟨v,al _⟩,g2,g4,?_,?_,g8,g9⟩
   .intro W off B;have an:Γ.of r+I R.c*R.k<=off:=bR (Nat.add_le_add_left (cj _ (OW R.fz _)) _) B;have ad:Γ.of r+R.fz*R.k<=off:=bR (Nat.add_le_add_left (cj _ (OV _ (I R.c))) _) B;grind
   .intro i T j x l C;let⟨u,X,g,h1⟩:=S i T j x l C;exact⟨u,X,g.mono d,h1⟩
  .rw[af t]at b;subst b;have n:A<Γ.nr:=by rw[h.nr];exact getElem?_lt D
   refine(h.row A _ D).lift n d rfl (λ _ _ h=>h) (λ W off H=>?_) λ _ i l hn=>by have:i<Γ.nb:=l;omega
   show(if _ then _ else _)=_;rw[af λ y=>h.apart r A F n t (by omega) W y.1.symm];exact H
def xx{Γ m}(a:Fz Γ m)(w):Ext Γ w {Γ with mem:=m} w:=⟨a.le,rfl,rfl,rfl,al _,λ _ _ _=>rfl,λ _ h=>.inl h,λ b o u d=>(a.own b o u d).imp_right .inl,al _⟩
def gJ.mono{Γ m}(b:Le Γ {Γ with mem:=m}){r R}(h:gJ Γ r R):gJ {Γ with mem:=m} r R:=λ i e j x g f=>
 let⟨u,c,d⟩:=h i e j x g f;⟨u,b.mem _ _ _ c,d.mono b⟩
def pU{w:ao}:∀(c:aa Nat) {Γ:Gh}{σ:St} (h:Inv Γ σ w) (a:aa Nat),
  ∃m,Fz Γ m/\Inv {Γ with mem:=m} {σ with rw:=frz σ.rw c,wrr:=a} w/\∀r∈c,∀R,σ.rw[r]?=Z R->gJ {Γ with mem:=m} r R
 |[],Γ,σ,h,a=>⟨Γ.mem,⟨Le.refl _,λ _ _ _ h=>.inl h⟩,⟨h.nb,h.nr,h.mem,h.box,h.inj,h.boxmem,h.row,h.apart,h.tab⟩,λ r d=>by cases d⟩
 |r::c,Γ,σ,h,a=>by
   cases d:σ.rw[r]? with
   |none=>
     let⟨m,g,l,q⟩:=pU c h a;have s:I σ.rw<=r:=wb.1 d;have e:σ.rw.modify r pA=σ.rw:=List.modify_eq_self s;refine⟨m,g,?_,λ p k R x=>?_⟩
     .show Inv _ {σ with rw:=c.foldl _ (σ.rw.modify r pA),wrr:=a} w;rw[e];exact l
     .grind
   |some R=>
     let⟨m,g,l,q⟩:=Se h d a;let⟨m',n,v,g3⟩:=pU c l a;refine⟨m',⟨g.le.trans n.le,λ b o u t=>(n.own b o u t).elim (g.own b o u) .inr⟩,v,λ p k R' f=>?_⟩;by_cases j:p=r
     .subst j;rw[d]at f;cases f;exact q.mono n.le
     .grind
def Wl{c xs:aa (aa AV)}{i e}(h:(c++xs)[i]?=Z e):(i<I c/\c[i]?=Z e)\/(I c<=i/\xs[i-I c]?=Z e):=by
 grind
def Fk{Γ:Gh}{σ:St}{w w':ao}(h:Inv Γ σ w){r:Nat}{R R':Row}(hr:σ.rw[r]?=Z R)(ax:R.fz<=I R.c)(K:R'.k=R.k){g:Nat}{vs:aM ah}{e:aO}{o:Nat}(a6:R'.off=Y->o=0)(bd:R'.ver=R.ver+1\/(R'.ver=R.ver/\g=Γ.cur r/\vs.size=Γ.sz r/\o=Γ.of r))
  (az:∀e∈R'.c,I e=R.k) (a4:∀e∈R'.c,∀x∈e,br x=O) (a9:R'.fz<=I R'.c) {fr:Nat×Nat} (a3:vB vs.size fr) (a8:R.k≠1->fr=(0,0)) (A:w'.heap[g]?=Z (.cells vs e fr)) (aE:o+I R'.c*R.k<=vs.size)
  (a0:∀off,o+R'.fz*R.k<=off->Γ.mem g off=U) (L:∀(i:Nat) (e:aa AV) (j:Nat) (x:AV),R'.c[i]?=Z e->e[j]?=Z x->∃u,vs[o+(i*R.k+j)]?=Z u/\Rep Γ x u/\u.oneCell'=O)
  (ar:∀b o u,Γ.mem b o=Z u->w'.cell? ⟨b,o,U⟩=Z u) (ho:∀b,b<w.heap.size->(b≠Γ.cur r\/Γ.sz r=0)->w'.heap[b]?=w.heap[b]?) (f:(g=Γ.cur r/\Γ.sz r≠0)\/w.heap.size<=g) (a5:w'.os=w.os) (a1:w'.tape=w.tape) (ad:w'.output=w.output) (a2:w.heap.size<=w'.heap.size) (ba:w.drawn<=w'.drawn) (wl:aa Nat):
  ∃Γ',Ext Γ w Γ' w'/\Inv Γ' {σ with rw:=σ.rw.set r R',wrr:=wl} w'/\∀(n:Nat) (cap:Nat) (a:ac Addr),n<=cap->(cap=0\/a=Z ⟨g,o,U⟩)->o+cap*R.k<=vs.size->Rep Γ' (.rs r 0 n R'.ver Y) (.slice a n cap):=by
 have m:r<Γ.nr:=by rw[h.nr];exact getElem?_lt hr
 have H:=h.row r R hr;let Γ':Gh:={Γ with ver:=λ s=>if s=r then R'.ver else Γ.ver s,cur:=λ s=>if s=r then g else Γ.cur s,sz:=λ s=>if s=r then vs.size else Γ.sz s,of:=λ s=>if s=r then o else Γ.of s}
 have v1:Γ'.ver r=R'.ver:=ag rfl;have D:Γ'.cur r=g:=ag rfl;have s1:Γ'.sz r=vs.size:=ag rfl;have W:Γ'.of r=o:=ag rfl;have v2:∀q,q≠r->Γ'.ver q=Γ.ver q:=λ q t=>af t;have c2:∀q,q≠r->Γ'.cur q=Γ.cur q:=λ q t=>af t;have T:∀q,q≠r->Γ'.sz q=Γ.sz q:=λ q t=>af t;have o2:∀q,q≠r->Γ'.of q=Γ.of q:=λ q t=>af t
 have y:Le Γ Γ':=by
  refine⟨λ _ _ _ h=>h,al _,λ _ _=>rfl,al _,λ _ _=>rfl,λ q _=>?_,λ q _ t=>?_⟩
  .by_cases d:q=r
   .rw[d,v1,<-H.ver ax];grind
   .grind
  .by_cases d:q=r
   .subst d;rw[v1,<-H.ver ax]at t;grind
   .grind
 refine⟨Γ',vW ⟨y,a5,a1,ad,a2,λ b C hn=>ho b C (by
  by_cases v:Γ.sz r=0
  .exact .inr v
  .exact .inl λ z=>hn (.inr ⟨r,m,v,z.symm⟩)),?_,λ _ _ _ h=>.inl h,ba⟩ λ hX=>⟨⟨h.nb,?_,λ b o u hm=>⟨ar b o u hm,(h.mem b o u hm).2⟩,?_,h.inj,h.boxmem,?_,?_,hX.tab h.tab⟩,?_⟩⟩
 .rintro b (C|⟨q,t,v,C⟩)
  .exact .inl (.inl C)
  .by_cases d:q=r
   .rw[d,D]at C;obtain⟨f,l⟩|f:=f
    .left;right;exact⟨r,m,l,by rw[<-f,C]⟩
    .right;omega
   .rw[c2 q d]at C;exact .inl (.inr ⟨q,t,by rw[<-T q d];exact v,C⟩)
 .show Γ.nr=I (σ.rw.set r R');rw[dX];exact h.nr
 .intro i cs B;have p:i<Γ.nb:=by rw[h.nb];exact getElem?_lt B
  exact(h.box i cs B).lift p y λ ob G=>by
   rw[ho _ (h.box_lt p) (by
    by_cases v:Γ.sz r=0
    .exact .inr v
    .exact .inl (H.nbx v i p))];exact G
 .intro q Q M;rw[oN]at M;split at M
  .rename_i d;subst d;split at M<;>cases M;refine⟨K.trans H.k,λ _=>v1.symm,by rw[K];exact H.pos,by rw[K];exact az,a4,.inr a9,λ _=>⟨vs,e,fr,by rw[D];exact A,s1.symm,a3,by rw[K];exact a8⟩,by rw[K,s1,W];exact aE,λ _ off an=>by rw[D];exact a0 off (by rw[<-K,<-W];exact an),?_,λ _ i B=>?_,λ hf=>W.trans (a6 hf)⟩
   .intro i e' j x B hj;let⟨u,hu,ab,h1⟩:=L i e' j x B hj;exact⟨u,by rw[D,W,K,jp A];exact hu,ab.mono y,h1⟩
   .rw[D];intro z;have z:Γ.β i=g:=z;have p:i<Γ.nb:=B;obtain⟨f,l⟩|f:=f
    .exact H.nbx l i p (z.trans f)
    .have:=h.box_lt p;omega
  .rename_i d;have F:q<Γ.nr:=by rw[h.nr];exact getElem?_lt M
   refine(h.row q Q M).lift F y (v2 q λ z=>d z.symm) (λ v ob G=>?_) (λ _ _ hm=>hm) λ _ i B hn=>by have:i<Γ.nb:=B;omega
   rw[ho _ (h.cur_lt F v) (by
    by_cases X:Γ.sz r=0
    .exact .inr X
    .exact .inl λ z=>h.apart r q m F d X v z.symm)];exact G
 .intro q E h1 h2 a7 S P;by_cases e1:q=r<;>by_cases N:E=r
  .omega
  .rw[T E N]at P;rw[e1,D,c2 E N];obtain⟨f,l⟩|f:=f
   .rw[f];exact h.apart r E m h2 (oO N) l P
   .have:=h.cur_lt h2 P;omega
  .rw[T q e1]at S;rw[N,D,c2 q e1];obtain⟨f,l⟩|f:=f
   .rw[f];exact h.apart q r h1 m e1 S l
   .have:=h.cur_lt h1 S;omega
  .rw[T q e1]at S;rw[T E N]at P;rw[c2 q e1,c2 E N];exact h.apart q E h1 h2 a7 S P
 .intro n cap a hn ha bb;refine .rs _ _ _ _ _ _ _ m (by rw[v1];exact al _) hn (λ hf=>by cases hf) λ _=>?_;rw[D,s1,W];refine⟨ha.imp_right λ h=>by rw[h,kK,dE],?_⟩;show o+(0+cap)*Γ.k r<=vs.size;rw[<-H.k,cI];exact bb
def Lf{Γ σ w w'}(h:Inv Γ σ w){r R R'}(K:σ.rw[r]?=Z R)(B:Γ.of r=0)(C:R.fz<=I R.c)(L:R'.k=R.k){g vs e}(q:R'.ver=R.ver+1\/(R'.ver=R.ver/\g=Γ.cur r/\vs.size=Γ.sz r))(p:∀e∈R'.c,I e=R.k)(z:∀e∈R'.c,∀x∈e,br x=O)(E:R'.fz<=I R'.c){fr}(y:vB vs.size fr)(D:R.k≠1->fr=(0,0))(l:w'.heap[g]?=Z (.cells vs e fr))(H:I R'.c*R.k<=vs.size)(s:∀off,R'.fz*R.k<=off->Γ.mem g off=U)(d:∀i e j x,R'.c[i]?=Z e->e[j]?=Z x->∃u,vs[i*R.k+j]?=Z u/\Rep Γ x u/\u.oneCell'=O)(m:∀b o u,Γ.mem b o=Z u->w'.cell? ⟨b,o,U⟩=Z u)(G:∀b,b<w.heap.size->(b≠Γ.cur r\/Γ.sz r=0)->w'.heap[b]?=w.heap[b]?)(M:(g=Γ.cur r/\Γ.sz r≠0)\/w.heap.size<=g)(A:w'.os=w.os)(t:w'.tape=w.tape)(f:w'.output=w.output)(v:w.heap.size<=w'.heap.size)(F:w.drawn<=w'.drawn)(wl):
  ∃Γ',Ext Γ w Γ' w'/\Inv Γ' {σ with rw:=σ.rw.set r R',wrr:=wl} w'/\∀n cap,n<=cap->cap*R.k<=vs.size->Rep Γ' (.rs r 0 n R'.ver Y) (.slice (Z ⟨g,0,U⟩) n cap):=by
 let⟨Γ',Q,P,N⟩:=Fk h K C L (λ _=>rfl) (q.imp_right λ⟨a,b,c⟩=>⟨a,b,c,B.symm⟩) p z E y D l (by omega) (λ off G=>s off (by omega))
  (λ i e j x a b=>by rw[cI];exact d i e j x a b) m G M A t f v F wl
 grind
def qlB{Γ:Gh}{σ:St}{w:ao}(h:Inv Γ σ w){r:Nat}{R:Row}(G:σ.rw[r]?=Z R)(A:R.fz<=I R.c){l:Nat}(M:l<=I R.c)(W:aa Nat):
  ∃Γ',Ext Γ w Γ' w/\Inv Γ' {σ with rw:=σ.rw.set r {R with c:=R.c.drop l,ver:=R.ver+1,fz:=R.fz-l,off:=O},wrr:=W} w/\
   ∀(n:Nat) (cap:Nat) (a:ac Addr),n<=cap->(cap=0\/a=Z ⟨Γ.cur r,Γ.of r+l*R.k,U⟩)->Γ.of r+l*R.k+cap*R.k<=Γ.sz r->Rep Γ' (.rs r 0 n (R.ver+1) Y) (.slice a n cap):=by
 have H:=h.row r R G;have an:l*R.k<=I R.c*R.k:=cj _ M;have B:=H.fit;have P:(I R.c-l)*R.k=I R.c*R.k-l*R.k:=qoK _ _ _;by_cases t:Γ.sz r=0
 .-- no block: nothing is left out
  have F:r<Γ.nr:=by rw[h.nr];exact getElem?_lt G
  have ab:Γ.of r=0:=by omega
  have s:R.c=[]:=by
   cases hc:R.c with
   |nil=>rfl
   |cons e c=>
     have:=H.pos;rw[hc,bG,kL]at B;omega
  let Γ':Gh:={Γ with ver:=λ X=>if X=r then R.ver+1 else Γ.ver X}
  have E:Γ'.ver r=R.ver+1:=ag rfl;have v2:∀q,q≠r->Γ'.ver q=Γ.ver q:=λ q hq=>af hq
  have v:Le Γ Γ':=by
   refine⟨λ _ _ _ h=>h,al _,λ _ _=>rfl,al _,λ _ _=>rfl,λ q _=>?_,λ q _ _=>⟨rfl,rfl,rfl⟩⟩;by_cases f:q=r
   .rw[f,E,<-H.ver A];omega
   .grind
  have ar:l=0:=by rw[s]at M;simpa using M
  refine⟨Γ',vW ⟨v,rfl,rfl,rfl,al _,λ _ _ _=>rfl,λ _ h=>.inl h,λ _ _ _ h=>.inl h,al _⟩ λ hX=>⟨⟨h.nb,?_,h.mem,λ i cs p=>(h.box i cs p).lift (by rw[h.nb];exact getElem?_lt p) v λ _ h=>h,h.inj,h.boxmem,?_,h.apart,hX.tab h.tab⟩,?_⟩⟩
  .show Γ.nr=I (σ.rw.set r _);rw[dX];exact h.nr
  .intro q Q y;rw[oN]at y;split at y
   .rename_i f;subst f;split at y<;>cases y;refine⟨H.k,λ _=>E.symm,H.pos,λ e m=>?_,λ e m=>?_,.inl ?_,λ d=>absurd t d,?_,λ d=>absurd t d,λ i e j x p=>?_,λ d=>absurd t d,λ C=>by cases C⟩
    .rw[s]at m;simp at m
    .rw[s]at m;simp at m
    .grind
    .grind
    .rw[s]at p;simp at p
   .rename_i f;have K:q<Γ.nr:=by rw[h.nr];exact getElem?_lt y
    exact(h.row q Q y).lift K v (v2 q λ m=>f m.symm) (λ _ _ h=>h) (λ _ _ L=>L) λ _ i p hn=>by have:i<Γ.nb:=p;omega
  .intro n cap a hn ha S
   have D:cap=0:=by
    have:=H.pos;rw[t]at S;obtain T|T:=Nat.eq_zero_or_pos cap
    .exact T
    .have:=OT T H.pos;omega
   refine .rs _ _ _ _ _ _ _ F (by rw[E];exact al _) hn (λ C=>by cases C) λ _=>⟨.inl D,?_⟩
   grind
 .let⟨vs,e',fr,g2,g3,g4,g5⟩:=H.blk t
  let⟨Γ',f1,f2,f3⟩:=Fk h G A (R':={R with c:=R.c.drop l,ver:=R.ver+1,fz:=R.fz-l,off:=O}) rfl (g:=Γ.cur r) (vs:=vs) (e:=e') (o:=Γ.of r+l*R.k) (λ C=>by cases C) (.inl rfl)
   (λ e m=>H.len e (iP m)) (λ e m=>H.plain e (iP m)) (by show R.fz-l<=I (R.c.drop l);rw[je];omega) g4 g5 g2
   (by show _+I (R.c.drop l)*R.k<=_;rw[je,P,g3];omega)
   (λ off ho=>H.un t off (by
    have ad:Γ.of r+l*R.k+(R.fz-l)*R.k<=off:=ho;have:R.fz*R.k<=l*R.k+(R.fz-l)*R.k:=by rw[<-dD];exact cj _ (by omega)
    omega))
   (λ i e j x p hj=>by
    have N:R.c[l+i]?=Z e:=by rw[<-mG];exact p
    let⟨u,hu,z,h1⟩:=H.cells (l+i) e j x N hj;refine⟨u,?_,z,h1⟩;rw[jp g2,dD]at hu;rw[show Γ.of r+l*R.k+(i*R.k+j)=Γ.of r+(l*R.k+i*R.k+j) by omega];exact hu)
   (λ b o u L=>(h.mem b o u L).1) (λ _ _ _=>rfl) (.inl ⟨rfl,t⟩) rfl rfl rfl (al _) (al _) W
  grind
def qkW{Γ σ w w'}(h:Inv Γ σ w){r R}(T:σ.rw[r]?=Z R)(t:R.fz<=I R.c){xs}(v:∀e∈xs,I e=R.k)(D:∀e∈xs,∀x∈e,br x=O){aB}(ax:I aB=I xs*R.k)(hn:∀i e j x,xs[i]?=Z e->e[j]?=Z x->∃u,aB[i*R.k+j]?=Z u/\Rep Γ x u/\u.oneCell'=O)(o:Γ.sz r≠0)(ad:Γ.of r+(I R.c+I xs)*R.k<=Γ.sz r)(hw:∀vs e fr,w.heap[Γ.cur r]?=Z (.cells vs e fr)->w'.heap[Γ.cur r]?=Z (.cells (vs.toList.take (Γ.of r+I R.c*R.k)++aB++vs.toList.drop (Γ.of r+I R.c*R.k+I aB)).toArray e fr))(X:∀k,k≠Γ.cur r->w'.heap[k]?=w.heap[k]?)(E:w'.os=w.os)(A:w'.tape=w.tape)(p:w'.output=w.output)(ar:w'.heap.size=w.heap.size)(P:w.drawn<=w'.drawn)(wl){cap}(hc:I R.c+I xs<=cap:=by omega)(aE:Γ.of r+cap*R.k<=Γ.sz r:=by omega):
  ∃Γ',Ext Γ w Γ' w'/\Inv Γ' {σ with rw:=σ.rw.set r {R with c:=R.c++xs,ver:=R.ver+1},wrr:=wl} w'/\Rep Γ' (.rs r 0 (I R.c+I xs) (R.ver+1) Y) (.slice (Z ⟨Γ.cur r,Γ.of r,U⟩) (I R.c+I xs) cap):=by
 have H:=h.row r R T;let⟨vs,e',fr,S,g3,g4,g5⟩:=H.blk o;have l:=hw vs e' fr S;have an:I (V vs)=Γ.sz r:=by omega
 have a0:(I R.c+I xs)*R.k=I R.c*R.k+I aB:=by grind
 have ab:R.fz*R.k<=I R.c*R.k:=cj _ t
 have C:I (vs.toList.take (Γ.of r+I R.c*R.k)++aB++vs.toList.drop (Γ.of r+I R.c*R.k+I aB))=Γ.sz r:=by
  simp;omega
 have g:∀off,off<Γ.of r+I R.c*R.k->(vs.toList.take (Γ.of r+I R.c*R.k)++aB++vs.toList.drop (Γ.of r+I R.c*R.k+I aB))[off]?=vs[off]?:=by
  intro off s;rw[bE,dY (by grind),eX,ag s];simp
 have m:∀q u,aB[q]?=Z u->(vs.toList.take (Γ.of r+I R.c*R.k)++aB++vs.toList.drop (Γ.of r+I R.c*R.k+I aB))[Γ.of r+I R.c*R.k+q]?=Z u:=by
  intro q u W;have B:I (vs.toList.take (Γ.of r+I R.c*R.k))=Γ.of r+I R.c*R.k:=by grind
  rw[bE,dy (by omega),B,th,dY (getElem?_lt W)];exact W
 let⟨Γ',f1,f2,f3⟩:=Fk h T t (R':={R with c:=R.c++xs,ver:=R.ver+1}) rfl (λ hf=>H.off hf) (.inl rfl)
  (λ e N=>(bc.1 N).elim (H.len e) (v e)) (λ e N=>(bc.1 N).elim (H.plain e) (D e)) (by grind) (by grind) g5 l
  (by simp_all) (H.un o)
  (by
   intro i e j x hi K;have L:=hi;rw[OX];obtain⟨f,a⟩|⟨M,a⟩:=Wl L
   .let⟨u,z,d,Q⟩:=H.cells i e j x a K;refine⟨u,?_,d,Q⟩;have G:=getElem?_lt K;rw[H.len e (aP a)]at G
    have:i*R.k+j<I R.c*R.k:=by
     calc i*R.k+j<i*R.k+R.k:=by omega
      _=(i+1)*R.k:=by grind
      _<=I R.c*R.k:=cj _ f
    rw[g _ (by omega),<-jp S];exact z
   .let⟨u,z,d,Q⟩:=hn _ e j x a K;refine⟨u,?_,d,Q⟩;have az:i*R.k=I R.c*R.k+(i-I R.c)*R.k:=by rw[<-dD];congr 1;omega
    rw[show Γ.of r+(i*R.k+j)=Γ.of r+I R.c*R.k+((i-I R.c)*R.k+j) by omega];exact m _ u z)
  (by
   intro b off u F;have n:=(h.mem b off u F).1;by_cases y:b=Γ.cur r
   .subst y
    have f:off<Γ.of r+I R.c*R.k:=by
     obtain f|M:=Nat.lt_or_ge off (Γ.of r+I R.c*R.k)
     .exact f
     .rw[H.un o off (by omega)]at F;cases F
    rw[jp l,OX,g off f,<-jp S];exact n
   .unfold World.cell? at n |-
    rw[X b y];exact n)
  (λ b _ y=>X b (y.resolve_right o)) (.inl ⟨rfl,o⟩) E A p (by omega) P wl
 grind
def qkB{Γ σ w w'}(h:Inv Γ σ w){r R}(v:σ.rw[r]?=Z R)(p:R.fz<=I R.c){xs}(l:∀e∈xs,I e=R.k)(m:∀e∈xs,∀x∈e,br x=O){vs e g}(d:Below w.heap.size w w')(s:w.drawn<=w'.drawn)(A:w.heap.size<=g)(f:w'.heap[g]?=Z (.cells vs e (0,0)))(y:(I R.c+I xs)*R.k<=vs.size)(z:∀i e j x,(R.c++xs)[i]?=Z e->e[j]?=Z x->∃u,vs[i*R.k+j]?=Z u/\Rep Γ x u/\u.oneCell'=O)(wl){cap}(C:I R.c+I xs<=cap:=by omega)(B:cap*R.k<=vs.size:=by omega):
  ∃Γ',Ext Γ w Γ' w'/\Inv Γ' {σ with rw:=σ.rw.set r {R with c:=R.c++xs,ver:=R.ver+1},wrr:=wl} w'/\Rep Γ' (.rs r 0 (I R.c+I xs) (R.ver+1) Y) (.slice (Z ⟨g,0,U⟩) (I R.c+I xs) cap):=by
 have H:=h.row r R v
 let⟨Γ',F,E,D⟩:=Fk h v p (R':={R with c:=R.c++xs,ver:=R.ver+1}) rfl (λ _=>rfl) (.inl rfl)
  (λ e q=>(bc.1 q).elim (H.len e) (l e)) (λ e q=>(bc.1 q).elim (H.plain e) (m e)) (by grind) (G9 _) (λ _=>rfl) f
  (by grind)
  (λ off _=>by
   cases n:Γ.mem g off with
   |none=>rfl
   |some u=>have:=h.mem_lt n;omega) (λ i e j x a b=>by rw[cI];exact z i e j x a b) (λ b o u n=>R6 d (h.mem b o u n).1) (λ b t _=>d.block b t) (.inr A) d.os d.tape d.output d.size s wl
 grind
def Kk{Γ σ w w'}(h:Inv Γ σ w){r R}(hr:σ.rw[r]?=Z R){i e0 e1}(A:R.c[i]?=Z e0)(hf:R.fz<=i)(t:R.off=Y)(v:I e1=R.k)(D:∀x∈e1,br x=O){vs'}(hw:∀vs e fr,w.heap[Γ.cur r]?=Z (.cells vs e fr)->w'.heap[Γ.cur r]?=Z (.cells vs' e fr)/\vs'.size=vs.size/\∀off,(off<i*R.k\/i*R.k+R.k<=off)->vs'[off]?=vs[off]?)(F:∀j x,e1[j]?=Z x->∃u,vs'[i*R.k+j]?=Z u/\Rep Γ x u/\u.oneCell'=O)(ho:∀k,k≠Γ.cur r->w'.heap[k]?=w.heap[k]?)(E:w'.os=w.os)(C:w'.tape=w.tape)(s:w'.output=w.output)(ab:w'.heap.size=w.heap.size)(S:w.drawn<=w'.drawn)(wl):
  ∃Γ',Ext Γ w Γ' w'/\Inv Γ' {σ with rw:=σ.rw.set r {R with c:=R.c.set i e1},wrr:=wl} w':=by
 have H:=h.row r R hr;have K:=H.fz.resolve_left λ F=>by rw[F]at A;cases A
 have z:=H.real A;have o:=H.off t;have a:=H.cells;have d:=H.un z;have y:=H.fit;rw[o]at a d y;simp at a d y;let⟨vs,e',fr,T,g3,g4,g5⟩:=H.blk z;let⟨X,w2,W⟩:=hw vs e' fr T;have ad:=getElem?_lt A
 let⟨Γ',f1,f2,_⟩:=Lf h hr o K (R':={R with c:=R.c.set i e1}) rfl (.inr ⟨rfl,rfl,w2.trans g3⟩)
  (λ e Q=>by
   let⟨q,g⟩:=lI Q;rw[oN]at g;split at g
   .cases g;exact v
   .exact H.len e (aP g))
  (λ e Q=>by
   let⟨q,g⟩:=lI Q;rw[oN]at g;split at g
   .cases g;exact D
   .exact H.plain e (aP g)) (by grind) (by grind) g5 X
  (by grind) d
  (by
   intro q e j x g M;have f:=g;rw[oN]at f;split at f
   .next m=>subst m;cases f;exact F j x M
   .rename_i m;let⟨u,hu,p,h1⟩:=a q e j x f M;refine⟨u,?_,p,h1⟩;have L:=getElem?_lt M;rw[H.len e (aP f)]at L;rw[W,<-jp T]
    .exact hu
    .obtain l|N:=Nat.lt_or_gt_of_ne m
     .right
      calc i*R.k+R.k=(i+1)*R.k:=by grind
       _<=q*R.k:=cj _ l
       _<=q*R.k+j:=kM _ _
     .left
      calc q*R.k+j<q*R.k+R.k:=by omega
       _=(q+1)*R.k:=by grind
       _<=i*R.k:=cj _ N)
  (by
   intro b off u G;have n:=(h.mem b off u G).1;by_cases B:b=Γ.cur r
   .subst B
    have l:off<R.fz*R.k:=by
     obtain l|P:=Nat.lt_or_ge off (R.fz*R.k)
     .exact l
     .rw[d off P]at G;cases G
    have:R.fz*R.k<=i*R.k:=cj _ hf;rw[jp X,W off (.inl (by omega)),<-jp T];exact n
   .unfold World.cell? at n |-
    rw[ho b B];exact n)
  (λ b _ B=>ho b (B.resolve_right z)) (.inl ⟨rfl,z⟩) E C s (by omega) S wl
 exact⟨Γ',f1,f2⟩
end
section
open RowKit
def TD.inv{P:aX}{t:aO}{d:TD}(h:cH P t=Z d):∃i u z,P.info? t=Z i/\P.underlying t=Z u/\i.zero=Z z/\i.size=d.size/\i.bytes=d.bytes/\sV u=d.agg/\V z.cells=d.zero/\gg P u=Z d.k:=by
 grind [cH]
def xa{P:aX}{u:TypeDesc}(h:gg P u=Z .string):u=.string:=by
 cases u<;>(try (cases uU h;done))<;>simp[gg]at h<;>try rfl
 all_goals (split at h<;>try (split at h))<;>simp at h
def qnm{P:aX}{u:TypeDesc}(h:gg P u=Z .bool):u=.bool:=by
 cases u<;>(try (cases uU h;done))<;>simp[gg]at h<;>try rfl
 all_goals (split at h<;>try (split at h))<;>simp at h
def Mw{P:aX}{u:TypeDesc}{k:IntKind}(h:gg P u=Z (.int k)):u=.int k:=by
 cases u<;>(try (cases uU h;done))<;>simp[gg]at h
 all_goals first|(subst h;rfl)|((split at h<;>try (split at h))<;>simp at h)
def oh{P:aX}{u:TypeDesc}{e s b:Nat}{z:aa ah}(h:gg P u=Z (.slice e s b z)):u=.slice e/\∃i a,P.info? e=Z i/\i.zero=Z a/\i.size=s/\i.bytes=b/\V a.cells=z:=by
 cases u with
 |slice c=>
   grind [gg]
 |map=>cases uU h
 |_=>simp[gg]at h<;>(split at h<;>simp at h)
def qkX{P:aX}{u:TypeDesc}{n e s:Nat}(h:gg P u=Z (.array n e s)):u=.array n e/\∃i,P.info? e=Z i/\i.size=s:=by
 cases u with
 |array a b=>
   grind [gg]
 |map=>cases uU h
 |_=>simp[gg]at h<;>((split at h<;>try (split at h))<;>simp at h)
def KF{P:aX}{u:TypeDesc}{b:aa (Nat×Nat×Bool)}(h:gg P u=Z (.struct b)):∃F,u=.struct F/\fieldsOf P (V F)=Z b:=by
 cases u with
 |struct F=>
   simp only[gg]at h;cases a:fieldsOf P (V F) with
   |none=>rw[a]at h;cases h
   |some l=>rw[a]at h;cases h;exact⟨F,rfl,a⟩
 |slice e=>simp only[gg]at h;split at h<;>(try split at h)<;>cases h
 |array n e=>simp only[gg]at h;split at h<;>cases h
 |map=>cases uU h
 |_=>simp[gg]at h
def EV{P:aX}:∀{F:aa Field}{a:aa (Nat×Nat×Bool)},fieldsOf P F=Z a->I F=I a/\∀(i:Nat) (x:Nat×Nat×Bool),a[i]?=Z x->∃f fi u,F[i]?=Z f/\P.info? f.type=Z fi/\P.underlying f.type=Z u/\x=(f.offset,fi.size,sV u)
 |[],a,h=>by simp[fieldsOf]at h;subst h;exact⟨rfl,λ i x b=>by simp at b⟩
 |f::F,a,h=>by
   simp only[fieldsOf]at h;split at h
   .next i u l e d c=>cases h;let⟨j,g⟩:=EV c;grind
   .cases h
def dU(P:aX)(Γ:Gh)(σ:St)(w:ao)(o:Oper)(ρ:bw->ah)(x:AV)(σ':ac St):Prop:=
 ∃a u w' Γ',(execOp ρ o).run P w=.ok a w'/\(a=.value u\/(a=.skip/\u=undef))/\Ext Γ w Γ' w'/\Inv Γ' (turn σ σ') w'/\Rep Γ' x u
def dU.val{P:aX}{Γ:Gh}{σ:St}{w:ao}{o:Oper}{ρ:bw->ah}{x:AV}{u:ah}(h:(execOp ρ o).run P w=.ok (.value u) w)(b:Inv Γ σ w)(a:Rep Γ x u):dU P Γ σ w o ρ x U:=
 ⟨_,u,w,Γ,h,.inl rfl,.refl _ _,b,a⟩
section
variable {P:aX}{C:Cfg}{Γ:Gh}{σ:St}{w:ao}{o:Oper}{tm:aa AV}{ρ:bw->ah}{x:AV}{σ':ac St}
def ch{y:ah}{u:ah}(h:Rep Γ (.v y) u):u=y:=by cases h;rfl
def W1(c:Inv Γ σ w)(b:∀y,Rep Γ (aev tm y) (ρ y))(y:bw)(a:o.op=.move y\/o.op=.assign y):dU P Γ σ w o ρ (aev tm y) U:=by
 refine .val ?_ c (b y);obtain a|a:=a<;>simp[execOp,a]
def qm7(g:Inv Γ σ w)(d:∀y,Rep Γ (aev tm y) (ρ y))(c a b:bw)(e:o.op=.pick c a b)(h:aC C tm σ o.op=Z (x,σ')):dU P Γ σ w o ρ x σ':=by
 rw[e]at h;simp only[aC]at h;split at h<;>try cases h
 .next f=>have:=ch (f▸d c);exact .val (by simp[execOp,e,this,asBool]) g (d a)
 .next f=>have:=ch (f▸d c);exact .val (by simp[execOp,e,this,asBool]) g (d b)
def yW(e:aO)(cs:aM ah)(w:ao):(newRow e cs).run P w=.ok ⟨w.heap.size,0,U⟩ (w.alloc (.cells cs e)):=by
 simp only[newRow,newObj];rfl
def uM:∀{l:aa ah},l.all bQ=O->RepL Γ (l.map .v) l/\∀u∈l,u.oneCell'=O
 |[],_=>⟨.nil,λ u h=>by cases h⟩
 |y::l,h=>by
   simp only[fm,aK]at h;let⟨c,b⟩:=uM h.2;refine⟨.cons (.v y h.1) c,λ u a=>?_⟩;obtain rfl|a:=bi.1 a
   .exact Un h.1
   .exact b u a
def qkz(g:∀t d,C.ty t=Z d->cH P t=Z d)(c:Inv Γ σ w)(e:aO)(a:o.op=.alloc e)(h:aC C tm σ o.op=Z (x,σ')):dU P Γ σ w o ρ x σ':=by
 rw[a]at h;simp only[aC]at h;split at h<;>try cases h
 rename_i d f;split at h<;>try cases h
 next b=>let⟨i,u,z,l,A,k,y,v,s,j,r⟩:=TD.inv (g e d f);let⟨n,m⟩:=uM (Γ:=Γ) b;let⟨Γ',e1,q,p⟩:=S8 c n m e;refine⟨.value (.pointer (Z ⟨w.heap.size,0,U⟩)),_,_,Γ',?_,.inl rfl,e1,q,p⟩;rw[<-j];simp[execOp,a,Instr.alloc,zeroValue,typeInfo,l,k,newVar,yW]
def qoq(d:Inv Γ σ w)(a:∀y,Rep Γ (aev tm y) (ρ y))(e:aO)(y:bw)(b:o.op=.box e y)(h:aC C tm σ o.op=Z (x,σ')):dU P Γ σ w o ρ x σ':=by
 rw[b]at h;simp only[aC]at h;split at h<;>try cases h
 split at h<;>try cases h
 next c=>let⟨g,f⟩:=(a y).cells c;let⟨Γ',e1,j,i⟩:=S8 d g f e;refine⟨.value (.pointer (Z ⟨w.heap.size,0,U⟩)),_,_,Γ',?_,.inl rfl,e1,j,i⟩;simp[execOp,b,Instr.box,newVar,yW]
def W5(Γ:Gh)(w:ao)(cs:aa AV)(b o:Nat):Prop:=∀(j:Nat) (x:AV),cs[j]?=Z x->∃u,w.cell? ⟨b,o+j,U⟩=Z u/\Rep Γ x u/\u.oneCell'=O
theorem uR(b o j:Nat):(⟨b,o,U⟩:Addr).add j=⟨b,o+j,U⟩:=by unfold Addr.add;split<;>simp_all
def qjD(l:Inv Γ σ w){y:AV}{u:ah}(m:Rep Γ y u){d:TD}{z:AV}(h:dN d σ y=Z z):∃cs o b g,W5 Γ w cs b g/\u=.pointer (Z ⟨b,g+o,U⟩)/\mj d.agg d.size cs o=Z z:=by
 cases m with
 |ptr b o B=>
   simp only[dN]at h;split at h<;>try cases h
   rename_i cs a;split at h<;>try cases h
   next n=>let⟨vs,e,K,E,g3⟩:=(l.box b cs a).cells n;refine⟨cs,o,Γ.β b,0,?_,by simp,h⟩;intro j x c;let⟨u,q,f⟩:=E.get c;refine⟨u,?_,f,g3 u (aP q)⟩;unfold World.cell?;grind
 |rpt r i o L A s F c=>
   simp only[dN]at h;split at h<;>try cases h
   rename_i R C;split at h<;>try cases h
   rename_i cs a;simp only[xX]at a;split at a<;>try cases a
   next t=>have H:=l.row r R C;have D:=c (by rw[<-H.ver (H.live a)];exact t);refine⟨cs,o,Γ.cur r,Γ.of r+i*R.k,?_,by rw[D,H.k],h⟩;intro j x c;rw[eY];exact H.cells i cs j x a c
 |ept cs o b g us G p m=>exact⟨cs,o,b,g,λ j x c=>⟨us j,(l.mem _ _ _ (p j x c)).1,m j x c,(l.mem _ _ _ (p j x c)).2⟩,rfl,h⟩
 |v x B|dead u|sl|rs|fn|agg|tup|mp=>simp[dN]at h
def Fr{t:aO}{u:TypeDesc}(h:P.underlying t=Z u)(w:ao):(isAgg t).run P w=.ok (sV u) w:=by
 cases u<;>simp[isAgg,underlying,h,sV]
def qiE{t:aO}{d:TD}(hd:cH P t=Z d){cs:aa AV}{b o' o:Nat}(hc:W5 Γ w cs b o'){z:AV}(h:mj d.agg d.size cs o=Z z):∃ u,(loadVar t ⟨b,o'+o,U⟩).run P w = .ok u w/\Rep Γ z u:=by
 obtain⟨i,u,zv,h1,h2,h3,h4,h5,h6,h7,h8⟩:=TD.inv hd;unfold mj at h;split at h
 ·rename_i hg;split at h<;>try cases h
  rename_i hle;have hle:o+d.size<=I cs:=by simpa using hle
  have hget:∀ j,j<d.size->∃ u,w.cell? ⟨b,o'+o+j,U⟩=Z u/\(∀ x,cs[o+j]?=Z x->Rep Γ x u)/\u.oneCell'=O:=by
   intro j hj;have hlt:o+j<I cs:=by omega
   obtain⟨u,a1,a2,a3⟩:=hc (o+j) _ (aV hlt);grind
  let f:Nat->ah := λ j=>(w.cell? ⟨b,o'+o+j,U⟩).getD undef
  have hf:∀ j,j<d.size->w.cell? ⟨b,o'+o+j,U⟩=Z (f j) := λ j hj=>by
   grind
  have hrun:=run_loadCells (P:=P) w ⟨b,o'+o,U⟩ d.size f (λ j hj=>by rw[uR];exact hf j hj);refine⟨.agg ((List.range d.size).map f).toArray,?_,.agg _ _ (by simp;omega) ?_ ?_⟩
  ·rw[show(loadVar t ⟨b,o'+o,U⟩)=(do if <- isAgg t then pure (.agg (<- loadCells ⟨b,o'+o,U⟩ (<- sizeOf t)))else load ⟨b,o'+o,U⟩)from rfl];simp[Sem.run_bind',Fr h2,h6,hg,sizeOf,typeInfo,h1,h4,hrun]
  ·grind
  ·grind
 ·next hg=>obtain⟨u,a1,a2,a3⟩:=hc o z h;refine⟨u,?_,a2⟩;rw[show(loadVar t ⟨b,o'+o,U⟩)=(do if <- isAgg t then pure (.agg (<- loadCells ⟨b,o'+o,U⟩ (<- sizeOf t)))else load ⟨b,o'+o,U⟩)from rfl];simp[Sem.run_bind',Fr h2,h6,hg,a1]
def Xs(c:Inv Γ σ w){t:aO}{d:TD}(e:cH P t=Z d){y:AV}{u:ah}(a:Rep Γ y u){z:AV}(h:dN d σ y=Z z):∃v A,u=.pointer (Z A)/\(loadVar t A).run P w=.ok v w/\Rep Γ z v:=by
 let⟨cs,o,b,l,i,g,f⟩:=qjD c a h;let⟨v,k,j⟩:=qiE e i f;exact⟨v,_,g,k,j⟩
def qnz(g:∀t d,C.ty t=Z d->cH P t=Z d)(c:Inv Γ σ w)(a:∀y,Rep Γ (aev tm y) (ρ y))(t:aO)(y:bw)(b:o.op=.load t y)(h:aC C tm σ o.op=Z (x,σ')):dU P Γ σ w o ρ x σ':=by
 rw[b]at h;simp only[aC]at h;split at h<;>try cases h
 rename_i d f;split at h<;>try cases h
 next z e=>let⟨v,A,k,j,i⟩:=Xs c (g t d f) (a y) e;exact .val (by simp[execOp,b,Instr.loadAt,Instr.sureAddr,k,Sem.run_bind',j]) c i
def Rt{w:ao}{g j:Nat}{t:aO}{fr:Nat×Nat}{a:aM ah}(h:w.heap[g]?=Z (.cells a t fr))(c:vB a.size fr)(d:j<a.size:=by omega):w.frozen? ⟨g,j,U⟩=Y:=by
 let⟨lo,b⟩:=fr;unfold World.frozen?;show(match w.heap[g]? with|Z (.cells _ _ (lo,b))=>J (lo<=j)&&J (j<b)|_=>Y)=Y;rw[h];have:=c j d;grind
def qhV{w:ao}{g:Nat}{t:aO}{fr:Nat×Nat}{a:aM ah}(h:w.heap[g]?=Z (.cells a t fr)):w.setRow g a.toList.toArray=w:=by
 unfold World.setRow;have:∀H:aM Obj,H=w.heap->({w with heap:=H}:ao)=w:=λ H e=>by subst e;rfl
 apply this _;apply Array.ext_getElem?;intro q;rw[ZB];split
 .next c=>subst c;rw[h];simp
 .rfl
def Sq{α:Type}{l m:aa α}{off n:Nat}(a:I m=n)(h:off+n<=I l)(q:Nat):(l.take off++(m++l.drop (off+n)))[q]?=if q<off then l[q]? else if q<off+n then m[q-off]? else l[q]?:=by
 grind
theorem JB{g:Nat}{t:aO}{fr:Nat×Nat}:∀(vs:aa ah) (o:Nat) (a:aM ah) (w:ao),w.heap[g]?=Z (.cells a t fr)->o+I vs<=a.size->w.setCells g o vs=w.setRow g (a.toList.take o++(vs++a.toList.drop (o+I vs))).toArray
 |[],o,a,w,h,_=>by
   rw[World.setCells,fE,dE,fS,oP];exact(qhV h).symm
 |v::vs,o,a,w,h,c=>by
   rw[bG]at c;have b:o<a.size:=by omega
   have d:w.setCell ⟨g,o,U⟩ v=w.setRow g (a.setIfInBounds o v):=setCell_eq_setRow w g o a t fr v h;rw[World.setCells,d,JB vs (o+1) (a.setIfInBounds o v) _ (setRow_heap w g a _ t fr h) (by rw[OY];omega),setRow_setRow];congr 2
   have e1:(a.toList.set o v).take (o+1)=a.toList.take o++[v]:=by
    rw[lJ,OZ (al _),gh (by simpa using b)];rfl
   have e:(a.toList.set o v).drop (o+1+I vs)=a.toList.drop (o+I (v::vs)):=by
    rw[ZC (by omega),bG];congr 1;omega
   grind
def qbz{w:ao}{g:Nat}{t:aO}{fr:Nat×Nat}{a:aM ah}(h:w.heap[g]?=Z (.cells a t fr))(b:vB a.size fr)(o:Nat)(vs:aa ah)(c:o+I vs<=a.size)(e:∀v∈vs,v.oneCell'=O):
  (storeCells ⟨g,o,U⟩ vs 0).run P w=.ok () (w.setRow g (a.toList.take o++(vs++a.toList.drop (o+I vs))).toArray):=by
 have:=run_storeCells_cells (P:=P) g o vs 0 w (λ j d=>by
  rw[jp h,gi (show o+0+j<a.size by omega)];rfl) (λ j d=>Rt h b) e
 rw[dE,JB vs o a w h c]at this;exact this
def qgr(hC:∀t d,C.ty t=Z d->cH P t=Z d)(hi:Inv Γ σ w)(D:∀y,Rep Γ (aev tm y) (ρ y))(t:aO)(y z:bw)(ho:o.op=.store t y z){d:TD}(hd:C.ty t=Z d){r i off ep:Nat}(hp:aev tm y=.rpt r i off ep){R R':Row}(hR:σ.rw[r]?=Z R)
  (F:ya R i off ep d.size (cellsOf (aev tm z))=Z R'):dU P Γ σ w o ρ (.tup []) (Z {σ with rw:=σ.rw.set r R',wrr:=r::σ.wrr}):=by
 unfold ya at F;split at F<;>try cases F
 rename_i B n a;simp only[aK,cC,bJ]at n;let⟨⟨L,az,aE,S,h⟩,Q⟩:=n
 have v:(cellsOf (aev tm z)).all isC=O:=bJ.2 λ x f=>by
  have:=Q x f;cases x<;>first|rfl|(simp[br]at this)
 let⟨ii,u,zv,h1,h2,h3,h4,h5,h6,h7,h8⟩:=TD.inv (hC t d hd);have H:=hi.row r R hR
 have E:ρ y=.pointer (Z ⟨Γ.cur r,i*R.k+off,U⟩):=by
  have s:=hp▸D y;generalize ρ y=u0 at s;cases s with
  |rpt _ _ _ _ A a1 hv hl=>rw[hl (by rw[<-H.ver (H.live a)];exact L),H.k,H.off h,cI]
 let⟨g1,g2⟩:=(D z).cells v;have gl:=(D z).cells_len v;let⟨vs,e,fr,T,c2,c3,_⟩:=H.blk (H.real a);have ax:=getElem?_lt a;have a3:=H.len B (aP a)
 have a2:i*R.k+R.k<=vs.size:=by
  calc i*R.k+R.k=(i+1)*R.k:=by rw[dD,HZ]
   _<=I R.c*R.k:=cj _ ax
   _<=Γ.sz r:=by have:=H.fit;omega
   _=vs.size:=c2.symm
 have b:(ρ z).cells.toList.length=d.size:=by simp;omega
 have p:=qbz (P:=P) T c3 (i*R.k+off) (ρ z).cells.toList (by rw[b];omega) g2;rw[b]at p;have X:i*R.k+off+d.size<=I (V vs):=by simp;omega
 have N:=λ q=>Sq b X q;have M:=λ q=>Sq (l:=B) (m:=cellsOf (aev tm z)) (off:=off) S (by omega) q
 let⟨Γ',f1,f2⟩:=Kk hi hR a az h (e1:=B.take off++(cellsOf (aev tm z)++B.drop (off+d.size))) (by simp;omega)
  (by
   intro x f;obtain f|f:=bc.1 f
   .exact H.plain B (aP a) x (jf f)
   .obtain f|f:=bc.1 f
    .exact Q x f
    .exact H.plain B (aP a) x (iP f))
  (vs':=(vs.toList.take (i*R.k+off)++((ρ z).cells.toList++vs.toList.drop (i*R.k+off+d.size))).toArray)
  (w':=w.setRow (Γ.cur r) (vs.toList.take (i*R.k+off)++((ρ z).cells.toList++vs.toList.drop (i*R.k+off+d.size))).toArray)
  (by
   intro a0 e2 a4 hv;rw[T]at hv;cases hv;refine⟨setRow_heap w _ _ _ _ _ T,?_,λ q hq=>?_⟩
   .simp only[kN,aU,bD,je,b,jg];omega
   .rw[OX,N q];have ab:vs[q]?=vs.toList[q]?:=by simp
    rw[ab];split
    .rfl
    .rw[ifN])
  (by
   intro j x G;rw[OX,N];rw[M]at G
   have K:∀x',B[j]?=Z x'->∃u,vs.toList[i*R.k+j]?=Z u/\Rep Γ x' u/\u.oneCell'=O:=by
    intro x' W;let⟨u,E,g,h1⟩:=H.cells i B j x' a W;rw[jp T,H.off h,cI]at E;exact⟨u,by simpa using E,g,h1⟩
   split at G
   .next ar=>rw[ifP];exact K x G
   .rename_i ar;split at G
    .next an=>rw[ifN,ifP];let⟨u,E,g⟩:=g1.get G;exact⟨u,by rw[show i*R.k+j-(i*R.k+off)=j-off by omega];exact E,g,g2 u (aP E)⟩
    .next an=>rw[ifN,ifN];exact K x G)
  (λ k hk=>setRow_other w _ k _ hk) rfl rfl rfl (by simp) (al _) (r::σ.wrr)
 refine⟨.skip,undef,_,Γ',?_,.inr ⟨rfl,rfl⟩,f1,f2,.tup [] [] rfl λ i x u f=>by simp at f⟩;have ad:(ρ z).cells.size=ii.size:=by omega
 simp[execOp,ho,Instr.storeAt,Instr.sureAddr,E,storeVar,sizeOf,typeInfo,h1,Sem.run_bind',ad,p,bE]
def qlw(hC:∀ t d,C.ty t=Z d->cH P t=Z d)(hi:Inv Γ σ w)(hρ : ∀ y,Rep Γ (aev tm y) (ρ y))(t:aO)(y z:bw)(ho:o.op = .store t y z)(h:aC C tm σ o.op=Z (x,σ')):dU P Γ σ w o ρ x σ':=by
 rw[ho]at h;simp only[aC]at h;split at h<;>try cases h
 case h_2 =>
  rename_i d r i off ep hd hp;split at h<;>try cases h
  next R hR=>split at h<;>cases h;next R' hst=>exact qgr hC hi hρ t y z ho hd hp hR hst
 rename_i d b off hd hp;split at h<;>try cases h
 rename_i cs hcs;split at h<;>try cases h
 rename_i hcond;simp only[aK,cC]at hcond;obtain⟨⟨⟨hnm,hl⟩,hfit⟩,hone⟩:=hcond;obtain⟨i,u,zv,h1,h2,h3,h4,h5,h6,h7,h8⟩:=TD.inv (hC t d hd);have hptr:=hp▸hρ y
 have hu : ρ y = .pointer (Z ⟨Γ.β b,off,U⟩):=by
  generalize ρ y=u0 at hptr;cases hptr;rfl
 obtain⟨g1,g2⟩:=(hρ z).cells hone;have gl:=(hρ z).cells_len hone;obtain⟨vs,e,c1,c2,c3⟩:=(hi.box b cs hcs).cells hnm;have hvl:vs.size=I cs:=by simpa using c2.len
 have hrun:=run_storeCells_at P (Γ.β b) off e (ρ z).cells.toList 0 vs w c1 (by simp;omega) g2;simp only[dE]at hrun;have hvl2:(ρ z).cells.toList.length=d.size:=by simp;omega
 rw[hvl2]at hrun
 obtain⟨e1,e2⟩:=qjH hi hcs hnm (cs':=cs.take off++(cellsOf (aev tm z)++cs.drop (off+d.size))) (vs':=vs.toList.take off++((ρ z).cells.toList++vs.toList.drop (off+d.size)))
  ((c2.take off).append (g1.append (c2.drop _))) (by
    intro v hv;rcases bc.1 hv with hv | hv
    ·exact c3 v (jf hv)
    ·rcases bc.1 hv with hv | hv
     ·exact g2 v hv
     ·exact c3 v (iP hv)) (b :: σ.wr) (w.setRow (Γ.β b) (vs.toList.take off++((ρ z).cells.toList++vs.toList.drop (off+d.size))).toArray) (λ vs' e' hvs=>setRow_heap w _ vs' _ e' (0,0) hvs) (λ k hk=>setRow_other w _ k _ hk) rfl rfl rfl (by simp) (al _)
 refine⟨.skip,undef,_,Γ,?_,.inr ⟨rfl,rfl⟩,e1,e2,.tup [] [] rfl λ i x u hx=>by simp at hx⟩;have hsz:(ρ z).cells.size=i.size:=by omega
 simp[execOp,ho,Instr.storeAt,Instr.sureAddr,hu,storeVar,sizeOf,typeInfo,h1,Sem.run_bind',hsz,hrun,bE]
def qn0(f:Inv Γ σ w)(b:∀y,Rep Γ (aev tm y) (ρ y))(y:bw)(c:o.op=.nilCheck y)(h:aC C tm σ o.op=Z (x,σ')):dU P Γ σ w o ρ x σ':=by
 rw[c]at h;simp only[aC]at h;have a:=b y;split at h<;>try cases h
 all_goals
  next e=>rw[e]at a;refine .val ?_ f a;generalize d:ρ y=u0 at a;cases a;simp[execOp,c,d]
end
abbrev dI:=@TD.inv
end
section
open RowKit
section
variable {P:aX}{C:Cfg}{Γ:Gh}{σ:St}{w:ao}{o:Oper}{tm:aa AV}{ρ:bw->ah}{x:AV}{σ':ac St}
def toList_eq(a:gS):a.toList=a.data.toList:=by rw[ByteArray.toList_eq]
def qoi{op:mN}{k:IntKind}{a b:Int}{z:ah}(h:A7 op k a b=Z z)(t:aO):Go.binOp op t (.int k a) (.int k b) = .pure z/\bQ z=O:=by
 cases op<;>simp only[A7]at h<;>try cases h
 all_goals first
  | exact⟨by simp[Go.binOp,Op.intArith,Op.intBits,Op.intCmp,iw,aD,cr,Oh,qP,ieq,ilt,ile,au]<;>first | rfl | (congr 1;simp[bne];done),rfl⟩
  | (split at h
     ·cases h
     ·rename_i d;cases h;have c:b≠0:=by simpa[ieq]using d
      exact⟨by simp[Go.binOp,Op.intDiv,OM,Oc,iw,c];rfl,rfl⟩)
def qn7{op:mN}{a b:gS}{z:ah}(h:Bb op a b=Z z)(t:aO):Go.binOp op t (.string a) (.string b) = .pure z/\bQ z=O:=by
 cases op<;>simp only[Bb]at h<;>try cases h
 all_goals first
  | exact⟨by simp[Go.binOp,Op.stringOp,xeq,xlt,tf,au,toList_eq];rfl,rfl⟩
  | (split at h<;>cases h
     rename_i z c;simp only[Hu]at c;split at c<;>cases c;rename_i d;exact⟨by simp only[Go.binOp,Op.stringOp];rw[af d];rfl,rfl⟩)
def qnW{op:mN}{a b z:ah}(h:sO op a b=Z z)(t:aO)(X W:bw):(eqGuard op t X W a b).run P w=.ok () w/\(Go.binOp op t a b).run P w=.ok z w/\bQ z=O:=by
 have guard:∀(k e:IntKind) (m n:Int),(eqGuard op t X W (.int k m) (.int e n)).run P w=.ok () w:=λ k e m n=>by cases op<;>simp[eqGuard]
 have c:∀(m n:gS),(eqGuard op t X W (.string m) (.string n)).run P w=.ok () w:=λ m n=>by cases op<;>simp[eqGuard]
 unfold sO at h;split at h
 .rename_i k a e b;split at h
  .split at h<;>cases h;rename_i g;have d:¬ b<0:=by simpa[ilt]using g
   refine⟨guard _ _ _ _,?_,rfl⟩;simp[Go.binOp,Op.shift,d,OA]
  .split at h<;>cases h;rename_i g;have d:¬ b<0:=by simpa[ilt]using g
   refine⟨guard _ _ _ _,?_,rfl⟩;simp[Go.binOp,Op.shift,d,qO]
  .split at h<;>try cases h
   rename_i l;have f:k=e:=by simpa using l
   subst f;let⟨j,i⟩:=qoi h t;refine⟨guard _ _ _ _,?_,i⟩;rw[j];rfl
 .next a b=>let⟨j,i⟩:=qn7 h t;refine⟨c _ _,?_,i⟩;rw[j];rfl
 .cases h
def XN{u:TypeDesc}(h:gg P u=Z .ptr):∃e,u=.pointer e:=by
 cases u<;>(try (cases uU h;done))<;>simp only[gg]at h<;>first|exact⟨_,rfl⟩|(cases h;done)|skip
 all_goals (repeat' (first|(cases h;done)|split at h))
 rename_i b;cases a:fieldsOf P (V b) with
 |none|some l=>rw[a]at h;cases h
def qmh{y:AV}{u:ah}(h:Rep Γ y u)(a:Ax y=O):∃A,u=.pointer (Z A):=by
 cases h with
 |ptr|rpt|ept=>exact⟨_,rfl⟩
 |_=>cases a
def qmW{y:AV}(h:A9 y=O):y=.v (.pointer U):=by
 unfold A9 at h;split at h
 .rfl
 .cases h
def RN{t e:aO}(h:P.underlying t=Z (.pointer e)):P.underlying t=Z (.pointer (P.pointee t)):=by
 unfold Program.pointee;rw[h]
def qoa(G:∀t d,C.ty t=Z d->cH P t=Z d)(D:Inv Γ σ w)(c:∀y,Rep Γ (aev tm y) (ρ y))(op:mN)(t:aO)(y z:bw)(u:aO)(q:o.op=.binOp op t y z u)(h:aC C tm σ o.op=Z (x,σ')):dU P Γ σ w o ρ x σ':=by
 have g:∀(m n:Bool),(eqGuard op t y z (.bool m) (.bool n)).run P w=.ok () w:=λ m n=>by cases op<;>simp[eqGuard]
 have e:∀(m n:ac Addr),(eqGuard op t y z (.pointer m) (.pointer n)).run P w=.ok () w:=λ m n=>by cases op<;>simp[eqGuard]
 rw[q]at h;simp only[aC]at h;split at h<;>try cases h
 .rename_i a b B s;have k:=ch (B▸c y);have j:=ch (s▸c z);split at h<;>cases h
  all_goals
   next X W T S r=>let⟨i,u,H,R,p,Q,N,M,L,K,l⟩:=dI (G t _ r);have E:=qnm l;subst E;refine .val ?_ D (.v _ rfl);have f:=run_equal_bool (P:=P) w t a b p;simp[execOp,q,k,j,Sem.run_bind',g,Go.binOp,f,eE,au]
 .rename_i B s;have k:=ch (B▸c y);have j:=ch (s▸c z);split at h<;>cases h
  all_goals
   next X W T S r=>let⟨i,u,H,R,p,Q,N,M,L,K,l⟩:=dI (G t _ r);obtain⟨pe,rfl⟩:=XN l;refine .val ?_ D (.v _ rfl);have f:=run_equal_pointer_nil (P:=P) w t U (RN p);simp[execOp,q,k,j,Sem.run_bind',e,Go.binOp,f]
 .next a b _ _ B s=>have k:=ch (B▸c y);have j:=ch (s▸c z);split at h<;>cases h;next zz hz=>let⟨g0,g1,g2⟩:=qnW (P:=P) (w:=w) hz t y z;refine .val ?_ D (.v _ g2);simp[execOp,q,k,j,Sem.run_bind',g0,g1]
 .split at h<;>cases h
  all_goals
   next X W T S F r=>rw[aK]at F;let⟨i,u,H,R,p,Q,N,M,L,K,l⟩:=dI (G t _ r);obtain⟨pe,rfl⟩:=XN l;let⟨A,k⟩:=qmh (c y) F.1;have j:=ch (qmW F.2▸c z);refine .val ?_ D (.v _ rfl);have f:=run_equal_pointer_nil (P:=P) w t (Z A) (RN p);simp[execOp,q,k,j,Sem.run_bind',e,Go.binOp,f]
def qoE(e:Inv Γ σ w)(b:∀y,Rep Γ (aev tm y) (ρ y))(op:UnOp)(t:aO)(y:bw)(d:o.op=.unOp op t y)(h:aC C tm σ o.op=Z (x,σ')):dU P Γ σ w o ρ x σ':=by
 rw[d]at h;simp only[aC]at h;split at h<;>try cases h
 rename_i a g;have f:=ch (g▸b y);split at h<;>cases h;rename_i z c;unfold unA at c;split at c<;>cases c
 .exact .val (by simp[execOp,d,f,Op.unary,Op.intArith,iw,cr]) e (.v _ rfl)
 .exact .val (by simp[execOp,d,f,Op.unary,au]) e (.v _ rfl)
def La(a:∀y,Rep Γ (aev tm y) (ρ y)):∀l:aa bw,RepL Γ (l.map (aev tm)) (l.map ρ)
 |[]=>.nil
 |y::l=>.cons (a y) (La a l)
def qoC(i:Inv Γ σ w)(b:∀y,Rep Γ (aev tm y) (ρ y))(f:Fn)(d cs:aM bw)(e:o.op=.makeFunc f d cs)(h:aC C tm σ o.op=Z (x,σ')):dU P Γ σ w o ρ x σ':=by
 rw[e]at h;cases f with
 |func f=>?_
 |_=>simp only[aC]at h;cases h
 simp only[aC]at h;split at h<;>cases h;rename_i c
 have a:d = #[]:=by
  rw[<-O0 (xs:=d),c]
 subst a;have g:=La b (V cs);refine .val (u:=.func (.func f) #[] (cs.toList.map ρ).toArray) ?_ i (.fn f _ _ g.len g.rep);simp[execOp,e,Instr.makeFunc];rw[<-H3]
def qii(l:Inv Γ σ w)(b:∀y,Rep Γ (aev tm y) (ρ y))(y:bw)(i:Nat)(e:o.op=.extract y i)(h:aC C tm σ o.op=Z (x,σ')):dU P Γ σ w o ρ x σ':=by
 rw[e]at h;simp only[aC]at h;split at h<;>try cases h
 rename_i vs f;split at h<;>cases h;rename_i z c;have d:=f▸b y;generalize g:ρ y=u0 at d;cases d with
 |tup cs us k j=>
   have a:i<I us:=by rw[k];exact getElem?_lt c
   refine .val ?_ l (j i _ _ c (aV a));simp[execOp,e,g,Instr.extract,a]
def qg1(hC:∀t d,C.ty t=Z d->cH P t=Z d)(s:Inv Γ σ w)(B:∀y,Rep Γ (aev tm y) (ρ y))(t:aO)(y:bw)(i:Nat)(E:o.op=.fieldAddr t y i)(h:aC C tm σ o.op=Z (x,σ')):dU P Γ σ w o ρ x σ':=by
 rw[E]at h;simp only[aC]at h;split at h<;>try cases h
 rename_i _ _ _ _ fs T;split at h<;>try cases h
 rename_i off size g S;split at h<;>try cases h
 rename_i _ sz;let⟨ii,u,zv,q1,G,q3,q4,q5,q6,q7,M⟩:=dI (hC t _ T);obtain⟨F,rfl,X⟩:=KF M;let⟨f1,f2⟩:=EV X;let⟨f,fi,fu,g1,L,g3,K⟩:=f2 i _ S;simp only[fo]at K;obtain⟨rfl,Q,rfl⟩:=K;have p:F[i]?=Z f:=by rw[<-g1];simp
 have n:fi.size≠0:=by omega
 have e:∀b a,ρ y=.pointer (Z ⟨b,a,U⟩)->(execOp ρ o).run P w=.ok (.value (.pointer (Z ⟨b,a+f.offset,U⟩))) w:=by
  intro b a k;simp[execOp,E,k,Instr.fieldAt,underlying,G,p,Instr.sureAddr,fieldPlace,sizeOf,typeInfo,L,n,uR]
 have c:=B y;split at h<;>try cases h
 .rename_i k;rw[k]at c;generalize l:ρ y=u0 at c;cases c;rename_i b z W;exact .val (e _ _ l) s (.ptr _ _ W)
 .rename_i k;rw[k]at c;generalize l:ρ y=u0 at c;cases c;rename_i r j z ep A m H N;by_cases q:Γ.ver r=ep
  .have hA:=N q;subst hA;exact .val (e _ _ l) s (.rpt _ _ _ _ _ m H λ _=>by rw[eY])
  .refine .val (u:=.pointer (Z (A.add f.offset))) ?_ s (.rpt _ _ _ _ _ m H λ h=>absurd h q);simp[execOp,E,l,Instr.fieldAt,underlying,G,p,Instr.sureAddr,fieldPlace,sizeOf,typeInfo,L,n]
 .rename_i k;rw[k]at c;generalize l:ρ y=u0 at c;cases c;rename_i cs z b v us D q R;refine .val (e _ _ l) s ?_;rw[eY];exact .ept cs (z+f.offset) b v us D q R
def qmO{f:aO}{fi:TypeInfo}{j:TypeDesc}(k:P.info? f=Z fi)(i:P.underlying f=Z j){cs:aa AV}{us:aa ah}(g:RepL Γ cs us)(b:∀u∈us,u.oneCell'=O){off:Nat}{z:AV}(h:mj (sV j) fi.size cs off=Z z):
  ∃u,(part f us.toArray off).run P w=.ok u w/\Rep Γ z u:=by
 unfold mj at h;split at h
 .rename_i e;split at h<;>cases h;rename_i c;have c:off+fi.size<=I cs:=by simpa using c
  refine⟨.agg ((us.drop off).take fi.size).toArray,?_,?_⟩
  .simp[part,Sem.run_bind',Fr i,e,sizeOf,typeInfo,k]
  .have:=(g.drop off).take fi.size;exact .agg _ _ this.len (λ u d=>b u (iP (jf d))) this.rep
 .next e=>let⟨u,d,a⟩:=g.get h;refine⟨u,?_,a⟩;simp[part,Sem.run_bind',Fr i,e,d]
def qky(E:∀t d,C.ty t=Z d->cH P t=Z d)(s:Inv Γ σ w)(a:∀y,Rep Γ (aev tm y) (ρ y))(t:aO)(y:bw)(i:Nat)(j:o.op=.field t y i)(h:aC C tm σ o.op=Z (x,σ')):dU P Γ σ w o ρ x σ':=by
 rw[j]at h;simp only[aC]at h;split at h<;>try cases h
 rename_i _ _ _ _ fs cs B b;split at h<;>try cases h
 rename_i off size g A;split at h<;>cases h;rename_i z n;let⟨ii,u,N,X,m,W,T,S,R,Q,l⟩:=dI (E t _ B);obtain⟨F,rfl,D⟩:=KF l;let⟨f1,L⟩:=EV D;let⟨f,fi,fu,K,H,g3,k⟩:=L i _ A;simp only[fo]at k;obtain⟨rfl,rfl,rfl⟩:=k;have c:F[i]?=Z f:=by rw[<-K];simp
 have e:=b▸a y;generalize p:ρ y=u0 at e;cases e with
 |agg _ us r G q=>
   let⟨v,e1,M⟩:=qmO (P:=P) (w:=w) H g3 (Γ:=Γ) ⟨r,q⟩ G n;refine .val ?_ s M;simp[execOp,j,p,Instr.field,underlying,m,c,asAgg,Sem.run_bind',e1]
def ql3(D:∀t d,C.ty t=Z d->cH P t=Z d)(r:Inv Γ σ w)(a:∀y,Rep Γ (aev tm y) (ρ y))(t:aO)(y z:bw)(g:o.op=.index t y z)(h:aC C tm σ o.op=Z (x,σ')):dU P Γ σ w o ρ x σ':=by
 rw[g]at h;simp only[aC]at h;split at h<;>try cases h
 rename_i _ _ _ _ s k j B p q;split at h<;>cases h;rename_i b e;have F:=ch (p▸a y);have E:=ch (q▸a z);let⟨S,u,H,R,m,Q,N,M,L,K,l⟩:=dI (D t _ B);have n:=xa l;subst n;simp only[Hq]at e;split at e<;>try cases e
 rename_i G;split at e<;>cases e;rename_i c i;refine .val ?_ r (.v _ rfl);have f:j.toNat<s.size:=by have:=getElem?_lt i;simpa using this
 have A:s[j.toNat]=c:=by
  have:=(dV.1 i).2;simp at this;exact this
 simp[execOp,g,F,E,Instr.index,asIntOf,underlying,m,G,f,A]
end
end
section
open RowKit
section
variable {P:aX}{C:Cfg}{Γ:Gh}{σ:St}{w:ao}{o:Oper}{tm:aa AV}{ρ:bw->ah}{x:AV}{σ':ac St}
def qg8(hC:∀t d,C.ty t=Z d->cH P t=Z d)(G:Inv Γ σ w)(i:∀y,Rep Γ (aev tm y) (ρ y))(t:aO)(y z:bw)(W:o.op=.indexAddr t y z)(h:aC C tm σ o.op=Z (x,σ')):dU P Γ σ w o ρ x σ':=by
 rw[W]at h;simp only[aC]at h;split at h<;>try cases h
 .rename_i _ _ _ e k bb zz kk j hd hj;have h2:=ch (hj▸i z);let⟨ii,u,zv,q1,L,q3,q4,q5,q6,q7,K⟩:=dI (hC t _ hd);obtain⟨rfl,ie,ze,N,p2,M,p4,p5⟩:=oh K;have g:=i y
  have s:∀b off n cap,ρ y=.slice (Z ⟨b,off,U⟩) n cap->0<=j->j<n->(execOp ρ o).run P w=.ok (.value (.pointer (Z ⟨b,off+j.toNat*k,U⟩))) w:=by
   intro b off n cap m D F;simp[execOp,W,m,h2,Instr.indexAt,asIntOf,underlying,L,D,F,sizeOf,typeInfo,N,M,uR]
  split at h<;>try cases h
  .rename_i k' es f m;split at h<;>try cases h
   rename_i X;have X:k'=k:=by simpa[bN]using X
   subst X;split at h<;>cases h;rename_i cs c;simp only[Hv]at c;split at c<;>try cases c
   rename_i D;rw[m]at g;generalize v:ρ y=u0 at g;cases g with
   |sl _ _ _ a n cap b E us F hc hf B T ar ha hm hr=>
     have A:=getElem?_lt c;have ad:a=Z ⟨b,E,U⟩:=ha.resolve_left λ he=>by rw[he]at A;simp at A
     subst ad;refine .val (s _ _ _ _ v D (by omega)) G ?_;exact .ept cs 0 b (E+j.toNat*k') (us j.toNat) (λ x l=>T cs (aP c) x l) (λ q x l=>hm _ cs q x c l) (λ q x l=>hr _ cs q x c l)
  .rename_i r lo n ep f m;split at h<;>try cases h
   rename_i R hR;split at h<;>cases h;rename_i q S;simp only[MP]at S;split at S<;>cases S;rename_i hc;let⟨c1,c2,c3,c4,c5⟩:=hc;have H:=G.row r R hR;rw[m]at g;generalize v:ρ y=u0 at g;cases g with
   |rs _ _ _ _ _ a cap Q hv an hf l=>
     let⟨g2,g3⟩:=l (by rw[<-H.ver (H.liveN c5 (by omega))];exact c4);have p:cap≠0:=by omega
     have ha:=g2.resolve_left p;subst ha;refine .val (s _ _ _ _ v c2 c3) G (.rpt _ _ _ _ _ Q hv λ _=>?_);have B:k=Γ.k r:=by rw[<-c1];exact H.k
     rw[B,dD];simp
 .rename_i n e k _ j hd hj;have h2:=ch (hj▸i z);let⟨ii,u,zv,q1,L,q3,q4,q5,q6,q7,K⟩:=dI (hC t _ hd);obtain⟨rfl,ie,N,M⟩:=qkX K;split at h<;>try cases h
  rename_i b E m;split at h<;>cases h;rename_i hb;let⟨D,F⟩:=bH hb;have g:=i y;rw[m]at g;generalize v:ρ y=u0 at g;cases g with
  |ptr _ _ ab=>
    refine .val (u:=.pointer (Z ⟨Γ.β b,E+j.toNat*k,U⟩)) ?_ G (.ptr _ _ ab);simp[execOp,W,v,h2,Instr.indexAt,Instr.sureAddr,asIntOf,underlying,L,D,F,sizeOf,typeInfo,N,M,uR]
def Xz{y:Nat}{v:ah}{a:AV}(c:Rep Γ a v){n:Nat}(h:GZ y a=Z n)(m:Nat)(f:y<=m)(b:BoundsCode):(Instr.sliceBound v m b).run P w=.ok n w/\n<=y:=by
 unfold GZ at h;split at h
 .rename_i k i;have:=ch c;subst this;simp only[bnd]at h;split at h<;>cases h;rename_i d;have e:0<=i/\i<=m:=⟨d.1,by omega⟩
  exact⟨by simp[Instr.sliceBound,asIntOf,e],by omega⟩
 .cases h
def E9(c:∀y,Rep Γ (aev tm y) (ρ y)){isS:Bool}{a cap:Nat}(d:a<=cap){lo b:ac bw}{l h:Nat}(f:iK a a (b.map (aev tm))=Z h)(e:iK 0 h (lo.map (aev tm))=Z l):
  (Instr.sliceBounds isS a cap (lo.map ρ) (b.map ρ) U).run P w=.ok (l,h,cap) w/\l<=h/\h<=a:=by
 have H:(match b.map ρ with|some v=>Instr.sliceBound v cap (if isS then .sliceAcap else .sliceAlen)|none=>pure a:Sem Nat).run P w=.ok h w/\h<=a:=by
  cases b with
  |none=>simp only[iK,H4]at f;cases f;exact⟨by simp,al _⟩
  |some y=>exact Xz (c y) (by simpa[iK]using f) cap d _
 have L:(match lo.map ρ with|some v=>Instr.sliceBound v h .sliceB|none=>pure 0:Sem Nat).run P w=.ok l w/\l<=h:=by
  cases lo with
  |none=>simp only[iK,H4]at e;cases e;exact⟨by simp,aL _⟩
  |some y=>exact Xz (c y) (by simpa[iK]using e) h (al _) _
 refine⟨?_,L.2,H.2⟩;cases b with
 |none=>
   cases lo with
   |none=>simp only[H4]at H L;simp at H L;simp[Instr.sliceBounds,H,L]
   |some y=>simp only[H4,lK]at H L;simp at H;simp[Instr.sliceBounds,H,L.1]
 |some z=>
   cases lo with
   |none=>simp only[H4,lK]at H L;simp at L;simp[Instr.sliceBounds,H.1,L]
   |some y=>simp only[lK]at H L;simp[Instr.sliceBounds,H.1,L.1]
def qma(hC:∀t d,C.ty t=Z d->cH P t=Z d)(hi:Inv Γ σ w)(c:∀y,Rep Γ (aev tm y) (ρ y))(t:aO)(y:bw)(lo X mx:ac bw)(S:o.op=.slice t y lo X mx)(h:aC C tm σ o.op=Z (x,σ')):dU P Γ σ w o ρ x σ':=by
 rw[S]at h;cases mx with
 |some m=>simp only[aC]at h;cases h
 |none=>
 simp only[aC]at h;split at h<;>try cases h
 .rename_i _ _ _ _ s L hs;have h1:=ch (hs▸c y);let⟨ii,u,zv,q1,F,q3,q4,q5,q6,q7,E⟩:=dI (hC t _ L);have G:=xa E;subst G;split at h<;>try cases h
  rename_i q p;split at h<;>cases h;rename_i l g;let⟨z,b2,b3⟩:=E9 (P:=P) (w:=w) c (isS:=Y) (al _) p g;refine .val ?_ hi (.v _ rfl);simp[execOp,S,h1,Instr.sliceAt,Instr.slice,underlying,F,Sem.run_bind',qN]at z |-
  simp[z,Bf]
 .rename_i _ _ _ e k bb zz k' es f L Q;split at h<;>try cases h
  rename_i W;rw[aK]at W;have az:0<f:=bH W.2;have W:k'=k:=by simpa[bN]using W.1
  subst W;split at h<;>try cases h
  rename_i q p;split at h<;>cases h;rename_i l g;let⟨ii,u,zv,q1,F,q3,q4,q5,q6,q7,E⟩:=dI (hC t _ L);obtain⟨rfl,ie,ze,D,p2,B,p4,p5⟩:=oh E;have N:=Q▸c y;generalize G:ρ y=u0 at N;cases N with
  |sl _ _ _ a n cap b oo us hn hc hf an ab a0 ha hm hr=>
    subst hn;have hc:=hc az;let⟨z,b2,b3⟩:=E9 (P:=P) (w:=w) c (isS:=O) hc p g;have b3:q<=I es:=b3;have z:(Instr.sliceBounds O (I es) cap (lo.map ρ) (X.map ρ) U).run P w=.ok (l,q,cap) w:=z;refine .val (u:=.slice (if cap=l then a else a.map (·.add (l*k'))) (q-l) (cap-l)) ?_ hi ?_
    .simp[execOp,S,G,Instr.sliceAt,Instr.slice,underlying,F,Sem.run_bind',sizeOf,typeInfo,D,B];rw[z];simp[D,B]
    .simp only[Ht];refine .sl k' _ _ _ _ _ b (oo+l*k') (λ i j=>us (l+i) j) (by simp;omega) (λ _=>by omega) ?_ (λ e he=>an e (jf (iP he))) (λ e he=>ab e (jf (iP he))) a0 ?_ ?_ ?_
     .intro A;unfold lvS at A;split at A
      .next hb=>rw[aK]at hb;have h1:=hf (bH hb.1);have h2:q=I es:=bH hb.2;rw[h1,h2]
      .exact absurd A (by decide)
     .obtain ha|ha:=ha
      .left;subst ha;simp
      .by_cases M:cap=l
       .grind
       .right;subst ha;rw[af M];simp[uR]
     .grind
     .grind
 .rename_i _ _ _ e k bb zz L Q;split at h<;>try cases h
  rename_i q p;split at h<;>cases h;rename_i l g;let⟨ii,u,zv,q1,F,q3,q4,q5,q6,q7,E⟩:=dI (hC t _ L);obtain⟨rfl,ie,ze,D,p2,B,p4,p5⟩:=oh E;have G:=ch (Q▸c y);let⟨z,b2,b3⟩:=E9 (P:=P) (w:=w) c (isS:=O) (al 0) p g;have ax:q=0:=by omega
  have ad:l=0:=by omega
  subst ax;subst ad;refine .val (u:=.slice U 0 0) ?_ hi (.v _ rfl);simp[execOp,S,G,Instr.sliceAt,Instr.slice,underlying,F,Sem.run_bind',sizeOf,typeInfo,D,B];rw[z];simp[D,B]
 .rename_i _ _ _ e k bb zz r oo n ep f L Q;split at h<;>try cases h
  rename_i q R p hR;split at h<;>try cases h
  rename_i l g;split at h<;>cases h;rename_i R' T K;have ar:q=n:=by simpa[bN]using T
  subst ar;simp only[G7]at K;split at K<;>cases K;rename_i aE;let⟨c0,c1,c2,c3,c4,c5⟩:=aE;let⟨ii,u,zv,q1,F,q3,q4,q5,q6,q7,E⟩:=dI (hC t _ L);obtain⟨rfl,ie,ze,D,p2,B,p4,p5⟩:=oh E;have H:=hi.row r R hR;have N:=Q▸c y;generalize G:ρ y=u0 at N;cases N with
  |rs _ _ _ _ _ a cap a2 hv hc A hx=>
    let⟨g2,g3⟩:=hx (by rw[<-H.ver c5];exact c1);let⟨z,b2,b3⟩:=E9 (P:=P) (w:=w) c (isS:=O) hc p g;let⟨Γ',f1,f2,f3⟩:=qlB hi hR c5 (l:=l) (by omega) (r::σ.wrr);subst c3;rw[c1]at f3;rw[cI,<-H.k]at g3;rw[kK,dE]at g2;have a3:(cap-l)*R.k=cap*R.k-l*R.k:=qoK _ _ _;have a1:l*R.k<=cap*R.k:=cj _ (by omega);refine⟨_,.slice (if cap=l then a else a.map (·.add (l*R.k))) (q-l) (cap-l),w,Γ',?_,.inl rfl,f1,?_,f3 _ _ _ (by omega) ?_ (by omega)⟩
    .simp[execOp,S,G,Instr.sliceAt,Instr.slice,underlying,F,Sem.run_bind',sizeOf,typeInfo,D,B];rw[z];simp[D,B,c0]
    .exact f2
    .by_cases M:cap=l
     .left;omega
     .right;rw[af M,g2.resolve_left (by omega)];simp[uR]
def Ul(off:Nat):∀(xs:aa ah) (n:Nat) (cs:aM ah),off+n+I xs<=cs.size->V ((xs.zipIdx n).foldl (λ cs (p:ah×Nat)=>cs.setIfInBounds (off+p.2) p.1) cs)=cs.toList.take (off+n)++(xs++cs.toList.drop (off+n+I xs))
 |[],n,cs,h=>by simp
 |x::xs,n,cs,h=>by
   simp only[O1,jy,bG]at h |-
   rw[Ul off xs (n+1) _ (by simp;omega)];simp only[H5];have a:off+n<I (V cs):=by simp;omega
   have b:off+n<cs.size:=by omega
   rw[show off+(n+1)=off+n+1 by omega,show off+n+1+I xs=off+n+(I xs+1) by omega];rw[lJ,gh a,OZ (al _),ZC (by omega)];simp
def S2{v:ah}{off:Nat}{cs:aM ah}(h:off+v.cells.size<=cs.size:=by omega):V (v.cells.zipIdx.foldl (λ cs (c,j)=>cs.setIfInBounds (off+j) c) cs)=cs.toList.take off++(V v.cells++cs.toList.drop (off+v.cells.size)):=by
 rw[<-Array.foldl_toList,Array.toList_zipIdx];have:=Ul off (V v.cells) 0 cs (by simpa using h);simpa using this
def Xc{place:Nat->ac (Nat×Nat)}:∀{ps:aa (Nat×AV)}{vs:aa (Nat×ah)}{cells:aa AV}{cs:aM ah}{cells':aa AV},(I ps=I vs/\∀(i:Nat) (p:Nat×AV) (q:Nat×ah),ps[i]?=Z p->vs[i]?=Z q->p.1=q.1/\Rep Γ p.2 q.2)->
  RepL Γ cells (V cs)->(∀u∈V cs,u.oneCell'=O)->sC place cells ps=Z cells'->∃cs',Instr.fill place cs vs=Z cs'/\RepL Γ cells' (V cs')/\∀u∈V cs',u.oneCell'=O
 |[],vs,cells,cs,cells',e,g,l,h=>by
   obtain rfl:vs=[]:=pH.1 e.1.symm;simp only[sC]at h;cases h;exact⟨cs,rfl,g,l⟩
 |(i,x)::ps,vs,cells,cs,cells',e,g,l,h=>by
   cases vs with
   |nil=>simp at e
   |cons q vs=>
     let⟨j,v⟩:=q;let⟨k,m⟩:=e.2 0 (i,x) (j,v) rfl rfl;simp only at k m;subst k;simp only[sC]at h;split at h<;>try cases h
     rename_i off size o;split at h<;>try cases h
     rename_i r;simp only[aK,cC]at r;let⟨⟨D,C⟩,s⟩:=r;let⟨y,w⟩:=m.cells s;have B:=m.cells_len s;have t:cs.size=I cells:=by simpa using g.len
     have f:=S2 (v:=v) (off:=off) (cs:=cs);have n:v.cells.size=size:=by omega
     let⟨cs',e1,A,z⟩:=Xc (place:=place) (ps:=ps) (vs:=vs) (cells:=cells.take off++(cellsOf x++cells.drop (off+size))) (cs:=v.cells.zipIdx.foldl (λ cs (c,j)=>cs.setIfInBounds (off+j) c) cs) (cells':=cells')
      ⟨by simpa using e.1,λ i p q a b=>e.2 (i+1) p q (by simpa using a) (by simpa using b)⟩
      (by rw[f,n];exact(g.take off).append (y.append (g.drop _)))
      (by
       rw[f];intro u d;obtain d|d:=bc.1 d
       .exact l u (jf d)
       .obtain d|d:=bc.1 d
        .exact w u d
        .exact l u (iP d)) h
     refine⟨cs',?_,A,z⟩;simp only[Instr.fill,o];grind
def qkm(a:∀y,Rep Γ (aev tm y) (ρ y))(parts:aa (Nat×bw)):I (parts.map λ p=>(p.1,aev tm p.2))=I (parts.map λ p=>(p.1,ρ p.2))/\∀(i:Nat) (p:Nat×AV) (q:Nat×ah),(parts.map λ p=>(p.1,aev tm p.2))[i]?=Z p->(parts.map λ p=>(p.1,ρ p.2))[i]?=Z q->p.1=q.1/\Rep Γ p.2 q.2:=by
 grind
def qlA(H:∀t d,C.ty t=Z d->cH P t=Z d)(e:Inv Γ σ w)(c:∀y,Rep Γ (aev tm y) (ρ y))(t:aO)(parts:aM (Nat×bw))(j:o.op=.build t parts)(h:aC C tm σ o.op=Z (x,σ')):dU P Γ σ w o ρ x σ':=by
 rw[j]at h;simp only[aC]at h;split at h<;>try cases h
 rename_i _ _ _ z a B;split at h<;>try cases h
 rename_i s;split at h<;>cases h;rename_i cs D;let⟨X,u,n,W,T,S,R,Q,N,g,q⟩:=dI (H t _ B);obtain⟨F,rfl,G⟩:=KF q;let⟨f1,f2⟩:=EV G;simp only at g;subst g;let⟨L,K⟩:=uM (Γ:=Γ) s
 have k:∀{F:aa Field}{a:aa (Nat×Nat×Bool)},fieldsOf P F=Z a->F.mapM (λ f=>(P.info? f.type).map λ i=>(f.offset,i.size))=Z (a.map λ f=>(f.1,f.2.1)):=by
  intro F
  induction F with
  |nil=>intro a h;simp[fieldsOf]at h;subst h;rfl
  |cons f F r=>
    intro a h;simp only[fieldsOf]at h;split at h
    .next i u l e hu A=>cases h;simp[List.mapM_cons,e,r A]
    .cases h
 have b:sC (λ i=>(a.map λ f=>(f.1,f.2.1)).toArray[i]?) (n.cells.toList.map .v) (parts.toList.map λ p=>(p.1,aev tm p.2))=Z cs:=by
  grind
 let⟨cs',e1,m,M⟩:=Xc (Γ:=Γ) (qkm c (V parts)) L K b
 have E:P.built t (V (parts.map λ p=>(p.1,ρ p.2)))=Z cs':=by
  unfold Program.built;grind [Array.toList_map]
 refine .val (u:=.agg cs') ?_ e ?_
 .simp[execOp,j,run_build w t _ cs' E]
 .have:=Rep.agg (Γ:=Γ) cs (V cs') m.len M m.rep;simpa using this
end
end
section
open RowKit
section
variable {P:aX}{C:Cfg}{Γ:Gh}{σ:St}{w:ao}{o:Oper}{tm:aa AV}{ρ:bw->ah}{x:AV}{σ':ac St}
def vf(hi:Inv Γ σ w){m:Nat->Nat->ac ah}(l:Le Γ {Γ with mem:=m}){y:AV}{u:ah}(hf:∀r∈rsC y,∀R,σ.rw[r]?=Z R->gJ {Γ with mem:=m} r R)(B:Rep Γ y u):Rep {Γ with mem:=m} (bC σ.rw y) u:=by
 cases B with
 |sl k N f a n cap b o us X K D hk C t ha hm B=>
   exact .sl k N _ a n cap b o us X (λ h=>K (by cases f with|zero=>exact absurd h (O2 0)|succ f=>exact pI f)) (λ h=>by cases f with|zero=>exact absurd h (by simp[lv1])|succ f=>exact absurd h (by simp[lv1])) hk C t ha (λ i e j x d g=>l.mem _ _ _ (hm i e j x d g)) (λ i e j x d g=>(B i e j x d g).mono l)
 |rs r lo n P f a cap W hv K D T=>
   simp only[bC];split
   .rename_i R M;split
    .rename_i N q;simp only[sI]at q;split at q<;>cases q;rename_i G;obtain⟨-,c1,c3⟩:=G;have H:=hi.row r R M
     have z:n=0\/(cap=0\/a=Z ⟨Γ.cur r,Γ.of r+lo*Γ.k r,U⟩):=by
      obtain t|t:=Nat.eq_zero_or_pos n
      .exact .inl t
      .exact .inr (T (by rw[<-H.ver (H.liveN c3 t)];exact c1)).1
     have F:=hf r (by simp[rsC]) R M
     have S:∀(i:Nat) (e:aa AV) (j:Nat) (x:AV),((R.c.drop lo).take n)[i]?=Z e->e[j]?=Z x->∃u,m (Γ.cur r) (Γ.of r+lo*R.k+i*R.k+j)=Z u/\Rep {Γ with mem:=m} x u:=by
      intro i e j x d g;rw[eX]at d;split at d<;>try cases d
      next ab=>rw[mG]at d;let⟨u,hu,L⟩:=F (lo+i) e j x d g;grind
     refine .sl R.k _ 1 a n cap (Γ.cur r) (Γ.of r+lo*R.k) (λ i j=>(m (Γ.cur r) (Γ.of r+lo*R.k+i*R.k+j)).getD undef) ?_ (λ _=>K) (λ h=>absurd h (by decide)) (λ e E=>H.len e (iP (jf E))) (λ e E=>H.plain e (iP (jf E))) H.pos ?_ ?_ ?_
     .simp;omega
     .obtain z|z|z:=z
      .grind
      .simp_all
      .right;rw[z,H.k]
     .grind
     .grind
    .exact .dead _
   .exact .dead _
 |v _ h=>exact .v _ h
 |dead u=>exact .dead u
 |ptr b o h=>exact(Rep.ptr b o h).mono l
 |rpt r i o P A d g s=>exact(Rep.rpt r i o P A d g s).mono l
 |ept cs o b Q us d g s=>exact(Rep.ept cs o b Q us d g s).mono l
 |fn f cs us d g=>exact(Rep.fn f cs us d g).mono l
 |agg cs us d g s=>exact(Rep.agg cs us d g s).mono l
 |tup cs us d g=>exact(Rep.tup cs us d g).mono l
 |mp b h=>exact(Rep.mp b h).mono l
def VP(g:Inv Γ σ w){m:Nat->Nat->ac ah}(f:Le Γ {Γ with mem:=m}){cs:aa AV}{us:aa ah}(j:∀r∈cs.flatMap rsC,∀R,σ.rw[r]?=Z R->gJ {Γ with mem:=m} r R)(d:RepL Γ cs us):RepL {Γ with mem:=m} (cs.map (bC σ.rw)) us:=by
 refine⟨by simpa using d.len,λ i x u b e=>?_⟩;rw[dC]at b;cases h:cs[i]? with
 |none=>rw[h]at b;cases b
 |some y=>
   rw[h]at b;cases b;exact vf g f (λ r c=>j r (ir.2 ⟨y,aP h,c⟩)) (d.rep i y u h e)
def Mc(p:Inv Γ σ w){m:Nat->Nat->ac ah}(e:Le Γ {Γ with mem:=m}){y:AV}{u:ah}(q:∀r∈rsA y,∀R,σ.rw[r]?=Z R->gJ {Γ with mem:=m} r R)(B:Rep Γ y u):Rep {Γ with mem:=m} (cS σ.rw y) u:=by
 cases B with
 |agg cs us d c g=>
   have:=VP p e (cs:=cs) (us:=us) (by simpa[rsA]using q) ⟨d,g⟩;exact .agg _ _ this.len c this.rep
 |v _ h=>exact .v _ h
 |dead u=>exact .dead u
 |sl k x f a n cap b o us d c g t s F E D C=>exact vf (y:=.sl k x f) p e q (.sl k x f a n cap b o us d c g t s F E D C)
 |rs r lo n l f a cap d c g t s=>exact vf (y:=.rs r lo n l f) p e q (.rs r lo n l f a cap d c g t s)
 |ptr b o h=>exact(Rep.ptr b o h).mono e
 |rpt r i o l A d c g=>exact(Rep.rpt r i o l A d c g).mono e
 |ept cs o b z us d c g=>exact(Rep.ept cs o b z us d c g).mono e
 |fn f cs us d c=>exact(Rep.fn f cs us d c).mono e
 |tup cs us d c=>exact(Rep.tup cs us d c).mono e
 |mp b h=>exact(Rep.mp b h).mono e
theorem qjx{rw:aa Row}{y:AV}(h:br (bC rw y)=O):isC y=O:=by
 cases y<;>first|rfl|(simp[bC,br]at h)
def UD(k:Nat):∀(vs:aa ah) (a:Nat) (cs:aM ah),(∀v∈vs,v.cells.size=k)->(a+I vs)*k<=cs.size->
  ∃cs',Instr.fill (λ i=>Z (i*k,k)) cs ((vs.zipIdx a).map λ p=>(p.2,p.1))=Z cs'/\V cs'=cs.toList.take (a*k)++(vs.flatMap (λ v=>V v.cells)++cs.toList.drop ((a+I vs)*k))
 |[],a,cs,_,h=>⟨cs,rfl,by simp⟩
 |v::vs,a,cs,e,h=>by
   have f:v.cells.size=k:=e v (aW ..)
   have n:a*k+k<=cs.size:=by
    have:(a+1)*k<=(a+I (v::vs))*k:=cj _ (by simp);grind
   have b:=S2 (v:=v) (off:=a*k) (cs:=cs)
   have d:(v.cells.zipIdx.foldl (λ cs (c,j)=>cs.setIfInBounds (a*k+j) c) cs).size=cs.size:=by
    have:=aY I b;grind
   let⟨cs',e1,t⟩:=UD k vs (a+1) (v.cells.zipIdx.foldl (λ cs (c,j)=>cs.setIfInBounds (a*k+j) c) cs) (λ l s=>e l (aS _ s)) (by rw[d];simp at h;rw[show a+1+I vs=a+(I vs+1) by omega];exact h);refine⟨cs',?_,?_⟩
   .simp only[O1,aZ,Instr.fill];grind
   .rw[t,b,f];have g:(a+1)*k=a*k+k:=by rw[dD,HZ]
    have w:I (cs.toList.take (a*k))=a*k:=by rw[bD];simp;omega
    have u:I (V v.cells)=k:=by simpa using f
    have r:(a+1+I vs)*k=a*k+k+I vs*k:=by rw[dD,g]
    have q:(a+I (v::vs))*k=a*k+k+I vs*k:=by simp[dD];omega
    rw[g,r,q]
    have m:(cs.toList.take (a*k)++(V v.cells++cs.toList.drop (a*k+k))).take (a*k+k)=cs.toList.take (a*k)++V v.cells:=by
     grind
    have o:(cs.toList.take (a*k)++(V v.cells++cs.toList.drop (a*k+k))).drop (a*k+k+I vs*k)=cs.toList.drop (a*k+k+I vs*k):=by
     rw[<-bE,List.drop_append,List.drop_of_length_le (by simp only[aU];omega)];simp_all
    rw[m,o];simp
def Uy{α:Type}(k:Nat):∀(a:aa (aa α)) (i j:Nat) (l:aa α) (x:α),(∀l∈a,I l=k)->a[i]?=Z l->l[j]?=Z x->a.flatten[i*k+j]?=Z x
 |[],i,j,l,x,_,h,_=>by simp at h
 |d::a,i,j,l,x,b,h,f=>by
   have c:=b d (aW ..);cases i with
   |zero=>
     grind
   |succ i=>
     simp at h;simp only[O3];rw[dy (by rw[c,dD];omega),c];rw[show(i+1)*k+j-k=i*k+j by rw[dD,HZ];omega];exact Uy k a i j l x (λ e g=>b e (aS _ g)) h f
def Ts(ρ:bw->ah):∀(ps:aa (Nat×bw)) (n:Nat),(∀(i:Nat) (p:Nat×bw),ps[i]?=Z p->p.1=n+i)->ps.map (λ p=>(p.1,ρ p.2))=((ps.map λ p=>ρ p.2).zipIdx n).map λ p=>(p.2,p.1)
 |[],n,h=>rfl
 |p::ps,n,h=>by
   simp only[aZ,O1];rw[<-Ts ρ ps (n+1) λ i q a=>by have:=h (i+1) q (by simpa using a);omega];have:=h 0 p rfl;grind
def qdC{t e:aO}{n:Nat}{parts:aM (Nat×ah)}{a:TypeInfo}{f:ah}(k:P.underlying t=Z (.slice e))(l:P.info? e=Z a)(j:a.zero=Z f)(m:n*a.size<=2^24){cs':aM ah}
  (c:Instr.fill (λ i=>Z (i*a.size,a.size)) ((Array.range (n*a.size)).map ((if n*a.size=0 then #[]else f.cells)[· % (if n*a.size=0 then #[]else f.cells).size]!)) (V parts)=Z cs'):
  (Instr.buildSlice t n parts).run P w=.ok (.slice (Z ⟨w.heap.size,0,U⟩) n n) (w.alloc (.cells cs' e)):=by
 have b:¬ (2^24<n*a.size):=by omega
 by_cases d:n*a.size=0
 .simp only[ag d]at c;simp only[Instr.buildSlice];have g:n=0\/a.size=0:=Nat.mul_eq_zero.1 d;simp[underlying,k,sizeOf,typeInfo,l,d]at c |-
  simp[c,g,yW]
 .simp only[af d]at c;simp only[Instr.buildSlice];simp[underlying,k,sizeOf,typeInfo,zeroValue,l,j,d,b]at c |-
  have g:¬ (n=0\/a.size=0):=λ h=>d (Nat.mul_eq_zero.2 h);simp[c,g,j,yW]
def qfQ(hC:∀t d,C.ty t=Z d->cH P t=Z d)(hi:Inv Γ σ w)(F:∀y,Rep Γ (aev tm y) (ρ y))(t:aO)(n:Nat)(parts:aM (Nat×bw))(ho:o.op=.buildSlice t n parts)(h:aC C tm σ o.op=Z (x,σ')):dU P Γ σ w o ρ x σ':=by
 rw[ho]at h;simp only[aC]at h;split at h<;>try cases h
 rename_i _ _ _ _ e k bb zz hd;split at h<;>try cases h
 rename_i W;simp only[vb,aK,cC]at W;let⟨⟨⟨hn,ad⟩,a0⟩,an⟩:=W;let⟨ii,u,zv,q1,q2,q3,q4,q5,q6,q7,q8⟩:=dI (hC t _ hd);obtain⟨rfl,ie,ze,p1,p2,p3,p4,p5⟩:=oh q8
 have a:∀(i:Nat) (p:Nat×bw),parts.toList[i]?=Z p->p.1=i/\I (cellsOf (aev tm p.2))=k/\∀x∈cellsOf (aev tm p.2),br (bC σ.rw x)=O:=by
  intro i p b
  have:=bJ.1 an ((p.1,aev tm p.2),i) (by
   grind)
  grind
 have g:∀p∈V parts,(cellsOf (aev tm p.2)).all isC=O:=by
  grind [List.getElem?_of_mem,List.all_eq_true,qjx]
 let vs:=parts.toList.map λ p=>ρ p.2
 have Q:∀v∈vs,v.cells.size=k:=by
  intro v T;obtain⟨p,b,rfl⟩:=bu.1 T;let⟨i,q⟩:=lI b;rw[(F p.2).cells_len (g p b)];exact(a i p q).2.1
 have S:I vs=n:=by simpa[vs]using hn
 have N:=Ts ρ (V parts) 0 λ i p b=>by rw[(a i p b).1];omega
 let⟨cs',e1,e2⟩:=UD k vs 0 ((Array.range (n*k)).map ((if n*k=0 then #[]else ze.cells)[· % (if n*k=0 then #[]else ze.cells).size]!)) Q (by simp[S])
 have a1:V cs'=vs.flatMap λ v=>V v.cells:=by
  rw[e2];simp[S]
 have ab:cs'=(vs.flatMap λ v=>V v.cells).toArray:=by rw[<-a1]
 have A:(execOp ρ o).run P w=.ok (.value (.slice (Z ⟨w.heap.size,0,U⟩) n n)) (w.alloc (.cells (vs.flatMap λ v=>V v.cells).toArray e)):=by
  have aE:V (parts.map λ p=>(p.1,ρ p.2))=(vs.zipIdx 0).map λ p=>(p.2,p.1):=by rw[H3];exact N
  rw[<-ab];have hb:=qdC (w:=w) (n:=n) (parts:=parts.map λ p=>(p.1,ρ p.2)) q2 p1 p2 (by rw[p3];exact ad) (by rw[p3,aE];exact e1);simp only[execOp,ho];simp[Sem.run_bind',hb]
 have E:∀(s:aa Nat) (D:aa Nat),(∀r∈parts.toList.flatMap (λ p=>rsA (aev tm p.2)),r∈s)->∃m,Fz Γ m/\Inv {Γ with mem:=m} {σ with rw:=frz σ.rw s,wrr:=D} w/\
   ∀(i:Nat) (p:Nat×bw),parts.toList[i]?=Z p->RepL {Γ with mem:=m} ((cellsOf (aev tm p.2)).map (bC σ.rw)) (ρ p.2).cells.toList:=by
  intro s D H;let⟨m,m1,m2,m3⟩:=pU s hi D;refine⟨m,m1,m2,λ i p b=>?_⟩;refine VP hi m1.le (λ r K R hR=>m3 r (H r (ir.2 ⟨p,aP b,?_⟩)) R hR) ((F p.2).cells (g p (aP b))).1
  have:∀y:AV,r∈(cellsOf y).flatMap rsC->r∈rsA y:=by
   intro y hy;cases y<;>simpa[cellsOf,rsA]using hy
  exact this _ K
 have L:∀u∈vs.flatMap (λ v=>V v.cells),u.oneCell'=O:=by
  intro u z;let⟨v,T,z⟩:=ir.1 z;obtain⟨p,b,rfl⟩:=bu.1 T;exact((F p.2).cells (g p b)).2 u z
 have ar:∀(s:aa Nat) (σ1:St) (D:aa Nat),σ1={σ with rw:=frz σ.rw s,wrr:=D}->(∀r∈parts.toList.flatMap (λ p=>rsA (aev tm p.2)),r∈s)->
   ∃Γ',Ext Γ w Γ' (w.alloc (.cells (vs.flatMap λ v=>V v.cells).toArray e))/\Inv Γ' σ1 (w.alloc (.cells (vs.flatMap λ v=>V v.cells).toArray e))/\Rep Γ' (.sl k (parts.toList.map λ p=>(cellsOf (aev tm p.2)).map (bC σ.rw)) 2) (.slice (Z ⟨w.heap.size,0,U⟩) n n):=by
  intro s σ1 D az H;subst az;let⟨m,m1,m2,m3⟩:=E s D H;let⟨Γ',g1,g2,g3⟩:=Tp m2 L e;refine⟨Γ',(xx m1 w).trans g1,g2,?_⟩
  have B:∀(i:Nat) (l:aa AV) (j:Nat) (x:AV),(parts.toList.map λ p=>(cellsOf (aev tm p.2)).map (bC σ.rw))[i]?=Z l->l[j]?=Z x->∃u,Γ'.mem w.heap.size (i*k+j)=Z u/\Rep Γ' x u:=by
   intro i l j x c G;rw[dC]at c;cases b:parts.toList[i]? with
   |none=>rw[b]at c;cases c
   |some p=>
     rw[b]at c;cases c;have K:=m3 i p b;let⟨u,z,f⟩:=K.get G;refine⟨u,g3 _ _ ?_,f.mono g1.le⟩;rw[ZD];refine Uy k _ i j (ρ p.2).cells.toList u ?_ ?_ z
     .intro l c;obtain⟨v,T,rfl⟩:=bu.1 c;simpa using Q v T
     .simp only[vs,iu,dC,b];rfl
  refine .sl k _ 2 _ n n w.heap.size 0 (λ i j=>(Γ'.mem w.heap.size (i*k+j)).getD undef) ?_ (λ _=>al _) (λ _=>rfl) ?_ ?_ a0 (.inr rfl) ?_ ?_
  .simpa using hn.symm
  .intro l c;obtain⟨p,b,rfl⟩:=bu.1 c;let⟨i,q⟩:=lI b;rw[ce];exact(a i p q).2.1
  .intro l c x G;obtain⟨p,b,rfl⟩:=bu.1 c;let⟨i,q⟩:=lI b;obtain⟨y,hy,rfl⟩:=bu.1 G;exact(a i p q).2.2 y hy
  .intro i l j x c G;let⟨u,z,_⟩:=B i l j x c G;rw[cI,z];rfl
  .intro i l j x c G;let⟨u,z,f⟩:=B i l j x c G;rw[z];exact f
 split at h<;>cases h
 .next X=>let⟨Γ',f1,f2,f3⟩:=ar [] σ σ.wrr rfl (by rw[X];intro r K;cases K);exact⟨_,_,_,Γ',A,.inl rfl,f1,f2,f3⟩
 .next r l M=>let⟨Γ',f1,f2,f3⟩:=ar (r::l) _ ((r::l)++σ.wrr) rfl (by rw[M];intro r K;exact K);exact⟨_,_,_,Γ',A,.inl rfl,f1,f2,f3⟩
def ql0{α:Type}{n i:Nat}{x y:α}(h:(List.replicate n x)[i]?=Z y):y=x:=by
 grind
def qnh(hC:∀ t d,C.ty t=Z d->cH P t=Z d)(hi:Inv Γ σ w)(n:∀ y,Rep Γ (aev tm y) (ρ y))(t:aO)(y z:bw)(ho:o.op = .makeSlice t y z)(h:aC C tm σ o.op=Z (x,σ')):dU P Γ σ w o ρ x σ':=by
 rw[ho]at h;simp only[aC]at h;split at h<;>try cases h
 rename_i _ _ _ _ e k bytes X ik a D b hd K H;split at h<;>try cases h
 rename_i hc;simp only[aK,cC]at hc;obtain⟨⟨⟨rfl,h0,ab,ad,s,p⟩,G⟩,F⟩:=hc;have K:=ch (K▸n y);have H:=ch (H▸n z);obtain⟨ii,u,zv,q1,q2,q3,q4,q5,q6,q7,q8⟩:=dI (hC t _ hd);obtain⟨rfl,ie,g,p1,p2,p3,p4,p5⟩:=oh q8
 have m:=run_make (P:=P) w t e ie g q2 p1 p2 ik D a a h0 (H6 _) (by rw[p4];have e1:(bytes:Int)*a=((a.toNat*bytes:Nat):Int):=by rw[Int.natCast_mul,Int.toNat_of_nonneg h0,Int.mul_comm]
                                                                    rw[e1];omega) (by omega)
 rw[p3]at m
 have B:(execOp ρ o).run P w = .ok (.value (.slice (Z ⟨w.heap.size,0,U⟩) a.toNat a.toNat)) (w.alloc (.cells (madeCells g.cells (a.toNat*k)) e)):=by
  simp only[execOp,ho,K,H];simp[Sem.run_bind',m]
 have W:Below w.heap.size w (w.alloc (.cells (madeCells g.cells (a.toNat*k)) e)):=(Below.refl _ _).alloc (al _) _;split at h
 ·next N=>cases h;have N:a.toNat=0:=bH N;refine⟨_,_,_,Γ,B,.inl rfl,wY W (al _),hi.later W,?_⟩;rw[N];exact .sl k [] 2 _ 0 0 0 0 (λ _ _=>undef) rfl (λ _=>al _) (λ _=>rfl) (by simp) (by simp) s (.inl rfl) (by simp) (by simp)
 ·cases h;have f:(madeCells g.cells (a.toNat*k)).size=a.toNat*k:=size_madeCells _ _;have q:V g.cells=X:=p5;have E:g.cells.size=k:=by rw[<- p,<- q];simp
  have l:=uM (Γ := Γ) G
  obtain⟨Γ',d1,d2,d3⟩:=LV hi s (c:=List.replicate a.toNat (X.map .v)) (λ e T=>by rw[O4 T,ce];exact p) (λ e T x hx=>by
   rw[O4 T]at hx;exact bJ.1 F x hx) (vs:=madeCells g.cells (a.toNat*k)) (by rw[ti,f];exact al _) (by
   intro i e j x A hj;have:=ql0 A;subst this;obtain⟨v,M,r⟩:=l.1.get hj;have S:i<a.toNat:=by have:=getElem?_lt A;simpa using this
   have R:j<k:=by have:=getElem?_lt hj;simp at this;omega
   refine⟨v,?_,r,l.2 v (aP M)⟩
   have Q:i*k+j<a.toNat*k:=by
    calc i*k+j<i*k+k:=by omega
     _=(i+1)*k:=by rw[dD,HZ]
     _<=a.toNat*k:=cj _ S
   have hm:(i*k+j) % k=j:=by rw[tg,Nat.mul_add_mod];exact wc R
   unfold madeCells;rw[Array.getElem?_map,Array.getElem?_range,ag Q];simp only[lK,E,hm]
   have:g.cells[j]! = v:=by
    rw[<- q]at M;have L:g.cells[j]?=Z v:=by simpa using M
    rw[getElem!_def,L]
   rw[this]) (e:=e) (cap:=a.toNat) (by simp) (by rw[f];exact al _) W (al _) (al _) (heap_alloc_new w _)
  rw[ti]at d3;exact⟨_,_,_,Γ',B,.inl rfl,d1,d2,d3⟩
end
end
section
open RowKit
section
variable {P:aX}{C:Cfg}{Γ:Gh}{σ:St}{w:ao}{o:Oper}{tm:aa AV}{ρ:bw->ah}{x:AV}{σ':ac St}
def Uw{k a}(h:uni k a=O):(∀e∈a,I e=k)/\∀e∈a,∀x∈e,br x=O:=by
 grind [uni]
def Vh(t:Inv Γ σ w){k y u}(s:Rep Γ y u){xs}(h:elems σ.rw k y=Z xs)(h0:0<k)(X:∀e∈xs,I e=k):∃a m c,u=.slice a m c/\m=I xs/\
  (xs=[]\/∃b o,a=Z ⟨b,o,U⟩/\∀i e j x,xs[i]?=Z e->e[j]?=Z x->∃v,w.cell? ⟨b,o+(i*k+j),U⟩=Z v/\Rep Γ x v/\v.oneCell'=O):=by
 cases s with
 |v _ hb=>
   grind [elems,bQ]
 |sl T es f a n cap b o us A K G F E M p B s=>
   simp[elems]at h;split at h<;>cases h;rename_i g;have g:=bH g;subst g;refine⟨a,n,cap,rfl,A,?_⟩;obtain p|p:=p
   .exact .inl p
   .refine .inr ⟨b,o,p,λ i e j x d q=>⟨us i j,?_,s i e j x d q,(t.mem _ _ _ (B i e j x d q)).2⟩⟩;rw[<-eY];exact(t.mem _ _ _ (B i e j x d q)).1
 |rs r lo n ep f a cap D W K G C=>
   simp[elems]at h;split at h<;>try cases h
   rename_i R L;simp only[sI]at h;split at h<;>cases h;rename_i z;let⟨S,Q,P⟩:=z;have H:=t.row r R L;refine⟨a,n,cap,rfl,by simp;omega,?_⟩;by_cases A:n=0
   .grind
   .right;obtain⟨N,-⟩:=C (by rw[<-H.ver (H.liveN P (by omega))];exact Q);refine⟨Γ.cur r,Γ.of r+lo*Γ.k r,N.resolve_left (by omega),λ i e j x d q=>?_⟩;rw[eX]at d;split at d<;>try cases d
    rw[mG]at d;have l:Γ.of r+lo*Γ.k r+(i*k+j)=Γ.of r+((lo+i)*R.k+j):=by rw[dD,<-S,<-H.k];omega
    rw[l];exact H.cells (lo+i) e j x d q
 |dead u|ptr|rpt|ept|fn|agg|tup|mp=>simp[elems]at h
def Tw: ∀{c l},xU c=Z l->∃xs:aa Int,c=xs.map (λ n=>[AV.v (.int .u8 n)])/\l=xs.map λ n=>UInt8.ofNat n.toNat
 |[],l,h=>by cases h;exact⟨[],rfl,rfl⟩
 |e::c,l,h=>by
   simp[xU]at h;split at h<;>cases h;next b r a d=>obtain⟨xs,rfl,rfl⟩:=Tw d;unfold M6 at a;split at a<;>cases a;next n=>exact⟨n::xs,rfl,rfl⟩
def V8{d}(h:sQ d=O):∃a b c z,d=Z ⟨a,b,c,z,.int .u8⟩:=by
 unfold sQ at h;grind
theorem EI(b):I (me b)=b.size:=by show(b.data.toList.map _).length=b.data.size;rw[ce,jg]
def RO{b e}(a:e∈me b):I e=1:=by obtain⟨c,_,rfl⟩:=bu.1 a;rfl
def Rq{b e}(d:e∈me b):∀x∈e,br x=O:=λ x a=>by
 obtain⟨c,_,rfl⟩:=bu.1 d;rw[bW.1 a];rfl
def SG{b}{i j:Nat}{e x}(d:(me b)[i]?=Z e)(f:e[j]?=Z x):j=0/\∃c,b.data.toList[i]?=Z c/\x=.v (.int .u8 c.toNat):=by
 have a:(b.data.toList.map λ c=>[AV.v (.int .u8 c.toNat)])[i]?=Z e:=d;grind
def qlD(p:Inv Γ σ w){s t e u}(b)(m:P.underlying s=Z u)(q:P.underlying t=Z (.slice e))(d:P.underlying e=Z (.int .u8)):
  ∃v w' Γ',(convert s t (.string b)).run P w=.ok v w'/\Ext Γ w Γ' w'/\Inv Γ' {σ with rw:=σ.rw++[⟨1,me b,0,0,Y⟩]} w'/\Rep Γ' (.rs (I σ.rw) 0 b.size 0 Y) v:=by
 have a:=Lib.run_convert_string_bytes w s t e b m q d;have l:=grownCap_ge w b.size 0 e
 have f:(Lib.bytesCells w e b).size=grownCap w b.size 0 e:=by
  unfold Lib.bytesCells;simp_all
 have r:Below w.heap.size w (Lib.bytesWorld w e b):=⟨rfl,rfl,rfl,by rw[Lib.bytesWorld_size];omega,λ k n=>Lib.bytesWorld_at_old w e b k n⟩
 obtain⟨Γ',E,D,C⟩:=Us p (pI 0) (c:=me b) (λ e d=>RO d) (λ e d=>Rq d) (by rw[EI,f];omega) (λ i B j x g o=>by
  obtain⟨rfl,c,z,rfl⟩:=SG g o;refine⟨.int .u8 c.toNat,?_,.v _ rfl,rfl⟩;unfold Lib.bytesCells;grind) (by rw[EI];exact l) (by omega) r (Go.GxZ.run_drawn _ a) (al _) (λ j A y=>by have:=y.1;omega) (λ h=>absurd rfl h) (Lib.bytesWorld_at_new w e b)
 grind [EI]
def qnw(g:∀t d,C.ty t=Z d->cH P t=Z d)(L:Inv Γ σ w)(r:∀y,Rep Γ (aev tm y) (ρ y))(s t y)(H:o.op=.convert s t y)(h:aC C tm σ o.op=Z (x,σ')):dU P Γ σ w o ρ x σ':=by
 rw[H]at h;simp[aC]at h;split at h<;>try cases h
 .next ds _ _ _ _ k _ n D E N=>have Q:=ch (N▸r y);let⟨i,u,T,q1,j,q3,q4,q5,q6,X,R⟩:=dI (g s _ D);let⟨i',W,z,p1,p,p3,p4,p5,p6,p7,A⟩:=dI (g t _ E);have:=Mw A;subst this;refine .val ?_ L (.v _ rfl);simp[execOp,H,Q,convert,underlying,j,p,Conv.intToInt,iw]
 .next ds _ _ _ _ ad D E N=>have Q:=ch (N▸r y);let⟨i,u,T,q1,j,q3,q4,q5,q6,X,R⟩:=dI (g s _ D);let⟨i',W,z,p1,p,p3,p4,p5,p6,p7,A⟩:=dI (g t _ E);have:=xa A;subst this;refine .val ?_ L (.v _ rfl);simp[execOp,H,Q,convert,underlying,j,p]
 .next e _ _ _ b D E N=>split at h<;>cases h;next B=>have Q:=ch (N▸r y);let⟨i,u,T,q1,j,q3,q4,q5,q6,X,R⟩:=dI (g s _ D);let⟨i',W,z,p1,p,p3,p4,p5,p6,p7,A⟩:=dI (g t _ E);obtain⟨rfl,_⟩:=oh A;let⟨a1,a2,a3,a4,M⟩:=V8 B;let⟨i2,u2,S,o1,F,o3,o4,o5,o6,o7,o8⟩:=dI (g _ _ M);have:=Mw o8;subst this;let⟨v,w',Γ',c1,c2,c3,c4⟩:=qlD L b j p F;exact⟨_,_,w',Γ',by simp[execOp,H,Q,c1],.inl rfl,c2,c3,c4⟩
 .rename_i e _ _ _ _ _ _ _ _ _ _ D E hn;split at h<;>try cases h
  rename_i es B ab;split at h<;>cases h;rename_i l hl;let⟨i,u,T,q1,j,q3,q4,q5,q6,X,R⟩:=dI (g s _ D);let⟨i',W,z,p1,p,p3,p4,p5,p6,p7,A⟩:=dI (g t _ E);have:=xa A;subst this;obtain⟨rfl,_⟩:=oh R;let⟨a1,a2,a3,a4,M⟩:=V8 B;let⟨i2,u2,S,o1,F,o3,o4,o5,o6,o7,o8⟩:=dI (g _ _ M);have:=Mw o8;subst this;obtain⟨xs,rfl,rfl⟩:=Tw hl;let⟨a,m,c,hv,hm,f⟩:=Vh L (r y) ab (pI 0) (λ e M=>by obtain⟨n,_,rfl⟩:=bu.1 M;rfl);have K:I xs=m:=by grind
  refine .val (u:=.string (strOfNums xs)) ?_ L (.v _ rfl)
  have G:(convert s t (ρ y)).run P w=.ok (.string (strOfNums xs)) w:=by
   rw[hv];obtain f|⟨b,o',rfl,f⟩:=f
   .have:xs=[]:=by grind
    subst this;subst K;cases a with
    |none=>exact run_convert_bytes_nil (w:=w) s _ j F _ _ t p
    |some a=>simp[convert,underlying,j,F,p,Conv.bytesToString,loadCells,loadCellsFrom];rfl
   .refine run_convert_bytes_arg (w:=w) s _ j F b o' m c xs K (λ q hq=>?_) t p;let⟨v,v1,v2,_⟩:=f q [.v (.int .u8 xs[q])] 0 _ (by simp) rfl;rw[Nat.mul_one,dE]at v1;rw[v1,ch v2,gE,aV (by omega)];rfl
  simp[execOp,H,G]
def zj{k}(m:0<k){xs:aa (aa AV)}(h:∀e∈xs,I e=k){b o}(t:∀i e j x,xs[i]?=Z e->e[j]?=Z x->∃v,w.cell? ⟨b,o+(i*k+j),U⟩=Z v/\Rep Γ x v/\v.oneCell'=O):
  ∃aB:aa ah,I aB=I xs*k/\(∀j u,aB[j]?=Z u->w.cell? ((⟨b,o,U⟩:Addr).add j)=Z u)/\(∀u∈aB,u.oneCell'=O)/\∀i e j x,xs[i]?=Z e->e[j]?=Z x->∃u,aB[i*k+j]?=Z u/\Rep Γ x u/\u.oneCell'=O:=by
 have n:∀q,q<I xs*k->∃v,w.cell? ⟨b,o+q,U⟩=Z v/\v.oneCell'=O:=by
  intro q g;have a:=(OU m).2 g;have p:q%k<k:=qR _ m;have y:=h _ (iq a);let⟨v,C,B,A⟩:=t (q/k) _ (q%k) _ (aV a) (aV (by omega));grind [Nat.mul_comm,Nat.div_add_mod]
 let f:Nat->ah:=λ q=>(w.cell? ⟨b,o+q,U⟩).getD undef
 have z:∀q,q<I xs*k->w.cell? ⟨b,o+q,U⟩=Z (f q):=λ q g=>by
  grind
 refine⟨(List.range (I xs*k)).map f,by simp,?_,?_,?_⟩
 .grind [uR]
 .grind
 .intro i e j x l s;have d:=getElem?_lt l;have c:=getElem?_lt s;rw[h e (aP l)]at c
  have r:i*k+j<I xs*k:=by
   calc i*k+j<i*k+k:=by omega
    _=(i+1)*k:=by grind
    _<=I xs*k:=cj _ d
  grind
def qjo{ts t u e ty}(f:ts[0]?=Z t)(d:ts[1]?=Z u)(c:P.underlying t=Z (.slice e))(a:(∃b,P.underlying u=Z (.slice b))\/P.underlying u=Z .string)(s x):
  (Builtin.append_ ts ty #[s,x]).run P w=(Builtin.append_ #[t,u] ty #[s,x]).run P w:=by
 obtain⟨b,a⟩|a:=a<;>cases s<;>simp[Builtin.append_,f,d,run_underlying c,run_underlying a]
def grow_any{t u e ty h ze k bytes}(C:P.underlying t=Z (.slice e))(F:P.info? e=Z h)(B:h.zero=Z ze)(D:h.size=k)(v:h.bytes=bytes)(q:ze.cells.size=k)(a n cap)(G:a=U->n=0/\cap=0)(c)(i:I c=n*k)(r:∀b,a=Z b->∀j u,c[j]?=Z u->w.cell? (b.add j)=Z u)(x m aB)(d:Src P k u x m aB w)(A:cap<n+m)(y:n+m<=maxLen)(l:(n+m)*bytes<=140737488355328):
  ∃g f o w',(Builtin.append_ #[t,u] ty #[.slice a n cap,x]).run P w=.ok (.slice (Z ⟨g,0,U⟩) (n+m) f) w'/\Below w.heap.size w w'/\w.heap.size<=g/\w'.heap[g]?=Z (.cells o e (0,0))/\n+m<=f/\o.size=f*k/\o.toList.take ((n+m)*k)=c++aB/\w.drawn<=w'.drawn:=by
 subst D;subst v
 have p:(Builtin.firstCells h.size n (.slice a n cap)).run P w.drew=.ok c.toArray w.drew:=by
  cases a with
  |none=>
    obtain⟨rfl,rfl⟩:=G rfl;have:=pH.1 (by simpa using i);subst this;exact run_firstCells_none w.drew h.size 0 0 0
  |some b=>exact run_firstCells_some w.drew h.size n b n cap c i (by simp_all)
 have z:=run_append_grow_src w t u ty e h ze C F B a n cap c p x m aB d A (by simp[maxLen]at y;omega) (growslice_fits A l);have s:=grownCap_ge w (n+m) cap e;refine⟨_,_,_,_,z,⟨rfl,rfl,rfl,by simp,λ k E=>heap_alloc_old w.drew _ E⟩,al _,heap_alloc_new w.drew _,s,?_,?_,Go.GxZ.run_drawn _ z⟩
 .simp[H7,kN,size_zeroCells,aU,i,d.newsLen,q];rw[<-dD,<-dD];congr 1;omega
 .simp;have:I (c++aB)=(n+m)*h.size:=by rw[aU,i,d.newsLen,dD]
  grind
def UG{α}{l r:aa α}{n q:Nat}{u}(h:l.take n=r)(a:r[q]?=Z u):l[q]?=Z u:=by
 grind
def Kh{k}{c xs:aa (aa AV)}{a aB:aa ah}(g:I a=I c*k)(h:∀e∈c,I e=k)(r:∀i e j x,c[i]?=Z e->e[j]?=Z x->∃u,a[i*k+j]?=Z u/\Rep Γ x u/\u.oneCell'=O)(p:∀i e j x,xs[i]?=Z e->e[j]?=Z x->∃u,aB[i*k+j]?=Z u/\Rep Γ x u/\u.oneCell'=O):
  ∀i e j x,(c++xs)[i]?=Z e->e[j]?=Z x->∃u,(a++aB)[i*k+j]?=Z u/\Rep Γ x u/\u.oneCell'=O:=by
 intro i e j x n l;obtain⟨f,b⟩|⟨o,b⟩:=Wl n
 .grind
 .let⟨u,q,d⟩:=p _ e j x b l;refine⟨u,?_,d⟩;have m:i*k=I c*k+(i-I c)*k:=by rw[<-dD];congr 1;omega
  grind
def JR(hC:∀t d,C.ty t=Z d->cH P t=Z d)(hi:Inv Γ σ w){ts}{ty t u:aO}{sv xv:ah}{s:AV}(hs:Rep Γ s sv)(h0:ts[0]?=Z t)(h1:ts[1]?=Z u){e k bytes:Nat}{z}{q1 q2 q3 q4:_}(cb:C.ty t=Z ⟨q1,q2,q3,q4,.slice e k bytes z⟩)(a3:0<k)(c9:I z=k){xs}(u1:∀e∈xs,I e=k)(u2:∀e∈xs,∀x∈e,br x=O){aB}(D:Src P k u xv (I xs) aB w)(n4:∀i e j x,xs[i]?=Z e->e[j]?=Z x->∃u,aB[i*k+j]?=Z u/\Rep Γ x u/\u.oneCell'=O)(h:eG k bytes σ s xs=Z (x,σ')):
  ∃v w' Γ',(Builtin.append_ ts ty #[sv,xv]).run P w=.ok v w'/\Ext Γ w Γ' w'/\Inv Γ' (turn σ σ') w'/\Rep Γ' x v:=by
 obtain⟨ii,ud,zv,p1,p2,p3,p4,p5,p6,p7,p8⟩:=dI (hC t _ cb);obtain⟨rfl,ie,ze,r1,r2,r3,r4,r5⟩:=oh p8;have ba:ze.cells.size=k:=by grind
 have n1:=D.newsLen;rw[qjo h0 h1 p2 D.kind]
 have L:∀m n cap,n<=cap->xs=[]->(Builtin.append_ #[t,u] ty #[.slice m n cap,xv]).run P w=.ok (.slice m n cap) w:=by
  intro m n cap b7 p;subst p;have b6:aB=[]:=pH.1 (by rw[n1];simp);subst b6;subst r3;exact run_append_nothing w t u ty e ie p2 r1 m n cap b7 xv D
 have M:bN (fR xs) 0=O->xs=[]:=λ h=>pH.1 (bH h);have K:bN (fR xs) 0=Y->xs≠[]:=λ h p=>by subst p;simp[bN,fR]at h
 have A:∀m n cap B,n=I B->(m=U->n=0/\cap=0)->cap<n+I xs->xs≠[]->(∀e∈B,I e=k)->(∀e∈B,∀x∈e,br x=O)->
   (∀G,m=Z G->∃b o,G=⟨b,o,U⟩/\(B=[]\/∀i e j x,B[i]?=Z e->e[j]?=Z x->∃v,w.cell? ⟨b,o+(i*k+j),U⟩=Z v/\Rep Γ x v/\v.oneCell'=O))\/B=[]->
   ∀R N,rowNew k bytes (oC B xs)=Z (R,N)->∃v w' Γ',(Builtin.append_ #[t,u] ty #[.slice m n cap,xv]).run P w=.ok v w'/\Ext Γ w Γ' w'/\Inv Γ' {σ with rw:=σ.rw++[R]} w'/\Rep Γ' (.rs (I σ.rw) 0 N 0 Y) v:=by
  intro m n cap B hn y bv cP a5 ca E R N S;simp only[rowNew]at S;split at S<;>cases S;rename_i b1;obtain⟨bn,bl⟩:=b1;simp only[oC]at bn bl
  have Q:∃a:aa ah,I a=n*k/\(∀G,m=Z G->∀j u,a[j]?=Z u->w.cell? (G.add j)=Z u)/\∀i e j x,B[i]?=Z e->e[j]?=Z x->∃u,a[i*k+j]?=Z u/\Rep Γ x u/\u.oneCell'=O:=by
   have X:B=[]->∃a:aa ah,I a=n*k/\(∀G,m=Z G->∀j u,a[j]?=Z u->w.cell? (G.add j)=Z u)/\∀i e j x,B[i]?=Z e->e[j]?=Z x->∃u,a[i*k+j]?=Z u/\Rep Γ x u/\u.oneCell'=O:=by
    intro p;subst p;exact⟨[],by simp[hn],λ _ _ j u hj=>by simp at hj,λ i e j x an=>by simp at an⟩
   cases F:m with
   |none=>exact F▸X (pH.1 (by grind))
   |some G=>
     rcases E with E|E
     .obtain⟨b2,c8,rfl,hh⟩:=E G F;rcases hh with hh|hh
      .exact F▸X hh
      .obtain⟨a,m1,m2,m3,m4⟩:=zj a3 a5 hh;exact⟨a,by rw[hn];exact m1,λ G hb=>by cases hb;exact m2,m4⟩
     .exact F▸X E
  obtain⟨a,m1,m2,m4⟩:=Q;have ab:I (B++xs)=n+I xs:=by grind
  obtain⟨g,a1,a9,w',f1,f2,f3,f4,f5,f6,f7,f8⟩:=grow_any (P:=P) (w:=w) (ty:=ty) p2 r1 r2 r3 r4 ba m n cap y a m1 m2 xv (I xs) aB D bv (by simp only[maxLen];omega) (by grind)
  obtain⟨Γ',d1,d2,d3⟩:=LV hi a3 (by
   intro e p;rcases bc.1 p with p|p
   .exact a5 e p
   .exact u1 e p) (by
   intro e p;rcases bc.1 p with p|p
   .exact ca e p
   .exact u2 e p) (vs:=a9) (by rw[ab,f6];exact cj _ f5) (by
   intro i e j x an hj;obtain⟨u,hu,W⟩:=Kh (by rw[m1,hn]) a5 m4 n4 i e j x an hj;exact⟨u,by rw[<-jh];exact UG f7 hu,W⟩) (e:=e) (by rw[ab];exact f5) (by omega) f2 f8 f3 f4
  refine⟨_,w',Γ',f1,d1,d2,?_⟩;rw[<-ab];exact d3
 unfold eG at h;split at h
 .have b3:=ch hs;subst b3;split at h
  .next l=>cases h;exact⟨_,w,Γ,L U 0 0 (al _) (M l),.refl _ _,hi,.v _ rfl⟩
  .next l=>split at h<;>cases h;next R N S=>have q:=K l;have a0:=wd.2 q;exact A U 0 0 [] rfl (λ _=>⟨rfl,rfl⟩) (by omega) q (λ e p=>by cases p) (λ e p=>by cases p) (.inr rfl) R N (by simpa[oC]using S)
 .rename_i k1 B f;cases hs with
  |sl _ _ _ m n cap b o us hn hc hf b8 b5 co ha hm hr=>
  split at h
  .next l=>split at h<;>cases h;next b9=>exact⟨_,w,Γ,L m n cap (hc (bH b9)) (M l),.refl _ _,hi,.sl k1 B f m n cap b o us hn hc hf b8 b5 co ha hm hr⟩
  .rename_i l;split at h<;>try cases h
   rename_i ar;simp only[aK]at ar;obtain⟨⟨bs,ad⟩,b0⟩:=ar;have ad:k1=k:=bH ad;subst ad;obtain⟨v1,v2⟩:=Uw b0;split at h<;>cases h;rename_i R N S;have q:=K l;have a0:=wd.2 q;have bs:=bH bs;by_cases ax:B=[]
   .cases m with
    |none=>exact A U n cap B hn (λ _=>by subst ax;simp at hn;omega) (by omega) q v1 v2 (.inr ax) R N S
    |some G=>exact A (Z G) n cap B hn (λ h=>by cases h) (by omega) q v1 v2 (.inr ax) R N S
   .have cf:=ha.resolve_left ax;subst cf;refine A _ n cap B hn (λ h=>by cases h) (by omega) q v1 v2 (.inl λ G hb=>⟨b,o,by cases hb;rfl,.inr λ i e j x h1 h2=>⟨us i j,?_,hr i e j x h1 h2,(hi.mem _ _ _ (hm i e j x h1 h2)).2⟩⟩) R N S;rw[<-eY];exact(hi.mem _ _ _ (hm i e j x h1 h2)).1
 .rename_i r lo n ep f;cases hs with
  |rs _ _ _ _ _ m cap b4 hv hc hf bd=>
  split at h
  .next l=>cases h;exact⟨_,w,Γ,L m n cap hc (M l),.refl _ _,hi,.rs r lo n ep f m cap b4 hv hc hf bd⟩
  .rename_i l;split at h<;>try cases h
   rename_i R S;split at h<;>cases h;rename_i R' N a8;have q:=K l;have a0:=wd.2 q;simp only[yc]at a8;split at a8<;>cases a8;rename_i cd;obtain⟨c0,c1,c3,c4,c5,a2,c6,c7⟩:=cd;subst c4;have H:=hi.row r R S;obtain⟨g2,g3⟩:=bd (by rw[<-H.ver a2];exact c1);subst c0;subst c1;have a6:Γ.of r+cap*R.k<=Γ.sz r:=by rw[H.k];simpa using g3
   by_cases T:n+I xs<=cap
   .have F:=g2.resolve_left (by omega)
    have hz:Γ.sz r≠0:=by
     have:=OT (show 0<cap by omega) H.pos;omega
    obtain⟨vs,e1,fr,d2,d3,d4,_⟩:=H.blk hz;rw[<-d3]at a6;simp at F;subst F
    have c2:Γ.of r+n*ie.size+I aB<=vs.size:=by
     have:=cj R.k T;grind
    have az:∀j,j<I aB->(w.cell? ⟨Γ.cur r,Γ.of r+n*ie.size+j,U⟩).isSome=O:=by
     intro j hj;rw[jp d2];grind
    have a4:∀j,j<I aB->w.frozen? ⟨Γ.cur r,Γ.of r+n*ie.size+j,U⟩=Y:=λ j hj=>Rt d2 d4;have aE:=run_append_room_src (P:=P) w t u ty e ie p2 r1 (Γ.cur r) (Γ.of r) n cap xv (I xs) aB (by grind) T az a4
    have bp:w.setCells (Γ.cur r) (Γ.of r+n*ie.size) aB=w.setRow (Γ.cur r) (vs.toList.take (Γ.of r+n*ie.size)++aB++vs.toList.drop (Γ.of r+n*ie.size+I aB)).toArray:=by
     grind [aB,JB,List.append_assoc]
    rw[bp,r3]at aE
    obtain⟨Γ',f1,f2,f3⟩:=qkW hi S a2 u1 u2 n1 n4 hz (by grind)
     (λ vs' e' da hv=>by
      rw[d2]at hv;cases hv;rw[<-c3];exact setRow_heap w _ _ _ _ _ d2) (λ k hk=>setRow_other w _ k _ hk) rfl rfl rfl (by simp) (al _) (r::σ.wrr) (cap:=cap)
    rw[<-c3]at f3;exact⟨_,_,Γ',aE,f1,f2,f3⟩
   .-- no bM
    have Q:∃a:aa ah,I a=n*R.k/\(∀G,m=Z G->∀j u,a[j]?=Z u->w.cell? (G.add j)=Z u)/\∀i e j x,R.c[i]?=Z e->e[j]?=Z x->∃u,a[i*R.k+j]?=Z u/\Rep Γ x u/\u.oneCell'=O:=by
     by_cases a7:cap=0
     .simp_all
     .have F:=g2.resolve_left a7
      obtain⟨a,q1,q2,q3,q4⟩:=zj a3 (o:=Γ.of r+0*Γ.k r) H.len (λ i e j x h1 h2=>by
       obtain⟨v,hv,bz⟩:=H.cells i e j x h1 h2;exact⟨v,by rw[<-hv];congr 2;omega,bz⟩)
      grind
    obtain⟨a,q1,q2,q4⟩:=Q
    have y:m=U->n=0/\cap=0:=by
     grind
    obtain⟨g,a1,a9,w',f1,f2,f3,f4,f5,f6,f7,f8⟩:=grow_any (P:=P) (w:=w) (ty:=ty) p2 r1 r2 r3 r4 ba m n cap y a q1 q2 xv (I xs) aB D (by omega) (by simp only[maxLen];omega) c6
    obtain⟨Γ',ct,cs,bx⟩:=qkB hi S a2 (xs:=xs) u1 u2 (vs:=a9) (e:=e) f2 f8 f3 f4 (by rw[<-c3,f6];exact cj _ f5)
     (by
      intro i e2 j x an hj;obtain⟨u,hu,W,cl⟩:=Kh (by rw[q1,c3]) H.len q4 n4 i e2 j x an hj;exact⟨u,by rw[<-jh];exact UG f7 hu,W,cl⟩) (r::σ.wrr) (cap:=a1)
    rw[<-c3]at bx;exact⟨_,w',Γ',f1,ct,cs,bx⟩
 .cases h
def SU(A:∀t d,C.ty t=Z d->cH P t=Z d)(q:Inv Γ σ w){ts ty t u sv xv s y}(D:Rep Γ s sv)(T:Rep Γ y xv){e k bytes z}(G:ts[0]?=Z t)(F:ts[1]?=Z u){e' k' b' z' q1 q2 q3 q4 q5 q6 q7 q8}(p:C.ty t=Z ⟨q1,q2,q3,q4,.slice e k bytes z⟩)(r:C.ty u=Z ⟨q5,q6,q7,q8,.slice e' k' b' z'⟩)(g:0<k)(l:I z=k){xs}(W:elems σ.rw k y=Z xs)(n:uni k xs=O)(h:eG k bytes σ s xs=Z (x,σ')):
  ∃v w' Γ',(Builtin.append_ ts ty #[sv,xv]).run P w=.ok v w'/\Ext Γ w Γ' w'/\Inv Γ' (turn σ σ') w'/\Rep Γ' x v:=by
 let⟨S,K,H,o1,B,o3,o4,o5,o6,X,L⟩:=dI (A u _ r);obtain⟨rfl,_⟩:=oh L;let⟨u1,u2⟩:=Uw n;obtain⟨a,m,c,rfl,rfl,f⟩:=Vh q T W g u1;obtain rfl|⟨b,o,rfl,f⟩:=f
 .have E:∀w',(Builtin.firstCells k 0 (.slice a 0 c)).run P w'=.ok #[] w':=λ w'=>by
    cases a with
    |none=>simp[Builtin.firstCells]
    |some a'=>simp[Builtin.firstCells,loadCells,loadCellsFrom]
  exact JR A q D G F p g l u1 u2 ⟨.inl ⟨_,B⟩,λ _=>rfl,E w,E _,by simp,λ _ h=>by cases h⟩ (λ i e j x h=>by simp at h) h
 .let⟨aB,R,Q,N,M⟩:=zj g u1 f;exact JR A q D G F p g l u1 u2 (Src.ofSlice w B _ _ c aB R Q N) M h
def qfW(m:∀t d,C.ty t=Z d->cH P t=Z d)(B:Inv Γ σ w){ts ty t u sv s b}(y:Rep Γ s sv){e bytes z}(E:ts[0]?=Z t)(D:ts[1]?=Z u){q1 q2 q3 q4 q5 q6 q7 q8}(l:C.ty t=Z ⟨q1,q2,q3,q4,.slice e 1 bytes z⟩)(k:C.ty u=Z ⟨q5,q6,q7,q8,.string⟩)(a:I z=1)(h:eG 1 bytes σ s (me b)=Z (x,σ')):
  ∃v w' Γ',(Builtin.append_ ts ty #[sv,.string b]).run P w=.ok v w'/\Ext Γ w Γ' w'/\Inv Γ' (turn σ σ') w'/\Rep Γ' x v:=by
 let⟨r,o,n,M,q,L,K,H,G,F,p⟩:=dI (m u _ k);have:=xa p;subst this;refine JR m B y E D l (pI 0) a (λ e g=>RO g) (λ e g=>Rq g) (by rw[EI];exact Src.ofString w q b) (λ i e j x f A=>?_) h;obtain⟨rfl,c,N,rfl⟩:=SG f A;refine⟨.int .u8 c.toNat,?_,.v _ rfl,rfl⟩;show(b.data.toList.map λ b=>Value.int .u8 b.toNat)[i*1+0]?=_;grind
end
end
section
open RowKit
theorem AB:∀cs:aa AV,rbL cs=cs.flatMap rb
 |[]=>rfl
 |x::cs=>by simp only[rbL,we,AB cs]
theorem xJ:∀cs:aa AV,rrL cs=cs.flatMap rr
 |[]=>rfl
 |x::cs=>by simp only[rrL,we,xJ cs]
def GI(fb fr:Nat->Nat):∀cs:aa AV,bB fb fr cs=cs.map (ren fb fr)
 |[]=>rfl
 |x::cs=>by simp only[bB,aZ,GI fb fr cs]
def wX{fb fr:Nat->Nat}{x:AV}(h:br x=O):ren fb fr x=x/\rb x=[]/\rr x=[]:=by
 cases x<;>first|exact⟨rfl,rfl,rfl⟩|(simp[br]at h)
def Kv{n m:Nat}{x:AV}:refs n m x=Y↔(∀b∈rb x,b<n)/\∀r∈rr x,r<m:=by
 simp[refs]
def Rep.bound{Γ:Gh}{x:AV}{u:ah}(h:Rep Γ x u):(∀b∈rb x,b<Γ.nb)/\∀r∈rr x,r<Γ.nr:=by
 have d:∀(cs:aa AV) (us:aa ah),I us=I cs->(∀(i:Nat) (x:AV) (u:ah),cs[i]?=Z x->us[i]?=Z u->(∀b∈rb x,b<Γ.nb)/\∀r∈rr x,r<Γ.nr)->(∀b∈rbL cs,b<Γ.nb)/\∀r∈rrL cs,r<Γ.nr:=by
  intro cs us j g
  have get:∀x∈cs,(∀b∈rb x,b<Γ.nb)/\∀r∈rr x,r<Γ.nr:=by
   intro x m;let⟨i,l⟩:=lI m;have k:i<I us:=by rw[j];exact getElem?_lt l
   exact g i x _ l (aV k)
  grind [AB,xJ]
 induction h with
 |v|dead|sl|ept=>exact⟨λ b e=>by simp[rb]at e,λ r c=>by simp[rr]at c⟩
 |rs r lo n p f a cap c|rpt r i o p A c=>exact⟨λ b e=>by simp[rb]at e,λ r c=>by simp[rr]at c;subst c;assumption⟩
 |ptr b o h|mp b h=>exact⟨λ b e=>by simp[rb]at e;subst e;exact h,λ r c=>by simp[rr]at c⟩
 |fn f cs us j c g|agg cs us j q c g|tup cs us j c g=>exact d cs us j g
theorem Rep.noRefs{Γ:Gh}{x:AV}{u:ah}(h:Rep Γ x u):refs Γ.nb Γ.nr x=Y:=Kv.2 h.bound
def GB{Γ Γ':Gh}{fb fr:Nat->Nat}(Q:∀b o u,Γ.mem b o=Z u->Γ'.mem b o=Z u){x:AV}{u:ah}(h:Rep Γ x u)
  (g:∀b∈rb x,fb b<Γ'.nb/\Γ'.β (fb b)=Γ.β b)
  (d:∀r∈rr x,fr r<Γ'.nr/\Γ'.k (fr r)=Γ.k r/\Γ'.ver (fr r)=Γ.ver r/\Γ'.cur (fr r)=Γ.cur r/\Γ'.sz (fr r)=Γ.sz r/\Γ'.of (fr r)=Γ.of r):Rep Γ' (ren fb fr x) u:=by
 have c:∀(cs:aa AV) (us:aa ah),I us=I cs->(∀b∈rbL cs,fb b<Γ'.nb/\Γ'.β (fb b)=Γ.β b)->
   (∀r∈rrL cs,fr r<Γ'.nr/\Γ'.k (fr r)=Γ.k r/\Γ'.ver (fr r)=Γ.ver r/\Γ'.cur (fr r)=Γ.cur r/\Γ'.sz (fr r)=Γ.sz r/\Γ'.of (fr r)=Γ.of r)->
   (∀(i:Nat) (x:AV) (u:ah),cs[i]?=Z x->us[i]?=Z u->(∀b∈rb x,fb b<Γ'.nb/\Γ'.β (fb b)=Γ.β b)->(∀r∈rr x,fr r<Γ'.nr/\Γ'.k (fr r)=Γ.k r/\Γ'.ver (fr r)=Γ.ver r/\Γ'.cur (fr r)=Γ.cur r/\Γ'.sz (fr r)=Γ.sz r/\Γ'.of (fr r)=Γ.of r)->Rep Γ' (ren fb fr x) u)->
   RepL Γ' (bB fb fr cs) us:=by
  intro cs us m g d l;rw[GI];rw[AB]at g;rw[xJ]at d;refine⟨by simpa using m,λ i y u B S=>?_⟩;rw[dC]at B;cases w:cs[i]? with
  |none=>rw[w]at B;cases B
  |some x=>
    rw[w]at B;cases B;have p:=aP w;exact l i x u w S (λ b h=>g b (ir.2 ⟨x,p,h⟩)) (λ r h=>d r (ir.2 ⟨x,p,h⟩))
 induction h with
 |v _ h=>exact .v _ h
 |dead u=>exact .dead u
 |sl k es f a n cap b o us m M L T C X W s H l=>
   refine .sl k es f a n cap b o us m M L T C X W (λ i e j x z E=>Q _ _ _ (s i e j x z E)) λ i e j x z E=>?_;have q:=C e (aP z) x (aP E);let⟨e1,P,N⟩:=wX (fb:=fb) (fr:=fr) q;have:=l i e j x z E (by rw[P];intro b g;cases g) (by rw[N];intro r d;cases d);rw[e1]at this;exact this
 |rs r lo n ep f a cap G F M L w=>
   let⟨t,D,g3,g4,g5,g6⟩:=d r (by simp[rr]);refine .rs _ _ _ _ _ _ _ t (by rw[g3];exact F) M L λ K=>?_;grind
 |ptr b o h=>
   let⟨t,D⟩:=g b (by simp[rb]);rw[<-D];exact .ptr _ _ t
 |rpt r i o ep A G F w=>
   let⟨t,D,g3,g4,g5,g6⟩:=d r (by simp[rr]);refine .rpt _ _ _ _ _ t (by rw[g3];exact F) λ K=>?_;grind
 |ept cs o b R us C s H l=>
   refine .ept cs o b R us C (λ j x h=>Q _ _ _ (s j x h)) λ j x h=>?_;have q:=C x (aP h);let⟨e1,P,N⟩:=wX (fb:=fb) (fr:=fr) q;have:=l j x h (by rw[P];intro b g;cases g) (by rw[N];intro r d;cases d);rw[e1]at this;exact this
 |fn f cs us m h l=>
   have:=c cs us m g d l;exact .fn f _ us this.len this.rep
 |agg cs us m z h l=>
   have:=c cs us m g d l;exact .agg _ us this.len z this.rep
 |tup cs us m h l=>
   have:=c cs us m g d l;exact .tup _ us this.len this.rep
 |mp b h=>
   let⟨t,D⟩:=g b (by simp[rb]);rw[<-D];exact .mp _ t
mutual
theorem ME:∀x:AV,ren (λ b=>b) (λ r=>r) x=x
 |.ptr b o|.mp b=>rfl
 |.mc ..|.rs ..|.rpt .. => rfl
 |.fn f cs|.agg cs|.tup cs=>by simp only[ren,Gp cs]
 |.v _|.dead=>rfl
 |.sl ..|.ept .. => rfl
theorem Gp:∀cs:aa AV,bB (λ b=>b) (λ r=>r) cs=cs
 |[]=>rfl
 |x::cs=>by simp only[bB,ME x,Gp cs]
end
mutual
theorem AE(fb fr:Nat->Nat):∀x:AV,rb x=[]->rr x=[]->ren fb fr x=x
 |.ptr b o,h,_|.mp b,h,_=>by simp[rb]at h
 |.rs ..,_,h|.rpt ..,_,h=>by simp[rr]at h
 |.fn f cs,h,g|.agg cs,h,g|.tup cs,h,g=>by rw[ren,Ak fb fr cs h g]
 |.v _,_,_|.dead,_,_|.sl ..,_,_|.ept ..,_,_|.mc ..,_,_=>rfl
theorem Ak(fb fr:Nat->Nat):∀cs:aa AV,rbL cs=[]->rrL cs=[]->bB fb fr cs=cs
 |[],_,_=>rfl
 |x::cs,h,g=>by
   rw[rbL,mH]at h;rw[rrL,mH]at g;rw[bB,AE fb fr x h.1 g.1,Ak fb fr cs h.2 g.2]
end
def Rep.cut{Γ:Gh}{n m:Nat}{x:AV}{u:ah}(h:Rep Γ x u)(a:refs n m x=Y):Rep {Γ with nb:=n,nr:=m} x u:=by
 let⟨e,d⟩:=Kv.1 a;have:=GB (Γ:=Γ) (Γ':={Γ with nb:=n,nr:=m}) (fb:=λ b=>b) (fr:=λ r=>r) (λ _ _ _ h=>h) h (λ b c=>⟨e b c,rfl⟩) (λ r a=>⟨d r a,rfl,rfl,rfl,rfl,rfl⟩);rw[ME]at this;exact this
def Inv.wr{Γ:Gh}{σ:St}{w:ao}(h:Inv Γ σ w){σ':St}(b:σ'.bx=σ.bx)(a:σ'.rw=σ.rw):Inv Γ σ' w:=
 ⟨by rw[b];exact h.nb,by rw[a];exact h.nr,h.mem,by rw[b];exact h.box,h.inj,h.boxmem,by rw[a];exact h.row,h.apart,h.tab⟩
def Tl{α:Type}{l:aa α}{n i:Nat}{x:α}(h:(l.take n)[i]?=Z x):i<n/\l[i]?=Z x:=by
 grind
def Inv.cut{Γ:Gh}{σ:St}{w:ao}(h:Inv Γ σ w){n m:Nat}(l:n<=Γ.nb)(o:m<=Γ.nr)(N:∀i cs,i<n->σ.bx[i]?=Z cs->∀x∈cs,Go.AmZ.refs n m x=Y)(F v:aa Nat):Inv {Γ with nb:=n,nr:=m} ⟨σ.bx.take n,σ.rw.take m,F,v⟩ w where
 tab:=⟨h.tab.1,λ L=>h.tab.2.1 (L.elim (λ⟨i,a,b⟩=>.inl ⟨i,cU a l,b⟩) λ⟨r,a,b,c⟩=>.inr ⟨r,cU a o,b,c⟩),h.tab.2.2⟩
 nb:=by show n=I (σ.bx.take n);rw[bD,<-h.nb];omega
 nr:=by show m=I (σ.rw.take m);rw[bD,<-h.nr];omega
 mem:=h.mem
 box:=λ i cs f=>by
  let⟨p,q⟩:=Tl f;exact(h.box i cs q).to' (λ _ h=>h) λ x u A o=>A.cut (o.elim (N i cs p q x) λ⟨e1,D⟩=>by unfold Go.AmZ.refs;rw[e1,D];rfl)
 inj:=λ i j f t=>h.inj i j (cU f l) (cU t l)
 boxmem:=λ i f=>h.boxmem i (cU f l)
 row:=λ r R B=>by
  let⟨p,g⟩:=Tl B;let⟨k,y,pos,z,E,fz,g2,X,W,T,S,Q⟩:=h.row r R g
  have s:∀{x:AV}{u:ah}{e:aa AV},e∈R.c->x∈e->Rep Γ x u->Rep {Γ with nb:=n,nr:=m} x u:=λ M A d=>d.cut (by
   let⟨_,D,e3⟩:=wX (fb:=id) (fr:=id) (E _ M _ A);rw[Kv,D,e3];exact⟨λ b C=>(qS C).elim,λ b C=>(qS C).elim⟩)
  refine⟨k,y,pos,z,E,fz,g2,X,W,λ i e j x f t=>?_,λ H i f=>S H i (cU f l),Q⟩;let⟨u,K,d,P⟩:=T i e j x f t;exact⟨u,K,s (aP f) (aP t) d,P⟩
 apart:=λ r G B g=>h.apart r G (cU B o) (cU g o)
structure bP (σ σ':St):Prop where
 bl:σ.bx.length<=σ'.bx.length
 rl:σ.rw.length<=σ'.rw.length
 bx:∀i,i<σ.bx.length->i ∉ σ'.wr->σ'.bx[i]?=σ.bx[i]?
 rw:∀i,i<σ.rw.length->i ∉ σ'.wrr->σ'.rw[i]?=σ.rw[i]?
 wr:∀i,i∈σ.wr->i∈σ'.wr
 wrr:∀i,i∈σ.wrr->i∈σ'.wrr
def bP.refl(σ:St):bP σ σ:=⟨al _,al _,λ _ _ _=>rfl,λ _ _ _=>rfl,λ _ h=>h,λ _ h=>h⟩
def bP.trans{a b c:St}(h:bP a b)(g:bP b c):bP a c:=
 ⟨bR h.bl g.bl,bR h.rl g.rl,λ i d e=>(g.bx i (cU d h.bl) e).trans (h.bx i d λ f=>e (g.wr i f)),λ i d e=>(g.rw i (cU d h.rl) e).trans (h.rw i d λ f=>e (g.wrr i f)),λ i d=>g.wr i (h.wr i d),λ i d=>g.wrr i (h.wrr i d)⟩
def Xf:∀(a:aa Nat) (rw:aa Row),I (frz rw a)=I rw
 |[],rw=>rfl
 |r::a,rw=>by
   show(frz (rw.modify r pA) a).length=_;rw[Xf a,ZA]
theorem An:∀(a:aa Nat) (rw:aa Row) (i:Nat),i ∉ a->(frz rw a)[i]?=rw[i]?
 |[],rw,i,_=>rfl
 |r::a,rw,i,h=>by
   show(frz (rw.modify r pA) a)[i]?=_;rw[An a _ i λ b=>h (aS _ b),ZE];grind
def WI{Γ:Gh}{σ:St}{w:ao}(e:Inv Γ σ w){m:Nat->Nat->ac ah}(c:Le Γ {Γ with mem:=m}){d:Nat}{y:AV}{u:ah}(o:∀r∈rr y,d<=r->∀R,σ.rw[r]?=Z R->gJ {Γ with mem:=m} r R)(a:Rep Γ y u):Rep {Γ with mem:=m} (vN d σ.rw y) u:=by
 cases y with
 |sl k h f=>exact vf (y:=.sl k h f) e c (λ r a=>by simp[rsC]at a) a
 |rs r lo n i f=>
   simp only[vN];split
   .next l=>refine vf (y:=.rs r lo n i f) e c (λ j g R p=>?_) a;grind [rsC,rr]
   .exact a.mono c
 |_=>exact a.mono c
def VV{Γ:Gh}{σ:St}{w:ao}(l:Inv Γ σ w){m:Nat->Nat->ac ah}(k:Le Γ {Γ with mem:=m}){c:Nat}{pub:AV->AV}{cs:aa AV}{us:aa ah}(g:∀y u,(∀r∈rr y,c<=r->∀R,σ.rw[r]?=Z R->gJ {Γ with mem:=m} r R)->Rep Γ y u->Rep {Γ with mem:=m} (pub y) u)
  (j:∀r∈rrL cs,c<=r->∀R,σ.rw[r]?=Z R->gJ {Γ with mem:=m} r R) (d:RepL Γ cs us):RepL {Γ with mem:=m} (cs.map pub) us:=by
 refine⟨by simpa using d.len,λ i x u b e=>?_⟩;rw[dC]at b;cases h:cs[i]? with
 |none=>rw[h]at b;cases b
 |some y=>
   rw[h]at b;cases b;refine g y u (λ r f=>j r ?_) (d.rep i y u h e);grind [xJ,List.mem_of_getElem?]
def WC{Γ:Gh}{σ:St}{w:ao}(d:Inv Γ σ w){m:Nat->Nat->ac ah}(c:Le Γ {Γ with mem:=m}){b:Nat}{y:AV}{u:ah}(f:∀r∈rr y,b<=r->∀R,σ.rw[r]?=Z R->gJ {Γ with mem:=m} r R)(e:Rep Γ y u):Rep {Γ with mem:=m} (oH b σ.rw y) u:=by
 cases y with
 |agg cs=>
   cases e with
   |agg _ us i h g=>
     have:=VV d c (pub:=vN b σ.rw) (λ y u=>WI d c) (by simpa[rr]using f) ⟨i,g⟩;exact .agg _ us this.len h this.rep
 |_=>exact WI d c f e
def qmL{Γ:Gh}{σ:St}{w:ao}(d:Inv Γ σ w){m:Nat->Nat->ac ah}(c:Le Γ {Γ with mem:=m}){b:Nat}{y:AV}{u:ah}(f:∀r∈rr y,b<=r->∀R,σ.rw[r]?=Z R->gJ {Γ with mem:=m} r R)(e:Rep Γ y u):Rep {Γ with mem:=m} (nz b σ.rw y) u:=by
 cases y with
 |tup cs=>
   cases e with
   |tup _ us h g=>
     have:=VV d c (pub:=oH b σ.rw) (λ y u=>WC d c) (by simpa[rr]using f) ⟨h,g⟩;exact .tup _ us this.len this.rep
 |_=>exact WC d c f e
def filter_nil{p:Nat->Bool}{l:aa Nat}(h:l.filter p=[]){i:Nat}(a:p i=O):i ∉ l:=λ b=>by
 have:i∈l.filter p:=jQ.2 ⟨b,a⟩;rw[h]at this;cases this
def XT{Γ Γ':Gh}{σ σ':St}{w w':ao}{res:AV}{v:ah}(h0:Inv Γ σ w)(hx:Ext Γ w Γ' w')(hi:Inv Γ' σ' w')(hk:bP { σ with wr:=[],wrr:=[] } σ')(hr:Rep Γ' res v) :
  (∃ Γ2,Ext Γ w Γ2 w'/\Inv Γ2 (turn σ (mV σ res σ').2) w'/\Rep Γ2 (mV σ res σ').1 v)/\bP { σ with wr:=[],wrr:=[] } (turn { σ with wr:=[],wrr:=[] } (mV σ res σ').2):=by
 have hwrN:∀ i,i < I σ.bx->i ∉ (σ'.wr.filter λ b=>J (b < I σ.bx))->i ∉ σ'.wr := λ i hi hn hm=>hn (jQ.2 ⟨hm,by simpa using hi⟩);have hwrrN:∀ i,i < I σ.rw->i ∉ (σ'.wrr.filter λ b=>J (b < I σ.rw))->i ∉ σ'.wrr := λ i hi hn hm=>hn (jQ.2 ⟨hm,by simpa using hi⟩);unfold mV;split
 ·refine⟨⟨Γ',hx,hi.wr rfl rfl,hr⟩,⟨hk.bl,hk.rl,λ i hi hn=>hk.bx i hi (hwrN i hi hn),λ i hi hn=>hk.rw i hi (hwrrN i hi hn),λ i h=>(by cases h),λ i h=>(by cases h)⟩⟩
 ·rename_i hkeep;simp only[vC,Bk]at hkeep;obtain⟨hk1,hk2⟩:=hkeep;obtain⟨m,m1,m2,m3⟩:=pU ((rr res).filter λ r=>J (I σ.rw<=r)) hi σ'.wrr;have hpub:Rep { Γ' with mem:=m } (nz (I σ.rw) σ'.rw res) v:=qmL hi m1.le (λ r hr' hge R hR=>m3 r (jQ.2 ⟨hr',by simpa using hge⟩) R hR) hr;have hnb : I σ.bx <= Γ'.nb:=by rw[hi.nb];exact hk.bl
  have hnr : I σ.rw <= Γ'.nr:=by rw[hi.nr];exact hk.rl
  have hcut:=m2.cut (n := I σ.bx) (m := I σ.rw) hnb hnr (by
   intro i cs hlt hcs x hxm;have hcs : σ'.bx[i]?=Z cs:=hcs;by_cases hw:i ∈ σ'.wr
   ·grind
   ·rw[hk.bx i hlt hw]at hcs;rcases(h0.box i cs hcs).split with⟨vs,e,g1,g2,g3⟩ | ⟨_,_,_,_,_,rfl,_⟩
    case inr=>rw[bW.1 hxm];rfl
    obtain⟨j,hj⟩:=lI hxm;obtain⟨u,hu,hrep⟩:=g2.get hj;have:=hrep.noRefs;rw[h0.nb,h0.nr]at this;exact this) [] []
  have htake:(frz σ'.rw ((rr res).filter λ r=>J (I σ.rw<=r))).take (I σ.rw) = σ'.rw.take (I σ.rw):=by
   apply pJ;grind [An]
  have hcut':Inv { ({ Γ' with mem:=m }:Gh)with nb := I σ.bx,nr := I σ.rw } ⟨σ'.bx.take (I σ.bx),σ'.rw.take (I σ.rw),[],[]⟩ w':=by
   rw[<- htake];exact hcut
  have hrep2:=hpub.cut hk1
  have hext:Ext Γ w { ({ Γ' with mem:=m }:Gh)with nb := I σ.bx,nr := I σ.rw } w':=by
   have e1:=hx.trans (xx m1 w');refine⟨⟨e1.le.mem,by rw[h0.nb];exact al _,e1.le.β,by rw[h0.nr];exact al _,e1.le.k,e1.le.ver,e1.le.loc⟩,e1.os,e1.tape,e1.output,e1.size,e1.block,?_,e1.memg,e1.drawn⟩;rintro b (⟨i,hi',hb⟩ | ⟨r,hr',hz,hb⟩)
   ·exact e1.own b (.inl ⟨i,cU hi' hnb,hb⟩)
   ·exact e1.own b (.inr ⟨r,cU hr' hnr,hz,hb⟩)
  split
  ·rename_i hnil;have hn1:(σ'.wr.filter λ b=>J (b < I σ.bx))=[]:=(mH.1 hnil).1;have hn2:(σ'.wrr.filter λ b=>J (b < I σ.rw))=[]:=(mH.1 hnil).2
   have hb : σ'.bx.take (I σ.bx) = σ.bx:=by
    apply pJ;intro i;rw[eX];split
    ·next hlt=>exact hk.bx i hlt (filter_nil hn1 (by simpa using hlt))
    ·grind
   have hrw : σ'.rw.take (I σ.rw) = σ.rw:=by
    apply pJ;intro i;rw[eX];split
    ·next hlt=>exact hk.rw i hlt (filter_nil hn2 (by simpa using hlt))
    ·grind
   refine⟨⟨_,hext,?_,hrep2⟩,bP.refl _⟩;exact hcut'.wr hb.symm hrw.symm
  ·refine⟨⟨_,hext,hcut'.wr rfl rfl,hrep2⟩,⟨?_,?_,λ i hi hn=>?_,λ i hi hn=>?_,λ i h=>(by cases h),λ i h=>(by cases h)⟩⟩
   ·show I σ.bx<=I (σ'.bx.take (I σ.bx));have:=hk.bl;grind
   ·show I σ.rw<=I (σ'.rw.take (I σ.rw));have : I σ.rw <= I σ'.rw:=hk.rl;rw[bD];omega
   ·show(σ'.bx.take (I σ.bx))[i]? = σ.bx[i]?;rw[eX,ag hi];exact hk.bx i hi (hwrN i hi hn)
   ·show(σ'.rw.take (I σ.rw))[i]? = σ.rw[i]?;rw[eX,ag hi];exact hk.rw i hi (hwrrN i hi hn)
end
section
open RowKit
def KJ: ∀{l},nd l=O->l.Nodup
 |[],_=>nK
 |b::l,h=>by
   simp only[nd,aK,fF]at h;exact mI.2 ⟨by simpa using h.1,KJ h.2⟩
def VS{l:aa Nat}{b}(h:b∈l):l.getD (l.idxOf b) 0=b:=by
 grind
def X4{l:aa Nat}{b}(h:b∈l):l.idxOf b<I l:=List.idxOf_lt_length_of_mem h
def Ma{l:aa Nat}(a:l.Nodup){j b}(h:l[j]?=Z b):l.idxOf b=j:=by
 grind
def T8{l:aa Nat}(a:l.Nodup){i j}(c:i<I l)(b:j<I l)(h:l[i]=l[j]):i=j:=by
 rw[<-Ma a (aV c),<-Ma a (aV b),h]
def fi(l:aa Nat)(n i:Nat):ac Nat:=if i<n then(if i∈l then Z (l.idxOf i)else U)else Z (I l+(i-n))
def oj{l n i}(h:fi l n i=U):i<n/\i ∉ l:=by
 grind [fi]
def qm{l n i j}(h:fi l n i=Z j)(a:i<n):i∈l/\j=l.idxOf i/\j<I l/\l.getD j 0=i:=by
 grind [fi]
def X8{l n i a j}(h:fi l n i=Z j)(d:fi l n a=Z j):i=a:=by
 by_cases c:i<n<;>by_cases b:a<n
 .rw[<-(qm h c).2.2.2,<-(qm d b).2.2.2]
 .grind [fi]
 .grind [fi]
 .grind [fi]
def W8{l}(a:l.Nodup){n}(c:∀b∈l,b<n)(j):fi l n (cM l n j)=Z j:=by
 grind [cM,fi]
def W2{l n e j}(a:∀b∈l,b<n)(d:j<I l+e:=by omega):cM l n j<n+e:=by
 unfold cM;split
 .next b c=>have:=a b (aP c);omega
 .grind
def F1{l n b}(h:b∈l):cM l n (l.idxOf b)=b:=by
 grind [cM]
def wR{α}:∀bs (l xs:aa α),I bs<=I xs->I (dv l bs xs)=I l+(I xs-I bs)
 |[],l,xs,_=>by simp[dv]
 |b::bs,l,[],h=>by simp at h
 |b::bs,l,x::xs,h=>by
   simp only[dv];rw[wR bs _ xs (by grind),dX];simp
def pY{α}:∀bs (l xs:aa α) i,I bs<=I xs->bs.Nodup->(∀b∈bs,b<I l)->(dv l bs xs)[i]?=match fi bs (I l) i with
  |Z j=>xs[j]?
  |U=>l[i]?
 |[],l,xs,i,_,_,_=>by
   simp[dv,fi];rw[yr];split<;>simp_all
 |b::bs,l,[],i,h,_,_=>by simp at h
 |b::bs,l,x::xs,i,h,n,m=>by
   simp[dv];let⟨f,d⟩:=mI.1 n;rw[pY bs (l.set b x) xs i (by grind) d (λ p o=>by rw[dX];exact m p (aS _ o)),dX];have k:=m b (aW ..);unfold fi;by_cases c:i<I l
   .rw[ag c,ag c];by_cases a:i=b
    .subst a;rw[af f,ag (aW ..)];simp[k]
    .by_cases g:i∈bs
     .rw[ag g,ag (aS _ g)];rw[List.idxOf_cons,show(b==i)=Y by simpa using λ e=>a e.symm];rfl
     .rw[af g,af (by grind)];rw[oN,af λ e=>a e.symm]
   .rw[af c,af c];simp;rw[show I bs+1+(i-I l)=(I bs+(i-I l))+1 by omega];rfl
def gO(Γ:Gh)(bs rs:aa Nat):Gh:=
 {mem:=Γ.mem,nb:=I bs,β:=λ i=>Γ.β (bs.getD i 0),nr:=I rs,ver:=λ r=>Γ.ver (rs.getD r 0),k:=λ r=>Γ.k (rs.getD r 0),cur:=λ r=>Γ.cur (rs.getD r 0),sz:=λ r=>Γ.sz (rs.getD r 0),of:=λ r=>Γ.of (rs.getD r 0)}
structure ms (σ:St) (bs rs:List Nat):Prop where
 bn:bs.Nodup
 rn:rs.Nodup
 bl:∀b∈bs,b<σ.bx.length
 rl:∀r∈rs,r<σ.rw.length
 cb:∀b∈bs,∀x∈σ.bx.getD b [],(∀b∈rb x,b∈bs)/\∀r∈rr x,r∈rs
def fV{α}{l:aa α}{i x d}(h:l[i]?=Z x):l.getD i d=x:=by grind
section
variable {Γ:Gh}{σ:St}{w:ao}{bs rs:aa Nat}
def Gq(d:ms σ bs rs){x u}(h:Rep Γ x u)(c:∀b∈rb x,b∈bs)(a:∀r∈rr x,r∈rs):Rep (gO Γ bs rs) (ren (λ b=>bs.idxOf b) (λ r=>rs.idxOf r) x) u:=
 GB (Γ:=Γ) (Γ':=gO Γ bs rs) (λ _ _ _ h=>h) h (λ b h=>⟨X4 (c b h),by show Γ.β _=_;rw[VS (c b h)]⟩) λ r h=>by
  have e:=VS (a r h);refine⟨X4 (a r h),?_,?_,?_,?_,?_⟩
  .show Γ.k _=_;rw[e]
  .show Γ.ver _=_;rw[e]
  .show Γ.cur _=_;rw[e]
  .show Γ.sz _=_;rw[e]
  .show Γ.of _=_;rw[e]
def E6{b}(e:ms σ bs rs)(g:Inv Γ σ w)(h:fN (gO Γ bs rs) b):fN Γ b:=by
 obtain⟨i,a,d⟩|⟨r,f,j,d⟩:=h
 .have a:i<I bs:=a;have c:bs.getD i 0∈bs:=by grind
  exact .inl ⟨_,by rw[g.nb];exact e.bl _ c,d⟩
 .have f:r<I rs:=f;have c:rs.getD r 0∈rs:=by grind
  exact .inr ⟨_,by rw[g.nr];exact e.rl _ c,j,d⟩
def V7(g:ms σ bs rs)(l:Inv Γ σ w):Inv (gO Γ bs rs) (bO σ bs rs) w where
 tab:=⟨l.tab.1,λ T=>l.tab.2.1 (E6 g l T),l.tab.2.2⟩
 nb:=by simp[gO,bO]
 nr:=by simp[gO,bO]
 mem:=l.mem
 box:=λ i cs ab=>by
  have f:(bs.map λ b=>bB (λ b=>bs.idxOf b) (λ r=>rs.idxOf r) (σ.bx.getD b []))[i]?=Z cs:=ab;rw[dC]at f;cases m:bs[i]? with
  |none=>rw[m]at f;cases f
  |some b=>
    rw[m]at f;simp only[lK,dF]at f;have F:=aP m;have G:=g.bl b F;have t:σ.bx[b]?=Z (σ.bx.getD b []):=by rw[fV (aV G)];exact aV G
    rw[<-f,GI];refine(l.box b _ t).to _ (λ o T=>by show w.heap[Γ.β (bs.getD i 0)]?=_;rw[fV m];exact T) (λ x u K y=>?_) λ x=>AE _ _ x;obtain y|⟨e1,A⟩:=y
    .exact Gq g K (g.cb b F x y).1 (g.cb b F x y).2
    .exact Gq g K (by rw[e1];exact λ _ h=>absurd h qS) (by rw[A];exact λ _ h=>absurd h qS)
 inj:=λ i j a z h=>by
  have a:i<I bs:=a;have z:j<I bs:=z;have h:Γ.β (bs.getD i 0)=Γ.β (bs.getD j 0):=h;have e1:=fV (d:=0) (aV a);have A:=fV (d:=0) (aV z);rw[e1,A]at h;have:=l.inj _ _ (by rw[l.nb];exact g.bl _ (iq a)) (by rw[l.nb];exact g.bl _ (iq z)) h;exact T8 g.bn a z this
 boxmem:=λ i a o=>by
  have a:i<I bs:=a;have e1:=fV (d:=0) (aV a);show Γ.mem (Γ.β (bs.getD i 0)) o=U;rw[e1];exact l.boxmem _ (by rw[l.nb];exact g.bl _ (iq a)) o
 row:=λ r R hR=>by
  have n:(rs.map λ r=>σ.rw.getD r ⟨0,[],0,0,Y⟩)[r]?=Z R:=hR;rw[dC]at n;cases m:rs[r]? with
  |none=>rw[m]at n;cases n
  |some q=>
    rw[m]at n;simp only[lK,dF]at n;have F:=aP m;have D:=g.rl q F;have t:σ.rw[q]?=Z R:=by rw[<-n,fV (aV D)];exact aV D
    have E:rs.getD r 0=q:=fV m;let⟨k,P,pos,S,pl,fz,g2,g4,g5,g6,g8,g9⟩:=l.row q R t
    have H:∀{x:AV}{u:ah}{e:aa AV},e∈R.c->x∈e->Rep Γ x u->Rep (gO Γ bs rs) x u:=λ X K p=>by
     let⟨e1,A,e3⟩:=wX (fb:=λ b=>bs.idxOf b) (fr:=λ r=>rs.idxOf r) (pl _ X _ K);have:=Gq g p (by rw[A];exact λ b m=>(qS m).elim) (by rw[e3];exact λ b m=>(qS m).elim);rw[e1]at this;exact this
    have N:(gO Γ bs rs).cur r=Γ.cur q:=by show Γ.cur _=_;rw[E]
    have L:(gO Γ bs rs).sz r=Γ.sz q:=by show Γ.sz _=_;rw[E]
    have M:(gO Γ bs rs).of r=Γ.of q:=by show Γ.of _=_;rw[E]
    refine⟨by rw[k];show _=Γ.k _;rw[E],λ hl=>by rw[P hl];show _=Γ.ver _;rw[E],pos,S,pl,fz,by rw[N,L];exact g2,by rw[L,M];exact g4,by rw[N,L,M];exact g5,λ i e j x a z=>?_,λ B i a=>?_,λ hf=>M.trans (g9 hf)⟩
    .let⟨u,hu,p,h1⟩:=g6 i e j x a z;exact⟨u,by rw[N,M];exact hu,H (aP a) (aP z) p,h1⟩
    .have a:i<I bs:=a;have e1:=fV (d:=0) (aV a);rw[L]at B;rw[N];show Γ.β (bs.getD i 0)≠_;rw[e1];exact g8 B _ (by rw[l.nb];exact g.bl _ (iq a))
 apart:=λ r Q C s W B v=>by
  have C:r<I rs:=C;have s:Q<I rs:=s;have e1:=fV (d:=0) (aV C);have A:=fV (d:=0) (aV s);have B:Γ.sz (rs.getD r 0)≠0:=B;have v:Γ.sz (rs.getD Q 0)≠0:=v;show Γ.cur (rs.getD r 0)≠Γ.cur (rs.getD Q 0);rw[e1]at B;rw[A]at v;rw[e1,A];refine l.apart _ _ (by rw[l.nr];exact g.rl _ (iq C)) (by rw[l.nr];exact g.rl _ (iq s)) (λ X=>W (T8 g.rn C s X)) B v
def hY(Γ Γs:Gh)(bs rs:aa Nat):Gh:=
 {mem:=Γs.mem,nb:=Γ.nb+(Γs.nb-I bs),β:=λ i=>match fi bs Γ.nb i with|Z j=>Γs.β j|U=>Γ.β i,
   nr:=Γ.nr+(Γs.nr-I rs),ver:=λ r=>match fi rs Γ.nr r with|Z j=>Γs.ver j|U=>Γ.ver r,sz:=λ r=>match fi rs Γ.nr r with|Z j=>Γs.sz j|U=>Γ.sz r,
   k:=λ r=>match fi rs Γ.nr r with|Z j=>Γs.k j|U=>Γ.k r,cur:=λ r=>match fi rs Γ.nr r with|Z j=>Γs.cur j|U=>Γ.cur r,
   of:=λ r=>match fi rs Γ.nr r with|Z j=>Γs.of j|U=>Γ.of r}
variable {Γs:Gh}{σs:St}{w':ao}
def Hj{l n e i j}(h:fi l n i=Z j)(a:i<n+e):j<I l+e:=by
 grind [fi]
def FS(c:ms σ bs rs)(d:Inv Γ σ w)(i:Ext (gO Γ bs rs) w Γs w'){x u}(h:Rep Γs x u):Rep (hY Γ Γs bs rs) (ren (cM bs Γ.nb) (cM rs Γ.nr) x) u:=by
 refine GB (Γ:=Γs) (Γ':=hY Γ Γs bs rs) (λ _ _ _ h=>h) h (λ b a=>?_) λ r g=>?_
 .have f:=h.bound.1 b a;refine⟨W2 (λ b a=>by rw[d.nb];exact c.bl b a),?_⟩;show(match fi bs Γ.nb (cM bs Γ.nb b)with|Z j=>Γs.β j|U=>Γ.β _)=_;rw[W8 c.bn (λ b a=>by rw[d.nb];exact c.bl b a)]
 .have f:=h.bound.2 r g;have e:=W8 c.rn (n:=Γ.nr) (λ b a=>by rw[d.nr];exact c.rl b a) r;refine⟨W2 (λ b a=>by rw[d.nr];exact c.rl b a),?_,?_,?_,?_,?_⟩
  .show(match fi rs Γ.nr _ with|Z j=>Γs.k j|U=>Γ.k _)=_;rw[e]
  .show(match fi rs Γ.nr _ with|Z j=>Γs.ver j|U=>Γ.ver _)=_;rw[e]
  .show(match fi rs Γ.nr _ with|Z j=>Γs.cur j|U=>Γ.cur _)=_;rw[e]
  .show(match fi rs Γ.nr _ with|Z j=>Γs.sz j|U=>Γ.sz _)=_;rw[e]
  .show(match fi rs Γ.nr _ with|Z j=>Γs.of j|U=>Γ.of _)=_;rw[e]
def Wi(n:ms σ bs rs)(o:Inv Γ σ w)(d:Ext (gO Γ bs rs) w Γs w'):Le Γ (hY Γ Γs bs rs):=by
 have f:∀i,i<Γ.nb->(hY Γ Γs bs rs).β i=Γ.β i:=by
  intro i g;show(match fi bs Γ.nb i with|some j=>Γs.β j|none=>Γ.β i)=_;cases h:fi bs Γ.nb i with
  |none=>rfl
  |some j=>
    let⟨m,l,c,b⟩:=qm h g;have:=d.le.β j c;simp only;rw[this];show Γ.β (bs.getD j 0)=_;rw[b]
 refine⟨d.le.mem,kM _ _,f,kM _ _,λ r e=>?_,λ r e=>?_,λ r e a=>?_⟩
 .show(match fi rs Γ.nr r with|some j=>Γs.k j|none=>Γ.k r)=_;cases h:fi rs Γ.nr r with
  |none=>rfl
  |some j=>
    let⟨m,l,c,b⟩:=qm h e;have:=d.le.k j c;simp only;rw[this];show Γ.k (rs.getD j 0)=_;rw[b]
 .show _<=(match fi rs Γ.nr r with|some j=>Γs.ver j|none=>Γ.ver r);cases h:fi rs Γ.nr r with
  |none=>exact al _
  |some j=>
    let⟨m,l,c,b⟩:=qm h e;have:Γ.ver (rs.getD j 0)<=Γs.ver j:=d.le.ver j c;rw[b]at this;exact this
 .have a:(match fi rs Γ.nr r with|some j=>Γs.ver j|none=>Γ.ver r)=Γ.ver r:=a;show(match fi rs Γ.nr r with|some j=>Γs.cur j|none=>Γ.cur r)=_/\(match fi rs Γ.nr r with|some j=>Γs.sz j|none=>Γ.sz r)=_/\(match fi rs Γ.nr r with|some j=>Γs.of j|none=>Γ.of r)=_;cases h:fi rs Γ.nr r with
  |none=>exact⟨rfl,rfl,rfl⟩
  |some j=>
    rw[h]at a;let⟨m,l,c,b⟩:=qm h e;have:=d.le.loc j c (by show _=Γ.ver (rs.getD j 0);rw[b];exact a);have:Γs.cur j=Γ.cur (rs.getD j 0)/\Γs.sz j=Γ.sz (rs.getD j 0)/\Γs.of j=Γ.of (rs.getD j 0):=this;rw[b]at this;exact this
def zR(l:ms σ bs rs)(g:Inv Γ σ w){i}(h:fi bs Γ.nb i=U):¬ fN (gO Γ bs rs) (Γ.β i)/\Γ.β i<w.heap.size:=by
 let⟨b,m⟩:=oj h;refine⟨?_,g.box_lt b⟩;rintro(⟨j,f,a⟩|⟨r,e,c,a⟩)
 .have f:=f;have e1:=fV (d:=0) (aV f);have a:Γ.β (bs.getD j 0)=Γ.β i:=a;rw[e1]at a;have:=g.inj _ _ (by rw[g.nb];exact l.bl _ (iq f)) b a;grind
 .have e:=e;have e1:=fV (d:=0) (aV e);have a:Γ.cur (rs.getD r 0)=Γ.β i:=a;rw[e1]at a;have k:=l.rl _ (iq e);have c:Γ.sz (rs.getD r 0)≠0:=c;rw[e1]at c;exact(g.row _ _ (aV k)).nbx c i b a.symm
def LB(n:ms σ bs rs)(f:Inv Γ σ w){r}(h:fi rs Γ.nr r=U)(k:Γ.sz r≠0):¬ fN (gO Γ bs rs) (Γ.cur r)/\Γ.cur r<w.heap.size:=by
 let⟨c,m⟩:=oj h;have l:r<I σ.rw:=by rw[<-f.nr];exact c
 refine⟨?_,f.cur_lt c k⟩;have o:=(f.row _ _ (aV l)).nbx k;rintro(⟨j,i,b⟩|⟨q,g,a,b⟩)
 .have i:=i;have e1:=fV (d:=0) (aV i);have b:Γ.β (bs.getD j 0)=Γ.cur r:=b;rw[e1]at b;exact o _ (by rw[f.nb];exact n.bl _ (iq i)) b
 .have g:=g;have e1:=fV (d:=0) (aV g);have b:Γ.cur (rs.getD q 0)=Γ.cur r:=b;rw[e1]at b;have a:Γ.sz (rs.getD q 0)≠0:=a;rw[e1]at a;refine f.apart _ _ (by rw[f.nr];exact n.rl _ (iq g)) c (λ e=>m (e▸iq g)) a k b
def xn(a:Ext (gO Γ bs rs) w Γs w'){b b'}(e:fN Γs b)(d:¬ fN (gO Γ bs rs) b'/\b'<w.heap.size):b≠b':=λ c=>by
 obtain h|h:=a.own b e
 .exact d.1 (c▸h)
 .omega
def LG(e:ms σ bs rs)(f:Inv Γ σ w)(c:Ext (gO Γ bs rs) w Γs w'):Ext Γ w (hY Γ Γs bs rs) w':=by
 have n:I bs<=Γs.nb:=c.le.nb;have m:I rs<=Γs.nr:=c.le.nr;refine⟨Wi e f c,c.os,c.tape,c.output,c.size,λ b k p=>c.block b k λ h=>p (E6 e f h),?_,λ b o u q=>?_,c.drawn⟩
 .have sub:=λ b k=>(c.own b k).imp_left (E6 e f);rintro b (⟨i,g,a⟩|⟨r,l,d,a⟩)
  .have a:(match fi bs Γ.nb i with|some j=>Γs.β j|none=>Γ.β i)=b:=a;cases h:fi bs Γ.nb i with
   |some j=>
     rw[h]at a;have:=Hj h g;exact sub b (.inl ⟨j,by omega,a⟩)
   |none=>rw[h]at a;exact .inl (.inl ⟨i,(oj h).1,a⟩)
  .have a:(match fi rs Γ.nr r with|some j=>Γs.cur j|none=>Γ.cur r)=b:=a;have d:(match fi rs Γ.nr r with|some j=>Γs.sz j|none=>Γ.sz r)≠0:=d;cases h:fi rs Γ.nr r with
   |some j=>
     rw[h]at a d;have:=Hj h l;exact sub b (.inr ⟨j,by omega,d,a⟩)
   |none=>rw[h]at a d;exact .inl (.inr ⟨r,(oj h).1,d,a⟩)
 .obtain h|h|h:=c.memg b o u q
  .exact .inl h
  .exact .inr (.inl (E6 e f h))
  .exact .inr (.inr h)
def Uu(q:ms σ bs rs)(g:Inv Γ σ w)(p:Ext (gO Γ bs rs) w Γs w')(v:Inv Γs σs w'):Inv (hY Γ Γs bs rs) (qp σ bs rs σs) w':=by
 have a4:I bs<=Γs.nb:=p.le.nb;have a3:I rs<=Γs.nr:=p.le.nr;have ab:I bs<=I (σs.bx.map (bB (cM bs (I σ.bx)) (cM rs (I σ.rw)))):=by rw[ce,<-v.nb];exact a4
 have S:I rs<=I σs.rw:=by rw[<-v.nr];exact a3
 have ar:=Wi q g p;have E:∀j,j<Γs.nb->fN Γs (Γs.β j):=λ j v=>.inl ⟨j,v,rfl⟩;have D:∀j,j<Γs.nr->Γs.sz j≠0->fN Γs (Γs.cur j):=λ j v F=>.inr ⟨j,v,F,rfl⟩
 have t:∀i j,i<(hY Γ Γs bs rs).nb->fi bs Γ.nb i=Z j->j<Γs.nb:=λ i j l h=>by
  have:=Hj (e:=Γs.nb-I bs) h l;omega
 have C:∀i j,i<(hY Γ Γs bs rs).nr->fi rs Γ.nr i=Z j->j<Γs.nr:=λ i j l h=>by
  have:=Hj (e:=Γs.nr-I rs) h l;omega
 have s:∀i j,fi bs Γ.nb i=Z j->(hY Γ Γs bs rs).β i=Γs.β j:=λ i j h=>by
  show(match fi bs Γ.nb i with|some j=>Γs.β j|none=>Γ.β i)=_;rw[h]
 have y:∀i,fi bs Γ.nb i=U->(hY Γ Γs bs rs).β i=Γ.β i:=λ i h=>by
  show(match fi bs Γ.nb i with|some j=>Γs.β j|none=>Γ.β i)=_;rw[h]
 have cs':∀i j,fi rs Γ.nr i=Z j->(hY Γ Γs bs rs).cur i=Γs.cur j:=λ i j h=>by
  show(match fi rs Γ.nr i with|some j=>Γs.cur j|none=>Γ.cur i)=_;rw[h]
 have X:∀i,fi rs Γ.nr i=U->(hY Γ Γs bs rs).cur i=Γ.cur i:=λ i h=>by
  show(match fi rs Γ.nr i with|some j=>Γs.cur j|none=>Γ.cur i)=_;rw[h]
 have B:∀b,(¬ fN (gO Γ bs rs) b/\b<w.heap.size)->w'.heap[b]?=w.heap[b]?:=λ b Q=>p.block b Q.2 Q.1
 have A:∀b o,(¬ fN (gO Γ bs rs) b/\b<w.heap.size)->Γ.mem b o=U->Γs.mem b o=U:=λ b o Q hm=>by
  cases h:Γs.mem b o with
  |none=>rfl
  |some u=>
    obtain n|n|n:=p.memg b o u h
    .have n:Γ.mem b o=Z u:=n;rw[hm]at n;cases n
    .exact absurd n Q.1
    .omega
 refine⟨?_,?_,v.mem,?_,?_,?_,?_,?_,(LG q g p).tab g.tab⟩
 .show Γ.nb+(Γs.nb-I bs)=I (dv _ _ _);rw[wR _ _ _ ab,ce,g.nb,v.nb]
 .show Γ.nr+(Γs.nr-I rs)=I (dv _ _ _);rw[wR _ _ _ S,g.nr,v.nr]
 .intro i cs d;have d:(dv σ.bx bs (σs.bx.map (bB (cM bs (I σ.bx)) (cM rs (I σ.rw)))))[i]?=Z cs:=d;rw[pY _ _ _ _ ab q.bn q.bl,<-g.nb,<-g.nr]at d;cases h:fi bs Γ.nb i with
  |some j=>
    rw[h]at d;simp only at d;rw[dC]at d;cases Q:σs.bx[j]? with
    |none=>rw[Q]at d;cases d
    |some a6=>
      rw[Q]at d;simp only[lK,dF]at d;rw[<-d,GI];exact(v.box j a6 Q).to _ (λ o ho=>by rw[s i j h];exact ho) (λ x u T _=>FS q g p T) λ x=>AE _ _ x
  |none=>
    rw[h]at d;simp only at d;exact(g.box i cs d).to' (λ o ho=>by rw[y i h,B _ (zR q g h)];exact ho) λ x u p _=>p.mono ar
 .intro i K n h2 m;cases h:fi bs Γ.nb i with
  |some j=>
    rw[s i j h]at m;cases a:fi bs Γ.nb K with
    |some f=>
      rw[s K f a]at m;have:=v.inj j f (t i j n h) (t K f h2 a) m;subst this;exact X8 h a
    |none=>
      rw[y K a]at m;exact absurd m (xn p (E j (t i j n h)) (zR q g a))
  |none=>
    rw[y i h]at m;cases a:fi bs Γ.nb K with
    |some f=>
      rw[s K f a]at m;exact absurd m.symm (xn p (E f (t K f h2 a)) (zR q g h))
    |none=>
      rw[y K a]at m;exact g.inj i K (oj h).1 (oj a).1 m
 .intro i n o;cases h:fi bs Γ.nb i with
  |some j=>rw[s i j h];exact v.boxmem j (t i j n h) o
  |none=>rw[y i h];exact A _ o (zR q g h) (g.boxmem i (oj h).1 o)
 .intro r R H;have H:(dv σ.rw rs σs.rw)[r]?=Z R:=H
  have a1:r<(hY Γ Γs bs rs).nr:=by
   have:=getElem?_lt H;rw[wR _ _ _ S,<-g.nr,<-v.nr]at this;exact this
  rw[pY _ _ _ _ S q.rn q.rl,<-g.nr]at H;cases h:fi rs Γ.nr r with
  |some j=>
    rw[h]at H;simp only at H;let⟨k,aE,pos,a0,pl,fz,g2,g4,g5,g6,g8,g9⟩:=v.row j R H
    have az:∀{x:AV}{u:ah}{e:aa AV},e∈R.c->x∈e->Rep Γs x u->Rep (hY Γ Γs bs rs) x u:=λ m T G=>by
     let⟨e1,e2,e3⟩:=wX (fb:=cM bs Γ.nb) (fr:=cM rs Γ.nr) (pl _ m _ T);have:=FS q g p G;rw[e1]at this;exact this
    have ek:(hY Γ Γs bs rs).k r=Γs.k j:=by show(match fi rs Γ.nr r with|some j=>Γs.k j|none=>Γ.k r)=_;rw[h]
    have a5:(hY Γ Γs bs rs).ver r=Γs.ver j:=by show(match fi rs Γ.nr r with|some j=>Γs.ver j|none=>Γ.ver r)=_;rw[h]
    have L:(hY Γ Γs bs rs).sz r=Γs.sz j:=by show(match fi rs Γ.nr r with|some j=>Γs.sz j|none=>Γ.sz r)=_;rw[h]
    have M:(hY Γ Γs bs rs).of r=Γs.of j:=by show(match fi rs Γ.nr r with|some j=>Γs.of j|none=>Γ.of r)=_;rw[h]
    have N:=cs' r j h;refine⟨k.trans ek.symm,λ hl=>(aE hl).trans a5.symm,pos,a0,pl,fz,by rw[N,L];exact g2,by rw[L,M];exact g4,by rw[N,L,M];exact g5,λ i e f x l ax=>?_,λ F i l=>?_,λ hf=>M.trans (g9 hf)⟩
    .let⟨u,hu,G,n⟩:=g6 i e f x l ax;exact⟨u,by rw[N,M];exact hu,az (aP l) (aP ax) G,n⟩
    .rw[L]at F;rw[N];cases a:fi bs Γ.nb i with
     |some f=>rw[s i f a];exact g8 F f (t i f l a)
     |none=>
       rw[y i a];intro m;exact xn p (D j (C r j a1 h) F) (zR q g a) m.symm
  |none=>
    rw[h]at H;simp only at H;have W:=LB q g h;have ad:=(oj h).1;refine(g.row r R H).lift ad ar ?_ (λ F ob a2=>?_) (λ F off hm=>?_) λ F i l hn=>?_
    .show(match fi rs Γ.nr r with|some j=>Γs.ver j|none=>Γ.ver r)=_;rw[h]
    .rw[B _ (W F)];exact a2
    .exact A _ off (W F) hm
    .cases a:fi bs Γ.nb i with
     |some f=>
       rw[s i f a];exact xn p (E f (t i f l a)) (W F)
     |none=>
       have:=(oj a).1;omega
 .intro r z n h2 an z1 P
  have zs:∀i j,fi rs Γ.nr i=Z j->(hY Γ Γs bs rs).sz i=Γs.sz j:=λ i j h=>by
   show(match fi rs Γ.nr i with|some j=>Γs.sz j|none=>Γ.sz i)=_;rw[h]
  have zn:∀i,fi rs Γ.nr i=U->(hY Γ Γs bs rs).sz i=Γ.sz i:=λ i h=>by
   show(match fi rs Γ.nr i with|some j=>Γs.sz j|none=>Γ.sz i)=_;rw[h]
  cases h:fi rs Γ.nr r with
  |some j=>
    rw[zs r j h]at z1;rw[cs' r j h];cases a:fi rs Γ.nr z with
    |some f=>
      rw[zs z f a]at P;rw[cs' z f a];refine v.apart j f (C r j n h) (C z f h2 a) (λ m=>?_) z1 P;subst m;exact an (X8 h a)
    |none=>
      rw[zn z a]at P;rw[X z a];exact xn p (D j (C r j n h) z1) (LB q g a P)
  |none=>
    rw[zn r h]at z1;rw[X r h];cases a:fi rs Γ.nr z with
    |some f=>
      rw[zs z f a]at P;rw[cs' z f a];exact λ m=>xn p (D f (C z f h2 a) P) (LB q g h z1) m.symm
    |none=>
      rw[zn z a]at P;rw[X z a];exact g.apart r z (oj h).1 (oj a).1 an z1 P
mutual
theorem qnE{fb fr e d:Nat->Nat}:∀x:AV,(∀b∈rb x,e (fb b)=b)->(∀r∈rr x,d (fr r)=r)->ren e d (ren fb fr x)=x
 |.ptr b o,c,_|.mp b,c,_=>by simp only[ren,c b (by simp[rb])]
 |.mc ..,_,_=>rfl
 |.rs r lo n g f,_,a|.rpt r i o g,_,a=>by simp only[ren,a r (by simp[rr])]
 |.fn f cs,c,a|.agg cs,c,a|.tup cs,c,a=>by simp only[ren,zF cs (by simpa[rb]using c) (by simpa[rr]using a)]
 |.v _,_,_|.dead,_,_|.sl ..,_,_|.ept ..,_,_=>rfl
theorem zF{fb fr e d:Nat->Nat}:∀cs:aa AV,(∀b∈rbL cs,e (fb b)=b)->(∀r∈rrL cs,d (fr r)=r)->bB e d (bB fb fr cs)=cs
 |[],_,_=>rfl
 |x::cs,c,a=>by
   simp only[bB,qnE x (λ b h=>c b (by simp[rbL,h])) (λ r h=>a r (by simp[rrL,h])),zF cs (λ b h=>c b (by simp[rbL,h])) (λ r h=>a r (by simp[rrL,h]))]
end
def Vl(c:ms σ bs rs):(qp σ bs rs (bO σ bs rs)).bx=σ.bx/\(qp σ bs rs (bO σ bs rs)).rw=σ.rw:=by
 constructor
 .apply pJ;intro i;show(dv σ.bx bs ((bO σ bs rs).bx.map _))[i]?=_;rw[pY _ _ _ _ (by simp[bO]) c.bn c.bl];cases h:fi bs (I σ.bx) i with
  |none=>rfl
  |some j=>
    simp only;by_cases e:i<I σ.bx
    .let⟨l,o,n,m⟩:=qm h e
     have k:bs[j]?=Z i:=by
      grind
     simp only[bO,iu,dC,k,lK,Function.comp];rw[aV e,fV (aV e)];congr 1;have g:=c.cb i l;rw[fV (aV e)]at g;refine zF _ (λ b a=>?_) λ r d=>?_
     .rw[AB]at a;let⟨x,f,a⟩:=ir.1 a;exact F1 ((g x f).1 b a)
     .rw[xJ]at d;let⟨x,f,d⟩:=ir.1 d;exact F1 ((g x f).2 r d)
    .grind [fi,bO]
 .apply pJ;intro i;show(dv σ.rw rs (bO σ bs rs).rw)[i]?=_;rw[pY _ _ _ _ (by simp[bO]) c.rn c.rl];grind [bO,fi]
def qh8(a:ms σ bs rs)(e:bP (bO σ bs rs) σs):bP σ (qp σ bs rs σs):=by
 have m:(bO σ bs rs).bx.length=I bs:=by simp[bO]
 have f:(bO σ bs rs).rw.length=I rs:=by simp[bO]
 have d:I bs<=I (σs.bx.map (bB (cM bs (I σ.bx)) (cM rs (I σ.rw)))):=by rw[ce,<-m];exact e.bl
 have c:I rs<=I σs.rw:=by rw[<-f];exact e.rl
 let⟨e1,r⟩:=Vl a;refine⟨?_,?_,λ i l g=>?_,λ i l g=>?_,λ i h=>yt _ h,λ i h=>yt _ h⟩
 .show _<=I (dv _ _ _);rw[wR _ _ _ d];omega
 .show _<=I (dv _ _ _);rw[wR _ _ _ c];omega
 .have b:=λ h=>g (H8 _ h);rw[<-e1];show(dv _ _ _)[i]?=(dv _ _ _)[i]?;rw[pY _ _ _ _ d a.bn a.bl,pY _ _ _ _ (by grind) a.bn a.bl];cases h:fi bs (I σ.bx) i with
  |none=>rfl
  |some j=>
    simp;let⟨o,n,q,p⟩:=qm h l;rw[e.bx j (by omega) λ k=>b (bu.2 ⟨j,k,by rw[n];exact F1 o⟩)]
 .have b:=λ h=>g (H8 _ h);rw[<-r];show(dv _ _ _)[i]?=(dv _ _ _)[i]?;rw[pY _ _ _ _ c a.rn a.rl,pY _ _ _ _ (by omega) a.rn a.rl];cases h:fi rs (I σ.rw) i with
  |none=>rfl
  |some j=>
    simp only;let⟨o,n,q,p⟩:=qm h l;rw[e.rw j (by omega) λ k=>b (bu.2 ⟨j,k,by rw[n];exact F1 o⟩)]
def XH{a}(h:ng σ a=O):ms σ (dP σ a) (gD σ a)/\(∀b∈rbL a,b∈dP σ a)/\∀r∈rrL a,r∈gD σ a:=by
 simp[ng,aK,bJ,cC,List.contains_eq_mem]at h;let⟨⟨⟨⟨⟨m,l⟩,k⟩,j⟩,e⟩,i⟩:=h;refine⟨⟨KJ m,KJ l,λ b c=>(e b c).1.1,i,λ b c x f=>⟨λ n d=>?_,λ r g=>?_⟩⟩,k,j⟩
 .apply (e b c).1.2 n;rw[AB];exact ir.2 ⟨x,f,d⟩
 .apply (e b c).2 r;rw[xJ];exact ir.2 ⟨x,f,g⟩
end
end
section
open RowKit
theorem Mx{P:aX}{u:TypeDesc}{c:aa KC}{d b:Bool}{f:Nat}{a:aa ah}(h:gg P u=Z (.map c d b f a)):∃k e i z,u=.map k e/\nA P k=Z (c,d)/\P.info? e=Z i/\i.zero=Z z/\YP z=b/\V z.cells=a:=by
 cases u with
 |map k e=>
   have h:AW P k e=_:=h;unfold AW at h;grind
 |_=>simp[gg]at h<;>(repeat' (first|(cases h;done)|split at h))
def eV:AV->ah
 |.v x=>x
 |_=>.nilIface
def ey(a:Bool)(k:aa AV):ah:=match a with
 |O=>.agg (k.map eV).toArray
 |Y=>match k with
   |[x]=>eV x
   |_=>.nilIface
def KOk(a:aa KC)(b:Bool)(k:aa AV):Prop:=cu a k=O/\(b=Y->∃c,a=[c])
theorem uN{c:KC}{a:aa KC}{k:aa AV}(h:cu (c::a) k=O):∃x r,k=x::r/\cu [c] [x]=O/\cu a r=O:=by
 cases k with
 |nil=>cases c<;>cases h
 |cons x r=>
   refine⟨x,r,rfl,?_⟩;unfold cu at h;split at h<;>rename_i e1 b<;>first|(cases e1;done)|skip
   all_goals first|(cases e1;cases b;first|(rw[aK]at h;exact⟨by simp[cu];simpa using h.1,h.2⟩)|exact⟨rfl,h⟩)|cases h
theorem Zs{c:KC}{x:AV}(h:cu [c] [x]=O):x=.v (eV x):=by
 cases c<;>cases x<;>first|rfl|cases h
theorem GV:∀(b:aa KC) (k:aa AV),cu b k=O->∀x∈k,x=.v (eV x)
 |[],[],_,x,a=>by cases a
 |[],_::_,h,_,_=>by cases h
 |c::b,k,h,x,a=>by
   obtain⟨y,r,rfl,e,d⟩:=uN h;obtain rfl|a:=bi.1 a
   .exact Zs e
   .exact GV b r d x a
theorem qg{c:KC}{k:aa AV}(h:cu [c] k=O):∃x,k=[.v x]:=by
 obtain⟨x,r,rfl,b,a⟩:=uN h;cases r with
 |nil=>exact⟨_,by rw[<-Zs b]⟩
 |cons y r=>cases a
theorem LR{Γ:Gh}{f:aa KC}{a:Bool}{k:aa AV}{u:ah}(d:KOk f a k)(h:Rep Γ (fy a k) u):u=ey a k:=by
 cases a with
 |true=>
   have h:Rep Γ (.agg k) u:=h;cases h with
   |agg _ us m n g=>
     show Value.agg us.toArray=.agg (k.map eV).toArray;congr 2;apply pJ;intro i;rw[dC];by_cases j:i<I k
     .have b:=aV j;have e:=aV (l:=us) (i:=i) (by omega);rw[b,e];have:=g i _ _ b e;rw[GV _ _ d.1 _ (aP b)]at this;exact aY Z (ch this)
     .grind
 |false=>
   obtain⟨c,rfl⟩:=d.2 rfl;obtain⟨x,rfl⟩:=qg d.1;have h:Rep Γ (.v x) u:=h;cases h;rfl
section
variable {P:aX} (w:ao)
theorem GH{t:aO}{c:KC}(h:kc1 P t=Z c):P.underlying t=Z (match c with|.str=>.string|.int k=>.int k|.bool=>.bool):=by
 unfold kc1 at h;grind
theorem Ad{t:aO}{a:aa KC}(h:nA P t=Z (a,Y)):∃c,a=[c]/\kc1 P t=Z c:=by
 grind [nA]
theorem Lu{t:aO}{a:aa KC}(h:nA P t=Z (a,O)):∃b,P.underlying t=Z (.struct b)/\P.stoodInHeld t=Y/\kcs P (V b) 0=Z a:=by
 grind [nA]
theorem L2{t:aO}{a:aa KC}{b:Bool}{k:aa AV}(h:nA P t=Z (a,b))(d:cu a k=O):KOk a b k:=⟨d,λ e=>by subst e;let⟨c,h1,_⟩:=Ad h;exact⟨c,h1⟩⟩
theorem WG{t:aO}{c:KC}(h:kc1 P t=Z c){x y:AV}(f:cu [c] [x]=O)(d:cu [c] [y]=O)(n:Nat):(Op.equalIn (n+1) t (eV x) (eV y)).run P w=.ok (ox x y) w/\Instr.sameNow ((P.underlying t).getD .bool) (eV x) (eV y)=Z (ox x y)/\(ox x y=O->x=y):=by
 have g:=GH h;let⟨a,j⟩:=qg f;let⟨b,i⟩:=qg d;cases j;cases i;cases c with
 |str=>
   cases a<;>simp[cu]at f;cases b<;>simp[cu]at d;rename_i a b;refine⟨?_,?_,λ e=>?_⟩
   .show(Op.equalIn (n+1) t (.string a) (.string b)).run P w=_;rw[run_equalIn_string w n t a b g,toList_eq,toList_eq];rfl
   .rw[g];show Z (a==b)=Z (xeq a b);rw[beq_toListBytes,toList_eq,toList_eq];rfl
   .have:V a.data=V b.data:=by simpa[ox,xeq]using e
    let⟨⟨a⟩⟩:=a;let⟨⟨b⟩⟩:=b;cases this;rfl
 |int k=>
   cases a with
   |int l a=>?_
   |_=>cases f
   cases b with
   |int kb b=>?_
   |_=>cases d
   simp[cu]at f d;subst f;subst d;refine⟨run_equalIn_int w n t _ _ a b g,?_,λ e=>?_⟩
   .rw[g];simp[Instr.sameNow,eV,ox,ieq]
   .have:a=b:=by simpa[ox,ieq]using e
    rw[this]
 |bool=>
   cases a<;>simp[cu]at f;cases b<;>simp[cu]at d;rename_i a b;refine⟨run_equalIn_bool w n t a b g,?_,λ e=>?_⟩
   .rw[g];rfl
   .have:a=b:=by simpa[ox,eE]using e
    rw[this]
theorem Sh{t:aO}{c:KC}(h:kc1 P t=Z c){x:AV}(b:cu [c] [x]=O)(f:Bool)(n:Nat):(Instr.checkKey f (n+1) t (eV x)).run P w=.ok () w:=by
 have d:=GH h;let⟨a,e⟩:=qg b;cases e;unfold Instr.checkKey;cases c<;>cases a<;>simp[cu]at b<;>simp[run_underlying d,Result.andThen,eV]
theorem Tk{c:KC}{x:AV}(b:cu [c] [x]=O)(n:Nat):Instr.sameBits n (eV x) (eV x)=O:=by
 let⟨a,d⟩:=qg b;cases d;cases c<;>cases a<;>simp[cu]at b<;>simp[Instr.sameBits,eV,MapKept.bytes_beq]
theorem Kz{t:aO}{c:KC}(h:kc1 P t=Z c){cs:aM ah}{o:Nat}{v:ah}(a:cs[o]?=Z v):(part t cs o).run P w=.ok v w:=by
 have b:=GH h;have:(isAgg t).run P w=.ok Y w:=by cases c<;>simp[isAgg,underlying,b]
 simp[part,this,a]
theorem TX:∀(k:aa Field) (o:Nat) (d:aa KC) (a b:aa AV) (xs ys:aM ah) (n:Nat),kcs P k o=Z d->cu d a=O->cu d b=O->(∀j x,a[j]?=Z x->xs[o+j]?=Z (eV x))->(∀j x,b[j]?=Z x->ys[o+j]?=Z (eV x))->
  (Op.eqFields (n+1) xs ys k).run P w=.ok (gp a b) w/\(gp a b=O->a=b)
 |[],o,d,a,b,xs,ys,n,h,s,r,_,_=>by
   cases h;cases a<;>cases b<;>first|exact⟨rfl,λ _=>rfl⟩|(cases s;done)|(cases r;done)
 |f::k,o,d,a,b,xs,ys,n,h,s,r,i,g=>by
   simp only[kcs]at h;split at h<;>cases h;rename_i c l D t C;let⟨B,A⟩:=bH D;obtain⟨x,M,rfl,L,K⟩:=uN s;obtain⟨y,H,rfl,G,F⟩:=uN r;have p:=Kz w t (i 0 x rfl);have m:=Kz w t (g 0 y rfl);let⟨e1,_,E⟩:=WG w t L G n;let⟨z,v⟩:=TX k (o+1) l M H xs ys n C K F (λ j x q=>by rw[O5];exact i (j+1) x q) (λ j x q=>by rw[O5];exact g (j+1) x q);rw[dE]at p m;rw[<-B]at p m;refine⟨?_,λ e=>?_⟩
   .rw[Op.eqFields,ag A];simp only[Sem.run_bind,p,m,e1,Result.andThen_ok,Sem.run_ite];cases u:ox x y with
    |true=>simp only[ZF,wg,wh,z,gp,u,ei]
    |false=>simp only[Bl,yu,Sem.run_pure,gp,u,jz]
   .simp only[gp,aK]at e;rw[E e.1,v e.2]
theorem Rb:∀(g:aa Field) (o:Nat) (e:aa KC) (a:aa AV) (xs:aM ah) (d:Bool) (n:Nat),kcs P g o=Z e->cu e a=O->(∀j x,a[j]?=Z x->xs[o+j]?=Z (eV x))->
  (forIn (m:=Sem) g PUnit.unit λ f _=>do
   if f.name≠"_" then Instr.checkKey d (n+1) f.type (<-part f.type xs f.offset)
   pure (ForInStep.yield PUnit.unit)).run P w=.ok PUnit.unit w
 |[],o,e,a,xs,d,n,h,i,_=>rfl
 |f::g,o,e,a,xs,d,n,h,i,b=>by
   simp only[kcs]at h;split at h<;>cases h;rename_i c l t k s;let⟨r,z⟩:=bH t;obtain⟨x,y,rfl,v,u⟩:=uN i;have p:=Kz w k (b 0 x rfl);rw[dE,<-r]at p;have e1:=Sh w k v d n;have:=Rb g (o+1) l y xs d n s u λ j x q=>by rw[O5];exact b (j+1) x q
   simp_all
theorem E4{t:aO}{a:aa KC}{b:Bool}{k:aa AV}(h:nA P t=Z (a,b))(d:cu a k=O)(f:Bool)(n:Nat):(Instr.checkKey f (n+2) t (ey b k)).run P w=.ok () w:=by
 cases b with
 |false=>
   obtain⟨c,rfl,e⟩:=Ad h;obtain⟨x,rfl⟩:=qg d;exact Sh w e d f (n+1)
 |true=>
   let⟨l,e,m,i⟩:=Lu h;have:=Rb w (V l) 0 a k (k.map eV).toArray f n i d λ j x g=>by simp[g]
   unfold Instr.checkKey;simp only[Sem.run_bind,run_underlying e,Result.andThen_ok,ey];simp_all
theorem qli{t:aO}{a:aa KC}{b:Bool}{k:aa AV}(h:nA P t=Z (a,b))(d:cu a k=O):(Instr.keyThatStays (ey b k) (ey b k)).run P w=.ok (ey b k) w:=by
 have all:∀(a:aa KC) (k:aa AV) (n:Nat),cu a k=O->((k.map eV).zip (k.map eV)).all (λ p=>Instr.sameBits n p.1 p.2)=O:=by
  intro a
  induction a with
  |nil=>intro k n d;cases k<;>first|rfl|cases d
  |cons c a e=>
    intro k n d;obtain⟨x,r,rfl,i,g⟩:=uN d;simp only[aZ,List.zip_cons_cons,fm,Tk i,ei];exact e r n g
 have f:Instr.sameBits 10000 (ey b k) (ey b k)=O:=by
  cases b with
  |false=>
    obtain⟨c,rfl,j⟩:=Ad h;obtain⟨x,rfl⟩:=qg d;exact Tk d _
  |true=>
    show((k.map eV).toArray.size==(k.map eV).toArray.size&&((k.map eV).zip (k.map eV)).all λ p=>Instr.sameBits 9999 p.1 p.2)=O;rw[all a k 9999 d];simp
 simp[Instr.keyThatStays,f]
theorem Wq{t:aO}{n:aa KC}{d:Bool}{k:aa AV}(h:nA P t=Z (n,d))(p:cu n k=O):∀(ks:aa (aa AV)) (g:aa MapEntry) (i:Nat),I g=I ks->(∀(j:Nat) (l:aa AV) (e:MapEntry),ks[j]?=Z l->g[j]?=Z e->e.key=ey d l/\cu n l=O)->
  (gL k ks i=U/\(if d then(Instr.findAsking t (ey d k) g i).run P w=.ok U w else Instr.findNow ((P.underlying t).getD .bool) (ey d k) g i=Z U))\/
  ∃j e,gL k ks i=Z (i+j)/\g[j]?=Z e/\e.key=ey d k/\(if d then(Instr.findAsking t (ey d k) g i).run P w=.ok (Z (i+j,e.val)) w else Instr.findNow ((P.underlying t).getD .bool) (ey d k) g i=Z (Z (i+j,e.val)))
 |[],g,i,m,_=>by
   have:g=[]:=cJ m;subst this;refine .inl ⟨rfl,?_⟩;cases d<;>rfl
 |l::ks,[],i,m,_=>by simp at m
 |l::ks,e::g,i,m,B=>by
   let⟨E,z⟩:=B 0 l e rfl rfl;have M:=Wq h p ks g (i+1) (by simpa using m) λ j u A a b=>B (j+1) u A a b
   have f:(if d then(Op.equal t (ey d k) e.key).run P w=.ok (gp k l) w else Instr.sameNow ((P.underlying t).getD .bool) (ey d k) e.key=Z (gp k l))/\(gp k l=O->k=l):=by
    rw[E];cases d with
    |false=>
      obtain⟨c,rfl,s⟩:=Ad h;obtain⟨x,rfl⟩:=qg p;obtain⟨y,rfl⟩:=qg z;let⟨_,e1,S⟩:=WG w s p z 0;refine⟨?_,λ D=>?_⟩
      .simp only[wg,wh];rw[gp,gp,mJ];exact e1
      .rw[gp,gp,mJ]at D;rw[S D]
    |true=>
      let⟨F,s,Q,N⟩:=Lu h;have C:P.fieldsOf t=F:=by unfold Program.fieldsOf;rw[s]
      let⟨L,K⟩:=TX w (V F) 0 n k l (k.map eV).toArray (l.map eV).toArray 9998 N p z (λ j x v=>by simp[v]) (λ j x v=>by simp[v]);refine⟨?_,K⟩;simp only[yu];show(Op.equalIn (9999+1) t (.agg _) (.agg _)).run P w=_;rw[run_equalIn_struct w 9999 t _ _ (by rw[C];exact s) Q,C];exact L
   cases q:gp k l with
   |true=>
     rw[q]at f;refine .inr ⟨0,e,by simp[gL,q],rfl,by rw[E,f.2 rfl],?_⟩;cases d with
     |false=>have:=f.1;simp only[wg,wh]at this |-;simp[Instr.findNow,this]
     |true=>have:=f.1;simp only[yu]at this |-;simp[Instr.findAsking,this]
   |false=>
     rw[q]at f;have R:gL k (l::ks) i=gL k ks (i+1):=by simp[gL,q]
     have W:∀r,(if d then(Instr.findAsking t (ey d k) g (i+1)).run P w=.ok r w else Instr.findNow ((P.underlying t).getD .bool) (ey d k) g (i+1)=Z r)->(if d then(Instr.findAsking t (ey d k) (e::g) i).run P w=.ok r w else Instr.findNow ((P.underlying t).getD .bool) (ey d k) (e::g) i=Z r):=by
      intro r o;cases d with
      |false=>have:=f.1;simp only[wg,wh]at this o |-;simp[Instr.findNow,this,o]
      |true=>have:=f.1;simp only[yu]at this o |-;simp[Instr.findAsking,this,o]
     obtain⟨H,G⟩|⟨j,A,H,G,T,X⟩:=M
     .grind
     .refine .inr ⟨j+1,A,by rw[R,H];congr 1;omega,G,T,?_⟩;grind
theorem RQ{t:aO}{i:aa KC}{b:Bool}{k:aa AV}(h:nA P t=Z (i,b))(r:cu i k=O){ks:aa (aa AV)}{a:aa MapEntry}(p:I a=I ks)(s:∀(j:Nat) (l:aa AV) (e:MapEntry),ks[j]?=Z l->a[j]?=Z e->e.key=ey b l/\cu i l=O):
  (gL k ks 0=U/\(Instr.findKey t (ey b k) a).run P w=.ok U w)\/∃j e,gL k ks 0=Z j/\a[j]?=Z e/\e.key=ey b k/\(Instr.findKey t (ey b k) a).run P w=.ok (Z (j,e.val)) w:=by
 have d:=Wq w h r ks a 0 p s;cases b with
 |false=>
   obtain⟨c,rfl,g⟩:=Ad h;have m:=GH g;simp only[wg,wh,cI]at d;rw[m]at d;obtain⟨o,n⟩|⟨j,e,o,n,v,u⟩:=d
   .exact .inl ⟨o,MapKept.run_findKey m n⟩
   .exact .inr ⟨j,e,o,n,v,MapKept.run_findKey m u⟩
 |true=>
   let⟨z,g,y,x⟩:=Lu h;simp only[yu,cI]at d
   have q:∀e f,a=e::f->(Instr.findKey t (ey O k) a).run P w=(Instr.findAsking t (ey O k) a 0).run P w:=by
    rintro e f rfl;simp[Instr.findKey,run_underlying g,Result.andThen,Instr.findNow,Instr.sameNow]
   cases a with
   |nil=>
     have:ks=[]:=cJ p.symm;subst this;exact .inl ⟨rfl,by simp[Instr.findKey,run_underlying g,Result.andThen,Instr.findNow]⟩
   |cons e a=>
     rw[q e a rfl];exact d
end
section
variable {P:aX}{C:Cfg}{Γ:Gh}{σ:St}{w:ao}{o:Oper}{tm:aa AV}{ρ:bw->ah}{x:AV}{σ':ac St}
theorem qj{a b:Bool}(h:eE a b=O):a=b:=by cases a<;>cases b<;>first|rfl|cases h
theorem Ku{c:aa KC}{d a:Bool}{y:AV}{b:Nat}{ks vs:aa (aa AV)}(h:vF σ c d a y=Z (b,ks,vs)):y=.mp b/\σ.bx[b]?=Z [.mc c d a ks vs]:=by
 unfold vF at h;split at h<;>try cases h
 split at h<;>try cases h
 next f=>split at h<;>cases h;next e=>rw[aK,aK]at e;let⟨j,i,g⟩:=e;rw[bH j,qj i,qj g]at f;exact⟨rfl,f⟩
theorem MJ{b:Nat}{u:ah}(h:Rep Γ (.mp b) u):u=.map (Z (Γ.β b))/\b<Γ.nb:=by cases h;exact⟨rfl,‹_›⟩
theorem XE{a:aa KC}{b:Bool}{y:AV}(h:vm a b y=O):cu a (cellsOf y)=O/\fy b (cellsOf y)=y:=by
 unfold vm at h;rw[aK]at h;refine⟨h.2,?_⟩;rw[<-qj h.1];cases y with
 |agg cs=>rfl
 |tup vs=>have:=GV _ _ h.2 (.tup vs) (bW.2 rfl);cases this
 |_=>rfl
theorem qot{a:Bool}{b:Nat}{y:AV}(h:AR a b y=O):fy a (cellsOf y)=y/\(cellsOf y).all br=O:=by
 unfold AR at h;rw[aK,aK]at h;refine⟨?_,h.2⟩;rw[<-qj h.1.1];cases y with
 |agg cs|_=>rfl
theorem kC.keys{i:aa KC}{g m:Bool}{ks vs:aa (aa AV)}{b:Nat}{t:aO}(h:kC Γ w b i g m ks vs)(n:nA P t=Z (i,g)):∃f d,w.heap[b]?=Z (.map f d)/\f.size=I ks/\∀(j:Nat) (k v:aa AV) (e:MapEntry),ks[j]?=Z k->vs[j]?=Z v->f[j]?=Z e->Na Γ i g m k v e/\e.key=ey g k:=by
 let⟨q,f,d,p,o,l⟩:=h;exact⟨f,d,p,o,λ j k v e a b c=>⟨l j k v e a b c,LR (L2 n (l j k v e a b c).2.2.1) (l j k v e a b c).1⟩⟩
theorem U3(k:aa AV):∀(ks:aa (aa AV)) (i j:Nat),gL k ks i=Z j->i<=j/\j<i+I ks
 |[],i,j,h=>by cases h
 |e::a,i,j,h=>by
   simp only[gL]at h;split at h
   .cases h;simp
   .have:=U3 k a (i+1) j h;simp;omega
theorem qiA(m:∀t d,C.ty t=Z d->cH P t=Z d)(f:Inv Γ σ w)(t:aO)(r:ac bw)(a:o.op=.makeMap t r)(h:aC C tm σ o.op=Z (x,σ')):dU P Γ σ w o ρ x σ':=by
 rw[a]at h;cases r with
 |some r=>simp[aC]at h
 |none=>
   simp only[aC]at h;split at h<;>cases h;next c e b k j l=>let⟨Γ',e1,i,g⟩:=qjy f c e b;exact⟨.value (.map (Z w.heap.size)),_,_,Γ',by simp[execOp,a,Instr.makeMap],.inl rfl,e1,i,g⟩
theorem WU{f:aa KC}{d i:Bool}{ks vs:aa (aa AV)}{g:aM MapEntry}(l:I vs=I ks)(h:∀(j:Nat) (k v:aa AV) (e:MapEntry),ks[j]?=Z k->vs[j]?=Z v->g[j]?=Z e->Na Γ f d i k v e/\e.key=ey d k):∀(j:Nat) (c:aa AV) (e:MapEntry),ks[j]?=Z c->g.toList[j]?=Z e->e.key=ey d c/\cu f c=O:=λ j c e a b=>by
 have m:=(dV.1 a).1;have:=h j c _ e a (aV (by omega)) (by simpa using b);exact⟨this.2,this.1.2.2.1⟩
theorem qjt(hC:∀t d,C.ty t=Z d->cH P t=Z d)(L:Inv Γ σ w)(g:∀y,Rep Γ (aev tm y) (ρ y))(t:aO)(m k:bw)(p:Bool)(E:o.op=.lookup t m k p)(h:aC C tm σ o.op=Z (x,σ')):dU P Γ σ w o ρ x σ':=by
 rw[E]at h;simp only[aC]at h;split at h<;>try cases h
 rename_i kc ka Q vn vz hd;split at h<;>try cases h
 rename_i b ks vs hm W;split at h<;>cases h;rename_i v q i;simp only[aK,cC]at W;let⟨hk,⟨hz,_⟩,ab⟩:=W;let⟨H,G⟩:=Ku hm;let⟨r,k2⟩:=XE hk;let⟨_,ud,z0,p1,T,p3,p4,p5,p6,p7,p8⟩:=dI (hC t _ hd);obtain⟨kt,et,ie,l,rfl,f,q3,q4,q5,S⟩:=Mx p8;have X:kC Γ w (Γ.β b) kc ka Q ks vs:=L.box b _ G;let⟨es,M,g1,g2,g3⟩:=X.keys f;have F:=(MJ (H▸g m)).1;have K:=LR (L2 f r) (k2.symm▸g k)
 have B:Rep Γ (fy Q (vz.map .v)) l:=by
  let⟨A,z2⟩:=uM (Γ:=Γ) hz;subst q5;cases l with
  |agg cs=>subst S;exact .agg _ _ A.len z2 A.rep
  |_=>subst S;exact A.rep 0 _ _ rfl rfl
 have a:(zeroValue et).run P w=.ok l w:=by simp[zeroValue,typeInfo,q3,q4]
 have c:∃u,(Instr.lookup t (ρ m) (ρ k) p).run P w=.ok (if p then .tuple #[u,.bool q]else u) w/\Rep Γ v u:=by
  rw[F,K];have s:I (V es)=I ks:=by simpa using g2
  obtain⟨z,N⟩|⟨j,e,z,N,a3,a4⟩:=RQ w f r s (WU X.len g3)
  .simp only[yb,z,dF,fo]at i;obtain⟨rfl,rfl⟩:=i;refine⟨l,?_,B⟩;simp[Instr.lookup,run_underlying T,MapKept.run_getObj_map g1,E4 w f r _ 9998,N,a,Result.andThen]
  .simp only[yb,z]at i;split at i<;>cases i;next v' D=>have ad:=U3 _ _ _ _ z;let⟨n,_⟩:=g3 j _ v' e (aV (by omega)) D (by simpa using N);refine⟨e.val,?_,n.2.1⟩;simp[Instr.lookup,run_underlying T,MapKept.run_getObj_map g1,E4 w f r _ 9998,a4,Result.andThen]
 let⟨u,n,R⟩:=c;cases p with
 |false=>exact .val (by simp[execOp,E,n]) L R
 |true=>
   have s:=(nU R (nU (.v (.bool q) rfl) .nil):RepL Γ [v,.v (.bool q)] [u,.bool q])
   exact .val (by simp[execOp,E,n]) L (.tup _ _ s.len s.rep)
theorem TU(hC:∀t d,C.ty t=Z d->cH P t=Z d)(hi:Inv Γ σ w)(n:∀y,Rep Γ (aev tm y) (ρ y))(t:aO)(m k y:bw)(Q:o.op=.mapUpdate t m k y\/o.op=.insert t m k y)(h:ma C tm σ t m k y=Z (x,σ')):dU P Γ σ w o ρ x σ':=by
 unfold ma at h;split at h<;>try cases h
 rename_i X A N vn vz hd;split at h<;>cases h;rename_i b ks vs hm hc;rw[aK]at hc;let⟨ab,G⟩:=Ku hm;let⟨v,k2⟩:=XE hc.1;let⟨v1,v2⟩:=qot hc.2;let⟨_,ud,z0,p1,p2,p3,p4,p5,p6,p7,p8⟩:=dI (hC t _ hd);obtain⟨kt,et,ie,ze,rfl,s,q3,q4,q5,q6⟩:=Mx p8;have L:kC Γ w (Γ.β b) X A N ks vs:=hi.box b _ G;let⟨S,a,l,R,g3⟩:=L.keys s;have F:=(MJ (ab▸n m)).1;have H:Rep Γ (fy A (cellsOf (aev tm k))) (ρ k):=k2.symm▸n k;have B:Rep Γ (fy N (cellsOf (aev tm y))) (ρ y):=v1.symm▸n y;have q:=LR (L2 s v) H;have hl:I (V S)=I ks:=by simpa using R
 have ax:=(dW.1 l).1
 have M:∀W,(Instr.mapUpdate t (ρ m) (ρ k) (ρ y)).run P w=.ok () {w with heap:=w.heap.setIfInBounds (Γ.β b) W}->(∀f vs',lF ks vs (cellsOf (aev tm k)) (cellsOf (aev tm y))=(f,vs')->fx Γ {w with heap:=w.heap.setIfInBounds (Γ.β b) W} b [.mc X A N f vs'])->
   dU P Γ σ w o ρ (.tup []) (Z {σ with bx:=σ.bx.set b [.mc X A N (lF ks vs (cellsOf (aev tm k)) (cellsOf (aev tm y))).1 (lF ks vs (cellsOf (aev tm k)) (cellsOf (aev tm y))).2],wr:=b::σ.wr}):=by
  intro W D ar;let⟨e1,e2⟩:=Sx hi G (b::σ.wr) _ (ar _ _ rfl) (λ k hk=>(MapKept.heap_set l).2 k hk) rfl rfl rfl (by simp) (al _);refine⟨.skip,undef,_,Γ,?_,.inr ⟨rfl,rfl⟩,e1,e2,.tup [] [] rfl λ i x u hx=>by simp at hx⟩;obtain Q|Q:=Q<;>simp[execOp,Q,D]
 obtain⟨a1,T⟩|⟨j,e,a1,T,a3,a4⟩:=RQ w s v hl (WU L.len g3)
 .refine M (.map (S.push {key:=ρ k,val:=ρ y,born:=a}) (a+1)) ?_ λ f vs' E=>?_
  .rw[F];have:=E4 w s v Y 9998;rw[<-q]at T this;simp[Instr.mapUpdate,run_underlying p2,MapKept.run_getObj_map l,this,T,MapKept.run_setObj_map _ l,Result.andThen]
  .simp only[lF,a1,fo]at E;obtain⟨rfl,rfl⟩:=E;refine⟨by simp[L.len],_,_,(MapKept.heap_set l).1,by simp[R],λ j k' v' e' g c z=>?_⟩;have p:=L.len;by_cases hj:j<I ks
   .grind
   .have ad:j=I ks:=by
      grind
    subst ad;rw[dy (al _),gF]at g;rw[dy (by omega),p,gF]at c;rw[<-R,Array.getElem?_push_size]at z;cases g;cases c;cases z;exact⟨H,B,v,v2⟩
 .have r:S[j]?=Z e:=by simpa using T
  refine M (.map (S.modify j λ e=>{e with key:=ρ k,val:=ρ y}) a) ?_ λ f vs' E=>?_
  .rw[F];have g:=E4 w s v Y 9998;have c:=qli w s v;rw[<-q]at a4 g c a3;simp[Instr.mapUpdate,run_underlying p2,MapKept.run_getObj_map l,g,a4,r,a3,c,MapKept.run_setObj_map _ l,Result.andThen]
  .simp only[lF,a1,fo]at E;obtain⟨rfl,rfl⟩:=E;have p:=L.len;refine⟨by simp[p],_,_,(MapKept.heap_set l).1,by simp[R],λ i k' v' e' g c z=>?_⟩;rw[ZB]at z;rw[oN]at c;by_cases an:j=i
   .subst an;rw[ag rfl,r]at z;rw[ag rfl]at c;split at c<;>cases c;cases z;let⟨r1,r2⟩:=g3 j k' _ e g (aV (by have:=(dV.1 g).1;omega)) r;refine⟨?_,B,r1.2.2.1,v2⟩;show Rep Γ (fy A k') (ρ k);rw[q,<-a3];exact r1.1
   .grind
end
end
section
open RowKit
section
variable {σ:St}
def KK(l:aa (aa AV)):bP σ {σ with bx:=σ.bx++l}:=
 ⟨by simp,al _,λ i a _=>dY a,λ _ _ _=>rfl,λ _ h=>h,λ _ h=>h⟩
def Tn(b:Nat)(cs:aa AV):bP σ {σ with bx:=σ.bx.set b cs,wr:=b::σ.wr}:=
 ⟨by simp,al _,λ i c a=>jA λ e=>a (by simp[e]),λ _ _ _=>rfl,λ _ h=>aS _ h,λ _ h=>h⟩
def J7(a:aa Nat):bP σ {σ with rw:=frz σ.rw a,wrr:=a++σ.wrr}:=
 ⟨al _,by simp[Xf],λ _ _ _=>rfl,λ i c b=>An _ _ _ λ h=>b (H8 _ h),λ _ h=>h,λ _ h=>yt _ h⟩
def Lz(l:aa Row):bP σ {σ with rw:=σ.rw++l}:=
 ⟨al _,by simp,λ _ _ _=>rfl,λ i a _=>dY a,λ _ h=>h,λ _ h=>h⟩
def Kw(r:Nat)(R:Row):bP σ {σ with rw:=σ.rw.set r R,wrr:=r::σ.wrr}:=
 ⟨al _,by simp,λ _ _ _=>rfl,λ i b a=>jA λ e=>a (by simp[e]),λ _ h=>h,λ _ h=>aS _ h⟩
end
def Rj{C:Cfg}{tm:aa AV}{σ σ':St}{t:Nat}{m k y:bw}{x:AV}(h:ma C tm σ t m k y=Z (x,Z σ')):bP σ σ':=by
 unfold ma at h;split at h<;>try cases h
 split at h<;>cases h;exact Tn _ _
def qh6{C:Cfg}{tm:aa AV}{σ:St}{op:Op}{x:AV}{σ':ac St}(h:aC C tm σ op=Z (x,σ')):bP σ (turn σ σ'):=by
 cases σ' with
 |none=>exact .refl σ
 |some σ'=>
   show bP σ σ';cases op with
   |alloc e=>
     simp only[aC]at h;split at h<;>try cases h
     split at h<;>cases h;exact KK _
   |box e y=>
     simp only[aC]at h;split at h<;>try cases h
     split at h<;>cases h;exact KK _
   |store t a y=>
     simp only[aC]at h;split at h<;>try cases h
     .split at h<;>try cases h
      split at h<;>cases h;exact Tn _ _
     .split at h<;>try cases h
      split at h<;>cases h;exact Kw _ _
   |convert s t y=>
     simp only[aC]at h;split at h<;>try cases h
     .split at h<;>cases h;exact Lz _
     .split at h<;>try cases h
      split at h<;>cases h
   |makeSlice t a y=>
     simp only[aC]at h;split at h<;>try cases h
     split at h<;>try cases h
     split at h<;>cases h;exact Lz _
   |buildSlice t n ps=>
     simp only[aC]at h;split at h<;>try cases h
     split at h<;>try cases h
     split at h<;>cases h;exact J7 _
   |slice t y lo b m=>
     cases m with
     |some m=>simp[aC]at h
     |none=>
       simp only[aC]at h
       repeat' (first|(cases h;done)|(cases h;exact Kw _ _)|split at h)
   |makeMap t m=>
     cases m<;>simp only[aC]at h<;>try cases h
     split at h<;>cases h;exact KK _
   |mapUpdate t m k y|insert t m k y=>exact Rj h
   |makeFunc f c cs=>
     cases f<;>simp only[aC]at h<;>(repeat' (first|(cases h;done)|split at h))
   |_=>
     simp only[aC]at h
     repeat' (first|(cases h;done)|split at h)
def Q8{k bytes:Nat}{σ:St}{s:AV}{xs:aa (aa AV)}{x:AV}{σ':ac St}(h:eG k bytes σ s xs=Z (x,σ')):bP σ (turn σ σ'):=by
 unfold eG at h
 repeat' (first|(cases h;done)|(cases h;first|exact .refl _|exact Lz _|exact Kw _ _)|split at h)
def YV(P:aX)(Γ:Gh)(σ:St)(w:ao)(o:Oper)(a:Act)(x:AV)(σ':ac St):Prop:=
 ∀next Q,(∀u w' Γ',Ext Γ w Γ' w'->Inv Γ' (turn σ σ') w'->Rep Γ' x u->bP σ (turn σ σ')->next (a.put o.dst u) w')->o.wp P a w next Q
def dU.wp{P:aX}{Γ:Gh}{σ:St}{w:ao}{o:Oper}{a:Act}{x:AV}{σ':ac St}(h:dU P Γ σ w o a.eval x σ')(c:bP σ (turn σ σ')):YV P Γ σ w o a x σ':=by
 let⟨j,u,w',Γ',i,g,f,e,d⟩:=h;intro next Q b
 unfold Oper.wp;rw[i];obtain rfl|⟨rfl,rfl⟩:=g
 .exact b _ _ _ f e d c
 .exact b _ _ _ f e d c
section
variable {P:aX}{C:Cfg}{Γ:Gh}{σ:St}{w:ao}{o:Oper}{tm:aa AV}{ρ:bw->ah}{x:AV}{σ':ac St}
def qov(p:∀t d,C.ty t=Z d->cH P t=Z d)(l:Inv Γ σ w)(g:∀y,Rep Γ (aev tm y) (ρ y))(h:aC C tm σ o.op=Z (x,σ')):dU P Γ σ w o ρ x σ':=by
 cases j:o.op with
 |move y=>rw[j]at h;simp only[aC,dF,fo]at h;obtain⟨rfl,rfl⟩:=h;exact W1 l g y (.inl j)
 |assign y=>rw[j]at h;simp only[aC,dF,fo]at h;obtain⟨rfl,rfl⟩:=h;exact W1 l g y (.inr j)
 |pick c a b=>exact qm7 l g c a b j h
 |alloc e=>exact qkz p l e j h
 |box e y=>exact qoq l g e y j h
 |build t ps=>exact qlA p l g t ps j h
 |buildSlice t n ps=>exact qfQ p l g t n ps j h
 |load t y=>exact qnz p l g t y j h
 |store t y z=>exact qlw p l g t y z j h
 |nilCheck y=>exact qn0 l g y j h
 |binOp op t y z v=>exact qoa p l g op t y z v j h
 |unOp op t y=>exact qoE l g op t y j h
 |convert s t y=>exact qnw p l g s t y j h
 |makeFunc f A cs=>exact qoC l g f A cs j h
 |slice t y lo u m=>
   exact qma p l g t y lo u m j h
 |fieldAddr t y i=>exact qg1 p l g t y i j h
 |field t y i=>exact qky p l g t y i j h
 |indexAddr t y i=>exact qg8 p l g t y i j h
 |index t y i=>exact ql3 p l g t y i j h
 |extract y i=>exact qii l g y i j h
 |makeSlice t y z=>exact qnh p l g t y z j h
 |makeMap t r=>exact qiA p l t r j h
 |lookup t m k q=>exact qjt p l g t m k q j h
 |mapUpdate t m k y=>rw[j]at h;exact TU p l g t m k y (.inl j) h
 |insert t m k y=>rw[j]at h;exact TU p l g t m k y (.inr j) h
 |_=>rw[j]at h;simp only[aC]at h;cases h
def qh2{k:TK}(h:zQ k=O):k=.string:=by cases k<;>first|rfl|(simp[zQ]at h)
def qj3{k:TK}(h:om k=O):∃e s b z,k=.slice e s b z:=by
 cases k<;>first|exact⟨_,_,_,_,rfl⟩|(simp[om]at h)
def qn8{d:TD}{t ty:aO}{ts:aM aO}(E:ts[0]?=Z t)(K:cH P t=Z d){y:AV}{u:ah}(A:Rep Γ y u){n:Nat}(h:mE d y=Z n):(Builtin.len_ ts ty #[u]).run P w=.ok (.int .i64 n) w:=by
 let⟨i,q,z,W,C,T,S,R,Q,N,B⟩:=dI K;have x:zQ d.k=O->q=.string:=λ h=>xa (by rw[B,qh2 h])
 have sl:om d.k=O->∃e,q=.slice e:=λ h=>by
  let⟨e,s,b,z,D⟩:=qj3 h;exact⟨e,(oh (by rw[B,D])).1⟩
 have j:∀e,q=.slice e->∀a m c,u=.slice a m c->(Builtin.len_ ts ty #[u]).run P w=.ok (.int .i64 m) w:=by
  intro e p a m c F;subst F;simp[Builtin.len_,E,underlying,C,p,goInt]
 cases A with
 |v y X=>
   simp only[mE]at h;split at h
   .next s l=>cases l;split at h<;>cases h;next g=>simp[Builtin.len_,E,underlying,C,x g,goInt,qN]
   .next l=>cases l;split at h<;>cases h;next g=>let⟨e,p⟩:=sl g;exact j e p _ _ _ rfl
   .next l=>cases l
   .next l=>cases l
   .cases h
 |sl k es f a m cap b o us G L H D hp M ha hm A=>
   simp only[mE]at h;split at h<;>cases h;next g=>let⟨e,p⟩:=sl g;rw[j e p _ _ _ rfl,G];rfl
 |rs r lo m ep f a cap A L H hl=>
   simp only[mE]at h;split at h<;>cases h;next g=>let⟨e,p⟩:=sl g;exact j e p _ _ _ rfl
 |_=>simp only[mE]at h;cases h
def qmv(l:Inv Γ σ w){d:TD}{t ty:aO}{ts:aM aO}(p:ts[0]?=Z t)(m:cH P t=Z d){y:AV}{u:ah}(f:Rep Γ y u){n:Nat}(h:Ho d.k σ y=Z n):(Builtin.len_ ts ty #[u]).run P w=.ok (.int .i64 n) w:=by
 let⟨i,v,z,E,e,D,C,B,A,x,c⟩:=dI m;unfold Ho at h;split at h<;>try cases h
 next j=>split at h<;>cases h;next b ks vs g=>obtain⟨rfl,o⟩:=Ku g;rw[j]at c;obtain⟨F,H,G,s,rfl,_⟩:=Mx c;let⟨_,K,a,r,q,_⟩:=l.box b _ o;rw[(MJ f).1];simp[Builtin.len_,p,underlying,e,goInt,MapKept.run_getObj_map r,q]
def qoD(E:∀t d,C.ty t=Z d->cH P t=Z d)(m:Inv Γ σ w){b:Builtin}{ts:aM aO}{ty:aO}{cs:aM Bool}{l:aa AV}{j:aa ah}(D:RepL Γ l j)(h:iA C σ b ts l=Z (x,σ')):
  (∃v w' Γ',(builtin b ts ty cs j.toArray).run P w=.ok (.value v) w'/\Ext Γ w Γ' w'/\Inv Γ' (turn σ σ') w'/\Rep Γ' x v)/\bP σ (turn σ σ'):=by
 unfold iA at h;split at h
 .rename_i y;obtain⟨u,r,rfl,i,f⟩:=D.uncons;rw[f.nil_inv];split at h<;>try cases h
  rename_i t B;split at h<;>try cases h
  rename_i d q;split at h
  .cases h;next n H=>exact⟨⟨_,w,Γ,by simp[builtin,Sem.run_bind',qn8 B (E t d q) i H],.refl _ _,m,.v _ rfl⟩,.refl _⟩
  .split at h<;>cases h;next n H=>exact⟨⟨_,w,Γ,by simp[builtin,Sem.run_bind',qmv m B (E t d q) i H],.refl _ _,m,.v _ rfl⟩,.refl _⟩
 .rename_i s y;obtain⟨u,r,rfl,p,f⟩:=D.uncons;obtain⟨N,Q,rfl,i,c⟩:=f.uncons;rw[c.nil_inv];split at h<;>try cases h
  rename_i t X B A;split at h<;>try (cases h;done)
  .rename_i q1 q2 q3 q4 e k T z q5 q6 q7 q8 e' R b' W q o;split at h<;>try cases h
   rename_i g;simp only[aK,cC]at g;split at h<;>try cases h
   rename_i xs G;split at h<;>try cases h
   next S=>let⟨v,w',Γ',M,L,g3,K⟩:=SU (ty:=ty) E m p i B A q o g.1 g.2 G S h;refine⟨⟨v,w',Γ',by simp[builtin,Sem.run_bind',M],L,g3,K⟩,?_⟩;exact Q8 h
  .rename_i q o;split at h<;>try (cases h;done)
   next b g=>simp only[aK,cC]at g;have F:=ch i;subst F;let⟨v,w',Γ',M,L,g3,K⟩:=qfW (ty:=ty) E m p B A q o g.1 h;refine⟨⟨v,w',Γ',by simp[builtin,Sem.run_bind',M],L,g3,K⟩,?_⟩;exact Q8 h
 .next k a R b=>obtain⟨u,r,rfl,p,f⟩:=D.uncons;obtain⟨N,Q,rfl,i,c⟩:=f.uncons;rw[c.nil_inv,ch p,ch i];split at h<;>cases h;next g=>have g:=bH g;subst g;exact⟨⟨_,w,Γ,by simp[builtin,Sem.run_bind',Builtin.max_,Builtin.max2,pw],.refl _ _,m,.v _ rfl⟩,.refl _⟩
 .next k a R b=>obtain⟨u,r,rfl,p,f⟩:=D.uncons;obtain⟨N,Q,rfl,i,c⟩:=f.uncons;rw[c.nil_inv,ch p,ch i];split at h<;>cases h;next g=>have g:=bH g;subst g;exact⟨⟨_,w,Γ,by simp[builtin,Sem.run_bind',Builtin.min_,Builtin.min2,NU],.refl _ _,m,.v _ rfl⟩,.refl _⟩
 .cases h
end
end
section
open RowKit
def jI(P:aX)(Γ:Gh)(σ:St)(w:ao)(f:dm)(a:aa ah)(r:AV×ac St):Prop:=
 Calls P f a.toArray w λ e w'=>∃v Γ',e=.returned v/\Ext Γ w Γ' w'/\Inv Γ' (turn σ r.2) w'/\Rep Γ' r.1 v/\bP {σ with wr:=[],wrr:=[]} (turn {σ with wr:=[],wrr:=[]} r.2)
def kI(P:aX)(f:dm):Prop:=∃fn,P.funcs[f]?=Z fn/\fn.body.isNone=Y/\(fn.name=="runtime.NumGoroutine")=Y
def cp(P:aX)(f:dm)(p:St->aa AV->ac (AV×ac St)):Prop:=
 kI P f/\∀Γ σ w b a r,Inv Γ σ w->RepL Γ b a->p σ b=Z r->jI P Γ σ w f a r
structure dd (P:aX) (C:Cfg):Prop where
 mixed:P.follows .mixedOrders=O
 ty:∀t d,C.ty t=Z d->cH P t=Z d
 fn:∀f fn,C.fn f=Z fn->P.funcs[f]?=Z fn/\(fn.name=="runtime.NumGoroutine")=Y/\∀c,fn.body=Z c->iD c=O
 prim:∀f p,C.prim f=Z p->cp P f p
 inl:∀f fn,C.inl f=Z fn->P.funcs[f]?=Z fn/\(fn.name=="runtime.NumGoroutine")=Y/\∀c,fn.body=Z c->iD c=O
def Je{P:aX}{f:dm}(h:kI P f)(a:aM ah)(w:ao):(callFunc f a).run P w=.ok (.enter f a) w:=by
 let⟨fn,e,d,c⟩:=h;have b:(program).run P w=.ok P w:=rfl;unfold callFunc;simp only[Sem.run_bind,b,Result.andThen_ok,e,c,d,wg,wh];rfl
abbrev cv(Γ:Gh)(b:aa AV)(a:Act):Prop:=RepL Γ b (V a.tmps)
theorem cv.get{Γ:Gh}{b:aa AV}{a:Act}(h:cv Γ b a)(t:Nat):Rep Γ (b.getD t .dead) (a.tmps.getD t undef):=by
 rw[gE];cases c:b[t]? with
 |none=>exact .dead _
 |some x=>
   let⟨u,d,e⟩:=RepL.get h c;simp_all
def qme(Γ:Gh)(y:ah):Rep Γ (ofC y) y:=by
 unfold ofC;split
 .next h=>exact .v y h
 .exact .dead _
def qhu(Γ:Gh)(y:ah):Rep Γ (Gt y) y:=by
 unfold Gt;split
 .rename_i cs;split
  .next h=>let⟨a,b⟩:=uM (Γ:=Γ) h;have:=Rep.agg (Γ:=Γ) (cs.toList.map .v) (V cs) a.len b a.rep;simpa using this
  .exact .dead _
 .rename_i vs;split
  .rename_i h;have:vs = #[]:=by rw[<-O0 (xs:=vs),h]
   subst this;exact .tup [] [] rfl λ i x u h=>by simp at h
  .exact .dead _
 .exact qme Γ _
def cv.ev{Γ:Gh}{b:aa AV}{a:Act}(h:cv Γ b a)(y:bw):Rep Γ (aev b y) (a.eval y):=by
 cases y with
 |tmp t=>exact h.get t
 |const x=>exact qhu Γ x
 |func f=>exact .fn f [] [] rfl λ i x u h=>by simp at h
 |global g=>exact .dead _
def cv.put{Γ:Gh}{b:aa AV}{a:Act}(h:cv Γ b a)(d:ac Tmp){x:AV}{u:ah}(c:Rep Γ x u):cv Γ (ic b d x) (a.put d u):=by
 cases d with
 |none=>exact h
 |some d=>
   show RepL Γ (b.set d x) (V (a.tmps.setIfInBounds d u));grind [Array.toList_setIfInBounds,RepL.set]
section
variable {P:aX}{C:Cfg}{Γ:Gh}{σ:St}{w:ao}
def EO(H:∀t d,C.ty t=Z d->cH P t=Z d)(F:Inv Γ σ w){fn:Func}{i:aa AV}{a:Act}(p:cv Γ i a){r:AV}(h:od C fn ⟨i,σ⟩=Z r):∃v,(results fn a.tmps).run P w=.ok v w/\Rep Γ r v:=by
 have k:∀(c:aa ResultVar) (l:aa AV),jH C i σ c=Z l->∃vs:aa ah,(c.mapM (λ(x:ResultVar)=>(match x with
   |.tmp t=>pure (a.tmps.getD t undef)
   |.cell b t=>do loadVar t (<-asAddr (a.tmps.getD b undef)):Sem ah))).run P w=.ok vs w/\RepL Γ l vs:=by
  intro c
  induction c with
  |nil=>intro l h;simp only[jH,dF]at h;subst h;exact⟨[],by simp,.nil⟩
  |cons x c D=>
    intro l h;simp only[jH]at h;split at h<;>try cases h
    rename_i y e;split at h<;>cases h;rename_i ys m;let⟨vs,o,f⟩:=D ys m;have j:∃v,(match x with
    |.tmp t=>pure (a.tmps.getD t undef)
    |.cell b t=>do loadVar t (<-asAddr (a.tmps.getD b undef)):Sem ah).run P w=.ok v w/\Rep Γ y v:=by
      cases x with
      |tmp t=>simp only[xt,dF]at e;subst e;exact⟨_,rfl,p.get t⟩
      |cell b t=>
        simp only[xt]at e;split at e<;>try cases e
        next d G=>let⟨v,A,B,z,s⟩:=Xs F (H t d G) (p.get b) e;refine⟨v,?_,s⟩;simp[Sem.run_bind',B,asAddr,z]
    let⟨v,e1,M⟩:=j;refine⟨v::vs,?_,.cons M f⟩;rw[List.mapM_cons];simp only[Sem.run_bind,e1,Result.andThen_ok,o];rfl
 simp only[od]at h;split at h<;>cases h;rename_i l g;let⟨vs,o,f⟩:=k _ _ g;unfold results;rw[Array.mapM_eq_mapM_toList]
 have E:(List.toArray <$> (fn.results.toList.mapM (λ(x:ResultVar)=>(match x with
   |.tmp t=>pure (a.tmps.getD t undef)
   |.cell b t=>do loadVar t (<-asAddr (a.tmps.getD b undef)):Sem ah)))).run P w=.ok vs.toArray w:=by
  rw[Sem.run_map,o];rfl
 refine⟨if h:vs.toArray.size=1 then vs.toArray[0]else .tuple vs.toArray,?_,?_⟩
 .rw[Sem.run_bind];exact(aY (λ r=>Result.andThen r _) E).trans rfl
 .unfold cN;split
  .next y=>obtain⟨u,c,rfl,L,K⟩:=f.uncons;rw[K.nil_inv];simpa using L
  .rename_i n
   have:vs.toArray.size≠1:=by
    intro q;have g:=f.len;simp only[kN]at q;rw[q]at g
    match l,g with
    |[y],_=>exact n y rfl
   rw[dif_neg this];exact .tup _ _ f.len f.rep
def Ex.toExit:Ex->Exit
 |.normal=>.normal
 |.exit id=>.exit id
 |.ret=>.ret
def md(P:aX)(ex:dQ):Prop:=
 ∀c s e b,iD c=O->ex c s=Z (e,b)->∀Γ w a,Inv Γ s.σ w->cv Γ s.tm a->a.defers=[]->
  c.wp P (λ f d w'=>f=e.toExit/\d.defers=[]/\∃Γ',Ext Γ w Γ' w'/\Inv Γ' b.σ w'/\cv Γ' b.tm d/\bP s.σ b.σ) a w
def yQ(Γ:Gh):∀n:Nat,RepL Γ (List.replicate n .dead) (List.replicate n undef)
 |0=>.nil
 |n+1=>.cons (.dead _) (yQ Γ n)
theorem Ue(d:dd P C){ex:dQ}{f:dm}{a:aa AV}{r:AV×ac St}(h:ju C ex σ f a=Z r):kI P f:=by
 unfold ju at h;split at h
 .next p e=>exact(d.prim f p e).1
 .split at h<;>try cases h
  rename_i fn b;split at h<;>try cases h
  next c g=>let⟨j,i,_⟩:=d.fn f fn b;exact⟨fn,j,by rw[g];rfl,i⟩
def Vk(t:dd P C){ex:dQ}(E:md P ex){f:dm}{b:aa AV}{a:aa ah}{r:AV×ac St}(o:Inv Γ σ w)(l:RepL Γ b a)(h:ju C ex σ f b=Z r):jI P Γ σ w f a r:=by
 unfold ju at h;split at h
 .next p G=>exact(t.prim f p G).2 Γ σ w b a r o l h
 .split at h<;>try cases h
  rename_i fn q;split at h<;>try cases h
  rename_i c x;let⟨M,R,L⟩:=t.fn f fn q
  have S:∀e d,ex c (ql fn σ b)=Z (e,d)->(e=.ret\/e=.normal)->sa C fn σ d=Z r->jI P Γ σ w f a r:=by
   intro e d H s m;unfold jI;apply calls_of_wp M x;have n:Inv Γ (ql fn σ b).σ w:=o.wr rfl rfl
   have F:cv Γ (ql fn σ b).tm {tmps:=a.toArray++Array.replicate (fn.ntmps-a.toArray.size) undef,defers:=[]}:=by
    show RepL Γ (b++List.replicate (fn.ntmps-I b) .dead) (V (a.toArray++Array.replicate (fn.ntmps-a.toArray.size) undef));rw[yv,yw];have:a.toArray.size=I b:=by simpa using l.len
    rw[this];exact l.append (yQ Γ _)
   apply wp_mono (E c _ e d (L c x) H Γ w _ n F rfl);rintro T z w' ⟨rfl,K,Γ',Q,y,g3,N⟩;unfold sa at m;split at m<;>cases m;rename_i j k;let⟨v,D,B⟩:=EO t.ty y g3 k;let⟨⟨i,u1,u2,u3⟩,u4⟩:=XT o Q y N B
   have:z.defers=[]/\∃v,(results fn z.tmps).run P w'=.ok v w'/\∃g Γ',Ending.returned v=.returned g/\Ext Γ w Γ' w'/\Inv Γ' (turn σ (mV σ j d.σ).2) w'/\Rep Γ' (mV σ j d.σ).1 g/\bP {σ with wr:=[],wrr:=[]} (turn {σ with wr:=[],wrr:=[]} (mV σ j d.σ).2):=
    ⟨K,v,D,v,i,rfl,u1,u2,u3,u4⟩
   obtain rfl|rfl:=s
   .exact this
   .exact this
  grind
def sb(P:aX)(Γ:Gh)(σ:St)(w:ao)(f:dm)(a:aa ah)(r:AV×ac St):Prop:=
 Calls P f a.toArray w λ e w'=>∃v Γ',e=.returned v/\Ext Γ w Γ' w'/\Inv Γ' (turn σ r.2) w'/\Rep Γ' r.1 v/\bP σ (turn σ r.2)
def Lr{f e:aa Nat}(g:ms σ f e):∀{a:aa AV}{c:aa ah},RepL Γ a c->(∀b∈rbL a,b∈f)->(∀r∈rrL a,r∈e)->RepL (gO Γ f e) (bB (λ b=>f.idxOf b) (λ r=>e.idxOf r) a) c
 |[],c,h,_,_=>by rw[h.nil_inv];exact .nil
 |x::a,c,h,j,i=>by
   obtain⟨u,us,rfl,l,k⟩:=h.uncons;exact .cons (Gq g l (λ b d=>j b (by simp[rbL,d])) λ r d=>i r (by simp[rrL,d])) (Lr g k (λ b d=>j b (by simp[rbL,d])) λ r d=>i r (by simp[rrL,d]))
theorem Gc{f:dm}{a:aa AV}{c:aa ah}{i:St->aa AV->ac (AV×ac St)}(z:∀Γ σ a r,Inv Γ σ w->RepL Γ a c->i σ a=Z r->jI P Γ σ w f c r)
  {r:AV×ac St} (g:Inv Γ σ w) (x:RepL Γ a c) (h:fd σ a i=Z r):sb P Γ σ w f c r:=by
 unfold fd at h;split at h<;>try cases h
 rename_i m;let⟨d,o,n⟩:=XH m;split at h<;>cases h;rename_i r j;apply (z _ _ _ _ (V7 d g) (Lr d x o n) j).mono;rintro e w' ⟨v,t,q,k,p,l,y⟩;have b:=FS d g k l;rw[g.nb,g.nr]at b;let⟨B,u⟩:=r;cases u with
 |none=>
   refine⟨v,_,q,LG d g k,?_,b,.refl _⟩;have o:=Uu d g k p;let⟨e1,A⟩:=Vl d;exact o.wr e1.symm A.symm
 |some s=>exact⟨v,_,q,LG d g k,Uu d g k p,b,qh8 d y⟩
def sb.after{f:dm}{a:aa ah}{b:Gh}{σ1:St}{r:AV×ac St}(h:sb P b σ1 w f a r)(c:Ext Γ w b w)(d:bP σ σ1):sb P Γ σ w f a (match r with|(x,U)=>(x,Z σ1)|r=>r):=by
 apply Calls.mono h;rintro e w' ⟨v,Γ',g,l,k,j,i⟩;let⟨o,n⟩:=r;cases n with
 |none|some m=>exact⟨v,Γ',g,c.trans l,k,j,d.trans i⟩
def LI(f:Inv Γ σ w){m:Nat->Nat->ac ah}(e:Le Γ {Γ with mem:=m}):∀{b:aa AV}{a:aa ah},(∀r∈b.flatMap rsA,∀R,σ.rw[r]?=Z R->gJ {Γ with mem:=m} r R)->RepL Γ b a->RepL {Γ with mem:=m} (b.map (cS σ.rw)) a
 |[],a,_,h=>by rw[h.nil_inv];exact .nil
 |x::b,a,g,h=>by
   obtain⟨u,us,rfl,j,i⟩:=h.uncons;exact .cons (Mc f e (λ r d=>g r (by simp[d])) j) (LI f e (λ r d=>g r (by simp only[we,bc];exact .inr d)) i)
def qlp{Γ Γ':Gh}{x:AV}{u:ah}(h:rY x=O)(a:Rep Γ x u):Rep Γ' x u:=by
 cases a with
 |v _ f=>exact .v _ f
 |tup cs us e a=>
   refine .tup cs us e λ i x u b c=>?_;have d:isV x=O:=(bJ.1 h) x (aP b);have:=a i x u b c;cases x with
   |v y=>have:=ch this;subst this;exact .v _ (by have:=a i _ _ b c;cases this;assumption)
   |_=>cases d
 |_=>cases h
def qm8{a:aa AV}(d:rbL a=[])(c:rrL a=[]):dP σ a=[]/\gD σ a=[]:=by
 have b:dP σ a=[]:=by
  unfold dP;rw[d];show xK σ.bx (I σ.bx) []=[];cases I σ.bx with
  |zero|succ n=>rfl
 refine⟨b,?_⟩;unfold gD;rw[b,c];rfl
theorem qh1{f:dm}{a:aa AV}{g:aa ah}{k:St->aa AV->ac (AV×ac St)}(H:∀Γ σ a r,Inv Γ σ w->RepL Γ a g->k σ a=Z r->jI P Γ σ w f g r)
  {x:AV}{l:Gh}{σ0:St} (M:Inv l σ0 w) (m:Inv Γ σ w) (E:RepL Γ a g) (h:fd σ a k=Z (x,U)) (L:rbL a=[]) (K:rrL a=[]) (D:rY x=O):sb P l σ0 w f g (x,U):=by
 let⟨p,o⟩:=qm8 (σ:=σ) L K;unfold fd at h;split at h<;>try cases h
 rename_i y;let⟨t,A,z⟩:=XH y;split at h<;>try cases h
 rename_i r n;have j:=kO h;rw[p,o]at t;refine(H _ _ _ _ (V7 (by rw[p,o];exact t) m) (Lr (by rw[p,o];exact t) E A z) n).mono ?_;rintro e w' ⟨v,B,G,c,R,q,Q⟩;rw[p,o]at c;have d:=FS t m c q;rw[m.nb,m.nr]at d
 have u:x=ren (cM [] (I σ.bx)) (cM [] (I σ.rw)) r.1:=by
  rw[p,o]at j;let⟨N,C⟩:=r;cases C<;>cases j;rfl
 rw[<-u]at d
 have s:Below w.heap.size w w':=⟨c.os,c.tape,c.output,c.size,λ b A=>c.block b A λ F=>by
  obtain⟨i,m,_⟩|⟨i,m,_⟩:=F<;>exact absurd m (eh _)⟩
 exact⟨v,l,G,wY s c.drawn,M.later s,qlp D d,.refl _⟩
def JP{C:Cfg}{ex:dQ}{σ:St}{f:Nat}{a:aa AV}{r:AV×ac St}(h:mX C ex σ f a=Z r):(∃fn,C.inl f=Z fn/\yo C ex σ fn a=Z r)\/mW C ex σ f a=Z r:=by
 grind [mX]
def VR{C:Cfg}{ex:dQ}{σ:St}{fn:Func}{a:aa AV}{r:AV×ac St}(h:yo C ex σ fn a=Z r):∃c e b x,fn.body=Z c/\ex c ⟨a++List.replicate (fn.ntmps-I a) .dead,σ⟩=Z (e,b)/\(e=.ret\/e=.normal)/\od C fn b=Z x/\r=(x,Z b.σ):=by
 unfold yo at h;split at h<;>try cases h
 rename_i c j;split at h<;>try cases h
 rename_i e b d g;split at h<;>cases h;rename_i x f;refine⟨c,e,b,x,j,g,?_,f,rfl⟩;cases e with
 |normal=>exact .inr rfl
 |ret=>exact .inl rfl
 |exit i=>exact(d i rfl).elim
def qnP(n:dd P C){ex:dQ}(t:md P ex){f:dm}{fn:Func}(z:C.inl f=Z fn){b:aa AV}{a:aa ah}{r:AV×ac St}(y:Inv Γ σ w)(l:RepL Γ b a)(h:yo C ex σ fn b=Z r):sb P Γ σ w f a r:=by
 obtain⟨c,e,g,x,m,A,j,i,rfl⟩:=VR h;let⟨E,H,D⟩:=n.inl f fn z;unfold sb;apply calls_of_wp E m
 have u:cv Γ (b++List.replicate (fn.ntmps-I b) .dead) {tmps:=a.toArray++Array.replicate (fn.ntmps-a.toArray.size) undef,defers:=[]}:=by
  show RepL Γ (b++List.replicate (fn.ntmps-I b) .dead) (V (a.toArray++Array.replicate (fn.ntmps-a.toArray.size) undef));rw[yv,yw];have:a.toArray.size=I b:=by simpa using l.len
  rw[this];exact l.append (yQ Γ _)
 apply wp_mono (t c _ e g (D c m) A Γ w _ y u rfl);rintro K p w' ⟨rfl,B,Γ',G,o,g3,F⟩;let⟨v,s,q⟩:=EO n.ty o g3 i
 have:p.defers=[]/\∃v,(results fn p.tmps).run P w'=.ok v w'/\∃d Γ',Ending.returned v=.returned d/\Ext Γ w Γ' w'/\Inv Γ' (turn σ (x,Z g.σ).2) w'/\Rep Γ' (x,Z g.σ).1 d/\bP σ (turn σ (x,Z g.σ).2):=
  ⟨B,v,s,v,Γ',rfl,G,o,q,F⟩
 obtain rfl|rfl:=j
 .exact this
 .exact this
def qjI(p:dd P C){ex:dQ}(k:md P ex){f:dm}{a:aa AV}{b:aa ah}{r:AV×ac St}(i:Inv Γ σ w)(g:RepL Γ a b)(h:mX C ex σ f a=Z r):sb P Γ σ w f b r:=by
 have n:∀Γ σ a r,Inv Γ σ w->RepL Γ a b->ju C ex σ f a=Z r->jI P Γ σ w f b r:=λ _ _ _ _=>Vk p k;obtain⟨fn,z,h⟩|h:=JP h
 .exact qnP p k z i g h
 unfold mW at h;unfold pt at h;cases e:C.raw f with
 |true=>
   grind [Gc]
 |false=>
   rw[e]at h;simp only at h;cases c:a.flatMap rsA with
   |nil=>
     rw[c]at h;exact Gc n i (LI (m:=Γ.mem) i (Le.refl _) (by rw[c];intro r g;cases g) g) h
   |cons q l=>
     rw[c]at h;simp only[xL]at h;let⟨m,j,v,u⟩:=pU (q::l) i ((q::l)++σ.wrr);have A:=LI i j.le (by rw[c];exact u) g;cases d:fd {σ with rw:=frz σ.rw (q::l),wrr:=(q::l)++σ.wrr} (a.map (cS σ.rw)) (λ σ a=>ju C ex σ f a)with
     |none=>rw[d]at h;cases h
     |some t=>
       rw[d]at h;have:=(Gc n v A d).after (xx j w) (J7 (q::l));let⟨x,o⟩:=t;cases o with
       |none=>
         simp only at h;split at h
         .next y=>cases h;simp only[aK,wi]at y;grind [qh1]
         .cases h;exact this
       |some s=>cases h;exact this
theorem RX{c:aa AV}{a:St->aa AV->ac (AV×ac St)}{r:AV×ac St}(h:fd σ c a=Z r):∃σ' b d,a σ' b=Z d:=by
 grind [fd]
def qi3(d:dd P C){ex:dQ}{f:dm}{a:aa AV}{r:AV×ac St}(h:mX C ex σ f a=Z r):kI P f:=by
 obtain⟨fn,e,h⟩|h:=JP h
 .let⟨c,_,_,_,g,_⟩:=VR h;let⟨j,i,_⟩:=d.inl f fn e;exact⟨fn,j,by rw[g];rfl,i⟩
 unfold mW at h;split at h
 .grind [RX,Ue]
 .rename_i σ' _;cases b:fd σ' _ (λ σ a=>ju C ex σ f a)with
  |none=>rw[b]at h;cases h
  |some l=>let⟨_,_,_,k⟩:=RX b;exact Ue d k
def MO(p:dd P C){ex:dQ}(F:md P ex){k:aa AV}{a:Act}{o:Oper}{x:AV}{σ':ac St}(u:Inv Γ σ w)(q:cv Γ k a)(h:opA C ex k σ o.op=Z (x,σ')):YV P Γ σ w o a x σ':=by
 by_cases j:∃c,o.op=.call c
 .let⟨c,s⟩:=j;rw[s]at h;have d:RepL Γ (c.args.toList.map (aev k)) (c.args.toList.map a.eval):=La q.ev _;simp only[opA]at h;split at h
  .rename_i b M;let⟨⟨v,w',Γ',D,S,R,N⟩,H⟩:=qoD (P:=P) (ty:=o.type) (cs:=c.args.map λ|.const _=>O|_=>Y) p.ty u d h;refine dU.wp ⟨_,v,w',Γ',?_,.inl rfl,S,R,N⟩ H;have e:(c.args.toList.map a.eval).toArray=c.args.map a.eval:=by rw[<-H3]
   rw[e]at D;unfold execOp;rw[s];simp only[resolve,M,Sem.run_bind];exact D
  .split at h<;>try cases h
   rename_i f i n
   have A:∃g,c.callee=.value g/\aev k g=.fn f i:=by
    unfold rR at n;grind
   let⟨g,K,L⟩:=A;have m:=L▸q.ev g;generalize y:a.eval g=T at m;cases m with
   |fn f i us G r=>
     have z:=qi3 p h;have B:=qjI p F u (d.append (RepL.mk G r)) h;intro next Q t
     unfold Oper.wp
     have l:(execOp a.eval o).run P w=.ok (.enter f ((c.args.toList.map a.eval++us).toArray)) w:=by
      unfold execOp;rw[s];simp only[resolve,K,y,Deferred.ofValue,Sem.run_bind]
      have e:c.args.map a.eval++us.toArray=(c.args.toList.map a.eval++us).toArray:=by
       rw[<-H3];simp
      rw[<-e,Array.empty_append];exact Je z _ w
     rw[l,Oper.upon_enter];apply Calls.mono B;grind
 .have E:aC C k σ o.op=Z (x,σ'):=by
    simp_all [opA]
  exact(qov p.ty u q.ev E).wp (qh6 E)
end
end
section
open RowKit
section
variable {P:aX}{C:Cfg}{Γ:Gh}{σ:St}{w:ao}{ops:aM Oper}
def uZ{k:aa AV}{a:Act}{o:Oper}{b:Bool}(n:cv Γ k a)(h:dh ops k o=Z b):Region.wanted o (yielded ops a.tmps)=b:=by
 unfold dh at h;unfold Region.wanted;split at h
 .next f=>cases h;rw[f]
 .rename_i j i f;rw[f];simp only;split at h<;>try cases h
  rename_i d q;have e:=n.get d;unfold yielded;rw[q];simp only[Option.bind_some];split at h
  .rename_i c g;cases h;rw[g]at e;have:=ch e;rw[jR]at this;cases l:a.tmps[d]? with
   |none=>rw[l]at this;cases this
   |some v=>rw[l]at this;cases this;simp[eE]
  .rename_i g;cases h;rw[g]at e;generalize m:a.tmps.getD d undef=u at e;cases e with
   |tup cs us r p=>
     rw[jR]at m;grind
  .cases h
def Ms(t:dd P C){ex:dQ}(q:md P ex){d:Bool}{Q:Exit->Act->ao->Prop}{g:S}:∀(b:aa Oper) (i:Nat) (s:S) (Γ:Gh) (w:ao) (a:Act),(∀j,b[j]?=ops[i+j]?)->cY C ex ops d b s=Z g->Inv Γ s.σ w->cv Γ s.tm a->
  (∀Γ' w' D,Ext Γ w Γ' w'->Inv Γ' g.σ w'->cv Γ' g.tm D->bP s.σ g.σ->D.defers=a.defers->Q .normal D w')->wpOps P ops Q (List.range' i (I b)) a w
 |[],i,s,Γ,w,a,_,h,n,f,m=>by
   simp only[cY,dF]at h;subst h;exact m Γ w a (.refl _ _) n f (.refl _) rfl
 |o::b,i,s,Γ,w,a,E,h,n,f,m=>by
   have G:ops[i]?=Z o:=by simpa using(E 0).symm
   have l:∀j,b[j]?=ops[i+1+j]?:=λ j=>by have:=E (j+1);simpa[eY,ZG 1 j]using this
   simp only[bG,List.range'_succ,wpOps,G]
   have F:∀x σ',opA C ex s.tm s.σ o.op=Z (x,σ')->cY C ex ops d b ⟨ic s.tm o.dst x,turn s.σ σ'⟩=Z g->o.wp P a w (wpOps P ops Q (List.range' (i+1) (I b))) Q:=by
    intro x σ' c k;apply MO t q n f c _ _;intro u w' Γ' e1 M L K;apply Ms t q b (i+1) _ Γ' w' _ l k M (cv.put (Ih e1.le f) o.dst L);intro e p B A z g3 y v;exact m e p B (e1.trans A) z g3 (K.trans y) (by rw[v];cases H:o.dst<;>rfl)
   simp only[cY]at h;split at h
   .rename_i r;rw[ag (uZ f r)];left;split at h
    .next x c=>exact F x U c h
    .rename_i x σ' c;split at h
     .cases h
     .exact F x (Z σ') c h
    .cases h
   .next r=>rw[af (by rw[uZ f r];exact mK)];apply Ms t q b (i+1) _ Γ w _ l h n (cv.put f o.dst (.tup [] [] rfl λ i x u h=>by simp at h));intro e p B A z g3 y v;exact m e p B A z g3 y (by rw[v];cases H:o.dst<;>rfl)
   .cases h
end
end
section
open RowKit
section
variable {P:aX}{C:Cfg}{Γ:Gh}{σ:St}{w:ao}{ops:aM Oper}{ex:dQ}
def iX(C:Cfg)(ex:dQ)(ops:aM Oper)(o:Oper)(s:S)(y:AV×ac St):Prop:=
 (dh ops s.tm o=Z O/\opA C ex s.tm s.σ o.op=Z y)\/(dh ops s.tm o=Z Y/\y=(xH,U))
def ck(s:S)(o:Oper)(y:AV×ac St):S:=⟨ic s.tm o.dst y.1,turn s.σ y.2⟩
def F(ops:aa Oper)(l:aa (AV×ac St))(s0:S)(L:Nat->Bool):Nat->S
 |0=>s0
 |k+1=>match ops[k]?,l[k]?,L k with
   |Z o,Z y,O=>ck (F ops l s0 L k) o y
   |_,_,_=>F ops l s0 L k
def aR:Nat->Bool:=λ _=>O
def GY(o:Oper)(a:aa Oper)(y:AV×ac St)(l:aa (AV×ac St))(s:S):∀k,F (o::a) (y::l) s aR (k+1)=F a l (ck s o y) aR k
 |0=>rfl
 |k+1=>by
   show(match(o::a)[k+1]?,(y::l)[k+1]?,aR (k+1)with
    |Z c,Z b,O=>ck (F (o::a) (y::l) s aR (k+1)) c b
    |_,_,_=>F (o::a) (y::l) s aR (k+1))=_
   rw[GY o a y l s k];simp only[List.getElem?_cons_succ];rfl
def zw:∀(a:aa Oper) (s e:S),cY C ex ops O a s=Z e->∃l,I l=I a/\F a l s aR (I a)=e/\
  (∀i o,a[i]?=Z o->∃y,l[i]?=Z y/\iX C ex ops o (F a l s aR i) y/\(y.2.isSome=O->cQ C.lo o.op=O))/\
  ∀i o y,a[i]?=Z o->l[i]?=Z y->y.2.isSome=O->ml C ops (ops.size-(I a-i)) (F a l s aR i).tm (F a l s aR i).σ o.op=O
 |[],s,e,h=>by
   simp only[cY,dF]at h;exact⟨[],rfl,h,λ i o c=>by simp at c,λ i o y c=>by simp at c⟩
 |o::a,s,e,h=>by
   have m:∀y,iX C ex ops o s y->(y.2.isSome=O->cQ C.lo o.op=O/\ml C ops (ops.size-(I a+1)) s.tm s.σ o.op=O)->cY C ex ops O a (ck s o y)=Z e->∃l,I l=I (o::a)/\F (o::a) l s aR (I (o::a))=e/\
     (∀i d,(o::a)[i]?=Z d->∃y,l[i]?=Z y/\iX C ex ops d (F (o::a) l s aR i) y/\(y.2.isSome=O->cQ C.lo d.op=O))/\
     ∀i d y,(o::a)[i]?=Z d->l[i]?=Z y->y.2.isSome=O->ml C ops (ops.size-(I (o::a)-i)) (F (o::a) l s aR i).tm (F (o::a) l s aR i).σ d.op=O:=by
    intro y q b j;let⟨l,w,v,u,t⟩:=zw a _ e j;refine⟨y::l,by simp[w],?_,λ i d c=>?_,λ i d p c f n=>?_⟩
    .rw[bG,GY];exact v
    .cases i with
     |zero=>simp at c;subst c;exact⟨y,rfl,q,λ h=>(b h).1⟩
     |succ i=>
       rw[GY];simpa using u i d (by simpa using c)
    .cases i with
     |zero=>simp at c f;subst c;subst f;exact(b n).2
     |succ i=>
       rw[GY,bG,Nat.add_sub_add_right];exact t i d p (by simpa using c) (by simpa using f) n
   simp only[cY]at h;split at h
   .rename_i k;split at h
    .next x g=>exact m (x,U) (.inl ⟨k,g⟩) (by simp) h
    .rename_i x σ' g;split at h
     .cases h
     .next r=>exact m (x,Z σ') (.inl ⟨k,g⟩) (λ _=>by simpa using r) h
    .cases h
   .next k=>exact m (xH,U) (.inr ⟨k,rfl⟩) (by simp) h
   .cases h
def Ke{b a:aa AV}{xs:aa bw}(h:∀t∈xs.filterMap (λ|.tmp t=>Z t|_=>U),b.getD t .dead=a.getD t .dead):∀x∈xs,aev b x=aev a x:=by
 intro x c;cases x with
 |tmp t=>exact h t (nL.2 ⟨_,c,rfl⟩)
 |_=>rfl
def Ll{g d:aa AV}{op:Op}(h:∀x∈V op.operands,aev g x=aev d x):opA C ex g σ op=opA C ex d σ op:=by
 have j:∀ps:aM (Nat×bw),(∀x∈ps.toList.map (·.2),aev g x=aev d x)->(ps.toList.map λ p=>(p.1,aev g p.2))=ps.toList.map λ p=>(p.1,aev d p.2):=λ ps v=>
  mL λ p A=>by rw[v p.2 (bu.2 ⟨p,A,rfl⟩)]
 cases op with
 |call c=>
   have E:c.args.toList.map (aev g)=c.args.toList.map (aev d):=mL λ x o=>h x (by
    simp only[Op.operands,Call.operands];cases c.callee<;>simp[o]<;>(right;simpa using o))
   simp only[opA,E];cases D:c.callee with
   |builtin b=>rfl
   |value f=>
     have B:aev g f=aev d f:=h f (by simp[Op.operands,Call.operands,D]);simp only[rR,B]
   |invoke r n=>rfl
 |build t ps=>simp only[opA,aC,j ps (λ x o=>h x (by simpa[Op.operands]using o))]
 |buildSlice t n ps=>
   have v:=j ps (λ x o=>h x (by simpa[Op.operands]using o))
   have e1:(ps.toList.flatMap λ p=>rsA (aev g p.2))=ps.toList.flatMap λ p=>rsA (aev d p.2):=by
    have:=aY (λ l=>List.flatMap (λ p:Nat×AV=>rsA p.2) l) v;simpa[H9]using this
   have K:(ps.toList.map λ p=>(cellsOf (aev g p.2)).map (bC σ.rw))=ps.toList.map λ p=>(cellsOf (aev d p.2)).map (bC σ.rw):=by
    have:=aY (λ l=>List.map (λ p:Nat×AV=>(cellsOf p.2).map (bC σ.rw)) l) v;simpa[iu,Function.comp]using this
   simp only[opA,aC,v,e1,K]
 |makeFunc f L cs=>
   have z:cs.toList.map (aev g)=cs.toList.map (aev d):=mL λ x o=>h x (by simp only[Op.operands,yv,bc];exact .inr o);cases f<;>simp only[opA,aC,z]
 |slice t x lo w m=>
   cases m with
   |some m=>simp[opA,aC]
   |none=>
     have H:aev g x=aev d x:=h x (by simp[Op.operands])
     have G:lo.map (aev g)=lo.map (aev d):=by
      cases lo with
      |none=>rfl
      |some y=>simp only[lK];rw[h y (by simp[Op.operands])]
     have F:w.map (aev g)=w.map (aev d):=by
      cases w with
      |none=>rfl
      |some y=>simp only[lK];rw[h y (by simp[Op.operands])]
     simp only[opA,aC,H,G,F]
 |move x|assign x=>simp only[opA,aC,h x (by simp[Op.operands])]
 |pick c a b=>simp only[opA,aC,h c (by simp[Op.operands]),h a (by simp[Op.operands]),h b (by simp[Op.operands])]
 |box e x|load t x=>simp only[opA,aC,h x (by simp[Op.operands])]
 |store t x y|makeSlice t x y=>simp only[opA,aC,h x (by simp[Op.operands]),h y (by simp[Op.operands])]
 |nilCheck x=>simp only[opA,aC,h x (by simp[Op.operands])]
 |binOp op t x y u=>simp only[opA,aC,h x (by simp[Op.operands]),h y (by simp[Op.operands])]
 |unOp op t x|convert s t x|fieldAddr t x i|field t x i=>simp only[opA,aC,h x (by simp[Op.operands])]
 |indexAddr t x y|index t x y=>simp only[opA,aC,h x (by simp[Op.operands]),h y (by simp[Op.operands])]
 |extract x i=>simp only[opA,aC,h x (by simp[Op.operands])]
 |makeMap t r=>cases r<;>simp only[opA,aC]
 |lookup t m k q=>simp only[opA,aC,h m (by simp[Op.operands]),h k (by simp[Op.operands])]
 |mapUpdate t m k y|insert t m k y=>simp only[opA,aC,ma,h m (by simp[Op.operands]),h k (by simp[Op.operands]),h y (by simp[Op.operands])]
 |_=>simp only[opA,aC]
def EF{b a:aa AV}{o:Oper}(h:∀t∈iZ ops o,b.getD t .dead=a.getD t .dead):dh ops b o=dh ops a o:=by
 grind [dh,iZ]
theorem SV{x:AV}(h:rsC x=[])(rw a:aa Row):bC a x=bC rw x:=by
 cases x<;>first|rfl|(cases h;done)
theorem JF{x:AV}(h:rsA x=[]):∀c∈cellsOf x,rsC c=[]:=by
 cases x with
 |agg cs=>exact λ c a=>qT.1 h c a
 |_=>intro c a;rw[bW.1 a];exact h
def qh0{ps:aa (Nat×AV)}(h:∀p∈ps,rsA p.2=[])(k n:Nat)(rw a:aa Row):vb k n a ps=vb k n rw ps:=by
 unfold vb;congr 1;rw[wj,bJ,bJ]
 have e:∀p∈ps.zipIdx,((cellsOf p.1.2).all λ x=>br (bC a x))=(cellsOf p.1.2).all λ x=>br (bC rw x):=λ p b=>by
  have c:p.1∈ps:=(qoL.1 b)|> λ h=>aP h
  rw[wj,bJ,bJ];grind [SV,JF]
 grind
def Vr{i:aa AV}{τ:St}{op:Op}{x:AV}(d:iC op=Y)(u:cQ C.lo op=Y)(h:opA C ex i σ op=Z (x,U)):opA C ex i τ op=Z (x,U):=by
 cases op with
 |call c=>
   let⟨z,B,A⟩:=c;cases z with
   |builtin b=>
     cases b<;>try (simp[iC]at d;done)
     all_goals
      simp only[opA]at h |-
      rw[<-h];generalize B.toList.map (aev i)=g;unfold iA
      obtain _|⟨p,_|⟨q,_|⟨r,l⟩⟩⟩:=g<;>first
       |rfl
       |(cases p<;>first|rfl|(rename_i v;cases v<;>first|rfl|(cases q<;>first|rfl|(rename_i o;cases o<;>rfl))))
   |value f|invoke r n=>simp[iC]at d
 |load t x|store t x y=>simp[iC]at d
 |buildSlice t n ps=>
   simp only[opA,aC]at h |-
   split at h<;>try cases h
   rename_i E;split at h<;>try cases h
   rename_i j;split at h<;>cases h;rename_i w
   have s:∀p∈ps.toList.map (λ p=>(p.1,aev i p.2)),rsA p.2=[]:=λ p j=>by
    grind [List.flatMap_eq_nil_iff]
   rw[qh0 s _ _ σ.rw τ.rw,j];simp only[w];congr 3;grind [List.map_congr_left,SV,JF,List.flatMap_eq_nil_iff]
 |indexAddr t x y|lookup t m k q|mapUpdate t m k y|insert t m k y=>simp[iC]at d
 |makeMap t r=>simp[cQ]at u
 |convert a b y=>simp[iC]at d
 |slice t x lo D m=>
   cases m with
   |some m=>exact h
   |none=>
     simp only[opA,aC]at h;split at h
     .simp_all [opA,aC]
     .simp_all [opA,aC]
     .simp_all [opA,aC]
     .grind
     .cases h
 |alloc e=>
   simp only[opA,aC]at h;grind
 |box e y=>
   simp only[opA,aC]at h;grind
 |makeFunc f F cs=>cases f<;>exact h
 |makeSlice t a b=>
   simp only[opA,aC]at h |-
   split at h<;>try cases h
   split at h<;>try cases h
   grind
 |_=>exact h
end
end
section
open RowKit
theorem Tq: ∀r a,∃t,fO r a=a++t
 |[],a=>⟨[],by simp[fO]⟩
 |o::r,a=>by
   let⟨t,b⟩:=Tq r (a++[Av a o]);grind [fO]
theorem SX: ∀r a k o,r[k]?=Z o->(fO r a).getD (I a+k) 0=Av ((fO r a).take (I a+k)) o
 |[],a,k,o,h=>by simp at h
 |q::r,a,0,o,h=>by
   let⟨t,b⟩:=Tq r (a++[Av a q]);grind [fO]
 |q::r,a,k+1,o,h=>by
   rw[fO];have:=SX r (a++[Av a q]) k o (by grind);grind
theorem UA(a:aa Nat)(j):∀(xs:aa Nat) m,(xs.foldl (λ m e=>m|||(2^e|||a.getD e 0)) m).testBit j=O->m.testBit j=O\/∃e∈xs,e=j\/(a.getD e 0).testBit j=O
 |[],m,h=>.inl h
 |e::xs,m,h=>by
   obtain h|⟨c,b,h⟩:=UA a j xs _ h
   .grind
   .grind
theorem qk5{ops i j o}(ho:ops[i]?=Z o)(h:((fO ops []).getD i 0).testBit j=O):∃e∈dM o,e=j\/(e<i/\((fO ops []).getD e 0).testBit j=O):=by
 have a:=SX ops [] i o ho;simp only[fE,cI]at a;rw[a]at h;obtain h|⟨e,b,h⟩:=UA _ _ _ _ h
 .simp at h
 .grind
section
variable {P:aX}{C:Cfg}{Γ:Gh}{σ:St}{w:ao}{ops:aM Oper}{ex:dQ}{l:aa (AV×ac St)}{s0:S}{L:Nat->Bool}
def ij(ops:aM Oper)(L:Nat->Bool):Prop:=∀i o,ops[i]?=Z o->L i=O->∀e∈dM o,L e=O
theorem qz(hd:ij ops L){j}:∀i o,ops[i]?=Z o->(∀e∈dM o,L e=O)->((fO (V ops) []).getD i 0).testBit j=O->L j=O:=by
 intro i
 induction i using Nat.strongRecOn with
 |_ i f=>
   intro o ho hp g;obtain⟨e,d,h⟩:=qk5 (by simpa using ho) g;rcases h with rfl|⟨b,c⟩
   .exact hp _ d
   .have a:=Nat.lt_trans b (dW.1 ho).1;exact f e b ops[e] (gi a) (hd e _ (gi a) (hp e d)) c
theorem El{raw tm}(h:lm raw tm ops=O):(∀j o,ops[j]?=Z o->∀e∈dM o,e<j)/\
  ∀i j o q,ops[j]?=Z o->ops[i]?=Z q->i≠j->nD raw tm ops j o i q=O->((fO (V ops) []).getD (max i j) 0).testBit (min i j)=O:=by
 have a:∀i o,ops[i]?=Z o->(o,i)∈ops.toList.zipIdx:=λ i o ho=>by
  grind
 grind [lm]
theorem LZ(hd:ij ops L){i j o q}(ho:ops[j]?=Z o)(d:ops[i]?=Z q)(f:i≠j)(a:((fO (V ops) []).getD (max i j) 0).testBit (min i j)=O)(hL:L j=Y)(hp:∀e∈dM o,L e=O):(i<j->L i=O)/\(j<i->L i=Y):=by
 constructor
 .grind [Nat.max_eq_right,Nat.le_of_lt,Nat.min_eq_left,qz]
 .intro b;rw[Nat.max_eq_left (qU b),Nat.min_eq_right (qU b)]at a;cases c:L i with
  |false=>rfl
  |true=>
    have:=qz hd i q d (hd i q d c) a;rw[hL]at this;cases this
theorem ord{raw tm}(hk:lm raw tm ops=O)(hd:ij ops L){i j o q}(ho:ops[j]?=Z o)(b:ops[i]?=Z q)(a:i≠j)(c:nD raw tm ops j o i q=O)(hL:L j=Y)(hp:∀e∈dM o,L e=O):(i<j->L i=O)/\(j<i->L i=Y):=by
 exact LZ hd ho b a ((El hk).2 i j o q ho b a c) hL hp
structure mY (C:Cfg) (ex:dQ) (ops:Array Oper) (l:List (AV×Option St)) (s0:S):Prop where
 st:∀(i:Nat) (o:Oper),ops[i]?=Z o->∃y,l[i]?=Z y/\iX C ex ops o (F ops.toList l s0 aR i) y/\(y.2.isSome=O->cQ C.lo o.op=O)
 sp:∀(i:Nat) (o:Oper) (y:AV×Option St),ops[i]?=Z o->l[i]?=Z y->y.2.isSome=O->ml C ops i (F ops.toList l s0 aR i).tm (F ops.toList l s0 aR i).σ o.op=O
theorem Kl(d:∀i o,ops.toList[i]?=Z o->∃y,l[i]?=Z y/\iX C ex ops o (F (V ops) l s0 aR i) y/\(y.2.isSome=O->cQ C.lo o.op=O))(c:∀i o y,ops.toList[i]?=Z o->l[i]?=Z y->y.2.isSome=O->ml C ops (ops.size-(I (V ops)-i)) (F (V ops) l s0 aR i).tm (F (V ops) l s0 aR i).σ o.op=O):mY C ex ops l s0:=
 ⟨λ i o ho=>d i o (by grind),λ i o y ho a b=>by
  have:=c i o y (by grind) a b;have e:=(dW.1 ho).1
  rwa [jg,show ops.size-(ops.size-i)=i by omega]at this⟩
def vX(C:Cfg)(ops:aM Oper)(l:aa (AV×ac St)):Prop:=
 ∀(i:Nat) (o:Oper),ops[i]?=Z o->∃y,l[i]?=Z y/\(y.2.isSome=O->cQ C.lo o.op=O)
theorem mY.recd(h:mY C ex ops l s0):vX C ops l:=λ i o ho=>let⟨y,h1,_,h3⟩:=h.st i o ho;⟨y,h1,h3⟩
theorem Ae(s o y t)(h:o.dst≠Z t):(ck s o y).tm.getD t .dead=s.tm.getD t .dead:=by
 unfold ck;cases hd:o.dst with
 |none=>rfl
 |some d=>
   show(s.tm.set d y.1).getD t .dead=_;grind
theorem qlo(s o y):(ck s o y).tm.length=I s.tm:=by
 unfold ck;cases hd:o.dst with
 |none=>rfl
 |some d=>exact dX ..
theorem Gk(s o y t)(h:o.dst=Z t):(ck s o y).tm.getD t .dead=if t<I s.tm then y.1 else .dead:=by
 unfold ck;rw[h];show(s.tm.set t y.1).getD t .dead=_;grind
theorem putS_σ(s o y)(h:y.2=U):(ck s o y).σ=s.σ:=by
 unfold ck;rw[h];rfl
theorem qjf(s o q y z)(hd:∀d,q.dst=Z d->o.dst≠Z d)(a:y.2=U\/z.2=U):ck (ck s o y) q z=ck (ck s q z) o y:=by
 unfold ck;congr 1
 .cases ho:o.dst with
  |none=>rfl
  |some d=>
    cases b:q.dst with
    |none=>rfl
    |some e=>
      show(s.tm.set d y.1).set e z.1=(s.tm.set e z.1).set d y.1;grind [List.set_comm]
 .obtain h|h:=a
  .rw[h];rfl
  .rw[h];rfl
theorem iU(hT:vX C ops l){k q}(a:ops[k]?=Z q):∃y,l[k]?=Z y/\(y.2.isSome=O->cQ C.lo q.op=O)/\∀L,F (V ops) l s0 L (k+1)=if L k=O then ck (F (V ops) l s0 L k) q y else F (V ops) l s0 L k:=by
 let⟨y,c,b⟩:=hT k q a;grind [F]
theorem Ha(L):∀k,(F (V ops) l s0 L k).tm.length=I s0.tm
 |0=>rfl
 |k+1=>by
   simp[F];split
   .rw[qlo];exact Ha L k
   .exact Ha L k
theorem G1{L'}:∀k,(∀i,i<k->L i=L' i)->F (V ops) l s0 L k=F (V ops) l s0 L' k
 |0,_=>rfl
 |k+1,h=>by
   simp[F];rw[G1 k λ i a=>h i (by omega),h k (by omega)]
theorem gW{k}(h:k<ops.size:=by omega):∃q,ops[k]?=Z q:=⟨ops[k],gi h⟩
theorem JA{t}(h:oY (V ops) t=[]){k:Nat}{q}(b:ops[k]?=Z q):q.dst≠Z t:=by
 intro hd;have a:(q,k)∈ops.toList.zipIdx:=by grind
 have:(q,k)∈oY (V ops) t:=jQ.2 ⟨a,by simp[sD,hd]⟩;rw[h]at this;cases this
theorem Rv{t o i}(h:oY (V ops) t=[(o,i)]):ops[i]?=Z o/\o.dst=Z t/\∀k q,ops[k]?=Z q->k≠i->q.dst≠Z t:=by
 have d:(o,i)∈oY (V ops) t:=by grind
 let⟨a,f⟩:=jQ.1 d;rw[qoL]at a;refine⟨by simpa using a,?_,λ k q e b hd=>?_⟩
 .grind [sD,Nat.eq_of_beq_eq_true]
 .have c:(q,k)∈ops.toList.zipIdx:=by grind
  have:(q,k)∈oY (V ops) t:=jQ.2 ⟨c,by simp[sD,hd]⟩;grind
theorem zy(hT:vX C ops l){t a b}(h:∀k q,a<=k->ops[k]?=Z q->q.dst≠Z t):a<=b->b<=ops.size->(F (V ops) l s0 L b).tm.getD t .dead=(F (V ops) l s0 L a).tm.getD t .dead:=by
 intro f
 induction b with
 |zero=>
   grind
 |succ b i=>
   intro d;by_cases e:a=b+1
   .rw[e]
   .obtain⟨q,c⟩:=gW (ops:=ops) (k:=b);obtain⟨y,_,_,g⟩:=iU hT c;rw[g];grind [Ae]
theorem FT(hT:mY C ex ops l s0){k t b}(hk:k<=ops.size)(h:eI s0.tm ops k t=Z b):(∃ o,(F (V ops) l s0 aR k).tm.getD t .dead = .ptr b o)\/(F (V ops) l s0 aR k).tm.getD t .dead = .tup []\/(F (V ops) l s0 aR k).tm.getD t .dead = .dead:=by
 unfold eI at h;split at h
 case h_2=>cases h
 rename_i u hu;split at h<;>cases h;rename_i off hb
 have key:∀ n k t,k<=ops.size->sG ops n k t=Z u->(∃ o,(F (V ops) l s0 aR k).tm.getD t .dead = .ptr b o)\/(F (V ops) l s0 aR k).tm.getD t .dead = .tup []\/(F (V ops) l s0 aR k).tm.getD t .dead = .dead:=by
  intro n
  induction n with
  | zero=>intro k t _ h;cases h
  | succ n ih =>
    intro k t hk hu;rw[sG]at hu;split at hu
    ·next hw=>cases hu;left;refine⟨off,?_⟩;rw[zy hT.recd (λ k q _ hq=>JA hw hq) (aL _) hk];exact hb
    ·rename_i o i hw;obtain⟨ho,hd,hother⟩:=Rv hw;split at hu
     case h_2=>cases hu
     rename_i u' hop hik;have hik:=bH hik;have hv:=ih i u' (by omega) hu;rw[zy hT.recd (a:=i+1) (λ k q hle hq=>hother k q hq (by omega)) (by omega) hk];obtain⟨y,h1,h2,_⟩:=hT.st i o ho;obtain⟨z,h3,_,hF⟩:=iU hT.recd ho;rw[h1]at h3;cases h3;rw[hF,ag (show aR i=O from rfl),Gk _ _ _ _ hd];split
     ·rcases h2 with⟨_,h2⟩ | ⟨_,h2⟩
      ·unfold OJ at hop;split at hop<;>cases hop
       ·rename_i e;rw[e]at h2;simp[opA,aC]at h2;split at h2<;>try cases h2
        split at h2<;>try cases h2
        split at h2<;>try cases h2
        have hav:aev (F (V ops) l s0 aR i).tm (.tmp u')=(F (V ops) l s0 aR i).tm.getD u' .dead:=rfl;rw[hav]at h2;rcases hv with⟨o',hv⟩ | hv | hv<;>rw[hv]at h2<;>cases h2
        exact .inl ⟨_,rfl⟩
       ·next e=>rw[e]at h2;cases h2;exact hv
       ·next e=>rw[e]at h2;cases h2;exact hv
       ·rename_i e;rw[e]at h2;simp[opA,aC]at h2;have hav:aev (F (V ops) l s0 aR i).tm (.tmp u')=(F (V ops) l s0 aR i).tm.getD u' .dead:=rfl;rw[hav]at h2;rcases hv with⟨o',hv⟩ | hv | hv<;>rw[hv]at h2<;>cases h2
        exact .inl ⟨_,rfl⟩
      ·rw[h2];exact .inr (.inl rfl)
     ·exact .inr (.inr rfl)
    ·cases hu
 exact key 6 k t hk hu
theorem qkZ(hT:mY C ex ops l s0){k i t b}(hk:k<=ops.size)(h:eI s0.tm ops i t=Z b):eI (F (V ops) l s0 aR k).tm ops i t=Z b:=by
 unfold eI at h |-
 split at h
 case h_2=>cases h
 rename_i u hu
 have key:∀ n i t,sG ops n i t=Z u->oY (V ops) u=[]:=by
  intro n
  induction n with
  | zero=>intro i t h;cases h
  | succ n ih =>
    intro i t h;rw[sG]at h;split at h
    ·next hw=>cases h;exact hw
    ·split at h
     ·exact ih _ _ h
     ·cases h
    ·cases h
 rw[zy hT.recd (λ k q _ hq=>JA (key 6 i t hu) hq) (aL _) hk];exact h
theorem ql4(hT:mY C ex ops l s0){k t}(hk:k<=ops.size)(h:na s0.tm ops k t=O):ND ((F (V ops) l s0 aR k).tm.getD t .dead)=O\/(F (V ops) l s0 aR k).tm.getD t .dead = .tup []\/(F (V ops) l s0 aR k).tm.getD t .dead = .dead:=by
 unfold na at h;split at h
 case h_2=>cases h
 rename_i u hu
 have key:∀ n k t,k<=ops.size->sG ops n k t=Z u->ND ((F (V ops) l s0 aR k).tm.getD t .dead)=O\/(F (V ops) l s0 aR k).tm.getD t .dead = .tup []\/(F (V ops) l s0 aR k).tm.getD t .dead = .dead:=by
  intro n
  induction n with
  | zero=>intro k t _ h;cases h
  | succ n ih =>
    intro k t hk hu;rw[sG]at hu;split at hu
    ·next hw=>cases hu;left;rw[zy hT.recd (λ k q _ hq=>JA hw hq) (aL _) hk];exact h
    ·rename_i o i hw;obtain⟨ho,hd,hother⟩:=Rv hw;split at hu
     case h_2=>cases hu
     rename_i u' hop hik;have hik:=bH hik;have hv:=ih i u' (by omega) hu;rw[zy hT.recd (a:=i+1) (λ k q hle hq=>hother k q hq (by omega)) (by omega) hk];obtain⟨y,h1,h2,_⟩:=hT.st i o ho;obtain⟨z,h3,_,hF⟩:=iU hT.recd ho;rw[h1]at h3;cases h3;rw[hF,ag (show aR i=O from rfl),Gk _ _ _ _ hd];split
     ·rcases h2 with⟨_,h2⟩ | ⟨_,h2⟩
      ·unfold OJ at hop;split at hop<;>cases hop
       ·rename_i e;rw[e]at h2;simp[opA,aC]at h2;split at h2<;>try cases h2
        split at h2<;>try cases h2
        split at h2<;>try cases h2
        have hav:aev (F (V ops) l s0 aR i).tm (.tmp u')=(F (V ops) l s0 aR i).tm.getD u' .dead:=rfl;rw[hav]at h2;rcases hv with hv | hv | hv
        ·cases hg:(F (V ops) l s0 aR i).tm.getD u' .dead<;>rw[hg]at hv h2<;>first | (cases hv;done) | (cases h2;exact .inl rfl)
        ·rw[hv]at h2;cases h2
        ·rw[hv]at h2;cases h2
       ·next e=>rw[e]at h2;cases h2;exact hv
       ·next e=>rw[e]at h2;cases h2;exact hv
       ·rename_i e;rw[e]at h2;simp[opA,aC]at h2;have hav:aev (F (V ops) l s0 aR i).tm (.tmp u')=(F (V ops) l s0 aR i).tm.getD u' .dead:=rfl;rw[hav]at h2;rcases hv with hv | hv | hv
        ·cases hg:(F (V ops) l s0 aR i).tm.getD u' .dead<;>rw[hg]at hv h2<;>first | (cases hv;done) | (cases h2;exact .inl rfl)
        ·rw[hv]at h2;cases h2
        ·rw[hv]at h2;cases h2
      ·rw[h2];exact .inr (.inl rfl)
     ·exact .inr (.inr rfl)
    ·cases hu
 exact key 6 k t hk hu
theorem QW{raw}{o:Oper}{t a}(h:o.op=.load t a):cQ raw o.op=Y:=by rw[h];rfl
theorem R8{tm j i o q}(b:cQ C.lo q.op=O)(ho:∀t a,o.op=.load t (.tmp a)->eI tm ops j a=U/\na tm ops j a=Y):pg tm ops j o i q=Y:=by
 grind [pg,si,Bool.or_eq_false_iff,QW]
theorem SH{tm j i o q t a}(ho:o.op=.load t (.tmp a))(h:pg tm ops j o i q=O):(∃d c v x,q.op=.store d (.tmp c) v/\eI tm ops i c=Z x/\((∃y,eI tm ops j a=Z y/\x≠y)\/eI tm ops j a=U/\na tm ops j a=O))\/eI tm ops j a≠U/\(∃as ts,q.op=.call ⟨.builtin .append,as,ts⟩)\/eI tm ops j a≠U/\∃g as ts,q.op=.call ⟨.value g,as,ts⟩:=by
 unfold pg at h;rw[gR]at h;obtain h|h:=h
 .grind [si]
 .unfold si at h;split at h
  .rename_i p s m n r l b;rw[ho]at b;cases b;split at h
   .next x y f e=>exact .inl ⟨_,_,_,x,l,f,.inl ⟨y,e,λ k=>by rw[k]at h;simp at h⟩⟩
   .grind
   .cases h
  .grind
  .grind
  .cases h
theorem KE{raw op}(h:cQ raw op=O):sw raw op=Y:=by
 unfold cQ at h;unfold sw;grind
theorem TG{raw a j i o q}(b:cQ raw o.op=O)(d:cQ raw q.op=O):nD raw a ops j o i q=O:=by
 have c:pg a ops j o i q=Y:=by
  grind [pg,si,QW,Bool.or_eq_false_iff]
 simp only[nD,vq,vj,b,d,KE b,c,wk,pK,mJ,Bl]
theorem qgI{raw}(h:oi raw ops=O):∀i j o q,ops[j]?=Z o->ops[i]?=Z q->i≠j->vy raw ops o q=O->((fO (V ops) []).getD (max i j) 0).testBit (min i j)=O:=by
 have a:∀i o,ops[i]?=Z o->(o,i)∈ops.toList.zipIdx:=λ i o ho=>by
  grind
 simp only[oi,bJ,aK,gR,fF]at h;grind
theorem EN{raw tm}(h:lm raw tm ops=O):oi raw ops=O:=by
 simp only[lm,bJ,aK,cC,gR]at h;simp only[oi,bJ,aK,cC,gR];intro p hp;let⟨c,b⟩:=h p hp;refine⟨c,λ q a=>?_⟩;obtain (g|g)|g:=b q a
 .exact .inl (.inl g)
 .refine .inl (.inr ?_);unfold vy;grind [nD,Bool.or_eq_false_iff,TG]
 .exact .inr g
theorem Od{raw}(hk:oi raw ops=O)(hd:ij ops L){i j o q}(ho:ops[j]?=Z o)(b:ops[i]?=Z q)(a:i≠j)(c:vy raw ops o q=O)(hL:L j=Y)(hp:∀e∈dM o,L e=O):(i<j->L i=O)/\(j<i->L i=Y):=
 LZ hd ho b a (qgI hk i j o q ho b a c) hL hp
def jP(σ:St)(b:Nat):ac (aa AV):=match σ.bx[b]? with
 |Z cs=>match noMc cs with
   |O=>Z cs
   |Y=>U
 |U=>U
def qE(σ:St):aa Row×(Nat->ac (aa AV)):=(σ.rw,jP σ)
theorem Mi{s:S}{op x σ'}(a:sX op=O)(h:opA C ex s.tm s.σ op=Z (x,Z σ')):qE σ'=qE s.σ:=by
 unfold sX at a;split at a<;>try cases a
 rename_i t q;cases q with
 |some q=>simp only[opA]at h;cases h
 |none=>
   simp[opA,aC]at h;split at h<;>cases h;refine Prod.ext rfl (funext λ b=>?_);rename_i d e c i g _;show jP {s.σ with bx:=s.σ.bx++[[.mc d e c [] []]]} b=jP s.σ b;unfold jP;by_cases f:b<I s.σ.bx
   .grind
   .rw[dy (by omega),pL (l:=s.σ.bx) (by omega)];cases b-I s.σ.bx<;>rfl
theorem Ls{d σ b o}:dN d σ (.ptr b o)=match jP σ b with|Z cs=>mj d.agg d.size cs o|U=>U:=by
 simp[dN,jP];grind
theorem qkb{d σ σ' p}(h:qE σ'=qE σ):dN d σ' p=dN d σ p:=by
 have c:σ'.rw=σ.rw:=aY Prod.fst h;have a:jP σ'=jP σ:=aY Prod.snd h;cases p with
 |ptr b o=>rw[Ls,Ls,a]
 |rpt r i o e=>simp[dN,c]
 |_=>rfl
theorem W3{tm σ σ' t x i}(h:σ'.rw=σ.rw):aC C tm σ' (.indexAddr t x i)=aC C tm σ (.indexAddr t x i):=by
 simp[aC,h]
mutual
theorem XG(fb fr:Nat->Nat):∀x:AV,rb (ren fb fr x)=[]->rr (ren fb fr x)=[]->rb x=[]/\rr x=[]
 |.ptr b o,h,_|.mp b,h,_=>by simp[ren,rb]at h
 |.rs ..,_,h|.rpt ..,_,h=>by simp[ren,rr]at h
 |.fn f cs,h,g|.agg cs,h,g|.tup cs,h,g=>GD fb fr cs h g
 |.v _,_,_|.dead,_,_|.sl ..,_,_|.ept ..,_,_|.mc ..,_,_=>⟨rfl,rfl⟩
theorem GD(fb fr:Nat->Nat):∀cs:aa AV,rbL (bB fb fr cs)=[]->rrL (bB fb fr cs)=[]->rbL cs=[]/\rrL cs=[]
 |[],_,_=>⟨rfl,rfl⟩
 |x::cs,h,g=>by
   rw[bB,rbL,mH]at h;rw[bB,rrL,mH]at g;let⟨d,c⟩:=XG fb fr x h.1 g.1;let⟨b,a⟩:=GD fb fr cs h.2 g.2;grind [rbL,rrL]
end
theorem Sk{σ σ':St}{a:aa AV}{c:St->aa AV->ac (AV×ac St)}{r:AV}(m:rbL a=[])(l:rrL a=[])(s:dO r=O)(h:fd σ a c=Z (r,U)):fd σ' a c=Z (r,U):=by
 have i:∀τ:St,dP τ a=[]:=λ τ=>by
  unfold dP;rw[m];show xK τ.bx (I τ.bx) []=[];cases I τ.bx<;>rfl
 have j:∀τ:St,gD τ a=[]:=λ τ=>by
  unfold gD;rw[i,l];rfl
 have p:∀τ:St,ng τ a=O:=λ τ=>by
  unfold ng;rw[i,j,m,l];rfl
 unfold fd at h |-
 rw[p]at h |-
 rw[i,j]at h |-
 simp only at h |-
 have e:bO σ' [] []=bO σ [] []:=rfl;rw[e];cases k:c (bO σ [] []) (bB (λ b=>List.idxOf b []) (λ r=>List.idxOf r []) a)with
 |none=>rw[k]at h;cases h
 |some n=>
 rw[k]at h;let⟨x,o⟩:=n;cases o with
 |some τ=>cases h
 |none=>
   simp only[oA,dF,fo,and_true]at h
   have q:∀(fb fr f d:Nat->Nat),dO (ren fb fr x)=O->ren fb fr x=ren f d x:=λ fb fr f d g=>by
    have g:=g;unfold dO at g;rw[aK,wi,wi]at g;grind [XG,AE]
   grind [oA]
theorem qjn{σ σ' f b x}(y:C.lo f=Y)(h:σ'.rw=σ.rw)(e:mX C ex σ f b=Z (x,U)):mX C ex σ' f b=Z (x,U):=by
 unfold mX at e |-
 rw[y]at e |-
 simp only at e |-
 rw[h];split at e<;>try cases e
 rename_i m d;split at e<;>try cases e
 rename_i D E c;split at e<;>cases e;rename_i i
 have p:rbL (b.map (cS σ.rw))=[]/\rrL (b.map (cS σ.rw))=[]:=by
  generalize b.map (cS σ.rw)=l at d
  induction l with
  |nil=>exact⟨rfl,rfl⟩
  |cons a l u=>
    simp only[noRefs,fm,aK]at d;have g:=d.1;unfold dO at g;rw[aK,wi,wi]at g;let⟨w,v⟩:=u d.2;exact⟨by rw[rbL,g.1,w];rfl,by rw[rrL,g.2,v];rfl⟩
 have r:mW C ex σ' f b=Z (x,U):=by
  unfold mW pt at c |-
  rw[m]at c |-
  rw[h];cases k:b.flatMap rsA with
  |nil=>
    rw[k]at c;exact Sk p.1 p.2 i c
  |cons q l=>
    rw[k]at c;simp only at c |-
    have n:∀o,fd {σ with rw:=frz σ.rw (q::l),wrr:=(q::l)++σ.wrr} (b.map (cS σ.rw)) (λ σ b=>ju C ex σ f b)=Z (o,U)->dO o=O->fd {σ' with rw:=frz σ.rw (q::l),wrr:=(q::l)++σ'.wrr} (b.map (cS σ.rw)) (λ σ b=>ju C ex σ f b)=Z (o,U):=λ o e1 A=>Sk p.1 p.2 A e1;cases j:fd {σ with rw:=frz σ.rw (q::l),wrr:=(q::l)++σ.wrr} (b.map (cS σ.rw)) (λ σ b=>ju C ex σ f b)with
    |none=>rw[j]at c;cases c
    |some z=>
      rw[j]at c;let⟨B,t⟩:=z;cases t with
      |some τ=>cases c
      |none=>
        simp[xL]at c;split at c<;>cases c;next s=>rw[n _ j i];simp[xL,s]
 rw[r];simp[i]
theorem qjw{b σ σ' op x}(c:sw C.lo op=O)(e:qE σ'=qE σ)(h:opA C ex b σ op=Z (x,U)):opA C ex b σ' op=Z (x,U):=by
 have d:σ'.rw=σ.rw:=aY Prod.fst e;unfold sw at c;split at c<;>try cases c
 .rename_i t a;simp[opA,aC]at h |-
  grind [qkb]
 .next t a i=>show aC C b σ' (.indexAddr t a i)=Z (x,U);rw[W3 d];exact h
 .grind [opA,rR,aev,Bool.not_eq_true',qjn]
theorem Sr{β}:∀a (l xs:aa β) b,b<I l->b ∉ a->(dv l a xs)[b]?=l[b]?
 |[],l,xs,b,d,_=>by rw[dv,dY d]
 |c::a,l,[],b,d,_=>rfl
 |c::a,l,x::xs,b,d,e=>by
   rw[dv,Sr a _ xs b (by grind) λ h=>e (aS _ h),jA λ h=>e (by grind)]
theorem qkG{k σ σ' g as ts x}(h:opA C ex k σ (.call ⟨.value g,as,ts⟩)=Z (x,Z σ')){b}(l:b<I σ.bx)(c:b ∉ GQ C k σ (.call ⟨.value g,as,ts⟩)):σ'.bx[b]?=σ.bx[b]?:=by
 simp[opA]at h;simp[GQ]at c;split at h<;>try cases h
 rename_i f d s;rw[s]at c;have c:b ∉ (match C.inl f with|some _=>List.range (I σ.bx)|none=>match pt C σ f (as.toList.map (aev k)++d)with|(a,U)=>dP σ a|(a,Z σ')=>dP σ' a):=c;obtain⟨fn,y,_⟩|h:=JP h
 .grind
 cases j:C.inl f with
 |some fn=>rw[j]at c;exact absurd (nM.2 l) c
 |none=>
 rw[j]at c
 have m:∀{τ i a e z},fd τ a e=Z (z,Z i)->b<I τ.bx->b ∉ dP τ a->i.bx[b]?=τ.bx[b]?:=by
  intro τ i a e z h l c;unfold fd at h;split at h<;>try cases h
  split at h<;>try cases h
  rename_i r v;let⟨u,q⟩:=r;cases q with
  |none=>simp[oA]at h
  |some n=>
    simp[oA,dF,fo]at h;rw[<-h.2];exact Sr _ _ _ _ l c
 unfold mW at h;generalize w:pt C σ f (as.toList.map (aev k)++d)=p at h c;let⟨a,o⟩:=p;cases o with
 |none=>exact m h l c
 |some σ1=>
   have t:σ1.bx=σ.bx:=by
    grind [pt]
   unfold xL at h;grind
theorem qjV{s:S}{q:Oper}{as ts x σ'}(c:q.op=.call ⟨.builtin .append,as,ts⟩)(h:opA C ex s.tm s.σ q.op=Z (x,Z σ')):σ'.bx=s.σ.bx:=by
 rw[c]at h;simp[opA]at h;generalize as.toList.map (aev s.tm)=b at h
 have a:∀k bytes p xs,eG k bytes s.σ p xs=Z (x,Z σ')->σ'.bx=s.σ.bx:=by
  intro k bytes p xs h;unfold eG at h;grind
 unfold iA at h;split at h<;>try cases h
 all_goals repeat' (first|(cases h;done)|exact a _ _ _ _ h|split at h)
theorem Jc{s:S}{q:Oper}{t c v x σ'}(j:q.op=.store t (.tmp c) v)(h:opA C ex s.tm s.σ q.op=Z (x,Z σ')):(∃b o,s.tm.getD c .dead=.ptr b o/\σ'.rw=s.σ.rw/\∀a,a≠b->σ'.bx[a]?=s.σ.bx[a]?)\/∃r i o g,s.tm.getD c .dead=.rpt r i o g:=by
 rw[j]at h;simp[opA,aC]at h;split at h<;>try cases h
 .rename_i d b o hd f;split at h<;>try cases h
  split at h<;>cases h;exact .inl ⟨b,o,f,rfl,λ a e=>by simp[jA (oO e)]⟩
 .next d r i o g hd f=>exact .inr ⟨r,i,o,g,f⟩
section
variable (hR:vX C ops l) (hk:oi C.lo ops=O) (hd:ij ops L) {j:Nat}{o:Oper} (ho:ops[j]?=Z o) (hL:L j=Y) (hp:∀e∈dM o,L e=O)
include hR hk hd ho hL hp
theorem Fq{t}(r:t∈iZ ops o):(F (V ops) l s0 L ops.size).tm.getD t .dead=(F (V ops) l s0 aR j).tm.getD t .dead:=by
 have u:=(dW.1 ho).1
 have f:∀{k q},ops[k]?=Z q->k≠j->q.dst=Z t->(k<j->L k=O)/\(j<k->L k=Y):=λ c n a=>
  Od hk hd ho c n (by simp[vy,a,r]) hL hp
 have i:∀k,k<=j->(F (V ops) l s0 L k).tm.getD t .dead=(F (V ops) l s0 aR k).tm.getD t .dead:=by
  intro k
  induction k with
  |zero=>intro _;rfl
  |succ k d=>
    intro p;obtain⟨q,c⟩:=gW (ops:=ops) (k:=k);obtain⟨y,_,_,g⟩:=iU hR c;rw[g L,g aR,ag (show aR k=O from rfl)];by_cases a:q.dst=Z t
    .rw[ag ((f c (by omega) a).1 (by omega)),Gk _ _ _ _ a,Gk _ _ _ _ a,Ha,Ha]
    .rw[Ae _ _ _ _ a];split
     .rw[Ae _ _ _ _ a];exact d (by omega)
     .exact d (by omega)
 have e:∀m,j+m<=ops.size->(F (V ops) l s0 L (j+m)).tm.getD t .dead=(F (V ops) l s0 L j).tm.getD t .dead:=by
  intro m
  induction m with
  |zero=>intro _;rfl
  |succ m d=>
    intro p;obtain⟨q,c⟩:=gW (ops:=ops) (k:=j+m);obtain⟨y,_,_,g⟩:=iU hR c;show(F (V ops) l s0 L (j+m+1)).tm.getD t .dead=_;rw[g L];split
    .rename_i b;have s:m≠0:=λ h=>by subst h;rw[dE,hL]at b;cases b
     rw[Ae _ _ _ _ λ a=>by have:=(f c (by omega) a).2 (by omega);rw[this]at b;cases b];exact d (by omega)
    .exact d (by omega)
 have:=e (ops.size-j) (by omega);rw[show j+(ops.size-j)=ops.size by omega]at this;rw[this,i j (al _)]
theorem Wk{y}(p:l[j]?=Z y)(n:y.2.isSome=O->cQ C.lo o.op=O):F (V ops) l s0 (λ i=>J (i=j)||L i) ops.size=ck (F (V ops) l s0 L ops.size) o y:=by
 have E:=(dW.1 ho).1;have f:∀k,k≠j->(J (k=j)||L k)=L k:=λ k hk=>by simp[hk]
 have g:F (V ops) l s0 (λ i=>J (i=j)||L i) j=F (V ops) l s0 L j:=G1 j λ i G=>f i (by omega)
 have b:∀m,j+1+m<=ops.size->F (V ops) l s0 (λ i=>J (i=j)||L i) (j+1+m)=ck (F (V ops) l s0 L (j+1+m)) o y:=by
  intro m
  induction m with
  |zero=>
    intro _;obtain⟨z,h,_,c⟩:=iU hR ho;rw[p]at h;cases h;rw[c,c,ag (by simp),g,hL];simp
  |succ m x=>
    intro A;obtain⟨q,s⟩:=gW (ops:=ops) (k:=j+1+m);obtain⟨z,_,B,c⟩:=iU hR s;show F _ _ _ _ (j+1+m+1)=ck (F _ _ _ _ (j+1+m+1)) o y;rw[c,c];have e:=f (j+1+m) (by omega);rw[e,x (by omega)];split
    .rename_i a;refine qjf _ _ _ _ _ (λ d r t=>?_) ?_
     .have:=(Od hk hd ho s (by omega) (by simp[vy,r,iZ,t]) hL hp).2 (by omega);rw[this]at a;cases a
     .cases D:y.2 with
      |none=>exact .inl rfl
      |some σ1=>
        cases h:z.2 with
        |none=>exact .inr rfl
        |some w=>
          have:=(Od hk hd ho s (by omega) (by
           have v:=n (by grind);have u:=B (by grind);simp[vy,v,u,nN,pK]) hL hp).2 (by omega)
          rw[this]at a;cases a
    .rfl
 have:=b (ops.size-(j+1)) (by omega);grind
end
variable (hT:mY C ex ops l s0) (hk:lm C.lo s0.tm ops=O) (hd:ij ops L) {j:Nat}{o:Oper} (ho:ops[j]?=Z o) (hL:L j=Y) (hp:∀e∈dM o,L e=O)
include hT hk hd ho hL hp
theorem qh4(w:(iC o.op||cQ C.lo o.op)=O)(r:sw C.lo o.op=Y)(u:∀t a,o.op=.load t (.tmp a)->eI s0.tm ops j a=U/\na s0.tm ops j a=Y):(F (V ops) l s0 L ops.size).σ=(F (V ops) l s0 aR j).σ:=by
 have z:=(dW.1 ho).1
 have i:∀{k q},ops[k]?=Z q->k≠j->cQ C.lo q.op=O->(k<j->L k=O)/\(j<k->L k=Y):=λ c s d=>
  ord hk hd ho c s (by simp[nD,vq,vj,d,w,r,R8 d u,wk,mJ,pK,Bl]) hL hp
 have p:∀k,k<=j->(F (V ops) l s0 L k).σ=(F (V ops) l s0 aR k).σ:=by
  intro k
  induction k with
  |zero=>intro _;rfl
  |succ k e=>
    intro v;obtain⟨q,c⟩:=gW (ops:=ops) (k:=k);obtain⟨y,_,d,n⟩:=iU hT.recd c;rw[n L,n aR,ag (show aR k=O from rfl)];cases f:y.2 with
    |none=>
      rw[putS_σ _ _ _ f];split
      .rw[putS_σ _ _ _ f];exact e (by omega)
      .exact e (by omega)
    |some σ'=>
      rw[ag ((i c (by omega) (d (by grind))).1 (by omega))];simp[ck,f,turn]
 have g:∀m,j+m<=ops.size->(F (V ops) l s0 L (j+m)).σ=(F (V ops) l s0 L j).σ:=by
  intro m
  induction m with
  |zero=>intro _;rfl
  |succ m e=>
    intro v;obtain⟨q,c⟩:=gW (ops:=ops) (k:=j+m);obtain⟨y,_,d,n⟩:=iU hT.recd c;show(F (V ops) l s0 L (j+m+1)).σ=_;rw[n L];split
    .rename_i b;have x:m≠0:=λ h=>by subst h;rw[dE,hL]at b;cases b
     cases f:y.2 with
     |none=>rw[putS_σ _ _ _ f];exact e (by omega)
     |some σ'=>
       have:=(i c (by omega) (d (by grind))).2 (by omega);rw[this]at b;cases b
    .exact e (by omega)
 have:=g (ops.size-j) (by omega);rw[show j+(ops.size-j)=ops.size by omega]at this;rw[this,p j (al _)]
omit hp in
theorem Kq{W:Type}(c:St->W)(K:cQ C.lo o.op=Y)
  (g:∀{k:Nat}{q:Oper}{y:AV×ac St}{σ':St},ops[k]?=Z q->l[k]?=Z y->k≠j->y.2=Z σ'->cQ C.lo q.op=O->
   ((k<j->L k=O)/\(j<k->L k=Y))\/c σ'=c (F (V ops) l s0 aR k).σ):c (F (V ops) l s0 L ops.size).σ=c (F (V ops) l s0 aR j).σ:=by
 have hj:j<ops.size:=(dW.1 ho).1
 have E:∀k,k<=j->c (F (V ops) l s0 L k).σ=c (F (V ops) l s0 aR k).σ:=by
  intro k
  induction k with
  |zero=>intro _;rfl
  |succ k u=>
    intro N;obtain⟨q,p⟩:=gW (ops:=ops) (k:=k);obtain⟨y,t,Q,A⟩:=iU hT.recd p;rw[A L,A aR,ag (show aR k=O from rfl)];cases d:y.2 with
    |none=>
      rw[putS_σ _ _ _ d];split
      .rw[putS_σ _ _ _ d];exact u (by omega)
      .exact u (by omega)
    |some σ'=>
      rcases g p t (by omega) d (Q (by rw[d];rfl))with h|h
      .rw[ag (h.1 (by omega))];simp[ck,d,turn]
      .have e:∀s:S,(ck s q y).σ=σ':=λ s=>by simp[ck,d,turn]
       rw[e,h];split
       .rw[e,h]
       .exact u (by omega)
 have z:∀m,j+m<=ops.size->c (F (V ops) l s0 L (j+m)).σ=c (F (V ops) l s0 L j).σ:=by
  intro m
  induction m with
  |zero=>intro _;rfl
  |succ m u=>
    intro N;obtain⟨q,p⟩:=gW (ops:=ops) (k:=j+m);obtain⟨y,t,Q,A⟩:=iU hT.recd p;show c (F (V ops) l s0 L (j+m+1)).σ=_;rw[A L];split
    .rename_i f;have hm:m≠0:=λ h=>by subst h;rw[dE,hL]at f;cases f
     cases d:y.2 with
     |none=>rw[putS_σ _ _ _ d];exact u (by omega)
     |some σ'=>
       have x:=Q (by rw[d];rfl);rcases g p t (by omega) d x with h|h
       .have:=h.2 (by omega);rw[this]at f;cases f
       .have e:(ck (F (V ops) l s0 L (j+m)) q y).σ=σ':=by simp[ck,d,turn]
        rw[e,h]
        have G:∀n,j+n<=j+m->c (F (V ops) l s0 aR (j+n)).σ=c (F (V ops) l s0 aR j).σ:=by
         intro n
         induction n with
         |zero=>intro _;rfl
         |succ n v=>
           intro hn;obtain⟨D,b⟩:=gW (ops:=ops) (k:=j+n);obtain⟨y2,w,P,R⟩:=iU hT.recd b;show c (F (V ops) l s0 aR (j+n+1)).σ=_;rw[R aR,ag (show aR (j+n)=O from rfl)];cases i:y2.2 with
           |none=>rw[putS_σ _ _ _ i];exact v (by omega)
           |some B=>
             have a:=P (by rw[i];rfl);by_cases M:n=0
             .subst M;rw[dE]at b;rw[ho]at b;cases b;rw[K]at a;cases a
             rcases g b w (by omega) i a with T|T
             .-- it lies ahead of the other loud one,which has come up
              exfalso;have H:=T.2 (by omega);have X:nD C.lo s0.tm ops (j+m) q (j+n) D=O:=TG x a;have r:=(El hk).2 (j+n) (j+m) q D p b (by omega) X;rw[Nat.max_eq_right (by omega),kP (by omega)]at r;have:=qz hd (j+m) q p (hd (j+m) q p f) r;rw[H]at this;cases this
             .have e2:(ck (F (V ops) l s0 aR (j+n)) D y2).σ=B:=by simp[ck,i,turn]
              rw[e2,T];exact v (by omega)
        rw[G m (al _),E j (al _)]
    .exact u (by omega)
 have:=z (ops.size-j) (by omega);grind
theorem qjv{t a b'}(hop:o.op = .load t (.tmp a))(hbx:eI s0.tm ops j a=Z b'):jP (F (V ops) l s0 L ops.size).σ b'=jP (F (V ops) l s0 aR j).σ b':=by
 have see:∀{σ σ'},σ'.bx[b']? = σ.bx[b']? -> jP σ' b'=jP σ b' := λ h=>by unfold jP;rw[h]
 have hrd:iC o.op=O:=by rw[hop];rfl
 refine Kq hT hk hd ho hL (λ σ => jP σ b') (by rw[hop];rfl) ?_
 show ∀{k q y σ'},ops[k]?=Z q->l[k]?=Z y->k≠j->y.2=Z σ'->cQ C.lo q.op=O ->
  ((k<j->L k=O)/\(j<k->L k=Y))\/jP σ' b'=jP (F (V ops) l s0 aR k).σ b'
 ·intro k q y σ' hq hy hne hy2 hl;by_cases hmk:sX q.op=O
  ·obtain⟨z,hz,hstep,_⟩:=hT.st k q hq;rw[hy]at hz;cases hz;obtain⟨y1,y2⟩:=y;subst hy2;rcases hstep with⟨_,hs⟩ | ⟨_,hs⟩
   ·exact .inr (tj (aY Prod.snd (Mi hmk hs)) b')
   ·cases hs
  cases hap:pg s0.tm ops j o k q with
  | false=>exact .inl (ord hk hd ho hq hne (by simp[nD,vq,vj,hl,hrd,hmk,hap,jz,mJ,nO,pK,Bl]) hL hp)
  | true =>
    obtain⟨z,hz,hstep,_⟩:=hT.st k q hq;rw[hy]at hz;cases hz;obtain⟨y1,y2⟩:=y;subst hy2;rcases SH hop hap with⟨t',c,v,x,h1,h2,h3⟩ | ⟨_,as,ts,h1⟩ | ⟨_,g,as,ts,h1⟩
    case inr.inr =>
     have hsp:=hT.sp k q _ hq hy rfl;have hks:=qU (dW.1 hq).1;rw[h1]at hsp;unfold iX at hstep;unfold ml at hsp;rw[show Mf (.call ⟨.value g,as,ts⟩)=O from rfl,ZF,pM,bJ]at hsp;have hsj:=hsp (o,j) (by grind);simp[hop]at hsj;rw[qkZ hT hks hbx]at hsj;grind [LZ,Nat.max_comm,Nat.min_comm,qkG]
    all_goals right
    case inr.inl =>
     rcases hstep with⟨_,hs⟩ | ⟨_,hs⟩
     ·grind [qjV]
     ·cases hs
    rcases h3 with⟨y',h3,h4⟩ | ⟨h3,_⟩
    case inr=>rw[hbx]at h3;cases h3
    rcases hstep with⟨_,hs⟩ | ⟨_,hs⟩
    ·have hks:=qU (dW.1 hq).1;rcases Jc h1 hs with⟨b,off,g1,_,g2⟩ | ⟨r',i',o',ep',g1⟩
     ·rcases FT hT hks h2 with⟨off',g3⟩ | g3 | g3
      ·grind
      ·rw[g3]at g1;cases g1
      ·rw[g3]at g1;cases g1
     ·rcases FT hT hks h2 with⟨off',g3⟩ | g3 | g3
      ·rw[g3]at g1;cases g1
      ·rw[g3]at g1;cases g1
      ·rw[g3]at g1;cases g1
    ·cases hs
theorem qlm{t a}(hop:o.op = .load t (.tmp a))(hbx:eI s0.tm ops j a=U):(F (V ops) l s0 L ops.size).σ.rw=(F (V ops) l s0 aR j).σ.rw:=by
 have hrd:iC o.op=O:=by rw[hop];rfl
 refine Kq hT hk hd ho hL (λ σ => σ.rw) (by rw[hop];rfl) ?_;intro k q y σ' hq hy hne hy2 hl;by_cases hmk:sX q.op=O
 ·obtain⟨z,hz,hstep,_⟩:=hT.st k q hq;rw[hy]at hz;cases hz;obtain⟨y1,y2⟩:=y;subst hy2;rcases hstep with⟨_,hs⟩ | ⟨_,hs⟩
  ·exact .inr (aY Prod.fst (Mi hmk hs))
  ·cases hs
 cases hap:pg s0.tm ops j o k q with
 | false=>exact .inl (ord hk hd ho hq hne (by simp[nD,vq,vj,hl,hrd,hmk,hap,jz,mJ,nO,pK,Bl]) hL hp)
 | true =>
   obtain⟨z,hz,hstep,_⟩:=hT.st k q hq;rw[hy]at hz;cases hz;obtain⟨y1,y2⟩:=y;subst hy2;rcases SH hop hap with⟨t',c,v,x,h1,h2,_⟩ | ⟨h,_⟩ | ⟨h,_⟩
   case inr.inl=>exact absurd hbx h
   case inr.inr=>exact absurd hbx h
   right;have hks:=qU (dW.1 hq).1;rcases hstep with⟨_,hs⟩ | ⟨_,hs⟩
   ·rcases Jc h1 hs with⟨b,off,g1,g2,_⟩ | ⟨r',i',o',ep',g1⟩
    ·exact g2
    ·rcases FT hT hks h2 with⟨off',g3⟩ | g3 | g3<;>rw[g3]at g1<;>cases g1
   ·cases hs
theorem qi0(d:sw C.lo o.op=O)(g:iC o.op=O)(i:∀t a,o.op=.load t (.tmp a)->eI s0.tm ops j a=U/\na s0.tm ops j a=Y):qE (F (V ops) l s0 L ops.size).σ=qE (F (V ops) l s0 aR j).σ:=by
 refine Kq hT hk hd ho hL qE (by
  cases m:cQ C.lo o.op with
  |false=>rfl
  |true=>rw[KE m]at d;cases d) ?_
 intro k q y σ' p s h e r;by_cases c:sX q.op=O
 .let⟨z,n,b,_⟩:=hT.st k q p;rw[s]at n;cases n;let⟨y1,y2⟩:=y;subst e;obtain⟨_,f⟩|⟨_,f⟩:=b
  .exact .inr (Mi c f)
  .cases f
 .rw[nQ]at c;exact .inl (ord hk hd ho p h (by simp[nD,vq,vj,r,g,c,R8 r i,jz,mJ,nO,pK,Bl]) hL hp)
theorem Va: ∃y,l[j]?=Z y/\iX C ex ops o (F (V ops) l s0 L ops.size) y/\F (V ops) l s0 (λ i=>J (i=j)||L i) ops.size=ck (F (V ops) l s0 L ops.size) o y:=by
 have E:=(dW.1 ho).1;let⟨y,p,w,f⟩:=hT.st j o ho;refine⟨y,p,?_,?_⟩
 .have B:=EF λ t D=>Fq (s0:=s0) hT.recd (EN hk) hd ho hL hp D
  have r:=Ll (C:=C) (ex:=ex) (op:=o.op) (σ:=(F (V ops) l s0 L ops.size).σ) (Ke λ t D=>Fq (s0:=s0) hT.recd (EN hk) hd ho hL hp (by
   grind [iZ]))
  obtain⟨n,c⟩|⟨n,c⟩:=w
  .refine .inl ⟨B.trans n,?_⟩;rw[r];by_cases h:(iC o.op||cQ C.lo o.op)=O
   .by_cases k:∃t a b,o.op=.load t (.tmp a)/\eI s0.tm ops j a=Z b
    .let⟨t,a,b,e1,v⟩:=k;have m:=qjv hT hk hd ho hL hp e1 v;rw[e1]at c |-
     have A:=qU E;simp[opA,aC]at c |-
     split at c<;>try cases c
     have q:aev (F (V ops) l s0 aR j).tm (.tmp a)=(F (V ops) l s0 aR j).tm.getD a .dead:=rfl;rw[q]at c |-
     obtain⟨off,g⟩|g|g:=FT hT A v
     .grind [Ls]
     .rw[g]at c;cases c
     .rw[g]at c;cases c
    .by_cases u:∃t a,o.op=.load t (.tmp a)/\na s0.tm ops j a=O
     .let⟨t,a,e1,v⟩:=u
      have G:=qlm hT hk hd ho hL hp e1 (by
       cases m:eI s0.tm ops j a with
       |none=>rfl
       |some b=>exact absurd ⟨t,a,b,e1,m⟩ k)
      rw[e1]at c |-
      simp[opA,aC]at c |-
      split at c<;>try cases c
      have q:aev (F (V ops) l s0 aR j).tm (.tmp a)=(F (V ops) l s0 aR j).tm.getD a .dead:=rfl;rw[q]at c |-
      obtain g|g|g:=ql4 hT (qU E) v
      .cases H:(F (V ops) l s0 aR j).tm.getD a .dead<;>rw[H]at g c<;>first|(cases g;done)|skip
       .grind [dN]
       .exact c
      .rw[g]at c;cases c
      .rw[g]at c;cases c
     .have s:∀t a,o.op=.load t (.tmp a)->eI s0.tm ops j a=U/\na s0.tm ops j a=Y:=λ t a n=>⟨by
        cases m:eI s0.tm ops j a with
        |none=>rfl
        |some b=>exact absurd ⟨t,a,b,n,m⟩ k,by
        cases m:na s0.tm ops j a with
        |false=>rfl
        |true=>exact absurd ⟨t,a,n,m⟩ u⟩
      cases d:sw C.lo o.op with
      |false=>rw[qh4 hT hk hd ho hL hp h d s];exact c
      |true=>
        have e:cQ C.lo o.op=Y:=by
         cases e:cQ C.lo o.op with
         |false=>rfl
         |true=>rw[KE e]at d;cases d
        rw[e,Bool.or_false]at h;have q:=qi0 hT hk hd ho hL hp d h s;let⟨x,z⟩:=y;cases z with
        |some σ'=>have:=f rfl;rw[e]at this;cases this
        |none=>exact qjw d q c
   .simp at h;let⟨x,z⟩:=y;cases z with
    |none=>exact Vr h.1 h.2 c
    |some σ'=>have:=f rfl;rw[h.2]at this;cases this
  .exact .inr ⟨B.trans n,c⟩
 .exact Wk hT.recd (EN hk) hd ho hL hp p f
theorem KN:∃y,iX C ex ops o (F (V ops) l s0 L ops.size) y/\F (V ops) l s0 (λ i=>J (i=j)||L i) ops.size=ck (F (V ops) l s0 L ops.size) o y:=by
 grind [Va]
end
end
end Go.AmZ
