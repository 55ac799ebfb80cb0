/- Part 1 of what the proofs stand on: plain functions of the program, and that they are its functions. -/
import Derived.WalkKit
import Derived.WalkSpells
import Derived.WalkLawsBesides
import Derived.Lib.Hide
import Derived.Laws.AppendOwnNone
import Derived.BigQuiet
import Derived.Laws.CopyRow
import Derived.Laws.Pointers
import Derived.Laws.Small
import Derived.Laws.Tables
import Derived.ArgAppend
import Derived.Laws.AppendOwn
import Derived.Laws.MakeOwn
import Derived.Laws.BytesArg
import Derived.Deep.Upon
import Derived.Lib.ConvBytes
import Derived.Laws.StructEq
import Derived.MapKept
import Derived.Laws.Sem
import Derived.Orders
set_option linter.unusedVariables false
set_option linter.unusedSimpArgs false
set_option linter.defProp false
noncomputable section
open Option renaming some->Z,none->U
open Bool renaming true->O,false->Y
open Decidable renaming decide->J
open List renaming length->X
open Array renaming toList->V
open Go renaming Value->aj,World->aA,TypeId->aQ,Program->aZ,Operand->bw,FuncId->cI,BinOp->mJ
namespace Go
abbrev aa:=@List
abbrev ab:=@Option
abbrev aL:=@Array
abbrev aN:=@UInt8
abbrev io:=@ByteArray
abbrev ae:=@if_neg
abbrev af:=@if_pos
abbrev ak:=@Nat.le_refl
abbrev aG:=@Nat.zero_le
abbrev aJ:=@Bool.and_eq_true
abbrev aK:=@List.mem_of_getElem?
abbrev aM:=@List.length_append
abbrev aR:=@List.mem_append
abbrev aS:=@List.getElem?_eq_getElem
abbrev aT:=@List.mem_cons_of_mem
abbrev aU:=@List.map_cons
abbrev aX:=@List.mem_cons_self
abbrev bg:=@decide_eq_true
abbrev bi:=@List.mem_cons
abbrev bj:=@List.length_take
abbrev bv:=@decide_eq_false
abbrev bz:=@List.all_eq_true
abbrev bA:=@List.append_assoc
abbrev bB:=@congrArg
abbrev bE:=@List.length_cons
abbrev bF:=@List.mem_map
abbrev bG:=@of_decide_eq_true
abbrev bH:=@List.drop_zero
abbrev bK:=@List.append_nil
abbrev bL:=@Nat.le_trans
abbrev bO:=@List.length_map
abbrev bR:=@List.drop_length
abbrev bS:=@Nat.zero_add
abbrev bZ:=@Nat.mul_le_mul_right
abbrev cm:=@Nat.eq_of_beq_eq_true
abbrev cv:=@Bool.true_and
abbrev cH:=@decide_eq_true_eq
abbrev cQ:=@List.mem_singleton
abbrev cR:=@List.eq_nil_of_length_eq_zero
abbrev cV:=@decide_eq_true_iff
abbrev df:=@List.getElem?_map
abbrev dg:=@List.take_length
abbrev dl:=@Nat.lt_of_lt_of_le
abbrev dq:=@List.getElem?_append_left
abbrev dy:=@List.all_cons
abbrev dz:=@List.getD_eq_getElem?_getD
abbrev dM:=@Nat.add_mul
abbrev dN:=@List.take_add_one
abbrev dP:=@Nat.add_zero
abbrev dQ:=@Option.some.injEq
abbrev ej:=@List.getElem?_append_right
abbrev eB:=@Nat.le_succ
abbrev eC:=@Array.getElem?_eq_some_iff
abbrev eD:=@Bool.not_eq_true'
abbrev eI:=@Nat.add_assoc
abbrev eJ:=@List.length_nil
abbrev eK:=@List.map_append
abbrev eY:=@Nat.not_lt_zero
abbrev eZ:=@List.nil_append
abbrev fc:=@Prod.mk.injEq
abbrev ft:=@List.getElem?_eq_some_iff
abbrev fw:=@List.length_set
abbrev fM:=@List.getElem?_take
abbrev fX:=@List.getElem_mem
abbrev fY:=@List.mem_of_mem_take
abbrev fZ:=@List.length_drop
abbrev gc:=@List.sum_cons
abbrev gx:=@List.getElem?_set_self
abbrev gz:=@Array.getElem?_eq_getElem
abbrev gA:=@Array.getElem?_toList
abbrev gO:=@Bool.or_eq_true
abbrev gP:=@Nat.le_of_ble_eq_true
abbrev ib:=@List.mem_of_mem_drop
abbrev ic:=@List.size_toArray
abbrev ig:=@Array.length_toList
abbrev ij:=@decide_true
abbrev im:=@List.length_singleton
abbrev iJ:=@List.getElem?_drop
abbrev iX:=@Bool.eq_iff_iff
abbrev iY:=@List.mem_map_of_mem
abbrev jp:=@Option.some.inj
abbrev jq:=@beq_eq_false_iff_ne
abbrev jO:=@Nat.succ_mul
abbrev jP:=@List.foldl_cons
abbrev jQ:=@List.map_map
abbrev jR:=@Nat.min_eq_left
abbrev jS:=@List.mem_range
abbrev jT:=@Int.toNat_natCast
abbrev kG:=@Nat.zero_mul
abbrev kH:=@Nat.le_add_right
abbrev kI:=@List.mem_flatMap
abbrev kJ:=@List.mem_filter
abbrev kK:=@List.getElem?_set_ne
abbrev kM:=@Array.getD_eq_getD_getElem?
abbrev lC:=@List.nodup_nil
abbrev lD:=@Bool.false_ne_true
abbrev lE:=@Bool.and_self
abbrev mC:=@Ne.symm
abbrev mD:=@List.getElem?_of_mem
abbrev mE:=@Bool.false_and
abbrev mF:=@Nat.sub_self
abbrev mG:=@List.filterMap_append
abbrev mH:=@List.pairwise_cons
abbrev mI:=@List.mem_flatten
abbrev ny:=@Option.map_some
abbrev nz:=@List.append_eq_nil_iff
abbrev nA:=@List.mem_append_right
abbrev nC:=@List.mem_append_left
abbrev nD:=@List.mem_filterMap
abbrev oq:=@List.getElem?_set
abbrev ot:=@List.take_append_drop
abbrev ou:=@List.flatten_cons
abbrev ov:=@List.nodup_cons
abbrev ow:=@Bool.and_true
abbrev ox:=@List.getElem?_eq_none
abbrev oy:=@Bool.eq_false_iff
abbrev pg:=@List.isEmpty_iff
abbrev ph:=@Nat.le_of_lt
abbrev pi:=@Bool.false_or
abbrev pj:=@Nat.ble_eq_true_of_le
abbrev pn:=@getElem!_pos
abbrev pq:=@decide_eq_false_iff_not
abbrev qB:=@Nat.mod_eq_of_lt
abbrev qC:=@List.ext_getElem?
abbrev qD:=@List.flatMap_eq_nil_iff
abbrev qE:=@List.take_of_length_le
abbrev qF:=@List.filterMap_cons
abbrev si:=@Nat.mod_lt
abbrev sj:=@Nat.succ_pos
abbrev sk:=@List.length_replicate
abbrev sn:=@List.flatMap_cons
abbrev sq:=@List.not_mem_nil
abbrev ss:=@List.map_congr_left
abbrev sw:=@congrFun
abbrev vL:=@Nat.mul_comm
abbrev vM:=@Nat.add_sub_cancel_left
abbrev vN:=@Option.map_none
abbrev vO:=@Array.size_append
abbrev vP:=@Bool.true_or
abbrev vQ:=@Bool.not_eq_true
abbrev vR:=@List.getElem?_take_of_lt
abbrev vS:=@Nat.lt_succ_self
abbrev vU:=@Nat.succ_le_succ
abbrev vV:=@List.take_append_of_le_length
abbrev vW:=@List.length_range
abbrev vX:=@List.any_cons
abbrev vY:=@List.pairwise_iff_getElem
abbrev yH:=@List.length_eq_zero_iff
abbrev yI:=@Bool.false_eq_true
abbrev yJ:=@if_false
abbrev yK:=@if_true
abbrev yL:=@Array.toList_append
abbrev yM:=@Array.toList_replicate
abbrev yN:=@Bool.and_false
abbrev yO:=@Classical.byContradiction
abbrev yP:=@List.drop_eq_getElem_cons
abbrev yQ:=@Decidable.of_not_not
abbrev BM:=@List.getElem?_toArray
abbrev BN:=@Array.toList_map
abbrev BO:=@Nat.mul_one
abbrev BP:=@List.length_pos_iff
abbrev BQ:=@Bool.or_eq_false_iff
abbrev BR:=@Bool.not_false
abbrev BS:=@Bool.or_true
abbrev BT:=@Nat.ne_of_lt
abbrev BU:=@Function.comp_def
abbrev BW:=@List.cons_append
abbrev BX:=@Nat.le_of_eq
abbrev BY:=@Int.eq_ofNat_of_zero_le
abbrev BZ:=@Nat.sub_mul
abbrev B0:=@List.take_take
abbrev B1:=@beq_iff_eq
abbrev B2:=@or_assoc
abbrev B3:=@List.nodup_append
abbrev B4:=@List.forall_mem_cons
abbrev Ju:=@List.map_nil
abbrev Jv:=@List.getElem?_append
abbrev Jw:=@Nat.div_add_mod
abbrev Jx:=@Nat.one_mul
abbrev Jy:=@Array.toList_setIfInBounds
abbrev Jz:=@Int.le_refl
abbrev JA:=@List.flatMap_map
abbrev JB:=@Array.getElem?_replicate
abbrev JC:=@Nat.beq_refl
abbrev JD:=@List.getElem?_cons_zero
abbrev JE:=@cond_false
abbrev JF:=@List.filterMap_cons_some
abbrev JG:=@Array.getElem?_setIfInBounds
abbrev JH:=@List.take_zero
abbrev Qq:=@Nat.mul_pos
abbrev Qs:=@Nat.lt_of_le_of_lt
abbrev Qt:=@Nat.div_lt_iff_lt_mul
abbrev Qu:=@Nat.le_max_left
abbrev Qv:=@Nat.eq_zero_or_pos
abbrev Qw:=@Array.getElem?_modify
abbrev Qx:=@List.take_set_of_le
abbrev Qy:=@Array.toArray_toList
abbrev Qz:=@List.zipIdx_cons
abbrev QB:=@Nat.add_right_comm
abbrev QC:=@Nat.blt_eq
abbrev QD:=@List.filter_cons_of_neg
abbrev QE:=@List.filter_cons_of_pos
abbrev QF:=@List.any_eq_true
abbrev QG:=@List.all_map
abbrev QH:=@List.filterMap_cons_none
abbrev QI:=@Nat.succ_lt_succ
abbrev QJ:=@Nat.mul_le_mul
abbrev QK:=@List.cons_ne_nil
abbrev QM:=@Array.size_range
abbrev QN:=@List.getElem!_eq_getElem?_getD
abbrev QO:=@UInt8.lt_iff_toNat_lt
abbrev QQ:=@List.foldl_append
abbrev QR:=@List.flatten_append
abbrev QS:=@Option.getD_some
abbrev QT:=@List.getElem_eq_iff
abbrev QU:=@Classical.not_not
abbrev QV:=@List.cons.inj
abbrev QW:=@List.drop_eq_nil_of_le
abbrev qbP:=@List.length_modify
abbrev qbQ:=@Nat.le_max_right
abbrev qbR:=@List.getElem?_eq_none_iff
abbrev qbS:=@Nat.lt_or_ge
abbrev qbT:=@Array.size_setIfInBounds
abbrev qbU:=@List.drop_set_of_lt
abbrev qbV:=@Nat.lt_irrefl
abbrev qbW:=@List.flatMap_def
abbrev qbX:=@List.getElem?_modify
abbrev qbY:=@Bool.not_true
abbrev qbZ:=@Nat.add_comm
abbrev qb0:=@List.getElem?_cons_succ
abbrev qb1:=@List.filter_nil
abbrev qb2:=@List.getElem?_range
abbrev qb3:=@List.countP_replicate
abbrev qb4:=@Nat.lt_of_not_le
abbrev qb5:=@Nat.add_sub_cancel
abbrev qb6:=@Option.map_eq_some_iff
abbrev qb7:=@Bool.and_eq_false_iff
abbrev qb8:=@Nat.min_self
abbrev qb9:=@Array.getElem?_append_left
abbrev qca:=@Array.size_mapIdx
abbrev qcb:=@Nat.mul_le_mul_left
abbrev qcc:=@List.mem_of_find?_eq_some
abbrev qcd:=@List.find?_cons
abbrev qce:=@List.pairwise_singleton
abbrev qcf:=@Nat.le_mul_of_pos_left
abbrev qcg:=@List.length_filter_le
abbrev qch:=@List.range_succ_eq_map
abbrev qci:=@List.all_append
abbrev qcj:=@List.pairwise_map
abbrev qck:=@Nat.mul_succ
abbrev qse:=@Nat.mul_sub_right_distrib
abbrev qsf:=@List.eq_of_mem_replicate
abbrev qsg:=@List.mem_zipIdx_iff_getElem?
abbrev qsh:=@Array.getElem?_setIfInBounds_self_of_lt
abbrev qsi:=@List.length_eq_one_iff
abbrev qsj:=@List.filter_eq_nil_iff
abbrev qsk:=@List.set_eq_take_append_cons_drop
abbrev qsl:=@List.contains_iff_mem
abbrev qsm:=@Option.isSome_iff_exists
abbrev qsn:=@Array.getElem?_mapIdx
abbrev qso:=@List.sublist_flatten_of_mem
abbrev qsp:=@List.mem_iff_getElem?
abbrev qsq:=@Bool.eq_false_or_eq_true
abbrev qsr:=@List.nodup_iff_pairwise_ne
theorem ifN{c:Prop}[Decidable c]{α:Sort _}{a b:α}(h:¬c:=by omega):(if c then a else b)=b:=if_neg h
theorem ifP{c:Prop}[Decidable c]{α:Sort _}{a b:α}(h:c:=by omega):(if c then a else b)=a:=if_pos h
end Go
namespace Go.GxZ
open Go.RowKit
def qnV{α:Type}(e:Ask α):∀w:aA,w.drawn<=(w.ask e).2.drawn:=by
 induction e with
 |done a=>exact λ w=>ak _
 |ask c b k d=>
   intro w;unfold World.ask;grind
def qmm(w:aA)(c:Sys):w.drawn<=(w.sys c).2.drawn:=by
 have h:=qnV (Kernel.perform c w.os) w;unfold World.sys;grind
def qnz{p:aZ}{w w':aA}{a:Addr}{v:aj}{b:Bool}{l:aa Addr}(h:w.farStore p a v b=.ok (w',l)):w'.drawn=w.drawn:=by
 unfold World.farStore at h;split at h
 .split at h
  .rename_i r c;cases h;unfold World.viewStore at c;simp only[bind,Except.bind,pure,Except.pure,throw,throwThe,MonadExceptOf.throw]at c
   repeat' split at c
   all_goals first|(cases c;done)|(cases c;rfl)|skip
  .cases h
 .cases h
def run_drawn{p:aZ}{α : Type}(e:Sem α):∀{w w':aA} {a : α},e.run p w = .ok a w'->w.drawn<=w'.drawn:=by
 induction e with
 | pure a=>intro w w' b h;cases h;exact ak _
 | load m a k d =>
   intro w w' b h;simp only[Sem.run]at h;grind
 | store m a v k d =>
   intro w w' b h
   cases v<;>simp only[Sem.run]at h<;>first
    | (cases h;done)
    | (split at h
       ·split at h
        ·cases h
        ·have:=d h;exact this
       ·split at h
        ·next f=>have:=d h;rw[qnz f]at this;exact this
        ·cases h)
 | new o k d=>intro w w' b h;simp only[Sem.run]at h;have:=d _ h;exact this
 | shape r k d=>intro w w' b h;simp only[Sem.run]at h;exact d _ h
 | freeze a n k d =>
   intro w w' b h;simp only[Sem.run]at h;have:=d h;have e:(w.freeze a n).drawn=w.drawn:=by unfold World.freeze;split<;>rfl
   rw[e]at this;exact this
 | frozen a k d=>intro w w' b h;simp only[Sem.run]at h;exact d _ h
 | getObj r k d =>
   intro w w' b h;simp only[Sem.run]at h;grind
 | setObj r o k d =>
   intro w w' b h;simp only[Sem.run]at h;grind
 | choose q k d =>
   intro w w' b h;simp only[Sem.run]at h;grind
 | sys c k d =>
   intro w w' b h;simp only[Sem.run]at h;exact bL (qmm w c) (d _ h)
 | program k d=>intro w w' b h;simp only[Sem.run]at h;exact d _ h
 | mark m k d=>intro w w' b h;simp only[Sem.run]at h;exact d h
 | halt h=>intro w w' b h;simp only[Sem.run]at h;cases h
structure qrZ (B:Nat) (w:aA) where
 val:aA
 below:Below B w val
instance (B:Nat)(w:aA):Nonempty (qrZ B w):=⟨⟨w,Below.refl _ _⟩⟩
end Go.GxZ
namespace Go.AmZ
open GxZ
inductive KC where
 |str|int (k:IntKind)|bool
 deriving DecidableEq
inductive AV where
 |v (x:aj)
 |dead
 |sl (k:Nat) (es:List (List AV)) (lv:Nat)
 |rs (r lo n ep:Nat) (full:Bool)
 |ptr (b o:Nat)
 |rpt (r i o ep:Nat)
 |ept (cs:List AV) (o:Nat)
 |fn (f:cI) (caps:List AV)
 |agg (cs:List AV)
 |tup (vs:List AV)
 |mp (b:Nat)
 |mc (kc:List KC) (ka va:Bool) (ks vs:List (List AV))
 deriving Inhabited
structure Row where
 k:Nat
 c:List (List AV)
 ver:Nat
 fz:Nat
 off:Bool
structure St where
 bx:List (List AV)
 rw:List Row
 wr:List Nat
 wrr:List Nat
structure S where
 tm:List AV
 I:St
inductive TK where
 |other|bool|int (k:IntKind)|string|ptr|slice (e esz ebytes:Nat) (ez:List aj)|struct (fs:List (Nat×Nat×Bool))|array (n e esz:Nat)|map (kc:List KC) (ka va:Bool) (vn:Nat) (vz:List aj)
structure TD where
 size:Nat
 bytes:Nat
 agg:Bool
 zero:List aj
 k:TK
def rR:TypeDesc->Bool
 |.struct _|.array _ _=>O
 |_=>Y
def fieldsOf(P:aZ):aa Field->ab (aa (Nat×Nat×Bool))
 |[]=>Z []
 |f::a=>match P.info? f.type,P.underlying f.type,fieldsOf P a with
   |Z i,Z u,Z l=>Z ((f.offset,i.size,rR u)::l)
   |_,_,_=>U
def qbz:aj->Bool
 |.agg _=>O
 |_=>Y
def kc1(P:aZ)(t:aQ):ab KC:=match P.underlying t with
 |Z .string=>Z .str
 |Z (.int k)=>Z (.int k)
 |Z .bool=>Z .bool
 |_=>U
def kcs(P:aZ):aa Field->Nat->ab (aa KC)
 |[],_=>Z []
 |f::a,o=>match J (f.offset=o/\f.name≠"_"),kc1 P f.type,kcs P a (o+1)with
   |O,Z c,Z l=>Z (c::l)
   |_,_,_=>U
def ni(P:aZ)(t:aQ):ab (aa KC×Bool):=match P.underlying t with
 |Z (.struct a)=>match P.stoodInHeld t,kcs P (V a) 0 with
   |Y,Z l=>Z (l,O)
   |_,_=>U
 |_=>match kc1 P t with
   |Z c=>Z ([c],Y)
   |U=>U
def A7(P:aZ)(k e:aQ):ab TK:=match ni P k,P.info? e,P.underlying e with
 |Z (a,b),Z i,Z u=>match i.zero with
   |Z z=>match qbz z,rR u with
     |O,O=>Z (.map a b O i.size (V z.cells))
     |Y,Y=>Z (.map a b Y i.size (V z.cells))
     |_,_=>Z .other
   |U=>Z .other
 |_,_,_=>Z .other
def qrQ:TK->Bool
 |.other|.map .. => O
 |_=>Y
def uF{P:aZ}{k e:aQ}{x:TK}(h:A7 P k e=Z x):qrQ x=O:=by
 unfold A7 at h
 repeat' split at h
 all_goals cases h;rfl
def fW(P:aZ):TypeDesc->ab TK
 |.bool=>Z .bool
 |.int k=>Z (.int k)
 |.string=>Z .string
 |.pointer _=>Z .ptr
 |.slice e=>match P.info? e with
   |Z i=>match i.zero with
     |Z z=>Z (.slice e i.size i.bytes (V z.cells))
     |U=>U
   |U=>U
 |.struct a=>(fieldsOf P (V a)).map .struct
 |.array n e=>match P.info? e with
   |Z i=>Z (.array n e i.size)
   |U=>U
 |.map k e=>A7 P k e
 |_=>Z .other
def cz(P:aZ)(t:aQ):ab TD:=
 match P.info? t,P.underlying t with
 |Z i,Z u=>match i.zero,fW P u with
   |Z z,Z k=>Z ⟨i.size,i.bytes,rR u,V z.cells,k⟩
   |_,_=>U
 |_,_=>U
def iw(k:IntKind)(n:Int):Int:=k.wrap n
def aw(a b:Int):Int:=a+b
def eT(a b:Int):Int:=a-b
def qs(a b:Int):Int:=a*b
def Jf(a b:Int):Int:=a.tdiv b
def Jq(a b:Int):Int:=a.tmod b
def ieq(a b:Int):Bool:=a==b
def ilt(a b:Int):Bool:=J (a<b)
def ile(a b:Int):Bool:=J (a<=b)
def pb(a b:Int):Int:=if a<b then b else a
def OT(a b:Int):Int:=if b<a then b else a
def qx(op:mJ)(k:IntKind)(a b:Int):Int:=
 match op with
 |.and=>k.wrap (BitVec.ofInt k.bits a&&&BitVec.ofInt k.bits b).toNat
 |.or=>k.wrap (BitVec.ofInt k.bits a|||BitVec.ofInt k.bits b).toNat
 |.xor=>k.wrap (BitVec.ofInt k.bits a ^^^ BitVec.ofInt k.bits b).toNat
 |_=>k.wrap (BitVec.ofInt k.bits a &&& ~~~BitVec.ofInt k.bits b).toNat
def PZ(k:IntKind)(a b:Int):Int:=k.wrap (a*2^(min b.toNat k.bits))
def nh(k:IntKind)(a b:Int):Int:=a.fdiv (2^(min b.toNat k.bits))
def ap(a:Bool):Bool := !a
def dj(a b:Bool):Bool:=a==b
def xeq(a b:io):Bool:=V a.data==V b.data
def xlt(a b:io):Bool:=Op.bytesLess (V a.data) (V b.data)
def rY(a b:Bool):Bool:=a||b
def Jo(a b:io):ab io:=if((a.size+b.size:Nat):Int)>IntKind.i64.max then U else Z (a++b)
def ql(a:io):Nat:=a.size
def Ji(s:io)(j:Int):ab Int:=if 0<=j then(match s.data.toList[j.toNat]? with
 |Z b=>Z b.toNat
 |U=>U)else U
def Br(s:io)(l h:Nat):io:=s.extract l h
def bnd(y:Nat)(i:Int):ab Nat:=if 0<=i/\i<=y then Z i.toNat else U
def fS(a:aa (aa AV)):Nat:=X a
def yE(a:aa (aa AV))(j:Int):ab (aa AV):=if 0<=j then a[j.toNat]? else U
def Ja(a:aa (aa AV))(l h:Nat):aa (aa AV):=(a.take h).drop l
def bJ(a b:Nat):Bool:=J (a=b)
def lv1:Nat->Nat
 |0=>0
 |_+1=>1
def lvS(f:Nat)(b:Bool):Nat:=match J (1<f)&&b with|O=>2|Y=>1
def pos(n:Nat):Bool:=J (0<n)
def br:AV->Bool
 |.v _|.sl _ _ _|.mc .. => O
 |_=>Y
def uni(k:Nat)(a:aa (aa AV)):Bool:=a.all λ e=>J (X e=k)&&e.all br
def vk(R:Row)(k lo n a:Nat):ab (aa (aa AV)):=if R.k=k/\R.ver=a/\lo+n<=X R.c then Z ((R.c.drop lo).take n)else U
def IP(R:Row)(k lo n a:Nat)(j:Int):ab Nat:=if R.k=k/\0<=j/\j<n/\R.ver=a/\lo+n<=X R.c then Z (lo+j.toNat)else U
def yb(R:Row)(i a:Nat):ab (aa AV):=if R.ver=a then R.c[i]? else U
def Bm(R:Row)(k lo n a:Nat)(f:Bool)(bytes:Nat)(xs:aa (aa AV)):ab (Row×Nat):=
 if R.k=k/\R.ver=a/\n=X R.c/\lo=0/\f=Y/\R.fz<=X R.c/\(n+X xs)*bytes<=2^47/\n+X xs<2^62 then Z ({R with c:=R.c++xs,ver:=R.ver+1},n+X xs)else U
def rowNew(k bytes:Nat)(xs:aa (aa AV)):ab (Row×Nat):=if X xs*bytes<=2^47/\X xs<2^62 then Z (⟨k,xs,0,0,Y⟩,X xs)else U
def IJ(R:Row)(k lo n a l:Nat):ab Row:=
 if R.k=k/\R.ver=a/\n=X R.c/\lo=0/\l<=n/\R.fz<=X R.c then Z {R with c:=R.c.drop l,ver:=R.ver+1,fz:=R.fz-l,off:=O}else U
def xW(R:Row)(i o a size:Nat)(xs:aa AV):ab Row:=match J (R.ver=a/\R.fz<=i/\o+size<=R.k/\X xs=size/\R.off=Y)&&xs.all br,R.c[i]? with
 |O,Z e=>Z {R with c:=R.c.set i (e.take o++(xs++e.drop (o+size)))}
 |_,_=>U
def oK(b:io):aa (aa AV):=b.data.toList.map λ c=>[.v (.int .u8 c.toNat)]
def OC:aa AV->ab aN
 |[.v (.int .u8 n)]=>Z (UInt8.ofNat n.toNat)
 |_=>U
def xV:aa (aa AV)->ab (aa aN)
 |[]=>Z []
 |e::l=>match OC e,xV l with
   |Z b,Z r=>Z (b::r)
   |_,_=>U
def A6:AV->Bool
 |.ptr _ _|.rpt _ _ _ _|.ept _ _=>O
 |_=>Y
def BL:AV->Bool
 |.v (.pointer U)=>O
 |_=>Y
def yD:ab TD->Bool
 |Z ⟨_,_,_,_,.int .u8⟩=>O
 |_=>Y
def oa(a xs:aa (aa AV)):aa (aa AV):=a++xs
def qv(R:Row):Row:={R with fz:=max R.fz (X R.c)}
def cj:aj->Bool
 |.bool _|.int _ _|.string _|.pointer U|.slice U 0 0|.map U|.nilFunc|.nilIface=>O
 |_=>Y
def ofC(x:aj):AV:=match cj x with|O=>.v x|Y=>.dead
def Ie:aj->AV
 |.agg cs=>match cs.toList.all cj with
   |O=>.agg (cs.toList.map .v)
   |Y=>.dead
 |.tuple vs=>match V vs with
   |[]=>.tup []
   |_=>.dead
 |x=>ofC x
def aev(tm:aa AV):bw->AV
 |.tmp t=>tm.getD t .dead
 |.const x=>Ie x
 |.func f=>.fn f []
 |.global _=>.dead
def cellsOf:AV->aa AV
 |.agg cs=>cs
 |x=>[x]
def isC:AV->Bool
 |.agg _|.tup _|.dead=>Y
 |_=>O
def elems(rw:aa Row)(k:Nat):AV->ab (aa (aa AV))
 |.v (.slice U 0 0)=>Z []
 |.sl a b _=>match bJ a k with
   |O=>Z b
   |Y=>U
 |.rs r lo n c _=>match rw[r]? with
   |Z R=>vk R k lo n c
   |U=>U
 |_=>U
def bC(rw:aa Row):AV->AV
 |.sl k a f=>.sl k a (lv1 f)
 |.rs r lo n b _=>match rw[r]? with
   |Z R=>match vk R R.k lo n b with
     |Z a=>.sl R.k a 1
     |U=>.dead
   |U=>.dead
 |x=>x
def cE(rw:aa Row):AV->AV
 |.agg cs=>.agg (cs.map (bC rw))
 |x=>bC rw x
def rsC:AV->aa Nat
 |.rs r _ _ _ _=>[r]
 |_=>[]
def rsA:AV->aa Nat
 |.agg cs=>cs.flatMap rsC
 |x=>rsC x
def frz(rw:aa Row)(a:aa Nat):aa Row:=a.foldl (λ l r=>l.modify r qv) rw
mutual
def rb:AV->aa Nat
 |.ptr b _|.mp b=>[b]
 |.fn _ cs|.agg cs|.tup cs=>rbL cs
 |_=>[]
def rbL:aa AV->aa Nat
 |[]=>[]
 |x::l=>rb x++rbL l
end
mutual
def rr:AV->aa Nat
 |.rs r _ _ _ _|.rpt r _ _ _=>[r]
 |.fn _ cs|.agg cs|.tup cs=>rrL cs
 |_=>[]
def rrL:aa AV->aa Nat
 |[]=>[]
 |x::l=>rr x++rrL l
end
mutual
def ren(fb fr:Nat->Nat):AV->AV
 |.ptr b o=>.ptr (fb b) o
 |.mp b=>.mp (fb b)
 |.rs r lo n a f=>.rs (fr r) lo n a f
 |.rpt r i o a=>.rpt (fr r) i o a
 |.fn f cs=>.fn f (bt fb fr cs)
 |.agg cs=>.agg (bt fb fr cs)
 |.tup cs=>.tup (bt fb fr cs)
 |x=>x
def bt(fb fr:Nat->Nat):aa AV->aa AV
 |[]=>[]
 |x::l=>ren fb fr x::bt fb fr l
end
def refs(nb a:Nat)(x:AV):Bool:=(rb x).any (λ b=>J (nb<=b))||(rr x).any λ r=>J (a<=r)
def vx (b:Nat) (rw:aa Row):AV->AV
 | .sl k c f => .sl k c (lv1 f)
 | .rs r lo n a f=>match J (b<=r) with
   | O=>bC rw (.rs r lo n a f)
   | Y => .rs r lo n a f
 | x=>x
def oe(a:Nat)(rw:aa Row):AV->AV
 |.agg cs=>.agg (cs.map (vx a rw))
 |x=>vx a rw x
def ne(a:Nat)(rw:aa Row):AV->AV
 |.tup vs=>.tup (vs.map (oe a rw))
 |x=>oe a rw x
def lW(a:Bool)(size:Nat)(cs:aa AV)(o:Nat):ab AV:=
 match a with
 |O=>match J (o+size<=X cs)with
   |O=>Z (.agg ((cs.drop o).take size))
   |Y=>U
 |Y=>cs[o]?
def noMc:aa AV->Bool
 |[.mc ..]=>Y
 |_=>O
def dF(d:TD)(I:St):AV->ab AV
 |.ptr b o=>match I.bx[b]? with
   |Z cs=>match noMc cs with
     |O=>lW d.agg d.size cs o
     |Y=>U
   |U=>U
 |.rpt r i o a=>match I.rw[r]? with
   |Z R=>match yb R i a with
     |Z cs=>lW d.agg d.size cs o
     |U=>U
   |U=>U
 |.ept cs o=>lW d.agg d.size cs o
 |_=>U
def Bu(op:mJ)(k:IntKind)(a b:Int):ab aj:=
 match op with
 |.add=>Z (.int k (iw k (aw a b)))
 |.sub=>Z (.int k (iw k (eT a b)))
 |.mul=>Z (.int k (iw k (qs a b)))
 |.quo=>match ieq b 0 with
   |O=>U
   |Y=>Z (.int k (iw k (Jf a b)))
 |.rem=>match ieq b 0 with
   |O=>U
   |Y=>Z (.int k (Jq a b))
 |.and=>Z (.int k (qx .and k a b))
 |.or=>Z (.int k (qx .or k a b))
 |.xor=>Z (.int k (qx .xor k a b))
 |.andNot=>Z (.int k (qx .andNot k a b))
 |.eql=>Z (.bool (ieq a b))
 |.neq=>Z (.bool (ap (ieq a b)))
 |.lss=>Z (.bool (ilt a b))
 |.leq=>Z (.bool (ile a b))
 |.gtr=>Z (.bool (ilt b a))
 |.geq=>Z (.bool (ile b a))
 |_=>U
def BK(op:mJ)(x y:io):ab aj:=
 match op with
 |.add=>match Jo x y with
   |Z z=>Z (.string z)
   |U=>U
 |.eql=>Z (.bool (xeq x y))
 |.neq=>Z (.bool (ap (xeq x y)))
 |.lss=>Z (.bool (xlt x y))
 |.leq=>Z (.bool (rY (xlt x y) (xeq x y)))
 |.gtr=>Z (.bool (ap (rY (xlt x y) (xeq x y))))
 |.geq=>Z (.bool (ap (xlt x y)))
 |_=>U
def rS(op:mJ)(x y:aj):ab aj:=
 match x,y with
 |.int k a,.int c b=>match op with
   |.shl=>match ilt b 0 with
     |O=>U
     |Y=>Z (.int k (PZ k a b))
   |.shr=>match ilt b 0 with
     |O=>U
     |Y=>Z (.int k (nh k a b))
   |op=>match J (k=c)with
     |O=>Bu op k a b
     |Y=>U
 |.string a,.string b=>BK op a b
 |_,_=>U
def unA(op:UnOp)(x:aj):ab aj:=
 match op,x with
 |.neg,.int k n=>Z (.int k (iw k (eT 0 n)))
 |.not,.bool b=>Z (.bool (ap b))
 |_,_=>U
def rL(place:Nat->ab (Nat×Nat))(cells:aa AV):aa (Nat×AV)->ab (aa AV)
 |[]=>Z cells
 |(i,x)::a=>match place i with
   |U=>U
   |Z (off,size)=>match J (X (cellsOf x)=size)&&J (off+size<=X cells)&&(cellsOf x).all isC with
     |O=>rL place (cells.take off++(cellsOf x++cells.drop (off+size))) a
     |Y=>U
def IF(y:Nat):AV->ab Nat
 |.v (.int _ i)=>bnd y i
 |_=>U
def iH(d:Nat)(y:Nat):ab AV->ab Nat
 |U=>Z d
 |Z x=>IF y x
structure Cfg where
 ty:Nat->Option TD
 fn:Nat->Option Func
 prim:Nat->Option (St->List AV->Option (AV×Option St))
 raw:Nat->Bool
 pur:Code->List Nat
 lo:Nat->Bool
 inl:Nat->Option Func
def uQ(k n:Nat)(rw:aa Row)(ps:aa (Nat×AV)):Bool:=
 decide (X ps=n)&&J (n*k<=2^24)&&J (0<k)&&(ps.zipIdx).all λ p=>J (p.1.1=p.2)&&J (X (cellsOf p.1.2)=k)&&(cellsOf p.1.2).all λ x=>br (bC rw x)
def ci:aa KC->aa AV->Bool
 |[],[]=>O
 |.str::l,.v (.string _)::r=>ci l r
 |.int k::l,.v (.int a _)::r=>J (a=k)&&ci l r
 |.bool::l,.v (.bool _)::r=>ci l r
 |_,_=>Y
def nW:AV->AV->Bool
 |.v (.string a),.v (.string b)=>xeq a b
 |.v (.int _ a),.v (.int _ b)=>ieq a b
 |.v (.bool a),.v (.bool b)=>dj a b
 |_,_=>Y
def gd:aa AV->aa AV->Bool
 |[],[]=>O
 |x::l,y::r=>nW x y&&gd l r
 |_,_=>Y
def gI(k:aa AV):aa (aa AV)->Nat->ab Nat
 |[],_=>U
 |e::a,i=>match gd k e with
   |O=>Z i
   |Y=>gI k a (i+1)
def gU:AV->Bool
 |.agg _=>O
 |_=>Y
def fh(g:Bool)(cs:aa AV):AV:=match g with
 |O=>.agg cs
 |Y=>match cs with
   |[x]=>x
   |_=>.dead
def vd(I:St)(g:aa KC)(h e:Bool):AV->ab (Nat×aa (aa AV)×aa (aa AV))
 |.mp b=>match I.bx[b]? with
   |Z [.mc c d a f vs]=>match J (c=g)&&(dj d h&&dj a e)with
     |O=>Z (b,f,vs)
     |Y=>U
   |_=>U
 |_=>U
def vj(a:aa KC)(b:Bool)(x:AV):Bool:=dj (gU x) b&&ci a (cellsOf x)
def Bi(b:Bool)(a:Nat)(x:AV):Bool:=dj (gU x) b&&J (X (cellsOf x)=a)&&(cellsOf x).all br
def xT(d:aa KC)(a:Bool)(b:aa aj)(c vs:aa (aa AV))(k:aa AV):ab (AV×Bool):=match gI k c 0 with
 |Z j=>match vs[j]? with
   |Z v=>Z (fh a v,O)
   |U=>U
 |U=>Z (fh a (b.map .v),Y)
def lu(a vs:aa (aa AV))(k v:aa AV):aa (aa AV)×aa (aa AV):=match gI k a 0 with
 |Z j=>(a,vs.set j v)
 |U=>(a++[k],vs++[v])
def lQ(C:Cfg)(tm:aa AV)(I:St)(t:Nat)(x k v:bw):ab (AV×ab St):=match C.ty t with
 |Z ⟨_,_,_,_,.map c d a f _⟩=>match vd I c d a (aev tm x),vj c d (aev tm k)&&Bi a f (aev tm v)with
   |Z (b,e,vs),O=>Z (.tup [],Z {I with bx:=I.bx.set b [.mc c d a (lu e vs (cellsOf (aev tm k)) (cellsOf (aev tm v))).1 (lu e vs (cellsOf (aev tm k)) (cellsOf (aev tm v))).2],wr:=b::I.wr})
   |_,_=>U
 |_=>U
def aF(C:Cfg)(tm:aa AV)(I:St)(op:Op):ab (AV×ab St):=
 match op with
 |.move x|.assign x=>Z (aev tm x,U)
 |.pick c a b=>match aev tm c with
   |.v (.bool O)=>Z (aev tm a,U)
   |.v (.bool Y)=>Z (aev tm b,U)
   |_=>U
 |.alloc e=>match C.ty e with
   |Z d=>match d.zero.all cj with
     |O=>Z (.ptr (X I.bx) 0,Z {I with bx:=I.bx++[d.zero.map .v]})
     |Y=>U
   |U=>U
 |.box e x=>match C.ty e with
   |Z _=>match(cellsOf (aev tm x)).all isC with
     |O=>Z (.ptr (X I.bx) 0,Z {I with bx:=I.bx++[cellsOf (aev tm x)]})
     |Y=>U
   |U=>U
 |.build t parts=>match C.ty t with
   |Z ⟨_,_,_,z,.struct w⟩=>match z.all cj with
     |O=>match rL (λ i=>match w[i]? with|Z f=>Z (f.1,f.2.1)|U=>U) (z.map .v) (parts.toList.map λ p=>(p.1,aev tm p.2))with
       |Z cs=>Z (.agg cs,U)
       |U=>U
     |Y=>U
   |_=>U
 |.buildSlice t n parts=>match C.ty t with
   |Z ⟨_,_,_,_,.slice _ k _ _⟩=>
     match uQ k n I.rw (parts.toList.map λ p=>(p.1,aev tm p.2))with
     |O=>match parts.toList.flatMap λ p=>rsA (aev tm p.2)with
       |[]=>Z (.sl k (parts.toList.map λ p=>(cellsOf (aev tm p.2)).map (bC I.rw)) 2,U)
       |r::l=>Z (.sl k (parts.toList.map λ p=>(cellsOf (aev tm p.2)).map (bC I.rw)) 2,Z {I with rw:=frz I.rw (r::l),wrr:=(r::l)++I.wrr})
     |Y=>U
   |_=>U
 |.load t a=>match C.ty t with
   |Z d=>match dF d I (aev tm a)with
     |Z x=>Z (x,U)
     |U=>U
   |U=>U
 |.store t a x=>match C.ty t,aev tm a with
   |Z d,.ptr b o=>match I.bx[b]? with
     |Z cs=>match noMc cs&&J (X (cellsOf (aev tm x))=d.size)&&J (o+d.size<=X cs)&&(cellsOf (aev tm x)).all isC with
       |O=>Z (undefA',Z {I with bx:=I.bx.set b (cs.take o++(cellsOf (aev tm x)++cs.drop (o+d.size))),wr:=b::I.wr})
       |Y=>U
     |U=>U
   |Z d,.rpt r i o q=>match I.rw[r]? with
     |Z R=>match xW R i o q d.size (cellsOf (aev tm x))with
       |Z R'=>Z (undefA',Z {I with rw:=I.rw.set r R',wrr:=r::I.wrr})
       |U=>U
     |U=>U
   |_,_=>U
 |.makeSlice t n m=>match C.ty t,aev tm n,aev tm m with
   |Z ⟨_,_,_,_,.slice _ k bytes z⟩,.v (.int _ a),.v (.int _ b)=>match J (a=b/\0<=a/\a.toNat*bytes<=2^47/\a.toNat<2^62/\0<k/\X z=k)&&z.all cj&&(z.map .v).all br with
     |O=>match bJ a.toNat 0 with
       |O=>Z (.sl k [] 2,U)
       |Y=>Z (.rs (X I.rw) 0 a.toNat 0 Y,Z {I with rw:=I.rw++[⟨k,List.replicate a.toNat (z.map .v),0,0,Y⟩]})
     |Y=>U
   |_,_,_=>U
 |.nilCheck x=>match aev tm x with
   |.ptr b o=>Z (.ptr b o,U)
   |.rpt r i o q=>Z (.rpt r i o q,U)
   |.ept cs o=>Z (.ept cs o,U)
   |_=>U
 |.binOp op t x y _=>match aev tm x,aev tm y with
   |.v (.bool a),.v (.bool b)=>match op,C.ty t with
     |.eql,Z ⟨_,_,_,_,.bool⟩=>Z (.v (.bool (dj a b)),U)
     |.neq,Z ⟨_,_,_,_,.bool⟩=>Z (.v (.bool (ap (dj a b))),U)
     |_,_=>U
   |.v (.pointer U),.v (.pointer U)=>match op,C.ty t with
     |.eql,Z ⟨_,_,_,_,.ptr⟩=>Z (.v (.bool O),U)
     |.neq,Z ⟨_,_,_,_,.ptr⟩=>Z (.v (.bool Y),U)
     |_,_=>U
   |.v a,.v b=>match rS op a b with
     |Z z=>Z (.v z,U)
     |U=>U
   |a,b=>match A6 a&&BL b,op,C.ty t with
     |O,.eql,Z ⟨_,_,_,_,.ptr⟩=>Z (.v (.bool Y),U)
     |O,.neq,Z ⟨_,_,_,_,.ptr⟩=>Z (.v (.bool O),U)
     |_,_,_=>U
 |.unOp op _ x=>match aev tm x with
   |.v a=>match unA op a with
     |Z z=>Z (.v z,U)
     |U=>U
   |_=>U
 |.convert s d x=>match C.ty s,C.ty d,aev tm x with
   |Z _,Z ⟨_,_,_,_,.int k⟩,.v (.int _ n)=>Z (.v (.int k (iw k n)),U)
   |Z _,Z ⟨_,_,_,_,.string⟩,.v (.string s)=>Z (.v (.string s),U)
   |Z ⟨_,_,_,_,.slice e 1 _ _⟩,Z ⟨_,_,_,_,.string⟩,y=>match yD (C.ty e),elems I.rw 1 y with
     |O,Z u=>match xV u with
       |Z l=>Z (.v (.string ⟨l.toArray⟩),U)
       |U=>U
     |_,_=>U
   |_,_,_=>U
 |.makeFunc (.func f) w cs=>match V w with
   |[]=>Z (.fn f (cs.toList.map (aev tm)),U)
   |_=>U
 |.slice t x lo E U=>match C.ty t,aev tm x with
   |Z ⟨_,_,_,_,.string⟩,.v (.string s)=>match iH (ql s) (ql s) (E.map (aev tm))with
     |Z h=>match iH 0 h (lo.map (aev tm))with
       |Z l=>Z (.v (.string (Br s l h)),U)
       |U=>U
     |U=>U
   |Z ⟨_,_,_,_,.slice _ k _ _⟩,.sl G u f=>match bJ G k&&pos f with
     |O=>match iH (fS u) (fS u) (E.map (aev tm))with
       |Z h=>match iH 0 h (lo.map (aev tm))with
         |Z l=>Z (.sl k (Ja u l h) (lvS f (bJ h (fS u))),U)
         |U=>U
       |U=>U
     |Y=>U
   |Z ⟨_,_,_,_,.slice _ _ _ _⟩,.v (.slice U 0 0)=>match iH 0 0 (E.map (aev tm))with
     |Z h=>match iH 0 h (lo.map (aev tm))with
       |Z _=>Z (.v (.slice U 0 0),U)
       |U=>U
     |U=>U
   |Z ⟨_,_,_,_,.slice _ k _ _⟩,.rs r o n q _=>match iH n n (E.map (aev tm)),I.rw[r]? with
     |Z h,Z R=>match iH 0 h (lo.map (aev tm))with
       |Z l=>match bJ h n,IJ R k o n q l with
         |O,Z R'=>Z (.rs r 0 (n-l) (q+1) Y,Z {I with rw:=I.rw.set r R',wrr:=r::I.wrr})
         |_,_=>U
       |U=>U
     |_,_=>U
   |_,_=>U
 |.fieldAddr t x i=>match C.ty t with
   |Z ⟨_,_,_,_,.struct w⟩=>match w[i]? with
     |Z (off,size,_)=>match size with
       |0=>U
       |_+1=>match aev tm x with
         |.ptr b o=>Z (.ptr b (o+off),U)
         |.rpt r j o q=>Z (.rpt r j (o+off) q,U)
         |.ept cs o=>Z (.ept cs (o+off),U)
         |_=>U
     |U=>U
   |_=>U
 |.field t x i=>match C.ty t,aev tm x with
   |Z ⟨_,_,_,_,.struct w⟩,.agg cs=>match w[i]? with
     |Z (off,size,g)=>match lW g size cs off with
       |Z y=>Z (y,U)
       |U=>U
     |U=>U
   |_,_=>U
 |.indexAddr t x i=>match C.ty t,aev tm i with
   |Z ⟨_,_,_,_,.slice _ k _ _⟩,.v (.int _ j)=>match aev tm x with
     |.sl G u _=>match bJ G k with
       |O=>match yE u j with
         |Z cs=>Z (.ept cs 0,U)
         |U=>U
       |Y=>U
     |.rs r lo n q _=>match I.rw[r]? with
       |Z R=>match IP R k lo n q j with
         |Z p=>Z (.rpt r p 0 q,U)
         |U=>U
       |U=>U
     |_=>U
   |Z ⟨_,_,_,_,.array n _ k⟩,.v (.int _ j)=>match aev tm x with
     |.ptr b o=>match J (0<=j/\j<(n:Int))with
       |O=>Z (.ptr b (o+j.toNat*k),U)
       |Y=>U
     |_=>U
   |_,_=>U
 |.index t x i=>match C.ty t,aev tm x,aev tm i with
   |Z ⟨_,_,_,_,.string⟩,.v (.string s),.v (.int _ j)=>match Ji s j with
     |Z b=>Z (.v (.int .u8 b),U)
     |U=>U
   |_,_,_=>U
 |.extract x i=>match aev tm x with
   |.tup vs=>match vs[i]? with
     |Z y=>Z (y,U)
     |U=>U
   |_=>U
 |.makeMap t U=>match C.ty t with
   |Z ⟨_,_,_,_,.map B D A _ _⟩=>Z (.mp (X I.bx),Z {I with bx:=I.bx++[[.mc B D A [] []]]})
   |_=>U
 |.lookup t x k L=>match C.ty t with
   |Z ⟨_,_,_,_,.map B D A K F⟩=>match vd I B D A (aev tm x),vj B D (aev tm k)&&(F.all cj&&J (X F=K)&&(A||J (K=1)))with
     |Z (_,M,vs),O=>match xT B A F M vs (cellsOf (aev tm k))with
       |Z (v,b)=>Z (match L with|O=>.tup [v,.v (.bool b)]|Y=>v,U)
       |U=>U
     |_,_=>U
   |_=>U
 |.mapUpdate t x k v|.insert t x k v=>lQ C tm I t x k v
 |_=>U
where undefA':AV:=.tup []
def eM(k bytes:Nat)(I:St)(s:AV)(xs:aa (aa AV)):ab (AV×ab St):=
 match s with
 |.v (.slice U 0 0)=>match bJ (fS xs) 0 with
   |O=>Z (.v (.slice U 0 0),U)
   |Y=>match rowNew k bytes xs with
     |Z (R,n)=>Z (.rs (X I.rw) 0 n 0 Y,Z {I with rw:=I.rw++[R]})
     |U=>U
 |.sl c a f=>match bJ (fS xs) 0 with
   |O=>match pos f with
     |O=>Z (.sl c a f,U)
     |Y=>U
   |Y=>match J (1<f)&&bJ c k&&uni k a with
     |O=>match rowNew k bytes (oa a xs)with
       |Z (R,n)=>Z (.rs (X I.rw) 0 n 0 Y,Z {I with rw:=I.rw++[R]})
       |U=>U
     |Y=>U
 |.rs r lo n b f=>match bJ (fS xs) 0 with
   |O=>Z (.rs r lo n b f,U)
   |Y=>match I.rw[r]? with
     |Z R=>match Bm R k lo n b f bytes xs with
       |Z (R',m)=>Z (.rs r 0 m (b+1) Y,Z {I with rw:=I.rw.set r R',wrr:=r::I.wrr})
       |U=>U
     |U=>U
 |_=>U
def nN:TK->Bool
 |.slice .. => O
 |_=>Y
def AC:TK->Bool
 |.string=>O
 |_=>Y
def mq(d:TD):AV->ab Nat
 |.v (.string s)=>match AC d.k with|O=>Z (ql s)|Y=>U
 |.v (.slice U 0 0)=>match nN d.k with|O=>Z 0|Y=>U
 |.sl _ a _=>match nN d.k with|O=>Z (fS a)|Y=>U
 |.rs _ _ n _ _=>match nN d.k with|O=>Z n|Y=>U
 |_=>U
def Jk(k:TK)(I:St)(x:AV):ab Nat:=match k with
 |.map c d a _ _=>match vd I c d a x with
   |Z (_,b,_)=>Z (X b)
   |U=>U
 |_=>U
def iv(C:Cfg)(I:St)(b:Builtin)(ts:aL aQ)(c:aa AV):ab (AV×ab St):=
 match b,c with
 |.len,[x]=>match ts[0]? with
   |Z t=>match C.ty t with
     |Z d=>match mq d x with
       |Z n=>Z (.v (.int .i64 n),U)
       |U=>match Jk d.k I x with
         |Z n=>Z (.v (.int .i64 n),U)
         |U=>U
     |U=>U
   |U=>U
 |.append,[s,x]=>match ts[0]?,ts[1]? with
   |Z t,Z u=>match C.ty t,C.ty u with
     |Z ⟨_,_,_,_,.slice _ k bytes z⟩,Z ⟨_,_,_,_,.slice _ _ _ _⟩=>match J (0<k)&&J (X z=k)with
       |O=>match elems I.rw k x with
         |Z xs=>match uni k xs with
           |O=>eM k bytes I s xs
           |Y=>U
         |U=>U
       |Y=>U
     |Z ⟨_,_,_,_,.slice e 1 bytes z⟩,Z ⟨_,_,_,_,.string⟩=>match J (X z=1)&&yD (C.ty e),x with
       |O,.v (.string b)=>eM 1 bytes I s (oK b)
       |_,_=>U
     |_,_=>U
   |_,_=>U
 |.max,[.v (.int k a),.v (.int f b)]=>match J (k=f)with|O=>Z (.v (.int k (pb a b)),U)|Y=>U
 |.min,[.v (.int k a),.v (.int f b)]=>match J (k=f)with|O=>Z (.v (.int k (OT a b)),U)|Y=>U
 |_,_=>U
inductive Ex where
 |normal|exit (id:Nat)|ret
 deriving DecidableEq
def vm(I:St)(a:AV)(σ':St):Bool:=
 refs (X I.bx) (X I.rw) (ne (X I.rw) σ'.rw a)||(σ'.wr.filter λ b=>J (b<X I.bx)).any λ b=>(σ'.bx.getD b []).any (refs (X I.bx) (X I.rw))
def mT(I:St)(a:AV)(σ':St):AV×ab St:=
 match vm I a σ' with
 |O=>(a,Z {σ' with wr:=σ'.wr.filter λ b=>J (b<X I.bx),wrr:=σ'.wrr.filter λ b=>J (b<X I.rw)})
 |Y=>match(σ'.wr.filter λ b=>J (b<X I.bx))++σ'.wrr.filter λ b=>J (b<X I.rw)with
   |[]=>(ne (X I.rw) σ'.rw a,U)
   |_::_=>(ne (X I.rw) σ'.rw a,Z ⟨σ'.bx.take (X I.bx),σ'.rw.take (X I.rw),σ'.wr.filter λ b=>J (b<X I.bx),σ'.wrr.filter λ b=>J (b<X I.rw)⟩)
def xy(C:Cfg)(tm:aa AV)(I:St):ResultVar->ab AV
 |.tmp t=>Z (tm.getD t .dead)
 |.cell a t=>match C.ty t with
   |Z d=>dF d I (tm.getD a .dead)
   |U=>U
def jz(C:Cfg)(tm:aa AV)(I:St):aa ResultVar->ab (aa AV)
 |[]=>Z []
 |r::l=>match xy C tm I r with
   |Z x=>match jz C tm I l with
     |Z xs=>Z (x::xs)
     |U=>U
   |U=>U
def cy:aa AV->AV
 |[x]=>x
 |l=>.tup l
def nI(C:Cfg)(fn:Func)(s:S):ab AV:=
 match jz C s.tm s.I (V fn.results) with
 |Z l=>Z (cy l)
 |U=>U
abbrev dL:=Code->S->ab (Ex×S)
def pZ(fn:Func)(I:St)(a:aa AV):S:=⟨a++List.replicate (fn.ntmps-X a) .dead,{I with wr:=[],wrr:=[]}⟩
def rt(C:Cfg)(fn:Func)(I:St)(a:S):ab (AV×ab St):=
 match nI C fn a with
 |Z r=>Z (mT I r a.I)
 |U=>U
def jf(C:Cfg)(ex:dL)(I:St)(f:cI)(a:aa AV):ab (AV×ab St):=
 match C.prim f with
 |Z p=>p I a
 |U=>match C.fn f with
   |U=>U
   |Z fn=>match fn.body with
     |U=>U
     |Z c=>match ex c (pZ fn I a)with
       |Z (.ret,b)|Z (.normal,b)=>rt C fn I b
       |_=>U
def aH(l:aa Nat):aa Nat->aa Nat
 |[]=>[]
 |b::a=>match l.contains b with
   |O=>aH l a
   |Y=>b::aH (b::l) a
def xL(a:aa (aa AV)):Nat->aa Nat->aa Nat
 |0,l=>l
 |n+1,l=>match aH l (l.flatMap λ b=>rbL (a.getD b []))with
   |[]=>l
   |b::c=>xL a n (l++(b::c))
def dY(I:St)(a:aa AV):aa Nat:=xL I.bx (X I.bx) (aH [] (rbL a))
def hU(I:St)(a:aa AV):aa Nat:=aH [] (rrL a++(dY I a).flatMap λ b=>rrL (I.bx.getD b []))
def nd:aa Nat->Bool
 |[]=>O
 |b::l => !l.contains b&&nd l
def nX(I:St)(a:aa AV):Bool:=
 nd (dY I a)&&nd (hU I a) &&   (rbL a).all (λ b=>(dY I a).contains b)&&(rrL a).all (λ r=>(hU I a).contains r)&&(dY I a).all (λ b=>J (b<X I.bx)&&(rbL (I.bx.getD b [])).all (λ b=>(dY I a).contains b)&&(rrL (I.bx.getD b [])).all λ r=>(hU I a).contains r)&&(hU I a).all λ r=>J (r<X I.rw)
def bM(I:St)(c a:aa Nat):St:=
 ⟨c.map λ b=>bt (λ b=>c.idxOf b) (λ r=>a.idxOf r) (I.bx.getD b []),a.map λ r=>I.rw.getD r ⟨0,[],0,0,Y⟩,[],[]⟩
def cJ(l:aa Nat)(n i:Nat):Nat:=match l[i]? with
 |Z b=>b
 |U=>n+(i-X l)
def dh{α:Type}(l:aa α):aa Nat->aa α->aa α
 |[],xs=>l++xs
 |_,[]=>l
 |b::a,x::xs=>dh (l.set b x) a xs
def pV(I:St)(b a:aa Nat)(σ':St):St:=
 ⟨dh I.bx b (σ'.bx.map (bt (cJ b (X I.bx)) (cJ a (X I.rw)))),dh I.rw a σ'.rw,σ'.wr.map (cJ b (X I.bx))++I.wr,σ'.wrr.map (cJ a (X I.rw))++I.wrr⟩
def oS(I:St)(b a:aa Nat):AV×ab St->AV×ab St
 |(r,U)=>(ren (cJ b (X I.bx)) (cJ a (X I.rw)) r,U)
 |(r,Z σ')=>(ren (cJ b (X I.bx)) (cJ a (X I.rw)) r,Z (pV I b a σ'))
def oO(C:Cfg)(I:St)(f:cI)(a:aa AV):aa AV×ab St:=
 match C.raw f with
 |O=>(a,U)
 |Y=>match a.flatMap rsA with
   |[]=>(a.map (cE I.rw),U)
   |r::l=>(a.map (cE I.rw),Z {I with rw:=frz I.rw (r::l),wrr:=(r::l)++I.wrr})
def fJ(I:St)(a:aa AV)(c:St->aa AV->ab (AV×ab St)):ab (AV×ab St):=
 match nX I a with
 |O=>match c (bM I (dY I a) (hU I a)) (bt (λ b=>(dY I a).idxOf b) (λ r=>(hU I a).idxOf r) a)with
   |Z r=>Z (oS I (dY I a) (hU I a) r)
   |U=>U
 |Y=>U
def isV:AV->Bool
 |.v _=>O
 |_=>Y
def rD:AV->Bool
 |.tup vs=>vs.all isV
 |x=>isV x
def xQ(a:aa AV)(I:St):ab (AV×ab St)->ab (AV×ab St)
 |Z (r,U)=>match rD r&&(rbL a).isEmpty&&(rrL a).isEmpty with
   |O=>Z (r,U)
   |Y=>Z (r,Z I)
 |r=>r
def mS(C:Cfg)(ex:dL)(I:St)(f:cI)(a:aa AV):ab (AV×ab St):=
 match oO C I f a with
 |(a,U)=>fJ I a λ I a=>jf C ex I f a
 |(a,Z σ')=>xQ a σ' (fJ σ' a λ I a=>jf C ex I f a)
def dG(x:AV):Bool:=(rb x).isEmpty&&(rr x).isEmpty
def noRefs(xs:aa AV):Bool:=xs.all dG
def yr(C:Cfg)(ex:dL)(I:St)(fn:Func)(a:aa AV):ab (AV×ab St):=match fn.body with
 |U=>U
 |Z c=>match ex c ⟨a++List.replicate (fn.ntmps-X a) .dead,I⟩with
   |Z (.exit _,_)=>U
   |Z (_,b)=>match nI C fn b with
     |Z r=>Z (r,Z b.I)
     |U=>U
   |U=>U
def mU(C:Cfg)(ex:dL)(I:St)(f:cI)(a:aa AV):ab (AV×ab St):=
 match C.lo f with
 |O=>match C.inl f with
   |Z fn=>yr C ex I fn a
   |U=>mS C ex I f a
 |Y=>match C.raw f,noRefs (a.map (cE I.rw))with
   |Y,O=>match mS C ex I f a with
     |Z (r,o)=>match dG r with
       |O=>Z (r,o)
       |Y=>U
     |U=>U
   |_,_=>U
def rf(tm:aa AV):Callee->ab (cI×aa AV)
 |.value f=>match aev tm f with
   |.fn f a=>Z (f,a)
   |_=>U
 |_=>U
def opA(C:Cfg)(ex:dL)(tm:aa AV)(I:St)(op:Op):ab (AV×ab St):=
 match op with
 |.call c=>match c.callee with
   |.builtin b=>iv C I b c.argTypes (c.args.toList.map (aev tm))
   |d=>match rf tm d with
     |Z (f,a)=>mU C ex I f (c.args.toList.map (aev tm)++a)
     |U=>U
 |op=>aF C tm I op
def cT(ops:aL Oper)(tm:aa AV)(o:Oper):ab Bool:=
 match o.guard with
 |U=>Z O
 |Z (j,a)=>match(ops[j]?).bind (·.dst)with
   |U=>U
   |Z d=>match tm.getD d .dead with
     |.v (.bool b)=>Z (dj b a)
     |.tup []=>Z Y
     |_=>U
def hS(tm:aa AV):ab Tmp->AV->aa AV
 |U,_=>tm
 |Z d,x=>tm.set d x
def xK:AV:=.tup []
def cw(b:Nat->Bool):Op->Bool
 |.store ..|.mapUpdate ..|.insert ..|.makeMap .. => O
 |.call {callee:=.builtin .append,.. }=>O
 |.call {callee:=.value (.func f),.. }=>b f
 |.call {callee:=.value (.tmp _),.. }=>b 999999
 |_=>Y
def turn(I:St):ab St->St
 |U=>I
 |Z σ'=>σ'
def gS:Op->Bool
 |.load .. |.store .. |.indexAddr .. |.convert .. |.lookup .. |.mapUpdate .. |.insert .. => O
 |.call {callee:=.builtin .max,.. }|.call {callee:=.builtin .min,.. }=>Y
 |.call _=>O
 |_=>Y
def cY(o:Oper):aa Nat:=(o.after.toList.filter (Region.binds .any)).map (·.on)
def A2(a:aa Nat)(o:Oper):Nat:=(cY o).foldl (λ m e=>m|||(2^e|||a.getD e 0)) 0
def fH:aa Oper->aa Nat->aa Nat
 |[],a=>a
 |o::r,a=>fH r (a++[A2 a o])
def looks(ops:aL Oper)(o:Oper):aa Tmp:=
 o.dst.toList++(o.op.operands.toList.filterMap λ|.tmp t=>Z t|_=>U)++match o.guard with
  |U=>[]
  |Z (j,_)=>((ops[j]?).bind (·.dst)).toList
def rH(t:Tmp)(o:Oper):Bool:=match o.dst with
 |Z d=>Nat.beq d t
 |U=>Y
def oI(ops:aa Oper)(t:Tmp):aa (Oper×Nat):=ops.zipIdx.filter λ p=>rH t p.1
def OV:Op->ab Tmp
 |.fieldAddr _ (.tmp u) _|.move (.tmp u)|.assign (.tmp u)|.nilCheck (.tmp u)=>Z u
 |_=>U
def rG(ops:aL Oper):Nat->Nat->Tmp->ab Tmp
 |0,_,_=>U
 |n+1,k,t=>match oI (V ops) t with
   |[]=>Z t
   |[(o,i)]=>match OV o.op,J (i<k)with
     |Z u,O=>rG ops n i u
     |_,_=>U
   |_=>U
def IZ(ops:aL Oper)(k:Nat)(t:Tmp):ab Tmp:=rG ops 6 k t
def er(tm:aa AV)(ops:aL Oper)(k:Nat)(t:Tmp):ab Nat:=match IZ ops k t with
 |Z u=>match tm.getD u .dead with
   |.ptr b _=>Z b
   |_=>U
 |U=>U
def P2:AV->Bool
 |.rpt ..|.ept .. => O
 |_=>Y
def mX(tm:aa AV)(ops:aL Oper)(k:Nat)(t:Tmp):Bool:=match IZ ops k t with
 |Z u=>P2 (tm.getD u .dead)
 |U=>Y
def ru(tm:aa AV)(ops:aL Oper)(j:Nat)(o:Oper)(i:Nat)(q:Oper):Bool:=match o.op,q.op with
 |.store _ (.tmp a) _,.load _ (.tmp b)=>match er tm ops j a,er tm ops i b with
   |Z x,Z y => !Nat.beq x y
   |Z _,U=>mX tm ops i b
   |_,_=>Y
 |.call ⟨.builtin .append,_,_⟩,.load _ (.tmp b)|.call ⟨.value _,_,_⟩,.load _ (.tmp b)=>(er tm ops i b).isSome
 |_,_=>Y
def oN(tm:aa AV)(ops:aL Oper)(j:Nat)(o:Oper)(i:Nat)(q:Oper):Bool:=ru tm ops j o i q||ru tm ops i q j o
def Ir(C:Cfg)(tm:aa AV)(I:St):Op->aa Nat
 |.call ⟨.value g,as,_⟩=>match rf tm (.value g)with
   |Z (f,b)=>match C.inl f with
     |Z _=>List.range (X I.bx)
     |U=>match oO C I f (as.toList.map (aev tm)++b)with
       |(a,U)=>dY I a
       |(a,Z σ')=>dY σ' a
   |U=>[]
 |_=>[]
def NM:Op->Bool
 |.call ⟨.value _,_,_⟩=>O
 |_=>Y
def lR(C:Cfg)(ops:aL Oper)(j:Nat)(tm:aa AV)(I:St)(op:Op):Bool := !NM op||ops.toList.zipIdx.all λ(q,i)=>match q.op with
 |.load _ (.tmp a)=>((fH (V ops) []).getD (max i j) 0).testBit (min i j)||match er tm ops i a with
   |Z y=>J (y<X I.bx) && !(Ir C tm I op).contains y
   |U=>Y
 |_=>O
def cS(C:Cfg)(ex:dL)(ops:aL Oper)(b:Bool):aa Oper->S->ab S
 |[],s=>Z s
 |o::a,s=>match cT ops s.tm o with
   |Z O=>match opA C ex s.tm s.I o.op with
     |Z (x,U)=>cS C ex ops b a ⟨hS s.tm o.dst x,s.I⟩
     |Z (x,Z σ')=>match b && !(cw C.lo o.op&&lR C ops (ops.size-(X a+1)) s.tm s.I o.op)with
       |O=>U
       |Y=>cS C ex ops b a ⟨hS s.tm o.dst x,σ'⟩
     |U=>U
   |Z Y=>cS C ex ops b a ⟨hS s.tm o.dst xK,s.I⟩
   |U=>U
def rV:Op->Bool
 |.makeMap _ _=>O
 |_=>Y
def rQ(a:Nat->Bool):Op->Bool
 |.load .. |.indexAddr .. => O
 |.call ⟨.value (.func f),_,_⟩ => !a f
 |_=>Y
def uV(a:Nat->Bool)(o q:Oper):Bool:=cw a o.op&&((gS q.op||cw a q.op) && !(rV o.op&&rQ a q.op))
def uZ(a:Nat->Bool)(o q:Oper):Bool:=uV a o q||uV a q o
def nu(a:Nat->Bool)(tm:aa AV)(ops:aL Oper)(j:Nat)(o:Oper)(i:Nat)(q:Oper):Bool:=
 (match q.dst with|Z d=>(looks ops o).contains d|U=>Y)||(uZ a o q && !oN tm ops j o i q)
def lc(a:Nat->Bool)(tm:aa AV)(ops:aL Oper):Bool:=
 let b:=fH (V ops) []
 ops.toList.zipIdx.all λ(o,j)=>((cY o).all λ e=>J (e<j))&&ops.toList.zipIdx.all λ(q,i)=>
  decide (i=j) || !nu a tm ops j o i q||(b.getD (max i j) 0).testBit (min i j)
def ve(a:Nat->Bool)(ops:aL Oper)(o q:Oper):Bool:=
 (match q.dst with|Z d=>(looks ops o).contains d|U=>Y)||(cw a o.op&&cw a q.op)
def nO(a:Nat->Bool)(ops:aL Oper):Bool:=
 let b:=fH (V ops) []
 ops.toList.zipIdx.all λ(o,j)=>((cY o).all λ e=>J (e<j))&&ops.toList.zipIdx.all λ(q,i)=>
  decide (i=j) || !ve a ops o q||(b.getD (max i j) 0).testBit (min i j)
def ma(b:Nat->Bool)(tm:aa AV)(ops:aL Oper)(a:Bool):Bool:=match a with
 |O=>lc b tm ops
 |Y=>O
def stP(o:Oper):ab (Tmp×bw):=match o.op with
 |.store _ (.tmp a) v=>match o.guard,o.dst with
   |U,U=>Z (a,v)
   |_,_=>U
 |_=>U
def ixP(o:Oper):ab Tmp:=match o.op with
 |.indexAddr _ _ _=>match o.guard,o.dst with
   |U,Z d=>Z d
   |_,_=>U
 |_=>U
def ln(d:Tmp):bw->Bool
 |.tmp t => !Nat.beq t d
 |_=>O
def ym:Nat->Nat->Bool
 |0,_=>O
 |k+1,b=>b.testBit k&&ym k b
def uY(o:Oper):Bool:=match o.op,o.guard,o.dst with
 |.nilCheck _,U,Z _|.fieldAddr _ _ _,U,Z _|.move _,U,Z _=>O
 |_,_,_=>Y
def Jh(m:Nat)(o:Oper):Bool:=match o.guard with
 |U=>O
 |Z (g,_)=>Nat.blt g m
def jK(ops:aL Oper):Nat:=X (V ops)-3-X (ops.toList.reverse.tail.takeWhile uY)
def shI(m e:Nat):Nat:=cond (Nat.blt e m) e (e-2)
def pW(m:Nat)(o:Oper):Oper:={o with after:=o.after.map λ e=>{e with on:=shI m e.on}}
def oP(ops:aL Oper):aa Oper:=(ops.toList.drop (jK ops)).take 2++ops.toList.drop (X (V ops)-1)
def Io(ops:aL Oper):aa Oper:=(ops.toList.drop (jK ops+2)).take (X (V ops)-3-jK ops)
def jg(ops:aL Oper):aL Oper:=⟨ops.toList.take (jK ops)++(Io ops).map (pW (jK ops))⟩
def Oo(a:aa Nat)(m n:Nat)(p o q:Oper):Bool:=((cY p).all λ e=>Nat.blt e m)&&(((cY o).all λ e=>Nat.blt e (m+1))&&(((cY q).all λ e=>Nat.blt e m||(Nat.ble (m+2) e&&Nat.blt e n))&&(ym m (a.getD m 0)&&(ym (m+1) (a.getD (m+1) 0)&&(List.range n).all λ i=>Nat.beq i m||(Nat.beq i (m+1)||(a.getD n 0).testBit i)))))
def Bb(m:Nat)(d:Tmp)(p:Oper)(v:bw)(o:Oper):Bool:=uY o&&(o.op.operands.toList.all (ln d)&&(((cY o).all λ e=>Nat.blt e m||Nat.ble (m+2) e)&&match o.dst with
 |Z e => !Nat.beq e d&&(p.op.operands.toList.all (ln e)&&ln e v)
 |U=>Y))
def qbg(ops:aL Oper):aa Oper->ab Tmp
 |[p,o,q]=>match ixP p,stP o,stP q with
   |Z d,Z a,Z b=>match(Nat.beq a.1 d&&(!Nat.beq b.1 d&&ln d b.2))&&(Nat.ble (jK ops+3) (X (V ops))&&(Oo (fH (V ops) []) (jK ops) (X (V ops)-1) p o q&&((Io ops).all (Bb (jK ops) d p a.2)&&(ops.toList.take (jK ops)).all (Jh (jK ops)))))with
     |O=>Z b.1
     |Y=>U
   |_,_,_=>U
 |_=>U
def qz(ops:aL Oper)(a:Bool):ab Tmp:=match a with
 |O=>qbg ops (oP ops)
 |Y=>U
def yw:AV->Bool
 |.ptr _ _=>O
 |_=>Y
def OS(tm:aa AV)(ops:aL Oper):Bool:=match oP ops with
 |p::_=>match p.op with
   |.indexAddr _ u _ => !yw (aev tm u)
   |_=>Y
 |[]=>Y
def vu(tm:aa AV)(ops:aL Oper)(p:Tmp):Bool:=yw (tm.getD p .dead)&&OS tm ops
def bQ(o:Oper):Bool:=match o.op with
 |.alloc _=>O
 |_=>Y
def ry(ops:aL Oper)(a:Bool):Bool:=a&&ops.toList.any bQ
def PT(ops:aa Oper)(o:Oper):Bool := !bQ o&&ops.any λ q=>bQ q&&match q.dst with
 |Z d=>(looks ⟨ops⟩ o).contains d
 |U=>Y
def I4(ops:aa Oper):aa Oper->Nat
 |[]=>0
 |o::r=>match PT ops o with
   |O=>0
   |Y=>I4 ops r+1
def ia(_:Nat->Bool)(ops:aa Oper):Nat:=I4 ops ops
def ey(o:Oper):Oper:=match bQ o with
 |O=>{o with op:=.move (.global 0)}
 |Y=>o
def bk(lo:Nat->Bool)(ops:aa Oper):aa Oper:=(ops.take (ia lo ops)).map ey
def alL(lo:Nat->Bool)(ops:aa Oper):aa Oper:=(ops.take (ia lo ops)).filter bQ
def sd(lo:Nat->Bool)(ops:aa Oper):aa Oper:=ops.drop (ia lo ops)
def pS(ops:aa Oper)(o:Oper):Bool:=(!gS o.op && !rV o.op)&&(!bQ o&&ops.all λ q => !bQ q||match q.dst with
 |Z d => !(looks ⟨ops⟩ o).contains d
 |U=>O)
def vD:Op->Bool
 |.load .. |.indexAddr .. => O
 |_=>Y
def yh(ops:aa Oper)(o:Oper):Bool:=vD o.op && !PT ops o
def A8(ops:aa Oper)(o:Oper):Bool:=match o.op with
 |.store _ (.tmp a) _=>ops.any λ q=>bQ q&&rH a q
 |_=>Y
def iR(ops:aa Oper)(o:Oper):Bool:=pS ops o||yh ops o
def rz(lo:Nat->Bool)(ops:aa Oper):Bool:=
 let b:=fH ops []
 ops.zipIdx.all λ(o,j)=>((cY o).all λ e=>J (e<j))&&((Nat.blt j (ia lo ops)||(List.range j).all λ i=>(b.getD j 0).testBit i||(Nat.blt i (ia lo ops)&&match ops[i]? with
  |Z q=>pS ops q||(yh ops q&&A8 ops o)
  |U=>Y))&&(!bQ o||(o.guard.isNone&&match o.dst with
  |Z d=>Nat.beq (X (oI ops d)) 1
  |U=>Y)))
def iy:Code->Bool
 |.seq a b|.cond _ a b=>iy a&&iy b
 |.block _ b|.loop b=>iy b
 |_=>O
def hZ(s:S)(t:Nat):S:=match rsA (s.tm.getD t .dead)with
 |[]=>s
 |r::l=>⟨s.tm.set t (cE s.I.rw (s.tm.getD t .dead)),{s.I with rw:=frz s.I.rw (r::l),wrr:=(r::l)++s.I.wrr}⟩
def kF(ts:aa Nat)(s:S):S:=ts.foldl hZ s
def jG(C:Cfg)(ex:dL):dL
 |.skip,s|.label _,s=>Z (.normal,s)
 |.region _ ops d,s=>match ry ops d with
   |O=>match rz C.lo (V ops)&&(nO C.lo ops&&ma C.lo s.tm ⟨bk C.lo (V ops)⟩ O),cS C ex ⟨bk C.lo (V ops)⟩ O (bk C.lo (V ops)) s with
     |O,Z f=>match cS C ex ops Y (alL C.lo (V ops)) f with
       |Z g=>match cS C ex ops O (sd C.lo (V ops)) g with
         |Z e=>Z (.normal,e)
         |U=>U
       |U=>U
     |_,_=>U
   |Y=>match qz ops d with
     |Z p=>match ma C.lo s.tm (jg ops) O,cS C ex (jg ops) O (V (jg ops)) s with
       |O,Z f=>match vu f.tm ops p,cS C ex ops O (oP ops) f with
         |O,Z e=>Z (.normal,e)
         |_,_=>U
       |_,_=>U
     |U=>match ma C.lo s.tm ops d,cS C ex ops d (V ops) s with
       |O,Z e=>Z (.normal,e)
       |_,_=>U
 |.seq a b,s=>match ex a s with
   |Z (.normal,e)=>ex b e
   |r=>r
 |.cond c x y,s=>match aev s.tm c with
   |.v (.bool O)=>ex x s
   |.v (.bool Y)=>ex y s
   |_=>U
 |.block id b,s=>match ex b s with
   |Z (.exit i,e)=>Z (if i=id then .normal else .exit i,e)
   |r=>r
 |.loop b,s=>match ex b (kF (C.pur b) s)with
   |Z (.normal,e)=>ex (.loop b) e
   |r=>r
 |.exit id,s=>Z (.exit id,s)
 |.ret,s=>Z (.ret,s)
 |_,_=>U
def ee(C:Cfg):Nat->dL
 |0=>λ _ _=>U
 |n+1=>jG C (ee C n)
section
open RowKit
structure Gh where
 mem:Nat->Nat->Option aj
 nb:Nat
 β:Nat->Nat
 nr:Nat
 ver:Nat->Nat
 k:Nat->Nat
 cur:Nat->Nat
 sz:Nat->Nat
 of:Nat->Nat
inductive Rep (Γ:Gh):AV->aj->Prop
 |v (x:aj) (h:cj x=O):Rep Γ (.v x) x
 |dead (u:aj):Rep Γ .dead u
 |sl (k:Nat) (es:List (List AV)) (f:Nat) (a:Option Addr) (n cap b o:Nat) (us:Nat->Nat->aj) (hn:n=es.length) (hc:0<f->n<=cap) (hf:1<f->cap=n) (hk:∀e∈es,e.length=k) (hp:∀e∈es,∀x∈e,br x=O) (h0:0<k)
  (ha:es=[]\/a=Z ⟨b,o,U⟩) (hm:∀(i:Nat) (e:List AV) (j:Nat) (x:AV),es[i]?=Z e->e[j]?=Z x->Γ.mem b (o+i*k+j)=Z (us i j))
  (hr:∀(i:Nat) (e:List AV) (j:Nat) (x:AV),es[i]?=Z e->e[j]?=Z x->Rep Γ x (us i j)):Rep Γ (.sl k es f) (.slice a n cap)
 |rs (r lo n ep:Nat) (f:Bool) (a:Option Addr) (cap:Nat) (hr:r<Γ.nr) (hv:ep<=Γ.ver r) (hc:n<=cap) (hf:f=O->cap=n)
  (hl:Γ.ver r=ep->(cap=0\/a=Z ⟨Γ.cur r,Γ.of r+lo*Γ.k r,U⟩)/\Γ.of r+(lo+cap)*Γ.k r<=Γ.sz r):Rep Γ (.rs r lo n ep f) (.slice a n cap)
 |ptr (b o:Nat) (h:b<Γ.nb):Rep Γ (.ptr b o) (.pointer (Z ⟨Γ.β b,o,U⟩))
 |rpt (r i o ep:Nat) (A:Addr) (hr:r<Γ.nr) (hv:ep<=Γ.ver r) (hl:Γ.ver r=ep->A=⟨Γ.cur r,Γ.of r+i*Γ.k r+o,U⟩):Rep Γ (.rpt r i o ep) (.pointer (Z A))
 |ept (cs:List AV) (o b o':Nat) (us:Nat->aj) (hp:∀x∈cs,br x=O) (hm:∀(j:Nat) (x:AV),cs[j]?=Z x->Γ.mem b (o'+j)=Z (us j)) (hr:∀(j:Nat) (x:AV),cs[j]?=Z x->Rep Γ x (us j)):Rep Γ (.ept cs o) (.pointer (Z ⟨b,o'+o,U⟩))
 |fn (f:cI) (cs:List AV) (us:List aj) (hn:us.length=cs.length) (hr:∀(i:Nat) (x:AV) (u:aj),cs[i]?=Z x->us[i]?=Z u->Rep Γ x u):Rep Γ (.fn f cs) (.func (.func f) #[] us.toArray)
 |agg (cs:List AV) (us:List aj) (hn:us.length=cs.length) (h1:∀u∈us,u.oneCell'=O) (hr:∀(i:Nat) (x:AV) (u:aj),cs[i]?=Z x->us[i]?=Z u->Rep Γ x u):Rep Γ (.agg cs) (.agg us.toArray)
 |tup (cs:List AV) (us:List aj) (hn:us.length=cs.length) (hr:∀(i:Nat) (x:AV) (u:aj),cs[i]?=Z x->us[i]?=Z u->Rep Γ x u):Rep Γ (.tup cs) (.tuple us.toArray)
 |mp (b:Nat) (h:b<Γ.nb):Rep Γ (.mp b) (.map (Z (Γ.β b)))
structure RepL (Γ:Gh) (cs:List AV) (us:List aj):Prop where
 len:us.length=cs.length
 rep:∀(i:Nat) (x:AV) (u:aj),cs[i]?=Z x->us[i]?=Z u->Rep Γ x u
structure Le (Γ Γ':Gh):Prop where
 mem:∀b o u,Γ.mem b o=Z u->Γ'.mem b o=Z u
 nb:Γ.nb<=Γ'.nb
 β:∀i,i<Γ.nb->Γ'.β i=Γ.β i
 nr:Γ.nr<=Γ'.nr
 k:∀r,r<Γ.nr->Γ'.k r=Γ.k r
 ver:∀r,r<Γ.nr->Γ.ver r<=Γ'.ver r
 loc:∀r,r<Γ.nr->Γ'.ver r=Γ.ver r->Γ'.cur r=Γ.cur r/\Γ'.sz r=Γ.sz r/\Γ'.of r=Γ.of r
def Le.refl(Γ:Gh):Le Γ Γ:=⟨λ _ _ _ h=>h,ak _,λ _ _=>rfl,ak _,λ _ _=>rfl,λ _ _=>ak _,λ _ _ _=>⟨rfl,rfl,rfl⟩⟩
def Le.trans{a b c:Gh}(h:Le a b)(g:Le b c):Le a c where
 mem:=λ x o u e=>g.mem _ _ _ (h.mem _ _ _ e)
 nb:=bL h.nb g.nb
 β:=λ i f=>(g.β i (dl f h.nb)).trans (h.β i f)
 nr:=bL h.nr g.nr
 k:=λ r d=>(g.k r (dl d h.nr)).trans (h.k r d)
 ver:=λ r d=>bL (h.ver r d) (g.ver r (dl d h.nr))
 loc:=λ r d e=>by
  have t:=h.ver r d;have s:=g.ver r (dl d h.nr);let⟨q,p,n⟩:=h.loc r d (by omega);let⟨m,l,j⟩:=g.loc r (dl d h.nr) (by omega);exact⟨m.trans q,l.trans p,j.trans n⟩
def Rep.mono{Γ Γ':Gh}(d:Le Γ Γ'){x:AV}{u:aj}(h:Rep Γ x u):Rep Γ' x u:=by
 induction h with
 |v x h=>exact .v x h
 |dead u=>exact .dead u
 |sl k I f a n cap b o us m y w F t H G p c g=>exact .sl k I f a n cap b o us m y w F t H G (λ i e j x l z=>d.mem _ _ _ (p i e j x l z)) (λ i e j x l z=>g i e j x l z)
 |rs r lo n B f a cap c s y w q=>
   have l:=d.ver r c;refine .rs r lo n B f a cap (dl c d.nr) (bL s l) y w λ p=>?_;let⟨e1,D,C⟩:=d.loc r c (by omega);rw[e1,D,C,d.k r c];exact q (by omega)
 |ptr b o h=>rw[<-d.β b h];exact .ptr b o (dl h d.nb)
 |rpt r i o B A c s q=>
   have l:=d.ver r c;refine .rpt r i o B A (dl c d.nr) (bL s l) λ p=>?_;let⟨e1,D,C⟩:=d.loc r c (by omega);rw[e1,C,d.k r c];exact q (by omega)
 |ept cs o b E us t p c g=>exact .ept cs o b E us t (λ j x h=>d.mem _ _ _ (p j x h)) g
 |fn f cs us m c g=>exact .fn f cs us m g
 |agg cs us m l c g=>exact .agg cs us m l g
 |tup cs us m c g=>exact .tup cs us m g
 |mp b h=>rw[<-d.β b h];exact .mp b (dl h d.nb)
def RepL.mono{Γ Γ':Gh}(c:Le Γ Γ'){cs:aa AV}{us:aa aj}(h:RepL Γ cs us):RepL Γ' cs us:=⟨h.len,λ i x u a b=>(h.rep i x u a b).mono c⟩
def RepL.nil{Γ:Gh}:RepL Γ [] []:=⟨rfl,λ i x u h=>by simp at h⟩
def RepL.cons{Γ:Gh}{x:AV}{u:aj}{cs:aa AV}{us:aa aj}(h:Rep Γ x u)(t:RepL Γ cs us):RepL Γ (x::cs) (u::us):=by
 refine⟨by simp[t.len],λ i y v a b=>?_⟩;cases i with
 |zero=>simp at a b;subst a;subst b;exact h
 |succ i=>simp at a b;exact t.rep i y v a b
def RepL.uncons{Γ:Gh}{x:AV}{cs:aa AV}{us:aa aj}(h:RepL Γ (x::cs) us):∃u r,us=u::r/\Rep Γ x u/\RepL Γ cs r:=by
 let⟨d,c⟩:=h;cases us with
 |nil=>simp at d
 |cons u r=>exact⟨u,r,rfl,c 0 x u rfl rfl,by simpa using d,λ i y v a b=>c (i+1) y v (by simpa using a) (by simpa using b)⟩
def RepL.nil_inv{Γ:Gh}{us:aa aj}(h:RepL Γ [] us):us=[]:=yH.1 h.len
theorem RepL.get{Γ:Gh}{cs:aa AV}{us:aa aj}(h:RepL Γ cs us){i:Nat}{x:AV}(a:cs[i]?=Z x):∃u,us[i]?=Z u/\Rep Γ x u:=by
 have b:i<X us:=by rw[h.len];exact(ft.1 a).1
 exact⟨us[i],aS b,h.rep i x _ a (aS b)⟩
def RepL.append{Γ:Gh}{a b:aa AV}{u v:aa aj}(h:RepL Γ a u)(g:RepL Γ b v):RepL Γ (a++b) (u++v):=by
 induction a generalizing u with
 |nil=>rw[h.nil_inv];exact g
 |cons x a c=>
   obtain⟨y,r,rfl,e,d⟩:=h.uncons;exact RepL.cons e (c d)
def RepL.take{Γ:Gh}{a:aa AV}{u:aa aj}(h:RepL Γ a u)(n:Nat):RepL Γ (a.take n) (u.take n):=by
 refine⟨by simp[h.len],λ i x w b c=>?_⟩;rw[fM]at b c;split at b
 .next d=>rw[af d]at c;exact h.rep i x w b c
 .cases b
def RepL.drop{Γ:Gh}{a:aa AV}{u:aa aj}(h:RepL Γ a u)(n:Nat):RepL Γ (a.drop n) (u.drop n):=by
 refine⟨by simp[h.len],λ i x w b c=>?_⟩;rw[iJ]at b c;exact h.rep _ x w b c
theorem RepL.set{Γ:Gh}{a:aa AV}{u:aa aj}(h:RepL Γ a u)(n:Nat){x:AV}{y:aj}(d:Rep Γ x y):RepL Γ (a.set n x) (u.set n y):=by
 refine⟨by simp[h.len],λ i x' w b c=>?_⟩;rw[oq]at b c;have f:=h.len;split at b
 .grind
 .next e=>rw[ae e]at c;exact h.rep i x' w b c
def Xd{x:aj}(h:cj x=O):x.oneCell'=O:=by
 cases x<;>simp_all [cj,Value.oneCell']
def Rep.one{Γ:Gh}{x:AV}{u:aj}(h:Rep Γ x u)(a:isC x=O):u.oneCell'=O:=by
 cases h<;>first|(exact Xd ‹_›)|rfl|(simp[isC]at a)
def qnI{u:aj}(h:u.oneCell'=O):u.cells = #[u]:=by
 cases u<;>simp_all [Value.oneCell',Value.cells]
def Rep.cells{Γ:Gh}{x:AV}{u:aj}(h:Rep Γ x u)(f:(cellsOf x).all isC=O):RepL Γ (cellsOf x) (V u.cells)/\∀y∈V u.cells,y.oneCell'=O:=by
 have c:isC x=O->cellsOf x=[x]->RepL Γ (cellsOf x) (V u.cells)/\∀y∈V u.cells,y.oneCell'=O:=by
  intro d k;rw[k,qnI (h.one d)];exact⟨RepL.cons h RepL.nil,by intro y e;simp at e;subst e;exact h.one d⟩
 cases h with
 |agg cs us j d g=>exact⟨⟨by simpa[Value.cells,cellsOf]using j,λ i x u a b=>g i x u a (by simpa[Value.cells]using b)⟩,by simpa[Value.cells]using d⟩
 |v x h=>exact c rfl rfl
 |dead u=>simp[cellsOf,isC]at f
 |sl|rs|ptr|rpt|ept|fn=>exact c rfl rfl
 |tup=>simp[cellsOf,isC]at f
 |mp=>exact c rfl rfl
def Rep.cells_len{Γ:Gh}{x:AV}{u:aj}(h:Rep Γ x u)(a:(cellsOf x).all isC=O):u.cells.size=X (cellsOf x):=by
 have:=(h.cells a).1.len;simpa using this
def xm(Γ:Gh)(w:aA)(b:Nat)(cs:aa AV):Prop:=
 ∃vs e,w.heap[b]?=Z (.cells vs e (0,0))/\RepL Γ cs (V vs)/\∀u∈V vs,u.oneCell'=O
def OR(Γ:Gh)(b:aa KC)(c a:Bool)(k v:aa AV)(e:MapEntry):Prop:=
 Rep Γ (fh c k) e.key/\Rep Γ (fh a v) e.val/\ci b k=O/\v.all br=O
structure ky (Γ:Gh) (w:aA) (b:Nat) (kc:List KC) (ka va:Bool) (ks vs:List (List AV)):Prop where
 len:vs.length=ks.length
 obj:∃es clock,w.heap[b]?=Z (.map es clock)/\es.size=ks.length/\∀(j:Nat) (k v:List AV) (e:MapEntry),ks[j]?=Z k->vs[j]?=Z v->es[j]?=Z e->OR Γ kc ka va k v e
def fj(Γ:Gh)(w:aA)(i:Nat):aa AV->Prop
 |[.mc c d a b vs]=>ky Γ w (Γ.β i) c d a b vs
 |cs=>xm Γ w (Γ.β i) cs
def fj.cells{Γ:Gh}{w:aA}{i:Nat}{cs:aa AV}(h:fj Γ w i cs)(a:noMc cs=O):xm Γ w (Γ.β i) cs:=by
 unfold fj at h;split at h
 .cases a
 .exact h
def Zf{Γ:Gh}{c:aa KC}{d a:Bool}{b vs:aa (aa AV)}{u:aj}(h:Rep Γ (.mc c d a b vs) u):False:=by cases h
def xm.noMc{Γ:Gh}{w:aA}{b:Nat}{cs:aa AV}(h:xm Γ w b cs):noMc cs=O:=by
 let⟨vs,e,d,a,c⟩:=h;unfold Go.AmZ.noMc;split
 .let⟨u,_,h⟩:=a.get (i:=0) rfl;exact(Zf h).elim
 .rfl
def fj.of{Γ:Gh}{w:aA}{i:Nat}{cs:aa AV}(h:xm Γ w (Γ.β i) cs):fj Γ w i cs:=by
 have a:=h.noMc;unfold fj;split
 .cases a
 .exact h
def fj.split{Γ:Gh}{w:aA}{i:Nat}{cs:aa AV}(h:fj Γ w i cs):xm Γ w (Γ.β i) cs\/∃c d a b vs,cs=[.mc c d a b vs]/\ky Γ w (Γ.β i) c d a b vs:=by
 unfold fj at h;grind
def qle(a:aa KC)(k:aa AV):ci a k=O->k.all br=O:=by
 fun_induction ci a k<;>simp_all [br]
def ky.to{Γ Γ':Gh}{w w':aA}{b D:Nat}{A:aa KC}{B t:Bool}{z vs:aa (aa AV)}(h:ky Γ w b A B t z vs)(G:∀o,w.heap[b]?=Z o->w'.heap[D]?=Z o)(C:∀x u,Rep Γ x u->rb x=[]->rr x=[]->Rep Γ' x u):ky Γ' w' D A B t z vs:=by
 let⟨L,P,d,K,I,H⟩:=h;refine⟨L,P,d,G _ K,I,λ j k v e a b c=>?_⟩;let⟨N,M,q,p⟩:=H j k v e a b c
 have i:∀(g:Bool) (cs:aa AV),cs.all br=O->rb (fh g cs)=[]/\rr (fh g cs)=[]:=by
  intro g cs n;have f:∀x,br x=O->rb x=[]/\rr x=[]:=λ x F=>by cases x<;>first|exact⟨rfl,rfl⟩|(simp[br]at F)
  have all:∀l:aa AV,l.all br=O->rbL l=[]/\rrL l=[]:=by
   intro l
   induction l with
   |nil=>exact λ _=>⟨rfl,rfl⟩
   |cons x l E=>
     intro m;rw[dy,aJ]at m;let⟨s,r⟩:=f x m.1;let⟨R,Q⟩:=E m.2;exact⟨by rw[rbL,s,R];rfl,by rw[rrL,r,Q];rfl⟩
  cases g with
  |true=>let⟨s,r⟩:=all cs n;exact⟨by rw[fh,rb,s],by rw[fh,rr,r]⟩
  |false=>
    unfold fh;split
    .cases ‹_›
    .split
     .rw[dy,aJ]at n;exact f _ n.1
     .exact⟨rfl,rfl⟩
 have y:=qle;exact⟨C _ _ N (i _ _ (y _ _ q)).1 (i _ _ (y _ _ q)).2,C _ _ M (i _ _ p).1 (i _ _ p).2,q,p⟩
def ky.lift{Γ Γ':Gh}{w w':aA}{b f:Nat}{d:aa KC}{e a:Bool}{c vs:aa (aa AV)}(h:ky Γ w b d e a c vs)(i:Le Γ Γ')(j:∀o,w.heap[b]?=Z o->w'.heap[f]?=Z o):ky Γ' w' f d e a c vs:=h.to j λ _ _ g _ _=>g.mono i
def fj.to{Γ Γ':Gh}{w w':aA}{i c:Nat}{cs:aa AV}(f:AV->AV)(h:fj Γ w i cs)(g:∀o,w.heap[Γ.β i]?=Z o->w'.heap[Γ'.β c]?=Z o)(d:∀x u,Rep Γ x u->(x∈cs\/rb x=[]/\rr x=[])->Rep Γ' (f x) u)(k:∀x,rb x=[]->rr x=[]->f x=x):fj Γ' w' c (cs.map f):=by
 obtain⟨vs,e,r,l,q⟩|⟨v,z,s,t,vs,rfl,p⟩:=h.split
 .refine .of ⟨vs,e,g _ r,⟨by rw[bO];exact l.len,λ j x u a n=>?_⟩,q⟩;rw[df]at a;cases b:cs[j]? with
  |none=>rw[b]at a;cases a
  |some y=>
    rw[b]at a;cases a;exact d y u (l.rep j y u b n) (.inl (aK b))
 .rw[aU,Ju,k _ rfl rfl];exact p.to g λ x u a e1 m=>by have:=d x u a (.inr ⟨e1,m⟩);rwa [k x e1 m]at this
def fj.to'{Γ Γ':Gh}{w w':aA}{i a:Nat}{cs:aa AV}(h:fj Γ w i cs)(c:∀o,w.heap[Γ.β i]?=Z o->w'.heap[Γ'.β a]?=Z o)(b:∀x u,Rep Γ x u->(x∈cs\/rb x=[]/\rr x=[])->Rep Γ' x u):fj Γ' w' a cs:=by
 have:=h.to id c b λ _ _ _=>rfl
 rwa [List.map_id]at this
def vc(n:Nat)(fr:Nat×Nat):Prop:=∀j,j<n->¬ (fr.1<=j/\j<fr.2)
def IV(n:Nat):vc n (0,0):=λ j _ h=>absurd h.2 (eY j)
structure mY (Γ:Gh) (w:aA) (r:Nat) (R:Row):Prop where
 k:R.k=Γ.k r
 ver:R.fz<=R.c.length->R.ver=Γ.ver r
 pos:0<R.k
 len:∀e∈R.c,e.length=R.k
 plain:∀e∈R.c,∀x∈e,br x=O
 fz:R.c=[]\/R.fz<=R.c.length
 blk:Γ.sz r≠0->∃vs e fr,w.heap[Γ.cur r]?=Z (.cells vs e fr)/\vs.size=Γ.sz r/\vc vs.size fr/\fr=(0,0)
 fit:Γ.of r+R.c.length*R.k<=Γ.sz r
 un:Γ.sz r≠0->∀off,Γ.of r+R.fz*R.k<=off->Γ.mem (Γ.cur r) off=U
 cells:∀(i:Nat) (e:List AV) (j:Nat) (x:AV),R.c[i]?=Z e->e[j]?=Z x->∃u,w.cell? ⟨Γ.cur r,Γ.of r+(i*R.k+j),U⟩=Z u/\Rep Γ x u/\u.oneCell'=O
 nbx:Γ.sz r≠0->∀i,i<Γ.nb->Γ.β i≠Γ.cur r
 off:R.off=Y->Γ.of r=0
structure Inv (Γ:Gh) (I:St) (w:aA):Prop where
 nb:Γ.nb=I.bx.length
 nr:Γ.nr=I.rw.length
 mem:∀b o u,Γ.mem b o=Z u->w.cell? ⟨b,o,U⟩=Z u/\u.oneCell'=O
 box:∀i cs,I.bx[i]?=Z cs->fj Γ w i cs
 inj:∀i j,i<Γ.nb->j<Γ.nb->Γ.β i=Γ.β j->i=j
 boxmem:∀i,i<Γ.nb->∀o,Γ.mem (Γ.β i) o=U
 row:∀r R,I.rw[r]?=Z R->mY Γ w r R
 apart:∀r r',r<Γ.nr->r'<Γ.nr->r≠r'->Γ.sz r≠0->Γ.sz r'≠0->Γ.cur r≠Γ.cur r'
def gY(Γ:Gh)(b:Nat):Prop:=(∃i,i<Γ.nb/\Γ.β i=b)\/∃r,r<Γ.nr/\Γ.sz r≠0/\Γ.cur r=b
structure Ext (Γ:Gh) (w:aA) (Γ':Gh) (w':aA):Prop where
 le:Le Γ Γ'
 os:w'.os=w.os
 tape:w'.tape=w.tape
 output:w'.output=w.output
 size:w.heap.size<=w'.heap.size
 block:∀b,b<w.heap.size->¬ gY Γ b->w'.heap[b]?=w.heap[b]?
 own:∀b,gY Γ' b->gY Γ b\/w.heap.size<=b
 memg:∀b o u,Γ'.mem b o=Z u->Γ.mem b o=Z u\/gY Γ b\/w.heap.size<=b
 drawn:w.drawn<=w'.drawn
def Ext.refl(Γ:Gh)(w:aA):Ext Γ w Γ w:=⟨.refl _,rfl,rfl,rfl,ak _,λ _ _ _=>rfl,λ _ h=>.inl h,λ _ _ _ h=>.inl h,ak _⟩
def Ext.trans{Γ e d:Gh}{w i f:aA}(h:Ext Γ w e i)(g:Ext e i d f):Ext Γ w d f where
 le:=h.le.trans g.le
 os:=g.os.trans h.os
 tape:=g.tape.trans h.tape
 output:=g.output.trans h.output
 size:=bL h.size g.size
 block:=λ b c j=>(g.block b (dl c h.size) λ k=>(h.own b k).elim j λ a=>by omega).trans (h.block b c j)
 own:=λ b c=>(g.own b c).elim (h.own b) λ a=>.inr (bL h.size a)
 memg:=λ b o u c=>(g.memg b o u c).elim (h.memg b o u) λ a=>.inr (a.elim (h.own b) λ a=>.inr (bL h.size a))
 drawn:=bL h.drawn g.drawn
def Inv.drew{Γ:Gh}{I:St}{w:aA}(h:Inv Γ I w):Inv Γ I {w with drawn:=w.drawn+1}:=by
 refine⟨h.nb,h.nr,λ b o u e=>h.mem b o u e,λ i cs e=>?_,h.inj,h.boxmem,λ r R e=>?_,h.apart⟩
 .obtain j|⟨v,x,s,t,vs,rfl,l⟩:=(h.box i cs e).split
  .exact .of j
  .exact l.to (λ _ h=>h) λ _ _ h _ _=>h
 let⟨a,b,c,d,e1,f,g,j,q,p,n,m⟩:=h.row r R e;exact⟨a,b,c,d,e1,f,g,j,q,p,n,m⟩
def Ext.drew(Γ:Gh)(w:aA):Ext Γ w Γ {w with drawn:=w.drawn+1}:=⟨.refl _,rfl,rfl,rfl,ak _,λ _ _ _=>rfl,λ _ h=>.inl h,λ _ _ _ h=>.inl h,eB _⟩
def YT{w:aA}{b o:Nat}{u:aj}(h:w.cell? ⟨b,o,U⟩=Z u):b<w.heap.size:=by
 unfold World.cell? at h;grind
def Inv.mem_lt{Γ:Gh}{I:St}{w:aA}(h:Inv Γ I w){b o:Nat}{u:aj}(e:Γ.mem b o=Z u):b<w.heap.size:=YT (h.mem b o u e).1
abbrev vZ:=@RepL.cons
abbrev JI:=@RepL.mono
def qS{w w'}(a:Below w.heap.size w w'){b:Nat}{o}(h:w.heap[b]?=Z o):w'.heap[b]?=Z o:=by
 have:=(eC.1 h).1;rw[a.block b this];exact h
def Ui{w w'}(a:Below w.heap.size w w'){b o u}(h:w.cell? ⟨b,o,U⟩=Z u):w'.cell? ⟨b,o,U⟩=Z u:=by
 rw[a.cell (YT h)];exact h
theorem kY{w:aA}{b vs e fr}(h:w.heap[b]?=Z (.cells vs e fr))(off):w.cell? ⟨b,off,U⟩=vs[off]?:=by
 unfold World.cell?;grind
def getElem?_lt' {α:Type}{l:aa α}{i:Nat}{x:α}(h:l[i]?=Z x):i<X l:=(ft.1 h).1
def mY.lift{Γ Γ' w w' r R}(h:mY Γ w r R)(A:r<Γ.nr)(l:Le Γ Γ')(d:Γ'.ver r=Γ.ver r)(Q:Γ.sz r≠0->∀z,w.heap[Γ.cur r]?=Z z->w'.heap[Γ.cur r]?=Z z)(F:Γ.sz r≠0->∀off,Γ.mem (Γ.cur r) off=U->Γ'.mem (Γ.cur r) off=U)(p:Γ.sz r≠0->∀i,i<Γ'.nb->Γ.nb<=i->Γ'.β i≠Γ.cur r):mY Γ' w' r R:=by
 let⟨k,n,pos,o,C,N,v,M,L,K,I,H⟩:=h;let⟨g,b,c⟩:=l.loc r A d;refine⟨k.trans (l.k r A).symm,λ E=>(n E).trans d.symm,pos,o,C,N,λ a=>?_,by rw[b,c];exact M,λ a off B=>by rw[b]at a;rw[c]at B;rw[g];exact F a off (L a off B),?_,?_,λ h=>c.trans (H h)⟩
 .grind
 .intro i P j x m G
  have a:Γ.sz r≠0:=by
   have s:=getElem?_lt' m;have:=Qq (Qs (aG _) s) pos;omega
  let⟨vs,e,fr,v,S,_⟩:=v a;let⟨u,D,q,y⟩:=K i P j x m G;refine⟨u,?_,q.mono l,y⟩;rw[kY v]at D;grind [kY]
 .intro a i m t;rw[b]at a;rw[g]at t;by_cases f:i<Γ.nb
  .exact I a i f (by rw[<-l.β i f];exact t)
  .exact p a i m (by omega) t
def fj.lift{Γ Γ' w w' i cs}(h:fj Γ w i cs)(b:i<Γ.nb)(a:Le Γ Γ')(c:∀o,w.heap[Γ.β i]?=Z o->w'.heap[Γ.β i]?=Z o):fj Γ' w' i cs:=by
 obtain⟨vs,e,j,g,f⟩|⟨m,n,k,l,vs,rfl,d⟩:=h.split
 .exact .of ⟨vs,e,by rw[a.β i b];exact c _ j,g.mono a,f⟩
 .exact d.lift a (by rw[a.β i b];exact c)
def fj.heap{Γ w i cs}(h:fj Γ w i cs):∃o,w.heap[Γ.β i]?=Z o:=by
 obtain⟨vs,e,b,_⟩|⟨f,g,c,d,vs,rfl,_,j,a,b,_⟩:=h.split<;>exact⟨_,b⟩
def getElem?_lt {α:Type}{l:aa α}{i:Nat}{x:α}(h:l[i]?=Z x):i<X l:=(ft.1 h).1
def xa{Γ w w'}(a:Below w.heap.size w w')(c:w.drawn<=w'.drawn):Ext Γ w Γ w':=⟨.refl _,a.os,a.tape,a.output,a.size,λ b d _=>a.block b d,λ _ h=>.inl h,λ _ _ _ h=>.inl h,c⟩
def Inv.box_lt{Γ I w}(h:Inv Γ I w){i}(b:i<Γ.nb):Γ.β i<w.heap.size:=by
 have a:=h.nb▸b;let⟨o,c⟩:=(h.box i _ (aS a)).heap;grind
def Inv.cur_lt{Γ I w}(h:Inv Γ I w){r}(c:r<Γ.nr)(b:Γ.sz r≠0):Γ.cur r<w.heap.size:=by
 have a:=h.nr▸c;let⟨vs,e,fr,f,d,_⟩:=(h.row r _ (aS a)).blk b;grind
def mY.live{Γ w r R}(h:mY Γ w r R){i:Nat}{e}(b:R.c[i]?=Z e):R.fz<=X R.c:=h.fz.resolve_left λ a=>by grind
def mY.liveN{Γ w r R}(h:mY Γ w r R){m n}(b:m+n<=X R.c)(a:0<n):R.fz<=X R.c:=h.fz.resolve_left λ d=>by grind
def mY.real{Γ w r R}(h:mY Γ w r R){i:Nat}{e}(b:R.c[i]?=Z e):Γ.sz r≠0:=by
 have a:=getElem?_lt' b;have:=Qq (Qs (aG _) a) h.pos;have:=h.fit;omega
def Inv.later{Γ I w w'}(h:Inv Γ I w)(c:Below w.heap.size w w'):Inv Γ I w' where
 nb:=h.nb
 nr:=h.nr
 mem:=λ b o u e=>⟨Ui c (h.mem b o u e).1,(h.mem b o u e).2⟩
 box:=λ i cs e=>(h.box i cs e).lift (by rw[h.nb];exact getElem?_lt e) (.refl _) λ o a=>qS c a
 inj:=h.inj
 boxmem:=h.boxmem
 row:=λ r R e=>(h.row r R e).lift (by rw[h.nr];exact getElem?_lt e) (.refl _) rfl (λ _ f a=>qS c a) (λ _ _ d=>d) λ _ i j g=>by omega
 apart:=h.apart
def UA{Γ I w}(h:Inv Γ I w){cs k}(B:∀Γ',Le Γ Γ'->Γ'.β Γ.nb=w.heap.size->fj Γ' (w.alloc k) Γ.nb cs):
  ∃Γ',Ext Γ w Γ' (w.alloc k)/\Inv Γ' {I with bx:=I.bx++[cs]} (w.alloc k)/\X I.bx<Γ'.nb/\Γ'.β (X I.bx)=w.heap.size:=by
 have v:Below w.heap.size w (w.alloc k):=(Below.refl _ _).alloc (ak _) _;let Γ':Gh:={Γ with nb:=Γ.nb+1,β:=λ i=>if i=Γ.nb then w.heap.size else Γ.β i}
 have c:∀i,i<Γ.nb->Γ'.β i=Γ.β i:=λ i e=>ifN;have a:Γ'.β Γ.nb=w.heap.size:=af rfl;have f:Le Γ Γ':=⟨λ _ _ _ h=>h,eB _,c,ak _,λ _ _=>rfl,λ _ _=>ak _,λ _ _ _=>⟨rfl,rfl,rfl⟩⟩
 have s:=h.later v;refine⟨Γ',⟨f,rfl,rfl,rfl,v.size,λ b C _=>v.block b C,?_,λ _ _ _ h=>.inl h,ak _⟩,⟨?_,h.nr,s.mem,?_,?_,?_,?_,h.apart⟩,?_⟩
 .rintro b (⟨i,e,rfl⟩|n)
  .by_cases d:i=Γ.nb
   .grind
   .left;left;exact⟨i,by show i<Γ.nb;have:i<Γ.nb+1:=e;omega,(c i (by grind)).symm⟩
  .exact .inl (.inr n)
 .show Γ.nb+1=X (I.bx++[cs]);simp[h.nb]
 .intro i cs' e;rw[Jv]at e;split at e
  .next p=>exact(h.box i cs' e).lift (by rw[h.nb];exact p) f λ o n=>qS v n
  .rename_i p
   have z:i-X I.bx=0:=by
    grind
   rw[z]at e;simp at e;subst e;have y:i=Γ.nb:=by rw[h.nb];omega
   rw[y];exact B Γ' f a
 .intro i j e E g;have t:i<Γ.nb+1:=e;have D:j<Γ.nb+1:=E;by_cases d:i=Γ.nb<;>by_cases q:j=Γ.nb
  .rw[d,q]
  .rw[d,a,c j (by omega)]at g;have:=h.box_lt (i:=j) (by omega);omega
  .rw[q,a,c i (by omega)]at g;have:=h.box_lt (i:=i) (by omega);omega
  .rw[c i (by omega),c j (by omega)]at g;exact h.inj i j (by omega) (by omega) g
 .intro i e o;have t:i<Γ.nb+1:=e;by_cases d:i=Γ.nb
  .rw[d,a];cases x:Γ.mem w.heap.size o with
   |none=>rfl
   |some u=>have:=h.mem_lt x;omega
  .rw[c i (by omega)];exact h.boxmem i (by omega) o
 .intro r R m;have l:r<Γ.nr:=by rw[h.nr];exact getElem?_lt m
  refine(h.row r R m).lift l f rfl (λ _ k n=>qS v n) (λ _ _ x=>x) λ A i e F g=>?_;have t:i<Γ.nb+1:=e;have d:i=Γ.nb:=by omega
  rw[d,a]at g;have:=h.cur_lt l A;omega
 .rw[<-h.nb];grind
def U5{Γ I w}(h:Inv Γ I w){cs vs}(g:RepL Γ cs vs)(j:∀u∈vs,u.oneCell'=O)(e):
  ∃Γ',Ext Γ w Γ' (w.alloc (.cells vs.toArray e))/\Inv Γ' {I with bx:=I.bx++[cs]} (w.alloc (.cells vs.toArray e))/\Rep Γ' (.ptr (X I.bx) 0) (.pointer (Z ⟨w.heap.size,0,U⟩)):=by
 obtain⟨Γ',a,b,c,d⟩:=UA h λ Γ' i f=>.of ⟨vs.toArray,e,by rw[f];exact heap_alloc_new w _,by simpa using g.mono i,by simpa using j⟩;exact⟨Γ',a,b,by rw[<-d];exact .ptr _ _ c⟩
def qnm{Γ I w}(h:Inv Γ I w)(kc ka va):
  ∃Γ',Ext Γ w Γ' (w.alloc (.map #[] 0))/\Inv Γ' {I with bx:=I.bx++[[.mc kc ka va [] []]]} (w.alloc (.map #[] 0))/\Rep Γ' (.mp (X I.bx)) (.map (Z w.heap.size)):=by
 obtain⟨Γ',a,b,c,d⟩:=UA h (cs:=[.mc kc ka va [] []]) λ Γ' i f=>⟨rfl,#[],0,by rw[f];exact heap_alloc_new w _,rfl,λ j k v e g=>by simp at g⟩
 exact⟨Γ',a,b,by rw[<-d];exact .mp _ c⟩
def qm4{Γ I w}(h:Inv Γ I w){vs:aa aj}(y:∀u∈vs,u.oneCell'=O)(e):
  ∃Γ',Ext Γ w Γ' (w.alloc (.cells vs.toArray e))/\Inv Γ' I (w.alloc (.cells vs.toArray e))/\∀j u,vs[j]?=Z u->Γ'.mem w.heap.size j=Z u:=by
 have m:Below w.heap.size w (w.alloc (.cells vs.toArray e)):=(Below.refl _ _).alloc (ak _) _;let Γ':Gh:={Γ with mem:=λ b o=>if b=w.heap.size then vs[o]? else Γ.mem b o}
 have n:∀b o u,Γ.mem b o=Z u->b≠w.heap.size:=λ b o u e k=>by have:=h.mem_lt e;omega
 have c:Le Γ Γ':=⟨λ b o u e=>by show(if b=w.heap.size then vs[o]? else Γ.mem b o)=Z u;rw[ae (n b o u e)];exact e,ak _,λ _ _=>rfl,ak _,λ _ _=>rfl,λ _ _=>ak _,λ _ _ _=>⟨rfl,rfl,rfl⟩⟩
 have g:=h.later m;refine⟨Γ',⟨c,rfl,rfl,rfl,m.size,λ b v _=>m.block b v,λ b f=>.inl f,λ b o u t=>?_,ak _⟩,⟨h.nb,h.nr,?_,?_,h.inj,?_,?_,h.apart⟩,?_⟩
 .grind
 .intro b o u k;have a:(if b=w.heap.size then vs[o]? else Γ.mem b o)=Z u:=k;by_cases l:b=w.heap.size
  .rw[af l]at a;refine⟨?_,y u (aK a)⟩;simp_all
  .rw[ae l]at a;exact g.mem b o u a
 .intro i cs k;exact(h.box i cs k).lift (by rw[h.nb];exact getElem?_lt k) c λ o f=>qS m f
 .intro i p o;show(if Γ.β i=w.heap.size then vs[o]? else Γ.mem (Γ.β i) o)=U;have:=h.box_lt p;rw[ifN];exact h.boxmem i p o
 .intro r R q;have d:r<Γ.nr:=by rw[h.nr];exact getElem?_lt q
  refine(h.row r R q).lift d c rfl (λ _ z f=>qS m f) (λ s off t=>?_) λ _ i p A=>by grind
  have x:=h.cur_lt d s;grind
 .grind
def Uo{Γ I w}(h:Inv Γ I w){b cs cs'}(D:I.bx[b]?=Z cs)(wl w')(F:fj Γ w' b cs')(q:∀k,k≠Γ.β b->w'.heap[k]?=w.heap[k]?)(t:w'.os=w.os)(s:w'.tape=w.tape)(l:w'.output=w.output)(B:w'.heap.size=w.heap.size)(y:w.drawn<=w'.drawn):
  Ext Γ w Γ w'/\Inv Γ {I with bx:=I.bx.set b cs',wr:=wl} w':=by
 have c:b<Γ.nb:=by rw[h.nb];exact getElem?_lt D
 have f:∀k o,k≠Γ.β b->w'.cell? ⟨k,o,U⟩=w.cell? ⟨k,o,U⟩:=λ k o d=>by unfold World.cell?;rw[q k d]
 have a:∀k o u,Γ.mem k o=Z u->k≠Γ.β b:=λ k o u e d=>by rw[d,h.boxmem b c o]at e;cases e
 refine⟨⟨.refl _,t,s,l,by omega,λ k _ z=>q k λ d=>z (.inl ⟨b,c,d.symm⟩),λ _ h=>.inl h,λ _ _ _ h=>.inl h,y⟩,⟨?_,h.nr,?_,?_,h.inj,h.boxmem,?_,h.apart⟩⟩
 .show Γ.nb=X (I.bx.set b cs');rw[fw];exact h.nb
 .intro k o u e;rw[f k o (a k o u e)];exact h.mem k o u e
 .intro i p n;rw[oq]at n;split at n
  .grind
  .rename_i v;have m:i<Γ.nb:=by rw[h.nb];exact getElem?_lt n
   refine(h.box i p n).lift m (.refl _) λ o g=>?_;rw[q _ λ x=>v (h.inj b i c m x.symm)];exact g
 .intro r R j;have H:=h.row r R j;refine H.lift (by rw[h.nr];exact getElem?_lt j) (.refl _) rfl (λ A E d=>?_) (λ _ _ C=>C) λ _ i n z=>by omega
  rw[q _ λ x=>H.nbx A b c x.symm];exact d
def qms{Γ I w}(h:Inv Γ I w){b cs cs'}(i:I.bx[b]?=Z cs)(n:noMc cs=O){vs'}(l:RepL Γ cs' vs')(o:∀u∈vs',u.oneCell'=O)(wl w')(j:∀vs e,w.heap[Γ.β b]?=Z (.cells vs e (0,0))->w'.heap[Γ.β b]?=Z (.cells vs'.toArray e (0,0)))(m:∀k,k≠Γ.β b->w'.heap[k]?=w.heap[k]?)(f:w'.os=w.os)(c:w'.tape=w.tape)(a:w'.output=w.output)(d:w'.heap.size=w.heap.size)(g:w.drawn<=w'.drawn):
  Ext Γ w Γ w'/\Inv Γ {I with bx:=I.bx.set b cs',wr:=wl} w':=by
 let⟨vs,e,p,_⟩:=(h.box b cs i).cells n;exact Uo h i wl w' (.of ⟨vs'.toArray,e,j vs e p,by simpa using l,by simpa using o⟩) m f c a d g
def qn8{Γ:Gh}{I:St}{w w':aA}(h:Inv Γ I w){k:Nat}(hk:0<k){c:aa (aa AV)}(H:∀e∈c,X e=k)(an:∀e∈c,∀x∈e,br x=O){vs:aL aj}(Q:X c*k<=vs.size)
  (n:∀(i:Nat) (e:aa AV) (j:Nat) (x:AV),c[i]?=Z e->e[j]?=Z x->∃u,vs[i*k+j]?=Z u/\Rep Γ x u/\u.oneCell'=O) {e:aQ}{cap:Nat} (hc:X c<=cap) (a1:cap*k<=vs.size) (A:Below w.heap.size w w') (a0:w.drawn<=w'.drawn) {g:Nat} (hg:w.heap.size<=g) {fr:Nat×Nat} (S:vc vs.size fr) (az:fr=(0,0)) (z:w'.heap[g]?=Z (.cells vs e fr)):
  ∃Γ',Ext Γ w Γ' w'/\Inv Γ' {I with rw:=I.rw++[⟨k,c,0,0,Y⟩]} w'/\Rep Γ' (.rs (X I.rw) 0 (X c) 0 Y) (.slice (Z ⟨g,0,U⟩) (X c) cap):=by
 let Γ':Gh:={Γ with nr:=Γ.nr+1,ver:=λ r=>if r=Γ.nr then 0 else Γ.ver r,k:=λ r=>if r=Γ.nr then k else Γ.k r,cur:=λ r=>if r=Γ.nr then g else Γ.cur r,sz:=λ r=>if r=Γ.nr then vs.size else Γ.sz r,of:=λ r=>if r=Γ.nr then 0 else Γ.of r}
 have D:∀r,r<Γ.nr->Γ'.ver r=Γ.ver r:=λ r n=>ifN;have ax:∀r,r<Γ.nr->Γ'.k r=Γ.k r:=λ r n=>ifN;have f:∀r,r<Γ.nr->Γ'.cur r=Γ.cur r:=λ r n=>ifN;have d:∀r,r<Γ.nr->Γ'.sz r=Γ.sz r:=λ r n=>ifN;have F:∀r,r<Γ.nr->Γ'.of r=Γ.of r:=λ r n=>ifN;have l:Γ'.of Γ.nr=0:=af rfl;have a:Γ'.cur Γ.nr=g:=af rfl;have p:Γ'.sz Γ.nr=vs.size:=af rfl;have C:Γ'.ver Γ.nr=0:=af rfl;have K:Γ'.k Γ.nr=k:=af rfl;have v:Le Γ Γ':=⟨λ _ _ _ h=>h,ak _,λ _ _=>rfl,eB _,ax,λ r n=>by rw[D r n];exact ak _,λ r n _=>⟨f r n,d r n,F r n⟩⟩
 have L:=h.later A;refine⟨Γ',⟨v,A.os,A.tape,A.output,A.size,λ b P _=>A.block b P,?_,λ _ _ _ h=>.inl h,a0⟩,⟨h.nb,?_,L.mem,?_,h.inj,h.boxmem,?_,?_⟩,?_⟩
 .rintro b (G|⟨r,ad,hz,P⟩)
  .exact .inl (.inl G)
  .by_cases t:r=Γ.nr
   .right;rw[t,a]at P;omega
   .left;right;have m:r<Γ.nr:=by have:r<Γ.nr+1:=ad;omega
    exact⟨r,m,by rw[<-d r m];exact hz,by rw[<-f r m];exact P⟩
 .show Γ.nr+1=X (I.rw++[_]);simp[h.nr]
 .intro i cs N;exact(h.box i cs N).lift (by rw[h.nb];exact getElem?_lt N) v λ o G=>qS A G
 .intro r R B;rw[Jv]at B;split at B
  .rename_i m;have t:r<Γ.nr:=by rw[h.nr];exact m
   exact(h.row r R B).lift t v (D r t) (λ _ ob G=>qS A G) (λ _ _ hm=>hm) λ _ i M hn=>by have:i<Γ.nb:=M;omega
  .rename_i m
   have aE:r-X I.rw=0:=by
    have:=getElem?_lt B;simp at this;omega
   rw[aE]at B;simp at B;subst B;obtain rfl:r=Γ.nr:=by rw[h.nr];omega
   refine⟨K.symm,λ _=>C.symm,hk,H,an,.inr (aG _),λ _=>⟨vs,e,fr,by rw[a];exact z,p.symm,S,az⟩,by rw[p,l,bS];exact Q,?_,?_,?_,λ _=>l⟩
   .intro _ off _;rw[a];show Γ.mem g off=U;cases hm:Γ.mem g off with
    |none=>rfl
    |some u=>have:=h.mem_lt hm;omega
   .intro i e' j x M hj;let⟨u,hu,E,h1⟩:=n i e' j x M hj;refine⟨u,?_,E.mono v,h1⟩;rw[a,l,bS,kY z];exact hu
   .intro _ i M N;have:=h.box_lt (i:=i) M;rw[a]at N;have a4:Γ.β i=g:=N;omega
 .intro r y W T ar s q;have a3:r<Γ.nr+1:=W;have a2:y<Γ.nr+1:=T;by_cases h1:r=Γ.nr<;>by_cases h2:y=Γ.nr
  .omega
  .rw[d y (by omega)]at q;rw[h1,a,f y (by omega)];have:=h.cur_lt (r:=y) (by omega) q;omega
  .rw[d r (by omega)]at s;rw[h2,a,f r (by omega)];have:=h.cur_lt (r:=r) (by omega) s;omega
  .rw[d r (by omega)]at s;rw[d y (by omega)]at q;rw[f r (by omega),f y (by omega)];exact h.apart r y (by omega) (by omega) ar s q
 .refine .rs _ _ _ _ _ _ _ (by show X I.rw<Γ.nr+1;rw[h.nr];omega) (aG _) hc (λ hf=>by cases hf) λ _=>?_;rw[<-h.nr,a,K,p,l];exact⟨.inr (by simp),by simpa using a1⟩
def gF(Γ:Gh)(r:Nat)(R:Row):Prop:=
 ∀(i:Nat) (e:aa AV) (j:Nat) (x:AV),R.c[i]?=Z e->e[j]?=Z x->∃u,Γ.mem (Γ.cur r) (Γ.of r+(i*R.k+j))=Z u/\Rep Γ x u
def Nz{Γ:Gh}{I:St}{w w':aA}(h:Inv Γ I w){k:Nat}(o:0<k){c:aa (aa AV)}(b:∀e∈c,X e=k)(f:∀e∈c,∀x∈e,br x=O){vs:aL aj}(d:X c*k<=vs.size)
  (n:∀(i:Nat) (e:aa AV) (j:Nat) (x:AV),c[i]?=Z e->e[j]?=Z x->∃u,vs[i*k+j]?=Z u/\Rep Γ x u/\u.oneCell'=O) {e:aQ}{cap:Nat} (q:X c<=cap) (m:cap*k<=vs.size) (r:Below w.heap.size w w') (l:w.drawn<=w'.drawn) {g:Nat} (p:w.heap.size<=g) (a:w'.heap[g]?=Z (.cells vs e (0,0))):
  ∃Γ',Ext Γ w Γ' w'/\Inv Γ' {I with rw:=I.rw++[⟨k,c,0,0,Y⟩]} w'/\Rep Γ' (.rs (X I.rw) 0 (X c) 0 Y) (.slice (Z ⟨g,0,U⟩) (X c) cap):=
 qn8 h o b f d n q m r l p (IV _) rfl a
def qlu{α}{l:aa α}{r i f y}(h:(l.modify r f)[i]?=Z y):∃x,l[i]?=Z x/\y=if r=i then f x else x:=by
 grind
structure Fz (Γ:Gh) (m:Nat->Nat->Option aj):Prop where
 le:Le Γ {Γ with mem:=m}
 own:∀b o u,m b o=Z u->Γ.mem b o=Z u\/gY Γ b
def qlN{Γ I w}(h:Inv Γ I w){r R}(G:I.rw[r]?=Z R)(wl):
  ∃m,Fz Γ m/\Inv {Γ with mem:=m} {I with rw:=I.rw.modify r qv,wrr:=wl} w/\gF {Γ with mem:=m} r R:=by
 have H0:=h.row r R G;let⟨k,E,pos,s,pl,fz,g2,g4,g5,P,g8,g9⟩:=H0;have F:r<Γ.nr:=by rw[h.nr];exact getElem?_lt G
 let m:Nat->Nat->ab aj:=λ a off=>if a=Γ.cur r/\Γ.of r<=off/\off<Γ.of r+X R.c*R.k then w.cell? ⟨a,off,U⟩else Γ.mem a off
 have K:∀a off u,Γ.mem a off=Z u->m a off=Z u:=by
  intro a off u b;show(if _ then _ else _)=_;split
  .exact(h.mem a off u b).1
  .exact b
 have g:Le Γ {Γ with mem:=m}:=⟨K,ak _,λ _ _=>rfl,ak _,λ _ _=>rfl,λ _ _=>ak _,λ _ _ _=>⟨rfl,rfl,rfl⟩⟩
 have y:∀i e j x,R.c[i]?=Z e->e[j]?=Z x->∃u,m (Γ.cur r) (Γ.of r+(i*R.k+j))=Z u/\Rep {Γ with mem:=m} x u:=by
  intro i e j x l C;let⟨u,T,f,W⟩:=P i e j x l C;refine⟨u,?_,f.mono g⟩;have M:=getElem?_lt l;have L:=getElem?_lt C;rw[s e (aK l)]at L
  have:i*R.k+j<X R.c*R.k:=by
   calc i*R.k+j<i*R.k+R.k:=by omega
    _=(i+1)*R.k:=by grind
    _<=X R.c*R.k:=bZ _ M
  grind
 refine⟨m,⟨g,λ a off u b=>?_⟩,⟨h.nb,?_,?_,?_,h.inj,?_,?_,h.apart⟩,y⟩
 .have d:(if a=Γ.cur r/\Γ.of r<=off/\off<Γ.of r+X R.c*R.k then w.cell? ⟨a,off,U⟩else Γ.mem a off)=Z u:=b;split at d
  .next z=>right;right;grind
  .exact .inl d
 .show Γ.nr=X (I.rw.modify r qv);rw[qbP];exact h.nr
 .intro a off u b;have d:(if a=Γ.cur r/\Γ.of r<=off/\off<Γ.of r+X R.c*R.k then w.cell? ⟨a,off,U⟩else Γ.mem a off)=Z u:=b;split at d
  .rename_i z;refine⟨d,?_⟩;obtain⟨off,rfl⟩:∃p,off=Γ.of r+p:=⟨off-Γ.of r,by omega⟩
   have v:off/R.k<X R.c:=by
    rw[Qt pos];omega
   have az:off%R.k<R.k:=si _ pos;have ax:=s _ (fX v);let⟨u',ad,_,aE⟩:=P (off/R.k) _ (off%R.k) _ (aS v) (aS (by omega));grind [Nat.mul_comm,Nat.div_add_mod]
  .exact h.mem a off u d
 .intro i cs b;exact(h.box i cs b).lift (by rw[h.nb];exact getElem?_lt b) g λ o B=>B
 .intro i l off;show(if _ then _ else _)=_;rw[ae λ z=>g8 (by omega) i l z.1];exact h.boxmem i l off
 .intro A R' N;let⟨R0,D,b⟩:=qlu N;by_cases t:r=A
  .subst t;rw[af rfl]at b;rw[G]at D;cases D;subst b;refine⟨k,λ v=>E (bL (Qu _ (X R.c)) v),pos,s,pl,fz.imp_right λ v=>Nat.max_le.2 ⟨v,ak _⟩,g2,g4,?_,?_,g8,g9⟩
   .intro S off B;have ar:Γ.of r+X R.c*R.k<=off:=bL (Nat.add_le_add_left (bZ _ (qbQ R.fz _)) _) B;have an:Γ.of r+R.fz*R.k<=off:=bL (Nat.add_le_add_left (bZ _ (Qu _ (X R.c))) _) B;grind
   .intro i Q j x l C;let⟨u,T,f,W⟩:=P i Q j x l C;exact⟨u,T,f.mono g,W⟩
  .rw[ae t]at b;subst b;have n:A<Γ.nr:=by rw[h.nr];exact getElem?_lt D
   refine(h.row A _ D).lift n g rfl (λ _ _ h=>h) (λ S off H=>?_) λ _ i l hn=>by grind
   show(if _ then _ else _)=_;rw[ae λ z=>h.apart r A F n t (by omega) S z.1.symm];exact H
def AS{Γ m}(a:Fz Γ m)(w):Ext Γ w {Γ with mem:=m} w:=⟨a.le,rfl,rfl,rfl,ak _,λ _ _ _=>rfl,λ _ h=>.inl h,λ b o u d=>(a.own b o u d).imp_right .inl,ak _⟩
def gF.mono{Γ m}(b:Le Γ {Γ with mem:=m}){r R}(h:gF Γ r R):gF {Γ with mem:=m} r R:=λ i e j x g f=>
 let⟨u,c,d⟩:=h i e j x g f;⟨u,b.mem _ _ _ c,d.mono b⟩
def pD{w}:∀c {Γ} {I} (h:Inv Γ I w) a,
  ∃m,Fz Γ m/\Inv {Γ with mem:=m} {I with rw:=frz I.rw c,wrr:=a} w/\∀r∈c,∀R,I.rw[r]?=Z R->gF {Γ with mem:=m} r R
 |[],Γ,I,h,a=>⟨Γ.mem,⟨Le.refl _,λ _ _ _ h=>.inl h⟩,⟨h.nb,h.nr,h.mem,h.box,h.inj,h.boxmem,h.row,h.apart⟩,λ r d=>by cases d⟩
 |r::c,Γ,I,h,a=>by
   cases d:I.rw[r]? with
   |none=>
     let⟨m,g,l,q⟩:=pD c h a;have s:=qbR.1 d;have e:I.rw.modify r qv=I.rw:=List.modify_eq_self s;refine⟨m,g,?_,λ p k R x=>?_⟩
     .show Inv _ {I with rw:=c.foldl _ (I.rw.modify r qv),wrr:=a} w;rw[e];exact l
     .grind
   |some R=>
     let⟨m,g,l,q⟩:=qlN h d a;let⟨m',n,v,y⟩:=pD c l a;refine⟨m',⟨g.le.trans n.le,λ b o u t=>(n.own b o u t).elim (g.own b o u) .inr⟩,v,λ p k R' f=>?_⟩;by_cases j:p=r
     .subst j;rw[d]at f;cases f;exact q.mono n.le
     .grind
def YS{c xs:aa (aa AV)}{i e}(h:(c++xs)[i]?=Z e):(i<X c/\c[i]?=Z e)\/(X c<=i/\xs[i-X c]?=Z e):=by
 grind
def GO{Γ:Gh}{I:St}{w w':aA}(h:Inv Γ I w){r:Nat}{R R':Row}(hr:I.rw[r]?=Z R)(aE:R.fz<=X R.c)(S:R'.k=R.k){g:Nat}{vs:aL aj}{e:aQ}{o:Nat}(a8:R'.off=Y->o=0)(t:R'.ver=R.ver+1\/(R'.ver=R.ver/\g=Γ.cur r/\vs.size=Γ.sz r/\o=Γ.of r))
  (a0:∀e∈R'.c,X e=R.k) (a6:∀e∈R'.c,∀x∈e,br x=O) (bl:R'.fz<=X R'.c) {fr:Nat×Nat} (a5:vc vs.size fr) (bb:fr=(0,0)) (C:w'.heap[g]?=Z (.cells vs e fr)) (a1:o+X R'.c*R.k<=vs.size)
  (a2:∀off,o+R'.fz*R.k<=off->Γ.mem g off=U) (L:∀(i:Nat) (e:aa AV) (j:Nat) (x:AV),R'.c[i]?=Z e->e[j]?=Z x->∃u,vs[o+(i*R.k+j)]?=Z u/\Rep Γ x u/\u.oneCell'=O)
  (az:∀b o u,Γ.mem b o=Z u->w'.cell? ⟨b,o,U⟩=Z u) (ho:∀b,b<w.heap.size->(b≠Γ.cur r\/Γ.sz r=0)->w'.heap[b]?=w.heap[b]?) (f:(g=Γ.cur r/\Γ.sz r≠0)\/w.heap.size<=g) (a7:w'.os=w.os) (a3:w'.tape=w.tape) (ar:w'.output=w.output) (a4:w.heap.size<=w'.heap.size) (bm:w.drawn<=w'.drawn) (wl:aa Nat):
  ∃Γ',Ext Γ w Γ' w'/\Inv Γ' {I with rw:=I.rw.set r R',wrr:=wl} w'/\∀(n:Nat) (cap:Nat) (a:ab Addr),n<=cap->(cap=0\/a=Z ⟨g,o,U⟩)->o+cap*R.k<=vs.size->Rep Γ' (.rs r 0 n R'.ver Y) (.slice a n cap):=by
 have m:r<Γ.nr:=by rw[h.nr];exact getElem?_lt hr
 have H:=h.row r R hr;let Γ':Gh:={Γ with ver:=λ s=>if s=r then R'.ver else Γ.ver s,cur:=λ s=>if s=r then g else Γ.cur s,sz:=λ s=>if s=r then vs.size else Γ.sz s,of:=λ s=>if s=r then o else Γ.of s}
 have v1:Γ'.ver r=R'.ver:=af rfl;have B:Γ'.cur r=g:=af rfl;have s1:Γ'.sz r=vs.size:=af rfl;have P:Γ'.of r=o:=af rfl;have v2:∀q,q≠r->Γ'.ver q=Γ.ver q:=λ q v=>ae v;have c2:∀q,q≠r->Γ'.cur q=Γ.cur q:=λ q v=>ae v;have N:∀q,q≠r->Γ'.sz q=Γ.sz q:=λ q v=>ae v;have o2:∀q,q≠r->Γ'.of q=Γ.of q:=λ q v=>ae v
 have z:Le Γ Γ':=by
  refine⟨λ _ _ _ h=>h,ak _,λ _ _=>rfl,ak _,λ _ _=>rfl,λ q _=>?_,λ q _ v=>?_⟩
  .by_cases d:q=r
   .rw[d,v1,<-H.ver aE];obtain t|t:=t<;>omega
   .rw[v2 q d];exact ak _
  .by_cases d:q=r
   .subst d;rw[v1,<-H.ver aE]at v;obtain t|⟨_,M,h2,h3⟩:=t
    .omega
    .exact⟨B.trans M,s1.trans h2,P.trans h3⟩
   .exact⟨c2 q d,N q d,o2 q d⟩
 refine⟨Γ',⟨z,a7,a3,ar,a4,λ b E hn=>ho b E (by
  by_cases y:Γ.sz r=0
  .exact .inr y
  .exact .inl λ A=>hn (.inr ⟨r,m,y,A.symm⟩)),?_,λ _ _ _ h=>.inl h,bm⟩,⟨h.nb,?_,λ b o u hm=>⟨az b o u hm,(h.mem b o u hm).2⟩,?_,h.inj,h.boxmem,?_,?_⟩,?_⟩
 .rintro b (E|⟨q,v,y,E⟩)
  .exact .inl (.inl E)
  .by_cases d:q=r
   .rw[d,B]at E;obtain⟨f,l⟩|f:=f
    .left;right;exact⟨r,m,l,by rw[<-f,E]⟩
    .right;omega
   .rw[c2 q d]at E;exact .inl (.inr ⟨q,v,by rw[<-N q d];exact y,E⟩)
 .show Γ.nr=X (I.rw.set r R');rw[fw];exact h.nr
 .intro i cs D;have p:i<Γ.nb:=by rw[h.nb];exact getElem?_lt D
  exact(h.box i cs D).lift p z λ ob K=>by
   rw[ho _ (h.box_lt p) (by
    by_cases y:Γ.sz r=0
    .exact .inr y
    .exact .inl (H.nbx y i p))];exact K
 .intro q Q T;rw[oq]at T;split at T
  .rename_i d;subst d;split at T<;>cases T;refine⟨S.trans H.k,λ _=>v1.symm,by rw[S];exact H.pos,by rw[S];exact a0,a6,.inr bl,λ _=>⟨vs,e,fr,by rw[B];exact C,s1.symm,a5,bb⟩,by rw[S,s1,P];exact a1,λ _ off ax=>by rw[B];exact a2 off (by rw[<-S,<-P];exact ax),?_,λ _ i D=>?_,λ hf=>P.trans (a8 hf)⟩
   .intro i e' j x D hj;let⟨u,hu,an,M⟩:=L i e' j x D hj;exact⟨u,by rw[B,P,S,kY C];exact hu,an.mono z,M⟩
   .rw[B];intro A;have A:Γ.β i=g:=A;have p:i<Γ.nb:=D;obtain⟨f,l⟩|f:=f
    .exact H.nbx l i p (A.trans f)
    .have:=h.box_lt p;omega
  .rename_i d;have G:q<Γ.nr:=by rw[h.nr];exact getElem?_lt T
   refine(h.row q Q T).lift G z (v2 q λ A=>d A.symm) (λ y ob K=>?_) (λ _ _ hm=>hm) λ _ i D hn=>by have:i<Γ.nb:=D;omega
   rw[ho _ (h.cur_lt G y) (by
    by_cases ad:Γ.sz r=0
    .exact .inr ad
    .exact .inl λ A=>h.apart r q m G d ad y A.symm)];exact K
 .intro q F M h2 a9 z1 z2;by_cases e1:q=r<;>by_cases W:F=r
  .omega
  .rw[N F W]at z2;rw[e1,B,c2 F W];obtain⟨f,l⟩|f:=f
   .rw[f];exact h.apart r F m h2 (mC W) l z2
   .have:=h.cur_lt h2 z2;omega
  .rw[N q e1]at z1;rw[W,B,c2 q e1];obtain⟨f,l⟩|f:=f
   .rw[f];exact h.apart q r M m e1 z1 l
   .have:=h.cur_lt M z1;omega
  .rw[N q e1]at z1;rw[N F W]at z2;rw[c2 q e1,c2 F W];exact h.apart q F M h2 a9 z1 z2
 .intro n cap a hn ha bn;refine .rs _ _ _ _ _ _ _ m (by rw[v1];exact ak _) hn (λ hf=>by cases hf) λ _=>?_;rw[B,s1,P];refine⟨ha.imp_right λ h=>by rw[h,kG,dP],?_⟩;show o+(0+cap)*Γ.k r<=vs.size;rw[<-H.k,bS];exact bn
def MR{Γ:Gh}{I:St}{w w':aA}(h:Inv Γ I w){r:Nat}{R R':Row}(L:I.rw[r]?=Z R)(D:Γ.of r=0)(E:R.fz<=X R.c)(M:R'.k=R.k){g:Nat}{vs:aL aj}{e:aQ}(t:R'.ver=R.ver+1\/(R'.ver=R.ver/\g=Γ.cur r/\vs.size=Γ.sz r))
  (p:∀e∈R'.c,X e=R.k) (B:∀e∈R'.c,∀x∈e,br x=O) (G:R'.fz<=X R'.c) {fr:Nat×Nat} (A:vc vs.size fr) (F:fr=(0,0)) (l:w'.heap[g]?=Z (.cells vs e fr)) (q:X R'.c*R.k<=vs.size)
  (v:∀off,R'.fz*R.k<=off->Γ.mem g off=U) (d:∀(i:Nat) (e:aa AV) (j:Nat) (x:AV),R'.c[i]?=Z e->e[j]?=Z x->∃u,vs[i*R.k+j]?=Z u/\Rep Γ x u/\u.oneCell'=O)
  (m:∀b o u,Γ.mem b o=Z u->w'.cell? ⟨b,o,U⟩=Z u) (s:∀b,b<w.heap.size->(b≠Γ.cur r\/Γ.sz r=0)->w'.heap[b]?=w.heap[b]?) (N:(g=Γ.cur r/\Γ.sz r≠0)\/w.heap.size<=g) (C:w'.os=w.os) (y:w'.tape=w.tape) (f:w'.output=w.output) (z:w.heap.size<=w'.heap.size) (H:w.drawn<=w'.drawn) (K:aa Nat):
  ∃Γ',Ext Γ w Γ' w'/\Inv Γ' {I with rw:=I.rw.set r R',wrr:=K} w'/\∀(n:Nat) (cap:Nat),n<=cap->cap*R.k<=vs.size->Rep Γ' (.rs r 0 n R'.ver Y) (.slice (Z ⟨g,0,U⟩) n cap):=by
 let⟨Γ',S,Q,P⟩:=GO h L E M (g:=g) (vs:=vs) (e:=e) (o:=0) (λ _=>rfl) (t.imp_right λ⟨a,b,c⟩=>⟨a,b,c,D.symm⟩) p B G A F l (by rw[bS];exact q) (λ off s=>v off (by rw[bS]at s;exact s))
  (λ i e j x a b=>by rw[bS];exact d i e j x a b) m s N C y f z H K
 exact⟨Γ',S,Q,λ n cap a b=>P n cap _ a (.inr rfl) (by rw[bS];exact b)⟩
def qo6{Γ I w}(h:Inv Γ I w){r R}(E:I.rw[r]?=Z R)(z:R.fz<=X R.c){l}(hl:l<=X R.c)(wl):
  ∃Γ',Ext Γ w Γ' w/\Inv Γ' {I with rw:=I.rw.set r {R with c:=R.c.drop l,ver:=R.ver+1,fz:=R.fz-l,off:=O},wrr:=wl} w/\
   ∀n cap a,n<=cap->(cap=0\/a=Z ⟨Γ.cur r,Γ.of r+l*R.k,U⟩)->Γ.of r+l*R.k+cap*R.k<=Γ.sz r->Rep Γ' (.rs r 0 n (R.ver+1) Y) (.slice a n cap):=by
 have H:=h.row r R E;have an:l*R.k<=X R.c*R.k:=bZ _ hl;have A:=H.fit;have ar:(X R.c-l)*R.k=X R.c*R.k-l*R.k:=qse _ _ _;by_cases t:Γ.sz r=0
 .-- no block: nothing is left out
  have D:r<Γ.nr:=by rw[h.nr];exact getElem?_lt E
  have s:R.c=[]:=by
   cases hc:R.c with
   |nil=>rfl
   |cons e c=>
     have:=H.pos;rw[hc,bE,jO]at A;omega
  let Γ':Gh:={Γ with ver:=λ N=>if N=r then R.ver+1 else Γ.ver N}
  have M:Γ'.ver r=R.ver+1:=af rfl;have W:∀q,q≠r->Γ'.ver q=Γ.ver q:=λ q hq=>ae hq
  have m:Le Γ Γ':=by
   refine⟨λ _ _ _ h=>h,ak _,λ _ _=>rfl,ak _,λ _ _=>rfl,λ q _=>?_,λ q _ _=>⟨rfl,rfl,rfl⟩⟩;by_cases f:q=r
   .rw[f,M,<-H.ver z];omega
   .grind
  refine⟨Γ',⟨m,rfl,rfl,rfl,ak _,λ _ _ _=>rfl,λ _ h=>.inl h,λ _ _ _ h=>.inl h,ak _⟩,⟨h.nb,?_,h.mem,λ i cs p=>(h.box i cs p).lift (by rw[h.nb];exact getElem?_lt p) m λ _ h=>h,h.inj,h.boxmem,?_,h.apart⟩,?_⟩
  .show Γ.nr=X (I.rw.set r _);rw[fw];exact h.nr
  .intro q Q v;rw[oq]at v;split at v
   .rename_i f;subst f;split at v<;>cases v;refine⟨H.k,λ _=>M.symm,H.pos,λ e g=>?_,λ e g=>?_,.inl ?_,λ d=>absurd t d,?_,λ d=>absurd t d,λ i e j x p=>?_,λ d=>absurd t d,λ B=>by cases B⟩
    .rw[s]at g;simp at g
    .rw[s]at g;simp at g
    .grind
    .grind
    .rw[s]at p;simp at p
   .rename_i f;have F:q<Γ.nr:=by rw[h.nr];exact getElem?_lt v
    exact(h.row q Q v).lift F m (W q λ g=>f g.symm) (λ _ _ h=>h) (λ _ _ G=>G) λ _ i p S=>by grind
  .intro n cap a S ha ax
   have C:cap=0:=by
    obtain L|L:=Qv cap
    .exact L
    .have:=Qq L H.pos;omega
   refine .rs _ _ _ _ _ _ _ D (by omega) S (λ B=>by cases B) λ _=>⟨.inl C,?_⟩
   grind
 .let⟨vs,e',fr,T,g3,g4,g5⟩:=H.blk t
  let⟨Γ',f1,f2,f3⟩:=GO h E z (R':={R with c:=R.c.drop l,ver:=R.ver+1,fz:=R.fz-l,off:=O}) rfl (o:=Γ.of r+l*R.k) (λ B=>by cases B) (.inl rfl)
   (λ e g=>H.len e (ib g)) (λ e g=>H.plain e (ib g)) (by grind) g4 g5 T
   (by grind)
   (λ off ho=>H.un t off (by
    have ad:Γ.of r+l*R.k+(R.fz-l)*R.k<=off:=ho;have:R.fz*R.k<=l*R.k+(R.fz-l)*R.k:=by rw[<-dM];exact bZ _ (by omega)
    omega))
   (λ i e j x p hj=>by
    have K:R.c[l+i]?=Z e:=by grind
    let⟨u,P,y,h1⟩:=H.cells (l+i) e j x K hj;refine⟨u,?_,y,h1⟩;rw[kY T,dM]at P;rw[show Γ.of r+l*R.k+(i*R.k+j)=Γ.of r+(l*R.k+i*R.k+j) by omega];exact P)
   (λ b o u G=>(h.mem b o u G).1) (λ _ _ _=>rfl) (.inl ⟨rfl,t⟩) rfl rfl rfl (ak _) (ak _) wl
  grind
def qo8{Γ I w w'}(h:Inv Γ I w){r R}(T:I.rw[r]?=Z R)(t:R.fz<=X R.c){xs}(v:∀e∈xs,X e=R.k)(D:∀e∈xs,∀x∈e,br x=O){aH}(az:X aH=X xs*R.k)(hn:∀i e j x,xs[i]?=Z e->e[j]?=Z x->∃u,aH[i*R.k+j]?=Z u/\Rep Γ x u/\u.oneCell'=O)(o:Γ.sz r≠0)(an:Γ.of r+(X R.c+X xs)*R.k<=Γ.sz r)(hw:∀vs e fr,w.heap[Γ.cur r]?=Z (.cells vs e fr)->w'.heap[Γ.cur r]?=Z (.cells (vs.toList.take (Γ.of r+X R.c*R.k)++aH++vs.toList.drop (Γ.of r+X R.c*R.k+X aH)).toArray e fr))(ho:∀k,k≠Γ.cur r->w'.heap[k]?=w.heap[k]?)(E:w'.os=w.os)(A:w'.tape=w.tape)(p:w'.output=w.output)(ax:w'.heap.size=w.heap.size)(P:w.drawn<=w'.drawn)(wl){cap}(hc:X R.c+X xs<=cap:=by omega)(a0:Γ.of r+cap*R.k<=Γ.sz r:=by omega):
  ∃Γ',Ext Γ w Γ' w'/\Inv Γ' {I with rw:=I.rw.set r {R with c:=R.c++xs,ver:=R.ver+1},wrr:=wl} w'/\Rep Γ' (.rs r 0 (X R.c+X xs) (R.ver+1) Y) (.slice (Z ⟨Γ.cur r,Γ.of r,U⟩) (X R.c+X xs) cap):=by
 have H:=h.row r R T;let⟨vs,e',fr,S,g3,g4,g5⟩:=H.blk o;have l:=hw vs e' fr S;have ar:X (V vs)=Γ.sz r:=by omega
 have a1:(X R.c+X xs)*R.k=X R.c*R.k+X aH:=by grind
 have ad:R.fz*R.k<=X R.c*R.k:=bZ _ t
 have C:X (vs.toList.take (Γ.of r+X R.c*R.k)++aH++vs.toList.drop (Γ.of r+X R.c*R.k+X aH))=Γ.sz r:=by
  simp;omega
 have g:∀off,off<Γ.of r+X R.c*R.k->(vs.toList.take (Γ.of r+X R.c*R.k)++aH++vs.toList.drop (Γ.of r+X R.c*R.k+X aH))[off]?=vs[off]?:=by
  intro off s;rw[bA,dq (by grind),fM,af s];simp
 have m:∀q u,aH[q]?=Z u->(vs.toList.take (Γ.of r+X R.c*R.k)++aH++vs.toList.drop (Γ.of r+X R.c*R.k+X aH))[Γ.of r+X R.c*R.k+q]?=Z u:=by
  intro q u W;have B:X (vs.toList.take (Γ.of r+X R.c*R.k))=Γ.of r+X R.c*R.k:=by grind
  rw[bA,ej (by omega),B,vM,dq (getElem?_lt W)];exact W
 let⟨Γ',f1,f2,f3⟩:=GO h T t (R':={R with c:=R.c++xs,ver:=R.ver+1}) rfl (λ hf=>H.off hf) (.inl rfl)
  (λ e N=>(aR.1 N).elim (H.len e) (v e)) (λ e N=>(aR.1 N).elim (H.plain e) (D e)) (by grind) (by grind) g5 l
  (by simp_all) (H.un o)
  (by
   intro i e j x hi K;have L:=hi;rw[BM];obtain⟨f,a⟩|⟨M,a⟩:=YS L
   .let⟨u,z,d,Q⟩:=H.cells i e j x a K;refine⟨u,?_,d,Q⟩;have G:=getElem?_lt K;rw[H.len e (aK a)]at G
    have:i*R.k+j<X R.c*R.k:=by
     calc i*R.k+j<i*R.k+R.k:=by omega
      _=(i+1)*R.k:=by grind
      _<=X R.c*R.k:=bZ _ f
    rw[g _ (by omega),<-kY S];exact z
   .let⟨u,z,d,Q⟩:=hn _ e j x a K;refine⟨u,?_,d,Q⟩;have aE:i*R.k=X R.c*R.k+(i-X R.c)*R.k:=by rw[<-dM];congr 1;omega
    rw[show Γ.of r+(i*R.k+j)=Γ.of r+X R.c*R.k+((i-X R.c)*R.k+j) by omega];exact m _ u z)
  (by
   intro b off u F;have n:=(h.mem b off u F).1;by_cases y:b=Γ.cur r
   .subst y
    have f:off<Γ.of r+X R.c*R.k:=by
     obtain f|M:=qbS off (Γ.of r+X R.c*R.k)
     .exact f
     .rw[H.un o off (by omega)]at F;cases F
    rw[kY l,BM,g off f,<-kY S];exact n
   .unfold World.cell? at n |-
    rw[ho b y];exact n)
  (λ b _ y=>ho b (y.resolve_right o)) (.inl ⟨rfl,o⟩) E A p (by omega) P wl
 grind
def qox{Γ:Gh}{I:St}{w w':aA}(h:Inv Γ I w){r:Nat}{R:Row}(A:I.rw[r]?=Z R)(q:R.fz<=X R.c){xs:aa (aa AV)}(l:∀e∈xs,X e=R.k)(n:∀e∈xs,∀x∈e,br x=O)
  {vs:aL aj}{e:aQ}{g:Nat} (d:Below w.heap.size w w') (t:w.drawn<=w'.drawn) (C:w.heap.size<=g) (f:w'.heap[g]?=Z (.cells vs e (0,0))) (m:(X R.c+X xs)*R.k<=vs.size)
  (B:∀(i:Nat) (e:aa AV) (j:Nat) (x:AV),(R.c++xs)[i]?=Z e->e[j]?=Z x->∃u,vs[i*R.k+j]?=Z u/\Rep Γ x u/\u.oneCell'=O) (z:aa Nat) {cap:Nat} (D:X R.c+X xs<=cap:=by omega) (v:cap*R.k<=vs.size:=by omega):
  ∃Γ',Ext Γ w Γ' w'/\Inv Γ' {I with rw:=I.rw.set r {R with c:=R.c++xs,ver:=R.ver+1},wrr:=z} w'/\Rep Γ' (.rs r 0 (X R.c+X xs) (R.ver+1) Y) (.slice (Z ⟨g,0,U⟩) (X R.c+X xs) cap):=by
 have H:=h.row r R A
 let⟨Γ',G,F,E⟩:=GO h A q (R':={R with c:=R.c++xs,ver:=R.ver+1}) rfl (g:=g) (vs:=vs) (o:=0) (λ _=>rfl) (.inl rfl)
  (λ e s=>(aR.1 s).elim (H.len e) (l e)) (λ e s=>(aR.1 s).elim (H.plain e) (n e)) (by show R.fz<=X (R.c++xs);rw[aM];omega) (IV _) rfl f
  (by show 0+X (R.c++xs)*R.k<=_;rw[aM,bS];exact m)
  (λ off _=>by
   cases p:Γ.mem g off with
   |none=>rfl
   |some u=>have:=h.mem_lt p;omega) (λ i e j x a b=>by rw[bS];exact B i e j x a b) (λ b o u p=>Ui d (h.mem b o u p).1) (λ b y _=>d.block b y) (.inr C) d.os d.tape d.output d.size t z
 exact⟨Γ',G,F,E _ cap _ D (.inr rfl) (by rw[bS];exact v)⟩
def Ve{Γ I w w'}(h:Inv Γ I w){r R}(hr:I.rw[r]?=Z R){i e0 e1}(A:R.c[i]?=Z e0)(hf:R.fz<=i)(t:R.off=Y)(v:X e1=R.k)(D:∀x∈e1,br x=O){vs'}(hw:∀vs e fr,w.heap[Γ.cur r]?=Z (.cells vs e fr)->w'.heap[Γ.cur r]?=Z (.cells vs' e fr)/\vs'.size=vs.size/\∀off,(off<i*R.k\/i*R.k+R.k<=off)->vs'[off]?=vs[off]?)(F:∀j x,e1[j]?=Z x->∃u,vs'[i*R.k+j]?=Z u/\Rep Γ x u/\u.oneCell'=O)(ho:∀k,k≠Γ.cur r->w'.heap[k]?=w.heap[k]?)(E:w'.os=w.os)(C:w'.tape=w.tape)(s:w'.output=w.output)(ad:w'.heap.size=w.heap.size)(S:w.drawn<=w'.drawn)(wl):
  ∃Γ',Ext Γ w Γ' w'/\Inv Γ' {I with rw:=I.rw.set r {R with c:=R.c.set i e1},wrr:=wl} w':=by
 have H:=h.row r R hr;have K:=H.fz.resolve_left λ F=>by rw[F]at A;cases A
 have z:=H.real A;have o:=H.off t;have a:=H.cells;have d:=H.un z;have y:=H.fit;rw[o]at a d y;simp at a d y;let⟨vs,e',fr,T,g3,g4,g5⟩:=H.blk z;let⟨w1,w2,W⟩:=hw vs e' fr T;have an:=getElem?_lt A
 let⟨Γ',f1,f2,_⟩:=MR h hr o K (R':={R with c:=R.c.set i e1}) rfl (.inr ⟨rfl,rfl,w2.trans g3⟩)
  (λ e Q=>by
   let⟨q,g⟩:=mD Q;rw[oq]at g;split at g
   .cases g;exact v
   .exact H.len e (aK g))
  (λ e Q=>by
   let⟨q,g⟩:=mD Q;rw[oq]at g;split at g
   .cases g;exact D
   .exact H.plain e (aK g)) (by grind) (by grind) g5 w1
  (by grind) d
  (by
   intro q e j x g M;have f:=g;rw[oq]at f;split at f
   .next m=>subst m;cases f;exact F j x M
   .rename_i m;let⟨u,hu,p,h1⟩:=a q e j x f M;refine⟨u,?_,p,h1⟩;have L:=getElem?_lt M;rw[H.len e (aK f)]at L;rw[W,<-kY T]
    .exact hu
    .obtain l|N:=Nat.lt_or_gt_of_ne m
     .right
      calc i*R.k+R.k=(i+1)*R.k:=by grind
       _<=q*R.k:=bZ _ l
       _<=q*R.k+j:=kH _ _
     .left
      calc q*R.k+j<q*R.k+R.k:=by omega
       _=(q+1)*R.k:=by grind
       _<=i*R.k:=bZ _ N)
  (by
   intro b off u G;have n:=(h.mem b off u G).1;by_cases B:b=Γ.cur r
   .subst B
    have l:off<R.fz*R.k:=by
     obtain l|P:=qbS off (R.fz*R.k)
     .exact l
     .rw[d off P]at G;cases G
    have:R.fz*R.k<=i*R.k:=bZ _ hf;rw[kY w1,W off (.inl (by omega)),<-kY T];exact n
   .unfold World.cell? at n |-
    rw[ho b B];exact n)
  (λ b _ B=>ho b (B.resolve_right z)) (.inl ⟨rfl,z⟩) E C s (by omega) S wl
 exact⟨Γ',f1,f2⟩
end
section
open RowKit
def TD.inv{P:aZ}{t:aQ}{d:TD}(h:cz P t=Z d):∃i u z,P.info? t=Z i/\P.underlying t=Z u/\i.zero=Z z/\i.size=d.size/\i.bytes=d.bytes/\rR u=d.agg/\V z.cells=d.zero/\fW P u=Z d.k:=by
 grind [cz]
def wY{P:aZ}{u:TypeDesc}(h:fW P u=Z .string):u=.string:=by
 cases u<;>(try (cases uF h;done))<;>simp[fW]at h<;>try rfl
 all_goals (split at h<;>try (split at h))<;>simp at h
def qql{P:aZ}{u:TypeDesc}(h:fW P u=Z .bool):u=.bool:=by
 cases u<;>(try (cases uF h;done))<;>simp[fW]at h<;>try rfl
 all_goals (split at h<;>try (split at h))<;>simp at h
def Y1{P:aZ}{u:TypeDesc}{k:IntKind}(h:fW P u=Z (.int k)):u=.int k:=by
 cases u<;>(try (cases uF h;done))<;>simp[fW]at h
 all_goals first|(subst h;rfl)|((split at h<;>try (split at h))<;>simp at h)
def oF{P:aZ}{u:TypeDesc}{e s b:Nat}{z:aa aj}(h:fW P u=Z (.slice e s b z)):u=.slice e/\∃i a,P.info? e=Z i/\i.zero=Z a/\i.size=s/\i.bytes=b/\V a.cells=z:=by
 cases u with
 |slice c=>
   grind [fW]
 |map=>cases uF h
 |_=>simp[fW]at h<;>(split at h<;>simp at h)
def qoh{P:aZ}{u:TypeDesc}{n e s:Nat}(h:fW P u=Z (.array n e s)):u=.array n e/\∃i,P.info? e=Z i/\i.size=s:=by
 cases u with
 |array a b=>
   grind [fW]
 |map=>cases uF h
 |_=>simp[fW]at h<;>((split at h<;>try (split at h))<;>simp at h)
def Mk{P:aZ}{u:TypeDesc}{b:aa (Nat×Nat×Bool)}(h:fW P u=Z (.struct b)):∃F,u=.struct F/\fieldsOf P (V F)=Z b:=by
 cases u with
 |struct F=>
   simp only[fW]at h;cases a:fieldsOf P (V F) with
   |none=>rw[a]at h;cases h
   |some l=>rw[a]at h;cases h;exact⟨F,rfl,a⟩
 |slice e=>simp only[fW]at h;split at h<;>(try split at h)<;>cases h
 |array n e=>simp only[fW]at h;split at h<;>cases h
 |map=>cases uF h
 |_=>simp[fW]at h
def F1{P:aZ}:∀{F:aa Field}{a:aa (Nat×Nat×Bool)},fieldsOf P F=Z a->X F=X a/\∀(i:Nat) (x:Nat×Nat×Bool),a[i]?=Z x->∃f fi u,F[i]?=Z f/\P.info? f.type=Z fi/\P.underlying f.type=Z u/\x=(f.offset,fi.size,rR u)
 |[],a,h=>by simp[fieldsOf]at h;subst h;exact⟨rfl,λ i x b=>by simp at b⟩
 |f::F,a,h=>by
   simp only[fieldsOf]at h;split at h
   .next i u l e d c=>cases h;let⟨j,g⟩:=F1 c;grind
   .cases h
def dH(P:aZ)(Γ:Gh)(I:St)(w:aA)(o:Oper)(ρ:bw->aj)(x:AV)(σ':ab St):Prop:=
 ∃a u w' Γ',(execOp ρ o).run P w=.ok a w'/\(a=.value u\/(a=.skip/\u=undef))/\Ext Γ w Γ' w'/\Inv Γ' (turn I σ') w'/\Rep Γ' x u
def dH.val{P:aZ}{Γ:Gh}{I:St}{w:aA}{o:Oper}{ρ:bw->aj}{x:AV}{u:aj}(h:(execOp ρ o).run P w=.ok (.value u) w)(b:Inv Γ I w)(a:Rep Γ x u):dH P Γ I w o ρ x U:=
 ⟨_,u,w,Γ,h,.inl rfl,.refl _ _,b,a⟩
section
variable {P:aZ}{C:Cfg}{Γ:Gh}{I:St}{w:aA}{o:Oper}{tm:aa AV}{ρ:bw->aj}{x:AV}{σ':ab St}
def ce{y:aj}{u:aj}(h:Rep Γ (.v y) u):u=y:=by cases h;rfl
def YQ(c:Inv Γ I w)(b:∀y,Rep Γ (aev tm y) (ρ y))(y:bw)(a:o.op=.move y\/o.op=.assign y):dH P Γ I w o ρ (aev tm y) U:=by
 refine .val ?_ c (b y);obtain a|a:=a<;>simp[execOp,a]
def qqQ(g:Inv Γ I w)(d:∀y,Rep Γ (aev tm y) (ρ y))(c a b:bw)(e:o.op=.pick c a b)(h:aF C tm I o.op=Z (x,σ')):dH P Γ I w o ρ x σ':=by
 rw[e]at h;simp only[aF]at h;split at h<;>try cases h
 .next f=>have:=ce (f▸d c);exact .val (by simp[execOp,e,this,asBool]) g (d a)
 .next f=>have:=ce (f▸d c);exact .val (by simp[execOp,e,this,asBool]) g (d b)
def zP(e:aQ)(cs:aL aj)(w:aA):(newRow e cs).run P w=.ok ⟨w.heap.size,0,U⟩ (w.alloc (.cells cs e)):=by
 simp only[newRow,newObj];rfl
def uz:∀{l:aa aj},l.all cj=O->RepL Γ (l.map .v) l/\∀u∈l,u.oneCell'=O
 |[],_=>⟨.nil,λ u h=>by cases h⟩
 |y::l,h=>by
   simp only[dy,aJ]at h;let⟨c,b⟩:=uz h.2;refine⟨.cons (.v y h.1) c,λ u a=>?_⟩;obtain rfl|a:=bi.1 a
   .exact Xd h.1
   .exact b u a
def qpB(g:∀t d,C.ty t=Z d->cz P t=Z d)(c:Inv Γ I w)(e:aQ)(a:o.op=.alloc e)(h:aF C tm I o.op=Z (x,σ')):dH P Γ I w o ρ x σ':=by
 rw[a]at h;simp only[aF]at h;split at h<;>try cases h
 rename_i d f;split at h<;>try cases h
 next b=>let⟨i,u,z,l,A,k,y,v,s,j,r⟩:=TD.inv (g e d f);let⟨n,m⟩:=uz (Γ:=Γ) b;let⟨Γ',e1,q,p⟩:=U5 c n m e;refine⟨.value (.pointer (Z ⟨w.heap.size,0,U⟩)),_,_,Γ',?_,.inl rfl,e1,q,p⟩;rw[<-j];simp[execOp,a,Instr.alloc,zeroValue,typeInfo,l,k,newVar,zP]
def qrx(d:Inv Γ I w)(a:∀y,Rep Γ (aev tm y) (ρ y))(e:aQ)(y:bw)(b:o.op=.box e y)(h:aF C tm I o.op=Z (x,σ')):dH P Γ I w o ρ x σ':=by
 rw[b]at h;simp only[aF]at h;split at h<;>try cases h
 split at h<;>try cases h
 next c=>let⟨g,f⟩:=(a y).cells c;let⟨Γ',e1,j,i⟩:=U5 d g f e;refine⟨.value (.pointer (Z ⟨w.heap.size,0,U⟩)),_,_,Γ',?_,.inl rfl,e1,j,i⟩;simp[execOp,b,Instr.box,newVar,zP]
def X7(Γ:Gh)(w:aA)(cs:aa AV)(b o:Nat):Prop:=∀(j:Nat) (x:AV),cs[j]?=Z x->∃u,w.cell? ⟨b,o+j,U⟩=Z u/\Rep Γ x u/\u.oneCell'=O
theorem uG(b o j:Nat):(⟨b,o,U⟩:Addr).add j=⟨b,o+j,U⟩:=by unfold Addr.add;split<;>simp_all
def qna(l:Inv Γ I w){y:AV}{u:aj}(m:Rep Γ y u){d:TD}{z:AV}(h:dF d I y=Z z):∃cs o b g,X7 Γ w cs b g/\u=.pointer (Z ⟨b,g+o,U⟩)/\lW d.agg d.size cs o=Z z:=by
 cases m with
 |ptr b o B=>
   simp only[dF]at h;split at h<;>try cases h
   rename_i cs a;split at h<;>try cases h
   next n=>let⟨vs,e,L,F,E⟩:=(l.box b cs a).cells n;refine⟨cs,o,Γ.β b,0,?_,by simp,h⟩;intro j x c;let⟨u,q,f⟩:=F.get c;refine⟨u,?_,f,E u (aK q)⟩;unfold World.cell?;grind
 |rpt r i o M A s G c=>
   simp only[dF]at h;split at h<;>try cases h
   rename_i R C;split at h<;>try cases h
   rename_i cs a;simp only[yb]at a;split at a<;>try cases a
   next t=>have H:=l.row r R C;have D:=c (by rw[<-H.ver (H.live a)];exact t);refine⟨cs,o,Γ.cur r,Γ.of r+i*R.k,?_,by rw[D,H.k],h⟩;intro j x c;rw[eI];exact H.cells i cs j x a c
 |ept cs o b g us K p m=>exact⟨cs,o,b,g,λ j x c=>⟨us j,(l.mem _ _ _ (p j x c)).1,m j x c,(l.mem _ _ _ (p j x c)).2⟩,rfl,h⟩
 |v x B|dead u|sl|rs|fn|agg|tup|mp=>simp[dF]at h
def Gs{t:aQ}{u:TypeDesc}(h:P.underlying t=Z u)(w:aA):(isAgg t).run P w=.ok (rR u) w:=by
 cases u<;>simp[isAgg,underlying,h,rR]
def ql6{t:aQ}{d:TD}(hd:cz P t=Z d){cs:aa AV}{b o' o:Nat}(hc:X7 Γ w cs b o'){z:AV}(h:lW d.agg d.size cs o=Z z):∃ u,(loadVar t ⟨b,o'+o,U⟩).run P w = .ok u w/\Rep Γ z u:=by
 obtain⟨i,u,zv,h1,h2,h3,h4,h5,h6,h7,h8⟩:=TD.inv hd;unfold lW at h;split at h
 ·rename_i hg;split at h<;>try cases h
  rename_i hle;have hle:o+d.size<=X cs:=by simpa using hle
  have hget:∀ j,j<d.size->∃ u,w.cell? ⟨b,o'+o+j,U⟩=Z u/\(∀ x,cs[o+j]?=Z x->Rep Γ x u)/\u.oneCell'=O:=by
   intro j hj;have hlt:o+j<X cs:=by omega
   obtain⟨u,a1,a2,a3⟩:=hc (o+j) _ (aS hlt);grind
  let f:Nat->aj := λ j=>(w.cell? ⟨b,o'+o+j,U⟩).getD undef
  have hf:∀ j,j<d.size->w.cell? ⟨b,o'+o+j,U⟩=Z (f j) := λ j hj=>by
   grind
  have hrun:=run_loadCells (P:=P) w ⟨b,o'+o,U⟩ d.size f (λ j hj=>by rw[uG];exact hf j hj);refine⟨.agg ((List.range d.size).map f).toArray,?_,.agg _ _ (by simp;omega) ?_ ?_⟩
  ·rw[show(loadVar t ⟨b,o'+o,U⟩)=(do if <- isAgg t then pure (.agg (<- loadCells ⟨b,o'+o,U⟩ (<- sizeOf t)))else load ⟨b,o'+o,U⟩)from rfl];simp[Sem.run_bind',Gs h2,h6,hg,sizeOf,typeInfo,h1,h4,hrun]
  ·grind
  ·grind
 ·next hg=>obtain⟨u,a1,a2,a3⟩:=hc o z h;refine⟨u,?_,a2⟩;rw[show(loadVar t ⟨b,o'+o,U⟩)=(do if <- isAgg t then pure (.agg (<- loadCells ⟨b,o'+o,U⟩ (<- sizeOf t)))else load ⟨b,o'+o,U⟩)from rfl];simp[Sem.run_bind',Gs h2,h6,hg,a1]
def Yz(c:Inv Γ I w){t:aQ}{d:TD}(e:cz P t=Z d){y:AV}{u:aj}(a:Rep Γ y u){z:AV}(h:dF d I y=Z z):∃v A,u=.pointer (Z A)/\(loadVar t A).run P w=.ok v w/\Rep Γ z v:=by
 let⟨cs,o,b,l,i,g,f⟩:=qna c a h;let⟨v,k,j⟩:=ql6 e i f;exact⟨v,_,g,k,j⟩
def qqm(g:∀t d,C.ty t=Z d->cz P t=Z d)(c:Inv Γ I w)(a:∀y,Rep Γ (aev tm y) (ρ y))(t:aQ)(y:bw)(b:o.op=.load t y)(h:aF C tm I o.op=Z (x,σ')):dH P Γ I w o ρ x σ':=by
 rw[b]at h;simp only[aF]at h;split at h<;>try cases h
 rename_i d f;split at h<;>try cases h
 next z e=>let⟨v,A,k,j,i⟩:=Yz c (g t d f) (a y) e;exact .val (by simp[execOp,b,Instr.loadAt,Instr.sureAddr,k,Sem.run_bind',j]) c i
def TA{w:aA}{g j:Nat}{t:aQ}{fr:Nat×Nat}{a:aL aj}(h:w.heap[g]?=Z (.cells a t fr))(c:vc a.size fr)(d:j<a.size:=by omega):w.frozen? ⟨g,j,U⟩=Y:=by
 let⟨lo,b⟩:=fr;unfold World.frozen?;show(match w.heap[g]? with|Z (.cells _ _ (lo,b))=>J (lo<=j)&&J (j<b)|_=>Y)=Y;rw[h];have:=c j d;grind
def qlc{w:aA}{g:Nat}{t:aQ}{fr:Nat×Nat}{a:aL aj}(h:w.heap[g]?=Z (.cells a t fr)):w.setRow g a.toList.toArray=w:=by
 unfold World.setRow;have:∀H:aL Obj,H=w.heap->({w with heap:=H}:aA)=w:=λ H e=>by subst e;rfl
 apply this _;apply Array.ext_getElem?;intro q;rw[Qw];split
 .next c=>subst c;rw[h];simp
 .rfl
def T5{α:Type}{l m:aa α}{off n:Nat}(a:X m=n)(h:off+n<=X l)(q:Nat):(l.take off++(m++l.drop (off+n)))[q]?=if q<off then l[q]? else if q<off+n then m[q-off]? else l[q]?:=by
 grind
theorem Ll{g:Nat}{t:aQ}{fr:Nat×Nat}:∀(vs:aa aj) (o:Nat) (a:aL aj) (w:aA),w.heap[g]?=Z (.cells a t fr)->o+X vs<=a.size->w.setCells g o vs=w.setRow g (a.toList.take o++(vs++a.toList.drop (o+X vs))).toArray
 |[],o,a,w,h,_=>by
   rw[World.setCells,eJ,dP,eZ,ot];exact(qlc h).symm
 |v::vs,o,a,w,h,c=>by
   rw[bE]at c;have b:o<a.size:=by omega
   have d:w.setCell ⟨g,o,U⟩ v=w.setRow g (a.setIfInBounds o v):=setCell_eq_setRow w g o a t fr v h;rw[World.setCells,d,Ll vs (o+1) (a.setIfInBounds o v) _ (setRow_heap w g a _ t fr h) (by rw[qbT];omega),setRow_setRow];congr 2
   have e1:(a.toList.set o v).take (o+1)=a.toList.take o++[v]:=by
    rw[dN,Qx (ak _),gx (by simpa using b)];rfl
   have e:(a.toList.set o v).drop (o+1+X vs)=a.toList.drop (o+X (v::vs)):=by
    rw[qbU (by omega),bE];congr 1;omega
   grind
def qel{w:aA}{g:Nat}{t:aQ}{fr:Nat×Nat}{a:aL aj}(h:w.heap[g]?=Z (.cells a t fr))(b:vc a.size fr)(o:Nat)(vs:aa aj)(c:o+X vs<=a.size)(e:∀v∈vs,v.oneCell'=O):
  (storeCells ⟨g,o,U⟩ vs 0).run P w=.ok () (w.setRow g (a.toList.take o++(vs++a.toList.drop (o+X vs))).toArray):=by
 have:=run_storeCells_cells (P:=P) g o vs 0 w (λ j d=>by
  rw[kY h,gz (show o+0+j<a.size by omega)];rfl) (λ j d=>TA h b) e
 rw[dP,Ll vs o a w h c]at this;exact this
def qjR(hC:∀t d,C.ty t=Z d->cz P t=Z d)(hi:Inv Γ I w)(D:∀y,Rep Γ (aev tm y) (ρ y))(t:aQ)(y z:bw)(ho:o.op=.store t y z){d:TD}(hd:C.ty t=Z d){r i off ep:Nat}(hp:aev tm y=.rpt r i off ep){R R':Row}(hR:I.rw[r]?=Z R)
  (F:xW R i off ep d.size (cellsOf (aev tm z))=Z R'):dH P Γ I w o ρ (.tup []) (Z {I with rw:=I.rw.set r R',wrr:=r::I.wrr}):=by
 unfold xW at F;split at F<;>try cases F
 rename_i B n a;simp only[aJ,cH,bz]at n;let⟨⟨L,a0,a1,S,h⟩,Q⟩:=n
 have v:(cellsOf (aev tm z)).all isC=O:=bz.2 λ x f=>by
  have:=Q x f;cases x<;>first|rfl|(simp[br]at this)
 let⟨ii,u,zv,h1,h2,h3,h4,h5,h6,h7,h8⟩:=TD.inv (hC t d hd);have H:=hi.row r R hR
 have E:ρ y=.pointer (Z ⟨Γ.cur r,i*R.k+off,U⟩):=by
  have s:=hp▸D y;generalize ρ y=u0 at s;cases s with
  |rpt _ _ _ _ A a3 hv hl=>rw[hl (by rw[<-H.ver (H.live a)];exact L),H.k,H.off h,bS]
 let⟨g1,g2⟩:=(D z).cells v;have gl:=(D z).cells_len v;let⟨vs,e,fr,T,c2,c3,_⟩:=H.blk (H.real a);have aE:=getElem?_lt a;have a5:=H.len B (aK a)
 have a4:i*R.k+R.k<=vs.size:=by
  calc i*R.k+R.k=(i+1)*R.k:=by rw[dM,Jx]
   _<=X R.c*R.k:=bZ _ aE
   _<=Γ.sz r:=by have:=H.fit;omega
   _=vs.size:=c2.symm
 have b:(ρ z).cells.toList.length=d.size:=by simp;omega
 have p:=qel (P:=P) T c3 (i*R.k+off) (ρ z).cells.toList (by rw[b];omega) g2;rw[b]at p;have ad:i*R.k+off+d.size<=X (V vs):=by simp;omega
 have N:=λ q=>T5 b ad q;have M:=λ q=>T5 (l:=B) (m:=cellsOf (aev tm z)) (off:=off) S (by omega) q
 let⟨Γ',f1,f2⟩:=Ve hi hR a a0 h (e1:=B.take off++(cellsOf (aev tm z)++B.drop (off+d.size))) (by simp;omega)
  (by
   intro x f;obtain f|f:=aR.1 f
   .exact H.plain B (aK a) x (fY f)
   .obtain f|f:=aR.1 f
    .exact Q x f
    .exact H.plain B (aK a) x (ib f))
  (vs':=(vs.toList.take (i*R.k+off)++((ρ z).cells.toList++vs.toList.drop (i*R.k+off+d.size))).toArray)
  (w':=w.setRow (Γ.cur r) (vs.toList.take (i*R.k+off)++((ρ z).cells.toList++vs.toList.drop (i*R.k+off+d.size))).toArray)
  (by
   intro a2 e2 a6 hv;rw[T]at hv;cases hv;refine⟨setRow_heap w _ _ _ _ _ T,?_,λ q hq=>?_⟩
   .simp only[ic,aM,bj,fZ,b,ig];omega
   .rw[BM,N q];have an:vs[q]?=vs.toList[q]?:=by simp
    rw[an];split
    .rfl
    .rw[ifN])
  (by
   intro j x G;rw[BM,N];rw[M]at G
   have K:∀x',B[j]?=Z x'->∃u,vs.toList[i*R.k+j]?=Z u/\Rep Γ x' u/\u.oneCell'=O:=by
    intro x' W;let⟨u,E,g,h1⟩:=H.cells i B j x' a W;rw[kY T,H.off h,bS]at E;exact⟨u,by simpa using E,g,h1⟩
   split at G
   .next az=>rw[ifP];exact K x G
   .rename_i az;split at G
    .next ax=>rw[ifN,ifP];let⟨u,E,g⟩:=g1.get G;exact⟨u,by rw[show i*R.k+j-(i*R.k+off)=j-off by omega];exact E,g,g2 u (aK E)⟩
    .next ax=>rw[ifN,ifN];exact K x G)
  (λ k hk=>setRow_other w _ k _ hk) rfl rfl rfl (by simp) (ak _) (r::I.wrr)
 refine⟨.skip,undef,_,Γ',?_,.inr ⟨rfl,rfl⟩,f1,f2,.tup [] [] rfl λ i x u f=>by simp at f⟩;have ar:(ρ z).cells.size=ii.size:=by omega
 simp[execOp,ho,Instr.storeAt,Instr.sureAddr,E,storeVar,sizeOf,typeInfo,h1,Sem.run_bind',ar,p,bA]
def qoI(K:∀ t d,C.ty t=Z d->cz P t=Z d)(E:Inv Γ I w)(f:∀ y,Rep Γ (aev tm y) (ρ y))(t:aQ)(y z:bw)(D:o.op = .store t y z)(h:aF C tm I o.op=Z (x,σ')):dH P Γ I w o ρ x σ':=by
 rw[D]at h;simp only[aF]at h;split at h<;>try cases h
 case h_2 =>
  rename_i d r i off ep F B;split at h<;>try cases h
  next R W=>split at h<;>cases h;next R' A=>exact qjR K E f t y z D F B W A
 rename_i d b off F B;split at h<;>try cases h
 rename_i cs p;split at h<;>try cases h
 rename_i c;simp only[aJ,cH]at c;obtain⟨⟨⟨n,hl⟩,H⟩,l⟩:=c;obtain⟨i,u,zv,h1,h2,h3,h4,h5,h6,h7,h8⟩:=TD.inv (K t d F);have j:=B▸f y
 have S : ρ y = .pointer (Z ⟨Γ.β b,off,U⟩):=by
  generalize ρ y=u0 at j;cases j;rfl
 obtain⟨g1,L⟩:=(f z).cells l;have gl:=(f z).cells_len l;obtain⟨vs,e,c1,G,M⟩:=(E.box b cs p).cells n;have Q:vs.size=X cs:=by simpa using G.len
 have a:=run_storeCells_at P (Γ.β b) off e (ρ z).cells.toList 0 vs w c1 (by simp;omega) L;simp only[dP]at a;have m:(ρ z).cells.toList.length=d.size:=by simp;omega
 rw[m]at a
 obtain⟨e1,e2⟩:=qms E p n (cs':=cs.take off++(cellsOf (aev tm z)++cs.drop (off+d.size))) (vs':=vs.toList.take off++((ρ z).cells.toList++vs.toList.drop (off+d.size)))
  ((G.take off).append (g1.append (G.drop _))) (by
    intro v g;rcases aR.1 g with g | g
    ·exact M v (fY g)
    ·rcases aR.1 g with g | g
     ·exact L v g
     ·exact M v (ib g)) (b::I.wr) (w.setRow (Γ.β b) (vs.toList.take off++((ρ z).cells.toList++vs.toList.drop (off+d.size))).toArray) (λ vs' e' q=>setRow_heap w _ vs' _ e' (0,0) q) (λ k T=>setRow_other w _ k _ T) rfl rfl rfl (by simp) (ak _)
 refine⟨.skip,undef,_,Γ,?_,.inr ⟨rfl,rfl⟩,e1,e2,.tup [] [] rfl λ i x u N=>by simp at N⟩;have s:(ρ z).cells.size=i.size:=by omega
 simp[execOp,D,Instr.storeAt,Instr.sureAddr,S,storeVar,sizeOf,typeInfo,h1,Sem.run_bind',s,a,bA]
def qrF(f:Inv Γ I w)(b:∀y,Rep Γ (aev tm y) (ρ y))(y:bw)(c:o.op=.nilCheck y)(h:aF C tm I o.op=Z (x,σ')):dH P Γ I w o ρ x σ':=by
 rw[c]at h;simp only[aF]at h;have a:=b y;split at h<;>try cases h
 all_goals
  next e=>rw[e]at a;refine .val ?_ f a;generalize d:ρ y=u0 at a;cases a;simp[execOp,c,d]
end
abbrev en:=@TD.inv
end
section
open RowKit
section
variable {P:aZ}{C:Cfg}{Γ:Gh}{I:St}{w:aA}{o:Oper}{tm:aa AV}{ρ:bw->aj}{x:AV}{σ':ab St}
def toList_eq(a:io):a.toList=a.data.toList:=by rw[ByteArray.toList_eq]
def qrB{op:mJ}{k:IntKind}{a b:Int}{z:aj}(h:Bu op k a b=Z z)(t:aQ):Go.binOp op t (.int k a) (.int k b) = .pure z/\cj z=O:=by
 cases op<;>simp only[Bu]at h<;>try cases h
 all_goals first
  | exact⟨by simp[Go.binOp,Op.intArith,Op.intBits,Op.intCmp,iw,aw,eT,qs,qx,ieq,ilt,ile,ap]<;>first | rfl | (congr 1;simp[bne];done),rfl⟩
  | (split at h
     ·cases h
     ·rename_i d;cases h;have c:b≠0:=by simpa[ieq]using d
      exact⟨by simp[Go.binOp,Op.intDiv,Jf,Jq,iw,c];rfl,rfl⟩)
def qrM{op:mJ}{a b:io}{z:aj}(h:BK op a b=Z z)(t:aQ):Go.binOp op t (.string a) (.string b) = .pure z/\cj z=O:=by
 cases op<;>simp only[BK]at h<;>try cases h
 all_goals first
  | exact⟨by simp[Go.binOp,Op.stringOp,xeq,xlt,rY,ap,toList_eq];rfl,rfl⟩
  | (split at h<;>cases h
     rename_i z c;simp only[Jo]at c;split at c<;>cases c;rename_i d;exact⟨by simp only[Go.binOp,Op.stringOp];rw[ae d];rfl,rfl⟩)
def qrR{op:mJ}{a b z:aj}(h:rS op a b=Z z)(t:aQ)(W T:bw):(eqGuard op t W T a b).run P w=.ok () w/\(Go.binOp op t a b).run P w=.ok z w/\cj z=O:=by
 have guard:∀(k e:IntKind) (m n:Int),(eqGuard op t W T (.int k m) (.int e n)).run P w=.ok () w:=λ k e m n=>by cases op<;>simp[eqGuard]
 have c:∀(m n:io),(eqGuard op t W T (.string m) (.string n)).run P w=.ok () w:=λ m n=>by cases op<;>simp[eqGuard]
 unfold rS at h;split at h
 .rename_i k a e b;split at h
  .split at h<;>cases h;rename_i g;have d:¬ b<0:=by simpa[ilt]using g
   refine⟨guard _ _ _ _,?_,rfl⟩;simp[Go.binOp,Op.shift,d,PZ]
  .split at h<;>cases h;rename_i g;have d:¬ b<0:=by simpa[ilt]using g
   refine⟨guard _ _ _ _,?_,rfl⟩;simp[Go.binOp,Op.shift,d,nh]
  .split at h<;>try cases h
   rename_i l;have f:k=e:=by simpa using l
   subst f;let⟨j,i⟩:=qrB h t;refine⟨guard _ _ _ _,?_,i⟩;rw[j];rfl
 .next a b=>let⟨j,i⟩:=qrM h t;refine⟨c _ _,?_,i⟩;rw[j];rfl
 .cases h
def Zz{u:TypeDesc}(h:fW P u=Z .ptr):∃e,u=.pointer e:=by
 cases u<;>(try (cases uF h;done))<;>simp only[fW]at h<;>first|exact⟨_,rfl⟩|(cases h;done)|skip
 all_goals (repeat' (first|(cases h;done)|split at h))
 rename_i b;cases a:fieldsOf P (V b) with
 |none|some l=>rw[a]at h;cases h
def qqL{y:AV}{u:aj}(h:Rep Γ y u)(a:A6 y=O):∃A,u=.pointer (Z A):=by
 cases h with
 |ptr|rpt|ept=>exact⟨_,rfl⟩
 |_=>cases a
def qro{y:AV}(h:BL y=O):y=.v (.pointer U):=by
 unfold BL at h;split at h
 .rfl
 .cases h
def T4{t e:aQ}(h:P.underlying t=Z (.pointer e)):P.underlying t=Z (.pointer (P.pointee t)):=by
 unfold Program.pointee;rw[h]
def qrH(G:∀t d,C.ty t=Z d->cz P t=Z d)(D:Inv Γ I w)(c:∀y,Rep Γ (aev tm y) (ρ y))(op:mJ)(t:aQ)(y z:bw)(u:aQ)(q:o.op=.binOp op t y z u)(h:aF C tm I o.op=Z (x,σ')):dH P Γ I w o ρ x σ':=by
 have g:∀(m n:Bool),(eqGuard op t y z (.bool m) (.bool n)).run P w=.ok () w:=λ m n=>by cases op<;>simp[eqGuard]
 have e:∀(m n:ab Addr),(eqGuard op t y z (.pointer m) (.pointer n)).run P w=.ok () w:=λ m n=>by cases op<;>simp[eqGuard]
 rw[q]at h;simp only[aF]at h;split at h<;>try cases h
 .rename_i a b B s;have k:=ce (B▸c y);have j:=ce (s▸c z);split at h<;>cases h
  all_goals
   next d1 W T S r=>let⟨i,u,H,R,p,Q,N,M,L,K,l⟩:=en (G t _ r);have E:=qql l;subst E;refine .val ?_ D (.v _ rfl);have f:=run_equal_bool (P:=P) w t a b p;simp[execOp,q,k,j,Sem.run_bind',g,Go.binOp,f,dj,ap]
 .rename_i B s;have k:=ce (B▸c y);have j:=ce (s▸c z);split at h<;>cases h
  all_goals
   next d1 W T S r=>let⟨i,u,H,R,p,Q,N,M,L,K,l⟩:=en (G t _ r);obtain⟨pe,rfl⟩:=Zz l;refine .val ?_ D (.v _ rfl);have f:=run_equal_pointer_nil (P:=P) w t U (T4 p);simp[execOp,q,k,j,Sem.run_bind',e,Go.binOp,f]
 .next a b _ _ B s=>have k:=ce (B▸c y);have j:=ce (s▸c z);split at h<;>cases h;next zz hz=>let⟨g0,g1,g2⟩:=qrR (P:=P) (w:=w) hz t y z;refine .val ?_ D (.v _ g2);simp[execOp,q,k,j,Sem.run_bind',g0,g1]
 .split at h<;>cases h
  all_goals
   next d1 W T S F r=>rw[aJ]at F;let⟨i,u,H,R,p,Q,N,M,L,K,l⟩:=en (G t _ r);obtain⟨pe,rfl⟩:=Zz l;let⟨A,k⟩:=qqL (c y) F.1;have j:=ce (qro F.2▸c z);refine .val ?_ D (.v _ rfl);have f:=run_equal_pointer_nil (P:=P) w t (Z A) (T4 p);simp[execOp,q,k,j,Sem.run_bind',e,Go.binOp,f]
def qrV(e:Inv Γ I w)(b:∀y,Rep Γ (aev tm y) (ρ y))(op:UnOp)(t:aQ)(y:bw)(d:o.op=.unOp op t y)(h:aF C tm I o.op=Z (x,σ')):dH P Γ I w o ρ x σ':=by
 rw[d]at h;simp only[aF]at h;split at h<;>try cases h
 rename_i a g;have f:=ce (g▸b y);split at h<;>cases h;rename_i z c;unfold unA at c;split at c<;>cases c
 .exact .val (by simp[execOp,d,f,Op.unary,Op.intArith,iw,eT]) e (.v _ rfl)
 .exact .val (by simp[execOp,d,f,Op.unary,ap]) e (.v _ rfl)
def MT(a:∀y,Rep Γ (aev tm y) (ρ y)):∀l:aa bw,RepL Γ (l.map (aev tm)) (l.map ρ)
 |[]=>.nil
 |y::l=>.cons (a y) (MT a l)
def qr6(i:Inv Γ I w)(b:∀y,Rep Γ (aev tm y) (ρ y))(f:Fn)(d cs:aL bw)(e:o.op=.makeFunc f d cs)(h:aF C tm I o.op=Z (x,σ')):dH P Γ I w o ρ x σ':=by
 rw[e]at h;cases f with
 |func f=>?_
 |_=>simp only[aF]at h;cases h
 simp only[aF]at h;split at h<;>cases h;rename_i c
 have a:d = #[]:=by
  rw[<-Qy (xs:=d),c]
 subst a;have g:=MT b (V cs);refine .val (u:=.func (.func f) #[] (cs.toList.map ρ).toArray) ?_ i (.fn f _ _ g.len g.rep);simp[execOp,e,Instr.makeFunc];rw[<-BN]
def qlv(l:Inv Γ I w)(b:∀y,Rep Γ (aev tm y) (ρ y))(y:bw)(i:Nat)(e:o.op=.extract y i)(h:aF C tm I o.op=Z (x,σ')):dH P Γ I w o ρ x σ':=by
 rw[e]at h;simp only[aF]at h;split at h<;>try cases h
 rename_i vs f;split at h<;>cases h;rename_i z c;have d:=f▸b y;generalize g:ρ y=u0 at d;cases d with
 |tup cs us k j=>
   have a:i<X us:=by rw[k];exact getElem?_lt c
   refine .val ?_ l (j i _ _ c (aS a));simp[execOp,e,g,Instr.extract,a]
def qju(hC:∀t d,C.ty t=Z d->cz P t=Z d)(s:Inv Γ I w)(B:∀y,Rep Γ (aev tm y) (ρ y))(t:aQ)(y:bw)(i:Nat)(E:o.op=.fieldAddr t y i)(h:aF C tm I o.op=Z (x,σ')):dH P Γ I w o ρ x σ':=by
 rw[E]at h;simp only[aF]at h;split at h<;>try cases h
 rename_i _ _ _ _ fs T;split at h<;>try cases h
 rename_i off size g S;split at h<;>try cases h
 rename_i _ sz;let⟨ii,u,zv,q1,G,q3,q4,q5,q6,q7,M⟩:=en (hC t _ T);obtain⟨F,rfl,hF⟩:=Mk M;let⟨f1,f2⟩:=F1 hF;let⟨f,fi,fu,g1,L,g3,K⟩:=f2 i _ S;simp only[fc]at K;obtain⟨rfl,Q,rfl⟩:=K;have p:F[i]?=Z f:=by rw[<-g1];simp
 have n:fi.size≠0:=by omega
 have e:∀b a,ρ y=.pointer (Z ⟨b,a,U⟩)->(execOp ρ o).run P w=.ok (.value (.pointer (Z ⟨b,a+f.offset,U⟩))) w:=by
  intro b a k;simp[execOp,E,k,Instr.fieldAt,underlying,G,p,Instr.sureAddr,fieldPlace,sizeOf,typeInfo,L,n,uG]
 have c:=B y;split at h<;>try cases h
 .rename_i k;rw[k]at c;generalize l:ρ y=u0 at c;cases c;rename_i b z W;exact .val (e _ _ l) s (.ptr _ _ W)
 .rename_i k;rw[k]at c;generalize l:ρ y=u0 at c;cases c;rename_i r j z ep A m H N;by_cases q:Γ.ver r=ep
  .have hA:=N q;subst hA;exact .val (e _ _ l) s (.rpt _ _ _ _ _ m H λ _=>by rw[eI])
  .refine .val (u:=.pointer (Z (A.add f.offset))) ?_ s (.rpt _ _ _ _ _ m H λ h=>absurd h q);simp[execOp,E,l,Instr.fieldAt,underlying,G,p,Instr.sureAddr,fieldPlace,sizeOf,typeInfo,L,n]
 .rename_i k;rw[k]at c;generalize l:ρ y=u0 at c;cases c;rename_i cs z b v us D q R;refine .val (e _ _ l) s ?_;rw[eI];exact .ept cs (z+f.offset) b v us D q R
def qrd{f:aQ}{fi:TypeInfo}{j:TypeDesc}(k:P.info? f=Z fi)(i:P.underlying f=Z j){cs:aa AV}{us:aa aj}(g:RepL Γ cs us)(b:∀u∈us,u.oneCell'=O){off:Nat}{z:AV}(h:lW (rR j) fi.size cs off=Z z):
  ∃u,(part f us.toArray off).run P w=.ok u w/\Rep Γ z u:=by
 unfold lW at h;split at h
 .rename_i e;split at h<;>cases h;rename_i c;have c:off+fi.size<=X cs:=by simpa using c
  refine⟨.agg ((us.drop off).take fi.size).toArray,?_,?_⟩
  .simp[part,Sem.run_bind',Gs i,e,sizeOf,typeInfo,k]
  .have:=(g.drop off).take fi.size;exact .agg _ _ this.len (λ u d=>b u (ib (fY d))) this.rep
 .next e=>let⟨u,d,a⟩:=g.get h;refine⟨u,?_,a⟩;simp[part,Sem.run_bind',Gs i,e,d]
def qpq(E:∀t d,C.ty t=Z d->cz P t=Z d)(s:Inv Γ I w)(a:∀y,Rep Γ (aev tm y) (ρ y))(t:aQ)(y:bw)(i:Nat)(j:o.op=.field t y i)(h:aF C tm I o.op=Z (x,σ')):dH P Γ I w o ρ x σ':=by
 rw[j]at h;simp only[aF]at h;split at h<;>try cases h
 rename_i _ _ _ _ fs cs B b;split at h<;>try cases h
 rename_i off size g A;split at h<;>cases h;rename_i z n;let⟨ii,u,Q,q1,m,q3,W,T,S,R,l⟩:=en (E t _ B);obtain⟨F,rfl,D⟩:=Mk l;let⟨f1,M⟩:=F1 D;let⟨f,fi,fu,L,K,H,k⟩:=M i _ A;simp only[fc]at k;obtain⟨rfl,rfl,rfl⟩:=k;have c:F[i]?=Z f:=by rw[<-L];simp
 have e:=b▸a y;generalize p:ρ y=u0 at e;cases e with
 |agg _ us r G q=>
   let⟨v,e1,N⟩:=qrd (P:=P) (w:=w) K H (Γ:=Γ) ⟨r,q⟩ G n;refine .val ?_ s N;simp[execOp,j,p,Instr.field,underlying,m,c,asAgg,Sem.run_bind',e1]
def qpx(D:∀t d,C.ty t=Z d->cz P t=Z d)(r:Inv Γ I w)(a:∀y,Rep Γ (aev tm y) (ρ y))(t:aQ)(y z:bw)(g:o.op=.index t y z)(h:aF C tm I o.op=Z (x,σ')):dH P Γ I w o ρ x σ':=by
 rw[g]at h;simp only[aF]at h;split at h<;>try cases h
 rename_i _ _ _ _ s k j B p q;split at h<;>cases h;rename_i b e;have F:=ce (p▸a y);have E:=ce (q▸a z);let⟨S,u,H,R,m,Q,N,M,L,K,l⟩:=en (D t _ B);have n:=wY l;subst n;simp only[Ji]at e;split at e<;>try cases e
 rename_i G;split at e<;>cases e;rename_i c i;refine .val ?_ r (.v _ rfl);have f:j.toNat<s.size:=by have:=getElem?_lt i;simpa using this
 have A:s[j.toNat]=c:=by
  have:=(ft.1 i).2;simp at this;exact this
 simp[execOp,g,F,E,Instr.index,asIntOf,underlying,m,G,f,A]
end
end
section
open RowKit
section
variable {P:aZ}{C:Cfg}{Γ:Gh}{I:St}{w:aA}{o:Oper}{tm:aa AV}{ρ:bw->aj}{x:AV}{σ':ab St}
def qku(hC:∀t d,C.ty t=Z d->cz P t=Z d)(G:Inv Γ I w)(i:∀y,Rep Γ (aev tm y) (ρ y))(t:aQ)(y z:bw)(W:o.op=.indexAddr t y z)(h:aF C tm I o.op=Z (x,σ')):dH P Γ I w o ρ x σ':=by
 rw[W]at h;simp only[aF]at h;split at h<;>try cases h
 .rename_i _ _ _ e k bb zz kk j hd hj;have h2:=ce (hj▸i z);let⟨ii,u,zv,q1,L,q3,q4,q5,q6,q7,K⟩:=en (hC t _ hd);obtain⟨rfl,ie,ze,N,p2,M,p4,p5⟩:=oF K;have g:=i y
  have s:∀b off n cap,ρ y=.slice (Z ⟨b,off,U⟩) n cap->0<=j->j<n->(execOp ρ o).run P w=.ok (.value (.pointer (Z ⟨b,off+j.toNat*k,U⟩))) w:=by
   intro b off n cap m D F;simp[execOp,W,m,h2,Instr.indexAt,asIntOf,underlying,L,D,F,sizeOf,typeInfo,N,M,uG]
  split at h<;>try cases h
  .rename_i k' es f m;split at h<;>try cases h
   rename_i hk;have hk:k'=k:=by simpa[bJ]using hk
   subst hk;split at h<;>cases h;rename_i cs c;simp only[yE]at c;split at c<;>try cases c
   rename_i D;rw[m]at g;generalize v:ρ y=u0 at g;cases g with
   |sl _ _ _ a n cap b E us F hc hf B T ax ha hm hr=>
     have A:=getElem?_lt c;have an:a=Z ⟨b,E,U⟩:=ha.resolve_left λ he=>by rw[he]at A;simp at A
     subst an;refine .val (s _ _ _ _ v D (by omega)) G ?_;exact .ept cs 0 b (E+j.toNat*k') (us j.toNat) (λ x l=>T cs (aK c) x l) (λ q x l=>hm _ cs q x c l) (λ q x l=>hr _ cs q x c l)
  .rename_i r lo n ep f m;split at h<;>try cases h
   rename_i R hR;split at h<;>cases h;rename_i q S;simp only[IP]at S;split at S<;>cases S;rename_i hc;let⟨c1,c2,c3,c4,c5⟩:=hc;have H:=G.row r R hR;rw[m]at g;generalize v:ρ y=u0 at g;cases g with
   |rs _ _ _ _ _ a cap Q hv ar hf l=>
     let⟨g2,g3⟩:=l (by rw[<-H.ver (H.liveN c5 (by omega))];exact c4);have p:cap≠0:=by omega
     have ha:=g2.resolve_left p;subst ha;refine .val (s _ _ _ _ v c2 c3) G (.rpt _ _ _ _ _ Q hv λ _=>?_);have B:k=Γ.k r:=by rw[<-c1];exact H.k
     rw[B,dM];simp
 .rename_i n e k _ j hd hj;have h2:=ce (hj▸i z);let⟨ii,u,zv,q1,L,q3,q4,q5,q6,q7,K⟩:=en (hC t _ hd);obtain⟨rfl,ie,N,M⟩:=qoh K;split at h<;>try cases h
  rename_i b E m;split at h<;>cases h;rename_i hb;let⟨D,F⟩:=bG hb;have g:=i y;rw[m]at g;generalize v:ρ y=u0 at g;cases g with
  |ptr _ _ ad=>
    refine .val (u:=.pointer (Z ⟨Γ.β b,E+j.toNat*k,U⟩)) ?_ G (.ptr _ _ ad);simp[execOp,W,v,h2,Instr.indexAt,Instr.sureAddr,asIntOf,underlying,L,D,F,sizeOf,typeInfo,N,M,uG]
def Zb{y:Nat}{v:aj}{a:AV}(c:Rep Γ a v){n:Nat}(h:IF y a=Z n)(m:Nat)(f:y<=m)(b:BoundsCode):(Instr.sliceBound v m b).run P w=.ok n w/\n<=y:=by
 unfold IF at h;split at h
 .rename_i k i;have:=ce c;subst this;simp only[bnd]at h;split at h<;>cases h;rename_i d;have e:0<=i/\i<=m:=⟨d.1,by omega⟩
  exact⟨by simp[Instr.sliceBound,asIntOf,e],by omega⟩
 .cases h
def GK(c:∀y,Rep Γ (aev tm y) (ρ y)){isS:Bool}{a cap:Nat}(d:a<=cap){lo b:ab bw}{l h:Nat}(f:iH a a (b.map (aev tm))=Z h)(e:iH 0 h (lo.map (aev tm))=Z l):
  (Instr.sliceBounds isS a cap (lo.map ρ) (b.map ρ) U).run P w=.ok (l,h,cap) w/\l<=h/\h<=a:=by
 have H:(match b.map ρ with|some v=>Instr.sliceBound v cap (if isS then .sliceAcap else .sliceAlen)|none=>pure a:Sem Nat).run P w=.ok h w/\h<=a:=by
  cases b with
  |none=>simp only[iH,vN]at f;cases f;exact⟨by simp,ak _⟩
  |some y=>exact Zb (c y) (by simpa[iH]using f) cap d _
 have L:(match lo.map ρ with|some v=>Instr.sliceBound v h .sliceB|none=>pure 0:Sem Nat).run P w=.ok l w/\l<=h:=by
  cases lo with
  |none=>simp only[iH,vN]at e;cases e;exact⟨by simp,aG _⟩
  |some y=>exact Zb (c y) (by simpa[iH]using e) h (ak _) _
 refine⟨?_,L.2,H.2⟩;cases b with
 |none=>
   cases lo with
   |none=>simp only[vN]at H L;simp at H L;simp[Instr.sliceBounds,H,L]
   |some y=>simp only[vN,ny]at H L;simp at H;simp[Instr.sliceBounds,H,L.1]
 |some z=>
   cases lo with
   |none=>simp only[vN,ny]at H L;simp at L;simp[Instr.sliceBounds,H.1,L]
   |some y=>simp only[ny]at H L;simp[Instr.sliceBounds,H.1,L.1]
def qoo(hC:∀t d,C.ty t=Z d->cz P t=Z d)(hi:Inv Γ I w)(c:∀y,Rep Γ (aev tm y) (ρ y))(t:aQ)(y:bw)(lo ad mx:ab bw)(S:o.op=.slice t y lo ad mx)(h:aF C tm I o.op=Z (x,σ')):dH P Γ I w o ρ x σ':=by
 rw[S]at h;cases mx with
 |some m=>simp only[aF]at h;cases h
 |none=>
 simp only[aF]at h;split at h<;>try cases h
 .rename_i _ _ _ _ s L hs;have h1:=ce (hs▸c y);let⟨ii,u,zv,q1,F,q3,q4,q5,q6,q7,E⟩:=en (hC t _ L);have G:=wY E;subst G;split at h<;>try cases h
  rename_i q p;split at h<;>cases h;rename_i l g;let⟨z,b2,b3⟩:=GK (P:=P) (w:=w) c (isS:=Y) (ak _) p g;refine .val ?_ hi (.v _ rfl);simp[execOp,S,h1,Instr.sliceAt,Instr.slice,underlying,F,Sem.run_bind',ql]at z |-
  simp[z,Br]
 .rename_i _ _ _ e k bb zz k' es f L Q;split at h<;>try cases h
  rename_i W;rw[aJ]at W;have a0:0<f:=bG W.2;have W:k'=k:=by simpa[bJ]using W.1
  subst W;split at h<;>try cases h
  rename_i q p;split at h<;>cases h;rename_i l g;let⟨ii,u,zv,q1,F,q3,q4,q5,q6,q7,E⟩:=en (hC t _ L);obtain⟨rfl,ie,ze,D,p2,B,p4,p5⟩:=oF E;have N:=Q▸c y;generalize G:ρ y=u0 at N;cases N with
  |sl _ _ _ a n cap b oo us hn hc hf ax an a2 ha hm hr=>
    subst hn;have hc:=hc a0;let⟨z,b2,b3⟩:=GK (P:=P) (w:=w) c (isS:=O) hc p g;have b3:q<=X es:=b3;have z:(Instr.sliceBounds O (X es) cap (lo.map ρ) (ad.map ρ) U).run P w=.ok (l,q,cap) w:=z;refine .val (u:=.slice (if cap=l then a else a.map (·.add (l*k'))) (q-l) (cap-l)) ?_ hi ?_
    .simp[execOp,S,G,Instr.sliceAt,Instr.slice,underlying,F,Sem.run_bind',sizeOf,typeInfo,D,B];rw[z];simp[D,B]
    .simp only[Ja];refine .sl k' _ _ _ _ _ b (oo+l*k') (λ i j=>us (l+i) j) (by simp;omega) (λ _=>by omega) ?_ (λ e he=>ax e (fY (ib he))) (λ e he=>an e (fY (ib he))) a2 ?_ ?_ ?_
     .intro A;unfold lvS at A;split at A
      .next hb=>rw[aJ]at hb;have h1:=hf (bG hb.1);have h2:q=X es:=bG hb.2;rw[h1,h2]
      .exact absurd A (by decide)
     .obtain ha|ha:=ha
      .left;subst ha;simp
      .by_cases M:cap=l
       .grind
       .right;subst ha;rw[ae M];simp[uG]
     .grind
     .grind
 .rename_i _ _ _ e k bb zz L Q;split at h<;>try cases h
  rename_i q p;split at h<;>cases h;rename_i l g;let⟨ii,u,zv,q1,F,q3,q4,q5,q6,q7,E⟩:=en (hC t _ L);obtain⟨rfl,ie,ze,D,p2,B,p4,p5⟩:=oF E;have G:=ce (Q▸c y);let⟨z,b2,b3⟩:=GK (P:=P) (w:=w) c (isS:=O) (ak 0) p g;have aE:q=0:=by omega
  have ar:l=0:=by omega
  subst aE;subst ar;refine .val (u:=.slice U 0 0) ?_ hi (.v _ rfl);simp[execOp,S,G,Instr.sliceAt,Instr.slice,underlying,F,Sem.run_bind',sizeOf,typeInfo,D,B];rw[z];simp[D,B]
 .rename_i _ _ _ e k bb zz r oo n ep f L Q;split at h<;>try cases h
  rename_i q R p hR;split at h<;>try cases h
  rename_i l g;split at h<;>cases h;rename_i R' T K;have az:q=n:=by simpa[bJ]using T
  subst az;simp only[IJ]at K;split at K<;>cases K;rename_i a1;let⟨c0,c1,c2,c3,c4,c5⟩:=a1;let⟨ii,u,zv,q1,F,q3,q4,q5,q6,q7,E⟩:=en (hC t _ L);obtain⟨rfl,ie,ze,D,p2,B,p4,p5⟩:=oF E;have H:=hi.row r R hR;have N:=Q▸c y;generalize G:ρ y=u0 at N;cases N with
  |rs _ _ _ _ _ a cap a4 hv hc A hx=>
    let⟨g2,g3⟩:=hx (by rw[<-H.ver c5];exact c1);let⟨z,b2,b3⟩:=GK (P:=P) (w:=w) c (isS:=O) hc p g;let⟨Γ',f1,f2,f3⟩:=qo6 hi hR c5 (l:=l) (by omega) (r::I.wrr);subst c3;rw[c1]at f3;rw[bS,<-H.k]at g3;rw[kG,dP]at g2;have a5:(cap-l)*R.k=cap*R.k-l*R.k:=qse _ _ _;have a3:l*R.k<=cap*R.k:=bZ _ (by omega);refine⟨_,.slice (if cap=l then a else a.map (·.add (l*R.k))) (q-l) (cap-l),w,Γ',?_,.inl rfl,f1,?_,f3 _ _ _ (by omega) ?_ (by omega)⟩
    .simp[execOp,S,G,Instr.sliceAt,Instr.slice,underlying,F,Sem.run_bind',sizeOf,typeInfo,D,B];rw[z];simp[D,B,c0]
    .exact f2
    .by_cases M:cap=l
     .left;omega
     .right;rw[ae M,g2.resolve_left (by omega)];simp[uG]
def Wm(off:Nat):∀(xs:aa aj) (n:Nat) (cs:aL aj),off+n+X xs<=cs.size->V ((xs.zipIdx n).foldl (λ cs (p:aj×Nat)=>cs.setIfInBounds (off+p.2) p.1) cs)=cs.toList.take (off+n)++(xs++cs.toList.drop (off+n+X xs))
 |[],n,cs,h=>by simp
 |x::xs,n,cs,h=>by
   simp only[Qz,jP,bE]at h |-
   rw[Wm off xs (n+1) _ (by simp;omega)];simp only[Jy];have a:off+n<X (V cs):=by simp;omega
   have b:off+n<cs.size:=by omega
   rw[show off+(n+1)=off+n+1 by omega,show off+n+1+X xs=off+n+(X xs+1) by omega];rw[dN,gx a,Qx (ak _),qbU (by omega)];simp
def UX{v:aj}{off:Nat}{cs:aL aj}(h:off+v.cells.size<=cs.size:=by omega):V (v.cells.zipIdx.foldl (λ cs (c,j)=>cs.setIfInBounds (off+j) c) cs)=cs.toList.take off++(V v.cells++cs.toList.drop (off+v.cells.size)):=by
 rw[<-Array.foldl_toList,Array.toList_zipIdx];have:=Wm off (V v.cells) 0 cs (by simpa using h);simpa using this
def Ys{place:Nat->ab (Nat×Nat)}:∀{ps:aa (Nat×AV)}{vs:aa (Nat×aj)}{cells:aa AV}{cs:aL aj}{cells':aa AV},(X ps=X vs/\∀(i:Nat) (p:Nat×AV) (q:Nat×aj),ps[i]?=Z p->vs[i]?=Z q->p.1=q.1/\Rep Γ p.2 q.2)->
  RepL Γ cells (V cs)->(∀u∈V cs,u.oneCell'=O)->rL place cells ps=Z cells'->∃cs',Instr.fill place cs vs=Z cs'/\RepL Γ cells' (V cs')/\∀u∈V cs',u.oneCell'=O
 |[],vs,cells,cs,cells',e,g,l,h=>by
   obtain rfl:vs=[]:=yH.1 e.1.symm;simp only[rL]at h;cases h;exact⟨cs,rfl,g,l⟩
 |(i,x)::ps,vs,cells,cs,cells',e,g,l,h=>by
   cases vs with
   |nil=>simp at e
   |cons q vs=>
     let⟨j,v⟩:=q;let⟨k,m⟩:=e.2 0 (i,x) (j,v) rfl rfl;simp only at k m;subst k;simp only[rL]at h;split at h<;>try cases h
     rename_i off size o;split at h<;>try cases h
     rename_i r;simp only[aJ,cH]at r;let⟨⟨D,C⟩,s⟩:=r;let⟨y,w⟩:=m.cells s;have B:=m.cells_len s;have t:cs.size=X cells:=by simpa using g.len
     have f:=UX (v:=v) (off:=off) (cs:=cs);have n:v.cells.size=size:=by omega
     let⟨cs',e1,A,z⟩:=Ys (place:=place) (ps:=ps) (vs:=vs) (cells:=cells.take off++(cellsOf x++cells.drop (off+size))) (cs:=v.cells.zipIdx.foldl (λ cs (c,j)=>cs.setIfInBounds (off+j) c) cs) (cells':=cells')
      ⟨by simpa using e.1,λ i p q a b=>e.2 (i+1) p q (by simpa using a) (by simpa using b)⟩
      (by rw[f,n];exact(g.take off).append (y.append (g.drop _)))
      (by
       rw[f];intro u d;obtain d|d:=aR.1 d
       .exact l u (fY d)
       .obtain d|d:=aR.1 d
        .exact w u d
        .exact l u (ib d)) h
     refine⟨cs',?_,A,z⟩;simp only[Instr.fill,o];grind
def qmZ(a:∀y,Rep Γ (aev tm y) (ρ y))(parts:aa (Nat×bw)):X (parts.map λ p=>(p.1,aev tm p.2))=X (parts.map λ p=>(p.1,ρ p.2))/\∀(i:Nat) (p:Nat×AV) (q:Nat×aj),(parts.map λ p=>(p.1,aev tm p.2))[i]?=Z p->(parts.map λ p=>(p.1,ρ p.2))[i]?=Z q->p.1=q.1/\Rep Γ p.2 q.2:=by
 grind
def qo2(H:∀t d,C.ty t=Z d->cz P t=Z d)(e:Inv Γ I w)(c:∀y,Rep Γ (aev tm y) (ρ y))(t:aQ)(parts:aL (Nat×bw))(j:o.op=.build t parts)(h:aF C tm I o.op=Z (x,σ')):dH P Γ I w o ρ x σ':=by
 rw[j]at h;simp only[aF]at h;split at h<;>try cases h
 rename_i _ _ _ z a B;split at h<;>try cases h
 rename_i s;split at h<;>cases h;rename_i cs D;let⟨ii,u,n,W,T,S,R,Q,N,g,q⟩:=en (H t _ B);obtain⟨F,rfl,G⟩:=Mk q;let⟨f1,f2⟩:=F1 G;simp only at g;subst g;let⟨L,K⟩:=uz (Γ:=Γ) s
 have k:∀{F:aa Field}{a:aa (Nat×Nat×Bool)},fieldsOf P F=Z a->F.mapM (λ f=>(P.info? f.type).map λ i=>(f.offset,i.size))=Z (a.map λ f=>(f.1,f.2.1)):=by
  intro F
  induction F with
  |nil=>intro a h;simp[fieldsOf]at h;subst h;rfl
  |cons f F r=>
    intro a h;simp only[fieldsOf]at h;split at h
    .next i u l e hu A=>cases h;simp[List.mapM_cons,e,r A]
    .cases h
 have b:rL (λ i=>(a.map λ f=>(f.1,f.2.1)).toArray[i]?) (n.cells.toList.map .v) (parts.toList.map λ p=>(p.1,aev tm p.2))=Z cs:=by
  grind
 let⟨cs',e1,m,M⟩:=Ys (Γ:=Γ) (qmZ c (V parts)) L K b
 have E:P.built t (V (parts.map λ p=>(p.1,ρ p.2)))=Z cs':=by
  unfold Program.built;grind [Array.toList_map]
 refine .val (u:=.agg cs') ?_ e ?_
 .simp[execOp,j,run_build w t _ cs' E]
 .have:=Rep.agg (Γ:=Γ) cs (V cs') m.len M m.rep;simpa using this
end
end
section
open RowKit
section
variable {P:aZ}{C:Cfg}{Γ:Gh}{I:St}{w:aA}{o:Oper}{tm:aa AV}{ρ:bw->aj}{x:AV}{σ':ab St}
def xP(hi:Inv Γ I w){m:Nat->Nat->ab aj}(l:Le Γ {Γ with mem:=m}){y:AV}{u:aj}(hf:∀r∈rsC y,∀R,I.rw[r]?=Z R->gF {Γ with mem:=m} r R)(B:Rep Γ y u):Rep {Γ with mem:=m} (bC I.rw y) u:=by
 cases B with
 |sl k N f a n cap b o us hn K D hk C t ha hm B=>
   exact .sl k N _ a n cap b o us hn (λ h=>K (by cases f with|zero=>exact absurd h (qbV 0)|succ f=>exact sj f)) (λ h=>by cases f with|zero=>exact absurd h (by simp[lv1])|succ f=>exact absurd h (by simp[lv1])) hk C t ha (λ i e j x d g=>l.mem _ _ _ (hm i e j x d g)) (λ i e j x d g=>(B i e j x d g).mono l)
 |rs r lo n P f a cap W hv K D T=>
   simp only[bC];split
   .rename_i R M;split
    .rename_i N q;simp only[vk]at q;split at q<;>cases q;rename_i G;obtain⟨-,c1,c3⟩:=G;have H:=hi.row r R M
     have z:n=0\/(cap=0\/a=Z ⟨Γ.cur r,Γ.of r+lo*Γ.k r,U⟩):=by
      obtain t|t:=Qv n
      .exact .inl t
      .exact .inr (T (by rw[<-H.ver (H.liveN c3 t)];exact c1)).1
     have F:=hf r (by simp[rsC]) R M
     have S:∀(i:Nat) (e:aa AV) (j:Nat) (x:AV),((R.c.drop lo).take n)[i]?=Z e->e[j]?=Z x->∃u,m (Γ.cur r) (Γ.of r+lo*R.k+i*R.k+j)=Z u/\Rep {Γ with mem:=m} x u:=by
      intro i e j x d g;rw[fM]at d;split at d<;>try cases d
      next ad=>rw[iJ]at d;let⟨u,hu,L⟩:=F (lo+i) e j x d g;grind
     refine .sl R.k _ 1 a n cap (Γ.cur r) (Γ.of r+lo*R.k) (λ i j=>(m (Γ.cur r) (Γ.of r+lo*R.k+i*R.k+j)).getD undef) ?_ (λ _=>K) (λ h=>absurd h (by decide)) (λ e E=>H.len e (ib (fY E))) (λ e E=>H.plain e (ib (fY E))) H.pos ?_ ?_ ?_
     .simp;omega
     .obtain z|z|z:=z
      .grind
      .simp_all
      .right;rw[z,H.k]
     .grind
     .grind
    .exact .dead _
   .exact .dead _
 |v _ h=>exact .v _ h
 |dead u=>exact .dead u
 |ptr b o h=>exact(Rep.ptr b o h).mono l
 |rpt r i o P A d g s=>exact(Rep.rpt r i o P A d g s).mono l
 |ept cs o b Q us d g s=>exact(Rep.ept cs o b Q us d g s).mono l
 |fn f cs us d g=>exact(Rep.fn f cs us d g).mono l
 |agg cs us d g s=>exact(Rep.agg cs us d g s).mono l
 |tup cs us d g=>exact(Rep.tup cs us d g).mono l
 |mp b h=>exact(Rep.mp b h).mono l
def W4(g:Inv Γ I w){m:Nat->Nat->ab aj}(f:Le Γ {Γ with mem:=m}){cs:aa AV}{us:aa aj}(j:∀r∈cs.flatMap rsC,∀R,I.rw[r]?=Z R->gF {Γ with mem:=m} r R)(d:RepL Γ cs us):RepL {Γ with mem:=m} (cs.map (bC I.rw)) us:=by
 refine⟨by simpa using d.len,λ i x u b e=>?_⟩;rw[df]at b;cases h:cs[i]? with
 |none=>rw[h]at b;cases b
 |some y=>
   rw[h]at b;cases b;exact xP g f (λ r c=>j r (kI.2 ⟨y,aK h,c⟩)) (d.rep i y u h e)
def NQ(p:Inv Γ I w){m:Nat->Nat->ab aj}(e:Le Γ {Γ with mem:=m}){y:AV}{u:aj}(q:∀r∈rsA y,∀R,I.rw[r]?=Z R->gF {Γ with mem:=m} r R)(B:Rep Γ y u):Rep {Γ with mem:=m} (cE I.rw y) u:=by
 cases B with
 |agg cs us d c g=>
   have:=W4 p e (cs:=cs) (us:=us) (by simpa[rsA]using q) ⟨d,g⟩;exact .agg _ _ this.len c this.rep
 |v _ h=>exact .v _ h
 |dead u=>exact .dead u
 |sl k x f a n cap b o us d c g t s F E D C=>exact xP (y:=.sl k x f) p e q (.sl k x f a n cap b o us d c g t s F E D C)
 |rs r lo n l f a cap d c g t s=>exact xP (y:=.rs r lo n l f) p e q (.rs r lo n l f a cap d c g t s)
 |ptr b o h=>exact(Rep.ptr b o h).mono e
 |rpt r i o l A d c g=>exact(Rep.rpt r i o l A d c g).mono e
 |ept cs o b z us d c g=>exact(Rep.ept cs o b z us d c g).mono e
 |fn f cs us d c=>exact(Rep.fn f cs us d c).mono e
 |tup cs us d c=>exact(Rep.tup cs us d c).mono e
 |mp b h=>exact(Rep.mp b h).mono e
theorem qmM{rw:aa Row}{y:AV}(h:br (bC rw y)=O):isC y=O:=by
 cases y<;>first|rfl|(simp[bC,br]at h)
def WZ(k:Nat):∀(vs:aa aj) (a:Nat) (cs:aL aj),(∀v∈vs,v.cells.size=k)->(a+X vs)*k<=cs.size->
  ∃cs',Instr.fill (λ i=>Z (i*k,k)) cs ((vs.zipIdx a).map λ p=>(p.2,p.1))=Z cs'/\V cs'=cs.toList.take (a*k)++(vs.flatMap (λ v=>V v.cells)++cs.toList.drop ((a+X vs)*k))
 |[],a,cs,_,h=>⟨cs,rfl,by simp⟩
 |v::vs,a,cs,e,h=>by
   have f:v.cells.size=k:=e v (aX ..)
   have n:a*k+k<=cs.size:=by
    have:(a+1)*k<=(a+X (v::vs))*k:=bZ _ (by simp);grind
   have b:=UX (v:=v) (off:=a*k) (cs:=cs)
   have d:(v.cells.zipIdx.foldl (λ cs (c,j)=>cs.setIfInBounds (a*k+j) c) cs).size=cs.size:=by
    have:=bB X b;grind
   let⟨cs',e1,t⟩:=WZ k vs (a+1) (v.cells.zipIdx.foldl (λ cs (c,j)=>cs.setIfInBounds (a*k+j) c) cs) (λ l s=>e l (aT _ s)) (by rw[d];simp at h;rw[show a+1+X vs=a+(X vs+1) by omega];exact h);refine⟨cs',?_,?_⟩
   .simp only[Qz,aU,Instr.fill];grind
   .rw[t,b,f];have g:(a+1)*k=a*k+k:=by rw[dM,Jx]
    have w:X (cs.toList.take (a*k))=a*k:=by rw[bj];simp;omega
    have u:X (V v.cells)=k:=by simpa using f
    have r:(a+1+X vs)*k=a*k+k+X vs*k:=by rw[dM,g]
    have q:(a+X (v::vs))*k=a*k+k+X vs*k:=by simp[dM];omega
    rw[g,r,q]
    have m:(cs.toList.take (a*k)++(V v.cells++cs.toList.drop (a*k+k))).take (a*k+k)=cs.toList.take (a*k)++V v.cells:=by
     grind
    have o:(cs.toList.take (a*k)++(V v.cells++cs.toList.drop (a*k+k))).drop (a*k+k+X vs*k)=cs.toList.drop (a*k+k+X vs*k):=by
     rw[<-bA,List.drop_append,List.drop_of_length_le (by simp only[aM];omega)];simp_all
    rw[m,o];simp
def WE{α:Type}(k:Nat):∀(a:aa (aa α)) (i j:Nat) (l:aa α) (x:α),(∀l∈a,X l=k)->a[i]?=Z l->l[j]?=Z x->a.flatten[i*k+j]?=Z x
 |[],i,j,l,x,_,h,_=>by simp at h
 |d::a,i,j,l,x,b,h,e=>by
   have c:=b d (aX ..);cases i with
   |zero=>
     grind
   |succ i=>
     simp at h;simp only[ou];rw[ej (by rw[c,dM];omega),c];rw[show(i+1)*k+j-k=i*k+j by rw[dM,Jx];omega];exact WE k a i j l x (λ l' f=>b l' (aT _ f)) h e
def Vc(ρ:bw->aj):∀(ps:aa (Nat×bw)) (n:Nat),(∀(i:Nat) (p:Nat×bw),ps[i]?=Z p->p.1=n+i)->ps.map (λ p=>(p.1,ρ p.2))=((ps.map λ p=>ρ p.2).zipIdx n).map λ p=>(p.2,p.1)
 |[],n,h=>rfl
 |p::ps,n,h=>by
   simp only[aU,Qz];rw[<-Vc ρ ps (n+1) λ i q a=>by have:=h (i+1) q (by simpa using a);omega];have:=h 0 p rfl;grind
def qgO{t e:aQ}{n:Nat}{parts:aL (Nat×aj)}{a:TypeInfo}{f:aj}(k:P.underlying t=Z (.slice e))(l:P.info? e=Z a)(j:a.zero=Z f)(m:n*a.size<=2^24){cs':aL aj}
  (c:Instr.fill (λ i=>Z (i*a.size,a.size)) ((Array.range (n*a.size)).map ((if n*a.size=0 then #[]else f.cells)[· % (if n*a.size=0 then #[]else f.cells).size]!)) (V parts)=Z cs'):
  (Instr.buildSlice t n parts).run P w=.ok (.slice (Z ⟨w.heap.size,0,U⟩) n n) (w.alloc (.cells cs' e)):=by
 have b:¬ (2^24<n*a.size):=by omega
 by_cases d:n*a.size=0
 .simp only[af d]at c;simp only[Instr.buildSlice];have g:n=0\/a.size=0:=Nat.mul_eq_zero.1 d;simp[underlying,k,sizeOf,typeInfo,l,d]at c |-
  simp[c,g,zP]
 .simp only[ae d]at c;simp only[Instr.buildSlice];simp[underlying,k,sizeOf,typeInfo,zeroValue,l,j,d,b]at c |-
  have g:¬ (n=0\/a.size=0):=λ h=>d (Nat.mul_eq_zero.2 h);simp[c,g,j,zP]
def qjm(hC:∀t d,C.ty t=Z d->cz P t=Z d)(hi:Inv Γ I w)(F:∀y,Rep Γ (aev tm y) (ρ y))(t:aQ)(n:Nat)(parts:aL (Nat×bw))(ho:o.op=.buildSlice t n parts)(h:aF C tm I o.op=Z (x,σ')):dH P Γ I w o ρ x σ':=by
 rw[ho]at h;simp only[aF]at h;split at h<;>try cases h
 rename_i _ _ _ _ e k bb zz hd;split at h<;>try cases h
 rename_i W;simp only[uQ,aJ,cH]at W;let⟨⟨⟨hn,ar⟩,a2⟩,ax⟩:=W;let⟨ii,u,zv,q1,q2,q3,q4,q5,q6,q7,q8⟩:=en (hC t _ hd);obtain⟨rfl,ie,ze,p1,p2,p3,p4,p5⟩:=oF q8
 have a:∀(i:Nat) (p:Nat×bw),parts.toList[i]?=Z p->p.1=i/\X (cellsOf (aev tm p.2))=k/\∀x∈cellsOf (aev tm p.2),br (bC I.rw x)=O:=by
  intro i p b
  have:=bz.1 ax ((p.1,aev tm p.2),i) (by
   grind)
  grind
 have g:∀p∈V parts,(cellsOf (aev tm p.2)).all isC=O:=by
  grind [List.getElem?_of_mem,List.all_eq_true,qmM]
 let vs:=parts.toList.map λ p=>ρ p.2
 have Q:∀v∈vs,v.cells.size=k:=by
  intro v T;obtain⟨p,b,rfl⟩:=bF.1 T;let⟨i,q⟩:=mD b;rw[(F p.2).cells_len (g p b)];exact(a i p q).2.1
 have S:X vs=n:=by simpa[vs]using hn
 have N:=Vc ρ (V parts) 0 λ i p b=>by rw[(a i p b).1];omega
 let⟨cs',e1,e2⟩:=WZ k vs 0 ((Array.range (n*k)).map ((if n*k=0 then #[]else ze.cells)[· % (if n*k=0 then #[]else ze.cells).size]!)) Q (by simp[S])
 have a3:V cs'=vs.flatMap λ v=>V v.cells:=by
  rw[e2];simp[S]
 have an:cs'=(vs.flatMap λ v=>V v.cells).toArray:=by rw[<-a3]
 have A:(execOp ρ o).run P w=.ok (.value (.slice (Z ⟨w.heap.size,0,U⟩) n n)) (w.alloc (.cells (vs.flatMap λ v=>V v.cells).toArray e)):=by
  have a1:V (parts.map λ p=>(p.1,ρ p.2))=(vs.zipIdx 0).map λ p=>(p.2,p.1):=by rw[BN];exact N
  rw[<-an];have hb:=qgO (w:=w) (n:=n) (parts:=parts.map λ p=>(p.1,ρ p.2)) q2 p1 p2 (by rw[p3];exact ar) (by rw[p3,a1];exact e1);simp only[execOp,ho];simp[Sem.run_bind',hb]
 have E:∀(s:aa Nat) (D:aa Nat),(∀r∈parts.toList.flatMap (λ p=>rsA (aev tm p.2)),r∈s)->∃m,Fz Γ m/\Inv {Γ with mem:=m} {I with rw:=frz I.rw s,wrr:=D} w/\
   ∀(i:Nat) (p:Nat×bw),parts.toList[i]?=Z p->RepL {Γ with mem:=m} ((cellsOf (aev tm p.2)).map (bC I.rw)) (ρ p.2).cells.toList:=by
  intro s D H;let⟨m,m1,m2,m3⟩:=pD s hi D;refine⟨m,m1,m2,λ i p b=>?_⟩;refine W4 hi m1.le (λ r K R hR=>m3 r (H r (kI.2 ⟨p,aK b,?_⟩)) R hR) ((F p.2).cells (g p (aK b))).1
  have:∀y:AV,r∈(cellsOf y).flatMap rsC->r∈rsA y:=by
   intro y hy;cases y<;>simpa[cellsOf,rsA]using hy
  exact this _ K
 have L:∀u∈vs.flatMap (λ v=>V v.cells),u.oneCell'=O:=by
  intro u z;let⟨v,T,z⟩:=kI.1 z;obtain⟨p,b,rfl⟩:=bF.1 T;exact((F p.2).cells (g p b)).2 u z
 have az:∀(s:aa Nat) (σ1:St) (D:aa Nat),σ1={I with rw:=frz I.rw s,wrr:=D}->(∀r∈parts.toList.flatMap (λ p=>rsA (aev tm p.2)),r∈s)->
   ∃Γ',Ext Γ w Γ' (w.alloc (.cells (vs.flatMap λ v=>V v.cells).toArray e))/\Inv Γ' σ1 (w.alloc (.cells (vs.flatMap λ v=>V v.cells).toArray e))/\Rep Γ' (.sl k (parts.toList.map λ p=>(cellsOf (aev tm p.2)).map (bC I.rw)) 2) (.slice (Z ⟨w.heap.size,0,U⟩) n n):=by
  intro s σ1 D a0 H;subst a0;let⟨m,m1,m2,m3⟩:=E s D H;let⟨Γ',g1,g2,g3⟩:=qm4 m2 L e;refine⟨Γ',(AS m1 w).trans g1,g2,?_⟩
  have B:∀(i:Nat) (l:aa AV) (j:Nat) (x:AV),(parts.toList.map λ p=>(cellsOf (aev tm p.2)).map (bC I.rw))[i]?=Z l->l[j]?=Z x->∃u,Γ'.mem w.heap.size (i*k+j)=Z u/\Rep Γ' x u:=by
   intro i l j x c G;rw[df]at c;cases b:parts.toList[i]? with
   |none=>rw[b]at c;cases c
   |some p=>
     rw[b]at c;cases c;have K:=m3 i p b;let⟨u,z,f⟩:=K.get G;refine⟨u,g3 _ _ ?_,f.mono g1.le⟩;rw[qbW];refine WE k _ i j (ρ p.2).cells.toList u ?_ ?_ z
     .intro l c;obtain⟨v,T,rfl⟩:=bF.1 c;simpa using Q v T
     .simp only[vs,jQ,df,b];rfl
  refine .sl k _ 2 _ n n w.heap.size 0 (λ i j=>(Γ'.mem w.heap.size (i*k+j)).getD undef) ?_ (λ _=>ak _) (λ _=>rfl) ?_ ?_ a2 (.inr rfl) ?_ ?_
  .simpa using hn.symm
  .intro l c;obtain⟨p,b,rfl⟩:=bF.1 c;let⟨i,q⟩:=mD b;rw[bO];exact(a i p q).2.1
  .intro l c x G;obtain⟨p,b,rfl⟩:=bF.1 c;let⟨i,q⟩:=mD b;obtain⟨y,hy,rfl⟩:=bF.1 G;exact(a i p q).2.2 y hy
  .intro i l j x c G;let⟨u,z,_⟩:=B i l j x c G;rw[bS,z];rfl
  .intro i l j x c G;let⟨u,z,f⟩:=B i l j x c G;rw[z];exact f
 split at h<;>cases h
 .next ad=>let⟨Γ',f1,f2,f3⟩:=az [] I I.wrr rfl (by rw[ad];intro r K;cases K);exact⟨_,_,_,Γ',A,.inl rfl,f1,f2,f3⟩
 .next r l M=>let⟨Γ',f1,f2,f3⟩:=az (r::l) _ ((r::l)++I.wrr) rfl (by rw[M];intro r K;exact K);exact⟨_,_,_,Γ',A,.inl rfl,f1,f2,f3⟩
def qoC{α:Type}{n i:Nat}{x y:α}(h:(List.replicate n x)[i]?=Z y):y=x:=by
 grind
def qqf(hC:∀ t d,C.ty t=Z d->cz P t=Z d)(hi:Inv Γ I w)(n:∀ y,Rep Γ (aev tm y) (ρ y))(t:aQ)(y z:bw)(ho:o.op = .makeSlice t y z)(h:aF C tm I o.op=Z (x,σ')):dH P Γ I w o ρ x σ':=by
 rw[ho]at h;simp only[aF]at h;split at h<;>try cases h
 rename_i _ _ _ _ e k bytes zs ik a D b hd K H;split at h<;>try cases h
 rename_i hc;simp only[aJ,cH]at hc;obtain⟨⟨⟨rfl,h0,ad,an,s,p⟩,G⟩,F⟩:=hc;have K:=ce (K▸n y);have H:=ce (H▸n z);obtain⟨ii,u,zv,q1,q2,q3,q4,q5,q6,q7,q8⟩:=en (hC t _ hd);obtain⟨rfl,ie,g,p1,p2,p3,p4,p5⟩:=oF q8
 have m:=run_make (P:=P) w t e ie g q2 p1 p2 ik D a a h0 (Jz _) (by rw[p4];have e1:(bytes:Int)*a=((a.toNat*bytes:Nat):Int):=by rw[Int.natCast_mul,Int.toNat_of_nonneg h0,Int.mul_comm]
                                                                    rw[e1];omega) (by omega)
 rw[p3]at m
 have B:(execOp ρ o).run P w = .ok (.value (.slice (Z ⟨w.heap.size,0,U⟩) a.toNat a.toNat)) (w.alloc (.cells (madeCells g.cells (a.toNat*k)) e)):=by
  simp only[execOp,ho,K,H];simp[Sem.run_bind',m]
 have W:Below w.heap.size w (w.alloc (.cells (madeCells g.cells (a.toNat*k)) e)):=(Below.refl _ _).alloc (ak _) _;split at h
 ·next N=>cases h;have N:a.toNat=0:=bG N;refine⟨_,_,_,Γ,B,.inl rfl,xa W (ak _),hi.later W,?_⟩;rw[N];exact .sl k [] 2 _ 0 0 0 0 (λ _ _=>undef) rfl (λ _=>ak _) (λ _=>rfl) (by simp) (by simp) s (.inl rfl) (by simp) (by simp)
 ·cases h;have f:(madeCells g.cells (a.toNat*k)).size=a.toNat*k:=size_madeCells _ _;have q:V g.cells=zs:=p5;have E:g.cells.size=k:=by rw[<- p,<- q];simp
  have l:=uz (Γ := Γ) G
  obtain⟨Γ',d1,d2,d3⟩:=Nz hi s (c:=List.replicate a.toNat (zs.map .v)) (λ e T=>by rw[qsf T,bO];exact p) (λ e T x hx=>by
   rw[qsf T]at hx;exact bz.1 F x hx) (vs:=madeCells g.cells (a.toNat*k)) (by rw[sk,f];exact ak _) (by
   intro i e j x A hj;have:=qoC A;subst this;obtain⟨v,M,r⟩:=l.1.get hj;have S:i<a.toNat:=by have:=getElem?_lt A;simpa using this
   have R:j<k:=by have:=getElem?_lt hj;simp at this;omega
   refine⟨v,?_,r,l.2 v (aK M)⟩
   have Q:i*k+j<a.toNat*k:=by
    calc i*k+j<i*k+k:=by omega
     _=(i+1)*k:=by rw[dM,Jx]
     _<=a.toNat*k:=bZ _ S
   have hm:(i*k+j) % k=j:=by rw[vL,Nat.mul_add_mod];exact qB R
   unfold madeCells;rw[Array.getElem?_map,Array.getElem?_range,af Q];simp only[ny,E,hm]
   have:g.cells[j]! = v:=by
    rw[<- q]at M;have L:g.cells[j]?=Z v:=by simpa using M
    rw[getElem!_def,L]
   rw[this]) (e:=e) (cap:=a.toNat) (by simp) (by rw[f];exact ak _) W (ak _) (ak _) (heap_alloc_new w _)
  rw[sk]at d3;exact⟨_,_,_,Γ',B,.inl rfl,d1,d2,d3⟩
end
end
section
open RowKit
section
variable {P:aZ}{C:Cfg}{Γ:Gh}{I:St}{w:aA}{o:Oper}{tm:aa AV}{ρ:bw->aj}{x:AV}{σ':ab St}
def We{k a}(h:uni k a=O):(∀e∈a,X e=k)/\∀e∈a,∀x∈e,br x=O:=by
 grind [uni]
def W5(t:Inv Γ I w){k y u}(s:Rep Γ y u){xs}(h:elems I.rw k y=Z xs)(h0:0<k)(hk:∀e∈xs,X e=k):∃a m c,u=.slice a m c/\m=X xs/\
  (xs=[]\/∃b o,a=Z ⟨b,o,U⟩/\∀i e j x,xs[i]?=Z e->e[j]?=Z x->∃v,w.cell? ⟨b,o+(i*k+j),U⟩=Z v/\Rep Γ x v/\v.oneCell'=O):=by
 cases s with
 |v _ hb=>
   grind [elems,cj]
 |sl T es f a n cap b o us A K G F E M p B s=>
   simp[elems]at h;split at h<;>cases h;rename_i g;have g:=bG g;subst g;refine⟨a,n,cap,rfl,A,?_⟩;obtain p|p:=p
   .exact .inl p
   .refine .inr ⟨b,o,p,λ i e j x d q=>⟨us i j,?_,s i e j x d q,(t.mem _ _ _ (B i e j x d q)).2⟩⟩;rw[<-eI];exact(t.mem _ _ _ (B i e j x d q)).1
 |rs r lo n ep f a cap D W K G C=>
   simp[elems]at h;split at h<;>try cases h
   rename_i R L;simp only[vk]at h;split at h<;>cases h;rename_i z;let⟨S,Q,P⟩:=z;have H:=t.row r R L;refine⟨a,n,cap,rfl,by simp;omega,?_⟩;by_cases A:n=0
   .grind
   .right;obtain⟨N,-⟩:=C (by rw[<-H.ver (H.liveN P (by omega))];exact Q);refine⟨Γ.cur r,Γ.of r+lo*Γ.k r,N.resolve_left (by omega),λ i e j x d q=>?_⟩;rw[fM]at d;split at d<;>try cases d
    rw[iJ]at d;have l:Γ.of r+lo*Γ.k r+(i*k+j)=Γ.of r+((lo+i)*R.k+j):=by rw[dM,<-S,<-H.k];omega
    rw[l];exact H.cells (lo+i) e j x d q
 |dead u|ptr|rpt|ept|fn|agg|tup|mp=>simp[elems]at h
def Vz: ∀{c l},xV c=Z l->∃xs:aa Int,c=xs.map (λ n=>[AV.v (.int .u8 n)])/\l=xs.map λ n=>UInt8.ofNat n.toNat
 |[],l,h=>by cases h;exact⟨[],rfl,rfl⟩
 |e::c,l,h=>by
   simp[xV]at h;split at h<;>cases h;next b r a d=>obtain⟨xs,rfl,rfl⟩:=Vz d;unfold OC at a;split at a<;>cases a;next n=>exact⟨n::xs,rfl,rfl⟩
def qqw{d}(h:yD d=O):∃a b c z,d=Z ⟨a,b,c,z,.int .u8⟩:=by
 unfold yD at h;grind
def qlo(b):X (oK b)=b.size:=by show(b.data.toList.map _).length=b.data.size;rw[bO,ig]
def qmh{b e}(a:e∈oK b):X e=1:=by obtain⟨c,_,rfl⟩:=bF.1 a;rfl
def qjK{b e}(d:e∈oK b):∀x∈e,br x=O:=λ x a=>by
 obtain⟨c,_,rfl⟩:=bF.1 d;rw[cQ.1 a];rfl
def qlE{b}{i j:Nat}{e x}(d:(oK b)[i]?=Z e)(f:e[j]?=Z x):j=0/\∃c,b.data.toList[i]?=Z c/\x=.v (.int .u8 c.toNat):=by
 have a:(b.data.toList.map λ c=>[AV.v (.int .u8 c.toNat)])[i]?=Z e:=d;grind
def qqt(r:∀t d,C.ty t=Z d->cz P t=Z d)(H:Inv Γ I w)(p:∀y,Rep Γ (aev tm y) (ρ y))(s t:aQ)(y:bw)(G:o.op=.convert s t y)(h:aF C tm I o.op=Z (x,σ')):dH P Γ I w o ρ x σ':=by
 rw[G]at h;simp only[aF]at h;split at h<;>try cases h
 .next ds _ _ _ _ k _ n B F R=>have S:=ce (R▸p y);let⟨i,u,T,q1,g,q3,q4,q5,q6,q7,K⟩:=en (r s _ B);let⟨i',u',z,p1,j,p3,p4,p5,p6,p7,A⟩:=en (r t _ F);have:=Y1 A;subst this;refine .val ?_ H (.v _ rfl);simp[execOp,G,S,convert,underlying,g,j,Conv.intToInt,iw]
 .next ds _ _ _ _ an B F R=>have S:=ce (R▸p y);let⟨i,u,T,q1,g,q3,q4,q5,q6,q7,K⟩:=en (r s _ B);let⟨i',u',z,p1,j,p3,p4,p5,p6,p7,A⟩:=en (r t _ F);have:=wY A;subst this;refine .val ?_ H (.v _ rfl);simp[execOp,G,S,convert,underlying,g,j]
 .rename_i e _ _ _ _ _ _ _ _ _ _ B F hn;split at h<;>try cases h
  rename_i es M N;split at h<;>cases h;rename_i l hl;let⟨i,u,T,q1,g,q3,q4,q5,q6,q7,K⟩:=en (r s _ B);let⟨i',u',z,p1,j,p3,p4,p5,p6,p7,A⟩:=en (r t _ F);have:=wY A;subst this;obtain⟨rfl,_⟩:=oF K;let⟨a1,a2,a3,a4,Q⟩:=qqw M;let⟨i2,u2,ad,o1,L,o3,o4,o5,o6,o7,o8⟩:=en (r _ _ Q);have:=Y1 o8;subst this;obtain⟨xs,rfl,rfl⟩:=Vz hl;let⟨a,m,c,hv,hm,f⟩:=W5 H (p y) N (sj 0) (λ e Q=>by obtain⟨n,_,rfl⟩:=bF.1 Q;rfl);have E:X xs=m:=by rw[hm,bO]
  refine .val (u:=.string (strOfNums xs)) ?_ H (.v _ rfl)
  have D:(convert s t (ρ y)).run P w=.ok (.string (strOfNums xs)) w:=by
   rw[hv];obtain f|⟨b,o',rfl,f⟩:=f
   .have:xs=[]:=by cases xs with|nil=>rfl|cons x l=>cases f
    subst this;subst E;cases a with
    |none=>exact run_convert_bytes_nil (P:=P) (w:=w) s _ g L _ _ t j
    |some a=>simp[convert,underlying,g,L,j,Conv.bytesToString,loadCells,loadCellsFrom];rfl
   .refine run_convert_bytes_arg (P:=P) (w:=w) s _ g L b o' m c xs E (λ q hq=>?_) t j;let⟨v,W,v2,_⟩:=f q [.v (.int .u8 xs[q])] 0 _ (by rw[df,aS (by omega)];rfl) rfl;rw[BO,dP]at W;rw[W,ce v2,dz,aS (by omega)];rfl
  simp[execOp,G,D]
def Aa{k}(m:0<k){xs:aa (aa AV)}(h:∀e∈xs,X e=k){b o}(t:∀i e j x,xs[i]?=Z e->e[j]?=Z x->∃v,w.cell? ⟨b,o+(i*k+j),U⟩=Z v/\Rep Γ x v/\v.oneCell'=O):
  ∃aH:aa aj,X aH=X xs*k/\(∀j u,aH[j]?=Z u->w.cell? ((⟨b,o,U⟩:Addr).add j)=Z u)/\(∀u∈aH,u.oneCell'=O)/\∀i e j x,xs[i]?=Z e->e[j]?=Z x->∃u,aH[i*k+j]?=Z u/\Rep Γ x u/\u.oneCell'=O:=by
 have n:∀q,q<X xs*k->∃v,w.cell? ⟨b,o+q,U⟩=Z v/\v.oneCell'=O:=by
  intro q g;have a:=(Qt m).2 g;have p:q%k<k:=si _ m;have y:=h _ (fX a);let⟨v,C,B,A⟩:=t (q/k) _ (q%k) _ (aS a) (aS (by omega));grind [Nat.mul_comm,Nat.div_add_mod]
 let f:Nat->aj:=λ q=>(w.cell? ⟨b,o+q,U⟩).getD undef
 have z:∀q,q<X xs*k->w.cell? ⟨b,o+q,U⟩=Z (f q):=λ q g=>by
  grind
 refine⟨(List.range (X xs*k)).map f,by simp,?_,?_,?_⟩
 .grind [uG]
 .grind
 .intro i e j x l s;have d:=getElem?_lt l;have c:=getElem?_lt s;rw[h e (aK l)]at c
  have r:i*k+j<X xs*k:=by
   calc i*k+j<i*k+k:=by omega
    _=(i+1)*k:=by grind
    _<=X xs*k:=bZ _ d
  grind
def qnY{ts t u e ty}(f:ts[0]?=Z t)(d:ts[1]?=Z u)(c:P.underlying t=Z (.slice e))(a:(∃b,P.underlying u=Z (.slice b))\/P.underlying u=Z .string)(s x):
  (Builtin.append_ ts ty #[s,x]).run P w=(Builtin.append_ #[t,u] ty #[s,x]).run P w:=by
 obtain⟨b,a⟩|a:=a<;>cases s<;>simp[Builtin.append_,f,d,run_underlying c,run_underlying a]
def grow_any{t u e ty h ze k bytes}(C:P.underlying t=Z (.slice e))(F:P.info? e=Z h)(B:h.zero=Z ze)(D:h.size=k)(v:h.bytes=bytes)(q:ze.cells.size=k)(a n cap)(G:a=U->n=0/\cap=0)(c)(i:X c=n*k)(r:∀b,a=Z b->∀j u,c[j]?=Z u->w.cell? (b.add j)=Z u)(x m aH)(d:Src P k u x m aH w)(A:cap<n+m)(y:n+m<=maxLen)(l:(n+m)*bytes<=140737488355328):
  ∃g f o w',(Builtin.append_ #[t,u] ty #[.slice a n cap,x]).run P w=.ok (.slice (Z ⟨g,0,U⟩) (n+m) f) w'/\Below w.heap.size w w'/\w.heap.size<=g/\w'.heap[g]?=Z (.cells o e (0,0))/\n+m<=f/\o.size=f*k/\o.toList.take ((n+m)*k)=c++aH/\w.drawn<=w'.drawn:=by
 subst D;subst v
 have p:(Builtin.firstCells h.size n (.slice a n cap)).run P w.drew=.ok c.toArray w.drew:=by
  cases a with
  |none=>
    obtain⟨rfl,rfl⟩:=G rfl;have:=yH.1 (by simpa using i);subst this;exact run_firstCells_none w.drew h.size 0 0 0
  |some b=>exact run_firstCells_some w.drew h.size n b n cap c i (by simp_all)
 have z:=run_append_grow_src w t u ty e h ze C F B a n cap c p x m aH d A (by simp[maxLen]at y;omega) (growslice_fits A l);have s:=grownCap_ge w (n+m) cap e;refine⟨_,_,_,_,z,⟨rfl,rfl,rfl,by simp,λ k E=>heap_alloc_old w.drew _ E⟩,ak _,heap_alloc_new w.drew _,s,?_,?_,Go.GxZ.run_drawn _ z⟩
 .simp[vO,ic,size_zeroCells,aM,i,d.newsLen,q];rw[<-dM,<-dM];congr 1;omega
 .simp;have:X (c++aH)=(n+m)*h.size:=by rw[aM,i,d.newsLen,dM]
  grind
def Wo{α}{l r:aa α}{n q:Nat}{u}(h:l.take n=r)(a:r[q]?=Z u):l[q]?=Z u:=by
 grind
def Mb{k}{c xs:aa (aa AV)}{a aH:aa aj}(g:X a=X c*k)(h:∀e∈c,X e=k)(r:∀i e j x,c[i]?=Z e->e[j]?=Z x->∃u,a[i*k+j]?=Z u/\Rep Γ x u/\u.oneCell'=O)(p:∀i e j x,xs[i]?=Z e->e[j]?=Z x->∃u,aH[i*k+j]?=Z u/\Rep Γ x u/\u.oneCell'=O):
  ∀i e j x,(c++xs)[i]?=Z e->e[j]?=Z x->∃u,(a++aH)[i*k+j]?=Z u/\Rep Γ x u/\u.oneCell'=O:=by
 intro i e j x n l;obtain⟨f,b⟩|⟨o,b⟩:=YS n
 .grind
 .let⟨u,q,d⟩:=p _ e j x b l;refine⟨u,?_,d⟩;have m:i*k=X c*k+(i-X c)*k:=by rw[<-dM];congr 1;omega
  grind
def LV(hC:∀t d,C.ty t=Z d->cz P t=Z d)(hi:Inv Γ I w){ts}{ty t u:aQ}{sv xv:aj}{s:AV}(hs:Rep Γ s sv)(h0:ts[0]?=Z t)(h1:ts[1]?=Z u){e k bytes:Nat}{z}{q1 q2 q3 q4:_}(cs:C.ty t=Z ⟨q1,q2,q3,q4,.slice e k bytes z⟩)(a5:0<k)(ds:X z=k){xs}(u1:∀e∈xs,X e=k)(u2:∀e∈xs,∀x∈e,br x=O){aH}(D:Src P k u xv (X xs) aH w)(n4:∀i e j x,xs[i]?=Z e->e[j]?=Z x->∃u,aH[i*k+j]?=Z u/\Rep Γ x u/\u.oneCell'=O)(h:eM k bytes I s xs=Z (x,σ')):
  ∃v w' Γ',(Builtin.append_ ts ty #[sv,xv]).run P w=.ok v w'/\Ext Γ w Γ' w'/\Inv Γ' (turn I σ') w'/\Rep Γ' x v:=by
 obtain⟨ii,ud,zv,p1,p2,p3,p4,p5,p6,p7,p8⟩:=en (hC t _ cs);obtain⟨rfl,ie,ze,r1,r2,r3,r4,r5⟩:=oF p8;have bn:ze.cells.size=k:=by grind
 have n1:=D.newsLen;rw[qnY h0 h1 p2 D.kind]
 have L:∀m n cap,n<=cap->xs=[]->(Builtin.append_ #[t,u] ty #[.slice m n cap,xv]).run P w=.ok (.slice m n cap) w:=by
  intro m n cap cd p;subst p;have cb:aH=[]:=yH.1 (by rw[n1];simp);subst cb;subst r3;exact run_append_nothing w t u ty e ie p2 r1 m n cap cd xv D
 have M:bJ (fS xs) 0=O->xs=[]:=λ h=>yH.1 (bG h);have K:bJ (fS xs) 0=Y->xs≠[]:=λ h p=>by subst p;simp[bJ,fS]at h
 have A:∀m n cap B,n=X B->(m=U->n=0/\cap=0)->cap<n+X xs->xs≠[]->(∀e∈B,X e=k)->(∀e∈B,∀x∈e,br x=O)->
   (∀G,m=Z G->∃b o,G=⟨b,o,U⟩/\(B=[]\/∀i e j x,B[i]?=Z e->e[j]?=Z x->∃v,w.cell? ⟨b,o+(i*k+j),U⟩=Z v/\Rep Γ x v/\v.oneCell'=O))\/B=[]->
   ∀R N,rowNew k bytes (oa B xs)=Z (R,N)->∃v w' Γ',(Builtin.append_ #[t,u] ty #[.slice m n cap,xv]).run P w=.ok v w'/\Ext Γ w Γ' w'/\Inv Γ' {I with rw:=I.rw++[R]} w'/\Rep Γ' (.rs (X I.rw) 0 N 0 Y) v:=by
  intro m n cap B hn y b3 dm a7 co E R N S;simp only[rowNew]at S;split at S<;>cases S;rename_i b7;obtain⟨bx,bs⟩:=b7;simp only[oa]at bx bs
  have Q:∃a:aa aj,X a=n*k/\(∀G,m=Z G->∀j u,a[j]?=Z u->w.cell? (G.add j)=Z u)/\∀i e j x,B[i]?=Z e->e[j]?=Z x->∃u,a[i*k+j]?=Z u/\Rep Γ x u/\u.oneCell'=O:=by
   have ad:B=[]->∃a:aa aj,X a=n*k/\(∀G,m=Z G->∀j u,a[j]?=Z u->w.cell? (G.add j)=Z u)/\∀i e j x,B[i]?=Z e->e[j]?=Z x->∃u,a[i*k+j]?=Z u/\Rep Γ x u/\u.oneCell'=O:=by
    intro p;subst p;exact⟨[],by simp[hn],λ _ _ j u hj=>by simp at hj,λ i e j x ax=>by simp at ax⟩
   cases F:m with
   |none=>exact F▸ad (yH.1 (by grind))
   |some G=>
     rcases E with E|E
     .obtain⟨b2,dr,rfl,hh⟩:=E G F;rcases hh with hh|hh
      .exact F▸ad hh
      .obtain⟨a,m1,m2,m3,m4⟩:=Aa a5 a7 hh;exact⟨a,by rw[hn];exact m1,λ G hb=>by cases hb;exact m2,m4⟩
     .exact F▸ad E
  obtain⟨a,m1,m2,m4⟩:=Q;have an:X (B++xs)=n+X xs:=by grind
  obtain⟨g,a3,bm,w',f1,f2,f3,f4,f5,f6,f7,f8⟩:=grow_any (P:=P) (w:=w) (ty:=ty) p2 r1 r2 r3 r4 bn m n cap y a m1 m2 xv (X xs) aH D b3 (by simp only[maxLen];omega) (by grind)
  obtain⟨Γ',d1,d2,d3⟩:=Nz hi a5 (by
   intro e p;rcases aR.1 p with p|p
   .exact a7 e p
   .exact u1 e p) (by
   intro e p;rcases aR.1 p with p|p
   .exact co e p
   .exact u2 e p) (vs:=bm) (by rw[an,f6];exact bZ _ f5) (by
   intro i e j x ax hj;obtain⟨u,hu,W⟩:=Mb (by rw[m1,hn]) a7 m4 n4 i e j x ax hj;exact⟨u,by rw[<-gA];exact Wo f7 hu,W⟩) (e:=e) (by rw[an];exact f5) (by omega) f2 f8 f3 f4
  refine⟨_,w',Γ',f1,d1,d2,?_⟩;rw[<-an];exact d3
 unfold eM at h;split at h
 .have b8:=ce hs;subst b8;split at h
  .next l=>cases h;exact⟨_,w,Γ,L U 0 0 (ak _) (M l),.refl _ _,hi,.v _ rfl⟩
  .next l=>split at h<;>cases h;next R N S=>have q:=K l;have a2:=BP.2 q;exact A U 0 0 [] rfl (λ _=>⟨rfl,rfl⟩) (by omega) q (λ e p=>by cases p) (λ e p=>by cases p) (.inr rfl) R N (by simpa[oa]using S)
 .rename_i k1 B f;cases hs with
  |sl _ _ _ m n cap b o us hn hc hf cf ca c8 ha hm hr=>
  split at h
  .next l=>split at h<;>cases h;next cl=>exact⟨_,w,Γ,L m n cap (hc (bG cl)) (M l),.refl _ _,hi,.sl k1 B f m n cap b o us hn hc hf cf ca c8 ha hm hr⟩
  .rename_i l;split at h<;>try cases h
   rename_i az;simp only[aJ]at az;obtain⟨⟨b1,ar⟩,b6⟩:=az;have ar:k1=k:=bG ar;subst ar;obtain⟨v1,v2⟩:=We b6;split at h<;>cases h;rename_i R N S;have q:=K l;have a2:=BP.2 q;have b1:=bG b1;by_cases aE:B=[]
   .cases m with
    |none=>exact A U n cap B hn (λ _=>by subst aE;simp at hn;omega) (by omega) q v1 v2 (.inr aE) R N S
    |some G=>exact A (Z G) n cap B hn (λ h=>by cases h) (by omega) q v1 v2 (.inr aE) R N S
   .have cP:=ha.resolve_left aE;subst cP;refine A _ n cap B hn (λ h=>by cases h) (by omega) q v1 v2 (.inl λ G hb=>⟨b,o,by cases hb;rfl,.inr λ i e j x h1 h2=>⟨us i j,?_,hr i e j x h1 h2,(hi.mem _ _ _ (hm i e j x h1 h2)).2⟩⟩) R N S;rw[<-eI];exact(hi.mem _ _ _ (hm i e j x h1 h2)).1
 .rename_i r lo n ep f;cases hs with
  |rs _ _ _ _ _ m cap b9 hv hc hf bp=>
  split at h
  .next l=>cases h;exact⟨_,w,Γ,L m n cap hc (M l),.refl _ _,hi,.rs r lo n ep f m cap b9 hv hc hf bp⟩
  .rename_i l;split at h<;>try cases h
   rename_i R S;split at h<;>cases h;rename_i R' N bl;have q:=K l;have a2:=BP.2 q;simp only[Bm]at bl;split at bl<;>cases bl;rename_i ct;obtain⟨c0,c1,c3,c4,c5,a4,c6,c7⟩:=ct;subst c4;have H:=hi.row r R S;obtain⟨g2,g3⟩:=bp (by rw[<-H.ver a4];exact c1);subst c0;subst c1;have a8:Γ.of r+cap*R.k<=Γ.sz r:=by rw[H.k];simpa using g3
   by_cases T:n+X xs<=cap
   .have F:=g2.resolve_left (by omega)
    have hz:Γ.sz r≠0:=by
     have:=Qq (show 0<cap by omega) H.pos;omega
    obtain⟨vs,e1,fr,d2,d3,d4,_⟩:=H.blk hz;rw[<-d3]at a8;simp at F;subst F
    have dn:Γ.of r+n*ie.size+X aH<=vs.size:=by
     have:=bZ R.k T;grind
    have a0:∀j,j<X aH->(w.cell? ⟨Γ.cur r,Γ.of r+n*ie.size+j,U⟩).isSome=O:=by
     intro j hj;rw[kY d2];grind
    have a6:∀j,j<X aH->w.frozen? ⟨Γ.cur r,Γ.of r+n*ie.size+j,U⟩=Y:=λ j hj=>TA d2 d4 (by omega);have a1:=run_append_room_src (P:=P) w t u ty e ie p2 r1 (Γ.cur r) (Γ.of r) n cap xv (X xs) aH (by grind) T a0 a6
    have b0:w.setCells (Γ.cur r) (Γ.of r+n*ie.size) aH=w.setRow (Γ.cur r) (vs.toList.take (Γ.of r+n*ie.size)++aH++vs.toList.drop (Γ.of r+n*ie.size+X aH)).toArray:=by
     grind [aH,Ll,List.append_assoc]
    rw[b0,r3]at a1
    obtain⟨Γ',f1,f2,f3⟩:=qo8 hi S a4 u1 u2 n1 n4 hz (by grind)
     (λ vs' e' dT hv=>by
      rw[d2]at hv;cases hv;rw[<-c3];exact setRow_heap w _ _ _ _ _ d2) (λ k hk=>setRow_other w _ k _ hk) rfl rfl rfl (by simp) (ak _) (r::I.wrr) (cap:=cap) (by omega) (by omega)
    rw[<-c3]at f3;exact⟨_,_,Γ',a1,f1,f2,f3⟩
   .-- no bD
    have Q:∃a:aa aj,X a=n*R.k/\(∀G,m=Z G->∀j u,a[j]?=Z u->w.cell? (G.add j)=Z u)/\∀i e j x,R.c[i]?=Z e->e[j]?=Z x->∃u,a[i*R.k+j]?=Z u/\Rep Γ x u/\u.oneCell'=O:=by
     by_cases a9:cap=0
     .simp_all
     .have F:=g2.resolve_left a9
      obtain⟨a,q1,q2,q3,q4⟩:=Aa a5 (o:=Γ.of r+0*Γ.k r) H.len (λ i e j x h1 h2=>by
       obtain⟨v,hv,b5⟩:=H.cells i e j x h1 h2;exact⟨v,by rw[<-hv];congr 2;omega,b5⟩)
      grind
    obtain⟨a,q1,q2,q4⟩:=Q
    have y:m=U->n=0/\cap=0:=by
     grind
    obtain⟨g,a3,bm,w',f1,f2,f3,f4,f5,f6,f7,f8⟩:=grow_any (P:=P) (w:=w) (ty:=ty) p2 r1 r2 r3 r4 bn m n cap y a q1 q2 xv (X xs) aH D (by omega) (by simp only[maxLen];omega) c6
    obtain⟨Γ',dk,c9,b4⟩:=qox hi S a4 (xs:=xs) u1 u2 (vs:=bm) (e:=e) f2 f8 f3 f4 (by rw[<-c3,f6];exact bZ _ f5)
     (by
      intro i e2 j x ax hj;obtain⟨u,hu,W,c2⟩:=Mb (by rw[q1,c3]) H.len q4 n4 i e2 j x ax hj;exact⟨u,by rw[<-gA];exact Wo f7 hu,W,c2⟩) (r::I.wrr) (cap:=a3) (by omega) (by omega)
    rw[<-c3]at b4;exact⟨_,w',Γ',f1,dk,c9,b4⟩
 .cases h
def Vx(A:∀t d,C.ty t=Z d->cz P t=Z d)(q:Inv Γ I w){ts ty t u sv xv s y}(D:Rep Γ s sv)(T:Rep Γ y xv){e k bytes z}(G:ts[0]?=Z t)(F:ts[1]?=Z u){e' k' b' z' q1 q2 q3 q4 q5 q6 q7 q8}(p:C.ty t=Z ⟨q1,q2,q3,q4,.slice e k bytes z⟩)(r:C.ty u=Z ⟨q5,q6,q7,q8,.slice e' k' b' z'⟩)(g:0<k)(l:X z=k){xs}(W:elems I.rw k y=Z xs)(n:uni k xs=O)(h:eM k bytes I s xs=Z (x,σ')):
  ∃v w' Γ',(Builtin.append_ ts ty #[sv,xv]).run P w=.ok v w'/\Ext Γ w Γ' w'/\Inv Γ' (turn I σ') w'/\Rep Γ' x v:=by
 let⟨S,K,H,o1,B,o3,o4,o5,o6,o7,L⟩:=en (A u _ r);obtain⟨rfl,_⟩:=oF L;let⟨u1,u2⟩:=We n;obtain⟨a,m,c,rfl,rfl,f⟩:=W5 q T W g u1;obtain rfl|⟨b,o,rfl,f⟩:=f
 .have E:∀w',(Builtin.firstCells k 0 (.slice a 0 c)).run P w'=.ok #[] w':=λ w'=>by
    cases a with
    |none=>simp[Builtin.firstCells]
    |some a'=>simp[Builtin.firstCells,loadCells,loadCellsFrom]
  exact LV A q D G F p g l u1 u2 ⟨.inl ⟨_,B⟩,λ _=>rfl,E w,E _,by simp,λ _ h=>by cases h⟩ (λ i e j x h=>by simp at h) h
 .let⟨aH,R,Q,N,M⟩:=Aa g u1 f;exact LV A q D G F p g l u1 u2 (Src.ofSlice w B _ _ c aH R Q N) M h
def qiC(m:∀t d,C.ty t=Z d->cz P t=Z d)(B:Inv Γ I w){ts ty t u sv s b}(y:Rep Γ s sv){e bytes z}(E:ts[0]?=Z t)(D:ts[1]?=Z u){q1 q2 q3 q4 q5 q6 q7 q8}(l:C.ty t=Z ⟨q1,q2,q3,q4,.slice e 1 bytes z⟩)(k:C.ty u=Z ⟨q5,q6,q7,q8,.string⟩)(a:X z=1)(h:eM 1 bytes I s (oK b)=Z (x,σ')):
  ∃v w' Γ',(Builtin.append_ ts ty #[sv,.string b]).run P w=.ok v w'/\Ext Γ w Γ' w'/\Inv Γ' (turn I σ') w'/\Rep Γ' x v:=by
 let⟨r,o,n,M,q,L,K,H,G,F,p⟩:=en (m u _ k);have:=wY p;subst this;refine LV m B y E D l (sj 0) a (λ e g=>qmh g) (λ e g=>qjK g) (by rw[qlo];exact Src.ofString w q b) (λ i e j x f A=>?_) h;obtain⟨rfl,c,N,rfl⟩:=qlE f A;refine⟨.int .u8 c.toNat,?_,.v _ rfl,rfl⟩;show(b.data.toList.map λ b=>Value.int .u8 b.toNat)[i*1+0]?=_;grind
end
end
section
open RowKit
theorem A3:∀cs:aa AV,rbL cs=cs.flatMap rb
 |[]=>rfl
 |x::cs=>by simp only[rbL,sn,A3 cs]
theorem xM:∀cs:aa AV,rrL cs=cs.flatMap rr
 |[]=>rfl
 |x::cs=>by simp only[rrL,sn,xM cs]
def Ig(fb fr:Nat->Nat):∀cs:aa AV,bt fb fr cs=cs.map (ren fb fr)
 |[]=>rfl
 |x::cs=>by simp only[bt,aU,Ig fb fr cs]
def wV{fb fr:Nat->Nat}{x:AV}(h:br x=O):ren fb fr x=x/\rb x=[]/\rr x=[]:=by
 cases x<;>first|exact⟨rfl,rfl,rfl⟩|(simp[br]at h)
def Mq{n m:Nat}{x:AV}:refs n m x=Y↔(∀b∈rb x,b<n)/\∀r∈rr x,r<m:=by
 simp[refs]
def Rep.bound{Γ:Gh}{x:AV}{u:aj}(h:Rep Γ x u):(∀b∈rb x,b<Γ.nb)/\∀r∈rr x,r<Γ.nr:=by
 have d:∀(cs:aa AV) (us:aa aj),X us=X cs->(∀(i:Nat) (x:AV) (u:aj),cs[i]?=Z x->us[i]?=Z u->(∀b∈rb x,b<Γ.nb)/\∀r∈rr x,r<Γ.nr)->(∀b∈rbL cs,b<Γ.nb)/\∀r∈rrL cs,r<Γ.nr:=by
  intro cs us j g
  have get:∀x∈cs,(∀b∈rb x,b<Γ.nb)/\∀r∈rr x,r<Γ.nr:=by
   intro x m;let⟨i,l⟩:=mD m;have k:i<X us:=by rw[j];exact getElem?_lt l
   exact g i x _ l (aS k)
  grind [A3,xM]
 induction h with
 |v|dead|sl|ept=>exact⟨λ b e=>by simp[rb]at e,λ r c=>by simp[rr]at c⟩
 |rs r lo n p f a cap c|rpt r i o p A c=>exact⟨λ b e=>by simp[rb]at e,λ r c=>by simp[rr]at c;subst c;assumption⟩
 |ptr b o h|mp b h=>exact⟨λ b e=>by simp[rb]at e;subst e;exact h,λ r c=>by simp[rr]at c⟩
 |fn f cs us j c g|agg cs us j q c g|tup cs us j c g=>exact d cs us j g
theorem Rep.noRefs{Γ:Gh}{x:AV}{u:aj}(h:Rep Γ x u):refs Γ.nb Γ.nr x=Y:=Mq.2 h.bound
def Ia{Γ Γ':Gh}{fb fr:Nat->Nat}(Q:∀b o u,Γ.mem b o=Z u->Γ'.mem b o=Z u){x:AV}{u:aj}(h:Rep Γ x u)
  (g:∀b∈rb x,fb b<Γ'.nb/\Γ'.β (fb b)=Γ.β b)
  (d:∀r∈rr x,fr r<Γ'.nr/\Γ'.k (fr r)=Γ.k r/\Γ'.ver (fr r)=Γ.ver r/\Γ'.cur (fr r)=Γ.cur r/\Γ'.sz (fr r)=Γ.sz r/\Γ'.of (fr r)=Γ.of r):Rep Γ' (ren fb fr x) u:=by
 have c:∀(cs:aa AV) (us:aa aj),X us=X cs->(∀b∈rbL cs,fb b<Γ'.nb/\Γ'.β (fb b)=Γ.β b)->
   (∀r∈rrL cs,fr r<Γ'.nr/\Γ'.k (fr r)=Γ.k r/\Γ'.ver (fr r)=Γ.ver r/\Γ'.cur (fr r)=Γ.cur r/\Γ'.sz (fr r)=Γ.sz r/\Γ'.of (fr r)=Γ.of r)->
   (∀(i:Nat) (x:AV) (u:aj),cs[i]?=Z x->us[i]?=Z u->(∀b∈rb x,fb b<Γ'.nb/\Γ'.β (fb b)=Γ.β b)->(∀r∈rr x,fr r<Γ'.nr/\Γ'.k (fr r)=Γ.k r/\Γ'.ver (fr r)=Γ.ver r/\Γ'.cur (fr r)=Γ.cur r/\Γ'.sz (fr r)=Γ.sz r/\Γ'.of (fr r)=Γ.of r)->Rep Γ' (ren fb fr x) u)->
   RepL Γ' (bt fb fr cs) us:=by
  intro cs us m g d l;rw[Ig];rw[A3]at g;rw[xM]at d;refine⟨by simpa using m,λ i y u B S=>?_⟩;rw[df]at B;cases w:cs[i]? with
  |none=>rw[w]at B;cases B
  |some x=>
    rw[w]at B;cases B;have p:=aK w;exact l i x u w S (λ b h=>g b (kI.2 ⟨x,p,h⟩)) (λ r h=>d r (kI.2 ⟨x,p,h⟩))
 induction h with
 |v _ h=>exact .v _ h
 |dead u=>exact .dead u
 |sl k es f a n cap b o us m L K T C h0 W s H l=>
   refine .sl k es f a n cap b o us m L K T C h0 W (λ i e j x z E=>Q _ _ _ (s i e j x z E)) λ i e j x z E=>?_;have q:=C e (aK z) x (aK E);let⟨e1,P,N⟩:=wV (fb:=fb) (fr:=fr) q;have:=l i e j x z E (by rw[P];intro b g;cases g) (by rw[N];intro r d;cases d);rw[e1]at this;exact this
 |rs r lo n ep f a cap G F L K w=>
   let⟨t,D,M,g4,g5,g6⟩:=d r (by simp[rr]);refine .rs _ _ _ _ _ _ _ t (by rw[M];exact F) L K λ I=>?_;grind
 |ptr b o h=>
   let⟨t,D⟩:=g b (by simp[rb]);rw[<-D];exact .ptr _ _ t
 |rpt r i o ep A G F w=>
   let⟨t,D,M,g4,g5,g6⟩:=d r (by simp[rr]);refine .rpt _ _ _ _ _ t (by rw[M];exact F) λ I=>?_;grind
 |ept cs o b R us C s H l=>
   refine .ept cs o b R us C (λ j x h=>Q _ _ _ (s j x h)) λ j x h=>?_;have q:=C x (aK h);let⟨e1,P,N⟩:=wV (fb:=fb) (fr:=fr) q;have:=l j x h (by rw[P];intro b g;cases g) (by rw[N];intro r d;cases d);rw[e1]at this;exact this
 |fn f cs us m h l=>
   have:=c cs us m g d l;exact .fn f _ us this.len this.rep
 |agg cs us m z h l=>
   have:=c cs us m g d l;exact .agg _ us this.len z this.rep
 |tup cs us m h l=>
   have:=c cs us m g d l;exact .tup _ us this.len this.rep
 |mp b h=>
   let⟨t,D⟩:=g b (by simp[rb]);rw[<-D];exact .mp _ t
mutual
theorem N4:∀x:AV,ren (λ b=>b) (λ r=>r) x=x
 |.ptr b o|.mp b=>rfl
 |.mc ..|.rs ..|.rpt .. => rfl
 |.fn f cs|.agg cs|.tup cs=>by simp only[ren,HZ cs]
 |.v _|.dead=>rfl
 |.sl ..|.ept .. => rfl
theorem HZ:∀cs:aa AV,bt (λ b=>b) (λ r=>r) cs=cs
 |[]=>rfl
 |x::cs=>by simp only[bt,N4 x,HZ cs]
end
mutual
theorem A0(fb fr:Nat->Nat):∀x:AV,rb x=[]->rr x=[]->ren fb fr x=x
 |.ptr b o,h,_|.mp b,h,_=>by simp[rb]at h
 |.rs ..,_,h|.rpt ..,_,h=>by simp[rr]at h
 |.fn f cs,h,g|.agg cs,h,g|.tup cs,h,g=>by rw[ren,AR fb fr cs h g]
 |.v _,_,_|.dead,_,_|.sl ..,_,_|.ept ..,_,_|.mc ..,_,_=>rfl
theorem AR(fb fr:Nat->Nat):∀cs:aa AV,rbL cs=[]->rrL cs=[]->bt fb fr cs=cs
 |[],_,_=>rfl
 |x::cs,h,g=>by
   rw[rbL,nz]at h;rw[rrL,nz]at g;rw[bt,A0 fb fr x h.1 g.1,AR fb fr cs h.2 g.2]
end
def Rep.cut{Γ:Gh}{n m:Nat}{x:AV}{u:aj}(h:Rep Γ x u)(a:refs n m x=Y):Rep {Γ with nb:=n,nr:=m} x u:=by
 let⟨e,d⟩:=Mq.1 a;have:=Ia (Γ:=Γ) (Γ':={Γ with nb:=n,nr:=m}) (fb:=λ b=>b) (fr:=λ r=>r) (λ _ _ _ h=>h) h (λ b c=>⟨e b c,rfl⟩) (λ r a=>⟨d r a,rfl,rfl,rfl,rfl,rfl⟩);rw[N4]at this;exact this
def Inv.wr{Γ:Gh}{I:St}{w:aA}(h:Inv Γ I w){σ':St}(b:σ'.bx=I.bx)(a:σ'.rw=I.rw):Inv Γ σ' w:=
 ⟨by rw[b];exact h.nb,by rw[a];exact h.nr,h.mem,by rw[b];exact h.box,h.inj,h.boxmem,by rw[a];exact h.row,h.apart⟩
def VL{α:Type}{l:aa α}{n i:Nat}{x:α}(h:(l.take n)[i]?=Z x):i<n/\l[i]?=Z x:=by
 grind
def Inv.cut{Γ:Gh}{I:St}{w:aA}(h:Inv Γ I w){n m:Nat}(p:n<=Γ.nb)(q:m<=Γ.nr)(L:∀i cs,i<n->I.bx[i]?=Z cs->∀x∈cs,Go.AmZ.refs n m x=Y)(E t:aa Nat):Inv {Γ with nb:=n,nr:=m} ⟨I.bx.take n,I.rw.take m,E,t⟩ w where
 nb:=by show n=X (I.bx.take n);rw[bj,<-h.nb];omega
 nr:=by show m=X (I.rw.take m);rw[bj,<-h.nr];omega
 mem:=h.mem
 box:=λ i cs d=>by
  let⟨g,l⟩:=VL d;exact(h.box i cs l).to' (λ _ h=>h) λ x u z q=>z.cut (q.elim (L i cs g l x) λ⟨e1,C⟩=>by unfold Go.AmZ.refs;rw[e1,C];rfl)
 inj:=λ i j d s=>h.inj i j (dl d p) (dl s p)
 boxmem:=λ i d=>h.boxmem i (dl d p)
 row:=λ r R A=>by
  let⟨g,f⟩:=VL A;let⟨k,v,pos,y,D,fz,W,T,S,Q,P,N⟩:=h.row r R f
  have o:∀{x:AV}{u:aj}{e:aa AV},e∈R.c->x∈e->Rep Γ x u->Rep {Γ with nb:=n,nr:=m} x u:=λ K z a=>a.cut (by
   let⟨_,C,e3⟩:=wV (fb:=id) (fr:=id) (D _ K _ z);rw[Mq,C,e3];exact⟨λ b B=>(sq B).elim,λ b B=>(sq B).elim⟩)
  refine⟨k,v,pos,y,D,fz,W,T,S,λ i e j x d s=>?_,λ G i d=>P G i (dl d p),N⟩;let⟨u,H,a,M⟩:=Q i e j x d s;exact⟨u,H,o (aK d) (aK s) a,M⟩
 apart:=λ r F A f=>h.apart r F (dl A q) (dl f q)
structure bN (I σ':St):Prop where
 bl:I.bx.length<=σ'.bx.length
 rl:I.rw.length<=σ'.rw.length
 bx:∀i,i<I.bx.length->i ∉ σ'.wr->σ'.bx[i]?=I.bx[i]?
 rw:∀i,i<I.rw.length->i ∉ σ'.wrr->σ'.rw[i]?=I.rw[i]?
 wr:∀i,i∈I.wr->i∈σ'.wr
 wrr:∀i,i∈I.wrr->i∈σ'.wrr
def bN.refl(I:St):bN I I:=⟨ak _,ak _,λ _ _ _=>rfl,λ _ _ _=>rfl,λ _ h=>h,λ _ h=>h⟩
def bN.trans{a b c:St}(h:bN a b)(g:bN b c):bN a c:=
 ⟨bL h.bl g.bl,bL h.rl g.rl,λ i d e=>(g.bx i (dl d h.bl) e).trans (h.bx i d λ f=>e (g.wr i f)),λ i d e=>(g.rw i (dl d h.rl) e).trans (h.rw i d λ f=>e (g.wrr i f)),λ i d=>g.wr i (h.wr i d),λ i d=>g.wrr i (h.wrr i d)⟩
def Xm:∀(a:aa Nat) (rw:aa Row),X (frz rw a)=X rw
 |[],rw=>rfl
 |r::a,rw=>by
   show(frz (rw.modify r qv) a).length=_;rw[Xm a,qbP]
theorem AT:∀(a:aa Nat) (rw:aa Row) (i:Nat),i ∉ a->(frz rw a)[i]?=rw[i]?
 |[],rw,i,_=>rfl
 |r::a,rw,i,h=>by
   show(frz (rw.modify r qv) a)[i]?=_;rw[AT a _ i λ b=>h (aT _ b),qbX];grind
def XJ{Γ:Gh}{I:St}{w:aA}(e:Inv Γ I w){m:Nat->Nat->ab aj}(c:Le Γ {Γ with mem:=m}){d:Nat}{y:AV}{u:aj}(o:∀r∈rr y,d<=r->∀R,I.rw[r]?=Z R->gF {Γ with mem:=m} r R)(a:Rep Γ y u):Rep {Γ with mem:=m} (vx d I.rw y) u:=by
 cases y with
 |sl k h f=>exact xP (y:=.sl k h f) e c (λ r a=>by simp[rsC]at a) a
 |rs r lo n i f=>
   simp only[vx];split
   .next l=>refine xP (y:=.rs r lo n i f) e c (λ j g R p=>?_) a;grind [rsC,rr]
   .exact a.mono c
 |_=>exact a.mono c
def Xe{Γ:Gh}{I:St}{w:aA}(l:Inv Γ I w){m:Nat->Nat->ab aj}(k:Le Γ {Γ with mem:=m}){c:Nat}{pub:AV->AV}{cs:aa AV}{us:aa aj}(g:∀y u,(∀r∈rr y,c<=r->∀R,I.rw[r]?=Z R->gF {Γ with mem:=m} r R)->Rep Γ y u->Rep {Γ with mem:=m} (pub y) u)
  (j:∀r∈rrL cs,c<=r->∀R,I.rw[r]?=Z R->gF {Γ with mem:=m} r R) (d:RepL Γ cs us):RepL {Γ with mem:=m} (cs.map pub) us:=by
 refine⟨by simpa using d.len,λ i x u b e=>?_⟩;rw[df]at b;cases h:cs[i]? with
 |none=>rw[h]at b;cases b
 |some y=>
   rw[h]at b;cases b;refine g y u (λ r f=>j r ?_) (d.rep i y u h e);grind [xM,List.mem_of_getElem?]
def Xr{Γ:Gh}{I:St}{w:aA}(d:Inv Γ I w){m:Nat->Nat->ab aj}(c:Le Γ {Γ with mem:=m}){b:Nat}{y:AV}{u:aj}(f:∀r∈rr y,b<=r->∀R,I.rw[r]?=Z R->gF {Γ with mem:=m} r R)(e:Rep Γ y u):Rep {Γ with mem:=m} (oe b I.rw y) u:=by
 cases y with
 |agg cs=>
   cases e with
   |agg _ us i h g=>
     have:=Xe d c (pub:=vx b I.rw) (λ y u=>XJ d c) (by simpa[rr]using f) ⟨i,g⟩;exact .agg _ us this.len h this.rep
 |_=>exact XJ d c f e
def qq7{Γ:Gh}{I:St}{w:aA}(d:Inv Γ I w){m:Nat->Nat->ab aj}(c:Le Γ {Γ with mem:=m}){b:Nat}{y:AV}{u:aj}(f:∀r∈rr y,b<=r->∀R,I.rw[r]?=Z R->gF {Γ with mem:=m} r R)(e:Rep Γ y u):Rep {Γ with mem:=m} (ne b I.rw y) u:=by
 cases y with
 |tup cs=>
   cases e with
   |tup _ us h g=>
     have:=Xe d c (pub:=oe b I.rw) (λ y u=>Xr d c) (by simpa[rr]using f) ⟨h,g⟩;exact .tup _ us this.len this.rep
 |_=>exact Xr d c f e
def filter_nil{p:Nat->Bool}{l:aa Nat}(h:l.filter p=[]){i:Nat}(a:p i=O):i ∉ l:=λ b=>by
 have:i∈l.filter p:=kJ.2 ⟨b,a⟩;rw[h]at this;cases this
def Za{Γ Γ':Gh}{I σ':St}{w w':aA}{res:AV}{v:aj}(h0:Inv Γ I w)(hx:Ext Γ w Γ' w')(hi:Inv Γ' σ' w')(hk:bN { I with wr:=[],wrr:=[] } σ')(hr:Rep Γ' res v) :
  (∃ Γ2,Ext Γ w Γ2 w'/\Inv Γ2 (turn I (mT I res σ').2) w'/\Rep Γ2 (mT I res σ').1 v)/\bN { I with wr:=[],wrr:=[] } (turn { I with wr:=[],wrr:=[] } (mT I res σ').2):=by
 have hwrN:∀ i,i<X I.bx->i ∉ (σ'.wr.filter λ b=>J (b<X I.bx))->i ∉ σ'.wr := λ i hi hn hm=>hn (kJ.2 ⟨hm,by simpa using hi⟩);have hwrrN:∀ i,i<X I.rw->i ∉ (σ'.wrr.filter λ b=>J (b<X I.rw))->i ∉ σ'.wrr := λ i hi hn hm=>hn (kJ.2 ⟨hm,by simpa using hi⟩);unfold mT;split
 ·refine⟨⟨Γ',hx,hi.wr rfl rfl,hr⟩,⟨hk.bl,hk.rl,λ i hi hn=>hk.bx i hi (hwrN i hi hn),λ i hi hn=>hk.rw i hi (hwrrN i hi hn),λ i h=>(by cases h),λ i h=>(by cases h)⟩⟩
 ·rename_i hkeep;simp only[vm,BQ]at hkeep;obtain⟨hk1,hk2⟩:=hkeep;obtain⟨m,m1,m2,m3⟩:=pD ((rr res).filter λ r=>J (X I.rw<=r)) hi σ'.wrr;have hpub:Rep { Γ' with mem:=m } (ne (X I.rw) σ'.rw res) v:=qq7 hi m1.le (λ r hr' hge R hR=>m3 r (kJ.2 ⟨hr',by simpa using hge⟩) R hR) hr;have hnb:X I.bx <= Γ'.nb:=by rw[hi.nb];exact hk.bl
  have hnr:X I.rw <= Γ'.nr:=by rw[hi.nr];exact hk.rl
  have hcut:=m2.cut (n:=X I.bx) (m:=X I.rw) hnb hnr (by
   intro i cs hlt hcs x hxm;have hcs : σ'.bx[i]?=Z cs:=hcs;by_cases hw:i ∈ σ'.wr
   ·grind
   ·rw[hk.bx i hlt hw]at hcs;rcases(h0.box i cs hcs).split with⟨vs,e,g1,g2,g3⟩ | ⟨_,_,_,_,_,rfl,_⟩
    case inr=>rw[cQ.1 hxm];rfl
    obtain⟨j,hj⟩:=mD hxm;obtain⟨u,hu,hrep⟩:=g2.get hj;have:=hrep.noRefs;rw[h0.nb,h0.nr]at this;exact this) [] []
  have htake:(frz σ'.rw ((rr res).filter λ r=>J (X I.rw<=r))).take (X I.rw) = σ'.rw.take (X I.rw):=by
   apply qC;grind [AT]
  have hcut':Inv { ({ Γ' with mem:=m }:Gh)with nb:=X I.bx,nr:=X I.rw } ⟨σ'.bx.take (X I.bx),σ'.rw.take (X I.rw),[],[]⟩ w':=by
   rw[<- htake];exact hcut
  have hrep2:=hpub.cut hk1
  have hext:Ext Γ w { ({ Γ' with mem:=m }:Gh)with nb:=X I.bx,nr:=X I.rw } w':=by
   have e1:=hx.trans (AS m1 w');refine⟨⟨e1.le.mem,by rw[h0.nb];exact ak _,e1.le.β,by rw[h0.nr];exact ak _,e1.le.k,e1.le.ver,e1.le.loc⟩,e1.os,e1.tape,e1.output,e1.size,e1.block,?_,e1.memg,e1.drawn⟩;rintro b (⟨i,hi',hb⟩ | ⟨r,hr',hz,hb⟩)
   ·exact e1.own b (.inl ⟨i,dl hi' hnb,hb⟩)
   ·exact e1.own b (.inr ⟨r,dl hr' hnr,hz,hb⟩)
  split
  ·rename_i hnil;have hn1:(σ'.wr.filter λ b=>J (b<X I.bx))=[]:=(nz.1 hnil).1;have hn2:(σ'.wrr.filter λ b=>J (b<X I.rw))=[]:=(nz.1 hnil).2
   have hb : σ'.bx.take (X I.bx)=I.bx:=by
    apply qC;intro i;rw[fM];split
    ·next hlt=>exact hk.bx i hlt (filter_nil hn1 (by simpa using hlt))
    ·grind
   have hrw : σ'.rw.take (X I.rw)=I.rw:=by
    apply qC;intro i;rw[fM];split
    ·next hlt=>exact hk.rw i hlt (filter_nil hn2 (by simpa using hlt))
    ·grind
   refine⟨⟨_,hext,?_,hrep2⟩,bN.refl _⟩;exact hcut'.wr hb.symm hrw.symm
  ·refine⟨⟨_,hext,hcut'.wr rfl rfl,hrep2⟩,⟨?_,?_,λ i hi hn=>?_,λ i hi hn=>?_,λ i h=>(by cases h),λ i h=>(by cases h)⟩⟩
   ·show X I.bx<=X (σ'.bx.take (X I.bx));have:=hk.bl;grind
   ·show X I.rw<=X (σ'.rw.take (X I.rw));have:X I.rw <= X σ'.rw:=hk.rl;rw[bj];omega
   ·show(σ'.bx.take (X I.bx))[i]?=I.bx[i]?;rw[fM,af hi];exact hk.bx i hi (hwrN i hi hn)
   ·show(σ'.rw.take (X I.rw))[i]?=I.rw[i]?;rw[fM,af hi];exact hk.rw i hi (hwrrN i hi hn)
end
section
open RowKit
def Mx: ∀{l},nd l=O->l.Nodup
 |[],_=>lC
 |b::l,h=>by
   simp only[nd,aJ,eD]at h;exact ov.2 ⟨by simpa using h.1,Mx h.2⟩
def VS{l:aa Nat}{b}(h:b∈l):l.getD (l.idxOf b) 0=b:=by
 grind
def Zt{l:aa Nat}{b}(h:b∈l):l.idxOf b<X l:=List.idxOf_lt_length_of_mem h
def Nu{l:aa Nat}(a:l.Nodup){j b}(h:l[j]?=Z b):l.idxOf b=j:=by
 grind
def UJ{l:aa Nat}(a:l.Nodup){i j}(c:i<X l)(b:j<X l)(h:l[i]=l[j]):i=j:=by
 rw[<-Nu a (aS c),<-Nu a (aS b),h]
def fi(l:aa Nat)(n i:Nat):ab Nat:=if i<n then(if i∈l then Z (l.idxOf i)else U)else Z (X l+(i-n))
def nQ{l n i}(h:fi l n i=U):i<n/\i ∉ l:=by
 grind [fi]
def pR{l n i j}(h:fi l n i=Z j)(a:i<n):i∈l/\j=l.idxOf i/\j<X l/\l.getD j 0=i:=by
 grind [fi]
def Zw{l n i a j}(h:fi l n i=Z j)(d:fi l n a=Z j):i=a:=by
 by_cases c:i<n<;>by_cases b:a<n
 .rw[<-(pR h c).2.2.2,<-(pR d b).2.2.2]
 .grind [fi]
 .grind [fi]
 .grind [fi]
def XN{l}(a:l.Nodup){n}(c:∀b∈l,b<n)(j):fi l n (cJ l n j)=Z j:=by
 grind [cJ,fi]
def Yk{l n e j}(a:∀b∈l,b<n)(d:j<X l+e:=by omega):cJ l n j<n+e:=by
 unfold cJ;split
 .next b c=>have:=a b (aK c);omega
 .grind
def G8{l n b}(h:b∈l):cJ l n (l.idxOf b)=b:=by
 grind [cJ]
def wO{α}:∀bs (l xs:aa α),X bs<=X xs->X (dh l bs xs)=X l+(X xs-X bs)
 |[],l,xs,_=>by simp[dh]
 |b::bs,l,[],h=>by simp at h
 |b::bs,l,x::xs,h=>by
   simp only[dh];rw[wO bs _ xs (by grind),fw];simp
def pz{α}:∀bs (l xs:aa α) i,X bs<=X xs->bs.Nodup->(∀b∈bs,b<X l)->(dh l bs xs)[i]?=match fi bs (X l) i with
  |Z j=>xs[j]?
  |U=>l[i]?
 |[],l,xs,i,_,_,_=>by
   simp[dh,fi];rw[Jv];split<;>simp_all
 |b::bs,l,[],i,h,_,_=>by simp at h
 |b::bs,l,x::xs,i,h,n,m=>by
   simp[dh];let⟨f,d⟩:=ov.1 n;rw[pz bs (l.set b x) xs i (by grind) d (λ p o=>by rw[fw];exact m p (aT _ o)),fw];have k:=m b (aX ..);unfold fi;by_cases c:i<X l
   .rw[af c,af c];by_cases a:i=b
    .subst a;rw[ae f,af (aX ..)];simp[k]
    .by_cases g:i∈bs
     .rw[af g,af (aT _ g)];rw[List.idxOf_cons,show(b==i)=Y by simpa using λ e=>a e.symm];rfl
     .rw[ae g,ae (by grind)];rw[oq,ae λ e=>a e.symm]
   .rw[ae c,ae c];simp;rw[show X bs+1+(i-X l)=(X bs+(i-X l))+1 by omega];rfl
def gH(Γ:Gh)(bs rs:aa Nat):Gh:=
 {mem:=Γ.mem,nb:=X bs,β:=λ i=>Γ.β (bs.getD i 0),nr:=X rs,ver:=λ r=>Γ.ver (rs.getD r 0),k:=λ r=>Γ.k (rs.getD r 0),cur:=λ r=>Γ.cur (rs.getD r 0),sz:=λ r=>Γ.sz (rs.getD r 0),of:=λ r=>Γ.of (rs.getD r 0)}
structure mg (I:St) (bs rs:List Nat):Prop where
 bn:bs.Nodup
 rn:rs.Nodup
 bl:∀b∈bs,b<I.bx.length
 rl:∀r∈rs,r<I.rw.length
 cb:∀b∈bs,∀x∈I.bx.getD b [],(∀b∈rb x,b∈bs)/\∀r∈rr x,r∈rs
def gE{α}{l:aa α}{i x d}(h:l[i]?=Z x):l.getD i d=x:=by grind
section
variable {Γ:Gh}{I:St}{w:aA}{bs rs:aa Nat}
def H2(d:mg I bs rs){x u}(h:Rep Γ x u)(c:∀b∈rb x,b∈bs)(a:∀r∈rr x,r∈rs):Rep (gH Γ bs rs) (ren (λ b=>bs.idxOf b) (λ r=>rs.idxOf r) x) u:=
 Ia (Γ:=Γ) (Γ':=gH Γ bs rs) (λ _ _ _ h=>h) h (λ b h=>⟨Zt (c b h),by show Γ.β _=_;rw[VS (c b h)]⟩) λ r h=>by
  have e:=VS (a r h);refine⟨Zt (a r h),?_,?_,?_,?_,?_⟩
  .show Γ.k _=_;rw[e]
  .show Γ.ver _=_;rw[e]
  .show Γ.cur _=_;rw[e]
  .show Γ.sz _=_;rw[e]
  .show Γ.of _=_;rw[e]
def L2{b}(e:mg I bs rs)(g:Inv Γ I w)(h:gY (gH Γ bs rs) b):gY Γ b:=by
 obtain⟨i,a,d⟩|⟨r,f,j,d⟩:=h
 .have a:i<X bs:=a;have c:bs.getD i 0∈bs:=by grind
  exact .inl ⟨_,by rw[g.nb];exact e.bl _ c,d⟩
 .have f:r<X rs:=f;have c:rs.getD r 0∈rs:=by grind
  exact .inr ⟨_,by rw[g.nr];exact e.rl _ c,j,d⟩
def Yo(g:mg I bs rs)(l:Inv Γ I w):Inv (gH Γ bs rs) (bM I bs rs) w where
 nb:=by simp[gH,bM]
 nr:=by simp[gH,bM]
 mem:=l.mem
 box:=λ i cs S=>by
  have f:(bs.map λ b=>bt (λ b=>bs.idxOf b) (λ r=>rs.idxOf r) (I.bx.getD b []))[i]?=Z cs:=S;rw[df]at f;cases v:bs[i]? with
  |none=>rw[v]at f;cases f
  |some b=>
    rw[v]at f;simp at f;have D:=aK v;have an:=g.bl b D;have n:I.bx[b]?=Z (I.bx.getD b []):=by grind
    rw[<-f,Ig];refine(l.box b _ n).to _ (λ o ho=>by show w.heap[Γ.β (bs.getD i 0)]?=_;rw[gE v];exact ho) (λ x u F t=>?_) λ x=>A0 _ _ x;rcases t with t|⟨e1,B⟩
    .exact H2 g F (g.cb b D x t).1 (g.cb b D x t).2
    .exact H2 g F (by grind) (by grind)
 inj:=λ i j a A h=>by
  have h:Γ.β (bs.getD i 0)=Γ.β (bs.getD j 0):=h;have e1:=gE (d:=0) (aS a);have B:=gE (d:=0) (aS A);rw[e1,B]at h;have:=l.inj _ _ (by rw[l.nb];exact g.bl _ (fX a)) (by rw[l.nb];exact g.bl _ (fX A)) h;exact UJ g.bn a A this
 boxmem:=λ i a o=>by
  have e1:=gE (d:=0) (aS a);show Γ.mem (Γ.β (bs.getD i 0)) o=U;rw[e1];exact l.boxmem _ (by rw[l.nb];exact g.bl _ (fX a)) o
 row:=λ r R hR=>by
  have p:(rs.map λ r=>I.rw.getD r ⟨0,[],0,0,Y⟩)[r]?=Z R:=hR;rw[df]at p;cases v:rs[r]? with
  |none=>rw[v]at p;cases p
  |some q=>
    rw[v]at p;simp only[ny]at p;have D:=aK v;have ad:=g.rl q D;have n:I.rw[q]?=Z R:=by grind
    have C:rs.getD r 0=q:=gE v;obtain⟨k,L,pos,M,W,fz,g2,g4,g5,g6,g8,g9⟩:=l.row q R n
    have E:∀{x u e},e∈R.c->x∈e->Rep Γ x u->Rep (gH Γ bs rs) x u:=λ Q F m=>by
     obtain⟨e1,B,e3⟩:=wV (W _ Q _ F);have:=H2 g m (by grind) (by grind);rw[e1]at this;exact this
    have K:(gH Γ bs rs).cur r=Γ.cur q:=by show Γ.cur _=_;rw[C]
    have G:(gH Γ bs rs).sz r=Γ.sz q:=by show Γ.sz _=_;rw[C]
    have H:(gH Γ bs rs).of r=Γ.of q:=by show Γ.of _=_;rw[C]
    refine⟨by rw[k];show _=Γ.k _;rw[C],λ hl=>by rw[L hl];show _=Γ.ver _;rw[C],pos,M,W,fz,by rw[K,G];exact g2,by rw[G,H];exact g4,by rw[K,G,H];exact g5,λ i e j x a A=>?_,λ y i a=>?_,λ hf=>H.trans (g9 hf)⟩
    .obtain⟨u,hu,m,h1⟩:=g6 i e j x a A;exact⟨u,by rw[K,H];exact hu,E (aK a) (aK A) m,h1⟩
    .have a:=a;have e1:=gE (d:=0) (aS a);rw[G]at y;rw[K];show Γ.β (bs.getD i 0)≠_;rw[e1];exact g8 y _ (by rw[l.nb];exact g.bl _ (fX a))
 apart:=λ r T N z P y s=>by
  have e1:=gE (d:=0) (aS N);have B:=gE (d:=0) (aS z);have y:Γ.sz (rs.getD r 0)≠0:=y;have s:Γ.sz (rs.getD T 0)≠0:=s;show Γ.cur (rs.getD r 0)≠Γ.cur (rs.getD T 0);rw[e1]at y;rw[B]at s;rw[e1,B];refine l.apart _ _ (by rw[l.nr];exact g.rl _ (fX N)) (by rw[l.nr];exact g.rl _ (fX z)) (λ Q=>P (UJ g.rn N z Q)) y s
def gV(Γ Γs:Gh)(bs rs:aa Nat):Gh:=
 {mem:=Γs.mem,nb:=Γ.nb+(Γs.nb-X bs),β:=λ i=>match fi bs Γ.nb i with|Z j=>Γs.β j|U=>Γ.β i,
   nr:=Γ.nr+(Γs.nr-X rs),ver:=λ r=>match fi rs Γ.nr r with|Z j=>Γs.ver j|U=>Γ.ver r,sz:=λ r=>match fi rs Γ.nr r with|Z j=>Γs.sz j|U=>Γ.sz r,
   k:=λ r=>match fi rs Γ.nr r with|Z j=>Γs.k j|U=>Γ.k r,cur:=λ r=>match fi rs Γ.nr r with|Z j=>Γs.cur j|U=>Γ.cur r,
   of:=λ r=>match fi rs Γ.nr r with|Z j=>Γs.of j|U=>Γ.of r}
variable {Γs:Gh}{σs:St}{w':aA}
def IM{l n e i j}(h:fi l n i=Z j)(a:i<n+e):j<X l+e:=by
 grind [fi]
def G9(c:mg I bs rs)(d:Inv Γ I w)(i:Ext (gH Γ bs rs) w Γs w'){x u}(h:Rep Γs x u):Rep (gV Γ Γs bs rs) (ren (cJ bs Γ.nb) (cJ rs Γ.nr) x) u:=by
 refine Ia (Γ:=Γs) (Γ':=gV Γ Γs bs rs) (λ _ _ _ h=>h) h (λ b a=>?_) λ r g=>?_
 .have f:=h.bound.1 b a;refine⟨Yk (λ b a=>by rw[d.nb];exact c.bl b a),?_⟩;show(match fi bs Γ.nb (cJ bs Γ.nb b)with|Z j=>Γs.β j|U=>Γ.β _)=_;rw[XN c.bn (λ b a=>by rw[d.nb];exact c.bl b a)]
 .have f:=h.bound.2 r g;have e:=XN c.rn (n:=Γ.nr) (λ b a=>by rw[d.nr];exact c.rl b a) r;refine⟨Yk (λ b a=>by rw[d.nr];exact c.rl b a),?_,?_,?_,?_,?_⟩
  .show(match fi rs Γ.nr _ with|Z j=>Γs.k j|U=>Γ.k _)=_;rw[e]
  .show(match fi rs Γ.nr _ with|Z j=>Γs.ver j|U=>Γ.ver _)=_;rw[e]
  .show(match fi rs Γ.nr _ with|Z j=>Γs.cur j|U=>Γ.cur _)=_;rw[e]
  .show(match fi rs Γ.nr _ with|Z j=>Γs.sz j|U=>Γ.sz _)=_;rw[e]
  .show(match fi rs Γ.nr _ with|Z j=>Γs.of j|U=>Γ.of _)=_;rw[e]
def Yh(n:mg I bs rs)(o:Inv Γ I w)(d:Ext (gH Γ bs rs) w Γs w'):Le Γ (gV Γ Γs bs rs):=by
 have f:∀i,i<Γ.nb->(gV Γ Γs bs rs).β i=Γ.β i:=by
  intro i g;show(match fi bs Γ.nb i with|some j=>Γs.β j|none=>Γ.β i)=_;cases h:fi bs Γ.nb i with
  |none=>rfl
  |some j=>
    let⟨m,l,c,b⟩:=pR h g;have:=d.le.β j c;simp only;rw[this];show Γ.β (bs.getD j 0)=_;rw[b]
 refine⟨d.le.mem,kH _ _,f,kH _ _,λ r e=>?_,λ r e=>?_,λ r e a=>?_⟩
 .show(match fi rs Γ.nr r with|some j=>Γs.k j|none=>Γ.k r)=_;cases h:fi rs Γ.nr r with
  |none=>rfl
  |some j=>
    let⟨m,l,c,b⟩:=pR h e;have:=d.le.k j c;simp only;rw[this];show Γ.k (rs.getD j 0)=_;rw[b]
 .show _<=(match fi rs Γ.nr r with|some j=>Γs.ver j|none=>Γ.ver r);cases h:fi rs Γ.nr r with
  |none=>exact ak _
  |some j=>
    let⟨m,l,c,b⟩:=pR h e;have:Γ.ver (rs.getD j 0)<=Γs.ver j:=d.le.ver j c;rw[b]at this;exact this
 .have a:(match fi rs Γ.nr r with|some j=>Γs.ver j|none=>Γ.ver r)=Γ.ver r:=a;show(match fi rs Γ.nr r with|some j=>Γs.cur j|none=>Γ.cur r)=_/\(match fi rs Γ.nr r with|some j=>Γs.sz j|none=>Γ.sz r)=_/\(match fi rs Γ.nr r with|some j=>Γs.of j|none=>Γ.of r)=_;cases h:fi rs Γ.nr r with
  |none=>exact⟨rfl,rfl,rfl⟩
  |some j=>
    rw[h]at a;let⟨m,l,c,b⟩:=pR h e;have:=d.le.loc j c (by show _=Γ.ver (rs.getD j 0);rw[b];exact a);have:Γs.cur j=Γ.cur (rs.getD j 0)/\Γs.sz j=Γ.sz (rs.getD j 0)/\Γs.of j=Γ.of (rs.getD j 0):=this;rw[b]at this;exact this
def AA(l:mg I bs rs)(g:Inv Γ I w){i}(h:fi bs Γ.nb i=U):¬ gY (gH Γ bs rs) (Γ.β i)/\Γ.β i<w.heap.size:=by
 let⟨b,m⟩:=nQ h;refine⟨?_,g.box_lt b⟩;rintro(⟨j,f,a⟩|⟨r,e,c,a⟩)
 .have f:=f;have e1:=gE (d:=0) (aS f);have a:Γ.β (bs.getD j 0)=Γ.β i:=a;rw[e1]at a;have:=g.inj _ _ (by rw[g.nb];exact l.bl _ (fX f)) b a;grind
 .have e:=e;have e1:=gE (d:=0) (aS e);have a:Γ.cur (rs.getD r 0)=Γ.β i:=a;rw[e1]at a;have k:=l.rl _ (fX e);have c:Γ.sz (rs.getD r 0)≠0:=c;rw[e1]at c;exact(g.row _ _ (aS k)).nbx c i b a.symm
def MO(n:mg I bs rs)(f:Inv Γ I w){r}(h:fi rs Γ.nr r=U)(k:Γ.sz r≠0):¬ gY (gH Γ bs rs) (Γ.cur r)/\Γ.cur r<w.heap.size:=by
 let⟨c,m⟩:=nQ h;have l:r<X I.rw:=by rw[<-f.nr];exact c
 refine⟨?_,f.cur_lt c k⟩;have o:=(f.row _ _ (aS l)).nbx k;rintro(⟨j,i,b⟩|⟨q,g,a,b⟩)
 .have i:=i;have e1:=gE (d:=0) (aS i);have b:Γ.β (bs.getD j 0)=Γ.cur r:=b;rw[e1]at b;exact o _ (by rw[f.nb];exact n.bl _ (fX i)) b
 .have g:=g;have e1:=gE (d:=0) (aS g);have b:Γ.cur (rs.getD q 0)=Γ.cur r:=b;rw[e1]at b;have a:Γ.sz (rs.getD q 0)≠0:=a;rw[e1]at a;refine f.apart _ _ (by rw[f.nr];exact n.rl _ (fX g)) c (λ e=>m (e▸fX g)) a k b
def xe(a:Ext (gH Γ bs rs) w Γs w'){b b'}(e:gY Γs b)(d:¬ gY (gH Γ bs rs) b'/\b'<w.heap.size):b≠b':=λ c=>by
 obtain h|h:=a.own b e
 .exact d.1 (c▸h)
 .omega
def V9(t:mg I bs rs)(g:Inv Γ I w)(s:Ext (gH Γ bs rs) w Γs w')(v:Inv Γs σs w'):Inv (gV Γ Γs bs rs) (pV I bs rs σs) w':=by
 have a6:X bs<=Γs.nb:=s.le.nb;have a5:X rs<=Γs.nr:=s.le.nr;have an:X bs<=X (σs.bx.map (bt (cJ bs (X I.bx)) (cJ rs (X I.rw)))):=by rw[bO,<-v.nb];exact a6
 have S:X rs<=X σs.rw:=by rw[<-v.nr];exact a5
 have az:=Yh t g s;have E:∀j,j<Γs.nb->gY Γs (Γs.β j):=λ j v=>.inl ⟨j,v,rfl⟩;have D:∀j,j<Γs.nr->Γs.sz j≠0->gY Γs (Γs.cur j):=λ j v F=>.inr ⟨j,v,F,rfl⟩
 have q:∀i j,i<(gV Γ Γs bs rs).nb->fi bs Γ.nb i=Z j->j<Γs.nb:=λ i j l h=>by
  have:=IM h l;omega
 have C:∀i j,i<(gV Γ Γs bs rs).nr->fi rs Γ.nr i=Z j->j<Γs.nr:=λ i j l h=>by
  have:=IM h l;omega
 have p:∀i j,fi bs Γ.nb i=Z j->(gV Γ Γs bs rs).β i=Γs.β j:=λ i j h=>by
  show(match fi bs Γ.nb i with|some j=>Γs.β j|none=>Γ.β i)=_;rw[h]
 have y:∀i,fi bs Γ.nb i=U->(gV Γ Γs bs rs).β i=Γ.β i:=λ i h=>by
  show(match fi bs Γ.nb i with|some j=>Γs.β j|none=>Γ.β i)=_;rw[h]
 have cs':∀i j,fi rs Γ.nr i=Z j->(gV Γ Γs bs rs).cur i=Γs.cur j:=λ i j h=>by
  show(match fi rs Γ.nr i with|some j=>Γs.cur j|none=>Γ.cur i)=_;rw[h]
 have ad:∀i,fi rs Γ.nr i=U->(gV Γ Γs bs rs).cur i=Γ.cur i:=λ i h=>by
  show(match fi rs Γ.nr i with|some j=>Γs.cur j|none=>Γ.cur i)=_;rw[h]
 have B:∀b,(¬ gY (gH Γ bs rs) b/\b<w.heap.size)->w'.heap[b]?=w.heap[b]?:=λ b P=>s.block b P.2 P.1
 have A:∀b o,(¬ gY (gH Γ bs rs) b/\b<w.heap.size)->Γ.mem b o=U->Γs.mem b o=U:=λ b o P hm=>by
  cases h:Γs.mem b o with
  |none=>rfl
  |some u=>
    rcases s.memg b o u h with n|n|n
    .have n:Γ.mem b o=Z u:=n;rw[hm]at n;cases n
    .exact absurd n P.1
    .omega
 refine⟨?_,?_,v.mem,?_,?_,?_,?_,?_⟩
 .show Γ.nb+(Γs.nb-X bs)=X (dh _ _ _);rw[wO _ _ _ an,bO,g.nb,v.nb]
 .show Γ.nr+(Γs.nr-X rs)=X (dh _ _ _);rw[wO _ _ _ S,g.nr,v.nr]
 .intro i cs f;have f:(dh I.bx bs (σs.bx.map (bt (cJ bs (X I.bx)) (cJ rs (X I.rw)))))[i]?=Z cs:=f;rw[pz _ _ _ _ an t.bn t.bl,<-g.nb,<-g.nr]at f;cases h:fi bs Γ.nb i with
  |some j=>
    rw[h]at f;simp only at f;rw[df]at f;cases P:σs.bx[j]? with
    |none=>rw[P]at f;cases f
    |some a8=>
      rw[P]at f;simp at f;rw[<-f,Ig];exact(v.box j a8 P).to _ (λ o ho=>by rw[p i j h];exact ho) (λ x u T _=>G9 t g s T) λ x=>A0 _ _ x
  |none=>
    rw[h]at f;exact(g.box i cs f).to' (λ o ho=>by rw[y i h,B _ (AA t g h)];exact ho) λ x u s _=>s.mono az
 .intro i H n h2 m;cases h:fi bs Γ.nb i with
  |some j=>
    rw[p i j h]at m;cases a:fi bs Γ.nb H with
    |some d=>
      rw[p H d a]at m;have:=v.inj j d (q i j n h) (q H d h2 a) m;subst this;exact Zw h a
    |none=>
      rw[y H a]at m;exact absurd m (xe s (E j (q i j n h)) (AA t g a))
  |none=>
    rw[y i h]at m;cases a:fi bs Γ.nb H with
    |some d=>
      rw[p H d a]at m;exact absurd m.symm (xe s (E d (q H d h2 a)) (AA t g h))
    |none=>
      rw[y H a]at m;exact g.inj i H (nQ h).1 (nQ a).1 m
 .intro i n o;cases h:fi bs Γ.nb i with
  |some j=>rw[p i j h];exact v.boxmem j (q i j n h) o
  |none=>rw[y i h];exact A _ o (AA t g h) (g.boxmem i (nQ h).1 o)
 .intro r R Q;have Q:(dh I.rw rs σs.rw)[r]?=Z R:=Q
  have a3:r<(gV Γ Γs bs rs).nr:=by
   have:=getElem?_lt Q;rw[wO _ _ _ S,<-g.nr,<-v.nr]at this;exact this
  rw[pz _ _ _ _ S t.rn t.rl,<-g.nr]at Q;cases h:fi rs Γ.nr r with
  |some j=>
    rw[h]at Q;obtain⟨k,a1,pos,a2,pl,fz,g2,g4,g5,g6,g8,g9⟩:=v.row j R Q
    have a0:∀{x u e},e∈R.c->x∈e->Rep Γs x u->Rep (gV Γ Γs bs rs) x u:=λ m T G=>by
     obtain⟨e1,e2,e3⟩:=wV (pl _ m _ T);have:=G9 t g s G;rw[e1]at this;exact this
    have ek:(gV Γ Γs bs rs).k r=Γs.k j:=by show(match fi rs Γ.nr r with|some j=>Γs.k j|none=>Γ.k r)=_;rw[h]
    have a7:(gV Γ Γs bs rs).ver r=Γs.ver j:=by show(match fi rs Γ.nr r with|some j=>Γs.ver j|none=>Γ.ver r)=_;rw[h]
    have K:(gV Γ Γs bs rs).sz r=Γs.sz j:=by show(match fi rs Γ.nr r with|some j=>Γs.sz j|none=>Γ.sz r)=_;rw[h]
    have L:(gV Γ Γs bs rs).of r=Γs.of j:=by show(match fi rs Γ.nr r with|some j=>Γs.of j|none=>Γ.of r)=_;rw[h]
    have M:=cs' r j h;refine⟨k.trans ek.symm,λ hl=>(a1 hl).trans a7.symm,pos,a2,pl,fz,by rw[M,K];exact g2,by rw[K,L];exact g4,by rw[M,K,L];exact g5,λ i e d x l aE=>?_,λ F i l=>?_,λ hf=>L.trans (g9 hf)⟩
    .obtain⟨u,hu,G,n⟩:=g6 i e d x l aE;exact⟨u,by rw[M,L];exact hu,a0 (aK l) (aK aE) G,n⟩
    .rw[K]at F;rw[M];cases a:fi bs Γ.nb i with
     |some d=>rw[p i d a];exact g8 F d (q i d l a)
     |none=>
       rw[y i a];intro m;exact xe s (D j (C r j a3 h) F) (AA t g a) m.symm
  |none=>
    rw[h]at Q;have W:=MO t g h;have ar:=(nQ h).1;refine(g.row r R Q).lift ar az ?_ (λ F ob a4=>?_) (λ F off hm=>?_) λ F i l hn=>?_
    .show(match fi rs Γ.nr r with|some j=>Γs.ver j|none=>Γ.ver r)=_;rw[h]
    .rw[B _ (W F)];exact a4
    .exact A _ off (W F) hm
    .cases a:fi bs Γ.nb i with
     |some d=>
       rw[p i d a];exact xe s (E d (q i d l a)) (W F)
     |none=>
       have:=(nQ a).1;omega
 .intro r z n h2 ax z1 N
  have zs:∀i j,fi rs Γ.nr i=Z j->(gV Γ Γs bs rs).sz i=Γs.sz j:=λ i j h=>by
   show(match fi rs Γ.nr i with|some j=>Γs.sz j|none=>Γ.sz i)=_;rw[h]
  have zn:∀i,fi rs Γ.nr i=U->(gV Γ Γs bs rs).sz i=Γ.sz i:=λ i h=>by
   show(match fi rs Γ.nr i with|some j=>Γs.sz j|none=>Γ.sz i)=_;rw[h]
  cases h:fi rs Γ.nr r with
  |some j=>
    rw[zs r j h]at z1;rw[cs' r j h];cases a:fi rs Γ.nr z with
    |some d=>
      rw[zs z d a]at N;rw[cs' z d a];refine v.apart j d (C r j n h) (C z d h2 a) (λ m=>?_) z1 N;subst m;exact ax (Zw h a)
    |none=>
      rw[zn z a]at N;rw[ad z a];exact xe s (D j (C r j n h) z1) (MO t g a N)
  |none=>
    rw[zn r h]at z1;rw[ad r h];cases a:fi rs Γ.nr z with
    |some d=>
      rw[zs z d a]at N;rw[cs' z d a];exact λ m=>xe s (D d (C z d h2 a) N) (MO t g h z1) m.symm
    |none=>
      rw[zn z a]at N;rw[ad z a];exact g.apart r z (nQ h).1 (nQ a).1 ax z1 N
def Wq(f:mg I bs rs)(g:Inv Γ I w)(c:Ext (gH Γ bs rs) w Γs w'):Ext Γ w (gV Γ Γs bs rs) w':=by
 have p:X bs<=Γs.nb:=c.le.nb;have n:X rs<=Γs.nr:=c.le.nr;refine⟨Yh f g c,c.os,c.tape,c.output,c.size,λ b l q=>c.block b l λ h=>q (L2 f g h),?_,λ b o u s=>?_,c.drawn⟩
 .have e:=λ b l=>(c.own b l).imp_left (L2 f g);rintro b (⟨i,k,a⟩|⟨r,m,d,a⟩)
  .have a:(match fi bs Γ.nb i with|some j=>Γs.β j|none=>Γ.β i)=b:=a;cases h:fi bs Γ.nb i with
   |some j=>
     rw[h]at a;have:=IM h k;exact e b (.inl ⟨j,by omega,a⟩)
   |none=>rw[h]at a;exact .inl (.inl ⟨i,(nQ h).1,a⟩)
  .have a:(match fi rs Γ.nr r with|some j=>Γs.cur j|none=>Γ.cur r)=b:=a;have d:(match fi rs Γ.nr r with|some j=>Γs.sz j|none=>Γ.sz r)≠0:=d;cases h:fi rs Γ.nr r with
   |some j=>
     rw[h]at a d;have:=IM h m;exact e b (.inr ⟨j,by omega,d,a⟩)
   |none=>rw[h]at a d;exact .inl (.inr ⟨r,(nQ h).1,d,a⟩)
 .obtain h|h|h:=c.memg b o u s
  .exact .inl h
  .exact .inr (.inl (L2 f g h))
  .exact .inr (.inr h)
mutual
theorem qpQ{fb fr e d:Nat->Nat}:∀x:AV,(∀b∈rb x,e (fb b)=b)->(∀r∈rr x,d (fr r)=r)->ren e d (ren fb fr x)=x
 |.ptr b o,c,_|.mp b,c,_=>by simp only[ren,c b (by simp[rb])]
 |.mc ..,_,_=>rfl
 |.rs r lo n g f,_,a|.rpt r i o g,_,a=>by simp only[ren,a r (by simp[rr])]
 |.fn f cs,c,a|.agg cs,c,a|.tup cs,c,a=>by simp only[ren,Av cs (by simpa[rb]using c) (by simpa[rr]using a)]
 |.v _,_,_|.dead,_,_|.sl ..,_,_|.ept ..,_,_=>rfl
theorem Av{fb fr e d:Nat->Nat}:∀cs:aa AV,(∀b∈rbL cs,e (fb b)=b)->(∀r∈rrL cs,d (fr r)=r)->bt e d (bt fb fr cs)=cs
 |[],_,_=>rfl
 |x::cs,c,a=>by
   simp only[bt,qpQ x (λ b h=>c b (by simp[rbL,h])) (λ r h=>a r (by simp[rrL,h])),Av cs (λ b h=>c b (by simp[rbL,h])) (λ r h=>a r (by simp[rrL,h]))]
end
def Wl(c:mg I bs rs):(pV I bs rs (bM I bs rs)).bx=I.bx/\(pV I bs rs (bM I bs rs)).rw=I.rw:=by
 constructor
 .apply qC;intro i;show(dh I.bx bs ((bM I bs rs).bx.map _))[i]?=_;rw[pz _ _ _ _ (by simp[bM]) c.bn c.bl];cases h:fi bs (X I.bx) i with
  |none=>rfl
  |some j=>
    simp only;by_cases e:i<X I.bx
    .let⟨l,o,n,m⟩:=pR h e
     have k:bs[j]?=Z i:=by
      grind
     simp only[bM,jQ,df,k,ny,Function.comp];rw[aS e,gE (aS e)];congr 1;have g:=c.cb i l;rw[gE (aS e)]at g;refine Av _ (λ b a=>?_) λ r d=>?_
     .rw[A3]at a;let⟨x,f,a⟩:=kI.1 a;exact G8 ((g x f).1 b a)
     .rw[xM]at d;let⟨x,f,d⟩:=kI.1 d;exact G8 ((g x f).2 r d)
    .grind [fi,bM]
 .apply qC;intro i;show(dh I.rw rs (bM I bs rs).rw)[i]?=_;rw[pz _ _ _ _ (by simp[bM]) c.rn c.rl];grind [bM,fi]
def qlV(a:mg I bs rs)(e:bN (bM I bs rs) σs):bN I (pV I bs rs σs):=by
 have m:(bM I bs rs).bx.length=X bs:=by simp[bM]
 have f:(bM I bs rs).rw.length=X rs:=by simp[bM]
 have d:X bs<=X (σs.bx.map (bt (cJ bs (X I.bx)) (cJ rs (X I.rw)))):=by rw[bO,<-m];exact e.bl
 have c:X rs<=X σs.rw:=by rw[<-f];exact e.rl
 let⟨e1,r⟩:=Wl a;refine⟨?_,?_,λ i l g=>?_,λ i l g=>?_,λ i h=>nA _ h,λ i h=>nA _ h⟩
 .show _<=X (dh _ _ _);rw[wO _ _ _ d];omega
 .show _<=X (dh _ _ _);rw[wO _ _ _ c];omega
 .have b:=λ h=>g (nC _ h);rw[<-e1];show(dh _ _ _)[i]?=(dh _ _ _)[i]?;rw[pz _ _ _ _ d a.bn a.bl,pz _ _ _ _ (by grind) a.bn a.bl];cases h:fi bs (X I.bx) i with
  |none=>rfl
  |some j=>
    simp;let⟨o,n,q,p⟩:=pR h l;rw[e.bx j (by omega) λ k=>b (bF.2 ⟨j,k,by rw[n];exact G8 o⟩)]
 .have b:=λ h=>g (nC _ h);rw[<-r];show(dh _ _ _)[i]?=(dh _ _ _)[i]?;rw[pz _ _ _ _ c a.rn a.rl,pz _ _ _ _ (by omega) a.rn a.rl];cases h:fi rs (X I.rw) i with
  |none=>rfl
  |some j=>
    simp only;let⟨o,n,q,p⟩:=pR h l;rw[e.rw j (by omega) λ k=>b (bF.2 ⟨j,k,by rw[n];exact G8 o⟩)]
def Zu{a}(h:nX I a=O):mg I (dY I a) (hU I a)/\(∀b∈rbL a,b∈dY I a)/\∀r∈rrL a,r∈hU I a:=by
 simp[nX,aJ,bz,cH,List.contains_eq_mem]at h;let⟨⟨⟨⟨⟨m,l⟩,k⟩,j⟩,e⟩,i⟩:=h;refine⟨⟨Mx m,Mx l,λ b c=>(e b c).1.1,i,λ b c x f=>⟨λ n d=>?_,λ r g=>?_⟩⟩,k,j⟩
 .apply (e b c).1.2 n;rw[A3];exact kI.2 ⟨x,f,d⟩
 .apply (e b c).2 r;rw[xM];exact kI.2 ⟨x,f,g⟩
end
end
section
open RowKit
theorem Of{P:aZ}{u:TypeDesc}{c:aa KC}{d b:Bool}{f:Nat}{a:aa aj}(h:fW P u=Z (.map c d b f a)):∃k e i z,u=.map k e/\ni P k=Z (c,d)/\P.info? e=Z i/\i.zero=Z z/\qbz z=b/\V z.cells=a:=by
 cases u with
 |map k e=>
   have h:A7 P k e=_:=h;unfold A7 at h;grind
 |_=>simp[fW]at h<;>(repeat' (first|(cases h;done)|split at h))
def eH:AV->aj
 |.v x=>x
 |_=>.nilIface
def dZ(a:Bool)(k:aa AV):aj:=match a with
 |O=>.agg (k.map eH).toArray
 |Y=>match k with
   |[x]=>eH x
   |_=>.nilIface
def KOk(a:aa KC)(b:Bool)(k:aa AV):Prop:=ci a k=O/\(b=Y->∃c,a=[c])
theorem uw{c:KC}{a:aa KC}{k:aa AV}(h:ci (c::a) k=O):∃x r,k=x::r/\ci [c] [x]=O/\ci a r=O:=by
 cases k with
 |nil=>cases c<;>cases h
 |cons x r=>
   refine⟨x,r,rfl,?_⟩;unfold ci at h;split at h<;>rename_i e1 b<;>first|(cases e1;done)|skip
   all_goals first|(cases e1;cases b;first|(rw[aJ]at h;exact⟨by simp[ci];simpa using h.1,h.2⟩)|exact⟨rfl,h⟩)|cases h
theorem qbi{c:KC}{x:AV}(h:ci [c] [x]=O):x=.v (eH x):=by
 cases c<;>cases x<;>first|rfl|cases h
theorem Ii:∀(b:aa KC) (k:aa AV),ci b k=O->∀x∈k,x=.v (eH x)
 |[],[],_,x,a=>by cases a
 |[],_::_,h,_,_=>by cases h
 |c::b,k,h,x,a=>by
   obtain⟨y,r,rfl,e,d⟩:=uw h;obtain rfl|a:=bi.1 a
   .exact qbi e
   .exact Ii b r d x a
theorem pQ{c:KC}{k:aa AV}(h:ci [c] k=O):∃x,k=[.v x]:=by
 obtain⟨x,r,rfl,b,a⟩:=uw h;cases r with
 |nil=>exact⟨_,by rw[<-qbi b]⟩
 |cons y r=>cases a
theorem NJ{Γ:Gh}{f:aa KC}{a:Bool}{k:aa AV}{u:aj}(d:KOk f a k)(h:Rep Γ (fh a k) u):u=dZ a k:=by
 cases a with
 |true=>
   have h:Rep Γ (.agg k) u:=h;cases h with
   |agg _ us m n g=>
     show Value.agg us.toArray=.agg (k.map eH).toArray;congr 2;apply qC;intro i;rw[df];by_cases j:i<X k
     .have b:=aS j;have e:=aS (l:=us) (i:=i) (by omega);rw[b,e];have:=g i _ _ b e;rw[Ii _ _ d.1 _ (aK b)]at this;exact bB Z (ce this)
     .grind
 |false=>
   obtain⟨c,rfl⟩:=d.2 rfl;obtain⟨x,rfl⟩:=pQ d.1;have h:Rep Γ (.v x) u:=h;cases h;rfl
section
variable {P:aZ} (w:aA)
theorem HP{t:aQ}{c:KC}(h:kc1 P t=Z c):P.underlying t=Z (match c with|.str=>.string|.int k=>.int k|.bool=>.bool):=by
 unfold kc1 at h;grind
theorem AH{t:aQ}{a:aa KC}(h:ni P t=Z (a,Y)):∃c,a=[c]/\kc1 P t=Z c:=by
 grind [ni]
theorem Nl{t:aQ}{a:aa KC}(h:ni P t=Z (a,O)):∃b,P.underlying t=Z (.struct b)/\P.stoodInHeld t=Y/\kcs P (V b) 0=Z a:=by
 grind [ni]
theorem NP{t:aQ}{a:aa KC}{b:Bool}{k:aa AV}(h:ni P t=Z (a,b))(d:ci a k=O):KOk a b k:=⟨d,λ e=>by subst e;let⟨c,h1,_⟩:=AH h;exact⟨c,h1⟩⟩
theorem Ya{t:aQ}{c:KC}(h:kc1 P t=Z c){x y:AV}(f:ci [c] [x]=O)(d:ci [c] [y]=O)(n:Nat):(Op.equalIn (n+1) t (eH x) (eH y)).run P w=.ok (nW x y) w/\Instr.sameNow ((P.underlying t).getD .bool) (eH x) (eH y)=Z (nW x y)/\(nW x y=O->x=y):=by
 have g:=HP h;let⟨a,j⟩:=pQ f;let⟨b,i⟩:=pQ d;cases j;cases i;cases c with
 |str=>
   cases a<;>simp[ci]at f;cases b<;>simp[ci]at d;rename_i a b;refine⟨?_,?_,λ e=>?_⟩
   .show(Op.equalIn (n+1) t (.string a) (.string b)).run P w=_;rw[run_equalIn_string w n t a b g,toList_eq,toList_eq];rfl
   .rw[g];show Z (a==b)=Z (xeq a b);rw[beq_toListBytes,toList_eq,toList_eq];rfl
   .have:V a.data=V b.data:=by simpa[nW,xeq]using e
    let⟨⟨a⟩⟩:=a;let⟨⟨b⟩⟩:=b;cases this;rfl
 |int k=>
   cases a with
   |int l a=>?_
   |_=>cases f
   cases b with
   |int kb b=>?_
   |_=>cases d
   simp[ci]at f d;subst f;subst d;refine⟨run_equalIn_int w n t _ _ a b g,?_,λ e=>?_⟩
   .rw[g];simp[Instr.sameNow,eH,nW,ieq]
   .have:a=b:=by simpa[nW,ieq]using e
    rw[this]
 |bool=>
   cases a<;>simp[ci]at f;cases b<;>simp[ci]at d;rename_i a b;refine⟨run_equalIn_bool w n t a b g,?_,λ e=>?_⟩
   .rw[g];rfl
   .have:a=b:=by simpa[nW,dj]using e
    rw[this]
theorem Ul{t:aQ}{c:KC}(h:kc1 P t=Z c){x:AV}(b:ci [c] [x]=O)(f:Bool)(n:Nat):(Instr.checkKey f (n+1) t (eH x)).run P w=.ok () w:=by
 have d:=HP h;let⟨a,e⟩:=pQ b;cases e;unfold Instr.checkKey;cases c<;>cases a<;>simp[ci]at b<;>simp[run_underlying d,Result.andThen,eH]
theorem UV{c:KC}{x:AV}(b:ci [c] [x]=O)(n:Nat):Instr.sameBits n (eH x) (eH x)=O:=by
 let⟨a,d⟩:=pQ b;cases d;cases c<;>cases a<;>simp[ci]at b<;>simp[Instr.sameBits,eH,MapKept.bytes_beq]
theorem Mg{t:aQ}{c:KC}(h:kc1 P t=Z c){cs:aL aj}{o:Nat}{v:aj}(a:cs[o]?=Z v):(part t cs o).run P w=.ok v w:=by
 have b:=HP h;have:(isAgg t).run P w=.ok Y w:=by cases c<;>simp[isAgg,underlying,b]
 simp[part,this,a]
theorem U9:∀(k:aa Field) (o:Nat) (d:aa KC) (a b:aa AV) (xs ys:aL aj) (n:Nat),kcs P k o=Z d->ci d a=O->ci d b=O->(∀j x,a[j]?=Z x->xs[o+j]?=Z (eH x))->(∀j x,b[j]?=Z x->ys[o+j]?=Z (eH x))->
  (Op.eqFields (n+1) xs ys k).run P w=.ok (gd a b) w/\(gd a b=O->a=b)
 |[],o,d,a,b,xs,ys,n,h,s,r,_,_=>by
   cases h;cases a<;>cases b<;>first|exact⟨rfl,λ _=>rfl⟩|(cases s;done)|(cases r;done)
 |f::k,o,d,a,b,xs,ys,n,h,s,r,i,g=>by
   simp only[kcs]at h;split at h<;>cases h;rename_i c l D t C;let⟨B,A⟩:=bG D;obtain⟨x,L,rfl,K,I⟩:=uw s;obtain⟨y,H,rfl,G,F⟩:=uw r;have p:=Mg w t (i 0 x rfl);have m:=Mg w t (g 0 y rfl);let⟨e1,_,E⟩:=Ya w t K G n;let⟨z,v⟩:=U9 k (o+1) l L H xs ys n C I F (λ j x q=>by rw[QB];exact i (j+1) x q) (λ j x q=>by rw[QB];exact g (j+1) x q);rw[dP]at p m;rw[<-B]at p m;refine⟨?_,λ e=>?_⟩
   .rw[Op.eqFields,af A];simp only[Sem.run_bind,p,m,e1,Result.andThen_ok,Sem.run_ite];cases u:nW x y with
    |true=>simp only[qbY,yI,yJ,z,gd,u,cv]
    |false=>simp only[BR,yK,Sem.run_pure,gd,u,mE]
   .simp only[gd,aJ]at e;rw[E e.1,v e.2]
theorem Tc:∀(g:aa Field) (o:Nat) (e:aa KC) (a:aa AV) (xs:aL aj) (d:Bool) (n:Nat),kcs P g o=Z e->ci e a=O->(∀j x,a[j]?=Z x->xs[o+j]?=Z (eH x))->
  (forIn (m:=Sem) g PUnit.unit λ f _=>do
   if f.name≠"_" then Instr.checkKey d (n+1) f.type (<-part f.type xs f.offset)
   pure (ForInStep.yield PUnit.unit)).run P w=.ok PUnit.unit w
 |[],o,e,a,xs,d,n,h,i,_=>rfl
 |f::g,o,e,a,xs,d,n,h,i,b=>by
   simp only[kcs]at h;split at h<;>cases h;rename_i c l t k s;let⟨r,z⟩:=bG t;obtain⟨x,y,rfl,v,u⟩:=uw i;have p:=Mg w k (b 0 x rfl);rw[dP,<-r]at p;have e1:=Ul w k v d n;have:=Tc g (o+1) l y xs d n s u λ j x q=>by rw[QB];exact b (j+1) x q
   simp_all
theorem Gy{t:aQ}{a:aa KC}{b:Bool}{k:aa AV}(h:ni P t=Z (a,b))(d:ci a k=O)(f:Bool)(n:Nat):(Instr.checkKey f (n+2) t (dZ b k)).run P w=.ok () w:=by
 cases b with
 |false=>
   obtain⟨c,rfl,e⟩:=AH h;obtain⟨x,rfl⟩:=pQ d;exact Ul w e d f (n+1)
 |true=>
   let⟨l,e,m,i⟩:=Nl h;have:=Tc w (V l) 0 a k (k.map eH).toArray f n i d λ j x g=>by simp[g]
   unfold Instr.checkKey;simp only[Sem.run_bind,run_underlying e,Result.andThen_ok,dZ];simp_all
theorem qpz{t:aQ}{a:aa KC}{b:Bool}{k:aa AV}(h:ni P t=Z (a,b))(d:ci a k=O):(Instr.keyThatStays (dZ b k) (dZ b k)).run P w=.ok (dZ b k) w:=by
 have all:∀(a:aa KC) (k:aa AV) (n:Nat),ci a k=O->((k.map eH).zip (k.map eH)).all (λ p=>Instr.sameBits n p.1 p.2)=O:=by
  intro a
  induction a with
  |nil=>intro k n d;cases k<;>first|rfl|cases d
  |cons c a e=>
    intro k n d;obtain⟨x,r,rfl,i,g⟩:=uw d;simp only[aU,List.zip_cons_cons,dy,UV i,cv];exact e r n g
 have f:Instr.sameBits 10000 (dZ b k) (dZ b k)=O:=by
  cases b with
  |false=>
    obtain⟨c,rfl,j⟩:=AH h;obtain⟨x,rfl⟩:=pQ d;exact UV d _
  |true=>
    show((k.map eH).toArray.size==(k.map eH).toArray.size&&((k.map eH).zip (k.map eH)).all λ p=>Instr.sameBits 9999 p.1 p.2)=O;rw[all a k 9999 d];simp
 simp[Instr.keyThatStays,f]
theorem YP{t:aQ}{o:aa KC}{d:Bool}{k:aa AV}(h:ni P t=Z (o,d))(q:ci o k=O):∀(m:aa (aa AV)) (g:aa MapEntry) (i:Nat),X g=X m->(∀(j:Nat) (l:aa AV) (e:MapEntry),m[j]?=Z l->g[j]?=Z e->e.key=dZ d l/\ci o l=O)->
  (gI k m i=U/\(if d then(Instr.findAsking t (dZ d k) g i).run P w=.ok U w else Instr.findNow ((P.underlying t).getD .bool) (dZ d k) g i=Z U))\/
  ∃j e,gI k m i=Z (i+j)/\g[j]?=Z e/\e.key=dZ d k/\(if d then(Instr.findAsking t (dZ d k) g i).run P w=.ok (Z (i+j,e.val)) w else Instr.findNow ((P.underlying t).getD .bool) (dZ d k) g i=Z (Z (i+j,e.val)))
 |[],g,i,n,_=>by
   have:g=[]:=cR n;subst this;refine .inl ⟨rfl,?_⟩;cases d<;>rfl
 |l::m,[],i,n,_=>by simp at n
 |l::m,e::g,i,n,C=>by
   let⟨F,A⟩:=C 0 l e rfl rfl;have M:=YP h q m g (i+1) (by simpa using n) λ j v B a b=>C (j+1) v B a b
   have f:(if d then(Op.equal t (dZ d k) e.key).run P w=.ok (gd k l) w else Instr.sameNow ((P.underlying t).getD .bool) (dZ d k) e.key=Z (gd k l))/\(gd k l=O->k=l):=by
    rw[F];cases d with
    |false=>
      obtain⟨c,rfl,u⟩:=AH h;obtain⟨x,rfl⟩:=pQ q;obtain⟨y,rfl⟩:=pQ A;let⟨_,e1,S⟩:=Ya w u q A 0;refine⟨?_,λ E=>?_⟩
      .simp only[yI,yJ];rw[gd,gd,ow];exact e1
      .rw[gd,gd,ow]at E;rw[S E]
    |true=>
      let⟨G,u,Q,N⟩:=Nl h;have D:P.fieldsOf t=G:=by unfold Program.fieldsOf;rw[u]
      let⟨L,K⟩:=U9 w (V G) 0 o k l (k.map eH).toArray (l.map eH).toArray 9998 N q A (λ j x z=>by simp[z]) (λ j x z=>by simp[z]);refine⟨?_,K⟩;simp only[yK];show(Op.equalIn (9999+1) t (.agg _) (.agg _)).run P w=_;rw[run_equalIn_struct w 9999 t _ _ (by rw[D];exact u) Q,D];exact L
   cases s:gd k l with
   |true=>
     rw[s]at f;refine .inr ⟨0,e,by simp[gI,s],rfl,by rw[F,f.2 rfl],?_⟩;cases d with
     |false=>have:=f.1;simp only[yI,yJ]at this |-;simp[Instr.findNow,this]
     |true=>have:=f.1;simp only[yK]at this |-;simp[Instr.findAsking,this]
   |false=>
     rw[s]at f;have R:gI k (l::m) i=gI k m (i+1):=by simp[gI,s]
     have W:∀r,(if d then(Instr.findAsking t (dZ d k) g (i+1)).run P w=.ok r w else Instr.findNow ((P.underlying t).getD .bool) (dZ d k) g (i+1)=Z r)->(if d then(Instr.findAsking t (dZ d k) (e::g) i).run P w=.ok r w else Instr.findNow ((P.underlying t).getD .bool) (dZ d k) (e::g) i=Z r):=by
      intro r p;cases d with
      |false=>have:=f.1;simp only[yI,yJ]at this p |-;simp[Instr.findNow,this,p]
      |true=>have:=f.1;simp only[yK]at this p |-;simp[Instr.findAsking,this,p]
     obtain⟨I,H⟩|⟨j,B,I,H,T,a4⟩:=M
     .grind
     .refine .inr ⟨j+1,B,by rw[R,I];congr 1;omega,H,T,?_⟩;grind
theorem TR{t:aQ}{l:aa KC}{d:Bool}{k:aa AV}(h:ni P t=Z (l,d))(s:ci l k=O){b:aa (aa AV)}{a:aa MapEntry}(q:X a=X b)(u:∀(j:Nat) (m:aa AV) (e:MapEntry),b[j]?=Z m->a[j]?=Z e->e.key=dZ d m/\ci l m=O):
  (gI k b 0=U/\(Instr.findKey t (dZ d k) a).run P w=.ok U w)\/∃j e,gI k b 0=Z j/\a[j]?=Z e/\e.key=dZ d k/\(Instr.findKey t (dZ d k) a).run P w=.ok (Z (j,e.val)) w:=by
 have f:=YP w h s b a 0 q u;cases d with
 |false=>
   obtain⟨c,rfl,i⟩:=AH h;have n:=HP i;simp only[yI,yJ,bS]at f;rw[n]at f;obtain⟨p,o⟩|⟨j,e,p,o,x,v⟩:=f
   .exact .inl ⟨p,MapKept.run_findKey n o⟩
   .exact .inr ⟨j,e,p,o,x,MapKept.run_findKey n v⟩
 |true=>
   let⟨A,i,z,y⟩:=Nl h;simp only[yK,bS]at f
   have r:∀e g,a=e::g->(Instr.findKey t (dZ O k) a).run P w=(Instr.findAsking t (dZ O k) a 0).run P w:=by
    rintro e g rfl;simp[Instr.findKey,run_underlying i,Result.andThen,Instr.findNow,Instr.sameNow]
   cases a with
   |nil=>
     have:b=[]:=cR q.symm;subst this;exact .inl ⟨rfl,by simp[Instr.findKey,run_underlying i,Result.andThen,Instr.findNow]⟩
   |cons e a=>
     rw[r e a rfl];exact f
end
section
variable {P:aZ}{C:Cfg}{Γ:Gh}{I:St}{w:aA}{o:Oper}{tm:aa AV}{ρ:bw->aj}{x:AV}{σ':ab St}
theorem pP{a b:Bool}(h:dj a b=O):a=b:=by cases a<;>cases b<;>first|rfl|cases h
theorem Mh{d:aa KC}{e a:Bool}{y:AV}{b:Nat}{c vs:aa (aa AV)}(h:vd I d e a y=Z (b,c,vs)):y=.mp b/\I.bx[b]?=Z [.mc d e a c vs]:=by
 unfold vd at h;split at h<;>try cases h
 split at h<;>try cases h
 next g=>split at h<;>cases h;next f=>rw[aJ,aJ]at f;let⟨k,j,i⟩:=f;rw[bG k,pP j,pP i]at g;exact⟨rfl,g⟩
theorem N8{b:Nat}{u:aj}(h:Rep Γ (.mp b) u):u=.map (Z (Γ.β b))/\b<Γ.nb:=by cases h;exact⟨rfl,‹_›⟩
theorem ZH{a:aa KC}{b:Bool}{y:AV}(h:vj a b y=O):ci a (cellsOf y)=O/\fh b (cellsOf y)=y:=by
 unfold vj at h;rw[aJ]at h;refine⟨h.2,?_⟩;rw[<-pP h.1];cases y with
 |agg cs=>rfl
 |tup vs=>have:=Ii _ _ h.2 (.tup vs) (cQ.2 rfl);cases this
 |_=>rfl
theorem qrI{a:Bool}{b:Nat}{y:AV}(h:Bi a b y=O):fh a (cellsOf y)=y/\(cellsOf y).all br=O:=by
 unfold Bi at h;rw[aJ,aJ]at h;refine⟨?_,h.2⟩;rw[<-pP h.1.1];cases y with
 |agg cs|_=>rfl
theorem ky.keys{l:aa KC}{g n:Bool}{i vs:aa (aa AV)}{b:Nat}{t:aQ}(h:ky Γ w b l g n i vs)(o:ni P t=Z (l,g)):∃f d,w.heap[b]?=Z (.map f d)/\f.size=X i/\∀(j:Nat) (k v:aa AV) (e:MapEntry),i[j]?=Z k->vs[j]?=Z v->f[j]?=Z e->OR Γ l g n k v e/\e.key=dZ g k:=by
 let⟨r,f,d,q,p,m⟩:=h;exact⟨f,d,q,p,λ j k v e a b c=>⟨m j k v e a b c,NJ (NP o (m j k v e a b c).2.2.1) (m j k v e a b c).1⟩⟩
theorem V8(k:aa AV):∀(a:aa (aa AV)) (i j:Nat),gI k a i=Z j->i<=j/\j<i+X a
 |[],i,j,h=>by cases h
 |e::b,i,j,h=>by
   simp only[gI]at h;split at h
   .cases h;simp
   .have:=V8 k b (i+1) j h;simp;omega
theorem ql7(m:∀t d,C.ty t=Z d->cz P t=Z d)(f:Inv Γ I w)(t:aQ)(r:ab bw)(a:o.op=.makeMap t r)(h:aF C tm I o.op=Z (x,σ')):dH P Γ I w o ρ x σ':=by
 rw[a]at h;cases r with
 |some r=>simp[aF]at h
 |none=>
   simp only[aF]at h;split at h<;>cases h;next c e b k j l=>let⟨Γ',e1,i,g⟩:=qnm f c e b;exact⟨.value (.map (Z w.heap.size)),_,_,Γ',by simp[execOp,a,Instr.makeMap],.inl rfl,e1,i,g⟩
theorem Yt{g:aa KC}{f l:Bool}{d vs:aa (aa AV)}{i:aL MapEntry}(m:X vs=X d)(h:∀(j:Nat) (k v:aa AV) (e:MapEntry),d[j]?=Z k->vs[j]?=Z v->i[j]?=Z e->OR Γ g f l k v e/\e.key=dZ f k):∀(j:Nat) (c:aa AV) (e:MapEntry),d[j]?=Z c->i.toList[j]?=Z e->e.key=dZ f c/\ci g c=O:=λ j c e a b=>by
 have n:=(ft.1 a).1;have:=h j c _ e a (aS (by omega)) (by simpa using b);exact⟨this.2,this.1.2.2.1⟩
theorem qnv(hC:∀t d,C.ty t=Z d->cz P t=Z d)(L:Inv Γ I w)(g:∀y,Rep Γ (aev tm y) (ρ y))(t:aQ)(m k:bw)(p:Bool)(E:o.op=.lookup t m k p)(h:aF C tm I o.op=Z (x,σ')):dH P Γ I w o ρ x σ':=by
 rw[E]at h;simp only[aF]at h;split at h<;>try cases h
 rename_i kc ka Q vn vz hd;split at h<;>try cases h
 rename_i b W vs hm hc;split at h<;>cases h;rename_i v q i;simp only[aJ,cH]at hc;let⟨hk,⟨hz,_⟩,ad⟩:=hc;let⟨H,G⟩:=Mh hm;let⟨r,k2⟩:=ZH hk;let⟨_,ud,z0,p1,T,p3,p4,p5,p6,p7,p8⟩:=en (hC t _ hd);obtain⟨kt,et,ie,l,rfl,f,q3,q4,q5,S⟩:=Of p8;have hb:ky Γ w (Γ.β b) kc ka Q W vs:=L.box b _ G;let⟨es,M,g1,g2,g3⟩:=hb.keys f;have F:=(N8 (H▸g m)).1;have K:=NJ (NP f r) (k2.symm▸g k)
 have B:Rep Γ (fh Q (vz.map .v)) l:=by
  let⟨A,z2⟩:=uz (Γ:=Γ) hz;subst q5;cases l with
  |agg cs=>subst S;exact .agg _ _ A.len z2 A.rep
  |_=>subst S;exact A.rep 0 _ _ rfl rfl
 have a:(zeroValue et).run P w=.ok l w:=by simp[zeroValue,typeInfo,q3,q4]
 have c:∃u,(Instr.lookup t (ρ m) (ρ k) p).run P w=.ok (if p then .tuple #[u,.bool q]else u) w/\Rep Γ v u:=by
  rw[F,K];have s:X (V es)=X W:=by simpa using g2
  obtain⟨z,N⟩|⟨j,e,z,N,a3,a4⟩:=TR w f r s (Yt hb.len g3)
  .simp only[xT,z,dQ,fc]at i;obtain⟨rfl,rfl⟩:=i;refine⟨l,?_,B⟩;simp[Instr.lookup,run_underlying T,MapKept.run_getObj_map g1,Gy w f r _ 9998,N,a,Result.andThen]
  .simp only[xT,z]at i;split at i<;>cases i;next v' D=>have an:=V8 _ _ _ _ z;let⟨n,_⟩:=g3 j _ v' e (aS (by omega)) D (by simpa using N);refine⟨e.val,?_,n.2.1⟩;simp[Instr.lookup,run_underlying T,MapKept.run_getObj_map g1,Gy w f r _ 9998,a4,Result.andThen]
 let⟨u,n,R⟩:=c;cases p with
 |false=>exact .val (by simp[execOp,E,n]) L R
 |true=>
   have s:=(vZ R (vZ (.v (.bool q) rfl) .nil):RepL Γ [v,.v (.bool q)] [u,.bool q])
   exact .val (by simp[execOp,E,n]) L (.tup _ _ s.len s.rep)
theorem Vs(hC:∀t d,C.ty t=Z d->cz P t=Z d)(hi:Inv Γ I w)(p:∀y,Rep Γ (aev tm y) (ρ y))(t:aQ)(m k y:bw)(R:o.op=.mapUpdate t m k y\/o.op=.insert t m k y)(h:lQ C tm I t m k y=Z (x,σ')):dH P Γ I w o ρ x σ':=by
 unfold lQ at h;split at h<;>try cases h
 rename_i kc B Q vn vz hd;split at h<;>cases h;rename_i b n vs hm hc;rw[aJ]at hc;let⟨ad,H⟩:=Mh hm;let⟨z,k2⟩:=ZH hc.1;let⟨v1,v2⟩:=qrI hc.2;let⟨_,ud,z0,p1,p2,p3,p4,p5,p6,p7,p8⟩:=en (hC t _ hd);obtain⟨kt,et,ie,ze,rfl,v,q3,q4,q5,q6⟩:=Of p8;have M:ky Γ w (Γ.β b) kc B Q n vs:=hi.box b _ H;let⟨T,a,l,S,g3⟩:=M.keys v;have G:=(N8 (ad▸p m)).1;have K:Rep Γ (fh B (cellsOf (aev tm k))) (ρ k):=k2.symm▸p k;have D:Rep Γ (fh Q (cellsOf (aev tm y))) (ρ y):=v1.symm▸p y;have r:=NJ (NP v z) K;have hl:X (V T)=X n:=by simpa using S
 have az:=(eC.1 l).1
 have N:∀ob,(Instr.mapUpdate t (ρ m) (ρ k) (ρ y)).run P w=.ok () {w with heap:=w.heap.setIfInBounds (Γ.β b) ob}->(∀f vs',lu n vs (cellsOf (aev tm k)) (cellsOf (aev tm y))=(f,vs')->fj Γ {w with heap:=w.heap.setIfInBounds (Γ.β b) ob} b [.mc kc B Q f vs'])->
   dH P Γ I w o ρ (.tup []) (Z {I with bx:=I.bx.set b [.mc kc B Q (lu n vs (cellsOf (aev tm k)) (cellsOf (aev tm y))).1 (lu n vs (cellsOf (aev tm k)) (cellsOf (aev tm y))).2],wr:=b::I.wr}):=by
  intro ob E ax;let⟨e1,e2⟩:=Uo hi H (b::I.wr) _ (ax _ _ rfl) (λ k hk=>(MapKept.heap_set l).2 k hk) rfl rfl rfl (by simp) (ak _);refine⟨.skip,undef,_,Γ,?_,.inr ⟨rfl,rfl⟩,e1,e2,.tup [] [] rfl λ i x u hx=>by simp at hx⟩;obtain R|R:=R<;>simp[execOp,R,E]
 obtain⟨a1,W⟩|⟨j,e,a1,W,a3,a4⟩:=TR w v z hl (Yt M.len g3)
 .refine N (.map (T.push {key:=ρ k,val:=ρ y,born:=a}) (a+1)) ?_ λ f vs' F=>?_
  .rw[G];have:=Gy w v z Y 9998;rw[<-r]at W this;simp[Instr.mapUpdate,run_underlying p2,MapKept.run_getObj_map l,this,W,MapKept.run_setObj_map _ l,Result.andThen]
  .simp only[lu,a1,fc]at F;obtain⟨rfl,rfl⟩:=F;refine⟨by simp[M.len],_,_,(MapKept.heap_set l).1,by simp[S],λ j k' v' e' g c A=>?_⟩;have q:=M.len;by_cases hj:j<X n
   .grind
   .have an:j=X n:=by
      grind
    subst an;rw[ej (ak _),mF]at g;rw[ej (by omega),q,mF]at c;rw[<-S,Array.getElem?_push_size]at A;cases g;cases c;cases A;exact⟨K,D,z,v2⟩
 .have s:T[j]?=Z e:=by simpa using W
  refine N (.map (T.modify j λ e=>{e with key:=ρ k,val:=ρ y}) a) ?_ λ f vs' F=>?_
  .rw[G];have g:=Gy w v z Y 9998;have c:=qpz w v z;rw[<-r]at a4 g c a3;simp[Instr.mapUpdate,run_underlying p2,MapKept.run_getObj_map l,g,a4,s,a3,c,MapKept.run_setObj_map _ l,Result.andThen]
  .simp only[lu,a1,fc]at F;obtain⟨rfl,rfl⟩:=F;have q:=M.len;refine⟨by simp[q],_,_,(MapKept.heap_set l).1,by simp[S],λ i k' v' e' g c A=>?_⟩;rw[Qw]at A;rw[oq]at c;by_cases ar:j=i
   .subst ar;rw[af rfl,s]at A;rw[af rfl]at c;split at c<;>cases c;cases A;let⟨r1,r2⟩:=g3 j k' _ e g (aS (by have:=(ft.1 g).1;omega)) s;refine⟨?_,D,r1.2.2.1,v2⟩;show Rep Γ (fh B k') (ρ k);rw[r,<-a3];exact r1.1
   .grind
end
end
section
open RowKit
section
variable {I:St}
def Ni(l:aa (aa AV)):bN I {I with bx:=I.bx++l}:=
 ⟨by simp,ak _,λ i a _=>dq a,λ _ _ _=>rfl,λ _ h=>h,λ _ h=>h⟩
def Vv(b:Nat)(cs:aa AV):bN I {I with bx:=I.bx.set b cs,wr:=b::I.wr}:=
 ⟨by simp,ak _,λ i c a=>kK λ e=>a (by simp[e]),λ _ _ _=>rfl,λ _ h=>aT _ h,λ _ h=>h⟩
def Me(a:aa Nat):bN I {I with rw:=frz I.rw a,wrr:=a++I.wrr}:=
 ⟨ak _,by simp[Xm],λ _ _ _=>rfl,λ i c b=>AT _ _ _ λ h=>b (nC _ h),λ _ h=>h,λ _ h=>nA _ h⟩
def V5(l:aa Row):bN I {I with rw:=I.rw++l}:=
 ⟨ak _,by simp,λ _ _ _=>rfl,λ i a _=>dq a,λ _ h=>h,λ _ h=>h⟩
def Mo(r:Nat)(R:Row):bN I {I with rw:=I.rw.set r R,wrr:=r::I.wrr}:=
 ⟨ak _,by simp,λ _ _ _=>rfl,λ i b a=>kK λ e=>a (by simp[e]),λ _ h=>h,λ _ h=>aT _ h⟩
end
def Tg{C:Cfg}{tm:aa AV}{I σ':St}{t:Nat}{m k y:bw}{x:AV}(h:lQ C tm I t m k y=Z (x,Z σ')):bN I σ':=by
 unfold lQ at h;split at h<;>try cases h
 split at h<;>cases h;exact Vv _ _
def qln{C:Cfg}{tm:aa AV}{I:St}{op:Op}{x:AV}{σ':ab St}(h:aF C tm I op=Z (x,σ')):bN I (turn I σ'):=by
 cases σ' with
 |none=>exact .refl I
 |some σ'=>
   show bN I σ';cases op with
   |alloc e=>
     simp only[aF]at h;split at h<;>try cases h
     split at h<;>cases h;exact Ni _
   |box e y=>
     simp only[aF]at h;split at h<;>try cases h
     split at h<;>cases h;exact Ni _
   |store t a y=>
     simp only[aF]at h;split at h<;>try cases h
     .split at h<;>try cases h
      split at h<;>cases h;exact Vv _ _
     .split at h<;>try cases h
      split at h<;>cases h;exact Mo _ _
   |convert s t y=>
     simp only[aF]at h;split at h<;>try cases h
     split at h<;>try cases h
     split at h<;>cases h
   |makeSlice t a y=>
     simp only[aF]at h;split at h<;>try cases h
     split at h<;>try cases h
     split at h<;>cases h;exact V5 _
   |buildSlice t n ps=>
     simp only[aF]at h;split at h<;>try cases h
     split at h<;>try cases h
     split at h<;>cases h;exact Me _
   |slice t y lo b m=>
     cases m with
     |some m=>simp[aF]at h
     |none=>
       simp only[aF]at h
       repeat' (first|(cases h;done)|(cases h;exact Mo _ _)|split at h)
   |makeMap t m=>
     cases m<;>simp only[aF]at h<;>try cases h
     split at h<;>cases h;exact Ni _
   |mapUpdate t m k y|insert t m k y=>exact Tg h
   |makeFunc f c cs=>
     cases f<;>simp only[aF]at h<;>(repeat' (first|(cases h;done)|split at h))
   |_=>
     simp only[aF]at h
     repeat' (first|(cases h;done)|split at h)
def Th{k bytes:Nat}{I:St}{s:AV}{xs:aa (aa AV)}{x:AV}{σ':ab St}(h:eM k bytes I s xs=Z (x,σ')):bN I (turn I σ'):=by
 unfold eM at h
 repeat' (first|(cases h;done)|(cases h;first|exact .refl _|exact V5 _|exact Mo _ _)|split at h)
def qak(P:aZ)(Γ:Gh)(I:St)(w:aA)(o:Oper)(a:Act)(x:AV)(σ':ab St):Prop:=
 ∀next Q,(∀u w' Γ',Ext Γ w Γ' w'->Inv Γ' (turn I σ') w'->Rep Γ' x u->bN I (turn I σ')->next (a.put o.dst u) w')->o.wp P a w next Q
def dH.wp{P:aZ}{Γ:Gh}{I:St}{w:aA}{o:Oper}{a:Act}{x:AV}{σ':ab St}(h:dH P Γ I w o a.eval x σ')(c:bN I (turn I σ')):qak P Γ I w o a x σ':=by
 let⟨j,u,w',Γ',i,g,f,e,d⟩:=h;intro next Q b
 unfold Oper.wp;rw[i];obtain rfl|⟨rfl,rfl⟩:=g
 .exact b _ _ _ f e d c
 .exact b _ _ _ f e d c
section
variable {P:aZ}{C:Cfg}{Γ:Gh}{I:St}{w:aA}{o:Oper}{tm:aa AV}{ρ:bw->aj}{x:AV}{σ':ab St}
def qr4(p:∀t d,C.ty t=Z d->cz P t=Z d)(l:Inv Γ I w)(g:∀y,Rep Γ (aev tm y) (ρ y))(h:aF C tm I o.op=Z (x,σ')):dH P Γ I w o ρ x σ':=by
 cases j:o.op with
 |move y=>rw[j]at h;simp only[aF,dQ,fc]at h;obtain⟨rfl,rfl⟩:=h;exact YQ l g y (.inl j)
 |assign y=>rw[j]at h;simp only[aF,dQ,fc]at h;obtain⟨rfl,rfl⟩:=h;exact YQ l g y (.inr j)
 |pick c a b=>exact qqQ l g c a b j h
 |alloc e=>exact qpB p l e j h
 |box e y=>exact qrx l g e y j h
 |build t ps=>exact qo2 p l g t ps j h
 |buildSlice t n ps=>exact qjm p l g t n ps j h
 |load t y=>exact qqm p l g t y j h
 |store t y z=>exact qoI p l g t y z j h
 |nilCheck y=>exact qrF l g y j h
 |binOp op t y z v=>exact qrH p l g op t y z v j h
 |unOp op t y=>exact qrV l g op t y j h
 |convert s t y=>exact qqt p l g s t y j h
 |makeFunc f A cs=>exact qr6 l g f A cs j h
 |slice t y lo u m=>
   exact qoo p l g t y lo u m j h
 |fieldAddr t y i=>exact qju p l g t y i j h
 |field t y i=>exact qpq p l g t y i j h
 |indexAddr t y i=>exact qku p l g t y i j h
 |index t y i=>exact qpx p l g t y i j h
 |extract y i=>exact qlv l g y i j h
 |makeSlice t y z=>exact qqf p l g t y z j h
 |makeMap t r=>exact ql7 p l t r j h
 |lookup t m k q=>exact qnv p l g t m k q j h
 |mapUpdate t m k y=>rw[j]at h;exact Vs p l g t m k y (.inl j) h
 |insert t m k y=>rw[j]at h;exact Vs p l g t m k y (.inr j) h
 |_=>rw[j]at h;simp only[aF]at h;cases h
def qme{k:TK}(h:AC k=O):k=.string:=by cases k<;>first|rfl|(simp[AC]at h)
def qmi{k:TK}(h:nN k=O):∃e s b z,k=.slice e s b z:=by
 cases k<;>first|exact⟨_,_,_,_,rfl⟩|(simp[nN]at h)
def qrK{d:TD}{t ty:aQ}{ts:aL aQ}(E:ts[0]?=Z t)(I:cz P t=Z d){y:AV}{u:aj}(A:Rep Γ y u){n:Nat}(h:mq d y=Z n):(Builtin.len_ ts ty #[u]).run P w=.ok (.int .i64 n) w:=by
 let⟨i,q,z,T,C,S,R,Q,N,M,B⟩:=en I;have x:AC d.k=O->q=.string:=λ h=>wY (by rw[B,qme h])
 have sl:nN d.k=O->∃e,q=.slice e:=λ h=>by
  let⟨e,s,b,z,D⟩:=qmi h;exact⟨e,(oF (by rw[B,D])).1⟩
 have j:∀e,q=.slice e->∀a m c,u=.slice a m c->(Builtin.len_ ts ty #[u]).run P w=.ok (.int .i64 m) w:=by
  intro e p a m c F;subst F;simp[Builtin.len_,E,underlying,C,p,goInt]
 cases A with
 |v y W=>
   simp only[mq]at h;split at h
   .next s l=>cases l;split at h<;>cases h;next g=>simp[Builtin.len_,E,underlying,C,x g,goInt,ql]
   .next l=>cases l;split at h<;>cases h;next g=>let⟨e,p⟩:=sl g;exact j e p _ _ _ rfl
   .next l=>cases l
   .next l=>cases l
   .cases h
 |sl k es f a m cap b o us G K H D hp L ha hm A=>
   simp only[mq]at h;split at h<;>cases h;next g=>let⟨e,p⟩:=sl g;rw[j e p _ _ _ rfl,G];rfl
 |rs r lo m ep f a cap A K H hl=>
   simp only[mq]at h;split at h<;>cases h;next g=>let⟨e,p⟩:=sl g;exact j e p _ _ _ rfl
 |_=>simp only[mq]at h;cases h
def qrb(l:Inv Γ I w){d:TD}{t ty:aQ}{ts:aL aQ}(p:ts[0]?=Z t)(m:cz P t=Z d){y:AV}{u:aj}(f:Rep Γ y u){n:Nat}(h:Jk d.k I y=Z n):(Builtin.len_ ts ty #[u]).run P w=.ok (.int .i64 n) w:=by
 let⟨i,v,z,E,e,D,C,B,A,x,c⟩:=en m;unfold Jk at h;split at h<;>try cases h
 next j=>split at h<;>cases h;next b G vs g=>obtain⟨rfl,o⟩:=Mh g;rw[j]at c;obtain⟨F,K,H,s,rfl,_⟩:=Of c;let⟨_,L,a,r,q,_⟩:=l.box b _ o;rw[(N8 f).1];simp[Builtin.len_,p,underlying,e,goInt,MapKept.run_getObj_map r,q]
def qr7(E:∀t d,C.ty t=Z d->cz P t=Z d)(m:Inv Γ I w){b:Builtin}{ts:aL aQ}{ty:aQ}{cs:aL Bool}{l:aa AV}{j:aa aj}(D:RepL Γ l j)(h:iv C I b ts l=Z (x,σ')):
  (∃v w' Γ',(builtin b ts ty cs j.toArray).run P w=.ok (.value v) w'/\Ext Γ w Γ' w'/\Inv Γ' (turn I σ') w'/\Rep Γ' x v)/\bN I (turn I σ'):=by
 unfold iv at h;split at h
 .rename_i y;obtain⟨u,r,rfl,i,f⟩:=D.uncons;rw[f.nil_inv];split at h<;>try cases h
  rename_i t B;split at h<;>try cases h
  rename_i d q;split at h
  .cases h;next n H=>exact⟨⟨_,w,Γ,by simp[builtin,Sem.run_bind',qrK B (E t d q) i H],.refl _ _,m,.v _ rfl⟩,.refl _⟩
  .split at h<;>cases h;next n H=>exact⟨⟨_,w,Γ,by simp[builtin,Sem.run_bind',qrb m B (E t d q) i H],.refl _ _,m,.v _ rfl⟩,.refl _⟩
 .rename_i s y;obtain⟨u,r,rfl,p,f⟩:=D.uncons;obtain⟨Q,R,rfl,i,c⟩:=f.uncons;rw[c.nil_inv];split at h<;>try cases h
  rename_i t t' B A;split at h<;>try (cases h;done)
  .rename_i q1 q2 q3 q4 e k W z q5 q6 q7 q8 e' S b' z' q o;split at h<;>try cases h
   rename_i g;simp only[aJ,cH]at g;split at h<;>try cases h
   rename_i xs G;split at h<;>try cases h
   next T=>let⟨v,w',Γ',N,M,L,K⟩:=Vx (ty:=ty) E m p i B A q o g.1 g.2 G T h;refine⟨⟨v,w',Γ',by simp[builtin,Sem.run_bind',N],M,L,K⟩,?_⟩;exact Th h
  .rename_i q o;split at h<;>try (cases h;done)
   next b g=>simp only[aJ,cH]at g;have F:=ce i;subst F;let⟨v,w',Γ',N,M,L,K⟩:=qiC (ty:=ty) E m p B A q o g.1 h;refine⟨⟨v,w',Γ',by simp[builtin,Sem.run_bind',N],M,L,K⟩,?_⟩;exact Th h
 .next k a S b=>obtain⟨u,r,rfl,p,f⟩:=D.uncons;obtain⟨Q,R,rfl,i,c⟩:=f.uncons;rw[c.nil_inv,ce p,ce i];split at h<;>cases h;next g=>have g:=bG g;subst g;exact⟨⟨_,w,Γ,by simp[builtin,Sem.run_bind',Builtin.max_,Builtin.max2,pb],.refl _ _,m,.v _ rfl⟩,.refl _⟩
 .next k a S b=>obtain⟨u,r,rfl,p,f⟩:=D.uncons;obtain⟨Q,R,rfl,i,c⟩:=f.uncons;rw[c.nil_inv,ce p,ce i];split at h<;>cases h;next g=>have g:=bG g;subst g;exact⟨⟨_,w,Γ,by simp[builtin,Sem.run_bind',Builtin.min_,Builtin.min2,OT],.refl _ _,m,.v _ rfl⟩,.refl _⟩
 .cases h
end
end
section
open RowKit
def jB(P:aZ)(Γ:Gh)(I:St)(w:aA)(f:cI)(a:aa aj)(r:AV×ab St):Prop:=
 Calls P f a.toArray w λ e w'=>∃v Γ',e=.returned v/\Ext Γ w Γ' w'/\Inv Γ' (turn I r.2) w'/\Rep Γ' r.1 v/\bN {I with wr:=[],wrr:=[]} (turn {I with wr:=[],wrr:=[]} r.2)
def jL(P:aZ)(f:cI):Prop:=∃fn,P.funcs[f]?=Z fn/\fn.body.isNone=Y/\(fn.name=="runtime.NumGoroutine")=Y
def cp(P:aZ)(f:cI)(p:St->aa AV->ab (AV×ab St)):Prop:=
 jL P f/\∀Γ I w b a r,Inv Γ I w->RepL Γ b a->p I b=Z r->jB P Γ I w f a r
structure cZ (P:aZ) (C:Cfg):Prop where
 mixed:P.follows .mixedOrders=O
 ty:∀t d,C.ty t=Z d->cz P t=Z d
 fn:∀f fn,C.fn f=Z fn->P.funcs[f]?=Z fn/\(fn.name=="runtime.NumGoroutine")=Y/\∀c,fn.body=Z c->iy c=O
 prim:∀f p,C.prim f=Z p->cp P f p
 inl:∀f fn,C.inl f=Z fn->P.funcs[f]?=Z fn/\(fn.name=="runtime.NumGoroutine")=Y/\∀c,fn.body=Z c->iy c=O
def KH{P:aZ}{f:cI}(h:jL P f)(a:aL aj)(w:aA):(callFunc f a).run P w=.ok (.enter f a) w:=by
 let⟨fn,e,d,c⟩:=h;have b:(program).run P w=.ok P w:=rfl;unfold callFunc;simp only[Sem.run_bind,b,Result.andThen_ok,e,c,d,yI,yJ];rfl
abbrev ck(Γ:Gh)(tm:aa AV)(a:Act):Prop:=RepL Γ tm (V a.tmps)
theorem ck.get{Γ:Gh}{tm:aa AV}{a:Act}(h:ck Γ tm a)(t:Nat):Rep Γ (tm.getD t .dead) (a.tmps.getD t undef):=by
 rw[dz];cases b:tm[t]? with
 |none=>exact .dead _
 |some x=>
   let⟨u,c,d⟩:=RepL.get h b;simp_all
def qrp(Γ:Gh)(y:aj):Rep Γ (ofC y) y:=by
 unfold ofC;split
 .next h=>exact .v y h
 .exact .dead _
def qkO(Γ:Gh)(y:aj):Rep Γ (Ie y) y:=by
 unfold Ie;split
 .rename_i cs;split
  .next h=>let⟨a,b⟩:=uz (Γ:=Γ) h;have:=Rep.agg (Γ:=Γ) (cs.toList.map .v) (V cs) a.len b a.rep;simpa using this
  .exact .dead _
 .rename_i vs;split
  .rename_i h;have:vs = #[]:=by rw[<-Qy (xs:=vs),h]
   subst this;exact .tup [] [] rfl λ i x u h=>by simp at h
  .exact .dead _
 .exact qrp Γ _
def ck.ev{Γ:Gh}{tm:aa AV}{a:Act}(h:ck Γ tm a)(y:bw):Rep Γ (aev tm y) (a.eval y):=by
 cases y with
 |tmp t=>exact h.get t
 |const x=>exact qkO Γ x
 |func f=>exact .fn f [] [] rfl λ i x u h=>by simp at h
 |global g=>exact .dead _
def ck.put{Γ:Gh}{tm:aa AV}{a:Act}(h:ck Γ tm a)(d:ab Tmp){x:AV}{u:aj}(b:Rep Γ x u):ck Γ (hS tm d x) (a.put d u):=by
 cases d with
 |none=>exact h
 |some d=>
   show RepL Γ (tm.set d x) (V (a.tmps.setIfInBounds d u));grind [Array.toList_setIfInBounds,RepL.set]
section
variable {P:aZ}{C:Cfg}{Γ:Gh}{I:St}{w:aA}
def F5(G:∀t d,C.ty t=Z d->cz P t=Z d)(E:Inv Γ I w){fn:Func}{tm:aa AV}{a:Act}(o:ck Γ tm a){r:AV}(h:nI C fn ⟨tm,I⟩=Z r):∃v,(results fn a.tmps).run P w=.ok v w/\Rep Γ r v:=by
 have j:∀(c:aa ResultVar) (l:aa AV),jz C tm I c=Z l->∃vs:aa aj,(c.mapM (λ(x:ResultVar)=>(match x with
   |.tmp t=>pure (a.tmps.getD t undef)
   |.cell b t=>do loadVar t (<-asAddr (a.tmps.getD b undef)):Sem aj))).run P w=.ok vs w/\RepL Γ l vs:=by
  intro c
  induction c with
  |nil=>intro l h;simp only[jz,dQ]at h;subst h;exact⟨[],by simp,.nil⟩
  |cons x c B=>
    intro l h;simp only[jz]at h;split at h<;>try cases h
    rename_i y e;split at h<;>cases h;rename_i ys k;let⟨vs,n,f⟩:=B ys k;have i:∃v,(match x with
    |.tmp t=>pure (a.tmps.getD t undef)
    |.cell b t=>do loadVar t (<-asAddr (a.tmps.getD b undef)):Sem aj).run P w=.ok v w/\Rep Γ y v:=by
      cases x with
      |tmp t=>simp only[xy,dQ]at e;subst e;exact⟨_,rfl,o.get t⟩
      |cell b t=>
        simp only[xy]at e;split at e<;>try cases e
        next d F=>let⟨v,A,z,s,q⟩:=Yz E (G t d F) (o.get b) e;refine⟨v,?_,q⟩;simp[Sem.run_bind',z,asAddr,s]
    let⟨v,e1,L⟩:=i;refine⟨v::vs,?_,.cons L f⟩;rw[List.mapM_cons];simp only[Sem.run_bind,e1,Result.andThen_ok,n];rfl
 simp only[nI]at h;split at h<;>cases h;rename_i l g;let⟨vs,n,f⟩:=j _ _ g;unfold results;rw[Array.mapM_eq_mapM_toList]
 have D:(List.toArray <$> (fn.results.toList.mapM (λ(x:ResultVar)=>(match x with
   |.tmp t=>pure (a.tmps.getD t undef)
   |.cell b t=>do loadVar t (<-asAddr (a.tmps.getD b undef)):Sem aj)))).run P w=.ok vs.toArray w:=by
  rw[Sem.run_map,n];rfl
 refine⟨if h:vs.toArray.size=1 then vs.toArray[0]else .tuple vs.toArray,?_,?_⟩
 .rw[Sem.run_bind];exact(bB (λ r=>Result.andThen r _) D).trans rfl
 .unfold cy;split
  .next y=>obtain⟨u,c,rfl,K,H⟩:=f.uncons;rw[H.nil_inv];simpa using K
  .rename_i m
   have:vs.toArray.size≠1:=by
    intro p;have g:=f.len;simp only[ic]at p;rw[p]at g
    match l,g with
    |[y],_=>exact m y rfl
   rw[dif_neg this];exact .tup _ _ f.len f.rep
def Ex.toExit:Ex->Exit
 |.normal=>.normal
 |.exit id=>.exit id
 |.ret=>.ret
def lU(P:aZ)(ex:dL):Prop:=
 ∀c s e b,iy c=O->ex c s=Z (e,b)->∀Γ w a,Inv Γ s.I w->ck Γ s.tm a->a.defers=[]->
  c.wp P (λ f d w'=>f=e.toExit/\d.defers=[]/\∃Γ',Ext Γ w Γ' w'/\Inv Γ' b.I w'/\ck Γ' b.tm d/\bN s.I b.I) a w
def zx(Γ:Gh):∀n:Nat,RepL Γ (List.replicate n .dead) (List.replicate n undef)
 |0=>.nil
 |n+1=>.cons (.dead _) (zx Γ n)
theorem WL(d:cZ P C){ex:dL}{f:cI}{a:aa AV}{r:AV×ab St}(h:jf C ex I f a=Z r):jL P f:=by
 unfold jf at h;split at h
 .next p e=>exact(d.prim f p e).1
 .split at h<;>try cases h
  rename_i fn b;split at h<;>try cases h
  next c g=>let⟨j,i,_⟩:=d.fn f fn b;exact⟨fn,j,by rw[g];rfl,i⟩
def VX(t:cZ P C){ex:dL}(E:lU P ex){f:cI}{b:aa AV}{a:aa aj}{r:AV×ab St}(o:Inv Γ I w)(l:RepL Γ b a)(h:jf C ex I f b=Z r):jB P Γ I w f a r:=by
 unfold jf at h;split at h
 .next p G=>exact(t.prim f p G).2 Γ I w b a r o l h
 .split at h<;>try cases h
  rename_i fn q;split at h<;>try cases h
  rename_i c x;let⟨M,S,L⟩:=t.fn f fn q
  have T:∀e d,ex c (pZ fn I b)=Z (e,d)->(e=.ret\/e=.normal)->rt C fn I d=Z r->jB P Γ I w f a r:=by
   intro e d H s m;unfold jB;apply calls_of_wp M x;have n:Inv Γ (pZ fn I b).I w:=o.wr rfl rfl
   have F:ck Γ (pZ fn I b).tm {tmps:=a.toArray++Array.replicate (fn.ntmps-a.toArray.size) undef,defers:=[]}:=by
    show RepL Γ (b++List.replicate (fn.ntmps-X b) .dead) (V (a.toArray++Array.replicate (fn.ntmps-a.toArray.size) undef));rw[yL,yM];have:a.toArray.size=X b:=by simpa using l.len
    rw[this];exact l.append (zx Γ _)
   apply wp_mono (E c _ e d (L c x) H Γ w _ n F rfl);rintro W z w' ⟨rfl,K,Γ',R,y,Q,N⟩;unfold rt at m;split at m<;>cases m;rename_i j k;let⟨v,D,B⟩:=F5 t.ty y Q k;let⟨⟨i,u1,u2,u3⟩,u4⟩:=Za o R y N B
   have:z.defers=[]/\∃v,(results fn z.tmps).run P w'=.ok v w'/\∃g Γ',Ending.returned v=.returned g/\Ext Γ w Γ' w'/\Inv Γ' (turn I (mT I j d.I).2) w'/\Rep Γ' (mT I j d.I).1 g/\bN {I with wr:=[],wrr:=[]} (turn {I with wr:=[],wrr:=[]} (mT I j d.I).2):=
    ⟨K,v,D,v,i,rfl,u1,u2,u3,u4⟩
   obtain rfl|rfl:=s
   .exact this
   .exact this
  grind
def rA(P:aZ)(Γ:Gh)(I:St)(w:aA)(f:cI)(a:aa aj)(r:AV×ab St):Prop:=
 Calls P f a.toArray w λ e w'=>∃v Γ',e=.returned v/\Ext Γ w Γ' w'/\Inv Γ' (turn I r.2) w'/\Rep Γ' r.1 v/\bN I (turn I r.2)
def Nk{f e:aa Nat}(g:mg I f e):∀{a:aa AV}{c:aa aj},RepL Γ a c->(∀b∈rbL a,b∈f)->(∀r∈rrL a,r∈e)->RepL (gH Γ f e) (bt (λ b=>f.idxOf b) (λ r=>e.idxOf r) a) c
 |[],c,h,_,_=>by rw[h.nil_inv];exact .nil
 |x::a,c,h,j,i=>by
   obtain⟨u,us,rfl,l,k⟩:=h.uncons;exact .cons (H2 g l (λ b d=>j b (by simp[rbL,d])) λ r d=>i r (by simp[rrL,d])) (Nk g k (λ b d=>j b (by simp[rbL,d])) λ r d=>i r (by simp[rrL,d]))
theorem Nj{f:cI}{a:aa AV}{c:aa aj}{i:St->aa AV->ab (AV×ab St)}(z:∀Γ I a r,Inv Γ I w->RepL Γ a c->i I a=Z r->jB P Γ I w f c r)
  {r:AV×ab St} (g:Inv Γ I w) (x:RepL Γ a c) (h:fJ I a i=Z r):rA P Γ I w f c r:=by
 unfold fJ at h;split at h<;>try cases h
 rename_i m;let⟨d,o,n⟩:=Zu m;split at h<;>cases h;rename_i r j;apply (z _ _ _ _ (Yo d g) (Nk d x o n) j).mono;rintro e w' ⟨v,t,q,k,p,l,y⟩;have b:=G9 d g k l;rw[g.nb,g.nr]at b;let⟨B,u⟩:=r;cases u with
 |none=>
   refine⟨v,_,q,Wq d g k,?_,b,.refl _⟩;have o:=V9 d g k p;let⟨e1,A⟩:=Wl d;exact o.wr e1.symm A.symm
 |some s=>exact⟨v,_,q,Wq d g k,V9 d g k p,b,qlV d y⟩
def rA.after{f:cI}{a:aa aj}{b:Gh}{σ1:St}{r:AV×ab St}(h:rA P b σ1 w f a r)(c:Ext Γ w b w)(d:bN I σ1):rA P Γ I w f a (match r with|(x,U)=>(x,Z σ1)|r=>r):=by
 apply Calls.mono h;rintro e w' ⟨v,Γ',g,l,k,j,i⟩;let⟨o,n⟩:=r;cases n with
 |none|some m=>exact⟨v,Γ',g,c.trans l,k,j,d.trans i⟩
def MZ(f:Inv Γ I w){m:Nat->Nat->ab aj}(e:Le Γ {Γ with mem:=m}):∀{b:aa AV}{a:aa aj},(∀r∈b.flatMap rsA,∀R,I.rw[r]?=Z R->gF {Γ with mem:=m} r R)->RepL Γ b a->RepL {Γ with mem:=m} (b.map (cE I.rw)) a
 |[],a,_,h=>by rw[h.nil_inv];exact .nil
 |x::b,a,g,h=>by
   obtain⟨u,us,rfl,j,i⟩:=h.uncons;exact .cons (NQ f e (λ r d=>g r (by simp[d])) j) (MZ f e (λ r d=>g r (by simp only[sn,aR];exact .inr d)) i)
def qoY{Γ Γ':Gh}{x:AV}{u:aj}(h:rD x=O)(a:Rep Γ x u):Rep Γ' x u:=by
 cases a with
 |v _ f=>exact .v _ f
 |tup cs us e a=>
   refine .tup cs us e λ i x u b c=>?_;have d:isV x=O:=(bz.1 h) x (aK b);have:=a i x u b c;cases x with
   |v y=>have:=ce this;subst this;exact .v _ (by have:=a i _ _ b c;cases this;assumption)
   |_=>cases d
 |_=>cases h
def qqr{a:aa AV}(d:rbL a=[])(c:rrL a=[]):dY I a=[]/\hU I a=[]:=by
 have b:dY I a=[]:=by
  unfold dY;rw[d];show xL I.bx (X I.bx) []=[];cases X I.bx with
  |zero|succ n=>rfl
 refine⟨b,?_⟩;unfold hU;rw[b,c];rfl
theorem qlK{f:cI}{a:aa AV}{g:aa aj}{k:St->aa AV->ab (AV×ab St)}(H:∀Γ I a r,Inv Γ I w->RepL Γ a g->k I a=Z r->jB P Γ I w f g r)
  {x:AV}{l:Gh}{σ0:St} (M:Inv l σ0 w) (m:Inv Γ I w) (E:RepL Γ a g) (h:fJ I a k=Z (x,U)) (L:rbL a=[]) (K:rrL a=[]) (D:rD x=O):rA P l σ0 w f g (x,U):=by
 let⟨p,o⟩:=qqr (I:=I) L K;unfold fJ at h;split at h<;>try cases h
 rename_i y;let⟨t,A,z⟩:=Zu y;split at h<;>try cases h
 rename_i r n;have j:=jp h;rw[p,o]at t;refine(H _ _ _ _ (Yo (by rw[p,o];exact t) m) (Nk (by rw[p,o];exact t) E A z) n).mono ?_;rintro e w' ⟨v,B,G,c,R,q,Q⟩;rw[p,o]at c;have d:=G9 t m c q;rw[m.nb,m.nr]at d
 have u:x=ren (cJ [] (X I.bx)) (cJ [] (X I.rw)) r.1:=by
  rw[p,o]at j;let⟨N,C⟩:=r;cases C<;>cases j;rfl
 rw[<-u]at d
 have s:Below w.heap.size w w':=⟨c.os,c.tape,c.output,c.size,λ b A=>c.block b A λ F=>by
  obtain⟨i,m,_⟩|⟨i,m,_⟩:=F<;>exact absurd m (eY _)⟩
 exact⟨v,l,G,xa s c.drawn,M.later s,qoY D d,.refl _⟩
def LS{C:Cfg}{ex:dL}{I:St}{f:Nat}{a:aa AV}{r:AV×ab St}(h:mU C ex I f a=Z r):(∃fn,C.inl f=Z fn/\yr C ex I fn a=Z r)\/mS C ex I f a=Z r:=by
 grind [mU]
def Wd{C:Cfg}{ex:dL}{I:St}{fn:Func}{a:aa AV}{r:AV×ab St}(h:yr C ex I fn a=Z r):∃c e b x,fn.body=Z c/\ex c ⟨a++List.replicate (fn.ntmps-X a) .dead,I⟩=Z (e,b)/\(e=.ret\/e=.normal)/\nI C fn b=Z x/\r=(x,Z b.I):=by
 unfold yr at h;split at h<;>try cases h
 rename_i c j;split at h<;>try cases h
 rename_i e b d g;split at h<;>cases h;rename_i x f;refine⟨c,e,b,x,j,g,?_,f,rfl⟩;cases e with
 |normal=>exact .inr rfl
 |ret=>exact .inl rfl
 |exit i=>exact(d i rfl).elim
def qp7(n:cZ P C){ex:dL}(t:lU P ex){f:cI}{fn:Func}(z:C.inl f=Z fn){b:aa AV}{a:aa aj}{r:AV×ab St}(y:Inv Γ I w)(l:RepL Γ b a)(h:yr C ex I fn b=Z r):rA P Γ I w f a r:=by
 obtain⟨c,e,g,x,m,A,j,i,rfl⟩:=Wd h;let⟨E,K,D⟩:=n.inl f fn z;unfold rA;apply calls_of_wp E m
 have u:ck Γ (b++List.replicate (fn.ntmps-X b) .dead) {tmps:=a.toArray++Array.replicate (fn.ntmps-a.toArray.size) undef,defers:=[]}:=by
  show RepL Γ (b++List.replicate (fn.ntmps-X b) .dead) (V (a.toArray++Array.replicate (fn.ntmps-a.toArray.size) undef));rw[yL,yM];have:a.toArray.size=X b:=by simpa using l.len
  rw[this];exact l.append (zx Γ _)
 apply wp_mono (t c _ e g (D c m) A Γ w _ y u rfl);rintro L p w' ⟨rfl,B,Γ',H,o,G,F⟩;let⟨v,s,q⟩:=F5 n.ty o G i
 have:p.defers=[]/\∃v,(results fn p.tmps).run P w'=.ok v w'/\∃d Γ',Ending.returned v=.returned d/\Ext Γ w Γ' w'/\Inv Γ' (turn I (x,Z g.I).2) w'/\Rep Γ' (x,Z g.I).1 d/\bN I (turn I (x,Z g.I).2):=
  ⟨B,v,s,v,Γ',rfl,H,o,q,F⟩
 obtain rfl|rfl:=j
 .exact this
 .exact this
def qmA(p:cZ P C){ex:dL}(k:lU P ex){f:cI}{a:aa AV}{b:aa aj}{r:AV×ab St}(i:Inv Γ I w)(g:RepL Γ a b)(h:mU C ex I f a=Z r):rA P Γ I w f b r:=by
 have n:∀Γ I a r,Inv Γ I w->RepL Γ a b->jf C ex I f a=Z r->jB P Γ I w f b r:=λ _ _ _ _=>VX p k;obtain⟨fn,z,h⟩|h:=LS h
 .exact qp7 p k z i g h
 unfold mS at h;unfold oO at h;cases e:C.raw f with
 |true=>
   grind [Nj]
 |false=>
   rw[e]at h;simp only at h;cases c:a.flatMap rsA with
   |nil=>
     rw[c]at h;exact Nj n i (MZ (m:=Γ.mem) i (Le.refl _) (by rw[c];intro r g;cases g) g) h
   |cons q l=>
     rw[c]at h;simp only[xQ]at h;let⟨m,j,v,u⟩:=pD (q::l) i ((q::l)++I.wrr);have A:=MZ i j.le (by rw[c];exact u) g;cases d:fJ {I with rw:=frz I.rw (q::l),wrr:=(q::l)++I.wrr} (a.map (cE I.rw)) (λ I a=>jf C ex I f a)with
     |none=>rw[d]at h;cases h
     |some t=>
       rw[d]at h;have:=(Nj n v A d).after (AS j w) (Me (q::l));let⟨x,o⟩:=t;cases o with
       |none=>
         simp only at h;split at h
         .next y=>cases h;simp only[aJ,pg]at y;grind [qlK]
         .cases h;exact this
       |some s=>cases h;exact this
theorem Ud{c:aa AV}{a:St->aa AV->ab (AV×ab St)}{r:AV×ab St}(h:fJ I c a=Z r):∃σ' b d,a σ' b=Z d:=by
 grind [fJ]
def qnJ(d:cZ P C){ex:dL}{f:cI}{a:aa AV}{r:AV×ab St}(h:mU C ex I f a=Z r):jL P f:=by
 obtain⟨fn,e,h⟩|h:=LS h
 .let⟨c,_,_,_,g,_⟩:=Wd h;let⟨j,i,_⟩:=d.inl f fn e;exact⟨fn,j,by rw[g];rfl,i⟩
 unfold mS at h;split at h
 .grind [Ud,WL]
 .rename_i σ' _;cases b:fJ σ' _ (λ I a=>jf C ex I f a)with
  |none=>rw[b]at h;cases h
  |some l=>let⟨_,_,_,k⟩:=Ud b;exact WL d k
def Ow(n:cZ P C){ex:dL}(E:lU P ex){tm:aa AV}{a:Act}{o:Oper}{x:AV}{σ':ab St}(t:Inv Γ I w)(p:ck Γ tm a)(h:opA C ex tm I o.op=Z (x,σ')):qak P Γ I w o a x σ':=by
 by_cases j:∃c,o.op=.call c
 .let⟨c,r⟩:=j;rw[r]at h;have d:RepL Γ (c.args.toList.map (aev tm)) (c.args.toList.map a.eval):=MT p.ev _;simp only[opA]at h;split at h
  .rename_i b L;let⟨⟨v,w',Γ',B,R,N,M⟩,G⟩:=qr7 (P:=P) (ty:=o.type) (cs:=c.args.map λ|.const _=>O|_=>Y) n.ty t d h;refine dH.wp ⟨_,v,w',Γ',?_,.inl rfl,R,N,M⟩ G;have e:(c.args.toList.map a.eval).toArray=c.args.map a.eval:=by rw[<-BN]
   rw[e]at B;unfold execOp;rw[r];simp only[resolve,L,Sem.run_bind];exact B
  .split at h<;>try cases h
   rename_i f i m
   have z:∃g,c.callee=.value g/\aev tm g=.fn f i:=by
    unfold rf at m;grind
   let⟨g,H,K⟩:=z;have l:=K▸p.ev g;generalize u:a.eval g=S at l;cases l with
   |fn f i us F q=>
     have y:=qnJ n h;have A:=qmA n E t (d.append (RepL.mk F q)) h;intro next Q s
     unfold Oper.wp
     have k:(execOp a.eval o).run P w=.ok (.enter f ((c.args.toList.map a.eval++us).toArray)) w:=by
      unfold execOp;rw[r];simp only[resolve,H,u,Deferred.ofValue,Sem.run_bind]
      have e:c.args.map a.eval++us.toArray=(c.args.toList.map a.eval++us).toArray:=by
       rw[<-BN];simp
      rw[<-e,Array.empty_append];exact KH y _ w
     rw[k,Oper.upon_enter];apply Calls.mono A;grind
 .have D:aF C tm I o.op=Z (x,σ'):=by
    simp_all [opA]
  exact(qr4 n.ty t p.ev D).wp (qln D)
end
end
section
open RowKit
section
variable {P:aZ}{C:Cfg}{Γ:Gh}{I:St}{w:aA}{ops:aL Oper}
def uO{tm:aa AV}{a:Act}{o:Oper}{b:Bool}(m:ck Γ tm a)(h:cT ops tm o=Z b):Region.wanted o (yielded ops a.tmps)=b:=by
 unfold cT at h;unfold Region.wanted;split at h
 .next f=>cases h;rw[f]
 .rename_i j i f;rw[f];simp only;split at h<;>try cases h
  rename_i d p;have e:=m.get d;unfold yielded;rw[p];simp only[Option.bind_some];split at h
  .rename_i c g;cases h;rw[g]at e;have:=ce e;rw[kM]at this;cases k:a.tmps[d]? with
   |none=>rw[k]at this;cases this
   |some v=>rw[k]at this;cases this;simp[dj]
  .rename_i g;cases h;rw[g]at e;generalize l:a.tmps.getD d undef=u at e;cases e with
   |tup cs us q n=>
     rw[kM]at l;grind
  .cases h
def NZ(t:cZ P C){ex:dL}(q:lU P ex){d:Bool}{Q:Exit->Act->aA->Prop}{g:S}:∀(b:aa Oper) (i:Nat) (s:S) (Γ:Gh) (w:aA) (a:Act),(∀j,b[j]?=ops[i+j]?)->cS C ex ops d b s=Z g->Inv Γ s.I w->ck Γ s.tm a->
  (∀Γ' w' E,Ext Γ w Γ' w'->Inv Γ' g.I w'->ck Γ' g.tm E->bN s.I g.I->E.defers=a.defers->Q .normal E w')->wpOps P ops Q (List.range' i (X b)) a w
 |[],i,s,Γ,w,a,_,h,n,f,m=>by
   simp only[cS,dQ]at h;subst h;exact m Γ w a (.refl _ _) n f (.refl _) rfl
 |o::b,i,s,Γ,w,a,F,h,n,f,m=>by
   have H:ops[i]?=Z o:=by simpa using(F 0).symm
   have l:∀j,b[j]?=ops[i+1+j]?:=λ j=>by have:=F (j+1);simpa[eI,qbZ 1 j]using this
   simp only[bE,List.range'_succ,wpOps,H]
   have G:∀x σ',opA C ex s.tm s.I o.op=Z (x,σ')->cS C ex ops d b ⟨hS s.tm o.dst x,turn s.I σ'⟩=Z g->o.wp P a w (wpOps P ops Q (List.range' (i+1) (X b))) Q:=by
    intro x σ' c k;apply Ow t q n f c _ _;intro u w' Γ' e1 M L K;apply NZ t q b (i+1) _ Γ' w' _ l k M (ck.put (JI e1.le f) o.dst L);intro e p D B A z y v;exact m e p D (e1.trans B) A z (K.trans y) (by rw[v];cases I:o.dst<;>rfl)
   simp only[cS]at h;split at h
   .rename_i r;rw[af (uO f r)];left;split at h
    .next x c=>exact G x U c h
    .rename_i x σ' c;split at h
     .cases h
     .exact G x (Z σ') c h
    .cases h
   .next r=>rw[ae (by rw[uO f r];exact lD)];apply NZ t q b (i+1) _ Γ w _ l h n (ck.put f o.dst (.tup [] [] rfl λ i x u h=>by simp at h));intro e p D B A z y v;exact m e p D B A z y (by rw[v];cases I:o.dst<;>rfl)
   .cases h
end
end
section
open RowKit
section
variable {P:aZ}{C:Cfg}{Γ:Gh}{I:St}{w:aA}{ops:aL Oper}{ex:dL}
def mZ(C:Cfg)(ex:dL)(ops:aL Oper)(o:Oper)(s:S)(y:AV×ab St):Prop:=
 (cT ops s.tm o=Z O/\opA C ex s.tm s.I o.op=Z y)\/(cT ops s.tm o=Z Y/\y=(xK,U))
def bX(s:S)(o:Oper)(y:AV×ab St):S:=⟨hS s.tm o.dst y.1,turn s.I y.2⟩
def F(ops:aa Oper)(l:aa (AV×ab St))(s0:S)(L:Nat->Bool):Nat->S
 |0=>s0
 |k+1=>match ops[k]?,l[k]?,L k with
   |Z o,Z y,O=>bX (F ops l s0 L k) o y
   |_,_,_=>F ops l s0 L k
def aP:Nat->Bool:=λ _=>O
def ID(o:Oper)(a:aa Oper)(y:AV×ab St)(l:aa (AV×ab St))(s:S):∀k,F (o::a) (y::l) s aP (k+1)=F a l (bX s o y) aP k
 |0=>rfl
 |k+1=>by
   show(match(o::a)[k+1]?,(y::l)[k+1]?,aP (k+1)with
    |Z c,Z b,O=>bX (F (o::a) (y::l) s aP (k+1)) c b
    |_,_,_=>F (o::a) (y::l) s aP (k+1))=_
   rw[ID o a y l s k];simp only[qb0];rfl
def Au:∀(a:aa Oper) (s e:S),cS C ex ops O a s=Z e->∃l,X l=X a/\F a l s aP (X a)=e/\
  (∀i o,a[i]?=Z o->∃y,l[i]?=Z y/\mZ C ex ops o (F a l s aP i) y/\(y.2.isSome=O->cw C.lo o.op=O))/\
  ∀i o y,a[i]?=Z o->l[i]?=Z y->y.2.isSome=O->lR C ops (ops.size-(X a-i)) (F a l s aP i).tm (F a l s aP i).I o.op=O
 |[],s,e,h=>by
   simp only[cS,dQ]at h;exact⟨[],rfl,h,λ i o c=>by simp at c,λ i o y c=>by simp at c⟩
 |o::a,s,e,h=>by
   have m:∀y,mZ C ex ops o s y->(y.2.isSome=O->cw C.lo o.op=O/\lR C ops (ops.size-(X a+1)) s.tm s.I o.op=O)->cS C ex ops O a (bX s o y)=Z e->∃l,X l=X (o::a)/\F (o::a) l s aP (X (o::a))=e/\
     (∀i d,(o::a)[i]?=Z d->∃y,l[i]?=Z y/\mZ C ex ops d (F (o::a) l s aP i) y/\(y.2.isSome=O->cw C.lo d.op=O))/\
     ∀i d y,(o::a)[i]?=Z d->l[i]?=Z y->y.2.isSome=O->lR C ops (ops.size-(X (o::a)-i)) (F (o::a) l s aP i).tm (F (o::a) l s aP i).I d.op=O:=by
    intro y q b j;let⟨l,w,v,u,t⟩:=Au a _ e j;refine⟨y::l,by simp[w],?_,λ i d c=>?_,λ i d p c f n=>?_⟩
    .rw[bE,ID];exact v
    .cases i with
     |zero=>simp at c;subst c;exact⟨y,rfl,q,λ h=>(b h).1⟩
     |succ i=>
       rw[ID];simpa using u i d (by simpa using c)
    .cases i with
     |zero=>simp at c f;subst c;subst f;exact(b n).2
     |succ i=>
       rw[ID,bE,Nat.add_sub_add_right];exact t i d p (by simpa using c) (by simpa using f) n
   simp only[cS]at h;split at h
   .rename_i k;split at h
    .next x g=>exact m (x,U) (.inl ⟨k,g⟩) (by simp) h
    .rename_i x σ' g;split at h
     .cases h
     .next r=>exact m (x,Z σ') (.inl ⟨k,g⟩) (λ _=>by simpa using r) h
    .cases h
   .next k=>exact m (xK,U) (.inr ⟨k,rfl⟩) (by simp) h
   .cases h
def L4{tm tm':aa AV}{xs:aa bw}(h:∀t∈xs.filterMap (λ|.tmp t=>Z t|_=>U),tm.getD t .dead=tm'.getD t .dead):∀x∈xs,aev tm x=aev tm' x:=by
 intro x a;cases x with
 |tmp t=>exact h t (nD.2 ⟨_,a,rfl⟩)
 |_=>rfl
def xq{tm tm':aa AV}{op:Op}(h:∀x∈V op.operands,aev tm x=aev tm' x):opA C ex tm I op=opA C ex tm' I op:=by
 have d:∀ps:aL (Nat×bw),(∀x∈ps.toList.map (·.2),aev tm x=aev tm' x)->(ps.toList.map λ p=>(p.1,aev tm p.2))=ps.toList.map λ p=>(p.1,aev tm' p.2):=λ ps j=>
  ss λ p w=>by rw[j p.2 (bF.2 ⟨p,w,rfl⟩)]
 cases op with
 |call c=>
   have B:c.args.toList.map (aev tm)=c.args.toList.map (aev tm'):=ss λ x g=>h x (by
    simp only[Op.operands,Call.operands];cases c.callee<;>simp[g]<;>(right;simpa using g))
   simp only[opA,B];cases A:c.callee with
   |builtin b=>rfl
   |value f=>
     have z:aev tm f=aev tm' f:=h f (by simp[Op.operands,Call.operands,A]);simp only[rf,z]
   |invoke r n=>rfl
 |build t ps=>simp only[opA,aF,d ps (λ x g=>h x (by simpa[Op.operands]using g))]
 |buildSlice t n ps=>
   have j:=d ps (λ x g=>h x (by simpa[Op.operands]using g))
   have e1:(ps.toList.flatMap λ p=>rsA (aev tm p.2))=ps.toList.flatMap λ p=>rsA (aev tm' p.2):=by
    have:=bB (λ l=>List.flatMap (λ p:Nat×AV=>rsA p.2) l) j;simpa[JA]using this
   have G:(ps.toList.map λ p=>(cellsOf (aev tm p.2)).map (bC I.rw))=ps.toList.map λ p=>(cellsOf (aev tm' p.2)).map (bC I.rw):=by
    have:=bB (λ l=>List.map (λ p:Nat×AV=>(cellsOf p.2).map (bC I.rw)) l) j;simpa[jQ,Function.comp]using this
   simp only[opA,aF,j,e1,G]
 |makeFunc f H cs=>
   have v:cs.toList.map (aev tm)=cs.toList.map (aev tm'):=ss λ x g=>h x (by simp only[Op.operands,yL,aR];exact .inr g);cases f<;>simp only[opA,aF,v]
 |slice t x lo o m=>
   cases m with
   |some m=>simp[opA,aF]
   |none=>
     have F:aev tm x=aev tm' x:=h x (by simp[Op.operands])
     have E:lo.map (aev tm)=lo.map (aev tm'):=by
      cases lo with
      |none=>rfl
      |some y=>simp only[ny];rw[h y (by simp[Op.operands])]
     have D:o.map (aev tm)=o.map (aev tm'):=by
      cases o with
      |none=>rfl
      |some y=>simp only[ny];rw[h y (by simp[Op.operands])]
     simp only[opA,aF,F,E,D]
 |move x|assign x=>simp only[opA,aF,h x (by simp[Op.operands])]
 |pick c a b=>simp only[opA,aF,h c (by simp[Op.operands]),h a (by simp[Op.operands]),h b (by simp[Op.operands])]
 |box e x|load t x=>simp only[opA,aF,h x (by simp[Op.operands])]
 |store t x y|makeSlice t x y=>simp only[opA,aF,h x (by simp[Op.operands]),h y (by simp[Op.operands])]
 |nilCheck x=>simp only[opA,aF,h x (by simp[Op.operands])]
 |binOp op t x y u=>simp only[opA,aF,h x (by simp[Op.operands]),h y (by simp[Op.operands])]
 |unOp op t x|convert s t x|fieldAddr t x i|field t x i=>simp only[opA,aF,h x (by simp[Op.operands])]
 |indexAddr t x y|index t x y=>simp only[opA,aF,h x (by simp[Op.operands]),h y (by simp[Op.operands])]
 |extract x i=>simp only[opA,aF,h x (by simp[Op.operands])]
 |makeMap t r=>cases r<;>simp only[opA,aF]
 |lookup t m k q=>simp only[opA,aF,h m (by simp[Op.operands]),h k (by simp[Op.operands])]
 |mapUpdate t m k y|insert t m k y=>simp only[opA,aF,lQ,h m (by simp[Op.operands]),h k (by simp[Op.operands]),h y (by simp[Op.operands])]
 |_=>simp only[opA,aF]
def Gj{tm tm':aa AV}{o:Oper}(h:∀t∈looks ops o,tm.getD t .dead=tm'.getD t .dead):cT ops tm o=cT ops tm' o:=by
 grind [cT,looks]
theorem Vo{x:AV}(h:rsC x=[])(rw a:aa Row):bC a x=bC rw x:=by
 cases x<;>first|rfl|(cases h;done)
theorem LF{x:AV}(h:rsA x=[]):∀c∈cellsOf x,rsC c=[]:=by
 cases x with
 |agg cs=>exact λ c a=>qD.1 h c a
 |_=>intro c a;rw[cQ.1 a];exact h
def qk5{ps:aa (Nat×AV)}(h:∀p∈ps,rsA p.2=[])(k n:Nat)(rw a:aa Row):uQ k n a ps=uQ k n rw ps:=by
 unfold uQ;congr 1;rw[iX,bz,bz]
 have e:∀p∈ps.zipIdx,((cellsOf p.1.2).all λ x=>br (bC a x))=(cellsOf p.1.2).all λ x=>br (bC rw x):=λ p b=>by
  have c:p.1∈ps:=(qsg.1 b)|> λ h=>aK h
  rw[iX,bz,bz];grind [Vo,LF]
 grind
def Mz{tm:aa AV}{τ:St}{op:Op}{x:AV}(d:gS op=Y)(s:cw C.lo op=Y)(h:opA C ex tm I op=Z (x,U)):opA C ex tm τ op=Z (x,U):=by
 cases op with
 |call c=>
   let⟨w,A,z⟩:=c;cases w with
   |builtin b=>
     cases b<;>try (simp[gS]at d;done)
     all_goals
      simp only[opA]at h |-
      rw[<-h];generalize A.toList.map (aev tm)=g;unfold iv
      obtain _|⟨p,_|⟨q,_|⟨r,l⟩⟩⟩:=g<;>first
       |rfl
       |(cases p<;>first|rfl|(rename_i v;cases v<;>first|rfl|(cases q<;>first|rfl|(rename_i j;cases j<;>rfl))))
   |value f|invoke r n=>simp[gS]at d
 |load t x|store t x y=>simp[gS]at d
 |buildSlice t n ps=>
   simp only[opA,aF]at h |-
   split at h<;>try cases h
   rename_i D;split at h<;>try cases h
   rename_i i;split at h<;>cases h;rename_i u
   have o:∀p∈ps.toList.map (λ p=>(p.1,aev tm p.2)),rsA p.2=[]:=λ p i=>by
    grind [List.flatMap_eq_nil_iff]
   rw[qk5 o _ _ I.rw τ.rw,i];simp only[u];congr 3;grind [List.map_congr_left,Vo,LF,List.flatMap_eq_nil_iff]
 |indexAddr t x y|lookup t m k q|mapUpdate t m k y|insert t m k y=>simp[gS]at d
 |makeMap t r=>simp[cw]at s
 |convert a b y=>simp[gS]at d
 |slice t x lo B m=>
   cases m with
   |some m=>exact h
   |none=>
     simp only[opA,aF]at h;split at h
     .simp_all [opA,aF]
     .simp_all [opA,aF]
     .simp_all [opA,aF]
     .grind
     .cases h
 |alloc e=>
   simp only[opA,aF]at h;grind
 |box e y=>
   simp only[opA,aF]at h;grind
 |makeFunc f E cs=>cases f<;>exact h
 |makeSlice t a b=>
   simp only[opA,aF]at h |-
   split at h<;>try cases h
   split at h<;>try cases h
   grind
 |_=>exact h
end
end
section
open RowKit
theorem U3: ∀r a,∃t,fH r a=a++t
 |[],a=>⟨[],by simp[fH]⟩
 |o::r,a=>by
   let⟨t,b⟩:=U3 r (a++[A2 a o]);grind [fH]
theorem UL: ∀r a k o,r[k]?=Z o->(fH r a).getD (X a+k) 0=A2 ((fH r a).take (X a+k)) o
 |[],a,k,o,h=>by simp at h
 |q::r,a,0,o,h=>by
   let⟨t,b⟩:=U3 r (a++[A2 a q]);grind [fH]
 |q::r,a,k+1,o,h=>by
   rw[fH];have:=UL r (a++[A2 a q]) k o (by grind);grind
theorem Ww(a:aa Nat)(j):∀(xs:aa Nat) m,(xs.foldl (λ m e=>m|||(2^e|||a.getD e 0)) m).testBit j=O->m.testBit j=O\/∃e∈xs,e=j\/(a.getD e 0).testBit j=O
 |[],m,h=>.inl h
 |e::xs,m,h=>by
   obtain h|⟨c,b,h⟩:=Ww a j xs _ h
   .grind
   .grind
theorem qoy{ops i j o}(ho:ops[i]?=Z o)(h:((fH ops []).getD i 0).testBit j=O):∃e∈cY o,e=j\/(e<i/\((fH ops []).getD e 0).testBit j=O):=by
 have a:=UL ops [] i o ho;simp only[eJ,bS]at a;rw[a]at h;obtain h|⟨e,b,h⟩:=Ww _ _ _ _ h
 .simp at h
 .grind
section
variable {P:aZ}{C:Cfg}{Γ:Gh}{I:St}{w:aA}{ops:aL Oper}{ex:dL}{l:aa (AV×ab St)}{s0:S}{L:Nat->Bool}
def gp(ops:aL Oper)(L:Nat->Bool):Prop:=∀i o,ops[i]?=Z o->L i=O->∀e∈cY o,L e=O
theorem oR(hd:gp ops L){j}:∀i o,ops[i]?=Z o->(∀e∈cY o,L e=O)->((fH (V ops) []).getD i 0).testBit j=O->L j=O:=by
 intro i
 induction i using Nat.strongRecOn with
 |_ i f=>
   intro o ho hp g;obtain⟨e,d,h⟩:=qoy (by simpa using ho) g;rcases h with rfl|⟨b,c⟩
   .exact hp _ d
   .have a:=Nat.lt_trans b (eC.1 ho).1;exact f e b ops[e] (gz a) (hd e _ (gz a) (hp e d)) c
theorem FS{raw tm}(h:lc raw tm ops=O):(∀j o,ops[j]?=Z o->∀e∈cY o,e<j)/\
  ∀i j o q,ops[j]?=Z o->ops[i]?=Z q->i≠j->nu raw tm ops j o i q=O->((fH (V ops) []).getD (max i j) 0).testBit (min i j)=O:=by
 have a:∀i o,ops[i]?=Z o->(o,i)∈ops.toList.zipIdx:=λ i o ho=>by
  grind
 grind [lc]
theorem Nn(hd:gp ops L){i j o q}(ho:ops[j]?=Z o)(d:ops[i]?=Z q)(f:i≠j)(a:((fH (V ops) []).getD (max i j) 0).testBit (min i j)=O)(hL:L j=Y)(hp:∀e∈cY o,L e=O):(i<j->L i=O)/\(j<i->L i=Y):=by
 constructor
 .grind [Nat.max_eq_right,Nat.le_of_lt,Nat.min_eq_left,oR]
 .intro b;rw[Nat.max_eq_left (ph b),Nat.min_eq_right (ph b)]at a;cases c:L i with
  |false=>rfl
  |true=>
    have:=oR hd i q d (hd i q d c) a;rw[hL]at this;cases this
theorem ord{raw tm}(hk:lc raw tm ops=O)(hd:gp ops L){i j o q}(ho:ops[j]?=Z o)(b:ops[i]?=Z q)(a:i≠j)(c:nu raw tm ops j o i q=O)(hL:L j=Y)(hp:∀e∈cY o,L e=O):(i<j->L i=O)/\(j<i->L i=Y):=by
 exact Nn hd ho b a ((FS hk).2 i j o q ho b a c) hL hp
structure mW (C:Cfg) (ex:dL) (ops:Array Oper) (l:List (AV×Option St)) (s0:S):Prop where
 st:∀(i:Nat) (o:Oper),ops[i]?=Z o->∃y,l[i]?=Z y/\mZ C ex ops o (F ops.toList l s0 aP i) y/\(y.2.isSome=O->cw C.lo o.op=O)
 sp:∀(i:Nat) (o:Oper) (y:AV×Option St),ops[i]?=Z o->l[i]?=Z y->y.2.isSome=O->lR C ops i (F ops.toList l s0 aP i).tm (F ops.toList l s0 aP i).I o.op=O
theorem L7(d:∀i o,ops.toList[i]?=Z o->∃y,l[i]?=Z y/\mZ C ex ops o (F (V ops) l s0 aP i) y/\(y.2.isSome=O->cw C.lo o.op=O))(c:∀i o y,ops.toList[i]?=Z o->l[i]?=Z y->y.2.isSome=O->lR C ops (ops.size-(X (V ops)-i)) (F (V ops) l s0 aP i).tm (F (V ops) l s0 aP i).I o.op=O):mW C ex ops l s0:=
 ⟨λ i o ho=>d i o (by grind),λ i o y ho a b=>by
  have:=c i o y (by grind) a b;have e:=(eC.1 ho).1
  rwa [ig,show ops.size-(ops.size-i)=i by omega]at this⟩
def vA(C:Cfg)(ops:aL Oper)(l:aa (AV×ab St)):Prop:=
 ∀(i:Nat) (o:Oper),ops[i]?=Z o->∃y,l[i]?=Z y/\(y.2.isSome=O->cw C.lo o.op=O)
theorem mW.recd(h:mW C ex ops l s0):vA C ops l:=λ i o ho=>let⟨y,h1,_,h3⟩:=h.st i o ho;⟨y,h1,h3⟩
theorem qY(s o y t)(h:o.dst≠Z t):(bX s o y).tm.getD t .dead=s.tm.getD t .dead:=by
 unfold bX;cases hd:o.dst with
 |none=>rfl
 |some d=>
   show(s.tm.set d y.1).getD t .dead=_;grind
theorem qpH(s o y):(bX s o y).tm.length=X s.tm:=by
 unfold bX;cases hd:o.dst with
 |none=>rfl
 |some d=>exact fw ..
theorem HV(s o y t)(h:o.dst=Z t):(bX s o y).tm.getD t .dead=if t<X s.tm then y.1 else .dead:=by
 unfold bX;rw[h];show(s.tm.set t y.1).getD t .dead=_;grind
theorem putS_σ(s o y)(h:y.2=U):(bX s o y).I=s.I:=by
 unfold bX;rw[h];rfl
theorem qmx(s o q y z)(hd:∀d,q.dst=Z d->o.dst≠Z d)(a:y.2=U\/z.2=U):bX (bX s o y) q z=bX (bX s q z) o y:=by
 unfold bX;congr 1
 .cases ho:o.dst with
  |none=>rfl
  |some d=>
    cases b:q.dst with
    |none=>rfl
    |some e=>
      show(s.tm.set d y.1).set e z.1=(s.tm.set e z.1).set d y.1;grind [List.set_comm]
 .obtain h|h:=a
  .rw[h];rfl
  .rw[h];rfl
theorem iA(hT:vA C ops l){k q}(a:ops[k]?=Z q):∃y,l[k]?=Z y/\(y.2.isSome=O->cw C.lo q.op=O)/\∀L,F (V ops) l s0 L (k+1)=if L k=O then bX (F (V ops) l s0 L k) q y else F (V ops) l s0 L k:=by
 let⟨y,c,b⟩:=hT k q a;grind [F]
theorem yd(L):∀k,(F (V ops) l s0 L k).tm.length=X s0.tm
 |0=>rfl
 |k+1=>by
   simp[F];split
   .rw[qpH];exact yd L k
   .exact yd L k
theorem vg{L'}:∀k,(∀i,i<k->L i=L' i)->F (V ops) l s0 L k=F (V ops) l s0 L' k
 |0,_=>rfl
 |k+1,h=>by
   simp[F];rw[vg k λ i a=>h i (by omega),h k (by omega)]
theorem gD{k}(h:k<ops.size:=by omega):∃q,ops[k]?=Z q:=⟨ops[k],gz h⟩
theorem Ls{t}(h:oI (V ops) t=[]){k:Nat}{q}(b:ops[k]?=Z q):q.dst≠Z t:=by
 intro hd;have a:(q,k)∈ops.toList.zipIdx:=by grind
 have:(q,k)∈oI (V ops) t:=kJ.2 ⟨a,by simp[rH,hd]⟩;rw[h]at this;cases this
theorem TG{t o i}(h:oI (V ops) t=[(o,i)]):ops[i]?=Z o/\o.dst=Z t/\∀k q,ops[k]?=Z q->k≠i->q.dst≠Z t:=by
 have d:(o,i)∈oI (V ops) t:=by grind
 let⟨a,f⟩:=kJ.1 d;rw[qsg]at a;refine⟨by simpa using a,?_,λ k q e b hd=>?_⟩
 .grind [rH,Nat.eq_of_beq_eq_true]
 .have c:(q,k)∈ops.toList.zipIdx:=by grind
  have:(q,k)∈oI (V ops) t:=kJ.2 ⟨c,by simp[rH,hd]⟩;grind
theorem Ao(hT:vA C ops l){t a b}(h:∀k q,a<=k->ops[k]?=Z q->q.dst≠Z t):a<=b->b<=ops.size->(F (V ops) l s0 L b).tm.getD t .dead=(F (V ops) l s0 L a).tm.getD t .dead:=by
 intro f
 induction b with
 |zero=>
   grind
 |succ b i=>
   intro d;by_cases e:a=b+1
   .rw[e]
   .obtain⟨q,c⟩:=gD (ops:=ops) (k:=b) (by omega);obtain⟨y,_,_,g⟩:=iA hT c;rw[g];grind [qY]
theorem Hq(hT:mW C ex ops l s0){k t b}(hk:k<=ops.size)(h:er s0.tm ops k t=Z b):(∃ o,(F (V ops) l s0 aP k).tm.getD t .dead = .ptr b o)\/(F (V ops) l s0 aP k).tm.getD t .dead = .tup []\/(F (V ops) l s0 aP k).tm.getD t .dead = .dead:=by
 unfold er at h;split at h
 case h_2=>cases h
 rename_i u f;split at h<;>cases h;rename_i off E
 have s:∀ n k t,k<=ops.size->rG ops n k t=Z u->(∃ o,(F (V ops) l s0 aP k).tm.getD t .dead = .ptr b o)\/(F (V ops) l s0 aP k).tm.getD t .dead = .tup []\/(F (V ops) l s0 aP k).tm.getD t .dead = .dead:=by
  intro n
  induction n with
  | zero=>intro k t _ h;cases h
  | succ n B =>
    intro k t hk f;rw[rG]at f;split at f
    ·next v=>cases f;left;refine⟨off,?_⟩;rw[Ao hT.recd (λ k q _ w=>Ls v w) (aG _) hk];exact E
    ·rename_i o i v;obtain⟨ho,hd,g⟩:=TG v;split at f
     case h_2=>cases f
     rename_i p j r;have r:=bG r;have d:=B i p (by omega) f;rw[Ao hT.recd (a:=i+1) (λ k q D w=>g k q w (by omega)) (by omega) hk];obtain⟨y,H,c,_⟩:=hT.st i o ho;obtain⟨z,x,_,G⟩:=iA hT.recd ho;rw[H]at x;cases x;rw[G,af (show aP i=O from rfl),HV _ _ _ _ hd];split
     ·rcases c with⟨_,c⟩ | ⟨_,c⟩
      ·unfold OV at j;split at j<;>cases j
       ·rename_i e;rw[e]at c;simp[opA,aF]at c;split at c<;>try cases c
        split at c<;>try cases c
        split at c<;>try cases c
        have m:aev (F (V ops) l s0 aP i).tm (.tmp p)=(F (V ops) l s0 aP i).tm.getD p .dead:=rfl;rw[m]at c;rcases d with⟨A,d⟩ | d | d<;>rw[d]at c<;>cases c
        exact .inl ⟨_,rfl⟩
       ·next e=>rw[e]at c;cases c;exact d
       ·next e=>rw[e]at c;cases c;exact d
       ·rename_i e;rw[e]at c;simp[opA,aF]at c;have m:aev (F (V ops) l s0 aP i).tm (.tmp p)=(F (V ops) l s0 aP i).tm.getD p .dead:=rfl;rw[m]at c;rcases d with⟨A,d⟩ | d | d<;>rw[d]at c<;>cases c
        exact .inl ⟨_,rfl⟩
      ·rw[c];exact .inr (.inl rfl)
     ·exact .inr (.inr rfl)
    ·cases f
 exact s 6 k t hk f
theorem qoW(hT:mW C ex ops l s0){k i t b}(hk:k<=ops.size)(h:er s0.tm ops i t=Z b):er (F (V ops) l s0 aP k).tm ops i t=Z b:=by
 unfold er at h |-
 split at h
 case h_2=>cases h
 rename_i u e
 have a:∀ n i t,rG ops n i t=Z u->oI (V ops) u=[]:=by
  intro n
  induction n with
  | zero=>intro i t h;cases h
  | succ n c =>
    intro i t h;rw[rG]at h;split at h
    ·next d=>cases h;exact d
    ·split at h
     ·exact c _ _ h
     ·cases h
    ·cases h
 rw[Ao hT.recd (λ k q _ f=>Ls (a 6 i t e) f) (aG _) hk];exact h
theorem qo1(hT:mW C ex ops l s0){k t}(hk:k<=ops.size)(h:mX s0.tm ops k t=O):P2 ((F (V ops) l s0 aP k).tm.getD t .dead)=O\/(F (V ops) l s0 aP k).tm.getD t .dead = .tup []\/(F (V ops) l s0 aP k).tm.getD t .dead = .dead:=by
 unfold mX at h;split at h
 case h_2=>cases h
 rename_i u d
 have r:∀ n k t,k<=ops.size->rG ops n k t=Z u->P2 ((F (V ops) l s0 aP k).tm.getD t .dead)=O\/(F (V ops) l s0 aP k).tm.getD t .dead = .tup []\/(F (V ops) l s0 aP k).tm.getD t .dead = .dead:=by
  intro n
  induction n with
  | zero=>intro k t _ h;cases h
  | succ n A =>
    intro k t hk d;rw[rG]at d;split at d
    ·next s=>cases d;left;rw[Ao hT.recd (λ k q _ v=>Ls s v) (aG _) hk];exact h
    ·rename_i o i s;obtain⟨ho,hd,f⟩:=TG s;split at d
     case h_2=>cases d
     rename_i g j p;have p:=bG p;have c:=A i g (by omega) d;rw[Ao hT.recd (a:=i+1) (λ k q B v=>f k q v (by omega)) (by omega) hk];obtain⟨y,E,b,_⟩:=hT.st i o ho;obtain⟨z,x,_,D⟩:=iA hT.recd ho;rw[E]at x;cases x;rw[D,af (show aP i=O from rfl),HV _ _ _ _ hd];split
     ·rcases b with⟨_,b⟩ | ⟨_,b⟩
      ·unfold OV at j;split at j<;>cases j
       ·rename_i e;rw[e]at b;simp[opA,aF]at b;split at b<;>try cases b
        split at b<;>try cases b
        split at b<;>try cases b
        have m:aev (F (V ops) l s0 aP i).tm (.tmp g)=(F (V ops) l s0 aP i).tm.getD g .dead:=rfl;rw[m]at b;rcases c with c | c | c
        ·cases w:(F (V ops) l s0 aP i).tm.getD g .dead<;>rw[w]at c b<;>first | (cases c;done) | (cases b;exact .inl rfl)
        ·rw[c]at b;cases b
        ·rw[c]at b;cases b
       ·next e=>rw[e]at b;cases b;exact c
       ·next e=>rw[e]at b;cases b;exact c
       ·rename_i e;rw[e]at b;simp[opA,aF]at b;have m:aev (F (V ops) l s0 aP i).tm (.tmp g)=(F (V ops) l s0 aP i).tm.getD g .dead:=rfl;rw[m]at b;rcases c with c | c | c
        ·cases w:(F (V ops) l s0 aP i).tm.getD g .dead<;>rw[w]at c b<;>first | (cases c;done) | (cases b;exact .inl rfl)
        ·rw[c]at b;cases b
        ·rw[c]at b;cases b
      ·rw[b];exact .inr (.inl rfl)
     ·exact .inr (.inr rfl)
    ·cases d
 exact r 6 k t hk d
theorem SL{raw}{o:Oper}{t a}(h:o.op=.load t a):cw raw o.op=Y:=by rw[h];rfl
theorem Uv{tm j i o q}(b:cw C.lo q.op=O)(ho:∀t a,o.op=.load t (.tmp a)->er tm ops j a=U/\mX tm ops j a=Y):oN tm ops j o i q=Y:=by
 grind [oN,ru,Bool.or_eq_false_iff,SL]
theorem Ue{tm j i o q t a}(ho:o.op=.load t (.tmp a))(h:oN tm ops j o i q=O):(∃d c v x,q.op=.store d (.tmp c) v/\er tm ops i c=Z x/\((∃y,er tm ops j a=Z y/\x≠y)\/er tm ops j a=U/\mX tm ops j a=O))\/er tm ops j a≠U/\(∃as ts,q.op=.call ⟨.builtin .append,as,ts⟩)\/er tm ops j a≠U/\∃g as ts,q.op=.call ⟨.value g,as,ts⟩:=by
 unfold oN at h;rw[gO]at h;obtain h|h:=h
 .grind [ru]
 .unfold ru at h;split at h
  .rename_i p s m n r l b;rw[ho]at b;cases b;split at h
   .next x y f e=>exact .inl ⟨_,_,_,x,l,f,.inl ⟨y,e,λ k=>by rw[k]at h;simp at h⟩⟩
   .grind
   .cases h
  .grind
  .grind
  .cases h
theorem Ml{raw op}(h:cw raw op=O):rQ raw op=Y:=by
 unfold cw at h;unfold rQ;grind
theorem Vl{raw tm j i o q}(a:cw raw o.op=O)(c:cw raw q.op=O):nu raw tm ops j o i q=O:=by
 have b:oN tm ops j o i q=Y:=by
  grind [oN,ru,SL,Bool.or_eq_false_iff]
 simp only[nu,uZ,uV,a,c,Ml a,b,yN,BS,ow,BR]
theorem qjU{raw}(h:nO raw ops=O):∀i j o q,ops[j]?=Z o->ops[i]?=Z q->i≠j->ve raw ops o q=O->((fH (V ops) []).getD (max i j) 0).testBit (min i j)=O:=by
 have a:∀i o,ops[i]?=Z o->(o,i)∈ops.toList.zipIdx:=λ i o ho=>by
  grind
 simp only[nO,bz,aJ,gO,eD]at h;grind
theorem F9{raw tm}(h:lc raw tm ops=O):nO raw ops=O:=by
 simp only[lc,bz,aJ,cH,gO]at h;simp only[nO,bz,aJ,cH,gO];intro p hp;let⟨c,b⟩:=h p hp;refine⟨c,λ q a=>?_⟩;obtain (g|g)|g:=b q a
 .exact .inl (.inl g)
 .refine .inl (.inr ?_);unfold ve;grind [nu,Bool.or_eq_false_iff,Vl]
 .exact .inr g
theorem O1{raw}(hk:nO raw ops=O)(hd:gp ops L){i j o q}(ho:ops[j]?=Z o)(b:ops[i]?=Z q)(a:i≠j)(c:ve raw ops o q=O)(hL:L j=Y)(hp:∀e∈cY o,L e=O):(i<j->L i=O)/\(j<i->L i=Y):=
 Nn hd ho b a (qjU hk i j o q ho b a c) hL hp
def jM(I:St)(b:Nat):ab (aa AV):=match I.bx[b]? with
 |Z cs=>match noMc cs with
   |O=>Z cs
   |Y=>U
 |U=>U
def qu(I:St):aa Row×(Nat->ab (aa AV)):=(I.rw,jM I)
theorem No{s:S}{op x σ'}(a:rV op=O)(h:opA C ex s.tm s.I op=Z (x,Z σ')):qu σ'=qu s.I:=by
 unfold rV at a;split at a<;>try cases a
 rename_i t q;cases q with
 |some q=>simp only[opA]at h;cases h
 |none=>
   simp[opA,aF]at h;split at h<;>cases h;refine Prod.ext rfl (funext λ b=>?_);rename_i d e c i g _;show jM {s.I with bx:=s.I.bx++[[.mc d e c [] []]]} b=jM s.I b;unfold jM;by_cases f:b<X s.I.bx
   .grind
   .rw[ej (by omega),ox (l:=s.I.bx) (by omega)];cases b-X s.I.bx<;>rfl
theorem M9{d I b o}:dF d I (.ptr b o)=match jM I b with|Z cs=>lW d.agg d.size cs o|U=>U:=by
 simp[dF,jM];grind
theorem qnB{d I σ' p}(h:qu σ'=qu I):dF d σ' p=dF d I p:=by
 have c:σ'.rw=I.rw:=bB Prod.fst h;have a:jM σ'=jM I:=bB Prod.snd h;cases p with
 |ptr b o=>rw[M9,M9,a]
 |rpt r i o e=>simp[dF,c]
 |_=>rfl
theorem Xt{tm I σ' t x i}(h:σ'.rw=I.rw):aF C tm σ' (.indexAddr t x i)=aF C tm I (.indexAddr t x i):=by
 simp[aF,h]
mutual
theorem ZG(fb fr:Nat->Nat):∀x:AV,rb (ren fb fr x)=[]->rr (ren fb fr x)=[]->rb x=[]/\rr x=[]
 |.ptr b o,h,_|.mp b,h,_=>by simp[ren,rb]at h
 |.rs ..,_,h|.rpt ..,_,h=>by simp[ren,rr]at h
 |.fn f cs,h,g|.agg cs,h,g|.tup cs,h,g=>Ic fb fr cs h g
 |.v _,_,_|.dead,_,_|.sl ..,_,_|.ept ..,_,_|.mc ..,_,_=>⟨rfl,rfl⟩
theorem Ic(fb fr:Nat->Nat):∀cs:aa AV,rbL (bt fb fr cs)=[]->rrL (bt fb fr cs)=[]->rbL cs=[]/\rrL cs=[]
 |[],_,_=>⟨rfl,rfl⟩
 |x::cs,h,g=>by
   rw[bt,rbL,nz]at h;rw[bt,rrL,nz]at g;let⟨d,c⟩:=ZG fb fr x h.1 g.1;let⟨b,a⟩:=Ic fb fr cs h.2 g.2;grind [rbL,rrL]
end
theorem T9{I σ':St}{a:aa AV}{c:St->aa AV->ab (AV×ab St)}{r:AV}(m:rbL a=[])(l:rrL a=[])(s:dG r=O)(h:fJ I a c=Z (r,U)):fJ σ' a c=Z (r,U):=by
 have i:∀τ:St,dY τ a=[]:=λ τ=>by
  unfold dY;rw[m];show xL τ.bx (X τ.bx) []=[];cases X τ.bx<;>rfl
 have j:∀τ:St,hU τ a=[]:=λ τ=>by
  unfold hU;rw[i,l];rfl
 have p:∀τ:St,nX τ a=O:=λ τ=>by
  unfold nX;rw[i,j,m,l];rfl
 unfold fJ at h |-
 rw[p]at h |-
 rw[i,j]at h |-
 simp only at h |-
 have e:bM σ' [] []=bM I [] []:=rfl;rw[e];cases k:c (bM I [] []) (bt (λ b=>List.idxOf b []) (λ r=>List.idxOf r []) a)with
 |none=>rw[k]at h;cases h
 |some n=>
 rw[k]at h;let⟨x,o⟩:=n;cases o with
 |some τ=>cases h
 |none=>
   simp only[oS,dQ,fc,and_true]at h
   have q:∀(fb fr f d:Nat->Nat),dG (ren fb fr x)=O->ren fb fr x=ren f d x:=λ fb fr f d g=>by
    have g:=g;unfold dG at g;rw[aJ,pg,pg]at g;grind [ZG,A0]
   grind [oS]
theorem qmn{I σ' f b x}(y:C.lo f=Y)(h:σ'.rw=I.rw)(e:mU C ex I f b=Z (x,U)):mU C ex σ' f b=Z (x,U):=by
 unfold mU at e |-
 rw[y]at e |-
 simp only at e |-
 rw[h];split at e<;>try cases e
 rename_i m d;split at e<;>try cases e
 rename_i D E c;split at e<;>cases e;rename_i i
 have p:rbL (b.map (cE I.rw))=[]/\rrL (b.map (cE I.rw))=[]:=by
  generalize b.map (cE I.rw)=l at d
  induction l with
  |nil=>exact⟨rfl,rfl⟩
  |cons a l u=>
    simp only[noRefs,dy,aJ]at d;have g:=d.1;unfold dG at g;rw[aJ,pg,pg]at g;let⟨w,v⟩:=u d.2;exact⟨by rw[rbL,g.1,w];rfl,by rw[rrL,g.2,v];rfl⟩
 have r:mS C ex σ' f b=Z (x,U):=by
  unfold mS oO at c |-
  rw[m]at c |-
  rw[h];cases k:b.flatMap rsA with
  |nil=>
    rw[k]at c;exact T9 p.1 p.2 i c
  |cons q l=>
    rw[k]at c;simp only at c |-
    have n:∀o,fJ {I with rw:=frz I.rw (q::l),wrr:=(q::l)++I.wrr} (b.map (cE I.rw)) (λ I b=>jf C ex I f b)=Z (o,U)->dG o=O->fJ {σ' with rw:=frz I.rw (q::l),wrr:=(q::l)++σ'.wrr} (b.map (cE I.rw)) (λ I b=>jf C ex I f b)=Z (o,U):=λ o e1 A=>T9 p.1 p.2 A e1;cases j:fJ {I with rw:=frz I.rw (q::l),wrr:=(q::l)++I.wrr} (b.map (cE I.rw)) (λ I b=>jf C ex I f b)with
    |none=>rw[j]at c;cases c
    |some z=>
      rw[j]at c;let⟨B,t⟩:=z;cases t with
      |some τ=>cases c
      |none=>
        simp[xQ]at c;split at c<;>cases c;next s=>rw[n _ j i];simp[xQ,s]
 rw[r];simp[i]
theorem qm2{tm I σ' op x}(b:rQ C.lo op=O)(d:qu σ'=qu I)(h:opA C ex tm I op=Z (x,U)):opA C ex tm σ' op=Z (x,U):=by
 have c:σ'.rw=I.rw:=bB Prod.fst d;unfold rQ at b;split at b<;>try cases b
 .rename_i t a;simp[opA,aF]at h |-
  grind [qnB]
 .next t a i=>show aF C tm σ' (.indexAddr t a i)=Z (x,U);rw[Xt c];exact h
 .grind [opA,rf,aev,Bool.not_eq_true',qmn]
theorem Uz{β}:∀a (l xs:aa β) b,b<X l->b ∉ a->(dh l a xs)[b]?=l[b]?
 |[],l,xs,b,d,_=>by rw[dh,dq d]
 |c::a,l,[],b,d,_=>rfl
 |c::a,l,x::xs,b,d,e=>by
   rw[dh,Uz a _ xs b (by grind) λ h=>e (aT _ h),kK λ h=>e (by grind)]
theorem qpw{tm I σ' g as ts x}(h:opA C ex tm I (.call ⟨.value g,as,ts⟩)=Z (x,Z σ')){b}(k:b<X I.bx)(c:b ∉ Ir C tm I (.call ⟨.value g,as,ts⟩)):σ'.bx[b]?=I.bx[b]?:=by
 simp[opA]at h;simp[Ir]at c;split at h<;>try cases h
 rename_i f d q;rw[q]at c;have c:b ∉ (match C.inl f with|some _=>List.range (X I.bx)|none=>match oO C I f (as.toList.map (aev tm)++d)with|(a,U)=>dY I a|(a,Z σ')=>dY σ' a):=c;obtain⟨fn,w,_⟩|h:=LS h
 .grind
 cases j:C.inl f with
 |some fn=>rw[j]at c;exact absurd (jS.2 k) c
 |none=>
 rw[j]at c
 have l:∀{τ i a e z},fJ τ a e=Z (z,Z i)->b<X τ.bx->b ∉ dY τ a->i.bx[b]?=τ.bx[b]?:=by
  intro τ i a e z h k c;unfold fJ at h;split at h<;>try cases h
  split at h<;>try cases h
  rename_i r u;let⟨t,n⟩:=r;cases n with
  |none=>simp[oS]at h
  |some m=>
    simp[oS,dQ,fc]at h;rw[<-h.2];exact Uz _ _ _ _ k c
 unfold mS at h;generalize v:oO C I f (as.toList.map (aev tm)++d)=p at h c;let⟨a,o⟩:=p;cases o with
 |none=>exact l h k c
 |some σ1=>
   have s:σ1.bx=I.bx:=by
    grind [oO]
   unfold xQ at h;grind
theorem qnt{s:S}{q:Oper}{as ts x σ'}(c:q.op=.call ⟨.builtin .append,as,ts⟩)(h:opA C ex s.tm s.I q.op=Z (x,Z σ')):σ'.bx=s.I.bx:=by
 rw[c]at h;simp[opA]at h;generalize as.toList.map (aev s.tm)=b at h
 have a:∀k bytes p xs,eM k bytes s.I p xs=Z (x,Z σ')->σ'.bx=s.I.bx:=by
  intro k bytes p xs h;unfold eM at h;grind
 unfold iv at h;split at h<;>try cases h
 all_goals repeat' (first|(cases h;done)|exact a _ _ _ _ h|split at h)
theorem KN{s:S}{q:Oper}{t c v x σ'}(j:q.op=.store t (.tmp c) v)(h:opA C ex s.tm s.I q.op=Z (x,Z σ')):(∃b o,s.tm.getD c .dead=.ptr b o/\σ'.rw=s.I.rw/\∀a,a≠b->σ'.bx[a]?=s.I.bx[a]?)\/∃r i o g,s.tm.getD c .dead=.rpt r i o g:=by
 rw[j]at h;simp[opA,aF]at h;split at h<;>try cases h
 .rename_i d b o hd f;split at h<;>try cases h
  split at h<;>cases h;exact .inl ⟨b,o,f,rfl,λ a e=>by simp[kK (mC e)]⟩
 .next d r i o g hd f=>exact .inr ⟨r,i,o,g,f⟩
section
variable (hR:vA C ops l) (hk:nO C.lo ops=O) (hd:gp ops L) {j:Nat}{o:Oper} (ho:ops[j]?=Z o) (hL:L j=Y) (hp:∀e∈cY o,L e=O)
include hR hk hd ho hL hp
theorem GI{t}(r:t∈looks ops o):(F (V ops) l s0 L ops.size).tm.getD t .dead=(F (V ops) l s0 aP j).tm.getD t .dead:=by
 have u:=(eC.1 ho).1
 have f:∀{k q},ops[k]?=Z q->k≠j->q.dst=Z t->(k<j->L k=O)/\(j<k->L k=Y):=λ c n a=>
  O1 hk hd ho c n (by simp[ve,a,r]) hL hp
 have i:∀k,k<=j->(F (V ops) l s0 L k).tm.getD t .dead=(F (V ops) l s0 aP k).tm.getD t .dead:=by
  intro k
  induction k with
  |zero=>intro _;rfl
  |succ k d=>
    intro p;obtain⟨q,c⟩:=gD (ops:=ops) (k:=k) (by omega);obtain⟨y,_,_,g⟩:=iA hR c;rw[g L,g aP,af (show aP k=O from rfl)];by_cases a:q.dst=Z t
    .rw[af ((f c (by omega) a).1 (by omega)),HV _ _ _ _ a,HV _ _ _ _ a,yd,yd]
    .rw[qY _ _ _ _ a];split
     .rw[qY _ _ _ _ a];exact d (by omega)
     .exact d (by omega)
 have e:∀m,j+m<=ops.size->(F (V ops) l s0 L (j+m)).tm.getD t .dead=(F (V ops) l s0 L j).tm.getD t .dead:=by
  intro m
  induction m with
  |zero=>intro _;rfl
  |succ m d=>
    intro p;obtain⟨q,c⟩:=gD (ops:=ops) (k:=j+m) (by omega);obtain⟨y,_,_,g⟩:=iA hR c;show(F (V ops) l s0 L (j+m+1)).tm.getD t .dead=_;rw[g L];split
    .rename_i b;have s:m≠0:=λ h=>by subst h;rw[dP,hL]at b;cases b
     rw[qY _ _ _ _ λ a=>by have:=(f c (by omega) a).2 (by omega);rw[this]at b;cases b];exact d (by omega)
    .exact d (by omega)
 have:=e (ops.size-j) (by omega);rw[show j+(ops.size-j)=ops.size by omega]at this;rw[this,i j (ak _)]
theorem YW{y}(p:l[j]?=Z y)(n:y.2.isSome=O->cw C.lo o.op=O):F (V ops) l s0 (λ i=>J (i=j)||L i) ops.size=bX (F (V ops) l s0 L ops.size) o y:=by
 have E:=(eC.1 ho).1;have f:∀k,k≠j->(J (k=j)||L k)=L k:=λ k hk=>by simp[hk]
 have g:F (V ops) l s0 (λ i=>J (i=j)||L i) j=F (V ops) l s0 L j:=vg j λ i G=>f i (by omega)
 have b:∀m,j+1+m<=ops.size->F (V ops) l s0 (λ i=>J (i=j)||L i) (j+1+m)=bX (F (V ops) l s0 L (j+1+m)) o y:=by
  intro m
  induction m with
  |zero=>
    intro _;obtain⟨z,h,_,c⟩:=iA hR ho;rw[p]at h;cases h;rw[c,c,af (by simp),g,hL];simp
  |succ m x=>
    intro A;obtain⟨q,s⟩:=gD (ops:=ops) (k:=j+1+m) (by omega);obtain⟨z,_,B,c⟩:=iA hR s;show F _ _ _ _ (j+1+m+1)=bX (F _ _ _ _ (j+1+m+1)) o y;rw[c,c];have e:=f (j+1+m) (by omega);rw[e,x (by omega)];split
    .rename_i a;refine qmx _ _ _ _ _ (λ d r t=>?_) ?_
     .have:=(O1 hk hd ho s (by omega) (by simp[ve,r,looks,t]) hL hp).2 (by omega);rw[this]at a;cases a
     .cases D:y.2 with
      |none=>exact .inl rfl
      |some σ1=>
        cases h:z.2 with
        |none=>exact .inr rfl
        |some w=>
          have:=(O1 hk hd ho s (by omega) (by
           have v:=n (by grind);have u:=B (by grind);simp[ve,v,u,lE,BS]) hL hp).2 (by omega)
          rw[this]at a;cases a
    .rfl
 have:=b (ops.size-(j+1)) (by omega);grind
end
variable (hT:mW C ex ops l s0) (hk:lc C.lo s0.tm ops=O) (hd:gp ops L) {j:Nat}{o:Oper} (ho:ops[j]?=Z o) (hL:L j=Y) (hp:∀e∈cY o,L e=O)
include hT hk hd ho hL hp
theorem ql9(w:(gS o.op||cw C.lo o.op)=O)(r:rQ C.lo o.op=Y)(u:∀t a,o.op=.load t (.tmp a)->er s0.tm ops j a=U/\mX s0.tm ops j a=Y):(F (V ops) l s0 L ops.size).I=(F (V ops) l s0 aP j).I:=by
 have z:=(eC.1 ho).1
 have i:∀{k q},ops[k]?=Z q->k≠j->cw C.lo q.op=O->(k<j->L k=O)/\(j<k->L k=Y):=λ c s d=>
  ord hk hd ho c s (by simp[nu,uZ,uV,d,w,r,Uv d u,yN,ow,BS,BR]) hL hp
 have p:∀k,k<=j->(F (V ops) l s0 L k).I=(F (V ops) l s0 aP k).I:=by
  intro k
  induction k with
  |zero=>intro _;rfl
  |succ k e=>
    intro v;obtain⟨q,c⟩:=gD (ops:=ops) (k:=k) (by omega);obtain⟨y,_,d,n⟩:=iA hT.recd c;rw[n L,n aP,af (show aP k=O from rfl)];cases f:y.2 with
    |none=>
      rw[putS_σ _ _ _ f];split
      .rw[putS_σ _ _ _ f];exact e (by omega)
      .exact e (by omega)
    |some σ'=>
      rw[af ((i c (by omega) (d (by grind))).1 (by omega))];simp[bX,f,turn]
 have g:∀m,j+m<=ops.size->(F (V ops) l s0 L (j+m)).I=(F (V ops) l s0 L j).I:=by
  intro m
  induction m with
  |zero=>intro _;rfl
  |succ m e=>
    intro v;obtain⟨q,c⟩:=gD (ops:=ops) (k:=j+m) (by omega);obtain⟨y,_,d,n⟩:=iA hT.recd c;show(F (V ops) l s0 L (j+m+1)).I=_;rw[n L];split
    .rename_i b;have x:m≠0:=λ h=>by subst h;rw[dP,hL]at b;cases b
     cases f:y.2 with
     |none=>rw[putS_σ _ _ _ f];exact e (by omega)
     |some σ'=>
       have:=(i c (by omega) (d (by grind))).2 (by omega);rw[this]at b;cases b
    .exact e (by omega)
 have:=g (ops.size-j) (by omega);rw[show j+(ops.size-j)=ops.size by omega]at this;rw[this,p j (ak _)]
omit hp in
theorem Mf{T:Type}(c:St->T)(I:cw C.lo o.op=Y)
  (g:∀{k:Nat}{q:Oper}{y:AV×ab St}{σ':St},ops[k]?=Z q->l[k]?=Z y->k≠j->y.2=Z σ'->cw C.lo q.op=O->
   ((k<j->L k=O)/\(j<k->L k=Y))\/c σ'=c (F (V ops) l s0 aP k).I):c (F (V ops) l s0 L ops.size).I=c (F (V ops) l s0 aP j).I:=by
 have hj:j<ops.size:=(eC.1 ho).1
 have E:∀k,k<=j->c (F (V ops) l s0 L k).I=c (F (V ops) l s0 aP k).I:=by
  intro k
  induction k with
  |zero=>intro _;rfl
  |succ k u=>
    intro M;obtain⟨q,p⟩:=gD (ops:=ops) (k:=k) (by omega);obtain⟨y,t,P,A⟩:=iA hT.recd p;rw[A L,A aP,af (show aP k=O from rfl)];cases d:y.2 with
    |none=>
      rw[putS_σ _ _ _ d];split
      .rw[putS_σ _ _ _ d];exact u (by omega)
      .exact u (by omega)
    |some σ'=>
      rcases g p t (by omega) d (P (by rw[d];rfl))with h|h
      .rw[af (h.1 (by omega))];simp[bX,d,turn]
      .have e:∀s:S,(bX s q y).I=σ':=λ s=>by simp[bX,d,turn]
       rw[e,h];split
       .rw[e,h]
       .exact u (by omega)
 have z:∀m,j+m<=ops.size->c (F (V ops) l s0 L (j+m)).I=c (F (V ops) l s0 L j).I:=by
  intro m
  induction m with
  |zero=>intro _;rfl
  |succ m u=>
    intro M;obtain⟨q,p⟩:=gD (ops:=ops) (k:=j+m) (by omega);obtain⟨y,t,P,A⟩:=iA hT.recd p;show c (F (V ops) l s0 L (j+m+1)).I=_;rw[A L];split
    .rename_i f;have hm:m≠0:=λ h=>by subst h;rw[dP,hL]at f;cases f
     cases d:y.2 with
     |none=>rw[putS_σ _ _ _ d];exact u (by omega)
     |some σ'=>
       have x:=P (by rw[d];rfl);rcases g p t (by omega) d x with h|h
       .have:=h.2 (by omega);rw[this]at f;cases f
       .have e:(bX (F (V ops) l s0 L (j+m)) q y).I=σ':=by simp[bX,d,turn]
        rw[e,h]
        have G:∀n,j+n<=j+m->c (F (V ops) l s0 aP (j+n)).I=c (F (V ops) l s0 aP j).I:=by
         intro n
         induction n with
         |zero=>intro _;rfl
         |succ n v=>
           intro hn;obtain⟨D,b⟩:=gD (ops:=ops) (k:=j+n) (by omega);obtain⟨y2,w,N,Q⟩:=iA hT.recd b;show c (F (V ops) l s0 aP (j+n+1)).I=_;rw[Q aP,af (show aP (j+n)=O from rfl)];cases i:y2.2 with
           |none=>rw[putS_σ _ _ _ i];exact v (by omega)
           |some B=>
             have a:=N (by rw[i];rfl);by_cases K:n=0
             .subst K;rw[dP]at b;rw[ho]at b;cases b;rw[I]at a;cases a
             rcases g b w (by omega) i a with R|R
             .-- it lies ahead of the other loud one,which has come up
              exfalso;have H:=R.2 (by omega);have W:nu C.lo s0.tm ops (j+m) q (j+n) D=O:=Vl x a;have r:=(FS hk).2 (j+n) (j+m) q D p b (by omega) W;rw[Nat.max_eq_right (by omega),jR (by omega)]at r;have:=oR hd (j+m) q p (hd (j+m) q p f) r;rw[H]at this;cases this
             .have e2:(bX (F (V ops) l s0 aP (j+n)) D y2).I=B:=by simp[bX,i,turn]
              rw[e2,R];exact v (by omega)
        rw[G m (ak _),E j (ak _)]
    .exact u (by omega)
 have:=z (ops.size-j) (by omega);grind
theorem qnF{t a b'}(hop:o.op = .load t (.tmp a))(hbx:er s0.tm ops j a=Z b'):jM (F (V ops) l s0 L ops.size).I b'=jM (F (V ops) l s0 aP j).I b':=by
 have see:∀{I σ'},σ'.bx[b']?=I.bx[b']? -> jM σ' b'=jM I b' := λ h=>by unfold jM;rw[h]
 have hrd:gS o.op=O:=by rw[hop];rfl
 refine Mf hT hk hd ho hL (λ I=>jM I b') (by rw[hop];rfl) ?_
 show ∀{k q y σ'},ops[k]?=Z q->l[k]?=Z y->k≠j->y.2=Z σ'->cw C.lo q.op=O ->
  ((k<j->L k=O)/\(j<k->L k=Y))\/jM σ' b'=jM (F (V ops) l s0 aP k).I b'
 ·intro k q y σ' hq hy hne hy2 hl;by_cases hmk:rV q.op=O
  ·obtain⟨z,hz,hstep,_⟩:=hT.st k q hq;rw[hy]at hz;cases hz;obtain⟨y1,y2⟩:=y;subst hy2;rcases hstep with⟨_,hs⟩ | ⟨_,hs⟩
   ·exact .inr (sw (bB Prod.snd (No hmk hs)) b')
   ·cases hs
  cases hap:oN s0.tm ops j o k q with
  | false=>exact .inl (ord hk hd ho hq hne (by simp[nu,uZ,uV,hl,hrd,hmk,hap,mE,ow,vP,BS,BR]) hL hp)
  | true =>
    obtain⟨z,hz,hstep,_⟩:=hT.st k q hq;rw[hy]at hz;cases hz;obtain⟨y1,y2⟩:=y;subst hy2;rcases Ue hop hap with⟨t',c,v,x,h1,h2,h3⟩ | ⟨_,as,ts,h1⟩ | ⟨_,g,as,ts,h1⟩
    case inr.inr =>
     have hsp:=hT.sp k q _ hq hy rfl;have hks:=ph (eC.1 hq).1;rw[h1]at hsp;unfold mZ at hstep;unfold lR at hsp;rw[show NM (.call ⟨.value g,as,ts⟩)=O from rfl,qbY,pi,bz]at hsp;have hsj:=hsp (o,j) (by grind);simp[hop]at hsj;rw[qoW hT hks hbx]at hsj;grind [Nn,Nat.max_comm,Nat.min_comm,qpw]
    all_goals right
    case inr.inl =>
     rcases hstep with⟨_,hs⟩ | ⟨_,hs⟩
     ·grind [qnt]
     ·cases hs
    rcases h3 with⟨y',h3,h4⟩ | ⟨h3,_⟩
    case inr=>rw[hbx]at h3;cases h3
    rcases hstep with⟨_,hs⟩ | ⟨_,hs⟩
    ·have hks:=ph (eC.1 hq).1;rcases KN h1 hs with⟨b,off,g1,_,g2⟩ | ⟨r',i',o',ep',g1⟩
     ·rcases Hq hT hks h2 with⟨off',g3⟩ | g3 | g3
      ·grind
      ·rw[g3]at g1;cases g1
      ·rw[g3]at g1;cases g1
     ·rcases Hq hT hks h2 with⟨off',g3⟩ | g3 | g3
      ·rw[g3]at g1;cases g1
      ·rw[g3]at g1;cases g1
      ·rw[g3]at g1;cases g1
    ·cases hs
theorem qn6{t a}(hop:o.op = .load t (.tmp a))(hbx:er s0.tm ops j a=U):(F (V ops) l s0 L ops.size).I.rw=(F (V ops) l s0 aP j).I.rw:=by
 have hrd:gS o.op=O:=by rw[hop];rfl
 refine Mf hT hk hd ho hL (λ I=>I.rw) (by rw[hop];rfl) ?_;intro k q y σ' hq hy hne hy2 hl;by_cases hmk:rV q.op=O
 ·obtain⟨z,hz,hstep,_⟩:=hT.st k q hq;rw[hy]at hz;cases hz;obtain⟨y1,y2⟩:=y;subst hy2;rcases hstep with⟨_,hs⟩ | ⟨_,hs⟩
  ·exact .inr (bB Prod.fst (No hmk hs))
  ·cases hs
 cases hap:oN s0.tm ops j o k q with
 | false=>exact .inl (ord hk hd ho hq hne (by simp[nu,uZ,uV,hl,hrd,hmk,hap,mE,ow,vP,BS,BR]) hL hp)
 | true =>
   obtain⟨z,hz,hstep,_⟩:=hT.st k q hq;rw[hy]at hz;cases hz;obtain⟨y1,y2⟩:=y;subst hy2;rcases Ue hop hap with⟨t',c,v,x,h1,h2,_⟩ | ⟨h,_⟩ | ⟨h,_⟩
   case inr.inl=>exact absurd hbx h
   case inr.inr=>exact absurd hbx h
   right;have hks:=ph (eC.1 hq).1;rcases hstep with⟨_,hs⟩ | ⟨_,hs⟩
   ·rcases KN h1 hs with⟨b,off,g1,g2,_⟩ | ⟨r',i',o',ep',g1⟩
    ·exact g2
    ·rcases Hq hT hks h2 with⟨off',g3⟩ | g3 | g3<;>rw[g3]at g1<;>cases g1
   ·cases hs
theorem qnS(d:rQ C.lo o.op=O)(g:gS o.op=O)(i:∀t a,o.op=.load t (.tmp a)->er s0.tm ops j a=U/\mX s0.tm ops j a=Y):qu (F (V ops) l s0 L ops.size).I=qu (F (V ops) l s0 aP j).I:=by
 refine Mf hT hk hd ho hL qu (by
  cases m:cw C.lo o.op with
  |false=>rfl
  |true=>rw[Ml m]at d;cases d) ?_
 intro k q y σ' p s h e r;by_cases c:rV q.op=O
 .let⟨z,n,b,_⟩:=hT.st k q p;rw[s]at n;cases n;let⟨y1,y2⟩:=y;subst e;obtain⟨_,f⟩|⟨_,f⟩:=b
  .exact .inr (No c f)
  .cases f
 .rw[vQ]at c;exact .inl (ord hk hd ho p h (by simp[nu,uZ,uV,r,g,c,Uv r i,mE,ow,vP,BS,BR]) hL hp)
theorem VP: ∃y,l[j]?=Z y/\mZ C ex ops o (F (V ops) l s0 L ops.size) y/\F (V ops) l s0 (λ i=>J (i=j)||L i) ops.size=bX (F (V ops) l s0 L ops.size) o y:=by
 have E:=(eC.1 ho).1;let⟨y,p,w,f⟩:=hT.st j o ho;refine⟨y,p,?_,?_⟩
 .have B:=Gj λ t D=>GI (s0:=s0) hT.recd (F9 hk) hd ho hL hp D
  have r:=xq (C:=C) (ex:=ex) (op:=o.op) (I:=(F (V ops) l s0 L ops.size).I) (L4 λ t D=>GI (s0:=s0) hT.recd (F9 hk) hd ho hL hp (by
   grind [looks]))
  obtain⟨n,c⟩|⟨n,c⟩:=w
  .refine .inl ⟨B.trans n,?_⟩;rw[r];by_cases h:(gS o.op||cw C.lo o.op)=O
   .by_cases k:∃t a b,o.op=.load t (.tmp a)/\er s0.tm ops j a=Z b
    .let⟨t,a,b,e1,v⟩:=k;have m:=qnF hT hk hd ho hL hp e1 v;rw[e1]at c |-
     have A:=ph E;simp[opA,aF]at c |-
     split at c<;>try cases c
     have q:aev (F (V ops) l s0 aP j).tm (.tmp a)=(F (V ops) l s0 aP j).tm.getD a .dead:=rfl;rw[q]at c |-
     obtain⟨off,g⟩|g|g:=Hq hT A v
     .grind [M9]
     .rw[g]at c;cases c
     .rw[g]at c;cases c
    .by_cases u:∃t a,o.op=.load t (.tmp a)/\mX s0.tm ops j a=O
     .let⟨t,a,e1,v⟩:=u
      have G:=qn6 hT hk hd ho hL hp e1 (by
       cases m:er s0.tm ops j a with
       |none=>rfl
       |some b=>exact absurd ⟨t,a,b,e1,m⟩ k)
      rw[e1]at c |-
      simp[opA,aF]at c |-
      split at c<;>try cases c
      have q:aev (F (V ops) l s0 aP j).tm (.tmp a)=(F (V ops) l s0 aP j).tm.getD a .dead:=rfl;rw[q]at c |-
      obtain g|g|g:=qo1 hT (ph E) v
      .cases H:(F (V ops) l s0 aP j).tm.getD a .dead<;>rw[H]at g c<;>first|(cases g;done)|skip
       .grind [dF]
       .exact c
      .rw[g]at c;cases c
      .rw[g]at c;cases c
     .have s:∀t a,o.op=.load t (.tmp a)->er s0.tm ops j a=U/\mX s0.tm ops j a=Y:=λ t a n=>⟨by
        cases m:er s0.tm ops j a with
        |none=>rfl
        |some b=>exact absurd ⟨t,a,b,n,m⟩ k,by
        cases m:mX s0.tm ops j a with
        |false=>rfl
        |true=>exact absurd ⟨t,a,n,m⟩ u⟩
      cases d:rQ C.lo o.op with
      |false=>rw[ql9 hT hk hd ho hL hp h d s];exact c
      |true=>
        have e:cw C.lo o.op=Y:=by
         cases e:cw C.lo o.op with
         |false=>rfl
         |true=>rw[Ml e]at d;cases d
        rw[e,Bool.or_false]at h;have q:=qnS hT hk hd ho hL hp d h s;let⟨x,z⟩:=y;cases z with
        |some σ'=>have:=f rfl;rw[e]at this;cases this
        |none=>exact qm2 d q c
   .simp at h;let⟨x,z⟩:=y;cases z with
    |none=>exact Mz h.1 h.2 c
    |some σ'=>have:=f rfl;rw[h.2]at this;cases this
  .exact .inr ⟨B.trans n,c⟩
 .exact YW hT.recd (F9 hk) hd ho hL hp p f
theorem Hv:∃y,mZ C ex ops o (F (V ops) l s0 L ops.size) y/\F (V ops) l s0 (λ i=>J (i=j)||L i) ops.size=bX (F (V ops) l s0 L ops.size) o y:=by
 grind [VP]
end
end
end Go.AmZ
