/- Part 1 of what the proofs stand on: plain functions of the program, and that they are its functions. -/
import Derived.WalkKit
import Derived.WalkSpells
import Derived.WalkLawsBesides
import Derived.Lib.Hide
import Derived.Laws.AppendOwnNone
import Derived.BigQuiet
import Derived.Laws.CopyRow
import Derived.Laws.Pointers
import Derived.Laws.Small
import Derived.Laws.Tables
import Derived.ArgAppend
import Derived.Laws.AppendOwn
import Derived.Laws.MakeOwn
import Derived.Laws.BytesArg
import Derived.Deep.Upon
import Derived.Lib.ConvBytes
import Derived.Laws.StructEq
import Derived.MapKept
import Derived.Laws.Sem
import Derived.Orders
set_option linter.unusedVariables false
set_option linter.unusedSimpArgs false
noncomputable section
namespace Go
abbrev wa:=@Nat.le_refl
abbrev wb:=@List.mem_of_getElem?
abbrev wc:=@Bool.and_eq_true
abbrev wd:=@List.length_append
abbrev we:=@Nat.zero_le
abbrev wg:=@List.mem_cons_of_mem
abbrev wh:=@List.mem_cons_self
abbrev wi:=@List.eq_nil_of_length_eq_zero
abbrev wj:=@List.append_assoc
abbrev wk:=@List.mem_append
abbrev wm:=@List.length_take
abbrev wn:=@Nat.eq_of_beq_eq_true
abbrev wo:=@List.map_cons
abbrev wu:=@Nat.mul_le_mul_right
abbrev wv:=@List.all_eq_true
abbrev ww:=@List.append_nil
abbrev wx:=@List.mem_cons
abbrev wy:=@List.length_cons
abbrev wz:=@Option.some.injEq
abbrev wA:=@List.mem_map
abbrev wB:=@List.length_map
abbrev wC:=@Nat.lt_of_lt_of_le
abbrev wD:=@Nat.zero_add
abbrev wE:=@Nat.le_trans
abbrev wF:=@List.mem_singleton
abbrev wG:=@List.take_length
abbrev wH:=@List.length_set
abbrev wI:=@Prod.mk.injEq
abbrev wJ:=@Array.getD_eq_getD_getElem?
abbrev wK:=@Nat.not_lt_zero
abbrev wL:=@Nat.add_zero
abbrev wM:=@Array.length_toList
abbrev wN:=@Nat.add_assoc
abbrev wO:=@Nat.add_mul
abbrev wP:=@List.drop_zero
abbrev wQ:=@Bool.not_eq_true'
abbrev wR:=@List.mem_of_mem_drop
abbrev wS:=@List.length_drop
abbrev wT:=@List.mem_of_mem_take
abbrev wU:=@Bool.or_eq_true
abbrev wV:=@List.drop_length
abbrev wW:=@List.map_append
abbrev wX:=@List.getElem_mem
abbrev wY:=@List.length_nil
abbrev wZ:=@List.append_eq_nil_iff
abbrev w7:=@List.mem_flatMap
abbrev ke:=@List.foldl_cons
abbrev kg:=@Bool.true_and
abbrev kh:=@List.size_toArray
abbrev km:=@List.all_cons
abbrev ko:=@Nat.le_succ
abbrev kr:=@List.filterMap_append
abbrev kw:=@Nat.min_eq_left
abbrev ky:=@Nat.le_of_ble_eq_true
abbrev kz:=@Bool.not_eq_true
abbrev kC:=@List.take_add_one
abbrev kD:=@Int.toNat_natCast
abbrev kE:=@List.length_eq_zero_iff
abbrev kF:=@List.take_append_drop
abbrev kG:=@List.length_replicate
abbrev kH:=@List.sum_cons
abbrev kI:=@List.take_of_length_le
abbrev kJ:=@Nat.zero_mul
abbrev kK:=@Nat.le_add_right
abbrev kL:=@Nat.sub_self
abbrev kM:=@List.take_append_of_le_length
abbrev kN:=@List.flatMap_eq_nil_iff
abbrev kO:=@List.mem_filter
abbrev kP:=@Option.map_some
abbrev kQ:=@Option.some.inj
abbrev kR:=@Bool.and_self
abbrev kS:=@Nat.add_sub_cancel_left
abbrev kT:=@Nat.succ_mul
abbrev kU:=@List.mem_filterMap
abbrev kV:=@Bool.false_and
abbrev kW:=@List.nil_append
abbrev kX:=@List.map_congr_left
abbrev kY:=@List.mem_map_of_mem
abbrev kZ:=@List.ext_getElem?
abbrev k8:=@List.nodup_nil
abbrev k9:=@List.mem_range
abbrev xa:=@List.nodup_cons
abbrev xb:=@Decidable.of_not_not
abbrev xc:=@List.mem_zipIdx_iff_getElem?
abbrev xd:=@List.not_mem_nil
abbrev xe:=@List.isEmpty_iff
abbrev xg:=@List.map_map
abbrev xh:=@Bool.and_true
abbrev xi:=@Array.toList_replicate
abbrev xj:=@List.flatMap_cons
abbrev xk:=@Array.toList_append
abbrev xl:=@List.length_pos_iff
abbrev xm:=@Bool.eq_iff_iff
abbrev xn:=@List.eq_of_mem_replicate
abbrev xo:=@Bool.false_eq_true
abbrev xp:=@List.filterMap_cons_some
abbrev xq:=@Bool.or_eq_false_iff
abbrev xr:=@List.flatten_append
abbrev xt:=@Bool.or_true
abbrev xu:=@Bool.true_or
abbrev xw:=@Array.toList_setIfInBounds
abbrev xx:=@Nat.lt_succ_self
abbrev xy:=@Nat.succ_le_succ
abbrev xz:=@Bool.false_ne_true
abbrev xA:=@Nat.one_mul
abbrev xB:=@Option.map_none
abbrev xC:=@Nat.succ_pos
abbrev xD:=@List.filterMap_cons_none
abbrev xE:=@List.length_range
abbrev xF:=@List.foldl_append
abbrev xG:=@Bool.and_false
abbrev xH:=@List.take_zero
abbrev xI:=@Nat.le_of_lt
abbrev xJ:=@Nat.ble_eq_true_of_le
abbrev xK:=@Array.size_append
abbrev xL:=@Classical.byContradiction
abbrev xM:=@List.take_take
abbrev xN:=@Nat.mul_comm
abbrev xO:=@Array.size_setIfInBounds
abbrev xP:=@Nat.mod_eq_of_lt
abbrev xQ:=@List.filter_cons_of_neg
abbrev xR:=@List.filter_cons_of_pos
abbrev xS:=@Int.eq_ofNat_of_zero_le
abbrev xT:=@Ne.symm
abbrev xU:=@Bool.false_or
abbrev xV:=@Nat.mod_lt
abbrev xW:=@Nat.add_sub_cancel
abbrev xX:=@List.length_eq_one_iff
abbrev xY:=@List.flatten_cons
abbrev xZ:=@List.map_nil
abbrev vb:=@Nat.div_lt_iff_lt_mul
abbrev vc:=@List.mem_append_right
abbrev vd:=@Bool.not_false
abbrev ve:=@Bool.and_eq_false_iff
abbrev vf:=@UInt8.lt_iff_toNat_lt
abbrev vg:=@List.length_filter_le
abbrev vh:=@List.sublist_flatten_of_mem
abbrev vj:=@Array.toArray_toList
abbrev vk:=@Array.toList_map
abbrev vl:=@List.mem_append_left
abbrev vm:=@List.flatMap_map
abbrev vp:=@List.cons_ne_nil
abbrev vq:=@List.replicate_succ'
abbrev vt:=@List.mem_flatten
abbrev vu:=@List.take_set_of_le
abbrev vw:=@List.filterMap_cons
abbrev vx:=@List.replicate_zero
abbrev vy:=@Nat.div_add_mod
abbrev vA:=@Nat.eq_zero_or_pos
abbrev vB:=@Nat.add_right_comm
abbrev vC:=@Nat.ne_of_lt
abbrev vD:=@Nat.le_of_eq
abbrev vF:=@List.filter_append
abbrev vG:=@List.pairwise_singleton
abbrev vH:=@Function.comp_def
abbrev vJ:=@Int.le_refl
abbrev vK:=@List.set_eq_take_append_cons_drop
abbrev vL:=@Nat.le_mul_of_pos_left
abbrev vM:=@Nat.lt_irrefl
abbrev vN:=@List.zipIdx_cons
abbrev vO:=@List.any_eq_true
abbrev vP:=@Array.size_range
abbrev vQ:=@List.countP_replicate
abbrev vR:=@List.mem_iff_getElem?
abbrev vS:=@List.set_append_right
abbrev vU:=@List.replicate_append_replicate
abbrev vV:=@Nat.add_le_add_left
abbrev vW:=@List.drop_set_of_lt
abbrev vX:=@Nat.mul_le_mul_left
abbrev vY:=@Nat.mul_le_mul
abbrev vZ:=@Nat.lt_of_le_of_lt
abbrev waa:=@List.length_modify
abbrev wab:=@Bool.not_eq_false'
abbrev wac:=@List.any_cons
abbrev wad:=@Array.size_mapIdx
abbrev wae:=@Nat.mul_sub_right_distrib
abbrev waf:=@List.drop_eq_getElem_cons
abbrev wag:=@List.flatMap_def
abbrev wah:=@Nat.lt_of_not_le
abbrev wai:=@List.all_map
abbrev waj:=@Nat.succ_lt_succ
abbrev wak:=@Option.isSome_iff_exists
abbrev wal:=@List.flatten_eq_nil_iff
abbrev wam:=@Nat.le_max_left
abbrev wan:=@Nat.zero_lt_one
abbrev wao:=@List.filter_nil
abbrev wap:=@Nat.mul_pos
abbrev waq:=@List.filter_eq_nil_iff
abbrev war:=@Nat.sub_mul
abbrev wat:=@List.contains_iff_mem
abbrev wau:=@List.length_singleton
abbrev wav:=@Nat.blt_eq
abbrev waw:=@Bool.not_true
abbrev wax:=@Nat.add_comm
end Go
namespace Go.GxZ
open Go.RowKit
theorem qKa{α:Type}(e:Ask α):∀w:World,w.drawn<=(w.ask e).2.drawn:=by
 induction e with
 |done a=>exact λ w=>wa _
 |ask c b k d=>
   intro w;unfold World.ask;grind
theorem qIK(w:World)(c:Sys):w.drawn<=(w.sys c).2.drawn:=by
 have h:=qKa (Kernel.perform c w.os) w;unfold World.sys;grind
theorem qIE{p:Program}{w w':World}{a:Addr}{v:Value}{b:Bool}{l:List Addr}(h:w.farStore p a v b=.ok (w',l)):w'.drawn=w.drawn:=by
 unfold World.farStore at h;split at h
 .split at h
  .rename_i r c;cases h;unfold World.viewStore at c;simp only[bind,Except.bind,pure,Except.pure,throw,throwThe,MonadExceptOf.throw]at c
   repeat' split at c
   all_goals first|(cases c;done)|(cases c;rfl)|skip
  .cases h
 .cases h
theorem run_drawn{p:Program}{α : Type}(e:Sem α):∀{w w':World} {a : α},e.run p w = .ok a w'->w.drawn<=w'.drawn:=by
 induction e with
 | pure a=>intro w w' b h;cases h;exact wa _
 | load m a k d =>
   intro w w' b h;simp only[Sem.run]at h;grind
 | store m a v k d =>
   intro w w' b h
   cases v<;>simp only[Sem.run]at h<;>first
    | (cases h;done)
    | (split at h
       ·split at h
        ·cases h
        ·have:=d h;exact this
       ·split at h
        ·rename_i f;have:=d h;rw[qIE f]at this;exact this
        ·cases h)
 | new o k d=>intro w w' b h;simp only[Sem.run]at h;have:=d _ h;exact this
 | shape r k d=>intro w w' b h;simp only[Sem.run]at h;exact d _ h
 | freeze a n k d =>
   intro w w' b h;simp only[Sem.run]at h;have:=d h;have e:(w.freeze a n).drawn=w.drawn:=by unfold World.freeze;split<;>rfl
   rw[e]at this;exact this
 | frozen a k d=>intro w w' b h;simp only[Sem.run]at h;exact d _ h
 | getObj r k d =>
   intro w w' b h;simp only[Sem.run]at h;grind
 | setObj r o k d =>
   intro w w' b h;simp only[Sem.run]at h;grind
 | choose q k d =>
   intro w w' b h;simp only[Sem.run]at h;grind
 | sys c k d =>
   intro w w' b h;simp only[Sem.run]at h;exact wE (qIK w c) (d _ h)
 | program k d=>intro w w' b h;simp only[Sem.run]at h;exact d _ h
 | mark m k d=>intro w w' b h;simp only[Sem.run]at h;exact d h
 | halt h=>intro w w' b h;simp only[Sem.run]at h;cases h
structure qQI (B:Nat) (w:World) where
 val:World
 below:Below B w val
instance (B:Nat)(w:World):Nonempty (qQI B w):=⟨⟨w,Below.refl _ _⟩⟩
end Go.GxZ
namespace Go.AmZ
open Go
inductive KC where
 |str|int (k:IntKind)|bool
 deriving DecidableEq
inductive AV where
 |v (x:Value)
 |dead
 |sl (k:Nat) (es:List (List AV)) (lv:Nat)
 |rs (r lo n ep:Nat) (full:Bool)
 |ptr (b o:Nat)
 |rpt (r i o ep:Nat)
 |ept (cs:List AV) (o:Nat)
 |fn (f:FuncId) (caps:List AV)
 |agg (cs:List AV)
 |tup (vs:List AV)
 |mp (b:Nat)
 |mc (kc:List KC) (ka va:Bool) (ks vs:List (List AV))
 deriving Inhabited
structure Row where
 k:Nat
 c:List (List AV)
 ver:Nat
 fz:Nat
 off:Bool
structure St where
 bx:List (List AV)
 rw:List Row
 wr:List Nat
 wrr:List Nat
structure S where
 tm:List AV
 σ:St
inductive TK where
 |other|bool|int (k:IntKind)|string|ptr|slice (e esz ebytes:Nat) (ez:List Value)|struct (fs:List (Nat×Nat×Bool))|array (n e esz:Nat)|map (kc:List KC) (ka va:Bool) (vn:Nat) (vz:List Value)
structure TD where
 size:Nat
 bytes:Nat
 agg:Bool
 zero:List Value
 k:TK
def qrM:TypeDesc->Bool
 |.struct _|.array _ _=>true
 |_=>false
def fieldsOf(P:Program):List Field->Option (List (Nat×Nat×Bool))
 |[]=>some []
 |f::a=>match P.info? f.type,P.underlying f.type,fieldsOf P a with
   |some i,some u,some l=>some ((f.offset,i.size,qrM u)::l)
   |_,_,_=>none
def qQs:Value->Bool
 |.agg _=>true
 |_=>false
def kc1(P:Program)(t:TypeId):Option KC:=match P.underlying t with
 |some .string=>some .str
 |some (.int k)=>some (.int k)
 |some .bool=>some .bool
 |_=>none
def kcs(P:Program):List Field->Nat->Option (List KC)
 |[],_=>some []
 |f::a,o=>match decide (f.offset=o/\f.name≠"_"),kc1 P f.type,kcs P a (o+1)with
   |true,some c,some l=>some (c::l)
   |_,_,_=>none
def qjn(P:Program)(t:TypeId):Option (List KC×Bool):=match P.underlying t with
 |some (.struct a)=>match P.stoodInHeld t,kcs P a.toList 0 with
   |false,some l=>some (l,true)
   |_,_=>none
 |_=>match kc1 P t with
   |some c=>some ([c],false)
   |none=>none
def qvJ(P:Program)(k e:TypeId):Option TK:=match qjn P k,P.info? e,P.underlying e with
 |some (a,b),some i,some u=>match i.zero with
   |some z=>match qQs z,qrM u with
     |true,true=>some (.map a b true i.size z.cells.toList)
     |false,false=>some (.map a b false i.size z.cells.toList)
     |_,_=>some .other
   |none=>some .other
 |_,_,_=>some .other
def qPN:TK->Bool
 |.other|.map .. => true
 |_=>false
theorem qgo{P:Program}{k e:TypeId}{x:TK}(h:qvJ P k e=some x):qPN x=true:=by
 unfold qvJ at h
 repeat' split at h
 all_goals cases h;rfl
def qa5(P:Program):TypeDesc->Option TK
 |.bool=>some .bool
 |.int k=>some (.int k)
 |.string=>some .string
 |.pointer _=>some .ptr
 |.slice e=>match P.info? e with
   |some i=>match i.zero with
     |some z=>some (.slice e i.size i.bytes z.cells.toList)
     |none=>none
   |none=>none
 |.struct a=>(fieldsOf P a.toList).map .struct
 |.array n e=>match P.info? e with
   |some i=>some (.array n e i.size)
   |none=>none
 |.map k e=>qvJ P k e
 |_=>some .other
def yO(P:Program)(t:TypeId):Option TD:=
 match P.info? t,P.underlying t with
 |some i,some u=>match i.zero,qa5 P u with
   |some z,some k=>some ⟨i.size,i.bytes,qrM u,z.cells.toList,k⟩
   |_,_=>none
 |_,_=>none
def iw(k:IntKind)(n:Int):Int:=k.wrap n
def qi(a b:Int):Int:=a+b
def yk(a b:Int):Int:=a-b
def qqO(a b:Int):Int:=a*b
def qM0(a b:Int):Int:=a.tdiv b
def qKx(a b:Int):Int:=a.tmod b
def ieq(a b:Int):Bool:=a==b
def ilt(a b:Int):Bool:=decide (a<b)
def ile(a b:Int):Bool:=decide (a<=b)
def qnw(a b:Int):Int:=if a<b then b else a
def qM7(a b:Int):Int:=if b<a then b else a
def qoR(op:BinOp)(k:IntKind)(a b:Int):Int:=
 match op with
 |.and=>k.wrap (BitVec.ofInt k.bits a&&&BitVec.ofInt k.bits b).toNat
 |.or=>k.wrap (BitVec.ofInt k.bits a|||BitVec.ofInt k.bits b).toNat
 |.xor=>k.wrap (BitVec.ofInt k.bits a ^^^ BitVec.ofInt k.bits b).toNat
 |_=>k.wrap (BitVec.ofInt k.bits a &&& ~~~BitVec.ofInt k.bits b).toNat
def qK9(k:IntKind)(a b:Int):Int:=k.wrap (a*2^(min b.toNat k.bits))
def qox(k:IntKind)(a b:Int):Int:=a.fdiv (2^(min b.toNat k.bits))
def qe(a:Bool):Bool := !a
def Je(a b:Bool):Bool:=a==b
def xeq(a b:ByteArray):Bool:=a.data.toList==b.data.toList
def xlt(a b:ByteArray):Bool:=Op.bytesLess a.data.toList b.data.toList
def qqU(a b:Bool):Bool:=a||b
def qHo(a b:ByteArray):Option ByteArray:=if((a.size+b.size:Nat):Int)>IntKind.i64.max then none else some (a++b)
def qpO(a:ByteArray):Nat:=a.size
def qG9(s:ByteArray)(j:Int):Option Int:=if 0<=j then(match s.data.toList[j.toNat]? with
 |some b=>some b.toNat
 |none=>none)else none
def qBy(s:ByteArray)(l h:Nat):ByteArray:=s.extract l h
def bnd(y:Nat)(i:Int):Option Nat:=if 0<=i/\i<=y then some i.toNat else none
def qat(es:List (List AV)):Nat:=es.length
def qyo(es:List (List AV))(j:Int):Option (List AV):=if 0<=j then es[j.toNat]? else none
def qIc(es:List (List AV))(l h:Nat):List (List AV):=(es.take h).drop l
def zm(a b:Nat):Bool:=decide (a=b)
def lv1:Nat->Nat
 |0=>0
 |_+1=>1
def lvS(f:Nat)(b:Bool):Nat:=match decide (1<f)&&b with|true=>2|false=>1
def pos(n:Nat):Bool:=decide (0<n)
def qu:AV->Bool
 |.v _|.sl _ _ _|.mc .. => true
 |_=>false
def uni(k:Nat)(es:List (List AV)):Bool:=es.all λ e=>decide (e.length=k)&&e.all qu
def qjX(R:Row)(k lo n a:Nat):Option (List (List AV)):=if R.k=k/\R.ver=a/\lo+n<=R.c.length then some ((R.c.drop lo).take n)else none
def qBs(R:Row)(k lo n a:Nat)(j:Int):Option Nat:=if R.k=k/\0<=j/\j<n/\R.ver=a/\lo+n<=R.c.length then some (lo+j.toNat)else none
def qsS(R:Row)(i a:Nat):Option (List AV):=if R.ver=a then R.c[i]? else none
def qsK(R:Row)(k lo n a:Nat)(f:Bool)(bytes:Nat)(xs:List (List AV)):Option (Row×Nat):=
 if R.k=k/\R.ver=a/\n=R.c.length/\lo=0/\f=false/\R.fz<=R.c.length/\(n+xs.length)*bytes<=2^47/\n+xs.length<2^62 then some ({R with c:=R.c++xs,ver:=R.ver+1},n+xs.length)else none
def rowNew(k bytes:Nat)(xs:List (List AV)):Option (Row×Nat):=if xs.length*bytes<=2^47/\xs.length<2^62 then some (⟨k,xs,0,0,false⟩,xs.length)else none
def qBq(R:Row)(k lo n a l:Nat):Option Row:=
 if R.k=k/\R.ver=a/\n=R.c.length/\lo=0/\l<=n/\R.fz<=R.c.length then some {R with c:=R.c.drop l,ver:=R.ver+1,fz:=R.fz-l,off:=true}else none
def qsT(R:Row)(i o a size:Nat)(xs:List AV):Option Row:=match decide (R.ver=a/\R.fz<=i/\o+size<=R.k/\xs.length=size/\R.off=false)&&xs.all qu,R.c[i]? with
 |true,some e=>some {R with c:=R.c.set i (e.take o++(xs++e.drop (o+size)))}
 |_,_=>none
def qbG(b:ByteArray):List (List AV):=b.data.toList.map λ c=>[.v (.int .u8 c.toNat)]
def qHs:List AV->Option UInt8
 |[.v (.int .u8 n)]=>some (UInt8.ofNat n.toNat)
 |_=>none
def qsR:List (List AV)->Option (List UInt8)
 |[]=>some []
 |e::l=>match qHs e,qsR l with
   |some b,some r=>some (b::r)
   |_,_=>none
def qrD:AV->Bool
 |.ptr _ _|.rpt _ _ _ _|.ept _ _=>true
 |_=>false
def qDG:AV->Bool
 |.v (.pointer none)=>true
 |_=>false
def qrQ:Option TD->Bool
 |some ⟨_,_,_,_,.int .u8⟩=>true
 |_=>false
def qld(es xs:List (List AV)):List (List AV):=es++xs
def qlz(R:Row):Row:={R with fz:=max R.fz R.c.length}
def zF:Value->Bool
 |.bool _|.int _ _|.string _|.pointer none|.slice none 0 0|.map none|.nilFunc|.nilIface=>true
 |_=>false
def ofC(x:Value):AV:=match zF x with|true=>.v x|false=>.dead
def qsn:Value->AV
 |.agg cs=>match cs.toList.all zF with
   |true=>.agg (cs.toList.map .v)
   |false=>.dead
 |.tuple vs=>match vs.toList with
   |[]=>.tup []
   |_=>.dead
 |x=>ofC x
def aev(a:List AV):Operand->AV
 |.tmp t=>a.getD t .dead
 |.const x=>qsn x
 |.func f=>.fn f []
 |.global _=>.dead
def cellsOf:AV->List AV
 |.agg cs=>cs
 |x=>[x]
def isC:AV->Bool
 |.agg _|.tup _|.dead=>false
 |_=>true
def elems(rw:List Row)(k:Nat):AV->Option (List (List AV))
 |.v (.slice none 0 0)=>some []
 |.sl a es _=>match zm a k with
   |true=>some es
   |false=>none
 |.rs r lo n b _=>match rw[r]? with
   |some R=>qjX R k lo n b
   |none=>none
 |_=>none
def qX(rw:List Row):AV->AV
 |.sl k es f=>.sl k es (lv1 f)
 |.rs r lo n a _=>match rw[r]? with
   |some R=>match qjX R R.k lo n a with
     |some es=>.sl R.k es 1
     |none=>.dead
   |none=>.dead
 |x=>x
def jm(rw:List Row):AV->AV
 |.agg cs=>.agg (cs.map (qX rw))
 |x=>qX rw x
def rsC:AV->List Nat
 |.rs r _ _ _ _=>[r]
 |_=>[]
def rsA:AV->List Nat
 |.agg cs=>cs.flatMap rsC
 |x=>rsC x
def frz(rw:List Row)(a:List Nat):List Row:=a.foldl (λ l r=>l.modify r qlz) rw
mutual
def rb:AV->List Nat
 |.ptr b _|.mp b=>[b]
 |.fn _ cs|.agg cs|.tup cs=>rbL cs
 |_=>[]
def rbL:List AV->List Nat
 |[]=>[]
 |x::l=>rb x++rbL l
end
mutual
def rr:AV->List Nat
 |.rs r _ _ _ _|.rpt r _ _ _=>[r]
 |.fn _ cs|.agg cs|.tup cs=>rrL cs
 |_=>[]
def rrL:List AV->List Nat
 |[]=>[]
 |x::l=>rr x++rrL l
end
mutual
def ren(fb fr:Nat->Nat):AV->AV
 |.ptr b o=>.ptr (fb b) o
 |.mp b=>.mp (fb b)
 |.rs r lo n a f=>.rs (fr r) lo n a f
 |.rpt r i o a=>.rpt (fr r) i o a
 |.fn f cs=>.fn f (qY fb fr cs)
 |.agg cs=>.agg (qY fb fr cs)
 |.tup cs=>.tup (qY fb fr cs)
 |x=>x
def qY(fb fr:Nat->Nat):List AV->List AV
 |[]=>[]
 |x::l=>ren fb fr x::qY fb fr l
end
def refs(nb a:Nat)(x:AV):Bool:=(rb x).any (λ b=>decide (nb<=b))||(rr x).any λ r=>decide (a<=r)
def qup (b:Nat) (rw:List Row):AV->AV
 | .sl k es f => .sl k es (lv1 f)
 | .rs r lo n a f=>match decide (b<=r) with
   | true=>qX rw (.rs r lo n a f)
   | false => .rs r lo n a f
 | x=>x
def qjA(a:Nat)(rw:List Row):AV->AV
 |.agg cs=>.agg (cs.map (qup a rw))
 |x=>qup a rw x
def qil(a:Nat)(rw:List Row):AV->AV
 |.tup vs=>.tup (vs.map (qjA a rw))
 |x=>qjA a rw x
def qcr(a:Bool)(size:Nat)(cs:List AV)(o:Nat):Option AV:=
 match a with
 |true=>match decide (o+size<=cs.length)with
   |true=>some (.agg ((cs.drop o).take size))
   |false=>none
 |false=>cs[o]?
def noMc:List AV->Bool
 |[.mc ..]=>false
 |_=>true
def jH(d:TD)(σ:St):AV->Option AV
 |.ptr b o=>match σ.bx[b]? with
   |some cs=>match noMc cs with
     |true=>qcr d.agg d.size cs o
     |false=>none
   |none=>none
 |.rpt r i o a=>match σ.rw[r]? with
   |some R=>match qsS R i a with
     |some cs=>qcr d.agg d.size cs o
     |none=>none
   |none=>none
 |.ept cs o=>qcr d.agg d.size cs o
 |_=>none
def qC9(op:BinOp)(k:IntKind)(a b:Int):Option Value:=
 match op with
 |.add=>some (.int k (iw k (qi a b)))
 |.sub=>some (.int k (iw k (yk a b)))
 |.mul=>some (.int k (iw k (qqO a b)))
 |.quo=>match ieq b 0 with
   |true=>none
   |false=>some (.int k (iw k (qM0 a b)))
 |.rem=>match ieq b 0 with
   |true=>none
   |false=>some (.int k (qKx a b))
 |.and=>some (.int k (qoR .and k a b))
 |.or=>some (.int k (qoR .or k a b))
 |.xor=>some (.int k (qoR .xor k a b))
 |.andNot=>some (.int k (qoR .andNot k a b))
 |.eql=>some (.bool (ieq a b))
 |.neq=>some (.bool (qe (ieq a b)))
 |.lss=>some (.bool (ilt a b))
 |.leq=>some (.bool (ile a b))
 |.gtr=>some (.bool (ilt b a))
 |.geq=>some (.bool (ile b a))
 |_=>none
def qBZ(op:BinOp)(x y:ByteArray):Option Value:=
 match op with
 |.add=>match qHo x y with
   |some z=>some (.string z)
   |none=>none
 |.eql=>some (.bool (xeq x y))
 |.neq=>some (.bool (qe (xeq x y)))
 |.lss=>some (.bool (xlt x y))
 |.leq=>some (.bool (qqU (xlt x y) (xeq x y)))
 |.gtr=>some (.bool (qe (qqU (xlt x y) (xeq x y))))
 |.geq=>some (.bool (qe (xlt x y)))
 |_=>none
def qru(op:BinOp)(x y:Value):Option Value:=
 match x,y with
 |.int k a,.int c b=>match op with
   |.shl=>match ilt b 0 with
     |true=>none
     |false=>some (.int k (qK9 k a b))
   |.shr=>match ilt b 0 with
     |true=>none
     |false=>some (.int k (qox k a b))
   |op=>match decide (k=c)with
     |true=>qC9 op k a b
     |false=>none
 |.string a,.string b=>qBZ op a b
 |_,_=>none
def unA(op:UnOp)(x:Value):Option Value:=
 match op,x with
 |.neg,.int k n=>some (.int k (iw k (yk 0 n)))
 |.not,.bool b=>some (.bool (qe b))
 |_,_=>none
def qmo(place:Nat->Option (Nat×Nat))(cells:List AV):List (Nat×AV)->Option (List AV)
 |[]=>some cells
 |(i,x)::a=>match place i with
   |none=>none
   |some (off,size)=>match decide ((cellsOf x).length=size)&&decide (off+size<=cells.length)&&(cellsOf x).all isC with
     |true=>qmo place (cells.take off++(cellsOf x++cells.drop (off+size))) a
     |false=>none
def qvC(y:Nat):AV->Option Nat
 |.v (.int _ i)=>bnd y i
 |_=>none
def qdm(d:Nat)(y:Nat):Option AV->Option Nat
 |none=>some d
 |some x=>qvC y x
structure Cfg where
 ty:Nat->Option TD
 fn:Nat->Option Func
 prim:Nat->Option (St->List AV->Option (AV×Option St))
 raw:Nat->Bool
 pur:Code->List Nat
 lo:Nat->Bool
 inl:Nat->Option Func
def qig(k n:Nat)(rw:List Row)(ps:List (Nat×AV)):Bool:=
 decide (ps.length=n)&&decide (n*k<=2^24)&&decide (0<k)&&(ps.zipIdx).all λ p=>decide (p.1.1=p.2)&&decide ((cellsOf p.1.2).length=k)&&(cellsOf p.1.2).all λ x=>qu (qX rw x)
def ym:List KC->List AV->Bool
 |[],[]=>true
 |.str::l,.v (.string _)::r=>ym l r
 |.int k::l,.v (.int a _)::r=>decide (a=k)&&ym l r
 |.bool::l,.v (.bool _)::r=>ym l r
 |_,_=>false
def qeF:AV->AV->Bool
 |.v (.string a),.v (.string b)=>xeq a b
 |.v (.int _ a),.v (.int _ b)=>ieq a b
 |.v (.bool a),.v (.bool b)=>Je a b
 |_,_=>false
def jy:List AV->List AV->Bool
 |[],[]=>true
 |x::l,y::r=>qeF x y&&jy l r
 |_,_=>false
def JV(k:List AV):List (List AV)->Nat->Option Nat
 |[],_=>none
 |e::es,i=>match jy k e with
   |true=>some i
   |false=>JV k es (i+1)
def Qz:AV->Bool
 |.agg _=>true
 |_=>false
def QJ(g:Bool)(cs:List AV):AV:=match g with
 |true=>.agg cs
 |false=>match cs with
   |[x]=>x
   |_=>.dead
def qpR(σ:St)(f:List KC)(g e:Bool):AV->Option (Nat×List (List AV)×List (List AV))
 |.mp b=>match σ.bx[b]? with
   |some [.mc c d a ks vs]=>match decide (c=f)&&(Je d g&&Je a e)with
     |true=>some (b,ks,vs)
     |false=>none
   |_=>none
 |_=>none
def qpI(a:List KC)(b:Bool)(x:AV):Bool:=Je (Qz x) b&&ym a (cellsOf x)
def qvg(b:Bool)(a:Nat)(x:AV):Bool:=Je (Qz x) b&&decide ((cellsOf x).length=a)&&(cellsOf x).all qu
def qsV(c:List KC)(a:Bool)(b:List Value)(ks vs:List (List AV))(k:List AV):Option (AV×Bool):=match JV k ks 0 with
 |some j=>match vs[j]? with
   |some v=>some (QJ a v,true)
   |none=>none
 |none=>some (QJ a (b.map .v),false)
def qhi(ks vs:List (List AV))(k v:List AV):List (List AV)×List (List AV):=match JV k ks 0 with
 |some j=>(ks,vs.set j v)
 |none=>(ks++[k],vs++[v])
def qcO(C:Cfg)(a:List AV)(σ:St)(t:Nat)(x k v:Operand):Option (AV×Option St):=match C.ty t with
 |some ⟨_,_,_,_,.map d e c f _⟩=>match qpR σ d e c (aev a x),qpI d e (aev a k)&&qvg c f (aev a v)with
   |some (b,ks,vs),true=>some (.tup [],some {σ with bx:=σ.bx.set b [.mc d e c (qhi ks vs (cellsOf (aev a k)) (cellsOf (aev a v))).1 (qhi ks vs (cellsOf (aev a k)) (cellsOf (aev a v))).2],wr:=b::σ.wr})
   |_,_=>none
 |_=>none
def qc(C:Cfg)(q:List AV)(σ:St)(op:Op):Option (AV×Option St):=
 match op with
 |.move x|.assign x=>some (aev q x,none)
 |.pick c a b=>match aev q c with
   |.v (.bool true)=>some (aev q a,none)
   |.v (.bool false)=>some (aev q b,none)
   |_=>none
 |.alloc e=>match C.ty e with
   |some d=>match d.zero.all zF with
     |true=>some (.ptr σ.bx.length 0,some {σ with bx:=σ.bx++[d.zero.map .v]})
     |false=>none
   |none=>none
 |.box e x=>match C.ty e with
   |some _=>match(cellsOf (aev q x)).all isC with
     |true=>some (.ptr σ.bx.length 0,some {σ with bx:=σ.bx++[cellsOf (aev q x)]})
     |false=>none
   |none=>none
 |.build t parts=>match C.ty t with
   |some ⟨_,_,_,z,.struct w⟩=>match z.all zF with
     |true=>match qmo (λ i=>match w[i]? with|some f=>some (f.1,f.2.1)|none=>none) (z.map .v) (parts.toList.map λ p=>(p.1,aev q p.2))with
       |some cs=>some (.agg cs,none)
       |none=>none
     |false=>none
   |_=>none
 |.buildSlice t n parts=>match C.ty t with
   |some ⟨_,_,_,_,.slice _ k _ _⟩=>
     match qig k n σ.rw (parts.toList.map λ p=>(p.1,aev q p.2))with
     |true=>match parts.toList.flatMap λ p=>rsA (aev q p.2)with
       |[]=>some (.sl k (parts.toList.map λ p=>(cellsOf (aev q p.2)).map (qX σ.rw)) 2,none)
       |r::l=>some (.sl k (parts.toList.map λ p=>(cellsOf (aev q p.2)).map (qX σ.rw)) 2,some {σ with rw:=frz σ.rw (r::l),wrr:=(r::l)++σ.wrr})
     |false=>none
   |_=>none
 |.load t a=>match C.ty t with
   |some d=>match jH d σ (aev q a)with
     |some x=>some (x,none)
     |none=>none
   |none=>none
 |.store t a x=>match C.ty t,aev q a with
   |some d,.ptr b o=>match σ.bx[b]? with
     |some cs=>match noMc cs&&decide ((cellsOf (aev q x)).length=d.size)&&decide (o+d.size<=cs.length)&&(cellsOf (aev q x)).all isC with
       |true=>some (undefA',some {σ with bx:=σ.bx.set b (cs.take o++(cellsOf (aev q x)++cs.drop (o+d.size))),wr:=b::σ.wr})
       |false=>none
     |none=>none
   |some d,.rpt r i o u=>match σ.rw[r]? with
     |some R=>match qsT R i o u d.size (cellsOf (aev q x))with
       |some R'=>some (undefA',some {σ with rw:=σ.rw.set r R',wrr:=r::σ.wrr})
       |none=>none
     |none=>none
   |_,_=>none
 |.makeSlice t n m=>match C.ty t,aev q n,aev q m with
   |some ⟨_,_,_,_,.slice _ k bytes z⟩,.v (.int _ a),.v (.int _ b)=>match decide (a=b/\0<=a/\a.toNat*bytes<=2^47/\a.toNat<2^62/\0<k/\z.length=k)&&z.all zF&&(z.map .v).all qu with
     |true=>match zm a.toNat 0 with
       |true=>some (.sl k [] 2,none)
       |false=>some (.rs σ.rw.length 0 a.toNat 0 false,some {σ with rw:=σ.rw++[⟨k,List.replicate a.toNat (z.map .v),0,0,false⟩]})
     |false=>none
   |_,_,_=>none
 |.nilCheck x=>match aev q x with
   |.ptr b o=>some (.ptr b o,none)
   |.rpt r i o u=>some (.rpt r i o u,none)
   |.ept cs o=>some (.ept cs o,none)
   |_=>none
 |.binOp op t x y _=>match aev q x,aev q y with
   |.v (.bool a),.v (.bool b)=>match op,C.ty t with
     |.eql,some ⟨_,_,_,_,.bool⟩=>some (.v (.bool (Je a b)),none)
     |.neq,some ⟨_,_,_,_,.bool⟩=>some (.v (.bool (qe (Je a b))),none)
     |_,_=>none
   |.v (.pointer none),.v (.pointer none)=>match op,C.ty t with
     |.eql,some ⟨_,_,_,_,.ptr⟩=>some (.v (.bool true),none)
     |.neq,some ⟨_,_,_,_,.ptr⟩=>some (.v (.bool false),none)
     |_,_=>none
   |.v a,.v b=>match qru op a b with
     |some z=>some (.v z,none)
     |none=>none
   |a,b=>match qrD a&&qDG b,op,C.ty t with
     |true,.eql,some ⟨_,_,_,_,.ptr⟩=>some (.v (.bool false),none)
     |true,.neq,some ⟨_,_,_,_,.ptr⟩=>some (.v (.bool true),none)
     |_,_,_=>none
 |.unOp op _ x=>match aev q x with
   |.v a=>match unA op a with
     |some z=>some (.v z,none)
     |none=>none
   |_=>none
 |.convert s d x=>match C.ty s,C.ty d,aev q x with
   |some _,some ⟨_,_,_,_,.int k⟩,.v (.int _ n)=>some (.v (.int k (iw k n)),none)
   |some _,some ⟨_,_,_,_,.string⟩,.v (.string s)=>some (.v (.string s),none)
   |some ⟨_,_,_,_,.string⟩,some ⟨_,_,_,_,.slice e 1 _ _⟩,.v (.string b)=>match qrQ (C.ty e)with
     |true=>some (.rs σ.rw.length 0 b.size 0 false,some {σ with rw:=σ.rw++[⟨1,qbG b,0,0,false⟩]})
     |false=>none
   |some ⟨_,_,_,_,.slice e 1 _ _⟩,some ⟨_,_,_,_,.string⟩,y=>match qrQ (C.ty e),elems σ.rw 1 y with
     |true,some es=>match qsR es with
       |some l=>some (.v (.string ⟨l.toArray⟩),none)
       |none=>none
     |_,_=>none
   |_,_,_=>none
 |.makeFunc (.func f) w cs=>match w.toList with
   |[]=>some (.fn f (cs.toList.map (aev q)),none)
   |_=>none
 |.slice t x lo E none=>match C.ty t,aev q x with
   |some ⟨_,_,_,_,.string⟩,.v (.string s)=>match qdm (qpO s) (qpO s) (E.map (aev q))with
     |some h=>match qdm 0 h (lo.map (aev q))with
       |some l=>some (.v (.string (qBy s l h)),none)
       |none=>none
     |none=>none
   |some ⟨_,_,_,_,.slice _ k _ _⟩,.sl G es f=>match zm G k&&pos f with
     |true=>match qdm (qat es) (qat es) (E.map (aev q))with
       |some h=>match qdm 0 h (lo.map (aev q))with
         |some l=>some (.sl k (qIc es l h) (lvS f (zm h (qat es))),none)
         |none=>none
       |none=>none
     |false=>none
   |some ⟨_,_,_,_,.slice _ _ _ _⟩,.v (.slice none 0 0)=>match qdm 0 0 (E.map (aev q))with
     |some h=>match qdm 0 h (lo.map (aev q))with
       |some _=>some (.v (.slice none 0 0),none)
       |none=>none
     |none=>none
   |some ⟨_,_,_,_,.slice _ k _ _⟩,.rs r o n u _=>match qdm n n (E.map (aev q)),σ.rw[r]? with
     |some h,some R=>match qdm 0 h (lo.map (aev q))with
       |some l=>match zm h n,qBq R k o n u l with
         |true,some R'=>some (.rs r 0 (n-l) (u+1) false,some {σ with rw:=σ.rw.set r R',wrr:=r::σ.wrr})
         |_,_=>none
       |none=>none
     |_,_=>none
   |_,_=>none
 |.fieldAddr t x i=>match C.ty t with
   |some ⟨_,_,_,_,.struct w⟩=>match w[i]? with
     |some (off,size,_)=>match size with
       |0=>none
       |_+1=>match aev q x with
         |.ptr b o=>some (.ptr b (o+off),none)
         |.rpt r j o u=>some (.rpt r j (o+off) u,none)
         |.ept cs o=>some (.ept cs (o+off),none)
         |_=>none
     |none=>none
   |_=>none
 |.field t x i=>match C.ty t,aev q x with
   |some ⟨_,_,_,_,.struct w⟩,.agg cs=>match w[i]? with
     |some (off,size,g)=>match qcr g size cs off with
       |some y=>some (y,none)
       |none=>none
     |none=>none
   |_,_=>none
 |.indexAddr t x i=>match C.ty t,aev q i with
   |some ⟨_,_,_,_,.slice _ k _ _⟩,.v (.int _ j)=>match aev q x with
     |.sl G es _=>match zm G k with
       |true=>match qyo es j with
         |some cs=>some (.ept cs 0,none)
         |none=>none
       |false=>none
     |.rs r lo n u _=>match σ.rw[r]? with
       |some R=>match qBs R k lo n u j with
         |some p=>some (.rpt r p 0 u,none)
         |none=>none
       |none=>none
     |_=>none
   |some ⟨_,_,_,_,.array n _ k⟩,.v (.int _ j)=>match aev q x with
     |.ptr b o=>match decide (0<=j/\j<(n:Int))with
       |true=>some (.ptr b (o+j.toNat*k),none)
       |false=>none
     |_=>none
   |_,_=>none
 |.index t x i=>match C.ty t,aev q x,aev q i with
   |some ⟨_,_,_,_,.string⟩,.v (.string s),.v (.int _ j)=>match qG9 s j with
     |some b=>some (.v (.int .u8 b),none)
     |none=>none
   |_,_,_=>none
 |.extract x i=>match aev q x with
   |.tup vs=>match vs[i]? with
     |some y=>some (y,none)
     |none=>none
   |_=>none
 |.makeMap t none=>match C.ty t with
   |some ⟨_,_,_,_,.map B D A _ _⟩=>some (.mp σ.bx.length,some {σ with bx:=σ.bx++[[.mc B D A [] []]]})
   |_=>none
 |.lookup t x k J=>match C.ty t with
   |some ⟨_,_,_,_,.map B D A I F⟩=>match qpR σ B D A (aev q x),qpI B D (aev q k)&&(F.all zF&&decide (F.length=I)&&(A||decide (I=1)))with
     |some (_,ks,vs),true=>match qsV B A F ks vs (cellsOf (aev q k))with
       |some (v,b)=>some (match J with|true=>.tup [v,.v (.bool b)]|false=>v,none)
       |none=>none
     |_,_=>none
   |_=>none
 |.mapUpdate t x k v|.insert t x k v=>qcO C q σ t x k v
 |_=>none
where undefA':AV:=.tup []
def yf(k bytes:Nat)(σ:St)(s:AV)(xs:List (List AV)):Option (AV×Option St):=
 match s with
 |.v (.slice none 0 0)=>match zm (qat xs) 0 with
   |true=>some (.v (.slice none 0 0),none)
   |false=>match rowNew k bytes xs with
     |some (R,n)=>some (.rs σ.rw.length 0 n 0 false,some {σ with rw:=σ.rw++[R]})
     |none=>none
 |.sl b es f=>match zm (qat xs) 0 with
   |true=>match pos f with
     |true=>some (.sl b es f,none)
     |false=>none
   |false=>match decide (1<f)&&zm b k&&uni k es with
     |true=>match rowNew k bytes (qld es xs)with
       |some (R,n)=>some (.rs σ.rw.length 0 n 0 false,some {σ with rw:=σ.rw++[R]})
       |none=>none
     |false=>none
 |.rs r lo n a f=>match zm (qat xs) 0 with
   |true=>some (.rs r lo n a f,none)
   |false=>match σ.rw[r]? with
     |some R=>match qsK R k lo n a f bytes xs with
       |some (R',m)=>some (.rs r 0 m (a+1) false,some {σ with rw:=σ.rw.set r R',wrr:=r::σ.wrr})
       |none=>none
     |none=>none
 |_=>none
def qcL:TK->Bool
 |.slice .. => true
 |_=>false
def qkM:TK->Bool
 |.string=>true
 |_=>false
def qio(d:TD):AV->Option Nat
 |.v (.string s)=>match qkM d.k with|true=>some (qpO s)|false=>none
 |.v (.slice none 0 0)=>match qcL d.k with|true=>some 0|false=>none
 |.sl _ es _=>match qcL d.k with|true=>some (qat es)|false=>none
 |.rs _ _ n _ _=>match qcL d.k with|true=>some n|false=>none
 |_=>none
def qHp(k:TK)(σ:St)(x:AV):Option Nat:=match k with
 |.map b c a _ _=>match qpR σ b c a x with
   |some (_,ks,_)=>some ks.length
   |none=>none
 |_=>none
def jz(C:Cfg)(σ:St)(b:Builtin)(ts:Array TypeId)(c:List AV):Option (AV×Option St):=
 match b,c with
 |.len,[x]=>match ts[0]? with
   |some t=>match C.ty t with
     |some d=>match qio d x with
       |some n=>some (.v (.int .i64 n),none)
       |none=>match qHp d.k σ x with
         |some n=>some (.v (.int .i64 n),none)
         |none=>none
     |none=>none
   |none=>none
 |.append,[s,x]=>match ts[0]?,ts[1]? with
   |some t,some u=>match C.ty t,C.ty u with
     |some ⟨_,_,_,_,.slice _ k bytes z⟩,some ⟨_,_,_,_,.slice _ _ _ _⟩=>match decide (0<k)&&decide (z.length=k)with
       |true=>match elems σ.rw k x with
         |some xs=>match uni k xs with
           |true=>yf k bytes σ s xs
           |false=>none
         |none=>none
       |false=>none
     |some ⟨_,_,_,_,.slice e 1 bytes z⟩,some ⟨_,_,_,_,.string⟩=>match decide (z.length=1)&&qrQ (C.ty e),x with
       |true,.v (.string b)=>yf 1 bytes σ s (qbG b)
       |_,_=>none
     |_,_=>none
   |_,_=>none
 |.max,[.v (.int k a),.v (.int f b)]=>match decide (k=f)with|true=>some (.v (.int k (qnw a b)),none)|false=>none
 |.min,[.v (.int k a),.v (.int f b)]=>match decide (k=f)with|true=>some (.v (.int k (qM7 a b)),none)|false=>none
 |_,_=>none
inductive Ex where
 |normal|exit (id:Nat)|ret
 deriving DecidableEq
def qpx(σ:St)(a:AV)(σ':St):Bool:=
 refs σ.bx.length σ.rw.length (qil σ.rw.length σ'.rw a)||(σ'.wr.filter λ b=>decide (b<σ.bx.length)).any λ b=>(σ'.bx.getD b []).any (refs σ.bx.length σ.rw.length)
def qbx(σ:St)(a:AV)(σ':St):AV×Option St:=
 match qpx σ a σ' with
 |true=>(a,some {σ' with wr:=σ'.wr.filter λ b=>decide (b<σ.bx.length),wrr:=σ'.wrr.filter λ b=>decide (b<σ.rw.length)})
 |false=>match(σ'.wr.filter λ b=>decide (b<σ.bx.length))++σ'.wrr.filter λ b=>decide (b<σ.rw.length)with
   |[]=>(qil σ.rw.length σ'.rw a,none)
   |_::_=>(qil σ.rw.length σ'.rw a,some ⟨σ'.bx.take σ.bx.length,σ'.rw.take σ.rw.length,σ'.wr.filter λ b=>decide (b<σ.bx.length),σ'.wrr.filter λ b=>decide (b<σ.rw.length)⟩)
def qky(C:Cfg)(b:List AV)(σ:St):ResultVar->Option AV
 |.tmp t=>some (b.getD t .dead)
 |.cell a t=>match C.ty t with
   |some d=>jH d σ (b.getD a .dead)
   |none=>none
def Qn(C:Cfg)(a:List AV)(σ:St):List ResultVar->Option (List AV)
 |[]=>some []
 |r::l=>match qky C a σ r with
   |some x=>match Qn C a σ l with
     |some xs=>some (x::xs)
     |none=>none
   |none=>none
def zV:List AV->AV
 |[x]=>x
 |l=>.tup l
def qaV(C:Cfg)(fn:Func)(s:S):Option AV:=
 match Qn C s.tm s.σ fn.results.toList with
 |some l=>some (zV l)
 |none=>none
abbrev jP:=Code->S->Option (Ex×S)
def qg4(fn:Func)(σ:St)(a:List AV):S:=⟨a++List.replicate (fn.ntmps-a.length) .dead,{σ with wr:=[],wrr:=[]}⟩
def qi5(C:Cfg)(fn:Func)(σ:St)(a:S):Option (AV×Option St):=
 match qaV C fn a with
 |some r=>some (qbx σ r a.σ)
 |none=>none
def qbS(C:Cfg)(ex:jP)(σ:St)(f:FuncId)(a:List AV):Option (AV×Option St):=
 match C.prim f with
 |some p=>p σ a
 |none=>match C.fn f with
   |none=>none
   |some fn=>match fn.body with
     |none=>none
     |some c=>match ex c (qg4 fn σ a)with
       |some (.ret,b)|some (.normal,b)=>qi5 C fn σ b
       |_=>none
def qg(l:List Nat):List Nat->List Nat
 |[]=>[]
 |b::a=>match l.contains b with
   |true=>qg l a
   |false=>b::qg (b::l) a
def qlF(a:List (List AV)):Nat->List Nat->List Nat
 |0,l=>l
 |n+1,l=>match qg l (l.flatMap λ b=>rbL (a.getD b []))with
   |[]=>l
   |b::c=>qlF a n (l++(b::c))
def Qi(σ:St)(a:List AV):List Nat:=qlF σ.bx σ.bx.length (qg [] (rbL a))
def qbl(σ:St)(a:List AV):List Nat:=qg [] (rrL a++(Qi σ a).flatMap λ b=>rrL (σ.bx.getD b []))
def nd:List Nat->Bool
 |[]=>true
 |b::l => !l.contains b&&nd l
def qfZ(σ:St)(a:List AV):Bool:=
 nd (Qi σ a)&&nd (qbl σ a) &&   (rbL a).all (λ b=>(Qi σ a).contains b)&&(rrL a).all (λ r=>(qbl σ a).contains r)&&(Qi σ a).all (λ b=>decide (b<σ.bx.length)&&(rbL (σ.bx.getD b [])).all (λ b=>(Qi σ a).contains b)&&(rrL (σ.bx.getD b [])).all λ r=>(qbl σ a).contains r)&&(qbl σ a).all λ r=>decide (r<σ.rw.length)
def qI(σ:St)(c a:List Nat):St:=
 ⟨c.map λ b=>qY (λ b=>c.idxOf b) (λ r=>a.idxOf r) (σ.bx.getD b []),a.map λ r=>σ.rw.getD r ⟨0,[],0,0,false⟩,[],[]⟩
def zO(l:List Nat)(n i:Nat):Nat:=match l[i]? with
 |some b=>b
 |none=>n+(i-l.length)
def zX{α:Type}(l:List α):List Nat->List α->List α
 |[],xs=>l++xs
 |_,[]=>l
 |b::a,x::xs=>zX (l.set b x) a xs
def qhr(σ:St)(b a:List Nat)(σ':St):St:=
 ⟨zX σ.bx b (σ'.bx.map (qY (zO b σ.bx.length) (zO a σ.rw.length))),zX σ.rw a σ'.rw,σ'.wr.map (zO b σ.bx.length)++σ.wr,σ'.wrr.map (zO a σ.rw.length)++σ.wrr⟩
def qf6(σ:St)(b a:List Nat):AV×Option St->AV×Option St
 |(r,none)=>(ren (zO b σ.bx.length) (zO a σ.rw.length) r,none)
 |(r,some σ')=>(ren (zO b σ.bx.length) (zO a σ.rw.length) r,some (qhr σ b a σ'))
def qhs(C:Cfg)(σ:St)(f:FuncId)(a:List AV):List AV×Option St:=
 match C.raw f with
 |true=>(a,none)
 |false=>match a.flatMap rsA with
   |[]=>(a.map (jm σ.rw),none)
   |r::l=>(a.map (jm σ.rw),some {σ with rw:=frz σ.rw (r::l),wrr:=(r::l)++σ.wrr})
def Qt(σ:St)(a:List AV)(c:St->List AV->Option (AV×Option St)):Option (AV×Option St):=
 match qfZ σ a with
 |true=>match c (qI σ (Qi σ a) (qbl σ a)) (qY (λ b=>(Qi σ a).idxOf b) (λ r=>(qbl σ a).idxOf r) a)with
   |some r=>some (qf6 σ (Qi σ a) (qbl σ a) r)
   |none=>none
 |false=>none
def isV:AV->Bool
 |.v _=>true
 |_=>false
def qjj:AV->Bool
 |.tup vs=>vs.all isV
 |x=>isV x
def qoa(a:List AV)(σ:St):Option (AV×Option St)->Option (AV×Option St)
 |some (r,none)=>match qjj r&&(rbL a).isEmpty&&(rrL a).isEmpty with
   |true=>some (r,none)
   |false=>some (r,some σ)
 |r=>r
def qbv(C:Cfg)(ex:jP)(σ:St)(f:FuncId)(a:List AV):Option (AV×Option St):=
 match qhs C σ f a with
 |(a,none)=>Qt σ a λ σ a=>qbS C ex σ f a
 |(a,some σ')=>qoa a σ' (Qt σ' a λ σ a=>qbS C ex σ f a)
def jI(x:AV):Bool:=(rb x).isEmpty&&(rr x).isEmpty
def noRefs(xs:List AV):Bool:=xs.all jI
def qzb(C:Cfg)(ex:jP)(σ:St)(fn:Func)(a:List AV):Option (AV×Option St):=match fn.body with
 |none=>none
 |some c=>match ex c ⟨a++List.replicate (fn.ntmps-a.length) .dead,σ⟩with
   |some (.exit _,_)=>none
   |some (_,b)=>match qaV C fn b with
     |some r=>some (r,some b.σ)
     |none=>none
   |none=>none
def qds(C:Cfg)(ex:jP)(σ:St)(f:FuncId)(a:List AV):Option (AV×Option St):=
 match C.lo f with
 |true=>match C.inl f with
   |some fn=>qzb C ex σ fn a
   |none=>qbv C ex σ f a
 |false=>match C.raw f,noRefs (a.map (jm σ.rw))with
   |false,true=>match qbv C ex σ f a with
     |some (r,o)=>match jI r with
       |true=>some (r,o)
       |false=>none
     |none=>none
   |_,_=>none
def qgH(b:List AV):Callee->Option (FuncId×List AV)
 |.value f=>match aev b f with
   |.fn f a=>some (f,a)
   |_=>none
 |_=>none
def opA(C:Cfg)(ex:jP)(d:List AV)(σ:St)(op:Op):Option (AV×Option St):=
 match op with
 |.call c=>match c.callee with
   |.builtin b=>jz C σ b c.argTypes (c.args.toList.map (aev d))
   |e=>match qgH d e with
     |some (f,a)=>qds C ex σ f (c.args.toList.map (aev d)++a)
     |none=>none
 |op=>qc C d σ op
def yw(ops:Array Oper)(c:List AV)(o:Oper):Option Bool:=
 match o.guard with
 |none=>some true
 |some (j,a)=>match(ops[j]?).bind (·.dst)with
   |none=>none
   |some d=>match c.getD d .dead with
     |.v (.bool b)=>some (Je b a)
     |.tup []=>some false
     |_=>none
def qbq(a:List AV):Option Tmp->AV->List AV
 |none,_=>a
 |some d,x=>a.set d x
def qht:AV:=.tup []
def zp(b:Nat->Bool):Op->Bool
 |.store ..|.mapUpdate ..|.insert ..|.makeMap .. => true
 |.call {callee:=.builtin .append,.. }=>true
 |.call {callee:=.value (.func f),.. }=>b f
 |_=>false
def turn(σ:St):Option St->St
 |none=>σ
 |some σ'=>σ'
def Qd:Op->Bool
 |.load .. |.store .. |.indexAddr .. |.convert .. |.lookup .. |.mapUpdate .. |.insert .. => true
 |.call {callee:=.builtin .max,.. }|.call {callee:=.builtin .min,.. }=>false
 |.call _=>true
 |_=>false
def jG(o:Oper):List Nat:=(o.after.toList.filter (Region.binds .any)).map (·.on)
def qr6(a:List Nat)(o:Oper):Nat:=(jG o).foldl (λ m e=>m|||(2^e|||a.getD e 0)) 0
def QX:List Oper->List Nat->List Nat
 |[],a=>a
 |o::r,a=>QX r (a++[qr6 a o])
def qbc(ops:Array Oper)(o:Oper):List Tmp:=
 o.dst.toList++(o.op.operands.toList.filterMap λ|.tmp t=>some t|_=>none)++match o.guard with
  |none=>[]
  |some (j,_)=>((ops[j]?).bind (·.dst)).toList
def qlX(t:Tmp)(o:Oper):Bool:=match o.dst with
 |some d=>Nat.beq d t
 |none=>false
def qdA(ops:List Oper)(t:Tmp):List (Oper×Nat):=ops.zipIdx.filter λ p=>qlX t p.1
def qLX:Op->Option Tmp
 |.fieldAddr _ (.tmp u) _|.move (.tmp u)|.assign (.tmp u)|.nilCheck (.tmp u)=>some u
 |_=>none
def qme(ops:Array Oper):Nat->Nat->Tmp->Option Tmp
 |0,_,_=>none
 |n+1,k,t=>match qdA ops.toList t with
   |[]=>some t
   |[(o,i)]=>match qLX o.op,decide (i<k)with
     |some u,true=>qme ops n i u
     |_,_=>none
   |_=>none
def qBj(ops:Array Oper)(k:Nat)(t:Tmp):Option Tmp:=qme ops 6 k t
def yW(a:List AV)(ops:Array Oper)(k:Nat)(t:Tmp):Option Nat:=match qBj ops k t with
 |some u=>match a.getD u .dead with
   |.ptr b _=>some b
   |_=>none
 |none=>none
def qKS:AV->Bool
 |.rpt ..|.ept .. => true
 |_=>false
def qdy(a:List AV)(ops:Array Oper)(k:Nat)(t:Tmp):Bool:=match qBj ops k t with
 |some u=>qKS (a.getD u .dead)
 |none=>false
def qi6(c:List AV)(ops:Array Oper)(j:Nat)(o:Oper)(i:Nat)(q:Oper):Bool:=match o.op,q.op with
 |.store _ (.tmp a) _,.load _ (.tmp b)=>match yW c ops j a,yW c ops i b with
   |some x,some y => !Nat.beq x y
   |some _,none=>qdy c ops i b
   |_,_=>false
 |.call ⟨.builtin .append,_,_⟩,.load _ (.tmp b)|.call ⟨.value _,_,_⟩,.load _ (.tmp b)=>(yW c ops i b).isSome
 |_,_=>false
def qfM(a:List AV)(ops:Array Oper)(j:Nat)(o:Oper)(i:Nat)(q:Oper):Bool:=qi6 a ops j o i q||qi6 a ops i q j o
def qvD(C:Cfg)(c:List AV)(σ:St):Op->List Nat
 |.call ⟨.value g,as,_⟩=>match qgH c (.value g)with
   |some (f,b)=>match C.inl f with
     |some _=>List.range σ.bx.length
     |none=>match qhs C σ f (as.toList.map (aev c)++b)with
       |(a,none)=>Qi σ a
       |(a,some σ')=>Qi σ' a
   |none=>[]
 |_=>[]
def qy0:Op->Bool
 |.call ⟨.value _,_,_⟩=>true
 |_=>false
def qcx(C:Cfg)(ops:Array Oper)(j:Nat)(b:List AV)(σ:St)(op:Op):Bool := !qy0 op||ops.toList.zipIdx.all λ(q,i)=>match q.op with
 |.load _ (.tmp a)=>((QX ops.toList []).getD (max i j) 0).testBit (min i j)||match yW b ops i a with
   |some y=>decide (y<σ.bx.length) && !(qvD C b σ op).contains y
   |none=>false
 |_=>true
def zD(C:Cfg)(ex:jP)(ops:Array Oper)(b:Bool):List Oper->S->Option S
 |[],s=>some s
 |o::a,s=>match yw ops s.tm o with
   |some true=>match opA C ex s.tm s.σ o.op with
     |some (x,none)=>zD C ex ops b a ⟨qbq s.tm o.dst x,s.σ⟩
     |some (x,some σ')=>match b && !(zp C.lo o.op&&qcx C ops (ops.size-(a.length+1)) s.tm s.σ o.op)with
       |true=>none
       |false=>zD C ex ops b a ⟨qbq s.tm o.dst x,σ'⟩
     |none=>none
   |some false=>zD C ex ops b a ⟨qbq s.tm o.dst qht,s.σ⟩
   |none=>none
def qqZ:Op->Bool
 |.makeMap _ _=>true
 |_=>false
def qmk(a:Nat->Bool):Op->Bool
 |.load .. |.indexAddr .. => true
 |.call ⟨.value (.func f),_,_⟩ => !a f
 |_=>false
def qlC(a:Nat->Bool)(o q:Oper):Bool:=zp a o.op&&((Qd q.op||zp a q.op) && !(qqZ o.op&&qmk a q.op))
def qo6(a:Nat->Bool)(o q:Oper):Bool:=qlC a o q||qlC a q o
def qjB(a:Nat->Bool)(b:List AV)(ops:Array Oper)(j:Nat)(o:Oper)(i:Nat)(q:Oper):Bool:=
 (match q.dst with|some d=>(qbc ops o).contains d|none=>false)||(qo6 a o q && !qfM b ops j o i q)
def qbP(a:Nat->Bool)(c:List AV)(ops:Array Oper):Bool:=
 let b:=QX ops.toList []
 ops.toList.zipIdx.all λ(o,j)=>((jG o).all λ e=>decide (e<j))&&ops.toList.zipIdx.all λ(q,i)=>
  decide (i=j) || !qjB a c ops j o i q||(b.getD (max i j) 0).testBit (min i j)
def qpv(a:Nat->Bool)(ops:Array Oper)(o q:Oper):Bool:=
 (match q.dst with|some d=>(qbc ops o).contains d|none=>false)||(zp a o.op&&zp a q.op)
def qcG(a:Nat->Bool)(ops:Array Oper):Bool:=
 let b:=QX ops.toList []
 ops.toList.zipIdx.all λ(o,j)=>((jG o).all λ e=>decide (e<j))&&ops.toList.zipIdx.all λ(q,i)=>
  decide (i=j) || !qpv a ops o q||(b.getD (max i j) 0).testBit (min i j)
def qfq(b:Nat->Bool)(c:List AV)(ops:Array Oper)(a:Bool):Bool:=match a with
 |true=>qbP b c ops
 |false=>true
def stP(o:Oper):Option (Tmp×Operand):=match o.op with
 |.store _ (.tmp a) v=>match o.guard,o.dst with
   |none,none=>some (a,v)
   |_,_=>none
 |_=>none
def ixP(o:Oper):Option Tmp:=match o.op with
 |.indexAddr _ _ _=>match o.guard,o.dst with
   |none,some d=>some d
   |_,_=>none
 |_=>none
def qHJ(d:Tmp):Operand->Bool
 |.tmp t => !Nat.beq t d
 |_=>true
def quW:Nat->Nat->Bool
 |0,_=>true
 |k+1,b=>b.testBit k&&quW k b
def qHY(a:List Nat)(m:Nat)(p o q:Oper):Bool:=((jG p).all λ e=>Nat.blt e m)&&(((jG o).all λ e=>Nat.blt e (m+1))&&(((jG q).all λ e=>Nat.blt e m)&&(quW m (a.getD m 0)&&(quW (m+1) (a.getD (m+1) 0)&&quW m (a.getD (m+2) 0)))))
def qPz(c:List Nat)(n:Nat):List Oper->Option Tmp
 |[p,o,q]=>match ixP p,stP o,stP q with
   |some d,some a,some b=>match(Nat.beq a.1 d&&(!Nat.beq b.1 d&&qHJ d b.2))&&qHY c n p o q with
     |true=>some b.1
     |false=>none
   |_,_,_=>none
 |_=>none
def qgV(ops:Array Oper):List Oper:=ops.toList.drop (ops.toList.length-3)
def qco(ops:Array Oper):Array Oper:=⟨ops.toList.take (ops.toList.length-3)⟩
def qo5(ops:Array Oper)(a:Bool):Option Tmp:=match a with
 |true=>qPz (QX ops.toList []) (ops.toList.length-3) (qgV ops)
 |false=>none
def qy8:AV->Bool
 |.ptr _ _=>true
 |_=>false
def qGO(a:List AV)(ops:Array Oper):Bool:=match qgV ops with
 |p::_=>match p.op with
   |.indexAddr _ u _ => !qy8 (aev a u)
   |_=>false
 |[]=>false
def quH(a:List AV)(ops:Array Oper)(p:Tmp):Bool:=qy8 (a.getD p .dead)&&qGO a ops
def zP(o:Oper):Bool:=match o.op with
 |.alloc _=>true
 |_=>false
def qje(ops:Array Oper)(a:Bool):Bool:=a&&ops.toList.any zP
def qLJ(ops:List Oper)(o:Oper):Bool := !zP o&&ops.any λ q=>zP q&&match q.dst with
 |some d=>(qbc ⟨ops⟩ o).contains d
 |none=>false
def qHH(ops:List Oper):List Oper->Nat
 |[]=>0
 |o::r=>match qLJ ops o with
   |true=>0
   |false=>qHH ops r+1
def qcI(_:Nat->Bool)(ops:List Oper):Nat:=qHH ops ops
def jV(o:Oper):Oper:=match zP o with
 |true=>{o with op:=.move (.global 0)}
 |false=>o
def qJ(lo:Nat->Bool)(ops:List Oper):List Oper:=(ops.take (qcI lo ops)).map jV
def alL(lo:Nat->Bool)(ops:List Oper):List Oper:=(ops.take (qcI lo ops)).filter zP
def qqK(lo:Nat->Bool)(ops:List Oper):List Oper:=ops.drop (qcI lo ops)
def qgZ(ops:List Oper)(o:Oper):Bool:=(!Qd o.op && !qqZ o.op)&&(!zP o&&ops.all λ q => !zP q||match q.dst with
 |some d => !(qbc ⟨ops⟩ o).contains d
 |none=>true)
def qtQ:Op->Bool
 |.load .. |.indexAddr .. => true
 |_=>false
def qsm(ops:List Oper)(o:Oper):Bool:=qtQ o.op && !qLJ ops o
def qwv(ops:List Oper)(o:Oper):Bool:=match o.op with
 |.store _ (.tmp a) _=>ops.any λ q=>zP q&&qlX a q
 |_=>false
def qbh(ops:List Oper)(o:Oper):Bool:=qgZ ops o||qsm ops o
def qi0(lo:Nat->Bool)(ops:List Oper):Bool:=
 let b:=QX ops []
 ops.zipIdx.all λ(o,j)=>((jG o).all λ e=>decide (e<j))&&((Nat.blt j (qcI lo ops)||(List.range j).all λ i=>(b.getD j 0).testBit i||(Nat.blt i (qcI lo ops)&&match ops[i]? with
  |some q=>qgZ ops q||(qsm ops q&&qwv ops o)
  |none=>false))&&(!zP o||(o.guard.isNone&&match o.dst with
  |some d=>Nat.beq (qdA ops d).length 1
  |none=>false)))
def Qc:Code->Bool
 |.seq a b|.cond _ a b=>Qc a&&Qc b
 |.block _ b|.loop b=>Qc b
 |_=>true
def qcq(s:S)(t:Nat):S:=match rsA (s.tm.getD t .dead)with
 |[]=>s
 |r::l=>⟨s.tm.set t (jm s.σ.rw (s.tm.getD t .dead)),{s.σ with rw:=frz s.σ.rw (r::l),wrr:=(r::l)++s.σ.wrr}⟩
def qfz(ts:List Nat)(s:S):S:=ts.foldl qcq s
def qcj(C:Cfg)(ex:jP):jP
 |.skip,s|.label _,s=>some (.normal,s)
 |.region _ ops d,s=>match qje ops d with
   |true=>match qi0 C.lo ops.toList&&(qcG C.lo ops&&qfq C.lo s.tm ⟨qJ C.lo ops.toList⟩ true),zD C ex ⟨qJ C.lo ops.toList⟩ true (qJ C.lo ops.toList) s with
     |true,some f=>match zD C ex ops false (alL C.lo ops.toList) f with
       |some g=>match zD C ex ops true (qqK C.lo ops.toList) g with
         |some e=>some (.normal,e)
         |none=>none
       |none=>none
     |_,_=>none
   |false=>match qo5 ops d with
     |some p=>match qfq C.lo s.tm (qco ops) true,zD C ex (qco ops) true (qco ops).toList s with
       |true,some f=>match quH f.tm ops p,zD C ex ops true (qgV ops) f with
         |true,some e=>some (.normal,e)
         |_,_=>none
       |_,_=>none
     |none=>match qfq C.lo s.tm ops d,zD C ex ops d ops.toList s with
       |true,some e=>some (.normal,e)
       |_,_=>none
 |.seq a b,s=>match ex a s with
   |some (.normal,e)=>ex b e
   |r=>r
 |.cond c x y,s=>match aev s.tm c with
   |.v (.bool true)=>ex x s
   |.v (.bool false)=>ex y s
   |_=>none
 |.block id b,s=>match ex b s with
   |some (.exit i,e)=>some (if i=id then .normal else .exit i,e)
   |r=>r
 |.loop b,s=>match ex b (qfz (C.pur b) s)with
   |some (.normal,e)=>ex (.loop b) e
   |r=>r
 |.exit id,s=>some (.exit id,s)
 |.ret,s=>some (.ret,s)
 |_,_=>none
def Q8(C:Cfg):Nat->jP
 |0=>λ _ _=>none
 |n+1=>qcj C (Q8 C n)
end Go.AmZ
namespace Go.AmZ
open Go Go.RowKit
structure Gh where
 mem:Nat->Nat->Option Value
 nb:Nat
 β:Nat->Nat
 nr:Nat
 ver:Nat->Nat
 k:Nat->Nat
 cur:Nat->Nat
 sz:Nat->Nat
 of:Nat->Nat
inductive Rep (Γ:Gh):AV->Value->Prop
 |v (x:Value) (h:zF x=true):Rep Γ (.v x) x
 |dead (u:Value):Rep Γ .dead u
 |sl (k:Nat) (es:List (List AV)) (f:Nat) (a:Option Addr) (n cap b o:Nat) (us:Nat->Nat->Value) (hn:n=es.length) (hc:0<f->n<=cap) (hf:1<f->cap=n) (hk:∀e∈es,e.length=k) (hp:∀e∈es,∀x∈e,qu x=true) (h0:0<k)
  (ha:es=[]\/a=some ⟨b,o,none⟩) (hm:∀(i:Nat) (e:List AV) (j:Nat) (x:AV),es[i]?=some e->e[j]?=some x->Γ.mem b (o+i*k+j)=some (us i j))
  (hr:∀(i:Nat) (e:List AV) (j:Nat) (x:AV),es[i]?=some e->e[j]?=some x->Rep Γ x (us i j)):Rep Γ (.sl k es f) (.slice a n cap)
 |rs (r lo n ep:Nat) (f:Bool) (a:Option Addr) (cap:Nat) (hr:r<Γ.nr) (hv:ep<=Γ.ver r) (hc:n<=cap) (hf:f=true->cap=n)
  (hl:Γ.ver r=ep->(cap=0\/a=some ⟨Γ.cur r,Γ.of r+lo*Γ.k r,none⟩)/\Γ.of r+(lo+cap)*Γ.k r<=Γ.sz r):Rep Γ (.rs r lo n ep f) (.slice a n cap)
 |ptr (b o:Nat) (h:b<Γ.nb):Rep Γ (.ptr b o) (.pointer (some ⟨Γ.β b,o,none⟩))
 |rpt (r i o ep:Nat) (A:Addr) (hr:r<Γ.nr) (hv:ep<=Γ.ver r) (hl:Γ.ver r=ep->A=⟨Γ.cur r,Γ.of r+i*Γ.k r+o,none⟩):Rep Γ (.rpt r i o ep) (.pointer (some A))
 |ept (cs:List AV) (o b o':Nat) (us:Nat->Value) (hp:∀x∈cs,qu x=true) (hm:∀(j:Nat) (x:AV),cs[j]?=some x->Γ.mem b (o'+j)=some (us j)) (hr:∀(j:Nat) (x:AV),cs[j]?=some x->Rep Γ x (us j)):Rep Γ (.ept cs o) (.pointer (some ⟨b,o'+o,none⟩))
 |fn (f:FuncId) (cs:List AV) (us:List Value) (hn:us.length=cs.length) (hr:∀(i:Nat) (x:AV) (u:Value),cs[i]?=some x->us[i]?=some u->Rep Γ x u):Rep Γ (.fn f cs) (.func (.func f) #[] us.toArray)
 |agg (cs:List AV) (us:List Value) (hn:us.length=cs.length) (h1:∀u∈us,u.oneCell'=true) (hr:∀(i:Nat) (x:AV) (u:Value),cs[i]?=some x->us[i]?=some u->Rep Γ x u):Rep Γ (.agg cs) (.agg us.toArray)
 |tup (cs:List AV) (us:List Value) (hn:us.length=cs.length) (hr:∀(i:Nat) (x:AV) (u:Value),cs[i]?=some x->us[i]?=some u->Rep Γ x u):Rep Γ (.tup cs) (.tuple us.toArray)
 |mp (b:Nat) (h:b<Γ.nb):Rep Γ (.mp b) (.map (some (Γ.β b)))
structure RepL (Γ:Gh) (cs:List AV) (us:List Value):Prop where
 len:us.length=cs.length
 rep:∀(i:Nat) (x:AV) (u:Value),cs[i]?=some x->us[i]?=some u->Rep Γ x u
structure Le (Γ Γ':Gh):Prop where
 mem:∀b o u,Γ.mem b o=some u->Γ'.mem b o=some u
 nb:Γ.nb<=Γ'.nb
 β:∀i,i<Γ.nb->Γ'.β i=Γ.β i
 nr:Γ.nr<=Γ'.nr
 k:∀r,r<Γ.nr->Γ'.k r=Γ.k r
 ver:∀r,r<Γ.nr->Γ.ver r<=Γ'.ver r
 loc:∀r,r<Γ.nr->Γ'.ver r=Γ.ver r->Γ'.cur r=Γ.cur r/\Γ'.sz r=Γ.sz r/\Γ'.of r=Γ.of r
theorem Le.refl(Γ:Gh):Le Γ Γ:=⟨λ _ _ _ h=>h,wa _,λ _ _=>rfl,wa _,λ _ _=>rfl,λ _ _=>wa _,λ _ _ _=>⟨rfl,rfl,rfl⟩⟩
theorem Le.trans{a b c:Gh}(h:Le a b)(g:Le b c):Le a c where
 mem:=λ x o u e=>g.mem _ _ _ (h.mem _ _ _ e)
 nb:=wE h.nb g.nb
 β:=λ i f=>(g.β i (wC f h.nb)).trans (h.β i f)
 nr:=wE h.nr g.nr
 k:=λ r d=>(g.k r (wC d h.nr)).trans (h.k r d)
 ver:=λ r d=>wE (h.ver r d) (g.ver r (wC d h.nr))
 loc:=λ r d e=>by
  have t:=h.ver r d;have s:=g.ver r (wC d h.nr);let⟨q,p,n⟩:=h.loc r d (by omega);let⟨m,l,j⟩:=g.loc r (wC d h.nr) (by omega);exact⟨m.trans q,l.trans p,j.trans n⟩
theorem Rep.mono{Γ Γ':Gh}(d:Le Γ Γ'){x:AV}{u:Value}(h:Rep Γ x u):Rep Γ' x u:=by
 induction h with
 |v x h=>exact .v x h
 |dead u=>exact .dead u
 |sl k es f a n cap b o us m y w F t H G p c g=>exact .sl k es f a n cap b o us m y w F t H G (λ i e j x l z=>d.mem _ _ _ (p i e j x l z)) (λ i e j x l z=>g i e j x l z)
 |rs r lo n B f a cap c s y w q=>
   have l:=d.ver r c;refine .rs r lo n B f a cap (wC c d.nr) (wE s l) y w λ p=>?_;let⟨e1,D,C⟩:=d.loc r c (by omega);rw[e1,D,C,d.k r c];exact q (by omega)
 |ptr b o h=>rw[<-d.β b h];exact .ptr b o (wC h d.nb)
 |rpt r i o B A c s q=>
   have l:=d.ver r c;refine .rpt r i o B A (wC c d.nr) (wE s l) λ p=>?_;let⟨e1,D,C⟩:=d.loc r c (by omega);rw[e1,C,d.k r c];exact q (by omega)
 |ept cs o b E us t p c g=>exact .ept cs o b E us t (λ j x h=>d.mem _ _ _ (p j x h)) g
 |fn f cs us m c g=>exact .fn f cs us m g
 |agg cs us m l c g=>exact .agg cs us m l g
 |tup cs us m c g=>exact .tup cs us m g
 |mp b h=>rw[<-d.β b h];exact .mp b (wC h d.nb)
theorem RepL.mono{Γ Γ':Gh}(c:Le Γ Γ'){cs:List AV}{us:List Value}(h:RepL Γ cs us):RepL Γ' cs us:=⟨h.len,λ i x u a b=>(h.rep i x u a b).mono c⟩
theorem RepL.nil{Γ:Gh}:RepL Γ [] []:=⟨rfl,λ i x u h=>by simp at h⟩
theorem RepL.cons{Γ:Gh}{x:AV}{u:Value}{cs:List AV}{us:List Value}(h:Rep Γ x u)(t:RepL Γ cs us):RepL Γ (x::cs) (u::us):=by
 refine⟨by simp[t.len],λ i y v a b=>?_⟩;cases i with
 |zero=>simp at a b;subst a;subst b;exact h
 |succ i=>simp at a b;exact t.rep i y v a b
theorem RepL.uncons{Γ:Gh}{x:AV}{cs:List AV}{us:List Value}(h:RepL Γ (x::cs) us):∃u r,us=u::r/\Rep Γ x u/\RepL Γ cs r:=by
 let⟨d,c⟩:=h;cases us with
 |nil=>simp at d
 |cons u r=>exact⟨u,r,rfl,c 0 x u rfl rfl,by simpa using d,λ i y v a b=>c (i+1) y v (by simpa using a) (by simpa using b)⟩
theorem RepL.nil_inv{Γ:Gh}{us:List Value}(h:RepL Γ [] us):us=[]:=kE.1 h.len
theorem RepL.get{Γ:Gh}{cs:List AV}{us:List Value}(h:RepL Γ cs us){i:Nat}{x:AV}(a:cs[i]?=some x):∃u,us[i]?=some u/\Rep Γ x u:=by
 have b:i<us.length:=by rw[h.len];exact(List.getElem?_eq_some_iff.1 a).1
 exact⟨us[i],List.getElem?_eq_getElem b,h.rep i x _ a (List.getElem?_eq_getElem b)⟩
theorem RepL.append{Γ:Gh}{a b:List AV}{u v:List Value}(h:RepL Γ a u)(g:RepL Γ b v):RepL Γ (a++b) (u++v):=by
 induction a generalizing u with
 |nil=>rw[h.nil_inv];exact g
 |cons x a c=>
   obtain⟨y,r,rfl,e,d⟩:=h.uncons;exact RepL.cons e (c d)
theorem RepL.take{Γ:Gh}{a:List AV}{u:List Value}(h:RepL Γ a u)(n:Nat):RepL Γ (a.take n) (u.take n):=by
 refine⟨by simp[h.len],λ i x w b c=>?_⟩;rw[List.getElem?_take]at b c;split at b
 .rename_i d;rw[if_pos d]at c;exact h.rep i x w b c
 .cases b
theorem RepL.drop{Γ:Gh}{a:List AV}{u:List Value}(h:RepL Γ a u)(n:Nat):RepL Γ (a.drop n) (u.drop n):=by
 refine⟨by simp[h.len],λ i x w b c=>?_⟩;rw[List.getElem?_drop]at b c;exact h.rep _ x w b c
theorem RepL.set{Γ:Gh}{a:List AV}{u:List Value}(h:RepL Γ a u)(n:Nat){x:AV}{y:Value}(d:Rep Γ x y):RepL Γ (a.set n x) (u.set n y):=by
 refine⟨by simp[h.len],λ i x' w b c=>?_⟩;rw[List.getElem?_set]at b c;have f:=h.len;split at b
 .grind
 .rename_i e;rw[if_neg e]at c;exact h.rep i x' w b c
theorem qBT{x:Value}(h:zF x=true):x.oneCell'=true:=by
 cases x<;>simp_all [zF,Value.oneCell']
theorem Rep.one{Γ:Gh}{x:AV}{u:Value}(h:Rep Γ x u)(a:isC x=true):u.oneCell'=true:=by
 cases h<;>first|(exact qBT ‹_›)|rfl|(simp[isC]at a)
theorem qIp{u:Value}(h:u.oneCell'=true):u.cells = #[u]:=by
 cases u<;>simp_all [Value.oneCell',Value.cells]
theorem Rep.cells{Γ:Gh}{x:AV}{u:Value}(h:Rep Γ x u)(f:(cellsOf x).all isC=true):RepL Γ (cellsOf x) u.cells.toList/\∀y∈u.cells.toList,y.oneCell'=true:=by
 have c:isC x=true->cellsOf x=[x]->RepL Γ (cellsOf x) u.cells.toList/\∀y∈u.cells.toList,y.oneCell'=true:=by
  intro d k;rw[k,qIp (h.one d)];exact⟨RepL.cons h RepL.nil,by intro y e;simp at e;subst e;exact h.one d⟩
 cases h with
 |agg cs us j d g=>exact⟨⟨by simpa[Value.cells,cellsOf]using j,λ i x u a b=>g i x u a (by simpa[Value.cells]using b)⟩,by simpa[Value.cells]using d⟩
 |v x h=>exact c rfl rfl
 |dead u=>simp[cellsOf,isC]at f
 |sl|rs|ptr|rpt|ept|fn=>exact c rfl rfl
 |tup=>simp[cellsOf,isC]at f
 |mp=>exact c rfl rfl
theorem Rep.cells_len{Γ:Gh}{x:AV}{u:Value}(h:Rep Γ x u)(a:(cellsOf x).all isC=true):u.cells.size=(cellsOf x).length:=by
 have:=(h.cells a).1.len;simpa using this
def qiq(Γ:Gh)(w:World)(b:Nat)(cs:List AV):Prop:=
 ∃vs e,w.heap[b]?=some (.cells vs e (0,0))/\RepL Γ cs vs.toList/\∀u∈vs.toList,u.oneCell'=true
def qIe(Γ:Gh)(b:List KC)(c a:Bool)(k v:List AV)(e:MapEntry):Prop:=
 Rep Γ (QJ c k) e.key/\Rep Γ (QJ a v) e.val/\ym b k=true/\v.all qu=true
structure qc1 (Γ:Gh) (w:World) (b:Nat) (kc:List KC) (ka va:Bool) (ks vs:List (List AV)):Prop where
 len:vs.length=ks.length
 obj:∃es clock,w.heap[b]?=some (.map es clock)/\es.size=ks.length/\∀(j:Nat) (k v:List AV) (e:MapEntry),ks[j]?=some k->vs[j]?=some v->es[j]?=some e->qIe Γ kc ka va k v e
def QF(Γ:Gh)(w:World)(i:Nat):List AV->Prop
 |[.mc b c a ks vs]=>qc1 Γ w (Γ.β i) b c a ks vs
 |cs=>qiq Γ w (Γ.β i) cs
theorem QF.cells{Γ:Gh}{w:World}{i:Nat}{cs:List AV}(h:QF Γ w i cs)(a:noMc cs=true):qiq Γ w (Γ.β i) cs:=by
 unfold QF at h;split at h
 .cases a
 .exact h
theorem qJz{Γ:Gh}{b:List KC}{c a:Bool}{ks vs:List (List AV)}{u:Value}(h:Rep Γ (.mc b c a ks vs) u):False:=by cases h
theorem qiq.noMc{Γ:Gh}{w:World}{b:Nat}{cs:List AV}(h:qiq Γ w b cs):noMc cs=true:=by
 let⟨vs,e,d,a,c⟩:=h;unfold Go.AmZ.noMc;split
 .let⟨u,_,h⟩:=a.get (i:=0) rfl;exact(qJz h).elim
 .rfl
theorem QF.of{Γ:Gh}{w:World}{i:Nat}{cs:List AV}(h:qiq Γ w (Γ.β i) cs):QF Γ w i cs:=by
 have a:=h.noMc;unfold QF;split
 .cases a
 .exact h
theorem QF.split{Γ:Gh}{w:World}{i:Nat}{cs:List AV}(h:QF Γ w i cs):qiq Γ w (Γ.β i) cs\/∃b c a ks vs,cs=[.mc b c a ks vs]/\qc1 Γ w (Γ.β i) b c a ks vs:=by
 unfold QF at h;grind
theorem qG7(a:List KC)(k:List AV):ym a k=true->k.all qu=true:=by
 fun_induction ym a k<;>simp_all [qu]
theorem qc1.to{Γ Γ':Gh}{w w':World}{b B:Nat}{y:List KC}{z s:Bool}{ks vs:List (List AV)}(h:qc1 Γ w b y z s ks vs)(E:∀o,w.heap[b]?=some o->w'.heap[B]?=some o)(A:∀x u,Rep Γ x u->rb x=[]->rr x=[]->Rep Γ' x u):qc1 Γ' w' B y z s ks vs:=by
 let⟨I,es,d,H,G,F⟩:=h;refine⟨I,es,d,E _ H,G,λ j k v e a b c=>?_⟩;let⟨K,J,g3,p⟩:=F j k v e a b c
 have i:∀(g:Bool) (cs:List AV),cs.all qu=true->rb (QJ g cs)=[]/\rr (QJ g cs)=[]:=by
  intro g cs n;have f:∀x,qu x=true->rb x=[]/\rr x=[]:=λ x D=>by cases x<;>first|exact⟨rfl,rfl⟩|(simp[qu]at D)
  have all:∀l:List AV,l.all qu=true->rbL l=[]/\rrL l=[]:=by
   intro l
   induction l with
   |nil=>exact λ _=>⟨rfl,rfl⟩
   |cons x l C=>
     intro m;rw[km,wc]at m;let⟨r,q⟩:=f x m.1;let⟨M,L⟩:=C m.2;exact⟨by rw[rbL,r,M];rfl,by rw[rrL,q,L];rfl⟩
  cases g with
  |true=>let⟨r,q⟩:=all cs n;exact⟨by rw[QJ,rb,r],by rw[QJ,rr,q]⟩
  |false=>
    unfold QJ;split
    .cases ‹_›
    .split
     .rw[km,wc]at n;exact f _ n.1
     .exact⟨rfl,rfl⟩
 have t:=qG7;exact⟨A _ _ K (i _ _ (t _ _ g3)).1 (i _ _ (t _ _ g3)).2,A _ _ J (i _ _ p).1 (i _ _ p).2,g3,p⟩
theorem qc1.lift{Γ Γ':Gh}{w w':World}{b e:Nat}{c:List KC}{d a:Bool}{ks vs:List (List AV)}(h:qc1 Γ w b c d a ks vs)(g:Le Γ Γ')(i:∀o,w.heap[b]?=some o->w'.heap[e]?=some o):qc1 Γ' w' e c d a ks vs:=h.to i λ _ _ f _ _=>f.mono g
theorem QF.to{Γ Γ':Gh}{w w':World}{i c:Nat}{cs:List AV}(f:AV->AV)(h:QF Γ w i cs)(g:∀o,w.heap[Γ.β i]?=some o->w'.heap[Γ'.β c]?=some o)(d:∀x u,Rep Γ x u->(x∈cs\/rb x=[]/\rr x=[])->Rep Γ' (f x) u)(k:∀x,rb x=[]->rr x=[]->f x=x):QF Γ' w' c (cs.map f):=by
 obtain⟨vs,e,r,l,q⟩|⟨t,v,s,ks,vs,rfl,p⟩:=h.split
 .refine .of ⟨vs,e,g _ r,⟨by rw[wB];exact l.len,λ j x u a n=>?_⟩,q⟩;rw[List.getElem?_map]at a;cases b:cs[j]? with
  |none=>rw[b]at a;cases a
  |some y=>
    rw[b]at a;cases a;exact d y u (l.rep j y u b n) (.inl (wb b))
 .rw[wo,xZ,k _ rfl rfl];exact p.to g λ x u a e1 m=>by have:=d x u a (.inr ⟨e1,m⟩);rwa [k x e1 m]at this
theorem QF.to'{Γ Γ':Gh}{w w':World}{i a:Nat}{cs:List AV}(h:QF Γ w i cs)(c:∀o,w.heap[Γ.β i]?=some o->w'.heap[Γ'.β a]?=some o)(b:∀x u,Rep Γ x u->(x∈cs\/rb x=[]/\rr x=[])->Rep Γ' x u):QF Γ' w' a cs:=by
 have:=h.to id c b λ _ _ _=>rfl
 rwa [List.map_id]at this
def qoP(n:Nat)(fr:Nat×Nat):Prop:=∀j,j<n->¬ (fr.1<=j/\j<fr.2)
theorem qBl(n:Nat):qoP n (0,0):=λ j _ h=>absurd h.2 (wK j)
structure qfW (Γ:Gh) (w:World) (r:Nat) (R:Row):Prop where
 k:R.k=Γ.k r
 ver:R.fz<=R.c.length->R.ver=Γ.ver r
 pos:0<R.k
 len:∀e∈R.c,e.length=R.k
 plain:∀e∈R.c,∀x∈e,qu x=true
 fz:R.c=[]\/R.fz<=R.c.length
 blk:Γ.sz r≠0->∃vs e fr,w.heap[Γ.cur r]?=some (.cells vs e fr)/\vs.size=Γ.sz r/\qoP vs.size fr/\(R.k≠1->fr=(0,0))
 fit:Γ.of r+R.c.length*R.k<=Γ.sz r
 un:Γ.sz r≠0->∀off,Γ.of r+R.fz*R.k<=off->Γ.mem (Γ.cur r) off=none
 cells:∀(i:Nat) (e:List AV) (j:Nat) (x:AV),R.c[i]?=some e->e[j]?=some x->∃u,w.cell? ⟨Γ.cur r,Γ.of r+(i*R.k+j),none⟩=some u/\Rep Γ x u/\u.oneCell'=true
 nbx:Γ.sz r≠0->∀i,i<Γ.nb->Γ.β i≠Γ.cur r
 off:R.off=false->Γ.of r=0
structure Inv (Γ:Gh) (σ:St) (w:World):Prop where
 nb:Γ.nb=σ.bx.length
 nr:Γ.nr=σ.rw.length
 mem:∀b o u,Γ.mem b o=some u->w.cell? ⟨b,o,none⟩=some u/\u.oneCell'=true
 box:∀i cs,σ.bx[i]?=some cs->QF Γ w i cs
 inj:∀i j,i<Γ.nb->j<Γ.nb->Γ.β i=Γ.β j->i=j
 boxmem:∀i,i<Γ.nb->∀o,Γ.mem (Γ.β i) o=none
 row:∀r R,σ.rw[r]?=some R->qfW Γ w r R
 apart:∀r r',r<Γ.nr->r'<Γ.nr->r≠r'->Γ.sz r≠0->Γ.sz r'≠0->Γ.cur r≠Γ.cur r'
def QC(Γ:Gh)(b:Nat):Prop:=(∃i,i<Γ.nb/\Γ.β i=b)\/∃r,r<Γ.nr/\Γ.sz r≠0/\Γ.cur r=b
structure Ext (Γ:Gh) (w:World) (Γ':Gh) (w':World):Prop where
 le:Le Γ Γ'
 os:w'.os=w.os
 tape:w'.tape=w.tape
 output:w'.output=w.output
 size:w.heap.size<=w'.heap.size
 block:∀b,b<w.heap.size->¬ QC Γ b->w'.heap[b]?=w.heap[b]?
 own:∀b,QC Γ' b->QC Γ b\/w.heap.size<=b
 memg:∀b o u,Γ'.mem b o=some u->Γ.mem b o=some u\/QC Γ b\/w.heap.size<=b
 drawn:w.drawn<=w'.drawn
theorem Ext.refl(Γ:Gh)(w:World):Ext Γ w Γ w:=⟨.refl _,rfl,rfl,rfl,wa _,λ _ _ _=>rfl,λ _ h=>.inl h,λ _ _ _ h=>.inl h,wa _⟩
theorem Ext.trans{Γ e d:Gh}{w i f:World}(h:Ext Γ w e i)(g:Ext e i d f):Ext Γ w d f where
 le:=h.le.trans g.le
 os:=g.os.trans h.os
 tape:=g.tape.trans h.tape
 output:=g.output.trans h.output
 size:=wE h.size g.size
 block:=λ b c j=>(g.block b (wC c h.size) λ k=>(h.own b k).elim j λ a=>by omega).trans (h.block b c j)
 own:=λ b c=>(g.own b c).elim (h.own b) λ a=>.inr (wE h.size a)
 memg:=λ b o u c=>(g.memg b o u c).elim (h.memg b o u) λ a=>.inr (a.elim (h.own b) λ a=>.inr (wE h.size a))
 drawn:=wE h.drawn g.drawn
theorem Inv.drew{Γ:Gh}{σ:St}{w:World}(h:Inv Γ σ w):Inv Γ σ {w with drawn:=w.drawn+1}:=by
 refine⟨h.nb,h.nr,λ b o u e=>h.mem b o u e,λ i cs e=>?_,h.inj,h.boxmem,λ r R e=>?_,h.apart⟩
 .obtain j|⟨t,v,s,ks,vs,rfl,l⟩:=(h.box i cs e).split
  .exact .of j
  .exact l.to (λ _ h=>h) λ _ _ h _ _=>h
 let⟨a,b,c,d,e1,f,g,j,q,p,n,m⟩:=h.row r R e;exact⟨a,b,c,d,e1,f,g,j,q,p,n,m⟩
theorem Ext.drew(Γ:Gh)(w:World):Ext Γ w Γ {w with drawn:=w.drawn+1}:=⟨.refl _,rfl,rfl,rfl,wa _,λ _ _ _=>rfl,λ _ h=>.inl h,λ _ _ _ h=>.inl h,ko _⟩
theorem qso{w:World}{b o:Nat}{u:Value}(h:w.cell? ⟨b,o,none⟩=some u):b<w.heap.size:=by
 unfold World.cell? at h;grind
theorem Inv.mem_lt{Γ:Gh}{σ:St}{w:World}(h:Inv Γ σ w){b o:Nat}{u:Value}(e:Γ.mem b o=some u):b<w.heap.size:=qso (h.mem b o u e).1
abbrev waK:=@RepL.cons
abbrev waL:=@RepL.mono
end Go.AmZ
namespace Go.AmZ
open Go Go.RowKit
theorem qbJ{w w':World}(a:Below w.heap.size w w'){b:Nat}{o:Obj}(h:w.heap[b]?=some o):w'.heap[b]?=some o:=by
 have:b<w.heap.size:=(Array.getElem?_eq_some_iff.1 h).1;rw[a.block b this];exact h
theorem qxr{w w':World}(a:Below w.heap.size w w'){b o:Nat}{u:Value}(h:w.cell? ⟨b,o,none⟩=some u):w'.cell? ⟨b,o,none⟩=some u:=by
 rw[a.cell (qso h)];exact h
theorem QU{w:World}{b:Nat}{vs:Array Value}{e:TypeId}{fr:Nat×Nat}(h:w.heap[b]?=some (.cells vs e fr))(off:Nat):w.cell? ⟨b,off,none⟩=vs[off]?:=by
 unfold World.cell?;grind
theorem getElem?_lt' {α:Type}{l:List α}{i:Nat}{x:α}(h:l[i]?=some x):i<l.length:=(List.getElem?_eq_some_iff.1 h).1
theorem qfW.lift{Γ Γ':Gh}{w w':World}{r:Nat}{R:Row}(h:qfW Γ w r R)(z:r<Γ.nr)(l:Le Γ Γ')(d:Γ'.ver r=Γ.ver r)
  (N:Γ.sz r≠0->∀ob,w.heap[Γ.cur r]?=some ob->w'.heap[Γ.cur r]?=some ob)
  (E:Γ.sz r≠0->∀off,Γ.mem (Γ.cur r) off=none->Γ'.mem (Γ.cur r) off=none) (p:Γ.sz r≠0->∀i,i<Γ'.nb->Γ.nb<=i->Γ'.β i≠Γ.cur r):qfW Γ' w' r R:=by
 let⟨k,n,pos,o,B,L,v,K,J,I,H,G⟩:=h;let⟨g,b,c⟩:=l.loc r z d;refine⟨k.trans (l.k r z).symm,λ D=>(n D).trans d.symm,pos,o,B,L,λ a=>?_,by rw[b,c];exact K,λ a off A=>by rw[b]at a;rw[c]at A;rw[g];exact E a off (J a off A),?_,?_,λ h=>c.trans (G h)⟩
 .grind
 .intro i M j x m F
  have a:Γ.sz r≠0:=by
   intro a;have s:=getElem?_lt' m;have:=wap (vZ (we _) s) pos;omega
  let⟨vs,e,fr,v,O,_⟩:=v a;let⟨u,C,q,y⟩:=I i M j x m F;refine⟨u,?_,q.mono l,y⟩;rw[QU v]at C;grind [QU]
 .intro a i m t;rw[b]at a;rw[g]at t;by_cases f:i<Γ.nb
  .exact H a i f (by rw[<-l.β i f];exact t)
  .exact p a i m (by omega) t
theorem QF.lift{Γ Γ':Gh}{w w':World}{i:Nat}{cs:List AV}(h:QF Γ w i cs)(b:i<Γ.nb)(a:Le Γ Γ')(c:∀o,w.heap[Γ.β i]?=some o->w'.heap[Γ.β i]?=some o):QF Γ' w' i cs:=by
 obtain⟨vs,e,j,g,f⟩|⟨l,m,k,ks,vs,rfl,d⟩:=h.split
 .exact .of ⟨vs,e,by rw[a.β i b];exact c _ j,g.mono a,f⟩
 .exact d.lift a (by rw[a.β i b];exact c)
theorem QF.heap{Γ:Gh}{w:World}{i:Nat}{cs:List AV}(h:QF Γ w i cs):∃o,w.heap[Γ.β i]?=some o:=by
 obtain⟨vs,e,b,_⟩|⟨d,f,c,ks,vs,rfl,_,es,a,b,_⟩:=h.split<;>exact⟨_,b⟩
theorem getElem?_lt {α:Type}{l:List α}{i:Nat}{x:α}(h:l[i]?=some x):i<l.length:=(List.getElem?_eq_some_iff.1 h).1
theorem qgN{Γ:Gh}{w w':World}(a:Below w.heap.size w w')(c:w.drawn<=w'.drawn):Ext Γ w Γ w':=⟨.refl _,a.os,a.tape,a.output,a.size,λ b d _=>a.block b d,λ _ h=>.inl h,λ _ _ _ h=>.inl h,c⟩
theorem Inv.box_lt{Γ:Gh}{σ:St}{w:World}(h:Inv Γ σ w){i:Nat}(b:i<Γ.nb):Γ.β i<w.heap.size:=by
 have a:i<σ.bx.length:=h.nb▸b;let⟨o,c⟩:=(h.box i _ (List.getElem?_eq_getElem a)).heap;grind
theorem Inv.cur_lt{Γ:Gh}{σ:St}{w:World}(h:Inv Γ σ w){r:Nat}(c:r<Γ.nr)(b:Γ.sz r≠0):Γ.cur r<w.heap.size:=by
 have a:r<σ.rw.length:=h.nr▸c;let⟨vs,e,fr,f,d,_⟩:=(h.row r _ (List.getElem?_eq_getElem a)).blk b;grind
theorem qfW.live{Γ:Gh}{w:World}{r:Nat}{R:Row}(h:qfW Γ w r R){i:Nat}{e:List AV}(a:R.c[i]?=some e):R.fz<=R.c.length:=h.fz.resolve_left λ b=>by rw[b]at a;cases a
theorem qfW.liveN{Γ:Gh}{w:World}{r:Nat}{R:Row}(h:qfW Γ w r R){m n:Nat}(a:m+n<=R.c.length)(d:0<n):R.fz<=R.c.length:=h.fz.resolve_left λ b=>by rw[b]at a;simp at a;omega
theorem qfW.real{Γ:Gh}{w:World}{r:Nat}{R:Row}(h:qfW Γ w r R){i:Nat}{e:List AV}(b:R.c[i]?=some e):Γ.sz r≠0:=by
 intro d;have a:=getElem?_lt' b;have:=wap (vZ (we _) a) h.pos;have:=h.fit;omega
theorem Inv.later{Γ:Gh}{σ:St}{w w':World}(h:Inv Γ σ w)(c:Below w.heap.size w w'):Inv Γ σ w' where
 nb:=h.nb
 nr:=h.nr
 mem:=λ b o u e=>⟨qxr c (h.mem b o u e).1,(h.mem b o u e).2⟩
 box:=λ i cs e=>(h.box i cs e).lift (by rw[h.nb];exact getElem?_lt e) (.refl _) λ o a=>qbJ c a
 inj:=h.inj
 boxmem:=h.boxmem
 row:=λ r R e=>(h.row r R e).lift (by rw[h.nr];exact getElem?_lt e) (.refl _) rfl (λ _ ob a=>qbJ c a) (λ _ _ d=>d) λ _ i g f=>by omega
 apart:=h.apart
theorem qw8{Γ:Gh}{σ:St}{w:World}(h:Inv Γ σ w){cs:List AV}{ob:Obj}(A:∀Γ',Le Γ Γ'->Γ'.β Γ.nb=w.heap.size->QF Γ' (w.alloc ob) Γ.nb cs):
  ∃Γ',Ext Γ w Γ' (w.alloc ob)/\Inv Γ' {σ with bx:=σ.bx++[cs]} (w.alloc ob)/\σ.bx.length<Γ'.nb/\Γ'.β σ.bx.length=w.heap.size:=by
 have t:Below w.heap.size w (w.alloc ob):=(Below.refl _ _).alloc (wa _) _;let Γ':Gh:={Γ with nb:=Γ.nb+1,β:=λ i=>if i=Γ.nb then w.heap.size else Γ.β i}
 have d:∀i,i<Γ.nb->Γ'.β i=Γ.β i:=λ i c=>if_neg (by omega);have a:Γ'.β Γ.nb=w.heap.size:=if_pos rfl;have f:Le Γ Γ':=⟨λ _ _ _ h=>h,ko _,d,wa _,λ _ _=>rfl,λ _ _=>wa _,λ _ _ _=>⟨rfl,rfl,rfl⟩⟩
 have q:=h.later t;refine⟨Γ',⟨f,rfl,rfl,rfl,t.size,λ b B _=>t.block b B,?_,λ _ _ _ h=>.inl h,wa _⟩,⟨?_,h.nr,q.mem,?_,?_,?_,?_,h.apart⟩,?_⟩
 .rintro b (⟨i,c,rfl⟩|m)
  .by_cases e:i=Γ.nb
   .grind
   .left;left;exact⟨i,by show i<Γ.nb;have:i<Γ.nb+1:=c;omega,(d i (by have:i<Γ.nb+1:=c;omega)).symm⟩
  .exact .inl (.inr m)
 .show Γ.nb+1=(σ.bx++[cs]).length;simp[h.nb]
 .intro i cs' c;rw[List.getElem?_append]at c;split at c
  .rename_i n;exact(h.box i cs' c).lift (by rw[h.nb];exact n) f λ o m=>qbJ t m
  .rename_i n
   have y:i-σ.bx.length=0:=by
    grind
   rw[y]at c;simp at c;subst c;have x:i=Γ.nb:=by rw[h.nb];omega
   rw[x];exact A Γ' f a
 .intro i j c D g;have s:i<Γ.nb+1:=c;have C:j<Γ.nb+1:=D;by_cases e:i=Γ.nb<;>by_cases p:j=Γ.nb
  .rw[e,p]
  .rw[e,a,d j (by omega)]at g;have:=h.box_lt (i:=j) (by omega);omega
  .rw[p,a,d i (by omega)]at g;have:=h.box_lt (i:=i) (by omega);omega
  .rw[d i (by omega),d j (by omega)]at g;exact h.inj i j (by omega) (by omega) g
 .intro i c o;have s:i<Γ.nb+1:=c;by_cases e:i=Γ.nb
  .rw[e,a];show Γ.mem w.heap.size o=none;cases v:Γ.mem w.heap.size o with
   |none=>rfl
   |some u=>have:=h.mem_lt v;omega
  .rw[d i (by omega)];exact h.boxmem i (by omega) o
 .intro r R l;have k:r<Γ.nr:=by rw[h.nr];exact getElem?_lt l
  refine(h.row r R l).lift k f rfl (λ _ ob m=>qbJ t m) (λ _ _ v=>v) λ z i c E g=>?_;have s:i<Γ.nb+1:=c;have e:i=Γ.nb:=by omega
  rw[e,a]at g;have:=h.cur_lt k z;omega
 .rw[<-h.nb];grind
theorem qzF{Γ:Gh}{σ:St}{w:World}(h:Inv Γ σ w){cs:List AV}{vs:List Value}(g:RepL Γ cs vs)(j:∀u∈vs,u.oneCell'=true)(e:TypeId):
  ∃Γ',Ext Γ w Γ' (w.alloc (.cells vs.toArray e))/\Inv Γ' {σ with bx:=σ.bx++[cs]} (w.alloc (.cells vs.toArray e))/\Rep Γ' (.ptr σ.bx.length 0) (.pointer (some ⟨w.heap.size,0,none⟩)):=by
 let⟨Γ',a,b,c,d⟩:=qw8 h (cs:=cs) (ob:=.cells vs.toArray e) λ Γ' i f=>.of ⟨vs.toArray,e,by rw[f];exact heap_alloc_new w _,by simpa using g.mono i,by simpa using j⟩;exact⟨Γ',a,b,by rw[<-d];exact .ptr _ _ c⟩
theorem qJe{Γ:Gh}{σ:St}{w:World}(h:Inv Γ σ w)(i:List KC)(l g:Bool):
  ∃Γ',Ext Γ w Γ' (w.alloc (.map #[] 0))/\Inv Γ' {σ with bx:=σ.bx++[[.mc i l g [] []]]} (w.alloc (.map #[] 0))/\Rep Γ' (.mp σ.bx.length) (.map (some w.heap.size)):=by
 let⟨Γ',a,b,c,d⟩:=qw8 h (cs:=[.mc i l g [] []]) (ob:=.map #[] 0) λ Γ' n f=>⟨rfl,#[],0,by rw[f];exact heap_alloc_new w _,rfl,λ j k v e m=>by simp at m⟩
 exact⟨Γ',a,b,by rw[<-d];exact .mp _ c⟩
theorem qzt{Γ:Gh}{σ:St}{w:World}(h:Inv Γ σ w){vs:List Value}(y:∀u∈vs,u.oneCell'=true)(e:TypeId):
  ∃Γ',Ext Γ w Γ' (w.alloc (.cells vs.toArray e))/\Inv Γ' σ (w.alloc (.cells vs.toArray e))/\∀j u,vs[j]?=some u->Γ'.mem w.heap.size j=some u:=by
 have m:Below w.heap.size w (w.alloc (.cells vs.toArray e)):=(Below.refl _ _).alloc (wa _) _;let Γ':Gh:={Γ with mem:=λ b o=>if b=w.heap.size then vs[o]? else Γ.mem b o}
 have p:∀b o u,Γ.mem b o=some u->b≠w.heap.size:=λ b o u e l=>by have:=h.mem_lt e;omega
 have c:Le Γ Γ':=⟨λ b o u e=>by show(if b=w.heap.size then vs[o]? else Γ.mem b o)=some u;rw[if_neg (p b o u e)];exact e,wa _,λ _ _=>rfl,wa _,λ _ _=>rfl,λ _ _=>wa _,λ _ _ _=>⟨rfl,rfl,rfl⟩⟩
 have k:=h.later m;refine⟨Γ',⟨c,rfl,rfl,rfl,m.size,λ b v _=>m.block b v,λ b g=>.inl g,λ b o u t=>?_,wa _⟩,⟨h.nb,h.nr,?_,?_,h.inj,?_,?_,h.apart⟩,?_⟩
 .grind
 .intro b o u l;have a:(if b=w.heap.size then vs[o]? else Γ.mem b o)=some u:=l;by_cases d:b=w.heap.size
  .rw[if_pos d]at a;subst d;refine⟨?_,y u (wb a)⟩;simp_all
  .rw[if_neg d]at a;exact k.mem b o u a
 .intro i cs l;exact(h.box i cs l).lift (by rw[h.nb];exact getElem?_lt l) c λ o g=>qbJ m g
 .intro i n o;show(if Γ.β i=w.heap.size then vs[o]? else Γ.mem (Γ.β i) o)=none;have:=h.box_lt n;rw[if_neg (by omega)];exact h.boxmem i n o
 .intro r R q;have f:r<Γ.nr:=by rw[h.nr];exact getElem?_lt q
  refine(h.row r R q).lift f c rfl (λ _ ob g=>qbJ m g) (λ s off t=>?_) λ _ i n z=>by have:i<Γ.nb:=n;omega
  have x:=h.cur_lt f s;grind
 .grind
theorem qvt{Γ:Gh}{σ:St}{w:World}(h:Inv Γ σ w){b:Nat}{cs cs':List AV}(E:σ.bx[b]?=some cs)(A:List Nat)(w':World)
  (F:QF Γ w' b cs') (q:∀k,k≠Γ.β b->w'.heap[k]?=w.heap[k]?) (t:w'.os=w.os) (s:w'.tape=w.tape) (l:w'.output=w.output) (C:w'.heap.size=w.heap.size) (y:w.drawn<=w'.drawn):
  Ext Γ w Γ w'/\Inv Γ {σ with bx:=σ.bx.set b cs',wr:=A} w':=by
 have c:b<Γ.nb:=by rw[h.nb];exact getElem?_lt E
 have f:∀k o,k≠Γ.β b->w'.cell? ⟨k,o,none⟩=w.cell? ⟨k,o,none⟩:=λ k o d=>by unfold World.cell?;rw[q k d]
 have a:∀k o u,Γ.mem k o=some u->k≠Γ.β b:=λ k o u e d=>by rw[d,h.boxmem b c o]at e;cases e
 refine⟨⟨.refl _,t,s,l,by omega,λ k _ z=>q k λ d=>z (.inl ⟨b,c,d.symm⟩),λ _ h=>.inl h,λ _ _ _ h=>.inl h,y⟩,⟨?_,h.nr,?_,?_,h.inj,h.boxmem,?_,h.apart⟩⟩
 .show Γ.nb=(σ.bx.set b cs').length;rw[wH];exact h.nb
 .intro k o u e;rw[f k o (a k o u e)];exact h.mem k o u e
 .intro i p n;rw[List.getElem?_set]at n;split at n
  .grind
  .rename_i v;have m:i<Γ.nb:=by rw[h.nb];exact getElem?_lt n
   refine(h.box i p n).lift m (.refl _) λ o g=>?_;rw[q _ λ x=>v (h.inj b i c m x.symm)];exact g
 .intro r R j;have H:=h.row r R j;refine H.lift (by rw[h.nr];exact getElem?_lt j) (.refl _) rfl (λ B ob d=>?_) (λ _ _ D=>D) λ _ i n z=>by omega
  rw[q _ λ x=>H.nbx B b c x.symm];exact d
theorem qJ9{Γ:Gh}{σ:St}{w:World}(h:Inv Γ σ w){b:Nat}{cs cs':List AV}(j:σ.bx[b]?=some cs)(o:noMc cs=true){vs':List Value}(m:RepL Γ cs' vs')(p:∀u∈vs',u.oneCell'=true)(i:List Nat)(w':World)
  (l:∀vs e,w.heap[Γ.β b]?=some (.cells vs e (0,0))->w'.heap[Γ.β b]?=some (.cells vs'.toArray e (0,0))) (n:∀k,k≠Γ.β b->w'.heap[k]?=w.heap[k]?) (f:w'.os=w.os) (c:w'.tape=w.tape) (a:w'.output=w.output) (d:w'.heap.size=w.heap.size) (g:w.drawn<=w'.drawn):
  Ext Γ w Γ w'/\Inv Γ {σ with bx:=σ.bx.set b cs',wr:=i} w':=by
 let⟨vs,e,q,_⟩:=(h.box b cs j).cells o;exact qvt h j i w' (.of ⟨vs'.toArray,e,l vs e q,by simpa using m,by simpa using p⟩) n f c a d g
theorem qCv{Γ:Gh}{σ:St}{w w':World}(h:Inv Γ σ w){k:Nat}(hk:0<k){c:List (List AV)}(H:∀e∈c,e.length=k)(P:∀e∈c,∀x∈e,qu x=true){vs:Array Value}(L:c.length*k<=vs.size)
  (m:∀(i:Nat) (e:List AV) (j:Nat) (x:AV),c[i]?=some e->e[j]?=some x->∃u,vs[i*k+j]?=some u/\Rep Γ x u/\u.oneCell'=true) {e:TypeId}{cap:Nat} (hc:c.length<=cap) (ad:cap*k<=vs.size) (z:Below w.heap.size w w') (Y:w.drawn<=w'.drawn) {g:Nat} (hg:w.heap.size<=g) {fr:Nat×Nat} (M:qoP vs.size fr) (V:k≠1->fr=(0,0)) (y:w'.heap[g]?=some (.cells vs e fr)):
  ∃Γ',Ext Γ w Γ' w'/\Inv Γ' {σ with rw:=σ.rw++[⟨k,c,0,0,false⟩]} w'/\Rep Γ' (.rs σ.rw.length 0 c.length 0 false) (.slice (some ⟨g,0,none⟩) c.length cap):=by
 let Γ':Gh:={Γ with nr:=Γ.nr+1,ver:=λ r=>if r=Γ.nr then 0 else Γ.ver r,k:=λ r=>if r=Γ.nr then k else Γ.k r,cur:=λ r=>if r=Γ.nr then g else Γ.cur r,sz:=λ r=>if r=Γ.nr then vs.size else Γ.sz r,of:=λ r=>if r=Γ.nr then 0 else Γ.of r}
 have C:∀r,r<Γ.nr->Γ'.ver r=Γ.ver r:=λ r m=>if_neg (by omega);have U:∀r,r<Γ.nr->Γ'.k r=Γ.k r:=λ r m=>if_neg (by omega);have f:∀r,r<Γ.nr->Γ'.cur r=Γ.cur r:=λ r m=>if_neg (by omega);have d:∀r,r<Γ.nr->Γ'.sz r=Γ.sz r:=λ r m=>if_neg (by omega);have E:∀r,r<Γ.nr->Γ'.of r=Γ.of r:=λ r m=>if_neg (by omega);have l:Γ'.of Γ.nr=0:=if_pos rfl;have a:Γ'.cur Γ.nr=g:=if_pos rfl;have n:Γ'.sz Γ.nr=vs.size:=if_pos rfl;have B:Γ'.ver Γ.nr=0:=if_pos rfl;have I:Γ'.k Γ.nr=k:=if_pos rfl;have t:Le Γ Γ':=⟨λ _ _ _ h=>h,wa _,λ _ _=>rfl,ko _,U,λ r m=>by rw[C r m];exact wa _,λ r m _=>⟨f r m,d r m,E r m⟩⟩
 have J:=h.later z;refine⟨Γ',⟨t,z.os,z.tape,z.output,z.size,λ b T _=>z.block b T,?_,λ _ _ _ h=>.inl h,Y⟩,⟨h.nb,?_,J.mem,?_,h.inj,h.boxmem,?_,?_⟩,?_⟩
 .rintro b (F|⟨r,ac,hz,T⟩)
  .exact .inl (.inl F)
  .by_cases s:r=Γ.nr
   .right;rw[s,a]at T;omega
   .left;right;grind
 .show Γ.nr+1=(σ.rw++[_]).length;simp[h.nr]
 .intro i cs X;exact(h.box i cs X).lift (by rw[h.nb];exact getElem?_lt X) t λ o F=>qbJ z F
 .intro r R A;rw[List.getElem?_append]at A;split at A
  .rename_i G;have s:r<Γ.nr:=by rw[h.nr];exact G
   exact(h.row r R A).lift s t (C r s) (λ _ ob F=>qbJ z F) (λ _ _ S=>S) λ _ i K hn=>by have:i<Γ.nb:=K;omega
  .rename_i G
   have W:r-σ.rw.length=0:=by
    grind
   rw[W]at A;simp at A;subst A;obtain rfl:r=Γ.nr:=by rw[h.nr];omega
   refine⟨I.symm,λ _=>B.symm,hk,H,P,.inr (we _),λ _=>⟨vs,e,fr,by rw[a];exact y,n.symm,M,V⟩,by rw[n,l,wD];exact L,?_,?_,?_,λ _=>l⟩
   .intro _ off _;rw[a];show Γ.mem g off=none;cases S:Γ.mem g off with
    |none=>rfl
    |some u=>have:=h.mem_lt S;omega
   .intro i e' j x K hj;let⟨u,hu,D,Z⟩:=m i e' j x K hj;refine⟨u,?_,D.mono t,Z⟩;rw[a,l,wD,QU y];exact hu
   .intro _ i K X;have:=h.box_lt (i:=i) K;grind
 .intro r v O N Q q p;have ab:r<Γ.nr+1:=O;have aa:v<Γ.nr+1:=N;by_cases Z:r=Γ.nr<;>by_cases h2:v=Γ.nr
  .omega
  .rw[d v (by omega)]at p;rw[Z,a,f v (by omega)];have:=h.cur_lt (r:=v) (by omega) p;omega
  .rw[d r (by omega)]at q;rw[h2,a,f r (by omega)];have:=h.cur_lt (r:=r) (by omega) q;omega
  .rw[d r (by omega)]at q;rw[d v (by omega)]at p;rw[f r (by omega),f v (by omega)];exact h.apart r v (by omega) (by omega) Q q p
 .refine .rs _ _ _ _ _ _ _ (by show σ.rw.length<Γ.nr+1;rw[h.nr];omega) (we _) hc (λ hf=>by cases hf) λ _=>?_;rw[<-h.nr,a,I,n,l];grind
def QA(Γ:Gh)(r:Nat)(R:Row):Prop:=
 ∀(i:Nat) (e:List AV) (j:Nat) (x:AV),R.c[i]?=some e->e[j]?=some x->∃u,Γ.mem (Γ.cur r) (Γ.of r+(i*R.k+j))=some u/\Rep Γ x u
theorem qxN{Γ:Gh}{σ:St}{w w':World}(h:Inv Γ σ w){k:Nat}(o:0<k){c:List (List AV)}(b:∀e∈c,e.length=k)(f:∀e∈c,∀x∈e,qu x=true){vs:Array Value}(d:c.length*k<=vs.size)
  (n:∀(i:Nat) (e:List AV) (j:Nat) (x:AV),c[i]?=some e->e[j]?=some x->∃u,vs[i*k+j]?=some u/\Rep Γ x u/\u.oneCell'=true) {e:TypeId}{cap:Nat} (q:c.length<=cap) (m:cap*k<=vs.size) (r:Below w.heap.size w w') (l:w.drawn<=w'.drawn) {g:Nat} (p:w.heap.size<=g) (a:w'.heap[g]?=some (.cells vs e (0,0))):
  ∃Γ',Ext Γ w Γ' w'/\Inv Γ' {σ with rw:=σ.rw++[⟨k,c,0,0,false⟩]} w'/\Rep Γ' (.rs σ.rw.length 0 c.length 0 false) (.slice (some ⟨g,0,none⟩) c.length cap):=
 qCv h o b f d n q m r l p (qBl _) (λ _=>rfl) a
theorem qHV{α:Type}{l:List α}{r i:Nat}{f:α->α}{y:α}(h:(l.modify r f)[i]?=some y):∃x,l[i]?=some x/\y=if r=i then f x else x:=by
 grind
structure Fz (Γ:Gh) (m:Nat->Nat->Option Value):Prop where
 le:Le Γ {Γ with mem:=m}
 own:∀b o u,m b o=some u->Γ.mem b o=some u\/QC Γ b
theorem qwQ{Γ:Gh}{σ:St}{w:World}(h:Inv Γ σ w){r:Nat}{R:Row}(G:σ.rw[r]?=some R)(V:List Nat):
  ∃m,Fz Γ m/\Inv {Γ with mem:=m} {σ with rw:=σ.rw.modify r qlz,wrr:=V} w/\QA {Γ with mem:=m} r R:=by
 have H0:=h.row r R G;let⟨k,E,pos,s,W,fz,g2,g4,g5,O,U,g9⟩:=H0;have F:r<Γ.nr:=by rw[h.nr];exact getElem?_lt G
 let m:Nat->Nat->Option Value:=λ a off=>if a=Γ.cur r/\Γ.of r<=off/\off<Γ.of r+R.c.length*R.k then w.cell? ⟨a,off,none⟩else Γ.mem a off
 have I:∀a off u,Γ.mem a off=some u->m a off=some u:=by
  intro a off u b;show(if _ then _ else _)=_;split
  .exact(h.mem a off u b).1
  .exact b
 have g:Le Γ {Γ with mem:=m}:=⟨I,wa _,λ _ _=>rfl,wa _,λ _ _=>rfl,λ _ _=>wa _,λ _ _ _=>⟨rfl,rfl,rfl⟩⟩
 have z:∀(i:Nat) (e:List AV) (j:Nat) (x:AV),R.c[i]?=some e->e[j]?=some x->∃u,m (Γ.cur r) (Γ.of r+(i*R.k+j))=some u/\Rep {Γ with mem:=m} x u:=by
  intro i e j x l C;let⟨u,S,f,T⟩:=O i e j x l C;refine⟨u,?_,f.mono g⟩;have M:=getElem?_lt l;have K:=getElem?_lt C;rw[s e (wb l)]at K
  have:i*R.k+j<R.c.length*R.k:=by
   calc i*R.k+j<i*R.k+R.k:=by omega
    _=(i+1)*R.k:=by rw[wO,xA]
    _<=R.c.length*R.k:=wu _ M
  grind
 refine⟨m,⟨g,λ a off u b=>?_⟩,⟨h.nb,?_,?_,?_,h.inj,?_,?_,h.apart⟩,z⟩
 .have d:(if a=Γ.cur r/\Γ.of r<=off/\off<Γ.of r+R.c.length*R.k then w.cell? ⟨a,off,none⟩else Γ.mem a off)=some u:=b;split at d
  .rename_i y;right;right;grind
  .exact .inl d
 .show Γ.nr=(σ.rw.modify r qlz).length;rw[waa];exact h.nr
 .intro a off u b;have d:(if a=Γ.cur r/\Γ.of r<=off/\off<Γ.of r+R.c.length*R.k then w.cell? ⟨a,off,none⟩else Γ.mem a off)=some u:=b;split at d
  .rename_i y;refine⟨d,?_⟩;let⟨ac,ab,aa⟩:=y;obtain⟨off,rfl⟩:∃p,off=Γ.of r+p:=⟨off-Γ.of r,by omega⟩
   have v:off/R.k<R.c.length:=by
    rw[vb pos];omega
   have L:off%R.k<R.k:=xV _ pos;have J:=s _ (wX v);let⟨u',X,_,ad⟩:=O (off/R.k) _ (off%R.k) _ (List.getElem?_eq_getElem v) (List.getElem?_eq_getElem (by rw[J];exact L));grind [Nat.mul_comm,Nat.div_add_mod]
  .exact h.mem a off u d
 .intro i cs b;exact(h.box i cs b).lift (by rw[h.nb];exact getElem?_lt b) g λ o B=>B
 .intro i l off;show(if _ then _ else _)=_;rw[if_neg λ y=>U (by omega) i l y.1];exact h.boxmem i l off
 .intro A R' N;let⟨R0,D,b⟩:=qHV N;by_cases t:r=A
  .subst t;rw[if_pos rfl]at b;rw[G]at D;cases D;subst b;refine⟨k,λ v=>E (wE (wam _ R.c.length) v),pos,s,W,fz.imp_right λ v=>Nat.max_le.2 ⟨v,wa _⟩,g2,g4,?_,?_,U,g9⟩
   .intro Q off B;have Z:Γ.of r+R.c.length*R.k<=off:=wE (vV (wu _ (Nat.le_max_right R.fz _)) _) B;have Y:Γ.of r+R.fz*R.k<=off:=wE (vV (wu _ (wam _ R.c.length)) _) B;grind
   .intro i P j x l C;let⟨u,S,f,T⟩:=O i P j x l C;exact⟨u,S,f.mono g,T⟩
  .rw[if_neg t]at b;subst b;have n:A<Γ.nr:=by rw[h.nr];exact getElem?_lt D
   refine(h.row A _ D).lift n g rfl (λ _ _ h=>h) (λ Q off H=>?_) λ _ i l hn=>by have:i<Γ.nb:=l;omega
   show(if _ then _ else _)=_;rw[if_neg λ y=>h.apart r A F n t (by omega) Q y.1.symm];exact H
theorem qkD{Γ:Gh}{m:Nat->Nat->Option Value}(a:Fz Γ m)(w:World):Ext Γ w {Γ with mem:=m} w:=⟨a.le,rfl,rfl,rfl,wa _,λ _ _ _=>rfl,λ _ h=>.inl h,λ b o u d=>(a.own b o u d).imp_right .inl,wa _⟩
theorem QA.mono{Γ:Gh}{m:Nat->Nat->Option Value}(b:Le Γ {Γ with mem:=m}){r:Nat}{R:Row}(h:QA Γ r R):QA {Γ with mem:=m} r R:=λ i e j x g f=>
 let⟨u,c,d⟩:=h i e j x g f;⟨u,b.mem _ _ _ c,d.mono b⟩
theorem qaw{w:World}:∀(c:List Nat) {Γ:Gh}{σ:St} (h:Inv Γ σ w) (a:List Nat),
  ∃m,Fz Γ m/\Inv {Γ with mem:=m} {σ with rw:=frz σ.rw c,wrr:=a} w/\∀r∈c,∀R,σ.rw[r]?=some R->QA {Γ with mem:=m} r R
 |[],Γ,σ,h,a=>⟨Γ.mem,⟨Le.refl _,λ _ _ _ h=>.inl h⟩,⟨h.nb,h.nr,h.mem,h.box,h.inj,h.boxmem,h.row,h.apart⟩,λ r d=>by cases d⟩
 |r::c,Γ,σ,h,a=>by
   cases d:σ.rw[r]? with
   |none=>
     let⟨m,g,l,q⟩:=qaw c h a;have s:σ.rw.length<=r:=List.getElem?_eq_none_iff.1 d;have e:σ.rw.modify r qlz=σ.rw:=List.modify_eq_self s;refine⟨m,g,?_,λ p k R x=>?_⟩
     .show Inv _ {σ with rw:=c.foldl _ (σ.rw.modify r qlz),wrr:=a} w;rw[e];exact l
     .grind
   |some R=>
     let⟨m,g,l,q⟩:=qwQ h d a;let⟨m',n,v,g3⟩:=qaw c l a;refine⟨m',⟨g.le.trans n.le,λ b o u t=>(n.own b o u t).elim (g.own b o u) .inr⟩,v,λ p k R' f=>?_⟩;by_cases j:p=r
     .subst j;rw[d]at f;cases f;exact q.mono n.le
     .grind
theorem qF5{c xs:List (List AV)}{i:Nat}{e:List AV}(h:(c++xs)[i]?=some e):(i<c.length/\c[i]?=some e)\/(c.length<=i/\xs[i-c.length]?=some e):=by
 grind
theorem qlZ{Γ:Gh}{σ:St}{w w':World}(h:Inv Γ σ w){r:Nat}{R R':Row}(hr:σ.rw[r]?=some R)(X:R.fz<=R.c.length)(I:R'.k=R.k){g:Nat}{vs:Array Value}{e:TypeId}{o:Nat}(ag:R'.off=false->o=0)(am:R'.ver=R.ver+1\/(R'.ver=R.ver/\g=Γ.cur r/\vs.size=Γ.sz r/\o=Γ.of r))
  (Y:∀e∈R'.c,e.length=R.k) (ae:∀e∈R'.c,∀x∈e,qu x=true) (aj:R'.fz<=R'.c.length) {fr:Nat×Nat} (ad:qoP vs.size fr) (ai:R.k≠1->fr=(0,0)) (A:w'.heap[g]?=some (.cells vs e fr)) (Z:o+R'.c.length*R.k<=vs.size)
  (aa:∀off,o+R'.fz*R.k<=off->Γ.mem g off=none) (J:∀(i:Nat) (e:List AV) (j:Nat) (x:AV),R'.c[i]?=some e->e[j]?=some x->∃u,vs[o+(i*R.k+j)]?=some u/\Rep Γ x u/\u.oneCell'=true)
  (W:∀b o u,Γ.mem b o=some u->w'.cell? ⟨b,o,none⟩=some u) (ho:∀b,b<w.heap.size->(b≠Γ.cur r\/Γ.sz r=0)->w'.heap[b]?=w.heap[b]?) (f:(g=Γ.cur r/\Γ.sz r≠0)\/w.heap.size<=g) (af:w'.os=w.os) (ab:w'.tape=w.tape) (U:w'.output=w.output) (ac:w.heap.size<=w'.heap.size) (ak:w.drawn<=w'.drawn) (wl:List Nat):
  ∃Γ',Ext Γ w Γ' w'/\Inv Γ' {σ with rw:=σ.rw.set r R',wrr:=wl} w'/\∀(n:Nat) (cap:Nat) (a:Option Addr),n<=cap->(cap=0\/a=some ⟨g,o,none⟩)->o+cap*R.k<=vs.size->Rep Γ' (.rs r 0 n R'.ver false) (.slice a n cap):=by
 have m:r<Γ.nr:=by rw[h.nr];exact getElem?_lt hr
 have H:=h.row r R hr;let Γ':Gh:={Γ with ver:=λ s=>if s=r then R'.ver else Γ.ver s,cur:=λ s=>if s=r then g else Γ.cur s,sz:=λ s=>if s=r then vs.size else Γ.sz s,of:=λ s=>if s=r then o else Γ.of s}
 have v1:Γ'.ver r=R'.ver:=if_pos rfl;have D:Γ'.cur r=g:=if_pos rfl;have s1:Γ'.sz r=vs.size:=if_pos rfl;have P:Γ'.of r=o:=if_pos rfl;have v2:∀q,q≠r->Γ'.ver q=Γ.ver q:=λ q t=>if_neg t;have c2:∀q,q≠r->Γ'.cur q=Γ.cur q:=λ q t=>if_neg t;have O:∀q,q≠r->Γ'.sz q=Γ.sz q:=λ q t=>if_neg t;have o2:∀q,q≠r->Γ'.of q=Γ.of q:=λ q t=>if_neg t
 have y:Le Γ Γ':=by
  refine⟨λ _ _ _ h=>h,wa _,λ _ _=>rfl,wa _,λ _ _=>rfl,λ q _=>?_,λ q _ t=>?_⟩
  .by_cases d:q=r
   .rw[d,v1,<-H.ver X];grind
   .grind
  .by_cases d:q=r
   .subst d;rw[v1,<-H.ver X]at t;grind
   .grind
 refine⟨Γ',⟨y,af,ab,U,ac,λ b C hn=>ho b C (by
  by_cases v:Γ.sz r=0
  .exact .inr v
  .exact .inl λ z=>hn (.inr ⟨r,m,v,z.symm⟩)),?_,λ _ _ _ h=>.inl h,ak⟩,⟨h.nb,?_,λ b o u hm=>⟨W b o u hm,(h.mem b o u hm).2⟩,?_,h.inj,h.boxmem,?_,?_⟩,?_⟩
 .rintro b (C|⟨q,t,v,C⟩)
  .exact .inl (.inl C)
  .by_cases d:q=r
   .rw[d,D]at C;obtain⟨f,l⟩|f:=f
    .left;right;exact⟨r,m,l,by rw[<-f,C]⟩
    .right;omega
   .rw[c2 q d]at C;exact .inl (.inr ⟨q,t,by rw[<-O q d];exact v,C⟩)
 .show Γ.nr=(σ.rw.set r R').length;rw[wH];exact h.nr
 .intro i cs B;have p:i<Γ.nb:=by rw[h.nb];exact getElem?_lt B
  exact(h.box i cs B).lift p y λ ob G=>by
   rw[ho _ (h.box_lt p) (by
    by_cases v:Γ.sz r=0
    .exact .inr v
    .exact .inl (H.nbx v i p))];exact G
 .intro q Q K;rw[List.getElem?_set]at K;split at K
  .rename_i d;subst d;split at K<;>cases K;refine⟨I.trans H.k,λ _=>v1.symm,by rw[I];exact H.pos,by rw[I];exact Y,ae,.inr aj,λ _=>⟨vs,e,fr,by rw[D];exact A,s1.symm,ad,by rw[I];exact ai⟩,by rw[I,s1,P];exact Z,λ _ off V=>by rw[D];exact aa off (by rw[<-I,<-P];exact V),?_,λ _ i B=>?_,λ hf=>P.trans (ag hf)⟩
   .intro i e' j x B hj;let⟨u,hu,T,h1⟩:=J i e' j x B hj;exact⟨u,by rw[D,P,I,QU A];exact hu,T.mono y,h1⟩
   .rw[D];intro z;have z:Γ.β i=g:=z;have p:i<Γ.nb:=B;obtain⟨f,l⟩|f:=f
    .exact H.nbx l i p (z.trans f)
    .have:=h.box_lt p;omega
  .rename_i d;have F:q<Γ.nr:=by rw[h.nr];exact getElem?_lt K
   refine(h.row q Q K).lift F y (v2 q λ z=>d z.symm) (λ v ob G=>?_) (λ _ _ hm=>hm) λ _ i B hn=>by have:i<Γ.nb:=B;omega
   rw[ho _ (h.cur_lt F v) (by
    by_cases S:Γ.sz r=0
    .exact .inr S
    .exact .inl λ z=>h.apart r q m F d S v z.symm)];exact G
 .intro q E h1 h2 ah N M;by_cases e1:q=r<;>by_cases L:E=r
  .omega
  .rw[O E L]at M;rw[e1,D,c2 E L];obtain⟨f,l⟩|f:=f
   .rw[f];exact h.apart r E m h2 (xT L) l M
   .have:=h.cur_lt h2 M;omega
  .rw[O q e1]at N;rw[L,D,c2 q e1];obtain⟨f,l⟩|f:=f
   .rw[f];exact h.apart q r h1 m e1 N l
   .have:=h.cur_lt h1 N;omega
  .rw[O q e1]at N;rw[O E L]at M;rw[c2 q e1,c2 E L];exact h.apart q E h1 h2 ah N M
 .intro n cap a hn ha al;refine .rs _ _ _ _ _ _ _ m (by rw[v1];exact wa _) hn (λ hf=>by cases hf) λ _=>?_;rw[D,s1,P];refine⟨ha.imp_right λ h=>by rw[h,kJ,wL],?_⟩;show o+(0+cap)*Γ.k r<=vs.size;rw[<-H.k,wD];exact al
theorem quS{Γ:Gh}{σ:St}{w w':World}(h:Inv Γ σ w){r:Nat}{R R':Row}(J:σ.rw[r]?=some R)(D:Γ.of r=0)(E:R.fz<=R.c.length)(K:R'.k=R.k){g:Nat}{vs:Array Value}{e:TypeId}(t:R'.ver=R.ver+1\/(R'.ver=R.ver/\g=Γ.cur r/\vs.size=Γ.sz r))
  (p:∀e∈R'.c,e.length=R.k) (B:∀e∈R'.c,∀x∈e,qu x=true) (G:R'.fz<=R'.c.length) {fr:Nat×Nat} (A:qoP vs.size fr) (F:R.k≠1->fr=(0,0)) (l:w'.heap[g]?=some (.cells vs e fr)) (q:R'.c.length*R.k<=vs.size)
  (v:∀off,R'.fz*R.k<=off->Γ.mem g off=none) (d:∀(i:Nat) (e:List AV) (j:Nat) (x:AV),R'.c[i]?=some e->e[j]?=some x->∃u,vs[i*R.k+j]?=some u/\Rep Γ x u/\u.oneCell'=true)
  (m:∀b o u,Γ.mem b o=some u->w'.cell? ⟨b,o,none⟩=some u) (s:∀b,b<w.heap.size->(b≠Γ.cur r\/Γ.sz r=0)->w'.heap[b]?=w.heap[b]?) (L:(g=Γ.cur r/\Γ.sz r≠0)\/w.heap.size<=g) (C:w'.os=w.os) (y:w'.tape=w.tape) (f:w'.output=w.output) (z:w.heap.size<=w'.heap.size) (H:w.drawn<=w'.drawn) (I:List Nat):
  ∃Γ',Ext Γ w Γ' w'/\Inv Γ' {σ with rw:=σ.rw.set r R',wrr:=I} w'/\∀(n:Nat) (cap:Nat),n<=cap->cap*R.k<=vs.size->Rep Γ' (.rs r 0 n R'.ver false) (.slice (some ⟨g,0,none⟩) n cap):=by
 let⟨Γ',O,N,M⟩:=qlZ h J E K (g:=g) (vs:=vs) (e:=e) (o:=0) (λ _=>rfl) (t.imp_right λ⟨a,b,c⟩=>⟨a,b,c,D.symm⟩) p B G A F l (by rw[wD];exact q) (λ off s=>v off (by rw[wD]at s;exact s))
  (λ i e j x a b=>by rw[wD];exact d i e j x a b) m s L C y f z H I
 grind
theorem qMR{Γ:Gh}{σ:St}{w:World}(h:Inv Γ σ w){r:Nat}{R:Row}(G:σ.rw[r]?=some R)(A:R.fz<=R.c.length){l:Nat}(K:l<=R.c.length)(P:List Nat):
  ∃Γ',Ext Γ w Γ' w/\Inv Γ' {σ with rw:=σ.rw.set r {R with c:=R.c.drop l,ver:=R.ver+1,fz:=R.fz-l,off:=true},wrr:=P} w/\
   ∀(n:Nat) (cap:Nat) (a:Option Addr),n<=cap->(cap=0\/a=some ⟨Γ.cur r,Γ.of r+l*R.k,none⟩)->Γ.of r+l*R.k+cap*R.k<=Γ.sz r->Rep Γ' (.rs r 0 n (R.ver+1) false) (.slice a n cap):=by
 have H:=h.row r R G;have aa:l*R.k<=R.c.length*R.k:=wu _ K;have B:=H.fit;have M:(R.c.length-l)*R.k=R.c.length*R.k-l*R.k:=wae _ _ _;by_cases t:Γ.sz r=0
 .-- no block: nothing is left out
  have F:r<Γ.nr:=by rw[h.nr];exact getElem?_lt G
  have Y:Γ.of r=0:=by omega
  have s:R.c=[]:=by
   cases hc:R.c with
   |nil=>rfl
   |cons e c=>
     have:=H.pos;rw[hc,wy,kT]at B;omega
  let Γ':Gh:={Γ with ver:=λ S=>if S=r then R.ver+1 else Γ.ver S}
  have E:Γ'.ver r=R.ver+1:=if_pos rfl;have W:∀q,q≠r->Γ'.ver q=Γ.ver q:=λ q X=>if_neg X
  have v:Le Γ Γ':=by
   refine⟨λ _ _ _ h=>h,wa _,λ _ _=>rfl,wa _,λ _ _=>rfl,λ q _=>?_,λ q _ _=>⟨rfl,rfl,rfl⟩⟩;by_cases f:q=r
   .rw[f,E,<-H.ver A];omega
   .grind
  have ab:l=0:=by rw[s]at K;simpa using K
  refine⟨Γ',⟨v,rfl,rfl,rfl,wa _,λ _ _ _=>rfl,λ _ h=>.inl h,λ _ _ _ h=>.inl h,wa _⟩,⟨h.nb,?_,h.mem,λ i cs p=>(h.box i cs p).lift (by rw[h.nb];exact getElem?_lt p) v λ _ h=>h,h.inj,h.boxmem,?_,h.apart⟩,?_⟩
  .show Γ.nr=(σ.rw.set r _).length;rw[wH];exact h.nr
  .intro q Q y;rw[List.getElem?_set]at y;split at y
   .rename_i f;subst f;split at y<;>cases y;refine⟨H.k,λ _=>E.symm,H.pos,λ e m=>?_,λ e m=>?_,.inl ?_,λ d=>absurd t d,?_,λ d=>absurd t d,λ i e j x p=>?_,λ d=>absurd t d,λ C=>by cases C⟩
    .rw[s]at m;simp at m
    .rw[s]at m;simp at m
    .grind
    .grind
    .rw[s]at p;simp at p
   .rename_i f;have I:q<Γ.nr:=by rw[h.nr];exact getElem?_lt y
    exact(h.row q Q y).lift I v (W q λ m=>f m.symm) (λ _ _ h=>h) (λ _ _ J=>J) λ _ i p U=>by have:i<Γ.nb:=p;omega
  .intro n cap a U ha N
   have D:cap=0:=by
    have:=H.pos;rw[t]at N;obtain O|O:=vA cap
    .exact O
    .have:=wap O H.pos;omega
   refine .rs _ _ _ _ _ _ _ F (by rw[E];exact wa _) U (λ C=>by cases C) λ _=>⟨.inl D,?_⟩
   grind
 .let⟨vs,e',fr,V,g3,g4,g5⟩:=H.blk t
  let⟨Γ',f1,f2,f3⟩:=qlZ h G A (R':={R with c:=R.c.drop l,ver:=R.ver+1,fz:=R.fz-l,off:=true}) rfl (g:=Γ.cur r) (vs:=vs) (e:=e') (o:=Γ.of r+l*R.k) (λ C=>by cases C) (.inl rfl)
   (λ e m=>H.len e (wR m)) (λ e m=>H.plain e (wR m)) (by show R.fz-l<=(R.c.drop l).length;rw[wS];omega) g4 g5 V
   (by show _+(R.c.drop l).length*R.k<=_;rw[wS,M,g3];omega)
   (λ off ho=>H.un t off (by
    have Z:Γ.of r+l*R.k+(R.fz-l)*R.k<=off:=ho;have:R.fz*R.k<=l*R.k+(R.fz-l)*R.k:=by rw[<-wO];exact wu _ (by omega)
    omega))
   (λ i e j x p hj=>by
    have L:R.c[l+i]?=some e:=by rw[<-List.getElem?_drop];exact p
    let⟨u,T,z,h1⟩:=H.cells (l+i) e j x L hj;refine⟨u,?_,z,h1⟩;rw[QU V,wO]at T;rw[show Γ.of r+l*R.k+(i*R.k+j)=Γ.of r+(l*R.k+i*R.k+j) by omega];exact T)
   (λ b o u J=>(h.mem b o u J).1) (λ _ _ _=>rfl) (.inl ⟨rfl,t⟩) rfl rfl rfl (wa _) (wa _) P
  grind
theorem qL1{Γ:Gh}{σ:St}{w w':World}(h:Inv Γ σ w){r:Nat}{R:Row}(W:σ.rw[r]?=some R)(A:R.fz<=R.c.length){xs:List (List AV)}(B:∀e∈xs,e.length=R.k)(I:∀e∈xs,∀x∈e,qu x=true)
  {qg:List Value} (K:qg.length=xs.length*R.k) (hn:∀(i:Nat) (e:List AV) (j:Nat) (x:AV),xs[i]?=some e->e[j]?=some x->∃u,qg[i*R.k+j]?=some u/\Rep Γ x u/\u.oneCell'=true) (t:Γ.sz r≠0) (C:Γ.of r+(R.c.length+xs.length)*R.k<=Γ.sz r)
  (hw:∀vs e fr,w.heap[Γ.cur r]?=some (.cells vs e fr)->w'.heap[Γ.cur r]?=some (.cells (vs.toList.take (Γ.of r+R.c.length*R.k)++qg++vs.toList.drop (Γ.of r+R.c.length*R.k+qg.length)).toArray e fr)) (Y:∀k,k≠Γ.cur r->w'.heap[k]?=w.heap[k]?)
  (J:w'.os=w.os) (G:w'.tape=w.tape) (y:w'.output=w.output) (aa:w'.heap.size=w.heap.size) (S:w.drawn<=w'.drawn) (V:List Nat) {cap:Nat} (hc:R.c.length+xs.length<=cap) (ac:Γ.of r+cap*R.k<=Γ.sz r):
  ∃Γ',Ext Γ w Γ' w'/\Inv Γ' {σ with rw:=σ.rw.set r {R with c:=R.c++xs,ver:=R.ver+1},wrr:=V} w'/\Rep Γ' (.rs r 0 (R.c.length+xs.length) (R.ver+1) false) (.slice (some ⟨Γ.cur r,Γ.of r,none⟩) (R.c.length+xs.length) cap):=by
 have H:=h.row r R W;let⟨vs,e',fr,U,g3,g4,g5⟩:=H.blk t;have n:=hw vs e' fr U;have E:vs.toList.length=Γ.sz r:=by simpa using g3
 have ad:(R.c.length+xs.length)*R.k=R.c.length*R.k+qg.length:=by rw[wO,K]
 have Z:R.fz*R.k<=R.c.length*R.k:=wu _ A
 have d:(vs.toList.take (Γ.of r+R.c.length*R.k)++qg++vs.toList.drop (Γ.of r+R.c.length*R.k+qg.length)).length=Γ.sz r:=by
  simp only[wd,wm,wS,E];omega
 have m:∀off,off<Γ.of r+R.c.length*R.k->(vs.toList.take (Γ.of r+R.c.length*R.k)++qg++vs.toList.drop (Γ.of r+R.c.length*R.k+qg.length))[off]?=vs[off]?:=by
  intro off z;rw[wj,List.getElem?_append_left (by simp;omega),List.getElem?_take,if_pos z];simp
 have p:∀q u,qg[q]?=some u->(vs.toList.take (Γ.of r+R.c.length*R.k)++qg++vs.toList.drop (Γ.of r+R.c.length*R.k+qg.length))[Γ.of r+R.c.length*R.k+q]?=some u:=by
  intro q u X;have v:(vs.toList.take (Γ.of r+R.c.length*R.k)).length=Γ.of r+R.c.length*R.k:=by rw[wm];omega
  rw[wj,List.getElem?_append_right (by rw[v];omega),v,kS,List.getElem?_append_left (getElem?_lt X)];exact X
 let⟨Γ',f1,f2,f3⟩:=qlZ h W A (R':={R with c:=R.c++xs,ver:=R.ver+1}) rfl (g:=Γ.cur r) (vs:=(vs.toList.take (Γ.of r+R.c.length*R.k)++qg++vs.toList.drop (Γ.of r+R.c.length*R.k+qg.length)).toArray) (o:=Γ.of r) (λ hf=>H.off hf) (.inl rfl)
  (λ e Q=>(wk.1 Q).elim (H.len e) (B e)) (λ e Q=>(wk.1 Q).elim (H.plain e) (I e)) (by show R.fz<=(R.c++xs).length;rw[wd];omega) (by rw[kh,d,<-g3];exact g4) g5 n
  (by show Γ.of r+(R.c++xs).length*R.k<=_;rw[wd,kh,d];exact C) (H.un t)
  (by
   intro i e j x hi N;have O:(R.c++xs)[i]?=some e:=hi;rw[List.getElem?_toArray];obtain⟨l,a⟩|⟨P,a⟩:=qF5 O
   .let⟨u,F,f,T⟩:=H.cells i e j x a N;refine⟨u,?_,f,T⟩;have M:=getElem?_lt N;rw[H.len e (wb a)]at M
    have:i*R.k+j<R.c.length*R.k:=by
     calc i*R.k+j<i*R.k+R.k:=by omega
      _=(i+1)*R.k:=by rw[wO,xA]
      _<=R.c.length*R.k:=wu _ l
    rw[m _ (by omega),<-QU U];exact F
   .let⟨u,F,f,T⟩:=hn _ e j x a N;refine⟨u,?_,f,T⟩;have ab:i*R.k=R.c.length*R.k+(i-R.c.length)*R.k:=by rw[<-wO];congr 1;omega
    rw[show Γ.of r+(i*R.k+j)=Γ.of r+R.c.length*R.k+((i-R.c.length)*R.k+j) by omega];exact p _ u F)
  (by
   intro b off u L;have s:=(h.mem b off u L).1;by_cases D:b=Γ.cur r
   .subst D
    have l:off<Γ.of r+R.c.length*R.k:=by
     obtain l|P:=Nat.lt_or_ge off (Γ.of r+R.c.length*R.k)
     .exact l
     .rw[H.un t off (by omega)]at L;cases L
    rw[QU n,List.getElem?_toArray,m off l,<-QU U];exact s
   .unfold World.cell? at s |-
    rw[Y b D];exact s)
  (λ b _ D=>Y b (D.resolve_right t)) (.inl ⟨rfl,t⟩) J G y (by omega) S V
 grind
theorem qNd{Γ:Gh}{σ:St}{w w':World}(h:Inv Γ σ w){r:Nat}{R:Row}(z:σ.rw[r]?=some R)(q:R.fz<=R.c.length){xs:List (List AV)}(l:∀e∈xs,e.length=R.k)(n:∀e∈xs,∀x∈e,qu x=true)
  {vs:Array Value}{e:TypeId}{g:Nat} (d:Below w.heap.size w w') (t:w.drawn<=w'.drawn) (B:w.heap.size<=g) (f:w'.heap[g]?=some (.cells vs e (0,0))) (m:(R.c.length+xs.length)*R.k<=vs.size)
  (A:∀(i:Nat) (e:List AV) (j:Nat) (x:AV),(R.c++xs)[i]?=some e->e[j]?=some x->∃u,vs[i*R.k+j]?=some u/\Rep Γ x u/\u.oneCell'=true) (y:List Nat) {cap:Nat} (D:R.c.length+xs.length<=cap) (C:cap*R.k<=vs.size):
  ∃Γ',Ext Γ w Γ' w'/\Inv Γ' {σ with rw:=σ.rw.set r {R with c:=R.c++xs,ver:=R.ver+1},wrr:=y} w'/\Rep Γ' (.rs r 0 (R.c.length+xs.length) (R.ver+1) false) (.slice (some ⟨g,0,none⟩) (R.c.length+xs.length) cap):=by
 have H:=h.row r R z
 let⟨Γ',G,F,E⟩:=qlZ h z q (R':={R with c:=R.c++xs,ver:=R.ver+1}) rfl (g:=g) (vs:=vs) (o:=0) (λ _=>rfl) (.inl rfl)
  (λ e s=>(wk.1 s).elim (H.len e) (l e)) (λ e s=>(wk.1 s).elim (H.plain e) (n e)) (by show R.fz<=(R.c++xs).length;rw[wd];omega) (qBl _) (λ _=>rfl) f
  (by show 0+(R.c++xs).length*R.k<=_;rw[wd,wD];exact m)
  (λ off _=>by
   cases p:Γ.mem g off with
   |none=>rfl
   |some u=>have:=h.mem_lt p;omega) (λ i e j x a b=>by rw[wD];exact A i e j x a b) (λ b o u p=>qxr d (h.mem b o u p).1) (λ b v _=>d.block b v) (.inr B) d.os d.tape d.output d.size t y
 grind
theorem qq4{Γ:Gh}{σ:St}{w w':World}(h:Inv Γ σ w){r:Nat}{R:Row}(W:σ.rw[r]?=some R){i:Nat}{e0 e1:List AV}(C:R.c[i]?=some e0)(hf:R.fz<=i)(y:R.off=false)(A:e1.length=R.k)(G:∀x∈e1,qu x=true){vs':Array Value}
  (Y:∀vs e fr,w.heap[Γ.cur r]?=some (.cells vs e fr)->w'.heap[Γ.cur r]?=some (.cells vs' e fr)/\vs'.size=vs.size/\∀off,(off<i*R.k\/i*R.k+R.k<=off)->vs'[off]?=vs[off]?)
  (J:∀(j:Nat) (x:AV),e1[j]?=some x->∃u,vs'[i*R.k+j]?=some u/\Rep Γ x u/\u.oneCell'=true) (X:∀k,k≠Γ.cur r->w'.heap[k]?=w.heap[k]?)
  (I:w'.os=w.os) (F:w'.tape=w.tape) (v:w'.output=w.output) (aa:w'.heap.size=w.heap.size) (Q:w.drawn<=w'.drawn) (T:List Nat):
  ∃Γ',Ext Γ w Γ' w'/\Inv Γ' {σ with rw:=σ.rw.set r {R with c:=R.c.set i e1},wrr:=T} w':=by
 have H:=h.row r R W;have z:R.fz<=R.c.length:=H.fz.resolve_left λ J=>by rw[J]at C;cases C
 have B:=H.real C;have s:=H.off y;have a:=H.cells;have d:=H.un B;have p:=H.fit;rw[s]at a d p;simp only[wD]at a d p;let⟨vs,e',fr,S,g3,g4,g5⟩:=H.blk B;let⟨V,E,U⟩:=Y vs e' fr S;have ab:=getElem?_lt C
 let⟨Γ',f1,f2,_⟩:=quS h W s z (R':={R with c:=R.c.set i e1}) rfl (g:=Γ.cur r) (vs:=vs') (.inr ⟨rfl,rfl,E.trans g3⟩)
  (λ e P=>by
   let⟨q,l⟩:=List.getElem?_of_mem P;rw[List.getElem?_set]at l;split at l
   .cases l;exact A
   .exact H.len e (wb l))
  (λ e P=>by
   let⟨q,l⟩:=List.getElem?_of_mem P;rw[List.getElem?_set]at l;split at l
   .cases l;exact G
   .exact H.plain e (wb l)) (by show R.fz<=(R.c.set i e1).length;rw[wH];exact z) (by rw[E];exact g4) g5 V
  (by show(R.c.set i e1).length*R.k<=_;rw[wH,E,g3];exact p) d
  (by
   intro q e j x l M;have f:(R.c.set i e1)[q]?=some e:=l;rw[List.getElem?_set]at f;split at f
   .rename_i n;subst n;cases f;exact J j x M
   .rename_i n;let⟨u,Z,t,h1⟩:=a q e j x f M;refine⟨u,?_,t,h1⟩;have L:=getElem?_lt M;rw[H.len e (wb f)]at L;rw[U,<-QU S]
    .exact Z
    .obtain m|N:=Nat.lt_or_gt_of_ne n
     .right
      calc i*R.k+R.k=(i+1)*R.k:=by rw[wO,xA]
       _<=q*R.k:=wu _ m
       _<=q*R.k+j:=kK _ _
     .left
      calc q*R.k+j<q*R.k+R.k:=by omega
       _=(q+1)*R.k:=by rw[wO,xA]
       _<=i*R.k:=wu _ N)
  (by
   intro b off u K;have o:=(h.mem b off u K).1;by_cases D:b=Γ.cur r
   .subst D
    have m:off<R.fz*R.k:=by
     obtain m|O:=Nat.lt_or_ge off (R.fz*R.k)
     .exact m
     .rw[d off O]at K;cases K
    have:R.fz*R.k<=i*R.k:=wu _ hf;rw[QU V,U off (.inl (by omega)),<-QU S];exact o
   .unfold World.cell? at o |-
    rw[X b D];exact o)
  (λ b _ D=>X b (D.resolve_right B)) (.inl ⟨rfl,B⟩) I F v (by omega) Q T
 exact⟨Γ',f1,f2⟩
end Go.AmZ
namespace Go.AmZ
open Go Go.RowKit
theorem TD.inv{P:Program}{t:TypeId}{d:TD}(h:yO P t=some d):∃i u z,P.info? t=some i/\P.underlying t=some u/\i.zero=some z/\i.size=d.size/\i.bytes=d.bytes/\qrM u=d.agg/\z.cells.toList=d.zero/\qa5 P u=some d.k:=by
 grind [yO]
theorem qgD{P:Program}{u:TypeDesc}(h:qa5 P u=some .string):u=.string:=by
 cases u<;>(try (cases qgo h;done))<;>simp[qa5]at h<;>try rfl
 all_goals (split at h<;>try (split at h))<;>simp at h
theorem qOn{P:Program}{u:TypeDesc}(h:qa5 P u=some .bool):u=.bool:=by
 cases u<;>(try (cases qgo h;done))<;>simp[qa5]at h<;>try rfl
 all_goals (split at h<;>try (split at h))<;>simp at h
theorem qEq{P:Program}{u:TypeDesc}{k:IntKind}(h:qa5 P u=some (.int k)):u=.int k:=by
 cases u<;>(try (cases qgo h;done))<;>simp[qa5]at h
 all_goals first|(subst h;rfl)|((split at h<;>try (split at h))<;>simp at h)
theorem qa1{P:Program}{u:TypeDesc}{e s b:Nat}{z:List Value}(h:qa5 P u=some (.slice e s b z)):u=.slice e/\∃i a,P.info? e=some i/\i.zero=some a/\i.size=s/\i.bytes=b/\a.cells.toList=z:=by
 cases u with
 |slice c=>
   grind [qa5]
 |map=>cases qgo h
 |_=>simp[qa5]at h<;>(split at h<;>simp at h)
theorem qM5{P:Program}{u:TypeDesc}{n e s:Nat}(h:qa5 P u=some (.array n e s)):u=.array n e/\∃i,P.info? e=some i/\i.size=s:=by
 cases u with
 |array a b=>
   grind [qa5]
 |map=>cases qgo h
 |_=>simp[qa5]at h<;>((split at h<;>try (split at h))<;>simp at h)
theorem qqM{P:Program}{u:TypeDesc}{b:List (Nat×Nat×Bool)}(h:qa5 P u=some (.struct b)):∃F,u=.struct F/\fieldsOf P F.toList=some b:=by
 cases u with
 |struct F=>
   simp only[qa5]at h;cases a:fieldsOf P F.toList with
   |none=>rw[a]at h;cases h
   |some l=>rw[a]at h;cases h;exact⟨F,rfl,a⟩
 |slice e=>simp only[qa5]at h;split at h<;>(try split at h)<;>cases h
 |array n e=>simp only[qa5]at h;split at h<;>cases h
 |map=>cases qgo h
 |_=>simp[qa5]at h
theorem qkp{P:Program}:∀{F:List Field}{a:List (Nat×Nat×Bool)},fieldsOf P F=some a->F.length=a.length/\∀(i:Nat) (x:Nat×Nat×Bool),a[i]?=some x->∃f fi u,F[i]?=some f/\P.info? f.type=some fi/\P.underlying f.type=some u/\x=(f.offset,fi.size,qrM u)
 |[],a,h=>by simp[fieldsOf]at h;subst h;exact⟨rfl,λ i x b=>by simp at b⟩
 |f::F,a,h=>by
   simp only[fieldsOf]at h;split at h
   .rename_i i u l e d c;cases h;let⟨j,g⟩:=qkp c;grind
   .cases h
def QN(P:Program)(Γ:Gh)(σ:St)(w:World)(o:Oper)(ρ:Operand->Value)(x:AV)(σ':Option St):Prop:=
 ∃a u w' Γ',(execOp ρ o).run P w=.ok a w'/\(a=.value u\/(a=.skip/\u=undef))/\Ext Γ w Γ' w'/\Inv Γ' (turn σ σ') w'/\Rep Γ' x u
theorem QN.val{P:Program}{Γ:Gh}{σ:St}{w:World}{o:Oper}{ρ:Operand->Value}{x:AV}{u:Value}(h:(execOp ρ o).run P w=.ok (.value u) w)(b:Inv Γ σ w)(a:Rep Γ x u):QN P Γ σ w o ρ x none:=
 ⟨_,u,w,Γ,h,.inl rfl,.refl _ _,b,a⟩
section
variable {P:Program}{C:Cfg}{Γ:Gh}{σ:St}{w:World}{o:Oper}{tm:List AV}{ρ:Operand->Value}{x:AV}{σ':Option St}
theorem zq{y:Value}{u:Value}(h:Rep Γ (.v y) u):u=y:=by cases h;rfl
theorem qGi(c:Inv Γ σ w)(b:∀y,Rep Γ (aev tm y) (ρ y))(y:Operand)(a:o.op=.move y\/o.op=.assign y):QN P Γ σ w o ρ (aev tm y) none:=by
 refine .val ?_ c (b y);obtain a|a:=a<;>simp[execOp,a]
theorem qN2(g:Inv Γ σ w)(d:∀y,Rep Γ (aev tm y) (ρ y))(c a b:Operand)(e:o.op=.pick c a b)(h:qc C tm σ o.op=some (x,σ')):QN P Γ σ w o ρ x σ':=by
 rw[e]at h;simp only[qc]at h;split at h<;>try cases h
 .rename_i f;have:=zq (f▸d c);exact .val (by simp[execOp,e,this,asBool]) g (d a)
 .rename_i f;have:=zq (f▸d c);exact .val (by simp[execOp,e,this,asBool]) g (d b)
theorem qfN(e:TypeId)(cs:Array Value)(w:World):(newRow e cs).run P w=.ok ⟨w.heap.size,0,none⟩ (w.alloc (.cells cs e)):=by
 simp only[newRow,newObj];rfl
theorem qeo:∀{l:List Value},l.all zF=true->RepL Γ (l.map .v) l/\∀u∈l,u.oneCell'=true
 |[],_=>⟨.nil,λ u h=>by cases h⟩
 |y::l,h=>by
   simp only[km,wc]at h;let⟨c,b⟩:=qeo h.2;refine⟨.cons (.v y h.1) c,λ u a=>?_⟩;obtain rfl|a:=wx.1 a
   .exact qBT h.1
   .exact b u a
theorem qMe(g:∀t d,C.ty t=some d->yO P t=some d)(c:Inv Γ σ w)(e:TypeId)(a:o.op=.alloc e)(h:qc C tm σ o.op=some (x,σ')):QN P Γ σ w o ρ x σ':=by
 rw[a]at h;simp only[qc]at h;split at h<;>try cases h
 rename_i d f;split at h<;>try cases h
 rename_i b;let⟨i,u,z,l,A,k,y,v,s,j,r⟩:=TD.inv (g e d f);let⟨n,m⟩:=qeo (Γ:=Γ) b;let⟨Γ',e1,q,p⟩:=qzF c n m e;refine⟨.value (.pointer (some ⟨w.heap.size,0,none⟩)),_,_,Γ',?_,.inl rfl,e1,q,p⟩;rw[<-j];simp[execOp,a,Instr.alloc,zeroValue,typeInfo,l,k,newVar,qfN]
theorem qPQ(d:Inv Γ σ w)(a:∀y,Rep Γ (aev tm y) (ρ y))(e:TypeId)(y:Operand)(b:o.op=.box e y)(h:qc C tm σ o.op=some (x,σ')):QN P Γ σ w o ρ x σ':=by
 rw[b]at h;simp only[qc]at h;split at h<;>try cases h
 split at h<;>try cases h
 rename_i c;let⟨g,f⟩:=(a y).cells c;let⟨Γ',e1,j,i⟩:=qzF d g f e;refine⟨.value (.pointer (some ⟨w.heap.size,0,none⟩)),_,_,Γ',?_,.inl rfl,e1,j,i⟩;simp[execOp,b,Instr.box,newVar,qfN]
def qFW(Γ:Gh)(w:World)(cs:List AV)(b o:Nat):Prop:=∀(j:Nat) (x:AV),cs[j]?=some x->∃u,w.cell? ⟨b,o+j,none⟩=some u/\Rep Γ x u/\u.oneCell'=true
theorem qgr(b o j:Nat):(⟨b,o,none⟩:Addr).add j=⟨b,o+j,none⟩:=by unfold Addr.add;split<;>simp_all
theorem qJ1(l:Inv Γ σ w){y:AV}{u:Value}(m:Rep Γ y u){d:TD}{z:AV}(h:jH d σ y=some z):∃cs o b g,qFW Γ w cs b g/\u=.pointer (some ⟨b,g+o,none⟩)/\qcr d.agg d.size cs o=some z:=by
 cases m with
 |ptr b o B=>
   simp only[jH]at h;split at h<;>try cases h
   rename_i cs a;split at h<;>try cases h
   rename_i n;let⟨vs,e,I,E,g3⟩:=(l.box b cs a).cells n;refine⟨cs,o,Γ.β b,0,?_,by simp,h⟩;intro j x c;let⟨u,q,f⟩:=E.get c;refine⟨u,?_,f,g3 u (wb q)⟩;unfold World.cell?;grind
 |rpt r i o J A s F c=>
   simp only[jH]at h;split at h<;>try cases h
   rename_i R C;split at h<;>try cases h
   rename_i cs a;simp only[qsS]at a;split at a<;>try cases a
   rename_i t;have H:=l.row r R C;have D:=c (by rw[<-H.ver (H.live a)];exact t);refine⟨cs,o,Γ.cur r,Γ.of r+i*R.k,?_,by rw[D,H.k],h⟩;intro j x c;rw[wN];exact H.cells i cs j x a c
 |ept cs o b g us G p m=>exact⟨cs,o,b,g,λ j x c=>⟨us j,(l.mem _ _ _ (p j x c)).1,m j x c,(l.mem _ _ _ (p j x c)).2⟩,rfl,h⟩
 |v x B|dead u|sl|rs|fn|agg|tup|mp=>simp[jH]at h
theorem qmu{t:TypeId}{u:TypeDesc}(h:P.underlying t=some u)(w:World):(isAgg t).run P w=.ok (qrM u) w:=by
 cases u<;>simp[isAgg,underlying,h,qrM]
theorem qG8{t:TypeId}{d:TD}(hd:yO P t=some d){cs:List AV}{b o' o:Nat}(hc:qFW Γ w cs b o'){z:AV}(h:qcr d.agg d.size cs o=some z):∃ u,(loadVar t ⟨b,o'+o,none⟩).run P w = .ok u w/\Rep Γ z u:=by
 obtain⟨i,u,zv,h1,h2,h3,h4,h5,h6,h7,h8⟩:=TD.inv hd;unfold qcr at h;split at h
 ·rename_i hg;split at h<;>try cases h
  rename_i hle;have hle:o+d.size<=cs.length:=by simpa using hle
  have hget:∀ j,j<d.size->∃ u,w.cell? ⟨b,o'+o+j,none⟩=some u/\(∀ x,cs[o+j]?=some x->Rep Γ x u)/\u.oneCell'=true:=by
   intro j hj;have hlt:o+j<cs.length:=by omega
   obtain⟨u,a1,a2,a3⟩:=hc (o+j) _ (List.getElem?_eq_getElem hlt);grind
  let f:Nat->Value := λ j=>(w.cell? ⟨b,o'+o+j,none⟩).getD undef
  have hf:∀ j,j<d.size->w.cell? ⟨b,o'+o+j,none⟩=some (f j) := λ j hj=>by
   grind
  have hrun:=run_loadCells (P:=P) w ⟨b,o'+o,none⟩ d.size f (λ j hj=>by rw[qgr];exact hf j hj);refine⟨.agg ((List.range d.size).map f).toArray,?_,.agg _ _ (by simp;omega) ?_ ?_⟩
  ·rw[show(loadVar t ⟨b,o'+o,none⟩)=(do if <- isAgg t then pure (.agg (<- loadCells ⟨b,o'+o,none⟩ (<- sizeOf t)))else load ⟨b,o'+o,none⟩)from rfl];simp[Sem.run_bind',qmu h2,h6,hg,sizeOf,typeInfo,h1,h4,hrun]
  ·grind
  ·grind
 ·rename_i hg;obtain⟨u,a1,a2,a3⟩:=hc o z h;refine⟨u,?_,a2⟩;rw[show(loadVar t ⟨b,o'+o,none⟩)=(do if <- isAgg t then pure (.agg (<- loadCells ⟨b,o'+o,none⟩ (<- sizeOf t)))else load ⟨b,o'+o,none⟩)from rfl];simp[Sem.run_bind',qmu h2,h6,hg,a1]
theorem qGp(c:Inv Γ σ w){t:TypeId}{d:TD}(e:yO P t=some d){y:AV}{u:Value}(a:Rep Γ y u){z:AV}(h:jH d σ y=some z):∃v A,u=.pointer (some A)/\(loadVar t A).run P w=.ok v w/\Rep Γ z v:=by
 let⟨cs,o,b,l,i,g,f⟩:=qJ1 c a h;let⟨v,k,j⟩:=qG8 e i f;exact⟨v,_,g,k,j⟩
theorem qND(g:∀t d,C.ty t=some d->yO P t=some d)(c:Inv Γ σ w)(a:∀y,Rep Γ (aev tm y) (ρ y))(t:TypeId)(y:Operand)(b:o.op=.load t y)(h:qc C tm σ o.op=some (x,σ')):QN P Γ σ w o ρ x σ':=by
 rw[b]at h;simp only[qc]at h;split at h<;>try cases h
 rename_i d f;split at h<;>try cases h
 rename_i z e;let⟨v,A,k,j,i⟩:=qGp c (g t d f) (a y) e;exact .val (by simp[execOp,b,Instr.loadAt,Instr.sureAddr,k,Sem.run_bind',j]) c i
theorem qtk{w:World}{g j:Nat}{t:TypeId}{fr:Nat×Nat}{a:Array Value}(h:w.heap[g]?=some (.cells a t fr))(c:qoP a.size fr)(d:j<a.size):w.frozen? ⟨g,j,none⟩=false:=by
 let⟨lo,b⟩:=fr;unfold World.frozen?;show(match w.heap[g]? with|some (.cells _ _ (lo,b))=>decide (lo<=j)&&decide (j<b)|_=>false)=false;rw[h];have:=c j d;grind
theorem qEN{w:World}{g:Nat}{t:TypeId}{fr:Nat×Nat}{a:Array Value}(h:w.heap[g]?=some (.cells a t fr)):w.setRow g a.toList.toArray=w:=by
 unfold World.setRow;have:∀H:Array Obj,H=w.heap->({w with heap:=H}:World)=w:=λ H e=>by subst e;rfl
 refine this _ ?_;apply Array.ext_getElem?;intro q;rw[Array.getElem?_modify];split
 .rename_i c;subst c;rw[h];simp
 .rfl
theorem qwg{α:Type}{l m:List α}{off n:Nat}(a:m.length=n)(h:off+n<=l.length)(q:Nat):(l.take off++(m++l.drop (off+n)))[q]?=if q<off then l[q]? else if q<off+n then m[q-off]? else l[q]?:=by
 grind
theorem qk1{g:Nat}{t:TypeId}{fr:Nat×Nat}:∀(vs:List Value) (o:Nat) (a:Array Value) (w:World),w.heap[g]?=some (.cells a t fr)->o+vs.length<=a.size->w.setCells g o vs=w.setRow g (a.toList.take o++(vs++a.toList.drop (o+vs.length))).toArray
 |[],o,a,w,h,_=>by
   rw[World.setCells,wY,wL,kW,kF];exact(qEN h).symm
 |v::vs,o,a,w,h,c=>by
   rw[wy]at c;have b:o<a.size:=by omega
   have d:w.setCell ⟨g,o,none⟩ v=w.setRow g (a.setIfInBounds o v):=setCell_eq_setRow w g o a t fr v h;rw[World.setCells,d,qk1 vs (o+1) (a.setIfInBounds o v) _ (setRow_heap w g a _ t fr h) (by rw[xO];omega),setRow_setRow];congr 2
   have e1:(a.toList.set o v).take (o+1)=a.toList.take o++[v]:=by
    rw[kC,vu (wa _),List.getElem?_set_self (by simpa using b)];rfl
   have e:(a.toList.set o v).drop (o+1+vs.length)=a.toList.drop (o+(v::vs).length):=by
    rw[vW (by omega),wy];congr 1;omega
   grind
theorem qql{w:World}{g:Nat}{t:TypeId}{fr:Nat×Nat}{a:Array Value}(h:w.heap[g]?=some (.cells a t fr))(b:qoP a.size fr)(o:Nat)(vs:List Value)(c:o+vs.length<=a.size)(e:∀v∈vs,v.oneCell'=true):
  (storeCells ⟨g,o,none⟩ vs 0).run P w=.ok () (w.setRow g (a.toList.take o++(vs++a.toList.drop (o+vs.length))).toArray):=by
 have:=run_storeCells_cells (P:=P) g o vs 0 w (λ j d=>by
  rw[QU h,Array.getElem?_eq_getElem (show o+0+j<a.size by omega)];rfl) (λ j d=>qtk h b (by omega)) e
 rw[wL,qk1 vs o a w h c]at this;exact this
theorem qBF(hC:∀t d,C.ty t=some d->yO P t=some d)(hi:Inv Γ σ w)(D:∀y,Rep Γ (aev tm y) (ρ y))(t:TypeId)(y z:Operand)(ho:o.op=.store t y z){d:TD}(hd:C.ty t=some d){r i off ep:Nat}(hp:aev tm y=.rpt r i off ep){R R':Row}(hR:σ.rw[r]?=some R)
  (F:qsT R i off ep d.size (cellsOf (aev tm z))=some R'):QN P Γ σ w o ρ (.tup []) (some {σ with rw:=σ.rw.set r R',wrr:=r::σ.wrr}):=by
 unfold qsT at F;split at F<;>try cases F
 rename_i B n a;simp only[wc,decide_eq_true_eq,wv]at n;let⟨⟨J,Z,aa,N,h⟩,M⟩:=n
 have v:(cellsOf (aev tm z)).all isC=true:=wv.2 λ x f=>by
  have:=M x f;cases x<;>first|rfl|(simp[qu]at this)
 let⟨ii,u,zv,h1,h2,h3,h4,h5,h6,h7,h8⟩:=TD.inv (hC t d hd);have H:=hi.row r R hR
 have E:ρ y=.pointer (some ⟨Γ.cur r,i*R.k+off,none⟩):=by
  have s:=hp▸D y;generalize ρ y=u0 at s;cases s with
  |rpt _ _ _ _ A ac U hl=>rw[hl (by rw[<-H.ver (H.live a)];exact J),H.k,H.off h,wD]
 let⟨g1,g2⟩:=(D z).cells v;have gl:=(D z).cells_len v;let⟨vs,e,fr,O,c2,c3,_⟩:=H.blk (H.real a);have Y:=getElem?_lt a;have ae:=H.len B (wb a)
 have ad:i*R.k+R.k<=vs.size:=by
  calc i*R.k+R.k=(i+1)*R.k:=by rw[wO,xA]
   _<=R.c.length*R.k:=wu _ Y
   _<=Γ.sz r:=by have:=H.fit;omega
   _=vs.size:=c2.symm
 have b:(ρ z).cells.toList.length=d.size:=by simp;omega
 have p:=qql (P:=P) O c3 (i*R.k+off) (ρ z).cells.toList (by rw[b];omega) g2;rw[b]at p;have S:i*R.k+off+d.size<=vs.toList.length:=by simp;omega
 have L:=λ q=>qwg b S q;have K:=λ q=>qwg (l:=B) (m:=cellsOf (aev tm z)) (off:=off) N (by omega) q
 let⟨Γ',f1,f2⟩:=qq4 hi hR a Z h (e1:=B.take off++(cellsOf (aev tm z)++B.drop (off+d.size))) (by simp;omega)
  (by
   intro x f;obtain f|f:=wk.1 f
   .exact H.plain B (wb a) x (wT f)
   .obtain f|f:=wk.1 f
    .exact M x f
    .exact H.plain B (wb a) x (wR f))
  (vs':=(vs.toList.take (i*R.k+off)++((ρ z).cells.toList++vs.toList.drop (i*R.k+off+d.size))).toArray)
  (w':=w.setRow (Γ.cur r) (vs.toList.take (i*R.k+off)++((ρ z).cells.toList++vs.toList.drop (i*R.k+off+d.size))).toArray)
  (by
   intro ab e2 af U;rw[O]at U;cases U;refine⟨setRow_heap w _ _ _ _ _ O,?_,λ q hq=>?_⟩
   .simp only[kh,wd,wm,wS,b,wM];omega
   .rw[List.getElem?_toArray,L q];have T:vs[q]?=vs.toList[q]?:=by simp
    rw[T];split
    .rfl
    .rw[if_neg (by omega)])
  (by
   intro j x G;rw[List.getElem?_toArray,L];rw[K]at G
   have I:∀x',B[j]?=some x'->∃u,vs.toList[i*R.k+j]?=some u/\Rep Γ x' u/\u.oneCell'=true:=by
    intro x' Q;let⟨u,E,g,h1⟩:=H.cells i B j x' a Q;rw[QU O,H.off h,wD]at E;exact⟨u,by simpa using E,g,h1⟩
   split at G
   .rename_i X;rw[if_pos (by omega)];exact I x G
   .rename_i X;split at G
    .rename_i W;rw[if_neg (by omega),if_pos (by omega)];let⟨u,E,g⟩:=g1.get G;exact⟨u,by rw[show i*R.k+j-(i*R.k+off)=j-off by omega];exact E,g,g2 u (wb E)⟩
    .rename_i W;rw[if_neg (by omega),if_neg (by omega)];exact I x G)
  (λ k hk=>setRow_other w _ k _ hk) rfl rfl rfl (by simp) (wa _) (r::σ.wrr)
 refine⟨.skip,undef,_,Γ',?_,.inr ⟨rfl,rfl⟩,f1,f2,.tup [] [] rfl λ i x u f=>by simp at f⟩;have V:(ρ z).cells.size=ii.size:=by omega
 simp[execOp,ho,Instr.storeAt,Instr.sureAddr,E,storeVar,sizeOf,typeInfo,h1,Sem.run_bind',V,p,wj]
theorem qKH(hC:∀ t d,C.ty t=some d->yO P t=some d)(hi:Inv Γ σ w)(hρ : ∀ y,Rep Γ (aev tm y) (ρ y))(t:TypeId)(y z:Operand)(ho:o.op = .store t y z)(h:qc C tm σ o.op=some (x,σ')):QN P Γ σ w o ρ x σ':=by
 rw[ho]at h;simp only[qc]at h;split at h<;>try cases h
 case h_2 =>
  rename_i d r i off ep hd hp;split at h<;>try cases h
  rename_i R hR;split at h<;>cases h;rename_i R' hst;exact qBF hC hi hρ t y z ho hd hp hR hst
 rename_i d b off hd hp;split at h<;>try cases h
 rename_i cs hcs;split at h<;>try cases h
 rename_i hcond;simp only[wc,decide_eq_true_eq]at hcond;obtain⟨⟨⟨hnm,hl⟩,hfit⟩,hone⟩:=hcond;obtain⟨i,u,zv,h1,h2,h3,h4,h5,h6,h7,h8⟩:=TD.inv (hC t d hd);have hptr:=hp▸hρ y
 have hu : ρ y = .pointer (some ⟨Γ.β b,off,none⟩):=by
  generalize ρ y=u0 at hptr;cases hptr;rfl
 obtain⟨g1,g2⟩:=(hρ z).cells hone;have gl:=(hρ z).cells_len hone;obtain⟨vs,e,c1,c2,c3⟩:=(hi.box b cs hcs).cells hnm;have hvl:vs.size=cs.length:=by simpa using c2.len
 have hrun:=run_storeCells_at P (Γ.β b) off e (ρ z).cells.toList 0 vs w c1 (by simp;omega) g2;simp only[wL]at hrun;have hvl2:(ρ z).cells.toList.length=d.size:=by simp;omega
 rw[hvl2]at hrun
 obtain⟨e1,e2⟩:=qJ9 hi hcs hnm (cs':=cs.take off++(cellsOf (aev tm z)++cs.drop (off+d.size))) (vs':=vs.toList.take off++((ρ z).cells.toList++vs.toList.drop (off+d.size)))
  ((c2.take off).append (g1.append (c2.drop _))) (by
    intro v hv;rcases wk.1 hv with hv | hv
    ·exact c3 v (wT hv)
    ·rcases wk.1 hv with hv | hv
     ·exact g2 v hv
     ·exact c3 v (wR hv)) (b :: σ.wr) (w.setRow (Γ.β b) (vs.toList.take off++((ρ z).cells.toList++vs.toList.drop (off+d.size))).toArray) (λ vs' e' hvs=>setRow_heap w _ vs' _ e' (0,0) hvs) (λ k hk=>setRow_other w _ k _ hk) rfl rfl rfl (by simp) (wa _)
 refine⟨.skip,undef,_,Γ,?_,.inr ⟨rfl,rfl⟩,e1,e2,.tup [] [] rfl λ i x u hx=>by simp at hx⟩;have hsz:(ρ z).cells.size=i.size:=by omega
 simp[execOp,ho,Instr.storeAt,Instr.sureAddr,hu,storeVar,sizeOf,typeInfo,h1,Sem.run_bind',hsz,hrun,wj]
theorem qOX(f:Inv Γ σ w)(b:∀y,Rep Γ (aev tm y) (ρ y))(y:Operand)(c:o.op=.nilCheck y)(h:qc C tm σ o.op=some (x,σ')):QN P Γ σ w o ρ x σ':=by
 rw[c]at h;simp only[qc]at h;have a:=b y;split at h<;>try cases h
 all_goals
  rename_i e;rw[e]at a;refine .val ?_ f a;generalize d:ρ y=u0 at a;cases a;simp[execOp,c,d]
end
abbrev waJ:=@TD.inv
end Go.AmZ
namespace Go.AmZ
open Go Go.RowKit
section
variable {P:Program}{C:Cfg}{Γ:Gh}{σ:St}{w:World}{o:Oper}{tm:List AV}{ρ:Operand->Value}{x:AV}{σ':Option St}
theorem toList_eq(a:ByteArray):a.toList=a.data.toList:=by rw[ByteArray.toList_eq]
theorem qPP{op:BinOp}{k:IntKind}{a b:Int}{z:Value}(h:qC9 op k a b=some z)(t:TypeId):Go.binOp op t (.int k a) (.int k b) = .pure z/\zF z=true:=by
 cases op<;>simp only[qC9]at h<;>try cases h
 all_goals first
  | exact⟨by simp[Go.binOp,Op.intArith,Op.intBits,Op.intCmp,iw,qi,yk,qqO,qoR,ieq,ilt,ile,qe]<;>first | rfl | (congr 1;simp[bne];done),rfl⟩
  | (split at h
     ·cases h
     ·rename_i d;cases h;have c:b≠0:=by simpa[ieq]using d
      exact⟨by simp[Go.binOp,Op.intDiv,qM0,qKx,iw,c];rfl,rfl⟩)
theorem qP5{op:BinOp}{a b:ByteArray}{z:Value}(h:qBZ op a b=some z)(t:TypeId):Go.binOp op t (.string a) (.string b) = .pure z/\zF z=true:=by
 cases op<;>simp only[qBZ]at h<;>try cases h
 all_goals first
  | exact⟨by simp[Go.binOp,Op.stringOp,xeq,xlt,qqU,qe,toList_eq];rfl,rfl⟩
  | (split at h<;>cases h
     rename_i z c;simp only[qHo]at c;split at c<;>cases c;rename_i d;exact⟨by simp only[Go.binOp,Op.stringOp];rw[if_neg d];rfl,rfl⟩)
theorem qQD{op:BinOp}{a b z:Value}(h:qru op a b=some z)(t:TypeId)(X Y:Operand):(eqGuard op t X Y a b).run P w=.ok () w/\(Go.binOp op t a b).run P w=.ok z w/\zF z=true:=by
 have guard:∀(k e:IntKind) (m n:Int),(eqGuard op t X Y (.int k m) (.int e n)).run P w=.ok () w:=λ k e m n=>by cases op<;>simp[eqGuard]
 have c:∀(m n:ByteArray),(eqGuard op t X Y (.string m) (.string n)).run P w=.ok () w:=λ m n=>by cases op<;>simp[eqGuard]
 unfold qru at h;split at h
 .rename_i k a e b;split at h
  .split at h<;>cases h;rename_i g;have d:¬ b<0:=by simpa[ilt]using g
   refine⟨guard _ _ _ _,?_,rfl⟩;simp[Go.binOp,Op.shift,d,qK9]
  .split at h<;>cases h;rename_i g;have d:¬ b<0:=by simpa[ilt]using g
   refine⟨guard _ _ _ _,?_,rfl⟩;simp[Go.binOp,Op.shift,d,qox]
  .split at h<;>try cases h
   rename_i l;have f:k=e:=by simpa using l
   subst f;let⟨j,i⟩:=qPP h t;refine⟨guard _ _ _ _,?_,i⟩;rw[j];rfl
 .rename_i a b;let⟨j,i⟩:=qP5 h t;refine⟨c _ _,?_,i⟩;rw[j];rfl
 .cases h
theorem qJb{u:TypeDesc}(h:qa5 P u=some .ptr):∃e,u=.pointer e:=by
 cases u<;>(try (cases qgo h;done))<;>simp only[qa5]at h<;>first|exact⟨_,rfl⟩|(cases h;done)|skip
 all_goals (repeat' (first|(cases h;done)|split at h))
 rename_i b;cases a:fieldsOf P b.toList with
 |none|some l=>rw[a]at h;cases h
theorem qNQ{y:AV}{u:Value}(h:Rep Γ y u)(a:qrD y=true):∃A,u=.pointer (some A):=by
 cases h with
 |ptr|rpt|ept=>exact⟨_,rfl⟩
 |_=>cases a
theorem qOD{y:AV}(h:qDG y=true):y=.v (.pointer none):=by
 unfold qDG at h;split at h
 .rfl
 .cases h
theorem qvb{t e:TypeId}(h:P.underlying t=some (.pointer e)):P.underlying t=some (.pointer (P.pointee t)):=by
 unfold Program.pointee;rw[h]
theorem qPp(G:∀t d,C.ty t=some d->yO P t=some d)(D:Inv Γ σ w)(c:∀y,Rep Γ (aev tm y) (ρ y))(op:BinOp)(t:TypeId)(y z:Operand)(u:TypeId)(q:o.op=.binOp op t y z u)(h:qc C tm σ o.op=some (x,σ')):QN P Γ σ w o ρ x σ':=by
 have g:∀(m n:Bool),(eqGuard op t y z (.bool m) (.bool n)).run P w=.ok () w:=λ m n=>by cases op<;>simp[eqGuard]
 have e:∀(m n:Option Addr),(eqGuard op t y z (.pointer m) (.pointer n)).run P w=.ok () w:=λ m n=>by cases op<;>simp[eqGuard]
 rw[q]at h;simp only[qc]at h;split at h<;>try cases h
 .rename_i a b B s;have k:=zq (B▸c y);have j:=zq (s▸c z);split at h<;>cases h
  all_goals
   rename_i S R Q O r;let⟨i,u,H,N,p,M,L,K,J,I,l⟩:=waJ (G t _ r);have E:=qOn l;subst E;refine .val ?_ D (.v _ rfl);have f:=run_equal_bool (P:=P) w t a b p;simp[execOp,q,k,j,Sem.run_bind',g,Go.binOp,f,Je,qe]
 .rename_i B s;have k:=zq (B▸c y);have j:=zq (s▸c z);split at h<;>cases h
  all_goals
   rename_i S R Q O r;let⟨i,u,H,N,p,M,L,K,J,I,l⟩:=waJ (G t _ r);obtain⟨T,rfl⟩:=qJb l;refine .val ?_ D (.v _ rfl);have f:=run_equal_pointer_nil (P:=P) w t none (qvb p);simp[execOp,q,k,j,Sem.run_bind',e,Go.binOp,f]
 .rename_i a b _ _ B s;have k:=zq (B▸c y);have j:=zq (s▸c z);split at h<;>cases h;rename_i Y U;let⟨X,W,V⟩:=qQD (P:=P) (w:=w) U t y z;refine .val ?_ D (.v _ V);simp[execOp,q,k,j,Sem.run_bind',X,W]
 .split at h<;>cases h
  all_goals
   rename_i S R Q O F r;rw[wc]at F;let⟨i,u,H,N,p,M,L,K,J,I,l⟩:=waJ (G t _ r);obtain⟨T,rfl⟩:=qJb l;let⟨A,k⟩:=qNQ (c y) F.1;have j:=zq (qOD F.2▸c z);refine .val ?_ D (.v _ rfl);have f:=run_equal_pointer_nil (P:=P) w t (some A) (qvb p);simp[execOp,q,k,j,Sem.run_bind',e,Go.binOp,f]
theorem qQP(e:Inv Γ σ w)(b:∀y,Rep Γ (aev tm y) (ρ y))(op:UnOp)(t:TypeId)(y:Operand)(d:o.op=.unOp op t y)(h:qc C tm σ o.op=some (x,σ')):QN P Γ σ w o ρ x σ':=by
 rw[d]at h;simp only[qc]at h;split at h<;>try cases h
 rename_i a g;have f:=zq (g▸b y);split at h<;>cases h;rename_i z c;unfold unA at c;split at c<;>cases c
 .exact .val (by simp[execOp,d,f,Op.unary,Op.intArith,iw,yk]) e (.v _ rfl)
 .exact .val (by simp[execOp,d,f,Op.unary,qe]) e (.v _ rfl)
theorem quz(a:∀y,Rep Γ (aev tm y) (ρ y)):∀l:List Operand,RepL Γ (l.map (aev tm)) (l.map ρ)
 |[]=>.nil
 |y::l=>.cons (a y) (quz a l)
theorem qQJ(i:Inv Γ σ w)(b:∀y,Rep Γ (aev tm y) (ρ y))(f:Fn)(d cs:Array Operand)(e:o.op=.makeFunc f d cs)(h:qc C tm σ o.op=some (x,σ')):QN P Γ σ w o ρ x σ':=by
 rw[e]at h;cases f with
 |func f=>?_
 |_=>simp only[qc]at h;cases h
 simp only[qc]at h;split at h<;>cases h;rename_i c
 have a:d = #[]:=by
  rw[<-vj (xs:=d),c]
 subst a;have g:=quz b cs.toList;refine .val (u:=.func (.func f) #[] (cs.toList.map ρ).toArray) ?_ i (.fn f _ _ g.len g.rep);simp[execOp,e,Instr.makeFunc];rw[<-vk]
theorem qH7(l:Inv Γ σ w)(b:∀y,Rep Γ (aev tm y) (ρ y))(y:Operand)(i:Nat)(e:o.op=.extract y i)(h:qc C tm σ o.op=some (x,σ')):QN P Γ σ w o ρ x σ':=by
 rw[e]at h;simp only[qc]at h;split at h<;>try cases h
 rename_i vs f;split at h<;>cases h;rename_i z c;have d:=f▸b y;generalize g:ρ y=u0 at d;cases d with
 |tup cs us k j=>
   have a:i<us.length:=by rw[k];exact getElem?_lt c
   refine .val ?_ l (j i _ _ c (List.getElem?_eq_getElem a));simp[execOp,e,g,Instr.extract,a]
theorem qBK(T:∀t d,C.ty t=some d->yO P t=some d)(s:Inv Γ σ w)(B:∀y,Rep Γ (aev tm y) (ρ y))(t:TypeId)(y:Operand)(i:Nat)(E:o.op=.fieldAddr t y i)(h:qc C tm σ o.op=some (x,σ')):QN P Γ σ w o ρ x σ':=by
 rw[E]at h;simp only[qc]at h;split at h<;>try cases h
 rename_i _ _ _ _ fs Q;split at h<;>try cases h
 rename_i off size g O;split at h<;>try cases h
 rename_i _ Z;let⟨ii,u,Y,q1,G,q3,q4,q5,q6,q7,K⟩:=waJ (T t _ Q);obtain⟨F,rfl,S⟩:=qqM K;let⟨f1,W⟩:=qkp S;let⟨f,fi,fu,V,J,g3,I⟩:=W i _ O;simp only[wI]at I;obtain⟨rfl,M,rfl⟩:=I;have p:F[i]?=some f:=by rw[<-V];simp
 have n:fi.size≠0:=by omega
 have e:∀b a,ρ y=.pointer (some ⟨b,a,none⟩)->(execOp ρ o).run P w=.ok (.value (.pointer (some ⟨b,a+f.offset,none⟩))) w:=by
  intro b a k;simp[execOp,E,k,Instr.fieldAt,underlying,G,p,Instr.sureAddr,fieldPlace,sizeOf,typeInfo,J,n,qgr]
 have c:=B y;split at h<;>try cases h
 .rename_i k;rw[k]at c;generalize l:ρ y=u0 at c;cases c;rename_i b z R;exact .val (e _ _ l) s (.ptr _ _ R)
 .rename_i k;rw[k]at c;generalize l:ρ y=u0 at c;cases c;rename_i r j z X A m H L;by_cases q:Γ.ver r=X
  .have U:=L q;subst U;exact .val (e _ _ l) s (.rpt _ _ _ _ _ m H λ _=>by rw[wN])
  .refine .val (u:=.pointer (some (A.add f.offset))) ?_ s (.rpt _ _ _ _ _ m H λ h=>absurd h q);simp[execOp,E,l,Instr.fieldAt,underlying,G,p,Instr.sureAddr,fieldPlace,sizeOf,typeInfo,J,n]
 .rename_i k;rw[k]at c;generalize l:ρ y=u0 at c;cases c;rename_i cs z b v us D q N;refine .val (e _ _ l) s ?_;rw[wN];exact .ept cs (z+f.offset) b v us D q N
theorem qNr{f:TypeId}{fi:TypeInfo}{j:TypeDesc}(k:P.info? f=some fi)(i:P.underlying f=some j){cs:List AV}{us:List Value}(g:RepL Γ cs us)(b:∀u∈us,u.oneCell'=true){off:Nat}{z:AV}(h:qcr (qrM j) fi.size cs off=some z):
  ∃u,(part f us.toArray off).run P w=.ok u w/\Rep Γ z u:=by
 unfold qcr at h;split at h
 .rename_i e;split at h<;>cases h;rename_i c;have c:off+fi.size<=cs.length:=by simpa using c
  refine⟨.agg ((us.drop off).take fi.size).toArray,?_,?_⟩
  .simp[part,Sem.run_bind',qmu i,e,sizeOf,typeInfo,k]
  .have:=(g.drop off).take fi.size;exact .agg _ _ this.len (λ u d=>b u (wR (wT d))) this.rep
 .rename_i e;let⟨u,d,a⟩:=g.get h;refine⟨u,?_,a⟩;simp[part,Sem.run_bind',qmu i,e,d]
theorem qLF(E:∀t d,C.ty t=some d->yO P t=some d)(s:Inv Γ σ w)(a:∀y,Rep Γ (aev tm y) (ρ y))(t:TypeId)(y:Operand)(i:Nat)(j:o.op=.field t y i)(h:qc C tm σ o.op=some (x,σ')):QN P Γ σ w o ρ x σ':=by
 rw[j]at h;simp only[qc]at h;split at h<;>try cases h
 rename_i _ _ _ _ V cs B b;split at h<;>try cases h
 rename_i off size g A;split at h<;>cases h;rename_i z n;let⟨T,u,L,S,m,R,Q,O,N,M,l⟩:=waJ (E t _ B);obtain⟨F,rfl,D⟩:=qqM l;let⟨W,J⟩:=qkp D;let⟨f,fi,U,I,H,g3,k⟩:=J i _ A;simp only[wI]at k;obtain⟨rfl,rfl,rfl⟩:=k;have c:F[i]?=some f:=by rw[<-I];simp
 have e:=b▸a y;generalize p:ρ y=u0 at e;cases e with
 |agg _ us r G q=>
   let⟨v,e1,K⟩:=qNr (P:=P) (w:=w) H g3 (Γ:=Γ) ⟨r,q⟩ G n;refine .val ?_ s K;simp[execOp,j,p,Instr.field,underlying,m,c,asAgg,Sem.run_bind',e1]
theorem qKw(D:∀t d,C.ty t=some d->yO P t=some d)(r:Inv Γ σ w)(a:∀y,Rep Γ (aev tm y) (ρ y))(t:TypeId)(y z:Operand)(g:o.op=.index t y z)(h:qc C tm σ o.op=some (x,σ')):QN P Γ σ w o ρ x σ':=by
 rw[g]at h;simp only[qc]at h;split at h<;>try cases h
 rename_i _ _ _ _ s k j B p q;split at h<;>cases h;rename_i b e;have F:=zq (p▸a y);have E:=zq (q▸a z);let⟨O,u,H,N,m,M,L,K,J,I,l⟩:=waJ (D t _ B);have n:=qgD l;subst n;simp only[qG9]at e;split at e<;>try cases e
 rename_i G;split at e<;>cases e;rename_i c i;refine .val ?_ r (.v _ rfl);have f:j.toNat<s.size:=by have:=getElem?_lt i;simpa using this
 have A:s[j.toNat]=c:=by
  have:=(List.getElem?_eq_some_iff.1 i).2;simp at this;exact this
 simp[execOp,g,F,E,Instr.index,asIntOf,underlying,m,G,f,A]
end
end Go.AmZ
namespace Go.AmZ
open Go Go.RowKit
section
variable {P:Program}{C:Cfg}{Γ:Gh}{σ:St}{w:World}{o:Oper}{tm:List AV}{ρ:Operand->Value}{x:AV}{σ':Option St}
theorem qDV(hC:∀t d,C.ty t=some d->yO P t=some d)(G:Inv Γ σ w)(i:∀y,Rep Γ (aev tm y) (ρ y))(t:TypeId)(y z:Operand)(Q:o.op=.indexAddr t y z)(h:qc C tm σ o.op=some (x,σ')):QN P Γ σ w o ρ x σ':=by
 rw[Q]at h;simp only[qc]at h;split at h<;>try cases h
 .rename_i _ _ _ e k bb zz kk j U T;have Y:=zq (T▸i z);let⟨ii,u,zv,q1,J,q3,q4,q5,q6,q7,I⟩:=waJ (hC t _ U);obtain⟨rfl,ie,ze,L,p2,K,p4,p5⟩:=qa1 I;have g:=i y
  have s:∀b off n cap,ρ y=.slice (some ⟨b,off,none⟩) n cap->0<=j->j<n->(execOp ρ o).run P w=.ok (.value (.pointer (some ⟨b,off+j.toNat*k,none⟩))) w:=by
   intro b off n cap m D F;simp[execOp,Q,m,Y,Instr.indexAt,asIntOf,underlying,J,D,F,sizeOf,typeInfo,L,K,qgr]
  split at h<;>try cases h
  .rename_i Z es f m;split at h<;>try cases h
   rename_i S;have S:Z=k:=by simpa[zm]using S
   subst S;split at h<;>cases h;rename_i cs c;simp only[qyo]at c;split at c<;>try cases c
   rename_i D;rw[m]at g;generalize v:ρ y=u0 at g;cases g with
   |sl _ _ _ a n cap b E us F hc hf B O ab X hm hr=>
     have A:=getElem?_lt c;have W:a=some ⟨b,E,none⟩:=X.resolve_left λ he=>by rw[he]at A;simp at A
     subst W;refine .val (s _ _ _ _ v D (by omega)) G ?_;exact .ept cs 0 b (E+j.toNat*Z) (us j.toNat) (λ x l=>O cs (wb c) x l) (λ q x l=>hm _ cs q x c l) (λ q x l=>hr _ cs q x c l)
  .rename_i r lo n ep f m;split at h<;>try cases h
   rename_i R hR;split at h<;>cases h;rename_i q N;simp only[qBs]at N;split at N<;>cases N;rename_i hc;let⟨c1,c2,c3,c4,c5⟩:=hc;have H:=G.row r R hR;rw[m]at g;generalize v:ρ y=u0 at g;cases g with
   |rs _ _ _ _ _ a cap M hv aa hf l=>
     let⟨g2,g3⟩:=l (by rw[<-H.ver (H.liveN c5 (by omega))];exact c4);have p:cap≠0:=by omega
     have X:=g2.resolve_left p;subst X;refine .val (s _ _ _ _ v c2 c3) G (.rpt _ _ _ _ _ M hv λ _=>?_);have B:k=Γ.k r:=by rw[<-c1];exact H.k
     rw[B,wO];simp
 .rename_i n e k _ j U T;have Y:=zq (T▸i z);let⟨ii,u,zv,q1,J,q3,q4,q5,q6,q7,I⟩:=waJ (hC t _ U);obtain⟨rfl,ie,L,K⟩:=qM5 I;split at h<;>try cases h
  rename_i b E m;split at h<;>cases h;rename_i hb;let⟨D,F⟩:=of_decide_eq_true hb;have g:=i y;rw[m]at g;generalize v:ρ y=u0 at g;cases g with
  |ptr _ _ V=>
    refine .val (u:=.pointer (some ⟨Γ.β b,E+j.toNat*k,none⟩)) ?_ G (.ptr _ _ V);simp[execOp,Q,v,Y,Instr.indexAt,Instr.sureAddr,asIntOf,underlying,J,D,F,sizeOf,typeInfo,L,K,qgr]
theorem qI9{y:Nat}{v:Value}{a:AV}(c:Rep Γ a v){n:Nat}(h:qvC y a=some n)(m:Nat)(f:y<=m)(b:BoundsCode):(Instr.sliceBound v m b).run P w=.ok n w/\n<=y:=by
 unfold qvC at h;split at h
 .rename_i k i;have:=zq c;subst this;simp only[bnd]at h;split at h<;>cases h;rename_i d;have e:0<=i/\i<=m:=⟨d.1,by omega⟩
  exact⟨by simp[Instr.sliceBound,asIntOf,e],by omega⟩
 .cases h
theorem qmq(c:∀y,Rep Γ (aev tm y) (ρ y)){isS:Bool}{a cap:Nat}(d:a<=cap){lo b:Option Operand}{l h:Nat}(f:qdm a a (b.map (aev tm))=some h)(e:qdm 0 h (lo.map (aev tm))=some l):
  (Instr.sliceBounds isS a cap (lo.map ρ) (b.map ρ) none).run P w=.ok (l,h,cap) w/\l<=h/\h<=a:=by
 have H:(match b.map ρ with|some v=>Instr.sliceBound v cap (if isS then .sliceAcap else .sliceAlen)|none=>pure a:Sem Nat).run P w=.ok h w/\h<=a:=by
  cases b with
  |none=>simp only[qdm,xB]at f;cases f;exact⟨by simp,wa _⟩
  |some y=>exact qI9 (c y) (by simpa[qdm]using f) cap d _
 have L:(match lo.map ρ with|some v=>Instr.sliceBound v h .sliceB|none=>pure 0:Sem Nat).run P w=.ok l w/\l<=h:=by
  cases lo with
  |none=>simp only[qdm,xB]at e;cases e;exact⟨by simp,we _⟩
  |some y=>exact qI9 (c y) (by simpa[qdm]using e) h (wa _) _
 refine⟨?_,L.2,H.2⟩;cases b with
 |none=>
   cases lo with
   |none=>simp only[xB]at H L;simp at H L;simp[Instr.sliceBounds,H,L]
   |some y=>simp only[xB,kP]at H L;simp at H;simp[Instr.sliceBounds,H,L.1]
 |some z=>
   cases lo with
   |none=>simp only[xB,kP]at H L;simp at L;simp[Instr.sliceBounds,H.1,L]
   |some y=>simp only[kP]at H L;simp[Instr.sliceBounds,H.1,L.1]
theorem qMz(Y:∀t d,C.ty t=some d->yO P t=some d)(T:Inv Γ σ w)(c:∀y,Rep Γ (aev tm y) (ρ y))(t:TypeId)(y:Operand)(lo S mx:Option Operand)(N:o.op=.slice t y lo S mx)(h:qc C tm σ o.op=some (x,σ')):QN P Γ σ w o ρ x σ':=by
 rw[N]at h;cases mx with
 |some m=>simp only[qc]at h;cases h
 |none=>
 simp only[qc]at h;split at h<;>try cases h
 .rename_i _ _ _ _ s J hs;have h1:=zq (hs▸c y);let⟨ii,u,Z,q1,F,q3,q4,q5,q6,q7,E⟩:=waJ (Y t _ J);have G:=qgD E;subst G;split at h<;>try cases h
  rename_i q p;split at h<;>cases h;rename_i l g;let⟨z,b2,W⟩:=qmq (P:=P) (w:=w) c (isS:=false) (wa _) p g;refine .val ?_ T (.v _ rfl);simp[execOp,N,h1,Instr.sliceAt,Instr.slice,underlying,F,Sem.run_bind',qpO]at z |-
  simp[z,qBy]
 .rename_i _ _ _ e k bb zz X es f J M;split at h<;>try cases h
  rename_i Q;rw[wc]at Q;have af:0<f:=of_decide_eq_true Q.2;have Q:X=k:=by simpa[zm]using Q.1
  subst Q;split at h<;>try cases h
  rename_i q p;split at h<;>cases h;rename_i l g;let⟨ii,u,Z,q1,F,q3,q4,q5,q6,q7,E⟩:=waJ (Y t _ J);obtain⟨rfl,ie,ze,D,p2,B,p4,p5⟩:=qa1 E;have L:=M▸c y;generalize G:ρ y=u0 at L;cases L with
  |sl _ _ _ a n cap b oo us hn U hf ac aa ah V hm hr=>
    subst hn;have U:=U af;let⟨z,b2,W⟩:=qmq (P:=P) (w:=w) c (isS:=true) U p g;have W:q<=es.length:=W;have z:(Instr.sliceBounds true es.length cap (lo.map ρ) (S.map ρ) none).run P w=.ok (l,q,cap) w:=z;refine .val (u:=.slice (if cap=l then a else a.map (·.add (l*X))) (q-l) (cap-l)) ?_ T ?_
    .simp[execOp,N,G,Instr.sliceAt,Instr.slice,underlying,F,Sem.run_bind',sizeOf,typeInfo,D,B];rw[z];simp[D,B]
    .simp only[qIc];refine .sl X _ _ _ _ _ b (oo+l*X) (λ i j=>us (l+i) j) (by simp;omega) (λ _=>by omega) ?_ (λ e he=>ac e (wT (wR he))) (λ e he=>aa e (wT (wR he))) ah ?_ ?_ ?_
     .intro A;unfold lvS at A;split at A
      .rename_i hb;rw[wc]at hb;have h1:=hf (of_decide_eq_true hb.1);have h2:q=es.length:=of_decide_eq_true hb.2;rw[h1,h2]
      .exact absurd A (by decide)
     .obtain V|V:=V
      .left;subst V;simp
      .by_cases K:cap=l
       .grind
       .right;subst V;rw[if_neg K];simp[qgr]
     .grind
     .grind
 .rename_i _ _ _ e k bb zz J M;split at h<;>try cases h
  rename_i q p;split at h<;>cases h;rename_i l g;let⟨ii,u,Z,q1,F,q3,q4,q5,q6,q7,E⟩:=waJ (Y t _ J);obtain⟨rfl,ie,ze,D,p2,B,p4,p5⟩:=qa1 E;have G:=zq (M▸c y);let⟨z,b2,W⟩:=qmq (P:=P) (w:=w) c (isS:=true) (wa 0) p g;have ae:q=0:=by omega
  have ab:l=0:=by omega
  subst ae;subst ab;refine .val (u:=.slice none 0 0) ?_ T (.v _ rfl);simp[execOp,N,G,Instr.sliceAt,Instr.slice,underlying,F,Sem.run_bind',sizeOf,typeInfo,D,B];rw[z];simp[D,B]
 .rename_i _ _ _ e k bb zz r oo n ep f J M;split at h<;>try cases h
  rename_i q R p hR;split at h<;>try cases h
  rename_i l g;split at h<;>cases h;rename_i R' O I;have ad:q=n:=by simpa[zm]using O
  subst ad;simp only[qBq]at I;split at I<;>cases I;rename_i ag;let⟨c0,c1,c2,c3,c4,c5⟩:=ag;let⟨ii,u,Z,q1,F,q3,q4,q5,q6,q7,E⟩:=waJ (Y t _ J);obtain⟨rfl,ie,ze,D,p2,B,p4,p5⟩:=qa1 E;have H:=T.row r R hR;have L:=M▸c y;generalize G:ρ y=u0 at L;cases L with
  |rs _ _ _ _ _ a cap aj hv U A hx=>
    let⟨g2,g3⟩:=hx (by rw[<-H.ver c5];exact c1);let⟨z,b2,W⟩:=qmq (P:=P) (w:=w) c (isS:=true) U p g;let⟨Γ',f1,f2,f3⟩:=qMR T hR c5 (l:=l) (by omega) (r::σ.wrr);subst c3;rw[c1]at f3;rw[wD,<-H.k]at g3;rw[kJ,wL]at g2;have ak:(cap-l)*R.k=cap*R.k-l*R.k:=wae _ _ _;have ai:l*R.k<=cap*R.k:=wu _ (by omega);refine⟨_,.slice (if cap=l then a else a.map (·.add (l*R.k))) (q-l) (cap-l),w,Γ',?_,.inl rfl,f1,?_,f3 _ _ _ (by omega) ?_ (by omega)⟩
    .simp[execOp,N,G,Instr.sliceAt,Instr.slice,underlying,F,Sem.run_bind',sizeOf,typeInfo,D,B];rw[z];simp[D,B,c0]
    .exact f2
    .by_cases K:cap=l
     .left;omega
     .right;rw[if_neg K,g2.resolve_left (by omega)];simp[qgr]
theorem qDh(off:Nat):∀(xs:List Value) (n:Nat) (cs:Array Value),off+n+xs.length<=cs.size->((xs.zipIdx n).foldl (λ cs (p:Value×Nat)=>cs.setIfInBounds (off+p.2) p.1) cs).toList=cs.toList.take (off+n)++(xs++cs.toList.drop (off+n+xs.length))
 |[],n,cs,h=>by simp
 |x::xs,n,cs,h=>by
   simp only[vN,ke,wy]at h |-
   rw[qDh off xs (n+1) _ (by simp;omega)];simp only[xw];have a:off+n<cs.toList.length:=by simp;omega
   have b:off+n<cs.size:=by omega
   rw[show off+(n+1)=off+n+1 by omega,show off+n+1+xs.length=off+n+(xs.length+1) by omega];rw[kC,List.getElem?_set_self a,vu (wa _),vW (by omega)];simp
theorem qAn{v:Value}{off:Nat}{cs:Array Value}(h:off+v.cells.size<=cs.size):(v.cells.zipIdx.foldl (λ cs (c,j)=>cs.setIfInBounds (off+j) c) cs).toList=cs.toList.take off++(v.cells.toList++cs.toList.drop (off+v.cells.size)):=by
 rw[<-Array.foldl_toList,Array.toList_zipIdx];have:=qDh off v.cells.toList 0 cs (by simpa using h);simpa using this
theorem qGK{place:Nat->Option (Nat×Nat)}:∀{ps:List (Nat×AV)}{vs:List (Nat×Value)}{cells:List AV}{cs:Array Value}{cells':List AV},(ps.length=vs.length/\∀(i:Nat) (p:Nat×AV) (q:Nat×Value),ps[i]?=some p->vs[i]?=some q->p.1=q.1/\Rep Γ p.2 q.2)->
  RepL Γ cells cs.toList->(∀u∈cs.toList,u.oneCell'=true)->qmo place cells ps=some cells'->∃cs',Instr.fill place cs vs=some cs'/\RepL Γ cells' cs'.toList/\∀u∈cs'.toList,u.oneCell'=true
 |[],vs,cells,cs,cells',e,g,l,h=>by
   obtain rfl:vs=[]:=kE.1 e.1.symm;simp only[qmo]at h;cases h;exact⟨cs,rfl,g,l⟩
 |(i,x)::ps,vs,cells,cs,cells',e,g,l,h=>by
   cases vs with
   |nil=>simp at e
   |cons q vs=>
     let⟨j,v⟩:=q;let⟨k,m⟩:=e.2 0 (i,x) (j,v) rfl rfl;simp only at k m;subst k;simp only[qmo]at h;split at h<;>try cases h
     rename_i off size o;split at h<;>try cases h
     rename_i r;simp only[wc,decide_eq_true_eq]at r;let⟨⟨D,C⟩,s⟩:=r;let⟨y,w⟩:=m.cells s;have B:=m.cells_len s;have t:cs.size=cells.length:=by simpa using g.len
     have f:=qAn (v:=v) (off:=off) (cs:=cs) (by omega);have n:v.cells.size=size:=by omega
     let⟨cs',e1,A,z⟩:=qGK (place:=place) (ps:=ps) (vs:=vs) (cells:=cells.take off++(cellsOf x++cells.drop (off+size))) (cs:=v.cells.zipIdx.foldl (λ cs (c,j)=>cs.setIfInBounds (off+j) c) cs) (cells':=cells')
      ⟨by simpa using e.1,λ i p q a b=>e.2 (i+1) p q (by simpa using a) (by simpa using b)⟩
      (by rw[f,n];exact(g.take off).append (y.append (g.drop _)))
      (by
       rw[f];intro u d;obtain d|d:=wk.1 d
       .exact l u (wT d)
       .obtain d|d:=wk.1 d
        .exact w u d
        .exact l u (wR d)) h
     refine⟨cs',?_,A,z⟩;simp only[Instr.fill,o];grind
theorem qKl(a:∀y,Rep Γ (aev tm y) (ρ y))(parts:List (Nat×Operand)):(parts.map λ p=>(p.1,aev tm p.2)).length=(parts.map λ p=>(p.1,ρ p.2)).length/\∀(i:Nat) (p:Nat×AV) (q:Nat×Value),(parts.map λ p=>(p.1,aev tm p.2))[i]?=some p->(parts.map λ p=>(p.1,ρ p.2))[i]?=some q->p.1=q.1/\Rep Γ p.2 q.2:=by
 grind
theorem qLW(K:∀t d,C.ty t=some d->yO P t=some d)(g:Inv Γ σ w)(e:∀y,Rep Γ (aev tm y) (ρ y))(t:TypeId)(parts:Array (Nat×Operand))(k:o.op=.build t parts)(h:qc C tm σ o.op=some (x,σ')):QN P Γ σ w o ρ x σ':=by
 rw[k]at h;simp only[qc]at h;split at h<;>try cases h
 rename_i _ _ _ z a H;split at h<;>try cases h
 rename_i E;split at h<;>cases h;rename_i cs I;let⟨S,u,q,B,A,s,R,Q,O,j,r⟩:=waJ (K t _ H);obtain⟨F,rfl,m⟩:=qqM r;let⟨V,U⟩:=qkp m;simp only at j;subst j;let⟨M,L⟩:=qeo (Γ:=Γ) E
 have b:∀{F:List Field}{a:List (Nat×Nat×Bool)},fieldsOf P F=some a->F.mapM (λ f=>(P.info? f.type).map λ i=>(f.offset,i.size))=some (a.map λ f=>(f.1,f.2.1)):=by
  intro F
  induction F with
  |nil=>intro a h;simp[fieldsOf]at h;subst h;rfl
  |cons f F D=>
    intro a h;simp only[fieldsOf]at h;split at h
    .rename_i i u l g T G;cases h;simp[List.mapM_cons,g,D G]
    .cases h
 have c:qmo (λ i=>(a.map λ f=>(f.1,f.2.1)).toArray[i]?) (q.cells.toList.map .v) (parts.toList.map λ p=>(p.1,aev tm p.2))=some cs:=by
  grind
 let⟨cs',e1,n,N⟩:=qGK (Γ:=Γ) (qKl e parts.toList) M L c
 have J:P.built t (parts.map λ p=>(p.1,ρ p.2)).toList=some cs':=by
  unfold Program.built;rw[B,A];simp only[s,b m];rw[vk];exact e1
 refine .val (u:=.agg cs') ?_ g ?_
 .simp[execOp,k,run_build w t _ cs' J]
 .have:=Rep.agg (Γ:=Γ) cs cs'.toList n.len N n.rep;simpa using this
end
end Go.AmZ
namespace Go.AmZ
open Go Go.RowKit
section
variable {P:Program}{C:Cfg}{Γ:Gh}{σ:St}{w:World}{o:Oper}{tm:List AV}{ρ:Operand->Value}{x:AV}{σ':Option St}
theorem qk6(W:Inv Γ σ w){m:Nat->Nat->Option Value}(p:Le Γ {Γ with mem:=m}){y:AV}{u:Value}(X:∀r∈rsC y,∀R,σ.rw[r]?=some R->QA {Γ with mem:=m} r R)(E:Rep Γ y u):Rep {Γ with mem:=m} (qX σ.rw y) u:=by
 cases E with
 |sl k es f a n cap b o us S L I U G C Y T E=>
   exact .sl k es _ a n cap b o us S (λ h=>L (by cases f with|zero=>exact absurd h (vM 0)|succ f=>exact xC f)) (λ h=>by cases f with|zero=>exact absurd h (by simp[lv1])|succ f=>exact absurd h (by simp[lv1])) U G C Y (λ i e j x d g=>p.mem _ _ _ (T i e j x d g)) (λ i e j x d g=>(E i e j x d g).mono p)
 |rs r lo n N f a cap Q hv L I P=>
   simp only[qX];split
   .rename_i R M;split
    .rename_i es s;simp only[qjX]at s;split at s<;>cases s;rename_i K;obtain⟨-,c1,Z⟩:=K;have H:=W.row r R M
     have D:n=0\/(cap=0\/a=some ⟨Γ.cur r,Γ.of r+lo*Γ.k r,none⟩):=by
      obtain C|C:=vA n
      .exact .inl C
      .exact .inr (P (by rw[<-H.ver (H.liveN Z C)];exact c1)).1
     have F:=X r (by simp[rsC]) R M
     have t:∀(i:Nat) (e:List AV) (j:Nat) (x:AV),((R.c.drop lo).take n)[i]?=some e->e[j]?=some x->∃u,m (Γ.cur r) (Γ.of r+lo*R.k+i*R.k+j)=some u/\Rep {Γ with mem:=m} x u:=by
      intro i e j x d g;rw[List.getElem?_take]at d;split at d<;>try cases d
      rename_i V;rw[List.getElem?_drop]at d;let⟨u,z,l⟩:=F (lo+i) e j x d g;refine⟨u,?_,l⟩;rw[<-z,wO,wN,wN,<-wN (lo*R.k)]
     refine .sl R.k _ 1 a n cap (Γ.cur r) (Γ.of r+lo*R.k) (λ i j=>(m (Γ.cur r) (Γ.of r+lo*R.k+i*R.k+j)).getD undef) ?_ (λ _=>L) (λ h=>absurd h (by decide)) (λ e J=>H.len e (wR (wT J))) (λ e J=>H.plain e (wR (wT J))) H.pos ?_ ?_ ?_
     .simp;omega
     .obtain D|D|D:=D
      .left;apply wi;simp;omega
      .left;apply wi;simp;omega
      .right;rw[D,H.k]
     .intro i e j x d g;let⟨u,z,_⟩:=t i e j x d g;show m (Γ.cur r) _=_;rw[z];rfl
     .intro i e j x d g;let⟨u,z,l⟩:=t i e j x d g;rw[z];exact l
    .exact .dead _
   .exact .dead _
 |v _ h=>exact .v _ h
 |dead u=>exact .dead u
 |ptr b o h=>exact(Rep.ptr b o h).mono p
 |rpt r i o N A d g B=>exact(Rep.rpt r i o N A d g B).mono p
 |ept cs o b O us d g B=>exact(Rep.ept cs o b O us d g B).mono p
 |fn f cs us d g=>exact(Rep.fn f cs us d g).mono p
 |agg cs us d g B=>exact(Rep.agg cs us d g B).mono p
 |tup cs us d g=>exact(Rep.tup cs us d g).mono p
 |mp b h=>exact(Rep.mp b h).mono p
theorem qDZ(g:Inv Γ σ w){m:Nat->Nat->Option Value}(f:Le Γ {Γ with mem:=m}){cs:List AV}{us:List Value}(j:∀r∈cs.flatMap rsC,∀R,σ.rw[r]?=some R->QA {Γ with mem:=m} r R)(d:RepL Γ cs us):RepL {Γ with mem:=m} (cs.map (qX σ.rw)) us:=by
 refine⟨by simpa using d.len,λ i x u b e=>?_⟩;rw[List.getElem?_map]at b;cases h:cs[i]? with
 |none=>rw[h]at b;cases b
 |some y=>
   rw[h]at b;cases b;exact qk6 g f (λ r c=>j r (w7.2 ⟨y,wb h,c⟩)) (d.rep i y u h e)
theorem qym(p:Inv Γ σ w){m:Nat->Nat->Option Value}(e:Le Γ {Γ with mem:=m}){y:AV}{u:Value}(q:∀r∈rsA y,∀R,σ.rw[r]?=some R->QA {Γ with mem:=m} r R)(z:Rep Γ y u):Rep {Γ with mem:=m} (jm σ.rw y) u:=by
 cases z with
 |agg cs us d c g=>
   have:=qDZ p e (cs:=cs) (us:=us) (by simpa[rsA]using q) ⟨d,g⟩;exact .agg _ _ this.len c this.rep
 |v _ h=>exact .v _ h
 |dead u=>exact .dead u
 |sl k es f a n cap b o us d c g t s E D C B=>exact qk6 (y:=.sl k es f) p e q (.sl k es f a n cap b o us d c g t s E D C B)
 |rs r lo n l f a cap d c g t s=>exact qk6 (y:=.rs r lo n l f) p e q (.rs r lo n l f a cap d c g t s)
 |ptr b o h=>exact(Rep.ptr b o h).mono e
 |rpt r i o l A d c g=>exact(Rep.rpt r i o l A d c g).mono e
 |ept cs o b x us d c g=>exact(Rep.ept cs o b x us d c g).mono e
 |fn f cs us d c=>exact(Rep.fn f cs us d c).mono e
 |tup cs us d c=>exact(Rep.tup cs us d c).mono e
 |mp b h=>exact(Rep.mp b h).mono e
theorem qJm{rw:List Row}{y:AV}(h:qu (qX rw y)=true):isC y=true:=by
 cases y<;>first|rfl|(simp[qX,qu]at h)
theorem qCr(k:Nat):∀(vs:List Value) (a:Nat) (cs:Array Value),(∀v∈vs,v.cells.size=k)->(a+vs.length)*k<=cs.size->
  ∃cs',Instr.fill (λ i=>some (i*k,k)) cs ((vs.zipIdx a).map λ p=>(p.2,p.1))=some cs'/\cs'.toList=cs.toList.take (a*k)++(vs.flatMap (λ v=>v.cells.toList)++cs.toList.drop ((a+vs.length)*k))
 |[],a,cs,_,h=>⟨cs,rfl,by simp⟩
 |v::vs,a,cs,e,h=>by
   have f:v.cells.size=k:=e v (wh ..)
   have n:a*k+k<=cs.size:=by
    have:(a+1)*k<=(a+(v::vs).length)*k:=wu _ (by simp);rw[wO,xA]at this;omega
   have b:=qAn (v:=v) (off:=a*k) (cs:=cs) (by omega)
   have d:(v.cells.zipIdx.foldl (λ cs (c,j)=>cs.setIfInBounds (a*k+j) c) cs).size=cs.size:=by
    have:=congrArg List.length b;simp only[wM,wd,wm,wS]at this;rw[this];omega
   let⟨cs',e1,w⟩:=qCr k vs (a+1) (v.cells.zipIdx.foldl (λ cs (c,j)=>cs.setIfInBounds (a*k+j) c) cs) (λ l u=>e l (wg _ u)) (by rw[d];simp at h;rw[show a+1+vs.length=a+(vs.length+1) by omega];exact h);refine⟨cs',?_,?_⟩
   .simp only[vN,wo,Instr.fill];rw[if_neg (by simp;omega)];exact e1
   .rw[w,b,f];have g:(a+1)*k=a*k+k:=by rw[wO,xA]
    have t:(cs.toList.take (a*k)).length=a*k:=by rw[wm];simp;omega
    have s:v.cells.toList.length=k:=by simpa using f
    have r:(a+1+vs.length)*k=a*k+k+vs.length*k:=by rw[wO,g]
    have q:(a+(v::vs).length)*k=a*k+k+vs.length*k:=by simp[wO];omega
    rw[g,r,q]
    have m:(cs.toList.take (a*k)++(v.cells.toList++cs.toList.drop (a*k+k))).take (a*k+k)=cs.toList.take (a*k)++v.cells.toList:=by
     rw[<-wj,kM (by simp only[wd];omega),kI (by simp only[wd];omega)]
    have o:(cs.toList.take (a*k)++(v.cells.toList++cs.toList.drop (a*k+k))).drop (a*k+k+vs.length*k)=cs.toList.drop (a*k+k+vs.length*k):=by
     rw[<-wj,List.drop_append,List.drop_of_length_le (by simp only[wd];omega)];simp only[wd,t,s,kW,List.drop_drop];congr 1;omega
    rw[m,o];simp
theorem qDS{α:Type}(k:Nat):∀(a:List (List α)) (i j:Nat) (l:List α) (x:α),(∀l∈a,l.length=k)->a[i]?=some l->l[j]?=some x->a.flatten[i*k+j]?=some x
 |[],i,j,l,x,_,h,_=>by simp at h
 |e::a,i,j,l,x,c,h,b=>by
   have d:=c e (wh ..);cases i with
   |zero=>
     simp at h;subst h;simp only[xY,kJ,wD];rw[List.getElem?_append_left (getElem?_lt b)];exact b
   |succ i=>
     simp at h;simp only[xY];rw[List.getElem?_append_right (by rw[d,wO];omega),d];rw[show(i+1)*k+j-k=i*k+j by rw[wO,xA];omega];exact qDS k a i j l x (λ f g=>c f (wg _ g)) h b
theorem qz1(ρ:Operand->Value):∀(ps:List (Nat×Operand)) (n:Nat),(∀(i:Nat) (p:Nat×Operand),ps[i]?=some p->p.1=n+i)->ps.map (λ p=>(p.1,ρ p.2))=((ps.map λ p=>ρ p.2).zipIdx n).map λ p=>(p.2,p.1)
 |[],n,h=>rfl
 |p::ps,n,h=>by
   simp only[wo,vN];rw[<-qz1 ρ ps (n+1) λ i q a=>by have:=h (i+1) q (by simpa using a);omega];have:=h 0 p rfl;simp only[wL]at this;rw[this]
theorem qvu{t e:TypeId}{n:Nat}{parts:Array (Nat×Value)}{a:TypeInfo}{f:Value}(k:P.underlying t=some (.slice e))(l:P.info? e=some a)(j:a.zero=some f)(m:n*a.size<=2^24){cs':Array Value}
  (c:Instr.fill (λ i=>some (i*a.size,a.size)) ((Array.range (n*a.size)).map ((if n*a.size=0 then #[]else f.cells)[· % (if n*a.size=0 then #[]else f.cells).size]!)) parts.toList=some cs'):
  (Instr.buildSlice t n parts).run P w=.ok (.slice (some ⟨w.heap.size,0,none⟩) n n) (w.alloc (.cells cs' e)):=by
 have b:¬ (2^24<n*a.size):=by omega
 by_cases d:n*a.size=0
 .simp only[if_pos d]at c;simp only[Instr.buildSlice];have g:n=0\/a.size=0:=Nat.mul_eq_zero.1 d;simp[underlying,k,sizeOf,typeInfo,l,d]at c |-
  simp[c,g,qfN]
 .simp only[if_neg d]at c;simp only[Instr.buildSlice];simp[underlying,k,sizeOf,typeInfo,zeroValue,l,j,d,b]at c |-
  have g:¬ (n=0\/a.size=0):=λ h=>d (Nat.mul_eq_zero.2 h);simp[c,g,j,qfN]
theorem qAW(hC:∀t d,C.ty t=some d->yO P t=some d)(hi:Inv Γ σ w)(G:∀y,Rep Γ (aev tm y) (ρ y))(t:TypeId)(n:Nat)(parts:Array (Nat×Operand))(ho:o.op=.buildSlice t n parts)(h:qc C tm σ o.op=some (x,σ')):QN P Γ σ w o ρ x σ':=by
 rw[ho]at h;simp only[qc]at h;split at h<;>try cases h
 rename_i _ _ _ _ e k bb zz hd;split at h<;>try cases h
 rename_i Q;simp only[qig,wc,decide_eq_true_eq]at Q;let⟨⟨⟨hn,U⟩,ac⟩,V⟩:=Q;let⟨ii,u,zv,q1,q2,q3,q4,q5,q6,q7,q8⟩:=waJ (hC t _ hd);obtain⟨rfl,ie,ze,p1,p2,p3,p4,p5⟩:=qa1 q8
 have a:∀(i:Nat) (p:Nat×Operand),parts.toList[i]?=some p->p.1=i/\(cellsOf (aev tm p.2)).length=k/\∀x∈cellsOf (aev tm p.2),qu (qX σ.rw x)=true:=by
  intro i p b
  have:=wv.1 V ((p.1,aev tm p.2),i) (by
   rw[xc,List.getElem?_map,b];rfl)
  simp only[wc,decide_eq_true_eq]at this;exact⟨this.1.1,this.1.2,wv.1 this.2⟩
 have q:∀p∈parts.toList,(cellsOf (aev tm p.2)).all isC=true:=by
  intro p b;let⟨i,f⟩:=List.getElem?_of_mem b;exact wv.2 λ x z=>qJm ((a i p f).2.2 x z)
 let vs:=parts.toList.map λ p=>ρ p.2
 have M:∀v∈vs,v.cells.size=k:=by
  intro v O;obtain⟨p,b,rfl⟩:=wA.1 O;let⟨i,f⟩:=List.getElem?_of_mem b;rw[(G p.2).cells_len (q p b)];exact(a i p f).2.1
 have N:vs.length=n:=by simpa[vs]using hn
 have L:=qz1 ρ parts.toList 0 λ i p b=>by rw[(a i p b).1];omega
 let⟨cs',e1,e2⟩:=qCr k vs 0 ((Array.range (n*k)).map ((if n*k=0 then #[]else ze.cells)[· % (if n*k=0 then #[]else ze.cells).size]!)) M (by simp[N])
 have ad:cs'.toList=vs.flatMap λ v=>v.cells.toList:=by
  rw[e2];simp[N]
 have T:cs'=(vs.flatMap λ v=>v.cells.toList).toArray:=by rw[<-ad]
 have B:(execOp ρ o).run P w=.ok (.value (.slice (some ⟨w.heap.size,0,none⟩) n n)) (w.alloc (.cells (vs.flatMap λ v=>v.cells.toList).toArray e)):=by
  have ab:(parts.map λ p=>(p.1,ρ p.2)).toList=(vs.zipIdx 0).map λ p=>(p.2,p.1):=by rw[vk];exact L
  rw[<-T];have hb:=qvu (w:=w) (n:=n) (parts:=parts.map λ p=>(p.1,ρ p.2)) q2 p1 p2 (by rw[p3];exact U) (by rw[p3,ab];exact e1);simp only[execOp,ho];simp[Sem.run_bind',hb]
 have F:∀(s:List Nat) (E:List Nat),(∀r∈parts.toList.flatMap (λ p=>rsA (aev tm p.2)),r∈s)->∃m,Fz Γ m/\Inv {Γ with mem:=m} {σ with rw:=frz σ.rw s,wrr:=E} w/\
   ∀(i:Nat) (p:Nat×Operand),parts.toList[i]?=some p->RepL {Γ with mem:=m} ((cellsOf (aev tm p.2)).map (qX σ.rw)) (ρ p.2).cells.toList:=by
  intro s E H;let⟨m,X,m2,Z⟩:=qaw s hi E;refine⟨m,X,m2,λ i p b=>?_⟩;refine qDZ hi X.le (λ r I R hR=>Z r (H r (w7.2 ⟨p,wb b,?_⟩)) R hR) ((G p.2).cells (q p (wb b))).1
  have:∀y:AV,r∈(cellsOf y).flatMap rsC->r∈rsA y:=by
   intro y hy;cases y<;>simpa[cellsOf,rsA]using hy
  exact this _ I
 have J:∀u∈vs.flatMap (λ v=>v.cells.toList),u.oneCell'=true:=by
  intro u A;let⟨v,O,A⟩:=w7.1 A;obtain⟨p,b,rfl⟩:=wA.1 O;exact((G p.2).cells (q p b)).2 u A
 have W:∀(s:List Nat) (σ1:St) (E:List Nat),σ1={σ with rw:=frz σ.rw s,wrr:=E}->(∀r∈parts.toList.flatMap (λ p=>rsA (aev tm p.2)),r∈s)->
   ∃Γ',Ext Γ w Γ' (w.alloc (.cells (vs.flatMap λ v=>v.cells.toList).toArray e))/\Inv Γ' σ1 (w.alloc (.cells (vs.flatMap λ v=>v.cells.toList).toArray e))/\Rep Γ' (.sl k (parts.toList.map λ p=>(cellsOf (aev tm p.2)).map (qX σ.rw)) 2) (.slice (some ⟨w.heap.size,0,none⟩) n n):=by
  intro s σ1 E aa H;subst aa;let⟨m,X,m2,Z⟩:=F s E H;let⟨Γ',g1,g2,g3⟩:=qzt m2 J e;refine⟨Γ',(qkD X w).trans g1,g2,?_⟩
  have D:∀(i:Nat) (l:List AV) (j:Nat) (x:AV),(parts.toList.map λ p=>(cellsOf (aev tm p.2)).map (qX σ.rw))[i]?=some l->l[j]?=some x->∃u,Γ'.mem w.heap.size (i*k+j)=some u/\Rep Γ' x u:=by
   intro i l j x c z;rw[List.getElem?_map]at c;cases b:parts.toList[i]? with
   |none=>rw[b]at c;cases c
   |some p=>
     rw[b]at c;cases c;have I:=Z i p b;let⟨u,A,g⟩:=I.get z;refine⟨u,g3 _ _ ?_,g.mono g1.le⟩;rw[wag];refine qDS k _ i j (ρ p.2).cells.toList u ?_ ?_ A
     .intro l c;obtain⟨v,O,rfl⟩:=wA.1 c;simpa using M v O
     .simp only[vs,xg,List.getElem?_map,b];rfl
  refine .sl k _ 2 _ n n w.heap.size 0 (λ i j=>(Γ'.mem w.heap.size (i*k+j)).getD undef) ?_ (λ _=>wa _) (λ _=>rfl) ?_ ?_ ac (.inr rfl) ?_ ?_
  .simpa using hn.symm
  .intro l c;obtain⟨p,b,rfl⟩:=wA.1 c;let⟨i,f⟩:=List.getElem?_of_mem b;rw[wB];exact(a i p f).2.1
  .intro l c x z;obtain⟨p,b,rfl⟩:=wA.1 c;let⟨i,f⟩:=List.getElem?_of_mem b;obtain⟨y,hy,rfl⟩:=wA.1 z;exact(a i p f).2.2 y hy
  .intro i l j x c z;let⟨u,A,_⟩:=D i l j x c z;rw[wD,A];rfl
  .intro i l j x c z;let⟨u,A,g⟩:=D i l j x c z;rw[A];exact g
 split at h<;>cases h
 .rename_i S;let⟨Γ',f1,f2,f3⟩:=W [] σ σ.wrr rfl (by rw[S];intro r I;cases I);exact⟨_,_,_,Γ',B,.inl rfl,f1,f2,f3⟩
 .rename_i r l K;let⟨Γ',f1,f2,f3⟩:=W (r::l) _ ((r::l)++σ.wrr) rfl (by rw[K];intro r I;exact I);exact⟨_,_,_,Γ',B,.inl rfl,f1,f2,f3⟩
theorem qKG{α:Type}{n i:Nat}{x y:α}(h:(List.replicate n x)[i]?=some y):y=x:=by
 rw[List.getElem?_replicate]at h;split at h<;>cases h;rfl
theorem qOj(hC:∀ t d,C.ty t=some d->yO P t=some d)(W:Inv Γ σ w)(n:∀ y,Rep Γ (aev tm y) (ρ y))(t:TypeId)(y z:Operand)(U:o.op = .makeSlice t y z)(h:qc C tm σ o.op=some (x,σ')):QN P Γ σ w o ρ x σ':=by
 rw[U]at h;simp only[qc]at h;split at h<;>try cases h
 rename_i _ _ _ _ e k bytes S ik a D b hd I H;split at h<;>try cases h
 rename_i X;simp only[wc,decide_eq_true_eq]at X;obtain⟨⟨⟨rfl,Y,aa,ab,s,p⟩,G⟩,F⟩:=X;have I:=zq (I▸n y);have H:=zq (H▸n z);obtain⟨ii,u,zv,q1,q2,q3,q4,q5,q6,q7,q8⟩:=waJ (hC t _ hd);obtain⟨rfl,ie,g,p1,p2,p3,p4,p5⟩:=qa1 q8
 have m:=run_make (P:=P) w t e ie g q2 p1 p2 ik D a a Y (vJ _) (by rw[p4];have e1:(bytes:Int)*a=((a.toNat*bytes:Nat):Int):=by rw[Int.natCast_mul,Int.toNat_of_nonneg Y,Int.mul_comm]
                                                                   rw[e1];omega) (by omega)
 rw[p3]at m
 have B:(execOp ρ o).run P w = .ok (.value (.slice (some ⟨w.heap.size,0,none⟩) a.toNat a.toNat)) (w.alloc (.cells (madeCells g.cells (a.toNat*k)) e)):=by
  simp only[execOp,U,I,H];simp[Sem.run_bind',m]
 have R:Below w.heap.size w (w.alloc (.cells (madeCells g.cells (a.toNat*k)) e)):=(Below.refl _ _).alloc (wa _) _;split at h
 ·rename_i L;cases h;have L:a.toNat=0:=of_decide_eq_true L;refine⟨_,_,_,Γ,B,.inl rfl,qgN R (wa _),W.later R,?_⟩;rw[L];exact .sl k [] 2 _ 0 0 0 0 (λ _ _=>undef) rfl (λ _=>wa _) (λ _=>rfl) (by simp) (by simp) s (.inl rfl) (by simp) (by simp)
 ·cases h;have f:(madeCells g.cells (a.toNat*k)).size=a.toNat*k:=size_madeCells _ _;have q:g.cells.toList=S:=p5;have E:g.cells.size=k:=by rw[<- p,<- q];simp
  have l:=qeo (Γ := Γ) G
  obtain⟨Γ',d1,d2,Z⟩:=qxN W s (c:=List.replicate a.toNat (S.map .v)) (λ e Q=>by rw[xn Q,wB];exact p) (λ e Q x T=>by
   rw[xn Q]at T;exact wv.1 F x T) (vs:=madeCells g.cells (a.toNat*k)) (by rw[kG,f];exact wa _) (by
   intro i e j x A V;have:=qKG A;subst this;obtain⟨v,K,r⟩:=l.1.get V;have O:i<a.toNat:=by have:=getElem?_lt A;simpa using this
   have N:j<k:=by have:=getElem?_lt V;simp at this;omega
   refine⟨v,?_,r,l.2 v (wb K)⟩
   have M:i*k+j<a.toNat*k:=by
    calc i*k+j<i*k+k:=by omega
     _=(i+1)*k:=by rw[wO,xA]
     _<=a.toNat*k:=wu _ O
   have hm:(i*k+j) % k=j:=by rw[xN,Nat.mul_add_mod];exact xP N
   unfold madeCells;rw[Array.getElem?_map,Array.getElem?_range,if_pos M];simp only[kP,E,hm]
   have:g.cells[j]! = v:=by
    rw[<- q]at K;have J:g.cells[j]?=some v:=by simpa using K
    rw[getElem!_def,J]
   rw[this]) (e:=e) (cap:=a.toNat) (by simp) (by rw[f];exact wa _) R (wa _) (wa _) (heap_alloc_new w _)
  rw[kG]at Z;exact⟨_,_,_,Γ',B,.inl rfl,d1,d2,Z⟩
end
end Go.AmZ
namespace Go.AmZ
open Go Go.RowKit
section
variable {P:Program}{C:Cfg}{Γ:Gh}{σ:St}{w:World}{o:Oper}{tm:List AV}{ρ:Operand->Value}{x:AV}{σ':Option St}
theorem qBO{k:Nat}{es:List (List AV)}(h:uni k es=true):(∀e∈es,e.length=k)/\∀e∈es,∀x∈e,qu x=true:=by
 grind [uni]
theorem qBX(t:Inv Γ σ w){k:Nat}{y:AV}{u:Value}(s:Rep Γ y u){xs:List (List AV)}(h:elems σ.rw k y=some xs)(V:0<k)(T:∀e∈xs,e.length=k):∃a m c,u=.slice a m c/\m=xs.length/\
  (xs=[]\/∃b o,a=some ⟨b,o,none⟩/\∀(i:Nat) (e:List AV) (j:Nat) (x:AV),xs[i]?=some e->e[j]?=some x->∃v,w.cell? ⟨b,o+(i*k+j),none⟩=some v/\Rep Γ x v/\v.oneCell'=true):=by
 cases s with
 |v _ U=>
   grind [elems,zF]
 |sl C es f a n cap b o us A K J G F M p B s=>
   simp only[elems]at h;split at h<;>cases h;rename_i g;have g:C=k:=of_decide_eq_true g;subst g;refine⟨a,n,cap,rfl,A,?_⟩;obtain p|p:=p
   .exact .inl p
   .refine .inr ⟨b,o,p,λ i e j x d q=>⟨us i j,?_,s i e j x d q,(t.mem _ _ _ (B i e j x d q)).2⟩⟩;rw[<-wN];exact(t.mem _ _ _ (B i e j x d q)).1
 |rs r lo n W f a cap E S K J D=>
   simp only[elems]at h;split at h<;>try cases h
   rename_i R L;simp only[qjX]at h;split at h<;>cases h;rename_i z;let⟨Q,P,O⟩:=z;have H:=t.row r R L;refine⟨a,n,cap,rfl,by simp;omega,?_⟩;by_cases A:n=0
   .grind
   .right;obtain⟨N,-⟩:=D (by rw[<-H.ver (H.liveN O (by omega))];exact P);refine⟨Γ.cur r,Γ.of r+lo*Γ.k r,N.resolve_left (by omega),λ i e j x d q=>?_⟩;rw[List.getElem?_take]at d;split at d<;>try cases d
    rename_i I;rw[List.getElem?_drop]at d;have l:Γ.of r+lo*Γ.k r+(i*k+j)=Γ.of r+((lo+i)*R.k+j):=by rw[wO,<-Q,<-H.k];omega
    rw[l];exact H.cells (lo+i) e j x d q
 |dead u|ptr|rpt|ept|fn|agg|tup|mp=>simp[elems]at h
theorem qzr:∀{es:List (List AV)}{l:List UInt8},qsR es=some l->∃xs:List Int,es=xs.map (λ n=>[AV.v (.int .u8 n)])/\l=xs.map λ n=>UInt8.ofNat n.toNat
 |[],l,h=>by cases h;exact⟨[],rfl,rfl⟩
 |e::es,l,h=>by
   simp only[qsR]at h;split at h<;>cases h;rename_i b r a c;obtain⟨xs,rfl,rfl⟩:=qzr c;unfold qHs at a;split at a<;>cases a;rename_i n;exact⟨n::xs,rfl,rfl⟩
theorem qGw{d:Option TD}(h:qrQ d=true):∃a b c z,d=some ⟨a,b,c,z,.int .u8⟩:=by
 unfold qrQ at h;grind
theorem qkr(b:ByteArray):(qbG b).length=b.size:=by show(b.data.toList.map _).length=b.data.size;rw[wB,wM]
theorem qvL{b:ByteArray}{e:List AV}(a:e∈qbG b):e.length=1:=by obtain⟨c,_,rfl⟩:=wA.1 a;rfl
theorem qrF{b:ByteArray}{e:List AV}(d:e∈qbG b):∀x∈e,qu x=true:=λ x a=>by
 obtain⟨c,_,rfl⟩:=wA.1 d;rw[wF.1 a];rfl
theorem qxl{b:ByteArray}{i j:Nat}{e:List AV}{x:AV}(d:(qbG b)[i]?=some e)(f:e[j]?=some x):j=0/\∃c,b.data.toList[i]?=some c/\x=.v (.int .u8 c.toNat):=by
 have a:(b.data.toList.map λ c=>[AV.v (.int .u8 c.toNat)])[i]?=some e:=d;grind
theorem qMx(q:Inv Γ σ w){s t e:TypeId}{u:TypeDesc}(b:ByteArray)(m:P.underlying s=some u)(r:P.underlying t=some (.slice e))(f:P.underlying e=some (.int .u8)):
  ∃v w' Γ',(convert s t (.string b)).run P w=.ok v w'/\Ext Γ w Γ' w'/\Inv Γ' {σ with rw:=σ.rw++[⟨1,qbG b,0,0,false⟩]} w'/\Rep Γ' (.rs σ.rw.length 0 b.size 0 false) v:=by
 have d:=Lib.run_convert_string_bytes (P:=P) w s t e b m r f;have l:=grownCap_ge w b.size 0 e
 have a:(Lib.bytesCells w e b).size=grownCap w b.size 0 e:=by
  unfold Lib.bytesCells;simp_all
 have z:Below w.heap.size w (Lib.bytesWorld w e b):=⟨rfl,rfl,rfl,by rw[Lib.bytesWorld_size];omega,λ k o=>Lib.bytesWorld_at_old w e b k o⟩
 let⟨Γ',F,E,D⟩:=qCv q (xC 0) (c:=qbG b) (λ e f=>qvL f) (λ e f=>qrF f) (vs:=Lib.bytesCells w e b) (by rw[qkr,a];omega) (λ i C j x g p=>by
  obtain⟨rfl,c,y,rfl⟩:=qxl g p;refine⟨.int .u8 c.toNat,?_,.v _ rfl,rfl⟩;have n:i<b.data.size:=by have:=getElem?_lt y;rwa [wM]at this
  unfold Lib.bytesCells;grind) (e:=e) (cap:=grownCap w b.size 0 e) (by rw[qkr];exact l) (by rw[a];omega) z (Go.GxZ.run_drawn _ d) (wa _) (fr:=((Lib.bytesCells w e b).size,(Lib.bytesCells w e b).size+1)) (λ j B A=>by have:=A.1;omega) (λ h=>absurd rfl h) (Lib.bytesWorld_at_new w e b)
 grind [qkr]
theorem qOy(g:∀t d,C.ty t=some d->yO P t=some d)(J:Inv Γ σ w)(r:∀y,Rep Γ (aev tm y) (ρ y))(s t:TypeId)(y:Operand)(H:o.op=.convert s t y)(h:qc C tm σ o.op=some (x,σ')):QN P Γ σ w o ρ x σ':=by
 rw[H]at h;simp only[qc]at h;split at h<;>try cases h
 .rename_i ds _ _ _ _ k _ n D E L;have M:=zq (L▸r y);let⟨i,u,Q,X,j,W,V,U,T,S,N⟩:=waJ (g s _ D);let⟨i',R,z,p1,p,p3,p4,p5,Z,Y,A⟩:=waJ (g t _ E);have:=qEq A;subst this;refine .val ?_ J (.v _ rfl);simp[execOp,H,M,convert,underlying,j,p,Conv.intToInt,iw]
 .rename_i ds _ _ _ _ ab D E L;have M:=zq (L▸r y);let⟨i,u,Q,X,j,W,V,U,T,S,N⟩:=waJ (g s _ D);let⟨i',R,z,p1,p,p3,p4,p5,Z,Y,A⟩:=waJ (g t _ E);have:=qgD A;subst this;refine .val ?_ J (.v _ rfl);simp[execOp,H,M,convert,underlying,j,p]
 .rename_i e _ _ _ b D E L;split at h<;>cases h;rename_i B;have M:=zq (L▸r y);let⟨i,u,Q,X,j,W,V,U,T,S,N⟩:=waJ (g s _ D);let⟨i',R,z,p1,p,p3,p4,p5,Z,Y,A⟩:=waJ (g t _ E);obtain⟨rfl,_⟩:=qa1 A;let⟨a1,a2,a3,a4,K⟩:=qGw B;let⟨i2,u2,O,o1,F,o3,o4,o5,o6,o7,o8⟩:=waJ (g _ _ K);have:=qEq o8;subst this;let⟨v,w',Γ',c1,c2,c3,c4⟩:=qMx J b j p F;exact⟨_,_,w',Γ',by simp[execOp,H,M,c1],.inl rfl,c2,c3,c4⟩
 .rename_i e _ _ _ _ _ _ _ _ _ _ D E hn;split at h<;>try cases h
  rename_i es B aa;split at h<;>cases h;rename_i l hl;let⟨i,u,Q,X,j,W,V,U,T,S,N⟩:=waJ (g s _ D);let⟨i',R,z,p1,p,p3,p4,p5,Z,Y,A⟩:=waJ (g t _ E);have:=qgD A;subst this;obtain⟨rfl,_⟩:=qa1 N;let⟨a1,a2,a3,a4,K⟩:=qGw B;let⟨i2,u2,O,o1,F,o3,o4,o5,o6,o7,o8⟩:=waJ (g _ _ K);have:=qEq o8;subst this;obtain⟨xs,rfl,rfl⟩:=qzr hl;let⟨a,m,c,hv,hm,f⟩:=qBX J (r y) aa (xC 0) (λ e K=>by obtain⟨n,_,rfl⟩:=wA.1 K;rfl);have I:xs.length=m:=by rw[hm,wB]
  refine .val (u:=.string (strOfNums xs)) ?_ J (.v _ rfl)
  have G:(convert s t (ρ y)).run P w=.ok (.string (strOfNums xs)) w:=by
   rw[hv];obtain f|⟨b,o',rfl,f⟩:=f
   .have:xs=[]:=by cases xs with|nil=>rfl|cons x l=>cases f
    subst this;subst I;cases a with
    |none=>exact run_convert_bytes_nil (P:=P) (w:=w) s _ j F _ _ t p
    |some a=>simp[convert,underlying,j,F,p,Conv.bytesToString,loadCells,loadCellsFrom];rfl
   .refine run_convert_bytes_arg (P:=P) (w:=w) s _ j F b o' m c xs I (λ q hq=>?_) t p;let⟨v,v1,v2,_⟩:=f q [.v (.int .u8 xs[q])] 0 _ (by rw[List.getElem?_map,List.getElem?_eq_getElem (by omega)];rfl) rfl;rw[Nat.mul_one,wL]at v1;rw[v1,zq v2,List.getD_eq_getElem?_getD,List.getElem?_eq_getElem (by omega)];rfl
  simp[execOp,H,G]
theorem qhI{k:Nat}(r:0<k){xs:List (List AV)}(m:∀e∈xs,e.length=k){b o:Nat}(p:∀(i:Nat) (e:List AV) (j:Nat) (x:AV),xs[i]?=some e->e[j]?=some x->∃v,w.cell? ⟨b,o+(i*k+j),none⟩=some v/\Rep Γ x v/\v.oneCell'=true):
  ∃qg:List Value,qg.length=xs.length*k/\(∀j u,qg[j]?=some u->w.cell? ((⟨b,o,none⟩:Addr).add j)=some u)/\(∀u∈qg,u.oneCell'=true)/\∀(i:Nat) (e:List AV) (j:Nat) (x:AV),xs[i]?=some e->e[j]?=some x->∃u,qg[i*k+j]?=some u/\Rep Γ x u/\u.oneCell'=true:=by
 have s:∀q,q<xs.length*k->∃v,w.cell? ⟨b,o+q,none⟩=some v/\v.oneCell'=true:=by
  intro q l;have a:q/k<xs.length:=(vb r).2 l;have c:q%k<k:=xV _ r;have y:=m _ (wX a);let⟨v,B,A,z⟩:=p (q/k) _ (q%k) _ (List.getElem?_eq_getElem a) (List.getElem?_eq_getElem (by rw[y];exact c));grind [Nat.mul_comm,Nat.div_add_mod]
 let f:Nat->Value:=λ q=>(w.cell? ⟨b,o+q,none⟩).getD undef
 have C:∀q,q<xs.length*k->w.cell? ⟨b,o+q,none⟩=some (f q):=λ q l=>by
  grind
 refine⟨(List.range (xs.length*k)).map f,by simp,?_,?_,?_⟩
 .grind [qgr]
 .grind
 .intro i e j x h n;let⟨v,B,A,z⟩:=p i e j x h n;have g:=getElem?_lt h;have d:=getElem?_lt n;rw[m e (wb h)]at d
  have t:i*k+j<xs.length*k:=by
   calc i*k+j<i*k+k:=by omega
    _=(i+1)*k:=by rw[wO,xA]
    _<=xs.length*k:=wu _ g
  grind
theorem qJw{ts:Array TypeId}{t u e ty:TypeId}(f:ts[0]?=some t)(d:ts[1]?=some u)(c:P.underlying t=some (.slice e))(a:(∃b,P.underlying u=some (.slice b))\/P.underlying u=some .string)(s x:Value):
  (Builtin.append_ ts ty #[s,x]).run P w=(Builtin.append_ #[t,u] ty #[s,x]).run P w:=by
 obtain⟨b,a⟩|a:=a<;>cases s<;>simp[Builtin.append_,f,d,run_underlying c,run_underlying a]
theorem grow_any{t u e ty:TypeId}{h:TypeInfo}{r:Value}{k bytes:Nat}(D:P.underlying t=some (.slice e))(G:P.info? e=some h)(C:h.zero=some r)(E:h.size=k)(y:h.bytes=bytes)(s:r.cells.size=k)
  (a:Option Addr) (n cap:Nat) (H:a=none->n=0/\cap=0) (c:List Value) (i:c.length=n*k) (o:∀b,a=some b->∀j u,c[j]?=some u->w.cell? (b.add j)=some u)
  (x:Value) (m:Nat) (qg:List Value) (d:Src P k u x m qg w) (B:cap<n+m) (z:n+m<=maxLen) (l:(n+m)*bytes<=140737488355328):
  ∃g f p w',(Builtin.append_ #[t,u] ty #[.slice a n cap,x]).run P w=.ok (.slice (some ⟨g,0,none⟩) (n+m) f) w'/\Below w.heap.size w w'/\w.heap.size<=g/\w'.heap[g]?=some (.cells p e (0,0))/\n+m<=f/\p.size=f*k/\p.toList.take ((n+m)*k)=c++qg/\w.drawn<=w'.drawn:=by
 subst E;subst y
 have q:(Builtin.firstCells h.size n (.slice a n cap)).run P w.drew=.ok c.toArray w.drew:=by
  cases a with
  |none=>
    obtain⟨rfl,rfl⟩:=H rfl;have:c=[]:=kE.1 (by simpa using i);subst this;exact run_firstCells_none w.drew h.size 0 0 0
  |some b=>exact run_firstCells_some w.drew h.size n b n cap c i (by simpa using o b rfl)
 have A:=run_append_grow_src (P:=P) w t u ty e h r D G C a n cap c q x m qg d B (by simp only[maxLen]at z;omega) (growslice_fits B l);have v:=grownCap_ge w (n+m) cap e;refine⟨_,_,_,_,A,⟨rfl,rfl,rfl,by simp,λ k F=>heap_alloc_old w.drew _ F⟩,wa _,heap_alloc_new w.drew _,v,?_,?_,Go.GxZ.run_drawn _ A⟩
 .simp only[xK,kh,size_zeroCells,wd,i,d.newsLen,s];rw[<-wO,<-wO];congr 1;omega
 .simp only[xk];have:(c++qg).length=(n+m)*h.size:=by rw[wd,i,d.newsLen,wO]
  grind
theorem qDJ{α:Type}{l r:List α}{n q:Nat}{u:α}(h:l.take n=r)(a:r[q]?=some u):l[q]?=some u:=by
 grind
theorem qqJ{k:Nat}{c xs:List (List AV)}{a qg:List Value}(g:a.length=c.length*k)(h:∀e∈c,e.length=k)
  (r:∀(i:Nat) (e:List AV) (j:Nat) (x:AV),c[i]?=some e->e[j]?=some x->∃u,a[i*k+j]?=some u/\Rep Γ x u/\u.oneCell'=true)
  (p:∀(i:Nat) (e:List AV) (j:Nat) (x:AV),xs[i]?=some e->e[j]?=some x->∃u,qg[i*k+j]?=some u/\Rep Γ x u/\u.oneCell'=true):
  ∀(i:Nat) (e:List AV) (j:Nat) (x:AV),(c++xs)[i]?=some e->e[j]?=some x->∃u,(a++qg)[i*k+j]?=some u/\Rep Γ x u/\u.oneCell'=true:=by
 intro i e j x n l;obtain⟨f,b⟩|⟨o,b⟩:=qF5 n
 .grind
 .let⟨u,q,d⟩:=p _ e j x b l;refine⟨u,?_,d⟩;have m:i*k=c.length*k+(i-c.length)*k:=by rw[<-wO];congr 1;omega
  grind
theorem qpf(hC:∀t d,C.ty t=some d->yO P t=some d)(Z:Inv Γ σ w){ts:Array TypeId}{ty t u:TypeId}{sv xv:Value}{s:AV}(hs:Rep Γ s sv)(h0:ts[0]?=some t)(h1:ts[1]?=some u){e k bytes:Nat}{z:List Value}{q1 q2 q3 q4:_}
  (aH:C.ty t=some ⟨q1,q2,q3,q4,.slice e k bytes z⟩) (ai:0<k) (av:z.length=k) {xs:List (List AV)} (u1:∀e∈xs,e.length=k) (u2:∀e∈xs,∀x∈e,qu x=true)
  {qg:List Value} (m:Src P k u xv xs.length qg w) (n4:∀(i:Nat) (e:List AV) (j:Nat) (x:AV),xs[i]?=some e->e[j]?=some x->∃u,qg[i*k+j]?=some u/\Rep Γ x u/\u.oneCell'=true) (h:yf k bytes σ s xs=some (x,σ')):
  ∃v w' Γ',(Builtin.append_ ts ty #[sv,xv]).run P w=.ok v w'/\Ext Γ w Γ' w'/\Inv Γ' (turn σ σ') w'/\Rep Γ' x v:=by
 obtain⟨ii,ud,zv,p1,p2,p3,p4,p5,p6,p7,p8⟩:=waJ (hC t _ aH);obtain⟨rfl,ie,ze,r1,r2,r3,r4,r5⟩:=qa1 p8;have an:ze.cells.size=k:=by rw[<-av,<-r5];simp
 have n1:=m.newsLen;have n3:=m.one;rw[qJw h0 h1 p2 m.kind]
 have J:∀(q:Option Addr) (n cap:Nat),n<=cap->xs=[]->(Builtin.append_ #[t,u] ty #[.slice q n cap,xv]).run P w=.ok (.slice q n cap) w:=by
  intro q n cap aD y;subst y;have aC:qg=[]:=kE.1 (by rw[n1];simp);subst aC;subst r3;exact run_append_nothing w t u ty e ie p2 r1 q n cap aD xv m
 have K:zm (qat xs) 0=true->xs=[]:=λ h=>kE.1 (of_decide_eq_true h);have I:zm (qat xs) 0=false->xs≠[]:=λ h y=>by subst y;simp[zm,qat]at h
 have E:∀(q:Option Addr) (n cap:Nat) (es:List (List AV)),n=es.length->(q=none->n=0/\cap=0)->cap<n+xs.length->xs≠[]->(∀e∈es,e.length=k)->(∀e∈es,∀x∈e,qu x=true)->
   (∀G,q=some G->∃b o,G=⟨b,o,none⟩/\(es=[]\/∀(i:Nat) (e:List AV) (j:Nat) (x:AV),es[i]?=some e->e[j]?=some x->∃v,w.cell? ⟨b,o+(i*k+j),none⟩=some v/\Rep Γ x v/\v.oneCell'=true))\/es=[]->
   ∀R N,rowNew k bytes (qld es xs)=some (R,N)->∃v w' Γ',(Builtin.append_ #[t,u] ty #[.slice q n cap,xv]).run P w=.ok v w'/\Ext Γ w Γ' w'/\Inv Γ' {σ with rw:=σ.rw++[R]} w'/\Rep Γ' (.rs σ.rw.length 0 N 0 false) v:=by
  intro q n cap es Y l ar aO ak aG F R N S;simp only[rowNew]at S;split at S<;>cases S;rename_i ay;obtain⟨ae,ap⟩:=ay;simp only[qld]at ae ap
  have L:∃a:List Value,a.length=n*k/\(∀G,q=some G->∀j u,a[j]?=some u->w.cell? (G.add j)=some u)/\∀(i:Nat) (e:List AV) (j:Nat) (x:AV),es[i]?=some e->e[j]?=some x->∃u,a[i*k+j]?=some u/\Rep Γ x u/\u.oneCell'=true:=by
   have U:es=[]->∃a:List Value,a.length=n*k/\(∀G,q=some G->∀j u,a[j]?=some u->w.cell? (G.add j)=some u)/\∀(i:Nat) (e:List AV) (j:Nat) (x:AV),es[i]?=some e->e[j]?=some x->∃u,a[i*k+j]?=some u/\Rep Γ x u/\u.oneCell'=true:=by
    intro y;subst y;exact⟨[],by simp[Y],λ _ _ j u hj=>by simp at hj,λ i e j x W=>by simp at W⟩
   cases A:q with
   |none=>exact A▸U (kE.1 (by have:=(l A).1;omega))
   |some G=>
     rcases F with F|F
     .obtain⟨b2,aQ,rfl,hh⟩:=F G A;rcases hh with hh|hh
      .exact A▸U hh
      .obtain⟨a,m1,m2,m3,m4⟩:=qhI ai ak hh;exact⟨a,by rw[Y];exact m1,λ G hb=>by cases hb;exact m2,m4⟩
     .exact A▸U F
  obtain⟨a,m1,m2,m4⟩:=L;have O:(es++xs).length=n+xs.length:=by rw[wd,Y]
  obtain⟨g,Q,ad,w',f1,f2,f3,f4,f5,f6,f7,f8⟩:=grow_any (P:=P) (w:=w) (ty:=ty) p2 r1 r2 r3 r4 an q n cap l a m1 m2 xv xs.length qg m ar (by simp only[maxLen];omega) (by rw[<-O];exact ae);have aR:ad.toList.length=Q*k:=by simpa using f6
  obtain⟨Γ',d1,d2,d3⟩:=qxN Z ai (c:=es++xs) (by
   intro e y;rcases wk.1 y with y|y
   .exact ak e y
   .exact u1 e y) (by
   intro e y;rcases wk.1 y with y|y
   .exact aG e y
   .exact u2 e y) (vs:=ad) (by rw[O,f6];exact wu _ f5) (by
   intro i e j x W hj;obtain⟨u,hu,T⟩:=qqJ (by rw[m1,Y]) ak m4 n4 i e j x W hj;exact⟨u,by rw[<-Array.getElem?_toList];exact qDJ f7 hu,T⟩) (e:=e) (cap:=Q) (by rw[O];exact f5) (by rw[f6];exact wa _) f2 f8 f3 f4
  refine⟨_,w',Γ',f1,d1,d2,?_⟩;rw[<-O];exact d3
 unfold yf at h;split at h
 .have az:=zq hs;subst az;split at h
  .rename_i p;cases h;exact⟨_,w,Γ,J none 0 0 (wa _) (K p),.refl _ _,Z,.v _ rfl⟩
  .rename_i p;split at h<;>cases h;rename_i R N S;have D:=I p;have ag:0<xs.length:=xl.2 D;exact E none 0 0 [] rfl (λ _=>⟨rfl,rfl⟩) (by omega) D (λ e y=>by cases y) (λ e y=>by cases y) (.inr rfl) R N (by simpa[qld]using S)
 .rename_i k1 es f;cases hs with
  |sl _ _ _ q n cap b o us Y hc hf aE aB aL ha hm hr=>
  split at h
  .rename_i p;split at h<;>cases h;rename_i aF;exact⟨_,w,Γ,J q n cap (hc (of_decide_eq_true aF)) (K p),.refl _ _,Z,.sl k1 es f q n cap b o us Y hc hf aE aB aL ha hm hr⟩
  .rename_i p;split at h<;>try cases h
   rename_i X;simp only[wc]at X;obtain⟨⟨aa,V⟩,ax⟩:=X;have V:k1=k:=of_decide_eq_true V;subst V;obtain⟨v1,v2⟩:=qBO ax;split at h<;>cases h;rename_i R N S;have D:=I p;have ag:0<xs.length:=xl.2 D;have aa:=of_decide_eq_true aa;have aS:=hf aa;have hc:=hc (Nat.lt_trans wan aa);by_cases ab:es=[]
   .cases q with
    |none=>exact E none n cap es Y (λ _=>by subst ab;simp at Y;omega) (by omega) D v1 v2 (.inr ab) R N S
    |some G=>exact E (some G) n cap es Y (λ h=>by cases h) (by omega) D v1 v2 (.inr ab) R N S
   .have aJ:=ha.resolve_left ab;subst aJ;refine E _ n cap es Y (λ h=>by cases h) (by omega) D v1 v2 (.inl λ G hb=>⟨b,o,by cases hb;rfl,.inr λ i e j x h1 h2=>⟨us i j,?_,hr i e j x h1 h2,(Z.mem _ _ _ (hm i e j x h1 h2)).2⟩⟩) R N S;rw[<-wN];exact(Z.mem _ _ _ (hm i e j x h1 h2)).1
 .rename_i r lo n ep f;cases hs with
  |rs _ _ _ _ _ q cap aA hv hc hf ao=>
  split at h
  .rename_i p;cases h;exact⟨_,w,Γ,J q n cap hc (K p),.refl _ _,Z,.rs r lo n ep f q cap aA hv hc hf ao⟩
  .rename_i p;split at h<;>try cases h
   rename_i R S;split at h<;>cases h;rename_i R' N am;have D:=I p;have ag:0<xs.length:=xl.2 D;simp only[qsK]at am;split at am<;>cases am;rename_i aI;obtain⟨c0,c1,c3,c4,c5,ah,c6,c7⟩:=aI;subst c4;have H:=Z.row r R S;obtain⟨g2,g3⟩:=ao (by rw[<-H.ver ah];exact c1);subst c0;subst c1;have M:Γ.of r+cap*R.k<=Γ.sz r:=by rw[H.k];simpa using g3
   by_cases B:n+xs.length<=cap
   .have A:=g2.resolve_left (by omega)
    have hz:Γ.sz r≠0:=by
     intro hz;have:=wap (show 0<cap by omega) H.pos;omega
    obtain⟨vs,e1,fr,d2,d3,d4,_⟩:=H.blk hz;rw[<-d3]at M;simp only[kJ,wL]at A;subst A
    have aP:Γ.of r+n*ie.size+qg.length<=vs.size:=by
     have:=wu R.k B;grind
    have ac:∀j,j<qg.length->(w.cell? ⟨Γ.cur r,Γ.of r+n*ie.size+j,none⟩).isSome=true:=by
     intro j hj;rw[QU d2];grind
    have aj:∀j,j<qg.length->w.frozen? ⟨Γ.cur r,Γ.of r+n*ie.size+j,none⟩=false:=λ j hj=>qtk d2 d4 (by omega);have af:=run_append_room_src (P:=P) w t u ty e ie p2 r1 (Γ.cur r) (Γ.of r) n cap xv xs.length qg (by rw[r3];exact m) B ac aj
    have aq:w.setCells (Γ.cur r) (Γ.of r+n*ie.size) qg=w.setRow (Γ.cur r) (vs.toList.take (Γ.of r+n*ie.size)++qg++vs.toList.drop (Γ.of r+n*ie.size+qg.length)).toArray:=by
     grind [qg,qk1,List.append_assoc]
    rw[aq,r3]at af
    obtain⟨Γ',f1,f2,f3⟩:=qL1 Z S ah u1 u2 n1 n4 hz (by rw[<-c3,<-d3];exact wE (vV (wu _ B) _) M)
     (w':=w.setRow (Γ.cur r) (vs.toList.take (Γ.of r+n*R.k)++qg++vs.toList.drop (Γ.of r+n*R.k+qg.length)).toArray) (λ vs' e' aT hv=>by
      rw[d2]at hv;cases hv;rw[<-c3];exact setRow_heap w _ _ _ _ _ d2) (λ k hk=>setRow_other w _ k _ hk) rfl rfl rfl (by simp) (wa _) (r::σ.wrr) (cap:=cap) (by rw[<-c3];exact B) (by rw[<-d3];exact M)
    rw[<-c3]at f3;exact⟨_,_,Γ',af,f1,f2,f3⟩
   .-- no zC
    have L:∃a:List Value,a.length=n*R.k/\(∀G,q=some G->∀j u,a[j]?=some u->w.cell? (G.add j)=some u)/\∀(i:Nat) (e:List AV) (j:Nat) (x:AV),R.c[i]?=some e->e[j]?=some x->∃u,a[i*R.k+j]?=some u/\Rep Γ x u/\u.oneCell'=true:=by
     by_cases al:cap=0
     .simp_all
     .have A:=g2.resolve_left al;subst A
      obtain⟨a,q1,q2,q3,q4⟩:=qhI ai (b:=Γ.cur r) (o:=Γ.of r+0*Γ.k r) H.len (λ i e j x h1 h2=>by
       obtain⟨v,hv,aw⟩:=H.cells i e j x h1 h2;exact⟨v,by rw[<-hv];congr 2;omega,aw⟩)
      grind
    obtain⟨a,q1,q2,q4⟩:=L
    have l:q=none->n=0/\cap=0:=by
     grind
    obtain⟨g,Q,ad,w',f1,f2,f3,f4,f5,f6,f7,f8⟩:=grow_any (P:=P) (w:=w) (ty:=ty) p2 r1 r2 r3 r4 an q n cap l a q1 q2 xv xs.length qg m (by omega) (by simp only[maxLen];omega) c6
    obtain⟨Γ',aN,aM,au⟩:=qNd Z S ah (xs:=xs) u1 u2 (vs:=ad) (e:=e) f2 f8 f3 f4 (by rw[<-c3,f6];exact wu _ f5)
     (by
      intro i e2 j x W hj;obtain⟨u,hu,T,aK⟩:=qqJ (by rw[q1,c3]) H.len q4 n4 i e2 j x W hj;exact⟨u,by rw[<-Array.getElem?_toList];exact qDJ f7 hu,T,aK⟩) (r::σ.wrr) (cap:=Q) (by omega) (by rw[f6];exact wa _)
    rw[<-c3]at au;exact⟨_,w',Γ',f1,aN,aM,au⟩
 .cases h
theorem qzv(A:∀t d,C.ty t=some d->yO P t=some d)(q:Inv Γ σ w){ts:Array TypeId}{ty t u:TypeId}{D B:Value}{s y:AV}(F:Rep Γ s D)(hy:Rep Γ y B){e k bytes:Nat}{z:List Value}(I:ts[0]?=some t)(H:ts[1]?=some u){e' k' b':Nat}{K:List Value}{U T S R:_}{Q O N M:_}
  (p:C.ty t=some ⟨U,T,S,R,.slice e k bytes z⟩) (r:C.ty u=some ⟨Q,O,N,M,.slice e' k' b' K⟩) (g:0<k) (l:z.length=k) {xs:List (List AV)} (hx:elems σ.rw k y=some xs) (n:uni k xs=true) (h:yf k bytes σ s xs=some (x,σ')):
  ∃v w' Γ',(Builtin.append_ ts ty #[D,B]).run P w=.ok v w'/\Ext Γ w Γ' w'/\Inv Γ' (turn σ σ') w'/\Rep Γ' x v:=by
 let⟨aa,L,J,o1,E,o3,o4,o5,o6,o7,V⟩:=waJ (A u _ r);obtain⟨rfl,_⟩:=qa1 V;let⟨u1,u2⟩:=qBO n;obtain⟨a,m,c,rfl,rfl,f⟩:=qBX q hy hx g u1;obtain rfl|⟨b,o,rfl,f⟩:=f
 .have G:∀w':World,(Builtin.firstCells k 0 (.slice a 0 c)).run P w'=.ok #[] w':=λ w'=>by
    cases a with
    |none=>simp[Builtin.firstCells]
    |some a'=>simp[Builtin.firstCells,loadCells,loadCellsFrom]
  exact qpf A q F I H p g l u1 u2 (qg:=[]) ⟨.inl ⟨_,E⟩,λ _=>rfl,G w,G _,by simp,λ _ h=>by cases h⟩ (λ i e j x h=>by simp at h) h
 .let⟨qg,Z,Y,X,W⟩:=qhI g u1 f;exact qpf A q F I H p g l u1 u2 (Src.ofSlice w E _ _ c qg Z Y X) W h
theorem qAI(n:∀t d,C.ty t=some d->yO P t=some d)(L:Inv Γ σ w){ts:Array TypeId}{ty t u:TypeId}{m:Value}{s:AV}{b:ByteArray}(J:Rep Γ s m){e bytes:Nat}{z:List Value}(N:ts[0]?=some t)(M:ts[1]?=some u){F E D B:_}{A y r q:_}
  (l:C.ty t=some ⟨F,E,D,B,.slice e 1 bytes z⟩) (k:C.ty u=some ⟨A,y,r,q,.string⟩) (a:z.length=1) (h:yf 1 bytes σ s (qbG b)=some (x,σ')):
  ∃v w' Γ',(Builtin.append_ ts ty #[m,.string b]).run P w=.ok v w'/\Ext Γ w Γ' w'/\Inv Γ' (turn σ σ') w'/\Rep Γ' x v:=by
 let⟨I,p,o,U,H,T,S,R,Q,O,G⟩:=waJ (n u _ k);have:=qgD G;subst this;refine qpf n L J N M l (xC 0) a (λ e g=>qvL g) (λ e g=>qrF g) (qg:=byteCells b) (by rw[qkr];exact Src.ofString w H b) (λ i e j x f K=>?_) h;obtain⟨rfl,c,V,rfl⟩:=qxl f K;refine⟨.int .u8 c.toNat,?_,.v _ rfl,rfl⟩;show(b.data.toList.map λ b=>Value.int .u8 b.toNat)[i*1+0]?=_;grind
end
end Go.AmZ
namespace Go.AmZ
open Go Go.RowKit
theorem qry:∀cs:List AV,rbL cs=cs.flatMap rb
 |[]=>rfl
 |x::cs=>by simp only[rbL,xj,qry cs]
theorem qnX:∀cs:List AV,rrL cs=cs.flatMap rr
 |[]=>rfl
 |x::cs=>by simp only[rrL,xj,qnX cs]
theorem qsH(fb fr:Nat->Nat):∀cs:List AV,qY fb fr cs=cs.map (ren fb fr)
 |[]=>rfl
 |x::cs=>by simp only[qY,wo,qsH fb fr cs]
theorem qgF{fb fr:Nat->Nat}{x:AV}(h:qu x=true):ren fb fr x=x/\rb x=[]/\rr x=[]:=by
 cases x<;>first|exact⟨rfl,rfl,rfl⟩|(simp[qu]at h)
theorem qq5{n m:Nat}{x:AV}:refs n m x=false↔(∀b∈rb x,b<n)/\∀r∈rr x,r<m:=by
 simp[refs]
theorem Rep.bound{Γ:Gh}{x:AV}{u:Value}(h:Rep Γ x u):(∀b∈rb x,b<Γ.nb)/\∀r∈rr x,r<Γ.nr:=by
 have d:∀(cs:List AV) (us:List Value),us.length=cs.length->(∀(i:Nat) (x:AV) (u:Value),cs[i]?=some x->us[i]?=some u->(∀b∈rb x,b<Γ.nb)/\∀r∈rr x,r<Γ.nr)->(∀b∈rbL cs,b<Γ.nb)/\∀r∈rrL cs,r<Γ.nr:=by
  intro cs us j g
  have get:∀x∈cs,(∀b∈rb x,b<Γ.nb)/\∀r∈rr x,r<Γ.nr:=by
   intro x m;let⟨i,l⟩:=List.getElem?_of_mem m;have k:i<us.length:=by rw[j];exact getElem?_lt l
   exact g i x _ l (List.getElem?_eq_getElem k)
  grind [qry,qnX]
 induction h with
 |v|dead|sl|ept=>exact⟨λ b e=>by simp[rb]at e,λ r c=>by simp[rr]at c⟩
 |rs r lo n p f a cap c|rpt r i o p A c=>exact⟨λ b e=>by simp[rb]at e,λ r c=>by simp[rr]at c;subst c;assumption⟩
 |ptr b o h|mp b h=>exact⟨λ b e=>by simp[rb]at e;subst e;exact h,λ r c=>by simp[rr]at c⟩
 |fn f cs us j c g|agg cs us j q c g|tup cs us j c g=>exact d cs us j g
theorem Rep.noRefs{Γ:Gh}{x:AV}{u:Value}(h:Rep Γ x u):refs Γ.nb Γ.nr x=false:=qq5.2 h.bound
theorem qsB{Γ Γ':Gh}{fb fr:Nat->Nat}(N:∀b o u,Γ.mem b o=some u->Γ'.mem b o=some u){x:AV}{u:Value}(h:Rep Γ x u)
  (g:∀b∈rb x,fb b<Γ'.nb/\Γ'.β (fb b)=Γ.β b)
  (d:∀r∈rr x,fr r<Γ'.nr/\Γ'.k (fr r)=Γ.k r/\Γ'.ver (fr r)=Γ.ver r/\Γ'.cur (fr r)=Γ.cur r/\Γ'.sz (fr r)=Γ.sz r/\Γ'.of (fr r)=Γ.of r):Rep Γ' (ren fb fr x) u:=by
 have c:∀(cs:List AV) (us:List Value),us.length=cs.length->(∀b∈rbL cs,fb b<Γ'.nb/\Γ'.β (fb b)=Γ.β b)->
   (∀r∈rrL cs,fr r<Γ'.nr/\Γ'.k (fr r)=Γ.k r/\Γ'.ver (fr r)=Γ.ver r/\Γ'.cur (fr r)=Γ.cur r/\Γ'.sz (fr r)=Γ.sz r/\Γ'.of (fr r)=Γ.of r)->
   (∀(i:Nat) (x:AV) (u:Value),cs[i]?=some x->us[i]?=some u->(∀b∈rb x,fb b<Γ'.nb/\Γ'.β (fb b)=Γ.β b)->(∀r∈rr x,fr r<Γ'.nr/\Γ'.k (fr r)=Γ.k r/\Γ'.ver (fr r)=Γ.ver r/\Γ'.cur (fr r)=Γ.cur r/\Γ'.sz (fr r)=Γ.sz r/\Γ'.of (fr r)=Γ.of r)->Rep Γ' (ren fb fr x) u)->
   RepL Γ' (qY fb fr cs) us:=by
  intro cs us m g d l;rw[qsH];rw[qry]at g;rw[qnX]at d;refine⟨by simpa using m,λ i y u B P=>?_⟩;rw[List.getElem?_map]at B;cases w:cs[i]? with
  |none=>rw[w]at B;cases B
  |some x=>
    rw[w]at B;cases B;have p:=wb w;exact l i x u w P (λ b h=>g b (w7.2 ⟨x,p,h⟩)) (λ r h=>d r (w7.2 ⟨x,p,h⟩))
 induction h with
 |v _ h=>exact .v _ h
 |dead u=>exact .dead u
 |sl k es f a n cap b o us m K J Q C S R s H l=>
   refine .sl k es f a n cap b o us m K J Q C S R (λ i e j x z E=>N _ _ _ (s i e j x z E)) λ i e j x z E=>?_;have q:=C e (wb z) x (wb E);let⟨e1,M,L⟩:=qgF (fb:=fb) (fr:=fr) q;have:=l i e j x z E (by rw[M];intro b g;cases g) (by rw[L];intro r d;cases d);rw[e1]at this;exact this
 |rs r lo n W f a cap G F K J w=>
   let⟨t,D,g3,V,U,T⟩:=d r (by simp[rr]);refine .rs _ _ _ _ _ _ _ t (by rw[g3];exact F) K J λ I=>?_;grind
 |ptr b o h=>
   let⟨t,D⟩:=g b (by simp[rb]);rw[<-D];exact .ptr _ _ t
 |rpt r i o W A G F w=>
   let⟨t,D,g3,V,U,T⟩:=d r (by simp[rr]);refine .rpt _ _ _ _ _ t (by rw[g3];exact F) λ I=>?_;grind
 |ept cs o b O us C s H l=>
   refine .ept cs o b O us C (λ j x h=>N _ _ _ (s j x h)) λ j x h=>?_;have q:=C x (wb h);let⟨e1,M,L⟩:=qgF (fb:=fb) (fr:=fr) q;have:=l j x h (by rw[M];intro b g;cases g) (by rw[L];intro r d;cases d);rw[e1]at this;exact this
 |fn f cs us m h l=>
   have:=c cs us m g d l;exact .fn f _ us this.len this.rep
 |agg cs us m z h l=>
   have:=c cs us m g d l;exact .agg _ us this.len z this.rep
 |tup cs us m h l=>
   have:=c cs us m g d l;exact .tup _ us this.len this.rep
 |mp b h=>
   let⟨t,D⟩:=g b (by simp[rb]);rw[<-D];exact .mp _ t
mutual
theorem qDd:∀x:AV,ren (λ b=>b) (λ r=>r) x=x
 |.ptr b o|.mp b=>rfl
 |.mc ..|.rs ..|.rpt .. => rfl
 |.fn f cs|.agg cs|.tup cs=>by simp only[ren,qsq cs]
 |.v _|.dead=>rfl
 |.sl ..|.ept .. => rfl
theorem qsq:∀cs:List AV,qY (λ b=>b) (λ r=>r) cs=cs
 |[]=>rfl
 |x::cs=>by simp only[qY,qDd x,qsq cs]
end
mutual
theorem qr9(fb fr:Nat->Nat):∀x:AV,rb x=[]->rr x=[]->ren fb fr x=x
 |.ptr b o,h,_|.mp b,h,_=>by simp[rb]at h
 |.rs ..,_,h|.rpt ..,_,h=>by simp[rr]at h
 |.fn f cs,h,g|.agg cs,h,g|.tup cs,h,g=>by rw[ren,qob fb fr cs h g]
 |.v _,_,_|.dead,_,_|.sl ..,_,_|.ept ..,_,_|.mc ..,_,_=>rfl
theorem qob(fb fr:Nat->Nat):∀cs:List AV,rbL cs=[]->rrL cs=[]->qY fb fr cs=cs
 |[],_,_=>rfl
 |x::cs,h,g=>by
   rw[rbL,wZ]at h;rw[rrL,wZ]at g;rw[qY,qr9 fb fr x h.1 g.1,qob fb fr cs h.2 g.2]
end
theorem Rep.cut{Γ:Gh}{n m:Nat}{x:AV}{u:Value}(h:Rep Γ x u)(a:refs n m x=false):Rep {Γ with nb:=n,nr:=m} x u:=by
 let⟨e,d⟩:=qq5.1 a;have:=qsB (Γ:=Γ) (Γ':={Γ with nb:=n,nr:=m}) (fb:=λ b=>b) (fr:=λ r=>r) (λ _ _ _ h=>h) h (λ b c=>⟨e b c,rfl⟩) (λ r a=>⟨d r a,rfl,rfl,rfl,rfl,rfl⟩);rw[qDd]at this;exact this
theorem Inv.wr{Γ:Gh}{σ:St}{w:World}(h:Inv Γ σ w){σ':St}(b:σ'.bx=σ.bx)(a:σ'.rw=σ.rw):Inv Γ σ' w:=
 ⟨by rw[b];exact h.nb,by rw[a];exact h.nr,h.mem,by rw[b];exact h.box,h.inj,h.boxmem,by rw[a];exact h.row,h.apart⟩
theorem qzk{α:Type}{l:List α}{n i:Nat}{x:α}(h:(l.take n)[i]?=some x):i<n/\l[i]?=some x:=by
 grind
theorem Inv.cut{Γ:Gh}{σ:St}{w:World}(h:Inv Γ σ w){n m:Nat}(p:n<=Γ.nb)(q:m<=Γ.nr)(J:∀i cs,i<n->σ.bx[i]?=some cs->∀x∈cs,Go.AmZ.refs n m x=false)(E t:List Nat):Inv {Γ with nb:=n,nr:=m} ⟨σ.bx.take n,σ.rw.take m,E,t⟩ w where
 nb:=by show n=(σ.bx.take n).length;rw[wm,<-h.nb];omega
 nr:=by show m=(σ.rw.take m).length;rw[wm,<-h.nr];omega
 mem:=h.mem
 box:=λ i cs d=>by
  let⟨g,l⟩:=qzk d;exact(h.box i cs l).to' (λ _ h=>h) λ x u z q=>z.cut (q.elim (J i cs g l x) λ⟨e1,C⟩=>by unfold Go.AmZ.refs;rw[e1,C];rfl)
 inj:=λ i j d s=>h.inj i j (wC d p) (wC s p)
 boxmem:=λ i d=>h.boxmem i (wC d p)
 row:=λ r R A=>by
  let⟨g,f⟩:=qzk A;let⟨k,v,pos,y,D,S,Q,P,O,N,M,L⟩:=h.row r R f
  have o:∀{x:AV}{u:Value}{e:List AV},e∈R.c->x∈e->Rep Γ x u->Rep {Γ with nb:=n,nr:=m} x u:=λ I z a=>a.cut (by
   let⟨_,C,T⟩:=qgF (fb:=id) (fr:=id) (D _ I _ z);rw[qq5,C,T];exact⟨λ b B=>(xd B).elim,λ b B=>(xd B).elim⟩)
  refine⟨k,v,pos,y,D,S,Q,P,O,λ i e j x d s=>?_,λ G i d=>M G i (wC d p),L⟩;let⟨u,H,a,K⟩:=N i e j x d s;exact⟨u,H,o (wb d) (wb s) a,K⟩
 apart:=λ r F A f=>h.apart r F (wC A q) (wC f q)
structure qO (σ σ':St):Prop where
 bl:σ.bx.length<=σ'.bx.length
 rl:σ.rw.length<=σ'.rw.length
 bx:∀i,i<σ.bx.length->i ∉ σ'.wr->σ'.bx[i]?=σ.bx[i]?
 rw:∀i,i<σ.rw.length->i ∉ σ'.wrr->σ'.rw[i]?=σ.rw[i]?
 wr:∀i,i∈σ.wr->i∈σ'.wr
 wrr:∀i,i∈σ.wrr->i∈σ'.wrr
theorem qO.refl(σ:St):qO σ σ:=⟨wa _,wa _,λ _ _ _=>rfl,λ _ _ _=>rfl,λ _ h=>h,λ _ h=>h⟩
theorem qO.trans{a b c:St}(h:qO a b)(g:qO b c):qO a c:=
 ⟨wE h.bl g.bl,wE h.rl g.rl,λ i d e=>(g.bx i (wC d h.bl) e).trans (h.bx i d λ f=>e (g.wr i f)),λ i d e=>(g.rw i (wC d h.rl) e).trans (h.rw i d λ f=>e (g.wrr i f)),λ i d=>g.wr i (h.wr i d),λ i d=>g.wrr i (h.wrr i d)⟩
theorem qFS:∀(a:List Nat) (rw:List Row),(frz rw a).length=rw.length
 |[],rw=>rfl
 |r::a,rw=>by
   show(frz (rw.modify r qlz) a).length=_;rw[qFS a,waa]
theorem qnY:∀(a:List Nat) (rw:List Row) (i:Nat),i ∉ a->(frz rw a)[i]?=rw[i]?
 |[],rw,i,_=>rfl
 |r::a,rw,i,h=>by
   show(frz (rw.modify r qlz) a)[i]?=_;rw[qnY a _ i λ b=>h (wg _ b),List.getElem?_modify];grind
theorem qGq{Γ:Gh}{σ:St}{w:World}(e:Inv Γ σ w){m:Nat->Nat->Option Value}(c:Le Γ {Γ with mem:=m}){d:Nat}{y:AV}{u:Value}(l:∀r∈rr y,d<=r->∀R,σ.rw[r]?=some R->QA {Γ with mem:=m} r R)(a:Rep Γ y u):Rep {Γ with mem:=m} (qup d σ.rw y) u:=by
 cases y with
 |sl k es f=>exact qk6 (y:=.sl k es f) e c (λ r a=>by simp[rsC]at a) a
 |rs r lo n h f=>
   simp only[qup];split
   .rename_i j;refine qk6 (y:=.rs r lo n h f) e c (λ i g R o=>?_) a;grind [rsC,rr]
   .exact a.mono c
 |_=>exact a.mono c
theorem qDf{Γ:Gh}{σ:St}{w:World}(l:Inv Γ σ w){m:Nat->Nat->Option Value}(k:Le Γ {Γ with mem:=m}){c:Nat}{pub:AV->AV}{cs:List AV}{us:List Value}(g:∀y u,(∀r∈rr y,c<=r->∀R,σ.rw[r]?=some R->QA {Γ with mem:=m} r R)->Rep Γ y u->Rep {Γ with mem:=m} (pub y) u)
  (j:∀r∈rrL cs,c<=r->∀R,σ.rw[r]?=some R->QA {Γ with mem:=m} r R) (d:RepL Γ cs us):RepL {Γ with mem:=m} (cs.map pub) us:=by
 refine⟨by simpa using d.len,λ i x u b e=>?_⟩;rw[List.getElem?_map]at b;cases h:cs[i]? with
 |none=>rw[h]at b;cases b
 |some y=>
   rw[h]at b;cases b;refine g y u (λ r f=>j r ?_) (d.rep i y u h e);grind [qnX,List.mem_of_getElem?]
theorem qFs{Γ:Gh}{σ:St}{w:World}(d:Inv Γ σ w){m:Nat->Nat->Option Value}(c:Le Γ {Γ with mem:=m}){b:Nat}{y:AV}{u:Value}(f:∀r∈rr y,b<=r->∀R,σ.rw[r]?=some R->QA {Γ with mem:=m} r R)(e:Rep Γ y u):Rep {Γ with mem:=m} (qjA b σ.rw y) u:=by
 cases y with
 |agg cs=>
   cases e with
   |agg _ us i h g=>
     have:=qDf d c (pub:=qup b σ.rw) (λ y u=>qGq d c) (by simpa[rr]using f) ⟨i,g⟩;exact .agg _ us this.len h this.rep
 |_=>exact qGq d c f e
theorem qOh{Γ:Gh}{σ:St}{w:World}(d:Inv Γ σ w){m:Nat->Nat->Option Value}(c:Le Γ {Γ with mem:=m}){b:Nat}{y:AV}{u:Value}(f:∀r∈rr y,b<=r->∀R,σ.rw[r]?=some R->QA {Γ with mem:=m} r R)(e:Rep Γ y u):Rep {Γ with mem:=m} (qil b σ.rw y) u:=by
 cases y with
 |tup cs=>
   cases e with
   |tup _ us h g=>
     have:=qDf d c (pub:=qjA b σ.rw) (λ y u=>qFs d c) (by simpa[rr]using f) ⟨h,g⟩;exact .tup _ us this.len this.rep
 |_=>exact qFs d c f e
theorem filter_nil{p:Nat->Bool}{l:List Nat}(h:l.filter p=[]){i:Nat}(a:p i=true):i ∉ l:=λ b=>by
 have:i∈l.filter p:=kO.2 ⟨b,a⟩;rw[h]at this;cases this
theorem qJS{Γ Γ':Gh}{σ σ':St}{w w':World}{res:AV}{v:Value}(h0:Inv Γ σ w)(hx:Ext Γ w Γ' w')(hi:Inv Γ' σ' w')(hk:qO { σ with wr:=[],wrr:=[] } σ')(hr:Rep Γ' res v) :
  (∃ Γ2,Ext Γ w Γ2 w'/\Inv Γ2 (turn σ (qbx σ res σ').2) w'/\Rep Γ2 (qbx σ res σ').1 v)/\qO { σ with wr:=[],wrr:=[] } (turn { σ with wr:=[],wrr:=[] } (qbx σ res σ').2):=by
 have hwrN:∀ i,i < σ.bx.length->i ∉ (σ'.wr.filter λ b=>decide (b < σ.bx.length))->i ∉ σ'.wr := λ i hi hn hm=>hn (kO.2 ⟨hm,by simpa using hi⟩);have hwrrN:∀ i,i < σ.rw.length->i ∉ (σ'.wrr.filter λ b=>decide (b < σ.rw.length))->i ∉ σ'.wrr := λ i hi hn hm=>hn (kO.2 ⟨hm,by simpa using hi⟩);unfold qbx;split
 ·refine⟨⟨Γ',hx,hi.wr rfl rfl,hr⟩,⟨hk.bl,hk.rl,λ i hi hn=>hk.bx i hi (hwrN i hi hn),λ i hi hn=>hk.rw i hi (hwrrN i hi hn),λ i h=>(by cases h),λ i h=>(by cases h)⟩⟩
 ·rename_i hkeep;simp only[qpx,xq]at hkeep;obtain⟨hk1,hk2⟩:=hkeep;obtain⟨m,m1,m2,m3⟩:=qaw ((rr res).filter λ r=>decide (σ.rw.length<=r)) hi σ'.wrr;have hpub:Rep { Γ' with mem:=m } (qil σ.rw.length σ'.rw res) v:=qOh hi m1.le (λ r hr' hge R hR=>m3 r (kO.2 ⟨hr',by simpa using hge⟩) R hR) hr;have hnb : σ.bx.length <= Γ'.nb:=by rw[hi.nb];exact hk.bl
  have hnr : σ.rw.length <= Γ'.nr:=by rw[hi.nr];exact hk.rl
  have hcut:=m2.cut (n := σ.bx.length) (m := σ.rw.length) hnb hnr (by
   intro i cs hlt hcs x hxm;have hcs : σ'.bx[i]?=some cs:=hcs;by_cases hw:i ∈ σ'.wr
   ·grind
   ·rw[hk.bx i hlt hw]at hcs;rcases(h0.box i cs hcs).split with⟨vs,e,g1,g2,g3⟩ | ⟨_,_,_,_,_,rfl,_⟩
    case inr=>rw[wF.1 hxm];rfl
    obtain⟨j,hj⟩:=List.getElem?_of_mem hxm;obtain⟨u,hu,hrep⟩:=g2.get hj;have:=hrep.noRefs;rw[h0.nb,h0.nr]at this;exact this) [] []
  have htake:(frz σ'.rw ((rr res).filter λ r=>decide (σ.rw.length<=r))).take σ.rw.length = σ'.rw.take σ.rw.length:=by
   apply kZ;grind [qnY]
  have hcut':Inv { ({ Γ' with mem:=m }:Gh)with nb := σ.bx.length,nr := σ.rw.length } ⟨σ'.bx.take σ.bx.length,σ'.rw.take σ.rw.length,[],[]⟩ w':=by
   rw[<- htake];exact hcut
  have hrep2:=hpub.cut hk1
  have hext:Ext Γ w { ({ Γ' with mem:=m }:Gh)with nb := σ.bx.length,nr := σ.rw.length } w':=by
   have e1:=hx.trans (qkD m1 w');refine⟨⟨e1.le.mem,by rw[h0.nb];exact wa _,e1.le.β,by rw[h0.nr];exact wa _,e1.le.k,e1.le.ver,e1.le.loc⟩,e1.os,e1.tape,e1.output,e1.size,e1.block,?_,e1.memg,e1.drawn⟩;rintro b (⟨i,hi',hb⟩ | ⟨r,hr',hz,hb⟩)
   ·exact e1.own b (.inl ⟨i,wC hi' hnb,hb⟩)
   ·exact e1.own b (.inr ⟨r,wC hr' hnr,hz,hb⟩)
  split
  ·rename_i hnil;have hn1:(σ'.wr.filter λ b=>decide (b < σ.bx.length))=[]:=(wZ.1 hnil).1;have hn2:(σ'.wrr.filter λ b=>decide (b < σ.rw.length))=[]:=(wZ.1 hnil).2
   have hb : σ'.bx.take σ.bx.length = σ.bx:=by
    apply kZ;intro i;rw[List.getElem?_take];split
    ·rename_i hlt;exact hk.bx i hlt (filter_nil hn1 (by simpa using hlt))
    ·grind
   have hrw : σ'.rw.take σ.rw.length = σ.rw:=by
    apply kZ;intro i;rw[List.getElem?_take];split
    ·rename_i hlt;exact hk.rw i hlt (filter_nil hn2 (by simpa using hlt))
    ·grind
   refine⟨⟨_,hext,?_,hrep2⟩,qO.refl _⟩;exact hcut'.wr hb.symm hrw.symm
  ·refine⟨⟨_,hext,hcut'.wr rfl rfl,hrep2⟩,⟨?_,?_,λ i hi hn=>?_,λ i hi hn=>?_,λ i h=>(by cases h),λ i h=>(by cases h)⟩⟩
   ·show σ.bx.length<=(σ'.bx.take σ.bx.length).length;have:=hk.bl;grind
   ·show σ.rw.length<=(σ'.rw.take σ.rw.length).length;have : σ.rw.length <= σ'.rw.length:=hk.rl;rw[wm];omega
   ·show(σ'.bx.take σ.bx.length)[i]? = σ.bx[i]?;rw[List.getElem?_take,if_pos hi];exact hk.bx i hi (hwrN i hi hn)
   ·show(σ'.rw.take σ.rw.length)[i]? = σ.rw[i]?;rw[List.getElem?_take,if_pos hi];exact hk.rw i hi (hwrrN i hi hn)
end Go.AmZ
namespace Go.AmZ
open Go Go.RowKit
theorem qu3:∀{l:List Nat},nd l=true->l.Nodup
 |[],_=>k8
 |b::l,h=>by
   simp only[nd,wc,wQ,List.contains_eq_mem]at h;exact xa.2 ⟨by simpa using h.1,qu3 h.2⟩
theorem qEw{l:List Nat}{b:Nat}(h:b∈l):l.getD (l.idxOf b) 0=b:=by
 grind
theorem qJD{l:List Nat}{b:Nat}(h:b∈l):l.idxOf b<l.length:=List.idxOf_lt_length_of_mem h
theorem qxG{l:List Nat}(a:l.Nodup){j b:Nat}(h:l[j]?=some b):l.idxOf b=j:=by
 grind
theorem qz4{l:List Nat}(a:l.Nodup){i j:Nat}(c:i<l.length)(b:j<l.length)(h:l[i]=l[j]):i=j:=by
 rw[<-qxG a (List.getElem?_eq_getElem c),<-qxG a (List.getElem?_eq_getElem b),h]
def fi(l:List Nat)(n i:Nat):Option Nat:=if i<n then(if i∈l then some (l.idxOf i)else none)else some (l.length+(i-n))
theorem qcv{l:List Nat}{n i:Nat}(h:fi l n i=none):i<n/\i ∉ l:=by
 grind [fi]
theorem qhM{l:List Nat}{n i j:Nat}(h:fi l n i=some j)(a:i<n):i∈l/\j=l.idxOf i/\j<l.length/\l.getD j 0=i:=by
 grind [fi]
theorem qIz{l:List Nat}{n i a j:Nat}(h:fi l n i=some j)(d:fi l n a=some j):i=a:=by
 by_cases c:i<n<;>by_cases b:a<n
 .rw[<-(qhM h c).2.2.2,<-(qhM d b).2.2.2]
 .grind [fi]
 .grind [fi]
 .grind [fi]
theorem qFG{l:List Nat}(a:l.Nodup){n:Nat}(c:∀b∈l,b<n)(j:Nat):fi l n (zO l n j)=some j:=by
 grind [zO,fi]
theorem qF9{l:List Nat}{n e j:Nat}(a:∀b∈l,b<n)(d:j<l.length+e):zO l n j<n+e:=by
 unfold zO;split
 .rename_i b c;have:=a b (wb c);omega
 .grind
theorem qoq{l:List Nat}{n b:Nat}(h:b∈l):zO l n (l.idxOf b)=b:=by
 grind [zO]
theorem qe5{α:Type}:∀(bs:List Nat) (l xs:List α),bs.length<=xs.length->(zX l bs xs).length=l.length+(xs.length-bs.length)
 |[],l,xs,_=>by simp[zX]
 |b::bs,l,[],h=>by simp at h
 |b::bs,l,x::xs,h=>by
   simp only[zX];rw[qe5 bs _ xs (by simpa using h),wH];simp
theorem qaA{α:Type}:∀(bs:List Nat) (l xs:List α) (i:Nat),bs.length<=xs.length->bs.Nodup->(∀b∈bs,b<l.length)->(zX l bs xs)[i]?=match fi bs l.length i with
  |some j=>xs[j]?
  |none=>l[i]?
 |[],l,xs,i,_,_,_=>by
   simp only[zX,fi];rw[List.getElem?_append];split<;>simp_all
 |b::bs,l,[],i,h,_,_=>by simp at h
 |b::bs,l,x::xs,i,h,n,m=>by
   simp only[zX];let⟨g,f⟩:=xa.1 n;rw[qaA bs (l.set b x) xs i (by simpa using h) f (λ p o=>by rw[wH];exact m p (wg _ o)),wH];have k:=m b (wh ..);unfold fi;by_cases d:i<l.length
   .rw[if_pos d,if_pos d];by_cases a:i=b
    .subst a;rw[if_neg g,if_pos (wh ..)];simp[k]
    .by_cases c:i∈bs
     .rw[if_pos c,if_pos (wg _ c)];simp only;rw[List.idxOf_cons,show(b==i)=false by simpa using λ e=>a e.symm];rfl
     .rw[if_neg c,if_neg (by simp[a,c])];simp only;rw[List.getElem?_set,if_neg λ e=>a e.symm]
   .rw[if_neg d,if_neg d];simp only[wy];rw[show bs.length+1+(i-l.length)=(bs.length+(i-l.length))+1 by omega];rfl
def JS(Γ:Gh)(bs rs:List Nat):Gh:=
 {mem:=Γ.mem,nb:=bs.length,β:=λ i=>Γ.β (bs.getD i 0),nr:=rs.length,ver:=λ r=>Γ.ver (rs.getD r 0),k:=λ r=>Γ.k (rs.getD r 0),cur:=λ r=>Γ.cur (rs.getD r 0),sz:=λ r=>Γ.sz (rs.getD r 0),of:=λ r=>Γ.of (rs.getD r 0)}
structure qfh (σ:St) (bs rs:List Nat):Prop where
 bn:bs.Nodup
 rn:rs.Nodup
 bl:∀b∈bs,b<σ.bx.length
 rl:∀r∈rs,r<σ.rw.length
 cb:∀b∈bs,∀x∈σ.bx.getD b [],(∀b∈rb x,b∈bs)/\∀r∈rr x,r∈rs
theorem yE{α:Type}{l:List α}{i:Nat}{x d:α}(h:l[i]?=some x):l.getD i d=x:=by rw[List.getD_eq_getElem?_getD,h];rfl
section
variable {Γ:Gh}{σ:St}{w:World}{bs rs:List Nat}
theorem qsL(d:qfh σ bs rs){x:AV}{u:Value}(h:Rep Γ x u)(c:∀b∈rb x,b∈bs)(a:∀r∈rr x,r∈rs):Rep (JS Γ bs rs) (ren (λ b=>bs.idxOf b) (λ r=>rs.idxOf r) x) u:=
 qsB (Γ:=Γ) (Γ':=JS Γ bs rs) (λ _ _ _ h=>h) h (λ b h=>⟨qJD (c b h),by show Γ.β _=_;rw[qEw (c b h)]⟩) λ r h=>by
  have e:=qEw (a r h);refine⟨qJD (a r h),?_,?_,?_,?_,?_⟩
  .show Γ.k _=_;rw[e]
  .show Γ.ver _=_;rw[e]
  .show Γ.cur _=_;rw[e]
  .show Γ.sz _=_;rw[e]
  .show Γ.of _=_;rw[e]
theorem qrP{b:Nat}(f:qfh σ bs rs)(g:Inv Γ σ w)(h:QC (JS Γ bs rs) b):QC Γ b:=by
 obtain⟨i,a,e⟩|⟨r,c,j,e⟩:=h
 .have a:i<bs.length:=a;have d:bs.getD i 0∈bs:=by rw[yE (List.getElem?_eq_getElem a)];exact wX a
  exact .inl ⟨_,by rw[g.nb];exact f.bl _ d,e⟩
 .have c:r<rs.length:=c;have d:rs.getD r 0∈rs:=by rw[yE (List.getElem?_eq_getElem c)];exact wX c
  exact .inr ⟨_,by rw[g.nr];exact f.rl _ d,j,e⟩
theorem qGx(g:qfh σ bs rs)(n:Inv Γ σ w):Inv (JS Γ bs rs) (qI σ bs rs) w where
 nb:=by simp[JS,qI]
 nr:=by simp[JS,qI]
 mem:=n.mem
 box:=λ i cs Q=>by
  have f:(bs.map λ b=>qY (λ b=>bs.idxOf b) (λ r=>rs.idxOf r) (σ.bx.getD b []))[i]?=some cs:=Q;rw[List.getElem?_map]at f;cases l:bs[i]? with
  |none=>rw[l]at f;cases f
  |some b=>
    rw[l]at f;simp only[kP,wz]at f;have F:=wb l;have G:=g.bl b F;have t:σ.bx[b]?=some (σ.bx.getD b []):=by rw[yE (List.getElem?_eq_getElem G)];exact List.getElem?_eq_getElem G
    rw[<-f,qsH];refine(n.box b _ t).to _ (λ o U=>by show w.heap[Γ.β (bs.getD i 0)]?=_;rw[yE l];exact U) (λ x u I y=>?_) λ x=>qr9 _ _ x;obtain y|⟨e1,A⟩:=y
    .exact qsL g I (g.cb b F x y).1 (g.cb b F x y).2
    .exact qsL g I (by rw[e1];exact λ _ h=>absurd h xd) (by rw[A];exact λ _ h=>absurd h xd)
 inj:=λ i j a z h=>by
  have a:i<bs.length:=a;have z:j<bs.length:=z;have h:Γ.β (bs.getD i 0)=Γ.β (bs.getD j 0):=h;have e1:=yE (d:=0) (List.getElem?_eq_getElem a);have A:=yE (d:=0) (List.getElem?_eq_getElem z);rw[e1,A]at h;have:=n.inj _ _ (by rw[n.nb];exact g.bl _ (wX a)) (by rw[n.nb];exact g.bl _ (wX z)) h;exact qz4 g.bn a z this
 boxmem:=λ i a o=>by
  have a:i<bs.length:=a;have e1:=yE (d:=0) (List.getElem?_eq_getElem a);show Γ.mem (Γ.β (bs.getD i 0)) o=none;rw[e1];exact n.boxmem _ (by rw[n.nb];exact g.bl _ (wX a)) o
 row:=λ r R X=>by
  have m:(rs.map λ r=>σ.rw.getD r ⟨0,[],0,0,false⟩)[r]?=some R:=X;rw[List.getElem?_map]at m;cases l:rs[r]? with
  |none=>rw[l]at m;cases m
  |some q=>
    rw[l]at m;simp only[kP,wz]at m;have F:=wb l;have D:=g.rl q F;have t:σ.rw[q]?=some R:=by rw[<-m,yE (List.getElem?_eq_getElem D)];exact List.getElem?_eq_getElem D
    have E:rs.getD r 0=q:=yE l;let⟨k,L,pos,N,S,fz,g2,g4,g5,g6,g8,Z⟩:=n.row q R t
    have H:∀{x:AV}{u:Value}{e:List AV},e∈R.c->x∈e->Rep Γ x u->Rep (JS Γ bs rs) x u:=λ P I p=>by
     let⟨e1,A,e3⟩:=qgF (fb:=λ b=>bs.idxOf b) (fr:=λ r=>rs.idxOf r) (S _ P _ I);have:=qsL g p (by rw[A];exact λ b l=>(xd l).elim) (by rw[e3];exact λ b l=>(xd l).elim);rw[e1]at this;exact this
    have K:(JS Γ bs rs).cur r=Γ.cur q:=by show Γ.cur _=_;rw[E]
    have es:(JS Γ bs rs).sz r=Γ.sz q:=by show Γ.sz _=_;rw[E]
    have J:(JS Γ bs rs).of r=Γ.of q:=by show Γ.of _=_;rw[E]
    refine⟨by rw[k];show _=Γ.k _;rw[E],λ V=>by rw[L V];show _=Γ.ver _;rw[E],pos,N,S,fz,by rw[K,es];exact g2,by rw[es,J];exact g4,by rw[K,es,J];exact g5,λ i e j x a z=>?_,λ B i a=>?_,λ W=>J.trans (Z W)⟩
    .let⟨u,T,p,Y⟩:=g6 i e j x a z;exact⟨u,by rw[K,J];exact T,H (wb a) (wb z) p,Y⟩
    .have a:i<bs.length:=a;have e1:=yE (d:=0) (List.getElem?_eq_getElem a);rw[es]at B;rw[K];show Γ.β (bs.getD i 0)≠_;rw[e1];exact g8 B _ (by rw[n.nb];exact g.bl _ (wX a))
 apart:=λ r M C s O B v=>by
  have C:r<rs.length:=C;have s:M<rs.length:=s;have e1:=yE (d:=0) (List.getElem?_eq_getElem C);have A:=yE (d:=0) (List.getElem?_eq_getElem s);have B:Γ.sz (rs.getD r 0)≠0:=B;have v:Γ.sz (rs.getD M 0)≠0:=v;show Γ.cur (rs.getD r 0)≠Γ.cur (rs.getD M 0);rw[e1]at B;rw[A]at v;rw[e1,A];refine n.apart _ _ (by rw[n.nr];exact g.rl _ (wX C)) (by rw[n.nr];exact g.rl _ (wX s)) (λ P=>O (qz4 g.rn C s P)) B v
def QQ(Γ Γs:Gh)(bs rs:List Nat):Gh:=
 {mem:=Γs.mem,nb:=Γ.nb+(Γs.nb-bs.length),β:=λ i=>match fi bs Γ.nb i with|some j=>Γs.β j|none=>Γ.β i,
   nr:=Γ.nr+(Γs.nr-rs.length),ver:=λ r=>match fi rs Γ.nr r with|some j=>Γs.ver j|none=>Γ.ver r,sz:=λ r=>match fi rs Γ.nr r with|some j=>Γs.sz j|none=>Γ.sz r,
   k:=λ r=>match fi rs Γ.nr r with|some j=>Γs.k j|none=>Γ.k r,cur:=λ r=>match fi rs Γ.nr r with|some j=>Γs.cur j|none=>Γ.cur r,
   of:=λ r=>match fi rs Γ.nr r with|some j=>Γs.of j|none=>Γ.of r}
variable {Γs:Gh}{σs:St}{w':World}
theorem qBp{l:List Nat}{n e i j:Nat}(h:fi l n i=some j)(a:i<n+e):j<l.length+e:=by
 grind [fi]
theorem qpl(c:qfh σ bs rs)(d:Inv Γ σ w)(g:Ext (JS Γ bs rs) w Γs w'){x:AV}{u:Value}(h:Rep Γs x u):Rep (QQ Γ Γs bs rs) (ren (zO bs Γ.nb) (zO rs Γ.nr) x) u:=by
 have m:bs.length<=Γs.nb:=g.le.nb;have l:rs.length<=Γs.nr:=g.le.nr;refine qsB (Γ:=Γs) (Γ':=QQ Γ Γs bs rs) (λ _ _ _ h=>h) h (λ b a=>?_) λ r i=>?_
 .have f:=h.bound.1 b a;refine⟨qF9 (λ b a=>by rw[d.nb];exact c.bl b a) (by omega),?_⟩;show(match fi bs Γ.nb (zO bs Γ.nb b)with|some j=>Γs.β j|none=>Γ.β _)=_;rw[qFG c.bn (λ b a=>by rw[d.nb];exact c.bl b a)]
 .have f:=h.bound.2 r i;have e:=qFG c.rn (n:=Γ.nr) (λ b a=>by rw[d.nr];exact c.rl b a) r;refine⟨qF9 (λ b a=>by rw[d.nr];exact c.rl b a) (by omega),?_,?_,?_,?_,?_⟩
  .show(match fi rs Γ.nr _ with|some j=>Γs.k j|none=>Γ.k _)=_;rw[e]
  .show(match fi rs Γ.nr _ with|some j=>Γs.ver j|none=>Γ.ver _)=_;rw[e]
  .show(match fi rs Γ.nr _ with|some j=>Γs.cur j|none=>Γ.cur _)=_;rw[e]
  .show(match fi rs Γ.nr _ with|some j=>Γs.sz j|none=>Γ.sz _)=_;rw[e]
  .show(match fi rs Γ.nr _ with|some j=>Γs.of j|none=>Γ.of _)=_;rw[e]
theorem qF6(n:qfh σ bs rs)(o:Inv Γ σ w)(d:Ext (JS Γ bs rs) w Γs w'):Le Γ (QQ Γ Γs bs rs):=by
 have f:∀i,i<Γ.nb->(QQ Γ Γs bs rs).β i=Γ.β i:=by
  intro i g;show(match fi bs Γ.nb i with|some j=>Γs.β j|none=>Γ.β i)=_;cases h:fi bs Γ.nb i with
  |none=>rfl
  |some j=>
    let⟨m,l,c,b⟩:=qhM h g;have:=d.le.β j c;simp only;rw[this];show Γ.β (bs.getD j 0)=_;rw[b]
 refine⟨d.le.mem,kK _ _,f,kK _ _,λ r e=>?_,λ r e=>?_,λ r e a=>?_⟩
 .show(match fi rs Γ.nr r with|some j=>Γs.k j|none=>Γ.k r)=_;cases h:fi rs Γ.nr r with
  |none=>rfl
  |some j=>
    let⟨m,l,c,b⟩:=qhM h e;have:=d.le.k j c;simp only;rw[this];show Γ.k (rs.getD j 0)=_;rw[b]
 .show _<=(match fi rs Γ.nr r with|some j=>Γs.ver j|none=>Γ.ver r);cases h:fi rs Γ.nr r with
  |none=>exact wa _
  |some j=>
    let⟨m,l,c,b⟩:=qhM h e;have:Γ.ver (rs.getD j 0)<=Γs.ver j:=d.le.ver j c;rw[b]at this;exact this
 .have a:(match fi rs Γ.nr r with|some j=>Γs.ver j|none=>Γ.ver r)=Γ.ver r:=a;show(match fi rs Γ.nr r with|some j=>Γs.cur j|none=>Γ.cur r)=_/\(match fi rs Γ.nr r with|some j=>Γs.sz j|none=>Γ.sz r)=_/\(match fi rs Γ.nr r with|some j=>Γs.of j|none=>Γ.of r)=_;cases h:fi rs Γ.nr r with
  |none=>exact⟨rfl,rfl,rfl⟩
  |some j=>
    rw[h]at a;let⟨m,l,c,b⟩:=qhM h e;have:=d.le.loc j c (by show _=Γ.ver (rs.getD j 0);rw[b];exact a);have:Γs.cur j=Γ.cur (rs.getD j 0)/\Γs.sz j=Γ.sz (rs.getD j 0)/\Γs.of j=Γ.of (rs.getD j 0):=this;rw[b]at this;exact this
theorem qlH(l:qfh σ bs rs)(g:Inv Γ σ w){i:Nat}(h:fi bs Γ.nb i=none):¬ QC (JS Γ bs rs) (Γ.β i)/\Γ.β i<w.heap.size:=by
 let⟨b,m⟩:=qcv h;refine⟨?_,g.box_lt b⟩;rintro(⟨j,f,a⟩|⟨r,e,c,a⟩)
 .have f:j<bs.length:=f;have e1:=yE (d:=0) (List.getElem?_eq_getElem f);have a:Γ.β (bs.getD j 0)=Γ.β i:=a;rw[e1]at a;have:=g.inj _ _ (by rw[g.nb];exact l.bl _ (wX f)) b a;grind
 .have e:r<rs.length:=e;have e1:=yE (d:=0) (List.getElem?_eq_getElem e);have a:Γ.cur (rs.getD r 0)=Γ.β i:=a;rw[e1]at a;have k:=l.rl _ (wX e);have c:Γ.sz (rs.getD r 0)≠0:=c;rw[e1]at c;exact(g.row _ _ (List.getElem?_eq_getElem k)).nbx c i b a.symm
theorem qtJ(n:qfh σ bs rs)(f:Inv Γ σ w){r:Nat}(h:fi rs Γ.nr r=none)(k:Γ.sz r≠0):¬ QC (JS Γ bs rs) (Γ.cur r)/\Γ.cur r<w.heap.size:=by
 let⟨c,m⟩:=qcv h;have l:r<σ.rw.length:=by rw[<-f.nr];exact c
 refine⟨?_,f.cur_lt c k⟩;have o:=(f.row _ _ (List.getElem?_eq_getElem l)).nbx k;rintro(⟨j,i,b⟩|⟨q,g,a,b⟩)
 .have i:j<bs.length:=i;have e1:=yE (d:=0) (List.getElem?_eq_getElem i);have b:Γ.β (bs.getD j 0)=Γ.cur r:=b;rw[e1]at b;exact o _ (by rw[f.nb];exact n.bl _ (wX i)) b
 .have g:q<rs.length:=g;have e1:=yE (d:=0) (List.getElem?_eq_getElem g);have b:Γ.cur (rs.getD q 0)=Γ.cur r:=b;rw[e1]at b;have a:Γ.sz (rs.getD q 0)≠0:=a;rw[e1]at a;refine f.apart _ _ (by rw[f.nr];exact n.rl _ (wX g)) c (λ e=>m (e▸wX g)) a k b
theorem qiC(c:Ext (JS Γ bs rs) w Γs w'){b a:Nat}(f:QC Γs b)(e:¬ QC (JS Γ bs rs) a/\a<w.heap.size):b≠a:=λ d=>by
 obtain h|h:=c.own b f
 .exact e.1 (d▸h)
 .omega
theorem qCk(t:qfh σ bs rs)(g:Inv Γ σ w)(s:Ext (JS Γ bs rs) w Γs w')(v:Inv Γs σs w'):Inv (QQ Γ Γs bs rs) (qhr σ bs rs σs) w':=by
 have ag:bs.length<=Γs.nb:=s.le.nb;have af:rs.length<=Γs.nr:=s.le.nr;have U:bs.length<=(σs.bx.map (qY (zO bs σ.bx.length) (zO rs σ.rw.length))).length:=by rw[wB,<-v.nb];exact ag
 have O:rs.length<=σs.rw.length:=by rw[<-v.nr];exact af
 have X:=qF6 t g s;have E:∀j,j<Γs.nb->QC Γs (Γs.β j):=λ j v=>.inl ⟨j,v,rfl⟩;have D:∀j,j<Γs.nr->Γs.sz j≠0->QC Γs (Γs.cur j):=λ j v F=>.inr ⟨j,v,F,rfl⟩
 have q:∀i j,i<(QQ Γ Γs bs rs).nb->fi bs Γ.nb i=some j->j<Γs.nb:=λ i j l h=>by
  have:=qBp (e:=Γs.nb-bs.length) h l;omega
 have C:∀i j,i<(QQ Γ Γs bs rs).nr->fi rs Γ.nr i=some j->j<Γs.nr:=λ i j l h=>by
  have:=qBp (e:=Γs.nr-rs.length) h l;omega
 have p:∀i j,fi bs Γ.nb i=some j->(QQ Γ Γs bs rs).β i=Γs.β j:=λ i j h=>by
  show(match fi bs Γ.nb i with|some j=>Γs.β j|none=>Γ.β i)=_;rw[h]
 have y:∀i,fi bs Γ.nb i=none->(QQ Γ Γs bs rs).β i=Γ.β i:=λ i h=>by
  show(match fi bs Γ.nb i with|some j=>Γs.β j|none=>Γ.β i)=_;rw[h]
 have cs':∀i j,fi rs Γ.nr i=some j->(QQ Γ Γs bs rs).cur i=Γs.cur j:=λ i j h=>by
  show(match fi rs Γ.nr i with|some j=>Γs.cur j|none=>Γ.cur i)=_;rw[h]
 have S:∀i,fi rs Γ.nr i=none->(QQ Γ Γs bs rs).cur i=Γ.cur i:=λ i h=>by
  show(match fi rs Γ.nr i with|some j=>Γs.cur j|none=>Γ.cur i)=_;rw[h]
 have B:∀b,(¬ QC (JS Γ bs rs) b/\b<w.heap.size)->w'.heap[b]?=w.heap[b]?:=λ b N=>s.block b N.2 N.1
 have A:∀b o,(¬ QC (JS Γ bs rs) b/\b<w.heap.size)->Γ.mem b o=none->Γs.mem b o=none:=λ b o N hm=>by
  cases h:Γs.mem b o with
  |none=>rfl
  |some u=>
    obtain n|n|n:=s.memg b o u h
    .have n:Γ.mem b o=some u:=n;rw[hm]at n;cases n
    .exact absurd n N.1
    .omega
 refine⟨?_,?_,v.mem,?_,?_,?_,?_,?_⟩
 .show Γ.nb+(Γs.nb-bs.length)=(zX _ _ _).length;rw[qe5 _ _ _ U,wB,g.nb,v.nb]
 .show Γ.nr+(Γs.nr-rs.length)=(zX _ _ _).length;rw[qe5 _ _ _ O,g.nr,v.nr]
 .intro i cs d;have d:(zX σ.bx bs (σs.bx.map (qY (zO bs σ.bx.length) (zO rs σ.rw.length))))[i]?=some cs:=d;rw[qaA _ _ _ _ U t.bn t.bl,<-g.nb,<-g.nr]at d;cases h:fi bs Γ.nb i with
  |some j=>
    rw[h]at d;simp only at d;rw[List.getElem?_map]at d;cases N:σs.bx[j]? with
    |none=>rw[N]at d;cases d
    |some ai=>
      rw[N]at d;simp only[kP,wz]at d;rw[<-d,qsH];exact(v.box j ai N).to _ (λ o ho=>by rw[p i j h];exact ho) (λ x u P _=>qpl t g s P) λ x=>qr9 _ _ x
  |none=>
    rw[h]at d;simp only at d;exact(g.box i cs d).to' (λ o ho=>by rw[y i h,B _ (qlH t g h)];exact ho) λ x u s _=>s.mono X
 .intro i I n Z m;cases h:fi bs Γ.nb i with
  |some j=>
    rw[p i j h]at m;cases a:fi bs Γ.nb I with
    |some f=>
      rw[p I f a]at m;have:=v.inj j f (q i j n h) (q I f Z a) m;subst this;exact qIz h a
    |none=>
      rw[y I a]at m;exact absurd m (qiC s (E j (q i j n h)) (qlH t g a))
  |none=>
    rw[y i h]at m;cases a:fi bs Γ.nb I with
    |some f=>
      rw[p I f a]at m;exact absurd m.symm (qiC s (E f (q I f Z a)) (qlH t g h))
    |none=>
      rw[y I a]at m;exact g.inj i I (qcv h).1 (qcv a).1 m
 .intro i n o;cases h:fi bs Γ.nb i with
  |some j=>rw[p i j h];exact v.boxmem j (q i j n h) o
  |none=>rw[y i h];exact A _ o (qlH t g h) (g.boxmem i (qcv h).1 o)
 .intro r R H;have H:(zX σ.rw rs σs.rw)[r]?=some R:=H
  have ad:r<(QQ Γ Γs bs rs).nr:=by
   have:=getElem?_lt H;rw[qe5 _ _ _ O,<-g.nr,<-v.nr]at this;exact this
  rw[qaA _ _ _ _ O t.rn t.rl,<-g.nr]at H;cases h:fi rs Γ.nr r with
  |some j=>
    rw[h]at H;simp only at H;let⟨k,ab,pos,ac,pl,fz,g2,g4,g5,g6,g8,g9⟩:=v.row j R H
    have aa:∀{x:AV}{u:Value}{e:List AV},e∈R.c->x∈e->Rep Γs x u->Rep (QQ Γ Γs bs rs) x u:=λ m P G=>by
     let⟨e1,e2,e3⟩:=qgF (fb:=zO bs Γ.nb) (fr:=zO rs Γ.nr) (pl _ m _ P);have:=qpl t g s G;rw[e1]at this;exact this
    have ek:(QQ Γ Γs bs rs).k r=Γs.k j:=by show(match fi rs Γ.nr r with|some j=>Γs.k j|none=>Γ.k r)=_;rw[h]
    have ah:(QQ Γ Γs bs rs).ver r=Γs.ver j:=by show(match fi rs Γ.nr r with|some j=>Γs.ver j|none=>Γ.ver r)=_;rw[h]
    have J:(QQ Γ Γs bs rs).sz r=Γs.sz j:=by show(match fi rs Γ.nr r with|some j=>Γs.sz j|none=>Γ.sz r)=_;rw[h]
    have K:(QQ Γ Γs bs rs).of r=Γs.of j:=by show(match fi rs Γ.nr r with|some j=>Γs.of j|none=>Γ.of r)=_;rw[h]
    have L:=cs' r j h;refine⟨k.trans ek.symm,λ hl=>(ab hl).trans ah.symm,pos,ac,pl,fz,by rw[L,J];exact g2,by rw[J,K];exact g4,by rw[L,J,K];exact g5,λ i e f x l Y=>?_,λ F i l=>?_,λ hf=>K.trans (g9 hf)⟩
    .let⟨u,hu,G,n⟩:=g6 i e f x l Y;exact⟨u,by rw[L,K];exact hu,aa (wb l) (wb Y) G,n⟩
    .rw[J]at F;rw[L];cases a:fi bs Γ.nb i with
     |some f=>rw[p i f a];exact g8 F f (q i f l a)
     |none=>
       rw[y i a];intro m;exact qiC s (D j (C r j ad h) F) (qlH t g a) m.symm
  |none=>
    rw[h]at H;simp only at H;have Q:=qtJ t g h;have V:=(qcv h).1;refine(g.row r R H).lift V X ?_ (λ F ob ae=>?_) (λ F off hm=>?_) λ F i l hn=>?_
    .show(match fi rs Γ.nr r with|some j=>Γs.ver j|none=>Γ.ver r)=_;rw[h]
    .rw[B _ (Q F)];exact ae
    .exact A _ off (Q F) hm
    .cases a:fi bs Γ.nb i with
     |some f=>
       rw[p i f a];exact qiC s (E f (q i f l a)) (Q F)
     |none=>
       have:=(qcv a).1;omega
 .intro r z n Z W T M
  have zs:∀i j,fi rs Γ.nr i=some j->(QQ Γ Γs bs rs).sz i=Γs.sz j:=λ i j h=>by
   show(match fi rs Γ.nr i with|some j=>Γs.sz j|none=>Γ.sz i)=_;rw[h]
  have zn:∀i,fi rs Γ.nr i=none->(QQ Γ Γs bs rs).sz i=Γ.sz i:=λ i h=>by
   show(match fi rs Γ.nr i with|some j=>Γs.sz j|none=>Γ.sz i)=_;rw[h]
  cases h:fi rs Γ.nr r with
  |some j=>
    rw[zs r j h]at T;rw[cs' r j h];cases a:fi rs Γ.nr z with
    |some f=>
      rw[zs z f a]at M;rw[cs' z f a];refine v.apart j f (C r j n h) (C z f Z a) (λ m=>?_) T M;subst m;exact W (qIz h a)
    |none=>
      rw[zn z a]at M;rw[S z a];exact qiC s (D j (C r j n h) T) (qtJ t g a M)
  |none=>
    rw[zn r h]at T;rw[S r h];cases a:fi rs Γ.nr z with
    |some f=>
      rw[zs z f a]at M;rw[cs' z f a];exact λ m=>qiC s (D f (C z f Z a) M) (qtJ t g h T) m.symm
    |none=>
      rw[zn z a]at M;rw[S z a];exact g.apart r z (qcv h).1 (qcv a).1 W T M
theorem qEy(g:qfh σ bs rs)(k:Inv Γ σ w)(c:Ext (JS Γ bs rs) w Γs w'):Ext Γ w (QQ Γ Γs bs rs) w':=by
 have q:bs.length<=Γs.nb:=c.le.nb;have p:rs.length<=Γs.nr:=c.le.nr;refine⟨qF6 g k c,c.os,c.tape,c.output,c.size,λ b m s=>c.block b m λ h=>s (qrP g k h),?_,λ b o u t=>?_,c.drawn⟩
 .have f:∀b,QC Γs b->QC Γ b\/w.heap.size<=b:=λ b m=>(c.own b m).imp_left (qrP g k);rintro b (⟨i,l,a⟩|⟨r,n,d,a⟩)
  .have a:(match fi bs Γ.nb i with|some j=>Γs.β j|none=>Γ.β i)=b:=a;cases h:fi bs Γ.nb i with
   |some j=>
     rw[h]at a;have:=qBp (e:=Γs.nb-bs.length) h l;exact f b (.inl ⟨j,by omega,a⟩)
   |none=>rw[h]at a;exact .inl (.inl ⟨i,(qcv h).1,a⟩)
  .have a:(match fi rs Γ.nr r with|some j=>Γs.cur j|none=>Γ.cur r)=b:=a;have d:(match fi rs Γ.nr r with|some j=>Γs.sz j|none=>Γ.sz r)≠0:=d;cases h:fi rs Γ.nr r with
   |some j=>
     rw[h]at a d;have:=qBp (e:=Γs.nr-rs.length) h n;exact f b (.inr ⟨j,by omega,d,a⟩)
   |none=>rw[h]at a d;exact .inl (.inr ⟨r,(qcv h).1,d,a⟩)
 .obtain h|h|h:=c.memg b o u t
  .exact .inl h
  .exact .inr (.inl (qrP g k h))
  .exact .inr (.inr h)
mutual
theorem qNy{fb fr e d:Nat->Nat}:∀x:AV,(∀b∈rb x,e (fb b)=b)->(∀r∈rr x,d (fr r)=r)->ren e d (ren fb fr x)=x
 |.ptr b o,c,_|.mp b,c,_=>by simp only[ren,c b (by simp[rb])]
 |.mc ..,_,_=>rfl
 |.rs r lo n g f,_,a|.rpt r i o g,_,a=>by simp only[ren,a r (by simp[rr])]
 |.fn f cs,c,a|.agg cs,c,a|.tup cs,c,a=>by simp only[ren,qi1 cs (by simpa[rb]using c) (by simpa[rr]using a)]
 |.v _,_,_|.dead,_,_|.sl ..,_,_|.ept ..,_,_=>rfl
theorem qi1{fb fr e d:Nat->Nat}:∀cs:List AV,(∀b∈rbL cs,e (fb b)=b)->(∀r∈rrL cs,d (fr r)=r)->qY e d (qY fb fr cs)=cs
 |[],_,_=>rfl
 |x::cs,c,a=>by
   simp only[qY,qNy x (λ b h=>c b (by simp[rbL,h])) (λ r h=>a r (by simp[rrL,h])),qi1 cs (λ b h=>c b (by simp[rbL,h])) (λ r h=>a r (by simp[rrL,h]))]
end
theorem qEa(c:qfh σ bs rs):(qhr σ bs rs (qI σ bs rs)).bx=σ.bx/\(qhr σ bs rs (qI σ bs rs)).rw=σ.rw:=by
 constructor
 .apply kZ;intro i;show(zX σ.bx bs ((qI σ bs rs).bx.map _))[i]?=_;rw[qaA _ _ _ _ (by simp[qI]) c.bn c.bl];cases h:fi bs σ.bx.length i with
  |none=>rfl
  |some j=>
    simp only;by_cases e:i<σ.bx.length
    .let⟨l,o,n,m⟩:=qhM h e
     have k:bs[j]?=some i:=by
      grind
     simp only[qI,xg,List.getElem?_map,k,kP,Function.comp];rw[List.getElem?_eq_getElem e,yE (List.getElem?_eq_getElem e)];congr 1;have g:=c.cb i l;rw[yE (List.getElem?_eq_getElem e)]at g;refine qi1 _ (λ b a=>?_) λ r d=>?_
     .rw[qry]at a;let⟨x,f,a⟩:=w7.1 a;exact qoq ((g x f).1 b a)
     .rw[qnX]at d;let⟨x,f,d⟩:=w7.1 d;exact qoq ((g x f).2 r d)
    .grind [fi,qI]
 .apply kZ;intro i;show(zX σ.rw rs (qI σ bs rs).rw)[i]?=_;rw[qaA _ _ _ _ (by simp[qI]) c.rn c.rl];grind [qI,fi]
theorem qIi(a:qfh σ bs rs)(g:qO (qI σ bs rs) σs):qO σ (qhr σ bs rs σs):=by
 have f:(qI σ bs rs).bx.length=bs.length:=by simp[qI]
 have e:(qI σ bs rs).rw.length=rs.length:=by simp[qI]
 have d:bs.length<=(σs.bx.map (qY (zO bs σ.bx.length) (zO rs σ.rw.length))).length:=by rw[wB,<-f];exact g.bl
 have c:rs.length<=σs.rw.length:=by rw[<-e];exact g.rl
 let⟨e1,r⟩:=qEa a;refine⟨?_,?_,λ i m k=>?_,λ i m k=>?_,λ i h=>vc _ h,λ i h=>vc _ h⟩
 .show _<=(zX _ _ _).length;rw[qe5 _ _ _ d];omega
 .show _<=(zX _ _ _).length;rw[qe5 _ _ _ c];omega
 .have b:i ∉ σs.wr.map (zO bs σ.bx.length):=λ h=>k (vl _ h);rw[<-e1];show(zX _ _ _)[i]?=(zX _ _ _)[i]?;rw[qaA _ _ _ _ d a.bn a.bl,qaA _ _ _ _ (by simp[qI]) a.bn a.bl];cases h:fi bs σ.bx.length i with
  |none=>rfl
  |some j=>
    simp only[List.getElem?_map];let⟨p,o,n,q⟩:=qhM h m;rw[g.bx j (by rw[f];exact n) λ l=>b (wA.2 ⟨j,l,by rw[o];exact qoq p⟩)]
 .have b:i ∉ σs.wrr.map (zO rs σ.rw.length):=λ h=>k (vl _ h);rw[<-r];show(zX _ _ _)[i]?=(zX _ _ _)[i]?;rw[qaA _ _ _ _ c a.rn a.rl,qaA _ _ _ _ (by simp[qI]) a.rn a.rl];cases h:fi rs σ.rw.length i with
  |none=>rfl
  |some j=>
    simp only;let⟨p,o,n,q⟩:=qhM h m;rw[g.rw j (by rw[e];exact n) λ l=>b (wA.2 ⟨j,l,by rw[o];exact qoq p⟩)]
theorem qJ8{a:List AV}(h:qfZ σ a=true):qfh σ (Qi σ a) (qbl σ a)/\(∀b∈rbL a,b∈Qi σ a)/\∀r∈rrL a,r∈qbl σ a:=by
 simp only[qfZ,wc,wv,decide_eq_true_eq,List.contains_eq_mem]at h;let⟨⟨⟨⟨⟨m,l⟩,k⟩,j⟩,e⟩,i⟩:=h;refine⟨⟨qu3 m,qu3 l,λ b c=>(e b c).1.1,i,λ b c x f=>⟨λ n d=>?_,λ r g=>?_⟩⟩,k,j⟩
 .refine(e b c).1.2 n ?_;rw[qry];exact w7.2 ⟨x,f,d⟩
 .refine(e b c).2 r ?_;rw[qnX];exact w7.2 ⟨x,f,g⟩
end
end Go.AmZ
namespace Go.AmZ
open Go Go.RowKit
theorem qCB{P:Program}{u:TypeDesc}{c:List KC}{d b:Bool}{f:Nat}{a:List Value}(h:qa5 P u=some (.map c d b f a)):∃k e i z,u=.map k e/\qjn P k=some (c,d)/\P.info? e=some i/\i.zero=some z/\qQs z=b/\z.cells.toList=a:=by
 cases u with
 |map k e=>
   have h:qvJ P k e=_:=h;unfold qvJ at h;grind
 |_=>simp[qa5]at h<;>(repeat' (first|(cases h;done)|split at h))
def JK:AV->Value
 |.v x=>x
 |_=>.nilIface
def Q9(a:Bool)(k:List AV):Value:=match a with
 |true=>.agg (k.map JK).toArray
 |false=>match k with
   |[x]=>JK x
   |_=>.nilIface
def KOk(a:List KC)(b:Bool)(k:List AV):Prop:=ym a k=true/\(b=false->∃c,a=[c])
theorem qep{c:KC}{a:List KC}{k:List AV}(h:ym (c::a) k=true):∃x r,k=x::r/\ym [c] [x]=true/\ym a r=true:=by
 cases k with
 |nil=>cases c<;>cases h
 |cons x r=>
   refine⟨x,r,rfl,?_⟩;unfold ym at h;split at h<;>rename_i e1 b<;>first|(cases e1;done)|skip
   all_goals first|(cases e1;cases b;first|(rw[wc]at h;exact⟨by simp[ym];simpa using h.1,h.2⟩)|exact⟨rfl,h⟩)|cases h
theorem qOU{c:KC}{x:AV}(h:ym [c] [x]=true):x=.v (JK x):=by
 cases c<;>cases x<;>first|rfl|cases h
theorem qvY:∀(b:List KC) (k:List AV),ym b k=true->∀x∈k,x=.v (JK x)
 |[],[],_,x,a=>by cases a
 |[],_::_,h,_,_=>by cases h
 |c::b,k,h,x,a=>by
   obtain⟨y,r,rfl,e,d⟩:=qep h;obtain rfl|a:=wx.1 a
   .exact qOU e
   .exact qvY b r d x a
theorem qeQ{c:KC}{k:List AV}(h:ym [c] k=true):∃x,k=[.v x]:=by
 obtain⟨x,r,rfl,b,a⟩:=qep h;cases r with
 |nil=>exact⟨_,by rw[<-qOU b]⟩
 |cons y r=>cases a
theorem qxX{Γ:Gh}{f:List KC}{a:Bool}{k:List AV}{u:Value}(d:KOk f a k)(h:Rep Γ (QJ a k) u):u=Q9 a k:=by
 cases a with
 |true=>
   have h:Rep Γ (.agg k) u:=h;cases h with
   |agg _ us m n g=>
     show Value.agg us.toArray=.agg (k.map JK).toArray;congr 2;apply kZ;intro i;rw[List.getElem?_map];by_cases j:i<k.length
     .have b:=List.getElem?_eq_getElem j;have e:=List.getElem?_eq_getElem (l:=us) (i:=i) (by omega);rw[b,e];have:=g i _ _ b e;rw[qvY _ _ d.1 _ (wb b)]at this;exact congrArg some (zq this)
     .grind
 |false=>
   obtain⟨c,rfl⟩:=d.2 rfl;obtain⟨x,rfl⟩:=qeQ d.1;have h:Rep Γ (.v x) u:=h;cases h;rfl
section
variable {P:Program} (w:World)
theorem qsj{t:TypeId}{c:KC}(h:kc1 P t=some c):P.underlying t=some (match c with|.str=>.string|.int k=>.int k|.bool=>.bool):=by
 unfold kc1 at h;grind
theorem qlE{t:TypeId}{a:List KC}(h:qjn P t=some (a,false)):∃c,a=[c]/\kc1 P t=some c:=by
 grind [qjn]
theorem qtH{t:TypeId}{a:List KC}(h:qjn P t=some (a,true)):∃b,P.underlying t=some (.struct b)/\P.stoodInHeld t=false/\kcs P b.toList 0=some a:=by
 grind [qjn]
theorem qx5{t:TypeId}{a:List KC}{b:Bool}{k:List AV}(h:qjn P t=some (a,b))(d:ym a k=true):KOk a b k:=⟨d,λ e=>by subst e;let⟨c,h1,_⟩:=qlE h;exact⟨c,h1⟩⟩
theorem qF3{t:TypeId}{c:KC}(h:kc1 P t=some c){x y:AV}(f:ym [c] [x]=true)(d:ym [c] [y]=true)(n:Nat):(Op.equalIn (n+1) t (JK x) (JK y)).run P w=.ok (qeF x y) w/\Instr.sameNow ((P.underlying t).getD .bool) (JK x) (JK y)=some (qeF x y)/\(qeF x y=true->x=y):=by
 have g:=qsj h;let⟨a,j⟩:=qeQ f;let⟨b,i⟩:=qeQ d;cases j;cases i;cases c with
 |str=>
   cases a<;>simp[ym]at f;cases b<;>simp[ym]at d;rename_i a b;refine⟨?_,?_,λ e=>?_⟩
   .show(Op.equalIn (n+1) t (.string a) (.string b)).run P w=_;rw[run_equalIn_string w n t a b g,toList_eq,toList_eq];rfl
   .rw[g];show some (a==b)=some (xeq a b);rw[beq_toListBytes,toList_eq,toList_eq];rfl
   .have:a.data.toList=b.data.toList:=by simpa[qeF,xeq]using e
    let⟨⟨a⟩⟩:=a;let⟨⟨b⟩⟩:=b;cases this;rfl
 |int k=>
   cases a with
   |int l a=>?_
   |_=>cases f
   cases b with
   |int kb b=>?_
   |_=>cases d
   simp[ym]at f d;subst f;subst d;refine⟨run_equalIn_int w n t _ _ a b g,?_,λ e=>?_⟩
   .rw[g];simp[Instr.sameNow,JK,qeF,ieq]
   .have:a=b:=by simpa[qeF,ieq]using e
    rw[this]
 |bool=>
   cases a<;>simp[ym]at f;cases b<;>simp[ym]at d;rename_i a b;refine⟨run_equalIn_bool w n t a b g,?_,λ e=>?_⟩
   .rw[g];rfl
   .have:a=b:=by simpa[qeF,Je]using e
    rw[this]
theorem qxe{t:TypeId}{c:KC}(h:kc1 P t=some c){x:AV}(b:ym [c] [x]=true)(f:Bool)(n:Nat):(Instr.checkKey f (n+1) t (JK x)).run P w=.ok () w:=by
 have d:=qsj h;let⟨a,e⟩:=qeQ b;cases e;unfold Instr.checkKey;cases c<;>cases a<;>simp[ym]at b<;>simp[run_underlying d,Result.andThen,JK]
theorem qz3{c:KC}{x:AV}(b:ym [c] [x]=true)(n:Nat):Instr.sameBits n (JK x) (JK x)=true:=by
 let⟨a,d⟩:=qeQ b;cases d;cases c<;>cases a<;>simp[ym]at b<;>simp[Instr.sameBits,JK,MapKept.bytes_beq]
theorem qr4{t:TypeId}{c:KC}(h:kc1 P t=some c){cs:Array Value}{o:Nat}{v:Value}(a:cs[o]?=some v):(part t cs o).run P w=.ok v w:=by
 have b:=qsj h;have:(isAgg t).run P w=.ok false w:=by cases c<;>simp[isAgg,underlying,b]
 simp[part,this,a]
theorem qz6:∀(k:List Field) (o:Nat) (d:List KC) (a b:List AV) (xs ys:Array Value) (n:Nat),kcs P k o=some d->ym d a=true->ym d b=true->(∀j x,a[j]?=some x->xs[o+j]?=some (JK x))->(∀j x,b[j]?=some x->ys[o+j]?=some (JK x))->
  (Op.eqFields (n+1) xs ys k).run P w=.ok (jy a b) w/\(jy a b=true->a=b)
 |[],o,d,a,b,xs,ys,n,h,s,r,_,_=>by
   cases h;cases a<;>cases b<;>first|exact⟨rfl,λ _=>rfl⟩|(cases s;done)|(cases r;done)
 |f::k,o,d,a,b,xs,ys,n,h,s,r,i,g=>by
   simp only[kcs]at h;split at h<;>cases h;rename_i c l D t C;let⟨B,A⟩:=of_decide_eq_true D;obtain⟨x,K,rfl,J,I⟩:=qep s;obtain⟨y,H,rfl,G,F⟩:=qep r;have p:=qr4 w t (i 0 x rfl);have m:=qr4 w t (g 0 y rfl);let⟨e1,_,E⟩:=qF3 w t J G n;let⟨z,v⟩:=qz6 k (o+1) l K H xs ys n C I F (λ j x q=>by rw[vB];exact i (j+1) x q) (λ j x q=>by rw[vB];exact g (j+1) x q);rw[wL]at p m;rw[<-B]at p m;refine⟨?_,λ e=>?_⟩
   .rw[Op.eqFields,if_pos A];simp only[Sem.run_bind,p,m,e1,Result.andThen_ok,Sem.run_ite];cases u:qeF x y with
    |true=>simp only[waw,xo,if_false,z,jy,u,kg]
    |false=>simp only[vd,if_true,Sem.run_pure,jy,u,kV]
   .simp only[jy,wc]at e;rw[E e.1,v e.2]
theorem qra:∀(g:List Field) (o:Nat) (e:List KC) (a:List AV) (xs:Array Value) (d:Bool) (n:Nat),kcs P g o=some e->ym e a=true->(∀j x,a[j]?=some x->xs[o+j]?=some (JK x))->
  (forIn (m:=Sem) g PUnit.unit λ f _=>do
   if f.name≠"_" then Instr.checkKey d (n+1) f.type (<-part f.type xs f.offset)
   pure (ForInStep.yield PUnit.unit)).run P w=.ok PUnit.unit w
 |[],o,e,a,xs,d,n,h,i,_=>rfl
 |f::g,o,e,a,xs,d,n,h,i,b=>by
   simp only[kcs]at h;split at h<;>cases h;rename_i c l t k s;let⟨r,z⟩:=of_decide_eq_true t;obtain⟨x,y,rfl,v,u⟩:=qep i;have p:=qr4 w k (b 0 x rfl);rw[wL,<-r]at p;have e1:=qxe w k v d n;have:=qra g (o+1) l y xs d n s u λ j x q=>by rw[vB];exact b (j+1) x q
   simp_all
theorem qmE{t:TypeId}{a:List KC}{b:Bool}{k:List AV}(h:qjn P t=some (a,b))(d:ym a k=true)(f:Bool)(n:Nat):(Instr.checkKey f (n+2) t (Q9 b k)).run P w=.ok () w:=by
 cases b with
 |false=>
   obtain⟨c,rfl,e⟩:=qlE h;obtain⟨x,rfl⟩:=qeQ d;exact qxe w e d f (n+1)
 |true=>
   let⟨l,e,m,i⟩:=qtH h;have:=qra w l.toList 0 a k (k.map JK).toArray f n i d λ j x g=>by simp[g]
   unfold Instr.checkKey;simp only[Sem.run_bind,run_underlying e,Result.andThen_ok,Q9];simp_all
theorem qMV{t:TypeId}{a:List KC}{b:Bool}{k:List AV}(h:qjn P t=some (a,b))(d:ym a k=true):(Instr.keyThatStays (Q9 b k) (Q9 b k)).run P w=.ok (Q9 b k) w:=by
 have all:∀(a:List KC) (k:List AV) (n:Nat),ym a k=true->((k.map JK).zip (k.map JK)).all (λ p=>Instr.sameBits n p.1 p.2)=true:=by
  intro a
  induction a with
  |nil=>intro k n d;cases k<;>first|rfl|cases d
  |cons c a e=>
    intro k n d;obtain⟨x,r,rfl,i,g⟩:=qep d;simp only[wo,List.zip_cons_cons,km,qz3 i,kg];exact e r n g
 have f:Instr.sameBits 10000 (Q9 b k) (Q9 b k)=true:=by
  cases b with
  |false=>
    obtain⟨c,rfl,j⟩:=qlE h;obtain⟨x,rfl⟩:=qeQ d;exact qz3 d _
  |true=>
    show((k.map JK).toArray.size==(k.map JK).toArray.size&&((k.map JK).zip (k.map JK)).all λ p=>Instr.sameBits 9999 p.1 p.2)=true;rw[all a k 9999 d];simp
 simp[Instr.keyThatStays,f]
theorem qGt{t:TypeId}{m:List KC}{d:Bool}{k:List AV}(h:qjn P t=some (m,d))(o:ym m k=true):∀(ks:List (List AV)) (es:List MapEntry) (i:Nat),es.length=ks.length->(∀(j:Nat) (g:List AV) (e:MapEntry),ks[j]?=some g->es[j]?=some e->e.key=Q9 d g/\ym m g=true)->
  (JV k ks i=none/\(if d then(Instr.findAsking t (Q9 d k) es i).run P w=.ok none w else Instr.findNow ((P.underlying t).getD .bool) (Q9 d k) es i=some none))\/
  ∃j e,JV k ks i=some (i+j)/\es[j]?=some e/\e.key=Q9 d k/\(if d then(Instr.findAsking t (Q9 d k) es i).run P w=.ok (some (i+j,e.val)) w else Instr.findNow ((P.underlying t).getD .bool) (Q9 d k) es i=some (some (i+j,e.val)))
 |[],es,i,l,_=>by
   have:es=[]:=wi l;subst this;refine .inl ⟨rfl,?_⟩;cases d<;>rfl
 |g::ks,[],i,l,_=>by simp at l
 |g::ks,e::es,i,l,A=>by
   let⟨D,v⟩:=A 0 g e rfl rfl;have J:=qGt h o ks es (i+1) (by simpa using l) λ j s z a b=>A (j+1) s z a b
   have f:(if d then(Op.equal t (Q9 d k) e.key).run P w=.ok (jy k g) w else Instr.sameNow ((P.underlying t).getD .bool) (Q9 d k) e.key=some (jy k g))/\(jy k g=true->k=g):=by
    rw[D];cases d with
    |false=>
      obtain⟨c,rfl,q⟩:=qlE h;obtain⟨x,rfl⟩:=qeQ o;obtain⟨y,rfl⟩:=qeQ v;let⟨_,e1,N⟩:=qF3 w q o v 0;refine⟨?_,λ C=>?_⟩
      .simp only[xo,if_false];rw[jy,jy,xh];exact e1
      .rw[jy,jy,xh]at C;rw[N C]
    |true=>
      let⟨E,q,L,K⟩:=qtH h;have B:P.fieldsOf t=E:=by unfold Program.fieldsOf;rw[q]
      let⟨I,H⟩:=qz6 w E.toList 0 m k g (k.map JK).toArray (g.map JK).toArray 9998 K o v (λ j x u=>by simp[u]) (λ j x u=>by simp[u]);refine⟨?_,H⟩;simp only[if_true];show(Op.equalIn (9999+1) t (.agg _) (.agg _)).run P w=_;rw[run_equalIn_struct w 9999 t _ _ (by rw[B];exact q) L,B];exact I
   cases p:jy k g with
   |true=>
     rw[p]at f;refine .inr ⟨0,e,by simp[JV,p],rfl,by rw[D,f.2 rfl],?_⟩;cases d with
     |false=>have:=f.1;simp only[xo,if_false]at this |-;simp[Instr.findNow,this]
     |true=>have:=f.1;simp only[if_true]at this |-;simp[Instr.findAsking,this]
   |false=>
     rw[p]at f;have M:JV k (g::ks) i=JV k ks (i+1):=by simp[JV,p]
     have Q:∀r,(if d then(Instr.findAsking t (Q9 d k) es (i+1)).run P w=.ok r w else Instr.findNow ((P.underlying t).getD .bool) (Q9 d k) es (i+1)=some r)->(if d then(Instr.findAsking t (Q9 d k) (e::es) i).run P w=.ok r w else Instr.findNow ((P.underlying t).getD .bool) (Q9 d k) (e::es) i=some r):=by
      intro r n;cases d with
      |false=>have:=f.1;simp only[xo,if_false]at this n |-;simp[Instr.findNow,this,n]
      |true=>have:=f.1;simp only[if_true]at this n |-;simp[Instr.findAsking,this,n]
     obtain⟨G,F⟩|⟨j,z,G,F,O,R⟩:=J
     .grind
     .refine .inr ⟨j+1,z,by rw[M,G];congr 1;omega,F,O,?_⟩;grind
theorem qxj{t:TypeId}{g:List KC}{a:Bool}{k:List AV}(h:qjn P t=some (g,a))(q:ym g k=true){ks:List (List AV)}{es:List MapEntry}(o:es.length=ks.length)(r:∀(j:Nat) (i:List AV) (e:MapEntry),ks[j]?=some i->es[j]?=some e->e.key=Q9 a i/\ym g i=true):
  (JV k ks 0=none/\(Instr.findKey t (Q9 a k) es).run P w=.ok none w)\/∃j e,JV k ks 0=some j/\es[j]?=some e/\e.key=Q9 a k/\(Instr.findKey t (Q9 a k) es).run P w=.ok (some (j,e.val)) w:=by
 have b:=qGt w h q ks es 0 o r;cases a with
 |false=>
   obtain⟨c,rfl,f⟩:=qlE h;have l:=qsj f;simp only[xo,if_false,wD]at b;rw[l]at b;obtain⟨n,m⟩|⟨j,e,n,m,u,s⟩:=b
   .exact .inl ⟨n,MapKept.run_findKey l m⟩
   .exact .inr ⟨j,e,n,m,u,MapKept.run_findKey l s⟩
 |true=>
   let⟨y,f,x,v⟩:=qtH h;simp only[if_true,wD]at b
   have p:∀e d,es=e::d->(Instr.findKey t (Q9 true k) es).run P w=(Instr.findAsking t (Q9 true k) es 0).run P w:=by
    rintro e d rfl;simp[Instr.findKey,run_underlying f,Result.andThen,Instr.findNow,Instr.sameNow]
   cases es with
   |nil=>
     have:ks=[]:=wi o.symm;subst this;exact .inl ⟨rfl,by simp[Instr.findKey,run_underlying f,Result.andThen,Instr.findNow]⟩
   |cons e es=>
     rw[p e es rfl];exact b
end
section
variable {P:Program}{C:Cfg}{Γ:Gh}{σ:St}{w:World}{o:Oper}{tm:List AV}{ρ:Operand->Value}{x:AV}{σ':Option St}
theorem qdH{a b:Bool}(h:Je a b=true):a=b:=by cases a<;>cases b<;>first|rfl|cases h
theorem qse{c:List KC}{d a:Bool}{y:AV}{b:Nat}{ks vs:List (List AV)}(h:qpR σ c d a y=some (b,ks,vs)):y=.mp b/\σ.bx[b]?=some [.mc c d a ks vs]:=by
 unfold qpR at h;split at h<;>try cases h
 split at h<;>try cases h
 rename_i f;split at h<;>cases h;rename_i e;rw[wc,wc]at e;let⟨j,i,g⟩:=e;rw[of_decide_eq_true j,qdH i,qdH g]at f;exact⟨rfl,f⟩
theorem qDM{b:Nat}{u:Value}(h:Rep Γ (.mp b) u):u=.map (some (Γ.β b))/\b<Γ.nb:=by cases h;exact⟨rfl,‹_›⟩
theorem qJr{a:List KC}{b:Bool}{y:AV}(h:qpI a b y=true):ym a (cellsOf y)=true/\QJ b (cellsOf y)=y:=by
 unfold qpI at h;rw[wc]at h;refine⟨h.2,?_⟩;rw[<-qdH h.1];cases y with
 |agg cs=>rfl
 |tup vs=>have:=qvY _ _ h.2 (.tup vs) (wF.2 rfl);cases this
 |_=>rfl
theorem qQx{a:Bool}{b:Nat}{y:AV}(h:qvg a b y=true):QJ a (cellsOf y)=y/\(cellsOf y).all qu=true:=by
 unfold qvg at h;rw[wc,wc]at h;refine⟨?_,h.2⟩;rw[<-qdH h.1.1];cases y with
 |agg cs|_=>rfl
theorem qc1.keys{g:List KC}{f l:Bool}{ks vs:List (List AV)}{b:Nat}{t:TypeId}(h:qc1 Γ w b g f l ks vs)(m:qjn P t=some (g,f)):∃es d,w.heap[b]?=some (.map es d)/\es.size=ks.length/\∀(j:Nat) (k v:List AV) (e:MapEntry),ks[j]?=some k->vs[j]?=some v->es[j]?=some e->qIe Γ g f l k v e/\e.key=Q9 f k:=by
 let⟨p,es,d,o,n,i⟩:=h;exact⟨es,d,o,n,λ j k v e a b c=>⟨i j k v e a b c,qxX (qx5 m (i j k v e a b c).2.2.1) (i j k v e a b c).1⟩⟩
theorem qB4(k:List AV):∀(ks:List (List AV)) (i j:Nat),JV k ks i=some j->i<=j/\j<i+ks.length
 |[],i,j,h=>by cases h
 |e::es,i,j,h=>by
   simp only[JV]at h;split at h
   .cases h;simp
   .have:=qB4 k es (i+1) j h;simp;omega
theorem qGL(m:∀t d,C.ty t=some d->yO P t=some d)(f:Inv Γ σ w)(t:TypeId)(r:Option Operand)(a:o.op=.makeMap t r)(h:qc C tm σ o.op=some (x,σ')):QN P Γ σ w o ρ x σ':=by
 rw[a]at h;cases r with
 |some r=>simp[qc]at h
 |none=>
   simp only[qc]at h;split at h<;>cases h;rename_i c e b k j l;let⟨Γ',e1,i,g⟩:=qJe f c e b;exact⟨.value (.map (some w.heap.size)),_,_,Γ',by simp[execOp,a,Instr.makeMap],.inl rfl,e1,i,g⟩
theorem qFY{f:List KC}{d g:Bool}{ks vs:List (List AV)}{es:Array MapEntry}(i:vs.length=ks.length)(h:∀(j:Nat) (k v:List AV) (e:MapEntry),ks[j]?=some k->vs[j]?=some v->es[j]?=some e->qIe Γ f d g k v e/\e.key=Q9 d k):∀(j:Nat) (c:List AV) (e:MapEntry),ks[j]?=some c->es.toList[j]?=some e->e.key=Q9 d c/\ym f c=true:=λ j c e a b=>by
 have l:=(List.getElem?_eq_some_iff.1 a).1;have:=h j c _ e a (List.getElem?_eq_getElem (by omega)) (by simpa using b);exact⟨this.2,this.1.2.2.1⟩
theorem qJ5(hC:∀t d,C.ty t=some d->yO P t=some d)(J:Inv Γ σ w)(g:∀y,Rep Γ (aev tm y) (ρ y))(t:TypeId)(m k:Operand)(p:Bool)(E:o.op=.lookup t m k p)(h:qc C tm σ o.op=some (x,σ')):QN P Γ σ w o ρ x σ':=by
 rw[E]at h;simp only[qc]at h;split at h<;>try cases h
 rename_i kc ka M vn V hd;split at h<;>try cases h
 rename_i b ks vs hm R;split at h<;>cases h;rename_i v q i;simp only[wc,decide_eq_true_eq]at R;let⟨hk,⟨hz,_⟩,aa⟩:=R;let⟨H,G⟩:=qse hm;let⟨r,k2⟩:=qJr hk;let⟨_,ud,z0,p1,Q,p3,p4,p5,p6,p7,p8⟩:=waJ (hC t _ hd);obtain⟨kt,et,ie,l,rfl,f,Z,Y,X,O⟩:=qCB p8;have S:qc1 Γ w (Γ.β b) kc ka M ks vs:=J.box b _ G;let⟨es,K,T,g2,g3⟩:=S.keys f;have F:=(qDM (H▸g m)).1;have I:=qxX (qx5 f r) (k2.symm▸g k)
 have B:Rep Γ (QJ M (V.map .v)) l:=by
  let⟨A,U⟩:=qeo (Γ:=Γ) hz;subst X;cases l with
  |agg cs=>subst O;exact .agg _ _ A.len U A.rep
  |_=>subst O;exact A.rep 0 _ _ rfl rfl
 have a:(zeroValue et).run P w=.ok l w:=by simp[zeroValue,typeInfo,Z,Y]
 have c:∃u,(Instr.lookup t (ρ m) (ρ k) p).run P w=.ok (if p then .tuple #[u,.bool q]else u) w/\Rep Γ v u:=by
  rw[F,I];have s:es.toList.length=ks.length:=by simpa using g2
  obtain⟨z,L⟩|⟨j,e,z,L,a3,a4⟩:=qxj w f r s (qFY S.len g3)
  .simp only[qsV,z,wz,wI]at i;obtain⟨rfl,rfl⟩:=i;refine⟨l,?_,B⟩;simp[Instr.lookup,run_underlying Q,MapKept.run_getObj_map T,qmE w f r _ 9998,L,a,Result.andThen]
  .simp only[qsV,z]at i;split at i<;>cases i;rename_i W D;have ab:=qB4 _ _ _ _ z;let⟨n,_⟩:=g3 j _ W e (List.getElem?_eq_getElem (by omega)) D (by simpa using L);refine⟨e.val,?_,n.2.1⟩;simp[Instr.lookup,run_underlying Q,MapKept.run_getObj_map T,qmE w f r _ 9998,a4,Result.andThen]
 let⟨u,n,N⟩:=c;cases p with
 |false=>exact .val (by simp[execOp,E,n]) J N
 |true=>
   have s:=(waK N (waK (.v (.bool q) rfl) .nil):RepL Γ [v,.v (.bool q)] [u,.bool q])
   exact .val (by simp[execOp,E,n]) J (.tup _ _ s.len s.rep)
theorem qzy(hC:∀t d,C.ty t=some d->yO P t=some d)(hi:Inv Γ σ w)(n:∀y,Rep Γ (aev tm y) (ρ y))(t:TypeId)(m k y:Operand)(M:o.op=.mapUpdate t m k y\/o.op=.insert t m k y)(h:qcO C tm σ t m k y=some (x,σ')):QN P Γ σ w o ρ x σ':=by
 unfold qcO at h;split at h<;>try cases h
 rename_i Q A L vn vz hd;split at h<;>cases h;rename_i b ks vs hm V;rw[wc]at V;let⟨S,G⟩:=qse hm;let⟨v,k2⟩:=qJr V.1;let⟨v1,Z⟩:=qQx V.2;let⟨_,ud,z0,p1,p2,p3,p4,p5,p6,p7,p8⟩:=waJ (hC t _ hd);obtain⟨kt,et,ie,ze,rfl,s,q3,q4,q5,q6⟩:=qCB p8;have J:qc1 Γ w (Γ.β b) Q A L ks vs:=hi.box b _ G;let⟨es,a,l,N,g3⟩:=J.keys s;have F:=(qDM (S▸n m)).1;have H:Rep Γ (QJ A (cellsOf (aev tm k))) (ρ k):=k2.symm▸n k;have B:Rep Γ (QJ L (cellsOf (aev tm y))) (ρ y):=v1.symm▸n y;have q:=qxX (qx5 s v) H;have hl:es.toList.length=ks.length:=by simpa using N
 have aa:=(Array.getElem?_eq_some_iff.1 l).1
 have K:∀ob,(Instr.mapUpdate t (ρ m) (ρ k) (ρ y)).run P w=.ok () {w with heap:=w.heap.setIfInBounds (Γ.β b) ob}->(∀f vs',qhi ks vs (cellsOf (aev tm k)) (cellsOf (aev tm y))=(f,vs')->QF Γ {w with heap:=w.heap.setIfInBounds (Γ.β b) ob} b [.mc Q A L f vs'])->
   QN P Γ σ w o ρ (.tup []) (some {σ with bx:=σ.bx.set b [.mc Q A L (qhi ks vs (cellsOf (aev tm k)) (cellsOf (aev tm y))).1 (qhi ks vs (cellsOf (aev tm k)) (cellsOf (aev tm y))).2],wr:=b::σ.wr}):=by
  intro ob D W;let⟨e1,e2⟩:=qvt hi G (b::σ.wr) _ (W _ _ rfl) (λ k hk=>(MapKept.heap_set l).2 k hk) rfl rfl rfl (by simp) (wa _);refine⟨.skip,undef,_,Γ,?_,.inr ⟨rfl,rfl⟩,e1,e2,.tup [] [] rfl λ i x u hx=>by simp at hx⟩;obtain M|M:=M<;>simp[execOp,M,D]
 obtain⟨Y,O⟩|⟨j,e,Y,O,X,a4⟩:=qxj w s v hl (qFY J.len g3)
 .refine K (.map (es.push {key:=ρ k,val:=ρ y,born:=a}) (a+1)) ?_ λ f vs' E=>?_
  .rw[F];have:=qmE w s v false 9998;rw[<-q]at O this;simp[Instr.mapUpdate,run_underlying p2,MapKept.run_getObj_map l,this,O,MapKept.run_setObj_map _ l,Result.andThen]
  .simp only[qhi,Y,wI]at E;obtain⟨rfl,rfl⟩:=E;refine⟨by simp[J.len],_,_,(MapKept.heap_set l).1,by simp[N],λ j R v' e' g c z=>?_⟩;have p:=J.len;by_cases hj:j<ks.length
   .grind
   .have T:j=ks.length:=by
      grind
    subst T;rw[List.getElem?_append_right (wa _),kL]at g;rw[List.getElem?_append_right (by omega),p,kL]at c;rw[<-N,Array.getElem?_push_size]at z;cases g;cases c;cases z;exact⟨H,B,v,Z⟩
 .have r:es[j]?=some e:=by simpa using O
  refine K (.map (es.modify j λ e=>{e with key:=ρ k,val:=ρ y}) a) ?_ λ f vs' E=>?_
  .rw[F];have g:=qmE w s v false 9998;have c:=qMV w s v;rw[<-q]at a4 g c X;simp[Instr.mapUpdate,run_underlying p2,MapKept.run_getObj_map l,g,a4,r,X,c,MapKept.run_setObj_map _ l,Result.andThen]
  .simp only[qhi,Y,wI]at E;obtain⟨rfl,rfl⟩:=E;have p:=J.len;refine⟨by simp[p],_,_,(MapKept.heap_set l).1,by simp[N],λ i R v' e' g c z=>?_⟩;rw[Array.getElem?_modify]at z;rw[List.getElem?_set]at c;by_cases U:j=i
   .subst U;rw[if_pos rfl,r]at z;rw[if_pos rfl]at c;split at c<;>cases c;cases z;let⟨r1,r2⟩:=g3 j R _ e g (List.getElem?_eq_getElem (by have:=(List.getElem?_eq_some_iff.1 g).1;omega)) r;refine⟨?_,B,r1.2.2.1,Z⟩;show Rep Γ (QJ A R) (ρ k);rw[q,<-X];exact r1.1
   .grind
end
end Go.AmZ
namespace Go.AmZ
open Go Go.RowKit
section
variable {σ:St}
theorem qtN(l:List (List AV)):qO σ {σ with bx:=σ.bx++l}:=
 ⟨by simp,wa _,λ i a _=>List.getElem?_append_left a,λ _ _ _=>rfl,λ _ h=>h,λ _ h=>h⟩
theorem qzO(b:Nat)(cs:List AV):qO σ {σ with bx:=σ.bx.set b cs,wr:=b::σ.wr}:=
 ⟨by simp,wa _,λ i c a=>List.getElem?_set_ne λ e=>a (by simp[e]),λ _ _ _=>rfl,λ _ h=>wg _ h,λ _ h=>h⟩
theorem qrd(a:List Nat):qO σ {σ with rw:=frz σ.rw a,wrr:=a++σ.wrr}:=
 ⟨wa _,by simp[qFS],λ _ _ _=>rfl,λ i c b=>qnY _ _ _ λ h=>b (vl _ h),λ _ h=>h,λ _ h=>vc _ h⟩
theorem quq(l:List Row):qO σ {σ with rw:=σ.rw++l}:=
 ⟨wa _,by simp,λ _ _ _=>rfl,λ i a _=>List.getElem?_append_left a,λ _ h=>h,λ _ h=>h⟩
theorem qrx(r:Nat)(R:Row):qO σ {σ with rw:=σ.rw.set r R,wrr:=r::σ.wrr}:=
 ⟨wa _,by simp,λ _ _ _=>rfl,λ i b a=>List.getElem?_set_ne λ e=>a (by simp[e]),λ _ h=>h,λ _ h=>wg _ h⟩
end
theorem qrw{C:Cfg}{tm:List AV}{σ σ':St}{t:Nat}{m k y:Operand}{x:AV}(h:qcO C tm σ t m k y=some (x,some σ')):qO σ σ':=by
 unfold qcO at h;split at h<;>try cases h
 split at h<;>cases h;exact qzO _ _
theorem qHW{C:Cfg}{tm:List AV}{σ:St}{op:Op}{x:AV}{σ':Option St}(h:qc C tm σ op=some (x,σ')):qO σ (turn σ σ'):=by
 cases σ' with
 |none=>exact .refl σ
 |some σ'=>
   show qO σ σ';cases op with
   |alloc e=>
     simp only[qc]at h;split at h<;>try cases h
     split at h<;>cases h;exact qtN _
   |box e y=>
     simp only[qc]at h;split at h<;>try cases h
     split at h<;>cases h;exact qtN _
   |store t a y=>
     simp only[qc]at h;split at h<;>try cases h
     .split at h<;>try cases h
      split at h<;>cases h;exact qzO _ _
     .split at h<;>try cases h
      split at h<;>cases h;exact qrx _ _
   |convert s t y=>
     simp only[qc]at h;split at h<;>try cases h
     .split at h<;>cases h;exact quq _
     .split at h<;>try cases h
      split at h<;>cases h
   |makeSlice t a y=>
     simp only[qc]at h;split at h<;>try cases h
     split at h<;>try cases h
     split at h<;>cases h;exact quq _
   |buildSlice t n ps=>
     simp only[qc]at h;split at h<;>try cases h
     split at h<;>try cases h
     split at h<;>cases h;exact qrd _
   |slice t y lo b m=>
     cases m with
     |some m=>simp[qc]at h
     |none=>
       simp only[qc]at h
       repeat' (first|(cases h;done)|(cases h;exact qrx _ _)|split at h)
   |makeMap t m=>
     cases m<;>simp only[qc]at h<;>try cases h
     split at h<;>cases h;exact qtN _
   |mapUpdate t m k y|insert t m k y=>exact qrw h
   |makeFunc f c cs=>
     cases f<;>simp only[qc]at h<;>(repeat' (first|(cases h;done)|split at h))
   |_=>
     simp only[qc]at h
     repeat' (first|(cases h;done)|split at h)
theorem qq2{k bytes:Nat}{σ:St}{s:AV}{xs:List (List AV)}{x:AV}{σ':Option St}(h:yf k bytes σ s xs=some (x,σ')):qO σ (turn σ σ'):=by
 unfold yf at h
 repeat' (first|(cases h;done)|(cases h;first|exact .refl _|exact quq _|exact qrx _ _)|split at h)
def qQd(P:Program)(Γ:Gh)(σ:St)(w:World)(o:Oper)(a:Act)(x:AV)(σ':Option St):Prop:=
 ∀next Q,(∀u w' Γ',Ext Γ w Γ' w'->Inv Γ' (turn σ σ') w'->Rep Γ' x u->qO σ (turn σ σ')->next (a.put o.dst u) w')->o.wp P a w next Q
theorem QN.wp{P:Program}{Γ:Gh}{σ:St}{w:World}{o:Oper}{a:Act}{x:AV}{σ':Option St}(h:QN P Γ σ w o a.eval x σ')(c:qO σ (turn σ σ')):qQd P Γ σ w o a x σ':=by
 let⟨j,u,w',Γ',i,g,f,e,d⟩:=h;intro next Q b
 unfold Oper.wp;rw[i];obtain rfl|⟨rfl,rfl⟩:=g
 .exact b _ _ _ f e d c
 .exact b _ _ _ f e d c
section
variable {P:Program}{C:Cfg}{Γ:Gh}{σ:St}{w:World}{o:Oper}{tm:List AV}{ρ:Operand->Value}{x:AV}{σ':Option St}
theorem qQK(p:∀t d,C.ty t=some d->yO P t=some d)(l:Inv Γ σ w)(g:∀y,Rep Γ (aev tm y) (ρ y))(h:qc C tm σ o.op=some (x,σ')):QN P Γ σ w o ρ x σ':=by
 cases j:o.op with
 |move y=>rw[j]at h;simp only[qc,wz,wI]at h;obtain⟨rfl,rfl⟩:=h;exact qGi l g y (.inl j)
 |assign y=>rw[j]at h;simp only[qc,wz,wI]at h;obtain⟨rfl,rfl⟩:=h;exact qGi l g y (.inr j)
 |pick c a b=>exact qN2 l g c a b j h
 |alloc e=>exact qMe p l e j h
 |box e y=>exact qPQ l g e y j h
 |build t ps=>exact qLW p l g t ps j h
 |buildSlice t n ps=>exact qAW p l g t n ps j h
 |load t y=>exact qND p l g t y j h
 |store t y z=>exact qKH p l g t y z j h
 |nilCheck y=>exact qOX l g y j h
 |binOp op t y z v=>exact qPp p l g op t y z v j h
 |unOp op t y=>exact qQP l g op t y j h
 |convert s t y=>exact qOy p l g s t y j h
 |makeFunc f A cs=>exact qQJ l g f A cs j h
 |slice t y lo u m=>
   exact qMz p l g t y lo u m j h
 |fieldAddr t y i=>exact qBK p l g t y i j h
 |field t y i=>exact qLF p l g t y i j h
 |indexAddr t y i=>exact qDV p l g t y i j h
 |index t y i=>exact qKw p l g t y i j h
 |extract y i=>exact qH7 l g y i j h
 |makeSlice t y z=>exact qOj p l g t y z j h
 |makeMap t r=>exact qGL p l t r j h
 |lookup t m k q=>exact qJ5 p l g t m k q j h
 |mapUpdate t m k y=>rw[j]at h;exact qzy p l g t m k y (.inl j) h
 |insert t m k y=>rw[j]at h;exact qzy p l g t m k y (.inr j) h
 |_=>rw[j]at h;simp only[qc]at h;cases h
theorem qGS{k:TK}(h:qkM k=true):k=.string:=by cases k<;>first|rfl|(simp[qkM]at h)
theorem qJU{k:TK}(h:qcL k=true):∃e s b z,k=.slice e s b z:=by
 cases k<;>first|exact⟨_,_,_,_,rfl⟩|(simp[qcL]at h)
theorem qPR{d:TD}{t ty:TypeId}{ts:Array TypeId}(E:ts[0]?=some t)(I:yO P t=some d){y:AV}{u:Value}(A:Rep Γ y u){n:Nat}(h:qio d y=some n):(Builtin.len_ ts ty #[u]).run P w=.ok (.int .i64 n) w:=by
 let⟨i,q,z,R,C,Q,O,N,M,L,B⟩:=waJ I;have x:qkM d.k=true->q=.string:=λ h=>qgD (by rw[B,qGS h])
 have sl:qcL d.k=true->∃e,q=.slice e:=λ h=>by
  let⟨e,s,b,z,D⟩:=qJU h;exact⟨e,(qa1 (by rw[B,D])).1⟩
 have j:∀e,q=.slice e->∀a m c,u=.slice a m c->(Builtin.len_ ts ty #[u]).run P w=.ok (.int .i64 m) w:=by
  intro e p a m c F;subst F;simp[Builtin.len_,E,underlying,C,p,goInt]
 cases A with
 |v y S=>
   simp only[qio]at h;split at h
   .rename_i s l;cases l;split at h<;>cases h;rename_i g;simp[Builtin.len_,E,underlying,C,x g,goInt,qpO]
   .rename_i l;cases l;split at h<;>cases h;rename_i g;let⟨e,p⟩:=sl g;exact j e p _ _ _ rfl
   .rename_i l;cases l
   .rename_i l;cases l
   .cases h
 |sl k es f a m cap b o us G J H D T K W U A=>
   simp only[qio]at h;split at h<;>cases h;rename_i g;let⟨e,p⟩:=sl g;rw[j e p _ _ _ rfl,G];rfl
 |rs r lo m X f a cap A J H V=>
   simp only[qio]at h;split at h<;>cases h;rename_i g;let⟨e,p⟩:=sl g;exact j e p _ _ _ rfl
 |_=>simp only[qio]at h;cases h
theorem qOl(l:Inv Γ σ w){d:TD}{t ty:TypeId}{ts:Array TypeId}(p:ts[0]?=some t)(m:yO P t=some d){y:AV}{u:Value}(f:Rep Γ y u){n:Nat}(h:qHp d.k σ y=some n):(Builtin.len_ ts ty #[u]).run P w=.ok (.int .i64 n) w:=by
 let⟨i,v,z,E,e,D,C,B,A,x,c⟩:=waJ m;unfold qHp at h;split at h<;>try cases h
 rename_i j;split at h<;>cases h;rename_i b ks vs g;obtain⟨rfl,o⟩:=qse g;rw[j]at c;obtain⟨F,H,G,s,rfl,_⟩:=qCB c;let⟨_,es,a,r,q,_⟩:=l.box b _ o;rw[(qDM f).1];simp[Builtin.len_,p,underlying,e,goInt,MapKept.run_getObj_map r,q]
theorem qQL(E:∀t d,C.ty t=some d->yO P t=some d)(m:Inv Γ σ w){b:Builtin}{ts:Array TypeId}{ty:TypeId}{cs:Array Bool}{l:List AV}{j:List Value}(D:RepL Γ l j)(h:jz C σ b ts l=some (x,σ')):
  (∃v w' Γ',(builtin b ts ty cs j.toArray).run P w=.ok (.value v) w'/\Ext Γ w Γ' w'/\Inv Γ' (turn σ σ') w'/\Rep Γ' x v)/\qO σ (turn σ σ'):=by
 unfold jz at h;split at h
 .rename_i y;obtain⟨u,r,rfl,i,f⟩:=D.uncons;rw[f.nil_inv];split at h<;>try cases h
  rename_i t B;split at h<;>try cases h
  rename_i d q;split at h
  .cases h;rename_i n H;exact⟨⟨_,w,Γ,by simp[builtin,Sem.run_bind',qPR B (E t d q) i H],.refl _ _,m,.v _ rfl⟩,.refl _⟩
  .split at h<;>cases h;rename_i n H;exact⟨⟨_,w,Γ,by simp[builtin,Sem.run_bind',qOl m B (E t d q) i H],.refl _ _,m,.v _ rfl⟩,.refl _⟩
 .rename_i s y;obtain⟨u,r,rfl,p,f⟩:=D.uncons;obtain⟨L,M,rfl,i,c⟩:=f.uncons;rw[c.nil_inv];split at h<;>try cases h
  rename_i t S B A;split at h<;>try (cases h;done)
  .rename_i q1 Z Y X e k Q z W V U T e' N b' R q o;split at h<;>try cases h
   rename_i g;simp only[wc,decide_eq_true_eq]at g;split at h<;>try cases h
   rename_i xs G;split at h<;>try cases h
   rename_i O;let⟨v,w',Γ',K,J,g3,I⟩:=qzv (ty:=ty) E m p i B A q o g.1 g.2 G O h;refine⟨⟨v,w',Γ',by simp[builtin,Sem.run_bind',K],J,g3,I⟩,?_⟩;exact qq2 h
  .rename_i q o;split at h<;>try (cases h;done)
   rename_i b g;simp only[wc,decide_eq_true_eq]at g;have F:=zq i;subst F;let⟨v,w',Γ',K,J,g3,I⟩:=qAI (ty:=ty) E m p B A q o g.1 h;refine⟨⟨v,w',Γ',by simp[builtin,Sem.run_bind',K],J,g3,I⟩,?_⟩;exact qq2 h
 .rename_i k a N b;obtain⟨u,r,rfl,p,f⟩:=D.uncons;obtain⟨L,M,rfl,i,c⟩:=f.uncons;rw[c.nil_inv,zq p,zq i];split at h<;>cases h;rename_i g;have g:=of_decide_eq_true g;subst g;exact⟨⟨_,w,Γ,by simp[builtin,Sem.run_bind',Builtin.max_,Builtin.max2,qnw],.refl _ _,m,.v _ rfl⟩,.refl _⟩
 .rename_i k a N b;obtain⟨u,r,rfl,p,f⟩:=D.uncons;obtain⟨L,M,rfl,i,c⟩:=f.uncons;rw[c.nil_inv,zq p,zq i];split at h<;>cases h;rename_i g;have g:=of_decide_eq_true g;subst g;exact⟨⟨_,w,Γ,by simp[builtin,Sem.run_bind',Builtin.min_,Builtin.min2,qM7],.refl _ _,m,.v _ rfl⟩,.refl _⟩
 .cases h
end
end Go.AmZ
namespace Go.AmZ
open Go Go.RowKit
def Ji(P:Program)(Γ:Gh)(σ:St)(w:World)(f:FuncId)(a:List Value)(r:AV×Option St):Prop:=
 Calls P f a.toArray w λ e w'=>∃v Γ',e=.returned v/\Ext Γ w Γ' w'/\Inv Γ' (turn σ r.2) w'/\Rep Γ' r.1 v/\qO {σ with wr:=[],wrr:=[]} (turn {σ with wr:=[],wrr:=[]} r.2)
def qgs(P:Program)(f:FuncId):Prop:=∃fn,P.funcs[f]?=some fn/\fn.body.isNone=false/\(fn.name=="runtime.NumGoroutine")=false
def qU(P:Program)(f:FuncId)(p:St->List AV->Option (AV×Option St)):Prop:=
 qgs P f/\∀Γ σ w b a r,Inv Γ σ w->RepL Γ b a->p σ b=some r->Ji P Γ σ w f a r
structure yq (P:Program) (C:Cfg):Prop where
 mixed:P.follows .mixedOrders=true
 ty:∀t d,C.ty t=some d->yO P t=some d
 fn:∀f fn,C.fn f=some fn->P.funcs[f]?=some fn/\(fn.name=="runtime.NumGoroutine")=false/\∀c,fn.body=some c->Qc c=true
 prim:∀f p,C.prim f=some p->qU P f p
 inl:∀f fn,C.inl f=some fn->P.funcs[f]?=some fn/\(fn.name=="runtime.NumGoroutine")=false/\∀c,fn.body=some c->Qc c=true
theorem qir{P:Program}{f:FuncId}(h:qgs P f)(a:Array Value)(w:World):(callFunc f a).run P w=.ok (.enter f a) w:=by
 let⟨fn,e,d,c⟩:=h;have b:(program).run P w=.ok P w:=rfl;unfold callFunc;simp only[Sem.run_bind,b,Result.andThen_ok,e,c,d,xo,if_false];rfl
abbrev zw(Γ:Gh)(b:List AV)(a:Act):Prop:=RepL Γ b a.tmps.toList
theorem zw.get{Γ:Gh}{b:List AV}{a:Act}(h:zw Γ b a)(t:Nat):Rep Γ (b.getD t .dead) (a.tmps.getD t undef):=by
 rw[List.getD_eq_getElem?_getD];cases d:b[t]? with
 |none=>exact .dead _
 |some x=>
   let⟨u,c,e⟩:=RepL.get h d
   have:a.tmps.getD t undef=u:=by
    rw[Array.getElem?_toList]at c;simp[wJ,c]
   rw[this];exact e
theorem qOr(Γ:Gh)(y:Value):Rep Γ (ofC y) y:=by
 unfold ofC;split
 .rename_i h;exact .v y h
 .exact .dead _
theorem qET(Γ:Gh)(y:Value):Rep Γ (qsn y) y:=by
 unfold qsn;split
 .rename_i cs;split
  .rename_i h;let⟨a,b⟩:=qeo (Γ:=Γ) h;have:=Rep.agg (Γ:=Γ) (cs.toList.map .v) cs.toList a.len b a.rep;simpa using this
  .exact .dead _
 .rename_i vs;split
  .rename_i h;have:vs = #[]:=by rw[<-vj (xs:=vs),h]
   subst this;exact .tup [] [] rfl λ i x u h=>by simp at h
  .exact .dead _
 .exact qOr Γ _
theorem zw.ev{Γ:Gh}{b:List AV}{a:Act}(h:zw Γ b a)(y:Operand):Rep Γ (aev b y) (a.eval y):=by
 cases y with
 |tmp t=>exact h.get t
 |const x=>exact qET Γ x
 |func f=>exact .fn f [] [] rfl λ i x u h=>by simp at h
 |global g=>exact .dead _
theorem zw.put{Γ:Gh}{b:List AV}{a:Act}(h:zw Γ b a)(d:Option Tmp){x:AV}{u:Value}(c:Rep Γ x u):zw Γ (qbq b d x) (a.put d u):=by
 cases d with
 |none=>exact h
 |some d=>
   show RepL Γ (b.set d x) (a.tmps.setIfInBounds d u).toList;rw[xw];exact RepL.set h d c
section
variable {P:Program}{C:Cfg}{Γ:Gh}{σ:St}{w:World}
theorem qj9(H:∀t d,C.ty t=some d->yO P t=some d)(F:Inv Γ σ w){fn:Func}{i:List AV}{a:Act}(p:zw Γ i a){r:AV}(h:qaV C fn ⟨i,σ⟩=some r):∃v,(results fn a.tmps).run P w=.ok v w/\Rep Γ r v:=by
 have k:∀(c:List ResultVar) (l:List AV),Qn C i σ c=some l->∃vs:List Value,(c.mapM (λ(x:ResultVar)=>(match x with
   |.tmp t=>pure (a.tmps.getD t undef)
   |.cell b t=>do loadVar t (<-asAddr (a.tmps.getD b undef)):Sem Value))).run P w=.ok vs w/\RepL Γ l vs:=by
  intro c
  induction c with
  |nil=>intro l h;simp only[Qn,wz]at h;subst h;exact⟨[],by simp,.nil⟩
  |cons x c D=>
    intro l h;simp only[Qn]at h;split at h<;>try cases h
    rename_i y e;split at h<;>cases h;rename_i ys m;let⟨vs,o,f⟩:=D ys m;have j:∃v,(match x with
    |.tmp t=>pure (a.tmps.getD t undef)
    |.cell b t=>do loadVar t (<-asAddr (a.tmps.getD b undef)):Sem Value).run P w=.ok v w/\Rep Γ y v:=by
      cases x with
      |tmp t=>simp only[qky,wz]at e;subst e;exact⟨_,rfl,p.get t⟩
      |cell b t=>
        simp only[qky]at e;split at e<;>try cases e
        rename_i d G;let⟨v,A,B,z,s⟩:=qGp F (H t d G) (p.get b) e;refine⟨v,?_,s⟩;simp[Sem.run_bind',B,asAddr,z]
    let⟨v,e1,K⟩:=j;refine⟨v::vs,?_,.cons K f⟩;rw[List.mapM_cons];simp only[Sem.run_bind,e1,Result.andThen_ok,o];rfl
 simp only[qaV]at h;split at h<;>cases h;rename_i l g;let⟨vs,o,f⟩:=k _ _ g;unfold results;rw[Array.mapM_eq_mapM_toList]
 have E:(List.toArray <$> (fn.results.toList.mapM (λ(x:ResultVar)=>(match x with
   |.tmp t=>pure (a.tmps.getD t undef)
   |.cell b t=>do loadVar t (<-asAddr (a.tmps.getD b undef)):Sem Value)))).run P w=.ok vs.toArray w:=by
  rw[Sem.run_map,o];rfl
 refine⟨if h:vs.toArray.size=1 then vs.toArray[0]else .tuple vs.toArray,?_,?_⟩
 .rw[Sem.run_bind];exact(congrArg (λ r=>Result.andThen r _) E).trans rfl
 .unfold zV;split
  .rename_i y;obtain⟨u,c,rfl,J,I⟩:=f.uncons;rw[I.nil_inv];simpa using J
  .rename_i n
   have:vs.toArray.size≠1:=by
    intro q;have g:=f.len;simp only[kh]at q;rw[q]at g
    match l,g with
    |[y],_=>exact n y rfl
   rw[dif_neg this];exact .tup _ _ f.len f.rep
def Ex.toExit:Ex->Exit
 |.normal=>.normal
 |.exit id=>.exit id
 |.ret=>.ret
def qcR(P:Program)(ex:jP):Prop:=
 ∀c s e b,Qc c=true->ex c s=some (e,b)->∀Γ w a,Inv Γ s.σ w->zw Γ s.tm a->a.defers=[]->
  c.wp P (λ f d w'=>f=e.toExit/\d.defers=[]/\∃Γ',Ext Γ w Γ' w'/\Inv Γ' b.σ w'/\zw Γ' b.tm d/\qO s.σ b.σ) a w
theorem qdq(Γ:Gh):∀n:Nat,RepL Γ (List.replicate n .dead) (List.replicate n undef)
 |0=>.nil
 |n+1=>.cons (.dead _) (qdq Γ n)
theorem qCJ(d:yq P C){ex:jP}{f:FuncId}{a:List AV}{r:AV×Option St}(h:qbS C ex σ f a=some r):qgs P f:=by
 unfold qbS at h;split at h
 .rename_i p e;exact(d.prim f p e).1
 .split at h<;>try cases h
  rename_i fn b;split at h<;>try cases h
  rename_i c g;let⟨j,i,_⟩:=d.fn f fn b;exact⟨fn,j,by rw[g];rfl,i⟩
theorem qEx(u:yq P C){ex:jP}(G:qcR P ex){f:FuncId}{b:List AV}{a:List Value}{r:AV×Option St}(q:Inv Γ σ w)(m:RepL Γ b a)(h:qbS C ex σ f b=some r):Ji P Γ σ w f a r:=by
 unfold qbS at h;split at h
 .rename_i p I;exact(u.prim f p I).2 Γ σ w b a r q m h
 .split at h<;>try cases h
  rename_i fn s;split at h<;>try cases h
  rename_i c y;let⟨L,O,K⟩:=u.fn f fn s
  have z:∀e d,ex c (qg4 fn σ b)=some (e,d)->(e=.ret\/e=.normal)->qi5 C fn σ d=some r->Ji P Γ σ w f a r:=by
   intro e d i t n;unfold Ji;refine calls_of_wp L y ?_;have o:Inv Γ (qg4 fn σ b).σ w:=q.wr rfl rfl
   have H:zw Γ (qg4 fn σ b).tm {tmps:=a.toArray++Array.replicate (fn.ntmps-a.toArray.size) undef,defers:=[]}:=by
    show RepL Γ (b++List.replicate (fn.ntmps-b.length) .dead) (a.toArray++Array.replicate (fn.ntmps-a.toArray.size) undef).toList;rw[xk,xi];have:a.toArray.size=b.length:=by simpa using m.len
    rw[this];exact m.append (qdq Γ _)
   refine wp_mono (G c _ e d (K c y) i Γ w _ o H rfl) ?_;rintro Q B w' ⟨rfl,J,Γ',N,A,g3,M⟩;unfold qi5 at n;split at n<;>cases n;rename_i k l;let⟨v,F,E⟩:=qj9 u.ty A g3 l;let⟨⟨j,u1,u2,u3⟩,u4⟩:=qJS q N A M E
   have:B.defers=[]/\∃v,(results fn B.tmps).run P w'=.ok v w'/\∃g Γ',Ending.returned v=.returned g/\Ext Γ w Γ' w'/\Inv Γ' (turn σ (qbx σ k d.σ).2) w'/\Rep Γ' (qbx σ k d.σ).1 g/\qO {σ with wr:=[],wrr:=[]} (turn {σ with wr:=[],wrr:=[]} (qbx σ k d.σ).2):=
    ⟨J,v,F,v,j,rfl,u1,u2,u3,u4⟩
   obtain rfl|rfl:=t
   .exact this
   .exact this
  split at h
  .rename_i d i;exact z _ _ i (.inl rfl) h
  .rename_i d i;exact z _ _ i (.inr rfl) h
  .cases h
def qiY(P:Program)(Γ:Gh)(σ:St)(w:World)(f:FuncId)(a:List Value)(r:AV×Option St):Prop:=
 Calls P f a.toArray w λ e w'=>∃v Γ',e=.returned v/\Ext Γ w Γ' w'/\Inv Γ' (turn σ r.2) w'/\Rep Γ' r.1 v/\qO σ (turn σ r.2)
theorem que{f e:List Nat}(g:qfh σ f e):∀{a:List AV}{c:List Value},RepL Γ a c->(∀b∈rbL a,b∈f)->(∀r∈rrL a,r∈e)->RepL (JS Γ f e) (qY (λ b=>f.idxOf b) (λ r=>e.idxOf r) a) c
 |[],c,h,_,_=>by rw[h.nil_inv];exact .nil
 |x::a,c,h,j,i=>by
   obtain⟨u,us,rfl,l,k⟩:=h.uncons;exact .cons (qsL g l (λ b d=>j b (by simp[rbL,d])) λ r d=>i r (by simp[rrL,d])) (que g k (λ b d=>j b (by simp[rbL,d])) λ r d=>i r (by simp[rrL,d]))
theorem qpc{f:FuncId}{a:List AV}{c:List Value}{i:St->List AV->Option (AV×Option St)}(z:∀Γ σ a r,Inv Γ σ w->RepL Γ a c->i σ a=some r->Ji P Γ σ w f c r)
  {r:AV×Option St} (g:Inv Γ σ w) (x:RepL Γ a c) (h:Qt σ a i=some r):qiY P Γ σ w f c r:=by
 unfold Qt at h;split at h<;>try cases h
 rename_i m;let⟨d,o,n⟩:=qJ8 m;split at h<;>cases h;rename_i r j;refine(z _ _ _ _ (qGx d g) (que d x o n) j).mono ?_;rintro e w' ⟨v,t,q,k,p,l,y⟩;have b:=qpl d g k l;rw[g.nb,g.nr]at b;let⟨B,u⟩:=r;cases u with
 |none=>
   refine⟨v,_,q,qEy d g k,?_,b,.refl _⟩;have o:=qCk d g k p;let⟨e1,A⟩:=qEa d;exact o.wr e1.symm A.symm
 |some s=>exact⟨v,_,q,qEy d g k,qCk d g k p,b,qIi d y⟩
theorem qiY.after{f:FuncId}{a:List Value}{b:Gh}{σ1:St}{r:AV×Option St}(h:qiY P b σ1 w f a r)(c:Ext Γ w b w)(d:qO σ σ1):qiY P Γ σ w f a (match r with|(x,none)=>(x,some σ1)|r=>r):=by
 refine Calls.mono h ?_;rintro e w' ⟨v,Γ',g,l,k,j,i⟩;let⟨o,n⟩:=r;cases n with
 |none|some m=>exact⟨v,Γ',g,c.trans l,k,j,d.trans i⟩
theorem quN(f:Inv Γ σ w){m:Nat->Nat->Option Value}(e:Le Γ {Γ with mem:=m}):∀{b:List AV}{a:List Value},(∀r∈b.flatMap rsA,∀R,σ.rw[r]?=some R->QA {Γ with mem:=m} r R)->RepL Γ b a->RepL {Γ with mem:=m} (b.map (jm σ.rw)) a
 |[],a,_,h=>by rw[h.nil_inv];exact .nil
 |x::b,a,g,h=>by
   obtain⟨u,us,rfl,j,i⟩:=h.uncons;exact .cons (qym f e (λ r d=>g r (by simp[d])) j) (quN f e (λ r d=>g r (by simp only[xj,wk];exact .inr d)) i)
theorem qMG{Γ Γ':Gh}{x:AV}{u:Value}(h:qjj x=true)(a:Rep Γ x u):Rep Γ' x u:=by
 cases a with
 |v _ f=>exact .v _ f
 |tup cs us e a=>
   refine .tup cs us e λ i x u b c=>?_;have d:isV x=true:=(wv.1 h) x (wb b);have:=a i x u b c;cases x with
   |v y=>have:=zq this;subst this;exact .v _ (by have:=a i _ _ b c;cases this;assumption)
   |_=>cases d
 |_=>cases h
theorem qOE{a:List AV}(d:rbL a=[])(c:rrL a=[]):Qi σ a=[]/\qbl σ a=[]:=by
 have b:Qi σ a=[]:=by
  unfold Qi;rw[d];show qlF σ.bx σ.bx.length []=[];cases σ.bx.length with
  |zero|succ n=>rfl
 refine⟨b,?_⟩;unfold qbl;rw[b,c];rfl
theorem qH9{f:FuncId}{a:List AV}{g:List Value}{k:St->List AV->Option (AV×Option St)}(H:∀Γ σ a r,Inv Γ σ w->RepL Γ a g->k σ a=some r->Ji P Γ σ w f g r)
  {x:AV}{l:Gh}{σ0:St} (K:Inv l σ0 w) (m:Inv Γ σ w) (E:RepL Γ a g) (h:Qt σ a k=some (x,none)) (J:rbL a=[]) (I:rrL a=[]) (D:qjj x=true):qiY P l σ0 w f g (x,none):=by
 let⟨p,o⟩:=qOE (σ:=σ) J I;unfold Qt at h;split at h<;>try cases h
 rename_i y;let⟨t,A,z⟩:=qJ8 y;split at h<;>try cases h
 rename_i r n;have j:=kQ h;rw[p,o]at t;refine(H _ _ _ _ (qGx (by rw[p,o];exact t) m) (que (by rw[p,o];exact t) E A z) n).mono ?_;rintro e w' ⟨v,B,G,c,N,q,M⟩;rw[p,o]at c;have d:=qpl t m c q;rw[m.nb,m.nr]at d
 have u:x=ren (zO [] σ.bx.length) (zO [] σ.rw.length) r.1:=by
  rw[p,o]at j;let⟨L,C⟩:=r;cases C<;>cases j;rfl
 rw[<-u]at d
 have s:Below w.heap.size w w':=⟨c.os,c.tape,c.output,c.size,λ b A=>c.block b A λ F=>by
  obtain⟨i,m,_⟩|⟨i,m,_⟩:=F<;>exact absurd m (wK _)⟩
 exact⟨v,l,G,qgN s c.drawn,K.later s,qMG D d,.refl _⟩
theorem qpP{C:Cfg}{ex:jP}{σ:St}{f:Nat}{a:List AV}{r:AV×Option St}(h:qds C ex σ f a=some r):(∃fn,C.inl f=some fn/\qzb C ex σ fn a=some r)\/qbv C ex σ f a=some r:=by
 unfold qds at h;split at h
 .split at h
  .exact .inl ⟨_,by assumption,h⟩
  .exact .inr h
 .split at h<;>try cases h
  split at h<;>try cases h
  split at h<;>cases h;right;assumption
theorem qDx{C:Cfg}{ex:jP}{σ:St}{fn:Func}{a:List AV}{r:AV×Option St}(h:qzb C ex σ fn a=some r):∃c e b x,fn.body=some c/\ex c ⟨a++List.replicate (fn.ntmps-a.length) .dead,σ⟩=some (e,b)/\(e=.ret\/e=.normal)/\qaV C fn b=some x/\r=(x,some b.σ):=by
 unfold qzb at h;split at h<;>try cases h
 rename_i c j;split at h<;>try cases h
 rename_i e b d g;split at h<;>cases h;rename_i x f;refine⟨c,e,b,x,j,g,?_,f,rfl⟩;cases e with
 |normal=>exact .inr rfl
 |ret=>exact .inl rfl
 |exit i=>exact(d i rfl).elim
theorem qNA(n:yq P C){ex:jP}(t:qcR P ex){f:FuncId}{fn:Func}(z:C.inl f=some fn){b:List AV}{a:List Value}{r:AV×Option St}(y:Inv Γ σ w)(l:RepL Γ b a)(h:qzb C ex σ fn b=some r):qiY P Γ σ w f a r:=by
 obtain⟨c,e,g,x,m,A,j,i,rfl⟩:=qDx h;let⟨E,H,D⟩:=n.inl f fn z;unfold qiY;refine calls_of_wp E m ?_
 have u:zw Γ (b++List.replicate (fn.ntmps-b.length) .dead) {tmps:=a.toArray++Array.replicate (fn.ntmps-a.toArray.size) undef,defers:=[]}:=by
  show RepL Γ (b++List.replicate (fn.ntmps-b.length) .dead) (a.toArray++Array.replicate (fn.ntmps-a.toArray.size) undef).toList;rw[xk,xi];have:a.toArray.size=b.length:=by simpa using l.len
  rw[this];exact l.append (qdq Γ _)
 refine wp_mono (t c _ e g (D c m) A Γ w _ y u rfl) ?_;rintro I p w' ⟨rfl,B,Γ',G,o,g3,F⟩;let⟨v,s,q⟩:=qj9 n.ty o g3 i
 have:p.defers=[]/\∃v,(results fn p.tmps).run P w'=.ok v w'/\∃d Γ',Ending.returned v=.returned d/\Ext Γ w Γ' w'/\Inv Γ' (turn σ (x,some g.σ).2) w'/\Rep Γ' (x,some g.σ).1 d/\qO σ (turn σ (x,some g.σ).2):=
  ⟨B,v,s,v,Γ',rfl,G,o,q,F⟩
 obtain rfl|rfl:=j
 .exact this
 .exact this
theorem qJ3(u:yq P C){ex:jP}(s:qcR P ex){f:FuncId}{a:List AV}{b:List Value}{r:AV×Option St}(g:Inv Γ σ w)(i:RepL Γ a b)(h:qds C ex σ f a=some r):qiY P Γ σ w f b r:=by
 have k:∀Γ σ a r,Inv Γ σ w->RepL Γ a b->qbS C ex σ f a=some r->Ji P Γ σ w f b r:=λ _ _ _ _=>qEx u s;obtain⟨fn,A,h⟩|h:=qpP h
 .exact qNA u s A g i h
 unfold qbv at h;unfold qhs at h;cases e:C.raw f with
 |true=>
   rw[e]at h;exact qpc k g i h
 |false=>
   rw[e]at h;simp only at h;cases c:a.flatMap rsA with
   |nil=>
     rw[c]at h;exact qpc k g (quN (m:=Γ.mem) g (Le.refl _) (by rw[c];intro r i;cases i) i) h
   |cons q l=>
     rw[c]at h;simp only[qoa]at h;let⟨m,p,n,z⟩:=qaw (q::l) g ((q::l)++σ.wrr);have t:=quN g p.le (by rw[c];exact z) i;cases d:Qt {σ with rw:=frz σ.rw (q::l),wrr:=(q::l)++σ.wrr} (a.map (jm σ.rw)) (λ σ a=>qbS C ex σ f a)with
     |none=>rw[d]at h;cases h
     |some y=>
       rw[d]at h;have:=(qpc k n t d).after (qkD p w) (qrd (q::l));let⟨x,o⟩:=y;cases o with
       |none=>
         simp only at h;split at h
         .rename_i j;cases h;simp only[wc,xe]at j;exact qH9 k g n t d j.1.2 j.2 j.1.1
         .cases h;exact this
       |some v=>cases h;exact this
theorem qvU{c:List AV}{a:St->List AV->Option (AV×Option St)}{r:AV×Option St}(h:Qt σ c a=some r):∃σ' b d,a σ' b=some d:=by
 unfold Qt at h;split at h<;>try cases h
 split at h<;>cases h;exact⟨_,_,_,by assumption⟩
theorem qJs(d:yq P C){ex:jP}{f:FuncId}{a:List AV}{r:AV×Option St}(h:qds C ex σ f a=some r):qgs P f:=by
 obtain⟨fn,g,h⟩|h:=qpP h
 .let⟨c,_,_,_,i,_⟩:=qDx h;let⟨k,j,_⟩:=d.inl f fn g;exact⟨fn,k,by rw[i];rfl,j⟩
 unfold qbv at h;split at h
 .let⟨_,_,_,e⟩:=qvU h;exact qCJ d e
 .rename_i σ' _;cases b:Qt σ' _ (λ σ a=>qbS C ex σ f a)with
  |none=>rw[b]at h;cases h
  |some l=>let⟨_,_,_,e⟩:=qvU b;exact qCJ d e
theorem qHv(q:yq P C){ex:jP}(K:qcR P ex){m:List AV}{a:Act}{o:Oper}{x:AV}{σ':Option St}(y:Inv Γ σ w)(s:zw Γ m a)(h:opA C ex m σ o.op=some (x,σ')):qQd P Γ σ w o a x σ':=by
 by_cases i:∃c,o.op=.call c
 .let⟨c,u⟩:=i;rw[u]at h;have j:RepL Γ (c.args.toList.map (aev m)) (c.args.toList.map a.eval):=quz s.ev _;simp only[opA]at h;split at h
  .rename_i b O;let⟨⟨v,w',Γ',r,I,H,G⟩,M⟩:=qQL (P:=P) (ty:=o.type) (cs:=c.args.map λ|.const _=>true|_=>false) q.ty y j h;refine QN.wp ⟨_,v,w',Γ',?_,.inl rfl,I,H,G⟩ M;have e:(c.args.toList.map a.eval).toArray=c.args.map a.eval:=by rw[<-vk]
   rw[e]at r;unfold execOp;rw[u];simp only[resolve,O,Sem.run_bind];exact r
  .split at h<;>try cases h
   rename_i f k d
   have E:∃g,c.callee=.value g/\aev m g=.fn f k:=by
    unfold qgH at d;split at d<;>try cases d
    rename_i g A;split at d<;>cases d;rename_i D;exact⟨g,A,D⟩
   let⟨g,A,D⟩:=E;have p:=D▸s.ev g;generalize z:a.eval g=R at p;cases p with
   |fn f k us L t=>
     have B:=qJs q h;have F:=qJ3 q K y (j.append (RepL.mk L t)) h;intro next Q l
     unfold Oper.wp
     have n:(execOp a.eval o).run P w=.ok (.enter f ((c.args.toList.map a.eval++us).toArray)) w:=by
      unfold execOp;rw[u];simp only[resolve,A,z,Deferred.ofValue,Sem.run_bind]
      have e:c.args.map a.eval++us.toArray=(c.args.toList.map a.eval++us).toArray:=by
       rw[<-vk];simp
      rw[<-e,Array.empty_append];exact qir B _ w
     rw[n,Oper.upon_enter];refine Calls.mono F ?_;rintro e w' ⟨v,Γ',rfl,r,I,H,G⟩;exact l v w' Γ' r I H G
 .have J:qc C m σ o.op=some (x,σ'):=by
    unfold opA at h;split at h
    .rename_i c N;exact absurd ⟨c,N⟩ i
    .exact h
  exact(qQK q.ty y s.ev J).wp (qHW J)
end
end Go.AmZ
namespace Go.AmZ
open Go Go.RowKit
section
variable {P:Program}{C:Cfg}{Γ:Gh}{σ:St}{w:World}{ops:Array Oper}
theorem qik{k:List AV}{a:Act}{o:Oper}{b:Bool}(n:zw Γ k a)(h:yw ops k o=some b):Region.wanted o (yielded ops a.tmps)=b:=by
 unfold yw at h;unfold Region.wanted;split at h
 .rename_i f;cases h;rw[f]
 .rename_i j i f;rw[f];simp only;split at h<;>try cases h
  rename_i d q;have e:=n.get d;unfold yielded;rw[q];simp only[Option.bind_some];split at h
  .rename_i c g;cases h;rw[g]at e;have:=zq e;rw[wJ]at this;cases l:a.tmps[d]? with
   |none=>rw[l]at this;cases this
   |some v=>rw[l]at this;cases this;simp[Je]
  .rename_i g;cases h;rw[g]at e;generalize m:a.tmps.getD d undef=u at e;cases e with
   |tup cs us r p=>
     rw[wJ]at m;grind
  .cases h
theorem qC3(t:yq P C){ex:jP}(q:qcR P ex){d:Bool}{Q:Exit->Act->World->Prop}{g:S}:∀(b:List Oper) (i:Nat) (s:S) (Γ:Gh) (w:World) (a:Act),(∀j,b[j]?=ops[i+j]?)->zD C ex ops d b s=some g->Inv Γ s.σ w->zw Γ s.tm a->
  (∀Γ' w' D,Ext Γ w Γ' w'->Inv Γ' g.σ w'->zw Γ' g.tm D->qO s.σ g.σ->D.defers=a.defers->Q .normal D w')->wpOps P ops Q (List.range' i b.length) a w
 |[],i,s,Γ,w,a,_,h,n,f,m=>by
   simp only[zD,wz]at h;subst h;exact m Γ w a (.refl _ _) n f (.refl _) rfl
 |o::b,i,s,Γ,w,a,E,h,n,f,m=>by
   have G:ops[i]?=some o:=by simpa using(E 0).symm
   have l:∀j,b[j]?=ops[i+1+j]?:=λ j=>by have:=E (j+1);simpa[wN,wax 1 j]using this
   simp only[wy,List.range'_succ,wpOps,G]
   have F:∀x σ',opA C ex s.tm s.σ o.op=some (x,σ')->zD C ex ops d b ⟨qbq s.tm o.dst x,turn s.σ σ'⟩=some g->o.wp P a w (wpOps P ops Q (List.range' (i+1) b.length)) Q:=by
    intro x σ' c k;refine qHv t q n f c _ _ ?_;intro u w' Γ' e1 K J I;refine qC3 t q b (i+1) _ Γ' w' _ l k K (zw.put (waL e1.le f) o.dst J) ?_;intro e p B A z g3 y v;exact m e p B (e1.trans A) z g3 (I.trans y) (by rw[v];cases H:o.dst<;>rfl)
   simp only[zD]at h;split at h
   .rename_i r;rw[if_pos (qik f r)];left;split at h
    .rename_i x c;exact F x none c h
    .rename_i x σ' c;split at h
     .cases h
     .exact F x (some σ') c h
    .cases h
   .rename_i r;rw[if_neg (by rw[qik f r];exact xz)];refine qC3 t q b (i+1) _ Γ w _ l h n (zw.put f o.dst (.tup [] [] rfl λ i x u h=>by simp at h)) ?_;intro e p B A z g3 y v;exact m e p B A z g3 y (by rw[v];cases H:o.dst<;>rfl)
   .cases h
end
end Go.AmZ
namespace Go.AmZ
open Go Go.RowKit
section
variable {P:Program}{C:Cfg}{Γ:Gh}{σ:St}{w:World}{ops:Array Oper}{ex:jP}
def qbf(C:Cfg)(ex:jP)(ops:Array Oper)(o:Oper)(s:S)(y:AV×Option St):Prop:=
 (yw ops s.tm o=some true/\opA C ex s.tm s.σ o.op=some y)\/(yw ops s.tm o=some false/\y=(qht,none))
def yd(s:S)(o:Oper)(y:AV×Option St):S:=⟨qbq s.tm o.dst y.1,turn s.σ y.2⟩
def F(ops:List Oper)(l:List (AV×Option St))(s0:S)(L:Nat->Bool):Nat->S
 |0=>s0
 |k+1=>match ops[k]?,l[k]?,L k with
   |some o,some y,true=>yd (F ops l s0 L k) o y
   |_,_,_=>F ops l s0 L k
def qp:Nat->Bool:=λ _=>true
theorem qwz(o:Oper)(a:List Oper)(y:AV×Option St)(l:List (AV×Option St))(s:S):∀k,F (o::a) (y::l) s qp (k+1)=F a l (yd s o y) qp k
 |0=>rfl
 |k+1=>by
   show(match(o::a)[k+1]?,(y::l)[k+1]?,qp (k+1)with
    |some c,some b,true=>yd (F (o::a) (y::l) s qp (k+1)) c b
    |_,_,_=>F (o::a) (y::l) s qp (k+1))=_
   rw[qwz o a y l s k];simp only[List.getElem?_cons_succ];rfl
theorem qi3:∀(a:List Oper) (s e:S),zD C ex ops true a s=some e->∃l,l.length=a.length/\F a l s qp a.length=e/\
  (∀i o,a[i]?=some o->∃y,l[i]?=some y/\qbf C ex ops o (F a l s qp i) y/\(y.2.isSome=true->zp C.lo o.op=true))/\
  ∀i o y,a[i]?=some o->l[i]?=some y->y.2.isSome=true->qcx C ops (ops.size-(a.length-i)) (F a l s qp i).tm (F a l s qp i).σ o.op=true
 |[],s,e,h=>by
   simp only[zD,wz]at h;exact⟨[],rfl,h,λ i o c=>by simp at c,λ i o y c=>by simp at c⟩
 |o::a,s,e,h=>by
   have m:∀y,qbf C ex ops o s y->(y.2.isSome=true->zp C.lo o.op=true/\qcx C ops (ops.size-(a.length+1)) s.tm s.σ o.op=true)->zD C ex ops true a (yd s o y)=some e->∃l,l.length=(o::a).length/\F (o::a) l s qp (o::a).length=e/\
     (∀i d,(o::a)[i]?=some d->∃y,l[i]?=some y/\qbf C ex ops d (F (o::a) l s qp i) y/\(y.2.isSome=true->zp C.lo d.op=true))/\
     ∀i d y,(o::a)[i]?=some d->l[i]?=some y->y.2.isSome=true->qcx C ops (ops.size-((o::a).length-i)) (F (o::a) l s qp i).tm (F (o::a) l s qp i).σ d.op=true:=by
    intro y q b j;let⟨l,w,v,u,t⟩:=qi3 a _ e j;refine⟨y::l,by simp[w],?_,λ i d c=>?_,λ i d p c f n=>?_⟩
    .rw[wy,qwz];exact v
    .cases i with
     |zero=>simp at c;subst c;exact⟨y,rfl,q,λ h=>(b h).1⟩
     |succ i=>
       rw[qwz];simpa using u i d (by simpa using c)
    .cases i with
     |zero=>simp at c f;subst c;subst f;exact(b n).2
     |succ i=>
       rw[qwz,wy,Nat.add_sub_add_right];exact t i d p (by simpa using c) (by simpa using f) n
   simp only[zD]at h;split at h
   .rename_i k;split at h
    .rename_i x g;exact m (x,none) (.inl ⟨k,g⟩) (by simp) h
    .rename_i x σ' g;split at h
     .cases h
     .rename_i r;exact m (x,some σ') (.inl ⟨k,g⟩) (λ _=>by simpa using r) h
    .cases h
   .rename_i k;exact m (qht,none) (.inr ⟨k,rfl⟩) (by simp) h
   .cases h
theorem qr0{b a:List AV}{xs:List Operand}(h:∀t∈xs.filterMap (λ|.tmp t=>some t|_=>none),b.getD t .dead=a.getD t .dead):∀x∈xs,aev b x=aev a x:=by
 intro x c;cases x with
 |tmp t=>exact h t (kU.2 ⟨_,c,rfl⟩)
 |_=>rfl
theorem qud{g d:List AV}{op:Op}(h:∀x∈op.operands.toList,aev g x=aev d x):opA C ex g σ op=opA C ex d σ op:=by
 have j:∀ps:Array (Nat×Operand),(∀x∈ps.toList.map (·.2),aev g x=aev d x)->(ps.toList.map λ p=>(p.1,aev g p.2))=ps.toList.map λ p=>(p.1,aev d p.2):=λ ps v=>
  kX λ p A=>by rw[v p.2 (wA.2 ⟨p,A,rfl⟩)]
 cases op with
 |call c=>
   have E:c.args.toList.map (aev g)=c.args.toList.map (aev d):=kX λ x o=>h x (by
    simp only[Op.operands,Call.operands];cases c.callee<;>simp[o]<;>(right;simpa using o))
   simp only[opA,E];cases D:c.callee with
   |builtin b=>rfl
   |value f=>
     have B:aev g f=aev d f:=h f (by simp[Op.operands,Call.operands,D]);simp only[qgH,B]
   |invoke r n=>rfl
 |build t ps=>simp only[opA,qc,j ps (λ x o=>h x (by simpa[Op.operands]using o))]
 |buildSlice t n ps=>
   have v:=j ps (λ x o=>h x (by simpa[Op.operands]using o))
   have e1:(ps.toList.flatMap λ p=>rsA (aev g p.2))=ps.toList.flatMap λ p=>rsA (aev d p.2):=by
    have:=congrArg (λ l=>List.flatMap (λ p:Nat×AV=>rsA p.2) l) v;simpa[vm]using this
   have I:(ps.toList.map λ p=>(cellsOf (aev g p.2)).map (qX σ.rw))=ps.toList.map λ p=>(cellsOf (aev d p.2)).map (qX σ.rw):=by
    have:=congrArg (λ l=>List.map (λ p:Nat×AV=>(cellsOf p.2).map (qX σ.rw)) l) v;simpa[xg,Function.comp]using this
   simp only[opA,qc,v,e1,I]
 |makeFunc f J cs=>
   have z:cs.toList.map (aev g)=cs.toList.map (aev d):=kX λ x o=>h x (by simp only[Op.operands,xk,wk];exact .inr o);cases f<;>simp only[opA,qc,z]
 |slice t x lo w m=>
   cases m with
   |some m=>simp[opA,qc]
   |none=>
     have H:aev g x=aev d x:=h x (by simp[Op.operands])
     have G:lo.map (aev g)=lo.map (aev d):=by
      cases lo with
      |none=>rfl
      |some y=>simp only[kP];rw[h y (by simp[Op.operands])]
     have F:w.map (aev g)=w.map (aev d):=by
      cases w with
      |none=>rfl
      |some y=>simp only[kP];rw[h y (by simp[Op.operands])]
     simp only[opA,qc,H,G,F]
 |move x|assign x=>simp only[opA,qc,h x (by simp[Op.operands])]
 |pick c a b=>simp only[opA,qc,h c (by simp[Op.operands]),h a (by simp[Op.operands]),h b (by simp[Op.operands])]
 |box e x|load t x=>simp only[opA,qc,h x (by simp[Op.operands])]
 |store t x y|makeSlice t x y=>simp only[opA,qc,h x (by simp[Op.operands]),h y (by simp[Op.operands])]
 |nilCheck x=>simp only[opA,qc,h x (by simp[Op.operands])]
 |binOp op t x y u=>simp only[opA,qc,h x (by simp[Op.operands]),h y (by simp[Op.operands])]
 |unOp op t x|convert s t x|fieldAddr t x i|field t x i=>simp only[opA,qc,h x (by simp[Op.operands])]
 |indexAddr t x y|index t x y=>simp only[opA,qc,h x (by simp[Op.operands]),h y (by simp[Op.operands])]
 |extract x i=>simp only[opA,qc,h x (by simp[Op.operands])]
 |makeMap t r=>cases r<;>simp only[opA,qc]
 |lookup t m k q=>simp only[opA,qc,h m (by simp[Op.operands]),h k (by simp[Op.operands])]
 |mapUpdate t m k y|insert t m k y=>simp only[opA,qc,qcO,h m (by simp[Op.operands]),h k (by simp[Op.operands]),h y (by simp[Op.operands])]
 |_=>simp only[opA,qc]
theorem qki{b a:List AV}{o:Oper}(h:∀t∈qbc ops o,b.getD t .dead=a.getD t .dead):yw ops b o=yw ops a o:=by
 grind [yw,qbc]
theorem qz7{x:AV}(h:rsC x=[])(rw a:List Row):qX a x=qX rw x:=by
 cases x<;>first|rfl|(cases h;done)
theorem qnq{x:AV}(h:rsA x=[]):∀c∈cellsOf x,rsC c=[]:=by
 cases x with
 |agg cs=>exact λ c a=>kN.1 h c a
 |_=>intro c a;rw[wF.1 a];exact h
theorem qEE{ps:List (Nat×AV)}(h:∀p∈ps,rsA p.2=[])(k n:Nat)(rw a:List Row):qig k n a ps=qig k n rw ps:=by
 unfold qig;congr 1;rw[xm,wv,wv]
 have e:∀p∈ps.zipIdx,((cellsOf p.1.2).all λ x=>qu (qX a x))=(cellsOf p.1.2).all λ x=>qu (qX rw x):=λ p b=>by
  have c:p.1∈ps:=(xc.1 b)|> λ h=>wb h
  rw[xm,wv,wv];grind [qz7,qnq]
 grind
theorem qD9{i:List AV}{τ:St}{op:Op}{x:AV}(d:Qd op=false)(u:zp C.lo op=false)(h:opA C ex i σ op=some (x,none)):opA C ex i τ op=some (x,none):=by
 cases op with
 |call c=>
   let⟨z,B,A⟩:=c;cases z with
   |builtin b=>
     cases b<;>try (simp[Qd]at d;done)
     all_goals
      simp only[opA]at h |-
      rw[<-h];generalize B.toList.map (aev i)=g;unfold jz
      obtain _|⟨p,_|⟨q,_|⟨r,l⟩⟩⟩:=g<;>first
       |rfl
       |(cases p<;>first|rfl|(rename_i v;cases v<;>first|rfl|(cases q<;>first|rfl|(rename_i o;cases o<;>rfl))))
   |value f|invoke r n=>simp[Qd]at d
 |load t x|store t x y=>simp[Qd]at d
 |buildSlice t n ps=>
   simp only[opA,qc]at h |-
   split at h<;>try cases h
   rename_i E;split at h<;>try cases h
   rename_i j;split at h<;>cases h;rename_i w
   have s:∀p∈ps.toList.map (λ p=>(p.1,aev i p.2)),rsA p.2=[]:=λ p j=>by
    grind [List.flatMap_eq_nil_iff]
   rw[qEE s _ _ σ.rw τ.rw,j];simp only[w];congr 3;grind [List.map_congr_left,qz7,qnq,List.flatMap_eq_nil_iff]
 |indexAddr t x y|lookup t m k q|mapUpdate t m k y|insert t m k y=>simp[Qd]at d
 |makeMap t r=>simp[zp]at u
 |convert a b y=>simp[Qd]at d
 |slice t x lo D m=>
   cases m with
   |some m=>exact h
   |none=>
     simp only[opA,qc]at h;split at h
     .simp_all [opA,qc]
     .simp_all [opA,qc]
     .simp_all [opA,qc]
     .grind
     .cases h
 |alloc e=>
   simp only[opA,qc]at h;grind
 |box e y=>
   simp only[opA,qc]at h;grind
 |makeFunc f F cs=>cases f<;>exact h
 |makeSlice t a b=>
   simp only[opA,qc]at h |-
   split at h<;>try cases h
   split at h<;>try cases h
   grind
 |_=>exact h
end
end Go.AmZ
