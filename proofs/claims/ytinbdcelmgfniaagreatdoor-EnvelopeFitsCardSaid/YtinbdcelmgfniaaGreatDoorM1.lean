/- Part 1 of what the proofs stand on: plain functions of the program, and that they are its functions. -/
import Derived.WalkKit
import Derived.WalkSpells
import Derived.WalkLawsBesides
import Derived.Lib.Hide
import Derived.Laws.AppendOwnNone
import Derived.BigQuiet
import Derived.Laws.CopyRow
import Derived.Laws.Pointers
import Derived.Laws.Small
import Derived.Laws.Tables
import Derived.ArgAppend
import Derived.Laws.AppendOwn
import Derived.Laws.MakeOwn
import Derived.Laws.BytesArg
import Derived.Deep.Upon
import Derived.Lib.ConvBytes
import Derived.Laws.StructEq
import Derived.MapKept
import Derived.Laws.Sem
import Derived.Orders
set_option linter.unusedVariables false
set_option linter.unusedSimpArgs false
noncomputable section
namespace Go
abbrev wa:=@Nat.le_refl
abbrev wb:=@List.mem_of_getElem?
abbrev wc:=@Bool.and_eq_true
abbrev wd:=@List.length_append
abbrev we:=@List.mem_cons_of_mem
abbrev wg:=@Nat.zero_le
abbrev wh:=@List.mem_cons_self
abbrev wi:=@List.eq_nil_of_length_eq_zero
abbrev wj:=@List.mem_append
abbrev wk:=@List.map_cons
abbrev wm:=@Nat.eq_of_beq_eq_true
abbrev wn:=@List.append_assoc
abbrev wo:=@List.length_take
abbrev wu:=@Nat.mul_le_mul_right
abbrev wv:=@List.mem_cons
abbrev ww:=@List.all_eq_true
abbrev wx:=@List.length_cons
abbrev wy:=@List.append_nil
abbrev wz:=@Nat.le_trans
abbrev wA:=@Nat.lt_of_lt_of_le
abbrev wB:=@Option.some.injEq
abbrev wC:=@List.mem_map
abbrev wD:=@List.mem_singleton
abbrev wE:=@List.length_map
abbrev wF:=@List.take_length
abbrev wG:=@Nat.zero_add
abbrev wH:=@List.drop_zero
abbrev wI:=@List.length_set
abbrev wJ:=@List.drop_length
abbrev wK:=@Array.getD_eq_getD_getElem?
abbrev wL:=@Prod.mk.injEq
abbrev wM:=@Bool.not_eq_true'
abbrev wN:=@Nat.not_lt_zero
abbrev wO:=@Nat.add_zero
abbrev wP:=@List.mem_of_mem_drop
abbrev wQ:=@List.mem_of_mem_take
abbrev wR:=@Array.length_toList
abbrev wS:=@Nat.add_assoc
abbrev wT:=@List.length_nil
abbrev wU:=@Nat.add_mul
abbrev wV:=@Bool.true_and
abbrev wW:=@List.getElem_mem
abbrev wX:=@List.all_cons
abbrev wY:=@Bool.or_eq_true
abbrev wZ:=@List.map_append
abbrev w7:=@List.length_drop
abbrev ke:=@Nat.le_succ
abbrev kg:=@List.filterMap_append
abbrev kh:=@List.mem_flatMap
abbrev km:=@List.append_eq_nil_iff
abbrev ko:=@List.take_add_one
abbrev kr:=@List.size_toArray
abbrev kw:=@Nat.min_eq_left
abbrev ky:=@List.foldl_cons
abbrev kz:=@Option.some.inj
abbrev kC:=@List.length_eq_zero_iff
abbrev kD:=@List.take_append_drop
abbrev kE:=@Bool.false_ne_true
abbrev kF:=@List.mem_filterMap
abbrev kG:=@Nat.le_of_ble_eq_true
abbrev kH:=@List.mem_map_of_mem
abbrev kI:=@Nat.le_add_right
abbrev kJ:=@List.mem_filter
abbrev kK:=@Bool.not_eq_true
abbrev kL:=@Int.toNat_natCast
abbrev kM:=@List.flatMap_eq_nil_iff
abbrev kN:=@Bool.false_and
abbrev kO:=@List.sum_cons
abbrev kP:=@Nat.sub_self
abbrev kQ:=@Nat.add_sub_cancel_left
abbrev kR:=@Nat.zero_mul
abbrev kS:=@Nat.succ_mul
abbrev kT:=@List.take_append_of_le_length
abbrev kU:=@Classical.byContradiction
abbrev kV:=@List.take_of_length_le
abbrev kW:=@List.map_congr_left
abbrev kX:=@List.length_replicate
abbrev kY:=@List.ext_getElem?
abbrev kZ:=@List.nodup_nil
abbrev k8:=@Option.map_some
abbrev k9:=@List.nodup_cons
abbrev xa:=@Bool.and_self
abbrev xb:=@List.mem_range
abbrev xc:=@List.nil_append
abbrev xd:=@Decidable.of_not_not
abbrev xe:=@List.map_map
abbrev xg:=@Bool.and_true
abbrev xh:=@Bool.true_or
abbrev xi:=@Array.toList_replicate
abbrev xj:=@List.flatMap_cons
abbrev xk:=@List.filterMap_cons
abbrev xl:=@Nat.le_of_lt
abbrev xm:=@Bool.eq_false_iff
abbrev xn:=@Array.toList_append
abbrev xo:=@Bool.or_true
abbrev xp:=@Array.toList_setIfInBounds
abbrev xq:=@Bool.false_or
abbrev xr:=@Nat.mod_eq_of_lt
abbrev xt:=@List.isEmpty_iff
abbrev xu:=@Nat.lt_succ_self
abbrev xw:=@Nat.succ_le_succ
abbrev xx:=@Bool.false_eq_true
abbrev xy:=@List.pairwise_iff_getElem
abbrev xz:=@Nat.succ_pos
abbrev xA:=@Bool.or_eq_false_iff
abbrev xB:=@Bool.eq_iff_iff
abbrev xC:=@List.filterMap_cons_some
abbrev xD:=@List.length_range
abbrev xE:=@List.length_pos_iff
abbrev xF:=@Bool.and_false
abbrev xG:=@List.take_take
abbrev xH:=@List.pairwise_cons
abbrev xI:=@Nat.ble_eq_true_of_le
abbrev xJ:=@Array.size_append
abbrev xK:=@List.foldl_append
abbrev xL:=@List.drop_eq_getElem_cons
abbrev xM:=@Nat.mul_comm
abbrev xN:=@Array.size_setIfInBounds
abbrev xO:=@List.eq_of_mem_replicate
abbrev xP:=@List.not_mem_nil
abbrev xQ:=@List.filterMap_cons_none
abbrev xR:=@List.filter_cons_of_neg
abbrev xS:=@List.filter_cons_of_pos
abbrev xT:=@Ne.symm
abbrev xU:=@Nat.mod_lt
abbrev xV:=@List.length_eq_one_iff
abbrev xW:=@Function.comp_def
abbrev xX:=@Nat.div_lt_iff_lt_mul
abbrev xY:=@List.mem_append_right
abbrev xZ:=@Bool.not_false
abbrev vb:=@UInt8.lt_iff_toNat_lt
abbrev vc:=@List.take_zero
abbrev vd:=@List.length_filter_le
abbrev ve:=@Array.toArray_toList
abbrev vf:=@Array.toList_map
abbrev vg:=@List.mem_append_left
abbrev vh:=@List.flatMap_map
abbrev vj:=@List.replicate_succ'
abbrev vk:=@List.take_set_of_le
abbrev vl:=@List.flatten_append
abbrev vm:=@List.replicate_zero
abbrev vp:=@Nat.div_add_mod
abbrev vq:=@Option.map_none
abbrev vt:=@Nat.add_right_comm
abbrev vu:=@Nat.ne_of_lt
abbrev vw:=@Nat.le_of_eq
abbrev vx:=@Nat.add_sub_cancel
abbrev vy:=@Int.eq_ofNat_of_zero_le
abbrev vA:=@List.pairwise_singleton
abbrev vB:=@List.flatten_cons
abbrev vC:=@Int.le_refl
abbrev vD:=@List.filter_eq_nil_iff
abbrev vF:=@List.set_eq_take_append_cons_drop
abbrev vG:=@Nat.le_mul_of_pos_left
abbrev vH:=@List.zipIdx_cons
abbrev vJ:=@List.any_eq_true
abbrev vK:=@List.cons_ne_nil
abbrev vL:=@Array.size_range
abbrev vM:=@List.countP_replicate
abbrev vN:=@Bool.and_eq_false_iff
abbrev vO:=@List.mem_iff_getElem?
abbrev vP:=@List.set_append_right
abbrev vQ:=@List.replicate_append_replicate
abbrev vR:=@Nat.le_max_left
abbrev vS:=@List.drop_set_of_lt
abbrev vU:=@Nat.mul_le_mul_left
abbrev vV:=@List.mem_zipIdx_iff_getElem?
abbrev vW:=@Nat.mul_le_mul
abbrev vX:=@Nat.lt_of_le_of_lt
abbrev vY:=@List.length_modify
abbrev vZ:=@Nat.eq_zero_or_pos
abbrev waa:=@List.sublist_flatten_of_mem
abbrev wab:=@Array.size_mapIdx
abbrev wac:=@Nat.mul_sub_right_distrib
abbrev wad:=@List.map_nil
abbrev wae:=@Nat.le_max_right
abbrev waf:=@List.flatMap_def
abbrev wag:=@Nat.lt_of_not_le
abbrev wah:=@List.all_map
abbrev wai:=@List.cons_append
abbrev waj:=@Nat.succ_lt_succ
abbrev wak:=@Option.isSome_iff_exists
abbrev wal:=@List.mem_flatten
abbrev wam:=@List.filter_nil
abbrev wan:=@Nat.mul_pos
abbrev wao:=@Nat.one_mul
abbrev wap:=@Option.map_eq_some_iff
abbrev waq:=@Nat.sub_mul
abbrev war:=@List.contains_iff_mem
abbrev wat:=@Nat.blt_eq
abbrev wau:=@Nat.lt_irrefl
abbrev wav:=@Bool.not_true
abbrev waw:=@List.any_cons
abbrev wax:=@Nat.add_comm
theorem ifN{c:Prop}[Decidable c]{α:Sort _}{a b:α}(h:¬c:=by omega):(if c then a else b)=b:=if_neg h
theorem ifP{c:Prop}[Decidable c]{α:Sort _}{a b:α}(h:c:=by omega):(if c then a else b)=a:=if_pos h
end Go
namespace Go.GxZ
open Go.RowKit
theorem qL6{α:Type}(e:Ask α):∀w:World,w.drawn<=(w.ask e).2.drawn:=by
 induction e with
 |done a=>exact λ w=>wa _
 |ask c b k d=>
   intro w;unfold World.ask;grind
theorem qMn(w:World)(c:Sys):w.drawn<=(w.sys c).2.drawn:=by
 have h:=qL6 (Kernel.perform c w.os) w;unfold World.sys;grind
theorem qKR{p:Program}{w w':World}{a:Addr}{v:Value}{b:Bool}{l:List Addr}(h:w.farStore p a v b=.ok (w',l)):w'.drawn=w.drawn:=by
 unfold World.farStore at h;split at h
 .split at h
  .rename_i r c;cases h;unfold World.viewStore at c;simp only[bind,Except.bind,pure,Except.pure,throw,throwThe,MonadExceptOf.throw]at c
   repeat' split at c
   all_goals first|(cases c;done)|(cases c;rfl)|skip
  .cases h
 .cases h
theorem run_drawn{p:Program}{α : Type}(e:Sem α):∀{w w':World} {a : α},e.run p w = .ok a w'->w.drawn<=w'.drawn:=by
 induction e with
 | pure a=>intro w w' b h;cases h;exact wa _
 | load m a k d =>
   intro w w' b h;simp only[Sem.run]at h;grind
 | store m a v k d =>
   intro w w' b h
   cases v<;>simp only[Sem.run]at h<;>first
    | (cases h;done)
    | (split at h
       ·split at h
        ·cases h
        ·have:=d h;exact this
       ·split at h
        ·rename_i f;have:=d h;rw[qKR f]at this;exact this
        ·cases h)
 | new o k d=>intro w w' b h;simp only[Sem.run]at h;have:=d _ h;exact this
 | shape r k d=>intro w w' b h;simp only[Sem.run]at h;exact d _ h
 | freeze a n k d =>
   intro w w' b h;simp only[Sem.run]at h;have:=d h;have e:(w.freeze a n).drawn=w.drawn:=by unfold World.freeze;split<;>rfl
   rw[e]at this;exact this
 | frozen a k d=>intro w w' b h;simp only[Sem.run]at h;exact d _ h
 | getObj r k d =>
   intro w w' b h;simp only[Sem.run]at h;grind
 | setObj r o k d =>
   intro w w' b h;simp only[Sem.run]at h;grind
 | choose q k d =>
   intro w w' b h;simp only[Sem.run]at h;grind
 | sys c k d =>
   intro w w' b h;simp only[Sem.run]at h;exact wz (qMn w c) (d _ h)
 | program k d=>intro w w' b h;simp only[Sem.run]at h;exact d _ h
 | mark m k d=>intro w w' b h;simp only[Sem.run]at h;exact d h
 | halt h=>intro w w' b h;simp only[Sem.run]at h;cases h
structure qTq (B:Nat) (w:World) where
 val:World
 below:Below B w val
instance (B:Nat)(w:World):Nonempty (qTq B w):=⟨⟨w,Below.refl _ _⟩⟩
end Go.GxZ
namespace Go.AmZ
open Go
inductive KC where
 |str|int (k:IntKind)|bool
 deriving DecidableEq
inductive AV where
 |v (x:Value)
 |dead
 |sl (k:Nat) (es:List (List AV)) (lv:Nat)
 |rs (r lo n ep:Nat) (full:Bool)
 |ptr (b o:Nat)
 |rpt (r i o ep:Nat)
 |ept (cs:List AV) (o:Nat)
 |fn (f:FuncId) (caps:List AV)
 |agg (cs:List AV)
 |tup (vs:List AV)
 |mp (b:Nat)
 |mc (kc:List KC) (ka va:Bool) (ks vs:List (List AV))
 deriving Inhabited
structure Row where
 k:Nat
 c:List (List AV)
 ver:Nat
 fz:Nat
 off:Bool
structure St where
 bx:List (List AV)
 rw:List Row
 wr:List Nat
 wrr:List Nat
structure S where
 tm:List AV
 σ:St
inductive TK where
 |other|bool|int (k:IntKind)|string|ptr|slice (e esz ebytes:Nat) (ez:List Value)|struct (fs:List (Nat×Nat×Bool))|array (n e esz:Nat)|map (kc:List KC) (ka va:Bool) (vn:Nat) (vz:List Value)
structure TD where
 size:Nat
 bytes:Nat
 agg:Bool
 zero:List Value
 k:TK
def qsu:TypeDesc->Bool
 |.struct _|.array _ _=>true
 |_=>false
def fieldsOf(P:Program):List Field->Option (List (Nat×Nat×Bool))
 |[]=>some []
 |f::a=>match P.info? f.type,P.underlying f.type,fieldsOf P a with
   |some i,some u,some l=>some ((f.offset,i.size,qsu u)::l)
   |_,_,_=>none
def qSj:Value->Bool
 |.agg _=>true
 |_=>false
def kc1(P:Program)(t:TypeId):Option KC:=match P.underlying t with
 |some .string=>some .str
 |some (.int k)=>some (.int k)
 |some .bool=>some .bool
 |_=>none
def kcs(P:Program):List Field->Nat->Option (List KC)
 |[],_=>some []
 |f::a,o=>match decide (f.offset=o/\f.name≠"_"),kc1 P f.type,kcs P a (o+1)with
   |true,some c,some l=>some (c::l)
   |_,_,_=>none
def qkc(P:Program)(t:TypeId):Option (List KC×Bool):=match P.underlying t with
 |some (.struct a)=>match P.stoodInHeld t,kcs P a.toList 0 with
   |false,some l=>some (l,true)
   |_,_=>none
 |_=>match kc1 P t with
   |some c=>some ([c],false)
   |none=>none
def qw5(P:Program)(k e:TypeId):Option TK:=match qkc P k,P.info? e,P.underlying e with
 |some (a,b),some i,some u=>match i.zero with
   |some z=>match qSj z,qsu u with
     |true,true=>some (.map a b true i.size z.cells.toList)
     |false,false=>some (.map a b false i.size z.cells.toList)
     |_,_=>some .other
   |none=>some .other
 |_,_,_=>some .other
def qS2:TK->Bool
 |.other|.map .. => true
 |_=>false
theorem qg3{P:Program}{k e:TypeId}{x:TK}(h:qw5 P k e=some x):qS2 x=true:=by
 unfold qw5 at h
 repeat' split at h
 all_goals cases h;rfl
def qbb(P:Program):TypeDesc->Option TK
 |.bool=>some .bool
 |.int k=>some (.int k)
 |.string=>some .string
 |.pointer _=>some .ptr
 |.slice e=>match P.info? e with
   |some i=>match i.zero with
     |some z=>some (.slice e i.size i.bytes z.cells.toList)
     |none=>none
   |none=>none
 |.struct a=>(fieldsOf P a.toList).map .struct
 |.array n e=>match P.info? e with
   |some i=>some (.array n e i.size)
   |none=>none
 |.map k e=>qw5 P k e
 |_=>some .other
def yQ(P:Program)(t:TypeId):Option TD:=
 match P.info? t,P.underlying t with
 |some i,some u=>match i.zero,qbb P u with
   |some z,some k=>some ⟨i.size,i.bytes,qsu u,z.cells.toList,k⟩
   |_,_=>none
 |_,_=>none
def iw(k:IntKind)(n:Int):Int:=k.wrap n
def qf(a b:Int):Int:=a+b
def zX(a b:Int):Int:=a-b
def qsb(a b:Int):Int:=a*b
def qME(a b:Int):Int:=a.tdiv b
def qM9(a b:Int):Int:=a.tmod b
def ieq(a b:Int):Bool:=a==b
def ilt(a b:Int):Bool:=decide (a<b)
def ile(a b:Int):Bool:=decide (a<=b)
def qnM(a b:Int):Int:=if a<b then b else a
def qMS(a b:Int):Int:=if b<a then b else a
def qpG(op:BinOp)(k:IntKind)(a b:Int):Int:=
 match op with
 |.and=>k.wrap (BitVec.ofInt k.bits a&&&BitVec.ofInt k.bits b).toNat
 |.or=>k.wrap (BitVec.ofInt k.bits a|||BitVec.ofInt k.bits b).toNat
 |.xor=>k.wrap (BitVec.ofInt k.bits a ^^^ BitVec.ofInt k.bits b).toNat
 |_=>k.wrap (BitVec.ofInt k.bits a &&& ~~~BitVec.ofInt k.bits b).toNat
def qOb(k:IntKind)(a b:Int):Int:=k.wrap (a*2^(min b.toNat k.bits))
def qpg(k:IntKind)(a b:Int):Int:=a.fdiv (2^(min b.toNat k.bits))
def qg(a:Bool):Bool := !a
def Q7(a b:Bool):Bool:=a==b
def xeq(a b:ByteArray):Bool:=a.data.toList==b.data.toList
def xlt(a b:ByteArray):Bool:=Op.bytesLess a.data.toList b.data.toList
def qrl(a b:Bool):Bool:=a||b
def qJ0(a b:ByteArray):Option ByteArray:=if((a.size+b.size:Nat):Int)>IntKind.i64.max then none else some (a++b)
def qpQ(a:ByteArray):Nat:=a.size
def qKq(s:ByteArray)(j:Int):Option Int:=if 0<=j then(match s.data.toList[j.toNat]? with
 |some b=>some b.toNat
 |none=>none)else none
def qFv(s:ByteArray)(l h:Nat):ByteArray:=s.extract l h
def bnd(y:Nat)(i:Int):Option Nat:=if 0<=i/\i<=y then some i.toNat else none
def qaO(a:List (List AV)):Nat:=a.length
def qIP(a:List (List AV))(j:Int):Option (List AV):=if 0<=j then a[j.toNat]? else none
def qKo(a:List (List AV))(l h:Nat):List (List AV):=(a.take h).drop l
def zx(a b:Nat):Bool:=decide (a=b)
def lv1:Nat->Nat
 |0=>0
 |_+1=>1
def lvS(f:Nat)(b:Bool):Nat:=match decide (1<f)&&b with|true=>2|false=>1
def pos(n:Nat):Bool:=decide (0<n)
def qv:AV->Bool
 |.v _|.sl _ _ _|.mc .. => true
 |_=>false
def uni(k:Nat)(a:List (List AV)):Bool:=a.all λ e=>decide (e.length=k)&&e.all qv
def qmJ(R:Row)(k lo n a:Nat):Option (List (List AV)):=if R.k=k/\R.ver=a/\lo+n<=R.c.length then some ((R.c.drop lo).take n)else none
def qII(R:Row)(k lo n a:Nat)(j:Int):Option Nat:=if R.k=k/\0<=j/\j<n/\R.ver=a/\lo+n<=R.c.length then some (lo+j.toNat)else none
def qtk(R:Row)(i a:Nat):Option (List AV):=if R.ver=a then R.c[i]? else none
def qsV(R:Row)(k lo n a:Nat)(f:Bool)(bytes:Nat)(xs:List (List AV)):Option (Row×Nat):=
 if R.k=k/\R.ver=a/\n=R.c.length/\lo=0/\f=false/\R.fz<=R.c.length/\(n+xs.length)*bytes<=2^47/\n+xs.length<2^62 then some ({R with c:=R.c++xs,ver:=R.ver+1},n+xs.length)else none
def rowNew(k bytes:Nat)(xs:List (List AV)):Option (Row×Nat):=if xs.length*bytes<=2^47/\xs.length<2^62 then some (⟨k,xs,0,0,false⟩,xs.length)else none
def qCT(R:Row)(k lo n a l:Nat):Option Row:=
 if R.k=k/\R.ver=a/\n=R.c.length/\lo=0/\l<=n/\R.fz<=R.c.length then some {R with c:=R.c.drop l,ver:=R.ver+1,fz:=R.fz-l,off:=true}else none
def qsY(R:Row)(i o a size:Nat)(xs:List AV):Option Row:=match decide (R.ver=a/\R.fz<=i/\o+size<=R.k/\xs.length=size/\R.off=false)&&xs.all qv,R.c[i]? with
 |true,some e=>some {R with c:=R.c.set i (e.take o++(xs++e.drop (o+size)))}
 |_,_=>none
def qcT(b:ByteArray):List (List AV):=b.data.toList.map λ c=>[.v (.int .u8 c.toNat)]
def qJT:List AV->Option UInt8
 |[.v (.int .u8 n)]=>some (UInt8.ofNat n.toNat)
 |_=>none
def qs1:List (List AV)->Option (List UInt8)
 |[]=>some []
 |e::l=>match qJT e,qs1 l with
   |some b,some r=>some (b::r)
   |_,_=>none
def qrP:AV->Bool
 |.ptr _ _|.rpt _ _ _ _|.ept _ _=>true
 |_=>false
def qFz:AV->Bool
 |.v (.pointer none)=>true
 |_=>false
def qsl:Option TD->Bool
 |some ⟨_,_,_,_,.int .u8⟩=>true
 |_=>false
def qlG(a xs:List (List AV)):List (List AV):=a++xs
def qn5(R:Row):Row:={R with fz:=max R.fz R.c.length}
def zk:Value->Bool
 |.bool _|.int _ _|.string _|.pointer none|.slice none 0 0|.map none|.nilFunc|.nilIface=>true
 |_=>false
def ofC(x:Value):AV:=match zk x with|true=>.v x|false=>.dead
def qs4:Value->AV
 |.agg cs=>match cs.toList.all zk with
   |true=>.agg (cs.toList.map .v)
   |false=>.dead
 |.tuple vs=>match vs.toList with
   |[]=>.tup []
   |_=>.dead
 |x=>ofC x
def aev(a:List AV):Operand->AV
 |.tmp t=>a.getD t .dead
 |.const x=>qs4 x
 |.func f=>.fn f []
 |.global _=>.dead
def cellsOf:AV->List AV
 |.agg cs=>cs
 |x=>[x]
def isC:AV->Bool
 |.agg _|.tup _|.dead=>false
 |_=>true
def elems(rw:List Row)(k:Nat):AV->Option (List (List AV))
 |.v (.slice none 0 0)=>some []
 |.sl a b _=>match zx a k with
   |true=>some b
   |false=>none
 |.rs r lo n c _=>match rw[r]? with
   |some R=>qmJ R k lo n c
   |none=>none
 |_=>none
def qY(rw:List Row):AV->AV
 |.sl k a f=>.sl k a (lv1 f)
 |.rs r lo n b _=>match rw[r]? with
   |some R=>match qmJ R R.k lo n b with
     |some a=>.sl R.k a 1
     |none=>.dead
   |none=>.dead
 |x=>x
def jk(rw:List Row):AV->AV
 |.agg cs=>.agg (cs.map (qY rw))
 |x=>qY rw x
def rsC:AV->List Nat
 |.rs r _ _ _ _=>[r]
 |_=>[]
def rsA:AV->List Nat
 |.agg cs=>cs.flatMap rsC
 |x=>rsC x
def frz(rw:List Row)(a:List Nat):List Row:=a.foldl (λ l r=>l.modify r qn5) rw
mutual
def rb:AV->List Nat
 |.ptr b _|.mp b=>[b]
 |.fn _ cs|.agg cs|.tup cs=>rbL cs
 |_=>[]
def rbL:List AV->List Nat
 |[]=>[]
 |x::l=>rb x++rbL l
end
mutual
def rr:AV->List Nat
 |.rs r _ _ _ _|.rpt r _ _ _=>[r]
 |.fn _ cs|.agg cs|.tup cs=>rrL cs
 |_=>[]
def rrL:List AV->List Nat
 |[]=>[]
 |x::l=>rr x++rrL l
end
mutual
def ren(fb fr:Nat->Nat):AV->AV
 |.ptr b o=>.ptr (fb b) o
 |.mp b=>.mp (fb b)
 |.rs r lo n a f=>.rs (fr r) lo n a f
 |.rpt r i o a=>.rpt (fr r) i o a
 |.fn f cs=>.fn f (qZ fb fr cs)
 |.agg cs=>.agg (qZ fb fr cs)
 |.tup cs=>.tup (qZ fb fr cs)
 |x=>x
def qZ(fb fr:Nat->Nat):List AV->List AV
 |[]=>[]
 |x::l=>ren fb fr x::qZ fb fr l
end
def refs(nb a:Nat)(x:AV):Bool:=(rb x).any (λ b=>decide (nb<=b))||(rr x).any λ r=>decide (a<=r)
def quC (b:Nat) (rw:List Row):AV->AV
 | .sl k c f => .sl k c (lv1 f)
 | .rs r lo n a f=>match decide (b<=r) with
   | true=>qY rw (.rs r lo n a f)
   | false => .rs r lo n a f
 | x=>x
def qlW(a:Nat)(rw:List Row):AV->AV
 |.agg cs=>.agg (cs.map (quC a rw))
 |x=>quC a rw x
def qj7(a:Nat)(rw:List Row):AV->AV
 |.tup vs=>.tup (vs.map (qlW a rw))
 |x=>qlW a rw x
def qc5(a:Bool)(size:Nat)(cs:List AV)(o:Nat):Option AV:=
 match a with
 |true=>match decide (o+size<=cs.length)with
   |true=>some (.agg ((cs.drop o).take size))
   |false=>none
 |false=>cs[o]?
def noMc:List AV->Bool
 |[.mc ..]=>false
 |_=>true
def jI(d:TD)(σ:St):AV->Option AV
 |.ptr b o=>match σ.bx[b]? with
   |some cs=>match noMc cs with
     |true=>qc5 d.agg d.size cs o
     |false=>none
   |none=>none
 |.rpt r i o a=>match σ.rw[r]? with
   |some R=>match qtk R i a with
     |some cs=>qc5 d.agg d.size cs o
     |none=>none
   |none=>none
 |.ept cs o=>qc5 d.agg d.size cs o
 |_=>none
def qDM(op:BinOp)(k:IntKind)(a b:Int):Option Value:=
 match op with
 |.add=>some (.int k (iw k (qf a b)))
 |.sub=>some (.int k (iw k (zX a b)))
 |.mul=>some (.int k (iw k (qsb a b)))
 |.quo=>match ieq b 0 with
   |true=>none
   |false=>some (.int k (iw k (qME a b)))
 |.rem=>match ieq b 0 with
   |true=>none
   |false=>some (.int k (qM9 a b))
 |.and=>some (.int k (qpG .and k a b))
 |.or=>some (.int k (qpG .or k a b))
 |.xor=>some (.int k (qpG .xor k a b))
 |.andNot=>some (.int k (qpG .andNot k a b))
 |.eql=>some (.bool (ieq a b))
 |.neq=>some (.bool (qg (ieq a b)))
 |.lss=>some (.bool (ilt a b))
 |.leq=>some (.bool (ile a b))
 |.gtr=>some (.bool (ilt b a))
 |.geq=>some (.bool (ile b a))
 |_=>none
def qFD(op:BinOp)(x y:ByteArray):Option Value:=
 match op with
 |.add=>match qJ0 x y with
   |some z=>some (.string z)
   |none=>none
 |.eql=>some (.bool (xeq x y))
 |.neq=>some (.bool (qg (xeq x y)))
 |.lss=>some (.bool (xlt x y))
 |.leq=>some (.bool (qrl (xlt x y) (xeq x y)))
 |.gtr=>some (.bool (qg (qrl (xlt x y) (xeq x y))))
 |.geq=>some (.bool (qg (xlt x y)))
 |_=>none
def qsI(op:BinOp)(x y:Value):Option Value:=
 match x,y with
 |.int k a,.int c b=>match op with
   |.shl=>match ilt b 0 with
     |true=>none
     |false=>some (.int k (qOb k a b))
   |.shr=>match ilt b 0 with
     |true=>none
     |false=>some (.int k (qpg k a b))
   |op=>match decide (k=c)with
     |true=>qDM op k a b
     |false=>none
 |.string a,.string b=>qFD op a b
 |_,_=>none
def unA(op:UnOp)(x:Value):Option Value:=
 match op,x with
 |.neg,.int k n=>some (.int k (iw k (zX 0 n)))
 |.not,.bool b=>some (.bool (qg b))
 |_,_=>none
def qna(place:Nat->Option (Nat×Nat))(cells:List AV):List (Nat×AV)->Option (List AV)
 |[]=>some cells
 |(i,x)::a=>match place i with
   |none=>none
   |some (off,size)=>match decide ((cellsOf x).length=size)&&decide (off+size<=cells.length)&&(cellsOf x).all isC with
     |true=>qna place (cells.take off++(cellsOf x++cells.drop (off+size))) a
     |false=>none
def qv3(y:Nat):AV->Option Nat
 |.v (.int _ i)=>bnd y i
 |_=>none
def qdF(d:Nat)(y:Nat):Option AV->Option Nat
 |none=>some d
 |some x=>qv3 y x
structure Cfg where
 ty:Nat->Option TD
 fn:Nat->Option Func
 prim:Nat->Option (St->List AV->Option (AV×Option St))
 raw:Nat->Bool
 pur:Code->List Nat
 lo:Nat->Bool
 inl:Nat->Option Func
def qiX(k n:Nat)(rw:List Row)(ps:List (Nat×AV)):Bool:=
 decide (ps.length=n)&&decide (n*k<=2^24)&&decide (0<k)&&(ps.zipIdx).all λ p=>decide (p.1.1=p.2)&&decide ((cellsOf p.1.2).length=k)&&(cellsOf p.1.2).all λ x=>qv (qY rw x)
def yn:List KC->List AV->Bool
 |[],[]=>true
 |.str::l,.v (.string _)::r=>yn l r
 |.int k::l,.v (.int a _)::r=>decide (a=k)&&yn l r
 |.bool::l,.v (.bool _)::r=>yn l r
 |_,_=>false
def qfb:AV->AV->Bool
 |.v (.string a),.v (.string b)=>xeq a b
 |.v (.int _ a),.v (.int _ b)=>ieq a b
 |.v (.bool a),.v (.bool b)=>Q7 a b
 |_,_=>false
def jz:List AV->List AV->Bool
 |[],[]=>true
 |x::l,y::r=>qfb x y&&jz l r
 |_,_=>false
def JU(k:List AV):List (List AV)->Nat->Option Nat
 |[],_=>none
 |e::a,i=>match jz k e with
   |true=>some i
   |false=>JU k a (i+1)
def QT:AV->Bool
 |.agg _=>true
 |_=>false
def QB(g:Bool)(cs:List AV):AV:=match g with
 |true=>.agg cs
 |false=>match cs with
   |[x]=>x
   |_=>.dead
def qpf(σ:St)(f:List KC)(g e:Bool):AV->Option (Nat×List (List AV)×List (List AV))
 |.mp b=>match σ.bx[b]? with
   |some [.mc c d a ks vs]=>match decide (c=f)&&(Q7 d g&&Q7 a e)with
     |true=>some (b,ks,vs)
     |false=>none
   |_=>none
 |_=>none
def qpD(a:List KC)(b:Bool)(x:AV):Bool:=Q7 (QT x) b&&yn a (cellsOf x)
def qwY(b:Bool)(a:Nat)(x:AV):Bool:=Q7 (QT x) b&&decide ((cellsOf x).length=a)&&(cellsOf x).all qv
def qtc(c:List KC)(a:Bool)(b:List Value)(ks vs:List (List AV))(k:List AV):Option (AV×Bool):=match JU k ks 0 with
 |some j=>match vs[j]? with
   |some v=>some (QB a v,true)
   |none=>none
 |none=>some (QB a (b.map .v),false)
def qhM(ks vs:List (List AV))(k v:List AV):List (List AV)×List (List AV):=match JU k ks 0 with
 |some j=>(ks,vs.set j v)
 |none=>(ks++[k],vs++[v])
def qcS(C:Cfg)(a:List AV)(σ:St)(t:Nat)(x k v:Operand):Option (AV×Option St):=match C.ty t with
 |some ⟨_,_,_,_,.map d e c f _⟩=>match qpf σ d e c (aev a x),qpD d e (aev a k)&&qwY c f (aev a v)with
   |some (b,ks,vs),true=>some (.tup [],some {σ with bx:=σ.bx.set b [.mc d e c (qhM ks vs (cellsOf (aev a k)) (cellsOf (aev a v))).1 (qhM ks vs (cellsOf (aev a k)) (cellsOf (aev a v))).2],wr:=b::σ.wr})
   |_,_=>none
 |_=>none
def qc(C:Cfg)(q:List AV)(σ:St)(op:Op):Option (AV×Option St):=
 match op with
 |.move x|.assign x=>some (aev q x,none)
 |.pick c a b=>match aev q c with
   |.v (.bool true)=>some (aev q a,none)
   |.v (.bool false)=>some (aev q b,none)
   |_=>none
 |.alloc e=>match C.ty e with
   |some d=>match d.zero.all zk with
     |true=>some (.ptr σ.bx.length 0,some {σ with bx:=σ.bx++[d.zero.map .v]})
     |false=>none
   |none=>none
 |.box e x=>match C.ty e with
   |some _=>match(cellsOf (aev q x)).all isC with
     |true=>some (.ptr σ.bx.length 0,some {σ with bx:=σ.bx++[cellsOf (aev q x)]})
     |false=>none
   |none=>none
 |.build t parts=>match C.ty t with
   |some ⟨_,_,_,z,.struct A⟩=>match z.all zk with
     |true=>match qna (λ i=>match A[i]? with|some f=>some (f.1,f.2.1)|none=>none) (z.map .v) (parts.toList.map λ p=>(p.1,aev q p.2))with
       |some cs=>some (.agg cs,none)
       |none=>none
     |false=>none
   |_=>none
 |.buildSlice t n parts=>match C.ty t with
   |some ⟨_,_,_,_,.slice _ k _ _⟩=>
     match qiX k n σ.rw (parts.toList.map λ p=>(p.1,aev q p.2))with
     |true=>match parts.toList.flatMap λ p=>rsA (aev q p.2)with
       |[]=>some (.sl k (parts.toList.map λ p=>(cellsOf (aev q p.2)).map (qY σ.rw)) 2,none)
       |r::l=>some (.sl k (parts.toList.map λ p=>(cellsOf (aev q p.2)).map (qY σ.rw)) 2,some {σ with rw:=frz σ.rw (r::l),wrr:=(r::l)++σ.wrr})
     |false=>none
   |_=>none
 |.load t a=>match C.ty t with
   |some d=>match jI d σ (aev q a)with
     |some x=>some (x,none)
     |none=>none
   |none=>none
 |.store t a x=>match C.ty t,aev q a with
   |some d,.ptr b o=>match σ.bx[b]? with
     |some cs=>match noMc cs&&decide ((cellsOf (aev q x)).length=d.size)&&decide (o+d.size<=cs.length)&&(cellsOf (aev q x)).all isC with
       |true=>some (undefA',some {σ with bx:=σ.bx.set b (cs.take o++(cellsOf (aev q x)++cs.drop (o+d.size))),wr:=b::σ.wr})
       |false=>none
     |none=>none
   |some d,.rpt r i o u=>match σ.rw[r]? with
     |some R=>match qsY R i o u d.size (cellsOf (aev q x))with
       |some R'=>some (undefA',some {σ with rw:=σ.rw.set r R',wrr:=r::σ.wrr})
       |none=>none
     |none=>none
   |_,_=>none
 |.makeSlice t n m=>match C.ty t,aev q n,aev q m with
   |some ⟨_,_,_,_,.slice _ k bytes z⟩,.v (.int _ a),.v (.int _ b)=>match decide (a=b/\0<=a/\a.toNat*bytes<=2^47/\a.toNat<2^62/\0<k/\z.length=k)&&z.all zk&&(z.map .v).all qv with
     |true=>match zx a.toNat 0 with
       |true=>some (.sl k [] 2,none)
       |false=>some (.rs σ.rw.length 0 a.toNat 0 false,some {σ with rw:=σ.rw++[⟨k,List.replicate a.toNat (z.map .v),0,0,false⟩]})
     |false=>none
   |_,_,_=>none
 |.nilCheck x=>match aev q x with
   |.ptr b o=>some (.ptr b o,none)
   |.rpt r i o u=>some (.rpt r i o u,none)
   |.ept cs o=>some (.ept cs o,none)
   |_=>none
 |.binOp op t x y _=>match aev q x,aev q y with
   |.v (.bool a),.v (.bool b)=>match op,C.ty t with
     |.eql,some ⟨_,_,_,_,.bool⟩=>some (.v (.bool (Q7 a b)),none)
     |.neq,some ⟨_,_,_,_,.bool⟩=>some (.v (.bool (qg (Q7 a b))),none)
     |_,_=>none
   |.v (.pointer none),.v (.pointer none)=>match op,C.ty t with
     |.eql,some ⟨_,_,_,_,.ptr⟩=>some (.v (.bool true),none)
     |.neq,some ⟨_,_,_,_,.ptr⟩=>some (.v (.bool false),none)
     |_,_=>none
   |.v a,.v b=>match qsI op a b with
     |some z=>some (.v z,none)
     |none=>none
   |a,b=>match qrP a&&qFz b,op,C.ty t with
     |true,.eql,some ⟨_,_,_,_,.ptr⟩=>some (.v (.bool false),none)
     |true,.neq,some ⟨_,_,_,_,.ptr⟩=>some (.v (.bool true),none)
     |_,_,_=>none
 |.unOp op _ x=>match aev q x with
   |.v a=>match unA op a with
     |some z=>some (.v z,none)
     |none=>none
   |_=>none
 |.convert s d x=>match C.ty s,C.ty d,aev q x with
   |some _,some ⟨_,_,_,_,.int k⟩,.v (.int _ n)=>some (.v (.int k (iw k n)),none)
   |some _,some ⟨_,_,_,_,.string⟩,.v (.string s)=>some (.v (.string s),none)
   |some ⟨_,_,_,_,.string⟩,some ⟨_,_,_,_,.slice e 1 _ _⟩,.v (.string b)=>match qsl (C.ty e)with
     |true=>some (.rs σ.rw.length 0 b.size 0 false,some {σ with rw:=σ.rw++[⟨1,qcT b,0,0,false⟩]})
     |false=>none
   |some ⟨_,_,_,_,.slice e 1 _ _⟩,some ⟨_,_,_,_,.string⟩,y=>match qsl (C.ty e),elems σ.rw 1 y with
     |true,some w=>match qs1 w with
       |some l=>some (.v (.string ⟨l.toArray⟩),none)
       |none=>none
     |_,_=>none
   |_,_,_=>none
 |.makeFunc (.func f) A cs=>match A.toList with
   |[]=>some (.fn f (cs.toList.map (aev q)),none)
   |_=>none
 |.slice t x lo F none=>match C.ty t,aev q x with
   |some ⟨_,_,_,_,.string⟩,.v (.string s)=>match qdF (qpQ s) (qpQ s) (F.map (aev q))with
     |some h=>match qdF 0 h (lo.map (aev q))with
       |some l=>some (.v (.string (qFv s l h)),none)
       |none=>none
     |none=>none
   |some ⟨_,_,_,_,.slice _ k _ _⟩,.sl H w f=>match zx H k&&pos f with
     |true=>match qdF (qaO w) (qaO w) (F.map (aev q))with
       |some h=>match qdF 0 h (lo.map (aev q))with
         |some l=>some (.sl k (qKo w l h) (lvS f (zx h (qaO w))),none)
         |none=>none
       |none=>none
     |false=>none
   |some ⟨_,_,_,_,.slice _ _ _ _⟩,.v (.slice none 0 0)=>match qdF 0 0 (F.map (aev q))with
     |some h=>match qdF 0 h (lo.map (aev q))with
       |some _=>some (.v (.slice none 0 0),none)
       |none=>none
     |none=>none
   |some ⟨_,_,_,_,.slice _ k _ _⟩,.rs r o n u _=>match qdF n n (F.map (aev q)),σ.rw[r]? with
     |some h,some R=>match qdF 0 h (lo.map (aev q))with
       |some l=>match zx h n,qCT R k o n u l with
         |true,some R'=>some (.rs r 0 (n-l) (u+1) false,some {σ with rw:=σ.rw.set r R',wrr:=r::σ.wrr})
         |_,_=>none
       |none=>none
     |_,_=>none
   |_,_=>none
 |.fieldAddr t x i=>match C.ty t with
   |some ⟨_,_,_,_,.struct A⟩=>match A[i]? with
     |some (off,size,_)=>match size with
       |0=>none
       |_+1=>match aev q x with
         |.ptr b o=>some (.ptr b (o+off),none)
         |.rpt r j o u=>some (.rpt r j (o+off) u,none)
         |.ept cs o=>some (.ept cs (o+off),none)
         |_=>none
     |none=>none
   |_=>none
 |.field t x i=>match C.ty t,aev q x with
   |some ⟨_,_,_,_,.struct A⟩,.agg cs=>match A[i]? with
     |some (off,size,g)=>match qc5 g size cs off with
       |some y=>some (y,none)
       |none=>none
     |none=>none
   |_,_=>none
 |.indexAddr t x i=>match C.ty t,aev q i with
   |some ⟨_,_,_,_,.slice _ k _ _⟩,.v (.int _ j)=>match aev q x with
     |.sl H w _=>match zx H k with
       |true=>match qIP w j with
         |some cs=>some (.ept cs 0,none)
         |none=>none
       |false=>none
     |.rs r lo n u _=>match σ.rw[r]? with
       |some R=>match qII R k lo n u j with
         |some p=>some (.rpt r p 0 u,none)
         |none=>none
       |none=>none
     |_=>none
   |some ⟨_,_,_,_,.array n _ k⟩,.v (.int _ j)=>match aev q x with
     |.ptr b o=>match decide (0<=j/\j<(n:Int))with
       |true=>some (.ptr b (o+j.toNat*k),none)
       |false=>none
     |_=>none
   |_,_=>none
 |.index t x i=>match C.ty t,aev q x,aev q i with
   |some ⟨_,_,_,_,.string⟩,.v (.string s),.v (.int _ j)=>match qKq s j with
     |some b=>some (.v (.int .u8 b),none)
     |none=>none
   |_,_,_=>none
 |.extract x i=>match aev q x with
   |.tup vs=>match vs[i]? with
     |some y=>some (y,none)
     |none=>none
   |_=>none
 |.makeMap t none=>match C.ty t with
   |some ⟨_,_,_,_,.map D E B _ _⟩=>some (.mp σ.bx.length,some {σ with bx:=σ.bx++[[.mc D E B [] []]]})
   |_=>none
 |.lookup t x k K=>match C.ty t with
   |some ⟨_,_,_,_,.map D E B J G⟩=>match qpf σ D E B (aev q x),qpD D E (aev q k)&&(G.all zk&&decide (G.length=J)&&(B||decide (J=1)))with
     |some (_,ks,vs),true=>match qtc D B G ks vs (cellsOf (aev q k))with
       |some (v,b)=>some (match K with|true=>.tup [v,.v (.bool b)]|false=>v,none)
       |none=>none
     |_,_=>none
   |_=>none
 |.mapUpdate t x k v|.insert t x k v=>qcS C q σ t x k v
 |_=>none
where undefA':AV:=.tup []
def yg(k bytes:Nat)(σ:St)(s:AV)(xs:List (List AV)):Option (AV×Option St):=
 match s with
 |.v (.slice none 0 0)=>match zx (qaO xs) 0 with
   |true=>some (.v (.slice none 0 0),none)
   |false=>match rowNew k bytes xs with
     |some (R,n)=>some (.rs σ.rw.length 0 n 0 false,some {σ with rw:=σ.rw++[R]})
     |none=>none
 |.sl c a f=>match zx (qaO xs) 0 with
   |true=>match pos f with
     |true=>some (.sl c a f,none)
     |false=>none
   |false=>match decide (1<f)&&zx c k&&uni k a with
     |true=>match rowNew k bytes (qlG a xs)with
       |some (R,n)=>some (.rs σ.rw.length 0 n 0 false,some {σ with rw:=σ.rw++[R]})
       |none=>none
     |false=>none
 |.rs r lo n b f=>match zx (qaO xs) 0 with
   |true=>some (.rs r lo n b f,none)
   |false=>match σ.rw[r]? with
     |some R=>match qsV R k lo n b f bytes xs with
       |some (R',m)=>some (.rs r 0 m (b+1) false,some {σ with rw:=σ.rw.set r R',wrr:=r::σ.wrr})
       |none=>none
     |none=>none
 |_=>none
def qcL:TK->Bool
 |.slice .. => true
 |_=>false
def qlJ:TK->Bool
 |.string=>true
 |_=>false
def qiQ(d:TD):AV->Option Nat
 |.v (.string s)=>match qlJ d.k with|true=>some (qpQ s)|false=>none
 |.v (.slice none 0 0)=>match qcL d.k with|true=>some 0|false=>none
 |.sl _ a _=>match qcL d.k with|true=>some (qaO a)|false=>none
 |.rs _ _ n _ _=>match qcL d.k with|true=>some n|false=>none
 |_=>none
def qJS(k:TK)(σ:St)(x:AV):Option Nat:=match k with
 |.map b c a _ _=>match qpf σ b c a x with
   |some (_,ks,_)=>some ks.length
   |none=>none
 |_=>none
def jH(C:Cfg)(σ:St)(b:Builtin)(ts:Array TypeId)(c:List AV):Option (AV×Option St):=
 match b,c with
 |.len,[x]=>match ts[0]? with
   |some t=>match C.ty t with
     |some d=>match qiQ d x with
       |some n=>some (.v (.int .i64 n),none)
       |none=>match qJS d.k σ x with
         |some n=>some (.v (.int .i64 n),none)
         |none=>none
     |none=>none
   |none=>none
 |.append,[s,x]=>match ts[0]?,ts[1]? with
   |some t,some u=>match C.ty t,C.ty u with
     |some ⟨_,_,_,_,.slice _ k bytes z⟩,some ⟨_,_,_,_,.slice _ _ _ _⟩=>match decide (0<k)&&decide (z.length=k)with
       |true=>match elems σ.rw k x with
         |some xs=>match uni k xs with
           |true=>yg k bytes σ s xs
           |false=>none
         |none=>none
       |false=>none
     |some ⟨_,_,_,_,.slice e 1 bytes z⟩,some ⟨_,_,_,_,.string⟩=>match decide (z.length=1)&&qsl (C.ty e),x with
       |true,.v (.string b)=>yg 1 bytes σ s (qcT b)
       |_,_=>none
     |_,_=>none
   |_,_=>none
 |.max,[.v (.int k a),.v (.int f b)]=>match decide (k=f)with|true=>some (.v (.int k (qnM a b)),none)|false=>none
 |.min,[.v (.int k a),.v (.int f b)]=>match decide (k=f)with|true=>some (.v (.int k (qMS a b)),none)|false=>none
 |_,_=>none
inductive Ex where
 |normal|exit (id:Nat)|ret
 deriving DecidableEq
def qo4(σ:St)(a:AV)(σ':St):Bool:=
 refs σ.bx.length σ.rw.length (qj7 σ.rw.length σ'.rw a)||(σ'.wr.filter λ b=>decide (b<σ.bx.length)).any λ b=>(σ'.bx.getD b []).any (refs σ.bx.length σ.rw.length)
def qbO(σ:St)(a:AV)(σ':St):AV×Option St:=
 match qo4 σ a σ' with
 |true=>(a,some {σ' with wr:=σ'.wr.filter λ b=>decide (b<σ.bx.length),wrr:=σ'.wrr.filter λ b=>decide (b<σ.rw.length)})
 |false=>match(σ'.wr.filter λ b=>decide (b<σ.bx.length))++σ'.wrr.filter λ b=>decide (b<σ.rw.length)with
   |[]=>(qj7 σ.rw.length σ'.rw a,none)
   |_::_=>(qj7 σ.rw.length σ'.rw a,some ⟨σ'.bx.take σ.bx.length,σ'.rw.take σ.rw.length,σ'.wr.filter λ b=>decide (b<σ.bx.length),σ'.wrr.filter λ b=>decide (b<σ.rw.length)⟩)
def qlk(C:Cfg)(b:List AV)(σ:St):ResultVar->Option AV
 |.tmp t=>some (b.getD t .dead)
 |.cell a t=>match C.ty t with
   |some d=>jI d σ (b.getD a .dead)
   |none=>none
def Qp(C:Cfg)(a:List AV)(σ:St):List ResultVar->Option (List AV)
 |[]=>some []
 |r::l=>match qlk C a σ r with
   |some x=>match Qp C a σ l with
     |some xs=>some (x::xs)
     |none=>none
   |none=>none
def zY:List AV->AV
 |[x]=>x
 |l=>.tup l
def qa2(C:Cfg)(fn:Func)(s:S):Option AV:=
 match Qp C s.tm s.σ fn.results.toList with
 |some l=>some (zY l)
 |none=>none
abbrev QG:=Code->S->Option (Ex×S)
def qhY(fn:Func)(σ:St)(a:List AV):S:=⟨a++List.replicate (fn.ntmps-a.length) .dead,{σ with wr:=[],wrr:=[]}⟩
def qjz(C:Cfg)(fn:Func)(σ:St)(a:S):Option (AV×Option St):=
 match qa2 C fn a with
 |some r=>some (qbO σ r a.σ)
 |none=>none
def qbV(C:Cfg)(ex:QG)(σ:St)(f:FuncId)(a:List AV):Option (AV×Option St):=
 match C.prim f with
 |some p=>p σ a
 |none=>match C.fn f with
   |none=>none
   |some fn=>match fn.body with
     |none=>none
     |some c=>match ex c (qhY fn σ a)with
       |some (.ret,b)|some (.normal,b)=>qjz C fn σ b
       |_=>none
def qj(l:List Nat):List Nat->List Nat
 |[]=>[]
 |b::a=>match l.contains b with
   |true=>qj l a
   |false=>b::qj (b::l) a
def qoN(a:List (List AV)):Nat->List Nat->List Nat
 |0,l=>l
 |n+1,l=>match qj l (l.flatMap λ b=>rbL (a.getD b []))with
   |[]=>l
   |b::c=>qoN a n (l++(b::c))
def QH(σ:St)(a:List AV):List Nat:=qoN σ.bx σ.bx.length (qj [] (rbL a))
def qbE(σ:St)(a:List AV):List Nat:=qj [] (rrL a++(QH σ a).flatMap λ b=>rrL (σ.bx.getD b []))
def nd:List Nat->Bool
 |[]=>true
 |b::l => !l.contains b&&nd l
def qgF(σ:St)(a:List AV):Bool:=
 nd (QH σ a)&&nd (qbE σ a) &&   (rbL a).all (λ b=>(QH σ a).contains b)&&(rrL a).all (λ r=>(qbE σ a).contains r)&&(QH σ a).all (λ b=>decide (b<σ.bx.length)&&(rbL (σ.bx.getD b [])).all (λ b=>(QH σ a).contains b)&&(rrL (σ.bx.getD b [])).all λ r=>(qbE σ a).contains r)&&(qbE σ a).all λ r=>decide (r<σ.rw.length)
def qQ(σ:St)(c a:List Nat):St:=
 ⟨c.map λ b=>qZ (λ b=>c.idxOf b) (λ r=>a.idxOf r) (σ.bx.getD b []),a.map λ r=>σ.rw.getD r ⟨0,[],0,0,false⟩,[],[]⟩
def yd(l:List Nat)(n i:Nat):Nat:=match l[i]? with
 |some b=>b
 |none=>n+(i-l.length)
def z8{α:Type}(l:List α):List Nat->List α->List α
 |[],xs=>l++xs
 |_,[]=>l
 |b::a,x::xs=>z8 (l.set b x) a xs
def qhR(σ:St)(b a:List Nat)(σ':St):St:=
 ⟨z8 σ.bx b (σ'.bx.map (qZ (yd b σ.bx.length) (yd a σ.rw.length))),z8 σ.rw a σ'.rw,σ'.wr.map (yd b σ.bx.length)++σ.wr,σ'.wrr.map (yd a σ.rw.length)++σ.wrr⟩
def qh3(σ:St)(b a:List Nat):AV×Option St->AV×Option St
 |(r,none)=>(ren (yd b σ.bx.length) (yd a σ.rw.length) r,none)
 |(r,some σ')=>(ren (yd b σ.bx.length) (yd a σ.rw.length) r,some (qhR σ b a σ'))
def qji(C:Cfg)(σ:St)(f:FuncId)(a:List AV):List AV×Option St:=
 match C.raw f with
 |true=>(a,none)
 |false=>match a.flatMap rsA with
   |[]=>(a.map (jk σ.rw),none)
   |r::l=>(a.map (jk σ.rw),some {σ with rw:=frz σ.rw (r::l),wrr:=(r::l)++σ.wrr})
def Qu(σ:St)(a:List AV)(c:St->List AV->Option (AV×Option St)):Option (AV×Option St):=
 match qgF σ a with
 |true=>match c (qQ σ (QH σ a) (qbE σ a)) (qZ (λ b=>(QH σ a).idxOf b) (λ r=>(qbE σ a).idxOf r) a)with
   |some r=>some (qh3 σ (QH σ a) (qbE σ a) r)
   |none=>none
 |false=>none
def isV:AV->Bool
 |.v _=>true
 |_=>false
def qjx:AV->Bool
 |.tup vs=>vs.all isV
 |x=>isV x
def qoi(a:List AV)(σ:St):Option (AV×Option St)->Option (AV×Option St)
 |some (r,none)=>match qjx r&&(rbL a).isEmpty&&(rrL a).isEmpty with
   |true=>some (r,none)
   |false=>some (r,some σ)
 |r=>r
def qbL(C:Cfg)(ex:QG)(σ:St)(f:FuncId)(a:List AV):Option (AV×Option St):=
 match qji C σ f a with
 |(a,none)=>Qu σ a λ σ a=>qbV C ex σ f a
 |(a,some σ')=>qoi a σ' (Qu σ' a λ σ a=>qbV C ex σ f a)
def jE(x:AV):Bool:=(rb x).isEmpty&&(rr x).isEmpty
def noRefs(xs:List AV):Bool:=xs.all jE
def qy0(C:Cfg)(ex:QG)(σ:St)(fn:Func)(a:List AV):Option (AV×Option St):=match fn.body with
 |none=>none
 |some c=>match ex c ⟨a++List.replicate (fn.ntmps-a.length) .dead,σ⟩with
   |some (.exit _,_)=>none
   |some (_,b)=>match qa2 C fn b with
     |some r=>some (r,some b.σ)
     |none=>none
   |none=>none
def qdU(C:Cfg)(ex:QG)(σ:St)(f:FuncId)(a:List AV):Option (AV×Option St):=
 match C.lo f with
 |true=>match C.inl f with
   |some fn=>qy0 C ex σ fn a
   |none=>qbL C ex σ f a
 |false=>match C.raw f,noRefs (a.map (jk σ.rw))with
   |false,true=>match qbL C ex σ f a with
     |some (r,o)=>match jE r with
       |true=>some (r,o)
       |false=>none
     |none=>none
   |_,_=>none
def qhp(b:List AV):Callee->Option (FuncId×List AV)
 |.value f=>match aev b f with
   |.fn f a=>some (f,a)
   |_=>none
 |_=>none
def opA(C:Cfg)(ex:QG)(d:List AV)(σ:St)(op:Op):Option (AV×Option St):=
 match op with
 |.call c=>match c.callee with
   |.builtin b=>jH C σ b c.argTypes (c.args.toList.map (aev d))
   |e=>match qhp d e with
     |some (f,a)=>qdU C ex σ f (c.args.toList.map (aev d)++a)
     |none=>none
 |op=>qc C d σ op
def yC(ops:Array Oper)(c:List AV)(o:Oper):Option Bool:=
 match o.guard with
 |none=>some true
 |some (j,a)=>match(ops[j]?).bind (·.dst)with
   |none=>none
   |some d=>match c.getD d .dead with
     |.v (.bool b)=>some (Q7 b a)
     |.tup []=>some false
     |_=>none
def qcM(a:List AV):Option Tmp->AV->List AV
 |none,_=>a
 |some d,x=>a.set d x
def qoc:AV:=.tup []
def zm(b:Nat->Bool):Op->Bool
 |.store ..|.mapUpdate ..|.insert ..|.makeMap .. => true
 |.call {callee:=.builtin .append,.. }=>true
 |.call {callee:=.value (.func f),.. }=>b f
 |_=>false
def turn(σ:St):Option St->St
 |none=>σ
 |some σ'=>σ'
def Qd:Op->Bool
 |.load .. |.store .. |.indexAddr .. |.convert .. |.lookup .. |.mapUpdate .. |.insert .. => true
 |.call {callee:=.builtin .max,.. }|.call {callee:=.builtin .min,.. }=>false
 |.call _=>true
 |_=>false
def jF(o:Oper):List Nat:=(o.after.toList.filter (Region.binds .any)).map (·.on)
def qrO(a:List Nat)(o:Oper):Nat:=(jF o).foldl (λ m e=>m|||(2^e|||a.getD e 0)) 0
def QX:List Oper->List Nat->List Nat
 |[],a=>a
 |o::r,a=>QX r (a++[qrO a o])
def qbr(ops:Array Oper)(o:Oper):List Tmp:=
 o.dst.toList++(o.op.operands.toList.filterMap λ|.tmp t=>some t|_=>none)++match o.guard with
  |none=>[]
  |some (j,_)=>((ops[j]?).bind (·.dst)).toList
def qnu(t:Tmp)(o:Oper):Bool:=match o.dst with
 |some d=>Nat.beq d t
 |none=>false
def qd1(ops:List Oper)(t:Tmp):List (Oper×Nat):=ops.zipIdx.filter λ p=>qnu t p.1
def qNQ:Op->Option Tmp
 |.fieldAddr _ (.tmp u) _|.move (.tmp u)|.assign (.tmp u)|.nilCheck (.tmp u)=>some u
 |_=>none
def qnz(ops:Array Oper):Nat->Nat->Tmp->Option Tmp
 |0,_,_=>none
 |n+1,k,t=>match qd1 ops.toList t with
   |[]=>some t
   |[(o,i)]=>match qNQ o.op,decide (i<k)with
     |some u,true=>qnz ops n i u
     |_,_=>none
   |_=>none
def qCK(ops:Array Oper)(k:Nat)(t:Tmp):Option Tmp:=qnz ops 6 k t
def yY(a:List AV)(ops:Array Oper)(k:Nat)(t:Tmp):Option Nat:=match qCK ops k t with
 |some u=>match a.getD u .dead with
   |.ptr b _=>some b
   |_=>none
 |none=>none
def qNL:AV->Bool
 |.rpt ..|.ept .. => true
 |_=>false
def qdO(a:List AV)(ops:Array Oper)(k:Nat)(t:Tmp):Bool:=match qCK ops k t with
 |some u=>qNL (a.getD u .dead)
 |none=>false
def qjJ(c:List AV)(ops:Array Oper)(j:Nat)(o:Oper)(i:Nat)(q:Oper):Bool:=match o.op,q.op with
 |.store _ (.tmp a) _,.load _ (.tmp b)=>match yY c ops j a,yY c ops i b with
   |some x,some y => !Nat.beq x y
   |some _,none=>qdO c ops i b
   |_,_=>false
 |.call ⟨.builtin .append,_,_⟩,.load _ (.tmp b)|.call ⟨.value _,_,_⟩,.load _ (.tmp b)=>(yY c ops i b).isSome
 |_,_=>false
def qgc(a:List AV)(ops:Array Oper)(j:Nat)(o:Oper)(i:Nat)(q:Oper):Bool:=qjJ a ops j o i q||qjJ a ops i q j o
def qxX(C:Cfg)(c:List AV)(σ:St):Op->List Nat
 |.call ⟨.value g,as,_⟩=>match qhp c (.value g)with
   |some (f,b)=>match C.inl f with
     |some _=>List.range σ.bx.length
     |none=>match qji C σ f (as.toList.map (aev c)++b)with
       |(a,none)=>QH σ a
       |(a,some σ')=>QH σ' a
   |none=>[]
 |_=>[]
def qzQ:Op->Bool
 |.call ⟨.value _,_,_⟩=>true
 |_=>false
def qc2(C:Cfg)(ops:Array Oper)(j:Nat)(b:List AV)(σ:St)(op:Op):Bool := !qzQ op||ops.toList.zipIdx.all λ(q,i)=>match q.op with
 |.load _ (.tmp a)=>((QX ops.toList []).getD (max i j) 0).testBit (min i j)||match yY b ops i a with
   |some y=>decide (y<σ.bx.length) && !(qxX C b σ op).contains y
   |none=>false
 |_=>true
def zD(C:Cfg)(ex:QG)(ops:Array Oper)(b:Bool):List Oper->S->Option S
 |[],s=>some s
 |o::a,s=>match yC ops s.tm o with
   |some true=>match opA C ex s.tm s.σ o.op with
     |some (x,none)=>zD C ex ops b a ⟨qcM s.tm o.dst x,s.σ⟩
     |some (x,some σ')=>match b && !(zm C.lo o.op&&qc2 C ops (ops.size-(a.length+1)) s.tm s.σ o.op)with
       |true=>none
       |false=>zD C ex ops b a ⟨qcM s.tm o.dst x,σ'⟩
     |none=>none
   |some false=>zD C ex ops b a ⟨qcM s.tm o.dst qoc,s.σ⟩
   |none=>none
def qr4:Op->Bool
 |.makeMap _ _=>true
 |_=>false
def qnk(a:Nat->Bool):Op->Bool
 |.load .. |.indexAddr .. => true
 |.call ⟨.value (.func f),_,_⟩ => !a f
 |_=>false
def qlO(a:Nat->Bool)(o q:Oper):Bool:=zm a o.op&&((Qd q.op||zm a q.op) && !(qr4 o.op&&qnk a q.op))
def qqz(a:Nat->Bool)(o q:Oper):Bool:=qlO a o q||qlO a q o
def qj1(a:Nat->Bool)(b:List AV)(ops:Array Oper)(j:Nat)(o:Oper)(i:Nat)(q:Oper):Bool:=
 (match q.dst with|some d=>(qbr ops o).contains d|none=>false)||(qqz a o q && !qgc b ops j o i q)
def qb6(a:Nat->Bool)(c:List AV)(ops:Array Oper):Bool:=
 let b:=QX ops.toList []
 ops.toList.zipIdx.all λ(o,j)=>((jF o).all λ e=>decide (e<j))&&ops.toList.zipIdx.all λ(q,i)=>
  decide (i=j) || !qj1 a c ops j o i q||(b.getD (max i j) 0).testBit (min i j)
def qo6(a:Nat->Bool)(ops:Array Oper)(o q:Oper):Bool:=
 (match q.dst with|some d=>(qbr ops o).contains d|none=>false)||(zm a o.op&&zm a q.op)
def qcZ(a:Nat->Bool)(ops:Array Oper):Bool:=
 let b:=QX ops.toList []
 ops.toList.zipIdx.all λ(o,j)=>((jF o).all λ e=>decide (e<j))&&ops.toList.zipIdx.all λ(q,i)=>
  decide (i=j) || !qo6 a ops o q||(b.getD (max i j) 0).testBit (min i j)
def qfh(b:Nat->Bool)(c:List AV)(ops:Array Oper)(a:Bool):Bool:=match a with
 |true=>qb6 b c ops
 |false=>true
def stP(o:Oper):Option (Tmp×Operand):=match o.op with
 |.store _ (.tmp a) v=>match o.guard,o.dst with
   |none,none=>some (a,v)
   |_,_=>none
 |_=>none
def ixP(o:Oper):Option Tmp:=match o.op with
 |.indexAddr _ _ _=>match o.guard,o.dst with
   |none,some d=>some d
   |_,_=>none
 |_=>none
def qJP(d:Tmp):Operand->Bool
 |.tmp t => !Nat.beq t d
 |_=>true
def quH:Nat->Nat->Bool
 |0,_=>true
 |k+1,b=>b.testBit k&&quH k b
def qIR(a:List Nat)(m:Nat)(p o q:Oper):Bool:=((jF p).all λ e=>Nat.blt e m)&&(((jF o).all λ e=>Nat.blt e (m+1))&&(((jF q).all λ e=>Nat.blt e m)&&(quH m (a.getD m 0)&&(quH (m+1) (a.getD (m+1) 0)&&quH m (a.getD (m+2) 0)))))
def qRR(c:List Nat)(n:Nat):List Oper->Option Tmp
 |[p,o,q]=>match ixP p,stP o,stP q with
   |some d,some a,some b=>match(Nat.beq a.1 d&&(!Nat.beq b.1 d&&qJP d b.2))&&qIR c n p o q with
     |true=>some b.1
     |false=>none
   |_,_,_=>none
 |_=>none
def qhW(ops:Array Oper):List Oper:=ops.toList.drop (ops.toList.length-3)
def qcD(ops:Array Oper):Array Oper:=⟨ops.toList.take (ops.toList.length-3)⟩
def qpS(ops:Array Oper)(a:Bool):Option Tmp:=match a with
 |true=>qRR (QX ops.toList []) (ops.toList.length-3) (qhW ops)
 |false=>none
def qzd:AV->Bool
 |.ptr _ _=>true
 |_=>false
def qJ2(a:List AV)(ops:Array Oper):Bool:=match qhW ops with
 |p::_=>match p.op with
   |.indexAddr _ u _ => !qzd (aev a u)
   |_=>false
 |[]=>false
def qvT(a:List AV)(ops:Array Oper)(p:Tmp):Bool:=qzd (a.getD p .dead)&&qJ2 a ops
def zQ(o:Oper):Bool:=match o.op with
 |.alloc _=>true
 |_=>false
def qjA(ops:Array Oper)(a:Bool):Bool:=a&&ops.toList.any zQ
def qO0(ops:List Oper)(o:Oper):Bool := !zQ o&&ops.any λ q=>zQ q&&match q.dst with
 |some d=>(qbr ⟨ops⟩ o).contains d
 |none=>false
def qJ6(ops:List Oper):List Oper->Nat
 |[]=>0
 |o::r=>match qO0 ops o with
   |true=>0
   |false=>qJ6 ops r+1
def qcW(_:Nat->Bool)(ops:List Oper):Nat:=qJ6 ops ops
def jV(o:Oper):Oper:=match zQ o with
 |true=>{o with op:=.move (.global 0)}
 |false=>o
def qK(lo:Nat->Bool)(ops:List Oper):List Oper:=(ops.take (qcW lo ops)).map jV
def alL(lo:Nat->Bool)(ops:List Oper):List Oper:=(ops.take (qcW lo ops)).filter zQ
def qsm(lo:Nat->Bool)(ops:List Oper):List Oper:=ops.drop (qcW lo ops)
def qhS(ops:List Oper)(o:Oper):Bool:=(!Qd o.op && !qr4 o.op)&&(!zQ o&&ops.all λ q => !zQ q||match q.dst with
 |some d => !(qbr ⟨ops⟩ o).contains d
 |none=>true)
def qvu:Op->Bool
 |.load .. |.indexAddr .. => true
 |_=>false
def qsT(ops:List Oper)(o:Oper):Bool:=qvu o.op && !qO0 ops o
def qx1(ops:List Oper)(o:Oper):Bool:=match o.op with
 |.store _ (.tmp a) _=>ops.any λ q=>zQ q&&qnu a q
 |_=>false
def qbu(ops:List Oper)(o:Oper):Bool:=qhS ops o||qsT ops o
def qjy(lo:Nat->Bool)(ops:List Oper):Bool:=
 let b:=QX ops []
 ops.zipIdx.all λ(o,j)=>((jF o).all λ e=>decide (e<j))&&((Nat.blt j (qcW lo ops)||(List.range j).all λ i=>(b.getD j 0).testBit i||(Nat.blt i (qcW lo ops)&&match ops[i]? with
  |some q=>qhS ops q||(qsT ops q&&qx1 ops o)
  |none=>false))&&(!zQ o||(o.guard.isNone&&match o.dst with
  |some d=>Nat.beq (qd1 ops d).length 1
  |none=>false)))
def Qf:Code->Bool
 |.seq a b|.cond _ a b=>Qf a&&Qf b
 |.block _ b|.loop b=>Qf b
 |_=>true
def qc0(s:S)(t:Nat):S:=match rsA (s.tm.getD t .dead)with
 |[]=>s
 |r::l=>⟨s.tm.set t (jk s.σ.rw (s.tm.getD t .dead)),{s.σ with rw:=frz s.σ.rw (r::l),wrr:=(r::l)++s.σ.wrr}⟩
def qgV(ts:List Nat)(s:S):S:=ts.foldl qc0 s
def qcx(C:Cfg)(ex:QG):QG
 |.skip,s|.label _,s=>some (.normal,s)
 |.region _ ops d,s=>match qjA ops d with
   |true=>match qjy C.lo ops.toList&&(qcZ C.lo ops&&qfh C.lo s.tm ⟨qK C.lo ops.toList⟩ true),zD C ex ⟨qK C.lo ops.toList⟩ true (qK C.lo ops.toList) s with
     |true,some f=>match zD C ex ops false (alL C.lo ops.toList) f with
       |some g=>match zD C ex ops true (qsm C.lo ops.toList) g with
         |some e=>some (.normal,e)
         |none=>none
       |none=>none
     |_,_=>none
   |false=>match qpS ops d with
     |some p=>match qfh C.lo s.tm (qcD ops) true,zD C ex (qcD ops) true (qcD ops).toList s with
       |true,some f=>match qvT f.tm ops p,zD C ex ops true (qhW ops) f with
         |true,some e=>some (.normal,e)
         |_,_=>none
       |_,_=>none
     |none=>match qfh C.lo s.tm ops d,zD C ex ops d ops.toList s with
       |true,some e=>some (.normal,e)
       |_,_=>none
 |.seq a b,s=>match ex a s with
   |some (.normal,e)=>ex b e
   |r=>r
 |.cond c x y,s=>match aev s.tm c with
   |.v (.bool true)=>ex x s
   |.v (.bool false)=>ex y s
   |_=>none
 |.block id b,s=>match ex b s with
   |some (.exit i,e)=>some (if i=id then .normal else .exit i,e)
   |r=>r
 |.loop b,s=>match ex b (qgV (C.pur b) s)with
   |some (.normal,e)=>ex (.loop b) e
   |r=>r
 |.exit id,s=>some (.exit id,s)
 |.ret,s=>some (.ret,s)
 |_,_=>none
def Q6(C:Cfg):Nat->QG
 |0=>λ _ _=>none
 |n+1=>qcx C (Q6 C n)
end Go.AmZ
namespace Go.AmZ
open Go Go.RowKit
structure Gh where
 mem:Nat->Nat->Option Value
 nb:Nat
 β:Nat->Nat
 nr:Nat
 ver:Nat->Nat
 k:Nat->Nat
 cur:Nat->Nat
 sz:Nat->Nat
 of:Nat->Nat
inductive Rep (Γ:Gh):AV->Value->Prop
 |v (x:Value) (h:zk x=true):Rep Γ (.v x) x
 |dead (u:Value):Rep Γ .dead u
 |sl (k:Nat) (es:List (List AV)) (f:Nat) (a:Option Addr) (n cap b o:Nat) (us:Nat->Nat->Value) (hn:n=es.length) (hc:0<f->n<=cap) (hf:1<f->cap=n) (hk:∀e∈es,e.length=k) (hp:∀e∈es,∀x∈e,qv x=true) (h0:0<k)
  (ha:es=[]\/a=some ⟨b,o,none⟩) (hm:∀(i:Nat) (e:List AV) (j:Nat) (x:AV),es[i]?=some e->e[j]?=some x->Γ.mem b (o+i*k+j)=some (us i j))
  (hr:∀(i:Nat) (e:List AV) (j:Nat) (x:AV),es[i]?=some e->e[j]?=some x->Rep Γ x (us i j)):Rep Γ (.sl k es f) (.slice a n cap)
 |rs (r lo n ep:Nat) (f:Bool) (a:Option Addr) (cap:Nat) (hr:r<Γ.nr) (hv:ep<=Γ.ver r) (hc:n<=cap) (hf:f=true->cap=n)
  (hl:Γ.ver r=ep->(cap=0\/a=some ⟨Γ.cur r,Γ.of r+lo*Γ.k r,none⟩)/\Γ.of r+(lo+cap)*Γ.k r<=Γ.sz r):Rep Γ (.rs r lo n ep f) (.slice a n cap)
 |ptr (b o:Nat) (h:b<Γ.nb):Rep Γ (.ptr b o) (.pointer (some ⟨Γ.β b,o,none⟩))
 |rpt (r i o ep:Nat) (A:Addr) (hr:r<Γ.nr) (hv:ep<=Γ.ver r) (hl:Γ.ver r=ep->A=⟨Γ.cur r,Γ.of r+i*Γ.k r+o,none⟩):Rep Γ (.rpt r i o ep) (.pointer (some A))
 |ept (cs:List AV) (o b o':Nat) (us:Nat->Value) (hp:∀x∈cs,qv x=true) (hm:∀(j:Nat) (x:AV),cs[j]?=some x->Γ.mem b (o'+j)=some (us j)) (hr:∀(j:Nat) (x:AV),cs[j]?=some x->Rep Γ x (us j)):Rep Γ (.ept cs o) (.pointer (some ⟨b,o'+o,none⟩))
 |fn (f:FuncId) (cs:List AV) (us:List Value) (hn:us.length=cs.length) (hr:∀(i:Nat) (x:AV) (u:Value),cs[i]?=some x->us[i]?=some u->Rep Γ x u):Rep Γ (.fn f cs) (.func (.func f) #[] us.toArray)
 |agg (cs:List AV) (us:List Value) (hn:us.length=cs.length) (h1:∀u∈us,u.oneCell'=true) (hr:∀(i:Nat) (x:AV) (u:Value),cs[i]?=some x->us[i]?=some u->Rep Γ x u):Rep Γ (.agg cs) (.agg us.toArray)
 |tup (cs:List AV) (us:List Value) (hn:us.length=cs.length) (hr:∀(i:Nat) (x:AV) (u:Value),cs[i]?=some x->us[i]?=some u->Rep Γ x u):Rep Γ (.tup cs) (.tuple us.toArray)
 |mp (b:Nat) (h:b<Γ.nb):Rep Γ (.mp b) (.map (some (Γ.β b)))
structure RepL (Γ:Gh) (cs:List AV) (us:List Value):Prop where
 len:us.length=cs.length
 rep:∀(i:Nat) (x:AV) (u:Value),cs[i]?=some x->us[i]?=some u->Rep Γ x u
structure Le (Γ Γ':Gh):Prop where
 mem:∀b o u,Γ.mem b o=some u->Γ'.mem b o=some u
 nb:Γ.nb<=Γ'.nb
 β:∀i,i<Γ.nb->Γ'.β i=Γ.β i
 nr:Γ.nr<=Γ'.nr
 k:∀r,r<Γ.nr->Γ'.k r=Γ.k r
 ver:∀r,r<Γ.nr->Γ.ver r<=Γ'.ver r
 loc:∀r,r<Γ.nr->Γ'.ver r=Γ.ver r->Γ'.cur r=Γ.cur r/\Γ'.sz r=Γ.sz r/\Γ'.of r=Γ.of r
theorem Le.refl(Γ:Gh):Le Γ Γ:=⟨λ _ _ _ h=>h,wa _,λ _ _=>rfl,wa _,λ _ _=>rfl,λ _ _=>wa _,λ _ _ _=>⟨rfl,rfl,rfl⟩⟩
theorem Le.trans{a b c:Gh}(h:Le a b)(g:Le b c):Le a c where
 mem:=λ x o u e=>g.mem _ _ _ (h.mem _ _ _ e)
 nb:=wz h.nb g.nb
 β:=λ i f=>(g.β i (wA f h.nb)).trans (h.β i f)
 nr:=wz h.nr g.nr
 k:=λ r d=>(g.k r (wA d h.nr)).trans (h.k r d)
 ver:=λ r d=>wz (h.ver r d) (g.ver r (wA d h.nr))
 loc:=λ r d e=>by
  have t:=h.ver r d;have s:=g.ver r (wA d h.nr);let⟨q,p,n⟩:=h.loc r d (by omega);let⟨m,l,j⟩:=g.loc r (wA d h.nr) (by omega);exact⟨m.trans q,l.trans p,j.trans n⟩
theorem Rep.mono{Γ Γ':Gh}(d:Le Γ Γ'){x:AV}{u:Value}(h:Rep Γ x u):Rep Γ' x u:=by
 induction h with
 |v x h=>exact .v x h
 |dead u=>exact .dead u
 |sl k I f a n cap b o us m y w F t H G p c g=>exact .sl k I f a n cap b o us m y w F t H G (λ i e j x l z=>d.mem _ _ _ (p i e j x l z)) (λ i e j x l z=>g i e j x l z)
 |rs r lo n B f a cap c s y w q=>
   have l:=d.ver r c;refine .rs r lo n B f a cap (wA c d.nr) (wz s l) y w λ p=>?_;let⟨e1,D,C⟩:=d.loc r c (by omega);rw[e1,D,C,d.k r c];exact q (by omega)
 |ptr b o h=>rw[<-d.β b h];exact .ptr b o (wA h d.nb)
 |rpt r i o B A c s q=>
   have l:=d.ver r c;refine .rpt r i o B A (wA c d.nr) (wz s l) λ p=>?_;let⟨e1,D,C⟩:=d.loc r c (by omega);rw[e1,C,d.k r c];exact q (by omega)
 |ept cs o b E us t p c g=>exact .ept cs o b E us t (λ j x h=>d.mem _ _ _ (p j x h)) g
 |fn f cs us m c g=>exact .fn f cs us m g
 |agg cs us m l c g=>exact .agg cs us m l g
 |tup cs us m c g=>exact .tup cs us m g
 |mp b h=>rw[<-d.β b h];exact .mp b (wA h d.nb)
theorem RepL.mono{Γ Γ':Gh}(c:Le Γ Γ'){cs:List AV}{us:List Value}(h:RepL Γ cs us):RepL Γ' cs us:=⟨h.len,λ i x u a b=>(h.rep i x u a b).mono c⟩
theorem RepL.nil{Γ:Gh}:RepL Γ [] []:=⟨rfl,λ i x u h=>by simp at h⟩
theorem RepL.cons{Γ:Gh}{x:AV}{u:Value}{cs:List AV}{us:List Value}(h:Rep Γ x u)(t:RepL Γ cs us):RepL Γ (x::cs) (u::us):=by
 refine⟨by simp[t.len],λ i y v a b=>?_⟩;cases i with
 |zero=>simp at a b;subst a;subst b;exact h
 |succ i=>simp at a b;exact t.rep i y v a b
theorem RepL.uncons{Γ:Gh}{x:AV}{cs:List AV}{us:List Value}(h:RepL Γ (x::cs) us):∃u r,us=u::r/\Rep Γ x u/\RepL Γ cs r:=by
 let⟨d,c⟩:=h;cases us with
 |nil=>simp at d
 |cons u r=>exact⟨u,r,rfl,c 0 x u rfl rfl,by simpa using d,λ i y v a b=>c (i+1) y v (by simpa using a) (by simpa using b)⟩
theorem RepL.nil_inv{Γ:Gh}{us:List Value}(h:RepL Γ [] us):us=[]:=kC.1 h.len
theorem RepL.get{Γ:Gh}{cs:List AV}{us:List Value}(h:RepL Γ cs us){i:Nat}{x:AV}(a:cs[i]?=some x):∃u,us[i]?=some u/\Rep Γ x u:=by
 have b:i<us.length:=by rw[h.len];exact(List.getElem?_eq_some_iff.1 a).1
 exact⟨us[i],List.getElem?_eq_getElem b,h.rep i x _ a (List.getElem?_eq_getElem b)⟩
theorem RepL.append{Γ:Gh}{a b:List AV}{u v:List Value}(h:RepL Γ a u)(g:RepL Γ b v):RepL Γ (a++b) (u++v):=by
 induction a generalizing u with
 |nil=>rw[h.nil_inv];exact g
 |cons x a c=>
   obtain⟨y,r,rfl,e,d⟩:=h.uncons;exact RepL.cons e (c d)
theorem RepL.take{Γ:Gh}{a:List AV}{u:List Value}(h:RepL Γ a u)(n:Nat):RepL Γ (a.take n) (u.take n):=by
 refine⟨by simp[h.len],λ i x w b c=>?_⟩;rw[List.getElem?_take]at b c;split at b
 .rename_i d;rw[if_pos d]at c;exact h.rep i x w b c
 .cases b
theorem RepL.drop{Γ:Gh}{a:List AV}{u:List Value}(h:RepL Γ a u)(n:Nat):RepL Γ (a.drop n) (u.drop n):=by
 refine⟨by simp[h.len],λ i x w b c=>?_⟩;rw[List.getElem?_drop]at b c;exact h.rep _ x w b c
theorem RepL.set{Γ:Gh}{a:List AV}{u:List Value}(h:RepL Γ a u)(n:Nat){x:AV}{y:Value}(d:Rep Γ x y):RepL Γ (a.set n x) (u.set n y):=by
 refine⟨by simp[h.len],λ i x' w b c=>?_⟩;rw[List.getElem?_set]at b c;have f:=h.len;split at b
 .grind
 .rename_i e;rw[if_neg e]at c;exact h.rep i x' w b c
theorem qDB{x:Value}(h:zk x=true):x.oneCell'=true:=by
 cases x<;>simp_all [zk,Value.oneCell']
theorem Rep.one{Γ:Gh}{x:AV}{u:Value}(h:Rep Γ x u)(a:isC x=true):u.oneCell'=true:=by
 cases h<;>first|(exact qDB ‹_›)|rfl|(simp[isC]at a)
theorem qLk{u:Value}(h:u.oneCell'=true):u.cells = #[u]:=by
 cases u<;>simp_all [Value.oneCell',Value.cells]
theorem Rep.cells{Γ:Gh}{x:AV}{u:Value}(h:Rep Γ x u)(f:(cellsOf x).all isC=true):RepL Γ (cellsOf x) u.cells.toList/\∀y∈u.cells.toList,y.oneCell'=true:=by
 have c:isC x=true->cellsOf x=[x]->RepL Γ (cellsOf x) u.cells.toList/\∀y∈u.cells.toList,y.oneCell'=true:=by
  intro d k;rw[k,qLk (h.one d)];exact⟨RepL.cons h RepL.nil,by intro y e;simp at e;subst e;exact h.one d⟩
 cases h with
 |agg cs us j d g=>exact⟨⟨by simpa[Value.cells,cellsOf]using j,λ i x u a b=>g i x u a (by simpa[Value.cells]using b)⟩,by simpa[Value.cells]using d⟩
 |v x h=>exact c rfl rfl
 |dead u=>simp[cellsOf,isC]at f
 |sl|rs|ptr|rpt|ept|fn=>exact c rfl rfl
 |tup=>simp[cellsOf,isC]at f
 |mp=>exact c rfl rfl
theorem Rep.cells_len{Γ:Gh}{x:AV}{u:Value}(h:Rep Γ x u)(a:(cellsOf x).all isC=true):u.cells.size=(cellsOf x).length:=by
 have:=(h.cells a).1.len;simpa using this
def qi7(Γ:Gh)(w:World)(b:Nat)(cs:List AV):Prop:=
 ∃vs e,w.heap[b]?=some (.cells vs e (0,0))/\RepL Γ cs vs.toList/\∀u∈vs.toList,u.oneCell'=true
def qJx(Γ:Gh)(b:List KC)(c a:Bool)(k v:List AV)(e:MapEntry):Prop:=
 Rep Γ (QB c k) e.key/\Rep Γ (QB a v) e.val/\yn b k=true/\v.all qv=true
structure qdH (Γ:Gh) (w:World) (b:Nat) (kc:List KC) (ka va:Bool) (ks vs:List (List AV)):Prop where
 len:vs.length=ks.length
 obj:∃es clock,w.heap[b]?=some (.map es clock)/\es.size=ks.length/\∀(j:Nat) (k v:List AV) (e:MapEntry),ks[j]?=some k->vs[j]?=some v->es[j]?=some e->qJx Γ kc ka va k v e
def QE(Γ:Gh)(w:World)(i:Nat):List AV->Prop
 |[.mc b c a ks vs]=>qdH Γ w (Γ.β i) b c a ks vs
 |cs=>qi7 Γ w (Γ.β i) cs
theorem QE.cells{Γ:Gh}{w:World}{i:Nat}{cs:List AV}(h:QE Γ w i cs)(a:noMc cs=true):qi7 Γ w (Γ.β i) cs:=by
 unfold QE at h;split at h
 .cases a
 .exact h
theorem qLE{Γ:Gh}{b:List KC}{c a:Bool}{ks vs:List (List AV)}{u:Value}(h:Rep Γ (.mc b c a ks vs) u):False:=by cases h
theorem qi7.noMc{Γ:Gh}{w:World}{b:Nat}{cs:List AV}(h:qi7 Γ w b cs):noMc cs=true:=by
 let⟨vs,e,d,a,c⟩:=h;unfold Go.AmZ.noMc;split
 .let⟨u,_,h⟩:=a.get (i:=0) rfl;exact(qLE h).elim
 .rfl
theorem QE.of{Γ:Gh}{w:World}{i:Nat}{cs:List AV}(h:qi7 Γ w (Γ.β i) cs):QE Γ w i cs:=by
 have a:=h.noMc;unfold QE;split
 .cases a
 .exact h
theorem QE.split{Γ:Gh}{w:World}{i:Nat}{cs:List AV}(h:QE Γ w i cs):qi7 Γ w (Γ.β i) cs\/∃b c a ks vs,cs=[.mc b c a ks vs]/\qdH Γ w (Γ.β i) b c a ks vs:=by
 unfold QE at h;grind
theorem qJk(a:List KC)(k:List AV):yn a k=true->k.all qv=true:=by
 fun_induction yn a k<;>simp_all [qv]
theorem qdH.to{Γ Γ':Gh}{w w':World}{b B:Nat}{y:List KC}{z s:Bool}{ks vs:List (List AV)}(h:qdH Γ w b y z s ks vs)(E:∀o,w.heap[b]?=some o->w'.heap[B]?=some o)(A:∀x u,Rep Γ x u->rb x=[]->rr x=[]->Rep Γ' x u):qdH Γ' w' B y z s ks vs:=by
 let⟨I,L,d,H,G,F⟩:=h;refine⟨I,L,d,E _ H,G,λ j k v e a b c=>?_⟩;let⟨K,J,g3,p⟩:=F j k v e a b c
 have i:∀(g:Bool) (cs:List AV),cs.all qv=true->rb (QB g cs)=[]/\rr (QB g cs)=[]:=by
  intro g cs n;have f:∀x,qv x=true->rb x=[]/\rr x=[]:=λ x D=>by cases x<;>first|exact⟨rfl,rfl⟩|(simp[qv]at D)
  have all:∀l:List AV,l.all qv=true->rbL l=[]/\rrL l=[]:=by
   intro l
   induction l with
   |nil=>exact λ _=>⟨rfl,rfl⟩
   |cons x l C=>
     intro m;rw[wX,wc]at m;let⟨r,q⟩:=f x m.1;let⟨N,M⟩:=C m.2;exact⟨by rw[rbL,r,N];rfl,by rw[rrL,q,M];rfl⟩
  cases g with
  |true=>let⟨r,q⟩:=all cs n;exact⟨by rw[QB,rb,r],by rw[QB,rr,q]⟩
  |false=>
    unfold QB;split
    .cases ‹_›
    .split
     .rw[wX,wc]at n;exact f _ n.1
     .exact⟨rfl,rfl⟩
 have t:=qJk;exact⟨A _ _ K (i _ _ (t _ _ g3)).1 (i _ _ (t _ _ g3)).2,A _ _ J (i _ _ p).1 (i _ _ p).2,g3,p⟩
theorem qdH.lift{Γ Γ':Gh}{w w':World}{b e:Nat}{c:List KC}{d a:Bool}{ks vs:List (List AV)}(h:qdH Γ w b c d a ks vs)(g:Le Γ Γ')(i:∀o,w.heap[b]?=some o->w'.heap[e]?=some o):qdH Γ' w' e c d a ks vs:=h.to i λ _ _ f _ _=>f.mono g
theorem QE.to{Γ Γ':Gh}{w w':World}{i c:Nat}{cs:List AV}(f:AV->AV)(h:QE Γ w i cs)(g:∀o,w.heap[Γ.β i]?=some o->w'.heap[Γ'.β c]?=some o)(d:∀x u,Rep Γ x u->(x∈cs\/rb x=[]/\rr x=[])->Rep Γ' (f x) u)(k:∀x,rb x=[]->rr x=[]->f x=x):QE Γ' w' c (cs.map f):=by
 obtain⟨vs,e,r,l,q⟩|⟨t,v,s,ks,vs,rfl,p⟩:=h.split
 .refine .of ⟨vs,e,g _ r,⟨by rw[wE];exact l.len,λ j x u a n=>?_⟩,q⟩;rw[List.getElem?_map]at a;cases b:cs[j]? with
  |none=>rw[b]at a;cases a
  |some y=>
    rw[b]at a;cases a;exact d y u (l.rep j y u b n) (.inl (wb b))
 .rw[wk,wad,k _ rfl rfl];exact p.to g λ x u a e1 m=>by have:=d x u a (.inr ⟨e1,m⟩);rwa [k x e1 m]at this
theorem QE.to'{Γ Γ':Gh}{w w':World}{i a:Nat}{cs:List AV}(h:QE Γ w i cs)(c:∀o,w.heap[Γ.β i]?=some o->w'.heap[Γ'.β a]?=some o)(b:∀x u,Rep Γ x u->(x∈cs\/rb x=[]/\rr x=[])->Rep Γ' x u):QE Γ' w' a cs:=by
 have:=h.to id c b λ _ _ _=>rfl
 rwa [List.map_id]at this
def qqj(n:Nat)(fr:Nat×Nat):Prop:=∀j,j<n->¬ (fr.1<=j/\j<fr.2)
theorem qCN(n:Nat):qqj n (0,0):=λ j _ h=>absurd h.2 (wN j)
structure qgB (Γ:Gh) (w:World) (r:Nat) (R:Row):Prop where
 k:R.k=Γ.k r
 ver:R.fz<=R.c.length->R.ver=Γ.ver r
 pos:0<R.k
 len:∀e∈R.c,e.length=R.k
 plain:∀e∈R.c,∀x∈e,qv x=true
 fz:R.c=[]\/R.fz<=R.c.length
 blk:Γ.sz r≠0->∃vs e fr,w.heap[Γ.cur r]?=some (.cells vs e fr)/\vs.size=Γ.sz r/\qqj vs.size fr/\(R.k≠1->fr=(0,0))
 fit:Γ.of r+R.c.length*R.k<=Γ.sz r
 un:Γ.sz r≠0->∀off,Γ.of r+R.fz*R.k<=off->Γ.mem (Γ.cur r) off=none
 cells:∀(i:Nat) (e:List AV) (j:Nat) (x:AV),R.c[i]?=some e->e[j]?=some x->∃u,w.cell? ⟨Γ.cur r,Γ.of r+(i*R.k+j),none⟩=some u/\Rep Γ x u/\u.oneCell'=true
 nbx:Γ.sz r≠0->∀i,i<Γ.nb->Γ.β i≠Γ.cur r
 off:R.off=false->Γ.of r=0
structure Inv (Γ:Gh) (σ:St) (w:World):Prop where
 nb:Γ.nb=σ.bx.length
 nr:Γ.nr=σ.rw.length
 mem:∀b o u,Γ.mem b o=some u->w.cell? ⟨b,o,none⟩=some u/\u.oneCell'=true
 box:∀i cs,σ.bx[i]?=some cs->QE Γ w i cs
 inj:∀i j,i<Γ.nb->j<Γ.nb->Γ.β i=Γ.β j->i=j
 boxmem:∀i,i<Γ.nb->∀o,Γ.mem (Γ.β i) o=none
 row:∀r R,σ.rw[r]?=some R->qgB Γ w r R
 apart:∀r r',r<Γ.nr->r'<Γ.nr->r≠r'->Γ.sz r≠0->Γ.sz r'≠0->Γ.cur r≠Γ.cur r'
def Jg(Γ:Gh)(b:Nat):Prop:=(∃i,i<Γ.nb/\Γ.β i=b)\/∃r,r<Γ.nr/\Γ.sz r≠0/\Γ.cur r=b
structure Ext (Γ:Gh) (w:World) (Γ':Gh) (w':World):Prop where
 le:Le Γ Γ'
 os:w'.os=w.os
 tape:w'.tape=w.tape
 output:w'.output=w.output
 size:w.heap.size<=w'.heap.size
 block:∀b,b<w.heap.size->¬ Jg Γ b->w'.heap[b]?=w.heap[b]?
 own:∀b,Jg Γ' b->Jg Γ b\/w.heap.size<=b
 memg:∀b o u,Γ'.mem b o=some u->Γ.mem b o=some u\/Jg Γ b\/w.heap.size<=b
 drawn:w.drawn<=w'.drawn
theorem Ext.refl(Γ:Gh)(w:World):Ext Γ w Γ w:=⟨.refl _,rfl,rfl,rfl,wa _,λ _ _ _=>rfl,λ _ h=>.inl h,λ _ _ _ h=>.inl h,wa _⟩
theorem Ext.trans{Γ e d:Gh}{w i f:World}(h:Ext Γ w e i)(g:Ext e i d f):Ext Γ w d f where
 le:=h.le.trans g.le
 os:=g.os.trans h.os
 tape:=g.tape.trans h.tape
 output:=g.output.trans h.output
 size:=wz h.size g.size
 block:=λ b c j=>(g.block b (wA c h.size) λ k=>(h.own b k).elim j λ a=>by omega).trans (h.block b c j)
 own:=λ b c=>(g.own b c).elim (h.own b) λ a=>.inr (wz h.size a)
 memg:=λ b o u c=>(g.memg b o u c).elim (h.memg b o u) λ a=>.inr (a.elim (h.own b) λ a=>.inr (wz h.size a))
 drawn:=wz h.drawn g.drawn
theorem Inv.drew{Γ:Gh}{σ:St}{w:World}(h:Inv Γ σ w):Inv Γ σ {w with drawn:=w.drawn+1}:=by
 refine⟨h.nb,h.nr,λ b o u e=>h.mem b o u e,λ i cs e=>?_,h.inj,h.boxmem,λ r R e=>?_,h.apart⟩
 .obtain j|⟨t,v,s,ks,vs,rfl,l⟩:=(h.box i cs e).split
  .exact .of j
  .exact l.to (λ _ h=>h) λ _ _ h _ _=>h
 let⟨a,b,c,d,e1,f,g,j,q,p,n,m⟩:=h.row r R e;exact⟨a,b,c,d,e1,f,g,j,q,p,n,m⟩
theorem Ext.drew(Γ:Gh)(w:World):Ext Γ w Γ {w with drawn:=w.drawn+1}:=⟨.refl _,rfl,rfl,rfl,wa _,λ _ _ _=>rfl,λ _ h=>.inl h,λ _ _ _ h=>.inl h,ke _⟩
theorem qtt{w:World}{b o:Nat}{u:Value}(h:w.cell? ⟨b,o,none⟩=some u):b<w.heap.size:=by
 unfold World.cell? at h;grind
theorem Inv.mem_lt{Γ:Gh}{σ:St}{w:World}(h:Inv Γ σ w){b o:Nat}{u:Value}(e:Γ.mem b o=some u):b<w.heap.size:=qtt (h.mem b o u e).1
abbrev waK:=@RepL.cons
abbrev waL:=@RepL.mono
end Go.AmZ
namespace Go.AmZ
open Go Go.RowKit
theorem qbW{w w'}(a:Below w.heap.size w w'){b:Nat}{o}(h:w.heap[b]?=some o):w'.heap[b]?=some o:=by
 have:=(Array.getElem?_eq_some_iff.1 h).1;rw[a.block b this];exact h
theorem qyb{w w'}(a:Below w.heap.size w w'){b o u}(h:w.cell? ⟨b,o,none⟩=some u):w'.cell? ⟨b,o,none⟩=some u:=by
 rw[a.cell (qtt h)];exact h
theorem QU{w:World}{b vs e fr}(h:w.heap[b]?=some (.cells vs e fr))(off):w.cell? ⟨b,off,none⟩=vs[off]?:=by
 unfold World.cell?;grind
theorem getElem?_lt' {α:Type}{l:List α}{i:Nat}{x:α}(h:l[i]?=some x):i<l.length:=(List.getElem?_eq_some_iff.1 h).1
theorem qgB.lift{Γ Γ' w w' r R}(h:qgB Γ w r R)(A:r<Γ.nr)(l:Le Γ Γ')(d:Γ'.ver r=Γ.ver r)(O:Γ.sz r≠0->∀z,w.heap[Γ.cur r]?=some z->w'.heap[Γ.cur r]?=some z)(F:Γ.sz r≠0->∀off,Γ.mem (Γ.cur r) off=none->Γ'.mem (Γ.cur r) off=none)(p:Γ.sz r≠0->∀i,i<Γ'.nb->Γ.nb<=i->Γ'.β i≠Γ.cur r):qgB Γ' w' r R:=by
 let⟨k,n,pos,o,C,M,v,L,K,J,I,H⟩:=h;let⟨g,b,c⟩:=l.loc r A d;refine⟨k.trans (l.k r A).symm,λ E=>(n E).trans d.symm,pos,o,C,M,λ a=>?_,by rw[b,c];exact L,λ a off B=>by rw[b]at a;rw[c]at B;rw[g];exact F a off (K a off B),?_,?_,λ h=>c.trans (H h)⟩
 .grind
 .intro i N j x m G
  have a:Γ.sz r≠0:=by
   have s:=getElem?_lt' m;have:=wan (vX (wg _) s) pos;omega
  let⟨vs,e,fr,v,P,_⟩:=v a;let⟨u,D,q,y⟩:=J i N j x m G;refine⟨u,?_,q.mono l,y⟩;rw[QU v]at D;grind [QU]
 .intro a i m t;rw[b]at a;rw[g]at t;by_cases f:i<Γ.nb
  .exact I a i f (by rw[<-l.β i f];exact t)
  .exact p a i m (by omega) t
theorem QE.lift{Γ Γ' w w' i cs}(h:QE Γ w i cs)(b:i<Γ.nb)(a:Le Γ Γ')(c:∀o,w.heap[Γ.β i]?=some o->w'.heap[Γ.β i]?=some o):QE Γ' w' i cs:=by
 obtain⟨vs,e,j,g,f⟩|⟨l,m,k,ks,vs,rfl,d⟩:=h.split
 .exact .of ⟨vs,e,by rw[a.β i b];exact c _ j,g.mono a,f⟩
 .exact d.lift a (by rw[a.β i b];exact c)
theorem QE.heap{Γ w i cs}(h:QE Γ w i cs):∃o,w.heap[Γ.β i]?=some o:=by
 obtain⟨vs,e,b,_⟩|⟨d,f,c,ks,vs,rfl,_,g,a,b,_⟩:=h.split<;>exact⟨_,b⟩
theorem getElem?_lt {α:Type}{l:List α}{i:Nat}{x:α}(h:l[i]?=some x):i<l.length:=(List.getElem?_eq_some_iff.1 h).1
theorem qhh{Γ w w'}(a:Below w.heap.size w w')(c:w.drawn<=w'.drawn):Ext Γ w Γ w':=⟨.refl _,a.os,a.tape,a.output,a.size,λ b d _=>a.block b d,λ _ h=>.inl h,λ _ _ _ h=>.inl h,c⟩
theorem Inv.box_lt{Γ σ w}(h:Inv Γ σ w){i}(b:i<Γ.nb):Γ.β i<w.heap.size:=by
 have a:=h.nb▸b;let⟨o,c⟩:=(h.box i _ (List.getElem?_eq_getElem a)).heap;grind
theorem Inv.cur_lt{Γ σ w}(h:Inv Γ σ w){r}(c:r<Γ.nr)(b:Γ.sz r≠0):Γ.cur r<w.heap.size:=by
 have a:=h.nr▸c;let⟨vs,e,fr,f,d,_⟩:=(h.row r _ (List.getElem?_eq_getElem a)).blk b;grind
theorem qgB.live{Γ w r R}(h:qgB Γ w r R){i:Nat}{e}(b:R.c[i]?=some e):R.fz<=R.c.length:=h.fz.resolve_left λ a=>by grind
theorem qgB.liveN{Γ w r R}(h:qgB Γ w r R){m n}(b:m+n<=R.c.length)(a:0<n):R.fz<=R.c.length:=h.fz.resolve_left λ d=>by grind
theorem qgB.real{Γ w r R}(h:qgB Γ w r R){i:Nat}{e}(b:R.c[i]?=some e):Γ.sz r≠0:=by
 have a:=getElem?_lt' b;have:=wan (vX (wg _) a) h.pos;have:=h.fit;omega
theorem Inv.later{Γ σ w w'}(h:Inv Γ σ w)(c:Below w.heap.size w w'):Inv Γ σ w' where
 nb:=h.nb
 nr:=h.nr
 mem:=λ b o u e=>⟨qyb c (h.mem b o u e).1,(h.mem b o u e).2⟩
 box:=λ i cs e=>(h.box i cs e).lift (by rw[h.nb];exact getElem?_lt e) (.refl _) λ o a=>qbW c a
 inj:=h.inj
 boxmem:=h.boxmem
 row:=λ r R e=>(h.row r R e).lift (by rw[h.nr];exact getElem?_lt e) (.refl _) rfl (λ _ f a=>qbW c a) (λ _ _ d=>d) λ _ i j g=>by omega
 apart:=h.apart
theorem qxQ{Γ σ w}(h:Inv Γ σ w){cs k}(B:∀Γ',Le Γ Γ'->Γ'.β Γ.nb=w.heap.size->QE Γ' (w.alloc k) Γ.nb cs):
  ∃Γ',Ext Γ w Γ' (w.alloc k)/\Inv Γ' {σ with bx:=σ.bx++[cs]} (w.alloc k)/\σ.bx.length<Γ'.nb/\Γ'.β σ.bx.length=w.heap.size:=by
 have v:Below w.heap.size w (w.alloc k):=(Below.refl _ _).alloc (wa _) _;let Γ':Gh:={Γ with nb:=Γ.nb+1,β:=λ i=>if i=Γ.nb then w.heap.size else Γ.β i}
 have c:∀i,i<Γ.nb->Γ'.β i=Γ.β i:=λ i e=>if_neg (by omega);have a:Γ'.β Γ.nb=w.heap.size:=if_pos rfl;have f:Le Γ Γ':=⟨λ _ _ _ h=>h,ke _,c,wa _,λ _ _=>rfl,λ _ _=>wa _,λ _ _ _=>⟨rfl,rfl,rfl⟩⟩
 have s:=h.later v;refine⟨Γ',⟨f,rfl,rfl,rfl,v.size,λ b C _=>v.block b C,?_,λ _ _ _ h=>.inl h,wa _⟩,⟨?_,h.nr,s.mem,?_,?_,?_,?_,h.apart⟩,?_⟩
 .rintro b (⟨i,e,rfl⟩|n)
  .by_cases d:i=Γ.nb
   .grind
   .left;left;exact⟨i,by show i<Γ.nb;have:i<Γ.nb+1:=e;omega,(c i (by grind)).symm⟩
  .exact .inl (.inr n)
 .show Γ.nb+1=(σ.bx++[cs]).length;simp[h.nb]
 .intro i cs' e;rw[List.getElem?_append]at e;split at e
  .rename_i p;exact(h.box i cs' e).lift (by rw[h.nb];exact p) f λ o n=>qbW v n
  .rename_i p
   have z:i-σ.bx.length=0:=by
    grind
   rw[z]at e;simp at e;subst e;have y:i=Γ.nb:=by rw[h.nb];omega
   rw[y];exact B Γ' f a
 .intro i j e E g;have t:i<Γ.nb+1:=e;have D:j<Γ.nb+1:=E;by_cases d:i=Γ.nb<;>by_cases q:j=Γ.nb
  .rw[d,q]
  .rw[d,a,c j (by omega)]at g;have:=h.box_lt (i:=j) (by omega);omega
  .rw[q,a,c i (by omega)]at g;have:=h.box_lt (i:=i) (by omega);omega
  .rw[c i (by omega),c j (by omega)]at g;exact h.inj i j (by omega) (by omega) g
 .intro i e o;have t:i<Γ.nb+1:=e;by_cases d:i=Γ.nb
  .rw[d,a];cases x:Γ.mem w.heap.size o with
   |none=>rfl
   |some u=>have:=h.mem_lt x;omega
  .rw[c i (by omega)];exact h.boxmem i (by omega) o
 .intro r R m;have l:r<Γ.nr:=by rw[h.nr];exact getElem?_lt m
  refine(h.row r R m).lift l f rfl (λ _ k n=>qbW v n) (λ _ _ x=>x) λ A i e F g=>?_;have t:i<Γ.nb+1:=e;have d:i=Γ.nb:=by omega
  rw[d,a]at g;have:=h.cur_lt l A;omega
 .rw[<-h.nb];grind
theorem qBb{Γ σ w}(h:Inv Γ σ w){cs vs}(g:RepL Γ cs vs)(j:∀u∈vs,u.oneCell'=true)(e):
  ∃Γ',Ext Γ w Γ' (w.alloc (.cells vs.toArray e))/\Inv Γ' {σ with bx:=σ.bx++[cs]} (w.alloc (.cells vs.toArray e))/\Rep Γ' (.ptr σ.bx.length 0) (.pointer (some ⟨w.heap.size,0,none⟩)):=by
 obtain⟨Γ',a,b,c,d⟩:=qxQ h λ Γ' i f=>.of ⟨vs.toArray,e,by rw[f];exact heap_alloc_new w _,by simpa using g.mono i,by simpa using j⟩;exact⟨Γ',a,b,by rw[<-d];exact .ptr _ _ c⟩
theorem qLt{Γ σ w}(h:Inv Γ σ w)(kc ka va):
  ∃Γ',Ext Γ w Γ' (w.alloc (.map #[] 0))/\Inv Γ' {σ with bx:=σ.bx++[[.mc kc ka va [] []]]} (w.alloc (.map #[] 0))/\Rep Γ' (.mp σ.bx.length) (.map (some w.heap.size)):=by
 obtain⟨Γ',a,b,c,d⟩:=qxQ h (cs:=[.mc kc ka va [] []]) λ Γ' i f=>⟨rfl,#[],0,by rw[f];exact heap_alloc_new w _,rfl,λ j k v e g=>by simp at g⟩
 exact⟨Γ',a,b,by rw[<-d];exact .mp _ c⟩
theorem qAD{Γ σ w}(h:Inv Γ σ w){vs:List Value}(y:∀u∈vs,u.oneCell'=true)(e):
  ∃Γ',Ext Γ w Γ' (w.alloc (.cells vs.toArray e))/\Inv Γ' σ (w.alloc (.cells vs.toArray e))/\∀j u,vs[j]?=some u->Γ'.mem w.heap.size j=some u:=by
 have m:Below w.heap.size w (w.alloc (.cells vs.toArray e)):=(Below.refl _ _).alloc (wa _) _;let Γ':Gh:={Γ with mem:=λ b o=>if b=w.heap.size then vs[o]? else Γ.mem b o}
 have n:∀b o u,Γ.mem b o=some u->b≠w.heap.size:=λ b o u e k=>by have:=h.mem_lt e;omega
 have c:Le Γ Γ':=⟨λ b o u e=>by show(if b=w.heap.size then vs[o]? else Γ.mem b o)=some u;rw[if_neg (n b o u e)];exact e,wa _,λ _ _=>rfl,wa _,λ _ _=>rfl,λ _ _=>wa _,λ _ _ _=>⟨rfl,rfl,rfl⟩⟩
 have g:=h.later m;refine⟨Γ',⟨c,rfl,rfl,rfl,m.size,λ b v _=>m.block b v,λ b f=>.inl f,λ b o u t=>?_,wa _⟩,⟨h.nb,h.nr,?_,?_,h.inj,?_,?_,h.apart⟩,?_⟩
 .grind
 .intro b o u k;have a:(if b=w.heap.size then vs[o]? else Γ.mem b o)=some u:=k;by_cases l:b=w.heap.size
  .rw[if_pos l]at a;refine⟨?_,y u (wb a)⟩;simp_all
  .rw[if_neg l]at a;exact g.mem b o u a
 .intro i cs k;exact(h.box i cs k).lift (by rw[h.nb];exact getElem?_lt k) c λ o f=>qbW m f
 .intro i p o;show(if Γ.β i=w.heap.size then vs[o]? else Γ.mem (Γ.β i) o)=none;have:=h.box_lt p;rw[if_neg (by omega)];exact h.boxmem i p o
 .intro r R q;have d:r<Γ.nr:=by rw[h.nr];exact getElem?_lt q
  refine(h.row r R q).lift d c rfl (λ _ z f=>qbW m f) (λ s off t=>?_) λ _ i p A=>by grind
  have x:=h.cur_lt d s;grind
 .grind
theorem qwX{Γ σ w}(h:Inv Γ σ w){b cs cs'}(D:σ.bx[b]?=some cs)(wl w')(F:QE Γ w' b cs')(q:∀k,k≠Γ.β b->w'.heap[k]?=w.heap[k]?)(t:w'.os=w.os)(s:w'.tape=w.tape)(l:w'.output=w.output)(B:w'.heap.size=w.heap.size)(y:w.drawn<=w'.drawn):
  Ext Γ w Γ w'/\Inv Γ {σ with bx:=σ.bx.set b cs',wr:=wl} w':=by
 have c:b<Γ.nb:=by rw[h.nb];exact getElem?_lt D
 have f:∀k o,k≠Γ.β b->w'.cell? ⟨k,o,none⟩=w.cell? ⟨k,o,none⟩:=λ k o d=>by unfold World.cell?;rw[q k d]
 have a:∀k o u,Γ.mem k o=some u->k≠Γ.β b:=λ k o u e d=>by rw[d,h.boxmem b c o]at e;cases e
 refine⟨⟨.refl _,t,s,l,by omega,λ k _ z=>q k λ d=>z (.inl ⟨b,c,d.symm⟩),λ _ h=>.inl h,λ _ _ _ h=>.inl h,y⟩,⟨?_,h.nr,?_,?_,h.inj,h.boxmem,?_,h.apart⟩⟩
 .show Γ.nb=(σ.bx.set b cs').length;rw[wI];exact h.nb
 .intro k o u e;rw[f k o (a k o u e)];exact h.mem k o u e
 .intro i p n;rw[List.getElem?_set]at n;split at n
  .grind
  .rename_i v;have m:i<Γ.nb:=by rw[h.nb];exact getElem?_lt n
   refine(h.box i p n).lift m (.refl _) λ o g=>?_;rw[q _ λ x=>v (h.inj b i c m x.symm)];exact g
 .intro r R j;have H:=h.row r R j;refine H.lift (by rw[h.nr];exact getElem?_lt j) (.refl _) rfl (λ A E d=>?_) (λ _ _ C=>C) λ _ i n z=>by omega
  rw[q _ λ x=>H.nbx A b c x.symm];exact d
theorem qKL{Γ σ w}(h:Inv Γ σ w){b cs cs'}(i:σ.bx[b]?=some cs)(n:noMc cs=true){vs'}(l:RepL Γ cs' vs')(o:∀u∈vs',u.oneCell'=true)(wl w')(j:∀vs e,w.heap[Γ.β b]?=some (.cells vs e (0,0))->w'.heap[Γ.β b]?=some (.cells vs'.toArray e (0,0)))(m:∀k,k≠Γ.β b->w'.heap[k]?=w.heap[k]?)(f:w'.os=w.os)(c:w'.tape=w.tape)(a:w'.output=w.output)(d:w'.heap.size=w.heap.size)(g:w.drawn<=w'.drawn):
  Ext Γ w Γ w'/\Inv Γ {σ with bx:=σ.bx.set b cs',wr:=wl} w':=by
 let⟨vs,e,p,_⟩:=(h.box b cs i).cells n;exact qwX h i wl w' (.of ⟨vs'.toArray,e,j vs e p,by simpa using l,by simpa using o⟩) m f c a d g
theorem qFV{Γ σ w w'}(h:Inv Γ σ w){k}(hk:0<k){c}(H:∀e∈c,e.length=k)(P:∀e∈c,∀x∈e,qv x=true){vs}(L:c.length*k<=vs.size)(m:∀i e j x,c[i]?=some e->e[j]?=some x->∃u,vs[i*k+j]?=some u/\Rep Γ x u/\u.oneCell'=true){e cap}(hc:c.length<=cap)(ad:cap*k<=vs.size)(y:Below w.heap.size w w')(Y:w.drawn<=w'.drawn){g}(hg:w.heap.size<=g){fr}(M:qqj vs.size fr)(V:k≠1->fr=(0,0))(v:w'.heap[g]?=some (.cells vs e fr)):
  ∃Γ',Ext Γ w Γ' w'/\Inv Γ' {σ with rw:=σ.rw++[⟨k,c,0,0,false⟩]} w'/\Rep Γ' (.rs σ.rw.length 0 c.length 0 false) (.slice (some ⟨g,0,none⟩) c.length cap):=by
 let Γ':Gh:={Γ with nr:=Γ.nr+1,ver:=λ r=>if r=Γ.nr then 0 else Γ.ver r,k:=λ r=>if r=Γ.nr then k else Γ.k r,cur:=λ r=>if r=Γ.nr then g else Γ.cur r,sz:=λ r=>if r=Γ.nr then vs.size else Γ.sz r,of:=λ r=>if r=Γ.nr then 0 else Γ.of r}
 have C:∀r,r<Γ.nr->Γ'.ver r=Γ.ver r:=λ r m=>if_neg (by omega);have U:∀r,r<Γ.nr->Γ'.k r=Γ.k r:=λ r m=>if_neg (by omega);have f:∀r,r<Γ.nr->Γ'.cur r=Γ.cur r:=λ r m=>if_neg (by omega);have d:∀r,r<Γ.nr->Γ'.sz r=Γ.sz r:=λ r m=>if_neg (by omega);have E:∀r,r<Γ.nr->Γ'.of r=Γ.of r:=λ r m=>if_neg (by omega);have l:Γ'.of Γ.nr=0:=if_pos rfl;have a:Γ'.cur Γ.nr=g:=if_pos rfl;have n:Γ'.sz Γ.nr=vs.size:=if_pos rfl;have B:Γ'.ver Γ.nr=0:=if_pos rfl;have I:Γ'.k Γ.nr=k:=if_pos rfl;have t:Le Γ Γ':=⟨λ _ _ _ h=>h,wa _,λ _ _=>rfl,ke _,U,λ r m=>by rw[C r m];exact wa _,λ r m _=>⟨f r m,d r m,E r m⟩⟩
 have J:=h.later y;refine⟨Γ',⟨t,y.os,y.tape,y.output,y.size,λ b T _=>y.block b T,?_,λ _ _ _ h=>.inl h,Y⟩,⟨h.nb,?_,J.mem,?_,h.inj,h.boxmem,?_,?_⟩,?_⟩
 .rintro b (F|⟨r,ac,hz,T⟩)
  .exact .inl (.inl F)
  .by_cases s:r=Γ.nr
   .right;rw[s,a]at T;omega
   .left;right;grind
 .show Γ.nr+1=(σ.rw++[_]).length;simp[h.nr]
 .intro i cs X;exact(h.box i cs X).lift (by rw[h.nb];exact getElem?_lt X) t λ o F=>qbW y F
 .intro r R A;rw[List.getElem?_append]at A;split at A
  .rename_i G;have s:r<Γ.nr:=by rw[h.nr];exact G
   exact(h.row r R A).lift s t (C r s) (λ _ ob F=>qbW y F) (λ _ _ S=>S) λ _ i K hn=>by grind
  .rename_i G
   have W:r-σ.rw.length=0:=by
    grind
   rw[W]at A;simp at A;subst A;obtain rfl:r=Γ.nr:=by rw[h.nr];omega
   refine⟨I.symm,λ _=>B.symm,hk,H,P,.inr (wg _),λ _=>⟨vs,e,fr,by rw[a];exact v,n.symm,M,V⟩,by rw[n,l,wG];exact L,?_,?_,?_,λ _=>l⟩
   .intro _ off _;rw[a];cases S:Γ.mem g off with
    |none=>rfl
    |some u=>have:=h.mem_lt S;omega
   .intro i e' j x K hj;let⟨u,hu,D,Z⟩:=m i e' j x K hj;refine⟨u,?_,D.mono t,Z⟩;rw[a,l,wG,QU v];exact hu
   .intro _ i K X;have:=h.box_lt K;grind
 .intro r z O N Q q p;have ab:r<Γ.nr+1:=O;have aa:z<Γ.nr+1:=N;by_cases Z:r=Γ.nr<;>by_cases h2:z=Γ.nr
  .omega
  .rw[d z (by omega)]at p;rw[Z,a,f z (by omega)];have:=h.cur_lt (by omega) p;omega
  .rw[d r (by omega)]at q;rw[h2,a,f r (by omega)];have:=h.cur_lt (by omega) q;omega
  .rw[d r (by omega)]at q;rw[d z (by omega)]at p;rw[f r (by omega),f z (by omega)];exact h.apart r z (by omega) (by omega) Q q p
 .refine .rs _ _ _ _ _ _ _ (by show σ.rw.length<Γ.nr+1;rw[h.nr];omega) (wg _) hc (λ hf=>by cases hf) λ _=>?_;rw[<-h.nr,a,I,n,l];grind
def Qz(Γ:Gh)(r:Nat)(R:Row):Prop:=
 ∀(i:Nat) (e:List AV) (j:Nat) (x:AV),R.c[i]?=some e->e[j]?=some x->∃u,Γ.mem (Γ.cur r) (Γ.of r+(i*R.k+j))=some u/\Rep Γ x u
theorem qzt{Γ σ w w'}(h:Inv Γ σ w){k}(o:0<k){c}(b:∀e∈c,e.length=k)(f:∀e∈c,∀x∈e,qv x=true){vs}(d:c.length*k<=vs.size)(n:∀i e j x,c[i]?=some e->e[j]?=some x->∃u,vs[i*k+j]?=some u/\Rep Γ x u/\u.oneCell'=true){e cap}(q:c.length<=cap)(m:cap*k<=vs.size)(r:Below w.heap.size w w')(l:w.drawn<=w'.drawn){g}(p:w.heap.size<=g)(a:w'.heap[g]?=some (.cells vs e (0,0))):
  ∃Γ',Ext Γ w Γ' w'/\Inv Γ' {σ with rw:=σ.rw++[⟨k,c,0,0,false⟩]} w'/\Rep Γ' (.rs σ.rw.length 0 c.length 0 false) (.slice (some ⟨g,0,none⟩) c.length cap):=
 qFV h o b f d n q m r l p (qCN _) (λ _=>rfl) a
theorem qJs{α}{l:List α}{r i f y}(h:(l.modify r f)[i]?=some y):∃x,l[i]?=some x/\y=if r=i then f x else x:=by
 grind
structure Fz (Γ:Gh) (m:Nat->Nat->Option Value):Prop where
 le:Le Γ {Γ with mem:=m}
 own:∀b o u,m b o=some u->Γ.mem b o=some u\/Jg Γ b
theorem qwO{Γ σ w}(h:Inv Γ σ w){r R}(G:σ.rw[r]?=some R)(wl):
  ∃m,Fz Γ m/\Inv {Γ with mem:=m} {σ with rw:=σ.rw.modify r qn5,wrr:=wl} w/\Qz {Γ with mem:=m} r R:=by
 have H0:=h.row r R G;let⟨k,E,pos,s,T,fz,g2,g4,g5,M,S,g9⟩:=H0;have F:r<Γ.nr:=by rw[h.nr];exact getElem?_lt G
 let m:Nat->Nat->Option Value:=λ a off=>if a=Γ.cur r/\Γ.of r<=off/\off<Γ.of r+R.c.length*R.k then w.cell? ⟨a,off,none⟩else Γ.mem a off
 have I:∀a off u,Γ.mem a off=some u->m a off=some u:=by
  intro a off u b;show(if _ then _ else _)=_;split
  .exact(h.mem a off u b).1
  .exact b
 have g:Le Γ {Γ with mem:=m}:=⟨I,wa _,λ _ _=>rfl,wa _,λ _ _=>rfl,λ _ _=>wa _,λ _ _ _=>⟨rfl,rfl,rfl⟩⟩
 have y:∀i e j x,R.c[i]?=some e->e[j]?=some x->∃u,m (Γ.cur r) (Γ.of r+(i*R.k+j))=some u/\Rep {Γ with mem:=m} x u:=by
  intro i e j x l C;let⟨u,P,f,Q⟩:=M i e j x l C;refine⟨u,?_,f.mono g⟩;have K:=getElem?_lt l;have J:=getElem?_lt C;rw[s e (wb l)]at J
  have:i*R.k+j<R.c.length*R.k:=by
   calc i*R.k+j<i*R.k+R.k:=by omega
    _=(i+1)*R.k:=by grind
    _<=R.c.length*R.k:=wu _ K
  grind
 refine⟨m,⟨g,λ a off u b=>?_⟩,⟨h.nb,?_,?_,?_,h.inj,?_,?_,h.apart⟩,y⟩
 .have d:(if a=Γ.cur r/\Γ.of r<=off/\off<Γ.of r+R.c.length*R.k then w.cell? ⟨a,off,none⟩else Γ.mem a off)=some u:=b;split at d
  .rename_i z;right;right;grind
  .exact .inl d
 .show Γ.nr=(σ.rw.modify r qn5).length;rw[vY];exact h.nr
 .intro a off u b;have d:(if a=Γ.cur r/\Γ.of r<=off/\off<Γ.of r+R.c.length*R.k then w.cell? ⟨a,off,none⟩else Γ.mem a off)=some u:=b;split at d
  .rename_i z;refine⟨d,?_⟩;obtain⟨off,rfl⟩:∃p,off=Γ.of r+p:=⟨off-Γ.of r,by omega⟩
   have v:off/R.k<R.c.length:=by
    rw[xX pos];omega
   have Y:off%R.k<R.k:=xU _ pos;have X:=s _ (wW v);let⟨u',U,_,Z⟩:=M (off/R.k) _ (off%R.k) _ (List.getElem?_eq_getElem v) (List.getElem?_eq_getElem (by omega));grind [Nat.mul_comm,Nat.div_add_mod]
  .exact h.mem a off u d
 .intro i cs b;exact(h.box i cs b).lift (by rw[h.nb];exact getElem?_lt b) g λ o B=>B
 .intro i l off;show(if _ then _ else _)=_;rw[if_neg λ z=>S (by omega) i l z.1];exact h.boxmem i l off
 .intro A R' L;let⟨R0,D,b⟩:=qJs L;by_cases t:r=A
  .subst t;rw[if_pos rfl]at b;rw[G]at D;cases D;subst b;refine⟨k,λ v=>E (wz (vR _ R.c.length) v),pos,s,T,fz.imp_right λ v=>Nat.max_le.2 ⟨v,wa _⟩,g2,g4,?_,?_,S,g9⟩
   .intro O off B;have W:Γ.of r+R.c.length*R.k<=off:=wz (Nat.add_le_add_left (wu _ (wae R.fz _)) _) B;have V:Γ.of r+R.fz*R.k<=off:=wz (Nat.add_le_add_left (wu _ (vR _ R.c.length)) _) B;grind
   .intro i N j x l C;let⟨u,P,f,Q⟩:=M i N j x l C;exact⟨u,P,f.mono g,Q⟩
  .rw[if_neg t]at b;subst b;have n:A<Γ.nr:=by rw[h.nr];exact getElem?_lt D
   refine(h.row A _ D).lift n g rfl (λ _ _ h=>h) (λ O off H=>?_) λ _ i l hn=>by grind
   show(if _ then _ else _)=_;rw[if_neg λ z=>h.apart r A F n t (by omega) O z.1.symm];exact H
theorem qli{Γ m}(a:Fz Γ m)(w):Ext Γ w {Γ with mem:=m} w:=⟨a.le,rfl,rfl,rfl,wa _,λ _ _ _=>rfl,λ _ h=>.inl h,λ b o u d=>(a.own b o u d).imp_right .inl,wa _⟩
theorem Qz.mono{Γ m}(b:Le Γ {Γ with mem:=m}){r R}(h:Qz Γ r R):Qz {Γ with mem:=m} r R:=λ i e j x g f=>
 let⟨u,c,d⟩:=h i e j x g f;⟨u,b.mem _ _ _ c,d.mono b⟩
theorem qaE{w}:∀c {Γ} {σ} (h:Inv Γ σ w) a,
  ∃m,Fz Γ m/\Inv {Γ with mem:=m} {σ with rw:=frz σ.rw c,wrr:=a} w/\∀r∈c,∀R,σ.rw[r]?=some R->Qz {Γ with mem:=m} r R
 |[],Γ,σ,h,a=>⟨Γ.mem,⟨Le.refl _,λ _ _ _ h=>.inl h⟩,⟨h.nb,h.nr,h.mem,h.box,h.inj,h.boxmem,h.row,h.apart⟩,λ r d=>by cases d⟩
 |r::c,Γ,σ,h,a=>by
   cases d:σ.rw[r]? with
   |none=>
     let⟨m,g,l,q⟩:=qaE c h a;have s:=List.getElem?_eq_none_iff.1 d;have e:σ.rw.modify r qn5=σ.rw:=List.modify_eq_self s;refine⟨m,g,?_,λ p k R x=>?_⟩
     .show Inv _ {σ with rw:=c.foldl _ (σ.rw.modify r qn5),wrr:=a} w;rw[e];exact l
     .grind
   |some R=>
     let⟨m,g,l,q⟩:=qwO h d a;let⟨m',n,v,g3⟩:=qaE c l a;refine⟨m',⟨g.le.trans n.le,λ b o u t=>(n.own b o u t).elim (g.own b o u) .inr⟩,v,λ p k R' f=>?_⟩;by_cases j:p=r
     .subst j;rw[d]at f;cases f;exact q.mono n.le
     .grind
theorem qHN{c xs:List (List AV)}{i e}(h:(c++xs)[i]?=some e):(i<c.length/\c[i]?=some e)\/(c.length<=i/\xs[i-c.length]?=some e):=by
 grind
theorem qmI{Γ σ w w'}(h:Inv Γ σ w){r R R'}(hr:σ.rw[r]?=some R)(V:R.fz<=R.c.length)(J:R'.k=R.k){g vs e o}(ag:R'.off=false->o=0)(an:R'.ver=R.ver+1\/(R'.ver=R.ver/\g=Γ.cur r/\vs.size=Γ.sz r/\o=Γ.of r))(W:∀e∈R'.c,e.length=R.k)(ae:∀e∈R'.c,∀x∈e,qv x=true)(aj:R'.fz<=R'.c.length){fr}(ad:qqj vs.size fr)(ai:R.k≠1->fr=(0,0))(A:w'.heap[g]?=some (.cells vs e fr))(X:o+R'.c.length*R.k<=vs.size)(aa:∀off,o+R'.fz*R.k<=off->Γ.mem g off=none)(I:∀i e j x,R'.c[i]?=some e->e[j]?=some x->∃u,vs[o+(i*R.k+j)]?=some u/\Rep Γ x u/\u.oneCell'=true)(U:∀b o u,Γ.mem b o=some u->w'.cell? ⟨b,o,none⟩=some u)(ho:∀b,b<w.heap.size->(b≠Γ.cur r\/Γ.sz r=0)->w'.heap[b]?=w.heap[b]?)(f:(g=Γ.cur r/\Γ.sz r≠0)\/w.heap.size<=g)(af:w'.os=w.os)(ab:w'.tape=w.tape)(T:w'.output=w.output)(ac:w.heap.size<=w'.heap.size)(ak:w.drawn<=w'.drawn)(wl):
  ∃Γ',Ext Γ w Γ' w'/\Inv Γ' {σ with rw:=σ.rw.set r R',wrr:=wl} w'/\∀n cap a,n<=cap->(cap=0\/a=some ⟨g,o,none⟩)->o+cap*R.k<=vs.size->Rep Γ' (.rs r 0 n R'.ver false) (.slice a n cap):=by
 have m:r<Γ.nr:=by rw[h.nr];exact getElem?_lt hr
 have H:=h.row r R hr;let Γ':Gh:={Γ with ver:=λ s=>if s=r then R'.ver else Γ.ver s,cur:=λ s=>if s=r then g else Γ.cur s,sz:=λ s=>if s=r then vs.size else Γ.sz s,of:=λ s=>if s=r then o else Γ.of s}
 have v1:Γ'.ver r=R'.ver:=if_pos rfl;have C:Γ'.cur r=g:=if_pos rfl;have s1:Γ'.sz r=vs.size:=if_pos rfl;have o1:Γ'.of r=o:=if_pos rfl;have v2:∀q,q≠r->Γ'.ver q=Γ.ver q:=λ q v=>if_neg v;have Z:∀q,q≠r->Γ'.cur q=Γ.cur q:=λ q v=>if_neg v;have O:∀q,q≠r->Γ'.sz q=Γ.sz q:=λ q v=>if_neg v
 have y:Le Γ Γ':=by
  refine⟨λ _ _ _ h=>h,wa _,λ _ _=>rfl,wa _,λ _ _=>rfl,λ q _=>?_,λ q _ v=>?_⟩
  .by_cases d:q=r
   .rw[d,v1,<-H.ver V];grind
   .grind
  .by_cases d:q=r
   .subst d;rw[v1,<-H.ver V]at v;grind
   .grind
 refine⟨Γ',⟨y,af,ab,T,ac,λ b B hn=>ho b B (by
  by_cases t:Γ.sz r=0
  .exact .inr t
  .exact .inl λ z=>hn (.inr ⟨r,m,t,z.symm⟩)),?_,λ _ _ _ h=>.inl h,ak⟩,⟨h.nb,?_,λ b o u hm=>⟨U b o u hm,(h.mem b o u hm).2⟩,?_,h.inj,h.boxmem,?_,?_⟩,?_⟩
 .rintro b (B|⟨q,v,t,B⟩)
  .exact .inl (.inl B)
  .by_cases d:q=r
   .rw[d,C]at B;obtain⟨f,l⟩|f:=f
    .left;right;exact⟨r,m,l,by rw[<-f,B]⟩
    .right;omega
   .rw[Z q d]at B;exact .inl (.inr ⟨q,v,by rw[<-O q d];exact t,B⟩)
 .show Γ.nr=(σ.rw.set r R').length;rw[wI];exact h.nr
 .intro i cs G;have p:i<Γ.nb:=by rw[h.nb];exact getElem?_lt G
  exact(h.box i cs G).lift p y λ ob F=>by
   rw[ho _ (h.box_lt p) (by
    by_cases t:Γ.sz r=0
    .exact .inr t
    .exact .inl (H.nbx t i p))];exact F
 .intro q Q K;rw[List.getElem?_set]at K;split at K
  .rename_i d;subst d;split at K<;>cases K;refine⟨J.trans H.k,λ _=>v1.symm,by rw[J];exact H.pos,by rw[J];exact W,ae,.inr aj,λ _=>⟨vs,e,fr,by rw[C];exact A,s1.symm,ad,by rw[J];exact ai⟩,by rw[J,s1,o1];exact X,λ _ off am=>by rw[C];exact aa off (by grind),?_,λ _ i G=>?_,λ hf=>o1.trans (ag hf)⟩
   .intro i e' j x G hj;let⟨u,hu,S,Y⟩:=I i e' j x G hj;exact⟨u,by rw[C,o1,J,QU A];exact hu,S.mono y,Y⟩
   .rw[C];intro z;have z:Γ.β i=g:=z;have p:=G;obtain⟨f,l⟩|f:=f
    .exact H.nbx l i p (z.trans f)
    .have:=h.box_lt p;omega
  .rename_i d;have E:q<Γ.nr:=by rw[h.nr];exact getElem?_lt K
   refine(h.row q Q K).lift E y (v2 q λ z=>d z.symm) (λ t ob F=>?_) (λ _ _ hm=>hm) λ _ i G hn=>by grind
   rw[ho _ (h.cur_lt E t) (by
    by_cases P:Γ.sz r=0
    .exact .inr P
    .exact .inl λ z=>h.apart r q m E d P t z.symm)];exact F
 .intro q D Y h2 ah N M;by_cases e1:q=r<;>by_cases L:D=r
  .omega
  .rw[O D L]at M;rw[e1,C,Z D L];obtain⟨f,l⟩|f:=f
   .rw[f];exact h.apart r D m h2 (xT L) l M
   .have:=h.cur_lt h2 M;omega
  .rw[O q e1]at N;rw[L,C,Z q e1];obtain⟨f,l⟩|f:=f
   .rw[f];exact h.apart q r Y m e1 N l
   .have:=h.cur_lt Y N;omega
  .rw[O q e1]at N;rw[O D L]at M;rw[Z q e1,Z D L];exact h.apart q D Y h2 ah N M
 .intro n cap a hn ha al;refine .rs _ _ _ _ _ _ _ m (by omega) hn (λ hf=>by cases hf) λ _=>?_;rw[C,s1,o1];refine⟨ha.imp_right λ h=>by rw[h,kR,wO],?_⟩;rw[<-H.k,wG];exact al
theorem qvg{Γ σ w w'}(h:Inv Γ σ w){r R R'}(I:σ.rw[r]?=some R)(B:Γ.of r=0)(C:R.fz<=R.c.length)(J:R'.k=R.k){g vs e}(q:R'.ver=R.ver+1\/(R'.ver=R.ver/\g=Γ.cur r/\vs.size=Γ.sz r))(p:∀e∈R'.c,e.length=R.k)(z:∀e∈R'.c,∀x∈e,qv x=true)(E:R'.fz<=R'.c.length){fr}(y:qqj vs.size fr)(D:R.k≠1->fr=(0,0))(l:w'.heap[g]?=some (.cells vs e fr))(H:R'.c.length*R.k<=vs.size)(s:∀off,R'.fz*R.k<=off->Γ.mem g off=none)(d:∀i e j x,R'.c[i]?=some e->e[j]?=some x->∃u,vs[i*R.k+j]?=some u/\Rep Γ x u/\u.oneCell'=true)(m:∀b o u,Γ.mem b o=some u->w'.cell? ⟨b,o,none⟩=some u)(G:∀b,b<w.heap.size->(b≠Γ.cur r\/Γ.sz r=0)->w'.heap[b]?=w.heap[b]?)(K:(g=Γ.cur r/\Γ.sz r≠0)\/w.heap.size<=g)(A:w'.os=w.os)(t:w'.tape=w.tape)(f:w'.output=w.output)(v:w.heap.size<=w'.heap.size)(F:w.drawn<=w'.drawn)(wl):
  ∃Γ',Ext Γ w Γ' w'/\Inv Γ' {σ with rw:=σ.rw.set r R',wrr:=wl} w'/\∀n cap,n<=cap->cap*R.k<=vs.size->Rep Γ' (.rs r 0 n R'.ver false) (.slice (some ⟨g,0,none⟩) n cap):=by
 let⟨Γ',N,M,L⟩:=qmI h I C J (λ _=>rfl) (q.imp_right λ⟨a,b,c⟩=>⟨a,b,c,B.symm⟩) p z E y D l (by omega) (λ off G=>s off (by omega))
  (λ i e j x a b=>by rw[wG];exact d i e j x a b) m G K A t f v F wl
 grind
theorem qNt{Γ σ w}(h:Inv Γ σ w){r R}(E:σ.rw[r]?=some R)(z:R.fz<=R.c.length){l}(W:l<=R.c.length)(wl):
  ∃Γ',Ext Γ w Γ' w/\Inv Γ' {σ with rw:=σ.rw.set r {R with c:=R.c.drop l,ver:=R.ver+1,fz:=R.fz-l,off:=true},wrr:=wl} w/\
   ∀n cap a,n<=cap->(cap=0\/a=some ⟨Γ.cur r,Γ.of r+l*R.k,none⟩)->Γ.of r+l*R.k+cap*R.k<=Γ.sz r->Rep Γ' (.rs r 0 n (R.ver+1) false) (.slice a n cap):=by
 have H:=h.row r R E;have V:l*R.k<=R.c.length*R.k:=wu _ W;have A:=H.fit;have Y:(R.c.length-l)*R.k=R.c.length*R.k-l*R.k:=wac _ _ _;by_cases t:Γ.sz r=0
 .-- no block: nothing is left out
  have D:r<Γ.nr:=by rw[h.nr];exact getElem?_lt E
  have s:R.c=[]:=by
   cases hc:R.c with
   |nil=>rfl
   |cons e c=>
     have:=H.pos;rw[hc,wx,kS]at A;omega
  let Γ':Gh:={Γ with ver:=λ L=>if L=r then R.ver+1 else Γ.ver L}
  have K:Γ'.ver r=R.ver+1:=if_pos rfl;have P:∀q,q≠r->Γ'.ver q=Γ.ver q:=λ q S=>if_neg S
  have m:Le Γ Γ':=by
   refine⟨λ _ _ _ h=>h,wa _,λ _ _=>rfl,wa _,λ _ _=>rfl,λ q _=>?_,λ q _ _=>⟨rfl,rfl,rfl⟩⟩;by_cases f:q=r
   .rw[f,K,<-H.ver z];omega
   .grind
  refine⟨Γ',⟨m,rfl,rfl,rfl,wa _,λ _ _ _=>rfl,λ _ h=>.inl h,λ _ _ _ h=>.inl h,wa _⟩,⟨h.nb,?_,h.mem,λ i cs p=>(h.box i cs p).lift (by rw[h.nb];exact getElem?_lt p) m λ _ h=>h,h.inj,h.boxmem,?_,h.apart⟩,?_⟩
  .show Γ.nr=(σ.rw.set r _).length;rw[wI];exact h.nr
  .intro q Q v;rw[List.getElem?_set]at v;split at v
   .rename_i f;subst f;split at v<;>cases v;refine⟨H.k,λ _=>K.symm,H.pos,λ e g=>?_,λ e g=>?_,.inl ?_,λ d=>absurd t d,?_,λ d=>absurd t d,λ i e j x p=>?_,λ d=>absurd t d,λ B=>by cases B⟩
    .rw[s]at g;simp at g
    .rw[s]at g;simp at g
    .grind
    .grind
    .rw[s]at p;simp at p
   .rename_i f;have F:q<Γ.nr:=by rw[h.nr];exact getElem?_lt v
    exact(h.row q Q v).lift F m (P q λ g=>f g.symm) (λ _ _ h=>h) (λ _ _ G=>G) λ _ i p N=>by grind
  .intro n cap a N ha Z
   have C:cap=0:=by
    obtain J|J:=vZ cap
    .exact J
    .have:=wan J H.pos;omega
   refine .rs _ _ _ _ _ _ _ D (by omega) N (λ B=>by cases B) λ _=>⟨.inl C,?_⟩
   grind
 .let⟨vs,e',fr,O,g3,g4,g5⟩:=H.blk t
  let⟨Γ',f1,f2,f3⟩:=qmI h E z (R':={R with c:=R.c.drop l,ver:=R.ver+1,fz:=R.fz-l,off:=true}) rfl (o:=Γ.of r+l*R.k) (λ B=>by cases B) (.inl rfl)
   (λ e g=>H.len e (wP g)) (λ e g=>H.plain e (wP g)) (by grind) g4 g5 O
   (by grind)
   (λ off U=>H.un t off (by
    have T:Γ.of r+l*R.k+(R.fz-l)*R.k<=off:=U;have:R.fz*R.k<=l*R.k+(R.fz-l)*R.k:=by rw[<-wU];exact wu _ (by omega)
    omega))
   (λ i e j x p X=>by
    have I:R.c[l+i]?=some e:=by grind
    let⟨u,M,y,h1⟩:=H.cells (l+i) e j x I X;refine⟨u,?_,y,h1⟩;rw[QU O,wU]at M;rw[show Γ.of r+l*R.k+(i*R.k+j)=Γ.of r+(l*R.k+i*R.k+j) by omega];exact M)
   (λ b o u G=>(h.mem b o u G).1) (λ _ _ _=>rfl) (.inl ⟨rfl,t⟩) rfl rfl rfl (wa _) (wa _) wl
  grind
theorem qM2{Γ σ w w'}(h:Inv Γ σ w){r R}(P:σ.rw[r]?=some R)(t:R.fz<=R.c.length){xs}(v:∀e∈xs,e.length=R.k)(D:∀e∈xs,∀x∈e,qv x=true){qj}(Y:qj.length=xs.length*R.k)(Z:∀i e j x,xs[i]?=some e->e[j]?=some x->∃u,qj[i*R.k+j]?=some u/\Rep Γ x u/\u.oneCell'=true)(o:Γ.sz r≠0)(U:Γ.of r+(R.c.length+xs.length)*R.k<=Γ.sz r)(V:∀vs e fr,w.heap[Γ.cur r]?=some (.cells vs e fr)->w'.heap[Γ.cur r]?=some (.cells (vs.toList.take (Γ.of r+R.c.length*R.k)++qj++vs.toList.drop (Γ.of r+R.c.length*R.k+qj.length)).toArray e fr))(S:∀k,k≠Γ.cur r->w'.heap[k]?=w.heap[k]?)(E:w'.os=w.os)(A:w'.tape=w.tape)(p:w'.output=w.output)(X:w'.heap.size=w.heap.size)(M:w.drawn<=w'.drawn)(wl){cap}(hc:R.c.length+xs.length<=cap)(ab:Γ.of r+cap*R.k<=Γ.sz r):
  ∃Γ',Ext Γ w Γ' w'/\Inv Γ' {σ with rw:=σ.rw.set r {R with c:=R.c++xs,ver:=R.ver+1},wrr:=wl} w'/\Rep Γ' (.rs r 0 (R.c.length+xs.length) (R.ver+1) false) (.slice (some ⟨Γ.cur r,Γ.of r,none⟩) (R.c.length+xs.length) cap):=by
 have H:=h.row r R P;let⟨vs,e',fr,O,g3,g4,g5⟩:=H.blk o;have l:=V vs e' fr O;have W:vs.toList.length=Γ.sz r:=by omega
 have ac:(R.c.length+xs.length)*R.k=R.c.length*R.k+qj.length:=by grind
 have T:R.fz*R.k<=R.c.length*R.k:=wu _ t
 have C:(vs.toList.take (Γ.of r+R.c.length*R.k)++qj++vs.toList.drop (Γ.of r+R.c.length*R.k+qj.length)).length=Γ.sz r:=by
  simp;omega
 have g:∀off,off<Γ.of r+R.c.length*R.k->(vs.toList.take (Γ.of r+R.c.length*R.k)++qj++vs.toList.drop (Γ.of r+R.c.length*R.k+qj.length))[off]?=vs[off]?:=by
  intro off s;rw[wn,List.getElem?_append_left (by grind),List.getElem?_take,if_pos s];simp
 have m:∀q u,qj[q]?=some u->(vs.toList.take (Γ.of r+R.c.length*R.k)++qj++vs.toList.drop (Γ.of r+R.c.length*R.k+qj.length))[Γ.of r+R.c.length*R.k+q]?=some u:=by
  intro q u Q;have B:(vs.toList.take (Γ.of r+R.c.length*R.k)).length=Γ.of r+R.c.length*R.k:=by grind
  rw[wn,List.getElem?_append_right (by omega),B,kQ,List.getElem?_append_left (getElem?_lt Q)];exact Q
 let⟨Γ',f1,f2,f3⟩:=qmI h P t (R':={R with c:=R.c++xs,ver:=R.ver+1}) rfl (λ hf=>H.off hf) (.inl rfl)
  (λ e L=>(wj.1 L).elim (H.len e) (v e)) (λ e L=>(wj.1 L).elim (H.plain e) (D e)) (by grind) (by grind) g5 l
  (by simp_all) (H.un o)
  (by
   intro i e j x hi I;have J:=hi;rw[List.getElem?_toArray];obtain⟨f,a⟩|⟨K,a⟩:=qHN J
   .let⟨u,z,d,N⟩:=H.cells i e j x a I;refine⟨u,?_,d,N⟩;have G:=getElem?_lt I;rw[H.len e (wb a)]at G
    have:i*R.k+j<R.c.length*R.k:=by
     calc i*R.k+j<i*R.k+R.k:=by omega
      _=(i+1)*R.k:=by grind
      _<=R.c.length*R.k:=wu _ f
    rw[g _ (by omega),<-QU O];exact z
   .let⟨u,z,d,N⟩:=Z _ e j x a I;refine⟨u,?_,d,N⟩;have aa:i*R.k=R.c.length*R.k+(i-R.c.length)*R.k:=by rw[<-wU];congr 1;omega
    rw[show Γ.of r+(i*R.k+j)=Γ.of r+R.c.length*R.k+((i-R.c.length)*R.k+j) by omega];exact m _ u z)
  (by
   intro b off u F;have n:=(h.mem b off u F).1;by_cases y:b=Γ.cur r
   .subst y
    have f:off<Γ.of r+R.c.length*R.k:=by
     obtain f|K:=Nat.lt_or_ge off (Γ.of r+R.c.length*R.k)
     .exact f
     .rw[H.un o off (by omega)]at F;cases F
    rw[QU l,List.getElem?_toArray,g off f,<-QU O];exact n
   .unfold World.cell? at n |-
    rw[S b y];exact n)
  (λ b _ y=>S b (y.resolve_right o)) (.inl ⟨rfl,o⟩) E A p (by omega) M wl
 grind
theorem qMK{Γ σ w w'}(h:Inv Γ σ w){r R}(v:σ.rw[r]?=some R)(p:R.fz<=R.c.length){xs}(l:∀e∈xs,e.length=R.k)(m:∀e∈xs,∀x∈e,qv x=true){vs e g}(d:Below w.heap.size w w')(s:w.drawn<=w'.drawn)(A:w.heap.size<=g)(f:w'.heap[g]?=some (.cells vs e (0,0)))(y:(R.c.length+xs.length)*R.k<=vs.size)(z:∀i e j x,(R.c++xs)[i]?=some e->e[j]?=some x->∃u,vs[i*R.k+j]?=some u/\Rep Γ x u/\u.oneCell'=true)(wl){cap}(C:R.c.length+xs.length<=cap)(B:cap*R.k<=vs.size):
  ∃Γ',Ext Γ w Γ' w'/\Inv Γ' {σ with rw:=σ.rw.set r {R with c:=R.c++xs,ver:=R.ver+1},wrr:=wl} w'/\Rep Γ' (.rs r 0 (R.c.length+xs.length) (R.ver+1) false) (.slice (some ⟨g,0,none⟩) (R.c.length+xs.length) cap):=by
 have H:=h.row r R v
 let⟨Γ',F,E,D⟩:=qmI h v p (R':={R with c:=R.c++xs,ver:=R.ver+1}) rfl (λ _=>rfl) (.inl rfl)
  (λ e q=>(wj.1 q).elim (H.len e) (l e)) (λ e q=>(wj.1 q).elim (H.plain e) (m e)) (by grind) (qCN _) (λ _=>rfl) f
  (by grind)
  (λ off _=>by
   cases n:Γ.mem g off with
   |none=>rfl
   |some u=>have:=h.mem_lt n;omega) (λ i e j x a b=>by rw[wG];exact z i e j x a b) (λ b o u n=>qyb d (h.mem b o u n).1) (λ b t _=>d.block b t) (.inr A) d.os d.tape d.output d.size s wl
 grind
theorem qrC{Γ σ w w'}(h:Inv Γ σ w){r R}(T:σ.rw[r]?=some R){i e0 e1}(A:R.c[i]?=some e0)(hf:R.fz<=i)(t:R.off=false)(v:e1.length=R.k)(D:∀x∈e1,qv x=true){vs'}(W:∀vs e fr,w.heap[Γ.cur r]?=some (.cells vs e fr)->w'.heap[Γ.cur r]?=some (.cells vs' e fr)/\vs'.size=vs.size/\∀off,(off<i*R.k\/i*R.k+R.k<=off)->vs'[off]?=vs[off]?)(F:∀j x,e1[j]?=some x->∃u,vs'[i*R.k+j]?=some u/\Rep Γ x u/\u.oneCell'=true)(U:∀k,k≠Γ.cur r->w'.heap[k]?=w.heap[k]?)(E:w'.os=w.os)(C:w'.tape=w.tape)(s:w'.output=w.output)(Y:w'.heap.size=w.heap.size)(O:w.drawn<=w'.drawn)(wl):
  ∃Γ',Ext Γ w Γ' w'/\Inv Γ' {σ with rw:=σ.rw.set r {R with c:=R.c.set i e1},wrr:=wl} w':=by
 have H:=h.row r R T;have I:=H.fz.resolve_left λ F=>by rw[F]at A;cases A
 have z:=H.real A;have o:=H.off t;have a:=H.cells;have d:=H.un z;have y:=H.fit;rw[o]at a d y;simp at a d y;let⟨vs,e',fr,P,g3,g4,g5⟩:=H.blk z;let⟨S,V,Q⟩:=W vs e' fr P;have Z:=getElem?_lt A
 let⟨Γ',f1,f2,_⟩:=qvg h T o I (R':={R with c:=R.c.set i e1}) rfl (.inr ⟨rfl,rfl,V.trans g3⟩)
  (λ e N=>by
   let⟨q,g⟩:=List.getElem?_of_mem N;rw[List.getElem?_set]at g;split at g
   .cases g;exact v
   .exact H.len e (wb g))
  (λ e N=>by
   let⟨q,g⟩:=List.getElem?_of_mem N;rw[List.getElem?_set]at g;split at g
   .cases g;exact D
   .exact H.plain e (wb g)) (by grind) (by grind) g5 S
  (by grind) d
  (by
   intro q e j x g K;have f:=g;rw[List.getElem?_set]at f;split at f
   .rename_i m;subst m;cases f;exact F j x K
   .rename_i m;let⟨u,X,p,h1⟩:=a q e j x f K;refine⟨u,?_,p,h1⟩;have J:=getElem?_lt K;rw[H.len e (wb f)]at J;rw[Q,<-QU P]
    .exact X
    .obtain l|L:=Nat.lt_or_gt_of_ne m
     .right
      calc i*R.k+R.k=(i+1)*R.k:=by grind
       _<=q*R.k:=wu _ l
       _<=q*R.k+j:=kI _ _
     .left
      calc q*R.k+j<q*R.k+R.k:=by omega
       _=(q+1)*R.k:=by grind
       _<=i*R.k:=wu _ L)
  (by
   intro b off u G;have n:=(h.mem b off u G).1;by_cases B:b=Γ.cur r
   .subst B
    have l:off<R.fz*R.k:=by
     obtain l|M:=Nat.lt_or_ge off (R.fz*R.k)
     .exact l
     .rw[d off M]at G;cases G
    have:R.fz*R.k<=i*R.k:=wu _ hf;rw[QU S,Q off (.inl (by omega)),<-QU P];exact n
   .unfold World.cell? at n |-
    rw[U b B];exact n)
  (λ b _ B=>U b (B.resolve_right z)) (.inl ⟨rfl,z⟩) E C s (by omega) O wl
 exact⟨Γ',f1,f2⟩
end Go.AmZ
namespace Go.AmZ
open Go Go.RowKit
theorem TD.inv{P:Program}{t:TypeId}{d:TD}(h:yQ P t=some d):∃i u z,P.info? t=some i/\P.underlying t=some u/\i.zero=some z/\i.size=d.size/\i.bytes=d.bytes/\qsu u=d.agg/\z.cells.toList=d.zero/\qbb P u=some d.k:=by
 grind [yQ]
theorem qhb{P:Program}{u:TypeDesc}(h:qbb P u=some .string):u=.string:=by
 cases u<;>(try (cases qg3 h;done))<;>simp[qbb]at h<;>try rfl
 all_goals (split at h<;>try (split at h))<;>simp at h
theorem qQz{P:Program}{u:TypeDesc}(h:qbb P u=some .bool):u=.bool:=by
 cases u<;>(try (cases qg3 h;done))<;>simp[qbb]at h<;>try rfl
 all_goals (split at h<;>try (split at h))<;>simp at h
theorem qGe{P:Program}{u:TypeDesc}{k:IntKind}(h:qbb P u=some (.int k)):u=.int k:=by
 cases u<;>(try (cases qg3 h;done))<;>simp[qbb]at h
 all_goals first|(subst h;rfl)|((split at h<;>try (split at h))<;>simp at h)
theorem qbc{P:Program}{u:TypeDesc}{e s b:Nat}{z:List Value}(h:qbb P u=some (.slice e s b z)):u=.slice e/\∃i a,P.info? e=some i/\i.zero=some a/\i.size=s/\i.bytes=b/\a.cells.toList=z:=by
 cases u with
 |slice c=>
   grind [qbb]
 |map=>cases qg3 h
 |_=>simp[qbb]at h<;>(split at h<;>simp at h)
theorem qNa{P:Program}{u:TypeDesc}{n e s:Nat}(h:qbb P u=some (.array n e s)):u=.array n e/\∃i,P.info? e=some i/\i.size=s:=by
 cases u with
 |array a b=>
   grind [qbb]
 |map=>cases qg3 h
 |_=>simp[qbb]at h<;>((split at h<;>try (split at h))<;>simp at h)
theorem qrd{P:Program}{u:TypeDesc}{b:List (Nat×Nat×Bool)}(h:qbb P u=some (.struct b)):∃F,u=.struct F/\fieldsOf P F.toList=some b:=by
 cases u with
 |struct F=>
   simp only[qbb]at h;cases a:fieldsOf P F.toList with
   |none=>rw[a]at h;cases h
   |some l=>rw[a]at h;cases h;exact⟨F,rfl,a⟩
 |slice e=>simp only[qbb]at h;split at h<;>(try split at h)<;>cases h
 |array n e=>simp only[qbb]at h;split at h<;>cases h
 |map=>cases qg3 h
 |_=>simp[qbb]at h
theorem qkU{P:Program}:∀{F:List Field}{a:List (Nat×Nat×Bool)},fieldsOf P F=some a->F.length=a.length/\∀(i:Nat) (x:Nat×Nat×Bool),a[i]?=some x->∃f fi u,F[i]?=some f/\P.info? f.type=some fi/\P.underlying f.type=some u/\x=(f.offset,fi.size,qsu u)
 |[],a,h=>by simp[fieldsOf]at h;subst h;exact⟨rfl,λ i x b=>by simp at b⟩
 |f::F,a,h=>by
   simp only[fieldsOf]at h;split at h
   .rename_i i u l e d c;cases h;let⟨j,g⟩:=qkU c;grind
   .cases h
def QK(P:Program)(Γ:Gh)(σ:St)(w:World)(o:Oper)(ρ:Operand->Value)(x:AV)(σ':Option St):Prop:=
 ∃a u w' Γ',(execOp ρ o).run P w=.ok a w'/\(a=.value u\/(a=.skip/\u=undef))/\Ext Γ w Γ' w'/\Inv Γ' (turn σ σ') w'/\Rep Γ' x u
theorem QK.val{P:Program}{Γ:Gh}{σ:St}{w:World}{o:Oper}{ρ:Operand->Value}{x:AV}{u:Value}(h:(execOp ρ o).run P w=.ok (.value u) w)(b:Inv Γ σ w)(a:Rep Γ x u):QK P Γ σ w o ρ x none:=
 ⟨_,u,w,Γ,h,.inl rfl,.refl _ _,b,a⟩
section
variable {P:Program}{C:Cfg}{Γ:Gh}{σ:St}{w:World}{o:Oper}{tm:List AV}{ρ:Operand->Value}{x:AV}{σ':Option St}
theorem zp{y:Value}{u:Value}(h:Rep Γ (.v y) u):u=y:=by cases h;rfl
theorem qIs(c:Inv Γ σ w)(b:∀y,Rep Γ (aev tm y) (ρ y))(y:Operand)(a:o.op=.move y\/o.op=.assign y):QK P Γ σ w o ρ (aev tm y) none:=by
 refine .val ?_ c (b y);obtain a|a:=a<;>simp[execOp,a]
theorem qQX(g:Inv Γ σ w)(d:∀y,Rep Γ (aev tm y) (ρ y))(c a b:Operand)(e:o.op=.pick c a b)(h:qc C tm σ o.op=some (x,σ')):QK P Γ σ w o ρ x σ':=by
 rw[e]at h;simp only[qc]at h;split at h<;>try cases h
 .rename_i f;have:=zp (f▸d c);exact .val (by simp[execOp,e,this,asBool]) g (d a)
 .rename_i f;have:=zp (f▸d c);exact .val (by simp[execOp,e,this,asBool]) g (d b)
theorem qgb(e:TypeId)(cs:Array Value)(w:World):(newRow e cs).run P w=.ok ⟨w.heap.size,0,none⟩ (w.alloc (.cells cs e)):=by
 simp only[newRow,newObj];rfl
theorem qeG:∀{l:List Value},l.all zk=true->RepL Γ (l.map .v) l/\∀u∈l,u.oneCell'=true
 |[],_=>⟨.nil,λ u h=>by cases h⟩
 |y::l,h=>by
   simp only[wX,wc]at h;let⟨c,b⟩:=qeG h.2;refine⟨.cons (.v y h.1) c,λ u a=>?_⟩;obtain rfl|a:=wv.1 a
   .exact qDB h.1
   .exact b u a
theorem qMD(g:∀t d,C.ty t=some d->yQ P t=some d)(c:Inv Γ σ w)(e:TypeId)(a:o.op=.alloc e)(h:qc C tm σ o.op=some (x,σ')):QK P Γ σ w o ρ x σ':=by
 rw[a]at h;simp only[qc]at h;split at h<;>try cases h
 rename_i d f;split at h<;>try cases h
 rename_i b;let⟨i,u,z,l,A,k,y,v,s,j,r⟩:=TD.inv (g e d f);let⟨n,m⟩:=qeG (Γ:=Γ) b;let⟨Γ',e1,q,p⟩:=qBb c n m e;refine⟨.value (.pointer (some ⟨w.heap.size,0,none⟩)),_,_,Γ',?_,.inl rfl,e1,q,p⟩;rw[<-j];simp[execOp,a,Instr.alloc,zeroValue,typeInfo,l,k,newVar,qgb]
theorem qSS(d:Inv Γ σ w)(a:∀y,Rep Γ (aev tm y) (ρ y))(e:TypeId)(y:Operand)(b:o.op=.box e y)(h:qc C tm σ o.op=some (x,σ')):QK P Γ σ w o ρ x σ':=by
 rw[b]at h;simp only[qc]at h;split at h<;>try cases h
 split at h<;>try cases h
 rename_i c;let⟨g,f⟩:=(a y).cells c;let⟨Γ',e1,j,i⟩:=qBb d g f e;refine⟨.value (.pointer (some ⟨w.heap.size,0,none⟩)),_,_,Γ',?_,.inl rfl,e1,j,i⟩;simp[execOp,b,Instr.box,newVar,qgb]
def qIh(Γ:Gh)(w:World)(cs:List AV)(b o:Nat):Prop:=∀(j:Nat) (x:AV),cs[j]?=some x->∃u,w.cell? ⟨b,o+j,none⟩=some u/\Rep Γ x u/\u.oneCell'=true
theorem qgM(b o j:Nat):(⟨b,o,none⟩:Addr).add j=⟨b,o+j,none⟩:=by unfold Addr.add;split<;>simp_all
theorem qK4(l:Inv Γ σ w){y:AV}{u:Value}(m:Rep Γ y u){d:TD}{z:AV}(h:jI d σ y=some z):∃cs o b g,qIh Γ w cs b g/\u=.pointer (some ⟨b,g+o,none⟩)/\qc5 d.agg d.size cs o=some z:=by
 cases m with
 |ptr b o B=>
   simp only[jI]at h;split at h<;>try cases h
   rename_i cs a;split at h<;>try cases h
   rename_i n;let⟨vs,e,I,E,g3⟩:=(l.box b cs a).cells n;refine⟨cs,o,Γ.β b,0,?_,by simp,h⟩;intro j x c;let⟨u,q,f⟩:=E.get c;refine⟨u,?_,f,g3 u (wb q)⟩;unfold World.cell?;grind
 |rpt r i o J A s F c=>
   simp only[jI]at h;split at h<;>try cases h
   rename_i R C;split at h<;>try cases h
   rename_i cs a;simp only[qtk]at a;split at a<;>try cases a
   rename_i t;have H:=l.row r R C;have D:=c (by rw[<-H.ver (H.live a)];exact t);refine⟨cs,o,Γ.cur r,Γ.of r+i*R.k,?_,by rw[D,H.k],h⟩;intro j x c;rw[wS];exact H.cells i cs j x a c
 |ept cs o b g us G p m=>exact⟨cs,o,b,g,λ j x c=>⟨us j,(l.mem _ _ _ (p j x c)).1,m j x c,(l.mem _ _ _ (p j x c)).2⟩,rfl,h⟩
 |v x B|dead u|sl|rs|fn|agg|tup|mp=>simp[jI]at h
theorem qnx{t:TypeId}{u:TypeDesc}(h:P.underlying t=some u)(w:World):(isAgg t).run P w=.ok (qsu u) w:=by
 cases u<;>simp[isAgg,underlying,h,qsu]
theorem qJ4{t:TypeId}{d:TD}(hd:yQ P t=some d){cs:List AV}{b o' o:Nat}(hc:qIh Γ w cs b o'){z:AV}(h:qc5 d.agg d.size cs o=some z):∃ u,(loadVar t ⟨b,o'+o,none⟩).run P w = .ok u w/\Rep Γ z u:=by
 obtain⟨i,u,zv,h1,h2,h3,h4,h5,h6,h7,h8⟩:=TD.inv hd;unfold qc5 at h;split at h
 ·rename_i hg;split at h<;>try cases h
  rename_i hle;have hle:o+d.size<=cs.length:=by simpa using hle
  have hget:∀ j,j<d.size->∃ u,w.cell? ⟨b,o'+o+j,none⟩=some u/\(∀ x,cs[o+j]?=some x->Rep Γ x u)/\u.oneCell'=true:=by
   intro j hj;have hlt:o+j<cs.length:=by omega
   obtain⟨u,a1,a2,a3⟩:=hc (o+j) _ (List.getElem?_eq_getElem hlt);grind
  let f:Nat->Value := λ j=>(w.cell? ⟨b,o'+o+j,none⟩).getD undef
  have hf:∀ j,j<d.size->w.cell? ⟨b,o'+o+j,none⟩=some (f j) := λ j hj=>by
   grind
  have hrun:=run_loadCells (P:=P) w ⟨b,o'+o,none⟩ d.size f (λ j hj=>by rw[qgM];exact hf j hj);refine⟨.agg ((List.range d.size).map f).toArray,?_,.agg _ _ (by simp;omega) ?_ ?_⟩
  ·rw[show(loadVar t ⟨b,o'+o,none⟩)=(do if <- isAgg t then pure (.agg (<- loadCells ⟨b,o'+o,none⟩ (<- sizeOf t)))else load ⟨b,o'+o,none⟩)from rfl];simp[Sem.run_bind',qnx h2,h6,hg,sizeOf,typeInfo,h1,h4,hrun]
  ·grind
  ·grind
 ·rename_i hg;obtain⟨u,a1,a2,a3⟩:=hc o z h;refine⟨u,?_,a2⟩;rw[show(loadVar t ⟨b,o'+o,none⟩)=(do if <- isAgg t then pure (.agg (<- loadCells ⟨b,o'+o,none⟩ (<- sizeOf t)))else load ⟨b,o'+o,none⟩)from rfl];simp[Sem.run_bind',qnx h2,h6,hg,a1]
theorem qIk(c:Inv Γ σ w){t:TypeId}{d:TD}(e:yQ P t=some d){y:AV}{u:Value}(a:Rep Γ y u){z:AV}(h:jI d σ y=some z):∃v A,u=.pointer (some A)/\(loadVar t A).run P w=.ok v w/\Rep Γ z v:=by
 let⟨cs,o,b,l,i,g,f⟩:=qK4 c a h;let⟨v,k,j⟩:=qJ4 e i f;exact⟨v,_,g,k,j⟩
theorem qQ6(g:∀t d,C.ty t=some d->yQ P t=some d)(c:Inv Γ σ w)(a:∀y,Rep Γ (aev tm y) (ρ y))(t:TypeId)(y:Operand)(b:o.op=.load t y)(h:qc C tm σ o.op=some (x,σ')):QK P Γ σ w o ρ x σ':=by
 rw[b]at h;simp only[qc]at h;split at h<;>try cases h
 rename_i d f;split at h<;>try cases h
 rename_i z e;let⟨v,A,k,j,i⟩:=qIk c (g t d f) (a y) e;exact .val (by simp[execOp,b,Instr.loadAt,Instr.sureAddr,k,Sem.run_bind',j]) c i
theorem qub{w:World}{g j:Nat}{t:TypeId}{fr:Nat×Nat}{a:Array Value}(h:w.heap[g]?=some (.cells a t fr))(c:qqj a.size fr)(d:j<a.size):w.frozen? ⟨g,j,none⟩=false:=by
 let⟨lo,b⟩:=fr;unfold World.frozen?;show(match w.heap[g]? with|some (.cells _ _ (lo,b))=>decide (lo<=j)&&decide (j<b)|_=>false)=false;rw[h];have:=c j d;grind
theorem qG9{w:World}{g:Nat}{t:TypeId}{fr:Nat×Nat}{a:Array Value}(h:w.heap[g]?=some (.cells a t fr)):w.setRow g a.toList.toArray=w:=by
 unfold World.setRow;have:∀H:Array Obj,H=w.heap->({w with heap:=H}:World)=w:=λ H e=>by subst e;rfl
 refine this _ ?_;apply Array.ext_getElem?;intro q;rw[Array.getElem?_modify];split
 .rename_i c;subst c;rw[h];simp
 .rfl
theorem qxn{α:Type}{l m:List α}{off n:Nat}(a:m.length=n)(h:off+n<=l.length)(q:Nat):(l.take off++(m++l.drop (off+n)))[q]?=if q<off then l[q]? else if q<off+n then m[q-off]? else l[q]?:=by
 grind
theorem qlA{g:Nat}{t:TypeId}{fr:Nat×Nat}:∀(vs:List Value) (o:Nat) (a:Array Value) (w:World),w.heap[g]?=some (.cells a t fr)->o+vs.length<=a.size->w.setCells g o vs=w.setRow g (a.toList.take o++(vs++a.toList.drop (o+vs.length))).toArray
 |[],o,a,w,h,_=>by
   rw[World.setCells,wT,wO,xc,kD];exact(qG9 h).symm
 |v::vs,o,a,w,h,c=>by
   rw[wx]at c;have b:o<a.size:=by omega
   have d:w.setCell ⟨g,o,none⟩ v=w.setRow g (a.setIfInBounds o v):=setCell_eq_setRow w g o a t fr v h;rw[World.setCells,d,qlA vs (o+1) (a.setIfInBounds o v) _ (setRow_heap w g a _ t fr h) (by rw[xN];omega),setRow_setRow];congr 2
   have e1:(a.toList.set o v).take (o+1)=a.toList.take o++[v]:=by
    rw[ko,vk (wa _),List.getElem?_set_self (by simpa using b)];rfl
   have e:(a.toList.set o v).drop (o+1+vs.length)=a.toList.drop (o+(v::vs).length):=by
    rw[vS (by omega),wx];congr 1;omega
   grind
theorem qra{w:World}{g:Nat}{t:TypeId}{fr:Nat×Nat}{a:Array Value}(h:w.heap[g]?=some (.cells a t fr))(b:qqj a.size fr)(o:Nat)(vs:List Value)(c:o+vs.length<=a.size)(e:∀v∈vs,v.oneCell'=true):
  (storeCells ⟨g,o,none⟩ vs 0).run P w=.ok () (w.setRow g (a.toList.take o++(vs++a.toList.drop (o+vs.length))).toArray):=by
 have:=run_storeCells_cells (P:=P) g o vs 0 w (λ j d=>by
  rw[QU h,Array.getElem?_eq_getElem (show o+0+j<a.size by omega)];rfl) (λ j d=>qub h b (by omega)) e
 rw[wO,qlA vs o a w h c]at this;exact this
theorem qFq(hC:∀t d,C.ty t=some d->yQ P t=some d)(hi:Inv Γ σ w)(D:∀y,Rep Γ (aev tm y) (ρ y))(t:TypeId)(y z:Operand)(ho:o.op=.store t y z){d:TD}(hd:C.ty t=some d){r i off ep:Nat}(hp:aev tm y=.rpt r i off ep){R R':Row}(hR:σ.rw[r]?=some R)
  (F:qsY R i off ep d.size (cellsOf (aev tm z))=some R'):QK P Γ σ w o ρ (.tup []) (some {σ with rw:=σ.rw.set r R',wrr:=r::σ.wrr}):=by
 unfold qsY at F;split at F<;>try cases F
 rename_i B n a;simp only[wc,decide_eq_true_eq,ww]at n;let⟨⟨J,Z,aa,N,h⟩,M⟩:=n
 have v:(cellsOf (aev tm z)).all isC=true:=ww.2 λ x f=>by
  have:=M x f;cases x<;>first|rfl|(simp[qv]at this)
 let⟨ii,u,zv,h1,h2,h3,h4,h5,h6,h7,h8⟩:=TD.inv (hC t d hd);have H:=hi.row r R hR
 have E:ρ y=.pointer (some ⟨Γ.cur r,i*R.k+off,none⟩):=by
  have s:=hp▸D y;generalize ρ y=u0 at s;cases s with
  |rpt _ _ _ _ A ac U hl=>rw[hl (by rw[<-H.ver (H.live a)];exact J),H.k,H.off h,wG]
 let⟨g1,g2⟩:=(D z).cells v;have gl:=(D z).cells_len v;let⟨vs,e,fr,O,c2,c3,_⟩:=H.blk (H.real a);have Y:=getElem?_lt a;have ae:=H.len B (wb a)
 have ad:i*R.k+R.k<=vs.size:=by
  calc i*R.k+R.k=(i+1)*R.k:=by rw[wU,wao]
   _<=R.c.length*R.k:=wu _ Y
   _<=Γ.sz r:=by have:=H.fit;omega
   _=vs.size:=c2.symm
 have b:(ρ z).cells.toList.length=d.size:=by simp;omega
 have p:=qra (P:=P) O c3 (i*R.k+off) (ρ z).cells.toList (by rw[b];omega) g2;rw[b]at p;have S:i*R.k+off+d.size<=vs.toList.length:=by simp;omega
 have L:=λ q=>qxn b S q;have K:=λ q=>qxn (l:=B) (m:=cellsOf (aev tm z)) (off:=off) N (by omega) q
 let⟨Γ',f1,f2⟩:=qrC hi hR a Z h (e1:=B.take off++(cellsOf (aev tm z)++B.drop (off+d.size))) (by simp;omega)
  (by
   intro x f;obtain f|f:=wj.1 f
   .exact H.plain B (wb a) x (wQ f)
   .obtain f|f:=wj.1 f
    .exact M x f
    .exact H.plain B (wb a) x (wP f))
  (vs':=(vs.toList.take (i*R.k+off)++((ρ z).cells.toList++vs.toList.drop (i*R.k+off+d.size))).toArray)
  (w':=w.setRow (Γ.cur r) (vs.toList.take (i*R.k+off)++((ρ z).cells.toList++vs.toList.drop (i*R.k+off+d.size))).toArray)
  (by
   intro ab e2 af U;rw[O]at U;cases U;refine⟨setRow_heap w _ _ _ _ _ O,?_,λ q hq=>?_⟩
   .simp only[kr,wd,wo,w7,b,wR];omega
   .rw[List.getElem?_toArray,L q];have T:vs[q]?=vs.toList[q]?:=by simp
    rw[T];split
    .rfl
    .rw[if_neg (by omega)])
  (by
   intro j x G;rw[List.getElem?_toArray,L];rw[K]at G
   have I:∀x',B[j]?=some x'->∃u,vs.toList[i*R.k+j]?=some u/\Rep Γ x' u/\u.oneCell'=true:=by
    intro x' Q;let⟨u,E,g,h1⟩:=H.cells i B j x' a Q;rw[QU O,H.off h,wG]at E;exact⟨u,by simpa using E,g,h1⟩
   split at G
   .rename_i X;rw[if_pos (by omega)];exact I x G
   .rename_i X;split at G
    .rename_i W;rw[if_neg (by omega),if_pos (by omega)];let⟨u,E,g⟩:=g1.get G;exact⟨u,by rw[show i*R.k+j-(i*R.k+off)=j-off by omega];exact E,g,g2 u (wb E)⟩
    .rename_i W;rw[if_neg (by omega),if_neg (by omega)];exact I x G)
  (λ k hk=>setRow_other w _ k _ hk) rfl rfl rfl (by simp) (wa _) (r::σ.wrr)
 refine⟨.skip,undef,_,Γ',?_,.inr ⟨rfl,rfl⟩,f1,f2,.tup [] [] rfl λ i x u f=>by simp at f⟩;have V:(ρ z).cells.size=ii.size:=by omega
 simp[execOp,ho,Instr.storeAt,Instr.sureAddr,E,storeVar,sizeOf,typeInfo,h1,Sem.run_bind',V,p,wn]
theorem qN1(hC:∀ t d,C.ty t=some d->yQ P t=some d)(hi:Inv Γ σ w)(hρ : ∀ y,Rep Γ (aev tm y) (ρ y))(t:TypeId)(y z:Operand)(ho:o.op = .store t y z)(h:qc C tm σ o.op=some (x,σ')):QK P Γ σ w o ρ x σ':=by
 rw[ho]at h;simp only[qc]at h;split at h<;>try cases h
 case h_2 =>
  rename_i d r i off ep hd hp;split at h<;>try cases h
  rename_i R hR;split at h<;>cases h;rename_i R' hst;exact qFq hC hi hρ t y z ho hd hp hR hst
 rename_i d b off hd hp;split at h<;>try cases h
 rename_i cs hcs;split at h<;>try cases h
 rename_i hcond;simp only[wc,decide_eq_true_eq]at hcond;obtain⟨⟨⟨hnm,hl⟩,hfit⟩,hone⟩:=hcond;obtain⟨i,u,zv,h1,h2,h3,h4,h5,h6,h7,h8⟩:=TD.inv (hC t d hd);have hptr:=hp▸hρ y
 have hu : ρ y = .pointer (some ⟨Γ.β b,off,none⟩):=by
  generalize ρ y=u0 at hptr;cases hptr;rfl
 obtain⟨g1,g2⟩:=(hρ z).cells hone;have gl:=(hρ z).cells_len hone;obtain⟨vs,e,c1,c2,c3⟩:=(hi.box b cs hcs).cells hnm;have hvl:vs.size=cs.length:=by simpa using c2.len
 have hrun:=run_storeCells_at P (Γ.β b) off e (ρ z).cells.toList 0 vs w c1 (by simp;omega) g2;simp only[wO]at hrun;have hvl2:(ρ z).cells.toList.length=d.size:=by simp;omega
 rw[hvl2]at hrun
 obtain⟨e1,e2⟩:=qKL hi hcs hnm (cs':=cs.take off++(cellsOf (aev tm z)++cs.drop (off+d.size))) (vs':=vs.toList.take off++((ρ z).cells.toList++vs.toList.drop (off+d.size)))
  ((c2.take off).append (g1.append (c2.drop _))) (by
    intro v hv;rcases wj.1 hv with hv | hv
    ·exact c3 v (wQ hv)
    ·rcases wj.1 hv with hv | hv
     ·exact g2 v hv
     ·exact c3 v (wP hv)) (b :: σ.wr) (w.setRow (Γ.β b) (vs.toList.take off++((ρ z).cells.toList++vs.toList.drop (off+d.size))).toArray) (λ vs' e' hvs=>setRow_heap w _ vs' _ e' (0,0) hvs) (λ k hk=>setRow_other w _ k _ hk) rfl rfl rfl (by simp) (wa _)
 refine⟨.skip,undef,_,Γ,?_,.inr ⟨rfl,rfl⟩,e1,e2,.tup [] [] rfl λ i x u hx=>by simp at hx⟩;have hsz:(ρ z).cells.size=i.size:=by omega
 simp[execOp,ho,Instr.storeAt,Instr.sureAddr,hu,storeVar,sizeOf,typeInfo,h1,Sem.run_bind',hsz,hrun,wn]
theorem qR0(f:Inv Γ σ w)(b:∀y,Rep Γ (aev tm y) (ρ y))(y:Operand)(c:o.op=.nilCheck y)(h:qc C tm σ o.op=some (x,σ')):QK P Γ σ w o ρ x σ':=by
 rw[c]at h;simp only[qc]at h;have a:=b y;split at h<;>try cases h
 all_goals
  rename_i e;rw[e]at a;refine .val ?_ f a;generalize d:ρ y=u0 at a;cases a;simp[execOp,c,d]
end
abbrev waJ:=@TD.inv
end Go.AmZ
namespace Go.AmZ
open Go Go.RowKit
section
variable {P:Program}{C:Cfg}{Γ:Gh}{σ:St}{w:World}{o:Oper}{tm:List AV}{ρ:Operand->Value}{x:AV}{σ':Option St}
theorem toList_eq(a:ByteArray):a.toList=a.data.toList:=by rw[ByteArray.toList_eq]
theorem qRB{op:BinOp}{k:IntKind}{a b:Int}{z:Value}(h:qDM op k a b=some z)(t:TypeId):Go.binOp op t (.int k a) (.int k b) = .pure z/\zk z=true:=by
 cases op<;>simp only[qDM]at h<;>try cases h
 all_goals first
  | exact⟨by simp[Go.binOp,Op.intArith,Op.intBits,Op.intCmp,iw,qf,zX,qsb,qpG,ieq,ilt,ile,qg]<;>first | rfl | (congr 1;simp[bne];done),rfl⟩
  | (split at h
     ·cases h
     ·rename_i d;cases h;have c:b≠0:=by simpa[ieq]using d
      exact⟨by simp[Go.binOp,Op.intDiv,qME,qM9,iw,c];rfl,rfl⟩)
theorem qSL{op:BinOp}{a b:ByteArray}{z:Value}(h:qFD op a b=some z)(t:TypeId):Go.binOp op t (.string a) (.string b) = .pure z/\zk z=true:=by
 cases op<;>simp only[qFD]at h<;>try cases h
 all_goals first
  | exact⟨by simp[Go.binOp,Op.stringOp,xeq,xlt,qrl,qg,toList_eq];rfl,rfl⟩
  | (split at h<;>cases h
     rename_i z c;simp only[qJ0]at c;split at c<;>cases c;rename_i d;exact⟨by simp only[Go.binOp,Op.stringOp];rw[if_neg d];rfl,rfl⟩)
theorem qRL{op:BinOp}{a b z:Value}(h:qsI op a b=some z)(t:TypeId)(X Y:Operand):(eqGuard op t X Y a b).run P w=.ok () w/\(Go.binOp op t a b).run P w=.ok z w/\zk z=true:=by
 have guard:∀(k e:IntKind) (m n:Int),(eqGuard op t X Y (.int k m) (.int e n)).run P w=.ok () w:=λ k e m n=>by cases op<;>simp[eqGuard]
 have c:∀(m n:ByteArray),(eqGuard op t X Y (.string m) (.string n)).run P w=.ok () w:=λ m n=>by cases op<;>simp[eqGuard]
 unfold qsI at h;split at h
 .rename_i k a e b;split at h
  .split at h<;>cases h;rename_i g;have d:¬ b<0:=by simpa[ilt]using g
   refine⟨guard _ _ _ _,?_,rfl⟩;simp[Go.binOp,Op.shift,d,qOb]
  .split at h<;>cases h;rename_i g;have d:¬ b<0:=by simpa[ilt]using g
   refine⟨guard _ _ _ _,?_,rfl⟩;simp[Go.binOp,Op.shift,d,qpg]
  .split at h<;>try cases h
   rename_i l;have f:k=e:=by simpa using l
   subst f;let⟨j,i⟩:=qRB h t;refine⟨guard _ _ _ _,?_,i⟩;rw[j];rfl
 .rename_i a b;let⟨j,i⟩:=qSL h t;refine⟨c _ _,?_,i⟩;rw[j];rfl
 .cases h
theorem qLB{u:TypeDesc}(h:qbb P u=some .ptr):∃e,u=.pointer e:=by
 cases u<;>(try (cases qg3 h;done))<;>simp only[qbb]at h<;>first|exact⟨_,rfl⟩|(cases h;done)|skip
 all_goals (repeat' (first|(cases h;done)|split at h))
 rename_i b;cases a:fieldsOf P b.toList with
 |none|some l=>rw[a]at h;cases h
theorem qQj{y:AV}{u:Value}(h:Rep Γ y u)(a:qrP y=true):∃A,u=.pointer (some A):=by
 cases h with
 |ptr|rpt|ept=>exact⟨_,rfl⟩
 |_=>cases a
theorem qQA{y:AV}(h:qFz y=true):y=.v (.pointer none):=by
 unfold qFz at h;split at h
 .rfl
 .cases h
theorem qxS{t e:TypeId}(h:P.underlying t=some (.pointer e)):P.underlying t=some (.pointer (P.pointee t)):=by
 unfold Program.pointee;rw[h]
theorem qSJ(G:∀t d,C.ty t=some d->yQ P t=some d)(D:Inv Γ σ w)(c:∀y,Rep Γ (aev tm y) (ρ y))(op:BinOp)(t:TypeId)(y z:Operand)(u:TypeId)(q:o.op=.binOp op t y z u)(h:qc C tm σ o.op=some (x,σ')):QK P Γ σ w o ρ x σ':=by
 have g:∀(m n:Bool),(eqGuard op t y z (.bool m) (.bool n)).run P w=.ok () w:=λ m n=>by cases op<;>simp[eqGuard]
 have e:∀(m n:Option Addr),(eqGuard op t y z (.pointer m) (.pointer n)).run P w=.ok () w:=λ m n=>by cases op<;>simp[eqGuard]
 rw[q]at h;simp only[qc]at h;split at h<;>try cases h
 .rename_i a b B s;have k:=zp (B▸c y);have j:=zp (s▸c z);split at h<;>cases h
  all_goals
   rename_i S R Q O r;let⟨i,u,H,N,p,M,L,K,J,I,l⟩:=waJ (G t _ r);have E:=qQz l;subst E;refine .val ?_ D (.v _ rfl);have f:=run_equal_bool (P:=P) w t a b p;simp[execOp,q,k,j,Sem.run_bind',g,Go.binOp,f,Q7,qg]
 .rename_i B s;have k:=zp (B▸c y);have j:=zp (s▸c z);split at h<;>cases h
  all_goals
   rename_i S R Q O r;let⟨i,u,H,N,p,M,L,K,J,I,l⟩:=waJ (G t _ r);obtain⟨T,rfl⟩:=qLB l;refine .val ?_ D (.v _ rfl);have f:=run_equal_pointer_nil (P:=P) w t none (qxS p);simp[execOp,q,k,j,Sem.run_bind',e,Go.binOp,f]
 .rename_i a b _ _ B s;have k:=zp (B▸c y);have j:=zp (s▸c z);split at h<;>cases h;rename_i Y U;let⟨X,W,V⟩:=qRL (P:=P) (w:=w) U t y z;refine .val ?_ D (.v _ V);simp[execOp,q,k,j,Sem.run_bind',X,W]
 .split at h<;>cases h
  all_goals
   rename_i S R Q O F r;rw[wc]at F;let⟨i,u,H,N,p,M,L,K,J,I,l⟩:=waJ (G t _ r);obtain⟨T,rfl⟩:=qLB l;let⟨A,k⟩:=qQj (c y) F.1;have j:=zp (qQA F.2▸c z);refine .val ?_ D (.v _ rfl);have f:=run_equal_pointer_nil (P:=P) w t (some A) (qxS p);simp[execOp,q,k,j,Sem.run_bind',e,Go.binOp,f]
theorem qTj(e:Inv Γ σ w)(b:∀y,Rep Γ (aev tm y) (ρ y))(op:UnOp)(t:TypeId)(y:Operand)(d:o.op=.unOp op t y)(h:qc C tm σ o.op=some (x,σ')):QK P Γ σ w o ρ x σ':=by
 rw[d]at h;simp only[qc]at h;split at h<;>try cases h
 rename_i a g;have f:=zp (g▸b y);split at h<;>cases h;rename_i z c;unfold unA at c;split at c<;>cases c
 .exact .val (by simp[execOp,d,f,Op.unary,Op.intArith,iw,zX]) e (.v _ rfl)
 .exact .val (by simp[execOp,d,f,Op.unary,qg]) e (.v _ rfl)
theorem qvm(a:∀y,Rep Γ (aev tm y) (ρ y)):∀l:List Operand,RepL Γ (l.map (aev tm)) (l.map ρ)
 |[]=>.nil
 |y::l=>.cons (a y) (qvm a l)
theorem qTr(i:Inv Γ σ w)(b:∀y,Rep Γ (aev tm y) (ρ y))(f:Fn)(d cs:Array Operand)(e:o.op=.makeFunc f d cs)(h:qc C tm σ o.op=some (x,σ')):QK P Γ σ w o ρ x σ':=by
 rw[e]at h;cases f with
 |func f=>?_
 |_=>simp only[qc]at h;cases h
 simp only[qc]at h;split at h<;>cases h;rename_i c
 have a:d = #[]:=by
  rw[<-ve (xs:=d),c]
 subst a;have g:=qvm b cs.toList;refine .val (u:=.func (.func f) #[] (cs.toList.map ρ).toArray) ?_ i (.fn f _ _ g.len g.rep);simp[execOp,e,Instr.makeFunc];rw[<-vf]
theorem qJX(l:Inv Γ σ w)(b:∀y,Rep Γ (aev tm y) (ρ y))(y:Operand)(i:Nat)(e:o.op=.extract y i)(h:qc C tm σ o.op=some (x,σ')):QK P Γ σ w o ρ x σ':=by
 rw[e]at h;simp only[qc]at h;split at h<;>try cases h
 rename_i vs f;split at h<;>cases h;rename_i z c;have d:=f▸b y;generalize g:ρ y=u0 at d;cases d with
 |tup cs us k j=>
   have a:i<us.length:=by rw[k];exact getElem?_lt c
   refine .val ?_ l (j i _ _ c (List.getElem?_eq_getElem a));simp[execOp,e,g,Instr.extract,a]
theorem qF0(T:∀t d,C.ty t=some d->yQ P t=some d)(s:Inv Γ σ w)(B:∀y,Rep Γ (aev tm y) (ρ y))(t:TypeId)(y:Operand)(i:Nat)(E:o.op=.fieldAddr t y i)(h:qc C tm σ o.op=some (x,σ')):QK P Γ σ w o ρ x σ':=by
 rw[E]at h;simp only[qc]at h;split at h<;>try cases h
 rename_i _ _ _ _ fs Q;split at h<;>try cases h
 rename_i off size g O;split at h<;>try cases h
 rename_i _ Z;let⟨ii,u,Y,q1,G,q3,q4,q5,q6,q7,K⟩:=waJ (T t _ Q);obtain⟨F,rfl,S⟩:=qrd K;let⟨f1,W⟩:=qkU S;let⟨f,fi,fu,V,J,g3,I⟩:=W i _ O;simp only[wL]at I;obtain⟨rfl,M,rfl⟩:=I;have p:F[i]?=some f:=by rw[<-V];simp
 have n:fi.size≠0:=by omega
 have e:∀b a,ρ y=.pointer (some ⟨b,a,none⟩)->(execOp ρ o).run P w=.ok (.value (.pointer (some ⟨b,a+f.offset,none⟩))) w:=by
  intro b a k;simp[execOp,E,k,Instr.fieldAt,underlying,G,p,Instr.sureAddr,fieldPlace,sizeOf,typeInfo,J,n,qgM]
 have c:=B y;split at h<;>try cases h
 .rename_i k;rw[k]at c;generalize l:ρ y=u0 at c;cases c;rename_i b z R;exact .val (e _ _ l) s (.ptr _ _ R)
 .rename_i k;rw[k]at c;generalize l:ρ y=u0 at c;cases c;rename_i r j z X A m H L;by_cases q:Γ.ver r=X
  .have U:=L q;subst U;exact .val (e _ _ l) s (.rpt _ _ _ _ _ m H λ _=>by rw[wS])
  .refine .val (u:=.pointer (some (A.add f.offset))) ?_ s (.rpt _ _ _ _ _ m H λ h=>absurd h q);simp[execOp,E,l,Instr.fieldAt,underlying,G,p,Instr.sureAddr,fieldPlace,sizeOf,typeInfo,J,n]
 .rename_i k;rw[k]at c;generalize l:ρ y=u0 at c;cases c;rename_i cs z b v us D q N;refine .val (e _ _ l) s ?_;rw[wS];exact .ept cs (z+f.offset) b v us D q N
theorem qPL{f:TypeId}{fi:TypeInfo}{j:TypeDesc}(k:P.info? f=some fi)(i:P.underlying f=some j){cs:List AV}{us:List Value}(g:RepL Γ cs us)(b:∀u∈us,u.oneCell'=true){off:Nat}{z:AV}(h:qc5 (qsu j) fi.size cs off=some z):
  ∃u,(part f us.toArray off).run P w=.ok u w/\Rep Γ z u:=by
 unfold qc5 at h;split at h
 .rename_i e;split at h<;>cases h;rename_i c;have c:off+fi.size<=cs.length:=by simpa using c
  refine⟨.agg ((us.drop off).take fi.size).toArray,?_,?_⟩
  .simp[part,Sem.run_bind',qnx i,e,sizeOf,typeInfo,k]
  .have:=(g.drop off).take fi.size;exact .agg _ _ this.len (λ u d=>b u (wP (wQ d))) this.rep
 .rename_i e;let⟨u,d,a⟩:=g.get h;refine⟨u,?_,a⟩;simp[part,Sem.run_bind',qnx i,e,d]
theorem qOj(E:∀t d,C.ty t=some d->yQ P t=some d)(s:Inv Γ σ w)(a:∀y,Rep Γ (aev tm y) (ρ y))(t:TypeId)(y:Operand)(i:Nat)(j:o.op=.field t y i)(h:qc C tm σ o.op=some (x,σ')):QK P Γ σ w o ρ x σ':=by
 rw[j]at h;simp only[qc]at h;split at h<;>try cases h
 rename_i _ _ _ _ V cs B b;split at h<;>try cases h
 rename_i off size g A;split at h<;>cases h;rename_i z n;let⟨T,u,L,S,m,R,Q,O,N,M,l⟩:=waJ (E t _ B);obtain⟨F,rfl,D⟩:=qrd l;let⟨W,J⟩:=qkU D;let⟨f,fi,U,I,H,g3,k⟩:=J i _ A;simp only[wL]at k;obtain⟨rfl,rfl,rfl⟩:=k;have c:F[i]?=some f:=by rw[<-I];simp
 have e:=b▸a y;generalize p:ρ y=u0 at e;cases e with
 |agg _ us r G q=>
   let⟨v,e1,K⟩:=qPL (P:=P) (w:=w) H g3 (Γ:=Γ) ⟨r,q⟩ G n;refine .val ?_ s K;simp[execOp,j,p,Instr.field,underlying,m,c,asAgg,Sem.run_bind',e1]
theorem qNq(D:∀t d,C.ty t=some d->yQ P t=some d)(r:Inv Γ σ w)(a:∀y,Rep Γ (aev tm y) (ρ y))(t:TypeId)(y z:Operand)(g:o.op=.index t y z)(h:qc C tm σ o.op=some (x,σ')):QK P Γ σ w o ρ x σ':=by
 rw[g]at h;simp only[qc]at h;split at h<;>try cases h
 rename_i _ _ _ _ s k j B p q;split at h<;>cases h;rename_i b e;have F:=zp (p▸a y);have E:=zp (q▸a z);let⟨O,u,H,N,m,M,L,K,J,I,l⟩:=waJ (D t _ B);have n:=qhb l;subst n;simp only[qKq]at e;split at e<;>try cases e
 rename_i G;split at e<;>cases e;rename_i c i;refine .val ?_ r (.v _ rfl);have f:j.toNat<s.size:=by have:=getElem?_lt i;simpa using this
 have A:s[j.toNat]=c:=by
  have:=(List.getElem?_eq_some_iff.1 i).2;simp at this;exact this
 simp[execOp,g,F,E,Instr.index,asIntOf,underlying,m,G,f,A]
end
end Go.AmZ
namespace Go.AmZ
open Go Go.RowKit
section
variable {P:Program}{C:Cfg}{Γ:Gh}{σ:St}{w:World}{o:Oper}{tm:List AV}{ρ:Operand->Value}{x:AV}{σ':Option St}
theorem qEb(hC:∀t d,C.ty t=some d->yQ P t=some d)(G:Inv Γ σ w)(i:∀y,Rep Γ (aev tm y) (ρ y))(t:TypeId)(y z:Operand)(Q:o.op=.indexAddr t y z)(h:qc C tm σ o.op=some (x,σ')):QK P Γ σ w o ρ x σ':=by
 rw[Q]at h;simp only[qc]at h;split at h<;>try cases h
 .rename_i _ _ _ e k bb zz kk j U T;have Y:=zp (T▸i z);let⟨ii,u,zv,q1,J,q3,q4,q5,q6,q7,I⟩:=waJ (hC t _ U);obtain⟨rfl,ie,ze,L,p2,K,p4,p5⟩:=qbc I;have g:=i y
  have s:∀b off n cap,ρ y=.slice (some ⟨b,off,none⟩) n cap->0<=j->j<n->(execOp ρ o).run P w=.ok (.value (.pointer (some ⟨b,off+j.toNat*k,none⟩))) w:=by
   intro b off n cap m D F;simp[execOp,Q,m,Y,Instr.indexAt,asIntOf,underlying,J,D,F,sizeOf,typeInfo,L,K,qgM]
  split at h<;>try cases h
  .rename_i Z es f m;split at h<;>try cases h
   rename_i S;have S:Z=k:=by simpa[zx]using S
   subst S;split at h<;>cases h;rename_i cs c;simp only[qIP]at c;split at c<;>try cases c
   rename_i D;rw[m]at g;generalize v:ρ y=u0 at g;cases g with
   |sl _ _ _ a n cap b E us F hc hf B O ab X hm hr=>
     have A:=getElem?_lt c;have W:a=some ⟨b,E,none⟩:=X.resolve_left λ he=>by rw[he]at A;simp at A
     subst W;refine .val (s _ _ _ _ v D (by omega)) G ?_;exact .ept cs 0 b (E+j.toNat*Z) (us j.toNat) (λ x l=>O cs (wb c) x l) (λ q x l=>hm _ cs q x c l) (λ q x l=>hr _ cs q x c l)
  .rename_i r lo n ep f m;split at h<;>try cases h
   rename_i R hR;split at h<;>cases h;rename_i q N;simp only[qII]at N;split at N<;>cases N;rename_i hc;let⟨c1,c2,c3,c4,c5⟩:=hc;have H:=G.row r R hR;rw[m]at g;generalize v:ρ y=u0 at g;cases g with
   |rs _ _ _ _ _ a cap M hv aa hf l=>
     let⟨g2,g3⟩:=l (by rw[<-H.ver (H.liveN c5 (by omega))];exact c4);have p:cap≠0:=by omega
     have X:=g2.resolve_left p;subst X;refine .val (s _ _ _ _ v c2 c3) G (.rpt _ _ _ _ _ M hv λ _=>?_);have B:k=Γ.k r:=by rw[<-c1];exact H.k
     rw[B,wU];simp
 .rename_i n e k _ j U T;have Y:=zp (T▸i z);let⟨ii,u,zv,q1,J,q3,q4,q5,q6,q7,I⟩:=waJ (hC t _ U);obtain⟨rfl,ie,L,K⟩:=qNa I;split at h<;>try cases h
  rename_i b E m;split at h<;>cases h;rename_i hb;let⟨D,F⟩:=of_decide_eq_true hb;have g:=i y;rw[m]at g;generalize v:ρ y=u0 at g;cases g with
  |ptr _ _ V=>
    refine .val (u:=.pointer (some ⟨Γ.β b,E+j.toNat*k,none⟩)) ?_ G (.ptr _ _ V);simp[execOp,Q,v,Y,Instr.indexAt,Instr.sureAddr,asIntOf,underlying,J,D,F,sizeOf,typeInfo,L,K,qgM]
theorem qK9{y:Nat}{v:Value}{a:AV}(c:Rep Γ a v){n:Nat}(h:qv3 y a=some n)(m:Nat)(f:y<=m)(b:BoundsCode):(Instr.sliceBound v m b).run P w=.ok n w/\n<=y:=by
 unfold qv3 at h;split at h
 .rename_i k i;have:=zp c;subst this;simp only[bnd]at h;split at h<;>cases h;rename_i d;have e:0<=i/\i<=m:=⟨d.1,by omega⟩
  exact⟨by simp[Instr.sliceBound,asIntOf,e],by omega⟩
 .cases h
theorem qnw(c:∀y,Rep Γ (aev tm y) (ρ y)){isS:Bool}{a cap:Nat}(d:a<=cap){lo b:Option Operand}{l h:Nat}(f:qdF a a (b.map (aev tm))=some h)(e:qdF 0 h (lo.map (aev tm))=some l):
  (Instr.sliceBounds isS a cap (lo.map ρ) (b.map ρ) none).run P w=.ok (l,h,cap) w/\l<=h/\h<=a:=by
 have H:(match b.map ρ with|some v=>Instr.sliceBound v cap (if isS then .sliceAcap else .sliceAlen)|none=>pure a:Sem Nat).run P w=.ok h w/\h<=a:=by
  cases b with
  |none=>simp only[qdF,vq]at f;cases f;exact⟨by simp,wa _⟩
  |some y=>exact qK9 (c y) (by simpa[qdF]using f) cap d _
 have L:(match lo.map ρ with|some v=>Instr.sliceBound v h .sliceB|none=>pure 0:Sem Nat).run P w=.ok l w/\l<=h:=by
  cases lo with
  |none=>simp only[qdF,vq]at e;cases e;exact⟨by simp,wg _⟩
  |some y=>exact qK9 (c y) (by simpa[qdF]using e) h (wa _) _
 refine⟨?_,L.2,H.2⟩;cases b with
 |none=>
   cases lo with
   |none=>simp only[vq]at H L;simp at H L;simp[Instr.sliceBounds,H,L]
   |some y=>simp only[vq,k8]at H L;simp at H;simp[Instr.sliceBounds,H,L.1]
 |some z=>
   cases lo with
   |none=>simp only[vq,k8]at H L;simp at L;simp[Instr.sliceBounds,H.1,L]
   |some y=>simp only[k8]at H L;simp[Instr.sliceBounds,H.1,L.1]
theorem qOh(Y:∀t d,C.ty t=some d->yQ P t=some d)(T:Inv Γ σ w)(c:∀y,Rep Γ (aev tm y) (ρ y))(t:TypeId)(y:Operand)(lo S mx:Option Operand)(N:o.op=.slice t y lo S mx)(h:qc C tm σ o.op=some (x,σ')):QK P Γ σ w o ρ x σ':=by
 rw[N]at h;cases mx with
 |some m=>simp only[qc]at h;cases h
 |none=>
 simp only[qc]at h;split at h<;>try cases h
 .rename_i _ _ _ _ s J hs;have h1:=zp (hs▸c y);let⟨ii,u,Z,q1,F,q3,q4,q5,q6,q7,E⟩:=waJ (Y t _ J);have G:=qhb E;subst G;split at h<;>try cases h
  rename_i q p;split at h<;>cases h;rename_i l g;let⟨z,b2,W⟩:=qnw (P:=P) (w:=w) c (isS:=false) (wa _) p g;refine .val ?_ T (.v _ rfl);simp[execOp,N,h1,Instr.sliceAt,Instr.slice,underlying,F,Sem.run_bind',qpQ]at z |-
  simp[z,qFv]
 .rename_i _ _ _ e k bb zz X es f J M;split at h<;>try cases h
  rename_i Q;rw[wc]at Q;have af:0<f:=of_decide_eq_true Q.2;have Q:X=k:=by simpa[zx]using Q.1
  subst Q;split at h<;>try cases h
  rename_i q p;split at h<;>cases h;rename_i l g;let⟨ii,u,Z,q1,F,q3,q4,q5,q6,q7,E⟩:=waJ (Y t _ J);obtain⟨rfl,ie,ze,D,p2,B,p4,p5⟩:=qbc E;have L:=M▸c y;generalize G:ρ y=u0 at L;cases L with
  |sl _ _ _ a n cap b oo us hn U hf ac aa ah V hm hr=>
    subst hn;have U:=U af;let⟨z,b2,W⟩:=qnw (P:=P) (w:=w) c (isS:=true) U p g;have W:q<=es.length:=W;have z:(Instr.sliceBounds true es.length cap (lo.map ρ) (S.map ρ) none).run P w=.ok (l,q,cap) w:=z;refine .val (u:=.slice (if cap=l then a else a.map (·.add (l*X))) (q-l) (cap-l)) ?_ T ?_
    .simp[execOp,N,G,Instr.sliceAt,Instr.slice,underlying,F,Sem.run_bind',sizeOf,typeInfo,D,B];rw[z];simp[D,B]
    .simp only[qKo];refine .sl X _ _ _ _ _ b (oo+l*X) (λ i j=>us (l+i) j) (by simp;omega) (λ _=>by omega) ?_ (λ e he=>ac e (wQ (wP he))) (λ e he=>aa e (wQ (wP he))) ah ?_ ?_ ?_
     .intro A;unfold lvS at A;split at A
      .rename_i hb;rw[wc]at hb;have h1:=hf (of_decide_eq_true hb.1);have h2:q=es.length:=of_decide_eq_true hb.2;rw[h1,h2]
      .exact absurd A (by decide)
     .obtain V|V:=V
      .left;subst V;simp
      .by_cases K:cap=l
       .grind
       .right;subst V;rw[if_neg K];simp[qgM]
     .grind
     .grind
 .rename_i _ _ _ e k bb zz J M;split at h<;>try cases h
  rename_i q p;split at h<;>cases h;rename_i l g;let⟨ii,u,Z,q1,F,q3,q4,q5,q6,q7,E⟩:=waJ (Y t _ J);obtain⟨rfl,ie,ze,D,p2,B,p4,p5⟩:=qbc E;have G:=zp (M▸c y);let⟨z,b2,W⟩:=qnw (P:=P) (w:=w) c (isS:=true) (wa 0) p g;have ae:q=0:=by omega
  have ab:l=0:=by omega
  subst ae;subst ab;refine .val (u:=.slice none 0 0) ?_ T (.v _ rfl);simp[execOp,N,G,Instr.sliceAt,Instr.slice,underlying,F,Sem.run_bind',sizeOf,typeInfo,D,B];rw[z];simp[D,B]
 .rename_i _ _ _ e k bb zz r oo n ep f J M;split at h<;>try cases h
  rename_i q R p hR;split at h<;>try cases h
  rename_i l g;split at h<;>cases h;rename_i R' O I;have ad:q=n:=by simpa[zx]using O
  subst ad;simp only[qCT]at I;split at I<;>cases I;rename_i ag;let⟨c0,c1,c2,c3,c4,c5⟩:=ag;let⟨ii,u,Z,q1,F,q3,q4,q5,q6,q7,E⟩:=waJ (Y t _ J);obtain⟨rfl,ie,ze,D,p2,B,p4,p5⟩:=qbc E;have H:=T.row r R hR;have L:=M▸c y;generalize G:ρ y=u0 at L;cases L with
  |rs _ _ _ _ _ a cap aj hv U A hx=>
    let⟨g2,g3⟩:=hx (by rw[<-H.ver c5];exact c1);let⟨z,b2,W⟩:=qnw (P:=P) (w:=w) c (isS:=true) U p g;let⟨Γ',f1,f2,f3⟩:=qNt T hR c5 (l:=l) (by omega) (r::σ.wrr);subst c3;rw[c1]at f3;rw[wG,<-H.k]at g3;rw[kR,wO]at g2;have ak:(cap-l)*R.k=cap*R.k-l*R.k:=wac _ _ _;have ai:l*R.k<=cap*R.k:=wu _ (by omega);refine⟨_,.slice (if cap=l then a else a.map (·.add (l*R.k))) (q-l) (cap-l),w,Γ',?_,.inl rfl,f1,?_,f3 _ _ _ (by omega) ?_ (by omega)⟩
    .simp[execOp,N,G,Instr.sliceAt,Instr.slice,underlying,F,Sem.run_bind',sizeOf,typeInfo,D,B];rw[z];simp[D,B,c0]
    .exact f2
    .by_cases K:cap=l
     .left;omega
     .right;rw[if_neg K,g2.resolve_left (by omega)];simp[qgM]
theorem qEG(off:Nat):∀(xs:List Value) (n:Nat) (cs:Array Value),off+n+xs.length<=cs.size->((xs.zipIdx n).foldl (λ cs (p:Value×Nat)=>cs.setIfInBounds (off+p.2) p.1) cs).toList=cs.toList.take (off+n)++(xs++cs.toList.drop (off+n+xs.length))
 |[],n,cs,h=>by simp
 |x::xs,n,cs,h=>by
   simp only[vH,ky,wx]at h |-
   rw[qEG off xs (n+1) _ (by simp;omega)];simp only[xp];have a:off+n<cs.toList.length:=by simp;omega
   have b:off+n<cs.size:=by omega
   rw[show off+(n+1)=off+n+1 by omega,show off+n+1+xs.length=off+n+(xs.length+1) by omega];rw[ko,List.getElem?_set_self a,vk (wa _),vS (by omega)];simp
theorem qAU{v:Value}{off:Nat}{cs:Array Value}(h:off+v.cells.size<=cs.size):(v.cells.zipIdx.foldl (λ cs (c,j)=>cs.setIfInBounds (off+j) c) cs).toList=cs.toList.take off++(v.cells.toList++cs.toList.drop (off+v.cells.size)):=by
 rw[<-Array.foldl_toList,Array.toList_zipIdx];have:=qEG off v.cells.toList 0 cs (by simpa using h);simpa using this
theorem qIH{place:Nat->Option (Nat×Nat)}:∀{ps:List (Nat×AV)}{vs:List (Nat×Value)}{cells:List AV}{cs:Array Value}{cells':List AV},(ps.length=vs.length/\∀(i:Nat) (p:Nat×AV) (q:Nat×Value),ps[i]?=some p->vs[i]?=some q->p.1=q.1/\Rep Γ p.2 q.2)->
  RepL Γ cells cs.toList->(∀u∈cs.toList,u.oneCell'=true)->qna place cells ps=some cells'->∃cs',Instr.fill place cs vs=some cs'/\RepL Γ cells' cs'.toList/\∀u∈cs'.toList,u.oneCell'=true
 |[],vs,cells,cs,cells',e,g,l,h=>by
   obtain rfl:vs=[]:=kC.1 e.1.symm;simp only[qna]at h;cases h;exact⟨cs,rfl,g,l⟩
 |(i,x)::ps,vs,cells,cs,cells',e,g,l,h=>by
   cases vs with
   |nil=>simp at e
   |cons q vs=>
     let⟨j,v⟩:=q;let⟨k,m⟩:=e.2 0 (i,x) (j,v) rfl rfl;simp only at k m;subst k;simp only[qna]at h;split at h<;>try cases h
     rename_i off size o;split at h<;>try cases h
     rename_i r;simp only[wc,decide_eq_true_eq]at r;let⟨⟨D,C⟩,s⟩:=r;let⟨y,w⟩:=m.cells s;have B:=m.cells_len s;have t:cs.size=cells.length:=by simpa using g.len
     have f:=qAU (v:=v) (off:=off) (cs:=cs) (by omega);have n:v.cells.size=size:=by omega
     let⟨cs',e1,A,z⟩:=qIH (place:=place) (ps:=ps) (vs:=vs) (cells:=cells.take off++(cellsOf x++cells.drop (off+size))) (cs:=v.cells.zipIdx.foldl (λ cs (c,j)=>cs.setIfInBounds (off+j) c) cs) (cells':=cells')
      ⟨by simpa using e.1,λ i p q a b=>e.2 (i+1) p q (by simpa using a) (by simpa using b)⟩
      (by rw[f,n];exact(g.take off).append (y.append (g.drop _)))
      (by
       rw[f];intro u d;obtain d|d:=wj.1 d
       .exact l u (wQ d)
       .obtain d|d:=wj.1 d
        .exact w u d
        .exact l u (wP d)) h
     refine⟨cs',?_,A,z⟩;simp only[Instr.fill,o];grind
theorem qMq(a:∀y,Rep Γ (aev tm y) (ρ y))(parts:List (Nat×Operand)):(parts.map λ p=>(p.1,aev tm p.2)).length=(parts.map λ p=>(p.1,ρ p.2)).length/\∀(i:Nat) (p:Nat×AV) (q:Nat×Value),(parts.map λ p=>(p.1,aev tm p.2))[i]?=some p->(parts.map λ p=>(p.1,ρ p.2))[i]?=some q->p.1=q.1/\Rep Γ p.2 q.2:=by
 grind
theorem qN5(H:∀t d,C.ty t=some d->yQ P t=some d)(e:Inv Γ σ w)(c:∀y,Rep Γ (aev tm y) (ρ y))(t:TypeId)(parts:Array (Nat×Operand))(j:o.op=.build t parts)(h:qc C tm σ o.op=some (x,σ')):QK P Γ σ w o ρ x σ':=by
 rw[j]at h;simp only[qc]at h;split at h<;>try cases h
 rename_i _ _ _ z a B;split at h<;>try cases h
 rename_i s;split at h<;>cases h;rename_i cs D;let⟨S,u,n,R,Q,O,N,M,L,g,q⟩:=waJ (H t _ B);obtain⟨F,rfl,G⟩:=qrd q;let⟨V,U⟩:=qkU G;simp only at g;subst g;let⟨J,I⟩:=qeG (Γ:=Γ) s
 have k:∀{F:List Field}{a:List (Nat×Nat×Bool)},fieldsOf P F=some a->F.mapM (λ f=>(P.info? f.type).map λ i=>(f.offset,i.size))=some (a.map λ f=>(f.1,f.2.1)):=by
  intro F
  induction F with
  |nil=>intro a h;simp[fieldsOf]at h;subst h;rfl
  |cons f F r=>
    intro a h;simp only[fieldsOf]at h;split at h
    .rename_i i u l e T A;cases h;simp[List.mapM_cons,e,r A]
    .cases h
 have b:qna (λ i=>(a.map λ f=>(f.1,f.2.1)).toArray[i]?) (n.cells.toList.map .v) (parts.toList.map λ p=>(p.1,aev tm p.2))=some cs:=by
  grind
 let⟨cs',e1,m,K⟩:=qIH (Γ:=Γ) (qMq c parts.toList) J I b
 have E:P.built t (parts.map λ p=>(p.1,ρ p.2)).toList=some cs':=by
  unfold Program.built;grind [Array.toList_map]
 refine .val (u:=.agg cs') ?_ e ?_
 .simp[execOp,j,run_build w t _ cs' E]
 .have:=Rep.agg (Γ:=Γ) cs cs'.toList m.len K m.rep;simpa using this
end
end Go.AmZ
namespace Go.AmZ
open Go Go.RowKit
section
variable {P:Program}{C:Cfg}{Γ:Gh}{σ:St}{w:World}{o:Oper}{tm:List AV}{ρ:Operand->Value}{x:AV}{σ':Option St}
theorem qlS(W:Inv Γ σ w){m:Nat->Nat->Option Value}(l:Le Γ {Γ with mem:=m}){y:AV}{u:Value}(X:∀r∈rsC y,∀R,σ.rw[r]?=some R->Qz {Γ with mem:=m} r R)(B:Rep Γ y u):Rep {Γ with mem:=m} (qY σ.rw y) u:=by
 cases B with
 |sl k L f a n cap b o us S I D U C t Y T B=>
   exact .sl k L _ a n cap b o us S (λ h=>I (by cases f with|zero=>exact absurd h (wau 0)|succ f=>exact xz f)) (λ h=>by cases f with|zero=>exact absurd h (by simp[lv1])|succ f=>exact absurd h (by simp[lv1])) U C t Y (λ i e j x d g=>l.mem _ _ _ (T i e j x d g)) (λ i e j x d g=>(B i e j x d g).mono l)
 |rs r lo n M f a cap Q hv I D P=>
   simp only[qY];split
   .rename_i R K;split
    .rename_i L q;simp only[qmJ]at q;split at q<;>cases q;rename_i G;obtain⟨-,c1,Z⟩:=G;have H:=W.row r R K
     have z:n=0\/(cap=0\/a=some ⟨Γ.cur r,Γ.of r+lo*Γ.k r,none⟩):=by
      obtain t|t:=vZ n
      .exact .inl t
      .exact .inr (P (by rw[<-H.ver (H.liveN Z t)];exact c1)).1
     have F:=X r (by simp[rsC]) R K
     have O:∀(i:Nat) (e:List AV) (j:Nat) (x:AV),((R.c.drop lo).take n)[i]?=some e->e[j]?=some x->∃u,m (Γ.cur r) (Γ.of r+lo*R.k+i*R.k+j)=some u/\Rep {Γ with mem:=m} x u:=by
      intro i e j x d g;rw[List.getElem?_take]at d;split at d<;>try cases d
      rename_i V;rw[List.getElem?_drop]at d;let⟨u,hu,J⟩:=F (lo+i) e j x d g;grind
     refine .sl R.k _ 1 a n cap (Γ.cur r) (Γ.of r+lo*R.k) (λ i j=>(m (Γ.cur r) (Γ.of r+lo*R.k+i*R.k+j)).getD undef) ?_ (λ _=>I) (λ h=>absurd h (by decide)) (λ e E=>H.len e (wP (wQ E))) (λ e E=>H.plain e (wP (wQ E))) H.pos ?_ ?_ ?_
     .simp;omega
     .obtain z|z|z:=z
      .grind
      .simp_all
      .right;rw[z,H.k]
     .grind
     .grind
    .exact .dead _
   .exact .dead _
 |v _ h=>exact .v _ h
 |dead u=>exact .dead u
 |ptr b o h=>exact(Rep.ptr b o h).mono l
 |rpt r i o M A d g s=>exact(Rep.rpt r i o M A d g s).mono l
 |ept cs o b N us d g s=>exact(Rep.ept cs o b N us d g s).mono l
 |fn f cs us d g=>exact(Rep.fn f cs us d g).mono l
 |agg cs us d g s=>exact(Rep.agg cs us d g s).mono l
 |tup cs us d g=>exact(Rep.tup cs us d g).mono l
 |mp b h=>exact(Rep.mp b h).mono l
theorem qDp(g:Inv Γ σ w){m:Nat->Nat->Option Value}(f:Le Γ {Γ with mem:=m}){cs:List AV}{us:List Value}(j:∀r∈cs.flatMap rsC,∀R,σ.rw[r]?=some R->Qz {Γ with mem:=m} r R)(d:RepL Γ cs us):RepL {Γ with mem:=m} (cs.map (qY σ.rw)) us:=by
 refine⟨by simpa using d.len,λ i x u b e=>?_⟩;rw[List.getElem?_map]at b;cases h:cs[i]? with
 |none=>rw[h]at b;cases b
 |some y=>
   rw[h]at b;cases b;exact qlS g f (λ r c=>j r (kh.2 ⟨y,wb h,c⟩)) (d.rep i y u h e)
theorem qy7(p:Inv Γ σ w){m:Nat->Nat->Option Value}(e:Le Γ {Γ with mem:=m}){y:AV}{u:Value}(q:∀r∈rsA y,∀R,σ.rw[r]?=some R->Qz {Γ with mem:=m} r R)(B:Rep Γ y u):Rep {Γ with mem:=m} (jk σ.rw y) u:=by
 cases B with
 |agg cs us d c g=>
   have:=qDp p e (cs:=cs) (us:=us) (by simpa[rsA]using q) ⟨d,g⟩;exact .agg _ _ this.len c this.rep
 |v _ h=>exact .v _ h
 |dead u=>exact .dead u
 |sl k x f a n cap b o us d c g t s F E D C=>exact qlS (y:=.sl k x f) p e q (.sl k x f a n cap b o us d c g t s F E D C)
 |rs r lo n l f a cap d c g t s=>exact qlS (y:=.rs r lo n l f) p e q (.rs r lo n l f a cap d c g t s)
 |ptr b o h=>exact(Rep.ptr b o h).mono e
 |rpt r i o l A d c g=>exact(Rep.rpt r i o l A d c g).mono e
 |ept cs o b z us d c g=>exact(Rep.ept cs o b z us d c g).mono e
 |fn f cs us d c=>exact(Rep.fn f cs us d c).mono e
 |tup cs us d c=>exact(Rep.tup cs us d c).mono e
 |mp b h=>exact(Rep.mp b h).mono e
theorem qK0{rw:List Row}{y:AV}(h:qv (qY rw y)=true):isC y=true:=by
 cases y<;>first|rfl|(simp[qY,qv]at h)
theorem qFl(k:Nat):∀(vs:List Value) (a:Nat) (cs:Array Value),(∀v∈vs,v.cells.size=k)->(a+vs.length)*k<=cs.size->
  ∃cs',Instr.fill (λ i=>some (i*k,k)) cs ((vs.zipIdx a).map λ p=>(p.2,p.1))=some cs'/\cs'.toList=cs.toList.take (a*k)++(vs.flatMap (λ v=>v.cells.toList)++cs.toList.drop ((a+vs.length)*k))
 |[],a,cs,_,h=>⟨cs,rfl,by simp⟩
 |v::vs,a,cs,e,h=>by
   have f:v.cells.size=k:=e v (wh ..)
   have n:a*k+k<=cs.size:=by
    have:(a+1)*k<=(a+(v::vs).length)*k:=wu _ (by simp);grind
   have b:=qAU (v:=v) (off:=a*k) (cs:=cs) (by omega)
   have d:(v.cells.zipIdx.foldl (λ cs (c,j)=>cs.setIfInBounds (a*k+j) c) cs).size=cs.size:=by
    have:=congrArg List.length b;grind
   let⟨cs',e1,t⟩:=qFl k vs (a+1) (v.cells.zipIdx.foldl (λ cs (c,j)=>cs.setIfInBounds (a*k+j) c) cs) (λ l s=>e l (we _ s)) (by rw[d];simp at h;rw[show a+1+vs.length=a+(vs.length+1) by omega];exact h);refine⟨cs',?_,?_⟩
   .simp only[vH,wk,Instr.fill];grind
   .rw[t,b,f];have g:(a+1)*k=a*k+k:=by rw[wU,wao]
    have w:(cs.toList.take (a*k)).length=a*k:=by rw[wo];simp;omega
    have u:v.cells.toList.length=k:=by simpa using f
    have r:(a+1+vs.length)*k=a*k+k+vs.length*k:=by rw[wU,g]
    have q:(a+(v::vs).length)*k=a*k+k+vs.length*k:=by simp[wU];omega
    rw[g,r,q]
    have m:(cs.toList.take (a*k)++(v.cells.toList++cs.toList.drop (a*k+k))).take (a*k+k)=cs.toList.take (a*k)++v.cells.toList:=by
     grind
    have o:(cs.toList.take (a*k)++(v.cells.toList++cs.toList.drop (a*k+k))).drop (a*k+k+vs.length*k)=cs.toList.drop (a*k+k+vs.length*k):=by
     rw[<-wn,List.drop_append,List.drop_of_length_le (by simp only[wd];omega)];simp_all
    rw[m,o];simp
theorem qFw{α:Type}(k:Nat):∀(a:List (List α)) (i j:Nat) (l:List α) (x:α),(∀l∈a,l.length=k)->a[i]?=some l->l[j]?=some x->a.flatten[i*k+j]?=some x
 |[],i,j,l,x,_,h,_=>by simp at h
 |d::a,i,j,l,x,b,h,f=>by
   have c:=b d (wh ..);cases i with
   |zero=>
     grind
   |succ i=>
     simp at h;simp only[vB];rw[List.getElem?_append_right (by rw[c,wU];omega),c];rw[show(i+1)*k+j-k=i*k+j by rw[wU,wao];omega];exact qFw k a i j l x (λ e g=>b e (we _ g)) h f
theorem qBj(ρ:Operand->Value):∀(ps:List (Nat×Operand)) (n:Nat),(∀(i:Nat) (p:Nat×Operand),ps[i]?=some p->p.1=n+i)->ps.map (λ p=>(p.1,ρ p.2))=((ps.map λ p=>ρ p.2).zipIdx n).map λ p=>(p.2,p.1)
 |[],n,h=>rfl
 |p::ps,n,h=>by
   simp only[wk,vH];rw[<-qBj ρ ps (n+1) λ i q a=>by have:=h (i+1) q (by simpa using a);omega];have:=h 0 p rfl;grind
theorem qwl{t e:TypeId}{n:Nat}{parts:Array (Nat×Value)}{a:TypeInfo}{f:Value}(k:P.underlying t=some (.slice e))(l:P.info? e=some a)(j:a.zero=some f)(m:n*a.size<=2^24){cs':Array Value}
  (c:Instr.fill (λ i=>some (i*a.size,a.size)) ((Array.range (n*a.size)).map ((if n*a.size=0 then #[]else f.cells)[· % (if n*a.size=0 then #[]else f.cells).size]!)) parts.toList=some cs'):
  (Instr.buildSlice t n parts).run P w=.ok (.slice (some ⟨w.heap.size,0,none⟩) n n) (w.alloc (.cells cs' e)):=by
 have b:¬ (2^24<n*a.size):=by omega
 by_cases d:n*a.size=0
 .simp only[if_pos d]at c;simp only[Instr.buildSlice];have g:n=0\/a.size=0:=Nat.mul_eq_zero.1 d;simp[underlying,k,sizeOf,typeInfo,l,d]at c |-
  simp[c,g,qgb]
 .simp only[if_neg d]at c;simp only[Instr.buildSlice];simp[underlying,k,sizeOf,typeInfo,zeroValue,l,j,d,b]at c |-
  have g:¬ (n=0\/a.size=0):=λ h=>d (Nat.mul_eq_zero.2 h);simp[c,g,j,qgb]
theorem qCH(hC:∀t d,C.ty t=some d->yQ P t=some d)(hi:Inv Γ σ w)(F:∀y,Rep Γ (aev tm y) (ρ y))(t:TypeId)(n:Nat)(parts:Array (Nat×Operand))(ho:o.op=.buildSlice t n parts)(h:qc C tm σ o.op=some (x,σ')):QK P Γ σ w o ρ x σ':=by
 rw[ho]at h;simp only[qc]at h;split at h<;>try cases h
 rename_i _ _ _ _ e k bb zz hd;split at h<;>try cases h
 rename_i Q;simp only[qiX,wc,decide_eq_true_eq]at Q;let⟨⟨⟨hn,U⟩,ac⟩,V⟩:=Q;let⟨ii,u,zv,q1,q2,q3,q4,q5,q6,q7,q8⟩:=waJ (hC t _ hd);obtain⟨rfl,ie,ze,p1,p2,p3,p4,p5⟩:=qbc q8
 have a:∀(i:Nat) (p:Nat×Operand),parts.toList[i]?=some p->p.1=i/\(cellsOf (aev tm p.2)).length=k/\∀x∈cellsOf (aev tm p.2),qv (qY σ.rw x)=true:=by
  intro i p b
  have:=ww.1 V ((p.1,aev tm p.2),i) (by
   grind)
  grind
 have g:∀p∈parts.toList,(cellsOf (aev tm p.2)).all isC=true:=by
  grind [List.getElem?_of_mem,List.all_eq_true,qK0]
 let vs:=parts.toList.map λ p=>ρ p.2
 have M:∀v∈vs,v.cells.size=k:=by
  intro v O;obtain⟨p,b,rfl⟩:=wC.1 O;let⟨i,q⟩:=List.getElem?_of_mem b;rw[(F p.2).cells_len (g p b)];exact(a i p q).2.1
 have N:vs.length=n:=by simpa[vs]using hn
 have L:=qBj ρ parts.toList 0 λ i p b=>by rw[(a i p b).1];omega
 let⟨cs',e1,e2⟩:=qFl k vs 0 ((Array.range (n*k)).map ((if n*k=0 then #[]else ze.cells)[· % (if n*k=0 then #[]else ze.cells).size]!)) M (by simp[N])
 have ad:cs'.toList=vs.flatMap λ v=>v.cells.toList:=by
  rw[e2];simp[N]
 have T:cs'=(vs.flatMap λ v=>v.cells.toList).toArray:=by rw[<-ad]
 have A:(execOp ρ o).run P w=.ok (.value (.slice (some ⟨w.heap.size,0,none⟩) n n)) (w.alloc (.cells (vs.flatMap λ v=>v.cells.toList).toArray e)):=by
  have ab:(parts.map λ p=>(p.1,ρ p.2)).toList=(vs.zipIdx 0).map λ p=>(p.2,p.1):=by rw[vf];exact L
  rw[<-T];have hb:=qwl (w:=w) (n:=n) (parts:=parts.map λ p=>(p.1,ρ p.2)) q2 p1 p2 (by rw[p3];exact U) (by rw[p3,ab];exact e1);simp only[execOp,ho];simp[Sem.run_bind',hb]
 have E:∀(s:List Nat) (D:List Nat),(∀r∈parts.toList.flatMap (λ p=>rsA (aev tm p.2)),r∈s)->∃m,Fz Γ m/\Inv {Γ with mem:=m} {σ with rw:=frz σ.rw s,wrr:=D} w/\
   ∀(i:Nat) (p:Nat×Operand),parts.toList[i]?=some p->RepL {Γ with mem:=m} ((cellsOf (aev tm p.2)).map (qY σ.rw)) (ρ p.2).cells.toList:=by
  intro s D H;let⟨m,X,m2,Z⟩:=qaE s hi D;refine⟨m,X,m2,λ i p b=>?_⟩;refine qDp hi X.le (λ r I R hR=>Z r (H r (kh.2 ⟨p,wb b,?_⟩)) R hR) ((F p.2).cells (g p (wb b))).1
  have:∀y:AV,r∈(cellsOf y).flatMap rsC->r∈rsA y:=by
   intro y hy;cases y<;>simpa[cellsOf,rsA]using hy
  exact this _ I
 have J:∀u∈vs.flatMap (λ v=>v.cells.toList),u.oneCell'=true:=by
  intro u z;let⟨v,O,z⟩:=kh.1 z;obtain⟨p,b,rfl⟩:=wC.1 O;exact((F p.2).cells (g p b)).2 u z
 have W:∀(s:List Nat) (σ1:St) (D:List Nat),σ1={σ with rw:=frz σ.rw s,wrr:=D}->(∀r∈parts.toList.flatMap (λ p=>rsA (aev tm p.2)),r∈s)->
   ∃Γ',Ext Γ w Γ' (w.alloc (.cells (vs.flatMap λ v=>v.cells.toList).toArray e))/\Inv Γ' σ1 (w.alloc (.cells (vs.flatMap λ v=>v.cells.toList).toArray e))/\Rep Γ' (.sl k (parts.toList.map λ p=>(cellsOf (aev tm p.2)).map (qY σ.rw)) 2) (.slice (some ⟨w.heap.size,0,none⟩) n n):=by
  intro s σ1 D aa H;subst aa;let⟨m,X,m2,Z⟩:=E s D H;let⟨Γ',g1,g2,g3⟩:=qAD m2 J e;refine⟨Γ',(qli X w).trans g1,g2,?_⟩
  have B:∀(i:Nat) (l:List AV) (j:Nat) (x:AV),(parts.toList.map λ p=>(cellsOf (aev tm p.2)).map (qY σ.rw))[i]?=some l->l[j]?=some x->∃u,Γ'.mem w.heap.size (i*k+j)=some u/\Rep Γ' x u:=by
   intro i l j x c G;rw[List.getElem?_map]at c;cases b:parts.toList[i]? with
   |none=>rw[b]at c;cases c
   |some p=>
     rw[b]at c;cases c;have I:=Z i p b;let⟨u,z,f⟩:=I.get G;refine⟨u,g3 _ _ ?_,f.mono g1.le⟩;rw[waf];refine qFw k _ i j (ρ p.2).cells.toList u ?_ ?_ z
     .intro l c;obtain⟨v,O,rfl⟩:=wC.1 c;simpa using M v O
     .simp only[vs,xe,List.getElem?_map,b];rfl
  refine .sl k _ 2 _ n n w.heap.size 0 (λ i j=>(Γ'.mem w.heap.size (i*k+j)).getD undef) ?_ (λ _=>wa _) (λ _=>rfl) ?_ ?_ ac (.inr rfl) ?_ ?_
  .simpa using hn.symm
  .intro l c;obtain⟨p,b,rfl⟩:=wC.1 c;let⟨i,q⟩:=List.getElem?_of_mem b;rw[wE];exact(a i p q).2.1
  .intro l c x G;obtain⟨p,b,rfl⟩:=wC.1 c;let⟨i,q⟩:=List.getElem?_of_mem b;obtain⟨y,hy,rfl⟩:=wC.1 G;exact(a i p q).2.2 y hy
  .intro i l j x c G;let⟨u,z,_⟩:=B i l j x c G;rw[wG,z];rfl
  .intro i l j x c G;let⟨u,z,f⟩:=B i l j x c G;rw[z];exact f
 split at h<;>cases h
 .rename_i S;let⟨Γ',f1,f2,f3⟩:=W [] σ σ.wrr rfl (by rw[S];intro r I;cases I);exact⟨_,_,_,Γ',A,.inl rfl,f1,f2,f3⟩
 .rename_i r l K;let⟨Γ',f1,f2,f3⟩:=W (r::l) _ ((r::l)++σ.wrr) rfl (by rw[K];intro r I;exact I);exact⟨_,_,_,Γ',A,.inl rfl,f1,f2,f3⟩
theorem qO6{α:Type}{n i:Nat}{x y:α}(h:(List.replicate n x)[i]?=some y):y=x:=by
 grind
theorem qP8(hC:∀ t d,C.ty t=some d->yQ P t=some d)(W:Inv Γ σ w)(n:∀ y,Rep Γ (aev tm y) (ρ y))(t:TypeId)(y z:Operand)(U:o.op = .makeSlice t y z)(h:qc C tm σ o.op=some (x,σ')):QK P Γ σ w o ρ x σ':=by
 rw[U]at h;simp only[qc]at h;split at h<;>try cases h
 rename_i _ _ _ _ e k bytes S ik a D b hd I H;split at h<;>try cases h
 rename_i X;simp only[wc,decide_eq_true_eq]at X;obtain⟨⟨⟨rfl,Y,aa,ab,s,p⟩,G⟩,F⟩:=X;have I:=zp (I▸n y);have H:=zp (H▸n z);obtain⟨ii,u,zv,q1,q2,q3,q4,q5,q6,q7,q8⟩:=waJ (hC t _ hd);obtain⟨rfl,ie,g,p1,p2,p3,p4,p5⟩:=qbc q8
 have m:=run_make (P:=P) w t e ie g q2 p1 p2 ik D a a Y (vC _) (by rw[p4];have e1:(bytes:Int)*a=((a.toNat*bytes:Nat):Int):=by rw[Int.natCast_mul,Int.toNat_of_nonneg Y,Int.mul_comm]
                                                                   rw[e1];omega) (by omega)
 rw[p3]at m
 have B:(execOp ρ o).run P w = .ok (.value (.slice (some ⟨w.heap.size,0,none⟩) a.toNat a.toNat)) (w.alloc (.cells (madeCells g.cells (a.toNat*k)) e)):=by
  simp only[execOp,U,I,H];simp[Sem.run_bind',m]
 have R:Below w.heap.size w (w.alloc (.cells (madeCells g.cells (a.toNat*k)) e)):=(Below.refl _ _).alloc (wa _) _;split at h
 ·rename_i L;cases h;have L:a.toNat=0:=of_decide_eq_true L;refine⟨_,_,_,Γ,B,.inl rfl,qhh R (wa _),W.later R,?_⟩;rw[L];exact .sl k [] 2 _ 0 0 0 0 (λ _ _=>undef) rfl (λ _=>wa _) (λ _=>rfl) (by simp) (by simp) s (.inl rfl) (by simp) (by simp)
 ·cases h;have f:(madeCells g.cells (a.toNat*k)).size=a.toNat*k:=size_madeCells _ _;have q:g.cells.toList=S:=p5;have E:g.cells.size=k:=by rw[<- p,<- q];simp
  have l:=qeG (Γ := Γ) G
  obtain⟨Γ',d1,d2,Z⟩:=qzt W s (c:=List.replicate a.toNat (S.map .v)) (λ e Q=>by rw[xO Q,wE];exact p) (λ e Q x T=>by
   rw[xO Q]at T;exact ww.1 F x T) (vs:=madeCells g.cells (a.toNat*k)) (by rw[kX,f];exact wa _) (by
   intro i e j x A V;have:=qO6 A;subst this;obtain⟨v,K,r⟩:=l.1.get V;have O:i<a.toNat:=by have:=getElem?_lt A;simpa using this
   have N:j<k:=by have:=getElem?_lt V;simp at this;omega
   refine⟨v,?_,r,l.2 v (wb K)⟩
   have M:i*k+j<a.toNat*k:=by
    calc i*k+j<i*k+k:=by omega
     _=(i+1)*k:=by rw[wU,wao]
     _<=a.toNat*k:=wu _ O
   have hm:(i*k+j) % k=j:=by rw[xM,Nat.mul_add_mod];exact xr N
   unfold madeCells;rw[Array.getElem?_map,Array.getElem?_range,if_pos M];simp only[k8,E,hm]
   have:g.cells[j]! = v:=by
    rw[<- q]at K;have J:g.cells[j]?=some v:=by simpa using K
    rw[getElem!_def,J]
   rw[this]) (e:=e) (cap:=a.toNat) (by simp) (by rw[f];exact wa _) R (wa _) (wa _) (heap_alloc_new w _)
  rw[kX]at Z;exact⟨_,_,_,Γ',B,.inl rfl,d1,d2,Z⟩
end
end Go.AmZ
namespace Go.AmZ
open Go Go.RowKit
section
variable {P:Program}{C:Cfg}{Γ:Gh}{σ:St}{w:World}{o:Oper}{tm:List AV}{ρ:Operand->Value}{x:AV}{σ':Option St}
theorem qEk{k a}(h:uni k a=true):(∀e∈a,e.length=k)/\∀e∈a,∀x∈e,qv x=true:=by
 grind [uni]
theorem qE7(t:Inv Γ σ w){k y u}(s:Rep Γ y u){xs}(h:elems σ.rw k y=some xs)(U:0<k)(S:∀e∈xs,e.length=k):∃a m c,u=.slice a m c/\m=xs.length/\
  (xs=[]\/∃b o,a=some ⟨b,o,none⟩/\∀i e j x,xs[i]?=some e->e[j]?=some x->∃v,w.cell? ⟨b,o+(i*k+j),none⟩=some v/\Rep Γ x v/\v.oneCell'=true):=by
 cases s with
 |v _ T=>
   grind [elems,zk]
 |sl P V f a n cap b o us A I G F E K p B s=>
   simp[elems]at h;split at h<;>cases h;rename_i g;have g:=of_decide_eq_true g;subst g;refine⟨a,n,cap,rfl,A,?_⟩;obtain p|p:=p
   .exact .inl p
   .refine .inr ⟨b,o,p,λ i e j x d q=>⟨us i j,?_,s i e j x d q,(t.mem _ _ _ (B i e j x d q)).2⟩⟩;rw[<-wS];exact(t.mem _ _ _ (B i e j x d q)).1
 |rs r lo n W f a cap D Q I G C=>
   simp[elems]at h;split at h<;>try cases h
   rename_i R J;simp only[qmJ]at h;split at h<;>cases h;rename_i z;let⟨O,N,M⟩:=z;have H:=t.row r R J;refine⟨a,n,cap,rfl,by simp;omega,?_⟩;by_cases A:n=0
   .grind
   .right;obtain⟨L,-⟩:=C (by rw[<-H.ver (H.liveN M (by omega))];exact N);refine⟨Γ.cur r,Γ.of r+lo*Γ.k r,L.resolve_left (by omega),λ i e j x d q=>?_⟩;rw[List.getElem?_take]at d;split at d<;>try cases d
    rw[List.getElem?_drop]at d;have l:Γ.of r+lo*Γ.k r+(i*k+j)=Γ.of r+((lo+i)*R.k+j):=by rw[wU,<-O,<-H.k];omega
    rw[l];exact H.cells (lo+i) e j x d q
 |dead u|ptr|rpt|ept|fn|agg|tup|mp=>simp[elems]at h
theorem qAW: ∀{c l},qs1 c=some l->∃xs:List Int,c=xs.map (λ n=>[AV.v (.int .u8 n)])/\l=xs.map λ n=>UInt8.ofNat n.toNat
 |[],l,h=>by cases h;exact⟨[],rfl,rfl⟩
 |e::c,l,h=>by
   simp[qs1]at h;split at h<;>cases h;rename_i b r a d;obtain⟨xs,rfl,rfl⟩:=qAW d;unfold qJT at a;split at a<;>cases a;rename_i n;exact⟨n::xs,rfl,rfl⟩
theorem qHh{d}(h:qsl d=true):∃a b c z,d=some ⟨a,b,c,z,.int .u8⟩:=by
 unfold qsl at h;grind
theorem qkR(b):(qcT b).length=b.size:=by show(b.data.toList.map _).length=b.data.size;rw[wE,wR]
theorem qwW{b e}(a:e∈qcT b):e.length=1:=by obtain⟨c,_,rfl⟩:=wC.1 a;rfl
theorem qsr{b e}(d:e∈qcT b):∀x∈e,qv x=true:=λ x a=>by
 obtain⟨c,_,rfl⟩:=wC.1 d;rw[wD.1 a];rfl
theorem qxO{b}{i j:Nat}{e x}(d:(qcT b)[i]?=some e)(f:e[j]?=some x):j=0/\∃c,b.data.toList[i]?=some c/\x=.v (.int .u8 c.toNat):=by
 have a:(b.data.toList.map λ c=>[AV.v (.int .u8 c.toNat)])[i]?=some e:=d;grind
theorem qNO(p:Inv Γ σ w){s t e u}(b)(m:P.underlying s=some u)(q:P.underlying t=some (.slice e))(d:P.underlying e=some (.int .u8)):
  ∃v w' Γ',(convert s t (.string b)).run P w=.ok v w'/\Ext Γ w Γ' w'/\Inv Γ' {σ with rw:=σ.rw++[⟨1,qcT b,0,0,false⟩]} w'/\Rep Γ' (.rs σ.rw.length 0 b.size 0 false) v:=by
 have a:=Lib.run_convert_string_bytes w s t e b m q d;have l:=grownCap_ge w b.size 0 e
 have f:(Lib.bytesCells w e b).size=grownCap w b.size 0 e:=by
  unfold Lib.bytesCells;simp_all
 have r:Below w.heap.size w (Lib.bytesWorld w e b):=⟨rfl,rfl,rfl,by rw[Lib.bytesWorld_size];omega,λ k n=>Lib.bytesWorld_at_old w e b k n⟩
 obtain⟨Γ',E,D,C⟩:=qFV p (xz 0) (c:=qcT b) (λ e d=>qwW d) (λ e d=>qsr d) (by rw[qkR,f];omega) (λ i B j x g o=>by
  obtain⟨rfl,c,z,rfl⟩:=qxO g o;refine⟨.int .u8 c.toNat,?_,.v _ rfl,rfl⟩;unfold Lib.bytesCells;grind) (by rw[qkR];exact l) (by omega) r (Go.GxZ.run_drawn _ a) (wa _) (λ j A y=>by have:=y.1;omega) (λ h=>absurd rfl h) (Lib.bytesWorld_at_new w e b)
 grind [qkR]
theorem qP3(g:∀t d,C.ty t=some d->yQ P t=some d)(J:Inv Γ σ w)(r:∀y,Rep Γ (aev tm y) (ρ y))(s t y)(H:o.op=.convert s t y)(h:qc C tm σ o.op=some (x,σ')):QK P Γ σ w o ρ x σ':=by
 rw[H]at h;simp[qc]at h;split at h<;>try cases h
 .rename_i ds _ _ _ _ k _ n D E L;have M:=zp (L▸r y);let⟨i,u,Q,X,j,W,V,U,T,S,N⟩:=waJ (g s _ D);let⟨i',R,z,p1,p,p3,p4,p5,Z,Y,A⟩:=waJ (g t _ E);have:=qGe A;subst this;refine .val ?_ J (.v _ rfl);simp[execOp,H,M,convert,underlying,j,p,Conv.intToInt,iw]
 .rename_i ds _ _ _ _ ab D E L;have M:=zp (L▸r y);let⟨i,u,Q,X,j,W,V,U,T,S,N⟩:=waJ (g s _ D);let⟨i',R,z,p1,p,p3,p4,p5,Z,Y,A⟩:=waJ (g t _ E);have:=qhb A;subst this;refine .val ?_ J (.v _ rfl);simp[execOp,H,M,convert,underlying,j,p]
 .rename_i e _ _ _ b D E L;split at h<;>cases h;rename_i B;have M:=zp (L▸r y);let⟨i,u,Q,X,j,W,V,U,T,S,N⟩:=waJ (g s _ D);let⟨i',R,z,p1,p,p3,p4,p5,Z,Y,A⟩:=waJ (g t _ E);obtain⟨rfl,_⟩:=qbc A;let⟨a1,a2,a3,a4,K⟩:=qHh B;let⟨i2,u2,O,o1,F,o3,o4,o5,o6,o7,o8⟩:=waJ (g _ _ K);have:=qGe o8;subst this;let⟨v,w',Γ',c1,c2,c3,c4⟩:=qNO J b j p F;exact⟨_,_,w',Γ',by simp[execOp,H,M,c1],.inl rfl,c2,c3,c4⟩
 .rename_i e _ _ _ _ _ _ _ _ _ _ D E hn;split at h<;>try cases h
  rename_i es B aa;split at h<;>cases h;rename_i l hl;let⟨i,u,Q,X,j,W,V,U,T,S,N⟩:=waJ (g s _ D);let⟨i',R,z,p1,p,p3,p4,p5,Z,Y,A⟩:=waJ (g t _ E);have:=qhb A;subst this;obtain⟨rfl,_⟩:=qbc N;let⟨a1,a2,a3,a4,K⟩:=qHh B;let⟨i2,u2,O,o1,F,o3,o4,o5,o6,o7,o8⟩:=waJ (g _ _ K);have:=qGe o8;subst this;obtain⟨xs,rfl,rfl⟩:=qAW hl;let⟨a,m,c,hv,hm,f⟩:=qE7 J (r y) aa (xz 0) (λ e K=>by obtain⟨n,_,rfl⟩:=wC.1 K;rfl);have I:xs.length=m:=by grind
  refine .val (u:=.string (strOfNums xs)) ?_ J (.v _ rfl)
  have G:(convert s t (ρ y)).run P w=.ok (.string (strOfNums xs)) w:=by
   rw[hv];obtain f|⟨b,o',rfl,f⟩:=f
   .have:xs=[]:=by grind
    subst this;subst I;cases a with
    |none=>exact run_convert_bytes_nil (w:=w) s _ j F _ _ t p
    |some a=>simp[convert,underlying,j,F,p,Conv.bytesToString,loadCells,loadCellsFrom];rfl
   .refine run_convert_bytes_arg (w:=w) s _ j F b o' m c xs I (λ q hq=>?_) t p;let⟨v,v1,v2,_⟩:=f q [.v (.int .u8 xs[q])] 0 _ (by simp) rfl;rw[Nat.mul_one,wO]at v1;rw[v1,zp v2,List.getD_eq_getElem?_getD,List.getElem?_eq_getElem (by omega)];rfl
  simp[execOp,H,G]
theorem qhL{k}(m:0<k){xs:List (List AV)}(h:∀e∈xs,e.length=k){b o}(t:∀i e j x,xs[i]?=some e->e[j]?=some x->∃v,w.cell? ⟨b,o+(i*k+j),none⟩=some v/\Rep Γ x v/\v.oneCell'=true):
  ∃qj:List Value,qj.length=xs.length*k/\(∀j u,qj[j]?=some u->w.cell? ((⟨b,o,none⟩:Addr).add j)=some u)/\(∀u∈qj,u.oneCell'=true)/\∀i e j x,xs[i]?=some e->e[j]?=some x->∃u,qj[i*k+j]?=some u/\Rep Γ x u/\u.oneCell'=true:=by
 have n:∀q,q<xs.length*k->∃v,w.cell? ⟨b,o+q,none⟩=some v/\v.oneCell'=true:=by
  intro q g;have a:=(xX m).2 g;have p:q%k<k:=xU _ m;have y:=h _ (wW a);let⟨v,C,B,A⟩:=t (q/k) _ (q%k) _ (List.getElem?_eq_getElem a) (List.getElem?_eq_getElem (by omega));grind [Nat.mul_comm,Nat.div_add_mod]
 let f:Nat->Value:=λ q=>(w.cell? ⟨b,o+q,none⟩).getD undef
 have z:∀q,q<xs.length*k->w.cell? ⟨b,o+q,none⟩=some (f q):=λ q g=>by
  grind
 refine⟨(List.range (xs.length*k)).map f,by simp,?_,?_,?_⟩
 .grind [qgM]
 .grind
 .intro i e j x l s;have d:=getElem?_lt l;have c:=getElem?_lt s;rw[h e (wb l)]at c
  have r:i*k+j<xs.length*k:=by
   calc i*k+j<i*k+k:=by omega
    _=(i+1)*k:=by grind
    _<=xs.length*k:=wu _ d
  grind
theorem qL2{ts t u e ty}(f:ts[0]?=some t)(d:ts[1]?=some u)(c:P.underlying t=some (.slice e))(a:(∃b,P.underlying u=some (.slice b))\/P.underlying u=some .string)(s x):
  (Builtin.append_ ts ty #[s,x]).run P w=(Builtin.append_ #[t,u] ty #[s,x]).run P w:=by
 obtain⟨b,a⟩|a:=a<;>cases s<;>simp[Builtin.append_,f,d,run_underlying c,run_underlying a]
theorem grow_any{t u e ty h ze k bytes}(C:P.underlying t=some (.slice e))(F:P.info? e=some h)(B:h.zero=some ze)(D:h.size=k)(v:h.bytes=bytes)(q:ze.cells.size=k)(a n cap)(G:a=none->n=0/\cap=0)(c)(i:c.length=n*k)(r:∀b,a=some b->∀j u,c[j]?=some u->w.cell? (b.add j)=some u)(x m qj)(d:Src P k u x m qj w)(A:cap<n+m)(y:n+m<=maxLen)(l:(n+m)*bytes<=140737488355328):
  ∃g f o w',(Builtin.append_ #[t,u] ty #[.slice a n cap,x]).run P w=.ok (.slice (some ⟨g,0,none⟩) (n+m) f) w'/\Below w.heap.size w w'/\w.heap.size<=g/\w'.heap[g]?=some (.cells o e (0,0))/\n+m<=f/\o.size=f*k/\o.toList.take ((n+m)*k)=c++qj/\w.drawn<=w'.drawn:=by
 subst D;subst v
 have p:(Builtin.firstCells h.size n (.slice a n cap)).run P w.drew=.ok c.toArray w.drew:=by
  cases a with
  |none=>
    obtain⟨rfl,rfl⟩:=G rfl;have:=kC.1 (by simpa using i);subst this;exact run_firstCells_none w.drew h.size 0 0 0
  |some b=>exact run_firstCells_some w.drew h.size n b n cap c i (by simp_all)
 have z:=run_append_grow_src w t u ty e h ze C F B a n cap c p x m qj d A (by simp[maxLen]at y;omega) (growslice_fits A l);have s:=grownCap_ge w (n+m) cap e;refine⟨_,_,_,_,z,⟨rfl,rfl,rfl,by simp,λ k E=>heap_alloc_old w.drew _ E⟩,wa _,heap_alloc_new w.drew _,s,?_,?_,Go.GxZ.run_drawn _ z⟩
 .simp[xJ,kr,size_zeroCells,wd,i,d.newsLen,q];rw[<-wU,<-wU];congr 1;omega
 .simp;have:(c++qj).length=(n+m)*h.size:=by rw[wd,i,d.newsLen,wU]
  grind
theorem qFi{α}{l r:List α}{n q:Nat}{u}(h:l.take n=r)(a:r[q]?=some u):l[q]?=some u:=by
 grind
theorem qrH{k}{c xs:List (List AV)}{a qj:List Value}(g:a.length=c.length*k)(h:∀e∈c,e.length=k)(r:∀i e j x,c[i]?=some e->e[j]?=some x->∃u,a[i*k+j]?=some u/\Rep Γ x u/\u.oneCell'=true)(p:∀i e j x,xs[i]?=some e->e[j]?=some x->∃u,qj[i*k+j]?=some u/\Rep Γ x u/\u.oneCell'=true):
  ∀i e j x,(c++xs)[i]?=some e->e[j]?=some x->∃u,(a++qj)[i*k+j]?=some u/\Rep Γ x u/\u.oneCell'=true:=by
 intro i e j x n l;obtain⟨f,b⟩|⟨o,b⟩:=qHN n
 .grind
 .let⟨u,q,d⟩:=p _ e j x b l;refine⟨u,?_,d⟩;have m:i*k=c.length*k+(i-c.length)*k:=by rw[<-wU];congr 1;omega
  grind
theorem qqy(hC:∀t d,C.ty t=some d->yQ P t=some d)(Y:Inv Γ σ w){ts}{ty t u:TypeId}{sv xv:Value}{s:AV}(hs:Rep Γ s sv)(h0:ts[0]?=some t)(h1:ts[1]?=some u){e k bytes:Nat}{z}{q1 q2 q3 q4:_}(aH:C.ty t=some ⟨q1,q2,q3,q4,.slice e k bytes z⟩)(af:0<k)(aR:z.length=k){xs}(u1:∀e∈xs,e.length=k)(u2:∀e∈xs,∀x∈e,qv x=true){qj}(D:Src P k u xv xs.length qj w)(n4:∀i e j x,xs[i]?=some e->e[j]?=some x->∃u,qj[i*k+j]?=some u/\Rep Γ x u/\u.oneCell'=true)(h:yg k bytes σ s xs=some (x,σ')):
  ∃v w' Γ',(Builtin.append_ ts ty #[sv,xv]).run P w=.ok v w'/\Ext Γ w Γ' w'/\Inv Γ' (turn σ σ') w'/\Rep Γ' x v:=by
 obtain⟨ii,ud,zv,p1,p2,p3,p4,p5,p6,p7,p8⟩:=waJ (hC t _ aH);obtain⟨rfl,ie,ze,r1,r2,r3,r4,r5⟩:=qbc p8;have am:ze.cells.size=k:=by grind
 have n1:=D.newsLen;rw[qL2 h0 h1 p2 D.kind]
 have J:∀m n cap,n<=cap->xs=[]->(Builtin.append_ #[t,u] ty #[.slice m n cap,xv]).run P w=.ok (.slice m n cap) w:=by
  intro m n cap aD p;subst p;have aC:qj=[]:=kC.1 (by rw[n1];simp);subst aC;subst r3;exact run_append_nothing w t u ty e ie p2 r1 m n cap aD xv D
 have K:zx (qaO xs) 0=true->xs=[]:=λ h=>kC.1 (of_decide_eq_true h);have I:zx (qaO xs) 0=false->xs≠[]:=λ h p=>by subst p;simp[zx,qaO]at h
 have A:∀m n cap B,n=B.length->(m=none->n=0/\cap=0)->cap<n+xs.length->xs≠[]->(∀e∈B,e.length=k)->(∀e∈B,∀x∈e,qv x=true)->
   (∀G,m=some G->∃b o,G=⟨b,o,none⟩/\(B=[]\/∀i e j x,B[i]?=some e->e[j]?=some x->∃v,w.cell? ⟨b,o+(i*k+j),none⟩=some v/\Rep Γ x v/\v.oneCell'=true))\/B=[]->
   ∀R N,rowNew k bytes (qlG B xs)=some (R,N)->∃v w' Γ',(Builtin.append_ #[t,u] ty #[.slice m n cap,xv]).run P w=.ok v w'/\Ext Γ w Γ' w'/\Inv Γ' {σ with rw:=σ.rw++[R]} w'/\Rep Γ' (.rs σ.rw.length 0 N 0 false) v:=by
  intro m n cap B X y au aO ah aG E R N M;simp only[rowNew]at M;split at M<;>cases M;rename_i ay;obtain⟨ap,ao⟩:=ay;simp only[qlG]at ap ao
  have L:∃a:List Value,a.length=n*k/\(∀G,m=some G->∀j u,a[j]?=some u->w.cell? (G.add j)=some u)/\∀i e j x,B[i]?=some e->e[j]?=some x->∃u,a[i*k+j]?=some u/\Rep Γ x u/\u.oneCell'=true:=by
   have S:B=[]->∃a:List Value,a.length=n*k/\(∀G,m=some G->∀j u,a[j]?=some u->w.cell? (G.add j)=some u)/\∀i e j x,B[i]?=some e->e[j]?=some x->∃u,a[i*k+j]?=some u/\Rep Γ x u/\u.oneCell'=true:=by
    intro p;subst p;exact⟨[],by simp[X],λ _ _ j u hj=>by simp at hj,λ i e j x V=>by simp at V⟩
   cases F:m with
   |none=>exact F▸S (kC.1 (by grind))
   |some G=>
     rcases E with E|E
     .obtain⟨b2,aQ,rfl,hh⟩:=E G F;rcases hh with hh|hh
      .exact F▸S hh
      .obtain⟨a,m1,m2,m3,m4⟩:=qhL af ah hh;exact⟨a,by rw[X];exact m1,λ G hb=>by cases hb;exact m2,m4⟩
     .exact F▸S E
  obtain⟨a,m1,m2,m4⟩:=L;have T:(B++xs).length=n+xs.length:=by grind
  obtain⟨g,ad,al,w',f1,f2,f3,f4,f5,f6,f7,f8⟩:=grow_any (P:=P) (w:=w) (ty:=ty) p2 r1 r2 r3 r4 am m n cap y a m1 m2 xv xs.length qj D au (by simp only[maxLen];omega) (by grind)
  obtain⟨Γ',d1,d2,d3⟩:=qzt Y af (by
   intro e p;rcases wj.1 p with p|p
   .exact ah e p
   .exact u1 e p) (by
   intro e p;rcases wj.1 p with p|p
   .exact aG e p
   .exact u2 e p) (vs:=al) (by rw[T,f6];exact wu _ f5) (by
   intro i e j x V hj;obtain⟨u,hu,Q⟩:=qrH (by rw[m1,X]) ah m4 n4 i e j x V hj;exact⟨u,by rw[<-Array.getElem?_toList];exact qFi f7 hu,Q⟩) (e:=e) (by rw[T];exact f5) (by omega) f2 f8 f3 f4
  refine⟨_,w',Γ',f1,d1,d2,?_⟩;rw[<-T];exact d3
 unfold yg at h;split at h
 .have az:=zp hs;subst az;split at h
  .rename_i l;cases h;exact⟨_,w,Γ,J none 0 0 (wa _) (K l),.refl _ _,Y,.v _ rfl⟩
  .rename_i l;split at h<;>cases h;rename_i R N M;have q:=I l;have ac:=xE.2 q;exact A none 0 0 [] rfl (λ _=>⟨rfl,rfl⟩) (by omega) q (λ e p=>by cases p) (λ e p=>by cases p) (.inr rfl) R N (by simpa[qlG]using M)
 .rename_i k1 B f;cases hs with
  |sl _ _ _ m n cap b o us X hc hf aE aB aL ha hm hr=>
  split at h
  .rename_i l;split at h<;>cases h;rename_i aF;exact⟨_,w,Γ,J m n cap (hc (of_decide_eq_true aF)) (K l),.refl _ _,Y,.sl k1 B f m n cap b o us X hc hf aE aB aL ha hm hr⟩
  .rename_i l;split at h<;>try cases h
   rename_i W;simp only[wc]at W;obtain⟨⟨ar,U⟩,ax⟩:=W;have U:k1=k:=of_decide_eq_true U;subst U;obtain⟨v1,v2⟩:=qEk ax;split at h<;>cases h;rename_i R N M;have q:=I l;have ac:=xE.2 q;have ar:=of_decide_eq_true ar;by_cases Z:B=[]
   .cases m with
    |none=>exact A none n cap B X (λ _=>by subst Z;simp at X;omega) (by omega) q v1 v2 (.inr Z) R N M
    |some G=>exact A (some G) n cap B X (λ h=>by cases h) (by omega) q v1 v2 (.inr Z) R N M
   .have aJ:=ha.resolve_left Z;subst aJ;refine A _ n cap B X (λ h=>by cases h) (by omega) q v1 v2 (.inl λ G hb=>⟨b,o,by cases hb;rfl,.inr λ i e j x h1 h2=>⟨us i j,?_,hr i e j x h1 h2,(Y.mem _ _ _ (hm i e j x h1 h2)).2⟩⟩) R N M;rw[<-wS];exact(Y.mem _ _ _ (hm i e j x h1 h2)).1
 .rename_i r lo n ep f;cases hs with
  |rs _ _ _ _ _ m cap aA hv hc hf an=>
  split at h
  .rename_i l;cases h;exact⟨_,w,Γ,J m n cap hc (K l),.refl _ _,Y,.rs r lo n ep f m cap aA hv hc hf an⟩
  .rename_i l;split at h<;>try cases h
   rename_i R M;split at h<;>cases h;rename_i R' N ak;have q:=I l;have ac:=xE.2 q;simp only[qsV]at ak;split at ak<;>cases ak;rename_i aI;obtain⟨c0,c1,c3,c4,c5,ae,c6,c7⟩:=aI;subst c4;have H:=Y.row r R M;obtain⟨g2,g3⟩:=an (by rw[<-H.ver ae];exact c1);subst c0;subst c1;have ai:Γ.of r+cap*R.k<=Γ.sz r:=by rw[H.k];simpa using g3
   by_cases O:n+xs.length<=cap
   .have F:=g2.resolve_left (by omega)
    have hz:Γ.sz r≠0:=by
     have:=wan (show 0<cap by omega) H.pos;omega
    obtain⟨vs,e1,fr,d2,d3,d4,_⟩:=H.blk hz;rw[<-d3]at ai;simp at F;subst F
    have aP:Γ.of r+n*ie.size+qj.length<=vs.size:=by
     have:=wu R.k O;grind
    have aa:∀j,j<qj.length->(w.cell? ⟨Γ.cur r,Γ.of r+n*ie.size+j,none⟩).isSome=true:=by
     intro j hj;rw[QU d2];grind
    have ag:∀j,j<qj.length->w.frozen? ⟨Γ.cur r,Γ.of r+n*ie.size+j,none⟩=false:=λ j hj=>qub d2 d4 (by omega);have ab:=run_append_room_src (P:=P) w t u ty e ie p2 r1 (Γ.cur r) (Γ.of r) n cap xv xs.length qj (by grind) O aa ag
    have aq:w.setCells (Γ.cur r) (Γ.of r+n*ie.size) qj=w.setRow (Γ.cur r) (vs.toList.take (Γ.of r+n*ie.size)++qj++vs.toList.drop (Γ.of r+n*ie.size+qj.length)).toArray:=by
     grind [qj,qlA,List.append_assoc]
    rw[aq,r3]at ab
    obtain⟨Γ',f1,f2,f3⟩:=qM2 Y M ae u1 u2 n1 n4 hz (by grind)
     (λ vs' e' aS hv=>by
      rw[d2]at hv;cases hv;rw[<-c3];exact setRow_heap w _ _ _ _ _ d2) (λ k hk=>setRow_other w _ k _ hk) rfl rfl rfl (by simp) (wa _) (r::σ.wrr) (cap:=cap) (by omega) (by omega)
    rw[<-c3]at f3;exact⟨_,_,Γ',ab,f1,f2,f3⟩
   .-- no zo
    have L:∃a:List Value,a.length=n*R.k/\(∀G,m=some G->∀j u,a[j]?=some u->w.cell? (G.add j)=some u)/\∀i e j x,R.c[i]?=some e->e[j]?=some x->∃u,a[i*R.k+j]?=some u/\Rep Γ x u/\u.oneCell'=true:=by
     by_cases aj:cap=0
     .simp_all
     .have F:=g2.resolve_left aj
      obtain⟨a,q1,q2,q3,q4⟩:=qhL af (o:=Γ.of r+0*Γ.k r) H.len (λ i e j x h1 h2=>by
       obtain⟨v,hv,aw⟩:=H.cells i e j x h1 h2;exact⟨v,by rw[<-hv];congr 2;omega,aw⟩)
      grind
    obtain⟨a,q1,q2,q4⟩:=L
    have y:m=none->n=0/\cap=0:=by
     grind
    obtain⟨g,ad,al,w',f1,f2,f3,f4,f5,f6,f7,f8⟩:=grow_any (P:=P) (w:=w) (ty:=ty) p2 r1 r2 r3 r4 am m n cap y a q1 q2 xv xs.length qj D (by omega) (by simp only[maxLen];omega) c6
    obtain⟨Γ',aN,aM,av⟩:=qMK Y M ae (xs:=xs) u1 u2 (vs:=al) (e:=e) f2 f8 f3 f4 (by rw[<-c3,f6];exact wu _ f5)
     (by
      intro i e2 j x V hj;obtain⟨u,hu,Q,aK⟩:=qrH (by rw[q1,c3]) H.len q4 n4 i e2 j x V hj;exact⟨u,by rw[<-Array.getElem?_toList];exact qFi f7 hu,Q,aK⟩) (r::σ.wrr) (cap:=ad) (by omega) (by omega)
    rw[<-c3]at av;exact⟨_,w',Γ',f1,aN,aM,av⟩
 .cases h
theorem qAs(A:∀t d,C.ty t=some d->yQ P t=some d)(q:Inv Γ σ w){ts ty t u sv xv s y}(D:Rep Γ s sv)(Q:Rep Γ y xv){e k bytes z}(G:ts[0]?=some t)(F:ts[1]?=some u){e' k' b' z' q1 q2 q3 q4 q5 q6 q7 q8}(p:C.ty t=some ⟨q1,q2,q3,q4,.slice e k bytes z⟩)(r:C.ty u=some ⟨q5,q6,q7,q8,.slice e' k' b' z'⟩)(g:0<k)(l:z.length=k){xs}(R:elems σ.rw k y=some xs)(n:uni k xs=true)(h:yg k bytes σ s xs=some (x,σ')):
  ∃v w' Γ',(Builtin.append_ ts ty #[sv,xv]).run P w=.ok v w'/\Ext Γ w Γ' w'/\Inv Γ' (turn σ σ') w'/\Rep Γ' x v:=by
 let⟨O,I,H,X,B,W,V,U,T,S,J⟩:=waJ (A u _ r);obtain⟨rfl,_⟩:=qbc J;let⟨u1,u2⟩:=qEk n;obtain⟨a,m,c,rfl,rfl,f⟩:=qE7 q Q R g u1;obtain rfl|⟨b,o,rfl,f⟩:=f
 .have E:∀w',(Builtin.firstCells k 0 (.slice a 0 c)).run P w'=.ok #[] w':=λ w'=>by
    cases a with
    |none=>simp[Builtin.firstCells]
    |some Y=>simp[Builtin.firstCells,loadCells,loadCellsFrom]
  exact qqy A q D G F p g l u1 u2 ⟨.inl ⟨_,B⟩,λ _=>rfl,E w,E _,by simp,λ _ h=>by cases h⟩ (λ i e j x h=>by simp at h) h
 .let⟨qj,N,M,L,K⟩:=qhL g u1 f;exact qqy A q D G F p g l u1 u2 (Src.ofSlice w B _ _ c qj N M L) K h
theorem qCf(m:∀t d,C.ty t=some d->yQ P t=some d)(B:Inv Γ σ w){ts ty t u sv s b}(y:Rep Γ s sv){e bytes z}(E:ts[0]?=some t)(D:ts[1]?=some u){q1 q2 q3 q4 q5 q6 q7 q8}(l:C.ty t=some ⟨q1,q2,q3,q4,.slice e 1 bytes z⟩)(k:C.ty u=some ⟨q5,q6,q7,q8,.string⟩)(a:z.length=1)(h:yg 1 bytes σ s (qcT b)=some (x,σ')):
  ∃v w' Γ',(Builtin.append_ ts ty #[sv,.string b]).run P w=.ok v w'/\Ext Γ w Γ' w'/\Inv Γ' (turn σ σ') w'/\Rep Γ' x v:=by
 let⟨r,o,n,K,q,J,I,H,G,F,p⟩:=waJ (m u _ k);have:=qhb p;subst this;refine qqy m B y E D l (xz 0) a (λ e g=>qwW g) (λ e g=>qsr g) (by rw[qkR];exact Src.ofString w q b) (λ i e j x f A=>?_) h;obtain⟨rfl,c,L,rfl⟩:=qxO f A;refine⟨.int .u8 c.toNat,?_,.v _ rfl,rfl⟩;show(b.data.toList.map λ b=>Value.int .u8 b.toNat)[i*1+0]?=_;grind
end
end Go.AmZ
namespace Go.AmZ
open Go Go.RowKit
theorem qsw:∀cs:List AV,rbL cs=cs.flatMap rb
 |[]=>rfl
 |x::cs=>by simp only[rbL,xj,qsw cs]
theorem qod:∀cs:List AV,rrL cs=cs.flatMap rr
 |[]=>rfl
 |x::cs=>by simp only[rrL,xj,qod cs]
theorem qs8(fb fr:Nat->Nat):∀cs:List AV,qZ fb fr cs=cs.map (ren fb fr)
 |[]=>rfl
 |x::cs=>by simp only[qZ,wk,qs8 fb fr cs]
theorem qg8{fb fr:Nat->Nat}{x:AV}(h:qv x=true):ren fb fr x=x/\rb x=[]/\rr x=[]:=by
 cases x<;>first|exact⟨rfl,rfl,rfl⟩|(simp[qv]at h)
theorem qrY{n m:Nat}{x:AV}:refs n m x=false↔(∀b∈rb x,b<n)/\∀r∈rr x,r<m:=by
 simp[refs]
theorem Rep.bound{Γ:Gh}{x:AV}{u:Value}(h:Rep Γ x u):(∀b∈rb x,b<Γ.nb)/\∀r∈rr x,r<Γ.nr:=by
 have d:∀(cs:List AV) (us:List Value),us.length=cs.length->(∀(i:Nat) (x:AV) (u:Value),cs[i]?=some x->us[i]?=some u->(∀b∈rb x,b<Γ.nb)/\∀r∈rr x,r<Γ.nr)->(∀b∈rbL cs,b<Γ.nb)/\∀r∈rrL cs,r<Γ.nr:=by
  intro cs us j g
  have get:∀x∈cs,(∀b∈rb x,b<Γ.nb)/\∀r∈rr x,r<Γ.nr:=by
   intro x m;let⟨i,l⟩:=List.getElem?_of_mem m;have k:i<us.length:=by rw[j];exact getElem?_lt l
   exact g i x _ l (List.getElem?_eq_getElem k)
  grind [qsw,qod]
 induction h with
 |v|dead|sl|ept=>exact⟨λ b e=>by simp[rb]at e,λ r c=>by simp[rr]at c⟩
 |rs r lo n p f a cap c|rpt r i o p A c=>exact⟨λ b e=>by simp[rb]at e,λ r c=>by simp[rr]at c;subst c;assumption⟩
 |ptr b o h|mp b h=>exact⟨λ b e=>by simp[rb]at e;subst e;exact h,λ r c=>by simp[rr]at c⟩
 |fn f cs us j c g|agg cs us j q c g|tup cs us j c g=>exact d cs us j g
theorem Rep.noRefs{Γ:Gh}{x:AV}{u:Value}(h:Rep Γ x u):refs Γ.nb Γ.nr x=false:=qrY.2 h.bound
theorem qtp{Γ Γ':Gh}{fb fr:Nat->Nat}(N:∀b o u,Γ.mem b o=some u->Γ'.mem b o=some u){x:AV}{u:Value}(h:Rep Γ x u)
  (g:∀b∈rb x,fb b<Γ'.nb/\Γ'.β (fb b)=Γ.β b)
  (d:∀r∈rr x,fr r<Γ'.nr/\Γ'.k (fr r)=Γ.k r/\Γ'.ver (fr r)=Γ.ver r/\Γ'.cur (fr r)=Γ.cur r/\Γ'.sz (fr r)=Γ.sz r/\Γ'.of (fr r)=Γ.of r):Rep Γ' (ren fb fr x) u:=by
 have c:∀(cs:List AV) (us:List Value),us.length=cs.length->(∀b∈rbL cs,fb b<Γ'.nb/\Γ'.β (fb b)=Γ.β b)->
   (∀r∈rrL cs,fr r<Γ'.nr/\Γ'.k (fr r)=Γ.k r/\Γ'.ver (fr r)=Γ.ver r/\Γ'.cur (fr r)=Γ.cur r/\Γ'.sz (fr r)=Γ.sz r/\Γ'.of (fr r)=Γ.of r)->
   (∀(i:Nat) (x:AV) (u:Value),cs[i]?=some x->us[i]?=some u->(∀b∈rb x,fb b<Γ'.nb/\Γ'.β (fb b)=Γ.β b)->(∀r∈rr x,fr r<Γ'.nr/\Γ'.k (fr r)=Γ.k r/\Γ'.ver (fr r)=Γ.ver r/\Γ'.cur (fr r)=Γ.cur r/\Γ'.sz (fr r)=Γ.sz r/\Γ'.of (fr r)=Γ.of r)->Rep Γ' (ren fb fr x) u)->
   RepL Γ' (qZ fb fr cs) us:=by
  intro cs us m g d l;rw[qs8];rw[qsw]at g;rw[qod]at d;refine⟨by simpa using m,λ i y u B P=>?_⟩;rw[List.getElem?_map]at B;cases w:cs[i]? with
  |none=>rw[w]at B;cases B
  |some x=>
    rw[w]at B;cases B;have p:=wb w;exact l i x u w P (λ b h=>g b (kh.2 ⟨x,p,h⟩)) (λ r h=>d r (kh.2 ⟨x,p,h⟩))
 induction h with
 |v _ h=>exact .v _ h
 |dead u=>exact .dead u
 |sl k W f a n cap b o us m K J Q C S R s H l=>
   refine .sl k W f a n cap b o us m K J Q C S R (λ i e j x z E=>N _ _ _ (s i e j x z E)) λ i e j x z E=>?_;have q:=C e (wb z) x (wb E);let⟨e1,M,L⟩:=qg8 (fb:=fb) (fr:=fr) q;have:=l i e j x z E (by rw[M];intro b g;cases g) (by rw[L];intro r d;cases d);rw[e1]at this;exact this
 |rs r lo n X f a cap G F K J w=>
   let⟨t,D,g3,V,U,T⟩:=d r (by simp[rr]);refine .rs _ _ _ _ _ _ _ t (by rw[g3];exact F) K J λ I=>?_;grind
 |ptr b o h=>
   let⟨t,D⟩:=g b (by simp[rb]);rw[<-D];exact .ptr _ _ t
 |rpt r i o X A G F w=>
   let⟨t,D,g3,V,U,T⟩:=d r (by simp[rr]);refine .rpt _ _ _ _ _ t (by rw[g3];exact F) λ I=>?_;grind
 |ept cs o b O us C s H l=>
   refine .ept cs o b O us C (λ j x h=>N _ _ _ (s j x h)) λ j x h=>?_;have q:=C x (wb h);let⟨e1,M,L⟩:=qg8 (fb:=fb) (fr:=fr) q;have:=l j x h (by rw[M];intro b g;cases g) (by rw[L];intro r d;cases d);rw[e1]at this;exact this
 |fn f cs us m h l=>
   have:=c cs us m g d l;exact .fn f _ us this.len this.rep
 |agg cs us m z h l=>
   have:=c cs us m g d l;exact .agg _ us this.len z this.rep
 |tup cs us m h l=>
   have:=c cs us m g d l;exact .tup _ us this.len this.rep
 |mp b h=>
   let⟨t,D⟩:=g b (by simp[rb]);rw[<-D];exact .mp _ t
mutual
theorem qDe:∀x:AV,ren (λ b=>b) (λ r=>r) x=x
 |.ptr b o|.mp b=>rfl
 |.mc ..|.rs ..|.rpt .. => rfl
 |.fn f cs|.agg cs|.tup cs=>by simp only[ren,qtf cs]
 |.v _|.dead=>rfl
 |.sl ..|.ept .. => rfl
theorem qtf:∀cs:List AV,qZ (λ b=>b) (λ r=>r) cs=cs
 |[]=>rfl
 |x::cs=>by simp only[qZ,qDe x,qtf cs]
end
mutual
theorem qsP(fb fr:Nat->Nat):∀x:AV,rb x=[]->rr x=[]->ren fb fr x=x
 |.ptr b o,h,_|.mp b,h,_=>by simp[rb]at h
 |.rs ..,_,h|.rpt ..,_,h=>by simp[rr]at h
 |.fn f cs,h,g|.agg cs,h,g|.tup cs,h,g=>by rw[ren,qol fb fr cs h g]
 |.v _,_,_|.dead,_,_|.sl ..,_,_|.ept ..,_,_|.mc ..,_,_=>rfl
theorem qol(fb fr:Nat->Nat):∀cs:List AV,rbL cs=[]->rrL cs=[]->qZ fb fr cs=cs
 |[],_,_=>rfl
 |x::cs,h,g=>by
   rw[rbL,km]at h;rw[rrL,km]at g;rw[qZ,qsP fb fr x h.1 g.1,qol fb fr cs h.2 g.2]
end
theorem Rep.cut{Γ:Gh}{n m:Nat}{x:AV}{u:Value}(h:Rep Γ x u)(a:refs n m x=false):Rep {Γ with nb:=n,nr:=m} x u:=by
 let⟨e,d⟩:=qrY.1 a;have:=qtp (Γ:=Γ) (Γ':={Γ with nb:=n,nr:=m}) (fb:=λ b=>b) (fr:=λ r=>r) (λ _ _ _ h=>h) h (λ b c=>⟨e b c,rfl⟩) (λ r a=>⟨d r a,rfl,rfl,rfl,rfl,rfl⟩);rw[qDe]at this;exact this
theorem Inv.wr{Γ:Gh}{σ:St}{w:World}(h:Inv Γ σ w){σ':St}(b:σ'.bx=σ.bx)(a:σ'.rw=σ.rw):Inv Γ σ' w:=
 ⟨by rw[b];exact h.nb,by rw[a];exact h.nr,h.mem,by rw[b];exact h.box,h.inj,h.boxmem,by rw[a];exact h.row,h.apart⟩
theorem qA4{α:Type}{l:List α}{n i:Nat}{x:α}(h:(l.take n)[i]?=some x):i<n/\l[i]?=some x:=by
 grind
theorem Inv.cut{Γ:Gh}{σ:St}{w:World}(h:Inv Γ σ w){n m:Nat}(p:n<=Γ.nb)(q:m<=Γ.nr)(J:∀i cs,i<n->σ.bx[i]?=some cs->∀x∈cs,Go.AmZ.refs n m x=false)(E t:List Nat):Inv {Γ with nb:=n,nr:=m} ⟨σ.bx.take n,σ.rw.take m,E,t⟩ w where
 nb:=by show n=(σ.bx.take n).length;rw[wo,<-h.nb];omega
 nr:=by show m=(σ.rw.take m).length;rw[wo,<-h.nr];omega
 mem:=h.mem
 box:=λ i cs d=>by
  let⟨g,l⟩:=qA4 d;exact(h.box i cs l).to' (λ _ h=>h) λ x u z q=>z.cut (q.elim (J i cs g l x) λ⟨e1,C⟩=>by unfold Go.AmZ.refs;rw[e1,C];rfl)
 inj:=λ i j d s=>h.inj i j (wA d p) (wA s p)
 boxmem:=λ i d=>h.boxmem i (wA d p)
 row:=λ r R A=>by
  let⟨g,f⟩:=qA4 A;let⟨k,v,pos,y,D,S,Q,P,O,N,M,L⟩:=h.row r R f
  have o:∀{x:AV}{u:Value}{e:List AV},e∈R.c->x∈e->Rep Γ x u->Rep {Γ with nb:=n,nr:=m} x u:=λ I z a=>a.cut (by
   let⟨_,C,T⟩:=qg8 (fb:=id) (fr:=id) (D _ I _ z);rw[qrY,C,T];exact⟨λ b B=>(xP B).elim,λ b B=>(xP B).elim⟩)
  refine⟨k,v,pos,y,D,S,Q,P,O,λ i e j x d s=>?_,λ G i d=>M G i (wA d p),L⟩;let⟨u,H,a,K⟩:=N i e j x d s;exact⟨u,H,o (wb d) (wb s) a,K⟩
 apart:=λ r F A f=>h.apart r F (wA A q) (wA f q)
structure qO (σ σ':St):Prop where
 bl:σ.bx.length<=σ'.bx.length
 rl:σ.rw.length<=σ'.rw.length
 bx:∀i,i<σ.bx.length->i ∉ σ'.wr->σ'.bx[i]?=σ.bx[i]?
 rw:∀i,i<σ.rw.length->i ∉ σ'.wrr->σ'.rw[i]?=σ.rw[i]?
 wr:∀i,i∈σ.wr->i∈σ'.wr
 wrr:∀i,i∈σ.wrr->i∈σ'.wrr
theorem qO.refl(σ:St):qO σ σ:=⟨wa _,wa _,λ _ _ _=>rfl,λ _ _ _=>rfl,λ _ h=>h,λ _ h=>h⟩
theorem qO.trans{a b c:St}(h:qO a b)(g:qO b c):qO a c:=
 ⟨wz h.bl g.bl,wz h.rl g.rl,λ i d e=>(g.bx i (wA d h.bl) e).trans (h.bx i d λ f=>e (g.wr i f)),λ i d e=>(g.rw i (wA d h.rl) e).trans (h.rw i d λ f=>e (g.wrr i f)),λ i d=>g.wr i (h.wr i d),λ i d=>g.wrr i (h.wrr i d)⟩
theorem qIj:∀(a:List Nat) (rw:List Row),(frz rw a).length=rw.length
 |[],rw=>rfl
 |r::a,rw=>by
   show(frz (rw.modify r qn5) a).length=_;rw[qIj a,vY]
theorem qoj:∀(a:List Nat) (rw:List Row) (i:Nat),i ∉ a->(frz rw a)[i]?=rw[i]?
 |[],rw,i,_=>rfl
 |r::a,rw,i,h=>by
   show(frz (rw.modify r qn5) a)[i]?=_;rw[qoj a _ i λ b=>h (we _ b),List.getElem?_modify];grind
theorem qHL{Γ:Gh}{σ:St}{w:World}(e:Inv Γ σ w){m:Nat->Nat->Option Value}(c:Le Γ {Γ with mem:=m}){d:Nat}{y:AV}{u:Value}(o:∀r∈rr y,d<=r->∀R,σ.rw[r]?=some R->Qz {Γ with mem:=m} r R)(a:Rep Γ y u):Rep {Γ with mem:=m} (quC d σ.rw y) u:=by
 cases y with
 |sl k h f=>exact qlS (y:=.sl k h f) e c (λ r a=>by simp[rsC]at a) a
 |rs r lo n i f=>
   simp only[quC];split
   .rename_i l;refine qlS (y:=.rs r lo n i f) e c (λ j g R p=>?_) a;grind [rsC,rr]
   .exact a.mono c
 |_=>exact a.mono c
theorem qFO{Γ:Gh}{σ:St}{w:World}(l:Inv Γ σ w){m:Nat->Nat->Option Value}(k:Le Γ {Γ with mem:=m}){c:Nat}{pub:AV->AV}{cs:List AV}{us:List Value}(g:∀y u,(∀r∈rr y,c<=r->∀R,σ.rw[r]?=some R->Qz {Γ with mem:=m} r R)->Rep Γ y u->Rep {Γ with mem:=m} (pub y) u)
  (j:∀r∈rrL cs,c<=r->∀R,σ.rw[r]?=some R->Qz {Γ with mem:=m} r R) (d:RepL Γ cs us):RepL {Γ with mem:=m} (cs.map pub) us:=by
 refine⟨by simpa using d.len,λ i x u b e=>?_⟩;rw[List.getElem?_map]at b;cases h:cs[i]? with
 |none=>rw[h]at b;cases b
 |some y=>
   rw[h]at b;cases b;refine g y u (λ r f=>j r ?_) (d.rep i y u h e);grind [qod,List.mem_of_getElem?]
theorem qHC{Γ:Gh}{σ:St}{w:World}(d:Inv Γ σ w){m:Nat->Nat->Option Value}(c:Le Γ {Γ with mem:=m}){b:Nat}{y:AV}{u:Value}(f:∀r∈rr y,b<=r->∀R,σ.rw[r]?=some R->Qz {Γ with mem:=m} r R)(e:Rep Γ y u):Rep {Γ with mem:=m} (qlW b σ.rw y) u:=by
 cases y with
 |agg cs=>
   cases e with
   |agg _ us i h g=>
     have:=qFO d c (pub:=quC b σ.rw) (λ y u=>qHL d c) (by simpa[rr]using f) ⟨i,g⟩;exact .agg _ us this.len h this.rep
 |_=>exact qHL d c f e
theorem qQ3{Γ:Gh}{σ:St}{w:World}(d:Inv Γ σ w){m:Nat->Nat->Option Value}(c:Le Γ {Γ with mem:=m}){b:Nat}{y:AV}{u:Value}(f:∀r∈rr y,b<=r->∀R,σ.rw[r]?=some R->Qz {Γ with mem:=m} r R)(e:Rep Γ y u):Rep {Γ with mem:=m} (qj7 b σ.rw y) u:=by
 cases y with
 |tup cs=>
   cases e with
   |tup _ us h g=>
     have:=qFO d c (pub:=qlW b σ.rw) (λ y u=>qHC d c) (by simpa[rr]using f) ⟨h,g⟩;exact .tup _ us this.len this.rep
 |_=>exact qHC d c f e
theorem filter_nil{p:Nat->Bool}{l:List Nat}(h:l.filter p=[]){i:Nat}(a:p i=true):i ∉ l:=λ b=>by
 have:i∈l.filter p:=kJ.2 ⟨b,a⟩;rw[h]at this;cases this
theorem qLo{Γ Γ':Gh}{σ σ':St}{w w':World}{res:AV}{v:Value}(h0:Inv Γ σ w)(hx:Ext Γ w Γ' w')(hi:Inv Γ' σ' w')(hk:qO { σ with wr:=[],wrr:=[] } σ')(hr:Rep Γ' res v) :
  (∃ Γ2,Ext Γ w Γ2 w'/\Inv Γ2 (turn σ (qbO σ res σ').2) w'/\Rep Γ2 (qbO σ res σ').1 v)/\qO { σ with wr:=[],wrr:=[] } (turn { σ with wr:=[],wrr:=[] } (qbO σ res σ').2):=by
 have hwrN:∀ i,i < σ.bx.length->i ∉ (σ'.wr.filter λ b=>decide (b < σ.bx.length))->i ∉ σ'.wr := λ i hi hn hm=>hn (kJ.2 ⟨hm,by simpa using hi⟩);have hwrrN:∀ i,i < σ.rw.length->i ∉ (σ'.wrr.filter λ b=>decide (b < σ.rw.length))->i ∉ σ'.wrr := λ i hi hn hm=>hn (kJ.2 ⟨hm,by simpa using hi⟩);unfold qbO;split
 ·refine⟨⟨Γ',hx,hi.wr rfl rfl,hr⟩,⟨hk.bl,hk.rl,λ i hi hn=>hk.bx i hi (hwrN i hi hn),λ i hi hn=>hk.rw i hi (hwrrN i hi hn),λ i h=>(by cases h),λ i h=>(by cases h)⟩⟩
 ·rename_i hkeep;simp only[qo4,xA]at hkeep;obtain⟨hk1,hk2⟩:=hkeep;obtain⟨m,m1,m2,m3⟩:=qaE ((rr res).filter λ r=>decide (σ.rw.length<=r)) hi σ'.wrr;have hpub:Rep { Γ' with mem:=m } (qj7 σ.rw.length σ'.rw res) v:=qQ3 hi m1.le (λ r hr' hge R hR=>m3 r (kJ.2 ⟨hr',by simpa using hge⟩) R hR) hr;have hnb : σ.bx.length <= Γ'.nb:=by rw[hi.nb];exact hk.bl
  have hnr : σ.rw.length <= Γ'.nr:=by rw[hi.nr];exact hk.rl
  have hcut:=m2.cut (n := σ.bx.length) (m := σ.rw.length) hnb hnr (by
   intro i cs hlt hcs x hxm;have hcs : σ'.bx[i]?=some cs:=hcs;by_cases hw:i ∈ σ'.wr
   ·grind
   ·rw[hk.bx i hlt hw]at hcs;rcases(h0.box i cs hcs).split with⟨vs,e,g1,g2,g3⟩ | ⟨_,_,_,_,_,rfl,_⟩
    case inr=>rw[wD.1 hxm];rfl
    obtain⟨j,hj⟩:=List.getElem?_of_mem hxm;obtain⟨u,hu,hrep⟩:=g2.get hj;have:=hrep.noRefs;rw[h0.nb,h0.nr]at this;exact this) [] []
  have htake:(frz σ'.rw ((rr res).filter λ r=>decide (σ.rw.length<=r))).take σ.rw.length = σ'.rw.take σ.rw.length:=by
   apply kY;grind [qoj]
  have hcut':Inv { ({ Γ' with mem:=m }:Gh)with nb := σ.bx.length,nr := σ.rw.length } ⟨σ'.bx.take σ.bx.length,σ'.rw.take σ.rw.length,[],[]⟩ w':=by
   rw[<- htake];exact hcut
  have hrep2:=hpub.cut hk1
  have hext:Ext Γ w { ({ Γ' with mem:=m }:Gh)with nb := σ.bx.length,nr := σ.rw.length } w':=by
   have e1:=hx.trans (qli m1 w');refine⟨⟨e1.le.mem,by rw[h0.nb];exact wa _,e1.le.β,by rw[h0.nr];exact wa _,e1.le.k,e1.le.ver,e1.le.loc⟩,e1.os,e1.tape,e1.output,e1.size,e1.block,?_,e1.memg,e1.drawn⟩;rintro b (⟨i,hi',hb⟩ | ⟨r,hr',hz,hb⟩)
   ·exact e1.own b (.inl ⟨i,wA hi' hnb,hb⟩)
   ·exact e1.own b (.inr ⟨r,wA hr' hnr,hz,hb⟩)
  split
  ·rename_i hnil;have hn1:(σ'.wr.filter λ b=>decide (b < σ.bx.length))=[]:=(km.1 hnil).1;have hn2:(σ'.wrr.filter λ b=>decide (b < σ.rw.length))=[]:=(km.1 hnil).2
   have hb : σ'.bx.take σ.bx.length = σ.bx:=by
    apply kY;intro i;rw[List.getElem?_take];split
    ·rename_i hlt;exact hk.bx i hlt (filter_nil hn1 (by simpa using hlt))
    ·grind
   have hrw : σ'.rw.take σ.rw.length = σ.rw:=by
    apply kY;intro i;rw[List.getElem?_take];split
    ·rename_i hlt;exact hk.rw i hlt (filter_nil hn2 (by simpa using hlt))
    ·grind
   refine⟨⟨_,hext,?_,hrep2⟩,qO.refl _⟩;exact hcut'.wr hb.symm hrw.symm
  ·refine⟨⟨_,hext,hcut'.wr rfl rfl,hrep2⟩,⟨?_,?_,λ i hi hn=>?_,λ i hi hn=>?_,λ i h=>(by cases h),λ i h=>(by cases h)⟩⟩
   ·show σ.bx.length<=(σ'.bx.take σ.bx.length).length;have:=hk.bl;grind
   ·show σ.rw.length<=(σ'.rw.take σ.rw.length).length;have : σ.rw.length <= σ'.rw.length:=hk.rl;rw[wo];omega
   ·show(σ'.bx.take σ.bx.length)[i]? = σ.bx[i]?;rw[List.getElem?_take,if_pos hi];exact hk.bx i hi (hwrN i hi hn)
   ·show(σ'.rw.take σ.rw.length)[i]? = σ.rw[i]?;rw[List.getElem?_take,if_pos hi];exact hk.rw i hi (hwrrN i hi hn)
end Go.AmZ
namespace Go.AmZ
open Go Go.RowKit
theorem qup: ∀{l},nd l=true->l.Nodup
 |[],_=>kZ
 |b::l,h=>by
   simp only[nd,wc,wM]at h;exact k9.2 ⟨by simpa using h.1,qup h.2⟩
theorem qDn{l:List Nat}{b}(h:b∈l):l.getD (l.idxOf b) 0=b:=by
 grind
theorem qKM{l:List Nat}{b}(h:b∈l):l.idxOf b<l.length:=List.idxOf_lt_length_of_mem h
theorem qzi{l:List Nat}(a:l.Nodup){j b}(h:l[j]?=some b):l.idxOf b=j:=by
 grind
theorem qBd{l:List Nat}(a:l.Nodup){i j}(c:i<l.length)(b:j<l.length)(h:l[i]=l[j]):i=j:=by
 rw[<-qzi a (List.getElem?_eq_getElem c),<-qzi a (List.getElem?_eq_getElem b),h]
def fi(l:List Nat)(n i:Nat):Option Nat:=if i<n then(if i∈l then some (l.idxOf i)else none)else some (l.length+(i-n))
theorem qcR{l n i}(h:fi l n i=none):i<n/\i ∉ l:=by
 grind [fi]
theorem qhZ{l n i j}(h:fi l n i=some j)(a:i<n):i∈l/\j=l.idxOf i/\j<l.length/\l.getD j 0=i:=by
 grind [fi]
theorem qMs{l n i a j}(h:fi l n i=some j)(d:fi l n a=some j):i=a:=by
 by_cases c:i<n<;>by_cases b:a<n
 .rw[<-(qhZ h c).2.2.2,<-(qhZ d b).2.2.2]
 .grind [fi]
 .grind [fi]
 .grind [fi]
theorem qHr{l}(a:l.Nodup){n}(c:∀b∈l,b<n)(j):fi l n (yd l n j)=some j:=by
 grind [yd,fi]
theorem qHB{l n e j}(a:∀b∈l,b<n)(d:j<l.length+e):yd l n j<n+e:=by
 unfold yd;split
 .rename_i b c;have:=a b (wb c);omega
 .grind
theorem qpN{l n b}(h:b∈l):yd l n (l.idxOf b)=b:=by
 grind [yd]
theorem qfn{α}:∀bs (l xs:List α),bs.length<=xs.length->(z8 l bs xs).length=l.length+(xs.length-bs.length)
 |[],l,xs,_=>by simp[z8]
 |b::bs,l,[],h=>by simp at h
 |b::bs,l,x::xs,h=>by
   simp only[z8];rw[qfn bs _ xs (by grind),wI];simp
theorem qaQ{α}:∀bs (l xs:List α) i,bs.length<=xs.length->bs.Nodup->(∀b∈bs,b<l.length)->(z8 l bs xs)[i]?=match fi bs l.length i with
  |some j=>xs[j]?
  |none=>l[i]?
 |[],l,xs,i,_,_,_=>by
   simp[z8,fi];rw[List.getElem?_append];split<;>simp_all
 |b::bs,l,[],i,h,_,_=>by simp at h
 |b::bs,l,x::xs,i,h,n,m=>by
   simp[z8];let⟨f,d⟩:=k9.1 n;rw[qaQ bs (l.set b x) xs i (by grind) d (λ p o=>by rw[wI];exact m p (we _ o)),wI];have k:=m b (wh ..);unfold fi;by_cases c:i<l.length
   .rw[if_pos c,if_pos c];by_cases a:i=b
    .subst a;rw[if_neg f,if_pos (wh ..)];simp[k]
    .by_cases g:i∈bs
     .rw[if_pos g,if_pos (we _ g)];rw[List.idxOf_cons,show(b==i)=false by simpa using λ e=>a e.symm];rfl
     .rw[if_neg g,if_neg (by grind)];rw[List.getElem?_set,if_neg λ e=>a e.symm]
   .rw[if_neg c,if_neg c];simp;rw[show bs.length+1+(i-l.length)=(bs.length+(i-l.length))+1 by omega];rfl
def JT(Γ:Gh)(bs rs:List Nat):Gh:=
 {mem:=Γ.mem,nb:=bs.length,β:=λ i=>Γ.β (bs.getD i 0),nr:=rs.length,ver:=λ r=>Γ.ver (rs.getD r 0),k:=λ r=>Γ.k (rs.getD r 0),cur:=λ r=>Γ.cur (rs.getD r 0),sz:=λ r=>Γ.sz (rs.getD r 0),of:=λ r=>Γ.of (rs.getD r 0)}
structure qfW (σ:St) (bs rs:List Nat):Prop where
 bn:bs.Nodup
 rn:rs.Nodup
 bl:∀b∈bs,b<σ.bx.length
 rl:∀r∈rs,r<σ.rw.length
 cb:∀b∈bs,∀x∈σ.bx.getD b [],(∀b∈rb x,b∈bs)/\∀r∈rr x,r∈rs
theorem jQ{α}{l:List α}{i x d}(h:l[i]?=some x):l.getD i d=x:=by grind
section
variable {Γ:Gh}{σ:St}{w:World}{bs rs:List Nat}
theorem qtj(d:qfW σ bs rs){x u}(h:Rep Γ x u)(c:∀b∈rb x,b∈bs)(a:∀r∈rr x,r∈rs):Rep (JT Γ bs rs) (ren (λ b=>bs.idxOf b) (λ r=>rs.idxOf r) x) u:=
 qtp (Γ:=Γ) (Γ':=JT Γ bs rs) (λ _ _ _ h=>h) h (λ b h=>⟨qKM (c b h),by show Γ.β _=_;rw[qDn (c b h)]⟩) λ r h=>by
  have e:=qDn (a r h);refine⟨qKM (a r h),?_,?_,?_,?_,?_⟩
  .show Γ.k _=_;rw[e]
  .show Γ.ver _=_;rw[e]
  .show Γ.cur _=_;rw[e]
  .show Γ.sz _=_;rw[e]
  .show Γ.of _=_;rw[e]
theorem qsD{b}(e:qfW σ bs rs)(g:Inv Γ σ w)(h:Jg (JT Γ bs rs) b):Jg Γ b:=by
 obtain⟨i,a,d⟩|⟨r,f,j,d⟩:=h
 .have a:i<bs.length:=a;have c:bs.getD i 0∈bs:=by grind
  exact .inl ⟨_,by rw[g.nb];exact e.bl _ c,d⟩
 .have f:r<rs.length:=f;have c:rs.getD r 0∈rs:=by grind
  exact .inr ⟨_,by rw[g.nr];exact e.rl _ c,j,d⟩
theorem qH8(g:qfW σ bs rs)(l:Inv Γ σ w):Inv (JT Γ bs rs) (qQ σ bs rs) w where
 nb:=by simp[JT,qQ]
 nr:=by simp[JT,qQ]
 mem:=l.mem
 box:=λ i cs O=>by
  have f:(bs.map λ b=>qZ (λ b=>bs.idxOf b) (λ r=>rs.idxOf r) (σ.bx.getD b []))[i]?=some cs:=O;rw[List.getElem?_map]at f;cases v:bs[i]? with
  |none=>rw[v]at f;cases f
  |some b=>
    rw[v]at f;simp at f;have D:=wb v;have X:=g.bl b D;have n:σ.bx[b]?=some (σ.bx.getD b []):=by grind
    rw[<-f,qs8];refine(l.box b _ n).to _ (λ o U=>by show w.heap[Γ.β (bs.getD i 0)]?=_;rw[jQ v];exact U) (λ x u F t=>?_) λ x=>qsP _ _ x;rcases t with t|⟨e1,B⟩
    .exact qtj g F (g.cb b D x t).1 (g.cb b D x t).2
    .exact qtj g F (by grind) (by grind)
 inj:=λ i j a A h=>by
  have h:Γ.β (bs.getD i 0)=Γ.β (bs.getD j 0):=h;have e1:=jQ (d:=0) (List.getElem?_eq_getElem a);have B:=jQ (d:=0) (List.getElem?_eq_getElem A);rw[e1,B]at h;have:=l.inj _ _ (by rw[l.nb];exact g.bl _ (wW a)) (by rw[l.nb];exact g.bl _ (wW A)) h;exact qBd g.bn a A this
 boxmem:=λ i a o=>by
  have e1:=jQ (d:=0) (List.getElem?_eq_getElem a);show Γ.mem (Γ.β (bs.getD i 0)) o=none;rw[e1];exact l.boxmem _ (by rw[l.nb];exact g.bl _ (wW a)) o
 row:=λ r R Y=>by
  have p:(rs.map λ r=>σ.rw.getD r ⟨0,[],0,0,false⟩)[r]?=some R:=Y;rw[List.getElem?_map]at p;cases v:rs[r]? with
  |none=>rw[v]at p;cases p
  |some q=>
    rw[v]at p;simp only[k8]at p;have D:=wb v;have T:=g.rl q D;have n:σ.rw[q]?=some R:=by grind
    have C:rs.getD r 0=q:=jQ v;obtain⟨k,J,pos,K,Q,fz,g2,g4,g5,g6,g8,g9⟩:=l.row q R n
    have E:∀{x u e},e∈R.c->x∈e->Rep Γ x u->Rep (JT Γ bs rs) x u:=λ N F m=>by
     obtain⟨e1,B,e3⟩:=qg8 (Q _ N _ F);have:=qtj g m (by grind) (by grind);rw[e1]at this;exact this
    have I:(JT Γ bs rs).cur r=Γ.cur q:=by show Γ.cur _=_;rw[C]
    have G:(JT Γ bs rs).sz r=Γ.sz q:=by show Γ.sz _=_;rw[C]
    have H:(JT Γ bs rs).of r=Γ.of q:=by show Γ.of _=_;rw[C]
    refine⟨by rw[k];show _=Γ.k _;rw[C],λ V=>by rw[J V];show _=Γ.ver _;rw[C],pos,K,Q,fz,by rw[I,G];exact g2,by rw[G,H];exact g4,by rw[I,G,H];exact g5,λ i e j x a A=>?_,λ y i a=>?_,λ W=>H.trans (g9 W)⟩
    .obtain⟨u,S,m,Z⟩:=g6 i e j x a A;exact⟨u,by rw[I,H];exact S,E (wb a) (wb A) m,Z⟩
    .have a:=a;have e1:=jQ (d:=0) (List.getElem?_eq_getElem a);rw[G]at y;rw[I];show Γ.β (bs.getD i 0)≠_;rw[e1];exact g8 y _ (by rw[l.nb];exact g.bl _ (wW a))
 apart:=λ r P L z M y s=>by
  have e1:=jQ (d:=0) (List.getElem?_eq_getElem L);have B:=jQ (d:=0) (List.getElem?_eq_getElem z);have y:Γ.sz (rs.getD r 0)≠0:=y;have s:Γ.sz (rs.getD P 0)≠0:=s;show Γ.cur (rs.getD r 0)≠Γ.cur (rs.getD P 0);rw[e1]at y;rw[B]at s;rw[e1,B];refine l.apart _ _ (by rw[l.nr];exact g.rl _ (wW L)) (by rw[l.nr];exact g.rl _ (wW z)) (λ N=>M (qBd g.rn L z N)) y s
def QM(Γ Γs:Gh)(bs rs:List Nat):Gh:=
 {mem:=Γs.mem,nb:=Γ.nb+(Γs.nb-bs.length),β:=λ i=>match fi bs Γ.nb i with|some j=>Γs.β j|none=>Γ.β i,
   nr:=Γ.nr+(Γs.nr-rs.length),ver:=λ r=>match fi rs Γ.nr r with|some j=>Γs.ver j|none=>Γ.ver r,sz:=λ r=>match fi rs Γ.nr r with|some j=>Γs.sz j|none=>Γ.sz r,
   k:=λ r=>match fi rs Γ.nr r with|some j=>Γs.k j|none=>Γ.k r,cur:=λ r=>match fi rs Γ.nr r with|some j=>Γs.cur j|none=>Γ.cur r,
   of:=λ r=>match fi rs Γ.nr r with|some j=>Γs.of j|none=>Γ.of r}
variable {Γs:Gh}{σs:St}{w':World}
theorem qCO{l n e i j}(h:fi l n i=some j)(a:i<n+e):j<l.length+e:=by
 grind [fi]
theorem qpp(c:qfW σ bs rs)(d:Inv Γ σ w)(i:Ext (JT Γ bs rs) w Γs w'){x u}(h:Rep Γs x u):Rep (QM Γ Γs bs rs) (ren (yd bs Γ.nb) (yd rs Γ.nr) x) u:=by
 refine qtp (Γ:=Γs) (Γ':=QM Γ Γs bs rs) (λ _ _ _ h=>h) h (λ b a=>?_) λ r g=>?_
 .have f:=h.bound.1 b a;refine⟨qHB (λ b a=>by rw[d.nb];exact c.bl b a) (by omega),?_⟩;show(match fi bs Γ.nb (yd bs Γ.nb b)with|some j=>Γs.β j|none=>Γ.β _)=_;rw[qHr c.bn (λ b a=>by rw[d.nb];exact c.bl b a)]
 .have f:=h.bound.2 r g;have e:=qHr c.rn (n:=Γ.nr) (λ b a=>by rw[d.nr];exact c.rl b a) r;refine⟨qHB (λ b a=>by rw[d.nr];exact c.rl b a) (by omega),?_,?_,?_,?_,?_⟩
  .show(match fi rs Γ.nr _ with|some j=>Γs.k j|none=>Γ.k _)=_;rw[e]
  .show(match fi rs Γ.nr _ with|some j=>Γs.ver j|none=>Γ.ver _)=_;rw[e]
  .show(match fi rs Γ.nr _ with|some j=>Γs.cur j|none=>Γ.cur _)=_;rw[e]
  .show(match fi rs Γ.nr _ with|some j=>Γs.sz j|none=>Γ.sz _)=_;rw[e]
  .show(match fi rs Γ.nr _ with|some j=>Γs.of j|none=>Γ.of _)=_;rw[e]
theorem qHt(n:qfW σ bs rs)(o:Inv Γ σ w)(d:Ext (JT Γ bs rs) w Γs w'):Le Γ (QM Γ Γs bs rs):=by
 have f:∀i,i<Γ.nb->(QM Γ Γs bs rs).β i=Γ.β i:=by
  intro i g;show(match fi bs Γ.nb i with|some j=>Γs.β j|none=>Γ.β i)=_;cases h:fi bs Γ.nb i with
  |none=>rfl
  |some j=>
    let⟨m,l,c,b⟩:=qhZ h g;have:=d.le.β j c;simp only;rw[this];show Γ.β (bs.getD j 0)=_;rw[b]
 refine⟨d.le.mem,kI _ _,f,kI _ _,λ r e=>?_,λ r e=>?_,λ r e a=>?_⟩
 .show(match fi rs Γ.nr r with|some j=>Γs.k j|none=>Γ.k r)=_;cases h:fi rs Γ.nr r with
  |none=>rfl
  |some j=>
    let⟨m,l,c,b⟩:=qhZ h e;have:=d.le.k j c;simp only;rw[this];show Γ.k (rs.getD j 0)=_;rw[b]
 .show _<=(match fi rs Γ.nr r with|some j=>Γs.ver j|none=>Γ.ver r);cases h:fi rs Γ.nr r with
  |none=>exact wa _
  |some j=>
    let⟨m,l,c,b⟩:=qhZ h e;have:Γ.ver (rs.getD j 0)<=Γs.ver j:=d.le.ver j c;rw[b]at this;exact this
 .have a:(match fi rs Γ.nr r with|some j=>Γs.ver j|none=>Γ.ver r)=Γ.ver r:=a;show(match fi rs Γ.nr r with|some j=>Γs.cur j|none=>Γ.cur r)=_/\(match fi rs Γ.nr r with|some j=>Γs.sz j|none=>Γ.sz r)=_/\(match fi rs Γ.nr r with|some j=>Γs.of j|none=>Γ.of r)=_;cases h:fi rs Γ.nr r with
  |none=>exact⟨rfl,rfl,rfl⟩
  |some j=>
    rw[h]at a;let⟨m,l,c,b⟩:=qhZ h e;have:=d.le.loc j c (by show _=Γ.ver (rs.getD j 0);rw[b];exact a);have:Γs.cur j=Γ.cur (rs.getD j 0)/\Γs.sz j=Γ.sz (rs.getD j 0)/\Γs.of j=Γ.of (rs.getD j 0):=this;rw[b]at this;exact this
theorem qlV(l:qfW σ bs rs)(g:Inv Γ σ w){i}(h:fi bs Γ.nb i=none):¬ Jg (JT Γ bs rs) (Γ.β i)/\Γ.β i<w.heap.size:=by
 let⟨b,m⟩:=qcR h;refine⟨?_,g.box_lt b⟩;rintro(⟨j,f,a⟩|⟨r,e,c,a⟩)
 .have f:=f;have e1:=jQ (d:=0) (List.getElem?_eq_getElem f);have a:Γ.β (bs.getD j 0)=Γ.β i:=a;rw[e1]at a;have:=g.inj _ _ (by rw[g.nb];exact l.bl _ (wW f)) b a;grind
 .have e:=e;have e1:=jQ (d:=0) (List.getElem?_eq_getElem e);have a:Γ.cur (rs.getD r 0)=Γ.β i:=a;rw[e1]at a;have k:=l.rl _ (wW e);have c:Γ.sz (rs.getD r 0)≠0:=c;rw[e1]at c;exact(g.row _ _ (List.getElem?_eq_getElem k)).nbx c i b a.symm
theorem qu4(n:qfW σ bs rs)(f:Inv Γ σ w){r}(h:fi rs Γ.nr r=none)(k:Γ.sz r≠0):¬ Jg (JT Γ bs rs) (Γ.cur r)/\Γ.cur r<w.heap.size:=by
 let⟨c,m⟩:=qcR h;have l:r<σ.rw.length:=by rw[<-f.nr];exact c
 refine⟨?_,f.cur_lt c k⟩;have o:=(f.row _ _ (List.getElem?_eq_getElem l)).nbx k;rintro(⟨j,i,b⟩|⟨q,g,a,b⟩)
 .have i:=i;have e1:=jQ (d:=0) (List.getElem?_eq_getElem i);have b:Γ.β (bs.getD j 0)=Γ.cur r:=b;rw[e1]at b;exact o _ (by rw[f.nb];exact n.bl _ (wW i)) b
 .have g:=g;have e1:=jQ (d:=0) (List.getElem?_eq_getElem g);have b:Γ.cur (rs.getD q 0)=Γ.cur r:=b;rw[e1]at b;have a:Γ.sz (rs.getD q 0)≠0:=a;rw[e1]at a;refine f.apart _ _ (by rw[f.nr];exact n.rl _ (wW g)) c (λ e=>m (e▸wW g)) a k b
theorem qi8(a:Ext (JT Γ bs rs) w Γs w'){b b'}(e:Jg Γs b)(d:¬ Jg (JT Γ bs rs) b'/\b'<w.heap.size):b≠b':=λ c=>by
 obtain h|h:=a.own b e
 .exact d.1 (c▸h)
 .omega
theorem qEi(t:qfW σ bs rs)(g:Inv Γ σ w)(s:Ext (JT Γ bs rs) w Γs w')(v:Inv Γs σs w'):Inv (QM Γ Γs bs rs) (qhR σ bs rs σs) w':=by
 have ag:bs.length<=Γs.nb:=s.le.nb;have af:rs.length<=Γs.nr:=s.le.nr;have U:bs.length<=(σs.bx.map (qZ (yd bs σ.bx.length) (yd rs σ.rw.length))).length:=by rw[wE,<-v.nb];exact ag
 have O:rs.length<=σs.rw.length:=by rw[<-v.nr];exact af
 have X:=qHt t g s;have E:∀j,j<Γs.nb->Jg Γs (Γs.β j):=λ j v=>.inl ⟨j,v,rfl⟩;have D:∀j,j<Γs.nr->Γs.sz j≠0->Jg Γs (Γs.cur j):=λ j v F=>.inr ⟨j,v,F,rfl⟩
 have q:∀i j,i<(QM Γ Γs bs rs).nb->fi bs Γ.nb i=some j->j<Γs.nb:=λ i j l h=>by
  have:=qCO h l;omega
 have C:∀i j,i<(QM Γ Γs bs rs).nr->fi rs Γ.nr i=some j->j<Γs.nr:=λ i j l h=>by
  have:=qCO h l;omega
 have p:∀i j,fi bs Γ.nb i=some j->(QM Γ Γs bs rs).β i=Γs.β j:=λ i j h=>by
  show(match fi bs Γ.nb i with|some j=>Γs.β j|none=>Γ.β i)=_;rw[h]
 have y:∀i,fi bs Γ.nb i=none->(QM Γ Γs bs rs).β i=Γ.β i:=λ i h=>by
  show(match fi bs Γ.nb i with|some j=>Γs.β j|none=>Γ.β i)=_;rw[h]
 have cs':∀i j,fi rs Γ.nr i=some j->(QM Γ Γs bs rs).cur i=Γs.cur j:=λ i j h=>by
  show(match fi rs Γ.nr i with|some j=>Γs.cur j|none=>Γ.cur i)=_;rw[h]
 have S:∀i,fi rs Γ.nr i=none->(QM Γ Γs bs rs).cur i=Γ.cur i:=λ i h=>by
  show(match fi rs Γ.nr i with|some j=>Γs.cur j|none=>Γ.cur i)=_;rw[h]
 have B:∀b,(¬ Jg (JT Γ bs rs) b/\b<w.heap.size)->w'.heap[b]?=w.heap[b]?:=λ b M=>s.block b M.2 M.1
 have A:∀b o,(¬ Jg (JT Γ bs rs) b/\b<w.heap.size)->Γ.mem b o=none->Γs.mem b o=none:=λ b o M hm=>by
  cases h:Γs.mem b o with
  |none=>rfl
  |some u=>
    rcases s.memg b o u h with n|n|n
    .have n:Γ.mem b o=some u:=n;rw[hm]at n;cases n
    .exact absurd n M.1
    .omega
 refine⟨?_,?_,v.mem,?_,?_,?_,?_,?_⟩
 .show Γ.nb+(Γs.nb-bs.length)=(z8 _ _ _).length;rw[qfn _ _ _ U,wE,g.nb,v.nb]
 .show Γ.nr+(Γs.nr-rs.length)=(z8 _ _ _).length;rw[qfn _ _ _ O,g.nr,v.nr]
 .intro i cs f;have f:(z8 σ.bx bs (σs.bx.map (qZ (yd bs σ.bx.length) (yd rs σ.rw.length))))[i]?=some cs:=f;rw[qaQ _ _ _ _ U t.bn t.bl,<-g.nb,<-g.nr]at f;cases h:fi bs Γ.nb i with
  |some j=>
    rw[h]at f;simp only at f;rw[List.getElem?_map]at f;cases M:σs.bx[j]? with
    |none=>rw[M]at f;cases f
    |some ai=>
      rw[M]at f;simp at f;rw[<-f,qs8];exact(v.box j ai M).to _ (λ o ho=>by rw[p i j h];exact ho) (λ x u P _=>qpp t g s P) λ x=>qsP _ _ x
  |none=>
    rw[h]at f;exact(g.box i cs f).to' (λ o ho=>by rw[y i h,B _ (qlV t g h)];exact ho) λ x u s _=>s.mono X
 .intro i H n Z m;cases h:fi bs Γ.nb i with
  |some j=>
    rw[p i j h]at m;cases a:fi bs Γ.nb H with
    |some d=>
      rw[p H d a]at m;have:=v.inj j d (q i j n h) (q H d Z a) m;subst this;exact qMs h a
    |none=>
      rw[y H a]at m;exact absurd m (qi8 s (E j (q i j n h)) (qlV t g a))
  |none=>
    rw[y i h]at m;cases a:fi bs Γ.nb H with
    |some d=>
      rw[p H d a]at m;exact absurd m.symm (qi8 s (E d (q H d Z a)) (qlV t g h))
    |none=>
      rw[y H a]at m;exact g.inj i H (qcR h).1 (qcR a).1 m
 .intro i n o;cases h:fi bs Γ.nb i with
  |some j=>rw[p i j h];exact v.boxmem j (q i j n h) o
  |none=>rw[y i h];exact A _ o (qlV t g h) (g.boxmem i (qcR h).1 o)
 .intro r R N;have N:(z8 σ.rw rs σs.rw)[r]?=some R:=N
  have ad:r<(QM Γ Γs bs rs).nr:=by
   have:=getElem?_lt N;rw[qfn _ _ _ O,<-g.nr,<-v.nr]at this;exact this
  rw[qaQ _ _ _ _ O t.rn t.rl,<-g.nr]at N;cases h:fi rs Γ.nr r with
  |some j=>
    rw[h]at N;obtain⟨k,ab,pos,ac,pl,fz,g2,g4,g5,g6,g8,g9⟩:=v.row j R N
    have aa:∀{x u e},e∈R.c->x∈e->Rep Γs x u->Rep (QM Γ Γs bs rs) x u:=λ m P G=>by
     obtain⟨e1,e2,e3⟩:=qg8 (pl _ m _ P);have:=qpp t g s G;rw[e1]at this;exact this
    have ek:(QM Γ Γs bs rs).k r=Γs.k j:=by show(match fi rs Γ.nr r with|some j=>Γs.k j|none=>Γ.k r)=_;rw[h]
    have ah:(QM Γ Γs bs rs).ver r=Γs.ver j:=by show(match fi rs Γ.nr r with|some j=>Γs.ver j|none=>Γ.ver r)=_;rw[h]
    have I:(QM Γ Γs bs rs).sz r=Γs.sz j:=by show(match fi rs Γ.nr r with|some j=>Γs.sz j|none=>Γ.sz r)=_;rw[h]
    have J:(QM Γ Γs bs rs).of r=Γs.of j:=by show(match fi rs Γ.nr r with|some j=>Γs.of j|none=>Γ.of r)=_;rw[h]
    have K:=cs' r j h;refine⟨k.trans ek.symm,λ hl=>(ab hl).trans ah.symm,pos,ac,pl,fz,by rw[K,I];exact g2,by rw[I,J];exact g4,by rw[K,I,J];exact g5,λ i e d x l Y=>?_,λ F i l=>?_,λ hf=>J.trans (g9 hf)⟩
    .obtain⟨u,hu,G,n⟩:=g6 i e d x l Y;exact⟨u,by rw[K,J];exact hu,aa (wb l) (wb Y) G,n⟩
    .rw[I]at F;rw[K];cases a:fi bs Γ.nb i with
     |some d=>rw[p i d a];exact g8 F d (q i d l a)
     |none=>
       rw[y i a];intro m;exact qi8 s (D j (C r j ad h) F) (qlV t g a) m.symm
  |none=>
    rw[h]at N;have Q:=qu4 t g h;have V:=(qcR h).1;refine(g.row r R N).lift V X ?_ (λ F ob ae=>?_) (λ F off hm=>?_) λ F i l hn=>?_
    .show(match fi rs Γ.nr r with|some j=>Γs.ver j|none=>Γ.ver r)=_;rw[h]
    .rw[B _ (Q F)];exact ae
    .exact A _ off (Q F) hm
    .cases a:fi bs Γ.nb i with
     |some d=>
       rw[p i d a];exact qi8 s (E d (q i d l a)) (Q F)
     |none=>
       have:=(qcR a).1;omega
 .intro r z n Z W T L
  have zs:∀i j,fi rs Γ.nr i=some j->(QM Γ Γs bs rs).sz i=Γs.sz j:=λ i j h=>by
   show(match fi rs Γ.nr i with|some j=>Γs.sz j|none=>Γ.sz i)=_;rw[h]
  have zn:∀i,fi rs Γ.nr i=none->(QM Γ Γs bs rs).sz i=Γ.sz i:=λ i h=>by
   show(match fi rs Γ.nr i with|some j=>Γs.sz j|none=>Γ.sz i)=_;rw[h]
  cases h:fi rs Γ.nr r with
  |some j=>
    rw[zs r j h]at T;rw[cs' r j h];cases a:fi rs Γ.nr z with
    |some d=>
      rw[zs z d a]at L;rw[cs' z d a];refine v.apart j d (C r j n h) (C z d Z a) (λ m=>?_) T L;subst m;exact W (qMs h a)
    |none=>
      rw[zn z a]at L;rw[S z a];exact qi8 s (D j (C r j n h) T) (qu4 t g a L)
  |none=>
    rw[zn r h]at T;rw[S r h];cases a:fi rs Γ.nr z with
    |some d=>
      rw[zs z d a]at L;rw[cs' z d a];exact λ m=>qi8 s (D d (C z d Z a) L) (qu4 t g h T) m.symm
    |none=>
      rw[zn z a]at L;rw[S z a];exact g.apart r z (qcR h).1 (qcR a).1 W T L
theorem qFp(f:qfW σ bs rs)(g:Inv Γ σ w)(c:Ext (JT Γ bs rs) w Γs w'):Ext Γ w (QM Γ Γs bs rs) w':=by
 have p:bs.length<=Γs.nb:=c.le.nb;have n:rs.length<=Γs.nr:=c.le.nr;refine⟨qHt f g c,c.os,c.tape,c.output,c.size,λ b l q=>c.block b l λ h=>q (qsD f g h),?_,λ b o u s=>?_,c.drawn⟩
 .have e:=λ b l=>(c.own b l).imp_left (qsD f g);rintro b (⟨i,k,a⟩|⟨r,m,d,a⟩)
  .have a:(match fi bs Γ.nb i with|some j=>Γs.β j|none=>Γ.β i)=b:=a;cases h:fi bs Γ.nb i with
   |some j=>
     rw[h]at a;have:=qCO h k;exact e b (.inl ⟨j,by omega,a⟩)
   |none=>rw[h]at a;exact .inl (.inl ⟨i,(qcR h).1,a⟩)
  .have a:(match fi rs Γ.nr r with|some j=>Γs.cur j|none=>Γ.cur r)=b:=a;have d:(match fi rs Γ.nr r with|some j=>Γs.sz j|none=>Γ.sz r)≠0:=d;cases h:fi rs Γ.nr r with
   |some j=>
     rw[h]at a d;have:=qCO h m;exact e b (.inr ⟨j,by omega,d,a⟩)
   |none=>rw[h]at a d;exact .inl (.inr ⟨r,(qcR h).1,d,a⟩)
 .obtain h|h|h:=c.memg b o u s
  .exact .inl h
  .exact .inr (.inl (qsD f g h))
  .exact .inr (.inr h)
mutual
theorem qQu{fb fr e d:Nat->Nat}:∀x:AV,(∀b∈rb x,e (fb b)=b)->(∀r∈rr x,d (fr r)=r)->ren e d (ren fb fr x)=x
 |.ptr b o,c,_|.mp b,c,_=>by simp only[ren,c b (by simp[rb])]
 |.mc ..,_,_=>rfl
 |.rs r lo n g f,_,a|.rpt r i o g,_,a=>by simp only[ren,a r (by simp[rr])]
 |.fn f cs,c,a|.agg cs,c,a|.tup cs,c,a=>by simp only[ren,qjK cs (by simpa[rb]using c) (by simpa[rr]using a)]
 |.v _,_,_|.dead,_,_|.sl ..,_,_|.ept ..,_,_=>rfl
theorem qjK{fb fr e d:Nat->Nat}:∀cs:List AV,(∀b∈rbL cs,e (fb b)=b)->(∀r∈rrL cs,d (fr r)=r)->qZ e d (qZ fb fr cs)=cs
 |[],_,_=>rfl
 |x::cs,c,a=>by
   simp only[qZ,qQu x (λ b h=>c b (by simp[rbL,h])) (λ r h=>a r (by simp[rrL,h])),qjK cs (λ b h=>c b (by simp[rbL,h])) (λ r h=>a r (by simp[rrL,h]))]
end
theorem qDa(c:qfW σ bs rs):(qhR σ bs rs (qQ σ bs rs)).bx=σ.bx/\(qhR σ bs rs (qQ σ bs rs)).rw=σ.rw:=by
 constructor
 .apply kY;intro i;show(z8 σ.bx bs ((qQ σ bs rs).bx.map _))[i]?=_;rw[qaQ _ _ _ _ (by simp[qQ]) c.bn c.bl];cases h:fi bs σ.bx.length i with
  |none=>rfl
  |some j=>
    simp only;by_cases e:i<σ.bx.length
    .let⟨l,o,n,m⟩:=qhZ h e
     have k:bs[j]?=some i:=by
      grind
     simp only[qQ,xe,List.getElem?_map,k,k8,Function.comp];rw[List.getElem?_eq_getElem e,jQ (List.getElem?_eq_getElem e)];congr 1;have g:=c.cb i l;rw[jQ (List.getElem?_eq_getElem e)]at g;refine qjK _ (λ b a=>?_) λ r d=>?_
     .rw[qsw]at a;let⟨x,f,a⟩:=kh.1 a;exact qpN ((g x f).1 b a)
     .rw[qod]at d;let⟨x,f,d⟩:=kh.1 d;exact qpN ((g x f).2 r d)
    .grind [fi,qQ]
 .apply kY;intro i;show(z8 σ.rw rs (qQ σ bs rs).rw)[i]?=_;rw[qaQ _ _ _ _ (by simp[qQ]) c.rn c.rl];grind [qQ,fi]
theorem qJL(a:qfW σ bs rs)(e:qO (qQ σ bs rs) σs):qO σ (qhR σ bs rs σs):=by
 have m:(qQ σ bs rs).bx.length=bs.length:=by simp[qQ]
 have f:(qQ σ bs rs).rw.length=rs.length:=by simp[qQ]
 have d:bs.length<=(σs.bx.map (qZ (yd bs σ.bx.length) (yd rs σ.rw.length))).length:=by rw[wE,<-m];exact e.bl
 have c:rs.length<=σs.rw.length:=by rw[<-f];exact e.rl
 let⟨e1,r⟩:=qDa a;refine⟨?_,?_,λ i l g=>?_,λ i l g=>?_,λ i h=>xY _ h,λ i h=>xY _ h⟩
 .show _<=(z8 _ _ _).length;rw[qfn _ _ _ d];omega
 .show _<=(z8 _ _ _).length;rw[qfn _ _ _ c];omega
 .have b:=λ h=>g (vg _ h);rw[<-e1];show(z8 _ _ _)[i]?=(z8 _ _ _)[i]?;rw[qaQ _ _ _ _ d a.bn a.bl,qaQ _ _ _ _ (by grind) a.bn a.bl];cases h:fi bs σ.bx.length i with
  |none=>rfl
  |some j=>
    simp;let⟨o,n,q,p⟩:=qhZ h l;rw[e.bx j (by omega) λ k=>b (wC.2 ⟨j,k,by rw[n];exact qpN o⟩)]
 .have b:=λ h=>g (vg _ h);rw[<-r];show(z8 _ _ _)[i]?=(z8 _ _ _)[i]?;rw[qaQ _ _ _ _ c a.rn a.rl,qaQ _ _ _ _ (by omega) a.rn a.rl];cases h:fi rs σ.rw.length i with
  |none=>rfl
  |some j=>
    simp only;let⟨o,n,q,p⟩:=qhZ h l;rw[e.rw j (by omega) λ k=>b (wC.2 ⟨j,k,by rw[n];exact qpN o⟩)]
theorem qLG{a}(h:qgF σ a=true):qfW σ (QH σ a) (qbE σ a)/\(∀b∈rbL a,b∈QH σ a)/\∀r∈rrL a,r∈qbE σ a:=by
 simp[qgF,wc,ww,decide_eq_true_eq,List.contains_eq_mem]at h;let⟨⟨⟨⟨⟨m,l⟩,k⟩,j⟩,e⟩,i⟩:=h;refine⟨⟨qup m,qup l,λ b c=>(e b c).1.1,i,λ b c x f=>⟨λ n d=>?_,λ r g=>?_⟩⟩,k,j⟩
 .refine(e b c).1.2 n ?_;rw[qsw];exact kh.2 ⟨x,f,d⟩
 .refine(e b c).2 r ?_;rw[qod];exact kh.2 ⟨x,f,g⟩
end
end Go.AmZ
namespace Go.AmZ
open Go Go.RowKit
theorem qC2{P:Program}{u:TypeDesc}{c:List KC}{d b:Bool}{f:Nat}{a:List Value}(h:qbb P u=some (.map c d b f a)):∃k e i z,u=.map k e/\qkc P k=some (c,d)/\P.info? e=some i/\i.zero=some z/\qSj z=b/\z.cells.toList=a:=by
 cases u with
 |map k e=>
   have h:qw5 P k e=_:=h;unfold qw5 at h;grind
 |_=>simp[qbb]at h<;>(repeat' (first|(cases h;done)|split at h))
def JM:AV->Value
 |.v x=>x
 |_=>.nilIface
def Jj(a:Bool)(k:List AV):Value:=match a with
 |true=>.agg (k.map JM).toArray
 |false=>match k with
   |[x]=>JM x
   |_=>.nilIface
def KOk(a:List KC)(b:Bool)(k:List AV):Prop:=yn a k=true/\(b=false->∃c,a=[c])
theorem qeD{c:KC}{a:List KC}{k:List AV}(h:yn (c::a) k=true):∃x r,k=x::r/\yn [c] [x]=true/\yn a r=true:=by
 cases k with
 |nil=>cases c<;>cases h
 |cons x r=>
   refine⟨x,r,rfl,?_⟩;unfold yn at h;split at h<;>rename_i e1 b<;>first|(cases e1;done)|skip
   all_goals first|(cases e1;cases b;first|(rw[wc]at h;exact⟨by simp[yn];simpa using h.1,h.2⟩)|exact⟨rfl,h⟩)|cases h
theorem qSO{c:KC}{x:AV}(h:yn [c] [x]=true):x=.v (JM x):=by
 cases c<;>cases x<;>first|rfl|cases h
theorem qvX:∀(b:List KC) (k:List AV),yn b k=true->∀x∈k,x=.v (JM x)
 |[],[],_,x,a=>by cases a
 |[],_::_,h,_,_=>by cases h
 |c::b,k,h,x,a=>by
   obtain⟨y,r,rfl,e,d⟩:=qeD h;obtain rfl|a:=wv.1 a
   .exact qSO e
   .exact qvX b r d x a
theorem qfs{c:KC}{k:List AV}(h:yn [c] k=true):∃x,k=[.v x]:=by
 obtain⟨x,r,rfl,b,a⟩:=qeD h;cases r with
 |nil=>exact⟨_,by rw[<-qSO b]⟩
 |cons y r=>cases a
theorem qzU{Γ:Gh}{f:List KC}{a:Bool}{k:List AV}{u:Value}(d:KOk f a k)(h:Rep Γ (QB a k) u):u=Jj a k:=by
 cases a with
 |true=>
   have h:Rep Γ (.agg k) u:=h;cases h with
   |agg _ us m n g=>
     show Value.agg us.toArray=.agg (k.map JM).toArray;congr 2;apply kY;intro i;rw[List.getElem?_map];by_cases j:i<k.length
     .have b:=List.getElem?_eq_getElem j;have e:=List.getElem?_eq_getElem (l:=us) (i:=i) (by omega);rw[b,e];have:=g i _ _ b e;rw[qvX _ _ d.1 _ (wb b)]at this;exact congrArg some (zp this)
     .grind
 |false=>
   obtain⟨c,rfl⟩:=d.2 rfl;obtain⟨x,rfl⟩:=qfs d.1;have h:Rep Γ (.v x) u:=h;cases h;rfl
section
variable {P:Program} (w:World)
theorem qtn{t:TypeId}{c:KC}(h:kc1 P t=some c):P.underlying t=some (match c with|.str=>.string|.int k=>.int k|.bool=>.bool):=by
 unfold kc1 at h;grind
theorem qmy{t:TypeId}{a:List KC}(h:qkc P t=some (a,false)):∃c,a=[c]/\kc1 P t=some c:=by
 grind [qkc]
theorem qu2{t:TypeId}{a:List KC}(h:qkc P t=some (a,true)):∃b,P.underlying t=some (.struct b)/\P.stoodInHeld t=false/\kcs P b.toList 0=some a:=by
 grind [qkc]
theorem qzM{t:TypeId}{a:List KC}{b:Bool}{k:List AV}(h:qkc P t=some (a,b))(d:yn a k=true):KOk a b k:=⟨d,λ e=>by subst e;let⟨c,h1,_⟩:=qmy h;exact⟨c,h1⟩⟩
theorem qHF{t:TypeId}{c:KC}(h:kc1 P t=some c){x y:AV}(f:yn [c] [x]=true)(d:yn [c] [y]=true)(n:Nat):(Op.equalIn (n+1) t (JM x) (JM y)).run P w=.ok (qfb x y) w/\Instr.sameNow ((P.underlying t).getD .bool) (JM x) (JM y)=some (qfb x y)/\(qfb x y=true->x=y):=by
 have g:=qtn h;let⟨a,j⟩:=qfs f;let⟨b,i⟩:=qfs d;cases j;cases i;cases c with
 |str=>
   cases a<;>simp[yn]at f;cases b<;>simp[yn]at d;rename_i a b;refine⟨?_,?_,λ e=>?_⟩
   .show(Op.equalIn (n+1) t (.string a) (.string b)).run P w=_;rw[run_equalIn_string w n t a b g,toList_eq,toList_eq];rfl
   .rw[g];show some (a==b)=some (xeq a b);rw[beq_toListBytes,toList_eq,toList_eq];rfl
   .have:a.data.toList=b.data.toList:=by simpa[qfb,xeq]using e
    let⟨⟨a⟩⟩:=a;let⟨⟨b⟩⟩:=b;cases this;rfl
 |int k=>
   cases a with
   |int l a=>?_
   |_=>cases f
   cases b with
   |int kb b=>?_
   |_=>cases d
   simp[yn]at f d;subst f;subst d;refine⟨run_equalIn_int w n t _ _ a b g,?_,λ e=>?_⟩
   .rw[g];simp[Instr.sameNow,JM,qfb,ieq]
   .have:a=b:=by simpa[qfb,ieq]using e
    rw[this]
 |bool=>
   cases a<;>simp[yn]at f;cases b<;>simp[yn]at d;rename_i a b;refine⟨run_equalIn_bool w n t a b g,?_,λ e=>?_⟩
   .rw[g];rfl
   .have:a=b:=by simpa[qfb,Q7]using e
    rw[this]
theorem qw8{t:TypeId}{c:KC}(h:kc1 P t=some c){x:AV}(b:yn [c] [x]=true)(f:Bool)(n:Nat):(Instr.checkKey f (n+1) t (JM x)).run P w=.ok () w:=by
 have d:=qtn h;let⟨a,e⟩:=qfs b;cases e;unfold Instr.checkKey;cases c<;>cases a<;>simp[yn]at b<;>simp[run_underlying d,Result.andThen,JM]
theorem qBq{c:KC}{x:AV}(b:yn [c] [x]=true)(n:Nat):Instr.sameBits n (JM x) (JM x)=true:=by
 let⟨a,d⟩:=qfs b;cases d;cases c<;>cases a<;>simp[yn]at b<;>simp[Instr.sameBits,JM,MapKept.bytes_beq]
theorem qse{t:TypeId}{c:KC}(h:kc1 P t=some c){cs:Array Value}{o:Nat}{v:Value}(a:cs[o]?=some v):(part t cs o).run P w=.ok v w:=by
 have b:=qtn h;have:(isAgg t).run P w=.ok false w:=by cases c<;>simp[isAgg,underlying,b]
 simp[part,this,a]
theorem qAy:∀(k:List Field) (o:Nat) (d:List KC) (a b:List AV) (xs ys:Array Value) (n:Nat),kcs P k o=some d->yn d a=true->yn d b=true->(∀j x,a[j]?=some x->xs[o+j]?=some (JM x))->(∀j x,b[j]?=some x->ys[o+j]?=some (JM x))->
  (Op.eqFields (n+1) xs ys k).run P w=.ok (jz a b) w/\(jz a b=true->a=b)
 |[],o,d,a,b,xs,ys,n,h,s,r,_,_=>by
   cases h;cases a<;>cases b<;>first|exact⟨rfl,λ _=>rfl⟩|(cases s;done)|(cases r;done)
 |f::k,o,d,a,b,xs,ys,n,h,s,r,i,g=>by
   simp only[kcs]at h;split at h<;>cases h;rename_i c l D t C;let⟨B,A⟩:=of_decide_eq_true D;obtain⟨x,K,rfl,J,I⟩:=qeD s;obtain⟨y,H,rfl,G,F⟩:=qeD r;have p:=qse w t (i 0 x rfl);have m:=qse w t (g 0 y rfl);let⟨e1,_,E⟩:=qHF w t J G n;let⟨z,v⟩:=qAy k (o+1) l K H xs ys n C I F (λ j x q=>by rw[vt];exact i (j+1) x q) (λ j x q=>by rw[vt];exact g (j+1) x q);rw[wO]at p m;rw[<-B]at p m;refine⟨?_,λ e=>?_⟩
   .rw[Op.eqFields,if_pos A];simp only[Sem.run_bind,p,m,e1,Result.andThen_ok,Sem.run_ite];cases u:qfb x y with
    |true=>simp only[wav,xx,if_false,z,jz,u,wV]
    |false=>simp only[xZ,if_true,Sem.run_pure,jz,u,kN]
   .simp only[jz,wc]at e;rw[E e.1,v e.2]
theorem qrr:∀(g:List Field) (o:Nat) (e:List KC) (a:List AV) (xs:Array Value) (d:Bool) (n:Nat),kcs P g o=some e->yn e a=true->(∀j x,a[j]?=some x->xs[o+j]?=some (JM x))->
  (forIn (m:=Sem) g PUnit.unit λ f _=>do
   if f.name≠"_" then Instr.checkKey d (n+1) f.type (<-part f.type xs f.offset)
   pure (ForInStep.yield PUnit.unit)).run P w=.ok PUnit.unit w
 |[],o,e,a,xs,d,n,h,i,_=>rfl
 |f::g,o,e,a,xs,d,n,h,i,b=>by
   simp only[kcs]at h;split at h<;>cases h;rename_i c l t k s;let⟨r,z⟩:=of_decide_eq_true t;obtain⟨x,y,rfl,v,u⟩:=qeD i;have p:=qse w k (b 0 x rfl);rw[wO,<-r]at p;have e1:=qw8 w k v d n;have:=qrr g (o+1) l y xs d n s u λ j x q=>by rw[vt];exact b (j+1) x q
   simp_all
theorem qmT{t:TypeId}{a:List KC}{b:Bool}{k:List AV}(h:qkc P t=some (a,b))(d:yn a k=true)(f:Bool)(n:Nat):(Instr.checkKey f (n+2) t (Jj b k)).run P w=.ok () w:=by
 cases b with
 |false=>
   obtain⟨c,rfl,e⟩:=qmy h;obtain⟨x,rfl⟩:=qfs d;exact qw8 w e d f (n+1)
 |true=>
   let⟨l,e,m,i⟩:=qu2 h;have:=qrr w l.toList 0 a k (k.map JM).toArray f n i d λ j x g=>by simp[g]
   unfold Instr.checkKey;simp only[Sem.run_bind,run_underlying e,Result.andThen_ok,Jj];simp_all
theorem qPv{t:TypeId}{a:List KC}{b:Bool}{k:List AV}(h:qkc P t=some (a,b))(d:yn a k=true):(Instr.keyThatStays (Jj b k) (Jj b k)).run P w=.ok (Jj b k) w:=by
 have all:∀(a:List KC) (k:List AV) (n:Nat),yn a k=true->((k.map JM).zip (k.map JM)).all (λ p=>Instr.sameBits n p.1 p.2)=true:=by
  intro a
  induction a with
  |nil=>intro k n d;cases k<;>first|rfl|cases d
  |cons c a e=>
    intro k n d;obtain⟨x,r,rfl,i,g⟩:=qeD d;simp only[wk,List.zip_cons_cons,wX,qBq i,wV];exact e r n g
 have f:Instr.sameBits 10000 (Jj b k) (Jj b k)=true:=by
  cases b with
  |false=>
    obtain⟨c,rfl,j⟩:=qmy h;obtain⟨x,rfl⟩:=qfs d;exact qBq d _
  |true=>
    show((k.map JM).toArray.size==(k.map JM).toArray.size&&((k.map JM).zip (k.map JM)).all λ p=>Instr.sameBits 9999 p.1 p.2)=true;rw[all a k 9999 d];simp
 simp[Instr.keyThatStays,f]
theorem qIr{t:TypeId}{n:List KC}{d:Bool}{k:List AV}(h:qkc P t=some (n,d))(p:yn n k=true):∀(ks:List (List AV)) (g:List MapEntry) (i:Nat),g.length=ks.length->(∀(j:Nat) (l:List AV) (e:MapEntry),ks[j]?=some l->g[j]?=some e->e.key=Jj d l/\yn n l=true)->
  (JU k ks i=none/\(if d then(Instr.findAsking t (Jj d k) g i).run P w=.ok none w else Instr.findNow ((P.underlying t).getD .bool) (Jj d k) g i=some none))\/
  ∃j e,JU k ks i=some (i+j)/\g[j]?=some e/\e.key=Jj d k/\(if d then(Instr.findAsking t (Jj d k) g i).run P w=.ok (some (i+j,e.val)) w else Instr.findNow ((P.underlying t).getD .bool) (Jj d k) g i=some (some (i+j,e.val)))
 |[],g,i,m,_=>by
   have:g=[]:=wi m;subst this;refine .inl ⟨rfl,?_⟩;cases d<;>rfl
 |l::ks,[],i,m,_=>by simp at m
 |l::ks,e::g,i,m,B=>by
   let⟨E,z⟩:=B 0 l e rfl rfl;have K:=qIr h p ks g (i+1) (by simpa using m) λ j u A a b=>B (j+1) u A a b
   have f:(if d then(Op.equal t (Jj d k) e.key).run P w=.ok (jz k l) w else Instr.sameNow ((P.underlying t).getD .bool) (Jj d k) e.key=some (jz k l))/\(jz k l=true->k=l):=by
    rw[E];cases d with
    |false=>
      obtain⟨c,rfl,s⟩:=qmy h;obtain⟨x,rfl⟩:=qfs p;obtain⟨y,rfl⟩:=qfs z;let⟨_,e1,O⟩:=qHF w s p z 0;refine⟨?_,λ D=>?_⟩
      .simp only[xx,if_false];rw[jz,jz,xg];exact e1
      .rw[jz,jz,xg]at D;rw[O D]
    |true=>
      let⟨F,s,M,L⟩:=qu2 h;have C:P.fieldsOf t=F:=by unfold Program.fieldsOf;rw[s]
      let⟨J,I⟩:=qAy w F.toList 0 n k l (k.map JM).toArray (l.map JM).toArray 9998 L p z (λ j x v=>by simp[v]) (λ j x v=>by simp[v]);refine⟨?_,I⟩;simp only[if_true];show(Op.equalIn (9999+1) t (.agg _) (.agg _)).run P w=_;rw[run_equalIn_struct w 9999 t _ _ (by rw[C];exact s) M,C];exact J
   cases q:jz k l with
   |true=>
     rw[q]at f;refine .inr ⟨0,e,by simp[JU,q],rfl,by rw[E,f.2 rfl],?_⟩;cases d with
     |false=>have:=f.1;simp only[xx,if_false]at this |-;simp[Instr.findNow,this]
     |true=>have:=f.1;simp only[if_true]at this |-;simp[Instr.findAsking,this]
   |false=>
     rw[q]at f;have N:JU k (l::ks) i=JU k ks (i+1):=by simp[JU,q]
     have R:∀r,(if d then(Instr.findAsking t (Jj d k) g (i+1)).run P w=.ok r w else Instr.findNow ((P.underlying t).getD .bool) (Jj d k) g (i+1)=some r)->(if d then(Instr.findAsking t (Jj d k) (e::g) i).run P w=.ok r w else Instr.findNow ((P.underlying t).getD .bool) (Jj d k) (e::g) i=some r):=by
      intro r o;cases d with
      |false=>have:=f.1;simp only[xx,if_false]at this o |-;simp[Instr.findNow,this,o]
      |true=>have:=f.1;simp only[if_true]at this o |-;simp[Instr.findAsking,this,o]
     obtain⟨H,G⟩|⟨j,A,H,G,Q,S⟩:=K
     .grind
     .refine .inr ⟨j+1,A,by rw[N,H];congr 1;omega,G,Q,?_⟩;grind
theorem qyj{t:TypeId}{i:List KC}{b:Bool}{k:List AV}(h:qkc P t=some (i,b))(r:yn i k=true){ks:List (List AV)}{a:List MapEntry}(p:a.length=ks.length)(s:∀(j:Nat) (l:List AV) (e:MapEntry),ks[j]?=some l->a[j]?=some e->e.key=Jj b l/\yn i l=true):
  (JU k ks 0=none/\(Instr.findKey t (Jj b k) a).run P w=.ok none w)\/∃j e,JU k ks 0=some j/\a[j]?=some e/\e.key=Jj b k/\(Instr.findKey t (Jj b k) a).run P w=.ok (some (j,e.val)) w:=by
 have d:=qIr w h r ks a 0 p s;cases b with
 |false=>
   obtain⟨c,rfl,g⟩:=qmy h;have m:=qtn g;simp only[xx,if_false,wG]at d;rw[m]at d;obtain⟨o,n⟩|⟨j,e,o,n,v,u⟩:=d
   .exact .inl ⟨o,MapKept.run_findKey m n⟩
   .exact .inr ⟨j,e,o,n,v,MapKept.run_findKey m u⟩
 |true=>
   let⟨z,g,y,x⟩:=qu2 h;simp only[if_true,wG]at d
   have q:∀e f,a=e::f->(Instr.findKey t (Jj true k) a).run P w=(Instr.findAsking t (Jj true k) a 0).run P w:=by
    rintro e f rfl;simp[Instr.findKey,run_underlying g,Result.andThen,Instr.findNow,Instr.sameNow]
   cases a with
   |nil=>
     have:ks=[]:=wi p.symm;subst this;exact .inl ⟨rfl,by simp[Instr.findKey,run_underlying g,Result.andThen,Instr.findNow]⟩
   |cons e a=>
     rw[q e a rfl];exact d
end
section
variable {P:Program}{C:Cfg}{Γ:Gh}{σ:St}{w:World}{o:Oper}{tm:List AV}{ρ:Operand->Value}{x:AV}{σ':Option St}
theorem qfo{a b:Bool}(h:Q7 a b=true):a=b:=by cases a<;>cases b<;>first|rfl|cases h
theorem qsj{c:List KC}{d a:Bool}{y:AV}{b:Nat}{ks vs:List (List AV)}(h:qpf σ c d a y=some (b,ks,vs)):y=.mp b/\σ.bx[b]?=some [.mc c d a ks vs]:=by
 unfold qpf at h;split at h<;>try cases h
 split at h<;>try cases h
 rename_i f;split at h<;>cases h;rename_i e;rw[wc,wc]at e;let⟨j,i,g⟩:=e;rw[of_decide_eq_true j,qfo i,qfo g]at f;exact⟨rfl,f⟩
theorem qFK{b:Nat}{u:Value}(h:Rep Γ (.mp b) u):u=.map (some (Γ.β b))/\b<Γ.nb:=by cases h;exact⟨rfl,‹_›⟩
theorem qLZ{a:List KC}{b:Bool}{y:AV}(h:qpD a b y=true):yn a (cellsOf y)=true/\QB b (cellsOf y)=y:=by
 unfold qpD at h;rw[wc]at h;refine⟨h.2,?_⟩;rw[<-qfo h.1];cases y with
 |agg cs=>rfl
 |tup vs=>have:=qvX _ _ h.2 (.tup vs) (wD.2 rfl);cases this
 |_=>rfl
theorem qR4{a:Bool}{b:Nat}{y:AV}(h:qwY a b y=true):QB a (cellsOf y)=y/\(cellsOf y).all qv=true:=by
 unfold qwY at h;rw[wc,wc]at h;refine⟨?_,h.2⟩;rw[<-qfo h.1.1];cases y with
 |agg cs|_=>rfl
theorem qdH.keys{i:List KC}{g m:Bool}{ks vs:List (List AV)}{b:Nat}{t:TypeId}(h:qdH Γ w b i g m ks vs)(n:qkc P t=some (i,g)):∃f d,w.heap[b]?=some (.map f d)/\f.size=ks.length/\∀(j:Nat) (k v:List AV) (e:MapEntry),ks[j]?=some k->vs[j]?=some v->f[j]?=some e->qJx Γ i g m k v e/\e.key=Jj g k:=by
 let⟨q,f,d,p,o,l⟩:=h;exact⟨f,d,p,o,λ j k v e a b c=>⟨l j k v e a b c,qzU (qzM n (l j k v e a b c).2.2.1) (l j k v e a b c).1⟩⟩
theorem qFL(k:List AV):∀(ks:List (List AV)) (i j:Nat),JU k ks i=some j->i<=j/\j<i+ks.length
 |[],i,j,h=>by cases h
 |e::a,i,j,h=>by
   simp only[JU]at h;split at h
   .cases h;simp
   .have:=qFL k a (i+1) j h;simp;omega
theorem qIT(m:∀t d,C.ty t=some d->yQ P t=some d)(f:Inv Γ σ w)(t:TypeId)(r:Option Operand)(a:o.op=.makeMap t r)(h:qc C tm σ o.op=some (x,σ')):QK P Γ σ w o ρ x σ':=by
 rw[a]at h;cases r with
 |some r=>simp[qc]at h
 |none=>
   simp only[qc]at h;split at h<;>cases h;rename_i c e b k j l;let⟨Γ',e1,i,g⟩:=qLt f c e b;exact⟨.value (.map (some w.heap.size)),_,_,Γ',by simp[execOp,a,Instr.makeMap],.inl rfl,e1,i,g⟩
theorem qID{f:List KC}{d i:Bool}{ks vs:List (List AV)}{g:Array MapEntry}(l:vs.length=ks.length)(h:∀(j:Nat) (k v:List AV) (e:MapEntry),ks[j]?=some k->vs[j]?=some v->g[j]?=some e->qJx Γ f d i k v e/\e.key=Jj d k):∀(j:Nat) (c:List AV) (e:MapEntry),ks[j]?=some c->g.toList[j]?=some e->e.key=Jj d c/\yn f c=true:=λ j c e a b=>by
 have m:=(List.getElem?_eq_some_iff.1 a).1;have:=h j c _ e a (List.getElem?_eq_getElem (by omega)) (by simpa using b);exact⟨this.2,this.1.2.2.1⟩
theorem qMl(hC:∀t d,C.ty t=some d->yQ P t=some d)(J:Inv Γ σ w)(g:∀y,Rep Γ (aev tm y) (ρ y))(t:TypeId)(m k:Operand)(p:Bool)(E:o.op=.lookup t m k p)(h:qc C tm σ o.op=some (x,σ')):QK P Γ σ w o ρ x σ':=by
 rw[E]at h;simp only[qc]at h;split at h<;>try cases h
 rename_i kc ka M vn V hd;split at h<;>try cases h
 rename_i b ks vs hm R;split at h<;>cases h;rename_i v q i;simp only[wc,decide_eq_true_eq]at R;let⟨hk,⟨hz,_⟩,aa⟩:=R;let⟨H,G⟩:=qsj hm;let⟨r,k2⟩:=qLZ hk;let⟨_,ud,z0,p1,Q,p3,p4,p5,p6,p7,p8⟩:=waJ (hC t _ hd);obtain⟨kt,et,ie,l,rfl,f,Z,Y,X,O⟩:=qC2 p8;have S:qdH Γ w (Γ.β b) kc ka M ks vs:=J.box b _ G;let⟨es,K,T,g2,g3⟩:=S.keys f;have F:=(qFK (H▸g m)).1;have I:=qzU (qzM f r) (k2.symm▸g k)
 have B:Rep Γ (QB M (V.map .v)) l:=by
  let⟨A,U⟩:=qeG (Γ:=Γ) hz;subst X;cases l with
  |agg cs=>subst O;exact .agg _ _ A.len U A.rep
  |_=>subst O;exact A.rep 0 _ _ rfl rfl
 have a:(zeroValue et).run P w=.ok l w:=by simp[zeroValue,typeInfo,Z,Y]
 have c:∃u,(Instr.lookup t (ρ m) (ρ k) p).run P w=.ok (if p then .tuple #[u,.bool q]else u) w/\Rep Γ v u:=by
  rw[F,I];have s:es.toList.length=ks.length:=by simpa using g2
  obtain⟨z,L⟩|⟨j,e,z,L,a3,a4⟩:=qyj w f r s (qID S.len g3)
  .simp only[qtc,z,wB,wL]at i;obtain⟨rfl,rfl⟩:=i;refine⟨l,?_,B⟩;simp[Instr.lookup,run_underlying Q,MapKept.run_getObj_map T,qmT w f r _ 9998,L,a,Result.andThen]
  .simp only[qtc,z]at i;split at i<;>cases i;rename_i W D;have ab:=qFL _ _ _ _ z;let⟨n,_⟩:=g3 j _ W e (List.getElem?_eq_getElem (by omega)) D (by simpa using L);refine⟨e.val,?_,n.2.1⟩;simp[Instr.lookup,run_underlying Q,MapKept.run_getObj_map T,qmT w f r _ 9998,a4,Result.andThen]
 let⟨u,n,N⟩:=c;cases p with
 |false=>exact .val (by simp[execOp,E,n]) J N
 |true=>
   have s:=(waK N (waK (.v (.bool q) rfl) .nil):RepL Γ [v,.v (.bool q)] [u,.bool q])
   exact .val (by simp[execOp,E,n]) J (.tup _ _ s.len s.rep)
theorem qBf(hC:∀t d,C.ty t=some d->yQ P t=some d)(hi:Inv Γ σ w)(n:∀y,Rep Γ (aev tm y) (ρ y))(t:TypeId)(m k y:Operand)(M:o.op=.mapUpdate t m k y\/o.op=.insert t m k y)(h:qcS C tm σ t m k y=some (x,σ')):QK P Γ σ w o ρ x σ':=by
 unfold qcS at h;split at h<;>try cases h
 rename_i S A L vn vz hd;split at h<;>cases h;rename_i b ks vs hm X;rw[wc]at X;let⟨U,G⟩:=qsj hm;let⟨v,k2⟩:=qLZ X.1;let⟨v1,v2⟩:=qR4 X.2;let⟨_,ud,z0,p1,p2,p3,p4,p5,p6,p7,p8⟩:=waJ (hC t _ hd);obtain⟨kt,et,ie,ze,rfl,s,q3,q4,q5,q6⟩:=qC2 p8;have J:qdH Γ w (Γ.β b) S A L ks vs:=hi.box b _ G;let⟨O,a,l,N,g3⟩:=J.keys s;have F:=(qFK (U▸n m)).1;have H:Rep Γ (QB A (cellsOf (aev tm k))) (ρ k):=k2.symm▸n k;have B:Rep Γ (QB L (cellsOf (aev tm y))) (ρ y):=v1.symm▸n y;have q:=qzU (qzM s v) H;have hl:O.toList.length=ks.length:=by simpa using N
 have aa:=(Array.getElem?_eq_some_iff.1 l).1
 have K:∀R,(Instr.mapUpdate t (ρ m) (ρ k) (ρ y)).run P w=.ok () {w with heap:=w.heap.setIfInBounds (Γ.β b) R}->(∀f vs',qhM ks vs (cellsOf (aev tm k)) (cellsOf (aev tm y))=(f,vs')->QE Γ {w with heap:=w.heap.setIfInBounds (Γ.β b) R} b [.mc S A L f vs'])->
   QK P Γ σ w o ρ (.tup []) (some {σ with bx:=σ.bx.set b [.mc S A L (qhM ks vs (cellsOf (aev tm k)) (cellsOf (aev tm y))).1 (qhM ks vs (cellsOf (aev tm k)) (cellsOf (aev tm y))).2],wr:=b::σ.wr}):=by
  intro R D Y;let⟨e1,e2⟩:=qwX hi G (b::σ.wr) _ (Y _ _ rfl) (λ k hk=>(MapKept.heap_set l).2 k hk) rfl rfl rfl (by simp) (wa _);refine⟨.skip,undef,_,Γ,?_,.inr ⟨rfl,rfl⟩,e1,e2,.tup [] [] rfl λ i x u hx=>by simp at hx⟩;obtain M|M:=M<;>simp[execOp,M,D]
 obtain⟨a1,Q⟩|⟨j,e,a1,Q,Z,a4⟩:=qyj w s v hl (qID J.len g3)
 .refine K (.map (O.push {key:=ρ k,val:=ρ y,born:=a}) (a+1)) ?_ λ f vs' E=>?_
  .rw[F];have:=qmT w s v false 9998;rw[<-q]at Q this;simp[Instr.mapUpdate,run_underlying p2,MapKept.run_getObj_map l,this,Q,MapKept.run_setObj_map _ l,Result.andThen]
  .simp only[qhM,a1,wL]at E;obtain⟨rfl,rfl⟩:=E;refine⟨by simp[J.len],_,_,(MapKept.heap_set l).1,by simp[N],λ j T v' e' g c z=>?_⟩;have p:=J.len;by_cases hj:j<ks.length
   .grind
   .have V:j=ks.length:=by
      grind
    subst V;rw[List.getElem?_append_right (wa _),kP]at g;rw[List.getElem?_append_right (by omega),p,kP]at c;rw[<-N,Array.getElem?_push_size]at z;cases g;cases c;cases z;exact⟨H,B,v,v2⟩
 .have r:O[j]?=some e:=by simpa using Q
  refine K (.map (O.modify j λ e=>{e with key:=ρ k,val:=ρ y}) a) ?_ λ f vs' E=>?_
  .rw[F];have g:=qmT w s v false 9998;have c:=qPv w s v;rw[<-q]at a4 g c Z;simp[Instr.mapUpdate,run_underlying p2,MapKept.run_getObj_map l,g,a4,r,Z,c,MapKept.run_setObj_map _ l,Result.andThen]
  .simp only[qhM,a1,wL]at E;obtain⟨rfl,rfl⟩:=E;have p:=J.len;refine⟨by simp[p],_,_,(MapKept.heap_set l).1,by simp[N],λ i T v' e' g c z=>?_⟩;rw[Array.getElem?_modify]at z;rw[List.getElem?_set]at c;by_cases W:j=i
   .subst W;rw[if_pos rfl,r]at z;rw[if_pos rfl]at c;split at c<;>cases c;cases z;let⟨r1,r2⟩:=g3 j T _ e g (List.getElem?_eq_getElem (by have:=(List.getElem?_eq_some_iff.1 g).1;omega)) r;refine⟨?_,B,r1.2.2.1,v2⟩;show Rep Γ (QB A T) (ρ k);rw[q,<-Z];exact r1.1
   .grind
end
end Go.AmZ
namespace Go.AmZ
open Go Go.RowKit
section
variable {σ:St}
theorem quJ(l:List (List AV)):qO σ {σ with bx:=σ.bx++l}:=
 ⟨by simp,wa _,λ i a _=>List.getElem?_append_left a,λ _ _ _=>rfl,λ _ h=>h,λ _ h=>h⟩
theorem qAE(b:Nat)(cs:List AV):qO σ {σ with bx:=σ.bx.set b cs,wr:=b::σ.wr}:=
 ⟨by simp,wa _,λ i c a=>List.getElem?_set_ne λ e=>a (by simp[e]),λ _ _ _=>rfl,λ _ h=>we _ h,λ _ h=>h⟩
theorem qry(a:List Nat):qO σ {σ with rw:=frz σ.rw a,wrr:=a++σ.wrr}:=
 ⟨wa _,by simp[qIj],λ _ _ _=>rfl,λ i c b=>qoj _ _ _ λ h=>b (vg _ h),λ _ h=>h,λ _ h=>xY _ h⟩
theorem qun(l:List Row):qO σ {σ with rw:=σ.rw++l}:=
 ⟨wa _,by simp,λ _ _ _=>rfl,λ i a _=>List.getElem?_append_left a,λ _ h=>h,λ _ h=>h⟩
theorem qsa(r:Nat)(R:Row):qO σ {σ with rw:=σ.rw.set r R,wrr:=r::σ.wrr}:=
 ⟨wa _,by simp,λ _ _ _=>rfl,λ i b a=>List.getElem?_set_ne λ e=>a (by simp[e]),λ _ h=>h,λ _ h=>we _ h⟩
end
theorem qrB{C:Cfg}{tm:List AV}{σ σ':St}{t:Nat}{m k y:Operand}{x:AV}(h:qcS C tm σ t m k y=some (x,some σ')):qO σ σ':=by
 unfold qcS at h;split at h<;>try cases h
 split at h<;>cases h;exact qAE _ _
theorem qKd{C:Cfg}{tm:List AV}{σ:St}{op:Op}{x:AV}{σ':Option St}(h:qc C tm σ op=some (x,σ')):qO σ (turn σ σ'):=by
 cases σ' with
 |none=>exact .refl σ
 |some σ'=>
   show qO σ σ';cases op with
   |alloc e=>
     simp only[qc]at h;split at h<;>try cases h
     split at h<;>cases h;exact quJ _
   |box e y=>
     simp only[qc]at h;split at h<;>try cases h
     split at h<;>cases h;exact quJ _
   |store t a y=>
     simp only[qc]at h;split at h<;>try cases h
     .split at h<;>try cases h
      split at h<;>cases h;exact qAE _ _
     .split at h<;>try cases h
      split at h<;>cases h;exact qsa _ _
   |convert s t y=>
     simp only[qc]at h;split at h<;>try cases h
     .split at h<;>cases h;exact qun _
     .split at h<;>try cases h
      split at h<;>cases h
   |makeSlice t a y=>
     simp only[qc]at h;split at h<;>try cases h
     split at h<;>try cases h
     split at h<;>cases h;exact qun _
   |buildSlice t n ps=>
     simp only[qc]at h;split at h<;>try cases h
     split at h<;>try cases h
     split at h<;>cases h;exact qry _
   |slice t y lo b m=>
     cases m with
     |some m=>simp[qc]at h
     |none=>
       simp only[qc]at h
       repeat' (first|(cases h;done)|(cases h;exact qsa _ _)|split at h)
   |makeMap t m=>
     cases m<;>simp only[qc]at h<;>try cases h
     split at h<;>cases h;exact quJ _
   |mapUpdate t m k y|insert t m k y=>exact qrB h
   |makeFunc f c cs=>
     cases f<;>simp only[qc]at h<;>(repeat' (first|(cases h;done)|split at h))
   |_=>
     simp only[qc]at h
     repeat' (first|(cases h;done)|split at h)
theorem qr6{k bytes:Nat}{σ:St}{s:AV}{xs:List (List AV)}{x:AV}{σ':Option St}(h:yg k bytes σ s xs=some (x,σ')):qO σ (turn σ σ'):=by
 unfold yg at h
 repeat' (first|(cases h;done)|(cases h;first|exact .refl _|exact qun _|exact qsa _ _)|split at h)
def qRX(P:Program)(Γ:Gh)(σ:St)(w:World)(o:Oper)(a:Act)(x:AV)(σ':Option St):Prop:=
 ∀next Q,(∀u w' Γ',Ext Γ w Γ' w'->Inv Γ' (turn σ σ') w'->Rep Γ' x u->qO σ (turn σ σ')->next (a.put o.dst u) w')->o.wp P a w next Q
theorem QK.wp{P:Program}{Γ:Gh}{σ:St}{w:World}{o:Oper}{a:Act}{x:AV}{σ':Option St}(h:QK P Γ σ w o a.eval x σ')(c:qO σ (turn σ σ')):qRX P Γ σ w o a x σ':=by
 let⟨j,u,w',Γ',i,g,f,e,d⟩:=h;intro next Q b
 unfold Oper.wp;rw[i];obtain rfl|⟨rfl,rfl⟩:=g
 .exact b _ _ _ f e d c
 .exact b _ _ _ f e d c
section
variable {P:Program}{C:Cfg}{Γ:Gh}{σ:St}{w:World}{o:Oper}{tm:List AV}{ρ:Operand->Value}{x:AV}{σ':Option St}
theorem qTn(p:∀t d,C.ty t=some d->yQ P t=some d)(l:Inv Γ σ w)(g:∀y,Rep Γ (aev tm y) (ρ y))(h:qc C tm σ o.op=some (x,σ')):QK P Γ σ w o ρ x σ':=by
 cases j:o.op with
 |move y=>rw[j]at h;simp only[qc,wB,wL]at h;obtain⟨rfl,rfl⟩:=h;exact qIs l g y (.inl j)
 |assign y=>rw[j]at h;simp only[qc,wB,wL]at h;obtain⟨rfl,rfl⟩:=h;exact qIs l g y (.inr j)
 |pick c a b=>exact qQX l g c a b j h
 |alloc e=>exact qMD p l e j h
 |box e y=>exact qSS l g e y j h
 |build t ps=>exact qN5 p l g t ps j h
 |buildSlice t n ps=>exact qCH p l g t n ps j h
 |load t y=>exact qQ6 p l g t y j h
 |store t y z=>exact qN1 p l g t y z j h
 |nilCheck y=>exact qR0 l g y j h
 |binOp op t y z v=>exact qSJ p l g op t y z v j h
 |unOp op t y=>exact qTj l g op t y j h
 |convert s t y=>exact qP3 p l g s t y j h
 |makeFunc f A cs=>exact qTr l g f A cs j h
 |slice t y lo u m=>
   exact qOh p l g t y lo u m j h
 |fieldAddr t y i=>exact qF0 p l g t y i j h
 |field t y i=>exact qOj p l g t y i j h
 |indexAddr t y i=>exact qEb p l g t y i j h
 |index t y i=>exact qNq p l g t y i j h
 |extract y i=>exact qJX l g y i j h
 |makeSlice t y z=>exact qP8 p l g t y z j h
 |makeMap t r=>exact qIT p l t r j h
 |lookup t m k q=>exact qMl p l g t m k q j h
 |mapUpdate t m k y=>rw[j]at h;exact qBf p l g t m k y (.inl j) h
 |insert t m k y=>rw[j]at h;exact qBf p l g t m k y (.inr j) h
 |_=>rw[j]at h;simp only[qc]at h;cases h
theorem qJI{k:TK}(h:qlJ k=true):k=.string:=by cases k<;>first|rfl|(simp[qlJ]at h)
theorem qKC{k:TK}(h:qcL k=true):∃e s b z,k=.slice e s b z:=by
 cases k<;>first|exact⟨_,_,_,_,rfl⟩|(simp[qcL]at h)
theorem qTb{d:TD}{t ty:TypeId}{ts:Array TypeId}(E:ts[0]?=some t)(I:yQ P t=some d){y:AV}{u:Value}(A:Rep Γ y u){n:Nat}(h:qiQ d y=some n):(Builtin.len_ ts ty #[u]).run P w=.ok (.int .i64 n) w:=by
 let⟨i,q,z,R,C,Q,O,N,M,L,B⟩:=waJ I;have x:qlJ d.k=true->q=.string:=λ h=>qhb (by rw[B,qJI h])
 have sl:qcL d.k=true->∃e,q=.slice e:=λ h=>by
  let⟨e,s,b,z,D⟩:=qKC h;exact⟨e,(qbc (by rw[B,D])).1⟩
 have j:∀e,q=.slice e->∀a m c,u=.slice a m c->(Builtin.len_ ts ty #[u]).run P w=.ok (.int .i64 m) w:=by
  intro e p a m c F;subst F;simp[Builtin.len_,E,underlying,C,p,goInt]
 cases A with
 |v y S=>
   simp only[qiQ]at h;split at h
   .rename_i s l;cases l;split at h<;>cases h;rename_i g;simp[Builtin.len_,E,underlying,C,x g,goInt,qpQ]
   .rename_i l;cases l;split at h<;>cases h;rename_i g;let⟨e,p⟩:=sl g;exact j e p _ _ _ rfl
   .rename_i l;cases l
   .rename_i l;cases l
   .cases h
 |sl k X f a m cap b o us G J H D T K W U A=>
   simp only[qiQ]at h;split at h<;>cases h;rename_i g;let⟨e,p⟩:=sl g;rw[j e p _ _ _ rfl,G];rfl
 |rs r lo m Y f a cap A J H V=>
   simp only[qiQ]at h;split at h<;>cases h;rename_i g;let⟨e,p⟩:=sl g;exact j e p _ _ _ rfl
 |_=>simp only[qiQ]at h;cases h
theorem qQp(l:Inv Γ σ w){d:TD}{t ty:TypeId}{ts:Array TypeId}(p:ts[0]?=some t)(m:yQ P t=some d){y:AV}{u:Value}(f:Rep Γ y u){n:Nat}(h:qJS d.k σ y=some n):(Builtin.len_ ts ty #[u]).run P w=.ok (.int .i64 n) w:=by
 let⟨i,v,z,E,e,D,C,B,A,x,c⟩:=waJ m;unfold qJS at h;split at h<;>try cases h
 rename_i j;split at h<;>cases h;rename_i b ks vs g;obtain⟨rfl,o⟩:=qsj g;rw[j]at c;obtain⟨F,H,G,s,rfl,_⟩:=qC2 c;let⟨_,I,a,r,q,_⟩:=l.box b _ o;rw[(qFK f).1];simp[Builtin.len_,p,underlying,e,goInt,MapKept.run_getObj_map r,q]
theorem qTm(E:∀t d,C.ty t=some d->yQ P t=some d)(m:Inv Γ σ w){b:Builtin}{ts:Array TypeId}{ty:TypeId}{cs:Array Bool}{l:List AV}{j:List Value}(D:RepL Γ l j)(h:jH C σ b ts l=some (x,σ')):
  (∃v w' Γ',(builtin b ts ty cs j.toArray).run P w=.ok (.value v) w'/\Ext Γ w Γ' w'/\Inv Γ' (turn σ σ') w'/\Rep Γ' x v)/\qO σ (turn σ σ'):=by
 unfold jH at h;split at h
 .rename_i y;obtain⟨u,r,rfl,i,f⟩:=D.uncons;rw[f.nil_inv];split at h<;>try cases h
  rename_i t B;split at h<;>try cases h
  rename_i d q;split at h
  .cases h;rename_i n H;exact⟨⟨_,w,Γ,by simp[builtin,Sem.run_bind',qTb B (E t d q) i H],.refl _ _,m,.v _ rfl⟩,.refl _⟩
  .split at h<;>cases h;rename_i n H;exact⟨⟨_,w,Γ,by simp[builtin,Sem.run_bind',qQp m B (E t d q) i H],.refl _ _,m,.v _ rfl⟩,.refl _⟩
 .rename_i s y;obtain⟨u,r,rfl,p,f⟩:=D.uncons;obtain⟨L,M,rfl,i,c⟩:=f.uncons;rw[c.nil_inv];split at h<;>try cases h
  rename_i t S B A;split at h<;>try (cases h;done)
  .rename_i q1 Z Y X e k Q z W V U T e' N b' R q o;split at h<;>try cases h
   rename_i g;simp only[wc,decide_eq_true_eq]at g;split at h<;>try cases h
   rename_i xs G;split at h<;>try cases h
   rename_i O;let⟨v,w',Γ',K,J,g3,I⟩:=qAs (ty:=ty) E m p i B A q o g.1 g.2 G O h;refine⟨⟨v,w',Γ',by simp[builtin,Sem.run_bind',K],J,g3,I⟩,?_⟩;exact qr6 h
  .rename_i q o;split at h<;>try (cases h;done)
   rename_i b g;simp only[wc,decide_eq_true_eq]at g;have F:=zp i;subst F;let⟨v,w',Γ',K,J,g3,I⟩:=qCf (ty:=ty) E m p B A q o g.1 h;refine⟨⟨v,w',Γ',by simp[builtin,Sem.run_bind',K],J,g3,I⟩,?_⟩;exact qr6 h
 .rename_i k a N b;obtain⟨u,r,rfl,p,f⟩:=D.uncons;obtain⟨L,M,rfl,i,c⟩:=f.uncons;rw[c.nil_inv,zp p,zp i];split at h<;>cases h;rename_i g;have g:=of_decide_eq_true g;subst g;exact⟨⟨_,w,Γ,by simp[builtin,Sem.run_bind',Builtin.max_,Builtin.max2,qnM],.refl _ _,m,.v _ rfl⟩,.refl _⟩
 .rename_i k a N b;obtain⟨u,r,rfl,p,f⟩:=D.uncons;obtain⟨L,M,rfl,i,c⟩:=f.uncons;rw[c.nil_inv,zp p,zp i];split at h<;>cases h;rename_i g;have g:=of_decide_eq_true g;subst g;exact⟨⟨_,w,Γ,by simp[builtin,Sem.run_bind',Builtin.min_,Builtin.min2,qMS],.refl _ _,m,.v _ rfl⟩,.refl _⟩
 .cases h
end
end Go.AmZ
namespace Go.AmZ
open Go Go.RowKit
def Jm(P:Program)(Γ:Gh)(σ:St)(w:World)(f:FuncId)(a:List Value)(r:AV×Option St):Prop:=
 Calls P f a.toArray w λ e w'=>∃v Γ',e=.returned v/\Ext Γ w Γ' w'/\Inv Γ' (turn σ r.2) w'/\Rep Γ' r.1 v/\qO {σ with wr:=[],wrr:=[]} (turn {σ with wr:=[],wrr:=[]} r.2)
def qg0(P:Program)(f:FuncId):Prop:=∃fn,P.funcs[f]?=some fn/\fn.body.isNone=false/\(fn.name=="runtime.NumGoroutine")=false
def qT(P:Program)(f:FuncId)(p:St->List AV->Option (AV×Option St)):Prop:=
 qg0 P f/\∀Γ σ w b a r,Inv Γ σ w->RepL Γ b a->p σ b=some r->Jm P Γ σ w f a r
structure yr (P:Program) (C:Cfg):Prop where
 mixed:P.follows .mixedOrders=true
 ty:∀t d,C.ty t=some d->yQ P t=some d
 fn:∀f fn,C.fn f=some fn->P.funcs[f]?=some fn/\(fn.name=="runtime.NumGoroutine")=false/\∀c,fn.body=some c->Qf c=true
 prim:∀f p,C.prim f=some p->qT P f p
 inl:∀f fn,C.inl f=some fn->P.funcs[f]?=some fn/\(fn.name=="runtime.NumGoroutine")=false/\∀c,fn.body=some c->Qf c=true
theorem qiE{P:Program}{f:FuncId}(h:qg0 P f)(a:Array Value)(w:World):(callFunc f a).run P w=.ok (.enter f a) w:=by
 let⟨fn,e,d,c⟩:=h;have b:(program).run P w=.ok P w:=rfl;unfold callFunc;simp only[Sem.run_bind,b,Result.andThen_ok,e,c,d,xx,if_false];rfl
abbrev zu(Γ:Gh)(b:List AV)(a:Act):Prop:=RepL Γ b a.tmps.toList
theorem zu.get{Γ:Gh}{b:List AV}{a:Act}(h:zu Γ b a)(t:Nat):Rep Γ (b.getD t .dead) (a.tmps.getD t undef):=by
 rw[List.getD_eq_getElem?_getD];cases c:b[t]? with
 |none=>exact .dead _
 |some x=>
   let⟨u,d,e⟩:=RepL.get h c;simp_all
theorem qQg(Γ:Gh)(y:Value):Rep Γ (ofC y) y:=by
 unfold ofC;split
 .rename_i h;exact .v y h
 .exact .dead _
theorem qGI(Γ:Gh)(y:Value):Rep Γ (qs4 y) y:=by
 unfold qs4;split
 .rename_i cs;split
  .rename_i h;let⟨a,b⟩:=qeG (Γ:=Γ) h;have:=Rep.agg (Γ:=Γ) (cs.toList.map .v) cs.toList a.len b a.rep;simpa using this
  .exact .dead _
 .rename_i vs;split
  .rename_i h;have:vs = #[]:=by rw[<-ve (xs:=vs),h]
   subst this;exact .tup [] [] rfl λ i x u h=>by simp at h
  .exact .dead _
 .exact qQg Γ _
theorem zu.ev{Γ:Gh}{b:List AV}{a:Act}(h:zu Γ b a)(y:Operand):Rep Γ (aev b y) (a.eval y):=by
 cases y with
 |tmp t=>exact h.get t
 |const x=>exact qGI Γ x
 |func f=>exact .fn f [] [] rfl λ i x u h=>by simp at h
 |global g=>exact .dead _
theorem zu.put{Γ:Gh}{b:List AV}{a:Act}(h:zu Γ b a)(d:Option Tmp){x:AV}{u:Value}(c:Rep Γ x u):zu Γ (qcM b d x) (a.put d u):=by
 cases d with
 |none=>exact h
 |some d=>
   show RepL Γ (b.set d x) (a.tmps.setIfInBounds d u).toList;grind [Array.toList_setIfInBounds,RepL.set]
section
variable {P:Program}{C:Cfg}{Γ:Gh}{σ:St}{w:World}
theorem qla(H:∀t d,C.ty t=some d->yQ P t=some d)(F:Inv Γ σ w){fn:Func}{i:List AV}{a:Act}(p:zu Γ i a){r:AV}(h:qa2 C fn ⟨i,σ⟩=some r):∃v,(results fn a.tmps).run P w=.ok v w/\Rep Γ r v:=by
 have k:∀(c:List ResultVar) (l:List AV),Qp C i σ c=some l->∃vs:List Value,(c.mapM (λ(x:ResultVar)=>(match x with
   |.tmp t=>pure (a.tmps.getD t undef)
   |.cell b t=>do loadVar t (<-asAddr (a.tmps.getD b undef)):Sem Value))).run P w=.ok vs w/\RepL Γ l vs:=by
  intro c
  induction c with
  |nil=>intro l h;simp only[Qp,wB]at h;subst h;exact⟨[],by simp,.nil⟩
  |cons x c D=>
    intro l h;simp only[Qp]at h;split at h<;>try cases h
    rename_i y e;split at h<;>cases h;rename_i ys m;let⟨vs,o,f⟩:=D ys m;have j:∃v,(match x with
    |.tmp t=>pure (a.tmps.getD t undef)
    |.cell b t=>do loadVar t (<-asAddr (a.tmps.getD b undef)):Sem Value).run P w=.ok v w/\Rep Γ y v:=by
      cases x with
      |tmp t=>simp only[qlk,wB]at e;subst e;exact⟨_,rfl,p.get t⟩
      |cell b t=>
        simp only[qlk]at e;split at e<;>try cases e
        rename_i d G;let⟨v,A,B,z,s⟩:=qIk F (H t d G) (p.get b) e;refine⟨v,?_,s⟩;simp[Sem.run_bind',B,asAddr,z]
    let⟨v,e1,K⟩:=j;refine⟨v::vs,?_,.cons K f⟩;rw[List.mapM_cons];simp only[Sem.run_bind,e1,Result.andThen_ok,o];rfl
 simp only[qa2]at h;split at h<;>cases h;rename_i l g;let⟨vs,o,f⟩:=k _ _ g;unfold results;rw[Array.mapM_eq_mapM_toList]
 have E:(List.toArray <$> (fn.results.toList.mapM (λ(x:ResultVar)=>(match x with
   |.tmp t=>pure (a.tmps.getD t undef)
   |.cell b t=>do loadVar t (<-asAddr (a.tmps.getD b undef)):Sem Value)))).run P w=.ok vs.toArray w:=by
  rw[Sem.run_map,o];rfl
 refine⟨if h:vs.toArray.size=1 then vs.toArray[0]else .tuple vs.toArray,?_,?_⟩
 .rw[Sem.run_bind];exact(congrArg (λ r=>Result.andThen r _) E).trans rfl
 .unfold zY;split
  .rename_i y;obtain⟨u,c,rfl,J,I⟩:=f.uncons;rw[I.nil_inv];simpa using J
  .rename_i n
   have:vs.toArray.size≠1:=by
    intro q;have g:=f.len;simp only[kr]at q;rw[q]at g
    match l,g with
    |[y],_=>exact n y rfl
   rw[dif_neg this];exact .tup _ _ f.len f.rep
def Ex.toExit:Ex->Exit
 |.normal=>.normal
 |.exit id=>.exit id
 |.ret=>.ret
def qcQ(P:Program)(ex:QG):Prop:=
 ∀c s e b,Qf c=true->ex c s=some (e,b)->∀Γ w a,Inv Γ s.σ w->zu Γ s.tm a->a.defers=[]->
  c.wp P (λ f d w'=>f=e.toExit/\d.defers=[]/\∃Γ',Ext Γ w Γ' w'/\Inv Γ' b.σ w'/\zu Γ' b.tm d/\qO s.σ b.σ) a w
theorem qdP(Γ:Gh):∀n:Nat,RepL Γ (List.replicate n .dead) (List.replicate n undef)
 |0=>.nil
 |n+1=>.cons (.dead _) (qdP Γ n)
theorem qD3(d:yr P C){ex:QG}{f:FuncId}{a:List AV}{r:AV×Option St}(h:qbV C ex σ f a=some r):qg0 P f:=by
 unfold qbV at h;split at h
 .rename_i p e;exact(d.prim f p e).1
 .split at h<;>try cases h
  rename_i fn b;split at h<;>try cases h
  rename_i c g;let⟨j,i,_⟩:=d.fn f fn b;exact⟨fn,j,by rw[g];rfl,i⟩
theorem qC4(t:yr P C){ex:QG}(E:qcQ P ex){f:FuncId}{b:List AV}{a:List Value}{r:AV×Option St}(o:Inv Γ σ w)(l:RepL Γ b a)(h:qbV C ex σ f b=some r):Jm P Γ σ w f a r:=by
 unfold qbV at h;split at h
 .rename_i p G;exact(t.prim f p G).2 Γ σ w b a r o l h
 .split at h<;>try cases h
  rename_i fn q;split at h<;>try cases h
  rename_i c x;let⟨K,N,J⟩:=t.fn f fn q
  have O:∀e d,ex c (qhY fn σ b)=some (e,d)->(e=.ret\/e=.normal)->qjz C fn σ d=some r->Jm P Γ σ w f a r:=by
   intro e d H s m;unfold Jm;refine calls_of_wp K x ?_;have n:Inv Γ (qhY fn σ b).σ w:=o.wr rfl rfl
   have F:zu Γ (qhY fn σ b).tm {tmps:=a.toArray++Array.replicate (fn.ntmps-a.toArray.size) undef,defers:=[]}:=by
    show RepL Γ (b++List.replicate (fn.ntmps-b.length) .dead) (a.toArray++Array.replicate (fn.ntmps-a.toArray.size) undef).toList;rw[xn,xi];have:a.toArray.size=b.length:=by simpa using l.len
    rw[this];exact l.append (qdP Γ _)
   refine wp_mono (E c _ e d (J c x) H Γ w _ n F rfl) ?_;rintro Q z w' ⟨rfl,I,Γ',M,y,g3,L⟩;unfold qjz at m;split at m<;>cases m;rename_i j k;let⟨v,D,B⟩:=qla t.ty y g3 k;let⟨⟨i,u1,u2,u3⟩,u4⟩:=qLo o M y L B
   have:z.defers=[]/\∃v,(results fn z.tmps).run P w'=.ok v w'/\∃g Γ',Ending.returned v=.returned g/\Ext Γ w Γ' w'/\Inv Γ' (turn σ (qbO σ j d.σ).2) w'/\Rep Γ' (qbO σ j d.σ).1 g/\qO {σ with wr:=[],wrr:=[]} (turn {σ with wr:=[],wrr:=[]} (qbO σ j d.σ).2):=
    ⟨I,v,D,v,i,rfl,u1,u2,u3,u4⟩
   obtain rfl|rfl:=s
   .exact this
   .exact this
  grind
def qjF(P:Program)(Γ:Gh)(σ:St)(w:World)(f:FuncId)(a:List Value)(r:AV×Option St):Prop:=
 Calls P f a.toArray w λ e w'=>∃v Γ',e=.returned v/\Ext Γ w Γ' w'/\Inv Γ' (turn σ r.2) w'/\Rep Γ' r.1 v/\qO σ (turn σ r.2)
theorem quL{f e:List Nat}(g:qfW σ f e):∀{a:List AV}{c:List Value},RepL Γ a c->(∀b∈rbL a,b∈f)->(∀r∈rrL a,r∈e)->RepL (JT Γ f e) (qZ (λ b=>f.idxOf b) (λ r=>e.idxOf r) a) c
 |[],c,h,_,_=>by rw[h.nil_inv];exact .nil
 |x::a,c,h,j,i=>by
   obtain⟨u,us,rfl,l,k⟩:=h.uncons;exact .cons (qtj g l (λ b d=>j b (by simp[rbL,d])) λ r d=>i r (by simp[rrL,d])) (quL g k (λ b d=>j b (by simp[rbL,d])) λ r d=>i r (by simp[rrL,d]))
theorem qpB{f:FuncId}{a:List AV}{c:List Value}{i:St->List AV->Option (AV×Option St)}(z:∀Γ σ a r,Inv Γ σ w->RepL Γ a c->i σ a=some r->Jm P Γ σ w f c r)
  {r:AV×Option St} (g:Inv Γ σ w) (x:RepL Γ a c) (h:Qu σ a i=some r):qjF P Γ σ w f c r:=by
 unfold Qu at h;split at h<;>try cases h
 rename_i m;let⟨d,o,n⟩:=qLG m;split at h<;>cases h;rename_i r j;refine(z _ _ _ _ (qH8 d g) (quL d x o n) j).mono ?_;rintro e w' ⟨v,t,q,k,p,l,y⟩;have b:=qpp d g k l;rw[g.nb,g.nr]at b;let⟨B,u⟩:=r;cases u with
 |none=>
   refine⟨v,_,q,qFp d g k,?_,b,.refl _⟩;have o:=qEi d g k p;let⟨e1,A⟩:=qDa d;exact o.wr e1.symm A.symm
 |some s=>exact⟨v,_,q,qFp d g k,qEi d g k p,b,qJL d y⟩
theorem qjF.after{f:FuncId}{a:List Value}{b:Gh}{σ1:St}{r:AV×Option St}(h:qjF P b σ1 w f a r)(c:Ext Γ w b w)(d:qO σ σ1):qjF P Γ σ w f a (match r with|(x,none)=>(x,some σ1)|r=>r):=by
 refine Calls.mono h ?_;rintro e w' ⟨v,Γ',g,l,k,j,i⟩;let⟨o,n⟩:=r;cases n with
 |none|some m=>exact⟨v,Γ',g,c.trans l,k,j,d.trans i⟩
theorem qvi(f:Inv Γ σ w){m:Nat->Nat->Option Value}(e:Le Γ {Γ with mem:=m}):∀{b:List AV}{a:List Value},(∀r∈b.flatMap rsA,∀R,σ.rw[r]?=some R->Qz {Γ with mem:=m} r R)->RepL Γ b a->RepL {Γ with mem:=m} (b.map (jk σ.rw)) a
 |[],a,_,h=>by rw[h.nil_inv];exact .nil
 |x::b,a,g,h=>by
   obtain⟨u,us,rfl,j,i⟩:=h.uncons;exact .cons (qy7 f e (λ r d=>g r (by simp[d])) j) (qvi f e (λ r d=>g r (by simp only[xj,wj];exact .inr d)) i)
theorem qOi{Γ Γ':Gh}{x:AV}{u:Value}(h:qjx x=true)(a:Rep Γ x u):Rep Γ' x u:=by
 cases a with
 |v _ f=>exact .v _ f
 |tup cs us e a=>
   refine .tup cs us e λ i x u b c=>?_;have d:isV x=true:=(ww.1 h) x (wb b);have:=a i x u b c;cases x with
   |v y=>have:=zp this;subst this;exact .v _ (by have:=a i _ _ b c;cases this;assumption)
   |_=>cases d
 |_=>cases h
theorem qQ0{a:List AV}(d:rbL a=[])(c:rrL a=[]):QH σ a=[]/\qbE σ a=[]:=by
 have b:QH σ a=[]:=by
  unfold QH;rw[d];show qoN σ.bx σ.bx.length []=[];cases σ.bx.length with
  |zero|succ n=>rfl
 refine⟨b,?_⟩;unfold qbE;rw[b,c];rfl
theorem qIW{f:FuncId}{a:List AV}{g:List Value}{k:St->List AV->Option (AV×Option St)}(H:∀Γ σ a r,Inv Γ σ w->RepL Γ a g->k σ a=some r->Jm P Γ σ w f g r)
  {x:AV}{l:Gh}{σ0:St} (K:Inv l σ0 w) (m:Inv Γ σ w) (E:RepL Γ a g) (h:Qu σ a k=some (x,none)) (J:rbL a=[]) (I:rrL a=[]) (D:qjx x=true):qjF P l σ0 w f g (x,none):=by
 let⟨p,o⟩:=qQ0 (σ:=σ) J I;unfold Qu at h;split at h<;>try cases h
 rename_i y;let⟨t,A,z⟩:=qLG y;split at h<;>try cases h
 rename_i r n;have j:=kz h;rw[p,o]at t;refine(H _ _ _ _ (qH8 (by rw[p,o];exact t) m) (quL (by rw[p,o];exact t) E A z) n).mono ?_;rintro e w' ⟨v,B,G,c,N,q,M⟩;rw[p,o]at c;have d:=qpp t m c q;rw[m.nb,m.nr]at d
 have u:x=ren (yd [] σ.bx.length) (yd [] σ.rw.length) r.1:=by
  rw[p,o]at j;let⟨L,C⟩:=r;cases C<;>cases j;rfl
 rw[<-u]at d
 have s:Below w.heap.size w w':=⟨c.os,c.tape,c.output,c.size,λ b A=>c.block b A λ F=>by
  obtain⟨i,m,_⟩|⟨i,m,_⟩:=F<;>exact absurd m (wN _)⟩
 exact⟨v,l,G,qhh s c.drawn,K.later s,qOi D d,.refl _⟩
theorem qpy{C:Cfg}{ex:QG}{σ:St}{f:Nat}{a:List AV}{r:AV×Option St}(h:qdU C ex σ f a=some r):(∃fn,C.inl f=some fn/\qy0 C ex σ fn a=some r)\/qbL C ex σ f a=some r:=by
 grind [qdU]
theorem qFN{C:Cfg}{ex:QG}{σ:St}{fn:Func}{a:List AV}{r:AV×Option St}(h:qy0 C ex σ fn a=some r):∃c e b x,fn.body=some c/\ex c ⟨a++List.replicate (fn.ntmps-a.length) .dead,σ⟩=some (e,b)/\(e=.ret\/e=.normal)/\qa2 C fn b=some x/\r=(x,some b.σ):=by
 unfold qy0 at h;split at h<;>try cases h
 rename_i c j;split at h<;>try cases h
 rename_i e b d g;split at h<;>cases h;rename_i x f;refine⟨c,e,b,x,j,g,?_,f,rfl⟩;cases e with
 |normal=>exact .inr rfl
 |ret=>exact .inl rfl
 |exit i=>exact(d i rfl).elim
theorem qQE(n:yr P C){ex:QG}(t:qcQ P ex){f:FuncId}{fn:Func}(z:C.inl f=some fn){b:List AV}{a:List Value}{r:AV×Option St}(y:Inv Γ σ w)(l:RepL Γ b a)(h:qy0 C ex σ fn b=some r):qjF P Γ σ w f a r:=by
 obtain⟨c,e,g,x,m,A,j,i,rfl⟩:=qFN h;let⟨E,H,D⟩:=n.inl f fn z;unfold qjF;refine calls_of_wp E m ?_
 have u:zu Γ (b++List.replicate (fn.ntmps-b.length) .dead) {tmps:=a.toArray++Array.replicate (fn.ntmps-a.toArray.size) undef,defers:=[]}:=by
  show RepL Γ (b++List.replicate (fn.ntmps-b.length) .dead) (a.toArray++Array.replicate (fn.ntmps-a.toArray.size) undef).toList;rw[xn,xi];have:a.toArray.size=b.length:=by simpa using l.len
  rw[this];exact l.append (qdP Γ _)
 refine wp_mono (t c _ e g (D c m) A Γ w _ y u rfl) ?_;rintro I p w' ⟨rfl,B,Γ',G,o,g3,F⟩;let⟨v,s,q⟩:=qla n.ty o g3 i
 have:p.defers=[]/\∃v,(results fn p.tmps).run P w'=.ok v w'/\∃d Γ',Ending.returned v=.returned d/\Ext Γ w Γ' w'/\Inv Γ' (turn σ (x,some g.σ).2) w'/\Rep Γ' (x,some g.σ).1 d/\qO σ (turn σ (x,some g.σ).2):=
  ⟨B,v,s,v,Γ',rfl,G,o,q,F⟩
 obtain rfl|rfl:=j
 .exact this
 .exact this
theorem qMa(p:yr P C){ex:QG}(k:qcQ P ex){f:FuncId}{a:List AV}{b:List Value}{r:AV×Option St}(i:Inv Γ σ w)(g:RepL Γ a b)(h:qdU C ex σ f a=some r):qjF P Γ σ w f b r:=by
 have n:∀Γ σ a r,Inv Γ σ w->RepL Γ a b->qbV C ex σ f a=some r->Jm P Γ σ w f b r:=λ _ _ _ _=>qC4 p k;obtain⟨fn,z,h⟩|h:=qpy h
 .exact qQE p k z i g h
 unfold qbL at h;unfold qji at h;cases e:C.raw f with
 |true=>
   grind [qpB]
 |false=>
   rw[e]at h;simp only at h;cases c:a.flatMap rsA with
   |nil=>
     rw[c]at h;exact qpB n i (qvi (m:=Γ.mem) i (Le.refl _) (by rw[c];intro r g;cases g) g) h
   |cons q l=>
     rw[c]at h;simp only[qoi]at h;let⟨m,j,v,u⟩:=qaE (q::l) i ((q::l)++σ.wrr);have A:=qvi i j.le (by rw[c];exact u) g;cases d:Qu {σ with rw:=frz σ.rw (q::l),wrr:=(q::l)++σ.wrr} (a.map (jk σ.rw)) (λ σ a=>qbV C ex σ f a)with
     |none=>rw[d]at h;cases h
     |some t=>
       rw[d]at h;have:=(qpB n v A d).after (qli j w) (qry (q::l));let⟨x,o⟩:=t;cases o with
       |none=>
         simp only at h;split at h
         .rename_i y;cases h;simp only[wc,xt]at y;grind [qIW]
         .cases h;exact this
       |some s=>cases h;exact this
theorem qwm{c:List AV}{a:St->List AV->Option (AV×Option St)}{r:AV×Option St}(h:Qu σ c a=some r):∃σ' b d,a σ' b=some d:=by
 grind [Qu]
theorem qLO(d:yr P C){ex:QG}{f:FuncId}{a:List AV}{r:AV×Option St}(h:qdU C ex σ f a=some r):qg0 P f:=by
 obtain⟨fn,e,h⟩|h:=qpy h
 .let⟨c,_,_,_,g,_⟩:=qFN h;let⟨j,i,_⟩:=d.inl f fn e;exact⟨fn,j,by rw[g];rfl,i⟩
 unfold qbL at h;split at h
 .grind [qwm,qD3]
 .rename_i σ' _;cases b:Qu σ' _ (λ σ a=>qbV C ex σ f a)with
  |none=>rw[b]at h;cases h
  |some l=>let⟨_,_,_,k⟩:=qwm b;exact qD3 d k
theorem qJa(p:yr P C){ex:QG}(F:qcQ P ex){k:List AV}{a:Act}{o:Oper}{x:AV}{σ':Option St}(u:Inv Γ σ w)(q:zu Γ k a)(h:opA C ex k σ o.op=some (x,σ')):qRX P Γ σ w o a x σ':=by
 by_cases j:∃c,o.op=.call c
 .let⟨c,s⟩:=j;rw[s]at h;have d:RepL Γ (c.args.toList.map (aev k)) (c.args.toList.map a.eval):=qvm q.ev _;simp only[opA]at h;split at h
  .rename_i b K;let⟨⟨v,w',Γ',D,N,M,L⟩,H⟩:=qTm (P:=P) (ty:=o.type) (cs:=c.args.map λ|.const _=>true|_=>false) p.ty u d h;refine QK.wp ⟨_,v,w',Γ',?_,.inl rfl,N,M,L⟩ H;have e:(c.args.toList.map a.eval).toArray=c.args.map a.eval:=by rw[<-vf]
   rw[e]at D;unfold execOp;rw[s];simp only[resolve,K,Sem.run_bind];exact D
  .split at h<;>try cases h
   rename_i f i n
   have A:∃g,c.callee=.value g/\aev k g=.fn f i:=by
    unfold qhp at n;grind
   let⟨g,I,J⟩:=A;have m:=J▸q.ev g;generalize y:a.eval g=O at m;cases m with
   |fn f i us G r=>
     have z:=qLO p h;have B:=qMa p F u (d.append (RepL.mk G r)) h;intro next Q t
     unfold Oper.wp
     have l:(execOp a.eval o).run P w=.ok (.enter f ((c.args.toList.map a.eval++us).toArray)) w:=by
      unfold execOp;rw[s];simp only[resolve,I,y,Deferred.ofValue,Sem.run_bind]
      have e:c.args.map a.eval++us.toArray=(c.args.toList.map a.eval++us).toArray:=by
       rw[<-vf];simp
      rw[<-e,Array.empty_append];exact qiE z _ w
     rw[l,Oper.upon_enter];refine Calls.mono B ?_;grind
 .have E:qc C k σ o.op=some (x,σ'):=by
    simp_all [opA]
  exact(qTn p.ty u q.ev E).wp (qKd E)
end
end Go.AmZ
namespace Go.AmZ
open Go Go.RowKit
section
variable {P:Program}{C:Cfg}{Γ:Gh}{σ:St}{w:World}{ops:Array Oper}
theorem qiJ{k:List AV}{a:Act}{o:Oper}{b:Bool}(n:zu Γ k a)(h:yC ops k o=some b):Region.wanted o (yielded ops a.tmps)=b:=by
 unfold yC at h;unfold Region.wanted;split at h
 .rename_i f;cases h;rw[f]
 .rename_i j i f;rw[f];simp only;split at h<;>try cases h
  rename_i d q;have e:=n.get d;unfold yielded;rw[q];simp only[Option.bind_some];split at h
  .rename_i c g;cases h;rw[g]at e;have:=zp e;rw[wK]at this;cases l:a.tmps[d]? with
   |none=>rw[l]at this;cases this
   |some v=>rw[l]at this;cases this;simp[Q7]
  .rename_i g;cases h;rw[g]at e;generalize m:a.tmps.getD d undef=u at e;cases e with
   |tup cs us r p=>
     rw[wK]at m;grind
  .cases h
theorem qFZ(t:yr P C){ex:QG}(q:qcQ P ex){d:Bool}{Q:Exit->Act->World->Prop}{g:S}:∀(b:List Oper) (i:Nat) (s:S) (Γ:Gh) (w:World) (a:Act),(∀j,b[j]?=ops[i+j]?)->zD C ex ops d b s=some g->Inv Γ s.σ w->zu Γ s.tm a->
  (∀Γ' w' D,Ext Γ w Γ' w'->Inv Γ' g.σ w'->zu Γ' g.tm D->qO s.σ g.σ->D.defers=a.defers->Q .normal D w')->wpOps P ops Q (List.range' i b.length) a w
 |[],i,s,Γ,w,a,_,h,n,f,m=>by
   simp only[zD,wB]at h;subst h;exact m Γ w a (.refl _ _) n f (.refl _) rfl
 |o::b,i,s,Γ,w,a,E,h,n,f,m=>by
   have G:ops[i]?=some o:=by simpa using(E 0).symm
   have l:∀j,b[j]?=ops[i+1+j]?:=λ j=>by have:=E (j+1);simpa[wS,wax 1 j]using this
   simp only[wx,List.range'_succ,wpOps,G]
   have F:∀x σ',opA C ex s.tm s.σ o.op=some (x,σ')->zD C ex ops d b ⟨qcM s.tm o.dst x,turn s.σ σ'⟩=some g->o.wp P a w (wpOps P ops Q (List.range' (i+1) b.length)) Q:=by
    intro x σ' c k;refine qJa t q n f c _ _ ?_;intro u w' Γ' e1 K J I;refine qFZ t q b (i+1) _ Γ' w' _ l k K (zu.put (waL e1.le f) o.dst J) ?_;intro e p B A z g3 y v;exact m e p B (e1.trans A) z g3 (I.trans y) (by rw[v];cases H:o.dst<;>rfl)
   simp only[zD]at h;split at h
   .rename_i r;rw[if_pos (qiJ f r)];left;split at h
    .rename_i x c;exact F x none c h
    .rename_i x σ' c;split at h
     .cases h
     .exact F x (some σ') c h
    .cases h
   .rename_i r;rw[if_neg (by rw[qiJ f r];exact kE)];refine qFZ t q b (i+1) _ Γ w _ l h n (zu.put f o.dst (.tup [] [] rfl λ i x u h=>by simp at h)) ?_;intro e p B A z g3 y v;exact m e p B A z g3 y (by rw[v];cases H:o.dst<;>rfl)
   .cases h
end
end Go.AmZ
namespace Go.AmZ
open Go Go.RowKit
section
variable {P:Program}{C:Cfg}{Γ:Gh}{σ:St}{w:World}{ops:Array Oper}{ex:QG}
def qbx(C:Cfg)(ex:QG)(ops:Array Oper)(o:Oper)(s:S)(y:AV×Option St):Prop:=
 (yC ops s.tm o=some true/\opA C ex s.tm s.σ o.op=some y)\/(yC ops s.tm o=some false/\y=(qoc,none))
def yh(s:S)(o:Oper)(y:AV×Option St):S:=⟨qcM s.tm o.dst y.1,turn s.σ y.2⟩
def F(ops:List Oper)(l:List (AV×Option St))(s0:S)(L:Nat->Bool):Nat->S
 |0=>s0
 |k+1=>match ops[k]?,l[k]?,L k with
   |some o,some y,true=>yh (F ops l s0 L k) o y
   |_,_,_=>F ops l s0 L k
def qp:Nat->Bool:=λ _=>true
theorem qxU(o:Oper)(a:List Oper)(y:AV×Option St)(l:List (AV×Option St))(s:S):∀k,F (o::a) (y::l) s qp (k+1)=F a l (yh s o y) qp k
 |0=>rfl
 |k+1=>by
   show(match(o::a)[k+1]?,(y::l)[k+1]?,qp (k+1)with
    |some c,some b,true=>yh (F (o::a) (y::l) s qp (k+1)) c b
    |_,_,_=>F (o::a) (y::l) s qp (k+1))=_
   rw[qxU o a y l s k];simp only[List.getElem?_cons_succ];rfl
theorem qjP:∀(a:List Oper) (s e:S),zD C ex ops true a s=some e->∃l,l.length=a.length/\F a l s qp a.length=e/\
  (∀i o,a[i]?=some o->∃y,l[i]?=some y/\qbx C ex ops o (F a l s qp i) y/\(y.2.isSome=true->zm C.lo o.op=true))/\
  ∀i o y,a[i]?=some o->l[i]?=some y->y.2.isSome=true->qc2 C ops (ops.size-(a.length-i)) (F a l s qp i).tm (F a l s qp i).σ o.op=true
 |[],s,e,h=>by
   simp only[zD,wB]at h;exact⟨[],rfl,h,λ i o c=>by simp at c,λ i o y c=>by simp at c⟩
 |o::a,s,e,h=>by
   have m:∀y,qbx C ex ops o s y->(y.2.isSome=true->zm C.lo o.op=true/\qc2 C ops (ops.size-(a.length+1)) s.tm s.σ o.op=true)->zD C ex ops true a (yh s o y)=some e->∃l,l.length=(o::a).length/\F (o::a) l s qp (o::a).length=e/\
     (∀i d,(o::a)[i]?=some d->∃y,l[i]?=some y/\qbx C ex ops d (F (o::a) l s qp i) y/\(y.2.isSome=true->zm C.lo d.op=true))/\
     ∀i d y,(o::a)[i]?=some d->l[i]?=some y->y.2.isSome=true->qc2 C ops (ops.size-((o::a).length-i)) (F (o::a) l s qp i).tm (F (o::a) l s qp i).σ d.op=true:=by
    intro y q b j;let⟨l,w,v,u,t⟩:=qjP a _ e j;refine⟨y::l,by simp[w],?_,λ i d c=>?_,λ i d p c f n=>?_⟩
    .rw[wx,qxU];exact v
    .cases i with
     |zero=>simp at c;subst c;exact⟨y,rfl,q,λ h=>(b h).1⟩
     |succ i=>
       rw[qxU];simpa using u i d (by simpa using c)
    .cases i with
     |zero=>simp at c f;subst c;subst f;exact(b n).2
     |succ i=>
       rw[qxU,wx,Nat.add_sub_add_right];exact t i d p (by simpa using c) (by simpa using f) n
   simp only[zD]at h;split at h
   .rename_i k;split at h
    .rename_i x g;exact m (x,none) (.inl ⟨k,g⟩) (by simp) h
    .rename_i x σ' g;split at h
     .cases h
     .rename_i r;exact m (x,some σ') (.inl ⟨k,g⟩) (λ _=>by simpa using r) h
    .cases h
   .rename_i k;exact m (qoc,none) (.inr ⟨k,rfl⟩) (by simp) h
   .cases h
theorem qrK{b a:List AV}{xs:List Operand}(h:∀t∈xs.filterMap (λ|.tmp t=>some t|_=>none),b.getD t .dead=a.getD t .dead):∀x∈xs,aev b x=aev a x:=by
 intro x c;cases x with
 |tmp t=>exact h t (kF.2 ⟨_,c,rfl⟩)
 |_=>rfl
theorem qvS{g d:List AV}{op:Op}(h:∀x∈op.operands.toList,aev g x=aev d x):opA C ex g σ op=opA C ex d σ op:=by
 have j:∀ps:Array (Nat×Operand),(∀x∈ps.toList.map (·.2),aev g x=aev d x)->(ps.toList.map λ p=>(p.1,aev g p.2))=ps.toList.map λ p=>(p.1,aev d p.2):=λ ps v=>
  kW λ p A=>by rw[v p.2 (wC.2 ⟨p,A,rfl⟩)]
 cases op with
 |call c=>
   have E:c.args.toList.map (aev g)=c.args.toList.map (aev d):=kW λ x o=>h x (by
    simp only[Op.operands,Call.operands];cases c.callee<;>simp[o]<;>(right;simpa using o))
   simp only[opA,E];cases D:c.callee with
   |builtin b=>rfl
   |value f=>
     have B:aev g f=aev d f:=h f (by simp[Op.operands,Call.operands,D]);simp only[qhp,B]
   |invoke r n=>rfl
 |build t ps=>simp only[opA,qc,j ps (λ x o=>h x (by simpa[Op.operands]using o))]
 |buildSlice t n ps=>
   have v:=j ps (λ x o=>h x (by simpa[Op.operands]using o))
   have e1:(ps.toList.flatMap λ p=>rsA (aev g p.2))=ps.toList.flatMap λ p=>rsA (aev d p.2):=by
    have:=congrArg (λ l=>List.flatMap (λ p:Nat×AV=>rsA p.2) l) v;simpa[vh]using this
   have I:(ps.toList.map λ p=>(cellsOf (aev g p.2)).map (qY σ.rw))=ps.toList.map λ p=>(cellsOf (aev d p.2)).map (qY σ.rw):=by
    have:=congrArg (λ l=>List.map (λ p:Nat×AV=>(cellsOf p.2).map (qY σ.rw)) l) v;simpa[xe,Function.comp]using this
   simp only[opA,qc,v,e1,I]
 |makeFunc f J cs=>
   have z:cs.toList.map (aev g)=cs.toList.map (aev d):=kW λ x o=>h x (by simp only[Op.operands,xn,wj];exact .inr o);cases f<;>simp only[opA,qc,z]
 |slice t x lo w m=>
   cases m with
   |some m=>simp[opA,qc]
   |none=>
     have H:aev g x=aev d x:=h x (by simp[Op.operands])
     have G:lo.map (aev g)=lo.map (aev d):=by
      cases lo with
      |none=>rfl
      |some y=>simp only[k8];rw[h y (by simp[Op.operands])]
     have F:w.map (aev g)=w.map (aev d):=by
      cases w with
      |none=>rfl
      |some y=>simp only[k8];rw[h y (by simp[Op.operands])]
     simp only[opA,qc,H,G,F]
 |move x|assign x=>simp only[opA,qc,h x (by simp[Op.operands])]
 |pick c a b=>simp only[opA,qc,h c (by simp[Op.operands]),h a (by simp[Op.operands]),h b (by simp[Op.operands])]
 |box e x|load t x=>simp only[opA,qc,h x (by simp[Op.operands])]
 |store t x y|makeSlice t x y=>simp only[opA,qc,h x (by simp[Op.operands]),h y (by simp[Op.operands])]
 |nilCheck x=>simp only[opA,qc,h x (by simp[Op.operands])]
 |binOp op t x y u=>simp only[opA,qc,h x (by simp[Op.operands]),h y (by simp[Op.operands])]
 |unOp op t x|convert s t x|fieldAddr t x i|field t x i=>simp only[opA,qc,h x (by simp[Op.operands])]
 |indexAddr t x y|index t x y=>simp only[opA,qc,h x (by simp[Op.operands]),h y (by simp[Op.operands])]
 |extract x i=>simp only[opA,qc,h x (by simp[Op.operands])]
 |makeMap t r=>cases r<;>simp only[opA,qc]
 |lookup t m k q=>simp only[opA,qc,h m (by simp[Op.operands]),h k (by simp[Op.operands])]
 |mapUpdate t m k y|insert t m k y=>simp only[opA,qc,qcS,h m (by simp[Op.operands]),h k (by simp[Op.operands]),h y (by simp[Op.operands])]
 |_=>simp only[opA,qc]
theorem qkA{b a:List AV}{o:Oper}(h:∀t∈qbr ops o,b.getD t .dead=a.getD t .dead):yC ops b o=yC ops a o:=by
 grind [yC,qbr]
theorem qBl{x:AV}(h:rsC x=[])(rw a:List Row):qY a x=qY rw x:=by
 cases x<;>first|rfl|(cases h;done)
theorem qnZ{x:AV}(h:rsA x=[]):∀c∈cellsOf x,rsC c=[]:=by
 cases x with
 |agg cs=>exact λ c a=>kM.1 h c a
 |_=>intro c a;rw[wD.1 a];exact h
theorem qGC{ps:List (Nat×AV)}(h:∀p∈ps,rsA p.2=[])(k n:Nat)(rw a:List Row):qiX k n a ps=qiX k n rw ps:=by
 unfold qiX;congr 1;rw[xB,ww,ww]
 have e:∀p∈ps.zipIdx,((cellsOf p.1.2).all λ x=>qv (qY a x))=(cellsOf p.1.2).all λ x=>qv (qY rw x):=λ p b=>by
  have c:p.1∈ps:=(vV.1 b)|> λ h=>wb h
  rw[xB,ww,ww];grind [qBl,qnZ]
 grind
theorem qEE{i:List AV}{τ:St}{op:Op}{x:AV}(d:Qd op=false)(u:zm C.lo op=false)(h:opA C ex i σ op=some (x,none)):opA C ex i τ op=some (x,none):=by
 cases op with
 |call c=>
   let⟨z,B,A⟩:=c;cases z with
   |builtin b=>
     cases b<;>try (simp[Qd]at d;done)
     all_goals
      simp only[opA]at h |-
      rw[<-h];generalize B.toList.map (aev i)=g;unfold jH
      obtain _|⟨p,_|⟨q,_|⟨r,l⟩⟩⟩:=g<;>first
       |rfl
       |(cases p<;>first|rfl|(rename_i v;cases v<;>first|rfl|(cases q<;>first|rfl|(rename_i o;cases o<;>rfl))))
   |value f|invoke r n=>simp[Qd]at d
 |load t x|store t x y=>simp[Qd]at d
 |buildSlice t n ps=>
   simp only[opA,qc]at h |-
   split at h<;>try cases h
   rename_i E;split at h<;>try cases h
   rename_i j;split at h<;>cases h;rename_i w
   have s:∀p∈ps.toList.map (λ p=>(p.1,aev i p.2)),rsA p.2=[]:=λ p j=>by
    grind [List.flatMap_eq_nil_iff]
   rw[qGC s _ _ σ.rw τ.rw,j];simp only[w];congr 3;grind [List.map_congr_left,qBl,qnZ,List.flatMap_eq_nil_iff]
 |indexAddr t x y|lookup t m k q|mapUpdate t m k y|insert t m k y=>simp[Qd]at d
 |makeMap t r=>simp[zm]at u
 |convert a b y=>simp[Qd]at d
 |slice t x lo D m=>
   cases m with
   |some m=>exact h
   |none=>
     simp only[opA,qc]at h;split at h
     .simp_all [opA,qc]
     .simp_all [opA,qc]
     .simp_all [opA,qc]
     .grind
     .cases h
 |alloc e=>
   simp only[opA,qc]at h;grind
 |box e y=>
   simp only[opA,qc]at h;grind
 |makeFunc f F cs=>cases f<;>exact h
 |makeSlice t a b=>
   simp only[opA,qc]at h |-
   split at h<;>try cases h
   split at h<;>try cases h
   grind
 |_=>exact h
end
end Go.AmZ
