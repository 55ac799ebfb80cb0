/- Part 1 of what the proofs stand on: plain functions of the program, and that they are its functions. -/
import Derived.WalkKit
import Derived.WalkSpells
import Derived.WalkLawsBesides
import Derived.Lib.Hide
import Derived.Laws.AppendOwnNone
import Derived.BigQuiet
import Derived.Laws.CopyRow
import Derived.Laws.Pointers
import Derived.Laws.Small
import Derived.Laws.Tables
import Derived.ArgAppend
import Derived.Laws.AppendOwn
import Derived.Laws.MakeOwn
import Derived.Laws.BytesArg
import Derived.Deep.Upon
import Derived.Lib.ConvBytes
import Derived.Laws.StructEq
import Derived.MapKept
import Derived.Laws.Sem
import Derived.Orders
set_option linter.unusedVariables false
set_option linter.unusedSimpArgs false
noncomputable section
namespace Go
abbrev wa:=@Nat.le_refl
abbrev wb:=@Bool.and_eq_true
abbrev wc:=@List.mem_of_getElem?
abbrev wd:=@List.length_append
abbrev we:=@List.eq_nil_of_length_eq_zero
abbrev wg:=@Nat.eq_of_beq_eq_true
abbrev wh:=@Nat.zero_le
abbrev wi:=@List.mem_append
abbrev wj:=@List.mem_cons_of_mem
abbrev wk:=@List.append_assoc
abbrev wm:=@Nat.mul_le_mul_right
abbrev wn:=@Option.some.injEq
abbrev wo:=@List.all_eq_true
abbrev wu:=@List.length_take
abbrev wv:=@Nat.lt_of_lt_of_le
abbrev ww:=@List.mem_cons_self
abbrev wx:=@List.length_map
abbrev wy:=@Nat.zero_add
abbrev wz:=@List.map_cons
abbrev wA:=@List.append_nil
abbrev wB:=@List.length_cons
abbrev wC:=@Nat.le_trans
abbrev wD:=@Nat.not_lt_zero
abbrev wE:=@List.length_set
abbrev wF:=@List.mem_singleton
abbrev wG:=@Prod.mk.injEq
abbrev wH:=@Array.getD_eq_getD_getElem?
abbrev wI:=@List.mem_map
abbrev wJ:=@Bool.not_eq_true'
abbrev wK:=@Array.length_toList
abbrev wL:=@Nat.add_zero
abbrev wM:=@List.mem_cons
abbrev wN:=@Nat.add_assoc
abbrev wO:=@List.mem_of_mem_drop
abbrev wP:=@List.drop_zero
abbrev wQ:=@List.getElem_mem
abbrev wR:=@List.length_drop
abbrev wS:=@Nat.add_mul
abbrev wT:=@List.mem_of_mem_take
abbrev wU:=@Nat.le_succ
abbrev wV:=@List.size_toArray
abbrev wW:=@Bool.or_eq_true
abbrev wX:=@List.mem_flatMap
abbrev wY:=@Nat.le_of_ble_eq_true
abbrev wZ:=@List.filterMap_append
abbrev w7:=@Nat.le_add_right
abbrev ke:=@List.all_cons
abbrev kg:=@List.append_eq_nil_iff
abbrev kh:=@Nat.min_eq_left
abbrev km:=@List.drop_length
abbrev ko:=@Nat.zero_mul
abbrev kr:=@Option.map_some
abbrev kw:=@List.length_eq_zero_iff
abbrev ky:=@List.flatMap_eq_nil_iff
abbrev kz:=@Option.some.inj
abbrev kC:=@List.length_nil
abbrev kD:=@List.nil_append
abbrev kE:=@List.mem_filter
abbrev kF:=@Bool.and_self
abbrev kG:=@Nat.add_sub_cancel_left
abbrev kH:=@List.take_append_of_le_length
abbrev kI:=@Classical.byContradiction
abbrev kJ:=@Bool.true_and
abbrev kK:=@List.map_append
abbrev kL:=@Nat.succ_mul
abbrev kM:=@List.mem_range
abbrev kN:=@List.nodup_nil
abbrev kO:=@List.nodup_cons
abbrev kP:=@Nat.sub_self
abbrev kQ:=@List.mem_filterMap
abbrev kR:=@List.take_of_length_le
abbrev kS:=@List.map_congr_left
abbrev kT:=@List.take_append_drop
abbrev kU:=@List.mem_zipIdx_iff_getElem?
abbrev kV:=@Nat.lt_succ_self
abbrev kW:=@List.not_mem_nil
abbrev kX:=@Nat.succ_le_succ
abbrev kY:=@Bool.and_true
abbrev kZ:=@Array.toList_replicate
abbrev k8:=@List.flatMap_cons
abbrev k9:=@List.ext_getElem?
abbrev xa:=@Array.toList_append
abbrev xb:=@List.mem_map_of_mem
abbrev xc:=@List.map_map
abbrev xd:=@Bool.false_ne_true
abbrev xe:=@List.filterMap_cons_some
abbrev xg:=@Bool.or_eq_false_iff
abbrev xh:=@Bool.false_and
abbrev xi:=@Array.toList_setIfInBounds
abbrev xj:=@List.length_replicate
abbrev xk:=@Bool.false_eq_true
abbrev xl:=@Nat.one_mul
abbrev xm:=@Option.map_none
abbrev xn:=@Nat.succ_pos
abbrev xo:=@List.filterMap_cons_none
abbrev xp:=@Array.size_append
abbrev xq:=@List.isEmpty_iff
abbrev xr:=@Nat.le_of_lt
abbrev xt:=@List.foldl_cons
abbrev xu:=@Int.toNat_natCast
abbrev xw:=@Ne.symm
abbrev xx:=@Bool.not_false
abbrev xy:=@List.take_take
abbrev xz:=@Nat.mul_comm
abbrev xA:=@Array.size_setIfInBounds
abbrev xB:=@Nat.mod_eq_of_lt
abbrev xC:=@Bool.not_eq_true
abbrev xD:=@List.take_length
abbrev xE:=@List.length_pos_iff
abbrev xF:=@List.filter_cons_of_neg
abbrev xG:=@List.filter_cons_of_pos
abbrev xH:=@Bool.eq_iff_iff
abbrev xI:=@List.length_eq_one_iff
abbrev xJ:=@List.take_add_one
abbrev xK:=@List.length_range
abbrev xL:=@Nat.div_lt_iff_lt_mul
abbrev xM:=@List.mem_append_right
abbrev xN:=@Bool.and_eq_false_iff
abbrev xO:=@UInt8.lt_iff_toNat_lt
abbrev xP:=@Nat.mod_lt
abbrev xQ:=@Array.toArray_toList
abbrev xR:=@Array.toList_map
abbrev xS:=@List.mem_append_left
abbrev xT:=@List.flatMap_map
abbrev xU:=@Nat.lt_irrefl
abbrev xV:=@List.sum_cons
abbrev xW:=@List.filterMap_cons
abbrev xX:=@Nat.div_add_mod
abbrev xY:=@List.drop_eq_getElem_cons
abbrev xZ:=@Nat.eq_zero_or_pos
abbrev vb:=@Nat.add_right_comm
abbrev vc:=@Bool.or_true
abbrev vd:=@Bool.true_or
abbrev ve:=@Nat.ne_of_lt
abbrev vf:=@Nat.le_of_eq
abbrev vg:=@Int.eq_ofNat_of_zero_le
abbrev vh:=@List.zipIdx_cons
abbrev vj:=@Array.size_range
abbrev vk:=@List.countP_replicate
abbrev vl:=@Nat.le_max_left
abbrev vm:=@List.contains_eq_mem
abbrev vp:=@Nat.add_le_add_left
abbrev vq:=@List.take_set_of_le
abbrev vt:=@Nat.mul_le_mul_left
abbrev vu:=@Nat.lt_of_le_of_lt
abbrev vw:=@List.length_modify
abbrev vx:=@List.idxOf_lt_length_of_mem
abbrev vy:=@Bool.not_eq_false'
abbrev vA:=@Bool.false_or
abbrev vB:=@List.any_eq_false
abbrev vC:=@Function.comp_def
abbrev vD:=@Array.size_mapIdx
abbrev vF:=@Nat.mul_sub_right_distrib
abbrev vG:=@List.map_nil
abbrev vH:=@Nat.le_max_right
abbrev vJ:=@List.eq_of_mem_replicate
abbrev vK:=@Nat.lt_of_not_le
abbrev vL:=@List.all_map
abbrev vM:=@Nat.succ_lt_succ
abbrev vN:=@Option.isSome_iff_exists
abbrev vO:=@Nat.zero_lt_one
abbrev vP:=@List.filter_nil
abbrev vQ:=@Nat.mul_pos
abbrev vR:=@Nat.mul_one
abbrev vS:=@List.filter_eq_nil_iff
abbrev vU:=@Nat.sub_mul
abbrev vV:=@List.drop_eq_nil_of_le
abbrev vW:=@List.contains_iff_mem
abbrev vX:=@List.length_singleton
abbrev vY:=@List.mem_iff_getElem?
abbrev vZ:=@Nat.ble_eq_true_of_le
abbrev waa:=@Nat.blt_eq
abbrev wab:=@Bool.not_true
abbrev wac:=@List.any_cons
abbrev wad:=@Nat.add_comm
end Go
namespace Go.GxZ
open Go.RowKit
theorem qzU{α:Type}(e:Ask α):∀w:World,w.drawn<=(w.ask e).2.drawn:=by
 induction e with
 |done a=>exact λ w=>wa _
 |ask c b k d=>
   intro w;unfold World.ask;grind
theorem qz2(w:World)(c:Sys):w.drawn<=(w.sys c).2.drawn:=by
 have h:=qzU (Kernel.perform c w.os) w;unfold World.sys;grind
theorem qzN{p:Program}{w w':World}{a:Addr}{v:Value}{b:Bool}{l:List Addr}(h:w.farStore p a v b=.ok (w',l)):w'.drawn=w.drawn:=by
 unfold World.farStore at h;split at h
 .split at h
  .rename_i r c;cases h;unfold World.viewStore at c;simp only[bind,Except.bind,pure,Except.pure,throw,throwThe,MonadExceptOf.throw]at c
   repeat' split at c
   all_goals first|(cases c;done)|(cases c;rfl)|skip
  .cases h
 .cases h
theorem run_drawn{p:Program}{α : Type}(e:Sem α):∀{w w':World} {a : α},e.run p w = .ok a w'->w.drawn<=w'.drawn:=by
 induction e with
 | pure a=>intro w w' b h;cases h;exact wa _
 | load m a k d =>
   intro w w' b h;simp only[Sem.run]at h;grind
 | store m a v k d =>
   intro w w' b h
   cases v<;>simp only[Sem.run]at h<;>first
    | (cases h;done)
    | (split at h
       ·split at h
        ·cases h
        ·have:=d h;exact this
       ·split at h
        ·rename_i f;have:=d h;rw[qzN f]at this;exact this
        ·cases h)
 | new o k d=>intro w w' b h;simp only[Sem.run]at h;have:=d _ h;exact this
 | shape r k d=>intro w w' b h;simp only[Sem.run]at h;exact d _ h
 | freeze a n k d =>
   intro w w' b h;simp only[Sem.run]at h;have:=d h;have e:(w.freeze a n).drawn=w.drawn:=by unfold World.freeze;split<;>rfl
   rw[e]at this;exact this
 | frozen a k d=>intro w w' b h;simp only[Sem.run]at h;exact d _ h
 | getObj r k d =>
   intro w w' b h;simp only[Sem.run]at h;grind
 | setObj r o k d =>
   intro w w' b h;simp only[Sem.run]at h;grind
 | choose q k d =>
   intro w w' b h;simp only[Sem.run]at h;grind
 | sys c k d =>
   intro w w' b h;simp only[Sem.run]at h;exact wC (qz2 w c) (d _ h)
 | program k d=>intro w w' b h;simp only[Sem.run]at h;exact d _ h
 | mark m k d=>intro w w' b h;simp only[Sem.run]at h;exact d h
 | halt h=>intro w w' b h;simp only[Sem.run]at h;cases h
structure qGm (B:Nat) (w:World) where
 val:World
 below:Below B w val
instance (B:Nat)(w:World):Nonempty (qGm B w):=⟨⟨w,Below.refl _ _⟩⟩
end Go.GxZ
namespace Go.AmZ
open Go
inductive KC where
 |str|int (k:IntKind)|bool
 deriving DecidableEq
inductive AV where
 |v (x:Value)
 |dead
 |sl (k:Nat) (es:List (List AV)) (lv:Nat)
 |rs (r lo n ep:Nat) (full:Bool)
 |ptr (b o:Nat)
 |rpt (r i o ep:Nat)
 |ept (cs:List AV) (o:Nat)
 |fn (f:FuncId) (caps:List AV)
 |agg (cs:List AV)
 |tup (vs:List AV)
 |mp (b:Nat)
 |mc (kc:List KC) (ka va:Bool) (ks vs:List (List AV))
 deriving Inhabited
structure Row where
 k:Nat
 c:List (List AV)
 ver:Nat
 fz:Nat
 off:Bool
structure St where
 bx:List (List AV)
 rw:List Row
 wr:List Nat
 wrr:List Nat
structure S where
 tm:List AV
 σ:St
inductive TK where
 |other|bool|int (k:IntKind)|string|ptr|slice (e esz ebytes:Nat) (ez:List Value)|struct (fs:List (Nat×Nat×Bool))|array (n e esz:Nat)|map (kc:List KC) (ka va:Bool) (vn:Nat) (vz:List Value)
structure TD where
 size:Nat
 bytes:Nat
 agg:Bool
 zero:List Value
 k:TK
def qmF:TypeDesc->Bool
 |.struct _|.array _ _=>true
 |_=>false
def fieldsOf(P:Program):List Field->Option (List (Nat×Nat×Bool))
 |[]=>some []
 |f::a=>match P.info? f.type,P.underlying f.type,fieldsOf P a with
   |some i,some u,some l=>some ((f.offset,i.size,qmF u)::l)
   |_,_,_=>none
def qFU:Value->Bool
 |.agg _=>true
 |_=>false
def kc1(P:Program)(t:TypeId):Option KC:=match P.underlying t with
 |some .string=>some .str
 |some (.int k)=>some (.int k)
 |some .bool=>some .bool
 |_=>none
def kcs(P:Program):List Field->Nat->Option (List KC)
 |[],_=>some []
 |f::a,o=>match decide (f.offset=o/\f.name≠"_"),kc1 P f.type,kcs P a (o+1)with
   |true,some c,some l=>some (c::l)
   |_,_,_=>none
def qfs(P:Program)(t:TypeId):Option (List KC×Bool):=match P.underlying t with
 |some (.struct a)=>match P.stoodInHeld t,kcs P a.toList 0 with
   |false,some l=>some (l,true)
   |_,_=>none
 |_=>match kc1 P t with
   |some c=>some ([c],false)
   |none=>none
def qpL(P:Program)(k e:TypeId):Option TK:=match qfs P k,P.info? e,P.underlying e with
 |some (a,b),some i,some u=>match i.zero with
   |some z=>match qFU z,qmF u with
     |true,true=>some (.map a b true i.size z.cells.toList)
     |false,false=>some (.map a b false i.size z.cells.toList)
     |_,_=>some .other
   |none=>some .other
 |_,_,_=>some .other
def qFi:TK->Bool
 |.other|.map .. => true
 |_=>false
theorem qc4{P:Program}{k e:TypeId}{x:TK}(h:qpL P k e=some x):qFi x=true:=by
 unfold qpL at h
 repeat' split at h
 all_goals cases h;rfl
def Jl(P:Program):TypeDesc->Option TK
 |.bool=>some .bool
 |.int k=>some (.int k)
 |.string=>some .string
 |.pointer _=>some .ptr
 |.slice e=>match P.info? e with
   |some i=>match i.zero with
     |some z=>some (.slice e i.size i.bytes z.cells.toList)
     |none=>none
   |none=>none
 |.struct a=>(fieldsOf P a.toList).map .struct
 |.array n e=>match P.info? e with
   |some i=>some (.array n e i.size)
   |none=>none
 |.map k e=>qpL P k e
 |_=>some .other
def zJ(P:Program)(t:TypeId):Option TD:=
 match P.info? t,P.underlying t with
 |some i,some u=>match i.zero,Jl P u with
   |some z,some k=>some ⟨i.size,i.bytes,qmF u,z.cells.toList,k⟩
   |_,_=>none
 |_,_=>none
def iw(k:IntKind)(n:Int):Int:=k.wrap n
def qj(a b:Int):Int:=a+b
def qbN(a b:Int):Int:=a-b
def qBs(a b:Int):Int:=a*b
def qyn(a b:Int):Int:=a.tdiv b
def qvU(a b:Int):Int:=a.tmod b
def ieq(a b:Int):Bool:=a==b
def ilt(a b:Int):Bool:=decide (a<b)
def ile(a b:Int):Bool:=decide (a<=b)
def qiH(a b:Int):Int:=if a<b then b else a
def qDq(a b:Int):Int:=if b<a then b else a
def qky(op:BinOp)(k:IntKind)(a b:Int):Int:=
 match op with
 |.and=>k.wrap (BitVec.ofInt k.bits a&&&BitVec.ofInt k.bits b).toNat
 |.or=>k.wrap (BitVec.ofInt k.bits a|||BitVec.ofInt k.bits b).toNat
 |.xor=>k.wrap (BitVec.ofInt k.bits a ^^^ BitVec.ofInt k.bits b).toNat
 |_=>k.wrap (BitVec.ofInt k.bits a &&& ~~~BitVec.ofInt k.bits b).toNat
def qCx(k:IntKind)(a b:Int):Int:=k.wrap (a*2^(min b.toNat k.bits))
def qsd(k:IntKind)(a b:Int):Int:=a.fdiv (2^(min b.toNat k.bits))
def qh(a:Bool):Bool := !a
def jP(a b:Bool):Bool:=a==b
def xeq(a b:ByteArray):Bool:=a.data.toList==b.data.toList
def xlt(a b:ByteArray):Bool:=Op.bytesLess a.data.toList b.data.toList
def qlD(a b:Bool):Bool:=a||b
def qyM(a b:ByteArray):Option ByteArray:=if((a.size+b.size:Nat):Int)>IntKind.i64.max then none else some (a++b)
def qku(a:ByteArray):Nat:=a.size
def qzx(s:ByteArray)(j:Int):Option Int:=if 0<=j then(match s.data.toList[j.toNat]? with
 |some b=>some b.toNat
 |none=>none)else none
def quO(s:ByteArray)(l h:Nat):ByteArray:=s.extract l h
def bnd(y:Nat)(i:Int):Option Nat:=if 0<=i/\i<=y then some i.toNat else none
def QU(es:List (List AV)):Nat:=es.length
def qro(es:List (List AV))(j:Int):Option (List AV):=if 0<=j then es[j.toNat]? else none
def qzn(es:List (List AV))(l h:Nat):List (List AV):=(es.take h).drop l
def qJ(a b:Nat):Bool:=decide (a=b)
def lv1:Nat->Nat
 |0=>0
 |_+1=>1
def lvS(f:Nat)(b:Bool):Nat:=match decide (1<f)&&b with|true=>2|false=>1
def pos(n:Nat):Bool:=decide (0<n)
def qk:AV->Bool
 |.v _|.sl _ _ _|.mc .. => true
 |_=>false
def uni(k:Nat)(es:List (List AV)):Bool:=es.all λ e=>decide (e.length=k)&&e.all qk
def qf9(R:Row)(k lo n a:Nat):Option (List (List AV)):=if R.k=k/\R.ver=a/\lo+n<=R.c.length then some ((R.c.drop lo).take n)else none
def qt8(R:Row)(k lo n a:Nat)(j:Int):Option Nat:=if R.k=k/\0<=j/\j<n/\R.ver=a/\lo+n<=R.c.length then some (lo+j.toNat)else none
def qmX(R:Row)(i a:Nat):Option (List AV):=if R.ver=a then R.c[i]? else none
def qm0(R:Row)(k lo n a:Nat)(f:Bool)(bytes:Nat)(xs:List (List AV)):Option (Row×Nat):=
 if R.k=k/\R.ver=a/\n=R.c.length/\lo=0/\f=false/\R.fz<=R.c.length/\(n+xs.length)*bytes<=2^47/\n+xs.length<2^62 then some ({R with c:=R.c++xs,ver:=R.ver+1},n+xs.length)else none
def rowNew(k bytes:Nat)(xs:List (List AV)):Option (Row×Nat):=if xs.length*bytes<=2^47/\xs.length<2^62 then some (⟨k,xs,0,0,false⟩,xs.length)else none
def quf(R:Row)(k lo n a l:Nat):Option Row:=
 if R.k=k/\R.ver=a/\n=R.c.length/\lo=0/\l<=n/\R.fz<=R.c.length then some {R with c:=R.c.drop l,ver:=R.ver+1,fz:=R.fz-l,off:=true}else none
def qne(R:Row)(i o a size:Nat)(xs:List AV):Option Row:=match decide (R.ver=a/\R.fz<=i/\o+size<=R.k/\xs.length=size/\R.off=false)&&xs.all qk,R.c[i]? with
 |true,some e=>some {R with c:=R.c.set i (e.take o++(xs++e.drop (o+size)))}
 |_,_=>none
def JG(b:ByteArray):List (List AV):=b.data.toList.map λ c=>[.v (.int .u8 c.toNat)]
def qy3:List AV->Option UInt8
 |[.v (.int .u8 n)]=>some (UInt8.ofNat n.toNat)
 |_=>none
def qm4:List (List AV)->Option (List UInt8)
 |[]=>some []
 |e::l=>match qy3 e,qm4 l with
   |some b,some r=>some (b::r)
   |_,_=>none
def qml:AV->Bool
 |.ptr _ _|.rpt _ _ _ _|.ept _ _=>true
 |_=>false
def qvH:AV->Bool
 |.v (.pointer none)=>true
 |_=>false
def qle:Option TD->Bool
 |some ⟨_,_,_,_,.int .u8⟩=>true
 |_=>false
def qg6(es xs:List (List AV)):List (List AV):=es++xs
def qel(R:Row):Row:={R with fz:=max R.fz R.c.length}
def qS:Value->Bool
 |.bool _|.int _ _|.string _|.pointer none|.slice none 0 0|.map none|.nilFunc|.nilIface=>true
 |_=>false
def ofC(x:Value):AV:=match qS x with|true=>.v x|false=>.dead
def qmV:Value->AV
 |.agg cs=>match cs.toList.all qS with
   |true=>.agg (cs.toList.map .v)
   |false=>.dead
 |.tuple vs=>match vs.toList with
   |[]=>.tup []
   |_=>.dead
 |x=>ofC x
def aev(a:List AV):Operand->AV
 |.tmp t=>a.getD t .dead
 |.const x=>qmV x
 |.func f=>.fn f []
 |.global _=>.dead
def cellsOf:AV->List AV
 |.agg cs=>cs
 |x=>[x]
def isC:AV->Bool
 |.agg _|.tup _|.dead=>false
 |_=>true
def elems(rw:List Row)(k:Nat):AV->Option (List (List AV))
 |.v (.slice none 0 0)=>some []
 |.sl a es _=>match qJ a k with
   |true=>some es
   |false=>none
 |.rs r lo n b _=>match rw[r]? with
   |some R=>qf9 R k lo n b
   |none=>none
 |_=>none
def qB(rw:List Row):AV->AV
 |.sl k es f=>.sl k es (lv1 f)
 |.rs r lo n a _=>match rw[r]? with
   |some R=>match qf9 R R.k lo n a with
     |some es=>.sl R.k es 1
     |none=>.dead
   |none=>.dead
 |x=>x
def yb(rw:List Row):AV->AV
 |.agg cs=>.agg (cs.map (qB rw))
 |x=>qB rw x
def rsC:AV->List Nat
 |.rs r _ _ _ _=>[r]
 |_=>[]
def rsA:AV->List Nat
 |.agg cs=>cs.flatMap rsC
 |x=>rsC x
def frz(rw:List Row)(a:List Nat):List Row:=a.foldl (λ l r=>l.modify r qel) rw
mutual
def rb:AV->List Nat
 |.ptr b _|.mp b=>[b]
 |.fn _ cs|.agg cs|.tup cs=>rbL cs
 |_=>[]
def rbL:List AV->List Nat
 |[]=>[]
 |x::l=>rb x++rbL l
end
mutual
def rr:AV->List Nat
 |.rs r _ _ _ _|.rpt r _ _ _=>[r]
 |.fn _ cs|.agg cs|.tup cs=>rrL cs
 |_=>[]
def rrL:List AV->List Nat
 |[]=>[]
 |x::l=>rr x++rrL l
end
mutual
def ren(fb fr:Nat->Nat):AV->AV
 |.ptr b o=>.ptr (fb b) o
 |.mp b=>.mp (fb b)
 |.rs r lo n a f=>.rs (fr r) lo n a f
 |.rpt r i o a=>.rpt (fr r) i o a
 |.fn f cs=>.fn f (qD fb fr cs)
 |.agg cs=>.agg (qD fb fr cs)
 |.tup cs=>.tup (qD fb fr cs)
 |x=>x
def qD(fb fr:Nat->Nat):List AV->List AV
 |[]=>[]
 |x::l=>ren fb fr x::qD fb fr l
end
def refs(nb a:Nat)(x:AV):Bool:=(rb x).any (λ b=>decide (nb<=b))||(rr x).any λ r=>decide (a<=r)
def qo7 (b:Nat) (rw:List Row):AV->AV
 | .sl k es f => .sl k es (lv1 f)
 | .rs r lo n a f=>match decide (b<=r) with
   | true=>qB rw (.rs r lo n a f)
   | false => .rs r lo n a f
 | x=>x
def qft(a:Nat)(rw:List Row):AV->AV
 |.agg cs=>.agg (cs.map (qo7 a rw))
 |x=>qo7 a rw x
def qeG(a:Nat)(rw:List Row):AV->AV
 |.tup vs=>.tup (vs.map (qft a rw))
 |x=>qft a rw x
def qap(a:Bool)(size:Nat)(cs:List AV)(o:Nat):Option AV:=
 match a with
 |true=>match decide (o+size<=cs.length)with
   |true=>some (.agg ((cs.drop o).take size))
   |false=>none
 |false=>cs[o]?
def noMc:List AV->Bool
 |[.mc ..]=>false
 |_=>true
def yu(d:TD)(σ:St):AV->Option AV
 |.ptr b o=>match σ.bx[b]? with
   |some cs=>match noMc cs with
     |true=>qap d.agg d.size cs o
     |false=>none
   |none=>none
 |.rpt r i o a=>match σ.rw[r]? with
   |some R=>match qmX R i a with
     |some cs=>qap d.agg d.size cs o
     |none=>none
   |none=>none
 |.ept cs o=>qap d.agg d.size cs o
 |_=>none
def qvn(op:BinOp)(k:IntKind)(a b:Int):Option Value:=
 match op with
 |.add=>some (.int k (iw k (qj a b)))
 |.sub=>some (.int k (iw k (qbN a b)))
 |.mul=>some (.int k (iw k (qBs a b)))
 |.quo=>match ieq b 0 with
   |true=>none
   |false=>some (.int k (iw k (qyn a b)))
 |.rem=>match ieq b 0 with
   |true=>none
   |false=>some (.int k (qvU a b))
 |.and=>some (.int k (qky .and k a b))
 |.or=>some (.int k (qky .or k a b))
 |.xor=>some (.int k (qky .xor k a b))
 |.andNot=>some (.int k (qky .andNot k a b))
 |.eql=>some (.bool (ieq a b))
 |.neq=>some (.bool (qh (ieq a b)))
 |.lss=>some (.bool (ilt a b))
 |.leq=>some (.bool (ile a b))
 |.gtr=>some (.bool (ilt b a))
 |.geq=>some (.bool (ile b a))
 |_=>none
def qvZ(op:BinOp)(x y:ByteArray):Option Value:=
 match op with
 |.add=>match qyM x y with
   |some z=>some (.string z)
   |none=>none
 |.eql=>some (.bool (xeq x y))
 |.neq=>some (.bool (qh (xeq x y)))
 |.lss=>some (.bool (xlt x y))
 |.leq=>some (.bool (qlD (xlt x y) (xeq x y)))
 |.gtr=>some (.bool (qh (qlD (xlt x y) (xeq x y))))
 |.geq=>some (.bool (qh (xlt x y)))
 |_=>none
def qlp(op:BinOp)(x y:Value):Option Value:=
 match x,y with
 |.int k a,.int c b=>match op with
   |.shl=>match ilt b 0 with
     |true=>none
     |false=>some (.int k (qCx k a b))
   |.shr=>match ilt b 0 with
     |true=>none
     |false=>some (.int k (qsd k a b))
   |op=>match decide (k=c)with
     |true=>qvn op k a b
     |false=>none
 |.string a,.string b=>qvZ op a b
 |_,_=>none
def unA(op:UnOp)(x:Value):Option Value:=
 match op,x with
 |.neg,.int k n=>some (.int k (iw k (qbN 0 n)))
 |.not,.bool b=>some (.bool (qh b))
 |_,_=>none
def qit(place:Nat->Option (Nat×Nat))(cells:List AV):List (Nat×AV)->Option (List AV)
 |[]=>some cells
 |(i,x)::a=>match place i with
   |none=>none
   |some (off,size)=>match decide ((cellsOf x).length=size)&&decide (off+size<=cells.length)&&(cellsOf x).all isC with
     |true=>qit place (cells.take off++(cellsOf x++cells.drop (off+size))) a
     |false=>none
def qpC(y:Nat):AV->Option Nat
 |.v (.int _ i)=>bnd y i
 |_=>none
def qay(d:Nat)(y:Nat):Option AV->Option Nat
 |none=>some d
 |some x=>qpC y x
structure Cfg where
 ty:Nat->Option TD
 fn:Nat->Option Func
 prim:Nat->Option (St->List AV->Option (AV×Option St))
 raw:Nat->Bool
 pur:Code->List Nat
 lo:Nat->Bool
 inl:Nat->Option Func
def qeP(k n:Nat)(rw:List Row)(ps:List (Nat×AV)):Bool:=
 decide (ps.length=n)&&decide (n*k<=2^24)&&decide (0<k)&&(ps.zipIdx).all λ p=>decide (p.1.1=p.2)&&decide ((cellsOf p.1.2).length=k)&&(cellsOf p.1.2).all λ x=>qk (qB rw x)
def zo:List KC->List AV->Bool
 |[],[]=>true
 |.str::l,.v (.string _)::r=>zo l r
 |.int k::l,.v (.int a _)::r=>decide (a=k)&&zo l r
 |.bool::l,.v (.bool _)::r=>zo l r
 |_,_=>false
def qbA:AV->AV->Bool
 |.v (.string a),.v (.string b)=>xeq a b
 |.v (.int _ a),.v (.int _ b)=>ieq a b
 |.v (.bool a),.v (.bool b)=>jP a b
 |_,_=>false
def yn:List AV->List AV->Bool
 |[],[]=>true
 |x::l,y::r=>qbA x y&&yn l r
 |_,_=>false
def Qx(k:List AV):List (List AV)->Nat->Option Nat
 |[],_=>none
 |e::es,i=>match yn k e with
   |true=>some i
   |false=>Qx k es (i+1)
def jn:AV->Bool
 |.agg _=>true
 |_=>false
def jp(g:Bool)(cs:List AV):AV:=match g with
 |true=>.agg cs
 |false=>match cs with
   |[x]=>x
   |_=>.dead
def qkq(σ:St)(f:List KC)(g e:Bool):AV->Option (Nat×List (List AV)×List (List AV))
 |.mp b=>match σ.bx[b]? with
   |some [.mc c d a ks vs]=>match decide (c=f)&&(jP d g&&jP a e)with
     |true=>some (b,ks,vs)
     |false=>none
   |_=>none
 |_=>none
def qkk(a:List KC)(b:Bool)(x:AV):Bool:=jP (jn x) b&&zo a (cellsOf x)
def qq3(b:Bool)(a:Nat)(x:AV):Bool:=jP (jn x) b&&decide ((cellsOf x).length=a)&&(cellsOf x).all qk
def qnb(c:List KC)(a:Bool)(b:List Value)(ks vs:List (List AV))(k:List AV):Option (AV×Bool):=match Qx k ks 0 with
 |some j=>match vs[j]? with
   |some v=>some (jp a v,true)
   |none=>none
 |none=>some (jp a (b.map .v),false)
def qdt(ks vs:List (List AV))(k v:List AV):List (List AV)×List (List AV):=match Qx k ks 0 with
 |some j=>(ks,vs.set j v)
 |none=>(ks++[k],vs++[v])
def qaj(C:Cfg)(a:List AV)(σ:St)(t:Nat)(x k v:Operand):Option (AV×Option St):=match C.ty t with
 |some ⟨_,_,_,_,.map d e c f _⟩=>match qkq σ d e c (aev a x),qkk d e (aev a k)&&qq3 c f (aev a v)with
   |some (b,ks,vs),true=>some (.tup [],some {σ with bx:=σ.bx.set b [.mc d e c (qdt ks vs (cellsOf (aev a k)) (cellsOf (aev a v))).1 (qdt ks vs (cellsOf (aev a k)) (cellsOf (aev a v))).2],wr:=b::σ.wr})
   |_,_=>none
 |_=>none
def qc(C:Cfg)(q:List AV)(σ:St)(op:Op):Option (AV×Option St):=
 match op with
 |.move x|.assign x=>some (aev q x,none)
 |.pick c a b=>match aev q c with
   |.v (.bool true)=>some (aev q a,none)
   |.v (.bool false)=>some (aev q b,none)
   |_=>none
 |.alloc e=>match C.ty e with
   |some d=>match d.zero.all qS with
     |true=>some (.ptr σ.bx.length 0,some {σ with bx:=σ.bx++[d.zero.map .v]})
     |false=>none
   |none=>none
 |.box e x=>match C.ty e with
   |some _=>match(cellsOf (aev q x)).all isC with
     |true=>some (.ptr σ.bx.length 0,some {σ with bx:=σ.bx++[cellsOf (aev q x)]})
     |false=>none
   |none=>none
 |.build t parts=>match C.ty t with
   |some ⟨_,_,_,z,.struct w⟩=>match z.all qS with
     |true=>match qit (λ i=>match w[i]? with|some f=>some (f.1,f.2.1)|none=>none) (z.map .v) (parts.toList.map λ p=>(p.1,aev q p.2))with
       |some cs=>some (.agg cs,none)
       |none=>none
     |false=>none
   |_=>none
 |.buildSlice t n parts=>match C.ty t with
   |some ⟨_,_,_,_,.slice _ k _ _⟩=>
     match qeP k n σ.rw (parts.toList.map λ p=>(p.1,aev q p.2))with
     |true=>match parts.toList.flatMap λ p=>rsA (aev q p.2)with
       |[]=>some (.sl k (parts.toList.map λ p=>(cellsOf (aev q p.2)).map (qB σ.rw)) 2,none)
       |r::l=>some (.sl k (parts.toList.map λ p=>(cellsOf (aev q p.2)).map (qB σ.rw)) 2,some {σ with rw:=frz σ.rw (r::l),wrr:=(r::l)++σ.wrr})
     |false=>none
   |_=>none
 |.load t a=>match C.ty t with
   |some d=>match yu d σ (aev q a)with
     |some x=>some (x,none)
     |none=>none
   |none=>none
 |.store t a x=>match C.ty t,aev q a with
   |some d,.ptr b o=>match σ.bx[b]? with
     |some cs=>match noMc cs&&decide ((cellsOf (aev q x)).length=d.size)&&decide (o+d.size<=cs.length)&&(cellsOf (aev q x)).all isC with
       |true=>some (undefA',some {σ with bx:=σ.bx.set b (cs.take o++(cellsOf (aev q x)++cs.drop (o+d.size))),wr:=b::σ.wr})
       |false=>none
     |none=>none
   |some d,.rpt r i o u=>match σ.rw[r]? with
     |some R=>match qne R i o u d.size (cellsOf (aev q x))with
       |some R'=>some (undefA',some {σ with rw:=σ.rw.set r R',wrr:=r::σ.wrr})
       |none=>none
     |none=>none
   |_,_=>none
 |.makeSlice t n m=>match C.ty t,aev q n,aev q m with
   |some ⟨_,_,_,_,.slice _ k bytes z⟩,.v (.int _ a),.v (.int _ b)=>match decide (a=b/\0<=a/\a.toNat*bytes<=2^47/\a.toNat<2^62/\0<k/\z.length=k)&&z.all qS&&(z.map .v).all qk with
     |true=>match qJ a.toNat 0 with
       |true=>some (.sl k [] 2,none)
       |false=>some (.rs σ.rw.length 0 a.toNat 0 false,some {σ with rw:=σ.rw++[⟨k,List.replicate a.toNat (z.map .v),0,0,false⟩]})
     |false=>none
   |_,_,_=>none
 |.nilCheck x=>match aev q x with
   |.ptr b o=>some (.ptr b o,none)
   |.rpt r i o u=>some (.rpt r i o u,none)
   |.ept cs o=>some (.ept cs o,none)
   |_=>none
 |.binOp op t x y _=>match aev q x,aev q y with
   |.v (.bool a),.v (.bool b)=>match op,C.ty t with
     |.eql,some ⟨_,_,_,_,.bool⟩=>some (.v (.bool (jP a b)),none)
     |.neq,some ⟨_,_,_,_,.bool⟩=>some (.v (.bool (qh (jP a b))),none)
     |_,_=>none
   |.v (.pointer none),.v (.pointer none)=>match op,C.ty t with
     |.eql,some ⟨_,_,_,_,.ptr⟩=>some (.v (.bool true),none)
     |.neq,some ⟨_,_,_,_,.ptr⟩=>some (.v (.bool false),none)
     |_,_=>none
   |.v a,.v b=>match qlp op a b with
     |some z=>some (.v z,none)
     |none=>none
   |a,b=>match qml a&&qvH b,op,C.ty t with
     |true,.eql,some ⟨_,_,_,_,.ptr⟩=>some (.v (.bool false),none)
     |true,.neq,some ⟨_,_,_,_,.ptr⟩=>some (.v (.bool true),none)
     |_,_,_=>none
 |.unOp op _ x=>match aev q x with
   |.v a=>match unA op a with
     |some z=>some (.v z,none)
     |none=>none
   |_=>none
 |.convert s d x=>match C.ty s,C.ty d,aev q x with
   |some _,some ⟨_,_,_,_,.int k⟩,.v (.int _ n)=>some (.v (.int k (iw k n)),none)
   |some _,some ⟨_,_,_,_,.string⟩,.v (.string s)=>some (.v (.string s),none)
   |some ⟨_,_,_,_,.string⟩,some ⟨_,_,_,_,.slice e 1 _ _⟩,.v (.string b)=>match qle (C.ty e)with
     |true=>some (.rs σ.rw.length 0 b.size 0 false,some {σ with rw:=σ.rw++[⟨1,JG b,0,0,false⟩]})
     |false=>none
   |some ⟨_,_,_,_,.slice e 1 _ _⟩,some ⟨_,_,_,_,.string⟩,y=>match qle (C.ty e),elems σ.rw 1 y with
     |true,some es=>match qm4 es with
       |some l=>some (.v (.string ⟨l.toArray⟩),none)
       |none=>none
     |_,_=>none
   |_,_,_=>none
 |.makeFunc (.func f) w cs=>match w.toList with
   |[]=>some (.fn f (cs.toList.map (aev q)),none)
   |_=>none
 |.slice t x lo E none=>match C.ty t,aev q x with
   |some ⟨_,_,_,_,.string⟩,.v (.string s)=>match qay (qku s) (qku s) (E.map (aev q))with
     |some h=>match qay 0 h (lo.map (aev q))with
       |some l=>some (.v (.string (quO s l h)),none)
       |none=>none
     |none=>none
   |some ⟨_,_,_,_,.slice _ k _ _⟩,.sl G es f=>match qJ G k&&pos f with
     |true=>match qay (QU es) (QU es) (E.map (aev q))with
       |some h=>match qay 0 h (lo.map (aev q))with
         |some l=>some (.sl k (qzn es l h) (lvS f (qJ h (QU es))),none)
         |none=>none
       |none=>none
     |false=>none
   |some ⟨_,_,_,_,.slice _ _ _ _⟩,.v (.slice none 0 0)=>match qay 0 0 (E.map (aev q))with
     |some h=>match qay 0 h (lo.map (aev q))with
       |some _=>some (.v (.slice none 0 0),none)
       |none=>none
     |none=>none
   |some ⟨_,_,_,_,.slice _ k _ _⟩,.rs r o n u _=>match qay n n (E.map (aev q)),σ.rw[r]? with
     |some h,some R=>match qay 0 h (lo.map (aev q))with
       |some l=>match qJ h n,quf R k o n u l with
         |true,some R'=>some (.rs r 0 (n-l) (u+1) false,some {σ with rw:=σ.rw.set r R',wrr:=r::σ.wrr})
         |_,_=>none
       |none=>none
     |_,_=>none
   |_,_=>none
 |.fieldAddr t x i=>match C.ty t with
   |some ⟨_,_,_,_,.struct w⟩=>match w[i]? with
     |some (off,size,_)=>match size with
       |0=>none
       |_+1=>match aev q x with
         |.ptr b o=>some (.ptr b (o+off),none)
         |.rpt r j o u=>some (.rpt r j (o+off) u,none)
         |.ept cs o=>some (.ept cs (o+off),none)
         |_=>none
     |none=>none
   |_=>none
 |.field t x i=>match C.ty t,aev q x with
   |some ⟨_,_,_,_,.struct w⟩,.agg cs=>match w[i]? with
     |some (off,size,g)=>match qap g size cs off with
       |some y=>some (y,none)
       |none=>none
     |none=>none
   |_,_=>none
 |.indexAddr t x i=>match C.ty t,aev q i with
   |some ⟨_,_,_,_,.slice _ k _ _⟩,.v (.int _ j)=>match aev q x with
     |.sl G es _=>match qJ G k with
       |true=>match qro es j with
         |some cs=>some (.ept cs 0,none)
         |none=>none
       |false=>none
     |.rs r lo n u _=>match σ.rw[r]? with
       |some R=>match qt8 R k lo n u j with
         |some p=>some (.rpt r p 0 u,none)
         |none=>none
       |none=>none
     |_=>none
   |some ⟨_,_,_,_,.array n _ k⟩,.v (.int _ j)=>match aev q x with
     |.ptr b o=>match decide (0<=j/\j<(n:Int))with
       |true=>some (.ptr b (o+j.toNat*k),none)
       |false=>none
     |_=>none
   |_,_=>none
 |.index t x i=>match C.ty t,aev q x,aev q i with
   |some ⟨_,_,_,_,.string⟩,.v (.string s),.v (.int _ j)=>match qzx s j with
     |some b=>some (.v (.int .u8 b),none)
     |none=>none
   |_,_,_=>none
 |.extract x i=>match aev q x with
   |.tup vs=>match vs[i]? with
     |some y=>some (y,none)
     |none=>none
   |_=>none
 |.makeMap t none=>match C.ty t with
   |some ⟨_,_,_,_,.map B D A _ _⟩=>some (.mp σ.bx.length,some {σ with bx:=σ.bx++[[.mc B D A [] []]]})
   |_=>none
 |.lookup t x k J=>match C.ty t with
   |some ⟨_,_,_,_,.map B D A I F⟩=>match qkq σ B D A (aev q x),qkk B D (aev q k)&&(F.all qS&&decide (F.length=I)&&(A||decide (I=1)))with
     |some (_,ks,vs),true=>match qnb B A F ks vs (cellsOf (aev q k))with
       |some (v,b)=>some (match J with|true=>.tup [v,.v (.bool b)]|false=>v,none)
       |none=>none
     |_,_=>none
   |_=>none
 |.mapUpdate t x k v|.insert t x k v=>qaj C q σ t x k v
 |_=>none
where undefA':AV:=.tup []
def zh(k bytes:Nat)(σ:St)(s:AV)(xs:List (List AV)):Option (AV×Option St):=
 match s with
 |.v (.slice none 0 0)=>match qJ (QU xs) 0 with
   |true=>some (.v (.slice none 0 0),none)
   |false=>match rowNew k bytes xs with
     |some (R,n)=>some (.rs σ.rw.length 0 n 0 false,some {σ with rw:=σ.rw++[R]})
     |none=>none
 |.sl b es f=>match qJ (QU xs) 0 with
   |true=>match pos f with
     |true=>some (.sl b es f,none)
     |false=>none
   |false=>match decide (1<f)&&qJ b k&&uni k es with
     |true=>match rowNew k bytes (qg6 es xs)with
       |some (R,n)=>some (.rs σ.rw.length 0 n 0 false,some {σ with rw:=σ.rw++[R]})
       |none=>none
     |false=>none
 |.rs r lo n a f=>match qJ (QU xs) 0 with
   |true=>some (.rs r lo n a f,none)
   |false=>match σ.rw[r]? with
     |some R=>match qm0 R k lo n a f bytes xs with
       |some (R',m)=>some (.rs r 0 m (a+1) false,some {σ with rw:=σ.rw.set r R',wrr:=r::σ.wrr})
       |none=>none
     |none=>none
 |_=>none
def qak:TK->Bool
 |.slice .. => true
 |_=>false
def qgu:TK->Bool
 |.string=>true
 |_=>false
def qeD(d:TD):AV->Option Nat
 |.v (.string s)=>match qgu d.k with|true=>some (qku s)|false=>none
 |.v (.slice none 0 0)=>match qak d.k with|true=>some 0|false=>none
 |.sl _ es _=>match qak d.k with|true=>some (QU es)|false=>none
 |.rs _ _ n _ _=>match qak d.k with|true=>some n|false=>none
 |_=>none
def qyj(k:TK)(σ:St)(x:AV):Option Nat:=match k with
 |.map b c a _ _=>match qkq σ b c a x with
   |some (_,ks,_)=>some ks.length
   |none=>none
 |_=>none
def yq(C:Cfg)(σ:St)(b:Builtin)(ts:Array TypeId)(c:List AV):Option (AV×Option St):=
 match b,c with
 |.len,[x]=>match ts[0]? with
   |some t=>match C.ty t with
     |some d=>match qeD d x with
       |some n=>some (.v (.int .i64 n),none)
       |none=>match qyj d.k σ x with
         |some n=>some (.v (.int .i64 n),none)
         |none=>none
     |none=>none
   |none=>none
 |.append,[s,x]=>match ts[0]?,ts[1]? with
   |some t,some u=>match C.ty t,C.ty u with
     |some ⟨_,_,_,_,.slice _ k bytes z⟩,some ⟨_,_,_,_,.slice _ _ _ _⟩=>match decide (0<k)&&decide (z.length=k)with
       |true=>match elems σ.rw k x with
         |some xs=>match uni k xs with
           |true=>zh k bytes σ s xs
           |false=>none
         |none=>none
       |false=>none
     |some ⟨_,_,_,_,.slice e 1 bytes z⟩,some ⟨_,_,_,_,.string⟩=>match decide (z.length=1)&&qle (C.ty e),x with
       |true,.v (.string b)=>zh 1 bytes σ s (JG b)
       |_,_=>none
     |_,_=>none
   |_,_=>none
 |.max,[.v (.int k a),.v (.int f b)]=>match decide (k=f)with|true=>some (.v (.int k (qiH a b)),none)|false=>none
 |.min,[.v (.int k a),.v (.int f b)]=>match decide (k=f)with|true=>some (.v (.int k (qDq a b)),none)|false=>none
 |_,_=>none
inductive Ex where
 |normal|exit (id:Nat)|ret
 deriving DecidableEq
def qkD(σ:St)(a:AV)(σ':St):Bool:=
 refs σ.bx.length σ.rw.length (qeG σ.rw.length σ'.rw a)||(σ'.wr.filter λ b=>decide (b<σ.bx.length)).any λ b=>(σ'.bx.getD b []).any (refs σ.bx.length σ.rw.length)
def JE(σ:St)(a:AV)(σ':St):AV×Option St:=
 match qkD σ a σ' with
 |true=>(a,some {σ' with wr:=σ'.wr.filter λ b=>decide (b<σ.bx.length),wrr:=σ'.wrr.filter λ b=>decide (b<σ.rw.length)})
 |false=>match(σ'.wr.filter λ b=>decide (b<σ.bx.length))++σ'.wrr.filter λ b=>decide (b<σ.rw.length)with
   |[]=>(qeG σ.rw.length σ'.rw a,none)
   |_::_=>(qeG σ.rw.length σ'.rw a,some ⟨σ'.bx.take σ.bx.length,σ'.rw.take σ.rw.length,σ'.wr.filter λ b=>decide (b<σ.bx.length),σ'.wrr.filter λ b=>decide (b<σ.rw.length)⟩)
def qgj(C:Cfg)(b:List AV)(σ:St):ResultVar->Option AV
 |.tmp t=>some (b.getD t .dead)
 |.cell a t=>match C.ty t with
   |some d=>yu d σ (b.getD a .dead)
   |none=>none
def ja(C:Cfg)(a:List AV)(σ:St):List ResultVar->Option (List AV)
 |[]=>some []
 |r::l=>match qgj C a σ r with
   |some x=>match ja C a σ l with
     |some xs=>some (x::xs)
     |none=>none
   |none=>none
def qX:List AV->AV
 |[x]=>x
 |l=>.tup l
def Jf(C:Cfg)(fn:Func)(s:S):Option AV:=
 match ja C s.tm s.σ fn.results.toList with
 |some l=>some (qX l)
 |none=>none
abbrev yE:=Code->S->Option (Ex×S)
def qd9(fn:Func)(σ:St)(a:List AV):S:=⟨a++List.replicate (fn.ntmps-a.length) .dead,{σ with wr:=[],wrr:=[]}⟩
def qfh(C:Cfg)(fn:Func)(σ:St)(a:S):Option (AV×Option St):=
 match Jf C fn a with
 |some r=>some (JE σ r a.σ)
 |none=>none
def JP(C:Cfg)(ex:yE)(σ:St)(f:FuncId)(a:List AV):Option (AV×Option St):=
 match C.prim f with
 |some p=>p σ a
 |none=>match C.fn f with
   |none=>none
   |some fn=>match fn.body with
     |none=>none
     |some c=>match ex c (qd9 fn σ a)with
       |some (.ret,b)|some (.normal,b)=>qfh C fn σ b
       |_=>none
def qe(l:List Nat):List Nat->List Nat
 |[]=>[]
 |b::a=>match l.contains b with
   |true=>qe l a
   |false=>b::qe (b::l) a
def qg0(a:List (List AV)):Nat->List Nat->List Nat
 |0,l=>l
 |n+1,l=>match qe l (l.flatMap λ b=>rbL (a.getD b []))with
   |[]=>l
   |b::c=>qg0 a n (l++(b::c))
def yR(σ:St)(a:List AV):List Nat:=qg0 σ.bx σ.bx.length (qe [] (rbL a))
def JB(σ:St)(a:List AV):List Nat:=qe [] (rrL a++(yR σ a).flatMap λ b=>rrL (σ.bx.getD b []))
def nd:List Nat->Bool
 |[]=>true
 |b::l => !l.contains b&&nd l
def qcY(σ:St)(a:List AV):Bool:=
 nd (yR σ a)&&nd (JB σ a) &&   (rbL a).all (λ b=>(yR σ a).contains b)&&(rrL a).all (λ r=>(JB σ a).contains r)&&(yR σ a).all (λ b=>decide (b<σ.bx.length)&&(rbL (σ.bx.getD b [])).all (λ b=>(yR σ a).contains b)&&(rrL (σ.bx.getD b [])).all λ r=>(JB σ a).contains r)&&(JB σ a).all λ r=>decide (r<σ.rw.length)
def qr(σ:St)(c a:List Nat):St:=
 ⟨c.map λ b=>qD (λ b=>c.idxOf b) (λ r=>a.idxOf r) (σ.bx.getD b []),a.map λ r=>σ.rw.getD r ⟨0,[],0,0,false⟩,[],[]⟩
def qW(l:List Nat)(n i:Nat):Nat:=match l[i]? with
 |some b=>b
 |none=>n+(i-l.length)
def qY{α:Type}(l:List α):List Nat->List α->List α
 |[],xs=>l++xs
 |_,[]=>l
 |b::a,x::xs=>qY (l.set b x) a xs
def qdv(σ:St)(b a:List Nat)(σ':St):St:=
 ⟨qY σ.bx b (σ'.bx.map (qD (qW b σ.bx.length) (qW a σ.rw.length))),qY σ.rw a σ'.rw,σ'.wr.map (qW b σ.bx.length)++σ.wr,σ'.wrr.map (qW a σ.rw.length)++σ.wrr⟩
def qcU(σ:St)(b a:List Nat):AV×Option St->AV×Option St
 |(r,none)=>(ren (qW b σ.bx.length) (qW a σ.rw.length) r,none)
 |(r,some σ')=>(ren (qW b σ.bx.length) (qW a σ.rw.length) r,some (qdv σ b a σ'))
def qdM(C:Cfg)(σ:St)(f:FuncId)(a:List AV):List AV×Option St:=
 match C.raw f with
 |true=>(a,none)
 |false=>match a.flatMap rsA with
   |[]=>(a.map (yb σ.rw),none)
   |r::l=>(a.map (yb σ.rw),some {σ with rw:=frz σ.rw (r::l),wrr:=(r::l)++σ.wrr})
def jh(σ:St)(a:List AV)(c:St->List AV->Option (AV×Option St)):Option (AV×Option St):=
 match qcY σ a with
 |true=>match c (qr σ (yR σ a) (JB σ a)) (qD (λ b=>(yR σ a).idxOf b) (λ r=>(JB σ a).idxOf r) a)with
   |some r=>some (qcU σ (yR σ a) (JB σ a) r)
   |none=>none
 |false=>none
def isV:AV->Bool
 |.v _=>true
 |_=>false
def qfq:AV->Bool
 |.tup vs=>vs.all isV
 |x=>isV x
def qjs(a:List AV)(σ:St):Option (AV×Option St)->Option (AV×Option St)
 |some (r,none)=>match qfq r&&(rbL a).isEmpty&&(rrL a).isEmpty with
   |true=>some (r,none)
   |false=>some (r,some σ)
 |r=>r
def JC(C:Cfg)(ex:yE)(σ:St)(f:FuncId)(a:List AV):Option (AV×Option St):=
 match qdM C σ f a with
 |(a,none)=>jh σ a λ σ a=>JP C ex σ f a
 |(a,some σ')=>qjs a σ' (jh σ' a λ σ a=>JP C ex σ f a)
def yo(x:AV):Bool:=(rb x).isEmpty&&(rr x).isEmpty
def noRefs(xs:List AV):Bool:=xs.all yo
def qrk(C:Cfg)(ex:yE)(σ:St)(fn:Func)(a:List AV):Option (AV×Option St):=match fn.body with
 |none=>none
 |some c=>match ex c ⟨a++List.replicate (fn.ntmps-a.length) .dead,σ⟩with
   |some (.exit _,_)=>none
   |some (_,b)=>match Jf C fn b with
     |some r=>some (r,some b.σ)
     |none=>none
   |none=>none
def qaW(C:Cfg)(ex:yE)(σ:St)(f:FuncId)(a:List AV):Option (AV×Option St):=
 match C.lo f with
 |true=>match C.inl f with
   |some fn=>qrk C ex σ fn a
   |none=>JC C ex σ f a
 |false=>match C.raw f,noRefs (a.map (yb σ.rw))with
   |false,true=>match JC C ex σ f a with
     |some (r,o)=>match yo r with
       |true=>some (r,o)
       |false=>none
     |none=>none
   |_,_=>none
def qdo(b:List AV):Callee->Option (FuncId×List AV)
 |.value f=>match aev b f with
   |.fn f a=>some (f,a)
   |_=>none
 |_=>none
def opA(C:Cfg)(ex:yE)(d:List AV)(σ:St)(op:Op):Option (AV×Option St):=
 match op with
 |.call c=>match c.callee with
   |.builtin b=>yq C σ b c.argTypes (c.args.toList.map (aev d))
   |e=>match qdo d e with
     |some (f,a)=>qaW C ex σ f (c.args.toList.map (aev d)++a)
     |none=>none
 |op=>qc C d σ op
def zw(ops:Array Oper)(c:List AV)(o:Oper):Option Bool:=
 match o.guard with
 |none=>some true
 |some (j,a)=>match(ops[j]?).bind (·.dst)with
   |none=>none
   |some d=>match c.getD d .dead with
     |.v (.bool b)=>some (jP b a)
     |.tup []=>some false
     |_=>none
def Jx(a:List AV):Option Tmp->AV->List AV
 |none,_=>a
 |some d,x=>a.set d x
def qdE:AV:=.tup []
def qM(b:Nat->Bool):Op->Bool
 |.store ..|.mapUpdate ..|.insert ..|.makeMap .. => true
 |.call {callee:=.builtin .append,.. }=>true
 |.call {callee:=.value (.func f),.. }=>b f
 |_=>false
def turn(σ:St):Option St->St
 |none=>σ
 |some σ'=>σ'
def yQ:Op->Bool
 |.load .. |.store .. |.indexAddr .. |.convert .. |.lookup .. |.mapUpdate .. |.insert .. => true
 |.call {callee:=.builtin .max,.. }|.call {callee:=.builtin .min,.. }=>false
 |.call _=>true
 |_=>false
def yt(o:Oper):List Nat:=(o.after.toList.filter (Region.binds .any)).map (·.on)
def qlH(a:List Nat)(o:Oper):Nat:=(yt o).foldl (λ m e=>m|||(2^e|||a.getD e 0)) 0
def jF:List Oper->List Nat->List Nat
 |[],a=>a
 |o::r,a=>jF r (a++[qlH a o])
def Jp(ops:Array Oper)(o:Oper):List Tmp:=
 o.dst.toList++(o.op.operands.toList.filterMap λ|.tmp t=>some t|_=>none)++match o.guard with
  |none=>[]
  |some (j,_)=>((ops[j]?).bind (·.dst)).toList
def qhK(t:Tmp)(o:Oper):Bool:=match o.dst with
 |some d=>Nat.beq d t
 |none=>false
def qaY(ops:List Oper)(t:Tmp):List (Oper×Nat):=ops.zipIdx.filter λ p=>qhK t p.1
def qCF:Op->Option Tmp
 |.fieldAddr _ (.tmp u) _|.move (.tmp u)|.assign (.tmp u)|.nilCheck (.tmp u)=>some u
 |_=>none
def qhH(ops:Array Oper):Nat->Nat->Tmp->Option Tmp
 |0,_,_=>none
 |n+1,k,t=>match qaY ops.toList t with
   |[]=>some t
   |[(o,i)]=>match qCF o.op,decide (i<k)with
     |some u,true=>qhH ops n i u
     |_,_=>none
   |_=>none
def quk(ops:Array Oper)(k:Nat)(t:Tmp):Option Tmp:=qhH ops 6 k t
def zR(a:List AV)(ops:Array Oper)(k:Nat)(t:Tmp):Option Nat:=match quk ops k t with
 |some u=>match a.getD u .dead with
   |.ptr b _=>some b
   |_=>none
 |none=>none
def qCP:AV->Bool
 |.rpt ..|.ept .. => true
 |_=>false
def qaU(a:List AV)(ops:Array Oper)(k:Nat)(t:Tmp):Bool:=match quk ops k t with
 |some u=>qCP (a.getD u .dead)
 |none=>false
def qff(c:List AV)(ops:Array Oper)(j:Nat)(o:Oper)(i:Nat)(q:Oper):Bool:=match o.op,q.op with
 |.store _ (.tmp a) _,.load _ (.tmp b)=>match zR c ops j a,zR c ops i b with
   |some x,some y => !Nat.beq x y
   |some _,none=>qaU c ops i b
   |_,_=>false
 |.call ⟨.builtin .append,_,_⟩,.load _ (.tmp b)|.call ⟨.value _,_,_⟩,.load _ (.tmp b)=>(zR c ops i b).isSome
 |_,_=>false
def qcF(a:List AV)(ops:Array Oper)(j:Nat)(o:Oper)(i:Nat)(q:Oper):Bool:=qff a ops j o i q||qff a ops i q j o
def qqR(C:Cfg)(c:List AV)(σ:St):Op->List Nat
 |.call ⟨.value g,as,_⟩=>match qdo c (.value g)with
   |some (f,b)=>match C.inl f with
     |some _=>List.range σ.bx.length
     |none=>match qdM C σ f (as.toList.map (aev c)++b)with
       |(a,none)=>yR σ a
       |(a,some σ')=>yR σ' a
   |none=>[]
 |_=>[]
def qr8:Op->Bool
 |.call ⟨.value _,_,_⟩=>true
 |_=>false
def qar(C:Cfg)(ops:Array Oper)(j:Nat)(b:List AV)(σ:St)(op:Op):Bool := !qr8 op||ops.toList.zipIdx.all λ(q,i)=>match q.op with
 |.load _ (.tmp a)=>((jF ops.toList []).getD (max i j) 0).testBit (min i j)||match zR b ops i a with
   |some y=>decide (y<σ.bx.length) && !(qqR C b σ op).contains y
   |none=>false
 |_=>true
def qT(C:Cfg)(ex:yE)(ops:Array Oper)(b:Bool):List Oper->S->Option S
 |[],s=>some s
 |o::a,s=>match zw ops s.tm o with
   |some true=>match opA C ex s.tm s.σ o.op with
     |some (x,none)=>qT C ex ops b a ⟨Jx s.tm o.dst x,s.σ⟩
     |some (x,some σ')=>match b && !(qM C.lo o.op&&qar C ops (ops.size-(a.length+1)) s.tm s.σ o.op)with
       |true=>none
       |false=>qT C ex ops b a ⟨Jx s.tm o.dst x,σ'⟩
     |none=>none
   |some false=>qT C ex ops b a ⟨Jx s.tm o.dst qdE,s.σ⟩
   |none=>none
def qmc:Op->Bool
 |.makeMap _ _=>true
 |_=>false
def qh1(a:Nat->Bool):Op->Bool
 |.load .. |.indexAddr .. => true
 |.call ⟨.value (.func f),_,_⟩ => !a f
 |_=>false
def qgR(a:Nat->Bool)(o q:Oper):Bool:=qM a o.op&&((yQ q.op||qM a q.op) && !(qmc o.op&&qh1 a q.op))
def qkn(a:Nat->Bool)(o q:Oper):Bool:=qgR a o q||qgR a q o
def qfy(a:Nat->Bool)(b:List AV)(ops:Array Oper)(j:Nat)(o:Oper)(i:Nat)(q:Oper):Bool:=
 (match q.dst with|some d=>(Jp ops o).contains d|none=>false)||(qkn a o q && !qcF b ops j o i q)
def JK(a:Nat->Bool)(c:List AV)(ops:Array Oper):Bool:=
 let b:=jF ops.toList []
 ops.toList.zipIdx.all λ(o,j)=>((yt o).all λ e=>decide (e<j))&&ops.toList.zipIdx.all λ(q,i)=>
  decide (i=j) || !qfy a c ops j o i q||(b.getD (max i j) 0).testBit (min i j)
def qkj(a:Nat->Bool)(ops:Array Oper)(o q:Oper):Bool:=
 (match q.dst with|some d=>(Jp ops o).contains d|none=>false)||(qM a o.op&&qM a q.op)
def qam(a:Nat->Bool)(ops:Array Oper):Bool:=
 let b:=jF ops.toList []
 ops.toList.zipIdx.all λ(o,j)=>((yt o).all λ e=>decide (e<j))&&ops.toList.zipIdx.all λ(q,i)=>
  decide (i=j) || !qkj a ops o q||(b.getD (max i j) 0).testBit (min i j)
def qbZ(b:Nat->Bool)(c:List AV)(ops:Array Oper)(a:Bool):Bool:=match a with
 |true=>JK b c ops
 |false=>true
def stP(o:Oper):Option (Tmp×Operand):=match o.op with
 |.store _ (.tmp a) v=>match o.guard,o.dst with
   |none,none=>some (a,v)
   |_,_=>none
 |_=>none
def ixP(o:Oper):Option Tmp:=match o.op with
 |.indexAddr _ _ _=>match o.guard,o.dst with
   |none,some d=>some d
   |_,_=>none
 |_=>none
def qzj(d:Tmp):Operand->Bool
 |.tmp t => !Nat.beq t d
 |_=>true
def qoa:Nat->Nat->Bool
 |0,_=>true
 |k+1,b=>b.testBit k&&qoa k b
def qy7(a:List Nat)(m:Nat)(p o q:Oper):Bool:=((yt p).all λ e=>Nat.blt e m)&&(((yt o).all λ e=>Nat.blt e (m+1))&&(((yt q).all λ e=>Nat.blt e m)&&(qoa m (a.getD m 0)&&(qoa (m+1) (a.getD (m+1) 0)&&qoa m (a.getD (m+2) 0)))))
def qFM(c:List Nat)(n:Nat):List Oper->Option Tmp
 |[p,o,q]=>match ixP p,stP o,stP q with
   |some d,some a,some b=>match(Nat.beq a.1 d&&(!Nat.beq b.1 d&&qzj d b.2))&&qy7 c n p o q with
     |true=>some b.1
     |false=>none
   |_,_,_=>none
 |_=>none
def qeb(ops:Array Oper):List Oper:=ops.toList.drop (ops.toList.length-3)
def J9(ops:Array Oper):Array Oper:=⟨ops.toList.take (ops.toList.length-3)⟩
def qkh(ops:Array Oper)(a:Bool):Option Tmp:=match a with
 |true=>qFM (jF ops.toList []) (ops.toList.length-3) (qeb ops)
 |false=>none
def qrn:AV->Bool
 |.ptr _ _=>true
 |_=>false
def qyS(a:List AV)(ops:Array Oper):Bool:=match qeb ops with
 |p::_=>match p.op with
   |.indexAddr _ u _ => !qrn (aev a u)
   |_=>false
 |[]=>false
def qpd(a:List AV)(ops:Array Oper)(p:Tmp):Bool:=qrn (a.getD p .dead)&&qyS a ops
def qU(o:Oper):Bool:=match o.op with
 |.alloc _=>true
 |_=>false
def qfl(ops:Array Oper)(a:Bool):Bool:=a&&ops.toList.any qU
def qB8(ops:List Oper)(o:Oper):Bool := !qU o&&ops.any λ q=>qU q&&match q.dst with
 |some d=>(Jp ⟨ops⟩ o).contains d
 |none=>false
def qzw(ops:List Oper):List Oper->Nat
 |[]=>0
 |o::r=>match qB8 ops o with
   |true=>0
   |false=>qzw ops r+1
def qad(_:Nat->Bool)(ops:List Oper):Nat:=qzw ops ops
def yC(o:Oper):Oper:=match qU o with
 |true=>{o with op:=.move (.global 0)}
 |false=>o
def qs(lo:Nat->Bool)(ops:List Oper):List Oper:=(ops.take (qad lo ops)).map yC
def alL(lo:Nat->Bool)(ops:List Oper):List Oper:=(ops.take (qad lo ops)).filter qU
def qmp(lo:Nat->Bool)(ops:List Oper):List Oper:=ops.drop (qad lo ops)
def qdY(ops:List Oper)(o:Oper):Bool:=(!yQ o.op && !qmc o.op)&&(!qU o&&ops.all λ q => !qU q||match q.dst with
 |some d => !(Jp ⟨ops⟩ o).contains d
 |none=>true)
def qoN:Op->Bool
 |.load .. |.indexAddr .. => true
 |_=>false
def qnt(ops:List Oper)(o:Oper):Bool:=qoN o.op && !qB8 ops o
def qpq(ops:List Oper)(o:Oper):Bool:=match o.op with
 |.store _ (.tmp a) _=>ops.any λ q=>qU q&&qhK a q
 |_=>false
def Jq(ops:List Oper)(o:Oper):Bool:=qdY ops o||qnt ops o
def qe4(lo:Nat->Bool)(ops:List Oper):Bool:=
 let b:=jF ops []
 ops.zipIdx.all λ(o,j)=>((yt o).all λ e=>decide (e<j))&&((Nat.blt j (qad lo ops)||(List.range j).all λ i=>(b.getD j 0).testBit i||(Nat.blt i (qad lo ops)&&match ops[i]? with
  |some q=>qdY ops q||(qnt ops q&&qpq ops o)
  |none=>false))&&(!qU o||(o.guard.isNone&&match o.dst with
  |some d=>Nat.beq (qaY ops d).length 1
  |none=>false)))
def yN:Code->Bool
 |.seq a b|.cond _ a b=>yN a&&yN b
 |.block _ b|.loop b=>yN b
 |_=>true
def qao(s:S)(t:Nat):S:=match rsA (s.tm.getD t .dead)with
 |[]=>s
 |r::l=>⟨s.tm.set t (yb s.σ.rw (s.tm.getD t .dead)),{s.σ with rw:=frz s.σ.rw (r::l),wrr:=(r::l)++s.σ.wrr}⟩
def qcu(ts:List Nat)(s:S):S:=ts.foldl qao s
def J6(C:Cfg)(ex:yE):yE
 |.skip,s|.label _,s=>some (.normal,s)
 |.region _ ops d,s=>match qfl ops d with
   |true=>match qe4 C.lo ops.toList&&(qam C.lo ops&&qbZ C.lo s.tm ⟨qs C.lo ops.toList⟩ true),qT C ex ⟨qs C.lo ops.toList⟩ true (qs C.lo ops.toList) s with
     |true,some f=>match qT C ex ops false (alL C.lo ops.toList) f with
       |some g=>match qT C ex ops true (qmp C.lo ops.toList) g with
         |some e=>some (.normal,e)
         |none=>none
       |none=>none
     |_,_=>none
   |false=>match qkh ops d with
     |some p=>match qbZ C.lo s.tm (J9 ops) true,qT C ex (J9 ops) true (J9 ops).toList s with
       |true,some f=>match qpd f.tm ops p,qT C ex ops true (qeb ops) f with
         |true,some e=>some (.normal,e)
         |_,_=>none
       |_,_=>none
     |none=>match qbZ C.lo s.tm ops d,qT C ex ops d ops.toList s with
       |true,some e=>some (.normal,e)
       |_,_=>none
 |.seq a b,s=>match ex a s with
   |some (.normal,e)=>ex b e
   |r=>r
 |.cond c x y,s=>match aev s.tm c with
   |.v (.bool true)=>ex x s
   |.v (.bool false)=>ex y s
   |_=>none
 |.block id b,s=>match ex b s with
   |some (.exit i,e)=>some (if i=id then .normal else .exit i,e)
   |r=>r
 |.loop b,s=>match ex b (qcu (C.pur b) s)with
   |some (.normal,e)=>ex (.loop b) e
   |r=>r
 |.exit id,s=>some (.exit id,s)
 |.ret,s=>some (.ret,s)
 |_,_=>none
def jN(C:Cfg):Nat->yE
 |0=>λ _ _=>none
 |n+1=>J6 C (jN C n)
end Go.AmZ
namespace Go.AmZ
open Go Go.RowKit
structure Gh where
 mem:Nat->Nat->Option Value
 nb:Nat
 β:Nat->Nat
 nr:Nat
 ver:Nat->Nat
 k:Nat->Nat
 cur:Nat->Nat
 sz:Nat->Nat
 of:Nat->Nat
inductive Rep (Γ:Gh):AV->Value->Prop
 |v (x:Value) (h:qS x=true):Rep Γ (.v x) x
 |dead (u:Value):Rep Γ .dead u
 |sl (k:Nat) (es:List (List AV)) (f:Nat) (a:Option Addr) (n cap b o:Nat) (us:Nat->Nat->Value) (hn:n=es.length) (hc:0<f->n<=cap) (hf:1<f->cap=n) (hk:∀e∈es,e.length=k) (hp:∀e∈es,∀x∈e,qk x=true) (h0:0<k)
  (ha:es=[]\/a=some ⟨b,o,none⟩) (hm:∀(i:Nat) (e:List AV) (j:Nat) (x:AV),es[i]?=some e->e[j]?=some x->Γ.mem b (o+i*k+j)=some (us i j))
  (hr:∀(i:Nat) (e:List AV) (j:Nat) (x:AV),es[i]?=some e->e[j]?=some x->Rep Γ x (us i j)):Rep Γ (.sl k es f) (.slice a n cap)
 |rs (r lo n ep:Nat) (f:Bool) (a:Option Addr) (cap:Nat) (hr:r<Γ.nr) (hv:ep<=Γ.ver r) (hc:n<=cap) (hf:f=true->cap=n)
  (hl:Γ.ver r=ep->(cap=0\/a=some ⟨Γ.cur r,Γ.of r+lo*Γ.k r,none⟩)/\Γ.of r+(lo+cap)*Γ.k r<=Γ.sz r):Rep Γ (.rs r lo n ep f) (.slice a n cap)
 |ptr (b o:Nat) (h:b<Γ.nb):Rep Γ (.ptr b o) (.pointer (some ⟨Γ.β b,o,none⟩))
 |rpt (r i o ep:Nat) (A:Addr) (hr:r<Γ.nr) (hv:ep<=Γ.ver r) (hl:Γ.ver r=ep->A=⟨Γ.cur r,Γ.of r+i*Γ.k r+o,none⟩):Rep Γ (.rpt r i o ep) (.pointer (some A))
 |ept (cs:List AV) (o b o':Nat) (us:Nat->Value) (hp:∀x∈cs,qk x=true) (hm:∀(j:Nat) (x:AV),cs[j]?=some x->Γ.mem b (o'+j)=some (us j)) (hr:∀(j:Nat) (x:AV),cs[j]?=some x->Rep Γ x (us j)):Rep Γ (.ept cs o) (.pointer (some ⟨b,o'+o,none⟩))
 |fn (f:FuncId) (cs:List AV) (us:List Value) (hn:us.length=cs.length) (hr:∀(i:Nat) (x:AV) (u:Value),cs[i]?=some x->us[i]?=some u->Rep Γ x u):Rep Γ (.fn f cs) (.func (.func f) #[] us.toArray)
 |agg (cs:List AV) (us:List Value) (hn:us.length=cs.length) (h1:∀u∈us,u.oneCell'=true) (hr:∀(i:Nat) (x:AV) (u:Value),cs[i]?=some x->us[i]?=some u->Rep Γ x u):Rep Γ (.agg cs) (.agg us.toArray)
 |tup (cs:List AV) (us:List Value) (hn:us.length=cs.length) (hr:∀(i:Nat) (x:AV) (u:Value),cs[i]?=some x->us[i]?=some u->Rep Γ x u):Rep Γ (.tup cs) (.tuple us.toArray)
 |mp (b:Nat) (h:b<Γ.nb):Rep Γ (.mp b) (.map (some (Γ.β b)))
structure RepL (Γ:Gh) (cs:List AV) (us:List Value):Prop where
 len:us.length=cs.length
 rep:∀(i:Nat) (x:AV) (u:Value),cs[i]?=some x->us[i]?=some u->Rep Γ x u
structure Le (Γ Γ':Gh):Prop where
 mem:∀b o u,Γ.mem b o=some u->Γ'.mem b o=some u
 nb:Γ.nb<=Γ'.nb
 β:∀i,i<Γ.nb->Γ'.β i=Γ.β i
 nr:Γ.nr<=Γ'.nr
 k:∀r,r<Γ.nr->Γ'.k r=Γ.k r
 ver:∀r,r<Γ.nr->Γ.ver r<=Γ'.ver r
 loc:∀r,r<Γ.nr->Γ'.ver r=Γ.ver r->Γ'.cur r=Γ.cur r/\Γ'.sz r=Γ.sz r/\Γ'.of r=Γ.of r
theorem Le.refl(Γ:Gh):Le Γ Γ:=⟨λ _ _ _ h=>h,wa _,λ _ _=>rfl,wa _,λ _ _=>rfl,λ _ _=>wa _,λ _ _ _=>⟨rfl,rfl,rfl⟩⟩
theorem Le.trans{a b c:Gh}(h:Le a b)(g:Le b c):Le a c where
 mem:=λ x o u e=>g.mem _ _ _ (h.mem _ _ _ e)
 nb:=wC h.nb g.nb
 β:=λ i f=>(g.β i (wv f h.nb)).trans (h.β i f)
 nr:=wC h.nr g.nr
 k:=λ r d=>(g.k r (wv d h.nr)).trans (h.k r d)
 ver:=λ r d=>wC (h.ver r d) (g.ver r (wv d h.nr))
 loc:=λ r d e=>by
  have t:=h.ver r d;have s:=g.ver r (wv d h.nr);let⟨q,p,n⟩:=h.loc r d (by omega);let⟨m,l,j⟩:=g.loc r (wv d h.nr) (by omega);exact⟨m.trans q,l.trans p,j.trans n⟩
theorem Rep.mono{Γ Γ':Gh}(d:Le Γ Γ'){x:AV}{u:Value}(h:Rep Γ x u):Rep Γ' x u:=by
 induction h with
 |v x h=>exact .v x h
 |dead u=>exact .dead u
 |sl k es f a n cap b o us m y w F t H G p c g=>exact .sl k es f a n cap b o us m y w F t H G (λ i e j x l z=>d.mem _ _ _ (p i e j x l z)) (λ i e j x l z=>g i e j x l z)
 |rs r lo n B f a cap c s y w q=>
   have l:=d.ver r c;refine .rs r lo n B f a cap (wv c d.nr) (wC s l) y w λ p=>?_;let⟨e1,D,C⟩:=d.loc r c (by omega);rw[e1,D,C,d.k r c];exact q (by omega)
 |ptr b o h=>rw[<-d.β b h];exact .ptr b o (wv h d.nb)
 |rpt r i o B A c s q=>
   have l:=d.ver r c;refine .rpt r i o B A (wv c d.nr) (wC s l) λ p=>?_;let⟨e1,D,C⟩:=d.loc r c (by omega);rw[e1,C,d.k r c];exact q (by omega)
 |ept cs o b E us t p c g=>exact .ept cs o b E us t (λ j x h=>d.mem _ _ _ (p j x h)) g
 |fn f cs us m c g=>exact .fn f cs us m g
 |agg cs us m l c g=>exact .agg cs us m l g
 |tup cs us m c g=>exact .tup cs us m g
 |mp b h=>rw[<-d.β b h];exact .mp b (wv h d.nb)
theorem RepL.mono{Γ Γ':Gh}(c:Le Γ Γ'){cs:List AV}{us:List Value}(h:RepL Γ cs us):RepL Γ' cs us:=⟨h.len,λ i x u a b=>(h.rep i x u a b).mono c⟩
theorem RepL.nil{Γ:Gh}:RepL Γ [] []:=⟨rfl,λ i x u h=>by simp at h⟩
theorem RepL.cons{Γ:Gh}{x:AV}{u:Value}{cs:List AV}{us:List Value}(h:Rep Γ x u)(t:RepL Γ cs us):RepL Γ (x::cs) (u::us):=by
 refine⟨by simp[t.len],λ i y v a b=>?_⟩;cases i with
 |zero=>simp at a b;subst a;subst b;exact h
 |succ i=>simp at a b;exact t.rep i y v a b
theorem RepL.uncons{Γ:Gh}{x:AV}{cs:List AV}{us:List Value}(h:RepL Γ (x::cs) us):∃u r,us=u::r/\Rep Γ x u/\RepL Γ cs r:=by
 let⟨d,c⟩:=h;cases us with
 |nil=>simp at d
 |cons u r=>exact⟨u,r,rfl,c 0 x u rfl rfl,by simpa using d,λ i y v a b=>c (i+1) y v (by simpa using a) (by simpa using b)⟩
theorem RepL.nil_inv{Γ:Gh}{us:List Value}(h:RepL Γ [] us):us=[]:=kw.1 h.len
theorem RepL.get{Γ:Gh}{cs:List AV}{us:List Value}(h:RepL Γ cs us){i:Nat}{x:AV}(a:cs[i]?=some x):∃u,us[i]?=some u/\Rep Γ x u:=by
 have b:i<us.length:=by rw[h.len];exact(List.getElem?_eq_some_iff.1 a).1
 exact⟨us[i],List.getElem?_eq_getElem b,h.rep i x _ a (List.getElem?_eq_getElem b)⟩
theorem RepL.append{Γ:Gh}{a b:List AV}{u v:List Value}(h:RepL Γ a u)(g:RepL Γ b v):RepL Γ (a++b) (u++v):=by
 induction a generalizing u with
 |nil=>rw[h.nil_inv];exact g
 |cons x a c=>
   obtain⟨y,r,rfl,e,d⟩:=h.uncons;exact RepL.cons e (c d)
theorem RepL.take{Γ:Gh}{a:List AV}{u:List Value}(h:RepL Γ a u)(n:Nat):RepL Γ (a.take n) (u.take n):=by
 refine⟨by simp[h.len],λ i x w b c=>?_⟩;rw[List.getElem?_take]at b c;split at b
 .rename_i d;rw[if_pos d]at c;exact h.rep i x w b c
 .cases b
theorem RepL.drop{Γ:Gh}{a:List AV}{u:List Value}(h:RepL Γ a u)(n:Nat):RepL Γ (a.drop n) (u.drop n):=by
 refine⟨by simp[h.len],λ i x w b c=>?_⟩;rw[List.getElem?_drop]at b c;exact h.rep _ x w b c
theorem RepL.set{Γ:Gh}{a:List AV}{u:List Value}(h:RepL Γ a u)(n:Nat){x:AV}{y:Value}(d:Rep Γ x y):RepL Γ (a.set n x) (u.set n y):=by
 refine⟨by simp[h.len],λ i x' w b c=>?_⟩;rw[List.getElem?_set]at b c;have f:=h.len;split at b
 .rename_i e;subst e;rw[if_pos rfl]at c;split at b<;>split at c<;>try (first|(cases b;done)|(cases c;done))
  cases b;cases c;exact d
 .rename_i e;rw[if_neg e]at c;exact h.rep i x' w b c
theorem qup{x:Value}(h:qS x=true):x.oneCell'=true:=by
 cases x<;>simp_all [qS,Value.oneCell']
theorem Rep.one{Γ:Gh}{x:AV}{u:Value}(h:Rep Γ x u)(a:isC x=true):u.oneCell'=true:=by
 cases h<;>first|(exact qup ‹_›)|rfl|(simp[isC]at a)
theorem qAE{u:Value}(h:u.oneCell'=true):u.cells = #[u]:=by
 cases u<;>simp_all [Value.oneCell',Value.cells]
theorem Rep.cells{Γ:Gh}{x:AV}{u:Value}(h:Rep Γ x u)(f:(cellsOf x).all isC=true):RepL Γ (cellsOf x) u.cells.toList/\∀y∈u.cells.toList,y.oneCell'=true:=by
 have c:isC x=true->cellsOf x=[x]->RepL Γ (cellsOf x) u.cells.toList/\∀y∈u.cells.toList,y.oneCell'=true:=by
  intro d k;rw[k,qAE (h.one d)];exact⟨RepL.cons h RepL.nil,by intro y e;simp at e;subst e;exact h.one d⟩
 cases h with
 |agg cs us j d g=>exact⟨⟨by simpa[Value.cells,cellsOf]using j,λ i x u a b=>g i x u a (by simpa[Value.cells]using b)⟩,by simpa[Value.cells]using d⟩
 |v x h=>exact c rfl rfl
 |dead u=>simp[cellsOf,isC]at f
 |sl|rs|ptr|rpt|ept|fn=>exact c rfl rfl
 |tup=>simp[cellsOf,isC]at f
 |mp=>exact c rfl rfl
theorem Rep.cells_len{Γ:Gh}{x:AV}{u:Value}(h:Rep Γ x u)(a:(cellsOf x).all isC=true):u.cells.size=(cellsOf x).length:=by
 have:=(h.cells a).1.len;simpa using this
def qet(Γ:Gh)(w:World)(b:Nat)(cs:List AV):Prop:=
 ∃vs e,w.heap[b]?=some (.cells vs e (0,0))/\RepL Γ cs vs.toList/\∀u∈vs.toList,u.oneCell'=true
def qzf(Γ:Gh)(b:List KC)(c a:Bool)(k v:List AV)(e:MapEntry):Prop:=
 Rep Γ (jp c k) e.key/\Rep Γ (jp a v) e.val/\zo b k=true/\v.all qk=true
structure qaJ (Γ:Gh) (w:World) (b:Nat) (kc:List KC) (ka va:Bool) (ks vs:List (List AV)):Prop where
 len:vs.length=ks.length
 obj:∃es clock,w.heap[b]?=some (.map es clock)/\es.size=ks.length/\∀(j:Nat) (k v:List AV) (e:MapEntry),ks[j]?=some k->vs[j]?=some v->es[j]?=some e->qzf Γ kc ka va k v e
def ju(Γ:Gh)(w:World)(i:Nat):List AV->Prop
 |[.mc b c a ks vs]=>qaJ Γ w (Γ.β i) b c a ks vs
 |cs=>qet Γ w (Γ.β i) cs
theorem ju.cells{Γ:Gh}{w:World}{i:Nat}{cs:List AV}(h:ju Γ w i cs)(a:noMc cs=true):qet Γ w (Γ.β i) cs:=by
 unfold ju at h;split at h
 .cases a
 .exact h
theorem qAY{Γ:Gh}{b:List KC}{c a:Bool}{ks vs:List (List AV)}{u:Value}(h:Rep Γ (.mc b c a ks vs) u):False:=by cases h
theorem qet.noMc{Γ:Gh}{w:World}{b:Nat}{cs:List AV}(h:qet Γ w b cs):noMc cs=true:=by
 let⟨vs,e,d,a,c⟩:=h;unfold Go.AmZ.noMc;split
 .let⟨u,_,h⟩:=a.get (i:=0) rfl;exact(qAY h).elim
 .rfl
theorem ju.of{Γ:Gh}{w:World}{i:Nat}{cs:List AV}(h:qet Γ w (Γ.β i) cs):ju Γ w i cs:=by
 have a:=h.noMc;unfold ju;split
 .cases a
 .exact h
theorem ju.split{Γ:Gh}{w:World}{i:Nat}{cs:List AV}(h:ju Γ w i cs):qet Γ w (Γ.β i) cs\/∃b c a ks vs,cs=[.mc b c a ks vs]/\qaJ Γ w (Γ.β i) b c a ks vs:=by
 unfold ju at h;split at h
 .exact .inr ⟨_,_,_,_,_,rfl,h⟩
 .exact .inl h
theorem qy5(a:List KC)(k:List AV):zo a k=true->k.all qk=true:=by
 fun_induction zo a k<;>simp_all [qk]
theorem qaJ.to{Γ Γ':Gh}{w w':World}{b B:Nat}{y:List KC}{z s:Bool}{ks vs:List (List AV)}(h:qaJ Γ w b y z s ks vs)(E:∀o,w.heap[b]?=some o->w'.heap[B]?=some o)(A:∀x u,Rep Γ x u->rb x=[]->rr x=[]->Rep Γ' x u):qaJ Γ' w' B y z s ks vs:=by
 let⟨I,es,d,H,G,F⟩:=h;refine⟨I,es,d,E _ H,G,λ j k v e a b c=>?_⟩;let⟨K,J,g3,p⟩:=F j k v e a b c
 have i:∀(g:Bool) (cs:List AV),cs.all qk=true->rb (jp g cs)=[]/\rr (jp g cs)=[]:=by
  intro g cs n;have f:∀x,qk x=true->rb x=[]/\rr x=[]:=λ x D=>by cases x<;>first|exact⟨rfl,rfl⟩|(simp[qk]at D)
  have all:∀l:List AV,l.all qk=true->rbL l=[]/\rrL l=[]:=by
   intro l
   induction l with
   |nil=>exact λ _=>⟨rfl,rfl⟩
   |cons x l C=>
     intro m;rw[ke,wb]at m;let⟨r,q⟩:=f x m.1;let⟨M,L⟩:=C m.2;exact⟨by rw[rbL,r,M];rfl,by rw[rrL,q,L];rfl⟩
  cases g with
  |true=>let⟨r,q⟩:=all cs n;exact⟨by rw[jp,rb,r],by rw[jp,rr,q]⟩
  |false=>
    unfold jp;split
    .cases ‹_›
    .split
     .rw[ke,wb]at n;exact f _ n.1
     .exact⟨rfl,rfl⟩
 have t:=qy5;exact⟨A _ _ K (i _ _ (t _ _ g3)).1 (i _ _ (t _ _ g3)).2,A _ _ J (i _ _ p).1 (i _ _ p).2,g3,p⟩
theorem qaJ.lift{Γ Γ':Gh}{w w':World}{b e:Nat}{c:List KC}{d a:Bool}{ks vs:List (List AV)}(h:qaJ Γ w b c d a ks vs)(g:Le Γ Γ')(i:∀o,w.heap[b]?=some o->w'.heap[e]?=some o):qaJ Γ' w' e c d a ks vs:=h.to i λ _ _ f _ _=>f.mono g
theorem ju.to{Γ Γ':Gh}{w w':World}{i c:Nat}{cs:List AV}(f:AV->AV)(h:ju Γ w i cs)(g:∀o,w.heap[Γ.β i]?=some o->w'.heap[Γ'.β c]?=some o)(d:∀x u,Rep Γ x u->(x∈cs\/rb x=[]/\rr x=[])->Rep Γ' (f x) u)(k:∀x,rb x=[]->rr x=[]->f x=x):ju Γ' w' c (cs.map f):=by
 obtain⟨vs,e,r,l,q⟩|⟨t,v,s,ks,vs,rfl,p⟩:=h.split
 .refine .of ⟨vs,e,g _ r,⟨by rw[wx];exact l.len,λ j x u a n=>?_⟩,q⟩;rw[List.getElem?_map]at a;cases b:cs[j]? with
  |none=>rw[b]at a;cases a
  |some y=>
    rw[b]at a;cases a;exact d y u (l.rep j y u b n) (.inl (wc b))
 .rw[wz,vG,k _ rfl rfl];exact p.to g λ x u a e1 m=>by have:=d x u a (.inr ⟨e1,m⟩);rwa [k x e1 m]at this
theorem ju.to'{Γ Γ':Gh}{w w':World}{i a:Nat}{cs:List AV}(h:ju Γ w i cs)(c:∀o,w.heap[Γ.β i]?=some o->w'.heap[Γ'.β a]?=some o)(b:∀x u,Rep Γ x u->(x∈cs\/rb x=[]/\rr x=[])->Rep Γ' x u):ju Γ' w' a cs:=by
 have:=h.to id c b λ _ _ _=>rfl
 rwa [List.map_id]at this
def qkt(n:Nat)(fr:Nat×Nat):Prop:=∀j,j<n->¬ (fr.1<=j/\j<fr.2)
theorem qt9(n:Nat):qkt n (0,0):=λ j _ h=>absurd h.2 (wD j)
structure qcT (Γ:Gh) (w:World) (r:Nat) (R:Row):Prop where
 k:R.k=Γ.k r
 ver:R.fz<=R.c.length->R.ver=Γ.ver r
 pos:0<R.k
 len:∀e∈R.c,e.length=R.k
 plain:∀e∈R.c,∀x∈e,qk x=true
 fz:R.c=[]\/R.fz<=R.c.length
 blk:Γ.sz r≠0->∃vs e fr,w.heap[Γ.cur r]?=some (.cells vs e fr)/\vs.size=Γ.sz r/\qkt vs.size fr/\(R.k≠1->fr=(0,0))
 fit:Γ.of r+R.c.length*R.k<=Γ.sz r
 un:Γ.sz r≠0->∀off,Γ.of r+R.fz*R.k<=off->Γ.mem (Γ.cur r) off=none
 cells:∀(i:Nat) (e:List AV) (j:Nat) (x:AV),R.c[i]?=some e->e[j]?=some x->∃u,w.cell? ⟨Γ.cur r,Γ.of r+(i*R.k+j),none⟩=some u/\Rep Γ x u/\u.oneCell'=true
 nbx:Γ.sz r≠0->∀i,i<Γ.nb->Γ.β i≠Γ.cur r
 off:R.off=false->Γ.of r=0
def jf(Γ:Gh)(b:Nat):Prop:=(∃i,i<Γ.nb/\Γ.β i=b)\/∃r,r<Γ.nr/\Γ.sz r≠0/\Γ.cur r=b
def qwa:Array Value:=((List.range 20).map λ i=>Value.int .u64 ((10^i:Nat):Int)).toArray
def Tab(Γ:Gh)(w:World):Prop:=(∃e fr,w.heap[0]?=some (.cells qwa e fr))/\¬ jf Γ 0/\Γ.mem 0 0≠none
structure Inv (Γ:Gh) (σ:St) (w:World):Prop where
 nb:Γ.nb=σ.bx.length
 nr:Γ.nr=σ.rw.length
 mem:∀b o u,Γ.mem b o=some u->w.cell? ⟨b,o,none⟩=some u/\u.oneCell'=true
 box:∀i cs,σ.bx[i]?=some cs->ju Γ w i cs
 inj:∀i j,i<Γ.nb->j<Γ.nb->Γ.β i=Γ.β j->i=j
 boxmem:∀i,i<Γ.nb->∀o,Γ.mem (Γ.β i) o=none
 row:∀r R,σ.rw[r]?=some R->qcT Γ w r R
 apart:∀r r',r<Γ.nr->r'<Γ.nr->r≠r'->Γ.sz r≠0->Γ.sz r'≠0->Γ.cur r≠Γ.cur r'
 tab:Tab Γ w
structure Ext (Γ:Gh) (w:World) (Γ':Gh) (w':World):Prop where
 le:Le Γ Γ'
 os:w'.os=w.os
 tape:w'.tape=w.tape
 output:w'.output=w.output
 size:w.heap.size<=w'.heap.size
 block:∀b,b<w.heap.size->¬ jf Γ b->w'.heap[b]?=w.heap[b]?
 own:∀b,jf Γ' b->jf Γ b\/w.heap.size<=b
 memg:∀b o u,Γ'.mem b o=some u->Γ.mem b o=some u\/jf Γ b\/w.heap.size<=b
 drawn:w.drawn<=w'.drawn
theorem qA7{Γ Γ':Gh}(h:Le Γ Γ')(t:Γ.mem 0 0≠none):Γ'.mem 0 0≠none:=λ a=>by
 cases b:Γ.mem 0 0 with
 |none=>exact t b
 |some u=>rw[h.mem _ _ _ b]at a;cases a
theorem Ext.tab{Γ Γ':Gh}{w w':World}(h:Ext Γ w Γ' w')(t:Tab Γ w):Tab Γ' w':=by
 let⟨⟨e,fr,b⟩,a,d⟩:=t;have f:0<w.heap.size:=(Array.getElem?_eq_some_iff.1 b).1;exact⟨⟨e,fr,by rw[h.block 0 f a];exact b⟩,λ c=>(h.own 0 c).elim a λ g=>by omega,qA7 h.le d⟩
theorem qn9{a b:Prop}(x:a)(f:a->b):a/\b:=⟨x,f x⟩
theorem Ext.refl(Γ:Gh)(w:World):Ext Γ w Γ w:=⟨.refl _,rfl,rfl,rfl,wa _,λ _ _ _=>rfl,λ _ h=>.inl h,λ _ _ _ h=>.inl h,wa _⟩
theorem Ext.trans{Γ e d:Gh}{w i f:World}(h:Ext Γ w e i)(g:Ext e i d f):Ext Γ w d f where
 le:=h.le.trans g.le
 os:=g.os.trans h.os
 tape:=g.tape.trans h.tape
 output:=g.output.trans h.output
 size:=wC h.size g.size
 block:=λ b c j=>(g.block b (wv c h.size) λ k=>(h.own b k).elim j λ a=>by omega).trans (h.block b c j)
 own:=λ b c=>(g.own b c).elim (h.own b) λ a=>.inr (wC h.size a)
 memg:=λ b o u c=>(g.memg b o u c).elim (h.memg b o u) λ a=>.inr (a.elim (h.own b) λ a=>.inr (wC h.size a))
 drawn:=wC h.drawn g.drawn
theorem Inv.drew{Γ:Gh}{σ:St}{w:World}(h:Inv Γ σ w):Inv Γ σ {w with drawn:=w.drawn+1}:=by
 refine⟨h.nb,h.nr,λ b o u e=>h.mem b o u e,λ i cs e=>?_,h.inj,h.boxmem,λ r R e=>?_,h.apart,h.tab⟩
 .obtain j|⟨t,v,s,ks,vs,rfl,l⟩:=(h.box i cs e).split
  .exact .of j
  .exact l.to (λ _ h=>h) λ _ _ h _ _=>h
 let⟨a,b,c,d,e1,f,g,j,q,p,n,m⟩:=h.row r R e;exact⟨a,b,c,d,e1,f,g,j,q,p,n,m⟩
theorem Ext.drew(Γ:Gh)(w:World):Ext Γ w Γ {w with drawn:=w.drawn+1}:=⟨.refl _,rfl,rfl,rfl,wa _,λ _ _ _=>rfl,λ _ h=>.inl h,λ _ _ _ h=>.inl h,wU _⟩
theorem qnm{w:World}{b o:Nat}{u:Value}(h:w.cell? ⟨b,o,none⟩=some u):b<w.heap.size:=by
 unfold World.cell? at h;split at h
 .rename_i a;exact(Array.getElem?_eq_some_iff.1 a).1
 .cases h
theorem Inv.mem_lt{Γ:Gh}{σ:St}{w:World}(h:Inv Γ σ w){b o:Nat}{u:Value}(e:Γ.mem b o=some u):b<w.heap.size:=qnm (h.mem b o u e).1
abbrev waq:=@RepL.cons
abbrev war:=@RepL.mono
end Go.AmZ
namespace Go.AmZ
open Go Go.RowKit
theorem Q3{w w':World}(a:Below w.heap.size w w'){b:Nat}{o:Obj}(h:w.heap[b]?=some o):w'.heap[b]?=some o:=by
 have:b<w.heap.size:=(Array.getElem?_eq_some_iff.1 h).1;rw[a.block b this];exact h
theorem qpR{w w':World}(a:Below w.heap.size w w'){b o:Nat}{u:Value}(h:w.cell? ⟨b,o,none⟩=some u):w'.cell? ⟨b,o,none⟩=some u:=by
 rw[a.cell (qnm h)];exact h
theorem jC{w:World}{b:Nat}{vs:Array Value}{e:TypeId}{fr:Nat×Nat}(h:w.heap[b]?=some (.cells vs e fr))(off:Nat):w.cell? ⟨b,off,none⟩=vs[off]?:=by
 unfold World.cell?;show(match w.heap[b]? with|some (.cells c _ _)=>if(none:Option Nat).isSome=true then none else c[off]?|_=>none)=_;rw[h];rfl
theorem getElem?_lt' {α:Type}{l:List α}{i:Nat}{x:α}(h:l[i]?=some x):i<l.length:=(List.getElem?_eq_some_iff.1 h).1
theorem qcT.lift{Γ Γ':Gh}{w w':World}{r:Nat}{R:Row}(h:qcT Γ w r R)(B:r<Γ.nr)(m:Le Γ Γ')(g:Γ'.ver r=Γ.ver r)
  (D:Γ.sz r≠0->∀ob,w.heap[Γ.cur r]?=some ob->w'.heap[Γ.cur r]?=some ob)
  (H:Γ.sz r≠0->∀off,Γ.mem (Γ.cur r) off=none->Γ'.mem (Γ.cur r) off=none) (q:Γ.sz r≠0->∀i,i<Γ'.nb->Γ.nb<=i->Γ'.β i≠Γ.cur r):qcT Γ' w' r R:=by
 let⟨k,o,pos,p,F,O,f,N,M,L,K,J⟩:=h;let⟨d,b,c⟩:=m.loc r B g;refine⟨k.trans (m.k r B).symm,λ G=>(o G).trans g.symm,pos,p,F,O,λ a=>?_,by rw[b,c];exact N,λ a off C=>by rw[b]at a;rw[c]at C;rw[d];exact H a off (M a off C),?_,?_,λ h=>c.trans (J h)⟩
 .rw[b]at a;let⟨vs,e,fr,f,E,y⟩:=f a;exact⟨vs,e,fr,by rw[d];exact D a _ f,E.trans b.symm,y⟩
 .intro i P j x n I
  have a:Γ.sz r≠0:=by
   intro a;have t:=getElem?_lt' n;have:=vQ (vu (wh _) t) pos;omega
  let⟨vs,e,fr,f,E,_⟩:=f a;let⟨u,A,s,z⟩:=L i P j x n I;refine⟨u,?_,s.mono m,z⟩;rw[jC f]at A;rw[d,c,jC (D a _ f)];exact A
 .intro a i n v;rw[b]at a;rw[d]at v;by_cases l:i<Γ.nb
  .exact K a i l (by rw[<-m.β i l];exact v)
  .exact q a i n (by omega) v
theorem ju.lift{Γ Γ':Gh}{w w':World}{i:Nat}{cs:List AV}(h:ju Γ w i cs)(b:i<Γ.nb)(a:Le Γ Γ')(c:∀o,w.heap[Γ.β i]?=some o->w'.heap[Γ.β i]?=some o):ju Γ' w' i cs:=by
 obtain⟨vs,e,j,g,f⟩|⟨l,m,k,ks,vs,rfl,d⟩:=h.split
 .exact .of ⟨vs,e,by rw[a.β i b];exact c _ j,g.mono a,f⟩
 .exact d.lift a (by rw[a.β i b];exact c)
theorem ju.heap{Γ:Gh}{w:World}{i:Nat}{cs:List AV}(h:ju Γ w i cs):∃o,w.heap[Γ.β i]?=some o:=by
 obtain⟨vs,e,b,_⟩|⟨d,f,c,ks,vs,rfl,_,es,a,b,_⟩:=h.split<;>exact⟨_,b⟩
theorem getElem?_lt {α:Type}{l:List α}{i:Nat}{x:α}(h:l[i]?=some x):i<l.length:=(List.getElem?_eq_some_iff.1 h).1
theorem qds{Γ:Gh}{w w':World}(a:Below w.heap.size w w')(c:w.drawn<=w'.drawn):Ext Γ w Γ w':=⟨.refl _,a.os,a.tape,a.output,a.size,λ b d _=>a.block b d,λ _ h=>.inl h,λ _ _ _ h=>.inl h,c⟩
theorem Inv.box_lt{Γ:Gh}{σ:St}{w:World}(h:Inv Γ σ w){i:Nat}(b:i<Γ.nb):Γ.β i<w.heap.size:=by
 have a:i<σ.bx.length:=h.nb▸b;let⟨o,c⟩:=(h.box i _ (List.getElem?_eq_getElem a)).heap;exact(Array.getElem?_eq_some_iff.1 c).1
theorem Inv.cur_lt{Γ:Gh}{σ:St}{w:World}(h:Inv Γ σ w){r:Nat}(c:r<Γ.nr)(b:Γ.sz r≠0):Γ.cur r<w.heap.size:=by
 have a:r<σ.rw.length:=h.nr▸c;let⟨vs,e,fr,d,f,_⟩:=(h.row r _ (List.getElem?_eq_getElem a)).blk b;exact(Array.getElem?_eq_some_iff.1 d).1
theorem qcT.live{Γ:Gh}{w:World}{r:Nat}{R:Row}(h:qcT Γ w r R){i:Nat}{e:List AV}(a:R.c[i]?=some e):R.fz<=R.c.length:=h.fz.resolve_left λ b=>by rw[b]at a;cases a
theorem qcT.liveN{Γ:Gh}{w:World}{r:Nat}{R:Row}(h:qcT Γ w r R){m n:Nat}(a:m+n<=R.c.length)(d:0<n):R.fz<=R.c.length:=h.fz.resolve_left λ b=>by rw[b]at a;simp at a;omega
theorem qcT.real{Γ:Gh}{w:World}{r:Nat}{R:Row}(h:qcT Γ w r R){i:Nat}{e:List AV}(b:R.c[i]?=some e):Γ.sz r≠0:=by
 intro d;have a:=getElem?_lt' b;have:=vQ (vu (wh _) a) h.pos;have:=h.fit;omega
theorem Inv.later{Γ:Gh}{σ:St}{w w':World}(h:Inv Γ σ w)(a:Below w.heap.size w w'):Inv Γ σ w' where
 tab:=⟨let⟨e,fr,f⟩:=h.tab.1;⟨e,fr,Q3 a f⟩,h.tab.2⟩
 nb:=h.nb
 nr:=h.nr
 mem:=λ b o u e=>⟨qpR a (h.mem b o u e).1,(h.mem b o u e).2⟩
 box:=λ i cs e=>(h.box i cs e).lift (by rw[h.nb];exact getElem?_lt e) (.refl _) λ o c=>Q3 a c
 inj:=h.inj
 boxmem:=h.boxmem
 row:=λ r R e=>(h.row r R e).lift (by rw[h.nr];exact getElem?_lt e) (.refl _) rfl (λ _ ob c=>Q3 a c) (λ _ _ d=>d) λ _ i j g=>by omega
 apart:=h.apart
theorem qqX{Γ:Gh}{σ:St}{w:World}(h:Inv Γ σ w){cs:List AV}{ob:Obj}(A:∀Γ',Le Γ Γ'->Γ'.β Γ.nb=w.heap.size->ju Γ' (w.alloc ob) Γ.nb cs):
  ∃Γ',Ext Γ w Γ' (w.alloc ob)/\Inv Γ' {σ with bx:=σ.bx++[cs]} (w.alloc ob)/\σ.bx.length<Γ'.nb/\Γ'.β σ.bx.length=w.heap.size:=by
 have t:Below w.heap.size w (w.alloc ob):=(Below.refl _ _).alloc (wa _) _;let Γ':Gh:={Γ with nb:=Γ.nb+1,β:=λ i=>if i=Γ.nb then w.heap.size else Γ.β i}
 have e:∀i,i<Γ.nb->Γ'.β i=Γ.β i:=λ i d=>if_neg (by omega);have a:Γ'.β Γ.nb=w.heap.size:=if_pos rfl;have f:Le Γ Γ':=⟨λ _ _ _ h=>h,wU _,e,wa _,λ _ _=>rfl,λ _ _=>wa _,λ _ _ _=>⟨rfl,rfl,rfl⟩⟩
 have q:=h.later t;refine⟨Γ',qn9 ⟨f,rfl,rfl,rfl,t.size,λ b B _=>t.block b B,?_,λ _ _ _ h=>.inl h,wa _⟩ λ E=>⟨⟨?_,h.nr,q.mem,?_,?_,?_,?_,h.apart,E.tab h.tab⟩,?_⟩⟩
 .rintro b (⟨i,d,rfl⟩|m)
  .by_cases c:i=Γ.nb
   .right;rw[c,a];exact wa _
   .left;left;exact⟨i,by show i<Γ.nb;have:i<Γ.nb+1:=d;omega,(e i (by have:i<Γ.nb+1:=d;omega)).symm⟩
  .exact .inl (.inr m)
 .show Γ.nb+1=(σ.bx++[cs]).length;simp[h.nb]
 .intro i cs' d;rw[List.getElem?_append]at d;split at d
  .rename_i n;exact(h.box i cs' d).lift (by rw[h.nb];exact n) f λ o m=>Q3 t m
  .rename_i n
   have y:i-σ.bx.length=0:=by
    have:=getElem?_lt d;simp at this;omega
   rw[y]at d;simp at d;subst d;have x:i=Γ.nb:=by rw[h.nb];omega
   rw[x];exact A Γ' f a
 .intro i j d D g;have s:i<Γ.nb+1:=d;have C:j<Γ.nb+1:=D;by_cases c:i=Γ.nb<;>by_cases p:j=Γ.nb
  .rw[c,p]
  .rw[c,a,e j (by omega)]at g;have:=h.box_lt (i:=j) (by omega);omega
  .rw[p,a,e i (by omega)]at g;have:=h.box_lt (i:=i) (by omega);omega
  .rw[e i (by omega),e j (by omega)]at g;exact h.inj i j (by omega) (by omega) g
 .intro i d o;have s:i<Γ.nb+1:=d;by_cases c:i=Γ.nb
  .rw[c,a];show Γ.mem w.heap.size o=none;cases v:Γ.mem w.heap.size o with
   |none=>rfl
   |some u=>have:=h.mem_lt v;omega
  .rw[e i (by omega)];exact h.boxmem i (by omega) o
 .intro r R l;have k:r<Γ.nr:=by rw[h.nr];exact getElem?_lt l
  refine(h.row r R l).lift k f rfl (λ _ ob m=>Q3 t m) (λ _ _ v=>v) λ z i d F g=>?_;have s:i<Γ.nb+1:=d;have c:i=Γ.nb:=by omega
  rw[c,a]at g;have:=h.cur_lt k z;omega
 .rw[<-h.nb];exact⟨kV _,a⟩
theorem qsL{Γ:Gh}{σ:St}{w:World}(h:Inv Γ σ w){cs:List AV}{vs:List Value}(g:RepL Γ cs vs)(j:∀u∈vs,u.oneCell'=true)(e:TypeId):
  ∃Γ',Ext Γ w Γ' (w.alloc (.cells vs.toArray e))/\Inv Γ' {σ with bx:=σ.bx++[cs]} (w.alloc (.cells vs.toArray e))/\Rep Γ' (.ptr σ.bx.length 0) (.pointer (some ⟨w.heap.size,0,none⟩)):=by
 let⟨Γ',a,b,c,d⟩:=qqX h (cs:=cs) (ob:=.cells vs.toArray e) λ Γ' i f=>.of ⟨vs.toArray,e,by rw[f];exact heap_alloc_new w _,by simpa using g.mono i,by simpa using j⟩;exact⟨Γ',a,b,by rw[<-d];exact .ptr _ _ c⟩
theorem qAD{Γ:Gh}{σ:St}{w:World}(h:Inv Γ σ w)(i:List KC)(l g:Bool):
  ∃Γ',Ext Γ w Γ' (w.alloc (.map #[] 0))/\Inv Γ' {σ with bx:=σ.bx++[[.mc i l g [] []]]} (w.alloc (.map #[] 0))/\Rep Γ' (.mp σ.bx.length) (.map (some w.heap.size)):=by
 let⟨Γ',a,b,c,d⟩:=qqX h (cs:=[.mc i l g [] []]) (ob:=.map #[] 0) λ Γ' n f=>⟨rfl,#[],0,by rw[f];exact heap_alloc_new w _,rfl,λ j k v e m=>by simp at m⟩
 exact⟨Γ',a,b,by rw[<-d];exact .mp _ c⟩
theorem qs1{Γ:Gh}{σ:St}{w:World}(h:Inv Γ σ w){vs:List Value}(B:∀u∈vs,u.oneCell'=true)(e:TypeId):
  ∃Γ',Ext Γ w Γ' (w.alloc (.cells vs.toArray e))/\Inv Γ' σ (w.alloc (.cells vs.toArray e))/\∀j u,vs[j]?=some u->Γ'.mem w.heap.size j=some u:=by
 have n:Below w.heap.size w (w.alloc (.cells vs.toArray e)):=(Below.refl _ _).alloc (wa _) _;let Γ':Gh:={Γ with mem:=λ b o=>if b=w.heap.size then vs[o]? else Γ.mem b o}
 have q:∀b o u,Γ.mem b o=some u->b≠w.heap.size:=λ b o u e m=>by have:=h.mem_lt e;omega
 have c:Le Γ Γ':=⟨λ b o u e=>by show(if b=w.heap.size then vs[o]? else Γ.mem b o)=some u;rw[if_neg (q b o u e)];exact e,wa _,λ _ _=>rfl,wa _,λ _ _=>rfl,λ _ _=>wa _,λ _ _ _=>⟨rfl,rfl,rfl⟩⟩
 have l:=h.later n;refine⟨Γ',qn9 ⟨c,rfl,rfl,rfl,n.size,λ b x _=>n.block b x,λ b g=>.inl g,λ b o u s=>?_,wa _⟩ λ A=>⟨⟨h.nb,h.nr,?_,?_,h.inj,?_,?_,h.apart,A.tab h.tab⟩,?_⟩⟩
 .have k:(if b=w.heap.size then vs[o]? else Γ.mem b o)=some u:=s;split at k
  .right;right;omega
  .exact .inl k
 .intro b o u m;have a:(if b=w.heap.size then vs[o]? else Γ.mem b o)=some u:=m;by_cases d:b=w.heap.size
  .rw[if_pos d]at a;subst d;refine⟨?_,B u (wc a)⟩;rw[World.cell?_alloc_mark];simpa using a
  .rw[if_neg d]at a;exact l.mem b o u a
 .intro i cs m;exact(h.box i cs m).lift (by rw[h.nb];exact getElem?_lt m) c λ o g=>Q3 n g
 .intro i p o;show(if Γ.β i=w.heap.size then vs[o]? else Γ.mem (Γ.β i) o)=none;have:=h.box_lt p;rw[if_neg (by omega)];exact h.boxmem i p o
 .intro r R t;have f:r<Γ.nr:=by rw[h.nr];exact getElem?_lt t
  refine(h.row r R t).lift f c rfl (λ _ ob g=>Q3 n g) (λ v off s=>?_) λ _ i p C=>by have:i<Γ.nb:=p;omega
  have z:=h.cur_lt f v;show(if Γ.cur r=w.heap.size then vs[off]? else Γ.mem (Γ.cur r) off)=none;rw[if_neg (by omega)];exact s
 .intro j u y;show(if w.heap.size=w.heap.size then vs[j]? else Γ.mem w.heap.size j)=some u;rw[if_pos rfl];exact y
theorem qpO{Γ:Gh}{σ:St}{w:World}(h:Inv Γ σ w){b:Nat}{cs cs':List AV}(F:σ.bx[b]?=some cs)(A:List Nat)(w':World)
  (C:ju Γ w' b cs') (s:∀k,k≠Γ.β b->w'.heap[k]?=w.heap[k]?) (v:w'.os=w.os) (t:w'.tape=w.tape) (n:w'.output=w.output) (D:w'.heap.size=w.heap.size) (y:w.drawn<=w'.drawn):
  Ext Γ w Γ w'/\Inv Γ {σ with bx:=σ.bx.set b cs',wr:=A} w':=by
 have c:b<Γ.nb:=by rw[h.nb];exact getElem?_lt F
 have l:∀k o,k≠Γ.β b->w'.cell? ⟨k,o,none⟩=w.cell? ⟨k,o,none⟩:=λ k o f=>by unfold World.cell?;rw[s k f]
 have a:∀k o u,Γ.mem k o=some u->k≠Γ.β b:=λ k o u e f=>by rw[f,h.boxmem b c o]at e;cases e
 refine(qn9 ⟨.refl _,v,t,n,by omega,λ k _ z=>s k λ f=>z (.inl ⟨b,c,f.symm⟩),λ _ h=>.inl h,λ _ _ _ h=>.inl h,y⟩ λ G=>⟨?_,h.nr,?_,?_,h.inj,h.boxmem,?_,h.apart,G.tab h.tab⟩)
 .show Γ.nb=(σ.bx.set b cs').length;rw[wE];exact h.nb
 .intro k o u e;rw[l k o (a k o u e)];exact h.mem k o u e
 .intro i q d;rw[List.getElem?_set]at d;split at d
  .rename_i j;subst j;split at d
   .cases d;exact C
   .cases d
  .rename_i j;have p:i<Γ.nb:=by rw[h.nb];exact getElem?_lt d
   refine(h.box i q d).lift p (.refl _) λ o g=>?_;rw[s _ λ x=>j (h.inj b i c p x.symm)];exact g
 .intro r R m;have H:=h.row r R m;refine H.lift (by rw[h.nr];exact getElem?_lt m) (.refl _) rfl (λ B ob f=>?_) (λ _ _ E=>E) λ _ i d z=>by omega
  rw[s _ λ x=>H.nbx B b c x.symm];exact f
theorem qBd{Γ:Gh}{σ:St}{w:World}(h:Inv Γ σ w){b:Nat}{cs cs':List AV}(j:σ.bx[b]?=some cs)(o:noMc cs=true){vs':List Value}(m:RepL Γ cs' vs')(p:∀u∈vs',u.oneCell'=true)(i:List Nat)(w':World)
  (l:∀vs e,w.heap[Γ.β b]?=some (.cells vs e (0,0))->w'.heap[Γ.β b]?=some (.cells vs'.toArray e (0,0))) (n:∀k,k≠Γ.β b->w'.heap[k]?=w.heap[k]?) (f:w'.os=w.os) (c:w'.tape=w.tape) (a:w'.output=w.output) (d:w'.heap.size=w.heap.size) (g:w.drawn<=w'.drawn):
  Ext Γ w Γ w'/\Inv Γ {σ with bx:=σ.bx.set b cs',wr:=i} w':=by
 let⟨vs,e,q,_⟩:=(h.box b cs j).cells o;exact qpO h j i w' (.of ⟨vs'.toArray,e,l vs e q,by simpa using m,by simpa using p⟩) n f c a d g
theorem qwn{Γ:Gh}{σ:St}{w w':World}(h:Inv Γ σ w){k:Nat}(hk:0<k){c:List (List AV)}(H:∀e∈c,e.length=k)(T:∀e∈c,∀x∈e,qk x=true){vs:Array Value}(N:c.length*k<=vs.size)
  (n:∀(i:Nat) (e:List AV) (j:Nat) (x:AV),c[i]?=some e->e[j]?=some x->∃u,vs[i*k+j]?=some u/\Rep Γ x u/\u.oneCell'=true) {e:TypeId}{cap:Nat} (hc:c.length<=cap) (aa:cap*k<=vs.size) (A:Below w.heap.size w w') (Z:w.drawn<=w'.drawn) {g:Nat} (hg:w.heap.size<=g) {fr:Nat×Nat} (O:qkt vs.size fr) (X:k≠1->fr=(0,0)) (z:w'.heap[g]?=some (.cells vs e fr)):
  ∃Γ',Ext Γ w Γ' w'/\Inv Γ' {σ with rw:=σ.rw++[⟨k,c,0,0,false⟩]} w'/\Rep Γ' (.rs σ.rw.length 0 c.length 0 false) (.slice (some ⟨g,0,none⟩) c.length cap):=by
 let Γ':Gh:={Γ with nr:=Γ.nr+1,ver:=λ r=>if r=Γ.nr then 0 else Γ.ver r,k:=λ r=>if r=Γ.nr then k else Γ.k r,cur:=λ r=>if r=Γ.nr then g else Γ.cur r,sz:=λ r=>if r=Γ.nr then vs.size else Γ.sz r,of:=λ r=>if r=Γ.nr then 0 else Γ.of r}
 have D:∀r,r<Γ.nr->Γ'.ver r=Γ.ver r:=λ r n=>if_neg (by omega);have W:∀r,r<Γ.nr->Γ'.k r=Γ.k r:=λ r n=>if_neg (by omega);have f:∀r,r<Γ.nr->Γ'.cur r=Γ.cur r:=λ r n=>if_neg (by omega);have d:∀r,r<Γ.nr->Γ'.sz r=Γ.sz r:=λ r n=>if_neg (by omega);have F:∀r,r<Γ.nr->Γ'.of r=Γ.of r:=λ r n=>if_neg (by omega);have l:Γ'.of Γ.nr=0:=if_pos rfl;have a:Γ'.cur Γ.nr=g:=if_pos rfl;have p:Γ'.sz Γ.nr=vs.size:=if_pos rfl;have C:Γ'.ver Γ.nr=0:=if_pos rfl;have I:Γ'.k Γ.nr=k:=if_pos rfl;have v:Le Γ Γ':=⟨λ _ _ _ h=>h,wa _,λ _ _=>rfl,wU _,W,λ r n=>by rw[D r n];exact wa _,λ r n _=>⟨f r n,d r n,F r n⟩⟩
 have J:=h.later A;refine⟨Γ',qn9 ⟨v,A.os,A.tape,A.output,A.size,λ b M _=>A.block b M,?_,λ _ _ _ h=>.inl h,Z⟩ λ hX=>⟨⟨h.nb,?_,J.mem,?_,h.inj,h.boxmem,?_,?_,hX.tab h.tab⟩,?_⟩⟩
 .rintro b (G|⟨r,S,hz,M⟩)
  .exact .inl (.inl G)
  .by_cases t:r=Γ.nr
   .right;rw[t,a]at M;omega
   .left;right;have m:r<Γ.nr:=by have:r<Γ.nr+1:=S;omega
    exact⟨r,m,by rw[<-d r m];exact hz,by rw[<-f r m];exact M⟩
 .show Γ.nr+1=(σ.rw++[_]).length;simp[h.nr]
 .intro i cs L;exact(h.box i cs L).lift (by rw[h.nb];exact getElem?_lt L) v λ o G=>Q3 A G
 .intro r R B;rw[List.getElem?_append]at B;split at B
  .rename_i m;have t:r<Γ.nr:=by rw[h.nr];exact m
   exact(h.row r R B).lift t v (D r t) (λ _ ob G=>Q3 A G) (λ _ _ V=>V) λ _ i K hn=>by have:i<Γ.nb:=K;omega
  .rename_i m
   have Y:r-σ.rw.length=0:=by
    have:=getElem?_lt B;simp at this;omega
   rw[Y]at B;simp at B;subst B;obtain rfl:r=Γ.nr:=by rw[h.nr];omega
   refine⟨I.symm,λ _=>C.symm,hk,H,T,.inr (wh _),λ _=>⟨vs,e,fr,by rw[a];exact z,p.symm,O,X⟩,by rw[p,l,wy];exact N,?_,?_,?_,λ _=>l⟩
   .intro _ off _;rw[a];show Γ.mem g off=none;cases V:Γ.mem g off with
    |none=>rfl
    |some u=>have:=h.mem_lt V;omega
   .intro i e' j x K hj;let⟨u,hu,E,h1⟩:=n i e' j x K hj;refine⟨u,?_,E.mono v,h1⟩;rw[a,l,wy,jC z];exact hu
   .intro _ i K L;have:=h.box_lt (i:=i) K;rw[a]at L;have ad:Γ.β i=g:=L;omega
 .intro r y Q P U s q;have ac:r<Γ.nr+1:=Q;have ab:y<Γ.nr+1:=P;by_cases h1:r=Γ.nr<;>by_cases h2:y=Γ.nr
  .omega
  .rw[d y (by omega)]at q;rw[h1,a,f y (by omega)];have:=h.cur_lt (r:=y) (by omega) q;omega
  .rw[d r (by omega)]at s;rw[h2,a,f r (by omega)];have:=h.cur_lt (r:=r) (by omega) s;omega
  .rw[d r (by omega)]at s;rw[d y (by omega)]at q;rw[f r (by omega),f y (by omega)];exact h.apart r y (by omega) (by omega) U s q
 .refine .rs _ _ _ _ _ _ _ (by show σ.rw.length<Γ.nr+1;rw[h.nr];omega) (wh _) hc (λ hf=>by cases hf) λ _=>?_;rw[<-h.nr,a,I,p,l];exact⟨.inr (by simp),by simpa using aa⟩
def jo(Γ:Gh)(r:Nat)(R:Row):Prop:=
 ∀(i:Nat) (e:List AV) (j:Nat) (x:AV),R.c[i]?=some e->e[j]?=some x->∃u,Γ.mem (Γ.cur r) (Γ.of r+(i*R.k+j))=some u/\Rep Γ x u
theorem qsu{Γ:Gh}{σ:St}{w w':World}(h:Inv Γ σ w){k:Nat}(o:0<k){c:List (List AV)}(b:∀e∈c,e.length=k)(f:∀e∈c,∀x∈e,qk x=true){vs:Array Value}(d:c.length*k<=vs.size)
  (n:∀(i:Nat) (e:List AV) (j:Nat) (x:AV),c[i]?=some e->e[j]?=some x->∃u,vs[i*k+j]?=some u/\Rep Γ x u/\u.oneCell'=true) {e:TypeId}{cap:Nat} (q:c.length<=cap) (m:cap*k<=vs.size) (r:Below w.heap.size w w') (l:w.drawn<=w'.drawn) {g:Nat} (p:w.heap.size<=g) (a:w'.heap[g]?=some (.cells vs e (0,0))):
  ∃Γ',Ext Γ w Γ' w'/\Inv Γ' {σ with rw:=σ.rw++[⟨k,c,0,0,false⟩]} w'/\Rep Γ' (.rs σ.rw.length 0 c.length 0 false) (.slice (some ⟨g,0,none⟩) c.length cap):=
 qwn h o b f d n q m r l p (qt9 _) (λ _=>rfl) a
theorem qyD{α:Type}{l:List α}{r i:Nat}{f:α->α}{y:α}(h:(l.modify r f)[i]?=some y):∃x,l[i]?=some x/\y=if r=i then f x else x:=by
 rw[List.getElem?_modify]at h;cases a:l[i]? with
 |none=>rw[a]at h;simp at h
 |some x=>
   rw[a]at h;refine⟨x,rfl,?_⟩;split<;>simp_all
structure Fz (Γ:Gh) (m:Nat->Nat->Option Value):Prop where
 le:Le Γ {Γ with mem:=m}
 own:∀b o u,m b o=some u->Γ.mem b o=some u\/jf Γ b
theorem qpI{Γ:Gh}{σ:St}{w:World}(h:Inv Γ σ w){r:Nat}{R:Row}(J:σ.rw[r]?=some R)(wl:List Nat):
  ∃m,Fz Γ m/\Inv {Γ with mem:=m} {σ with rw:=σ.rw.modify r qel,wrr:=wl} w/\jo {Γ with mem:=m} r R:=by
 have H0:=h.row r R J;let⟨k,G,pos,s,pl,fz,g2,g4,g5,W,Z,g9⟩:=H0;have A:r<Γ.nr:=by rw[h.nr];exact getElem?_lt J
 let m:Nat->Nat->Option Value:=λ a off=>if a=Γ.cur r/\Γ.of r<=off/\off<Γ.of r+R.c.length*R.k then w.cell? ⟨a,off,none⟩else Γ.mem a off
 have M:∀a off u,Γ.mem a off=some u->m a off=some u:=by
  intro a off u d;show(if _ then _ else _)=_;split
  .exact(h.mem a off u d).1
  .exact d
 have f:Le Γ {Γ with mem:=m}:=⟨M,wa _,λ _ _=>rfl,wa _,λ _ _=>rfl,λ _ _=>wa _,λ _ _ _=>⟨rfl,rfl,rfl⟩⟩
 have B:∀(i:Nat) (e:List AV) (j:Nat) (x:AV),R.c[i]?=some e->e[j]?=some x->∃u,m (Γ.cur r) (Γ.of r+(i*R.k+j))=some u/\Rep {Γ with mem:=m} x u:=by
  intro i e j x l E;let⟨u,I,g,Y⟩:=W i e j x l E;refine⟨u,?_,g.mono f⟩;have Q:=getElem?_lt l;have O:=getElem?_lt E;rw[s e (wc l)]at O
  have:i*R.k+j<R.c.length*R.k:=by
   calc i*R.k+j<i*R.k+R.k:=by omega
    _=(i+1)*R.k:=by rw[wS,xl]
    _<=R.c.length*R.k:=wm _ Q
  show(if _ then _ else _)=_;rw[if_pos ⟨rfl,w7 _ _,by omega⟩];exact I
 refine⟨m,⟨f,λ a off u d=>?_⟩,⟨h.nb,?_,?_,?_,h.inj,?_,?_,h.apart,h.tab.1,h.tab.2.1,qA7 f h.tab.2.2⟩,B⟩
 .have b:(if a=Γ.cur r/\Γ.of r<=off/\off<Γ.of r+R.c.length*R.k then w.cell? ⟨a,off,none⟩else Γ.mem a off)=some u:=d;split at b
  .rename_i v;right;right;exact⟨r,A,by omega,v.1.symm⟩
  .exact .inl b
 .show Γ.nr=(σ.rw.modify r qel).length;rw[vw];exact h.nr
 .intro a off u d;have b:(if a=Γ.cur r/\Γ.of r<=off/\off<Γ.of r+R.c.length*R.k then w.cell? ⟨a,off,none⟩else Γ.mem a off)=some u:=d;split at b
  .rename_i v;refine⟨b,?_⟩;let⟨T,ac,ab⟩:=v;obtain⟨off,rfl⟩:∃p,off=Γ.of r+p:=⟨off-Γ.of r,by omega⟩
   have y:off/R.k<R.c.length:=by
    rw[xL pos];omega
   have P:off%R.k<R.k:=xP _ pos;have N:=s _ (wQ y);let⟨u',z,_,V⟩:=W (off/R.k) _ (off%R.k) _ (List.getElem?_eq_getElem y) (List.getElem?_eq_getElem (by rw[N];exact P));have S:off/R.k*R.k+off%R.k=off:=by rw[xz];exact xX off R.k
   rw[S,<-T,b]at z;cases z;exact V
  .exact h.mem a off u b
 .intro i cs d;exact(h.box i cs d).lift (by rw[h.nb];exact getElem?_lt d) f λ o D=>D
 .intro i l off;show(if _ then _ else _)=_;rw[if_neg λ v=>Z (by omega) i l v.1];exact h.boxmem i l off
 .intro C R' U;let⟨R0,F,d⟩:=qyD U;by_cases t:r=C
  .subst t;rw[if_pos rfl]at d;rw[J]at F;cases F;subst d;refine⟨k,λ y=>G (wC (vl _ R.c.length) y),pos,s,pl,fz.imp_right λ y=>Nat.max_le.2 ⟨y,wa _⟩,g2,g4,?_,?_,Z,g9⟩
   .intro H off D;have aa:Γ.of r+R.c.length*R.k<=off:=wC (vp (wm _ (vH R.fz _)) _) D;have K:Γ.of r+R.fz*R.k<=off:=wC (vp (wm _ (vl _ R.c.length)) _) D;show(if _ then _ else _)=_;rw[if_neg (by omega)];exact g5 H off K
   .intro i X j x l E;let⟨u,I,g,Y⟩:=W i X j x l E;exact⟨u,I,g.mono f,Y⟩
  .rw[if_neg t]at d;subst d;have n:C<Γ.nr:=by rw[h.nr];exact getElem?_lt F
   refine(h.row C _ F).lift n f rfl (λ _ _ h=>h) (λ H off L=>?_) λ _ i l hn=>by have:i<Γ.nb:=l;omega
   show(if _ then _ else _)=_;rw[if_neg λ v=>h.apart r C A n t (by omega) H v.1.symm];exact L
theorem qgk{Γ:Gh}{m:Nat->Nat->Option Value}(a:Fz Γ m)(w:World):Ext Γ w {Γ with mem:=m} w:=⟨a.le,rfl,rfl,rfl,wa _,λ _ _ _=>rfl,λ _ h=>.inl h,λ b o u d=>(a.own b o u d).imp_right .inl,wa _⟩
theorem jo.mono{Γ:Gh}{m:Nat->Nat->Option Value}(b:Le Γ {Γ with mem:=m}){r:Nat}{R:Row}(h:jo Γ r R):jo {Γ with mem:=m} r R:=λ i e j x g f=>
 let⟨u,c,d⟩:=h i e j x g f;⟨u,b.mem _ _ _ c,d.mono b⟩
theorem QW{w:World}:∀(f:List Nat) {Γ:Gh}{σ:St} (h:Inv Γ σ w) (c:List Nat),
  ∃m,Fz Γ m/\Inv {Γ with mem:=m} {σ with rw:=frz σ.rw f,wrr:=c} w/\∀r∈f,∀R,σ.rw[r]?=some R->jo {Γ with mem:=m} r R
 |[],Γ,σ,h,c=>⟨Γ.mem,⟨Le.refl _,λ _ _ _ h=>.inl h⟩,⟨h.nb,h.nr,h.mem,h.box,h.inj,h.boxmem,h.row,h.apart,h.tab⟩,λ r i=>by cases i⟩
 |r::f,Γ,σ,h,c=>by
   cases i:σ.rw[r]? with
   |none=>
     let⟨m,k,q,p⟩:=QW f h c;have t:σ.rw.length<=r:=List.getElem?_eq_none_iff.1 i;have j:σ.rw.modify r qel=σ.rw:=List.modify_eq_self t;refine⟨m,k,?_,λ g a R n=>?_⟩
     .show Inv _ {σ with rw:=f.foldl _ (σ.rw.modify r qel),wrr:=c} w;rw[j];exact q
     .obtain rfl|a:=wM.1 a
      .rw[i]at n;cases n
      .exact p g a R n
   |some R=>
     let⟨m,k,q,p⟩:=qpI h i c;let⟨m',s,x,g3⟩:=QW f q c;refine⟨m',⟨k.le.trans s.le,λ b o u v=>(s.own b o u v).elim (k.own b o u) .inr⟩,x,λ g a R' e=>?_⟩;by_cases d:g=r
     .subst d;rw[i]at e;cases e;exact p.mono s.le
     .obtain rfl|a:=wM.1 a
      .exact absurd rfl d
      .refine g3 g a R' ?_;show(σ.rw.modify r qel)[g]?=some R';rw[List.getElem?_modify,e];show some (if r=g then qel R' else R')=some R';rw[if_neg (xw d)]
theorem qyf{c xs:List (List AV)}{i:Nat}{e:List AV}(h:(c++xs)[i]?=some e):(i<c.length/\c[i]?=some e)\/(c.length<=i/\xs[i-c.length]?=some e):=by
 rw[List.getElem?_append]at h;split at h
 .exact .inl ⟨‹_›,h⟩
 .exact .inr ⟨by omega,h⟩
theorem qhF{Γ:Gh}{σ:St}{w w':World}(h:Inv Γ σ w){r:Nat}{R R':Row}(hr:σ.rw[r]?=some R)(aa:R.fz<=R.c.length)(J:R'.k=R.k){g:Nat}{vs:Array Value}{e:TypeId}{o:Nat}(aj:R'.off=false->o=0)(t:R'.ver=R.ver+1\/(R'.ver=R.ver/\g=Γ.cur r/\vs.size=Γ.sz r/\o=Γ.of r))
  (ab:∀e∈R'.c,e.length=R.k) (ah:∀e∈R'.c,∀x∈e,qk x=true) (am:R'.fz<=R'.c.length) {fr:Nat×Nat} (ag:qkt vs.size fr) (al:R.k≠1->fr=(0,0)) (C:w'.heap[g]?=some (.cells vs e fr)) (ac:o+R'.c.length*R.k<=vs.size)
  (ad:∀off,o+R'.fz*R.k<=off->Γ.mem g off=none) (K:∀(i:Nat) (e:List AV) (j:Nat) (x:AV),R'.c[i]?=some e->e[j]?=some x->∃u,vs[o+(i*R.k+j)]?=some u/\Rep Γ x u/\u.oneCell'=true)
  (Z:∀b o u,Γ.mem b o=some u->w'.cell? ⟨b,o,none⟩=some u) (ho:∀b,b<w.heap.size->(b≠Γ.cur r\/Γ.sz r=0)->w'.heap[b]?=w.heap[b]?) (f:(g=Γ.cur r/\Γ.sz r≠0)\/w.heap.size<=g) (ai:w'.os=w.os) (ae:w'.tape=w.tape) (X:w'.output=w.output) (af:w.heap.size<=w'.heap.size) (an:w.drawn<=w'.drawn) (wl:List Nat):
  ∃Γ',Ext Γ w Γ' w'/\Inv Γ' {σ with rw:=σ.rw.set r R',wrr:=wl} w'/\∀(n:Nat) (cap:Nat) (a:Option Addr),n<=cap->(cap=0\/a=some ⟨g,o,none⟩)->o+cap*R.k<=vs.size->Rep Γ' (.rs r 0 n R'.ver false) (.slice a n cap):=by
 have m:r<Γ.nr:=by rw[h.nr];exact getElem?_lt hr
 have H:=h.row r R hr;let Γ':Gh:={Γ with ver:=λ s=>if s=r then R'.ver else Γ.ver s,cur:=λ s=>if s=r then g else Γ.cur s,sz:=λ s=>if s=r then vs.size else Γ.sz s,of:=λ s=>if s=r then o else Γ.of s}
 have v1:Γ'.ver r=R'.ver:=if_pos rfl;have B:Γ'.cur r=g:=if_pos rfl;have s1:Γ'.sz r=vs.size:=if_pos rfl;have N:Γ'.of r=o:=if_pos rfl;have v2:∀q,q≠r->Γ'.ver q=Γ.ver q:=λ q v=>if_neg v;have S:∀q,q≠r->Γ'.cur q=Γ.cur q:=λ q v=>if_neg v;have M:∀q,q≠r->Γ'.sz q=Γ.sz q:=λ q v=>if_neg v;have o2:∀q,q≠r->Γ'.of q=Γ.of q:=λ q v=>if_neg v
 have z:Le Γ Γ':=by
  refine⟨λ _ _ _ h=>h,wa _,λ _ _=>rfl,wa _,λ _ _=>rfl,λ q _=>?_,λ q _ v=>?_⟩
  .by_cases d:q=r
   .rw[d,v1,<-H.ver aa];obtain t|t:=t<;>omega
   .rw[v2 q d];exact wa _
  .by_cases d:q=r
   .subst d;rw[v1,<-H.ver aa]at v;obtain t|⟨_,L,h2,h3⟩:=t
    .omega
    .exact⟨B.trans L,s1.trans h2,N.trans h3⟩
   .exact⟨S q d,M q d,o2 q d⟩
 refine⟨Γ',qn9 ⟨z,ai,ae,X,af,λ b E hn=>ho b E (by
  by_cases y:Γ.sz r=0
  .exact .inr y
  .exact .inl λ A=>hn (.inr ⟨r,m,y,A.symm⟩)),?_,λ _ _ _ h=>.inl h,an⟩ λ hX=>⟨⟨h.nb,?_,λ b o u hm=>⟨Z b o u hm,(h.mem b o u hm).2⟩,?_,h.inj,h.boxmem,?_,?_,hX.tab h.tab⟩,?_⟩⟩
 .rintro b (E|⟨q,v,y,E⟩)
  .exact .inl (.inl E)
  .by_cases d:q=r
   .rw[d,B]at E;obtain⟨f,l⟩|f:=f
    .left;right;exact⟨r,m,l,by rw[<-f,E]⟩
    .right;omega
   .rw[S q d]at E;exact .inl (.inr ⟨q,v,by rw[<-M q d];exact y,E⟩)
 .show Γ.nr=(σ.rw.set r R').length;rw[wE];exact h.nr
 .intro i cs D;have p:i<Γ.nb:=by rw[h.nb];exact getElem?_lt D
  exact(h.box i cs D).lift p z λ ob I=>by
   rw[ho _ (h.box_lt p) (by
    by_cases y:Γ.sz r=0
    .exact .inr y
    .exact .inl (H.nbx y i p))];exact I
 .intro q Q O;rw[List.getElem?_set]at O;split at O
  .rename_i d;subst d;split at O<;>cases O;refine⟨J.trans H.k,λ _=>v1.symm,by rw[J];exact H.pos,by rw[J];exact ab,ah,.inr am,λ _=>⟨vs,e,fr,by rw[B];exact C,s1.symm,ag,by rw[J];exact al⟩,by rw[J,s1,N];exact ac,λ _ off Y=>by rw[B];exact ad off (by rw[<-J,<-N];exact Y),?_,λ _ i D=>?_,λ hf=>N.trans (aj hf)⟩
   .intro i e' j x D hj;let⟨u,hu,W,L⟩:=K i e' j x D hj;exact⟨u,by rw[B,N,J,jC C];exact hu,W.mono z,L⟩
   .rw[B];intro A;have A:Γ.β i=g:=A;have p:i<Γ.nb:=D;obtain⟨f,l⟩|f:=f
    .exact H.nbx l i p (A.trans f)
    .have:=h.box_lt p;omega
  .rename_i d;have G:q<Γ.nr:=by rw[h.nr];exact getElem?_lt O
   refine(h.row q Q O).lift G z (v2 q λ A=>d A.symm) (λ y ob I=>?_) (λ _ _ hm=>hm) λ _ i D hn=>by have:i<Γ.nb:=D;omega
   rw[ho _ (h.cur_lt G y) (by
    by_cases V:Γ.sz r=0
    .exact .inr V
    .exact .inl λ A=>h.apart r q m G d V y A.symm)];exact I
 .intro q F L h2 ak U T;by_cases e1:q=r<;>by_cases P:F=r
  .omega
  .rw[M F P]at T;rw[e1,B,S F P];obtain⟨f,l⟩|f:=f
   .rw[f];exact h.apart r F m h2 (xw P) l T
   .have:=h.cur_lt h2 T;omega
  .rw[M q e1]at U;rw[P,B,S q e1];obtain⟨f,l⟩|f:=f
   .rw[f];exact h.apart q r L m e1 U l
   .have:=h.cur_lt L U;omega
  .rw[M q e1]at U;rw[M F P]at T;rw[S q e1,S F P];exact h.apart q F L h2 ak U T
 .intro n cap a hn ha ao;refine .rs _ _ _ _ _ _ _ m (by rw[v1];exact wa _) hn (λ hf=>by cases hf) λ _=>?_;rw[B,s1,N];refine⟨ha.imp_right λ h=>by rw[h,ko,wL],?_⟩;show o+(0+cap)*Γ.k r<=vs.size;rw[<-H.k,wy];exact ao
theorem qpk{Γ:Gh}{σ:St}{w w':World}(h:Inv Γ σ w){r:Nat}{R R':Row}(J:σ.rw[r]?=some R)(D:Γ.of r=0)(E:R.fz<=R.c.length)(K:R'.k=R.k){g:Nat}{vs:Array Value}{e:TypeId}(t:R'.ver=R.ver+1\/(R'.ver=R.ver/\g=Γ.cur r/\vs.size=Γ.sz r))
  (p:∀e∈R'.c,e.length=R.k) (B:∀e∈R'.c,∀x∈e,qk x=true) (G:R'.fz<=R'.c.length) {fr:Nat×Nat} (A:qkt vs.size fr) (F:R.k≠1->fr=(0,0)) (l:w'.heap[g]?=some (.cells vs e fr)) (q:R'.c.length*R.k<=vs.size)
  (v:∀off,R'.fz*R.k<=off->Γ.mem g off=none) (d:∀(i:Nat) (e:List AV) (j:Nat) (x:AV),R'.c[i]?=some e->e[j]?=some x->∃u,vs[i*R.k+j]?=some u/\Rep Γ x u/\u.oneCell'=true)
  (m:∀b o u,Γ.mem b o=some u->w'.cell? ⟨b,o,none⟩=some u) (s:∀b,b<w.heap.size->(b≠Γ.cur r\/Γ.sz r=0)->w'.heap[b]?=w.heap[b]?) (L:(g=Γ.cur r/\Γ.sz r≠0)\/w.heap.size<=g) (C:w'.os=w.os) (y:w'.tape=w.tape) (f:w'.output=w.output) (z:w.heap.size<=w'.heap.size) (H:w.drawn<=w'.drawn) (I:List Nat):
  ∃Γ',Ext Γ w Γ' w'/\Inv Γ' {σ with rw:=σ.rw.set r R',wrr:=I} w'/\∀(n:Nat) (cap:Nat),n<=cap->cap*R.k<=vs.size->Rep Γ' (.rs r 0 n R'.ver false) (.slice (some ⟨g,0,none⟩) n cap):=by
 let⟨Γ',O,N,M⟩:=qhF h J E K (g:=g) (vs:=vs) (e:=e) (o:=0) (λ _=>rfl) (t.imp_right λ⟨a,b,c⟩=>⟨a,b,c,D.symm⟩) p B G A F l (by rw[wy];exact q) (λ off s=>v off (by rw[wy]at s;exact s))
  (λ i e j x a b=>by rw[wy];exact d i e j x a b) m s L C y f z H I
 exact⟨Γ',O,N,λ n cap a b=>M n cap _ a (.inr rfl) (by rw[wy];exact b)⟩
theorem qDn{Γ:Gh}{σ:St}{w:World}(h:Inv Γ σ w){r:Nat}{R:Row}(I:σ.rw[r]?=some R)(C:R.fz<=R.c.length){l:Nat}(L:l<=R.c.length)(T:List Nat):
  ∃Γ',Ext Γ w Γ' w/\Inv Γ' {σ with rw:=σ.rw.set r {R with c:=R.c.drop l,ver:=R.ver+1,fz:=R.fz-l,off:=true},wrr:=T} w/\
   ∀(n:Nat) (cap:Nat) (a:Option Addr),n<=cap->(cap=0\/a=some ⟨Γ.cur r,Γ.of r+l*R.k,none⟩)->Γ.of r+l*R.k+cap*R.k<=Γ.sz r->Rep Γ' (.rs r 0 n (R.ver+1) false) (.slice a n cap):=by
 have H:=h.row r R I;have ab:l*R.k<=R.c.length*R.k:=wm _ L;have D:=H.fit;have N:(R.c.length-l)*R.k=R.c.length*R.k-l*R.k:=vF _ _ _;by_cases v:Γ.sz r=0
 .-- no block: nothing is left out
  have G:r<Γ.nr:=by rw[h.nr];exact getElem?_lt I
  have B:Γ.of r=0:=by omega
  have f:R.c=[]:=by
   cases hc:R.c with
   |nil=>rfl
   |cons e c=>
     have:=H.pos;rw[hc,wB,kL]at D;omega
  let Γ':Gh:={Γ with ver:=λ V=>if V=r then R.ver+1 else Γ.ver V}
  have F:Γ'.ver r=R.ver+1:=if_pos rfl;have U:∀q,q≠r->Γ'.ver q=Γ.ver q:=λ q Z=>if_neg Z
  have y:Le Γ Γ':=by
   refine⟨λ _ _ _ h=>h,wa _,λ _ _=>rfl,wa _,λ _ _=>rfl,λ q _=>?_,λ q _ _=>⟨rfl,rfl,rfl⟩⟩;by_cases d:q=r
   .rw[d,F,<-H.ver C];omega
   .rw[U q d];exact wa _
  have ac:l=0:=by rw[f]at L;simpa using L
  refine⟨Γ',qn9 ⟨y,rfl,rfl,rfl,wa _,λ _ _ _=>rfl,λ _ h=>.inl h,λ _ _ _ h=>.inl h,wa _⟩ λ hX=>⟨⟨h.nb,?_,h.mem,λ i cs s=>(h.box i cs s).lift (by rw[h.nb];exact getElem?_lt s) y λ _ h=>h,h.inj,h.boxmem,?_,h.apart,hX.tab h.tab⟩,?_⟩⟩
  .show Γ.nr=(σ.rw.set r _).length;rw[wE];exact h.nr
  .intro q Q z;rw[List.getElem?_set]at z;split at z
   .rename_i d;subst d;split at z<;>cases z;refine⟨H.k,λ _=>F.symm,H.pos,λ e p=>?_,λ e p=>?_,.inl ?_,λ m=>absurd v m,?_,λ m=>absurd v m,λ i e j x s=>?_,λ m=>absurd v m,λ E=>by cases E⟩
    .rw[f]at p;simp at p
    .rw[f]at p;simp at p
    .show R.c.drop l=[];rw[f];simp
    .show Γ.of r+(R.c.drop l).length*R.k<=Γ.sz r;rw[f,B];simp
    .rw[f]at s;simp at s
   .rename_i d;have J:q<Γ.nr:=by rw[h.nr];exact getElem?_lt z
    exact(h.row q Q z).lift J y (U q λ p=>d p.symm) (λ _ _ h=>h) (λ _ _ K=>K) λ _ i s X=>by have:i<Γ.nb:=s;omega
  .intro n cap a X ha O
   have t:cap=0:=by
    have:=H.pos;rw[v]at O;obtain S|S:=xZ cap
    .exact S
    .have:=vQ S H.pos;omega
   refine .rs _ _ _ _ _ _ _ G (by rw[F];exact wa _) X (λ E=>by cases E) λ _=>⟨.inl t,?_⟩
   show Γ.of r+(0+cap)*Γ.k r<=Γ.sz r;rw[B,t];simp
 .let⟨vs,e',fr,Y,g3,g4,g5⟩:=H.blk v
  let⟨Γ',f1,f2,f3⟩:=qhF h I C (R':={R with c:=R.c.drop l,ver:=R.ver+1,fz:=R.fz-l,off:=true}) rfl (g:=Γ.cur r) (vs:=vs) (e:=e') (o:=Γ.of r+l*R.k) (λ E=>by cases E) (.inl rfl)
   (λ e p=>H.len e (wO p)) (λ e p=>H.plain e (wO p)) (by show R.fz-l<=(R.c.drop l).length;rw[wR];omega) g4 g5 Y
   (by show _+(R.c.drop l).length*R.k<=_;rw[wR,N,g3];omega)
   (λ off ho=>H.un v off (by
    have aa:Γ.of r+l*R.k+(R.fz-l)*R.k<=off:=ho;have:R.fz*R.k<=l*R.k+(R.fz-l)*R.k:=by rw[<-wS];exact wm _ (by omega)
    omega))
   (λ i e j x s hj=>by
    have M:R.c[l+i]?=some e:=by rw[<-List.getElem?_drop];exact s
    let⟨u,W,A,P⟩:=H.cells (l+i) e j x M hj;refine⟨u,?_,A,P⟩;rw[jC Y,wS]at W;rw[show Γ.of r+l*R.k+(i*R.k+j)=Γ.of r+(l*R.k+i*R.k+j) by omega];exact W)
   (λ b o u K=>(h.mem b o u K).1) (λ _ _ _=>rfl) (.inl ⟨rfl,v⟩) rfl rfl rfl (wa _) (wa _) T
  exact⟨Γ',f1,f2,λ n cap a P h2 h3=>f3 n cap a P h2 (by rw[g3];exact h3)⟩
theorem qBm{Γ:Gh}{σ:St}{w w':World}(h:Inv Γ σ w){r:Nat}{R:Row}(X:σ.rw[r]?=some R)(A:R.fz<=R.c.length){xs:List (List AV)}(B:∀e∈xs,e.length=R.k)(I:∀e∈xs,∀x∈e,qk x=true)
  {qe:List Value} (K:qe.length=xs.length*R.k) (hn:∀(i:Nat) (e:List AV) (j:Nat) (x:AV),xs[i]?=some e->e[j]?=some x->∃u,qe[i*R.k+j]?=some u/\Rep Γ x u/\u.oneCell'=true) (t:Γ.sz r≠0) (C:Γ.of r+(R.c.length+xs.length)*R.k<=Γ.sz r)
  (hw:∀vs e fr,w.heap[Γ.cur r]?=some (.cells vs e fr)->w'.heap[Γ.cur r]?=some (.cells (vs.toList.take (Γ.of r+R.c.length*R.k)++qe++vs.toList.drop (Γ.of r+R.c.length*R.k+qe.length)).toArray e fr)) (Z:∀k,k≠Γ.cur r->w'.heap[k]?=w.heap[k]?)
  (J:w'.os=w.os) (G:w'.tape=w.tape) (y:w'.output=w.output) (ab:w'.heap.size=w.heap.size) (S:w.drawn<=w'.drawn) (W:List Nat) {cap:Nat} (hc:R.c.length+xs.length<=cap) (T:Γ.of r+cap*R.k<=Γ.sz r):
  ∃Γ',Ext Γ w Γ' w'/\Inv Γ' {σ with rw:=σ.rw.set r {R with c:=R.c++xs,ver:=R.ver+1},wrr:=W} w'/\Rep Γ' (.rs r 0 (R.c.length+xs.length) (R.ver+1) false) (.slice (some ⟨Γ.cur r,Γ.of r,none⟩) (R.c.length+xs.length) cap):=by
 have H:=h.row r R X;let⟨vs,e',fr,V,g3,g4,g5⟩:=H.blk t;have n:=hw vs e' fr V;have E:vs.toList.length=Γ.sz r:=by simpa using g3
 have ad:(R.c.length+xs.length)*R.k=R.c.length*R.k+qe.length:=by rw[wS,K]
 have aa:R.fz*R.k<=R.c.length*R.k:=wm _ A
 have a:(vs.toList.take (Γ.of r+R.c.length*R.k)++qe++vs.toList.drop (Γ.of r+R.c.length*R.k+qe.length)).length=Γ.sz r:=by
  simp only[wd,wu,wR,E];omega
 have m:∀off,off<Γ.of r+R.c.length*R.k->(vs.toList.take (Γ.of r+R.c.length*R.k)++qe++vs.toList.drop (Γ.of r+R.c.length*R.k+qe.length))[off]?=vs[off]?:=by
  intro off z;rw[wk,List.getElem?_append_left (by simp;omega),List.getElem?_take,if_pos z];simp
 have p:∀q u,qe[q]?=some u->(vs.toList.take (Γ.of r+R.c.length*R.k)++qe++vs.toList.drop (Γ.of r+R.c.length*R.k+qe.length))[Γ.of r+R.c.length*R.k+q]?=some u:=by
  intro q u Y;have v:(vs.toList.take (Γ.of r+R.c.length*R.k)).length=Γ.of r+R.c.length*R.k:=by rw[wu];omega
  rw[wk,List.getElem?_append_right (by rw[v];omega),v,kG,List.getElem?_append_left (getElem?_lt Y)];exact Y
 let⟨Γ',f1,f2,f3⟩:=qhF h X A (R':={R with c:=R.c++xs,ver:=R.ver+1}) rfl (g:=Γ.cur r) (vs:=(vs.toList.take (Γ.of r+R.c.length*R.k)++qe++vs.toList.drop (Γ.of r+R.c.length*R.k+qe.length)).toArray) (o:=Γ.of r) (λ hf=>H.off hf) (.inl rfl)
  (λ e Q=>(wi.1 Q).elim (H.len e) (B e)) (λ e Q=>(wi.1 Q).elim (H.plain e) (I e)) (by show R.fz<=(R.c++xs).length;rw[wd];omega) (by rw[wV,a,<-g3];exact g4) g5 n
  (by show Γ.of r+(R.c++xs).length*R.k<=_;rw[wd,wV,a];exact C) (H.un t)
  (by
   intro i e j x hi N;have O:(R.c++xs)[i]?=some e:=hi;rw[List.getElem?_toArray];obtain⟨l,d⟩|⟨P,d⟩:=qyf O
   .let⟨u,F,f,U⟩:=H.cells i e j x d N;refine⟨u,?_,f,U⟩;have M:=getElem?_lt N;rw[H.len e (wc d)]at M
    have:i*R.k+j<R.c.length*R.k:=by
     calc i*R.k+j<i*R.k+R.k:=by omega
      _=(i+1)*R.k:=by rw[wS,xl]
      _<=R.c.length*R.k:=wm _ l
    rw[m _ (by omega),<-jC V];exact F
   .let⟨u,F,f,U⟩:=hn _ e j x d N;refine⟨u,?_,f,U⟩;have ac:i*R.k=R.c.length*R.k+(i-R.c.length)*R.k:=by rw[<-wS];congr 1;omega
    rw[show Γ.of r+(i*R.k+j)=Γ.of r+R.c.length*R.k+((i-R.c.length)*R.k+j) by omega];exact p _ u F)
  (by
   intro b off u L;have s:=(h.mem b off u L).1;by_cases D:b=Γ.cur r
   .subst D
    have l:off<Γ.of r+R.c.length*R.k:=by
     obtain l|P:=Nat.lt_or_ge off (Γ.of r+R.c.length*R.k)
     .exact l
     .rw[H.un t off (by omega)]at L;cases L
    rw[jC n,List.getElem?_toArray,m off l,<-jC V];exact s
   .unfold World.cell? at s |-
    rw[Z b D];exact s)
  (λ b _ D=>Z b (D.resolve_right t)) (.inl ⟨rfl,t⟩) J G y (by omega) S W
 exact⟨Γ',f1,f2,f3 _ cap _ hc (.inr rfl) (by rw[wV,a];exact T)⟩
theorem qCC{Γ:Gh}{σ:St}{w w':World}(h:Inv Γ σ w){r:Nat}{R:Row}(A:σ.rw[r]?=some R)(q:R.fz<=R.c.length){xs:List (List AV)}(l:∀e∈xs,e.length=R.k)(n:∀e∈xs,∀x∈e,qk x=true)
  {vs:Array Value}{e:TypeId}{g:Nat} (d:Below w.heap.size w w') (t:w.drawn<=w'.drawn) (C:w.heap.size<=g) (f:w'.heap[g]?=some (.cells vs e (0,0))) (m:(R.c.length+xs.length)*R.k<=vs.size)
  (B:∀(i:Nat) (e:List AV) (j:Nat) (x:AV),(R.c++xs)[i]?=some e->e[j]?=some x->∃u,vs[i*R.k+j]?=some u/\Rep Γ x u/\u.oneCell'=true) (z:List Nat) {cap:Nat} (D:R.c.length+xs.length<=cap) (v:cap*R.k<=vs.size):
  ∃Γ',Ext Γ w Γ' w'/\Inv Γ' {σ with rw:=σ.rw.set r {R with c:=R.c++xs,ver:=R.ver+1},wrr:=z} w'/\Rep Γ' (.rs r 0 (R.c.length+xs.length) (R.ver+1) false) (.slice (some ⟨g,0,none⟩) (R.c.length+xs.length) cap):=by
 have H:=h.row r R A
 let⟨Γ',G,F,E⟩:=qhF h A q (R':={R with c:=R.c++xs,ver:=R.ver+1}) rfl (g:=g) (vs:=vs) (o:=0) (λ _=>rfl) (.inl rfl)
  (λ e s=>(wi.1 s).elim (H.len e) (l e)) (λ e s=>(wi.1 s).elim (H.plain e) (n e)) (by show R.fz<=(R.c++xs).length;rw[wd];omega) (qt9 _) (λ _=>rfl) f
  (by show 0+(R.c++xs).length*R.k<=_;rw[wd,wy];exact m)
  (λ off _=>by
   cases p:Γ.mem g off with
   |none=>rfl
   |some u=>have:=h.mem_lt p;omega) (λ i e j x a b=>by rw[wy];exact B i e j x a b) (λ b o u p=>qpR d (h.mem b o u p).1) (λ b y _=>d.block b y) (.inr C) d.os d.tape d.output d.size t z
 exact⟨Γ',G,F,E _ cap _ D (.inr rfl) (by rw[wy];exact v)⟩
theorem qlw{Γ:Gh}{σ:St}{w w':World}(h:Inv Γ σ w){r:Nat}{R:Row}(W:σ.rw[r]?=some R){i:Nat}{e0 e1:List AV}(C:R.c[i]?=some e0)(hf:R.fz<=i)(y:R.off=false)(A:e1.length=R.k)(G:∀x∈e1,qk x=true){vs':Array Value}
  (Y:∀vs e fr,w.heap[Γ.cur r]?=some (.cells vs e fr)->w'.heap[Γ.cur r]?=some (.cells vs' e fr)/\vs'.size=vs.size/\∀off,(off<i*R.k\/i*R.k+R.k<=off)->vs'[off]?=vs[off]?)
  (J:∀(j:Nat) (x:AV),e1[j]?=some x->∃u,vs'[i*R.k+j]?=some u/\Rep Γ x u/\u.oneCell'=true) (X:∀k,k≠Γ.cur r->w'.heap[k]?=w.heap[k]?)
  (I:w'.os=w.os) (F:w'.tape=w.tape) (v:w'.output=w.output) (aa:w'.heap.size=w.heap.size) (Q:w.drawn<=w'.drawn) (T:List Nat):
  ∃Γ',Ext Γ w Γ' w'/\Inv Γ' {σ with rw:=σ.rw.set r {R with c:=R.c.set i e1},wrr:=T} w':=by
 have H:=h.row r R W;have z:R.fz<=R.c.length:=H.fz.resolve_left λ J=>by rw[J]at C;cases C
 have B:=H.real C;have s:=H.off y;have a:=H.cells;have d:=H.un B;have p:=H.fit;rw[s]at a d p;simp only[wy]at a d p;let⟨vs,e',fr,S,g3,g4,g5⟩:=H.blk B;let⟨V,E,U⟩:=Y vs e' fr S;have ab:=getElem?_lt C
 let⟨Γ',f1,f2,_⟩:=qpk h W s z (R':={R with c:=R.c.set i e1}) rfl (g:=Γ.cur r) (vs:=vs') (.inr ⟨rfl,rfl,E.trans g3⟩)
  (λ e P=>by
   let⟨q,l⟩:=List.getElem?_of_mem P;rw[List.getElem?_set]at l;split at l
   .cases l;exact A
   .exact H.len e (wc l))
  (λ e P=>by
   let⟨q,l⟩:=List.getElem?_of_mem P;rw[List.getElem?_set]at l;split at l
   .cases l;exact G
   .exact H.plain e (wc l)) (by show R.fz<=(R.c.set i e1).length;rw[wE];exact z) (by rw[E];exact g4) g5 V
  (by show(R.c.set i e1).length*R.k<=_;rw[wE,E,g3];exact p) d
  (by
   intro q e j x l M;have f:(R.c.set i e1)[q]?=some e:=l;rw[List.getElem?_set]at f;split at f
   .rename_i n;subst n;cases f;exact J j x M
   .rename_i n;let⟨u,Z,t,h1⟩:=a q e j x f M;refine⟨u,?_,t,h1⟩;have L:=getElem?_lt M;rw[H.len e (wc f)]at L;rw[U,<-jC S]
    .exact Z
    .obtain m|N:=Nat.lt_or_gt_of_ne n
     .right
      calc i*R.k+R.k=(i+1)*R.k:=by rw[wS,xl]
       _<=q*R.k:=wm _ m
       _<=q*R.k+j:=w7 _ _
     .left
      calc q*R.k+j<q*R.k+R.k:=by omega
       _=(q+1)*R.k:=by rw[wS,xl]
       _<=i*R.k:=wm _ N)
  (by
   intro b off u K;have o:=(h.mem b off u K).1;by_cases D:b=Γ.cur r
   .subst D
    have m:off<R.fz*R.k:=by
     obtain m|O:=Nat.lt_or_ge off (R.fz*R.k)
     .exact m
     .rw[d off O]at K;cases K
    have:R.fz*R.k<=i*R.k:=wm _ hf;rw[jC V,U off (.inl (by omega)),<-jC S];exact o
   .unfold World.cell? at o |-
    rw[X b D];exact o)
  (λ b _ D=>X b (D.resolve_right B)) (.inl ⟨rfl,B⟩) I F v (by omega) Q T
 exact⟨Γ',f1,f2⟩
end Go.AmZ
namespace Go.AmZ
open Go Go.RowKit
theorem TD.inv{P:Program}{t:TypeId}{d:TD}(h:zJ P t=some d):∃i u z,P.info? t=some i/\P.underlying t=some u/\i.zero=some z/\i.size=d.size/\i.bytes=d.bytes/\qmF u=d.agg/\z.cells.toList=d.zero/\Jl P u=some d.k:=by
 grind [zJ]
theorem qdk{P:Program}{u:TypeDesc}(h:Jl P u=some .string):u=.string:=by
 cases u<;>(try (cases qc4 h;done))<;>simp[Jl]at h<;>try rfl
 all_goals (split at h<;>try (split at h))<;>simp at h
theorem qDT{P:Program}{u:TypeDesc}(h:Jl P u=some .bool):u=.bool:=by
 cases u<;>(try (cases qc4 h;done))<;>simp[Jl]at h<;>try rfl
 all_goals (split at h<;>try (split at h))<;>simp at h
theorem qvK{P:Program}{u:TypeDesc}{k:IntKind}(h:Jl P u=some (.int k)):u=.int k:=by
 cases u<;>(try (cases qc4 h;done))<;>simp[Jl]at h
 all_goals first|(subst h;rfl)|((split at h<;>try (split at h))<;>simp at h)
theorem Jh{P:Program}{u:TypeDesc}{e s b:Nat}{z:List Value}(h:Jl P u=some (.slice e s b z)):u=.slice e/\∃i a,P.info? e=some i/\i.zero=some a/\i.size=s/\i.bytes=b/\a.cells.toList=z:=by
 cases u with
 |slice c=>
   grind [Jl]
 |map=>cases qc4 h
 |_=>simp[Jl]at h<;>(split at h<;>simp at h)
theorem qBN{P:Program}{u:TypeDesc}{n e s:Nat}(h:Jl P u=some (.array n e s)):u=.array n e/\∃i,P.info? e=some i/\i.size=s:=by
 cases u with
 |array a b=>
   grind [Jl]
 |map=>cases qc4 h
 |_=>simp[Jl]at h<;>((split at h<;>try (split at h))<;>simp at h)
theorem qlA{P:Program}{u:TypeDesc}{b:List (Nat×Nat×Bool)}(h:Jl P u=some (.struct b)):∃F,u=.struct F/\fieldsOf P F.toList=some b:=by
 cases u with
 |struct F=>
   simp only[Jl]at h;cases a:fieldsOf P F.toList with
   |none=>rw[a]at h;cases h
   |some l=>rw[a]at h;cases h;exact⟨F,rfl,a⟩
 |slice e=>simp only[Jl]at h;split at h<;>(try split at h)<;>cases h
 |array n e=>simp only[Jl]at h;split at h<;>cases h
 |map=>cases qc4 h
 |_=>simp[Jl]at h
theorem qga{P:Program}:∀{F:List Field}{a:List (Nat×Nat×Bool)},fieldsOf P F=some a->F.length=a.length/\∀(i:Nat) (x:Nat×Nat×Bool),a[i]?=some x->∃f fi u,F[i]?=some f/\P.info? f.type=some fi/\P.underlying f.type=some u/\x=(f.offset,fi.size,qmF u)
 |[],a,h=>by simp[fieldsOf]at h;subst h;exact⟨rfl,λ i x b=>by simp at b⟩
 |f::F,a,h=>by
   simp only[fieldsOf]at h;split at h
   .rename_i i u l e d c;cases h;let⟨j,g⟩:=qga c;grind
   .cases h
def jy(P:Program)(Γ:Gh)(σ:St)(w:World)(o:Oper)(ρ:Operand->Value)(x:AV)(σ':Option St):Prop:=
 ∃a u w' Γ',(execOp ρ o).run P w=.ok a w'/\(a=.value u\/(a=.skip/\u=undef))/\Ext Γ w Γ' w'/\Inv Γ' (turn σ σ') w'/\Rep Γ' x u
theorem jy.val{P:Program}{Γ:Gh}{σ:St}{w:World}{o:Oper}{ρ:Operand->Value}{x:AV}{u:Value}(h:(execOp ρ o).run P w=.ok (.value u) w)(b:Inv Γ σ w)(a:Rep Γ x u):jy P Γ σ w o ρ x none:=
 ⟨_,u,w,Γ,h,.inl rfl,.refl _ _,b,a⟩
section
variable {P:Program}{C:Cfg}{Γ:Gh}{σ:St}{w:World}{o:Oper}{tm:List AV}{ρ:Operand->Value}{x:AV}{σ':Option St}
theorem qK{y:Value}{u:Value}(h:Rep Γ (.v y) u):u=y:=by cases h;rfl
theorem qxe(c:Inv Γ σ w)(b:∀y,Rep Γ (aev tm y) (ρ y))(y:Operand)(a:o.op=.move y\/o.op=.assign y):jy P Γ σ w o ρ (aev tm y) none:=by
 refine .val ?_ c (b y);obtain a|a:=a<;>simp[execOp,a]
theorem qEC(g:Inv Γ σ w)(d:∀y,Rep Γ (aev tm y) (ρ y))(c a b:Operand)(e:o.op=.pick c a b)(h:qc C tm σ o.op=some (x,σ')):jy P Γ σ w o ρ x σ':=by
 rw[e]at h;simp only[qc]at h;split at h<;>try cases h
 .rename_i f;have:=qK (f▸d c);exact .val (by simp[execOp,e,this,asBool]) g (d a)
 .rename_i f;have:=qK (f▸d c);exact .val (by simp[execOp,e,this,asBool]) g (d b)
theorem qcG(e:TypeId)(cs:Array Value)(w:World):(newRow e cs).run P w=.ok ⟨w.heap.size,0,none⟩ (w.alloc (.cells cs e)):=by
 simp only[newRow,newObj];rfl
theorem qbu:∀{l:List Value},l.all qS=true->RepL Γ (l.map .v) l/\∀u∈l,u.oneCell'=true
 |[],_=>⟨.nil,λ u h=>by cases h⟩
 |y::l,h=>by
   simp only[ke,wb]at h;let⟨c,b⟩:=qbu h.2;refine⟨.cons (.v y h.1) c,λ u a=>?_⟩;obtain rfl|a:=wM.1 a
   .exact qup h.1
   .exact b u a
theorem qBR(g:∀t d,C.ty t=some d->zJ P t=some d)(c:Inv Γ σ w)(e:TypeId)(a:o.op=.alloc e)(h:qc C tm σ o.op=some (x,σ')):jy P Γ σ w o ρ x σ':=by
 rw[a]at h;simp only[qc]at h;split at h<;>try cases h
 rename_i d f;split at h<;>try cases h
 rename_i b;let⟨i,u,z,l,A,k,y,v,s,j,r⟩:=TD.inv (g e d f);let⟨n,m⟩:=qbu (Γ:=Γ) b;let⟨Γ',e1,q,p⟩:=qsL c n m e;refine⟨.value (.pointer (some ⟨w.heap.size,0,none⟩)),_,_,Γ',?_,.inl rfl,e1,q,p⟩;rw[<-j];simp[execOp,a,Instr.alloc,zeroValue,typeInfo,l,k,newVar,qcG]
theorem qEO(d:Inv Γ σ w)(a:∀y,Rep Γ (aev tm y) (ρ y))(e:TypeId)(y:Operand)(b:o.op=.box e y)(h:qc C tm σ o.op=some (x,σ')):jy P Γ σ w o ρ x σ':=by
 rw[b]at h;simp only[qc]at h;split at h<;>try cases h
 split at h<;>try cases h
 rename_i c;let⟨g,f⟩:=(a y).cells c;let⟨Γ',e1,j,i⟩:=qsL d g f e;refine⟨.value (.pointer (some ⟨w.heap.size,0,none⟩)),_,_,Γ',?_,.inl rfl,e1,j,i⟩;simp[execOp,b,Instr.box,newVar,qcG]
def qxJ(Γ:Gh)(w:World)(cs:List AV)(b o:Nat):Prop:=∀(j:Nat) (x:AV),cs[j]?=some x->∃u,w.cell? ⟨b,o+j,none⟩=some u/\Rep Γ x u/\u.oneCell'=true
theorem qde(b o j:Nat):(⟨b,o,none⟩:Addr).add j=⟨b,o+j,none⟩:=by unfold Addr.add;split<;>simp_all
theorem qAa(l:Inv Γ σ w){y:AV}{u:Value}(m:Rep Γ y u){d:TD}{z:AV}(h:yu d σ y=some z):∃cs o b g,qxJ Γ w cs b g/\u=.pointer (some ⟨b,g+o,none⟩)/\qap d.agg d.size cs o=some z:=by
 cases m with
 |ptr b o B=>
   simp only[yu]at h;split at h<;>try cases h
   rename_i cs a;split at h<;>try cases h
   rename_i n;let⟨vs,e,I,E,g3⟩:=(l.box b cs a).cells n;refine⟨cs,o,Γ.β b,0,?_,by simp,h⟩;intro j x c;let⟨u,q,f⟩:=E.get c;refine⟨u,?_,f,g3 u (wc q)⟩;unfold World.cell?;grind
 |rpt r i o J A s F c=>
   simp only[yu]at h;split at h<;>try cases h
   rename_i R C;split at h<;>try cases h
   rename_i cs a;simp only[qmX]at a;split at a<;>try cases a
   rename_i t;have H:=l.row r R C;have D:=c (by rw[<-H.ver (H.live a)];exact t);refine⟨cs,o,Γ.cur r,Γ.of r+i*R.k,?_,by rw[D,H.k],h⟩;intro j x c;rw[wN];exact H.cells i cs j x a c
 |ept cs o b g us G p m=>exact⟨cs,o,b,g,λ j x c=>⟨us j,(l.mem _ _ _ (p j x c)).1,m j x c,(l.mem _ _ _ (p j x c)).2⟩,rfl,h⟩
 |v x B|dead u|sl|rs|fn|agg|tup|mp=>simp[yu]at h
theorem qhG{t:TypeId}{u:TypeDesc}(h:P.underlying t=some u)(w:World):(isAgg t).run P w=.ok (qmF u) w:=by
 cases u<;>simp[isAgg,underlying,h,qmF]
theorem qyT{t:TypeId}{d:TD}(hd:zJ P t=some d){cs:List AV}{b o' o:Nat}(hc:qxJ Γ w cs b o'){z:AV}(h:qap d.agg d.size cs o=some z):∃ u,(loadVar t ⟨b,o'+o,none⟩).run P w = .ok u w/\Rep Γ z u:=by
 obtain⟨i,u,zv,h1,h2,h3,h4,h5,h6,h7,h8⟩:=TD.inv hd;unfold qap at h;split at h
 ·rename_i hg;split at h<;>try cases h
  rename_i hle;have hle:o+d.size<=cs.length:=by simpa using hle
  have hget:∀ j,j<d.size->∃ u,w.cell? ⟨b,o'+o+j,none⟩=some u/\(∀ x,cs[o+j]?=some x->Rep Γ x u)/\u.oneCell'=true:=by
   intro j hj;have hlt:o+j<cs.length:=by omega
   obtain⟨u,a1,a2,a3⟩:=hc (o+j) _ (List.getElem?_eq_getElem hlt);grind
  let f:Nat->Value := λ j=>(w.cell? ⟨b,o'+o+j,none⟩).getD undef
  have hf:∀ j,j<d.size->w.cell? ⟨b,o'+o+j,none⟩=some (f j) := λ j hj=>by
   grind
  have hrun:=run_loadCells (P:=P) w ⟨b,o'+o,none⟩ d.size f (λ j hj=>by rw[qde];exact hf j hj);refine⟨.agg ((List.range d.size).map f).toArray,?_,.agg _ _ (by simp;omega) ?_ ?_⟩
  ·rw[show(loadVar t ⟨b,o'+o,none⟩)=(do if <- isAgg t then pure (.agg (<- loadCells ⟨b,o'+o,none⟩ (<- sizeOf t)))else load ⟨b,o'+o,none⟩)from rfl];simp[Sem.run_bind',qhG h2,h6,hg,sizeOf,typeInfo,h1,h4,hrun]
  ·grind
  ·grind
 ·rename_i hg;obtain⟨u,a1,a2,a3⟩:=hc o z h;refine⟨u,?_,a2⟩;rw[show(loadVar t ⟨b,o'+o,none⟩)=(do if <- isAgg t then pure (.agg (<- loadCells ⟨b,o'+o,none⟩ (<- sizeOf t)))else load ⟨b,o'+o,none⟩)from rfl];simp[Sem.run_bind',qhG h2,h6,hg,a1]
theorem qxq(c:Inv Γ σ w){t:TypeId}{d:TD}(e:zJ P t=some d){y:AV}{u:Value}(a:Rep Γ y u){z:AV}(h:yu d σ y=some z):∃v A,u=.pointer (some A)/\(loadVar t A).run P w=.ok v w/\Rep Γ z v:=by
 let⟨cs,o,b,l,i,g,f⟩:=qAa c a h;let⟨v,k,j⟩:=qyT e i f;exact⟨v,_,g,k,j⟩
theorem qDZ(g:∀t d,C.ty t=some d->zJ P t=some d)(c:Inv Γ σ w)(a:∀y,Rep Γ (aev tm y) (ρ y))(t:TypeId)(y:Operand)(b:o.op=.load t y)(h:qc C tm σ o.op=some (x,σ')):jy P Γ σ w o ρ x σ':=by
 rw[b]at h;simp only[qc]at h;split at h<;>try cases h
 rename_i d f;split at h<;>try cases h
 rename_i z e;let⟨v,A,k,j,i⟩:=qxq c (g t d f) (a y) e;exact .val (by simp[execOp,b,Instr.loadAt,Instr.sureAddr,k,Sem.run_bind',j]) c i
theorem qn0{w:World}{g j:Nat}{t:TypeId}{fr:Nat×Nat}{a:Array Value}(h:w.heap[g]?=some (.cells a t fr))(c:qkt a.size fr)(d:j<a.size):w.frozen? ⟨g,j,none⟩=false:=by
 let⟨lo,b⟩:=fr;unfold World.frozen?;show(match w.heap[g]? with|some (.cells _ _ (lo,b))=>decide (lo<=j)&&decide (j<b)|_=>false)=false;rw[h];have:=c j d;grind
theorem qwW{w:World}{g:Nat}{t:TypeId}{fr:Nat×Nat}{a:Array Value}(h:w.heap[g]?=some (.cells a t fr)):w.setRow g a.toList.toArray=w:=by
 unfold World.setRow;have:∀H:Array Obj,H=w.heap->({w with heap:=H}:World)=w:=λ H e=>by subst e;rfl
 refine this _ ?_;apply Array.ext_getElem?;intro q;rw[Array.getElem?_modify];split
 .rename_i c;subst c;rw[h];simp
 .rfl
theorem qqh{α:Type}{l m:List α}{off n:Nat}(a:m.length=n)(h:off+n<=l.length)(q:Nat):(l.take off++(m++l.drop (off+n)))[q]?=if q<off then l[q]? else if q<off+n then m[q-off]? else l[q]?:=by
 grind
theorem qgq{g:Nat}{t:TypeId}{fr:Nat×Nat}:∀(vs:List Value) (o:Nat) (a:Array Value) (w:World),w.heap[g]?=some (.cells a t fr)->o+vs.length<=a.size->w.setCells g o vs=w.setRow g (a.toList.take o++(vs++a.toList.drop (o+vs.length))).toArray
 |[],o,a,w,h,_=>by
   rw[World.setCells,kC,wL,kD,kT];exact(qwW h).symm
 |v::vs,o,a,w,h,c=>by
   rw[wB]at c;have b:o<a.size:=by omega
   have d:w.setCell ⟨g,o,none⟩ v=w.setRow g (a.setIfInBounds o v):=setCell_eq_setRow w g o a t fr v h;rw[World.setCells,d,qgq vs (o+1) (a.setIfInBounds o v) _ (setRow_heap w g a _ t fr h) (by rw[xA];omega),setRow_setRow];congr 2
   have e1:(a.toList.set o v).take (o+1)=a.toList.take o++[v]:=by
    rw[xJ,vq (wa _),List.getElem?_set_self (by simpa using b)];rfl
   have e:(a.toList.set o v).drop (o+1+vs.length)=a.toList.drop (o+(v::vs).length):=by
    rw[List.drop_set_of_lt (by omega),wB];congr 1;omega
   grind
theorem qlb{w:World}{g:Nat}{t:TypeId}{fr:Nat×Nat}{a:Array Value}(h:w.heap[g]?=some (.cells a t fr))(b:qkt a.size fr)(o:Nat)(vs:List Value)(c:o+vs.length<=a.size)(e:∀v∈vs,v.oneCell'=true):
  (storeCells ⟨g,o,none⟩ vs 0).run P w=.ok () (w.setRow g (a.toList.take o++(vs++a.toList.drop (o+vs.length))).toArray):=by
 have:=run_storeCells_cells (P:=P) g o vs 0 w (λ j d=>by
  rw[jC h,Array.getElem?_eq_getElem (show o+0+j<a.size by omega)];rfl) (λ j d=>qn0 h b (by omega)) e
 rw[wL,qgq vs o a w h c]at this;exact this
theorem quK(hC:∀t d,C.ty t=some d->zJ P t=some d)(hi:Inv Γ σ w)(D:∀y,Rep Γ (aev tm y) (ρ y))(t:TypeId)(y z:Operand)(ho:o.op=.store t y z){d:TD}(hd:C.ty t=some d){r i off ep:Nat}(hp:aev tm y=.rpt r i off ep){R R':Row}(hR:σ.rw[r]?=some R)
  (F:qne R i off ep d.size (cellsOf (aev tm z))=some R'):jy P Γ σ w o ρ (.tup []) (some {σ with rw:=σ.rw.set r R',wrr:=r::σ.wrr}):=by
 unfold qne at F;split at F<;>try cases F
 rename_i B n a;simp only[wb,decide_eq_true_eq,wo]at n;let⟨⟨J,Z,aa,N,h⟩,M⟩:=n
 have v:(cellsOf (aev tm z)).all isC=true:=wo.2 λ x f=>by
  have:=M x f;cases x<;>first|rfl|(simp[qk]at this)
 let⟨ii,u,zv,h1,h2,h3,h4,h5,h6,h7,h8⟩:=TD.inv (hC t d hd);have H:=hi.row r R hR
 have E:ρ y=.pointer (some ⟨Γ.cur r,i*R.k+off,none⟩):=by
  have s:=hp▸D y;generalize ρ y=u0 at s;cases s with
  |rpt _ _ _ _ A ac U hl=>rw[hl (by rw[<-H.ver (H.live a)];exact J),H.k,H.off h,wy]
 let⟨g1,g2⟩:=(D z).cells v;have gl:=(D z).cells_len v;let⟨vs,e,fr,O,c2,c3,_⟩:=H.blk (H.real a);have Y:=getElem?_lt a;have ae:=H.len B (wc a)
 have ad:i*R.k+R.k<=vs.size:=by
  calc i*R.k+R.k=(i+1)*R.k:=by rw[wS,xl]
   _<=R.c.length*R.k:=wm _ Y
   _<=Γ.sz r:=by have:=H.fit;omega
   _=vs.size:=c2.symm
 have b:(ρ z).cells.toList.length=d.size:=by simp;omega
 have p:=qlb (P:=P) O c3 (i*R.k+off) (ρ z).cells.toList (by rw[b];omega) g2;rw[b]at p;have S:i*R.k+off+d.size<=vs.toList.length:=by simp;omega
 have L:=λ q=>qqh b S q;have K:=λ q=>qqh (l:=B) (m:=cellsOf (aev tm z)) (off:=off) N (by omega) q
 let⟨Γ',f1,f2⟩:=qlw hi hR a Z h (e1:=B.take off++(cellsOf (aev tm z)++B.drop (off+d.size))) (by simp;omega)
  (by
   intro x f;obtain f|f:=wi.1 f
   .exact H.plain B (wc a) x (wT f)
   .obtain f|f:=wi.1 f
    .exact M x f
    .exact H.plain B (wc a) x (wO f))
  (vs':=(vs.toList.take (i*R.k+off)++((ρ z).cells.toList++vs.toList.drop (i*R.k+off+d.size))).toArray)
  (w':=w.setRow (Γ.cur r) (vs.toList.take (i*R.k+off)++((ρ z).cells.toList++vs.toList.drop (i*R.k+off+d.size))).toArray)
  (by
   intro ab e2 af U;rw[O]at U;cases U;refine⟨setRow_heap w _ _ _ _ _ O,?_,λ q hq=>?_⟩
   .simp only[wV,wd,wu,wR,b,wK];omega
   .rw[List.getElem?_toArray,L q];have T:vs[q]?=vs.toList[q]?:=by simp
    rw[T];split
    .rfl
    .rw[if_neg (by omega)])
  (by
   intro j x G;rw[List.getElem?_toArray,L];rw[K]at G
   have I:∀x',B[j]?=some x'->∃u,vs.toList[i*R.k+j]?=some u/\Rep Γ x' u/\u.oneCell'=true:=by
    intro x' Q;let⟨u,E,g,h1⟩:=H.cells i B j x' a Q;rw[jC O,H.off h,wy]at E;exact⟨u,by simpa using E,g,h1⟩
   split at G
   .rename_i X;rw[if_pos (by omega)];exact I x G
   .rename_i X;split at G
    .rename_i W;rw[if_neg (by omega),if_pos (by omega)];let⟨u,E,g⟩:=g1.get G;exact⟨u,by rw[show i*R.k+j-(i*R.k+off)=j-off by omega];exact E,g,g2 u (wc E)⟩
    .rename_i W;rw[if_neg (by omega),if_neg (by omega)];exact I x G)
  (λ k hk=>setRow_other w _ k _ hk) rfl rfl rfl (by simp) (wa _) (r::σ.wrr)
 refine⟨.skip,undef,_,Γ',?_,.inr ⟨rfl,rfl⟩,f1,f2,.tup [] [] rfl λ i x u f=>by simp at f⟩;have V:(ρ z).cells.size=ii.size:=by omega
 simp[execOp,ho,Instr.storeAt,Instr.sureAddr,E,storeVar,sizeOf,typeInfo,h1,Sem.run_bind',V,p,wk]
theorem qCu(hC:∀ t d,C.ty t=some d->zJ P t=some d)(hi:Inv Γ σ w)(hρ : ∀ y,Rep Γ (aev tm y) (ρ y))(t:TypeId)(y z:Operand)(ho:o.op = .store t y z)(h:qc C tm σ o.op=some (x,σ')):jy P Γ σ w o ρ x σ':=by
 rw[ho]at h;simp only[qc]at h;split at h<;>try cases h
 case h_2 =>
  rename_i d r i off ep hd hp;split at h<;>try cases h
  rename_i R hR;split at h<;>cases h;rename_i R' hst;exact quK hC hi hρ t y z ho hd hp hR hst
 rename_i d b off hd hp;split at h<;>try cases h
 rename_i cs hcs;split at h<;>try cases h
 rename_i hcond;simp only[wb,decide_eq_true_eq]at hcond;obtain⟨⟨⟨hnm,hl⟩,hfit⟩,hone⟩:=hcond;obtain⟨i,u,zv,h1,h2,h3,h4,h5,h6,h7,h8⟩:=TD.inv (hC t d hd);have hptr:=hp▸hρ y
 have hu : ρ y = .pointer (some ⟨Γ.β b,off,none⟩):=by
  generalize ρ y=u0 at hptr;cases hptr;rfl
 obtain⟨g1,g2⟩:=(hρ z).cells hone;have gl:=(hρ z).cells_len hone;obtain⟨vs,e,c1,c2,c3⟩:=(hi.box b cs hcs).cells hnm;have hvl:vs.size=cs.length:=by simpa using c2.len
 have hrun:=run_storeCells_at P (Γ.β b) off e (ρ z).cells.toList 0 vs w c1 (by simp;omega) g2;simp only[wL]at hrun;have hvl2:(ρ z).cells.toList.length=d.size:=by simp;omega
 rw[hvl2]at hrun
 obtain⟨e1,e2⟩:=qBd hi hcs hnm (cs':=cs.take off++(cellsOf (aev tm z)++cs.drop (off+d.size))) (vs':=vs.toList.take off++((ρ z).cells.toList++vs.toList.drop (off+d.size)))
  ((c2.take off).append (g1.append (c2.drop _))) (by
    intro v hv;rcases wi.1 hv with hv | hv
    ·exact c3 v (wT hv)
    ·rcases wi.1 hv with hv | hv
     ·exact g2 v hv
     ·exact c3 v (wO hv)) (b :: σ.wr) (w.setRow (Γ.β b) (vs.toList.take off++((ρ z).cells.toList++vs.toList.drop (off+d.size))).toArray) (λ vs' e' hvs=>setRow_heap w _ vs' _ e' (0,0) hvs) (λ k hk=>setRow_other w _ k _ hk) rfl rfl rfl (by simp) (wa _)
 refine⟨.skip,undef,_,Γ,?_,.inr ⟨rfl,rfl⟩,e1,e2,.tup [] [] rfl λ i x u hx=>by simp at hx⟩;have hsz:(ρ z).cells.size=i.size:=by omega
 simp[execOp,ho,Instr.storeAt,Instr.sureAddr,hu,storeVar,sizeOf,typeInfo,h1,Sem.run_bind',hsz,hrun,wk]
theorem qET(f:Inv Γ σ w)(b:∀y,Rep Γ (aev tm y) (ρ y))(y:Operand)(c:o.op=.nilCheck y)(h:qc C tm σ o.op=some (x,σ')):jy P Γ σ w o ρ x σ':=by
 rw[c]at h;simp only[qc]at h;have a:=b y;split at h<;>try cases h
 all_goals
  rename_i e;rw[e]at a;refine .val ?_ f a;generalize d:ρ y=u0 at a;cases a;simp[execOp,c,d]
end
abbrev wap:=@TD.inv
end Go.AmZ
namespace Go.AmZ
open Go Go.RowKit
section
variable {P:Program}{C:Cfg}{Γ:Gh}{σ:St}{w:World}{o:Oper}{tm:List AV}{ρ:Operand->Value}{x:AV}{σ':Option St}
theorem toList_eq(a:ByteArray):a.toList=a.data.toList:=by rw[ByteArray.toList_eq]
theorem qGd{op:BinOp}{k:IntKind}{a b:Int}{z:Value}(h:qvn op k a b=some z)(t:TypeId):Go.binOp op t (.int k a) (.int k b) = .pure z/\qS z=true:=by
 cases op<;>simp only[qvn]at h<;>try cases h
 all_goals first
  | exact⟨by simp[Go.binOp,Op.intArith,Op.intBits,Op.intCmp,iw,qj,qbN,qBs,qky,ieq,ilt,ile,qh]<;>first | rfl | (congr 1;simp[bne];done),rfl⟩
  | (split at h
     ·cases h
     ·rename_i d;cases h;have c:b≠0:=by simpa[ieq]using d
      exact⟨by simp[Go.binOp,Op.intDiv,qyn,qvU,iw,c];rfl,rfl⟩)
theorem qFZ{op:BinOp}{a b:ByteArray}{z:Value}(h:qvZ op a b=some z)(t:TypeId):Go.binOp op t (.string a) (.string b) = .pure z/\qS z=true:=by
 cases op<;>simp only[qvZ]at h<;>try cases h
 all_goals first
  | exact⟨by simp[Go.binOp,Op.stringOp,xeq,xlt,qlD,qh,toList_eq];rfl,rfl⟩
  | (split at h<;>cases h
     rename_i z c;simp only[qyM]at c;split at c<;>cases c;rename_i d;exact⟨by simp only[Go.binOp,Op.stringOp];rw[if_neg d];rfl,rfl⟩)
theorem qFd{op:BinOp}{a b z:Value}(h:qlp op a b=some z)(t:TypeId)(X Y:Operand):(eqGuard op t X Y a b).run P w=.ok () w/\(Go.binOp op t a b).run P w=.ok z w/\qS z=true:=by
 have guard:∀(k e:IntKind) (m n:Int),(eqGuard op t X Y (.int k m) (.int e n)).run P w=.ok () w:=λ k e m n=>by cases op<;>simp[eqGuard]
 have c:∀(m n:ByteArray),(eqGuard op t X Y (.string m) (.string n)).run P w=.ok () w:=λ m n=>by cases op<;>simp[eqGuard]
 unfold qlp at h;split at h
 .rename_i k a e b;split at h
  .split at h<;>cases h;rename_i g;have d:¬ b<0:=by simpa[ilt]using g
   refine⟨guard _ _ _ _,?_,rfl⟩;simp[Go.binOp,Op.shift,d,qCx]
  .split at h<;>cases h;rename_i g;have d:¬ b<0:=by simpa[ilt]using g
   refine⟨guard _ _ _ _,?_,rfl⟩;simp[Go.binOp,Op.shift,d,qsd]
  .split at h<;>try cases h
   rename_i l;have f:k=e:=by simpa using l
   subst f;let⟨j,i⟩:=qGd h t;refine⟨guard _ _ _ _,?_,i⟩;rw[j];rfl
 .rename_i a b;let⟨j,i⟩:=qFZ h t;refine⟨c _ _,?_,i⟩;rw[j];rfl
 .cases h
theorem qA2{u:TypeDesc}(h:Jl P u=some .ptr):∃e,u=.pointer e:=by
 cases u<;>(try (cases qc4 h;done))<;>simp only[Jl]at h<;>first|exact⟨_,rfl⟩|(cases h;done)|skip
 all_goals (repeat' (first|(cases h;done)|split at h))
 rename_i b;cases a:fieldsOf P b.toList with
 |none|some l=>rw[a]at h;cases h
theorem qDW{y:AV}{u:Value}(h:Rep Γ y u)(a:qml y=true):∃A,u=.pointer (some A):=by
 cases h with
 |ptr|rpt|ept=>exact⟨_,rfl⟩
 |_=>cases a
theorem qEB{y:AV}(h:qvH y=true):y=.v (.pointer none):=by
 unfold qvH at h;split at h
 .rfl
 .cases h
theorem qqE{t e:TypeId}(h:P.underlying t=some (.pointer e)):P.underlying t=some (.pointer (P.pointee t)):=by
 unfold Program.pointee;rw[h]
theorem qFe(G:∀t d,C.ty t=some d->zJ P t=some d)(D:Inv Γ σ w)(c:∀y,Rep Γ (aev tm y) (ρ y))(op:BinOp)(t:TypeId)(y z:Operand)(u:TypeId)(q:o.op=.binOp op t y z u)(h:qc C tm σ o.op=some (x,σ')):jy P Γ σ w o ρ x σ':=by
 have g:∀(m n:Bool),(eqGuard op t y z (.bool m) (.bool n)).run P w=.ok () w:=λ m n=>by cases op<;>simp[eqGuard]
 have e:∀(m n:Option Addr),(eqGuard op t y z (.pointer m) (.pointer n)).run P w=.ok () w:=λ m n=>by cases op<;>simp[eqGuard]
 rw[q]at h;simp only[qc]at h;split at h<;>try cases h
 .rename_i a b B s;have k:=qK (B▸c y);have j:=qK (s▸c z);split at h<;>cases h
  all_goals
   rename_i S R Q O r;let⟨i,u,H,N,p,M,L,K,J,I,l⟩:=wap (G t _ r);have E:=qDT l;subst E;refine .val ?_ D (.v _ rfl);have f:=run_equal_bool (P:=P) w t a b p;simp[execOp,q,k,j,Sem.run_bind',g,Go.binOp,f,jP,qh]
 .rename_i B s;have k:=qK (B▸c y);have j:=qK (s▸c z);split at h<;>cases h
  all_goals
   rename_i S R Q O r;let⟨i,u,H,N,p,M,L,K,J,I,l⟩:=wap (G t _ r);obtain⟨T,rfl⟩:=qA2 l;refine .val ?_ D (.v _ rfl);have f:=run_equal_pointer_nil (P:=P) w t none (qqE p);simp[execOp,q,k,j,Sem.run_bind',e,Go.binOp,f]
 .rename_i a b _ _ B s;have k:=qK (B▸c y);have j:=qK (s▸c z);split at h<;>cases h;rename_i Y U;let⟨X,W,V⟩:=qFd (P:=P) (w:=w) U t y z;refine .val ?_ D (.v _ V);simp[execOp,q,k,j,Sem.run_bind',X,W]
 .split at h<;>cases h
  all_goals
   rename_i S R Q O F r;rw[wb]at F;let⟨i,u,H,N,p,M,L,K,J,I,l⟩:=wap (G t _ r);obtain⟨T,rfl⟩:=qA2 l;let⟨A,k⟩:=qDW (c y) F.1;have j:=qK (qEB F.2▸c z);refine .val ?_ D (.v _ rfl);have f:=run_equal_pointer_nil (P:=P) w t (some A) (qqE p);simp[execOp,q,k,j,Sem.run_bind',e,Go.binOp,f]
theorem qGh(e:Inv Γ σ w)(b:∀y,Rep Γ (aev tm y) (ρ y))(op:UnOp)(t:TypeId)(y:Operand)(d:o.op=.unOp op t y)(h:qc C tm σ o.op=some (x,σ')):jy P Γ σ w o ρ x σ':=by
 rw[d]at h;simp only[qc]at h;split at h<;>try cases h
 rename_i a g;have f:=qK (g▸b y);split at h<;>cases h;rename_i z c;unfold unA at c;split at c<;>cases c
 .exact .val (by simp[execOp,d,f,Op.unary,Op.intArith,iw,qbN]) e (.v _ rfl)
 .exact .val (by simp[execOp,d,f,Op.unary,qh]) e (.v _ rfl)
theorem qoc(a:∀y,Rep Γ (aev tm y) (ρ y)):∀l:List Operand,RepL Γ (l.map (aev tm)) (l.map ρ)
 |[]=>.nil
 |y::l=>.cons (a y) (qoc a l)
theorem qGq(i:Inv Γ σ w)(b:∀y,Rep Γ (aev tm y) (ρ y))(f:Fn)(d cs:Array Operand)(e:o.op=.makeFunc f d cs)(h:qc C tm σ o.op=some (x,σ')):jy P Γ σ w o ρ x σ':=by
 rw[e]at h;cases f with
 |func f=>?_
 |_=>simp only[qc]at h;cases h
 simp only[qc]at h;split at h<;>cases h;rename_i c
 have a:d = #[]:=by
  rw[<-xQ (xs:=d),c]
 subst a;have g:=qoc b cs.toList;refine .val (u:=.func (.func f) #[] (cs.toList.map ρ).toArray) ?_ i (.fn f _ _ g.len g.rep);simp[execOp,e,Instr.makeFunc];rw[<-xR]
theorem qzm(l:Inv Γ σ w)(b:∀y,Rep Γ (aev tm y) (ρ y))(y:Operand)(i:Nat)(e:o.op=.extract y i)(h:qc C tm σ o.op=some (x,σ')):jy P Γ σ w o ρ x σ':=by
 rw[e]at h;simp only[qc]at h;split at h<;>try cases h
 rename_i vs f;split at h<;>cases h;rename_i z c;have d:=f▸b y;generalize g:ρ y=u0 at d;cases d with
 |tup cs us k j=>
   have a:i<us.length:=by rw[k];exact getElem?_lt c
   refine .val ?_ l (j i _ _ c (List.getElem?_eq_getElem a));simp[execOp,e,g,Instr.extract,a]
theorem qwl(T:∀t d,C.ty t=some d->zJ P t=some d)(s:Inv Γ σ w)(B:∀y,Rep Γ (aev tm y) (ρ y))(t:TypeId)(y:Operand)(i:Nat)(E:o.op=.fieldAddr t y i)(h:qc C tm σ o.op=some (x,σ')):jy P Γ σ w o ρ x σ':=by
 rw[E]at h;simp only[qc]at h;split at h<;>try cases h
 rename_i _ _ _ _ fs Q;split at h<;>try cases h
 rename_i off size g O;split at h<;>try cases h
 rename_i _ Z;let⟨ii,u,Y,q1,G,q3,q4,q5,q6,q7,K⟩:=wap (T t _ Q);obtain⟨F,rfl,S⟩:=qlA K;let⟨f1,W⟩:=qga S;let⟨f,fi,fu,V,J,g3,I⟩:=W i _ O;simp only[wG]at I;obtain⟨rfl,M,rfl⟩:=I;have p:F[i]?=some f:=by rw[<-V];simp
 have n:fi.size≠0:=by omega
 have e:∀b a,ρ y=.pointer (some ⟨b,a,none⟩)->(execOp ρ o).run P w=.ok (.value (.pointer (some ⟨b,a+f.offset,none⟩))) w:=by
  intro b a k;simp[execOp,E,k,Instr.fieldAt,underlying,G,p,Instr.sureAddr,fieldPlace,sizeOf,typeInfo,J,n,qde]
 have c:=B y;split at h<;>try cases h
 .rename_i k;rw[k]at c;generalize l:ρ y=u0 at c;cases c;rename_i b z R;exact .val (e _ _ l) s (.ptr _ _ R)
 .rename_i k;rw[k]at c;generalize l:ρ y=u0 at c;cases c;rename_i r j z X A m H L;by_cases q:Γ.ver r=X
  .have U:=L q;subst U;exact .val (e _ _ l) s (.rpt _ _ _ _ _ m H λ _=>by rw[wN])
  .refine .val (u:=.pointer (some (A.add f.offset))) ?_ s (.rpt _ _ _ _ _ m H λ h=>absurd h q);simp[execOp,E,l,Instr.fieldAt,underlying,G,p,Instr.sureAddr,fieldPlace,sizeOf,typeInfo,J,n]
 .rename_i k;rw[k]at c;generalize l:ρ y=u0 at c;cases c;rename_i cs z b v us D q N;refine .val (e _ _ l) s ?_;rw[wN];exact .ept cs (z+f.offset) b v us D q N
theorem qEE{f:TypeId}{fi:TypeInfo}{j:TypeDesc}(k:P.info? f=some fi)(i:P.underlying f=some j){cs:List AV}{us:List Value}(g:RepL Γ cs us)(b:∀u∈us,u.oneCell'=true){off:Nat}{z:AV}(h:qap (qmF j) fi.size cs off=some z):
  ∃u,(part f us.toArray off).run P w=.ok u w/\Rep Γ z u:=by
 unfold qap at h;split at h
 .rename_i e;split at h<;>cases h;rename_i c;have c:off+fi.size<=cs.length:=by simpa using c
  refine⟨.agg ((us.drop off).take fi.size).toArray,?_,?_⟩
  .simp[part,Sem.run_bind',qhG i,e,sizeOf,typeInfo,k]
  .have:=(g.drop off).take fi.size;exact .agg _ _ this.len (λ u d=>b u (wO (wT d))) this.rep
 .rename_i e;let⟨u,d,a⟩:=g.get h;refine⟨u,?_,a⟩;simp[part,Sem.run_bind',qhG i,e,d]
theorem qBF(E:∀t d,C.ty t=some d->zJ P t=some d)(s:Inv Γ σ w)(a:∀y,Rep Γ (aev tm y) (ρ y))(t:TypeId)(y:Operand)(i:Nat)(j:o.op=.field t y i)(h:qc C tm σ o.op=some (x,σ')):jy P Γ σ w o ρ x σ':=by
 rw[j]at h;simp only[qc]at h;split at h<;>try cases h
 rename_i _ _ _ _ V cs B b;split at h<;>try cases h
 rename_i off size g A;split at h<;>cases h;rename_i z n;let⟨T,u,L,S,m,R,Q,O,N,M,l⟩:=wap (E t _ B);obtain⟨F,rfl,D⟩:=qlA l;let⟨W,J⟩:=qga D;let⟨f,fi,U,I,H,g3,k⟩:=J i _ A;simp only[wG]at k;obtain⟨rfl,rfl,rfl⟩:=k;have c:F[i]?=some f:=by rw[<-I];simp
 have e:=b▸a y;generalize p:ρ y=u0 at e;cases e with
 |agg _ us r G q=>
   let⟨v,e1,K⟩:=qEE (P:=P) (w:=w) H g3 (Γ:=Γ) ⟨r,q⟩ G n;refine .val ?_ s K;simp[execOp,j,p,Instr.field,underlying,m,c,asAgg,Sem.run_bind',e1]
theorem qCO(D:∀t d,C.ty t=some d->zJ P t=some d)(r:Inv Γ σ w)(a:∀y,Rep Γ (aev tm y) (ρ y))(t:TypeId)(y z:Operand)(g:o.op=.index t y z)(h:qc C tm σ o.op=some (x,σ')):jy P Γ σ w o ρ x σ':=by
 rw[g]at h;simp only[qc]at h;split at h<;>try cases h
 rename_i _ _ _ _ s k j B p q;split at h<;>cases h;rename_i b e;have F:=qK (p▸a y);have E:=qK (q▸a z);let⟨O,u,H,N,m,M,L,K,J,I,l⟩:=wap (D t _ B);have n:=qdk l;subst n;simp only[qzx]at e;split at e<;>try cases e
 rename_i G;split at e<;>cases e;rename_i c i;refine .val ?_ r (.v _ rfl);have f:j.toNat<s.size:=by have:=getElem?_lt i;simpa using this
 have A:s[j.toNat]=c:=by
  have:=(List.getElem?_eq_some_iff.1 i).2;simp at this;exact this
 simp[execOp,g,F,E,Instr.index,asIntOf,underlying,m,G,f,A]
end
end Go.AmZ
namespace Go.AmZ
open Go Go.RowKit
section
variable {P:Program}{C:Cfg}{Γ:Gh}{σ:St}{w:World}{o:Oper}{tm:List AV}{ρ:Operand->Value}{x:AV}{σ':Option St}
theorem qvl(hC:∀t d,C.ty t=some d->zJ P t=some d)(G:Inv Γ σ w)(i:∀y,Rep Γ (aev tm y) (ρ y))(t:TypeId)(y z:Operand)(Q:o.op=.indexAddr t y z)(h:qc C tm σ o.op=some (x,σ')):jy P Γ σ w o ρ x σ':=by
 rw[Q]at h;simp only[qc]at h;split at h<;>try cases h
 .rename_i _ _ _ e k bb zz kk j U T;have Y:=qK (T▸i z);let⟨ii,u,zv,q1,J,q3,q4,q5,q6,q7,I⟩:=wap (hC t _ U);obtain⟨rfl,ie,ze,L,p2,K,p4,p5⟩:=Jh I;have g:=i y
  have s:∀b off n cap,ρ y=.slice (some ⟨b,off,none⟩) n cap->0<=j->j<n->(execOp ρ o).run P w=.ok (.value (.pointer (some ⟨b,off+j.toNat*k,none⟩))) w:=by
   intro b off n cap m D F;simp[execOp,Q,m,Y,Instr.indexAt,asIntOf,underlying,J,D,F,sizeOf,typeInfo,L,K,qde]
  split at h<;>try cases h
  .rename_i Z es f m;split at h<;>try cases h
   rename_i S;have S:Z=k:=by simpa[qJ]using S
   subst S;split at h<;>cases h;rename_i cs c;simp only[qro]at c;split at c<;>try cases c
   rename_i D;rw[m]at g;generalize v:ρ y=u0 at g;cases g with
   |sl _ _ _ a n cap b E us F hc hf B O ab X hm hr=>
     have A:=getElem?_lt c;have W:a=some ⟨b,E,none⟩:=X.resolve_left λ he=>by rw[he]at A;simp at A
     subst W;refine .val (s _ _ _ _ v D (by omega)) G ?_;exact .ept cs 0 b (E+j.toNat*Z) (us j.toNat) (λ x l=>O cs (wc c) x l) (λ q x l=>hm _ cs q x c l) (λ q x l=>hr _ cs q x c l)
  .rename_i r lo n ep f m;split at h<;>try cases h
   rename_i R hR;split at h<;>cases h;rename_i q N;simp only[qt8]at N;split at N<;>cases N;rename_i hc;let⟨c1,c2,c3,c4,c5⟩:=hc;have H:=G.row r R hR;rw[m]at g;generalize v:ρ y=u0 at g;cases g with
   |rs _ _ _ _ _ a cap M hv aa hf l=>
     let⟨g2,g3⟩:=l (by rw[<-H.ver (H.liveN c5 (by omega))];exact c4);have p:cap≠0:=by omega
     have X:=g2.resolve_left p;subst X;refine .val (s _ _ _ _ v c2 c3) G (.rpt _ _ _ _ _ M hv λ _=>?_);have B:k=Γ.k r:=by rw[<-c1];exact H.k
     rw[B,wS];simp
 .rename_i n e k _ j U T;have Y:=qK (T▸i z);let⟨ii,u,zv,q1,J,q3,q4,q5,q6,q7,I⟩:=wap (hC t _ U);obtain⟨rfl,ie,L,K⟩:=qBN I;split at h<;>try cases h
  rename_i b E m;split at h<;>cases h;rename_i hb;let⟨D,F⟩:=of_decide_eq_true hb;have g:=i y;rw[m]at g;generalize v:ρ y=u0 at g;cases g with
  |ptr _ _ V=>
    refine .val (u:=.pointer (some ⟨Γ.β b,E+j.toNat*k,none⟩)) ?_ G (.ptr _ _ V);simp[execOp,Q,v,Y,Instr.indexAt,Instr.sureAddr,asIntOf,underlying,J,D,F,sizeOf,typeInfo,L,K,qde]
theorem qz5{y:Nat}{v:Value}{a:AV}(c:Rep Γ a v){n:Nat}(h:qpC y a=some n)(m:Nat)(f:y<=m)(b:BoundsCode):(Instr.sliceBound v m b).run P w=.ok n w/\n<=y:=by
 unfold qpC at h;split at h
 .rename_i k i;have:=qK c;subst this;simp only[bnd]at h;split at h<;>cases h;rename_i d;have e:0<=i/\i<=m:=⟨d.1,by omega⟩
  exact⟨by simp[Instr.sliceBound,asIntOf,e],by omega⟩
 .cases h
theorem qh2(c:∀y,Rep Γ (aev tm y) (ρ y)){isS:Bool}{a cap:Nat}(d:a<=cap){lo b:Option Operand}{l h:Nat}(f:qay a a (b.map (aev tm))=some h)(e:qay 0 h (lo.map (aev tm))=some l):
  (Instr.sliceBounds isS a cap (lo.map ρ) (b.map ρ) none).run P w=.ok (l,h,cap) w/\l<=h/\h<=a:=by
 have H:(match b.map ρ with|some v=>Instr.sliceBound v cap (if isS then .sliceAcap else .sliceAlen)|none=>pure a:Sem Nat).run P w=.ok h w/\h<=a:=by
  cases b with
  |none=>simp only[qay,xm]at f;cases f;exact⟨by simp,wa _⟩
  |some y=>exact qz5 (c y) (by simpa[qay]using f) cap d _
 have L:(match lo.map ρ with|some v=>Instr.sliceBound v h .sliceB|none=>pure 0:Sem Nat).run P w=.ok l w/\l<=h:=by
  cases lo with
  |none=>simp only[qay,xm]at e;cases e;exact⟨by simp,wh _⟩
  |some y=>exact qz5 (c y) (by simpa[qay]using e) h (wa _) _
 refine⟨?_,L.2,H.2⟩;cases b with
 |none=>
   cases lo with
   |none=>simp only[xm]at H L;simp at H L;simp[Instr.sliceBounds,H,L]
   |some y=>simp only[xm,kr]at H L;simp at H;simp[Instr.sliceBounds,H,L.1]
 |some z=>
   cases lo with
   |none=>simp only[xm,kr]at H L;simp at L;simp[Instr.sliceBounds,H.1,L]
   |some y=>simp only[kr]at H L;simp[Instr.sliceBounds,H.1,L.1]
theorem qCU(Y:∀t d,C.ty t=some d->zJ P t=some d)(T:Inv Γ σ w)(c:∀y,Rep Γ (aev tm y) (ρ y))(t:TypeId)(y:Operand)(lo S mx:Option Operand)(N:o.op=.slice t y lo S mx)(h:qc C tm σ o.op=some (x,σ')):jy P Γ σ w o ρ x σ':=by
 rw[N]at h;cases mx with
 |some m=>simp only[qc]at h;cases h
 |none=>
 simp only[qc]at h;split at h<;>try cases h
 .rename_i _ _ _ _ s J hs;have h1:=qK (hs▸c y);let⟨ii,u,Z,q1,F,q3,q4,q5,q6,q7,E⟩:=wap (Y t _ J);have G:=qdk E;subst G;split at h<;>try cases h
  rename_i q p;split at h<;>cases h;rename_i l g;let⟨z,b2,W⟩:=qh2 (P:=P) (w:=w) c (isS:=false) (wa _) p g;refine .val ?_ T (.v _ rfl);simp[execOp,N,h1,Instr.sliceAt,Instr.slice,underlying,F,Sem.run_bind',qku]at z |-
  simp[z,quO]
 .rename_i _ _ _ e k bb zz X es f J M;split at h<;>try cases h
  rename_i Q;rw[wb]at Q;have af:0<f:=of_decide_eq_true Q.2;have Q:X=k:=by simpa[qJ]using Q.1
  subst Q;split at h<;>try cases h
  rename_i q p;split at h<;>cases h;rename_i l g;let⟨ii,u,Z,q1,F,q3,q4,q5,q6,q7,E⟩:=wap (Y t _ J);obtain⟨rfl,ie,ze,D,p2,B,p4,p5⟩:=Jh E;have L:=M▸c y;generalize G:ρ y=u0 at L;cases L with
  |sl _ _ _ a n cap b oo us hn U hf ac aa ah V hm hr=>
    subst hn;have U:=U af;let⟨z,b2,W⟩:=qh2 (P:=P) (w:=w) c (isS:=true) U p g;have W:q<=es.length:=W;have z:(Instr.sliceBounds true es.length cap (lo.map ρ) (S.map ρ) none).run P w=.ok (l,q,cap) w:=z;refine .val (u:=.slice (if cap=l then a else a.map (·.add (l*X))) (q-l) (cap-l)) ?_ T ?_
    .simp[execOp,N,G,Instr.sliceAt,Instr.slice,underlying,F,Sem.run_bind',sizeOf,typeInfo,D,B];rw[z];simp[D,B]
    .simp only[qzn];refine .sl X _ _ _ _ _ b (oo+l*X) (λ i j=>us (l+i) j) (by simp;omega) (λ _=>by omega) ?_ (λ e he=>ac e (wT (wO he))) (λ e he=>aa e (wT (wO he))) ah ?_ ?_ ?_
     .intro A;unfold lvS at A;split at A
      .rename_i hb;rw[wb]at hb;have h1:=hf (of_decide_eq_true hb.1);have h2:q=es.length:=of_decide_eq_true hb.2;rw[h1,h2]
      .exact absurd A (by decide)
     .obtain V|V:=V
      .left;subst V;simp
      .by_cases K:cap=l
       .grind
       .right;subst V;rw[if_neg K];simp[qde]
     .grind
     .grind
 .rename_i _ _ _ e k bb zz J M;split at h<;>try cases h
  rename_i q p;split at h<;>cases h;rename_i l g;let⟨ii,u,Z,q1,F,q3,q4,q5,q6,q7,E⟩:=wap (Y t _ J);obtain⟨rfl,ie,ze,D,p2,B,p4,p5⟩:=Jh E;have G:=qK (M▸c y);let⟨z,b2,W⟩:=qh2 (P:=P) (w:=w) c (isS:=true) (wa 0) p g;have ae:q=0:=by omega
  have ab:l=0:=by omega
  subst ae;subst ab;refine .val (u:=.slice none 0 0) ?_ T (.v _ rfl);simp[execOp,N,G,Instr.sliceAt,Instr.slice,underlying,F,Sem.run_bind',sizeOf,typeInfo,D,B];rw[z];simp[D,B]
 .rename_i _ _ _ e k bb zz r oo n ep f J M;split at h<;>try cases h
  rename_i q R p hR;split at h<;>try cases h
  rename_i l g;split at h<;>cases h;rename_i R' O I;have ad:q=n:=by simpa[qJ]using O
  subst ad;simp only[quf]at I;split at I<;>cases I;rename_i ag;let⟨c0,c1,c2,c3,c4,c5⟩:=ag;let⟨ii,u,Z,q1,F,q3,q4,q5,q6,q7,E⟩:=wap (Y t _ J);obtain⟨rfl,ie,ze,D,p2,B,p4,p5⟩:=Jh E;have H:=T.row r R hR;have L:=M▸c y;generalize G:ρ y=u0 at L;cases L with
  |rs _ _ _ _ _ a cap aj hv U A hx=>
    let⟨g2,g3⟩:=hx (by rw[<-H.ver c5];exact c1);let⟨z,b2,W⟩:=qh2 (P:=P) (w:=w) c (isS:=true) U p g;let⟨Γ',f1,f2,f3⟩:=qDn T hR c5 (l:=l) (by omega) (r::σ.wrr);subst c3;rw[c1]at f3;rw[wy,<-H.k]at g3;rw[ko,wL]at g2;have ak:(cap-l)*R.k=cap*R.k-l*R.k:=vF _ _ _;have ai:l*R.k<=cap*R.k:=wm _ (by omega);refine⟨_,.slice (if cap=l then a else a.map (·.add (l*R.k))) (q-l) (cap-l),w,Γ',?_,.inl rfl,f1,?_,f3 _ _ _ (by omega) ?_ (by omega)⟩
    .simp[execOp,N,G,Instr.sliceAt,Instr.slice,underlying,F,Sem.run_bind',sizeOf,typeInfo,D,B];rw[z];simp[D,B,c0]
    .exact f2
    .by_cases K:cap=l
     .left;omega
     .right;rw[if_neg K,g2.resolve_left (by omega)];simp[qde]
theorem qul(off:Nat):∀(xs:List Value) (n:Nat) (cs:Array Value),off+n+xs.length<=cs.size->((xs.zipIdx n).foldl (λ cs (p:Value×Nat)=>cs.setIfInBounds (off+p.2) p.1) cs).toList=cs.toList.take (off+n)++(xs++cs.toList.drop (off+n+xs.length))
 |[],n,cs,h=>by simp
 |x::xs,n,cs,h=>by
   simp only[vh,xt,wB]at h |-
   rw[qul off xs (n+1) _ (by simp;omega)];simp only[xi];have a:off+n<cs.toList.length:=by simp;omega
   have b:off+n<cs.size:=by omega
   rw[show off+(n+1)=off+n+1 by omega,show off+n+1+xs.length=off+n+(xs.length+1) by omega];rw[xJ,List.getElem?_set_self a,vq (wa _),List.drop_set_of_lt (by omega)];simp
theorem qsP{v:Value}{off:Nat}{cs:Array Value}(h:off+v.cells.size<=cs.size):(v.cells.zipIdx.foldl (λ cs (c,j)=>cs.setIfInBounds (off+j) c) cs).toList=cs.toList.take off++(v.cells.toList++cs.toList.drop (off+v.cells.size)):=by
 rw[<-Array.foldl_toList,Array.toList_zipIdx];have:=qul off v.cells.toList 0 cs (by simpa using h);simpa using this
theorem qxf{place:Nat->Option (Nat×Nat)}:∀{ps:List (Nat×AV)}{vs:List (Nat×Value)}{cells:List AV}{cs:Array Value}{cells':List AV},(ps.length=vs.length/\∀(i:Nat) (p:Nat×AV) (q:Nat×Value),ps[i]?=some p->vs[i]?=some q->p.1=q.1/\Rep Γ p.2 q.2)->
  RepL Γ cells cs.toList->(∀u∈cs.toList,u.oneCell'=true)->qit place cells ps=some cells'->∃cs',Instr.fill place cs vs=some cs'/\RepL Γ cells' cs'.toList/\∀u∈cs'.toList,u.oneCell'=true
 |[],vs,cells,cs,cells',e,g,l,h=>by
   obtain rfl:vs=[]:=kw.1 e.1.symm;simp only[qit]at h;cases h;exact⟨cs,rfl,g,l⟩
 |(i,x)::ps,vs,cells,cs,cells',e,g,l,h=>by
   cases vs with
   |nil=>simp at e
   |cons q vs=>
     let⟨j,v⟩:=q;let⟨k,m⟩:=e.2 0 (i,x) (j,v) rfl rfl;simp only at k m;subst k;simp only[qit]at h;split at h<;>try cases h
     rename_i off size o;split at h<;>try cases h
     rename_i r;simp only[wb,decide_eq_true_eq]at r;let⟨⟨D,C⟩,s⟩:=r;let⟨y,w⟩:=m.cells s;have B:=m.cells_len s;have t:cs.size=cells.length:=by simpa using g.len
     have f:=qsP (v:=v) (off:=off) (cs:=cs) (by omega);have n:v.cells.size=size:=by omega
     let⟨cs',e1,A,z⟩:=qxf (place:=place) (ps:=ps) (vs:=vs) (cells:=cells.take off++(cellsOf x++cells.drop (off+size))) (cs:=v.cells.zipIdx.foldl (λ cs (c,j)=>cs.setIfInBounds (off+j) c) cs) (cells':=cells')
      ⟨by simpa using e.1,λ i p q a b=>e.2 (i+1) p q (by simpa using a) (by simpa using b)⟩
      (by rw[f,n];exact(g.take off).append (y.append (g.drop _)))
      (by
       rw[f];intro u d;obtain d|d:=wi.1 d
       .exact l u (wT d)
       .obtain d|d:=wi.1 d
        .exact w u d
        .exact l u (wO d)) h
     refine⟨cs',?_,A,z⟩;simp only[Instr.fill,o];grind
theorem qAC(a:∀y,Rep Γ (aev tm y) (ρ y))(parts:List (Nat×Operand)):(parts.map λ p=>(p.1,aev tm p.2)).length=(parts.map λ p=>(p.1,ρ p.2)).length/\∀(i:Nat) (p:Nat×AV) (q:Nat×Value),(parts.map λ p=>(p.1,aev tm p.2))[i]?=some p->(parts.map λ p=>(p.1,ρ p.2))[i]?=some q->p.1=q.1/\Rep Γ p.2 q.2:=by
 grind
theorem qDf(K:∀t d,C.ty t=some d->zJ P t=some d)(g:Inv Γ σ w)(e:∀y,Rep Γ (aev tm y) (ρ y))(t:TypeId)(parts:Array (Nat×Operand))(k:o.op=.build t parts)(h:qc C tm σ o.op=some (x,σ')):jy P Γ σ w o ρ x σ':=by
 rw[k]at h;simp only[qc]at h;split at h<;>try cases h
 rename_i _ _ _ z a H;split at h<;>try cases h
 rename_i E;split at h<;>cases h;rename_i cs I;let⟨S,u,q,B,A,s,R,Q,O,j,r⟩:=wap (K t _ H);obtain⟨F,rfl,m⟩:=qlA r;let⟨V,U⟩:=qga m;simp only at j;subst j;let⟨M,L⟩:=qbu (Γ:=Γ) E
 have b:∀{F:List Field}{a:List (Nat×Nat×Bool)},fieldsOf P F=some a->F.mapM (λ f=>(P.info? f.type).map λ i=>(f.offset,i.size))=some (a.map λ f=>(f.1,f.2.1)):=by
  intro F
  induction F with
  |nil=>intro a h;simp[fieldsOf]at h;subst h;rfl
  |cons f F D=>
    intro a h;simp only[fieldsOf]at h;split at h
    .rename_i i u l g T G;cases h;simp[List.mapM_cons,g,D G]
    .cases h
 have c:qit (λ i=>(a.map λ f=>(f.1,f.2.1)).toArray[i]?) (q.cells.toList.map .v) (parts.toList.map λ p=>(p.1,aev tm p.2))=some cs:=by
  grind
 let⟨cs',e1,n,N⟩:=qxf (Γ:=Γ) (qAC e parts.toList) M L c
 have J:P.built t (parts.map λ p=>(p.1,ρ p.2)).toList=some cs':=by
  unfold Program.built;rw[B,A];simp only[s,b m];rw[xR];exact e1
 refine .val (u:=.agg cs') ?_ g ?_
 .simp[execOp,k,run_build w t _ cs' J]
 .have:=Rep.agg (Γ:=Γ) cs cs'.toList n.len N n.rep;simpa using this
end
end Go.AmZ
namespace Go.AmZ
open Go Go.RowKit
section
variable {P:Program}{C:Cfg}{Γ:Gh}{σ:St}{w:World}{o:Oper}{tm:List AV}{ρ:Operand->Value}{x:AV}{σ':Option St}
theorem qgX(W:Inv Γ σ w){m:Nat->Nat->Option Value}(p:Le Γ {Γ with mem:=m}){y:AV}{u:Value}(X:∀r∈rsC y,∀R,σ.rw[r]?=some R->jo {Γ with mem:=m} r R)(E:Rep Γ y u):Rep {Γ with mem:=m} (qB σ.rw y) u:=by
 cases E with
 |sl k es f a n cap b o us S L I U G C Y T E=>
   exact .sl k es _ a n cap b o us S (λ h=>L (by cases f with|zero=>exact absurd h (xU 0)|succ f=>exact xn f)) (λ h=>by cases f with|zero=>exact absurd h (by simp[lv1])|succ f=>exact absurd h (by simp[lv1])) U G C Y (λ i e j x d g=>p.mem _ _ _ (T i e j x d g)) (λ i e j x d g=>(E i e j x d g).mono p)
 |rs r lo n N f a cap Q hv L I P=>
   simp only[qB];split
   .rename_i R M;split
    .rename_i es s;simp only[qf9]at s;split at s<;>cases s;rename_i K;obtain⟨-,c1,Z⟩:=K;have H:=W.row r R M
     have D:n=0\/(cap=0\/a=some ⟨Γ.cur r,Γ.of r+lo*Γ.k r,none⟩):=by
      obtain C|C:=xZ n
      .exact .inl C
      .exact .inr (P (by rw[<-H.ver (H.liveN Z C)];exact c1)).1
     have F:=X r (by simp[rsC]) R M
     have t:∀(i:Nat) (e:List AV) (j:Nat) (x:AV),((R.c.drop lo).take n)[i]?=some e->e[j]?=some x->∃u,m (Γ.cur r) (Γ.of r+lo*R.k+i*R.k+j)=some u/\Rep {Γ with mem:=m} x u:=by
      intro i e j x d g;rw[List.getElem?_take]at d;split at d<;>try cases d
      rename_i V;rw[List.getElem?_drop]at d;let⟨u,z,l⟩:=F (lo+i) e j x d g;refine⟨u,?_,l⟩;rw[<-z,wS,wN,wN,<-wN (lo*R.k)]
     refine .sl R.k _ 1 a n cap (Γ.cur r) (Γ.of r+lo*R.k) (λ i j=>(m (Γ.cur r) (Γ.of r+lo*R.k+i*R.k+j)).getD undef) ?_ (λ _=>L) (λ h=>absurd h (by decide)) (λ e J=>H.len e (wO (wT J))) (λ e J=>H.plain e (wO (wT J))) H.pos ?_ ?_ ?_
     .simp;omega
     .obtain D|D|D:=D
      .left;apply we;simp;omega
      .left;apply we;simp;omega
      .right;rw[D,H.k]
     .intro i e j x d g;let⟨u,z,_⟩:=t i e j x d g;show m (Γ.cur r) _=_;rw[z];rfl
     .intro i e j x d g;let⟨u,z,l⟩:=t i e j x d g;rw[z];exact l
    .exact .dead _
   .exact .dead _
 |v _ h=>exact .v _ h
 |dead u=>exact .dead u
 |ptr b o h=>exact(Rep.ptr b o h).mono p
 |rpt r i o N A d g B=>exact(Rep.rpt r i o N A d g B).mono p
 |ept cs o b O us d g B=>exact(Rep.ept cs o b O us d g B).mono p
 |fn f cs us d g=>exact(Rep.fn f cs us d g).mono p
 |agg cs us d g B=>exact(Rep.agg cs us d g B).mono p
 |tup cs us d g=>exact(Rep.tup cs us d g).mono p
 |mp b h=>exact(Rep.mp b h).mono p
theorem quI(g:Inv Γ σ w){m:Nat->Nat->Option Value}(f:Le Γ {Γ with mem:=m}){cs:List AV}{us:List Value}(j:∀r∈cs.flatMap rsC,∀R,σ.rw[r]?=some R->jo {Γ with mem:=m} r R)(d:RepL Γ cs us):RepL {Γ with mem:=m} (cs.map (qB σ.rw)) us:=by
 refine⟨by simpa using d.len,λ i x u b e=>?_⟩;rw[List.getElem?_map]at b;cases h:cs[i]? with
 |none=>rw[h]at b;cases b
 |some y=>
   rw[h]at b;cases b;exact qgX g f (λ r c=>j r (wX.2 ⟨y,wc h,c⟩)) (d.rep i y u h e)
theorem qrD(p:Inv Γ σ w){m:Nat->Nat->Option Value}(e:Le Γ {Γ with mem:=m}){y:AV}{u:Value}(q:∀r∈rsA y,∀R,σ.rw[r]?=some R->jo {Γ with mem:=m} r R)(z:Rep Γ y u):Rep {Γ with mem:=m} (yb σ.rw y) u:=by
 cases z with
 |agg cs us d c g=>
   have:=quI p e (cs:=cs) (us:=us) (by simpa[rsA]using q) ⟨d,g⟩;exact .agg _ _ this.len c this.rep
 |v _ h=>exact .v _ h
 |dead u=>exact .dead u
 |sl k es f a n cap b o us d c g t s E D C B=>exact qgX (y:=.sl k es f) p e q (.sl k es f a n cap b o us d c g t s E D C B)
 |rs r lo n l f a cap d c g t s=>exact qgX (y:=.rs r lo n l f) p e q (.rs r lo n l f a cap d c g t s)
 |ptr b o h=>exact(Rep.ptr b o h).mono e
 |rpt r i o l A d c g=>exact(Rep.rpt r i o l A d c g).mono e
 |ept cs o b x us d c g=>exact(Rep.ept cs o b x us d c g).mono e
 |fn f cs us d c=>exact(Rep.fn f cs us d c).mono e
 |tup cs us d c=>exact(Rep.tup cs us d c).mono e
 |mp b h=>exact(Rep.mp b h).mono e
theorem qAI{rw:List Row}{y:AV}(h:qk (qB rw y)=true):isC y=true:=by
 cases y<;>first|rfl|(simp[qB,qk]at h)
theorem qvR(k:Nat):∀(vs:List Value) (a:Nat) (cs:Array Value),(∀v∈vs,v.cells.size=k)->(a+vs.length)*k<=cs.size->
  ∃cs',Instr.fill (λ i=>some (i*k,k)) cs ((vs.zipIdx a).map λ p=>(p.2,p.1))=some cs'/\cs'.toList=cs.toList.take (a*k)++(vs.flatMap (λ v=>v.cells.toList)++cs.toList.drop ((a+vs.length)*k))
 |[],a,cs,_,h=>⟨cs,rfl,by simp⟩
 |v::vs,a,cs,e,h=>by
   have f:v.cells.size=k:=e v (ww ..)
   have n:a*k+k<=cs.size:=by
    have:(a+1)*k<=(a+(v::vs).length)*k:=wm _ (by simp);rw[wS,xl]at this;omega
   have b:=qsP (v:=v) (off:=a*k) (cs:=cs) (by omega)
   have d:(v.cells.zipIdx.foldl (λ cs (c,j)=>cs.setIfInBounds (a*k+j) c) cs).size=cs.size:=by
    have:=congrArg List.length b;simp only[wK,wd,wu,wR]at this;rw[this];omega
   let⟨cs',e1,w⟩:=qvR k vs (a+1) (v.cells.zipIdx.foldl (λ cs (c,j)=>cs.setIfInBounds (a*k+j) c) cs) (λ l u=>e l (wj _ u)) (by rw[d];simp at h;rw[show a+1+vs.length=a+(vs.length+1) by omega];exact h);refine⟨cs',?_,?_⟩
   .simp only[vh,wz,Instr.fill];rw[if_neg (by simp;omega)];exact e1
   .rw[w,b,f];have g:(a+1)*k=a*k+k:=by rw[wS,xl]
    have t:(cs.toList.take (a*k)).length=a*k:=by rw[wu];simp;omega
    have s:v.cells.toList.length=k:=by simpa using f
    have r:(a+1+vs.length)*k=a*k+k+vs.length*k:=by rw[wS,g]
    have q:(a+(v::vs).length)*k=a*k+k+vs.length*k:=by simp[wS];omega
    rw[g,r,q]
    have m:(cs.toList.take (a*k)++(v.cells.toList++cs.toList.drop (a*k+k))).take (a*k+k)=cs.toList.take (a*k)++v.cells.toList:=by
     rw[<-wk,kH (by simp only[wd];omega),kR (by simp only[wd];omega)]
    have o:(cs.toList.take (a*k)++(v.cells.toList++cs.toList.drop (a*k+k))).drop (a*k+k+vs.length*k)=cs.toList.drop (a*k+k+vs.length*k):=by
     rw[<-wk,List.drop_append,List.drop_of_length_le (by simp only[wd];omega)];simp only[wd,t,s,kD,List.drop_drop];congr 1;omega
    rw[m,o];simp
theorem qvM{α:Type}(k:Nat):∀(a:List (List α)) (i j:Nat) (l:List α) (x:α),(∀l∈a,l.length=k)->a[i]?=some l->l[j]?=some x->a.flatten[i*k+j]?=some x
 |[],i,j,l,x,_,h,_=>by simp at h
 |e::a,i,j,l,x,c,h,b=>by
   have d:=c e (ww ..);cases i with
   |zero=>
     simp at h;subst h;simp only[List.flatten_cons,ko,wy];rw[List.getElem?_append_left (getElem?_lt b)];exact b
   |succ i=>
     simp at h;simp only[List.flatten_cons];rw[List.getElem?_append_right (by rw[d,wS];omega),d];rw[show(i+1)*k+j-k=i*k+j by rw[wS,xl];omega];exact qvM k a i j l x (λ f g=>c f (wj _ g)) h b
theorem qs4(ρ:Operand->Value):∀(ps:List (Nat×Operand)) (n:Nat),(∀(i:Nat) (p:Nat×Operand),ps[i]?=some p->p.1=n+i)->ps.map (λ p=>(p.1,ρ p.2))=((ps.map λ p=>ρ p.2).zipIdx n).map λ p=>(p.2,p.1)
 |[],n,h=>rfl
 |p::ps,n,h=>by
   simp only[wz,vh];rw[<-qs4 ρ ps (n+1) λ i q a=>by have:=h (i+1) q (by simpa using a);omega];have:=h 0 p rfl;simp only[wL]at this;rw[this]
theorem qqB{t e:TypeId}{n:Nat}{parts:Array (Nat×Value)}{a:TypeInfo}{f:Value}(k:P.underlying t=some (.slice e))(l:P.info? e=some a)(j:a.zero=some f)(m:n*a.size<=2^24){cs':Array Value}
  (c:Instr.fill (λ i=>some (i*a.size,a.size)) ((Array.range (n*a.size)).map ((if n*a.size=0 then #[]else f.cells)[· % (if n*a.size=0 then #[]else f.cells).size]!)) parts.toList=some cs'):
  (Instr.buildSlice t n parts).run P w=.ok (.slice (some ⟨w.heap.size,0,none⟩) n n) (w.alloc (.cells cs' e)):=by
 have b:¬ (2^24<n*a.size):=by omega
 by_cases d:n*a.size=0
 .simp only[if_pos d]at c;simp only[Instr.buildSlice];have g:n=0\/a.size=0:=Nat.mul_eq_zero.1 d;simp[underlying,k,sizeOf,typeInfo,l,d]at c |-
  simp[c,g,qcG]
 .simp only[if_neg d]at c;simp only[Instr.buildSlice];simp[underlying,k,sizeOf,typeInfo,zeroValue,l,j,d,b]at c |-
  have g:¬ (n=0\/a.size=0):=λ h=>d (Nat.mul_eq_zero.2 h);simp[c,g,j,qcG]
theorem qtH(hC:∀t d,C.ty t=some d->zJ P t=some d)(hi:Inv Γ σ w)(G:∀y,Rep Γ (aev tm y) (ρ y))(t:TypeId)(n:Nat)(parts:Array (Nat×Operand))(ho:o.op=.buildSlice t n parts)(h:qc C tm σ o.op=some (x,σ')):jy P Γ σ w o ρ x σ':=by
 rw[ho]at h;simp only[qc]at h;split at h<;>try cases h
 rename_i _ _ _ _ e k bb zz hd;split at h<;>try cases h
 rename_i Q;simp only[qeP,wb,decide_eq_true_eq]at Q;let⟨⟨⟨hn,U⟩,ac⟩,V⟩:=Q;let⟨ii,u,zv,q1,q2,q3,q4,q5,q6,q7,q8⟩:=wap (hC t _ hd);obtain⟨rfl,ie,ze,p1,p2,p3,p4,p5⟩:=Jh q8
 have a:∀(i:Nat) (p:Nat×Operand),parts.toList[i]?=some p->p.1=i/\(cellsOf (aev tm p.2)).length=k/\∀x∈cellsOf (aev tm p.2),qk (qB σ.rw x)=true:=by
  intro i p b
  have:=wo.1 V ((p.1,aev tm p.2),i) (by
   rw[kU,List.getElem?_map,b];rfl)
  simp only[wb,decide_eq_true_eq]at this;exact⟨this.1.1,this.1.2,wo.1 this.2⟩
 have q:∀p∈parts.toList,(cellsOf (aev tm p.2)).all isC=true:=by
  intro p b;let⟨i,f⟩:=List.getElem?_of_mem b;exact wo.2 λ x z=>qAI ((a i p f).2.2 x z)
 let vs:=parts.toList.map λ p=>ρ p.2
 have M:∀v∈vs,v.cells.size=k:=by
  intro v O;obtain⟨p,b,rfl⟩:=wI.1 O;let⟨i,f⟩:=List.getElem?_of_mem b;rw[(G p.2).cells_len (q p b)];exact(a i p f).2.1
 have N:vs.length=n:=by simpa[vs]using hn
 have L:=qs4 ρ parts.toList 0 λ i p b=>by rw[(a i p b).1];omega
 let⟨cs',e1,e2⟩:=qvR k vs 0 ((Array.range (n*k)).map ((if n*k=0 then #[]else ze.cells)[· % (if n*k=0 then #[]else ze.cells).size]!)) M (by simp[N])
 have ad:cs'.toList=vs.flatMap λ v=>v.cells.toList:=by
  rw[e2];simp[N]
 have T:cs'=(vs.flatMap λ v=>v.cells.toList).toArray:=by rw[<-ad]
 have B:(execOp ρ o).run P w=.ok (.value (.slice (some ⟨w.heap.size,0,none⟩) n n)) (w.alloc (.cells (vs.flatMap λ v=>v.cells.toList).toArray e)):=by
  have ab:(parts.map λ p=>(p.1,ρ p.2)).toList=(vs.zipIdx 0).map λ p=>(p.2,p.1):=by rw[xR];exact L
  rw[<-T];have hb:=qqB (w:=w) (n:=n) (parts:=parts.map λ p=>(p.1,ρ p.2)) q2 p1 p2 (by rw[p3];exact U) (by rw[p3,ab];exact e1);simp only[execOp,ho];simp[Sem.run_bind',hb]
 have F:∀(s:List Nat) (E:List Nat),(∀r∈parts.toList.flatMap (λ p=>rsA (aev tm p.2)),r∈s)->∃m,Fz Γ m/\Inv {Γ with mem:=m} {σ with rw:=frz σ.rw s,wrr:=E} w/\
   ∀(i:Nat) (p:Nat×Operand),parts.toList[i]?=some p->RepL {Γ with mem:=m} ((cellsOf (aev tm p.2)).map (qB σ.rw)) (ρ p.2).cells.toList:=by
  intro s E H;let⟨m,X,m2,Z⟩:=QW s hi E;refine⟨m,X,m2,λ i p b=>?_⟩;refine quI hi X.le (λ r I R hR=>Z r (H r (wX.2 ⟨p,wc b,?_⟩)) R hR) ((G p.2).cells (q p (wc b))).1
  have:∀y:AV,r∈(cellsOf y).flatMap rsC->r∈rsA y:=by
   intro y hy;cases y<;>simpa[cellsOf,rsA]using hy
  exact this _ I
 have J:∀u∈vs.flatMap (λ v=>v.cells.toList),u.oneCell'=true:=by
  intro u A;let⟨v,O,A⟩:=wX.1 A;obtain⟨p,b,rfl⟩:=wI.1 O;exact((G p.2).cells (q p b)).2 u A
 have W:∀(s:List Nat) (σ1:St) (E:List Nat),σ1={σ with rw:=frz σ.rw s,wrr:=E}->(∀r∈parts.toList.flatMap (λ p=>rsA (aev tm p.2)),r∈s)->
   ∃Γ',Ext Γ w Γ' (w.alloc (.cells (vs.flatMap λ v=>v.cells.toList).toArray e))/\Inv Γ' σ1 (w.alloc (.cells (vs.flatMap λ v=>v.cells.toList).toArray e))/\Rep Γ' (.sl k (parts.toList.map λ p=>(cellsOf (aev tm p.2)).map (qB σ.rw)) 2) (.slice (some ⟨w.heap.size,0,none⟩) n n):=by
  intro s σ1 E aa H;subst aa;let⟨m,X,m2,Z⟩:=F s E H;let⟨Γ',g1,g2,g3⟩:=qs1 m2 J e;refine⟨Γ',(qgk X w).trans g1,g2,?_⟩
  have D:∀(i:Nat) (l:List AV) (j:Nat) (x:AV),(parts.toList.map λ p=>(cellsOf (aev tm p.2)).map (qB σ.rw))[i]?=some l->l[j]?=some x->∃u,Γ'.mem w.heap.size (i*k+j)=some u/\Rep Γ' x u:=by
   intro i l j x c z;rw[List.getElem?_map]at c;cases b:parts.toList[i]? with
   |none=>rw[b]at c;cases c
   |some p=>
     rw[b]at c;cases c;have I:=Z i p b;let⟨u,A,g⟩:=I.get z;refine⟨u,g3 _ _ ?_,g.mono g1.le⟩;rw[List.flatMap_def];refine qvM k _ i j (ρ p.2).cells.toList u ?_ ?_ A
     .intro l c;obtain⟨v,O,rfl⟩:=wI.1 c;simpa using M v O
     .simp only[vs,xc,List.getElem?_map,b];rfl
  refine .sl k _ 2 _ n n w.heap.size 0 (λ i j=>(Γ'.mem w.heap.size (i*k+j)).getD undef) ?_ (λ _=>wa _) (λ _=>rfl) ?_ ?_ ac (.inr rfl) ?_ ?_
  .simpa using hn.symm
  .intro l c;obtain⟨p,b,rfl⟩:=wI.1 c;let⟨i,f⟩:=List.getElem?_of_mem b;rw[wx];exact(a i p f).2.1
  .intro l c x z;obtain⟨p,b,rfl⟩:=wI.1 c;let⟨i,f⟩:=List.getElem?_of_mem b;obtain⟨y,hy,rfl⟩:=wI.1 z;exact(a i p f).2.2 y hy
  .intro i l j x c z;let⟨u,A,_⟩:=D i l j x c z;rw[wy,A];rfl
  .intro i l j x c z;let⟨u,A,g⟩:=D i l j x c z;rw[A];exact g
 split at h<;>cases h
 .rename_i S;let⟨Γ',f1,f2,f3⟩:=W [] σ σ.wrr rfl (by rw[S];intro r I;cases I);exact⟨_,_,_,Γ',B,.inl rfl,f1,f2,f3⟩
 .rename_i r l K;let⟨Γ',f1,f2,f3⟩:=W (r::l) _ ((r::l)++σ.wrr) rfl (by rw[K];intro r I;exact I);exact⟨_,_,_,Γ',B,.inl rfl,f1,f2,f3⟩
theorem qCv{α:Type}{n i:Nat}{x y:α}(h:(List.replicate n x)[i]?=some y):y=x:=by
 rw[List.getElem?_replicate]at h;split at h<;>cases h;rfl
theorem qDL(hC:∀ t d,C.ty t=some d->zJ P t=some d)(W:Inv Γ σ w)(n:∀ y,Rep Γ (aev tm y) (ρ y))(t:TypeId)(y z:Operand)(U:o.op = .makeSlice t y z)(h:qc C tm σ o.op=some (x,σ')):jy P Γ σ w o ρ x σ':=by
 rw[U]at h;simp only[qc]at h;split at h<;>try cases h
 rename_i _ _ _ _ e k bytes S ik a D b hd I H;split at h<;>try cases h
 rename_i X;simp only[wb,decide_eq_true_eq]at X;obtain⟨⟨⟨rfl,Y,aa,ab,s,p⟩,G⟩,F⟩:=X;have I:=qK (I▸n y);have H:=qK (H▸n z);obtain⟨ii,u,zv,q1,q2,q3,q4,q5,q6,q7,q8⟩:=wap (hC t _ hd);obtain⟨rfl,ie,g,p1,p2,p3,p4,p5⟩:=Jh q8
 have m:=run_make (P:=P) w t e ie g q2 p1 p2 ik D a a Y (Int.le_refl _) (by rw[p4];have e1:(bytes:Int)*a=((a.toNat*bytes:Nat):Int):=by rw[Int.natCast_mul,Int.toNat_of_nonneg Y,Int.mul_comm]
                                                                            rw[e1];omega) (by omega)
 rw[p3]at m
 have B:(execOp ρ o).run P w = .ok (.value (.slice (some ⟨w.heap.size,0,none⟩) a.toNat a.toNat)) (w.alloc (.cells (madeCells g.cells (a.toNat*k)) e)):=by
  simp only[execOp,U,I,H];simp[Sem.run_bind',m]
 have R:Below w.heap.size w (w.alloc (.cells (madeCells g.cells (a.toNat*k)) e)):=(Below.refl _ _).alloc (wa _) _;split at h
 ·rename_i L;cases h;have L:a.toNat=0:=of_decide_eq_true L;refine⟨_,_,_,Γ,B,.inl rfl,qds R (wa _),W.later R,?_⟩;rw[L];exact .sl k [] 2 _ 0 0 0 0 (λ _ _=>undef) rfl (λ _=>wa _) (λ _=>rfl) (by simp) (by simp) s (.inl rfl) (by simp) (by simp)
 ·cases h;have f:(madeCells g.cells (a.toNat*k)).size=a.toNat*k:=size_madeCells _ _;have q:g.cells.toList=S:=p5;have E:g.cells.size=k:=by rw[<- p,<- q];simp
  have l:=qbu (Γ := Γ) G
  obtain⟨Γ',d1,d2,Z⟩:=qsu W s (c:=List.replicate a.toNat (S.map .v)) (λ e Q=>by rw[vJ Q,wx];exact p) (λ e Q x T=>by
   rw[vJ Q]at T;exact wo.1 F x T) (vs:=madeCells g.cells (a.toNat*k)) (by rw[xj,f];exact wa _) (by
   intro i e j x A V;have:=qCv A;subst this;obtain⟨v,K,r⟩:=l.1.get V;have O:i<a.toNat:=by have:=getElem?_lt A;simpa using this
   have N:j<k:=by have:=getElem?_lt V;simp at this;omega
   refine⟨v,?_,r,l.2 v (wc K)⟩
   have M:i*k+j<a.toNat*k:=by
    calc i*k+j<i*k+k:=by omega
     _=(i+1)*k:=by rw[wS,xl]
     _<=a.toNat*k:=wm _ O
   have hm:(i*k+j) % k=j:=by rw[xz,Nat.mul_add_mod];exact xB N
   unfold madeCells;rw[Array.getElem?_map,Array.getElem?_range,if_pos M];simp only[kr,E,hm]
   have:g.cells[j]! = v:=by
    rw[<- q]at K;have J:g.cells[j]?=some v:=by simpa using K
    rw[getElem!_def,J]
   rw[this]) (e:=e) (cap:=a.toNat) (by simp) (by rw[f];exact wa _) R (wa _) (wa _) (heap_alloc_new w _)
  rw[xj]at Z;exact⟨_,_,_,Γ',B,.inl rfl,d1,d2,Z⟩
end
end Go.AmZ
namespace Go.AmZ
open Go Go.RowKit
section
variable {P:Program}{C:Cfg}{Γ:Gh}{σ:St}{w:World}{o:Oper}{tm:List AV}{ρ:Operand->Value}{x:AV}{σ':Option St}
theorem qva{k:Nat}{es:List (List AV)}(h:uni k es=true):(∀e∈es,e.length=k)/\∀e∈es,∀x∈e,qk x=true:=by
 simp only[uni,wo,wb,decide_eq_true_eq]at h;exact⟨λ e a=>(h e a).1,λ e a=>(h e a).2⟩
theorem qu9(z:Inv Γ σ w){k:Nat}{y:AV}{u:Value}(s:Rep Γ y u){xs:List (List AV)}(h:elems σ.rw k y=some xs)(V:0<k)(U:∀e∈xs,e.length=k):∃a m c,u=.slice a m c/\m=xs.length/\
  (xs=[]\/∃b o,a=some ⟨b,o,none⟩/\∀(i:Nat) (e:List AV) (j:Nat) (x:AV),xs[i]?=some e->e[j]?=some x->∃v,w.cell? ⟨b,o+(i*k+j),none⟩=some v/\Rep Γ x v/\v.oneCell'=true):=by
 cases s with
 |v _ C=>
   cases u<;>simp only[elems]at h<;>try (cases h;done)
   rename_i a n c;cases a with
   |some a=>simp[qS]at C
   |none=>
     cases n<;>cases c<;>simp[elems,qS]at h C;subst h;exact⟨none,0,0,rfl,rfl,.inl rfl⟩
 |sl D es f a n cap b o us t L K I G N p B s=>
   simp only[elems]at h;split at h<;>cases h;rename_i g;have g:D=k:=of_decide_eq_true g;subst g;refine⟨a,n,cap,rfl,t,?_⟩;obtain p|p:=p
   .exact .inl p
   .refine .inr ⟨b,o,p,λ i e j x d q=>⟨us i j,?_,s i e j x d q,(z.mem _ _ _ (B i e j x d q)).2⟩⟩;rw[<-wN];exact(z.mem _ _ _ (B i e j x d q)).1
 |rs r lo n W f a cap F T L K E=>
   simp only[elems]at h;split at h<;>try cases h
   rename_i R M;simp only[qf9]at h;split at h<;>cases h;rename_i A;let⟨S,Q,P⟩:=A;have H:=z.row r R M;refine⟨a,n,cap,rfl,by simp;omega,?_⟩;by_cases t:n=0
   .left;apply we;simp[t]
   .right;obtain⟨O,-⟩:=E (by rw[<-H.ver (H.liveN P (by omega))];exact Q);refine⟨Γ.cur r,Γ.of r+lo*Γ.k r,O.resolve_left (by omega),λ i e j x d q=>?_⟩;rw[List.getElem?_take]at d;split at d<;>try cases d
    rename_i J;rw[List.getElem?_drop]at d;have l:Γ.of r+lo*Γ.k r+(i*k+j)=Γ.of r+((lo+i)*R.k+j):=by rw[wS,<-S,<-H.k];omega
    rw[l];exact H.cells (lo+i) e j x d q
 |dead u|ptr|rpt|ept|fn|agg|tup|mp=>simp[elems]at h
theorem qsX:∀{es:List (List AV)}{l:List UInt8},qm4 es=some l->∃xs:List Int,es=xs.map (λ n=>[AV.v (.int .u8 n)])/\l=xs.map λ n=>UInt8.ofNat n.toNat
 |[],l,h=>by cases h;exact⟨[],rfl,rfl⟩
 |e::es,l,h=>by
   simp only[qm4]at h;split at h<;>cases h;rename_i b r a c;obtain⟨xs,rfl,rfl⟩:=qsX c;unfold qy3 at a;split at a<;>cases a;rename_i n;exact⟨n::xs,rfl,rfl⟩
theorem qxy{d:Option TD}(h:qle d=true):∃a b c z,d=some ⟨a,b,c,z,.int .u8⟩:=by
 unfold qle at h;split at h
 .exact⟨_,_,_,_,rfl⟩
 .cases h
theorem qf6(b:ByteArray):(JG b).length=b.size:=by show(b.data.toList.map _).length=b.data.size;rw[wx,wK]
theorem qpB{b:ByteArray}{e:List AV}(a:e∈JG b):e.length=1:=by obtain⟨c,_,rfl⟩:=wI.1 a;rfl
theorem qlM{b:ByteArray}{e:List AV}(d:e∈JG b):∀x∈e,qk x=true:=λ x a=>by
 obtain⟨c,_,rfl⟩:=wI.1 d;rw[wF.1 a];rfl
theorem qqL{b:ByteArray}{i j:Nat}{e:List AV}{x:AV}(g:(JG b)[i]?=some e)(d:e[j]?=some x):j=0/\∃c,b.data.toList[i]?=some c/\x=.v (.int .u8 c.toNat):=by
 have a:(b.data.toList.map λ c=>[AV.v (.int .u8 c.toNat)])[i]?=some e:=g;rw[List.getElem?_map]at a;cases f:b.data.toList[i]? with
 |none=>rw[f]at a;cases a
 |some c=>
   rw[f]at a;cases a;cases j with
   |succ j=>cases d
   |zero=>cases d;exact⟨rfl,c,rfl,rfl⟩
theorem qBE(y:Inv Γ σ w){s t e:TypeId}{u:TypeDesc}(b:ByteArray)(p:P.underlying s=some u)(z:P.underlying t=some (.slice e))(f:P.underlying e=some (.int .u8)):
  ∃v w' Γ',(convert s t (.string b)).run P w=.ok v w'/\Ext Γ w Γ' w'/\Inv Γ' {σ with rw:=σ.rw++[⟨1,JG b,0,0,false⟩]} w'/\Rep Γ' (.rs σ.rw.length 0 b.size 0 false) v:=by
 have a:=Lib.run_convert_string_bytes (P:=P) w s t e b p z f;have m:=grownCap_ge w b.size 0 e
 have d:(Lib.bytesCells w e b).size=grownCap w b.size 0 e:=by
  unfold Lib.bytesCells;rw[xp,Array.size_map,Array.size_replicate];show b.size+_=_;omega
 have A:Below w.heap.size w (Lib.bytesWorld w e b):=⟨rfl,rfl,rfl,by rw[Lib.bytesWorld_size];omega,λ k q=>Lib.bytesWorld_at_old w e b k q⟩
 let⟨Γ',D,C,o⟩:=qwn y (xn 0) (c:=JG b) (λ e f=>qpB f) (λ e f=>qlM f) (vs:=Lib.bytesCells w e b) (by rw[qf6,d];omega) (λ i F j x l r=>by
  obtain⟨rfl,c,n,rfl⟩:=qqL l r;refine⟨.int .u8 c.toNat,?_,.v _ rfl,rfl⟩;have g:i<b.data.size:=by have:=getElem?_lt n;rwa [wK]at this
  unfold Lib.bytesCells;rw[vR,wL,Array.getElem?_append_left (by rw[Array.size_map];exact g),Array.getElem?_map,<-Array.getElem?_toList,n];rfl) (e:=e) (cap:=grownCap w b.size 0 e) (by rw[qf6];exact m) (by rw[d];omega) A (Go.GxZ.run_drawn _ a) (wa _) (fr:=((Lib.bytesCells w e b).size,(Lib.bytesCells w e b).size+1)) (λ j E B=>by have:=B.1;omega) (λ h=>absurd rfl h) (Lib.bytesWorld_at_new w e b)
 rw[qf6]at o;exact⟨_,_,Γ',a,D,C,o⟩
theorem qDN(g:∀t d,C.ty t=some d->zJ P t=some d)(J:Inv Γ σ w)(r:∀y,Rep Γ (aev tm y) (ρ y))(s t:TypeId)(y:Operand)(H:o.op=.convert s t y)(h:qc C tm σ o.op=some (x,σ')):jy P Γ σ w o ρ x σ':=by
 rw[H]at h;simp only[qc]at h;split at h<;>try cases h
 .rename_i ds _ _ _ _ k _ n D E L;have M:=qK (L▸r y);let⟨i,u,Q,X,j,W,V,U,T,S,N⟩:=wap (g s _ D);let⟨i',R,z,p1,p,p3,p4,p5,Z,Y,A⟩:=wap (g t _ E);have:=qvK A;subst this;refine .val ?_ J (.v _ rfl);simp[execOp,H,M,convert,underlying,j,p,Conv.intToInt,iw]
 .rename_i ds _ _ _ _ ab D E L;have M:=qK (L▸r y);let⟨i,u,Q,X,j,W,V,U,T,S,N⟩:=wap (g s _ D);let⟨i',R,z,p1,p,p3,p4,p5,Z,Y,A⟩:=wap (g t _ E);have:=qdk A;subst this;refine .val ?_ J (.v _ rfl);simp[execOp,H,M,convert,underlying,j,p]
 .rename_i e _ _ _ b D E L;split at h<;>cases h;rename_i B;have M:=qK (L▸r y);let⟨i,u,Q,X,j,W,V,U,T,S,N⟩:=wap (g s _ D);let⟨i',R,z,p1,p,p3,p4,p5,Z,Y,A⟩:=wap (g t _ E);obtain⟨rfl,_⟩:=Jh A;let⟨a1,a2,a3,a4,K⟩:=qxy B;let⟨i2,u2,O,o1,F,o3,o4,o5,o6,o7,o8⟩:=wap (g _ _ K);have:=qvK o8;subst this;let⟨v,w',Γ',c1,c2,c3,c4⟩:=qBE J b j p F;exact⟨_,_,w',Γ',by simp[execOp,H,M,c1],.inl rfl,c2,c3,c4⟩
 .rename_i e _ _ _ _ _ _ _ _ _ _ D E hn;split at h<;>try cases h
  rename_i es B aa;split at h<;>cases h;rename_i l hl;let⟨i,u,Q,X,j,W,V,U,T,S,N⟩:=wap (g s _ D);let⟨i',R,z,p1,p,p3,p4,p5,Z,Y,A⟩:=wap (g t _ E);have:=qdk A;subst this;obtain⟨rfl,_⟩:=Jh N;let⟨a1,a2,a3,a4,K⟩:=qxy B;let⟨i2,u2,O,o1,F,o3,o4,o5,o6,o7,o8⟩:=wap (g _ _ K);have:=qvK o8;subst this;obtain⟨xs,rfl,rfl⟩:=qsX hl;let⟨a,m,c,hv,hm,f⟩:=qu9 J (r y) aa (xn 0) (λ e K=>by obtain⟨n,_,rfl⟩:=wI.1 K;rfl);have I:xs.length=m:=by rw[hm,wx]
  refine .val (u:=.string (strOfNums xs)) ?_ J (.v _ rfl)
  have G:(convert s t (ρ y)).run P w=.ok (.string (strOfNums xs)) w:=by
   rw[hv];obtain f|⟨b,o',rfl,f⟩:=f
   .have:xs=[]:=by cases xs with|nil=>rfl|cons x l=>cases f
    subst this;subst I;cases a with
    |none=>exact run_convert_bytes_nil (P:=P) (w:=w) s _ j F _ _ t p
    |some a=>simp[convert,underlying,j,F,p,Conv.bytesToString,loadCells,loadCellsFrom];rfl
   .refine run_convert_bytes_arg (P:=P) (w:=w) s _ j F b o' m c xs I (λ q hq=>?_) t p;let⟨v,v1,v2,_⟩:=f q [.v (.int .u8 xs[q])] 0 _ (by rw[List.getElem?_map,List.getElem?_eq_getElem (by omega)];rfl) rfl;rw[vR,wL]at v1;rw[v1,qK v2,List.getD_eq_getElem?_getD,List.getElem?_eq_getElem (by omega)];rfl
  simp[execOp,H,G]
theorem qeh{k:Nat}(B:0<k){xs:List (List AV)}(z:∀e∈xs,e.length=k){b o:Nat}(A:∀(i:Nat) (e:List AV) (j:Nat) (x:AV),xs[i]?=some e->e[j]?=some x->∃v,w.cell? ⟨b,o+(i*k+j),none⟩=some v/\Rep Γ x v/\v.oneCell'=true):
  ∃qe:List Value,qe.length=xs.length*k/\(∀j u,qe[j]?=some u->w.cell? ((⟨b,o,none⟩:Addr).add j)=some u)/\(∀u∈qe,u.oneCell'=true)/\∀(i:Nat) (e:List AV) (j:Nat) (x:AV),xs[i]?=some e->e[j]?=some x->∃u,qe[i*k+j]?=some u/\Rep Γ x u/\u.oneCell'=true:=by
 have g:∀q,q<xs.length*k->∃v,w.cell? ⟨b,o+q,none⟩=some v/\v.oneCell'=true:=by
  intro q d;have h:q/k<xs.length:=(xL B).2 d;have n:q%k<k:=xP _ B;have D:=z _ (wQ h);let⟨v,c,m,y⟩:=A (q/k) _ (q%k) _ (List.getElem?_eq_getElem h) (List.getElem?_eq_getElem (by rw[D];exact n));have:q/k*k+q%k=q:=by rw[xz];exact xX q k
  rw[this]at c;exact⟨v,c,y⟩
 let f:Nat->Value:=λ q=>(w.cell? ⟨b,o+q,none⟩).getD undef
 have t:∀q,q<xs.length*k->w.cell? ⟨b,o+q,none⟩=some (f q):=λ q d=>by
  let⟨v,c,_⟩:=g q d;show _=some ((w.cell? ⟨b,o+q,none⟩).getD undef);rw[c];rfl
 refine⟨(List.range (xs.length*k)).map f,by simp,?_,?_,?_⟩
 .intro j u l;have a:j<xs.length*k:=by have:=getElem?_lt l;simpa using this
  rw[qde,t j a];simpa[a]using l
 .intro u C;obtain⟨q,d,rfl⟩:=wI.1 C;let⟨v,c,m⟩:=g q (kM.1 d);have:=t q (kM.1 d);rw[c]at this;cases this;exact m
 .intro i e j x s l;let⟨v,c,m,y⟩:=A i e j x s l;have r:=getElem?_lt s;have p:=getElem?_lt l;rw[z e (wc s)]at p
  have a:i*k+j<xs.length*k:=by
   calc i*k+j<i*k+k:=by omega
    _=(i+1)*k:=by rw[wS,xl]
    _<=xs.length*k:=wm _ r
  refine⟨v,?_,m,y⟩;have:=t _ a;rw[c]at this;simp[a,this]
theorem qAU{ts:Array TypeId}{t u e ty:TypeId}(f:ts[0]?=some t)(d:ts[1]?=some u)(c:P.underlying t=some (.slice e))(a:(∃b,P.underlying u=some (.slice b))\/P.underlying u=some .string)(s x:Value):
  (Builtin.append_ ts ty #[s,x]).run P w=(Builtin.append_ #[t,u] ty #[s,x]).run P w:=by
 obtain⟨b,a⟩|a:=a<;>cases s<;>simp[Builtin.append_,f,d,run_underlying c,run_underlying a]
theorem grow_any{t u e ty:TypeId}{h:TypeInfo}{r:Value}{k bytes:Nat}(D:P.underlying t=some (.slice e))(G:P.info? e=some h)(C:h.zero=some r)(E:h.size=k)(y:h.bytes=bytes)(s:r.cells.size=k)
  (a:Option Addr) (n cap:Nat) (H:a=none->n=0/\cap=0) (c:List Value) (i:c.length=n*k) (o:∀b,a=some b->∀j u,c[j]?=some u->w.cell? (b.add j)=some u)
  (x:Value) (m:Nat) (qe:List Value) (d:Src P k u x m qe w) (B:cap<n+m) (z:n+m<=maxLen) (l:(n+m)*bytes<=140737488355328):
  ∃g f p w',(Builtin.append_ #[t,u] ty #[.slice a n cap,x]).run P w=.ok (.slice (some ⟨g,0,none⟩) (n+m) f) w'/\Below w.heap.size w w'/\w.heap.size<=g/\w'.heap[g]?=some (.cells p e (0,0))/\n+m<=f/\p.size=f*k/\p.toList.take ((n+m)*k)=c++qe/\w.drawn<=w'.drawn:=by
 subst E;subst y
 have q:(Builtin.firstCells h.size n (.slice a n cap)).run P w.drew=.ok c.toArray w.drew:=by
  cases a with
  |none=>
    obtain⟨rfl,rfl⟩:=H rfl;have:c=[]:=kw.1 (by simpa using i);subst this;exact run_firstCells_none w.drew h.size 0 0 0
  |some b=>exact run_firstCells_some w.drew h.size n b n cap c i (by simpa using o b rfl)
 have A:=run_append_grow_src (P:=P) w t u ty e h r D G C a n cap c q x m qe d B (by simp only[maxLen]at z;omega) (growslice_fits B l);have v:=grownCap_ge w (n+m) cap e;refine⟨_,_,_,_,A,⟨rfl,rfl,rfl,by simp,λ k F=>heap_alloc_old w.drew _ F⟩,wa _,heap_alloc_new w.drew _,v,?_,?_,Go.GxZ.run_drawn _ A⟩
 .simp only[xp,wV,size_zeroCells,wd,i,d.newsLen,s];rw[<-wS,<-wS];congr 1;omega
 .simp only[xa];have:(c++qe).length=(n+m)*h.size:=by rw[wd,i,d.newsLen,wS]
  rw[<-this];exact List.take_left
theorem qut{α:Type}{l r:List α}{n q:Nat}{u:α}(h:l.take n=r)(a:r[q]?=some u):l[q]?=some u:=by
 rw[<-h,List.getElem?_take]at a;split at a
 .exact a
 .cases a
theorem qmg{k:Nat}{c xs:List (List AV)}{a qe:List Value}(g:a.length=c.length*k)(m:∀e∈c,e.length=k)
  (r:∀(i:Nat) (e:List AV) (j:Nat) (x:AV),c[i]?=some e->e[j]?=some x->∃u,a[i*k+j]?=some u/\Rep Γ x u/\u.oneCell'=true)
  (q:∀(i:Nat) (e:List AV) (j:Nat) (x:AV),xs[i]?=some e->e[j]?=some x->∃u,qe[i*k+j]?=some u/\Rep Γ x u/\u.oneCell'=true):
  ∀(i:Nat) (e:List AV) (j:Nat) (x:AV),(c++xs)[i]?=some e->e[j]?=some x->∃u,(a++qe)[i*k+j]?=some u/\Rep Γ x u/\u.oneCell'=true:=by
 intro i e j x o h;obtain⟨l,b⟩|⟨p,b⟩:=qyf o
 .let⟨u,d,f⟩:=r i e j x b h;exact⟨u,by rw[List.getElem?_append_left (getElem?_lt d)];exact d,f⟩
 .let⟨u,d,f⟩:=q _ e j x b h;refine⟨u,?_,f⟩;have n:i*k=c.length*k+(i-c.length)*k:=by rw[<-wS];congr 1;omega
  rw[List.getElem?_append_right (by omega),g,show i*k+j-c.length*k=(i-c.length)*k+j by omega];exact d
theorem qjv(hC:∀t d,C.ty t=some d->zJ P t=some d)(hi:Inv Γ σ w){ts:Array TypeId}{ty t u:TypeId}{sv xv:Value}{s:AV}(hs:Rep Γ s sv)(h0:ts[0]?=some t)(h1:ts[1]?=some u){e k bytes:Nat}{z:List Value}{q1 q2 q3 q4:_}
  (aK:C.ty t=some ⟨q1,q2,q3,q4,.slice e k bytes z⟩) (ai:0<k) (ax:z.length=k) {xs:List (List AV)} (u1:∀e∈xs,e.length=k) (u2:∀e∈xs,∀x∈e,qk x=true)
  {qe:List Value} (m:Src P k u xv xs.length qe w) (n4:∀(i:Nat) (e:List AV) (j:Nat) (x:AV),xs[i]?=some e->e[j]?=some x->∃u,qe[i*k+j]?=some u/\Rep Γ x u/\u.oneCell'=true) (h:zh k bytes σ s xs=some (x,σ')):
  ∃v w' Γ',(Builtin.append_ ts ty #[sv,xv]).run P w=.ok v w'/\Ext Γ w Γ' w'/\Inv Γ' (turn σ σ') w'/\Rep Γ' x v:=by
 obtain⟨ii,ud,zv,p1,p2,p3,p4,p5,p6,p7,p8⟩:=wap (hC t _ aK);obtain⟨rfl,Z,ze,r1,r2,r3,r4,r5⟩:=Jh p8;have an:ze.cells.size=k:=by rw[<-ax,<-r5];simp
 have n1:=m.newsLen;have n3:=m.one;rw[qAU h0 h1 p2 m.kind]
 have K:∀(q:Option Addr) (n cap:Nat),n<=cap->xs=[]->(Builtin.append_ #[t,u] ty #[.slice q n cap,xv]).run P w=.ok (.slice q n cap) w:=by
  intro q n cap aG y;subst y;have aE:qe=[]:=kw.1 (by rw[n1];simp);subst aE;subst r3;exact run_append_nothing w t u ty e Z p2 r1 q n cap aG xv m
 have L:qJ (QU xs) 0=true->xs=[]:=λ h=>kw.1 (of_decide_eq_true h);have J:qJ (QU xs) 0=false->xs≠[]:=λ h y=>by subst y;simp[qJ,QU]at h
 have E:∀(q:Option Addr) (n cap:Nat) (es:List (List AV)),n=es.length->(q=none->n=0/\cap=0)->cap<n+xs.length->xs≠[]->(∀e∈es,e.length=k)->(∀e∈es,∀x∈e,qk x=true)->
   (∀F,q=some F->∃b o,F=⟨b,o,none⟩/\(es=[]\/∀(i:Nat) (e:List AV) (j:Nat) (x:AV),es[i]?=some e->e[j]?=some x->∃v,w.cell? ⟨b,o+(i*k+j),none⟩=some v/\Rep Γ x v/\v.oneCell'=true))\/es=[]->
   ∀R N,rowNew k bytes (qg6 es xs)=some (R,N)->∃v w' Γ',(Builtin.append_ #[t,u] ty #[.slice q n cap,xv]).run P w=.ok v w'/\Ext Γ w Γ' w'/\Inv Γ' {σ with rw:=σ.rw++[R]} w'/\Rep Γ' (.rs σ.rw.length 0 N 0 false) v:=by
  intro q n cap es Y l au aR ak aJ G R N T;simp only[rowNew]at T;split at T<;>cases T;rename_i aA;obtain⟨ae,ap⟩:=aA;simp only[qg6]at ae ap
  have M:∃a:List Value,a.length=n*k/\(∀F,q=some F->∀j u,a[j]?=some u->w.cell? (F.add j)=some u)/\∀(i:Nat) (e:List AV) (j:Nat) (x:AV),es[i]?=some e->e[j]?=some x->∃u,a[i*k+j]?=some u/\Rep Γ x u/\u.oneCell'=true:=by
   have V:es=[]->∃a:List Value,a.length=n*k/\(∀F,q=some F->∀j u,a[j]?=some u->w.cell? (F.add j)=some u)/\∀(i:Nat) (e:List AV) (j:Nat) (x:AV),es[i]?=some e->e[j]?=some x->∃u,a[i*k+j]?=some u/\Rep Γ x u/\u.oneCell'=true:=by
    intro y;subst y;exact⟨[],by simp[Y],λ _ _ j u hj=>by simp at hj,λ i e j x I=>by simp at I⟩
   cases A:q with
   |none=>exact A▸V (kw.1 (by have:=(l A).1;omega))
   |some F=>
     rcases G with G|G
     .obtain⟨b2,aS,rfl,hh⟩:=G F A;rcases hh with hh|hh
      .exact A▸V hh
      .obtain⟨a,m1,m2,m3,m4⟩:=qeh ai ak hh;exact⟨a,by rw[Y];exact m1,λ F hb=>by cases hb;exact m2,m4⟩
     .exact A▸V G
  obtain⟨a,m1,m2,m4⟩:=M;have Q:(es++xs).length=n+xs.length:=by rw[wd,Y]
  obtain⟨g,S,ad,w',f1,f2,f3,f4,f5,f6,f7,f8⟩:=grow_any (P:=P) (w:=w) (ty:=ty) p2 r1 r2 r3 r4 an q n cap l a m1 m2 xv xs.length qe m au (by simp only[maxLen];omega) (by rw[<-Q];exact ae);have aT:ad.toList.length=S*k:=by simpa using f6
  obtain⟨Γ',d1,d2,d3⟩:=qsu hi ai (c:=es++xs) (by
   intro e y;rcases wi.1 y with y|y
   .exact ak e y
   .exact u1 e y) (by
   intro e y;rcases wi.1 y with y|y
   .exact aJ e y
   .exact u2 e y) (vs:=ad) (by rw[Q,f6];exact wm _ f5) (by
   intro i e j x I hj;obtain⟨u,hu,U⟩:=qmg (by rw[m1,Y]) ak m4 n4 i e j x I hj;exact⟨u,by rw[<-Array.getElem?_toList];exact qut f7 hu,U⟩) (e:=e) (cap:=S) (by rw[Q];exact f5) (by rw[f6];exact wa _) f2 f8 f3 f4
  refine⟨_,w',Γ',f1,d1,d2,?_⟩;rw[<-Q];exact d3
 unfold zh at h;split at h
 .have aB:=qK hs;subst aB;split at h
  .rename_i p;cases h;exact⟨_,w,Γ,K none 0 0 (wa _) (L p),.refl _ _,hi,.v _ rfl⟩
  .rename_i p;split at h<;>cases h;rename_i R N T;have D:=J p;have ag:0<xs.length:=xE.2 D;exact E none 0 0 [] rfl (λ _=>⟨rfl,rfl⟩) (by omega) D (λ e y=>by cases y) (λ e y=>by cases y) (.inr rfl) R N (by simpa[qg6]using T)
 .rename_i k1 es f;cases hs with
  |sl _ _ _ q n cap b o us Y hc hf aH aD aO ha hm hr=>
  split at h
  .rename_i p;split at h<;>cases h;rename_i aI;exact⟨_,w,Γ,K q n cap (hc (of_decide_eq_true aI)) (L p),.refl _ _,hi,.sl k1 es f q n cap b o us Y hc hf aH aD aO ha hm hr⟩
  .rename_i p;split at h<;>try cases h
   rename_i X;simp only[wb]at X;obtain⟨⟨aa,W⟩,az⟩:=X;have W:k1=k:=of_decide_eq_true W;subst W;obtain⟨v1,v2⟩:=qva az;split at h<;>cases h;rename_i R N T;have D:=J p;have ag:0<xs.length:=xE.2 D;have aa:=of_decide_eq_true aa;have aU:=hf aa;have hc:=hc (Nat.lt_trans vO aa);by_cases ab:es=[]
   .cases q with
    |none=>exact E none n cap es Y (λ _=>by subst ab;simp at Y;omega) (by omega) D v1 v2 (.inr ab) R N T
    |some F=>exact E (some F) n cap es Y (λ h=>by cases h) (by omega) D v1 v2 (.inr ab) R N T
   .have aM:=ha.resolve_left ab;subst aM;refine E _ n cap es Y (λ h=>by cases h) (by omega) D v1 v2 (.inl λ F hb=>⟨b,o,by cases hb;rfl,.inr λ i e j x h1 h2=>⟨us i j,?_,hr i e j x h1 h2,(hi.mem _ _ _ (hm i e j x h1 h2)).2⟩⟩) R N T;rw[<-wN];exact(hi.mem _ _ _ (hm i e j x h1 h2)).1
 .rename_i r lo n ep f;cases hs with
  |rs _ _ _ _ _ q cap aC hv hc hf ao=>
  split at h
  .rename_i p;cases h;exact⟨_,w,Γ,K q n cap hc (L p),.refl _ _,hi,.rs r lo n ep f q cap aC hv hc hf ao⟩
  .rename_i p;split at h<;>try cases h
   rename_i R T;split at h<;>cases h;rename_i R' N am;have D:=J p;have ag:0<xs.length:=xE.2 D;simp only[qm0]at am;split at am<;>cases am;rename_i aL;obtain⟨c0,c1,c3,c4,c5,ah,c6,c7⟩:=aL;subst c4;have H:=hi.row r R T;obtain⟨g2,g3⟩:=ao (by rw[<-H.ver ah];exact c1);subst c0;subst c1;have O:Γ.of r+cap*R.k<=Γ.sz r:=by rw[H.k];simpa using g3
   by_cases B:n+xs.length<=cap
   .have A:=g2.resolve_left (by omega)
    have hz:Γ.sz r≠0:=by
     intro hz;have:=vQ (show 0<cap by omega) H.pos;omega
    obtain⟨vs,e1,fr,d2,d3,d4,_⟩:=H.blk hz;rw[<-d3]at O;simp only[ko,wL]at A;subst A
    have ar:Γ.of r+n*Z.size+qe.length<=vs.size:=by
     have:=wm R.k B;rw[wS]at this;rw[r3,n1];omega
    have ac:∀j,j<qe.length->(w.cell? ⟨Γ.cur r,Γ.of r+n*Z.size+j,none⟩).isSome=true:=by
     intro j hj;rw[jC d2];have:Γ.of r+n*Z.size+j<vs.size:=by omega
     rw[Array.getElem?_eq_getElem this];rfl
    have aj:∀j,j<qe.length->w.frozen? ⟨Γ.cur r,Γ.of r+n*Z.size+j,none⟩=false:=λ j hj=>qn0 d2 d4 (by omega);have af:=run_append_room_src (P:=P) w t u ty e Z p2 r1 (Γ.cur r) (Γ.of r) n cap xv xs.length qe (by rw[r3];exact m) B ac aj
    have aq:w.setCells (Γ.cur r) (Γ.of r+n*Z.size) qe=w.setRow (Γ.cur r) (vs.toList.take (Γ.of r+n*Z.size)++qe++vs.toList.drop (Γ.of r+n*Z.size+qe.length)).toArray:=by
     rw[qgq qe _ vs w d2 ar,wk]
    rw[aq,r3]at af
    obtain⟨Γ',f1,f2,f3⟩:=qBm hi T ah u1 u2 n1 n4 hz (by rw[<-c3,<-d3];exact wC (vp (wm _ B) _) O)
     (w':=w.setRow (Γ.cur r) (vs.toList.take (Γ.of r+n*R.k)++qe++vs.toList.drop (Γ.of r+n*R.k+qe.length)).toArray) (λ vs' e' aV hv=>by
      rw[d2]at hv;cases hv;rw[<-c3];exact setRow_heap w _ _ _ _ _ d2) (λ k hk=>setRow_other w _ k _ hk) rfl rfl rfl (by simp) (wa _) (r::σ.wrr) (cap:=cap) (by rw[<-c3];exact B) (by rw[<-d3];exact O)
    rw[<-c3]at f3;exact⟨_,_,Γ',af,f1,f2,f3⟩
   .-- no ye
    have M:∃a:List Value,a.length=n*R.k/\(∀F,q=some F->∀j u,a[j]?=some u->w.cell? (F.add j)=some u)/\∀(i:Nat) (e:List AV) (j:Nat) (x:AV),R.c[i]?=some e->e[j]?=some x->∃u,a[i*R.k+j]?=some u/\Rep Γ x u/\u.oneCell'=true:=by
     by_cases al:cap=0
     .have aF:n=0:=by omega
      have av:R.c=[]:=kw.1 (by omega);exact⟨[],by simp[aF],λ _ _ j u hj=>by simp at hj,λ i e j x I=>by rw[av]at I;simp at I⟩
     .have A:=g2.resolve_left al;subst A
      obtain⟨a,q1,q2,q3,q4⟩:=qeh ai (b:=Γ.cur r) (o:=Γ.of r+0*Γ.k r) H.len (λ i e j x h1 h2=>by
       obtain⟨v,hv,ay⟩:=H.cells i e j x h1 h2;exact⟨v,by rw[<-hv];congr 2;omega,ay⟩)
      exact⟨a,by rw[c3];exact q1,λ F hb=>by cases hb;exact q2,q4⟩
    obtain⟨a,q1,q2,q4⟩:=M
    have l:q=none->n=0/\cap=0:=by
     intro ha
     have av:cap=0:=by
      rcases g2 with g2|g2
      .exact g2
      .rw[ha]at g2;cases g2
     omega
    obtain⟨g,S,ad,w',f1,f2,f3,f4,f5,f6,f7,f8⟩:=grow_any (P:=P) (w:=w) (ty:=ty) p2 r1 r2 r3 r4 an q n cap l a q1 q2 xv xs.length qe m (by omega) (by simp only[maxLen];omega) c6
    obtain⟨Γ',aQ,aP,aw⟩:=qCC hi T ah (xs:=xs) u1 u2 (vs:=ad) (e:=e) f2 f8 f3 f4 (by rw[<-c3,f6];exact wm _ f5)
     (by
      intro i e2 j x I hj;obtain⟨u,hu,U,aN⟩:=qmg (by rw[q1,c3]) H.len q4 n4 i e2 j x I hj;exact⟨u,by rw[<-Array.getElem?_toList];exact qut f7 hu,U,aN⟩) (r::σ.wrr) (cap:=S) (by omega) (by rw[f6];exact wa _)
    rw[<-c3]at aw;exact⟨_,w',Γ',f1,aQ,aP,aw⟩
 .cases h
theorem qta(A:∀t d,C.ty t=some d->zJ P t=some d)(q:Inv Γ σ w){ts:Array TypeId}{ty t u:TypeId}{D B:Value}{s y:AV}(F:Rep Γ s D)(hy:Rep Γ y B){e k bytes:Nat}{z:List Value}(I:ts[0]?=some t)(H:ts[1]?=some u){e' k' b':Nat}{K:List Value}{U T S R:_}{Q O N M:_}
  (p:C.ty t=some ⟨U,T,S,R,.slice e k bytes z⟩) (r:C.ty u=some ⟨Q,O,N,M,.slice e' k' b' K⟩) (g:0<k) (l:z.length=k) {xs:List (List AV)} (hx:elems σ.rw k y=some xs) (n:uni k xs=true) (h:zh k bytes σ s xs=some (x,σ')):
  ∃v w' Γ',(Builtin.append_ ts ty #[D,B]).run P w=.ok v w'/\Ext Γ w Γ' w'/\Inv Γ' (turn σ σ') w'/\Rep Γ' x v:=by
 let⟨aa,L,J,o1,E,o3,o4,o5,o6,o7,V⟩:=wap (A u _ r);obtain⟨rfl,_⟩:=Jh V;let⟨u1,u2⟩:=qva n;obtain⟨a,m,c,rfl,rfl,f⟩:=qu9 q hy hx g u1;obtain rfl|⟨b,o,rfl,f⟩:=f
 .have G:∀w':World,(Builtin.firstCells k 0 (.slice a 0 c)).run P w'=.ok #[] w':=λ w'=>by
    cases a with
    |none=>simp[Builtin.firstCells]
    |some a'=>simp[Builtin.firstCells,loadCells,loadCellsFrom]
  exact qjv A q F I H p g l u1 u2 (qe:=[]) ⟨.inl ⟨_,E⟩,λ _=>rfl,G w,G _,by simp,λ _ h=>by cases h⟩ (λ i e j x h=>by simp at h) h
 .let⟨qe,Z,Y,X,W⟩:=qeh g u1 f;exact qjv A q F I H p g l u1 u2 (Src.ofSlice w E _ _ c qe Z Y X) W h
theorem qtO(n:∀t d,C.ty t=some d->zJ P t=some d)(L:Inv Γ σ w){ts:Array TypeId}{ty t u:TypeId}{m:Value}{s:AV}{b:ByteArray}(J:Rep Γ s m){e bytes:Nat}{z:List Value}(O:ts[0]?=some t)(N:ts[1]?=some u){F E D B:_}{A y r q:_}
  (l:C.ty t=some ⟨F,E,D,B,.slice e 1 bytes z⟩) (k:C.ty u=some ⟨A,y,r,q,.string⟩) (a:z.length=1) (h:zh 1 bytes σ s (JG b)=some (x,σ')):
  ∃v w' Γ',(Builtin.append_ ts ty #[m,.string b]).run P w=.ok v w'/\Ext Γ w Γ' w'/\Inv Γ' (turn σ σ') w'/\Rep Γ' x v:=by
 let⟨I,p,o,V,H,U,T,S,R,Q,G⟩:=wap (n u _ k);have:=qdk G;subst this;refine qjv n L J O N l (xn 0) a (λ e g=>qpB g) (λ e g=>qlM g) (qe:=byteCells b) (by rw[qf6];exact Src.ofString w H b) (λ i e j x f K=>?_) h;obtain⟨rfl,c,M,rfl⟩:=qqL f K;refine⟨.int .u8 c.toNat,?_,.v _ rfl,rfl⟩;show(b.data.toList.map λ b=>Value.int .u8 b.toNat)[i*1+0]?=_;rw[vR,wL,List.getElem?_map,M];rfl
end
end Go.AmZ
namespace Go.AmZ
open Go Go.RowKit
theorem qmu:∀cs:List AV,rbL cs=cs.flatMap rb
 |[]=>rfl
 |x::cs=>by simp only[rbL,k8,qmu cs]
theorem qiP:∀cs:List AV,rrL cs=cs.flatMap rr
 |[]=>rfl
 |x::cs=>by simp only[rrL,k8,qiP cs]
theorem qm7(fb fr:Nat->Nat):∀cs:List AV,qD fb fr cs=cs.map (ren fb fr)
 |[]=>rfl
 |x::cs=>by simp only[qD,wz,qm7 fb fr cs]
theorem qdp{fb fr:Nat->Nat}{x:AV}(h:qk x=true):ren fb fr x=x/\rb x=[]/\rr x=[]:=by
 cases x<;>first|exact⟨rfl,rfl,rfl⟩|(simp[qk]at h)
theorem qmf{n m:Nat}{x:AV}:refs n m x=false↔(∀b∈rb x,b<n)/\∀r∈rr x,r<m:=by
 simp[refs]
theorem Rep.bound{Γ:Gh}{x:AV}{u:Value}(h:Rep Γ x u):(∀b∈rb x,b<Γ.nb)/\∀r∈rr x,r<Γ.nr:=by
 have d:∀(cs:List AV) (us:List Value),us.length=cs.length->(∀(i:Nat) (x:AV) (u:Value),cs[i]?=some x->us[i]?=some u->(∀b∈rb x,b<Γ.nb)/\∀r∈rr x,r<Γ.nr)->(∀b∈rbL cs,b<Γ.nb)/\∀r∈rrL cs,r<Γ.nr:=by
  intro cs us j g
  have get:∀x∈cs,(∀b∈rb x,b<Γ.nb)/\∀r∈rr x,r<Γ.nr:=by
   intro x k;let⟨i,m⟩:=List.getElem?_of_mem k;have l:i<us.length:=by rw[j];exact getElem?_lt m
   exact g i x _ m (List.getElem?_eq_getElem l)
  rw[qmu,qiP];refine⟨λ b e=>?_,λ r c=>?_⟩
  .let⟨x,k,e⟩:=wX.1 e;exact(get x k).1 b e
  .let⟨x,k,c⟩:=wX.1 c;exact(get x k).2 r c
 induction h with
 |v|dead|sl|ept=>exact⟨λ b e=>by simp[rb]at e,λ r c=>by simp[rr]at c⟩
 |rs r lo n p f a cap c|rpt r i o p A c=>exact⟨λ b e=>by simp[rb]at e,λ r c=>by simp[rr]at c;subst c;assumption⟩
 |ptr b o h|mp b h=>exact⟨λ b e=>by simp[rb]at e;subst e;exact h,λ r c=>by simp[rr]at c⟩
 |fn f cs us j c g|agg cs us j q c g|tup cs us j c g=>exact d cs us j g
theorem Rep.noRefs{Γ:Gh}{x:AV}{u:Value}(h:Rep Γ x u):refs Γ.nb Γ.nr x=false:=qmf.2 h.bound
theorem qm8{Γ Γ':Gh}{fb fr:Nat->Nat}(P:∀b o u,Γ.mem b o=some u->Γ'.mem b o=some u){x:AV}{u:Value}(h:Rep Γ x u)
  (g:∀b∈rb x,fb b<Γ'.nb/\Γ'.β (fb b)=Γ.β b)
  (d:∀r∈rr x,fr r<Γ'.nr/\Γ'.k (fr r)=Γ.k r/\Γ'.ver (fr r)=Γ.ver r/\Γ'.cur (fr r)=Γ.cur r/\Γ'.sz (fr r)=Γ.sz r/\Γ'.of (fr r)=Γ.of r):Rep Γ' (ren fb fr x) u:=by
 have c:∀(cs:List AV) (us:List Value),us.length=cs.length->(∀b∈rbL cs,fb b<Γ'.nb/\Γ'.β (fb b)=Γ.β b)->
   (∀r∈rrL cs,fr r<Γ'.nr/\Γ'.k (fr r)=Γ.k r/\Γ'.ver (fr r)=Γ.ver r/\Γ'.cur (fr r)=Γ.cur r/\Γ'.sz (fr r)=Γ.sz r/\Γ'.of (fr r)=Γ.of r)->
   (∀(i:Nat) (x:AV) (u:Value),cs[i]?=some x->us[i]?=some u->(∀b∈rb x,fb b<Γ'.nb/\Γ'.β (fb b)=Γ.β b)->(∀r∈rr x,fr r<Γ'.nr/\Γ'.k (fr r)=Γ.k r/\Γ'.ver (fr r)=Γ.ver r/\Γ'.cur (fr r)=Γ.cur r/\Γ'.sz (fr r)=Γ.sz r/\Γ'.of (fr r)=Γ.of r)->Rep Γ' (ren fb fr x) u)->
   RepL Γ' (qD fb fr cs) us:=by
  intro cs us m g d l;rw[qm7];rw[qmu]at g;rw[qiP]at d;refine⟨by simpa using m,λ i y u D S=>?_⟩;rw[List.getElem?_map]at D;cases p:cs[i]? with
  |none=>rw[p]at D;cases D
  |some x=>
    rw[p]at D;cases D;have q:=wc p;exact l i x u p S (λ b h=>g b (wX.2 ⟨x,q,h⟩)) (λ r h=>d r (wX.2 ⟨x,q,h⟩))
 induction h with
 |v _ h=>exact .v _ h
 |dead u=>exact .dead u
 |sl k es f a n cap b o us m K J T E V U w I l=>
   refine .sl k es f a n cap b o us m K J T E V U (λ i e j x C F=>P _ _ _ (w i e j x C F)) λ i e j x C F=>?_;have s:=E e (wc C) x (wc F);let⟨e1,O,N⟩:=qdp (fb:=fb) (fr:=fr) s;have:=l i e j x C F (by rw[O];intro b g;cases g) (by rw[N];intro r d;cases d);rw[e1]at this;exact this
 |rs r lo n W f a cap H G K J p=>
   let⟨B,z,g3,M,Q,L⟩:=d r (by simp[rr]);refine .rs _ _ _ _ _ _ _ B (by rw[g3];exact G) K J λ t=>?_;rw[M,z,Q,L];exact p (g3▸t)
 |ptr b o h=>
   let⟨B,z⟩:=g b (by simp[rb]);rw[<-z];exact .ptr _ _ B
 |rpt r i o W A H G p=>
   let⟨B,z,g3,M,Q,L⟩:=d r (by simp[rr]);refine .rpt _ _ _ _ _ B (by rw[g3];exact G) λ t=>?_;rw[M,z,L];exact p (g3▸t)
 |ept cs o b R us E w I l=>
   refine .ept cs o b R us E (λ j x h=>P _ _ _ (w j x h)) λ j x h=>?_;have s:=E x (wc h);let⟨e1,O,N⟩:=qdp (fb:=fb) (fr:=fr) s;have:=l j x h (by rw[O];intro b g;cases g) (by rw[N];intro r d;cases d);rw[e1]at this;exact this
 |fn f cs us m h l=>
   have:=c cs us m g d l;exact .fn f _ us this.len this.rep
 |agg cs us m C h l=>
   have:=c cs us m g d l;exact .agg _ us this.len C this.rep
 |tup cs us m h l=>
   have:=c cs us m g d l;exact .tup _ us this.len this.rep
 |mp b h=>
   let⟨B,z⟩:=g b (by simp[rb]);rw[<-z];exact .mp _ B
mutual
theorem qvr:∀x:AV,ren (λ b=>b) (λ r=>r) x=x
 |.ptr b o|.mp b=>rfl
 |.mc ..|.rs ..|.rpt .. => rfl
 |.fn f cs|.agg cs|.tup cs=>by simp only[ren,qm3 cs]
 |.v _|.dead=>rfl
 |.sl ..|.ept .. => rfl
theorem qm3:∀cs:List AV,qD (λ b=>b) (λ r=>r) cs=cs
 |[]=>rfl
 |x::cs=>by simp only[qD,qvr x,qm3 cs]
end
mutual
theorem ql1(fb fr:Nat->Nat):∀x:AV,rb x=[]->rr x=[]->ren fb fr x=x
 |.ptr b o,h,_|.mp b,h,_=>by simp[rb]at h
 |.rs ..,_,h|.rpt ..,_,h=>by simp[rr]at h
 |.fn f cs,h,g|.agg cs,h,g|.tup cs,h,g=>by rw[ren,qi4 fb fr cs h g]
 |.v _,_,_|.dead,_,_|.sl ..,_,_|.ept ..,_,_|.mc ..,_,_=>rfl
theorem qi4(fb fr:Nat->Nat):∀cs:List AV,rbL cs=[]->rrL cs=[]->qD fb fr cs=cs
 |[],_,_=>rfl
 |x::cs,h,g=>by
   rw[rbL,kg]at h;rw[rrL,kg]at g;rw[qD,ql1 fb fr x h.1 g.1,qi4 fb fr cs h.2 g.2]
end
theorem Rep.cut{Γ:Gh}{n m:Nat}{x:AV}{u:Value}(h:Rep Γ x u)(a:refs n m x=false):Rep {Γ with nb:=n,nr:=m} x u:=by
 let⟨e,d⟩:=qmf.1 a;have:=qm8 (Γ:=Γ) (Γ':={Γ with nb:=n,nr:=m}) (fb:=λ b=>b) (fr:=λ r=>r) (λ _ _ _ h=>h) h (λ b c=>⟨e b c,rfl⟩) (λ r a=>⟨d r a,rfl,rfl,rfl,rfl,rfl⟩);rw[qvr]at this;exact this
theorem Inv.wr{Γ:Gh}{σ:St}{w:World}(h:Inv Γ σ w){σ':St}(b:σ'.bx=σ.bx)(a:σ'.rw=σ.rw):Inv Γ σ' w:=
 ⟨by rw[b];exact h.nb,by rw[a];exact h.nr,h.mem,by rw[b];exact h.box,h.inj,h.boxmem,by rw[a];exact h.row,h.apart,h.tab⟩
theorem qs8{α:Type}{l:List α}{n i:Nat}{x:α}(h:(l.take n)[i]?=some x):i<n/\l[i]?=some x:=by
 rw[List.getElem?_take]at h;split at h
 .exact⟨‹_›,h⟩
 .cases h
theorem Inv.cut{Γ:Gh}{σ:St}{w:World}(h:Inv Γ σ w){n m:Nat}(l:n<=Γ.nb)(o:m<=Γ.nr)(L:∀i cs,i<n->σ.bx[i]?=some cs->∀x∈cs,Go.AmZ.refs n m x=false)(F v:List Nat):Inv {Γ with nb:=n,nr:=m} ⟨σ.bx.take n,σ.rw.take m,F,v⟩ w where
 tab:=⟨h.tab.1,λ J=>h.tab.2.1 (J.elim (λ⟨i,a,b⟩=>.inl ⟨i,wv a l,b⟩) λ⟨r,a,b,c⟩=>.inr ⟨r,wv a o,b,c⟩),h.tab.2.2⟩
 nb:=by show n=(σ.bx.take n).length;rw[wu,<-h.nb];omega
 nr:=by show m=(σ.rw.take m).length;rw[wu,<-h.nr];omega
 mem:=h.mem
 box:=λ i cs f=>by
  let⟨p,q⟩:=qs8 f;exact(h.box i cs q).to' (λ _ h=>h) λ x u A o=>A.cut (o.elim (L i cs p q x) λ⟨e1,D⟩=>by unfold Go.AmZ.refs;rw[e1,D];rfl)
 inj:=λ i j f t=>h.inj i j (wv f l) (wv t l)
 boxmem:=λ i f=>h.boxmem i (wv f l)
 row:=λ r R B=>by
  let⟨p,g⟩:=qs8 B;let⟨k,y,pos,z,E,U,T,S,Q,P,O,N⟩:=h.row r R g
  have s:∀{x:AV}{u:Value}{e:List AV},e∈R.c->x∈e->Rep Γ x u->Rep {Γ with nb:=n,nr:=m} x u:=λ K A d=>d.cut (by
   let⟨_,D,V⟩:=qdp (fb:=id) (fr:=id) (E _ K _ A);rw[qmf,D,V];exact⟨λ b C=>(kW C).elim,λ b C=>(kW C).elim⟩)
  refine⟨k,y,pos,z,E,U,T,S,Q,λ i e j x f t=>?_,λ H i f=>O H i (wv f l),N⟩;let⟨u,I,d,M⟩:=P i e j x f t;exact⟨u,I,s (wc f) (wc t) d,M⟩
 apart:=λ r G B g=>h.apart r G (wv B o) (wv g o)
structure qv (σ σ':St):Prop where
 bl:σ.bx.length<=σ'.bx.length
 rl:σ.rw.length<=σ'.rw.length
 bx:∀i,i<σ.bx.length->i ∉ σ'.wr->σ'.bx[i]?=σ.bx[i]?
 rw:∀i,i<σ.rw.length->i ∉ σ'.wrr->σ'.rw[i]?=σ.rw[i]?
 wr:∀i,i∈σ.wr->i∈σ'.wr
 wrr:∀i,i∈σ.wrr->i∈σ'.wrr
theorem qv.refl(σ:St):qv σ σ:=⟨wa _,wa _,λ _ _ _=>rfl,λ _ _ _=>rfl,λ _ h=>h,λ _ h=>h⟩
theorem qv.trans{a b c:St}(h:qv a b)(g:qv b c):qv a c:=
 ⟨wC h.bl g.bl,wC h.rl g.rl,λ i d e=>(g.bx i (wv d h.bl) e).trans (h.bx i d λ f=>e (g.wr i f)),λ i d e=>(g.rw i (wv d h.rl) e).trans (h.rw i d λ f=>e (g.wrr i f)),λ i d=>g.wr i (h.wr i d),λ i d=>g.wrr i (h.wrr i d)⟩
theorem qxB:∀(a:List Nat) (rw:List Row),(frz rw a).length=rw.length
 |[],rw=>rfl
 |r::a,rw=>by
   show(frz (rw.modify r qel) a).length=_;rw[qxB a,vw]
theorem qi0:∀(a:List Nat) (rw:List Row) (i:Nat),i ∉ a->(frz rw a)[i]?=rw[i]?
 |[],rw,i,_=>rfl
 |r::a,rw,i,h=>by
   show(frz (rw.modify r qel) a)[i]?=_;rw[qi0 a _ i λ b=>h (wj _ b),List.getElem?_modify];cases d:rw[i]? with
   |none=>rfl
   |some x=>
     show some (if r=i then qel x else x)=some x;rw[if_neg λ c=>h (by rw[c];exact ww ..)]
theorem qxv{Γ:Gh}{σ:St}{w:World}(g:Inv Γ σ w){m:Nat->Nat->Option Value}(d:Le Γ {Γ with mem:=m}){e:Nat}{y:AV}{u:Value}(j:∀r∈rr y,e<=r->∀R,σ.rw[r]?=some R->jo {Γ with mem:=m} r R)(a:Rep Γ y u):Rep {Γ with mem:=m} (qo7 e σ.rw y) u:=by
 cases y with
 |sl k es f=>exact qgX (y:=.sl k es f) g d (λ r a=>by simp[rsC]at a) a
 |rs r lo n o f=>
   simp only[qo7];split
   .rename_i i;refine qgX (y:=.rs r lo n o f) g d (λ h c R l=>?_) a;simp only[rsC,wF]at c;subst c;exact j h (by simp[rr]) (of_decide_eq_true i) R l
   .exact a.mono d
 |_=>exact a.mono d
theorem qvY{Γ:Gh}{σ:St}{w:World}(l:Inv Γ σ w){m:Nat->Nat->Option Value}(k:Le Γ {Γ with mem:=m}){d:Nat}{pub:AV->AV}{cs:List AV}{us:List Value}(g:∀y u,(∀r∈rr y,d<=r->∀R,σ.rw[r]?=some R->jo {Γ with mem:=m} r R)->Rep Γ y u->Rep {Γ with mem:=m} (pub y) u)
  (j:∀r∈rrL cs,d<=r->∀R,σ.rw[r]?=some R->jo {Γ with mem:=m} r R) (e:RepL Γ cs us):RepL {Γ with mem:=m} (cs.map pub) us:=by
 refine⟨by simpa using e.len,λ i x u b f=>?_⟩;rw[List.getElem?_map]at b;cases h:cs[i]? with
 |none=>rw[h]at b;cases b
 |some y=>
   rw[h]at b;cases b;refine g y u (λ r c=>j r ?_) (e.rep i y u h f);rw[qiP];exact wX.2 ⟨y,wc h,c⟩
theorem qxr{Γ:Gh}{σ:St}{w:World}(d:Inv Γ σ w){m:Nat->Nat->Option Value}(c:Le Γ {Γ with mem:=m}){b:Nat}{y:AV}{u:Value}(f:∀r∈rr y,b<=r->∀R,σ.rw[r]?=some R->jo {Γ with mem:=m} r R)(e:Rep Γ y u):Rep {Γ with mem:=m} (qft b σ.rw y) u:=by
 cases y with
 |agg cs=>
   cases e with
   |agg _ us i h g=>
     have:=qvY d c (pub:=qo7 b σ.rw) (λ y u=>qxv d c) (by simpa[rr]using f) ⟨i,g⟩;exact .agg _ us this.len h this.rep
 |_=>exact qxv d c f e
theorem qEp{Γ:Gh}{σ:St}{w:World}(d:Inv Γ σ w){m:Nat->Nat->Option Value}(c:Le Γ {Γ with mem:=m}){b:Nat}{y:AV}{u:Value}(f:∀r∈rr y,b<=r->∀R,σ.rw[r]?=some R->jo {Γ with mem:=m} r R)(e:Rep Γ y u):Rep {Γ with mem:=m} (qeG b σ.rw y) u:=by
 cases y with
 |tup cs=>
   cases e with
   |tup _ us h g=>
     have:=qvY d c (pub:=qft b σ.rw) (λ y u=>qxr d c) (by simpa[rr]using f) ⟨h,g⟩;exact .tup _ us this.len this.rep
 |_=>exact qxr d c f e
theorem filter_nil{p:Nat->Bool}{l:List Nat}(h:l.filter p=[]){i:Nat}(a:p i=true):i ∉ l:=λ b=>by
 have:i∈l.filter p:=kE.2 ⟨b,a⟩;rw[h]at this;cases this
theorem qAc{Γ Γ':Gh}{σ σ':St}{w w':World}{res:AV}{v:Value}(h0:Inv Γ σ w)(hx:Ext Γ w Γ' w')(hi:Inv Γ' σ' w')(hk:qv { σ with wr:=[],wrr:=[] } σ')(hr:Rep Γ' res v) :
  (∃ Γ2,Ext Γ w Γ2 w'/\Inv Γ2 (turn σ (JE σ res σ').2) w'/\Rep Γ2 (JE σ res σ').1 v)/\qv { σ with wr:=[],wrr:=[] } (turn { σ with wr:=[],wrr:=[] } (JE σ res σ').2):=by
 have hwrN:∀ i,i < σ.bx.length->i ∉ (σ'.wr.filter λ b=>decide (b < σ.bx.length))->i ∉ σ'.wr := λ i hi hn hm=>hn (kE.2 ⟨hm,by simpa using hi⟩);have hwrrN:∀ i,i < σ.rw.length->i ∉ (σ'.wrr.filter λ b=>decide (b < σ.rw.length))->i ∉ σ'.wrr := λ i hi hn hm=>hn (kE.2 ⟨hm,by simpa using hi⟩);unfold JE;split
 ·refine⟨⟨Γ',hx,hi.wr rfl rfl,hr⟩,⟨hk.bl,hk.rl,λ i hi hn=>hk.bx i hi (hwrN i hi hn),λ i hi hn=>hk.rw i hi (hwrrN i hi hn),λ i h=>(by cases h),λ i h=>(by cases h)⟩⟩
 ·rename_i hkeep;simp only[qkD,xg]at hkeep;obtain⟨hk1,hk2⟩:=hkeep;obtain⟨m,m1,m2,m3⟩:=QW ((rr res).filter λ r=>decide (σ.rw.length<=r)) hi σ'.wrr;have hpub:Rep { Γ' with mem:=m } (qeG σ.rw.length σ'.rw res) v:=qEp hi m1.le (λ r hr' hge R hR=>m3 r (kE.2 ⟨hr',by simpa using hge⟩) R hR) hr;have hnb : σ.bx.length <= Γ'.nb:=by rw[hi.nb];exact hk.bl
  have hnr : σ.rw.length <= Γ'.nr:=by rw[hi.nr];exact hk.rl
  have hcut:=m2.cut (n := σ.bx.length) (m := σ.rw.length) hnb hnr (by
   intro i cs hlt hcs x hxm;have hcs : σ'.bx[i]?=some cs:=hcs;by_cases hw:i ∈ σ'.wr
   ·have hm:i∈(σ'.wr.filter λ b=>decide (b < σ.bx.length)):=kE.2 ⟨hw,by simpa using hlt⟩;have:=vB.1 hk2 i hm;have hget : σ'.bx.getD i []=cs:=by rw[List.getD_eq_getElem?_getD,hcs];rfl
    rw[hget]at this;have h2:=vB.1 (by simpa using this) x hxm;simpa using h2
   ·rw[hk.bx i hlt hw]at hcs;rcases(h0.box i cs hcs).split with⟨vs,e,g1,g2,g3⟩ | ⟨_,_,_,_,_,rfl,_⟩
    case inr=>rw[wF.1 hxm];rfl
    obtain⟨j,hj⟩:=List.getElem?_of_mem hxm;obtain⟨u,hu,hrep⟩:=g2.get hj;have:=hrep.noRefs;rw[h0.nb,h0.nr]at this;exact this) [] []
  have htake:(frz σ'.rw ((rr res).filter λ r=>decide (σ.rw.length<=r))).take σ.rw.length = σ'.rw.take σ.rw.length:=by
   apply k9;intro i;rw[List.getElem?_take,List.getElem?_take];split
   ·rename_i hlt;refine qi0 _ _ _ λ hm=>?_;have:=(kE.1 hm).2;simp at this;omega
   ·rfl
  have hcut':Inv { ({ Γ' with mem:=m }:Gh)with nb := σ.bx.length,nr := σ.rw.length } ⟨σ'.bx.take σ.bx.length,σ'.rw.take σ.rw.length,[],[]⟩ w':=by
   rw[<- htake];exact hcut
  have hrep2:=hpub.cut hk1
  have hext:Ext Γ w { ({ Γ' with mem:=m }:Gh)with nb := σ.bx.length,nr := σ.rw.length } w':=by
   have e1:=hx.trans (qgk m1 w');refine⟨⟨e1.le.mem,by rw[h0.nb];exact wa _,e1.le.β,by rw[h0.nr];exact wa _,e1.le.k,e1.le.ver,e1.le.loc⟩,e1.os,e1.tape,e1.output,e1.size,e1.block,?_,e1.memg,e1.drawn⟩;rintro b (⟨i,hi',hb⟩ | ⟨r,hr',hz,hb⟩)
   ·exact e1.own b (.inl ⟨i,wv hi' hnb,hb⟩)
   ·exact e1.own b (.inr ⟨r,wv hr' hnr,hz,hb⟩)
  split
  ·rename_i hnil;have hn1:(σ'.wr.filter λ b=>decide (b < σ.bx.length))=[]:=(kg.1 hnil).1;have hn2:(σ'.wrr.filter λ b=>decide (b < σ.rw.length))=[]:=(kg.1 hnil).2
   have hb : σ'.bx.take σ.bx.length = σ.bx:=by
    apply k9;intro i;rw[List.getElem?_take];split
    ·rename_i hlt;exact hk.bx i hlt (filter_nil hn1 (by simpa using hlt))
    ·rename_i hlt;rw[List.getElem?_eq_none (by omega)]
   have hrw : σ'.rw.take σ.rw.length = σ.rw:=by
    apply k9;intro i;rw[List.getElem?_take];split
    ·rename_i hlt;exact hk.rw i hlt (filter_nil hn2 (by simpa using hlt))
    ·rename_i hlt;rw[List.getElem?_eq_none (by omega)]
   refine⟨⟨_,hext,?_,hrep2⟩,qv.refl _⟩;exact hcut'.wr hb.symm hrw.symm
  ·refine⟨⟨_,hext,hcut'.wr rfl rfl,hrep2⟩,⟨?_,?_,λ i hi hn=>?_,λ i hi hn=>?_,λ i h=>(by cases h),λ i h=>(by cases h)⟩⟩
   ·show σ.bx.length<=(σ'.bx.take σ.bx.length).length;have:=hk.bl;have : σ.bx.length <= σ'.bx.length:=this;rw[wu];omega
   ·show σ.rw.length<=(σ'.rw.take σ.rw.length).length;have : σ.rw.length <= σ'.rw.length:=hk.rl;rw[wu];omega
   ·show(σ'.bx.take σ.bx.length)[i]? = σ.bx[i]?;rw[List.getElem?_take,if_pos hi];exact hk.bx i hi (hwrN i hi hn)
   ·show(σ'.rw.take σ.rw.length)[i]? = σ.rw[i]?;rw[List.getElem?_take,if_pos hi];exact hk.rw i hi (hwrrN i hi hn)
end Go.AmZ
namespace Go.AmZ
open Go Go.RowKit
theorem qou:∀{l:List Nat},nd l=true->l.Nodup
 |[],_=>kN
 |b::l,h=>by
   simp only[nd,wb,wJ,vm]at h;exact kO.2 ⟨by simpa using h.1,qou h.2⟩
theorem qoL{l:List Nat}{b:Nat}(h:b∈l):l.getD (l.idxOf b) 0=b:=by
 have:=vx h;rw[List.getD_eq_getElem?_getD,List.getElem?_eq_getElem this];simp
theorem qrd{l:List Nat}{b:Nat}(h:b∈l):l.idxOf b<l.length:=vx h
theorem qnn{l:List Nat}(a:l.Nodup){j b:Nat}(h:l[j]?=some b):l.idxOf b=j:=by
 let⟨c,d⟩:=List.getElem?_eq_some_iff.1 h;subst d;exact List.Nodup.idxOf_getElem a j c
theorem qsR{l:List Nat}(a:l.Nodup){i j:Nat}(c:i<l.length)(b:j<l.length)(h:l[i]=l[j]):i=j:=by
 rw[<-qnn a (List.getElem?_eq_getElem c),<-qnn a (List.getElem?_eq_getElem b),h]
def fi(l:List Nat)(n i:Nat):Option Nat:=if i<n then(if i∈l then some (l.idxOf i)else none)else some (l.length+(i-n))
theorem qat{l:List Nat}{n i:Nat}(h:fi l n i=none):i<n/\i ∉ l:=by
 unfold fi at h;split at h
 .split at h
  .cases h
  .exact⟨‹_›,‹_›⟩
 .cases h
theorem qaf{l:List Nat}{n i j:Nat}(h:fi l n i=some j)(b:i<n):i∈l/\j=l.idxOf i/\j<l.length/\l.getD j 0=i:=by
 unfold fi at h;rw[if_pos b]at h;split at h<;>cases h;rename_i a;exact⟨a,rfl,qrd a,qoL a⟩
theorem qAm{l:List Nat}{n i d j:Nat}(h:fi l n i=some j)(b:fi l n d=some j):i=d:=by
 by_cases c:i<n<;>by_cases a:d<n
 .rw[<-(qaf h c).2.2.2,<-(qaf b a).2.2.2]
 .have:=(qaf h c).2.2.1;unfold fi at b;rw[if_neg a]at b;cases b;omega
 .have:=(qaf b a).2.2.1;unfold fi at h;rw[if_neg c]at h;cases h;omega
 .unfold fi at h b;rw[if_neg c]at h;rw[if_neg a]at b;cases h;simp at b;omega
theorem qxz{l:List Nat}(d:l.Nodup){n:Nat}(e:∀b∈l,b<n)(j:Nat):fi l n (qW l n j)=some j:=by
 unfold qW;split
 .rename_i b a;have c:=wc a;unfold fi;rw[if_pos (e b c),if_pos c,qnn d a]
 .rename_i a;have:=List.getElem?_eq_none_iff.1 a;unfold fi;rw[if_neg (by omega)];congr 1;omega
theorem qxS{l:List Nat}{n e j:Nat}(c:∀b∈l,b<n)(d:j<l.length+e):qW l n j<n+e:=by
 unfold qW;split
 .rename_i b a;have:=c b (wc a);omega
 .rename_i a;have:=List.getElem?_eq_none_iff.1 a;omega
theorem qjY{l:List Nat}{n b:Nat}(h:b∈l):qW l n (l.idxOf b)=b:=by
 unfold qW;have:=qrd h;rw[List.getElem?_eq_getElem this];simp
theorem qcb{α:Type}:∀(bs:List Nat) (l xs:List α),bs.length<=xs.length->(qY l bs xs).length=l.length+(xs.length-bs.length)
 |[],l,xs,_=>by simp[qY]
 |b::bs,l,[],h=>by simp at h
 |b::bs,l,x::xs,h=>by
   simp only[qY];rw[qcb bs _ xs (by simpa using h),wE];simp
theorem QQ{α:Type}:∀(bs:List Nat) (l xs:List α) (i:Nat),bs.length<=xs.length->bs.Nodup->(∀b∈bs,b<l.length)->(qY l bs xs)[i]?=match fi bs l.length i with
  |some j=>xs[j]?
  |none=>l[i]?
 |[],l,xs,i,_,_,_=>by
   simp only[qY,fi];rw[List.getElem?_append];split<;>simp_all
 |b::bs,l,[],i,h,_,_=>by simp at h
 |b::bs,l,x::xs,i,h,n,m=>by
   simp only[qY];let⟨g,f⟩:=kO.1 n;rw[QQ bs (l.set b x) xs i (by simpa using h) f (λ p o=>by rw[wE];exact m p (wj _ o)),wE];have k:=m b (ww ..);unfold fi;by_cases d:i<l.length
   .rw[if_pos d,if_pos d];by_cases a:i=b
    .subst a;rw[if_neg g,if_pos (ww ..)];simp[k]
    .by_cases c:i∈bs
     .rw[if_pos c,if_pos (wj _ c)];simp only;rw[List.idxOf_cons,show(b==i)=false by simpa using λ e=>a e.symm];rfl
     .rw[if_neg c,if_neg (by simp[a,c])];simp only;rw[List.getElem?_set,if_neg λ e=>a e.symm]
   .rw[if_neg d,if_neg d];simp only[wB];rw[show bs.length+1+(i-l.length)=(bs.length+(i-l.length))+1 by omega];rfl
def Qs(Γ:Gh)(bs rs:List Nat):Gh:=
 {mem:=Γ.mem,nb:=bs.length,β:=λ i=>Γ.β (bs.getD i 0),nr:=rs.length,ver:=λ r=>Γ.ver (rs.getD r 0),k:=λ r=>Γ.k (rs.getD r 0),cur:=λ r=>Γ.cur (rs.getD r 0),sz:=λ r=>Γ.sz (rs.getD r 0),of:=λ r=>Γ.of (rs.getD r 0)}
structure qb3 (σ:St) (bs rs:List Nat):Prop where
 bn:bs.Nodup
 rn:rs.Nodup
 bl:∀b∈bs,b<σ.bx.length
 rl:∀r∈rs,r<σ.rw.length
 cb:∀b∈bs,∀x∈σ.bx.getD b [],(∀b∈rb x,b∈bs)/\∀r∈rr x,r∈rs
theorem zg{α:Type}{l:List α}{i:Nat}{x d:α}(h:l[i]?=some x):l.getD i d=x:=by rw[List.getD_eq_getElem?_getD,h];rfl
section
variable {Γ:Gh}{σ:St}{w:World}{bs rs:List Nat}
theorem qni(d:qb3 σ bs rs){x:AV}{u:Value}(h:Rep Γ x u)(c:∀b∈rb x,b∈bs)(a:∀r∈rr x,r∈rs):Rep (Qs Γ bs rs) (ren (λ b=>bs.idxOf b) (λ r=>rs.idxOf r) x) u:=
 qm8 (Γ:=Γ) (Γ':=Qs Γ bs rs) (λ _ _ _ h=>h) h (λ b h=>⟨qrd (c b h),by show Γ.β _=_;rw[qoL (c b h)]⟩) λ r h=>by
  have e:=qoL (a r h);refine⟨qrd (a r h),?_,?_,?_,?_,?_⟩
  .show Γ.k _=_;rw[e]
  .show Γ.ver _=_;rw[e]
  .show Γ.cur _=_;rw[e]
  .show Γ.sz _=_;rw[e]
  .show Γ.of _=_;rw[e]
theorem qhr{b:Nat}(f:qb3 σ bs rs)(g:Inv Γ σ w)(h:jf (Qs Γ bs rs) b):jf Γ b:=by
 obtain⟨i,a,e⟩|⟨r,c,j,e⟩:=h
 .have a:i<bs.length:=a;have d:bs.getD i 0∈bs:=by rw[zg (List.getElem?_eq_getElem a)];exact wQ a
  exact .inl ⟨_,by rw[g.nb];exact f.bl _ d,e⟩
 .have c:r<rs.length:=c;have d:rs.getD r 0∈rs:=by rw[zg (List.getElem?_eq_getElem c)];exact wQ c
  exact .inr ⟨_,by rw[g.nr];exact f.rl _ d,j,e⟩
theorem qx2(g:qb3 σ bs rs)(l:Inv Γ σ w):Inv (Qs Γ bs rs) (qr σ bs rs) w where
 tab:=⟨l.tab.1,λ O=>l.tab.2.1 (qhr g l O),l.tab.2.2⟩
 nb:=by simp[Qs,qr]
 nr:=by simp[Qs,qr]
 mem:=l.mem
 box:=λ i cs S=>by
  have f:(bs.map λ b=>qD (λ b=>bs.idxOf b) (λ r=>rs.idxOf r) (σ.bx.getD b []))[i]?=some cs:=S;rw[List.getElem?_map]at f;cases m:bs[i]? with
  |none=>rw[m]at f;cases f
  |some b=>
    rw[m]at f;simp only[kr,wn]at f;have F:=wc m;have G:=g.bl b F;have t:σ.bx[b]?=some (σ.bx.getD b []):=by rw[zg (List.getElem?_eq_getElem G)];exact List.getElem?_eq_getElem G
    rw[<-f,qm7];refine(l.box b _ t).to _ (λ o O=>by show w.heap[Γ.β (bs.getD i 0)]?=_;rw[zg m];exact O) (λ x u I y=>?_) λ x=>ql1 _ _ x;obtain y|⟨e1,A⟩:=y
    .exact qni g I (g.cb b F x y).1 (g.cb b F x y).2
    .exact qni g I (by rw[e1];exact λ _ h=>absurd h kW) (by rw[A];exact λ _ h=>absurd h kW)
 inj:=λ i j a z h=>by
  have a:i<bs.length:=a;have z:j<bs.length:=z;have h:Γ.β (bs.getD i 0)=Γ.β (bs.getD j 0):=h;have e1:=zg (d:=0) (List.getElem?_eq_getElem a);have A:=zg (d:=0) (List.getElem?_eq_getElem z);rw[e1,A]at h;have:=l.inj _ _ (by rw[l.nb];exact g.bl _ (wQ a)) (by rw[l.nb];exact g.bl _ (wQ z)) h;exact qsR g.bn a z this
 boxmem:=λ i a o=>by
  have a:i<bs.length:=a;have e1:=zg (d:=0) (List.getElem?_eq_getElem a);show Γ.mem (Γ.β (bs.getD i 0)) o=none;rw[e1];exact l.boxmem _ (by rw[l.nb];exact g.bl _ (wQ a)) o
 row:=λ r R X=>by
  have n:(rs.map λ r=>σ.rw.getD r ⟨0,[],0,0,false⟩)[r]?=some R:=X;rw[List.getElem?_map]at n;cases m:rs[r]? with
  |none=>rw[m]at n;cases n
  |some q=>
    rw[m]at n;simp only[kr,wn]at n;have F:=wc m;have D:=g.rl q F;have t:σ.rw[q]?=some R:=by rw[<-n,zg (List.getElem?_eq_getElem D)];exact List.getElem?_eq_getElem D
    have E:rs.getD r 0=q:=zg m;let⟨k,L,pos,N,T,fz,g2,g4,g5,g6,g8,Z⟩:=l.row q R t
    have H:∀{x:AV}{u:Value}{e:List AV},e∈R.c->x∈e->Rep Γ x u->Rep (Qs Γ bs rs) x u:=λ Q I p=>by
     let⟨e1,A,e3⟩:=qdp (fb:=λ b=>bs.idxOf b) (fr:=λ r=>rs.idxOf r) (T _ Q _ I);have:=qni g p (by rw[A];exact λ b m=>(kW m).elim) (by rw[e3];exact λ b m=>(kW m).elim);rw[e1]at this;exact this
    have K:(Qs Γ bs rs).cur r=Γ.cur q:=by show Γ.cur _=_;rw[E]
    have es:(Qs Γ bs rs).sz r=Γ.sz q:=by show Γ.sz _=_;rw[E]
    have J:(Qs Γ bs rs).of r=Γ.of q:=by show Γ.of _=_;rw[E]
    refine⟨by rw[k];show _=Γ.k _;rw[E],λ V=>by rw[L V];show _=Γ.ver _;rw[E],pos,N,T,fz,by rw[K,es];exact g2,by rw[es,J];exact g4,by rw[K,es,J];exact g5,λ i e j x a z=>?_,λ B i a=>?_,λ W=>J.trans (Z W)⟩
    .let⟨u,U,p,Y⟩:=g6 i e j x a z;exact⟨u,by rw[K,J];exact U,H (wc a) (wc z) p,Y⟩
    .have a:i<bs.length:=a;have e1:=zg (d:=0) (List.getElem?_eq_getElem a);rw[es]at B;rw[K];show Γ.β (bs.getD i 0)≠_;rw[e1];exact g8 B _ (by rw[l.nb];exact g.bl _ (wQ a))
 apart:=λ r M C s P B v=>by
  have C:r<rs.length:=C;have s:M<rs.length:=s;have e1:=zg (d:=0) (List.getElem?_eq_getElem C);have A:=zg (d:=0) (List.getElem?_eq_getElem s);have B:Γ.sz (rs.getD r 0)≠0:=B;have v:Γ.sz (rs.getD M 0)≠0:=v;show Γ.cur (rs.getD r 0)≠Γ.cur (rs.getD M 0);rw[e1]at B;rw[A]at v;rw[e1,A];refine l.apart _ _ (by rw[l.nr];exact g.rl _ (wQ C)) (by rw[l.nr];exact g.rl _ (wQ s)) (λ Q=>P (qsR g.rn C s Q)) B v
def jA(Γ Γs:Gh)(bs rs:List Nat):Gh:=
 {mem:=Γs.mem,nb:=Γ.nb+(Γs.nb-bs.length),β:=λ i=>match fi bs Γ.nb i with|some j=>Γs.β j|none=>Γ.β i,
   nr:=Γ.nr+(Γs.nr-rs.length),ver:=λ r=>match fi rs Γ.nr r with|some j=>Γs.ver j|none=>Γ.ver r,sz:=λ r=>match fi rs Γ.nr r with|some j=>Γs.sz j|none=>Γ.sz r,
   k:=λ r=>match fi rs Γ.nr r with|some j=>Γs.k j|none=>Γ.k r,cur:=λ r=>match fi rs Γ.nr r with|some j=>Γs.cur j|none=>Γ.cur r,
   of:=λ r=>match fi rs Γ.nr r with|some j=>Γs.of j|none=>Γ.of r}
variable {Γs:Gh}{σs:St}{w':World}
theorem qub{l:List Nat}{n e i j:Nat}(h:fi l n i=some j)(b:i<n+e):j<l.length+e:=by
 by_cases a:i<n
 .have:=(qaf h a).2.2.1;omega
 .unfold fi at h;rw[if_neg a]at h;cases h;omega
theorem qkB(c:qb3 σ bs rs)(d:Inv Γ σ w)(g:Ext (Qs Γ bs rs) w Γs w'){x:AV}{u:Value}(h:Rep Γs x u):Rep (jA Γ Γs bs rs) (ren (qW bs Γ.nb) (qW rs Γ.nr) x) u:=by
 have m:bs.length<=Γs.nb:=g.le.nb;have l:rs.length<=Γs.nr:=g.le.nr;refine qm8 (Γ:=Γs) (Γ':=jA Γ Γs bs rs) (λ _ _ _ h=>h) h (λ b a=>?_) λ r i=>?_
 .have f:=h.bound.1 b a;refine⟨qxS (λ b a=>by rw[d.nb];exact c.bl b a) (by omega),?_⟩;show(match fi bs Γ.nb (qW bs Γ.nb b)with|some j=>Γs.β j|none=>Γ.β _)=_;rw[qxz c.bn (λ b a=>by rw[d.nb];exact c.bl b a)]
 .have f:=h.bound.2 r i;have e:=qxz c.rn (n:=Γ.nr) (λ b a=>by rw[d.nr];exact c.rl b a) r;refine⟨qxS (λ b a=>by rw[d.nr];exact c.rl b a) (by omega),?_,?_,?_,?_,?_⟩
  .show(match fi rs Γ.nr _ with|some j=>Γs.k j|none=>Γ.k _)=_;rw[e]
  .show(match fi rs Γ.nr _ with|some j=>Γs.ver j|none=>Γ.ver _)=_;rw[e]
  .show(match fi rs Γ.nr _ with|some j=>Γs.cur j|none=>Γ.cur _)=_;rw[e]
  .show(match fi rs Γ.nr _ with|some j=>Γs.sz j|none=>Γ.sz _)=_;rw[e]
  .show(match fi rs Γ.nr _ with|some j=>Γs.of j|none=>Γ.of _)=_;rw[e]
theorem qxC(n:qb3 σ bs rs)(o:Inv Γ σ w)(d:Ext (Qs Γ bs rs) w Γs w'):Le Γ (jA Γ Γs bs rs):=by
 have f:∀i,i<Γ.nb->(jA Γ Γs bs rs).β i=Γ.β i:=by
  intro i g;show(match fi bs Γ.nb i with|some j=>Γs.β j|none=>Γ.β i)=_;cases h:fi bs Γ.nb i with
  |none=>rfl
  |some j=>
    let⟨m,l,c,b⟩:=qaf h g;have:=d.le.β j c;simp only;rw[this];show Γ.β (bs.getD j 0)=_;rw[b]
 refine⟨d.le.mem,w7 _ _,f,w7 _ _,λ r e=>?_,λ r e=>?_,λ r e a=>?_⟩
 .show(match fi rs Γ.nr r with|some j=>Γs.k j|none=>Γ.k r)=_;cases h:fi rs Γ.nr r with
  |none=>rfl
  |some j=>
    let⟨m,l,c,b⟩:=qaf h e;have:=d.le.k j c;simp only;rw[this];show Γ.k (rs.getD j 0)=_;rw[b]
 .show _<=(match fi rs Γ.nr r with|some j=>Γs.ver j|none=>Γ.ver r);cases h:fi rs Γ.nr r with
  |none=>exact wa _
  |some j=>
    let⟨m,l,c,b⟩:=qaf h e;have:Γ.ver (rs.getD j 0)<=Γs.ver j:=d.le.ver j c;rw[b]at this;exact this
 .have a:(match fi rs Γ.nr r with|some j=>Γs.ver j|none=>Γ.ver r)=Γ.ver r:=a;show(match fi rs Γ.nr r with|some j=>Γs.cur j|none=>Γ.cur r)=_/\(match fi rs Γ.nr r with|some j=>Γs.sz j|none=>Γ.sz r)=_/\(match fi rs Γ.nr r with|some j=>Γs.of j|none=>Γ.of r)=_;cases h:fi rs Γ.nr r with
  |none=>exact⟨rfl,rfl,rfl⟩
  |some j=>
    rw[h]at a;let⟨m,l,c,b⟩:=qaf h e;have:=d.le.loc j c (by show _=Γ.ver (rs.getD j 0);rw[b];exact a);have:Γs.cur j=Γ.cur (rs.getD j 0)/\Γs.sz j=Γ.sz (rs.getD j 0)/\Γs.of j=Γ.of (rs.getD j 0):=this;rw[b]at this;exact this
theorem qg9(m:qb3 σ bs rs)(g:Inv Γ σ w){i:Nat}(h:fi bs Γ.nb i=none):¬ jf (Qs Γ bs rs) (Γ.β i)/\Γ.β i<w.heap.size:=by
 let⟨b,l⟩:=qat h;refine⟨?_,g.box_lt b⟩;rintro(⟨j,c,a⟩|⟨r,f,e,a⟩)
 .have c:j<bs.length:=c;have e1:=zg (d:=0) (List.getElem?_eq_getElem c);have a:Γ.β (bs.getD j 0)=Γ.β i:=a;rw[e1]at a;have:=g.inj _ _ (by rw[g.nb];exact m.bl _ (wQ c)) b a;exact l (this▸wQ c)
 .have f:r<rs.length:=f;have e1:=zg (d:=0) (List.getElem?_eq_getElem f);have a:Γ.cur (rs.getD r 0)=Γ.β i:=a;rw[e1]at a;have k:=m.rl _ (wQ f);have e:Γ.sz (rs.getD r 0)≠0:=e;rw[e1]at e;exact(g.row _ _ (List.getElem?_eq_getElem k)).nbx e i b a.symm
theorem qon(n:qb3 σ bs rs)(f:Inv Γ σ w){r:Nat}(h:fi rs Γ.nr r=none)(k:Γ.sz r≠0):¬ jf (Qs Γ bs rs) (Γ.cur r)/\Γ.cur r<w.heap.size:=by
 let⟨c,m⟩:=qat h;have l:r<σ.rw.length:=by rw[<-f.nr];exact c
 refine⟨?_,f.cur_lt c k⟩;have o:=(f.row _ _ (List.getElem?_eq_getElem l)).nbx k;rintro(⟨j,i,b⟩|⟨q,g,a,b⟩)
 .have i:j<bs.length:=i;have e1:=zg (d:=0) (List.getElem?_eq_getElem i);have b:Γ.β (bs.getD j 0)=Γ.cur r:=b;rw[e1]at b;exact o _ (by rw[f.nb];exact n.bl _ (wQ i)) b
 .have g:q<rs.length:=g;have e1:=zg (d:=0) (List.getElem?_eq_getElem g);have b:Γ.cur (rs.getD q 0)=Γ.cur r:=b;rw[e1]at b;have a:Γ.sz (rs.getD q 0)≠0:=a;rw[e1]at a;refine f.apart _ _ (by rw[f.nr];exact n.rl _ (wQ g)) c (λ e=>m (e▸wQ g)) a k b
theorem qez(c:Ext (Qs Γ bs rs) w Γs w'){b a:Nat}(f:jf Γs b)(e:¬ jf (Qs Γ bs rs) a/\a<w.heap.size):b≠a:=λ d=>by
 obtain h|h:=c.own b f
 .exact e.1 (d▸h)
 .omega
theorem qoD(g:qb3 σ bs rs)(k:Inv Γ σ w)(c:Ext (Qs Γ bs rs) w Γs w'):Ext Γ w (jA Γ Γs bs rs) w':=by
 have q:bs.length<=Γs.nb:=c.le.nb;have p:rs.length<=Γs.nr:=c.le.nr;refine⟨qxC g k c,c.os,c.tape,c.output,c.size,λ b m s=>c.block b m λ h=>s (qhr g k h),?_,λ b o u t=>?_,c.drawn⟩
 .have f:∀b,jf Γs b->jf Γ b\/w.heap.size<=b:=λ b m=>(c.own b m).imp_left (qhr g k);rintro b (⟨i,l,a⟩|⟨r,n,d,a⟩)
  .have a:(match fi bs Γ.nb i with|some j=>Γs.β j|none=>Γ.β i)=b:=a;cases h:fi bs Γ.nb i with
   |some j=>
     rw[h]at a;have:=qub (e:=Γs.nb-bs.length) h l;exact f b (.inl ⟨j,by omega,a⟩)
   |none=>rw[h]at a;exact .inl (.inl ⟨i,(qat h).1,a⟩)
  .have a:(match fi rs Γ.nr r with|some j=>Γs.cur j|none=>Γ.cur r)=b:=a;have d:(match fi rs Γ.nr r with|some j=>Γs.sz j|none=>Γ.sz r)≠0:=d;cases h:fi rs Γ.nr r with
   |some j=>
     rw[h]at a d;have:=qub (e:=Γs.nr-rs.length) h n;exact f b (.inr ⟨j,by omega,d,a⟩)
   |none=>rw[h]at a d;exact .inl (.inr ⟨r,(qat h).1,d,a⟩)
 .obtain h|h|h:=c.memg b o u t
  .exact .inl h
  .exact .inr (.inl (qhr g k h))
  .exact .inr (.inr h)
theorem quM(q:qb3 σ bs rs)(g:Inv Γ σ w)(p:Ext (Qs Γ bs rs) w Γs w')(v:Inv Γs σs w'):Inv (jA Γ Γs bs rs) (qdv σ bs rs σs) w':=by
 have ag:bs.length<=Γs.nb:=p.le.nb;have af:rs.length<=Γs.nr:=p.le.nr;have U:bs.length<=(σs.bx.map (qD (qW bs σ.bx.length) (qW rs σ.rw.length))).length:=by rw[wx,<-v.nb];exact ag
 have O:rs.length<=σs.rw.length:=by rw[<-v.nr];exact af
 have X:=qxC q g p;have E:∀j,j<Γs.nb->jf Γs (Γs.β j):=λ j v=>.inl ⟨j,v,rfl⟩;have D:∀j,j<Γs.nr->Γs.sz j≠0->jf Γs (Γs.cur j):=λ j v F=>.inr ⟨j,v,F,rfl⟩
 have t:∀i j,i<(jA Γ Γs bs rs).nb->fi bs Γ.nb i=some j->j<Γs.nb:=λ i j l h=>by
  have:=qub (e:=Γs.nb-bs.length) h l;omega
 have C:∀i j,i<(jA Γ Γs bs rs).nr->fi rs Γ.nr i=some j->j<Γs.nr:=λ i j l h=>by
  have:=qub (e:=Γs.nr-rs.length) h l;omega
 have s:∀i j,fi bs Γ.nb i=some j->(jA Γ Γs bs rs).β i=Γs.β j:=λ i j h=>by
  show(match fi bs Γ.nb i with|some j=>Γs.β j|none=>Γ.β i)=_;rw[h]
 have y:∀i,fi bs Γ.nb i=none->(jA Γ Γs bs rs).β i=Γ.β i:=λ i h=>by
  show(match fi bs Γ.nb i with|some j=>Γs.β j|none=>Γ.β i)=_;rw[h]
 have cs':∀i j,fi rs Γ.nr i=some j->(jA Γ Γs bs rs).cur i=Γs.cur j:=λ i j h=>by
  show(match fi rs Γ.nr i with|some j=>Γs.cur j|none=>Γ.cur i)=_;rw[h]
 have S:∀i,fi rs Γ.nr i=none->(jA Γ Γs bs rs).cur i=Γ.cur i:=λ i h=>by
  show(match fi rs Γ.nr i with|some j=>Γs.cur j|none=>Γ.cur i)=_;rw[h]
 have B:∀b,(¬ jf (Qs Γ bs rs) b/\b<w.heap.size)->w'.heap[b]?=w.heap[b]?:=λ b N=>p.block b N.2 N.1
 have A:∀b o,(¬ jf (Qs Γ bs rs) b/\b<w.heap.size)->Γ.mem b o=none->Γs.mem b o=none:=λ b o N hm=>by
  cases h:Γs.mem b o with
  |none=>rfl
  |some u=>
    obtain n|n|n:=p.memg b o u h
    .have n:Γ.mem b o=some u:=n;rw[hm]at n;cases n
    .exact absurd n N.1
    .omega
 refine⟨?_,?_,v.mem,?_,?_,?_,?_,?_,(qoD q g p).tab g.tab⟩
 .show Γ.nb+(Γs.nb-bs.length)=(qY _ _ _).length;rw[qcb _ _ _ U,wx,g.nb,v.nb]
 .show Γ.nr+(Γs.nr-rs.length)=(qY _ _ _).length;rw[qcb _ _ _ O,g.nr,v.nr]
 .intro i cs d;have d:(qY σ.bx bs (σs.bx.map (qD (qW bs σ.bx.length) (qW rs σ.rw.length))))[i]?=some cs:=d;rw[QQ _ _ _ _ U q.bn q.bl,<-g.nb,<-g.nr]at d;cases h:fi bs Γ.nb i with
  |some j=>
    rw[h]at d;simp only at d;rw[List.getElem?_map]at d;cases N:σs.bx[j]? with
    |none=>rw[N]at d;cases d
    |some ai=>
      rw[N]at d;simp only[kr,wn]at d;rw[<-d,qm7];exact(v.box j ai N).to _ (λ o ho=>by rw[s i j h];exact ho) (λ x u P _=>qkB q g p P) λ x=>ql1 _ _ x
  |none=>
    rw[h]at d;simp only at d;exact(g.box i cs d).to' (λ o ho=>by rw[y i h,B _ (qg9 q g h)];exact ho) λ x u p _=>p.mono X
 .intro i I n Z m;cases h:fi bs Γ.nb i with
  |some j=>
    rw[s i j h]at m;cases a:fi bs Γ.nb I with
    |some f=>
      rw[s I f a]at m;have:=v.inj j f (t i j n h) (t I f Z a) m;subst this;exact qAm h a
    |none=>
      rw[y I a]at m;exact absurd m (qez p (E j (t i j n h)) (qg9 q g a))
  |none=>
    rw[y i h]at m;cases a:fi bs Γ.nb I with
    |some f=>
      rw[s I f a]at m;exact absurd m.symm (qez p (E f (t I f Z a)) (qg9 q g h))
    |none=>
      rw[y I a]at m;exact g.inj i I (qat h).1 (qat a).1 m
 .intro i n o;cases h:fi bs Γ.nb i with
  |some j=>rw[s i j h];exact v.boxmem j (t i j n h) o
  |none=>rw[y i h];exact A _ o (qg9 q g h) (g.boxmem i (qat h).1 o)
 .intro r R H;have H:(qY σ.rw rs σs.rw)[r]?=some R:=H
  have ad:r<(jA Γ Γs bs rs).nr:=by
   have:=getElem?_lt H;rw[qcb _ _ _ O,<-g.nr,<-v.nr]at this;exact this
  rw[QQ _ _ _ _ O q.rn q.rl,<-g.nr]at H;cases h:fi rs Γ.nr r with
  |some j=>
    rw[h]at H;simp only at H;let⟨k,ab,pos,ac,pl,fz,g2,g4,g5,g6,g8,g9⟩:=v.row j R H
    have aa:∀{x:AV}{u:Value}{e:List AV},e∈R.c->x∈e->Rep Γs x u->Rep (jA Γ Γs bs rs) x u:=λ m P G=>by
     let⟨e1,e2,e3⟩:=qdp (fb:=qW bs Γ.nb) (fr:=qW rs Γ.nr) (pl _ m _ P);have:=qkB q g p G;rw[e1]at this;exact this
    have ek:(jA Γ Γs bs rs).k r=Γs.k j:=by show(match fi rs Γ.nr r with|some j=>Γs.k j|none=>Γ.k r)=_;rw[h]
    have ah:(jA Γ Γs bs rs).ver r=Γs.ver j:=by show(match fi rs Γ.nr r with|some j=>Γs.ver j|none=>Γ.ver r)=_;rw[h]
    have J:(jA Γ Γs bs rs).sz r=Γs.sz j:=by show(match fi rs Γ.nr r with|some j=>Γs.sz j|none=>Γ.sz r)=_;rw[h]
    have K:(jA Γ Γs bs rs).of r=Γs.of j:=by show(match fi rs Γ.nr r with|some j=>Γs.of j|none=>Γ.of r)=_;rw[h]
    have L:=cs' r j h;refine⟨k.trans ek.symm,λ hl=>(ab hl).trans ah.symm,pos,ac,pl,fz,by rw[L,J];exact g2,by rw[J,K];exact g4,by rw[L,J,K];exact g5,λ i e f x l Y=>?_,λ F i l=>?_,λ hf=>K.trans (g9 hf)⟩
    .let⟨u,hu,G,n⟩:=g6 i e f x l Y;exact⟨u,by rw[L,K];exact hu,aa (wc l) (wc Y) G,n⟩
    .rw[J]at F;rw[L];cases a:fi bs Γ.nb i with
     |some f=>rw[s i f a];exact g8 F f (t i f l a)
     |none=>
       rw[y i a];intro m;exact qez p (D j (C r j ad h) F) (qg9 q g a) m.symm
  |none=>
    rw[h]at H;simp only at H;have Q:=qon q g h;have V:=(qat h).1;refine(g.row r R H).lift V X ?_ (λ F ob ae=>?_) (λ F off hm=>?_) λ F i l hn=>?_
    .show(match fi rs Γ.nr r with|some j=>Γs.ver j|none=>Γ.ver r)=_;rw[h]
    .rw[B _ (Q F)];exact ae
    .exact A _ off (Q F) hm
    .cases a:fi bs Γ.nb i with
     |some f=>
       rw[s i f a];exact qez p (E f (t i f l a)) (Q F)
     |none=>
       have:=(qat a).1;omega
 .intro r z n Z W T M
  have zs:∀i j,fi rs Γ.nr i=some j->(jA Γ Γs bs rs).sz i=Γs.sz j:=λ i j h=>by
   show(match fi rs Γ.nr i with|some j=>Γs.sz j|none=>Γ.sz i)=_;rw[h]
  have zn:∀i,fi rs Γ.nr i=none->(jA Γ Γs bs rs).sz i=Γ.sz i:=λ i h=>by
   show(match fi rs Γ.nr i with|some j=>Γs.sz j|none=>Γ.sz i)=_;rw[h]
  cases h:fi rs Γ.nr r with
  |some j=>
    rw[zs r j h]at T;rw[cs' r j h];cases a:fi rs Γ.nr z with
    |some f=>
      rw[zs z f a]at M;rw[cs' z f a];refine v.apart j f (C r j n h) (C z f Z a) (λ m=>?_) T M;subst m;exact W (qAm h a)
    |none=>
      rw[zn z a]at M;rw[S z a];exact qez p (D j (C r j n h) T) (qon q g a M)
  |none=>
    rw[zn r h]at T;rw[S r h];cases a:fi rs Γ.nr z with
    |some f=>
      rw[zs z f a]at M;rw[cs' z f a];exact λ m=>qez p (D f (C z f Z a) M) (qon q g h T) m.symm
    |none=>
      rw[zn z a]at M;rw[S z a];exact g.apart r z (qat h).1 (qat a).1 W T M
mutual
theorem qDM{fb fr e d:Nat->Nat}:∀x:AV,(∀b∈rb x,e (fb b)=b)->(∀r∈rr x,d (fr r)=r)->ren e d (ren fb fr x)=x
 |.ptr b o,c,_|.mp b,c,_=>by simp only[ren,c b (by simp[rb])]
 |.mc ..,_,_=>rfl
 |.rs r lo n g f,_,a|.rpt r i o g,_,a=>by simp only[ren,a r (by simp[rr])]
 |.fn f cs,c,a|.agg cs,c,a|.tup cs,c,a=>by simp only[ren,qe8 cs (by simpa[rb]using c) (by simpa[rr]using a)]
 |.v _,_,_|.dead,_,_|.sl ..,_,_|.ept ..,_,_=>rfl
theorem qe8{fb fr e d:Nat->Nat}:∀cs:List AV,(∀b∈rbL cs,e (fb b)=b)->(∀r∈rrL cs,d (fr r)=r)->qD e d (qD fb fr cs)=cs
 |[],_,_=>rfl
 |x::cs,c,a=>by
   simp only[qD,qDM x (λ b h=>c b (by simp[rbL,h])) (λ r h=>a r (by simp[rrL,h])),qe8 cs (λ b h=>c b (by simp[rbL,h])) (λ r h=>a r (by simp[rrL,h]))]
end
theorem qww(d:qb3 σ bs rs):(qdv σ bs rs (qr σ bs rs)).bx=σ.bx/\(qdv σ bs rs (qr σ bs rs)).rw=σ.rw:=by
 constructor
 .apply k9;intro i;show(qY σ.bx bs ((qr σ bs rs).bx.map _))[i]?=_;rw[QQ _ _ _ _ (by simp[qr]) d.bn d.bl];cases h:fi bs σ.bx.length i with
  |none=>rfl
  |some j=>
    simp only;by_cases a:i<σ.bx.length
    .let⟨n,o,f,e⟩:=qaf h a
     have m:bs[j]?=some i:=by
      rw[List.getElem?_eq_getElem f];rw[zg (List.getElem?_eq_getElem f)]at e;rw[e]
     simp only[qr,xc,List.getElem?_map,m,kr,Function.comp];rw[List.getElem?_eq_getElem a,zg (List.getElem?_eq_getElem a)];congr 1;have l:=d.cb i n;rw[zg (List.getElem?_eq_getElem a)]at l;refine qe8 _ (λ b c=>?_) λ r g=>?_
     .rw[qmu]at c;let⟨x,k,c⟩:=wX.1 c;exact qjY ((l x k).1 b c)
     .rw[qiP]at g;let⟨x,k,g⟩:=wX.1 g;exact qjY ((l x k).2 r g)
    .unfold fi at h;rw[if_neg a]at h;cases h;rw[List.getElem?_eq_none (by simp[qr]),List.getElem?_eq_none (by omega)]
 .apply k9;intro i;show(qY σ.rw rs (qr σ bs rs).rw)[i]?=_;rw[QQ _ _ _ _ (by simp[qr]) d.rn d.rl];cases h:fi rs σ.rw.length i with
  |none=>rfl
  |some j=>
    simp only;by_cases a:i<σ.rw.length
    .let⟨n,o,f,e⟩:=qaf h a
     have m:rs[j]?=some i:=by
      rw[List.getElem?_eq_getElem f];rw[zg (List.getElem?_eq_getElem f)]at e;rw[e]
     simp only[qr,List.getElem?_map,m,kr];rw[List.getElem?_eq_getElem a,zg (List.getElem?_eq_getElem a)]
    .unfold fi at h;rw[if_neg a]at h;cases h;rw[List.getElem?_eq_none (by simp[qr]),List.getElem?_eq_none (by omega)]
theorem qyp(a:qb3 σ bs rs)(g:qv (qr σ bs rs) σs):qv σ (qdv σ bs rs σs):=by
 have f:(qr σ bs rs).bx.length=bs.length:=by simp[qr]
 have e:(qr σ bs rs).rw.length=rs.length:=by simp[qr]
 have d:bs.length<=(σs.bx.map (qD (qW bs σ.bx.length) (qW rs σ.rw.length))).length:=by rw[wx,<-f];exact g.bl
 have c:rs.length<=σs.rw.length:=by rw[<-e];exact g.rl
 let⟨e1,r⟩:=qww a;refine⟨?_,?_,λ i m k=>?_,λ i m k=>?_,λ i h=>xM _ h,λ i h=>xM _ h⟩
 .show _<=(qY _ _ _).length;rw[qcb _ _ _ d];omega
 .show _<=(qY _ _ _).length;rw[qcb _ _ _ c];omega
 .have b:i ∉ σs.wr.map (qW bs σ.bx.length):=λ h=>k (xS _ h);rw[<-e1];show(qY _ _ _)[i]?=(qY _ _ _)[i]?;rw[QQ _ _ _ _ d a.bn a.bl,QQ _ _ _ _ (by simp[qr]) a.bn a.bl];cases h:fi bs σ.bx.length i with
  |none=>rfl
  |some j=>
    simp only[List.getElem?_map];let⟨p,o,n,q⟩:=qaf h m;rw[g.bx j (by rw[f];exact n) λ l=>b (wI.2 ⟨j,l,by rw[o];exact qjY p⟩)]
 .have b:i ∉ σs.wrr.map (qW rs σ.rw.length):=λ h=>k (xS _ h);rw[<-r];show(qY _ _ _)[i]?=(qY _ _ _)[i]?;rw[QQ _ _ _ _ c a.rn a.rl,QQ _ _ _ _ (by simp[qr]) a.rn a.rl];cases h:fi rs σ.rw.length i with
  |none=>rfl
  |some j=>
    simp only;let⟨p,o,n,q⟩:=qaf h m;rw[g.rw j (by rw[e];exact n) λ l=>b (wI.2 ⟨j,l,by rw[o];exact qjY p⟩)]
theorem qAs{a:List AV}(h:qcY σ a=true):qb3 σ (yR σ a) (JB σ a)/\(∀b∈rbL a,b∈yR σ a)/\∀r∈rrL a,r∈JB σ a:=by
 simp only[qcY,wb,wo,decide_eq_true_eq,vm]at h;let⟨⟨⟨⟨⟨m,l⟩,k⟩,j⟩,e⟩,i⟩:=h;refine⟨⟨qou m,qou l,λ b c=>(e b c).1.1,i,λ b c x f=>⟨λ n d=>?_,λ r g=>?_⟩⟩,k,j⟩
 .refine(e b c).1.2 n ?_;rw[qmu];exact wX.2 ⟨x,f,d⟩
 .refine(e b c).2 r ?_;rw[qiP];exact wX.2 ⟨x,f,g⟩
end
end Go.AmZ
namespace Go.AmZ
open Go Go.RowKit
theorem qv5{P:Program}{u:TypeDesc}{c:List KC}{d b:Bool}{f:Nat}{a:List Value}(h:Jl P u=some (.map c d b f a)):∃k e i z,u=.map k e/\qfs P k=some (c,d)/\P.info? e=some i/\i.zero=some z/\qFU z=b/\z.cells.toList=a:=by
 cases u with
 |map k e=>
   have h:qpL P k e=_:=h;unfold qpL at h;grind
 |_=>simp[Jl]at h<;>(repeat' (first|(cases h;done)|split at h))
def Qd:AV->Value
 |.v x=>x
 |_=>.nilIface
def jO(a:Bool)(k:List AV):Value:=match a with
 |true=>.agg (k.map Qd).toArray
 |false=>match k with
   |[x]=>Qd x
   |_=>.nilIface
def KOk(a:List KC)(b:Bool)(k:List AV):Prop:=zo a k=true/\(b=false->∃c,a=[c])
theorem qbr{c:KC}{a:List KC}{k:List AV}(h:zo (c::a) k=true):∃x r,k=x::r/\zo [c] [x]=true/\zo a r=true:=by
 cases k with
 |nil=>cases c<;>cases h
 |cons x r=>
   refine⟨x,r,rfl,?_⟩;unfold zo at h;split at h<;>rename_i e1 b<;>first|(cases e1;done)|skip
   all_goals first|(cases e1;cases b;first|(rw[wb]at h;exact⟨by simp[zo];simpa using h.1,h.2⟩)|exact⟨rfl,h⟩)|cases h
theorem qFj{c:KC}{x:AV}(h:zo [c] [x]=true):x=.v (Qd x):=by
 cases c<;>cases x<;>first|rfl|cases h
theorem qpn:∀(b:List KC) (k:List AV),zo b k=true->∀x∈k,x=.v (Qd x)
 |[],[],_,x,a=>by cases a
 |[],_::_,h,_,_=>by cases h
 |c::b,k,h,x,a=>by
   obtain⟨y,r,rfl,e,d⟩:=qbr h;obtain rfl|a:=wM.1 a
   .exact qFj e
   .exact qpn b r d x a
theorem qcj{c:KC}{k:List AV}(h:zo [c] k=true):∃x,k=[.v x]:=by
 obtain⟨x,r,rfl,b,a⟩:=qbr h;cases r with
 |nil=>exact⟨_,by rw[<-qFj b]⟩
 |cons y r=>cases a
theorem qrJ{Γ:Gh}{f:List KC}{a:Bool}{k:List AV}{u:Value}(d:KOk f a k)(h:Rep Γ (jp a k) u):u=jO a k:=by
 cases a with
 |true=>
   have h:Rep Γ (.agg k) u:=h;cases h with
   |agg _ us m n g=>
     show Value.agg us.toArray=.agg (k.map Qd).toArray;congr 2;apply k9;intro i;rw[List.getElem?_map];by_cases j:i<k.length
     .have b:=List.getElem?_eq_getElem j;have e:=List.getElem?_eq_getElem (l:=us) (i:=i) (by omega);rw[b,e];have:=g i _ _ b e;rw[qpn _ _ d.1 _ (wc b)]at this;exact congrArg some (qK this)
     .grind
 |false=>
   obtain⟨c,rfl⟩:=d.2 rfl;obtain⟨x,rfl⟩:=qcj d.1;have h:Rep Γ (.v x) u:=h;cases h;rfl
section
variable {P:Program} (w:World)
theorem qnd{t:TypeId}{c:KC}(h:kc1 P t=some c):P.underlying t=some (match c with|.str=>.string|.int k=>.int k|.bool=>.bool):=by
 unfold kc1 at h;grind
theorem qgr{t:TypeId}{a:List KC}(h:qfs P t=some (a,false)):∃c,a=[c]/\kc1 P t=some c:=by
 grind [qfs]
theorem qn4{t:TypeId}{a:List KC}(h:qfs P t=some (a,true)):∃b,P.underlying t=some (.struct b)/\P.stoodInHeld t=false/\kcs P b.toList 0=some a:=by
 grind [qfs]
theorem qrG{t:TypeId}{a:List KC}{b:Bool}{k:List AV}(h:qfs P t=some (a,b))(d:zo a k=true):KOk a b k:=⟨d,λ e=>by subst e;let⟨c,h1,_⟩:=qgr h;exact⟨c,h1⟩⟩
theorem qx6{t:TypeId}{c:KC}(h:kc1 P t=some c){x y:AV}(f:zo [c] [x]=true)(d:zo [c] [y]=true)(n:Nat):(Op.equalIn (n+1) t (Qd x) (Qd y)).run P w=.ok (qbA x y) w/\Instr.sameNow ((P.underlying t).getD .bool) (Qd x) (Qd y)=some (qbA x y)/\(qbA x y=true->x=y):=by
 have g:=qnd h;let⟨a,j⟩:=qcj f;let⟨b,i⟩:=qcj d;cases j;cases i;cases c with
 |str=>
   cases a<;>simp[zo]at f;cases b<;>simp[zo]at d;rename_i a b;refine⟨?_,?_,λ e=>?_⟩
   .show(Op.equalIn (n+1) t (.string a) (.string b)).run P w=_;rw[run_equalIn_string w n t a b g,toList_eq,toList_eq];rfl
   .rw[g];show some (a==b)=some (xeq a b);rw[beq_toListBytes,toList_eq,toList_eq];rfl
   .have:a.data.toList=b.data.toList:=by simpa[qbA,xeq]using e
    let⟨⟨a⟩⟩:=a;let⟨⟨b⟩⟩:=b;cases this;rfl
 |int k=>
   cases a with
   |int l a=>?_
   |_=>cases f
   cases b with
   |int kb b=>?_
   |_=>cases d
   simp[zo]at f d;subst f;subst d;refine⟨run_equalIn_int w n t _ _ a b g,?_,λ e=>?_⟩
   .rw[g];simp[Instr.sameNow,Qd,qbA,ieq]
   .have:a=b:=by simpa[qbA,ieq]using e
    rw[this]
 |bool=>
   cases a<;>simp[zo]at f;cases b<;>simp[zo]at d;rename_i a b;refine⟨run_equalIn_bool w n t a b g,?_,λ e=>?_⟩
   .rw[g];rfl
   .have:a=b:=by simpa[qbA,jP]using e
    rw[this]
theorem qpz{t:TypeId}{c:KC}(h:kc1 P t=some c){x:AV}(b:zo [c] [x]=true)(f:Bool)(n:Nat):(Instr.checkKey f (n+1) t (Qd x)).run P w=.ok () w:=by
 have d:=qnd h;let⟨a,e⟩:=qcj b;cases e;unfold Instr.checkKey;cases c<;>cases a<;>simp[zo]at b<;>simp[run_underlying d,Result.andThen,Qd]
theorem qto{c:KC}{x:AV}(b:zo [c] [x]=true)(n:Nat):Instr.sameBits n (Qd x) (Qd x)=true:=by
 let⟨a,d⟩:=qcj b;cases d;cases c<;>cases a<;>simp[zo]at b<;>simp[Instr.sameBits,Qd,MapKept.bytes_beq]
theorem qmL{t:TypeId}{c:KC}(h:kc1 P t=some c){cs:Array Value}{o:Nat}{v:Value}(a:cs[o]?=some v):(part t cs o).run P w=.ok v w:=by
 have b:=qnd h;have:(isAgg t).run P w=.ok false w:=by cases c<;>simp[isAgg,underlying,b]
 simp[part,this,a]
theorem qti:∀(k:List Field) (o:Nat) (d:List KC) (a b:List AV) (xs ys:Array Value) (n:Nat),kcs P k o=some d->zo d a=true->zo d b=true->(∀j x,a[j]?=some x->xs[o+j]?=some (Qd x))->(∀j x,b[j]?=some x->ys[o+j]?=some (Qd x))->
  (Op.eqFields (n+1) xs ys k).run P w=.ok (yn a b) w/\(yn a b=true->a=b)
 |[],o,d,a,b,xs,ys,n,h,s,r,_,_=>by
   cases h;cases a<;>cases b<;>first|exact⟨rfl,λ _=>rfl⟩|(cases s;done)|(cases r;done)
 |f::k,o,d,a,b,xs,ys,n,h,s,r,i,g=>by
   simp only[kcs]at h;split at h<;>cases h;rename_i c l D t C;let⟨B,A⟩:=of_decide_eq_true D;obtain⟨x,K,rfl,J,I⟩:=qbr s;obtain⟨y,H,rfl,G,F⟩:=qbr r;have p:=qmL w t (i 0 x rfl);have m:=qmL w t (g 0 y rfl);let⟨e1,_,E⟩:=qx6 w t J G n;let⟨z,v⟩:=qti k (o+1) l K H xs ys n C I F (λ j x q=>by rw[vb];exact i (j+1) x q) (λ j x q=>by rw[vb];exact g (j+1) x q);rw[wL]at p m;rw[<-B]at p m;refine⟨?_,λ e=>?_⟩
   .rw[Op.eqFields,if_pos A];simp only[Sem.run_bind,p,m,e1,Result.andThen_ok,Sem.run_ite];cases u:qbA x y with
    |true=>simp only[wab,xk,if_false,z,yn,u,kJ]
    |false=>simp only[xx,if_true,Sem.run_pure,yn,u,xh]
   .simp only[yn,wb]at e;rw[E e.1,v e.2]
theorem qlG:∀(g:List Field) (o:Nat) (e:List KC) (a:List AV) (xs:Array Value) (d:Bool) (n:Nat),kcs P g o=some e->zo e a=true->(∀j x,a[j]?=some x->xs[o+j]?=some (Qd x))->
  (forIn (m:=Sem) g PUnit.unit λ f _=>do
   if f.name≠"_" then Instr.checkKey d (n+1) f.type (<-part f.type xs f.offset)
   pure (ForInStep.yield PUnit.unit)).run P w=.ok PUnit.unit w
 |[],o,e,a,xs,d,n,h,i,_=>rfl
 |f::g,o,e,a,xs,d,n,h,i,b=>by
   simp only[kcs]at h;split at h<;>cases h;rename_i c l t k s;let⟨r,z⟩:=of_decide_eq_true t;obtain⟨x,y,rfl,v,u⟩:=qbr i;have p:=qmL w k (b 0 x rfl);rw[wL,<-r]at p;have e1:=qpz w k v d n;have:=qlG g (o+1) l y xs d n s u λ j x q=>by rw[vb];exact b (j+1) x q
   simp_all
theorem qhT{t:TypeId}{a:List KC}{b:Bool}{k:List AV}(h:qfs P t=some (a,b))(d:zo a k=true)(f:Bool)(n:Nat):(Instr.checkKey f (n+2) t (jO b k)).run P w=.ok () w:=by
 cases b with
 |false=>
   obtain⟨c,rfl,e⟩:=qgr h;obtain⟨x,rfl⟩:=qcj d;exact qpz w e d f (n+1)
 |true=>
   let⟨l,e,m,i⟩:=qn4 h;have:=qlG w l.toList 0 a k (k.map Qd).toArray f n i d λ j x g=>by simp[g]
   unfold Instr.checkKey;simp only[Sem.run_bind,run_underlying e,Result.andThen_ok,jO];simp_all
theorem qDc{t:TypeId}{a:List KC}{b:Bool}{k:List AV}(h:qfs P t=some (a,b))(d:zo a k=true):(Instr.keyThatStays (jO b k) (jO b k)).run P w=.ok (jO b k) w:=by
 have all:∀(a:List KC) (k:List AV) (n:Nat),zo a k=true->((k.map Qd).zip (k.map Qd)).all (λ p=>Instr.sameBits n p.1 p.2)=true:=by
  intro a
  induction a with
  |nil=>intro k n d;cases k<;>first|rfl|cases d
  |cons c a e=>
    intro k n d;obtain⟨x,r,rfl,i,g⟩:=qbr d;simp only[wz,List.zip_cons_cons,ke,qto i,kJ];exact e r n g
 have f:Instr.sameBits 10000 (jO b k) (jO b k)=true:=by
  cases b with
  |false=>
    obtain⟨c,rfl,j⟩:=qgr h;obtain⟨x,rfl⟩:=qcj d;exact qto d _
  |true=>
    show((k.map Qd).toArray.size==(k.map Qd).toArray.size&&((k.map Qd).zip (k.map Qd)).all λ p=>Instr.sameBits 9999 p.1 p.2)=true;rw[all a k 9999 d];simp
 simp[Instr.keyThatStays,f]
theorem qxj{t:TypeId}{m:List KC}{d:Bool}{k:List AV}(h:qfs P t=some (m,d))(o:zo m k=true):∀(ks:List (List AV)) (es:List MapEntry) (i:Nat),es.length=ks.length->(∀(j:Nat) (g:List AV) (e:MapEntry),ks[j]?=some g->es[j]?=some e->e.key=jO d g/\zo m g=true)->
  (Qx k ks i=none/\(if d then(Instr.findAsking t (jO d k) es i).run P w=.ok none w else Instr.findNow ((P.underlying t).getD .bool) (jO d k) es i=some none))\/
  ∃j e,Qx k ks i=some (i+j)/\es[j]?=some e/\e.key=jO d k/\(if d then(Instr.findAsking t (jO d k) es i).run P w=.ok (some (i+j,e.val)) w else Instr.findNow ((P.underlying t).getD .bool) (jO d k) es i=some (some (i+j,e.val)))
 |[],es,i,l,_=>by
   have:es=[]:=we l;subst this;refine .inl ⟨rfl,?_⟩;cases d<;>rfl
 |g::ks,[],i,l,_=>by simp at l
 |g::ks,e::es,i,l,A=>by
   let⟨D,v⟩:=A 0 g e rfl rfl;have J:=qxj h o ks es (i+1) (by simpa using l) λ j s z a b=>A (j+1) s z a b
   have f:(if d then(Op.equal t (jO d k) e.key).run P w=.ok (yn k g) w else Instr.sameNow ((P.underlying t).getD .bool) (jO d k) e.key=some (yn k g))/\(yn k g=true->k=g):=by
    rw[D];cases d with
    |false=>
      obtain⟨c,rfl,q⟩:=qgr h;obtain⟨x,rfl⟩:=qcj o;obtain⟨y,rfl⟩:=qcj v;let⟨_,e1,N⟩:=qx6 w q o v 0;refine⟨?_,λ C=>?_⟩
      .simp only[xk,if_false];rw[yn,yn,kY];exact e1
      .rw[yn,yn,kY]at C;rw[N C]
    |true=>
      let⟨E,q,L,K⟩:=qn4 h;have B:P.fieldsOf t=E:=by unfold Program.fieldsOf;rw[q]
      let⟨I,H⟩:=qti w E.toList 0 m k g (k.map Qd).toArray (g.map Qd).toArray 9998 K o v (λ j x u=>by simp[u]) (λ j x u=>by simp[u]);refine⟨?_,H⟩;simp only[if_true];show(Op.equalIn (9999+1) t (.agg _) (.agg _)).run P w=_;rw[run_equalIn_struct w 9999 t _ _ (by rw[B];exact q) L,B];exact I
   cases p:yn k g with
   |true=>
     rw[p]at f;refine .inr ⟨0,e,by simp[Qx,p],rfl,by rw[D,f.2 rfl],?_⟩;cases d with
     |false=>have:=f.1;simp only[xk,if_false]at this |-;simp[Instr.findNow,this]
     |true=>have:=f.1;simp only[if_true]at this |-;simp[Instr.findAsking,this]
   |false=>
     rw[p]at f;have M:Qx k (g::ks) i=Qx k ks (i+1):=by simp[Qx,p]
     have Q:∀r,(if d then(Instr.findAsking t (jO d k) es (i+1)).run P w=.ok r w else Instr.findNow ((P.underlying t).getD .bool) (jO d k) es (i+1)=some r)->(if d then(Instr.findAsking t (jO d k) (e::es) i).run P w=.ok r w else Instr.findNow ((P.underlying t).getD .bool) (jO d k) (e::es) i=some r):=by
      intro r n;cases d with
      |false=>have:=f.1;simp only[xk,if_false]at this n |-;simp[Instr.findNow,this,n]
      |true=>have:=f.1;simp only[if_true]at this n |-;simp[Instr.findAsking,this,n]
     obtain⟨G,F⟩|⟨j,z,G,F,O,R⟩:=J
     .grind
     .refine .inr ⟨j+1,z,by rw[M,G];congr 1;omega,F,O,?_⟩;grind
theorem qqM{t:TypeId}{g:List KC}{a:Bool}{k:List AV}(h:qfs P t=some (g,a))(q:zo g k=true){ks:List (List AV)}{es:List MapEntry}(o:es.length=ks.length)(r:∀(j:Nat) (i:List AV) (e:MapEntry),ks[j]?=some i->es[j]?=some e->e.key=jO a i/\zo g i=true):
  (Qx k ks 0=none/\(Instr.findKey t (jO a k) es).run P w=.ok none w)\/∃j e,Qx k ks 0=some j/\es[j]?=some e/\e.key=jO a k/\(Instr.findKey t (jO a k) es).run P w=.ok (some (j,e.val)) w:=by
 have b:=qxj w h q ks es 0 o r;cases a with
 |false=>
   obtain⟨c,rfl,f⟩:=qgr h;have l:=qnd f;simp only[xk,if_false,wy]at b;rw[l]at b;obtain⟨n,m⟩|⟨j,e,n,m,u,s⟩:=b
   .exact .inl ⟨n,MapKept.run_findKey l m⟩
   .exact .inr ⟨j,e,n,m,u,MapKept.run_findKey l s⟩
 |true=>
   let⟨y,f,x,v⟩:=qn4 h;simp only[if_true,wy]at b
   have p:∀e d,es=e::d->(Instr.findKey t (jO true k) es).run P w=(Instr.findAsking t (jO true k) es 0).run P w:=by
    rintro e d rfl;simp[Instr.findKey,run_underlying f,Result.andThen,Instr.findNow,Instr.sameNow]
   cases es with
   |nil=>
     have:ks=[]:=we o.symm;subst this;exact .inl ⟨rfl,by simp[Instr.findKey,run_underlying f,Result.andThen,Instr.findNow]⟩
   |cons e es=>
     rw[p e es rfl];exact b
end
section
variable {P:Program}{C:Cfg}{Γ:Gh}{σ:St}{w:World}{o:Oper}{tm:List AV}{ρ:Operand->Value}{x:AV}{σ':Option St}
theorem qa1{a b:Bool}(h:jP a b=true):a=b:=by cases a<;>cases b<;>first|rfl|cases h
theorem ql7{c:List KC}{d a:Bool}{y:AV}{b:Nat}{ks vs:List (List AV)}(h:qkq σ c d a y=some (b,ks,vs)):y=.mp b/\σ.bx[b]?=some [.mc c d a ks vs]:=by
 unfold qkq at h;split at h<;>try cases h
 split at h<;>try cases h
 rename_i f;split at h<;>cases h;rename_i e;rw[wb,wb]at e;let⟨j,i,g⟩:=e;rw[of_decide_eq_true j,qa1 i,qa1 g]at f;exact⟨rfl,f⟩
theorem qu0{b:Nat}{u:Value}(h:Rep Γ (.mp b) u):u=.map (some (Γ.β b))/\b<Γ.nb:=by cases h;exact⟨rfl,‹_›⟩
theorem qAl{a:List KC}{b:Bool}{y:AV}(h:qkk a b y=true):zo a (cellsOf y)=true/\jp b (cellsOf y)=y:=by
 unfold qkk at h;rw[wb]at h;refine⟨h.2,?_⟩;rw[<-qa1 h.1];cases y with
 |agg cs=>rfl
 |tup vs=>have:=qpn _ _ h.2 (.tup vs) (wF.2 rfl);cases this
 |_=>rfl
theorem qFz{a:Bool}{b:Nat}{y:AV}(h:qq3 a b y=true):jp a (cellsOf y)=y/\(cellsOf y).all qk=true:=by
 unfold qq3 at h;rw[wb,wb]at h;refine⟨?_,h.2⟩;rw[<-qa1 h.1.1];cases y with
 |agg cs|_=>rfl
theorem qaJ.keys{g:List KC}{f l:Bool}{ks vs:List (List AV)}{b:Nat}{t:TypeId}(h:qaJ Γ w b g f l ks vs)(m:qfs P t=some (g,f)):∃es d,w.heap[b]?=some (.map es d)/\es.size=ks.length/\∀(j:Nat) (k v:List AV) (e:MapEntry),ks[j]?=some k->vs[j]?=some v->es[j]?=some e->qzf Γ g f l k v e/\e.key=jO f k:=by
 let⟨p,es,d,o,n,i⟩:=h;exact⟨es,d,o,n,λ j k v e a b c=>⟨i j k v e a b c,qrJ (qrG m (i j k v e a b c).2.2.1) (i j k v e a b c).1⟩⟩
theorem qu3(k:List AV):∀(ks:List (List AV)) (i j:Nat),Qx k ks i=some j->i<=j/\j<i+ks.length
 |[],i,j,h=>by cases h
 |e::es,i,j,h=>by
   simp only[Qx]at h;split at h
   .cases h;simp
   .have:=qu3 k es (i+1) j h;simp;omega
theorem qyk(m:∀t d,C.ty t=some d->zJ P t=some d)(f:Inv Γ σ w)(t:TypeId)(r:Option Operand)(a:o.op=.makeMap t r)(h:qc C tm σ o.op=some (x,σ')):jy P Γ σ w o ρ x σ':=by
 rw[a]at h;cases r with
 |some r=>simp[qc]at h
 |none=>
   simp only[qc]at h;split at h<;>cases h;rename_i c e b k j l;let⟨Γ',e1,i,g⟩:=qAD f c e b;exact⟨.value (.map (some w.heap.size)),_,_,Γ',by simp[execOp,a,Instr.makeMap],.inl rfl,e1,i,g⟩
theorem qxF{f:List KC}{d g:Bool}{ks vs:List (List AV)}{es:Array MapEntry}(i:vs.length=ks.length)(h:∀(j:Nat) (k v:List AV) (e:MapEntry),ks[j]?=some k->vs[j]?=some v->es[j]?=some e->qzf Γ f d g k v e/\e.key=jO d k):∀(j:Nat) (c:List AV) (e:MapEntry),ks[j]?=some c->es.toList[j]?=some e->e.key=jO d c/\zo f c=true:=λ j c e a b=>by
 have l:=(List.getElem?_eq_some_iff.1 a).1;have:=h j c _ e a (List.getElem?_eq_getElem (by omega)) (by simpa using b);exact⟨this.2,this.1.2.2.1⟩
theorem qAV(hC:∀t d,C.ty t=some d->zJ P t=some d)(J:Inv Γ σ w)(g:∀y,Rep Γ (aev tm y) (ρ y))(t:TypeId)(m k:Operand)(p:Bool)(E:o.op=.lookup t m k p)(h:qc C tm σ o.op=some (x,σ')):jy P Γ σ w o ρ x σ':=by
 rw[E]at h;simp only[qc]at h;split at h<;>try cases h
 rename_i kc ka M vn V hd;split at h<;>try cases h
 rename_i b ks vs hm R;split at h<;>cases h;rename_i v q i;simp only[wb,decide_eq_true_eq]at R;let⟨hk,⟨hz,_⟩,aa⟩:=R;let⟨H,G⟩:=ql7 hm;let⟨r,k2⟩:=qAl hk;let⟨_,ud,z0,p1,Q,p3,p4,p5,p6,p7,p8⟩:=wap (hC t _ hd);obtain⟨kt,et,ie,l,rfl,f,Z,Y,X,O⟩:=qv5 p8;have S:qaJ Γ w (Γ.β b) kc ka M ks vs:=J.box b _ G;let⟨es,K,T,g2,g3⟩:=S.keys f;have F:=(qu0 (H▸g m)).1;have I:=qrJ (qrG f r) (k2.symm▸g k)
 have B:Rep Γ (jp M (V.map .v)) l:=by
  let⟨A,U⟩:=qbu (Γ:=Γ) hz;subst X;cases l with
  |agg cs=>subst O;exact .agg _ _ A.len U A.rep
  |_=>subst O;exact A.rep 0 _ _ rfl rfl
 have a:(zeroValue et).run P w=.ok l w:=by simp[zeroValue,typeInfo,Z,Y]
 have c:∃u,(Instr.lookup t (ρ m) (ρ k) p).run P w=.ok (if p then .tuple #[u,.bool q]else u) w/\Rep Γ v u:=by
  rw[F,I];have s:es.toList.length=ks.length:=by simpa using g2
  obtain⟨z,L⟩|⟨j,e,z,L,a3,a4⟩:=qqM w f r s (qxF S.len g3)
  .simp only[qnb,z,wn,wG]at i;obtain⟨rfl,rfl⟩:=i;refine⟨l,?_,B⟩;simp[Instr.lookup,run_underlying Q,MapKept.run_getObj_map T,qhT w f r _ 9998,L,a,Result.andThen]
  .simp only[qnb,z]at i;split at i<;>cases i;rename_i W D;have ab:=qu3 _ _ _ _ z;let⟨n,_⟩:=g3 j _ W e (List.getElem?_eq_getElem (by omega)) D (by simpa using L);refine⟨e.val,?_,n.2.1⟩;simp[Instr.lookup,run_underlying Q,MapKept.run_getObj_map T,qhT w f r _ 9998,a4,Result.andThen]
 let⟨u,n,N⟩:=c;cases p with
 |false=>exact .val (by simp[execOp,E,n]) J N
 |true=>
   have s:=(waq N (waq (.v (.bool q) rfl) .nil):RepL Γ [v,.v (.bool q)] [u,.bool q])
   exact .val (by simp[execOp,E,n]) J (.tup _ _ s.len s.rep)
theorem qsZ(hC:∀t d,C.ty t=some d->zJ P t=some d)(hi:Inv Γ σ w)(n:∀y,Rep Γ (aev tm y) (ρ y))(t:TypeId)(m k y:Operand)(M:o.op=.mapUpdate t m k y\/o.op=.insert t m k y)(h:qaj C tm σ t m k y=some (x,σ')):jy P Γ σ w o ρ x σ':=by
 unfold qaj at h;split at h<;>try cases h
 rename_i Q A L vn vz hd;split at h<;>cases h;rename_i b ks vs hm V;rw[wb]at V;let⟨S,G⟩:=ql7 hm;let⟨v,k2⟩:=qAl V.1;let⟨v1,Z⟩:=qFz V.2;let⟨_,ud,z0,p1,p2,p3,p4,p5,p6,p7,p8⟩:=wap (hC t _ hd);obtain⟨kt,et,ie,ze,rfl,s,q3,q4,q5,q6⟩:=qv5 p8;have J:qaJ Γ w (Γ.β b) Q A L ks vs:=hi.box b _ G;let⟨es,a,l,N,g3⟩:=J.keys s;have F:=(qu0 (S▸n m)).1;have H:Rep Γ (jp A (cellsOf (aev tm k))) (ρ k):=k2.symm▸n k;have B:Rep Γ (jp L (cellsOf (aev tm y))) (ρ y):=v1.symm▸n y;have q:=qrJ (qrG s v) H;have hl:es.toList.length=ks.length:=by simpa using N
 have aa:=(Array.getElem?_eq_some_iff.1 l).1
 have K:∀ob,(Instr.mapUpdate t (ρ m) (ρ k) (ρ y)).run P w=.ok () {w with heap:=w.heap.setIfInBounds (Γ.β b) ob}->(∀f vs',qdt ks vs (cellsOf (aev tm k)) (cellsOf (aev tm y))=(f,vs')->ju Γ {w with heap:=w.heap.setIfInBounds (Γ.β b) ob} b [.mc Q A L f vs'])->
   jy P Γ σ w o ρ (.tup []) (some {σ with bx:=σ.bx.set b [.mc Q A L (qdt ks vs (cellsOf (aev tm k)) (cellsOf (aev tm y))).1 (qdt ks vs (cellsOf (aev tm k)) (cellsOf (aev tm y))).2],wr:=b::σ.wr}):=by
  intro ob D W;let⟨e1,e2⟩:=qpO hi G (b::σ.wr) _ (W _ _ rfl) (λ k hk=>(MapKept.heap_set l).2 k hk) rfl rfl rfl (by simp) (wa _);refine⟨.skip,undef,_,Γ,?_,.inr ⟨rfl,rfl⟩,e1,e2,.tup [] [] rfl λ i x u hx=>by simp at hx⟩;obtain M|M:=M<;>simp[execOp,M,D]
 obtain⟨Y,O⟩|⟨j,e,Y,O,X,a4⟩:=qqM w s v hl (qxF J.len g3)
 .refine K (.map (es.push {key:=ρ k,val:=ρ y,born:=a}) (a+1)) ?_ λ f vs' E=>?_
  .rw[F];have:=qhT w s v false 9998;rw[<-q]at O this;simp[Instr.mapUpdate,run_underlying p2,MapKept.run_getObj_map l,this,O,MapKept.run_setObj_map _ l,Result.andThen]
  .simp only[qdt,Y,wG]at E;obtain⟨rfl,rfl⟩:=E;refine⟨by simp[J.len],_,_,(MapKept.heap_set l).1,by simp[N],λ j R v' e' g c z=>?_⟩;have p:=J.len;by_cases hj:j<ks.length
   .grind
   .have T:j=ks.length:=by
      grind
    subst T;rw[List.getElem?_append_right (wa _),kP]at g;rw[List.getElem?_append_right (by omega),p,kP]at c;rw[<-N,Array.getElem?_push_size]at z;cases g;cases c;cases z;exact⟨H,B,v,Z⟩
 .have r:es[j]?=some e:=by simpa using O
  refine K (.map (es.modify j λ e=>{e with key:=ρ k,val:=ρ y}) a) ?_ λ f vs' E=>?_
  .rw[F];have g:=qhT w s v false 9998;have c:=qDc w s v;rw[<-q]at a4 g c X;simp[Instr.mapUpdate,run_underlying p2,MapKept.run_getObj_map l,g,a4,r,X,c,MapKept.run_setObj_map _ l,Result.andThen]
  .simp only[qdt,Y,wG]at E;obtain⟨rfl,rfl⟩:=E;have p:=J.len;refine⟨by simp[p],_,_,(MapKept.heap_set l).1,by simp[N],λ i R v' e' g c z=>?_⟩;rw[Array.getElem?_modify]at z;rw[List.getElem?_set]at c;by_cases U:j=i
   .subst U;rw[if_pos rfl,r]at z;rw[if_pos rfl]at c;split at c<;>cases c;cases z;let⟨r1,r2⟩:=g3 j R _ e g (List.getElem?_eq_getElem (by have:=(List.getElem?_eq_some_iff.1 g).1;omega)) r;refine⟨?_,B,r1.2.2.1,Z⟩;show Rep Γ (jp A R) (ρ k);rw[q,<-X];exact r1.1
   .grind
end
end Go.AmZ
namespace Go.AmZ
open Go Go.RowKit
section
variable {σ:St}
theorem qok(l:List (List AV)):qv σ {σ with bx:=σ.bx++l}:=
 ⟨by simp,wa _,λ i a _=>List.getElem?_append_left a,λ _ _ _=>rfl,λ _ h=>h,λ _ h=>h⟩
theorem qsA(b:Nat)(cs:List AV):qv σ {σ with bx:=σ.bx.set b cs,wr:=b::σ.wr}:=
 ⟨by simp,wa _,λ i c a=>List.getElem?_set_ne λ e=>a (by simp[e]),λ _ _ _=>rfl,λ _ h=>wj _ h,λ _ h=>h⟩
theorem qln(a:List Nat):qv σ {σ with rw:=frz σ.rw a,wrr:=a++σ.wrr}:=
 ⟨wa _,by simp[qxB],λ _ _ _=>rfl,λ i c b=>qi0 _ _ _ λ h=>b (xS _ h),λ _ h=>h,λ _ h=>xM _ h⟩
theorem qn5(l:List Row):qv σ {σ with rw:=σ.rw++l}:=
 ⟨wa _,by simp,λ _ _ _=>rfl,λ i a _=>List.getElem?_append_left a,λ _ h=>h,λ _ h=>h⟩
theorem qme(r:Nat)(R:Row):qv σ {σ with rw:=σ.rw.set r R,wrr:=r::σ.wrr}:=
 ⟨wa _,by simp,λ _ _ _=>rfl,λ i b a=>List.getElem?_set_ne λ e=>a (by simp[e]),λ _ h=>h,λ _ h=>wj _ h⟩
end
theorem qll{C:Cfg}{tm:List AV}{σ σ':St}{t:Nat}{m k y:Operand}{x:AV}(h:qaj C tm σ t m k y=some (x,some σ')):qv σ σ':=by
 unfold qaj at h;split at h<;>try cases h
 split at h<;>cases h;exact qsA _ _
theorem qzv{C:Cfg}{tm:List AV}{σ:St}{op:Op}{x:AV}{σ':Option St}(h:qc C tm σ op=some (x,σ')):qv σ (turn σ σ'):=by
 cases σ' with
 |none=>exact .refl σ
 |some σ'=>
   show qv σ σ';cases op with
   |alloc e=>
     simp only[qc]at h;split at h<;>try cases h
     split at h<;>cases h;exact qok _
   |box e y=>
     simp only[qc]at h;split at h<;>try cases h
     split at h<;>cases h;exact qok _
   |store t a y=>
     simp only[qc]at h;split at h<;>try cases h
     .split at h<;>try cases h
      split at h<;>cases h;exact qsA _ _
     .split at h<;>try cases h
      split at h<;>cases h;exact qme _ _
   |convert s t y=>
     simp only[qc]at h;split at h<;>try cases h
     .split at h<;>cases h;exact qn5 _
     .split at h<;>try cases h
      split at h<;>cases h
   |makeSlice t a y=>
     simp only[qc]at h;split at h<;>try cases h
     split at h<;>try cases h
     split at h<;>cases h;exact qn5 _
   |buildSlice t n ps=>
     simp only[qc]at h;split at h<;>try cases h
     split at h<;>try cases h
     split at h<;>cases h;exact qln _
   |slice t y lo b m=>
     cases m with
     |some m=>simp[qc]at h
     |none=>
       simp only[qc]at h
       repeat' (first|(cases h;done)|(cases h;exact qme _ _)|split at h)
   |makeMap t m=>
     cases m<;>simp only[qc]at h<;>try cases h
     split at h<;>cases h;exact qok _
   |mapUpdate t m k y|insert t m k y=>exact qll h
   |makeFunc f c cs=>
     cases f<;>simp only[qc]at h<;>(repeat' (first|(cases h;done)|split at h))
   |_=>
     simp only[qc]at h
     repeat' (first|(cases h;done)|split at h)
theorem ql6{k bytes:Nat}{σ:St}{s:AV}{xs:List (List AV)}{x:AV}{σ':Option St}(h:zh k bytes σ s xs=some (x,σ')):qv σ (turn σ σ'):=by
 unfold zh at h
 repeat' (first|(cases h;done)|(cases h;first|exact .refl _|exact qn5 _|exact qme _ _)|split at h)
def qFl(P:Program)(Γ:Gh)(σ:St)(w:World)(o:Oper)(a:Act)(x:AV)(σ':Option St):Prop:=
 ∀next Q,(∀u w' Γ',Ext Γ w Γ' w'->Inv Γ' (turn σ σ') w'->Rep Γ' x u->qv σ (turn σ σ')->next (a.put o.dst u) w')->o.wp P a w next Q
theorem jy.wp{P:Program}{Γ:Gh}{σ:St}{w:World}{o:Oper}{a:Act}{x:AV}{σ':Option St}(h:jy P Γ σ w o a.eval x σ')(c:qv σ (turn σ σ')):qFl P Γ σ w o a x σ':=by
 let⟨j,u,w',Γ',i,g,f,e,d⟩:=h;intro next Q b
 unfold Oper.wp;rw[i];obtain rfl|⟨rfl,rfl⟩:=g
 .exact b _ _ _ f e d c
 .exact b _ _ _ f e d c
section
variable {P:Program}{C:Cfg}{Γ:Gh}{σ:St}{w:World}{o:Oper}{tm:List AV}{ρ:Operand->Value}{x:AV}{σ':Option St}
theorem qGl(p:∀t d,C.ty t=some d->zJ P t=some d)(l:Inv Γ σ w)(g:∀y,Rep Γ (aev tm y) (ρ y))(h:qc C tm σ o.op=some (x,σ')):jy P Γ σ w o ρ x σ':=by
 cases j:o.op with
 |move y=>rw[j]at h;simp only[qc,wn,wG]at h;obtain⟨rfl,rfl⟩:=h;exact qxe l g y (.inl j)
 |assign y=>rw[j]at h;simp only[qc,wn,wG]at h;obtain⟨rfl,rfl⟩:=h;exact qxe l g y (.inr j)
 |pick c a b=>exact qEC l g c a b j h
 |alloc e=>exact qBR p l e j h
 |box e y=>exact qEO l g e y j h
 |build t ps=>exact qDf p l g t ps j h
 |buildSlice t n ps=>exact qtH p l g t n ps j h
 |load t y=>exact qDZ p l g t y j h
 |store t y z=>exact qCu p l g t y z j h
 |nilCheck y=>exact qET l g y j h
 |binOp op t y z v=>exact qFe p l g op t y z v j h
 |unOp op t y=>exact qGh l g op t y j h
 |convert s t y=>exact qDN p l g s t y j h
 |makeFunc f A cs=>exact qGq l g f A cs j h
 |slice t y lo u m=>
   exact qCU p l g t y lo u m j h
 |fieldAddr t y i=>exact qwl p l g t y i j h
 |field t y i=>exact qBF p l g t y i j h
 |indexAddr t y i=>exact qvl p l g t y i j h
 |index t y i=>exact qCO p l g t y i j h
 |extract y i=>exact qzm l g y i j h
 |makeSlice t y z=>exact qDL p l g t y z j h
 |makeMap t r=>exact qyk p l t r j h
 |lookup t m k q=>exact qAV p l g t m k q j h
 |mapUpdate t m k y=>rw[j]at h;exact qsZ p l g t m k y (.inl j) h
 |insert t m k y=>rw[j]at h;exact qsZ p l g t m k y (.inr j) h
 |_=>rw[j]at h;simp only[qc]at h;cases h
theorem qyL{k:TK}(h:qgu k=true):k=.string:=by cases k<;>first|rfl|(simp[qgu]at h)
theorem qzF{k:TK}(h:qak k=true):∃e s b z,k=.slice e s b z:=by
 cases k<;>first|exact⟨_,_,_,_,rfl⟩|(simp[qak]at h)
theorem qFO{d:TD}{t ty:TypeId}{ts:Array TypeId}(E:ts[0]?=some t)(I:zJ P t=some d){y:AV}{u:Value}(A:Rep Γ y u){n:Nat}(h:qeD d y=some n):(Builtin.len_ ts ty #[u]).run P w=.ok (.int .i64 n) w:=by
 let⟨i,q,z,R,C,Q,O,N,M,L,B⟩:=wap I;have x:qgu d.k=true->q=.string:=λ h=>qdk (by rw[B,qyL h])
 have sl:qak d.k=true->∃e,q=.slice e:=λ h=>by
  let⟨e,s,b,z,D⟩:=qzF h;exact⟨e,(Jh (by rw[B,D])).1⟩
 have j:∀e,q=.slice e->∀a m c,u=.slice a m c->(Builtin.len_ ts ty #[u]).run P w=.ok (.int .i64 m) w:=by
  intro e p a m c F;subst F;simp[Builtin.len_,E,underlying,C,p,goInt]
 cases A with
 |v y S=>
   simp only[qeD]at h;split at h
   .rename_i s l;cases l;split at h<;>cases h;rename_i g;simp[Builtin.len_,E,underlying,C,x g,goInt,qku]
   .rename_i l;cases l;split at h<;>cases h;rename_i g;let⟨e,p⟩:=sl g;exact j e p _ _ _ rfl
   .rename_i l;cases l
   .rename_i l;cases l
   .cases h
 |sl k es f a m cap b o us G J H D T K W U A=>
   simp only[qeD]at h;split at h<;>cases h;rename_i g;let⟨e,p⟩:=sl g;rw[j e p _ _ _ rfl,G];rfl
 |rs r lo m X f a cap A J H V=>
   simp only[qeD]at h;split at h<;>cases h;rename_i g;let⟨e,p⟩:=sl g;exact j e p _ _ _ rfl
 |_=>simp only[qeD]at h;cases h
theorem qDO(l:Inv Γ σ w){d:TD}{t ty:TypeId}{ts:Array TypeId}(p:ts[0]?=some t)(m:zJ P t=some d){y:AV}{u:Value}(f:Rep Γ y u){n:Nat}(h:qyj d.k σ y=some n):(Builtin.len_ ts ty #[u]).run P w=.ok (.int .i64 n) w:=by
 let⟨i,v,z,E,e,D,C,B,A,x,c⟩:=wap m;unfold qyj at h;split at h<;>try cases h
 rename_i j;split at h<;>cases h;rename_i b ks vs g;obtain⟨rfl,o⟩:=ql7 g;rw[j]at c;obtain⟨F,H,G,s,rfl,_⟩:=qv5 c;let⟨_,es,a,r,q,_⟩:=l.box b _ o;rw[(qu0 f).1];simp[Builtin.len_,p,underlying,e,goInt,MapKept.run_getObj_map r,q]
theorem qGn(E:∀t d,C.ty t=some d->zJ P t=some d)(m:Inv Γ σ w){b:Builtin}{ts:Array TypeId}{ty:TypeId}{cs:Array Bool}{l:List AV}{j:List Value}(D:RepL Γ l j)(h:yq C σ b ts l=some (x,σ')):
  (∃v w' Γ',(builtin b ts ty cs j.toArray).run P w=.ok (.value v) w'/\Ext Γ w Γ' w'/\Inv Γ' (turn σ σ') w'/\Rep Γ' x v)/\qv σ (turn σ σ'):=by
 unfold yq at h;split at h
 .rename_i y;obtain⟨u,r,rfl,i,f⟩:=D.uncons;rw[f.nil_inv];split at h<;>try cases h
  rename_i t B;split at h<;>try cases h
  rename_i d q;split at h
  .cases h;rename_i n H;exact⟨⟨_,w,Γ,by simp[builtin,Sem.run_bind',qFO B (E t d q) i H],.refl _ _,m,.v _ rfl⟩,.refl _⟩
  .split at h<;>cases h;rename_i n H;exact⟨⟨_,w,Γ,by simp[builtin,Sem.run_bind',qDO m B (E t d q) i H],.refl _ _,m,.v _ rfl⟩,.refl _⟩
 .rename_i s y;obtain⟨u,r,rfl,p,f⟩:=D.uncons;obtain⟨L,M,rfl,i,c⟩:=f.uncons;rw[c.nil_inv];split at h<;>try cases h
  rename_i t S B A;split at h<;>try (cases h;done)
  .rename_i q1 Z Y X e k Q z W V U T e' N b' R q o;split at h<;>try cases h
   rename_i g;simp only[wb,decide_eq_true_eq]at g;split at h<;>try cases h
   rename_i xs G;split at h<;>try cases h
   rename_i O;let⟨v,w',Γ',K,J,g3,I⟩:=qta (ty:=ty) E m p i B A q o g.1 g.2 G O h;refine⟨⟨v,w',Γ',by simp[builtin,Sem.run_bind',K],J,g3,I⟩,?_⟩;exact ql6 h
  .rename_i q o;split at h<;>try (cases h;done)
   rename_i b g;simp only[wb,decide_eq_true_eq]at g;have F:=qK i;subst F;let⟨v,w',Γ',K,J,g3,I⟩:=qtO (ty:=ty) E m p B A q o g.1 h;refine⟨⟨v,w',Γ',by simp[builtin,Sem.run_bind',K],J,g3,I⟩,?_⟩;exact ql6 h
 .rename_i k a N b;obtain⟨u,r,rfl,p,f⟩:=D.uncons;obtain⟨L,M,rfl,i,c⟩:=f.uncons;rw[c.nil_inv,qK p,qK i];split at h<;>cases h;rename_i g;have g:=of_decide_eq_true g;subst g;exact⟨⟨_,w,Γ,by simp[builtin,Sem.run_bind',Builtin.max_,Builtin.max2,qiH],.refl _ _,m,.v _ rfl⟩,.refl _⟩
 .rename_i k a N b;obtain⟨u,r,rfl,p,f⟩:=D.uncons;obtain⟨L,M,rfl,i,c⟩:=f.uncons;rw[c.nil_inv,qK p,qK i];split at h<;>cases h;rename_i g;have g:=of_decide_eq_true g;subst g;exact⟨⟨_,w,Γ,by simp[builtin,Sem.run_bind',Builtin.min_,Builtin.min2,qDq],.refl _ _,m,.v _ rfl⟩,.refl _⟩
 .cases h
end
end Go.AmZ
namespace Go.AmZ
open Go Go.RowKit
def jW(P:Program)(Γ:Gh)(σ:St)(w:World)(f:FuncId)(a:List Value)(r:AV×Option St):Prop:=
 Calls P f a.toArray w λ e w'=>∃v Γ',e=.returned v/\Ext Γ w Γ' w'/\Inv Γ' (turn σ r.2) w'/\Rep Γ' r.1 v/\qv {σ with wr:=[],wrr:=[]} (turn {σ with wr:=[],wrr:=[]} r.2)
def qc6(P:Program)(f:FuncId):Prop:=∃fn,P.funcs[f]?=some fn/\fn.body.isNone=false/\(fn.name=="runtime.NumGoroutine")=false
def qw(P:Program)(f:FuncId)(p:St->List AV->Option (AV×Option St)):Prop:=
 qc6 P f/\∀Γ σ w b a r,Inv Γ σ w->RepL Γ b a->p σ b=some r->jW P Γ σ w f a r
structure zp (P:Program) (C:Cfg):Prop where
 mixed:P.follows .mixedOrders=true
 ty:∀t d,C.ty t=some d->zJ P t=some d
 fn:∀f fn,C.fn f=some fn->P.funcs[f]?=some fn/\(fn.name=="runtime.NumGoroutine")=false/\∀c,fn.body=some c->yN c=true
 prim:∀f p,C.prim f=some p->qw P f p
 inl:∀f fn,C.inl f=some fn->P.funcs[f]?=some fn/\(fn.name=="runtime.NumGoroutine")=false/\∀c,fn.body=some c->yN c=true
theorem qeC{P:Program}{f:FuncId}(h:qc6 P f)(a:Array Value)(w:World):(callFunc f a).run P w=.ok (.enter f a) w:=by
 let⟨fn,e,d,c⟩:=h;have b:(program).run P w=.ok P w:=rfl;unfold callFunc;simp only[Sem.run_bind,b,Result.andThen_ok,e,c,d,xk,if_false];rfl
abbrev qQ(Γ:Gh)(b:List AV)(a:Act):Prop:=RepL Γ b a.tmps.toList
theorem qQ.get{Γ:Gh}{b:List AV}{a:Act}(h:qQ Γ b a)(t:Nat):Rep Γ (b.getD t .dead) (a.tmps.getD t undef):=by
 rw[List.getD_eq_getElem?_getD];cases d:b[t]? with
 |none=>exact .dead _
 |some x=>
   let⟨u,c,e⟩:=RepL.get h d
   have:a.tmps.getD t undef=u:=by
    rw[Array.getElem?_toList]at c;simp[wH,c]
   rw[this];exact e
theorem qEz(Γ:Gh)(y:Value):Rep Γ (ofC y) y:=by
 unfold ofC;split
 .rename_i h;exact .v y h
 .exact .dead _
theorem qwH(Γ:Gh)(y:Value):Rep Γ (qmV y) y:=by
 unfold qmV;split
 .rename_i cs;split
  .rename_i h;let⟨a,b⟩:=qbu (Γ:=Γ) h;have:=Rep.agg (Γ:=Γ) (cs.toList.map .v) cs.toList a.len b a.rep;simpa using this
  .exact .dead _
 .rename_i vs;split
  .rename_i h;have:vs = #[]:=by rw[<-xQ (xs:=vs),h]
   subst this;exact .tup [] [] rfl λ i x u h=>by simp at h
  .exact .dead _
 .exact qEz Γ _
theorem qQ.ev{Γ:Gh}{b:List AV}{a:Act}(h:qQ Γ b a)(y:Operand):Rep Γ (aev b y) (a.eval y):=by
 cases y with
 |tmp t=>exact h.get t
 |const x=>exact qwH Γ x
 |func f=>exact .fn f [] [] rfl λ i x u h=>by simp at h
 |global g=>exact .dead _
theorem qQ.put{Γ:Gh}{b:List AV}{a:Act}(h:qQ Γ b a)(d:Option Tmp){x:AV}{u:Value}(c:Rep Γ x u):qQ Γ (Jx b d x) (a.put d u):=by
 cases d with
 |none=>exact h
 |some d=>
   show RepL Γ (b.set d x) (a.tmps.setIfInBounds d u).toList;rw[xi];exact RepL.set h d c
section
variable {P:Program}{C:Cfg}{Γ:Gh}{σ:St}{w:World}
theorem qf8(H:∀t d,C.ty t=some d->zJ P t=some d)(F:Inv Γ σ w){fn:Func}{i:List AV}{a:Act}(p:qQ Γ i a){r:AV}(h:Jf C fn ⟨i,σ⟩=some r):∃v,(results fn a.tmps).run P w=.ok v w/\Rep Γ r v:=by
 have k:∀(c:List ResultVar) (l:List AV),ja C i σ c=some l->∃vs:List Value,(c.mapM (λ(x:ResultVar)=>(match x with
   |.tmp t=>pure (a.tmps.getD t undef)
   |.cell b t=>do loadVar t (<-asAddr (a.tmps.getD b undef)):Sem Value))).run P w=.ok vs w/\RepL Γ l vs:=by
  intro c
  induction c with
  |nil=>intro l h;simp only[ja,wn]at h;subst h;exact⟨[],by simp,.nil⟩
  |cons x c D=>
    intro l h;simp only[ja]at h;split at h<;>try cases h
    rename_i y e;split at h<;>cases h;rename_i ys m;let⟨vs,o,f⟩:=D ys m;have j:∃v,(match x with
    |.tmp t=>pure (a.tmps.getD t undef)
    |.cell b t=>do loadVar t (<-asAddr (a.tmps.getD b undef)):Sem Value).run P w=.ok v w/\Rep Γ y v:=by
      cases x with
      |tmp t=>simp only[qgj,wn]at e;subst e;exact⟨_,rfl,p.get t⟩
      |cell b t=>
        simp only[qgj]at e;split at e<;>try cases e
        rename_i d G;let⟨v,A,B,z,s⟩:=qxq F (H t d G) (p.get b) e;refine⟨v,?_,s⟩;simp[Sem.run_bind',B,asAddr,z]
    let⟨v,e1,K⟩:=j;refine⟨v::vs,?_,.cons K f⟩;rw[List.mapM_cons];simp only[Sem.run_bind,e1,Result.andThen_ok,o];rfl
 simp only[Jf]at h;split at h<;>cases h;rename_i l g;let⟨vs,o,f⟩:=k _ _ g;unfold results;rw[Array.mapM_eq_mapM_toList]
 have E:(List.toArray <$> (fn.results.toList.mapM (λ(x:ResultVar)=>(match x with
   |.tmp t=>pure (a.tmps.getD t undef)
   |.cell b t=>do loadVar t (<-asAddr (a.tmps.getD b undef)):Sem Value)))).run P w=.ok vs.toArray w:=by
  rw[Sem.run_map,o];rfl
 refine⟨if h:vs.toArray.size=1 then vs.toArray[0]else .tuple vs.toArray,?_,?_⟩
 .rw[Sem.run_bind];exact(congrArg (λ r=>Result.andThen r _) E).trans rfl
 .unfold qX;split
  .rename_i y;obtain⟨u,c,rfl,J,I⟩:=f.uncons;rw[I.nil_inv];simpa using J
  .rename_i n
   have:vs.toArray.size≠1:=by
    intro q;have g:=f.len;simp only[wV]at q;rw[q]at g
    match l,g with
    |[y],_=>exact n y rfl
   rw[dif_neg this];exact .tup _ _ f.len f.rep
def Ex.toExit:Ex->Exit
 |.normal=>.normal
 |.exit id=>.exit id
 |.ret=>.ret
def qai(P:Program)(ex:yE):Prop:=
 ∀c s e b,yN c=true->ex c s=some (e,b)->∀Γ w a,Inv Γ s.σ w->qQ Γ s.tm a->a.defers=[]->
  c.wp P (λ f d w'=>f=e.toExit/\d.defers=[]/\∃Γ',Ext Γ w Γ' w'/\Inv Γ' b.σ w'/\qQ Γ' b.tm d/\qv s.σ b.σ) a w
theorem qaV(Γ:Gh):∀n:Nat,RepL Γ (List.replicate n .dead) (List.replicate n undef)
 |0=>.nil
 |n+1=>.cons (.dead _) (qaV Γ n)
theorem quy(d:zp P C){ex:yE}{f:FuncId}{a:List AV}{r:AV×Option St}(h:JP C ex σ f a=some r):qc6 P f:=by
 unfold JP at h;split at h
 .rename_i p e;exact(d.prim f p e).1
 .split at h<;>try cases h
  rename_i fn b;split at h<;>try cases h
  rename_i c g;let⟨j,i,_⟩:=d.fn f fn b;exact⟨fn,j,by rw[g];rfl,i⟩
theorem qwx(u:zp P C){ex:yE}(G:qai P ex){f:FuncId}{b:List AV}{a:List Value}{r:AV×Option St}(q:Inv Γ σ w)(m:RepL Γ b a)(h:JP C ex σ f b=some r):jW P Γ σ w f a r:=by
 unfold JP at h;split at h
 .rename_i p I;exact(u.prim f p I).2 Γ σ w b a r q m h
 .split at h<;>try cases h
  rename_i fn s;split at h<;>try cases h
  rename_i c y;let⟨L,O,K⟩:=u.fn f fn s
  have z:∀e d,ex c (qd9 fn σ b)=some (e,d)->(e=.ret\/e=.normal)->qfh C fn σ d=some r->jW P Γ σ w f a r:=by
   intro e d i t n;unfold jW;refine calls_of_wp L y ?_;have o:Inv Γ (qd9 fn σ b).σ w:=q.wr rfl rfl
   have H:qQ Γ (qd9 fn σ b).tm {tmps:=a.toArray++Array.replicate (fn.ntmps-a.toArray.size) undef,defers:=[]}:=by
    show RepL Γ (b++List.replicate (fn.ntmps-b.length) .dead) (a.toArray++Array.replicate (fn.ntmps-a.toArray.size) undef).toList;rw[xa,kZ];have:a.toArray.size=b.length:=by simpa using m.len
    rw[this];exact m.append (qaV Γ _)
   refine wp_mono (G c _ e d (K c y) i Γ w _ o H rfl) ?_;rintro Q B w' ⟨rfl,J,Γ',N,A,g3,M⟩;unfold qfh at n;split at n<;>cases n;rename_i k l;let⟨v,F,E⟩:=qf8 u.ty A g3 l;let⟨⟨j,u1,u2,u3⟩,u4⟩:=qAc q N A M E
   have:B.defers=[]/\∃v,(results fn B.tmps).run P w'=.ok v w'/\∃g Γ',Ending.returned v=.returned g/\Ext Γ w Γ' w'/\Inv Γ' (turn σ (JE σ k d.σ).2) w'/\Rep Γ' (JE σ k d.σ).1 g/\qv {σ with wr:=[],wrr:=[]} (turn {σ with wr:=[],wrr:=[]} (JE σ k d.σ).2):=
    ⟨J,v,F,v,j,rfl,u1,u2,u3,u4⟩
   obtain rfl|rfl:=t
   .exact this
   .exact this
  split at h
  .rename_i d i;exact z _ _ i (.inl rfl) h
  .rename_i d i;exact z _ _ i (.inr rfl) h
  .cases h
def qfd(P:Program)(Γ:Gh)(σ:St)(w:World)(f:FuncId)(a:List Value)(r:AV×Option St):Prop:=
 Calls P f a.toArray w λ e w'=>∃v Γ',e=.returned v/\Ext Γ w Γ' w'/\Inv Γ' (turn σ r.2) w'/\Rep Γ' r.1 v/\qv σ (turn σ r.2)
theorem qo0{f e:List Nat}(g:qb3 σ f e):∀{a:List AV}{c:List Value},RepL Γ a c->(∀b∈rbL a,b∈f)->(∀r∈rrL a,r∈e)->RepL (Qs Γ f e) (qD (λ b=>f.idxOf b) (λ r=>e.idxOf r) a) c
 |[],c,h,_,_=>by rw[h.nil_inv];exact .nil
 |x::a,c,h,j,i=>by
   obtain⟨u,us,rfl,l,k⟩:=h.uncons;exact .cons (qni g l (λ b d=>j b (by simp[rbL,d])) λ r d=>i r (by simp[rrL,d])) (qo0 g k (λ b d=>j b (by simp[rbL,d])) λ r d=>i r (by simp[rrL,d]))
theorem qjB{f:FuncId}{a:List AV}{c:List Value}{i:St->List AV->Option (AV×Option St)}(z:∀Γ σ a r,Inv Γ σ w->RepL Γ a c->i σ a=some r->jW P Γ σ w f c r)
  {r:AV×Option St} (g:Inv Γ σ w) (x:RepL Γ a c) (h:jh σ a i=some r):qfd P Γ σ w f c r:=by
 unfold jh at h;split at h<;>try cases h
 rename_i m;let⟨d,o,n⟩:=qAs m;split at h<;>cases h;rename_i r j;refine(z _ _ _ _ (qx2 d g) (qo0 d x o n) j).mono ?_;rintro e w' ⟨v,t,q,k,p,l,y⟩;have b:=qkB d g k l;rw[g.nb,g.nr]at b;let⟨B,u⟩:=r;cases u with
 |none=>
   refine⟨v,_,q,qoD d g k,?_,b,.refl _⟩;have o:=quM d g k p;let⟨e1,A⟩:=qww d;exact o.wr e1.symm A.symm
 |some s=>exact⟨v,_,q,qoD d g k,quM d g k p,b,qyp d y⟩
theorem qfd.after{f:FuncId}{a:List Value}{b:Gh}{σ1:St}{r:AV×Option St}(h:qfd P b σ1 w f a r)(c:Ext Γ w b w)(d:qv σ σ1):qfd P Γ σ w f a (match r with|(x,none)=>(x,some σ1)|r=>r):=by
 refine Calls.mono h ?_;rintro e w' ⟨v,Γ',g,l,k,j,i⟩;let⟨o,n⟩:=r;cases n with
 |none|some m=>exact⟨v,Γ',g,c.trans l,k,j,d.trans i⟩
theorem qpb(f:Inv Γ σ w){m:Nat->Nat->Option Value}(e:Le Γ {Γ with mem:=m}):∀{b:List AV}{a:List Value},(∀r∈b.flatMap rsA,∀R,σ.rw[r]?=some R->jo {Γ with mem:=m} r R)->RepL Γ b a->RepL {Γ with mem:=m} (b.map (yb σ.rw)) a
 |[],a,_,h=>by rw[h.nil_inv];exact .nil
 |x::b,a,g,h=>by
   obtain⟨u,us,rfl,j,i⟩:=h.uncons;exact .cons (qrD f e (λ r d=>g r (by simp[d])) j) (qpb f e (λ r d=>g r (by simp only[k8,wi];exact .inr d)) i)
theorem qCq{Γ Γ':Gh}{x:AV}{u:Value}(h:qfq x=true)(a:Rep Γ x u):Rep Γ' x u:=by
 cases a with
 |v _ f=>exact .v _ f
 |tup cs us e a=>
   refine .tup cs us e λ i x u b c=>?_;have d:isV x=true:=(wo.1 h) x (wc b);have:=a i x u b c;cases x with
   |v y=>have:=qK this;subst this;exact .v _ (by have:=a i _ _ b c;cases this;assumption)
   |_=>cases d
 |_=>cases h
theorem qD5{a:List AV}(d:rbL a=[])(c:rrL a=[]):yR σ a=[]/\JB σ a=[]:=by
 have b:yR σ a=[]:=by
  unfold yR;rw[d];show qg0 σ.bx σ.bx.length []=[];cases σ.bx.length with
  |zero|succ n=>rfl
 refine⟨b,?_⟩;unfold JB;rw[b,c];rfl
theorem qyx{f:FuncId}{a:List AV}{g:List Value}{k:St->List AV->Option (AV×Option St)}(H:∀Γ σ a r,Inv Γ σ w->RepL Γ a g->k σ a=some r->jW P Γ σ w f g r)
  {x:AV}{l:Gh}{σ0:St} (K:Inv l σ0 w) (m:Inv Γ σ w) (E:RepL Γ a g) (h:jh σ a k=some (x,none)) (J:rbL a=[]) (I:rrL a=[]) (D:qfq x=true):qfd P l σ0 w f g (x,none):=by
 let⟨p,o⟩:=qD5 (σ:=σ) J I;unfold jh at h;split at h<;>try cases h
 rename_i y;let⟨t,A,z⟩:=qAs y;split at h<;>try cases h
 rename_i r n;have j:=kz h;rw[p,o]at t;refine(H _ _ _ _ (qx2 (by rw[p,o];exact t) m) (qo0 (by rw[p,o];exact t) E A z) n).mono ?_;rintro e w' ⟨v,B,G,c,N,q,M⟩;rw[p,o]at c;have d:=qkB t m c q;rw[m.nb,m.nr]at d
 have u:x=ren (qW [] σ.bx.length) (qW [] σ.rw.length) r.1:=by
  rw[p,o]at j;let⟨L,C⟩:=r;cases C<;>cases j;rfl
 rw[<-u]at d
 have s:Below w.heap.size w w':=⟨c.os,c.tape,c.output,c.size,λ b A=>c.block b A λ F=>by
  obtain⟨i,m,_⟩|⟨i,m,_⟩:=F<;>exact absurd m (wD _)⟩
 exact⟨v,l,G,qds s c.drawn,K.later s,qCq D d,.refl _⟩
theorem qju{C:Cfg}{ex:yE}{σ:St}{f:Nat}{a:List AV}{r:AV×Option St}(h:qaW C ex σ f a=some r):(∃fn,C.inl f=some fn/\qrk C ex σ fn a=some r)\/JC C ex σ f a=some r:=by
 unfold qaW at h;split at h
 .split at h
  .exact .inl ⟨_,by assumption,h⟩
  .exact .inr h
 .split at h<;>try cases h
  split at h<;>try cases h
  split at h<;>cases h;right;assumption
theorem qu4{C:Cfg}{ex:yE}{σ:St}{fn:Func}{a:List AV}{r:AV×Option St}(h:qrk C ex σ fn a=some r):∃c e b x,fn.body=some c/\ex c ⟨a++List.replicate (fn.ntmps-a.length) .dead,σ⟩=some (e,b)/\(e=.ret\/e=.normal)/\Jf C fn b=some x/\r=(x,some b.σ):=by
 unfold qrk at h;split at h<;>try cases h
 rename_i c j;split at h<;>try cases h
 rename_i e b d g;split at h<;>cases h;rename_i x f;refine⟨c,e,b,x,j,g,?_,f,rfl⟩;cases e with
 |normal=>exact .inr rfl
 |ret=>exact .inl rfl
 |exit i=>exact(d i rfl).elim
theorem qEJ(n:zp P C){ex:yE}(t:qai P ex){f:FuncId}{fn:Func}(z:C.inl f=some fn){b:List AV}{a:List Value}{r:AV×Option St}(y:Inv Γ σ w)(l:RepL Γ b a)(h:qrk C ex σ fn b=some r):qfd P Γ σ w f a r:=by
 obtain⟨c,e,g,x,m,A,j,i,rfl⟩:=qu4 h;let⟨E,H,D⟩:=n.inl f fn z;unfold qfd;refine calls_of_wp E m ?_
 have u:qQ Γ (b++List.replicate (fn.ntmps-b.length) .dead) {tmps:=a.toArray++Array.replicate (fn.ntmps-a.toArray.size) undef,defers:=[]}:=by
  show RepL Γ (b++List.replicate (fn.ntmps-b.length) .dead) (a.toArray++Array.replicate (fn.ntmps-a.toArray.size) undef).toList;rw[xa,kZ];have:a.toArray.size=b.length:=by simpa using l.len
  rw[this];exact l.append (qaV Γ _)
 refine wp_mono (t c _ e g (D c m) A Γ w _ y u rfl) ?_;rintro I p w' ⟨rfl,B,Γ',G,o,g3,F⟩;let⟨v,s,q⟩:=qf8 n.ty o g3 i
 have:p.defers=[]/\∃v,(results fn p.tmps).run P w'=.ok v w'/\∃d Γ',Ending.returned v=.returned d/\Ext Γ w Γ' w'/\Inv Γ' (turn σ (x,some g.σ).2) w'/\Rep Γ' (x,some g.σ).1 d/\qv σ (turn σ (x,some g.σ).2):=
  ⟨B,v,s,v,Γ',rfl,G,o,q,F⟩
 obtain rfl|rfl:=j
 .exact this
 .exact this
theorem qzQ(u:zp P C){ex:yE}(s:qai P ex){f:FuncId}{a:List AV}{b:List Value}{r:AV×Option St}(g:Inv Γ σ w)(i:RepL Γ a b)(h:qaW C ex σ f a=some r):qfd P Γ σ w f b r:=by
 have k:∀Γ σ a r,Inv Γ σ w->RepL Γ a b->JP C ex σ f a=some r->jW P Γ σ w f b r:=λ _ _ _ _=>qwx u s;obtain⟨fn,A,h⟩|h:=qju h
 .exact qEJ u s A g i h
 unfold JC at h;unfold qdM at h;cases e:C.raw f with
 |true=>
   rw[e]at h;exact qjB k g i h
 |false=>
   rw[e]at h;simp only at h;cases c:a.flatMap rsA with
   |nil=>
     rw[c]at h;exact qjB k g (qpb (m:=Γ.mem) g (Le.refl _) (by rw[c];intro r i;cases i) i) h
   |cons q l=>
     rw[c]at h;simp only[qjs]at h;let⟨m,p,n,z⟩:=QW (q::l) g ((q::l)++σ.wrr);have t:=qpb g p.le (by rw[c];exact z) i;cases d:jh {σ with rw:=frz σ.rw (q::l),wrr:=(q::l)++σ.wrr} (a.map (yb σ.rw)) (λ σ a=>JP C ex σ f a)with
     |none=>rw[d]at h;cases h
     |some y=>
       rw[d]at h;have:=(qjB k n t d).after (qgk p w) (qln (q::l));let⟨x,o⟩:=y;cases o with
       |none=>
         simp only at h;split at h
         .rename_i j;cases h;simp only[wb,xq]at j;exact qyx k g n t d j.1.2 j.2 j.1.1
         .cases h;exact this
       |some v=>cases h;exact this
theorem qpJ{c:List AV}{a:St->List AV->Option (AV×Option St)}{r:AV×Option St}(h:jh σ c a=some r):∃σ' b d,a σ' b=some d:=by
 unfold jh at h;split at h<;>try cases h
 split at h<;>cases h;exact⟨_,_,_,by assumption⟩
theorem qA1(d:zp P C){ex:yE}{f:FuncId}{a:List AV}{r:AV×Option St}(h:qaW C ex σ f a=some r):qc6 P f:=by
 obtain⟨fn,g,h⟩|h:=qju h
 .let⟨c,_,_,_,i,_⟩:=qu4 h;let⟨k,j,_⟩:=d.inl f fn g;exact⟨fn,k,by rw[i];rfl,j⟩
 unfold JC at h;split at h
 .let⟨_,_,_,e⟩:=qpJ h;exact quy d e
 .rename_i σ' _;cases b:jh σ' _ (λ σ a=>JP C ex σ f a)with
  |none=>rw[b]at h;cases h
  |some l=>let⟨_,_,_,e⟩:=qpJ b;exact quy d e
theorem qzg(q:zp P C){ex:yE}(K:qai P ex){m:List AV}{a:Act}{o:Oper}{x:AV}{σ':Option St}(y:Inv Γ σ w)(s:qQ Γ m a)(h:opA C ex m σ o.op=some (x,σ')):qFl P Γ σ w o a x σ':=by
 by_cases i:∃c,o.op=.call c
 .let⟨c,u⟩:=i;rw[u]at h;have j:RepL Γ (c.args.toList.map (aev m)) (c.args.toList.map a.eval):=qoc s.ev _;simp only[opA]at h;split at h
  .rename_i b O;let⟨⟨v,w',Γ',r,I,H,G⟩,M⟩:=qGn (P:=P) (ty:=o.type) (cs:=c.args.map λ|.const _=>true|_=>false) q.ty y j h;refine jy.wp ⟨_,v,w',Γ',?_,.inl rfl,I,H,G⟩ M;have e:(c.args.toList.map a.eval).toArray=c.args.map a.eval:=by rw[<-xR]
   rw[e]at r;unfold execOp;rw[u];simp only[resolve,O,Sem.run_bind];exact r
  .split at h<;>try cases h
   rename_i f k d
   have E:∃g,c.callee=.value g/\aev m g=.fn f k:=by
    unfold qdo at d;split at d<;>try cases d
    rename_i g A;split at d<;>cases d;rename_i D;exact⟨g,A,D⟩
   let⟨g,A,D⟩:=E;have p:=D▸s.ev g;generalize z:a.eval g=R at p;cases p with
   |fn f k us L t=>
     have B:=qA1 q h;have F:=qzQ q K y (j.append (RepL.mk L t)) h;intro next Q l
     unfold Oper.wp
     have n:(execOp a.eval o).run P w=.ok (.enter f ((c.args.toList.map a.eval++us).toArray)) w:=by
      unfold execOp;rw[u];simp only[resolve,A,z,Deferred.ofValue,Sem.run_bind]
      have e:c.args.map a.eval++us.toArray=(c.args.toList.map a.eval++us).toArray:=by
       rw[<-xR];simp
      rw[<-e,Array.empty_append];exact qeC B _ w
     rw[n,Oper.upon_enter];refine Calls.mono F ?_;rintro e w' ⟨v,Γ',rfl,r,I,H,G⟩;exact l v w' Γ' r I H G
 .have J:qc C m σ o.op=some (x,σ'):=by
    unfold opA at h;split at h
    .rename_i c N;exact absurd ⟨c,N⟩ i
    .exact h
  exact(qGl q.ty y s.ev J).wp (qzv J)
end
end Go.AmZ
namespace Go.AmZ
open Go Go.RowKit
section
variable {P:Program}{C:Cfg}{Γ:Gh}{σ:St}{w:World}{ops:Array Oper}
theorem qex{k:List AV}{a:Act}{o:Oper}{b:Bool}(n:qQ Γ k a)(h:zw ops k o=some b):Region.wanted o (yielded ops a.tmps)=b:=by
 unfold zw at h;unfold Region.wanted;split at h
 .rename_i f;cases h;rw[f]
 .rename_i j i f;rw[f];simp only;split at h<;>try cases h
  rename_i d q;have e:=n.get d;unfold yielded;rw[q];simp only[Option.bind_some];split at h
  .rename_i c g;cases h;rw[g]at e;have:=qK e;rw[wH]at this;cases l:a.tmps[d]? with
   |none=>rw[l]at this;cases this
   |some v=>rw[l]at this;cases this;simp[jP]
  .rename_i g;cases h;rw[g]at e;generalize m:a.tmps.getD d undef=u at e;cases e with
   |tup cs us r p=>
     rw[wH]at m;grind
  .cases h
theorem qv3(t:zp P C){ex:yE}(q:qai P ex){d:Bool}{Q:Exit->Act->World->Prop}{g:S}:∀(b:List Oper) (i:Nat) (s:S) (Γ:Gh) (w:World) (a:Act),(∀j,b[j]?=ops[i+j]?)->qT C ex ops d b s=some g->Inv Γ s.σ w->qQ Γ s.tm a->
  (∀Γ' w' D,Ext Γ w Γ' w'->Inv Γ' g.σ w'->qQ Γ' g.tm D->qv s.σ g.σ->D.defers=a.defers->Q .normal D w')->wpOps P ops Q (List.range' i b.length) a w
 |[],i,s,Γ,w,a,_,h,n,f,m=>by
   simp only[qT,wn]at h;subst h;exact m Γ w a (.refl _ _) n f (.refl _) rfl
 |o::b,i,s,Γ,w,a,E,h,n,f,m=>by
   have G:ops[i]?=some o:=by simpa using(E 0).symm
   have l:∀j,b[j]?=ops[i+1+j]?:=λ j=>by have:=E (j+1);simpa[wN,wad 1 j]using this
   simp only[wB,List.range'_succ,wpOps,G]
   have F:∀x σ',opA C ex s.tm s.σ o.op=some (x,σ')->qT C ex ops d b ⟨Jx s.tm o.dst x,turn s.σ σ'⟩=some g->o.wp P a w (wpOps P ops Q (List.range' (i+1) b.length)) Q:=by
    intro x σ' c k;refine qzg t q n f c _ _ ?_;intro u w' Γ' e1 K J I;refine qv3 t q b (i+1) _ Γ' w' _ l k K (qQ.put (war e1.le f) o.dst J) ?_;intro e p B A z g3 y v;exact m e p B (e1.trans A) z g3 (I.trans y) (by rw[v];cases H:o.dst<;>rfl)
   simp only[qT]at h;split at h
   .rename_i r;rw[if_pos (qex f r)];left;split at h
    .rename_i x c;exact F x none c h
    .rename_i x σ' c;split at h
     .cases h
     .exact F x (some σ') c h
    .cases h
   .rename_i r;rw[if_neg (by rw[qex f r];exact xd)];refine qv3 t q b (i+1) _ Γ w _ l h n (qQ.put f o.dst (.tup [] [] rfl λ i x u h=>by simp at h)) ?_;intro e p B A z g3 y v;exact m e p B A z g3 y (by rw[v];cases H:o.dst<;>rfl)
   .cases h
end
end Go.AmZ
namespace Go.AmZ
open Go Go.RowKit
section
variable {P:Program}{C:Cfg}{Γ:Gh}{σ:St}{w:World}{ops:Array Oper}{ex:yE}
def Js(C:Cfg)(ex:yE)(ops:Array Oper)(o:Oper)(s:S)(y:AV×Option St):Prop:=
 (zw ops s.tm o=some true/\opA C ex s.tm s.σ o.op=some y)\/(zw ops s.tm o=some false/\y=(qdE,none))
def zd(s:S)(o:Oper)(y:AV×Option St):S:=⟨Jx s.tm o.dst y.1,turn s.σ y.2⟩
def F(ops:List Oper)(l:List (AV×Option St))(s0:S)(L:Nat->Bool):Nat->S
 |0=>s0
 |k+1=>match ops[k]?,l[k]?,L k with
   |some o,some y,true=>zd (F ops l s0 L k) o y
   |_,_,_=>F ops l s0 L k
def qi:Nat->Bool:=λ _=>true
theorem qqZ(o:Oper)(a:List Oper)(y:AV×Option St)(l:List (AV×Option St))(s:S):∀k,F (o::a) (y::l) s qi (k+1)=F a l (zd s o y) qi k
 |0=>rfl
 |k+1=>by
   show(match(o::a)[k+1]?,(y::l)[k+1]?,qi (k+1)with
    |some c,some b,true=>zd (F (o::a) (y::l) s qi (k+1)) c b
    |_,_,_=>F (o::a) (y::l) s qi (k+1))=_
   rw[qqZ o a y l s k];simp only[List.getElem?_cons_succ];rfl
theorem qe5:∀(a:List Oper) (s e:S),qT C ex ops true a s=some e->∃l,l.length=a.length/\F a l s qi a.length=e/\
  (∀i o,a[i]?=some o->∃y,l[i]?=some y/\Js C ex ops o (F a l s qi i) y/\(y.2.isSome=true->qM C.lo o.op=true))/\
  ∀i o y,a[i]?=some o->l[i]?=some y->y.2.isSome=true->qar C ops (ops.size-(a.length-i)) (F a l s qi i).tm (F a l s qi i).σ o.op=true
 |[],s,e,h=>by
   simp only[qT,wn]at h;exact⟨[],rfl,h,λ i o c=>by simp at c,λ i o y c=>by simp at c⟩
 |o::a,s,e,h=>by
   have m:∀y,Js C ex ops o s y->(y.2.isSome=true->qM C.lo o.op=true/\qar C ops (ops.size-(a.length+1)) s.tm s.σ o.op=true)->qT C ex ops true a (zd s o y)=some e->∃l,l.length=(o::a).length/\F (o::a) l s qi (o::a).length=e/\
     (∀i d,(o::a)[i]?=some d->∃y,l[i]?=some y/\Js C ex ops d (F (o::a) l s qi i) y/\(y.2.isSome=true->qM C.lo d.op=true))/\
     ∀i d y,(o::a)[i]?=some d->l[i]?=some y->y.2.isSome=true->qar C ops (ops.size-((o::a).length-i)) (F (o::a) l s qi i).tm (F (o::a) l s qi i).σ d.op=true:=by
    intro y q b j;let⟨l,w,v,u,t⟩:=qe5 a _ e j;refine⟨y::l,by simp[w],?_,λ i d c=>?_,λ i d p c f n=>?_⟩
    .rw[wB,qqZ];exact v
    .cases i with
     |zero=>simp at c;subst c;exact⟨y,rfl,q,λ h=>(b h).1⟩
     |succ i=>
       rw[qqZ];simpa using u i d (by simpa using c)
    .cases i with
     |zero=>simp at c f;subst c;subst f;exact(b n).2
     |succ i=>
       rw[qqZ,wB,Nat.add_sub_add_right];exact t i d p (by simpa using c) (by simpa using f) n
   simp only[qT]at h;split at h
   .rename_i k;split at h
    .rename_i x g;exact m (x,none) (.inl ⟨k,g⟩) (by simp) h
    .rename_i x σ' g;split at h
     .cases h
     .rename_i r;exact m (x,some σ') (.inl ⟨k,g⟩) (λ _=>by simpa using r) h
    .cases h
   .rename_i k;exact m (qdE,none) (.inr ⟨k,rfl⟩) (by simp) h
   .cases h
theorem qlZ{b a:List AV}{xs:List Operand}(h:∀t∈xs.filterMap (λ|.tmp t=>some t|_=>none),b.getD t .dead=a.getD t .dead):∀x∈xs,aev b x=aev a x:=by
 intro x c;cases x with
 |tmp t=>exact h t (kQ.2 ⟨_,c,rfl⟩)
 |_=>rfl
theorem qo8{g d:List AV}{op:Op}(h:∀x∈op.operands.toList,aev g x=aev d x):opA C ex g σ op=opA C ex d σ op:=by
 have j:∀ps:Array (Nat×Operand),(∀x∈ps.toList.map (·.2),aev g x=aev d x)->(ps.toList.map λ p=>(p.1,aev g p.2))=ps.toList.map λ p=>(p.1,aev d p.2):=λ ps v=>
  kS λ p A=>by rw[v p.2 (wI.2 ⟨p,A,rfl⟩)]
 cases op with
 |call c=>
   have E:c.args.toList.map (aev g)=c.args.toList.map (aev d):=kS λ x o=>h x (by
    simp only[Op.operands,Call.operands];cases c.callee<;>simp[o]<;>(right;simpa using o))
   simp only[opA,E];cases D:c.callee with
   |builtin b=>rfl
   |value f=>
     have B:aev g f=aev d f:=h f (by simp[Op.operands,Call.operands,D]);simp only[qdo,B]
   |invoke r n=>rfl
 |build t ps=>simp only[opA,qc,j ps (λ x o=>h x (by simpa[Op.operands]using o))]
 |buildSlice t n ps=>
   have v:=j ps (λ x o=>h x (by simpa[Op.operands]using o))
   have e1:(ps.toList.flatMap λ p=>rsA (aev g p.2))=ps.toList.flatMap λ p=>rsA (aev d p.2):=by
    have:=congrArg (λ l=>List.flatMap (λ p:Nat×AV=>rsA p.2) l) v;simpa[xT]using this
   have I:(ps.toList.map λ p=>(cellsOf (aev g p.2)).map (qB σ.rw))=ps.toList.map λ p=>(cellsOf (aev d p.2)).map (qB σ.rw):=by
    have:=congrArg (λ l=>List.map (λ p:Nat×AV=>(cellsOf p.2).map (qB σ.rw)) l) v;simpa[xc,Function.comp]using this
   simp only[opA,qc,v,e1,I]
 |makeFunc f J cs=>
   have z:cs.toList.map (aev g)=cs.toList.map (aev d):=kS λ x o=>h x (by simp only[Op.operands,xa,wi];exact .inr o);cases f<;>simp only[opA,qc,z]
 |slice t x lo w m=>
   cases m with
   |some m=>simp[opA,qc]
   |none=>
     have H:aev g x=aev d x:=h x (by simp[Op.operands])
     have G:lo.map (aev g)=lo.map (aev d):=by
      cases lo with
      |none=>rfl
      |some y=>simp only[kr];rw[h y (by simp[Op.operands])]
     have F:w.map (aev g)=w.map (aev d):=by
      cases w with
      |none=>rfl
      |some y=>simp only[kr];rw[h y (by simp[Op.operands])]
     simp only[opA,qc,H,G,F]
 |move x|assign x=>simp only[opA,qc,h x (by simp[Op.operands])]
 |pick c a b=>simp only[opA,qc,h c (by simp[Op.operands]),h a (by simp[Op.operands]),h b (by simp[Op.operands])]
 |box e x|load t x=>simp only[opA,qc,h x (by simp[Op.operands])]
 |store t x y|makeSlice t x y=>simp only[opA,qc,h x (by simp[Op.operands]),h y (by simp[Op.operands])]
 |nilCheck x=>simp only[opA,qc,h x (by simp[Op.operands])]
 |binOp op t x y u=>simp only[opA,qc,h x (by simp[Op.operands]),h y (by simp[Op.operands])]
 |unOp op t x|convert s t x|fieldAddr t x i|field t x i=>simp only[opA,qc,h x (by simp[Op.operands])]
 |indexAddr t x y|index t x y=>simp only[opA,qc,h x (by simp[Op.operands]),h y (by simp[Op.operands])]
 |extract x i=>simp only[opA,qc,h x (by simp[Op.operands])]
 |makeMap t r=>cases r<;>simp only[opA,qc]
 |lookup t m k q=>simp only[opA,qc,h m (by simp[Op.operands]),h k (by simp[Op.operands])]
 |mapUpdate t m k y|insert t m k y=>simp only[opA,qc,qaj,h m (by simp[Op.operands]),h k (by simp[Op.operands]),h y (by simp[Op.operands])]
 |_=>simp only[opA,qc]
theorem qfS{b a:List AV}{o:Oper}(h:∀t∈Jp ops o,b.getD t .dead=a.getD t .dead):zw ops b o=zw ops a o:=by
 grind [zw,Jp]
theorem qtj{x:AV}(h:rsC x=[])(rw a:List Row):qB a x=qB rw x:=by
 cases x<;>first|rfl|(cases h;done)
theorem qiI{x:AV}(h:rsA x=[]):∀c∈cellsOf x,rsC c=[]:=by
 cases x with
 |agg cs=>exact λ c a=>ky.1 h c a
 |_=>intro c a;rw[wF.1 a];exact h
theorem qwT{ps:List (Nat×AV)}(h:∀p∈ps,rsA p.2=[])(k n:Nat)(rw a:List Row):qeP k n a ps=qeP k n rw ps:=by
 unfold qeP;congr 1;rw[xH,wo,wo]
 have e:∀p∈ps.zipIdx,((cellsOf p.1.2).all λ x=>qk (qB a x))=(cellsOf p.1.2).all λ x=>qk (qB rw x):=λ p b=>by
  have c:p.1∈ps:=(kU.1 b)|> λ h=>wc h
  rw[xH,wo,wo];grind [qtj,qiI]
 grind
theorem quC{i:List AV}{τ:St}{op:Op}{x:AV}(d:yQ op=false)(u:qM C.lo op=false)(h:opA C ex i σ op=some (x,none)):opA C ex i τ op=some (x,none):=by
 cases op with
 |call c=>
   let⟨z,B,A⟩:=c;cases z with
   |builtin b=>
     cases b<;>try (simp[yQ]at d;done)
     all_goals
      simp only[opA]at h |-
      rw[<-h];generalize B.toList.map (aev i)=g;unfold yq
      obtain _|⟨p,_|⟨q,_|⟨r,l⟩⟩⟩:=g<;>first
       |rfl
       |(cases p<;>first|rfl|(rename_i v;cases v<;>first|rfl|(cases q<;>first|rfl|(rename_i o;cases o<;>rfl))))
   |value f|invoke r n=>simp[yQ]at d
 |load t x|store t x y=>simp[yQ]at d
 |buildSlice t n ps=>
   simp only[opA,qc]at h |-
   split at h<;>try cases h
   rename_i E;split at h<;>try cases h
   rename_i j;split at h<;>cases h;rename_i w
   have s:∀p∈ps.toList.map (λ p=>(p.1,aev i p.2)),rsA p.2=[]:=λ p j=>by
    grind [List.flatMap_eq_nil_iff]
   rw[qwT s _ _ σ.rw τ.rw,j];simp only[w];congr 3;grind [List.map_congr_left,qtj,qiI,List.flatMap_eq_nil_iff]
 |indexAddr t x y|lookup t m k q|mapUpdate t m k y|insert t m k y=>simp[yQ]at d
 |makeMap t r=>simp[qM]at u
 |convert a b y=>simp[yQ]at d
 |slice t x lo D m=>
   cases m with
   |some m=>exact h
   |none=>
     simp only[opA,qc]at h;split at h
     .simp_all [opA,qc]
     .simp_all [opA,qc]
     .simp_all [opA,qc]
     .grind
     .cases h
 |alloc e=>
   simp only[opA,qc]at h;grind
 |box e y=>
   simp only[opA,qc]at h;grind
 |makeFunc f F cs=>cases f<;>exact h
 |makeSlice t a b=>
   simp only[opA,qc]at h |-
   split at h<;>try cases h
   split at h<;>try cases h
   grind
 |_=>exact h
end
end Go.AmZ
