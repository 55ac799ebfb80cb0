/- Part 1 of what the proofs stand on: plain functions of the program, and that they are its functions. -/
import Derived.WalkKit
import Derived.WalkSpells
import Derived.WalkLawsBesides
import Derived.Lib.Hide
import Derived.Laws.AppendOwnNone
import Derived.BigQuiet
import Derived.Laws.CopyRow
import Derived.Laws.Pointers
import Derived.Laws.Small
import Derived.Laws.Tables
import Derived.ArgAppend
import Derived.Laws.AppendOwn
import Derived.Laws.MakeOwn
import Derived.Laws.BytesArg
import Derived.Deep.Upon
import Derived.Lib.ConvBytes
import Derived.Laws.Sem
import Derived.Orders
set_option linter.unusedVariables false
set_option linter.unusedSimpArgs false
noncomputable section
namespace Go
abbrev wa:=@List.mem_of_getElem?
abbrev wb:=@Nat.le_refl
abbrev wc:=@List.length_append
abbrev wd:=@Bool.and_eq_true
abbrev we:=@Nat.zero_le
abbrev wg:=@List.mem_cons_of_mem
abbrev wh:=@List.mem_cons_self
abbrev wi:=@List.append_assoc
abbrev wj:=@Nat.eq_of_beq_eq_true
abbrev wk:=@List.eq_nil_of_length_eq_zero
abbrev wm:=@List.length_take
abbrev wn:=@Nat.mul_le_mul_right
abbrev wo:=@List.map_cons
abbrev wu:=@List.length_cons
abbrev wv:=@List.all_eq_true
abbrev ww:=@List.mem_append
abbrev wx:=@List.mem_cons
abbrev wy:=@List.mem_map
abbrev wz:=@Option.some.injEq
abbrev wA:=@List.length_map
abbrev wB:=@List.append_nil
abbrev wC:=@List.take_length
abbrev wD:=@Nat.le_trans
abbrev wE:=@Nat.lt_of_lt_of_le
abbrev wF:=@Int.toNat_natCast
abbrev wG:=@Nat.zero_add
abbrev wH:=@List.mem_singleton
abbrev wI:=@Nat.add_assoc
abbrev wJ:=@List.length_set
abbrev wK:=@Array.getD_eq_getD_getElem?
abbrev wL:=@Nat.not_lt_zero
abbrev wM:=@Array.length_toList
abbrev wN:=@Nat.add_mul
abbrev wO:=@List.drop_zero
abbrev wP:=@Nat.add_zero
abbrev wQ:=@List.length_drop
abbrev wR:=@Prod.mk.injEq
abbrev wS:=@List.map_append
abbrev wT:=@List.drop_length
abbrev wU:=@List.append_eq_nil_iff
abbrev wV:=@Bool.not_eq_true'
abbrev wW:=@List.getElem_mem
abbrev wX:=@List.mem_of_mem_drop
abbrev wY:=@List.mem_of_mem_take
abbrev wZ:=@List.filterMap_append
abbrev w7:=@Bool.true_and
abbrev ka:=@List.mem_flatMap
abbrev ke:=@List.length_nil
abbrev kg:=@List.foldl_cons
abbrev kh:=@Bool.or_eq_true
abbrev km:=@List.size_toArray
abbrev ko:=@Int.eq_ofNat_of_zero_le
abbrev kr:=@Nat.le_succ
abbrev kt:=@List.length_eq_zero_iff
abbrev kw:=@List.take_add_one
abbrev ky:=@Nat.add_sub_cancel_left
abbrev kz:=@List.take_append_drop
abbrev kC:=@List.all_cons
abbrev kD:=@List.sum_cons
abbrev kE:=@List.take_of_length_le
abbrev kF:=@Nat.le_add_right
abbrev kG:=@List.take_append_of_le_length
abbrev kH:=@List.length_replicate
abbrev kI:=@List.flatMap_eq_nil_iff
abbrev kJ:=@List.mem_filter
abbrev kK:=@Nat.min_eq_left
abbrev kL:=@Bool.not_eq_true
abbrev kM:=@Nat.sub_self
abbrev kN:=@Option.map_some
abbrev kO:=@Nat.le_of_ble_eq_true
abbrev kP:=@List.mem_map_of_mem
abbrev kQ:=@Nat.zero_mul
abbrev kR:=@List.mem_zipIdx_iff_getElem?
abbrev kS:=@List.mem_range
abbrev kT:=@List.nodup_nil
abbrev kU:=@Nat.succ_mul
abbrev kV:=@List.nil_append
abbrev kW:=@List.nodup_cons
abbrev kX:=@Option.some.inj
abbrev kY:=@Decidable.of_not_not
abbrev kZ:=@Classical.byContradiction
abbrev k8:=@List.map_congr_left
abbrev k9:=@Bool.false_ne_true
abbrev xa:=@List.mem_filterMap
abbrev xb:=@Bool.false_and
abbrev xc:=@List.flatMap_cons
abbrev xd:=@List.ext_getElem?
abbrev xe:=@List.foldl_append
abbrev xg:=@List.length_pos_iff
abbrev xh:=@Bool.eq_iff_iff
abbrev xi:=@List.map_map
abbrev xj:=@List.eq_of_mem_replicate
abbrev xk:=@List.filterMap_cons_some
abbrev xl:=@Bool.and_self
abbrev xm:=@List.length_range
abbrev xn:=@Array.toList_append
abbrev xo:=@List.flatten_append
abbrev xp:=@Array.toList_replicate
abbrev xq:=@Array.toList_setIfInBounds
abbrev xr:=@Nat.mod_eq_of_lt
abbrev xt:=@List.not_mem_nil
abbrev xu:=@Nat.lt_succ_self
abbrev xw:=@Nat.one_mul
abbrev xx:=@Option.map_none
abbrev xy:=@Nat.le_of_lt
abbrev xz:=@Bool.or_true
abbrev xA:=@Bool.true_or
abbrev xB:=@List.filterMap_cons_none
abbrev xC:=@Array.size_append
abbrev xD:=@Nat.succ_le_succ
abbrev xE:=@List.take_zero
abbrev xF:=@Nat.mul_comm
abbrev xG:=@List.length_filter_le
abbrev xH:=@Nat.ble_eq_true_of_le
abbrev xI:=@Bool.or_eq_false_iff
abbrev xJ:=@List.set_eq_take_append_cons_drop
abbrev xK:=@Ne.symm
abbrev xL:=@List.take_take
abbrev xM:=@Array.size_setIfInBounds
abbrev xN:=@Nat.succ_pos
abbrev xO:=@List.filter_cons_of_neg
abbrev xP:=@List.filter_cons_of_pos
abbrev xQ:=@Nat.lt_irrefl
abbrev xR:=@Bool.false_or
abbrev xS:=@Nat.mod_lt
abbrev xT:=@List.filter_append
abbrev xU:=@Nat.add_sub_cancel
abbrev xV:=@List.length_eq_one_iff
abbrev xW:=@Nat.div_lt_iff_lt_mul
abbrev xX:=@List.mem_append_right
abbrev xY:=@Nat.ne_of_lt
abbrev xZ:=@Bool.and_eq_false_iff
abbrev va:=@UInt8.lt_iff_toNat_lt
abbrev vb:=@Bool.and_false
abbrev vc:=@Array.toList_map
abbrev vd:=@List.mem_append_left
abbrev ve:=@List.isEmpty_iff
abbrev vf:=@List.flatMap_map
abbrev vg:=@List.replicate_succ'
abbrev vh:=@Bool.and_true
abbrev vj:=@Int.le_refl
abbrev vk:=@List.take_set_of_le
abbrev vl:=@List.filterMap_cons
abbrev vm:=@List.replicate_zero
abbrev vn:=@Nat.div_add_mod
abbrev vp:=@Nat.eq_zero_or_pos
abbrev vq:=@List.map_nil
abbrev vt:=@Bool.not_false
abbrev vu:=@List.pairwise_singleton
abbrev vw:=@List.flatten_cons
abbrev vx:=@Function.comp_def
abbrev vy:=@Nat.le_mul_of_pos_left
abbrev vz:=@List.zipIdx_cons
abbrev vA:=@List.cons_ne_nil
abbrev vB:=@Array.size_range
abbrev vC:=@List.countP_replicate
abbrev vD:=@List.mem_iff_getElem?
abbrev vF:=@List.set_append_right
abbrev vG:=@List.replicate_append_replicate
abbrev vH:=@List.contains_eq_mem
abbrev vJ:=@Array.toArray_toList
abbrev vK:=@Nat.le_of_eq
abbrev vL:=@Nat.add_le_add_left
abbrev vM:=@List.drop_set_of_lt
abbrev vN:=@Nat.mul_le_mul_left
abbrev vO:=@Nat.mul_le_mul
abbrev vP:=@Nat.lt_of_le_of_lt
abbrev vQ:=@List.length_modify
abbrev vR:=@Bool.false_eq_true
abbrev vS:=@Bool.not_eq_false'
abbrev vU:=@List.sublist_flatten_of_mem
abbrev vV:=@Int.fdiv_eq_ediv_of_nonneg
abbrev vW:=@List.any_cons
abbrev vX:=@Array.size_mapIdx
abbrev vY:=@Nat.mul_sub_right_distrib
abbrev vZ:=@List.drop_eq_getElem_cons
abbrev waa:=@List.flatMap_def
abbrev wab:=@Nat.add_comm
abbrev wac:=@Nat.lt_of_not_le
abbrev wad:=@Nat.le_of_not_lt
abbrev wae:=@List.all_map
abbrev waf:=@Option.isSome_iff_exists
abbrev wag:=@List.any_eq_true
abbrev wah:=@List.mem_flatten
abbrev wai:=@Nat.zero_lt_one
abbrev waj:=@List.range_succ
abbrev wak:=@Nat.mul_pos
abbrev wal:=@Nat.mul_one
abbrev wam:=@List.filter_eq_nil_iff
abbrev wan:=@Nat.sub_mul
abbrev wao:=@List.take_left
abbrev wap:=@List.contains_iff_mem
abbrev waq:=@Int.emod_emod
end Go
namespace Go.GxZ
open Go.RowKit
theorem qIY{α : Type}(e:Ask α):∀ w:World,w.drawn<=(w.ask e).2.drawn:=by
 induction e with
 | done a=>exact λ w=>wb _
 | ask c b k d =>
   intro w;unfold World.ask;grind
theorem qIg(w:World)(c:Sys):w.drawn<=(w.sys c).2.drawn:=by
 have h:=qIY (Kernel.perform c w.os) w;unfold World.sys;grind
theorem qHU{p:Program}{w w':World}{a:Addr}{v:Value}{b:Bool}{l:List Addr}(h:w.farStore p a v b = .ok (w',l)):w'.drawn=w.drawn:=by
 unfold World.farStore at h;split at h
 ·split at h
  ·rename_i r c;cases h;unfold World.viewStore at c;simp only[bind,Except.bind,pure,Except.pure,throw,throwThe,MonadExceptOf.throw]at c
   repeat' split at c
   all_goals first | (cases c;done) | (cases c;rfl) | skip
  ·cases h
 ·cases h
theorem run_drawn{p:Program}{α : Type}(e:Sem α):∀{w w':World} {a : α},e.run p w = .ok a w'->w.drawn<=w'.drawn:=by
 induction e with
 | pure a=>intro w w' b h;cases h;exact wb _
 | load m a k d =>
   intro w w' b h;simp only[Sem.run]at h;grind
 | store m a v k d =>
   intro w w' b h
   cases v<;>simp only[Sem.run]at h<;>first
    | (cases h;done)
    | (split at h
       ·split at h
        ·cases h
        ·have:=d h;exact this
       ·split at h
        ·rename_i f;have:=d h;rw[qHU f]at this;exact this
        ·cases h)
 | new o k d=>intro w w' b h;simp only[Sem.run]at h;have:=d _ h;exact this
 | shape r k d=>intro w w' b h;simp only[Sem.run]at h;exact d _ h
 | freeze a n k d =>
   intro w w' b h;simp only[Sem.run]at h;have:=d h;have e:(w.freeze a n).drawn=w.drawn:=by unfold World.freeze;split<;>rfl
   rw[e]at this;exact this
 | frozen a k d=>intro w w' b h;simp only[Sem.run]at h;exact d _ h
 | getObj r k d =>
   intro w w' b h;simp only[Sem.run]at h;grind
 | setObj r o k d =>
   intro w w' b h;simp only[Sem.run]at h;grind
 | choose q k d =>
   intro w w' b h;simp only[Sem.run]at h;grind
 | sys c k d =>
   intro w w' b h;simp only[Sem.run]at h;exact wD (qIg w c) (d _ h)
 | program k d=>intro w w' b h;simp only[Sem.run]at h;exact d _ h
 | mark m k d=>intro w w' b h;simp only[Sem.run]at h;exact d h
 | halt h=>intro w w' b h;simp only[Sem.run]at h;cases h
structure qPC (B:Nat) (w:World) where
 val:World
 below:Below B w val
instance (B:Nat)(w:World):Nonempty (qPC B w):=⟨⟨w,Below.refl _ _⟩⟩
end Go.GxZ
namespace Go.AmZ
open Go
inductive AV where
 | v (x:Value)
 | dead
 | sl (k:Nat) (es:List (List AV)) (lv:Nat)
 | rs (r lo n ep:Nat) (full:Bool)
 | ptr (b o:Nat)
 | rpt (r i o ep:Nat)
 | ept (cs:List AV) (o:Nat)
 | fn (f:FuncId) (caps:List AV)
 | agg (cs:List AV)
 | tup (vs:List AV)
 deriving Inhabited
structure Row where
 k:Nat
 c:List (List AV)
 ver:Nat
 fz:Nat
 off:Bool
structure St where
 bx:List (List AV)
 rw:List Row
 wr:List Nat
 wrr:List Nat
structure S where
 tm:List AV
 σ : St
inductive TK where
 | other | bool | int (k:IntKind) | string | ptr | slice (e esz ebytes:Nat) (ez:List Value) | struct (fs:List (Nat × Nat × Bool)) | array (n e esz:Nat)
structure TD where
 size:Nat
 bytes:Nat
 agg:Bool
 zero:List Value
 k:TK
def quv:TypeDesc->Bool
 | .struct _ | .array _ _=>true
 | _=>false
def qbm(P:Program):List Field->Option (List (Nat × Nat × Bool))
 | []=>some []
 | f::a=>match P.info? f.type,P.underlying f.type,qbm P a with
   | some i,some u,some l=>some ((f.offset,i.size,quv u)::l)
   | _,_,_=>none
def qcw(P:Program):TypeDesc->Option TK
 | .bool=>some .bool
 | .int k=>some (.int k)
 | .string=>some .string
 | .pointer _=>some .ptr
 | .slice e=>match P.info? e with
   | some i=>match i.zero with
     | some z=>some (.slice e i.size i.bytes z.cells.toList)
     | none=>none
   | none=>none
 | .struct a=>(qbm P a.toList).map .struct
 | .array n e=>match P.info? e with
   | some i=>some (.array n e i.size)
   | none=>none
 | _=>some .other
def jD(P:Program)(t:TypeId):Option TD :=
 match P.info? t,P.underlying t with
 | some i,some u=>match i.zero,qcw P u with
   | some z,some k=>some ⟨i.size,i.bytes,quv u,z.cells.toList,k⟩
   | _,_=>none
 | _,_=>none
def iw(k:IntKind)(n:Int):Int:=k.wrap n
def qe(a b:Int):Int:=a+b
def zq(a b:Int):Int:=a-b
def qtu(a b:Int):Int:=a*b
def qiJ(a b:Int):Int:=a.tdiv b
def jr(a b:Int):Int:=a.tmod b
def ieq(a b:Int):Bool:=a==b
def ilt(a b:Int):Bool:=decide (a<b)
def ile(a b:Int):Bool:=decide (a<=b)
def qnZ(a b:Int):Int:=if a<b then b else a
def qJU(a b:Int):Int:=if b<a then b else a
def qmj(op:BinOp)(k:IntKind)(a b:Int):Int :=
 match op with
 | .and=>k.wrap (BitVec.ofInt k.bits a &&& BitVec.ofInt k.bits b).toNat
 | .or=>k.wrap (BitVec.ofInt k.bits a ||| BitVec.ofInt k.bits b).toNat
 | .xor=>k.wrap (BitVec.ofInt k.bits a ^^^ BitVec.ofInt k.bits b).toNat
 | _=>k.wrap (BitVec.ofInt k.bits a &&& ~~~BitVec.ofInt k.bits b).toNat
def qxU(k:IntKind)(a b:Int):Int:=k.wrap (a*2 ^ (min b.toNat k.bits))
def qbG(k:IntKind)(a b:Int):Int:=a.fdiv (2 ^ (min b.toNat k.bits))
def qd(a:Bool):Bool := !a
def qdG(a b:Bool):Bool:=a==b
def xeq(a b:ByteArray):Bool:=a.data.toList==b.data.toList
def xlt(a b:ByteArray):Bool:=Op.bytesLess a.data.toList b.data.toList
def qrK(a b:Bool):Bool:=a||b
def qG8(a b:ByteArray):Option ByteArray:=if((a.size+b.size:Nat):Int) > IntKind.i64.max then none else some (a++b)
def qpf(a:ByteArray):Nat:=a.size
def qGt(s:ByteArray)(j:Int):Option Int:=if 0<=j then(match s.data.toList[j.toNat]? with
 | some b=>some b.toNat
 | none=>none)else none
def qDa(s:ByteArray)(l h:Nat):ByteArray:=s.extract l h
def bnd(y:Nat)(i:Int):Option Nat:=if 0<=i/\i<=y then some i.toNat else none
def qaM(es:List (List AV)):Nat:=es.length
def qyn(es:List (List AV))(j:Int):Option (List AV):=if 0<=j then es[j.toNat]? else none
def qHe(es:List (List AV))(l h:Nat):List (List AV):=(es.take h).drop l
def zi(a b:Nat):Bool:=decide (a=b)
def lv1:Nat->Nat
 | 0=>0
 | _+1=>1
def lvS(f:Nat)(b:Bool):Nat:=match decide (1<f)&&b with | true=>2 | false=>1
def pos(n:Nat):Bool:=decide (0<n)
def qy:AV->Bool
 | .v _ | .sl _ _ _=>true
 | _=>false
def uni(k:Nat)(es:List (List AV)):Bool:=es.all λ e=>decide (e.length=k)&&e.all qy
def qm9(R:Row)(k lo n a:Nat):Option (List (List AV)):=if R.k=k/\R.ver=a/\lo+n<=R.c.length then some ((R.c.drop lo).take n)else none
def qAN(R:Row)(k lo n a:Nat)(j:Int):Option Nat:=if R.k=k/\0<=j/\j<n/\R.ver=a/\lo+n<=R.c.length then some (lo+j.toNat)else none
def qsz(R:Row)(i a:Nat):Option (List AV):=if R.ver=a then R.c[i]? else none
def qsS(R:Row)(k lo n a:Nat)(f:Bool)(bytes:Nat)(xs:List (List AV)):Option (Row × Nat) :=
 if R.k=k/\R.ver=a/\n=R.c.length/\lo=0/\f=false/\R.fz<=R.c.length/\(n+xs.length)*bytes<=2 ^ 47/\n+xs.length<2 ^ 62 then some ({ R with c:=R.c++xs,ver:=R.ver+1 },n+xs.length)else none
def rowNew(k bytes:Nat)(xs:List (List AV)):Option (Row × Nat):=if xs.length*bytes<=2 ^ 47/\xs.length<2 ^ 62 then some (⟨k,xs,0,0,false⟩,xs.length)else none
def qAR(R:Row)(k lo n a l:Nat):Option Row :=
 if R.k=k/\R.ver=a/\n=R.c.length/\lo=0/\l<=n/\R.fz<=R.c.length then some { R with c:=R.c.drop l,ver:=R.ver+1,fz:=R.fz-l,off:=true }else none
def qsv(R:Row)(i o a size:Nat)(xs:List AV):Option Row:=match decide (R.ver=a/\R.fz<=i/\o+size<=R.k/\xs.length=size/\R.off=false)&&xs.all qy,R.c[i]? with
 | true,some e=>some { R with c:=R.c.set i (e.take o++(xs++e.drop (o+size))) }
 | _,_=>none
def qbU(b:ByteArray):List (List AV):=b.data.toList.map λ c=>[.v (.int .u8 c.toNat)]
def qGr:List AV->Option UInt8
 | [.v (.int .u8 n)]=>some (UInt8.ofNat n.toNat)
 | _=>none
def qsA:List (List AV)->Option (List UInt8)
 | []=>some []
 | e::l=>match qGr e,qsA l with
   | some b,some r=>some (b::r)
   | _,_=>none
def qre:AV->Bool
 | .ptr _ _ | .rpt _ _ _ _ | .ept _ _=>true
 | _=>false
def qBG:AV->Bool
 | .v (.pointer none)=>true
 | _=>false
def qq9:Option TD->Bool
 | some ⟨_,_,_,_,.int .u8⟩=>true
 | _=>false
def ql6(es xs:List (List AV)):List (List AV):=es++xs
def qme(R:Row):Row:={ R with fz:=max R.fz R.c.length }
def zu:Value->Bool
 | .bool _ | .int _ _ | .string _ | .pointer none | .slice none 0 0 | .map none | .nilFunc | .nilIface=>true
 | _=>false
def ofC(x:Value):AV:=match zu x with | true => .v x | false => .dead
def qss:Value->AV
 | .agg cs=>match cs.toList.all zu with
   | true => .agg (cs.toList.map .v)
   | false => .dead
 | .tuple vs=>match vs.toList with
   | [] => .tup []
   | _ => .dead
 | x=>ofC x
def aev(tm:List AV):Operand->AV
 | .tmp t=>tm.getD t .dead
 | .const x=>qss x
 | .func f => .fn f []
 | .global _ => .dead
def cellsOf:AV->List AV
 | .agg cs=>cs
 | x=>[x]
def isC:AV->Bool
 | .agg _ | .tup _ | .dead=>false
 | _=>true
def elems(rw:List Row)(k:Nat):AV->Option (List (List AV))
 | .v (.slice none 0 0)=>some []
 | .sl a es _=>match zi a k with
   | true=>some es
   | false=>none
 | .rs r lo n b _=>match rw[r]? with
   | some R=>qm9 R k lo n b
   | none=>none
 | _=>none
def zk(rw:List Row):AV->AV
 | .sl k es f => .sl k es (lv1 f)
 | .rs r lo n a _=>match rw[r]? with
   | some R=>match qm9 R R.k lo n a with
     | some es => .sl R.k es 1
     | none => .dead
   | none => .dead
 | x=>x
def QN(rw:List Row):AV->AV
 | .agg cs => .agg (cs.map (zk rw))
 | x=>zk rw x
def rsC:AV->List Nat
 | .rs r _ _ _ _=>[r]
 | _=>[]
def rsA:AV->List Nat
 | .agg cs=>cs.flatMap rsC
 | x=>rsC x
def frz(rw:List Row)(a:List Nat):List Row:=a.foldl (λ l r=>l.modify r qme) rw
mutual
def rb:AV->List Nat
 | .ptr b _=>[b]
 | .fn _ cs=>rbL cs
 | .agg cs=>rbL cs
 | .tup cs=>rbL cs
 | _=>[]
def rbL:List AV->List Nat
 | []=>[]
 | x::l=>rb x++rbL l
end
mutual
def rr:AV->List Nat
 | .rs r _ _ _ _=>[r]
 | .rpt r _ _ _=>[r]
 | .fn _ cs=>rrL cs
 | .agg cs=>rrL cs
 | .tup cs=>rrL cs
 | _=>[]
def rrL:List AV->List Nat
 | []=>[]
 | x::l=>rr x++rrL l
end
mutual
def ren(fb fr:Nat->Nat):AV->AV
 | .ptr b o => .ptr (fb b) o
 | .rs r lo n a f => .rs (fr r) lo n a f
 | .rpt r i o a => .rpt (fr r) i o a
 | .fn f cs => .fn f (zd fb fr cs)
 | .agg cs => .agg (zd fb fr cs)
 | .tup cs => .tup (zd fb fr cs)
 | x=>x
def zd(fb fr:Nat->Nat):List AV->List AV
 | []=>[]
 | x::l=>ren fb fr x::zd fb fr l
end
def refs(nb a:Nat)(x:AV):Bool:=(rb x).any (λ b=>decide (nb<=b))||(rr x).any λ r=>decide (a<=r)
def quX (b:Nat) (rw:List Row):AV->AV
 | .sl k es f => .sl k es (lv1 f)
 | .rs r lo n a f=>match decide (b<=r) with
   | true=>zk rw (.rs r lo n a f)
   | false => .rs r lo n a f
 | x=>x
def qjS(a:Nat)(rw:List Row):AV->AV
 | .agg cs => .agg (cs.map (quX a rw))
 | x=>quX a rw x
def qiU(a:Nat)(rw:List Row):AV->AV
 | .tup vs => .tup (vs.map (qjS a rw))
 | x=>qjS a rw x
def qdN(a:Bool)(size:Nat)(cs:List AV)(o:Nat):Option AV :=
 match a with
 | true=>match decide (o+size<=cs.length)with
   | true=>some (.agg ((cs.drop o).take size))
   | false=>none
 | false=>cs[o]?
def JJ(d:TD)(σ : St):AV->Option AV
 | .ptr b o=>match σ.bx[b]? with
   | some cs=>qdN d.agg d.size cs o
   | none=>none
 | .rpt r i o a=>match σ.rw[r]? with
   | some R=>match qsz R i a with
     | some cs=>qdN d.agg d.size cs o
     | none=>none
   | none=>none
 | .ept cs o=>qdN d.agg d.size cs o
 | _=>none
def qCv(op:BinOp)(k:IntKind)(a b:Int):Option Value :=
 match op with
 | .add=>some (.int k (iw k (qe a b)))
 | .sub=>some (.int k (iw k (zq a b)))
 | .mul=>some (.int k (iw k (qtu a b)))
 | .quo=>match ieq b 0 with
   | true=>none
   | false=>some (.int k (iw k (qiJ a b)))
 | .rem=>match ieq b 0 with
   | true=>none
   | false=>some (.int k (jr a b))
 | .and=>some (.int k (qmj .and k a b))
 | .or=>some (.int k (qmj .or k a b))
 | .xor=>some (.int k (qmj .xor k a b))
 | .andNot=>some (.int k (qmj .andNot k a b))
 | .eql=>some (.bool (ieq a b))
 | .neq=>some (.bool (qd (ieq a b)))
 | .lss=>some (.bool (ilt a b))
 | .leq=>some (.bool (ile a b))
 | .gtr=>some (.bool (ilt b a))
 | .geq=>some (.bool (ile b a))
 | _=>none
def qCs(op:BinOp)(x y:ByteArray):Option Value :=
 match op with
 | .add=>match qG8 x y with
   | some z=>some (.string z)
   | none=>none
 | .eql=>some (.bool (xeq x y))
 | .neq=>some (.bool (qd (xeq x y)))
 | .lss=>some (.bool (xlt x y))
 | .leq=>some (.bool (qrK (xlt x y) (xeq x y)))
 | .gtr=>some (.bool (qd (qrK (xlt x y) (xeq x y))))
 | .geq=>some (.bool (qd (xlt x y)))
 | _=>none
def qrs(op:BinOp)(x y:Value):Option Value :=
 match x,y with
 | .int k a,.int c b=>match op with
   | .shl=>match ilt b 0 with
     | true=>none
     | false=>some (.int k (qxU k a b))
   | .shr=>match ilt b 0 with
     | true=>none
     | false=>some (.int k (qbG k a b))
   | op=>match decide (k=c)with
     | true=>qCv op k a b
     | false=>none
 | .string a,.string b=>qCs op a b
 | _,_=>none
def unA(op:UnOp)(x:Value):Option Value :=
 match op,x with
 | .neg,.int k n=>some (.int k (iw k (zq 0 n)))
 | .not,.bool b=>some (.bool (qd b))
 | _,_=>none
def qnj(place:Nat->Option (Nat × Nat))(cells:List AV):List (Nat × AV)->Option (List AV)
 | []=>some cells
 | (i,x)::a=>match place i with
   | none=>none
   | some (off,size)=>match decide ((cellsOf x).length=size)&&decide (off+size<=cells.length)&&(cellsOf x).all isC with
     | true=>qnj place (cells.take off++(cellsOf x++cells.drop (off+size))) a
     | false=>none
def qwu(y:Nat):AV->Option Nat
 | .v (.int _ i)=>bnd y i
 | _=>none
def qdB(d:Nat)(y:Nat):Option AV->Option Nat
 | none=>some d
 | some x=>qwu y x
structure Cfg where
 ty:Nat->Option TD
 fn:Nat->Option Func
 prim:Nat->Option (St->List AV->Option (AV × Option St))
 raw:Nat->Bool
 pur:Code->List Nat
 lo:Nat->Bool
def qiW(k n:Nat)(rw:List Row)(ps:List (Nat × AV)):Bool :=
 decide (ps.length=n)&&decide (n*k<=2 ^ 24)&&decide (0<k)&&(ps.zipIdx).all λ p=>decide (p.1.1=p.2)&&decide ((cellsOf p.1.2).length=k)&&(cellsOf p.1.2).all λ x=>qy (zk rw x)
def qc(C:Cfg)(tm:List AV)(σ : St)(op:Op):Option (AV × Option St) :=
 match op with
 | .move x | .assign x=>some (aev tm x,none)
 | .pick c a b=>match aev tm c with
   | .v (.bool true)=>some (aev tm a,none)
   | .v (.bool false)=>some (aev tm b,none)
   | _=>none
 | .alloc e=>match C.ty e with
   | some d=>match d.zero.all zu with
     | true=>some (.ptr σ.bx.length 0,some { σ with bx := σ.bx++[d.zero.map .v] })
     | false=>none
   | none=>none
 | .box e x=>match C.ty e with
   | some _=>match(cellsOf (aev tm x)).all isC with
     | true=>some (.ptr σ.bx.length 0,some { σ with bx := σ.bx++[cellsOf (aev tm x)] })
     | false=>none
   | none=>none
 | .build t parts=>match C.ty t with
   | some ⟨_,_,_,z,.struct u⟩=>match z.all zu with
     | true=>match qnj (λ i=>match u[i]? with | some f=>some (f.1,f.2.1) | none=>none) (z.map .v) (parts.toList.map λ p=>(p.1,aev tm p.2))with
       | some cs=>some (.agg cs,none)
       | none=>none
     | false=>none
   | _=>none
 | .buildSlice t n parts=>match C.ty t with
   | some ⟨_,_,_,_,.slice _ k _ _⟩ =>
     match qiW k n σ.rw (parts.toList.map λ p=>(p.1,aev tm p.2))with
     | true=>match parts.toList.flatMap λ p=>rsA (aev tm p.2)with
       | []=>some (.sl k (parts.toList.map λ p=>(cellsOf (aev tm p.2)).map (zk σ.rw)) 2,none)
       | r::l=>some (.sl k (parts.toList.map λ p=>(cellsOf (aev tm p.2)).map (zk σ.rw)) 2,some { σ with rw:=frz σ.rw (r::l),wrr:=(r::l) ++ σ.wrr })
     | false=>none
   | _=>none
 | .load t a=>match C.ty t with
   | some d=>match JJ d σ (aev tm a)with
     | some x=>some (x,none)
     | none=>none
   | none=>none
 | .store t a x=>match C.ty t,aev tm a with
   | some d,.ptr b o=>match σ.bx[b]? with
     | some cs=>match decide ((cellsOf (aev tm x)).length=d.size)&&decide (o+d.size<=cs.length)&&(cellsOf (aev tm x)).all isC with
       | true=>some (undefA',some { σ with bx := σ.bx.set b (cs.take o++(cellsOf (aev tm x)++cs.drop (o+d.size))),wr:=b :: σ.wr })
       | false=>none
     | none=>none
   | some d,.rpt r i o q=>match σ.rw[r]? with
     | some R=>match qsv R i o q d.size (cellsOf (aev tm x))with
       | some R'=>some (undefA',some { σ with rw := σ.rw.set r R',wrr:=r :: σ.wrr })
       | none=>none
     | none=>none
   | _,_=>none
 | .makeSlice t n m=>match C.ty t,aev tm n,aev tm m with
   | some ⟨_,_,_,_,.slice _ k bytes z⟩,.v (.int _ a),.v (.int _ b)=>match decide (a=b/\0<=a/\a.toNat*bytes<=2 ^ 47/\a.toNat<2 ^ 62/\0<k/\z.length=k)&&z.all zu&&(z.map .v).all qy with
     | true=>match zi a.toNat 0 with
       | true=>some (.sl k [] 2,none)
       | false=>some (.rs σ.rw.length 0 a.toNat 0 false,some { σ with rw := σ.rw++[⟨k,List.replicate a.toNat (z.map .v),0,0,false⟩] })
     | false=>none
   | _,_,_=>none
 | .nilCheck x=>match aev tm x with
   | .ptr b o=>some (.ptr b o,none)
   | .rpt r i o q=>some (.rpt r i o q,none)
   | .ept cs o=>some (.ept cs o,none)
   | _=>none
 | .binOp op t x y _=>match aev tm x,aev tm y with
   | .v (.bool a),.v (.bool b)=>match op,C.ty t with
     | .eql,some ⟨_,_,_,_,.bool⟩=>some (.v (.bool (qdG a b)),none)
     | .neq,some ⟨_,_,_,_,.bool⟩=>some (.v (.bool (qd (qdG a b))),none)
     | _,_=>none
   | .v (.pointer none),.v (.pointer none)=>match op,C.ty t with
     | .eql,some ⟨_,_,_,_,.ptr⟩=>some (.v (.bool true),none)
     | .neq,some ⟨_,_,_,_,.ptr⟩=>some (.v (.bool false),none)
     | _,_=>none
   | .v a,.v b=>match qrs op a b with
     | some z=>some (.v z,none)
     | none=>none
   | a,b=>match qre a&&qBG b,op,C.ty t with
     | true,.eql,some ⟨_,_,_,_,.ptr⟩=>some (.v (.bool false),none)
     | true,.neq,some ⟨_,_,_,_,.ptr⟩=>some (.v (.bool true),none)
     | _,_,_=>none
 | .unOp op _ x=>match aev tm x with
   | .v a=>match unA op a with
     | some z=>some (.v z,none)
     | none=>none
   | _=>none
 | .convert s d x=>match C.ty s,C.ty d,aev tm x with
   | some _,some ⟨_,_,_,_,.int k⟩,.v (.int _ n)=>some (.v (.int k (iw k n)),none)
   | some _,some ⟨_,_,_,_,.string⟩,.v (.string s)=>some (.v (.string s),none)
   | some ⟨_,_,_,_,.string⟩,some ⟨_,_,_,_,.slice e 1 _ _⟩,.v (.string b)=>match qq9 (C.ty e)with
     | true=>some (.rs σ.rw.length 0 b.size 0 false,some { σ with rw := σ.rw++[⟨1,qbU b,0,0,false⟩] })
     | false=>none
   | some ⟨_,_,_,_,.slice e 1 _ _⟩,some ⟨_,_,_,_,.string⟩,y=>match qq9 (C.ty e),elems σ.rw 1 y with
     | true,some es=>match qsA es with
       | some l=>some (.v (.string ⟨l.toArray⟩),none)
       | none=>none
     | _,_=>none
   | _,_,_=>none
 | .makeFunc (.func f) u cs=>match u.toList with
   | []=>some (.fn f (cs.toList.map (aev tm)),none)
   | _=>none
 | .slice t x lo w none=>match C.ty t,aev tm x with
   | some ⟨_,_,_,_,.string⟩,.v (.string s)=>match qdB (qpf s) (qpf s) (w.map (aev tm))with
     | some h=>match qdB 0 h (lo.map (aev tm))with
       | some l=>some (.v (.string (qDa s l h)),none)
       | none=>none
     | none=>none
   | some ⟨_,_,_,_,.slice _ k _ _⟩,.sl A es f=>match zi A k&&pos f with
     | true=>match qdB (qaM es) (qaM es) (w.map (aev tm))with
       | some h=>match qdB 0 h (lo.map (aev tm))with
         | some l=>some (.sl k (qHe es l h) (lvS f (zi h (qaM es))),none)
         | none=>none
       | none=>none
     | false=>none
   | some ⟨_,_,_,_,.slice _ _ _ _⟩,.v (.slice none 0 0)=>match qdB 0 0 (w.map (aev tm))with
     | some h=>match qdB 0 h (lo.map (aev tm))with
       | some _=>some (.v (.slice none 0 0),none)
       | none=>none
     | none=>none
   | some ⟨_,_,_,_,.slice _ k _ _⟩,.rs r o n q _=>match qdB n n (w.map (aev tm)),σ.rw[r]? with
     | some h,some R=>match qdB 0 h (lo.map (aev tm))with
       | some l=>match zi h n,qAR R k o n q l with
         | true,some R'=>some (.rs r 0 (n-l) (q+1) false,some { σ with rw := σ.rw.set r R',wrr:=r :: σ.wrr })
         | _,_=>none
       | none=>none
     | _,_=>none
   | _,_=>none
 | .fieldAddr t x i=>match C.ty t with
   | some ⟨_,_,_,_,.struct u⟩=>match u[i]? with
     | some (off,size,_)=>match size with
       | 0=>none
       | _+1=>match aev tm x with
         | .ptr b o=>some (.ptr b (o+off),none)
         | .rpt r j o q=>some (.rpt r j (o+off) q,none)
         | .ept cs o=>some (.ept cs (o+off),none)
         | _=>none
     | none=>none
   | _=>none
 | .field t x i=>match C.ty t,aev tm x with
   | some ⟨_,_,_,_,.struct u⟩,.agg cs=>match u[i]? with
     | some (off,size,g)=>match qdN g size cs off with
       | some y=>some (y,none)
       | none=>none
     | none=>none
   | _,_=>none
 | .indexAddr t x i=>match C.ty t,aev tm i with
   | some ⟨_,_,_,_,.slice _ k _ _⟩,.v (.int _ j)=>match aev tm x with
     | .sl A es _=>match zi A k with
       | true=>match qyn es j with
         | some cs=>some (.ept cs 0,none)
         | none=>none
       | false=>none
     | .rs r lo n q _=>match σ.rw[r]? with
       | some R=>match qAN R k lo n q j with
         | some p=>some (.rpt r p 0 q,none)
         | none=>none
       | none=>none
     | _=>none
   | some ⟨_,_,_,_,.array n _ k⟩,.v (.int _ j)=>match aev tm x with
     | .ptr b o=>match decide (0<=j/\j<(n:Int))with
       | true=>some (.ptr b (o+j.toNat*k),none)
       | false=>none
     | _=>none
   | _,_=>none
 | .index t x i=>match C.ty t,aev tm x,aev tm i with
   | some ⟨_,_,_,_,.string⟩,.v (.string s),.v (.int _ j)=>match qGt s j with
     | some b=>some (.v (.int .u8 b),none)
     | none=>none
   | _,_,_=>none
 | .extract x i=>match aev tm x with
   | .tup vs=>match vs[i]? with
     | some y=>some (y,none)
     | none=>none
   | _=>none
 | _=>none
where undefA':AV := .tup []
def yc(k bytes:Nat)(σ : St)(s:AV)(xs:List (List AV)):Option (AV × Option St) :=
 match s with
 | .v (.slice none 0 0)=>match zi (qaM xs) 0 with
   | true=>some (.v (.slice none 0 0),none)
   | false=>match rowNew k bytes xs with
     | some (R,n)=>some (.rs σ.rw.length 0 n 0 false,some { σ with rw := σ.rw++[R] })
     | none=>none
 | .sl b es f=>match zi (qaM xs) 0 with
   | true=>match pos f with
     | true=>some (.sl b es f,none)
     | false=>none
   | false=>match decide (1<f)&&zi b k&&uni k es with
     | true=>match rowNew k bytes (ql6 es xs)with
       | some (R,n)=>some (.rs σ.rw.length 0 n 0 false,some { σ with rw := σ.rw++[R] })
       | none=>none
     | false=>none
 | .rs r lo n a f=>match zi (qaM xs) 0 with
   | true=>some (.rs r lo n a f,none)
   | false=>match σ.rw[r]? with
     | some R=>match qsS R k lo n a f bytes xs with
       | some (R',m)=>some (.rs r 0 m (a+1) false,some { σ with rw := σ.rw.set r R',wrr:=r :: σ.wrr })
       | none=>none
     | none=>none
 | _=>none
def qbL:TK->Bool
 | .slice .. => true
 | _=>false
def qmp:TK->Bool
 | .string=>true
 | _=>false
def qiz(d:TD):AV->Option Nat
 | .v (.string s)=>match qmp d.k with | true=>some (qpf s) | false=>none
 | .v (.slice none 0 0)=>match qbL d.k with | true=>some 0 | false=>none
 | .sl _ es _=>match qbL d.k with | true=>some (qaM es) | false=>none
 | .rs _ _ n _ _=>match qbL d.k with | true=>some n | false=>none
 | _=>none
def jF(C:Cfg)(σ : St)(b:Builtin)(ts:Array TypeId)(c:List AV):Option (AV × Option St) :=
 match b,c with
 | .len,[x]=>match ts[0]? with
   | some t=>match C.ty t with
     | some d=>match qiz d x with
       | some n=>some (.v (.int .i64 n),none)
       | none=>none
     | none=>none
   | none=>none
 | .append,[s,x]=>match ts[0]?,ts[1]? with
   | some t,some u=>match C.ty t,C.ty u with
     | some ⟨_,_,_,_,.slice _ k bytes z⟩,some ⟨_,_,_,_,.slice _ _ _ _⟩=>match decide (0<k)&&decide (z.length=k)with
       | true=>match elems σ.rw k x with
         | some xs=>match uni k xs with
           | true=>yc k bytes σ s xs
           | false=>none
         | none=>none
       | false=>none
     | some ⟨_,_,_,_,.slice e 1 bytes z⟩,some ⟨_,_,_,_,.string⟩=>match decide (z.length=1)&&qq9 (C.ty e),x with
       | true,.v (.string b)=>yc 1 bytes σ s (qbU b)
       | _,_=>none
     | _,_=>none
   | _,_=>none
 | .max,[.v (.int k a),.v (.int f b)]=>match decide (k=f)with | true=>some (.v (.int k (qnZ a b)),none) | false=>none
 | .min,[.v (.int k a),.v (.int f b)]=>match decide (k=f)with | true=>some (.v (.int k (qJU a b)),none) | false=>none
 | _,_=>none
inductive Ex where
 | normal | exit (id:Nat) | ret
 deriving DecidableEq
def qpy(σ : St)(a:AV)(σ':St):Bool :=
 refs σ.bx.length σ.rw.length (qiU σ.rw.length σ'.rw a)||(σ'.wr.filter λ b=>decide (b < σ.bx.length)).any λ b=>(σ'.bx.getD b []).any (refs σ.bx.length σ.rw.length)
def qbM(σ : St)(a:AV)(σ':St):AV × Option St :=
 match qpy σ a σ' with
 | true=>(a,some { σ' with wr := σ'.wr.filter λ b=>decide (b < σ.bx.length),wrr := σ'.wrr.filter λ b=>decide (b < σ.rw.length) })
 | false=>match(σ'.wr.filter λ b=>decide (b < σ.bx.length)) ++ σ'.wrr.filter λ b=>decide (b < σ.rw.length)with
   | []=>(qiU σ.rw.length σ'.rw a,none)
   | _::_=>(qiU σ.rw.length σ'.rw a,some ⟨σ'.bx.take σ.bx.length,σ'.rw.take σ.rw.length,σ'.wr.filter λ b=>decide (b < σ.bx.length),σ'.wrr.filter λ b=>decide (b < σ.rw.length)⟩)
def qlc(C:Cfg)(tm:List AV)(σ : St):ResultVar->Option AV
 | .tmp t=>some (tm.getD t .dead)
 | .cell a t=>match C.ty t with
   | some d=>JJ d σ (tm.getD a .dead)
   | none=>none
def jW(C:Cfg)(tm:List AV)(σ : St):List ResultVar->Option (List AV)
 | []=>some []
 | r::l=>match qlc C tm σ r with
   | some x=>match jW C tm σ l with
     | some xs=>some (x::xs)
     | none=>none
   | none=>none
def zZ:List AV->AV
 | [x]=>x
 | l => .tup l
def qi0(C:Cfg)(fn:Func)(s:S):Option AV :=
 match jW C s.tm s.σ fn.results.toList with
 | some l=>some (zZ l)
 | none=>none
abbrev Jc:=Code->S->Option (Ex × S)
def qh9(fn:Func)(σ : St)(a:List AV):S:=⟨a++List.replicate (fn.ntmps-a.length) .dead,{ σ with wr:=[],wrr:=[] }⟩
def qjq(C:Cfg)(fn:Func)(σ : St)(a:S):Option (AV × Option St) :=
 match qi0 C fn a with
 | some r=>some (qbM σ r a.σ)
 | none=>none
def qeo(C:Cfg)(ex:Jc)(σ : St)(f:FuncId)(a:List AV):Option (AV × Option St) :=
 match C.prim f with
 | some p=>p σ a
 | none=>match C.fn f with
   | none=>none
   | some fn=>match fn.body with
     | none=>none
     | some c=>match ex c (qh9 fn σ a)with
       | some (.ret,b)=>qjq C fn σ b
       | some (.normal,b)=>qjq C fn σ b
       | _=>none
def qf(l:List Nat):List Nat->List Nat
 | []=>[]
 | b::a=>match l.contains b with
   | true=>qf l a
   | false=>b::qf (b::l) a
def qoz(a:List (List AV)):Nat->List Nat->List Nat
 | 0,l=>l
 | n+1,l=>match qf l (l.flatMap λ b=>rbL (a.getD b []))with
   | []=>l
   | b::c=>qoz a n (l++(b::c))
def Q7(σ : St)(a:List AV):List Nat:=qoz σ.bx σ.bx.length (qf [] (rbL a))
def qcP(σ : St)(a:List AV):List Nat:=qf [] (rrL a++(Q7 σ a).flatMap λ b=>rrL (σ.bx.getD b []))
def nd:List Nat->Bool
 | []=>true
 | b::l => !l.contains b&&nd l
def qjg(σ : St)(a:List AV):Bool :=
 nd (Q7 σ a)&&nd (qcP σ a) &&   (rbL a).all (λ b=>(Q7 σ a).contains b)&&(rrL a).all (λ r=>(qcP σ a).contains r)&&(Q7 σ a).all (λ b=>decide (b < σ.bx.length)&&(rbL (σ.bx.getD b [])).all (λ b=>(Q7 σ a).contains b)&&(rrL (σ.bx.getD b [])).all λ r=>(qcP σ a).contains r)&&(qcP σ a).all λ r=>decide (r < σ.rw.length)
def qN(σ : St)(c a:List Nat):St :=
 ⟨c.map λ b=>zd (λ b=>c.idxOf b) (λ r=>a.idxOf r) (σ.bx.getD b []),a.map λ r => σ.rw.getD r ⟨0,[],0,0,false⟩,[],[]⟩
def zF(l:List Nat)(n i:Nat):Nat:=match l[i]? with
 | some b=>b
 | none=>n+(i-l.length)
def zU{α : Type}(l:List α):List Nat->List α -> List α
 | [],xs=>l++xs
 | _,[]=>l
 | b::a,x::xs=>zU (l.set b x) a xs
def qhU(σ : St)(b a:List Nat)(σ':St):St :=
 ⟨zU σ.bx b (σ'.bx.map (zd (zF b σ.bx.length) (zF a σ.rw.length))),zU σ.rw a σ'.rw,σ'.wr.map (zF b σ.bx.length) ++ σ.wr,σ'.wrr.map (zF a σ.rw.length) ++ σ.wrr⟩
def qjc(σ : St)(b a:List Nat):AV × Option St->AV × Option St
 | (r,none)=>(ren (zF b σ.bx.length) (zF a σ.rw.length) r,none)
 | (r,some σ')=>(ren (zF b σ.bx.length) (zF a σ.rw.length) r,some (qhU σ b a σ'))
def qi3(C:Cfg)(σ : St)(f:FuncId)(a:List AV):List AV × Option St :=
 match C.raw f with
 | true=>(a,none)
 | false=>match a.flatMap rsA with
   | []=>(a.map (QN σ.rw),none)
   | r::l=>(a.map (QN σ.rw),some { σ with rw:=frz σ.rw (r::l),wrr:=(r::l) ++ σ.wrr })
def qal(σ : St)(a:List AV)(c:St->List AV->Option (AV × Option St)):Option (AV × Option St) :=
 match qjg σ a with
 | true=>match c (qN σ (Q7 σ a) (qcP σ a)) (zd (λ b=>(Q7 σ a).idxOf b) (λ r=>(qcP σ a).idxOf r) a)with
   | some r=>some (qjc σ (Q7 σ a) (qcP σ a) r)
   | none=>none
 | false=>none
def isV:AV->Bool
 | .v _=>true
 | _=>false
def qlY:AV->Bool
 | .tup vs=>vs.all isV
 | x=>isV x
def qv4(a:List AV)(σ : St):Option (AV × Option St)->Option (AV × Option St)
 | some (r,none)=>match qlY r&&(rbL a).isEmpty&&(rrL a).isEmpty with
   | true=>some (r,none)
   | false=>some (r,some σ)
 | r=>r
def qg9(C:Cfg)(ex:Jc)(σ : St)(f:FuncId)(a:List AV):Option (AV × Option St) :=
 match qi3 C σ f a with
 | (a,none)=>qal σ a λ σ a=>qeo C ex σ f a
 | (a,some σ')=>qv4 a σ' (qal σ' a λ σ a=>qeo C ex σ f a)
def qk8(tm:List AV):Callee->Option (FuncId × List AV)
 | .value f=>match aev tm f with
   | .fn f a=>some (f,a)
   | _=>none
 | _=>none
def opA(C:Cfg)(ex:Jc)(tm:List AV)(σ : St)(op:Op):Option (AV × Option St) :=
 match op with
 | .call c=>match c.callee with
   | .builtin b=>jF C σ b c.argTypes (c.args.toList.map (aev tm))
   | d=>match qk8 tm d with
     | some (f,a)=>qg9 C ex σ f (c.args.toList.map (aev tm)++a)
     | none=>none
 | op=>qc C tm σ op
def yJ(ops:Array Oper)(tm:List AV)(o:Oper):Option Bool :=
 match o.guard with
 | none=>some true
 | some (j,a)=>match(ops[j]?).bind (·.dst)with
   | none=>none
   | some d=>match tm.getD d .dead with
     | .v (.bool b)=>some (qdG b a)
     | .tup []=>some false
     | _=>none
def qcm(tm:List AV):Option Tmp->AV->List AV
 | none,_=>tm
 | some d,x=>tm.set d x
def qlT:AV := .tup []
def yp(b:Nat->Bool):Op->Bool
 | .store .. => true
 | .call { callee := .builtin .append,.. }=>true
 | .call { callee := .value (.func f),.. }=>b f
 | _=>false
def turn(σ : St):Option St->St
 | none => σ
 | some σ' => σ'
def JW:Op->Bool
 | .load .. | .store .. | .indexAddr .. | .convert .. => true
 | .call { callee := .builtin .len,.. } | .call { callee := .builtin .max,.. } | .call { callee := .builtin .min,.. }=>false
 | .call _=>true
 | _=>false
def jN(o:Oper):List Nat:=(o.after.toList.filter (Region.binds .any)).map (·.on)
def qoP(a:List Nat)(o:Oper):Nat:=(jN o).foldl (λ m e=>m ||| (2 ^ e ||| a.getD e 0)) 0
def JK:List Oper->List Nat->List Nat
 | [],a=>a
 | o::r,a=>JK r (a++[qoP a o])
def qfJ(ops:Array Oper)(o:Oper):List Tmp :=
 o.dst.toList++(o.op.operands.toList.filterMap λ | .tmp t=>some t | _=>none)++match o.guard with
  | none=>[]
  | some (j,_)=>((ops[j]?).bind (·.dst)).toList
def qsr(t:Tmp)(o:Oper):Bool:=match o.dst with
 | some d=>Nat.beq d t
 | none=>false
def qdX(ops:List Oper)(t:Tmp):List (Oper × Nat):=ops.zipIdx.filter λ p=>qsr t p.1
def qJ7:Op->Option Tmp
 | .fieldAddr _ (.tmp u) _=>some u
 | .move (.tmp u)=>some u
 | .assign (.tmp u)=>some u
 | .nilCheck (.tmp u)=>some u
 | _=>none
def qnm(ops:Array Oper):Nat->Nat->Tmp->Option Tmp
 | 0,_,_=>none
 | n+1,k,t=>match qdX ops.toList t with
   | []=>some t
   | [(o,i)]=>match qJ7 o.op,decide (i<k)with
     | some u,true=>qnm ops n i u
     | _,_=>none
   | _=>none
def qAL(ops:Array Oper)(k:Nat)(t:Tmp):Option Tmp:=qnm ops 6 k t
def ji(tm:List AV)(ops:Array Oper)(k:Nat)(t:Tmp):Option Nat:=match qAL ops k t with
 | some u=>match tm.getD u .dead with
   | .ptr b _=>some b
   | _=>none
 | none=>none
def qLB:AV->Bool
 | .rpt .. => true
 | .ept .. => true
 | _=>false
def qeR(tm:List AV)(ops:Array Oper)(k:Nat)(t:Tmp):Bool:=match qAL ops k t with
 | some u=>qLB (tm.getD u .dead)
 | none=>false
def qjn(tm:List AV)(ops:Array Oper)(j:Nat)(o:Oper)(i:Nat)(q:Oper):Bool:=match o.op,q.op with
 | .store _ (.tmp a) _,.load _ (.tmp b)=>match ji tm ops j a,ji tm ops i b with
   | some x,some y => !Nat.beq x y
   | some _,none=>qeR tm ops i b
   | _,_=>false
 | .call ⟨.builtin .append,_,_⟩,.load _ (.tmp b)=>(ji tm ops i b).isSome
 | .call ⟨.value _,_,_⟩,.load _ (.tmp b)=>(ji tm ops i b).isSome
 | _,_=>false
def qjy(tm:List AV)(ops:Array Oper)(j:Nat)(o:Oper)(i:Nat)(q:Oper):Bool:=qjn tm ops j o i q||qjn tm ops i q j o
def qwk(C:Cfg)(tm:List AV)(σ : St):Op->List Nat
 | .call ⟨.value g,as,_⟩=>match qk8 tm (.value g)with
   | some (f,b)=>match qi3 C σ f (as.toList.map (aev tm)++b)with
     | (a,none)=>Q7 σ a
     | (a,some σ')=>Q7 σ' a
   | none=>[]
 | _=>[]
def qyc:Op->Bool
 | .call ⟨.value _,_,_⟩=>true
 | _=>false
def qcQ(C:Cfg)(ops:Array Oper)(j:Nat)(tm:List AV)(σ : St)(op:Op):Bool := !qyc op||ops.toList.zipIdx.all λ(q,i)=>match q.op with
 | .load _ (.tmp a)=>((JK ops.toList []).getD (max i j) 0).testBit (min i j)||match ji tm ops i a with
   | some y=>decide (y < σ.bx.length) && !(qwk C tm σ op).contains y
   | none=>false
 | _=>true
def zV(C:Cfg)(ex:Jc)(ops:Array Oper)(b:Bool):List Oper->S->Option S
 | [],s=>some s
 | o::a,s=>match yJ ops s.tm o with
   | some true=>match opA C ex s.tm s.σ o.op with
     | some (x,none)=>zV C ex ops b a ⟨qcm s.tm o.dst x,s.σ⟩
     | some (x,some σ')=>match b && !(yp C.lo o.op&&qcQ C ops (ops.size-(a.length+1)) s.tm s.σ o.op)with
       | true=>none
       | false=>zV C ex ops b a ⟨qcm s.tm o.dst x,σ'⟩
     | none=>none
   | some false=>zV C ex ops b a ⟨qcm s.tm o.dst qlT,s.σ⟩
   | none=>none
def qpO(a:Nat->Bool)(o q:Oper):Bool:=(yp a o.op&&(JW q.op||yp a q.op))||(yp a q.op&&(JW o.op||yp a o.op))
def qj2(a:Nat->Bool)(tm:List AV)(ops:Array Oper)(j:Nat)(o:Oper)(i:Nat)(q:Oper):Bool :=
 (match q.dst with | some d=>(qfJ ops o).contains d | none=>false)||(qpO a o q && !qjy tm ops j o i q)
def qb1(a:Nat->Bool)(tm:List AV)(ops:Array Oper):Bool :=
 let b:=JK ops.toList []
 ops.toList.zipIdx.all λ(o,j)=>((jN o).all λ e=>decide (e<j))&&ops.toList.zipIdx.all λ(q,i) =>
  decide (i=j) || !qj2 a tm ops j o i q||(b.getD (max i j) 0).testBit (min i j)
def qbY(b:Nat->Bool)(tm:List AV)(ops:Array Oper)(a:Bool):Bool:=match a with
 | true=>qb1 b tm ops
 | false=>true
def stP(o:Oper):Option (Tmp × Operand):=match o.op with
 | .store _ (.tmp a) v=>match o.guard,o.dst with
   | none,none=>some (a,v)
   | _,_=>none
 | _=>none
def ixP(o:Oper):Option Tmp:=match o.op with
 | .indexAddr _ _ _=>match o.guard,o.dst with
   | none,some d=>some d
   | _,_=>none
 | _=>none
def qF8(d:Tmp):Operand->Bool
 | .tmp t => !Nat.beq t d
 | _=>true
def qtG:Nat->Nat->Bool
 | 0,_=>true
 | k+1,b=>b.testBit k&&qtG k b
def qF3(a:List Nat)(m:Nat)(p o q:Oper):Bool:=((jN p).all λ e=>Nat.blt e m)&&(((jN o).all λ e=>Nat.blt e (m+1))&&(((jN q).all λ e=>Nat.blt e m)&&(qtG m (a.getD m 0)&&(qtG (m+1) (a.getD (m+1) 0)&&qtG m (a.getD (m+2) 0)))))
def qPh(c:List Nat)(n:Nat):List Oper->Option Tmp
 | [p,o,q]=>match ixP p,stP o,stP q with
   | some d,some a,some b=>match(Nat.beq a.1 d&&(!Nat.beq b.1 d&&qF8 d b.2))&&qF3 c n p o q with
     | true=>some b.1
     | false=>none
   | _,_,_=>none
 | _=>none
def qhZ(ops:Array Oper):List Oper:=ops.toList.drop (ops.toList.length-3)
def qcI(ops:Array Oper):Array Oper:=⟨ops.toList.take (ops.toList.length-3)⟩
def qra(ops:Array Oper)(a:Bool):Option Tmp:=match a with
 | true=>qPh (JK ops.toList []) (ops.toList.length-3) (qhZ ops)
 | false=>none
def qxe:AV->Bool
 | .ptr _ _=>true
 | _=>false
def qFX(tm:List AV)(ops:Array Oper):Bool:=match qhZ ops with
 | p::_=>match p.op with
   | .indexAddr _ u _ => !qxe (aev tm u)
   | _=>false
 | []=>false
def quV(tm:List AV)(ops:Array Oper)(p:Tmp):Bool:=qxe (tm.getD p .dead)&&qFX tm ops
def yr(o:Oper):Bool:=match o.op with
 | .alloc _=>true
 | _=>false
def qlM(ops:Array Oper)(a:Bool):Bool:=a&&ops.toList.any yr
def JY(lo:Nat->Bool):List Oper->Nat
 | []=>0
 | o::r=>match yp lo o.op with
   | true=>0
   | false=>JY lo r+1
def jd(o:Oper):Oper:=match yr o with
 | true=>{ o with op := .move (.global 0) }
 | false=>o
def zj(lo:Nat->Bool)(ops:List Oper):List Oper:=(ops.take (JY lo ops)).map jd
def alL(lo:Nat->Bool)(ops:List Oper):List Oper:=(ops.take (JY lo ops)).filter yr
def qsj(lo:Nat->Bool)(ops:List Oper):List Oper:=ops.drop (JY lo ops)
def qeJ(ops:List Oper)(o:Oper):Bool := !JW o.op&&(!yr o&&ops.all λ q => !yr q||match q.dst with
 | some d => !(qfJ ⟨ops⟩ o).contains d
 | none=>true)
def qjG(lo:Nat->Bool)(ops:List Oper):Bool :=
 let b:=JK ops []
 ops.zipIdx.all λ(o,j)=>((jN o).all λ e=>decide (e<j))&&((Nat.blt j (JY lo ops)||(List.range j).all λ i=>(b.getD j 0).testBit i||(Nat.blt i (JY lo ops)&&match ops[i]? with
  | some q=>qeJ ops q
  | none=>false))&&(!yr o||(o.guard.isNone&&match o.dst with
  | some d=>Nat.beq (qdX ops d).length 1
  | none=>false)))
def Qs:Code->Bool
 | .seq a b=>Qs a&&Qs b
 | .cond _ a b=>Qs a&&Qs b
 | .block _ b=>Qs b
 | .loop b=>Qs b
 | _=>true
def qcZ(s:S)(t:Nat):S:=match rsA (s.tm.getD t .dead)with
 | []=>s
 | r::l=>⟨s.tm.set t (QN s.σ.rw (s.tm.getD t .dead)),{ s.σ with rw:=frz s.σ.rw (r::l),wrr:=(r::l)++s.σ.wrr }⟩
def qf4(ts:List Nat)(s:S):S:=ts.foldl qcZ s
def qcJ(C:Cfg)(ex:Jc):Jc
 | .skip,s=>some (.normal,s)
 | .label _,s=>some (.normal,s)
 | .region _ ops d,s=>match qlM ops d with
   | true=>match qjG C.lo ops.toList&&(qbY C.lo s.tm ops true&&qbY C.lo s.tm ⟨zj C.lo ops.toList⟩ true),zV C ex ⟨zj C.lo ops.toList⟩ true (zj C.lo ops.toList) s with
     | true,some f=>match zV C ex ops false (alL C.lo ops.toList) f with
       | some g=>match zV C ex ops true (qsj C.lo ops.toList) g with
         | some e=>some (.normal,e)
         | none=>none
       | none=>none
     | _,_=>none
   | false=>match qra ops d with
     | some p=>match qbY C.lo s.tm (qcI ops) true,zV C ex (qcI ops) true (qcI ops).toList s with
       | true,some f=>match quV f.tm ops p,zV C ex ops true (qhZ ops) f with
         | true,some e=>some (.normal,e)
         | _,_=>none
       | _,_=>none
     | none=>match qbY C.lo s.tm ops d,zV C ex ops d ops.toList s with
       | true,some e=>some (.normal,e)
       | _,_=>none
 | .seq a b,s=>match ex a s with
   | some (.normal,e)=>ex b e
   | r=>r
 | .cond c x y,s=>match aev s.tm c with
   | .v (.bool true)=>ex x s
   | .v (.bool false)=>ex y s
   | _=>none
 | .block id b,s=>match ex b s with
   | some (.exit i,e)=>some (if i=id then .normal else .exit i,e)
   | r=>r
 | .loop b,s=>match ex b (qf4 (C.pur b) s)with
   | some (.normal,e)=>ex (.loop b) e
   | r=>r
 | .exit id,s=>some (.exit id,s)
 | .ret,s=>some (.ret,s)
 | _,_=>none
def qac(C:Cfg):Nat->Jc
 | 0 => λ _ _=>none
 | n+1=>qcJ C (qac C n)
end Go.AmZ
namespace Go.AmZ
open Go Go.RowKit
structure Gh where
 mem:Nat->Nat->Option Value
 nb:Nat
 β : Nat->Nat
 nr:Nat
 ver:Nat->Nat
 k:Nat->Nat
 cur:Nat->Nat
 sz:Nat->Nat
 of:Nat->Nat
inductive Rep (Γ : Gh):AV->Value->Prop
 | v (x:Value) (h:zu x=true):Rep Γ (.v x) x
 | dead (u:Value):Rep Γ .dead u
 | sl (k:Nat) (es:List (List AV)) (f:Nat) (a:Option Addr) (n cap b o:Nat) (us:Nat->Nat->Value) (hn:n=es.length) (hc:0<f->n<=cap) (hf:1<f->cap=n) (hk:∀ e∈es,e.length=k) (hp:∀ e∈es,∀ x∈e,qy x=true) (h0:0<k)
  (ha:es=[]\/a=some ⟨b,o,none⟩) (hm:∀(i:Nat) (e:List AV) (j:Nat) (x:AV),es[i]?=some e->e[j]?=some x -> Γ.mem b (o+i*k+j)=some (us i j))
  (hr:∀(i:Nat) (e:List AV) (j:Nat) (x:AV),es[i]?=some e->e[j]?=some x->Rep Γ x (us i j)):Rep Γ (.sl k es f) (.slice a n cap)
 | rs (r lo n ep:Nat) (f:Bool) (a:Option Addr) (cap:Nat) (hr:r < Γ.nr) (hv:ep <= Γ.ver r) (hc:n<=cap) (hf:f=true->cap=n)
  (hl : Γ.ver r=ep->(cap=0\/a=some ⟨Γ.cur r,Γ.of r+lo * Γ.k r,none⟩) /\ Γ.of r+(lo+cap) * Γ.k r <= Γ.sz r):Rep Γ (.rs r lo n ep f) (.slice a n cap)
 | ptr (b o:Nat) (h:b < Γ.nb):Rep Γ (.ptr b o) (.pointer (some ⟨Γ.β b,o,none⟩))
 | rpt (r i o ep:Nat) (A:Addr) (hr:r < Γ.nr) (hv:ep <= Γ.ver r) (hl : Γ.ver r=ep->A=⟨Γ.cur r,Γ.of r+i * Γ.k r+o,none⟩):Rep Γ (.rpt r i o ep) (.pointer (some A))
 | ept (cs:List AV) (o b o':Nat) (us:Nat->Value) (hp:∀ x∈cs,qy x=true) (hm:∀(j:Nat) (x:AV),cs[j]?=some x -> Γ.mem b (o'+j)=some (us j)) (hr:∀(j:Nat) (x:AV),cs[j]?=some x->Rep Γ x (us j)):Rep Γ (.ept cs o) (.pointer (some ⟨b,o'+o,none⟩))
 | fn (f:FuncId) (cs:List AV) (us:List Value) (hn:us.length=cs.length) (hr:∀(i:Nat) (x:AV) (u:Value),cs[i]?=some x->us[i]?=some u->Rep Γ x u):Rep Γ (.fn f cs) (.func (.func f) #[] us.toArray)
 | agg (cs:List AV) (us:List Value) (hn:us.length=cs.length) (h1:∀ u∈us,u.oneCell'=true) (hr:∀(i:Nat) (x:AV) (u:Value),cs[i]?=some x->us[i]?=some u->Rep Γ x u):Rep Γ (.agg cs) (.agg us.toArray)
 | tup (cs:List AV) (us:List Value) (hn:us.length=cs.length) (hr:∀(i:Nat) (x:AV) (u:Value),cs[i]?=some x->us[i]?=some u->Rep Γ x u):Rep Γ (.tup cs) (.tuple us.toArray)
structure RepL (Γ : Gh) (cs:List AV) (us:List Value):Prop where
 len:us.length=cs.length
 rep:∀(i:Nat) (x:AV) (u:Value),cs[i]?=some x->us[i]?=some u->Rep Γ x u
structure Le (Γ Γ':Gh):Prop where
 mem:∀ b o u,Γ.mem b o=some u -> Γ'.mem b o=some u
 nb : Γ.nb <= Γ'.nb
 β : ∀ i,i < Γ.nb -> Γ'.β i = Γ.β i
 nr : Γ.nr <= Γ'.nr
 k:∀ r,r < Γ.nr -> Γ'.k r = Γ.k r
 ver:∀ r,r < Γ.nr -> Γ.ver r <= Γ'.ver r
 loc:∀ r,r < Γ.nr -> Γ'.ver r = Γ.ver r -> Γ'.cur r = Γ.cur r /\ Γ'.sz r = Γ.sz r /\ Γ'.of r = Γ.of r
theorem Le.refl(Γ : Gh):Le Γ Γ := ⟨λ _ _ _ h=>h,wb _,λ _ _=>rfl,wb _,λ _ _=>rfl,λ _ _=>wb _,λ _ _ _=>⟨rfl,rfl,rfl⟩⟩
theorem Le.trans{a b c:Gh}(h:Le a b)(g:Le b c):Le a c where
 mem := λ x o u e=>g.mem _ _ _ (h.mem _ _ _ e)
 nb:=wD h.nb g.nb
 β := λ i f=>(g.β i (wE f h.nb)).trans (h.β i f)
 nr:=wD h.nr g.nr
 k := λ r d=>(g.k r (wE d h.nr)).trans (h.k r d)
 ver := λ r d=>wD (h.ver r d) (g.ver r (wE d h.nr))
 loc := λ r d e=>by
  have t:=h.ver r d;have s:=g.ver r (wE d h.nr);obtain⟨q,p,n⟩:=h.loc r d (by omega);obtain⟨m,l,j⟩:=g.loc r (wE d h.nr) (by omega);exact⟨m.trans q,l.trans p,j.trans n⟩
theorem Rep.mono{Γ Γ':Gh}(d:Le Γ Γ'){x:AV}{u:Value}(h:Rep Γ x u):Rep Γ' x u:=by
 induction h with
 | v x h=>exact .v x h
 | dead u=>exact .dead u
 | sl k es f a n cap b o us m y w F t H G p c g=>exact .sl k es f a n cap b o us m y w F t H G (λ i e j x l z=>d.mem _ _ _ (p i e j x l z)) (λ i e j x l z=>g i e j x l z)
 | rs r lo n B f a cap c s y w q =>
   have l:=d.ver r c;refine .rs r lo n B f a cap (wE c d.nr) (wD s l) y w λ p=>?_;obtain⟨e1,D,C⟩:=d.loc r c (by omega);rw[e1,D,C,d.k r c];exact q (by omega)
 | ptr b o h=>rw[<- d.β b h];exact .ptr b o (wE h d.nb)
 | rpt r i o B A c s q =>
   have l:=d.ver r c;refine .rpt r i o B A (wE c d.nr) (wD s l) λ p=>?_;obtain⟨e1,D,C⟩:=d.loc r c (by omega);rw[e1,C,d.k r c];exact q (by omega)
 | ept cs o b E us t p c g=>exact .ept cs o b E us t (λ j x h=>d.mem _ _ _ (p j x h)) g
 | fn f cs us m c g=>exact .fn f cs us m g
 | agg cs us m l c g=>exact .agg cs us m l g
 | tup cs us m c g=>exact .tup cs us m g
theorem RepL.mono{Γ Γ':Gh}(c:Le Γ Γ'){cs:List AV}{us:List Value}(h:RepL Γ cs us):RepL Γ' cs us:=⟨h.len,λ i x u a b=>(h.rep i x u a b).mono c⟩
theorem RepL.nil{Γ : Gh}:RepL Γ [] []:=⟨rfl,λ i x u h=>by simp at h⟩
theorem RepL.cons{Γ : Gh}{x:AV}{u:Value}{cs:List AV}{us:List Value}(h:Rep Γ x u)(t:RepL Γ cs us):RepL Γ (x::cs) (u::us):=by
 refine⟨by simp[t.len],λ i y v a b=>?_⟩;cases i with
 | zero=>simp at a b;subst a;subst b;exact h
 | succ i=>simp at a b;exact t.rep i y v a b
theorem RepL.uncons{Γ : Gh}{x:AV}{cs:List AV}{us:List Value}(h:RepL Γ (x::cs) us):∃ u r,us=u::r/\Rep Γ x u/\RepL Γ cs r:=by
 obtain⟨d,c⟩:=h;cases us with
 | nil=>simp at d
 | cons u r=>exact⟨u,r,rfl,c 0 x u rfl rfl,by simpa using d,λ i y v a b=>c (i+1) y v (by simpa using a) (by simpa using b)⟩
theorem RepL.nil_inv{Γ : Gh}{us:List Value}(h:RepL Γ [] us):us=[]:=kt.1 h.len
theorem RepL.get{Γ : Gh}{cs:List AV}{us:List Value}(h:RepL Γ cs us){i:Nat}{x:AV}(a:cs[i]?=some x):∃ u,us[i]?=some u/\Rep Γ x u:=by
 have b:i<us.length:=by rw[h.len];exact(List.getElem?_eq_some_iff.1 a).1
 exact⟨us[i],List.getElem?_eq_getElem b,h.rep i x _ a (List.getElem?_eq_getElem b)⟩
theorem RepL.append{Γ : Gh}{a b:List AV}{u v:List Value}(h:RepL Γ a u)(g:RepL Γ b v):RepL Γ (a++b) (u++v):=by
 induction a generalizing u with
 | nil=>rw[h.nil_inv];exact g
 | cons x a c =>
   obtain⟨y,r,rfl,e,d⟩:=h.uncons;exact RepL.cons e (c d)
theorem RepL.take{Γ : Gh}{a:List AV}{u:List Value}(h:RepL Γ a u)(n:Nat):RepL Γ (a.take n) (u.take n):=by
 refine⟨by simp[h.len],λ i x w b c=>?_⟩;rw[List.getElem?_take]at b c;split at b
 ·rename_i d;rw[if_pos d]at c;exact h.rep i x w b c
 ·cases b
theorem RepL.drop{Γ : Gh}{a:List AV}{u:List Value}(h:RepL Γ a u)(n:Nat):RepL Γ (a.drop n) (u.drop n):=by
 refine⟨by simp[h.len],λ i x w b c=>?_⟩;rw[List.getElem?_drop]at b c;exact h.rep _ x w b c
theorem RepL.set{Γ : Gh}{a:List AV}{u:List Value}(h:RepL Γ a u)(n:Nat){x:AV}{y:Value}(d:Rep Γ x y):RepL Γ (a.set n x) (u.set n y):=by
 refine⟨by simp[h.len],λ i x' w b c=>?_⟩;rw[List.getElem?_set]at b c;have f:=h.len;split at b
 ·grind
 ·rename_i e;rw[if_neg e]at c;exact h.rep i x' w b c
theorem qDo{x:Value}(h:zu x=true):x.oneCell'=true:=by
 cases x<;>simp_all [zu,Value.oneCell']
theorem Rep.one{Γ : Gh}{x:AV}{u:Value}(h:Rep Γ x u)(a:isC x=true):u.oneCell'=true:=by
 cases h<;>first | (exact qDo ‹_›) | rfl | (simp[isC]at a)
theorem qJo{u:Value}(h:u.oneCell'=true):u.cells = #[u]:=by
 cases u<;>simp_all [Value.oneCell',Value.cells]
theorem Rep.cells{Γ : Gh}{x:AV}{u:Value}(h:Rep Γ x u)(f:(cellsOf x).all isC=true):RepL Γ (cellsOf x) u.cells.toList/\∀ y∈u.cells.toList,y.oneCell'=true:=by
 have c:isC x=true->cellsOf x=[x]->RepL Γ (cellsOf x) u.cells.toList/\∀ y∈u.cells.toList,y.oneCell'=true:=by
  intro d k;rw[k,qJo (h.one d)];exact⟨RepL.cons h RepL.nil,by intro y e;simp at e;subst e;exact h.one d⟩
 cases h with
 | agg cs us j d g=>exact⟨⟨by simpa[Value.cells,cellsOf]using j,λ i x u a b=>g i x u a (by simpa[Value.cells]using b)⟩,by simpa[Value.cells]using d⟩
 | v x h=>exact c rfl rfl
 | dead u=>simp[cellsOf,isC]at f
 | sl=>exact c rfl rfl
 | rs=>exact c rfl rfl
 | ptr=>exact c rfl rfl
 | rpt=>exact c rfl rfl
 | ept=>exact c rfl rfl
 | fn=>exact c rfl rfl
 | tup=>simp[cellsOf,isC]at f
theorem Rep.cells_len{Γ : Gh}{x:AV}{u:Value}(h:Rep Γ x u)(a:(cellsOf x).all isC=true):u.cells.size=(cellsOf x).length:=by
 have:=(h.cells a).1.len;simpa using this
def qAS(Γ : Gh)(w:World)(i:Nat)(cs:List AV):Prop :=
 ∃ vs e,w.heap[Γ.β i]?=some (.cells vs e (0,0))/\RepL Γ cs vs.toList/\∀ u∈vs.toList,u.oneCell'=true
def qqb(n:Nat)(fr:Nat × Nat):Prop:=∀ j,j<n->¬ (fr.1<=j/\j<fr.2)
theorem qAP(n:Nat):qqb n (0,0) := λ j _ h=>absurd h.2 (wL j)
structure qgw (Γ : Gh) (w:World) (r:Nat) (R:Row):Prop where
 k:R.k = Γ.k r
 ver:R.fz<=R.c.length->R.ver = Γ.ver r
 pos:0<R.k
 len:∀ e∈R.c,e.length=R.k
 plain:∀ e∈R.c,∀ x∈e,qy x=true
 fz:R.c=[]\/R.fz<=R.c.length
 blk : Γ.sz r≠0->∃ vs e fr,w.heap[Γ.cur r]?=some (.cells vs e fr)/\vs.size = Γ.sz r/\qqb vs.size fr/\(R.k≠1->fr=(0,0))
 fit : Γ.of r+R.c.length*R.k <= Γ.sz r
 un : Γ.sz r≠0->∀ off,Γ.of r+R.fz*R.k<=off -> Γ.mem (Γ.cur r) off=none
 cells:∀(i:Nat) (e:List AV) (j:Nat) (x:AV),R.c[i]?=some e->e[j]?=some x->∃ u,w.cell? ⟨Γ.cur r,Γ.of r+(i*R.k+j),none⟩=some u/\Rep Γ x u/\u.oneCell'=true
 nbx : Γ.sz r≠0->∀ i,i < Γ.nb -> Γ.β i ≠ Γ.cur r
 off:R.off=false -> Γ.of r=0
structure Inv (Γ : Gh) (σ : St) (w:World):Prop where
 nb : Γ.nb = σ.bx.length
 nr : Γ.nr = σ.rw.length
 mem:∀ b o u,Γ.mem b o=some u->w.cell? ⟨b,o,none⟩=some u/\u.oneCell'=true
 box:∀ i cs,σ.bx[i]?=some cs->qAS Γ w i cs
 inj:∀ i j,i < Γ.nb->j < Γ.nb -> Γ.β i = Γ.β j->i=j
 boxmem:∀ i,i < Γ.nb->∀ o,Γ.mem (Γ.β i) o=none
 row:∀ r R,σ.rw[r]?=some R->qgw Γ w r R
 apart:∀ r r',r < Γ.nr->r' < Γ.nr->r≠r' -> Γ.sz r≠0 -> Γ.sz r'≠0 -> Γ.cur r ≠ Γ.cur r'
def QG(Γ : Gh)(b:Nat):Prop:=(∃ i,i < Γ.nb /\ Γ.β i=b)\/∃ r,r < Γ.nr /\ Γ.sz r≠0 /\ Γ.cur r=b
structure Ext (Γ : Gh) (w:World) (Γ':Gh) (w':World):Prop where
 le:Le Γ Γ'
 os:w'.os=w.os
 tape:w'.tape=w.tape
 output:w'.output=w.output
 size:w.heap.size<=w'.heap.size
 block:∀ b,b<w.heap.size->¬ QG Γ b->w'.heap[b]?=w.heap[b]?
 own:∀ b,QG Γ' b->QG Γ b\/w.heap.size<=b
 memg:∀ b o u,Γ'.mem b o=some u -> Γ.mem b o=some u\/QG Γ b\/w.heap.size<=b
 drawn:w.drawn<=w'.drawn
theorem Ext.refl(Γ : Gh)(w:World):Ext Γ w Γ w:=⟨.refl _,rfl,rfl,rfl,wb _,λ _ _ _=>rfl,λ _ h => .inl h,λ _ _ _ h => .inl h,wb _⟩
theorem Ext.trans{Γ e d:Gh}{w i f:World}(h:Ext Γ w e i)(g:Ext e i d f):Ext Γ w d f where
 le:=h.le.trans g.le
 os:=g.os.trans h.os
 tape:=g.tape.trans h.tape
 output:=g.output.trans h.output
 size:=wD h.size g.size
 block := λ b c j=>(g.block b (wE c h.size) λ k=>(h.own b k).elim j λ a=>by omega).trans (h.block b c j)
 own := λ b c=>(g.own b c).elim (h.own b) λ a => .inr (wD h.size a)
 memg := λ b o u c=>(g.memg b o u c).elim (h.memg b o u) λ a => .inr (a.elim (h.own b) λ a => .inr (wD h.size a))
 drawn:=wD h.drawn g.drawn
theorem Inv.drew{Γ : Gh}{σ : St}{w:World}(h:Inv Γ σ w):Inv Γ σ { w with drawn:=w.drawn+1 }:=by
 refine⟨h.nb,h.nr,λ b o u e=>h.mem b o u e,λ i cs e=>h.box i cs e,h.inj,h.boxmem,λ r R e=>?_,h.apart⟩;obtain⟨a,b,c,d,e1,f,g,k,p,n,m,l⟩:=h.row r R e;exact⟨a,b,c,d,e1,f,g,k,p,n,m,l⟩
theorem Ext.drew(Γ : Gh)(w:World):Ext Γ w Γ { w with drawn:=w.drawn+1 }:=⟨.refl _,rfl,rfl,rfl,wb _,λ _ _ _=>rfl,λ _ h => .inl h,λ _ _ _ h => .inl h,kr _⟩
theorem qsT{w:World}{b o:Nat}{u:Value}(h:w.cell? ⟨b,o,none⟩=some u):b<w.heap.size:=by
 unfold World.cell? at h;grind
theorem Inv.mem_lt{Γ : Gh}{σ : St}{w:World}(h:Inv Γ σ w){b o:Nat}{u:Value}(e : Γ.mem b o=some u):b<w.heap.size:=qsT (h.mem b o u e).1
abbrev waE:=@RepL.cons
abbrev waG:=@RepL.mono
end Go.AmZ
namespace Go.AmZ
open Go Go.RowKit
theorem qbT{w w':World}(a:Below w.heap.size w w'){b:Nat}{o:Obj}(h:w.heap[b]?=some o):w'.heap[b]?=some o:=by
 have:b<w.heap.size:=(Array.getElem?_eq_some_iff.1 h).1;rw[a.block b this];exact h
theorem qvl{w w':World}(a:Below w.heap.size w w'){b o:Nat}{u:Value}(h:w.cell? ⟨b,o,none⟩=some u):w'.cell? ⟨b,o,none⟩=some u:=by
 rw[a.cell (qsT h)];exact h
theorem QQ{w:World}{b:Nat}{vs:Array Value}{e:TypeId}{fr:Nat × Nat}(h:w.heap[b]?=some (.cells vs e fr))(off:Nat):w.cell? ⟨b,off,none⟩=vs[off]?:=by
 unfold World.cell?;grind
theorem getElem?_lt' {α : Type}{l:List α}{i:Nat}{x : α}(h:l[i]?=some x):i<l.length:=(List.getElem?_eq_some_iff.1 h).1
theorem qgw.lift{Γ Γ':Gh}{w w':World}{r:Nat}{R:Row}(h:qgw Γ w r R)(B:r < Γ.nr)(l:Le Γ Γ')(f : Γ'.ver r = Γ.ver r)
  (H : Γ.sz r≠0->∀ z,w.heap[Γ.cur r]?=some z->w'.heap[Γ.cur r]?=some z)
  (F : Γ.sz r≠0->∀ off,Γ.mem (Γ.cur r) off=none -> Γ'.mem (Γ.cur r) off=none) (q : Γ.sz r≠0->∀ i,i < Γ'.nb -> Γ.nb<=i -> Γ'.β i ≠ Γ.cur r):qgw Γ' w' r R:=by
 obtain⟨k,o,pos,p,D,N,n,M,L,K,J,I⟩:=h;obtain⟨d,c,b⟩:=l.loc r B f;refine⟨k.trans (l.k r B).symm,λ E=>(o E).trans f.symm,pos,p,D,N,λ a=>?_,by rw[c,b];exact M,λ a off C=>by rw[c]at a;rw[b]at C;rw[d];exact F a off (L a off C),?_,?_,λ h=>b.trans (I h)⟩
 ·grind
 ·intro i O j x m G
  have a : Γ.sz r≠0:=by
   intro a;have t:=getElem?_lt' m;have:=wak (vP (we _) t) pos;omega
  obtain⟨vs,e,fr,n,P,_⟩:=n a;obtain⟨u,A,s,y⟩:=K i O j x m G;refine⟨u,?_,s.mono l,y⟩;rw[QQ n]at A;rw[d,b,QQ (H a _ n)];exact A
 ·intro a i m v;rw[c]at a;rw[d]at v;by_cases g:i < Γ.nb
  ·exact J a i g (by rw[<- l.β i g];exact v)
  ·exact q a i m (by omega) v
theorem qAS.lift{Γ Γ':Gh}{w w':World}{i:Nat}{cs:List AV}(h:qAS Γ w i cs)(b:i < Γ.nb)(a:Le Γ Γ')(c:∀ o,w.heap[Γ.β i]?=some o->w'.heap[Γ.β i]?=some o):qAS Γ' w' i cs:=by
 obtain⟨vs,e,g,f,d⟩:=h;exact⟨vs,e,by rw[a.β i b];exact c _ g,f.mono a,d⟩
theorem getElem?_lt {α : Type}{l:List α}{i:Nat}{x : α}(h:l[i]?=some x):i<l.length:=(List.getElem?_eq_some_iff.1 h).1
theorem qgX{Γ : Gh}{w w':World}(a:Below w.heap.size w w')(c:w.drawn<=w'.drawn):Ext Γ w Γ w':=⟨.refl _,a.os,a.tape,a.output,a.size,λ b d _=>a.block b d,λ _ h => .inl h,λ _ _ _ h => .inl h,c⟩
theorem Inv.box_lt{Γ : Gh}{σ : St}{w:World}(h:Inv Γ σ w){i:Nat}(b:i < Γ.nb) : Γ.β i<w.heap.size:=by
 have a:i < σ.bx.length:=h.nb▸b;obtain⟨vs,e,c,_⟩:=h.box i _ (List.getElem?_eq_getElem a);grind
theorem Inv.cur_lt{Γ : Gh}{σ : St}{w:World}(h:Inv Γ σ w){r:Nat}(c:r < Γ.nr)(b : Γ.sz r≠0) : Γ.cur r<w.heap.size:=by
 have a:r < σ.rw.length:=h.nr▸c;obtain⟨vs,e,fr,f,d,_⟩:=(h.row r _ (List.getElem?_eq_getElem a)).blk b;grind
theorem qgw.live{Γ : Gh}{w:World}{r:Nat}{R:Row}(h:qgw Γ w r R){i:Nat}{e:List AV}(a:R.c[i]?=some e):R.fz<=R.c.length:=h.fz.resolve_left λ b=>by rw[b]at a;cases a
theorem qgw.liveN{Γ : Gh}{w:World}{r:Nat}{R:Row}(h:qgw Γ w r R){m n:Nat}(a:m+n<=R.c.length)(d:0<n):R.fz<=R.c.length:=h.fz.resolve_left λ b=>by rw[b]at a;simp at a;omega
theorem qgw.real{Γ : Gh}{w:World}{r:Nat}{R:Row}(h:qgw Γ w r R){i:Nat}{e:List AV}(b:R.c[i]?=some e) : Γ.sz r≠0:=by
 intro d;have a:=getElem?_lt' b;have:=wak (vP (we _) a) h.pos;have:=h.fit;omega
theorem Inv.later{Γ : Gh}{σ : St}{w w':World}(h:Inv Γ σ w)(c:Below w.heap.size w w'):Inv Γ σ w' where
 nb:=h.nb
 nr:=h.nr
 mem := λ b o u e=>⟨qvl c (h.mem b o u e).1,(h.mem b o u e).2⟩
 box := λ i cs e=>(h.box i cs e).lift (by rw[h.nb];exact getElem?_lt e) (.refl _) λ o a=>qbT c a
 inj:=h.inj
 boxmem:=h.boxmem
 row := λ r R e=>(h.row r R e).lift (by rw[h.nr];exact getElem?_lt e) (.refl _) rfl (λ _ f a=>qbT c a) (λ _ _ d=>d) λ _ i j g=>by omega
 apart:=h.apart
theorem qzp{Γ : Gh}{σ : St}{w:World}(h:Inv Γ σ w){cs:List AV}{vs:List Value}(B:RepL Γ cs vs)(F:∀ u∈vs,u.oneCell'=true)(e:TypeId) :
  ∃ Γ',Ext Γ w Γ' (w.alloc (.cells vs.toArray e))/\Inv Γ' { σ with bx := σ.bx++[cs] } (w.alloc (.cells vs.toArray e))/\Rep Γ' (.ptr σ.bx.length 0) (.pointer (some ⟨w.heap.size,0,none⟩)):=by
 have v:Below w.heap.size w (w.alloc (.cells vs.toArray e)):=(Below.refl _ _).alloc (wb _) _;let Γ':Gh:={ Γ with nb := Γ.nb+1,β := λ i=>if i = Γ.nb then w.heap.size else Γ.β i }
 have d:∀ i,i < Γ.nb -> Γ'.β i = Γ.β i := λ i c=>if_neg (by omega);have a : Γ'.β Γ.nb=w.heap.size:=if_pos rfl;have g:Le Γ Γ':=⟨λ _ _ _ h=>h,kr _,d,wb _,λ _ _=>rfl,λ _ _=>wb _,λ _ _ _=>⟨rfl,rfl,rfl⟩⟩
 have s:=h.later v;refine⟨Γ',⟨g,rfl,rfl,rfl,v.size,λ b C _=>v.block b C,?_,λ _ _ _ h => .inl h,wb _⟩,⟨?_,h.nr,s.mem,?_,?_,?_,?_,h.apart⟩,?_⟩
 ·rintro b (⟨i,c,rfl⟩ | n)
  ·by_cases f:i = Γ.nb
   ·grind
   ·left;left;exact⟨i,by show i < Γ.nb;have:i < Γ.nb+1:=c;omega,(d i (by have:i < Γ.nb+1:=c;omega)).symm⟩
  ·exact .inl (.inr n)
 ·show Γ.nb+1=(σ.bx++[cs]).length;simp[h.nb]
 ·intro i cs' c;rw[List.getElem?_append]at c;split at c
  ·rename_i p;exact(h.box i cs' c).lift (by rw[h.nb];exact p) g λ o n=>qbT v n
  ·rename_i p
   have z:i - σ.bx.length=0:=by
    grind
   rw[z]at c;simp at c;subst c;have y:i = Γ.nb:=by rw[h.nb];omega
   refine⟨vs.toArray,e,?_,by simpa using B.mono g,by simpa using F⟩;rw[y,a];exact heap_alloc_new w _
 ·intro i j c E k;have t:i < Γ.nb+1:=c;have D:j < Γ.nb+1:=E;by_cases f:i = Γ.nb<;>by_cases q:j = Γ.nb
  ·rw[f,q]
  ·rw[f,a,d j (by omega)]at k;have:=h.box_lt (i:=j) (by omega);omega
  ·rw[q,a,d i (by omega)]at k;have:=h.box_lt (i:=i) (by omega);omega
  ·rw[d i (by omega),d j (by omega)]at k;exact h.inj i j (by omega) (by omega) k
 ·intro i c o;have t:i < Γ.nb+1:=c;by_cases f:i = Γ.nb
  ·rw[f,a];show Γ.mem w.heap.size o=none;cases x : Γ.mem w.heap.size o with
   | none=>rfl
   | some u=>have:=h.mem_lt x;omega
  ·rw[d i (by omega)];exact h.boxmem i (by omega) o
 ·intro r R m;have l:r < Γ.nr:=by rw[h.nr];exact getElem?_lt m
  refine(h.row r R m).lift l g rfl (λ _ G n=>qbT v n) (λ _ _ x=>x) λ A i c H k=>?_;have t:i < Γ.nb+1:=c;have f:i = Γ.nb:=by omega
  rw[f,a]at k;have:=h.cur_lt l A;omega
 ·rw[<- a,h.nb];exact .ptr _ _ (by show σ.bx.length < Γ.nb+1;rw[h.nb];omega)
theorem qy0{Γ : Gh}{σ : St}{w:World}(h:Inv Γ σ w){vs:List Value}(y:∀ u∈vs,u.oneCell'=true)(e:TypeId) :
  ∃ Γ',Ext Γ w Γ' (w.alloc (.cells vs.toArray e))/\Inv Γ' σ (w.alloc (.cells vs.toArray e))/\∀ j u,vs[j]?=some u -> Γ'.mem w.heap.size j=some u:=by
 have m:Below w.heap.size w (w.alloc (.cells vs.toArray e)):=(Below.refl _ _).alloc (wb _) _;let Γ':Gh:={ Γ with mem := λ b o=>if b=w.heap.size then vs[o]? else Γ.mem b o }
 have p:∀ b o u,Γ.mem b o=some u->b≠w.heap.size := λ b o u e l=>by have:=h.mem_lt e;omega
 have c:Le Γ Γ':=⟨λ b o u e=>by show(if b=w.heap.size then vs[o]? else Γ.mem b o)=some u;rw[if_neg (p b o u e)];exact e,wb _,λ _ _=>rfl,wb _,λ _ _=>rfl,λ _ _=>wb _,λ _ _ _=>⟨rfl,rfl,rfl⟩⟩
 have k:=h.later m;refine⟨Γ',⟨c,rfl,rfl,rfl,m.size,λ b v _=>m.block b v,λ b g => .inl g,λ b o u t=>?_,wb _⟩,⟨h.nb,h.nr,?_,?_,h.inj,?_,?_,h.apart⟩,?_⟩
 ·grind
 ·intro b o u l;have a:(if b=w.heap.size then vs[o]? else Γ.mem b o)=some u:=l;by_cases d:b=w.heap.size
  ·rw[if_pos d]at a;subst d;refine⟨?_,y u (wa a)⟩;rw[World.cell?_alloc_mark];simpa using a
  ·rw[if_neg d]at a;exact k.mem b o u a
 ·intro i cs l;exact(h.box i cs l).lift (by rw[h.nb];exact getElem?_lt l) c λ o g=>qbT m g
 ·intro i n o;show(if Γ.β i=w.heap.size then vs[o]? else Γ.mem (Γ.β i) o)=none;have:=h.box_lt n;rw[if_neg (by omega)];exact h.boxmem i n o
 ·intro r R q;have f:r < Γ.nr:=by rw[h.nr];exact getElem?_lt q
  refine(h.row r R q).lift f c rfl (λ _ z g=>qbT m g) (λ s off t=>?_) λ _ i n A=>by have:i < Γ.nb:=n;omega
  have x:=h.cur_lt f s;grind
 ·grind
theorem qHX{Γ : Gh}{σ : St}{w:World}(h:Inv Γ σ w){b:Nat}{cs cs':List AV}(A : σ.bx[b]?=some cs){vs':List Value}(F:RepL Γ cs' vs')(I:∀ u∈vs',u.oneCell'=true)(B:List Nat)(w':World)
  (D:∀ vs e,w.heap[Γ.β b]?=some (.cells vs e (0,0))->w'.heap[Γ.β b]?=some (.cells vs'.toArray e (0,0))) (s:∀ k,k ≠ Γ.β b->w'.heap[k]?=w.heap[k]?) (v:w'.os=w.os) (t:w'.tape=w.tape) (n:w'.output=w.output) (E:w'.heap.size=w.heap.size) (y:w.drawn<=w'.drawn) :
  Ext Γ w Γ w'/\Inv Γ { σ with bx := σ.bx.set b cs',wr:=B } w':=by
 have c:b < Γ.nb:=by rw[h.nb];exact getElem?_lt A
 have l:∀ k o,k ≠ Γ.β b->w'.cell? ⟨k,o,none⟩=w.cell? ⟨k,o,none⟩ := λ k o f=>by unfold World.cell?;rw[s k f]
 have a:∀ k o u,Γ.mem k o=some u->k ≠ Γ.β b := λ k o u e f=>by rw[f,h.boxmem b c o]at e;cases e
 refine⟨⟨.refl _,v,t,n,by omega,λ k _ z=>s k λ f=>z (.inl ⟨b,c,f.symm⟩),λ _ h => .inl h,λ _ _ _ h => .inl h,y⟩,⟨?_,h.nr,?_,?_,h.inj,h.boxmem,?_,h.apart⟩⟩
 ·show Γ.nb=(σ.bx.set b cs').length;rw[wJ];exact h.nb
 ·intro k o u e;rw[l k o (a k o u e)];exact h.mem k o u e
 ·intro i q d;rw[List.getElem?_set]at d;split at d
  ·rename_i j;subst j;split at d
   ·cases d;obtain⟨vs,e,J,_⟩:=h.box b cs A;exact⟨vs'.toArray,e,D vs e J,by simpa using F,by simpa using I⟩
   ·cases d
  ·rename_i j;have p:i < Γ.nb:=by rw[h.nb];exact getElem?_lt d
   refine(h.box i q d).lift p (.refl _) λ o g=>?_;rw[s _ λ x=>j (h.inj b i c p x.symm)];exact g
 ·intro r R m;have H:=h.row r R m;refine H.lift (by rw[h.nr];exact getElem?_lt m) (.refl _) rfl (λ C K f=>?_) (λ _ _ G=>G) λ _ i d z=>by omega
  rw[s _ λ x=>H.nbx C b c x.symm];exact f
theorem qBE{Γ : Gh}{σ : St}{w w':World}(h:Inv Γ σ w){k:Nat}(hk:0<k){c:List (List AV)}(H:∀ e∈c,e.length=k)(P:∀ e∈c,∀ x∈e,qy x=true){vs:Array Value}(L:c.length*k<=vs.size)
  (m:∀(i:Nat) (e:List AV) (j:Nat) (x:AV),c[i]?=some e->e[j]?=some x->∃ u,vs[i*k+j]?=some u/\Rep Γ x u/\u.oneCell'=true) {e:TypeId} {cap:Nat} (hc:c.length<=cap) (ad:cap*k<=vs.size) (z:Below w.heap.size w w') (Y:w.drawn<=w'.drawn) {g:Nat} (hg:w.heap.size<=g) {fr:Nat × Nat} (M:qqb vs.size fr) (V:k≠1->fr=(0,0)) (y:w'.heap[g]?=some (.cells vs e fr)) :
  ∃ Γ',Ext Γ w Γ' w'/\Inv Γ' { σ with rw := σ.rw++[⟨k,c,0,0,false⟩] } w'/\Rep Γ' (.rs σ.rw.length 0 c.length 0 false) (.slice (some ⟨g,0,none⟩) c.length cap):=by
 let Γ':Gh:={ Γ with nr := Γ.nr+1,ver := λ r=>if r = Γ.nr then 0 else Γ.ver r,k := λ r=>if r = Γ.nr then k else Γ.k r,cur := λ r=>if r = Γ.nr then g else Γ.cur r,sz := λ r=>if r = Γ.nr then vs.size else Γ.sz r,of := λ r=>if r = Γ.nr then 0 else Γ.of r }
 have C:∀ r,r < Γ.nr -> Γ'.ver r = Γ.ver r := λ r m=>if_neg (by omega);have U:∀ r,r < Γ.nr -> Γ'.k r = Γ.k r := λ r m=>if_neg (by omega);have f:∀ r,r < Γ.nr -> Γ'.cur r = Γ.cur r := λ r m=>if_neg (by omega);have d:∀ r,r < Γ.nr -> Γ'.sz r = Γ.sz r := λ r m=>if_neg (by omega);have E:∀ r,r < Γ.nr -> Γ'.of r = Γ.of r := λ r m=>if_neg (by omega);have l : Γ'.of Γ.nr=0:=if_pos rfl;have a : Γ'.cur Γ.nr=g:=if_pos rfl;have n : Γ'.sz Γ.nr=vs.size:=if_pos rfl;have B : Γ'.ver Γ.nr=0:=if_pos rfl;have I : Γ'.k Γ.nr=k:=if_pos rfl;have t:Le Γ Γ':=⟨λ _ _ _ h=>h,wb _,λ _ _=>rfl,kr _,U,λ r m=>by rw[C r m];exact wb _,λ r m _=>⟨f r m,d r m,E r m⟩⟩
 have J:=h.later z;refine⟨Γ',⟨t,z.os,z.tape,z.output,z.size,λ b T _=>z.block b T,?_,λ _ _ _ h => .inl h,Y⟩,⟨h.nb,?_,J.mem,?_,h.inj,h.boxmem,?_,?_⟩,?_⟩
 ·rintro b (F | ⟨r,ac,hz,T⟩)
  ·exact .inl (.inl F)
  ·by_cases s:r = Γ.nr
   ·right;rw[s,a]at T;omega
   ·left;right;grind
 ·show Γ.nr+1=(σ.rw++[_]).length;simp[h.nr]
 ·intro i cs X;exact(h.box i cs X).lift (by rw[h.nb];exact getElem?_lt X) t λ o F=>qbT z F
 ·intro r R A;rw[List.getElem?_append]at A;split at A
  ·rename_i G;have s:r < Γ.nr:=by rw[h.nr];exact G
   exact(h.row r R A).lift s t (C r s) (λ _ ob F=>qbT z F) (λ _ _ S=>S) λ _ i K hn=>by have:i < Γ.nb:=K;omega
  ·rename_i G
   have W:r - σ.rw.length=0:=by
    grind
   rw[W]at A;simp at A;subst A;obtain rfl:r = Γ.nr:=by rw[h.nr];omega
   refine⟨I.symm,λ _=>B.symm,hk,H,P,.inr (we _),λ _=>⟨vs,e,fr,by rw[a];exact y,n.symm,M,V⟩,by rw[n,l,wG];exact L,?_,?_,?_,λ _=>l⟩
   ·intro _ off _;rw[a];show Γ.mem g off=none;cases S : Γ.mem g off with
    | none=>rfl
    | some u=>have:=h.mem_lt S;omega
   ·intro i e' j x K hj;obtain⟨u,hu,D,Z⟩:=m i e' j x K hj;refine⟨u,?_,D.mono t,Z⟩;rw[a,l,wG,QQ y];exact hu
   ·intro _ i K X;have:=h.box_lt (i:=i) K;grind
 ·intro r v O N Q q p;have ab:r < Γ.nr+1:=O;have aa:v < Γ.nr+1:=N;by_cases Z:r = Γ.nr<;>by_cases h2:v = Γ.nr
  ·omega
  ·rw[d v (by omega)]at p;rw[Z,a,f v (by omega)];have:=h.cur_lt (r:=v) (by omega) p;omega
  ·rw[d r (by omega)]at q;rw[h2,a,f r (by omega)];have:=h.cur_lt (r:=r) (by omega) q;omega
  ·rw[d r (by omega)]at q;rw[d v (by omega)]at p;rw[f r (by omega),f v (by omega)];exact h.apart r v (by omega) (by omega) Q q p
 ·refine .rs _ _ _ _ _ _ _ (by show σ.rw.length < Γ.nr+1;rw[h.nr];omega) (we _) hc (λ hf=>by cases hf) λ _=>?_;rw[<- h.nr,a,I,n,l];grind
def Qx(Γ : Gh)(r:Nat)(R:Row):Prop :=
 ∀(i:Nat) (e:List AV) (j:Nat) (x:AV),R.c[i]?=some e->e[j]?=some x->∃ u,Γ.mem (Γ.cur r) (Γ.of r+(i*R.k+j))=some u/\Rep Γ x u
theorem qx1{Γ : Gh}{σ : St}{w w':World}(h:Inv Γ σ w){k:Nat}(o:0<k){c:List (List AV)}(b:∀ e∈c,e.length=k)(f:∀ e∈c,∀ x∈e,qy x=true){vs:Array Value}(d:c.length*k<=vs.size)
  (n:∀(i:Nat) (e:List AV) (j:Nat) (x:AV),c[i]?=some e->e[j]?=some x->∃ u,vs[i*k+j]?=some u/\Rep Γ x u/\u.oneCell'=true) {e:TypeId} {cap:Nat} (q:c.length<=cap) (m:cap*k<=vs.size) (r:Below w.heap.size w w') (l:w.drawn<=w'.drawn) {g:Nat} (p:w.heap.size<=g) (a:w'.heap[g]?=some (.cells vs e (0,0))) :
  ∃ Γ',Ext Γ w Γ' w'/\Inv Γ' { σ with rw := σ.rw++[⟨k,c,0,0,false⟩] } w'/\Rep Γ' (.rs σ.rw.length 0 c.length 0 false) (.slice (some ⟨g,0,none⟩) c.length cap) :=
 qBE h o b f d n q m r l p (qAP _) (λ _=>rfl) a
theorem qGA{α : Type}{l:List α}{r i:Nat}{f : α -> α}{y : α}(h:(l.modify r f)[i]?=some y):∃ x,l[i]?=some x/\y=if r=i then f x else x:=by
 grind
structure Fz (Γ : Gh) (m:Nat->Nat->Option Value):Prop where
 le:Le Γ { Γ with mem:=m }
 own:∀ b o u,m b o=some u -> Γ.mem b o=some u\/QG Γ b
theorem qwM{Γ : Gh}{σ : St}{w:World}(h:Inv Γ σ w){r:Nat}{R:Row}(F : σ.rw[r]?=some R)(U:List Nat) :
  ∃ m,Fz Γ m/\Inv { Γ with mem:=m } { σ with rw := σ.rw.modify r qme,wrr:=U } w/\Qx { Γ with mem:=m } r R:=by
 have H0:=h.row r R F;obtain⟨k,D,pos,q,V,fz,g2,g4,g5,N,T,g9⟩:=H0;have E:r < Γ.nr:=by rw[h.nr];exact getElem?_lt F
 let m:Nat->Nat->Option Value := λ b' off=>if b' = Γ.cur r /\ Γ.of r<=off/\off < Γ.of r+R.c.length*R.k then w.cell? ⟨b',off,none⟩else Γ.mem b' off
 have H:∀ b' off u,Γ.mem b' off=some u->m b' off=some u:=by
  intro b' off u a;show(if _ then _ else _)=_;split
  ·exact(h.mem b' off u a).1
  ·exact a
 have f:Le Γ { Γ with mem:=m }:=⟨H,wb _,λ _ _=>rfl,wb _,λ _ _=>rfl,λ _ _=>wb _,λ _ _ _=>⟨rfl,rfl,rfl⟩⟩
 have y:∀(i:Nat) (e:List AV) (j:Nat) (x:AV),R.c[i]?=some e->e[j]?=some x->∃ u,m (Γ.cur r) (Γ.of r+(i*R.k+j))=some u/\Rep { Γ with mem:=m } x u:=by
  intro i e j x g B;obtain⟨u,Q,d,S⟩:=N i e j x g B;refine⟨u,?_,d.mono f⟩;have L:=getElem?_lt g;have J:=getElem?_lt B;rw[q e (wa g)]at J
  have:i*R.k+j<R.c.length*R.k:=by
   calc i*R.k+j<i*R.k+R.k:=by omega
    _=(i+1)*R.k:=by rw[wN,xw]
    _<=R.c.length*R.k:=wn _ L
  grind
 refine⟨m,⟨f,λ b' off u a=>?_⟩,⟨h.nb,?_,?_,?_,h.inj,?_,?_,h.apart⟩,y⟩
 ·have b:(if b' = Γ.cur r /\ Γ.of r<=off/\off < Γ.of r+R.c.length*R.k then w.cell? ⟨b',off,none⟩else Γ.mem b' off)=some u:=a;split at b
  ·rename_i v;right;right;grind
  ·exact .inl b
 ·show Γ.nr=(σ.rw.modify r qme).length;rw[vQ];exact h.nr
 ·intro b' off u a;have b:(if b' = Γ.cur r /\ Γ.of r<=off/\off < Γ.of r+R.c.length*R.k then w.cell? ⟨b',off,none⟩else Γ.mem b' off)=some u:=a;split at b
  ·rename_i v;refine⟨b,?_⟩;obtain⟨ac,ab,aa⟩:=v;obtain⟨off,rfl⟩:∃ p,off = Γ.of r+p:=⟨off - Γ.of r,by omega⟩
   have t:off / R.k<R.c.length:=by
    rw[xW pos];omega
   have K:off % R.k<R.k:=xS _ pos;have I:=q _ (wW t);obtain⟨u',W,_,ad⟩:=N (off / R.k) _ (off % R.k) _ (List.getElem?_eq_getElem t) (List.getElem?_eq_getElem (by rw[I];exact K));have Z:off / R.k*R.k+off % R.k=off:=by rw[xF];exact vn off R.k
   grind
  ·exact h.mem b' off u b
 ·intro i cs a;exact(h.box i cs a).lift (by rw[h.nb];exact getElem?_lt a) f λ o A=>A
 ·intro i g off;show(if _ then _ else _)=_;rw[if_neg λ v=>T (by omega) i g v.1];exact h.boxmem i g off
 ·intro z R' M;obtain⟨R0,C,a⟩:=qGA M;by_cases s:r=z
  ·subst s;rw[if_pos rfl]at a;rw[F]at C;cases C;subst a;refine⟨k,λ t=>D (wD (Nat.le_max_left _ R.c.length) t),pos,q,V,fz.imp_right λ t=>Nat.max_le.2 ⟨t,wb _⟩,g2,g4,?_,?_,T,g9⟩
   ·intro P off A;have Y : Γ.of r+R.c.length*R.k<=off:=wD (vL (wn _ (Nat.le_max_right R.fz _)) _) A;have X : Γ.of r+R.fz*R.k<=off:=wD (vL (wn _ (Nat.le_max_left _ R.c.length)) _) A;grind
   ·intro i O j x g B;obtain⟨u,Q,d,S⟩:=N i O j x g B;exact⟨u,Q,d.mono f,S⟩
  ·rw[if_neg s]at a;subst a;have l:z < Γ.nr:=by rw[h.nr];exact getElem?_lt C
   refine(h.row z _ C).lift l f rfl (λ _ _ h=>h) (λ P off G=>?_) λ _ i g hn=>by have:i < Γ.nb:=g;omega
   show(if _ then _ else _)=_;rw[if_neg λ v=>h.apart r z E l s (by omega) P v.1.symm];exact G
theorem qk7{Γ : Gh}{m:Nat->Nat->Option Value}(a:Fz Γ m)(w:World):Ext Γ w { Γ with mem:=m } w:=⟨a.le,rfl,rfl,rfl,wb _,λ _ _ _=>rfl,λ _ h => .inl h,λ b o u d=>(a.own b o u d).imp_right .inl,wb _⟩
theorem Qx.mono{Γ : Gh}{m:Nat->Nat->Option Value}(b:Le Γ { Γ with mem:=m }){r:Nat}{R:Row}(h:Qx Γ r R):Qx { Γ with mem:=m } r R := λ i e j x g f =>
 let⟨u,c,d⟩:=h i e j x g f;⟨u,b.mem _ _ _ c,d.mono b⟩
theorem qdh{w:World}:∀(c:List Nat) {Γ : Gh} {σ : St} (h:Inv Γ σ w) (a:List Nat),
  ∃ m,Fz Γ m/\Inv { Γ with mem:=m } { σ with rw:=frz σ.rw c,wrr:=a } w/\∀ r∈c,∀ R,σ.rw[r]?=some R->Qx { Γ with mem:=m } r R
 | [],Γ,σ,h,a=>⟨Γ.mem,⟨Le.refl _,λ _ _ _ h => .inl h⟩,⟨h.nb,h.nr,h.mem,h.box,h.inj,h.boxmem,h.row,h.apart⟩,λ r d=>by cases d⟩
 | r::c,Γ,σ,h,a=>by
   cases d : σ.rw[r]? with
   | none =>
     obtain⟨m,g,l,q⟩:=qdh c h a;have s : σ.rw.length<=r:=List.getElem?_eq_none_iff.1 d;have e : σ.rw.modify r qme = σ.rw:=List.modify_eq_self s;refine⟨m,g,?_,λ p k R x=>?_⟩
     ·show Inv _ { σ with rw:=c.foldl _ (σ.rw.modify r qme),wrr:=a } w;rw[e];exact l
     ·grind
   | some R =>
     obtain⟨m,g,l,q⟩:=qwM h d a;obtain⟨m',n,v,g3⟩:=qdh c l a;refine⟨m',⟨g.le.trans n.le,λ b o u t=>(n.own b o u t).elim (g.own b o u) .inr⟩,v,λ p k R' f=>?_⟩;by_cases j:p=r
     ·subst j;rw[d]at f;cases f;exact q.mono n.le
     ·grind
theorem qFh{c xs:List (List AV)}{i:Nat}{e:List AV}(h:(c++xs)[i]?=some e):(i<c.length/\c[i]?=some e)\/(c.length<=i/\xs[i-c.length]?=some e):=by
 grind
theorem qnk{Γ : Gh}{σ : St}{w w':World}(h:Inv Γ σ w){r:Nat}{R R':Row}(hr : σ.rw[r]?=some R)(X:R.fz<=R.c.length)(I:R'.k=R.k){g:Nat}{vs:Array Value}{e:TypeId}{o:Nat}(ag:R'.off=false->o=0)(am:R'.ver=R.ver+1\/(R'.ver=R.ver/\g = Γ.cur r/\vs.size = Γ.sz r/\o = Γ.of r))
  (Y:∀ e∈R'.c,e.length=R.k) (ae:∀ e∈R'.c,∀ x∈e,qy x=true) (aj:R'.fz<=R'.c.length) {fr:Nat × Nat} (ad:qqb vs.size fr) (ai:R.k≠1->fr=(0,0)) (A:w'.heap[g]?=some (.cells vs e fr)) (Z:o+R'.c.length*R.k<=vs.size)
  (aa:∀ off,o+R'.fz*R.k<=off -> Γ.mem g off=none) (J:∀(i:Nat) (e:List AV) (j:Nat) (x:AV),R'.c[i]?=some e->e[j]?=some x->∃ u,vs[o+(i*R.k+j)]?=some u/\Rep Γ x u/\u.oneCell'=true)
  (W:∀ b o u,Γ.mem b o=some u->w'.cell? ⟨b,o,none⟩=some u) (ho:∀ b,b<w.heap.size->(b ≠ Γ.cur r \/ Γ.sz r=0)->w'.heap[b]?=w.heap[b]?) (f:(g = Γ.cur r /\ Γ.sz r≠0)\/w.heap.size<=g) (af:w'.os=w.os) (ab:w'.tape=w.tape) (U:w'.output=w.output) (ac:w.heap.size<=w'.heap.size) (ak:w.drawn<=w'.drawn) (wl:List Nat) :
  ∃ Γ',Ext Γ w Γ' w'/\Inv Γ' { σ with rw := σ.rw.set r R',wrr:=wl } w'/\∀(n:Nat) (cap:Nat) (a:Option Addr),n<=cap->(cap=0\/a=some ⟨g,o,none⟩)->o+cap*R.k<=vs.size->Rep Γ' (.rs r 0 n R'.ver false) (.slice a n cap):=by
 have m:r < Γ.nr:=by rw[h.nr];exact getElem?_lt hr
 have H:=h.row r R hr;let Γ':Gh:={ Γ with ver := λ s=>if s=r then R'.ver else Γ.ver s,cur := λ s=>if s=r then g else Γ.cur s,sz := λ s=>if s=r then vs.size else Γ.sz s,of := λ s=>if s=r then o else Γ.of s }
 have v1 : Γ'.ver r=R'.ver:=if_pos rfl;have D : Γ'.cur r=g:=if_pos rfl;have s1 : Γ'.sz r=vs.size:=if_pos rfl;have P : Γ'.of r=o:=if_pos rfl;have v2:∀ q,q≠r -> Γ'.ver q = Γ.ver q := λ q t=>if_neg t;have c2:∀ q,q≠r -> Γ'.cur q = Γ.cur q := λ q t=>if_neg t;have O:∀ q,q≠r -> Γ'.sz q = Γ.sz q := λ q t=>if_neg t;have o2:∀ q,q≠r -> Γ'.of q = Γ.of q := λ q t=>if_neg t
 have y:Le Γ Γ':=by
  refine⟨λ _ _ _ h=>h,wb _,λ _ _=>rfl,wb _,λ _ _=>rfl,λ q _=>?_,λ q _ t=>?_⟩
  ·by_cases d:q=r
   ·rw[d,v1,<- H.ver X];grind
   ·grind
  ·by_cases d:q=r
   ·subst d;rw[v1,<- H.ver X]at t;grind
   ·grind
 refine⟨Γ',⟨y,af,ab,U,ac,λ b C hn=>ho b C (by
  by_cases v : Γ.sz r=0
  ·exact .inr v
  ·exact .inl λ z=>hn (.inr ⟨r,m,v,z.symm⟩)),?_,λ _ _ _ h => .inl h,ak⟩,⟨h.nb,?_,λ b o u hm=>⟨W b o u hm,(h.mem b o u hm).2⟩,?_,h.inj,h.boxmem,?_,?_⟩,?_⟩
 ·rintro b (C | ⟨q,t,v,C⟩)
  ·exact .inl (.inl C)
  ·by_cases d:q=r
   ·rw[d,D]at C;rcases f with⟨f,l⟩ | f
    ·left;right;exact⟨r,m,l,by rw[<- f,C]⟩
    ·right;omega
   ·rw[c2 q d]at C;exact .inl (.inr ⟨q,t,by rw[<- O q d];exact v,C⟩)
 ·show Γ.nr=(σ.rw.set r R').length;rw[wJ];exact h.nr
 ·intro i cs B;have p:i < Γ.nb:=by rw[h.nb];exact getElem?_lt B
  exact(h.box i cs B).lift p y λ ob G=>by
   rw[ho _ (h.box_lt p) (by
    by_cases v : Γ.sz r=0
    ·exact .inr v
    ·exact .inl (H.nbx v i p))];exact G
 ·intro q Q K;rw[List.getElem?_set]at K;split at K
  ·rename_i d;subst d;split at K<;>cases K;refine⟨I.trans H.k,λ _=>v1.symm,by rw[I];exact H.pos,by rw[I];exact Y,ae,.inr aj,λ _=>⟨vs,e,fr,by rw[D];exact A,s1.symm,ad,by rw[I];exact ai⟩,by rw[I,s1,P];exact Z,λ _ off V=>by rw[D];exact aa off (by rw[<- I,<- P];exact V),?_,λ _ i B=>?_,λ hf=>P.trans (ag hf)⟩
   ·intro i e' j x B hj;obtain⟨u,hu,T,h1⟩:=J i e' j x B hj;exact⟨u,by rw[D,P,I,QQ A];exact hu,T.mono y,h1⟩
   ·rw[D];intro z;have z : Γ.β i=g:=z;have p:i < Γ.nb:=B;rcases f with⟨f,l⟩ | f
    ·exact H.nbx l i p (z.trans f)
    ·have:=h.box_lt p;omega
  ·rename_i d;have F:q < Γ.nr:=by rw[h.nr];exact getElem?_lt K
   refine(h.row q Q K).lift F y (v2 q λ z=>d z.symm) (λ v ob G=>?_) (λ _ _ hm=>hm) λ _ i B hn=>by have:i < Γ.nb:=B;omega
   rw[ho _ (h.cur_lt F v) (by
    by_cases S : Γ.sz r=0
    ·exact .inr S
    ·exact .inl λ z=>h.apart r q m F d S v z.symm)];exact G
 ·intro q E h1 h2 ah N M;by_cases e1:q=r<;>by_cases L:E=r
  ·omega
  ·rw[O E L]at M;rw[e1,D,c2 E L];rcases f with⟨f,l⟩ | f
   ·rw[f];exact h.apart r E m h2 (xK L) l M
   ·have:=h.cur_lt h2 M;omega
  ·rw[O q e1]at N;rw[L,D,c2 q e1];rcases f with⟨f,l⟩ | f
   ·rw[f];exact h.apart q r h1 m e1 N l
   ·have:=h.cur_lt h1 N;omega
  ·rw[O q e1]at N;rw[O E L]at M;rw[c2 q e1,c2 E L];exact h.apart q E h1 h2 ah N M
 ·intro n cap a hn ha al;refine .rs _ _ _ _ _ _ _ m (by rw[v1];exact wb _) hn (λ hf=>by cases hf) λ _=>?_;rw[D,s1,P];refine⟨ha.imp_right λ h=>by rw[h,kQ,wP],?_⟩;show o+(0+cap) * Γ.k r<=vs.size;rw[<- H.k,wG];exact al
theorem qtW{Γ : Gh}{σ : St}{w w':World}(h:Inv Γ σ w){r:Nat}{R R':Row}(J : σ.rw[r]?=some R)(D : Γ.of r=0)(E:R.fz<=R.c.length)(K:R'.k=R.k){g:Nat}{vs:Array Value}{e:TypeId}(t:R'.ver=R.ver+1\/(R'.ver=R.ver/\g = Γ.cur r/\vs.size = Γ.sz r))
  (p:∀ e∈R'.c,e.length=R.k) (B:∀ e∈R'.c,∀ x∈e,qy x=true) (G:R'.fz<=R'.c.length) {fr:Nat × Nat} (A:qqb vs.size fr) (F:R.k≠1->fr=(0,0)) (l:w'.heap[g]?=some (.cells vs e fr)) (q:R'.c.length*R.k<=vs.size)
  (v:∀ off,R'.fz*R.k<=off -> Γ.mem g off=none) (d:∀(i:Nat) (e:List AV) (j:Nat) (x:AV),R'.c[i]?=some e->e[j]?=some x->∃ u,vs[i*R.k+j]?=some u/\Rep Γ x u/\u.oneCell'=true)
  (m:∀ b o u,Γ.mem b o=some u->w'.cell? ⟨b,o,none⟩=some u) (s:∀ b,b<w.heap.size->(b ≠ Γ.cur r \/ Γ.sz r=0)->w'.heap[b]?=w.heap[b]?) (L:(g = Γ.cur r /\ Γ.sz r≠0)\/w.heap.size<=g) (C:w'.os=w.os) (y:w'.tape=w.tape) (f:w'.output=w.output) (z:w.heap.size<=w'.heap.size) (H:w.drawn<=w'.drawn) (I:List Nat) :
  ∃ Γ',Ext Γ w Γ' w'/\Inv Γ' { σ with rw := σ.rw.set r R',wrr:=I } w'/\∀(n:Nat) (cap:Nat),n<=cap->cap*R.k<=vs.size->Rep Γ' (.rs r 0 n R'.ver false) (.slice (some ⟨g,0,none⟩) n cap):=by
 obtain⟨Γ',O,N,M⟩:=qnk h J E K (g:=g) (vs:=vs) (e:=e) (o:=0) (λ _=>rfl) (t.imp_right λ⟨a,b,c⟩=>⟨a,b,c,D.symm⟩) p B G A F l (by rw[wG];exact q) (λ off s=>v off (by rw[wG]at s;exact s))
  (λ i e j x a b=>by rw[wG];exact d i e j x a b) m s L C y f z H I
 grind
theorem qKM{Γ : Gh}{σ : St}{w:World}(h:Inv Γ σ w){r:Nat}{R:Row}(G : σ.rw[r]?=some R)(A:R.fz<=R.c.length){l:Nat}(K:l<=R.c.length)(P:List Nat) :
  ∃ Γ',Ext Γ w Γ' w/\Inv Γ' { σ with rw := σ.rw.set r { R with c:=R.c.drop l,ver:=R.ver+1,fz:=R.fz-l,off:=true },wrr:=P } w /\
   ∀(n:Nat) (cap:Nat) (a:Option Addr),n<=cap->(cap=0\/a=some ⟨Γ.cur r,Γ.of r+l*R.k,none⟩) -> Γ.of r+l*R.k+cap*R.k <= Γ.sz r->Rep Γ' (.rs r 0 n (R.ver+1) false) (.slice a n cap):=by
 have H:=h.row r R G;have aa:l*R.k<=R.c.length*R.k:=wn _ K;have B:=H.fit;have M:(R.c.length-l)*R.k=R.c.length*R.k-l*R.k:=vY _ _ _;by_cases t : Γ.sz r=0
 ·-- no block: nothing is left out
  have F:r < Γ.nr:=by rw[h.nr];exact getElem?_lt G
  have Y : Γ.of r=0:=by omega
  have s:R.c=[]:=by
   cases hc:R.c with
   | nil=>rfl
   | cons e c =>
     have:=H.pos;rw[hc,wu,kU]at B;omega
  let Γ':Gh:={ Γ with ver := λ S=>if S=r then R.ver+1 else Γ.ver S }
  have E : Γ'.ver r=R.ver+1:=if_pos rfl;have W:∀ q,q≠r -> Γ'.ver q = Γ.ver q := λ q X=>if_neg X
  have v:Le Γ Γ':=by
   refine⟨λ _ _ _ h=>h,wb _,λ _ _=>rfl,wb _,λ _ _=>rfl,λ q _=>?_,λ q _ _=>⟨rfl,rfl,rfl⟩⟩;by_cases f:q=r
   ·rw[f,E,<- H.ver A];omega
   ·grind
  have ab:l=0:=by rw[s]at K;simpa using K
  refine⟨Γ',⟨v,rfl,rfl,rfl,wb _,λ _ _ _=>rfl,λ _ h => .inl h,λ _ _ _ h => .inl h,wb _⟩,⟨h.nb,?_,h.mem,λ i cs p=>(h.box i cs p).lift (by rw[h.nb];exact getElem?_lt p) v λ _ h=>h,h.inj,h.boxmem,?_,h.apart⟩,?_⟩
  ·show Γ.nr=(σ.rw.set r _).length;rw[wJ];exact h.nr
  ·intro q Q y;rw[List.getElem?_set]at y;split at y
   ·rename_i f;subst f;split at y<;>cases y;refine⟨H.k,λ _=>E.symm,H.pos,λ e m=>?_,λ e m=>?_,.inl ?_,λ d=>absurd t d,?_,λ d=>absurd t d,λ i e j x p=>?_,λ d=>absurd t d,λ C=>by cases C⟩
    ·rw[s]at m;simp at m
    ·rw[s]at m;simp at m
    ·grind
    ·grind
    ·rw[s]at p;simp at p
   ·rename_i f;have I:q < Γ.nr:=by rw[h.nr];exact getElem?_lt y
    exact(h.row q Q y).lift I v (W q λ m=>f m.symm) (λ _ _ h=>h) (λ _ _ J=>J) λ _ i p U=>by have:i < Γ.nb:=p;omega
  ·intro n cap a U ha N
   have D:cap=0:=by
    have:=H.pos;rw[t]at N;rcases vp cap with O | O
    ·exact O
    ·have:=wak O H.pos;omega
   refine .rs _ _ _ _ _ _ _ F (by rw[E];exact wb _) U (λ C=>by cases C) λ _=>⟨.inl D,?_⟩
   grind
 ·obtain⟨vs,e',fr,V,g3,g4,g5⟩:=H.blk t
  obtain⟨Γ',f1,f2,f3⟩:=qnk h G A (R':={ R with c:=R.c.drop l,ver:=R.ver+1,fz:=R.fz-l,off:=true }) rfl (g := Γ.cur r) (vs:=vs) (e:=e') (o := Γ.of r+l*R.k) (λ C=>by cases C) (.inl rfl)
   (λ e m=>H.len e (wX m)) (λ e m=>H.plain e (wX m)) (by show R.fz-l<=(R.c.drop l).length;rw[wQ];omega) g4 g5 V
   (by show _+(R.c.drop l).length*R.k<=_;rw[wQ,M,g3];omega)
   (λ off ho=>H.un t off (by
    have Z : Γ.of r+l*R.k+(R.fz-l)*R.k<=off:=ho;have:R.fz*R.k<=l*R.k+(R.fz-l)*R.k:=by rw[<- wN];exact wn _ (by omega)
    omega))
   (λ i e j x p hj=>by
    have L:R.c[l+i]?=some e:=by rw[<- List.getElem?_drop];exact p
    obtain⟨u,T,z,h1⟩:=H.cells (l+i) e j x L hj;refine⟨u,?_,z,h1⟩;rw[QQ V,wN]at T;rw[show Γ.of r+l*R.k+(i*R.k+j) = Γ.of r+(l*R.k+i*R.k+j) by omega];exact T)
   (λ b o u J=>(h.mem b o u J).1) (λ _ _ _=>rfl) (.inl ⟨rfl,t⟩) rfl rfl rfl (wb _) (wb _) P
  grind
theorem qLr{Γ : Gh}{σ : St}{w w':World}(h:Inv Γ σ w){r:Nat}{R:Row}(W : σ.rw[r]?=some R)(A:R.fz<=R.c.length){xs:List (List AV)}(B:∀ e∈xs,e.length=R.k)(I:∀ e∈xs,∀ x∈e,qy x=true)
  {qf:List Value} (K:qf.length=xs.length*R.k) (hn:∀(i:Nat) (e:List AV) (j:Nat) (x:AV),xs[i]?=some e->e[j]?=some x->∃ u,qf[i*R.k+j]?=some u/\Rep Γ x u/\u.oneCell'=true) (t : Γ.sz r≠0) (C : Γ.of r+(R.c.length+xs.length)*R.k <= Γ.sz r)
  (hw:∀ vs e fr,w.heap[Γ.cur r]?=some (.cells vs e fr)->w'.heap[Γ.cur r]?=some (.cells (vs.toList.take (Γ.of r+R.c.length*R.k)++qf++vs.toList.drop (Γ.of r+R.c.length*R.k+qf.length)).toArray e fr)) (Y:∀ k,k ≠ Γ.cur r->w'.heap[k]?=w.heap[k]?)
  (J:w'.os=w.os) (G:w'.tape=w.tape) (y:w'.output=w.output) (aa:w'.heap.size=w.heap.size) (S:w.drawn<=w'.drawn) (V:List Nat) {cap:Nat} (hc:R.c.length+xs.length<=cap) (ac : Γ.of r+cap*R.k <= Γ.sz r) :
  ∃ Γ',Ext Γ w Γ' w'/\Inv Γ' { σ with rw := σ.rw.set r { R with c:=R.c++xs,ver:=R.ver+1 },wrr:=V } w'/\Rep Γ' (.rs r 0 (R.c.length+xs.length) (R.ver+1) false) (.slice (some ⟨Γ.cur r,Γ.of r,none⟩) (R.c.length+xs.length) cap):=by
 have H:=h.row r R W;obtain⟨vs,e',fr,U,g3,g4,g5⟩:=H.blk t;have n:=hw vs e' fr U;have E:vs.toList.length = Γ.sz r:=by simpa using g3
 have ad:(R.c.length+xs.length)*R.k=R.c.length*R.k+qf.length:=by rw[wN,K]
 have Z:R.fz*R.k<=R.c.length*R.k:=wn _ A
 have d:(vs.toList.take (Γ.of r+R.c.length*R.k)++qf++vs.toList.drop (Γ.of r+R.c.length*R.k+qf.length)).length = Γ.sz r:=by
  simp only[wc,wm,wQ,E];omega
 have m:∀ off,off < Γ.of r+R.c.length*R.k->(vs.toList.take (Γ.of r+R.c.length*R.k)++qf++vs.toList.drop (Γ.of r+R.c.length*R.k+qf.length))[off]?=vs[off]?:=by
  intro off z;rw[wi,List.getElem?_append_left (by simp;omega),List.getElem?_take,if_pos z];simp
 have p:∀ q u,qf[q]?=some u->(vs.toList.take (Γ.of r+R.c.length*R.k)++qf++vs.toList.drop (Γ.of r+R.c.length*R.k+qf.length))[Γ.of r+R.c.length*R.k+q]?=some u:=by
  intro q u X;have v:(vs.toList.take (Γ.of r+R.c.length*R.k)).length = Γ.of r+R.c.length*R.k:=by rw[wm];omega
  rw[wi,List.getElem?_append_right (by rw[v];omega),v,ky,List.getElem?_append_left (getElem?_lt X)];exact X
 obtain⟨Γ',f1,f2,f3⟩:=qnk h W A (R':={ R with c:=R.c++xs,ver:=R.ver+1 }) rfl (g := Γ.cur r) (vs:=(vs.toList.take (Γ.of r+R.c.length*R.k)++qf++vs.toList.drop (Γ.of r+R.c.length*R.k+qf.length)).toArray) (o := Γ.of r) (λ hf=>H.off hf) (.inl rfl)
  (λ e Q=>(ww.1 Q).elim (H.len e) (B e)) (λ e Q=>(ww.1 Q).elim (H.plain e) (I e)) (by show R.fz<=(R.c++xs).length;rw[wc];omega) (by rw[km,d,<- g3];exact g4) g5 n
  (by show Γ.of r+(R.c++xs).length*R.k<=_;rw[wc,km,d];exact C) (H.un t)
  (by
   intro i e j x hi N;have O:(R.c++xs)[i]?=some e:=hi;rw[List.getElem?_toArray];rcases qFh O with⟨l,a⟩ | ⟨P,a⟩
   ·obtain⟨u,F,f,T⟩:=H.cells i e j x a N;refine⟨u,?_,f,T⟩;have M:=getElem?_lt N;rw[H.len e (wa a)]at M
    have:i*R.k+j<R.c.length*R.k:=by
     calc i*R.k+j<i*R.k+R.k:=by omega
      _=(i+1)*R.k:=by rw[wN,xw]
      _<=R.c.length*R.k:=wn _ l
    rw[m _ (by omega),<- QQ U];exact F
   ·obtain⟨u,F,f,T⟩:=hn _ e j x a N;refine⟨u,?_,f,T⟩;have ab:i*R.k=R.c.length*R.k+(i-R.c.length)*R.k:=by rw[<- wN];congr 1;omega
    rw[show Γ.of r+(i*R.k+j) = Γ.of r+R.c.length*R.k+((i-R.c.length)*R.k+j) by omega];exact p _ u F)
  (by
   intro b off u L;have s:=(h.mem b off u L).1;by_cases D:b = Γ.cur r
   ·subst D
    have l:off < Γ.of r+R.c.length*R.k:=by
     rcases Nat.lt_or_ge off (Γ.of r+R.c.length*R.k)with l | P
     ·exact l
     ·rw[H.un t off (by omega)]at L;cases L
    rw[QQ n,List.getElem?_toArray,m off l,<- QQ U];exact s
   ·unfold World.cell? at s |-
    rw[Y b D];exact s)
  (λ b _ D=>Y b (D.resolve_right t)) (.inl ⟨rfl,t⟩) J G y (by omega) S V
 grind
theorem qKi{Γ : Gh}{σ : St}{w w':World}(h:Inv Γ σ w){r:Nat}{R:Row}(z : σ.rw[r]?=some R)(q:R.fz<=R.c.length){xs:List (List AV)}(l:∀ e∈xs,e.length=R.k)(n:∀ e∈xs,∀ x∈e,qy x=true)
  {vs:Array Value} {e:TypeId} {g:Nat} (d:Below w.heap.size w w') (t:w.drawn<=w'.drawn) (B:w.heap.size<=g) (f:w'.heap[g]?=some (.cells vs e (0,0))) (m:(R.c.length+xs.length)*R.k<=vs.size)
  (A:∀(i:Nat) (e:List AV) (j:Nat) (x:AV),(R.c++xs)[i]?=some e->e[j]?=some x->∃ u,vs[i*R.k+j]?=some u/\Rep Γ x u/\u.oneCell'=true) (y:List Nat) {cap:Nat} (D:R.c.length+xs.length<=cap) (C:cap*R.k<=vs.size) :
  ∃ Γ',Ext Γ w Γ' w'/\Inv Γ' { σ with rw := σ.rw.set r { R with c:=R.c++xs,ver:=R.ver+1 },wrr:=y } w'/\Rep Γ' (.rs r 0 (R.c.length+xs.length) (R.ver+1) false) (.slice (some ⟨g,0,none⟩) (R.c.length+xs.length) cap):=by
 have H:=h.row r R z
 obtain⟨Γ',G,F,E⟩:=qnk h z q (R':={ R with c:=R.c++xs,ver:=R.ver+1 }) rfl (g:=g) (vs:=vs) (o:=0) (λ _=>rfl) (.inl rfl)
  (λ e s=>(ww.1 s).elim (H.len e) (l e)) (λ e s=>(ww.1 s).elim (H.plain e) (n e)) (by show R.fz<=(R.c++xs).length;rw[wc];omega) (qAP _) (λ _=>rfl) f
  (by show 0+(R.c++xs).length*R.k<=_;rw[wc,wG];exact m)
  (λ off _=>by
   cases p : Γ.mem g off with
   | none=>rfl
   | some u=>have:=h.mem_lt p;omega) (λ i e j x a b=>by rw[wG];exact A i e j x a b) (λ b o u p=>qvl d (h.mem b o u p).1) (λ b v _=>d.block b v) (.inr B) d.os d.tape d.output d.size t y
 grind
theorem qrA{Γ : Gh}{σ : St}{w w':World}(h:Inv Γ σ w){r:Nat}{R:Row}(W : σ.rw[r]?=some R){i:Nat}{e0 e1:List AV}(C:R.c[i]?=some e0)(hf:R.fz<=i)(y:R.off=false)(A:e1.length=R.k)(G:∀ x∈e1,qy x=true){vs':Array Value}
  (Y:∀ vs e fr,w.heap[Γ.cur r]?=some (.cells vs e fr)->w'.heap[Γ.cur r]?=some (.cells vs' e fr)/\vs'.size=vs.size/\∀ off,(off<i*R.k\/i*R.k+R.k<=off)->vs'[off]?=vs[off]?)
  (J:∀(j:Nat) (x:AV),e1[j]?=some x->∃ u,vs'[i*R.k+j]?=some u/\Rep Γ x u/\u.oneCell'=true) (X:∀ k,k ≠ Γ.cur r->w'.heap[k]?=w.heap[k]?)
  (I:w'.os=w.os) (F:w'.tape=w.tape) (v:w'.output=w.output) (aa:w'.heap.size=w.heap.size) (Q:w.drawn<=w'.drawn) (T:List Nat) :
  ∃ Γ',Ext Γ w Γ' w'/\Inv Γ' { σ with rw := σ.rw.set r { R with c:=R.c.set i e1 },wrr:=T } w':=by
 have H:=h.row r R W;have z:R.fz<=R.c.length:=H.fz.resolve_left λ J=>by rw[J]at C;cases C
 have B:=H.real C;have s:=H.off y;have a:=H.cells;have d:=H.un B;have p:=H.fit;rw[s]at a d p;simp only[wG]at a d p;obtain⟨vs,e',fr,S,g3,g4,g5⟩:=H.blk B;obtain⟨V,E,U⟩:=Y vs e' fr S;have ab:=getElem?_lt C
 obtain⟨Γ',f1,f2,_⟩:=qtW h W s z (R':={ R with c:=R.c.set i e1 }) rfl (g := Γ.cur r) (vs:=vs') (.inr ⟨rfl,rfl,E.trans g3⟩)
  (λ e P=>by
   obtain⟨q,l⟩:=List.getElem?_of_mem P;rw[List.getElem?_set]at l;split at l
   ·cases l;exact A
   ·exact H.len e (wa l))
  (λ e P=>by
   obtain⟨q,l⟩:=List.getElem?_of_mem P;rw[List.getElem?_set]at l;split at l
   ·cases l;exact G
   ·exact H.plain e (wa l)) (by show R.fz<=(R.c.set i e1).length;rw[wJ];exact z) (by rw[E];exact g4) g5 V
  (by show(R.c.set i e1).length*R.k<=_;rw[wJ,E,g3];exact p) d
  (by
   intro q e j x l M;have f:(R.c.set i e1)[q]?=some e:=l;rw[List.getElem?_set]at f;split at f
   ·rename_i n;subst n;cases f;exact J j x M
   ·rename_i n;obtain⟨u,Z,t,h1⟩:=a q e j x f M;refine⟨u,?_,t,h1⟩;have L:=getElem?_lt M;rw[H.len e (wa f)]at L;rw[U,<- QQ S]
    ·exact Z
    ·rcases Nat.lt_or_gt_of_ne n with m | N
     ·right
      calc i*R.k+R.k=(i+1)*R.k:=by rw[wN,xw]
       _<=q*R.k:=wn _ m
       _<=q*R.k+j:=kF _ _
     ·left
      calc q*R.k+j<q*R.k+R.k:=by omega
       _=(q+1)*R.k:=by rw[wN,xw]
       _<=i*R.k:=wn _ N)
  (by
   intro b off u K;have o:=(h.mem b off u K).1;by_cases D:b = Γ.cur r
   ·subst D
    have m:off<R.fz*R.k:=by
     rcases Nat.lt_or_ge off (R.fz*R.k)with m | O
     ·exact m
     ·rw[d off O]at K;cases K
    have:R.fz*R.k<=i*R.k:=wn _ hf;rw[QQ V,U off (.inl (by omega)),<- QQ S];exact o
   ·unfold World.cell? at o |-
    rw[X b D];exact o)
  (λ b _ D=>X b (D.resolve_right B)) (.inl ⟨rfl,B⟩) I F v (by omega) Q T
 exact⟨Γ',f1,f2⟩
end Go.AmZ
namespace Go.AmZ
open Go Go.RowKit
theorem TD.inv{P:Program}{t:TypeId}{d:TD}(h:jD P t=some d):∃ i u z,P.info? t=some i/\P.underlying t=some u/\i.zero=some z/\i.size=d.size/\i.bytes=d.bytes/\quv u=d.agg/\z.cells.toList=d.zero/\qcw P u=some d.k:=by
 grind [jD]
theorem qg4{P:Program}{u:TypeDesc}(h:qcw P u=some .string):u = .string:=by
 cases u<;>simp[qcw]at h<;>try rfl
 all_goals (split at h<;>try (split at h))<;>simp at h
theorem qNe{P:Program}{u:TypeDesc}(h:qcw P u=some .bool):u = .bool:=by
 cases u<;>simp[qcw]at h<;>try rfl
 all_goals (split at h<;>try (split at h))<;>simp at h
theorem qA8{P:Program}{u:TypeDesc}{k:IntKind}(h:qcw P u=some (.int k)):u = .int k:=by
 cases u<;>simp[qcw]at h
 all_goals first | (subst h;rfl) | ((split at h<;>try (split at h))<;>simp at h)
theorem qbh{P:Program}{u:TypeDesc}{e s b:Nat}{z:List Value}(h:qcw P u=some (.slice e s b z)):u = .slice e/\∃ i a,P.info? e=some i/\i.zero=some a/\i.size=s/\i.bytes=b/\a.cells.toList=z:=by
 cases u with
 | slice c =>
   grind [qcw]
 | _=>simp[qcw]at h<;>(split at h<;>simp at h)
theorem qJK{P:Program}{u:TypeDesc}{n e s:Nat}(h:qcw P u=some (.array n e s)):u = .array n e/\∃ i,P.info? e=some i/\i.size=s:=by
 cases u with
 | array a b =>
   grind [qcw]
 | _=>simp[qcw]at h<;>((split at h<;>try (split at h))<;>simp at h)
theorem qr9{P:Program}{u:TypeDesc}{b:List (Nat × Nat × Bool)}(h:qcw P u=some (.struct b)):∃ F,u = .struct F/\qbm P F.toList=some b:=by
 cases u with
 | struct F =>
   simp only[qcw]at h;cases a:qbm P F.toList with
   | none=>rw[a]at h;cases h
   | some l=>rw[a]at h;cases h;exact⟨F,rfl,a⟩
 | slice e=>simp only[qcw]at h;split at h<;>(try split at h)<;>cases h
 | array n e=>simp only[qcw]at h;split at h<;>cases h
 | _=>simp[qcw]at h
theorem qkF{P:Program}:∀{F:List Field} {a:List (Nat × Nat × Bool)},qbm P F=some a->F.length=a.length/\∀(i:Nat) (x:Nat × Nat × Bool),a[i]?=some x->∃ f fi u,F[i]?=some f/\P.info? f.type=some fi/\P.underlying f.type=some u/\x=(f.offset,fi.size,quv u)
 | [],a,h=>by simp[qbm]at h;subst h;exact⟨rfl,λ i x b=>by simp at b⟩
 | f::F,a,h=>by
   simp only[qbm]at h;split at h
   ·rename_i i u l e d c;cases h;obtain⟨j,g⟩:=qkF c;grind
   ·cases h
def JQ(P:Program)(Γ : Gh)(σ : St)(w:World)(o:Oper)(ρ : Operand->Value)(x:AV)(σ':Option St):Prop :=
 ∃ a u w' Γ',(execOp ρ o).run P w = .ok a w'/\(a = .value u\/(a = .skip/\u=undef))/\Ext Γ w Γ' w'/\Inv Γ' (turn σ σ') w'/\Rep Γ' x u
theorem JQ.val{P:Program}{Γ : Gh}{σ : St}{w:World}{o:Oper}{ρ : Operand->Value}{x:AV}{u:Value}(h:(execOp ρ o).run P w = .ok (.value u) w)(b:Inv Γ σ w)(a:Rep Γ x u):JQ P Γ σ w o ρ x none :=
 ⟨_,u,w,Γ,h,.inl rfl,.refl _ _,b,a⟩
section
variable {P:Program} {C:Cfg} {Γ : Gh} {σ : St} {w:World} {o:Oper} {tm:List AV} {ρ : Operand->Value} {x:AV} {σ':Option St}
theorem zo{y:Value}{u:Value}(h:Rep Γ (.v y) u):u=y:=by cases h;rfl
theorem qEt(c:Inv Γ σ w)(b:∀ y,Rep Γ (aev tm y) (ρ y))(y:Operand)(a:o.op = .move y\/o.op = .assign y):JQ P Γ σ w o ρ (aev tm y) none:=by
 refine .val ?_ c (b y);rcases a with a | a<;>simp[execOp,a]
theorem qNz(g:Inv Γ σ w)(d:∀ y,Rep Γ (aev tm y) (ρ y))(c a b:Operand)(e:o.op = .pick c a b)(h:qc C tm σ o.op=some (x,σ')):JQ P Γ σ w o ρ x σ':=by
 rw[e]at h;simp only[qc]at h;split at h<;>try cases h
 ·rename_i f;have:=zo (f▸d c);exact .val (by simp[execOp,e,this,asBool]) g (d a)
 ·rename_i f;have:=zo (f▸d c);exact .val (by simp[execOp,e,this,asBool]) g (d b)
theorem qf6(e:TypeId)(cs:Array Value)(w:World):(newRow e cs).run P w = .ok ⟨w.heap.size,0,none⟩ (w.alloc (.cells cs e)):=by
 simp only[newRow,newObj];rfl
theorem qg3:∀{l:List Value},l.all zu=true->RepL Γ (l.map .v) l/\∀ u∈l,u.oneCell'=true
 | [],_=>⟨.nil,λ u h=>by cases h⟩
 | y::l,h=>by
   simp only[kC,wd]at h;obtain⟨c,b⟩:=qg3 h.2;refine⟨.cons (.v y h.1) c,λ u a=>?_⟩;rcases wx.1 a with rfl | a
   ·exact qDo h.1
   ·exact b u a
theorem qLG(g:∀ t d,C.ty t=some d->jD P t=some d)(c:Inv Γ σ w)(e:TypeId)(a:o.op = .alloc e)(h:qc C tm σ o.op=some (x,σ')):JQ P Γ σ w o ρ x σ':=by
 rw[a]at h;simp only[qc]at h;split at h<;>try cases h
 rename_i d f;split at h<;>try cases h
 rename_i b;obtain⟨i,u,z,l,A,k,y,v,s,j,r⟩:=TD.inv (g e d f);obtain⟨n,m⟩:=qg3 (Γ := Γ) b;obtain⟨Γ',e1,q,p⟩:=qzp c n m e;refine⟨.value (.pointer (some ⟨w.heap.size,0,none⟩)),_,_,Γ',?_,.inl rfl,e1,q,p⟩;rw[<- j];simp[execOp,a,Instr.alloc,zeroValue,typeInfo,l,k,newVar,qf6]
theorem qO8(d:Inv Γ σ w)(a:∀ y,Rep Γ (aev tm y) (ρ y))(e:TypeId)(y:Operand)(b:o.op = .box e y)(h:qc C tm σ o.op=some (x,σ')):JQ P Γ σ w o ρ x σ':=by
 rw[b]at h;simp only[qc]at h;split at h<;>try cases h
 split at h<;>try cases h
 rename_i c;obtain⟨g,f⟩:=(a y).cells c;obtain⟨Γ',e1,j,i⟩:=qzp d g f e;refine⟨.value (.pointer (some ⟨w.heap.size,0,none⟩)),_,_,Γ',?_,.inl rfl,e1,j,i⟩;simp[execOp,b,Instr.box,newVar,qf6]
def qFk(Γ : Gh)(w:World)(cs:List AV)(b o:Nat):Prop:=∀(j:Nat) (x:AV),cs[j]?=some x->∃ u,w.cell? ⟨b,o+j,none⟩=some u/\Rep Γ x u/\u.oneCell'=true
theorem qgL(b o j:Nat):(⟨b,o,none⟩:Addr).add j=⟨b,o+j,none⟩:=by unfold Addr.add;split<;>simp_all
theorem qIq(l:Inv Γ σ w){y:AV}{u:Value}(m:Rep Γ y u){d:TD}{z:AV}(h:JJ d σ y=some z):∃ cs o b g,qFk Γ w cs b g/\u = .pointer (some ⟨b,g+o,none⟩)/\qdN d.agg d.size cs o=some z:=by
 cases m with
 | ptr b o t =>
   simp only[JJ]at h;split at h<;>try cases h
   rename_i cs a;obtain⟨vs,e,G,D,g3⟩:=l.box b cs a;refine⟨cs,o,Γ.β b,0,?_,by simp,h⟩;intro j x c;obtain⟨u,p,f⟩:=D.get c;refine⟨u,?_,f,g3 u (wa p)⟩;unfold World.cell?;grind
 | rpt r i o I A q E c =>
   simp only[JJ]at h;split at h<;>try cases h
   rename_i R B;split at h<;>try cases h
   rename_i cs a;simp only[qsz]at a;split at a<;>try cases a
   rename_i s;have H:=l.row r R B;have C:=c (by rw[<- H.ver (H.live a)];exact s);refine⟨cs,o,Γ.cur r,Γ.of r+i*R.k,?_,by rw[C,H.k],h⟩;intro j x c;rw[wI];exact H.cells i cs j x a c
 | ept cs o b g us F n m=>exact⟨cs,o,b,g,λ j x c=>⟨us j,(l.mem _ _ _ (n j x c)).1,m j x c,(l.mem _ _ _ (n j x c)).2⟩,rfl,h⟩
 | v x t=>simp[JJ]at h
 | dead u=>simp[JJ]at h
 | sl=>simp[JJ]at h
 | rs=>simp[JJ]at h
 | fn=>simp[JJ]at h
 | agg=>simp[JJ]at h
 | tup=>simp[JJ]at h
theorem qng{t:TypeId}{u:TypeDesc}(h:P.underlying t=some u)(w:World):(isAgg t).run P w = .ok (quv u) w:=by
 cases u<;>simp[isAgg,underlying,h,quv]
theorem qGo{t:TypeId}{d:TD}(hd:jD P t=some d){cs:List AV}{b o' o:Nat}(hc:qFk Γ w cs b o'){z:AV}(h:qdN d.agg d.size cs o=some z):∃ u,(loadVar t ⟨b,o'+o,none⟩).run P w = .ok u w/\Rep Γ z u:=by
 obtain⟨i,u,zv,h1,h2,h3,h4,h5,h6,h7,h8⟩:=TD.inv hd;unfold qdN at h;split at h
 ·rename_i hg;split at h<;>try cases h
  rename_i hle;have hle:o+d.size<=cs.length:=by simpa using hle
  have hget:∀ j,j<d.size->∃ u,w.cell? ⟨b,o'+o+j,none⟩=some u/\(∀ x,cs[o+j]?=some x->Rep Γ x u)/\u.oneCell'=true:=by
   intro j hj;have hlt:o+j<cs.length:=by omega
   obtain⟨u,a1,a2,a3⟩:=hc (o+j) _ (List.getElem?_eq_getElem hlt);grind
  let f:Nat->Value := λ j=>(w.cell? ⟨b,o'+o+j,none⟩).getD undef
  have hf:∀ j,j<d.size->w.cell? ⟨b,o'+o+j,none⟩=some (f j) := λ j hj=>by
   grind
  have hrun:=run_loadCells (P:=P) w ⟨b,o'+o,none⟩ d.size f (λ j hj=>by rw[qgL];exact hf j hj);refine⟨.agg ((List.range d.size).map f).toArray,?_,.agg _ _ (by simp;omega) ?_ ?_⟩
  ·rw[show(loadVar t ⟨b,o'+o,none⟩)=(do if <- isAgg t then pure (.agg (<- loadCells ⟨b,o'+o,none⟩ (<- sizeOf t)))else load ⟨b,o'+o,none⟩)from rfl];simp[Sem.run_bind',qng h2,h6,hg,sizeOf,typeInfo,h1,h4,hrun]
  ·grind
  ·grind
 ·rename_i hg;obtain⟨u,a1,a2,a3⟩:=hc o z h;refine⟨u,?_,a2⟩;rw[show(loadVar t ⟨b,o'+o,none⟩)=(do if <- isAgg t then pure (.agg (<- loadCells ⟨b,o'+o,none⟩ (<- sizeOf t)))else load ⟨b,o'+o,none⟩)from rfl];simp[Sem.run_bind',qng h2,h6,hg,a1]
theorem qFw(c:Inv Γ σ w){t:TypeId}{d:TD}(e:jD P t=some d){y:AV}{u:Value}(a:Rep Γ y u){z:AV}(h:JJ d σ y=some z):∃ v A,u = .pointer (some A)/\(loadVar t A).run P w = .ok v w/\Rep Γ z v:=by
 obtain⟨cs,o,b,l,i,g,f⟩:=qIq c a h;obtain⟨v,k,j⟩:=qGo e i f;exact⟨v,_,g,k,j⟩
theorem qMT(g:∀ t d,C.ty t=some d->jD P t=some d)(c:Inv Γ σ w)(a:∀ y,Rep Γ (aev tm y) (ρ y))(t:TypeId)(y:Operand)(b:o.op = .load t y)(h:qc C tm σ o.op=some (x,σ')):JQ P Γ σ w o ρ x σ':=by
 rw[b]at h;simp only[qc]at h;split at h<;>try cases h
 rename_i d f;split at h<;>try cases h
 rename_i z e;obtain⟨v,A,k,j,i⟩:=qFw c (g t d f) (a y) e;exact .val (by simp[execOp,b,Instr.loadAt,Instr.sureAddr,k,Sem.run_bind',j]) c i
theorem qtl{w:World}{g j:Nat}{t:TypeId}{fr:Nat × Nat}{a:Array Value}(h:w.heap[g]?=some (.cells a t fr))(c:qqb a.size fr)(d:j<a.size):w.frozen? ⟨g,j,none⟩=false:=by
 obtain⟨lo,b⟩:=fr;unfold World.frozen?;show(match w.heap[g]? with | some (.cells _ _ (lo,b))=>decide (lo<=j)&&decide (j<b) | _=>false)=false;rw[h];have:=c j d;grind
theorem qD1{w:World}{g:Nat}{t:TypeId}{fr:Nat × Nat}{a:Array Value}(h:w.heap[g]?=some (.cells a t fr)):w.setRow g a.toList.toArray=w:=by
 unfold World.setRow;have:∀ H:Array Obj,H=w.heap->({ w with heap:=H }:World)=w := λ H e=>by subst e;rfl
 refine this _ ?_;apply Array.ext_getElem?;intro q;rw[Array.getElem?_modify];split
 ·rename_i c;subst c;rw[h];simp
 ·rfl
theorem qwJ{α : Type}{l m:List α}{off n:Nat}(a:m.length=n)(h:off+n<=l.length)(q:Nat):(l.take off++(m++l.drop (off+n)))[q]?=if q<off then l[q]? else if q<off+n then m[q-off]? else l[q]?:=by
 grind
theorem qmd{g:Nat}{t:TypeId}{fr:Nat × Nat}:∀(vs:List Value) (o:Nat) (a:Array Value) (w:World),w.heap[g]?=some (.cells a t fr)->o+vs.length<=a.size->w.setCells g o vs=w.setRow g (a.toList.take o++(vs++a.toList.drop (o+vs.length))).toArray
 | [],o,a,w,h,_=>by
   rw[World.setCells,ke,wP,kV,kz];exact(qD1 h).symm
 | v::vs,o,a,w,h,c=>by
   rw[wu]at c;have b:o<a.size:=by omega
   have d:w.setCell ⟨g,o,none⟩ v=w.setRow g (a.setIfInBounds o v):=setCell_eq_setRow w g o a t fr v h;rw[World.setCells,d,qmd vs (o+1) (a.setIfInBounds o v) _ (setRow_heap w g a _ t fr h) (by rw[xM];omega),setRow_setRow];congr 2
   have e1:(a.toList.set o v).take (o+1)=a.toList.take o++[v]:=by
    rw[kw,vk (wb _),List.getElem?_set_self (by simpa using b)];rfl
   have e:(a.toList.set o v).drop (o+1+vs.length)=a.toList.drop (o+(v::vs).length):=by
    rw[vM (by omega),wu];congr 1;omega
   grind
theorem qqK{w:World}{g:Nat}{t:TypeId}{fr:Nat × Nat}{a:Array Value}(h:w.heap[g]?=some (.cells a t fr))(b:qqb a.size fr)(o:Nat)(vs:List Value)(c:o+vs.length<=a.size)(e:∀ v∈vs,v.oneCell'=true) :
  (storeCells ⟨g,o,none⟩ vs 0).run P w = .ok () (w.setRow g (a.toList.take o++(vs++a.toList.drop (o+vs.length))).toArray):=by
 have:=run_storeCells_cells (P:=P) g o vs 0 w (λ j d=>by
  rw[QQ h,Array.getElem?_eq_getElem (show o+0+j<a.size by omega)];rfl) (λ j d=>qtl h b (by omega)) e
 rw[wP,qmd vs o a w h c]at this;exact this
theorem qDH(hC:∀ t d,C.ty t=some d->jD P t=some d)(hi:Inv Γ σ w)(D:∀ y,Rep Γ (aev tm y) (ρ y))(t:TypeId)(y z:Operand)(ho:o.op = .store t y z){d:TD}(hd:C.ty t=some d){r i off ep:Nat}(hp:aev tm y = .rpt r i off ep){R R':Row}(hR : σ.rw[r]?=some R)
  (F:qsv R i off ep d.size (cellsOf (aev tm z))=some R'):JQ P Γ σ w o ρ (.tup []) (some { σ with rw := σ.rw.set r R',wrr:=r :: σ.wrr }):=by
 unfold qsv at F;split at F<;>try cases F
 rename_i B n a;simp only[wd,decide_eq_true_eq,wv]at n;obtain⟨⟨J,Z,aa,N,h⟩,M⟩:=n
 have v:(cellsOf (aev tm z)).all isC=true:=wv.2 λ x f=>by
  have:=M x f;cases x<;>first | rfl | (simp[qy]at this)
 obtain⟨ii,u,zv,h1,h2,h3,h4,h5,h6,h7,h8⟩:=TD.inv (hC t d hd);have H:=hi.row r R hR
 have E : ρ y = .pointer (some ⟨Γ.cur r,i*R.k+off,none⟩):=by
  have s:=hp▸D y;generalize ρ y=u0 at s;cases s with
  | rpt _ _ _ _ A ac U hl=>rw[hl (by rw[<- H.ver (H.live a)];exact J),H.k,H.off h,wG]
 obtain⟨g1,g2⟩:=(D z).cells v;have gl:=(D z).cells_len v;obtain⟨vs,e,fr,O,c2,c3,_⟩:=H.blk (H.real a);have Y:=getElem?_lt a;have ae:=H.len B (wa a)
 have ad:i*R.k+R.k<=vs.size:=by
  calc i*R.k+R.k=(i+1)*R.k:=by rw[wN,xw]
   _<=R.c.length*R.k:=wn _ Y
   _ <= Γ.sz r:=by have:=H.fit;omega
   _=vs.size:=c2.symm
 have b:(ρ z).cells.toList.length=d.size:=by simp;omega
 have p:=qqK (P:=P) O c3 (i*R.k+off) (ρ z).cells.toList (by rw[b];omega) g2;rw[b]at p;have S:i*R.k+off+d.size<=vs.toList.length:=by simp;omega
 have L := λ q=>qwJ b S q;have K := λ q=>qwJ (l:=B) (m:=cellsOf (aev tm z)) (off:=off) N (by omega) q
 obtain⟨Γ',f1,f2⟩:=qrA hi hR a Z h (e1:=B.take off++(cellsOf (aev tm z)++B.drop (off+d.size))) (by simp;omega)
  (by
   intro x f;rcases ww.1 f with f | f
   ·exact H.plain B (wa a) x (wY f)
   ·rcases ww.1 f with f | f
    ·exact M x f
    ·exact H.plain B (wa a) x (wX f))
  (vs':=(vs.toList.take (i*R.k+off)++((ρ z).cells.toList++vs.toList.drop (i*R.k+off+d.size))).toArray)
  (w':=w.setRow (Γ.cur r) (vs.toList.take (i*R.k+off)++((ρ z).cells.toList++vs.toList.drop (i*R.k+off+d.size))).toArray)
  (by
   intro ab e2 af U;rw[O]at U;cases U;refine⟨setRow_heap w _ _ _ _ _ O,?_,λ q hq=>?_⟩
   ·simp only[km,wc,wm,wQ,b,wM];omega
   ·rw[List.getElem?_toArray,L q];have T:vs[q]?=vs.toList[q]?:=by simp
    rw[T];split
    ·rfl
    ·rw[if_neg (by omega)])
  (by
   intro j x G;rw[List.getElem?_toArray,L];rw[K]at G
   have I:∀ x',B[j]?=some x'->∃ u,vs.toList[i*R.k+j]?=some u/\Rep Γ x' u/\u.oneCell'=true:=by
    intro x' Q;obtain⟨u,E,g,h1⟩:=H.cells i B j x' a Q;rw[QQ O,H.off h,wG]at E;exact⟨u,by simpa using E,g,h1⟩
   split at G
   ·rename_i X;rw[if_pos (by omega)];exact I x G
   ·rename_i X;split at G
    ·rename_i W;rw[if_neg (by omega),if_pos (by omega)];obtain⟨u,E,g⟩:=g1.get G;exact⟨u,by rw[show i*R.k+j-(i*R.k+off)=j-off by omega];exact E,g,g2 u (wa E)⟩
    ·rename_i W;rw[if_neg (by omega),if_neg (by omega)];exact I x G)
  (λ k hk=>setRow_other w _ k _ hk) rfl rfl rfl (by simp) (wb _) (r :: σ.wrr)
 refine⟨.skip,undef,_,Γ',?_,.inr ⟨rfl,rfl⟩,f1,f2,.tup [] [] rfl λ i x u f=>by simp at f⟩;have V:(ρ z).cells.size=ii.size:=by omega
 simp[execOp,ho,Instr.storeAt,Instr.sureAddr,E,storeVar,sizeOf,typeInfo,h1,Sem.run_bind',V,p,wi]
theorem qLY(hC:∀ t d,C.ty t=some d->jD P t=some d)(hi:Inv Γ σ w)(hρ : ∀ y,Rep Γ (aev tm y) (ρ y))(t:TypeId)(y z:Operand)(ho:o.op = .store t y z)(h:qc C tm σ o.op=some (x,σ')):JQ P Γ σ w o ρ x σ':=by
 rw[ho]at h;simp only[qc]at h;split at h<;>try cases h
 case h_2 =>
  rename_i d r i off ep hd hp;split at h<;>try cases h
  rename_i R hR;split at h<;>cases h;rename_i R' hst;exact qDH hC hi hρ t y z ho hd hp hR hst
 rename_i d b off hd hp;split at h<;>try cases h
 rename_i cs hcs;split at h<;>try cases h
 rename_i hcond;simp only[wd,decide_eq_true_eq]at hcond;obtain⟨⟨hl,hfit⟩,hone⟩:=hcond;obtain⟨i,u,zv,h1,h2,h3,h4,h5,h6,h7,h8⟩:=TD.inv (hC t d hd);have hptr:=hp▸hρ y
 have hu : ρ y = .pointer (some ⟨Γ.β b,off,none⟩):=by
  generalize ρ y=u0 at hptr;cases hptr;rfl
 obtain⟨g1,g2⟩:=(hρ z).cells hone;have gl:=(hρ z).cells_len hone;obtain⟨vs,e,c1,c2,c3⟩:=hi.box b cs hcs;have hvl:vs.size=cs.length:=by simpa using c2.len
 have hrun:=run_storeCells_at P (Γ.β b) off e (ρ z).cells.toList 0 vs w c1 (by simp;omega) g2;simp only[wP]at hrun;have hvl2:(ρ z).cells.toList.length=d.size:=by simp;omega
 rw[hvl2]at hrun
 obtain⟨e1,e2⟩:=qHX hi hcs (cs':=cs.take off++(cellsOf (aev tm z)++cs.drop (off+d.size))) (vs':=vs.toList.take off++((ρ z).cells.toList++vs.toList.drop (off+d.size)))
  ((c2.take off).append (g1.append (c2.drop _))) (by
    intro v hv;rcases ww.1 hv with hv | hv
    ·exact c3 v (wY hv)
    ·rcases ww.1 hv with hv | hv
     ·exact g2 v hv
     ·exact c3 v (wX hv)) (b :: σ.wr) (w.setRow (Γ.β b) (vs.toList.take off++((ρ z).cells.toList++vs.toList.drop (off+d.size))).toArray) (λ vs' e' hvs=>setRow_heap w _ vs' _ e' (0,0) hvs) (λ k hk=>setRow_other w _ k _ hk) rfl rfl rfl (by simp) (wb _)
 refine⟨.skip,undef,_,Γ,?_,.inr ⟨rfl,rfl⟩,e1,e2,.tup [] [] rfl λ i x u hx=>by simp at hx⟩;have hsz:(ρ z).cells.size=i.size:=by omega
 simp[execOp,ho,Instr.storeAt,Instr.sureAddr,hu,storeVar,sizeOf,typeInfo,h1,Sem.run_bind',hsz,hrun,wi]
theorem qN3(f:Inv Γ σ w)(b:∀ y,Rep Γ (aev tm y) (ρ y))(y:Operand)(c:o.op = .nilCheck y)(h:qc C tm σ o.op=some (x,σ')):JQ P Γ σ w o ρ x σ':=by
 rw[c]at h;simp only[qc]at h;have a:=b y;split at h<;>try cases h
 all_goals
  rename_i e;rw[e]at a;refine .val ?_ f a;generalize d : ρ y=u0 at a;cases a;simp[execOp,c,d]
end
abbrev waC:=@TD.inv
end Go.AmZ
namespace Go.AmZ
open Go Go.RowKit
section
variable {P:Program} {C:Cfg} {Γ : Gh} {σ : St} {w:World} {o:Oper} {tm:List AV} {ρ : Operand->Value} {x:AV} {σ':Option St}
theorem toList_eq(a:ByteArray):a.toList=a.data.toList:=by rw[ByteArray.toList_eq]
theorem qO2{op:BinOp}{k:IntKind}{a b:Int}{z:Value}(h:qCv op k a b=some z)(t:TypeId):Go.binOp op t (.int k a) (.int k b) = .pure z/\zu z=true:=by
 cases op<;>simp only[qCv]at h<;>try cases h
 all_goals first
  | exact⟨by simp[Go.binOp,Op.intArith,Op.intBits,Op.intCmp,iw,qe,zq,qtu,qmj,ieq,ilt,ile,qd]<;>first | rfl | (congr 1;simp[bne];done),rfl⟩
  | (split at h
     ·cases h
     ·rename_i d;cases h;have c:b≠0:=by simpa[ieq]using d
      exact⟨by simp[Go.binOp,Op.intDiv,qiJ,jr,iw,c];rfl,rfl⟩)
theorem qPj{op:BinOp}{a b:ByteArray}{z:Value}(h:qCs op a b=some z)(t:TypeId):Go.binOp op t (.string a) (.string b) = .pure z/\zu z=true:=by
 cases op<;>simp only[qCs]at h<;>try cases h
 all_goals first
  | exact⟨by simp[Go.binOp,Op.stringOp,xeq,xlt,qrK,qd,toList_eq];rfl,rfl⟩
  | (split at h<;>cases h
     rename_i z c;simp only[qG8]at c;split at c<;>cases c;rename_i d;exact⟨by simp only[Go.binOp,Op.stringOp];rw[if_neg d];rfl,rfl⟩)
theorem qN1{op:BinOp}{a b z:Value}(h:qrs op a b=some z)(t:TypeId)(X Y:Operand):(eqGuard op t X Y a b).run P w = .ok () w/\(Go.binOp op t a b).run P w = .ok z w/\zu z=true:=by
 have guard:∀(k e:IntKind) (m n:Int),(eqGuard op t X Y (.int k m) (.int e n)).run P w = .ok () w := λ k e m n=>by cases op<;>simp[eqGuard]
 have c:∀(m n:ByteArray),(eqGuard op t X Y (.string m) (.string n)).run P w = .ok () w := λ m n=>by cases op<;>simp[eqGuard]
 unfold qrs at h;split at h
 ·rename_i k a e b;split at h
  ·split at h<;>cases h;rename_i g;have d:¬ b<0:=by simpa[ilt]using g
   refine⟨guard _ _ _ _,?_,rfl⟩;simp[Go.binOp,Op.shift,d,qxU]
  ·split at h<;>cases h;rename_i g;have d:¬ b<0:=by simpa[ilt]using g
   refine⟨guard _ _ _ _,?_,rfl⟩;simp[Go.binOp,Op.shift,d,qbG]
  ·split at h<;>try cases h
   rename_i l;have f:k=e:=by simpa using l
   subst f;obtain⟨j,i⟩:=qO2 h t;refine⟨guard _ _ _ _,?_,i⟩;rw[j];rfl
 ·rename_i a b;obtain⟨j,i⟩:=qPj h t;refine⟨c _ _,?_,i⟩;rw[j];rfl
 ·cases h
theorem qHE{u:TypeDesc}(h:qcw P u=some .ptr):∃ e,u = .pointer e:=by
 cases u<;>simp only[qcw]at h<;>first | exact⟨_,rfl⟩ | (cases h;done) | skip
 all_goals (repeat' (first | (cases h;done) | split at h))
 rename_i b;cases a:qbm P b.toList with
 | none=>rw[a]at h;cases h
 | some l=>rw[a]at h;cases h
theorem qMt{y:AV}{u:Value}(h:Rep Γ y u)(a:qre y=true):∃ A,u = .pointer (some A):=by
 cases h with
 | ptr=>exact⟨_,rfl⟩
 | rpt=>exact⟨_,rfl⟩
 | ept=>exact⟨_,rfl⟩
 | _=>cases a
theorem qMe{y:AV}(h:qBG y=true):y = .v (.pointer none):=by
 grind [qBG]
theorem qwD{t e:TypeId}(h:P.underlying t=some (.pointer e)):P.underlying t=some (.pointer (P.pointee t)):=by
 unfold Program.pointee;rw[h]
theorem qOa(G:∀ t d,C.ty t=some d->jD P t=some d)(D:Inv Γ σ w)(c:∀ y,Rep Γ (aev tm y) (ρ y))(op:BinOp)(t:TypeId)(y z:Operand)(u:TypeId)(q:o.op = .binOp op t y z u)(h:qc C tm σ o.op=some (x,σ')):JQ P Γ σ w o ρ x σ':=by
 have g:∀(m n:Bool),(eqGuard op t y z (.bool m) (.bool n)).run P w = .ok () w := λ m n=>by cases op<;>simp[eqGuard]
 have e:∀(m n:Option Addr),(eqGuard op t y z (.pointer m) (.pointer n)).run P w = .ok () w := λ m n=>by cases op<;>simp[eqGuard]
 rw[q]at h;simp only[qc]at h;split at h<;>try cases h
 ·rename_i a b B s;have k:=zo (B▸c y);have j:=zo (s▸c z);split at h<;>cases h
  all_goals
   rename_i S R Q O r;obtain⟨i,u,H,N,p,M,L,K,J,I,l⟩:=waC (G t _ r);have E:=qNe l;subst E;refine .val ?_ D (.v _ rfl);have f:=run_equal_bool (P:=P) w t a b p;simp[execOp,q,k,j,Sem.run_bind',g,Go.binOp,f,qdG,qd]
 ·rename_i B s;have k:=zo (B▸c y);have j:=zo (s▸c z);split at h<;>cases h
  all_goals
   rename_i S R Q O r;obtain⟨i,u,H,N,p,M,L,K,J,I,l⟩:=waC (G t _ r);obtain⟨T,rfl⟩:=qHE l;refine .val ?_ D (.v _ rfl);have f:=run_equal_pointer_nil (P:=P) w t none (qwD p);simp[execOp,q,k,j,Sem.run_bind',e,Go.binOp,f]
 ·rename_i a b _ _ B s;have k:=zo (B▸c y);have j:=zo (s▸c z);split at h<;>cases h;rename_i Y U;obtain⟨X,W,V⟩:=qN1 (P:=P) (w:=w) U t y z;refine .val ?_ D (.v _ V);simp[execOp,q,k,j,Sem.run_bind',X,W]
 ·split at h<;>cases h
  all_goals
   rename_i S R Q O F r;rw[wd]at F;obtain⟨i,u,H,N,p,M,L,K,J,I,l⟩:=waC (G t _ r);obtain⟨T,rfl⟩:=qHE l;obtain⟨A,k⟩:=qMt (c y) F.1;have j:=zo (qMe F.2▸c z);refine .val ?_ D (.v _ rfl);have f:=run_equal_pointer_nil (P:=P) w t (some A) (qwD p);simp[execOp,q,k,j,Sem.run_bind',e,Go.binOp,f]
theorem qPt(e:Inv Γ σ w)(b:∀ y,Rep Γ (aev tm y) (ρ y))(op:UnOp)(t:TypeId)(y:Operand)(d:o.op = .unOp op t y)(h:qc C tm σ o.op=some (x,σ')):JQ P Γ σ w o ρ x σ':=by
 rw[d]at h;simp only[qc]at h;split at h<;>try cases h
 rename_i a g;have f:=zo (g▸b y);split at h<;>cases h;rename_i z c;unfold unA at c;split at c<;>cases c
 ·exact .val (by simp[execOp,d,f,Op.unary,Op.intArith,iw,zq]) e (.v _ rfl)
 ·exact .val (by simp[execOp,d,f,Op.unary,qd]) e (.v _ rfl)
theorem qui(a:∀ y,Rep Γ (aev tm y) (ρ y)):∀ l:List Operand,RepL Γ (l.map (aev tm)) (l.map ρ)
 | [] => .nil
 | y::l => .cons (a y) (qui a l)
theorem qPD(g:Inv Γ σ w)(b:∀ y,Rep Γ (aev tm y) (ρ y))(f:Fn)(e cs:Array Operand)(c:o.op = .makeFunc f e cs)(h:qc C tm σ o.op=some (x,σ')):JQ P Γ σ w o ρ x σ':=by
 rw[c]at h;cases f with
 | func f=>?_
 | _=>simp only[qc]at h;cases h
 simp only[qc]at h;split at h<;>cases h;rename_i i
 have a:e = #[]:=by
  grind
 subst a;have d:=qui b cs.toList;refine .val (u := .func (.func f) #[] (cs.toList.map ρ).toArray) ?_ g (.fn f _ _ d.len d.rep);simp[execOp,c,Instr.makeFunc];rw[<- vc]
theorem qGw(l:Inv Γ σ w)(b:∀ y,Rep Γ (aev tm y) (ρ y))(y:Operand)(i:Nat)(e:o.op = .extract y i)(h:qc C tm σ o.op=some (x,σ')):JQ P Γ σ w o ρ x σ':=by
 rw[e]at h;simp only[qc]at h;split at h<;>try cases h
 rename_i vs f;split at h<;>cases h;rename_i z c;have d:=f▸b y;generalize g : ρ y=u0 at d;cases d with
 | tup cs us k j =>
   have a:i<us.length:=by rw[k];exact getElem?_lt c
   refine .val ?_ l (j i _ _ c (List.getElem?_eq_getElem a));simp[execOp,e,g,Instr.extract,a]
theorem qBf(T:∀ t d,C.ty t=some d->jD P t=some d)(s:Inv Γ σ w)(B:∀ y,Rep Γ (aev tm y) (ρ y))(t:TypeId)(y:Operand)(i:Nat)(E:o.op = .fieldAddr t y i)(h:qc C tm σ o.op=some (x,σ')):JQ P Γ σ w o ρ x σ':=by
 rw[E]at h;simp only[qc]at h;split at h<;>try cases h
 rename_i _ _ _ _ fs Q;split at h<;>try cases h
 rename_i off size g O;split at h<;>try cases h
 rename_i _ Z;obtain⟨ii,u,Y,q1,G,q3,q4,q5,q6,q7,K⟩:=waC (T t _ Q);obtain⟨F,rfl,S⟩:=qr9 K;obtain⟨f1,W⟩:=qkF S;obtain⟨f,fi,fu,V,J,g3,I⟩:=W i _ O;simp only[wR]at I;obtain⟨rfl,M,rfl⟩:=I;have p:F[i]?=some f:=by rw[<- V];simp
 have n:fi.size≠0:=by omega
 have e:∀ b a,ρ y = .pointer (some ⟨b,a,none⟩)->(execOp ρ o).run P w = .ok (.value (.pointer (some ⟨b,a+f.offset,none⟩))) w:=by
  intro b a k;simp[execOp,E,k,Instr.fieldAt,underlying,G,p,Instr.sureAddr,fieldPlace,sizeOf,typeInfo,J,n,qgL]
 have c:=B y;split at h<;>try cases h
 ·rename_i k;rw[k]at c;generalize l : ρ y=u0 at c;cases c;rename_i b z R;exact .val (e _ _ l) s (.ptr _ _ R)
 ·rename_i k;rw[k]at c;generalize l : ρ y=u0 at c;cases c;rename_i r j z X A m H L;by_cases q : Γ.ver r=X
  ·have U:=L q;subst U;exact .val (e _ _ l) s (.rpt _ _ _ _ _ m H λ _=>by rw[wI])
  ·refine .val (u := .pointer (some (A.add f.offset))) ?_ s (.rpt _ _ _ _ _ m H λ h=>absurd h q);simp[execOp,E,l,Instr.fieldAt,underlying,G,p,Instr.sureAddr,fieldPlace,sizeOf,typeInfo,J,n]
 ·rename_i k;rw[k]at c;generalize l : ρ y=u0 at c;cases c;rename_i cs z b v us D q N;refine .val (e _ _ l) s ?_;rw[wI];exact .ept cs (z+f.offset) b v us D q N
theorem qNc{f:TypeId}{fi:TypeInfo}{j:TypeDesc}(k:P.info? f=some fi)(i:P.underlying f=some j){cs:List AV}{us:List Value}(g:RepL Γ cs us)(b:∀ u∈us,u.oneCell'=true){off:Nat}{z:AV}(h:qdN (quv j) fi.size cs off=some z) :
  ∃ u,(part f us.toArray off).run P w = .ok u w/\Rep Γ z u:=by
 unfold qdN at h;split at h
 ·rename_i e;split at h<;>cases h;rename_i c;have c:off+fi.size<=cs.length:=by simpa using c
  refine⟨.agg ((us.drop off).take fi.size).toArray,?_,?_⟩
  ·simp[part,Sem.run_bind',qng i,e,sizeOf,typeInfo,k]
  ·have:=(g.drop off).take fi.size;exact .agg _ _ this.len (λ u d=>b u (wX (wY d))) this.rep
 ·rename_i e;obtain⟨u,d,a⟩:=g.get h;refine⟨u,?_,a⟩;simp[part,Sem.run_bind',qng i,e,d]
theorem qLm(E:∀ t d,C.ty t=some d->jD P t=some d)(s:Inv Γ σ w)(a:∀ y,Rep Γ (aev tm y) (ρ y))(t:TypeId)(y:Operand)(i:Nat)(j:o.op = .field t y i)(h:qc C tm σ o.op=some (x,σ')):JQ P Γ σ w o ρ x σ':=by
 rw[j]at h;simp only[qc]at h;split at h<;>try cases h
 rename_i _ _ _ _ V cs B b;split at h<;>try cases h
 rename_i off size g A;split at h<;>cases h;rename_i z n;obtain⟨T,u,L,S,m,R,Q,O,N,M,l⟩:=waC (E t _ B);obtain⟨F,rfl,D⟩:=qr9 l;obtain⟨W,J⟩:=qkF D;obtain⟨f,fi,U,I,H,g3,k⟩:=J i _ A;simp only[wR]at k;obtain⟨rfl,rfl,rfl⟩:=k;have c:F[i]?=some f:=by rw[<- I];simp
 have e:=b▸a y;generalize p : ρ y=u0 at e;cases e with
 | agg _ us r G q =>
   obtain⟨v,e1,K⟩:=qNc (P:=P) (w:=w) H g3 (Γ := Γ) ⟨r,q⟩ G n;refine .val ?_ s K;simp[execOp,j,p,Instr.field,underlying,m,c,asAgg,Sem.run_bind',e1]
theorem qKd(D:∀ t d,C.ty t=some d->jD P t=some d)(r:Inv Γ σ w)(a:∀ y,Rep Γ (aev tm y) (ρ y))(t:TypeId)(y z:Operand)(g:o.op = .index t y z)(h:qc C tm σ o.op=some (x,σ')):JQ P Γ σ w o ρ x σ':=by
 rw[g]at h;simp only[qc]at h;split at h<;>try cases h
 rename_i _ _ _ _ s k j B p q;split at h<;>cases h;rename_i b e;have F:=zo (p▸a y);have E:=zo (q▸a z);obtain⟨O,u,H,N,m,M,L,K,J,I,l⟩:=waC (D t _ B);have n:=qg4 l;subst n;simp only[qGt]at e;split at e<;>try cases e
 rename_i G;split at e<;>cases e;rename_i c i;refine .val ?_ r (.v _ rfl);have f:j.toNat<s.size:=by have:=getElem?_lt i;simpa using this
 have A:s[j.toNat]=c:=by
  have:=(List.getElem?_eq_some_iff.1 i).2;simp at this;exact this
 simp[execOp,g,F,E,Instr.index,asIntOf,underlying,m,G,f,A]
end
end Go.AmZ
namespace Go.AmZ
open Go Go.RowKit
section
variable {P:Program} {C:Cfg} {Γ : Gh} {σ : St} {w:World} {o:Oper} {tm:List AV} {ρ : Operand->Value} {x:AV} {σ':Option St}
theorem qB9(hC:∀ t d,C.ty t=some d->jD P t=some d)(G:Inv Γ σ w)(i:∀ y,Rep Γ (aev tm y) (ρ y))(t:TypeId)(y z:Operand)(Q:o.op = .indexAddr t y z)(h:qc C tm σ o.op=some (x,σ')):JQ P Γ σ w o ρ x σ':=by
 rw[Q]at h;simp only[qc]at h;split at h<;>try cases h
 ·rename_i _ _ _ e k bb zz kk j U T;have Y:=zo (T▸i z);obtain⟨ii,u,zv,q1,J,q3,q4,q5,q6,q7,I⟩:=waC (hC t _ U);obtain⟨rfl,ie,ze,L,p2,K,p4,p5⟩:=qbh I;have g:=i y
  have s:∀ b off n cap,ρ y = .slice (some ⟨b,off,none⟩) n cap->0<=j->j<n->(execOp ρ o).run P w = .ok (.value (.pointer (some ⟨b,off+j.toNat*k,none⟩))) w:=by
   intro b off n cap m D F;simp[execOp,Q,m,Y,Instr.indexAt,asIntOf,underlying,J,D,F,sizeOf,typeInfo,L,K,qgL]
  split at h<;>try cases h
  ·rename_i Z es f m;split at h<;>try cases h
   rename_i S;have S:Z=k:=by simpa[zi]using S
   subst S;split at h<;>cases h;rename_i cs c;simp only[qyn]at c;split at c<;>try cases c
   rename_i D;rw[m]at g;generalize v : ρ y=u0 at g;cases g with
   | sl _ _ _ a n cap b E us F hc hf B O ab X hm hr =>
     have A:=getElem?_lt c;have W:a=some ⟨b,E,none⟩:=X.resolve_left λ he=>by rw[he]at A;simp at A
     subst W;refine .val (s _ _ _ _ v D (by omega)) G ?_;exact .ept cs 0 b (E+j.toNat*Z) (us j.toNat) (λ x l=>O cs (wa c) x l) (λ q x l=>hm _ cs q x c l) (λ q x l=>hr _ cs q x c l)
  ·rename_i r lo n ep f m;split at h<;>try cases h
   rename_i R hR;split at h<;>cases h;rename_i q N;simp only[qAN]at N;split at N<;>cases N;rename_i hc;obtain⟨c1,c2,c3,c4,c5⟩:=hc;have H:=G.row r R hR;rw[m]at g;generalize v : ρ y=u0 at g;cases g with
   | rs _ _ _ _ _ a cap M hv aa hf l =>
     obtain⟨g2,g3⟩:=l (by rw[<- H.ver (H.liveN c5 (by omega))];exact c4);have p:cap≠0:=by omega
     have X:=g2.resolve_left p;subst X;refine .val (s _ _ _ _ v c2 c3) G (.rpt _ _ _ _ _ M hv λ _=>?_);have B:k = Γ.k r:=by rw[<- c1];exact H.k
     rw[B,wN];simp
 ·rename_i n e k _ j U T;have Y:=zo (T▸i z);obtain⟨ii,u,zv,q1,J,q3,q4,q5,q6,q7,I⟩:=waC (hC t _ U);obtain⟨rfl,ie,L,K⟩:=qJK I;split at h<;>try cases h
  rename_i b E m;split at h<;>cases h;rename_i hb;obtain⟨D,F⟩:=of_decide_eq_true hb;have g:=i y;rw[m]at g;generalize v : ρ y=u0 at g;cases g with
  | ptr _ _ V =>
    refine .val (u := .pointer (some ⟨Γ.β b,E+j.toNat*k,none⟩)) ?_ G (.ptr _ _ V);simp[execOp,Q,v,Y,Instr.indexAt,Instr.sureAddr,asIntOf,underlying,J,D,F,sizeOf,typeInfo,L,K,qgL]
theorem qHM{y:Nat}{v:Value}{a:AV}(c:Rep Γ a v){n:Nat}(h:qwu y a=some n)(m:Nat)(f:y<=m)(b:BoundsCode):(Instr.sliceBound v m b).run P w = .ok n w/\n<=y:=by
 unfold qwu at h;split at h
 ·rename_i k i;have:=zo c;subst this;simp only[bnd]at h;split at h<;>cases h;rename_i d;have e:0<=i/\i<=m:=⟨d.1,by omega⟩
  exact⟨by simp[Instr.sliceBound,asIntOf,e],by omega⟩
 ·cases h
theorem qnt(c:∀ y,Rep Γ (aev tm y) (ρ y)){isS:Bool}{a cap:Nat}(d:a<=cap){lo b:Option Operand}{l h:Nat}(f:qdB a a (b.map (aev tm))=some h)(e:qdB 0 h (lo.map (aev tm))=some l) :
  (Instr.sliceBounds isS a cap (lo.map ρ) (b.map ρ) none).run P w = .ok (l,h,cap) w/\l<=h/\h<=a:=by
 have H:(match b.map ρ with | some v=>Instr.sliceBound v cap (if isS then .sliceAcap else .sliceAlen) | none=>pure a:Sem Nat).run P w = .ok h w/\h<=a:=by
  cases b with
  | none=>simp only[qdB,xx]at f;cases f;exact⟨by simp,wb _⟩
  | some y=>exact qHM (c y) (by simpa[qdB]using f) cap d _
 have L:(match lo.map ρ with | some v=>Instr.sliceBound v h .sliceB | none=>pure 0:Sem Nat).run P w = .ok l w/\l<=h:=by
  cases lo with
  | none=>simp only[qdB,xx]at e;cases e;exact⟨by simp,we _⟩
  | some y=>exact qHM (c y) (by simpa[qdB]using e) h (wb _) _
 refine⟨?_,L.2,H.2⟩;cases b with
 | none =>
   cases lo with
   | none=>simp only[xx]at H L;simp at H L;simp[Instr.sliceBounds,H,L]
   | some y=>simp only[xx,kN]at H L;simp at H;simp[Instr.sliceBounds,H,L.1]
 | some z =>
   cases lo with
   | none=>simp only[xx,kN]at H L;simp at L;simp[Instr.sliceBounds,H.1,L]
   | some y=>simp only[kN]at H L;simp[Instr.sliceBounds,H.1,L.1]
theorem qJH(Y:∀ t d,C.ty t=some d->jD P t=some d)(T:Inv Γ σ w)(c:∀ y,Rep Γ (aev tm y) (ρ y))(t:TypeId)(y:Operand)(lo S mx:Option Operand)(N:o.op = .slice t y lo S mx)(h:qc C tm σ o.op=some (x,σ')):JQ P Γ σ w o ρ x σ':=by
 rw[N]at h;cases mx with
 | some m=>simp only[qc]at h;cases h
 | none =>
 simp only[qc]at h;split at h<;>try cases h
 ·rename_i _ _ _ _ s J hs;have h1:=zo (hs▸c y);obtain⟨ii,u,Z,q1,F,q3,q4,q5,q6,q7,E⟩:=waC (Y t _ J);have G:=qg4 E;subst G;split at h<;>try cases h
  rename_i q p;split at h<;>cases h;rename_i l g;obtain⟨z,b2,W⟩:=qnt (P:=P) (w:=w) c (isS:=false) (wb _) p g;refine .val ?_ T (.v _ rfl);simp[execOp,N,h1,Instr.sliceAt,Instr.slice,underlying,F,Sem.run_bind',qpf]at z |-
  simp[z,qDa]
 ·rename_i _ _ _ e k bb zz X es f J M;split at h<;>try cases h
  rename_i Q;rw[wd]at Q;have af:0<f:=of_decide_eq_true Q.2;have Q:X=k:=by simpa[zi]using Q.1
  subst Q;split at h<;>try cases h
  rename_i q p;split at h<;>cases h;rename_i l g;obtain⟨ii,u,Z,q1,F,q3,q4,q5,q6,q7,E⟩:=waC (Y t _ J);obtain⟨rfl,ie,ze,D,p2,B,p4,p5⟩:=qbh E;have L:=M▸c y;generalize G : ρ y=u0 at L;cases L with
  | sl _ _ _ a n cap b oo us hn U hf ac aa ah V hm hr =>
    subst hn;have U:=U af;obtain⟨z,b2,W⟩:=qnt (P:=P) (w:=w) c (isS:=true) U p g;have W:q<=es.length:=W;have z:(Instr.sliceBounds true es.length cap (lo.map ρ) (S.map ρ) none).run P w = .ok (l,q,cap) w:=z;refine .val (u := .slice (if cap=l then a else a.map (·.add (l*X))) (q-l) (cap-l)) ?_ T ?_
    ·simp[execOp,N,G,Instr.sliceAt,Instr.slice,underlying,F,Sem.run_bind',sizeOf,typeInfo,D,B];rw[z];simp[D,B]
    ·simp only[qHe];refine .sl X _ _ _ _ _ b (oo+l*X) (λ i j=>us (l+i) j) (by simp;omega) (λ _=>by omega) ?_ (λ e he=>ac e (wY (wX he))) (λ e he=>aa e (wY (wX he))) ah ?_ ?_ ?_
     ·intro A;unfold lvS at A;split at A
      ·rename_i hb;rw[wd]at hb;have h1:=hf (of_decide_eq_true hb.1);have h2:q=es.length:=of_decide_eq_true hb.2;rw[h1,h2]
      ·exact absurd A (by decide)
     ·rcases V with V | V
      ·left;subst V;simp
      ·by_cases K:cap=l
       ·grind
       ·right;subst V;rw[if_neg K];simp[qgL]
     ·grind
     ·grind
 ·rename_i _ _ _ e k bb zz J M;split at h<;>try cases h
  rename_i q p;split at h<;>cases h;rename_i l g;obtain⟨ii,u,Z,q1,F,q3,q4,q5,q6,q7,E⟩:=waC (Y t _ J);obtain⟨rfl,ie,ze,D,p2,B,p4,p5⟩:=qbh E;have G:=zo (M▸c y);obtain⟨z,b2,W⟩:=qnt (P:=P) (w:=w) c (isS:=true) (wb 0) p g;have ae:q=0:=by omega
  have ab:l=0:=by omega
  subst ae;subst ab;refine .val (u := .slice none 0 0) ?_ T (.v _ rfl);simp[execOp,N,G,Instr.sliceAt,Instr.slice,underlying,F,Sem.run_bind',sizeOf,typeInfo,D,B];rw[z];simp[D,B]
 ·rename_i _ _ _ e k bb zz r oo n ep f J M;split at h<;>try cases h
  rename_i q R p hR;split at h<;>try cases h
  rename_i l g;split at h<;>cases h;rename_i R' O I;have ad:q=n:=by simpa[zi]using O
  subst ad;simp only[qAR]at I;split at I<;>cases I;rename_i ag;obtain⟨c0,c1,c2,c3,c4,c5⟩:=ag;obtain⟨ii,u,Z,q1,F,q3,q4,q5,q6,q7,E⟩:=waC (Y t _ J);obtain⟨rfl,ie,ze,D,p2,B,p4,p5⟩:=qbh E;have H:=T.row r R hR;have L:=M▸c y;generalize G : ρ y=u0 at L;cases L with
  | rs _ _ _ _ _ a cap aj hv U A hx =>
    obtain⟨g2,g3⟩:=hx (by rw[<- H.ver c5];exact c1);obtain⟨z,b2,W⟩:=qnt (P:=P) (w:=w) c (isS:=true) U p g;obtain⟨Γ',f1,f2,f3⟩:=qKM T hR c5 (l:=l) (by omega) (r :: σ.wrr);subst c3;rw[c1]at f3;rw[wG,<- H.k]at g3;rw[kQ,wP]at g2;have ak:(cap-l)*R.k=cap*R.k-l*R.k:=vY _ _ _;have ai:l*R.k<=cap*R.k:=wn _ (by omega);refine⟨_,.slice (if cap=l then a else a.map (·.add (l*R.k))) (q-l) (cap-l),w,Γ',?_,.inl rfl,f1,?_,f3 _ _ _ (by omega) ?_ (by omega)⟩
    ·simp[execOp,N,G,Instr.sliceAt,Instr.slice,underlying,F,Sem.run_bind',sizeOf,typeInfo,D,B];rw[z];simp[D,B,c0]
    ·exact f2
    ·by_cases K:cap=l
     ·left;omega
     ·right;rw[if_neg K,g2.resolve_left (by omega)];simp[qgL]
theorem qDc(off:Nat):∀(xs:List Value) (n:Nat) (cs:Array Value),off+n+xs.length<=cs.size->((xs.zipIdx n).foldl (λ cs (p:Value × Nat)=>cs.setIfInBounds (off+p.2) p.1) cs).toList=cs.toList.take (off+n)++(xs++cs.toList.drop (off+n+xs.length))
 | [],n,cs,h=>by simp
 | x::xs,n,cs,h=>by
   simp only[vz,kg,wu]at h |-
   rw[qDc off xs (n+1) _ (by simp;omega)];simp only[xq];have a:off+n<cs.toList.length:=by simp;omega
   have b:off+n<cs.size:=by omega
   rw[show off+(n+1)=off+n+1 by omega,show off+n+1+xs.length=off+n+(xs.length+1) by omega];rw[kw,List.getElem?_set_self a,vk (wb _),vM (by omega)];simp
theorem qzw{v:Value}{off:Nat}{cs:Array Value}(h:off+v.cells.size<=cs.size):(v.cells.zipIdx.foldl (λ cs (c,j)=>cs.setIfInBounds (off+j) c) cs).toList=cs.toList.take off++(v.cells.toList++cs.toList.drop (off+v.cells.size)):=by
 rw[<- Array.foldl_toList,Array.toList_zipIdx];have:=qDc off v.cells.toList 0 cs (by simpa using h);simpa using this
theorem qET{place:Nat->Option (Nat × Nat)}:∀{ps:List (Nat × AV)} {vs:List (Nat × Value)} {cells:List AV} {cs:Array Value} {cells':List AV},(ps.length=vs.length/\∀(i:Nat) (p:Nat × AV) (q:Nat × Value),ps[i]?=some p->vs[i]?=some q->p.1=q.1/\Rep Γ p.2 q.2) ->
  RepL Γ cells cs.toList->(∀ u∈cs.toList,u.oneCell'=true)->qnj place cells ps=some cells'->∃ cs',Instr.fill place cs vs=some cs'/\RepL Γ cells' cs'.toList/\∀ u∈cs'.toList,u.oneCell'=true
 | [],vs,cells,cs,cells',e,g,l,h=>by
   obtain rfl:vs=[]:=kt.1 e.1.symm;simp only[qnj]at h;cases h;exact⟨cs,rfl,g,l⟩
 | (i,x)::ps,vs,cells,cs,cells',e,g,l,h=>by
   cases vs with
   | nil=>simp at e
   | cons q vs =>
     obtain⟨j,v⟩:=q;obtain⟨k,m⟩:=e.2 0 (i,x) (j,v) rfl rfl;simp only at k m;subst k;simp only[qnj]at h;split at h<;>try cases h
     rename_i off size o;split at h<;>try cases h
     rename_i r;simp only[wd,decide_eq_true_eq]at r;obtain⟨⟨D,C⟩,s⟩:=r;obtain⟨y,w⟩:=m.cells s;have B:=m.cells_len s;have t:cs.size=cells.length:=by simpa using g.len
     have f:=qzw (v:=v) (off:=off) (cs:=cs) (by omega);have n:v.cells.size=size:=by omega
     obtain⟨cs',e1,A,z⟩:=qET (place:=place) (ps:=ps) (vs:=vs) (cells:=cells.take off++(cellsOf x++cells.drop (off+size))) (cs:=v.cells.zipIdx.foldl (λ cs (c,j)=>cs.setIfInBounds (off+j) c) cs) (cells':=cells')
      ⟨by simpa using e.1,λ i p q a b=>e.2 (i+1) p q (by simpa using a) (by simpa using b)⟩
      (by rw[f,n];exact(g.take off).append (y.append (g.drop _)))
      (by
       rw[f];intro u d;rcases ww.1 d with d | d
       ·exact l u (wY d)
       ·rcases ww.1 d with d | d
        ·exact w u d
        ·exact l u (wX d)) h
     refine⟨cs',?_,A,z⟩;simp only[Instr.fill,o];grind
theorem qIy(a:∀ y,Rep Γ (aev tm y) (ρ y))(parts:List (Nat × Operand)):(parts.map λ p=>(p.1,aev tm p.2)).length=(parts.map λ p=>(p.1,ρ p.2)).length/\∀(i:Nat) (p:Nat × AV) (q:Nat × Value),(parts.map λ p=>(p.1,aev tm p.2))[i]?=some p->(parts.map λ p=>(p.1,ρ p.2))[i]?=some q->p.1=q.1/\Rep Γ p.2 q.2:=by
 grind
theorem qKg(K:∀ t d,C.ty t=some d->jD P t=some d)(g:Inv Γ σ w)(e:∀ y,Rep Γ (aev tm y) (ρ y))(t:TypeId)(parts:Array (Nat × Operand))(k:o.op = .build t parts)(h:qc C tm σ o.op=some (x,σ')):JQ P Γ σ w o ρ x σ':=by
 rw[k]at h;simp only[qc]at h;split at h<;>try cases h
 rename_i _ _ _ z a H;split at h<;>try cases h
 rename_i E;split at h<;>cases h;rename_i cs I;obtain⟨S,u,q,B,A,s,R,Q,O,j,r⟩:=waC (K t _ H);obtain⟨F,rfl,m⟩:=qr9 r;obtain⟨V,U⟩:=qkF m;simp only at j;subst j;obtain⟨M,L⟩:=qg3 (Γ := Γ) E
 have b:∀{F:List Field} {a:List (Nat × Nat × Bool)},qbm P F=some a->F.mapM (λ f=>(P.info? f.type).map λ i=>(f.offset,i.size))=some (a.map λ f=>(f.1,f.2.1)):=by
  intro F
  induction F with
  | nil=>intro a h;simp[qbm]at h;subst h;rfl
  | cons f F D =>
    intro a h;simp only[qbm]at h;split at h
    ·rename_i i u l g T G;cases h;simp[List.mapM_cons,g,D G]
    ·cases h
 have c:qnj (λ i=>(a.map λ f=>(f.1,f.2.1)).toArray[i]?) (q.cells.toList.map .v) (parts.toList.map λ p=>(p.1,aev tm p.2))=some cs:=by
  grind
 obtain⟨cs',e1,n,N⟩:=qET (Γ := Γ) (qIy e parts.toList) M L c
 have J:P.built t (parts.map λ p=>(p.1,ρ p.2)).toList=some cs':=by
  unfold Program.built;rw[B,A];simp only[s,b m];rw[vc];exact e1
 refine .val (u := .agg cs') ?_ g ?_
 ·simp[execOp,k,run_build w t _ cs' J]
 ·have:=Rep.agg (Γ := Γ) cs cs'.toList n.len N n.rep;simpa using this
end
end Go.AmZ
namespace Go.AmZ
open Go Go.RowKit
section
variable {P:Program} {C:Cfg} {Γ : Gh} {σ : St} {w:World} {o:Oper} {tm:List AV} {ρ : Operand->Value} {x:AV} {σ':Option St}
theorem qlh(W:Inv Γ σ w){m:Nat->Nat->Option Value}(p:Le Γ { Γ with mem:=m }){y:AV}{u:Value}(X:∀ r∈rsC y,∀ R,σ.rw[r]?=some R->Qx { Γ with mem:=m } r R)(E:Rep Γ y u):Rep { Γ with mem:=m } (zk σ.rw y) u:=by
 cases E with
 | sl k es f a n cap b o us S L I U G C Y T E =>
   exact .sl k es _ a n cap b o us S (λ h=>L (by cases f with | zero=>exact absurd h (xQ 0) | succ f=>exact xN f)) (λ h=>by cases f with | zero=>exact absurd h (by simp[lv1]) | succ f=>exact absurd h (by simp[lv1])) U G C Y (λ i e j x d g=>p.mem _ _ _ (T i e j x d g)) (λ i e j x d g=>(E i e j x d g).mono p)
 | rs r lo n N f a cap Q hv L I P =>
   simp only[zk];split
   ·rename_i R M;split
    ·rename_i es s;simp only[qm9]at s;split at s<;>cases s;rename_i K;obtain⟨-,c1,Z⟩:=K;have H:=W.row r R M
     have D:n=0\/(cap=0\/a=some ⟨Γ.cur r,Γ.of r+lo * Γ.k r,none⟩):=by
      rcases vp n with C | C
      ·exact .inl C
      ·exact .inr (P (by rw[<- H.ver (H.liveN Z C)];exact c1)).1
     have F:=X r (by simp[rsC]) R M
     have t:∀(i:Nat) (e:List AV) (j:Nat) (x:AV),((R.c.drop lo).take n)[i]?=some e->e[j]?=some x->∃ u,m (Γ.cur r) (Γ.of r+lo*R.k+i*R.k+j)=some u/\Rep { Γ with mem:=m } x u:=by
      intro i e j x d g;rw[List.getElem?_take]at d;split at d<;>try cases d
      rename_i V;rw[List.getElem?_drop]at d;obtain⟨u,z,l⟩:=F (lo+i) e j x d g;refine⟨u,?_,l⟩;rw[<- z,wN,wI,wI,<- wI (lo*R.k)]
     refine .sl R.k _ 1 a n cap (Γ.cur r) (Γ.of r+lo*R.k) (λ i j=>(m (Γ.cur r) (Γ.of r+lo*R.k+i*R.k+j)).getD undef) ?_ (λ _=>L) (λ h=>absurd h (by decide)) (λ e J=>H.len e (wX (wY J))) (λ e J=>H.plain e (wX (wY J))) H.pos ?_ ?_ ?_
     ·simp;omega
     ·rcases D with D | D | D
      ·left;apply wk;simp;omega
      ·left;apply wk;simp;omega
      ·right;rw[D,H.k]
     ·intro i e j x d g;obtain⟨u,z,_⟩:=t i e j x d g;show m (Γ.cur r) _=_;rw[z];rfl
     ·intro i e j x d g;obtain⟨u,z,l⟩:=t i e j x d g;rw[z];exact l
    ·exact .dead _
   ·exact .dead _
 | v _ h=>exact .v _ h
 | dead u=>exact .dead u
 | ptr b o h=>exact(Rep.ptr b o h).mono p
 | rpt r i o N A d g B=>exact(Rep.rpt r i o N A d g B).mono p
 | ept cs o b O us d g B=>exact(Rep.ept cs o b O us d g B).mono p
 | fn f cs us d g=>exact(Rep.fn f cs us d g).mono p
 | agg cs us d g B=>exact(Rep.agg cs us d g B).mono p
 | tup cs us d g=>exact(Rep.tup cs us d g).mono p
theorem qBh(g:Inv Γ σ w){m:Nat->Nat->Option Value}(f:Le Γ { Γ with mem:=m }){cs:List AV}{us:List Value}(j:∀ r∈cs.flatMap rsC,∀ R,σ.rw[r]?=some R->Qx { Γ with mem:=m } r R)(d:RepL Γ cs us):RepL { Γ with mem:=m } (cs.map (zk σ.rw)) us:=by
 refine⟨by simpa using d.len,λ i x u b e=>?_⟩;rw[List.getElem?_map]at b;cases h:cs[i]? with
 | none=>rw[h]at b;cases b
 | some y =>
   rw[h]at b;cases b;exact qlh g f (λ r c=>j r (ka.2 ⟨y,wa h,c⟩)) (d.rep i y u h e)
theorem qyj(p:Inv Γ σ w){m:Nat->Nat->Option Value}(g:Le Γ { Γ with mem:=m }){y:AV}{u:Value}(q:∀ r∈rsA y,∀ R,σ.rw[r]?=some R->Qx { Γ with mem:=m } r R)(z:Rep Γ y u):Rep { Γ with mem:=m } (QN σ.rw y) u:=by
 cases z with
 | agg cs us d c e =>
   have:=qBh p g (cs:=cs) (us:=us) (by simpa[rsA]using q) ⟨d,e⟩;exact .agg _ _ this.len c this.rep
 | v _ h=>exact .v _ h
 | dead u=>exact .dead u
 | sl k es f a n cap b o us d c e t s E D C B=>exact qlh (y := .sl k es f) p g q (.sl k es f a n cap b o us d c e t s E D C B)
 | rs r lo n l f a cap d c e t s=>exact qlh (y := .rs r lo n l f) p g q (.rs r lo n l f a cap d c e t s)
 | ptr b o h=>exact(Rep.ptr b o h).mono g
 | rpt r i o l A d c e=>exact(Rep.rpt r i o l A d c e).mono g
 | ept cs o b x us d c e=>exact(Rep.ept cs o b x us d c e).mono g
 | fn f cs us d c=>exact(Rep.fn f cs us d c).mono g
 | tup cs us d c=>exact(Rep.tup cs us d c).mono g
theorem qIZ{rw:List Row}{y:AV}(h:qy (zk rw y)=true):isC y=true:=by
 cases y<;>first | rfl | (simp[zk,qy]at h)
theorem qCN(k:Nat):∀(vs:List Value) (a:Nat) (cs:Array Value),(∀ v∈vs,v.cells.size=k)->(a+vs.length)*k<=cs.size ->
  ∃ cs',Instr.fill (λ i=>some (i*k,k)) cs ((vs.zipIdx a).map λ p=>(p.2,p.1))=some cs'/\cs'.toList=cs.toList.take (a*k)++(vs.flatMap (λ v=>v.cells.toList)++cs.toList.drop ((a+vs.length)*k))
 | [],a,cs,_,h=>⟨cs,rfl,by simp⟩
 | v::vs,a,cs,e,h=>by
   have f:v.cells.size=k:=e v (wh ..)
   have n:a*k+k<=cs.size:=by
    have:(a+1)*k<=(a+(v::vs).length)*k:=wn _ (by simp);rw[wN,xw]at this;omega
   have b:=qzw (v:=v) (off:=a*k) (cs:=cs) (by omega)
   have d:(v.cells.zipIdx.foldl (λ cs (c,j)=>cs.setIfInBounds (a*k+j) c) cs).size=cs.size:=by
    have:=congrArg List.length b;simp only[wM,wc,wm,wQ]at this;rw[this];omega
   obtain⟨cs',e1,w⟩:=qCN k vs (a+1) (v.cells.zipIdx.foldl (λ cs (c,j)=>cs.setIfInBounds (a*k+j) c) cs) (λ l u=>e l (wg _ u)) (by rw[d];simp at h;rw[show a+1+vs.length=a+(vs.length+1) by omega];exact h);refine⟨cs',?_,?_⟩
   ·simp only[vz,wo,Instr.fill];rw[if_neg (by simp;omega)];exact e1
   ·rw[w,b,f];have g:(a+1)*k=a*k+k:=by rw[wN,xw]
    have t:(cs.toList.take (a*k)).length=a*k:=by rw[wm];simp;omega
    have s:v.cells.toList.length=k:=by simpa using f
    have r:(a+1+vs.length)*k=a*k+k+vs.length*k:=by rw[wN,g]
    have q:(a+(v::vs).length)*k=a*k+k+vs.length*k:=by simp[wN];omega
    rw[g,r,q]
    have m:(cs.toList.take (a*k)++(v.cells.toList++cs.toList.drop (a*k+k))).take (a*k+k)=cs.toList.take (a*k)++v.cells.toList:=by
     rw[<- wi,kG (by simp only[wc];omega),kE (by simp only[wc];omega)]
    have o:(cs.toList.take (a*k)++(v.cells.toList++cs.toList.drop (a*k+k))).drop (a*k+k+vs.length*k)=cs.toList.drop (a*k+k+vs.length*k):=by
     rw[<- wi,List.drop_append,List.drop_of_length_le (by simp only[wc];omega)];simp only[wc,t,s,kV,List.drop_drop];congr 1;omega
    rw[m,o];simp
theorem qCT{α : Type}(k:Nat):∀(a:List (List α)) (i j:Nat) (l:List α) (x : α),(∀ l∈a,l.length=k)->a[i]?=some l->l[j]?=some x->a.flatten[i*k+j]?=some x
 | [],i,j,l,x,_,h,_=>by simp at h
 | e::a,i,j,l,x,c,h,b=>by
   have d:=c e (wh ..);cases i with
   | zero =>
     simp at h;subst h;simp only[vw,kQ,wG];rw[List.getElem?_append_left (getElem?_lt b)];exact b
   | succ i =>
     simp at h;simp only[vw];rw[List.getElem?_append_right (by rw[d,wN];omega),d];rw[show(i+1)*k+j-k=i*k+j by rw[wN,xw];omega];exact qCT k a i j l x (λ f g=>c f (wg _ g)) h b
theorem qzD(ρ : Operand->Value):∀(ps:List (Nat × Operand)) (n:Nat),(∀(i:Nat) (p:Nat × Operand),ps[i]?=some p->p.1=n+i)->ps.map (λ p=>(p.1,ρ p.2))=((ps.map λ p => ρ p.2).zipIdx n).map λ p=>(p.2,p.1)
 | [],n,h=>rfl
 | p::ps,n,h=>by
   simp only[wo,vz];rw[<- qzD ρ ps (n+1) λ i q a=>by have:=h (i+1) q (by simpa using a);omega];have:=h 0 p rfl;simp only[wP]at this;rw[this]
theorem qwR{t e:TypeId}{n:Nat}{parts:Array (Nat × Value)}{a:TypeInfo}{f:Value}(k:P.underlying t=some (.slice e))(l:P.info? e=some a)(j:a.zero=some f)(m:n*a.size<=2 ^ 24){cs':Array Value}
  (c:Instr.fill (λ i=>some (i*a.size,a.size)) ((Array.range (n*a.size)).map ((if n*a.size=0 then #[]else f.cells)[· % (if n*a.size=0 then #[]else f.cells).size]!)) parts.toList=some cs') :
  (Instr.buildSlice t n parts).run P w = .ok (.slice (some ⟨w.heap.size,0,none⟩) n n) (w.alloc (.cells cs' e)):=by
 have b:¬ (2 ^ 24<n*a.size):=by omega
 by_cases d:n*a.size=0
 ·simp only[if_pos d]at c;simp only[Instr.buildSlice];have g:n=0\/a.size=0:=Nat.mul_eq_zero.1 d;simp[underlying,k,sizeOf,typeInfo,l,d]at c |-
  simp[c,g,qf6]
 ·simp only[if_neg d]at c;simp only[Instr.buildSlice];simp[underlying,k,sizeOf,typeInfo,zeroValue,l,j,d,b]at c |-
  have g:¬ (n=0\/a.size=0) := λ h=>d (Nat.mul_eq_zero.2 h);simp[c,g,j,qf6]
theorem qAa(hC:∀ t d,C.ty t=some d->jD P t=some d)(hi:Inv Γ σ w)(G:∀ y,Rep Γ (aev tm y) (ρ y))(t:TypeId)(n:Nat)(parts:Array (Nat × Operand))(ho:o.op = .buildSlice t n parts)(h:qc C tm σ o.op=some (x,σ')):JQ P Γ σ w o ρ x σ':=by
 rw[ho]at h;simp only[qc]at h;split at h<;>try cases h
 rename_i _ _ _ _ e k bb zz hd;split at h<;>try cases h
 rename_i Q;simp only[qiW,wd,decide_eq_true_eq]at Q;obtain⟨⟨⟨hn,U⟩,ac⟩,V⟩:=Q;obtain⟨ii,u,zv,q1,q2,q3,q4,q5,q6,q7,q8⟩:=waC (hC t _ hd);obtain⟨rfl,ie,ze,p1,p2,p3,p4,p5⟩:=qbh q8
 have a:∀(i:Nat) (p:Nat × Operand),parts.toList[i]?=some p->p.1=i/\(cellsOf (aev tm p.2)).length=k/\∀ x∈cellsOf (aev tm p.2),qy (zk σ.rw x)=true:=by
  intro i p b
  have:=wv.1 V ((p.1,aev tm p.2),i) (by
   rw[kR,List.getElem?_map,b];rfl)
  simp only[wd,decide_eq_true_eq]at this;exact⟨this.1.1,this.1.2,wv.1 this.2⟩
 have q:∀ p∈parts.toList,(cellsOf (aev tm p.2)).all isC=true:=by
  intro p b;obtain⟨i,f⟩:=List.getElem?_of_mem b;exact wv.2 λ x z=>qIZ ((a i p f).2.2 x z)
 let vs:=parts.toList.map λ p => ρ p.2
 have M:∀ v∈vs,v.cells.size=k:=by
  intro v O;obtain⟨p,b,rfl⟩:=wy.1 O;obtain⟨i,f⟩:=List.getElem?_of_mem b;rw[(G p.2).cells_len (q p b)];exact(a i p f).2.1
 have N:vs.length=n:=by simpa[vs]using hn
 have L:=qzD ρ parts.toList 0 λ i p b=>by rw[(a i p b).1];omega
 obtain⟨cs',e1,e2⟩:=qCN k vs 0 ((Array.range (n*k)).map ((if n*k=0 then #[]else ze.cells)[· % (if n*k=0 then #[]else ze.cells).size]!)) M (by simp[N])
 have ad:cs'.toList=vs.flatMap λ v=>v.cells.toList:=by
  rw[e2];simp[N]
 have T:cs'=(vs.flatMap λ v=>v.cells.toList).toArray:=by rw[<- ad]
 have B:(execOp ρ o).run P w = .ok (.value (.slice (some ⟨w.heap.size,0,none⟩) n n)) (w.alloc (.cells (vs.flatMap λ v=>v.cells.toList).toArray e)):=by
  have ab:(parts.map λ p=>(p.1,ρ p.2)).toList=(vs.zipIdx 0).map λ p=>(p.2,p.1):=by rw[vc];exact L
  rw[<- T];have hb:=qwR (w:=w) (n:=n) (parts:=parts.map λ p=>(p.1,ρ p.2)) q2 p1 p2 (by rw[p3];exact U) (by rw[p3,ab];exact e1);simp only[execOp,ho];simp[Sem.run_bind',hb]
 have F:∀(s:List Nat) (E:List Nat),(∀ r∈parts.toList.flatMap (λ p=>rsA (aev tm p.2)),r∈s)->∃ m,Fz Γ m/\Inv { Γ with mem:=m } { σ with rw:=frz σ.rw s,wrr:=E } w /\
   ∀(i:Nat) (p:Nat × Operand),parts.toList[i]?=some p->RepL { Γ with mem:=m } ((cellsOf (aev tm p.2)).map (zk σ.rw)) (ρ p.2).cells.toList:=by
  intro s E H;obtain⟨m,X,m2,Z⟩:=qdh s hi E;refine⟨m,X,m2,λ i p b=>?_⟩;refine qBh hi X.le (λ r I R hR=>Z r (H r (ka.2 ⟨p,wa b,?_⟩)) R hR) ((G p.2).cells (q p (wa b))).1
  have:∀ y:AV,r∈(cellsOf y).flatMap rsC->r∈rsA y:=by
   intro y hy;cases y<;>simpa[cellsOf,rsA]using hy
  exact this _ I
 have J:∀ u∈vs.flatMap (λ v=>v.cells.toList),u.oneCell'=true:=by
  intro u A;obtain⟨v,O,A⟩:=ka.1 A;obtain⟨p,b,rfl⟩:=wy.1 O;exact((G p.2).cells (q p b)).2 u A
 have W:∀(s:List Nat) (σ1:St) (E:List Nat),σ1={ σ with rw:=frz σ.rw s,wrr:=E }->(∀ r∈parts.toList.flatMap (λ p=>rsA (aev tm p.2)),r∈s) ->
   ∃ Γ',Ext Γ w Γ' (w.alloc (.cells (vs.flatMap λ v=>v.cells.toList).toArray e))/\Inv Γ' σ1 (w.alloc (.cells (vs.flatMap λ v=>v.cells.toList).toArray e))/\Rep Γ' (.sl k (parts.toList.map λ p=>(cellsOf (aev tm p.2)).map (zk σ.rw)) 2) (.slice (some ⟨w.heap.size,0,none⟩) n n):=by
  intro s σ1 E aa H;subst aa;obtain⟨m,X,m2,Z⟩:=F s E H;obtain⟨Γ',g1,g2,g3⟩:=qy0 m2 J e;refine⟨Γ',(qk7 X w).trans g1,g2,?_⟩
  have D:∀(i:Nat) (l:List AV) (j:Nat) (x:AV),(parts.toList.map λ p=>(cellsOf (aev tm p.2)).map (zk σ.rw))[i]?=some l->l[j]?=some x->∃ u,Γ'.mem w.heap.size (i*k+j)=some u/\Rep Γ' x u:=by
   intro i l j x c z;rw[List.getElem?_map]at c;cases b:parts.toList[i]? with
   | none=>rw[b]at c;cases c
   | some p =>
     rw[b]at c;cases c;have I:=Z i p b;obtain⟨u,A,g⟩:=I.get z;refine⟨u,g3 _ _ ?_,g.mono g1.le⟩;rw[waa];refine qCT k _ i j (ρ p.2).cells.toList u ?_ ?_ A
     ·intro l c;obtain⟨v,O,rfl⟩:=wy.1 c;simpa using M v O
     ·simp only[vs,xi,List.getElem?_map,b];rfl
  refine .sl k _ 2 _ n n w.heap.size 0 (λ i j=>(Γ'.mem w.heap.size (i*k+j)).getD undef) ?_ (λ _=>wb _) (λ _=>rfl) ?_ ?_ ac (.inr rfl) ?_ ?_
  ·simpa using hn.symm
  ·intro l c;obtain⟨p,b,rfl⟩:=wy.1 c;obtain⟨i,f⟩:=List.getElem?_of_mem b;rw[wA];exact(a i p f).2.1
  ·intro l c x z;obtain⟨p,b,rfl⟩:=wy.1 c;obtain⟨i,f⟩:=List.getElem?_of_mem b;obtain⟨y,hy,rfl⟩:=wy.1 z;exact(a i p f).2.2 y hy
  ·intro i l j x c z;obtain⟨u,A,_⟩:=D i l j x c z;rw[wG,A];rfl
  ·intro i l j x c z;obtain⟨u,A,g⟩:=D i l j x c z;rw[A];exact g
 split at h<;>cases h
 ·rename_i S;obtain⟨Γ',f1,f2,f3⟩:=W [] σ σ.wrr rfl (by rw[S];intro r I;cases I);exact⟨_,_,_,Γ',B,.inl rfl,f1,f2,f3⟩
 ·rename_i r l K;obtain⟨Γ',f1,f2,f3⟩:=W (r::l) _ ((r::l) ++ σ.wrr) rfl (by rw[K];intro r I;exact I);exact⟨_,_,_,Γ',B,.inl rfl,f1,f2,f3⟩
theorem qKu{α : Type}{n i:Nat}{x y : α}(h:(List.replicate n x)[i]?=some y):y=x:=by
 rw[List.getElem?_replicate]at h;split at h<;>cases h;rfl
theorem qMH(hC:∀ t d,C.ty t=some d->jD P t=some d)(W:Inv Γ σ w)(n:∀ y,Rep Γ (aev tm y) (ρ y))(t:TypeId)(y z:Operand)(U:o.op = .makeSlice t y z)(h:qc C tm σ o.op=some (x,σ')):JQ P Γ σ w o ρ x σ':=by
 rw[U]at h;simp only[qc]at h;split at h<;>try cases h
 rename_i _ _ _ _ e k bytes S ik a D b hd I H;split at h<;>try cases h
 rename_i X;simp only[wd,decide_eq_true_eq]at X;obtain⟨⟨⟨rfl,Y,aa,ab,s,p⟩,G⟩,F⟩:=X;have I:=zo (I▸n y);have H:=zo (H▸n z);obtain⟨ii,u,zv,q1,q2,q3,q4,q5,q6,q7,q8⟩:=waC (hC t _ hd);obtain⟨rfl,ie,g,p1,p2,p3,p4,p5⟩:=qbh q8
 have m:=run_make (P:=P) w t e ie g q2 p1 p2 ik D a a Y (vj _) (by rw[p4];have e1:(bytes:Int)*a=((a.toNat*bytes:Nat):Int):=by rw[Int.natCast_mul,Int.toNat_of_nonneg Y,Int.mul_comm]
                                                                   rw[e1];omega) (by omega)
 rw[p3]at m
 have B:(execOp ρ o).run P w = .ok (.value (.slice (some ⟨w.heap.size,0,none⟩) a.toNat a.toNat)) (w.alloc (.cells (madeCells g.cells (a.toNat*k)) e)):=by
  simp only[execOp,U,I,H];simp[Sem.run_bind',m]
 have R:Below w.heap.size w (w.alloc (.cells (madeCells g.cells (a.toNat*k)) e)):=(Below.refl _ _).alloc (wb _) _;split at h
 ·rename_i L;cases h;have L:a.toNat=0:=of_decide_eq_true L;refine⟨_,_,_,Γ,B,.inl rfl,qgX R (wb _),W.later R,?_⟩;rw[L];exact .sl k [] 2 _ 0 0 0 0 (λ _ _=>undef) rfl (λ _=>wb _) (λ _=>rfl) (by simp) (by simp) s (.inl rfl) (by simp) (by simp)
 ·cases h;have f:(madeCells g.cells (a.toNat*k)).size=a.toNat*k:=size_madeCells _ _;have q:g.cells.toList=S:=p5;have E:g.cells.size=k:=by rw[<- p,<- q];simp
  have l:=qg3 (Γ := Γ) G
  obtain⟨Γ',d1,d2,Z⟩:=qx1 W s (c:=List.replicate a.toNat (S.map .v)) (λ e Q=>by rw[xj Q,wA];exact p) (λ e Q x T=>by
   rw[xj Q]at T;exact wv.1 F x T) (vs:=madeCells g.cells (a.toNat*k)) (by rw[kH,f];exact wb _) (by
   intro i e j x A V;have:=qKu A;subst this;obtain⟨v,K,r⟩:=l.1.get V;have O:i<a.toNat:=by have:=getElem?_lt A;simpa using this
   have N:j<k:=by have:=getElem?_lt V;simp at this;omega
   refine⟨v,?_,r,l.2 v (wa K)⟩
   have M:i*k+j<a.toNat*k:=by
    calc i*k+j<i*k+k:=by omega
     _=(i+1)*k:=by rw[wN,xw]
     _<=a.toNat*k:=wn _ O
   have hm:(i*k+j) % k=j:=by rw[xF,Nat.mul_add_mod];exact xr N
   unfold madeCells;rw[Array.getElem?_map,Array.getElem?_range,if_pos M];simp only[kN,E,hm]
   have:g.cells[j]! = v:=by
    rw[<- q]at K;have J:g.cells[j]?=some v:=by simpa using K
    rw[getElem!_def,J]
   rw[this]) (e:=e) (cap:=a.toNat) (by simp) (by rw[f];exact wb _) R (wb _) (wb _) (heap_alloc_new w _)
  rw[kH]at Z;exact⟨_,_,_,Γ',B,.inl rfl,d1,d2,Z⟩
end
end Go.AmZ
namespace Go.AmZ
open Go Go.RowKit
section
variable {P:Program} {C:Cfg} {Γ : Gh} {σ : St} {w:World} {o:Oper} {tm:List AV} {ρ : Operand->Value} {x:AV} {σ':Option St}
theorem qBA{k:Nat}{es:List (List AV)}(h:uni k es=true):(∀ e∈es,e.length=k)/\∀ e∈es,∀ x∈e,qy x=true:=by
 simp only[uni,wv,wd,decide_eq_true_eq]at h;exact⟨λ e a=>(h e a).1,λ e a=>(h e a).2⟩
theorem qCS(z:Inv Γ σ w){k:Nat}{y:AV}{u:Value}(s:Rep Γ y u){xs:List (List AV)}(h:elems σ.rw k y=some xs)(V:0<k)(U:∀ e∈xs,e.length=k):∃ a m c,u = .slice a m c/\m=xs.length /\
  (xs=[]\/∃ b o,a=some ⟨b,o,none⟩/\∀(i:Nat) (e:List AV) (j:Nat) (x:AV),xs[i]?=some e->e[j]?=some x->∃ v,w.cell? ⟨b,o+(i*k+j),none⟩=some v/\Rep Γ x v/\v.oneCell'=true):=by
 cases s with
 | v _ C =>
   cases u<;>simp only[elems]at h<;>try (cases h;done)
   rename_i a n c;cases a with
   | some a=>simp[zu]at C
   | none =>
     cases n<;>cases c<;>simp[elems,zu]at h C;subst h;exact⟨none,0,0,rfl,rfl,.inl rfl⟩
 | sl D es f a n cap b o us t L K I G N p B s =>
   simp only[elems]at h;split at h<;>cases h;rename_i g;have g:D=k:=of_decide_eq_true g;subst g;refine⟨a,n,cap,rfl,t,?_⟩;rcases p with p | p
   ·exact .inl p
   ·refine .inr ⟨b,o,p,λ i e j x d q=>⟨us i j,?_,s i e j x d q,(z.mem _ _ _ (B i e j x d q)).2⟩⟩;rw[<- wI];exact(z.mem _ _ _ (B i e j x d q)).1
 | rs r lo n W f a cap F T L K E =>
   simp only[elems]at h;split at h<;>try cases h
   rename_i R M;simp only[qm9]at h;split at h<;>cases h;rename_i A;obtain⟨S,Q,P⟩:=A;have H:=z.row r R M;refine⟨a,n,cap,rfl,by simp;omega,?_⟩;by_cases t:n=0
   ·left;apply wk;simp[t]
   ·right;obtain⟨O,-⟩:=E (by rw[<- H.ver (H.liveN P (by omega))];exact Q);refine⟨Γ.cur r,Γ.of r+lo * Γ.k r,O.resolve_left (by omega),λ i e j x d q=>?_⟩;rw[List.getElem?_take]at d;split at d<;>try cases d
    rename_i J;rw[List.getElem?_drop]at d;have l : Γ.of r+lo * Γ.k r+(i*k+j) = Γ.of r+((lo+i)*R.k+j):=by rw[wN,<- S,<- H.k];omega
    rw[l];exact H.cells (lo+i) e j x d q
 | dead u=>simp[elems]at h
 | ptr=>simp[elems]at h
 | rpt=>simp[elems]at h
 | ept=>simp[elems]at h
 | fn=>simp[elems]at h
 | agg=>simp[elems]at h
 | tup=>simp[elems]at h
theorem qzr:∀{es:List (List AV)} {l:List UInt8},qsA es=some l->∃ xs:List Int,es=xs.map (λ n=>[AV.v (.int .u8 n)])/\l=xs.map λ n=>UInt8.ofNat n.toNat
 | [],l,h=>by cases h;exact⟨[],rfl,rfl⟩
 | e::es,l,h=>by
   simp only[qsA]at h;split at h<;>cases h;rename_i b r a c;obtain⟨xs,rfl,rfl⟩:=qzr c;unfold qGr at a;split at a<;>cases a;rename_i n;exact⟨n::xs,rfl,rfl⟩
theorem qEr{d:Option TD}(h:qq9 d=true):∃ a b c z,d=some ⟨a,b,c,z,.int .u8⟩:=by
 unfold qq9 at h;split at h
 ·exact⟨_,_,_,_,rfl⟩
 ·cases h
theorem qkW(b:ByteArray):(qbU b).length=b.size:=by show(b.data.toList.map _).length=b.data.size;rw[wA,wM]
theorem qvs{b:ByteArray}{e:List AV}(a:e∈qbU b):e.length=1:=by obtain⟨c,_,rfl⟩:=wy.1 a;rfl
theorem qrl{b:ByteArray}{e:List AV}(d:e∈qbU b):∀ x∈e,qy x=true := λ x a=>by
 obtain⟨c,_,rfl⟩:=wy.1 d;rw[wH.1 a];rfl
theorem qwq{b:ByteArray}{i j:Nat}{e:List AV}{x:AV}(g:(qbU b)[i]?=some e)(d:e[j]?=some x):j=0/\∃ c,b.data.toList[i]?=some c/\x = .v (.int .u8 c.toNat):=by
 have a:(b.data.toList.map λ c=>[AV.v (.int .u8 c.toNat)])[i]?=some e:=g;rw[List.getElem?_map]at a;cases f:b.data.toList[i]? with
 | none=>rw[f]at a;cases a
 | some c =>
   rw[f]at a;cases a;cases j with
   | succ j=>cases d
   | zero=>cases d;exact⟨rfl,c,rfl,rfl⟩
theorem qLi(y:Inv Γ σ w){s t e:TypeId}{u:TypeDesc}(b:ByteArray)(p:P.underlying s=some u)(z:P.underlying t=some (.slice e))(f:P.underlying e=some (.int .u8)) :
  ∃ v w' Γ',(convert s t (.string b)).run P w = .ok v w'/\Ext Γ w Γ' w'/\Inv Γ' { σ with rw := σ.rw++[⟨1,qbU b,0,0,false⟩] } w'/\Rep Γ' (.rs σ.rw.length 0 b.size 0 false) v:=by
 have a:=Lib.run_convert_string_bytes (P:=P) w s t e b p z f;have m:=grownCap_ge w b.size 0 e
 have d:(Lib.bytesCells w e b).size=grownCap w b.size 0 e:=by
  unfold Lib.bytesCells;rw[xC,Array.size_map,Array.size_replicate];show b.size+_=_;omega
 have A:Below w.heap.size w (Lib.bytesWorld w e b):=⟨rfl,rfl,rfl,by rw[Lib.bytesWorld_size];omega,λ k q=>Lib.bytesWorld_at_old w e b k q⟩
 obtain⟨Γ',D,C,o⟩:=qBE y (xN 0) (c:=qbU b) (λ e f=>qvs f) (λ e f=>qrl f) (vs:=Lib.bytesCells w e b) (by rw[qkW,d];omega) (λ i F j x l r=>by
  obtain⟨rfl,c,n,rfl⟩:=qwq l r;refine⟨.int .u8 c.toNat,?_,.v _ rfl,rfl⟩;have g:i<b.data.size:=by have:=getElem?_lt n;rwa [wM]at this
  unfold Lib.bytesCells;rw[wal,wP,Array.getElem?_append_left (by rw[Array.size_map];exact g),Array.getElem?_map,<- Array.getElem?_toList,n];rfl) (e:=e) (cap:=grownCap w b.size 0 e) (by rw[qkW];exact m) (by rw[d];omega) A (Go.GxZ.run_drawn _ a) (wb _) (fr:=((Lib.bytesCells w e b).size,(Lib.bytesCells w e b).size+1)) (λ j E B=>by have:=B.1;omega) (λ h=>absurd rfl h) (Lib.bytesWorld_at_new w e b)
 rw[qkW]at o;exact⟨_,_,Γ',a,D,C,o⟩
theorem qNB(g:∀ t d,C.ty t=some d->jD P t=some d)(J:Inv Γ σ w)(r:∀ y,Rep Γ (aev tm y) (ρ y))(s t:TypeId)(y:Operand)(H:o.op = .convert s t y)(h:qc C tm σ o.op=some (x,σ')):JQ P Γ σ w o ρ x σ':=by
 rw[H]at h;simp only[qc]at h;split at h<;>try cases h
 ·rename_i ds _ _ _ _ k _ n D E L;have M:=zo (L▸r y);obtain⟨i,u,Q,X,j,W,V,U,T,S,N⟩:=waC (g s _ D);obtain⟨i',R,z,p1,p,p3,p4,p5,Z,Y,A⟩:=waC (g t _ E);have:=qA8 A;subst this;refine .val ?_ J (.v _ rfl);simp[execOp,H,M,convert,underlying,j,p,Conv.intToInt,iw]
 ·rename_i ds _ _ _ _ ab D E L;have M:=zo (L▸r y);obtain⟨i,u,Q,X,j,W,V,U,T,S,N⟩:=waC (g s _ D);obtain⟨i',R,z,p1,p,p3,p4,p5,Z,Y,A⟩:=waC (g t _ E);have:=qg4 A;subst this;refine .val ?_ J (.v _ rfl);simp[execOp,H,M,convert,underlying,j,p]
 ·rename_i e _ _ _ b D E L;split at h<;>cases h;rename_i B;have M:=zo (L▸r y);obtain⟨i,u,Q,X,j,W,V,U,T,S,N⟩:=waC (g s _ D);obtain⟨i',R,z,p1,p,p3,p4,p5,Z,Y,A⟩:=waC (g t _ E);obtain⟨rfl,_⟩:=qbh A;obtain⟨a1,a2,a3,a4,K⟩:=qEr B;obtain⟨i2,u2,O,o1,F,o3,o4,o5,o6,o7,o8⟩:=waC (g _ _ K);have:=qA8 o8;subst this;obtain⟨v,w',Γ',c1,c2,c3,c4⟩:=qLi J b j p F;exact⟨_,_,w',Γ',by simp[execOp,H,M,c1],.inl rfl,c2,c3,c4⟩
 ·rename_i e _ _ _ _ _ _ _ _ _ _ D E hn;split at h<;>try cases h
  rename_i es B aa;split at h<;>cases h;rename_i l hl;obtain⟨i,u,Q,X,j,W,V,U,T,S,N⟩:=waC (g s _ D);obtain⟨i',R,z,p1,p,p3,p4,p5,Z,Y,A⟩:=waC (g t _ E);have:=qg4 A;subst this;obtain⟨rfl,_⟩:=qbh N;obtain⟨a1,a2,a3,a4,K⟩:=qEr B;obtain⟨i2,u2,O,o1,F,o3,o4,o5,o6,o7,o8⟩:=waC (g _ _ K);have:=qA8 o8;subst this;obtain⟨xs,rfl,rfl⟩:=qzr hl;obtain⟨a,m,c,hv,hm,f⟩:=qCS J (r y) aa (xN 0) (λ e K=>by obtain⟨n,_,rfl⟩:=wy.1 K;rfl);have I:xs.length=m:=by rw[hm,wA]
  refine .val (u := .string (strOfNums xs)) ?_ J (.v _ rfl)
  have G:(convert s t (ρ y)).run P w = .ok (.string (strOfNums xs)) w:=by
   rw[hv];rcases f with f | ⟨b,o',rfl,f⟩
   ·have:xs=[]:=by cases xs with | nil=>rfl | cons x l=>cases f
    subst this;subst I;cases a with
    | none=>exact run_convert_bytes_nil (P:=P) (w:=w) s _ j F _ _ t p
    | some a=>simp[convert,underlying,j,F,p,Conv.bytesToString,loadCells,loadCellsFrom];rfl
   ·refine run_convert_bytes_arg (P:=P) (w:=w) s _ j F b o' m c xs I (λ q hq=>?_) t p;obtain⟨v,v1,v2,_⟩:=f q [.v (.int .u8 xs[q])] 0 _ (by rw[List.getElem?_map,List.getElem?_eq_getElem (by omega)];rfl) rfl;rw[wal,wP]at v1;rw[v1,zo v2,List.getD_eq_getElem?_getD,List.getElem?_eq_getElem (by omega)];rfl
  simp[execOp,H,G]
theorem qhf{k:Nat}(B:0<k){xs:List (List AV)}(z:∀ e∈xs,e.length=k){b o:Nat}(A:∀(i:Nat) (e:List AV) (j:Nat) (x:AV),xs[i]?=some e->e[j]?=some x->∃ v,w.cell? ⟨b,o+(i*k+j),none⟩=some v/\Rep Γ x v/\v.oneCell'=true) :
  ∃ qf:List Value,qf.length=xs.length*k/\(∀ j u,qf[j]?=some u->w.cell? ((⟨b,o,none⟩:Addr).add j)=some u)/\(∀ u∈qf,u.oneCell'=true)/\∀(i:Nat) (e:List AV) (j:Nat) (x:AV),xs[i]?=some e->e[j]?=some x->∃ u,qf[i*k+j]?=some u/\Rep Γ x u/\u.oneCell'=true:=by
 have g:∀ q,q<xs.length*k->∃ v,w.cell? ⟨b,o+q,none⟩=some v/\v.oneCell'=true:=by
  intro q d;have h:q / k<xs.length:=(xW B).2 d;have n:q % k<k:=xS _ B;have D:=z _ (wW h);obtain⟨v,c,m,y⟩:=A (q / k) _ (q % k) _ (List.getElem?_eq_getElem h) (List.getElem?_eq_getElem (by rw[D];exact n));have:q / k*k+q % k=q:=by rw[xF];exact vn q k
  rw[this]at c;exact⟨v,c,y⟩
 let f:Nat->Value := λ q=>(w.cell? ⟨b,o+q,none⟩).getD undef
 have t:∀ q,q<xs.length*k->w.cell? ⟨b,o+q,none⟩=some (f q) := λ q d=>by
  obtain⟨v,c,_⟩:=g q d;show _=some ((w.cell? ⟨b,o+q,none⟩).getD undef);rw[c];rfl
 refine⟨(List.range (xs.length*k)).map f,by simp,?_,?_,?_⟩
 ·intro j u l;have a:j<xs.length*k:=by have:=getElem?_lt l;simpa using this
  rw[qgL,t j a];simpa[a]using l
 ·intro u C;obtain⟨q,d,rfl⟩:=wy.1 C;obtain⟨v,c,m⟩:=g q (kS.1 d);have:=t q (kS.1 d);rw[c]at this;cases this;exact m
 ·intro i e j x s l;obtain⟨v,c,m,y⟩:=A i e j x s l;have r:=getElem?_lt s;have p:=getElem?_lt l;rw[z e (wa s)]at p
  have a:i*k+j<xs.length*k:=by
   calc i*k+j<i*k+k:=by omega
    _=(i+1)*k:=by rw[wN,xw]
    _<=xs.length*k:=wn _ r
  refine⟨v,?_,m,y⟩;have:=t _ a;rw[c]at this;simp[a,this]
theorem qJb{ts:Array TypeId}{t u e ty:TypeId}(f:ts[0]?=some t)(d:ts[1]?=some u)(c:P.underlying t=some (.slice e))(a:(∃ b,P.underlying u=some (.slice b))\/P.underlying u=some .string)(s x:Value) :
  (Builtin.append_ ts ty #[s,x]).run P w=(Builtin.append_ #[t,u] ty #[s,x]).run P w:=by
 rcases a with⟨b,a⟩ | a<;>cases s<;>simp[Builtin.append_,f,d,run_underlying c,run_underlying a]
theorem grow_any{t u e ty:TypeId}{h:TypeInfo}{r:Value}{k bytes:Nat}(D:P.underlying t=some (.slice e))(G:P.info? e=some h)(C:h.zero=some r)(E:h.size=k)(y:h.bytes=bytes)(s:r.cells.size=k)
  (a:Option Addr) (n cap:Nat) (H:a=none->n=0/\cap=0) (c:List Value) (i:c.length=n*k) (o:∀ b,a=some b->∀ j u,c[j]?=some u->w.cell? (b.add j)=some u)
  (x:Value) (m:Nat) (qf:List Value) (d:Src P k u x m qf w) (B:cap<n+m) (z:n+m<=maxLen) (l:(n+m)*bytes<=140737488355328) :
  ∃ g f p w',(Builtin.append_ #[t,u] ty #[.slice a n cap,x]).run P w = .ok (.slice (some ⟨g,0,none⟩) (n+m) f) w'/\Below w.heap.size w w'/\w.heap.size<=g/\w'.heap[g]?=some (.cells p e (0,0))/\n+m<=f/\p.size=f*k/\p.toList.take ((n+m)*k)=c++qf/\w.drawn<=w'.drawn:=by
 subst E;subst y
 have q:(Builtin.firstCells h.size n (.slice a n cap)).run P w.drew = .ok c.toArray w.drew:=by
  cases a with
  | none =>
    obtain⟨rfl,rfl⟩:=H rfl;have:c=[]:=kt.1 (by simpa using i);subst this;exact run_firstCells_none w.drew h.size 0 0 0
  | some b=>exact run_firstCells_some w.drew h.size n b n cap c i (by simpa using o b rfl)
 have A:=run_append_grow_src (P:=P) w t u ty e h r D G C a n cap c q x m qf d B (by simp only[maxLen]at z;omega) (growslice_fits B l);have v:=grownCap_ge w (n+m) cap e;refine⟨_,_,_,_,A,⟨rfl,rfl,rfl,by simp,λ k F=>heap_alloc_old w.drew _ F⟩,wb _,heap_alloc_new w.drew _,v,?_,?_,Go.GxZ.run_drawn _ A⟩
 ·simp only[xC,km,size_zeroCells,wc,i,d.newsLen,s];rw[<- wN,<- wN];congr 1;omega
 ·simp only[xn];have:(c++qf).length=(n+m)*h.size:=by rw[wc,i,d.newsLen,wN]
  rw[<- this];exact wao
theorem qCf{α : Type}{l r:List α}{n q:Nat}{u : α}(h:l.take n=r)(a:r[q]?=some u):l[q]?=some u:=by
 rw[<- h,List.getElem?_take]at a;split at a
 ·exact a
 ·cases a
theorem qrJ{k:Nat}{c xs:List (List AV)}{a qf:List Value}(g:a.length=c.length*k)(m:∀ e∈c,e.length=k)
  (r:∀(i:Nat) (e:List AV) (j:Nat) (x:AV),c[i]?=some e->e[j]?=some x->∃ u,a[i*k+j]?=some u/\Rep Γ x u/\u.oneCell'=true)
  (q:∀(i:Nat) (e:List AV) (j:Nat) (x:AV),xs[i]?=some e->e[j]?=some x->∃ u,qf[i*k+j]?=some u/\Rep Γ x u/\u.oneCell'=true) :
  ∀(i:Nat) (e:List AV) (j:Nat) (x:AV),(c++xs)[i]?=some e->e[j]?=some x->∃ u,(a++qf)[i*k+j]?=some u/\Rep Γ x u/\u.oneCell'=true:=by
 intro i e j x o h;rcases qFh o with⟨l,b⟩ | ⟨p,b⟩
 ·obtain⟨u,d,f⟩:=r i e j x b h;exact⟨u,by rw[List.getElem?_append_left (getElem?_lt d)];exact d,f⟩
 ·obtain⟨u,d,f⟩:=q _ e j x b h;refine⟨u,?_,f⟩;have n:i*k=c.length*k+(i-c.length)*k:=by rw[<- wN];congr 1;omega
  rw[List.getElem?_append_right (by omega),g,show i*k+j-c.length*k=(i-c.length)*k+j by omega];exact d
theorem qpi(hC:∀ t d,C.ty t=some d->jD P t=some d)(hi:Inv Γ σ w){ts:Array TypeId}{ty t u:TypeId}{sv xv:Value}{s:AV}(hs:Rep Γ s sv)(h0:ts[0]?=some t)(h1:ts[1]?=some u){e k bytes:Nat}{z:List Value}{q1 q2 q3 q4:_}
  (aK:C.ty t=some ⟨q1,q2,q3,q4,.slice e k bytes z⟩) (ai:0<k) (ax:z.length=k) {xs:List (List AV)} (u1:∀ e∈xs,e.length=k) (u2:∀ e∈xs,∀ x∈e,qy x=true)
  {qf:List Value} (m:Src P k u xv xs.length qf w) (n4:∀(i:Nat) (e:List AV) (j:Nat) (x:AV),xs[i]?=some e->e[j]?=some x->∃ u,qf[i*k+j]?=some u/\Rep Γ x u/\u.oneCell'=true) (h:yc k bytes σ s xs=some (x,σ')) :
  ∃ v w' Γ',(Builtin.append_ ts ty #[sv,xv]).run P w = .ok v w'/\Ext Γ w Γ' w'/\Inv Γ' (turn σ σ') w'/\Rep Γ' x v:=by
 obtain⟨ii,ud,zv,p1,p2,p3,p4,p5,p6,p7,p8⟩:=waC (hC t _ aK);obtain⟨rfl,Z,ze,r1,r2,r3,r4,r5⟩:=qbh p8;have an:ze.cells.size=k:=by rw[<- ax,<- r5];simp
 have n1:=m.newsLen;have n3:=m.one;rw[qJb h0 h1 p2 m.kind]
 have K:∀(q:Option Addr) (n cap:Nat),n<=cap->xs=[]->(Builtin.append_ #[t,u] ty #[.slice q n cap,xv]).run P w = .ok (.slice q n cap) w:=by
  intro q n cap aG y;subst y;have aE:qf=[]:=kt.1 (by rw[n1];simp);subst aE;subst r3;exact run_append_nothing w t u ty e Z p2 r1 q n cap aG xv m
 have L:zi (qaM xs) 0=true->xs=[] := λ h=>kt.1 (of_decide_eq_true h);have J:zi (qaM xs) 0=false->xs≠[] := λ h y=>by subst y;simp[zi,qaM]at h
 have E:∀(q:Option Addr) (n cap:Nat) (es:List (List AV)),n=es.length->(q=none->n=0/\cap=0)->cap<n+xs.length->xs≠[]->(∀ e∈es,e.length=k)->(∀ e∈es,∀ x∈e,qy x=true) ->
   (∀ F,q=some F->∃ b o,F=⟨b,o,none⟩/\(es=[]\/∀(i:Nat) (e:List AV) (j:Nat) (x:AV),es[i]?=some e->e[j]?=some x->∃ v,w.cell? ⟨b,o+(i*k+j),none⟩=some v/\Rep Γ x v/\v.oneCell'=true))\/es=[] ->
   ∀ R N,rowNew k bytes (ql6 es xs)=some (R,N)->∃ v w' Γ',(Builtin.append_ #[t,u] ty #[.slice q n cap,xv]).run P w = .ok v w'/\Ext Γ w Γ' w'/\Inv Γ' { σ with rw := σ.rw++[R] } w'/\Rep Γ' (.rs σ.rw.length 0 N 0 false) v:=by
  intro q n cap es Y l au aR ak aJ G R N T;simp only[rowNew]at T;split at T<;>cases T;rename_i aA;obtain⟨ae,ap⟩:=aA;simp only[ql6]at ae ap
  have M:∃ a:List Value,a.length=n*k/\(∀ F,q=some F->∀ j u,a[j]?=some u->w.cell? (F.add j)=some u)/\∀(i:Nat) (e:List AV) (j:Nat) (x:AV),es[i]?=some e->e[j]?=some x->∃ u,a[i*k+j]?=some u/\Rep Γ x u/\u.oneCell'=true:=by
   have V:es=[]->∃ a:List Value,a.length=n*k/\(∀ F,q=some F->∀ j u,a[j]?=some u->w.cell? (F.add j)=some u)/\∀(i:Nat) (e:List AV) (j:Nat) (x:AV),es[i]?=some e->e[j]?=some x->∃ u,a[i*k+j]?=some u/\Rep Γ x u/\u.oneCell'=true:=by
    intro y;subst y;exact⟨[],by simp[Y],λ _ _ j u hj=>by simp at hj,λ i e j x I=>by simp at I⟩
   cases A:q with
   | none=>exact A▸V (kt.1 (by have:=(l A).1;omega))
   | some F =>
     rcases G with G | G
     ·obtain⟨b2,aS,rfl,hh⟩:=G F A;rcases hh with hh | hh
      ·exact A▸V hh
      ·obtain⟨a,m1,m2,m3,m4⟩:=qhf ai ak hh;exact⟨a,by rw[Y];exact m1,λ F hb=>by cases hb;exact m2,m4⟩
     ·exact A▸V G
  obtain⟨a,m1,m2,m4⟩:=M;have Q:(es++xs).length=n+xs.length:=by rw[wc,Y]
  obtain⟨g,S,ad,w',f1,f2,f3,f4,f5,f6,f7,f8⟩:=grow_any (P:=P) (w:=w) (ty:=ty) p2 r1 r2 r3 r4 an q n cap l a m1 m2 xv xs.length qf m au (by simp only[maxLen];omega) (by rw[<- Q];exact ae);have aT:ad.toList.length=S*k:=by simpa using f6
  obtain⟨Γ',d1,d2,d3⟩:=qx1 hi ai (c:=es++xs) (by
   intro e y;rcases ww.1 y with y | y
   ·exact ak e y
   ·exact u1 e y) (by
   intro e y;rcases ww.1 y with y | y
   ·exact aJ e y
   ·exact u2 e y) (vs:=ad) (by rw[Q,f6];exact wn _ f5) (by
   intro i e j x I hj;obtain⟨u,hu,U⟩:=qrJ (by rw[m1,Y]) ak m4 n4 i e j x I hj;exact⟨u,by rw[<- Array.getElem?_toList];exact qCf f7 hu,U⟩) (e:=e) (cap:=S) (by rw[Q];exact f5) (by rw[f6];exact wb _) f2 f8 f3 f4
  refine⟨_,w',Γ',f1,d1,d2,?_⟩;rw[<- Q];exact d3
 unfold yc at h;split at h
 ·have aB:=zo hs;subst aB;split at h
  ·rename_i p;cases h;exact⟨_,w,Γ,K none 0 0 (wb _) (L p),.refl _ _,hi,.v _ rfl⟩
  ·rename_i p;split at h<;>cases h;rename_i R N T;have D:=J p;have ag:0<xs.length:=xg.2 D;exact E none 0 0 [] rfl (λ _=>⟨rfl,rfl⟩) (by omega) D (λ e y=>by cases y) (λ e y=>by cases y) (.inr rfl) R N (by simpa[ql6]using T)
 ·rename_i k1 es f;cases hs with
  | sl _ _ _ q n cap b o us Y hc hf aH aD aO ha hm hr =>
  split at h
  ·rename_i p;split at h<;>cases h;rename_i aI;exact⟨_,w,Γ,K q n cap (hc (of_decide_eq_true aI)) (L p),.refl _ _,hi,.sl k1 es f q n cap b o us Y hc hf aH aD aO ha hm hr⟩
  ·rename_i p;split at h<;>try cases h
   rename_i X;simp only[wd]at X;obtain⟨⟨aa,W⟩,az⟩:=X;have W:k1=k:=of_decide_eq_true W;subst W;obtain⟨v1,v2⟩:=qBA az;split at h<;>cases h;rename_i R N T;have D:=J p;have ag:0<xs.length:=xg.2 D;have aa:=of_decide_eq_true aa;have aU:=hf aa;have hc:=hc (Nat.lt_trans wai aa);by_cases ab:es=[]
   ·cases q with
    | none=>exact E none n cap es Y (λ _=>by subst ab;simp at Y;omega) (by omega) D v1 v2 (.inr ab) R N T
    | some F=>exact E (some F) n cap es Y (λ h=>by cases h) (by omega) D v1 v2 (.inr ab) R N T
   ·have aM:=ha.resolve_left ab;subst aM;refine E _ n cap es Y (λ h=>by cases h) (by omega) D v1 v2 (.inl λ F hb=>⟨b,o,by cases hb;rfl,.inr λ i e j x h1 h2=>⟨us i j,?_,hr i e j x h1 h2,(hi.mem _ _ _ (hm i e j x h1 h2)).2⟩⟩) R N T;rw[<- wI];exact(hi.mem _ _ _ (hm i e j x h1 h2)).1
 ·rename_i r lo n ep f;cases hs with
  | rs _ _ _ _ _ q cap aC hv hc hf ao =>
  split at h
  ·rename_i p;cases h;exact⟨_,w,Γ,K q n cap hc (L p),.refl _ _,hi,.rs r lo n ep f q cap aC hv hc hf ao⟩
  ·rename_i p;split at h<;>try cases h
   rename_i R T;split at h<;>cases h;rename_i R' N am;have D:=J p;have ag:0<xs.length:=xg.2 D;simp only[qsS]at am;split at am<;>cases am;rename_i aL;obtain⟨c0,c1,c3,c4,c5,ah,c6,c7⟩:=aL;subst c4;have H:=hi.row r R T;obtain⟨g2,g3⟩:=ao (by rw[<- H.ver ah];exact c1);subst c0;subst c1;have O : Γ.of r+cap*R.k <= Γ.sz r:=by rw[H.k];simpa using g3
   by_cases B:n+xs.length<=cap
   ·have A:=g2.resolve_left (by omega)
    have hz : Γ.sz r≠0:=by
     intro hz;have:=wak (show 0<cap by omega) H.pos;omega
    obtain⟨vs,e1,fr,d2,d3,d4,_⟩:=H.blk hz;rw[<- d3]at O;simp only[kQ,wP]at A;subst A
    have ar : Γ.of r+n*Z.size+qf.length<=vs.size:=by
     have:=wn R.k B;rw[wN]at this;rw[r3,n1];omega
    have ac:∀ j,j<qf.length->(w.cell? ⟨Γ.cur r,Γ.of r+n*Z.size+j,none⟩).isSome=true:=by
     intro j hj;rw[QQ d2];have : Γ.of r+n*Z.size+j<vs.size:=by omega
     rw[Array.getElem?_eq_getElem this];rfl
    have aj:∀ j,j<qf.length->w.frozen? ⟨Γ.cur r,Γ.of r+n*Z.size+j,none⟩=false := λ j hj=>qtl d2 d4 (by omega);have af:=run_append_room_src (P:=P) w t u ty e Z p2 r1 (Γ.cur r) (Γ.of r) n cap xv xs.length qf (by rw[r3];exact m) B ac aj
    have aq:w.setCells (Γ.cur r) (Γ.of r+n*Z.size) qf=w.setRow (Γ.cur r) (vs.toList.take (Γ.of r+n*Z.size)++qf++vs.toList.drop (Γ.of r+n*Z.size+qf.length)).toArray:=by
     rw[qmd qf _ vs w d2 ar,wi]
    rw[aq,r3]at af
    obtain⟨Γ',f1,f2,f3⟩:=qLr hi T ah u1 u2 n1 n4 hz (by rw[<- c3,<- d3];exact wD (vL (wn _ B) _) O)
     (w':=w.setRow (Γ.cur r) (vs.toList.take (Γ.of r+n*R.k)++qf++vs.toList.drop (Γ.of r+n*R.k+qf.length)).toArray) (λ vs' e' aV hv=>by
      rw[d2]at hv;cases hv;rw[<- c3];exact setRow_heap w _ _ _ _ _ d2) (λ k hk=>setRow_other w _ k _ hk) rfl rfl rfl (by simp) (wb _) (r :: σ.wrr) (cap:=cap) (by rw[<- c3];exact B) (by rw[<- d3];exact O)
    rw[<- c3]at f3;exact⟨_,_,Γ',af,f1,f2,f3⟩
   ·-- no zp
    have M:∃ a:List Value,a.length=n*R.k/\(∀ F,q=some F->∀ j u,a[j]?=some u->w.cell? (F.add j)=some u)/\∀(i:Nat) (e:List AV) (j:Nat) (x:AV),R.c[i]?=some e->e[j]?=some x->∃ u,a[i*R.k+j]?=some u/\Rep Γ x u/\u.oneCell'=true:=by
     by_cases al:cap=0
     ·have aF:n=0:=by omega
      have av:R.c=[]:=kt.1 (by omega);exact⟨[],by simp[aF],λ _ _ j u hj=>by simp at hj,λ i e j x I=>by rw[av]at I;simp at I⟩
     ·have A:=g2.resolve_left al;subst A
      obtain⟨a,q1,q2,q3,q4⟩:=qhf ai (b := Γ.cur r) (o := Γ.of r+0 * Γ.k r) H.len (λ i e j x h1 h2=>by
       obtain⟨v,hv,ay⟩:=H.cells i e j x h1 h2;exact⟨v,by rw[<- hv];congr 2;omega,ay⟩)
      exact⟨a,by rw[c3];exact q1,λ F hb=>by cases hb;exact q2,q4⟩
    obtain⟨a,q1,q2,q4⟩:=M
    have l:q=none->n=0/\cap=0:=by
     intro ha
     have av:cap=0:=by
      rcases g2 with g2 | g2
      ·exact g2
      ·rw[ha]at g2;cases g2
     omega
    obtain⟨g,S,ad,w',f1,f2,f3,f4,f5,f6,f7,f8⟩:=grow_any (P:=P) (w:=w) (ty:=ty) p2 r1 r2 r3 r4 an q n cap l a q1 q2 xv xs.length qf m (by omega) (by simp only[maxLen];omega) c6
    obtain⟨Γ',aQ,aP,aw⟩:=qKi hi T ah (xs:=xs) u1 u2 (vs:=ad) (e:=e) f2 f8 f3 f4 (by rw[<- c3,f6];exact wn _ f5)
     (by
      intro i e2 j x I hj;obtain⟨u,hu,U,aN⟩:=qrJ (by rw[q1,c3]) H.len q4 n4 i e2 j x I hj;exact⟨u,by rw[<- Array.getElem?_toList];exact qCf f7 hu,U,aN⟩) (r :: σ.wrr) (cap:=S) (by omega) (by rw[f6];exact wb _)
    rw[<- c3]at aw;exact⟨_,w',Γ',f1,aQ,aP,aw⟩
 ·cases h
theorem qzl(A:∀ t d,C.ty t=some d->jD P t=some d)(q:Inv Γ σ w){ts:Array TypeId}{ty t u:TypeId}{D B:Value}{s y:AV}(F:Rep Γ s D)(hy:Rep Γ y B){e k bytes:Nat}{z:List Value}(I:ts[0]?=some t)(H:ts[1]?=some u){e' k' b':Nat}{K:List Value}{U T S R:_}{Q O N M:_}
  (p:C.ty t=some ⟨U,T,S,R,.slice e k bytes z⟩) (r:C.ty u=some ⟨Q,O,N,M,.slice e' k' b' K⟩) (g:0<k) (l:z.length=k) {xs:List (List AV)} (hx:elems σ.rw k y=some xs) (n:uni k xs=true) (h:yc k bytes σ s xs=some (x,σ')) :
  ∃ v w' Γ',(Builtin.append_ ts ty #[D,B]).run P w = .ok v w'/\Ext Γ w Γ' w'/\Inv Γ' (turn σ σ') w'/\Rep Γ' x v:=by
 obtain⟨aa,L,J,o1,E,o3,o4,o5,o6,o7,V⟩:=waC (A u _ r);obtain⟨rfl,_⟩:=qbh V;obtain⟨u1,u2⟩:=qBA n;obtain⟨a,m,c,rfl,rfl,f⟩:=qCS q hy hx g u1;rcases f with rfl | ⟨b,o,rfl,f⟩
 ·have G:∀ w':World,(Builtin.firstCells k 0 (.slice a 0 c)).run P w' = .ok #[] w' := λ w'=>by
    cases a with
    | none=>simp[Builtin.firstCells]
    | some a'=>simp[Builtin.firstCells,loadCells,loadCellsFrom]
  exact qpi A q F I H p g l u1 u2 (qf:=[]) ⟨.inl ⟨_,E⟩,λ _=>rfl,G w,G _,by simp,λ _ h=>by cases h⟩ (λ i e j x h=>by simp at h) h
 ·obtain⟨qf,Z,Y,X,W⟩:=qhf g u1 f;exact qpi A q F I H p g l u1 u2 (Src.ofSlice w E _ _ c qf Z Y X) W h
theorem qAB(n:∀ t d,C.ty t=some d->jD P t=some d)(L:Inv Γ σ w){ts:Array TypeId}{ty t u:TypeId}{m:Value}{s:AV}{b:ByteArray}(J:Rep Γ s m){e bytes:Nat}{z:List Value}(O:ts[0]?=some t)(N:ts[1]?=some u){F E D B:_}{A y r q:_}
  (l:C.ty t=some ⟨F,E,D,B,.slice e 1 bytes z⟩) (k:C.ty u=some ⟨A,y,r,q,.string⟩) (a:z.length=1) (h:yc 1 bytes σ s (qbU b)=some (x,σ')) :
  ∃ v w' Γ',(Builtin.append_ ts ty #[m,.string b]).run P w = .ok v w'/\Ext Γ w Γ' w'/\Inv Γ' (turn σ σ') w'/\Rep Γ' x v:=by
 obtain⟨I,p,o,V,H,U,T,S,R,Q,G⟩:=waC (n u _ k);have:=qg4 G;subst this;refine qpi n L J O N l (xN 0) a (λ e g=>qvs g) (λ e g=>qrl g) (qf:=byteCells b) (by rw[qkW];exact Src.ofString w H b) (λ i e j x f K=>?_) h;obtain⟨rfl,c,M,rfl⟩:=qwq f K;refine⟨.int .u8 c.toNat,?_,.v _ rfl,rfl⟩;show(b.data.toList.map λ b=>Value.int .u8 b.toNat)[i*1+0]?=_;rw[wal,wP,List.getElem?_map,M];rfl
end
end Go.AmZ
namespace Go.AmZ
open Go Go.RowKit
theorem qrn:∀ cs:List AV,rbL cs=cs.flatMap rb
 | []=>rfl
 | x::cs=>by simp only[rbL,xc,qrn cs]
theorem qoX:∀ cs:List AV,rrL cs=cs.flatMap rr
 | []=>rfl
 | x::cs=>by simp only[rrL,xc,qoX cs]
theorem qsK(fb fr:Nat->Nat):∀ cs:List AV,zd fb fr cs=cs.map (ren fb fr)
 | []=>rfl
 | x::cs=>by simp only[zd,wo,qsK fb fr cs]
theorem qgZ{fb fr:Nat->Nat}{x:AV}(h:qy x=true):ren fb fr x=x/\rb x=[]/\rr x=[]:=by
 cases x<;>first | exact⟨rfl,rfl,rfl⟩ | (simp[qy]at h)
theorem qrr{n m:Nat}{x:AV}:refs n m x=false↔(∀ b∈rb x,b<n)/\∀ r∈rr x,r<m:=by
 simp[refs]
theorem Rep.bound{Γ : Gh}{x:AV}{u:Value}(h:Rep Γ x u):(∀ b∈rb x,b < Γ.nb)/\∀ r∈rr x,r < Γ.nr:=by
 have c:∀(cs:List AV) (us:List Value),us.length=cs.length->(∀(i:Nat) (x:AV) (u:Value),cs[i]?=some x->us[i]?=some u->(∀ b∈rb x,b < Γ.nb)/\∀ r∈rr x,r < Γ.nr)->(∀ b∈rbL cs,b < Γ.nb)/\∀ r∈rrL cs,r < Γ.nr:=by
  intro cs us j g
  have get:∀ x∈cs,(∀ b∈rb x,b < Γ.nb)/\∀ r∈rr x,r < Γ.nr:=by
   intro x m;obtain⟨i,l⟩:=List.getElem?_of_mem m;have k:i<us.length:=by rw[j];exact getElem?_lt l
   exact g i x _ l (List.getElem?_eq_getElem k)
  rw[qrn,qoX];grind
 induction h with
 | v | dead | sl | ept=>exact⟨λ b e=>by simp[rb]at e,λ r d=>by simp[rr]at d⟩
 | rs r lo n p f a cap d=>exact⟨λ b e=>by simp[rb]at e,λ r d=>by simp[rr]at d;subst d;assumption⟩
 | rpt r i o p A d=>exact⟨λ b e=>by simp[rb]at e,λ r d=>by simp[rr]at d;subst d;assumption⟩
 | ptr b o h=>exact⟨λ b e=>by simp[rb]at e;subst e;exact h,λ r d=>by simp[rr]at d⟩
 | fn f cs us j d g=>exact c cs us j g
 | agg cs us j q d g=>exact c cs us j g
 | tup cs us j d g=>exact c cs us j g
theorem Rep.noRefs{Γ : Gh}{x:AV}{u:Value}(h:Rep Γ x u):refs Γ.nb Γ.nr x=false:=qrr.2 h.bound
theorem qsM{Γ Γ':Gh}{fb fr:Nat->Nat}(N:∀ b o u,Γ.mem b o=some u -> Γ'.mem b o=some u){x:AV}{u:Value}(h:Rep Γ x u)
  (l:∀ b∈rb x,fb b < Γ'.nb /\ Γ'.β (fb b) = Γ.β b)
  (d:∀ r∈rr x,fr r < Γ'.nr /\ Γ'.k (fr r) = Γ.k r /\ Γ'.ver (fr r) = Γ.ver r /\ Γ'.cur (fr r) = Γ.cur r /\ Γ'.sz (fr r) = Γ.sz r /\ Γ'.of (fr r) = Γ.of r):Rep Γ' (ren fb fr x) u:=by
 have c:∀(cs:List AV) (us:List Value),us.length=cs.length->(∀ b∈rbL cs,fb b < Γ'.nb /\ Γ'.β (fb b) = Γ.β b) ->
   (∀ r∈rrL cs,fr r < Γ'.nr /\ Γ'.k (fr r) = Γ.k r /\ Γ'.ver (fr r) = Γ.ver r /\ Γ'.cur (fr r) = Γ.cur r /\ Γ'.sz (fr r) = Γ.sz r /\ Γ'.of (fr r) = Γ.of r) ->
   (∀(i:Nat) (x:AV) (u:Value),cs[i]?=some x->us[i]?=some u->(∀ b∈rb x,fb b < Γ'.nb /\ Γ'.β (fb b) = Γ.β b)->(∀ r∈rr x,fr r < Γ'.nr /\ Γ'.k (fr r) = Γ.k r /\ Γ'.ver (fr r) = Γ.ver r /\ Γ'.cur (fr r) = Γ.cur r /\ Γ'.sz (fr r) = Γ.sz r /\ Γ'.of (fr r) = Γ.of r)->Rep Γ' (ren fb fr x) u) ->
   RepL Γ' (zd fb fr cs) us:=by
  intro cs us m l d g;rw[qsK];rw[qrn]at l;rw[qoX]at d;refine⟨by simpa using m,λ i y u z P=>?_⟩;rw[List.getElem?_map]at z;cases t:cs[i]? with
  | none=>rw[t]at z;cases z
  | some x =>
    rw[t]at z;cases z;have p:=wa t;exact g i x u t P (λ b h=>l b (ka.2 ⟨x,p,h⟩)) (λ r h=>d r (ka.2 ⟨x,p,h⟩))
 induction h with
 | v _ h=>exact .v _ h
 | dead u=>exact .dead u
 | sl k es f a n cap b o us m J I Q B S R s G g =>
   refine .sl k es f a n cap b o us m J I Q B S R (λ i e j x w D=>N _ _ _ (s i e j x w D)) λ i e j x w D=>?_;have q:=B e (wa w) x (wa D);obtain⟨e1,M,L⟩:=qgZ (fb:=fb) (fr:=fr) q;have:=g i e j x w D (by rw[M];intro b l;cases l) (by rw[L];intro r d;cases d);rw[e1]at this;exact this
 | rs r lo n W f a cap F E J I t =>
   obtain⟨C,K,g3,V,U,T⟩:=d r (by simp[rr]);refine .rs _ _ _ _ _ _ _ C (by rw[g3];exact E) J I λ H=>?_;grind
 | ptr b o h =>
   obtain⟨C,K⟩:=l b (by simp[rb]);rw[<- K];exact .ptr _ _ C
 | rpt r i o W A F E t =>
   obtain⟨C,K,g3,V,U,T⟩:=d r (by simp[rr]);refine .rpt _ _ _ _ _ C (by rw[g3];exact E) λ H=>?_;grind
 | ept cs o b O us B s G g =>
   refine .ept cs o b O us B (λ j x h=>N _ _ _ (s j x h)) λ j x h=>?_;have q:=B x (wa h);obtain⟨e1,M,L⟩:=qgZ (fb:=fb) (fr:=fr) q;have:=g j x h (by rw[M];intro b l;cases l) (by rw[L];intro r d;cases d);rw[e1]at this;exact this
 | fn f cs us m h g =>
   have:=c cs us m l d g;exact .fn f _ us this.len this.rep
 | agg cs us m w h g =>
   have:=c cs us m l d g;exact .agg _ us this.len w this.rep
 | tup cs us m h g =>
   have:=c cs us m l d g;exact .tup _ us this.len this.rep
mutual
theorem qBr:∀ x:AV,ren (λ b=>b) (λ r=>r) x=x
 | .ptr b o=>rfl
 | .rs .. => rfl
 | .rpt .. => rfl
 | .fn f cs=>by simp only[ren,qso cs]
 | .agg cs=>by simp only[ren,qso cs]
 | .tup cs=>by simp only[ren,qso cs]
 | .v _=>rfl
 | .dead=>rfl
 | .sl .. => rfl
 | .ept .. => rfl
theorem qso:∀ cs:List AV,zd (λ b=>b) (λ r=>r) cs=cs
 | []=>rfl
 | x::cs=>by simp only[zd,qBr x,qso cs]
end
theorem Rep.cut{Γ : Gh}{n m:Nat}{x:AV}{u:Value}(h:Rep Γ x u)(a:refs n m x=false):Rep { Γ with nb:=n,nr:=m } x u:=by
 obtain⟨e,d⟩:=qrr.1 a;have:=qsM (Γ := Γ) (Γ':={ Γ with nb:=n,nr:=m }) (fb := λ b=>b) (fr := λ r=>r) (λ _ _ _ h=>h) h (λ b c=>⟨e b c,rfl⟩) (λ r a=>⟨d r a,rfl,rfl,rfl,rfl,rfl⟩);rw[qBr]at this;exact this
theorem Inv.wr{Γ : Gh}{σ : St}{w:World}(h:Inv Γ σ w){σ':St}(b : σ'.bx = σ.bx)(a : σ'.rw = σ.rw):Inv Γ σ' w :=
 ⟨by rw[b];exact h.nb,by rw[a];exact h.nr,h.mem,by rw[b];exact h.box,h.inj,h.boxmem,by rw[a];exact h.row,h.apart⟩
theorem qzd{α : Type}{l:List α}{n i:Nat}{x : α}(h:(l.take n)[i]?=some x):i<n/\l[i]?=some x:=by
 grind
theorem Inv.cut{Γ : Gh}{σ : St}{w:World}(h:Inv Γ σ w){n m:Nat}(q:n <= Γ.nb)(E:m <= Γ.nr)(J:∀ i cs,i<n -> σ.bx[i]?=some cs->∀ x∈cs,Go.AmZ.refs n m x=false)(F v:List Nat):Inv { Γ with nb:=n,nr:=m } ⟨σ.bx.take n,σ.rw.take m,F,v⟩ w where
 nb:=by show n=(σ.bx.take n).length;rw[wm,<- h.nb];omega
 nr:=by show m=(σ.rw.take m).length;rw[wm,<- h.nr];omega
 mem:=h.mem
 box := λ i cs d=>by
  obtain⟨g,l⟩:=qzd d;obtain⟨vs,e,Q,t,g3⟩:=h.box i cs l;exact⟨vs,e,Q,⟨t.len,λ j x u p A=>(t.rep j x u p A).cut (J i cs g l x (wa p))⟩,g3⟩
 inj := λ i j d s=>h.inj i j (wE d q) (wE s q)
 boxmem := λ i d=>h.boxmem i (wE d q)
 row := λ r R B=>by
  obtain⟨g,f⟩:=qzd B;obtain⟨k,y,pos,z,D,S,t,P,O,N,M,L⟩:=h.row r R f
  have o:∀{x:AV} {u:Value} {e:List AV},e∈R.c->x∈e->Rep Γ x u->Rep { Γ with nb:=n,nr:=m } x u := λ I p a=>a.cut (by
   obtain⟨_,U,T⟩:=qgZ (fb:=id) (fr:=id) (D _ I _ p);rw[qrr,U,T];exact⟨λ b C=>(xt C).elim,λ b C=>(xt C).elim⟩)
  refine⟨k,y,pos,z,D,S,t,P,O,λ i e j x d s=>?_,λ H i d=>M H i (wE d q),L⟩;obtain⟨u,A,a,K⟩:=N i e j x d s;exact⟨u,A,o (wa d) (wa s) a,K⟩
 apart := λ r G B f=>h.apart r G (wE B E) (wE f E)
structure qX (σ σ':St):Prop where
 bl : σ.bx.length <= σ'.bx.length
 rl : σ.rw.length <= σ'.rw.length
 bx:∀ i,i < σ.bx.length->i ∉ σ'.wr -> σ'.bx[i]? = σ.bx[i]?
 rw:∀ i,i < σ.rw.length->i ∉ σ'.wrr -> σ'.rw[i]? = σ.rw[i]?
 wr:∀ i,i ∈ σ.wr->i ∈ σ'.wr
 wrr:∀ i,i ∈ σ.wrr->i ∈ σ'.wrr
theorem qX.refl(σ : St):qX σ σ := ⟨wb _,wb _,λ _ _ _=>rfl,λ _ _ _=>rfl,λ _ h=>h,λ _ h=>h⟩
theorem qX.trans{a b c:St}(h:qX a b)(g:qX b c):qX a c :=
 ⟨wD h.bl g.bl,wD h.rl g.rl,λ i d e=>(g.bx i (wE d h.bl) e).trans (h.bx i d λ f=>e (g.wr i f)),λ i d e=>(g.rw i (wE d h.rl) e).trans (h.rw i d λ f=>e (g.wrr i f)),λ i d=>g.wr i (h.wr i d),λ i d=>g.wrr i (h.wrr i d)⟩
theorem qE0:∀(a:List Nat) (rw:List Row),(frz rw a).length=rw.length
 | [],rw=>rfl
 | r::a,rw=>by
   show(frz (rw.modify r qme) a).length=_;rw[qE0 a,vQ]
theorem qom:∀(a:List Nat) (rw:List Row) (i:Nat),i ∉ a->(frz rw a)[i]?=rw[i]?
 | [],rw,i,_=>rfl
 | r::a,rw,i,h=>by
   show(frz (rw.modify r qme) a)[i]?=_;rw[qom a _ i λ b=>h (wg _ b),List.getElem?_modify];grind
theorem qFb{Γ : Gh}{σ : St}{w:World}(e:Inv Γ σ w){m:Nat->Nat->Option Value}(c:Le Γ { Γ with mem:=m }){d:Nat}{y:AV}{u:Value}(l:∀ r∈rr y,d<=r->∀ R,σ.rw[r]?=some R->Qx { Γ with mem:=m } r R)(a:Rep Γ y u):Rep { Γ with mem:=m } (quX d σ.rw y) u:=by
 cases y with
 | sl k es f=>exact qlh (y := .sl k es f) e c (λ r a=>by simp[rsC]at a) a
 | rs r lo n h f =>
   simp only[quX];split
   ·rename_i j;refine qlh (y := .rs r lo n h f) e c (λ i g R o=>?_) a;grind [rsC,rr]
   ·exact a.mono c
 | _=>exact a.mono c
theorem qCw{Γ : Gh}{σ : St}{w:World}(l:Inv Γ σ w){m:Nat->Nat->Option Value}(k:Le Γ { Γ with mem:=m }){c:Nat}{pub:AV->AV}{cs:List AV}{us:List Value}(g:∀ y u,(∀ r∈rr y,c<=r->∀ R,σ.rw[r]?=some R->Qx { Γ with mem:=m } r R)->Rep Γ y u->Rep { Γ with mem:=m } (pub y) u)
  (j:∀ r∈rrL cs,c<=r->∀ R,σ.rw[r]?=some R->Qx { Γ with mem:=m } r R) (d:RepL Γ cs us):RepL { Γ with mem:=m } (cs.map pub) us:=by
 refine⟨by simpa using d.len,λ i x u b e=>?_⟩;rw[List.getElem?_map]at b;cases h:cs[i]? with
 | none=>rw[h]at b;cases b
 | some y =>
   rw[h]at b;cases b;refine g y u (λ r f=>j r ?_) (d.rep i y u h e);rw[qoX];grind
theorem qFP{Γ : Gh}{σ : St}{w:World}(d:Inv Γ σ w){m:Nat->Nat->Option Value}(c:Le Γ { Γ with mem:=m }){b:Nat}{y:AV}{u:Value}(f:∀ r∈rr y,b<=r->∀ R,σ.rw[r]?=some R->Qx { Γ with mem:=m } r R)(e:Rep Γ y u):Rep { Γ with mem:=m } (qjS b σ.rw y) u:=by
 cases y with
 | agg cs =>
   cases e with
   | agg _ us i h g =>
     have:=qCw d c (pub:=quX b σ.rw) (λ y u=>qFb d c) (by simpa[rr]using f) ⟨i,g⟩;exact .agg _ us this.len h this.rep
 | _=>exact qFb d c f e
theorem qNC{Γ : Gh}{σ : St}{w:World}(d:Inv Γ σ w){m:Nat->Nat->Option Value}(c:Le Γ { Γ with mem:=m }){b:Nat}{y:AV}{u:Value}(f:∀ r∈rr y,b<=r->∀ R,σ.rw[r]?=some R->Qx { Γ with mem:=m } r R)(e:Rep Γ y u):Rep { Γ with mem:=m } (qiU b σ.rw y) u:=by
 cases y with
 | tup cs =>
   cases e with
   | tup _ us h g =>
     have:=qCw d c (pub:=qjS b σ.rw) (λ y u=>qFP d c) (by simpa[rr]using f) ⟨h,g⟩;exact .tup _ us this.len this.rep
 | _=>exact qFP d c f e
theorem filter_nil{p:Nat->Bool}{l:List Nat}(h:l.filter p=[]){i:Nat}(a:p i=true):i ∉ l := λ b=>by
 have:i∈l.filter p:=kJ.2 ⟨b,a⟩;rw[h]at this;cases this
theorem qI9{Γ Γ':Gh}{σ σ':St}{w w':World}{d:AV}{v:Value}(K:Inv Γ σ w)(W:Ext Γ w Γ' w')(a:Inv Γ' σ' w')(f:qX { σ with wr:=[],wrr:=[] } σ')(X:Rep Γ' d v) :
  (∃ A,Ext Γ w A w'/\Inv A (turn σ (qbM σ d σ').2) w'/\Rep A (qbM σ d σ').1 v)/\qX { σ with wr:=[],wrr:=[] } (turn { σ with wr:=[],wrr:=[] } (qbM σ d σ').2):=by
 have t:∀ i,i < σ.bx.length->i ∉ (σ'.wr.filter λ b=>decide (b < σ.bx.length))->i ∉ σ'.wr := λ i a o L=>o (kJ.2 ⟨L,by simpa using a⟩);have g:∀ i,i < σ.rw.length->i ∉ (σ'.wrr.filter λ b=>decide (b < σ.rw.length))->i ∉ σ'.wrr := λ i a o L=>o (kJ.2 ⟨L,by simpa using a⟩);unfold qbM;split
 ·refine⟨⟨Γ',W,a.wr rfl rfl,X⟩,⟨f.bl,f.rl,λ i a o=>f.bx i a (t i a o),λ i a o=>f.rw i a (g i a o),λ i h=>(by cases h),λ i h=>(by cases h)⟩⟩
 ·rename_i p;simp only[qpy,xI]at p;obtain⟨Q,aa⟩:=p;obtain⟨m,V,Z,Y⟩:=qdh ((rr d).filter λ r=>decide (σ.rw.length<=r)) a σ'.wrr;have F:Rep { Γ' with mem:=m } (qiU σ.rw.length σ'.rw d) v:=qNC a V.le (λ r C T R hR=>Y r (kJ.2 ⟨C,by simpa using T⟩) R hR) X;have H : σ.bx.length <= Γ'.nb:=by rw[a.nb];exact f.bl
  have G : σ.rw.length <= Γ'.nr:=by rw[a.nr];exact f.rl
  have I:=Z.cut (n := σ.bx.length) (m := σ.rw.length) H G (by
   intro i cs c s x M;have s : σ'.bx[i]?=some cs:=s;by_cases hw:i ∈ σ'.wr
   ·grind
   ·rw[f.bx i c hw]at s;obtain⟨vs,e,g1,g2,g3⟩:=K.box i cs s;obtain⟨j,hj⟩:=List.getElem?_of_mem M;obtain⟨u,hu,E⟩:=g2.get hj;have:=E.noRefs;rw[K.nb,K.nr]at this;exact this) [] []
  have B:(frz σ'.rw ((rr d).filter λ r=>decide (σ.rw.length<=r))).take σ.rw.length = σ'.rw.take σ.rw.length:=by
   apply xd;intro i;rw[List.getElem?_take,List.getElem?_take];split
   ·rename_i c;refine qom _ _ _ λ L=>?_;grind
   ·rfl
  have q:Inv { ({ Γ' with mem:=m }:Gh)with nb := σ.bx.length,nr := σ.rw.length } ⟨σ'.bx.take σ.bx.length,σ'.rw.take σ.rw.length,[],[]⟩ w':=by
   rw[<- B];exact I
  have l:=F.cut Q
  have z:Ext Γ w { ({ Γ' with mem:=m }:Gh)with nb := σ.bx.length,nr := σ.rw.length } w':=by
   have e1:=W.trans (qk7 V w');refine⟨⟨e1.le.mem,by rw[K.nb];exact wb _,e1.le.β,by rw[K.nr];exact wb _,e1.le.k,e1.le.ver,e1.le.loc⟩,e1.os,e1.tape,e1.output,e1.size,e1.block,?_,e1.memg,e1.drawn⟩;rintro b (⟨i,S,J⟩ | ⟨r,C,hz,J⟩)
   ·exact e1.own b (.inl ⟨i,wE S H,J⟩)
   ·exact e1.own b (.inr ⟨r,wE C G,hz,J⟩)
  split
  ·rename_i y;have P:(σ'.wr.filter λ b=>decide (b < σ.bx.length))=[]:=(wU.1 y).1;have O:(σ'.wrr.filter λ b=>decide (b < σ.rw.length))=[]:=(wU.1 y).2
   have J : σ'.bx.take σ.bx.length = σ.bx:=by
    apply xd;intro i;rw[List.getElem?_take];split
    ·rename_i c;exact f.bx i c (filter_nil P (by simpa using c))
    ·grind
   have N : σ'.rw.take σ.rw.length = σ.rw:=by
    apply xd;intro i;rw[List.getElem?_take];split
    ·rename_i c;exact f.rw i c (filter_nil O (by simpa using c))
    ·grind
   refine⟨⟨_,z,?_,l⟩,qX.refl _⟩;exact q.wr J.symm N.symm
  ·refine⟨⟨_,z,q.wr rfl rfl,l⟩,⟨?_,?_,λ i a o=>?_,λ i a o=>?_,λ i h=>(by cases h),λ i h=>(by cases h)⟩⟩
   ·show σ.bx.length<=(σ'.bx.take σ.bx.length).length;have:=f.bl;grind
   ·show σ.rw.length<=(σ'.rw.take σ.rw.length).length;have : σ.rw.length <= σ'.rw.length:=f.rl;rw[wm];omega
   ·show(σ'.bx.take σ.bx.length)[i]? = σ.bx[i]?;rw[List.getElem?_take,if_pos a];exact f.bx i a (t i a o)
   ·show(σ'.rw.take σ.rw.length)[i]? = σ.rw[i]?;rw[List.getElem?_take,if_pos a];exact f.rw i a (g i a o)
end Go.AmZ
namespace Go.AmZ
open Go Go.RowKit
theorem quA:∀{l:List Nat},nd l=true->l.Nodup
 | [],_=>kT
 | b::l,h=>by
   simp only[nd,wd,wV,vH]at h;exact kW.2 ⟨by simpa using h.1,quA h.2⟩
theorem qBt{l:List Nat}{b:Nat}(h:b∈l):l.getD (l.idxOf b) 0=b:=by
 grind
theorem qHD{l:List Nat}{b:Nat}(h:b∈l):l.idxOf b<l.length:=List.idxOf_lt_length_of_mem h
theorem qx3{l:List Nat}(a:l.Nodup){j b:Nat}(h:l[j]?=some b):l.idxOf b=j:=by
 grind
theorem qyP{l:List Nat}(a:l.Nodup){i j:Nat}(c:i<l.length)(b:j<l.length)(h:l[i]=l[j]):i=j:=by
 rw[<- qx3 a (List.getElem?_eq_getElem c),<- qx3 a (List.getElem?_eq_getElem b),h]
def fi(l:List Nat)(n i:Nat):Option Nat:=if i<n then(if i∈l then some (l.idxOf i)else none)else some (l.length+(i-n))
theorem qc5{l:List Nat}{n i:Nat}(h:fi l n i=none):i<n/\i ∉ l:=by
 grind [fi]
theorem qhL{l:List Nat}{n i j:Nat}(h:fi l n i=some j)(a:i<n):i∈l/\j=l.idxOf i/\j<l.length/\l.getD j 0=i:=by
 grind [fi]
theorem qI6{l:List Nat}{n i a j:Nat}(h:fi l n i=some j)(d:fi l n a=some j):i=a:=by
 by_cases c:i<n<;>by_cases b:a<n
 ·rw[<- (qhL h c).2.2.2,<- (qhL d b).2.2.2]
 ·grind [fi]
 ·grind [fi]
 ·grind [fi]
theorem qEu{l:List Nat}(a:l.Nodup){n:Nat}(c:∀ b∈l,b<n)(j:Nat):fi l n (zF l n j)=some j:=by
 grind [zF,fi]
theorem qEw{l:List Nat}{n e j:Nat}(a:∀ b∈l,b<n)(d:j<l.length+e):zF l n j<n+e:=by
 unfold zF;split
 ·rename_i b c;have:=a b (wa c);omega
 ·grind
theorem qpv{l:List Nat}{n b:Nat}(h:b∈l):zF l n (l.idxOf b)=b:=by
 grind [zF]
theorem qfh{α : Type}:∀(bs:List Nat) (l xs:List α),bs.length<=xs.length->(zU l bs xs).length=l.length+(xs.length-bs.length)
 | [],l,xs,_=>by simp[zU]
 | b::bs,l,[],h=>by simp at h
 | b::bs,l,x::xs,h=>by
   simp only[zU];rw[qfh bs _ xs (by simpa using h),wJ];simp
theorem qaW{α : Type}:∀(bs:List Nat) (l xs:List α) (i:Nat),bs.length<=xs.length->bs.Nodup->(∀ b∈bs,b<l.length)->(zU l bs xs)[i]?=match fi bs l.length i with
  | some j=>xs[j]?
  | none=>l[i]?
 | [],l,xs,i,_,_,_=>by
   simp only[zU,fi];rw[List.getElem?_append];split<;>simp_all
 | b::bs,l,[],i,h,_,_=>by simp at h
 | b::bs,l,x::xs,i,h,n,m=>by
   simp only[zU];obtain⟨g,f⟩:=kW.1 n;rw[qaW bs (l.set b x) xs i (by simpa using h) f (λ b' o=>by rw[wJ];exact m b' (wg _ o)),wJ];have k:=m b (wh ..);unfold fi;by_cases d:i<l.length
   ·rw[if_pos d,if_pos d];by_cases a:i=b
    ·subst a;rw[if_neg g,if_pos (wh ..)];simp[k]
    ·by_cases c:i∈bs
     ·rw[if_pos c,if_pos (wg _ c)];simp only;rw[List.idxOf_cons,show(b==i)=false by simpa using λ e=>a e.symm];rfl
     ·rw[if_neg c,if_neg (by simp[a,c])];simp only;rw[List.getElem?_set,if_neg λ e=>a e.symm]
   ·rw[if_neg d,if_neg d];simp only[wu];rw[show bs.length+1+(i-l.length)=(bs.length+(i-l.length))+1 by omega];rfl
def J5(Γ : Gh)(bs rs:List Nat):Gh :=
 { mem := Γ.mem,nb:=bs.length,β := λ i => Γ.β (bs.getD i 0),nr:=rs.length,ver := λ r => Γ.ver (rs.getD r 0),k := λ r => Γ.k (rs.getD r 0),cur := λ r => Γ.cur (rs.getD r 0),sz := λ r => Γ.sz (rs.getD r 0),of := λ r => Γ.of (rs.getD r 0) }
structure qfD (σ : St) (bs rs:List Nat):Prop where
 bn:bs.Nodup
 rn:rs.Nodup
 bl:∀ b∈bs,b < σ.bx.length
 rl:∀ r∈rs,r < σ.rw.length
 cb:∀ b∈bs,∀ x ∈ σ.bx.getD b [],(∀ b∈rb x,b∈bs)/\∀ r∈rr x,r∈rs
theorem yC{α : Type}{l:List α}{i:Nat}{x d : α}(h:l[i]?=some x):l.getD i d=x:=by rw[List.getD_eq_getElem?_getD,h];rfl
section
variable {Γ : Gh} {σ : St} {w:World} {bs rs:List Nat}
theorem qxa(d:qfD σ bs rs){x:AV}{u:Value}(h:Rep Γ x u)(c:∀ b∈rb x,b∈bs)(a:∀ r∈rr x,r∈rs):Rep (J5 Γ bs rs) (ren (λ b=>bs.idxOf b) (λ r=>rs.idxOf r) x) u :=
 qsM (Γ := Γ) (Γ':=J5 Γ bs rs) (λ _ _ _ h=>h) h (λ b h=>⟨qHD (c b h),by show Γ.β _=_;rw[qBt (c b h)]⟩) λ r h=>by
  have e:=qBt (a r h);refine⟨qHD (a r h),?_,?_,?_,?_,?_⟩
  ·show Γ.k _=_;rw[e]
  ·show Γ.ver _=_;rw[e]
  ·show Γ.cur _=_;rw[e]
  ·show Γ.sz _=_;rw[e]
  ·show Γ.of _=_;rw[e]
theorem qrS{b:Nat}(f:qfD σ bs rs)(g:Inv Γ σ w)(h:QG (J5 Γ bs rs) b):QG Γ b:=by
 rcases h with⟨i,a,e⟩ | ⟨r,c,j,e⟩
 ·have a:i<bs.length:=a;have d:bs.getD i 0∈bs:=by rw[yC (List.getElem?_eq_getElem a)];exact wW a
  exact .inl ⟨_,by rw[g.nb];exact f.bl _ d,e⟩
 ·have c:r<rs.length:=c;have d:rs.getD r 0∈rs:=by rw[yC (List.getElem?_eq_getElem c)];exact wW c
  exact .inr ⟨_,by rw[g.nr];exact f.rl _ d,j,e⟩
theorem qEF(g:qfD σ bs rs)(n:Inv Γ σ w):Inv (J5 Γ bs rs) (qN σ bs rs) w where
 nb:=by simp[J5,qN]
 nr:=by simp[J5,qN]
 mem:=n.mem
 box := λ i cs U=>by
  have f:(bs.map λ b=>zd (λ b=>bs.idxOf b) (λ r=>rs.idxOf r) (σ.bx.getD b []))[i]?=some cs:=U;rw[List.getElem?_map]at f;cases l:bs[i]? with
  | none=>rw[l]at f;cases f
  | some b =>
    rw[l]at f;simp only[kN,wz]at f;have J:=wa l;have H:=g.bl b J;have t : σ.bx[b]?=some (σ.bx.getD b []):=by rw[yC (List.getElem?_eq_getElem H)];exact List.getElem?_eq_getElem H
    obtain⟨vs,e,g1,K,g3⟩:=n.box b _ t;refine⟨vs,e,by show w.heap[Γ.β (bs.getD i 0)]?=_;rw[yC l];exact g1,?_,g3⟩;rw[<- f,qsK];refine⟨by simpa using K.len,λ j y u D Q=>?_⟩;rw[List.getElem?_map]at D;cases B:(σ.bx.getD b [])[j]? with
    | none=>rw[B]at D;cases D
    | some x =>
      rw[B]at D;cases D;have W:=g.cb b J x (wa B);exact qxa g (K.rep j x u B Q) W.1 W.2
 inj := λ i j a z h=>by
  have a:i<bs.length:=a;have z:j<bs.length:=z;have h : Γ.β (bs.getD i 0) = Γ.β (bs.getD j 0):=h;have e1:=yC (d:=0) (List.getElem?_eq_getElem a);have C:=yC (d:=0) (List.getElem?_eq_getElem z);rw[e1,C]at h;have:=n.inj _ _ (by rw[n.nb];exact g.bl _ (wW a)) (by rw[n.nb];exact g.bl _ (wW z)) h;exact qyP g.bn a z this
 boxmem := λ i a o=>by
  have a:i<bs.length:=a;have e1:=yC (d:=0) (List.getElem?_eq_getElem a);show Γ.mem (Γ.β (bs.getD i 0)) o=none;rw[e1];exact n.boxmem _ (by rw[n.nb];exact g.bl _ (wW a)) o
 row := λ r R Z=>by
  have m:(rs.map λ r => σ.rw.getD r ⟨0,[],0,0,false⟩)[r]?=some R:=Z;rw[List.getElem?_map]at m;cases l:rs[r]? with
  | none=>rw[l]at m;cases m
  | some q =>
    rw[l]at m;simp only[kN,wz]at m;have J:=wa l;have F:=g.rl q J;have t : σ.rw[q]?=some R:=by rw[<- m,yC (List.getElem?_eq_getElem F)];exact List.getElem?_eq_getElem F
    have G:rs.getD r 0=q:=yC l;obtain⟨k,N,pos,P,V,fz,K,g4,g5,g6,g8,g9⟩:=n.row q R t
    have I:∀{x:AV} {u:Value} {e:List AV},e∈R.c->x∈e->Rep Γ x u->Rep (J5 Γ bs rs) x u := λ T B p=>by
     obtain⟨e1,C,e3⟩:=qgZ (fb := λ b=>bs.idxOf b) (fr := λ r=>rs.idxOf r) (V _ T _ B);have:=qxa g p (by rw[C];exact λ b l=>(xt l).elim) (by rw[e3];exact λ b l=>(xt l).elim);rw[e1]at this;exact this
    have M:(J5 Γ bs rs).cur r = Γ.cur q:=by show Γ.cur _=_;rw[G]
    have es:(J5 Γ bs rs).sz r = Γ.sz q:=by show Γ.sz _=_;rw[G]
    have L:(J5 Γ bs rs).of r = Γ.of q:=by show Γ.of _=_;rw[G]
    refine⟨by rw[k];show _ = Γ.k _;rw[G],λ X=>by rw[N X];show _ = Γ.ver _;rw[G],pos,P,V,fz,by rw[M,es];exact K,by rw[es,L];exact g4,by rw[M,es,L];exact g5,λ i e j x a z=>?_,λ A i a=>?_,λ Y=>L.trans (g9 Y)⟩
    ·obtain⟨u,Q,p,h1⟩:=g6 i e j x a z;exact⟨u,by rw[M,L];exact Q,I (wa a) (wa z) p,h1⟩
    ·have a:i<bs.length:=a;have e1:=yC (d:=0) (List.getElem?_eq_getElem a);rw[es]at A;rw[M];show Γ.β (bs.getD i 0)≠_;rw[e1];exact g8 A _ (by rw[n.nb];exact g.bl _ (wW a))
 apart := λ r O E s S A v=>by
  have E:r<rs.length:=E;have s:O<rs.length:=s;have e1:=yC (d:=0) (List.getElem?_eq_getElem E);have C:=yC (d:=0) (List.getElem?_eq_getElem s);have A : Γ.sz (rs.getD r 0)≠0:=A;have v : Γ.sz (rs.getD O 0)≠0:=v;show Γ.cur (rs.getD r 0) ≠ Γ.cur (rs.getD O 0);rw[e1]at A;rw[C]at v;rw[e1,C];refine n.apart _ _ (by rw[n.nr];exact g.rl _ (wW E)) (by rw[n.nr];exact g.rl _ (wW s)) (λ T=>S (qyP g.rn E s T)) A v
def QU(Γ Γs:Gh)(bs rs:List Nat):Gh :=
 { mem := Γs.mem,nb := Γ.nb+(Γs.nb-bs.length),β := λ i=>match fi bs Γ.nb i with | some j => Γs.β j | none => Γ.β i,
   nr := Γ.nr+(Γs.nr-rs.length),ver := λ r=>match fi rs Γ.nr r with | some j => Γs.ver j | none => Γ.ver r,sz := λ r=>match fi rs Γ.nr r with | some j => Γs.sz j | none => Γ.sz r,
   k := λ r=>match fi rs Γ.nr r with | some j => Γs.k j | none => Γ.k r,cur := λ r=>match fi rs Γ.nr r with | some j => Γs.cur j | none => Γ.cur r,
   of := λ r=>match fi rs Γ.nr r with | some j => Γs.of j | none => Γ.of r }
variable {Γs:Gh} {σs:St} {w':World}
theorem qAK{l:List Nat}{n e i j:Nat}(h:fi l n i=some j)(a:i<n+e):j<l.length+e:=by
 grind [fi]
theorem qqf(c:qfD σ bs rs)(d:Inv Γ σ w)(g:Ext (J5 Γ bs rs) w Γs w'){x:AV}{u:Value}(h:Rep Γs x u):Rep (QU Γ Γs bs rs) (ren (zF bs Γ.nb) (zF rs Γ.nr) x) u:=by
 have m:bs.length <= Γs.nb:=g.le.nb;have l:rs.length <= Γs.nr:=g.le.nr;refine qsM (Γ := Γs) (Γ':=QU Γ Γs bs rs) (λ _ _ _ h=>h) h (λ b a=>?_) λ r i=>?_
 ·have f:=h.bound.1 b a;refine⟨qEw (λ b a=>by rw[d.nb];exact c.bl b a) (by omega),?_⟩;show(match fi bs Γ.nb (zF bs Γ.nb b)with | some j => Γs.β j | none => Γ.β _)=_;rw[qEu c.bn (λ b a=>by rw[d.nb];exact c.bl b a)]
 ·have f:=h.bound.2 r i;have e:=qEu c.rn (n := Γ.nr) (λ b a=>by rw[d.nr];exact c.rl b a) r;refine⟨qEw (λ b a=>by rw[d.nr];exact c.rl b a) (by omega),?_,?_,?_,?_,?_⟩
  ·show(match fi rs Γ.nr _ with | some j => Γs.k j | none => Γ.k _)=_;rw[e]
  ·show(match fi rs Γ.nr _ with | some j => Γs.ver j | none => Γ.ver _)=_;rw[e]
  ·show(match fi rs Γ.nr _ with | some j => Γs.cur j | none => Γ.cur _)=_;rw[e]
  ·show(match fi rs Γ.nr _ with | some j => Γs.sz j | none => Γ.sz _)=_;rw[e]
  ·show(match fi rs Γ.nr _ with | some j => Γs.of j | none => Γ.of _)=_;rw[e]
theorem qFD(n:qfD σ bs rs)(o:Inv Γ σ w)(d:Ext (J5 Γ bs rs) w Γs w'):Le Γ (QU Γ Γs bs rs):=by
 have f:∀ i,i < Γ.nb->(QU Γ Γs bs rs).β i = Γ.β i:=by
  intro i g;show(match fi bs Γ.nb i with | some j => Γs.β j | none => Γ.β i)=_;cases h:fi bs Γ.nb i with
  | none=>rfl
  | some j =>
    obtain⟨m,l,c,b⟩:=qhL h g;have:=d.le.β j c;simp only;rw[this];show Γ.β (bs.getD j 0)=_;rw[b]
 refine⟨d.le.mem,kF _ _,f,kF _ _,λ r e=>?_,λ r e=>?_,λ r e a=>?_⟩
 ·show(match fi rs Γ.nr r with | some j => Γs.k j | none => Γ.k r)=_;cases h:fi rs Γ.nr r with
  | none=>rfl
  | some j =>
    obtain⟨m,l,c,b⟩:=qhL h e;have:=d.le.k j c;simp only;rw[this];show Γ.k (rs.getD j 0)=_;rw[b]
 ·show _<=(match fi rs Γ.nr r with | some j => Γs.ver j | none => Γ.ver r);cases h:fi rs Γ.nr r with
  | none=>exact wb _
  | some j =>
    obtain⟨m,l,c,b⟩:=qhL h e;have : Γ.ver (rs.getD j 0) <= Γs.ver j:=d.le.ver j c;rw[b]at this;exact this
 ·have a:(match fi rs Γ.nr r with | some j => Γs.ver j | none => Γ.ver r) = Γ.ver r:=a;show(match fi rs Γ.nr r with | some j => Γs.cur j | none => Γ.cur r)=_/\(match fi rs Γ.nr r with | some j => Γs.sz j | none => Γ.sz r)=_/\(match fi rs Γ.nr r with | some j => Γs.of j | none => Γ.of r)=_;cases h:fi rs Γ.nr r with
  | none=>exact⟨rfl,rfl,rfl⟩
  | some j =>
    rw[h]at a;obtain⟨m,l,c,b⟩:=qhL h e;have:=d.le.loc j c (by show _ = Γ.ver (rs.getD j 0);rw[b];exact a);have : Γs.cur j = Γ.cur (rs.getD j 0) /\ Γs.sz j = Γ.sz (rs.getD j 0) /\ Γs.of j = Γ.of (rs.getD j 0):=this;rw[b]at this;exact this
theorem qlP(l:qfD σ bs rs)(g:Inv Γ σ w){i:Nat}(h:fi bs Γ.nb i=none):¬ QG (J5 Γ bs rs) (Γ.β i) /\ Γ.β i<w.heap.size:=by
 obtain⟨b,m⟩:=qc5 h;refine⟨?_,g.box_lt b⟩;rintro(⟨j,f,a⟩ | ⟨r,e,c,a⟩)
 ·have f:j<bs.length:=f;have e1:=yC (d:=0) (List.getElem?_eq_getElem f);have a : Γ.β (bs.getD j 0) = Γ.β i:=a;rw[e1]at a;have:=g.inj _ _ (by rw[g.nb];exact l.bl _ (wW f)) b a;grind
 ·have e:r<rs.length:=e;have e1:=yC (d:=0) (List.getElem?_eq_getElem e);have a : Γ.cur (rs.getD r 0) = Γ.β i:=a;rw[e1]at a;have k:=l.rl _ (wW e);have c : Γ.sz (rs.getD r 0)≠0:=c;rw[e1]at c;exact(g.row _ _ (List.getElem?_eq_getElem k)).nbx c i b a.symm
theorem qtL(n:qfD σ bs rs)(f:Inv Γ σ w){r:Nat}(h:fi rs Γ.nr r=none)(k : Γ.sz r≠0):¬ QG (J5 Γ bs rs) (Γ.cur r) /\ Γ.cur r<w.heap.size:=by
 obtain⟨c,m⟩:=qc5 h;have l:r < σ.rw.length:=by rw[<- f.nr];exact c
 refine⟨?_,f.cur_lt c k⟩;have o:=(f.row _ _ (List.getElem?_eq_getElem l)).nbx k;rintro(⟨j,i,b⟩ | ⟨q,g,a,b⟩)
 ·have i:j<bs.length:=i;have e1:=yC (d:=0) (List.getElem?_eq_getElem i);have b : Γ.β (bs.getD j 0) = Γ.cur r:=b;rw[e1]at b;exact o _ (by rw[f.nb];exact n.bl _ (wW i)) b
 ·have g:q<rs.length:=g;have e1:=yC (d:=0) (List.getElem?_eq_getElem g);have b : Γ.cur (rs.getD q 0) = Γ.cur r:=b;rw[e1]at b;have a : Γ.sz (rs.getD q 0)≠0:=a;rw[e1]at a;refine f.apart _ _ (by rw[f.nr];exact n.rl _ (wW g)) c (λ e=>m (e▸wW g)) a k b
theorem qi2(a:Ext (J5 Γ bs rs) w Γs w'){b b':Nat}(e:QG Γs b)(d:¬ QG (J5 Γ bs rs) b'/\b'<w.heap.size):b≠b' := λ c=>by
 rcases a.own b e with h | h
 ·exact d.1 (c▸h)
 ·omega
theorem qCX(t:qfD σ bs rs)(g:Inv Γ σ w)(B:Ext (J5 Γ bs rs) w Γs w')(v:Inv Γs σs w'):Inv (QU Γ Γs bs rs) (qhU σ bs rs σs) w':=by
 have ak:bs.length <= Γs.nb:=B.le.nb;have aj:rs.length <= Γs.nr:=B.le.nr;have Y:bs.length<=(σs.bx.map (zd (zF bs σ.bx.length) (zF rs σ.rw.length))).length:=by rw[wA,<- v.nb];exact ak
 have S:rs.length <= σs.rw.length:=by rw[<- v.nr];exact aj
 have ab:=qFD t g B;have G:∀ j,j < Γs.nb->QG Γs (Γs.β j) := λ j v => .inl ⟨j,v,rfl⟩;have F:∀ j,j < Γs.nr -> Γs.sz j≠0->QG Γs (Γs.cur j) := λ j v H => .inr ⟨j,v,H,rfl⟩
 have s:∀ i j,i<(QU Γ Γs bs rs).nb->fi bs Γ.nb i=some j->j < Γs.nb := λ i j l h=>by
  have:=qAK (e := Γs.nb-bs.length) h l;omega
 have E:∀ i j,i<(QU Γ Γs bs rs).nr->fi rs Γ.nr i=some j->j < Γs.nr := λ i j l h=>by
  have:=qAK (e := Γs.nr-rs.length) h l;omega
 have p:∀ i j,fi bs Γ.nb i=some j->(QU Γ Γs bs rs).β i = Γs.β j := λ i j h=>by
  show(match fi bs Γ.nb i with | some j => Γs.β j | none => Γ.β i)=_;rw[h]
 have z:∀ i,fi bs Γ.nb i=none->(QU Γ Γs bs rs).β i = Γ.β i := λ i h=>by
  show(match fi bs Γ.nb i with | some j => Γs.β j | none => Γ.β i)=_;rw[h]
 have cs':∀ i j,fi rs Γ.nr i=some j->(QU Γ Γs bs rs).cur i = Γs.cur j := λ i j h=>by
  show(match fi rs Γ.nr i with | some j => Γs.cur j | none => Γ.cur i)=_;rw[h]
 have U:∀ i,fi rs Γ.nr i=none->(QU Γ Γs bs rs).cur i = Γ.cur i := λ i h=>by
  show(match fi rs Γ.nr i with | some j => Γs.cur j | none => Γ.cur i)=_;rw[h]
 have D:∀ b,(¬ QG (J5 Γ bs rs) b/\b<w.heap.size)->w'.heap[b]?=w.heap[b]? := λ b Q=>B.block b Q.2 Q.1
 have C:∀ b o,(¬ QG (J5 Γ bs rs) b/\b<w.heap.size) -> Γ.mem b o=none -> Γs.mem b o=none := λ b o Q hm=>by
  cases h : Γs.mem b o with
  | none=>rfl
  | some u =>
    rcases B.memg b o u h with n | n | n
    ·have n : Γ.mem b o=some u:=n;rw[hm]at n;cases n
    ·exact absurd n Q.1
    ·omega
 refine⟨?_,?_,v.mem,?_,?_,?_,?_,?_⟩
 ·show Γ.nb+(Γs.nb-bs.length)=(zU _ _ _).length;rw[qfh _ _ _ Y,wA,g.nb,v.nb]
 ·show Γ.nr+(Γs.nr-rs.length)=(zU _ _ _).length;rw[qfh _ _ _ S,g.nr,v.nr]
 ·intro i cs d;have d:(zU σ.bx bs (σs.bx.map (zd (zF bs σ.bx.length) (zF rs σ.rw.length))))[i]?=some cs:=d;rw[qaW _ _ _ _ Y t.bn t.bl,<- g.nb,<- g.nr]at d;cases h:fi bs Γ.nb i with
  | some j =>
    rw[h]at d;simp only at d;rw[List.getElem?_map]at d;cases Q : σs.bx[j]? with
    | none=>rw[Q]at d;cases d
    | some ae =>
      rw[Q]at d;simp only[kN,wz]at d;obtain⟨vs,e,g1,W,g3⟩:=v.box j ae Q;refine⟨vs,e,by rw[p i j h];exact g1,?_,g3⟩;rw[<- d,qsK];refine⟨by simpa using W.len,λ q y u X hu=>?_⟩;rw[List.getElem?_map]at X;cases I:ae[q]? with
      | none=>rw[I]at X;cases X
      | some x =>
        rw[I]at X;cases X;exact qqf t g B (W.rep q x u I hu)
  | none =>
    rw[h]at d;simp only at d;obtain⟨vs,e,g1,W,g3⟩:=g.box i cs d;exact⟨vs,e,by rw[z i h,D _ (qlP t g h)];exact g1,W.mono ab,g3⟩
 ·intro i L n h2 m;cases h:fi bs Γ.nb i with
  | some j =>
    rw[p i j h]at m;cases a:fi bs Γ.nb L with
    | some f =>
      rw[p L f a]at m;have:=v.inj j f (s i j n h) (s L f h2 a) m;subst this;exact qI6 h a
    | none =>
      rw[z L a]at m;exact absurd m (qi2 B (G j (s i j n h)) (qlP t g a))
  | none =>
    rw[z i h]at m;cases a:fi bs Γ.nb L with
    | some f =>
      rw[p L f a]at m;exact absurd m.symm (qi2 B (G f (s L f h2 a)) (qlP t g h))
    | none =>
      rw[z L a]at m;exact g.inj i L (qc5 h).1 (qc5 a).1 m
 ·intro i n o;cases h:fi bs Γ.nb i with
  | some j=>rw[p i j h];exact v.boxmem j (s i j n h) o
  | none=>rw[z i h];exact C _ o (qlP t g h) (g.boxmem i (qc5 h).1 o)
 ·intro r R K;have K:(zU σ.rw rs σs.rw)[r]?=some R:=K
  have ah:r<(QU Γ Γs bs rs).nr:=by
   have:=getElem?_lt K;rw[qfh _ _ _ S,<- g.nr,<- v.nr]at this;exact this
  rw[qaW _ _ _ _ S t.rn t.rl,<- g.nr]at K;cases h:fi rs Γ.nr r with
  | some j =>
    rw[h]at K;simp only at K;obtain⟨k,af,pos,ag,pl,fz,W,g4,g5,g6,g8,g9⟩:=v.row j R K
    have ad:∀{x:AV} {u:Value} {e:List AV},e∈R.c->x∈e->Rep Γs x u->Rep (QU Γ Γs bs rs) x u := λ m I J=>by
     obtain⟨e1,e2,e3⟩:=qgZ (fb:=zF bs Γ.nb) (fr:=zF rs Γ.nr) (pl _ m _ I);have:=qqf t g B J;rw[e1]at this;exact this
    have ek:(QU Γ Γs bs rs).k r = Γs.k j:=by show(match fi rs Γ.nr r with | some j => Γs.k j | none => Γ.k r)=_;rw[h]
    have al:(QU Γ Γs bs rs).ver r = Γs.ver j:=by show(match fi rs Γ.nr r with | some j => Γs.ver j | none => Γ.ver r)=_;rw[h]
    have M:(QU Γ Γs bs rs).sz r = Γs.sz j:=by show(match fi rs Γ.nr r with | some j => Γs.sz j | none => Γ.sz r)=_;rw[h]
    have N:(QU Γ Γs bs rs).of r = Γs.of j:=by show(match fi rs Γ.nr r with | some j => Γs.of j | none => Γ.of r)=_;rw[h]
    have O:=cs' r j h;refine⟨k.trans ek.symm,λ hl=>(af hl).trans al.symm,pos,ag,pl,fz,by rw[O,M];exact W,by rw[M,N];exact g4,by rw[O,M,N];exact g5,λ i e f x l ac=>?_,λ H i l=>?_,λ hf=>N.trans (g9 hf)⟩
    ·obtain⟨u,hu,J,n⟩:=g6 i e f x l ac;exact⟨u,by rw[O,N];exact hu,ad (wa l) (wa ac) J,n⟩
    ·rw[M]at H;rw[O];cases a:fi bs Γ.nb i with
     | some f=>rw[p i f a];exact g8 H f (s i f l a)
     | none =>
       rw[z i a];intro m;exact qi2 B (F j (E r j ah h) H) (qlP t g a) m.symm
  | none =>
    rw[h]at K;simp only at K;have T:=qtL t g h;have Z:=(qc5 h).1;refine(g.row r R K).lift Z ab ?_ (λ H ob ai=>?_) (λ H off hm=>?_) λ H i l hn=>?_
    ·show(match fi rs Γ.nr r with | some j => Γs.ver j | none => Γ.ver r)=_;rw[h]
    ·rw[D _ (T H)];exact ai
    ·exact C _ off (T H) hm
    ·cases a:fi bs Γ.nb i with
     | some f =>
       rw[p i f a];exact qi2 B (G f (s i f l a)) (T H)
     | none =>
       have:=(qc5 a).1;omega
 ·intro r A n h2 aa V P
  have zs:∀ i j,fi rs Γ.nr i=some j->(QU Γ Γs bs rs).sz i = Γs.sz j := λ i j h=>by
   show(match fi rs Γ.nr i with | some j => Γs.sz j | none => Γ.sz i)=_;rw[h]
  have zn:∀ i,fi rs Γ.nr i=none->(QU Γ Γs bs rs).sz i = Γ.sz i := λ i h=>by
   show(match fi rs Γ.nr i with | some j => Γs.sz j | none => Γ.sz i)=_;rw[h]
  cases h:fi rs Γ.nr r with
  | some j =>
    rw[zs r j h]at V;rw[cs' r j h];cases a:fi rs Γ.nr A with
    | some f =>
      rw[zs A f a]at P;rw[cs' A f a];refine v.apart j f (E r j n h) (E A f h2 a) (λ m=>?_) V P;subst m;exact aa (qI6 h a)
    | none =>
      rw[zn A a]at P;rw[U A a];exact qi2 B (F j (E r j n h) V) (qtL t g a P)
  | none =>
    rw[zn r h]at V;rw[U r h];cases a:fi rs Γ.nr A with
    | some f =>
      rw[zs A f a]at P;rw[cs' A f a];exact λ m=>qi2 B (F f (E A f h2 a) P) (qtL t g h V) m.symm
    | none =>
      rw[zn A a]at P;rw[U A a];exact g.apart r A (qc5 h).1 (qc5 a).1 aa V P
theorem qDq(g:qfD σ bs rs)(k:Inv Γ σ w)(c:Ext (J5 Γ bs rs) w Γs w'):Ext Γ w (QU Γ Γs bs rs) w':=by
 have q:bs.length <= Γs.nb:=c.le.nb;have p:rs.length <= Γs.nr:=c.le.nr;refine⟨qFD g k c,c.os,c.tape,c.output,c.size,λ b m s=>c.block b m λ h=>s (qrS g k h),?_,λ b o u t=>?_,c.drawn⟩
 ·have f:∀ b,QG Γs b->QG Γ b\/w.heap.size<=b := λ b m=>(c.own b m).imp_left (qrS g k);rintro b (⟨i,l,a⟩ | ⟨r,n,d,a⟩)
  ·have a:(match fi bs Γ.nb i with | some j => Γs.β j | none => Γ.β i)=b:=a;cases h:fi bs Γ.nb i with
   | some j =>
     rw[h]at a;have:=qAK (e := Γs.nb-bs.length) h l;exact f b (.inl ⟨j,by omega,a⟩)
   | none=>rw[h]at a;exact .inl (.inl ⟨i,(qc5 h).1,a⟩)
  ·have a:(match fi rs Γ.nr r with | some j => Γs.cur j | none => Γ.cur r)=b:=a;have d:(match fi rs Γ.nr r with | some j => Γs.sz j | none => Γ.sz r)≠0:=d;cases h:fi rs Γ.nr r with
   | some j =>
     rw[h]at a d;have:=qAK (e := Γs.nr-rs.length) h n;exact f b (.inr ⟨j,by omega,d,a⟩)
   | none=>rw[h]at a d;exact .inl (.inr ⟨r,(qc5 h).1,d,a⟩)
 ·rcases c.memg b o u t with h | h | h
  ·exact .inl h
  ·exact .inr (.inl (qrS g k h))
  ·exact .inr (.inr h)
mutual
theorem qNm{fb fr e d:Nat->Nat}:∀ x:AV,(∀ b∈rb x,e (fb b)=b)->(∀ r∈rr x,d (fr r)=r)->ren e d (ren fb fr x)=x
 | .ptr b o,c,_=>by simp only[ren,c b (by simp[rb])]
 | .rs r lo n g f,_,a=>by simp only[ren,a r (by simp[rr])]
 | .rpt r i o g,_,a=>by simp only[ren,a r (by simp[rr])]
 | .fn f cs,c,a=>by simp only[ren,qjv cs (by simpa[rb]using c) (by simpa[rr]using a)]
 | .agg cs,c,a=>by simp only[ren,qjv cs (by simpa[rb]using c) (by simpa[rr]using a)]
 | .tup cs,c,a=>by simp only[ren,qjv cs (by simpa[rb]using c) (by simpa[rr]using a)]
 | .v _,_,_=>rfl
 | .dead,_,_=>rfl
 | .sl ..,_,_=>rfl
 | .ept ..,_,_=>rfl
theorem qjv{fb fr e d:Nat->Nat}:∀ cs:List AV,(∀ b∈rbL cs,e (fb b)=b)->(∀ r∈rrL cs,d (fr r)=r)->zd e d (zd fb fr cs)=cs
 | [],_,_=>rfl
 | x::cs,c,a=>by
   simp only[zd,qNm x (λ b h=>c b (by simp[rbL,h])) (λ r h=>a r (by simp[rrL,h])),qjv cs (λ b h=>c b (by simp[rbL,h])) (λ r h=>a r (by simp[rrL,h]))]
end
theorem qB1(c:qfD σ bs rs):(qhU σ bs rs (qN σ bs rs)).bx = σ.bx/\(qhU σ bs rs (qN σ bs rs)).rw = σ.rw:=by
 constructor
 ·apply xd;intro i;show(zU σ.bx bs ((qN σ bs rs).bx.map _))[i]?=_;rw[qaW _ _ _ _ (by simp[qN]) c.bn c.bl];cases h:fi bs σ.bx.length i with
  | none=>rfl
  | some j =>
    simp only;by_cases e:i < σ.bx.length
    ·obtain⟨l,o,n,m⟩:=qhL h e
     have k:bs[j]?=some i:=by
      grind
     simp only[qN,xi,List.getElem?_map,k,kN,Function.comp];rw[List.getElem?_eq_getElem e,yC (List.getElem?_eq_getElem e)];congr 1;have g:=c.cb i l;rw[yC (List.getElem?_eq_getElem e)]at g;refine qjv _ (λ b a=>?_) λ r d=>?_
     ·rw[qrn]at a;obtain⟨x,f,a⟩:=ka.1 a;exact qpv ((g x f).1 b a)
     ·rw[qoX]at d;obtain⟨x,f,d⟩:=ka.1 d;exact qpv ((g x f).2 r d)
    ·grind [fi,qN]
 ·apply xd;intro i;show(zU σ.rw rs (qN σ bs rs).rw)[i]?=_;rw[qaW _ _ _ _ (by simp[qN]) c.rn c.rl];grind [qN,fi]
theorem qHr(a:qfD σ bs rs)(g:qX (qN σ bs rs) σs):qX σ (qhU σ bs rs σs):=by
 have f:(qN σ bs rs).bx.length=bs.length:=by simp[qN]
 have e:(qN σ bs rs).rw.length=rs.length:=by simp[qN]
 have d:bs.length<=(σs.bx.map (zd (zF bs σ.bx.length) (zF rs σ.rw.length))).length:=by rw[wA,<- f];exact g.bl
 have c:rs.length <= σs.rw.length:=by rw[<- e];exact g.rl
 obtain⟨e1,r⟩:=qB1 a;refine⟨?_,?_,λ i m k=>?_,λ i m k=>?_,λ i h=>xX _ h,λ i h=>xX _ h⟩
 ·show _<=(zU _ _ _).length;rw[qfh _ _ _ d];omega
 ·show _<=(zU _ _ _).length;rw[qfh _ _ _ c];omega
 ·have b:i ∉ σs.wr.map (zF bs σ.bx.length) := λ h=>k (vd _ h);rw[<- e1];show(zU _ _ _)[i]?=(zU _ _ _)[i]?;rw[qaW _ _ _ _ d a.bn a.bl,qaW _ _ _ _ (by simp[qN]) a.bn a.bl];cases h:fi bs σ.bx.length i with
  | none=>rfl
  | some j =>
    simp only[List.getElem?_map];obtain⟨p,o,n,q⟩:=qhL h m;rw[g.bx j (by rw[f];exact n) λ l=>b (wy.2 ⟨j,l,by rw[o];exact qpv p⟩)]
 ·have b:i ∉ σs.wrr.map (zF rs σ.rw.length) := λ h=>k (vd _ h);rw[<- r];show(zU _ _ _)[i]?=(zU _ _ _)[i]?;rw[qaW _ _ _ _ c a.rn a.rl,qaW _ _ _ _ (by simp[qN]) a.rn a.rl];cases h:fi rs σ.rw.length i with
  | none=>rfl
  | some j =>
    simp only;obtain⟨p,o,n,q⟩:=qhL h m;rw[g.rw j (by rw[e];exact n) λ l=>b (wy.2 ⟨j,l,by rw[o];exact qpv p⟩)]
theorem qHI{a:List AV}(h:qjg σ a=true):qfD σ (Q7 σ a) (qcP σ a)/\(∀ b∈rbL a,b∈Q7 σ a)/\∀ r∈rrL a,r∈qcP σ a:=by
 simp only[qjg,wd,wv,decide_eq_true_eq,vH]at h;obtain⟨⟨⟨⟨⟨m,l⟩,k⟩,j⟩,e⟩,i⟩:=h;refine⟨⟨quA m,quA l,λ b c=>(e b c).1.1,i,λ b c x f=>⟨λ b' d=>?_,λ r g=>?_⟩⟩,k,j⟩
 ·refine(e b c).1.2 b' ?_;rw[qrn];exact ka.2 ⟨x,f,d⟩
 ·refine(e b c).2 r ?_;rw[qoX];exact ka.2 ⟨x,f,g⟩
end
end Go.AmZ
namespace Go.AmZ
open Go Go.RowKit
section
variable {σ : St}
theorem qBv(l:List (List AV)):qX σ { σ with bx := σ.bx++l } :=
 ⟨by simp,wb _,λ i a _=>List.getElem?_append_left a,λ _ _ _=>rfl,λ _ h=>h,λ _ h=>h⟩
theorem qIL(b:Nat)(cs:List AV):qX σ { σ with bx := σ.bx.set b cs,wr:=b :: σ.wr } :=
 ⟨by simp,wb _,λ i c a=>List.getElem?_set_ne λ e=>a (by simp[e]),λ _ _ _=>rfl,λ _ h=>wg _ h,λ _ h=>h⟩
theorem qrh(a:List Nat):qX σ { σ with rw:=frz σ.rw a,wrr:=a ++ σ.wrr } :=
 ⟨wb _,by simp[qE0],λ _ _ _=>rfl,λ i c b=>qom _ _ _ λ h=>b (vd _ h),λ _ h=>h,λ _ h=>xX _ h⟩
theorem qtH(l:List Row):qX σ { σ with rw := σ.rw++l } :=
 ⟨wb _,by simp,λ _ _ _=>rfl,λ i a _=>List.getElem?_append_left a,λ _ h=>h,λ _ h=>h⟩
theorem qr2(r:Nat)(R:Row):qX σ { σ with rw := σ.rw.set r R,wrr:=r :: σ.wrr } :=
 ⟨wb _,by simp,λ _ _ _=>rfl,λ i b a=>List.getElem?_set_ne λ e=>a (by simp[e]),λ _ h=>h,λ _ h=>wg _ h⟩
end
theorem qGy {C:Cfg} {tm:List AV} {σ : St} {op:Op} {x:AV} {σ':Option St} (h:qc C tm σ op=some (x,σ')):qX σ (turn σ σ'):=by
 cases σ' with
 | none=>exact .refl σ
 | some σ' =>
   show qX σ σ';cases op with
   | alloc e =>
     simp only [qc] at h;split at h<;>try cases h
     split at h<;>cases h;exact qBv _
   | box e y =>
     simp only [qc] at h;split at h<;>try cases h
     split at h<;>cases h;exact qBv _
   | store t a y =>
     simp only [qc] at h;split at h<;>try cases h
     ·split at h<;>try cases h
      split at h<;>cases h;exact qIL _ _
     ·split at h<;>try cases h
      split at h<;>cases h;exact qr2 _ _
   | convert s t y =>
     simp only [qc] at h;split at h<;>try cases h
     ·split at h<;>cases h;exact qtH _
     ·grind
   | makeSlice t a y =>
     simp only [qc] at h;split at h<;>try cases h
     split at h<;>try cases h
     split at h<;>cases h;exact qtH _
   | buildSlice t n ps =>
     simp only [qc] at h;split at h<;>try cases h
     split at h<;>try cases h
     split at h<;>cases h;exact qrh _
   | slice t y lo hi m =>
     cases m with
     | some m=>simp [qc] at h
     | none =>
       simp only [qc] at h
       repeat' (first | (cases h;done) | (cases h;exact qr2 _ _) | split at h)
   | makeFunc f fs cs =>
     cases f<;>simp only [qc] at h<;>(repeat' (first | (cases h;done) | split at h))
   | _ =>
     simp only [qc] at h;grind
theorem qrW{k bytes:Nat}{σ : St}{s:AV}{xs:List (List AV)}{x:AV}{σ':Option St}(h:yc k bytes σ s xs=some (x,σ')):qX σ (turn σ σ'):=by
 unfold yc at h
 repeat' (first | (cases h;done) | (cases h;first | exact .refl _ | exact qtH _ | exact qr2 _ _) | split at h)
def qOk(P:Program)(Γ : Gh)(σ : St)(w:World)(o:Oper)(a:Act)(x:AV)(σ':Option St):Prop :=
 ∀ next Q,(∀ u w' Γ',Ext Γ w Γ' w'->Inv Γ' (turn σ σ') w'->Rep Γ' x u->qX σ (turn σ σ')->next (a.put o.dst u) w')->o.wp P a w next Q
theorem JQ.wp{P:Program}{Γ : Gh}{σ : St}{w:World}{o:Oper}{a:Act}{x:AV}{σ':Option St}(h:JQ P Γ σ w o a.eval x σ')(c:qX σ (turn σ σ')):qOk P Γ σ w o a x σ':=by
 obtain⟨j,u,w',Γ',i,g,f,e,d⟩:=h;intro next Q b
 unfold Oper.wp;rw[i];rcases g with rfl | ⟨rfl,rfl⟩
 ·exact b _ _ _ f e d c
 ·exact b _ _ _ f e d c
section
variable {P:Program} {C:Cfg} {Γ : Gh} {σ : St} {w:World} {o:Oper} {tm:List AV} {ρ : Operand->Value} {x:AV} {σ':Option St}
theorem qPv(l:∀ t d,C.ty t=some d->jD P t=some d)(k:Inv Γ σ w)(g:∀ y,Rep Γ (aev tm y) (ρ y))(h:qc C tm σ o.op=some (x,σ')):JQ P Γ σ w o ρ x σ':=by
 cases j:o.op with
 | move y=>rw[j]at h;simp only[qc,wz,wR]at h;obtain⟨rfl,rfl⟩:=h;exact qEt k g y (.inl j)
 | assign y=>rw[j]at h;simp only[qc,wz,wR]at h;obtain⟨rfl,rfl⟩:=h;exact qEt k g y (.inr j)
 | pick c a b=>exact qNz k g c a b j h
 | alloc e=>exact qLG l k e j h
 | box e y=>exact qO8 k g e y j h
 | build t ps=>exact qKg l k g t ps j h
 | buildSlice t n ps=>exact qAa l k g t n ps j h
 | load t y=>exact qMT l k g t y j h
 | store t y z=>exact qLY l k g t y z j h
 | nilCheck y=>exact qN3 k g y j h
 | binOp op t y z q=>exact qOa l k g op t y z q j h
 | unOp op t y=>exact qPt k g op t y j h
 | convert s t y=>exact qNB l k g s t y j h
 | makeFunc f r cs=>exact qPD k g f r cs j h
 | slice t y lo p m =>
   exact qJH l k g t y lo p m j h
 | fieldAddr t y i=>exact qBf l k g t y i j h
 | field t y i=>exact qLm l k g t y i j h
 | indexAddr t y i=>exact qB9 l k g t y i j h
 | index t y i=>exact qKd l k g t y i j h
 | extract y i=>exact qGw k g y i j h
 | makeSlice t y z=>exact qMH l k g t y z j h
 | _=>rw[j]at h;simp only[qc]at h;cases h
theorem qF9{k:TK}(h:qmp k=true):k = .string:=by cases k<;>first | rfl | (simp[qmp]at h)
theorem qIK{k:TK}(h:qbL k=true):∃ e s b z,k = .slice e s b z:=by
 cases k<;>first | exact⟨_,_,_,_,rfl⟩ | (simp[qbL]at h)
theorem qOc{d:TD}{t ty:TypeId}{ts:Array TypeId}(E:ts[0]?=some t)(I:jD P t=some d){y:AV}{u:Value}(x:Rep Γ y u){n:Nat}(h:qiz d y=some n):(Builtin.len_ ts ty #[u]).run P w = .ok (.int .i64 n) w:=by
 obtain⟨i,l,z,R,C,Q,O,N,M,L,B⟩:=waC I;have p:qmp d.k=true->l = .string := λ h=>qg4 (by rw[B,qF9 h])
 have sl:qbL d.k=true->∃ e,l = .slice e := λ h=>by
  obtain⟨e,s,b,z,D⟩:=qIK h;exact⟨e,(qbh (by rw[B,D])).1⟩
 have q:∀ e,l = .slice e->∀ a m c,u = .slice a m c->(Builtin.len_ ts ty #[u]).run P w = .ok (.int .i64 m) w:=by
  intro e A a m c F;subst F;simp[Builtin.len_,E,underlying,C,A,goInt]
 cases x with
 | v y S =>
   simp only[qiz]at h;split at h
   ·rename_i s j;cases j;split at h<;>cases h;rename_i g;simp[Builtin.len_,E,underlying,C,p g,goInt,qpf]
   ·grind
   ·rename_i j;cases j
   ·rename_i j;cases j
   ·cases h
 | sl k es f a m cap b o us G J H D T K W U x =>
   simp only[qiz]at h;split at h<;>cases h;rename_i g;obtain⟨e,A⟩:=sl g;rw[q e A _ _ _ rfl,G];rfl
 | rs r lo m X f a cap x J H V =>
   grind [qiz]
 | _=>simp only[qiz]at h;cases h
theorem qPx(G:∀ t d,C.ty t=some d->jD P t=some d)(q:Inv Γ σ w){b:Builtin}{ts:Array TypeId}{ty:TypeId}{cs:Array Bool}{l:List AV}{i:List Value}(D:RepL Γ l i)(h:jF C σ b ts l=some (x,σ')) :
  (∃ v w' Γ',(builtin b ts ty cs i.toArray).run P w = .ok (.value v) w'/\Ext Γ w Γ' w'/\Inv Γ' (turn σ σ') w'/\Rep Γ' x v)/\qX σ (turn σ σ'):=by
 unfold jF at h;split at h
 ·rename_i y;obtain⟨u,r,rfl,j,f⟩:=D.uncons;rw[f.nil_inv];split at h<;>try cases h
  rename_i t B;split at h<;>try cases h
  rename_i d A;split at h<;>cases h;rename_i n O;exact⟨⟨_,w,Γ,by simp[builtin,Sem.run_bind',qOc B (G t d A) j O],.refl _ _,q,.v _ rfl⟩,.refl _⟩
 ·rename_i s y;obtain⟨u,r,rfl,o,f⟩:=D.uncons;obtain⟨K,L,rfl,j,c⟩:=f.uncons;rw[c.nil_inv];split at h<;>try cases h
  rename_i t S B p;split at h<;>try (cases h;done)
  ·rename_i q1 Z Y X e k Q z W V U T e' M b' R A m;split at h<;>try cases h
   rename_i g;simp only[wd,decide_eq_true_eq]at g;split at h<;>try cases h
   rename_i xs F;split at h<;>try cases h
   rename_i N;obtain⟨v,w',Γ',J,I,g3,H⟩:=qzl (ty:=ty) G q o j B p A m g.1 g.2 F N h;refine⟨⟨v,w',Γ',by simp[builtin,Sem.run_bind',J],I,g3,H⟩,?_⟩;exact qrW h
  ·rename_i A m;split at h<;>try (cases h;done)
   rename_i b g;simp only[wd,decide_eq_true_eq]at g;have E:=zo j;subst E;obtain⟨v,w',Γ',J,I,g3,H⟩:=qAB (ty:=ty) G q o B p A m g.1 h;refine⟨⟨v,w',Γ',by simp[builtin,Sem.run_bind',J],I,g3,H⟩,?_⟩;exact qrW h
 ·rename_i k a M b;obtain⟨u,r,rfl,o,f⟩:=D.uncons;obtain⟨K,L,rfl,j,c⟩:=f.uncons;rw[c.nil_inv,zo o,zo j];split at h<;>cases h;rename_i g;have g:=of_decide_eq_true g;subst g;exact⟨⟨_,w,Γ,by simp[builtin,Sem.run_bind',Builtin.max_,Builtin.max2,qnZ],.refl _ _,q,.v _ rfl⟩,.refl _⟩
 ·rename_i k a M b;obtain⟨u,r,rfl,o,f⟩:=D.uncons;obtain⟨K,L,rfl,j,c⟩:=f.uncons;rw[c.nil_inv,zo o,zo j];split at h<;>cases h;rename_i g;have g:=of_decide_eq_true g;subst g;exact⟨⟨_,w,Γ,by simp[builtin,Sem.run_bind',Builtin.min_,Builtin.min2,qJU],.refl _ _,q,.v _ rfl⟩,.refl _⟩
 ·cases h
end
end Go.AmZ
namespace Go.AmZ
open Go Go.RowKit
def Js(P:Program)(Γ : Gh)(σ : St)(w:World)(f:FuncId)(a:List Value)(r:AV × Option St):Prop :=
 Calls P f a.toArray w λ e w'=>∃ v Γ',e = .returned v/\Ext Γ w Γ' w'/\Inv Γ' (turn σ r.2) w'/\Rep Γ' r.1 v/\qX { σ with wr:=[],wrr:=[] } (turn { σ with wr:=[],wrr:=[] } r.2)
def qgJ(P:Program)(f:FuncId):Prop:=∃ fn,P.funcs[f]?=some fn/\fn.body.isNone=false/\(fn.name == "runtime.NumGoroutine")=false
def qZ(P:Program)(f:FuncId)(p:St->List AV->Option (AV × Option St)):Prop :=
 qgJ P f/\∀ Γ σ w b a r,Inv Γ σ w->RepL Γ b a->p σ b=some r->Js P Γ σ w f a r
structure yv (P:Program) (C:Cfg):Prop where
 mixed:P.follows .mixedOrders=true
 ty:∀ t d,C.ty t=some d->jD P t=some d
 fn:∀ f fn,C.fn f=some fn->P.funcs[f]?=some fn/\(fn.name == "runtime.NumGoroutine")=false/\∀ c,fn.body=some c->Qs c=true
 prim:∀ f p,C.prim f=some p->qZ P f p
theorem qiP{P:Program}{f:FuncId}(h:qgJ P f)(a:Array Value)(w:World):(callFunc f a).run P w = .ok (.enter f a) w:=by
 obtain⟨fn,e,d,c⟩:=h;have b:(program).run P w = .ok P w:=rfl;unfold callFunc;simp only[Sem.run_bind,b,Result.andThen_ok,e,c,d,vR,if_false];rfl
abbrev zx(Γ : Gh)(tm:List AV)(a:Act):Prop:=RepL Γ tm a.tmps.toList
theorem zx.get{Γ : Gh}{tm:List AV}{a:Act}(h:zx Γ tm a)(t:Nat):Rep Γ (tm.getD t .dead) (a.tmps.getD t undef):=by
 rw[List.getD_eq_getElem?_getD];cases c:tm[t]? with
 | none=>exact .dead _
 | some x =>
   obtain⟨u,b,d⟩:=RepL.get h c
   have:a.tmps.getD t undef=u:=by
    rw[Array.getElem?_toList]at b;simp[wK,b]
   rw[this];exact d
theorem qMu(Γ : Gh)(y:Value):Rep Γ (ofC y) y:=by
 unfold ofC;split
 ·rename_i h;exact .v y h
 ·exact .dead _
theorem qDK(Γ : Gh)(y:Value):Rep Γ (qss y) y:=by
 unfold qss;split
 ·rename_i cs;split
  ·rename_i h;obtain⟨a,b⟩:=qg3 (Γ := Γ) h;have:=Rep.agg (Γ := Γ) (cs.toList.map .v) cs.toList a.len b a.rep;simpa using this
  ·exact .dead _
 ·rename_i vs;split
  ·rename_i h;have:vs = #[]:=by rw[<- vJ (xs:=vs),h]
   subst this;exact .tup [] [] rfl λ i x u h=>by simp at h
  ·exact .dead _
 ·exact qMu Γ _
theorem zx.ev{Γ : Gh}{tm:List AV}{a:Act}(h:zx Γ tm a)(y:Operand):Rep Γ (aev tm y) (a.eval y):=by
 cases y with
 | tmp t=>exact h.get t
 | const x=>exact qDK Γ x
 | func f=>exact .fn f [] [] rfl λ i x u h=>by simp at h
 | global g=>exact .dead _
theorem zx.put{Γ : Gh}{tm:List AV}{a:Act}(h:zx Γ tm a)(d:Option Tmp){x:AV}{u:Value}(b:Rep Γ x u):zx Γ (qcm tm d x) (a.put d u):=by
 cases d with
 | none=>exact h
 | some d =>
   show RepL Γ (tm.set d x) (a.tmps.setIfInBounds d u).toList;rw[xq];exact RepL.set h d b
section
variable {P:Program} {C:Cfg} {Γ : Gh} {σ : St} {w:World}
theorem qpC(G:∀ t d,C.ty t=some d->jD P t=some d)(E:Inv Γ σ w){fn:Func}{tm:List AV}{a:Act}(o:zx Γ tm a){r:AV}(h:qi0 C fn ⟨tm,σ⟩=some r):∃ v,(results fn a.tmps).run P w = .ok v w/\Rep Γ r v:=by
 have j:∀(c:List ResultVar) (l:List AV),jW C tm σ c=some l->∃ vs:List Value,(c.mapM (λ(x:ResultVar)=>(match x with
   | .tmp t=>pure (a.tmps.getD t undef)
   | .cell b t=>do loadVar t (<- asAddr (a.tmps.getD b undef)):Sem Value))).run P w = .ok vs w/\RepL Γ l vs:=by
  intro c
  induction c with
  | nil=>intro l h;simp only[jW,wz]at h;subst h;exact⟨[],by simp,.nil⟩
  | cons x c B =>
    intro l h;simp only[jW]at h;split at h<;>try cases h
    rename_i y e;split at h<;>cases h;rename_i ys k;obtain⟨vs,n,f⟩:=B ys k;have i:∃ v,(match x with
    | .tmp t=>pure (a.tmps.getD t undef)
    | .cell b t=>do loadVar t (<- asAddr (a.tmps.getD b undef)):Sem Value).run P w = .ok v w/\Rep Γ y v:=by
      cases x with
      | tmp t=>simp only[qlc,wz]at e;subst e;exact⟨_,rfl,o.get t⟩
      | cell b t =>
        simp only[qlc]at e;split at e<;>try cases e
        rename_i d F;obtain⟨v,A,z,s,q⟩:=qFw E (G t d F) (o.get b) e;refine⟨v,?_,q⟩;simp[Sem.run_bind',z,asAddr,s]
    obtain⟨v,e1,J⟩:=i;refine⟨v::vs,?_,.cons J f⟩;rw[List.mapM_cons];simp only[Sem.run_bind,e1,Result.andThen_ok,n];rfl
 simp only[qi0]at h;split at h<;>cases h;rename_i l g;obtain⟨vs,n,f⟩:=j _ _ g;unfold results;rw[Array.mapM_eq_mapM_toList]
 have D:(List.toArray <$> (fn.results.toList.mapM (λ(x:ResultVar)=>(match x with
   | .tmp t=>pure (a.tmps.getD t undef)
   | .cell b t=>do loadVar t (<- asAddr (a.tmps.getD b undef)):Sem Value)))).run P w = .ok vs.toArray w:=by
  rw[Sem.run_map,n];rfl
 refine⟨if h:vs.toArray.size=1 then vs.toArray[0]else .tuple vs.toArray,?_,?_⟩
 ·rw[Sem.run_bind];exact(congrArg (λ r=>Result.andThen r _) D).trans rfl
 ·unfold zZ;split
  ·rename_i y;obtain⟨u,c,rfl,I,H⟩:=f.uncons;rw[H.nil_inv];simpa using I
  ·rename_i m
   have:vs.toArray.size≠1:=by
    intro p;have g:=f.len;simp only[km]at p;rw[p]at g
    match l,g with
    | [y],_=>exact m y rfl
   rw[dif_neg this];exact .tup _ _ f.len f.rep
def Ex.toExit:Ex->Exit
 | .normal => .normal
 | .exit id => .exit id
 | .ret => .ret
def qdS(P:Program)(ex:Jc):Prop :=
 ∀ c s e b,Qs c=true->ex c s=some (e,b)->∀ Γ w a,Inv Γ s.σ w->zx Γ s.tm a->a.defers=[] ->
  c.wp P (λ f d w'=>f=e.toExit/\d.defers=[]/\∃ Γ',Ext Γ w Γ' w'/\Inv Γ' b.σ w'/\zx Γ' b.tm d/\qX s.σ b.σ) a w
theorem qgf(Γ : Gh):∀ n:Nat,RepL Γ (List.replicate n .dead) (List.replicate n undef)
 | 0 => .nil
 | n+1 => .cons (.dead _) (qgf Γ n)
theorem qDB(d:yv P C){ex:Jc}{f:FuncId}{a:List AV}{r:AV × Option St}(h:qeo C ex σ f a=some r):qgJ P f:=by
 unfold qeo at h;split at h
 ·rename_i p e;exact(d.prim f p e).1
 ·split at h<;>try cases h
  rename_i fn b;split at h<;>try cases h
  rename_i c g;obtain⟨j,i,_⟩:=d.fn f fn b;exact⟨fn,j,by rw[g];rfl,i⟩
theorem qBN(t:yv P C){ex:Jc}(E:qdS P ex){f:FuncId}{b:List AV}{a:List Value}{r:AV × Option St}(o:Inv Γ σ w)(l:RepL Γ b a)(h:qeo C ex σ f b=some r):Js P Γ σ w f a r:=by
 unfold qeo at h;split at h
 ·rename_i p G;exact(t.prim f p G).2 Γ σ w b a r o l h
 ·split at h<;>try cases h
  rename_i fn q;split at h<;>try cases h
  rename_i c x;obtain⟨K,N,J⟩:=t.fn f fn q
  have O:∀ e d,ex c (qh9 fn σ b)=some (e,d)->(e = .ret\/e = .normal)->qjq C fn σ d=some r->Js P Γ σ w f a r:=by
   intro e d H s m;unfold Js;refine calls_of_wp K x ?_;have n:Inv Γ (qh9 fn σ b).σ w:=o.wr rfl rfl
   have F:zx Γ (qh9 fn σ b).tm { tmps:=a.toArray++Array.replicate (fn.ntmps-a.toArray.size) undef,defers:=[] }:=by
    show RepL Γ (b++List.replicate (fn.ntmps-b.length) .dead) (a.toArray++Array.replicate (fn.ntmps-a.toArray.size) undef).toList;rw[xn,xp];have:a.toArray.size=b.length:=by simpa using l.len
    rw[this];exact l.append (qgf Γ _)
   refine wp_mono (E c _ e d (J c x) H Γ w _ n F rfl) ?_;rintro Q z w' ⟨rfl,I,Γ',M,y,g3,L⟩;unfold qjq at m;split at m<;>cases m;rename_i j k;obtain⟨v,D,B⟩:=qpC t.ty y g3 k;obtain⟨⟨i,u1,u2,u3⟩,u4⟩:=qI9 o M y L B
   have:z.defers=[]/\∃ v,(results fn z.tmps).run P w' = .ok v w'/\∃ g Γ',Ending.returned v = .returned g/\Ext Γ w Γ' w'/\Inv Γ' (turn σ (qbM σ j d.σ).2) w'/\Rep Γ' (qbM σ j d.σ).1 g/\qX { σ with wr:=[],wrr:=[] } (turn { σ with wr:=[],wrr:=[] } (qbM σ j d.σ).2) :=
    ⟨I,v,D,v,i,rfl,u1,u2,u3,u4⟩
   rcases s with rfl | rfl
   ·exact this
   ·exact this
  grind
def qoD(P:Program)(Γ : Gh)(σ : St)(w:World)(f:FuncId)(a:List Value)(r:AV × Option St):Prop :=
 Calls P f a.toArray w λ e w'=>∃ v Γ',e = .returned v/\Ext Γ w Γ' w'/\Inv Γ' (turn σ r.2) w'/\Rep Γ' r.1 v/\qX σ (turn σ r.2)
theorem quS{f e:List Nat}(g:qfD σ f e):∀{a:List AV} {c:List Value},RepL Γ a c->(∀ b∈rbL a,b∈f)->(∀ r∈rrL a,r∈e)->RepL (J5 Γ f e) (zd (λ b=>f.idxOf b) (λ r=>e.idxOf r) a) c
 | [],c,h,_,_=>by rw[h.nil_inv];exact .nil
 | x::a,c,h,j,i=>by
   obtain⟨u,us,rfl,l,k⟩:=h.uncons;exact .cons (qxa g l (λ b d=>j b (by simp[rbL,d])) λ r d=>i r (by simp[rrL,d])) (quS g k (λ b d=>j b (by simp[rbL,d])) λ r d=>i r (by simp[rrL,d]))
theorem qp6{f:FuncId}{a:List AV}{c:List Value}{i:St->List AV->Option (AV × Option St)}(z:∀ Γ σ a r,Inv Γ σ w->RepL Γ a c->i σ a=some r->Js P Γ σ w f c r)
  {r:AV × Option St} (g:Inv Γ σ w) (x:RepL Γ a c) (h:qal σ a i=some r):qoD P Γ σ w f c r:=by
 unfold qal at h;split at h<;>try cases h
 rename_i m;obtain⟨d,o,n⟩:=qHI m;split at h<;>cases h;rename_i r j;refine(z _ _ _ _ (qEF d g) (quS d x o n) j).mono ?_;rintro e w' ⟨v,t,q,k,p,l,y⟩;have b:=qqf d g k l;rw[g.nb,g.nr]at b;obtain⟨B,u⟩:=r;cases u with
 | none =>
   refine⟨v,_,q,qDq d g k,?_,b,.refl _⟩;have o:=qCX d g k p;obtain⟨e1,A⟩:=qB1 d;exact o.wr e1.symm A.symm
 | some s=>exact⟨v,_,q,qDq d g k,qCX d g k p,b,qHr d y⟩
theorem qoD.after{f:FuncId}{a:List Value}{b:Gh}{σ1:St}{r:AV × Option St}(h:qoD P b σ1 w f a r)(c:Ext Γ w b w)(d:qX σ σ1):qoD P Γ σ w f a (match r with | (x,none)=>(x,some σ1) | r=>r):=by
 refine Calls.mono h ?_;rintro e w' ⟨v,Γ',g,l,k,j,i⟩;obtain⟨o,n⟩:=r;cases n with
 | none=>exact⟨v,Γ',g,c.trans l,k,j,d.trans i⟩
 | some m=>exact⟨v,Γ',g,c.trans l,k,j,d.trans i⟩
theorem quO(f:Inv Γ σ w){m:Nat->Nat->Option Value}(e:Le Γ { Γ with mem:=m }):∀{b:List AV} {a:List Value},(∀ r∈b.flatMap rsA,∀ R,σ.rw[r]?=some R->Qx { Γ with mem:=m } r R)->RepL Γ b a->RepL { Γ with mem:=m } (b.map (QN σ.rw)) a
 | [],a,_,h=>by rw[h.nil_inv];exact .nil
 | x::b,a,g,h=>by
   obtain⟨u,us,rfl,j,i⟩:=h.uncons;exact .cons (qyj f e (λ r d=>g r (by simp[d])) j) (quO f e (λ r d=>g r (by simp only[xc,ww];exact .inr d)) i)
theorem qJR{Γ Γ':Gh}{x:AV}{u:Value}(h:qlY x=true)(a:Rep Γ x u):Rep Γ' x u:=by
 cases a with
 | v _ f=>exact .v _ f
 | tup cs us e a =>
   refine .tup cs us e λ i x u b c=>?_;have d:isV x=true:=(wv.1 h) x (wa b);have:=a i x u b c;cases x with
   | v y=>have:=zo this;subst this;exact .v _ (by have:=a i _ _ b c;cases this;assumption)
   | _=>cases d
 | _=>cases h
theorem qMY{a:List AV}(d:rbL a=[])(c:rrL a=[]):Q7 σ a=[]/\qcP σ a=[]:=by
 have b:Q7 σ a=[]:=by
  unfold Q7;rw[d];show qoz σ.bx σ.bx.length []=[];cases σ.bx.length with
  | zero=>rfl
  | succ n=>rfl
 refine⟨b,?_⟩;unfold qcP;rw[b,c];rfl
theorem qG2{f:FuncId}{a:List AV}{g:List Value}{k:St->List AV->Option (AV × Option St)}(H:∀ Γ σ a r,Inv Γ σ w->RepL Γ a g->k σ a=some r->Js P Γ σ w f g r)
  {x:AV} {l:Gh} {σ0:St} (K:Inv l σ0 w) (m:Inv Γ σ w) (E:RepL Γ a g) (h:qal σ a k=some (x,none)) (J:rbL a=[]) (I:rrL a=[]) (D:qlY x=true):qoD P l σ0 w f g (x,none):=by
 obtain⟨p,o⟩:=qMY (σ := σ) J I;unfold qal at h;split at h<;>try cases h
 rename_i y;obtain⟨t,A,z⟩:=qHI y;split at h<;>try cases h
 rename_i r n;have j:=kX h;rw[p,o]at t;refine(H _ _ _ _ (qEF (by rw[p,o];exact t) m) (quS (by rw[p,o];exact t) E A z) n).mono ?_;rintro e w' ⟨v,B,G,c,N,q,M⟩;rw[p,o]at c;have d:=qqf t m c q;rw[m.nb,m.nr]at d
 have u:x=ren (zF [] σ.bx.length) (zF [] σ.rw.length) r.1:=by
  rw[p,o]at j;obtain⟨L,C⟩:=r;cases C<;>cases j;rfl
 rw[<- u]at d
 have s:Below w.heap.size w w':=⟨c.os,c.tape,c.output,c.size,λ b A=>c.block b A λ F=>by
  rcases F with⟨i,m,_⟩ | ⟨i,m,_⟩<;>exact absurd m (wL _)⟩
 exact⟨v,l,G,qgX s c.drawn,K.later s,qJR D d,.refl _⟩
theorem qI3(z:yv P C){ex:Jc}(y:qdS P ex){f:FuncId}{a:List AV}{b:List Value}{r:AV × Option St}(g:Inv Γ σ w)(i:RepL Γ a b)(h:qg9 C ex σ f a=some r):qoD P Γ σ w f b r:=by
 have k:∀ Γ σ a r,Inv Γ σ w->RepL Γ a b->qeo C ex σ f a=some r->Js P Γ σ w f b r := λ _ _ _ _=>qBN z y;unfold qg9 at h;unfold qi3 at h;cases e:C.raw f with
 | true =>
   rw[e]at h;exact qp6 k g i h
 | false =>
   rw[e]at h;simp only at h;cases c:a.flatMap rsA with
   | nil =>
     rw[c]at h;exact qp6 k g (quO (m := Γ.mem) g (Le.refl _) (by rw[c];intro r i;cases i) i) h
   | cons q l =>
     rw[c]at h;simp only[qv4]at h;obtain⟨m,p,n,v⟩:=qdh (q::l) g ((q::l) ++ σ.wrr);have s:=quO g p.le (by rw[c];exact v) i;cases d:qal { σ with rw:=frz σ.rw (q::l),wrr:=(q::l) ++ σ.wrr } (a.map (QN σ.rw)) (λ σ a=>qeo C ex σ f a)with
     | none=>rw[d]at h;cases h
     | some u =>
       rw[d]at h;have:=(qp6 k n s d).after (qk7 p w) (qrh (q::l));obtain⟨x,o⟩:=u;cases o with
       | none =>
         simp only at h;split at h
         ·rename_i j;cases h;simp only[wd,ve]at j;exact qG2 k g n s d j.1.2 j.2 j.1.1
         ·cases h;exact this
       | some t=>cases h;exact this
theorem qwY{c:List AV}{a:St->List AV->Option (AV × Option St)}{r:AV × Option St}(h:qal σ c a=some r):∃ σ' b d,a σ' b=some d:=by
 grind [qal]
theorem qHB(d:yv P C){ex:Jc}{f:FuncId}{a:List AV}{r:AV × Option St}(h:qg9 C ex σ f a=some r):qgJ P f:=by
 unfold qg9 at h;split at h
 ·obtain⟨_,_,_,c⟩:=qwY h;exact qDB d c
 ·rename_i σ' _;cases b:qal σ' _ (λ σ a=>qeo C ex σ f a)with
  | none=>rw[b]at h;cases h
  | some e=>obtain⟨_,_,_,c⟩:=qwY b;exact qDB d c
theorem qHk(n:yv P C){ex:Jc}(E:qdS P ex){tm:List AV}{a:Act}{o:Oper}{x:AV}{σ':Option St}(t:Inv Γ σ w)(p:zx Γ tm a)(h:opA C ex tm σ o.op=some (x,σ')):qOk P Γ σ w o a x σ':=by
 by_cases j:∃ c,o.op = .call c
 ·obtain⟨c,r⟩:=j;rw[r]at h;have d:RepL Γ (c.args.toList.map (aev tm)) (c.args.toList.map a.eval):=qui p.ev _;simp only[opA]at h;split at h
  ·rename_i b J;obtain⟨⟨v,w',Γ',B,M,L,K⟩,G⟩:=qPx (P:=P) (ty:=o.type) (cs:=c.args.map λ | .const _=>true | _=>false) n.ty t d h;refine JQ.wp ⟨_,v,w',Γ',?_,.inl rfl,M,L,K⟩ G;have e:(c.args.toList.map a.eval).toArray=c.args.map a.eval:=by rw[<- vc]
   rw[e]at B;unfold execOp;rw[r];simp only[resolve,J,Sem.run_bind];exact B
  ·split at h<;>try cases h
   rename_i f i m
   have z:∃ g,c.callee = .value g/\aev tm g = .fn f i:=by
    unfold qk8 at m;grind
   obtain⟨g,H,I⟩:=z;have l:=I▸p.ev g;generalize u:a.eval g=N at l;cases l with
   | fn f i us F q =>
     have y:=qHB n h;have A:=qI3 n E t (d.append (RepL.mk F q)) h;intro next Q s
     unfold Oper.wp
     have k:(execOp a.eval o).run P w = .ok (.enter f ((c.args.toList.map a.eval++us).toArray)) w:=by
      unfold execOp;rw[r];simp only[resolve,H,u,Deferred.ofValue,Sem.run_bind]
      have e:c.args.map a.eval++us.toArray=(c.args.toList.map a.eval++us).toArray:=by
       rw[<- vc];simp
      rw[<- e,Array.empty_append];exact qiP y _ w
     rw[k,Oper.upon_enter];refine Calls.mono A ?_;grind
 ·have D:qc C tm σ o.op=some (x,σ'):=by
    unfold opA at h;grind
  exact(qPv n.ty t p.ev D).wp (qGy D)
end
end Go.AmZ
namespace Go.AmZ
open Go Go.RowKit
section
variable {P:Program} {C:Cfg} {Γ : Gh} {σ : St} {w:World} {ops:Array Oper}
theorem qiR{tm:List AV}{a:Act}{o:Oper}{b:Bool}(m:zx Γ tm a)(h:yJ ops tm o=some b):Region.wanted o (yielded ops a.tmps)=b:=by
 unfold yJ at h;unfold Region.wanted;split at h
 ·rename_i f;cases h;rw[f]
 ·rename_i j i f;rw[f];simp only;split at h<;>try cases h
  rename_i d p;have e:=m.get d;unfold yielded;rw[p];simp only[Option.bind_some];split at h
  ·rename_i c g;cases h;rw[g]at e;have:=zo e;rw[wK]at this;cases k:a.tmps[d]? with
   | none=>rw[k]at this;cases this
   | some v=>rw[k]at this;cases this;simp[qdG]
  ·rename_i g;cases h;rw[g]at e;generalize l:a.tmps.getD d undef=u at e;cases e with
   | tup cs us q n =>
     rw[wK]at l;grind
  ·cases h
theorem qBJ(t:yv P C){ex:Jc}(q:qdS P ex){d:Bool}{Q:Exit->Act->World->Prop}{g:S}:∀(b:List Oper) (i:Nat) (s:S) (Γ : Gh) (w:World) (a:Act),(∀ j,b[j]?=ops[i+j]?)->zV C ex ops d b s=some g->Inv Γ s.σ w->zx Γ s.tm a ->
  (∀ Γ' w' D,Ext Γ w Γ' w'->Inv Γ' g.σ w'->zx Γ' g.tm D->qX s.σ g.σ -> D.defers=a.defers->Q .normal D w')->wpOps P ops Q (List.range' i b.length) a w
 | [],i,s,Γ,w,a,_,h,n,f,m=>by
   simp only[zV,wz]at h;subst h;exact m Γ w a (.refl _ _) n f (.refl _) rfl
 | o::b,i,s,Γ,w,a,E,h,n,f,m=>by
   have G:ops[i]?=some o:=by simpa using(E 0).symm
   have l:∀ j,b[j]?=ops[i+1+j]? := λ j=>by have:=E (j+1);simpa[wI,wab 1 j]using this
   simp only[wu,List.range'_succ,wpOps,G]
   have F:∀ x σ',opA C ex s.tm s.σ o.op=some (x,σ')->zV C ex ops d b ⟨qcm s.tm o.dst x,turn s.σ σ'⟩=some g->o.wp P a w (wpOps P ops Q (List.range' (i+1) b.length)) Q:=by
    intro x σ' c k;refine qHk t q n f c _ _ ?_;intro u w' Γ' e1 K J I;refine qBJ t q b (i+1) _ Γ' w' _ l k K (zx.put (waG e1.le f) o.dst J) ?_;intro e p B A z g3 y v;exact m e p B (e1.trans A) z g3 (I.trans y) (by rw[v];cases H:o.dst<;>rfl)
   simp only[zV]at h;split at h
   ·rename_i r;rw[if_pos (qiR f r)];left;split at h
    ·rename_i x c;exact F x none c h
    ·rename_i x σ' c;split at h
     ·cases h
     ·exact F x (some σ') c h
    ·cases h
   ·rename_i r;rw[if_neg (by rw[qiR f r];exact k9)];refine qBJ t q b (i+1) _ Γ w _ l h n (zx.put f o.dst (.tup [] [] rfl λ i x u h=>by simp at h)) ?_;intro e p B A z g3 y v;exact m e p B A z g3 y (by rw[v];cases H:o.dst<;>rfl)
   ·cases h
end
end Go.AmZ
namespace Go.AmZ
open Go Go.RowKit
section
variable {P:Program} {C:Cfg} {Γ : Gh} {σ : St} {w:World} {ops:Array Oper} {ex:Jc}
def qbZ(C:Cfg)(ex:Jc)(ops:Array Oper)(o:Oper)(s:S)(y:AV × Option St):Prop :=
 (yJ ops s.tm o=some true/\opA C ex s.tm s.σ o.op=some y)\/(yJ ops s.tm o=some false/\y=(qlT,none))
def yE(s:S)(o:Oper)(y:AV × Option St):S:=⟨qcm s.tm o.dst y.1,turn s.σ y.2⟩
def F(ops:List Oper)(l:List (AV × Option St))(s0:S)(L:Nat->Bool):Nat->S
 | 0=>s0
 | k+1=>match ops[k]?,l[k]?,L k with
   | some o,some y,true=>yE (F ops l s0 L k) o y
   | _,_,_=>F ops l s0 L k
def qv:Nat->Bool := λ _=>true
theorem qvR(o:Oper)(a:List Oper)(y:AV × Option St)(l:List (AV × Option St))(s:S):∀ k,F (o::a) (y::l) s qv (k+1)=F a l (yE s o y) qv k
 | 0=>rfl
 | k+1=>by
   show(match(o::a)[k+1]?,(y::l)[k+1]?,qv (k+1)with
    | some c,some b,true=>yE (F (o::a) (y::l) s qv (k+1)) c b
    | _,_,_=>F (o::a) (y::l) s qv (k+1))=_
   rw[qvR o a y l s k];simp only[List.getElem?_cons_succ];rfl
theorem qjs:∀(a:List Oper) (s e:S),zV C ex ops true a s=some e->∃ l,l.length=a.length/\F a l s qv a.length=e /\
  (∀ i o,a[i]?=some o->∃ y,l[i]?=some y/\qbZ C ex ops o (F a l s qv i) y/\(y.2.isSome=true->yp C.lo o.op=true)) /\
  ∀ i o y,a[i]?=some o->l[i]?=some y->y.2.isSome=true->qcQ C ops (ops.size-(a.length-i)) (F a l s qv i).tm (F a l s qv i).σ o.op=true
 | [],s,e,h=>by
   simp only[zV,wz]at h;exact⟨[],rfl,h,λ i o c=>by simp at c,λ i o y c=>by simp at c⟩
 | o::a,s,e,h=>by
   have m:∀ y,qbZ C ex ops o s y->(y.2.isSome=true->yp C.lo o.op=true/\qcQ C ops (ops.size-(a.length+1)) s.tm s.σ o.op=true)->zV C ex ops true a (yE s o y)=some e->∃ l,l.length=(o::a).length/\F (o::a) l s qv (o::a).length=e /\
     (∀ i d,(o::a)[i]?=some d->∃ y,l[i]?=some y/\qbZ C ex ops d (F (o::a) l s qv i) y/\(y.2.isSome=true->yp C.lo d.op=true)) /\
     ∀ i d y,(o::a)[i]?=some d->l[i]?=some y->y.2.isSome=true->qcQ C ops (ops.size-((o::a).length-i)) (F (o::a) l s qv i).tm (F (o::a) l s qv i).σ d.op=true:=by
    intro y q b j;obtain⟨l,w,v,u,t⟩:=qjs a _ e j;refine⟨y::l,by simp[w],?_,λ i d c=>?_,λ i d p c f n=>?_⟩
    ·rw[wu,qvR];exact v
    ·cases i with
     | zero=>simp at c;subst c;exact⟨y,rfl,q,λ h=>(b h).1⟩
     | succ i =>
       rw[qvR];simpa using u i d (by simpa using c)
    ·cases i with
     | zero=>simp at c f;subst c;subst f;exact(b n).2
     | succ i =>
       rw[qvR,wu,Nat.add_sub_add_right];exact t i d p (by simpa using c) (by simpa using f) n
   simp only[zV]at h;split at h
   ·rename_i k;split at h
    ·rename_i x g;exact m (x,none) (.inl ⟨k,g⟩) (by simp) h
    ·rename_i x σ' g;split at h
     ·cases h
     ·rename_i r;exact m (x,some σ') (.inl ⟨k,g⟩) (λ _=>by simpa using r) h
    ·cases h
   ·rename_i k;exact m (qlT,none) (.inr ⟨k,rfl⟩) (by simp) h
   ·cases h
theorem qrN{tm a:List AV}{xs:List Operand}(h:∀ t∈xs.filterMap (λ | .tmp t=>some t | _=>none),tm.getD t .dead=a.getD t .dead):∀ x∈xs,aev tm x=aev a x:=by
 intro x b;cases x with
 | tmp t=>exact h t (xa.2 ⟨_,b,rfl⟩)
 | _=>rfl
theorem qtz{tm d:List AV}{op:Op}(h:∀ x∈op.operands.toList,aev tm x=aev d x):opA C ex tm σ op=opA C ex d σ op:=by
 have g:∀ ps:Array (Nat × Operand),(∀ x∈ps.toList.map (·.2),aev tm x=aev d x)->(ps.toList.map λ p=>(p.1,aev tm p.2))=ps.toList.map λ p=>(p.1,aev d p.2) := λ ps k =>
  k8 λ p v=>by rw[k p.2 (wy.2 ⟨p,v,rfl⟩)]
 cases op with
 | call c =>
   have A:c.args.toList.map (aev tm)=c.args.toList.map (aev d):=k8 λ x j=>h x (by
    simp only[Op.operands,Call.operands];cases c.callee<;>simp[j]<;>(right;simpa using j))
   simp only[opA,A];cases z:c.callee with
   | builtin b=>rfl
   | value f =>
     have w:aev tm f=aev d f:=h f (by simp[Op.operands,Call.operands,z]);simp only[qk8,w]
   | invoke r n=>rfl
 | build t ps=>simp only[opA,qc,g ps (λ x j=>h x (by simpa[Op.operands]using j))]
 | buildSlice t n ps =>
   have k:=g ps (λ x j=>h x (by simpa[Op.operands]using j))
   have e1:(ps.toList.flatMap λ p=>rsA (aev tm p.2))=ps.toList.flatMap λ p=>rsA (aev d p.2):=by
    have:=congrArg (λ l=>List.flatMap (λ p:Nat × AV=>rsA p.2) l) k;simpa[vf]using this
   have F:(ps.toList.map λ p=>(cellsOf (aev tm p.2)).map (zk σ.rw))=ps.toList.map λ p=>(cellsOf (aev d p.2)).map (zk σ.rw):=by
    have:=congrArg (λ l=>List.map (λ p:Nat × AV=>(cellsOf p.2).map (zk σ.rw)) l) k;simpa[xi,Function.comp]using this
   simp only[opA,qc,k,e1,F]
 | makeFunc f G cs =>
   have q:cs.toList.map (aev tm)=cs.toList.map (aev d):=k8 λ x j=>h x (by simp only[Op.operands,xn,ww];exact .inr j);cases f<;>simp only[opA,qc,q]
 | slice t x lo o m =>
   cases m with
   | some m=>simp[opA,qc]
   | none =>
     have E:aev tm x=aev d x:=h x (by simp[Op.operands])
     have D:lo.map (aev tm)=lo.map (aev d):=by
      cases lo with
      | none=>rfl
      | some y=>simp only[kN];rw[h y (by simp[Op.operands])]
     have B:o.map (aev tm)=o.map (aev d):=by
      cases o with
      | none=>rfl
      | some y=>simp only[kN];rw[h y (by simp[Op.operands])]
     simp only[opA,qc,E,D,B]
 | move x=>simp only[opA,qc,h x (by simp[Op.operands])]
 | assign x=>simp only[opA,qc,h x (by simp[Op.operands])]
 | pick c a b=>simp only[opA,qc,h c (by simp[Op.operands]),h a (by simp[Op.operands]),h b (by simp[Op.operands])]
 | box e x=>simp only[opA,qc,h x (by simp[Op.operands])]
 | load t x=>simp only[opA,qc,h x (by simp[Op.operands])]
 | store t x y=>simp only[opA,qc,h x (by simp[Op.operands]),h y (by simp[Op.operands])]
 | makeSlice t x y=>simp only[opA,qc,h x (by simp[Op.operands]),h y (by simp[Op.operands])]
 | nilCheck x=>simp only[opA,qc,h x (by simp[Op.operands])]
 | binOp op t x y u=>simp only[opA,qc,h x (by simp[Op.operands]),h y (by simp[Op.operands])]
 | unOp op t x=>simp only[opA,qc,h x (by simp[Op.operands])]
 | convert s t x=>simp only[opA,qc,h x (by simp[Op.operands])]
 | fieldAddr t x i=>simp only[opA,qc,h x (by simp[Op.operands])]
 | field t x i=>simp only[opA,qc,h x (by simp[Op.operands])]
 | indexAddr t x y=>simp only[opA,qc,h x (by simp[Op.operands]),h y (by simp[Op.operands])]
 | index t x y=>simp only[opA,qc,h x (by simp[Op.operands]),h y (by simp[Op.operands])]
 | extract x i=>simp only[opA,qc,h x (by simp[Op.operands])]
 | _=>simp only[opA,qc]
theorem qpt{tm a:List AV}{o:Oper}(h:∀ t∈qfJ ops o,tm.getD t .dead=a.getD t .dead):yJ ops tm o=yJ ops a o:=by
 grind [yJ,qfJ]
theorem qr7{x:AV}(h:rsC x=[])(rw a:List Row):zk a x=zk rw x:=by
 cases x<;>first | rfl | (cases h;done)
theorem qnY{x:AV}(h:rsA x=[]):∀ c∈cellsOf x,rsC c=[]:=by
 cases x with
 | agg cs=>exact λ c a=>kI.1 h c a
 | _=>intro c a;rw[wH.1 a];exact h
theorem qEf{ps:List (Nat × AV)}(h:∀ p∈ps,rsA p.2=[])(k n:Nat)(rw a:List Row):qiW k n a ps=qiW k n rw ps:=by
 unfold qiW;congr 1;rw[xh,wv,wv]
 have e:∀ p∈ps.zipIdx,((cellsOf p.1.2).all λ x=>qy (zk a x))=(cellsOf p.1.2).all λ x=>qy (zk rw x) := λ p d=>by
  have c:p.1∈ps:=(kR.1 d) |> λ h=>wa h
  rw[xh,wv,wv];exact⟨λ g x b=>by rw[<- qr7 (qnY (h _ c) x b) rw a];exact g x b,λ g x b=>by rw[qr7 (qnY (h _ c) x b) rw a];exact g x b⟩
 grind
theorem qAX{tm:List AV}{τ : St}{op:Op}{x:AV}(g:JW op=false)(D:yp C.lo op=false)(h:opA C ex tm σ op=some (x,none)):opA C ex tm τ op=some (x,none):=by
 cases op with
 | call c =>
   obtain⟨z,B,A⟩:=c;cases z with
   | builtin b =>
     cases b<;>try (simp[JW]at g;done)
     all_goals
      simp only[opA]at h |-
      rw[<- h];generalize B.toList.map (aev tm)=j;unfold jF
      rcases j with _ | ⟨p,_ | ⟨q,_ | ⟨r,l⟩⟩⟩<;>first
       | rfl
       | (cases p<;>first | rfl | (rename_i v;cases v<;>first | rfl | (cases q<;>first | rfl | (rename_i o;cases o<;>rfl))))
   | value f=>simp[JW]at g
   | invoke r n=>simp[JW]at g
 | load t x=>simp[JW]at g
 | store t x y=>simp[JW]at g
 | buildSlice t n ps =>
   simp only[opA,qc]at h |-
   split at h<;>try cases h
   rename_i i;split at h<;>try cases h
   rename_i d;split at h<;>cases h;rename_i k
   have u:∀ p∈ps.toList.map (λ p=>(p.1,aev tm p.2)),rsA p.2=[] := λ p d=>by
    obtain⟨q,s,rfl⟩:=wy.1 d;exact kI.1 k q s
   rw[qEf u _ _ σ.rw τ.rw,d];simp only[k];congr 3;refine k8 λ p d=>k8 λ c w=>?_;exact qr7 (qnY (kI.1 k p d) c w) _ _
 | indexAddr t x y=>simp[JW]at g
 | convert a b y=>simp[JW]at g
 | slice t x lo E m =>
   cases m with
   | some m=>exact h
   | none =>
     simp only[opA,qc]at h;split at h
     ·rename_i i d;simp only[opA,qc,i,d];exact h
     ·rename_i i d;simp only[opA,qc,i,d];exact h
     ·rename_i i d;simp only[opA,qc,i,d];exact h
     ·grind
     ·cases h
 | alloc e =>
   simp only[opA,qc]at h;grind
 | box e y =>
   simp only[opA,qc]at h;grind
 | makeFunc f F cs=>cases f<;>exact h
 | makeSlice t a b =>
   simp only[opA,qc]at h |-
   split at h<;>try cases h
   split at h<;>try cases h
   grind
 | _=>exact h
end
end Go.AmZ
namespace Go.AmZ
open Go Go.RowKit
theorem qyK:∀(r:List Oper) (a:List Nat),∃ t,JK r a=a++t
 | [],a=>⟨[],by simp[JK]⟩
 | o::r,a=>by
   obtain⟨t,b⟩:=qyK r (a++[qoP a o]);exact⟨qoP a o::t,by rw[JK,b];simp⟩
theorem qyC:∀(r:List Oper) (a:List Nat) (k:Nat) (o:Oper),r[k]?=some o->(JK r a).getD (a.length+k) 0=qoP ((JK r a).take (a.length+k)) o
 | [],a,k,o,h=>by simp at h
 | q::r,a,0,o,h=>by
   simp at h;subst h;obtain⟨t,b⟩:=qyK r (a++[qoP a q]);rw[JK,b];simp[List.getD_eq_getElem?_getD]
 | q::r,a,k+1,o,h=>by
   rw[JK];have:=qyC r (a++[qoP a q]) k o (by simpa using h);rw[wc,List.length_singleton,wI,wab 1 k]at this;exact this
theorem qCl(a:List Nat)(j:Nat):∀(xs:List Nat) (m:Nat),(xs.foldl (λ m e=>m ||| (2 ^ e ||| a.getD e 0)) m).testBit j=true->m.testBit j=true\/∃ e∈xs,e=j\/(a.getD e 0).testBit j=true
 | [],m,h => .inl h
 | e::xs,m,h=>by
   rw[kg]at h;rcases qCl a j xs _ h with h | ⟨c,b,h⟩
   ·rw[Nat.testBit_or,Nat.testBit_or,Nat.testBit_two_pow]at h;simp only[kh,decide_eq_true_eq]at h;rcases h with h | h | h
    ·exact .inl h
    ·exact .inr ⟨e,wh ..,.inl h⟩
    ·exact .inr ⟨e,wh ..,.inr h⟩
   ·exact .inr ⟨c,wg _ b,h⟩
theorem qKT{ops:List Oper}{i j:Nat}{o:Oper}(ho:ops[i]?=some o)(h:((JK ops []).getD i 0).testBit j=true):∃ e∈jN o,e=j\/(e<i/\((JK ops []).getD e 0).testBit j=true):=by
 have b:=qyC ops [] i o ho;simp only[ke,wG]at b;rw[b]at h;rcases qCl _ _ _ _ h with h | ⟨e,c,h⟩
 ·simp at h
 ·refine⟨e,c,h.imp_right λ h=>?_⟩;rw[List.getD_eq_getElem?_getD,List.getElem?_take]at h;split at h
  ·rename_i a;exact⟨a,by rw[List.getD_eq_getElem?_getD];exact h⟩
  ·simp at h
section
variable {P:Program} {C:Cfg} {Γ : Gh} {σ : St} {w:World} {ops:Array Oper} {ex:Jc} {l:List (AV × Option St)} {s0:S} {L:Nat->Bool}
def qd7(ops:Array Oper)(L:Nat->Bool):Prop:=∀ i o,ops[i]?=some o->L i=true->∀ e∈jN o,L e=true
theorem qpT(hd:qd7 ops L){j:Nat}:∀(i:Nat) (o:Oper),ops[i]?=some o->(∀ e∈jN o,L e=true)->((JK ops.toList []).getD i 0).testBit j=true->L j=true:=by
 intro i
 induction i using Nat.strongRecOn with
 | _ i f =>
   intro o ho hp g;obtain⟨e,d,h⟩:=qKT (by simpa using ho) g;rcases h with rfl | ⟨b,c⟩
   ·exact hp _ d
   ·have a:e<ops.size:=Nat.lt_trans b (Array.getElem?_eq_some_iff.1 ho).1;exact f e b ops[e] (Array.getElem?_eq_getElem a) (hd e _ (Array.getElem?_eq_getElem a) (hp e d)) c
theorem qi7{c:Nat->Bool}{tm:List AV}(h:qb1 c tm ops=true):(∀(j:Nat) (o:Oper),ops[j]?=some o->∀ e∈jN o,e<j) /\
  ∀(i j:Nat) (o q:Oper),ops[j]?=some o->ops[i]?=some q->i≠j->qj2 c tm ops j o i q=true->((JK ops.toList []).getD (max i j) 0).testBit (min i j)=true:=by
 have a:∀(i:Nat) (o:Oper),ops[i]?=some o->(o,i)∈ops.toList.zipIdx := λ i o ho=>by
  rw[kR];simpa using ho
 simp only[qb1,wv,wd,decide_eq_true_eq,kh,wV]at h;refine⟨λ j o ho=>(h (o,j) (a j o ho)).1,λ i j o q ho f d g=>?_⟩;rcases(h (o,j) (a j o ho)).2 (q,i) (a i q f)with(b | b) | b
 ·exact absurd b d
 ·rw[g]at b;cases b
 ·exact b
theorem qFi(hd:qd7 ops L){i j:Nat}{o q:Oper}(ho:ops[j]?=some o)(d:ops[i]?=some q)(f:i≠j)(a:((JK ops.toList []).getD (max i j) 0).testBit (min i j)=true)(hL:L j=false)(hp:∀ e∈jN o,L e=true):(i<j->L i=true)/\(j<i->L i=false):=by
 constructor
 ·intro b;rw[Nat.max_eq_right (xy b),kK (xy b)]at a;exact qpT hd j o ho hp a
 ·intro b;rw[Nat.max_eq_left (xy b),Nat.min_eq_right (xy b)]at a;cases c:L i with
  | false=>rfl
  | true =>
    have:=qpT hd i q d (hd i q d c) a;rw[hL]at this;cases this
theorem ord{a:Nat->Bool}{tm:List AV}(hk:qb1 a tm ops=true)(hd:qd7 ops L){i j:Nat}{o q:Oper}(ho:ops[j]?=some o)(c:ops[i]?=some q)(b:i≠j)(d:qj2 a tm ops j o i q=true)(hL:L j=false)(hp:∀ e∈jN o,L e=true):(i<j->L i=true)/\(j<i->L i=false):=by
 exact qFi hd ho c b ((qi7 hk).2 i j o q ho c b d) hL hp
structure qdU (C:Cfg) (ex:Jc) (ops:Array Oper) (l:List (AV × Option St)) (s0:S):Prop where
 st:∀(i:Nat) (o:Oper),ops[i]?=some o->∃ y,l[i]?=some y/\qbZ C ex ops o (F ops.toList l s0 qv i) y/\(y.2.isSome=true->yp C.lo o.op=true)
 sp:∀(i:Nat) (o:Oper) (y:AV × Option St),ops[i]?=some o->l[i]?=some y->y.2.isSome=true->qcQ C ops i (F ops.toList l s0 qv i).tm (F ops.toList l s0 qv i).σ o.op=true
theorem qrU(d:∀(i:Nat) (o:Oper),ops.toList[i]?=some o->∃ y,l[i]?=some y/\qbZ C ex ops o (F ops.toList l s0 qv i) y/\(y.2.isSome=true->yp C.lo o.op=true))
  (c:∀(i:Nat) (o:Oper) (y:AV × Option St),ops.toList[i]?=some o->l[i]?=some y->y.2.isSome=true->qcQ C ops (ops.size-(ops.toList.length-i)) (F ops.toList l s0 qv i).tm (F ops.toList l s0 qv i).σ o.op=true):qdU C ex ops l s0 :=
 ⟨λ i o ho=>d i o (by simpa using ho),λ i o y ho a b=>by
  have:=c i o y (by simpa using ho) a b;have e:i<ops.size:=(Array.getElem?_eq_some_iff.1 ho).1
  rwa [wM,show ops.size-(ops.size-i)=i by omega]at this⟩
def qrR(C:Cfg)(ops:Array Oper)(l:List (AV × Option St)):Prop :=
 ∀(i:Nat) (o:Oper),ops[i]?=some o->∃ y,l[i]?=some y/\(y.2.isSome=true->yp C.lo o.op=true)
theorem qdU.recd(h:qdU C ex ops l s0):qrR C ops l := λ i o ho=>let⟨y,h1,_,h3⟩:=h.st i o ho;⟨y,h1,h3⟩
theorem qpd(s:S)(o:Oper)(y:AV × Option St)(t:Nat)(h:o.dst≠some t):(yE s o y).tm.getD t .dead=s.tm.getD t .dead:=by
 unfold yE;cases hd:o.dst with
 | none=>rfl
 | some d =>
   show(s.tm.set d y.1).getD t .dead=_;rw[List.getD_eq_getElem?_getD,List.getD_eq_getElem?_getD,List.getElem?_set_ne];intro e;rw[hd,e]at h;exact h rfl
theorem qJS(s:S)(o:Oper)(y:AV × Option St):(yE s o y).tm.length=s.tm.length:=by
 unfold yE;cases hd:o.dst with
 | none=>rfl
 | some d=>exact wJ ..
theorem qsw(s:S)(o:Oper)(y:AV × Option St)(t:Nat)(h:o.dst=some t):(yE s o y).tm.getD t .dead=if t<s.tm.length then y.1 else .dead:=by
 unfold yE;rw[h];show(s.tm.set t y.1).getD t .dead=_;rw[List.getD_eq_getElem?_getD,List.getElem?_set];simp only[if_true];split<;>rfl
theorem putS_σ(s:S)(o:Oper)(y:AV × Option St)(h:y.2=none):(yE s o y).σ = s.σ := by
 unfold yE;rw[h];rfl
theorem qHT(s:S)(o q:Oper)(y z:AV × Option St)(hd:∀ d,q.dst=some d->o.dst≠some d)(a:y.2=none\/z.2=none):yE (yE s o y) q z=yE (yE s q z) o y:=by
 unfold yE;simp only;congr 1
 ·cases ho:o.dst with
  | none=>rfl
  | some d =>
    cases b:q.dst with
    | none=>rfl
    | some e =>
      show(s.tm.set d y.1).set e z.1=(s.tm.set e z.1).set d y.1;exact List.set_comm _ _ λ h=>hd e b (by rw[ho,h])
 ·rcases a with h | h
  ·rw[h];rfl
  ·rw[h];rfl
theorem qb2(hT:qrR C ops l){k:Nat}{q:Oper}(b:ops[k]?=some q):∃ y,l[k]?=some y/\(y.2.isSome=true->yp C.lo q.op=true)/\∀ L,F ops.toList l s0 L (k+1)=if L k=true then yE (F ops.toList l s0 L k) q y else F ops.toList l s0 L k:=by
 obtain⟨y,c,d⟩:=hT k q b;refine⟨y,c,d,λ L=>?_⟩;have a:ops.toList[k]?=some q:=by simpa using b
 simp only[F,a,c];cases L k<;>rfl
theorem qAM(L:Nat->Bool):∀ k,(F ops.toList l s0 L k).tm.length=s0.tm.length
 | 0=>rfl
 | k+1=>by
   simp only[F];split
   ·rw[qJS];exact qAM L k
   ·exact qAM L k
theorem qAO{a:Nat->Bool}:∀ k,(∀ i,i<k->L i=a i)->F ops.toList l s0 L k=F ops.toList l s0 a k
 | 0,_=>rfl
 | k+1,h=>by
   simp only[F];rw[qAO k λ i b=>h i (by omega),h k (by omega)]
theorem j9{k:Nat}(h:k<ops.size):∃ q,ops[k]?=some q:=⟨ops[k],Array.getElem?_eq_getElem h⟩
theorem qlv{t:Tmp}(h:qdX ops.toList t=[]){k:Nat}{q:Oper}(a:ops[k]?=some q):q.dst≠some t:=by
 intro hd;have b:(q,k)∈ops.toList.zipIdx:=by rw[kR];simpa using a
 have:(q,k)∈qdX ops.toList t:=kJ.2 ⟨b,by simp[qsr,hd]⟩;rw[h]at this;cases this
theorem qtj{t:Tmp}{o:Oper}{i:Nat}(h:qdX ops.toList t=[(o,i)]):ops[i]?=some o/\o.dst=some t/\∀(k:Nat) (q:Oper),ops[k]?=some q->k≠i->q.dst≠some t:=by
 have g:(o,i)∈qdX ops.toList t:=by rw[h];exact wH.2 rfl
 obtain⟨c,a⟩:=kJ.1 g;rw[kR]at c;refine⟨by simpa using c,?_,λ k q e b hd=>?_⟩
 ·unfold qsr at a;cases hd:o.dst with
  | none=>rw[hd]at a;cases a
  | some d=>rw[hd]at a;rw[wj a]
 ·have f:(q,k)∈ops.toList.zipIdx:=by rw[kR];simpa using e
  have:(q,k)∈qdX ops.toList t:=kJ.2 ⟨f,by simp[qsr,hd]⟩;rw[h]at this;have:=wH.1 this;cases this;exact b rfl
theorem qjx(hT:qrR C ops l){t:Tmp}{a b:Nat}(h:∀ k q,a<=k->ops[k]?=some q->q.dst≠some t):a<=b->b<=ops.size->(F ops.toList l s0 L b).tm.getD t .dead=(F ops.toList l s0 L a).tm.getD t .dead:=by
 intro c
 induction b with
 | zero =>
   intro _;have j:a=0:=Nat.le_zero.1 c;rw[j]
 | succ b d =>
   intro f;by_cases g:a=b+1
   ·rw[g]
   ·obtain⟨q,e⟩:=j9 (ops:=ops) (k:=b) (by omega);obtain⟨y,_,_,i⟩:=qb2 hT e;rw[i];split
    ·rw[qpd _ _ _ _ (h b q (by omega) e)];exact d (by omega) (by omega)
    ·exact d (by omega) (by omega)
theorem qp2(hT:qdU C ex ops l s0){k:Nat}{t:Tmp}{b:Nat}(hk:k<=ops.size)(h:ji s0.tm ops k t=some b):(∃ o,(F ops.toList l s0 qv k).tm.getD t .dead = .ptr b o)\/(F ops.toList l s0 qv k).tm.getD t .dead = .tup []\/(F ops.toList l s0 qv k).tm.getD t .dead = .dead:=by
 unfold ji at h;split at h
 case h_2=>cases h
 rename_i u hu;split at h<;>cases h;rename_i off hb
 have key:∀(n k:Nat) (t:Tmp),k<=ops.size->qnm ops n k t=some u->(∃ o,(F ops.toList l s0 qv k).tm.getD t .dead = .ptr b o)\/(F ops.toList l s0 qv k).tm.getD t .dead = .tup []\/(F ops.toList l s0 qv k).tm.getD t .dead = .dead:=by
  intro n
  induction n with
  | zero=>intro k t _ h;cases h
  | succ n ih =>
    intro k t hk hu;rw[qnm]at hu;split at hu
    ·rename_i hw;cases hu;left;refine⟨off,?_⟩;rw[qjx hT.recd (a:=0) (λ k q _ hq=>qlv hw hq) (we _) hk];exact hb
    ·rename_i o i hw;obtain⟨ho,hd,hother⟩:=qtj hw;split at hu
     case h_2=>cases hu
     rename_i u' hop hik;have hik:=of_decide_eq_true hik;have hsz:i<ops.size:=(Array.getElem?_eq_some_iff.1 ho).1;have hv:=ih i u' (by omega) hu;rw[qjx hT.recd (a:=i+1) (λ k q hle hq=>hother k q hq (by omega)) (by omega) hk];obtain⟨y,h1,h2,_⟩:=hT.st i o ho;obtain⟨z,h3,_,hF⟩:=qb2 hT.recd ho;rw[h1]at h3;cases h3;rw[hF,if_pos (show qv i=true from rfl),qsw _ _ _ _ hd];split
     ·rcases h2 with⟨_,h2⟩ | ⟨_,h2⟩
      ·unfold qJ7 at hop;split at hop<;>cases hop
       ·rename_i e;rw[e]at h2;simp only[opA,qc]at h2;split at h2<;>try cases h2
        split at h2<;>try cases h2
        split at h2<;>try cases h2
        have hav:aev (F ops.toList l s0 qv i).tm (.tmp u')=(F ops.toList l s0 qv i).tm.getD u' .dead:=rfl;rw[hav]at h2;rcases hv with⟨o',hv⟩ | hv | hv<;>rw[hv]at h2<;>cases h2
        exact .inl ⟨_,rfl⟩
       ·rename_i e;rw[e]at h2;cases h2;exact hv
       ·rename_i e;rw[e]at h2;cases h2;exact hv
       ·rename_i e;rw[e]at h2;simp only[opA,qc]at h2;have hav:aev (F ops.toList l s0 qv i).tm (.tmp u')=(F ops.toList l s0 qv i).tm.getD u' .dead:=rfl;rw[hav]at h2;rcases hv with⟨o',hv⟩ | hv | hv<;>rw[hv]at h2<;>cases h2
        exact .inl ⟨_,rfl⟩
      ·rw[h2];exact .inr (.inl rfl)
     ·exact .inr (.inr rfl)
    ·cases hu
 exact key 6 k t hk hu
theorem qK6(hT:qdU C ex ops l s0){k i:Nat}{t:Tmp}{b:Nat}(hk:k<=ops.size)(h:ji s0.tm ops i t=some b):ji (F ops.toList l s0 qv k).tm ops i t=some b:=by
 unfold ji at h |-
 split at h
 case h_2=>cases h
 rename_i u hu
 have key:∀(n i:Nat) (t:Tmp),qnm ops n i t=some u->qdX ops.toList u=[]:=by
  intro n
  induction n with
  | zero=>intro i t h;cases h
  | succ n ih =>
    intro i t h;rw[qnm]at h;split at h
    ·rename_i hw;cases h;exact hw
    ·split at h
     ·exact ih _ _ h
     ·cases h
    ·cases h
 rw[qjx hT.recd (a:=0) (λ k q _ hq=>qlv (key 6 i t hu) hq) (we _) hk];exact h
theorem qLD(hT:qdU C ex ops l s0){k:Nat}{t:Tmp}(hk:k<=ops.size)(h:qeR s0.tm ops k t=true):qLB ((F ops.toList l s0 qv k).tm.getD t .dead)=true\/(F ops.toList l s0 qv k).tm.getD t .dead = .tup []\/(F ops.toList l s0 qv k).tm.getD t .dead = .dead:=by
 unfold qeR at h;split at h
 case h_2=>cases h
 rename_i u hu
 have key:∀(n k:Nat) (t:Tmp),k<=ops.size->qnm ops n k t=some u->qLB ((F ops.toList l s0 qv k).tm.getD t .dead)=true\/(F ops.toList l s0 qv k).tm.getD t .dead = .tup []\/(F ops.toList l s0 qv k).tm.getD t .dead = .dead:=by
  intro n
  induction n with
  | zero=>intro k t _ h;cases h
  | succ n ih =>
    intro k t hk hu;rw[qnm]at hu;split at hu
    ·rename_i hw;cases hu;left;rw[qjx hT.recd (a:=0) (λ k q _ hq=>qlv hw hq) (we _) hk];exact h
    ·rename_i o i hw;obtain⟨ho,hd,hother⟩:=qtj hw;split at hu
     case h_2=>cases hu
     rename_i u' hop hik;have hik:=of_decide_eq_true hik;have hsz:i<ops.size:=(Array.getElem?_eq_some_iff.1 ho).1;have hv:=ih i u' (by omega) hu;rw[qjx hT.recd (a:=i+1) (λ k q hle hq=>hother k q hq (by omega)) (by omega) hk];obtain⟨y,h1,h2,_⟩:=hT.st i o ho;obtain⟨z,h3,_,hF⟩:=qb2 hT.recd ho;rw[h1]at h3;cases h3;rw[hF,if_pos (show qv i=true from rfl),qsw _ _ _ _ hd];split
     ·rcases h2 with⟨_,h2⟩ | ⟨_,h2⟩
      ·unfold qJ7 at hop;split at hop<;>cases hop
       ·rename_i e;rw[e]at h2;simp only[opA,qc]at h2;split at h2<;>try cases h2
        split at h2<;>try cases h2
        split at h2<;>try cases h2
        have hav:aev (F ops.toList l s0 qv i).tm (.tmp u')=(F ops.toList l s0 qv i).tm.getD u' .dead:=rfl;rw[hav]at h2;rcases hv with hv | hv | hv
        ·cases hg:(F ops.toList l s0 qv i).tm.getD u' .dead<;>rw[hg]at hv h2<;>first | (cases hv;done) | (cases h2;exact .inl rfl)
        ·rw[hv]at h2;cases h2
        ·rw[hv]at h2;cases h2
       ·rename_i e;rw[e]at h2;cases h2;exact hv
       ·rename_i e;rw[e]at h2;cases h2;exact hv
       ·rename_i e;rw[e]at h2;simp only[opA,qc]at h2;have hav:aev (F ops.toList l s0 qv i).tm (.tmp u')=(F ops.toList l s0 qv i).tm.getD u' .dead:=rfl;rw[hav]at h2;rcases hv with hv | hv | hv
        ·cases hg:(F ops.toList l s0 qv i).tm.getD u' .dead<;>rw[hg]at hv h2<;>first | (cases hv;done) | (cases h2;exact .inl rfl)
        ·rw[hv]at h2;cases h2
        ·rw[hv]at h2;cases h2
      ·rw[h2];exact .inr (.inl rfl)
     ·exact .inr (.inr rfl)
    ·cases hu
 exact key 6 k t hk hu
theorem qjW{b:Nat->Bool}{o:Oper}{t:TypeId}{a:Operand}(h:o.op = .load t a):yp b o.op=false:=by rw[h];rfl
theorem qph{tm:List AV}{j i:Nat}{o q:Oper}(d:yp C.lo q.op=true)(ho:∀ t a,o.op = .load t (.tmp a)->ji tm ops j a=none/\qeR tm ops j a=false):qjy tm ops j o i q=false:=by
 unfold qjy;rw[xI];constructor
 ·unfold qjn;split
  ·rename_i e c;rw[qjW c]at d;cases d
  ·rename_i e c;rw[qjW c]at d;cases d
  ·rename_i e c;rw[qjW c]at d;cases d
  ·rfl
 ·unfold qjn;split
  ·rename_i t a v g b e c;split
   ·rename_i x y h f;rw[(ho _ _ c).1]at f;cases f
   ·exact(ho _ _ c).2
   ·rfl
  ·rename_i c;rw[(ho _ _ c).1];rfl
  ·rename_i c;rw[(ho _ _ c).1];rfl
  ·rfl
theorem qvg{tm:List AV}{j i:Nat}{o q:Oper}{t:TypeId}{a:Tmp}(ho:o.op = .load t (.tmp a))(h:qjy tm ops j o i q=true):(∃ l c v x,q.op = .store l (.tmp c) v/\ji tm ops i c=some x/\((∃ y,ji tm ops j a=some y/\x≠y)\/ji tm ops j a=none/\qeR tm ops j a=true))\/ji tm ops j a≠none/\(∃ as ts,q.op = .call ⟨.builtin .append,as,ts⟩)\/ji tm ops j a≠none/\∃ g as ts,q.op = .call ⟨.value g,as,ts⟩:=by
 unfold qjy at h;rw[kh]at h;rcases h with h | h
 ·unfold qjn at h;split at h
  ·rename_i b _;rw[ho]at b;cases b
  ·rename_i b _;rw[ho]at b;cases b
  ·rename_i b _;rw[ho]at b;cases b
  ·cases h
 ·unfold qjn at h;split at h
  ·rename_i p s m n r b d;rw[ho]at d;cases d;split at h
   ·rename_i x y k f;exact .inl ⟨_,_,_,x,b,k,.inl ⟨y,f,λ e=>by rw[e]at h;simp at h⟩⟩
   ·rename_i x k f;exact .inl ⟨_,_,_,x,b,k,.inr ⟨f,h⟩⟩
   ·cases h
  ·rename_i b d;rw[ho]at d;cases d;exact .inr (.inl ⟨λ e=>(by rw[e]at h;cases h),_,_,b⟩)
  ·rename_i b d;rw[ho]at d;cases d;exact .inr (.inr ⟨λ e=>(by rw[e]at h;cases h),_,_,_,b⟩)
  ·cases h
theorem qwh{f:Type}:∀(a:List Nat) (l xs:List f) (b:Nat),b<l.length->b ∉ a->(zU l a xs)[b]?=l[b]?
 | [],l,xs,b,d,_=>by rw[zU,List.getElem?_append_left d]
 | c::a,l,[],b,d,_=>rfl
 | c::a,l,x::xs,b,d,e=>by
   rw[zU,qwh a _ xs b (by rw[wJ];exact d) λ h=>e (wg _ h),List.getElem?_set_ne λ h=>e (by rw[h];exact wh ..)]
theorem qJs{tm:List AV}{σ σ':St}{g:Operand}{as:Array Operand}{ts:Array TypeId}{x:AV}(h:opA C ex tm σ (.call ⟨.value g,as,ts⟩)=some (x,some σ')){b:Nat}(m:b < σ.bx.length)(c:b ∉ qwk C tm σ (.call ⟨.value g,as,ts⟩)) : σ'.bx[b]? = σ.bx[b]?:=by
 simp only[opA]at h;simp only[qwk]at c;split at h<;>try cases h
 rename_i f d s;rw[s]at c;have c:b ∉ (match qi3 C σ f (as.toList.map (aev tm)++d)with | (a,none)=>Q7 σ a | (a,some σ')=>Q7 σ' a):=c
 have l:∀{τ i:St} {a:List AV} {e:St->List AV->Option (AV × Option St)} {z:AV},qal τ a e=some (z,some i)->b < τ.bx.length->b ∉ Q7 τ a->i.bx[b]? = τ.bx[b]?:=by
  intro τ i a e z h m c;unfold qal at h;split at h<;>try cases h
  split at h<;>try cases h
  rename_i r u;obtain⟨t,q⟩:=r;cases q with
  | none=>simp[qjc]at h
  | some n =>
    simp only[qjc,wz,wR]at h;rw[<- h.2];exact qwh _ _ _ _ m c
 unfold qg9 at h;generalize k:qi3 C σ f (as.toList.map (aev tm)++d)=p at h c;obtain⟨a,o⟩:=p;cases o with
 | none=>exact l h m c
 | some σ1 =>
   have j : σ1.bx = σ.bx:=by
    unfold qi3 at k;split at k
    ·cases k
    ·split at k<;>cases k;rfl
   have c:b ∉ Q7 σ1 a:=c;simp only at h;unfold qv4 at h;split at h
   ·split at h<;>cases h;rw[j]
   ·have:=l h (by rw[j];exact m) c;rw[this,j]
theorem qHC{s:S}{q:Oper}{as:Array Operand}{ts:Array TypeId}{x:AV}{σ':St}(c:q.op = .call ⟨.builtin .append,as,ts⟩)(h:opA C ex s.tm s.σ q.op=some (x,some σ')) : σ'.bx=s.σ.bx:=by
 rw[c]at h;simp only[opA]at h;generalize as.toList.map (aev s.tm)=b at h
 have a:∀ k bytes p xs,yc k bytes s.σ p xs=some (x,some σ') -> σ'.bx=s.σ.bx:=by
  intro k bytes p xs h;unfold yc at h
  repeat' (first | (cases h;done) | (cases h;rfl) | split at h)
 unfold jF at h;split at h<;>try cases h
 all_goals repeat' (first | (cases h;done) | exact a _ _ _ _ h | split at h)
theorem qoA{s:S}{q:Oper}{t:TypeId}{c:Tmp}{v:Operand}{x:AV}{σ':St}(g:q.op = .store t (.tmp c) v)(h:opA C ex s.tm s.σ q.op=some (x,some σ')):(∃ b o,s.tm.getD c .dead = .ptr b o /\ σ'.rw=s.σ.rw/\∀ b',b'≠b -> σ'.bx[b']?=s.σ.bx[b']?)\/∃ r i o f,s.tm.getD c .dead = .rpt r i o f:=by
 rw[g]at h;simp only[opA,qc]at h;split at h<;>try cases h
 ·rename_i d b o hd e;split at h<;>try cases h
  split at h<;>cases h;exact .inl ⟨b,o,e,rfl,λ b' a=>by simp only[List.getElem?_set_ne (xK a)]⟩
 ·rename_i d r i o f hd e;exact .inr ⟨r,i,o,f,e⟩
section
variable (hR:qrR C ops l) (hk:qb1 C.lo s0.tm ops=true) (hd:qd7 ops L) {j:Nat} {o:Oper} (ho:ops[j]?=some o) (hL:L j=false) (hp:∀ e∈jN o,L e=true)
include hR hk hd ho hL hp
theorem qrE{t:Nat}(r:t∈qfJ ops o):(F ops.toList l s0 L ops.size).tm.getD t .dead=(F ops.toList l s0 qv j).tm.getD t .dead:=by
 have u:j<ops.size:=(Array.getElem?_eq_some_iff.1 ho).1
 have f:∀{k:Nat} {q:Oper},ops[k]?=some q->k≠j->q.dst=some t->(k<j->L k=true)/\(j<k->L k=false) := λ c n a =>
  ord hk hd ho c n (by simp[qj2,a,r]) hL hp
 have i:∀ k,k<=j->(F ops.toList l s0 L k).tm.getD t .dead=(F ops.toList l s0 qv k).tm.getD t .dead:=by
  intro k
  induction k with
  | zero=>intro _;rfl
  | succ k d =>
    intro p;obtain⟨q,c⟩:=j9 (ops:=ops) (k:=k) (by omega);obtain⟨y,_,_,g⟩:=qb2 hR c;rw[g L,g qv,if_pos (show qv k=true from rfl)];by_cases a:q.dst=some t
    ·rw[if_pos ((f c (by omega) a).1 (by omega)),qsw _ _ _ _ a,qsw _ _ _ _ a,qAM,qAM]
    ·rw[qpd _ _ _ _ a];split
     ·rw[qpd _ _ _ _ a];exact d (by omega)
     ·exact d (by omega)
 have e:∀ m,j+m<=ops.size->(F ops.toList l s0 L (j+m)).tm.getD t .dead=(F ops.toList l s0 L j).tm.getD t .dead:=by
  intro m
  induction m with
  | zero=>intro _;rfl
  | succ m d =>
    intro p;obtain⟨q,c⟩:=j9 (ops:=ops) (k:=j+m) (by omega);obtain⟨y,_,_,g⟩:=qb2 hR c;show(F ops.toList l s0 L (j+m+1)).tm.getD t .dead=_;rw[g L];split
    ·rename_i b;have s:m≠0 := λ h=>by subst h;rw[wP,hL]at b;cases b
     rw[qpd _ _ _ _ λ a=>by have:=(f c (by omega) a).2 (by omega);rw[this]at b;cases b];exact d (by omega)
    ·exact d (by omega)
 have:=e (ops.size-j) (by omega);rw[show j+(ops.size-j)=ops.size by omega]at this;rw[this,i j (wb _)]
theorem qFs{y:AV × Option St}(u:l[j]?=some y)(s:y.2.isSome=true->yp C.lo o.op=true):F ops.toList l s0 (λ i=>decide (i=j)||L i) ops.size=yE (F ops.toList l s0 L ops.size) o y:=by
 have I:j<ops.size:=(Array.getElem?_eq_some_iff.1 ho).1;have n:∀ k,k≠j->(decide (k=j)||L k)=L k := λ k hk=>by simp[hk]
 have r:F ops.toList l s0 (λ i=>decide (i=j)||L i) j=F ops.toList l s0 L j:=qAO j λ i J=>n i (by omega)
 have g:∀ m,j+1+m<=ops.size->F ops.toList l s0 (λ i=>decide (i=j)||L i) (j+1+m)=yE (F ops.toList l s0 L (j+1+m)) o y:=by
  intro m
  induction m with
  | zero =>
    intro _;obtain⟨z,p,_,h⟩:=qb2 hR ho;rw[u]at p;cases p;show F _ _ _ _ (j+1)=yE (F _ _ _ _ (j+1)) o y;rw[h,h,if_pos (by simp),r,hL];simp
  | succ m B =>
    intro E;obtain⟨q,w⟩:=j9 (ops:=ops) (k:=j+1+m) (by omega);obtain⟨z,_,G,h⟩:=qb2 hR w;show F _ _ _ _ (j+1+m+1)=yE (F _ _ _ _ (j+1+m+1)) o y;rw[h,h];have e:=n (j+1+m) (by omega);rw[e,B (by omega)];split
    ·rename_i b;refine qHT _ _ _ _ _ (λ d v x=>?_) ?_
     ·have:=(ord hk hd ho w (by omega) (by simp[qj2,v,qfJ,x]) hL hp).2 (by omega);rw[this]at b;cases b
     ·cases D:y.2 with
      | none=>exact .inl rfl
      | some σ1 =>
        cases p:z.2 with
        | none=>exact .inr rfl
        | some A =>
          have:=(ord hk hd ho w (by omega) (by
           have c:=s (by rw[D];rfl);have f:=G (by rw[p];rfl);simp only[qj2,qpO,f,c,qph (tm:=s0.tm) (ops:=ops) (j:=j) (i:=j+1+m) (o:=o) f (λ t a H=>by rw[H]at c;cases c),xz,vh,vt]) hL hp).2 (by omega)
          rw[this]at b;cases b
    ·rfl
 have:=g (ops.size-(j+1)) (by omega);rw[show j+1+(ops.size-(j+1))=ops.size by omega]at this;exact this
end
variable (hT:qdU C ex ops l s0) (hk:qb1 C.lo s0.tm ops=true) (hd:qd7 ops L) {j:Nat} {o:Oper} (ho:ops[j]?=some o) (hL:L j=false) (hp:∀ e∈jN o,L e=true)
include hT hk hd ho hL hp
theorem qGV(v:(JW o.op||yp C.lo o.op)=true)(s:∀ t a,o.op = .load t (.tmp a)->ji s0.tm ops j a=none/\qeR s0.tm ops j a=false):(F ops.toList l s0 L ops.size).σ = (F ops.toList l s0 qv j).σ := by
 have x:j<ops.size:=(Array.getElem?_eq_some_iff.1 ho).1
 have i:∀{k:Nat} {q:Oper},ops[k]?=some q->k≠j->yp C.lo q.op=true->(k<j->L k=true)/\(j<k->L k=false) := λ d r e =>
  ord hk hd ho d r (by simp only[qj2,qpO,e,v,qph e s,vh,xz,vt]) hL hp
 have p:∀ k,k<=j->(F ops.toList l s0 L k).σ = (F ops.toList l s0 qv k).σ := by
  intro k
  induction k with
  | zero=>intro _;rfl
  | succ k f =>
    intro u;obtain⟨q,d⟩:=j9 (ops:=ops) (k:=k) (by omega);obtain⟨y,_,e,n⟩:=qb2 hT.recd d;rw[n L,n qv,if_pos (show qv k=true from rfl)];cases c:y.2 with
    | none =>
      rw[putS_σ _ _ _ c];split
      ·rw[putS_σ _ _ _ c];exact f (by omega)
      ·exact f (by omega)
    | some σ' =>
      rw[if_pos ((i d (by omega) (e (by rw[c];rfl))).1 (by omega))];simp[yE,c,turn]
 have g:∀ m,j+m<=ops.size->(F ops.toList l s0 L (j+m)).σ = (F ops.toList l s0 L j).σ := by
  intro m
  induction m with
  | zero=>intro _;rfl
  | succ m f =>
    intro u;obtain⟨q,d⟩:=j9 (ops:=ops) (k:=j+m) (by omega);obtain⟨y,_,e,n⟩:=qb2 hT.recd d;show(F ops.toList l s0 L (j+m+1)).σ = _;rw[n L];split
    ·rename_i b;have w:m≠0 := λ h=>by subst h;rw[wP,hL]at b;cases b
     cases c:y.2 with
     | none=>rw[putS_σ _ _ _ c];exact f (by omega)
     | some σ' =>
       have:=(i d (by omega) (e (by rw[c];rfl))).2 (by omega);rw[this]at b;cases b
    ·exact f (by omega)
 have:=g (ops.size-j) (by omega);rw[show j+(ops.size-j)=ops.size by omega]at this;rw[this,p j (wb _)]
omit hp in
theorem qzv{U:Type}(d:St->U)(M:yp C.lo o.op=false)
  (i:∀{k:Nat} {q:Oper} {y:AV × Option St} {σ':St},ops[k]?=some q->l[k]?=some y->k≠j->y.2=some σ'->yp C.lo q.op=true ->
   ((k<j->L k=true)/\(j<k->L k=false))\/d σ'=d (F ops.toList l s0 qv k).σ):d (F ops.toList l s0 L ops.size).σ = d (F ops.toList l s0 qv j).σ := by
 have hj:j<ops.size:=(Array.getElem?_eq_some_iff.1 ho).1
 have z:∀ k,k<=j->d (F ops.toList l s0 L k).σ = d (F ops.toList l s0 qv k).σ := by
  intro k
  induction k with
  | zero=>intro _;rfl
  | succ k x =>
    intro O;obtain⟨q,u⟩:=j9 (ops:=ops) (k:=k) (by omega);obtain⟨y,w,Q,G⟩:=qb2 hT.recd u;rw[G L,G qv,if_pos (show qv k=true from rfl)];cases f:y.2 with
    | none =>
      rw[putS_σ _ _ _ f];split
      ·rw[putS_σ _ _ _ f];exact x (by omega)
      ·exact x (by omega)
    | some σ' =>
      rcases i u w (by omega) f (Q (by rw[f];rfl))with h | h
      ·rw[if_pos (h.1 (by omega))];simp[yE,f,turn]
      ·have e:∀ s:S,(yE s q y).σ = σ' := λ s=>by simp[yE,f,turn]
       rw[e,h];split
       ·rw[e,h]
       ·exact x (by omega)
 have E:∀ m,j+m<=ops.size->d (F ops.toList l s0 L (j+m)).σ = d (F ops.toList l s0 L j).σ := by
  intro m
  induction m with
  | zero=>intro _;rfl
  | succ m x =>
    intro O;obtain⟨q,u⟩:=j9 (ops:=ops) (k:=j+m) (by omega);obtain⟨y,w,Q,G⟩:=qb2 hT.recd u;show d (F ops.toList l s0 L (j+m+1)).σ = _;rw[G L];split
    ·rename_i g;have Z:m≠0 := λ h=>by subst h;rw[wP,hL]at g;cases g
     cases f:y.2 with
     | none=>rw[putS_σ _ _ _ f];exact x (by omega)
     | some σ' =>
       have r:=Q (by rw[f];rfl);rcases i u w (by omega) f r with h | h
       ·have:=h.2 (by omega);rw[this]at g;cases g
       ·have e:(yE (F ops.toList l s0 L (j+m)) q y).σ = σ':=by simp[yE,f,turn]
        rw[e,h]
        have J:∀ n,j+n<=j+m->d (F ops.toList l s0 qv (j+n)).σ = d (F ops.toList l s0 qv j).σ := by
         intro n
         induction n with
         | zero=>intro _;rfl
         | succ n A =>
           intro Y;obtain⟨I,c⟩:=j9 (ops:=ops) (k:=j+n) (by omega);obtain⟨y2,B,P,R⟩:=qb2 hT.recd c;show d (F ops.toList l s0 qv (j+n+1)).σ = _;rw[R qv,if_pos (show qv (j+n)=true from rfl)];cases p:y2.2 with
           | none=>rw[putS_σ _ _ _ p];exact A (by omega)
           | some H =>
             have b:=P (by rw[p];rfl);by_cases N:n=0
             ·subst N;rw[wP]at c;rw[ho]at c;cases c;rw[M]at b;cases b
             rcases i c B (by omega) p b with T | T
             ·-- it lies ahead of the other loud one,which has come up
              exfalso;have K:=T.2 (by omega);have D:∀ t a,q.op = .load t (.tmp a)->ji s0.tm ops (j+m) a=none/\qeR s0.tm ops (j+m) a=false := λ t a V=>by rw[V]at r;cases r
              have W:qj2 C.lo s0.tm ops (j+m) q (j+n) I=true:=by
               simp only[qj2,qpO,r,b,qph b D,vh,xz,vt]
              have v:=(qi7 hk).2 (j+n) (j+m) q I u c (by omega) W;rw[Nat.max_eq_right (by omega),kK (by omega)]at v;have:=qpT hd (j+m) q u (hd (j+m) q u g) v;rw[K]at this;cases this
             ·have X:(yE (F ops.toList l s0 qv (j+n)) I y2).σ = H:=by simp[yE,p,turn]
              rw[X,T];exact A (by omega)
        rw[J m (wb _),z j (wb _)]
    ·exact x (by omega)
 have:=E (ops.size-j) (by omega);rw[show j+(ops.size-j)=ops.size by omega]at this;rw[this,z j (wb _)]
theorem qIc{t:TypeId}{a:Tmp}{b':Nat}(hop:o.op = .load t (.tmp a))(hbx:ji s0.tm ops j a=some b'):(F ops.toList l s0 L ops.size).σ.bx[b']?=(F ops.toList l s0 qv j).σ.bx[b']?:=by
 have hj:j<ops.size:=(Array.getElem?_eq_some_iff.1 ho).1;have hrd:JW o.op=true:=by rw[hop];rfl
 refine qzv hT hk hd ho hL (λ σ => σ.bx[b']?) (by rw[hop];rfl) ?_
 show ∀{k:Nat} {q:Oper} {y:AV × Option St} {σ':St},ops[k]?=some q->l[k]?=some y->k≠j->y.2=some σ'->yp C.lo q.op=true ->
  ((k<j->L k=true)/\(j<k->L k=false)) \/ σ'.bx[b']?=(F ops.toList l s0 qv k).σ.bx[b']?
 ·intro k q y σ' hq hy hne hy2 hl;cases hap:qjy s0.tm ops j o k q with
  | false=>exact .inl (ord hk hd ho hq hne (by simp only[qj2,qpO,hl,hrd,hap,vh,xA,xz,vt]) hL hp)
  | true =>
    obtain⟨z,hz,hstep,_⟩:=hT.st k q hq;rw[hy]at hz;cases hz;obtain⟨y1,y2⟩:=y;simp only at hy2;subst hy2;rcases qvg hop hap with⟨t',c,v,x,h1,h2,h3⟩ | ⟨_,as,ts,h1⟩ | ⟨_,g,as,ts,h1⟩
    case inr.inr =>
     have hsp:=hT.sp k q _ hq hy rfl;have hks:k<=ops.size:=xy (Array.getElem?_eq_some_iff.1 hq).1;rw[h1]at hsp;unfold qbZ at hstep;rw[h1]at hstep;unfold qcQ at hsp;rw[show qyc (.call ⟨.value g,as,ts⟩)=true from rfl,Bool.not_true,xR,wv]at hsp;have hsj:=hsp (o,j) (by rw[kR];simpa using ho);simp only[hop]at hsj;rw[qK6 hT hks hbx]at hsj;simp only[kh,wd,decide_eq_true_eq,wV]at hsj;rcases hsj with hbit | ⟨hlt,hnt⟩
     ·exact .inl (qFi hd ho hq hne (by rw[Nat.max_comm,Nat.min_comm];exact hbit) hL hp)
     ·right;rcases hstep with⟨_,hs⟩ | ⟨_,hs⟩
      ·exact qJs hs hlt (by simpa using hnt)
      ·cases hs
    all_goals right
    case inr.inl =>
     rcases hstep with⟨_,hs⟩ | ⟨_,hs⟩
     ·rw[qHC h1 hs]
     ·cases hs
    rcases h3 with⟨y',h3,h4⟩ | ⟨h3,_⟩
    case inr=>rw[hbx]at h3;cases h3
    rw[hbx]at h3;cases h3;rcases hstep with⟨_,hs⟩ | ⟨_,hs⟩
    ·have hks:k<=ops.size:=xy (Array.getElem?_eq_some_iff.1 hq).1;rcases qoA h1 hs with⟨b,off,g1,_,g2⟩ | ⟨r',i',o',ep',g1⟩
     ·rcases qp2 hT hks h2 with⟨off',g3⟩ | g3 | g3
      ·rw[g3]at g1;cases g1;exact g2 b' (xK h4)
      ·rw[g3]at g1;cases g1
      ·rw[g3]at g1;cases g1
     ·rcases qp2 hT hks h2 with⟨off',g3⟩ | g3 | g3
      ·rw[g3]at g1;cases g1
      ·rw[g3]at g1;cases g1
      ·rw[g3]at g1;cases g1
    ·cases hs
theorem qLa{t:TypeId}{a:Tmp}(hop:o.op = .load t (.tmp a))(hbx:ji s0.tm ops j a=none):(F ops.toList l s0 L ops.size).σ.rw=(F ops.toList l s0 qv j).σ.rw:=by
 have hrd:JW o.op=true:=by rw[hop];rfl
 refine qzv hT hk hd ho hL (λ σ => σ.rw) (by rw[hop];rfl) ?_;intro k q y σ' hq hy hne hy2 hl;cases hap:qjy s0.tm ops j o k q with
 | false=>exact .inl (ord hk hd ho hq hne (by simp only[qj2,qpO,hl,hrd,hap,vh,xA,xz,vt]) hL hp)
 | true =>
   obtain⟨z,hz,hstep,_⟩:=hT.st k q hq;rw[hy]at hz;cases hz;obtain⟨y1,y2⟩:=y;simp only at hy2;subst hy2;rcases qvg hop hap with⟨t',c,v,x,h1,h2,_⟩ | ⟨h,_⟩ | ⟨h,_⟩
   case inr.inl=>exact absurd hbx h
   case inr.inr=>exact absurd hbx h
   right;have hks:k<=ops.size:=xy (Array.getElem?_eq_some_iff.1 hq).1;rcases hstep with⟨_,hs⟩ | ⟨_,hs⟩
   ·rcases qoA h1 hs with⟨b,off,g1,g2,_⟩ | ⟨r',i',o',ep',g1⟩
    ·exact g2
    ·rcases qp2 hT hks h2 with⟨off',g3⟩ | g3 | g3<;>rw[g3]at g1<;>cases g1
   ·cases hs
theorem qtI:∃ y,qbZ C ex ops o (F ops.toList l s0 L ops.size) y/\F ops.toList l s0 (λ i=>decide (i=j)||L i) ops.size=yE (F ops.toList l s0 L ops.size) o y:=by
 have E:j<ops.size:=(Array.getElem?_eq_some_iff.1 ho).1;obtain⟨y,s,r,k⟩:=hT.st j o ho;refine⟨y,?_,?_⟩
 ·have D:=qpt (ops:=ops) (o:=o) λ t v=>qrE hT.recd hk hd ho hL hp v
  have n:=qtz (C:=C) (ex:=ex) (op:=o.op) (σ := (F ops.toList l s0 L ops.size).σ) (qrN (xs:=o.op.operands.toList) λ t v=>qrE hT.recd hk hd ho hL hp (t:=t) (by
   simp only[qfJ,ww];exact .inl (.inr v)))
  rcases r with⟨h,c⟩ | ⟨h,c⟩
  ·refine .inl ⟨D.trans h,?_⟩;rw[n];by_cases m:(JW o.op||yp C.lo o.op)=true
   ·by_cases e:∃ t a b,o.op = .load t (.tmp a)/\ji s0.tm ops j a=some b
    ·obtain⟨t,a,b,e1,q⟩:=e;have f:=qIc hT hk hd ho hL hp e1 q;rw[e1]at c |-
     have A:j<=ops.size:=xy E;simp only[opA,qc]at c |-
     split at c<;>try cases c
     rename_i d B;have u:aev (F ops.toList l s0 qv j).tm (.tmp a)=(F ops.toList l s0 qv j).tm.getD a .dead:=rfl;rw[u]at c |-
     rcases qp2 hT A q with⟨off,g⟩ | g | g
     ·rw[g]at c |-
      simp only[JJ]at c |-
      rw[f];exact c
     ·rw[g]at c;cases c
     ·rw[g]at c;cases c
    ·by_cases p:∃ t a,o.op = .load t (.tmp a)/\qeR s0.tm ops j a=true
     ·obtain⟨t,a,e1,q⟩:=p
      have w:=qLa hT hk hd ho hL hp e1 (by
       cases f:ji s0.tm ops j a with
       | none=>rfl
       | some b=>exact absurd ⟨t,a,b,e1,f⟩ e)
      rw[e1]at c |-
      simp only[opA,qc]at c |-
      split at c<;>try cases c
      rename_i d B;have u:aev (F ops.toList l s0 qv j).tm (.tmp a)=(F ops.toList l s0 qv j).tm.getD a .dead:=rfl;rw[u]at c |-
      rcases qLD hT (xy E) q with g | g | g
      ·cases G:(F ops.toList l s0 qv j).tm.getD a .dead<;>rw[G]at g c<;>first | (cases g;done) | skip
       ·simp only[JJ]at c |-
        rw[w];exact c
       ·exact c
      ·rw[g]at c;cases c
      ·rw[g]at c;cases c
     ·rw[qGV hT hk hd ho hL hp m (λ t a h=>⟨by
       cases f:ji s0.tm ops j a with
       | none=>rfl
       | some b=>exact absurd ⟨t,a,b,h,f⟩ e,by
       cases f:qeR s0.tm ops j a with
       | false=>rfl
       | true=>exact absurd ⟨t,a,h,f⟩ p⟩)];exact c
   ·simp only[kL,xI]at m;obtain⟨x,z⟩:=y;cases z with
    | none=>exact qAX m.1 m.2 c
    | some σ'=>have:=k rfl;rw[m.2]at this;cases this
  ·exact .inr ⟨D.trans h,c⟩
 ·exact qFs hT.recd hk hd ho hL hp s k
end
end Go.AmZ
