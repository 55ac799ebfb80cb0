/- Part 1 of what the proofs stand on: plain functions of the program, and that they are its functions. -/
import Derived.WalkKit
import Derived.WalkSpells
import Derived.WalkLawsBesides
import Derived.Lib.Hide
import Derived.Laws.AppendOwnNone
import Derived.BigQuiet
import Derived.Laws.CopyRow
import Derived.Laws.Pointers
import Derived.Laws.Small
import Derived.Laws.Tables
import Derived.ArgAppend
import Derived.Laws.AppendOwn
import Derived.Laws.MakeOwn
import Derived.Laws.BytesArg
import Derived.Deep.Upon
import Derived.Lib.ConvBytes
import Derived.Laws.Sem
import Derived.Orders
set_option linter.unusedVariables false
set_option linter.unusedSimpArgs false
namespace Go.GxZ
open Go.RowKit
theorem qCj {α : Type} (e:Ask α):∀ w:World,w.drawn<=(w.ask e).2.drawn:=by
 induction e with
 | done a=>exact λ w=>Nat.le_refl _
 | ask what range k ih =>
   intro w
   unfold World.ask
   dsimp only
   split
   ·exact ih _ w
   ·exact Nat.le_trans (Nat.le_succ _) (ih _ { w with drawn:=w.drawn+1 })
theorem qCA (w:World) (c:Sys):w.drawn<=(w.sys c).2.drawn:=by
 have h:=qCj (Kernel.perform c w.os) w
 unfold World.sys
 split
 ·exact Nat.le_refl _
 ·rename_i r os w' hne he
  rw [he] at h
  exact h
theorem qCx {p:Program} {w w':World} {a:Addr} {v:Value} {b:Bool} {l:List Addr} (h:w.farStore p a v b = .ok (w',l)):w'.drawn=w.drawn:=by
 unfold World.farStore at h
 split at h
 ·split at h
  ·rename_i r hr
   cases h
   unfold World.viewStore at hr
   simp only [bind,Except.bind,pure,Except.pure,throw,throwThe,MonadExceptOf.throw] at hr
   repeat' split at hr
   all_goals first | (cases hr;done) | (cases hr;rfl) | skip
  ·cases h
 ·cases h
theorem run_drawn {p:Program} {α : Type} (e:Sem α):∀ {w w':World} {a : α},e.run p w = .ok a w'->w.drawn<=w'.drawn:=by
 induction e with
 | pure a=>intro w w' b h;cases h;exact Nat.le_refl _
 | load m a k ih =>
   intro w w' b h
   simp only [Sem.run] at h
   split at h
   ·exact ih _ h
   ·split at h
    ·exact ih _ h
    ·cases h
 | store m a v k ih =>
   intro w w' b h
   cases v<;>simp only [Sem.run] at h<;>first
    | (cases h;done)
    | (split at h
       ·split at h
        ·cases h
        ·have:=ih h
         exact this
       ·split at h
        ·rename_i hf
         have:=ih h
         rw [qCx hf] at this
         exact this
        ·cases h)
 | new o k ih=>intro w w' b h;simp only [Sem.run] at h;have:=ih _ h;exact this
 | shape r k ih=>intro w w' b h;simp only [Sem.run] at h;exact ih _ h
 | freeze a n k ih =>
   intro w w' b h
   simp only [Sem.run] at h
   have:=ih h
   have e:(w.freeze a n).drawn=w.drawn:=by unfold World.freeze;split<;>rfl
   rw [e] at this
   exact this
 | frozen a k ih=>intro w w' b h;simp only [Sem.run] at h;exact ih _ h
 | getObj r k ih =>
   intro w w' b h
   simp only [Sem.run] at h
   split at h
   ·cases h
   ·exact ih _ h
   ·cases h
 | setObj r o k ih =>
   intro w w' b h
   simp only [Sem.run] at h
   split at h
   ·cases h
   ·have:=ih h
    exact this
   ·cases h
 | choose q k ih =>
   intro w w' b h
   simp only [Sem.run] at h
   split at h
   ·exact ih _ h
   ·exact Nat.le_trans (Nat.le_succ _) (ih _ h)
 | sys c k ih =>
   intro w w' b h
   simp only [Sem.run] at h
   exact Nat.le_trans (qCA w c) (ih _ h)
 | program k ih=>intro w w' b h;simp only [Sem.run] at h;exact ih _ h
 | mark m k ih=>intro w w' b h;simp only [Sem.run] at h;exact ih h
 | halt h=>intro w w' b h;simp only [Sem.run] at h;cases h
structure qH9 (B:Nat) (w:World) where
 val:World
 below:Below B w val
instance (B:Nat) (w:World):Nonempty (qH9 B w):=⟨⟨w,Below.refl _ _⟩⟩
end Go.GxZ
namespace Go.AmZ
open Go
inductive AV where
 | v (x:Value)
 | dead
 | sl (k:Nat) (es:List (List AV)) (lv:Nat)
 | rs (r lo n ep:Nat) (full:Bool)
 | ptr (b o:Nat)
 | rpt (r i o ep:Nat)
 | ept (cs:List AV) (o:Nat)
 | fn (f:FuncId) (caps:List AV)
 | agg (cs:List AV)
 | tup (vs:List AV)
 deriving Inhabited
structure Row where
 k:Nat
 c:List (List AV)
 ver:Nat
 fz:Nat
 off:Bool
structure St where
 bx:List (List AV)
 rw:List Row
 wr:List Nat
 wrr:List Nat
structure S where
 tm:List AV
 σ : St
inductive TK where
 | other | bool | int (k:IntKind) | string | ptr | slice (e esz ebytes:Nat) (ez:List Value) | struct (fs:List (Nat × Nat × Bool)) | array (n e esz:Nat)
structure TD where
 size:Nat
 bytes:Nat
 agg:Bool
 zero:List Value
 k:TK
def qoS:TypeDesc->Bool
 | .struct _ | .array _ _=>true
 | _=>false
def Ju (P:Program):List Field->Option (List (Nat × Nat × Bool))
 | []=>some []
 | f::fs=>match P.info? f.type,P.underlying f.type,Ju P fs with
   | some i,some u,some l=>some ((f.offset,i.size,qoS u)::l)
   | _,_,_=>none
def qal (P:Program):TypeDesc->Option TK
 | .bool=>some .bool
 | .int k=>some (.int k)
 | .string=>some .string
 | .pointer _=>some .ptr
 | .slice e=>match P.info? e with
   | some i=>match i.zero with
     | some z=>some (.slice e i.size i.bytes z.cells.toList)
     | none=>none
   | none=>none
 | .struct fs=>(Ju P fs.toList).map .struct
 | .array n e=>match P.info? e with
   | some i=>some (.array n e i.size)
   | none=>none
 | _=>some .other
def yM (P:Program) (t:TypeId):Option TD :=
 match P.info? t,P.underlying t with
 | some i,some u=>match i.zero,qal P u with
   | some z,some k=>some ⟨i.size,i.bytes,qoS u,z.cells.toList,k⟩
   | _,_=>none
 | _,_=>none
def iw (k:IntKind) (n:Int):Int:=k.wrap n
def qf (a b:Int):Int:=a+b
def qaC (a b:Int):Int:=a-b
def qC6 (a b:Int):Int:=a*b
def qE5 (a b:Int):Int:=a.tdiv b
def Ql (a b:Int):Int:=a.tmod b
def ieq (a b:Int):Bool:=a==b
def ilt (a b:Int):Bool:=decide (a<b)
def ile (a b:Int):Bool:=decide (a<=b)
def qdD (a b:Int):Int:=if a<b then b else a
def qDn (a b:Int):Int:=if b<a then b else a
def qjV (op:BinOp) (k:IntKind) (a b:Int):Int :=
 match op with
 | .and=>k.wrap (BitVec.ofInt k.bits a &&& BitVec.ofInt k.bits b).toNat
 | .or=>k.wrap (BitVec.ofInt k.bits a ||| BitVec.ofInt k.bits b).toNat
 | .xor=>k.wrap (BitVec.ofInt k.bits a ^^^ BitVec.ofInt k.bits b).toNat
 | _=>k.wrap (BitVec.ofInt k.bits a &&& ~~~BitVec.ofInt k.bits b).toNat
def qEt (k:IntKind) (a b:Int):Int:=k.wrap (a*2 ^ (min b.toNat k.bits))
def qkI (k:IntKind) (a b:Int):Int:=a.fdiv (2 ^ (min b.toNat k.bits))
def qd (a:Bool):Bool := !a
def qd2 (a b:Bool):Bool:=a==b
def xeq (a b:ByteArray):Bool:=a.data.toList==b.data.toList
def xlt (a b:ByteArray):Bool:=Op.bytesLess a.data.toList b.data.toList
def qmg (a b:Bool):Bool:=a||b
def qzP (a b:ByteArray):Option ByteArray:=if ((a.size+b.size:Nat):Int) > IntKind.i64.max then none else some (a++b)
def qjI (a:ByteArray):Nat:=a.size
def qAJ (s:ByteArray) (j:Int):Option Int:=if 0<=j then (match s.data.toList[j.toNat]? with
 | some b=>some b.toNat
 | none=>none) else none
def qw7 (s:ByteArray) (l h:Nat):ByteArray:=s.extract l h
def bnd (y:Nat) (i:Int):Option Nat:=if 0<=i/\i<=y then some i.toNat else none
def Jx (es:List (List AV)):Nat:=es.length
def qsg (es:List (List AV)) (j:Int):Option (List AV):=if 0<=j then es[j.toNat]? else none
def qAD (es:List (List AV)) (l h:Nat):List (List AV):=(es.take h).drop l
def qV (a b:Nat):Bool:=decide (a=b)
def lv1:Nat->Nat
 | 0=>0
 | _+1=>1
def lvS (f:Nat) (b:Bool):Nat:=match decide (1<f)&&b with | true=>2 | false=>1
def pos (n:Nat):Bool:=decide (0<n)
def qt:AV->Bool
 | .v _ | .sl _ _ _=>true
 | _=>false
def uni (k:Nat) (es:List (List AV)):Bool:=es.all λ e=>decide (e.length=k)&&e.all qt
def qkz (R:Row) (k lo n ep:Nat):Option (List (List AV)):=if R.k=k/\R.ver=ep/\lo+n<=R.c.length then some ((R.c.drop lo).take n) else none
def qvs (R:Row) (k lo n ep:Nat) (j:Int):Option Nat:=if R.k=k/\0<=j/\j<n/\R.ver=ep/\lo+n<=R.c.length then some (lo+j.toNat) else none
def qnz (R:Row) (i ep:Nat):Option (List AV):=if R.ver=ep then R.c[i]? else none
def qrH (R:Row) (k lo n ep:Nat) (f:Bool) (bytes:Nat) (xs:List (List AV)):Option (Row × Nat) :=
 if R.k=k/\R.ver=ep/\n=R.c.length/\lo=0/\f=false/\R.fz<=R.c.length/\(n+xs.length)*bytes<=2 ^ 47/\n+xs.length<2 ^ 62 then some ({ R with c:=R.c++xs,ver:=R.ver+1 },n+xs.length) else none
def rowNew (k bytes:Nat) (xs:List (List AV)):Option (Row × Nat):=if xs.length*bytes<=2 ^ 47/\xs.length<2 ^ 62 then some (⟨k,xs,0,0,false⟩,xs.length) else none
def qvo (R:Row) (k lo n ep l:Nat):Option Row :=
 if R.k=k/\R.ver=ep/\n=R.c.length/\lo=0/\l<=n/\R.fz<=R.c.length then some { R with c:=R.c.drop l,ver:=R.ver+1,fz:=R.fz-l,off:=true } else none
def qnp (R:Row) (i o ep size:Nat) (xs:List AV):Option Row:=match decide (R.ver=ep/\R.fz<=i/\o+size<=R.k/\xs.length=size/\R.off=false)&&xs.all qt,R.c[i]? with
 | true,some e=>some { R with c:=R.c.set i (e.take o++(xs++e.drop (o+size))) }
 | _,_=>none
def qaa (b:ByteArray):List (List AV):=b.data.toList.map λ c=>[.v (.int .u8 c.toNat)]
def qzV:List AV->Option UInt8
 | [.v (.int .u8 n)]=>some (UInt8.ofNat n.toNat)
 | _=>none
def qnt:List (List AV)->Option (List UInt8)
 | []=>some []
 | e::l=>match qzV e,qnt l with
   | some b,some r=>some (b::r)
   | _,_=>none
def qmt:AV->Bool
 | .ptr _ _ | .rpt _ _ _ _ | .ept _ _=>true
 | _=>false
def qvX:AV->Bool
 | .v (.pointer none)=>true
 | _=>false
def qm4:Option TD->Bool
 | some ⟨_,_,_,_,.int .u8⟩=>true
 | _=>false
def qg8 (es xs:List (List AV)):List (List AV):=es++xs
def qfN (R:Row):Row:={ R with fz:=max R.fz R.c.length }
def zO:Value->Bool
 | .bool _ | .int _ _ | .string _ | .pointer none | .slice none 0 0 | .map none | .nilFunc | .nilIface=>true
 | _=>false
def ofC (x:Value):AV:=match zO x with | true => .v x | false => .dead
def qnx:Value->AV
 | .agg cs=>match cs.toList.all zO with
   | true => .agg (cs.toList.map .v)
   | false => .dead
 | .tuple vs=>match vs.toList with
   | [] => .tup []
   | _ => .dead
 | x=>ofC x
def aev (tm:List AV):Operand->AV
 | .tmp t=>tm.getD t .dead
 | .const x=>qnx x
 | .func f => .fn f []
 | .global _ => .dead
def cellsOf:AV->List AV
 | .agg cs=>cs
 | x=>[x]
def isC:AV->Bool
 | .agg _ | .tup _ | .dead=>false
 | _=>true
def elems (rw:List Row) (k:Nat):AV->Option (List (List AV))
 | .v (.slice none 0 0)=>some []
 | .sl k' es _=>match qV k' k with
   | true=>some es
   | false=>none
 | .rs r lo n ep _=>match rw[r]? with
   | some R=>qkz R k lo n ep
   | none=>none
 | _=>none
def qW (rw:List Row):AV->AV
 | .sl k es f => .sl k es (lv1 f)
 | .rs r lo n ep _=>match rw[r]? with
   | some R=>match qkz R R.k lo n ep with
     | some es => .sl R.k es 1
     | none => .dead
   | none => .dead
 | x=>x
def ju (rw:List Row):AV->AV
 | .agg cs => .agg (cs.map (qW rw))
 | x=>qW rw x
def rsC:AV->List Nat
 | .rs r _ _ _ _=>[r]
 | _=>[]
def rsA:AV->List Nat
 | .agg cs=>cs.flatMap rsC
 | x=>rsC x
def frz (rw:List Row) (rs:List Nat):List Row:=rs.foldl (λ l r=>l.modify r qfN) rw
mutual
def rb:AV->List Nat
 | .ptr b _=>[b]
 | .fn _ cs=>rbL cs
 | .agg cs=>rbL cs
 | .tup cs=>rbL cs
 | _=>[]
def rbL:List AV->List Nat
 | []=>[]
 | x::l=>rb x++rbL l
end
mutual
def rr:AV->List Nat
 | .rs r _ _ _ _=>[r]
 | .rpt r _ _ _=>[r]
 | .fn _ cs=>rrL cs
 | .agg cs=>rrL cs
 | .tup cs=>rrL cs
 | _=>[]
def rrL:List AV->List Nat
 | []=>[]
 | x::l=>rr x++rrL l
end
mutual
def ren (fb fr:Nat->Nat):AV->AV
 | .ptr b o => .ptr (fb b) o
 | .rs r lo n ep f => .rs (fr r) lo n ep f
 | .rpt r i o ep => .rpt (fr r) i o ep
 | .fn f cs => .fn f (qO fb fr cs)
 | .agg cs => .agg (qO fb fr cs)
 | .tup cs => .tup (qO fb fr cs)
 | x=>x
def qO (fb fr:Nat->Nat):List AV->List AV
 | []=>[]
 | x::l=>ren fb fr x::qO fb fr l
end
def refs (nb nr:Nat) (x:AV):Bool:=(rb x).any (λ b=>decide (nb<=b))||(rr x).any λ r=>decide (nr<=r)
def qo8 (nr:Nat) (rw:List Row):AV->AV
 | .sl k es f => .sl k es (lv1 f)
 | .rs r lo n ep f=>match decide (nr<=r) with
   | true=>qW rw (.rs r lo n ep f)
   | false => .rs r lo n ep f
 | x=>x
def qfS (nr:Nat) (rw:List Row):AV->AV
 | .agg cs => .agg (cs.map (qo8 nr rw))
 | x=>qo8 nr rw x
def qeY (nr:Nat) (rw:List Row):AV->AV
 | .tup vs => .tup (vs.map (qfS nr rw))
 | x=>qfS nr rw x
def qbn (agg:Bool) (size:Nat) (cs:List AV) (o:Nat):Option AV :=
 match agg with
 | true=>match decide (o+size<=cs.length) with
   | true=>some (.agg ((cs.drop o).take size))
   | false=>none
 | false=>cs[o]?
def Qo (d:TD) (σ : St):AV->Option AV
 | .ptr b o=>match σ.bx[b]? with
   | some cs=>qbn d.agg d.size cs o
   | none=>none
 | .rpt r i o ep=>match σ.rw[r]? with
   | some R=>match qnz R i ep with
     | some cs=>qbn d.agg d.size cs o
     | none=>none
   | none=>none
 | .ept cs o=>qbn d.agg d.size cs o
 | _=>none
def qxl (op:BinOp) (k:IntKind) (a b:Int):Option Value :=
 match op with
 | .add=>some (.int k (iw k (qf a b)))
 | .sub=>some (.int k (iw k (qaC a b)))
 | .mul=>some (.int k (iw k (qC6 a b)))
 | .quo=>match ieq b 0 with
   | true=>none
   | false=>some (.int k (iw k (qE5 a b)))
 | .rem=>match ieq b 0 with
   | true=>none
   | false=>some (.int k (Ql a b))
 | .and=>some (.int k (qjV .and k a b))
 | .or=>some (.int k (qjV .or k a b))
 | .xor=>some (.int k (qjV .xor k a b))
 | .andNot=>some (.int k (qjV .andNot k a b))
 | .eql=>some (.bool (ieq a b))
 | .neq=>some (.bool (qd (ieq a b)))
 | .lss=>some (.bool (ilt a b))
 | .leq=>some (.bool (ile a b))
 | .gtr=>some (.bool (ilt b a))
 | .geq=>some (.bool (ile b a))
 | _=>none
def qwv (op:BinOp) (x y:ByteArray):Option Value :=
 match op with
 | .add=>match qzP x y with
   | some z=>some (.string z)
   | none=>none
 | .eql=>some (.bool (xeq x y))
 | .neq=>some (.bool (qd (xeq x y)))
 | .lss=>some (.bool (xlt x y))
 | .leq=>some (.bool (qmg (xlt x y) (xeq x y)))
 | .gtr=>some (.bool (qd (qmg (xlt x y) (xeq x y))))
 | .geq=>some (.bool (qd (xlt x y)))
 | _=>none
def ql6 (op:BinOp) (x y:Value):Option Value :=
 match x,y with
 | .int k a,.int k' b=>match op with
   | .shl=>match ilt b 0 with
     | true=>none
     | false=>some (.int k (qEt k a b))
   | .shr=>match ilt b 0 with
     | true=>none
     | false=>some (.int k (qkI k a b))
   | op=>match decide (k=k') with
     | true=>qxl op k a b
     | false=>none
 | .string a,.string b=>qwv op a b
 | _,_=>none
def unA (op:UnOp) (x:Value):Option Value :=
 match op,x with
 | .neg,.int k n=>some (.int k (iw k (qaC 0 n)))
 | .not,.bool b=>some (.bool (qd b))
 | _,_=>none
def qix (place:Nat->Option (Nat × Nat)) (cells:List AV):List (Nat × AV)->Option (List AV)
 | []=>some cells
 | (i,x)::rest=>match place i with
   | none=>none
   | some (off,size)=>match decide ((cellsOf x).length=size)&&decide (off+size<=cells.length)&&(cellsOf x).all isC with
     | true=>qix place (cells.take off++(cellsOf x++cells.drop (off+size))) rest
     | false=>none
def qrF (y:Nat):AV->Option Nat
 | .v (.int _ i)=>bnd y i
 | _=>none
def qaX (d:Nat) (y:Nat):Option AV->Option Nat
 | none=>some d
 | some x=>qrF y x
structure Cfg where
 ty:Nat->Option TD
 fn:Nat->Option Func
 prim:Nat->Option (St->List AV->Option (AV × Option St))
 raw:Nat->Bool
 pur:Code->List Nat
 lo:Nat->Bool
def qeK (k n:Nat) (rw:List Row) (ps:List (Nat × AV)):Bool :=
 decide (ps.length=n)&&decide (n*k<=2 ^ 24)&&decide (0<k)&&(ps.zipIdx).all λ p=>decide (p.1.1=p.2)&&decide ((cellsOf p.1.2).length=k)&&(cellsOf p.1.2).all λ x=>qt (qW rw x)
def qb (C:Cfg) (tm:List AV) (σ : St) (op:Op):Option (AV × Option St) :=
 match op with
 | .move x | .assign x=>some (aev tm x,none)
 | .pick c a b=>match aev tm c with
   | .v (.bool true)=>some (aev tm a,none)
   | .v (.bool false)=>some (aev tm b,none)
   | _=>none
 | .alloc e=>match C.ty e with
   | some d=>match d.zero.all zO with
     | true=>some (.ptr σ.bx.length 0,some { σ with bx := σ.bx++[d.zero.map .v] })
     | false=>none
   | none=>none
 | .box e x=>match C.ty e with
   | some _=>match (cellsOf (aev tm x)).all isC with
     | true=>some (.ptr σ.bx.length 0,some { σ with bx := σ.bx++[cellsOf (aev tm x)] })
     | false=>none
   | none=>none
 | .build t parts=>match C.ty t with
   | some ⟨_,_,_,z,.struct fs⟩=>match z.all zO with
     | true=>match qix (λ i=>match fs[i]? with | some f=>some (f.1,f.2.1) | none=>none) (z.map .v) (parts.toList.map λ p=>(p.1,aev tm p.2)) with
       | some cs=>some (.agg cs,none)
       | none=>none
     | false=>none
   | _=>none
 | .buildSlice t n parts=>match C.ty t with
   | some ⟨_,_,_,_,.slice _ k _ _⟩ =>
     match qeK k n σ.rw (parts.toList.map λ p=>(p.1,aev tm p.2)) with
     | true=>match parts.toList.flatMap λ p=>rsA (aev tm p.2) with
       | []=>some (.sl k (parts.toList.map λ p=>(cellsOf (aev tm p.2)).map (qW σ.rw)) 2,none)
       | r::l=>some (.sl k (parts.toList.map λ p=>(cellsOf (aev tm p.2)).map (qW σ.rw)) 2,some { σ with rw:=frz σ.rw (r::l),wrr:=(r::l) ++ σ.wrr })
     | false=>none
   | _=>none
 | .load t a=>match C.ty t with
   | some d=>match Qo d σ (aev tm a) with
     | some x=>some (x,none)
     | none=>none
   | none=>none
 | .store t a x=>match C.ty t,aev tm a with
   | some d,.ptr b o=>match σ.bx[b]? with
     | some cs=>match decide ((cellsOf (aev tm x)).length=d.size)&&decide (o+d.size<=cs.length)&&(cellsOf (aev tm x)).all isC with
       | true=>some (undefA',some { σ with bx := σ.bx.set b (cs.take o++(cellsOf (aev tm x)++cs.drop (o+d.size))),wr:=b :: σ.wr })
       | false=>none
     | none=>none
   | some d,.rpt r i o ep=>match σ.rw[r]? with
     | some R=>match qnp R i o ep d.size (cellsOf (aev tm x)) with
       | some R'=>some (undefA',some { σ with rw := σ.rw.set r R',wrr:=r :: σ.wrr })
       | none=>none
     | none=>none
   | _,_=>none
 | .makeSlice t n m=>match C.ty t,aev tm n,aev tm m with
   | some ⟨_,_,_,_,.slice _ k bytes z⟩,.v (.int _ a),.v (.int _ b)=>match decide (a=b/\0<=a/\a.toNat*bytes<=2 ^ 47/\a.toNat<2 ^ 62/\0<k/\z.length=k)&&z.all zO&&(z.map .v).all qt with
     | true=>match qV a.toNat 0 with
       | true=>some (.sl k [] 2,none)
       | false=>some (.rs σ.rw.length 0 a.toNat 0 false,some { σ with rw := σ.rw++[⟨k,List.replicate a.toNat (z.map .v),0,0,false⟩] })
     | false=>none
   | _,_,_=>none
 | .nilCheck x=>match aev tm x with
   | .ptr b o=>some (.ptr b o,none)
   | .rpt r i o ep=>some (.rpt r i o ep,none)
   | .ept cs o=>some (.ept cs o,none)
   | _=>none
 | .binOp op t x y _=>match aev tm x,aev tm y with
   | .v (.bool a),.v (.bool b)=>match op,C.ty t with
     | .eql,some ⟨_,_,_,_,.bool⟩=>some (.v (.bool (qd2 a b)),none)
     | .neq,some ⟨_,_,_,_,.bool⟩=>some (.v (.bool (qd (qd2 a b))),none)
     | _,_=>none
   | .v (.pointer none),.v (.pointer none)=>match op,C.ty t with
     | .eql,some ⟨_,_,_,_,.ptr⟩=>some (.v (.bool true),none)
     | .neq,some ⟨_,_,_,_,.ptr⟩=>some (.v (.bool false),none)
     | _,_=>none
   | .v a,.v b=>match ql6 op a b with
     | some z=>some (.v z,none)
     | none=>none
   | a,b=>match qmt a&&qvX b,op,C.ty t with
     | true,.eql,some ⟨_,_,_,_,.ptr⟩=>some (.v (.bool false),none)
     | true,.neq,some ⟨_,_,_,_,.ptr⟩=>some (.v (.bool true),none)
     | _,_,_=>none
 | .unOp op _ x=>match aev tm x with
   | .v a=>match unA op a with
     | some z=>some (.v z,none)
     | none=>none
   | _=>none
 | .convert s d x=>match C.ty s,C.ty d,aev tm x with
   | some _,some ⟨_,_,_,_,.int k⟩,.v (.int _ n)=>some (.v (.int k (iw k n)),none)
   | some _,some ⟨_,_,_,_,.string⟩,.v (.string s)=>some (.v (.string s),none)
   | some ⟨_,_,_,_,.string⟩,some ⟨_,_,_,_,.slice e 1 _ _⟩,.v (.string b)=>match qm4 (C.ty e) with
     | true=>some (.rs σ.rw.length 0 b.size 0 false,some { σ with rw := σ.rw++[⟨1,qaa b,0,0,false⟩] })
     | false=>none
   | some ⟨_,_,_,_,.slice e 1 _ _⟩,some ⟨_,_,_,_,.string⟩,y=>match qm4 (C.ty e),elems σ.rw 1 y with
     | true,some es=>match qnt es with
       | some l=>some (.v (.string ⟨l.toArray⟩),none)
       | none=>none
     | _,_=>none
   | _,_,_=>none
 | .makeFunc (.func f) fs cs=>match fs.toList with
   | []=>some (.fn f (cs.toList.map (aev tm)),none)
   | _=>none
 | .slice t x lo hi none=>match C.ty t,aev tm x with
   | some ⟨_,_,_,_,.string⟩,.v (.string s)=>match qaX (qjI s) (qjI s) (hi.map (aev tm)) with
     | some h=>match qaX 0 h (lo.map (aev tm)) with
       | some l=>some (.v (.string (qw7 s l h)),none)
       | none=>none
     | none=>none
   | some ⟨_,_,_,_,.slice _ k _ _⟩,.sl k' es f=>match qV k' k&&pos f with
     | true=>match qaX (Jx es) (Jx es) (hi.map (aev tm)) with
       | some h=>match qaX 0 h (lo.map (aev tm)) with
         | some l=>some (.sl k (qAD es l h) (lvS f (qV h (Jx es))),none)
         | none=>none
       | none=>none
     | false=>none
   | some ⟨_,_,_,_,.slice _ _ _ _⟩,.v (.slice none 0 0)=>match qaX 0 0 (hi.map (aev tm)) with
     | some h=>match qaX 0 h (lo.map (aev tm)) with
       | some _=>some (.v (.slice none 0 0),none)
       | none=>none
     | none=>none
   | some ⟨_,_,_,_,.slice _ k _ _⟩,.rs r o n ep _=>match qaX n n (hi.map (aev tm)),σ.rw[r]? with
     | some h,some R=>match qaX 0 h (lo.map (aev tm)) with
       | some l=>match qV h n,qvo R k o n ep l with
         | true,some R'=>some (.rs r 0 (n-l) (ep+1) false,some { σ with rw := σ.rw.set r R',wrr:=r :: σ.wrr })
         | _,_=>none
       | none=>none
     | _,_=>none
   | _,_=>none
 | .fieldAddr t x i=>match C.ty t with
   | some ⟨_,_,_,_,.struct fs⟩=>match fs[i]? with
     | some (off,size,_)=>match size with
       | 0=>none
       | _+1=>match aev tm x with
         | .ptr b o=>some (.ptr b (o+off),none)
         | .rpt r j o ep=>some (.rpt r j (o+off) ep,none)
         | .ept cs o=>some (.ept cs (o+off),none)
         | _=>none
     | none=>none
   | _=>none
 | .field t x i=>match C.ty t,aev tm x with
   | some ⟨_,_,_,_,.struct fs⟩,.agg cs=>match fs[i]? with
     | some (off,size,g)=>match qbn g size cs off with
       | some y=>some (y,none)
       | none=>none
     | none=>none
   | _,_=>none
 | .indexAddr t x i=>match C.ty t,aev tm i with
   | some ⟨_,_,_,_,.slice _ k _ _⟩,.v (.int _ j)=>match aev tm x with
     | .sl k' es _=>match qV k' k with
       | true=>match qsg es j with
         | some cs=>some (.ept cs 0,none)
         | none=>none
       | false=>none
     | .rs r lo n ep _=>match σ.rw[r]? with
       | some R=>match qvs R k lo n ep j with
         | some p=>some (.rpt r p 0 ep,none)
         | none=>none
       | none=>none
     | _=>none
   | some ⟨_,_,_,_,.array n _ k⟩,.v (.int _ j)=>match aev tm x with
     | .ptr b o=>match decide (0<=j/\j<(n:Int)) with
       | true=>some (.ptr b (o+j.toNat*k),none)
       | false=>none
     | _=>none
   | _,_=>none
 | .index t x i=>match C.ty t,aev tm x,aev tm i with
   | some ⟨_,_,_,_,.string⟩,.v (.string s),.v (.int _ j)=>match qAJ s j with
     | some b=>some (.v (.int .u8 b),none)
     | none=>none
   | _,_,_=>none
 | .extract x i=>match aev tm x with
   | .tup vs=>match vs[i]? with
     | some y=>some (y,none)
     | none=>none
   | _=>none
 | _=>none
where undefA':AV := .tup []
def zF (k bytes:Nat) (σ : St) (s:AV) (xs:List (List AV)):Option (AV × Option St) :=
 match s with
 | .v (.slice none 0 0)=>match qV (Jx xs) 0 with
   | true=>some (.v (.slice none 0 0),none)
   | false=>match rowNew k bytes xs with
     | some (R,n)=>some (.rs σ.rw.length 0 n 0 false,some { σ with rw := σ.rw++[R] })
     | none=>none
 | .sl k' es f=>match qV (Jx xs) 0 with
   | true=>match pos f with
     | true=>some (.sl k' es f,none)
     | false=>none
   | false=>match decide (1<f)&&qV k' k&&uni k es with
     | true=>match rowNew k bytes (qg8 es xs) with
       | some (R,n)=>some (.rs σ.rw.length 0 n 0 false,some { σ with rw := σ.rw++[R] })
       | none=>none
     | false=>none
 | .rs r lo n ep f=>match qV (Jx xs) 0 with
   | true=>some (.rs r lo n ep f,none)
   | false=>match σ.rw[r]? with
     | some R=>match qrH R k lo n ep f bytes xs with
       | some (R',m)=>some (.rs r 0 m (ep+1) false,some { σ with rw := σ.rw.set r R',wrr:=r :: σ.wrr })
       | none=>none
     | none=>none
 | _=>none
def JQ:TK->Bool
 | .slice .. => true
 | _=>false
def qg0:TK->Bool
 | .string=>true
 | _=>false
def qeS (d:TD):AV->Option Nat
 | .v (.string s)=>match qg0 d.k with | true=>some (qjI s) | false=>none
 | .v (.slice none 0 0)=>match JQ d.k with | true=>some 0 | false=>none
 | .sl _ es _=>match JQ d.k with | true=>some (Jx es) | false=>none
 | .rs _ _ n _ _=>match JQ d.k with | true=>some n | false=>none
 | _=>none
def yu (C:Cfg) (σ : St) (b:Builtin) (ts:Array TypeId) (args:List AV):Option (AV × Option St) :=
 match b,args with
 | .len,[x]=>match ts[0]? with
   | some t=>match C.ty t with
     | some d=>match qeS d x with
       | some n=>some (.v (.int .i64 n),none)
       | none=>none
     | none=>none
   | none=>none
 | .append,[s,x]=>match ts[0]?,ts[1]? with
   | some t,some u=>match C.ty t,C.ty u with
     | some ⟨_,_,_,_,.slice _ k bytes z⟩,some ⟨_,_,_,_,.slice _ _ _ _⟩=>match decide (0<k)&&decide (z.length=k) with
       | true=>match elems σ.rw k x with
         | some xs=>match uni k xs with
           | true=>zF k bytes σ s xs
           | false=>none
         | none=>none
       | false=>none
     | some ⟨_,_,_,_,.slice e 1 bytes z⟩,some ⟨_,_,_,_,.string⟩=>match decide (z.length=1)&&qm4 (C.ty e),x with
       | true,.v (.string b)=>zF 1 bytes σ s (qaa b)
       | _,_=>none
     | _,_=>none
   | _,_=>none
 | .max,[.v (.int k a),.v (.int k' b)]=>match decide (k=k') with | true=>some (.v (.int k (qdD a b)),none) | false=>none
 | .min,[.v (.int k a),.v (.int k' b)]=>match decide (k=k') with | true=>some (.v (.int k (qDn a b)),none) | false=>none
 | _,_=>none
inductive Ex where
 | normal | exit (id:Nat) | ret
 deriving DecidableEq
def qj4 (σ : St) (res:AV) (σ':St):Bool :=
 refs σ.bx.length σ.rw.length (qeY σ.rw.length σ'.rw res)||(σ'.wr.filter λ b=>decide (b < σ.bx.length)).any λ b=>(σ'.bx.getD b []).any (refs σ.bx.length σ.rw.length)
def JS (σ : St) (res:AV) (σ':St):AV × Option St :=
 match qj4 σ res σ' with
 | true=>(res,some { σ' with wr := σ'.wr.filter λ b=>decide (b < σ.bx.length),wrr := σ'.wrr.filter λ b=>decide (b < σ.rw.length) })
 | false=>match (σ'.wr.filter λ b=>decide (b < σ.bx.length)) ++ σ'.wrr.filter λ b=>decide (b < σ.rw.length) with
   | []=>(qeY σ.rw.length σ'.rw res,none)
   | _::_=>(qeY σ.rw.length σ'.rw res,some ⟨σ'.bx.take σ.bx.length,σ'.rw.take σ.rw.length,σ'.wr.filter λ b=>decide (b < σ.bx.length),σ'.wrr.filter λ b=>decide (b < σ.rw.length)⟩)
def qgL (C:Cfg) (tm:List AV) (σ : St):ResultVar->Option AV
 | .tmp t=>some (tm.getD t .dead)
 | .cell a t=>match C.ty t with
   | some d=>Qo d σ (tm.getD a .dead)
   | none=>none
def yZ (C:Cfg) (tm:List AV) (σ : St):List ResultVar->Option (List AV)
 | []=>some []
 | r::l=>match qgL C tm σ r with
   | some x=>match yZ C tm σ l with
     | some xs=>some (x::xs)
     | none=>none
   | none=>none
def zw:List AV->AV
 | [x]=>x
 | l => .tup l
def qeI (C:Cfg) (fn:Func) (s:S):Option AV :=
 match yZ C s.tm s.σ fn.results.toList with
 | some l=>some (zw l)
 | none=>none
abbrev Qd:=Code->S->Option (Ex × S)
def qea (fn:Func) (σ : St) (args:List AV):S:=⟨args++List.replicate (fn.ntmps-args.length) .dead,{ σ with wr:=[],wrr:=[] }⟩
def qfp (C:Cfg) (fn:Func) (σ : St) (s':S):Option (AV × Option St) :=
 match qeI C fn s' with
 | some r=>some (JS σ r s'.σ)
 | none=>none
def qbJ (C:Cfg) (ex:Qd) (σ : St) (f:FuncId) (args:List AV):Option (AV × Option St) :=
 match C.prim f with
 | some p=>p σ args
 | none=>match C.fn f with
   | none=>none
   | some fn=>match fn.body with
     | none=>none
     | some c=>match ex c (qea fn σ args) with
       | some (.ret,s')=>qfp C fn σ s'
       | some (.normal,s')=>qfp C fn σ s'
       | _=>none
def qe (l:List Nat):List Nat->List Nat
 | []=>[]
 | b::bs=>match l.contains b with
   | true=>qe l bs
   | false=>b::qe (b::l) bs
def qiV (bx:List (List AV)):Nat->List Nat->List Nat
 | 0,l=>l
 | n+1,l=>match qe l (l.flatMap λ b=>rbL (bx.getD b [])) with
   | []=>l
   | b::bs=>qiV bx n (l++(b::bs))
def Qk (σ : St) (args:List AV):List Nat:=qiV σ.bx σ.bx.length (qe [] (rbL args))
def qbE (σ : St) (args:List AV):List Nat:=qe [] (rrL args++(Qk σ args).flatMap λ b=>rrL (σ.bx.getD b []))
def nd:List Nat->Bool
 | []=>true
 | b::l => !l.contains b&&nd l
def qgg (σ : St) (args:List AV):Bool :=
 nd (Qk σ args)&&nd (qbE σ args) &&   (rbL args).all (λ b=>(Qk σ args).contains b)&&(rrL args).all (λ r=>(qbE σ args).contains r)&&(Qk σ args).all (λ b=>decide (b < σ.bx.length)&&(rbL (σ.bx.getD b [])).all (λ b=>(Qk σ args).contains b)&&(rrL (σ.bx.getD b [])).all λ r=>(qbE σ args).contains r)&&(qbE σ args).all λ r=>decide (r < σ.rw.length)
def qG (σ : St) (bs rs:List Nat):St :=
 ⟨bs.map λ b=>qO (λ b=>bs.idxOf b) (λ r=>rs.idxOf r) (σ.bx.getD b []),rs.map λ r => σ.rw.getD r ⟨0,[],0,0,false⟩,[],[]⟩
def zl (l:List Nat) (n i:Nat):Nat:=match l[i]? with
 | some b=>b
 | none=>n+(i-l.length)
def zu {α : Type} (l:List α):List Nat->List α -> List α
 | [],xs=>l++xs
 | _,[]=>l
 | b::bs,x::xs=>zu (l.set b x) bs xs
def qek (σ : St) (bs rs:List Nat) (σ':St):St :=
 ⟨zu σ.bx bs (σ'.bx.map (qO (zl bs σ.bx.length) (zl rs σ.rw.length))),zu σ.rw rs σ'.rw,σ'.wr.map (zl bs σ.bx.length) ++ σ.wr,σ'.wrr.map (zl rs σ.rw.length) ++ σ.wrr⟩
def qgi (σ : St) (bs rs:List Nat):AV × Option St->AV × Option St
 | (r,none)=>(ren (zl bs σ.bx.length) (zl rs σ.rw.length) r,none)
 | (r,some σ')=>(ren (zl bs σ.bx.length) (zl rs σ.rw.length) r,some (qek σ bs rs σ'))
def qfj (C:Cfg) (σ : St) (f:FuncId) (args:List AV):List AV × Option St :=
 match C.raw f with
 | true=>(args,none)
 | false=>match args.flatMap rsA with
   | []=>(args.map (ju σ.rw),none)
   | r::l=>(args.map (ju σ.rw),some { σ with rw:=frz σ.rw (r::l),wrr:=(r::l) ++ σ.wrr })
def JH (σ : St) (args:List AV) (call:St->List AV->Option (AV × Option St)):Option (AV × Option St) :=
 match qgg σ args with
 | true=>match call (qG σ (Qk σ args) (qbE σ args)) (qO (λ b=>(Qk σ args).idxOf b) (λ r=>(qbE σ args).idxOf r) args) with
   | some r=>some (qgi σ (Qk σ args) (qbE σ args) r)
   | none=>none
 | false=>none
def isV:AV->Bool
 | .v _=>true
 | _=>false
def qc8:AV->Bool
 | .tup vs=>vs.all isV
 | x=>isV x
def qqr (args:List AV) (σ : St):Option (AV × Option St)->Option (AV × Option St)
 | some (r,none)=>match qc8 r&&(rbL args).isEmpty&&(rrL args).isEmpty with
   | true=>some (r,none)
   | false=>some (r,some σ)
 | r=>r
def qev (C:Cfg) (ex:Qd) (σ : St) (f:FuncId) (args:List AV):Option (AV × Option St) :=
 match qfj C σ f args with
 | (args,none)=>JH σ args λ σ args=>qbJ C ex σ f args
 | (args,some σ')=>qqr args σ' (JH σ' args λ σ args=>qbJ C ex σ f args)
def qgM (tm:List AV):Callee->Option (FuncId × List AV)
 | .value f=>match aev tm f with
   | .fn f caps=>some (f,caps)
   | _=>none
 | _=>none
def opA (C:Cfg) (ex:Qd) (tm:List AV) (σ : St) (op:Op):Option (AV × Option St) :=
 match op with
 | .call c=>match c.callee with
   | .builtin b=>yu C σ b c.argTypes (c.args.toList.map (aev tm))
   | cl=>match qgM tm cl with
     | some (f,caps)=>qev C ex σ f (c.args.toList.map (aev tm)++caps)
     | none=>none
 | op=>qb C tm σ op
def ya (ops:Array Oper) (tm:List AV) (o:Oper):Option Bool :=
 match o.guard with
 | none=>some true
 | some (j,want)=>match (ops[j]?).bind (·.dst) with
   | none=>none
   | some d=>match tm.getD d .dead with
     | .v (.bool b)=>some (qd2 b want)
     | .tup []=>some false
     | _=>none
def qaj (tm:List AV):Option Tmp->AV->List AV
 | none,_=>tm
 | some d,x=>tm.set d x
def qgU:AV := .tup []
def zK (raw:Nat->Bool):Op->Bool
 | .store .. => true
 | .call { callee := .builtin .append,.. }=>true
 | .call { callee := .value (.func f),.. }=>raw f
 | _=>false
def turn (σ : St):Option St->St
 | none => σ
 | some σ' => σ'
def Qz:Op->Bool
 | .load .. | .store .. | .indexAddr .. | .convert .. => true
 | .call { callee := .builtin .len,.. } | .call { callee := .builtin .max,.. } | .call { callee := .builtin .min,.. }=>false
 | .call _=>true
 | _=>false
def yO (o:Oper):List Nat:=(o.after.toList.filter (Region.binds .any)).map (·.on)
def qiX (bs:List Nat) (o:Oper):Nat:=(yO o).foldl (λ m e=>m ||| (2 ^ e ||| bs.getD e 0)) 0
def Qq:List Oper->List Nat->List Nat
 | [],bs=>bs
 | o::r,bs=>Qq r (bs++[qiX bs o])
def qcG (ops:Array Oper) (o:Oper):List Tmp :=
 o.dst.toList++(o.op.operands.toList.filterMap λ | .tmp t=>some t | _=>none)++match o.guard with
  | none=>[]
  | some (j,_)=>((ops[j]?).bind (·.dst)).toList
def qnv (t:Tmp) (o:Oper):Bool:=match o.dst with
 | some d=>Nat.beq d t
 | none=>false
def qbu (ops:List Oper) (t:Tmp):List (Oper × Nat):=ops.zipIdx.filter λ p=>qnv t p.1
def qDI:Op->Option Tmp
 | .fieldAddr _ (.tmp u) _=>some u
 | .move (.tmp u)=>some u
 | .assign (.tmp u)=>some u
 | .nilCheck (.tmp u)=>some u
 | _=>none
def qip (ops:Array Oper):Nat->Nat->Tmp->Option Tmp
 | 0,_,_=>none
 | n+1,k,t=>match qbu ops.toList t with
   | []=>some t
   | [(o,i)]=>match qDI o.op,decide (i<k) with
     | some u,true=>qip ops n i u
     | _,_=>none
   | _=>none
def qvp (ops:Array Oper) (k:Nat) (t:Tmp):Option Tmp:=qip ops 6 k t
def yt (tm:List AV) (ops:Array Oper) (k:Nat) (t:Tmp):Option Nat:=match qvp ops k t with
 | some u=>match tm.getD u .dead with
   | .ptr b _=>some b
   | _=>none
 | none=>none
def qDi:AV->Bool
 | .rpt .. => true
 | .ept .. => true
 | _=>false
def qca (tm:List AV) (ops:Array Oper) (k:Nat) (t:Tmp):Bool:=match qvp ops k t with
 | some u=>qDi (tm.getD u .dead)
 | none=>false
def qfu (tm:List AV) (ops:Array Oper) (j:Nat) (o:Oper) (i:Nat) (q:Oper):Bool:=match o.op,q.op with
 | .store _ (.tmp a) _,.load _ (.tmp b)=>match yt tm ops j a,yt tm ops i b with
   | some x,some y => !Nat.beq x y
   | some _,none=>qca tm ops i b
   | _,_=>false
 | .call ⟨.builtin .append,_,_⟩,.load _ (.tmp b)=>(yt tm ops i b).isSome
 | .call ⟨.value _,_,_⟩,.load _ (.tmp b)=>(yt tm ops i b).isSome
 | _,_=>false
def qfH (tm:List AV) (ops:Array Oper) (j:Nat) (o:Oper) (i:Nat) (q:Oper):Bool:=qfu tm ops j o i q||qfu tm ops i q j o
def qrG (C:Cfg) (tm:List AV) (σ : St):Op->List Nat
 | .call ⟨.value g,as,_⟩=>match qgM tm (.value g) with
   | some (f,caps)=>match qfj C σ f (as.toList.map (aev tm)++caps) with
     | (args,none)=>Qk σ args
     | (args,some σ')=>Qk σ' args
   | none=>[]
 | _=>[]
def qsc:Op->Bool
 | .call ⟨.value _,_,_⟩=>true
 | _=>false
def qaI (C:Cfg) (ops:Array Oper) (j:Nat) (tm:List AV) (σ : St) (op:Op):Bool := !qsc op||ops.toList.zipIdx.all λ (q,i)=>match q.op with
 | .load _ (.tmp a)=>((Qq ops.toList []).getD (max i j) 0).testBit (min i j)||match yt tm ops i a with
   | some y=>decide (y < σ.bx.length) && !(qrG C tm σ op).contains y
   | none=>false
 | _=>true
def zr (C:Cfg) (ex:Qd) (ops:Array Oper) (draw:Bool):List Oper->S->Option S
 | [],s=>some s
 | o::rest,s=>match ya ops s.tm o with
   | some true=>match opA C ex s.tm s.σ o.op with
     | some (x,none)=>zr C ex ops draw rest ⟨qaj s.tm o.dst x,s.σ⟩
     | some (x,some σ')=>match draw && !(zK C.lo o.op&&qaI C ops (ops.size-(rest.length+1)) s.tm s.σ o.op) with
       | true=>none
       | false=>zr C ex ops draw rest ⟨qaj s.tm o.dst x,σ'⟩
     | none=>none
   | some false=>zr C ex ops draw rest ⟨qaj s.tm o.dst qgU,s.σ⟩
   | none=>none
def qkp (raw:Nat->Bool) (o q:Oper):Bool:=(zK raw o.op&&(Qz q.op||zK raw q.op))||(zK raw q.op&&(Qz o.op||zK raw o.op))
def qfL (raw:Nat->Bool) (tm:List AV) (ops:Array Oper) (j:Nat) (o:Oper) (i:Nat) (q:Oper):Bool :=
 (match q.dst with | some d=>(qcG ops o).contains d | none=>false)||(qkp raw o q && !qfH tm ops j o i q)
def J1 (raw:Nat->Bool) (tm:List AV) (ops:Array Oper):Bool :=
 let b:=Qq ops.toList []
 ops.toList.zipIdx.all λ (o,j)=>((yO o).all λ e=>decide (e<j))&&ops.toList.zipIdx.all λ (q,i) =>
  decide (i=j) || !qfL raw tm ops j o i q||(b.getD (max i j) 0).testBit (min i j)
def JZ (raw:Nat->Bool) (tm:List AV) (ops:Array Oper) (draw:Bool):Bool:=match draw with
 | true=>J1 raw tm ops
 | false=>true
def stP (o:Oper):Option (Tmp × Operand):=match o.op with
 | .store _ (.tmp a) v=>match o.guard,o.dst with
   | none,none=>some (a,v)
   | _,_=>none
 | _=>none
def ixP (o:Oper):Option Tmp:=match o.op with
 | .indexAddr _ _ _=>match o.guard,o.dst with
   | none,some d=>some d
   | _,_=>none
 | _=>none
def qAR (d:Tmp):Operand->Bool
 | .tmp t => !Nat.beq t d
 | _=>true
def qoV:Nat->Nat->Bool
 | 0,_=>true
 | k+1,b=>b.testBit k&&qoV k b
def qzO (bs:List Nat) (m:Nat) (p o q:Oper):Bool:=((yO p).all λ e=>Nat.blt e m)&&(((yO o).all λ e=>Nat.blt e (m+1))&&(((yO q).all λ e=>Nat.blt e m)&&(qoV m (bs.getD m 0)&&(qoV (m+1) (bs.getD (m+1) 0)&&qoV m (bs.getD (m+2) 0)))))
def qH6 (bs:List Nat) (n:Nat):List Oper->Option Tmp
 | [p,o,q]=>match ixP p,stP o,stP q with
   | some d,some a,some b=>match (Nat.beq a.1 d&&(!Nat.beq b.1 d&&qAR d b.2))&&qzO bs n p o q with
     | true=>some b.1
     | false=>none
   | _,_,_=>none
 | _=>none
def qd3 (ops:Array Oper):List Oper:=ops.toList.drop (ops.toList.length-3)
def qaw (ops:Array Oper):Array Oper:=⟨ops.toList.take (ops.toList.length-3)⟩
def qmR (ops:Array Oper) (draw:Bool):Option Tmp:=match draw with
 | true=>qH6 (Qq ops.toList []) (ops.toList.length-3) (qd3 ops)
 | false=>none
def qsZ:AV->Bool
 | .ptr _ _=>true
 | _=>false
def qAt (tm:List AV) (ops:Array Oper):Bool:=match qd3 ops with
 | p::_=>match p.op with
   | .indexAddr _ u _ => !qsZ (aev tm u)
   | _=>false
 | []=>false
def qpk (tm:List AV) (ops:Array Oper) (p:Tmp):Bool:=qsZ (tm.getD p .dead)&&qAt tm ops
def zP (o:Oper):Bool:=match o.op with
 | .alloc _=>true
 | _=>false
def qhK (ops:Array Oper) (draw:Bool):Bool:=draw&&ops.toList.any zP
def QH (lo:Nat->Bool):List Oper->Nat
 | []=>0
 | o::r=>match zK lo o.op with
   | true=>0
   | false=>QH lo r+1
def yq (o:Oper):Oper:=match zP o with
 | true=>{ o with op := .move (.global 0) }
 | false=>o
def qR (lo:Nat->Bool) (ops:List Oper):List Oper:=(ops.take (QH lo ops)).map yq
def alL (lo:Nat->Bool) (ops:List Oper):List Oper:=(ops.take (QH lo ops)).filter zP
def qmC (lo:Nat->Bool) (ops:List Oper):List Oper:=ops.drop (QH lo ops)
def qcz (ops:List Oper) (o:Oper):Bool := !Qz o.op&&(!zP o&&ops.all λ q => !zP q||match q.dst with
 | some d => !(qcG ⟨ops⟩ o).contains d
 | none=>true)
def qfz (lo:Nat->Bool) (ops:List Oper):Bool :=
 let b:=Qq ops []
 ops.zipIdx.all λ (o,j)=>((yO o).all λ e=>decide (e<j))&&((Nat.blt j (QH lo ops)||(List.range j).all λ i=>(b.getD j 0).testBit i||(Nat.blt i (QH lo ops)&&match ops[i]? with
  | some q=>qcz ops q
  | none=>false))&&(!zP o||(o.guard.isNone&&match o.dst with
  | some d=>Nat.beq (qbu ops d).length 1
  | none=>false)))
def jq:Code->Bool
 | .seq a b=>jq a&&jq b
 | .cond _ a b=>jq a&&jq b
 | .block _ b=>jq b
 | .loop b=>jq b
 | _=>true
def qaD (s:S) (t:Nat):S:=match rsA (s.tm.getD t .dead) with
 | []=>s
 | r::l=>⟨s.tm.set t (ju s.σ.rw (s.tm.getD t .dead)),{ s.σ with rw:=frz s.σ.rw (r::l),wrr:=(r::l)++s.σ.wrr }⟩
def qbF (ts:List Nat) (s:S):S:=ts.foldl qaD s
def qat (C:Cfg) (ex:Qd):Qd
 | .skip,s=>some (.normal,s)
 | .label _,s=>some (.normal,s)
 | .region _ ops draw,s=>match qhK ops draw with
   | true=>match qfz C.lo ops.toList&&(JZ C.lo s.tm ops true&&JZ C.lo s.tm ⟨qR C.lo ops.toList⟩ true),zr C ex ⟨qR C.lo ops.toList⟩ true (qR C.lo ops.toList) s with
     | true,some s1=>match zr C ex ops false (alL C.lo ops.toList) s1 with
       | some s2=>match zr C ex ops true (qmC C.lo ops.toList) s2 with
         | some s'=>some (.normal,s')
         | none=>none
       | none=>none
     | _,_=>none
   | false=>match qmR ops draw with
     | some p=>match JZ C.lo s.tm (qaw ops) true,zr C ex (qaw ops) true (qaw ops).toList s with
       | true,some s1=>match qpk s1.tm ops p,zr C ex ops true (qd3 ops) s1 with
         | true,some s'=>some (.normal,s')
         | _,_=>none
       | _,_=>none
     | none=>match JZ C.lo s.tm ops draw,zr C ex ops draw ops.toList s with
       | true,some s'=>some (.normal,s')
       | _,_=>none
 | .seq a b,s=>match ex a s with
   | some (.normal,s')=>ex b s'
   | r=>r
 | .cond c x y,s=>match aev s.tm c with
   | .v (.bool true)=>ex x s
   | .v (.bool false)=>ex y s
   | _=>none
 | .block id b,s=>match ex b s with
   | some (.exit i,s')=>some (if i=id then .normal else .exit i,s')
   | r=>r
 | .loop b,s=>match ex b (qbF (C.pur b) s) with
   | some (.normal,s')=>ex (.loop b) s'
   | r=>r
 | .exit id,s=>some (.exit id,s)
 | .ret,s=>some (.ret,s)
 | _,_=>none
def QD (C:Cfg):Nat->Qd
 | 0 => λ _ _=>none
 | n+1=>qat C (QD C n)
end Go.AmZ
namespace Go.AmZ
open Go Go.RowKit
structure Gh where
 mem:Nat->Nat->Option Value
 nb:Nat
 β : Nat->Nat
 nr:Nat
 ver:Nat->Nat
 k:Nat->Nat
 cur:Nat->Nat
 sz:Nat->Nat
 of:Nat->Nat
inductive Rep (Γ : Gh):AV->Value->Prop
 | v (x:Value) (h:zO x=true):Rep Γ (.v x) x
 | dead (u:Value):Rep Γ .dead u
 | sl (k:Nat) (es:List (List AV)) (f:Nat) (a:Option Addr) (n cap b o:Nat) (us:Nat->Nat->Value) (hn:n=es.length) (hc:0<f->n<=cap) (hf:1<f->cap=n) (hk:∀ e∈es,e.length=k) (hp:∀ e∈es,∀ x∈e,qt x=true) (h0:0<k)
  (ha:es=[]\/a=some ⟨b,o,none⟩) (hm:∀ (i:Nat) (e:List AV) (j:Nat) (x:AV),es[i]? = some e->e[j]? = some x -> Γ.mem b (o+i*k+j)=some (us i j))
  (hr:∀ (i:Nat) (e:List AV) (j:Nat) (x:AV),es[i]? = some e->e[j]? = some x->Rep Γ x (us i j)):Rep Γ (.sl k es f) (.slice a n cap)
 | rs (r lo n ep:Nat) (f:Bool) (a:Option Addr) (cap:Nat) (hr:r < Γ.nr) (hv:ep <= Γ.ver r) (hc:n<=cap) (hf:f=true->cap=n)
  (hl : Γ.ver r=ep->(cap=0\/a=some ⟨Γ.cur r,Γ.of r+lo * Γ.k r,none⟩) /\ Γ.of r+(lo+cap) * Γ.k r <= Γ.sz r):Rep Γ (.rs r lo n ep f) (.slice a n cap)
 | ptr (b o:Nat) (h:b < Γ.nb):Rep Γ (.ptr b o) (.pointer (some ⟨Γ.β b,o,none⟩))
 | rpt (r i o ep:Nat) (A:Addr) (hr:r < Γ.nr) (hv:ep <= Γ.ver r) (hl : Γ.ver r=ep->A=⟨Γ.cur r,Γ.of r+i * Γ.k r+o,none⟩):Rep Γ (.rpt r i o ep) (.pointer (some A))
 | ept (cs:List AV) (o b o':Nat) (us:Nat->Value) (hp:∀ x∈cs,qt x=true) (hm:∀ (j:Nat) (x:AV),cs[j]? = some x -> Γ.mem b (o'+j)=some (us j)) (hr:∀ (j:Nat) (x:AV),cs[j]? = some x->Rep Γ x (us j)):Rep Γ (.ept cs o) (.pointer (some ⟨b,o'+o,none⟩))
 | fn (f:FuncId) (cs:List AV) (us:List Value) (hn:us.length=cs.length) (hr:∀ (i:Nat) (x:AV) (u:Value),cs[i]? = some x->us[i]? = some u->Rep Γ x u):Rep Γ (.fn f cs) (.func (.func f) #[] us.toArray)
 | agg (cs:List AV) (us:List Value) (hn:us.length=cs.length) (h1:∀ u∈us,u.oneCell'=true) (hr:∀ (i:Nat) (x:AV) (u:Value),cs[i]? = some x->us[i]? = some u->Rep Γ x u):Rep Γ (.agg cs) (.agg us.toArray)
 | tup (cs:List AV) (us:List Value) (hn:us.length=cs.length) (hr:∀ (i:Nat) (x:AV) (u:Value),cs[i]? = some x->us[i]? = some u->Rep Γ x u):Rep Γ (.tup cs) (.tuple us.toArray)
structure RepL (Γ : Gh) (cs:List AV) (us:List Value):Prop where
 len:us.length=cs.length
 rep:∀ (i:Nat) (x:AV) (u:Value),cs[i]? = some x->us[i]? = some u->Rep Γ x u
structure Le (Γ Γ':Gh):Prop where
 mem:∀ b o u,Γ.mem b o=some u -> Γ'.mem b o=some u
 nb : Γ.nb <= Γ'.nb
 β : ∀ i,i < Γ.nb -> Γ'.β i = Γ.β i
 nr : Γ.nr <= Γ'.nr
 k:∀ r,r < Γ.nr -> Γ'.k r = Γ.k r
 ver:∀ r,r < Γ.nr -> Γ.ver r <= Γ'.ver r
 loc:∀ r,r < Γ.nr -> Γ'.ver r = Γ.ver r -> Γ'.cur r = Γ.cur r /\ Γ'.sz r = Γ.sz r /\ Γ'.of r = Γ.of r
theorem Le.refl (Γ : Gh):Le Γ Γ := ⟨λ _ _ _ h=>h,Nat.le_refl _,λ _ _=>rfl,Nat.le_refl _,λ _ _=>rfl,λ _ _=>Nat.le_refl _,λ _ _ _=>⟨rfl,rfl,rfl⟩⟩
theorem Le.trans {a b c:Gh} (h:Le a b) (g:Le b c):Le a c where
 mem := λ x o u e=>g.mem _ _ _ (h.mem _ _ _ e)
 nb:=Nat.le_trans h.nb g.nb
 β := λ i hi=>(g.β i (Nat.lt_of_lt_of_le hi h.nb)).trans (h.β i hi)
 nr:=Nat.le_trans h.nr g.nr
 k := λ r hr=>(g.k r (Nat.lt_of_lt_of_le hr h.nr)).trans (h.k r hr)
 ver := λ r hr=>Nat.le_trans (h.ver r hr) (g.ver r (Nat.lt_of_lt_of_le hr h.nr))
 loc := λ r hr e=>by
  have h1:=h.ver r hr
  have h2:=g.ver r (Nat.lt_of_lt_of_le hr h.nr)
  obtain ⟨a1,a2,a3⟩:=h.loc r hr (by omega)
  obtain ⟨b1,b2,b3⟩:=g.loc r (Nat.lt_of_lt_of_le hr h.nr) (by omega)
  exact ⟨b1.trans a1,b2.trans a2,b3.trans a3⟩
theorem Rep.mono {Γ Γ':Gh} (hl:Le Γ Γ') {x:AV} {u:Value} (h:Rep Γ x u):Rep Γ' x u:=by
 induction h with
 | v x h=>exact .v x h
 | dead u=>exact .dead u
 | sl k es f a n cap b o us hn hc hf hk hp h0 ha hm hr ih=>exact .sl k es f a n cap b o us hn hc hf hk hp h0 ha (λ i e j x h1 h2=>hl.mem _ _ _ (hm i e j x h1 h2)) (λ i e j x h1 h2=>ih i e j x h1 h2)
 | rs r lo n ep f a cap hr hv hc hf hx =>
   have h1:=hl.ver r hr
   refine .rs r lo n ep f a cap (Nat.lt_of_lt_of_le hr hl.nr) (Nat.le_trans hv h1) hc hf λ hm=>?_
   obtain ⟨e1,e2,e3⟩:=hl.loc r hr (by omega)
   rw [e1,e2,e3,hl.k r hr]
   exact hx (by omega)
 | ptr b o h=>rw [<- hl.β b h];exact .ptr b o (Nat.lt_of_lt_of_le h hl.nb)
 | rpt r i o ep A hr hv hx =>
   have h1:=hl.ver r hr
   refine .rpt r i o ep A (Nat.lt_of_lt_of_le hr hl.nr) (Nat.le_trans hv h1) λ hm=>?_
   obtain ⟨e1,e2,e3⟩:=hl.loc r hr (by omega)
   rw [e1,e3,hl.k r hr]
   exact hx (by omega)
 | ept cs o b o' us hp hm hr ih=>exact .ept cs o b o' us hp (λ j x h=>hl.mem _ _ _ (hm j x h)) ih
 | fn f cs us hn hr ih=>exact .fn f cs us hn ih
 | agg cs us hn h1 hr ih=>exact .agg cs us hn h1 ih
 | tup cs us hn hr ih=>exact .tup cs us hn ih
theorem RepL.mono {Γ Γ':Gh} (hl:Le Γ Γ') {cs:List AV} {us:List Value} (h:RepL Γ cs us):RepL Γ' cs us:=⟨h.len,λ i x u a b=>(h.rep i x u a b).mono hl⟩
theorem RepL.nil {Γ : Gh}:RepL Γ [] []:=⟨rfl,λ i x u h=>by simp at h⟩
theorem RepL.cons {Γ : Gh} {x:AV} {u:Value} {cs:List AV} {us:List Value} (h:Rep Γ x u) (t:RepL Γ cs us):RepL Γ (x::cs) (u::us):=by
 refine ⟨by simp [t.len],λ i y v a b=>?_⟩
 cases i with
 | zero=>simp at a b;subst a;subst b;exact h
 | succ i=>simp at a b;exact t.rep i y v a b
theorem RepL.uncons {Γ : Gh} {x:AV} {cs:List AV} {us:List Value} (h:RepL Γ (x::cs) us):∃ u r,us=u::r/\Rep Γ x u/\RepL Γ cs r:=by
 obtain ⟨hn,hr⟩:=h
 cases us with
 | nil=>simp at hn
 | cons u r=>exact ⟨u,r,rfl,hr 0 x u rfl rfl,by simpa using hn,λ i y v a b=>hr (i+1) y v (by simpa using a) (by simpa using b)⟩
theorem RepL.nil_inv {Γ : Gh} {us:List Value} (h:RepL Γ [] us):us=[]:=List.length_eq_zero_iff.1 h.len
theorem RepL.get {Γ : Gh} {cs:List AV} {us:List Value} (h:RepL Γ cs us) {i:Nat} {x:AV} (hx:cs[i]? = some x):∃ u,us[i]? = some u/\Rep Γ x u:=by
 have hi:i<us.length:=by rw [h.len];exact (List.getElem?_eq_some_iff.1 hx).1
 exact ⟨us[i],List.getElem?_eq_getElem hi,h.rep i x _ hx (List.getElem?_eq_getElem hi)⟩
theorem RepL.append {Γ : Gh} {a b:List AV} {u v:List Value} (h:RepL Γ a u) (g:RepL Γ b v):RepL Γ (a++b) (u++v):=by
 induction a generalizing u with
 | nil=>rw [h.nil_inv];exact g
 | cons x a ih =>
   obtain ⟨y,r,rfl,h1,h2⟩:=h.uncons
   exact RepL.cons h1 (ih h2)
theorem RepL.take {Γ : Gh} {a:List AV} {u:List Value} (h:RepL Γ a u) (n:Nat):RepL Γ (a.take n) (u.take n):=by
 refine ⟨by simp [h.len],λ i x w hx hw=>?_⟩
 rw [List.getElem?_take] at hx hw
 split at hx
 ·rename_i hi;rw [if_pos hi] at hw;exact h.rep i x w hx hw
 ·cases hx
theorem RepL.drop {Γ : Gh} {a:List AV} {u:List Value} (h:RepL Γ a u) (n:Nat):RepL Γ (a.drop n) (u.drop n):=by
 refine ⟨by simp [h.len],λ i x w hx hw=>?_⟩
 rw [List.getElem?_drop] at hx hw
 exact h.rep _ x w hx hw
theorem RepL.set {Γ : Gh} {a:List AV} {u:List Value} (h:RepL Γ a u) (n:Nat) {x:AV} {y:Value} (hx:Rep Γ x y):RepL Γ (a.set n x) (u.set n y):=by
 refine ⟨by simp [h.len],λ i x' w hx' hw=>?_⟩
 rw [List.getElem?_set] at hx' hw
 have hl:=h.len
 split at hx'
 ·rename_i e
  subst e
  rw [if_pos rfl] at hw
  split at hx'<;>split at hw<;>try (first | (cases hx';done) | (cases hw;done))
  cases hx';cases hw;exact hx
 ·rename_i e
  rw [if_neg e] at hw
  exact h.rep i x' w hx' hw
theorem qxC {x:Value} (h:zO x=true):x.oneCell'=true:=by
 cases x<;>simp_all [zO,Value.oneCell']
theorem Rep.one {Γ : Gh} {x:AV} {u:Value} (h:Rep Γ x u) (hc:isC x=true):u.oneCell'=true:=by
 cases h<;>first | (exact qxC ‹_›) | rfl | (simp [isC] at hc)
theorem qCs {u:Value} (h:u.oneCell'=true):u.cells = #[u]:=by
 cases u<;>simp_all [Value.oneCell',Value.cells]
theorem Rep.cells {Γ : Gh} {x:AV} {u:Value} (h:Rep Γ x u) (hc:(cellsOf x).all isC=true):RepL Γ (cellsOf x) u.cells.toList/\∀ y∈u.cells.toList,y.oneCell'=true:=by
 have one:isC x=true->cellsOf x=[x]->RepL Γ (cellsOf x) u.cells.toList/\∀ y∈u.cells.toList,y.oneCell'=true:=by
  intro h1 h2
  rw [h2,qCs (h.one h1)]
  exact ⟨RepL.cons h RepL.nil,by intro y hy;simp at hy;subst hy;exact h.one h1⟩
 cases h with
 | agg cs us hn h1 hr=>exact ⟨⟨by simpa [Value.cells,cellsOf] using hn,λ i x u a b=>hr i x u a (by simpa [Value.cells] using b)⟩,by simpa [Value.cells] using h1⟩
 | v x h=>exact one rfl rfl
 | dead u=>simp [cellsOf,isC] at hc
 | sl=>exact one rfl rfl
 | rs=>exact one rfl rfl
 | ptr=>exact one rfl rfl
 | rpt=>exact one rfl rfl
 | ept=>exact one rfl rfl
 | fn=>exact one rfl rfl
 | tup=>simp [cellsOf,isC] at hc
theorem Rep.cells_len {Γ : Gh} {x:AV} {u:Value} (h:Rep Γ x u) (hc:(cellsOf x).all isC=true):u.cells.size=(cellsOf x).length:=by
 have:=(h.cells hc).1.len
 simpa using this
def qvB (Γ : Gh) (w:World) (i:Nat) (cs:List AV):Prop :=
 ∃ vs e,w.heap[Γ.β i]? = some (.cells vs e (0,0))/\RepL Γ cs vs.toList/\∀ u∈vs.toList,u.oneCell'=true
def qkn (n:Nat) (fr:Nat × Nat):Prop:=∀ j,j<n->¬ (fr.1<=j/\j<fr.2)
theorem qvt (n:Nat):qkn n (0,0) := λ j _ h=>absurd h.2 (Nat.not_lt_zero j)
structure qdm (Γ : Gh) (w:World) (r:Nat) (R:Row):Prop where
 k:R.k = Γ.k r
 ver:R.fz<=R.c.length->R.ver = Γ.ver r
 pos:0<R.k
 len:∀ e∈R.c,e.length=R.k
 plain:∀ e∈R.c,∀ x∈e,qt x=true
 fz:R.c=[]\/R.fz<=R.c.length
 blk : Γ.sz r≠0->∃ vs e fr,w.heap[Γ.cur r]? = some (.cells vs e fr)/\vs.size = Γ.sz r/\qkn vs.size fr/\(R.k≠1->fr=(0,0))
 fit : Γ.of r+R.c.length*R.k <= Γ.sz r
 un : Γ.sz r≠0->∀ off,Γ.of r+R.fz*R.k<=off -> Γ.mem (Γ.cur r) off=none
 cells:∀ (i:Nat) (e:List AV) (j:Nat) (x:AV),R.c[i]? = some e->e[j]? = some x->∃ u,w.cell? ⟨Γ.cur r,Γ.of r+(i*R.k+j),none⟩=some u/\Rep Γ x u/\u.oneCell'=true
 nbx : Γ.sz r≠0->∀ i,i < Γ.nb -> Γ.β i ≠ Γ.cur r
 off:R.off=false -> Γ.of r=0
structure Inv (Γ : Gh) (σ : St) (w:World):Prop where
 nb : Γ.nb = σ.bx.length
 nr : Γ.nr = σ.rw.length
 mem:∀ b o u,Γ.mem b o=some u->w.cell? ⟨b,o,none⟩=some u/\u.oneCell'=true
 box:∀ i cs,σ.bx[i]? = some cs->qvB Γ w i cs
 inj:∀ i j,i < Γ.nb->j < Γ.nb -> Γ.β i = Γ.β j->i=j
 boxmem:∀ i,i < Γ.nb->∀ o,Γ.mem (Γ.β i) o=none
 row:∀ r R,σ.rw[r]? = some R->qdm Γ w r R
 apart:∀ r r',r < Γ.nr->r' < Γ.nr->r≠r' -> Γ.sz r≠0 -> Γ.sz r'≠0 -> Γ.cur r ≠ Γ.cur r'
def Qn (Γ : Gh) (b:Nat):Prop:=(∃ i,i < Γ.nb /\ Γ.β i=b)\/∃ r,r < Γ.nr /\ Γ.sz r≠0 /\ Γ.cur r=b
structure Ext (Γ : Gh) (w:World) (Γ':Gh) (w':World):Prop where
 le:Le Γ Γ'
 os:w'.os=w.os
 tape:w'.tape=w.tape
 output:w'.output=w.output
 size:w.heap.size<=w'.heap.size
 block:∀ b,b<w.heap.size->¬ Qn Γ b->w'.heap[b]? = w.heap[b]?
 own:∀ b,Qn Γ' b->Qn Γ b\/w.heap.size<=b
 memg:∀ b o u,Γ'.mem b o=some u -> Γ.mem b o=some u\/Qn Γ b\/w.heap.size<=b
 drawn:w.drawn<=w'.drawn
theorem Ext.refl (Γ : Gh) (w:World):Ext Γ w Γ w:=⟨.refl _,rfl,rfl,rfl,Nat.le_refl _,λ _ _ _=>rfl,λ _ h => .inl h,λ _ _ _ h => .inl h,Nat.le_refl _⟩
theorem Ext.trans {Γ Γ1 Γ2:Gh} {w w1 w2:World} (h:Ext Γ w Γ1 w1) (g:Ext Γ1 w1 Γ2 w2):Ext Γ w Γ2 w2 where
 le:=h.le.trans g.le
 os:=g.os.trans h.os
 tape:=g.tape.trans h.tape
 output:=g.output.trans h.output
 size:=Nat.le_trans h.size g.size
 block := λ b hb hn=>(g.block b (Nat.lt_of_lt_of_le hb h.size) λ ho=>(h.own b ho).elim hn λ hs=>by omega).trans (h.block b hb hn)
 own := λ b hb=>(g.own b hb).elim (h.own b) λ hs => .inr (Nat.le_trans h.size hs)
 memg := λ b o u hb=>(g.memg b o u hb).elim (h.memg b o u) λ hs => .inr (hs.elim (h.own b) λ hs => .inr (Nat.le_trans h.size hs))
 drawn:=Nat.le_trans h.drawn g.drawn
theorem Inv.drew {Γ : Gh} {σ : St} {w:World} (h:Inv Γ σ w):Inv Γ σ { w with drawn:=w.drawn+1 }:=by
 refine ⟨h.nb,h.nr,λ b o u e=>h.mem b o u e,λ i cs e=>h.box i cs e,h.inj,h.boxmem,λ r R e=>?_,h.apart⟩
 obtain ⟨a,b,c,d,e1,f,g,hc,h1,h2,h3,h4⟩:=h.row r R e
 exact ⟨a,b,c,d,e1,f,g,hc,h1,h2,h3,h4⟩
theorem Ext.drew (Γ : Gh) (w:World):Ext Γ w Γ { w with drawn:=w.drawn+1 }:=⟨.refl _,rfl,rfl,rfl,Nat.le_refl _,λ _ _ _=>rfl,λ _ h => .inl h,λ _ _ _ h => .inl h,Nat.le_succ _⟩
theorem qnb {w:World} {b o:Nat} {u:Value} (h:w.cell? ⟨b,o,none⟩=some u):b<w.heap.size:=by
 unfold World.cell? at h
 split at h
 ·rename_i hh
  exact (Array.getElem?_eq_some_iff.1 hh).1
 ·cases h
theorem Inv.mem_lt {Γ : Gh} {σ : St} {w:World} (h:Inv Γ σ w) {b o:Nat} {u:Value} (e : Γ.mem b o=some u):b<w.heap.size:=qnb (h.mem b o u e).1
end Go.AmZ
namespace Go.AmZ
open Go Go.RowKit
theorem qae {w w':World} (hb:Below w.heap.size w w') {b:Nat} {o:Obj} (h:w.heap[b]? = some o):w'.heap[b]? = some o:=by
 have:b<w.heap.size:=(Array.getElem?_eq_some_iff.1 h).1
 rw [hb.block b this];exact h
theorem qq3 {w w':World} (hb:Below w.heap.size w w') {b o:Nat} {u:Value} (h:w.cell? ⟨b,o,none⟩=some u):w'.cell? ⟨b,o,none⟩=some u:=by
 rw [hb.cell (qnb h)];exact h
theorem Q0 {w:World} {b:Nat} {vs:Array Value} {e:TypeId} {fr:Nat × Nat} (h:w.heap[b]? = some (.cells vs e fr)) (off:Nat):w.cell? ⟨b,off,none⟩=vs[off]? := by
 unfold World.cell?
 show (match w.heap[b]? with | some (.cells c _ _)=>if (none:Option Nat).isSome=true then none else c[off]? | _=>none)=_
 rw [h];rfl
theorem getElem?_lt' {α : Type} {l:List α} {i:Nat} {x : α} (h:l[i]? = some x):i<l.length:=(List.getElem?_eq_some_iff.1 h).1
theorem qdm.lift {Γ Γ':Gh} {w w':World} {r:Nat} {R:Row} (h:qdm Γ w r R) (hr:r < Γ.nr) (hl:Le Γ Γ') (hve : Γ'.ver r = Γ.ver r)
  (hh : Γ.sz r≠0->∀ ob,w.heap[Γ.cur r]? = some ob->w'.heap[Γ.cur r]? = some ob)
  (hm : Γ.sz r≠0->∀ off,Γ.mem (Γ.cur r) off=none -> Γ'.mem (Γ.cur r) off=none) (hβ : Γ.sz r≠0->∀ i,i < Γ'.nb -> Γ.nb<=i -> Γ'.β i ≠ Γ.cur r):qdm Γ' w' r R:=by
 obtain ⟨k,ver,pos,len,pl,fz,h2,h4,h5,h6,h8,h9⟩:=h
 obtain ⟨hcu,hsz,hof⟩:=hl.loc r hr hve
 refine ⟨k.trans (hl.k r hr).symm,λ hq=>(ver hq).trans hve.symm,pos,len,pl,fz,λ hz=>?_,by rw [hsz,hof];exact h4,λ hz off ho=>by rw [hsz] at hz;rw [hof] at ho;rw [hcu];exact hm hz off (h5 hz off ho),?_,?_,λ h=>hof.trans (h9 h)⟩
 ·rw [hsz] at hz
  obtain ⟨vs,e,fr,h2,h3,h3'⟩:=h2 hz
  exact ⟨vs,e,fr,by rw [hcu];exact hh hz _ h2,h3.trans hsz.symm,h3'⟩
 ·intro i e' j x hi hj
  have hz : Γ.sz r≠0:=by
   intro hz
   have hil:=getElem?_lt' hi
   have:=Nat.mul_pos (Nat.lt_of_le_of_lt (Nat.zero_le _) hil) pos
   omega
  obtain ⟨vs,e,fr,h2,h3,_⟩:=h2 hz
  obtain ⟨u,hu,hr',h1'⟩:=h6 i e' j x hi hj
  refine ⟨u,?_,hr'.mono hl,h1'⟩
  rw [Q0 h2] at hu
  rw [hcu,hof,Q0 (hh hz _ h2)]
  exact hu
 ·intro hz i hi hc
  rw [hsz] at hz
  rw [hcu] at hc
  by_cases hlt:i < Γ.nb
  ·exact h8 hz i hlt (by rw [<- hl.β i hlt];exact hc)
  ·exact hβ hz i hi (by omega) hc
theorem qvB.lift {Γ Γ':Gh} {w w':World} {i:Nat} {cs:List AV} (h:qvB Γ w i cs) (hi:i < Γ.nb) (hl:Le Γ Γ') (hh:∀ o,w.heap[Γ.β i]? = some o->w'.heap[Γ.β i]? = some o):qvB Γ' w' i cs:=by
 obtain ⟨vs,e,h1,h2,h3⟩:=h
 exact ⟨vs,e,by rw [hl.β i hi];exact hh _ h1,h2.mono hl,h3⟩
theorem getElem?_lt {α : Type} {l:List α} {i:Nat} {x : α} (h:l[i]? = some x):i<l.length:=(List.getElem?_eq_some_iff.1 h).1
theorem qcr {Γ : Gh} {w w':World} (hb:Below w.heap.size w w') (hdr:w.drawn<=w'.drawn):Ext Γ w Γ w':=⟨.refl _,hb.os,hb.tape,hb.output,hb.size,λ b hl _=>hb.block b hl,λ _ h => .inl h,λ _ _ _ h => .inl h,hdr⟩
theorem Inv.box_lt {Γ : Gh} {σ : St} {w:World} (h:Inv Γ σ w) {i:Nat} (hi:i < Γ.nb) : Γ.β i<w.heap.size:=by
 have hi':i < σ.bx.length:=h.nb▸hi
 obtain ⟨vs,e,h1,_⟩:=h.box i _ (List.getElem?_eq_getElem hi')
 exact (Array.getElem?_eq_some_iff.1 h1).1
theorem Inv.cur_lt {Γ : Gh} {σ : St} {w:World} (h:Inv Γ σ w) {r:Nat} (hr:r < Γ.nr) (hz : Γ.sz r≠0) : Γ.cur r<w.heap.size:=by
 have hr':r < σ.rw.length:=h.nr▸hr
 obtain ⟨vs,e,fr,h2,h3,_⟩:=(h.row r _ (List.getElem?_eq_getElem hr')).blk hz
 exact (Array.getElem?_eq_some_iff.1 h2).1
theorem qdm.live {Γ : Gh} {w:World} {r:Nat} {R:Row} (h:qdm Γ w r R) {i:Nat} {e:List AV} (hi:R.c[i]? = some e):R.fz<=R.c.length:=h.fz.resolve_left λ hn=>by rw [hn] at hi;cases hi
theorem qdm.liveN {Γ : Gh} {w:World} {r:Nat} {R:Row} (h:qdm Γ w r R) {m n:Nat} (hm:m+n<=R.c.length) (hn:0<n):R.fz<=R.c.length:=h.fz.resolve_left λ he=>by rw [he] at hm;simp at hm;omega
theorem qdm.real {Γ : Gh} {w:World} {r:Nat} {R:Row} (h:qdm Γ w r R) {i:Nat} {e:List AV} (hi:R.c[i]? = some e) : Γ.sz r≠0:=by
 intro hz
 have hil:=getElem?_lt' hi
 have:=Nat.mul_pos (Nat.lt_of_le_of_lt (Nat.zero_le _) hil) h.pos
 have:=h.fit
 omega
theorem Inv.later {Γ : Gh} {σ : St} {w w':World} (h:Inv Γ σ w) (hb:Below w.heap.size w w'):Inv Γ σ w' where
 nb:=h.nb
 nr:=h.nr
 mem := λ b o u e=>⟨qq3 hb (h.mem b o u e).1,(h.mem b o u e).2⟩
 box := λ i cs e=>(h.box i cs e).lift (by rw [h.nb];exact getElem?_lt e) (.refl _) λ o ho=>qae hb ho
 inj:=h.inj
 boxmem:=h.boxmem
 row := λ r R e=>(h.row r R e).lift (by rw [h.nr];exact getElem?_lt e) (.refl _) rfl (λ _ ob ho=>qae hb ho) (λ _ _ hm=>hm) λ _ i hi hn=>by omega
 apart:=h.apart
theorem qtB {Γ : Gh} {σ : St} {w:World} (h:Inv Γ σ w) {cs:List AV} {vs:List Value} (hr:RepL Γ cs vs) (h1:∀ u∈vs,u.oneCell'=true) (e:TypeId) :
  ∃ Γ',Ext Γ w Γ' (w.alloc (.cells vs.toArray e))/\Inv Γ' { σ with bx := σ.bx++[cs] } (w.alloc (.cells vs.toArray e))/\Rep Γ' (.ptr σ.bx.length 0) (.pointer (some ⟨w.heap.size,0,none⟩)):=by
 have hb:Below w.heap.size w (w.alloc (.cells vs.toArray e)):=(Below.refl _ _).alloc (Nat.le_refl _) _
 let Γ':Gh:={ Γ with nb := Γ.nb+1,β := λ i=>if i = Γ.nb then w.heap.size else Γ.β i }
 have hβ : ∀ i,i < Γ.nb -> Γ'.β i = Γ.β i := λ i hi=>if_neg (by omega)
 have hβn : Γ'.β Γ.nb=w.heap.size:=if_pos rfl
 have hle:Le Γ Γ':=⟨λ _ _ _ h=>h,Nat.le_succ _,hβ,Nat.le_refl _,λ _ _=>rfl,λ _ _=>Nat.le_refl _,λ _ _ _=>⟨rfl,rfl,rfl⟩⟩
 have hinv:=h.later hb
 refine ⟨Γ',⟨hle,rfl,rfl,rfl,hb.size,λ b hl _=>hb.block b hl,?_,λ _ _ _ h => .inl h,Nat.le_refl _⟩,⟨?_,h.nr,hinv.mem,?_,?_,?_,?_,h.apart⟩,?_⟩
 ·rintro b (⟨i,hi,rfl⟩ | ho)
  ·by_cases hin:i = Γ.nb
   ·right;rw [hin,hβn];exact Nat.le_refl _
   ·left;left;exact ⟨i,by show i < Γ.nb;have:i < Γ.nb+1:=hi;omega,(hβ i (by have:i < Γ.nb+1:=hi;omega)).symm⟩
  ·exact .inl (.inr ho)
 ·show Γ.nb+1=(σ.bx++[cs]).length
  simp [h.nb]
 ·intro i cs' hi
  rw [List.getElem?_append] at hi
  split at hi
  ·rename_i hlt
   exact (h.box i cs' hi).lift (by rw [h.nb];exact hlt) hle λ o ho=>qae hb ho
  ·rename_i hlt
   have hi0:i - σ.bx.length=0:=by
    have:=getElem?_lt hi
    simp at this;omega
   rw [hi0] at hi
   simp at hi
   subst hi
   have hie:i = Γ.nb:=by rw [h.nb];omega
   refine ⟨vs.toArray,e,?_,by simpa using hr.mono hle,by simpa using h1⟩
   rw [hie,hβn]
   exact heap_alloc_new w _
 ·intro i j hi hj he
  have hi':i < Γ.nb+1:=hi
  have hj':j < Γ.nb+1:=hj
  by_cases hin:i = Γ.nb<;>by_cases hjn:j = Γ.nb
  ·rw [hin,hjn]
  ·rw [hin,hβn,hβ j (by omega)] at he
   have:=h.box_lt (i:=j) (by omega)
   omega
  ·rw [hjn,hβn,hβ i (by omega)] at he
   have:=h.box_lt (i:=i) (by omega)
   omega
  ·rw [hβ i (by omega),hβ j (by omega)] at he
   exact h.inj i j (by omega) (by omega) he
 ·intro i hi o
  have hi':i < Γ.nb+1:=hi
  by_cases hin:i = Γ.nb
  ·rw [hin,hβn]
   show Γ.mem w.heap.size o=none
   cases hm : Γ.mem w.heap.size o with
   | none=>rfl
   | some u=>have:=h.mem_lt hm;omega
  ·rw [hβ i (by omega)];exact h.boxmem i (by omega) o
 ·intro r R hr'
  have hrn:r < Γ.nr:=by rw [h.nr];exact getElem?_lt hr'
  refine (h.row r R hr').lift hrn hle rfl (λ _ ob ho=>qae hb ho) (λ _ _ hm=>hm) λ hz i hi hn he=>?_
  have hi':i < Γ.nb+1:=hi
  have hin:i = Γ.nb:=by omega
  rw [hin,hβn] at he
  have:=h.cur_lt hrn hz
  omega
 ·rw [<- hβn,h.nb]
  exact .ptr _ _ (by show σ.bx.length < Γ.nb+1;rw [h.nb];omega)
theorem qBb {Γ : Gh} {σ : St} {w:World} (h:Inv Γ σ w) {vs:List Value} (h1:∀ u∈vs,u.oneCell'=true) (e:TypeId) :
  ∃ Γ',Ext Γ w Γ' (w.alloc (.cells vs.toArray e))/\Inv Γ' σ (w.alloc (.cells vs.toArray e))/\∀ j u,vs[j]? = some u -> Γ'.mem w.heap.size j=some u:=by
 have hb:Below w.heap.size w (w.alloc (.cells vs.toArray e)):=(Below.refl _ _).alloc (Nat.le_refl _) _
 let Γ':Gh:={ Γ with mem := λ b o=>if b=w.heap.size then vs[o]? else Γ.mem b o }
 have hne:∀ b o u,Γ.mem b o=some u->b≠w.heap.size := λ b o u e he=>by have:=h.mem_lt e;omega
 have hle:Le Γ Γ':=⟨λ b o u e=>by show (if b=w.heap.size then vs[o]? else Γ.mem b o)=some u;rw [if_neg (hne b o u e)];exact e,Nat.le_refl _,λ _ _=>rfl,Nat.le_refl _,λ _ _=>rfl,λ _ _=>Nat.le_refl _,λ _ _ _=>⟨rfl,rfl,rfl⟩⟩
 have hinv:=h.later hb
 refine ⟨Γ',⟨hle,rfl,rfl,rfl,hb.size,λ b hl _=>hb.block b hl,λ b ho => .inl ho,λ b o u hm=>?_,Nat.le_refl _⟩,⟨h.nb,h.nr,?_,?_,h.inj,?_,?_,h.apart⟩,?_⟩
 ·have hm':(if b=w.heap.size then vs[o]? else Γ.mem b o)=some u:=hm
  split at hm'
  ·right;right;omega
  ·exact .inl hm'
 ·intro b o u he
  have he':(if b=w.heap.size then vs[o]? else Γ.mem b o)=some u:=he
  by_cases hbs:b=w.heap.size
  ·rw [if_pos hbs] at he'
   subst hbs
   refine ⟨?_,h1 u (List.mem_of_getElem? he')⟩
   rw [World.cell?_alloc_mark]
   simpa using he'
  ·rw [if_neg hbs] at he'
   exact hinv.mem b o u he'
 ·intro i cs he
  exact (h.box i cs he).lift (by rw [h.nb];exact getElem?_lt he) hle λ o ho=>qae hb ho
 ·intro i hi o
  show (if Γ.β i=w.heap.size then vs[o]? else Γ.mem (Γ.β i) o)=none
  have:=h.box_lt hi
  rw [if_neg (by omega)]
  exact h.boxmem i hi o
 ·intro r R hr
  have hrn:r < Γ.nr:=by rw [h.nr];exact getElem?_lt hr
  refine (h.row r R hr).lift hrn hle rfl (λ _ ob ho=>qae hb ho) (λ hz off hm=>?_) λ _ i hi hn=>by have:i < Γ.nb:=hi;omega
  have hcl:=h.cur_lt hrn hz
  show (if Γ.cur r=w.heap.size then vs[off]? else Γ.mem (Γ.cur r) off)=none
  rw [if_neg (by omega)];exact hm
 ·intro j u hj
  show (if w.heap.size=w.heap.size then vs[j]? else Γ.mem w.heap.size j)=some u
  rw [if_pos rfl];exact hj
theorem qB0 {Γ : Gh} {σ : St} {w:World} (h:Inv Γ σ w) {b:Nat} {cs cs':List AV} (hb : σ.bx[b]? = some cs) {vs':List Value} (hr:RepL Γ cs' vs') (h1:∀ u∈vs',u.oneCell'=true) (wl:List Nat) (w':World)
  (hw:∀ vs e,w.heap[Γ.β b]? = some (.cells vs e (0,0))->w'.heap[Γ.β b]? = some (.cells vs'.toArray e (0,0))) (ho:∀ k,k ≠ Γ.β b->w'.heap[k]? = w.heap[k]?) (hos:w'.os=w.os) (htp:w'.tape=w.tape) (hout:w'.output=w.output) (hsz:w'.heap.size=w.heap.size) (hdr:w.drawn<=w'.drawn) :
  Ext Γ w Γ w'/\Inv Γ { σ with bx := σ.bx.set b cs',wr:=wl } w':=by
 have hbl:b < Γ.nb:=by rw [h.nb];exact getElem?_lt hb
 have hcell:∀ k o,k ≠ Γ.β b->w'.cell? ⟨k,o,none⟩=w.cell? ⟨k,o,none⟩ := λ k o hk=>by unfold World.cell?;rw [ho k hk]
 have hmemne:∀ k o u,Γ.mem k o=some u->k ≠ Γ.β b := λ k o u e hk=>by rw [hk,h.boxmem b hbl o] at e;cases e
 refine ⟨⟨.refl _,hos,htp,hout,by omega,λ k _ hn=>ho k λ hk=>hn (.inl ⟨b,hbl,hk.symm⟩),λ _ h => .inl h,λ _ _ _ h => .inl h,hdr⟩,⟨?_,h.nr,?_,?_,h.inj,h.boxmem,?_,h.apart⟩⟩
 ·show Γ.nb=(σ.bx.set b cs').length
  rw [List.length_set];exact h.nb
 ·intro k o u e
  rw [hcell k o (hmemne k o u e)]
  exact h.mem k o u e
 ·intro i cs'' hi
  rw [List.getElem?_set] at hi
  split at hi
  ·rename_i hib
   subst hib
   split at hi
   ·cases hi
    obtain ⟨vs,e,g1,_⟩:=h.box b cs hb
    exact ⟨vs'.toArray,e,hw vs e g1,by simpa using hr,by simpa using h1⟩
   ·cases hi
  ·rename_i hib
   have hil:i < Γ.nb:=by rw [h.nb];exact getElem?_lt hi
   refine (h.box i cs'' hi).lift hil (.refl _) λ o g=>?_
   rw [ho _ λ he=>hib (h.inj b i hbl hil he.symm)]
   exact g
 ·intro r R hr'
  have H:=h.row r R hr'
  refine H.lift (by rw [h.nr];exact getElem?_lt hr') (.refl _) rfl (λ hz ob hk=>?_) (λ _ _ hm=>hm) λ _ i hi hn=>by omega
  rw [ho _ λ he=>H.nbx hz b hbl he.symm]
  exact hk
theorem qvJ {Γ : Gh} {σ : St} {w w':World} (h:Inv Γ σ w) {k:Nat} (hk:0<k) {c:List (List AV)} (hlen:∀ e∈c,e.length=k) (hpl:∀ e∈c,∀ x∈e,qt x=true) {vs:Array Value} (hsz:c.length*k<=vs.size)
  (hr:∀ (i:Nat) (e:List AV) (j:Nat) (x:AV),c[i]? = some e->e[j]? = some x->∃ u,vs[i*k+j]? = some u/\Rep Γ x u/\u.oneCell'=true) {e:TypeId} {cap:Nat} (hc:c.length<=cap) (hcs:cap*k<=vs.size) (hb:Below w.heap.size w w') (hdr:w.drawn<=w'.drawn) {g:Nat} (hg:w.heap.size<=g) {fr:Nat × Nat} (hsf:qkn vs.size fr) (hk1:k≠1->fr=(0,0)) (hnew:w'.heap[g]? = some (.cells vs e fr)) :
  ∃ Γ',Ext Γ w Γ' w'/\Inv Γ' { σ with rw := σ.rw++[⟨k,c,0,0,false⟩] } w'/\Rep Γ' (.rs σ.rw.length 0 c.length 0 false) (.slice (some ⟨g,0,none⟩) c.length cap):=by
 let Γ':Gh:={ Γ with nr := Γ.nr+1,ver := λ r=>if r = Γ.nr then 0 else Γ.ver r,k := λ r=>if r = Γ.nr then k else Γ.k r,cur := λ r=>if r = Γ.nr then g else Γ.cur r,sz := λ r=>if r = Γ.nr then vs.size else Γ.sz r,of := λ r=>if r = Γ.nr then 0 else Γ.of r }
 have hve:∀ r,r < Γ.nr -> Γ'.ver r = Γ.ver r := λ r hr=>if_neg (by omega)
 have hkk:∀ r,r < Γ.nr -> Γ'.k r = Γ.k r := λ r hr=>if_neg (by omega)
 have hcuE:∀ r,r < Γ.nr -> Γ'.cur r = Γ.cur r := λ r hr=>if_neg (by omega)
 have hszE:∀ r,r < Γ.nr -> Γ'.sz r = Γ.sz r := λ r hr=>if_neg (by omega)
 have hofE:∀ r,r < Γ.nr -> Γ'.of r = Γ.of r := λ r hr=>if_neg (by omega)
 have hofn : Γ'.of Γ.nr=0:=if_pos rfl
 have hcun : Γ'.cur Γ.nr=g:=if_pos rfl
 have hszn : Γ'.sz Γ.nr=vs.size:=if_pos rfl
 have hven : Γ'.ver Γ.nr=0:=if_pos rfl
 have hkn : Γ'.k Γ.nr=k:=if_pos rfl
 have hle:Le Γ Γ':=⟨λ _ _ _ h=>h,Nat.le_refl _,λ _ _=>rfl,Nat.le_succ _,hkk,λ r hr=>by rw [hve r hr];exact Nat.le_refl _,λ r hr _=>⟨hcuE r hr,hszE r hr,hofE r hr⟩⟩
 have hinv:=h.later hb
 refine ⟨Γ',⟨hle,hb.os,hb.tape,hb.output,hb.size,λ b hl _=>hb.block b hl,?_,λ _ _ _ h => .inl h,hdr⟩,⟨h.nb,?_,hinv.mem,?_,h.inj,h.boxmem,?_,?_⟩,?_⟩
 ·rintro b (ho | ⟨r,hr',hz,hl⟩)
  ·exact .inl (.inl ho)
  ·by_cases hrn:r = Γ.nr
   ·right
    rw [hrn,hcun] at hl
    omega
   ·left;right
    have hlt:r < Γ.nr:=by have:r < Γ.nr+1:=hr';omega
    exact ⟨r,hlt,by rw [<- hszE r hlt];exact hz,by rw [<- hcuE r hlt];exact hl⟩
 ·show Γ.nr+1=(σ.rw++[_]).length
  simp [h.nr]
 ·intro i cs he
  exact (h.box i cs he).lift (by rw [h.nb];exact getElem?_lt he) hle λ o ho=>qae hb ho
 ·intro r R hR
  rw [List.getElem?_append] at hR
  split at hR
  ·rename_i hlt
   have hrn:r < Γ.nr:=by rw [h.nr];exact hlt
   exact (h.row r R hR).lift hrn hle (hve r hrn) (λ _ ob ho=>qae hb ho) (λ _ _ hm=>hm) λ _ i hi hn=>by have:i < Γ.nb:=hi;omega
  ·rename_i hlt
   have hi0:r - σ.rw.length=0:=by
    have:=getElem?_lt hR
    simp at this;omega
   rw [hi0] at hR
   simp at hR
   subst hR
   obtain rfl:r = Γ.nr:=by rw [h.nr];omega
   refine ⟨hkn.symm,λ _=>hven.symm,hk,hlen,hpl,.inr (Nat.zero_le _),λ _=>⟨vs,e,fr,by rw [hcun];exact hnew,hszn.symm,hsf,hk1⟩,by rw [hszn,hofn,Nat.zero_add];exact hsz,?_,?_,?_,λ _=>hofn⟩
   ·intro _ off _
    rw [hcun]
    show Γ.mem g off=none
    cases hm : Γ.mem g off with
    | none=>rfl
    | some u=>have:=h.mem_lt hm;omega
   ·intro i e' j x hi hj
    obtain ⟨u,hu,hrep,h1⟩:=hr i e' j x hi hj
    refine ⟨u,?_,hrep.mono hle,h1⟩
    rw [hcun,hofn,Nat.zero_add,Q0 hnew]
    exact hu
   ·intro _ i hi he
    have:=h.box_lt (i:=i) hi
    rw [hcun] at he
    have he' : Γ.β i=g:=he
    omega
 ·intro r r' hr1 hr2 hne hz1 hz2
  have hr1':r < Γ.nr+1:=hr1
  have hr2':r' < Γ.nr+1:=hr2
  by_cases h1:r = Γ.nr<;>by_cases h2:r' = Γ.nr
  ·omega
  ·rw [hszE r' (by omega)] at hz2
   rw [h1,hcun,hcuE r' (by omega)]
   have:=h.cur_lt (r:=r') (by omega) hz2
   omega
  ·rw [hszE r (by omega)] at hz1
   rw [h2,hcun,hcuE r (by omega)]
   have:=h.cur_lt (r:=r) (by omega) hz1
   omega
  ·rw [hszE r (by omega)] at hz1
   rw [hszE r' (by omega)] at hz2
   rw [hcuE r (by omega),hcuE r' (by omega)]
   exact h.apart r r' (by omega) (by omega) hne hz1 hz2
 ·refine .rs _ _ _ _ _ _ _ (by show σ.rw.length < Γ.nr+1;rw [h.nr];omega) (Nat.zero_le _) hc (λ hf=>by cases hf) λ _=>?_
  rw [<- h.nr,hcun,hkn,hszn,hofn]
  exact ⟨.inr (by simp),by simpa using hcs⟩
def js (Γ : Gh) (r:Nat) (R:Row):Prop :=
 ∀ (i:Nat) (e:List AV) (j:Nat) (x:AV),R.c[i]? = some e->e[j]? = some x->∃ u,Γ.mem (Γ.cur r) (Γ.of r+(i*R.k+j))=some u/\Rep Γ x u
theorem qtp {Γ : Gh} {σ : St} {w w':World} (h:Inv Γ σ w) {k:Nat} (hk:0<k) {c:List (List AV)} (hlen:∀ e∈c,e.length=k) (hpl:∀ e∈c,∀ x∈e,qt x=true) {vs:Array Value} (hsz:c.length*k<=vs.size)
  (hr:∀ (i:Nat) (e:List AV) (j:Nat) (x:AV),c[i]? = some e->e[j]? = some x->∃ u,vs[i*k+j]? = some u/\Rep Γ x u/\u.oneCell'=true) {e:TypeId} {cap:Nat} (hc:c.length<=cap) (hcs:cap*k<=vs.size) (hb:Below w.heap.size w w') (hdr:w.drawn<=w'.drawn) {g:Nat} (hg:w.heap.size<=g) (hnew:w'.heap[g]? = some (.cells vs e (0,0))) :
  ∃ Γ',Ext Γ w Γ' w'/\Inv Γ' { σ with rw := σ.rw++[⟨k,c,0,0,false⟩] } w'/\Rep Γ' (.rs σ.rw.length 0 c.length 0 false) (.slice (some ⟨g,0,none⟩) c.length cap) :=
 qvJ h hk hlen hpl hsz hr hc hcs hb hdr hg (qvt _) (λ _=>rfl) hnew
theorem qAe {α : Type} {l:List α} {r i:Nat} {f : α -> α} {y : α} (h:(l.modify r f)[i]? = some y):∃ x,l[i]? = some x/\y=if r=i then f x else x:=by
 rw [List.getElem?_modify] at h
 cases hx:l[i]? with
 | none=>rw [hx] at h;simp at h
 | some x =>
   rw [hx] at h
   refine ⟨x,rfl,?_⟩
   split<;>simp_all
structure Fz (Γ : Gh) (m:Nat->Nat->Option Value):Prop where
 le:Le Γ { Γ with mem:=m }
 own:∀ b o u,m b o=some u -> Γ.mem b o=some u\/Qn Γ b
theorem qAu {Γ : Gh} {σ : St} {w:World} (h:Inv Γ σ w) {r:Nat} {R:Row} (hr : σ.rw[r]? = some R) (wl:List Nat) :
  ∃ m,Fz Γ m/\Inv { Γ with mem:=m } { σ with rw := σ.rw.modify r qfN,wrr:=wl } w/\js { Γ with mem:=m } r R:=by
 have H0:=h.row r R hr
 obtain ⟨k,ver,pos,len,pl,fz,g2,g4,g5,g6,g8,g9⟩:=H0
 have hrn:r < Γ.nr:=by rw [h.nr];exact getElem?_lt hr
 let m:Nat->Nat->Option Value := λ b' off=>if b' = Γ.cur r /\ Γ.of r<=off/\off < Γ.of r+R.c.length*R.k then w.cell? ⟨b',off,none⟩ else Γ.mem b' off
 have hm0:∀ b' off u,Γ.mem b' off=some u->m b' off=some u:=by
  intro b' off u he
  show (if _ then _ else _)=_
  split
  ·exact (h.mem b' off u he).1
  ·exact he
 have hle:Le Γ { Γ with mem:=m }:=⟨hm0,Nat.le_refl _,λ _ _=>rfl,Nat.le_refl _,λ _ _=>rfl,λ _ _=>Nat.le_refl _,λ _ _ _=>⟨rfl,rfl,rfl⟩⟩
 have hcur:∀ (i:Nat) (e:List AV) (j:Nat) (x:AV),R.c[i]? = some e->e[j]? = some x->∃ u,m (Γ.cur r) (Γ.of r+(i*R.k+j))=some u/\Rep { Γ with mem:=m } x u:=by
  intro i e j x hi hj
  obtain ⟨u,hu,hrep,h1⟩:=g6 i e j x hi hj
  refine ⟨u,?_,hrep.mono hle⟩
  have hil:=getElem?_lt hi
  have hjl:=getElem?_lt hj
  rw [len e (List.mem_of_getElem? hi)] at hjl
  have:i*R.k+j<R.c.length*R.k:=by
   calc i*R.k+j<i*R.k+R.k:=by omega
    _=(i+1)*R.k:=by rw [Nat.add_mul,Nat.one_mul]
    _<=R.c.length*R.k:=Nat.mul_le_mul_right _ hil
  show (if _ then _ else _)=_
  rw [if_pos ⟨rfl,Nat.le_add_right _ _,by omega⟩]
  exact hu
 refine ⟨m,⟨hle,λ b' off u he=>?_⟩,⟨h.nb,?_,?_,?_,h.inj,?_,?_,h.apart⟩,hcur⟩
 ·have he':(if b' = Γ.cur r /\ Γ.of r<=off/\off < Γ.of r+R.c.length*R.k then w.cell? ⟨b',off,none⟩ else Γ.mem b' off)=some u:=he
  split at he'
  ·rename_i hc
   right;right
   exact ⟨r,hrn,by omega,hc.1.symm⟩
  ·exact .inl he'
 ·show Γ.nr=(σ.rw.modify r qfN).length
  rw [List.length_modify];exact h.nr
 ·intro b' off u he
  have he':(if b' = Γ.cur r /\ Γ.of r<=off/\off < Γ.of r+R.c.length*R.k then w.cell? ⟨b',off,none⟩ else Γ.mem b' off)=some u:=he
  split at he'
  ·rename_i hc
   refine ⟨he',?_⟩
   obtain ⟨hc1,hc2,hc3⟩:=hc
   obtain ⟨off,rfl⟩:∃ p,off = Γ.of r+p:=⟨off - Γ.of r,by omega⟩
   have hq:off / R.k<R.c.length:=by
    rw [Nat.div_lt_iff_lt_mul pos];omega
   have hjk:off % R.k<R.k:=Nat.mod_lt _ pos
   have hln:=len _ (List.getElem_mem hq)
   obtain ⟨u',hu',_,h1'⟩:=g6 (off / R.k) _ (off % R.k) _ (List.getElem?_eq_getElem hq) (List.getElem?_eq_getElem (by rw [hln];exact hjk))
   have heq:off / R.k*R.k+off % R.k=off:=by rw [Nat.mul_comm];exact Nat.div_add_mod off R.k
   rw [heq,<- hc1,he'] at hu'
   cases hu'
   exact h1'
  ·exact h.mem b' off u he'
 ·intro i cs he
  exact (h.box i cs he).lift (by rw [h.nb];exact getElem?_lt he) hle λ o ho=>ho
 ·intro i hi off
  show (if _ then _ else _)=_
  rw [if_neg λ hc=>g8 (by omega) i hi hc.1]
  exact h.boxmem i hi off
 ·intro r' R' hR'
  obtain ⟨R0,h0,he⟩:=qAe hR'
  by_cases hrr:r=r'
  ·subst hrr
   rw [if_pos rfl] at he
   rw [hr] at h0
   cases h0
   subst he
   refine ⟨k,λ hq=>ver (Nat.le_trans (Nat.le_max_left _ R.c.length) hq),pos,len,pl,fz.imp_right λ hq=>Nat.max_le.2 ⟨hq,Nat.le_refl _⟩,g2,g4,?_,?_,g8,g9⟩
   ·intro hz off ho
    have ho' : Γ.of r+R.c.length*R.k<=off:=Nat.le_trans (Nat.add_le_add_left (Nat.mul_le_mul_right _ (Nat.le_max_right R.fz _)) _) ho
    have ho2 : Γ.of r+R.fz*R.k<=off:=Nat.le_trans (Nat.add_le_add_left (Nat.mul_le_mul_right _ (Nat.le_max_left _ R.c.length)) _) ho
    show (if _ then _ else _)=_
    rw [if_neg (by omega)]
    exact g5 hz off ho2
   ·intro i e'' j x hi hj
    obtain ⟨u,hu,hrep,h1⟩:=g6 i e'' j x hi hj
    exact ⟨u,hu,hrep.mono hle,h1⟩
  ·rw [if_neg hrr] at he
   subst he
   have hrn':r' < Γ.nr:=by rw [h.nr];exact getElem?_lt h0
   refine (h.row r' _ h0).lift hrn' hle rfl (λ _ _ h=>h) (λ hz off hmn=>?_) λ _ i hi hn=>by have:i < Γ.nb:=hi;omega
   show (if _ then _ else _)=_
   rw [if_neg λ hc=>h.apart r r' hrn hrn' hrr (by omega) hz hc.1.symm]
   exact hmn
theorem qja {Γ : Gh} {m:Nat->Nat->Option Value} (hl:Fz Γ m) (w:World):Ext Γ w { Γ with mem:=m } w:=⟨hl.le,rfl,rfl,rfl,Nat.le_refl _,λ _ _ _=>rfl,λ _ h => .inl h,λ b o u hm=>(hl.own b o u hm).imp_right .inl,Nat.le_refl _⟩
theorem js.mono {Γ : Gh} {m:Nat->Nat->Option Value} (hl:Le Γ { Γ with mem:=m }) {r:Nat} {R:Row} (h:js Γ r R):js { Γ with mem:=m } r R := λ i e j x h1 h2 =>
 let ⟨u,hu,hr⟩:=h i e j x h1 h2;⟨u,hl.mem _ _ _ hu,hr.mono hl⟩
theorem qa0 {w:World}:∀ (rs:List Nat) {Γ : Gh} {σ : St} (h:Inv Γ σ w) (wl:List Nat),
  ∃ m,Fz Γ m/\Inv { Γ with mem:=m } { σ with rw:=frz σ.rw rs,wrr:=wl } w/\∀ r∈rs,∀ R,σ.rw[r]? = some R->js { Γ with mem:=m } r R
 | [],Γ,σ,h,wl=>⟨Γ.mem,⟨Le.refl _,λ _ _ _ h => .inl h⟩,⟨h.nb,h.nr,h.mem,h.box,h.inj,h.boxmem,h.row,h.apart⟩,λ r hr=>by cases hr⟩
 | r::rs,Γ,σ,h,wl=>by
   cases hr : σ.rw[r]? with
   | none =>
     obtain ⟨m,h1,h2,h3⟩:=qa0 rs h wl
     have hn : σ.rw.length<=r:=List.getElem?_eq_none_iff.1 hr
     have hmod : σ.rw.modify r qfN = σ.rw:=List.modify_eq_self hn
     refine ⟨m,h1,?_,λ r' hr' R hR=>?_⟩
     ·show Inv _ { σ with rw:=rs.foldl _ (σ.rw.modify r qfN),wrr:=wl } w
      rw [hmod];exact h2
     ·rcases List.mem_cons.1 hr' with rfl | hr'
      ·rw [hr] at hR;cases hR
      ·exact h3 r' hr' R hR
   | some R =>
     obtain ⟨m,h1,h2,h3⟩:=qAu h hr wl
     obtain ⟨m',g1,g2,g3⟩:=qa0 rs h2 wl
     refine ⟨m',⟨h1.le.trans g1.le,λ b o u hm=>(g1.own b o u hm).elim (h1.own b o u) .inr⟩,g2,λ r' hr' R' hR'=>?_⟩
     by_cases hrr:r'=r
     ·subst hrr
      rw [hr] at hR'
      cases hR'
      exact h3.mono g1.le
     ·rcases List.mem_cons.1 hr' with rfl | hr'
      ·exact absurd rfl hrr
      ·refine g3 r' hr' R' ?_
       show (σ.rw.modify r qfN)[r']? = some R'
       rw [List.getElem?_modify,hR']
       show some (if r=r' then qfN R' else R')=some R'
       rw [if_neg (Ne.symm hrr)]
theorem qzf {c xs:List (List AV)} {i:Nat} {e:List AV} (h:(c++xs)[i]? = some e):(i<c.length/\c[i]? = some e)\/(c.length<=i/\xs[i-c.length]? = some e):=by
 rw [List.getElem?_append] at h
 split at h
 ·exact .inl ⟨‹_›,h⟩
 ·exact .inr ⟨by omega,h⟩
theorem qiv {Γ : Gh} {σ : St} {w w':World} (h:Inv Γ σ w) {r:Nat} {R R':Row} (hr : σ.rw[r]? = some R) (hlv:R.fz<=R.c.length) (hk:R'.k=R.k) {g:Nat} {vs:Array Value} {e:TypeId} {o:Nat} (hof:R'.off=false->o=0) (hve:R'.ver=R.ver+1\/(R'.ver=R.ver/\g = Γ.cur r/\vs.size = Γ.sz r/\o = Γ.of r))
  (hlen:∀ e∈R'.c,e.length=R.k) (hpl:∀ e∈R'.c,∀ x∈e,qt x=true) (hfz:R'.fz<=R'.c.length) {fr:Nat × Nat} (hsf:qkn vs.size fr) (hk1:R.k≠1->fr=(0,0)) (hnew:w'.heap[g]? = some (.cells vs e fr)) (hfit:o+R'.c.length*R.k<=vs.size)
  (hun:∀ off,o+R'.fz*R.k<=off -> Γ.mem g off=none) (hcell:∀ (i:Nat) (e:List AV) (j:Nat) (x:AV),R'.c[i]? = some e->e[j]? = some x->∃ u,vs[o+(i*R.k+j)]? = some u/\Rep Γ x u/\u.oneCell'=true)
  (hmem:∀ b o u,Γ.mem b o=some u->w'.cell? ⟨b,o,none⟩=some u) (ho:∀ b,b<w.heap.size->(b ≠ Γ.cur r \/ Γ.sz r=0)->w'.heap[b]? = w.heap[b]?) (hg:(g = Γ.cur r /\ Γ.sz r≠0)\/w.heap.size<=g) (hos:w'.os=w.os) (htp:w'.tape=w.tape) (hout:w'.output=w.output) (hsz:w.heap.size<=w'.heap.size) (hdr:w.drawn<=w'.drawn) (wl:List Nat) :
  ∃ Γ',Ext Γ w Γ' w'/\Inv Γ' { σ with rw := σ.rw.set r R',wrr:=wl } w'/\∀ (n:Nat) (cap:Nat) (a:Option Addr),n<=cap->(cap=0\/a=some ⟨g,o,none⟩)->o+cap*R.k<=vs.size->Rep Γ' (.rs r 0 n R'.ver false) (.slice a n cap):=by
 have hrn:r < Γ.nr:=by rw [h.nr];exact getElem?_lt hr
 have H:=h.row r R hr
 let Γ':Gh:={ Γ with ver := λ r'=>if r'=r then R'.ver else Γ.ver r',cur := λ r'=>if r'=r then g else Γ.cur r',sz := λ r'=>if r'=r then vs.size else Γ.sz r',of := λ r'=>if r'=r then o else Γ.of r' }
 have v1 : Γ'.ver r=R'.ver:=if_pos rfl
 have c1 : Γ'.cur r=g:=if_pos rfl
 have s1 : Γ'.sz r=vs.size:=if_pos rfl
 have o1 : Γ'.of r=o:=if_pos rfl
 have v2:∀ q,q≠r -> Γ'.ver q = Γ.ver q := λ q hq=>if_neg hq
 have c2:∀ q,q≠r -> Γ'.cur q = Γ.cur q := λ q hq=>if_neg hq
 have s2:∀ q,q≠r -> Γ'.sz q = Γ.sz q := λ q hq=>if_neg hq
 have o2:∀ q,q≠r -> Γ'.of q = Γ.of q := λ q hq=>if_neg hq
 have hle:Le Γ Γ':=by
  refine ⟨λ _ _ _ h=>h,Nat.le_refl _,λ _ _=>rfl,Nat.le_refl _,λ _ _=>rfl,λ q _=>?_,λ q _ hq=>?_⟩
  ·by_cases hqr:q=r
   ·rw [hqr,v1,<- H.ver hlv]
    rcases hve with hve | hve<;>omega
   ·rw [v2 q hqr];exact Nat.le_refl _
  ·by_cases hqr:q=r
   ·subst hqr
    rw [v1,<- H.ver hlv] at hq
    rcases hve with hve | ⟨_,h1,h2,h3⟩
    ·omega
    ·exact ⟨c1.trans h1,s1.trans h2,o1.trans h3⟩
   ·exact ⟨c2 q hqr,s2 q hqr,o2 q hqr⟩
 refine ⟨Γ',⟨hle,hos,htp,hout,hsz,λ b hb hn=>ho b hb (by
  by_cases hz : Γ.sz r=0
  ·exact .inr hz
  ·exact .inl λ he=>hn (.inr ⟨r,hrn,hz,he.symm⟩)),?_,λ _ _ _ h => .inl h,hdr⟩,⟨h.nb,?_,λ b o u hm=>⟨hmem b o u hm,(h.mem b o u hm).2⟩,?_,h.inj,h.boxmem,?_,?_⟩,?_⟩
 ·rintro b (hb | ⟨q,hq,hz,hb⟩)
  ·exact .inl (.inl hb)
  ·by_cases hqr:q=r
   ·rw [hqr,c1] at hb
    rcases hg with ⟨hg,hg2⟩ | hg
    ·left;right;exact ⟨r,hrn,hg2,by rw [<- hg,hb]⟩
    ·right;omega
   ·rw [c2 q hqr] at hb
    exact .inl (.inr ⟨q,hq,by rw [<- s2 q hqr];exact hz,hb⟩)
 ·show Γ.nr=(σ.rw.set r R').length
  rw [List.length_set];exact h.nr
 ·intro i cs hi
  have hil:i < Γ.nb:=by rw [h.nb];exact getElem?_lt hi
  exact (h.box i cs hi).lift hil hle λ ob hob=>by
   rw [ho _ (h.box_lt hil) (by
    by_cases hz : Γ.sz r=0
    ·exact .inr hz
    ·exact .inl (H.nbx hz i hil))];exact hob
 ·intro q Q hQ
  rw [List.getElem?_set] at hQ
  split at hQ
  ·rename_i hqr
   subst hqr
   split at hQ<;>cases hQ
   refine ⟨hk.trans H.k,λ _=>v1.symm,by rw [hk];exact H.pos,by rw [hk];exact hlen,hpl,.inr hfz,λ _=>⟨vs,e,fr,by rw [c1];exact hnew,s1.symm,hsf,by rw [hk];exact hk1⟩,by rw [hk,s1,o1];exact hfit,λ _ off hoff=>by rw [c1];exact hun off (by rw [<- hk,<- o1];exact hoff),?_,λ _ i hi=>?_,λ hf=>o1.trans (hof hf)⟩
   ·intro i e' j x hi hj
    obtain ⟨u,hu,hrep,h1⟩:=hcell i e' j x hi hj
    exact ⟨u,by rw [c1,o1,hk,Q0 hnew];exact hu,hrep.mono hle,h1⟩
   ·rw [c1]
    intro he
    have he : Γ.β i=g:=he
    have hil:i < Γ.nb:=hi
    rcases hg with ⟨hg,hg2⟩ | hg
    ·exact H.nbx hg2 i hil (he.trans hg)
    ·have:=h.box_lt hil;omega
  ·rename_i hqr
   have hqn:q < Γ.nr:=by rw [h.nr];exact getElem?_lt hQ
   refine (h.row q Q hQ).lift hqn hle (v2 q λ he=>hqr he.symm) (λ hz ob hob=>?_) (λ _ _ hm=>hm) λ _ i hi hn=>by have:i < Γ.nb:=hi;omega
   rw [ho _ (h.cur_lt hqn hz) (by
    by_cases hz' : Γ.sz r=0
    ·exact .inr hz'
    ·exact .inl λ he=>h.apart r q hrn hqn hqr hz' hz he.symm)];exact hob
 ·intro q q' h1 h2 hne z1 z2
  by_cases e1:q=r<;>by_cases e2:q'=r
  ·omega
  ·rw [s2 q' e2] at z2
   rw [e1,c1,c2 q' e2]
   rcases hg with ⟨hg,hg2⟩ | hg
   ·rw [hg];exact h.apart r q' hrn h2 (Ne.symm e2) hg2 z2
   ·have:=h.cur_lt h2 z2;omega
  ·rw [s2 q e1] at z1
   rw [e2,c1,c2 q e1]
   rcases hg with ⟨hg,hg2⟩ | hg
   ·rw [hg];exact h.apart q r h1 hrn e1 z1 hg2
   ·have:=h.cur_lt h1 z1;omega
  ·rw [s2 q e1] at z1
   rw [s2 q' e2] at z2
   rw [c2 q e1,c2 q' e2];exact h.apart q q' h1 h2 hne z1 z2
 ·intro n cap a hn ha hcs
  refine .rs _ _ _ _ _ _ _ hrn (by rw [v1];exact Nat.le_refl _) hn (λ hf=>by cases hf) λ _=>?_
  rw [c1,s1,o1]
  refine ⟨ha.imp_right λ h=>by rw [h,Nat.zero_mul,Nat.add_zero],?_⟩
  show o+(0+cap) * Γ.k r<=vs.size
  rw [<- H.k,Nat.zero_add];exact hcs
theorem qoJ {Γ : Gh} {σ : St} {w w':World} (h:Inv Γ σ w) {r:Nat} {R R':Row} (hr : σ.rw[r]? = some R) (ho0 : Γ.of r=0) (hlv:R.fz<=R.c.length) (hk:R'.k=R.k) {g:Nat} {vs:Array Value} {e:TypeId} (hve:R'.ver=R.ver+1\/(R'.ver=R.ver/\g = Γ.cur r/\vs.size = Γ.sz r))
  (hlen:∀ e∈R'.c,e.length=R.k) (hpl:∀ e∈R'.c,∀ x∈e,qt x=true) (hfz:R'.fz<=R'.c.length) {fr:Nat × Nat} (hsf:qkn vs.size fr) (hk1:R.k≠1->fr=(0,0)) (hnew:w'.heap[g]? = some (.cells vs e fr)) (hfit:R'.c.length*R.k<=vs.size)
  (hun:∀ off,R'.fz*R.k<=off -> Γ.mem g off=none) (hcell:∀ (i:Nat) (e:List AV) (j:Nat) (x:AV),R'.c[i]? = some e->e[j]? = some x->∃ u,vs[i*R.k+j]? = some u/\Rep Γ x u/\u.oneCell'=true)
  (hmem:∀ b o u,Γ.mem b o=some u->w'.cell? ⟨b,o,none⟩=some u) (ho:∀ b,b<w.heap.size->(b ≠ Γ.cur r \/ Γ.sz r=0)->w'.heap[b]? = w.heap[b]?) (hg:(g = Γ.cur r /\ Γ.sz r≠0)\/w.heap.size<=g) (hos:w'.os=w.os) (htp:w'.tape=w.tape) (hout:w'.output=w.output) (hsz:w.heap.size<=w'.heap.size) (hdr:w.drawn<=w'.drawn) (wl:List Nat) :
  ∃ Γ',Ext Γ w Γ' w'/\Inv Γ' { σ with rw := σ.rw.set r R',wrr:=wl } w'/\∀ (n:Nat) (cap:Nat),n<=cap->cap*R.k<=vs.size->Rep Γ' (.rs r 0 n R'.ver false) (.slice (some ⟨g,0,none⟩) n cap):=by
 obtain ⟨Γ',f1,f2,f3⟩:=qiv h hr hlv hk (g:=g) (vs:=vs) (e:=e) (o:=0) (λ _=>rfl) (hve.imp_right λ ⟨a,b,c⟩=>⟨a,b,c,ho0.symm⟩) hlen hpl hfz hsf hk1 hnew (by rw [Nat.zero_add];exact hfit) (λ off ho=>hun off (by rw [Nat.zero_add] at ho;exact ho))
  (λ i e j x a b=>by rw [Nat.zero_add];exact hcell i e j x a b) hmem ho hg hos htp hout hsz hdr wl
 exact ⟨Γ',f1,f2,λ n cap a b=>f3 n cap _ a (.inr rfl) (by rw [Nat.zero_add];exact b)⟩
theorem qDA {Γ : Gh} {σ : St} {w:World} (h:Inv Γ σ w) {r:Nat} {R:Row} (hr : σ.rw[r]? = some R) (hlv:R.fz<=R.c.length) {l:Nat} (hl:l<=R.c.length) (wl:List Nat) :
  ∃ Γ',Ext Γ w Γ' w/\Inv Γ' { σ with rw := σ.rw.set r { R with c:=R.c.drop l,ver:=R.ver+1,fz:=R.fz-l,off:=true },wrr:=wl } w /\
   ∀ (n:Nat) (cap:Nat) (a:Option Addr),n<=cap->(cap=0\/a=some ⟨Γ.cur r,Γ.of r+l*R.k,none⟩) -> Γ.of r+l*R.k+cap*R.k <= Γ.sz r->Rep Γ' (.rs r 0 n (R.ver+1) false) (.slice a n cap):=by
 have H:=h.row r R hr
 have hlk:l*R.k<=R.c.length*R.k:=Nat.mul_le_mul_right _ hl
 have hfit:=H.fit
 have hdk:(R.c.length-l)*R.k=R.c.length*R.k-l*R.k:=Nat.mul_sub_right_distrib _ _ _
 by_cases hz : Γ.sz r=0
 ·-- no block: nothing is left out
  have hrn:r < Γ.nr:=by rw [h.nr];exact getElem?_lt hr
  have hof : Γ.of r=0:=by omega
  have hc0:R.c=[]:=by
   cases hc:R.c with
   | nil=>rfl
   | cons e c =>
     have:=H.pos
     rw [hc,List.length_cons,Nat.succ_mul] at hfit
     omega
  let Γ':Gh:={ Γ with ver := λ r'=>if r'=r then R.ver+1 else Γ.ver r' }
  have v1 : Γ'.ver r=R.ver+1:=if_pos rfl
  have v2:∀ q,q≠r -> Γ'.ver q = Γ.ver q := λ q hq=>if_neg hq
  have hle:Le Γ Γ':=by
   refine ⟨λ _ _ _ h=>h,Nat.le_refl _,λ _ _=>rfl,Nat.le_refl _,λ _ _=>rfl,λ q _=>?_,λ q _ _=>⟨rfl,rfl,rfl⟩⟩
   by_cases hqr:q=r
   ·rw [hqr,v1,<- H.ver hlv];omega
   ·rw [v2 q hqr];exact Nat.le_refl _
  have hl0:l=0:=by rw [hc0] at hl;simpa using hl
  refine ⟨Γ',⟨hle,rfl,rfl,rfl,Nat.le_refl _,λ _ _ _=>rfl,λ _ h => .inl h,λ _ _ _ h => .inl h,Nat.le_refl _⟩,⟨h.nb,?_,h.mem,λ i cs hi=>(h.box i cs hi).lift (by rw [h.nb];exact getElem?_lt hi) hle λ _ h=>h,h.inj,h.boxmem,?_,h.apart⟩,?_⟩
  ·show Γ.nr=(σ.rw.set r _).length
   rw [List.length_set];exact h.nr
  ·intro q Q hQ
   rw [List.getElem?_set] at hQ
   split at hQ
   ·rename_i hqr
    subst hqr
    split at hQ<;>cases hQ
    refine ⟨H.k,λ _=>v1.symm,H.pos,λ e he=>?_,λ e he=>?_,.inl ?_,λ hz'=>absurd hz hz',?_,λ hz'=>absurd hz hz',λ i e j x hi=>?_,λ hz'=>absurd hz hz',λ hf=>by cases hf⟩
    ·rw [hc0] at he;simp at he
    ·rw [hc0] at he;simp at he
    ·show R.c.drop l=[]
     rw [hc0];simp
    ·show Γ.of r+(R.c.drop l).length*R.k <= Γ.sz r
     rw [hc0,hof];simp
    ·rw [hc0] at hi;simp at hi
   ·rename_i hqr
    have hqn:q < Γ.nr:=by rw [h.nr];exact getElem?_lt hQ
    exact (h.row q Q hQ).lift hqn hle (v2 q λ he=>hqr he.symm) (λ _ _ h=>h) (λ _ _ hm=>hm) λ _ i hi hn=>by have:i < Γ.nb:=hi;omega
  ·intro n cap a hn ha hcs
   have hcap:cap=0:=by
    have:=H.pos
    rw [hz] at hcs
    rcases Nat.eq_zero_or_pos cap with h0 | h0
    ·exact h0
    ·have:=Nat.mul_pos h0 H.pos;omega
   refine .rs _ _ _ _ _ _ _ hrn (by rw [v1];exact Nat.le_refl _) hn (λ hf=>by cases hf) λ _=>⟨.inl hcap,?_⟩
   show Γ.of r+(0+cap) * Γ.k r <= Γ.sz r
   rw [hof,hcap];simp
 ·obtain ⟨vs,e',fr,g2,g3,g4,g5⟩:=H.blk hz
  obtain ⟨Γ',f1,f2,f3⟩:=qiv h hr hlv (R':={ R with c:=R.c.drop l,ver:=R.ver+1,fz:=R.fz-l,off:=true }) rfl (g := Γ.cur r) (vs:=vs) (e:=e') (o := Γ.of r+l*R.k) (λ hf=>by cases hf) (.inl rfl)
   (λ e he=>H.len e (List.mem_of_mem_drop he)) (λ e he=>H.plain e (List.mem_of_mem_drop he)) (by show R.fz-l<=(R.c.drop l).length;rw [List.length_drop];omega) g4 g5 g2
   (by show _+(R.c.drop l).length*R.k<=_;rw [List.length_drop,hdk,g3];omega)
   (λ off ho=>H.un hz off (by
    have ho' : Γ.of r+l*R.k+(R.fz-l)*R.k<=off:=ho
    have:R.fz*R.k<=l*R.k+(R.fz-l)*R.k:=by rw [<- Nat.add_mul];exact Nat.mul_le_mul_right _ (by omega)
    omega))
   (λ i e j x hi hj=>by
    have hi':R.c[l+i]? = some e:=by rw [<- List.getElem?_drop];exact hi
    obtain ⟨u,hu,hrep,h1⟩:=H.cells (l+i) e j x hi' hj
    refine ⟨u,?_,hrep,h1⟩
    rw [Q0 g2,Nat.add_mul] at hu
    rw [show Γ.of r+l*R.k+(i*R.k+j) = Γ.of r+(l*R.k+i*R.k+j) by omega]
    exact hu)
   (λ b o u hm=>(h.mem b o u hm).1) (λ _ _ _=>rfl) (.inl ⟨rfl,hz⟩) rfl rfl rfl (Nat.le_refl _) (Nat.le_refl _) wl
  exact ⟨Γ',f1,f2,λ n cap a h1 h2 h3=>f3 n cap a h1 h2 (by rw [g3];exact h3)⟩
theorem qDg {Γ : Gh} {σ : St} {w w':World} (h:Inv Γ σ w) {r:Nat} {R:Row} (hr : σ.rw[r]? = some R) (hlv:R.fz<=R.c.length) {xs:List (List AV)} (hlen:∀ e∈xs,e.length=R.k) (hpl:∀ e∈xs,∀ x∈e,qt x=true)
  {qe:List Value} (hnl:qe.length=xs.length*R.k) (hn:∀ (i:Nat) (e:List AV) (j:Nat) (x:AV),xs[i]? = some e->e[j]? = some x->∃ u,qe[i*R.k+j]? = some u/\Rep Γ x u/\u.oneCell'=true) (hz : Γ.sz r≠0) (hfit : Γ.of r+(R.c.length+xs.length)*R.k <= Γ.sz r)
  (hw:∀ vs e fr,w.heap[Γ.cur r]? = some (.cells vs e fr)->w'.heap[Γ.cur r]? = some (.cells (vs.toList.take (Γ.of r+R.c.length*R.k)++qe++vs.toList.drop (Γ.of r+R.c.length*R.k+qe.length)).toArray e fr)) (ho:∀ k,k ≠ Γ.cur r->w'.heap[k]? = w.heap[k]?)
  (hos:w'.os=w.os) (htp:w'.tape=w.tape) (hout:w'.output=w.output) (hsz:w'.heap.size=w.heap.size) (hdr:w.drawn<=w'.drawn) (wl:List Nat) {cap:Nat} (hc:R.c.length+xs.length<=cap) (hcs : Γ.of r+cap*R.k <= Γ.sz r) :
  ∃ Γ',Ext Γ w Γ' w'/\Inv Γ' { σ with rw := σ.rw.set r { R with c:=R.c++xs,ver:=R.ver+1 },wrr:=wl } w'/\Rep Γ' (.rs r 0 (R.c.length+xs.length) (R.ver+1) false) (.slice (some ⟨Γ.cur r,Γ.of r,none⟩) (R.c.length+xs.length) cap):=by
 have H:=h.row r R hr
 obtain ⟨vs,e',fr,g2,g3,g4,g5⟩:=H.blk hz
 have hnew:=hw vs e' fr g2
 have hvl:vs.toList.length = Γ.sz r:=by simpa using g3
 have hNk:(R.c.length+xs.length)*R.k=R.c.length*R.k+qe.length:=by rw [Nat.add_mul,hnl]
 have hfzk:R.fz*R.k<=R.c.length*R.k:=Nat.mul_le_mul_right _ hlv
 have hsize:(vs.toList.take (Γ.of r+R.c.length*R.k)++qe++vs.toList.drop (Γ.of r+R.c.length*R.k+qe.length)).length = Γ.sz r:=by
  simp only [List.length_append,List.length_take,List.length_drop,hvl];omega
 have hold:∀ off,off < Γ.of r+R.c.length*R.k->(vs.toList.take (Γ.of r+R.c.length*R.k)++qe++vs.toList.drop (Γ.of r+R.c.length*R.k+qe.length))[off]? = vs[off]? := by
  intro off hoff
  rw [List.append_assoc,List.getElem?_append_left (by simp;omega),List.getElem?_take,if_pos hoff]
  simp
 have hnews:∀ q u,qe[q]? = some u->(vs.toList.take (Γ.of r+R.c.length*R.k)++qe++vs.toList.drop (Γ.of r+R.c.length*R.k+qe.length))[Γ.of r+R.c.length*R.k+q]? = some u:=by
  intro q u hq
  have htl:(vs.toList.take (Γ.of r+R.c.length*R.k)).length = Γ.of r+R.c.length*R.k:=by rw [List.length_take];omega
  rw [List.append_assoc,List.getElem?_append_right (by rw [htl];omega),htl,Nat.add_sub_cancel_left,List.getElem?_append_left (getElem?_lt hq)]
  exact hq
 obtain ⟨Γ',f1,f2,f3⟩:=qiv h hr hlv (R':={ R with c:=R.c++xs,ver:=R.ver+1 }) rfl (g := Γ.cur r) (vs:=(vs.toList.take (Γ.of r+R.c.length*R.k)++qe++vs.toList.drop (Γ.of r+R.c.length*R.k+qe.length)).toArray) (o := Γ.of r) (λ hf=>H.off hf) (.inl rfl)
  (λ e he=>(List.mem_append.1 he).elim (H.len e) (hlen e)) (λ e he=>(List.mem_append.1 he).elim (H.plain e) (hpl e)) (by show R.fz<=(R.c++xs).length;rw [List.length_append];omega) (by rw [List.size_toArray,hsize,<- g3];exact g4) g5 hnew
  (by show Γ.of r+(R.c++xs).length*R.k<=_;rw [List.length_append,List.size_toArray,hsize];exact hfit) (H.un hz)
  (by
   intro i e j x hi hj
   have hi':(R.c++xs)[i]? = some e:=hi
   rw [List.getElem?_toArray]
   rcases qzf hi' with ⟨hlt,hi''⟩ | ⟨hge,hi''⟩
   ·obtain ⟨u,hu,hrep,h1⟩:=H.cells i e j x hi'' hj
    refine ⟨u,?_,hrep,h1⟩
    have hjl:=getElem?_lt hj
    rw [H.len e (List.mem_of_getElem? hi'')] at hjl
    have:i*R.k+j<R.c.length*R.k:=by
     calc i*R.k+j<i*R.k+R.k:=by omega
      _=(i+1)*R.k:=by rw [Nat.add_mul,Nat.one_mul]
      _<=R.c.length*R.k:=Nat.mul_le_mul_right _ hlt
    rw [hold _ (by omega),<- Q0 g2]
    exact hu
   ·obtain ⟨u,hu,hrep,h1⟩:=hn _ e j x hi'' hj
    refine ⟨u,?_,hrep,h1⟩
    have hie:i*R.k=R.c.length*R.k+(i-R.c.length)*R.k:=by rw [<- Nat.add_mul];congr 1;omega
    rw [show Γ.of r+(i*R.k+j) = Γ.of r+R.c.length*R.k+((i-R.c.length)*R.k+j) by omega]
    exact hnews _ u hu)
  (by
   intro b off u hm
   have hm':=(h.mem b off u hm).1
   by_cases hb:b = Γ.cur r
   ·subst hb
    have hlt:off < Γ.of r+R.c.length*R.k:=by
     rcases Nat.lt_or_ge off (Γ.of r+R.c.length*R.k) with hlt | hge
     ·exact hlt
     ·rw [H.un hz off (by omega)] at hm;cases hm
    rw [Q0 hnew,List.getElem?_toArray,hold off hlt,<- Q0 g2]
    exact hm'
   ·unfold World.cell? at hm' |-
    rw [ho b hb]
    exact hm')
  (λ b _ hb=>ho b (hb.resolve_right hz)) (.inl ⟨rfl,hz⟩) hos htp hout (by omega) hdr wl
 exact ⟨Γ',f1,f2,f3 _ cap _ hc (.inr rfl) (by rw [List.size_toArray,hsize];exact hcs)⟩
theorem qC2 {Γ : Gh} {σ : St} {w w':World} (h:Inv Γ σ w) {r:Nat} {R:Row} (hr : σ.rw[r]? = some R) (hlv:R.fz<=R.c.length) {xs:List (List AV)} (hlen:∀ e∈xs,e.length=R.k) (hpl:∀ e∈xs,∀ x∈e,qt x=true)
  {vs:Array Value} {e:TypeId} {g:Nat} (hb:Below w.heap.size w w') (hdr:w.drawn<=w'.drawn) (hg:w.heap.size<=g) (hnew:w'.heap[g]? = some (.cells vs e (0,0))) (hfit:(R.c.length+xs.length)*R.k<=vs.size)
  (hn:∀ (i:Nat) (e:List AV) (j:Nat) (x:AV),(R.c++xs)[i]? = some e->e[j]? = some x->∃ u,vs[i*R.k+j]? = some u/\Rep Γ x u/\u.oneCell'=true) (wl:List Nat) {cap:Nat} (hc:R.c.length+xs.length<=cap) (hcs:cap*R.k<=vs.size) :
  ∃ Γ',Ext Γ w Γ' w'/\Inv Γ' { σ with rw := σ.rw.set r { R with c:=R.c++xs,ver:=R.ver+1 },wrr:=wl } w'/\Rep Γ' (.rs r 0 (R.c.length+xs.length) (R.ver+1) false) (.slice (some ⟨g,0,none⟩) (R.c.length+xs.length) cap):=by
 have H:=h.row r R hr
 obtain ⟨Γ',f1,f2,f3⟩:=qiv h hr hlv (R':={ R with c:=R.c++xs,ver:=R.ver+1 }) rfl (g:=g) (vs:=vs) (o:=0) (λ _=>rfl) (.inl rfl)
  (λ e he=>(List.mem_append.1 he).elim (H.len e) (hlen e)) (λ e he=>(List.mem_append.1 he).elim (H.plain e) (hpl e)) (by show R.fz<=(R.c++xs).length;rw [List.length_append];omega) (qvt _) (λ _=>rfl) hnew
  (by show 0+(R.c++xs).length*R.k<=_;rw [List.length_append,Nat.zero_add];exact hfit)
  (λ off _=>by
   cases hm : Γ.mem g off with
   | none=>rfl
   | some u=>have:=h.mem_lt hm;omega) (λ i e j x a b=>by rw [Nat.zero_add];exact hn i e j x a b) (λ b o u hm=>qq3 hb (h.mem b o u hm).1) (λ b hb' _=>hb.block b hb') (.inr hg) hb.os hb.tape hb.output hb.size hdr wl
 exact ⟨Γ',f1,f2,f3 _ cap _ hc (.inr rfl) (by rw [Nat.zero_add];exact hcs)⟩
theorem qtT {Γ : Gh} {σ : St} {w w':World} (h:Inv Γ σ w) {r:Nat} {R:Row} (hr : σ.rw[r]? = some R) {i:Nat} {e0 e1:List AV} (hi:R.c[i]? = some e0) (hf:R.fz<=i) (hoff:R.off=false) (hlen:e1.length=R.k) (hpl:∀ x∈e1,qt x=true) {vs':Array Value}
  (hw:∀ vs e fr,w.heap[Γ.cur r]? = some (.cells vs e fr)->w'.heap[Γ.cur r]? = some (.cells vs' e fr)/\vs'.size=vs.size/\∀ off,(off<i*R.k\/i*R.k+R.k<=off)->vs'[off]? = vs[off]?)
  (hn:∀ (j:Nat) (x:AV),e1[j]? = some x->∃ u,vs'[i*R.k+j]? = some u/\Rep Γ x u/\u.oneCell'=true) (ho:∀ k,k ≠ Γ.cur r->w'.heap[k]? = w.heap[k]?)
  (hos:w'.os=w.os) (htp:w'.tape=w.tape) (hout:w'.output=w.output) (hsz:w'.heap.size=w.heap.size) (hdr:w.drawn<=w'.drawn) (wl:List Nat) :
  ∃ Γ',Ext Γ w Γ' w'/\Inv Γ' { σ with rw := σ.rw.set r { R with c:=R.c.set i e1 },wrr:=wl } w':=by
 have H:=h.row r R hr
 have hlv:R.fz<=R.c.length:=H.fz.resolve_left λ hn=>by rw [hn] at hi;cases hi
 have hz:=H.real hi
 have hz0:=H.off hoff
 have hcells:=H.cells
 have hunz:=H.un hz
 have hft:=H.fit
 rw [hz0] at hcells hunz hft
 simp only [Nat.zero_add] at hcells hunz hft
 obtain ⟨vs,e',fr,g2,g3,g4,g5⟩:=H.blk hz
 obtain ⟨w1,w2,w3⟩:=hw vs e' fr g2
 have hil:=getElem?_lt hi
 obtain ⟨Γ',f1,f2,_⟩:=qoJ h hr hz0 hlv (R':={ R with c:=R.c.set i e1 }) rfl (g := Γ.cur r) (vs:=vs') (.inr ⟨rfl,rfl,w2.trans g3⟩)
  (λ e he=>by
   obtain ⟨q,hq⟩:=List.getElem?_of_mem he
   rw [List.getElem?_set] at hq
   split at hq
   ·cases hq;exact hlen
   ·exact H.len e (List.mem_of_getElem? hq))
  (λ e he=>by
   obtain ⟨q,hq⟩:=List.getElem?_of_mem he
   rw [List.getElem?_set] at hq
   split at hq
   ·cases hq;exact hpl
   ·exact H.plain e (List.mem_of_getElem? hq)) (by show R.fz<=(R.c.set i e1).length;rw [List.length_set];exact hlv) (by rw [w2];exact g4) g5 w1
  (by show (R.c.set i e1).length*R.k<=_;rw [List.length_set,w2,g3];exact hft) hunz
  (by
   intro q e j x hq hj
   have hq':(R.c.set i e1)[q]? = some e:=hq
   rw [List.getElem?_set] at hq'
   split at hq'
   ·rename_i hqi
    subst hqi
    cases hq';exact hn j x hj
   ·rename_i hqi
    obtain ⟨u,hu,hrep,h1⟩:=hcells q e j x hq' hj
    refine ⟨u,?_,hrep,h1⟩
    have hjl:=getElem?_lt hj
    rw [H.len e (List.mem_of_getElem? hq')] at hjl
    rw [w3,<- Q0 g2]
    ·exact hu
    ·rcases Nat.lt_or_gt_of_ne hqi with hlt | hgt
     ·right
      calc i*R.k+R.k=(i+1)*R.k:=by rw [Nat.add_mul,Nat.one_mul]
       _<=q*R.k:=Nat.mul_le_mul_right _ hlt
       _<=q*R.k+j:=Nat.le_add_right _ _
     ·left
      calc q*R.k+j<q*R.k+R.k:=by omega
       _=(q+1)*R.k:=by rw [Nat.add_mul,Nat.one_mul]
       _<=i*R.k:=Nat.mul_le_mul_right _ hgt)
  (by
   intro b off u hm
   have hm':=(h.mem b off u hm).1
   by_cases hb:b = Γ.cur r
   ·subst hb
    have hlt:off<R.fz*R.k:=by
     rcases Nat.lt_or_ge off (R.fz*R.k) with hlt | hge
     ·exact hlt
     ·rw [hunz off hge] at hm;cases hm
    have:R.fz*R.k<=i*R.k:=Nat.mul_le_mul_right _ hf
    rw [Q0 w1,w3 off (.inl (by omega)),<- Q0 g2]
    exact hm'
   ·unfold World.cell? at hm' |-
    rw [ho b hb]
    exact hm')
  (λ b _ hb=>ho b (hb.resolve_right hz)) (.inl ⟨rfl,hz⟩) hos htp hout (by omega) hdr wl
 exact ⟨Γ',f1,f2⟩
end Go.AmZ
namespace Go.AmZ
open Go Go.RowKit
theorem TD.inv {P:Program} {t:TypeId} {d:TD} (h:yM P t=some d):∃ i u z,P.info? t=some i/\P.underlying t=some u/\i.zero=some z/\i.size=d.size/\i.bytes=d.bytes/\qoS u=d.agg/\z.cells.toList=d.zero/\qal P u=some d.k:=by
 unfold yM at h
 split at h
 ·rename_i i u hi hu
  split at h
  ·rename_i z k hz hk
   cases h
   exact ⟨i,u,z,hi,hu,hz,rfl,rfl,rfl,rfl,hk⟩
  ·cases h
 ·cases h
theorem qdQ {P:Program} {u:TypeDesc} (h:qal P u=some .string):u = .string:=by
 cases u<;>simp [qal] at h<;>try rfl
 all_goals (split at h<;>try (split at h))<;>simp at h
theorem qGM {P:Program} {u:TypeDesc} (h:qal P u=some .bool):u = .bool:=by
 cases u<;>simp [qal] at h<;>try rfl
 all_goals (split at h<;>try (split at h))<;>simp at h
theorem qxk {P:Program} {u:TypeDesc} {k:IntKind} (h:qal P u=some (.int k)):u = .int k:=by
 cases u<;>simp [qal] at h
 all_goals first | (subst h;rfl) | ((split at h<;>try (split at h))<;>simp at h)
theorem JF {P:Program} {u:TypeDesc} {e s b:Nat} {z:List Value} (h:qal P u=some (.slice e s b z)):u = .slice e/\∃ i zv,P.info? e=some i/\i.zero=some zv/\i.size=s/\i.bytes=b/\zv.cells.toList=z:=by
 cases u with
 | slice e' =>
   simp only [qal] at h
   split at h
   ·rename_i i hi
    split at h
    ·rename_i zv hz
     simp only [Option.some.injEq,TK.slice.injEq] at h
     obtain ⟨rfl,rfl,rfl,rfl⟩:=h
     exact ⟨rfl,i,zv,hi,hz,rfl,rfl,rfl⟩
    ·cases h
   ·cases h
 | _=>simp [qal] at h<;>(split at h<;>simp at h)
theorem qEu {P:Program} {u:TypeDesc} {n e s:Nat} (h:qal P u=some (.array n e s)):u = .array n e/\∃ i,P.info? e=some i/\i.size=s:=by
 cases u with
 | array n' e' =>
   simp only [qal] at h
   split at h
   ·rename_i i hi
    simp only [Option.some.injEq,TK.array.injEq] at h
    obtain ⟨rfl,rfl,rfl⟩:=h
    exact ⟨rfl,i,hi,rfl⟩
   ·cases h
 | _=>simp [qal] at h<;>((split at h<;>try (split at h))<;>simp at h)
theorem qme {P:Program} {u:TypeDesc} {fs:List (Nat × Nat × Bool)} (h:qal P u=some (.struct fs)):∃ F,u = .struct F/\Ju P F.toList=some fs:=by
 cases u with
 | struct F =>
   simp only [qal] at h
   cases hf:Ju P F.toList with
   | none=>rw [hf] at h;cases h
   | some l=>rw [hf] at h;cases h;exact ⟨F,rfl,hf⟩
 | slice e=>simp only [qal] at h;split at h<;>(try split at h)<;>cases h
 | array n e=>simp only [qal] at h;split at h<;>cases h
 | _=>simp [qal] at h
theorem qgA {P:Program}:∀ {F:List Field} {fs:List (Nat × Nat × Bool)},Ju P F=some fs->F.length=fs.length/\∀ (i:Nat) (x:Nat × Nat × Bool),fs[i]? = some x->∃ f fi u,F[i]? = some f/\P.info? f.type=some fi/\P.underlying f.type=some u/\x=(f.offset,fi.size,qoS u)
 | [],fs,h=>by simp [Ju] at h;subst h;exact ⟨rfl,λ i x hx=>by simp at hx⟩
 | f::F,fs,h=>by
   simp only [Ju] at h
   split at h
   ·rename_i i u l hi hu hl
    cases h
    obtain ⟨h1,h2⟩:=qgA hl
    refine ⟨by simp [h1],λ j x hx=>?_⟩
    cases j with
    | zero=>simp at hx;exact ⟨f,i,u,rfl,hi,hu,hx.symm⟩
    | succ j=>simp at hx;obtain ⟨f',fi,u',g1,g2⟩:=h2 j x hx;exact ⟨f',fi,u',by simpa using g1,g2⟩
   ·cases h
def QF (P:Program) (Γ : Gh) (σ : St) (w:World) (o:Oper) (ρ : Operand->Value) (x:AV) (σ':Option St):Prop :=
 ∃ nx u w' Γ',(execOp ρ o).run P w = .ok nx w'/\(nx = .value u\/(nx = .skip/\u=undef))/\Ext Γ w Γ' w'/\Inv Γ' (turn σ σ') w'/\Rep Γ' x u
theorem QF.val {P:Program} {Γ : Gh} {σ : St} {w:World} {o:Oper} {ρ : Operand->Value} {x:AV} {u:Value} (h:(execOp ρ o).run P w = .ok (.value u) w) (hi:Inv Γ σ w) (hr:Rep Γ x u):QF P Γ σ w o ρ x none :=
 ⟨_,u,w,Γ,h,.inl rfl,.refl _ _,hi,hr⟩
section
variable {P:Program} {C:Cfg} {Γ : Gh} {σ : St} {w:World} {o:Oper} {tm:List AV} {ρ : Operand->Value} {x:AV} {σ':Option St}
theorem qS {y:Value} {u:Value} (h:Rep Γ (.v y) u):u=y:=by cases h;rfl
theorem qyW (hi:Inv Γ σ w) (hρ : ∀ y,Rep Γ (aev tm y) (ρ y)) (y:Operand) (ho:o.op = .move y\/o.op = .assign y):QF P Γ σ w o ρ (aev tm y) none:=by
 refine .val ?_ hi (hρ y)
 rcases ho with ho | ho<;>simp [execOp,ho]
theorem qFU (hi:Inv Γ σ w) (hρ : ∀ y,Rep Γ (aev tm y) (ρ y)) (c a b:Operand) (ho:o.op = .pick c a b) (h:qb C tm σ o.op=some (x,σ')):QF P Γ σ w o ρ x σ':=by
 rw [ho] at h
 simp only [qb] at h
 split at h<;>try cases h
 ·rename_i hc
  have:=qS (hc▸hρ c)
  exact .val (by simp [execOp,ho,this,asBool]) hi (hρ a)
 ·rename_i hc
  have:=qS (hc▸hρ c)
  exact .val (by simp [execOp,ho,this,asBool]) hi (hρ b)
theorem qc9 (e:TypeId) (cs:Array Value) (w:World):(newRow e cs).run P w = .ok ⟨w.heap.size,0,none⟩ (w.alloc (.cells cs e)):=by
 simp only [newRow,newObj];rfl
theorem qdR:∀ {l:List Value},l.all zO=true->RepL Γ (l.map .v) l/\∀ u∈l,u.oneCell'=true
 | [],_=>⟨.nil,λ u h=>by cases h⟩
 | y::l,h=>by
   simp only [List.all_cons,Bool.and_eq_true] at h
   obtain ⟨h1,h2⟩:=qdR h.2
   refine ⟨.cons (.v y h.1) h1,λ u hu=>?_⟩
   rcases List.mem_cons.1 hu with rfl | hu
   ·exact qxC h.1
   ·exact h2 u hu
theorem qDM (hC:∀ t d,C.ty t=some d->yM P t=some d) (hi:Inv Γ σ w) (e:TypeId) (ho:o.op = .alloc e) (h:qb C tm σ o.op=some (x,σ')):QF P Γ σ w o ρ x σ':=by
 rw [ho] at h
 simp only [qb] at h
 split at h<;>try cases h
 rename_i d hd
 split at h<;>try cases h
 rename_i hz
 obtain ⟨i,u,z,h1,h2,h3,h4,h5,h6,h7,h8⟩:=TD.inv (hC e d hd)
 obtain ⟨g1,g2⟩:=qdR (Γ := Γ) hz
 obtain ⟨Γ',e1,e2,e3⟩:=qtB hi g1 g2 e
 refine ⟨.value (.pointer (some ⟨w.heap.size,0,none⟩)),_,_,Γ',?_,.inl rfl,e1,e2,e3⟩
 rw [<- h7]
 simp [execOp,ho,Instr.alloc,zeroValue,typeInfo,h1,h3,newVar,qc9]
theorem qHh (hi:Inv Γ σ w) (hρ : ∀ y,Rep Γ (aev tm y) (ρ y)) (e:TypeId) (y:Operand) (ho:o.op = .box e y) (h:qb C tm σ o.op=some (x,σ')):QF P Γ σ w o ρ x σ':=by
 rw [ho] at h
 simp only [qb] at h
 split at h<;>try cases h
 split at h<;>try cases h
 rename_i hz
 obtain ⟨g1,g2⟩:=(hρ y).cells hz
 obtain ⟨Γ',e1,e2,e3⟩:=qtB hi g1 g2 e
 refine ⟨.value (.pointer (some ⟨w.heap.size,0,none⟩)),_,_,Γ',?_,.inl rfl,e1,e2,e3⟩
 simp [execOp,ho,Instr.box,newVar,qc9]
def qzc (Γ : Gh) (w:World) (cs:List AV) (b o:Nat):Prop:=∀ (j:Nat) (x:AV),cs[j]? = some x->∃ u,w.cell? ⟨b,o+j,none⟩=some u/\Rep Γ x u/\u.oneCell'=true
theorem qdC (b o j:Nat):(⟨b,o,none⟩:Addr).add j=⟨b,o+j,none⟩:=by unfold Addr.add;split<;>simp_all
theorem qCi (hi:Inv Γ σ w) {y:AV} {u:Value} (hr:Rep Γ y u) {d:TD} {z:AV} (h:Qo d σ y=some z):∃ cs o b o',qzc Γ w cs b o'/\u = .pointer (some ⟨b,o'+o,none⟩)/\qbn d.agg d.size cs o=some z:=by
 cases hr with
 | ptr b o hb =>
   simp only [Qo] at h
   split at h<;>try cases h
   rename_i cs hcs
   obtain ⟨vs,e,g1,g2,g3⟩:=hi.box b cs hcs
   refine ⟨cs,o,Γ.β b,0,?_,by simp,h⟩
   intro j x hx
   obtain ⟨u,hu,hrep⟩:=g2.get hx
   refine ⟨u,?_,hrep,g3 u (List.mem_of_getElem? hu)⟩
   unfold World.cell?
   show (match w.heap[Γ.β b]? with | some (.cells c _ _)=>if (none:Option Nat).isSome=true then none else c[0+j]? | _=>none)=some u
   rw [g1]
   simpa using hu
 | rpt r i o ep A hrn hv hx =>
   simp only [Qo] at h
   split at h<;>try cases h
   rename_i R hR
   split at h<;>try cases h
   rename_i cs hcs
   simp only [qnz] at hcs
   split at hcs<;>try cases hcs
   rename_i hc
   have H:=hi.row r R hR
   have hA:=hx (by rw [<- H.ver (H.live hcs)];exact hc)
   refine ⟨cs,o,Γ.cur r,Γ.of r+i*R.k,?_,by rw [hA,H.k],h⟩
   intro j x hx
   rw [Nat.add_assoc]
   exact H.cells i cs j x hcs hx
 | ept cs o b o' us hp hm hr=>exact ⟨cs,o,b,o',λ j x hx=>⟨us j,(hi.mem _ _ _ (hm j x hx)).1,hr j x hx,(hi.mem _ _ _ (hm j x hx)).2⟩,rfl,h⟩
 | v x hb=>simp [Qo] at h
 | dead u=>simp [Qo] at h
 | sl=>simp [Qo] at h
 | rs=>simp [Qo] at h
 | fn=>simp [Qo] at h
 | agg=>simp [Qo] at h
 | tup=>simp [Qo] at h
theorem qis {t:TypeId} {u:TypeDesc} (h:P.underlying t=some u) (w:World):(isAgg t).run P w = .ok (qoS u) w:=by
 cases u<;>simp [isAgg,underlying,h,qoS]
theorem qAn {t:TypeId} {d:TD} (hd:yM P t=some d) {cs:List AV} {b o' o:Nat} (hc:qzc Γ w cs b o') {z:AV} (h:qbn d.agg d.size cs o=some z):∃ u,(loadVar t ⟨b,o'+o,none⟩).run P w = .ok u w/\Rep Γ z u:=by
 obtain ⟨i,u,zv,h1,h2,h3,h4,h5,h6,h7,h8⟩:=TD.inv hd
 unfold qbn at h
 split at h
 ·rename_i hg
  split at h<;>try cases h
  rename_i hle
  have hle:o+d.size<=cs.length:=by simpa using hle
  have hget:∀ j,j<d.size->∃ u,w.cell? ⟨b,o'+o+j,none⟩=some u/\(∀ x,cs[o+j]? = some x->Rep Γ x u)/\u.oneCell'=true:=by
   intro j hj
   have hlt:o+j<cs.length:=by omega
   obtain ⟨u,a1,a2,a3⟩:=hc (o+j) _ (List.getElem?_eq_getElem hlt)
   refine ⟨u,by rw [Nat.add_assoc];exact a1,λ x hx=>?_,a3⟩
   rw [List.getElem?_eq_getElem hlt] at hx;cases hx;exact a2
  let f:Nat->Value := λ j=>(w.cell? ⟨b,o'+o+j,none⟩).getD undef
  have hf:∀ j,j<d.size->w.cell? ⟨b,o'+o+j,none⟩=some (f j) := λ j hj=>by
   obtain ⟨u,a1,_⟩:=hget j hj
   show _=some ((w.cell? ⟨b,o'+o+j,none⟩).getD undef)
   rw [a1];rfl
  have hrun:=run_loadCells (P:=P) w ⟨b,o'+o,none⟩ d.size f (λ j hj=>by rw [qdC];exact hf j hj)
  refine ⟨.agg ((List.range d.size).map f).toArray,?_,.agg _ _ (by simp;omega) ?_ ?_⟩
  ·rw [show (loadVar t ⟨b,o'+o,none⟩)=(do if <- isAgg t then pure (.agg (<- loadCells ⟨b,o'+o,none⟩ (<- sizeOf t))) else load ⟨b,o'+o,none⟩) from rfl]
   simp [Sem.run_bind',qis h2,h6,hg,sizeOf,typeInfo,h1,h4,hrun]
  ·intro v hv
   obtain ⟨j,hj,rfl⟩:=List.mem_map.1 hv
   obtain ⟨u,a1,_,a3⟩:=hget j (List.mem_range.1 hj)
   have:=hf j (List.mem_range.1 hj)
   rw [a1] at this
   cases this
   exact a3
  ·intro j x v hx hv
   rw [List.getElem?_take] at hx
   split at hx<;>try cases hx
   rename_i hj
   rw [List.getElem?_drop] at hx
   obtain ⟨u,a1,a2,_⟩:=hget j hj
   have h1:=hf j hj
   rw [a1] at h1
   have hv':some (f j)=some v:=by
    rw [<- hv];simp [hj]
   cases hv'
   cases h1
   exact a2 x hx
 ·rename_i hg
  obtain ⟨u,a1,a2,a3⟩:=hc o z h
  refine ⟨u,?_,a2⟩
  rw [show (loadVar t ⟨b,o'+o,none⟩)=(do if <- isAgg t then pure (.agg (<- loadCells ⟨b,o'+o,none⟩ (<- sizeOf t))) else load ⟨b,o'+o,none⟩) from rfl]
  simp [Sem.run_bind',qis h2,h6,hg,a1]
theorem qzy (hi:Inv Γ σ w) {t:TypeId} {d:TD} (hd:yM P t=some d) {y:AV} {u:Value} (hr:Rep Γ y u) {z:AV} (h:Qo d σ y=some z):∃ v A,u = .pointer (some A)/\(loadVar t A).run P w = .ok v w/\Rep Γ z v:=by
 obtain ⟨cs,o,b,o',h1,h2,h3⟩:=qCi hi hr h
 obtain ⟨v,g1,g2⟩:=qAn hd h1 h3
 exact ⟨v,_,h2,g1,g2⟩
theorem qGL (hC:∀ t d,C.ty t=some d->yM P t=some d) (hi:Inv Γ σ w) (hρ : ∀ y,Rep Γ (aev tm y) (ρ y)) (t:TypeId) (y:Operand) (ho:o.op = .load t y) (h:qb C tm σ o.op=some (x,σ')):QF P Γ σ w o ρ x σ':=by
 rw [ho] at h
 simp only [qb] at h
 split at h<;>try cases h
 rename_i d hd
 split at h<;>try cases h
 rename_i z hz
 obtain ⟨v,A,h1,h2,h3⟩:=qzy hi (hC t d hd) (hρ y) hz
 exact .val (by simp [execOp,ho,Instr.loadAt,Instr.sureAddr,h1,Sem.run_bind',h2]) hi h3
theorem qon {w:World} {g j:Nat} {t:TypeId} {fr:Nat × Nat} {cur:Array Value} (h:w.heap[g]? = some (.cells cur t fr)) (hs:qkn cur.size fr) (hj:j<cur.size):w.frozen? ⟨g,j,none⟩=false:=by
 obtain ⟨lo,hi⟩:=fr
 unfold World.frozen?
 show (match w.heap[g]? with | some (.cells _ _ (lo,hi))=>decide (lo<=j)&&decide (j<hi) | _=>false)=false
 rw [h]
 have:=hs j hj
 simp only [Bool.and_eq_false_iff,decide_eq_false_iff_not]
 rcases Nat.lt_or_ge j lo with h1 | h1
 ·exact .inl (by omega)
 ·exact .inr λ h2=>this ⟨h1,h2⟩
theorem qyg {w:World} {g:Nat} {t:TypeId} {fr:Nat × Nat} {cur:Array Value} (h:w.heap[g]? = some (.cells cur t fr)):w.setRow g cur.toList.toArray=w:=by
 unfold World.setRow
 have:∀ H:Array Obj,H=w.heap->({ w with heap:=H }:World)=w := λ H e=>by subst e;rfl
 refine this _ ?_
 apply Array.ext_getElem?
 intro q
 rw [Array.getElem?_modify]
 split
 ·rename_i he
  subst he
  rw [h];simp
 ·rfl
theorem qqu {α : Type} {l m:List α} {off n:Nat} (hm:m.length=n) (h:off+n<=l.length) (q:Nat):(l.take off++(m++l.drop (off+n)))[q]? = if q<off then l[q]? else if q<off+n then m[q-off]? else l[q]? := by
 have ht:(l.take off).length=off:=by rw [List.length_take];omega
 split
 ·rename_i h1
  rw [List.getElem?_append_left (by omega),List.getElem?_take,if_pos h1]
 ·rename_i h1
  rw [List.getElem?_append_right (by omega),ht]
  split
  ·rename_i h2
   rw [List.getElem?_append_left (by omega)]
  ·rename_i h2
   rw [List.getElem?_append_right (by omega),hm,List.getElem?_drop]
   congr 1;omega
theorem qg7 {g:Nat} {t:TypeId} {fr:Nat × Nat}:∀ (vs:List Value) (o:Nat) (cur:Array Value) (w:World),w.heap[g]? = some (.cells cur t fr)->o+vs.length<=cur.size->w.setCells g o vs=w.setRow g (cur.toList.take o++(vs++cur.toList.drop (o+vs.length))).toArray
 | [],o,cur,w,h,_=>by
   rw [World.setCells,List.length_nil,Nat.add_zero,List.nil_append,List.take_append_drop]
   exact (qyg h).symm
 | v::vs,o,cur,w,h,hl=>by
   rw [List.length_cons] at hl
   have ho:o<cur.size:=by omega
   have h1:w.setCell ⟨g,o,none⟩ v=w.setRow g (cur.setIfInBounds o v):=setCell_eq_setRow w g o cur t fr v h
   rw [World.setCells,h1,qg7 vs (o+1) (cur.setIfInBounds o v) _ (setRow_heap w g cur _ t fr h) (by rw [Array.size_setIfInBounds];omega),setRow_setRow]
   congr 2
   have e1:(cur.toList.set o v).take (o+1)=cur.toList.take o++[v]:=by
    rw [List.take_add_one,List.take_set_of_le (Nat.le_refl _),List.getElem?_set_self (by simpa using ho)];rfl
   have e2:(cur.toList.set o v).drop (o+1+vs.length)=cur.toList.drop (o+(v::vs).length):=by
    rw [List.drop_set_of_lt (by omega),List.length_cons]
    congr 1;omega
   rw [Array.toList_setIfInBounds,e1,e2]
   simp
theorem qlB {w:World} {g:Nat} {t:TypeId} {fr:Nat × Nat} {cur:Array Value} (h:w.heap[g]? = some (.cells cur t fr)) (hs:qkn cur.size fr) (o:Nat) (vs:List Value) (hl:o+vs.length<=cur.size) (h1:∀ v∈vs,v.oneCell'=true) :
  (storeCells ⟨g,o,none⟩ vs 0).run P w = .ok () (w.setRow g (cur.toList.take o++(vs++cur.toList.drop (o+vs.length))).toArray):=by
 have:=run_storeCells_cells (P:=P) g o vs 0 w (λ j hj=>by
  rw [Q0 h,Array.getElem?_eq_getElem (show o+0+j<cur.size by omega)];rfl) (λ j hj=>qon h hs (by omega)) h1
 rw [Nat.add_zero,qg7 vs o cur w h hl] at this
 exact this
theorem qvL (hC:∀ t d,C.ty t=some d->yM P t=some d) (hi:Inv Γ σ w) (hρ : ∀ y,Rep Γ (aev tm y) (ρ y)) (t:TypeId) (y z:Operand) (ho:o.op = .store t y z) {d:TD} (hd:C.ty t=some d) {r i off ep:Nat} (hp:aev tm y = .rpt r i off ep) {R R':Row} (hR : σ.rw[r]? = some R)
  (hst:qnp R i off ep d.size (cellsOf (aev tm z))=some R'):QF P Γ σ w o ρ (.tup []) (some { σ with rw := σ.rw.set r R',wrr:=r :: σ.wrr }):=by
 unfold qnp at hst
 split at hst<;>try cases hst
 rename_i e0 hcond he0
 simp only [Bool.and_eq_true,decide_eq_true_eq,List.all_eq_true] at hcond
 obtain ⟨⟨hver,hfz,hfit,hlen,hoff⟩,hpl⟩:=hcond
 have hone:(cellsOf (aev tm z)).all isC=true:=List.all_eq_true.2 λ x hx=>by
  have:=hpl x hx
  cases x<;>first | rfl | (simp [qt] at this)
 obtain ⟨ii,u,zv,h1,h2,h3,h4,h5,h6,h7,h8⟩:=TD.inv (hC t d hd)
 have H:=hi.row r R hR
 have hu : ρ y = .pointer (some ⟨Γ.cur r,i*R.k+off,none⟩):=by
  have hptr:=hp▸hρ y
  generalize ρ y=u0 at hptr
  cases hptr with
  | rpt _ _ _ _ A hrn hv hl=>rw [hl (by rw [<- H.ver (H.live he0)];exact hver),H.k,H.off hoff,Nat.zero_add]
 obtain ⟨g1,g2⟩:=(hρ z).cells hone
 have gl:=(hρ z).cells_len hone
 obtain ⟨vs,e,fr,c1,c2,c3,_⟩:=H.blk (H.real he0)
 have hil:=getElem?_lt he0
 have hel:=H.len e0 (List.mem_of_getElem? he0)
 have hik:i*R.k+R.k<=vs.size:=by
  calc i*R.k+R.k=(i+1)*R.k:=by rw [Nat.add_mul,Nat.one_mul]
   _<=R.c.length*R.k:=Nat.mul_le_mul_right _ hil
   _ <= Γ.sz r:=by have:=H.fit;omega
   _=vs.size:=c2.symm
 have hvl2:(ρ z).cells.toList.length=d.size:=by simp;omega
 have hrun:=qlB (P:=P) c1 c3 (i*R.k+off) (ρ z).cells.toList (by rw [hvl2];omega) g2
 rw [hvl2] at hrun
 have hvt:i*R.k+off+d.size<=vs.toList.length:=by simp;omega
 have hsp := λ q=>qqu hvl2 hvt q
 have hspe := λ q=>qqu (l:=e0) (m:=cellsOf (aev tm z)) (off:=off) hlen (by omega) q
 obtain ⟨Γ',f1,f2⟩:=qtT hi hR he0 hfz hoff (e1:=e0.take off++(cellsOf (aev tm z)++e0.drop (off+d.size))) (by simp;omega)
  (by
   intro x hx
   rcases List.mem_append.1 hx with hx | hx
   ·exact H.plain e0 (List.mem_of_getElem? he0) x (List.mem_of_mem_take hx)
   ·rcases List.mem_append.1 hx with hx | hx
    ·exact hpl x hx
    ·exact H.plain e0 (List.mem_of_getElem? he0) x (List.mem_of_mem_drop hx))
  (vs':=(vs.toList.take (i*R.k+off)++((ρ z).cells.toList++vs.toList.drop (i*R.k+off+d.size))).toArray)
  (w':=w.setRow (Γ.cur r) (vs.toList.take (i*R.k+off)++((ρ z).cells.toList++vs.toList.drop (i*R.k+off+d.size))).toArray)
  (by
   intro vs2 e2 fr2 hv
   rw [c1] at hv;cases hv
   refine ⟨setRow_heap w _ _ _ _ _ c1,?_,λ q hq=>?_⟩
   ·simp only [List.size_toArray,List.length_append,List.length_take,List.length_drop,hvl2,Array.length_toList];omega
   ·rw [List.getElem?_toArray,hsp q]
    have hvq:vs[q]? = vs.toList[q]? := by simp
    rw [hvq]
    split
    ·rfl
    ·rw [if_neg (by omega)])
  (by
   intro j x hj
   rw [List.getElem?_toArray,hsp]
   rw [hspe] at hj
   have old:∀ x',e0[j]? = some x'->∃ u,vs.toList[i*R.k+j]? = some u/\Rep Γ x' u/\u.oneCell'=true:=by
    intro x' hx'
    obtain ⟨u,hu,hrep,h1⟩:=H.cells i e0 j x' he0 hx'
    rw [Q0 c1,H.off hoff,Nat.zero_add] at hu
    exact ⟨u,by simpa using hu,hrep,h1⟩
   split at hj
   ·rename_i hjo
    rw [if_pos (by omega)]
    exact old x hj
   ·rename_i hjo
    split at hj
    ·rename_i hjs
     rw [if_neg (by omega),if_pos (by omega)]
     obtain ⟨u,hu,hrep⟩:=g1.get hj
     exact ⟨u,by rw [show i*R.k+j-(i*R.k+off)=j-off by omega];exact hu,hrep,g2 u (List.mem_of_getElem? hu)⟩
    ·rename_i hjs
     rw [if_neg (by omega),if_neg (by omega)]
     exact old x hj)
  (λ k hk=>setRow_other w _ k _ hk) rfl rfl rfl (by simp) (Nat.le_refl _) (r :: σ.wrr)
 refine ⟨.skip,undef,_,Γ',?_,.inr ⟨rfl,rfl⟩,f1,f2,.tup [] [] rfl λ i x u hx=>by simp at hx⟩
 have hsz:(ρ z).cells.size=ii.size:=by omega
 simp [execOp,ho,Instr.storeAt,Instr.sureAddr,hu,storeVar,sizeOf,typeInfo,h1,Sem.run_bind',hsz,hrun,List.append_assoc]
theorem qEQ (hC:∀ t d,C.ty t=some d->yM P t=some d) (hi:Inv Γ σ w) (hρ : ∀ y,Rep Γ (aev tm y) (ρ y)) (t:TypeId) (y z:Operand) (ho:o.op = .store t y z) (h:qb C tm σ o.op=some (x,σ')):QF P Γ σ w o ρ x σ':=by
 rw [ho] at h
 simp only [qb] at h
 split at h<;>try cases h
 case h_2 =>
  rename_i d r i off ep hd hp
  split at h<;>try cases h
  rename_i R hR
  split at h<;>cases h
  rename_i R' hst
  exact qvL hC hi hρ t y z ho hd hp hR hst
 rename_i d b off hd hp
 split at h<;>try cases h
 rename_i cs hcs
 split at h<;>try cases h
 rename_i hcond
 simp only [Bool.and_eq_true,decide_eq_true_eq] at hcond
 obtain ⟨⟨hl,hfit⟩,hone⟩:=hcond
 obtain ⟨i,u,zv,h1,h2,h3,h4,h5,h6,h7,h8⟩:=TD.inv (hC t d hd)
 have hptr:=hp▸hρ y
 have hu : ρ y = .pointer (some ⟨Γ.β b,off,none⟩):=by
  generalize ρ y=u0 at hptr
  cases hptr;rfl
 obtain ⟨g1,g2⟩:=(hρ z).cells hone
 have gl:=(hρ z).cells_len hone
 obtain ⟨vs,e,c1,c2,c3⟩:=hi.box b cs hcs
 have hvl:vs.size=cs.length:=by simpa using c2.len
 have hrun:=run_storeCells_at P (Γ.β b) off e (ρ z).cells.toList 0 vs w c1 (by simp;omega) g2
 simp only [Nat.add_zero] at hrun
 have hvl2:(ρ z).cells.toList.length=d.size:=by simp;omega
 rw [hvl2] at hrun
 obtain ⟨e1,e2⟩:=qB0 hi hcs (cs':=cs.take off++(cellsOf (aev tm z)++cs.drop (off+d.size))) (vs':=vs.toList.take off++((ρ z).cells.toList++vs.toList.drop (off+d.size)))
  ((c2.take off).append (g1.append (c2.drop _))) (by
    intro v hv
    rcases List.mem_append.1 hv with hv | hv
    ·exact c3 v (List.mem_of_mem_take hv)
    ·rcases List.mem_append.1 hv with hv | hv
     ·exact g2 v hv
     ·exact c3 v (List.mem_of_mem_drop hv)) (b :: σ.wr) (w.setRow (Γ.β b) (vs.toList.take off++((ρ z).cells.toList++vs.toList.drop (off+d.size))).toArray) (λ vs' e' hvs=>setRow_heap w _ vs' _ e' (0,0) hvs) (λ k hk=>setRow_other w _ k _ hk) rfl rfl rfl (by simp) (Nat.le_refl _)
 refine ⟨.skip,undef,_,Γ,?_,.inr ⟨rfl,rfl⟩,e1,e2,.tup [] [] rfl λ i x u hx=>by simp at hx⟩
 have hsz:(ρ z).cells.size=i.size:=by omega
 simp [execOp,ho,Instr.storeAt,Instr.sureAddr,hu,storeVar,sizeOf,typeInfo,h1,Sem.run_bind',hsz,hrun,List.append_assoc]
theorem qH0 (hi:Inv Γ σ w) (hρ : ∀ y,Rep Γ (aev tm y) (ρ y)) (y:Operand) (ho:o.op = .nilCheck y) (h:qb C tm σ o.op=some (x,σ')):QF P Γ σ w o ρ x σ':=by
 rw [ho] at h
 simp only [qb] at h
 have hy:=hρ y
 split at h<;>try cases h
 all_goals
  rename_i hp
  rw [hp] at hy
  refine .val ?_ hi hy
  generalize hu : ρ y=u0 at hy
  cases hy
  simp [execOp,ho,hu]
end
end Go.AmZ
namespace Go.AmZ
open Go Go.RowKit
section
variable {P:Program} {C:Cfg} {Γ : Gh} {σ : St} {w:World} {o:Oper} {tm:List AV} {ρ : Operand->Value} {x:AV} {σ':Option St}
theorem toList_eq (a:ByteArray):a.toList=a.data.toList:=by rw [ByteArray.toList_eq]
theorem qHV {op:BinOp} {k:IntKind} {a b:Int} {z:Value} (h:qxl op k a b=some z) (t:TypeId):Go.binOp op t (.int k a) (.int k b) = .pure z/\zO z=true:=by
 cases op<;>simp only [qxl] at h<;>try cases h
 all_goals first
  | exact ⟨by simp [Go.binOp,Op.intArith,Op.intBits,Op.intCmp,iw,qf,qaC,qC6,qjV,ieq,ilt,ile,qd]<;>first | rfl | (congr 1;simp [bne];done),rfl⟩
  | (split at h
     ·cases h
     ·rename_i hb
      cases h
      have hb':b≠0:=by simpa [ieq] using hb
      exact ⟨by simp [Go.binOp,Op.intDiv,qE5,Ql,iw,hb'];rfl,rfl⟩)
theorem qHN {op:BinOp} {a b:ByteArray} {z:Value} (h:qwv op a b=some z) (t:TypeId):Go.binOp op t (.string a) (.string b) = .pure z/\zO z=true:=by
 cases op<;>simp only [qwv] at h<;>try cases h
 all_goals first
  | exact ⟨by simp [Go.binOp,Op.stringOp,xeq,xlt,qmg,qd,toList_eq];rfl,rfl⟩
  | (split at h<;>cases h
     rename_i z hz
     simp only [qzP] at hz
     split at hz<;>cases hz
     rename_i hle
     exact ⟨by simp only [Go.binOp,Op.stringOp];rw [if_neg hle];rfl,rfl⟩)
theorem qHy {op:BinOp} {a b z:Value} (h:ql6 op a b=some z) (t:TypeId) (X Y:Operand):(eqGuard op t X Y a b).run P w = .ok () w/\(Go.binOp op t a b).run P w = .ok z w/\zO z=true:=by
 have guard:∀ (k k':IntKind) (m n:Int),(eqGuard op t X Y (.int k m) (.int k' n)).run P w = .ok () w := λ k k' m n=>by cases op<;>simp [eqGuard]
 have guard2:∀ (m n:ByteArray),(eqGuard op t X Y (.string m) (.string n)).run P w = .ok () w := λ m n=>by cases op<;>simp [eqGuard]
 unfold ql6 at h
 split at h
 ·rename_i k a k' b
  split at h
  ·split at h<;>cases h
   rename_i hb
   have hb':¬ b<0:=by simpa [ilt] using hb
   refine ⟨guard _ _ _ _,?_,rfl⟩
   simp [Go.binOp,Op.shift,hb',qEt]
  ·split at h<;>cases h
   rename_i hb
   have hb':¬ b<0:=by simpa [ilt] using hb
   refine ⟨guard _ _ _ _,?_,rfl⟩
   simp [Go.binOp,Op.shift,hb',qkI]
  ·split at h<;>try cases h
   rename_i hk
   have hk':k=k':=by simpa using hk
   subst hk'
   obtain ⟨h1,h2⟩:=qHV h t
   refine ⟨guard _ _ _ _,?_,h2⟩
   rw [h1];rfl
 ·rename_i a b
  obtain ⟨h1,h2⟩:=qHN h t
  refine ⟨guard2 _ _,?_,h2⟩
  rw [h1];rfl
 ·cases h
theorem qBx {u:TypeDesc} (h:qal P u=some .ptr):∃ e,u = .pointer e:=by
 cases u<;>simp only [qal] at h<;>first | exact ⟨_,rfl⟩ | (cases h;done) | skip
 all_goals (repeat' (first | (cases h;done) | split at h))
 rename_i fs
 cases hf:Ju P fs.toList with
 | none=>rw [hf] at h;cases h
 | some l=>rw [hf] at h;cases h
theorem qFR {y:AV} {u:Value} (h:Rep Γ y u) (hp:qmt y=true):∃ A,u = .pointer (some A):=by
 cases h with
 | ptr=>exact ⟨_,rfl⟩
 | rpt=>exact ⟨_,rfl⟩
 | ept=>exact ⟨_,rfl⟩
 | _=>cases hp
theorem qFB {y:AV} (h:qvX y=true):y = .v (.pointer none):=by
 unfold qvX at h
 split at h
 ·rfl
 ·cases h
theorem qql {t e:TypeId} (h:P.underlying t=some (.pointer e)):P.underlying t=some (.pointer (P.pointee t)):=by
 unfold Program.pointee
 rw [h]
theorem qHm (hC:∀ t d,C.ty t=some d->yM P t=some d) (hi:Inv Γ σ w) (hρ : ∀ y,Rep Γ (aev tm y) (ρ y)) (op:BinOp) (t:TypeId) (y z:Operand) (u:TypeId) (ho:o.op = .binOp op t y z u) (h:qb C tm σ o.op=some (x,σ')):QF P Γ σ w o ρ x σ':=by
 have guard3:∀ (m n:Bool),(eqGuard op t y z (.bool m) (.bool n)).run P w = .ok () w := λ m n=>by cases op<;>simp [eqGuard]
 have guard4:∀ (m n:Option Addr),(eqGuard op t y z (.pointer m) (.pointer n)).run P w = .ok () w := λ m n=>by cases op<;>simp [eqGuard]
 rw [ho] at h
 simp only [qb] at h
 split at h<;>try cases h
 ·rename_i a b ha hb
  have h1:=qS (ha▸hρ y)
  have h2:=qS (hb▸hρ z)
  split at h<;>cases h
  all_goals
   rename_i d1 d2 d3 d4 hd
   obtain ⟨i,u,zv,q1,q2,q3,q4,q5,q6,q7,q8⟩:=TD.inv (hC t _ hd)
   have hub:=qGM q8
   subst hub
   refine .val ?_ hi (.v _ rfl)
   have heq:=run_equal_bool (P:=P) w t a b q2
   simp [execOp,ho,h1,h2,Sem.run_bind',guard3,Go.binOp,heq,qd2,qd]
 ·rename_i ha hb
  have h1:=qS (ha▸hρ y)
  have h2:=qS (hb▸hρ z)
  split at h<;>cases h
  all_goals
   rename_i d1 d2 d3 d4 hd
   obtain ⟨i,u,zv,q1,q2,q3,q4,q5,q6,q7,q8⟩:=TD.inv (hC t _ hd)
   obtain ⟨pe,rfl⟩:=qBx q8
   refine .val ?_ hi (.v _ rfl)
   have heq:=run_equal_pointer_nil (P:=P) w t none (qql q2)
   simp [execOp,ho,h1,h2,Sem.run_bind',guard4,Go.binOp,heq]
 ·rename_i a b _ _ ha hb
  have h1:=qS (ha▸hρ y)
  have h2:=qS (hb▸hρ z)
  split at h<;>cases h
  rename_i zz hz
  obtain ⟨g0,g1,g2⟩:=qHy (P:=P) (w:=w) hz t y z
  refine .val ?_ hi (.v _ g2)
  simp [execOp,ho,h1,h2,Sem.run_bind',g0,g1]
 ·split at h<;>cases h
  all_goals
   rename_i d1 d2 d3 d4 hp hd
   rw [Bool.and_eq_true] at hp
   obtain ⟨i,u,zv,q1,q2,q3,q4,q5,q6,q7,q8⟩:=TD.inv (hC t _ hd)
   obtain ⟨pe,rfl⟩:=qBx q8
   obtain ⟨A,h1⟩:=qFR (hρ y) hp.1
   have h2:=qS (qFB hp.2▸hρ z)
   refine .val ?_ hi (.v _ rfl)
   have heq:=run_equal_pointer_nil (P:=P) w t (some A) (qql q2)
   simp [execOp,ho,h1,h2,Sem.run_bind',guard4,Go.binOp,heq]
theorem qIj (hi:Inv Γ σ w) (hρ : ∀ y,Rep Γ (aev tm y) (ρ y)) (op:UnOp) (t:TypeId) (y:Operand) (ho:o.op = .unOp op t y) (h:qb C tm σ o.op=some (x,σ')):QF P Γ σ w o ρ x σ':=by
 rw [ho] at h
 simp only [qb] at h
 split at h<;>try cases h
 rename_i a ha
 have h1:=qS (ha▸hρ y)
 split at h<;>cases h
 rename_i z hz
 unfold unA at hz
 split at hz<;>cases hz
 ·exact .val (by simp [execOp,ho,h1,Op.unary,Op.intArith,iw,qaC]) hi (.v _ rfl)
 ·exact .val (by simp [execOp,ho,h1,Op.unary,qd]) hi (.v _ rfl)
theorem qpu (hρ : ∀ y,Rep Γ (aev tm y) (ρ y)):∀ l:List Operand,RepL Γ (l.map (aev tm)) (l.map ρ)
 | [] => .nil
 | y::l => .cons (hρ y) (qpu hρ l)
theorem qIh (hi:Inv Γ σ w) (hρ : ∀ y,Rep Γ (aev tm y) (ρ y)) (f:Fn) (fs cs:Array Operand) (ho:o.op = .makeFunc f fs cs) (h:qb C tm σ o.op=some (x,σ')):QF P Γ σ w o ρ x σ':=by
 rw [ho] at h
 cases f with
 | func f=>?_
 | _=>simp only [qb] at h;cases h
 simp only [qb] at h
 split at h<;>cases h
 rename_i hfs
 have hfs':fs = #[]:=by
  rw [<- Array.toArray_toList (xs:=fs),hfs]
 subst hfs'
 have hl:=qpu hρ cs.toList
 refine .val (u := .func (.func f) #[] (cs.toList.map ρ).toArray) ?_ hi (.fn f _ _ hl.len hl.rep)
 simp [execOp,ho,Instr.makeFunc]
 rw [<- Array.toList_map]
theorem qA5 (hi:Inv Γ σ w) (hρ : ∀ y,Rep Γ (aev tm y) (ρ y)) (y:Operand) (i:Nat) (ho:o.op = .extract y i) (h:qb C tm σ o.op=some (x,σ')):QF P Γ σ w o ρ x σ':=by
 rw [ho] at h
 simp only [qb] at h
 split at h<;>try cases h
 rename_i vs hv
 split at h<;>cases h
 rename_i z hz
 have hy:=hv▸hρ y
 generalize hu : ρ y=u0 at hy
 cases hy with
 | tup cs us hn hr =>
   have hlt:i<us.length:=by rw [hn];exact getElem?_lt hz
   refine .val ?_ hi (hr i _ _ hz (List.getElem?_eq_getElem hlt))
   simp [execOp,ho,hu,Instr.extract,hlt]
theorem qwY (hC:∀ t d,C.ty t=some d->yM P t=some d) (hi:Inv Γ σ w) (hρ : ∀ y,Rep Γ (aev tm y) (ρ y)) (t:TypeId) (y:Operand) (i:Nat) (ho:o.op = .fieldAddr t y i) (h:qb C tm σ o.op=some (x,σ')):QF P Γ σ w o ρ x σ':=by
 rw [ho] at h
 simp only [qb] at h
 split at h<;>try cases h
 rename_i _ _ _ _ fs hd
 split at h<;>try cases h
 rename_i off size g hf
 split at h<;>try cases h
 rename_i _ sz
 obtain ⟨ii,u,zv,q1,q2,q3,q4,q5,q6,q7,q8⟩:=TD.inv (hC t _ hd)
 obtain ⟨F,rfl,hF⟩:=qme q8
 obtain ⟨f1,f2⟩:=qgA hF
 obtain ⟨f,fi,fu,g1,g2,g3,g4⟩:=f2 i _ hf
 simp only [Prod.mk.injEq] at g4
 obtain ⟨rfl,hsz,rfl⟩:=g4
 have g1':F[i]? = some f:=by rw [<- g1];simp
 have hne:fi.size≠0:=by omega
 have run:∀ b off',ρ y = .pointer (some ⟨b,off',none⟩)->(execOp ρ o).run P w = .ok (.value (.pointer (some ⟨b,off'+f.offset,none⟩))) w:=by
  intro b off' hp
  simp [execOp,ho,hp,Instr.fieldAt,underlying,q2,g1',Instr.sureAddr,fieldPlace,sizeOf,typeInfo,g2,hne,qdC]
 have hy:=hρ y
 split at h<;>try cases h
 ·rename_i hp
  rw [hp] at hy
  generalize hu : ρ y=u0 at hy
  cases hy
  rename_i b o' hb
  exact .val (run _ _ hu) hi (.ptr _ _ hb)
 ·rename_i hp
  rw [hp] at hy
  generalize hu : ρ y=u0 at hy
  cases hy
  rename_i r j o' ep A hrn hv hx
  by_cases hm : Γ.ver r=ep
  ·have hA:=hx hm
   subst hA
   exact .val (run _ _ hu) hi (.rpt _ _ _ _ _ hrn hv λ _=>by rw [Nat.add_assoc])
  ·refine .val (u := .pointer (some (A.add f.offset))) ?_ hi (.rpt _ _ _ _ _ hrn hv λ h=>absurd h hm)
   simp [execOp,ho,hu,Instr.fieldAt,underlying,q2,g1',Instr.sureAddr,fieldPlace,sizeOf,typeInfo,g2,hne]
 ·rename_i hp
  rw [hp] at hy
  generalize hu : ρ y=u0 at hy
  cases hy
  rename_i cs o' b o'' us hpl hm hr
  refine .val (run _ _ hu) hi ?_
  rw [Nat.add_assoc]
  exact .ept cs (o'+f.offset) b o'' us hpl hm hr
theorem qFW {f:TypeId} {fi:TypeInfo} {fu:TypeDesc} (h1:P.info? f=some fi) (h2:P.underlying f=some fu) {cs:List AV} {us:List Value} (hr:RepL Γ cs us) (hone:∀ u∈us,u.oneCell'=true) {off:Nat} {z:AV} (h:qbn (qoS fu) fi.size cs off=some z) :
  ∃ u,(part f us.toArray off).run P w = .ok u w/\Rep Γ z u:=by
 unfold qbn at h
 split at h
 ·rename_i hg
  split at h<;>cases h
  rename_i hle
  have hle:off+fi.size<=cs.length:=by simpa using hle
  refine ⟨.agg ((us.drop off).take fi.size).toArray,?_,?_⟩
  ·simp [part,Sem.run_bind',qis h2,hg,sizeOf,typeInfo,h1]
  ·have:=(hr.drop off).take fi.size
   exact .agg _ _ this.len (λ u hu=>hone u (List.mem_of_mem_drop (List.mem_of_mem_take hu))) this.rep
 ·rename_i hg
  obtain ⟨u,hu,hrep⟩:=hr.get h
  refine ⟨u,?_,hrep⟩
  simp [part,Sem.run_bind',qis h2,hg,hu]
theorem qDQ (hC:∀ t d,C.ty t=some d->yM P t=some d) (hi:Inv Γ σ w) (hρ : ∀ y,Rep Γ (aev tm y) (ρ y)) (t:TypeId) (y:Operand) (i:Nat) (ho:o.op = .field t y i) (h:qb C tm σ o.op=some (x,σ')):QF P Γ σ w o ρ x σ':=by
 rw [ho] at h
 simp only [qb] at h
 split at h<;>try cases h
 rename_i _ _ _ _ fs cs hd hy0
 split at h<;>try cases h
 rename_i off size g hf
 split at h<;>cases h
 rename_i z hz
 obtain ⟨ii,u,zv,q1,q2,q3,q4,q5,q6,q7,q8⟩:=TD.inv (hC t _ hd)
 obtain ⟨F,rfl,hF⟩:=qme q8
 obtain ⟨f1,f2⟩:=qgA hF
 obtain ⟨f,fi,fu,g1,g2,g3,g4⟩:=f2 i _ hf
 simp only [Prod.mk.injEq] at g4
 obtain ⟨rfl,rfl,rfl⟩:=g4
 have g1':F[i]? = some f:=by rw [<- g1];simp
 have hy:=hy0▸hρ y
 generalize hu : ρ y=u0 at hy
 cases hy with
 | agg _ us hn h1 hr =>
   obtain ⟨v,e1,e2⟩:=qFW (P:=P) (w:=w) g2 g3 (Γ := Γ) ⟨hn,hr⟩ h1 hz
   refine .val ?_ hi e2
   simp [execOp,ho,hu,Instr.field,underlying,q2,g1',asAgg,Sem.run_bind',e1]
theorem qDJ (hC:∀ t d,C.ty t=some d->yM P t=some d) (hi:Inv Γ σ w) (hρ : ∀ y,Rep Γ (aev tm y) (ρ y)) (t:TypeId) (y z:Operand) (ho:o.op = .index t y z) (h:qb C tm σ o.op=some (x,σ')):QF P Γ σ w o ρ x σ':=by
 rw [ho] at h
 simp only [qb] at h
 split at h<;>try cases h
 rename_i _ _ _ _ s k j hd hs hj
 split at h<;>cases h
 rename_i b hb
 have h1:=qS (hs▸hρ y)
 have h2:=qS (hj▸hρ z)
 obtain ⟨ii,u,zv,q1,q2,q3,q4,q5,q6,q7,q8⟩:=TD.inv (hC t _ hd)
 have hu:=qdQ q8
 subst hu
 simp only [qAJ] at hb
 split at hb<;>try cases hb
 rename_i h0
 split at hb<;>cases hb
 rename_i c hc
 refine .val ?_ hi (.v _ rfl)
 have hlt:j.toNat<s.size:=by have:=getElem?_lt hc;simpa using this
 have he:s[j.toNat]=c:=by
  have:=(List.getElem?_eq_some_iff.1 hc).2
  simp at this
  exact this
 simp [execOp,ho,h1,h2,Instr.index,asIntOf,underlying,q2,h0,hlt,he]
end
end Go.AmZ
namespace Go.AmZ
open Go Go.RowKit
section
variable {P:Program} {C:Cfg} {Γ : Gh} {σ : St} {w:World} {o:Oper} {tm:List AV} {ρ : Operand->Value} {x:AV} {σ':Option St}
theorem qxW (hC:∀ t d,C.ty t=some d->yM P t=some d) (hi:Inv Γ σ w) (hρ : ∀ y,Rep Γ (aev tm y) (ρ y)) (t:TypeId) (y z:Operand) (ho:o.op = .indexAddr t y z) (h:qb C tm σ o.op=some (x,σ')):QF P Γ σ w o ρ x σ':=by
 rw [ho] at h
 simp only [qb] at h
 split at h<;>try cases h
 ·rename_i _ _ _ e k bb zz kk j hd hj
  have h2:=qS (hj▸hρ z)
  obtain ⟨ii,u,zv,q1,q2,q3,q4,q5,q6,q7,q8⟩:=TD.inv (hC t _ hd)
  obtain ⟨rfl,ie,ze,p1,p2,p3,p4,p5⟩:=JF q8
  have hy:=hρ y
  have run:∀ b off n cap,ρ y = .slice (some ⟨b,off,none⟩) n cap->0<=j->j<n->(execOp ρ o).run P w = .ok (.value (.pointer (some ⟨b,off+j.toNat*k,none⟩))) w:=by
   intro b off n cap hp h0 hn
   simp [execOp,ho,hp,h2,Instr.indexAt,asIntOf,underlying,q2,h0,hn,sizeOf,typeInfo,p1,p3,qdC]
  split at h<;>try cases h
  ·rename_i k' es f hp
   split at h<;>try cases h
   rename_i hk
   have hk:k'=k:=by simpa [qV] using hk
   subst hk
   split at h<;>cases h
   rename_i cs hcs
   simp only [qsg] at hcs
   split at hcs<;>try cases hcs
   rename_i h0
   rw [hp] at hy
   generalize hu : ρ y=u0 at hy
   cases hy with
   | sl _ _ _ a n cap b oo us hn hc hf hkk hpl h00 ha hm hr =>
     have hlt:=getElem?_lt hcs
     have ha':a=some ⟨b,oo,none⟩:=ha.resolve_left λ he=>by rw [he] at hlt;simp at hlt
     subst ha'
     refine .val (run _ _ _ _ hu h0 (by omega)) hi ?_
     exact .ept cs 0 b (oo+j.toNat*k') (us j.toNat) (λ x hx=>hpl cs (List.mem_of_getElem? hcs) x hx) (λ q x hx=>hm _ cs q x hcs hx) (λ q x hx=>hr _ cs q x hcs hx)
  ·rename_i r lo n ep f hp
   split at h<;>try cases h
   rename_i R hR
   split at h<;>cases h
   rename_i q hq
   simp only [qvs] at hq
   split at hq<;>cases hq
   rename_i hc
   obtain ⟨c1,c2,c3,c4,c5⟩:=hc
   have H:=hi.row r R hR
   rw [hp] at hy
   generalize hu : ρ y=u0 at hy
   cases hy with
   | rs _ _ _ _ _ a cap hrn hv hcap hf hx =>
     obtain ⟨g2,g3⟩:=hx (by rw [<- H.ver (H.liveN c5 (by omega))];exact c4)
     have hcpos:cap≠0:=by omega
     have ha:=g2.resolve_left hcpos
     subst ha
     refine .val (run _ _ _ _ hu c2 c3) hi (.rpt _ _ _ _ _ hrn hv λ _=>?_)
     have hkk:k = Γ.k r:=by rw [<- c1];exact H.k
     rw [hkk,Nat.add_mul]
     simp
 ·rename_i n e k _ j hd hj
  have h2:=qS (hj▸hρ z)
  obtain ⟨ii,u,zv,q1,q2,q3,q4,q5,q6,q7,q8⟩:=TD.inv (hC t _ hd)
  obtain ⟨rfl,ie,p1,p3⟩:=qEu q8
  split at h<;>try cases h
  rename_i b oo hp
  split at h<;>cases h
  rename_i hb
  obtain ⟨h0,hn⟩:=of_decide_eq_true hb
  have hy:=hρ y
  rw [hp] at hy
  generalize hu : ρ y=u0 at hy
  cases hy with
  | ptr _ _ hbn =>
    refine .val (u := .pointer (some ⟨Γ.β b,oo+j.toNat*k,none⟩)) ?_ hi (.ptr _ _ hbn)
    simp [execOp,ho,hu,h2,Instr.indexAt,Instr.sureAddr,asIntOf,underlying,q2,h0,hn,sizeOf,typeInfo,p1,p3,qdC]
theorem qBp {y:Nat} {v:Value} {a:AV} (hr:Rep Γ a v) {n:Nat} (h:qrF y a=some n) (m:Nat) (hm:y<=m) (code:BoundsCode):(Instr.sliceBound v m code).run P w = .ok n w/\n<=y:=by
 unfold qrF at h
 split at h
 ·rename_i k i
  have:=qS hr
  subst this
  simp only [bnd] at h
  split at h<;>cases h
  rename_i hc
  have h1:0<=i/\i<=m:=⟨hc.1,by omega⟩
  exact ⟨by simp [Instr.sliceBound,asIntOf,h1],by omega⟩
 ·cases h
theorem qh0 (hρ : ∀ y,Rep Γ (aev tm y) (ρ y)) {isS:Bool} {len cap:Nat} (hlc:len<=cap) {lo hi':Option Operand} {l h:Nat} (hh:qaX len len (hi'.map (aev tm))=some h) (hl:qaX 0 h (lo.map (aev tm))=some l) :
  (Instr.sliceBounds isS len cap (lo.map ρ) (hi'.map ρ) none).run P w = .ok (l,h,cap) w/\l<=h/\h<=len:=by
 have H:(match hi'.map ρ with | some v=>Instr.sliceBound v cap (if isS then .sliceAcap else .sliceAlen) | none=>pure len:Sem Nat).run P w = .ok h w/\h<=len:=by
  cases hi' with
  | none=>simp only [qaX,Option.map_none] at hh;cases hh;exact ⟨by simp,Nat.le_refl _⟩
  | some y=>exact qBp (hρ y) (by simpa [qaX] using hh) cap hlc _
 have L:(match lo.map ρ with | some v=>Instr.sliceBound v h .sliceB | none=>pure 0:Sem Nat).run P w = .ok l w/\l<=h:=by
  cases lo with
  | none=>simp only [qaX,Option.map_none] at hl;cases hl;exact ⟨by simp,Nat.zero_le _⟩
  | some y=>exact qBp (hρ y) (by simpa [qaX] using hl) h (Nat.le_refl _) _
 refine ⟨?_,L.2,H.2⟩
 cases hi' with
 | none =>
   cases lo with
   | none=>simp only [Option.map_none] at H L;simp at H L;simp [Instr.sliceBounds,H,L]
   | some y=>simp only [Option.map_none,Option.map_some] at H L;simp at H;simp [Instr.sliceBounds,H,L.1]
 | some z =>
   cases lo with
   | none=>simp only [Option.map_none,Option.map_some] at H L;simp at L;simp [Instr.sliceBounds,H.1,L]
   | some y=>simp only [Option.map_some] at H L;simp [Instr.sliceBounds,H.1,L.1]
theorem qlt {α : Type} {es:List α} {l h i:Nat} {e : α} (hg:((es.take h).drop l)[i]? = some e):l+i<h/\es[l+i]? = some e:=by
 rw [List.getElem?_drop,List.getElem?_take] at hg
 split at hg
 ·exact ⟨by omega,hg⟩
 ·cases hg
theorem qE0 (hC:∀ t d,C.ty t=some d->yM P t=some d) (hi:Inv Γ σ w) (hρ : ∀ y,Rep Γ (aev tm y) (ρ y)) (t:TypeId) (y:Operand) (lo hi' mx:Option Operand) (ho:o.op = .slice t y lo hi' mx) (h:qb C tm σ o.op=some (x,σ')):QF P Γ σ w o ρ x σ':=by
 rw [ho] at h
 cases mx with
 | some m=>simp only [qb] at h;cases h
 | none =>
 simp only [qb] at h
 split at h<;>try cases h
 ·rename_i _ _ _ _ s hd hs
  have h1:=qS (hs▸hρ y)
  obtain ⟨ii,u,zv,q1,q2,q3,q4,q5,q6,q7,q8⟩:=TD.inv (hC t _ hd)
  have hu:=qdQ q8
  subst hu
  split at h<;>try cases h
  rename_i hh hhe
  split at h<;>cases h
  rename_i l hle
  obtain ⟨b1,b2,b3⟩:=qh0 (P:=P) (w:=w) hρ (isS:=false) (Nat.le_refl _) hhe hle
  refine .val ?_ hi (.v _ rfl)
  simp [execOp,ho,h1,Instr.sliceAt,Instr.slice,underlying,q2,Sem.run_bind',qjI] at b1 |-
  simp [b1,qw7]
 ·rename_i _ _ _ e k bb zz k' es f hd hp
  split at h<;>try cases h
  rename_i hk
  rw [Bool.and_eq_true] at hk
  have hfp:0<f:=of_decide_eq_true hk.2
  have hk:k'=k:=by simpa [qV] using hk.1
  subst hk
  split at h<;>try cases h
  rename_i hh hhe
  split at h<;>cases h
  rename_i l hle
  obtain ⟨ii,u,zv,q1,q2,q3,q4,q5,q6,q7,q8⟩:=TD.inv (hC t _ hd)
  obtain ⟨rfl,ie,ze,p1,p2,p3,p4,p5⟩:=JF q8
  have hy:=hp▸hρ y
  generalize hu : ρ y=u0 at hy
  cases hy with
  | sl _ _ _ a n cap b oo us hn hc hf hkk hpl h00 ha hm hr =>
    subst hn
    have hc:=hc hfp
    obtain ⟨b1,b2,b3⟩:=qh0 (P:=P) (w:=w) hρ (isS:=true) hc hhe hle
    have b3:hh<=es.length:=b3
    have b1:(Instr.sliceBounds true es.length cap (lo.map ρ) (hi'.map ρ) none).run P w = .ok (l,hh,cap) w:=b1
    refine .val (u := .slice (if cap=l then a else a.map (·.add (l*k'))) (hh-l) (cap-l)) ?_ hi ?_
    ·simp [execOp,ho,hu,Instr.sliceAt,Instr.slice,underlying,q2,Sem.run_bind',sizeOf,typeInfo,p1,p3]
     rw [b1]
     simp [p1,p3]
    ·simp only [qAD]
     refine .sl k' _ _ _ _ _ b (oo+l*k') (λ i j=>us (l+i) j) (by simp;omega) (λ _=>by omega) ?_ (λ e he=>hkk e (List.mem_of_mem_take (List.mem_of_mem_drop he))) (λ e he=>hpl e (List.mem_of_mem_take (List.mem_of_mem_drop he))) h00 ?_ ?_ ?_
     ·intro hff
      unfold lvS at hff
      split at hff
      ·rename_i hb
       rw [Bool.and_eq_true] at hb
       have h1:=hf (of_decide_eq_true hb.1)
       have h2:hh=es.length:=of_decide_eq_true hb.2
       rw [h1,h2]
      ·exact absurd hff (by decide)
     ·rcases ha with ha | ha
      ·left;subst ha;simp
      ·by_cases hcl:cap=l
       ·left
        have:hh<=l:=by omega
        apply List.eq_nil_of_length_eq_zero
        simp;omega
       ·right;subst ha;rw [if_neg hcl];simp [qdC]
     ·intro i e j x he hx
      obtain ⟨_,he'⟩:=qlt he
      have:=hm _ e j x he' hx
      rw [<- this,Nat.add_mul]
      congr 1;omega
     ·intro i e j x he hx
      obtain ⟨_,he'⟩:=qlt he
      exact hr _ e j x he' hx
 ·rename_i _ _ _ e k bb zz hd hp
  split at h<;>try cases h
  rename_i hh hhe
  split at h<;>cases h
  rename_i l hle
  obtain ⟨ii,u,zv,q1,q2,q3,q4,q5,q6,q7,q8⟩:=TD.inv (hC t _ hd)
  obtain ⟨rfl,ie,ze,p1,p2,p3,p4,p5⟩:=JF q8
  have hu:=qS (hp▸hρ y)
  obtain ⟨b1,b2,b3⟩:=qh0 (P:=P) (w:=w) hρ (isS:=true) (Nat.le_refl 0) hhe hle
  have hh0:hh=0:=by omega
  have hl0:l=0:=by omega
  subst hh0
  subst hl0
  refine .val (u := .slice none 0 0) ?_ hi (.v _ rfl)
  simp [execOp,ho,hu,Instr.sliceAt,Instr.slice,underlying,q2,Sem.run_bind',sizeOf,typeInfo,p1,p3]
  rw [b1]
  simp [p1,p3]
 ·rename_i _ _ _ e k bb zz r oo n ep f hd hp
  split at h<;>try cases h
  rename_i hh R hhe hR
  split at h<;>try cases h
  rename_i l hle
  split at h<;>cases h
  rename_i R' hneq hdr
  have hhn:hh=n:=by simpa [qV] using hneq
  subst hhn
  simp only [qvo] at hdr
  split at hdr<;>cases hdr
  rename_i hcc
  obtain ⟨c0,c1,c2,c3,c4,c5⟩:=hcc
  obtain ⟨ii,u,zv,q1,q2,q3,q4,q5,q6,q7,q8⟩:=TD.inv (hC t _ hd)
  obtain ⟨rfl,ie,ze,p1,p2,p3,p4,p5⟩:=JF q8
  have H:=hi.row r R hR
  have hy:=hp▸hρ y
  generalize hu : ρ y=u0 at hy
  cases hy with
  | rs _ _ _ _ _ a cap hrn hv hc hff hx =>
    obtain ⟨g2,g3⟩:=hx (by rw [<- H.ver c5];exact c1)
    obtain ⟨b1,b2,b3⟩:=qh0 (P:=P) (w:=w) hρ (isS:=true) hc hhe hle
    obtain ⟨Γ',f1,f2,f3⟩:=qDA hi hR c5 (l:=l) (by omega) (r :: σ.wrr)
    subst c3
    rw [c1] at f3
    rw [Nat.zero_add,<- H.k] at g3
    rw [Nat.zero_mul,Nat.add_zero] at g2
    have hlk:(cap-l)*R.k=cap*R.k-l*R.k:=Nat.mul_sub_right_distrib _ _ _
    have hle2:l*R.k<=cap*R.k:=Nat.mul_le_mul_right _ (by omega)
    refine ⟨_,.slice (if cap=l then a else a.map (·.add (l*R.k))) (hh-l) (cap-l),w,Γ',?_,.inl rfl,f1,?_,f3 _ _ _ (by omega) ?_ (by omega)⟩
    ·simp [execOp,ho,hu,Instr.sliceAt,Instr.slice,underlying,q2,Sem.run_bind',sizeOf,typeInfo,p1,p3]
     rw [b1]
     simp [p1,p3,c0]
    ·exact f2
    ·by_cases hcl:cap=l
     ·left;omega
     ·right
      rw [if_neg hcl,g2.resolve_left (by omega)]
      simp [qdC]
theorem qw4 (off:Nat):∀ (xs:List Value) (n:Nat) (cs:Array Value),off+n+xs.length<=cs.size->((xs.zipIdx n).foldl (λ cs (p:Value × Nat)=>cs.setIfInBounds (off+p.2) p.1) cs).toList=cs.toList.take (off+n)++(xs++cs.toList.drop (off+n+xs.length))
 | [],n,cs,h=>by simp
 | x::xs,n,cs,h=>by
   simp only [List.zipIdx_cons,List.foldl_cons,List.length_cons] at h |-
   rw [qw4 off xs (n+1) _ (by simp;omega)]
   simp only [Array.toList_setIfInBounds]
   have hlt:off+n<cs.toList.length:=by simp;omega
   have hlt':off+n<cs.size:=by omega
   rw [show off+(n+1)=off+n+1 by omega,show off+n+1+xs.length=off+n+(xs.length+1) by omega]
   rw [List.take_add_one,List.getElem?_set_self hlt,List.take_set_of_le (Nat.le_refl _),List.drop_set_of_lt (by omega)]
   simp
theorem qtJ {v:Value} {off:Nat} {cs:Array Value} (h:off+v.cells.size<=cs.size):(v.cells.zipIdx.foldl (λ cs (c,j)=>cs.setIfInBounds (off+j) c) cs).toList=cs.toList.take off++(v.cells.toList++cs.toList.drop (off+v.cells.size)):=by
 rw [<- Array.foldl_toList,Array.toList_zipIdx]
 have:=qw4 off v.cells.toList 0 cs (by simpa using h)
 simpa using this
theorem qzw {place:Nat->Option (Nat × Nat)}:∀ {ps:List (Nat × AV)} {vs:List (Nat × Value)} {cells:List AV} {cs:Array Value} {cells':List AV},(ps.length=vs.length/\∀ (i:Nat) (p:Nat × AV) (q:Nat × Value),ps[i]? = some p->vs[i]? = some q->p.1=q.1/\Rep Γ p.2 q.2) ->
  RepL Γ cells cs.toList->(∀ u∈cs.toList,u.oneCell'=true)->qix place cells ps=some cells'->∃ cs',Instr.fill place cs vs=some cs'/\RepL Γ cells' cs'.toList/\∀ u∈cs'.toList,u.oneCell'=true
 | [],vs,cells,cs,cells',hp,hr,h1,h=>by
   obtain rfl:vs=[]:=List.length_eq_zero_iff.1 hp.1.symm
   simp only [qix] at h
   cases h
   exact ⟨cs,rfl,hr,h1⟩
 | (i,x)::ps,vs,cells,cs,cells',hp,hr,h1,h=>by
   cases vs with
   | nil=>simp at hp
   | cons q vs =>
     obtain ⟨j,v⟩:=q
     obtain ⟨hij,hx⟩:=hp.2 0 (i,x) (j,v) rfl rfl
     simp only at hij hx
     subst hij
     simp only [qix] at h
     split at h<;>try cases h
     rename_i off size hpl
     split at h<;>try cases h
     rename_i hc
     simp only [Bool.and_eq_true,decide_eq_true_eq] at hc
     obtain ⟨⟨c1,c2⟩,c3⟩:=hc
     obtain ⟨g1,g2⟩:=hx.cells c3
     have gl:=hx.cells_len c3
     have hcl:cs.size=cells.length:=by simpa using hr.len
     have hst:=qtJ (v:=v) (off:=off) (cs:=cs) (by omega)
     have hvs:v.cells.size=size:=by omega
     obtain ⟨cs',e1,e2,e3⟩:=qzw (place:=place) (ps:=ps) (vs:=vs) (cells:=cells.take off++(cellsOf x++cells.drop (off+size))) (cs:=v.cells.zipIdx.foldl (λ cs (c,j)=>cs.setIfInBounds (off+j) c) cs) (cells':=cells')
      ⟨by simpa using hp.1,λ i p q a b=>hp.2 (i+1) p q (by simpa using a) (by simpa using b)⟩
      (by rw [hst,hvs];exact (hr.take off).append (g1.append (hr.drop _)))
      (by
       rw [hst]
       intro u hu
       rcases List.mem_append.1 hu with hu | hu
       ·exact h1 u (List.mem_of_mem_take hu)
       ·rcases List.mem_append.1 hu with hu | hu
        ·exact g2 u hu
        ·exact h1 u (List.mem_of_mem_drop hu)) h
     refine ⟨cs',?_,e2,e3⟩
     simp only [Instr.fill,hpl]
     rw [if_neg (by simp;omega)]
     exact e1
theorem qCy (hρ : ∀ y,Rep Γ (aev tm y) (ρ y)) (parts:List (Nat × Operand)):(parts.map λ p=>(p.1,aev tm p.2)).length=(parts.map λ p=>(p.1,ρ p.2)).length/\∀ (i:Nat) (p:Nat × AV) (q:Nat × Value),(parts.map λ p=>(p.1,aev tm p.2))[i]? = some p->(parts.map λ p=>(p.1,ρ p.2))[i]? = some q->p.1=q.1/\Rep Γ p.2 q.2:=by
 refine ⟨by simp,λ i p q a b=>?_⟩
 rw [List.getElem?_map] at a b
 cases h:parts[i]? with
 | none=>rw [h] at a;cases a
 | some z=>rw [h] at a b;cases a;cases b;exact ⟨rfl,hρ z.2⟩
theorem qE1 (hC:∀ t d,C.ty t=some d->yM P t=some d) (hi:Inv Γ σ w) (hρ : ∀ y,Rep Γ (aev tm y) (ρ y)) (t:TypeId) (parts:Array (Nat × Operand)) (ho:o.op = .build t parts) (h:qb C tm σ o.op=some (x,σ')):QF P Γ σ w o ρ x σ':=by
 rw [ho] at h
 simp only [qb] at h
 split at h<;>try cases h
 rename_i _ _ _ z fs hd
 split at h<;>try cases h
 rename_i hz
 split at h<;>cases h
 rename_i cs hcs
 obtain ⟨ii,u,zv,q1,q2,q3,q4,q5,q6,q7,q8⟩:=TD.inv (hC t _ hd)
 obtain ⟨F,rfl,hF⟩:=qme q8
 obtain ⟨f1,f2⟩:=qgA hF
 simp only at q7
 subst q7
 obtain ⟨g1,g2⟩:=qdR (Γ := Γ) hz
 have hmap:∀ {F:List Field} {fs:List (Nat × Nat × Bool)},Ju P F=some fs->F.mapM (λ f=>(P.info? f.type).map λ i=>(f.offset,i.size))=some (fs.map λ f=>(f.1,f.2.1)):=by
  intro F
  induction F with
  | nil=>intro fs h;simp [Ju] at h;subst h;rfl
  | cons f F ih =>
    intro fs h
    simp only [Ju] at h
    split at h
    ·rename_i i u l hi hu hl
     cases h
     simp [List.mapM_cons,hi,ih hl]
    ·cases h
 have hcs2:qix (λ i=>(fs.map λ f=>(f.1,f.2.1)).toArray[i]?) (zv.cells.toList.map .v) (parts.toList.map λ p=>(p.1,aev tm p.2))=some cs:=by
  rw [<- hcs]
  congr 1
  funext i
  rw [List.getElem?_toArray,List.getElem?_map]
  cases fs[i]? <;> rfl
 obtain ⟨cs',e1,e2,e3⟩:=qzw (Γ := Γ) (qCy hρ parts.toList) g1 g2 hcs2
 have hb:P.built t (parts.map λ p=>(p.1,ρ p.2)).toList=some cs':=by
  unfold Program.built
  rw [q1,q2]
  simp only [q3,hmap hF]
  rw [Array.toList_map]
  exact e1
 refine .val (u := .agg cs') ?_ hi ?_
 ·simp [execOp,ho,run_build w t _ cs' hb]
 ·have:=Rep.agg (Γ := Γ) cs cs'.toList e2.len e3 e2.rep
  simpa using this
end
end Go.AmZ
namespace Go.AmZ
open Go Go.RowKit
section
variable {P:Program} {C:Cfg} {Γ : Gh} {σ : St} {w:World} {o:Oper} {tm:List AV} {ρ : Operand->Value} {x:AV} {σ':Option St}
theorem qjA (hi:Inv Γ σ w) {m:Nat->Nat->Option Value} (hl:Le Γ { Γ with mem:=m }) {y:AV} {u:Value} (hf:∀ r∈rsC y,∀ R,σ.rw[r]? = some R->js { Γ with mem:=m } r R) (hr:Rep Γ y u):Rep { Γ with mem:=m } (qW σ.rw y) u:=by
 cases hr with
 | sl k es f a n cap b o us hn hc hff hk hpl h0 ha hm hr =>
   exact .sl k es _ a n cap b o us hn (λ h=>hc (by cases f with | zero=>exact absurd h (Nat.lt_irrefl 0) | succ f=>exact Nat.succ_pos f)) (λ h=>by cases f with | zero=>exact absurd h (by simp [lv1]) | succ f=>exact absurd h (by simp [lv1])) hk hpl h0 ha (λ i e j x h1 h2=>hl.mem _ _ _ (hm i e j x h1 h2)) (λ i e j x h1 h2=>(hr i e j x h1 h2).mono hl)
 | rs r lo n ep f a cap hrn hv hc hff hx =>
   simp only [qW]
   split
   ·rename_i R hR
    split
    ·rename_i es hes
     simp only [qkz] at hes
     split at hes<;>cases hes
     rename_i hcc
     obtain ⟨-,c1,c3⟩:=hcc
     have H:=hi.row r R hR
     have g2:n=0\/(cap=0\/a=some ⟨Γ.cur r,Γ.of r+lo * Γ.k r,none⟩):=by
      rcases Nat.eq_zero_or_pos n with h0 | h0
      ·exact .inl h0
      ·exact .inr (hx (by rw [<- H.ver (H.liveN c3 h0)];exact c1)).1
     have F:=hf r (by simp [rsC]) R hR
     have key:∀ (i:Nat) (e:List AV) (j:Nat) (x:AV),((R.c.drop lo).take n)[i]? = some e->e[j]? = some x->∃ u,m (Γ.cur r) (Γ.of r+lo*R.k+i*R.k+j)=some u/\Rep { Γ with mem:=m } x u:=by
      intro i e j x h1 h2
      rw [List.getElem?_take] at h1
      split at h1<;>try cases h1
      rename_i hin
      rw [List.getElem?_drop] at h1
      obtain ⟨u,hu,hrep⟩:=F (lo+i) e j x h1 h2
      refine ⟨u,?_,hrep⟩
      rw [<- hu,Nat.add_mul,Nat.add_assoc,Nat.add_assoc,<- Nat.add_assoc (lo*R.k)]
     refine .sl R.k _ 1 a n cap (Γ.cur r) (Γ.of r+lo*R.k) (λ i j=>(m (Γ.cur r) (Γ.of r+lo*R.k+i*R.k+j)).getD undef) ?_ (λ _=>hc) (λ h=>absurd h (by decide)) (λ e he=>H.len e (List.mem_of_mem_drop (List.mem_of_mem_take he))) (λ e he=>H.plain e (List.mem_of_mem_drop (List.mem_of_mem_take he))) H.pos ?_ ?_ ?_
     ·simp;omega
     ·rcases g2 with g2 | g2 | g2
      ·left
       apply List.eq_nil_of_length_eq_zero
       simp;omega
      ·left
       apply List.eq_nil_of_length_eq_zero
       simp;omega
      ·right;rw [g2,H.k]
     ·intro i e j x h1 h2
      obtain ⟨u,hu,_⟩:=key i e j x h1 h2
      show m (Γ.cur r) _=_
      rw [hu];rfl
     ·intro i e j x h1 h2
      obtain ⟨u,hu,hrep⟩:=key i e j x h1 h2
      rw [hu];exact hrep
    ·exact .dead _
   ·exact .dead _
 | v _ h=>exact .v _ h
 | dead u=>exact .dead u
 | ptr b o h=>exact (Rep.ptr b o h).mono hl
 | rpt r i o ep A h1 h2 h3=>exact (Rep.rpt r i o ep A h1 h2 h3).mono hl
 | ept cs o b o' us h1 h2 h3=>exact (Rep.ept cs o b o' us h1 h2 h3).mono hl
 | fn f cs us h1 h2=>exact (Rep.fn f cs us h1 h2).mono hl
 | agg cs us h1 h2 h3=>exact (Rep.agg cs us h1 h2 h3).mono hl
 | tup cs us h1 h2=>exact (Rep.tup cs us h1 h2).mono hl
theorem qwW (hi:Inv Γ σ w) {m:Nat->Nat->Option Value} (hl:Le Γ { Γ with mem:=m }) {cs:List AV} {us:List Value} (hf:∀ r∈cs.flatMap rsC,∀ R,σ.rw[r]? = some R->js { Γ with mem:=m } r R) (hr:RepL Γ cs us):RepL { Γ with mem:=m } (cs.map (qW σ.rw)) us:=by
 refine ⟨by simpa using hr.len,λ i x u hx hu=>?_⟩
 rw [List.getElem?_map] at hx
 cases h:cs[i]? with
 | none=>rw [h] at hx;cases hx
 | some y =>
   rw [h] at hx;cases hx
   exact qjA hi hl (λ r hr'=>hf r (List.mem_flatMap.2 ⟨y,List.mem_of_getElem? h,hr'⟩)) (hr.rep i y u h hu)
theorem qtn (hi:Inv Γ σ w) {m:Nat->Nat->Option Value} (hl:Le Γ { Γ with mem:=m }) {y:AV} {u:Value} (hf:∀ r∈rsA y,∀ R,σ.rw[r]? = some R->js { Γ with mem:=m } r R) (hr:Rep Γ y u):Rep { Γ with mem:=m } (ju σ.rw y) u:=by
 cases hr with
 | agg cs us h1 h2 h3 =>
   have:=qwW hi hl (cs:=cs) (us:=us) (by simpa [rsA] using hf) ⟨h1,h3⟩
   exact .agg _ _ this.len h2 this.rep
 | v _ h=>exact .v _ h
 | dead u=>exact .dead u
 | sl k es f a n cap b o us h1 h2 h3 h4 h5 h6 h7 h8 h9=>exact qjA (y := .sl k es f) hi hl hf (.sl k es f a n cap b o us h1 h2 h3 h4 h5 h6 h7 h8 h9)
 | rs r lo n ep f a cap h1 h2 h3 h4 h5=>exact qjA (y := .rs r lo n ep f) hi hl hf (.rs r lo n ep f a cap h1 h2 h3 h4 h5)
 | ptr b o h=>exact (Rep.ptr b o h).mono hl
 | rpt r i o ep A h1 h2 h3=>exact (Rep.rpt r i o ep A h1 h2 h3).mono hl
 | ept cs o b o' us h1 h2 h3=>exact (Rep.ept cs o b o' us h1 h2 h3).mono hl
 | fn f cs us h1 h2=>exact (Rep.fn f cs us h1 h2).mono hl
 | tup cs us h1 h2=>exact (Rep.tup cs us h1 h2).mono hl
theorem qBN {rw:List Row} {y:AV} (h:qt (qW rw y)=true):isC y=true:=by
 cases y<;>first | rfl | (simp [qW,qt] at h)
theorem qvQ (k:Nat):∀ (vs:List Value) (i0:Nat) (cs:Array Value),(∀ v∈vs,v.cells.size=k)->(i0+vs.length)*k<=cs.size ->
  ∃ cs',Instr.fill (λ i=>some (i*k,k)) cs ((vs.zipIdx i0).map λ p=>(p.2,p.1))=some cs'/\cs'.toList=cs.toList.take (i0*k)++(vs.flatMap (λ v=>v.cells.toList)++cs.toList.drop ((i0+vs.length)*k))
 | [],i0,cs,_,h=>⟨cs,rfl,by simp⟩
 | v::vs,i0,cs,hv,h=>by
   have hk:v.cells.size=k:=hv v (List.mem_cons_self ..)
   have hle:i0*k+k<=cs.size:=by
    have:(i0+1)*k<=(i0+(v::vs).length)*k:=Nat.mul_le_mul_right _ (by simp)
    rw [Nat.add_mul,Nat.one_mul] at this
    omega
   have hst:=qtJ (v:=v) (off:=i0*k) (cs:=cs) (by omega)
   have hsz:(v.cells.zipIdx.foldl (λ cs (c,j)=>cs.setIfInBounds (i0*k+j) c) cs).size=cs.size:=by
    have:=congrArg List.length hst
    simp only [Array.length_toList,List.length_append,List.length_take,List.length_drop] at this
    rw [this]
    omega
   obtain ⟨cs',e1,e2⟩:=qvQ k vs (i0+1) (v.cells.zipIdx.foldl (λ cs (c,j)=>cs.setIfInBounds (i0*k+j) c) cs) (λ v' h'=>hv v' (List.mem_cons_of_mem _ h')) (by rw [hsz];simp at h;rw [show i0+1+vs.length=i0+(vs.length+1) by omega];exact h)
   refine ⟨cs',?_,?_⟩
   ·simp only [List.zipIdx_cons,List.map_cons,Instr.fill]
    rw [if_neg (by simp;omega)]
    exact e1
   ·rw [e2,hst,hk]
    have h1:(i0+1)*k=i0*k+k:=by rw [Nat.add_mul,Nat.one_mul]
    have h2:(cs.toList.take (i0*k)).length=i0*k:=by rw [List.length_take];simp;omega
    have h3:v.cells.toList.length=k:=by simpa using hk
    have h4:(i0+1+vs.length)*k=i0*k+k+vs.length*k:=by rw [Nat.add_mul,h1]
    have h5:(i0+(v::vs).length)*k=i0*k+k+vs.length*k:=by simp [Nat.add_mul];omega
    rw [h1,h4,h5]
    have ht:(cs.toList.take (i0*k)++(v.cells.toList++cs.toList.drop (i0*k+k))).take (i0*k+k)=cs.toList.take (i0*k)++v.cells.toList:=by
     rw [<- List.append_assoc,List.take_append_of_le_length (by simp only [List.length_append];omega),List.take_of_length_le (by simp only [List.length_append];omega)]
    have hd:(cs.toList.take (i0*k)++(v.cells.toList++cs.toList.drop (i0*k+k))).drop (i0*k+k+vs.length*k)=cs.toList.drop (i0*k+k+vs.length*k):=by
     rw [<- List.append_assoc,List.drop_append,List.drop_of_length_le (by simp only [List.length_append];omega)]
     simp only [List.length_append,h2,h3,List.nil_append,List.drop_drop]
     congr 1;omega
    rw [ht,hd]
    simp
theorem qxa {α : Type} (k:Nat):∀ (ls:List (List α)) (i j:Nat) (l:List α) (x : α),(∀ l∈ls,l.length=k)->ls[i]? = some l->l[j]? = some x->ls.flatten[i*k+j]? = some x
 | [],i,j,l,x,_,h,_=>by simp at h
 | l0::ls,i,j,l,x,hk,h,hx=>by
   have h0:=hk l0 (List.mem_cons_self ..)
   cases i with
   | zero =>
     simp at h;subst h
     simp only [List.flatten_cons,Nat.zero_mul,Nat.zero_add]
     rw [List.getElem?_append_left (getElem?_lt hx)];exact hx
   | succ i =>
     simp at h
     simp only [List.flatten_cons]
     rw [List.getElem?_append_right (by rw [h0,Nat.add_mul];omega),h0]
     rw [show (i+1)*k+j-k=i*k+j by rw [Nat.add_mul,Nat.one_mul];omega]
     exact qxa k ls i j l x (λ l' h'=>hk l' (List.mem_cons_of_mem _ h')) h hx
theorem qua (ρ : Operand->Value):∀ (ps:List (Nat × Operand)) (n:Nat),(∀ (i:Nat) (p:Nat × Operand),ps[i]? = some p->p.1=n+i)->ps.map (λ p=>(p.1,ρ p.2))=((ps.map λ p => ρ p.2).zipIdx n).map λ p=>(p.2,p.1)
 | [],n,h=>rfl
 | p::ps,n,h=>by
   simp only [List.map_cons,List.zipIdx_cons]
   rw [<- qua ρ ps (n+1) λ i q hq=>by have:=h (i+1) q (by simpa using hq);omega]
   have:=h 0 p rfl
   simp only [Nat.add_zero] at this
   rw [this]
theorem qrM {t e:TypeId} {n:Nat} {parts:Array (Nat × Value)} {ie:TypeInfo} {ze:Value} (hu:P.underlying t=some (.slice e)) (hi:P.info? e=some ie) (hz:ie.zero=some ze) (hbig:n*ie.size<=2 ^ 24) {cs':Array Value}
  (hf:Instr.fill (λ i=>some (i*ie.size,ie.size)) ((Array.range (n*ie.size)).map ((if n*ie.size=0 then #[] else ze.cells)[· % (if n*ie.size=0 then #[] else ze.cells).size]!)) parts.toList=some cs') :
  (Instr.buildSlice t n parts).run P w = .ok (.slice (some ⟨w.heap.size,0,none⟩) n n) (w.alloc (.cells cs' e)):=by
 have hbig':¬ (2 ^ 24<n*ie.size):=by omega
 by_cases h0:n*ie.size=0
 ·simp only [if_pos h0] at hf
  simp only [Instr.buildSlice]
  have h1:n=0\/ie.size=0:=Nat.mul_eq_zero.1 h0
  simp [underlying,hu,sizeOf,typeInfo,hi,h0] at hf |-
  simp [hf,h1,qc9]
 ·simp only [if_neg h0] at hf
  simp only [Instr.buildSlice]
  simp [underlying,hu,sizeOf,typeInfo,zeroValue,hi,hz,h0,hbig'] at hf |-
  have h1:¬ (n=0\/ie.size=0) := λ h=>h0 (Nat.mul_eq_zero.2 h)
  simp [hf,h1,hz,qc9]
theorem quL (hC:∀ t d,C.ty t=some d->yM P t=some d) (hi:Inv Γ σ w) (hρ : ∀ y,Rep Γ (aev tm y) (ρ y)) (t:TypeId) (n:Nat) (parts:Array (Nat × Operand)) (ho:o.op = .buildSlice t n parts) (h:qb C tm σ o.op=some (x,σ')):QF P Γ σ w o ρ x σ':=by
 rw [ho] at h
 simp only [qb] at h
 split at h<;>try cases h
 rename_i _ _ _ _ e k bb zz hd
 split at h<;>try cases h
 rename_i hok
 simp only [qeK,Bool.and_eq_true,decide_eq_true_eq] at hok
 obtain ⟨⟨⟨hn,hbig⟩,hk0⟩,hall⟩:=hok
 obtain ⟨ii,u,zv,q1,q2,q3,q4,q5,q6,q7,q8⟩:=TD.inv (hC t _ hd)
 obtain ⟨rfl,ie,ze,p1,p2,p3,p4,p5⟩:=JF q8
 have hpart:∀ (i:Nat) (p:Nat × Operand),parts.toList[i]? = some p->p.1=i/\(cellsOf (aev tm p.2)).length=k/\∀ x∈cellsOf (aev tm p.2),qt (qW σ.rw x)=true:=by
  intro i p hp
  have:=List.all_eq_true.1 hall ((p.1,aev tm p.2),i) (by
   rw [List.mem_zipIdx_iff_getElem?,List.getElem?_map,hp];rfl)
  simp only [Bool.and_eq_true,decide_eq_true_eq] at this
  exact ⟨this.1.1,this.1.2,List.all_eq_true.1 this.2⟩
 have hone:∀ p∈parts.toList,(cellsOf (aev tm p.2)).all isC=true:=by
  intro p hp
  obtain ⟨i,hi'⟩:=List.getElem?_of_mem hp
  exact List.all_eq_true.2 λ x hx=>qBN ((hpart i p hi').2.2 x hx)
 let vs:=parts.toList.map λ p => ρ p.2
 have hvs:∀ v∈vs,v.cells.size=k:=by
  intro v hv
  obtain ⟨p,hp,rfl⟩:=List.mem_map.1 hv
  obtain ⟨i,hi'⟩:=List.getElem?_of_mem hp
  rw [(hρ p.2).cells_len (hone p hp)]
  exact (hpart i p hi').2.1
 have hvl:vs.length=n:=by simpa [vs] using hn
 have hzip:=qua ρ parts.toList 0 λ i p hp=>by rw [(hpart i p hp).1];omega
 obtain ⟨cs',e1,e2⟩:=qvQ k vs 0 ((Array.range (n*k)).map ((if n*k=0 then #[] else ze.cells)[· % (if n*k=0 then #[] else ze.cells).size]!)) hvs (by simp [hvl])
 have hcs:cs'.toList=vs.flatMap λ v=>v.cells.toList:=by
  rw [e2]
  simp [hvl]
 have hcs':cs'=(vs.flatMap λ v=>v.cells.toList).toArray:=by rw [<- hcs]
 have hrun:(execOp ρ o).run P w = .ok (.value (.slice (some ⟨w.heap.size,0,none⟩) n n)) (w.alloc (.cells (vs.flatMap λ v=>v.cells.toList).toArray e)):=by
  have hpm:(parts.map λ p=>(p.1,ρ p.2)).toList=(vs.zipIdx 0).map λ p=>(p.2,p.1):=by rw [Array.toList_map];exact hzip
  rw [<- hcs']
  have hb:=qrM (w:=w) (n:=n) (parts:=parts.map λ p=>(p.1,ρ p.2)) q2 p1 p2 (by rw [p3];exact hbig) (by rw [p3,hpm];exact e1)
  simp only [execOp,ho]
  simp [Sem.run_bind',hb]
 have share:∀ (rs:List Nat) (wl:List Nat),(∀ r∈parts.toList.flatMap (λ p=>rsA (aev tm p.2)),r∈rs)->∃ m,Fz Γ m/\Inv { Γ with mem:=m } { σ with rw:=frz σ.rw rs,wrr:=wl } w /\
   ∀ (i:Nat) (p:Nat × Operand),parts.toList[i]? = some p->RepL { Γ with mem:=m } ((cellsOf (aev tm p.2)).map (qW σ.rw)) (ρ p.2).cells.toList:=by
  intro rs wl hrs
  obtain ⟨m,m1,m2,m3⟩:=qa0 rs hi wl
  refine ⟨m,m1,m2,λ i p hp=>?_⟩
  refine qwW hi m1.le (λ r hr R hR=>m3 r (hrs r (List.mem_flatMap.2 ⟨p,List.mem_of_getElem? hp,?_⟩)) R hR) ((hρ p.2).cells (hone p (List.mem_of_getElem? hp))).1
  have:∀ y:AV,r∈(cellsOf y).flatMap rsC->r∈rsA y:=by
   intro y hy
   cases y<;>simpa [cellsOf,rsA] using hy
  exact this _ hr
 have hones:∀ u∈vs.flatMap (λ v=>v.cells.toList),u.oneCell'=true:=by
  intro u hu
  obtain ⟨v,hv,hu⟩:=List.mem_flatMap.1 hu
  obtain ⟨p,hp,rfl⟩:=List.mem_map.1 hv
  exact ((hρ p.2).cells (hone p hp)).2 u hu
 have fin:∀ (rs:List Nat) (σ1:St) (wl:List Nat),σ1={ σ with rw:=frz σ.rw rs,wrr:=wl }->(∀ r∈parts.toList.flatMap (λ p=>rsA (aev tm p.2)),r∈rs) ->
   ∃ Γ',Ext Γ w Γ' (w.alloc (.cells (vs.flatMap λ v=>v.cells.toList).toArray e))/\Inv Γ' σ1 (w.alloc (.cells (vs.flatMap λ v=>v.cells.toList).toArray e))/\Rep Γ' (.sl k (parts.toList.map λ p=>(cellsOf (aev tm p.2)).map (qW σ.rw)) 2) (.slice (some ⟨w.heap.size,0,none⟩) n n):=by
  intro rs σ1 wl hσ hrs
  subst hσ
  obtain ⟨m,m1,m2,m3⟩:=share rs wl hrs
  obtain ⟨Γ',g1,g2,g3⟩:=qBb m2 hones e
  refine ⟨Γ',(qja m1 w).trans g1,g2,?_⟩
  have cell:∀ (i:Nat) (l:List AV) (j:Nat) (x:AV),(parts.toList.map λ p=>(cellsOf (aev tm p.2)).map (qW σ.rw))[i]? = some l->l[j]? = some x->∃ u,Γ'.mem w.heap.size (i*k+j)=some u/\Rep Γ' x u:=by
   intro i l j x hl hx
   rw [List.getElem?_map] at hl
   cases hp:parts.toList[i]? with
   | none=>rw [hp] at hl;cases hl
   | some p =>
     rw [hp] at hl;cases hl
     have hr:=m3 i p hp
     obtain ⟨u,hu,hrep⟩:=hr.get hx
     refine ⟨u,g3 _ _ ?_,hrep.mono g1.le⟩
     rw [List.flatMap_def]
     refine qxa k _ i j (ρ p.2).cells.toList u ?_ ?_ hu
     ·intro l hl
      obtain ⟨v,hv,rfl⟩:=List.mem_map.1 hl
      simpa using hvs v hv
     ·simp only [vs,List.map_map,List.getElem?_map,hp];rfl
  refine .sl k _ 2 _ n n w.heap.size 0 (λ i j=>(Γ'.mem w.heap.size (i*k+j)).getD undef) ?_ (λ _=>Nat.le_refl _) (λ _=>rfl) ?_ ?_ hk0 (.inr rfl) ?_ ?_
  ·simpa using hn.symm
  ·intro l hl
   obtain ⟨p,hp,rfl⟩:=List.mem_map.1 hl
   obtain ⟨i,hi'⟩:=List.getElem?_of_mem hp
   rw [List.length_map];exact (hpart i p hi').2.1
  ·intro l hl x hx
   obtain ⟨p,hp,rfl⟩:=List.mem_map.1 hl
   obtain ⟨i,hi'⟩:=List.getElem?_of_mem hp
   obtain ⟨y,hy,rfl⟩:=List.mem_map.1 hx
   exact (hpart i p hi').2.2 y hy
  ·intro i l j x hl hx
   obtain ⟨u,hu,_⟩:=cell i l j x hl hx
   rw [Nat.zero_add,hu];rfl
  ·intro i l j x hl hx
   obtain ⟨u,hu,hrep⟩:=cell i l j x hl hx
   rw [hu];exact hrep
 split at h<;>cases h
 ·rename_i hnil
  obtain ⟨Γ',f1,f2,f3⟩:=fin [] σ σ.wrr rfl (by rw [hnil];intro r hr;cases hr)
  exact ⟨_,_,_,Γ',hrun,.inl rfl,f1,f2,f3⟩
 ·rename_i r l hcons
  obtain ⟨Γ',f1,f2,f3⟩:=fin (r::l) _ ((r::l) ++ σ.wrr) rfl (by rw [hcons];intro r hr;exact hr)
  exact ⟨_,_,_,Γ',hrun,.inl rfl,f1,f2,f3⟩
theorem qC0 {α : Type} {n i:Nat} {x y : α} (h:(List.replicate n x)[i]? = some y):y=x:=by
 rw [List.getElem?_replicate] at h
 split at h<;>cases h
 rfl
theorem qGx (hC:∀ t d,C.ty t=some d->yM P t=some d) (hi:Inv Γ σ w) (hρ : ∀ y,Rep Γ (aev tm y) (ρ y)) (t:TypeId) (y z:Operand) (ho:o.op = .makeSlice t y z) (h:qb C tm σ o.op=some (x,σ')):QF P Γ σ w o ρ x σ':=by
 rw [ho] at h
 simp only [qb] at h
 split at h<;>try cases h
 rename_i _ _ _ _ e k bytes zs ik a ik' b hd hy hz
 split at h<;>try cases h
 rename_i hc
 simp only [Bool.and_eq_true,decide_eq_true_eq] at hc
 obtain ⟨⟨⟨rfl,h0,hby,h62,hk0,hzl⟩,hzb⟩,hzp⟩:=hc
 have hy:=qS (hy▸hρ y)
 have hz:=qS (hz▸hρ z)
 obtain ⟨ii,u,zv,q1,q2,q3,q4,q5,q6,q7,q8⟩:=TD.inv (hC t _ hd)
 obtain ⟨rfl,ie,ze,p1,p2,p3,p4,p5⟩:=JF q8
 have hrun:=run_make (P:=P) w t e ie ze q2 p1 p2 ik ik' a a h0 (Int.le_refl _) (by rw [p4];have e1:(bytes:Int)*a=((a.toNat*bytes:Nat):Int):=by rw [Int.natCast_mul,Int.toNat_of_nonneg h0,Int.mul_comm]
                                                                                   rw [e1];omega) (by omega)
 rw [p3] at hrun
 have hex:(execOp ρ o).run P w = .ok (.value (.slice (some ⟨w.heap.size,0,none⟩) a.toNat a.toNat)) (w.alloc (.cells (madeCells ze.cells (a.toNat*k)) e)):=by
  simp only [execOp,ho,hy,hz]
  simp [Sem.run_bind',hrun]
 have hb:Below w.heap.size w (w.alloc (.cells (madeCells ze.cells (a.toNat*k)) e)):=(Below.refl _ _).alloc (Nat.le_refl _) _
 split at h
 ·rename_i hn
  cases h
  have hn:a.toNat=0:=of_decide_eq_true hn
  refine ⟨_,_,_,Γ,hex,.inl rfl,qcr hb (Nat.le_refl _),hi.later hb,?_⟩
  rw [hn]
  exact .sl k [] 2 _ 0 0 0 0 (λ _ _=>undef) rfl (λ _=>Nat.le_refl _) (λ _=>rfl) (by simp) (by simp) hk0 (.inl rfl) (by simp) (by simp)
 ·cases h
  have hsize:(madeCells ze.cells (a.toNat*k)).size=a.toNat*k:=size_madeCells _ _
  have hzc:ze.cells.toList=zs:=p5
  have hzs:ze.cells.size=k:=by rw [<- hzl,<- hzc];simp
  have zrep:=qdR (Γ := Γ) hzb
  obtain ⟨Γ',d1,d2,d3⟩:=qtp hi hk0 (c:=List.replicate a.toNat (zs.map .v)) (λ e he=>by rw [List.eq_of_mem_replicate he,List.length_map];exact hzl) (λ e he x hx=>by
   rw [List.eq_of_mem_replicate he] at hx
   exact List.all_eq_true.1 hzp x hx) (vs:=madeCells ze.cells (a.toNat*k)) (by rw [List.length_replicate,hsize];exact Nat.le_refl _) (by
   intro i e j x hi' hj
   have:=qC0 hi'
   subst this
   obtain ⟨v,hv,hrep⟩:=zrep.1.get hj
   have hil:i<a.toNat:=by have:=getElem?_lt hi';simpa using this
   have hjl:j<k:=by have:=getElem?_lt hj;simp at this;omega
   refine ⟨v,?_,hrep,zrep.2 v (List.mem_of_getElem? hv)⟩
   have hlt:i*k+j<a.toNat*k:=by
    calc i*k+j<i*k+k:=by omega
     _=(i+1)*k:=by rw [Nat.add_mul,Nat.one_mul]
     _<=a.toNat*k:=Nat.mul_le_mul_right _ hil
   have hm:(i*k+j) % k=j:=by rw [Nat.mul_comm,Nat.mul_add_mod];exact Nat.mod_eq_of_lt hjl
   unfold madeCells
   rw [Array.getElem?_map,Array.getElem?_range,if_pos hlt]
   simp only [Option.map_some,hzs,hm]
   have:ze.cells[j]! = v:=by
    rw [<- hzc] at hv
    have hv':ze.cells[j]? = some v:=by simpa using hv
    rw [getElem!_def,hv']
   rw [this]) (e:=e) (cap:=a.toNat) (by simp) (by rw [hsize];exact Nat.le_refl _) hb (Nat.le_refl _) (Nat.le_refl _) (heap_alloc_new w _)
  rw [List.length_replicate] at d3
  exact ⟨_,_,_,Γ',hex,.inl rfl,d1,d2,d3⟩
end
end Go.AmZ
namespace Go.AmZ
open Go Go.RowKit
section
variable {P:Program} {C:Cfg} {Γ : Gh} {σ : St} {w:World} {o:Oper} {tm:List AV} {ρ : Operand->Value} {x:AV} {σ':Option St}
theorem qwd {k:Nat} {es:List (List AV)} (h:uni k es=true):(∀ e∈es,e.length=k)/\∀ e∈es,∀ x∈e,qt x=true:=by
 simp only [uni,List.all_eq_true,Bool.and_eq_true,decide_eq_true_eq] at h
 exact ⟨λ e he=>(h e he).1,λ e he=>(h e he).2⟩
theorem qv5 (hi:Inv Γ σ w) {k:Nat} {y:AV} {u:Value} (hr:Rep Γ y u) {xs:List (List AV)} (h:elems σ.rw k y=some xs) (h0:0<k) (hk:∀ e∈xs,e.length=k):∃ a m c,u = .slice a m c/\m=xs.length /\
  (xs=[]\/∃ b o,a=some ⟨b,o,none⟩/\∀ (i:Nat) (e:List AV) (j:Nat) (x:AV),xs[i]? = some e->e[j]? = some x->∃ v,w.cell? ⟨b,o+(i*k+j),none⟩=some v/\Rep Γ x v/\v.oneCell'=true):=by
 cases hr with
 | v _ hb =>
   cases u<;>simp only [elems] at h<;>try (cases h;done)
   rename_i a n c
   cases a with
   | some a=>simp [zO] at hb
   | none =>
     cases n<;>cases c<;>simp [elems,zO] at h hb
     subst h
     exact ⟨none,0,0,rfl,rfl,.inl rfl⟩
 | sl k' es f a n cap b o us hn hc hf hkk hpl h00 ha hm hr =>
   simp only [elems] at h
   split at h<;>cases h
   rename_i hk'
   have hk':k'=k:=of_decide_eq_true hk'
   subst hk'
   refine ⟨a,n,cap,rfl,hn,?_⟩
   rcases ha with ha | ha
   ·exact .inl ha
   ·refine .inr ⟨b,o,ha,λ i e j x h1 h2=>⟨us i j,?_,hr i e j x h1 h2,(hi.mem _ _ _ (hm i e j x h1 h2)).2⟩⟩
    rw [<- Nat.add_assoc]
    exact (hi.mem _ _ _ (hm i e j x h1 h2)).1
 | rs r lo n ep f a cap hrn hv hc hf hx =>
   simp only [elems] at h
   split at h<;>try cases h
   rename_i R hR
   simp only [qkz] at h
   split at h<;>cases h
   rename_i hcc
   obtain ⟨c0,c1,c3⟩:=hcc
   have H:=hi.row r R hR
   refine ⟨a,n,cap,rfl,by simp;omega,?_⟩
   by_cases hn:n=0
   ·left
    apply List.eq_nil_of_length_eq_zero
    simp [hn]
   ·right
    obtain ⟨g2,-⟩:=hx (by rw [<- H.ver (H.liveN c3 (by omega))];exact c1)
    refine ⟨Γ.cur r,Γ.of r+lo * Γ.k r,g2.resolve_left (by omega),λ i e j x h1 h2=>?_⟩
    rw [List.getElem?_take] at h1
    split at h1<;>try cases h1
    rename_i hin
    rw [List.getElem?_drop] at h1
    have hidx : Γ.of r+lo * Γ.k r+(i*k+j) = Γ.of r+((lo+i)*R.k+j):=by rw [Nat.add_mul,<- c0,<- H.k];omega
    rw [hidx]
    exact H.cells (lo+i) e j x h1 h2
 | dead u=>simp [elems] at h
 | ptr=>simp [elems] at h
 | rpt=>simp [elems] at h
 | ept=>simp [elems] at h
 | fn=>simp [elems] at h
 | agg=>simp [elems] at h
 | tup=>simp [elems] at h
theorem qt0:∀ {es:List (List AV)} {l:List UInt8},qnt es=some l->∃ xs:List Int,es=xs.map (λ n=>[AV.v (.int .u8 n)])/\l=xs.map λ n=>UInt8.ofNat n.toNat
 | [],l,h=>by cases h;exact ⟨[],rfl,rfl⟩
 | e::es,l,h=>by
   simp only [qnt] at h
   split at h<;>cases h
   rename_i b r hb hr
   obtain ⟨xs,rfl,rfl⟩:=qt0 hr
   unfold qzV at hb
   split at hb<;>cases hb
   rename_i n
   exact ⟨n::xs,rfl,rfl⟩
theorem qzx {d:Option TD} (h:qm4 d=true):∃ a b c z,d=some ⟨a,b,c,z,.int .u8⟩:=by
 unfold qm4 at h
 split at h
 ·exact ⟨_,_,_,_,rfl⟩
 ·cases h
theorem qgl (b:ByteArray):(qaa b).length=b.size:=by show (b.data.toList.map _).length=b.data.size;rw [List.length_map,Array.length_toList]
theorem qrq {b:ByteArray} {e:List AV} (he:e∈qaa b):e.length=1:=by obtain ⟨c,_,rfl⟩:=List.mem_map.1 he;rfl
theorem qmF {b:ByteArray} {e:List AV} (he:e∈qaa b):∀ x∈e,qt x=true := λ x hx=>by
 obtain ⟨c,_,rfl⟩:=List.mem_map.1 he
 rw [List.mem_singleton.1 hx];rfl
theorem qrl {b:ByteArray} {i j:Nat} {e:List AV} {x:AV} (hi:(qaa b)[i]? = some e) (hj:e[j]? = some x):j=0/\∃ c,b.data.toList[i]? = some c/\x = .v (.int .u8 c.toNat):=by
 have hi':(b.data.toList.map λ c=>[AV.v (.int .u8 c.toNat)])[i]? = some e:=hi
 rw [List.getElem?_map] at hi'
 cases hc:b.data.toList[i]? with
 | none=>rw [hc] at hi';cases hi'
 | some c =>
   rw [hc] at hi'
   cases hi'
   cases j with
   | succ j=>cases hj
   | zero=>cases hj;exact ⟨rfl,c,rfl,rfl⟩
theorem qD5 (hi:Inv Γ σ w) {s t e:TypeId} {u:TypeDesc} (b:ByteArray) (hs:P.underlying s=some u) (hd:P.underlying t=some (.slice e)) (he:P.underlying e=some (.int .u8)) :
  ∃ v w' Γ',(convert s t (.string b)).run P w = .ok v w'/\Ext Γ w Γ' w'/\Inv Γ' { σ with rw := σ.rw++[⟨1,qaa b,0,0,false⟩] } w'/\Rep Γ' (.rs σ.rw.length 0 b.size 0 false) v:=by
 have hrun:=Lib.run_convert_string_bytes (P:=P) w s t e b hs hd he
 have hge:=grownCap_ge w b.size 0 e
 have hsz:(Lib.bytesCells w e b).size=grownCap w b.size 0 e:=by
  unfold Lib.bytesCells
  rw [Array.size_append,Array.size_map,Array.size_replicate]
  show b.size+_=_
  omega
 have hb:Below w.heap.size w (Lib.bytesWorld w e b):=⟨rfl,rfl,rfl,by rw [Lib.bytesWorld_size];omega,λ k hk=>Lib.bytesWorld_at_old w e b k hk⟩
 obtain ⟨Γ',d1,d2,d3⟩:=qvJ hi (Nat.succ_pos 0) (c:=qaa b) (λ e he=>qrq he) (λ e he=>qmF he) (vs:=Lib.bytesCells w e b) (by rw [qgl,hsz];omega) (λ i e' j x hi' hj=>by
  obtain ⟨rfl,c,hc,rfl⟩:=qrl hi' hj
  refine ⟨.int .u8 c.toNat,?_,.v _ rfl,rfl⟩
  have hlt:i<b.data.size:=by have:=getElem?_lt hc;rwa [Array.length_toList] at this
  unfold Lib.bytesCells
  rw [Nat.mul_one,Nat.add_zero,Array.getElem?_append_left (by rw [Array.size_map];exact hlt),Array.getElem?_map,<- Array.getElem?_toList,hc];rfl) (e:=e) (cap:=grownCap w b.size 0 e) (by rw [qgl];exact hge) (by rw [hsz];omega) hb (Go.GxZ.run_drawn _ hrun) (Nat.le_refl _) (fr:=((Lib.bytesCells w e b).size,(Lib.bytesCells w e b).size+1)) (λ j h1 h2=>by have:=h2.1;omega) (λ h=>absurd rfl h) (Lib.bytesWorld_at_new w e b)
 rw [qgl] at d3
 exact ⟨_,_,Γ',hrun,d1,d2,d3⟩
theorem qGe (hC:∀ t d,C.ty t=some d->yM P t=some d) (hi:Inv Γ σ w) (hρ : ∀ y,Rep Γ (aev tm y) (ρ y)) (s t:TypeId) (y:Operand) (ho:o.op = .convert s t y) (h:qb C tm σ o.op=some (x,σ')):QF P Γ σ w o ρ x σ':=by
 rw [ho] at h
 simp only [qb] at h
 split at h<;>try cases h
 ·rename_i ds _ _ _ _ k _ n hs hd ha
  have h1:=qS (ha▸hρ y)
  obtain ⟨i,u,zv,q1,q2,q3,q4,q5,q6,q7,q8⟩:=TD.inv (hC s _ hs)
  obtain ⟨i',u',zv',p1,p2,p3,p4,p5,p6,p7,p8⟩:=TD.inv (hC t _ hd)
  have:=qxk p8
  subst this
  refine .val ?_ hi (.v _ rfl)
  simp [execOp,ho,h1,convert,underlying,q2,p2,Conv.intToInt,iw]
 ·rename_i ds _ _ _ _ str hs hd ha
  have h1:=qS (ha▸hρ y)
  obtain ⟨i,u,zv,q1,q2,q3,q4,q5,q6,q7,q8⟩:=TD.inv (hC s _ hs)
  obtain ⟨i',u',zv',p1,p2,p3,p4,p5,p6,p7,p8⟩:=TD.inv (hC t _ hd)
  have:=qdQ p8
  subst this
  refine .val ?_ hi (.v _ rfl)
  simp [execOp,ho,h1,convert,underlying,q2,p2]
 ·rename_i e _ _ _ b hs hd ha
  split at h<;>cases h
  rename_i hu8
  have h1:=qS (ha▸hρ y)
  obtain ⟨i,u,zv,q1,q2,q3,q4,q5,q6,q7,q8⟩:=TD.inv (hC s _ hs)
  obtain ⟨i',u',zv',p1,p2,p3,p4,p5,p6,p7,p8⟩:=TD.inv (hC t _ hd)
  obtain ⟨rfl,_⟩:=JF p8
  obtain ⟨a1,a2,a3,a4,he⟩:=qzx hu8
  obtain ⟨i2,u2,zv2,o1,o2,o3,o4,o5,o6,o7,o8⟩:=TD.inv (hC _ _ he)
  have:=qxk o8
  subst this
  obtain ⟨v,w',Γ',c1,c2,c3,c4⟩:=qD5 hi b q2 p2 o2
  exact ⟨_,_,w',Γ',by simp [execOp,ho,h1,c1],.inl rfl,c2,c3,c4⟩
 ·rename_i e _ _ _ _ _ _ _ _ _ _ hs hd hn
  split at h<;>try cases h
  rename_i es hu8 hes
  split at h<;>cases h
  rename_i l hl
  obtain ⟨i,u,zv,q1,q2,q3,q4,q5,q6,q7,q8⟩:=TD.inv (hC s _ hs)
  obtain ⟨i',u',zv',p1,p2,p3,p4,p5,p6,p7,p8⟩:=TD.inv (hC t _ hd)
  have:=qdQ p8
  subst this
  obtain ⟨rfl,_⟩:=JF q8
  obtain ⟨a1,a2,a3,a4,he⟩:=qzx hu8
  obtain ⟨i2,u2,zv2,o1,o2,o3,o4,o5,o6,o7,o8⟩:=TD.inv (hC _ _ he)
  have:=qxk o8
  subst this
  obtain ⟨xs,rfl,rfl⟩:=qt0 hl
  obtain ⟨a,m,c,hv,hm,hcell⟩:=qv5 hi (hρ y) hes (Nat.succ_pos 0) (λ e he=>by obtain ⟨n,_,rfl⟩:=List.mem_map.1 he;rfl)
  have hml:xs.length=m:=by rw [hm,List.length_map]
  refine .val (u := .string (strOfNums xs)) ?_ hi (.v _ rfl)
  have hrun:(convert s t (ρ y)).run P w = .ok (.string (strOfNums xs)) w:=by
   rw [hv]
   rcases hcell with hcell | ⟨b,o',rfl,hcell⟩
   ·have:xs=[]:=by cases xs with | nil=>rfl | cons x l=>cases hcell
    subst this
    subst hml
    cases a with
    | none=>exact run_convert_bytes_nil (P:=P) (w:=w) s _ q2 o2 _ _ t p2
    | some a=>simp [convert,underlying,q2,o2,p2,Conv.bytesToString,loadCells,loadCellsFrom];rfl
   ·refine run_convert_bytes_arg (P:=P) (w:=w) s _ q2 o2 b o' m c xs hml (λ q hq=>?_) t p2
    obtain ⟨v,v1,v2,_⟩:=hcell q [.v (.int .u8 xs[q])] 0 _ (by rw [List.getElem?_map,List.getElem?_eq_getElem (by omega)];rfl) rfl
    rw [Nat.mul_one,Nat.add_zero] at v1
    rw [v1,qS v2,List.getD_eq_getElem?_getD,List.getElem?_eq_getElem (by omega)];rfl
  simp [execOp,ho,hrun]
theorem qd7 {k:Nat} (h0:0<k) {xs:List (List AV)} (hk:∀ e∈xs,e.length=k) {b o:Nat} (hc:∀ (i:Nat) (e:List AV) (j:Nat) (x:AV),xs[i]? = some e->e[j]? = some x->∃ v,w.cell? ⟨b,o+(i*k+j),none⟩=some v/\Rep Γ x v/\v.oneCell'=true) :
  ∃ qe:List Value,qe.length=xs.length*k/\(∀ j u,qe[j]? = some u->w.cell? ((⟨b,o,none⟩:Addr).add j)=some u)/\(∀ u∈qe,u.oneCell'=true)/\∀ (i:Nat) (e:List AV) (j:Nat) (x:AV),xs[i]? = some e->e[j]? = some x->∃ u,qe[i*k+j]? = some u/\Rep Γ x u/\u.oneCell'=true:=by
 have key:∀ q,q<xs.length*k->∃ v,w.cell? ⟨b,o+q,none⟩=some v/\v.oneCell'=true:=by
  intro q hq
  have hqd:q / k<xs.length:=(Nat.div_lt_iff_lt_mul h0).2 hq
  have hqm:q % k<k:=Nat.mod_lt _ h0
  have hl:=hk _ (List.getElem_mem hqd)
  obtain ⟨v,h1,h2,h3⟩:=hc (q / k) _ (q % k) _ (List.getElem?_eq_getElem hqd) (List.getElem?_eq_getElem (by rw [hl];exact hqm))
  have:q / k*k+q % k=q:=by rw [Nat.mul_comm];exact Nat.div_add_mod q k
  rw [this] at h1
  exact ⟨v,h1,h3⟩
 let f:Nat->Value := λ q=>(w.cell? ⟨b,o+q,none⟩).getD undef
 have hf:∀ q,q<xs.length*k->w.cell? ⟨b,o+q,none⟩=some (f q) := λ q hq=>by
  obtain ⟨v,h1,_⟩:=key q hq
  show _=some ((w.cell? ⟨b,o+q,none⟩).getD undef)
  rw [h1];rfl
 refine ⟨(List.range (xs.length*k)).map f,by simp,?_,?_,?_⟩
 ·intro j u hj
  have hlt:j<xs.length*k:=by have:=getElem?_lt hj;simpa using this
  rw [qdC,hf j hlt]
  simpa [hlt] using hj
 ·intro u hu
  obtain ⟨q,hq,rfl⟩:=List.mem_map.1 hu
  obtain ⟨v,h1,h2⟩:=key q (List.mem_range.1 hq)
  have:=hf q (List.mem_range.1 hq)
  rw [h1] at this;cases this
  exact h2
 ·intro i e j x hi hj
  obtain ⟨v,h1,h2,h3⟩:=hc i e j x hi hj
  have hil:=getElem?_lt hi
  have hjl:=getElem?_lt hj
  rw [hk e (List.mem_of_getElem? hi)] at hjl
  have hlt:i*k+j<xs.length*k:=by
   calc i*k+j<i*k+k:=by omega
    _=(i+1)*k:=by rw [Nat.add_mul,Nat.one_mul]
    _<=xs.length*k:=Nat.mul_le_mul_right _ hil
  refine ⟨v,?_,h2,h3⟩
  have:=hf _ hlt
  rw [h1] at this
  simp [hlt,this]
theorem qCG {ts:Array TypeId} {t u e ty:TypeId} (h0:ts[0]? = some t) (h1:ts[1]? = some u) (ht:P.underlying t=some (.slice e)) (hu:(∃ e',P.underlying u=some (.slice e'))\/P.underlying u=some .string) (s x:Value) :
  (Builtin.append_ ts ty #[s,x]).run P w=(Builtin.append_ #[t,u] ty #[s,x]).run P w:=by
 rcases hu with ⟨e',hu⟩ | hu<;>cases s<;>simp [Builtin.append_,h0,h1,run_underlying ht,run_underlying hu]
theorem grow_any {t u e ty:TypeId} {ie:TypeInfo} {ze:Value} {k bytes:Nat} (ht:P.underlying t=some (.slice e)) (hi:P.info? e=some ie) (hz:ie.zero=some ze) (hs:ie.size=k) (hby:ie.bytes=bytes) (hzs:ze.cells.size=k)
  (a:Option Addr) (n cap:Nat) (ha:a=none->n=0/\cap=0) (olds:List Value) (hlo:olds.length=n*k) (holds:∀ b,a=some b->∀ j u,olds[j]? = some u->w.cell? (b.add j)=some u)
  (x:Value) (m:Nat) (qe:List Value) (hsrc:Src P k u x m qe w) (hg:cap<n+m) (h63:n+m<=maxLen) (hbytes:(n+m)*bytes<=140737488355328) :
  ∃ g cap' cur w',(Builtin.append_ #[t,u] ty #[.slice a n cap,x]).run P w = .ok (.slice (some ⟨g,0,none⟩) (n+m) cap') w'/\Below w.heap.size w w'/\w.heap.size<=g/\w'.heap[g]? = some (.cells cur e (0,0))/\n+m<=cap'/\cur.size=cap'*k/\cur.toList.take ((n+m)*k)=olds++qe/\w.drawn<=w'.drawn:=by
 subst hs
 subst hby
 have hold:(Builtin.firstCells ie.size n (.slice a n cap)).run P w.drew = .ok olds.toArray w.drew:=by
  cases a with
  | none =>
    obtain ⟨rfl,rfl⟩:=ha rfl
    have:olds=[]:=List.length_eq_zero_iff.1 (by simpa using hlo)
    subst this
    exact run_firstCells_none w.drew ie.size 0 0 0
  | some b=>exact run_firstCells_some w.drew ie.size n b n cap olds hlo (by simpa using holds b rfl)
 have hr:=run_append_grow_src (P:=P) w t u ty e ie ze ht hi hz a n cap olds hold x m qe hsrc hg (by simp only [maxLen] at h63;omega) (growslice_fits hg hbytes)
 have hge:=grownCap_ge w (n+m) cap e
 refine ⟨_,_,_,_,hr,⟨rfl,rfl,rfl,by simp,λ k hk=>heap_alloc_old w.drew _ hk⟩,Nat.le_refl _,heap_alloc_new w.drew _,hge,?_,?_,Go.GxZ.run_drawn _ hr⟩
 ·simp only [Array.size_append,List.size_toArray,size_zeroCells,List.length_append,hlo,hsrc.newsLen,hzs]
  rw [<- Nat.add_mul,<- Nat.add_mul];congr 1;omega
 ·simp only [Array.toList_append]
  have:(olds++qe).length=(n+m)*ie.size:=by rw [List.length_append,hlo,hsrc.newsLen,Nat.add_mul]
  rw [<- this]
  exact List.take_left
theorem qw1 {α : Type} {l r:List α} {n q:Nat} {u : α} (h:l.take n=r) (hq:r[q]? = some u):l[q]? = some u:=by
 rw [<- h,List.getElem?_take] at hq
 split at hq
 ·exact hq
 ·cases hq
theorem qmL {k:Nat} {c xs:List (List AV)} {olds qe:List Value} (hlo:olds.length=c.length*k) (hko:∀ e∈c,e.length=k)
  (h1:∀ (i:Nat) (e:List AV) (j:Nat) (x:AV),c[i]? = some e->e[j]? = some x->∃ u,olds[i*k+j]? = some u/\Rep Γ x u/\u.oneCell'=true)
  (h2:∀ (i:Nat) (e:List AV) (j:Nat) (x:AV),xs[i]? = some e->e[j]? = some x->∃ u,qe[i*k+j]? = some u/\Rep Γ x u/\u.oneCell'=true) :
  ∀ (i:Nat) (e:List AV) (j:Nat) (x:AV),(c++xs)[i]? = some e->e[j]? = some x->∃ u,(olds++qe)[i*k+j]? = some u/\Rep Γ x u/\u.oneCell'=true:=by
 intro i e j x hi hj
 rcases qzf hi with ⟨hlt,hi'⟩ | ⟨hge,hi'⟩
 ·obtain ⟨u,hu,hr⟩:=h1 i e j x hi' hj
  exact ⟨u,by rw [List.getElem?_append_left (getElem?_lt hu)];exact hu,hr⟩
 ·obtain ⟨u,hu,hr⟩:=h2 _ e j x hi' hj
  refine ⟨u,?_,hr⟩
  have hie:i*k=c.length*k+(i-c.length)*k:=by rw [<- Nat.add_mul];congr 1;omega
  rw [List.getElem?_append_right (by omega),hlo,show i*k+j-c.length*k=(i-c.length)*k+j by omega]
  exact hu
theorem qjR (hC:∀ t d,C.ty t=some d->yM P t=some d) (hi:Inv Γ σ w) {ts:Array TypeId} {ty t u:TypeId} {sv xv:Value} {s:AV} (hs:Rep Γ s sv) (h0:ts[0]? = some t) (h1:ts[1]? = some u) {e k bytes:Nat} {z:List Value} {q1 q2 q3 q4:_}
  (hdt:C.ty t=some ⟨q1,q2,q3,q4,.slice e k bytes z⟩) (hk0:0<k) (hzl:z.length=k) {xs:List (List AV)} (u1:∀ e∈xs,e.length=k) (u2:∀ e∈xs,∀ x∈e,qt x=true)
  {qe:List Value} (hsrc:Src P k u xv xs.length qe w) (n4:∀ (i:Nat) (e:List AV) (j:Nat) (x:AV),xs[i]? = some e->e[j]? = some x->∃ u,qe[i*k+j]? = some u/\Rep Γ x u/\u.oneCell'=true) (h:zF k bytes σ s xs=some (x,σ')) :
  ∃ v w' Γ',(Builtin.append_ ts ty #[sv,xv]).run P w = .ok v w'/\Ext Γ w Γ' w'/\Inv Γ' (turn σ σ') w'/\Rep Γ' x v:=by
 obtain ⟨ii,ud,zv,p1,p2,p3,p4,p5,p6,p7,p8⟩:=TD.inv (hC t _ hdt)
 obtain ⟨rfl,ie,ze,r1,r2,r3,r4,r5⟩:=JF p8
 have hzs:ze.cells.size=k:=by rw [<- hzl,<- r5];simp
 have n1:=hsrc.newsLen
 have n3:=hsrc.one
 rw [qCG h0 h1 p2 hsrc.kind]
 have none':∀ (a':Option Addr) (n cap:Nat),n<=cap->xs=[]->(Builtin.append_ #[t,u] ty #[.slice a' n cap,xv]).run P w = .ok (.slice a' n cap) w:=by
  intro a' n cap hle he
  subst he
  have hnl:qe=[]:=List.length_eq_zero_iff.1 (by rw [n1];simp)
  subst hnl
  subst r3
  exact run_append_nothing w t u ty e ie p2 r1 a' n cap hle xv hsrc
 have isnil:qV (Jx xs) 0=true->xs=[] := λ h=>List.length_eq_zero_iff.1 (of_decide_eq_true h)
 have nonil:qV (Jx xs) 0=false->xs≠[] := λ h he=>by subst he;simp [qV,Jx] at h
 have fresh:∀ (a':Option Addr) (n cap:Nat) (es:List (List AV)),n=es.length->(a'=none->n=0/\cap=0)->cap<n+xs.length->xs≠[]->(∀ e∈es,e.length=k)->(∀ e∈es,∀ x∈e,qt x=true) ->
   (∀ bb,a'=some bb->∃ b o,bb=⟨b,o,none⟩/\(es=[]\/∀ (i:Nat) (e:List AV) (j:Nat) (x:AV),es[i]? = some e->e[j]? = some x->∃ v,w.cell? ⟨b,o+(i*k+j),none⟩=some v/\Rep Γ x v/\v.oneCell'=true))\/es=[] ->
   ∀ R N,rowNew k bytes (qg8 es xs)=some (R,N)->∃ v w' Γ',(Builtin.append_ #[t,u] ty #[.slice a' n cap,xv]).run P w = .ok v w'/\Ext Γ w Γ' w'/\Inv Γ' { σ with rw := σ.rw++[R] } w'/\Rep Γ' (.rs σ.rw.length 0 N 0 false) v:=by
  intro a' n cap es hn hanone hcap hxne hek hep hold R N hR
  simp only [rowNew] at hR
  split at hR<;>cases hR
  rename_i hsz
  obtain ⟨hsz1,hsz2⟩:=hsz
  simp only [qg8] at hsz1 hsz2
  have holds:∃ olds:List Value,olds.length=n*k/\(∀ bb,a'=some bb->∀ j u,olds[j]? = some u->w.cell? (bb.add j)=some u)/\∀ (i:Nat) (e:List AV) (j:Nat) (x:AV),es[i]? = some e->e[j]? = some x->∃ u,olds[i*k+j]? = some u/\Rep Γ x u/\u.oneCell'=true:=by
   have hnil:es=[]->∃ olds:List Value,olds.length=n*k/\(∀ bb,a'=some bb->∀ j u,olds[j]? = some u->w.cell? (bb.add j)=some u)/\∀ (i:Nat) (e:List AV) (j:Nat) (x:AV),es[i]? = some e->e[j]? = some x->∃ u,olds[i*k+j]? = some u/\Rep Γ x u/\u.oneCell'=true:=by
    intro he
    subst he
    exact ⟨[],by simp [hn],λ _ _ j u hj=>by simp at hj,λ i e j x hi'=>by simp at hi'⟩
   cases ha':a' with
   | none=>exact ha'▸hnil (List.length_eq_zero_iff.1 (by have:=(hanone ha').1;omega))
   | some bb =>
     rcases hold with hold | hold
     ·obtain ⟨b2,o2',rfl,hh⟩:=hold bb ha'
      rcases hh with hh | hh
      ·exact ha'▸hnil hh
      ·obtain ⟨olds,m1,m2,m3,m4⟩:=qd7 hk0 hek hh
       exact ⟨olds,by rw [hn];exact m1,λ bb hb=>by cases hb;exact m2,m4⟩
     ·exact ha'▸hnil hold
  obtain ⟨olds,m1,m2,m4⟩:=holds
  have hlen:(es++xs).length=n+xs.length:=by rw [List.length_append,hn]
  obtain ⟨g,cap',cur,w',f1,f2,f3,f4,f5,f6,f7,f8⟩:=grow_any (P:=P) (w:=w) (ty:=ty) p2 r1 r2 r3 r4 hzs a' n cap hanone olds m1 m2 xv xs.length qe hsrc hcap (by simp only [maxLen];omega) (by rw [<- hlen];exact hsz1)
  have hn':cur.toList.length=cap'*k:=by simpa using f6
  obtain ⟨Γ',d1,d2,d3⟩:=qtp hi hk0 (c:=es++xs) (by
   intro e he
   rcases List.mem_append.1 he with he | he
   ·exact hek e he
   ·exact u1 e he) (by
   intro e he
   rcases List.mem_append.1 he with he | he
   ·exact hep e he
   ·exact u2 e he) (vs:=cur) (by rw [hlen,f6];exact Nat.mul_le_mul_right _ f5) (by
   intro i e j x hi' hj
   obtain ⟨u,hu,hrep⟩:=qmL (by rw [m1,hn]) hek m4 n4 i e j x hi' hj
   exact ⟨u,by rw [<- Array.getElem?_toList];exact qw1 f7 hu,hrep⟩) (e:=e) (cap:=cap') (by rw [hlen];exact f5) (by rw [f6];exact Nat.le_refl _) f2 f8 f3 f4
  refine ⟨_,w',Γ',f1,d1,d2,?_⟩
  rw [<- hlen]
  exact d3
 unfold zF at h
 split at h
 ·have hsv:=qS hs
  subst hsv
  split at h
  ·rename_i hnn
   cases h
   exact ⟨_,w,Γ,none' none 0 0 (Nat.le_refl _) (isnil hnn),.refl _ _,hi,.v _ rfl⟩
  ·rename_i hnn
   split at h<;>cases h
   rename_i R N hR
   have hne:=nonil hnn
   have hpos:0<xs.length:=List.length_pos_iff.2 hne
   exact fresh none 0 0 [] rfl (λ _=>⟨rfl,rfl⟩) (by omega) hne (λ e he=>by cases he) (λ e he=>by cases he) (.inr rfl) R N (by simpa [qg8] using hR)
 ·rename_i k1 es f
  cases hs with
  | sl _ _ _ a' n cap b o us hn hc hf hkk hpl h00 ha hm hr =>
  split at h
  ·rename_i hnn
   split at h<;>cases h
   rename_i hfp
   exact ⟨_,w,Γ,none' a' n cap (hc (of_decide_eq_true hfp)) (isnil hnn),.refl _ _,hi,.sl k1 es f a' n cap b o us hn hc hf hkk hpl h00 ha hm hr⟩
  ·rename_i hnn
   split at h<;>try cases h
   rename_i hcond
   simp only [Bool.and_eq_true] at hcond
   obtain ⟨⟨hft,hkk1⟩,hun⟩:=hcond
   have hkk1:k1=k:=of_decide_eq_true hkk1
   subst hkk1
   obtain ⟨v1,v2⟩:=qwd hun
   split at h<;>cases h
   rename_i R N hR
   have hne:=nonil hnn
   have hpos:0<xs.length:=List.length_pos_iff.2 hne
   have hft:=of_decide_eq_true hft
   have hcn:=hf hft
   have hc:=hc (Nat.lt_trans Nat.zero_lt_one hft)
   by_cases hes:es=[]
   ·cases a' with
    | none=>exact fresh none n cap es hn (λ _=>by subst hes;simp at hn;omega) (by omega) hne v1 v2 (.inr hes) R N hR
    | some bb=>exact fresh (some bb) n cap es hn (λ h=>by cases h) (by omega) hne v1 v2 (.inr hes) R N hR
   ·have ha2:=ha.resolve_left hes
    subst ha2
    refine fresh _ n cap es hn (λ h=>by cases h) (by omega) hne v1 v2 (.inl λ bb hb=>⟨b,o,by cases hb;rfl,.inr λ i e j x h1 h2=>⟨us i j,?_,hr i e j x h1 h2,(hi.mem _ _ _ (hm i e j x h1 h2)).2⟩⟩) R N hR
    rw [<- Nat.add_assoc]
    exact (hi.mem _ _ _ (hm i e j x h1 h2)).1
 ·rename_i r lo n ep f
  cases hs with
  | rs _ _ _ _ _ a' cap hrn hv hc hf hx2 =>
  split at h
  ·rename_i hnn
   cases h
   exact ⟨_,w,Γ,none' a' n cap hc (isnil hnn),.refl _ _,hi,.rs r lo n ep f a' cap hrn hv hc hf hx2⟩
  ·rename_i hnn
   split at h<;>try cases h
   rename_i R hR
   split at h<;>cases h
   rename_i R' N hap
   have hne:=nonil hnn
   have hpos:0<xs.length:=List.length_pos_iff.2 hne
   simp only [qrH] at hap
   split at hap<;>cases hap
   rename_i hcc
   obtain ⟨c0,c1,c3,c4,c5,hlv,c6,c7⟩:=hcc
   subst c4
   have H:=hi.row r R hR
   obtain ⟨g2,g3⟩:=hx2 (by rw [<- H.ver hlv];exact c1)
   subst c0
   subst c1
   have hcapk : Γ.of r+cap*R.k <= Γ.sz r:=by rw [H.k];simpa using g3
   by_cases hroom:n+xs.length<=cap
   ·have ha':=g2.resolve_left (by omega)
    have hz : Γ.sz r≠0:=by
     intro hz
     have:=Nat.mul_pos (show 0<cap by omega) H.pos
     omega
    obtain ⟨vs,e1,fr,d2,d3,d4,_⟩:=H.blk hz
    rw [<- d3] at hcapk
    simp only [Nat.zero_mul,Nat.add_zero] at ha'
    subst ha'
    have hfit : Γ.of r+n*ie.size+qe.length<=vs.size:=by
     have:=Nat.mul_le_mul_right R.k hroom
     rw [Nat.add_mul] at this
     rw [r3,n1];omega
    have hcells:∀ j,j<qe.length->(w.cell? ⟨Γ.cur r,Γ.of r+n*ie.size+j,none⟩).isSome=true:=by
     intro j hj
     rw [Q0 d2]
     have : Γ.of r+n*ie.size+j<vs.size:=by omega
     rw [Array.getElem?_eq_getElem this];rfl
    have hfroz:∀ j,j<qe.length->w.frozen? ⟨Γ.cur r,Γ.of r+n*ie.size+j,none⟩=false := λ j hj=>qon d2 d4 (by omega)
    have hrun:=run_append_room_src (P:=P) w t u ty e ie p2 r1 (Γ.cur r) (Γ.of r) n cap xv xs.length qe (by rw [r3];exact hsrc) hroom hcells hfroz
    have hset:w.setCells (Γ.cur r) (Γ.of r+n*ie.size) qe=w.setRow (Γ.cur r) (vs.toList.take (Γ.of r+n*ie.size)++qe++vs.toList.drop (Γ.of r+n*ie.size+qe.length)).toArray:=by
     rw [qg7 qe _ vs w d2 hfit,List.append_assoc]
    rw [hset,r3] at hrun
    obtain ⟨Γ',f1,f2,f3⟩:=qDg hi hR hlv u1 u2 n1 n4 hz (by rw [<- c3,<- d3];exact Nat.le_trans (Nat.add_le_add_left (Nat.mul_le_mul_right _ hroom) _) hcapk)
     (w':=w.setRow (Γ.cur r) (vs.toList.take (Γ.of r+n*R.k)++qe++vs.toList.drop (Γ.of r+n*R.k+qe.length)).toArray) (λ vs' e' fr' hv=>by
      rw [d2] at hv
      cases hv
      rw [<- c3]
      exact setRow_heap w _ _ _ _ _ d2) (λ k hk=>setRow_other w _ k _ hk) rfl rfl rfl (by simp) (Nat.le_refl _) (r :: σ.wrr) (cap:=cap) (by rw [<- c3];exact hroom) (by rw [<- d3];exact hcapk)
    rw [<- c3] at f3
    exact ⟨_,_,Γ',hrun,f1,f2,f3⟩
   ·-- no zJ
    have holds:∃ olds:List Value,olds.length=n*R.k/\(∀ bb,a'=some bb->∀ j u,olds[j]? = some u->w.cell? (bb.add j)=some u)/\∀ (i:Nat) (e:List AV) (j:Nat) (x:AV),R.c[i]? = some e->e[j]? = some x->∃ u,olds[i*R.k+j]? = some u/\Rep Γ x u/\u.oneCell'=true:=by
     by_cases hcap0:cap=0
     ·have hn0:n=0:=by omega
      have hc0:R.c=[]:=List.length_eq_zero_iff.1 (by omega)
      exact ⟨[],by simp [hn0],λ _ _ j u hj=>by simp at hj,λ i e j x hi'=>by rw [hc0] at hi';simp at hi'⟩
     ·have ha':=g2.resolve_left hcap0
      subst ha'
      obtain ⟨olds,q1,q2,q3,q4⟩:=qd7 hk0 (b := Γ.cur r) (o := Γ.of r+0 * Γ.k r) H.len (λ i e j x h1 h2=>by
       obtain ⟨v,hv,hv2⟩:=H.cells i e j x h1 h2
       exact ⟨v,by rw [<- hv];congr 2;omega,hv2⟩)
      exact ⟨olds,by rw [c3];exact q1,λ bb hb=>by cases hb;exact q2,q4⟩
    obtain ⟨olds,q1,q2,q4⟩:=holds
    have hanone:a'=none->n=0/\cap=0:=by
     intro ha
     have hc0:cap=0:=by
      rcases g2 with g2 | g2
      ·exact g2
      ·rw [ha] at g2;cases g2
     omega
    obtain ⟨g,cap',cur,w',f1,f2,f3,f4,f5,f6,f7,f8⟩:=grow_any (P:=P) (w:=w) (ty:=ty) p2 r1 r2 r3 r4 hzs a' n cap hanone olds q1 q2 xv xs.length qe hsrc (by omega) (by simp only [maxLen];omega) c6
    obtain ⟨Γ',e1',e2',e3'⟩:=qC2 hi hR hlv (xs:=xs) u1 u2 (vs:=cur) (e:=e) f2 f8 f3 f4 (by rw [<- c3,f6];exact Nat.mul_le_mul_right _ f5)
     (by
      intro i e2 j x hi' hj
      obtain ⟨u,hu,hrep,h1'⟩:=qmL (by rw [q1,c3]) H.len q4 n4 i e2 j x hi' hj
      exact ⟨u,by rw [<- Array.getElem?_toList];exact qw1 f7 hu,hrep,h1'⟩) (r :: σ.wrr) (cap:=cap') (by omega) (by rw [f6];exact Nat.le_refl _)
    rw [<- c3] at e3'
    exact ⟨_,w',Γ',f1,e1',e2',e3'⟩
 ·cases h
theorem que (hC:∀ t d,C.ty t=some d->yM P t=some d) (hi:Inv Γ σ w) {ts:Array TypeId} {ty t u:TypeId} {sv xv:Value} {s y:AV} (hs:Rep Γ s sv) (hy:Rep Γ y xv) {e k bytes:Nat} {z:List Value} (h0:ts[0]? = some t) (h1:ts[1]? = some u) {e' k' b':Nat} {z':List Value} {q1 q2 q3 q4:_} {q5 q6 q7 q8:_}
  (hdt:C.ty t=some ⟨q1,q2,q3,q4,.slice e k bytes z⟩) (hdu:C.ty u=some ⟨q5,q6,q7,q8,.slice e' k' b' z'⟩) (hk0:0<k) (hzl:z.length=k) {xs:List (List AV)} (hx:elems σ.rw k y=some xs) (huni:uni k xs=true) (h:zF k bytes σ s xs=some (x,σ')) :
  ∃ v w' Γ',(Builtin.append_ ts ty #[sv,xv]).run P w = .ok v w'/\Ext Γ w Γ' w'/\Inv Γ' (turn σ σ') w'/\Rep Γ' x v:=by
 obtain ⟨ii',ud',zv',o1,o2,o3,o4,o5,o6,o7,o8⟩:=TD.inv (hC u _ hdu)
 obtain ⟨rfl,_⟩:=JF o8
 obtain ⟨u1,u2⟩:=qwd huni
 obtain ⟨a,m,c,rfl,rfl,hcell⟩:=qv5 hi hy hx hk0 u1
 rcases hcell with rfl | ⟨b,o,rfl,hcell⟩
 ·have hf:∀ w':World,(Builtin.firstCells k 0 (.slice a 0 c)).run P w' = .ok #[] w' := λ w'=>by
    cases a with
    | none=>simp [Builtin.firstCells]
    | some a'=>simp [Builtin.firstCells,loadCells,loadCellsFrom]
  exact qjR hC hi hs h0 h1 hdt hk0 hzl u1 u2 (qe:=[]) ⟨.inl ⟨_,o2⟩,λ _=>rfl,hf w,hf _,by simp,λ _ h=>by cases h⟩ (λ i e j x h=>by simp at h) h
 ·obtain ⟨qe,n1,n2,n3,n4⟩:=qd7 hk0 u1 hcell
  exact qjR hC hi hs h0 h1 hdt hk0 hzl u1 u2 (Src.ofSlice w o2 _ _ c qe n1 n2 n3) n4 h
theorem quV (hC:∀ t d,C.ty t=some d->yM P t=some d) (hi:Inv Γ σ w) {ts:Array TypeId} {ty t u:TypeId} {sv:Value} {s:AV} {b:ByteArray} (hs:Rep Γ s sv) {e bytes:Nat} {z:List Value} (h0:ts[0]? = some t) (h1:ts[1]? = some u) {q1 q2 q3 q4:_} {q5 q6 q7 q8:_}
  (hdt:C.ty t=some ⟨q1,q2,q3,q4,.slice e 1 bytes z⟩) (hdu:C.ty u=some ⟨q5,q6,q7,q8,.string⟩) (hzl:z.length=1) (h:zF 1 bytes σ s (qaa b)=some (x,σ')) :
  ∃ v w' Γ',(Builtin.append_ ts ty #[sv,.string b]).run P w = .ok v w'/\Ext Γ w Γ' w'/\Inv Γ' (turn σ σ') w'/\Rep Γ' x v:=by
 obtain ⟨ii',ud',zv',o1,o2,o3,o4,o5,o6,o7,o8⟩:=TD.inv (hC u _ hdu)
 have:=qdQ o8
 subst this
 refine qjR hC hi hs h0 h1 hdt (Nat.succ_pos 0) hzl (λ e he=>qrq he) (λ e he=>qmF he) (qe:=byteCells b) (by rw [qgl];exact Src.ofString w o2 b) (λ i e j x hi' hj=>?_) h
 obtain ⟨rfl,c,hc,rfl⟩:=qrl hi' hj
 refine ⟨.int .u8 c.toNat,?_,.v _ rfl,rfl⟩
 show (b.data.toList.map λ b=>Value.int .u8 b.toNat)[i*1+0]? = _
 rw [Nat.mul_one,Nat.add_zero,List.getElem?_map,hc];rfl
end
end Go.AmZ
namespace Go.AmZ
open Go Go.RowKit
theorem qmi:∀ cs:List AV,rbL cs=cs.flatMap rb
 | []=>rfl
 | x::cs=>by simp only [rbL,List.flatMap_cons,qmi cs]
theorem qje:∀ cs:List AV,rrL cs=cs.flatMap rr
 | []=>rfl
 | x::cs=>by simp only [rrL,List.flatMap_cons,qje cs]
theorem qnd (fb fr:Nat->Nat):∀ cs:List AV,qO fb fr cs=cs.map (ren fb fr)
 | []=>rfl
 | x::cs=>by simp only [qO,List.map_cons,qnd fb fr cs]
theorem qdS {fb fr:Nat->Nat} {x:AV} (h:qt x=true):ren fb fr x=x/\rb x=[]/\rr x=[]:=by
 cases x<;>first | exact ⟨rfl,rfl,rfl⟩ | (simp [qt] at h)
theorem qlH {n m:Nat} {x:AV}:refs n m x=false↔(∀ b∈rb x,b<n)/\∀ r∈rr x,r<m:=by
 simp [refs]
theorem Rep.bound {Γ : Gh} {x:AV} {u:Value} (h:Rep Γ x u):(∀ b∈rb x,b < Γ.nb)/\∀ r∈rr x,r < Γ.nr:=by
 have lists:∀ (cs:List AV) (us:List Value),us.length=cs.length->(∀ (i:Nat) (x:AV) (u:Value),cs[i]? = some x->us[i]? = some u->(∀ b∈rb x,b < Γ.nb)/\∀ r∈rr x,r < Γ.nr)->(∀ b∈rbL cs,b < Γ.nb)/\∀ r∈rrL cs,r < Γ.nr:=by
  intro cs us hn ih
  have get:∀ x∈cs,(∀ b∈rb x,b < Γ.nb)/\∀ r∈rr x,r < Γ.nr:=by
   intro x hx
   obtain ⟨i,hi⟩:=List.getElem?_of_mem hx
   have hlt:i<us.length:=by rw [hn];exact getElem?_lt hi
   exact ih i x _ hi (List.getElem?_eq_getElem hlt)
  rw [qmi,qje]
  refine ⟨λ b hb=>?_,λ r hr=>?_⟩
  ·obtain ⟨x,hx,hb⟩:=List.mem_flatMap.1 hb;exact (get x hx).1 b hb
  ·obtain ⟨x,hx,hr⟩:=List.mem_flatMap.1 hr;exact (get x hx).2 r hr
 induction h with
 | v | dead | sl | ept=>exact ⟨λ b hb=>by simp [rb] at hb,λ r hr=>by simp [rr] at hr⟩
 | rs r lo n ep f a cap hr=>exact ⟨λ b hb=>by simp [rb] at hb,λ r hr=>by simp [rr] at hr;subst hr;assumption⟩
 | rpt r i o ep A hr=>exact ⟨λ b hb=>by simp [rb] at hb,λ r hr=>by simp [rr] at hr;subst hr;assumption⟩
 | ptr b o h=>exact ⟨λ b hb=>by simp [rb] at hb;subst hb;exact h,λ r hr=>by simp [rr] at hr⟩
 | fn f cs us hn hr ih=>exact lists cs us hn ih
 | agg cs us hn h1 hr ih=>exact lists cs us hn ih
 | tup cs us hn hr ih=>exact lists cs us hn ih
theorem Rep.noRefs {Γ : Gh} {x:AV} {u:Value} (h:Rep Γ x u):refs Γ.nb Γ.nr x=false:=qlH.2 h.bound
theorem qnq {Γ Γ':Gh} {fb fr:Nat->Nat} (hm:∀ b o u,Γ.mem b o=some u -> Γ'.mem b o=some u) {x:AV} {u:Value} (h:Rep Γ x u)
  (hb:∀ b∈rb x,fb b < Γ'.nb /\ Γ'.β (fb b) = Γ.β b)
  (hr:∀ r∈rr x,fr r < Γ'.nr /\ Γ'.k (fr r) = Γ.k r /\ Γ'.ver (fr r) = Γ.ver r /\ Γ'.cur (fr r) = Γ.cur r /\ Γ'.sz (fr r) = Γ.sz r /\ Γ'.of (fr r) = Γ.of r):Rep Γ' (ren fb fr x) u:=by
 have lists:∀ (cs:List AV) (us:List Value),us.length=cs.length->(∀ b∈rbL cs,fb b < Γ'.nb /\ Γ'.β (fb b) = Γ.β b) ->
   (∀ r∈rrL cs,fr r < Γ'.nr /\ Γ'.k (fr r) = Γ.k r /\ Γ'.ver (fr r) = Γ.ver r /\ Γ'.cur (fr r) = Γ.cur r /\ Γ'.sz (fr r) = Γ.sz r /\ Γ'.of (fr r) = Γ.of r) ->
   (∀ (i:Nat) (x:AV) (u:Value),cs[i]? = some x->us[i]? = some u->(∀ b∈rb x,fb b < Γ'.nb /\ Γ'.β (fb b) = Γ.β b)->(∀ r∈rr x,fr r < Γ'.nr /\ Γ'.k (fr r) = Γ.k r /\ Γ'.ver (fr r) = Γ.ver r /\ Γ'.cur (fr r) = Γ.cur r /\ Γ'.sz (fr r) = Γ.sz r /\ Γ'.of (fr r) = Γ.of r)->Rep Γ' (ren fb fr x) u) ->
   RepL Γ' (qO fb fr cs) us:=by
  intro cs us hn hb hr ih
  rw [qnd]
  rw [qmi] at hb
  rw [qje] at hr
  refine ⟨by simpa using hn,λ i y u hy hu=>?_⟩
  rw [List.getElem?_map] at hy
  cases hx:cs[i]? with
  | none=>rw [hx] at hy;cases hy
  | some x =>
    rw [hx] at hy;cases hy
    have hmem:=List.mem_of_getElem? hx
    exact ih i x u hx hu (λ b h=>hb b (List.mem_flatMap.2 ⟨x,hmem,h⟩)) (λ r h=>hr r (List.mem_flatMap.2 ⟨x,hmem,h⟩))
 induction h with
 | v _ h=>exact .v _ h
 | dead u=>exact .dead u
 | sl k es f a n cap b o us hn hc hf hk hp h0 ha hm' hr' ih =>
   refine .sl k es f a n cap b o us hn hc hf hk hp h0 ha (λ i e j x h1 h2=>hm _ _ _ (hm' i e j x h1 h2)) λ i e j x h1 h2=>?_
   have hpl:=hp e (List.mem_of_getElem? h1) x (List.mem_of_getElem? h2)
   obtain ⟨e1,e2,e3⟩:=qdS (fb:=fb) (fr:=fr) hpl
   have:=ih i e j x h1 h2 (by rw [e2];intro b hb;cases hb) (by rw [e3];intro r hr;cases hr)
   rw [e1] at this
   exact this
 | rs r lo n ep f a cap hrn hv hc hf hx =>
   obtain ⟨g1,g2,g3,g4,g5,g6⟩:=hr r (by simp [rr])
   refine .rs _ _ _ _ _ _ _ g1 (by rw [g3];exact hv) hc hf λ hml=>?_
   rw [g4,g2,g5,g6]
   exact hx (g3▸hml)
 | ptr b o h =>
   obtain ⟨g1,g2⟩:=hb b (by simp [rb])
   rw [<- g2]
   exact .ptr _ _ g1
 | rpt r i o ep A hrn hv hx =>
   obtain ⟨g1,g2,g3,g4,g5,g6⟩:=hr r (by simp [rr])
   refine .rpt _ _ _ _ _ g1 (by rw [g3];exact hv) λ hml=>?_
   rw [g4,g2,g6]
   exact hx (g3▸hml)
 | ept cs o b o' us hp hm' hr' ih =>
   refine .ept cs o b o' us hp (λ j x h=>hm _ _ _ (hm' j x h)) λ j x h=>?_
   have hpl:=hp x (List.mem_of_getElem? h)
   obtain ⟨e1,e2,e3⟩:=qdS (fb:=fb) (fr:=fr) hpl
   have:=ih j x h (by rw [e2];intro b hb;cases hb) (by rw [e3];intro r hr;cases hr)
   rw [e1] at this
   exact this
 | fn f cs us hn h ih =>
   have:=lists cs us hn hb hr ih
   exact .fn f _ us this.len this.rep
 | agg cs us hn h1 h ih =>
   have:=lists cs us hn hb hr ih
   exact .agg _ us this.len h1 this.rep
 | tup cs us hn h ih =>
   have:=lists cs us hn hb hr ih
   exact .tup _ us this.len this.rep
mutual
theorem qwU:∀ x:AV,ren (λ b=>b) (λ r=>r) x=x
 | .ptr b o=>rfl
 | .rs .. => rfl
 | .rpt .. => rfl
 | .fn f cs=>by simp only [ren,qnr cs]
 | .agg cs=>by simp only [ren,qnr cs]
 | .tup cs=>by simp only [ren,qnr cs]
 | .v _=>rfl
 | .dead=>rfl
 | .sl .. => rfl
 | .ept .. => rfl
theorem qnr:∀ cs:List AV,qO (λ b=>b) (λ r=>r) cs=cs
 | []=>rfl
 | x::cs=>by simp only [qO,qwU x,qnr cs]
end
theorem Rep.cut {Γ : Gh} {n m:Nat} {x:AV} {u:Value} (h:Rep Γ x u) (hr:refs n m x=false):Rep { Γ with nb:=n,nr:=m } x u:=by
 obtain ⟨h1,h2⟩:=qlH.1 hr
 have:=qnq (Γ := Γ) (Γ':={ Γ with nb:=n,nr:=m }) (fb := λ b=>b) (fr := λ r=>r) (λ _ _ _ h=>h) h (λ b hb=>⟨h1 b hb,rfl⟩) (λ r hr=>⟨h2 r hr,rfl,rfl,rfl,rfl,rfl⟩)
 rw [qwU] at this
 exact this
theorem Inv.wr {Γ : Gh} {σ : St} {w:World} (h:Inv Γ σ w) {σ':St} (hb : σ'.bx = σ.bx) (hr : σ'.rw = σ.rw):Inv Γ σ' w :=
 ⟨by rw [hb];exact h.nb,by rw [hr];exact h.nr,h.mem,by rw [hb];exact h.box,h.inj,h.boxmem,by rw [hr];exact h.row,h.apart⟩
theorem qtU {α : Type} {l:List α} {n i:Nat} {x : α} (h:(l.take n)[i]? = some x):i<n/\l[i]? = some x:=by
 rw [List.getElem?_take] at h
 split at h
 ·exact ⟨‹_›,h⟩
 ·cases h
theorem Inv.cut {Γ : Gh} {σ : St} {w:World} (h:Inv Γ σ w) {n m:Nat} (hn:n <= Γ.nb) (hm:m <= Γ.nr) (hc:∀ i cs,i<n -> σ.bx[i]? = some cs->∀ x∈cs,Go.AmZ.refs n m x=false) (wl wrl:List Nat):Inv { Γ with nb:=n,nr:=m } ⟨σ.bx.take n,σ.rw.take m,wl,wrl⟩ w where
 nb:=by show n=(σ.bx.take n).length;rw [List.length_take,<- h.nb];omega
 nr:=by show m=(σ.rw.take m).length;rw [List.length_take,<- h.nr];omega
 mem:=h.mem
 box := λ i cs hi=>by
  obtain ⟨hlt,hi'⟩:=qtU hi
  obtain ⟨vs,e,g1,g2,g3⟩:=h.box i cs hi'
  exact ⟨vs,e,g1,⟨g2.len,λ j x u hx hu=>(g2.rep j x u hx hu).cut (hc i cs hlt hi' x (List.mem_of_getElem? hx))⟩,g3⟩
 inj := λ i j hi hj=>h.inj i j (Nat.lt_of_lt_of_le hi hn) (Nat.lt_of_lt_of_le hj hn)
 boxmem := λ i hi=>h.boxmem i (Nat.lt_of_lt_of_le hi hn)
 row := λ r R hr=>by
  obtain ⟨hlt,hr'⟩:=qtU hr
  obtain ⟨k,ver,pos,len,pl,fz,g2,g4,g5,g6,g8,g9⟩:=h.row r R hr'
  have cutp:∀ {x:AV} {u:Value} {e:List AV},e∈R.c->x∈e->Rep Γ x u->Rep { Γ with nb:=n,nr:=m } x u := λ he hx hrep=>hrep.cut (by
   obtain ⟨_,e2,e3⟩:=qdS (fb:=id) (fr:=id) (pl _ he _ hx)
   rw [qlH,e2,e3]
   exact ⟨λ b hb=>(List.not_mem_nil hb).elim,λ b hb=>(List.not_mem_nil hb).elim⟩)
  refine ⟨k,ver,pos,len,pl,fz,g2,g4,g5,λ i e j x hi hj=>?_,λ hz i hi=>g8 hz i (Nat.lt_of_lt_of_le hi hn),g9⟩
  obtain ⟨u,hu,hrep,h1⟩:=g6 i e j x hi hj
  exact ⟨u,hu,cutp (List.mem_of_getElem? hi) (List.mem_of_getElem? hj) hrep,h1⟩
 apart := λ r r' hr hr'=>h.apart r r' (Nat.lt_of_lt_of_le hr hm) (Nat.lt_of_lt_of_le hr' hm)
structure qM (σ σ':St):Prop where
 bl : σ.bx.length <= σ'.bx.length
 rl : σ.rw.length <= σ'.rw.length
 bx:∀ i,i < σ.bx.length->i ∉ σ'.wr -> σ'.bx[i]? = σ.bx[i]?
 rw:∀ i,i < σ.rw.length->i ∉ σ'.wrr -> σ'.rw[i]? = σ.rw[i]?
 wr:∀ i,i ∈ σ.wr->i ∈ σ'.wr
 wrr:∀ i,i ∈ σ.wrr->i ∈ σ'.wrr
theorem qM.refl (σ : St):qM σ σ := ⟨Nat.le_refl _,Nat.le_refl _,λ _ _ _=>rfl,λ _ _ _=>rfl,λ _ h=>h,λ _ h=>h⟩
theorem qM.trans {a b c:St} (h:qM a b) (g:qM b c):qM a c :=
 ⟨Nat.le_trans h.bl g.bl,Nat.le_trans h.rl g.rl,λ i hi hn=>(g.bx i (Nat.lt_of_lt_of_le hi h.bl) hn).trans (h.bx i hi λ hh=>hn (g.wr i hh)),λ i hi hn=>(g.rw i (Nat.lt_of_lt_of_le hi h.rl) hn).trans (h.rw i hi λ hh=>hn (g.wrr i hh)),λ i hi=>g.wr i (h.wr i hi),λ i hi=>g.wrr i (h.wrr i hi)⟩
theorem qy7:∀ (rs:List Nat) (rw:List Row),(frz rw rs).length=rw.length
 | [],rw=>rfl
 | r::rs,rw=>by
   show (frz (rw.modify r qfN) rs).length=_
   rw [qy7 rs,List.length_modify]
theorem qi8:∀ (rs:List Nat) (rw:List Row) (i:Nat),i ∉ rs->(frz rw rs)[i]? = rw[i]?
 | [],rw,i,_=>rfl
 | r::rs,rw,i,h=>by
   show (frz (rw.modify r qfN) rs)[i]? = _
   rw [qi8 rs _ i λ hh=>h (List.mem_cons_of_mem _ hh),List.getElem?_modify]
   cases hx:rw[i]? with
   | none=>rfl
   | some x =>
     show some (if r=i then qfN x else x)=some x
     rw [if_neg λ he=>h (by rw [he];exact List.mem_cons_self ..)]
theorem qzq {Γ : Gh} {σ : St} {w:World} (hi:Inv Γ σ w) {m:Nat->Nat->Option Value} (hl:Le Γ { Γ with mem:=m }) {nr:Nat} {y:AV} {u:Value} (hf:∀ r∈rr y,nr<=r->∀ R,σ.rw[r]? = some R->js { Γ with mem:=m } r R) (hr:Rep Γ y u):Rep { Γ with mem:=m } (qo8 nr σ.rw y) u:=by
 cases y with
 | sl k es f=>exact qjA (y := .sl k es f) hi hl (λ r hr=>by simp [rsC] at hr) hr
 | rs r lo n ep f =>
   simp only [qo8]
   split
   ·rename_i hn
    refine qjA (y := .rs r lo n ep f) hi hl (λ r' hr' R hR=>?_) hr
    simp only [rsC,List.mem_singleton] at hr'
    subst hr'
    exact hf r' (by simp [rr]) (of_decide_eq_true hn) R hR
   ·exact hr.mono hl
 | _=>exact hr.mono hl
theorem qwx {Γ : Gh} {σ : St} {w:World} (hi:Inv Γ σ w) {m:Nat->Nat->Option Value} (hl:Le Γ { Γ with mem:=m }) {nr:Nat} {pub:AV->AV} {cs:List AV} {us:List Value} (hp:∀ y u,(∀ r∈rr y,nr<=r->∀ R,σ.rw[r]? = some R->js { Γ with mem:=m } r R)->Rep Γ y u->Rep { Γ with mem:=m } (pub y) u)
  (hf:∀ r∈rrL cs,nr<=r->∀ R,σ.rw[r]? = some R->js { Γ with mem:=m } r R) (hr:RepL Γ cs us):RepL { Γ with mem:=m } (cs.map pub) us:=by
 refine ⟨by simpa using hr.len,λ i x u hx hu=>?_⟩
 rw [List.getElem?_map] at hx
 cases h:cs[i]? with
 | none=>rw [h] at hx;cases hx
 | some y =>
   rw [h] at hx;cases hx
   refine hp y u (λ r hr'=>hf r ?_) (hr.rep i y u h hu)
   rw [qje]
   exact List.mem_flatMap.2 ⟨y,List.mem_of_getElem? h,hr'⟩
theorem qyK {Γ : Gh} {σ : St} {w:World} (hi:Inv Γ σ w) {m:Nat->Nat->Option Value} (hl:Le Γ { Γ with mem:=m }) {nr:Nat} {y:AV} {u:Value} (hf:∀ r∈rr y,nr<=r->∀ R,σ.rw[r]? = some R->js { Γ with mem:=m } r R) (hr:Rep Γ y u):Rep { Γ with mem:=m } (qfS nr σ.rw y) u:=by
 cases y with
 | agg cs =>
   cases hr with
   | agg _ us h1 h2 h3 =>
     have:=qwx hi hl (pub:=qo8 nr σ.rw) (λ y u=>qzq hi hl) (by simpa [rr] using hf) ⟨h1,h3⟩
     exact .agg _ us this.len h2 this.rep
 | _=>exact qzq hi hl hf hr
theorem qFL {Γ : Gh} {σ : St} {w:World} (hi:Inv Γ σ w) {m:Nat->Nat->Option Value} (hl:Le Γ { Γ with mem:=m }) {nr:Nat} {y:AV} {u:Value} (hf:∀ r∈rr y,nr<=r->∀ R,σ.rw[r]? = some R->js { Γ with mem:=m } r R) (hr:Rep Γ y u):Rep { Γ with mem:=m } (qeY nr σ.rw y) u:=by
 cases y with
 | tup cs =>
   cases hr with
   | tup _ us h1 h3 =>
     have:=qwx hi hl (pub:=qfS nr σ.rw) (λ y u=>qyK hi hl) (by simpa [rr] using hf) ⟨h1,h3⟩
     exact .tup _ us this.len this.rep
 | _=>exact qyK hi hl hf hr
theorem filter_nil {p:Nat->Bool} {l:List Nat} (h:l.filter p=[]) {i:Nat} (hp:p i=true):i ∉ l := λ hm=>by
 have:i∈l.filter p:=List.mem_filter.2 ⟨hm,hp⟩
 rw [h] at this;cases this
theorem qBe {Γ Γ':Gh} {σ σ':St} {w w':World} {res:AV} {v:Value} (h0:Inv Γ σ w) (hx:Ext Γ w Γ' w') (hi:Inv Γ' σ' w') (hk:qM { σ with wr:=[],wrr:=[] } σ') (hr:Rep Γ' res v) :
  (∃ Γ2,Ext Γ w Γ2 w'/\Inv Γ2 (turn σ (JS σ res σ').2) w'/\Rep Γ2 (JS σ res σ').1 v)/\qM { σ with wr:=[],wrr:=[] } (turn { σ with wr:=[],wrr:=[] } (JS σ res σ').2):=by
 have hwrN:∀ i,i < σ.bx.length->i ∉ (σ'.wr.filter λ b=>decide (b < σ.bx.length))->i ∉ σ'.wr := λ i hi hn hm=>hn (List.mem_filter.2 ⟨hm,by simpa using hi⟩)
 have hwrrN:∀ i,i < σ.rw.length->i ∉ (σ'.wrr.filter λ b=>decide (b < σ.rw.length))->i ∉ σ'.wrr := λ i hi hn hm=>hn (List.mem_filter.2 ⟨hm,by simpa using hi⟩)
 unfold JS
 split
 ·refine ⟨⟨Γ',hx,hi.wr rfl rfl,hr⟩,⟨hk.bl,hk.rl,λ i hi hn=>hk.bx i hi (hwrN i hi hn),λ i hi hn=>hk.rw i hi (hwrrN i hi hn),λ i h=>(by cases h),λ i h=>(by cases h)⟩⟩
 ·rename_i hkeep
  simp only [qj4,Bool.or_eq_false_iff] at hkeep
  obtain ⟨hk1,hk2⟩:=hkeep
  obtain ⟨m,m1,m2,m3⟩:=qa0 ((rr res).filter λ r=>decide (σ.rw.length<=r)) hi σ'.wrr
  have hpub:Rep { Γ' with mem:=m } (qeY σ.rw.length σ'.rw res) v:=qFL hi m1.le (λ r hr' hge R hR=>m3 r (List.mem_filter.2 ⟨hr',by simpa using hge⟩) R hR) hr
  have hnb : σ.bx.length <= Γ'.nb:=by rw [hi.nb];exact hk.bl
  have hnr : σ.rw.length <= Γ'.nr:=by rw [hi.nr];exact hk.rl
  have hcut:=m2.cut (n := σ.bx.length) (m := σ.rw.length) hnb hnr (by
   intro i cs hlt hcs x hxm
   have hcs : σ'.bx[i]? = some cs:=hcs
   by_cases hw:i ∈ σ'.wr
   ·have hm:i∈(σ'.wr.filter λ b=>decide (b < σ.bx.length)):=List.mem_filter.2 ⟨hw,by simpa using hlt⟩
    have:=List.any_eq_false.1 hk2 i hm
    have hget : σ'.bx.getD i []=cs:=by rw [List.getD_eq_getElem?_getD,hcs];rfl
    rw [hget] at this
    have h2:=List.any_eq_false.1 (by simpa using this) x hxm
    simpa using h2
   ·rw [hk.bx i hlt hw] at hcs
    obtain ⟨vs,e,g1,g2,g3⟩:=h0.box i cs hcs
    obtain ⟨j,hj⟩:=List.getElem?_of_mem hxm
    obtain ⟨u,hu,hrep⟩:=g2.get hj
    have:=hrep.noRefs
    rw [h0.nb,h0.nr] at this
    exact this) [] []
  have htake:(frz σ'.rw ((rr res).filter λ r=>decide (σ.rw.length<=r))).take σ.rw.length = σ'.rw.take σ.rw.length:=by
   apply List.ext_getElem?
   intro i
   rw [List.getElem?_take,List.getElem?_take]
   split
   ·rename_i hlt
    refine qi8 _ _ _ λ hm=>?_
    have:=(List.mem_filter.1 hm).2
    simp at this
    omega
   ·rfl
  have hcut':Inv { ({ Γ' with mem:=m }:Gh) with nb := σ.bx.length,nr := σ.rw.length } ⟨σ'.bx.take σ.bx.length,σ'.rw.take σ.rw.length,[],[]⟩ w':=by
   rw [<- htake];exact hcut
  have hrep2:=hpub.cut hk1
  have hext:Ext Γ w { ({ Γ' with mem:=m }:Gh) with nb := σ.bx.length,nr := σ.rw.length } w':=by
   have e1:=hx.trans (qja m1 w')
   refine ⟨⟨e1.le.mem,by rw [h0.nb];exact Nat.le_refl _,e1.le.β,by rw [h0.nr];exact Nat.le_refl _,e1.le.k,e1.le.ver,e1.le.loc⟩,e1.os,e1.tape,e1.output,e1.size,e1.block,?_,e1.memg,e1.drawn⟩
   rintro b (⟨i,hi',hb⟩ | ⟨r,hr',hz,hb⟩)
   ·exact e1.own b (.inl ⟨i,Nat.lt_of_lt_of_le hi' hnb,hb⟩)
   ·exact e1.own b (.inr ⟨r,Nat.lt_of_lt_of_le hr' hnr,hz,hb⟩)
  split
  ·rename_i hnil
   have hn1:(σ'.wr.filter λ b=>decide (b < σ.bx.length))=[]:=(List.append_eq_nil_iff.1 hnil).1
   have hn2:(σ'.wrr.filter λ b=>decide (b < σ.rw.length))=[]:=(List.append_eq_nil_iff.1 hnil).2
   have hb : σ'.bx.take σ.bx.length = σ.bx:=by
    apply List.ext_getElem?
    intro i
    rw [List.getElem?_take]
    split
    ·rename_i hlt
     exact hk.bx i hlt (filter_nil hn1 (by simpa using hlt))
    ·rename_i hlt
     rw [List.getElem?_eq_none (by omega)]
   have hrw : σ'.rw.take σ.rw.length = σ.rw:=by
    apply List.ext_getElem?
    intro i
    rw [List.getElem?_take]
    split
    ·rename_i hlt
     exact hk.rw i hlt (filter_nil hn2 (by simpa using hlt))
    ·rename_i hlt
     rw [List.getElem?_eq_none (by omega)]
   refine ⟨⟨_,hext,?_,hrep2⟩,qM.refl _⟩
   exact hcut'.wr hb.symm hrw.symm
  ·refine ⟨⟨_,hext,hcut'.wr rfl rfl,hrep2⟩,⟨?_,?_,λ i hi hn=>?_,λ i hi hn=>?_,λ i h=>(by cases h),λ i h=>(by cases h)⟩⟩
   ·show σ.bx.length<=(σ'.bx.take σ.bx.length).length
    have:=hk.bl
    have : σ.bx.length <= σ'.bx.length:=this
    rw [List.length_take];omega
   ·show σ.rw.length<=(σ'.rw.take σ.rw.length).length
    have : σ.rw.length <= σ'.rw.length:=hk.rl
    rw [List.length_take];omega
   ·show (σ'.bx.take σ.bx.length)[i]? = σ.bx[i]?
    rw [List.getElem?_take,if_pos hi]
    exact hk.bx i hi (hwrN i hi hn)
   ·show (σ'.rw.take σ.rw.length)[i]? = σ.rw[i]?
    rw [List.getElem?_take,if_pos hi]
    exact hk.rw i hi (hwrrN i hi hn)
end Go.AmZ
namespace Go.AmZ
open Go Go.RowKit
theorem qoZ:∀ {l:List Nat},nd l=true->l.Nodup
 | [],_=>List.nodup_nil
 | b::l,h=>by
   simp only [nd,Bool.and_eq_true,Bool.not_eq_true',List.contains_eq_mem] at h
   exact List.nodup_cons.2 ⟨by simpa using h.1,qoZ h.2⟩
theorem qpi {l:List Nat} {b:Nat} (h:b∈l):l.getD (l.idxOf b) 0=b:=by
 have:=List.idxOf_lt_length_of_mem h
 rw [List.getD_eq_getElem?_getD,List.getElem?_eq_getElem this]
 simp
theorem qri {l:List Nat} {b:Nat} (h:b∈l):l.idxOf b<l.length:=List.idxOf_lt_length_of_mem h
theorem qni {l:List Nat} (hn:l.Nodup) {j b:Nat} (h:l[j]? = some b):l.idxOf b=j:=by
 obtain ⟨hj,he⟩:=List.getElem?_eq_some_iff.1 h
 subst he
 exact List.Nodup.idxOf_getElem hn j hj
theorem qtD {l:List Nat} (hn:l.Nodup) {i j:Nat} (hi:i<l.length) (hj:j<l.length) (h:l[i]=l[j]):i=j:=by
 rw [<- qni hn (List.getElem?_eq_getElem hi),<- qni hn (List.getElem?_eq_getElem hj),h]
def fi (l:List Nat) (n i:Nat):Option Nat:=if i<n then (if i∈l then some (l.idxOf i) else none) else some (l.length+(i-n))
theorem qaG {l:List Nat} {n i:Nat} (h:fi l n i=none):i<n/\i ∉ l:=by
 unfold fi at h
 split at h
 ·split at h
  ·cases h
  ·exact ⟨‹_›,‹_›⟩
 ·cases h
theorem qaL {l:List Nat} {n i j:Nat} (h:fi l n i=some j) (hi:i<n):i∈l/\j=l.idxOf i/\j<l.length/\l.getD j 0=i:=by
 unfold fi at h
 rw [if_pos hi] at h
 split at h<;>cases h
 rename_i hm
 exact ⟨hm,rfl,qri hm,qpi hm⟩
theorem qCc {l:List Nat} {n i i' j:Nat} (h:fi l n i=some j) (h':fi l n i'=some j):i=i':=by
 by_cases hi:i<n<;>by_cases hi':i'<n
 ·rw [<- (qaL h hi).2.2.2,<- (qaL h' hi').2.2.2]
 ·have:=(qaL h hi).2.2.1
  unfold fi at h'
  rw [if_neg hi'] at h'
  cases h';omega
 ·have:=(qaL h' hi').2.2.1
  unfold fi at h
  rw [if_neg hi] at h
  cases h;omega
 ·unfold fi at h h'
  rw [if_neg hi] at h
  rw [if_neg hi'] at h'
  cases h;simp at h';omega
theorem qy0 {l:List Nat} (hn:l.Nodup) {n:Nat} (hl:∀ b∈l,b<n) (j:Nat):fi l n (zl l n j)=some j:=by
 unfold zl
 split
 ·rename_i b hb
  have hm:=List.mem_of_getElem? hb
  unfold fi
  rw [if_pos (hl b hm),if_pos hm,qni hn hb]
 ·rename_i hb
  have:=List.getElem?_eq_none_iff.1 hb
  unfold fi
  rw [if_neg (by omega)]
  congr 1;omega
theorem qyF {l:List Nat} {n e j:Nat} (hl:∀ b∈l,b<n) (hj:j<l.length+e):zl l n j<n+e:=by
 unfold zl
 split
 ·rename_i b hb
  have:=hl b (List.mem_of_getElem? hb);omega
 ·rename_i hb
  have:=List.getElem?_eq_none_iff.1 hb
  omega
theorem qke {l:List Nat} {n b:Nat} (h:b∈l):zl l n (l.idxOf b)=b:=by
 unfold zl
 have:=qri h
 rw [List.getElem?_eq_getElem this]
 simp
theorem qcO {α : Type}:∀ (bs:List Nat) (l xs:List α),bs.length<=xs.length->(zu l bs xs).length=l.length+(xs.length-bs.length)
 | [],l,xs,_=>by simp [zu]
 | b::bs,l,[],h=>by simp at h
 | b::bs,l,x::xs,h=>by
   simp only [zu]
   rw [qcO bs _ xs (by simpa using h),List.length_set]
   simp
theorem Jj {α : Type}:∀ (bs:List Nat) (l xs:List α) (i:Nat),bs.length<=xs.length->bs.Nodup->(∀ b∈bs,b<l.length)->(zu l bs xs)[i]? = match fi bs l.length i with
  | some j=>xs[j]?
  | none=>l[i]?
 | [],l,xs,i,_,_,_=>by
   simp only [zu,fi]
   rw [List.getElem?_append]
   split<;>simp_all
 | b::bs,l,[],i,h,_,_=>by simp at h
 | b::bs,l,x::xs,i,h,hn,hl=>by
   simp only [zu]
   obtain ⟨hn1,hn2⟩:=List.nodup_cons.1 hn
   rw [Jj bs (l.set b x) xs i (by simpa using h) hn2 (λ b' h'=>by rw [List.length_set];exact hl b' (List.mem_cons_of_mem _ h')),List.length_set]
   have hbl:=hl b (List.mem_cons_self ..)
   unfold fi
   by_cases hi:i<l.length
   ·rw [if_pos hi,if_pos hi]
    by_cases hib:i=b
    ·subst hib
     rw [if_neg hn1,if_pos (List.mem_cons_self ..)]
     simp [hbl]
    ·by_cases hm:i∈bs
     ·rw [if_pos hm,if_pos (List.mem_cons_of_mem _ hm)]
      simp only
      rw [List.idxOf_cons,show (b==i)=false by simpa using λ e=>hib e.symm]
      rfl
     ·rw [if_neg hm,if_neg (by simp [hib,hm])]
      simp only
      rw [List.getElem?_set,if_neg λ e=>hib e.symm]
   ·rw [if_neg hi,if_neg hi]
    simp only [List.length_cons]
    rw [show bs.length+1+(i-l.length)=(bs.length+(i-l.length))+1 by omega]
    rfl
def QN (Γ : Gh) (bs rs:List Nat):Gh :=
 { mem := Γ.mem,nb:=bs.length,β := λ i => Γ.β (bs.getD i 0),nr:=rs.length,ver := λ r => Γ.ver (rs.getD r 0),k := λ r => Γ.k (rs.getD r 0),cur := λ r => Γ.cur (rs.getD r 0),sz := λ r => Γ.sz (rs.getD r 0),of := λ r => Γ.of (rs.getD r 0) }
structure qcR (σ : St) (bs rs:List Nat):Prop where
 bn:bs.Nodup
 rn:rs.Nodup
 bl:∀ b∈bs,b < σ.bx.length
 rl:∀ r∈rs,r < σ.rw.length
 cb:∀ b∈bs,∀ x ∈ σ.bx.getD b [],(∀ b∈rb x,b∈bs)/\∀ r∈rr x,r∈rs
theorem zC {α : Type} {l:List α} {i:Nat} {x d : α} (h:l[i]? = some x):l.getD i d=x:=by rw [List.getD_eq_getElem?_getD,h];rfl
section
variable {Γ : Gh} {σ : St} {w:World} {bs rs:List Nat}
theorem qs8 (hs:qcR σ bs rs) {x:AV} {u:Value} (h:Rep Γ x u) (hb:∀ b∈rb x,b∈bs) (hr:∀ r∈rr x,r∈rs):Rep (QN Γ bs rs) (ren (λ b=>bs.idxOf b) (λ r=>rs.idxOf r) x) u :=
 qnq (Γ := Γ) (Γ':=QN Γ bs rs) (λ _ _ _ h=>h) h (λ b h=>⟨qri (hb b h),by show Γ.β _=_;rw [qpi (hb b h)]⟩) λ r h=>by
  have e:=qpi (hr r h)
  refine ⟨qri (hr r h),?_,?_,?_,?_,?_⟩
  ·show Γ.k _=_;rw [e]
  ·show Γ.ver _=_;rw [e]
  ·show Γ.cur _=_;rw [e]
  ·show Γ.sz _=_;rw [e]
  ·show Γ.of _=_;rw [e]
theorem ql0 {b:Nat} (hs:qcR σ bs rs) (hi:Inv Γ σ w) (h:Qn (QN Γ bs rs) b):Qn Γ b:=by
 rcases h with ⟨i,hi',hb⟩ | ⟨r,hr,hz,hb⟩
 ·have hi':i<bs.length:=hi'
  have hm:bs.getD i 0∈bs:=by rw [zC (List.getElem?_eq_getElem hi')];exact List.getElem_mem hi'
  exact .inl ⟨_,by rw [hi.nb];exact hs.bl _ hm,hb⟩
 ·have hr:r<rs.length:=hr
  have hm:rs.getD r 0∈rs:=by rw [zC (List.getElem?_eq_getElem hr)];exact List.getElem_mem hr
  exact .inr ⟨_,by rw [hi.nr];exact hs.rl _ hm,hz,hb⟩
theorem qyS (hs:qcR σ bs rs) (hi:Inv Γ σ w):Inv (QN Γ bs rs) (qG σ bs rs) w where
 nb:=by simp [QN,qG]
 nr:=by simp [QN,qG]
 mem:=hi.mem
 box := λ i cs hcs=>by
  have hcs':(bs.map λ b=>qO (λ b=>bs.idxOf b) (λ r=>rs.idxOf r) (σ.bx.getD b []))[i]? = some cs:=hcs
  rw [List.getElem?_map] at hcs'
  cases hb:bs[i]? with
  | none=>rw [hb] at hcs';cases hcs'
  | some b =>
    rw [hb] at hcs'
    simp only [Option.map_some,Option.some.injEq] at hcs'
    have hm:=List.mem_of_getElem? hb
    have hbl:=hs.bl b hm
    have hget : σ.bx[b]? = some (σ.bx.getD b []):=by rw [zC (List.getElem?_eq_getElem hbl)];exact List.getElem?_eq_getElem hbl
    obtain ⟨vs,e,g1,g2,g3⟩:=hi.box b _ hget
    refine ⟨vs,e,by show w.heap[Γ.β (bs.getD i 0)]? = _;rw [zC hb];exact g1,?_,g3⟩
    rw [<- hcs',qnd]
    refine ⟨by simpa using g2.len,λ j y u hy hu=>?_⟩
    rw [List.getElem?_map] at hy
    cases hx:(σ.bx.getD b [])[j]? with
    | none=>rw [hx] at hy;cases hy
    | some x =>
      rw [hx] at hy;cases hy
      have hc:=hs.cb b hm x (List.mem_of_getElem? hx)
      exact qs8 hs (g2.rep j x u hx hu) hc.1 hc.2
 inj := λ i j hi' hj h=>by
  have hi':i<bs.length:=hi'
  have hj:j<bs.length:=hj
  have h : Γ.β (bs.getD i 0) = Γ.β (bs.getD j 0):=h
  have e1:=zC (d:=0) (List.getElem?_eq_getElem hi')
  have e2:=zC (d:=0) (List.getElem?_eq_getElem hj)
  rw [e1,e2] at h
  have:=hi.inj _ _ (by rw [hi.nb];exact hs.bl _ (List.getElem_mem hi')) (by rw [hi.nb];exact hs.bl _ (List.getElem_mem hj)) h
  exact qtD hs.bn hi' hj this
 boxmem := λ i hi' o=>by
  have hi':i<bs.length:=hi'
  have e1:=zC (d:=0) (List.getElem?_eq_getElem hi')
  show Γ.mem (Γ.β (bs.getD i 0)) o=none
  rw [e1]
  exact hi.boxmem _ (by rw [hi.nb];exact hs.bl _ (List.getElem_mem hi')) o
 row := λ r R hR=>by
  have hR':(rs.map λ r => σ.rw.getD r ⟨0,[],0,0,false⟩)[r]? = some R:=hR
  rw [List.getElem?_map] at hR'
  cases hb:rs[r]? with
  | none=>rw [hb] at hR';cases hR'
  | some q =>
    rw [hb] at hR'
    simp only [Option.map_some,Option.some.injEq] at hR'
    have hm:=List.mem_of_getElem? hb
    have hql:=hs.rl q hm
    have hget : σ.rw[q]? = some R:=by rw [<- hR',zC (List.getElem?_eq_getElem hql)];exact List.getElem?_eq_getElem hql
    have hq:rs.getD r 0=q:=zC hb
    obtain ⟨k,ver,pos,len,pl,fz,g2,g4,g5,g6,g8,g9⟩:=hi.row q R hget
    have cutp:∀ {x:AV} {u:Value} {e:List AV},e∈R.c->x∈e->Rep Γ x u->Rep (QN Γ bs rs) x u := λ he hx hrep=>by
     obtain ⟨e1,e2,e3⟩:=qdS (fb := λ b=>bs.idxOf b) (fr := λ r=>rs.idxOf r) (pl _ he _ hx)
     have:=qs8 hs hrep (by rw [e2];exact λ b hb=>(List.not_mem_nil hb).elim) (by rw [e3];exact λ b hb=>(List.not_mem_nil hb).elim)
     rw [e1] at this
     exact this
    have ec:(QN Γ bs rs).cur r = Γ.cur q:=by show Γ.cur _=_;rw [hq]
    have es:(QN Γ bs rs).sz r = Γ.sz q:=by show Γ.sz _=_;rw [hq]
    have eo:(QN Γ bs rs).of r = Γ.of q:=by show Γ.of _=_;rw [hq]
    refine ⟨by rw [k];show _ = Γ.k _;rw [hq],λ hl=>by rw [ver hl];show _ = Γ.ver _;rw [hq],pos,len,pl,fz,by rw [ec,es];exact g2,by rw [es,eo];exact g4,by rw [ec,es,eo];exact g5,λ i e j x hi' hj=>?_,λ hz i hi'=>?_,λ hf=>eo.trans (g9 hf)⟩
    ·obtain ⟨u,hu,hrep,h1⟩:=g6 i e j x hi' hj
     exact ⟨u,by rw [ec,eo];exact hu,cutp (List.mem_of_getElem? hi') (List.mem_of_getElem? hj) hrep,h1⟩
    ·have hi':i<bs.length:=hi'
     have e1:=zC (d:=0) (List.getElem?_eq_getElem hi')
     rw [es] at hz
     rw [ec]
     show Γ.β (bs.getD i 0)≠_
     rw [e1]
     exact g8 hz _ (by rw [hi.nb];exact hs.bl _ (List.getElem_mem hi'))
 apart := λ r r' hr hr' hne hz hz'=>by
  have hr:r<rs.length:=hr
  have hr':r'<rs.length:=hr'
  have e1:=zC (d:=0) (List.getElem?_eq_getElem hr)
  have e2:=zC (d:=0) (List.getElem?_eq_getElem hr')
  have hz : Γ.sz (rs.getD r 0)≠0:=hz
  have hz' : Γ.sz (rs.getD r' 0)≠0:=hz'
  show Γ.cur (rs.getD r 0) ≠ Γ.cur (rs.getD r' 0)
  rw [e1] at hz
  rw [e2] at hz'
  rw [e1,e2]
  refine hi.apart _ _ (by rw [hi.nr];exact hs.rl _ (List.getElem_mem hr)) (by rw [hi.nr];exact hs.rl _ (List.getElem_mem hr')) (λ he=>hne (qtD hs.rn hr hr' he)) hz hz'
def jL (Γ Γs:Gh) (bs rs:List Nat):Gh :=
 { mem := Γs.mem,nb := Γ.nb+(Γs.nb-bs.length),β := λ i=>match fi bs Γ.nb i with | some j => Γs.β j | none => Γ.β i,
   nr := Γ.nr+(Γs.nr-rs.length),ver := λ r=>match fi rs Γ.nr r with | some j => Γs.ver j | none => Γ.ver r,sz := λ r=>match fi rs Γ.nr r with | some j => Γs.sz j | none => Γ.sz r,
   k := λ r=>match fi rs Γ.nr r with | some j => Γs.k j | none => Γ.k r,cur := λ r=>match fi rs Γ.nr r with | some j => Γs.cur j | none => Γ.cur r,
   of := λ r=>match fi rs Γ.nr r with | some j => Γs.of j | none => Γ.of r }
variable {Γs:Gh} {σs:St} {w':World}
theorem qvq {l:List Nat} {n e i j:Nat} (h:fi l n i=some j) (hi:i<n+e):j<l.length+e:=by
 by_cases hin:i<n
 ·have:=(qaL h hin).2.2.1;omega
 ·unfold fi at h
  rw [if_neg hin] at h
  cases h;omega
theorem qjJ (hs:qcR σ bs rs) (hi:Inv Γ σ w) (hx:Ext (QN Γ bs rs) w Γs w') {x:AV} {u:Value} (h:Rep Γs x u):Rep (jL Γ Γs bs rs) (ren (zl bs Γ.nb) (zl rs Γ.nr) x) u:=by
 have hnb:bs.length <= Γs.nb:=hx.le.nb
 have hnr:rs.length <= Γs.nr:=hx.le.nr
 refine qnq (Γ := Γs) (Γ':=jL Γ Γs bs rs) (λ _ _ _ h=>h) h (λ b hb=>?_) λ r hr=>?_
 ·have hlt:=h.bound.1 b hb
  refine ⟨qyF (λ b hb=>by rw [hi.nb];exact hs.bl b hb) (by omega),?_⟩
  show (match fi bs Γ.nb (zl bs Γ.nb b) with | some j => Γs.β j | none => Γ.β _)=_
  rw [qy0 hs.bn (λ b hb=>by rw [hi.nb];exact hs.bl b hb)]
 ·have hlt:=h.bound.2 r hr
  have e:=qy0 hs.rn (n := Γ.nr) (λ b hb=>by rw [hi.nr];exact hs.rl b hb) r
  refine ⟨qyF (λ b hb=>by rw [hi.nr];exact hs.rl b hb) (by omega),?_,?_,?_,?_,?_⟩
  ·show (match fi rs Γ.nr _ with | some j => Γs.k j | none => Γ.k _)=_;rw [e]
  ·show (match fi rs Γ.nr _ with | some j => Γs.ver j | none => Γ.ver _)=_;rw [e]
  ·show (match fi rs Γ.nr _ with | some j => Γs.cur j | none => Γ.cur _)=_;rw [e]
  ·show (match fi rs Γ.nr _ with | some j => Γs.sz j | none => Γ.sz _)=_;rw [e]
  ·show (match fi rs Γ.nr _ with | some j => Γs.of j | none => Γ.of _)=_;rw [e]
theorem qyR (hs:qcR σ bs rs) (hi:Inv Γ σ w) (hx:Ext (QN Γ bs rs) w Γs w'):Le Γ (jL Γ Γs bs rs):=by
 have hβ : ∀ i,i < Γ.nb->(jL Γ Γs bs rs).β i = Γ.β i:=by
  intro i hi'
  show (match fi bs Γ.nb i with | some j => Γs.β j | none => Γ.β i)=_
  cases h:fi bs Γ.nb i with
  | none=>rfl
  | some j =>
    obtain ⟨h1,h2,h3,h4⟩:=qaL h hi'
    have:=hx.le.β j h3
    simp only
    rw [this]
    show Γ.β (bs.getD j 0)=_
    rw [h4]
 refine ⟨hx.le.mem,Nat.le_add_right _ _,hβ,Nat.le_add_right _ _,λ r hr=>?_,λ r hr=>?_,λ r hr hve=>?_⟩
 ·show (match fi rs Γ.nr r with | some j => Γs.k j | none => Γ.k r)=_
  cases h:fi rs Γ.nr r with
  | none=>rfl
  | some j =>
    obtain ⟨h1,h2,h3,h4⟩:=qaL h hr
    have:=hx.le.k j h3
    simp only
    rw [this]
    show Γ.k (rs.getD j 0)=_
    rw [h4]
 ·show _<=(match fi rs Γ.nr r with | some j => Γs.ver j | none => Γ.ver r)
  cases h:fi rs Γ.nr r with
  | none=>exact Nat.le_refl _
  | some j =>
    obtain ⟨h1,h2,h3,h4⟩:=qaL h hr
    have : Γ.ver (rs.getD j 0) <= Γs.ver j:=hx.le.ver j h3
    rw [h4] at this
    exact this
 ·have hve:(match fi rs Γ.nr r with | some j => Γs.ver j | none => Γ.ver r) = Γ.ver r:=hve
  show (match fi rs Γ.nr r with | some j => Γs.cur j | none => Γ.cur r)=_/\(match fi rs Γ.nr r with | some j => Γs.sz j | none => Γ.sz r)=_/\(match fi rs Γ.nr r with | some j => Γs.of j | none => Γ.of r)=_
  cases h:fi rs Γ.nr r with
  | none=>exact ⟨rfl,rfl,rfl⟩
  | some j =>
    rw [h] at hve
    obtain ⟨h1,h2,h3,h4⟩:=qaL h hr
    have:=hx.le.loc j h3 (by show _ = Γ.ver (rs.getD j 0);rw [h4];exact hve)
    have : Γs.cur j = Γ.cur (rs.getD j 0) /\ Γs.sz j = Γ.sz (rs.getD j 0) /\ Γs.of j = Γ.of (rs.getD j 0):=this
    rw [h4] at this
    exact this
theorem qhk (hs:qcR σ bs rs) (hi:Inv Γ σ w) {i:Nat} (h:fi bs Γ.nb i=none):¬ Qn (QN Γ bs rs) (Γ.β i) /\ Γ.β i<w.heap.size:=by
 obtain ⟨hin,hib⟩:=qaG h
 refine ⟨?_,hi.box_lt hin⟩
 rintro (⟨j,hj,he⟩ | ⟨r,hr,hz,he⟩)
 ·have hj:j<bs.length:=hj
  have e1:=zC (d:=0) (List.getElem?_eq_getElem hj)
  have he : Γ.β (bs.getD j 0) = Γ.β i:=he
  rw [e1] at he
  have:=hi.inj _ _ (by rw [hi.nb];exact hs.bl _ (List.getElem_mem hj)) hin he
  exact hib (this▸List.getElem_mem hj)
 ·have hr:r<rs.length:=hr
  have e1:=zC (d:=0) (List.getElem?_eq_getElem hr)
  have he : Γ.cur (rs.getD r 0) = Γ.β i:=he
  rw [e1] at he
  have hrl:=hs.rl _ (List.getElem_mem hr)
  have hz : Γ.sz (rs.getD r 0)≠0:=hz
  rw [e1] at hz
  exact (hi.row _ _ (List.getElem?_eq_getElem hrl)).nbx hz i hin he.symm
theorem qoG (hs:qcR σ bs rs) (hi:Inv Γ σ w) {r:Nat} (h:fi rs Γ.nr r=none) (hz : Γ.sz r≠0):¬ Qn (QN Γ bs rs) (Γ.cur r) /\ Γ.cur r<w.heap.size:=by
 obtain ⟨hrn,hrb⟩:=qaG h
 have hrl:r < σ.rw.length:=by rw [<- hi.nr];exact hrn
 refine ⟨?_,hi.cur_lt hrn hz⟩
 have g8:=(hi.row _ _ (List.getElem?_eq_getElem hrl)).nbx hz
 rintro (⟨j,hj,he⟩ | ⟨q,hq,hz',he⟩)
 ·have hj:j<bs.length:=hj
  have e1:=zC (d:=0) (List.getElem?_eq_getElem hj)
  have he : Γ.β (bs.getD j 0) = Γ.cur r:=he
  rw [e1] at he
  exact g8 _ (by rw [hi.nb];exact hs.bl _ (List.getElem_mem hj)) he
 ·have hq:q<rs.length:=hq
  have e1:=zC (d:=0) (List.getElem?_eq_getElem hq)
  have he : Γ.cur (rs.getD q 0) = Γ.cur r:=he
  rw [e1] at he
  have hz' : Γ.sz (rs.getD q 0)≠0:=hz'
  rw [e1] at hz'
  refine hi.apart _ _ (by rw [hi.nr];exact hs.rl _ (List.getElem_mem hq)) hrn (λ e=>hrb (e▸List.getElem_mem hq)) hz' hz he
theorem qfc (hx:Ext (QN Γ bs rs) w Γs w') {b b':Nat} (h1:Qn Γs b) (h2:¬ Qn (QN Γ bs rs) b'/\b'<w.heap.size):b≠b' := λ he=>by
 rcases hx.own b h1 with h | h
 ·exact h2.1 (he▸h)
 ·omega
theorem qwo (hs:qcR σ bs rs) (hi:Inv Γ σ w) (hx:Ext (QN Γ bs rs) w Γs w') (hj:Inv Γs σs w'):Inv (jL Γ Γs bs rs) (qek σ bs rs σs) w':=by
 have hnb:bs.length <= Γs.nb:=hx.le.nb
 have hnr:rs.length <= Γs.nr:=hx.le.nr
 have hxb:bs.length<=(σs.bx.map (qO (zl bs σ.bx.length) (zl rs σ.rw.length))).length:=by rw [List.length_map,<- hj.nb];exact hnb
 have hxr:rs.length <= σs.rw.length:=by rw [<- hj.nr];exact hnr
 have hle:=qyR hs hi hx
 have ownB:∀ j,j < Γs.nb->Qn Γs (Γs.β j) := λ j hj => .inl ⟨j,hj,rfl⟩
 have ownR:∀ j,j < Γs.nr -> Γs.sz j≠0->Qn Γs (Γs.cur j) := λ j hj hz => .inr ⟨j,hj,hz,rfl⟩
 have jlt:∀ i j,i<(jL Γ Γs bs rs).nb->fi bs Γ.nb i=some j->j < Γs.nb := λ i j hi' h=>by
  have:=qvq (e := Γs.nb-bs.length) h hi'
  omega
 have rlt:∀ i j,i<(jL Γ Γs bs rs).nr->fi rs Γ.nr i=some j->j < Γs.nr := λ i j hi' h=>by
  have:=qvq (e := Γs.nr-rs.length) h hi'
  omega
 have βs:∀ i j,fi bs Γ.nb i=some j->(jL Γ Γs bs rs).β i = Γs.β j := λ i j h=>by
  show (match fi bs Γ.nb i with | some j => Γs.β j | none => Γ.β i)=_;rw [h]
 have βn:∀ i,fi bs Γ.nb i=none->(jL Γ Γs bs rs).β i = Γ.β i := λ i h=>by
  show (match fi bs Γ.nb i with | some j => Γs.β j | none => Γ.β i)=_;rw [h]
 have cs':∀ i j,fi rs Γ.nr i=some j->(jL Γ Γs bs rs).cur i = Γs.cur j := λ i j h=>by
  show (match fi rs Γ.nr i with | some j => Γs.cur j | none => Γ.cur i)=_;rw [h]
 have cn':∀ i,fi rs Γ.nr i=none->(jL Γ Γs bs rs).cur i = Γ.cur i := λ i h=>by
  show (match fi rs Γ.nr i with | some j => Γs.cur j | none => Γ.cur i)=_;rw [h]
 have sameh:∀ b,(¬ Qn (QN Γ bs rs) b/\b<w.heap.size)->w'.heap[b]? = w.heap[b]? := λ b hb=>hx.block b hb.2 hb.1
 have samem:∀ b o,(¬ Qn (QN Γ bs rs) b/\b<w.heap.size) -> Γ.mem b o=none -> Γs.mem b o=none := λ b o hb hm=>by
  cases h : Γs.mem b o with
  | none=>rfl
  | some u =>
    rcases hx.memg b o u h with h1 | h1 | h1
    ·have h1 : Γ.mem b o=some u:=h1
     rw [hm] at h1;cases h1
    ·exact absurd h1 hb.1
    ·omega
 refine ⟨?_,?_,hj.mem,?_,?_,?_,?_,?_⟩
 ·show Γ.nb+(Γs.nb-bs.length)=(zu _ _ _).length
  rw [qcO _ _ _ hxb,List.length_map,hi.nb,hj.nb]
 ·show Γ.nr+(Γs.nr-rs.length)=(zu _ _ _).length
  rw [qcO _ _ _ hxr,hi.nr,hj.nr]
 ·intro i cs hcs
  have hcs:(zu σ.bx bs (σs.bx.map (qO (zl bs σ.bx.length) (zl rs σ.rw.length))))[i]? = some cs:=hcs
  rw [Jj _ _ _ _ hxb hs.bn hs.bl,<- hi.nb,<- hi.nr] at hcs
  cases h:fi bs Γ.nb i with
  | some j =>
    rw [h] at hcs
    simp only at hcs
    rw [List.getElem?_map] at hcs
    cases hb : σs.bx[j]? with
    | none=>rw [hb] at hcs;cases hcs
    | some cs0 =>
      rw [hb] at hcs
      simp only [Option.map_some,Option.some.injEq] at hcs
      obtain ⟨vs,e,g1,g2,g3⟩:=hj.box j cs0 hb
      refine ⟨vs,e,by rw [βs i j h];exact g1,?_,g3⟩
      rw [<- hcs,qnd]
      refine ⟨by simpa using g2.len,λ q y u hy hu=>?_⟩
      rw [List.getElem?_map] at hy
      cases hx':cs0[q]? with
      | none=>rw [hx'] at hy;cases hy
      | some x =>
        rw [hx'] at hy;cases hy
        exact qjJ hs hi hx (g2.rep q x u hx' hu)
  | none =>
    rw [h] at hcs
    simp only at hcs
    obtain ⟨vs,e,g1,g2,g3⟩:=hi.box i cs hcs
    exact ⟨vs,e,by rw [βn i h,sameh _ (qhk hs hi h)];exact g1,g2.mono hle,g3⟩
 ·intro i i' h1 h2 he
  cases h:fi bs Γ.nb i with
  | some j =>
    rw [βs i j h] at he
    cases h':fi bs Γ.nb i' with
    | some j' =>
      rw [βs i' j' h'] at he
      have:=hj.inj j j' (jlt i j h1 h) (jlt i' j' h2 h') he
      subst this
      exact qCc h h'
    | none =>
      rw [βn i' h'] at he
      exact absurd he (qfc hx (ownB j (jlt i j h1 h)) (qhk hs hi h'))
  | none =>
    rw [βn i h] at he
    cases h':fi bs Γ.nb i' with
    | some j' =>
      rw [βs i' j' h'] at he
      exact absurd he.symm (qfc hx (ownB j' (jlt i' j' h2 h')) (qhk hs hi h))
    | none =>
      rw [βn i' h'] at he
      exact hi.inj i i' (qaG h).1 (qaG h').1 he
 ·intro i h1 o
  cases h:fi bs Γ.nb i with
  | some j=>rw [βs i j h];exact hj.boxmem j (jlt i j h1 h) o
  | none=>rw [βn i h];exact samem _ o (qhk hs hi h) (hi.boxmem i (qaG h).1 o)
 ·intro r R hR
  have hR:(zu σ.rw rs σs.rw)[r]? = some R:=hR
  have hrn:r<(jL Γ Γs bs rs).nr:=by
   have:=getElem?_lt hR
   rw [qcO _ _ _ hxr,<- hi.nr,<- hj.nr] at this
   exact this
  rw [Jj _ _ _ _ hxr hs.rn hs.rl,<- hi.nr] at hR
  cases h:fi rs Γ.nr r with
  | some j =>
    rw [h] at hR
    simp only at hR
    obtain ⟨k,ver,pos,len,pl,fz,g2,g4,g5,g6,g8,g9⟩:=hj.row j R hR
    have cutp:∀ {x:AV} {u:Value} {e:List AV},e∈R.c->x∈e->Rep Γs x u->Rep (jL Γ Γs bs rs) x u := λ he hx' hrep=>by
     obtain ⟨e1,e2,e3⟩:=qdS (fb:=zl bs Γ.nb) (fr:=zl rs Γ.nr) (pl _ he _ hx')
     have:=qjJ hs hi hx hrep
     rw [e1] at this
     exact this
    have ek:(jL Γ Γs bs rs).k r = Γs.k j:=by show (match fi rs Γ.nr r with | some j => Γs.k j | none => Γ.k r)=_;rw [h]
    have eve:(jL Γ Γs bs rs).ver r = Γs.ver j:=by show (match fi rs Γ.nr r with | some j => Γs.ver j | none => Γ.ver r)=_;rw [h]
    have esz:(jL Γ Γs bs rs).sz r = Γs.sz j:=by show (match fi rs Γ.nr r with | some j => Γs.sz j | none => Γ.sz r)=_;rw [h]
    have eof:(jL Γ Γs bs rs).of r = Γs.of j:=by show (match fi rs Γ.nr r with | some j => Γs.of j | none => Γ.of r)=_;rw [h]
    have ecu:=cs' r j h
    refine ⟨k.trans ek.symm,λ hl=>(ver hl).trans eve.symm,pos,len,pl,fz,by rw [ecu,esz];exact g2,by rw [esz,eof];exact g4,by rw [ecu,esz,eof];exact g5,λ i e j' x hi' hj'=>?_,λ hz i hi'=>?_,λ hf=>eof.trans (g9 hf)⟩
    ·obtain ⟨u,hu,hrep,h1⟩:=g6 i e j' x hi' hj'
     exact ⟨u,by rw [ecu,eof];exact hu,cutp (List.mem_of_getElem? hi') (List.mem_of_getElem? hj') hrep,h1⟩
    ·rw [esz] at hz
     rw [ecu]
     cases h':fi bs Γ.nb i with
     | some j'=>rw [βs i j' h'];exact g8 hz j' (jlt i j' hi' h')
     | none =>
       rw [βn i h']
       intro he
       exact qfc hx (ownR j (rlt r j hrn h) hz) (qhk hs hi h') he.symm
  | none =>
    rw [h] at hR
    simp only at hR
    have haw:=qoG hs hi h
    have hrn':=(qaG h).1
    refine (hi.row r R hR).lift hrn' hle ?_ (λ hz ob hob=>?_) (λ hz off hm=>?_) λ hz i hi' hn=>?_
    ·show (match fi rs Γ.nr r with | some j => Γs.ver j | none => Γ.ver r)=_;rw [h]
    ·rw [sameh _ (haw hz)];exact hob
    ·exact samem _ off (haw hz) hm
    ·cases h':fi bs Γ.nb i with
     | some j' =>
       rw [βs i j' h']
       exact qfc hx (ownB j' (jlt i j' hi' h')) (haw hz)
     | none =>
       have:=(qaG h').1
       omega
 ·intro r r' h1 h2 hne z1 z2
  have zs:∀ i j,fi rs Γ.nr i=some j->(jL Γ Γs bs rs).sz i = Γs.sz j := λ i j h=>by
   show (match fi rs Γ.nr i with | some j => Γs.sz j | none => Γ.sz i)=_;rw [h]
  have zn:∀ i,fi rs Γ.nr i=none->(jL Γ Γs bs rs).sz i = Γ.sz i := λ i h=>by
   show (match fi rs Γ.nr i with | some j => Γs.sz j | none => Γ.sz i)=_;rw [h]
  cases h:fi rs Γ.nr r with
  | some j =>
    rw [zs r j h] at z1
    rw [cs' r j h]
    cases h':fi rs Γ.nr r' with
    | some j' =>
      rw [zs r' j' h'] at z2
      rw [cs' r' j' h']
      refine hj.apart j j' (rlt r j h1 h) (rlt r' j' h2 h') (λ he=>?_) z1 z2
      subst he
      exact hne (qCc h h')
    | none =>
      rw [zn r' h'] at z2
      rw [cn' r' h']
      exact qfc hx (ownR j (rlt r j h1 h) z1) (qoG hs hi h' z2)
  | none =>
    rw [zn r h] at z1
    rw [cn' r h]
    cases h':fi rs Γ.nr r' with
    | some j' =>
      rw [zs r' j' h'] at z2
      rw [cs' r' j' h']
      exact λ he=>qfc hx (ownR j' (rlt r' j' h2 h') z2) (qoG hs hi h z1) he.symm
    | none =>
      rw [zn r' h'] at z2
      rw [cn' r' h']
      exact hi.apart r r' (qaG h).1 (qaG h').1 hne z1 z2
theorem qxv (hs:qcR σ bs rs) (hi:Inv Γ σ w) (hx:Ext (QN Γ bs rs) w Γs w'):Ext Γ w (jL Γ Γs bs rs) w':=by
 have hnb:bs.length <= Γs.nb:=hx.le.nb
 have hnr:rs.length <= Γs.nr:=hx.le.nr
 refine ⟨qyR hs hi hx,hx.os,hx.tape,hx.output,hx.size,λ b hb hn=>hx.block b hb λ h=>hn (ql0 hs hi h),?_,λ b o u hm=>?_,hx.drawn⟩
 ·have sub:∀ b,Qn Γs b->Qn Γ b\/w.heap.size<=b := λ b hb=>(hx.own b hb).imp_left (ql0 hs hi)
  rintro b (⟨i,hi',he⟩ | ⟨r,hr,hz,he⟩)
  ·have he:(match fi bs Γ.nb i with | some j => Γs.β j | none => Γ.β i)=b:=he
   cases h:fi bs Γ.nb i with
   | some j =>
     rw [h] at he
     have:=qvq (e := Γs.nb-bs.length) h hi'
     exact sub b (.inl ⟨j,by omega,he⟩)
   | none=>rw [h] at he;exact .inl (.inl ⟨i,(qaG h).1,he⟩)
  ·have he:(match fi rs Γ.nr r with | some j => Γs.cur j | none => Γ.cur r)=b:=he
   have hz:(match fi rs Γ.nr r with | some j => Γs.sz j | none => Γ.sz r)≠0:=hz
   cases h:fi rs Γ.nr r with
   | some j =>
     rw [h] at he hz
     have:=qvq (e := Γs.nr-rs.length) h hr
     exact sub b (.inr ⟨j,by omega,hz,he⟩)
   | none=>rw [h] at he hz;exact .inl (.inr ⟨r,(qaG h).1,hz,he⟩)
 ·rcases hx.memg b o u hm with h | h | h
  ·exact .inl h
  ·exact .inr (.inl (ql0 hs hi h))
  ·exact .inr (.inr h)
mutual
theorem qF3 {fb fr gb gr:Nat->Nat}:∀ x:AV,(∀ b∈rb x,gb (fb b)=b)->(∀ r∈rr x,gr (fr r)=r)->ren gb gr (ren fb fr x)=x
 | .ptr b o,hb,_=>by simp only [ren,hb b (by simp [rb])]
 | .rs r lo n ep f,_,hr=>by simp only [ren,hr r (by simp [rr])]
 | .rpt r i o ep,_,hr=>by simp only [ren,hr r (by simp [rr])]
 | .fn f cs,hb,hr=>by simp only [ren,qfF cs (by simpa [rb] using hb) (by simpa [rr] using hr)]
 | .agg cs,hb,hr=>by simp only [ren,qfF cs (by simpa [rb] using hb) (by simpa [rr] using hr)]
 | .tup cs,hb,hr=>by simp only [ren,qfF cs (by simpa [rb] using hb) (by simpa [rr] using hr)]
 | .v _,_,_=>rfl
 | .dead,_,_=>rfl
 | .sl ..,_,_=>rfl
 | .ept ..,_,_=>rfl
theorem qfF {fb fr gb gr:Nat->Nat}:∀ cs:List AV,(∀ b∈rbL cs,gb (fb b)=b)->(∀ r∈rrL cs,gr (fr r)=r)->qO gb gr (qO fb fr cs)=cs
 | [],_,_=>rfl
 | x::cs,hb,hr=>by
   simp only [qO,qF3 x (λ b h=>hb b (by simp [rbL,h])) (λ r h=>hr r (by simp [rrL,h])),qfF cs (λ b h=>hb b (by simp [rbL,h])) (λ r h=>hr r (by simp [rrL,h]))]
end
theorem qxu (hs:qcR σ bs rs):(qek σ bs rs (qG σ bs rs)).bx = σ.bx/\(qek σ bs rs (qG σ bs rs)).rw = σ.rw:=by
 constructor
 ·apply List.ext_getElem?
  intro i
  show (zu σ.bx bs ((qG σ bs rs).bx.map _))[i]? = _
  rw [Jj _ _ _ _ (by simp [qG]) hs.bn hs.bl]
  cases h:fi bs σ.bx.length i with
  | none=>rfl
  | some j =>
    simp only
    by_cases hi:i < σ.bx.length
    ·obtain ⟨h1,h2,h3,h4⟩:=qaL h hi
     have hb:bs[j]? = some i:=by
      rw [List.getElem?_eq_getElem h3]
      rw [zC (List.getElem?_eq_getElem h3)] at h4
      rw [h4]
     simp only [qG,List.map_map,List.getElem?_map,hb,Option.map_some,Function.comp]
     rw [List.getElem?_eq_getElem hi,zC (List.getElem?_eq_getElem hi)]
     congr 1
     have hc:=hs.cb i h1
     rw [zC (List.getElem?_eq_getElem hi)] at hc
     refine qfF _ (λ b hb'=>?_) λ r hr=>?_
     ·rw [qmi] at hb'
      obtain ⟨x,hx,hb'⟩:=List.mem_flatMap.1 hb'
      exact qke ((hc x hx).1 b hb')
     ·rw [qje] at hr
      obtain ⟨x,hx,hr⟩:=List.mem_flatMap.1 hr
      exact qke ((hc x hx).2 r hr)
    ·unfold fi at h
     rw [if_neg hi] at h
     cases h
     rw [List.getElem?_eq_none (by simp [qG]),List.getElem?_eq_none (by omega)]
 ·apply List.ext_getElem?
  intro i
  show (zu σ.rw rs (qG σ bs rs).rw)[i]? = _
  rw [Jj _ _ _ _ (by simp [qG]) hs.rn hs.rl]
  cases h:fi rs σ.rw.length i with
  | none=>rfl
  | some j =>
    simp only
    by_cases hi:i < σ.rw.length
    ·obtain ⟨h1,h2,h3,h4⟩:=qaL h hi
     have hb:rs[j]? = some i:=by
      rw [List.getElem?_eq_getElem h3]
      rw [zC (List.getElem?_eq_getElem h3)] at h4
      rw [h4]
     simp only [qG,List.getElem?_map,hb,Option.map_some]
     rw [List.getElem?_eq_getElem hi,zC (List.getElem?_eq_getElem hi)]
    ·unfold fi at h
     rw [if_neg hi] at h
     cases h
     rw [List.getElem?_eq_none (by simp [qG]),List.getElem?_eq_none (by omega)]
theorem qz5 (hs:qcR σ bs rs) (hk:qM (qG σ bs rs) σs):qM σ (qek σ bs rs σs):=by
 have hb0:(qG σ bs rs).bx.length=bs.length:=by simp [qG]
 have hr0:(qG σ bs rs).rw.length=rs.length:=by simp [qG]
 have hxb:bs.length<=(σs.bx.map (qO (zl bs σ.bx.length) (zl rs σ.rw.length))).length:=by rw [List.length_map,<- hb0];exact hk.bl
 have hxr:rs.length <= σs.rw.length:=by rw [<- hr0];exact hk.rl
 obtain ⟨e1,e2⟩:=qxu hs
 refine ⟨?_,?_,λ i hi hn=>?_,λ i hi hn=>?_,λ i h=>List.mem_append_right _ h,λ i h=>List.mem_append_right _ h⟩
 ·show _<=(zu _ _ _).length
  rw [qcO _ _ _ hxb];omega
 ·show _<=(zu _ _ _).length
  rw [qcO _ _ _ hxr];omega
 ·have hn':i ∉ σs.wr.map (zl bs σ.bx.length) := λ h=>hn (List.mem_append_left _ h)
  rw [<- e1]
  show (zu _ _ _)[i]? = (zu _ _ _)[i]?
  rw [Jj _ _ _ _ hxb hs.bn hs.bl,Jj _ _ _ _ (by simp [qG]) hs.bn hs.bl]
  cases h:fi bs σ.bx.length i with
  | none=>rfl
  | some j =>
    simp only [List.getElem?_map]
    obtain ⟨h1,h2,h3,h4⟩:=qaL h hi
    rw [hk.bx j (by rw [hb0];exact h3) λ hm=>hn' (List.mem_map.2 ⟨j,hm,by rw [h2];exact qke h1⟩)]
 ·have hn':i ∉ σs.wrr.map (zl rs σ.rw.length) := λ h=>hn (List.mem_append_left _ h)
  rw [<- e2]
  show (zu _ _ _)[i]? = (zu _ _ _)[i]?
  rw [Jj _ _ _ _ hxr hs.rn hs.rl,Jj _ _ _ _ (by simp [qG]) hs.rn hs.rl]
  cases h:fi rs σ.rw.length i with
  | none=>rfl
  | some j =>
    simp only
    obtain ⟨h1,h2,h3,h4⟩:=qaL h hi
    rw [hk.rw j (by rw [hr0];exact h3) λ hm=>hn' (List.mem_map.2 ⟨j,hm,by rw [h2];exact qke h1⟩)]
theorem qBU {args:List AV} (h:qgg σ args=true):qcR σ (Qk σ args) (qbE σ args)/\(∀ b∈rbL args,b∈Qk σ args)/\∀ r∈rrL args,r∈qbE σ args:=by
 simp only [qgg,Bool.and_eq_true,List.all_eq_true,decide_eq_true_eq,List.contains_eq_mem] at h
 obtain ⟨⟨⟨⟨⟨h1,h2⟩,h3⟩,h4⟩,h5⟩,h6⟩:=h
 refine ⟨⟨qoZ h1,qoZ h2,λ b hb=>(h5 b hb).1.1,h6,λ b hb x hx=>⟨λ b' hb'=>?_,λ r hr=>?_⟩⟩,h3,h4⟩
 ·refine (h5 b hb).1.2 b' ?_
  rw [qmi];exact List.mem_flatMap.2 ⟨x,hx,hb'⟩
 ·refine (h5 b hb).2 r ?_
  rw [qje];exact List.mem_flatMap.2 ⟨x,hx,hr⟩
end
end Go.AmZ
namespace Go.AmZ
open Go Go.RowKit
section
variable {σ : St}
theorem qwj (l:List (List AV)):qM σ { σ with bx := σ.bx++l } :=
 ⟨by simp,Nat.le_refl _,λ i hi _=>List.getElem?_append_left hi,λ _ _ _=>rfl,λ _ h=>h,λ _ h=>h⟩
theorem qCa (b:Nat) (cs:List AV):qM σ { σ with bx := σ.bx.set b cs,wr:=b :: σ.wr } :=
 ⟨by simp,Nat.le_refl _,λ i hi hn=>List.getElem?_set_ne λ e=>hn (by simp [e]),λ _ _ _=>rfl,λ _ h=>List.mem_cons_of_mem _ h,λ _ h=>h⟩
theorem qmr (rs:List Nat):qM σ { σ with rw:=frz σ.rw rs,wrr:=rs ++ σ.wrr } :=
 ⟨Nat.le_refl _,by simp [qy7],λ _ _ _=>rfl,λ i hi hn=>qi8 _ _ _ λ h=>hn (List.mem_append_left _ h),λ _ h=>h,λ _ h=>List.mem_append_right _ h⟩
theorem qpw (l:List Row):qM σ { σ with rw := σ.rw++l } :=
 ⟨Nat.le_refl _,by simp,λ _ _ _=>rfl,λ i hi _=>List.getElem?_append_left hi,λ _ h=>h,λ _ h=>h⟩
theorem ql5 (r:Nat) (R:Row):qM σ { σ with rw := σ.rw.set r R,wrr:=r :: σ.wrr } :=
 ⟨Nat.le_refl _,by simp,λ _ _ _=>rfl,λ i hi hn=>List.getElem?_set_ne λ e=>hn (by simp [e]),λ _ h=>h,λ _ h=>List.mem_cons_of_mem _ h⟩
end
theorem qzM {C:Cfg} {tm:List AV} {σ : St} {op:Op} {x:AV} {σ':Option St} (h:qb C tm σ op=some (x,σ')):qM σ (turn σ σ'):=by
 cases σ' with
 | none=>exact .refl σ
 | some σ' =>
   show qM σ σ'
   cases op with
   | alloc e =>
     simp only [qb] at h
     split at h<;>try cases h
     split at h<;>cases h
     exact qwj _
   | box e y =>
     simp only [qb] at h
     split at h<;>try cases h
     split at h<;>cases h
     exact qwj _
   | store t a y =>
     simp only [qb] at h
     split at h<;>try cases h
     ·split at h<;>try cases h
      split at h<;>cases h
      exact qCa _ _
     ·split at h<;>try cases h
      split at h<;>cases h
      exact ql5 _ _
   | convert s t y =>
     simp only [qb] at h
     split at h<;>try cases h
     ·split at h<;>cases h
      exact qpw _
     ·split at h<;>try cases h
      split at h<;>cases h
   | makeSlice t a y =>
     simp only [qb] at h
     split at h<;>try cases h
     split at h<;>try cases h
     split at h<;>cases h
     exact qpw _
   | buildSlice t n ps =>
     simp only [qb] at h
     split at h<;>try cases h
     split at h<;>try cases h
     split at h<;>cases h
     exact qmr _
   | slice t y lo hi m =>
     cases m with
     | some m=>simp [qb] at h
     | none =>
       simp only [qb] at h
       repeat' (first | (cases h;done) | (cases h;exact ql5 _ _) | split at h)
   | makeFunc f fs cs =>
     cases f<;>simp only [qb] at h<;>(repeat' (first | (cases h;done) | split at h))
   | _ =>
     simp only [qb] at h
     repeat' (first | (cases h;done) | split at h)
theorem qlL {k bytes:Nat} {σ : St} {s:AV} {xs:List (List AV)} {x:AV} {σ':Option St} (h:zF k bytes σ s xs=some (x,σ')):qM σ (turn σ σ'):=by
 unfold zF at h
 repeat' (first | (cases h;done) | (cases h;first | exact .refl _ | exact qpw _ | exact ql5 _ _) | split at h)
def qGY (P:Program) (Γ : Gh) (σ : St) (w:World) (o:Oper) (a:Act) (x:AV) (σ':Option St):Prop :=
 ∀ next Q,(∀ u w' Γ',Ext Γ w Γ' w'->Inv Γ' (turn σ σ') w'->Rep Γ' x u->qM σ (turn σ σ')->next (a.put o.dst u) w')->o.wp P a w next Q
theorem QF.wp {P:Program} {Γ : Gh} {σ : St} {w:World} {o:Oper} {a:Act} {x:AV} {σ':Option St} (h:QF P Γ σ w o a.eval x σ') (hk:qM σ (turn σ σ')):qGY P Γ σ w o a x σ':=by
 obtain ⟨nx,u,w',Γ',h1,h2,h3,h4,h5⟩:=h
 intro next Q hn
 unfold Oper.wp
 rw [h1]
 rcases h2 with rfl | ⟨rfl,rfl⟩
 ·exact hn _ _ _ h3 h4 h5 hk
 ·exact hn _ _ _ h3 h4 h5 hk
section
variable {P:Program} {C:Cfg} {Γ : Gh} {σ : St} {w:World} {o:Oper} {tm:List AV} {ρ : Operand->Value} {x:AV} {σ':Option St}
theorem qIf (hC:∀ t d,C.ty t=some d->yM P t=some d) (hi:Inv Γ σ w) (hρ : ∀ y,Rep Γ (aev tm y) (ρ y)) (h:qb C tm σ o.op=some (x,σ')):QF P Γ σ w o ρ x σ':=by
 cases ho:o.op with
 | move y=>rw [ho] at h;simp only [qb,Option.some.injEq,Prod.mk.injEq] at h;obtain ⟨rfl,rfl⟩:=h;exact qyW hi hρ y (.inl ho)
 | assign y=>rw [ho] at h;simp only [qb,Option.some.injEq,Prod.mk.injEq] at h;obtain ⟨rfl,rfl⟩:=h;exact qyW hi hρ y (.inr ho)
 | pick c a b=>exact qFU hi hρ c a b ho h
 | alloc e=>exact qDM hC hi e ho h
 | box e y=>exact qHh hi hρ e y ho h
 | build t ps=>exact qE1 hC hi hρ t ps ho h
 | buildSlice t n ps=>exact quL hC hi hρ t n ps ho h
 | load t y=>exact qGL hC hi hρ t y ho h
 | store t y z=>exact qEQ hC hi hρ t y z ho h
 | nilCheck y=>exact qH0 hi hρ y ho h
 | binOp op t y z t'=>exact qHm hC hi hρ op t y z t' ho h
 | unOp op t y=>exact qIj hi hρ op t y ho h
 | convert s t y=>exact qGe hC hi hρ s t y ho h
 | makeFunc f fs cs=>exact qIh hi hρ f fs cs ho h
 | slice t y lo hi' m =>
   exact qE0 hC hi hρ t y lo hi' m ho h
 | fieldAddr t y i=>exact qwY hC hi hρ t y i ho h
 | field t y i=>exact qDQ hC hi hρ t y i ho h
 | indexAddr t y i=>exact qxW hC hi hρ t y i ho h
 | index t y i=>exact qDJ hC hi hρ t y i ho h
 | extract y i=>exact qA5 hi hρ y i ho h
 | makeSlice t y z=>exact qGx hC hi hρ t y z ho h
 | _=>rw [ho] at h;simp only [qb] at h;cases h
theorem qAl {k:TK} (h:qg0 k=true):k = .string:=by cases k<;>first | rfl | (simp [qg0] at h)
theorem qB6 {k:TK} (h:JQ k=true):∃ e s b z,k = .slice e s b z:=by
 cases k<;>first | exact ⟨_,_,_,_,rfl⟩ | (simp [JQ] at h)
theorem qG2 {d:TD} {t ty:TypeId} {ts:Array TypeId} (h0:ts[0]? = some t) (hd:yM P t=some d) {y:AV} {u:Value} (hr:Rep Γ y u) {n:Nat} (h:qeS d y=some n):(Builtin.len_ ts ty #[u]).run P w = .ok (.int .i64 n) w:=by
 obtain ⟨i,ud,z,p1,p2,p3,p4,p5,p6,p7,p8⟩:=TD.inv hd
 have str:qg0 d.k=true->ud = .string := λ h=>qdQ (by rw [p8,qAl h])
 have sl:JQ d.k=true->∃ e,ud = .slice e := λ h=>by
  obtain ⟨e,s,b,z,hk⟩:=qB6 h
  exact ⟨e,(JF (by rw [p8,hk])).1⟩
 have run:∀ e,ud = .slice e->∀ a m c,u = .slice a m c->(Builtin.len_ ts ty #[u]).run P w = .ok (.int .i64 m) w:=by
  intro e he a m c hu
  subst hu
  simp [Builtin.len_,h0,underlying,p2,he,goInt]
 cases hr with
 | v y hy =>
   simp only [qeS] at h
   split at h
   ·rename_i s hs
    cases hs
    split at h<;>cases h
    rename_i hs'
    simp [Builtin.len_,h0,underlying,p2,str hs',goInt,qjI]
   ·rename_i hs
    cases hs
    split at h<;>cases h
    rename_i hs'
    obtain ⟨e,he⟩:=sl hs'
    exact run e he _ _ _ rfl
   ·rename_i hs;cases hs
   ·rename_i hs;cases hs
   ·cases h
 | sl k es f a m cap b o us hn hc hf hk hp h0' ha hm hr =>
   simp only [qeS] at h
   split at h<;>cases h
   rename_i hs'
   obtain ⟨e,he⟩:=sl hs'
   rw [run e he _ _ _ rfl,hn]
   rfl
 | rs r lo m ep f a cap hr hc hf hl =>
   simp only [qeS] at h
   split at h<;>cases h
   rename_i hs'
   obtain ⟨e,he⟩:=sl hs'
   exact run e he _ _ _ rfl
 | _=>simp only [qeS] at h;cases h
theorem qIi (hC:∀ t d,C.ty t=some d->yM P t=some d) (hi:Inv Γ σ w) {b:Builtin} {ts:Array TypeId} {ty:TypeId} {cs:Array Bool} {args:List AV} {vals:List Value} (hr:RepL Γ args vals) (h:yu C σ b ts args=some (x,σ')) :
  (∃ v w' Γ',(builtin b ts ty cs vals.toArray).run P w = .ok (.value v) w'/\Ext Γ w Γ' w'/\Inv Γ' (turn σ σ') w'/\Rep Γ' x v)/\qM σ (turn σ σ'):=by
 unfold yu at h
 split at h
 ·rename_i y
  obtain ⟨u,r,rfl,hy,hr'⟩:=hr.uncons
  rw [hr'.nil_inv]
  split at h<;>try cases h
  rename_i t ht
  split at h<;>try cases h
  rename_i d hd
  split at h<;>cases h
  rename_i n hn
  exact ⟨⟨_,w,Γ,by simp [builtin,Sem.run_bind',qG2 ht (hC t d hd) hy hn],.refl _ _,hi,.v _ rfl⟩,.refl _⟩
 ·rename_i s y
  obtain ⟨u,r,rfl,hs,hr'⟩:=hr.uncons
  obtain ⟨u',r',rfl,hy,hr''⟩:=hr'.uncons
  rw [hr''.nil_inv]
  split at h<;>try cases h
  rename_i t t' ht ht'
  split at h<;>try (cases h;done)
  ·rename_i q1 q2 q3 q4 e k by' z q5 q6 q7 q8 e' k' b' z' hd hd'
   split at h<;>try cases h
   rename_i hk
   simp only [Bool.and_eq_true,decide_eq_true_eq] at hk
   split at h<;>try cases h
   rename_i xs hxs
   split at h<;>try cases h
   rename_i hu
   obtain ⟨v,w',Γ',g1,g2,g3,g4⟩:=que (ty:=ty) hC hi hs hy ht ht' hd hd' hk.1 hk.2 hxs hu h
   refine ⟨⟨v,w',Γ',by simp [builtin,Sem.run_bind',g1],g2,g3,g4⟩,?_⟩
   exact qlL h
  ·rename_i hd hd'
   split at h<;>try (cases h;done)
   rename_i b hk
   simp only [Bool.and_eq_true,decide_eq_true_eq] at hk
   have hyv:=qS hy
   subst hyv
   obtain ⟨v,w',Γ',g1,g2,g3,g4⟩:=quV (ty:=ty) hC hi hs ht ht' hd hd' hk.1 h
   refine ⟨⟨v,w',Γ',by simp [builtin,Sem.run_bind',g1],g2,g3,g4⟩,?_⟩
   exact qlL h
 ·rename_i k a k' b
  obtain ⟨u,r,rfl,hs,hr'⟩:=hr.uncons
  obtain ⟨u',r',rfl,hy,hr''⟩:=hr'.uncons
  rw [hr''.nil_inv,qS hs,qS hy]
  split at h<;>cases h
  rename_i hk
  have hk:=of_decide_eq_true hk
  subst hk
  exact ⟨⟨_,w,Γ,by simp [builtin,Sem.run_bind',Builtin.max_,Builtin.max2,qdD],.refl _ _,hi,.v _ rfl⟩,.refl _⟩
 ·rename_i k a k' b
  obtain ⟨u,r,rfl,hs,hr'⟩:=hr.uncons
  obtain ⟨u',r',rfl,hy,hr''⟩:=hr'.uncons
  rw [hr''.nil_inv,qS hs,qS hy]
  split at h<;>cases h
  rename_i hk
  have hk:=of_decide_eq_true hk
  subst hk
  exact ⟨⟨_,w,Γ,by simp [builtin,Sem.run_bind',Builtin.min_,Builtin.min2,qDn],.refl _ _,hi,.v _ rfl⟩,.refl _⟩
 ·cases h
end
end Go.AmZ
namespace Go.AmZ
open Go Go.RowKit
def jr (P:Program) (Γ : Gh) (σ : St) (w:World) (f:FuncId) (vals:List Value) (r:AV × Option St):Prop :=
 Calls P f vals.toArray w λ e w'=>∃ v Γ',e = .returned v/\Ext Γ w Γ' w'/\Inv Γ' (turn σ r.2) w'/\Rep Γ' r.1 v/\qM { σ with wr:=[],wrr:=[] } (turn { σ with wr:=[],wrr:=[] } r.2)
def qdw (P:Program) (f:FuncId):Prop:=∃ fn,P.funcs[f]? = some fn/\fn.body.isNone=false/\(fn.name == "runtime.NumGoroutine")=false
def qT (P:Program) (f:FuncId) (p:St->List AV->Option (AV × Option St)):Prop :=
 qdw P f/\∀ Γ σ w args vals r,Inv Γ σ w->RepL Γ args vals->p σ args=some r->jr P Γ σ w f vals r
structure yc (P:Program) (C:Cfg):Prop where
 mixed:P.follows .mixedOrders=true
 ty:∀ t d,C.ty t=some d->yM P t=some d
 fn:∀ f fn,C.fn f=some fn->P.funcs[f]? = some fn/\(fn.name == "runtime.NumGoroutine")=false/\∀ c,fn.body=some c->jq c=true
 prim:∀ f p,C.prim f=some p->qT P f p
theorem qcE {P:Program} {f:FuncId} (h:qdw P f) (args:Array Value) (w:World):(callFunc f args).run P w = .ok (.enter f args) w:=by
 obtain ⟨fn,h1,h2,h3⟩:=h
 have hp:(program).run P w = .ok P w:=rfl
 unfold callFunc
 simp only [Sem.run_bind,hp,Result.andThen_ok,h1,h3,h2,Bool.false_eq_true,if_false]
 rfl
abbrev zg (Γ : Gh) (tm:List AV) (a:Act):Prop:=RepL Γ tm a.tmps.toList
theorem zg.get {Γ : Gh} {tm:List AV} {a:Act} (h:zg Γ tm a) (t:Nat):Rep Γ (tm.getD t .dead) (a.tmps.getD t undef):=by
 rw [List.getD_eq_getElem?_getD]
 cases hx:tm[t]? with
 | none=>exact .dead _
 | some x =>
   obtain ⟨u,hu,hr⟩:=RepL.get h hx
   have:a.tmps.getD t undef=u:=by
    rw [Array.getElem?_toList] at hu
    simp [Array.getD_eq_getD_getElem?,hu]
   rw [this];exact hr
theorem qGd (Γ : Gh) (y:Value):Rep Γ (ofC y) y:=by
 unfold ofC
 split
 ·rename_i h;exact .v y h
 ·exact .dead _
theorem qyt (Γ : Gh) (y:Value):Rep Γ (qnx y) y:=by
 unfold qnx
 split
 ·rename_i cs
  split
  ·rename_i h
   obtain ⟨h1,h2⟩:=qdR (Γ := Γ) h
   have:=Rep.agg (Γ := Γ) (cs.toList.map .v) cs.toList h1.len h2 h1.rep
   simpa using this
  ·exact .dead _
 ·rename_i vs
  split
  ·rename_i h
   have:vs = #[]:=by rw [<- Array.toArray_toList (xs:=vs),h]
   subst this
   exact .tup [] [] rfl λ i x u h=>by simp at h
  ·exact .dead _
 ·exact qGd Γ _
theorem zg.ev {Γ : Gh} {tm:List AV} {a:Act} (h:zg Γ tm a) (y:Operand):Rep Γ (aev tm y) (a.eval y):=by
 cases y with
 | tmp t=>exact h.get t
 | const x=>exact qyt Γ x
 | func f=>exact .fn f [] [] rfl λ i x u h=>by simp at h
 | global g=>exact .dead _
theorem zg.put {Γ : Gh} {tm:List AV} {a:Act} (h:zg Γ tm a) (d:Option Tmp) {x:AV} {u:Value} (hr:Rep Γ x u):zg Γ (qaj tm d x) (a.put d u):=by
 cases d with
 | none=>exact h
 | some d =>
   show RepL Γ (tm.set d x) (a.tmps.setIfInBounds d u).toList
   rw [Array.toList_setIfInBounds]
   exact RepL.set h d hr
section
variable {P:Program} {C:Cfg} {Γ : Gh} {σ : St} {w:World}
theorem qjL (hC:∀ t d,C.ty t=some d->yM P t=some d) (hi:Inv Γ σ w) {fn:Func} {tm:List AV} {a:Act} (ht:zg Γ tm a) {r:AV} (h:qeI C fn ⟨tm,σ⟩=some r):∃ v,(results fn a.tmps).run P w = .ok v w/\Rep Γ r v:=by
 have key:∀ (rs:List ResultVar) (l:List AV),yZ C tm σ rs=some l->∃ vs:List Value,(rs.mapM (λ (x:ResultVar)=>(match x with
   | .tmp t=>pure (a.tmps.getD t undef)
   | .cell b t=>do loadVar t (<- asAddr (a.tmps.getD b undef)):Sem Value))).run P w = .ok vs w/\RepL Γ l vs:=by
  intro rs
  induction rs with
  | nil=>intro l h;simp only [yZ,Option.some.injEq] at h;subst h;exact ⟨[],by simp,.nil⟩
  | cons x rs ih =>
    intro l h
    simp only [yZ] at h
    split at h<;>try cases h
    rename_i y hy
    split at h<;>cases h
    rename_i ys hys
    obtain ⟨vs,g1,g2⟩:=ih ys hys
    have one:∃ v,(match x with
    | .tmp t=>pure (a.tmps.getD t undef)
    | .cell b t=>do loadVar t (<- asAddr (a.tmps.getD b undef)):Sem Value).run P w = .ok v w/\Rep Γ y v:=by
      cases x with
      | tmp t=>simp only [qgL,Option.some.injEq] at hy;subst hy;exact ⟨_,rfl,ht.get t⟩
      | cell b t =>
        simp only [qgL] at hy
        split at hy<;>try cases hy
        rename_i d hd
        obtain ⟨v,A,q1,q2,q3⟩:=qzy hi (hC t d hd) (ht.get b) hy
        refine ⟨v,?_,q3⟩
        simp [Sem.run_bind',q1,asAddr,q2]
    obtain ⟨v,e1,e2⟩:=one
    refine ⟨v::vs,?_,.cons e2 g2⟩
    rw [List.mapM_cons]
    simp only [Sem.run_bind,e1,Result.andThen_ok,g1]
    rfl
 simp only [qeI] at h
 split at h<;>cases h
 rename_i l hl
 obtain ⟨vs,g1,g2⟩:=key _ _ hl
 unfold results
 rw [Array.mapM_eq_mapM_toList]
 have hm:(List.toArray <$> (fn.results.toList.mapM (λ (x:ResultVar)=>(match x with
   | .tmp t=>pure (a.tmps.getD t undef)
   | .cell b t=>do loadVar t (<- asAddr (a.tmps.getD b undef)):Sem Value)))).run P w = .ok vs.toArray w:=by
  rw [Sem.run_map,g1];rfl
 refine ⟨if h:vs.toArray.size=1 then vs.toArray[0] else .tuple vs.toArray,?_,?_⟩
 ·rw [Sem.run_bind]
  exact (congrArg (λ r=>Result.andThen r _) hm).trans rfl
 ·unfold zw
  split
  ·rename_i y
   obtain ⟨u,rs,rfl,h1,h2⟩:=g2.uncons
   rw [h2.nil_inv]
   simpa using h1
  ·rename_i hne
   have:vs.toArray.size≠1:=by
    intro hs
    have hl:=g2.len
    simp only [List.size_toArray] at hs
    rw [hs] at hl
    match l,hl with
    | [y],_=>exact hne y rfl
   rw [dif_neg this]
   exact .tup _ _ g2.len g2.rep
def Ex.toExit:Ex->Exit
 | .normal => .normal
 | .exit id => .exit id
 | .ret => .ret
def qbj (P:Program) (ex:Qd):Prop :=
 ∀ c s e s',jq c=true->ex c s=some (e,s')->∀ Γ w a,Inv Γ s.σ w->zg Γ s.tm a->a.defers=[] ->
  c.wp P (λ e' a' w'=>e'=e.toExit/\a'.defers=[]/\∃ Γ',Ext Γ w Γ' w'/\Inv Γ' s'.σ w'/\zg Γ' s'.tm a'/\qM s.σ s'.σ) a w
theorem qdu (Γ : Gh):∀ n:Nat,RepL Γ (List.replicate n .dead) (List.replicate n undef)
 | 0 => .nil
 | n+1 => .cons (.dead _) (qdu Γ n)
theorem qvR (hC:yc P C) {ex:Qd} {f:FuncId} {args:List AV} {r:AV × Option St} (h:qbJ C ex σ f args=some r):qdw P f:=by
 unfold qbJ at h
 split at h
 ·rename_i p hp
  exact (hC.prim f p hp).1
 ·split at h<;>try cases h
  rename_i fn hfn
  split at h<;>try cases h
  rename_i c hc
  obtain ⟨h1,h2,_⟩:=hC.fn f fn hfn
  exact ⟨fn,h1,by rw [hc];rfl,h2⟩
theorem qv4 (hC:yc P C) {ex:Qd} (hx:qbj P ex) {f:FuncId} {args:List AV} {vals:List Value} {r:AV × Option St} (hi:Inv Γ σ w) (hr:RepL Γ args vals) (h:qbJ C ex σ f args=some r):jr P Γ σ w f vals r:=by
 unfold qbJ at h
 split at h
 ·rename_i p hp
  exact (hC.prim f p hp).2 Γ σ w args vals r hi hr h
 ·split at h<;>try cases h
  rename_i fn hfn
  split at h<;>try cases h
  rename_i c hc
  obtain ⟨h1,h2,h3⟩:=hC.fn f fn hfn
  have go:∀ e s',ex c (qea fn σ args)=some (e,s')->(e = .ret\/e = .normal)->qfp C fn σ s'=some r->jr P Γ σ w f vals r:=by
   intro e s' he hee hl
   unfold jr
   refine calls_of_wp h1 hc ?_
   have hi':Inv Γ (qea fn σ args).σ w:=hi.wr rfl rfl
   have ht:zg Γ (qea fn σ args).tm { tmps:=vals.toArray++Array.replicate (fn.ntmps-vals.toArray.size) undef,defers:=[] }:=by
    show RepL Γ (args++List.replicate (fn.ntmps-args.length) .dead) (vals.toArray++Array.replicate (fn.ntmps-vals.toArray.size) undef).toList
    rw [Array.toList_append,Array.toList_replicate]
    have:vals.toArray.size=args.length:=by simpa using hr.len
    rw [this]
    exact hr.append (qdu Γ _)
   refine wp_mono (hx c _ e s' (h3 c hc) he Γ w _ hi' ht rfl) ?_
   rintro e' a' w' ⟨rfl,hd,Γ',g1,g2,g3,g4⟩
   unfold qfp at hl
   split at hl<;>cases hl
   rename_i rv hrv
   obtain ⟨v,q1,q2⟩:=qjL hC.ty g2 g3 hrv
   obtain ⟨⟨Γ2,u1,u2,u3⟩,u4⟩:=qBe hi g1 g2 g4 q2
   have:a'.defers=[]/\∃ v,(results fn a'.tmps).run P w' = .ok v w'/\∃ v_1 Γ',Ending.returned v = .returned v_1/\Ext Γ w Γ' w'/\Inv Γ' (turn σ (JS σ rv s'.σ).2) w'/\Rep Γ' (JS σ rv s'.σ).1 v_1/\qM { σ with wr:=[],wrr:=[] } (turn { σ with wr:=[],wrr:=[] } (JS σ rv s'.σ).2) :=
    ⟨hd,v,q1,v,Γ2,rfl,u1,u2,u3,u4⟩
   rcases hee with rfl | rfl
   ·exact this
   ·exact this
  split at h
  ·rename_i s' he;exact go _ _ he (.inl rfl) h
  ·rename_i s' he;exact go _ _ he (.inr rfl) h
  ·cases h
def qi4 (P:Program) (Γ : Gh) (σ : St) (w:World) (f:FuncId) (vals:List Value) (r:AV × Option St):Prop :=
 Calls P f vals.toArray w λ e w'=>∃ v Γ',e = .returned v/\Ext Γ w Γ' w'/\Inv Γ' (turn σ r.2) w'/\Rep Γ' r.1 v/\qM σ (turn σ r.2)
theorem qpR {bs rs:List Nat} (hs:qcR σ bs rs):∀ {args:List AV} {vals:List Value},RepL Γ args vals->(∀ b∈rbL args,b∈bs)->(∀ r∈rrL args,r∈rs)->RepL (QN Γ bs rs) (qO (λ b=>bs.idxOf b) (λ r=>rs.idxOf r) args) vals
 | [],vals,h,_,_=>by rw [h.nil_inv];exact .nil
 | x::args,vals,h,hb,hr=>by
   obtain ⟨u,us,rfl,h1,h2⟩:=h.uncons
   exact .cons (qs8 hs h1 (λ b hx=>hb b (by simp [rbL,hx])) λ r hx=>hr r (by simp [rrL,hx])) (qpR hs h2 (λ b hx=>hb b (by simp [rbL,hx])) λ r hx=>hr r (by simp [rrL,hx]))
theorem qo0 {f:FuncId} {args:List AV} {vals:List Value} {call:St->List AV->Option (AV × Option St)} (hc:∀ Γ σ args r,Inv Γ σ w->RepL Γ args vals->call σ args=some r->jr P Γ σ w f vals r)
  {r:AV × Option St} (hi:Inv Γ σ w) (hr:RepL Γ args vals) (h:JH σ args call=some r):qi4 P Γ σ w f vals r:=by
 unfold JH at h
 split at h<;>try cases h
 rename_i hs0
 obtain ⟨hs,hb,hrr⟩:=qBU hs0
 split at h<;>cases h
 rename_i r hcall
 refine (hc _ _ _ _ (qyS hs hi) (qpR hs hr hb hrr) hcall).mono ?_
 rintro e w' ⟨v,Γs,he,hx,hj,hrep,hk⟩
 have hrep':=qjJ hs hi hx hrep
 rw [hi.nb,hi.nr] at hrep'
 obtain ⟨r1,r2⟩:=r
 cases r2 with
 | none =>
   refine ⟨v,_,he,qxv hs hi hx,?_,hrep',.refl _⟩
   have hb:=qwo hs hi hx hj
   obtain ⟨e1,e2⟩:=qxu hs
   exact hb.wr e1.symm e2.symm
 | some σs=>exact ⟨v,_,he,qxv hs hi hx,qwo hs hi hx hj,hrep',qz5 hs hk⟩
theorem qi4.after {f:FuncId} {vals:List Value} {Γ1:Gh} {σ1:St} {r:AV × Option St} (h:qi4 P Γ1 σ1 w f vals r) (hx:Ext Γ w Γ1 w) (hk:qM σ σ1):qi4 P Γ σ w f vals (match r with | (x,none)=>(x,some σ1) | r=>r):=by
 refine Calls.mono h ?_
 rintro e w' ⟨v,Γ',he,h1,h2,h3,h4⟩
 obtain ⟨r1,r2⟩:=r
 cases r2 with
 | none=>exact ⟨v,Γ',he,hx.trans h1,h2,h3,hk.trans h4⟩
 | some σs=>exact ⟨v,Γ',he,hx.trans h1,h2,h3,hk.trans h4⟩
theorem qpB (hi:Inv Γ σ w) {m:Nat->Nat->Option Value} (hl:Le Γ { Γ with mem:=m }):∀ {args:List AV} {vals:List Value},(∀ r∈args.flatMap rsA,∀ R,σ.rw[r]? = some R->js { Γ with mem:=m } r R)->RepL Γ args vals->RepL { Γ with mem:=m } (args.map (ju σ.rw)) vals
 | [],vals,_,h=>by rw [h.nil_inv];exact .nil
 | x::args,vals,hf,h=>by
   obtain ⟨u,us,rfl,h1,h2⟩:=h.uncons
   exact .cons (qtn hi hl (λ r hr=>hf r (by simp [hr])) h1) (qpB hi hl (λ r hr=>hf r (by simp only [List.flatMap_cons,List.mem_append];exact .inr hr)) h2)
theorem qEd {Γ Γ':Gh} {x:AV} {u:Value} (h:qc8 x=true) (hr:Rep Γ x u):Rep Γ' x u:=by
 cases hr with
 | v _ hb=>exact .v _ hb
 | tup cs us hn hr =>
   refine .tup cs us hn λ i x u hx hu=>?_
   have hv:isV x=true:=(List.all_eq_true.1 h) x (List.mem_of_getElem? hx)
   have:=hr i x u hx hu
   cases x with
   | v y=>have:=qS this;subst this;exact .v _ (by have:=hr i _ _ hx hu;cases this;assumption)
   | _=>cases hv
 | _=>cases h
theorem qGI {args:List AV} (h1:rbL args=[]) (h2:rrL args=[]):Qk σ args=[]/\qbE σ args=[]:=by
 have hb:Qk σ args=[]:=by
  unfold Qk
  rw [h1]
  show qiV σ.bx σ.bx.length []=[]
  cases σ.bx.length with
  | zero=>rfl
  | succ n=>rfl
 refine ⟨hb,?_⟩
 unfold qbE
 rw [hb,h2]
 rfl
theorem qzQ {f:FuncId} {args:List AV} {vals:List Value} {call:St->List AV->Option (AV × Option St)} (hc:∀ Γ σ args r,Inv Γ σ w->RepL Γ args vals->call σ args=some r->jr P Γ σ w f vals r)
  {x:AV} {Γ0:Gh} {σ0:St} (h0:Inv Γ0 σ0 w) (hi:Inv Γ σ w) (hr:RepL Γ args vals) (h:JH σ args call=some (x,none)) (h1:rbL args=[]) (h2:rrL args=[]) (hx:qc8 x=true):qi4 P Γ0 σ0 w f vals (x,none):=by
 obtain ⟨i1,i2⟩:=qGI (σ := σ) h1 h2
 unfold JH at h
 split at h<;>try cases h
 rename_i hs0
 obtain ⟨hs,hb,hrr⟩:=qBU hs0
 split at h<;>try cases h
 rename_i r hcall
 have hback:=Option.some.inj h
 rw [i1,i2] at hs
 refine (hc _ _ _ _ (qyS (by rw [i1,i2];exact hs) hi) (qpR (by rw [i1,i2];exact hs) hr hb hrr) hcall).mono ?_
 rintro e w' ⟨v,Γs,he,hx',hj,hrep,hk⟩
 rw [i1,i2] at hx'
 have hrep':=qjJ hs hi hx' hrep
 rw [hi.nb,hi.nr] at hrep'
 have hxe:x=ren (zl [] σ.bx.length) (zl [] σ.rw.length) r.1:=by
  rw [i1,i2] at hback
  obtain ⟨r1,r2⟩:=r
  cases r2<;>cases hback
  rfl
 rw [<- hxe] at hrep'
 have hbl:Below w.heap.size w w':=⟨hx'.os,hx'.tape,hx'.output,hx'.size,λ b hb=>hx'.block b hb λ ho=>by
  rcases ho with ⟨i,hi,_⟩ | ⟨i,hi,_⟩<;>exact absurd hi (Nat.not_lt_zero _)⟩
 exact ⟨v,Γ0,he,qcr hbl hx'.drawn,h0.later hbl,qEd hx hrep',.refl _⟩
theorem qCI (hC:yc P C) {ex:Qd} (hx:qbj P ex) {f:FuncId} {args:List AV} {vals:List Value} {r:AV × Option St} (hi:Inv Γ σ w) (hr:RepL Γ args vals) (h:qev C ex σ f args=some r):qi4 P Γ σ w f vals r:=by
 have hc:∀ Γ σ args r,Inv Γ σ w->RepL Γ args vals->qbJ C ex σ f args=some r->jr P Γ σ w f vals r := λ _ _ _ _=>qv4 hC hx
 unfold qev at h
 unfold qfj at h
 cases hraw:C.raw f with
 | true =>
   rw [hraw] at h
   exact qo0 hc hi hr h
 | false =>
   rw [hraw] at h
   simp only at h
   cases hrs:args.flatMap rsA with
   | nil =>
     rw [hrs] at h
     exact qo0 hc hi (qpB (m := Γ.mem) hi (Le.refl _) (by rw [hrs];intro r hr;cases hr) hr) h
   | cons q l =>
     rw [hrs] at h
     simp only [qqr] at h
     obtain ⟨m,m1,m2,m3⟩:=qa0 (q::l) hi ((q::l) ++ σ.wrr)
     have ha:=qpB hi m1.le (by rw [hrs];exact m3) hr
     cases hcb:JH { σ with rw:=frz σ.rw (q::l),wrr:=(q::l) ++ σ.wrr } (args.map (ju σ.rw)) (λ σ args=>qbJ C ex σ f args) with
     | none=>rw [hcb] at h;cases h
     | some r0 =>
       rw [hcb] at h
       have:=(qo0 hc m2 ha hcb).after (qja m1 w) (qmr (q::l))
       obtain ⟨x,o⟩:=r0
       cases o with
       | none =>
         simp only at h
         split at h
         ·rename_i hs
          cases h
          simp only [Bool.and_eq_true,List.isEmpty_iff] at hs
          exact qzQ hc hi m2 ha hcb hs.1.2 hs.2 hs.1.1
         ·cases h;exact this
       | some σs=>cases h;exact this
theorem qrJ {args:List AV} {call:St->List AV->Option (AV × Option St)} {r:AV × Option St} (h:JH σ args call=some r):∃ σ' args' r',call σ' args'=some r':=by
 unfold JH at h
 split at h<;>try cases h
 split at h<;>cases h
 exact ⟨_,_,_,by assumption⟩
theorem qBG (hC:yc P C) {ex:Qd} {f:FuncId} {args:List AV} {r:AV × Option St} (h:qev C ex σ f args=some r):qdw P f:=by
 unfold qev at h
 split at h
 ·obtain ⟨_,_,_,h'⟩:=qrJ h;exact qvR hC h'
 ·rename_i σ' _
  cases hcb:JH σ' _ (λ σ args=>qbJ C ex σ f args) with
  | none=>rw [hcb] at h;cases h
  | some r0=>obtain ⟨_,_,_,h'⟩:=qrJ hcb;exact qvR hC h'
theorem qAU (hC:yc P C) {ex:Qd} (hx:qbj P ex) {tm:List AV} {a:Act} {o:Oper} {x:AV} {σ':Option St} (hi:Inv Γ σ w) (ht:zg Γ tm a) (h:opA C ex tm σ o.op=some (x,σ')):qGY P Γ σ w o a x σ':=by
 by_cases hcall:∃ c,o.op = .call c
 ·obtain ⟨c,ho⟩:=hcall
  rw [ho] at h
  have hargs:RepL Γ (c.args.toList.map (aev tm)) (c.args.toList.map a.eval):=qpu ht.ev _
  simp only [opA] at h
  split at h
  ·rename_i b hb
   obtain ⟨⟨v,w',Γ',h1,h2,h3,h4⟩,hk⟩:=qIi (P:=P) (ty:=o.type) (cs:=c.args.map λ | .const _=>true | _=>false) hC.ty hi hargs h
   refine QF.wp ⟨_,v,w',Γ',?_,.inl rfl,h2,h3,h4⟩ hk
   have e:(c.args.toList.map a.eval).toArray=c.args.map a.eval:=by rw [<- Array.toList_map]
   rw [e] at h1
   unfold execOp
   rw [ho]
   simp only [resolve,hb,Sem.run_bind]
   exact h1
  ·split at h<;>try cases h
   rename_i f caps hcal
   have hcv:∃ g,c.callee = .value g/\aev tm g = .fn f caps:=by
    unfold qgM at hcal
    split at hcal<;>try cases hcal
    rename_i g hg
    split at hcal<;>cases hcal
    rename_i hf
    exact ⟨g,hg,hf⟩
   obtain ⟨g,hg,hf⟩:=hcv
   have hfr:=hf▸ht.ev g
   generalize hgv:a.eval g=gv at hfr
   cases hfr with
   | fn f caps us hn hrr =>
     have hfn:=qBG hC h
     have hcl:=qCI hC hx hi (hargs.append (RepL.mk hn hrr)) h
     intro next Q hnext
     unfold Oper.wp
     have hrun:(execOp a.eval o).run P w = .ok (.enter f ((c.args.toList.map a.eval++us).toArray)) w:=by
      unfold execOp
      rw [ho]
      simp only [resolve,hg,hgv,Deferred.ofValue,Sem.run_bind]
      have e:c.args.map a.eval++us.toArray=(c.args.toList.map a.eval++us).toArray:=by
       rw [<- Array.toList_map];simp
      rw [<- e,Array.empty_append]
      exact qcE hfn _ w
     rw [hrun,Oper.upon_enter]
     refine Calls.mono hcl ?_
     rintro e w' ⟨v,Γ',rfl,h1,h2,h3,h4⟩
     exact hnext v w' Γ' h1 h2 h3 h4
 ·have h':qb C tm σ o.op=some (x,σ'):=by
    unfold opA at h
    split at h
    ·rename_i c hc;exact absurd ⟨c,hc⟩ hcall
    ·exact h
  exact (qIf hC.ty hi ht.ev h').wp (qzM h')
end
end Go.AmZ
namespace Go.AmZ
open Go Go.RowKit
section
variable {P:Program} {C:Cfg} {Γ : Gh} {σ : St} {w:World} {ops:Array Oper}
theorem qeH {tm:List AV} {a:Act} {o:Oper} {b:Bool} (ht:zg Γ tm a) (h:ya ops tm o=some b):Region.wanted o (yielded ops a.tmps)=b:=by
 unfold ya at h
 unfold Region.wanted
 split at h
 ·rename_i hg;cases h;rw [hg]
 ·rename_i j want hg
  rw [hg]
  simp only
  split at h<;>try cases h
  rename_i d hd
  have hr:=ht.get d
  unfold yielded
  rw [hd]
  simp only [Option.bind_some]
  split at h
  ·rename_i c hc
   cases h
   rw [hc] at hr
   have:=qS hr
   rw [Array.getD_eq_getD_getElem?] at this
   cases hx:a.tmps[d]? with
   | none=>rw [hx] at this;cases this
   | some v=>rw [hx] at this;cases this;simp [qd2]
  ·rename_i hc
   cases h
   rw [hc] at hr
   generalize hu:a.tmps.getD d undef=u at hr
   cases hr with
   | tup cs us hn hrr =>
     rw [Array.getD_eq_getD_getElem?] at hu
     cases hx:a.tmps[d]? with
     | none=>simp
     | some v=>rw [hx] at hu;simp at hu;subst hu;simp
  ·cases h
theorem qwJ (hC:yc P C) {ex:Qd} (hx:qbj P ex) {draw:Bool} {Q:Exit->Act->World->Prop} {s':S}:∀ (rest:List Oper) (i:Nat) (s:S) (Γ : Gh) (w:World) (a:Act),(∀ j,rest[j]? = ops[i+j]?)->zr C ex ops draw rest s=some s'->Inv Γ s.σ w->zg Γ s.tm a ->
  (∀ Γ' w' a',Ext Γ w Γ' w'->Inv Γ' s'.σ w'->zg Γ' s'.tm a'->qM s.σ s'.σ -> a'.defers=a.defers->Q .normal a' w')->wpOps P ops Q (List.range' i rest.length) a w
 | [],i,s,Γ,w,a,_,h,hi,ht,hq=>by
   simp only [zr,Option.some.injEq] at h
   subst h
   exact hq Γ w a (.refl _ _) hi ht (.refl _) rfl
 | o::rest,i,s,Γ,w,a,hl,h,hi,ht,hq=>by
   have ho:ops[i]? = some o:=by simpa using (hl 0).symm
   have hl':∀ j,rest[j]? = ops[i+1+j]? := λ j=>by have:=hl (j+1);simpa [Nat.add_assoc,Nat.add_comm 1 j] using this
   simp only [List.length_cons,List.range'_succ,wpOps,ho]
   have go:∀ x σ',opA C ex s.tm s.σ o.op=some (x,σ')->zr C ex ops draw rest ⟨qaj s.tm o.dst x,turn s.σ σ'⟩=some s'->o.wp P a w (wpOps P ops Q (List.range' (i+1) rest.length)) Q:=by
    intro x σ' hop hrun
    refine qAU hC hx hi ht hop _ _ ?_
    intro u w' Γ' e1 e2 e3 e4
    refine qwJ hC hx rest (i+1) _ Γ' w' _ hl' hrun e2 (zg.put (RepL.mono e1.le ht) o.dst e3) ?_
    intro Γ2 w2 a2 g1 g2 g3 g4 g5
    exact hq Γ2 w2 a2 (e1.trans g1) g2 g3 (e4.trans g4) (by rw [g5];cases hd:o.dst<;>rfl)
   simp only [zr] at h
   split at h
   ·rename_i hw
    rw [if_pos (qeH ht hw)]
    left
    split at h
    ·rename_i x hop
     exact go x none hop h
    ·rename_i x σ' hop
     split at h
     ·cases h
     ·exact go x (some σ') hop h
    ·cases h
   ·rename_i hw
    rw [if_neg (by rw [qeH ht hw];exact Bool.false_ne_true)]
    refine qwJ hC hx rest (i+1) _ Γ w _ hl' h hi (zg.put ht o.dst (.tup [] [] rfl λ i x u h=>by simp at h)) ?_
    intro Γ2 w2 a2 g1 g2 g3 g4 g5
    exact hq Γ2 w2 a2 g1 g2 g3 g4 (by rw [g5];cases hd:o.dst<;>rfl)
   ·cases h
end
end Go.AmZ
namespace Go.AmZ
open Go Go.RowKit
section
variable {P:Program} {C:Cfg} {Γ : Gh} {σ : St} {w:World} {ops:Array Oper} {ex:Qd}
def JW (C:Cfg) (ex:Qd) (ops:Array Oper) (o:Oper) (s:S) (y:AV × Option St):Prop :=
 (ya ops s.tm o=some true/\opA C ex s.tm s.σ o.op=some y)\/(ya ops s.tm o=some false/\y=(qgU,none))
def z8 (s:S) (o:Oper) (y:AV × Option St):S:=⟨qaj s.tm o.dst y.1,turn s.σ y.2⟩
def F (ops:List Oper) (l:List (AV × Option St)) (s0:S) (L:Nat->Bool):Nat->S
 | 0=>s0
 | k+1=>match ops[k]?,l[k]?,L k with
   | some o,some y,true=>z8 (F ops l s0 L k) o y
   | _,_,_=>F ops l s0 L k
def ql:Nat->Bool := λ _=>true
theorem qqA (o:Oper) (rest:List Oper) (y:AV × Option St) (l:List (AV × Option St)) (s:S):∀ k,F (o::rest) (y::l) s ql (k+1)=F rest l (z8 s o y) ql k
 | 0=>rfl
 | k+1=>by
   show (match (o::rest)[k+1]?,(y::l)[k+1]?,ql (k+1) with
    | some o',some y',true=>z8 (F (o::rest) (y::l) s ql (k+1)) o' y'
    | _,_,_=>F (o::rest) (y::l) s ql (k+1))=_
   rw [qqA o rest y l s k]
   simp only [List.getElem?_cons_succ]
   rfl
theorem qfA:∀ (rest:List Oper) (s s':S),zr C ex ops true rest s=some s'->∃ l,l.length=rest.length/\F rest l s ql rest.length=s' /\
  (∀ i o,rest[i]? = some o->∃ y,l[i]? = some y/\JW C ex ops o (F rest l s ql i) y/\(y.2.isSome=true->zK C.lo o.op=true)) /\
  ∀ i o y,rest[i]? = some o->l[i]? = some y->y.2.isSome=true->qaI C ops (ops.size-(rest.length-i)) (F rest l s ql i).tm (F rest l s ql i).σ o.op=true
 | [],s,s',h=>by
   simp only [zr,Option.some.injEq] at h
   exact ⟨[],rfl,h,λ i o hi=>by simp at hi,λ i o y hi=>by simp at hi⟩
 | o::rest,s,s',h=>by
   have go:∀ y,JW C ex ops o s y->(y.2.isSome=true->zK C.lo o.op=true/\qaI C ops (ops.size-(rest.length+1)) s.tm s.σ o.op=true)->zr C ex ops true rest (z8 s o y)=some s'->∃ l,l.length=(o::rest).length/\F (o::rest) l s ql (o::rest).length=s' /\
     (∀ i o',(o::rest)[i]? = some o'->∃ y,l[i]? = some y/\JW C ex ops o' (F (o::rest) l s ql i) y/\(y.2.isSome=true->zK C.lo o'.op=true)) /\
     ∀ i o' y,(o::rest)[i]? = some o'->l[i]? = some y->y.2.isSome=true->qaI C ops (ops.size-((o::rest).length-i)) (F (o::rest) l s ql i).tm (F (o::rest) l s ql i).σ o'.op=true:=by
    intro y hy hloud hrun
    obtain ⟨l,h1,h2,h3,h4⟩:=qfA rest _ s' hrun
    refine ⟨y::l,by simp [h1],?_,λ i o' hi=>?_,λ i o' y' hi hy' hs=>?_⟩
    ·rw [List.length_cons,qqA];exact h2
    ·cases i with
     | zero=>simp at hi;subst hi;exact ⟨y,rfl,hy,λ h=>(hloud h).1⟩
     | succ i =>
       rw [qqA]
       simpa using h3 i o' (by simpa using hi)
    ·cases i with
     | zero=>simp at hi hy';subst hi;subst hy';exact (hloud hs).2
     | succ i =>
       rw [qqA,List.length_cons,Nat.add_sub_add_right]
       exact h4 i o' y' (by simpa using hi) (by simpa using hy') hs
   simp only [zr] at h
   split at h
   ·rename_i hw
    split at h
    ·rename_i x hop
     exact go (x,none) (.inl ⟨hw,hop⟩) (by simp) h
    ·rename_i x σ' hop
     split at h
     ·cases h
     ·rename_i hl
      exact go (x,some σ') (.inl ⟨hw,hop⟩) (λ _=>by simpa using hl) h
    ·cases h
   ·rename_i hw
    exact go (qgU,none) (.inr ⟨hw,rfl⟩) (by simp) h
   ·cases h
theorem qlQ {tm tm':List AV} {xs:List Operand} (h:∀ t∈xs.filterMap (λ | .tmp t=>some t | _=>none),tm.getD t .dead=tm'.getD t .dead):∀ x∈xs,aev tm x=aev tm' x:=by
 intro x hx
 cases x with
 | tmp t=>exact h t (List.mem_filterMap.2 ⟨_,hx,rfl⟩)
 | _=>rfl
theorem qoI {tm tm':List AV} {op:Op} (h:∀ x∈op.operands.toList,aev tm x=aev tm' x):opA C ex tm σ op=opA C ex tm' σ op:=by
 have pairs:∀ ps:Array (Nat × Operand),(∀ x∈ps.toList.map (·.2),aev tm x=aev tm' x)->(ps.toList.map λ p=>(p.1,aev tm p.2))=ps.toList.map λ p=>(p.1,aev tm' p.2) := λ ps hp =>
  List.map_congr_left λ p hm=>by rw [hp p.2 (List.mem_map.2 ⟨p,hm,rfl⟩)]
 cases op with
 | call c =>
   have ha:c.args.toList.map (aev tm)=c.args.toList.map (aev tm'):=List.map_congr_left λ x hx=>h x (by
    simp only [Op.operands,Call.operands]
    cases c.callee<;>simp [hx]<;>(right;simpa using hx))
   simp only [opA,ha]
   cases hc:c.callee with
   | builtin b=>rfl
   | value f =>
     have hf:aev tm f=aev tm' f:=h f (by simp [Op.operands,Call.operands,hc])
     simp only [qgM,hf]
   | invoke r n=>rfl
 | build t ps=>simp only [opA,qb,pairs ps (λ x hx=>h x (by simpa [Op.operands] using hx))]
 | buildSlice t n ps =>
   have hp:=pairs ps (λ x hx=>h x (by simpa [Op.operands] using hx))
   have e1:(ps.toList.flatMap λ p=>rsA (aev tm p.2))=ps.toList.flatMap λ p=>rsA (aev tm' p.2):=by
    have:=congrArg (λ l=>List.flatMap (λ p:Nat × AV=>rsA p.2) l) hp
    simpa [List.flatMap_map] using this
   have e2:(ps.toList.map λ p=>(cellsOf (aev tm p.2)).map (qW σ.rw))=ps.toList.map λ p=>(cellsOf (aev tm' p.2)).map (qW σ.rw):=by
    have:=congrArg (λ l=>List.map (λ p:Nat × AV=>(cellsOf p.2).map (qW σ.rw)) l) hp
    simpa [List.map_map,Function.comp] using this
   simp only [opA,qb,hp,e1,e2]
 | makeFunc f fs cs =>
   have hcs:cs.toList.map (aev tm)=cs.toList.map (aev tm'):=List.map_congr_left λ x hx=>h x (by simp only [Op.operands,Array.toList_append,List.mem_append];exact .inr hx)
   cases f<;>simp only [opA,qb,hcs]
 | slice t x lo hi m =>
   cases m with
   | some m=>simp [opA,qb]
   | none =>
     have h1:aev tm x=aev tm' x:=h x (by simp [Op.operands])
     have h2:lo.map (aev tm)=lo.map (aev tm'):=by
      cases lo with
      | none=>rfl
      | some y=>simp only [Option.map_some];rw [h y (by simp [Op.operands])]
     have h3:hi.map (aev tm)=hi.map (aev tm'):=by
      cases hi with
      | none=>rfl
      | some y=>simp only [Option.map_some];rw [h y (by simp [Op.operands])]
     simp only [opA,qb,h1,h2,h3]
 | move x=>simp only [opA,qb,h x (by simp [Op.operands])]
 | assign x=>simp only [opA,qb,h x (by simp [Op.operands])]
 | pick c a b=>simp only [opA,qb,h c (by simp [Op.operands]),h a (by simp [Op.operands]),h b (by simp [Op.operands])]
 | box e x=>simp only [opA,qb,h x (by simp [Op.operands])]
 | load t x=>simp only [opA,qb,h x (by simp [Op.operands])]
 | store t x y=>simp only [opA,qb,h x (by simp [Op.operands]),h y (by simp [Op.operands])]
 | makeSlice t x y=>simp only [opA,qb,h x (by simp [Op.operands]),h y (by simp [Op.operands])]
 | nilCheck x=>simp only [opA,qb,h x (by simp [Op.operands])]
 | binOp op t x y u=>simp only [opA,qb,h x (by simp [Op.operands]),h y (by simp [Op.operands])]
 | unOp op t x=>simp only [opA,qb,h x (by simp [Op.operands])]
 | convert s t x=>simp only [opA,qb,h x (by simp [Op.operands])]
 | fieldAddr t x i=>simp only [opA,qb,h x (by simp [Op.operands])]
 | field t x i=>simp only [opA,qb,h x (by simp [Op.operands])]
 | indexAddr t x y=>simp only [opA,qb,h x (by simp [Op.operands]),h y (by simp [Op.operands])]
 | index t x y=>simp only [opA,qb,h x (by simp [Op.operands]),h y (by simp [Op.operands])]
 | extract x i=>simp only [opA,qb,h x (by simp [Op.operands])]
 | _=>simp only [opA,qb]
theorem qj9 {tm tm':List AV} {o:Oper} (h:∀ t∈qcG ops o,tm.getD t .dead=tm'.getD t .dead):ya ops tm o=ya ops tm' o:=by
 unfold ya
 cases hg:o.guard with
 | none=>rfl
 | some p =>
   obtain ⟨j,want⟩:=p
   simp only
   cases hd:(ops[j]?).bind (·.dst) with
   | none=>rfl
   | some d =>
     simp only
     rw [h d (by simp [qcG,hg,hd])]
theorem qml {x:AV} (h:rsC x=[]) (rw rw':List Row):qW rw' x=qW rw x:=by
 cases x<;>first | rfl | (cases h;done)
theorem qiB {x:AV} (h:rsA x=[]):∀ c∈cellsOf x,rsC c=[]:=by
 cases x with
 | agg cs=>exact λ c hc=>List.flatMap_eq_nil_iff.1 h c hc
 | _=>intro c hc;rw [List.mem_singleton.1 hc];exact h
theorem qyf {ps:List (Nat × AV)} (h:∀ p∈ps,rsA p.2=[]) (k n:Nat) (rw rw':List Row):qeK k n rw' ps=qeK k n rw ps:=by
 unfold qeK
 congr 1
 rw [Bool.eq_iff_iff,List.all_eq_true,List.all_eq_true]
 have e:∀ p∈ps.zipIdx,((cellsOf p.1.2).all λ x=>qt (qW rw' x))=(cellsOf p.1.2).all λ x=>qt (qW rw x) := λ p hp=>by
  have hm:p.1∈ps:=(List.mem_zipIdx_iff_getElem?.1 hp) |> λ h=>List.mem_of_getElem? h
  rw [Bool.eq_iff_iff,List.all_eq_true,List.all_eq_true]
  exact ⟨λ g x hx=>by rw [<- qml (qiB (h _ hm) x hx) rw rw'];exact g x hx,λ g x hx=>by rw [qml (qiB (h _ hm) x hx) rw rw'];exact g x hx⟩
 exact ⟨λ g p hp=>by rw [<- e p hp];exact g p hp,λ g p hp=>by rw [e p hp];exact g p hp⟩
theorem qx0 {tm:List AV} {τ : St} {op:Op} {x:AV} (hr:Qz op=false) (hl:zK C.lo op=false) (h:opA C ex tm σ op=some (x,none)):opA C ex tm τ op=some (x,none):=by
 cases op with
 | call c =>
   obtain ⟨cl,ar,at'⟩:=c
   cases cl with
   | builtin b =>
     cases b<;>try (simp [Qz] at hr;done)
     all_goals
      simp only [opA] at h |-
      rw [<- h]
      generalize ar.toList.map (aev tm)=args
      unfold yu
      rcases args with _ | ⟨p,_ | ⟨q,_ | ⟨r,l⟩⟩⟩<;>first
       | rfl
       | (cases p<;>first | rfl | (rename_i v;cases v<;>first | rfl | (cases q<;>first | rfl | (rename_i v';cases v'<;>rfl))))
   | value f=>simp [Qz] at hr
   | invoke r n=>simp [Qz] at hr
 | load t x=>simp [Qz] at hr
 | store t x y=>simp [Qz] at hr
 | buildSlice t n ps =>
   simp only [opA,qb] at h |-
   split at h<;>try cases h
   rename_i hd
   split at h<;>try cases h
   rename_i hp
   split at h<;>cases h
   rename_i hf
   have hn:∀ p∈ps.toList.map (λ p=>(p.1,aev tm p.2)),rsA p.2=[] := λ p hp=>by
    obtain ⟨q,hq,rfl⟩:=List.mem_map.1 hp
    exact List.flatMap_eq_nil_iff.1 hf q hq
   rw [qyf hn _ _ σ.rw τ.rw,hp]
   simp only [hf]
   congr 3
   refine List.map_congr_left λ p hp=>List.map_congr_left λ c hc=>?_
   exact qml (qiB (List.flatMap_eq_nil_iff.1 hf p hp) c hc) _ _
 | indexAddr t x y=>simp [Qz] at hr
 | convert a b y=>simp [Qz] at hr
 | slice t x lo hi m =>
   cases m with
   | some m=>exact h
   | none =>
     simp only [opA,qb] at h
     split at h
     ·rename_i hd hp;simp only [opA,qb,hd,hp];exact h
     ·rename_i hd hp;simp only [opA,qb,hd,hp];exact h
     ·rename_i hd hp;simp only [opA,qb,hd,hp];exact h
     ·exfalso
      repeat' (first | (cases h;done) | split at h)
     ·cases h
 | alloc e =>
   simp only [opA,qb] at h
   repeat' (first | (cases h;done) | split at h)
 | box e y =>
   simp only [opA,qb] at h
   repeat' (first | (cases h;done) | split at h)
 | makeFunc f fs cs=>cases f<;>exact h
 | makeSlice t a b =>
   simp only [opA,qb] at h |-
   split at h<;>try cases h
   split at h<;>try cases h
   rename_i hc
   split at h<;>cases h
   rename_i hn
   simp only [hc,hn]
 | _=>exact h
end
end Go.AmZ
