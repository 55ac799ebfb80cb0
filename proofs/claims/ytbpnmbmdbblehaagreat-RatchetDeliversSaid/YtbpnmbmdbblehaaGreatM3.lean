/- Part 3 of what the proofs stand on: plain functions of the program, and that they are its functions. -/
import Derived.Test.YtbpnmbmdbblehaaGreatM2
import Derived.KernelRfl
import Derived.Test.YtbpnmbmdbblehaaGreatProg
import Derived.Test.YtbpnmbmdbblehaaGreatM1
import Derived.Shelf.Small.Strs
import Derived.Laws.OwnMore
import Derived.OneCell
import Derived.Deep.DeepAppendRoom
import Derived.Deep.Onto
import Derived.ArgAppend
import Derived.Deep.RegionLaw
import Derived.Laws.CopyOwn
import Derived.Lib.AppendZerosOnto
import Derived.Lib.AppendZeros
import Derived.Lib.Overlaps
import Derived.Laws.Externs
import Derived.Deep.DeepCutAuto
import Derived.Handy
import Derived.IntWalk
set_option linter.unusedVariables false
set_option linter.unusedSimpArgs false
namespace Go.AmZ
open Go Go.RowKit Go.GxZ
section
variable {α : Type} {N:Nat × Nat} {m:Mp} {E:Env} {τ : TS} {tm:List AV} {σ : St} {K:KT α} {r : α} {p:Option (AV × Option St)} {c:TC} {C:Cfg}
theorem qGQ {d:Option TD} {op:BinOp} {x y:TV} {x' y':AV} {K':TV->Option α} (hx:OK m x x') (hy:OK m y y') (h:qDP d op x y K'=some r) :
  ∃ z v,K' z=some r/\OK m z (.v v)/\((∃ a b,x' = .v (.bool a)/\y' = .v (.bool b)/\qq5 d=true/\((op = .eql/\v = .bool (qd2 a b))\/(op = .neq/\v = .bool (qd (qd2 a b)))))\/∃ a b,x' = .v a/\y' = .v b/\(∀ p q,¬ (a = .bool p/\b = .bool q))/\ql6 op a b=some v):=by
 unfold qDP at h
 split at h
 ·rename_i k a k' b
  cases hx;cases hy
  split at h
  ·obtain ⟨h1,h2⟩:=qqI h
   exact ⟨_,_,h2,rfl,.inr ⟨_,_,rfl,rfl,by simp,by simp only [ql6,h1]⟩⟩
  ·obtain ⟨h1,h2⟩:=qqI h
   exact ⟨_,_,h2,rfl,.inr ⟨_,_,rfl,rfl,by simp,by simp only [ql6,h1]⟩⟩
  ·rename_i n1 n2
   split at h<;>try cases h
   rename_i hk
   obtain ⟨z,v,h1,h2,h3⟩:=qGG (m:=m) h
   refine ⟨z,v,h1,h3,.inr ⟨_,_,rfl,rfl,by simp,?_⟩⟩
   unfold ql6
   cases op<;>first | (exact absurd rfl n1) | (exact absurd rfl n2) | (simp only [hk];exact h2)
 ·cases hx;cases hy
  obtain ⟨z,v,h1,h2,h3⟩:=qFV (m:=m) h
  exact ⟨z,v,h1,h3,.inr ⟨_,_,rfl,rfl,by simp,h2⟩⟩
 ·cases hx;cases hy
  split at h<;>try cases h
  ·rename_i hb
   exact ⟨_,_,h,rfl,.inl ⟨_,_,rfl,rfl,hb,.inl ⟨rfl,rfl⟩⟩⟩
  ·rename_i hb
   exact ⟨_,_,h,rfl,.inl ⟨_,_,rfl,rfl,hb,.inr ⟨rfl,rfl⟩⟩⟩
 ·cases h
theorem qn5 {d:Option TD} (h:qxV d=true):∃ a b c z,d=some ⟨a,b,c,z,.ptr⟩:=by
 unfold qxV at h
 split at h
 ·exact ⟨_,_,_,_,rfl⟩
 ·cases h
theorem qCP {x y:TV} {x' y':AV} (hx:OK m x x') (hy:OK m y y') {b:Bool} (h:qzZ x y=some b) :
  (b=true/\x' = .v (.pointer none)/\y' = .v (.pointer none))\/(b=false/\qmt x'=true/\y' = .v (.pointer none)):=by
 unfold qzZ at h
 split at h<;>cases h
 ·exact .inl ⟨rfl,hx.2,hy.2⟩
 ·obtain ⟨_,rfl⟩:=hx
  exact .inr ⟨rfl,rfl,hy.2⟩
 ·obtain ⟨R,_,_,_,hq,_⟩:=hx
  rcases hq with ⟨r,j,ep,rfl⟩ | ⟨ds,rfl⟩<;>exact .inr ⟨rfl,rfl,hy.2⟩
 ·obtain ⟨ds,rfl,_⟩:=hx
  exact .inr ⟨rfl,rfl,hy.2⟩
theorem qwQ:∀ (es:List (List AV)) (l:List Int),qL (zQ (.int .u8)) es=some l->qnt es=some (qw9 l)
 | [],l,h=>by cases h;rfl
 | e::es,l,h=>by
   simp only [qL] at h
   split at h<;>try cases h
   rename_i v hv
   split at h<;>cases h
   rename_i vs hvs
   have:=qwQ es vs hvs
   have hb:e=[.v (.int .u8 v)]:=by
    have hv:qap .u8 e=some (v,[]):=zD.1 hv
    unfold qap at hv
    split at hv<;>try cases hv
    split at hv<;>cases hv
    rename_i hk
    have hk:=of_decide_eq_true hk
    subst hk
    rfl
   subst hb
   simp only [qnt,qzV,this]
   rfl
theorem qyy {d:Option TD} (h:qq5 d=true):∃ a b c z,d=some ⟨a,b,c,z,.bool⟩:=by
 unfold qq5 at h
 split at h
 ·exact ⟨_,_,_,_,rfl⟩
 ·cases h
theorem qwc (E:Env) (tm:List AV) (hr:Rel N m E τ tm σ):∀ l:List (Nat × Operand),(l.map λ p=>(p.1,evT E p.2)).map (·.1)=(l.map λ p=>(p.1,aev tm p.2)).map (·.1)/\OKL m ((l.map λ p=>(p.1,evT E p.2)).map (·.2)) ((l.map λ p=>(p.1,aev tm p.2)).map (·.2))
 | []=>⟨rfl,rfl⟩
 | x::l=>⟨by simp,⟨_,_,rfl,hr.ev x.2,(qwc E tm hr l).2⟩⟩
theorem qvY (hr:Rel N m E τ tm σ) {id ver sv:Nat} {i:Int} {cs:List TV} {o:Nat} {y:AV} {R:qD} (ho:OK m (.rpt id ver sv i cs o) y) (hR : τ.rw[id]? = some R) (h1:R.ver=ver) (h2:R.sv=sv) :
  (∃ r j ds Q,y = .rpt r j o Q.ver/\m.r id=some r/\i=((j:Nat):Int) /\ σ.rw[r]? = some Q/\Q.c[j]? = some ds/\OKL m cs ds/\j<R.l.length/\Q.ver=m.v id/\Q.k=R.τ.size/\qL (zQ R.τ) Q.c=some R.l/\Q.fz<=Q.c.length/\(R.sh=false->Q.fz=0/\Q.off=false)) \/
  ∃ ds,y = .ept ds o/\OKL m cs ds/\R.sh=true:=by
 obtain ⟨R',g1,_,_,_,g2⟩:=ho
 rw [hr.rw,hR] at g1;cases g1
 have:=hr.rows id R (by rw [hr.rw];exact hR)
 rcases qy5 (g2 h1) h2 with ⟨r,j,ds,k1,k2,k0,k3,k4,k5⟩ | ⟨ds,k1,k2,k3,k4⟩
 ·rw [k1] at this
  obtain ⟨Q,q1,q2,q3,q4,q5,q6,q7⟩:=this
  exact .inl ⟨r,j,ds,Q,by rw [q3];exact k2,k1,k0,q1,by rw [q2];exact k4,k5,k3,q3,q4,q5,q6,q7⟩
 ·rw [k1] at this
  refine .inr ⟨ds,k2,k4,?_⟩
  cases hs:R.sh with
  | true=>rfl
  | false =>
    have hl:=this hs
    rw [hl] at k3
    exact absurd k3 (Nat.lt_irrefl 0)
theorem qyU {β : Type} (f : β -> AV):∀ (l:List (Nat × β)) (n:Nat),((l.zipIdx n).all λ p=>decide (p.1.1=p.2))=true->(∀ q∈l,True)->∀ P:AV->Bool,(∀ q∈l,P (f q.2)=true) ->
  (((l.map λ p=>(p.1,f p.2)).zipIdx n).all λ p=>decide (p.1.1=p.2)&&P p.1.2)=true
 | [],n,_,_,P,_=>rfl
 | a::l,n,h,_,P,hP=>by
   simp only [List.zipIdx_cons,List.all_cons,Bool.and_eq_true,List.map_cons] at h |-
   exact ⟨⟨h.1,hP a (List.mem_cons_self ..)⟩,qyU f l (n+1) h.2 (λ _ _=>trivial) P λ q hq=>hP q (List.mem_cons_of_mem _ hq)⟩
theorem qob (hq:yC m σ) {a:Ty} {E:Env} {tm:List AV} (hr:Rel N m E τ tm σ):∀ {l:List (Nat × Operand)} {vs:List (Val a)},qnc m.rw a (l.map λ p=>evT E p.2)=some vs ->
  ∀ p∈l,(cellsOf (aev tm p.2)).length=a.size/\((cellsOf (aev tm p.2)).all λ x=>qt (qW σ.rw x))=true
 | [],vs,h,p,hp=>by cases hp
 | q::l,vs,h,p,hp=>by
   simp only [List.map_cons,qnc] at h
   split at h<;>try cases h
   rename_i v hv
   split at h<;>cases h
   rename_i hvs
   rcases List.mem_cons.1 hp with rfl | hp
   ·have:=(qgK hq hv (hr.ev p.2)).2
    obtain ⟨pre,h1,h2,h3,_⟩:=ye a (zD.1 this)
    rw [List.append_nil] at h1
    refine ⟨by rw [<- h2,<- h1,List.length_map],?_⟩
    rw [List.all_eq_true]
    intro x hx
    exact h3 _ (by rw [<- h1];exact List.mem_map_of_mem hx)
   ·exact qob hq hr hvs p hp
theorem qFi (y:List UInt8) (l h:Int):(⟨(yL y l h).toArray⟩:ByteArray)=qw7 ⟨y.toArray⟩ l.toNat h.toNat:=by
 unfold yL qw7
 rw [ByteArray.ext_iff]
 simp [ByteArray.data_extract,List.drop_take]
theorem qyA {x:TV} {y:AV} (h:OK m x y) (hc:(yJ x).all qgc=true):OKL m (yJ x) (cellsOf y)/\(cellsOf y).all isC=true/\∀ z∈cellsOf y,rsC z=[]:=by
 have hct:(yJ x).all qeG=true:=by
  rw [List.all_eq_true] at hc |-
  intro z hz
  have:=hc z hz
  cases z<;>first | rfl | (cases this)
 obtain ⟨g1,g2⟩:=h.cells hct
 refine ⟨g1,g2,λ z hz=>?_⟩
 have:=qfo g1 hc
 rw [List.flatMap_eq_nil_iff] at this
 exact this z hz
theorem qms {y:AV} (h:rsC y=[]) (hp:qt (qW σ.rw y)=true):qt y=true:=by
 cases y<;>first | rfl | exact hp | (simp [rsC] at h)
theorem qFE {tm:List AV} {a b:Operand} (h:qEF a b=true):aev tm a=aev tm b:=by
 unfold qEF at h
 split at h
 ·rw [Nat.eq_of_beq_eq_true h]
 ·simp only [Bool.and_eq_true,decide_eq_true_eq] at h
  rw [h.1,h.2]
 ·cases h
def LvE (x y:AV):Prop:=x=y\/∃ k es n n',x = .sl k es (n+1)/\y = .sl k es (n'+1)
inductive LvL:List AV->List AV->Prop
 | nil:LvL [] []
 | cons {x y:AV} {xs ys:List AV}:LvE x y->LvL xs ys->LvL (x::xs) (y::ys)
theorem LvE.v {x:Value} {y:AV} (h:LvE (.v x) y):y = .v x:=by
 rcases h with rfl | ⟨_,_,_,_,h,_⟩
 ·rfl
 ·cases h
theorem LvE.dlist {a:Ty} {x y:AV} (h:LvE x y) {l:List (Val a)} (hl:dlist a x=some l):dlist a y=some l:=by
 rcases h with rfl | ⟨_,_,_,_,rfl,rfl⟩
 ·exact hl
 ·exact hl
theorem qhW:∀ (a:Ty) {cs cs':List AV} {v:Val a} {r:List AV},LvL cs cs'->QS a cs=some (v,r)->∃ r',LvL r r'/\QS a cs'=some (v,r')
 | .int k,cs,cs',v,r,hL,h=>by
   change qap k cs=_ at h
   unfold qap at h
   split at h<;>try cases h
   split at h<;>cases h
   rename_i hk
   cases hL with
   | cons h1 h2 =>
     have:=h1.v
     subst this
     exact ⟨_,h2,by show qap _ _=_;simp only [qap,hk]⟩
 | .bool,cs,cs',v,r,hL,h=>by
   change qgu cs=_ at h
   unfold qgu at h
   split at h<;>cases h
   cases hL with
   | cons h1 h2 =>
     have:=h1.v
     subst this
     exact ⟨_,h2,rfl⟩
 | .str,cs,cs',v,r,hL,h=>by
   change qeN cs=_ at h
   unfold qeN at h
   split at h<;>cases h
   cases hL with
   | cons h1 h2 =>
     have:=h1.v
     subst this
     exact ⟨_,h2,rfl⟩
 | .term,cs,cs',v,r,hL,h=>by
   change Jh cs=_ at h
   unfold Jh at h
   split at h<;>try cases h
   split at h<;>cases h
   rename_i hd
   obtain ⟨k,n,s,x,l,he,h1,rfl⟩:=qhQ hd
   cases he
   cases hL with
   | cons a1 hL=>cases hL with
     | cons a2 hL=>cases hL with
       | cons a3 hL=>cases hL with
         | cons a4 hL =>
           have:=a1.v;subst this
           have:=a2.v;subst this
           have:=a3.v;subst this
           rw [<- qgf] at h1
           have h1:=a4.dlist h1
           rw [qgf] at h1
           exact ⟨_,hL,by show Jh _=_;simp only [Jh,jy,h1]⟩
 | .list a,cs,cs',v,r,hL,h=>by
   change qa2 _ cs=_ at h
   unfold qa2 at h
   split at h<;>try cases h
   split at h<;>cases h
   rename_i hd
   cases hL with
   | cons h1 h2 =>
     have hd:dlist a _=some v:=hd
     have hd:yD a.size (λ e=>full (QS a e)) _=some v:=h1.dlist hd
     exact ⟨_,h2,by show qa2 _ _=_;simp only [qa2,hd]⟩
 | .pair a b,cs,cs',v,r,hL,h=>by
   obtain ⟨r1,h1,h2⟩:=QO.1 h
   obtain ⟨r1',g1,g2⟩:=qhW a hL h1
   obtain ⟨r2',g3,g4⟩:=qhW b g1 h2
   exact ⟨r2',g3,QO.2 ⟨_,g2,g4⟩⟩
 | .one a,cs,cs',v,r,hL,h=>qhW a hL h
theorem qBi:∀ {cs:List AV},(∀ y∈cs,qt y=true)->LvL (cs.map (qW σ.rw)) cs
 | [],_ => .nil
 | y::cs,h=>by
   refine .cons ?_ (qBi λ z hz=>h z (List.mem_cons_of_mem _ hz))
   have:=h y (List.mem_cons_self ..)
   cases y with
   | v x=>exact .inl rfl
   | sl k es f =>
     cases f with
     | zero=>exact .inl rfl
     | succ f=>exact .inr ⟨k,es,0,f,rfl,rfl⟩
   | _=>cases this
theorem qov {a:Ty} {cs:List AV} {v:Val a} (hp:∀ y∈cs,qt y=true) (h:zQ a (cs.map (qW σ.rw))=some v):zQ a cs=some v:=by
 obtain ⟨rs,h1,h3⟩:=qhW a (qBi hp) (zD.1 h)
 cases h1
 exact zD.2 h3
theorem qpG {m:Mp}:∀ {cs:List TV} {l:List Bool} {ds:List AV},qm0 cs=some l->OKL m cs ds->ds=l.map λ b=>AV.v (.bool b)
 | [],l,ds,h,ho=>by cases h;cases ho;rfl
 | x::cs,l,ds,h,⟨y,r,h1,h2,h3⟩=>by
   subst h1
   cases x<;>simp only [qm0] at h<;>try (cases h;done)
   rename_i b
   split at h<;>cases h
   rename_i r' hr'
   cases h2
   rw [qpG hr' h3];rfl
theorem qtG {m:Mp}:∀ (l:List Bool),OKL m (l.map .b) (l.map λ b=>AV.v (.bool b))
 | []=>rfl
 | b::l=>⟨_,_,rfl,rfl,qtG l⟩
theorem qwE:∀ (l:List Bool) (i:Nat) (v:Bool) (j:Nat),qjE l ((i+j:Nat):Int) v j=l.set i v
 | [],_,_,_=>rfl
 | e::l,0,v,j=>by
   have h:∀ (l:List Bool) (i j:Nat),i<j->qjE l ((i:Nat):Int) v j=l:=by
    intro l
    induction l with
    | nil=>intro _ _ _;rfl
    | cons e l ih =>
      intro i j hij
      rw [qjE,ih i (j+1) (by omega)]
      have:ieq ((i:Nat):Int) ((j:Nat):Int)=false:=by unfold ieq;rw [beq_eq_false_iff_ne];omega
      rw [this];rfl
   rw [qjE,h l (0+j) (j+1) (by omega)]
   have:ieq ((0+j:Nat):Int) ((j:Nat):Int)=true:=by unfold ieq;rw [beq_iff_eq];omega
   rw [this];rfl
 | e::l,i+1,v,j=>by
   rw [qjE,show ((i+1+j:Nat):Int)=((i+(j+1):Nat):Int) by omega,qwE l i v (j+1)]
   have:ieq ((i+(j+1):Nat):Int) ((j:Nat):Int)=false:=by unfold ieq;rw [beq_eq_false_iff_ne];omega
   rw [this];rfl
theorem qtO (s:List UInt8):qL (zQ (.int .u8)) (qaa ⟨s.toArray⟩)=some (qeo s):=by
 have:qaa ⟨s.toArray⟩=(qeo s).map (qh (.int .u8)):=by
  unfold qaa qeo
  rw [List.map_map]
  rfl
 rw [this]
 exact J2 (jF (.int .u8)) (qeo s)
theorem qEv {op:Op} (hty:C.ty=c.ty) (hr:Rel N m E τ tm σ) (h:jO c E τ op K=some r):Sim N m E τ tm σ K r (qb C tm σ op):=by
 cases op with
 | move x=>exact .same hr h rfl (hr.ev x)
 | assign x=>exact .same hr h rfl (hr.ev x)
 | pick x a b =>
   simp only [jO] at h
   split at h<;>try cases h
   rename_i y hy
   have hx:=hr.ev x
   rw [hy] at hx
   cases y with
   | true=>exact .same hr h (by simp only [qb,show aev tm x=_ from hx]) (hr.ev a)
   | false=>exact .same hr h (by simp only [qb,show aev tm x=_ from hx]) (hr.ev b)
 | alloc e =>
   simp only [jO] at h
   split at h<;>try cases h
   rename_i d hd
   split at h<;>try cases h
   rename_i hz
   obtain ⟨m',h1,h2,h3⟩:=hr.alloc (qdX (m:=m) hz)
   exact .to h (by simp only [qb,hty,hd,hz]) h1 h2 h3
 | box e x =>
   simp only [jO] at h
   split at h<;>try cases h
   rename_i d hd
   split at h<;>try cases h
   rename_i hz
   obtain ⟨g1,g2⟩:=(hr.ev x).cells hz
   obtain ⟨m',h1,h2,h3⟩:=hr.alloc g1
   exact .to h (by simp only [qb,hty,hd,g2]) h1 h2 h3
 | build t parts =>
   simp only [jO] at h
   split at h<;>try cases h
   rename_i _ _ _ z fs hd
   split at h<;>try cases h
   rename_i hz
   split at h<;>try cases h
   rename_i cs hcs
   obtain ⟨ds,h1,h2⟩:=qwS (qwc E tm hr parts.toList) (qdX (m:=m) hz) hcs
   exact .same hr h (by simp only [qb,hty,hd,hz];erw [h1]) ⟨ds,rfl,h2⟩
 | buildSlice t n parts =>
   simp only [jO] at h
   split at h<;>try cases h
   rename_i _ _ _ _ _ k _ _ a hd he
   split at h<;>try cases h
   rename_i hb
   simp only [Bool.and_eq_true,decide_eq_true_eq] at hb
   obtain ⟨⟨⟨⟨hk,hn⟩,hnk⟩,hk0⟩,hz⟩:=hb
   split at h<;>try cases h
   rename_i vs hvs
   rw [<- hr.rw] at hvs
   have hq:=hr.rows
   have hcells:=qob hq hr hvs
   have hdec:=qxj hq hvs (by have:=hr.evs (parts.toList.map (·.2));simpa [List.map_map,Function.comp_def] using this)
   have hpo:qeK k n σ.rw (parts.toList.map λ p=>(p.1,aev tm p.2))=true:=by
    unfold qeK
    have h1:(parts.toList.map λ p=>(p.1,aev tm p.2)).length=n:=by simpa using hn
    simp only [h1,decide_true,hnk,hk0,Bool.true_and,Bool.and_true]
    have:=qyU (aev tm) parts.toList 0 hz (λ _ _=>trivial) (λ x=>decide ((cellsOf x).length=k)&&((cellsOf x).all λ y=>qt (qW σ.rw y)))
     λ q hq'=>by obtain ⟨a1,a2⟩:=hcells q hq';rw [a1,a2,hk];simp
    rw [List.all_eq_true] at this |-
    intro p hp
    have:=this p hp
    simpa [Bool.and_assoc] using this
   have hok:∀ m':Mp,OK m' (.sl a vs 2) (.sl k (parts.toList.map λ p=>(cellsOf (aev tm p.2)).map (qW σ.rw)) 2):=by
    intro m'
    refine ⟨?_,Nat.le_refl _⟩
    subst hk
    show yD _ _ (.sl _ _ 2)=_
    simp only [yD,qV,decide_true]
    simpa [List.map_map,Function.comp_def] using hdec
   have hst:qb C tm σ (.buildSlice t n parts)=match parts.toList.flatMap λ p=>rsA (aev tm p.2) with
     | []=>some (.sl k (parts.toList.map λ p=>(cellsOf (aev tm p.2)).map (qW σ.rw)) 2,none)
     | r::l=>some (.sl k (parts.toList.map λ p=>(cellsOf (aev tm p.2)).map (qW σ.rw)) 2,some { σ with rw:=frz σ.rw (r::l),wrr:=(r::l) ++ σ.wrr }):=by
    simp only [qb,hty,hd,hpo]
    rfl
   rw [hst]
   split at h
   ·rename_i hno
    have hno':parts.toList.flatMap (λ p=>rsA (aev tm p.2))=[]:=by
     have:=qo5 (xs:=parts.toList.map λ p=>evT E p.2) (ys:=parts.toList.map λ p=>aev tm p.2) (by rw [List.all_map];exact hno) (by have:=hr.evs (parts.toList.map (·.2));simpa [List.map_map,Function.comp_def] using this)
     rwa [List.flatMap_map] at this
    rw [hno']
    exact .same hr h rfl (hok m)
   ·split
    ·exact ⟨_,some (shA τ),_,none,shM m,h,rfl,qc7 m,hr.share rfl hq.sh,hok _,λ h=>by cases h⟩
    ·exact .to h rfl (qc7 m) (hr.share (σ':={ σ with rw:=frz σ.rw _,wrr:=_ }) rfl (hq.frz _ _)) (hok _)
 | load t a =>
   simp only [jO] at h
   split at h<;>try cases h
   rename_i d hd
   have ha:=hr.ev a
   split at h<;>try cases h
   ·rename_i b o he
    rw [he] at ha
    obtain ⟨_,ha⟩:=ha
    split at h<;>try cases h
    rename_i cs hcs
    split at h<;>try cases h
    rename_i x hx
    obtain ⟨ds,g1,g2⟩:=hr.box b cs hcs
    obtain ⟨y,g3,g4⟩:=qdv g2 hx
    exact .same hr h (by simp only [qb,hty,hd,ha,Qo,g1,g3]) g4
   ·rename_i cs o he
    rw [he] at ha
    obtain ⟨ds,ha,g2⟩:=ha
    split at h<;>try cases h
    rename_i x hx
    obtain ⟨y,g3,g4⟩:=qdv g2 hx
    exact .same hr h (by simp only [qb,hty,hd,ha,Qo,g3]) g4
   ·rename_i b i he
    rw [he] at ha
    obtain ⟨_,i0,ha⟩:=ha
    split at h<;>try cases h
    rename_i cs hcs
    split at h<;>try cases h
    rename_i l hag hl
    obtain ⟨v,hv,h⟩:=jX h
    obtain ⟨_,hv⟩:=qfC hv
    obtain ⟨ds,g1,g2⟩:=hr.box b cs hcs
    have g3:ds[i.toNat]? = some (.v (.bool v)):=by rw [qpG hl g2,List.getElem?_map,hv];rfl
    exact .same hr h (y := .v (.bool v)) (by simp only [qb,hty,hd,ha,Qo,g1,hag,qbn,g3]) rfl
   ·rename_i id ver sv i cs o he
    rw [he] at ha
    split at h<;>try cases h
    rename_i R hR
    split at h<;>try cases h
    rename_i hv1
    split at h
    rotate_left
    ·split at h<;>try cases h
     rename_i hsh
     obtain ⟨v,hv,h⟩:=jX h
     split at h<;>try cases h
     rename_i x hx
     obtain ⟨j0,hv⟩:=qfC hv
     obtain ⟨R',g1,_,_,_,g2⟩:=ha
     rw [hr.rw,hR] at g1;cases g1
     have hg:=hr.rows id R (by rw [hr.rw];exact hR)
     rcases g2 (Nat.eq_of_beq_eq_true hv1) with ⟨r',j,z1,z2,z0,z3,_⟩ | ⟨z1,z3,_⟩
     ·rw [z1] at hg
      obtain ⟨Q,q1,q2,q3,q4,q5,q6,q7⟩:=hg
      rw [z0,Int.toNat_natCast] at hv
      obtain ⟨e,e1,e2⟩:=qdL q5 hv
      obtain ⟨y,g3,g4⟩:=qdv (jz e2) hx
      have kl:qnz Q j (m.v id)=some e:=by unfold qnz;rw [if_pos q3];exact e1
      exact .same hr h (by simp only [qb,hty,hd,z2,Qo,q1,kl,g3]) g4
     ·rw [z1] at hg
      have:=hg hsh
      rw [this] at z3
      exact absurd z3 (Nat.lt_irrefl _)
    rename_i hv2
    split at h<;>try cases h
    rename_i x hx
    rcases qvY hr ha hR (Nat.eq_of_beq_eq_true hv1) (Nat.eq_of_beq_eq_true hv2) with ⟨r',j,ds,Q,k1,_,_,k2,k3,k4,_⟩ | ⟨ds,k1,k4,_⟩
    ·obtain ⟨y,g3,g4⟩:=qdv k4 hx
     have kl:qnz Q j Q.ver=some ds:=by unfold qnz;rw [if_pos rfl];exact k3
     exact .same hr h (by simp only [qb,hty,hd,k1,Qo,k2,kl,g3]) g4
    ·obtain ⟨y,g3,g4⟩:=qdv k4 hx
     exact .same hr h (by simp only [qb,hty,hd,k1,Qo,g3]) g4
 | store t a x =>
   simp only [jO] at h
   split at h<;>try cases h
   rotate_left
   ·rename_i d b i hd he
    have ha:=hr.ev a
    rw [he] at ha
    obtain ⟨hb,i0,ha⟩:=ha
    split at h<;>try cases h
    rename_i cs v hcs hx
    split at h<;>try cases h
    rename_i l hl hsz
    obtain ⟨hix,h⟩:=yT h
    have hix:=of_decide_eq_true hix
    have hsz:=Nat.eq_of_beq_eq_true hsz
    obtain ⟨ds,g1,g2⟩:=hr.box b cs hcs
    have hxv:=hr.ev x
    rw [hx] at hxv
    have hxv:aev tm x = .v (.bool v):=hxv
    have hds:=qpG hl g2
    have hlt:i.toNat<l.length:=by omega
    have hdl:ds.length=l.length:=by rw [hds,List.length_map]
    have hput:qjE l i v 0=l.set i.toNat v:=by
     have:=qwE l i.toNat v 0
     rwa [show ((i.toNat+0:Nat):Int)=i by omega] at this
    have hcat:ds.take i.toNat++(cellsOf (aev tm x)++ds.drop (i.toNat+d.size))=(qjE l i v 0).map λ b=>AV.v (.bool b):=by
     rw [hxv,hsz,hput,List.map_set,<- hds,List.set_eq_take_append_cons_drop,if_pos (by omega)];rfl
    have e1:(cellsOf (aev tm x)).length=d.size:=by rw [hxv,hsz];rfl
    have e2:i.toNat+d.size<=ds.length:=by omega
    have k2:(cellsOf (aev tm x)).all isC=true:=by rw [hxv];rfl
    exact .to h (by simp only [qb,hty,hd,ha,g1,e1,e2,k2,decide_true,Bool.and_self];rfl) (.refl m) (hr.setBox hb (ds:=ds.take i.toNat++(cellsOf (aev tm x)++ds.drop (i.toNat+d.size))) (by rw [hcat];exact qtG _) _) ⟨_,rfl,rfl⟩
   ·rename_i d id ver sv i cs o hd he
    have ha:=hr.ev a
    rw [he] at ha
    split at h<;>try cases h
    rename_i R hR
    split at h<;>try cases h
    rename_i hc
    simp only [Bool.and_eq_true,decide_eq_true_eq,Bool.not_eq_true'] at hc
    obtain ⟨⟨⟨⟨⟨c1,c2⟩,c3⟩,c4⟩,c5⟩,c6⟩:=hc
    split at h<;>try cases h
    rename_i v hv
    rcases qvY hr ha hR (Nat.eq_of_beq_eq_true c1) (Nat.eq_of_beq_eq_true c2) with ⟨r',j,ds,Q,k1,krr,ki,k2,k3,k4,kj,kv,kk,kd,kf,ks⟩ | ⟨ds,k1,k4,ks⟩
    rotate_left
    ·rw [c3] at ks;cases ks
    obtain ⟨z1,z2,z3⟩:=qyA (hr.ev x) c6
    have hpar:=qer hv
    have hcat:OKL m (cs.take o++(yJ (evT E x)++cs.drop (o+d.size))) (ds.take o++(cellsOf (aev tm x)++ds.drop (o+d.size))):=(k4.take o).append (z1.append (k4.drop _))
    rw [<- hr.rw] at hpar
    obtain ⟨rs,p1,p2⟩:=qcc hr.rows R.τ hpar hcat
    cases p2
    have hpl:∀ y∈ds,qt y=true:=by
     obtain ⟨w,_,hw⟩:=QP kd k3
     obtain ⟨pre,h1,_,h3,_⟩:=ye R.τ (zD.1 hw)
     rw [List.append_nil] at h1
     rw [h1];exact h3
    have hdl:ds.length=R.τ.size:=by
     obtain ⟨w,_,hw⟩:=QP kd k3
     obtain ⟨pre,h1,h2,_⟩:=ye R.τ (zD.1 hw)
     rw [List.append_nil] at h1
     rw [h1];exact h2
    have hxp:∀ y∈cellsOf (aev tm x),qt y=true:=by
     obtain ⟨pre,h1,_,h3,_⟩:=ye R.τ p1
     rw [List.map_nil,List.append_nil] at h1
     intro y hy
     have:=h3 (qW σ.rw y) (by rw [<- h1];exact List.mem_map_of_mem (List.mem_append.2 (.inr (List.mem_append.2 (.inl hy)))))
     exact qms (z3 y hy) this
    have hdec:zQ R.τ (ds.take o++(cellsOf (aev tm x)++ds.drop (o+d.size)))=some v:=by
     have:zQ R.τ ((ds.take o++(cellsOf (aev tm x)++ds.drop (o+d.size))).map (qW σ.rw))=some v:=zD.2 p1
     exact qov (λ y hy=>by
      rcases List.mem_append.1 hy with hy | hy
      ·exact hpl y (List.mem_of_mem_take hy)
      ·rcases List.mem_append.1 hy with hy | hy
       ·exact hxp y hy
       ·exact hpl y (List.mem_of_mem_drop hy)) this
    have hset:=qtK kd j hdec
    have hrl:r' < σ.rw.length:=getElem?_lt k2
    have hcl:(cellsOf (aev tm x)).length=d.size:=by rw [z1.len];exact c4
    have hol:o+d.size<=ds.length:=by rw [k4.len];exact c5
    have hro:qnp Q j o Q.ver d.size (cellsOf (aev tm x))=some { Q with c:=Q.c.set j (ds.take o++(cellsOf (aev tm x)++ds.drop (o+d.size))) }:=by
     unfold qnp
     have e1:(decide (Q.ver=Q.ver/\Q.fz<=j/\o+d.size<=Q.k/\(cellsOf (aev tm x)).length=d.size/\Q.off=false)&&(cellsOf (aev tm x)).all qt)=true:=by
      rw [Bool.and_eq_true,decide_eq_true_eq,List.all_eq_true]
      exact ⟨⟨rfl,by rw [(ks c3).1];exact Nat.zero_le _,by rw [kk,<- hdl];exact hol,hcl,(ks c3).2⟩,hxp⟩
     rw [e1,k3]
    have hlset:jD R.l i v=R.l.set j v:=by
     unfold jD
     rw [if_pos (by rw [ki];exact Int.natCast_nonneg j),ki];rfl
    obtain ⟨m',g1,g2,_⟩:=hr.rowUpd (R2:=⟨R.τ,jD R.l i v,R.ver,R.sv+1,R.sh⟩) hR (m.r id) (m.v id) (Q.c.set j (ds.take o++(cellsOf (aev tm x)++ds.drop (o+d.size)))) (Nat.le_refl _) (Nat.le_succ _)
     (λ _=>⟨by show (jD R.l i v).length=_;rw [hlset,List.length_set],rfl,rfl,rfl,(λ h=>by have:R.sv+1=R.sv:=h;omega),(λ h=>by rw [krr] at h;cases h)⟩) (σ':={ σ with rw := σ.rw.set r' { Q with c:=Q.c.set j (ds.take o++(cellsOf (aev tm x)++ds.drop (o+d.size))) },wrr:=r' :: σ.wrr }) rfl
     (by
      rw [krr]
      refine ⟨{ Q with c:=Q.c.set j (ds.take o++(cellsOf (aev tm x)++ds.drop (o+d.size))) },by show (σ.rw.set r' _)[r']? = _;rw [List.getElem?_set_self hrl],rfl,kv,kk,?_,?_,ks⟩
      ·show qL (zQ R.τ) (Q.c.set j _)=some (jD R.l i v)
       rw [hlset];exact hset
      ·show Q.fz<=(Q.c.set j _).length
       rw [List.length_set];exact kf)
     (λ id' r'' h1 h2 h3=>by
      have hne:=hr.others hR krr h1 h2 h3
      refine ⟨λ he=>by rw [krr] at he;exact hne (Option.some.inj he).symm,λ Q' hQ'=>?_⟩
      show (σ.rw.set r' _)[r'']? = _
      rw [List.getElem?_set_ne (Ne.symm hne)];exact hQ')
    exact .to h (by simp only [qb,hty,hd,k1,k2,hro];rfl) g1 g2 ⟨_,rfl,rfl⟩
   rename_i d b o hd he
   have ha:=hr.ev a
   rw [he] at ha
   obtain ⟨hb,ha⟩:=ha
   split at h<;>try cases h
   rename_i cs hcs
   split at h<;>try cases h
   rename_i hc
   simp only [Bool.and_eq_true,decide_eq_true_eq] at hc
   obtain ⟨⟨h1,h2⟩,h3⟩:=hc
   obtain ⟨ds,g1,g2⟩:=hr.box b cs hcs
   obtain ⟨k1,k2⟩:=(hr.ev x).cells h3
   have e1:(cellsOf (aev tm x)).length=d.size:=by rw [k1.len];exact h1
   have e2:o+d.size<=ds.length:=by rw [g2.len];exact h2
   exact .to h (by simp only [qb,hty,hd,ha,g1,e1,e2,k2,decide_true,Bool.and_self];rfl) (.refl m) (hr.setBox hb ((g2.take o).append (k1.append (g2.drop (o+d.size)))) _) ⟨_,rfl,rfl⟩
 | makeSlice t n mm =>
   simp only [jO] at h
   split at h<;>try cases h
   rename_i _ _ _ _ _ k bytes z a' ik a hd he hn
   split at h<;>try cases h
   rename_i hc
   simp only [Bool.and_eq_true,decide_eq_true_eq] at hc
   obtain ⟨⟨⟨⟨c1,c2⟩,c3⟩,c4⟩,c5⟩:=hc
   split at h<;>try cases h
   rename_i v hv
   obtain ⟨hm,h⟩:=yT h
   obtain ⟨m1,m2,m3⟩:=of_decide_eq_true hm
   have hnv:=hr.ev n
   rw [hn] at hnv
   have hnv:aev tm n = .v (.int ik a):=hnv
   have hmv:aev tm mm = .v (.int ik a):=by rw [<- qFE c1];exact hnv
   have hq0:yC mp0 σ := λ id R h=>by cases h
   have hpar:=qer hv
   obtain ⟨rs,p1,p2⟩:=qcc (m:=mp0) hq0 a' hpar (qdX c5)
   cases p2
   have hzv:(z.map AV.v).map (qW σ.rw)=z.map AV.v:=by rw [List.map_map];exact List.map_congr_left λ _ _=>rfl
   rw [hzv] at p1
   have hd1:zQ a' (z.map AV.v)=some v:=zD.2 p1
   have hplz:(z.map AV.v).all qt=true:=by rw [List.all_map,List.all_eq_true];intro _ _;rfl
   have hcond:decide (0<=a/\a.toNat*bytes<=2 ^ 47/\a.toNat<2 ^ 62/\0<k/\z.length=k)=true:=decide_eq_true ⟨m1,m2,m3,c3,c4⟩
   have hst:qb C tm σ (.makeSlice t n mm)=match qV a.toNat 0 with
     | true=>some (.sl k [] 2,none)
     | false=>some (.rs σ.rw.length 0 a.toNat 0 false,some { σ with rw := σ.rw++[⟨k,List.replicate a.toNat (z.map .v),0,0,false⟩] }):=by
    simp only [qb,hty,hd,hnv,hmv,true_and,hcond,c5,hplz,Bool.and_self]
    cases qV a.toNat 0<;>rfl
   have hreps:=qud hd1 a.toNat
   by_cases ha:a.toNat=0
   ·obtain ⟨m',g1,g2,g3⟩:=hr.rowAdd (σ' := σ) ⟨a',List.replicate a.toNat v,0,0,false⟩ none 0 [] rfl (λ _=>by show List.replicate a.toNat v=[];rw [ha];rfl) (λ r Q h=>h) (λ r h=>by cases h) (y := .sl k [] 2) ⟨by show yD a'.size (zQ a') (.sl k [] 2)=some (List.replicate a.toNat v);rw [ha,c2];simp only [yD,qV,decide_true];rfl,Nat.le_refl _⟩ rfl
    refine ⟨_,some _,.sl k [] 2,none,m',h,?_,g1,g2,g3,λ h=>by cases h⟩
    have:qV a.toNat 0=true:=by simp [qV,ha]
    rw [hst,this]
   ·obtain ⟨m',g1,g2,g3⟩:=hr.rowNew hreps
    rw [List.length_replicate] at g3
    refine .to h (y := .rs σ.rw.length 0 a.toNat 0 false) ?_ g1 g2 g3
    have:qV a.toNat 0=false:=by simp [qV,ha]
    rw [hst,this,c2]
 | nilCheck x =>
   simp only [jO] at h
   have ha:=hr.ev x
   split at h<;>try cases h
   ·rename_i b o he
    rw [he] at ha
    exact .same hr h (by simp only [qb,ha.2]) ⟨ha.1,rfl⟩
   ·rename_i cs o he
    rw [he] at ha
    obtain ⟨ds,ha,g⟩:=ha
    exact .same hr h (by simp only [qb,ha]) ⟨ds,rfl,g⟩
   ·rename_i id ver sv i cs o he
    rw [he] at ha
    have ha':=ha
    obtain ⟨R,_,_,_,hy,_⟩:=ha
    rcases hy with ⟨r',j,ep,hy⟩ | ⟨ds,hy⟩
    ·exact .same hr h (y := .rpt r' j o ep) (by simp only [qb,hy]) (by rw [<- hy];exact ha')
    ·exact .same hr h (y := .ept ds o) (by simp only [qb,hy]) (by rw [<- hy];exact ha')
 | binOp op t x y u =>
   simp only [jO] at h
   split at h
   ·rename_i b hb
    obtain ⟨e1,hd⟩:((op = .eql/\K (.b b) none=some r)\/(op = .neq/\K (.b (!b)) none=some r))/\∃ p1 p2 p3 p4,c.ty t=some ⟨p1,p2,p3,p4,.ptr⟩:=by
     split at h<;>try (cases h;done)
     ·rename_i hp;exact ⟨.inl ⟨rfl,h⟩,qn5 hp⟩
     ·rename_i hp;exact ⟨.inr ⟨rfl,h⟩,qn5 hp⟩
    obtain ⟨p1,p2,p3,p4,hd⟩:=hd
    rcases qCP (hr.ev x) (hr.ev y) hb with ⟨rfl,q1,q2⟩ | ⟨rfl,q1,q2⟩
    ·rcases e1 with ⟨rfl,e1⟩ | ⟨rfl,e1⟩<;>exact .same hr e1 (by simp only [qb,q1,q2,hty,hd,Bool.not_true]) rfl
    ·rcases e1 with ⟨rfl,e1⟩ | ⟨rfl,e1⟩
     ·refine .same hr e1 (y := .v (.bool false)) ?_ rfl
      cases hx:aev tm x<;>rw [hx] at q1<;>first | (cases q1;done) | (simp only [qb,hx,q2,hty,hd,qmt,qvX,Bool.and_self])
     ·refine .same hr e1 (y := .v (.bool true)) ?_ rfl
      cases hx:aev tm x<;>rw [hx] at q1<;>first | (cases q1;done) | (simp only [qb,hx,q2,hty,hd,qmt,qvX,Bool.and_self])
   obtain ⟨z,v,h1,h2,h3⟩:=qGQ (hr.ev x) (hr.ev y) h
   refine .same hr h1 ?_ h2
   rcases h3 with ⟨a,b,e1,e2,e3,h4⟩ | ⟨a,b,e1,e2,e3,h4⟩
   ·obtain ⟨p1,p2,p3,p4,hd⟩:=qyy e3
    rcases h4 with ⟨rfl,rfl⟩ | ⟨rfl,rfl⟩<;>simp only [qb,e1,e2,hty,hd]
   ·simp only [qb,e1,e2]
    split
    ·rename_i p q hp hq
     cases hp;cases hq
     exact absurd ⟨rfl,rfl⟩ (e3 p q)
    ·rename_i hp hq
     cases hp;cases hq
     simp [ql6] at h4
    ·rename_i hp hq
     cases hp;cases hq
     rw [h4]
    ·rename_i n1 n2 n3
     exact absurd rfl (n3 _ _ rfl)
 | unOp op t x =>
   simp only [jO] at h
   have ha:=hr.ev x
   split at h<;>try cases h
   ·rename_i k n he
    rw [he] at ha
    exact .same hr h (by simp only [qb,show aev tm x=_ from ha,unA]) rfl
   ·rename_i b he
    rw [he] at ha
    exact .same hr h (by simp only [qb,show aev tm x=_ from ha,unA]) rfl
 | convert s d x =>
   simp only [jO] at h
   have ha:=hr.ev x
   split at h<;>try cases h
   ·rename_i h1 h2 h3
    rw [h3] at ha
    exact .same hr h (by simp only [qb,hty,h1,h2,show aev tm x=_ from ha]) rfl
   ·rename_i h1 h2 h3
    rw [h3] at ha
    exact .same hr h (by simp only [qb,hty,h1,h2,show aev tm x=_ from ha]) rfl
   ·rename_i e _ _ _ y h1 h2 h3
    rw [h3] at ha
    split at h<;>try cases h
    rename_i hu
    have ha:aev tm x = .v (.string ⟨y.toArray⟩):=ha
    obtain ⟨m',g1,g2,g3⟩:=hr.rowNew (qtO y)
    rw [show (qeo y).length=y.toArray.size by simp [qeo]] at g3
    exact .to h (y := .rs σ.rw.length 0 y.toArray.size 0 false) (by simp only [qb,hty,h1,h2,ha,hu];rfl) g1 g2 g3
   ·rename_i e _ _ _ _ _ _ _ _ _ _ h1 h2 hn
    split at h<;>try cases h
    rename_i l hu hl
    rw [<- hr.rw] at hl
    obtain ⟨es,g1,g2,g3⟩:=qju hr.rows hl ha
    have g1:elems σ.rw 1 (aev tm x)=some es:=g1
    refine .same hr h (y := .v (.string ⟨(qw9 l).toArray⟩)) ?_ rfl
    have hs:=qwQ es l g2
    cases hx:aev tm x<;>rw [hx] at g1<;>first
     | (simp [elems] at g1;done)
     | (simp only [qb,hty,h1,h2,hx,hu,g1,hs];done)
     | skip
    rename_i v
    cases v<;>first
     | (simp [elems] at g1;done)
     | (simp only [qb,hty,h1,h2,hx,hu,g1,hs])
 | makeFunc f fs cs =>
   cases f with
   | func f =>
     simp only [jO] at h
     split at h<;>try cases h
     rename_i hf
     exact .same hr h (by simp only [qb,hf]) ⟨_,rfl,hr.evs _⟩
   | _=>simp only [jO] at h;cases h
 | slice t x lo hi mx =>
   cases mx with
   | some q=>simp only [jO] at h;cases h
   | none =>
   simp only [jO] at h
   have ha:=hr.ev x
   split at h<;>try cases h
   ·rename_i y hd he
    rw [he] at ha
    split at h<;>try cases h
    rename_i hh hhe
    split at h<;>try cases h
    rename_i l hle
    obtain ⟨c1,h⟩:=yT h
    obtain ⟨c2,h⟩:=yT h
    have hxl:qjI ⟨y.toArray⟩=y.length:=by simp [qjI,ByteArray.size]
    have b1:=qaR hr (d:=y.length) hhe (Nat.le_refl _) c1
    have b2:=qaR hr (d:=0) hle (Nat.zero_le _) c2
    refine .same hr h (y := .v (.string (qw7 ⟨y.toArray⟩ l.toNat hh.toNat))) ?_ ?_
    ·simp only [qb,hty,hd,show aev tm x=_ from ha,hxl,b1,b2]
    ·show AV.v _=AV.v _
     rw [<- qFi]
   ·rename_i a y lv hd he
    rw [he] at ha
    split at h<;>try cases h
    rename_i hk
    rw [Bool.and_eq_true] at hk
    have hk1:=of_decide_eq_true hk.1
    split at h<;>try cases h
    rename_i hh hhe
    split at h<;>try cases h
    rename_i l hle
    obtain ⟨c1,h⟩:=yT h
    obtain ⟨c2,h⟩:=yT h
    have b1:=qaR hr (d:=y.length) hhe (Nat.le_refl _) c1
    have b2:=qaR hr (d:=0) hle (Nat.zero_le _) c2
    obtain ⟨hdl,_⟩:=ha
    rcases yr hdl with ⟨h1,rfl⟩ | ⟨es,n,h1,h2⟩
    ·refine .same hr h (y := .v (.slice none 0 0)) ?_ ?_
     ·simp only [List.length_nil] at b1
      simp only [qb,hty,hd,h1,b1,b2]
     ·refine ⟨?_,by decide⟩
      show some []=some (yL [] l hh)
      simp [yL]
    ·have hsl:Jx es=y.length:=qF h2
     refine .same hr h (y := .sl a.size (qAD es l.toNat hh.toNat) (lvS (n+1) (qV hh.toNat y.length))) ?_ ?_
     ·simp only [qb,hty,hd,h1,hk1,qV,decide_true,hsl,b1,b2,show pos (n+1)=true from by simp [pos],Bool.and_self]
     ·have hlv:∃ q,lvS (n+1) (qV hh.toNat y.length)=q+1:=by unfold lvS;split<;>exact ⟨_,rfl⟩
      obtain ⟨q,hq⟩:=hlv
      rw [hq]
      refine ⟨?_,Nat.succ_le_succ (Nat.zero_le _)⟩
      show yD _ _ (.sl _ _ (q+1))=_
      simp only [yD,hk1,qV,decide_true]
      exact qcP _ (qem _ h2)
   ·rename_i hd he
    rw [he] at ha
    split at h<;>try cases h
    rename_i hh hhe
    split at h<;>try cases h
    rename_i l hle
    obtain ⟨c1,h⟩:=yT h
    obtain ⟨c2,h⟩:=yT h
    have b1:=qaR hr (d:=0) hhe (Nat.le_refl _) c1
    have b2:=qaR hr (d:=0) hle (Nat.zero_le _) c2
    exact .same hr h (y := .v (.slice none 0 0)) (by simp only [qb,hty,hd,show aev tm x=_ from ha,b1,b2]) rfl
   ·rename_i _ _ _ _ _ k _ _ id ver hd he
    rw [he] at ha
    split at h<;>try cases h
    rename_i R hR
    split at h<;>try cases h
    rename_i hvk
    rw [Bool.and_eq_true] at hvk
    have hv:R.ver=ver:=Nat.eq_of_beq_eq_true hvk.1
    have hk:=of_decide_eq_true hvk.2
    split at h<;>try cases h
    rename_i l hle
    obtain ⟨c1,h⟩:=yT h
    obtain ⟨R',g1,g2,g3,g4⟩:=ha
    rw [hr.rw,hR] at g1;cases g1
    have hR':m.rw[id]? = some R:=by rw [hr.rw];exact hR
    have gy:=g4 hv
    subst hv
    rcases qe0 hr.rows hR' gy with ⟨rr,Q,hrr,hy,k1,k2,kv,k3,k4,kf,ks⟩ | ⟨hrr,hq,hy,hlv⟩
    ·have hQl:=qF k4
     have hrl:rr < σ.rw.length:=getElem?_lt k1
     have b2:=qaR hr (d:=0) hle (Nat.zero_le _) c1
     have hll:l.toNat<=R.l.length:=by
      unfold inb at c1
      have:=of_decide_eq_true c1
      omega
     have hdr:qvo Q k 0 Q.c.length Q.ver l.toNat=some { Q with c:=Q.c.drop l.toNat,ver:=Q.ver+1,fz:=Q.fz-l.toNat,off:=true }:=by
      unfold qvo
      rw [if_pos ⟨k3.trans hk,rfl,rfl,rfl,by rw [hQl];exact hll,kf⟩]
     obtain ⟨m',z1,z2,z3⟩:=hr.rowUpd (R2:=⟨R.τ,R.l.drop l.toNat,R.ver+1,R.sv,true⟩) hR (some rr) (Q.ver+1) (Q.c.drop l.toNat) (Nat.le_succ _) (Nat.le_refl _) (λ h=>by have:R.ver+1=R.ver:=h;omega)
      (σ':={ σ with rw := σ.rw.set rr { Q with c:=Q.c.drop l.toNat,ver:=Q.ver+1,fz:=Q.fz-l.toNat,off:=true },wrr:=rr :: σ.wrr }) rfl
      ⟨{ Q with c:=Q.c.drop l.toNat,ver:=Q.ver+1,fz:=Q.fz-l.toNat,off:=true },by show (σ.rw.set rr _)[rr]? = _;rw [List.getElem?_set_self hrl],rfl,rfl,k3,qcP _ k4,by show Q.fz-l.toNat<=(Q.c.drop l.toNat).length;rw [List.length_drop];omega,λ h=>by cases h⟩ λ id' r'' hne hlt hr''=>by
       have hnr:=hr.others hR hrr hne hlt hr''
       exact ⟨λ hee=>hnr (Option.some.inj hee).symm,λ Q' hQ'=>by show (σ.rw.set rr _)[r'']? = _;rw [List.getElem?_set_ne (Ne.symm hnr)];exact hQ'⟩
     refine .to h (y := .rs rr 0 (Q.c.length-l.toNat) (Q.ver+1) false) ?_ z1 z2 (z3 _ ?_)
     ·simp only [qb,hty,hd,hy,Option.map_none,show ∀ n,qaX n n none=some n from λ _=>rfl,k1,hQl,b2,qV,decide_true]
      rw [hQl] at hdr
      rw [hdr]
     ·show _=AV.rs rr 0 (R.l.drop l.toNat).length (Q.ver+1) false
      rw [List.length_drop,hQl]
    ·have b2:=qaR hr (d:=0) hle (Nat.zero_le _) c1
     have hll:l.toNat<=R.l.length:=by
      unfold inb at c1
      have:=of_decide_eq_true c1
      omega
     obtain ⟨m',z1,z2,z3⟩:=hr.rowUpd (R2:=⟨R.τ,R.l.drop l.toNat,R.ver+1,R.sv,true⟩) hR none 0 [] (Nat.le_succ _) (Nat.le_refl _) (λ h=>by have:R.ver+1=R.ver:=h;omega) (σ' := σ) rfl
      (λ hs=>by cases hs) λ id' r'' hne hlt hr''=>⟨λ hee=>(by cases hee),λ _ h=>h⟩
     rcases yr hy with ⟨hyv,hl0⟩ | ⟨es,n,hyv,hd2⟩<;>rw [hyv] at hy hlv
     ·have hl00:l.toNat=0:=by rw [hl0] at hll;simpa using hll
      refine ⟨_,some _,.v (.slice none 0 0),none,m',h,?_,z1,z2,z3 _ ⟨?_,hlv⟩,λ h=>by cases h⟩
      ·rw [hl0] at b2
       simp only [List.length_nil] at b2
       simp only [qb,hty,hd,hyv,Option.map_none,show ∀ n,qaX n n none=some n from λ _=>rfl,b2]
      ·show dlist R.τ _=some (R.l.drop l.toNat)
       rw [hl00,List.drop_zero];exact hy
     ·have hsl:Jx es=R.l.length:=qF hd2
      have hpos:1<=n:=by have:2<=n+1:=hlv;omega
      refine ⟨_,some _,.sl R.τ.size (qAD es l.toNat R.l.length) (lvS (n+1) (qV R.l.length R.l.length)),none,m',h,?_,z1,z2,z3 _ ⟨?_,?_⟩,λ h=>by cases h⟩
      ·simp only [qb,hty,hd,hyv,hk,qV,decide_true,Option.map_none,show ∀ n,qaX n n none=some n from λ _=>rfl,hsl,b2,show pos (n+1)=true from by simp [pos],Bool.and_self]
      ·have hlvS:lvS (n+1) (qV R.l.length R.l.length)=2:=by
         unfold lvS
         rw [show (decide (1<n+1)&&qV R.l.length R.l.length)=true by simp [qV];omega]
       rw [hlvS]
       show yD _ _ (.sl _ _ 2)=_
       simp only [yD,qV,decide_true]
       have:=qcP l.toNat (qem R.l.length hd2)
       rw [List.take_length] at this
       exact this
      ·show 2<=lvS _ _
       unfold lvS
       rw [show (decide (1<n+1)&&qV R.l.length R.l.length)=true by simp [qV];omega]
       exact Nat.le_refl _
 | fieldAddr t x i =>
   simp only [jO] at h
   split at h<;>try cases h
   rename_i hd
   split at h<;>try cases h
   rename_i off size g hf
   split at h<;>try cases h
   have ha:=hr.ev x
   split at h<;>try cases h
   ·rename_i b o he
    rw [he] at ha
    exact .same hr h (by simp only [qb,hty,hd,hf,ha.2]) ⟨ha.1,rfl⟩
   ·rename_i cs o he
    rw [he] at ha
    obtain ⟨ds,ha,hg⟩:=ha
    exact .same hr h (by simp only [qb,hty,hd,hf,ha]) ⟨ds,rfl,hg⟩
   ·rename_i id ver sv j cs o he
    rw [he] at ha
    obtain ⟨R,k1,k2,k3,hy,k4⟩:=ha
    rcases hy with ⟨r',q,ep,hy⟩ | ⟨ds,hy⟩
    ·refine .same hr h (y := .rpt r' q (o+off) ep) (by simp only [qb,hty,hd,hf,hy]) ⟨R,k1,k2,k3,.inl ⟨_,_,_,rfl⟩,λ e1=>?_⟩
     rcases k4 e1 with ⟨r2,i2,z1,z2,z0,z3,z4⟩ | ⟨z1,z3,z4⟩
     ·rw [hy] at z2
      cases z2
      exact .inl ⟨_,_,z1,rfl,z0,z3,z4⟩
     ·exact .inr ⟨z1,z3,λ hs=>by obtain ⟨ds,z,_⟩:=z4 hs;rw [hy] at z;cases z⟩
    ·refine .same hr h (y := .ept ds (o+off)) (by simp only [qb,hty,hd,hf,hy]) ⟨R,k1,k2,k3,.inr ⟨_,rfl⟩,λ e1=>?_⟩
     rcases k4 e1 with ⟨r2,i2,z1,z2,_⟩ | ⟨z1,z3,z4⟩
     ·rw [hy] at z2;cases z2
     ·exact .inr ⟨z1,z3,λ hs=>by obtain ⟨ds',z,zz⟩:=z4 hs;rw [hy] at z;cases z;exact ⟨ds,rfl,zz⟩⟩
 | field t x i =>
   simp only [jO] at h
   have ha:=hr.ev x
   split at h<;>try cases h
   rename_i cs hd he
   split at h<;>try cases h
   rename_i off size g hf
   split at h<;>try cases h
   rename_i y hy
   rw [he] at ha
   obtain ⟨ds,ha,hg⟩:=ha
   obtain ⟨z,g1,g2⟩:=qdv hg hy
   exact .same hr h (by simp only [qb,hty,hd,ha,hf,g1]) g2
 | indexAddr t x i =>
   simp only [jO] at h
   have ha:=hr.ev x
   have hi:=hr.ev i
   split at h<;>try cases h
   ·rename_i _ _ _ _ _ k _ _ ik j hd hj
    rw [hj] at hi
    have hi:aev tm i = .v (.int ik j):=hi
    split at h<;>try cases h
    ·rename_i a l lv he
     rw [he] at ha
     split at h<;>try cases h
     rename_i hk
     have hk:=of_decide_eq_true hk
     obtain ⟨v,hv,h⟩:=jX h
     obtain ⟨j0,hv⟩:=qfC hv
     obtain ⟨hdl,_⟩:=ha
     rcases yr hdl with ⟨h1,rfl⟩ | ⟨es,n,h1,h2⟩
     ·simp at hv
     ·obtain ⟨e,g1,g2⟩:=qdL h2 hv
      refine .same hr h (y := .ept e 0) ?_ ⟨e,rfl,jz g2⟩
      have hsg:qsg es j=some e:=by unfold qsg;rw [if_pos j0];exact g1
      simp only [qb,hty,hd,hi,h1,hk,qV,decide_true,hsg]
    ·rename_i id ver he
     rw [he] at ha
     split at h<;>try cases h
     rename_i R hR
     split at h<;>try cases h
     rename_i hv
     rw [Bool.and_eq_true] at hv
     have hv1:=Nat.eq_of_beq_eq_true hv.1
     have hk:=of_decide_eq_true hv.2
     obtain ⟨v,hv,h⟩:=jX h
     obtain ⟨j0,hv⟩:=qfC hv
     obtain ⟨R',g1,g2,g3,g4⟩:=ha
     rw [hr.rw,hR] at g1;cases g1
     have g4:=g4 hv1
     rcases qe0 hr.rows (by rw [hr.rw];exact hR) g4 with ⟨rr,Q,hrr,hy,q1,q2,q3,q4,q5,_⟩ | ⟨hno,_,hq,_⟩
     ·obtain ⟨e,z1,z2⟩:=qdL q5 hv
      have hl:=qF q5
      have hjl:j.toNat<Q.c.length:=getElem?_lt z1
      refine .same hr h (y := .rpt rr (0+j.toNat) 0 Q.ver) ?_ ?_
      ·have:qvs Q k 0 Q.c.length Q.ver j=some (0+j.toNat):=by
         unfold qvs
         rw [if_pos ⟨q4.trans hk,j0,by omega,rfl,by omega⟩]
       simp only [qb,hty,hd,hi,hy,q1,this]
      ·refine ⟨R,by rw [hr.rw];exact hR,by omega,Nat.le_refl _,.inl ⟨_,_,_,rfl⟩,λ _ => .inl ⟨rr,j.toNat,hrr,by rw [Nat.zero_add,q3],by omega,by omega,λ _=>⟨e,by rw [<- q2];exact z1,jz z2⟩⟩⟩
     ·rcases yr hq with ⟨_,hl⟩ | ⟨es,n,h1,h2⟩
      ·rw [hl] at hv
       simp at hv
      ·obtain ⟨e,g1,g2'⟩:=qdL h2 hv
       refine .same hr h (y := .ept e 0) ?_ ⟨R,by rw [hr.rw];exact hR,by omega,Nat.le_refl _,.inr ⟨_,rfl⟩,λ _ => .inr ⟨hno,Nat.lt_of_le_of_lt (Nat.zero_le _) (getElem?_lt hv),λ _=>⟨e,rfl,jz g2'⟩⟩⟩
       have hsg:qsg es j=some e:=by unfold qsg;rw [if_pos j0];exact g1
       simp only [qb,hty,hd,hi,h1,hk,qV,decide_true,hsg]
   ·rename_i n _ ik j hd hj
    rw [hj] at hi
    have hi:aev tm i = .v (.int ik j):=hi
    split at h<;>try cases h
    rename_i b he
    rw [he] at ha
    obtain ⟨hb,ha⟩:=ha
    obtain ⟨hx,h⟩:=yT h
    have hx:=of_decide_eq_true hx
    refine .same hr h (y := .ptr (m.b b) (0+j.toNat*1)) (by simp only [qb,hty,hd,hi,ha,decide_eq_true hx]) ⟨hb,hx.1,by rw [Nat.zero_add,Nat.mul_one]⟩
 | index t x i =>
   simp only [jO] at h
   have ha:=hr.ev x
   have hi:=hr.ev i
   split at h<;>try cases h
   rename_i y ik j hd he hj
   rw [he] at ha
   rw [hj] at hi
   obtain ⟨v,hv,h⟩:=jX h
   obtain ⟨j0,hv⟩:=qfC hv
   refine .same hr h (y := .v (.int .u8 v.toNat)) ?_ rfl
   have:qAJ ⟨y.toArray⟩ j=some (v.toNat:Int):=by
    unfold qAJ
    rw [if_pos j0]
    show (match y[j.toNat]? with | some b=>some ((b.toNat:Nat):Int) | none=>none)=_
    rw [hv]
   simp only [qb,hty,hd,show aev tm x=_ from ha,show aev tm i=_ from hi,this]
 | extract x i =>
   simp only [jO] at h
   have ha:=hr.ev x
   split at h<;>try cases h
   rename_i vs he
   rw [he] at ha
   obtain ⟨ds,ha,hg⟩:=ha
   split at h<;>try cases h
   rename_i y hy
   obtain ⟨z,g1,g2⟩:=hg.get hy
   exact .same hr h (by simp only [qb,ha,g1]) g2
 | _=>simp only [jO] at h;cases h
end
end Go.AmZ
namespace Go.AmZ
open Go Go.RowKit Go.GxZ
def qc2:List AV->List Nat
 | []=>[]
 | .fn f _::l=>f::qc2 l
 | _::l=>qc2 l
def dFn {γ : Type} (q:List AV->Option γ):List AV->Option γ
 | .fn _ []::xs=>q xs
 | _=>none
def qbw:(ts:List ATy)->List AV->Option (qab ts)
 | []=>qHb
 | .val τ :: r=>qiT (jM τ) (qbw r)
 | .fn::r=>dFn (qbw r)
def Ja:(ts:List Ty)->qb5 ts->List AV
 | [],_=>[]
 | [a],v=>[yi a v]
 | a::b::r,v=>yi a v.1::Ja (b::r) v.2
def yz (c:TC) (f:Nat) (ys:List AV):Option AV:=match c.pf f (qc2 ys) with
 | some g=>match qbw g.args ys with
   | some a=>match g.fn a with
     | some v=>some (zw (Ja g.res v))
     | none=>none
   | none=>none
 | none=>none
def qbr (σ : St) (τ : Ty) (nr:Nat):AV->Option (List (Val τ) × Nat)
 | .rs j lo n ep f=>match σ.rw[nr]? with
   | some R=>match decide (j=nr/\lo=0/\f=false/\R.k = τ.size/\R.ver=ep/\n=R.c.length/\R.fz=0/\R.off=false) with
     | true=>match qL (zQ τ) R.c with
       | some l=>some (l,nr+1)
       | none=>none
     | false=>none
   | none=>none
 | y=>match dlist τ y,decide (2<=lvl y) with
   | some [],true=>some ([],nr)
   | _,_=>none
def qdH (σ : St):(l:List RA)->Nat->List AV->Option (CV l × Nat)
 | [],nr,[]=>some ((),nr)
 | [],_,_::_=>none
 | .val τ :: r,nr,ds=>match zQ τ (ds.take τ.size) with
   | some v=>match qdH σ r nr (ds.drop τ.size) with
     | some (vs,n)=>some ((v,vs),n)
     | none=>none
   | none=>none
 | .row τ :: r,nr,d::ds=>match qbr σ τ nr d with
   | some (l,nr')=>match qdH σ r nr' ds with
     | some (vs,n)=>some ((l,vs),n)
     | none=>none
   | none=>none
 | .row _::_,_,[]=>none
def qjx (σ : St) (l:List RA) (nb nr:Nat):AV->Option (CV l × Nat)
 | .ptr j 0=>match Nat.beq j nb,σ.bx[nb]? with
   | true,some ds=>qdH σ l nr ds
   | _,_=>none
 | _=>none
def qxn:AV->Bool
 | .v (.slice none 0 0)=>true
 | _=>false
theorem qtW {y:AV} (h:qxn y=true):y = .v (.slice none 0 0):=by
 unfold qxn at h
 split at h
 ·rfl
 ·cases h
def qxI (g k:Nat):AV->Option (List AV)
 | .fn g' cs=>match Nat.beq g g'&&Nat.beq cs.length k with
   | true=>some cs
   | false=>none
 | _=>none
theorem qtm {g k:Nat} {y:AV} {cs:List AV} (h:qxI g k y=some cs):y = .fn g cs/\cs.length=k:=by
 unfold qxI at h
 split at h<;>try cases h
 split at h<;>cases h
 rename_i hb
 rw [Bool.and_eq_true] at hb
 rw [Nat.eq_of_beq_eq_true hb.1]
 exact ⟨rfl,Nat.eq_of_beq_eq_true hb.2⟩
def dS (σ : St):(sas:List SA)->Nat->Nat->List AV->Option (jo sas)
 | [],nb,nr,[]=>match decide (nb = σ.bx.length/\nr = σ.rw.length) with
   | true=>some ()
   | false=>none
 | .val τ :: r,nb,nr,y::ys=>match jM τ y with
   | some v=>match dS σ r nb nr ys with
     | some vs=>some (v,vs)
     | none=>none
   | none=>none
 | .row τ :: r,nb,nr,y::ys=>match qbr σ τ nr y with
   | some (l,nr')=>match dS σ r nb nr' ys with
     | some vs=>some (l,vs)
     | none=>none
   | none=>none
 | .box l::r,nb,nr,y::ys=>match qjx σ l nb nr y with
   | some (v,nr')=>match dS σ r (nb+1) nr' ys with
     | some vs=>some (toB l v,vs)
     | none=>none
   | none=>none
 | .nil::r,nb,nr,y::ys=>match qxn y with
   | true=>dS σ r nb nr ys
   | false=>none
 | .clo g k::r,nb,nr,y::ys=>match qxI g k y with
   | some cs=>dS σ r nb nr (cs++ys)
   | none=>none
 | _,_,_,_=>none
def QT:(l:List RA)->Nat->CV l->List AV
 | [],_,_=>[]
 | .val τ :: r,L,v=>qh τ v.1++QT r L v.2
 | .row _::r,L,v => .rs L 0 v.1.length 0 false::QT r (L+1) v.2
def qaW:(l:List RA)->CV l->List Row
 | [],_=>[]
 | .val _::r,v=>qaW r v.2
 | .row τ :: r,v=>⟨τ.size,v.1.map (qh τ),0,0,false⟩::qaW r v.2
def jt:(sas:List SA)->Nat->yS sas->List (List AV)
 | [],_,_=>[]
 | .box l::r,L,o=>QT l L (toC l o.1)::jt r (L+nR l) o.2
 | .nil::r,L,o=>jt r L o
 | .val _::r,L,o=>jt r L o
 | .row _::r,L,o=>jt r L o
 | .clo _ _::r,L,o=>jt r L o
def jv:(sas:List SA)->yS sas->List Row
 | [],_=>[]
 | .box l::r,o=>qaW l (toC l o.1)++jv r o.2
 | .nil::r,o=>jv r o
 | .val _::r,o=>jv r o
 | .row _::r,o=>jv r o
 | .clo _ _::r,o=>jv r o
def yH:(rs:List RE)->Nat->RV rs->List AV
 | [],_,_=>[]
 | .one (.val τ)::r,L,v=>yi τ v.1::yH r L v.2
 | .one (.row _)::r,L,v => .rs L 0 v.1.length 0 false::yH r (L+1) v.2
 | .agg l::r,L,v => .agg (QT l L v.1)::yH r (L+nR l) v.2
 | .opt _::r,L,v => .dead::yH r L v.2
 | .elt _::r,L,v => .dead::yH r L v.2
 | .nilp::r,L,v => .v (.pointer none)::yH r L v
 | .box n l::r,L,v => .ptr n 0::yH r (L+nR l) v.2
 | .eltI d _::r,L,v => .rpt (L-d) v.1.1.toNat 0 0::yH r L v.2
def yV:(rs:List RE)->RV rs->List Row
 | [],_=>[]
 | .one (.val _)::r,v=>yV r v.2
 | .one (.row τ)::r,v=>⟨τ.size,v.1.map (qh τ),0,0,false⟩::yV r v.2
 | .agg l::r,v=>qaW l v.1++yV r v.2
 | .opt _::r,v=>yV r v.2
 | .elt _::r,v=>yV r v.2
 | .nilp::r,v=>yV r v
 | .box _ l::r,v=>qaW l (toC l v.1)++yV r v.2
 | .eltI _ _::r,v=>yV r v.2
def je:(rs:List RE)->Nat->RV rs->List (List AV)
 | [],_,_=>[]
 | .one (.val _)::r,L,v=>je r L v.2
 | .one (.row _)::r,L,v=>je r (L+1) v.2
 | .agg l::r,L,v=>je r (L+nR l) v.2
 | .opt _::r,L,v=>je r L v.2
 | .elt _::r,L,v=>je r L v.2
 | .nilp::r,L,v=>je r L v
 | .box _ l::r,L,v=>QT l L (toC l v.1)::je r (L+nR l) v.2
 | .eltI _ _::r,L,v=>je r L v.2
def qkC (rws:List qD):(rs:List RE)->Nat->Nat->RV rs->Prop
 | [],_,_,_=>True
 | .one a::r,nb,d,v=>qkC rws r nb (d+nRA a) v.2
 | .agg l::r,nb,d,v=>qkC rws r nb (d+nR l) v.2
 | .opt _::_,_,_,_=>False
 | .elt _::_,_,_,_=>False
 | .nilp::r,nb,d,v=>qkC rws r nb d v
 | .box n l::r,nb,d,v=>n=nb/\qkC rws r (nb+1) (d+nR l) v.2
 | .eltI x τ :: r,nb,d,v=>(∃ p j R,x=d-p/\p<=d/\rws[p]? = some R/\∃ h:R.τ = τ,v.1.1=((j:Nat):Int)/\R.l[j]? = some (h▸v.1.2))/\qkC rws r nb d v.2
theorem qEA {β : Type} {l:List β} {i:Int} {e : β} (h:qc l i=some e):∃ j:Nat,i=j/\l[j]? = some e:=by
 unfold qc at h
 split at h
 ·exact ⟨i.toNat,by omega,h⟩
 ·cases h
theorem qa7 {rws:List qD}:∀ (rs:List RE) (nb d:Nat) (v:RV rs) {β : Type} {k:(rs':List RE)->RV rs'->Option β} {x : β},rws.length<=d->J7 rws rs nb d v k=some x ->
  ∃ rs' v',k rs' v'=some x/\qkC rws rs' nb d v'/\∀ {γ : Type} (k':(rs':List RE)->RV rs'->Option γ),J7 rws rs nb d v k'=k' rs' v'
 | [],nb,d,v,β,k,x,hd,h=>⟨[],(),h,trivial,λ _=>rfl⟩
 | .one a::rs,nb,d,v,β,k,x,hd,h=>by
   obtain ⟨rs',v',h1,h2,h3⟩:=qa7 rs nb (d+nRA a) v.2 (by omega) h
   exact ⟨_,_,h1,h2,λ k'=>h3 _⟩
 | .agg l::rs,nb,d,v,β,k,x,hd,h=>by
   obtain ⟨rs',v',h1,h2,h3⟩:=qa7 rs nb (d+nR l) v.2 (by omega) h
   exact ⟨_,_,h1,h2,λ k'=>h3 _⟩
 | .opt l::rs,nb,d,(none,w),β,k,x,hd,h=>by
   obtain ⟨rs',v',h1,h2,h3⟩:=qa7 rs nb d w hd h
   exact ⟨_,_,h1,h2,λ k'=>h3 _⟩
 | .opt l::rs,nb,d,(some b,w),β,k,x,hd,h=>by
   obtain ⟨rs',v',h1,h2,h3⟩:=qa7 rs (nb+1) (d+nR l) w (by omega) h
   exact ⟨_,_,h1,⟨rfl,h2⟩,λ k'=>h3 _⟩
 | .elt p::rs,nb,d,(none,w),β,k,x,hd,h=>by
   obtain ⟨rs',v',h1,h2,h3⟩:=qa7 rs nb d w hd h
   exact ⟨_,_,h1,h2,λ k'=>h3 _⟩
 | .elt p::rs,nb,d,(some i,w),β,k,x,hd,h=>by
   have h:(match rws[p]? with
    | some R=>qa (qc R.l i) λ e=>J7 rws rs nb d w λ r' v'=>k (.eltI (d-p) R.τ :: r') ((i,e),v')
    | none=>none)=some x:=h
   split at h<;>try cases h
   rename_i R hR
   obtain ⟨e,he,h⟩:=jX h
   obtain ⟨rs',v',h1,h2,h3⟩:=qa7 rs nb d w hd h
   obtain ⟨j,j1,j2⟩:=qEA he
   refine ⟨_,_,h1,⟨⟨p,j,R,rfl,by have:=getElem?_lt hR;omega,hR,rfl,j1,j2⟩,h2⟩,λ k'=>?_⟩
   show (match rws[p]? with
    | some R=>qa (qc R.l i) λ e=>J7 rws rs nb d w λ r' v'=>k' (.eltI (d-p) R.τ :: r') ((i,e),v')
    | none=>none)=_
   rw [hR]
   simp only [he,qa]
   exact h3 _
 | .nilp::_,_,_,_,_,_,_,_,h=>by cases h
 | .box _ _::_,_,_,_,_,_,_,_,h=>by cases h
 | .eltI _ _::_,_,_,_,_,_,_,_,h=>by cases h
theorem qe5:∀ (l:List RA) (v:CV l),toC l (toB l v)=v
 | [],_=>rfl
 | [_],(_,())=>rfl
 | _::_::_,_=>rfl
theorem Qi:∀ (l:List RA) (v:CV l),(qaW l v).length=nR l
 | [],_=>rfl
 | .val _::r,v=>Qi r v.2
 | .row _::r,v=>congrArg (· + 1) (Qi r v.2)
theorem y9:∀ (l:List RA) (v:CV l),(jx l v).length=nR l
 | [],_=>rfl
 | .val _::r,v=>y9 r v.2
 | .row _::r,v=>congrArg (· + 1) (y9 r v.2)
theorem J0:∀ (sas:List SA) (o:yS sas),(jv sas o).length=nrB sas
 | [],_=>rfl
 | .nil::r,o=>J0 r o
 | .val _::r,o=>J0 r o
 | .row _::r,o=>J0 r o
 | .clo _ _::r,o=>J0 r o
 | .box l::r,o=>by rw [jv,List.length_append,Qi,J0 r o.2];rfl
theorem Js:∀ (sas:List SA) (o:yS sas),(Q9 sas o).length=nrB sas
 | [],_=>rfl
 | .nil::r,o=>Js r o
 | .val _::r,o=>Js r o
 | .row _::r,o=>Js r o
 | .clo _ _::r,o=>Js r o
 | .box l::r,o=>by rw [Q9,List.length_append,y9,Js r o.2];rfl
def sgP (g:qkE) (σ : St) (ys:List AV):Option (AV × Option St):=match dS σ g.args 0 0 ys with
 | some a=>match g.fn a with
   | some v=>J7 (Q9 g.args v.1) g.res (nBx g.args) (nrB g.args) v.2 λ rs' v'=>some (zw (yH rs' (σ.rw.length+nrB g.args) v'),some ⟨jt g.args σ.rw.length v.1++je rs' (σ.rw.length+nrB g.args) v',σ.rw.map jN++(jv g.args v.1++yV rs' v'),List.range σ.bx.length,List.range σ.rw.length⟩)
   | none=>none
 | none=>none
def mgP (g:qlX) (σ : St) (ys:List AV):Option (AV × Option St):=match dS σ (.row g.τ :: g.args) 0 0 ys with
 | some a=>match g.fn a with
   | some v=>match Nat.beq v.length a.1.length with
     | true=>match σ.bx,σ.rw with
       | [],[R]=>some (.tup [],some ⟨[],[⟨R.k,v.map (qh g.τ),R.ver,R.fz,R.off⟩],[],[0]⟩)
       | [],[]=>some (.tup [],none)
       | _,_=>none
     | false=>none
   | none=>none
 | none=>none
def xgP (g:qpE) (σ : St) (ys:List AV):Option (AV × Option St):=match dS σ g.args 0 0 ys with
 | some a=>match g.fn a with
   | some v=>some (.v (.int .i64 v),none)
   | none=>none
 | none=>none
def TC.spf (c:TC) (f:Nat):Option (St->List AV->Option (AV × Option St)):=match c.mf f with
 | some g=>some (mgP g)
 | none=>match c.xf f with
   | some g=>some (xgP g)
   | none=>match c.sf f with
     | some g=>some (sgP g)
     | none=>none
def TC.pc (c:TC):PC:=⟨c.ty,λ f=>match c.has f with
 | true=>some (yz c f)
 | false=>none,c.spf,c.pur,c.ld⟩
theorem TC.raw_eq (c:TC):c.pc.cfg.raw=c.rawT:=by
 show c.pc.raw=c.rawT
 funext f
 unfold PC.raw TC.rawT
 have e1:c.pc.pf f=match c.has f with | true=>some (yz c f) | false=>none:=rfl
 have e2:c.pc.sp f=c.spf f:=rfl
 rw [e1,e2]
 unfold TC.spf
 cases c.has f with
 | true=>rfl
 | false =>
   cases c.mf f with
   | some g=>rfl
   | none =>
     cases c.xf f with
     | some g=>rfl
     | none =>
       cases c.sf f with
       | none=>rfl
       | some g=>rfl
theorem TC.lo_eq (c:TC):c.pc.cfg.lo=c.loT:=by
 show (λ f=>c.pc.raw f||c.ld f)=c.loT
 funext f
 have h:c.pc.raw f=c.rawT f:=congrFun c.raw_eq f
 rw [h];rfl
section
variable {α : Type} {N:Nat × Nat} {m:Mp} {E:Env} {τ : TS} {tm:List AV} {σ : St} {K:KT α} {r : α} {p:Option (AV × Option St)} {c:TC} {C:Cfg}
theorem Jl:∀ {cs:List AV},(∀ x∈cs,qt x=true)->rbL cs=[]/\rrL cs=[]
 | [],_=>⟨rfl,rfl⟩
 | x::cs,h=>by
   obtain ⟨h1,h2⟩:=Jl λ y hy=>h y (List.mem_cons_of_mem _ hy)
   have hx:=h x (List.mem_cons_self ..)
   rw [rbL,rrL,h1,h2]
   cases x<;>first | exact ⟨rfl,rfl⟩ | (simp [qt] at hx)
theorem qaM {a:Ty} {y:AV} {v:Val a} (h:jM a y=some v):jP y=true/\∀ f cs,y ≠ .fn f cs:=by
 unfold jM at h
 split at h
 case h_2=>cases h
 obtain ⟨pre,h1,_,h3,_⟩:=ye a (zD.1 h)
 rw [List.append_nil] at h1
 rw [<- h1] at h3
 cases y with
 | agg cs =>
   obtain ⟨g1,g2⟩:=Jl (cs:=cs) h3
   refine ⟨?_,λ f cs h=>by cases h⟩
   unfold jP
   rw [rb,rr,g1,g2];rfl
 | v x=>exact ⟨rfl,λ f cs h=>by cases h⟩
 | sl k es n=>exact ⟨rfl,λ f cs h=>by cases h⟩
 | _=>have:=h3 _ (List.mem_singleton.2 rfl);simp [qt] at this
theorem qeu:∀ (a:Ty) (v:Val a),jP (yi a v)=true
 | .int _,_=>rfl
 | .bool,_=>rfl
 | .str,_=>rfl
 | .list _,_=>rfl
 | .term,v=>by
   obtain ⟨g1,g2⟩:=Jl (zN .term v)
   show jP (.agg _)=true
   unfold jP
   rw [rb,rr,g1,g2];rfl
 | .pair a b,v=>by
   obtain ⟨g1,g2⟩:=Jl (zN (.pair a b) v)
   show jP (.agg _)=true
   unfold jP
   rw [rb,rr,g1,g2];rfl
 | .one a,v=>by
   obtain ⟨g1,g2⟩:=Jl (zN (.one a) v)
   show jP (.agg _)=true
   unfold jP
   rw [rb,rr,g1,g2];rfl
theorem qyw {y:AV} (h:∀ z∈cellsOf y,qt z=true):rb y=[]/\rr y=[]:=by
 cases y with
 | agg cs =>
   obtain ⟨g1,g2⟩:=Jl (cs:=cs) h
   exact ⟨by rw [rb,g1],by rw [rr,g2]⟩
 | _=>exact qp9 (h _ (List.mem_singleton.2 rfl))
theorem qB2 (hq:yC m σ) {a:Ty} {cs:List TV} {ds:List AV} {v:Val a} (h1:∀ y∈ds,rsC y=[]) (h2:qkW (qgp m.rw a cs)=some v) (ho:OKL m cs ds):zQ a ds=some v/\∀ y∈ds,qt y=true:=by
 obtain ⟨rs,p1,p2⟩:=qcc hq a (qer h2) ho
 cases p2
 have hp:∀ y∈ds,qt y=true:=by
  obtain ⟨pre,h1',_,h3,_⟩:=ye a p1
  rw [List.map_nil,List.append_nil] at h1'
  intro y hy
  exact qms (h1 y hy) (h3 _ (by rw [<- h1'];exact List.mem_map_of_mem hy))
 exact ⟨qov hp (zD.2 p1),hp⟩
theorem qGs (hq:yC m σ) {a:Ty} {x:TV} {y:AV} {v:Val a} (h1:qkt x=true) (h2:qdo m.rw a x=some v) (ho:OK m x y):jM a y=some v/\rb y=[]/\rr y=[]:=by
 obtain ⟨g1,g2⟩:=qgK hq h2 ho
 have hrs:=qsk h1 ho
 have hno:∀ z∈cellsOf y,rsC z=[]:=by
  intro z hz
  cases y with
  | agg cs=>exact List.flatMap_eq_nil_iff.1 hrs z hz
  | _=>cases List.mem_singleton.1 hz;exact hrs
 have hp:∀ z∈cellsOf y,qt z=true:=by
  obtain ⟨pre,h1',_,h3,_⟩:=ye a (zD.1 g2)
  rw [List.append_nil] at h1'
  intro z hz
  exact qms (hno z hz) (h3 _ (by rw [<- h1'];exact List.mem_map_of_mem hz))
 obtain ⟨e1,e2⟩:=qyw hp
 refine ⟨?_,e1,e2⟩
 have hd:zQ a (cellsOf y)=some v:=qov hp g2
 unfold jM at g1 |-
 have hag:qbt (ju σ.rw y)=qbt y:=by
  cases y with
  | agg cs=>rfl
  | rs r lo n ep f=>simp [cellsOf,rsC] at hno
  | _=>rfl
 rw [hag] at g1
 split at g1
 ·exact hd
 ·cases g1
theorem qmw {fb fr:Nat->Nat} {y:AV} (h1:rb y=[]) (h2:rr y=[]):ren fb fr y=y:=qpO y h1 h2
theorem qzh {pre post:List Nat} {b:Nat} (h:(pre++b::post).Nodup):(pre++b::post).idxOf b=pre.length:=qni h (by rw [List.getElem?_append_right (Nat.le_refl _)];simp)
theorem qbi {fb fr:Nat->Nat}:∀ l:List AV,qO fb fr l=l.map (ren fb fr)
 | []=>rfl
 | x::l=>by rw [qO,qbi l];rfl
theorem qvN {fb fr:Nat->Nat} (a b:List AV):qO fb fr (a++b)=qO fb fr a++qO fb fr b:=by rw [qbi,qbi,qbi,List.map_append]
theorem qsA:∀ a b:List AV,rbL (a++b)=rbL a++rbL b
 | [],_=>rfl
 | x::a,b=>by rw [List.cons_append,rbL,rbL,qsA a b,List.append_assoc]
theorem qsV:∀ a b:List AV,rrL (a++b)=rrL a++rrL b
 | [],_=>rfl
 | x::a,b=>by rw [List.cons_append,rrL,rrL,qsV a b,List.append_assoc]
theorem qyL (hr:Rel N m E τ tm σ) {t:Ty} {x:TV} {y:AV} {l:List (Val t)} {ids:List Nat} (hl:qeM τ.rw t x=some (l,ids)) (hy:OK m x y) :
  rb y=[]/\rr y=ids.filterMap m.r/\(∀ id∈ids,id<m.rw.length) /\
  ∀ (B pre post:List Nat) (fb:Nat->Nat),(pre++(ids.filterMap m.r++post)).Nodup->qbr (qG σ B (pre++(ids.filterMap m.r++post))) t pre.length (ren fb (λ r=>(pre++(ids.filterMap m.r++post)).idxOf r) y)=some (l,pre.length+(ids.filterMap m.r).length):=by
 have emp:dlist t y=some l->l=[]->2<=lvl y->ids.filterMap m.r=[]->(∀ id∈ids,id<m.rw.length)->rb y=[]/\rr y=ids.filterMap m.r/\(∀ id∈ids,id<m.rw.length) /\
   ∀ (B pre post:List Nat) (fb:Nat->Nat),(pre++(ids.filterMap m.r++post)).Nodup->qbr (qG σ B (pre++(ids.filterMap m.r++post))) t pre.length (ren fb (λ r=>(pre++(ids.filterMap m.r++post)).idxOf r) y)=some (l,pre.length+(ids.filterMap m.r).length):=by
  intro hd hl hlv hids hlt
  have hyp:rb y=[]/\rr y=[]:=by
   rcases yr hd with ⟨rfl,_⟩ | ⟨es,n,rfl,_⟩<;>exact ⟨rfl,rfl⟩
  refine ⟨hyp.1,by rw [hyp.2,hids],hlt,λ B pre post fb _=>?_⟩
  rw [qmw hyp.1 hyp.2,hids]
  subst hl
  rcases yr hd with ⟨rfl,_⟩ | ⟨es,n,rfl,_⟩
  ·simp only [qbr,hd,decide_eq_true hlv];rfl
  ·simp only [qbr,hd,decide_eq_true hlv];rfl
 unfold qeM at hl
 split at hl
 ·cases hl
  cases hy
  exact emp rfl rfl (Nat.le_refl _) rfl (by simp)
 ·split at hl<;>cases hl
  rename_i hc hlv
  obtain ⟨e,he⟩:=yE hc
  subst e
  obtain ⟨hy1,hy2⟩:=hy
  have he:_=_:=he
  subst he
  exact emp hy1 rfl (Nat.le_trans (of_decide_eq_true hlv) hy2) rfl (by simp)
 ·rename_i id ver
  split at hl<;>try cases hl
  rename_i R hR
  split at hl<;>try cases hl
  rename_i hv
  rw [Bool.and_eq_true,Bool.not_eq_true'] at hv
  split at hl<;>cases hl
  rename_i hc
  obtain ⟨e,he⟩:=yE hc
  subst e
  have he:R.l=l:=he
  subst he
  obtain ⟨R',k1,_,_,k2⟩:=hy
  have hR':m.rw[id]? = some R:=by rw [hr.rw];exact hR
  rw [hR'] at k1;cases k1
  have hlt:∀ i∈[id],i<m.rw.length:=by intro i hi;rw [List.mem_singleton.1 hi];exact getElem?_lt hR'
  rcases qe0 hr.rows hR' (k2 (Nat.eq_of_beq_eq_true hv.1)) with ⟨rr',Q,q0,rfl,q1,q2,q3,q4,q5,q6,q7⟩ | ⟨q0,q1,q2,q3⟩
  ·have hfm:[id].filterMap m.r=[rr']:=by simp [q0]
   refine ⟨rfl,by rw [hfm];rfl,hlt,λ B pre post fb hn=>?_⟩
   rw [hfm] at hn |-
   have hidx:=qzh hn
   have hget:(qG σ B (pre++([rr']++post))).rw[pre.length]? = some Q:=by
    show ((pre++rr'::post).map λ r => σ.rw.getD r ⟨0,[],0,0,false⟩)[pre.length]? = _
    rw [List.getElem?_map,List.getElem?_append_right (Nat.le_refl _),Nat.sub_self,List.getElem?_cons_zero]
    show some (σ.rw.getD rr' _)=_
    rw [zC q1]
   rw [ren]
   have hidx:(pre++([rr']++post)).idxOf rr'=pre.length:=hidx
   rw [hidx]
   simp only [qbr,hget,q4,q7 hv.2,and_self,decide_true,q5]
   rfl
  ·exact emp q2 (q1 hv.2) q3 (by simp [q0]) hlt
 ·cases hl
theorem qox (hr:Rel N m E τ tm σ):∀ {l:List RA} {cs:List TV} {ds:List AV} {v:CV l} {ids:List Nat},Jd τ.rw l cs=some (v,ids,true)->OKL m cs ds ->
  rbL ds=[]/\rrL ds=ids.filterMap m.r/\(∀ id∈ids,id<m.rw.length) /\
  ∀ (B pre post:List Nat) (fb:Nat->Nat),(pre++(ids.filterMap m.r++post)).Nodup->qdH (qG σ B (pre++(ids.filterMap m.r++post))) l pre.length (qO fb (λ r=>(pre++(ids.filterMap m.r++post)).idxOf r) ds)=some (v,pre.length+(ids.filterMap m.r).length)
 | [],cs,ds,v,ids,h,ho=>by
   cases cs with
   | cons c cs=>simp [Jd] at h
   | nil =>
     cases ho
     simp only [Jd,Option.some.injEq,Prod.mk.injEq] at h
     obtain ⟨_,rfl,_⟩:=h
     exact ⟨rfl,rfl,by simp,λ B pre post fb _=>rfl⟩
 | .val t::l,cs,ds,v,ids,h,ho=>by
   simp only [Jd] at h
   split at h<;>try (cases h;done)
   rename_i w vs ids0 q hw hvs
   simp only [Option.some.injEq,Prod.mk.injEq,Bool.and_eq_true] at h
   obtain ⟨rfl,rfl,hno,rfl⟩:=h
   obtain ⟨i1,i2,i3,i4⟩:=qox hr hvs (ho.drop t.size)
   have ht:=ho.take t.size
   have hrs:∀ y∈ds.take t.size,rsC y=[]:=List.flatMap_eq_nil_iff.1 (qfo ht hno)
   obtain ⟨g1,g2⟩:=qB2 hr.rows hrs (by rw [hr.rw];exact hw) ht
   obtain ⟨p1,p2⟩:=Jl g2
   have hsplit:ds=ds.take t.size++ds.drop t.size:=(List.take_append_drop _ _).symm
   refine ⟨by rw [hsplit,qsA,p1,i1];rfl,by rw [hsplit,qsV,p2,i2];rfl,i3,λ B pre post fb hn=>?_⟩
   have e1:(qO fb (λ r=>(pre++(ids0.filterMap m.r++post)).idxOf r) ds).take t.size=ds.take t.size:=by rw [qbi,<- List.map_take,<- qbi,qcp _ p1 p2]
   have e2:(qO fb (λ r=>(pre++(ids0.filterMap m.r++post)).idxOf r) ds).drop t.size=qO fb (λ r=>(pre++(ids0.filterMap m.r++post)).idxOf r) (ds.drop t.size):=by rw [qbi,<- List.map_drop,<- qbi]
   rw [qdH,e1,g1]
   simp only
   rw [e2,i4 B pre post fb hn]
 | .row t::l,cs,ds,v,ids,h,ho=>by
   cases cs with
   | nil=>simp [Jd] at h
   | cons c cs =>
     obtain ⟨d,ds,rfl,hd,hds⟩:=ho
     simp only [Jd] at h
     split at h<;>try (cases h;done)
     rename_i w i vs ids' q hw hvs
     simp only [Option.some.injEq,Prod.mk.injEq] at h
     obtain ⟨rfl,rfl,rfl⟩:=h
     obtain ⟨a1,a2,a3,a4⟩:=qyL hr hw hd
     obtain ⟨i1,i2,i3,i4⟩:=qox hr hvs hds
     refine ⟨by rw [rbL,a1,i1];rfl,by rw [rrL,a2,i2,List.filterMap_append],λ id hid=>(List.mem_append.1 hid).elim (a3 id) (i3 id),λ B pre post fb hn=>?_⟩
     rw [List.filterMap_append,List.append_assoc] at hn |-
     rw [qO,qdH,a4 B pre (ids'.filterMap m.r++post) fb hn]
     simp only
     have:=i4 B (pre++i.filterMap m.r) post fb (by rw [List.append_assoc];exact hn)
     rw [List.append_assoc,List.length_append] at this
     rw [this,List.length_append,Nat.add_assoc]
theorem qpx (hr:Rel N m E τ tm σ):∀ {sas:List SA} {xs:List TV} {ys:List AV} {a:jo sas} {bs rs:List Nat},yb τ sas xs=some (a,bs,rs)->OKL m xs ys->qhh sas=true ->
  rbL ys=bs.map m.b/\(qie sas=true->rrL ys=[])/\(rrL ys++bs.flatMap λ b=>rrL (σ.bx.getD (m.b b) []))=rs.filterMap m.r/\(∀ b∈bs,b<m.nb/\∃ ds,σ.bx[m.b b]? = some ds/\rbL ds=[])/\(∀ id∈rs,id<m.rw.length) /\
  ∀ (preB preR:List Nat),(preB++bs.map m.b).Nodup->(preR++rs.filterMap m.r).Nodup ->
   dS (qG σ (preB++bs.map m.b) (preR++rs.filterMap m.r)) sas preB.length preR.length (qO (λ b=>(preB++bs.map m.b).idxOf b) (λ r=>(preR++rs.filterMap m.r).idxOf r) ys)=some a:=by
 intro sas
 induction sas with
 | nil =>
   intro xs ys a bs rs h ho _
   cases xs with
   | cons x xs=>simp [yb] at h
   | nil =>
     cases ho
     simp only [yb,Option.some.injEq,Prod.mk.injEq] at h
     obtain ⟨_,rfl,rfl⟩:=h
     refine ⟨rfl,λ _=>rfl,rfl,by simp,by simp,λ preB preR _ _=>?_⟩
     simp [qO,dS,qG]
 | cons k sas ih =>
   intro xs ys a bs rs h ho hord
   cases xs with
   | nil=>cases k<;>simp [yb] at h
   | cons x xs =>
   obtain ⟨y,ys,rfl,hy,hys⟩:=ho
   cases k with
   | val t =>
     simp only [yb] at h
     split at h<;>try cases h
     rename_i v hno hv
     split at h<;>cases h
     rename_i vs bs' rs' hvs
     obtain ⟨i1,i0,i2,i3,i4,i5⟩:=ih hvs hys hord
     obtain ⟨g1,g2,g3⟩:=qGs hr.rows hno (by rw [hr.rw];exact hv) hy
     refine ⟨by rw [rbL,g2,i1];rfl,λ hn=>by rw [rrL,g3,i0 hn];rfl,by rw [rrL,g3];exact i2,i3,i4,λ preB preR hb hR=>?_⟩
     rw [qO,qmw g2 g3,dS,g1]
     simp only
     rw [i5 preB preR hb hR]
   | nil =>
     cases x with
     | nil =>
       have h:yb τ sas xs=some (a,bs,rs):=h
       have hy:y = .v (.slice none 0 0):=hy
       subst hy
       obtain ⟨i1,i0,i2,i3,i4,i5⟩:=ih h hys hord
       refine ⟨by rw [rbL,i1];rfl,λ hn=>by rw [rrL,i0 hn];rfl,by rw [rrL];exact i2,i3,i4,λ preB preR hb hR=>?_⟩
       show dS _ (.nil::sas) _ _ (.v (.slice none 0 0)::qO _ _ ys)=_
       exact i5 preB preR hb hR
     | _=>simp [yb] at h
   | clo g k =>
     cases x with
     | fn g' cs =>
       simp only [yb] at h
       split at h<;>try cases h
       rename_i hg
       rw [Bool.and_eq_true] at hg
       obtain ⟨cs',rfl,hcs⟩:=hy
       obtain ⟨i1,i0,i2,i3,i4,i5⟩:=ih h (hcs.append hys) hord
       rw [qsA] at i1
       rw [qsV] at i0 i2
       refine ⟨by rw [rbL,rb];exact i1,λ hn=>by rw [rrL,rr];exact i0 hn,by rw [rrL,rr];exact i2,i3,i4,λ preB preR hb hR=>?_⟩
       have hcl:qxI g k (.fn g' (qO (λ b=>(preB++bs.map m.b).idxOf b) (λ r=>(preR++rs.filterMap m.r).idxOf r) cs'))=some (qO (λ b=>(preB++bs.map m.b).idxOf b) (λ r=>(preR++rs.filterMap m.r).idxOf r) cs'):=by
        have hlen:Nat.beq (qO (λ b=>(preB++bs.map m.b).idxOf b) (λ r=>(preR++rs.filterMap m.r).idxOf r) cs').length k=true:=by
         rw [qbi,List.length_map,hcs.len];exact hg.2
        simp only [qxI,hg.1,hlen,Bool.and_self]
       rw [qO,ren,dS,hcl]
       simp only
       rw [<- qvN]
       exact i5 preB preR hb hR
     | _=>simp [yb] at h
   | row t =>
     simp only [yb] at h
     split at h<;>try cases h
     rename_i l ids hl
     split at h<;>cases h
     rename_i vs rs' hvs
     obtain ⟨i1,i0,i2,i3,i4,i5⟩:=ih hvs hys hord
     obtain ⟨a1,a2,a3,a4⟩:=qyL hr hl hy
     refine ⟨by rw [rbL,a1,i1];rfl,λ hn=>(by cases hn),by rw [rrL,a2,List.append_assoc,i2,List.filterMap_append],i3,λ id hid=>(List.mem_append.1 hid).elim (a3 id) (i4 id),λ preB preR hb hR=>?_⟩
     rw [List.filterMap_append] at hR |-
     rw [qO,dS,a4 _ preR (rs'.filterMap m.r) _ hR]
     simp only
     have:=i5 preB (preR++ids.filterMap m.r) hb (by rw [List.append_assoc];exact hR)
     rw [List.append_assoc,List.length_append] at this
     rw [this]
   | box l =>
     have hord':qie sas=true/\qhh sas=true:=by
      have:(qie sas&&qhh sas)=true:=hord
      rw [Bool.and_eq_true] at this;exact this
     simp only [yb] at h
     split at h<;>try cases h
     rename_i v ids b hb0
     split at h<;>cases h
     rename_i vs bs' rs' hvs
     obtain ⟨i1,i0,i2,i3,i4,i5⟩:=ih hvs hys hord'.2
     unfold qGZ at hb0
     split at hb0<;>try cases hb0
     split at hb0<;>try cases hb0
     rename_i cs hcs
     split at hb0<;>cases hb0
     rename_i hv
     obtain ⟨hbn,rfl⟩:=hy
     obtain ⟨ds,d1,d2⟩:=hr.box _ cs hcs
     obtain ⟨p1,p2,p3,p4⟩:=qox hr hv d2
     have hrr:=i0 hord'.1
     rw [hrr,List.nil_append] at i2
     refine ⟨by rw [rbL,i1];rfl,λ _=>by rw [rrL,hrr];rfl,?_,λ b' hb'=>?_,λ id hid=>(List.mem_append.1 hid).elim (p3 id) (i4 id),λ preB preR hbN hR=>?_⟩
     ·rw [rrL,hrr,List.flatMap_cons,i2,zC d1,p2,List.filterMap_append];rfl
     ·rcases List.mem_cons.1 hb' with rfl | hb'
      ·exact ⟨hbn,ds,d1,p1⟩
      ·exact i3 b' hb'
     ·rw [List.map_cons] at hbN |-
      rw [List.filterMap_append] at hR |-
      have hidx:=qzh hbN
      have hget:(qG σ (preB++m.b b::bs'.map m.b) (preR++(ids.filterMap m.r++rs'.filterMap m.r))).bx[preB.length]? = some (qO (λ b'=>(preB++m.b b::bs'.map m.b).idxOf b') (λ r=>(preR++(ids.filterMap m.r++rs'.filterMap m.r)).idxOf r) ds):=by
       show ((preB++m.b b::bs'.map m.b).map λ b=>qO _ _ (σ.bx.getD b []))[preB.length]? = _
       rw [List.getElem?_map,List.getElem?_append_right (Nat.le_refl _),Nat.sub_self,List.getElem?_cons_zero]
       show some (qO _ _ (σ.bx.getD (m.b b) []))=_
       rw [zC d1]
      have hbox:qjx (qG σ (preB++m.b b::bs'.map m.b) (preR++(ids.filterMap m.r++rs'.filterMap m.r))) l preB.length preR.length (.ptr preB.length 0)=some (v,preR.length+(ids.filterMap m.r).length):=by
       simp only [qjx,Nat.beq_refl,hget]
       exact p4 _ preR (rs'.filterMap m.r) _ hR
      rw [qO,ren,hidx,dS,hbox]
      simp only
      have:=i5 (preB++[m.b b]) (preR++ids.filterMap m.r) (by rw [List.append_assoc];exact hbN) (by rw [List.append_assoc];exact hR)
      rw [List.append_assoc,List.append_assoc,List.length_append,List.length_append] at this
      have this:dS (qG σ (preB++m.b b::bs'.map m.b) (preR++(ids.filterMap m.r++rs'.filterMap m.r))) sas (preB.length+1) (preR.length+(ids.filterMap m.r).length) (qO (λ b'=>(preB++m.b b::bs'.map m.b).idxOf b') (λ r=>(preR++(ids.filterMap m.r++rs'.filterMap m.r)).idxOf r) ys)=some vs:=this
      rw [this]
theorem qz7:∀ {l:List Nat},l.Nodup->nd l=true
 | [],_=>rfl
 | b::l,h=>by
   rw [List.nodup_cons] at h
   rw [nd,qz7 h.2]
   simp [h.1]
theorem qr4:∀ {l seen:List Nat},l.Nodup->(∀ b∈l,b ∉ seen)->qe seen l=l
 | [],seen,_,_=>rfl
 | b::l,seen,h,hs=>by
   rw [List.nodup_cons] at h
   rw [qe]
   have:seen.contains b=false:=by
    have:=hs b (List.mem_cons_self ..)
    simpa using this
   rw [this]
   simp only
   rw [qr4 h.2 λ c hc hm=>by
    rcases List.mem_cons.1 hm with rfl | hm
    ·exact h.1 hc
    ·exact hs c (List.mem_cons_of_mem _ hc) hm]
theorem qDK {α : Type} {f : α -> List Nat} {l:List α} (h:∀ x∈l,f x=[]):l.flatMap f=[]:=List.flatMap_eq_nil_iff.2 h
theorem qC5 {α : Type} {f : α -> List Nat} {l:List α} {x : α} {r:Nat} (hx:x∈l) (hr:r∈f x):r∈l.flatMap f:=List.mem_flatMap.2 ⟨x,hx,hr⟩
theorem qpI {ys:List AV} {B R:List Nat} (h1:rbL ys=B) (h2:(rrL ys++B.flatMap λ b=>rrL (σ.bx.getD b []))=R) (hB:B.Nodup) (hR:R.Nodup) (hb:∀ b∈B,∃ ds,σ.bx[b]? = some ds/\rbL ds=[]) (hr:∀ r∈R,r < σ.rw.length) :
  Qk σ ys=B/\qbE σ ys=R/\qgg σ ys=true:=by
 have c1:∀ b∈B,rbL (σ.bx.getD b [])=[] := λ b hb'=>by obtain ⟨ds,d1,d2⟩:=hb b hb';rw [zC d1];exact d2
 have e1:Qk σ ys=B:=by
  unfold Qk
  rw [h1,qr4 hB (by simp)]
  cases σ.bx.length with
  | zero=>rfl
  | succ n=>rw [qiV,qDK c1];rfl
 have e2:qbE σ ys=R:=by
  unfold qbE
  rw [e1,h2,qr4 hR (by simp)]
 refine ⟨e1,e2,?_⟩
 unfold qgg
 rw [e1,e2,h1,qz7 hB,qz7 hR]
 simp only [Bool.true_and,Bool.and_eq_true,List.all_eq_true,List.contains_iff_mem,decide_eq_true_eq]
 refine ⟨⟨⟨λ _ h=>h,λ r h=>by rw [<- h2];exact List.mem_append.2 (.inl h)⟩,λ b hb'=>?_⟩,hr⟩
 obtain ⟨ds,d1,d2⟩:=hb b hb'
 refine ⟨⟨getElem?_lt d1,?_⟩,λ r hr'=>?_⟩
 ·rw [zC d1,d2];simp
 ·rw [<- h2];exact List.mem_append.2 (.inr (qC5 hb' hr'))
theorem qBX {fb fr:Nat->Nat}:∀ l:List AV,ren fb fr (zw l)=zw (qO fb fr l)
 | []=>rfl
 | [x]=>rfl
 | x::y::l=>rfl
theorem qkb {R:List Nat} {rn j:Nat}:zl R rn (R.length+j)=rn+j:=by
 unfold zl
 rw [List.getElem?_eq_none (by omega)]
 show rn+(R.length+j-R.length)=_
 omega
theorem qd4 {B R:List Nat} {bn rn:Nat}:∀ (l:List RA) (j:Nat) (v:CV l),qO (zl B bn) (zl R rn) (QT l (R.length+j) v)=QT l (rn+j) v
 | [],j,v=>rfl
 | .val a::l,j,v=>by
   obtain ⟨h1,h2⟩:=Jl (zN a v.1)
   rw [QT,qvN,qcp _ h1 h2,qd4 l j v.2];rfl
 | .row a::l,j,v=>by
   have h:=qd4 (B:=B) (R:=R) (bn:=bn) (rn:=rn) l (j+1) v.2
   rw [<- Nat.add_assoc,<- Nat.add_assoc] at h
   rw [QT,qO,ren,qkb,h];rfl
theorem qdG {rws:List qD} {B R:List Nat} {bn rn:Nat}:∀ (rs:List RE) (nb j:Nat) (v:RV rs),B.length<=nb->qkC rws rs nb j v->qO (zl B bn) (zl R rn) (yH rs (R.length+j) v)=(yH rs (rn+j) v).map λ y=>match y with
  | .ptr n o => .ptr (bn+(n-B.length)) o
  | y=>y
 | [],nb,j,v,_,_=>rfl
 | .one (.val a)::rs,nb,j,v,hb,h=>by
   obtain ⟨h1,h2⟩:=qcK (qeu a v.1)
   rw [yH,qO,qmw h1 h2,qdG rs nb j v.2 hb h,yH,List.map_cons]
   congr 1
   split
   ·rename_i n o he
    rw [he] at h1;cases h1
   ·rfl
 | .one (.row a)::rs,nb,j,v,hb,h=>by
   have h:=qdG (B:=B) (R:=R) (bn:=bn) (rn:=rn) rs nb (j+1) v.2 hb h
   rw [<- Nat.add_assoc,<- Nat.add_assoc] at h
   rw [yH,qO,ren,qkb,h];rfl
 | .agg l::rs,nb,j,v,hb,h=>by
   have h:=qdG (B:=B) (R:=R) (bn:=bn) (rn:=rn) rs nb (j+nR l) v.2 hb h
   rw [<- Nat.add_assoc,<- Nat.add_assoc] at h
   rw [yH,qO,ren,qd4 l j v.1,h];rfl
 | .opt _::rs,nb,j,v,hb,h=>h.elim
 | .elt _::rs,nb,j,v,hb,h=>h.elim
 | .nilp::rs,nb,j,v,hb,h=>by rw [yH,qO,qdG rs nb j v hb h];rfl
 | .box n l::rs,nb,j,v,hb,h=>by
   obtain ⟨rfl,h⟩:=h
   have h:=qdG (B:=B) (R:=R) (bn:=bn) (rn:=rn) rs (n+1) (j+nR l) v.2 (by omega) h
   rw [<- Nat.add_assoc,<- Nat.add_assoc] at h
   rw [yH,qO,ren,h,yH,List.map_cons]
   congr 1
   show AV.ptr (zl B bn n) 0 = .ptr (bn+(n-B.length)) 0
   obtain ⟨k,rfl⟩:=Nat.le.dest hb
   rw [qkb,Nat.add_sub_cancel_left]
 | .eltI d a::rs,nb,j,v,hb,⟨⟨p,i,Rw,e1,e2,_⟩,h⟩=>by
   have hx:R.length+j-d=R.length+(j-d):=by omega
   have hy:rn+j-d=rn+(j-d):=by omega
   rw [yH,qO,ren,hx,qkb,qdG rs nb j v.2 hb h,yH,List.map_cons,hy]
theorem qcg {rws:List qD} {B R:List Nat} {bn rn:Nat}:∀ (rs:List RE) (nb j:Nat) (v:RV rs),qkC rws rs nb j v->(je rs (R.length+j) v).map (qO (zl B bn) (zl R rn))=je rs (rn+j) v
 | [],nb,j,v,_=>rfl
 | .one (.val a)::rs,nb,j,v,h=>qcg rs nb j v.2 h
 | .one (.row a)::rs,nb,j,v,h=>qcg rs nb (j+1) v.2 h
 | .agg l::rs,nb,j,v,h=>by
   have h:=qcg (B:=B) (R:=R) (bn:=bn) (rn:=rn) rs nb (j+nR l) v.2 h
   rw [<- Nat.add_assoc,<- Nat.add_assoc] at h
   exact h
 | .opt _::rs,nb,j,v,h=>h.elim
 | .elt _::rs,nb,j,v,h=>h.elim
 | .nilp::rs,nb,j,v,h=>qcg rs nb j v h
 | .box n l::rs,nb,j,v,h=>by
   have h:=qcg (B:=B) (R:=R) (bn:=bn) (rn:=rn) rs (nb+1) (j+nR l) v.2 h.2
   rw [<- Nat.add_assoc,<- Nat.add_assoc] at h
   rw [je,List.map_cons,qd4 l j,h];rfl
 | .eltI d a::rs,nb,j,v,h=>qcg rs nb j v.2 h.2
theorem qfa {B R:List Nat} {bn rn:Nat}:∀ (sas:List SA) (j:Nat) (o:yS sas),(jt sas (R.length+j) o).map (qO (zl B bn) (zl R rn))=jt sas (rn+j) o
 | [],j,o=>rfl
 | .nil::sas,j,o=>qfa sas j o
 | .val _::sas,j,o=>qfa sas j o
 | .row _::sas,j,o=>qfa sas j o
 | .clo _ _::sas,j,o=>qfa sas j o
 | .box l::sas,j,o=>by
   have h:=qfa (B:=B) (R:=R) (bn:=bn) (rn:=rn) sas (j+nR l) o.2
   rw [<- Nat.add_assoc,<- Nat.add_assoc] at h
   rw [jt,List.map_cons,qd4 l j,h];rfl
theorem qkr {β : Type}:∀ (rs:List Nat) (l ks ns:List β),ks.length=rs.length->∃ l',zu l rs (ks++ns)=l'++ns/\l'.length=l.length/\∀ r,r ∉ rs->l'[r]? = l[r]?
 | [],l,ks,ns,h=>by
   have:ks=[]:=List.eq_nil_of_length_eq_zero h
   subst this
   exact ⟨l,by simp [zu],rfl,λ _ _=>rfl⟩
 | r::rs,l,[],ns,h=>by simp at h
 | r::rs,l,k::ks,ns,h=>by
   obtain ⟨l',h1,h2,h3⟩:=qkr rs (l.set r k) ks ns (by simpa using h)
   refine ⟨l',h1,by rw [h2,List.length_set],λ q hq=>?_⟩
   rw [h3 q λ hm=>hq (List.mem_cons_of_mem _ hm),List.getElem?_set_ne (by intro he;subst he;exact hq (List.mem_cons_self ..))]
def BxL (m:Mp):List (List TV)->List (List AV)->Prop
 | [],ys=>ys=[]
 | x::xs,ys=>∃ y r,ys=y::r/\OKL m x y/\BxL m xs r
theorem BxL.mono {m':Mp} (h:MLe m m'):∀ {xs:List (List TV)} {ys:List (List AV)},BxL m xs ys->BxL m' xs ys
 | [],ys,hx=>hx
 | x::xs,ys,⟨y,r,e,h1,h2⟩=>⟨y,r,e,h1.mono h,BxL.mono h h2⟩
theorem qtP:∀ (bs:List Nat) {τ : TS} {σ : St} {xs:List (List TV)} {ys:List (List AV)},Rel N m E τ tm σ -> BxL m xs ys->xs.length=bs.length->(∀ b∈bs,b<m.nb) ->
  Rel N m E ⟨qid τ.bx bs xs,τ.rw⟩ tm { σ with bx:=zu σ.bx (bs.map m.b) ys }
 | [],τ,σ,xs,ys,hr,hx,hl,_=>by
   have:xs=[]:=List.eq_nil_of_length_eq_zero hl
   subst this
   cases hx
   show Rel N m E τ tm { σ with bx := σ.bx++[] }
   rw [List.append_nil];exact hr
 | b::bs,τ,σ,xs,ys,hr,hx,hl,hb=>by
   cases xs with
   | nil=>simp at hl
   | cons x xs =>
     obtain ⟨y,r,rfl,h1,h2⟩:=hx
     have:=hr.setBox (hb b (List.mem_cons_self ..)) h1 σ.wr
     exact qtP bs this h2 (by simpa using hl) λ c hc=>hb c (List.mem_cons_of_mem _ hc)
theorem qrb {β : Type} {l:List β} {i:Nat} {x : β} {f : β -> β} (h:l[i]? = some x):l.modify i f=l.set i (f x):=by
 apply List.ext_getElem?
 intro j
 rw [List.getElem?_modify,List.getElem?_set]
 by_cases he:i=j
 ·subst he
  rw [h,if_pos rfl,if_pos (getElem?_lt h)]
  simp
 ·rw [if_neg he]
  cases l[j]? with
  | none=>rfl
  | some y=>simp [he]
theorem qwT:∀ (ids:List Nat) {m:Mp} {τ : TS},Rel N m E τ tm σ -> (∀ id∈ids,id<m.rw.length) ->
  ∃ m',MLe m m'/\Rel N m' E ⟨τ.bx,qcH τ.rw ids⟩ tm σ /\ m'.nb=m.nb/\m'.b=m.b/\m'.rw.length=m.rw.length/\(∀ i r,m'.r i=some r->m.r i=some r/\i ∉ ids)
 | [],m,τ,hr,_=>⟨m,.refl m,hr,rfl,rfl,rfl,λ i r h=>⟨h,by simp⟩⟩
 | id::ids,m,τ,hr,hl=>by
   have hid:=hl id (List.mem_cons_self ..)
   have h0:=List.getElem?_eq_getElem hid
   generalize hRe:m.rw[id]=R at h0
   have hle:MLe m (m.upd id ⟨R.τ,[],R.ver+1,R.sv,false⟩ none 0 []):=qBd h0 (Nat.le_succ _) (Nat.le_refl _) (λ h=>by have:R.ver+1=R.ver:=h;omega)
   have hr1:Rel N (m.upd id ⟨R.τ,[],R.ver+1,R.sv,false⟩ none 0 []) E ⟨τ.bx,τ.rw.modify id λ R=>⟨R.τ,[],R.ver+1,R.sv,false⟩⟩ tm σ := by
    refine hr.to hle ?_ rfl rfl rfl (qwZ h0 hr.rows (λ _=>rfl) λ _ _ _ _ _ _ h=>h) ?_
    ·show m.rw.set id _ = τ.rw.modify id _
     rw [<- hr.rw,qrb h0]
    ·intro i i' r g1 g2 e1 e2
     change i<(m.rw.set id _).length at g1
     change i'<(m.rw.set id _).length at g2
     change (if i=id then none else m.r i)=some r at e1
     change (if i'=id then none else m.r i')=some r at e2
     simp at g1 g2
     split at e1<;>split at e2<;>first | (cases e1;done) | (cases e2;done) | exact hr.rinj i i' r g1 g2 e1 e2
   obtain ⟨m',k1,k2,k3,k4,k5,k6⟩:=qwT ids hr1 (λ i hi=>by show i<(m.rw.set id _).length;rw [List.length_set];exact hl i (List.mem_cons_of_mem _ hi))
   refine ⟨m',hle.trans k1,k2,k3,k4,by rw [k5];show (m.rw.set id _).length=_;rw [List.length_set],λ i r h=>?_⟩
   obtain ⟨q1,q2⟩:=k6 i r h
   have q1:(if i=id then none else m.r i)=some r:=q1
   split at q1
   ·cases q1
   ·rename_i hne
    exact ⟨q1,λ hm=>(List.mem_cons.1 hm).elim hne q2⟩
def qfE (m:Mp) (L:Nat):Prop:=∀ id r,id<m.rw.length->m.r id=some r->r<L
def At (m:Mp) (t L n:Nat):Prop:=∀ k,k<n->∃ R,m.rw[t+k]? = some R/\R.ver=0/\R.sv=0/\m.r (t+k)=some (L+k)/\m.v (t+k)=0
theorem At.mono {m m':Mp} {t L n:Nat} (h:At m t L n) (hl:MLe m m') (hz:∀ (id:Nat) (R R':qD),m.rw[id]? = some R->m'.rw[id]? = some R'->R'=R):At m' t L n := λ k hk=>by
 obtain ⟨R,h1,h2,h3,h4,h5⟩:=h k hk
 obtain ⟨R',g1,_,_,g4⟩:=hl.row _ R h1
 cases hz _ _ _ h1 g1
 obtain ⟨_,a,b,_⟩:=g4 rfl
 exact ⟨R,g1,h2,h3,a.trans h4,b.trans h5⟩
theorem At.join {m:Mp} {t L a b:Nat} (h:At m t L a) (g:At m (t+a) (L+a) b):At m t L (a+b) := λ k hk=>by
 by_cases hl:k<a
 ·exact h k hl
 ·obtain ⟨R,g1,g2,g3,g4,g5⟩:=g (k-a) (by omega)
  rw [show t+a+(k-a)=t+k by omega] at g1 g4 g5
  rw [show L+a+(k-a)=L+k by omega] at g4
  exact ⟨R,g1,g2,g3,g4,g5⟩
theorem qzA (hr:Rel N m E τ tm σ) {L:Nat} {a:Ty} {l:List (Val a)} (hf:qfE m L) (hq : σ.rw[L]? = some ⟨a.size,l.map (qh a),0,0,false⟩) :
  ∃ m',MLe m m'/\Rel N m' E ⟨τ.bx,τ.rw++[⟨a,l,0,0,false⟩]⟩ tm σ /\ OK m' (.row τ.rw.length 0) (.rs L 0 l.length 0 false)/\qfE m' (L+1)/\m'.b=m.b/\m'.nb=m.nb/\At m' τ.rw.length L 1:=by
 have hle:=qmM m ⟨a,l,0,0,false⟩ (some L) 0 (l.map (qh a))
 have hg:QC σ ⟨a,l,0,0,false⟩ (some L) 0 (l.map (qh a)):=⟨⟨a.size,l.map (qh a),0,0,false⟩,hq,rfl,rfl,rfl,J2 (jF a) l,Nat.zero_le _,λ _=>⟨rfl,rfl⟩⟩
 have hr1:Rel N (m.add ⟨a,l,0,0,false⟩ (some L) 0 (l.map (qh a))) E ⟨τ.bx,τ.rw++[⟨a,l,0,0,false⟩]⟩ tm σ := by
  refine hr.to hle (by show m.rw++_=_;rw [hr.rw]) rfl rfl rfl (qkY hr.rows hg λ _ _ h=>h) ?_
  intro id id' r h1 h2 e1 e2
  change id<(m.rw++[_]).length at h1
  change id'<(m.rw++[_]).length at h2
  change (if id=m.rw.length then some L else m.r id)=some r at e1
  change (if id'=m.rw.length then some L else m.r id')=some r at e2
  simp at h1 h2
  split at e1<;>split at e2
  ·omega
  ·have:=hf id' r (by omega) e2;cases e1;omega
  ·have:=hf id r (by omega) e1;cases e2;omega
  ·exact hr.rinj id id' r (by omega) (by omega) e1 e2
 refine ⟨_,hle,hr1,⟨⟨a,l,0,0,false⟩,?_,Nat.zero_le _,.inr (.inr ⟨_,_,_,_,_,rfl⟩),λ _=>?_⟩,λ id r h1 e1=>?_,rfl,rfl,λ k hk=>?_⟩
 ·show (m.rw++_)[τ.rw.length]? = _
  rw [hr.rw];simp
 ·show QM (if τ.rw.length=m.rw.length then some L else m.r τ.rw.length) (if τ.rw.length=m.rw.length then 0 else m.v τ.rw.length) a l _
  rw [if_pos (by rw [hr.rw]),if_pos (by rw [hr.rw])];rfl
 ·change id<(m.rw++[_]).length at h1
  change (if id=m.rw.length then some L else m.r id)=some r at e1
  simp at h1
  split at e1
  ·cases e1;omega
  ·have:=hf id r (by omega) e1;omega
 ·have hk0:k=0:=by omega
  subst hk0
  exact ⟨⟨a,l,0,0,false⟩,by show (m.rw++_)[τ.rw.length+0]? = _;rw [hr.rw];simp,rfl,rfl,by show (if τ.rw.length+0=m.rw.length then some L else _)=_;rw [if_pos (by rw [hr.rw,Nat.add_zero])];rfl,by show (if τ.rw.length+0=m.rw.length then 0 else _)=_;rw [if_pos (by rw [hr.rw,Nat.add_zero])]⟩
theorem qsR {m m':Mp} {ls:List qD} {rw rw':List qD} (h:m.rw=rw) (h':m'.rw=rw') (he:rw'=rw++ls):∀ (id:Nat) (R R':qD),m.rw[id]? = some R->m'.rw[id]? = some R'->R'=R := λ id R R' h1 h2=>by
 rw [h',he,<- h,List.getElem?_append_left (getElem?_lt h1),h1] at h2
 exact (Option.some.inj h2).symm
theorem qfI:∀ (l:List RA) {m:Mp} {τ : TS} {L:Nat} {v:CV l},Rel N m E τ tm σ -> qfE m L->(∀ (k:Nat) (Q:Row),(qaW l v)[k]? = some Q -> σ.rw[L+k]? = some Q) ->
  ∃ m',MLe m m'/\Rel N m' E ⟨τ.bx,τ.rw++jx l v⟩ tm σ /\ OKL m' (qaO l τ.rw.length v) (QT l L v)/\qfE m' (L+nR l)/\m'.b=m.b/\m'.nb=m.nb/\At m' τ.rw.length L (nR l)
 | [],m,τ,L,v,hr,hf,_=>⟨m,.refl m,by show Rel N m E ⟨τ.bx,τ.rw++[]⟩ tm σ;rw [List.append_nil];exact hr,rfl,hf,rfl,rfl,λ k hk=>absurd hk (Nat.not_lt_zero _)⟩
 | .val a::l,m,τ,L,v,hr,hf,hq=>by
   obtain ⟨m',h1,h2,h3,h4,h5,h6,h7⟩:=qfI l (v:=v.2) hr hf hq
   exact ⟨m',h1,h2,(jz (jF a v.1)).append h3,h4,h5,h6,h7⟩
 | .row a::l,m,τ,L,v,hr,hf,hq=>by
   obtain ⟨m1,a1,a2,a3,a4,a5,a6,a7⟩:=qzA hr (a:=a) (l:=v.1) hf (hq 0 _ rfl)
   obtain ⟨m',h1,h2,h3,h4,h5,h6,h7⟩:=qfI l (v:=v.2) (L:=L+1) a2 a4 λ k Q hk=>by
    have:=hq (k+1) Q hk
    rw [<- this];congr 1;omega
   have h2:Rel N m' E ⟨τ.bx,(τ.rw++[⟨a,v.1,0,0,false⟩])++jx l v.2⟩ tm σ := h2
   rw [List.append_assoc] at h2
   have h3:OKL m' (qaO l (τ.rw++([⟨a,v.1,0,0,false⟩]:List qD)).length v.2) (QT l (L+1) v.2):=h3
   have h7:At m' (τ.rw++([⟨a,v.1,0,0,false⟩]:List qD)).length (L+1) (nR l):=h7
   rw [List.length_append] at h3 h7
   exact ⟨m',a1.trans h1,h2,⟨_,_,rfl,a3.mono h1,h3⟩,(by rw [nR,<- Nat.add_assoc,Nat.add_right_comm];exact h4),h5.trans a5,h6.trans a6,by
    rw [nR,Nat.add_comm]
    exact (a7.mono h1 (qsR a2.rw h2.rw (List.append_assoc ..).symm)).join h7⟩
theorem qeE:∀ (sas:List SA) {m:Mp} {τ : TS} {L:Nat} {o:yS sas},Rel N m E τ tm σ -> qfE m L->(∀ (k:Nat) (Q:Row),(jv sas o)[k]? = some Q -> σ.rw[L+k]? = some Q) ->
  ∃ m',MLe m m'/\Rel N m' E ⟨τ.bx,τ.rw++Q9 sas o⟩ tm σ /\ BxL m' (qck sas τ.rw.length o) (jt sas L o)/\qfE m' (L+nrB sas)/\m'.b=m.b/\m'.nb=m.nb/\At m' τ.rw.length L (nrB sas)
 | [],m,τ,L,o,hr,hf,_=>⟨m,.refl m,by show Rel N m E ⟨τ.bx,τ.rw++[]⟩ tm σ;rw [List.append_nil];exact hr,rfl,hf,rfl,rfl,λ k hk=>absurd hk (Nat.not_lt_zero _)⟩
 | .nil::sas,m,τ,L,o,hr,hf,hq=>qeE sas (o:=o) hr hf hq
 | .val _::sas,m,τ,L,o,hr,hf,hq=>qeE sas (o:=o) hr hf hq
 | .row _::sas,m,τ,L,o,hr,hf,hq=>qeE sas (o:=o) hr hf hq
 | .clo _ _::sas,m,τ,L,o,hr,hf,hq=>qeE sas (o:=o) hr hf hq
 | .box l::sas,m,τ,L,o,hr,hf,hq=>by
   have hq:∀ (k:Nat) (Q:Row),(qaW l (toC l o.1)++jv sas o.2)[k]? = some Q -> σ.rw[L+k]? = some Q:=hq
   obtain ⟨m1,a1,a2,a3,a4,a5,a6,a7⟩:=qfI l (v:=toC l o.1) hr hf λ k Q hk=>hq k Q (by rw [List.getElem?_append_left (getElem?_lt hk)];exact hk)
   obtain ⟨m',h1,h2,h3,h4,h5,h6,h7⟩:=qeE sas (o:=o.2) (L:=L+nR l) a2 a4 λ k Q hk=>by
    have:=hq (nR l+k) Q (by rw [List.getElem?_append_right (by rw [Qi];omega),Qi,Nat.add_sub_cancel_left];exact hk)
    rw [<- this,Nat.add_assoc]
   have h2:Rel N m' E ⟨τ.bx,(τ.rw++jx l (toC l o.1))++Q9 sas o.2⟩ tm σ := h2
   rw [List.append_assoc] at h2
   have h3:BxL m' (qck sas (τ.rw++jx l (toC l o.1)).length o.2) (jt sas (L+nR l) o.2):=h3
   have h7:At m' (τ.rw++jx l (toC l o.1)).length (L+nR l) (nrB sas):=h7
   rw [List.length_append,y9] at h3 h7
   exact ⟨m',a1.trans h1,h2,⟨_,_,rfl,a3.mono h1,h3⟩,(by rw [nrB,<- Nat.add_assoc];exact h4),h5.trans a5,h6.trans a6,(a7.mono h1 (qsR a2.rw h2.rw (List.append_assoc ..).symm)).join h7⟩
theorem qEO {τ τ':TS} {m':Mp} (h:Rel N m E τ tm σ) (e:m'=m) (e2 : τ' = τ):Rel N m' E τ' tm σ := by subst e;subst e2;exact h
theorem qst {rws:List qD} {t0 L0:Nat} {m m':Mp} {rw ls:List qD} (h:m.rw=rw) (hl:MLe m m') (h':m'.rw=rw++ls) (hp:∀ (p:Nat) (R:qD),rws[p]? = some R->∃ q,m.rw[t0+p]? = some R/\R.ver=0/\R.sv=0/\m.r (t0+p)=some q/\q=L0+p/\m.v (t0+p)=0/\m.q (t0+p)=R.l.map (qh R.τ)) :
  ∀ (p:Nat) (R:qD),rws[p]? = some R->∃ q,m'.rw[t0+p]? = some R/\R.ver=0/\R.sv=0/\m'.r (t0+p)=some q/\q=L0+p/\m'.v (t0+p)=0/\m'.q (t0+p)=R.l.map (qh R.τ) := λ p R hR=>by
 obtain ⟨q,q1,q2,q3,q4,q5,q6,q7⟩:=hp p R hR
 obtain ⟨R',g1,_,_,g4⟩:=hl.row _ R q1
 cases qsR h h' rfl _ _ _ q1 g1
 obtain ⟨_,a,b,_,c,_⟩:=g4 rfl
 exact ⟨q,g1,q2,q3,a.trans q4,q5,b.trans q6,(c rfl).trans q7⟩
theorem Rel.addBox {τ : TS} (hr:Rel N m E τ tm σ) {cs:List TV} {ds:List AV} {b':Nat} (h : σ.bx[b']? = some ds) (hc:OKL m cs ds) (hf:∀ b,b<m.nb->m.b b≠b') :
  ∃ m',MLe m m'/\Rel N m' E ⟨τ.bx++[cs],τ.rw⟩ tm σ /\ (∀ b,b<m'.nb->(b<m.nb/\m'.b b=m.b b)\/m'.b b=b')/\(m'.rw=m.rw/\m'.r=m.r/\m'.v=m.v/\m'.q=m.q):=by
 have hle:MLe m ⟨λ i=>if i=m.nb then b' else m.b i,m.nb+1,m.r,m.v,m.q,m.rw⟩:=⟨Nat.le_succ _,λ i hi=>if_neg (Nat.ne_of_lt hi),λ id R h=>⟨R,h,Nat.le_refl _,Nat.le_refl _,λ _=>⟨rfl,rfl,rfl,rfl,λ _=>rfl,λ _ _ h=>h⟩⟩⟩
 refine ⟨_,hle,⟨hr.len,λ t=>(hr.env t).mono hle,hr.rw,by show m.nb+1=(τ.bx++[cs]).length;rw [List.length_append,hr.nb];rfl,λ b cs' hb=>?_,λ b c hb hc he=>?_,hr.rows,hr.rinj,qoq hle hr.pin⟩,λ b hb=>?_,rfl,rfl,rfl,rfl⟩
 ·have hb:(τ.bx++[cs])[b]? = some cs':=hb
  show ∃ ds,σ.bx[if b=m.nb then b' else m.b b]? = some ds/\_
  by_cases hlt:b < τ.bx.length
  ·rw [List.getElem?_append_left hlt] at hb
   rw [if_neg (by rw [hr.nb];exact Nat.ne_of_lt hlt)]
   obtain ⟨ds',d1,d2⟩:=hr.box b cs' hb
   exact ⟨ds',d1,d2.mono hle⟩
  ·have:b = τ.bx.length:=by
     have:=getElem?_lt hb
     simp at this;omega
   subst this
   rw [List.getElem?_append_right (Nat.le_refl _),Nat.sub_self] at hb
   cases hb
   rw [if_pos hr.nb.symm]
   exact ⟨ds,h,hc.mono hle⟩
 ·have hb:b<m.nb+1:=hb
  have hc:c<m.nb+1:=hc
  have he:(if b=m.nb then b' else m.b b)=(if c=m.nb then b' else m.b c):=he
  split at he<;>split at he
  ·omega
  ·exact absurd he.symm (hf c (by omega))
  ·exact absurd he (hf b (by omega))
  ·exact hr.inj b c (by omega) (by omega) he
 ·have hb:b<m.nb+1:=hb
  show (b<m.nb/\(if b=m.nb then b' else m.b b)=m.b b)\/(if b=m.nb then b' else m.b b)=b'
  by_cases he:b=m.nb
  ·exact .inr (if_pos he)
  ·exact .inl ⟨by omega,if_neg he⟩
theorem qdz {rws:List qD} {t0 L0 bn B NB:Nat}:∀ (rs:List RE) {m:Mp} {τ : TS} {nb d:Nat} {v:RV rs},Rel N m E τ tm σ -> qfE m (L0+d) -> τ.rw.length=t0+d->(∀ (p:Nat) (R:qD),rws[p]? = some R->∃ q,m.rw[t0+p]? = some R/\R.ver=0/\R.sv=0/\m.r (t0+p)=some q/\q=L0+p/\m.v (t0+p)=0/\m.q (t0+p)=R.l.map (qh R.τ))->qkC rws rs nb d v->(∀ (k:Nat) (Q:Row),(yV rs v)[k]? = some Q -> σ.rw[L0+d+k]? = some Q) ->
  τ.bx.length=bn+(nb-NB)->NB<=nb->B+(nb-NB)+(je rs (L0+d) v).length <= σ.bx.length->(∀ b,b<m.nb->m.b b<B+(nb-NB))->(∀ (k:Nat) (ds:List AV),(je rs (L0+d) v)[k]? = some ds -> σ.bx[B+(nb-NB)+k]? = some ds) ->
  ∃ m',MLe m m'/\Rel N m' E ⟨τ.bx++qed rs τ.rw.length v,τ.rw++qee rs v⟩ tm σ /\ OKL m' (qd0 bn NB rs τ.rw.length v) ((yH rs (L0+d) v).map λ y=>match y with | .ptr n o => .ptr (B+(n-NB)) o | y=>y)
 | [],m,τ,nb,d,v,hr,_,_,_,_,_,_,_,_,_,_=>⟨m,.refl m,qEO hr rfl (by show (⟨τ.bx++[],τ.rw++[]⟩:TS) = τ;rw [List.append_nil,List.append_nil]),rfl⟩
 | .one (.val a)::rs,m,τ,nb,d,v,hr,hf,ht,hp,hn,hq,hb1,hb2,hb3,hb4,hb5=>by
   obtain ⟨m',h1,h2,h3⟩:=qdz rs (v:=v.2) hr hf ht hp hn hq hb1 hb2 hb3 hb4 hb5
   refine ⟨m',h1,h2,⟨_,_,rfl,?_,h3⟩⟩
   have:=qnw (m:=m') a v.1
   show OK m' _ (match yi a v.1 with | .ptr n o => .ptr (B+(n-NB)) o | y=>y)
   split
   ·rename_i n o he
    have hz:=(qcK (qeu a v.1)).1
    rw [he] at hz;cases hz
   ·exact this
 | .one (.row a)::rs,m,τ,nb,d,v,hr,hf,ht,hp,hn,hq,hb1,hb2,hb3,hb4,hb5=>by
   obtain ⟨m1,a1,a2,a3,a4,a5,a6,a7⟩:=qzA hr (a:=a) (l:=v.1) hf (hq 0 _ rfl)
   obtain ⟨m',h1,h2,h3⟩:=qdz rs (B:=B) (nb:=nb) (v:=v.2) (d:=d+1) a2 a4 (by show (τ.rw++[_]).length=_;rw [List.length_append,ht];rfl) (qst hr.rw a1 a2.rw hp) hn (λ k Q hk=>by
    have:=hq (k+1) Q hk
    rw [<- this];congr 1;omega) hb1 hb2 hb3 (by rw [a5,a6];exact hb4) hb5
   have h2:Rel N m' E ⟨τ.bx++qed rs (τ.rw++([⟨a,v.1,0,0,false⟩]:List qD)).length v.2,(τ.rw++[⟨a,v.1,0,0,false⟩])++qee rs v.2⟩ tm σ := h2
   rw [List.append_assoc,List.length_append] at h2
   have h3:OKL m' (qd0 bn NB rs (τ.rw++([⟨a,v.1,0,0,false⟩]:List qD)).length v.2) _:=h3
   rw [List.length_append] at h3
   exact ⟨m',a1.trans h1,h2,⟨_,_,rfl,a3.mono h1,h3⟩⟩
 | .agg l::rs,m,τ,nb,d,v,hr,hf,ht,hp,hn,hq,hb1,hb2,hb3,hb4,hb5=>by
   have hq:∀ (k:Nat) (Q:Row),(qaW l v.1++yV rs v.2)[k]? = some Q -> σ.rw[L0+d+k]? = some Q:=hq
   obtain ⟨m1,a1,a2,a3,a4,a5,a6,a7⟩:=qfI l (v:=v.1) hr hf λ k Q hk=>hq k Q (by rw [List.getElem?_append_left (getElem?_lt hk)];exact hk)
   obtain ⟨m',h1,h2,h3⟩:=qdz rs (B:=B) (nb:=nb) (v:=v.2) (d:=d+nR l) a2 (by rw [<- Nat.add_assoc];exact a4) (by show (τ.rw++_).length=_;rw [List.length_append,ht,y9,Nat.add_assoc]) (qst hr.rw a1 a2.rw hp) hn (λ k Q hk=>by
    have:=hq (nR l+k) Q (by rw [List.getElem?_append_right (by rw [Qi];omega),Qi,Nat.add_sub_cancel_left];exact hk)
    rw [<- this];congr 1;omega) hb1 hb2 (by rw [<- Nat.add_assoc];exact hb3) (by rw [a5,a6];exact hb4) (λ k ds hk=>by rw [<- Nat.add_assoc] at hk;exact hb5 k ds hk)
   have h2:Rel N m' E ⟨τ.bx++qed rs (τ.rw++jx l v.1).length v.2,(τ.rw++jx l v.1)++qee rs v.2⟩ tm σ := h2
   rw [List.append_assoc,List.length_append,y9] at h2
   have h3:OKL m' (qd0 bn NB rs (τ.rw++jx l v.1).length v.2) _:=h3
   rw [List.length_append,y9,<- Nat.add_assoc] at h3
   have hag:OK m' (.agg (qaO l τ.rw.length v.1)) (.agg (QT l (L0+d) v.1)):=⟨_,rfl,a3.mono h1⟩
   exact ⟨m',a1.trans h1,h2,⟨_,_,rfl,hag,h3⟩⟩
 | .opt _::rs,m,τ,nb,d,v,_,_,_,_,hn,_,_,_,_,_,_=>hn.elim
 | .elt _::rs,m,τ,nb,d,v,_,_,_,_,hn,_,_,_,_,_,_=>hn.elim
 | .nilp::rs,m,τ,nb,d,v,hr,hf,ht,hp,hn,hq,hb1,hb2,hb3,hb4,hb5=>by
   obtain ⟨m',h1,h2,h3⟩:=qdz rs (v:=v) hr hf ht hp hn hq hb1 hb2 hb3 hb4 hb5
   exact ⟨m',h1,h2,⟨_,_,rfl,⟨rfl,rfl⟩,h3⟩⟩
 | .box n l::rs,m,τ,nb,d,v,hr,hf,ht,hp,hn,hq,hb1,hb2,hb3,hb4,hb5=>by
   obtain ⟨rfl,hn⟩:=hn
   have hq:∀ (k:Nat) (Q:Row),(qaW l (toC l v.1)++yV rs v.2)[k]? = some Q -> σ.rw[L0+d+k]? = some Q:=hq
   obtain ⟨m1,a1,a2,a3,a4,a5,a6,a7⟩:=qfI l (v:=toC l v.1) hr hf λ k Q hk=>hq k Q (by rw [List.getElem?_append_left (getElem?_lt hk)];exact hk)
   have hbx : σ.bx[B+(n-NB)]? = some (QT l (L0+d) (toC l v.1)):=hb5 0 _ rfl
   obtain ⟨m2,c1,c2,c3,c4⟩:=a2.addBox (ds:=QT l (L0+d) (toC l v.1)) (b':=B+(n-NB)) hbx a3 (by rw [a5,a6];intro b hb;exact Nat.ne_of_lt (hb4 b hb))
   have hlen:(τ.bx++[qaO l τ.rw.length (toC l v.1)]).length=bn+(n+1-NB):=by rw [List.length_append,hb1];show _+1=_;omega
   have hb3:B+(n-NB)+((je rs (L0+d+nR l) v.2).length+1) <= σ.bx.length:=hb3
   have hp1:=qst hr.rw a1 a2.rw hp
   have hp2:∀ (p:Nat) (R:qD),rws[p]? = some R->∃ q,m2.rw[t0+p]? = some R/\R.ver=0/\R.sv=0/\m2.r (t0+p)=some q/\q=L0+p/\m2.v (t0+p)=0/\m2.q (t0+p)=R.l.map (qh R.τ):=by
    rw [c4.1,c4.2.1,c4.2.2.1,c4.2.2.2]
    exact hp1
   obtain ⟨m',h1,h2,h3⟩:=qdz rs (B:=B) (nb:=n+1) (v:=v.2) (d:=d+nR l) c2 (by rw [<- Nat.add_assoc];exact λ id r hl he=>a4 id r (by rw [<- c4.1];exact hl) (by rw [<- c4.2.1];exact he)) (by show (τ.rw++_).length=_;rw [List.length_append,ht,y9,Nat.add_assoc]) hp2 hn (λ k Q hk=>by
    have:=hq (nR l+k) Q (by rw [List.getElem?_append_right (by rw [Qi];omega),Qi,Nat.add_sub_cancel_left];exact hk)
    rw [<- this];congr 1;omega) hlen (by omega) (by rw [<- Nat.add_assoc];omega) (λ b hb=>by
     have:=c3 b hb
     rcases this with ⟨hlt,he⟩ | he
     ·rw [he,a5];have:=hb4 b (by rw [<- a6];exact hlt);omega
     ·rw [he];omega) (λ k ds hk=>by
    rw [<- Nat.add_assoc] at hk
    have:=hb5 (k+1) ds hk
    rw [<- this];congr 1;omega)
   have h2:Rel N m' E ⟨(τ.bx++[qaO l τ.rw.length (toC l v.1)])++qed rs (τ.rw++jx l (toC l v.1)).length v.2,(τ.rw++jx l (toC l v.1))++qee rs v.2⟩ tm σ := h2
   rw [List.append_assoc,List.append_assoc,List.length_append,y9] at h2
   have h3:OKL m' (qd0 bn NB rs (τ.rw++jx l (toC l v.1)).length v.2) _:=h3
   rw [List.length_append,y9,<- Nat.add_assoc] at h3
   refine ⟨m',a1.trans (c1.trans h1),h2,⟨_,_,rfl,?_,h3⟩⟩
   have hbn : τ.bx.length<m2.nb:=by rw [c2.nb];show _<(τ.bx++[_]).length;simp
   have hbe:m2.b τ.bx.length=B+(n-NB):=(c3 _ hbn).resolve_left λ h=>by have:=h.1;rw [a2.nb] at this;exact Nat.lt_irrefl _ this
   have:OK m2 (.ptr τ.bx.length 0) (.ptr (B+(n-NB)) 0):=⟨hbn,by rw [hbe]⟩
   rw [hb1] at this
   exact this.mono h1
 | .eltI x a::rs,m,τ,nb,d,v,hr,hf,ht,hp,hn,hq,hb1,hb2,hb3,hb4,hb5=>by
   obtain ⟨⟨p,j,R,rfl,hpd,hR,rfl,e2,e3⟩,hn⟩:=hn
   obtain ⟨m',h1,h2,h3⟩:=qdz rs (v:=v.2) hr hf ht hp hn hq hb1 hb2 hb3 hb4 hb5
   obtain ⟨q,q1,q2,q3,q4,rfl,q5,q6⟩:=hp p R hR
   have hL:L0+d-(d-p)=L0+p:=by omega
   have hT : τ.rw.length-(d-p)=t0+p:=by rw [ht];omega
   have hj:=getElem?_lt e3
   refine ⟨m',h1,h2,⟨_,_,rfl,?_,h3⟩⟩
   show OK m' (.rpt (τ.rw.length-(d-p)) 0 0 v.1.1 (j8 R.τ v.1.2) 0) (.rpt (L0+d-(d-p)) v.1.1.toNat 0 0)
   rw [hL,hT,e2,Int.toNat_natCast]
   have hc:OKL m (j8 R.τ v.1.2) (qh R.τ v.1.2):=jz (jF R.τ v.1.2)
   have:OK m (.rpt (t0+p) 0 0 ((j:Nat):Int) (j8 R.τ v.1.2) 0) (.rpt (L0+p) j 0 0) :=
    ⟨R,q1,by omega,by omega,.inl ⟨_,_,_,rfl⟩,λ _ => .inl ⟨L0+p,j,q4,by rw [q5],rfl,hj,λ _=>⟨qh R.τ v.1.2,by rw [q6,List.getElem?_map,e3];rfl,hc⟩⟩⟩
   exact this.mono h1
theorem qb0 {τ : TS}:∀ {sas:List SA} {xs:List TV} {a:jo sas} {bs rs:List Nat},yb τ sas xs=some (a,bs,rs)->∀ (L:Nat) (o:yS sas),(qck sas L o).length=bs.length
 | [],xs,a,bs,rs,h,L,o=>by
   cases xs with
   | nil=>simp only [yb,Option.some.injEq,Prod.mk.injEq] at h;rw [<- h.2.1];rfl
   | cons x xs=>simp [yb] at h
 | .nil::sas,xs,a,bs,rs,h,L,o=>by
   cases xs with
   | nil=>simp [yb] at h
   | cons x xs =>
     cases x with
     | nil=>exact qb0 (sas:=sas) h L o
     | _=>simp [yb] at h
 | .clo g k::sas,xs,a,bs,rs,h,L,o=>by
   cases xs with
   | nil=>simp [yb] at h
   | cons x xs =>
     cases x with
     | fn g' cs =>
       simp only [yb] at h
       split at h<;>try cases h
       exact qb0 (sas:=sas) h L o
     | _=>simp [yb] at h
 | .val t::sas,xs,a,bs,rs,h,L,o=>by
   cases xs with
   | nil=>simp [yb] at h
   | cons x xs =>
     simp only [yb] at h
     split at h<;>try cases h
     split at h<;>cases h
     rename_i hvs
     exact qb0 (sas:=sas) hvs L o
 | .row t::sas,xs,a,bs,rs,h,L,o=>by
   cases xs with
   | nil=>simp [yb] at h
   | cons x xs =>
     simp only [yb] at h
     split at h<;>try cases h
     split at h<;>cases h
     rename_i hvs
     exact qb0 (sas:=sas) hvs L o
 | .box t::sas,xs,a,bs,rs,h,L,o=>by
   cases xs with
   | nil=>simp [yb] at h
   | cons x xs =>
     simp only [yb] at h
     split at h<;>try cases h
     split at h<;>cases h
     rename_i hvs
     rw [qck,List.length_cons,List.length_cons,qb0 (sas:=sas) hvs _ o.2]
theorem qhz:∀ {l:List Nat},ndN l=true->l.Nodup
 | [],_=>List.nodup_nil
 | b::l,h=>by
   rw [ndN,Bool.and_eq_true,List.all_eq_true] at h
   refine List.nodup_cons.2 ⟨λ hm=>?_,qhz h.2⟩
   have:=h.1 b hm
   simp at this
theorem qrD {f:Nat->Nat}:∀ {l:List Nat},l.Nodup->(∀ a∈l,∀ b∈l,f a=f b->a=b)->(l.map f).Nodup
 | [],_,_=>List.nodup_nil
 | b::l,h,hi=>by
   rw [List.nodup_cons] at h
   rw [List.map_cons,List.nodup_cons]
   refine ⟨λ hm=>?_,qrD h.2 λ a ha c hc=>hi a (List.mem_cons_of_mem _ ha) c (List.mem_cons_of_mem _ hc)⟩
   obtain ⟨c,hc,he⟩:=List.mem_map.1 hm
   have:=hi c (List.mem_cons_of_mem _ hc) b (List.mem_cons_self ..) he
   subst this
   exact h.1 hc
theorem qvv {f:Nat->Option Nat}:∀ {l:List Nat},l.Nodup->(∀ a∈l,∀ b∈l,∀ r,f a=some r->f b=some r->a=b)->(l.filterMap f).Nodup
 | [],_,_=>List.nodup_nil
 | b::l,h,hi=>by
   rw [List.nodup_cons] at h
   have ih:=qvv h.2 λ a ha c hc=>hi a (List.mem_cons_of_mem _ ha) c (List.mem_cons_of_mem _ hc)
   cases hb:f b with
   | none=>rw [List.filterMap_cons_none hb];exact ih
   | some r =>
     rw [List.filterMap_cons_some hb,List.nodup_cons]
     refine ⟨λ hm=>?_,ih⟩
     obtain ⟨c,hc,he⟩:=List.mem_filterMap.1 hm
     have:=hi c (List.mem_cons_of_mem _ hc) b (List.mem_cons_self ..) r he hb
     subst this
     exact h.1 hc
theorem qBv {xs:List TV} {ys:List AV} (h:OKL m xs ys):OK m (qrj xs) (zw ys):=by
 cases xs with
 | nil=>cases h;exact ⟨[],rfl,rfl⟩
 | cons x xs =>
   obtain ⟨y,r,rfl,h1,h2⟩:=h
   cases xs with
   | nil=>cases h2;exact h1
   | cons x' xs =>
     obtain ⟨y',r',rfl,h3,h4⟩:=h2
     show OK m (.tup (x::x'::xs)) (.tup (y::y'::r'))
     exact (⟨y::y'::r',rfl,y,_,rfl,h1,y',_,rfl,h3,h4⟩:∃ ds,AV.tup (y::y'::r') = .tup ds/\OKL m (x::x'::xs) ds)
theorem qCM (ids:List Nat):∀ rw:List qD,(qcH rw ids).length=rw.length:=by
 induction ids with
 | nil=>intro rw;rfl
 | cons a ids ih =>
   intro rw
   show (qcH (rw.modify a _) ids).length=_
   rw [ih,List.length_modify]
theorem qBD {f:Nat} {xs:List TV} {ys:List AV} (hr:Rel N m E τ tm σ) (ho:OKL m xs ys) (hh:c.has f=false) {g:qlX} (hg:c.mf f=some g) (h:qxe τ g xs K=some r):Sim N m E τ tm σ K r (qac c.pc f σ ys):=by
 obtain ⟨t,sas,fn⟩:=g
 unfold qxe at h
 split at h
 case h_2=>cases h
 rename_i x xs
 split at h
 case h_2=>cases h
 rename_i l ids a hl ha
 split at h
 case h_2=>cases h
 rename_i hord
 replace hl:qeM τ.rw t x=some (l,ids):=hl
 have hids:ids=[]\/∃ id,ids=[id]:=by
  have hl:=hl
  unfold qeM at hl
  repeat' split at hl
  all_goals first | (cases hl;done) | (cases hl;exact .inl rfl) | (cases hl;exact .inr ⟨_,rfl⟩)
 have hs:yb τ (.row t::sas) (x::xs)=some ((l,a),[],ids):=by
  rw [yb,hl]
  simp only
  rw [ha]
  simp only [List.append_nil]
 obtain ⟨i1,_,i2,i3,i4,i5⟩:=qpx hr hs ho hord
 have hp:∀ (σ':Option St) (v:List (Val t)) (R:List Nat),qbE σ ys=R->Qk σ ys=[]->qgg σ ys=true->fn (l,a)=some v->dS (qG σ [] R) (.row t::sas) 0 0 (qO (λ b=>([]:List Nat).idxOf b) (λ r=>R.idxOf r) ys)=some (l,a)->Nat.beq v.length l.length=true ->
   (match (qG σ [] R).bx,(qG σ [] R).rw with
    | [],[Q]=>some (AV.tup [],some (⟨[],[⟨Q.k,v.map (qh t),Q.ver,Q.fz,Q.off⟩],[],[0]⟩:St))
    | [],[]=>some (.tup [],none)
    | _,_=>none)=some (.tup [],σ')->qac c.pc f σ ys=some (qgi σ [] R (.tup [],σ')):=by
  intro σ' v R h1 h2 h3 h4 h5 h6 h7
  unfold qac
  have e1:c.pc.pf f=none:=by show (match c.has f with | true=>some (yz c f) | false=>none)=_;rw [hh]
  have e2:c.pc.sp f=some (mgP ⟨t,sas,fn⟩):=by show c.spf f=_;unfold TC.spf;rw [hg]
  rw [e1,e2]
  simp only
  unfold JH
  rw [h3,h2,h1]
  have hm:mgP ⟨t,sas,fn⟩ (qG σ [] R) (qO (λ b=>([]:List Nat).idxOf b) (λ r=>R.idxOf r) ys)=some (.tup [],σ'):=by
   unfold mgP
   rw [h5]
   simp only [h4,h6]
   exact h7
  simp only [hm]
 have fin:∀ (R:List Nat),ids.filterMap m.r=R->qbE σ ys=R/\Qk σ ys=[]/\qgg σ ys=true/\dS (qG σ [] R) (.row t::sas) 0 0 (qO (λ b=>([]:List Nat).idxOf b) (λ r=>R.idxOf r) ys)=some (l,a):=by
  intro R hR
  have nr:R.Nodup:=by
   rw [<- hR]
   rcases hids with rfl | ⟨id,rfl⟩
   ·exact List.nodup_nil
   ·cases hq:m.r id with
    | none=>rw [List.filterMap_cons_none hq];exact List.nodup_nil
    | some q=>rw [List.filterMap_cons_some hq];exact List.nodup_cons.2 ⟨List.not_mem_nil,List.nodup_nil⟩
  have hRlt:∀ q∈R,q < σ.rw.length := λ q hq=>by
   rw [<- hR] at hq
   obtain ⟨id,h1,h2⟩:=List.mem_filterMap.1 hq
   exact hr.row_lt (i4 id h1) h2
  obtain ⟨s1,s2,s3⟩:=qpI (σ := σ) (B:=[]) (R:=R) i1 (by rw [<- hR];exact i2) List.nodup_nil nr (λ b hb=>by cases hb) hRlt
  have:=i5 [] [] List.nodup_nil (by rw [List.nil_append,hR];exact nr)
  rw [hR] at this
  exact ⟨s2,s1,s3,this⟩
 split at h
 case h_3=>cases h
 ·rename_i id
  obtain ⟨v,hv,h1⟩:=jX h
  obtain ⟨hlen,h2⟩:=yT h1
  clear h h1
  have hvl:v.length=l.length:=Nat.eq_of_beq_eq_true hlen
  have hl0:=hl
  unfold qeM at hl
  split at hl
  ·cases hl
  ·split at hl<;>cases hl
  ·rename_i id' ver
   split at hl<;>try cases hl
   rename_i Rw hRw
   split at hl<;>try cases hl
   rename_i hvs
   rw [Bool.and_eq_true,Bool.not_eq_true'] at hvs
   split at hl<;>cases hl
   rename_i hc
   obtain ⟨e,he⟩:=yE hc
   subst e
   have he:Rw.l=l:=he
   subst he
   have hR':m.rw[id]? = some Rw:=by rw [hr.rw];exact hRw
   have hgood:=hr.rows id Rw hR'
   have hmod : τ.rw.modify id (λ R=>(⟨Rw.τ,v,R.ver,R.sv+1,false⟩:qD)) = τ.rw.set id ⟨Rw.τ,v,Rw.ver,Rw.sv+1,false⟩:=qrb hRw
   have h:K (.tup []) (some ⟨τ.bx,τ.rw.modify id λ R=>⟨Rw.τ,v,R.ver,R.sv+1,false⟩⟩)=some r:=h2
   rw [hmod] at h
   cases hq:m.r id with
   | none =>
     obtain ⟨s1,s2,s3,s4⟩:=fin [] (by rw [List.filterMap_cons_none hq];rfl)
     have hpc:=hp none v [] s1 s2 s3 hv s4 hlen rfl
     rw [hq] at hgood
     have hn:Rw.l=[]:=hgood hvs.2
     have hvn:v=[]:=List.eq_nil_of_length_eq_zero (by rw [hvl,hn];rfl)
     obtain ⟨m',g1,g2,_⟩:=hr.rowUpd (R2:=⟨Rw.τ,v,Rw.ver,Rw.sv+1,false⟩) hRw none (m.v id) (m.q id) (Nat.le_refl _) (Nat.le_succ _)
      (λ _=>⟨hvl,hq.symm,rfl,rfl,λ _=>rfl,λ _ y hy=>by rw [hvn,<- hn];exact hy⟩) (σ' := σ) rfl (λ _=>hvn)
      (λ id' r' h1 h2 h3=>⟨(by intro h;cases h),λ Q hQ=>hQ⟩)
     exact ⟨_,_,_,none,m',h,hpc,g1,g2,⟨[],rfl,rfl⟩,λ h=>by cases h⟩
   | some q =>
     obtain ⟨s1,s2,s3,s4⟩:=fin [q] (by rw [List.filterMap_cons_some hq];rfl)
     rw [hq] at hgood
     obtain ⟨Q,k2,kc,kv,kk,kd,kf,ks⟩:=hgood
     have hsub:(qG σ [] [q]).rw=[Q]:=by show [σ.rw.getD q ⟨0,[],0,0,false⟩]=[Q];rw [zC k2]
     have hpc:=hp (some ⟨[],[⟨Q.k,v.map (qh Rw.τ),Q.ver,Q.fz,Q.off⟩],[],[0]⟩) v [q] s1 s2 s3 hv s4 hlen (by rw [hsub];rfl)
     have hrl:q < σ.rw.length:=getElem?_lt k2
     have hbk:qgi σ [] [q] (.tup [],some ⟨[],[⟨Q.k,v.map (qh Rw.τ),Q.ver,Q.fz,Q.off⟩],[],[0]⟩)=(.tup [],some { σ with rw := σ.rw.set q ⟨Q.k,v.map (qh Rw.τ),Q.ver,Q.fz,Q.off⟩,wrr:=q :: σ.wrr }):=by
      simp [qgi,qek,zu,ren,qO,zl]
     rw [hbk] at hpc
     obtain ⟨m',g1,g2,_⟩:=hr.rowUpd (R2:=⟨Rw.τ,v,Rw.ver,Rw.sv+1,false⟩) hRw (m.r id) (m.v id) (v.map (qh Rw.τ)) (Nat.le_refl _) (Nat.le_succ _)
      (λ _=>⟨hvl,rfl,rfl,rfl,(λ h=>by have:Rw.sv+1=Rw.sv:=h;omega),(λ h=>by rw [hq] at h;cases h)⟩) (σ':={ σ with rw := σ.rw.set q ⟨Q.k,v.map (qh Rw.τ),Q.ver,Q.fz,Q.off⟩,wrr:=q :: σ.wrr }) rfl
      (by
       rw [hq]
       refine ⟨⟨Q.k,v.map (qh Rw.τ),Q.ver,Q.fz,Q.off⟩,by show (σ.rw.set q _)[q]? = _;rw [List.getElem?_set_self hrl],rfl,kv,kk,J2 (jF Rw.τ) v,?_,λ _=>ks hvs.2⟩
       show Q.fz<=(v.map _).length
       rw [(ks hvs.2).1];exact Nat.zero_le _)
      (λ id' r'' h1 h2 h3=>by
       have hne:=hr.others hRw hq h1 h2 h3
       refine ⟨λ he=>by rw [hq] at he;exact hne (Option.some.inj he).symm,λ Q' hQ'=>?_⟩
       show (σ.rw.set q _)[r'']? = _
       rw [List.getElem?_set_ne (Ne.symm hne)];exact hQ')
     exact .to h hpc g1 g2 ⟨[],rfl,rfl⟩
  ·cases hl
 ·obtain ⟨v,hv,h⟩:=jX h
  obtain ⟨hlen,h⟩:=yT h
  obtain ⟨s1,s2,s3,s4⟩:=fin [] rfl
  have hpc:=hp none v [] s1 s2 s3 hv s4 hlen rfl
  exact .same hr h hpc ⟨[],rfl,rfl⟩
theorem qB8 {f:Nat} {xs:List TV} {ys:List AV} (hr:Rel N m E τ tm σ) (ho:OKL m xs ys) (hh:c.has f=false) (hmf:c.mf f=none) {g:qpE} (hg:c.xf f=some g) (h:qvO τ g xs K=some r):Sim N m E τ tm σ K r (qac c.pc f σ ys):=by
 unfold qvO at h
 split at h
 case h_2=>cases h
 rename_i a bs rs hvs
 split at h
 case h_2=>cases h
 rename_i hnd
 rw [Bool.and_eq_true,Bool.and_eq_true] at hnd
 obtain ⟨hnd1,hnd2,hord⟩:=hnd
 obtain ⟨v,hv,h⟩:=jX h
 obtain ⟨i1,_,i2,i3,i4,i5⟩:=qpx hr hvs ho hord
 have nb:=qrD (f:=m.b) (qhz hnd1) λ x hx y hy he=>hr.inj x y (i3 x hx).1 (i3 y hy).1 he
 have nr:=qvv (f:=m.r) (qhz hnd2) λ x hx y hy q e1 e2=>hr.rinj x y q (i4 x hx) (i4 y hy) e1 e2
 have hRlt:∀ q∈rs.filterMap m.r,q < σ.rw.length := λ q hq=>by
  obtain ⟨id,h1,h2⟩:=List.mem_filterMap.1 hq
  exact hr.row_lt (i4 id h1) h2
 have i2':(rrL ys++(bs.map m.b).flatMap λ b=>rrL (σ.bx.getD b []))=rs.filterMap m.r:=by rw [List.flatMap_map];exact i2
 obtain ⟨s1,s2,s3⟩:=qpI (σ := σ) i1 i2' nb nr (λ b hb=>by obtain ⟨b0,h1,rfl⟩:=List.mem_map.1 hb;exact (i3 b0 h1).2) hRlt
 have hd:=i5 [] [] nb nr
 rw [List.nil_append,List.nil_append] at hd
 generalize hB:bs.map m.b=B at *
 generalize hR:rs.filterMap m.r=R at *
 have hsg:xgP g (qG σ B R) (qO (λ b=>B.idxOf b) (λ r=>R.idxOf r) ys)=some (.v (.int .i64 v),none):=by
  unfold xgP
  have hd:dS (qG σ B R) g.args 0 0 (qO (λ b=>B.idxOf b) (λ r=>R.idxOf r) ys)=some a:=hd
  rw [hd]
  simp only [hv]
 have hpc:qac c.pc f σ ys=some (.v (.int .i64 v),none):=by
  unfold qac
  have e1:c.pc.pf f=none:=by show (match c.has f with | true=>some (yz c f) | false=>none)=_;rw [hh]
  have e2:c.pc.sp f=some (xgP g):=by show c.spf f=_;unfold TC.spf;rw [hmf,hg]
  rw [e1,e2]
  simp only
  unfold JH
  rw [s3,s1,s2]
  simp only [hsg,qgi]
  rfl
 exact .same hr h hpc rfl
theorem qe1:∀ (sas:List SA) (L:Nat) (o:yS sas),(qck sas L o).length=nBx sas
 | [],_,_=>rfl
 | .nil::sas,L,o=>qe1 sas L o
 | .clo _ _::sas,L,o=>qe1 sas L o
 | .val _::sas,L,o=>qe1 sas L o
 | .row _::sas,L,o=>qe1 sas L o
 | .box _::sas,L,o=>by rw [qck,List.length_cons,qe1 sas _ o.2,nBx]
theorem JE:∀ (sas:List SA) (L:Nat) (o:yS sas),(jt sas L o).length=nBx sas
 | [],_,_=>rfl
 | .nil::sas,L,o=>JE sas L o
 | .clo _ _::sas,L,o=>JE sas L o
 | .val _::sas,L,o=>JE sas L o
 | .row _::sas,L,o=>JE sas L o
 | .box _::sas,L,o=>by rw [jt,List.length_cons,JE sas _ o.2,nBx]
theorem quk:∀ (bs:List Nat) (bx xs:List (List TV)),(qid bx bs xs).length=bx.length
 | [],bx,xs=>by cases xs<;>rfl
 | b::bs,bx,[]=>rfl
 | b::bs,bx,x::xs=>by rw [qid,quk bs,List.length_set]
theorem qqv {β : Type}:∀ (rs:List Nat) (l ks ns:List β),ks.length=rs.length->zu l rs (ks++ns)=zu l rs ks++ns
 | [],l,ks,ns,h=>by
   have:ks=[]:=List.eq_nil_of_length_eq_zero h
   subst this
   simp [zu]
 | r::rs,l,[],ns,h=>by simp at h
 | r::rs,l,k::ks,ns,h=>qqv rs (l.set r k) ks ns (by simpa using h)
theorem Rel.moreBx {τ : TS} (hr:Rel N m E τ tm σ) (xs:List (List AV)):Rel N m E τ tm { σ with bx := σ.bx++xs } :=
 ⟨hr.len,hr.env,hr.rw,hr.nb,λ b cs hb=>by
  obtain ⟨ds,d1,d2⟩:=hr.box b cs hb
  exact ⟨ds,by show (σ.bx++xs)[_]? = _;rw [List.getElem?_append_left (getElem?_lt d1)];exact d1,d2⟩,hr.inj,hr.rows,hr.rinj,hr.pin⟩
theorem qpv:∀ (l:List RA) (v:CV l) (p:Nat) (R:qD) (Q:Row),(jx l v)[p]? = some R->(qaW l v)[p]? = some Q->Q.c=R.l.map (qh R.τ)
 | [],v,p,R,Q,h,_=>by cases h
 | .val _::l,v,p,R,Q,h,g=>qpv l v.2 p R Q h g
 | .row a::l,v,0,R,Q,h,g=>by cases h;cases g;rfl
 | .row a::l,v,p+1,R,Q,h,g=>qpv l v.2 p R Q h g
theorem qeV:∀ (sas:List SA) (o:yS sas) (p:Nat) (R:qD) (Q:Row),(Q9 sas o)[p]? = some R->(jv sas o)[p]? = some Q->Q.c=R.l.map (qh R.τ)
 | [],o,p,R,Q,h,_=>by cases h
 | .nil::sas,o,p,R,Q,h,g=>qeV sas o p R Q h g
 | .clo _ _::sas,o,p,R,Q,h,g=>qeV sas o p R Q h g
 | .val _::sas,o,p,R,Q,h,g=>qeV sas o p R Q h g
 | .row _::sas,o,p,R,Q,h,g=>qeV sas o p R Q h g
 | .box l::sas,o,p,R,Q,h,g=>by
   have h:(jx l (toC l o.1)++Q9 sas o.2)[p]? = some R:=h
   have g:(qaW l (toC l o.1)++jv sas o.2)[p]? = some Q:=g
   by_cases hl:p<nR l
   ·rw [List.getElem?_append_left (by rw [y9];exact hl)] at h
    rw [List.getElem?_append_left (by rw [Qi];exact hl)] at g
    exact qpv l _ p R Q h g
   ·rw [List.getElem?_append_right (by rw [y9];omega),y9] at h
    rw [List.getElem?_append_right (by rw [Qi];omega),Qi] at g
    exact qeV sas o.2 _ R Q h g
theorem qtA {f:Nat} {xs:List TV} {ys:List AV} (hr:Rel N m E τ tm σ) (ho:OKL m xs ys) (hh:c.has f=false) (h:qra c τ f xs K=some r):Sim N m E τ tm σ K r (qac c.pc f σ ys):=by
 unfold qra at h
 split at h
 ·exact qBD hr ho hh ‹_› h
 rename_i hmf
 split at h
 ·exact qB8 hr ho hh hmf ‹_› h
 rename_i hxf
 split at h
 case h_2=>cases h
 rename_i g hg
 split at h
 case h_2=>cases h
 rename_i a bs rs hvs
 split at h
 case h_2=>cases h
 rename_i hnd
 rw [Bool.and_eq_true,Bool.and_eq_true] at hnd
 obtain ⟨hnd1,hnd2,hord⟩:=hnd
 obtain ⟨v,hv,h⟩:=jX h
 obtain ⟨rs',v',h,hnum,hsol⟩:=qa7 g.res (nBx g.args) (nrB g.args) v.2 (by rw [Js];exact Nat.le_refl _) h
 obtain ⟨i1,_,i2,i3,i4,i5⟩:=qpx hr hvs ho hord
 have nb:=qrD (f:=m.b) (qhz hnd1) λ x hx y hy he=>hr.inj x y (i3 x hx).1 (i3 y hy).1 he
 have nr:=qvv (f:=m.r) (qhz hnd2) λ x hx y hy q e1 e2=>hr.rinj x y q (i4 x hx) (i4 y hy) e1 e2
 have hRlt:∀ q∈rs.filterMap m.r,q < σ.rw.length := λ q hq=>by
  obtain ⟨id,h1,h2⟩:=List.mem_filterMap.1 hq
  exact hr.row_lt (i4 id h1) h2
 have i2':(rrL ys++(bs.map m.b).flatMap λ b=>rrL (σ.bx.getD b []))=rs.filterMap m.r:=by rw [List.flatMap_map];exact i2
 obtain ⟨s1,s2,s3⟩:=qpI (σ := σ) i1 i2' nb nr (λ b hb=>by obtain ⟨b0,h1,rfl⟩:=List.mem_map.1 hb;exact (i3 b0 h1).2) hRlt
 have hd:=i5 [] [] nb nr
 rw [List.nil_append,List.nil_append] at hd
 have hbl:=qb0 hvs (σ.rw.length) v.1
 have hBl:(bs.map m.b).length=nBx g.args:=by rw [List.length_map,<- hbl,qe1]
 generalize hB:bs.map m.b=B at *
 generalize hR:rs.filterMap m.r=R at *
 have hsl:(qG σ B R).rw.length=R.length:=List.length_map ..
 have hsg:sgP g (qG σ B R) (qO (λ b=>B.idxOf b) (λ r=>R.idxOf r) ys)=some (zw (yH rs' (R.length+nrB g.args) v'),some ⟨jt g.args R.length v.1++je rs' (R.length+nrB g.args) v',(qG σ B R).rw.map jN++(jv g.args v.1++yV rs' v'),List.range (qG σ B R).bx.length,List.range (qG σ B R).rw.length⟩):=by
  unfold sgP
  have hd:dS (qG σ B R) g.args 0 0 (qO (λ b=>B.idxOf b) (λ r=>R.idxOf r) ys)=some a:=hd
  rw [hd]
  simp only [hv]
  rw [hsl]
  exact hsol _
 have hpc:qac c.pc f σ ys=some (zw ((yH rs' (σ.rw.length+nrB g.args) v').map λ y=>match y with | .ptr n o => .ptr (σ.bx.length+(n-nBx g.args)) o | y=>y),some (qek σ B R ⟨jt g.args R.length v.1++je rs' (R.length+nrB g.args) v',(qG σ B R).rw.map jN++(jv g.args v.1++yV rs' v'),List.range (qG σ B R).bx.length,List.range (qG σ B R).rw.length⟩)):=by
  unfold qac
  have e1:c.pc.pf f=none:=by show (match c.has f with | true=>some (yz c f) | false=>none)=_;rw [hh]
  have e2:c.pc.sp f=some (sgP g):=by show c.spf f=_;unfold TC.spf;rw [hmf,hxf,hg]
  rw [e1,e2]
  simp only
  unfold JH
  rw [s3,s1,s2]
  simp only [hsg,qgi]
  rw [qBX,qdG rs' (nBx g.args) (nrB g.args) v' (Nat.le_of_eq hBl) hnum,hBl]
 obtain ⟨m1,k1,k2,k3,k4,k5,k6⟩:=qwT rs hr i4
 obtain ⟨l',l1,l2,l3⟩:=qkr R σ.rw ((qG σ B R).rw.map jN) (jv g.args v.1++yV rs' v') (by rw [List.length_map];exact List.length_map ..)
 have hbe:(jt g.args σ.rw.length v.1).length=B.length:=by rw [hBl,JE]
 have hbs:qek σ B R ⟨jt g.args R.length v.1++je rs' (R.length+nrB g.args) v',(qG σ B R).rw.map jN++(jv g.args v.1++yV rs' v'),List.range (qG σ B R).bx.length,List.range (qG σ B R).rw.length⟩=⟨zu σ.bx B (jt g.args σ.rw.length v.1)++je rs' (σ.rw.length+nrB g.args) v',l'++(jv g.args v.1++yV rs' v'),(List.range (qG σ B R).bx.length).map (zl B σ.bx.length) ++ σ.wr,(List.range (qG σ B R).rw.length).map (zl R σ.rw.length) ++ σ.wrr⟩:=by
  unfold qek
  have h1:=qfa (B:=B) (R:=R) (bn := σ.bx.length) (rn := σ.rw.length) g.args 0 v.1
  have h2:=qcg (B:=B) (R:=R) (bn := σ.bx.length) (rn := σ.rw.length) rs' _ _ v' hnum
  rw [Nat.add_zero,Nat.add_zero] at h1
  simp only [List.map_append,h1,h2,l1,qqv _ _ _ _ hbe]
 have hlow:qfE m1 σ.rw.length := λ id r h1 h2=>hr.row_lt (by rw [<- k5];exact h1) (k6 id r h2).1
 let σ':St:=⟨σ.bx,l'++(jv g.args v.1++yV rs' v'),(List.range (qG σ B R).bx.length).map (zl B σ.bx.length) ++ σ.wr,(List.range (qG σ B R).rw.length).map (zl R σ.rw.length) ++ σ.wrr⟩
 have hrel:Rel N m1 E ⟨τ.bx,qcH τ.rw rs⟩ tm σ':=by
  refine k2.rowsTo rfl λ id Rw hRw=>(k2.rows id Rw hRw).later λ q Q hq hQ=>?_
  obtain ⟨q1,q2⟩:=k6 id q hq
  have hql:=hr.row_lt (by rw [<- k5];exact getElem?_lt hRw) q1
  show (l'++_)[q]? = _
  rw [List.getElem?_append_left (by rw [l2];exact hql),l3 q λ hm=>?_]
  ·exact hQ
  ·rw [<- hR] at hm
   obtain ⟨id',h1,h2⟩:=List.mem_filterMap.1 hm
   have:=hr.rinj id id' q (by rw [<- k5];exact getElem?_lt hRw) (i4 id' h1) q1 h2
   subst this
   exact q2 h1
 obtain ⟨m2,z1,z2,z3,z4,z5,z6,z7⟩:=qeE g.args (L := σ.rw.length) (o:=v.1) hrel hlow λ k Q hk=>by
  show (l'++(jv g.args v.1++yV rs' v'))[σ.rw.length+k]? = _
  rw [List.getElem?_append_right (by rw [l2];omega),l2,Nat.add_sub_cancel_left,List.getElem?_append_left (getElem?_lt hk)]
  exact hk
 have hkl:(qcH τ.rw rs).length = τ.rw.length:=qCM rs τ.rw
 have z3:BxL m2 (qck g.args (qcH τ.rw rs).length v.1) (jt g.args σ.rw.length v.1):=z3
 have z7:At m2 (qcH τ.rw rs).length σ.rw.length (nrB g.args):=z7
 rw [hkl] at z3 z7
 have hbx:=qtP bs (xs:=qck g.args τ.rw.length v.1) (ys:=jt g.args σ.rw.length v.1) z2 z3 (qb0 hvs _ v.1) λ b hb=>by rw [z6,k3];exact (i3 b hb).1
 rw [z5,k4,hB] at hbx
 have hsa:(zu σ.bx B (jt g.args σ.rw.length v.1)).length = σ.bx.length:=by
  obtain ⟨lb,b1,b2,_⟩:=qkr B σ.bx (jt g.args σ.rw.length v.1) [] hbe
  rw [List.append_nil,List.append_nil] at b1
  rw [b1,b2]
 have hbx2:=hbx.moreBx (je rs' (σ.rw.length+nrB g.args) v')
 have hsbl:(qid τ.bx bs (qck g.args τ.rw.length v.1)).length = τ.bx.length:=quk _ _ _
 obtain ⟨m3,y1,y2,y3⟩:=qdz (rws:=Q9 g.args v.1) (t0 := τ.rw.length) (L0 := σ.rw.length) (bn := τ.bx.length) (B := σ.bx.length) (NB:=nBx g.args) rs' (nb:=nBx g.args) (d:=nrB g.args) (v:=v') hbx2 z4 (by show (qcH τ.rw rs++Q9 g.args v.1).length=_;rw [List.length_append,hkl,Js]) (λ p R hp=>by
   have hpl:=getElem?_lt hp
   rw [Js] at hpl
   obtain ⟨R',g1,g2,g3,g4,g5⟩:=z7 p hpl
   have hRe:m2.rw[τ.rw.length+p]? = some R:=by
    rw [z2.rw]
    show (qcH τ.rw rs++Q9 g.args v.1)[_]? = _
    rw [List.getElem?_append_right (by rw [hkl];omega),hkl,Nat.add_sub_cancel_left];exact hp
   cases hRe.symm.trans g1
   refine ⟨_,hRe,g2,g3,g4,rfl,g5,?_⟩
   have hg:=hbx2.rows _ _ hRe
   rw [g4] at hg
   obtain ⟨Q,q1,q2,_⟩:=hg
   rw [<- q2]
   have q1:(l'++(jv g.args v.1++yV rs' v'))[σ.rw.length+p]? = some Q:=q1
   rw [List.getElem?_append_right (by rw [l2];omega),l2,Nat.add_sub_cancel_left,List.getElem?_append_left (by rw [J0];exact hpl)] at q1
   exact qeV g.args v.1 p _ _ hp q1) hnum (λ k Q hk=>by
  show (l'++(jv g.args v.1++yV rs' v'))[σ.rw.length+nrB g.args+k]? = _
  rw [List.getElem?_append_right (by rw [l2];omega),l2,show σ.rw.length+nrB g.args+k - σ.rw.length=nrB g.args+k by omega,List.getElem?_append_right (by rw [J0];omega),J0,Nat.add_sub_cancel_left]
  exact hk) (by show (qid τ.bx bs (qck g.args τ.rw.length v.1)).length=_;rw [hsbl,Nat.sub_self,Nat.add_zero]) (Nat.le_refl _) (by rw [Nat.sub_self,Nat.add_zero];show _<=(zu σ.bx B (jt g.args σ.rw.length v.1)++_).length;rw [List.length_append,hsa];exact Nat.le_refl _) (λ b hb=>by
   rw [Nat.sub_self,Nat.add_zero,z5,k4]
   rw [z6,k3] at hb
   obtain ⟨ds,d1,_⟩:=hr.box b _ (List.getElem?_eq_getElem (by rw [<- hr.nb];exact hb))
   exact getElem?_lt d1) (λ k ds hk=>by
   rw [Nat.sub_self,Nat.add_zero]
   show (zu σ.bx B (jt g.args σ.rw.length v.1)++_)[_]? = _
   rw [List.getElem?_append_right (by rw [hsa];omega),hsa,Nat.add_sub_cancel_left];exact hk)
 have y2:Rel N m3 E ⟨qid τ.bx bs (qck g.args τ.rw.length v.1)++qed rs' (qcH τ.rw rs++Q9 g.args v.1).length v',(qcH τ.rw rs++Q9 g.args v.1)++qee rs' v'⟩ tm _:=y2
 rw [List.append_assoc,List.length_append,hkl,Js] at y2
 have y3:OKL m3 (qd0 τ.bx.length (nBx g.args) rs' (qcH τ.rw rs++Q9 g.args v.1).length v') _:=y3
 rw [List.length_append,hkl,Js] at y3
 rw [hpc,hbs]
 exact .to h rfl (k1.trans (z1.trans y1)) y2 (qBv y3)
end
end Go.AmZ
namespace Go.AmZ
open Go Go.RowKit Go.GxZ
section
variable {α : Type} {N:Nat × Nat} {m:Mp} {E:Env} {τ : TS} {tm:List AV} {σ : St} {K:KT α} {r : α} {p:Option (AV × Option St)} {c:TC} {C:Cfg}
theorem qEK {rw:List qD} {a:Ty} {f:Nat} {cs:List TV} {v:Val a} (h:qdo rw a (.fn f cs)=some v):False:=by
 unfold qdo at h
 cases a with
 | int k=>cases h
 | bool=>cases h
 | str=>cases h
 | list a=>cases h
 | term=>cases h
 | pair a b=>cases h
 | one a=>cases h
theorem qtE {σ β γ : Type} {p : σ -> Option β} {q:List σ -> Option γ} {xs:List σ} {v : β × γ} (h:qiT p q xs=some v):∃ x r,xs=x::r/\p x=some v.1/\q r=some v.2:=by
 unfold qiT at h
 split at h<;>try cases h
 split at h<;>try cases h
 split at h<;>cases h
 exact ⟨_,_,rfl,by assumption,by assumption⟩
theorem ql9 (hq:yC m σ):∀ (ts:List ATy) {xs:List TV} {ys:List AV} {v:qab ts},qqS m.rw ts xs=some v->OKL m xs ys ->
  qbw ts (ys.map (ju σ.rw))=some v/\qc2 (ys.map (ju σ.rw))=qjQ xs/\noRefs (ys.map (ju σ.rw))=true
 | [],xs,ys,v,h,ho=>by
   cases xs with
   | nil=>cases ho;exact ⟨rfl,rfl,rfl⟩
   | cons x xs=>cases h
 | .val a::ts,xs,ys,v,h,ho=>by
   obtain ⟨x,xs,rfl,hw,hws⟩:=qtE h
   obtain ⟨y,r,rfl,h1,h2⟩:=ho
   obtain ⟨g1,_⟩:=qgK hq hw h1
   obtain ⟨k1,k2,k3⟩:=ql9 hq ts hws h2
   obtain ⟨p1,p2⟩:=qaM g1
   refine ⟨?_,?_,?_⟩
   ·show qiT _ _ (ju σ.rw y::r.map (ju σ.rw))=_
    simp only [qiT,g1,k1]
   ·rw [List.map_cons]
    have e1:qc2 (ju σ.rw y::r.map (ju σ.rw))=qc2 (r.map (ju σ.rw)):=by
     generalize ju σ.rw y=z at p2
     cases z<;>first | rfl | exact absurd rfl (p2 _ _)
    have e2:qjQ (x::xs)=qjQ xs:=by
     cases x<;>first | rfl | exact (qEK hw).elim
    rw [e1,e2,k2]
   ·rw [List.map_cons]
    unfold noRefs at k3 |-
    rw [List.all_cons,p1,k3];rfl
 | .fn::ts,xs,ys,v,h,ho=>by
   change pFn _ xs=_ at h
   unfold pFn at h
   split at h
   case h_2=>cases h
   obtain ⟨y,r,rfl,⟨ds,rfl,hd⟩,h2⟩:=ho
   cases hd
   obtain ⟨k1,k2,k3⟩:=ql9 hq ts h h2
   refine ⟨k1,?_,?_⟩
   ·show _::qc2 _=_::qjQ _
    rw [k2]
   ·unfold noRefs at k3 |-
    rw [List.map_cons,List.all_cons,k3];rfl
theorem qzg:∀ (ts:List Ty) (v:qb5 ts),OKL m (unL ts v) (Ja ts v)/\noRefs (Ja ts v)=true
 | [],_=>⟨rfl,rfl⟩
 | [a],v=>⟨⟨_,_,rfl,qnw a v,rfl⟩,by show (jP (yi a v)&&true)=true;rw [qeu];rfl⟩
 | a::b::r,v=>by
   obtain ⟨h1,h2⟩:=qzg (b::r) v.2
   refine ⟨⟨_,_,rfl,qnw a v.1,h1⟩,?_⟩
   show (jP (yi a v.1)&&noRefs (Ja (b::r) v.2))=true
   rw [qeu,h2];rfl
theorem qtw {l:List AV} (h:noRefs l=true):jP (.tup l)=true:=by
 have:=qfn h
 unfold jP
 rw [rb,rr,this.1,this.2];rfl
theorem qEa {xs:List TV} {ys:List AV} (h:OKL m xs ys) (hn:noRefs ys=true):OK m (qrj xs) (zw ys)/\jP (zw ys)=true:=by
 cases xs with
 | nil=>cases h;exact ⟨⟨[],rfl,rfl⟩,rfl⟩
 | cons x xs =>
   obtain ⟨y,r,rfl,h1,h2⟩:=h
   cases xs with
   | nil =>
     cases h2
     have:jP y=true:=by
      unfold noRefs at hn
      simpa using hn
     exact ⟨h1,this⟩
   | cons x' xs =>
     obtain ⟨y',r',rfl,h3,h4⟩:=h2
     exact ⟨⟨_,rfl,⟨_,_,rfl,h1,_,_,rfl,h3,h4⟩⟩,qtw hn⟩
theorem qxO {a:Ty} (h:qqQ a=true) (v:Val a):isV (yi a v)=true:=by
 cases a<;>first | rfl | (cases h)
theorem qxg:∀ {ts:List Ty} (v:qb5 ts),ts.all qqQ=true->(Ja ts v).all isV=true
 | [],_,_=>rfl
 | [a],v,h=>by
   have:qqQ a=true:=by simpa using h
   show (isV (yi a v)&&true)=true
   rw [qxO this];rfl
 | a::b::r,v,h=>by
   rw [List.all_cons,Bool.and_eq_true] at h
   show (isV (yi a v.1)&&(Ja (b::r) v.2).all isV)=true
   rw [qxO h.1,qxg v.2 h.2];rfl
theorem qEC {ts:List Ty} {v:qb5 ts} (h:ts.all qqQ=true):qc8 (zw (Ja ts v))=true:=by
 have:=qxg v h
 revert this
 cases Ja ts v with
 | nil=>intro _;rfl
 | cons x l =>
   cases l with
   | nil =>
     intro hx
     have hx:isV x=true:=by simpa using hx
     show qc8 x=true
     cases x<;>first | rfl | (cases hx)
   | cons y l=>intro hx;exact hx
theorem qDG {f:Nat} {xs:List TV} {ys:List AV} (hr:Rel N m E τ tm σ) (ho:OKL m xs ys) (h:qAw c τ f xs K=some r):Sim N m E τ tm σ K r (qac c.pc f σ ys):=by
 unfold qAw at h
 split at h
 case h_2=>cases h
 case h_3 hh=>exact qtA hr ho hh h
 rename_i g hh hg
 split at h<;>try cases h
 rename_i a ha
 obtain ⟨v,hv,h⟩:=jX h
 rw [<- hr.rw] at ha
 obtain ⟨g1,g2,g3⟩:=ql9 hr.rows g.args ha ho
 obtain ⟨e1,e2⟩:=qzg (m:=m) g.res v
 obtain ⟨e3,e4⟩:=qEa e1 e2
 have hp:c.pc.pf f=some (yz c f):=by show (match c.has f with | true=>some (yz c f) | false=>none)=_;rw [hh]
 have hs:yz c f (ys.map (ju σ.rw))=some (zw (Ja g.res v)):=by
  unfold yz
  rw [g2,hg]
  simp only [g1,hv]
 have hst:qac c.pc f σ ys=match qc8 (zw (Ja g.res v)),ys.flatMap rsA with
   | true,_=>some (zw (Ja g.res v),none)
   | _,[]=>some (zw (Ja g.res v),none)
   | _,r::l=>some (zw (Ja g.res v),some { σ with rw:=frz σ.rw (r::l),wrr:=(r::l) ++ σ.wrr }):=by
  unfold qac
  simp only [hp,g3,hs,e4]
  rfl
 rw [hst]
 split at h
 ·rename_i hno
  rcases Bool.or_eq_true_iff.1 hno with hno | hno
  ·rw [qo5 hno ho]
   refine .same hr h ?_ e3
   cases qc8 (zw (Ja g.res v))<;>rfl
  ·rw [qEC hno]
   exact .same hr h rfl e3
 ·split
  ·exact ⟨_,some (shA τ),_,none,shM m,h,rfl,qc7 m,hr.share rfl hr.rows.sh,e3.mono (qc7 m),λ h=>by cases h⟩
  ·exact ⟨_,some (shA τ),_,none,shM m,h,rfl,qc7 m,hr.share rfl hr.rows.sh,e3.mono (qc7 m),λ h=>by cases h⟩
  ·exact .to h rfl (qc7 m) (hr.share (σ':={ σ with rw:=frz σ.rw _,wrr:=_ }) rfl (hr.rows.frz _ _)) (e3.mono (qc7 m))
end
end Go.AmZ
namespace Go.AmZ
open Go Go.RowKit Go.GxZ
section
variable {α : Type} {N:Nat × Nat} {m:Mp} {E:Env} {τ : TS} {tm:List AV} {σ : St} {K:KT α} {r : α} {p:Option (AV × Option St)} {c:TC} {C:Cfg}
theorem qv0 {a:Ty} {es:List (List AV)} {l:List (Val a)} (h:qL (zQ a) es=some l):uni a.size es=true:=by
 unfold uni
 rw [List.all_eq_true]
 intro e he
 obtain ⟨i,hi⟩:=List.getElem?_of_mem he
 obtain ⟨v,_,h2⟩:=QP h hi
 obtain ⟨pre,p1,p2,p3,_⟩:=ye a (zD.1 h2)
 rw [List.append_nil] at p1
 rw [p1]
 simp only [Bool.and_eq_true,decide_eq_true_eq,List.all_eq_true]
 exact ⟨p2,p3⟩
theorem qmZ {n bytes:Nat} (h:zJ n bytes=true):n*bytes<=2 ^ 47/\n<2 ^ 62:=of_decide_eq_true h
theorem qzl {bytes:Nat} {a:Ty} {s:TV} {xs:List (Val a)} {y:AV} {es:List (List AV)} (hr:Rel N m E τ tm σ) (ho:OK m s y) (hd:qL (zQ a) es=some xs) (h:qzN a.size bytes τ a s xs K=some r) :
  Sim N m E τ tm σ K r (zF a.size bytes σ y es):=by
 have hlen:=qF hd
 unfold qzN at h
 split at h
 ·-- nil
  cases ho
  unfold qgr at h
  split at h
  ·have:es=[]:=List.eq_nil_of_length_eq_zero (by simpa using hlen)
   subst this
   exact .same hr h rfl rfl
  ·rename_i x rest
   obtain ⟨h1,h⟩:=yT h
   obtain ⟨q1,q2⟩:=qmZ h1
   obtain ⟨m',g1,g2,g3⟩:=hr.rowNew hd
   have hn:qV (Jx es) 0=false:=by simp [qV,Jx,hlen]
   have hle:es.length=rest.length+1:=by simpa using hlen
   have hrn:rowNew a.size bytes es=some (⟨a.size,es,0,0,false⟩,es.length):=by
    unfold Go.AmZ.rowNew
    rw [if_pos ⟨by rw [hle];exact q1,by rw [hle];exact q2⟩]
   refine .to h (y := .rs σ.rw.length 0 es.length 0 false) (by simp only [zF,hn,hrn]) g1 g2 ?_
   rw [hlen];exact g3
 ·-- a list
  rename_i a' l lv
  split at h<;>try cases h
  rename_i hlv
  have hlv:=of_decide_eq_true hlv
  split at h<;>try cases h
  rename_i l hl
  obtain ⟨e,rfl⟩:=yE hl
  subst e
  obtain ⟨h1,h⟩:=yT h
  obtain ⟨q1,q2⟩:=qmZ h1
  unfold qgr at h
  split at h
  ·have:es=[]:=List.eq_nil_of_length_eq_zero (by simpa using hlen)
   subst this
   refine .same hr h ?_ ho
   rcases yr ho.1 with ⟨rfl,_⟩ | ⟨es0,n,rfl,_⟩<;>rfl
  rename_i x rest _
  have hn:qV (Jx es) 0=false:=by simp [qV,Jx,hlen]
  have hle:es.length=rest.length+1:=by simpa using hlen
  obtain ⟨ho1,ho2⟩:=ho
  rcases yr ho1 with ⟨rfl,hl0⟩ | ⟨es0,n,rfl,h2⟩
  ·have hl0:l=[]:=hl0
   subst hl0
   obtain ⟨m',g1,g2,g3⟩:=hr.rowNew hd
   have hrn:rowNew a'.size bytes es=some (⟨a'.size,es,0,0,false⟩,es.length):=by
    unfold Go.AmZ.rowNew
    rw [if_pos ⟨by rw [hle];simpa using q1,by rw [hle];simpa using q2⟩]
   refine .to h (y := .rs σ.rw.length 0 es.length 0 false) (by simp only [zF,hn,hrn]) g1 g2 ?_
   rw [hlen];exact g3
  ·have hd2:=QR h2 hd
   have hlen2:=qF hd2
   obtain ⟨m',g1,g2,g3⟩:=hr.rowNew hd2
   have hrn:rowNew a'.size bytes (qg8 es0 es)=some (⟨a'.size,qg8 es0 es,0,0,false⟩,(qg8 es0 es).length):=by
    unfold Go.AmZ.rowNew qg8
    have:(es0++es).length=l.length+(x::rest).length:=by rw [hlen2,List.length_append]
    rw [if_pos ⟨by rw [this];exact q1,by rw [this];exact q2⟩]
   have hc:(decide (1<n+1)&&qV a'.size a'.size&&uni a'.size es0)=true:=by
    have:1<n+1:=Nat.lt_of_lt_of_le hlv ho2
    simp only [decide_eq_true this,qV,decide_true,qv0 h2,Bool.and_self]
   refine .to h (y := .rs σ.rw.length 0 (qg8 es0 es).length 0 false) (by simp only [zF,hn,hc,hrn];rfl) g1 g2 ?_
   show OK m' _ (.rs _ 0 (es0++es).length 0 false)
   rw [hlen2];exact g3
 ·-- a row
  rename_i id ver
  split at h<;>try cases h
  rename_i R hR
  split at h<;>try cases h
  rename_i hv
  have hv:R.ver=ver:=Nat.eq_of_beq_eq_true hv
  split at h<;>try cases h
  rename_i l hl
  obtain ⟨e,rfl⟩:=yE hl
  subst e
  obtain ⟨h1,h⟩:=yT h
  obtain ⟨q1,q2⟩:=qmZ h1
  obtain ⟨R',g1,g2,g3,g4⟩:=ho
  rw [hr.rw,hR] at g1;cases g1
  have hR':m.rw[id]? = some R:=by rw [hr.rw];exact hR
  have gy:=g4 hv
  clear g4
  subst hv
  rcases qe0 hr.rows hR' gy with ⟨rr,Q,hrr,hy,k1,k2,kv,k3,k4,kf,ks⟩ | ⟨hrr,hq,hy,hlv⟩
  ·have hQl:=qF k4
   have hrl:rr < σ.rw.length:=getElem?_lt k1
   by_cases he:xs=[]
   ·subst he
    have:es=[]:=List.eq_nil_of_length_eq_zero (by simpa using hlen)
    subst this
    obtain ⟨m',z1,z2,z3⟩:=hr.rowUpd (R2:=⟨R.τ,R.l++[],R.ver+1,R.sv,R.sh⟩) hR (m.r id) (m.v id) (m.q id) (Nat.le_succ _) (Nat.le_refl _) (λ h=>by have:R.ver+1=R.ver:=h;omega) (σ' := σ) rfl
     (by rw [hrr];exact ⟨Q,k1,k2,kv,k3,by rw [List.append_nil];exact k4,kf,ks⟩) λ id' r'' hne hlt hr''=>⟨λ hee=>by rw [hrr] at hee;exact hr.others hR hrr hne hlt hr'' (Option.some.inj hee).symm,λ _ h=>h⟩
    refine ⟨_,some _,y,none,m',h,by rw [hy];rfl,z1,z2,z3 y ?_,λ h=>by cases h⟩
    rw [hrr]
    show y = .rs rr 0 (R.l++[]).length (m.v id) false
    rw [hy,List.append_nil,kv,hQl]
   ·have hn:qV (Jx es) 0=false:=by
      have:es.length≠0:=by rw [hlen];exact λ h=>he (List.eq_nil_of_length_eq_zero h)
      simp [qV,Jx,this]
    have hap:qrH Q R.τ.size 0 Q.c.length Q.ver false bytes es=some ({ Q with c:=Q.c++es,ver:=Q.ver+1 },Q.c.length+es.length):=by
     unfold qrH
     rw [if_pos ⟨k3,rfl,rfl,rfl,rfl,kf,by rw [hlen,hQl];exact q1,by rw [hlen,hQl];exact q2⟩]
    obtain ⟨m',z1,z2,z3⟩:=hr.rowUpd (R2:=⟨R.τ,R.l++xs,R.ver+1,R.sv,R.sh⟩) hR (some rr) (Q.ver+1) (Q.c++es) (Nat.le_succ _) (Nat.le_refl _) (λ h=>by have:R.ver+1=R.ver:=h;omega)
     (σ':={ σ with rw := σ.rw.set rr { Q with c:=Q.c++es,ver:=Q.ver+1 },wrr:=rr :: σ.wrr }) rfl
     ⟨{ Q with c:=Q.c++es,ver:=Q.ver+1 },by show (σ.rw.set rr _)[rr]? = _;rw [List.getElem?_set_self hrl],rfl,rfl,k3,QR k4 hd,by show Q.fz<=(Q.c++es).length;rw [List.length_append];omega,ks⟩ λ id' r'' hne hlt hr''=>by
      have hnr:=hr.others hR hrr hne hlt hr''
      exact ⟨λ hee=>hnr (Option.some.inj hee).symm,λ Q' hQ'=>by show (σ.rw.set rr _)[r'']? = _;rw [List.getElem?_set_ne (Ne.symm hnr)];exact hQ'⟩
    refine .to h (y := .rs rr 0 (Q.c.length+es.length) (Q.ver+1) false) (by rw [hy];simp only [zF,hn,k1,hap]) z1 z2 (z3 _ ?_)
    show _=AV.rs rr 0 (R.l++xs).length (Q.ver+1) false
    rw [List.length_append,hQl,hlen]
  ·have hnoR:∀ id' r'',id'≠id->id'<m.rw.length->m.r id'=some r''->r'' < σ.rw.length := λ _ _ _ hlt h=>hr.row_lt hlt h
   by_cases he:xs=[]
   ·subst he
    have:es=[]:=List.eq_nil_of_length_eq_zero (by simpa using hlen)
    subst this
    obtain ⟨m',z1,z2,z3⟩:=hr.rowUpd (R2:=⟨R.τ,R.l++[],R.ver+1,R.sv,R.sh⟩) hR none 0 [] (Nat.le_succ _) (Nat.le_refl _) (λ h=>by have:R.ver+1=R.ver:=h;omega) (σ' := σ) rfl
     (λ hs=>by show R.l++[]=[];rw [hq hs];rfl) λ id' r'' hne hlt hr''=>⟨λ hee=>(by cases hee),λ _ h=>h⟩
    refine ⟨_,some _,y,none,m',h,?_,z1,z2,z3 y ⟨by show dlist R.τ y=some (R.l++[]);rw [List.append_nil];exact hy,hlv⟩,λ h=>by cases h⟩
    rcases yr hy with ⟨rfl,_⟩ | ⟨es,n,rfl,_⟩<;>rfl
   ·have hn:qV (Jx es) 0=false:=by
      have:es.length≠0:=by rw [hlen];exact λ h=>he (List.eq_nil_of_length_eq_zero h)
      simp [qV,Jx,this]
    have key:∀ es2,qL (zQ R.τ) es2=some (R.l++xs)->zF R.τ.size bytes σ y es=(match Go.AmZ.rowNew R.τ.size bytes es2 with | some (R,n)=>some (.rs σ.rw.length 0 n 0 false,some { σ with rw := σ.rw++[R] }) | none=>none)->Sim N m E τ tm σ K r (zF R.τ.size bytes σ y es):=by
     intro es2 hd2 hap
     have hle:=qF hd2
     rw [List.length_append] at hle
     have hrn:rowNew R.τ.size bytes es2=some (⟨R.τ.size,es2,0,0,false⟩,es2.length):=by
      unfold Go.AmZ.rowNew
      rw [if_pos ⟨by rw [hle];exact q1,by rw [hle];exact q2⟩]
     obtain ⟨m',z1,z2,z3⟩:=hr.rowUpd (R2:=⟨R.τ,R.l++xs,R.ver+1,R.sv,R.sh⟩) hR (some σ.rw.length) 0 es2 (Nat.le_succ _) (Nat.le_refl _) (λ h=>by have:R.ver+1=R.ver:=h;omega)
      (σ':={ σ with rw := σ.rw++[⟨R.τ.size,es2,0,0,false⟩] }) rfl
      ⟨⟨R.τ.size,es2,0,0,false⟩,by show (σ.rw++[_])[σ.rw.length]? = _;simp,rfl,rfl,rfl,hd2,Nat.zero_le _,λ _=>⟨rfl,rfl⟩⟩ λ id' r'' hne hlt hr''=>by
        have:=hnoR id' r'' hne hlt hr''
        exact ⟨λ hee=>by have:=Option.some.inj hee;omega,λ Q' hQ'=>by show (σ.rw++[_])[r'']? = _;rw [List.getElem?_append_left this];exact hQ'⟩
     refine .to h (y := .rs σ.rw.length 0 es2.length 0 false) (by rw [hap,hrn]) z1 z2 (z3 _ ?_)
     show _=AV.rs σ.rw.length 0 (R.l++xs).length 0 false
     rw [List.length_append,hle]
    rcases yr hy with ⟨rfl,hl⟩ | ⟨es0,n,rfl,hl⟩
    ·exact key es (by rw [hl];exact hd) (by simp only [zF,hn];rfl)
    ·have hc:(decide (1<n+1)&&qV R.τ.size R.τ.size&&uni R.τ.size es0)=true:=by
       have:1<n+1:=hlv
       simp only [decide_eq_true this,qV,decide_true,qv0 hl,Bool.and_self]
     exact key (qg8 es0 es) (QR hl hd) (by simp only [zF,hn,hc];rfl)
 ·cases h
end
end Go.AmZ
namespace Go.AmZ
open Go Go.RowKit Go.GxZ
section
variable {α : Type} {N:Nat × Nat} {m:Mp} {E:Env} {τ : TS} {tm:List AV} {σ : St} {K:KT α} {r : α} {p:Option (AV × Option St)} {c:TC} {C:Cfg}
theorem qtS {m':Mp}:∀ {xs:List TV} {ys:List AV},(xs.all λ | .i .. | .b _ | .s _ | .c _ | .nil | .sl .. => true | _=>false)=true->OKL m xs ys->OKL m' xs ys
 | [],_,_,h=>h
 | x::xs,_,h,⟨y,r,rfl,h1,h2⟩=>by
   rw [List.all_cons,Bool.and_eq_true] at h
   refine ⟨y,r,rfl,?_,qtS h.2 h2⟩
   have h:=h.1
   cases x<;>first | exact h1 | (cases h)
theorem qBI {m':Mp} {x:TV} {y:AV} (h:qxo x=true) (ho:OK m x y):OK m' x y:=by
 cases x with
 | fn f cs =>
   have:cs=[]:=by simpa [qxo,List.isEmpty_iff] using h
   subst this
   obtain ⟨ds,rfl,hd⟩:=ho
   cases hd
   exact ⟨[],rfl,rfl⟩
 | agg cs =>
   obtain ⟨ds,rfl,hd⟩:=ho
   exact ⟨ds,rfl,qtS h hd⟩
 | _=>first | exact ho | (cases h)
structure qeU (m:Mp) (tm:List AV) (σ : St) (M:Mv) (m':Mp):Prop where
 rw:m'.rw=M.rw
 nb:m'.nb=M.bx.length
 box:∀ b cs,M.bx[b]? = some cs->∃ ds,σ.bx[m'.b b]? = some ds/\OKL m' cs ds
 src:∀ b',b'<m'.nb->∃ b,yR M.mb b=some b'/\m'.b b'=m.b b/\b<m.nb
 mb:∀ b b',yR M.mb b=some b'->b'<m'.nb/\m'.b b'=m.b b
 rows:yC m' σ
 rsrc:∀ id' r,id'<m'.rw.length->m'.r id'=some r->∃ id,yR M.mr id=some id'/\m.r id=some r/\id<m.rw.length
 mr:∀ id id',yR M.mr id=some id'->∃ R R',m.rw[id]? = some R/\m'.rw[id']? = some R'/\R'.ver=0/\(∀ y,QM (m.r id) (m.v id) R.τ R.l y->QM (m'.r id') (m'.v id') R'.τ R'.l y)
 env:∀ t,OK m' (get M.E t) (tm.getD t .dead)
theorem qqT {b b' k v:Nat} {l:List (Nat × Nat)} (h:yR ((k,v)::l) b=some b'):(k=b/\v=b')\/(k≠b/\yR l b=some b'):=by
 simp only [yR] at h
 split at h
 ·rename_i hk
  cases h
  exact .inl ⟨Nat.eq_of_beq_eq_true hk,rfl⟩
 ·rename_i hk
  exact .inr ⟨λ he=>by rw [he] at hk;simp at hk,h⟩
theorem qru {k v:Nat} {l:List (Nat × Nat)}:yR ((k,v)::l) k=some v:=by simp [yR]
theorem qxf {b k v:Nat} {l:List (Nat × Nat)} (h:k≠b):yR ((k,v)::l) b=yR l b:=by
 simp only [yR]
 split
 ·rename_i hk;exact absurd (Nat.eq_of_beq_eq_true hk) h
 ·rfl
theorem qeU.addRow {M:Mv} {m':Mp} (h:qeU m tm σ M m') (R2:qD) (ro:Option Nat) (vo:Nat) (qo:List (List AV)) {mr':List (Nat × Nat)} (h0:R2.ver=0)
  (h1:QC σ R2 ro vo qo)
  (h2:(mr'=M.mr/\ro=none)\/∃ id R,yR M.mr id=none/\mr'=(id,M.rw.length)::M.mr/\ro=m.r id/\m.rw[id]? = some R/\∀ y,QM (m.r id) (m.v id) R.τ R.l y->QM ro vo R2.τ R2.l y) :
  ∃ m'',MLe m' m''/\qeU m tm σ { M with rw:=M.rw++[R2],mr:=mr' } m''/\∀ y,QM ro vo R2.τ R2.l y->OK m'' (.row M.rw.length 0) y:=by
 have hle:MLe m' (m'.add R2 ro vo qo):=qmM _ _ _ _ _
 have ga:∀ {id:Nat} {R:qD},m'.rw[id]? = some R->(m'.rw++[R2])[id]? = some R/\¬ id=m'.rw.length := λ h=>⟨by rw [List.getElem?_append_left (getElem?_lt h)];exact h,Nat.ne_of_lt (getElem?_lt h)⟩
 refine ⟨m'.add R2 ro vo qo,hle,?_,?_⟩
 ·refine ⟨by show m'.rw++_=M.rw++_;rw [h.rw],h.nb,?_,h.src,h.mb,qkY h.rows h1 λ _ _ h=>h,?_,?_,λ t=>(h.env t).mono hle⟩
  ·intro b cs hb
   obtain ⟨ds,g1,g2⟩:=h.box b cs hb
   exact ⟨ds,g1,g2.mono hle⟩
  ·intro id' r hlt he
   change id'<(m'.rw++[_]).length at hlt
   change (if id'=m'.rw.length then ro else m'.r id')=some r at he
   simp at hlt
   split at he
   ·rename_i hid
    rcases h2 with ⟨_,hn⟩ | ⟨id,R,g1,g2,g3,g4,_⟩
    ·rw [hn] at he;cases he
    ·refine ⟨id,?_,by rw [<- g3];exact he,getElem?_lt g4⟩
     show yR mr' id=some id'
     rw [g2,qru,hid,h.rw]
   ·obtain ⟨id,k1,k2,k3⟩:=h.rsrc id' r (by omega) he
    refine ⟨id,?_,k2,k3⟩
    show yR mr' id=some id'
    rcases h2 with ⟨hm,_⟩ | ⟨id0,R,g1,g2,_⟩
    ·rw [hm];exact k1
    ·rw [g2,qxf]
     ·exact k1
     ·intro hee
      subst hee
      rw [g1] at k1;cases k1
  ·intro id id' hid
   change yR mr' id=some id' at hid
   have old:yR M.mr id=some id'->∃ R R',m.rw[id]? = some R/\(m'.rw++[R2])[id']? = some R'/\R'.ver=0/\(∀ y,QM (m.r id) (m.v id) R.τ R.l y->QM (if id'=m'.rw.length then ro else m'.r id') (if id'=m'.rw.length then vo else m'.v id') R'.τ R'.l y):=by
    intro hid
    obtain ⟨R0,R',k1,k2,k3,k4⟩:=h.mr id id' hid
    obtain ⟨q1,q2⟩:=ga k2
    exact ⟨R0,R',k1,q1,k3,by rw [if_neg q2,if_neg q2];exact k4⟩
   rcases h2 with ⟨hm,_⟩ | ⟨id0,R,g1,g2,g3,g4,g5⟩
   ·rw [hm] at hid
    exact old hid
   ·rw [g2] at hid
    rcases qqT hid with ⟨rfl,rfl⟩ | ⟨_,hid⟩
    ·refine ⟨R,R2,g4,by show (m'.rw++_)[M.rw.length]? = _;rw [h.rw];simp,h0,?_⟩
     show ∀ y,_->QM (if M.rw.length=m'.rw.length then ro else m'.r M.rw.length) (if M.rw.length=m'.rw.length then vo else m'.v M.rw.length) _ _ y
     rw [if_pos (by rw [h.rw]),if_pos (by rw [h.rw])];exact g5
    ·exact old hid
 ·intro y hy
  refine ⟨R2,by show (m'.rw++_)[M.rw.length]? = _;rw [h.rw];simp,Nat.zero_le _,hy.ish,λ _=>?_⟩
  show QM (if M.rw.length=m'.rw.length then ro else m'.r M.rw.length) (if M.rw.length=m'.rw.length then vo else m'.v M.rw.length) _ _ y
  rw [if_pos (by rw [h.rw]),if_pos (by rw [h.rw])];exact hy
theorem qeU.addBox {M:Mv} {m':Mp} (h:qeU m tm σ M m') {b:Nat} (hb:b<m.nb) (hn:yR M.mb b=none) {ys:List TV} {ds:List AV} (hd : σ.bx[m.b b]? = some ds) (ho:OKL m' ys ds) :
  ∃ m'',MLe m' m''/\qeU m tm σ { M with bx:=M.bx++[ys],mb:=(b,M.bx.length)::M.mb } m''/\OK m'' (.ptr M.bx.length 0) (.ptr (m.b b) 0):=by
 have hle:MLe m' { m' with b := λ i=>if i=m'.nb then m.b b else m'.b i,nb:=m'.nb+1 } :=
  ⟨Nat.le_succ _,λ i hi=>if_neg (Nat.ne_of_lt hi),λ id R h=>⟨R,h,Nat.le_refl _,Nat.le_refl _,λ _=>⟨rfl,rfl,rfl,rfl,(λ _=>rfl),λ _ _ h=>h⟩⟩⟩
 refine ⟨_,hle,?_,?_⟩
 ·refine ⟨h.rw,by show m'.nb+1=(M.bx++[ys]).length;rw [h.nb];simp,?_,?_,?_,h.rows,h.rsrc,h.mr,λ t=>(h.env t).mono hle⟩
  ·intro i cs hi
   change (M.bx++[ys])[i]? = some cs at hi
   show ∃ ds,σ.bx[if i=m'.nb then m.b b else m'.b i]? = some ds/\_
   by_cases he:i=m'.nb
   ·rw [if_pos he]
    rw [he,h.nb] at hi
    simp at hi
    subst hi
    exact ⟨ds,hd,ho.mono hle⟩
   ·rw [if_neg he]
    have hlt:i<M.bx.length:=by have:=getElem?_lt hi;simp at this;have:=h.nb;omega
    rw [List.getElem?_append_left hlt] at hi
    obtain ⟨ds',g1,g2⟩:=h.box i cs hi
    exact ⟨ds',g1,g2.mono hle⟩
  ·intro b' hb'
   change b'<m'.nb+1 at hb'
   show ∃ b0,yR ((b,M.bx.length)::M.mb) b0=some b'/\(if b'=m'.nb then m.b b else m'.b b')=m.b b0/\b0<m.nb
   by_cases he:b'=m'.nb
   ·exact ⟨b,by rw [qru,he,h.nb],if_pos he,hb⟩
   ·obtain ⟨b0,g1,g2,g3⟩:=h.src b' (by omega)
    refine ⟨b0,?_,by rw [if_neg he];exact g2,g3⟩
    rw [qxf]
    ·exact g1
    ·intro hee;subst hee;rw [hn] at g1;cases g1
  ·intro b0 b' hb'
   change yR ((b,M.bx.length)::M.mb) b0=some b' at hb'
   show b'<m'.nb+1/\(if b'=m'.nb then m.b b else m'.b b')=m.b b0
   rcases qqT hb' with ⟨rfl,rfl⟩ | ⟨_,hb'⟩
   ·rw [<- h.nb]
    exact ⟨Nat.lt_succ_self _,if_pos rfl⟩
   ·obtain ⟨g1,g2⟩:=h.mb b0 b' hb'
    exact ⟨by omega,by rw [if_neg (Nat.ne_of_lt g1)];exact g2⟩
 ·refine ⟨?_,?_⟩
  ·show M.bx.length<m'.nb+1
   rw [h.nb];exact Nat.lt_succ_self _
  ·show _=AV.ptr (if M.bx.length=m'.nb then m.b b else m'.b M.bx.length) 0
   rw [if_pos h.nb.symm]
mutual
theorem qBW (hr:Rel N m E τ tm σ):∀ (co:Co) {x:TV} {y:AV} {M:Mv} {m':Mp} {K:TV->Mv->Option α} {r : α},mvT τ co x M K=some r->OK m x y->qeU m tm σ M m' ->
  ∃ x' M' m'',K x' M'=some r/\MLe m' m''/\qeU m tm σ M' m''/\OK m'' x' y/\M'.E=M.E
 | .keep,x,y,M,m',K,r,h,ho,hM=>by
   simp only [mvT] at h
   split at h
   ·rename_i hp
    exact ⟨x,M,m',h,.refl m',hM,qBI hp ho,rfl⟩
   ·exact ⟨.dead,M,m',h,.refl m',hM,trivial,rfl⟩
 | .list a,x,y,M,m',K,r,h,ho,hM=>by
   simp only [mvT] at h
   split at h
   ·cases ho
    exact ⟨_,M,m',h,.refl m',hM,⟨rfl,by decide⟩,rfl⟩
   ·split at h<;>try cases h
    rename_i l hl
    obtain ⟨e,rfl⟩:=yE hl
    subst e
    exact ⟨_,M,m',h,.refl m',hM,⟨ho.1,qit ho.1⟩,rfl⟩
   ·exact ⟨.dead,M,m',h,.refl m',hM,trivial,rfl⟩
 | .plist a,x,y,M,m',K,r,h,ho,hM=>by
   simp only [mvT] at h
   split at h
   ·cases ho
    exact ⟨_,M,m',h,.refl m',hM,⟨rfl,by decide⟩,rfl⟩
   ·split at h<;>try cases h
    rename_i l hl
    obtain ⟨e,rfl⟩:=yE hl
    subst e
    exact ⟨_,M,m',h,.refl m',hM,⟨ho.1,qit ho.1⟩,rfl⟩
   ·exact ⟨.dead,M,m',h,.refl m',hM,trivial,rfl⟩
 | .row a sh,x,y,M,m',K,r,h,ho,hM=>by
   simp only [mvT] at h
   split at h
   ·cases ho
    obtain ⟨m'',g1,g2,g3⟩:=hM.addRow ⟨a,[],0,0,sh⟩ none 0 [] rfl (λ _=>rfl) (.inl ⟨rfl,rfl⟩)
    exact ⟨_,_,m'',h,g1,g2,g3 _ ⟨rfl,Nat.le_refl _⟩,rfl⟩
   ·rename_i a' l lv
    split at h<;>try cases h
    rename_i l hl hlv
    obtain ⟨e,rfl⟩:=yE hl
    subst e
    have hlv:=of_decide_eq_true hlv
    obtain ⟨ho1,ho2⟩:=ho
    split at h
    ·obtain ⟨m'',g1,g2,g3⟩:=hM.addRow ⟨a',l,0,0,true⟩ none 0 [] rfl (λ h=>by cases h) (.inl ⟨rfl,rfl⟩)
     exact ⟨_,_,m'',h,g1,g2,g3 _ ⟨ho1,by omega⟩,rfl⟩
    ·split at h<;>try cases h
     rename_i hnil
     have hnil:l=[]:=hnil
     subst hnil
     obtain ⟨m'',g1,g2,g3⟩:=hM.addRow ⟨a',[],0,0,false⟩ none 0 [] rfl (λ _=>rfl) (.inl ⟨rfl,rfl⟩)
     exact ⟨_,_,m'',h,g1,g2,g3 _ ⟨ho1,by omega⟩,rfl⟩
   ·rename_i id ver
    split at h<;>try cases h
    rename_i R hR
    split at h<;>try cases h
    rename_i hv
    rw [Bool.and_eq_true] at hv
    have hsh:=hv.2
    have hv:R.ver=ver:=Nat.eq_of_beq_eq_true hv.1
    split at h<;>try cases h
    rename_i l hl
    obtain ⟨e,rfl⟩:=yE hl
    subst e
    obtain ⟨R',k1,_,_,k2⟩:=ho
    rw [hr.rw,hR] at k1;cases k1
    have hy:=k2 hv
    have hR':m.rw[id]? = some R:=by rw [hr.rw];exact hR
    split at h
    ·rename_i id' has
     obtain ⟨R0,R1,z1,z2,z3,z4⟩:=hM.mr id id' has
     rw [hR'] at z1;cases z1
     exact ⟨_,M,m',h,.refl m',hM,⟨R1,z2,Nat.zero_le _,hy.ish,λ _=>z4 y hy⟩,rfl⟩
    ·rename_i has
     have hrow:=hr.rows id R hR'
     have hrow2:QC σ ⟨R.τ,R.l,0,0,sh⟩ (m.r id) (m.v id) (m.q id):=by
      have hs:sh=false->R.sh=false:=by
       intro h0
       rw [h0] at hsh
       simpa using hsh
      revert hrow
      cases m.r id with
      | none=>intro hrow h0;exact hrow (hs h0)
      | some rr =>
        rintro ⟨Q,q1,q2,q3,q4,q5,q6,q7⟩
        exact ⟨Q,q1,q2,q3,q4,q5,q6,λ h0=>q7 (hs h0)⟩
     obtain ⟨m'',g1,g2,g3⟩:=hM.addRow ⟨R.τ,R.l,0,0,sh⟩ (m.r id) (m.v id) (m.q id) rfl hrow2 (.inr ⟨id,R,has,rfl,rfl,hR',λ _ h=>h⟩)
     exact ⟨_,_,m'',h,g1,g2,g3 y hy,rfl⟩
   ·cases h
 | .fn cs,x,y,M,m',K,r,h,ho,hM=>by
   cases x with
   | fn f xs =>
     simp only [mvT] at h
     obtain ⟨ds,rfl,hd⟩:=ho
     obtain ⟨ys,M1,m1,q1,q2,q3,q4,q5⟩:=qxw hr cs h hd hM
     exact ⟨_,M1,m1,q1,q2,q3,⟨_,rfl,q4⟩,q5⟩
   | _=>simp only [mvT] at h;cases h
 | .box cs,x,y,M,m',K,r,h,ho,hM=>by
   simp only [mvT] at h
   split at h
   case h_2=>cases h
   rename_i b
   obtain ⟨hb,rfl⟩:=ho
   split at h
   ·rename_i b' has
    obtain ⟨g1,g2⟩:=hM.mb b b' has
    exact ⟨_,M,m',h,.refl m',hM,⟨g1,by rw [g2]⟩,rfl⟩
   ·split at h<;>try cases h
    rename_i xs hxs
    obtain ⟨ds,k1,k2⟩:=hr.box b xs hxs
    obtain ⟨ys,M',m'',q1,q2,q3,q4,q5⟩:=qxw hr cs h k2 hM
    split at q1
    case h_2=>cases q1
    rename_i has
    obtain ⟨m3,z1,z2,z3⟩:=q3.addBox hb has k1 q4
    exact ⟨_,_,m3,q1,q2.trans z1,z2,z3,q5⟩
theorem qxw (hr:Rel N m E τ tm σ):∀ (cs:List Co) {xs:List TV} {ys:List AV} {M:Mv} {m':Mp} {K:List TV->Mv->Option α} {r : α},mvL τ cs xs M K=some r->OKL m xs ys->qeU m tm σ M m' ->
  ∃ xs' M' m'',K xs' M'=some r/\MLe m' m''/\qeU m tm σ M' m''/\OKL m'' xs' ys/\M'.E=M.E
 | [],xs,ys,M,m',K,r,h,ho,hM=>by
   cases xs with
   | nil=>simp only [mvL] at h;cases ho;exact ⟨[],M,m',h,.refl m',hM,rfl,rfl⟩
   | cons x xs=>simp only [mvL] at h;cases h
 | co::cs,xs,ys,M,m',K,r,h,ho,hM=>by
   cases xs with
   | nil=>simp only [mvL] at h;cases h
   | cons x xs =>
     simp only [mvL] at h
     obtain ⟨y,rr,rfl,h1,h2⟩:=ho
     obtain ⟨x',M1,m1,q1,q2,q3,q4,q5⟩:=qBW hr co h h1 hM
     obtain ⟨xs',M2,m2,z1,z2,z3,z4,z5⟩:=qxw hr cs q1 h2 q3
     exact ⟨x'::xs',M2,m2,z1,q2.trans z2,z3,⟨y,rr,rfl,q4.mono z2,z4⟩,z5.trans q5⟩
end
theorem qFP {E:Env} {t:Nat} {x:TV} {s:Nat} {y:AV} {m':Mp} (h1:OK m' (get E s) y) (h2:t=s->OK m' x y):OK m' (get (E++[(t,x)]) s) y:=by
 induction E with
 | nil =>
   simp only [List.nil_append,get]
   split
   ·rename_i hk;exact h2 (Nat.eq_of_beq_eq_true hk)
   ·trivial
 | cons q E ih =>
   simp only [List.cons_append,get] at h1 |-
   split
   ·rename_i hk;rw [hk] at h1;exact h1
   ·rename_i hk;rw [hk] at h1;exact ih h1
theorem qzE {mb:List (Nat × Nat)}:∀ {n:Nat},qwa mb n=true->∀ i,i<n->yR mb i=some i
 | 0,_,i,hi=>absurd hi (Nat.not_lt_zero _)
 | n+1,h,i,hi=>by
   rw [qwa,Bool.and_eq_true] at h
   by_cases he:i=n
   ·subst he
    have h:=h.1
    split at h
    ·rename_i j hj
     rw [hj,<- Nat.eq_of_beq_eq_true h]
    ·cases h
   ·exact qzE h.2 i (by omega)
theorem qeU.rel (hr:Rel N m E τ tm σ) {M:Mv} {m':Mp} (h:qeU m tm σ M m') (hp:qwa M.mb N.2=true):Rel N m' M.E ⟨M.bx,M.rw⟩ tm σ := by
 refine ⟨hr.len,h.env,h.rw,h.nb,h.box,?_,h.rows,?_,λ i hi=>?_⟩
 rotate_right
 ·have has:=qzE hp i hi
  obtain ⟨g1,g2⟩:=h.mb i i has
  exact ⟨g1,g2.trans (hr.pin i hi).2⟩
 ·intro b1 b2 h1 h2 he
  obtain ⟨c1,g1,g2,g3⟩:=h.src b1 h1
  obtain ⟨c2,k1,k2,k3⟩:=h.src b2 h2
  have:c1=c2:=hr.inj c1 c2 g3 k3 (by rw [<- g2,<- k2,he])
  subst this
  rw [g1] at k1
  exact Option.some.inj k1
 ·intro i1 i2 r h1 h2 e1 e2
  obtain ⟨c1,g1,g2,g3⟩:=h.rsrc i1 r h1 e1
  obtain ⟨c2,k1,k2,k3⟩:=h.rsrc i2 r h2 e2
  have:c1=c2:=hr.rinj c1 c2 r g3 k3 g2 k2
  subst this
  rw [g1] at k1
  exact Option.some.inj k1
theorem qCn (hr:Rel N m E τ tm σ):∀ (l:List (Tmp × Co)) {M:Mv} {m':Mp} {K:Env->TS->Option α} {r : α},mvE N.2 τ E l M K=some r->qeU m tm σ M m' ->
  ∃ E' τ' m'',K E' τ'=some r/\Rel N m'' E' τ' tm σ
 | [],M,m',K,r,h,hM=>by
   simp only [mvE] at h
   split at h<;>try cases h
   rename_i hp
   exact ⟨_,_,m',h,hM.rel hr hp⟩
 | (t,co)::l,M,m',K,r,h,hM=>by
   simp only [mvE] at h
   obtain ⟨x',M1,m1,q1,q2,q3,q4,q5⟩:=qBW hr co h (hr.env t) hM
   refine qCn hr l q1 (m':=m1) ?_
   refine ⟨q3.rw,q3.nb,q3.box,q3.src,q3.mb,q3.rows,q3.rsrc,q3.mr,λ s=>?_⟩
   exact qFP (q3.env s) λ he=>by subst he;exact q4
theorem qAg (hr:Rel N m E τ tm σ) {l:List (Tmp × Co)} {K:Env->TS->Option α} {r : α} (h:mvE N.2 τ E l ⟨[],[],[],[],[]⟩ K=some r):∃ E' τ' m'',K E' τ'=some r/\Rel N m'' E' τ' tm σ :=
 qCn hr l (m':=mp0) h
  ⟨rfl,rfl,λ b cs h=>by simp at h,λ b' h=>absurd h (Nat.not_lt_zero _),λ b b' h=>by simp [yR] at h,λ id R h=>(by cases h),λ id r h=>absurd h (Nat.not_lt_zero _),λ id id' h=>by simp [yR] at h,λ t=>trivial⟩
end
end Go.AmZ
namespace Go.AmZ
open Go Go.RowKit Go.GxZ
section
variable {α : Type} {N:Nat × Nat} {m:Mp} {E:Env} {τ : TS} {tm:List AV} {σ : St} {K:KT α} {r : α} {p:Option (AV × Option St)} {c:TC} {C:Cfg}
theorem qx4 {b:Builtin} {ts:Array TypeId} {xs:List TV} {ys:List AV} (hty:C.ty=c.ty) (hr:Rel N m E τ tm σ) (ho:OKL m xs ys) (h:qoM c τ b ts xs K=some r):Sim N m E τ tm σ K r (yu C σ b ts ys):=by
 unfold qoM at h
 split at h
 ·rename_i x
  obtain ⟨y,r',rfl,h1,h2⟩:=ho
  cases h2
  split at h<;>try cases h
  rename_i t ht
  split at h<;>try cases h
  rename_i d hd
  split at h<;>try cases h
  ·rename_i s hk
   cases h1
   refine .same hr h (y := .v (.int .i64 s.length)) ?_ rfl
   have:qjI ⟨s.toArray⟩=s.length:=by simp [qjI,ByteArray.size]
   simp only [yu,ht,hty,hd,qeS,hk,qg0,this]
  ·rename_i hk
   cases h1
   refine .same hr h (y := .v (.int .i64 0)) ?_ rfl
   simp only [yu,ht,hty,hd,qeS,hk,JQ]
   rfl
  ·rename_i a l lv hk
   refine .same hr h (y := .v (.int .i64 l.length)) ?_ rfl
   rcases yr h1.1 with ⟨rfl,hl⟩ | ⟨es,n,rfl,hl⟩
   ·rw [hl]
    simp only [yu,ht,hty,hd,qeS,hk,JQ]
    rfl
   ·have:=qF hl
    simp only [yu,ht,hty,hd,qeS,hk,JQ,Jx,this]
  ·rename_i id ver hk
   split at h<;>try cases h
   rename_i R hR
   split at h<;>try cases h
   rename_i hv
   obtain ⟨R',g1,_,_,g2⟩:=h1
   rw [hr.rw,hR] at g1;cases g1
   have hy:=g2 (Nat.eq_of_beq_eq_true hv)
   refine .same hr h (y := .v (.int .i64 R.l.length)) ?_ rfl
   rcases qe0 hr.rows (by rw [hr.rw];exact hR) hy with ⟨r,Q,_,rfl,_,_,_,_,g5,_⟩ | ⟨_,_,hd',_⟩
   ·simp only [yu,ht,hty,hd,qeS,hk,JQ]
    rw [qF g5]
   ·rcases yr hd' with ⟨rfl,hl⟩ | ⟨es,n,rfl,hl⟩
    ·rw [hl]
     simp only [yu,ht,hty,hd,qeS,hk,JQ]
     rfl
    ·have:=qF hl
     simp only [yu,ht,hty,hd,qeS,hk,JQ,Jx,this]
 ·rename_i s x
  obtain ⟨y,r1,rfl,h1,z,r2,rfl,h2,h3⟩:=ho
  cases h3
  split at h<;>try cases h
  rename_i t u ht hu
  split at h<;>try (cases h;done)
  ·rename_i k bytes zz _ _ _ _ _ _ _ _ a hd1 hd2 he
   split at h<;>try cases h
   rename_i hc
   simp only [Bool.and_eq_true,decide_eq_true_eq] at hc
   obtain ⟨⟨hk0,hz⟩,hk⟩:=hc
   split at h<;>try cases h
   rename_i xs hxs
   rw [<- hr.rw] at hxs
   obtain ⟨es,g1,g2,_⟩:=qju hr.rows hxs h2
   have:=qzl (bytes:=bytes) hr h1 g2 (by rw [<- hk];exact h)
   rw [<- hk] at g1 this
   have hu':uni k es=true:=by rw [hk];exact qv0 g2
   have e:yu C σ .append ts [y,z]=zF k bytes σ y es:=by
    simp only [yu,ht,hu,hty,hd1,hd2,hk0,hz,decide_true,Bool.and_self,g1,hu']
   rw [e];exact this
  ·rename_i by' _ _ _ _ _ hd1 hd2 he
   split at h<;>try (cases h;done)
   rename_i s' hc
   cases h2
   have:=qzl (a := .int .u8) (σ := σ) (y:=y) (es:=qaa ⟨s'.toArray⟩) (xs:=qeo s') hr h1 (qtO s') h
   have e:yu C σ .append ts [y,.v (.string ⟨s'.toArray⟩)]=zF 1 by' σ y (qaa ⟨s'.toArray⟩):=by
    simp only [yu,ht,hu,hty,hd1,hd2,hc]
   rw [e];exact this
 ·obtain ⟨y,r1,rfl,h1,z,r2,rfl,h2,h3⟩:=ho
  cases h3;cases h1;cases h2
  split at h<;>try cases h
  rename_i hk
  exact .same hr h (by simp only [yu,hk]) rfl
 ·obtain ⟨y,r1,rfl,h1,z,r2,rfl,h2,h3⟩:=ho
  cases h3;cases h1;cases h2
  split at h<;>try cases h
  rename_i hk
  exact .same hr h (by simp only [yu,hk]) rfl
 ·cases h
theorem qGV {op:Op} (hr:Rel N m E τ tm σ) (h:opT c E τ op K=some r):Sim N m E τ tm σ K r (qfK c.pc tm σ op):=by
 unfold opT at h
 split at h
 ·exact qx4 (C:=c.pc.cfg) rfl hr (hr.evs _) h
 ·rename_i g args ts
  split at h<;>try cases h
  ·rename_i f hg
   have hv:=hr.ev g
   rw [hg] at hv
   obtain ⟨ds,hv,hd⟩:=hv
   cases hd
   have:=qDG hr (hr.evs args.toList) h
   have e:qfK c.pc tm σ (.call ⟨.value g,args,ts⟩)=qac c.pc f σ (args.toList.map (aev tm)):=by
    simp only [qfK,hv,List.append_nil]
   rw [e];exact this
  ·rename_i f x cs hg
   have hv:=hr.ev g
   rw [hg] at hv
   obtain ⟨ds,hv,hd⟩:=hv
   split at h<;>try cases h
   rename_i hh
   have:=qtA hr ((hr.evs args.toList).append hd) hh h
   have e:qfK c.pc tm σ (.call ⟨.value g,args,ts⟩)=qac c.pc f σ (args.toList.map (aev tm)++ds):=by
    simp only [qfK,hv]
   rw [e];exact this
 ·cases h
 ·rename_i n1 n2 n3
  have:=qEv (C:=c.pc.cfg) rfl hr h
  have e:qfK c.pc tm σ op=qb c.pc.cfg tm σ op:=by
   unfold qfK
   split
   ·exact absurd rfl (n1 _ _ _)
   ·exact absurd rfl (n2 _ _ _)
   ·exact absurd rfl (n3 _)
   ·rfl
  rw [e];exact this
theorem Rel.put (hr:Rel c.n2 m E τ tm σ) {d:Option Tmp} {x:TV} {y:AV} (ho:OK m x y) {K:Env->Option α} (h:qvG c E d x K=some r):∃ E',K E'=some r/\Rel c.n2 m E' τ (qaj tm d y) σ := by
 unfold qvG at h
 split at h
 ·exact ⟨E,h,hr⟩
 ·rename_i d
  split at h<;>try cases h
  rename_i hd
  have hd:d<c.nt:=Nat.lt_of_succ_le (by simpa [Nat.blt] using hd)
  refine ⟨_,h,?_⟩
  refine ⟨by show (tm.set d y).length=_;rw [List.length_set];exact hr.len,λ t=>?_,hr.rw,hr.nb,hr.box,hr.inj,hr.rows,hr.rinj,hr.pin⟩
  show OK m (get ((d,x)::E) t) ((tm.set d y).getD t .dead)
  have hdl:d<tm.length:=by rw [hr.len];exact hd
  simp only [get]
  split
  ·rename_i hk
   have hk:d=t:=Nat.eq_of_beq_eq_true hk
   subst hk
   rw [List.getD_eq_getElem?_getD,List.getElem?_set_self hdl]
   exact ho
  ·rename_i hk
   have hk:d≠t := λ he=>by rw [he] at hk;simp at hk
   have:=hr.env t
   rw [List.getD_eq_getElem?_getD,List.getElem?_set_ne hk,<- List.getD_eq_getElem?_getD]
   exact this
theorem Rel.know (hr:Rel N m E τ tm σ) {d:Nat} {x:TV} (h:OK m x (tm.getD d .dead)):Rel N m ((d,x)::E) τ tm σ := by
 refine ⟨hr.len,λ t=>?_,hr.rw,hr.nb,hr.box,hr.inj,hr.rows,hr.rinj,hr.pin⟩
 simp only [get]
 split
 ·rename_i hk
  have hk:d=t:=Nat.eq_of_beq_eq_true hk
  subst hk;exact h
 ·exact hr.env t
theorem qEB {ops:Array Oper} {o:Oper} {K:Bool->Env->Option α} (hr:Rel N m E τ tm σ) (h:qAd ops E o K=some r):∃ w E',ya ops tm o=some w/\K w E'=some r/\Rel N m E' τ tm σ := by
 unfold qAd at h
 unfold ya
 split at h
 ·rename_i hg
  exact ⟨true,E,by rw [hg],h,hr⟩
 ·rename_i j want hg
  rw [hg]
  simp only
  split at h<;>try cases h
  rename_i d hd
  rw [hd]
  simp only
  have hx:=hr.env d
  split at h<;>try cases h
  ·rename_i x hgx
   rw [hgx] at hx
   have hx:tm.getD d .dead = .v (.bool x):=hx
   rw [hx]
   cases want with
   | true =>
     cases x with
     | true=>exact ⟨true,_,rfl,h,hr.know hx⟩
     | false=>exact ⟨false,_,rfl,h,hr.know hx⟩
   | false =>
     cases x with
     | true=>exact ⟨false,_,rfl,h,hr.know hx⟩
     | false=>exact ⟨true,_,rfl,h,hr.know hx⟩
  ·rename_i hgx
   rw [hgx] at hx
   obtain ⟨ds,hx,hd⟩:=hx
   cases hd
   rw [hx]
   exact ⟨false,E,rfl,h,hr⟩
theorem qgD (hr:Rel N m E τ tm σ) {ops:Array Oper} {k:Nat} {t:Tmp} {b:Nat} (h:qkB E ops k t=some b):b<m.nb/\yt tm ops k t=some (m.b b):=by
 unfold qkB at h
 unfold yt
 split at h<;>try cases h
 rename_i u hu
 split at h<;>cases h
 rename_i o hg
 have:=hr.env u
 rw [hg] at this
 obtain ⟨h1,h2⟩:=this
 rw [hu]
 simp only
 rw [h2]
 exact ⟨h1,rfl⟩
theorem qFb (hr:Rel N m E τ tm σ) {ops:Array Oper} {k:Nat} {t:Tmp} (h:qEl E ops k t=true):qca tm ops k t=true/\yt tm ops k t=none:=by
 unfold qEl at h
 unfold qca yt
 split at h<;>try cases h
 rename_i u hu
 split at h<;>try cases h
 rename_i hg
 have:=hr.env u
 rw [hg] at this
 obtain ⟨R,_,_,_,hy,_⟩:=this
 rw [hu]
 rcases hy with ⟨r,j,ep,hy⟩ | ⟨ds,hy⟩<;>simp only [hy]<;>exact ⟨rfl,by trivial⟩
mutual
theorem qHo:∀ {x:TV} {y:AV} {l:List Nat},OK m x y->rbT x=some l->rb y=l.map m.b
 | .i ..,y,l,ho,h=>by cases h;cases ho;rfl
 | .b ..,y,l,ho,h=>by cases h;cases ho;rfl
 | .s ..,y,l,ho,h=>by cases h;cases ho;rfl
 | .c ..,y,l,ho,h=>by cases h;obtain ⟨_,rfl⟩:=ho;rfl
 | .nil,y,l,ho,h=>by cases h;cases ho;rfl
 | .sl ..,y,l,ho,h=>by cases h;rcases yr ho.1 with ⟨rfl,_⟩ | ⟨es,n,rfl,_⟩<;>rfl
 | .row ..,y,l,ho,h=>by
   cases h
   obtain ⟨R,_,_,ho,_⟩:=ho
   rcases ho with rfl | ⟨k,es,j,rfl⟩ | ⟨r,lo,n,ep,f,rfl⟩<;>rfl
 | .ptr b o,y,l,ho,h=>by cases h;obtain ⟨_,rfl⟩:=ho;rfl
 | .pti b i,y,l,ho,h=>by cases h;obtain ⟨_,_,rfl⟩:=ho;rfl
 | .rpt ..,y,l,ho,h=>by cases h;obtain ⟨R,_,_,_,ho,_⟩:=ho;rcases ho with ⟨r,i,ep,rfl⟩ | ⟨ds,rfl⟩<;>rfl
 | .ept ..,y,l,ho,h=>by cases h;obtain ⟨ds,rfl,_⟩:=ho;rfl
 | .fn f cs,y,l,ho,h=>by obtain ⟨ds,rfl,hd⟩:=ho;exact qgI hd h
 | .agg cs,y,l,ho,h=>by obtain ⟨ds,rfl,hd⟩:=ho;exact qgI hd h
 | .tup cs,y,l,ho,h=>by obtain ⟨ds,rfl,hd⟩:=ho;exact qgI hd h
 | .dead,y,l,ho,h=>by cases h
theorem qgI:∀ {xs:List TV} {ys:List AV} {l:List Nat},OKL m xs ys->qmk xs=some l->rbL ys=l.map m.b
 | [],ys,l,ho,h=>by cases h;cases ho;rfl
 | x::xs,ys,l,⟨y,r,e,h1,h2⟩,h=>by
   subst e
   simp only [qmk] at h
   split at h<;>cases h
   rename_i a b ha hb
   rw [rbL,qHo h1 ha,qgI h2 hb,List.map_append]
end
theorem qyG (rw:List Row) (x:AV):rb (qW rw x)=rb x:=by
 cases x<;>first | rfl | skip
 rename_i r lo n ep f
 simp only [qW]
 split
 ·split<;>rfl
 ·rfl
theorem qwp (rw:List Row):∀ l:List AV,rbL (l.map (qW rw))=rbL l
 | []=>rfl
 | x::l=>by rw [List.map_cons,rbL,rbL,qyG,qwp rw l]
theorem qGC (rw:List Row) (x:AV):rb (ju rw x)=rb x:=by
 unfold ju
 split
 ·exact qwp rw _
 ·exact qyG rw x
theorem qhA (rw:List Row):∀ l:List AV,rbL (l.map (ju rw))=rbL l
 | []=>rfl
 | x::l=>by rw [List.map_cons,rbL,rbL,qGC,qhA rw l]
theorem qhf:∀ {l seen:List Nat} {b:Nat},b∈qe seen l->b∈l
 | [],_,b,h=>by cases h
 | c::l,seen,b,h=>by
   rw [qe] at h
   split at h
   ·exact List.mem_cons_of_mem _ (qhf h)
   ·rcases List.mem_cons.1 h with rfl | h
    ·exact List.mem_cons_self ..
    ·exact List.mem_cons_of_mem _ (qhf h)
theorem qpd {args:List AV} (h:∀ b∈rbL args,rbL (σ.bx.getD b [])=[]) {b:Nat} (hb:b∈Qk σ args):b∈rbL args:=by
 have hf:(qe [] (rbL args)).flatMap (λ b=>rbL (σ.bx.getD b []))=[]:=List.flatMap_eq_nil_iff.2 λ c hc=>h c (qhf hc)
 unfold Qk at hb
 cases hn : σ.bx.length with
 | zero=>rw [hn] at hb;exact qhf hb
 | succ n=>rw [hn,qiV,hf] at hb;exact qhf hb
theorem qCJ (hr:Rel c.n2 m E τ tm σ) {ops:Array Oper} {j:Nat} {op:Op} (h:qqH ops j E τ op=true):qaI c.pc.cfg ops j tm σ op=true:=by
 unfold qqH at h
 unfold qaI
 rw [Bool.or_eq_true] at h |-
 refine h.imp id λ h=>?_
 rw [List.all_eq_true] at h |-
 intro p hp
 have:=h p hp
 obtain ⟨q,i⟩:=p
 simp only at this |-
 split
 ·rename_i t a hq
  rw [hq] at this
  simp only [Bool.or_eq_true] at this |-
  refine this.imp id λ hh=>?_
  split at hh
  ·rename_i y l hy hl
   rw [Bool.and_eq_true,List.all_eq_true] at hh
   obtain ⟨hym,hy'⟩:=qgD hr hy
   rw [hy']
   have hylt:m.b y < σ.bx.length:=by
    obtain ⟨ds,d1,_⟩:=hr.box y _ (List.getElem?_eq_getElem (by rw [<- hr.nb];exact hym))
    exact getElem?_lt d1
   simp only [Bool.and_eq_true,decide_eq_true_eq,Bool.not_eq_true']
   refine ⟨hylt,?_⟩
   rw [<- Bool.not_eq_true,List.contains_iff_mem]
   intro hm
   unfold qCt at hl
   split at hl<;>try cases hl
   rename_i g az ts _
   split at hl<;>try cases hl
   rename_i f cs hg
   split at hl<;>try cases hl
   rename_i l' hl'
   split at hl<;>cases hl
   rename_i hall
   rw [List.all_eq_true] at hall
   have hfn:=hr.ev g
   rw [hg] at hfn
   obtain ⟨caps,hfn,hcaps⟩:=hfn
   have hrb:=qgI ((hr.evs az.toList).append hcaps) hl'
   have hcell:∀ b∈rbL (az.toList.map (aev tm)++caps),rbL (σ.bx.getD b [])=[]:=by
    intro b hb
    rw [hrb] at hb
    obtain ⟨b0,hb0,rfl⟩:=List.mem_map.1 hb
    have:=hall b0 hb0
    unfold qEr at this
    split at this<;>try cases this
    rename_i cs' hcs
    split at this<;>try cases this
    rename_i hnil
    obtain ⟨ds,d1,d2⟩:=hr.box b0 cs' hcs
    rw [zC d1,qgI d2 hnil];rfl
   have hmem:m.b y∈rbL (az.toList.map (aev tm)++caps):=by
    simp only [qrG,qgM,hfn] at hm
    split at hm
    ·rename_i args he
     unfold qfj at he
     split at he
     ·cases he;exact qpd hcell hm
     ·split at he<;>cases he
      have:=qpd (λ b hb=>by rw [qhA] at hb;exact hcell b hb) hm
      rw [qhA] at this
      exact this
    ·rename_i args σ1 he
     unfold qfj at he
     split at he
     ·cases he
     ·split at he<;>cases he
      have:=qpd (λ b hb=>by rw [qhA] at hb;exact hcell b hb) hm
      rw [qhA] at this
      exact this
   rw [hrb] at hmem
   obtain ⟨b0,hb0,he⟩:=List.mem_map.1 hmem
   have hne:=hh.2 b0 hb0
   have hb0m:b0<m.nb:=by
    have:=hall b0 hb0
    unfold qEr at this
    split at this<;>try cases this
    rename_i cs' hcs
    rw [hr.nb];exact getElem?_lt hcs
   have:=hr.inj b0 y hb0m hym he
   subst this
   simp at hne
  ·cases hh
 ·rfl
theorem qEj (hr:Rel c.n2 m E τ tm σ) {ops:Array Oper} {draw:Bool} {j:Nat} {op:Op} (h:(draw && !(zK c.loT op&&qqH ops j E τ op))=false):(draw && !(zK c.pc.cfg.lo op&&qaI c.pc.cfg ops j tm σ op))=false:=by
 cases draw with
 | false=>rfl
 | true =>
   rw [Bool.true_and,Bool.not_eq_false',Bool.and_eq_true] at h |-
   exact ⟨by rw [TC.lo_eq];exact h.1,qCJ hr h.2⟩
variable {Q:Ex->S->Prop} {k:List It}
theorem qby {ops:Array Oper} {draw:Bool}:∀ {l:List Oper} {m:Mp} {E:Env} {τ : TS} {tm:List AV} {σ : St} {Kf:Env->TS->Option α},qgS c ops draw l E τ Kf=some r->Rel c.n2 m E τ tm σ ->
  (∀ m E τ tm σ,Kf E τ = some r->Rel c.n2 m E τ tm σ -> Go c.pc Q k .normal ⟨tm,σ⟩)->Go c.pc Q (.ops ops draw l::k) .normal ⟨tm,σ⟩
 | [],m,E,τ,tm,σ,Kf,h,hr,hK=>by
   rw [qAL]
   exact hK m E τ tm σ h hr
 | o::rest,m,E,τ,tm,σ,Kf,h,hr,hK=>by
   simp only [qgS] at h
   rw [qHX]
   obtain ⟨w,E',hw,h,hr⟩:=qEB hr h
   rw [hw]
   cases w with
   | true =>
     rw [qBu]
     simp only at h
     have hr0:=hr
     obtain ⟨x,τ',y,σ',m',h,hp,hle,hr',ho,hs⟩:=qGV hr h
     rw [hp]
     cases τ' with
     | none =>
       rw [hs rfl] at hr' |-
       rw [qzs]
       obtain ⟨E2,h,hr2⟩:=hr'.put ho h
       exact qby h hr2 hK
     | some τ' =>
       simp only at h
       split at h<;>try cases h
       rename_i hd
       obtain ⟨E2,h,hr2⟩:=Rel.put (τ := τ') hr' ho h
       cases σ' with
       | none =>
         rw [qzs]
         exact qby h hr2 hK
       | some σ' =>
         rw [qF6]
         exact ⟨qEj hr0 hd,qby h hr2 hK⟩
   | false =>
     rw [qAC]
     simp only at h
     obtain ⟨E2,h,hr2⟩:=hr.put (x := .tup []) (y:=qgU) ⟨[],rfl,rfl⟩ h
     exact qby h hr2 hK
variable {fin:Env->TS->Option α} {L:List It->Env->TS->Option α} {Qr : α -> Ex->S->Prop}
def qvA (c:TC) (fin:Env->TS->Option α) (Qr : α -> Ex->S->Prop):Prop:=∀ E τ r m tm σ,fin E τ = some r->Rel c.n2 m E τ tm σ -> ∀ e,e = .ret\/e = .normal->Qr r e ⟨tm,σ⟩
def LOK (c:TC) (L:List It->Env->TS->Option α) (Qr : α -> Ex->S->Prop):Prop:=∀ st E τ r m tm σ,L st E τ = some r->Rel c.n2 m E τ tm σ -> Go c.pc (Qr r) st .normal ⟨tm,σ⟩
theorem qrE (hr:Rel N m E τ tm σ) {ops:Array Oper} {j i:Nat} {o q:Oper} (h:qnk E ops j o i q=true):qfu tm ops j o i q=true:=by
 unfold qnk at h
 unfold qfu
 split at h
 case h_4=>cases h
 case h_3 =>
  rename_i h1 h2
  simp only [h1,h2]
  cases hb:qkB E ops i _ with
  | none=>rw [hb] at h;cases h
  | some b=>rw [(qgD hr hb).2];rfl
 case h_2 =>
  rename_i h1 h2
  simp only [h1,h2]
  cases hb:qkB E ops i _ with
  | none=>rw [hb] at h;cases h
  | some b=>rw [(qgD hr hb).2];rfl
 rename_i h1 h2
 split at h
 case h_3=>cases h
 case h_2 =>
  rename_i x hx _
  obtain ⟨a1,a2⟩:=qgD hr hx
  obtain ⟨b1,b2⟩:=qFb hr h
  simp only [h1,h2,a2,b2]
  exact b1
 rename_i x y hx hy
 obtain ⟨a1,a2⟩:=qgD hr hx
 obtain ⟨b1,b2⟩:=qgD hr hy
 simp only [h1,h2,a2,b2]
 have hne:x≠y := λ he=>by rw [he] at h;simp at h
 have:m.b x≠m.b y := λ he=>hne (hr.inj x y a1 b1 he)
 have hb:Nat.beq (m.b x) (m.b y)=false:=by
  cases hb:Nat.beq (m.b x) (m.b y) with
  | true=>exact absurd (Nat.eq_of_beq_eq_true hb) this
  | false=>rfl
 rw [hb];rfl
theorem qki (hr:Rel N m E τ tm σ) {ops:Array Oper} {d:Bool} {raw:Nat->Bool} (h:qnf raw E ops d=true):JZ raw tm ops d=true:=by
 cases d with
 | false=>rfl
 | true =>
   show J1 raw tm ops=true
   simp only [qnf,List.all_eq_true,Bool.and_eq_true,decide_eq_true_eq,Bool.or_eq_true,Bool.not_eq_true'] at h
   simp only [J1,List.all_eq_true,Bool.and_eq_true,decide_eq_true_eq,Bool.or_eq_true,Bool.not_eq_true']
   intro p hp
   obtain ⟨g1,g2⟩:=h p hp
   refine ⟨g1,λ q hq=>?_⟩
   rcases g2 q hq with (g | g) | g
   ·exact .inl (.inl g)
   ·refine .inl (.inr ?_)
    unfold qFu at g
    unfold qfL
    rw [Bool.or_eq_false_iff] at g |-
    refine ⟨g.1,?_⟩
    rw [Bool.and_eq_false_iff] at *
    rcases g.2 with g | g
    ·exact .inl g
    ·right
     simp only [Bool.not_eq_false',Bool.or_eq_true] at g
     unfold qfH
     simp only [Bool.not_eq_false',Bool.or_eq_true]
     exact g.imp (qrE hr) (qrE hr)
   ·exact .inr g
theorem qFM (hr:Rel N m E τ tm σ) {t:Nat} (h:qDs (get E t)=true):qsZ (tm.getD t .dead)=true:=by
 have ho:=hr.env t
 cases hx:get E t<;>rw [hx] at h ho<;>first | (cases h;done) | skip
 rw [show tm.getD t .dead=_ from ho.2];rfl
theorem qGA (hr:Rel N m E τ tm σ) {ops:Array Oper} {t:Nat} (h:(qDs (get E t)&&qAh E ops)=true):qpk tm ops t=true:=by
 rw [Bool.and_eq_true] at h
 unfold qpk
 rw [qFM hr h.1,Bool.true_and]
 have h2:=h.2
 unfold qAh at h2
 unfold qAt
 split at h2
 case h_2=>cases h2
 rename_i p l hp
 rw [hp]
 simp only
 split at h2
 case h_2=>cases h2
 rename_i a u b hop
 have ho:=hr.ev u
 rw [hop]
 simp only
 cases hx:evT E u<;>rw [hx] at h2 ho<;>first | (cases h2;done) | skip
 ·rcases yr ho.1 with ⟨hy,_⟩ | ⟨es,n,hy,_⟩<;>rw [hy]<;>rfl
 ·obtain ⟨R,_,_,hy,_⟩:=ho
  rcases hy with hy | ⟨k,es,j,hy⟩ | ⟨r,lo,n,ep,f,hy⟩<;>rw [hy]<;>rfl
theorem qzF (hr:Rel N m E τ tm σ) {x:Operand} {b:Bool} (h:evT E x = .b b) {b':Bool} (hb:b=b'):Rel N m (qAa E x b') τ tm σ := by
 subst hb
 unfold qAa
 split
 ·rename_i t
  refine hr.know ?_
  have:=hr.env t
  have h:get E t = .b b:=h
  rw [h] at this;exact this
 ·exact hr
theorem qy1 (hr:Rel N m E τ tm σ) (t:Nat) {x':TV} (hx:rsA (tm.getD t .dead)=[]->OK (shM m) x' (tm.getD t .dead)) (hp:rsA (tm.getD t .dead)≠[]->OK (shM m) x' (ju σ.rw (tm.getD t .dead))) :
  Rel N (shM m) ((t,x')::E) (shA τ) (qaD ⟨tm,σ⟩ t).tm (qaD ⟨tm,σ⟩ t).σ := by
 unfold qaD
 cases hrs:rsA (tm.getD t .dead) with
 | nil =>
   simp only [hrs]
   exact (hr.share rfl hr.rows.sh).know (hx hrs)
 | cons q l =>
   simp only [hrs]
   have hp:=hp (by rw [hrs];intro h;cases h)
   have h1:=hr.share (σ':={ σ with rw:=frz σ.rw (q::l),wrr:=(q::l) ++ σ.wrr }) rfl (hr.rows.frz _ _)
   have hlt:t<tm.length:=by
    apply Nat.lt_of_not_le
    intro hle
    rw [List.getD_eq_getElem?_getD,List.getElem?_eq_none hle] at hrs
    cases hrs
   refine ⟨by rw [List.length_set];exact h1.len,λ u=>?_,h1.rw,h1.nb,h1.box,h1.inj,h1.rows,h1.rinj,h1.pin⟩
   simp only [get]
   split
   ·rename_i hk
    have hk:t=u:=Nat.eq_of_beq_eq_true hk
    subst hk
    rw [List.getD_eq_getElem?_getD,List.getElem?_set_self hlt]
    exact hp
   ·rename_i hk
    have hk:t≠u := λ he=>by rw [he] at hk;simp at hk
    rw [List.getD_eq_getElem?_getD,List.getElem?_set_ne hk,<- List.getD_eq_getElem?_getD]
    exact h1.env u
theorem qBn {t:Nat} (h:rsA (tm.getD t .dead)=[]):qaD ⟨tm,σ⟩ t=⟨tm,σ⟩:=by
 unfold qaD
 simp only [h]
theorem qDd (hr:Rel N m E τ tm σ) {t:Nat} {a:Ty} {K:Env->TS->Option α} (h:qz1 E τ t a K=some r) :
  ∃ E' τ' m',K E' τ'=some r/\Rel N m' E' τ' (qaD ⟨tm,σ⟩ t).tm (qaD ⟨tm,σ⟩ t).σ := by
 have ho:=hr.env t
 unfold qz1 at h
 have same:rsA (tm.getD t .dead)=[]->K E τ = some r->∃ E' τ' m',K E' τ'=some r/\Rel N m' E' τ' (qaD ⟨tm,σ⟩ t).tm (qaD ⟨tm,σ⟩ t).σ := λ h1 h2=>by
  rw [qBn h1]
  exact ⟨E,τ,m,h2,hr⟩
 split at h
 ·rename_i he
  rw [he] at ho
  exact same (by rw [show tm.getD t .dead=_ from ho];rfl) h
 ·rename_i he
  rw [he] at ho
  exact same (by rw [show tm.getD t .dead=_ from ho];rfl) h
 ·rename_i he
  rw [he] at ho
  exact same (by rw [show tm.getD t .dead=_ from ho];rfl) h
 ·rename_i he
  rw [he] at ho
  exact same (by rw [show tm.getD t .dead=_ from ho.2];rfl) h
 ·rename_i he
  rw [he] at ho
  exact same (by rw [show tm.getD t .dead=_ from ho];rfl) h
 ·rename_i he
  rw [he] at ho
  refine same ?_ h
  rcases yr ho.1 with ⟨h1,_⟩ | ⟨es,n,h1,_⟩<;>(rw [h1];rfl)
 ·rename_i id ver he
  rw [he] at ho
  split at h<;>try cases h
  rename_i R hR
  split at h<;>try cases h
  rename_i hv
  have hv':R.ver=ver:=Nat.eq_of_beq_eq_true hv
  split at h<;>try cases h
  rename_i l hl
  have hL:qhU m.rw a (.row id ver)=some l:=by
   unfold qhU
   rw [hr.rw]
   simp only [hR,hv]
   exact hl
  obtain ⟨es,g1,g2,g3⟩:=qju hr.rows hL ho
  obtain ⟨e,rfl⟩:=yE hl
  subst e
  have e1:∀ y:AV,(∀ cs,y ≠ .agg cs)->ju σ.rw y=qW σ.rw y := λ y hy=>by cases y<;>first | rfl | exact absurd rfl (hy _)
  obtain ⟨R',k1,_,ki,k3⟩:=ho
  have hna:∀ cs,tm.getD t .dead ≠ .agg cs:=by
   intro cs hc
   rw [hc] at ki
   rcases ki with h | ⟨_,_,_,h⟩ | ⟨_,_,_,_,_,h⟩<;>cases h
  refine ⟨_,_,_,h,qy1 hr t (λ hn=>?_) λ _=>?_⟩
  ·have hk:=k3 (by rw [hr.rw,hR] at k1;cases k1;exact hv')
   have hd:∃ y,y=tm.getD t .dead:=⟨_,rfl⟩
   obtain ⟨y,hy⟩:=hd
   rw [<- hy] at hk hn |-
   rw [hr.rw,hR] at k1;cases k1
   revert hk
   unfold QM
   cases m.r id with
   | none=>intro hk;exact ⟨hk.1,Nat.le_trans (by decide) hk.2⟩
   | some q=>intro hk;rw [hk] at hn;cases hn
  ·rw [e1 _ hna]
   exact ⟨g3,qit g3⟩
 ·rename_i he
  refine ⟨_,_,shM m,h,?_⟩
  have:=qy1 hr t (x' := .dead) (λ _=>trivial) λ _=>trivial
  refine ⟨this.len,λ u=>?_,this.rw,this.nb,this.box,this.inj,this.rows,this.rinj,this.pin⟩
  by_cases hu:t=u
  ·subst hu;rw [he];trivial
  ·have h2:=this.env u
   simp only [get] at h2
   rw [show Nat.beq t u=false from by
    cases hb:Nat.beq t u with
    | true=>exact absurd (Nat.eq_of_beq_eq_true hb) hu
    | false=>rfl] at h2
   exact h2
 ·cases h
theorem qnA:∀ (l:List (Tmp × Co)) {m:Mp} {E:Env} {τ : TS} {tm:List AV} {σ : St} {K:Env->TS->Option α} {r : α},Rel N m E τ tm σ -> qpS l E τ K=some r ->
  ∃ E' τ' m',K E' τ'=some r/\Rel N m' E' τ' (qbF (qdx l) ⟨tm,σ⟩).tm (qbF (qdx l) ⟨tm,σ⟩).σ
 | [],m,E,τ,tm,σ,K,r,hr,h=>⟨E,τ,m,h,hr⟩
 | (t,co)::l,m,E,τ,tm,σ,K,r,hr,h=>by
   cases co with
   | plist a =>
     rw [qpS] at h
     obtain ⟨E1,τ1,m1,h1,hr1⟩:=qDd hr h
     exact qnA l hr1 h1
   | _=>simp only [qpS] at h;exact qnA l hr h
theorem qsy (hf:qvA c fin Qr) (hL:LOK c L Qr):∀ (n:Nat) {st:List It} {e:Ex} {E:Env} {τ : TS} {r : α} {m:Mp} {tm:List AV} {σ : St},QI c fin L n st e E τ = some r->Rel c.n2 m E τ tm σ -> Go c.pc (Qr r) st e ⟨tm,σ⟩:=by
 intro n
 induction n with
 | zero=>intro st e E τ r m tm σ h hr;simp [QI] at h
 | succ n ih =>
   intro st e E τ r m tm σ h hr
   cases st with
   | nil =>
     simp only [QI] at h
     rw [qH7]
     cases e with
     | exit i=>cases h
     | normal=>exact hf E τ r m tm σ h hr _ (.inr rfl)
     | ret=>exact hf E τ r m tm σ h hr _ (.inl rfl)
   | cons it k =>
     cases it with
     | ops os d l=>simp [QI] at h
     | blk id =>
       simp only [QI] at h
       cases e with
       | exit i =>
         simp only at h
         rw [qx7]
         split at h
         ·rename_i hi
          have hi:i=id:=Nat.eq_of_beq_eq_true hi
          rw [if_pos hi]
          split at h
          ·obtain ⟨E',τ',m',h,hr'⟩:=qAg hr h
           exact hL k E' τ' r m' tm σ h hr'
          ·exact ih h hr
         ·rename_i hi
          have hi:i≠id := λ he=>by rw [he] at hi;simp at hi
          rw [if_neg hi]
          exact ih h hr
       | normal =>
         simp only at h
         rw [quS]
         split at h
         ·obtain ⟨E',τ',m',h,hr'⟩:=qAg hr h
          exact hL k E' τ' r m' tm σ h hr'
         ·exact ih h hr
       | ret=>rw [qA0];simp only at h;exact ih h hr
     | code cd =>
       cases e with
       | exit i=>simp only [QI] at h;rw [qwg];exact ih h hr
       | ret=>simp only [QI] at h;rw [qye];exact ih h hr
       | normal =>
         simp only [QI] at h
         cases cd with
         | skip=>rw [qD4];exact ih h hr
         | label l=>rw [qCZ];exact ih h hr
         | region id ops d =>
           obtain ⟨l⟩:=ops
           simp only at h
           split at h
           ·rename_i hsp
            split at h<;>try cases h
            rename_i hg
            rw [Bool.and_eq_true] at hg
            have hg2:=(Bool.and_eq_true _ _).mp hg.2
            refine qAT id l d hsp (by rw [TC.lo_eq];exact hg.1) (by rw [TC.lo_eq];exact qki hr hg2.1) (by rw [TC.lo_eq];exact qki hr hg2.2) ?_
            rw [TC.lo_eq]
            exact qby h hr λ m E τ tm σ h hr=>qby h hr λ m E τ tm σ h hr=>qby h hr λ m E τ tm σ h hr=>ih h hr
           ·rename_i hsp
            split at h
            ·rename_i p htw
             split at h<;>try cases h
             rename_i hg
             refine qAA id l d hsp htw (by rw [TC.lo_eq];exact qki hr hg) ?_
             refine qby h hr λ m E τ tm σ h hr=>?_
             split at h<;>try cases h
             rename_i hp
             exact ⟨qGA hr hp,qby h hr λ m E τ tm σ h hr=>ih h hr⟩
            ·rename_i htw
             rw [qA9 _ _ _ hsp htw]
             split at h<;>try cases h
             rename_i hg
             exact ⟨by rw [TC.lo_eq];exact qki hr hg,qby h hr λ m E τ tm σ h hr=>ih h hr⟩
         | seq a b=>rw [qGX];exact ih h hr
         | cond x a b =>
           simp only at h
           rw [qF9]
           split at h<;>try cases h
           rename_i y hy
           have hv:=hr.ev x
           rw [hy] at hv
           have hv:aev tm x = .v (.bool y):=hv
           rw [hv]
           cases y with
           | true=>rw [qCk];exact ih h (qzF hr hy rfl)
           | false=>rw [qAI];exact ih h (qzF hr hy rfl)
         | block id b=>rw [qES];exact ih h hr
         | loop b =>
           simp only at h
           split at h<;>try cases h
           rename_i l hl
           obtain ⟨E1,τ1,m1,h,hr1⟩:=qnA l hr h
           obtain ⟨E',τ',m',h,hr'⟩:=qAg hr1 h
           rw [<- qH2,show c.pc.pur b=qdx l from by show c.pur b=_;unfold TC.pur;rw [hl]]
           exact hL _ E' τ' r m' _ _ h hr'
         | exit id=>rw [qGk];exact ih h hr
         | ret=>rw [qF0];exact ih h hr
         | _=>simp only at h;cases h
theorem qCr (hf:qvA c fin Qr) (hL:LOK c L Qr) (n:Nat):LOK c (λ st E τ => qvP c fin L n st E τ) Qr:=by
 intro st E τ r m tm σ h hr
 simp only [qvP] at h
 split at h
 ·rename_i b k
  rw [qr1]
  split at h
  ·rename_i l hl
   obtain ⟨E1,τ1,m1,h,hr1⟩:=qnA l hr h
   rw [show c.pc.pur b=qdx l from by show c.pur b=_;unfold TC.pur;rw [hl]]
   exact qsy hf hL n h hr1
  ·rename_i hl
   rw [show c.pc.pur b=[] from by show c.pur b=_;unfold TC.pur;rw [hl]]
   exact qsy hf hL n h hr
 ·exact qsy hf hL n h hr
theorem qpK (hf:qvA c fin Qr) (n:Nat):∀ k,LOK c (qkR c fin n k) Qr
 | 0 => λ st E τ r m tm σ h=>by simp [qkR] at h
 | k+1=>by
   intro st E τ r m tm σ h hr
   exact qCr hf (qpK hf n k) n st E τ r m tm σ h hr
theorem qdN (hr:Rel c.n2 m E τ tm σ) {rv:ResultVar} {x:TV} (h:qiP c E τ rv=some x):∃ y,qgL c.pc.cfg tm σ rv=some y/\OK m x y:=by
 cases rv with
 | tmp t=>cases h;exact ⟨_,rfl,hr.env t⟩
 | cell a t =>
   simp only [qiP] at h
   split at h<;>try cases h
   rename_i d b o hd ha
   have hv:=hr.env a
   rw [ha] at hv
   obtain ⟨hb,hv⟩:=hv
   split at h<;>try cases h
   rename_i cs hcs
   obtain ⟨ds,g1,g2⟩:=hr.box b cs hcs
   obtain ⟨y,g3,g4⟩:=qdv g2 h
   refine ⟨y,?_,g4⟩
   have e:c.pc.cfg.ty t=some d:=hd
   simp only [qgL,e,hv,Qo,g1,g3]
theorem qGK {y:AV}:qo8 0 σ.rw y=qW σ.rw y:=by
 cases y<;>rfl
theorem qzb (y:AV) (h:∀ vs,y ≠ .tup vs):qfS 0 σ.rw y=ju σ.rw y:=by
 cases y with
 | agg cs =>
   show AV.agg (cs.map (qo8 0 σ.rw)) = .agg (cs.map (qW σ.rw))
   rw [List.map_congr_left λ x _=>qGK]
 | _=>rfl
theorem qnB {a:Ty} {y:AV} {v:Val a} (h:jM a y=some v):Sub y (yi a v):=by
 unfold jM at h
 split at h
 case h_2=>cases h
 rename_i hb
 have hb:a.agg=qbt y:=by simpa [qd2] using hb
 obtain ⟨pre,h1,_,h3,h4,_⟩:=ye a (zD.1 h)
 rw [List.append_nil] at h1
 rw [<- h1] at h4
 have agg:∀ e:List AV,a.agg=true->jC (cellsOf y) e->Sub y (.agg e):=by
  intro e ha hs
  rw [hb] at ha
  cases y with
  | agg cs=>exact qEp hs
  | _=>cases ha
 have one:∀ e:AV,a.agg=false->jC (cellsOf y) [e]->Sub y e:=by
  intro e ha hs
  rw [hb] at ha
  have:cellsOf y=[y]:=by cases y<;>first | rfl | (cases ha)
  rw [this] at hs
  cases hs with
  | cons h _=>exact h
 cases a with
 | int k=>exact one _ rfl h4
 | bool=>exact one _ rfl h4
 | str=>exact one _ rfl h4
 | list a=>exact one _ rfl h4
 | term=>exact agg _ rfl h4
 | pair a b=>exact agg _ rfl h4
 | one a=>exact agg _ rfl h4
theorem qzo (hr:Rel c.n2 m E τ tm σ) {a:Ty} {rv:ResultVar} {x:TV} {v:Val a} (h1:qiP c E τ rv=some x) (h2:qdo τ.rw a x=some v):∃ y,qgL c.pc.cfg tm σ rv=some y/\(∀ vs,y ≠ .tup vs)/\jP (qfS 0 σ.rw y)=true/\Sub (qfS 0 σ.rw y) (yi a v):=by
 obtain ⟨y,g1,g2⟩:=qdN hr h1
 rw [<- hr.rw] at h2
 obtain ⟨g3,_⟩:=qgK hr.rows h2 g2
 have ht:∀ vs,y ≠ .tup vs:=by
  rintro vs rfl
  have:=(qaM g3).1
  unfold jM at g3
  split at g3
  ·obtain ⟨pre,p1,_,p3,_⟩:=ye a (zD.1 g3)
   rw [List.append_nil] at p1
   have:=p3 (.tup vs) (by rw [<- p1];exact List.mem_singleton.2 rfl)
   cases this
  ·cases g3
 refine ⟨y,g1,ht,?_,?_⟩
 ·rw [qzb y ht];exact (qaM g3).1
 ·rw [qzb y ht];exact qnB g3
theorem qzj (hr:Rel c.n2 m E τ tm σ):∀ {ts:List Ty} {rs:List ResultVar} {v:qb5 ts},qfO c ts rs E τ = some v ->
  ∃ l,yZ c.pc.cfg tm σ rs=some l/\(∀ y∈l,∀ vs,y≠AV.tup vs)/\noRefs (l.map (qfS 0 σ.rw))=true/\jC (l.map (qfS 0 σ.rw)) (Ja ts v)
 | [],rs,v,h=>by
   cases rs with
   | nil=>exact ⟨[],rfl,by simp,rfl,.nil⟩
   | cons a l=>simp only [qfO] at h;cases h
 | [a],rs,v,h=>by
   cases rs with
   | nil=>simp only [qfO] at h;cases h
   | cons rv rs =>
     cases rs with
     | cons _ _=>simp only [qfO] at h;cases h
     | nil =>
       simp only [qfO] at h
       split at h<;>try cases h
       rename_i x hx
       obtain ⟨y,g1,g2,g3,g4⟩:=qzo hr hx h
       refine ⟨[y],by simp only [yZ,g1],by simpa using g2,?_,.cons g4 .nil⟩
       show (jP _&&true)=true
       rw [g3];rfl
 | a::b::ts,rs,v,h=>by
   cases rs with
   | nil=>simp only [qfO] at h;cases h
   | cons rv rs =>
     simp only [qfO] at h
     split at h<;>try cases h
     rename_i x hx
     split at h<;>try cases h
     rename_i w hw
     split at h<;>cases h
     rename_i ws hws
     obtain ⟨y,g1,g2,g3,g4⟩:=qzo hr hx hw
     obtain ⟨l,k1,k2,k3,k4⟩:=qzj hr hws
     refine ⟨y::l,by simp only [yZ,g1,k1],?_,?_,.cons g4 k4⟩
     ·intro z hz
      rcases List.mem_cons.1 hz with rfl | hz
      ·exact g2
      ·exact k2 z hz
     ·rw [List.map_cons]
      unfold noRefs at k3 |-
      rw [List.all_cons,g3,k3];rfl
theorem qFQ {x:AV} (h:jP x=true):refs 0 0 x=false:=by
 obtain ⟨h1,h2⟩:=qcK h
 unfold refs
 rw [h1,h2];rfl
theorem qGJ {ts:List Ty} {rs:List ResultVar}:qvA c (qfO c ts rs) (λ v=>Ret c.pc rs λ z=>Sub z (zw (Ja ts v))):=by
 intro E τ v m tm σ h hr e he
 refine ⟨he,?_⟩
 obtain ⟨l,g1,g2,g3,g4⟩:=qzj hr h
 rw [g1]
 show refs 0 0 (qeY 0 σ.rw (zw l))=false/\Sub (qeY 0 σ.rw (zw l)) (zw (Ja ts v))
 have hlen:l.length=(Ja ts v).length:=by rw [<- g4.len,List.length_map]
 have key:qeY 0 σ.rw (zw l)=zw (l.map (qfS 0 σ.rw)):=by
  match l,g2 with
  | [],_=>rfl
  | [y],g2 =>
    have:=g2 y (List.mem_singleton.2 rfl)
    show qeY 0 σ.rw y=qfS 0 σ.rw y
    cases y<;>first | rfl | exact absurd rfl (this _)
  | y::z::l,_=>rfl
 rw [key]
 constructor
 ·apply qFQ
  match l,g3 with
  | [],_=>rfl
  | [y],g3 =>
    show jP (qfS 0 σ.rw y)=true
    simpa [noRefs] using g3
  | y::z::l,g3=>exact qtw g3
 ·match l,Ja ts v,g4 with
  | [],[],_=>exact .refl _
  | [y],[z],.cons h _=>exact h
  | y::y'::l,z::z'::k,h=>exact h.tup
theorem qwn {m:Mp}:∀ (n:Nat) {xs:List TV} {ys:List AV} {pre:List AV} {post:List AV},OKL m xs ys->pre.length=n->∀ t,OK m (get (qdW n xs) t) ((pre++(ys++post)).getD t .dead)
 | n,[],ys,pre,post,h,hn,t=>trivial
 | n,x::xs,ys,pre,post,⟨y,r,he,h1,h2⟩,hn,t=>by
   subst he
   simp only [qdW,get]
   split
   ·rename_i hk
    have hk:n=t:=Nat.eq_of_beq_eq_true hk
    subst hk
    rw [List.getD_eq_getElem?_getD,List.getElem?_append_right (by omega),hn,Nat.sub_self]
    exact h1
   ·have:=qwn (m:=m) (n+1) (pre:=pre++[y]) (post:=post) h2 (by simp [hn]) t
    simpa using this
theorem qIe {ts:List Ty} {fn:Func} {cd:Code} (hc:fn.body=some cd) {n k:Nat} {xs:List TV} {ys:List AV} {v:qb5 ts} (hnt:c.nt=fn.ntmps) (hnp:c.np=0) (hle:ys.length<=fn.ntmps) (ho:OKL mp0 xs ys)
  (h:qkR c (qfO c ts fn.results.toList) n k [.code cd] (qdW 0 xs) ⟨[],[]⟩=some v):GoB c.pc (λ z=>Sub z (zw (Ja ts v))) fn ys:=by
 unfold GoB
 rw [hc]
 have hr:Rel c.n2 mp0 (qdW 0 xs) ⟨[],[]⟩ (ys++List.replicate (fn.ntmps-ys.length) .dead) emp:=by
  refine ⟨by show _=c.nt;rw [List.length_append,List.length_replicate,hnt];omega,λ t=>?_,rfl,rfl,λ b cs h=>by simp at h,λ b b' h=>absurd h (Nat.not_lt_zero _),λ id R h=>(by cases h),λ id id' r h=>absurd h (Nat.not_lt_zero _),λ i hi=>absurd hi (by show ¬ i<c.np;rw [hnp];exact Nat.not_lt_zero _)⟩
  have:=qwn (m:=mp0) 0 (pre:=[]) (post:=List.replicate (fn.ntmps-ys.length) .dead) ho rfl t
  simpa using this
 exact qpK qGJ n k _ _ _ _ _ _ _ h hr
end
end Go.AmZ
namespace Go.AmZ
open Go Go.RowKit Go.GxZ
section
variable {α : Type} {m:Mp} {E:Env} {τ : TS} {tm:List AV} {σ : St} {c:TC}
theorem qCh {a:Ty} {y:AV} {v:Val a} (h:jM a y=some v):OK m (qph a v) y:=by
 unfold jM at h
 split at h
 case h_2=>cases h
 rename_i hb
 have hb:a.agg=qbt y:=by simpa [qd2] using hb
 have hc:OKL m (j8 a v) (cellsOf y):=jz h
 have agg:a.agg=true->∃ ds,y = .agg ds/\OKL m (j8 a v) ds:=by
  intro ha
  rw [hb] at ha
  cases y with
  | agg cs=>exact ⟨cs,rfl,hc⟩
  | _=>cases ha
 have one:a.agg=false->cellsOf y=[y]:=by
  intro ha
  rw [hb] at ha
  cases y<;>first | rfl | (cases ha)
 cases a with
 | term=>exact agg rfl
 | pair a b=>exact agg rfl
 | one a=>exact agg rfl
 | int k=>rw [one rfl] at hc;obtain ⟨z,r,he,h1,_⟩:=hc;cases he;exact h1
 | bool=>rw [one rfl] at hc;obtain ⟨z,r,he,h1,_⟩:=hc;cases he;exact h1
 | str=>rw [one rfl] at hc;obtain ⟨z,r,he,h1,_⟩:=hc;cases he;exact h1
 | list a=>rw [one rfl] at hc;obtain ⟨z,r,he,h1,_⟩:=hc;cases he;exact h1
structure qfP (m:Mp) (σ : St) (nb nr:Nat):Prop where
 b:∀ i,m.b i=i
 nb:m.nb=nb
 rows:yC m σ
 low:∀ id r,id<m.rw.length->m.r id=some r->r<nr
 rinj:∀ id id' r,id<m.rw.length->id'<m.rw.length->m.r id=some r->m.r id'=some r->id=id'
 zero:∀ (id:Nat) (R:qD),m.rw[id]? = some R->R.ver=0
theorem qfP.add {nb nr:Nat} (h:qfP m σ nb nr) {a:Ty} {l:List (Val a)} {ro:Option Nat} {vo:Nat} {qo:List (List AV)} {nr':Nat} (hg:QC σ ⟨a,l,0,0,false⟩ ro vo qo) (h1:nr<=nr') (h2:∀ r,ro=some r->nr<=r/\r<nr'):qfP (m.add ⟨a,l,0,0,false⟩ ro vo qo) σ nb nr':=by
 refine ⟨h.b,h.nb,qkY h.rows hg λ _ _ h=>h,?_,?_,?_⟩
 ·intro id r hl he
  change id<(m.rw++[_]).length at hl
  change (if id=m.rw.length then ro else m.r id)=some r at he
  simp at hl
  split at he
  ·exact (h2 r he).2
  ·have:=h.low id r (by omega) he;omega
 ·intro id id' r l1 l2 e1 e2
  change id<(m.rw++[_]).length at l1
  change id'<(m.rw++[_]).length at l2
  change (if id=m.rw.length then ro else m.r id)=some r at e1
  change (if id'=m.rw.length then ro else m.r id')=some r at e2
  simp at l1 l2
  split at e1<;>split at e2
  ·omega
  ·have:=h.low id' r (by omega) e2;have:=(h2 r e1).1;omega
  ·have:=h.low id r (by omega) e1;have:=(h2 r e2).1;omega
  ·exact h.rinj id id' r (by omega) (by omega) e1 e2
 ·intro id R hR
  change (m.rw++[_])[id]? = some R at hR
  rw [List.getElem?_append] at hR
  split at hR
  ·exact h.zero id R hR
  ·cases hx:id-m.rw.length with
   | zero=>rw [hx] at hR;cases hR;rfl
   | succ n=>rw [hx] at hR;cases hR
theorem qtV {m:Mp} {nb nr nr1:Nat} {t:Ty} {y:AV} {l:List (Val t)} (hl:qbr σ t nr y=some (l,nr1)) (hm:qfP m σ nb nr) :
  ∃ m1,MLe m m1/\qfP m1 σ nb nr1/\m1.rw=m.rw++[⟨t,l,0,0,false⟩]/\OK m1 (.row m.rw.length 0) y:=by
 have step:∀ ro vo qo,QC σ ⟨t,l,0,0,false⟩ ro vo qo->nr<=nr1->(∀ r,ro=some r->nr<=r/\r<nr1)->QM ro vo t l y ->
   ∃ m1,MLe m m1/\qfP m1 σ nb nr1/\m1.rw=m.rw++[⟨t,l,0,0,false⟩]/\OK m1 (.row m.rw.length 0) y:=by
  intro ro vo qo hg hle1 hro hat
  refine ⟨_,qmM m ⟨t,l,0,0,false⟩ ro vo qo,hm.add hg hle1 hro,rfl,⟨t,l,0,0,false⟩,by show (m.rw++_)[m.rw.length]? = _;simp,Nat.zero_le _,hat.ish,λ _=>?_⟩
  show QM (if m.rw.length=m.rw.length then ro else m.r m.rw.length) (if m.rw.length=m.rw.length then vo else m.v m.rw.length) t l y
  rw [if_pos rfl,if_pos rfl];exact hat
 unfold qbr at hl
 split at hl
 ·split at hl<;>try cases hl
  rename_i R hR
  split at hl<;>try cases hl
  rename_i hd
  split at hl<;>cases hl
  rename_i hdec
  obtain ⟨rfl,rfl,rfl,e4,rfl,rfl,e7⟩:=of_decide_eq_true hd
  refine step (some _) R.ver R.c ⟨R,hR,rfl,rfl,e4,hdec,by rw [e7.1];exact Nat.zero_le _,λ _=>e7⟩ (Nat.le_succ _) (λ r h=>by cases h;omega) ?_
  show _=_
  rw [qF hdec]
 ·split at hl
  ·rename_i hd hlv
   cases hl
   exact step none 0 [] (λ _=>rfl) (Nat.le_refl _) (λ r h=>by cases h) ⟨hd,of_decide_eq_true hlv⟩
  ·cases hl
theorem qiS:∀ (l:List RA) {m:Mp} {nb nr nr1:Nat} {ds:List AV} {v:CV l},qdH σ l nr ds=some (v,nr1)->qfP m σ nb nr ->
  ∃ m1,MLe m m1/\qfP m1 σ nb nr1/\m1.rw=m.rw++jx l v/\OKL m1 (qaO l m.rw.length v) ds
 | [],m,nb,nr,nr1,ds,v,h,hm=>by
   cases ds with
   | cons d ds=>simp [qdH] at h
   | nil =>
     simp only [qdH,Option.some.injEq,Prod.mk.injEq] at h
     obtain ⟨_,rfl⟩:=h
     exact ⟨m,.refl m,hm,(List.append_nil _).symm,rfl⟩
 | .val t::l,m,nb,nr,nr1,ds,v,h,hm=>by
   simp only [qdH] at h
   split at h<;>try cases h
   rename_i w hw
   split at h<;>cases h
   rename_i vs hvs
   obtain ⟨m1,h1,h2,h3,h4⟩:=qiS l hvs hm
   refine ⟨m1,h1,h2,h3,?_⟩
   rw [<- List.take_append_drop t.size ds]
   exact (jz hw).append h4
 | .row t::l,m,nb,nr,nr1,ds,v,h,hm=>by
   cases ds with
   | nil=>simp [qdH] at h
   | cons d ds =>
     simp only [qdH] at h
     split at h<;>try cases h
     rename_i w n hw
     split at h<;>cases h
     rename_i vs hvs
     obtain ⟨m1,a1,a2,a3,a4⟩:=qtV hw hm
     obtain ⟨m2,h1,h2,h3,h4⟩:=qiS l hvs a2
     rw [a3,List.length_append] at h4
     exact ⟨m2,a1.trans h1,h2,by rw [h3,a3,List.append_assoc];rfl,⟨_,_,rfl,a4.mono h1,h4⟩⟩
theorem qdM:∀ (sas:List SA) {m:Mp} {nb nr:Nat} {ys:List AV} {a:jo sas},dS σ sas nb nr ys=some a->qfP m σ nb nr ->
  ∃ m' nb' nr',MLe m m'/\qfP m' σ nb' nr'/\nb' = σ.bx.length/\m'.rw=m.rw++sRw sas a/\nb+(sBx sas m.rw.length a).length=nb'/\OKL m' (qhv sas nb m.rw.length a) ys/\ys.length<=sas.length /\
   ∀ (i:Nat) (cs:List TV),(sBx sas m.rw.length a)[i]? = some cs->∃ ds,σ.bx[nb+i]? = some ds/\OKL m' cs ds
 | [],m,nb,nr,ys,a,h,hm=>by
   cases ys with
   | cons y ys=>simp [dS] at h
   | nil =>
     simp only [dS] at h
     split at h<;>try cases h
     rename_i hd
     have hd:=of_decide_eq_true hd
     exact ⟨m,nb,nr,.refl m,hm,hd.1,(List.append_nil _).symm,rfl,rfl,Nat.le_refl _,λ i cs h=>by cases h⟩
 | .nil::sas,m,nb,nr,ys,a,h,hm=>by
   obtain ⟨ys',rfl,h⟩:∃ ys',ys = .v (.slice none 0 0)::ys'/\dS σ sas nb nr ys'=some a:=by
    cases ys with
    | nil=>simp [dS] at h
    | cons y ys =>
      simp only [dS] at h
      split at h
      ·rename_i hn
       exact ⟨ys,by rw [qtW hn],h⟩
      ·cases h
   obtain ⟨m',nb',nr',h1,h2,h3,h4,h5,h6,h7,h8⟩:=qdM sas h hm
   exact ⟨m',nb',nr',h1,h2,h3,h4,h5,⟨_,_,rfl,rfl,h6⟩,Nat.succ_le_succ h7,h8⟩
 | .clo g k::sas,m,nb,nr,ys,a,h,hm=>by
   cases ys with
   | nil=>simp [dS] at h
   | cons y ys =>
     simp only [dS] at h
     split at h<;>try cases h
     rename_i cs hcs
     obtain ⟨rfl,hk⟩:=qtm hcs
     obtain ⟨m',nb',nr',h1,h2,h3,h4,h5,h6,h7,h8⟩:=qdM sas h hm
     have ht:=h6.take k
     have hd:=h6.drop k
     rw [List.take_left' hk] at ht
     rw [List.drop_left' hk] at hd
     refine ⟨m',nb',nr',h1,h2,h3,h4,h5,⟨_,_,rfl,⟨_,rfl,ht⟩,hd⟩,?_,h8⟩
     rw [List.length_append] at h7
     rw [List.length_cons,List.length_cons]
     omega
 | .val t::sas,m,nb,nr,ys,a,h,hm=>by
   cases ys with
   | nil=>simp [dS] at h
   | cons y ys =>
     simp only [dS] at h
     split at h<;>try cases h
     rename_i v hv
     split at h<;>cases h
     rename_i vs hvs
     obtain ⟨m',nb',nr',h1,h2,h3,h4,h5,h6,h7,h8⟩:=qdM sas hvs hm
     exact ⟨m',nb',nr',h1,h2,h3,h4,h5,⟨_,_,rfl,qCh hv,h6⟩,Nat.succ_le_succ h7,h8⟩
 | .box l::sas,m,nb,nr,ys,a,h,hm=>by
   cases ys with
   | nil=>simp [dS] at h
   | cons y ys =>
     simp only [dS] at h
     split at h<;>try cases h
     rename_i v n hv
     split at h<;>cases h
     rename_i vs hvs
     unfold qjx at hv
     split at hv<;>try cases hv
     split at hv<;>try cases hv
     rename_i j _ _ ds hj hds
     have hj:=Nat.eq_of_beq_eq_true hj
     subst hj
     have hm2:qfP { m with nb:=m.nb+1 } σ (j+1) nr:=⟨hm.b,by show m.nb+1=_;rw [hm.nb],hm.rows,hm.low,hm.rinj,hm.zero⟩
     have hle:MLe m { m with nb:=m.nb+1 }:=⟨Nat.le_succ _,λ _ _=>rfl,λ id R h=>⟨R,h,Nat.le_refl _,Nat.le_refl _,λ _=>⟨rfl,rfl,rfl,rfl,(λ _=>rfl),λ _ _ h=>h⟩⟩⟩
     obtain ⟨m1,b1,b2,b3,b4⟩:=qiS l hv hm2
     obtain ⟨m',nb',nr',h1,h2,h3,h4,h5,h6,h7,h8⟩:=qdM sas hvs b2
     have b3:m1.rw=m.rw++jx l v:=b3
     have hlen:m1.rw.length=m.rw.length+nR l:=by rw [b3,List.length_append,y9]
     rw [hlen] at h5 h6 h8
     have hnb:m'.nb=nb':=h2.nb
     have hsb:(sBx (.box l::sas) m.rw.length (toB l v,vs)).length=(sBx sas (m.rw.length+nR l) vs).length+1:=rfl
     refine ⟨m',nb',nr',hle.trans (b1.trans h1),h2,h3,?_,by omega,⟨_,_,rfl,⟨by rw [hnb];omega,by rw [h2.b]⟩,h6⟩,Nat.succ_le_succ h7,λ i cs hi=>?_⟩
     ·rw [h4,b3,List.append_assoc]
      show _=m.rw++(jx l (toC l (toB l v))++_)
      rw [qe5]
     ·cases i with
      | zero =>
        cases hi
        refine ⟨ds,hds,?_⟩
        show OKL m' (qaO l m.rw.length (toC l (toB l v))) ds
        rw [qe5]
        exact b4.mono h1
      | succ i =>
        obtain ⟨ds',g1,g2⟩:=h8 i cs hi
        exact ⟨ds',by rw [<- g1];congr 1;omega,g2⟩
 | .row t::sas,m,nb,nr,ys,a,h,hm=>by
   cases ys with
   | nil=>simp [dS] at h
   | cons y ys =>
     simp only [dS] at h
     split at h<;>try cases h
     rename_i l nr1 hl
     split at h<;>cases h
     rename_i vs hvs
     obtain ⟨m1,b1,b2,b3,b4⟩:=qtV hl hm
     obtain ⟨m',nb',nr',h1,h2,h3,h4,h5,h6,h7,h8⟩:=qdM sas hvs b2
     have hlen:m1.rw.length=m.rw.length+1:=by rw [b3,List.length_append];rfl
     rw [hlen] at h5 h6 h8
     exact ⟨m',nb',nr',b1.trans h1,h2,h3,by rw [h4,b3,List.append_assoc];rfl,h5,⟨_,_,rfl,b4.mono h1,h6⟩,Nat.succ_le_succ h7,h8⟩
theorem qgE {a:Ty} {ds:List AV} {v:Val a} (h:zQ a ds=some v):jC ds (qh a v):=by
 obtain ⟨pre,h1,_,_,h4,_⟩:=ye a (zD.1 h)
 rw [List.append_nil] at h1
 rw [h1];exact h4
def qmp (σ : St) (fs:List Nat) (a:Ty) (v:List (Val a)) (y:AV):Option Nat->Prop
 | some j=>∃ Q,y = .rs j 0 Q.c.length Q.ver false /\ σ.rw[j]? = some Q/\Q.k=a.size/\Q.fz=0/\qL (zQ a) Q.c=some v/\j ∉ fs/\Q.off=false
 | none=>v=[]/\dlist a y=some []/\2<=lvl y
def qwH (l:List SA):Nat:=nBx l
theorem qgG:∀ (sas:List SA) (L:Nat) (a:jo sas),(sBx sas L a).length=nBx sas
 | [],_,_=>rfl
 | .nil::sas,L,a=>qgG sas L a
 | .clo _ _::sas,L,a=>qgG sas L a
 | .val _::sas,L,a=>qgG sas L a.2
 | .row _::sas,L,a=>qgG sas _ a.2
 | .box _::sas,L,a=>by rw [sBx,List.length_cons,qgG sas _ a.2,nBx]
inductive FC (σ : St) (fs:List Nat):(l:List RA)->CV l->List AV->List (Option Nat × Row)->Prop
 | nil:FC σ fs [] () [] []
 | val {a:Ty} {l:List RA} {v:Val a} {vs:CV l} {ds ds':List AV} {qe:List (Option Nat × Row)} (h:jC (ds.map (qW σ.rw)) (qh a v)) (hf:∀ x∈ds,∀ r∈rsC x,r∈fs) (t:FC σ fs l vs ds' qe):FC σ fs (.val a::l) (v,vs) (ds++ds') qe
 | row {a:Ty} {l:List RA} {v:List (Val a)} {vs:CV l} {y:AV} {ds:List AV} {qe:List (Option Nat × Row)} {so:Option Nat} (h:qmp σ fs a v y so) (t:FC σ fs l vs ds qe):FC σ fs (.row a::l) (v,vs) (y::ds) ((so,⟨a.size,v.map (qh a),0,0,false⟩)::qe)
inductive FR (σ : St) (fs:List Nat) (rws:List qD) (nB:List (Option Nat × Row)):(rs:List RE)->Nat->Nat->RV rs->List AV->List (Option Nat × Row)->List Nat->Prop
 | nil {n d:Nat}:FR σ fs rws nB [] n d () [] [] []
 | val {a:Ty} {rs:List RE} {v:Val a} {vs:RV rs} {y:AV} {ys:List AV} {qe:List (Option Nat × Row)} {n d:Nat} {kb:List Nat} (h:Sub (ju σ.rw y) (yi a v)) (hf:∀ r∈rsA y,r∈fs) (t:FR σ fs rws nB rs n d vs ys qe kb):FR σ fs rws nB (.one (.val a)::rs) n d (v,vs) (y::ys) qe kb
 | row {a:Ty} {rs:List RE} {v:List (Val a)} {vs:RV rs} {y:AV} {ys:List AV} {qe:List (Option Nat × Row)} {so:Option Nat} {n d:Nat} {kb:List Nat}
  (h:qmp σ fs a v y so)
  (t:FR σ fs rws nB rs n (d+1) vs ys qe kb):FR σ fs rws nB (.one (.row a)::rs) n d (v,vs) (y::ys) ((so,⟨a.size,v.map (qh a),0,0,false⟩)::qe) kb
 | agg {l:List RA} {rs:List RE} {v:CV l} {vs:RV rs} {ds:List AV} {ys:List AV} {n1 n2:List (Option Nat × Row)} {n d:Nat} {kb:List Nat} (h:FC σ fs l v ds n1) (t:FR σ fs rws nB rs n (d+nR l) vs ys n2 kb):FR σ fs rws nB (.agg l::rs) n d (v,vs) (.agg ds::ys) (n1++n2) kb
 | nilp {rs:List RE} {vs:RV rs} {ys:List AV} {qe:List (Option Nat × Row)} {n d:Nat} {kb:List Nat} (t:FR σ fs rws nB rs n d vs ys qe kb):FR σ fs rws nB (.nilp::rs) n d vs (.v (.pointer none)::ys) qe kb
 | box {l:List RA} {rs:List RE} {v:CV l} {vs:RV rs} {ds:List AV} {ys:List AV} {n1 n2:List (Option Nat × Row)} {n d b:Nat} {kb:List Nat} (hd : σ.bx[b]? = some ds) (h:FC σ fs l v ds n1) (t:FR σ fs rws nB rs (n+1) (d+nR l) vs ys n2 kb):FR σ fs rws nB (.box n l::rs) n d (toB l v,vs) (.ptr b 0::ys) (n1++n2) (b::kb)
 | elt {rs:List RE} {a:Ty} {e:Val a} {vs:RV rs} {ys:List AV} {qe:List (Option Nat × Row)} {n d p r j:Nat} {Q R:Row} {kb:List Nat} (h1:nB[p]? = some (some r,R)) (h2 : σ.rw[r]? = some Q) (h3:p<=d) (h4:Q.off=false) (h5:j<Q.c.length) (t:FR σ fs rws nB rs n d vs ys qe kb):FR σ fs rws nB (.eltI (d-p) a::rs) n d ((((j:Nat):Int),e),vs) (.rpt r j 0 Q.ver::ys) qe kb
inductive FB (σ : St) (fs:List Nat):(sas:List SA)->yS sas->Nat->List (Option Nat × Row)->Prop
 | nil {n:Nat}:FB σ fs [] () n []
 | skip1 {r:List SA} {o:yS r} {n:Nat} {qe:List (Option Nat × Row)} (t:FB σ fs r o n qe):FB σ fs (.nil::r) o n qe
 | skip2 {r:List SA} {o:yS r} {n g k:Nat} {qe:List (Option Nat × Row)} (t:FB σ fs r o n qe):FB σ fs (.clo g k::r) o n qe
 | skip3 {r:List SA} {o:yS r} {n:Nat} {a:Ty} {qe:List (Option Nat × Row)} (t:FB σ fs r o n qe):FB σ fs (.val a::r) o n qe
 | skip4 {r:List SA} {o:yS r} {n:Nat} {a:Ty} {qe:List (Option Nat × Row)} (t:FB σ fs r o n qe):FB σ fs (.row a::r) o n qe
 | box {r:List SA} {l:List RA} {v:CV l} {o:yS r} {n:Nat} {ds:List AV} {n1 n2:List (Option Nat × Row)} (hd : σ.bx[n]? = some ds) (h:FC σ fs l v ds n1) (t:FB σ fs r o (n+1) n2):FB σ fs (.box l::r) (toB l v,o) n (n1++n2)
theorem qzd (hr:Rel c.n2 m E τ tm σ) {a:Ty} {x:TV} {y:AV} {w:List (Val a)} {i:List Nat} (hw:qeM τ.rw a x=some (w,i)) (g2:OK m x y) :
  ∃ so,i.filterMap m.r=so.toList/\(∀ id∈i,id<m.rw.length)/\∀ fs,fs=[]\/i=[]->qmp σ fs a w y so:=by
 unfold qeM at hw
 split at hw
 ·cases hw
  cases g2
  exact ⟨none,rfl,by simp,λ _ _=>⟨rfl,rfl,Nat.le_refl _⟩⟩
 ·split at hw<;>cases hw
  rename_i hc hlv
  obtain ⟨e,he⟩:=yE hc
  subst e
  have he:_=_:=he
  subst he
  obtain ⟨hy1,hy2⟩:=g2
  exact ⟨none,rfl,by simp,λ _ _=>⟨rfl,hy1,Nat.le_trans (of_decide_eq_true hlv) hy2⟩⟩
 ·rename_i id ver
  split at hw<;>try cases hw
  rename_i R hR
  split at hw<;>try cases hw
  rename_i hv
  rw [Bool.and_eq_true,Bool.not_eq_true'] at hv
  split at hw<;>cases hw
  rename_i hc
  obtain ⟨e,he⟩:=yE hc
  subst e
  have he:R.l=w:=he
  subst he
  obtain ⟨R',z1,_,_,z2⟩:=g2
  have hR':m.rw[id]? = some R:=by rw [hr.rw];exact hR
  rw [hR'] at z1;cases z1
  have hlt:∀ i∈[id],i<m.rw.length:=by intro i hi;rw [List.mem_singleton.1 hi];exact getElem?_lt hR'
  rcases qe0 hr.rows hR' (z2 (Nat.eq_of_beq_eq_true hv.1)) with ⟨j,Q,q0,hy,q1,q2,q3,q4,q5,q6,q7⟩ | ⟨q0,q1,q2,q3⟩
  ·refine ⟨some j,by simp [q0],hlt,λ fs hfs=>⟨Q,hy,q1,q4,(q7 hv.2).1,q5,?_,(q7 hv.2).2⟩⟩
   rcases hfs with rfl | h
   ·simp
   ·cases h
  ·have hl:=q1 hv.2
   refine ⟨none,by simp [q0],hlt,λ fs _=>⟨hl,?_,q3⟩⟩
   rw [<- hl];exact q2
 ·cases hw
theorem qFq (so:Option Nat) (R:Row) (l:List (Option Nat × Row)):((so,R)::l).filterMap (·.1)=so.toList++l.filterMap (·.1):=by cases so<;>rfl
def qmc (rw:List qD) (ids:List Nat) (rows:List qD):Prop:=∀ (p id:Nat),ids[p]? = some id->∃ R R',rw[id]? = some R/\rows[p]? = some R'/\R.sh=false/\∃ h:R'.τ = R.τ,h▸R'.l=R.l
theorem qmc.app {rw:List qD} {a b:List Nat} {x y:List qD} (h:qmc rw a x) (g:qmc rw b y) (hl:a.length=x.length):qmc rw (a++b) (x++y) := λ p id hp=>by
 by_cases hlt:p<a.length
 ·rw [List.getElem?_append_left hlt] at hp
  obtain ⟨R,R',h1,h2,h3⟩:=h p id hp
  exact ⟨R,R',h1,by rw [List.getElem?_append_left (by omega)];exact h2,h3⟩
 ·rw [List.getElem?_append_right (by omega)] at hp
  obtain ⟨R,R',h1,h2,h3⟩:=g _ id hp
  exact ⟨R,R',h1,by rw [List.getElem?_append_right (by omega),<- hl];exact h2,h3⟩
theorem qxT {rw:List qD} {a:Ty} {x:TV} {w:List (Val a)} {i:List Nat} (h:qeM rw a x=some (w,i)):i.length<=1/\(i.length=1->qmc rw i [⟨a,w,0,0,false⟩]):=by
 unfold qeM at h
 split at h
 ·cases h;exact ⟨by simp,λ h=>by cases h⟩
 ·split at h<;>cases h
  exact ⟨by simp,λ h=>by cases h⟩
 ·rename_i id ver
  split at h<;>try cases h
  rename_i R hR
  split at h<;>try cases h
  rename_i hv
  rw [Bool.and_eq_true,Bool.not_eq_true'] at hv
  split at h<;>cases h
  rename_i hc
  obtain ⟨e,he⟩:=yE hc
  subst e
  have he:R.l=w:=he
  subst he
  refine ⟨Nat.le_refl _,λ _ p id' hp=>?_⟩
  cases p with
  | zero=>cases hp;exact ⟨R,_,hR,rfl,hv.2,rfl,rfl⟩
  | succ p=>cases hp
 ·cases h
theorem qgR {rw:List qD}:∀ {l:List RA} {cs:List TV} {v:CV l} {ids:List Nat} {q:Bool},Jd rw l cs=some (v,ids,q)->ids.length<=nR l/\(ids.length=nR l->qmc rw ids (jx l v))
 | [],cs,v,ids,q,h=>by
   cases cs with
   | cons c cs=>simp [Jd] at h
   | nil =>
     simp only [Jd,Option.some.injEq,Prod.mk.injEq] at h
     obtain ⟨_,rfl,_⟩:=h
     exact ⟨Nat.le_refl _,λ _ p id h=>by cases h⟩
 | .val t::l,cs,v,ids,q,h=>by
   simp only [Jd] at h
   split at h<;>try (cases h;done)
   rename_i w vs ids0 q0 hw hvs
   simp only [Option.some.injEq,Prod.mk.injEq] at h
   obtain ⟨rfl,rfl,rfl⟩:=h
   have:=qgR hvs
   exact this
 | .row t::l,cs,v,ids,q,h=>by
   cases cs with
   | nil=>simp [Jd] at h
   | cons c cs =>
     simp only [Jd] at h
     split at h<;>try (cases h;done)
     rename_i w i vs ids' q0 hw hvs
     simp only [Option.some.injEq,Prod.mk.injEq] at h
     obtain ⟨rfl,rfl,rfl⟩:=h
     obtain ⟨a1,a2⟩:=qxT hw
     obtain ⟨b1,b2⟩:=qgR hvs
     refine ⟨by rw [List.length_append,nR];omega,λ hl=>?_⟩
     rw [List.length_append,nR] at hl
     exact (a2 (by omega)).app (b2 (by omega)) (by show i.length=1;omega)
theorem qdy {τ : TS}:∀ (sas:List SA) {n:Nat} {o:yS sas} {ids:List Nat} {q:Bool},qeD τ sas n=some (o,ids,q)->ids.length<=nrB sas/\(ids.length=nrB sas->qmc τ.rw ids (Q9 sas o))
 | [],n,o,ids,q,h=>by
   simp only [qeD,Option.some.injEq,Prod.mk.injEq] at h
   obtain ⟨_,rfl,_⟩:=h
   exact ⟨Nat.le_refl _,λ _ p id h=>by cases h⟩
 | .nil::sas,n,o,ids,q,h=>qdy sas (o:=o) h
 | .clo _ _::sas,n,o,ids,q,h=>qdy sas (o:=o) h
 | .val _::sas,n,o,ids,q,h=>qdy sas (o:=o) h
 | .row _::sas,n,o,ids,q,h=>qdy sas (o:=o) h
 | .box l::sas,n,o,ids,q,h=>by
   simp only [qeD] at h
   split at h<;>try (cases h;done)
   rename_i cs hcs
   split at h<;>try (cases h;done)
   rename_i v i q1 o' ids' q2 hv ho
   simp only [Option.some.injEq,Prod.mk.injEq] at h
   obtain ⟨rfl,rfl,rfl⟩:=h
   obtain ⟨a1,a2⟩:=qgR hv
   obtain ⟨b1,b2⟩:=qdy sas ho
   refine ⟨by rw [List.length_append,nrB];omega,λ hl=>?_⟩
   rw [List.length_append,nrB] at hl
   have:=(a2 (by omega)).app (b2 (by omega)) (by rw [y9];omega)
   show qmc τ.rw (i++ids') (jx l (toC l (toB l v))++Q9 sas o')
   rw [qe5];exact this
theorem qhF (hr:Rel c.n2 m E τ tm σ):∀ {l:List RA} {cs:List TV} {ds:List AV} {v:CV l} {ids:List Nat} {q:Bool},Jd τ.rw l cs=some (v,ids,q)->OKL m cs ds->(∀ id∈ids,id<m.rw.length) /\
  ∀ fs,(((∀ x∈ds,∀ r∈rsC x,r∈fs)/\ids=[])\/(q=true/\fs=[]))->∃ qe,FC σ fs l v ds qe/\qe.map (·.2)=qaW l v/\qe.filterMap (·.1)=ids.filterMap m.r/\(ids.length=nR l->qe.map (·.1)=ids.map m.r)
 | [],cs,ds,v,ids,q,h,ho=>by
   cases cs with
   | cons c cs=>simp [Jd] at h
   | nil =>
     cases ho
     simp only [Jd,Option.some.injEq,Prod.mk.injEq] at h
     obtain ⟨_,rfl,_⟩:=h
     exact ⟨by simp,λ fs _=>⟨[],.nil,rfl,rfl,λ _=>rfl⟩⟩
 | .val t::l,cs,ds,v,ids,q,h,ho=>by
   simp only [Jd] at h
   split at h<;>try (cases h;done)
   rename_i w vs ids0 q0 hw hvs
   simp only [Option.some.injEq,Prod.mk.injEq] at h
   obtain ⟨rfl,rfl,rfl⟩:=h
   obtain ⟨k0,k1⟩:=qhF hr hvs (ho.drop t.size)
   have ht:=ho.take t.size
   rw [<- hr.rw] at hw
   obtain ⟨rs,p1,p2⟩:=qcc hr.rows t (qer hw) ht
   cases p2
   have hsplit:ds=ds.take t.size++ds.drop t.size:=(List.take_append_drop _ _).symm
   refine ⟨k0,λ fs hfs=>?_⟩
   obtain ⟨qe,n1,n2,n3⟩:=k1 fs (hfs.imp (λ h=>⟨λ x hx=>h.1 x (List.mem_of_mem_drop hx),h.2⟩) λ h=>⟨(Bool.and_eq_true _ _▸h.1:(cs.take t.size).all qgc=true/\q0=true).2,h.2⟩)
   refine ⟨qe,?_,n2,n3⟩
   rw [hsplit]
   refine .val (qgE (zD.2 p1)) ?_ n1
   rcases hfs with h | h
   ·exact λ x hx=>h.1 x (List.mem_of_mem_take hx)
   ·have hno:=(Bool.and_eq_true _ _▸h.1:(cs.take t.size).all qgc=true/\q0=true).1
    intro x hx r hr'
    rw [List.flatMap_eq_nil_iff.1 (qfo ht hno) x hx] at hr'
    cases hr'
 | .row t::l,cs,ds,v,ids,q,h,ho=>by
   cases cs with
   | nil=>simp [Jd] at h
   | cons c cs =>
     obtain ⟨d,ds,rfl,hd,hds⟩:=ho
     simp only [Jd] at h
     split at h<;>try (cases h;done)
     rename_i w i vs ids' q0 hw hvs
     simp only [Option.some.injEq,Prod.mk.injEq] at h
     obtain ⟨rfl,rfl,rfl⟩:=h
     obtain ⟨so,s1,s2,s3⟩:=qzd hr hw hd
     obtain ⟨k0,k1⟩:=qhF hr hvs hds
     refine ⟨λ id hid=>(List.mem_append.1 hid).elim (s2 id) (k0 id),λ fs hfs=>?_⟩
     obtain ⟨qe,n1,n2,n3⟩:=k1 fs (hfs.imp (λ h=>⟨λ x hx=>h.1 x (List.mem_cons_of_mem _ hx),(List.append_eq_nil_iff.1 h.2).2⟩) λ h=>h)
     refine ⟨_,.row (s3 fs (hfs.elim (λ h => .inr (List.append_eq_nil_iff.1 h.2).1) λ h => .inl h.2)) n1,by rw [List.map_cons,n2];rfl,?_⟩
     refine ⟨by rw [qFq,List.filterMap_append,<- n3.1,s1],λ hl=>?_⟩
     have hi:=(qxT hw).1
     have hi2:=(qgR hvs).1
     have hl:(i++ids').length=nR l+1:=hl
     rw [List.length_append] at hl
     obtain ⟨id,rfl⟩:=List.length_eq_one_iff.1 (show i.length=1 by omega)
     rw [List.map_cons,n3.2 (by simp at hl;omega)]
     have:so=m.r id:=by
      cases hm:m.r id with
      | none=>rw [List.filterMap_cons_none hm] at s1;cases so with | none=>rfl | some _=>cases s1
      | some r=>rw [List.filterMap_cons_some hm] at s1;cases so with | none=>cases s1 | some _=>cases s1;rfl
     rw [this];rfl
theorem qeA (hr:Rel c.n2 m E τ tm σ):∀ (sas:List SA) {n:Nat} {o:yS sas} {ids:List Nat} {q:Bool},qeD τ sas n=some (o,ids,q)->(∀ i,i<nBx sas->m.b (n+i)=n+i)->(∀ id∈ids,id<m.rw.length) /\
  ∀ fs,(((∀ ds ∈ σ.bx,∀ x∈ds,∀ r∈rsC x,r∈fs)/\ids=[])\/(q=true/\fs=[]))->∃ qe,FB σ fs sas o n qe/\qe.map (·.2)=jv sas o/\qe.filterMap (·.1)=ids.filterMap m.r/\(ids.length=nrB sas->qe.map (·.1)=ids.map m.r)
 | [],n,o,ids,q,h,_=>by
   simp only [qeD,Option.some.injEq,Prod.mk.injEq] at h
   obtain ⟨_,rfl,_⟩:=h
   exact ⟨by simp,λ fs _=>⟨[],.nil,rfl,rfl,λ _=>rfl⟩⟩
 | .nil::sas,n,o,ids,q,h,hp=>by
   obtain ⟨k0,k1⟩:=qeA hr sas (o:=o) h hp
   exact ⟨k0,λ fs hfs=>let ⟨qe,n1,n2⟩:=k1 fs hfs;⟨qe,.skip1 n1,n2⟩⟩
 | .clo _ _::sas,n,o,ids,q,h,hp=>by
   obtain ⟨k0,k1⟩:=qeA hr sas (o:=o) h hp
   exact ⟨k0,λ fs hfs=>let ⟨qe,n1,n2⟩:=k1 fs hfs;⟨qe,.skip2 n1,n2⟩⟩
 | .val _::sas,n,o,ids,q,h,hp=>by
   obtain ⟨k0,k1⟩:=qeA hr sas (o:=o) h hp
   exact ⟨k0,λ fs hfs=>let ⟨qe,n1,n2⟩:=k1 fs hfs;⟨qe,.skip3 n1,n2⟩⟩
 | .row _::sas,n,o,ids,q,h,hp=>by
   obtain ⟨k0,k1⟩:=qeA hr sas (o:=o) h hp
   exact ⟨k0,λ fs hfs=>let ⟨qe,n1,n2⟩:=k1 fs hfs;⟨qe,.skip4 n1,n2⟩⟩
 | .box l::sas,n,o,ids,q,h,hp=>by
   simp only [qeD] at h
   split at h<;>try (cases h;done)
   rename_i cs hcs
   split at h<;>try (cases h;done)
   rename_i v i q1 o' ids' q2 hv ho
   simp only [Option.some.injEq,Prod.mk.injEq] at h
   obtain ⟨rfl,rfl,rfl⟩:=h
   obtain ⟨ds,d1,d2⟩:=hr.box n cs hcs
   have hpn:m.b n=n:=hp 0 (Nat.succ_pos _)
   rw [hpn] at d1
   obtain ⟨c0,c1⟩:=qhF hr hv d2
   obtain ⟨k0,k1⟩:=qeA hr sas ho λ j hj=>by
    have:=hp (j+1) (Nat.succ_lt_succ hj)
    rw [show n+1+j=n+(j+1) by omega];exact this
   refine ⟨λ id hid=>(List.mem_append.1 hid).elim (c0 id) (k0 id),λ fs hfs=>?_⟩
   obtain ⟨n1,a1,a2,a3⟩:=c1 fs (hfs.imp (λ h=>⟨h.1 ds (List.mem_of_getElem? d1),(List.append_eq_nil_iff.1 h.2).1⟩) λ h=>⟨(Bool.and_eq_true _ _▸h.1:q1=true/\q2=true).1,h.2⟩)
   obtain ⟨n2,b1,b2,b3⟩:=k1 fs (hfs.imp (λ h=>⟨h.1,(List.append_eq_nil_iff.1 h.2).2⟩) λ h=>⟨(Bool.and_eq_true _ _▸h.1:q1=true/\q2=true).2,h.2⟩)
   refine ⟨n1++n2,.box d1 a1 b1,?_,by rw [List.filterMap_append,List.filterMap_append,a3.1,b3.1],λ hl=>?_⟩
   ·rw [List.map_append,a2,b2]
    show _=qaW l (toC l (toB l v))++_
    rw [qe5]
   ·have h1:=(qgR hv).1
    have h2:=(qdy sas ho).1
    have hl:(i++ids').length=nR l+nrB sas:=hl
    rw [List.length_append] at hl
    rw [List.map_append,List.map_append,a3.2 (by omega),b3.2 (by omega)]
def qH3 (m:Mp) (σ : St) (iB:List Nat) (rws:List qD) (nB:List (Option Nat × Row)):Prop :=
 ∀ (p id:Nat),iB[p]? = some id->∃ (R R':qD) (Q:Row),m.rw[id]? = some R/\rws[p]? = some R'/\nB[p]? = some (m.r id,Q)/\(∃ h:R'.τ = R.τ,h▸R'.l=R.l)/\R.sh=false
theorem qIm (hr:Rel c.n2 m E τ tm σ) {sas:List SA} {o:yS sas} {ids:List Nat} {q:Bool} (h:qeD τ sas 0=some (o,ids,q)) {nB:List (Option Nat × Row)} (hn:ids.length=nrB sas->nB.map (·.1)=ids.map m.r):qH3 m σ (qz9 (nrB sas) ids) (Q9 sas o) nB:=by
 unfold qz9
 cases hb:Nat.beq ids.length (nrB sas) with
 | false=>intro p id hp;cases hp
 | true =>
   have hl:=Nat.eq_of_beq_eq_true hb
   intro p id hp
   have hp:ids[p]? = some id:=hp
   obtain ⟨R,R',h1,h2,h3,h4⟩:=(qdy sas h).2 hl p id hp
   have hm:=congrArg (·[p]?) (hn hl)
   simp only [List.getElem?_map,hp,Option.map_some] at hm
   cases hnp:nB[p]? with
   | none=>rw [hnp] at hm;cases hm
   | some x =>
     rw [hnp] at hm
     obtain ⟨so,Q⟩:=x
     cases hm
     exact ⟨R,R',Q,by rw [hr.rw];exact h1,h2,rfl,h4,h3⟩
theorem qcy (hr:Rel c.n2 m E τ tm σ) {iB:List Nat} {rws:List qD}:∀ {rs:List RE} {l:List ResultVar} {v:RV rs} {ids bs:List Nat} {q:Bool},qan c E τ iB rs l=some (v,ids,bs,q)->(∀ id∈ids,id<m.rw.length)/\(∀ b∈bs,b<m.nb) /\
  ∃ ys,yZ c.pc.cfg tm σ l=some ys/\∀ (fs:List Nat) (nB:List (Option Nat × Row)) (n d:Nat),qH3 m σ iB rws nB->rws.length<=d->(((∀ y∈ys,∀ r∈rsA y,r∈fs)/\(∀ b∈bs,∀ ds,σ.bx[m.b b]? = some ds->∀ x∈ds,∀ r∈rsC x,r∈fs)/\ids=[])\/(q=true/\fs=[])) ->
   ∃ rs' v' qe,FR σ fs rws nB rs' n d v' ys qe (bs.map m.b)/\qe.map (·.2)=yV rs' v'/\qe.filterMap (·.1)=ids.filterMap m.r/\∀ {γ : Type} (k:(rs':List RE)->RV rs'->Option γ),J7 rws rs n d v k=k rs' v'
 | [],l,v,ids,bs,q,h=>by
   cases l with
   | cons a l=>simp [qan] at h
   | nil =>
     simp only [qan,Option.some.injEq,Prod.mk.injEq] at h
     obtain ⟨_,rfl,rfl,_⟩:=h
     exact ⟨by simp,by simp,[],rfl,λ fs nB n d _ _ _=>⟨[],(),[],.nil,rfl,rfl,λ _=>rfl⟩⟩
 | .one (.val a)::rs,l,v,ids,bs,q,h=>by
   cases l with
   | nil=>simp [qan] at h
   | cons rv l =>
     simp only [qan] at h
     split at h<;>try cases h
     rename_i x hx
     split at h<;>cases h
     rename_i w vs q' hw hvs
     obtain ⟨y,g1,g2⟩:=qdN hr hx
     obtain ⟨k0,kb,ys,k1,k2⟩:=qcy hr (rws:=rws) hvs
     rw [<- hr.rw] at hw
     obtain ⟨p1,_⟩:=qgK hr.rows hw g2
     refine ⟨k0,kb,y::ys,by simp only [yZ,g1,k1],λ fs nB n d hB hd hfs=>?_⟩
     obtain ⟨rs',v',qe,n1,n2,n3,n4⟩:=k2 fs nB n d hB hd (hfs.imp (λ h=>⟨λ y hy=>h.1 y (List.mem_cons_of_mem _ hy),h.2⟩) λ h=>⟨(Bool.and_eq_true _ _▸h.1:qkt x=true/\q'=true).2,h.2⟩)
     refine ⟨.one (.val a)::rs',(w,v'),qe,.val (qnB p1) ?_ n1,n2,n3,λ k=>n4 _⟩
     rcases hfs with h | h
     ·exact h.1 y (List.mem_cons_self ..)
     ·have hno:=(Bool.and_eq_true _ _▸h.1:qkt x=true/\q'=true).1
      rw [qsk hno g2]
      intro r hr;cases hr
 | .one (.row a)::rs,l,v,ids,bs,q,h=>by
   cases l with
   | nil=>simp [qan] at h
   | cons rv l =>
     simp only [qan] at h
     split at h<;>try cases h
     rename_i x hx
     split at h<;>cases h
     rename_i w i vs ids' hw hvs
     obtain ⟨y,g1,g2⟩:=qdN hr hx
     obtain ⟨k0,kb,ys,k1,k2⟩:=qcy hr (rws:=rws) hvs
     obtain ⟨so,s1,s2,s3⟩:=qzd hr hw g2
     refine ⟨λ id hid=>(List.mem_append.1 hid).elim (s2 id) (k0 id),kb,y::ys,by simp only [yZ,g1,k1],λ fs nB n d hB hd hfs=>?_⟩
     obtain ⟨rs',v',qe,n1,n2,n3,n4⟩:=k2 fs nB n (d+1) hB (by omega) (hfs.imp (λ h=>⟨λ y hy=>h.1 y (List.mem_cons_of_mem _ hy),h.2.1,(List.append_eq_nil_iff.1 h.2.2).2⟩) λ h=>h)
     refine ⟨.one (.row a)::rs',(w,v'),_,.row (s3 fs (hfs.elim (λ h => .inr (List.append_eq_nil_iff.1 h.2.2).1) λ h => .inl h.2)) n1,by rw [List.map_cons,n2];rfl,?_,λ k=>n4 _⟩
     rw [qFq,List.filterMap_append,<- n3,s1]
 | .agg p::rs,l,v,ids,bs,q,h=>by
   cases l with
   | nil=>simp [qan] at h
   | cons rv l =>
     simp only [qan] at h
     split at h<;>try (cases h;done)
     rename_i cs hx
     split at h<;>try (cases h;done)
     rename_i w i q1 vs ids' bs' q2 hw hvs
     simp only [Option.some.injEq,Prod.mk.injEq] at h
     obtain ⟨rfl,rfl,rfl,rfl⟩:=h
     obtain ⟨y,g1,ds,rfl,g2⟩:=qdN hr hx
     obtain ⟨c0,c1⟩:=qhF hr hw g2
     obtain ⟨k0,kb,ys,k1,k2⟩:=qcy hr (rws:=rws) hvs
     refine ⟨λ id hid=>(List.mem_append.1 hid).elim (c0 id) (k0 id),kb,.agg ds::ys,by simp only [yZ,g1,k1],λ fs nB n d hB hd hfs=>?_⟩
     obtain ⟨n1,a1,a2,a3⟩:=c1 fs (hfs.imp (λ h=>⟨λ x hx r hr'=>h.1 (.agg ds) (List.mem_cons_self ..) r (List.mem_flatMap.2 ⟨x,hx,hr'⟩),(List.append_eq_nil_iff.1 h.2.2).1⟩) λ h=>⟨(Bool.and_eq_true _ _▸h.1:q1=true/\q2=true).1,h.2⟩)
     obtain ⟨rs',v',n2,b1,b2,b3,b4⟩:=k2 fs nB n (d+nR p) hB (by omega) (hfs.imp (λ h=>⟨λ y hy=>h.1 y (List.mem_cons_of_mem _ hy),h.2.1,(List.append_eq_nil_iff.1 h.2.2).2⟩) λ h=>⟨(Bool.and_eq_true _ _▸h.1:q1=true/\q2=true).2,h.2⟩)
     exact ⟨.agg p::rs',(w,v'),n1++n2,.agg a1 b1,by rw [List.map_append,a2,b2];rfl,by rw [List.filterMap_append,List.filterMap_append,a3.1,b3],λ k=>b4 _⟩
 | .opt p::rs,l,v,ids,bs,q,h=>by
   cases l with
   | nil=>simp [qan] at h
   | cons rv l =>
     simp only [qan] at h
     split at h<;>try (cases h;done)
     ·rename_i hx
      split at h<;>cases h
      rename_i hvs
      obtain ⟨y,g1,_,rfl⟩:=qdN hr hx
      obtain ⟨k0,kb,ys,k1,k2⟩:=qcy hr (rws:=rws) hvs
      refine ⟨k0,kb,.v (.pointer none)::ys,by simp only [yZ,g1,k1],λ fs nB n d hB hd hfs=>?_⟩
      obtain ⟨rs',v',qe,n1,n2,n3,n4⟩:=k2 fs nB n d hB hd (hfs.imp (λ h=>⟨λ y hy=>h.1 y (List.mem_cons_of_mem _ hy),h.2⟩) λ h=>h)
      exact ⟨.nilp::rs',v',qe,.nilp n1,n2,n3,λ k=>n4 _⟩
     ·rename_i b hx
      split at h<;>try (cases h;done)
      rename_i cs hcs
      split at h<;>try (cases h;done)
      rename_i w i q1 vs ids' bs' q2 hw hvs
      simp only [Option.some.injEq,Prod.mk.injEq] at h
      obtain ⟨rfl,rfl,rfl,rfl⟩:=h
      obtain ⟨y,g1,hbn,rfl⟩:=qdN hr hx
      obtain ⟨ds,d1,d2⟩:=hr.box b cs hcs
      obtain ⟨c0,c1⟩:=qhF hr hw d2
      obtain ⟨k0,kb,ys,k1,k2⟩:=qcy hr (rws:=rws) hvs
      refine ⟨λ id hid=>(List.mem_append.1 hid).elim (c0 id) (k0 id),λ b' hb'=>(List.mem_cons.1 hb').elim (λ h=>h▸hbn) (kb b'),.ptr (m.b b) 0::ys,by simp only [yZ,g1,k1],λ fs nB n d hB hd hfs=>?_⟩
      obtain ⟨n1,a1,a2,a3⟩:=c1 fs (hfs.imp (λ h=>⟨h.2.1 b (List.mem_cons_self ..) ds d1,(List.append_eq_nil_iff.1 h.2.2).1⟩) λ h=>⟨(Bool.and_eq_true _ _▸h.1:q1=true/\q2=true).1,h.2⟩)
      obtain ⟨rs',v',n2,b1,b2,b3,b4⟩:=k2 fs nB (n+1) (d+nR p) hB (by omega) (hfs.imp (λ h=>⟨λ y hy=>h.1 y (List.mem_cons_of_mem _ hy),λ b' hb'=>h.2.1 b' (List.mem_cons_of_mem _ hb'),(List.append_eq_nil_iff.1 h.2.2).2⟩) λ h=>⟨(Bool.and_eq_true _ _▸h.1:q1=true/\q2=true).2,h.2⟩)
      refine ⟨.box n p::rs',(toB p w,v'),n1++n2,.box d1 a1 b1,?_,by rw [List.filterMap_append,List.filterMap_append,a3.1,b3],λ k=>b4 _⟩
      rw [List.map_append,a2,b2]
      show _=qaW p (toC p (toB p w))++_
      rw [qe5]
 | .elt p::rs,l,v,ids,bs,q,h=>by
   cases l with
   | nil=>simp [qan] at h
   | cons rv l =>
     simp only [qan] at h
     split at h<;>try (cases h;done)
     ·rename_i hx
      split at h<;>cases h
      rename_i hvs
      obtain ⟨y,g1,_,rfl⟩:=qdN hr hx
      obtain ⟨k0,kb,ys,k1,k2⟩:=qcy hr (rws:=rws) hvs
      refine ⟨k0,kb,.v (.pointer none)::ys,by simp only [yZ,g1,k1],λ fs nB n d hB hd hfs=>?_⟩
      obtain ⟨rs',v',qe,n1,n2,n3,n4⟩:=k2 fs nB n d hB hd (hfs.imp (λ h=>⟨λ y hy=>h.1 y (List.mem_cons_of_mem _ hy),h.2⟩) λ h=>h)
      exact ⟨.nilp::rs',v',qe,.nilp n1,n2,n3,λ k=>n4 _⟩
     ·rename_i id ver sv i cs hx
      split at h<;>try (cases h;done)
      rename_i R id' vs ids' bs' q' hR hid hvs
      split at h<;>try (cases h;done)
      rename_i hcond
      cases h
      rw [Bool.and_eq_true,Bool.and_eq_true] at hcond
      have e1:=Nat.eq_of_beq_eq_true hcond.1
      have e2:=Nat.eq_of_beq_eq_true hcond.2.1
      have e3:=Nat.eq_of_beq_eq_true hcond.2.2
      subst e3
      obtain ⟨y,g1,R',z1,z2,z3,z4,z5⟩:=qdN hr hx
      have hR':m.rw[id]? = some R:=by rw [hr.rw];exact hR
      cases hR'.symm.trans z1
      obtain ⟨k0,kb,ys,k1,k2⟩:=qcy hr (rws:=rws) hvs
      refine ⟨k0,kb,y::ys,by simp only [yZ,g1,k1],λ fs nB n d hB hd hfs=>?_⟩
      obtain ⟨rs',v',qe,n1,n2,n3,n4⟩:=k2 fs nB n d hB hd (hfs.imp (λ h=>⟨λ y hy=>h.1 y (List.mem_cons_of_mem _ hy),h.2⟩) λ h=>h)
      obtain ⟨R1,R2,Q1,w1,w2,w3,⟨w4,w5⟩,w6⟩:=hB p id hid
      cases hR'.symm.trans w1
      have hg:=hr.rows id R hR'
      rcases qy5 (z5 e1) e2 with ⟨r,j,ds,s1,s2,s3,s4,s5,s6⟩ | ⟨ds,s1,s2,s3,s4⟩
      ·rw [s1] at hg w3
       obtain ⟨Q,q1,q2,q3,q4,q5,q6,q7⟩:=hg
       obtain ⟨t2,l2,ver2,sv2,sh2⟩:=R2
       simp only at w4
       subst w4
       have w5:l2=R.l:=w5
       have hjl:j<l2.length:=by rw [w5];exact s4
       have hlg:qc l2 i=some l2[j]:=by rw [s3];unfold qc;rw [if_pos (Int.natCast_nonneg j),Int.toNat_natCast,List.getElem?_eq_getElem hjl]
       refine ⟨.eltI (d-p) R.τ :: rs',((i,l2[j]),v'),qe,?_,n2,n3,λ k=>?_⟩
       ·rw [s2,s3,<- q3]
        exact .elt w3 q1 (by have:=getElem?_lt w2;omega) (q7 w6).2 (by rw [qF q5];exact s4) n1
       ·show (match rws[p]? with
          | some R=>qa (qc R.l i) λ e=>J7 rws rs n d vs λ r' v'=>k (.eltI (d-p) R.τ :: r') ((i,e),v')
          | none=>none)=_
        rw [w2]
        simp only [hlg,qa]
        exact n4 _
      ·have hsh:R.sh=false:=w6
       rw [s1] at hg
       have:R.l=[]:=hg hsh
       rw [this] at s3
       exact absurd s3 (Nat.lt_irrefl _)
theorem FR.len {fs:List Nat} {rws:List qD} {nB:List (Option Nat × Row)} {rs:List RE} {n d:Nat} {v:RV rs} {ys:List AV} {qe:List (Option Nat × Row)} {kb:List Nat} (h:FR σ fs rws nB rs n d v ys qe kb):∀ L,ys.length=(yH rs L v).length:=by
 induction h with
 | nil=>intro L;rfl
 | val h hf t ih=>intro L;rw [yH,List.length_cons,List.length_cons,ih L]
 | row h t ih=>intro L;rw [yH,List.length_cons,List.length_cons,ih (L+1)]
 | agg h t ih=>intro L;rw [yH,List.length_cons,List.length_cons,ih]
 | nilp t ih=>intro L;rw [yH,List.length_cons,List.length_cons,ih L]
 | box hd h t ih=>intro L;rw [yH,List.length_cons,List.length_cons,ih]
 | elt h1 h2 h3 h4 h5 t ih=>intro L;rw [yH,List.length_cons,List.length_cons,ih L]
theorem qqZ {fs:List Nat} {a:Ty} {v:List (Val a)} {y:AV} {so:Option Nat} (h:qmp σ fs a v y so):qA3 σ fs so ⟨a.size,v.map (qh a),0,0,false⟩:=by
 refine ⟨rfl,rfl,Ty.size_pos a,?_,?_,?_⟩
 ·intro e he
  obtain ⟨w,_,rfl⟩:=List.mem_map.1 he
  exact jG a w
 ·intro e he
  obtain ⟨w,_,rfl⟩:=List.mem_map.1 he
  exact zN a w
 ·cases so with
  | none=>show v.map (qh a)=[];rw [h.1];rfl
  | some j =>
    obtain ⟨Q,_,q1,q2,q3,q4,q5⟩:=h
    refine ⟨Q,q1,q2,q3,by show Q.c.length=(v.map (qh a)).length;rw [qF q4,List.length_map],λ i e e' h1 h2=>?_,q5⟩
    obtain ⟨w,w1,w2⟩:=QP q4 h1
    have h2:(v.map (qh a))[i]? = some e':=h2
    rw [List.getElem?_map,w1] at h2
    cases h2
    exact qgE w2
def qlS (σ : St) (fs:List Nat) (qe:List (Option Nat × Row)):Prop:=∀ p∈qe,qA3 σ fs p.1 p.2
theorem FC.newOk {fs:List Nat} {l:List RA} {v:CV l} {ds:List AV} {qe:List (Option Nat × Row)} (h:FC σ fs l v ds qe):qlS σ fs qe:=by
 induction h with
 | nil=>intro p h;cases h
 | val h hf t ih=>exact ih
 | row h t ih =>
   intro p hp
   rcases List.mem_cons.1 hp with rfl | hp
   ·exact qqZ h
   ·exact ih p hp
theorem FR.newOk {fs:List Nat} {rws:List qD} {nB:List (Option Nat × Row)} {rs:List RE} {n d:Nat} {v:RV rs} {ys:List AV} {qe:List (Option Nat × Row)} {kb:List Nat} (h:FR σ fs rws nB rs n d v ys qe kb):qlS σ fs qe:=by
 induction h with
 | nil=>intro p h;cases h
 | val h hf t ih=>exact ih
 | row h t ih =>
   intro p hp
   rcases List.mem_cons.1 hp with rfl | hp
   ·exact qqZ h
   ·exact ih p hp
 | agg h t ih=>intro p hp;exact (List.mem_append.1 hp).elim (h.newOk p) (ih p)
 | nilp t ih=>exact ih
 | box hd h t ih=>intro p hp;exact (List.mem_append.1 hp).elim (h.newOk p) (ih p)
 | elt h1 h2 h3 h4 h5 t ih=>exact ih
theorem FB.newOk {fs:List Nat} {sas:List SA} {o:yS sas} {n:Nat} {qe:List (Option Nat × Row)} (h:FB σ fs sas o n qe):qlS σ fs qe:=by
 induction h with
 | nil=>intro p h;cases h
 | box hd h t ih=>intro p hp;exact (List.mem_append.1 hp).elim (h.newOk p) (ih p)
 | _=>assumption
theorem qy6 {Γ1:Gh} {w1:World} {mm:Nat->Nat->Option Value} {fs kb:List Nat} (h1:Inv Γ1 σ w1) {nb L p:Nat} {all:List (Option Nat × Row)} {a:Ty} {v:List (Val a)} {y:AV} {so:Option Nat} (h:qmp σ fs a v y so) (hall:all[p]? = some (so,⟨a.size,v.map (qh a),0,0,false⟩)) {u:Value} (g1:Rep Γ1 y u):Rep (yv Γ1 mm nb kb L all) (.rs (L+p) 0 v.length 0 false) u:=by
 have hlt:p<all.length:=getElem?_lt hall
 have hnl:¬ L+p<L:=by omega
 have hsub:L+p-L=p:=by omega
 cases so with
 | some j =>
   obtain ⟨Q,rfl,q1,q2,q3,q4,q5⟩:=h
   have H:=h1.row j Q q1
   cases g1 with
   | rs _ _ _ _ _ a' cap hr hv hc hf hl =>
     have hl:=hl (H.ver (by rw [q3];exact Nat.zero_le _)).symm
     have hle:=qF q4
     rw [hle] at hc
     rw [hle]
     show Rep (yv Γ1 mm nb kb L all) (.rs (L+p) 0 v.length 0 false) (.slice a' v.length cap)
     refine .rs _ _ _ _ _ a' cap (by show L+p<L+all.length;omega) (Nat.zero_le _) hc (λ h=>by cases h) λ _=>?_
     have ec:(yv Γ1 mm nb kb L all).cur (L+p) = Γ1.cur j:=by
      show (if L+p<L then _ else match all[L+p-L]? with | some (some j,_) => Γ1.cur j | _=>0)=_
      rw [if_neg hnl,hsub,hall]
     have es:(yv Γ1 mm nb kb L all).sz (L+p) = Γ1.sz j:=by
      show (if L+p<L then _ else match all[L+p-L]? with | some (some j,_) => Γ1.sz j | _=>0)=_
      rw [if_neg hnl,hsub,hall]
     have ek:(yv Γ1 mm nb kb L all).k (L+p) = Γ1.k j:=by
      show (if L+p<L then _ else match all[L+p-L]? with | some p=>p.2.k | none=>1)=_
      rw [if_neg hnl,hsub,hall,<- H.k,q2]
     rw [ec,es,ek]
     rw [H.off q5.2] at hl
     exact hl
 | none =>
   obtain ⟨rfl,q1,q2⟩:=h
   have hu0:∃ a',u = .slice a' 0 0:=by
    rcases yr q1 with ⟨rfl,_⟩ | ⟨es,n,rfl,hd⟩
    ·exact ⟨none,qS g1⟩
    ·have:es=[]:=List.eq_nil_of_length_eq_zero (qF hd)
     subst this
     cases g1 with
     | sl _ _ _ a' n' cap b o us hn hc hf =>
       have h2:1<n+1:=q2
       have:=hf h2
       refine ⟨a',?_⟩
       have hn:n'=0:=hn
       rw [this,hn]
   obtain ⟨a',rfl⟩:=hu0
   refine .rs _ _ _ _ _ a' 0 (by show L+p<L+all.length;omega) (Nat.zero_le _) (Nat.le_refl _) (λ h=>by cases h) λ _=>⟨.inl rfl,by rw [Nat.add_zero,Nat.zero_mul];exact Nat.zero_le _⟩
theorem qAP {Γ1:Gh} {w1:World} {mm:Nat->Nat->Option Value} {fs kb:List Nat} (h1:Inv Γ1 σ w1) (hm:Le Γ1 { Γ1 with mem:=mm }) (hfz:∀ r∈fs,∀ R,σ.rw[r]? = some R->js { Γ1 with mem:=mm } r R) {nb L:Nat} {all:List (Option Nat × Row)} {a:Ty} {v:Val a} {ds:List AV} (h:jC (ds.map (qW σ.rw)) (qh a v)) (hf:∀ x∈ds,∀ r∈rsC x,r∈fs) {us:List Value} (hu:RepL Γ1 ds us):RepL (yv Γ1 mm nb kb L all) (qh a v) us:=by
 obtain ⟨p1,p2⟩:=Jl (zN a v)
 refine qCC (Γ := { Γ1 with mem:=mm }) (λ _ _ _ h=>h) (h.rep ?_) p1 p2
 refine ⟨by rw [List.length_map];exact hu.len,λ i x u hx hu'=>?_⟩
 rw [List.getElem?_map] at hx
 cases hxa:ds[i]? with
 | none=>rw [hxa] at hx;cases hx
 | some x0 =>
   rw [hxa] at hx;cases hx
   exact qjA h1 hm (λ r hr R hR=>hfz r (hf x0 (List.mem_of_getElem? hxa) r hr) R hR) (hu.rep i x0 u hxa hu')
theorem RepL.split {Γ : Gh} {a b:List AV} {us:List Value} (h:RepL Γ (a++b) us):RepL Γ a (us.take a.length)/\RepL Γ b (us.drop a.length):=by
 have h1:=h.take a.length
 have h2:=h.drop a.length
 rw [List.take_left] at h1
 rw [List.drop_left] at h2
 exact ⟨h1,h2⟩
theorem qhp {fs:List Nat} {l:List RA} {v:CV l} {ds:List AV} {qe:List (Option Nat × Row)} (h:FC σ fs l v ds qe):qe.length=nR l:=by
 induction h with
 | nil=>rfl
 | val h hf t ih=>exact ih
 | row h t ih=>exact congrArg (· + 1) ih
theorem FC.rep {Γ1:Gh} {w1:World} {mm:Nat->Nat->Option Value} {fs kb:List Nat} (h1:Inv Γ1 σ w1) (hm:Le Γ1 { Γ1 with mem:=mm }) (hfz:∀ r∈fs,∀ R,σ.rw[r]? = some R->js { Γ1 with mem:=mm } r R) (nb L:Nat) (all:List (Option Nat × Row)) {l:List RA} {v:CV l} {ds:List AV} {qe:List (Option Nat × Row)} (h:FC σ fs l v ds qe) :
  ∀ (pre post:List (Option Nat × Row)),all=pre++(qe++post)->∀ us,RepL Γ1 ds us->RepL (yv Γ1 mm nb kb L all) (QT l (L+pre.length) v) us:=by
 induction h with
 | nil=>intro pre post _ us hu;rw [hu.nil_inv];exact .nil
 | @val a l v vs ds ds' qe h hf t ih =>
   intro pre post he us hu
   obtain ⟨g1,g2⟩:=hu.split
   have:=(qAP h1 hm hfz (nb:=nb) (kb:=kb) (L:=L) (all:=all) h hf g1).append (ih pre post he _ g2)
   rw [List.take_append_drop] at this
   exact this
 | @row a l v vs y ds qe so h t ih =>
   intro pre post he us hu
   obtain ⟨u,r,rfl,g1,g2⟩:=hu.uncons
   have hall:all[pre.length]? = some (so,⟨a.size,v.map (qh a),0,0,false⟩):=by rw [he,List.getElem?_append_right (Nat.le_refl _),Nat.sub_self];rfl
   refine .cons (qy6 h1 h hall g1) ?_
   have:=ih (pre++[(so,⟨a.size,v.map (qh a),0,0,false⟩)]) post (by rw [he,List.append_assoc];rfl) r g2
   rw [List.length_append] at this
   exact this
theorem FR.rep {Γ1:Gh} {w1:World} {mm:Nat->Nat->Option Value} {fs:List Nat} (h1:Inv Γ1 σ w1) (hm:Le Γ1 { Γ1 with mem:=mm }) (hfz:∀ r∈fs,∀ R,σ.rw[r]? = some R->js { Γ1 with mem:=mm } r R) (nb L:Nat) (KB:List Nat) (all:List (Option Nat × Row)) (hall:qlS σ fs all) {rws:List qD} {nB:List (Option Nat × Row)} (hnB:∀ (p:Nat) (x:Option Nat × Row),nB[p]? = some x->all[p]? = some x) {rs:List RE} {n d:Nat} {v:RV rs} {ys:List AV} {qe:List (Option Nat × Row)} {kb:List Nat} (h:FR σ fs rws nB rs n d v ys qe kb) :
  ∀ (pre:List (Option Nat × Row)),all=pre++qe->pre.length=d->nb<=n->(∀ (j b:Nat),kb[j]? = some b->KB[n-nb+j]? = some b)->∀ us,RepL Γ1 ys us->RepL (yv Γ1 mm nb KB L all) (yH rs (L+pre.length) v) us:=by
 induction h with
 | nil=>intro pre _ _ _ _ us hu;rw [hu.nil_inv];exact .nil
 | @val a rs v vs y ys qe n d kb h hf t ih =>
   intro pre he hd hn hk us hu
   obtain ⟨u,r,rfl,g1,g2⟩:=hu.uncons
   obtain ⟨p1,p2⟩:=qcK (qeu a v)
   exact .cons (qkw (Γ := { Γ1 with mem:=mm }) (λ _ _ _ h=>h) (h _ _ (qtn h1 hm (λ q hq R hR=>hfz q (hf q hq) R hR) g1)) p1 p2) (ih pre he hd hn hk r g2)
 | @row a rs v vs y ys qe so n d kb h t ih =>
   intro pre he hd hn hk us hu
   obtain ⟨u,r,rfl,g1,g2⟩:=hu.uncons
   have hall:all[pre.length]? = some (so,⟨a.size,v.map (qh a),0,0,false⟩):=by rw [he,List.getElem?_append_right (Nat.le_refl _),Nat.sub_self];rfl
   refine .cons (qy6 h1 h hall g1) ?_
   have:=ih (pre++[(so,⟨a.size,v.map (qh a),0,0,false⟩)]) (by rw [he,List.append_assoc];rfl) (by rw [List.length_append,hd];rfl) hn hk r g2
   rw [List.length_append] at this
   exact this
 | @agg l rs v vs ds ys n1 n2 n d kb h t ih =>
   intro pre he hd hn hk us hu
   obtain ⟨u,r,rfl,g1,g2⟩:=hu.uncons
   refine .cons ?_ ?_
   ·cases g1 with
    | agg cs us hn' h1' hr =>
      have:=h.rep h1 hm hfz nb L (kb:=KB) all pre n2 he us ⟨hn',hr⟩
      exact .agg _ us this.len h1' this.rep
   ·have:=ih (pre++n1) (by rw [he,List.append_assoc]) (by rw [List.length_append,hd,qhp h]) hn hk r g2
    rw [List.length_append,qhp h,<- Nat.add_assoc] at this
    exact this
 | @nilp rs vs ys qe n d kb t ih =>
   intro pre he hd hn hk us hu
   obtain ⟨u,r,rfl,g1,g2⟩:=hu.uncons
   exact .cons (qkw (λ b o u h=>hm.mem b o u h) g1 rfl rfl) (ih pre he hd hn hk r g2)
 | @box l rs v vs ds ys n1 n2 n d b kb hb h t ih =>
   intro pre he hd hn hk us hu
   obtain ⟨u,r,rfl,g1,g2⟩:=hu.uncons
   have hkb:=hk 0 b rfl
   rw [Nat.add_zero] at hkb
   refine .cons ?_ ?_
   ·cases g1 with
    | ptr _ _ hlt =>
      have e:(yv Γ1 mm nb KB L all).β n = Γ1.β b:=by
       show Γ1.β (qeZ nb KB n)=_
       unfold qeZ
       rw [if_neg (by omega),List.getD_eq_getElem?_getD,hkb];rfl
      have:Rep (yv Γ1 mm nb KB L all) (.ptr n 0) (.pointer (some ⟨(yv Γ1 mm nb KB L all).β n,0,none⟩)) := .ptr n 0 (by show n<nb+KB.length;have:=getElem?_lt hkb;omega)
      rw [e] at this
      exact this
   ·have:=ih (pre++n1) (by rw [he,List.append_assoc]) (by rw [List.length_append,hd,qhp h]) (by omega) (λ j b' hj=>by have:=hk (j+1) b' hj;rw [<- this];congr 1;omega) r g2
    rw [List.length_append,qhp h,<- Nat.add_assoc] at this
    exact this
 | @elt rs a e vs ys qe n d p r0 j Q R kb h1' h2 h3 h4 h5 t ih =>
   intro pre he hd hn hk us hu
   obtain ⟨u,r,rfl,g1,g2⟩:=hu.uncons
   refine .cons ?_ (ih pre he hd hn hk r g2)
   have ha:=hnB p _ h1'
   have hp:=getElem?_lt ha
   have hnl:¬ L+p<L:=by omega
   have hsub:L+p-L=p:=by omega
   show Rep (yv Γ1 mm nb KB L all) (.rpt (L+pre.length-(d-p)) (((j:Nat):Int)).toNat 0 0) u
   rw [hd,show L+d-(d-p)=L+p by omega,Int.toNat_natCast]
   have H:=h1.row r0 Q h2
   obtain ⟨Q',q1,q2,_⟩:=(hall _ (List.mem_of_getElem? ha)).src
   cases h2.symm.trans q1
   cases g1 with
   | rpt _ _ _ _ A hr hv hl =>
     have hA:=hl (H.ver (H.live (List.getElem?_eq_getElem h5))).symm
     refine .rpt _ _ _ _ A (by show L+p<L+all.length;omega) (Nat.zero_le _) λ _=>?_
     have ec:(yv Γ1 mm nb KB L all).cur (L+p) = Γ1.cur r0:=by
      show (if L+p<L then _ else match all[L+p-L]? with | some (some j,_) => Γ1.cur j | _=>0)=_
      rw [if_neg hnl,hsub,ha]
     have ek:(yv Γ1 mm nb KB L all).k (L+p) = Γ1.k r0:=by
      show (if L+p<L then _ else match all[L+p-L]? with | some p=>p.2.k | none=>1)=_
      rw [if_neg hnl,hsub,ha,<- H.k,q2]
     rw [ec,ek,hA,H.off h4]
     rfl
theorem FR.boxes {Γ1:Gh} {w1:World} {mm:Nat->Nat->Option Value} {fs:List Nat} (h1:Inv Γ1 σ w1) (hm:Le Γ1 { Γ1 with mem:=mm }) (hfz:∀ r∈fs,∀ R,σ.rw[r]? = some R->js { Γ1 with mem:=mm } r R) (nb L:Nat) (KB:List Nat) (all:List (Option Nat × Row)) {rws:List qD} {nB:List (Option Nat × Row)} {rs:List RE} {n d:Nat} {v:RV rs} {ys:List AV} {qe:List (Option Nat × Row)} {kb:List Nat} (h:FR σ fs rws nB rs n d v ys qe kb) :
  ∀ (pre:List (Option Nat × Row)),all=pre++qe->∀ (j:Nat) (cs:List AV),(je rs (L+pre.length) v)[j]? = some cs->∃ b ds,kb[j]? = some b /\ σ.bx[b]? = some ds/\∀ us,RepL Γ1 ds us->RepL (yv Γ1 mm nb KB L all) cs us:=by
 induction h with
 | nil=>intro pre _ j cs hj;cases hj
 | val h hf t ih=>exact λ pre he j cs hj=>ih pre he j cs hj
 | @row a rs v vs y ys qe so n d kb h t ih =>
   intro pre he j cs hj
   exact ih (pre++[(so,⟨a.size,v.map (qh a),0,0,false⟩)]) (by rw [he,List.append_assoc];rfl) j cs (by rw [List.length_append];exact hj)
 | @agg l rs v vs ds ys n1 n2 n d kb h t ih =>
   intro pre he j cs hj
   exact ih (pre++n1) (by rw [he,List.append_assoc]) j cs (by rw [List.length_append,qhp h,<- Nat.add_assoc];exact hj)
 | nilp t ih=>exact λ pre he j cs hj=>ih pre he j cs hj
 | @box l rs v vs ds ys n1 n2 n d b kb hb h t ih =>
   intro pre he j cs hj
   have hj:(QT l (L+pre.length) (toC l (toB l v))::je rs (L+pre.length+nR l) vs)[j]? = some cs:=hj
   cases j with
   | zero =>
     cases hj
     refine ⟨b,ds,rfl,hb,λ us hu=>?_⟩
     rw [qe5]
     exact h.rep h1 hm hfz nb L (kb:=KB) all pre n2 he us hu
   | succ j =>
     exact ih (pre++n1) (by rw [he,List.append_assoc]) j cs (by rw [List.length_append,qhp h,<- Nat.add_assoc];exact hj)
 | elt h1' h2 h3 h4 h5 t ih=>exact λ pre he j cs hj=>ih pre he j cs hj
theorem FR.kept {fs:List Nat} {rws:List qD} {nB:List (Option Nat × Row)} {rs:List RE} {n d:Nat} {v:RV rs} {ys:List AV} {qe:List (Option Nat × Row)} {kb:List Nat} (h:FR σ fs rws nB rs n d v ys qe kb):(∀ b∈kb,b < σ.bx.length)/\∀ L,(je rs L v).length=kb.length:=by
 induction h with
 | nil=>exact ⟨by simp,λ _=>rfl⟩
 | val h hf t ih=>exact ih
 | row h t ih=>exact ⟨ih.1,λ L=>ih.2 (L+1)⟩
 | agg h t ih=>exact ⟨ih.1,λ L=>ih.2 _⟩
 | nilp t ih=>exact ih
 | box hd h t ih=>exact ⟨λ b' hb'=>(List.mem_cons.1 hb').elim (λ h=>h▸getElem?_lt hd) (ih.1 b'),λ L=>congrArg (· + 1) (ih.2 _)⟩
 | elt h1 h2 h3 h4 h5 t ih=>exact ih
theorem FB.rep {Γ1:Gh} {w1:World} {mm:Nat->Nat->Option Value} {fs kb:List Nat} (h1:Inv Γ1 σ w1) (hm:Le Γ1 { Γ1 with mem:=mm }) (hfz:∀ r∈fs,∀ R,σ.rw[r]? = some R->js { Γ1 with mem:=mm } r R) (nb L:Nat) (all:List (Option Nat × Row)) {sas:List SA} {o:yS sas} {n:Nat} {qe:List (Option Nat × Row)} (h:FB σ fs sas o n qe) :
  ∀ (pre post:List (Option Nat × Row)),all=pre++(qe++post)->∀ (i:Nat) (cs:List AV),(jt sas (L+pre.length) o)[i]? = some cs->∃ ds,σ.bx[n+i]? = some ds/\∀ us,RepL Γ1 ds us->RepL (yv Γ1 mm nb kb L all) cs us:=by
 induction h with
 | nil=>intro pre post _ i cs hi;cases hi
 | @box r l v o n ds n1 n2 hd h t ih =>
   intro pre post he i cs hi
   have he:all=pre++(n1++(n2++post)):=by rw [he,List.append_assoc]
   have hi:(QT l (L+pre.length) (toC l (toB l v))::jt r (L+pre.length+nR l) o)[i]? = some cs:=hi
   cases i with
   | zero =>
     cases hi
     refine ⟨ds,hd,λ us hu=>?_⟩
     rw [qe5]
     exact h.rep h1 hm hfz nb L all pre (n2++post) he us hu
   | succ i =>
     obtain ⟨ds',g1,g2⟩:=ih (pre++n1) post (by rw [he,List.append_assoc]) i cs (by rw [List.length_append,qhp h,<- Nat.add_assoc];exact hi)
     exact ⟨ds',by rw [<- g1];congr 1;omega,g2⟩
 | skip1 t ih=>exact λ pre post he i cs hi=>ih pre post he i cs hi
 | skip2 t ih=>exact λ pre post he i cs hi=>ih pre post he i cs hi
 | skip3 t ih=>exact λ pre post he i cs hi=>ih pre post he i cs hi
 | skip4 t ih=>exact λ pre post he i cs hi=>ih pre post he i cs hi
theorem qB5 {Γ1 Γ2:Gh} {ys zs:List AV} {u:Value} (hl:ys.length=zs.length) (h:∀ us,RepL Γ1 ys us->RepL Γ2 zs us) (hr:Rep Γ1 (zw ys) u):Rep Γ2 (zw zs) u:=by
 match ys,zs,hl with
 | [],[],_ =>
   cases hr with
   | tup cs us hn hr=>exact .tup [] us hn (h us ⟨hn,hr⟩).rep
 | [y],[z],_ =>
   obtain ⟨u',r,he,h1,_⟩:=(h [u] (.cons hr .nil)).uncons
   cases he
   exact h1
 | y::y'::ys,z::z'::zs,hl =>
   cases hr with
   | tup cs us hn hr=>exact .tup _ us (by rw [hn];exact hl) (h us ⟨hn,hr⟩).rep
theorem qB3 {β : Type} {f : β -> Option Nat}:∀ {l:List β},(l.filterMap f).Nodup->∀ (a b j:Nat) (x y : β),l[a]? = some x->l[b]? = some y->f x=some j->f y=some j->a=b
 | [],_,a,b,j,x,y,h,_,_,_=>by cases h
 | z::l,hn,a,b,j,x,y,ha,hb,hx,hy=>by
   have ht:(l.filterMap f).Nodup:=by
    cases hz:f z with
    | none=>rw [List.filterMap_cons_none hz] at hn;exact hn
    | some q=>rw [List.filterMap_cons_some hz] at hn;exact (List.nodup_cons.1 hn).2
   have hout:∀ {i:Nat} {w : β},l[i]? = some w->f z=some j->f w=some j->False := λ hi hz hw=>by
    rw [List.filterMap_cons_some hz] at hn
    exact (List.nodup_cons.1 hn).1 (List.mem_filterMap.2 ⟨_,List.mem_of_getElem? hi,hw⟩)
   cases a with
   | zero =>
     cases b with
     | zero=>rfl
     | succ b=>cases ha;exact (hout hb hx hy).elim
   | succ a =>
     cases b with
     | zero=>cases hb;exact (hout ha hy hx).elim
     | succ b=>rw [qB3 ht a b j x y ha hb hx hy]
theorem qz3 {P:Program} {c:TC} (hC:yc P c.pc.cfg) {f:FuncId} {fn:Func} {cd:Code} (hf:P.funcs[f]? = some fn) (hb:qaN fn=true) (hc:fn.body=some cd) (hnt:c.nt=fn.ntmps) (g:qkE) (hnp:c.np=qwH g.args) (hlen:g.args.length<=fn.ntmps)
  (h:∀ a v,g.fn a=some v->∃ n k,qkR c (qsf c g.args g.res fn.results.toList) n k [.code cd] (qdW 0 (qhv g.args 0 0 a)) ⟨sBx g.args 0 a,sRw g.args a⟩=some v):qT P f (sgP g):=by
 unfold qaN at hb
 rw [hc] at hb
 simp only [Bool.and_eq_true,Bool.not_eq_true'] at hb
 obtain ⟨hdr,hname⟩:=hb
 refine ⟨⟨fn,hf,by rw [hc];rfl,hname⟩,λ Γ σ w args vals r hi hr hp=>?_⟩
 unfold sgP at hp
 split at hp<;>try cases hp
 rename_i a ha
 split at hp<;>try cases hp
 rename_i v hv
 obtain ⟨N,k,hrun⟩:=h a v hv
 have h0:qfP ⟨λ i=>i,0,λ _=>none,λ _=>0,λ _=>[],[]⟩ σ 0 0:=⟨λ _=>rfl,rfl,λ id R h=>(by cases h),λ id r h=>absurd h (Nat.not_lt_zero _),λ id id' r h=>absurd h (Nat.not_lt_zero _),λ id R h=>(by cases h)⟩
 obtain ⟨m,nb',nr',s1,s2,s3,s4,s5,s6,s7,s8⟩:=qdM g.args ha h0
 have hal:args.length<=fn.ntmps:=Nat.le_trans s7 hlen
 have s5:0+(sBx g.args 0 a).length=nb':=s5
 have hnb : σ.bx.length=nBx g.args:=by rw [<- s3,<- s5,qgG];omega
 have hnp:c.np=nBx g.args:=hnp
 have hrel:Rel c.n2 m (qdW 0 (qhv g.args 0 0 a)) ⟨sBx g.args 0 a,sRw g.args a⟩ (args++List.replicate (fn.ntmps-args.length) .dead) { σ with wr:=[],wrr:=[] }:=by
  refine ⟨by show _=c.nt;rw [List.length_append,List.length_replicate,hnt];omega,λ t=>?_,s4,by show m.nb=(sBx g.args 0 a).length;rw [s2.nb];omega,λ b cs hb=>?_,λ b b' _ _ he=>by rw [s2.b,s2.b] at he;exact he,s2.rows,s2.rinj,λ i hi=>⟨?_,s2.b i⟩⟩
  ·have:=qwn (m:=m) 0 (pre:=[]) (post:=List.replicate (fn.ntmps-args.length) .dead) s6 rfl t
   simpa using this
  ·obtain ⟨ds,d1,d2⟩:=s8 b cs hb
   rw [Nat.zero_add] at d1
   exact ⟨ds,by rw [s2.b];exact d1,d2⟩
  ·have hi:i<c.np:=hi
   rw [s2.nb,s3,hnb,<- hnp];exact hi
 have hgo:Go c.pc (λ e s=>(e = .ret\/e = .normal)/\∃ m E τ,Rel c.n2 m E τ s.tm s.σ /\ qsf c g.args g.res fn.results.toList E τ = some v) [.code cd] .normal ⟨args++List.replicate (fn.ntmps-args.length) .dead,{ σ with wr:=[],wrr:=[] }⟩ :=
  qpK (Qr := λ v e s=>(e = .ret\/e = .normal)/\∃ m E τ,Rel c.n2 m E τ s.tm s.σ /\ qsf c g.args g.res fn.results.toList E τ = some v) (λ E τ r m tm σ h hr e he=>⟨he,m,E,τ,hr,h⟩) N k _ _ _ _ _ _ _ hrun hrel
 obtain ⟨n,e,s',g3,hee,m2,E2,τ2,hr2,hfin⟩:=hgo
 unfold jr
 refine calls_of_wp hf hc ?_
 have hi':Inv Γ (qea fn σ args).σ w:=hi.wr rfl rfl
 have ht:zg Γ (qea fn σ args).tm { tmps:=vals.toArray++Array.replicate (fn.ntmps-vals.toArray.size) undef,defers:=[] }:=by
  show RepL Γ (args++List.replicate (fn.ntmps-args.length) .dead) (vals.toArray++Array.replicate (fn.ntmps-vals.toArray.size) undef).toList
  rw [Array.toList_append,Array.toList_replicate]
  have:vals.toArray.size=args.length:=by simpa using hr.len
  rw [this]
  exact hr.append (qdu Γ _)
 refine wp_mono (qsC hC n cd _ e s' hdr (qvK g3) Γ w _ hi' ht rfl) ?_
 rintro e' a' w' ⟨rfl,hd,Γ',x1,x2,x3,x4⟩
 unfold qsf at hfin
 split at hfin<;>try cases hfin
 rename_i o iB q hoB
 split at hfin<;>try cases hfin
 rename_i vv ids bs q' hoR
 split at hfin<;>cases hfin
 rename_i hcond
 rw [Bool.and_eq_true,Bool.and_eq_true,Bool.and_eq_true,List.all_eq_true] at hcond
 obtain ⟨hids,hbs,ys,hys,hFR⟩:=qcy hr2 (rws:=Q9 g.args o) hoR
 obtain ⟨vr,q1,q2⟩:=qjL hC.ty x2 x3 (fn:=fn) (r:=zw ys) (by unfold qeI;rw [hys])
 have hpin:∀ i,i<nBx g.args->m2.b (0+i)=0+i := λ i hi=>by rw [Nat.zero_add];exact (hr2.pin i (by rw [<- hnp] at hi;exact hi)).2
 obtain ⟨hidB,hFB⟩:=qeA hr2 g.args hoB hpin
 have hfs:∃ fs,(((∀ ds∈s'.σ.bx,∀ x∈ds,∀ r∈rsC x,r∈fs)/\iB=[])\/(q=true/\fs=[]))/\(((∀ y∈ys,∀ r∈rsA y,r∈fs)/\(∀ b∈bs,∀ ds,s'.σ.bx[m2.b b]? = some ds->∀ x∈ds,∀ r∈rsC x,r∈fs)/\ids=[])\/(q'=true/\fs=[])):=by
  rcases Bool.or_eq_true_iff.1 hcond.2.1 with hc | hc
  ·have hc:iB++ids=[]:=by simpa [List.isEmpty_iff] using hc
   obtain ⟨hc1,hc2⟩:=List.append_eq_nil_iff.1 hc
   exact ⟨(s'.σ.bx.flatMap λ ds=>ds.flatMap rsC)++ys.flatMap rsA,.inl ⟨λ ds hds x hx r hr=>List.mem_append.2 (.inl (List.mem_flatMap.2 ⟨ds,hds,List.mem_flatMap.2 ⟨x,hx,hr⟩⟩)),hc1⟩,.inl ⟨λ y hy r hr=>List.mem_append.2 (.inr (List.mem_flatMap.2 ⟨y,hy,hr⟩)),λ b _ ds hds x hx r hr=>List.mem_append.2 (.inl (List.mem_flatMap.2 ⟨ds,List.mem_of_getElem? hds,List.mem_flatMap.2 ⟨x,hx,hr⟩⟩)),hc2⟩⟩
  ·rw [Bool.and_eq_true] at hc
   exact ⟨[],.inr ⟨hc.1,rfl⟩,.inr ⟨hc.2,rfl⟩⟩
 obtain ⟨fs,f1,f2⟩:=hfs
 obtain ⟨nB,b1,b2,b3⟩:=hFB fs f1
 have hlB:nB.length=nrB g.args:=by rw [<- J0 g.args o,<- b2,List.length_map]
 obtain ⟨rs',v',nE,n1,n2,n3,n4⟩:=hFR fs nB (nBx g.args) (nrB g.args) (qIm hr2 hoB b3.2) (by rw [Js];exact Nat.le_refl _) f2
 rw [n4] at hp
 cases hp
 have hnd:((nB++nE).filterMap (·.1)).Nodup:=by
  rw [List.filterMap_append,b3.1,n3,<- List.filterMap_append]
  have hid:∀ id∈iB++ids,id<m2.rw.length := λ id h=>(List.mem_append.1 h).elim (hidB id) (hids id)
  exact qvv (qhz hcond.1) λ x hx y hy q e1 e2=>hr2.rinj x y q (hid x hx) (hid y hy) e1 e2
 have hnw:qlS s'.σ fs (nB++nE) := λ p hp=>(List.mem_append.1 hp).elim (b1.newOk p) (n1.newOk p)
 obtain ⟨kp1,kp2⟩:=n1.kept
 have hkn:(bs.map m2.b).Nodup:=qrD (qhz hcond.2.2.1) λ a ha b hb he=>hr2.inj a b (hbs a ha) (hbs b hb) he
 have hkl:∀ b∈bs.map m2.b,σ.bx.length<=b/\b<s'.σ.bx.length := λ b hb=>by
  refine ⟨?_,kp1 b hb⟩
  obtain ⟨b0,h1,rfl⟩:=List.mem_map.1 hb
  have hge:=Nat.le_of_ble_eq_true (hcond.2.2.2 b0 h1)
  rw [hnb]
  refine Nat.le_of_not_lt λ hlt=>?_
  have e1:=hpin (m2.b b0) hlt
  rw [Nat.zero_add] at e1
  have:=hr2.inj (m2.b b0) b0 (hr2.pin _ (by show _<c.np;rw [hnp];exact hlt)).1 (hbs b0 h1) e1
  omega
 obtain ⟨mm,z1,z2,z3,z4⟩:=qqB (σ0 := σ) hi x1 x2 x4.bl (jt g.args σ.rw.length o++je rs' (σ.rw.length+nrB g.args) v') (bs.map m2.b) (by rw [List.length_append,JE,hnb,kp2]) hkl hkn fs (nB++nE) (λ i cs hics=>by
  by_cases hin:i < σ.bx.length
  ·rw [List.getElem?_append_left (by rw [JE,<- hnb];exact hin)] at hics
   have hics:(jt g.args (σ.rw.length+0) o)[i]? = some cs:=hics
   have hil:i<s'.σ.bx.length:=Nat.lt_of_lt_of_le hin x4.bl
   have hbm:qeZ σ.bx.length (bs.map m2.b) i=i:=if_pos hin
   rw [hbm]
   refine ⟨s'.σ.bx[i],List.getElem?_eq_getElem hil,λ m fz hfr us hu=>?_⟩
   obtain ⟨ds',d1,d2⟩:=b1.rep x2 fz.le hfr σ.bx.length σ.rw.length (kb:=bs.map m2.b) (nB++nE) [] nE rfl i cs hics
   rw [Nat.zero_add,List.getElem?_eq_getElem hil] at d1
   cases d1
   exact d2 us hu
  ·rw [List.getElem?_append_right (by rw [JE,<- hnb];omega),JE,<- hnb,<- hlB] at hics
   have hics0:=hics
   have hjl:=getElem?_lt hics
   rw [kp2] at hjl
   obtain ⟨b,k1⟩:∃ b,(bs.map m2.b)[i - σ.bx.length]? = some b:=⟨_,List.getElem?_eq_getElem hjl⟩
   obtain ⟨ds,k2⟩:∃ ds,s'.σ.bx[b]? = some ds:=⟨_,List.getElem?_eq_getElem (kp1 _ (List.mem_of_getElem? k1))⟩
   refine ⟨ds,?_,λ m fz hfr us hu=>?_⟩
   ·unfold qeZ
    rw [if_neg hin,List.getD_eq_getElem?_getD,k1]
    exact k2
   ·obtain ⟨b',ds',k1',k2',k3'⟩:=n1.boxes x2 fz.le hfr σ.bx.length σ.rw.length (bs.map m2.b) (nB++nE) nB rfl _ cs hics0
    cases k1.symm.trans k1'
    cases k2.symm.trans k2'
    exact k3' us hu) (λ a so R h=>hnw (so,R) (List.mem_of_getElem? h)) (λ a b j R R' h1 h2=>qB3 hnd a b j _ _ h1 h2 rfl rfl) (List.range σ.bx.length) (List.range σ.rw.length)
 have hrep:Rep (yv Γ' mm σ.bx.length (bs.map m2.b) σ.rw.length (nB++nE)) (zw (yH rs' (σ.rw.length+nrB g.args) v')) vr:=by
  refine qB5 (n1.len _) (λ us hu=>?_) q2
  rw [<- hlB]
  exact n1.rep x2 z1.le z2 σ.bx.length σ.rw.length (bs.map m2.b) (nB++nE) hnw (λ p x hx=>by rw [List.getElem?_append_left (getElem?_lt hx)];exact hx) nB rfl hlB (by rw [hnb];exact Nat.le_refl _) (λ j b hj=>by rw [hnb,Nat.sub_self,Nat.zero_add];exact hj) us hu
 rw [List.map_append,b2,n2] at z4
 have hkeep:qM { σ with wr:=[],wrr:=[] } ⟨jt g.args σ.rw.length o++je rs' (σ.rw.length+nrB g.args) v',σ.rw.map jN++(jv g.args o++yV rs' v'),List.range σ.bx.length,List.range σ.rw.length⟩:=by
  refine ⟨by show σ.bx.length<=(jt g.args σ.rw.length o++_).length;rw [List.length_append,JE,hnb];exact Nat.le_add_right _ _,by show σ.rw.length<=(σ.rw.map jN++_).length;rw [List.length_append,List.length_map];exact Nat.le_add_right _ _,λ i hi hn=>absurd (List.mem_range.2 hi) hn,λ i hi hn=>absurd (List.mem_range.2 hi) hn,λ i h=>(by cases h),λ i h=>(by cases h)⟩
 have fin:a'.defers=[]/\∃ v,(results fn a'.tmps).run P w' = .ok v w'/\∃ v_1 Γ',Ending.returned v = .returned v_1/\Ext Γ w Γ' w'/\Inv Γ' ⟨jt g.args σ.rw.length o++je rs' (σ.rw.length+nrB g.args) v',σ.rw.map jN++(jv g.args o++yV rs' v'),List.range σ.bx.length,List.range σ.rw.length⟩ w'/\Rep Γ' (zw (yH rs' (σ.rw.length+nrB g.args) v')) v_1/\qM { σ with wr:=[],wrr:=[] } ⟨jt g.args σ.rw.length o++je rs' (σ.rw.length+nrB g.args) v',σ.rw.map jN++(jv g.args o++yV rs' v'),List.range σ.bx.length,List.range σ.rw.length⟩ :=
  ⟨hd,vr,q1,vr,_,rfl,z3,z4,hrep,hkeep⟩
 rcases hee with rfl | rfl
 ·exact fin
 ·exact fin
end
end Go.AmZ
namespace Go.AmZ
open Go Go.RowKit Go.GxZ
def qP {α : Type} (z : α) (s : α -> α):Nat -> α := λ k=>Nat.rec (motive := λ _ => α) z (λ _ ih=>s ih) k
def qg {α : Type} (z : α) (s:Nat -> α -> α):Nat -> α := λ k=>Nat.rec (motive := λ _ => α) z (λ m ih=>s m ih) k
abbrev Y8:=List UInt8
abbrev TL:=List T
def qrg:Nat:=4000
def qka (r:Nat):Code->List It->Option (List It)
 | .seq a b,k=>match qka r a (.code b::k) with
   | some x=>some x
   | none=>qka r b k
 | .cond _ a b,k=>match qka r a k with
   | some x=>some x
   | none=>qka r b k
 | .block id b,k=>qka r b (.blk id::k)
 | .loop b,k=>match Nat.beq (qci b) r with
   | true=>some (.code (.loop b)::k)
   | false=>qka r b (.code (.loop b)::k)
 | _,_=>none
def qnh (f:Func):Code:=match f.body with
 | some c=>c
 | none => .skip
def stL (f:Func) (r:Nat):List It:=match qka r (qnh f) [] with
 | some x=>x
 | none=>[]
def qi1:List Nat->List Nat->Bool
 | [],[]=>true
 | a::l,b::m=>Nat.beq a b&&qi1 l m
 | _,_=>false
def qr3 (a b:List Nat) (x y:Option Sig):Option Sig:=cond (qi1 a b) x y
def qFy (f:Nat):List Nat->Bool
 | []=>false
 | a::l=>cond (Nat.beq a f) true (qFy f l)
theorem qm6:∀ {a b:List Nat},qi1 a b=true->a=b
 | [],[],_=>rfl
 | a::l,b::m,h=>by
   simp only [qi1,Bool.and_eq_true] at h
   rw [Nat.eq_of_beq_eq_true h.1,qm6 h.2]
 | [],_::_,h=>by cases h
 | _::_,[],h=>by cases h
theorem qtu {a b:List Nat} {x y:Option Sig} {g:Sig} (h:qr3 a b x y=some g):(a=b/\x=some g)\/y=some g:=by
 unfold qr3 at h
 cases hb:qi1 a b with
 | true=>rw [hb] at h;exact .inl ⟨qm6 hb,h⟩
 | false=>rw [hb] at h;exact .inr h
def qsj:(ts:List ATy)->qab ts->List Nat->List TV
 | [],_,_=>[]
 | .val τ :: r,a,gs=>qph τ a.1::qsj r a.2 gs
 | .fn::r,a,g::gs => .fn g []::qsj r a gs
 | .fn::r,a,[] => .dead::qsj r a []
def jp:(ts:List ATy)->qab ts->List Nat->List AV
 | [],_,_=>[]
 | .val τ :: r,a,gs=>yi τ a.1::jp r a.2 gs
 | .fn::r,a,g::gs => .fn g []::jp r a gs
 | .fn::r,a,[] => .dead::jp r a []
theorem qiA:∀ (ts:List ATy) (a:qab ts) (gs:List Nat),(jp ts a gs).length=ts.length
 | [],_,_=>rfl
 | .val τ :: r,a,gs=>by simp [jp,qiA r]
 | .fn::r,a,g::gs=>by simp [jp,qiA r]
 | .fn::r,a,[]=>by simp [jp,qiA r]
theorem qkH {m:Mp}:∀ (ts:List ATy) (a:qab ts) (gs:List Nat),OKL m (qsj ts a gs) (jp ts a gs)
 | [],_,_=>rfl
 | .val τ :: r,a,gs=>⟨_,_,rfl,qnw τ a.1,qkH r a.2 gs⟩
 | .fn::r,a,g::gs=>⟨_,_,rfl,⟨[],rfl,rfl⟩,qkH r a gs⟩
 | .fn::r,a,[]=>⟨_,_,rfl,trivial,qkH r a []⟩
theorem qhY:∀ (ts:List ATy) {ys:List AV} {a:qab ts},qbw ts ys=some a->jC ys (jp ts a (qc2 ys))
 | [],ys,a,h=>by
   cases ys with
   | nil=>exact .nil
   | cons y ys=>cases h
 | .val τ :: r,ys,a,h=>by
   obtain ⟨y,ys,rfl,h1,h2⟩:=qtE h
   have hf:qc2 (y::ys)=qc2 ys:=by
    have:=(qaM h1).2
    cases y<;>first | rfl | exact absurd rfl (this _ _)
   rw [hf]
   exact .cons (qnB h1) (qhY r h2)
 | .fn::r,ys,a,h=>by
   change dFn _ ys=_ at h
   unfold dFn at h
   split at h
   case h_2=>cases h
   exact .cons (.refl _) (qhY r h)
theorem Qw {P:Program} {f:FuncId} {fn:Func} (hf:P.funcs[f]? = some fn) (hb:qaN fn=true):qdw P f:=by
 unfold qaN at hb
 cases hc:fn.body with
 | none=>rw [hc] at hb;cases hb
 | some cd =>
   rw [hc] at hb
   simp only [Bool.and_eq_true,Bool.not_eq_true'] at hb
   exact ⟨fn,hf,by rw [hc];rfl,hb.2⟩
theorem qCl {P:Program} {c:TC} {f:FuncId} (hf:qdw P f) (h:∀ gs g a,c.pf f gs=some g->g.fn a=none):qT P f (Qs (yz c f)):=by
 refine ⟨hf,λ Γ σ w args vals r hi hr hp=>?_⟩
 have:∀ ys,yz c f ys=none:=by
  intro ys
  unfold yz
  split
  ·rename_i g hg
   split
   ·rename_i a ha
    rw [h _ g a hg]
   ·rfl
  ·rfl
 unfold Qs at hp
 split at hp<;>try cases hp
 rw [this] at hp
 cases hp
theorem qp8 {P:Program} {f:FuncId} {g:qkE} (hf:qdw P f) (h:∀ a,g.fn a=none):qT P f (sgP g):=by
 refine ⟨hf,λ Γ σ w args vals r hi hr hp=>?_⟩
 unfold sgP at hp
 split at hp<;>try cases hp
 rw [h] at hp
 cases hp
theorem qEV {P:Program} {c:TC} (hC:yc P c.pc.cfg) {f:FuncId} {fn:Func} {cd:Code} (hf:P.funcs[f]? = some fn) (hb:qaN fn=true) (hc:fn.body=some cd) (hnt:c.nt=fn.ntmps) (g:qkE) (hnp:c.np=qwH g.args) (hlen:g.args.length<=fn.ntmps)
  (h:∃ N k,∀ a,g.fn a=qkR c (qsf c g.args g.res fn.results.toList) N k [.code cd] (qdW 0 (qhv g.args 0 0 a)) ⟨sBx g.args 0 a,sRw g.args a⟩):qT P f (sgP g):=by
 obtain ⟨N,k,h⟩:=h
 exact qz3 hC hf hb hc hnt g hnp hlen λ a v hv=>⟨N,k,by rw [<- h a];exact hv⟩
theorem qCw {P:Program} {c:TC} (hm:P.follows .mixedOrders=true) (ht:∀ t d,c.ty t=some d->yM P t=some d) (h:∀ f,c.has f=true->qT P f (Qs (yz c f))) (h2:∀ f g,c.sf f=some g->qT P f (sgP g)) (h3:∀ f g,c.mf f=some g->qT P f (mgP g)) (h4:∀ f g,c.xf f=some g->qT P f (xgP g)):yc P c.pc.cfg:=by
 refine ⟨hm,ht,(λ f fn h=>by cases h),λ f p hp=>?_⟩
 have hp:c.pc.prim f=some p:=hp
 unfold PC.prim at hp
 have e1:c.pc.pf f=match c.has f with | true=>some (yz c f) | false=>none:=rfl
 have e2:c.pc.sp f=c.spf f:=rfl
 rw [e1,e2] at hp
 unfold TC.spf at hp
 cases hh:c.has f with
 | true =>
   rw [hh] at hp
   cases hp
   exact h f hh
 | false =>
   rw [hh] at hp
   cases hmf:c.mf f with
   | some g =>
     rw [hmf] at hp
     cases hp
     exact h3 f g hmf
   | none =>
     rw [hmf] at hp
     cases hxf:c.xf f with
     | some g =>
       rw [hxf] at hp
       cases hp
       exact h4 f g hxf
     | none =>
       rw [hxf] at hp
       cases hg:c.sf f with
       | none=>rw [hg] at hp;cases hp
       | some g =>
         rw [hg] at hp
         cases hp
         exact h2 f g hg
end Go.AmZ
namespace Go.AmZ
open Go
inductive qgQ where
 | leaf
 | node (k:Nat) (d:TD) (l r:qgQ)
def qgQ.get:qgQ->Nat->Option TD
 | .leaf,_=>none
 | .node k d l r,t=>match Nat.beq t k with
   | true=>some d
   | false=>match Nat.blt t k with
     | true=>l.get t
     | false=>r.get t
def qgQ.ok (P:Program):qgQ->Prop
 | .leaf=>True
 | .node k d l r=>yM P k=some d/\l.ok P/\r.ok P
theorem qgQ.get_ok {P:Program}:∀ {x:qgQ} {t:Nat} {d:TD},x.ok P->x.get t=some d->yM P t=some d
 | .leaf,t,d,_,h=>by cases h
 | .node k d' l r,t,d,⟨h1,h2,h3⟩,h=>by
   simp only [qgQ.get] at h
   split at h
   ·rename_i hb
    cases h
    rw [Nat.eq_of_beq_eq_true hb];exact h1
   ·split at h
    ·exact get_ok h2 h
    ·exact get_ok h3 h
def qBm:qgQ:=(.node 100 ⟨1,8,false,[Value.pointer none],TK.ptr⟩
 (.node 21 ⟨1,4,false,[Value.int IntKind.i32 (0)],TK.int IntKind.i32⟩
 (.node 11 ⟨1,16,false,[Value.string { data:={ toList:=[] } }],TK.string⟩
 (.node 6 ⟨1,1,false,[Value.int IntKind.u8 (0)],TK.int IntKind.u8⟩
 (.node 4 ⟨1,1,false,[Value.bool false],TK.bool⟩
 (.node 3 ⟨1,8,false,[Value.int IntKind.i64 (0)],TK.int IntKind.i64⟩
 (.node 2 ⟨1,8,false,[Value.int IntKind.i64 (0)],TK.int IntKind.i64⟩
 .leaf
 .leaf)
 .leaf)
 (.node 5 ⟨1,1,false,[Value.int IntKind.u8 (0)],TK.int IntKind.u8⟩
 .leaf
 .leaf))
 (.node 9 ⟨1,16,false,[Value.string { data:={ toList:=[] } }],TK.string⟩
 (.node 8 ⟨4,24,true,[Value.int IntKind.i64 (0),Value.int IntKind.i64 (0),Value.bool false,Value.int IntKind.u8 (0)],TK.struct [(0,1,false),(1,1,false),(2,1,false),(3,1,false)]⟩
 (.node 7 ⟨4,24,true,[Value.int IntKind.i64 (0),Value.int IntKind.i64 (0),Value.bool false,Value.int IntKind.u8 (0)],TK.struct [(0,1,false),(1,1,false),(2,1,false),(3,1,false)]⟩
 .leaf
 .leaf)
 .leaf)
 (.node 10 ⟨1,16,false,[Value.string { data:={ toList:=[] } }],TK.string⟩
 .leaf
 .leaf)))
 (.node 16 ⟨1,8,false,[Value.pointer none],TK.ptr⟩
 (.node 14 ⟨2,24,true,[Value.string { data:={ toList:=[] } },Value.int IntKind.u64 (0)],TK.struct [(0,1,false),(1,1,false)]⟩
 (.node 13 ⟨2,24,true,[Value.string { data:={ toList:=[] } },Value.int IntKind.u64 (0)],TK.struct [(0,1,false),(1,1,false)]⟩
 (.node 12 ⟨1,8,false,[Value.int IntKind.u64 (0)],TK.int IntKind.u64⟩
 .leaf
 .leaf)
 .leaf)
 (.node 15 ⟨1,8,false,[Value.pointer none],TK.ptr⟩
 .leaf
 .leaf))
 (.node 19 ⟨1,8,true,[Value.pointer none],TK.struct [(0,1,false)]⟩
 (.node 18 ⟨1,8,true,[Value.pointer none],TK.struct [(0,1,false)]⟩
 (.node 17 ⟨1,8,false,[Value.pointer none],TK.ptr⟩
 .leaf
 .leaf)
 .leaf)
 (.node 20 ⟨1,16,false,[Value.nilIface],TK.other⟩
 .leaf
 .leaf))))
 (.node 45 ⟨1,24,false,[Value.slice none 0 0],TK.slice 5 1 1 [Value.int IntKind.u8 (0)]⟩
 (.node 28 ⟨7,96,true,[Value.int IntKind.i64 (0),Value.string { data:={ toList:=[] } },Value.int IntKind.i64 (0),Value.slice none 0 0,Value.int IntKind.i64 (0),Value.slice none 0 0,Value.int IntKind.i64 (0)],TK.struct [(0,4,true),(4,1,false),(5,1,false),(6,1,false)]⟩
 (.node 24 ⟨4,56,true,[Value.int IntKind.i64 (0),Value.string { data:={ toList:=[] } },Value.int IntKind.i64 (0),Value.slice none 0 0],TK.struct [(0,1,false),(1,1,false),(2,1,false),(3,1,false)]⟩
 (.node 23 ⟨4,56,true,[Value.int IntKind.i64 (0),Value.string { data:={ toList:=[] } },Value.int IntKind.i64 (0),Value.slice none 0 0],TK.struct [(0,1,false),(1,1,false),(2,1,false),(3,1,false)]⟩
 (.node 22 ⟨1,24,false,[Value.slice none 0 0],TK.slice 24 4 56 [Value.int IntKind.i64 (0),Value.string { data:={ toList:=[] } },Value.int IntKind.i64 (0),Value.slice none 0 0]⟩
 .leaf
 .leaf)
 .leaf)
 (.node 27 ⟨1,24,false,[Value.slice none 0 0],TK.slice 77 5 64 [Value.int IntKind.i64 (0),Value.int IntKind.i64 (0),Value.string { data:={ toList:=[] } },Value.int IntKind.i64 (0),Value.slice none 0 0]⟩
 .leaf
 .leaf))
 (.node 38 ⟨5,64,true,[Value.int IntKind.i64 (0),Value.int IntKind.i64 (0),Value.string { data:={ toList:=[] } },Value.int IntKind.i64 (0),Value.slice none 0 0],TK.struct [(0,1,false),(1,4,true)]⟩
 (.node 30 ⟨1,8,false,[Value.int IntKind.i64 (0)],TK.int IntKind.i64⟩
 (.node 29 ⟨7,96,true,[Value.int IntKind.i64 (0),Value.string { data:={ toList:=[] } },Value.int IntKind.i64 (0),Value.slice none 0 0,Value.int IntKind.i64 (0),Value.slice none 0 0,Value.int IntKind.i64 (0)],TK.struct [(0,4,true),(4,1,false),(5,1,false),(6,1,false)]⟩
 .leaf
 .leaf)
 .leaf)
 (.node 39 ⟨5,64,true,[Value.int IntKind.i64 (0),Value.int IntKind.i64 (0),Value.string { data:={ toList:=[] } },Value.int IntKind.i64 (0),Value.slice none 0 0],TK.struct [(0,1,false),(1,4,true)]⟩
 .leaf
 .leaf)))
 (.node 59 ⟨1,24,false,[Value.slice none 0 0],TK.slice 65 2 2 [Value.int IntKind.u8 (0),Value.int IntKind.u8 (0)]⟩
 (.node 52 ⟨8,8,true,[Value.bool false,Value.bool false,Value.bool false,Value.bool false,Value.bool false,Value.bool false,Value.bool false,Value.bool false],TK.array 8 4 1⟩
 (.node 49 ⟨1,24,false,[Value.slice none 0 0],TK.slice 9 1 16 [Value.string { data:={ toList:=[] } }]⟩
 (.node 47 ⟨1,24,false,[Value.slice none 0 0],TK.slice 39 5 64 [Value.int IntKind.i64 (0),Value.int IntKind.i64 (0),Value.string { data:={ toList:=[] } },Value.int IntKind.i64 (0),Value.slice none 0 0]⟩
 .leaf
 .leaf)
 .leaf)
 (.node 57 ⟨1,24,false,[Value.slice none 0 0],TK.slice 3 1 8 [Value.int IntKind.i64 (0)]⟩
 .leaf
 .leaf))
 (.node 76 ⟨5,64,true,[Value.int IntKind.i64 (0),Value.int IntKind.i64 (0),Value.string { data:={ toList:=[] } },Value.int IntKind.i64 (0),Value.slice none 0 0],TK.struct [(0,1,false),(1,4,true)]⟩
 (.node 65 ⟨2,2,true,[Value.int IntKind.u8 (0),Value.int IntKind.u8 (0)],TK.struct [(0,1,false),(1,1,false)]⟩
 (.node 64 ⟨2,2,true,[Value.int IntKind.u8 (0),Value.int IntKind.u8 (0)],TK.struct [(0,1,false),(1,1,false)]⟩
 .leaf
 .leaf)
 .leaf)
 (.node 77 ⟨5,64,true,[Value.int IntKind.i64 (0),Value.int IntKind.i64 (0),Value.string { data:={ toList:=[] } },Value.int IntKind.i64 (0),Value.slice none 0 0],TK.struct [(0,1,false),(1,4,true)]⟩
 .leaf
 .leaf)))))
 (.node 182 ⟨1,24,false,[Value.slice none 0 0],TK.slice 22 1 24 [Value.slice none 0 0]⟩
 (.node 152 ⟨5,64,true,[Value.int IntKind.i64 (0),Value.string { data:={ toList:=[] } },Value.int IntKind.i64 (0),Value.slice none 0 0,Value.int IntKind.i64 (0)],TK.struct [(0,4,true),(4,1,false)]⟩
 (.node 123 ⟨1,24,false,[Value.slice none 0 0],TK.slice 4 1 1 [Value.bool false]⟩
 (.node 119 ⟨1,8,false,[Value.map none],TK.other⟩
 (.node 113 ⟨4,40,true,[Value.string { data:={ toList:=[] } },Value.int IntKind.i64 (0),Value.int IntKind.i64 (0),Value.int IntKind.i64 (0)],TK.struct [(0,1,false),(1,1,false),(2,1,false),(3,1,false)]⟩
 (.node 112 ⟨4,40,true,[Value.string { data:={ toList:=[] } },Value.int IntKind.i64 (0),Value.int IntKind.i64 (0),Value.int IntKind.i64 (0)],TK.struct [(0,1,false),(1,1,false),(2,1,false),(3,1,false)]⟩
 .leaf
 .leaf)
 .leaf)
 (.node 121 ⟨1,24,false,[Value.slice none 0 0],TK.slice 126 2 32 [Value.slice none 0 0,Value.int IntKind.i64 (0)]⟩
 .leaf
 .leaf))
 (.node 130 ⟨1,24,false,[Value.slice none 0 0],TK.slice 113 4 40 [Value.string { data:={ toList:=[] } },Value.int IntKind.i64 (0),Value.int IntKind.i64 (0),Value.int IntKind.i64 (0)]⟩
 (.node 126 ⟨2,32,true,[Value.slice none 0 0,Value.int IntKind.i64 (0)],TK.struct [(0,1,false),(1,1,false)]⟩
 (.node 125 ⟨2,32,true,[Value.slice none 0 0,Value.int IntKind.i64 (0)],TK.struct [(0,1,false),(1,1,false)]⟩
 .leaf
 .leaf)
 .leaf)
 (.node 137 ⟨1,24,false,[Value.slice none 0 0],TK.slice 153 5 64 [Value.int IntKind.i64 (0),Value.string { data:={ toList:=[] } },Value.int IntKind.i64 (0),Value.slice none 0 0,Value.int IntKind.i64 (0)]⟩
 .leaf
 .leaf)))
 (.node 163 ⟨1,24,false,[Value.slice none 0 0],TK.slice 137 1 24 [Value.slice none 0 0]⟩
 (.node 158 ⟨2,48,true,[Value.slice none 0 0,Value.slice none 0 0],TK.struct [(0,1,false),(1,1,false)]⟩
 (.node 155 ⟨1,24,false,[Value.slice none 0 0],TK.slice 159 2 48 [Value.slice none 0 0,Value.slice none 0 0]⟩
 (.node 153 ⟨5,64,true,[Value.int IntKind.i64 (0),Value.string { data:={ toList:=[] } },Value.int IntKind.i64 (0),Value.slice none 0 0,Value.int IntKind.i64 (0)],TK.struct [(0,4,true),(4,1,false)]⟩
 .leaf
 .leaf)
 .leaf)
 (.node 159 ⟨2,48,true,[Value.slice none 0 0,Value.slice none 0 0],TK.struct [(0,1,false),(1,1,false)]⟩
 .leaf
 .leaf))
 (.node 176 ⟨3,72,true,[Value.slice none 0 0,Value.slice none 0 0,Value.slice none 0 0],TK.struct [(0,1,false),(1,1,false),(2,1,false)]⟩
 (.node 175 ⟨1,24,false,[Value.slice none 0 0],TK.slice 57 1 24 [Value.slice none 0 0]⟩
 (.node 172 ⟨1,8,false,[Value.int IntKind.u64 (0)],TK.int IntKind.u64⟩
 .leaf
 .leaf)
 .leaf)
 (.node 177 ⟨3,72,true,[Value.slice none 0 0,Value.slice none 0 0,Value.slice none 0 0],TK.struct [(0,1,false),(1,1,false),(2,1,false)]⟩
 .leaf
 .leaf))))
 (.node 231 ⟨0,0,true,[],TK.struct [(0,0,true)]⟩
 (.node 210 ⟨1,8,false,[Value.int IntKind.u64 (0)],TK.int IntKind.u64⟩
 (.node 196 ⟨1,8,false,[Value.int IntKind.u64 (0)],TK.int IntKind.u64⟩
 (.node 194 ⟨1,4,false,[Value.int IntKind.u32 (0)],TK.int IntKind.u32⟩
 (.node 186 ⟨1,8,false,[Value.int IntKind.i64 (0)],TK.int IntKind.i64⟩
 .leaf
 .leaf)
 .leaf)
 (.node 203 ⟨1,8,false,[Value.pointer none],TK.ptr⟩
 .leaf
 .leaf))
 (.node 229 ⟨4,40,true,[Value.pointer none,Value.pointer none,Value.pointer none,Value.string { data:={ toList:=[] } }],TK.struct [(0,1,false),(1,1,false),(2,1,false),(3,1,false)]⟩
 (.node 228 ⟨4,40,true,[Value.pointer none,Value.pointer none,Value.pointer none,Value.string { data:={ toList:=[] } }],TK.struct [(0,1,false),(1,1,false),(2,1,false),(3,1,false)]⟩
 (.node 222 ⟨1,8,false,[Value.pointer none],TK.ptr⟩
 .leaf
 .leaf)
 .leaf)
 (.node 230 ⟨0,0,true,[],TK.array 0 16 1⟩
 .leaf
 .leaf)))
 (.node 238 ⟨1,4,false,[Value.int IntKind.i32 (0)],TK.int IntKind.i32⟩
 (.node 235 ⟨1,1,false,[Value.int IntKind.u8 (0)],TK.int IntKind.u8⟩
 (.node 234 ⟨1,1,false,[Value.int IntKind.u8 (0)],TK.int IntKind.u8⟩
 (.node 232 ⟨0,0,true,[],TK.struct [(0,0,true)]⟩
 .leaf
 .leaf)
 .leaf)
 (.node 237 ⟨1,8,false,[Value.pointer none],TK.ptr⟩
 .leaf
 .leaf))
 (.node 241 ⟨11,48,true,[Value.int IntKind.u64 (0),Value.int IntKind.u64 (0),Value.int IntKind.u32 (0),Value.int IntKind.u8 (0),Value.int IntKind.u8 (0),Value.int IntKind.u8 (0),Value.int IntKind.u8 (0),Value.nilFunc,Value.pointer none,Value.int IntKind.i32 (0),Value.int IntKind.i32 (0)],TK.struct [(0,1,false),(1,1,false),(2,1,false),(3,1,false),(4,1,false),(5,1,false),(6,1,false),(7,1,false),(8,1,false),(9,1,false),(10,1,false)]⟩
 (.node 240 ⟨11,48,true,[Value.int IntKind.u64 (0),Value.int IntKind.u64 (0),Value.int IntKind.u32 (0),Value.int IntKind.u8 (0),Value.int IntKind.u8 (0),Value.int IntKind.u8 (0),Value.int IntKind.u8 (0),Value.nilFunc,Value.pointer none,Value.int IntKind.i32 (0),Value.int IntKind.i32 (0)],TK.struct [(0,1,false),(1,1,false),(2,1,false),(3,1,false),(4,1,false),(5,1,false),(6,1,false),(7,1,false),(8,1,false),(9,1,false),(10,1,false)]⟩
 (.node 239 ⟨1,4,false,[Value.int IntKind.i32 (0)],TK.int IntKind.i32⟩
 .leaf
 .leaf)
 .leaf)
 (.node 242 ⟨1,8,false,[Value.pointer none],TK.other⟩
 .leaf
 .leaf))))))
def tyT (t:Nat):Option TD:=qBm.get t
theorem qBa (t:Nat) (d:TD) (h:tyT t=some d):yM Go.Proofs.Tryz.prog t=some d :=
 qgQ.get_ok (show qgQ.ok Go.Proofs.Tryz.prog qBm from ⟨by kernel_rfl,⟨by kernel_rfl,⟨by kernel_rfl,⟨by kernel_rfl,⟨by kernel_rfl,⟨by kernel_rfl,⟨by kernel_rfl,trivial,trivial⟩,trivial⟩,⟨by kernel_rfl,trivial,trivial⟩⟩,⟨by kernel_rfl,⟨by kernel_rfl,⟨by kernel_rfl,trivial,trivial⟩,trivial⟩,⟨by kernel_rfl,trivial,trivial⟩⟩⟩,⟨by kernel_rfl,⟨by kernel_rfl,⟨by kernel_rfl,⟨by kernel_rfl,trivial,trivial⟩,trivial⟩,⟨by kernel_rfl,trivial,trivial⟩⟩,⟨by kernel_rfl,⟨by kernel_rfl,⟨by kernel_rfl,trivial,trivial⟩,trivial⟩,⟨by kernel_rfl,trivial,trivial⟩⟩⟩⟩,⟨by kernel_rfl,⟨by kernel_rfl,⟨by kernel_rfl,⟨by kernel_rfl,⟨by kernel_rfl,trivial,trivial⟩,trivial⟩,⟨by kernel_rfl,trivial,trivial⟩⟩,⟨by kernel_rfl,⟨by kernel_rfl,⟨by kernel_rfl,trivial,trivial⟩,trivial⟩,⟨by kernel_rfl,trivial,trivial⟩⟩⟩,⟨by kernel_rfl,⟨by kernel_rfl,⟨by kernel_rfl,⟨by kernel_rfl,trivial,trivial⟩,trivial⟩,⟨by kernel_rfl,trivial,trivial⟩⟩,⟨by kernel_rfl,⟨by kernel_rfl,⟨by kernel_rfl,trivial,trivial⟩,trivial⟩,⟨by kernel_rfl,trivial,trivial⟩⟩⟩⟩⟩,⟨by kernel_rfl,⟨by kernel_rfl,⟨by kernel_rfl,⟨by kernel_rfl,⟨by kernel_rfl,⟨by kernel_rfl,trivial,trivial⟩,trivial⟩,⟨by kernel_rfl,trivial,trivial⟩⟩,⟨by kernel_rfl,⟨by kernel_rfl,⟨by kernel_rfl,trivial,trivial⟩,trivial⟩,⟨by kernel_rfl,trivial,trivial⟩⟩⟩,⟨by kernel_rfl,⟨by kernel_rfl,⟨by kernel_rfl,⟨by kernel_rfl,trivial,trivial⟩,trivial⟩,⟨by kernel_rfl,trivial,trivial⟩⟩,⟨by kernel_rfl,⟨by kernel_rfl,⟨by kernel_rfl,trivial,trivial⟩,trivial⟩,⟨by kernel_rfl,trivial,trivial⟩⟩⟩⟩,⟨by kernel_rfl,⟨by kernel_rfl,⟨by kernel_rfl,⟨by kernel_rfl,⟨by kernel_rfl,trivial,trivial⟩,trivial⟩,⟨by kernel_rfl,trivial,trivial⟩⟩,⟨by kernel_rfl,⟨by kernel_rfl,⟨by kernel_rfl,trivial,trivial⟩,trivial⟩,⟨by kernel_rfl,trivial,trivial⟩⟩⟩,⟨by kernel_rfl,⟨by kernel_rfl,⟨by kernel_rfl,⟨by kernel_rfl,trivial,trivial⟩,trivial⟩,⟨by kernel_rfl,trivial,trivial⟩⟩,⟨by kernel_rfl,⟨by kernel_rfl,⟨by kernel_rfl,trivial,trivial⟩,trivial⟩,⟨by kernel_rfl,trivial,trivial⟩⟩⟩⟩⟩⟩) h
end Go.AmZ
namespace Go.Proofs
open Go.Shelf
def Tryz.lays106_ren:Go.Shelf.Ren:=⟨λ | 106=>105 | 213=>135 | 265=>162 | n=>n,λ | 9=>9 | 3=>3 | n=>n,λ | n=>n⟩
theorem Tryz.lays106:Go.Proofs.Lays.n106 Tryz.prog Tryz.lays106_ren:={
 mixed:=by kernel_rfl
 f106:=Tryz.func105.trans (congrArg some (by kernel_rfl))
 f213:=Tryz.func135.trans (congrArg some (by kernel_rfl))
 f265:=Tryz.func162.trans (congrArg some (by kernel_rfl))
 t3:=Tryz.underlying3
 a3:=Tryz.isAgg3
 z3:=Tryz.sizeOf3
 v3:=Tryz.zeroValue3
 t9:=Tryz.underlying9
 a9:=Tryz.isAgg9
 z9:=Tryz.sizeOf9
 v9:=Tryz.zeroValue9 }
open Go.RowKit in
theorem Tryz.strings_Compare (a b:ByteArray) (w:World) :
 Calls Tryz.prog 105 #[.string a,.string b] w λ e w'=>e = .returned (.int .i64 (Lib.compareBytes a.data.toList b.data.toList))/\w'=w:=Any.strings_Compare Tryz.lays106 a b w
end Go.Proofs
namespace Go.AmZ
open Go Go.RowKit Go.GxZ
structure qED (Γ : Gh) (w:World) (a:Option Addr) (n k:Nat) (cs:List (List AV)):Prop where
 len:cs.length=n
 size:∀ e∈cs,e.length=k
 plain:∀ e∈cs,∀ x∈e,qt x=true
 at_:cs=[]\/∃ b o,a=some ⟨b,o,none⟩/\∀ (i:Nat) (e:List AV) (j:Nat) (x:AV),cs[i]? = some e->e[j]? = some x->∃ u,w.cell? ⟨b,o+(i*k+j),none⟩=some u/\Rep Γ x u/\u.oneCell'=true
theorem qvI {Γ : Gh} {σ : St} {w:World} (hi:Inv Γ σ w) {a:Ty} {y:AV} {l:List (Val a)} {u:Value} (hd:dlist a y=some l) (hr:Rep Γ y u):∃ p n c,u = .slice p n c/\n<=c/\qED Γ w p n a.size (l.map (qh a)):=by
 rcases yr hd with ⟨rfl,rfl⟩ | ⟨es,n,rfl,h⟩
 ·have:=qS hr
  subst this
  exact ⟨none,0,0,rfl,Nat.le_refl _,rfl,(by intro e he;cases he),(by intro e he;cases he),.inl rfl⟩
 ·cases hr with
  | sl k es f p n' c b o us hn hc hf hk hp h0 ha hm hr =>
    have hlen:=qF h
    refine ⟨p,n',c,rfl,hc (Nat.succ_pos _),by rw [List.length_map,hn,hlen],?_,?_,?_⟩
    ·intro e he
     obtain ⟨v,_,rfl⟩:=List.mem_map.1 he
     exact jG a v
    ·intro e he
     obtain ⟨v,_,rfl⟩:=List.mem_map.1 he
     exact zN a v
    ·rcases ha with ha | ha
     ·left
      have:l=[]:=List.eq_nil_of_length_eq_zero (by rw [<- hlen,ha];rfl)
      rw [this];rfl
     ·right
      refine ⟨b,o,ha,λ i e j x h1 h2=>?_⟩
      rw [List.getElem?_map] at h1
      cases hl:l[i]? with
      | none=>rw [hl] at h1;cases h1
      | some v =>
        rw [hl] at h1;cases h1
        obtain ⟨e0,g1,g2⟩:=qdL h hl
        obtain ⟨x0,g3,g4⟩:=(qgE g2).get j x h2
        have hmm:=hm i e0 j x0 g1 g3
        obtain ⟨q1,q2⟩:=hi.mem _ _ _ hmm
        exact ⟨us i j,by rw [<- Nat.add_assoc];exact q1,g4 _ _ (hr i e0 j x0 g1 g3),q2⟩
def Fresh (w:World) (k n:Nat) (xs:List Value) (v:Value) (w':World):Prop :=
 Below w.heap.size w w'/\w.drawn<=w'.drawn/\((n=0/\∃ a,v = .slice a 0 0)\/∃ (g cap:Nat) (cur:Array Value) (e:TypeId),v = .slice (some ⟨g,0,none⟩) n cap/\w.heap.size<=g/\w'.heap[g]? = some (.cells cur e (0,0))/\n<=cap/\cap*k<=cur.size/\∀ (j:Nat) (u:Value),xs[j]? = some u->cur[j]? = some u)
theorem qiC {P:Program} {f:FuncId} {Γ : Gh} {σ : St} {w:World} {vals:List Value} {a:Ty} {l:List (Val a)} {xs:List Value} (hi:Inv Γ σ w) (hb0 : σ.bx=[]) (hr0 : σ.rw=[])
  (hx:∀ (i:Nat) (e:List AV) (j:Nat) (x:AV),(l.map (qh a))[i]? = some e->e[j]? = some x->∃ u,xs[i*a.size+j]? = some u/\Rep Γ x u/\u.oneCell'=true)
  (h:Calls P f vals.toArray w λ e w'=>∃ v,e = .returned v/\Fresh w a.size l.length xs v w') :
  jr P Γ σ w f vals (zw (yH [.one (.row a)] σ.rw.length (l,())),some ⟨[],σ.rw.map jN++yV [.one (.row a)] (l,()),List.range σ.bx.length,List.range σ.rw.length⟩):=by
 refine Calls.mono h ?_
 rintro e w' ⟨v,rfl,hbl,hdr,hv⟩
 have hi':=hi.later hbl
 have hkeep:qM { σ with wr:=[],wrr:=[] } ⟨[],σ.rw.map jN++yV [.one (.row a)] (l,()),List.range σ.bx.length,List.range σ.rw.length⟩ :=
  ⟨by rw [hb0];exact Nat.le_refl _,by show σ.rw.length<=_;rw [hr0];exact Nat.zero_le _,λ i hi _=>(by have hi:i < σ.bx.length:=hi;rw [hb0] at hi;exact absurd hi (Nat.not_lt_zero _)),λ i hi _=>(by have hi:i < σ.rw.length:=hi;rw [hr0] at hi;exact absurd hi (Nat.not_lt_zero _)),λ i h=>(by cases h),λ i h=>(by cases h)⟩
 rcases hv with ⟨hn,p,rfl⟩ | ⟨g,cap,cur,et,rfl,g1,g2,g3,g4,g5⟩
 ·have hl:l=[]:=List.eq_nil_of_length_eq_zero hn
  subst hl
  obtain ⟨mm,z1,z2,z3,z4⟩:=qqB (σ0 := σ) (σ1 := σ) hi (qcr hbl hdr) hi' (Nat.le_refl _) [] [] (by rw [hb0];rfl) (by simp) List.nodup_nil [] [(none,⟨a.size,[],0,0,false⟩)] (λ i cs h=>by cases h)
   (λ i so R h=>by
    cases i with
    | zero=>cases h;exact ⟨rfl,rfl,Ty.size_pos a,(by intro e he;cases he),(by intro e he;cases he),rfl⟩
    | succ i=>cases h)
   (λ i j q R R' h1 h2=>by cases i<;>cases h1) (List.range σ.bx.length) (List.range σ.rw.length)
  refine ⟨_,_,rfl,z3,z4,?_,hkeep⟩
  show Rep _ (.rs σ.rw.length 0 0 0 false) _
  exact .rs _ _ _ _ _ p 0 (by show σ.rw.length < σ.rw.length+1;omega) (Nat.zero_le _) (Nat.le_refl _) (λ h=>by cases h) λ _=>⟨.inl rfl,by rw [Nat.add_zero,Nat.zero_mul];exact Nat.zero_le _⟩
 ·obtain ⟨Γ',f1,f2,f3⟩:=qtp hi (Ty.size_pos a) (c:=l.map (qh a)) (λ e he=>by obtain ⟨v,_,rfl⟩:=List.mem_map.1 he;exact jG a v) (λ e he=>by obtain ⟨v,_,rfl⟩:=List.mem_map.1 he;exact zN a v) (vs:=cur) (by rw [List.length_map];exact Nat.le_trans (Nat.mul_le_mul_right _ g3) g4)
    (λ i e j x h1 h2=>by
     obtain ⟨u,u1,u2⟩:=hx i e j x h1 h2
     exact ⟨u,g5 _ _ u1,u2⟩) (cap:=cap) (by rw [List.length_map];exact g3) g4 hbl hdr g1 g2
  rw [List.length_map] at f3
  refine ⟨_,Γ',rfl,f1,?_,f3,hkeep⟩
  have:({ σ with rw := σ.rw++[⟨a.size,l.map (qh a),0,0,false⟩] }:St).bx=[]:=hb0
  exact f2.wr this.symm (by show σ.rw.map jN++_ = σ.rw++_;rw [hr0];rfl)
end Go.AmZ
namespace Go.GxZ
open Go.RowKit
def Blk (w:World) (g:Nat) (e:TypeId) (cur:Array Value):Prop:=w.heap[g]? = some (.cells cur e (0,0))
theorem Blk.cell {w:World} {g:Nat} {e:TypeId} {cur:Array Value} (h:Blk w g e cur) (i:Nat):w.cell? ⟨g,i,none⟩=cur[i]? := by
 unfold Blk at h
 simp [World.cell?,h]
theorem Blk.free {w:World} {g:Nat} {e:TypeId} {cur:Array Value} (h:Blk w g e cur) (i:Nat):w.frozen? ⟨g,i,none⟩=false:=by
 unfold Blk at h
 simp [World.frozen?,h]
theorem Blk.later {w w':World} {g:Nat} {e:TypeId} {cur:Array Value} (h:Blk w g e cur) (hb:Below w.heap.size w w'):Blk w' g e cur:=by
 unfold Blk at h |-
 rw [hb.block g (lt_of_block h)];exact h
theorem Blk.same {w w':World} {g:Nat} {e:TypeId} {cur:Array Value} (h:Blk w g e cur) (hb:w'.heap[g]? = w.heap[g]?):Blk w' g e cur:=by
 unfold Blk at h |-
 rw [hb];exact h
theorem Blk.set {w:World} {g:Nat} {e:TypeId} {cur:Array Value} (h:Blk w g e cur) (i:Nat) (v:Value):Blk (w.setCell ⟨g,i,none⟩ v) g e (cur.setIfInBounds i v):=by
 unfold Blk at h |-
 have hlt:=lt_of_block h
 have h':w.heap[g] = .cells cur e (0,0):=by simpa [Array.getElem?_eq_getElem hlt] using h
 show (w.heap.modify g _)[g]? = _
 rw [Array.getElem?_eq_getElem (by simpa using hlt),Array.getElem_modify_self,h']
 rfl
theorem qtT {w:World} {g:Nat} {e:TypeId} {cur:Array Value} (h:Blk w g e cur) (o:Nat) (x0 x1 x2 x3:Value) (ho:o+4<=cur.size) :
  ∃ w' cur',(((w.setCell ⟨g,o,none⟩ x0).setCell ⟨g,o+1,none⟩ x1).setCell ⟨g,o+2,none⟩ x2).setCell ⟨g,o+3,none⟩ x3=w'/\Blk w' g e cur'/\cur'.size=cur.size /\
   cur'[o]? = some x0/\cur'[o+1]? = some x1/\cur'[o+2]? = some x2/\cur'[o+3]? = some x3/\(∀ i,i<o->cur'[i]? = cur[i]?) /\
   (∀ B,B<=g->∀ w0,Below B w0 w->Below B w0 w')/\w'.heap.size=w.heap.size/\(∀ k,k≠g->w'.heap[k]? = w.heap[k]?)/\(∀ a,w'.frozen? a=w.frozen? a):=by
 refine ⟨_,_,rfl,(((h.set o x0).set (o+1) x1).set (o+2) x2).set (o+3) x3,by simp,?_,?_,?_,?_,λ i hi=>?_,λ B hB w0 h=>(((h.setCell hB _).setCell hB _).setCell hB _).setCell hB _,by simp,λ k hk=>?_,λ a=>by simp⟩
 ·simp [Array.getElem?_setIfInBounds];omega
 ·simp [Array.getElem?_setIfInBounds];omega
 ·simp [Array.getElem?_setIfInBounds];omega
 ·simp [Array.getElem?_setIfInBounds];omega
 ·simp only [Array.getElem?_setIfInBounds]
  rw [if_neg (by omega),if_neg (by omega),if_neg (by omega),if_neg (by omega)]
 ·rw [Below.heap_setCell _ _ _ _ hk,Below.heap_setCell _ _ _ _ hk,Below.heap_setCell _ _ _ _ hk,Below.heap_setCell _ _ _ _ hk]
def qoL (Q:Nat->Prop) (w:World) (cur:Array Value) (l:List T):Prop :=
 ∀ (k:Nat) (x:T),l[k]? = some x->∃ cs:List Value,cs.length=4/\(∀ (i:Nat) (c:Value),cs[i]? = some c->cur[k*4+i]? = some c)/\Qp Q w x cs
theorem qoL.nil {Q:Nat->Prop} {w:World} {cur:Array Value}:qoL Q w cur [] := λ k x h=>by simp at h
theorem qoL.kids {Q Q':Nat->Prop} {w:World} {g:Nat} {e:TypeId} {cur:Array Value} {l:List T} (h:qoL Q w cur l) (hb:Blk w g e cur) (hg:Q' g) (hQ:∀ b,Q b->Q' b):qaU Q' w (some ⟨g,0,none⟩) l := λ k x hk=>by
 obtain ⟨cs,h1,h2,h3⟩:=h k x hk
 exact ⟨g,0,cs,rfl,hg,h1,λ i c hc=>by rw [Nat.zero_add,hb.cell];exact h2 i c hc,h3.mono hQ x⟩
theorem qoL.next {Q Q':Nat->Prop} {w w':World} {cur cur':Array Value} {l:List T} (h:qoL Q w cur l) (hw:∀ b,Q b->w'.heap[b]? = w.heap[b]?) (hQ:∀ b,Q b->Q' b) (hc:∀ i,i<l.length*4->cur'[i]? = cur[i]?):qoL Q' w' cur' l := λ k x hk=>by
 obtain ⟨cs,h1,h2,h3⟩:=h k x hk
 have hl:=(List.getElem?_eq_some_iff.1 hk).1
 refine ⟨cs,h1,λ i c hc'=>?_,(h3.keep hw x).mono hQ x⟩
 have hi:=(List.getElem?_eq_some_iff.1 hc').1
 rw [hc _ (by omega)];exact h2 i c hc'
end Go.GxZ
namespace Go.GxZ
open Go.RowKit
end Go.GxZ
namespace Go.GxZ
open Go.RowKit
theorem qmm {P:Program} (w:World) (dT sT ty elem:TypeId) (size g o dLen dCap:Nat) (a:Addr) (sLen sCap:Nat) (cur:Array Value) (t:TypeId) (cs:List Value)
  (hu:P.underlying dT=some (.slice elem)) (hs:(P.info? elem).map (·.size)=some size)
  (hg:w.heap[g]? = some (.cells cur t (0,0))) (hn:cs.length=Nat.min sLen dLen*size)
  (hsrc:∀ j v,cs[j]? = some v->w.cell? (a.add j)=some v) (hfit:o+cs.length<=cur.size) (h1:∀ v∈cs,v.oneCell'=true) :
  (Builtin.copy_ #[dT,sT] ty #[.slice (some ⟨g,o,none⟩) dLen dCap,.slice (some a) sLen sCap]).run P w =
   .ok (goInt (Nat.min sLen dLen)) (w.setRow g (cur.toList.take o++cs++cur.toList.drop (o+cs.length)).toArray):=by
 have hl:=run_loadCells_list (P:=P) w a cs hsrc
 have hst:=run_storeCells_at P g o t cs 0 cur w hg (by simpa using hfit) h1
 cases hq:P.info? elem with
 | none=>simp [hq] at hs
 | some i =>
   have hi:i.size=size:=by simpa [hq] using hs
   rw [hn] at hl
   simp [Builtin.copy_,run_underlying hu,Builtin.lenOf,Builtin.firstCells,sizeOf,typeInfo,hq,hi,hl,hst]
theorem qjG {P:Program} (w:World) (t e ty:TypeId) (z:Value) (ht:P.underlying t=some (.slice e)) (hv:∀ w,(zeroValue e).run P w = .ok z w) (g o n c:Nat) (hn:0<n) (cur:Array Value) (tb:TypeId)
  (hg:w.heap[g]? = some (.cells cur tb (0,0))) (hfit:o+n*z.cells.size<=cur.size) (h1:∀ v∈(Builtin.zeroCells z.cells n).toList,v.oneCell'=true) :
  (Builtin.clear_ #[t] ty #[.slice (some ⟨g,o,none⟩) n c]).run P w = .ok (.tuple #[]) (w.setRow g (cur.toList.take o++(Builtin.zeroCells z.cells n).toList++cur.toList.drop (o+(Builtin.zeroCells z.cells n).toList.length)).toArray):=by
 have hst:=run_storeCells_at P g o tb (Builtin.zeroCells z.cells n).toList 0 cur w hg (by simpa [Builtin.zeroCells] using hfit) h1
 obtain ⟨m,rfl⟩:∃ m,n=m+1:=⟨n-1,by omega⟩
 simp only [Nat.add_zero] at hst
 simp [Builtin.clear_,run_underlying ht,hv,hst]
structure qgm (w w':World) (g:Nat) (t:TypeId) (new:List Value):Prop where
 blk:Blk w' g t new.toArray
 other:∀ k,k≠g->w'.heap[k]? = w.heap[k]?
 size:w'.heap.size=w.heap.size
 below:∀ B,B<=g->∀ w0,Below B w0 w->Below B w0 w'
 os:w'.os=w.os
 tape:w'.tape=w.tape
 output:w'.output=w.output
 drawn:w'.drawn=w.drawn
theorem qcx {w:World} {g:Nat} {t:TypeId} {cur:Array Value} (h:Blk w g t cur) (new:List Value):qgm w (w.setRow g new.toArray) g t new :=
 ⟨setRow_heap w g cur _ t _ h,λ k hk=>setRow_other w g k _ hk,by simp [World.setRow],λ _ hB _ hb=>below_setRow hb hB _,rfl,rfl,rfl,rfl⟩
theorem qqf {P:Program} {ops:Array Oper} {o:Oper} {a:Act} {w:World} {K:Act->World->Prop} {Q:Exit->Act->World->Prop} {E:Prop} (hgd:o.guard=none) (d s:Operand) (dT sT:TypeId)
  (ho:o.op = .call { callee := .builtin .copy,args := #[d,s],argTypes := #[dT,sT] }) (elem:TypeId) (size:Nat) (hu:P.underlying dT=some (.slice elem)) (hsz:(P.info? elem).map (·.size)=some size)
  (g off dLen dCap:Nat) (ad:Addr) (sLen sCap:Nat) (hd:a.eval d = .slice (some ⟨g,off,none⟩) dLen dCap) (hs:a.eval s = .slice (some ad) sLen sCap)
  (cur:Array Value) (t:TypeId) (hg:Blk w g t cur) (cs:List Value) (hn:cs.length=Nat.min sLen dLen*size)
  (hsrc:∀ j v,cs[j]? = some v->w.cell? (ad.add j)=some v) (hfit:off+cs.length<=cur.size) (h1:∀ v∈cs,v.oneCell'=true)
  (h:∀ w',qgm w w' g t (cur.toList.take off++cs++cur.toList.drop (off+cs.length))->K (a.put o.dst (goInt (Nat.min sLen dLen))) w') :
  if Region.wanted o (yielded ops a.tmps)=true then Oper.wp P o a w K Q else E:=by
 have hw:Region.wanted o (yielded ops a.tmps)=true:=by simp [Region.wanted,hgd]
 rw [if_pos hw]
 have hrun:=qmm (P:=P) w dT sT o.type elem size g off dLen dCap ad sLen sCap cur t cs hu hsz hg hn hsrc hfit h1
 unfold Oper.wp
 simp [execOp,ho,resolve,invoke,builtin,hd,hs,hrun,Result.andThen]
 have hh:=h _ (qcx hg (cur.toList.take off++cs++cur.toList.drop (off+cs.length)))
 rw [List.append_assoc] at hh
 exact hh
theorem qeX (g:Nat) (t:TypeId):∀ (vs:List Value) (o:Nat) (w:World) (cur:Array Value),Blk w g t cur->o+vs.length<=cur.size->qgm w (w.setCells g o vs) g t (cur.toList.take o++vs++cur.toList.drop (o+vs.length))
 | [],o,w,cur,h,_=>by
   refine ⟨?_,λ _ _=>rfl,rfl,λ _ _ _ h=>h,rfl,rfl,rfl,rfl⟩
   simp only [List.append_nil,List.length_nil,Nat.add_zero,List.take_append_drop,Array.toArray_toList]
   exact h
 | v::r,o,w,cur,h,hl=>by
   have ih:=qeX g t r (o+1) (w.setCell ⟨g,o,none⟩ v) (cur.setIfInBounds o v) (h.set o v) (by simp at hl |-;omega)
   have e:=list_seg_step cur.toList o v r (by simp at hl |-;omega)
   rw [World.setCells]
   refine ⟨?_,λ k hk=>(ih.other k hk).trans (Below.heap_setCell _ _ _ _ hk),ih.size.trans (by simp),λ B hB w0 hb=>ih.below B hB w0 (hb.setCell hB _),ih.os,ih.tape,ih.output,ih.drawn⟩
   have hb:=ih.blk
   have e2:(cur.setIfInBounds o v).toList.take (o+1)++r++(cur.setIfInBounds o v).toList.drop (o+1+r.length)=cur.toList.take o++v::r++cur.toList.drop (o+(v::r).length):=by
    simpa [Array.toList_setIfInBounds] using e
   rwa [e2] at hb
theorem qFf (k:Nat) (cur xs ys:List Value) (i n:Nat) (hx:cur.take (n*k)=xs) (hc:n*k+k<=cur.length) (hi:i*k<=n*k) (hy:ys.length=k) (c1:List Value)
  (h1:c1=cur.take (i*k+k)++xs.drop (i*k)++cur.drop (i*k+k+(xs.drop (i*k)).length)) :
  c1.length=cur.length/\(c1.take (i*k)++ys++c1.drop (i*k+ys.length)).length=cur.length/\(c1.take (i*k)++ys++c1.drop (i*k+ys.length)).take (n*k+k)=xs.take (i*k)++ys++xs.drop (i*k):=by
 generalize n*k=N at *
 generalize i*k=I at *
 have hxl:xs.length=N:=by rw [<- hx,List.length_take];omega
 have hdl:(xs.drop I).length=N-I:=by rw [List.length_drop,hxl]
 have hl1:c1.length=cur.length:=by rw [h1];simp only [List.length_append,List.length_take,List.length_drop,hxl];omega
 refine ⟨hl1,?_,?_⟩
 ·simp only [List.length_append,List.length_take,List.length_drop,hl1,hy];omega
 ·have e1:c1.take I=xs.take I:=by
    rw [h1,List.append_assoc,List.take_append_of_le_length (by rw [List.length_take];omega),List.take_take,<- hx,List.take_take]
    congr 1;omega
  have e2:c1.drop (I+k)=xs.drop I++cur.drop (I+k+(xs.drop I).length):=by
   rw [h1,List.append_assoc,List.drop_append_of_le_length (by rw [List.length_take];omega),List.drop_eq_nil_of_le (by rw [List.length_take];omega),List.nil_append]
  rw [hy,e1,e2,<- List.append_assoc,List.take_append_of_le_length (by simp only [List.length_append,List.length_take,hy,hdl,hxl];omega),List.take_of_length_le (by simp only [List.length_append,List.length_take,hy,hdl,hxl];omega)]
theorem qGR (k:Nat) (new xs ys:List Value) (i n:Nat) (hn:new.take (i*k)=xs.take (i*k)) (hxl:xs.length=n*k) (hc:n*k+k<=new.length) (hi:i*k<=n*k) (hy:ys.length=k) (c1:List Value)
  (h1:c1=new.take (i*k)++ys++new.drop (i*k+ys.length)) :
  c1.length=new.length/\(c1.take (i*k+k)++xs.drop (i*k)++c1.drop (i*k+k+(xs.drop (i*k)).length)).length=new.length /\
   (c1.take (i*k+k)++xs.drop (i*k)++c1.drop (i*k+k+(xs.drop (i*k)).length)).take (n*k+k)=xs.take (i*k)++ys++xs.drop (i*k):=by
 generalize n*k=N at *
 generalize i*k=I at *
 have hdl:(xs.drop I).length=N-I:=by rw [List.length_drop,hxl]
 have hl1:c1.length=new.length:=by rw [h1];simp only [List.length_append,List.length_take,List.length_drop,hy];omega
 refine ⟨hl1,?_,?_⟩
 ·simp only [List.length_append,List.length_take,List.length_drop,hl1,hxl];omega
 ·have e1:c1.take (I+k)=xs.take I++ys:=by
    rw [h1,List.take_append_of_le_length (by simp only [List.length_append,List.length_take,hy];omega),List.take_of_length_le (by simp only [List.length_append,List.length_take,hy];omega),hn]
  rw [e1,List.take_append_of_le_length (by simp only [List.length_append,List.length_take,hy,hdl,hxl];omega),List.take_of_length_le (by simp only [List.length_append,List.length_take,hy,hdl,hxl];omega)]
def qge (k:Nat) (w:World) (g sz n:Nat) (xs:List Value) (e:Ending) (w':World):Prop :=
 ∃ (g' cap:Nat) (cur:Array Value) (et:TypeId),e = .returned (.slice (some ⟨g',0,none⟩) n cap)/\w'.heap[g']? = some (.cells cur et (0,0))/\n<=cap/\cap*k<=cur.size/\cur.toList.take (n*k)=xs /\
  ((g'=g/\cur.size=sz)\/w.heap.size<=g')/\w'.os=w.os/\w'.tape=w.tape/\w'.output=w.output/\w.heap.size<=w'.heap.size/\w.drawn<=w'.drawn/\∀ b,b<w.heap.size->b≠g->w'.heap[b]? = w.heap[b]?
theorem qrw {P:Program} (w:World) (tS tR e:TypeId) (ht:P.underlying tS=some (.slice e)) (size:Nat) (hz:∀ w,(Go.sizeOf e).run P w = .ok size w)
  (a b:Addr) (la ca lb cb:Nat) (hne:a.block≠b.block) (tA tB:TypeId) (kA kB:Nat)
  (hsa:w.shape? a.block=some (tA,kA)) (hkA:kA≠0) (hsb:w.shape? b.block=some (tB,kB))
  (hfb:w.frozen? b=false) (hfe:w.frozen? { block:=b.block,off:=kB }=false) :
  (Extern.SlicesOverlaps.overlaps #[tS,tS] #[tR] #[.slice (some a) la ca,.slice (some b) lb cb]).run P w = .ok (.bool false) w:=by
 have hnb:(a.block != b.block)=true:=by simpa using hne
 have hnb':(a.block==b.block)=false:=by simpa using hne
 change Sem.run P (α := Value) (do
  let some t:=(#[tS,tS]:Array TypeId)[0]? | stuck "slices.overlaps: no parameter types"
  let .slice elem <- underlying t | stuck "slices.overlaps: slice type expected"
  let size <- sizeOf elem
  match (some a:Option Addr),(some b:Option Addr) with
  | some a,some b =>
    if la=0\/lb=0\/size=0 then pure (Value.bool false)
    else if a.block != b.block&&(<- frozen a)&&(<- frozen b) then unsupported .addressObserved
    else do
     if a.block != b.block then do
      noView a;noView b
      if <- mayBeOne a b then return Value.bool ((<- choose _)==1)
     pure (Value.bool (a.block==b.block&&a.off<b.off+lb*size&&b.off<a.off+la*size))
  | _,_=>pure (Value.bool false)) w=_
 by_cases h0:la=0\/lb=0\/size=0
 ·simp [run_underlying ht,hz,h0]
 ·cases kA with
  | zero=>exact absurd rfl hkA
  | succ kA =>
    cases hfa:w.frozen? a with
    | true=>simp [run_underlying ht,hz,h0,hnb,hnb',frozen,noView,viewAt,mayBeOne,stringish,shape,Sem.run,hsa,hsb,hfb,hfe,hfa]
    | false =>
      cases hfk:w.frozen? { block:=a.block,off:=kA+1 } with
      | true=>simp [run_underlying ht,hz,h0,hnb,hnb',frozen,noView,viewAt,mayBeOne,stringish,shape,Sem.run,hsa,hsb,hfb,hfe,hfa,hfk]
      | false=>simp [run_underlying ht,hz,h0,hnb,hnb',frozen,noView,viewAt,mayBeOne,stringish,shape,Sem.run,hsa,hsb,hfb,hfe,hfa,hfk]
theorem qAX {w:World} {a:Addr} {u:Value} (ha:a.spot=none) (h:w.cell? a=some u):∃ t n,w.shape? a.block=some (t,n)/\n≠0:=by
 unfold World.cell? at h
 split at h
 ·rename_i c e f hh
  refine ⟨e,c.size,by simp [World.shape?,hh],λ h0=>?_⟩
  have:c = #[]:=Array.eq_empty_of_size_eq_zero h0
  subst this
  simp [ha] at h
 ·cases h
end Go.GxZ
