/- Part 3 of what the proofs stand on: plain functions of the program, and that they are its functions. -/
import Derived.Test.YtckmkimhkhilgaaGreatM2
import Derived.KernelRfl
import Derived.Test.YtckmkimhkhilgaaGreatProg
import Derived.Test.YtckmkimhkhilgaaGreatM1
import Derived.Shelf.Small.Strs
import Derived.Laws.OwnMore
import Derived.OneCell
import Derived.Deep.DeepAppendRoom
import Derived.Deep.Onto
import Derived.ArgAppend
import Derived.Deep.RegionLaw
import Derived.Laws.CopyOwn
import Derived.Lib.AppendZerosOnto
import Derived.Lib.AppendZeros
import Derived.Lib.Overlaps
import Derived.Laws.Externs
import Derived.Deep.DeepCutAuto
import Derived.Handy
import Derived.IntWalk
set_option linter.unusedVariables false
set_option linter.unusedSimpArgs false
namespace Go.AmZ
open Go Go.RowKit Go.GxZ
section
variable {α : Type} {N:Nat × Nat} {m:Mp} {E:Env} {τ : TS} {tm:List AV} {σ : St} {K:KT α} {r : α} {p:Option (AV × Option St)} {c:TC} {C:Cfg}
theorem qIk {d:Option TD} {op:BinOp} {x y:TV} {x' y':AV} {K':TV->Option α} (hx:OK m x x') (hy:OK m y y') (h:qG0 d op x y K'=some r) :
  ∃ z v,K' z=some r/\OK m z (.v v)/\((∃ a b,x' = .v (.bool a)/\y' = .v (.bool b)/\qth d=true/\((op = .eql/\v = .bool (qgs a b))\/(op = .neq/\v = .bool (qe (qgs a b)))))\/∃ a b,x' = .v a/\y' = .v b/\(∀ p q,¬ (a = .bool p/\b = .bool q))/\qps op a b=some v):=by
 unfold qG0 at h
 split at h
 ·rename_i k a k' b
  cases hx;cases hy
  split at h
  ·obtain ⟨h1,h2⟩:=qte h
   exact ⟨_,_,h2,rfl,.inr ⟨_,_,rfl,rfl,by simp,by simp only [qps,h1]⟩⟩
  ·obtain ⟨h1,h2⟩:=qte h
   exact ⟨_,_,h2,rfl,.inr ⟨_,_,rfl,rfl,by simp,by simp only [qps,h1]⟩⟩
  ·rename_i n1 n2
   split at h<;>try cases h
   rename_i hk
   obtain ⟨z,v,h1,h2,h3⟩:=qHX (m:=m) h
   refine ⟨z,v,h1,h3,.inr ⟨_,_,rfl,rfl,by simp,?_⟩⟩
   unfold qps
   cases op<;>first | (exact absurd rfl n1) | (exact absurd rfl n2) | (simp only [hk];exact h2)
 ·cases hx;cases hy
  obtain ⟨z,v,h1,h2,h3⟩:=qIV (m:=m) h
  exact ⟨z,v,h1,h3,.inr ⟨_,_,rfl,rfl,by simp,h2⟩⟩
 ·cases hx;cases hy
  split at h<;>try cases h
  ·rename_i hb
   exact ⟨_,_,h,rfl,.inl ⟨_,_,rfl,rfl,hb,.inl ⟨rfl,rfl⟩⟩⟩
  ·rename_i hb
   exact ⟨_,_,h,rfl,.inl ⟨_,_,rfl,rfl,hb,.inr ⟨rfl,rfl⟩⟩⟩
 ·cases h
theorem qqA {d:Option TD} (h:qxW d=true):∃ a b c z,d=some ⟨a,b,c,z,.ptr⟩:=by
 unfold qxW at h
 split at h
 ·exact ⟨_,_,_,_,rfl⟩
 ·cases h
theorem qDU {x y:TV} {x' y':AV} (hx:OK m x x') (hy:OK m y y') {b:Bool} (h:qDr x y=some b) :
  (b=true/\x' = .v (.pointer none)/\y' = .v (.pointer none))\/(b=false/\qpl x'=true/\y' = .v (.pointer none)):=by
 unfold qDr at h
 split at h<;>cases h
 ·exact .inl ⟨rfl,hx.2,hy.2⟩
 ·obtain ⟨_,rfl⟩:=hx
  exact .inr ⟨rfl,rfl,hy.2⟩
 ·obtain ⟨R,_,_,_,hq,_⟩:=hx
  rcases hq with ⟨r,j,ep,rfl⟩ | ⟨ds,rfl⟩<;>exact .inr ⟨rfl,rfl,hy.2⟩
 ·obtain ⟨ds,rfl,_⟩:=hx
  exact .inr ⟨rfl,rfl,hy.2⟩
theorem qza:∀ (es:List (List AV)) (l:List Int),qU (yg (.int .u8)) es=some l->qp3 es=some (yl l)
 | [],l,h=>by cases h;rfl
 | e::es,l,h=>by
   simp only [qU] at h
   split at h<;>try cases h
   rename_i v hv
   split at h<;>cases h
   rename_i vs hvs
   have:=qza es vs hvs
   have hb:e=[.v (.int .u8 v)]:=by
    have hv:qbz .u8 e=some (v,[]):=zQ.1 hv
    unfold qbz at hv
    split at hv<;>try cases hv
    split at hv<;>cases hv
    rename_i hk
    have hk:=of_decide_eq_true hk
    subst hk
    rfl
   subst hb
   simp only [qp3,qCG,this]
   rfl
theorem qAs {d:Option TD} (h:qth d=true):∃ a b c z,d=some ⟨a,b,c,z,.bool⟩:=by
 unfold qth at h
 split at h
 ·exact ⟨_,_,_,_,rfl⟩
 ·cases h
theorem qx7 (E:Env) (tm:List AV) (hr:Rel N m E τ tm σ):∀ l:List (Nat × Operand),(l.map λ p=>(p.1,evT E p.2)).map (·.1)=(l.map λ p=>(p.1,aev tm p.2)).map (·.1)/\OKL m ((l.map λ p=>(p.1,evT E p.2)).map (·.2)) ((l.map λ p=>(p.1,aev tm p.2)).map (·.2))
 | []=>⟨rfl,rfl⟩
 | x::l=>⟨by simp,⟨_,_,rfl,hr.ev x.2,(qx7 E tm hr l).2⟩⟩
theorem qz4 (hr:Rel N m E τ tm σ) {id ver sv:Nat} {i:Int} {cs:List TV} {o:Nat} {y:AV} {R:qM} (ho:OK m (.rpt id ver sv i cs o) y) (hR : τ.rw[id]? = some R) (h1:R.ver=ver) (h2:R.sv=sv) :
  (∃ r j ds Q,y = .rpt r j o Q.ver/\m.r id=some r/\i=((j:Nat):Int) /\ σ.rw[r]? = some Q/\Q.c[j]? = some ds/\OKL m cs ds/\j<R.l.length/\Q.ver=m.v id/\Q.k=R.τ.size/\qU (yg R.τ) Q.c=some R.l/\Q.fz<=Q.c.length/\(R.sh=false->Q.fz=0/\Q.off=false)) \/
  ∃ ds,y = .ept ds o/\OKL m cs ds/\R.sh=true:=by
 obtain ⟨R',g1,_,_,_,g2⟩:=ho
 rw [hr.rw,hR] at g1;cases g1
 have:=hr.rows id R (by rw [hr.rw];exact hR)
 rcases qBZ (g2 h1) h2 with ⟨r,j,ds,k1,k2,k0,k3,k4,k5⟩ | ⟨ds,k1,k2,k3,k4⟩
 ·rw [k1] at this
  obtain ⟨Q,q1,q2,q3,q4,q5,q6,q7⟩:=this
  exact .inl ⟨r,j,ds,Q,by rw [q3];exact k2,k1,k0,q1,by rw [q2];exact k4,k5,k3,q3,q4,q5,q6,q7⟩
 ·rw [k1] at this
  refine .inr ⟨ds,k2,k4,?_⟩
  cases hs:R.sh with
  | true=>rfl
  | false =>
    have hl:=this hs
    rw [hl] at k3
    exact absurd k3 (Nat.lt_irrefl 0)
theorem qAR {β : Type} (f : β -> AV):∀ (l:List (Nat × β)) (n:Nat),((l.zipIdx n).all λ p=>decide (p.1.1=p.2))=true->(∀ q∈l,True)->∀ P:AV->Bool,(∀ q∈l,P (f q.2)=true) ->
  (((l.map λ p=>(p.1,f p.2)).zipIdx n).all λ p=>decide (p.1.1=p.2)&&P p.1.2)=true
 | [],n,_,_,P,_=>rfl
 | a::l,n,h,_,P,hP=>by
   simp only [List.zipIdx_cons,List.all_cons,Bool.and_eq_true,List.map_cons] at h |-
   exact ⟨⟨h.1,hP a (List.mem_cons_self ..)⟩,qAR f l (n+1) h.2 (λ _ _=>trivial) P λ q hq=>hP q (List.mem_cons_of_mem _ hq)⟩
theorem qqD (hq:ja m σ) {a:Ty} {E:Env} {tm:List AV} (hr:Rel N m E τ tm σ):∀ {l:List (Nat × Operand)} {vs:List (Val a)},qqb m.rw a (l.map λ p=>evT E p.2)=some vs ->
  ∀ p∈l,(cellsOf (aev tm p.2)).length=a.size/\((cellsOf (aev tm p.2)).all λ x=>qA (zm σ.rw x))=true
 | [],vs,h,p,hp=>by cases hp
 | q::l,vs,h,p,hp=>by
   simp only [List.map_cons,qqb] at h
   split at h<;>try cases h
   rename_i v hv
   split at h<;>cases h
   rename_i hvs
   rcases List.mem_cons.1 hp with rfl | hp
   ·have:=(qjw hq hv (hr.ev p.2)).2
    obtain ⟨pre,h1,h2,h3,_⟩:=yx a (zQ.1 this)
    rw [List.append_nil] at h1
    refine ⟨by rw [<- h2,<- h1,List.length_map],?_⟩
    rw [List.all_eq_true]
    intro x hx
    exact h3 _ (by rw [<- h1];exact List.mem_map_of_mem hx)
   ·exact qqD hq hr hvs p hp
theorem qF5 (y:List UInt8) (l h:Int):(⟨(qfO y l h).toArray⟩:ByteArray)=qzs ⟨y.toArray⟩ l.toNat h.toNat:=by
 unfold qfO qzs
 rw [ByteArray.ext_iff]
 simp [ByteArray.data_extract,List.drop_take]
theorem qAo {x:TV} {y:AV} (h:OK m x y) (hc:(ji x).all qji=true):OKL m (ji x) (cellsOf y)/\(cellsOf y).all isC=true/\∀ z∈cellsOf y,rsC z=[]:=by
 have hct:(ji x).all qhr=true:=by
  rw [List.all_eq_true] at hc |-
  intro z hz
  have:=hc z hz
  cases z<;>first | rfl | (cases this)
 obtain ⟨g1,g2⟩:=h.cells hct
 refine ⟨g1,g2,λ z hz=>?_⟩
 have:=qif g1 hc
 rw [List.flatMap_eq_nil_iff] at this
 exact this z hz
theorem qoR {y:AV} (h:rsC y=[]) (hp:qA (zm σ.rw y)=true):qA y=true:=by
 cases y<;>first | rfl | exact hp | (simp [rsC] at h)
theorem qIv {tm:List AV} {a b:Operand} (h:qGX a b=true):aev tm a=aev tm b:=by
 unfold qGX at h
 split at h
 ·rw [Nat.eq_of_beq_eq_true h]
 ·simp only [Bool.and_eq_true,decide_eq_true_eq] at h
  rw [h.1,h.2]
 ·cases h
def LvE (x y:AV):Prop:=x=y\/∃ k es n n',x = .sl k es (n+1)/\y = .sl k es (n'+1)
inductive LvL:List AV->List AV->Prop
 | nil:LvL [] []
 | cons {x y:AV} {xs ys:List AV}:LvE x y->LvL xs ys->LvL (x::xs) (y::ys)
theorem LvE.v {x:Value} {y:AV} (h:LvE (.v x) y):y = .v x:=by
 rcases h with rfl | ⟨_,_,_,_,h,_⟩
 ·rfl
 ·cases h
theorem LvE.dlist {a:Ty} {x y:AV} (h:LvE x y) {l:List (Val a)} (hl:dlist a x=some l):dlist a y=some l:=by
 rcases h with rfl | ⟨_,_,_,_,rfl,rfl⟩
 ·exact hl
 ·exact hl
theorem qln:∀ (a:Ty) {cs cs':List AV} {v:Val a} {r:List AV},LvL cs cs'->JC a cs=some (v,r)->∃ r',LvL r r'/\JC a cs'=some (v,r')
 | .int k,cs,cs',v,r,hL,h=>by
   change qbz k cs=_ at h
   unfold qbz at h
   split at h<;>try cases h
   split at h<;>cases h
   rename_i hk
   cases hL with
   | cons h1 h2 =>
     have:=h1.v
     subst this
     exact ⟨_,h2,by show qbz _ _=_;simp only [qbz,hk]⟩
 | .bool,cs,cs',v,r,hL,h=>by
   change qjg cs=_ at h
   unfold qjg at h
   split at h<;>cases h
   cases hL with
   | cons h1 h2 =>
     have:=h1.v
     subst this
     exact ⟨_,h2,rfl⟩
 | .str,cs,cs',v,r,hL,h=>by
   change qhA cs=_ at h
   unfold qhA at h
   split at h<;>cases h
   cases hL with
   | cons h1 h2 =>
     have:=h1.v
     subst this
     exact ⟨_,h2,rfl⟩
 | .term,cs,cs',v,r,hL,h=>by
   change J8 cs=_ at h
   unfold J8 at h
   split at h<;>try cases h
   split at h<;>cases h
   rename_i hd
   obtain ⟨k,n,s,x,l,he,h1,rfl⟩:=qkN hd
   cases he
   cases hL with
   | cons a1 hL=>cases hL with
     | cons a2 hL=>cases hL with
       | cons a3 hL=>cases hL with
         | cons a4 hL =>
           have:=a1.v;subst this
           have:=a2.v;subst this
           have:=a3.v;subst this
           rw [<- qi3] at h1
           have h1:=a4.dlist h1
           rw [qi3] at h1
           exact ⟨_,hL,by show J8 _=_;simp only [J8,jW,h1]⟩
 | .list a,cs,cs',v,r,hL,h=>by
   change qcp _ cs=_ at h
   unfold qcp at h
   split at h<;>try cases h
   split at h<;>cases h
   rename_i hd
   cases hL with
   | cons h1 h2 =>
     have hd:dlist a _=some v:=hd
     have hd:jb a.size (λ e=>full (JC a e)) _=some v:=h1.dlist hd
     exact ⟨_,h2,by show qcp _ _=_;simp only [qcp,hd]⟩
 | .pair a b,cs,cs',v,r,hL,h=>by
   obtain ⟨r1,h1,h2⟩:=Jv.1 h
   obtain ⟨r1',g1,g2⟩:=qln a hL h1
   obtain ⟨r2',g3,g4⟩:=qln b g1 h2
   exact ⟨r2',g3,Jv.2 ⟨_,g2,g4⟩⟩
 | .one a,cs,cs',v,r,hL,h=>qln a hL h
theorem qFk:∀ {cs:List AV},(∀ y∈cs,qA y=true)->LvL (cs.map (zm σ.rw)) cs
 | [],_ => .nil
 | y::cs,h=>by
   refine .cons ?_ (qFk λ z hz=>h z (List.mem_cons_of_mem _ hz))
   have:=h y (List.mem_cons_self ..)
   cases y with
   | v x=>exact .inl rfl
   | sl k es f =>
     cases f with
     | zero=>exact .inl rfl
     | succ f=>exact .inr ⟨k,es,0,f,rfl,rfl⟩
   | _=>cases this
theorem qqQ {a:Ty} {cs:List AV} {v:Val a} (hp:∀ y∈cs,qA y=true) (h:yg a (cs.map (zm σ.rw))=some v):yg a cs=some v:=by
 obtain ⟨rs,h1,h3⟩:=qln a (qFk hp) (zQ.1 h)
 cases h1
 exact zQ.2 h3
theorem qv7 (s:List UInt8):qU (yg (.int .u8)) (qbj ⟨s.toArray⟩)=some (Q9 s):=by
 have:qbj ⟨s.toArray⟩=(Q9 s).map (ql (.int .u8)):=by
  unfold qbj Q9
  rw [List.map_map]
  rfl
 rw [this]
 exact qbl (j9 (.int .u8)) (Q9 s)
theorem qHj {op:Op} (hty:C.ty=c.ty) (hr:Rel N m E τ tm σ) (h:Qp c E τ op K=some r):Sim N m E τ tm σ K r (qb C tm σ op):=by
 cases op with
 | move x=>exact .same hr h rfl (hr.ev x)
 | assign x=>exact .same hr h rfl (hr.ev x)
 | pick x a b =>
   simp only [Qp] at h
   split at h<;>try cases h
   rename_i y hy
   have hx:=hr.ev x
   rw [hy] at hx
   cases y with
   | true=>exact .same hr h (by simp only [qb,show aev tm x=_ from hx]) (hr.ev a)
   | false=>exact .same hr h (by simp only [qb,show aev tm x=_ from hx]) (hr.ev b)
 | alloc e =>
   simp only [Qp] at h
   split at h<;>try cases h
   rename_i d hd
   split at h<;>try cases h
   rename_i hz
   obtain ⟨m',h1,h2,h3⟩:=hr.alloc (qgT (m:=m) hz)
   exact .to h (by simp only [qb,hty,hd,hz]) h1 h2 h3
 | box e x =>
   simp only [Qp] at h
   split at h<;>try cases h
   rename_i d hd
   split at h<;>try cases h
   rename_i hz
   obtain ⟨g1,g2⟩:=(hr.ev x).cells hz
   obtain ⟨m',h1,h2,h3⟩:=hr.alloc g1
   exact .to h (by simp only [qb,hty,hd,g2]) h1 h2 h3
 | build t parts =>
   simp only [Qp] at h
   split at h<;>try cases h
   rename_i _ _ _ z fs hd
   split at h<;>try cases h
   rename_i hz
   split at h<;>try cases h
   rename_i cs hcs
   obtain ⟨ds,h1,h2⟩:=qyr (qx7 E tm hr parts.toList) (qgT (m:=m) hz) hcs
   exact .same hr h (by simp only [qb,hty,hd,hz];erw [h1]) ⟨ds,rfl,h2⟩
 | buildSlice t n parts =>
   simp only [Qp] at h
   split at h<;>try cases h
   rename_i _ _ _ _ _ k _ _ a hd he
   split at h<;>try cases h
   rename_i hb
   simp only [Bool.and_eq_true,decide_eq_true_eq] at hb
   obtain ⟨⟨⟨⟨hk,hn⟩,hnk⟩,hk0⟩,hz⟩:=hb
   split at h<;>try cases h
   rename_i vs hvs
   rw [<- hr.rw] at hvs
   have hq:=hr.rows
   have hcells:=qqD hq hr hvs
   have hdec:=qz5 hq hvs (by have:=hr.evs (parts.toList.map (·.2));simpa [List.map_map,Function.comp_def] using this)
   have hpo:qqa k n σ.rw (parts.toList.map λ p=>(p.1,aev tm p.2))=true:=by
    unfold qqa
    have h1:(parts.toList.map λ p=>(p.1,aev tm p.2)).length=n:=by simpa using hn
    simp only [h1,decide_true,hnk,hk0,Bool.true_and,Bool.and_true]
    have:=qAR (aev tm) parts.toList 0 hz (λ _ _=>trivial) (λ x=>decide ((cellsOf x).length=k)&&((cellsOf x).all λ y=>qA (zm σ.rw y)))
     λ q hq'=>by obtain ⟨a1,a2⟩:=hcells q hq';rw [a1,a2,hk];simp
    rw [List.all_eq_true] at this |-
    intro p hp
    have:=this p hp
    simpa [Bool.and_assoc] using this
   have hok:∀ m':Mp,OK m' (.sl a vs 2) (.sl k (parts.toList.map λ p=>(cellsOf (aev tm p.2)).map (zm σ.rw)) 2):=by
    intro m'
    refine ⟨?_,Nat.le_refl _⟩
    subst hk
    show jb _ _ (.sl _ _ 2)=_
    simp only [jb,zf,decide_true]
    simpa [List.map_map,Function.comp_def] using hdec
   have hst:qb C tm σ (.buildSlice t n parts)=match parts.toList.flatMap λ p=>rsA (aev tm p.2) with
     | []=>some (.sl k (parts.toList.map λ p=>(cellsOf (aev tm p.2)).map (zm σ.rw)) 2,none)
     | r::l=>some (.sl k (parts.toList.map λ p=>(cellsOf (aev tm p.2)).map (zm σ.rw)) 2,some { σ with rw:=frz σ.rw (r::l),wrr:=(r::l) ++ σ.wrr }):=by
    simp only [qb,hty,hd,hpo]
    rfl
   rw [hst]
   split at h
   ·rename_i hno
    have hno':parts.toList.flatMap (λ p=>rsA (aev tm p.2))=[]:=by
     have:=qq0 (xs:=parts.toList.map λ p=>evT E p.2) (ys:=parts.toList.map λ p=>aev tm p.2) (by rw [List.all_map];exact hno) (by have:=hr.evs (parts.toList.map (·.2));simpa [List.map_map,Function.comp_def] using this)
     rwa [List.flatMap_map] at this
    rw [hno']
    exact .same hr h rfl (hok m)
   ·split
    ·exact ⟨_,some (shA τ),_,none,shM m,h,rfl,qe5 m,hr.share rfl hq.sh,hok _,λ h=>by cases h⟩
    ·exact .to h rfl (qe5 m) (hr.share (σ':={ σ with rw:=frz σ.rw _,wrr:=_ }) rfl (hq.frz _ _)) (hok _)
 | load t a =>
   simp only [Qp] at h
   split at h<;>try cases h
   rename_i d hd
   have ha:=hr.ev a
   split at h<;>try cases h
   ·rename_i b o he
    rw [he] at ha
    obtain ⟨_,ha⟩:=ha
    split at h<;>try cases h
    rename_i cs hcs
    split at h<;>try cases h
    rename_i x hx
    obtain ⟨ds,g1,g2⟩:=hr.box b cs hcs
    obtain ⟨y,g3,g4⟩:=qfD g2 hx
    exact .same hr h (by simp only [qb,hty,hd,ha,Js,g1,g3]) g4
   ·rename_i cs o he
    rw [he] at ha
    obtain ⟨ds,ha,g2⟩:=ha
    split at h<;>try cases h
    rename_i x hx
    obtain ⟨y,g3,g4⟩:=qfD g2 hx
    exact .same hr h (by simp only [qb,hty,hd,ha,Js,g3]) g4
   ·rename_i id ver sv i cs o he
    rw [he] at ha
    split at h<;>try cases h
    rename_i R hR
    split at h<;>try cases h
    rename_i hv1
    split at h
    rotate_left
    ·split at h<;>try cases h
     rename_i hsh
     obtain ⟨v,hv,h⟩:=Jy h
     split at h<;>try cases h
     rename_i x hx
     obtain ⟨j0,hv⟩:=qk2 hv
     obtain ⟨R',g1,_,_,_,g2⟩:=ha
     rw [hr.rw,hR] at g1;cases g1
     have hg:=hr.rows id R (by rw [hr.rw];exact hR)
     rcases g2 (Nat.eq_of_beq_eq_true hv1) with ⟨r',j,z1,z2,z0,z3,_⟩ | ⟨z1,z3,_⟩
     ·rw [z1] at hg
      obtain ⟨Q,q1,q2,q3,q4,q5,q6,q7⟩:=hg
      rw [z0,Int.toNat_natCast] at hv
      obtain ⟨e,e1,e2⟩:=qf0 q5 hv
      obtain ⟨y,g3,g4⟩:=qfD (jU e2) hx
      have kl:qpU Q j (m.v id)=some e:=by unfold qpU;rw [if_pos q3];exact e1
      exact .same hr h (by simp only [qb,hty,hd,z2,Js,q1,kl,g3]) g4
     ·rw [z1] at hg
      have:=hg hsh
      rw [this] at z3
      exact absurd z3 (Nat.lt_irrefl _)
    rename_i hv2
    split at h<;>try cases h
    rename_i x hx
    rcases qz4 hr ha hR (Nat.eq_of_beq_eq_true hv1) (Nat.eq_of_beq_eq_true hv2) with ⟨r',j,ds,Q,k1,_,_,k2,k3,k4,_⟩ | ⟨ds,k1,k4,_⟩
    ·obtain ⟨y,g3,g4⟩:=qfD k4 hx
     have kl:qpU Q j Q.ver=some ds:=by unfold qpU;rw [if_pos rfl];exact k3
     exact .same hr h (by simp only [qb,hty,hd,k1,Js,k2,kl,g3]) g4
    ·obtain ⟨y,g3,g4⟩:=qfD k4 hx
     exact .same hr h (by simp only [qb,hty,hd,k1,Js,g3]) g4
 | store t a x =>
   simp only [Qp] at h
   split at h<;>try cases h
   rotate_left
   ·rename_i d id ver sv i cs o hd he
    have ha:=hr.ev a
    rw [he] at ha
    split at h<;>try cases h
    rename_i R hR
    split at h<;>try cases h
    rename_i hc
    simp only [Bool.and_eq_true,decide_eq_true_eq,Bool.not_eq_true'] at hc
    obtain ⟨⟨⟨⟨⟨c1,c2⟩,c3⟩,c4⟩,c5⟩,c6⟩:=hc
    split at h<;>try cases h
    rename_i v hv
    rcases qz4 hr ha hR (Nat.eq_of_beq_eq_true c1) (Nat.eq_of_beq_eq_true c2) with ⟨r',j,ds,Q,k1,krr,ki,k2,k3,k4,kj,kv,kk,kd,kf,ks⟩ | ⟨ds,k1,k4,ks⟩
    rotate_left
    ·rw [c3] at ks;cases ks
    obtain ⟨z1,z2,z3⟩:=qAo (hr.ev x) c6
    have hpar:=qgo hv
    have hcat:OKL m (cs.take o++(ji (evT E x)++cs.drop (o+d.size))) (ds.take o++(cellsOf (aev tm x)++ds.drop (o+d.size))):=(k4.take o).append (z1.append (k4.drop _))
    rw [<- hr.rw] at hpar
    obtain ⟨rs,p1,p2⟩:=qd4 hr.rows R.τ hpar hcat
    cases p2
    have hpl:∀ y∈ds,qA y=true:=by
     obtain ⟨w,_,hw⟩:=Ju kd k3
     obtain ⟨pre,h1,_,h3,_⟩:=yx R.τ (zQ.1 hw)
     rw [List.append_nil] at h1
     rw [h1];exact h3
    have hdl:ds.length=R.τ.size:=by
     obtain ⟨w,_,hw⟩:=Ju kd k3
     obtain ⟨pre,h1,h2,_⟩:=yx R.τ (zQ.1 hw)
     rw [List.append_nil] at h1
     rw [h1];exact h2
    have hxp:∀ y∈cellsOf (aev tm x),qA y=true:=by
     obtain ⟨pre,h1,_,h3,_⟩:=yx R.τ p1
     rw [List.map_nil,List.append_nil] at h1
     intro y hy
     have:=h3 (zm σ.rw y) (by rw [<- h1];exact List.mem_map_of_mem (List.mem_append.2 (.inr (List.mem_append.2 (.inl hy)))))
     exact qoR (z3 y hy) this
    have hdec:yg R.τ (ds.take o++(cellsOf (aev tm x)++ds.drop (o+d.size)))=some v:=by
     have:yg R.τ ((ds.take o++(cellsOf (aev tm x)++ds.drop (o+d.size))).map (zm σ.rw))=some v:=zQ.2 p1
     exact qqQ (λ y hy=>by
      rcases List.mem_append.1 hy with hy | hy
      ·exact hpl y (List.mem_of_mem_take hy)
      ·rcases List.mem_append.1 hy with hy | hy
       ·exact hxp y hy
       ·exact hpl y (List.mem_of_mem_drop hy)) this
    have hset:=qwd kd j hdec
    have hrl:r' < σ.rw.length:=getElem?_lt k2
    have hcl:(cellsOf (aev tm x)).length=d.size:=by rw [z1.len];exact c4
    have hol:o+d.size<=ds.length:=by rw [k4.len];exact c5
    have hro:qp5 Q j o Q.ver d.size (cellsOf (aev tm x))=some { Q with c:=Q.c.set j (ds.take o++(cellsOf (aev tm x)++ds.drop (o+d.size))) }:=by
     unfold qp5
     have e1:(decide (Q.ver=Q.ver/\Q.fz<=j/\o+d.size<=Q.k/\(cellsOf (aev tm x)).length=d.size/\Q.off=false)&&(cellsOf (aev tm x)).all qA)=true:=by
      rw [Bool.and_eq_true,decide_eq_true_eq,List.all_eq_true]
      exact ⟨⟨rfl,by rw [(ks c3).1];exact Nat.zero_le _,by rw [kk,<- hdl];exact hol,hcl,(ks c3).2⟩,hxp⟩
     rw [e1,k3]
    have hlset:y8 R.l i v=R.l.set j v:=by
     unfold y8
     rw [if_pos (by rw [ki];exact Int.natCast_nonneg j),ki];rfl
    obtain ⟨m',g1,g2,_⟩:=hr.rowUpd (R2:=⟨R.τ,y8 R.l i v,R.ver,R.sv+1,R.sh⟩) hR (m.r id) (m.v id) (Q.c.set j (ds.take o++(cellsOf (aev tm x)++ds.drop (o+d.size)))) (Nat.le_refl _) (Nat.le_succ _)
     (λ _=>⟨by show (y8 R.l i v).length=_;rw [hlset,List.length_set],rfl,rfl,rfl,(λ h=>by have:R.sv+1=R.sv:=h;omega),(λ h=>by rw [krr] at h;cases h)⟩) (σ':={ σ with rw := σ.rw.set r' { Q with c:=Q.c.set j (ds.take o++(cellsOf (aev tm x)++ds.drop (o+d.size))) },wrr:=r' :: σ.wrr }) rfl
     (by
      rw [krr]
      refine ⟨{ Q with c:=Q.c.set j (ds.take o++(cellsOf (aev tm x)++ds.drop (o+d.size))) },by show (σ.rw.set r' _)[r']? = _;rw [List.getElem?_set_self hrl],rfl,kv,kk,?_,?_,ks⟩
      ·show qU (yg R.τ) (Q.c.set j _)=some (y8 R.l i v)
       rw [hlset];exact hset
      ·show Q.fz<=(Q.c.set j _).length
       rw [List.length_set];exact kf)
     (λ id' r'' h1 h2 h3=>by
      have hne:=hr.others hR krr h1 h2 h3
      refine ⟨λ he=>by rw [krr] at he;exact hne (Option.some.inj he).symm,λ Q' hQ'=>?_⟩
      show (σ.rw.set r' _)[r'']? = _
      rw [List.getElem?_set_ne (Ne.symm hne)];exact hQ')
    exact .to h (by simp only [qb,hty,hd,k1,k2,hro];rfl) g1 g2 ⟨_,rfl,rfl⟩
   rename_i d b o hd he
   have ha:=hr.ev a
   rw [he] at ha
   obtain ⟨hb,ha⟩:=ha
   split at h<;>try cases h
   rename_i cs hcs
   split at h<;>try cases h
   rename_i hc
   simp only [Bool.and_eq_true,decide_eq_true_eq] at hc
   obtain ⟨⟨h1,h2⟩,h3⟩:=hc
   obtain ⟨ds,g1,g2⟩:=hr.box b cs hcs
   obtain ⟨k1,k2⟩:=(hr.ev x).cells h3
   have e1:(cellsOf (aev tm x)).length=d.size:=by rw [k1.len];exact h1
   have e2:o+d.size<=ds.length:=by rw [g2.len];exact h2
   exact .to h (by simp only [qb,hty,hd,ha,g1,e1,e2,k2,decide_true,Bool.and_self];rfl) (.refl m) (hr.setBox hb ((g2.take o).append (k1.append (g2.drop (o+d.size)))) _) ⟨_,rfl,rfl⟩
 | makeSlice t n mm =>
   simp only [Qp] at h
   split at h<;>try cases h
   rename_i _ _ _ _ _ k bytes z a' ik a hd he hn
   split at h<;>try cases h
   rename_i hc
   simp only [Bool.and_eq_true,decide_eq_true_eq] at hc
   obtain ⟨⟨⟨⟨c1,c2⟩,c3⟩,c4⟩,c5⟩:=hc
   split at h<;>try cases h
   rename_i v hv
   obtain ⟨hm,h⟩:=Qh h
   obtain ⟨m1,m2,m3⟩:=of_decide_eq_true hm
   have hnv:=hr.ev n
   rw [hn] at hnv
   have hnv:aev tm n = .v (.int ik a):=hnv
   have hmv:aev tm mm = .v (.int ik a):=by rw [<- qIv c1];exact hnv
   have hq0:ja mp0 σ := λ id R h=>by cases h
   have hpar:=qgo hv
   obtain ⟨rs,p1,p2⟩:=qd4 (m:=mp0) hq0 a' hpar (qgT c5)
   cases p2
   have hzv:(z.map AV.v).map (zm σ.rw)=z.map AV.v:=by rw [List.map_map];exact List.map_congr_left λ _ _=>rfl
   rw [hzv] at p1
   have hd1:yg a' (z.map AV.v)=some v:=zQ.2 p1
   have hplz:(z.map AV.v).all qA=true:=by rw [List.all_map,List.all_eq_true];intro _ _;rfl
   have hcond:decide (0<=a/\a.toNat*bytes<=2 ^ 47/\a.toNat<2 ^ 62/\0<k/\z.length=k)=true:=decide_eq_true ⟨m1,m2,m3,c3,c4⟩
   have hst:qb C tm σ (.makeSlice t n mm)=match zf a.toNat 0 with
     | true=>some (.sl k [] 2,none)
     | false=>some (.rs σ.rw.length 0 a.toNat 0 false,some { σ with rw := σ.rw++[⟨k,List.replicate a.toNat (z.map .v),0,0,false⟩] }):=by
    simp only [qb,hty,hd,hnv,hmv,true_and,hcond,c5,hplz,Bool.and_self]
    cases zf a.toNat 0<;>rfl
   have hreps:=qwu hd1 a.toNat
   by_cases ha:a.toNat=0
   ·obtain ⟨m',g1,g2,g3⟩:=hr.rowAdd (σ' := σ) ⟨a',List.replicate a.toNat v,0,0,false⟩ none 0 [] rfl (λ _=>by show List.replicate a.toNat v=[];rw [ha];rfl) (λ r Q h=>h) (λ r h=>by cases h) (y := .sl k [] 2) ⟨by show jb a'.size (yg a') (.sl k [] 2)=some (List.replicate a.toNat v);rw [ha,c2];simp only [jb,zf,decide_true];rfl,Nat.le_refl _⟩ rfl
    refine ⟨_,some _,.sl k [] 2,none,m',h,?_,g1,g2,g3,λ h=>by cases h⟩
    have:zf a.toNat 0=true:=by simp [zf,ha]
    rw [hst,this]
   ·obtain ⟨m',g1,g2,g3⟩:=hr.rowNew hreps
    rw [List.length_replicate] at g3
    refine .to h (y := .rs σ.rw.length 0 a.toNat 0 false) ?_ g1 g2 g3
    have:zf a.toNat 0=false:=by simp [zf,ha]
    rw [hst,this,c2]
 | nilCheck x =>
   simp only [Qp] at h
   have ha:=hr.ev x
   split at h<;>try cases h
   ·rename_i b o he
    rw [he] at ha
    exact .same hr h (by simp only [qb,ha.2]) ⟨ha.1,rfl⟩
   ·rename_i cs o he
    rw [he] at ha
    obtain ⟨ds,ha,g⟩:=ha
    exact .same hr h (by simp only [qb,ha]) ⟨ds,rfl,g⟩
   ·rename_i id ver sv i cs o he
    rw [he] at ha
    have ha':=ha
    obtain ⟨R,_,_,_,hy,_⟩:=ha
    rcases hy with ⟨r',j,ep,hy⟩ | ⟨ds,hy⟩
    ·exact .same hr h (y := .rpt r' j o ep) (by simp only [qb,hy]) (by rw [<- hy];exact ha')
    ·exact .same hr h (y := .ept ds o) (by simp only [qb,hy]) (by rw [<- hy];exact ha')
 | binOp op t x y u =>
   simp only [Qp] at h
   split at h
   ·rename_i b hb
    obtain ⟨e1,hd⟩:((op = .eql/\K (.b b) none=some r)\/(op = .neq/\K (.b (!b)) none=some r))/\∃ p1 p2 p3 p4,c.ty t=some ⟨p1,p2,p3,p4,.ptr⟩:=by
     split at h<;>try (cases h;done)
     ·rename_i hp;exact ⟨.inl ⟨rfl,h⟩,qqA hp⟩
     ·rename_i hp;exact ⟨.inr ⟨rfl,h⟩,qqA hp⟩
    obtain ⟨p1,p2,p3,p4,hd⟩:=hd
    rcases qDU (hr.ev x) (hr.ev y) hb with ⟨rfl,q1,q2⟩ | ⟨rfl,q1,q2⟩
    ·rcases e1 with ⟨rfl,e1⟩ | ⟨rfl,e1⟩<;>exact .same hr e1 (by simp only [qb,q1,q2,hty,hd,Bool.not_true]) rfl
    ·rcases e1 with ⟨rfl,e1⟩ | ⟨rfl,e1⟩
     ·refine .same hr e1 (y := .v (.bool false)) ?_ rfl
      cases hx:aev tm x<;>rw [hx] at q1<;>first | (cases q1;done) | (simp only [qb,hx,q2,hty,hd,qpl,qya,Bool.and_self])
     ·refine .same hr e1 (y := .v (.bool true)) ?_ rfl
      cases hx:aev tm x<;>rw [hx] at q1<;>first | (cases q1;done) | (simp only [qb,hx,q2,hty,hd,qpl,qya,Bool.and_self])
   obtain ⟨z,v,h1,h2,h3⟩:=qIk (hr.ev x) (hr.ev y) h
   refine .same hr h1 ?_ h2
   rcases h3 with ⟨a,b,e1,e2,e3,h4⟩ | ⟨a,b,e1,e2,e3,h4⟩
   ·obtain ⟨p1,p2,p3,p4,hd⟩:=qAs e3
    rcases h4 with ⟨rfl,rfl⟩ | ⟨rfl,rfl⟩<;>simp only [qb,e1,e2,hty,hd]
   ·simp only [qb,e1,e2]
    split
    ·rename_i p q hp hq
     cases hp;cases hq
     exact absurd ⟨rfl,rfl⟩ (e3 p q)
    ·rename_i hp hq
     cases hp;cases hq
     simp [qps] at h4
    ·rename_i hp hq
     cases hp;cases hq
     rw [h4]
    ·rename_i n1 n2 n3
     exact absurd rfl (n3 _ _ rfl)
 | unOp op t x =>
   simp only [Qp] at h
   have ha:=hr.ev x
   split at h<;>try cases h
   ·rename_i k n he
    rw [he] at ha
    exact .same hr h (by simp only [qb,show aev tm x=_ from ha,unA]) rfl
   ·rename_i b he
    rw [he] at ha
    exact .same hr h (by simp only [qb,show aev tm x=_ from ha,unA]) rfl
 | convert s d x =>
   simp only [Qp] at h
   have ha:=hr.ev x
   split at h<;>try cases h
   ·rename_i h1 h2 h3
    rw [h3] at ha
    exact .same hr h (by simp only [qb,hty,h1,h2,show aev tm x=_ from ha]) rfl
   ·rename_i h1 h2 h3
    rw [h3] at ha
    exact .same hr h (by simp only [qb,hty,h1,h2,show aev tm x=_ from ha]) rfl
   ·rename_i e _ _ _ y h1 h2 h3
    rw [h3] at ha
    split at h<;>try cases h
    rename_i hu
    have ha:aev tm x = .v (.string ⟨y.toArray⟩):=ha
    obtain ⟨m',g1,g2,g3⟩:=hr.rowNew (qv7 y)
    rw [show (Q9 y).length=y.toArray.size by simp [Q9]] at g3
    exact .to h (y := .rs σ.rw.length 0 y.toArray.size 0 false) (by simp only [qb,hty,h1,h2,ha,hu];rfl) g1 g2 g3
   ·rename_i e _ _ _ _ _ _ _ _ _ _ h1 h2 hn
    split at h<;>try cases h
    rename_i l hu hl
    rw [<- hr.rw] at hl
    obtain ⟨es,g1,g2,g3⟩:=ql8 hr.rows hl ha
    have g1:elems σ.rw 1 (aev tm x)=some es:=g1
    refine .same hr h (y := .v (.string ⟨(yl l).toArray⟩)) ?_ rfl
    have hs:=qza es l g2
    cases hx:aev tm x<;>rw [hx] at g1<;>first
     | (simp [elems] at g1;done)
     | (simp only [qb,hty,h1,h2,hx,hu,g1,hs];done)
     | skip
    rename_i v
    cases v<;>first
     | (simp [elems] at g1;done)
     | (simp only [qb,hty,h1,h2,hx,hu,g1,hs])
 | makeFunc f fs cs =>
   cases f with
   | func f =>
     simp only [Qp] at h
     split at h<;>try cases h
     rename_i hf
     exact .same hr h (by simp only [qb,hf]) ⟨_,rfl,hr.evs _⟩
   | _=>simp only [Qp] at h;cases h
 | slice t x lo hi mx =>
   cases mx with
   | some q=>simp only [Qp] at h;cases h
   | none =>
   simp only [Qp] at h
   have ha:=hr.ev x
   split at h<;>try cases h
   ·rename_i y hd he
    rw [he] at ha
    split at h<;>try cases h
    rename_i hh hhe
    split at h<;>try cases h
    rename_i l hle
    obtain ⟨c1,h⟩:=Qh h
    obtain ⟨c2,h⟩:=Qh h
    have hxl:qnE ⟨y.toArray⟩=y.length:=by simp [qnE,ByteArray.size]
    have b1:=qch hr (d:=y.length) hhe (Nat.le_refl _) c1
    have b2:=qch hr (d:=0) hle (Nat.zero_le _) c2
    refine .same hr h (y := .v (.string (qzs ⟨y.toArray⟩ l.toNat hh.toNat))) ?_ ?_
    ·simp only [qb,hty,hd,show aev tm x=_ from ha,hxl,b1,b2]
    ·show AV.v _=AV.v _
     rw [<- qF5]
   ·rename_i a y lv hd he
    rw [he] at ha
    split at h<;>try cases h
    rename_i hk
    rw [Bool.and_eq_true] at hk
    have hk1:=of_decide_eq_true hk.1
    split at h<;>try cases h
    rename_i hh hhe
    split at h<;>try cases h
    rename_i l hle
    obtain ⟨c1,h⟩:=Qh h
    obtain ⟨c2,h⟩:=Qh h
    have b1:=qch hr (d:=y.length) hhe (Nat.le_refl _) c1
    have b2:=qch hr (d:=0) hle (Nat.zero_le _) c2
    obtain ⟨hdl,_⟩:=ha
    rcases jc hdl with ⟨h1,rfl⟩ | ⟨es,n,h1,h2⟩
    ·refine .same hr h (y := .v (.slice none 0 0)) ?_ ?_
     ·simp only [List.length_nil] at b1
      simp only [qb,hty,hd,h1,b1,b2]
     ·refine ⟨?_,by decide⟩
      show some []=some (qfO [] l hh)
      simp [qfO]
    ·have hsl:qaD es=y.length:=qQ h2
     refine .same hr h (y := .sl a.size (qC1 es l.toNat hh.toNat) (lvS (n+1) (zf hh.toNat y.length))) ?_ ?_
     ·simp only [qb,hty,hd,h1,hk1,zf,decide_true,hsl,b1,b2,show pos (n+1)=true from by simp [pos],Bool.and_self]
     ·have hlv:∃ q,lvS (n+1) (zf hh.toNat y.length)=q+1:=by unfold lvS;split<;>exact ⟨_,rfl⟩
      obtain ⟨q,hq⟩:=hlv
      rw [hq]
      refine ⟨?_,Nat.succ_le_succ (Nat.zero_le _)⟩
      show jb _ _ (.sl _ _ (q+1))=_
      simp only [jb,hk1,zf,decide_true]
      exact qeH _ (qge _ h2)
   ·rename_i hd he
    rw [he] at ha
    split at h<;>try cases h
    rename_i hh hhe
    split at h<;>try cases h
    rename_i l hle
    obtain ⟨c1,h⟩:=Qh h
    obtain ⟨c2,h⟩:=Qh h
    have b1:=qch hr (d:=0) hhe (Nat.le_refl _) c1
    have b2:=qch hr (d:=0) hle (Nat.zero_le _) c2
    exact .same hr h (y := .v (.slice none 0 0)) (by simp only [qb,hty,hd,show aev tm x=_ from ha,b1,b2]) rfl
   ·rename_i _ _ _ _ _ k _ _ id ver hd he
    rw [he] at ha
    split at h<;>try cases h
    rename_i R hR
    split at h<;>try cases h
    rename_i hvk
    rw [Bool.and_eq_true] at hvk
    have hv:R.ver=ver:=Nat.eq_of_beq_eq_true hvk.1
    have hk:=of_decide_eq_true hvk.2
    split at h<;>try cases h
    rename_i l hle
    obtain ⟨c1,h⟩:=Qh h
    obtain ⟨R',g1,g2,g3,g4⟩:=ha
    rw [hr.rw,hR] at g1;cases g1
    have hR':m.rw[id]? = some R:=by rw [hr.rw];exact hR
    have gy:=g4 hv
    subst hv
    rcases qhf hr.rows hR' gy with ⟨rr,Q,hrr,hy,k1,k2,kv,k3,k4,kf,ks⟩ | ⟨hrr,hq,hy,hlv⟩
    ·have hQl:=qQ k4
     have hrl:rr < σ.rw.length:=getElem?_lt k1
     have b2:=qch hr (d:=0) hle (Nat.zero_le _) c1
     have hll:l.toNat<=R.l.length:=by
      unfold inb at c1
      have:=of_decide_eq_true c1
      omega
     have hdr:qxE Q k 0 Q.c.length Q.ver l.toNat=some { Q with c:=Q.c.drop l.toNat,ver:=Q.ver+1,fz:=Q.fz-l.toNat,off:=true }:=by
      unfold qxE
      rw [if_pos ⟨k3.trans hk,rfl,rfl,rfl,by rw [hQl];exact hll,kf⟩]
     obtain ⟨m',z1,z2,z3⟩:=hr.rowUpd (R2:=⟨R.τ,R.l.drop l.toNat,R.ver+1,R.sv,true⟩) hR (some rr) (Q.ver+1) (Q.c.drop l.toNat) (Nat.le_succ _) (Nat.le_refl _) (λ h=>by have:R.ver+1=R.ver:=h;omega)
      (σ':={ σ with rw := σ.rw.set rr { Q with c:=Q.c.drop l.toNat,ver:=Q.ver+1,fz:=Q.fz-l.toNat,off:=true },wrr:=rr :: σ.wrr }) rfl
      ⟨{ Q with c:=Q.c.drop l.toNat,ver:=Q.ver+1,fz:=Q.fz-l.toNat,off:=true },by show (σ.rw.set rr _)[rr]? = _;rw [List.getElem?_set_self hrl],rfl,rfl,k3,qeH _ k4,by show Q.fz-l.toNat<=(Q.c.drop l.toNat).length;rw [List.length_drop];omega,λ h=>by cases h⟩ λ id' r'' hne hlt hr''=>by
       have hnr:=hr.others hR hrr hne hlt hr''
       exact ⟨λ hee=>hnr (Option.some.inj hee).symm,λ Q' hQ'=>by show (σ.rw.set rr _)[r'']? = _;rw [List.getElem?_set_ne (Ne.symm hnr)];exact hQ'⟩
     refine .to h (y := .rs rr 0 (Q.c.length-l.toNat) (Q.ver+1) false) ?_ z1 z2 (z3 _ ?_)
     ·simp only [qb,hty,hd,hy,Option.map_none,show ∀ n,qcK n n none=some n from λ _=>rfl,k1,hQl,b2,zf,decide_true]
      rw [hQl] at hdr
      rw [hdr]
     ·show _=AV.rs rr 0 (R.l.drop l.toNat).length (Q.ver+1) false
      rw [List.length_drop,hQl]
    ·have b2:=qch hr (d:=0) hle (Nat.zero_le _) c1
     have hll:l.toNat<=R.l.length:=by
      unfold inb at c1
      have:=of_decide_eq_true c1
      omega
     obtain ⟨m',z1,z2,z3⟩:=hr.rowUpd (R2:=⟨R.τ,R.l.drop l.toNat,R.ver+1,R.sv,true⟩) hR none 0 [] (Nat.le_succ _) (Nat.le_refl _) (λ h=>by have:R.ver+1=R.ver:=h;omega) (σ' := σ) rfl
      (λ hs=>by cases hs) λ id' r'' hne hlt hr''=>⟨λ hee=>(by cases hee),λ _ h=>h⟩
     rcases jc hy with ⟨hyv,hl0⟩ | ⟨es,n,hyv,hd2⟩<;>rw [hyv] at hy hlv
     ·have hl00:l.toNat=0:=by rw [hl0] at hll;simpa using hll
      refine ⟨_,some _,.v (.slice none 0 0),none,m',h,?_,z1,z2,z3 _ ⟨?_,hlv⟩,λ h=>by cases h⟩
      ·rw [hl0] at b2
       simp only [List.length_nil] at b2
       simp only [qb,hty,hd,hyv,Option.map_none,show ∀ n,qcK n n none=some n from λ _=>rfl,b2]
      ·show dlist R.τ _=some (R.l.drop l.toNat)
       rw [hl00,List.drop_zero];exact hy
     ·have hsl:qaD es=R.l.length:=qQ hd2
      have hpos:1<=n:=by have:2<=n+1:=hlv;omega
      refine ⟨_,some _,.sl R.τ.size (qC1 es l.toNat R.l.length) (lvS (n+1) (zf R.l.length R.l.length)),none,m',h,?_,z1,z2,z3 _ ⟨?_,?_⟩,λ h=>by cases h⟩
      ·simp only [qb,hty,hd,hyv,hk,zf,decide_true,Option.map_none,show ∀ n,qcK n n none=some n from λ _=>rfl,hsl,b2,show pos (n+1)=true from by simp [pos],Bool.and_self]
      ·have hlvS:lvS (n+1) (zf R.l.length R.l.length)=2:=by
         unfold lvS
         rw [show (decide (1<n+1)&&zf R.l.length R.l.length)=true by simp [zf];omega]
       rw [hlvS]
       show jb _ _ (.sl _ _ 2)=_
       simp only [jb,zf,decide_true]
       have:=qeH l.toNat (qge R.l.length hd2)
       rw [List.take_length] at this
       exact this
      ·show 2<=lvS _ _
       unfold lvS
       rw [show (decide (1<n+1)&&zf R.l.length R.l.length)=true by simp [zf];omega]
       exact Nat.le_refl _
 | fieldAddr t x i =>
   simp only [Qp] at h
   split at h<;>try cases h
   rename_i hd
   split at h<;>try cases h
   rename_i off size g hf
   split at h<;>try cases h
   have ha:=hr.ev x
   split at h<;>try cases h
   ·rename_i b o he
    rw [he] at ha
    exact .same hr h (by simp only [qb,hty,hd,hf,ha.2]) ⟨ha.1,rfl⟩
   ·rename_i cs o he
    rw [he] at ha
    obtain ⟨ds,ha,hg⟩:=ha
    exact .same hr h (by simp only [qb,hty,hd,hf,ha]) ⟨ds,rfl,hg⟩
   ·rename_i id ver sv j cs o he
    rw [he] at ha
    obtain ⟨R,k1,k2,k3,hy,k4⟩:=ha
    rcases hy with ⟨r',q,ep,hy⟩ | ⟨ds,hy⟩
    ·refine .same hr h (y := .rpt r' q (o+off) ep) (by simp only [qb,hty,hd,hf,hy]) ⟨R,k1,k2,k3,.inl ⟨_,_,_,rfl⟩,λ e1=>?_⟩
     rcases k4 e1 with ⟨r2,i2,z1,z2,z0,z3,z4⟩ | ⟨z1,z3,z4⟩
     ·rw [hy] at z2
      cases z2
      exact .inl ⟨_,_,z1,rfl,z0,z3,z4⟩
     ·exact .inr ⟨z1,z3,λ hs=>by obtain ⟨ds,z,_⟩:=z4 hs;rw [hy] at z;cases z⟩
    ·refine .same hr h (y := .ept ds (o+off)) (by simp only [qb,hty,hd,hf,hy]) ⟨R,k1,k2,k3,.inr ⟨_,rfl⟩,λ e1=>?_⟩
     rcases k4 e1 with ⟨r2,i2,z1,z2,_⟩ | ⟨z1,z3,z4⟩
     ·rw [hy] at z2;cases z2
     ·exact .inr ⟨z1,z3,λ hs=>by obtain ⟨ds',z,zz⟩:=z4 hs;rw [hy] at z;cases z;exact ⟨ds,rfl,zz⟩⟩
 | field t x i =>
   simp only [Qp] at h
   have ha:=hr.ev x
   split at h<;>try cases h
   rename_i cs hd he
   split at h<;>try cases h
   rename_i off size g hf
   split at h<;>try cases h
   rename_i y hy
   rw [he] at ha
   obtain ⟨ds,ha,hg⟩:=ha
   obtain ⟨z,g1,g2⟩:=qfD hg hy
   exact .same hr h (by simp only [qb,hty,hd,ha,hf,g1]) g2
 | indexAddr t x i =>
   simp only [Qp] at h
   have ha:=hr.ev x
   have hi:=hr.ev i
   split at h<;>try cases h
   rename_i _ _ _ _ _ k _ _ ik j hd hj
   rw [hj] at hi
   have hi:aev tm i = .v (.int ik j):=hi
   split at h<;>try cases h
   ·rename_i a l lv he
    rw [he] at ha
    split at h<;>try cases h
    rename_i hk
    have hk:=of_decide_eq_true hk
    obtain ⟨v,hv,h⟩:=Jy h
    obtain ⟨j0,hv⟩:=qk2 hv
    obtain ⟨hdl,_⟩:=ha
    rcases jc hdl with ⟨h1,rfl⟩ | ⟨es,n,h1,h2⟩
    ·simp at hv
    ·obtain ⟨e,g1,g2⟩:=qf0 h2 hv
     refine .same hr h (y := .ept e 0) ?_ ⟨e,rfl,jU g2⟩
     have hsg:qvr es j=some e:=by unfold qvr;rw [if_pos j0];exact g1
     simp only [qb,hty,hd,hi,h1,hk,zf,decide_true,hsg]
   ·rename_i id ver he
    rw [he] at ha
    split at h<;>try cases h
    rename_i R hR
    split at h<;>try cases h
    rename_i hv
    rw [Bool.and_eq_true] at hv
    have hv1:=Nat.eq_of_beq_eq_true hv.1
    have hk:=of_decide_eq_true hv.2
    obtain ⟨v,hv,h⟩:=Jy h
    obtain ⟨j0,hv⟩:=qk2 hv
    obtain ⟨R',g1,g2,g3,g4⟩:=ha
    rw [hr.rw,hR] at g1;cases g1
    have g4:=g4 hv1
    rcases qhf hr.rows (by rw [hr.rw];exact hR) g4 with ⟨rr,Q,hrr,hy,q1,q2,q3,q4,q5,_⟩ | ⟨hno,_,hq,_⟩
    ·obtain ⟨e,z1,z2⟩:=qf0 q5 hv
     have hl:=qQ q5
     have hjl:j.toNat<Q.c.length:=getElem?_lt z1
     refine .same hr h (y := .rpt rr (0+j.toNat) 0 Q.ver) ?_ ?_
     ·have:qxC Q k 0 Q.c.length Q.ver j=some (0+j.toNat):=by
        unfold qxC
        rw [if_pos ⟨q4.trans hk,j0,by omega,rfl,by omega⟩]
      simp only [qb,hty,hd,hi,hy,q1,this]
     ·refine ⟨R,by rw [hr.rw];exact hR,by omega,Nat.le_refl _,.inl ⟨_,_,_,rfl⟩,λ _ => .inl ⟨rr,j.toNat,hrr,by rw [Nat.zero_add,q3],by omega,by omega,λ _=>⟨e,by rw [<- q2];exact z1,jU z2⟩⟩⟩
    ·rcases jc hq with ⟨_,hl⟩ | ⟨es,n,h1,h2⟩
     ·rw [hl] at hv
      simp at hv
     ·obtain ⟨e,g1,g2'⟩:=qf0 h2 hv
      refine .same hr h (y := .ept e 0) ?_ ⟨R,by rw [hr.rw];exact hR,by omega,Nat.le_refl _,.inr ⟨_,rfl⟩,λ _ => .inr ⟨hno,Nat.lt_of_le_of_lt (Nat.zero_le _) (getElem?_lt hv),λ _=>⟨e,rfl,jU g2'⟩⟩⟩
      have hsg:qvr es j=some e:=by unfold qvr;rw [if_pos j0];exact g1
      simp only [qb,hty,hd,hi,h1,hk,zf,decide_true,hsg]
 | index t x i =>
   simp only [Qp] at h
   have ha:=hr.ev x
   have hi:=hr.ev i
   split at h<;>try cases h
   rename_i y ik j hd he hj
   rw [he] at ha
   rw [hj] at hi
   obtain ⟨v,hv,h⟩:=Jy h
   obtain ⟨j0,hv⟩:=qk2 hv
   refine .same hr h (y := .v (.int .u8 v.toNat)) ?_ rfl
   have:qCB ⟨y.toArray⟩ j=some (v.toNat:Int):=by
    unfold qCB
    rw [if_pos j0]
    show (match y[j.toNat]? with | some b=>some ((b.toNat:Nat):Int) | none=>none)=_
    rw [hv]
   simp only [qb,hty,hd,show aev tm x=_ from ha,show aev tm i=_ from hi,this]
 | extract x i =>
   simp only [Qp] at h
   have ha:=hr.ev x
   split at h<;>try cases h
   rename_i vs he
   rw [he] at ha
   obtain ⟨ds,ha,hg⟩:=ha
   split at h<;>try cases h
   rename_i y hy
   obtain ⟨z,g1,g2⟩:=hg.get hy
   exact .same hr h (by simp only [qb,ha,g1]) g2
 | _=>simp only [Qp] at h;cases h
end
end Go.AmZ
namespace Go.AmZ
open Go Go.RowKit Go.GxZ
def qeR:List AV->List Nat
 | []=>[]
 | .fn f _::l=>f::qeR l
 | _::l=>qeR l
def dFn {γ : Type} (q:List AV->Option γ):List AV->Option γ
 | .fn _ []::xs=>q xs
 | _=>none
def qcY:(ts:List ATy)->List AV->Option (qa1 ts)
 | []=>qKj
 | .val τ :: r=>qlQ (Qd τ) (qcY r)
 | .fn::r=>dFn (qcY r)
def qac:(ts:List Ty)->qd1 ts->List AV
 | [],_=>[]
 | [a],v=>[yG a v]
 | a::b::r,v=>yG a v.1::qac (b::r) v.2
def yZ (c:TC) (f:Nat) (ys:List AV):Option AV:=match c.pf f (qeR ys) with
 | some g=>match qcY g.args ys with
   | some a=>match g.fn a with
     | some v=>some (zI (qac g.res v))
     | none=>none
   | none=>none
 | none=>none
def qcP (σ : St) (τ : Ty) (nr:Nat):AV->Option (List (Val τ) × Nat)
 | .rs j lo n ep f=>match σ.rw[nr]? with
   | some R=>match decide (j=nr/\lo=0/\f=false/\R.k = τ.size/\R.ver=ep/\n=R.c.length/\R.fz=0/\R.off=false) with
     | true=>match qU (yg τ) R.c with
       | some l=>some (l,nr+1)
       | none=>none
     | false=>none
   | none=>none
 | y=>match dlist τ y,decide (2<=lvl y) with
   | some [],true=>some ([],nr)
   | _,_=>none
def qiA (σ : St):(l:List RA)->Nat->List AV->Option (CV l × Nat)
 | [],nr,[]=>some ((),nr)
 | [],_,_::_=>none
 | .val τ :: r,nr,ds=>match yg τ (ds.take τ.size) with
   | some v=>match qiA σ r nr (ds.drop τ.size) with
     | some (vs,n)=>some ((v,vs),n)
     | none=>none
   | none=>none
 | .row τ :: r,nr,d::ds=>match qcP σ τ nr d with
   | some (l,nr')=>match qiA σ r nr' ds with
     | some (vs,n)=>some ((l,vs),n)
     | none=>none
   | none=>none
 | .row _::_,_,[]=>none
def qsV (σ : St) (l:List RA) (nb nr:Nat):AV->Option (CV l × Nat)
 | .ptr j 0=>match Nat.beq j nb,σ.bx[nb]? with
   | true,some ds=>qiA σ l nr ds
   | _,_=>none
 | _=>none
def qyI:AV->Bool
 | .v (.slice none 0 0)=>true
 | _=>false
theorem qwc {y:AV} (h:qyI y=true):y = .v (.slice none 0 0):=by
 unfold qyI at h
 split at h
 ·rfl
 ·cases h
def qx1 (g k:Nat):AV->Option (List AV)
 | .fn g' cs=>match Nat.beq g g'&&Nat.beq cs.length k with
   | true=>some cs
   | false=>none
 | _=>none
theorem qA4 {g k:Nat} {y:AV} {cs:List AV} (h:qx1 g k y=some cs):y = .fn g cs/\cs.length=k:=by
 unfold qx1 at h
 split at h<;>try cases h
 split at h<;>cases h
 rename_i hb
 rw [Bool.and_eq_true] at hb
 rw [Nat.eq_of_beq_eq_true hb.1]
 exact ⟨rfl,Nat.eq_of_beq_eq_true hb.2⟩
def dS (σ : St):(sas:List SA)->Nat->Nat->List AV->Option (Qm sas)
 | [],nb,nr,[]=>match decide (nb = σ.bx.length/\nr = σ.rw.length) with
   | true=>some ()
   | false=>none
 | .val τ :: r,nb,nr,y::ys=>match Qd τ y with
   | some v=>match dS σ r nb nr ys with
     | some vs=>some (v,vs)
     | none=>none
   | none=>none
 | .row τ :: r,nb,nr,y::ys=>match qcP σ τ nr y with
   | some (l,nr')=>match dS σ r nb nr' ys with
     | some vs=>some (l,vs)
     | none=>none
   | none=>none
 | .box l::r,nb,nr,y::ys=>match qsV σ l nb nr y with
   | some (v,nr')=>match dS σ r (nb+1) nr' ys with
     | some vs=>some (toB l v,vs)
     | none=>none
   | none=>none
 | .nil::r,nb,nr,y::ys=>match qyI y with
   | true=>dS σ r nb nr ys
   | false=>none
 | .clo g k::r,nb,nr,y::ys=>match qx1 g k y with
   | some cs=>dS σ r nb nr (cs++ys)
   | none=>none
 | _,_,_,_=>none
def JG:(l:List RA)->Nat->CV l->List AV
 | [],_,_=>[]
 | .val τ :: r,L,v=>ql τ v.1++JG r L v.2
 | .row _::r,L,v => .rs L 0 v.1.length 0 false::JG r (L+1) v.2
def qcD:(l:List RA)->CV l->List Row
 | [],_=>[]
 | .val _::r,v=>qcD r v.2
 | .row τ :: r,v=>⟨τ.size,v.1.map (ql τ),0,0,false⟩::qcD r v.2
def jQ:(sas:List SA)->Nat->jr sas->List (List AV)
 | [],_,_=>[]
 | .box l::r,L,o=>JG l L (toC l o.1)::jQ r (L+nR l) o.2
 | .nil::r,L,o=>jQ r L o
 | .val _::r,L,o=>jQ r L o
 | .row _::r,L,o=>jQ r L o
 | .clo _ _::r,L,o=>jQ r L o
def jT:(sas:List SA)->jr sas->List Row
 | [],_=>[]
 | .box l::r,o=>qcD l (toC l o.1)++jT r o.2
 | .nil::r,o=>jT r o
 | .val _::r,o=>jT r o
 | .row _::r,o=>jT r o
 | .clo _ _::r,o=>jT r o
def jf:(rs:List RE)->Nat->RV rs->List AV
 | [],_,_=>[]
 | .one (.val τ)::r,L,v=>yG τ v.1::jf r L v.2
 | .one (.row _)::r,L,v => .rs L 0 v.1.length 0 false::jf r (L+1) v.2
 | .agg l::r,L,v => .agg (JG l L v.1)::jf r (L+nR l) v.2
 | .opt _::r,L,v => .dead::jf r L v.2
 | .elt _::r,L,v => .dead::jf r L v.2
 | .nilp::r,L,v => .v (.pointer none)::jf r L v
 | .box n l::r,L,v => .ptr n 0::jf r (L+nR l) v.2
 | .eltI d _::r,L,v => .rpt (L-d) v.1.1.toNat 0 0::jf r L v.2
def jB:(rs:List RE)->RV rs->List Row
 | [],_=>[]
 | .one (.val _)::r,v=>jB r v.2
 | .one (.row τ)::r,v=>⟨τ.size,v.1.map (ql τ),0,0,false⟩::jB r v.2
 | .agg l::r,v=>qcD l v.1++jB r v.2
 | .opt _::r,v=>jB r v.2
 | .elt _::r,v=>jB r v.2
 | .nilp::r,v=>jB r v
 | .box _ l::r,v=>qcD l (toC l v.1)++jB r v.2
 | .eltI _ _::r,v=>jB r v.2
def jD:(rs:List RE)->Nat->RV rs->List (List AV)
 | [],_,_=>[]
 | .one (.val _)::r,L,v=>jD r L v.2
 | .one (.row _)::r,L,v=>jD r (L+1) v.2
 | .agg l::r,L,v=>jD r (L+nR l) v.2
 | .opt _::r,L,v=>jD r L v.2
 | .elt _::r,L,v=>jD r L v.2
 | .nilp::r,L,v=>jD r L v
 | .box _ l::r,L,v=>JG l L (toC l v.1)::jD r (L+nR l) v.2
 | .eltI _ _::r,L,v=>jD r L v.2
def qnq (rws:List qM):(rs:List RE)->Nat->Nat->RV rs->Prop
 | [],_,_,_=>True
 | .one a::r,nb,d,v=>qnq rws r nb (d+nRA a) v.2
 | .agg l::r,nb,d,v=>qnq rws r nb (d+nR l) v.2
 | .opt _::_,_,_,_=>False
 | .elt _::_,_,_,_=>False
 | .nilp::r,nb,d,v=>qnq rws r nb d v
 | .box n l::r,nb,d,v=>n=nb/\qnq rws r (nb+1) (d+nR l) v.2
 | .eltI x τ :: r,nb,d,v=>(∃ p j R,x=d-p/\p<=d/\rws[p]? = some R/\∃ h:R.τ = τ,v.1.1=((j:Nat):Int)/\R.l[j]? = some (h▸v.1.2))/\qnq rws r nb d v.2
theorem qFR {β : Type} {l:List β} {i:Int} {e : β} (h:qc l i=some e):∃ j:Nat,i=j/\l[j]? = some e:=by
 unfold qc at h
 split at h
 ·exact ⟨i.toNat,by omega,h⟩
 ·cases h
theorem qcA {rws:List qM}:∀ (rs:List RE) (nb d:Nat) (v:RV rs) {β : Type} {k:(rs':List RE)->RV rs'->Option β} {x : β},rws.length<=d->qa8 rws rs nb d v k=some x ->
  ∃ rs' v',k rs' v'=some x/\qnq rws rs' nb d v'/\∀ {γ : Type} (k':(rs':List RE)->RV rs'->Option γ),qa8 rws rs nb d v k'=k' rs' v'
 | [],nb,d,v,β,k,x,hd,h=>⟨[],(),h,trivial,λ _=>rfl⟩
 | .one a::rs,nb,d,v,β,k,x,hd,h=>by
   obtain ⟨rs',v',h1,h2,h3⟩:=qcA rs nb (d+nRA a) v.2 (by omega) h
   exact ⟨_,_,h1,h2,λ k'=>h3 _⟩
 | .agg l::rs,nb,d,v,β,k,x,hd,h=>by
   obtain ⟨rs',v',h1,h2,h3⟩:=qcA rs nb (d+nR l) v.2 (by omega) h
   exact ⟨_,_,h1,h2,λ k'=>h3 _⟩
 | .opt l::rs,nb,d,(none,w),β,k,x,hd,h=>by
   obtain ⟨rs',v',h1,h2,h3⟩:=qcA rs nb d w hd h
   exact ⟨_,_,h1,h2,λ k'=>h3 _⟩
 | .opt l::rs,nb,d,(some b,w),β,k,x,hd,h=>by
   obtain ⟨rs',v',h1,h2,h3⟩:=qcA rs (nb+1) (d+nR l) w (by omega) h
   exact ⟨_,_,h1,⟨rfl,h2⟩,λ k'=>h3 _⟩
 | .elt p::rs,nb,d,(none,w),β,k,x,hd,h=>by
   obtain ⟨rs',v',h1,h2,h3⟩:=qcA rs nb d w hd h
   exact ⟨_,_,h1,h2,λ k'=>h3 _⟩
 | .elt p::rs,nb,d,(some i,w),β,k,x,hd,h=>by
   have h:(match rws[p]? with
    | some R=>qa (qc R.l i) λ e=>qa8 rws rs nb d w λ r' v'=>k (.eltI (d-p) R.τ :: r') ((i,e),v')
    | none=>none)=some x:=h
   split at h<;>try cases h
   rename_i R hR
   obtain ⟨e,he,h⟩:=Jy h
   obtain ⟨rs',v',h1,h2,h3⟩:=qcA rs nb d w hd h
   obtain ⟨j,j1,j2⟩:=qFR he
   refine ⟨_,_,h1,⟨⟨p,j,R,rfl,by have:=getElem?_lt hR;omega,hR,rfl,j1,j2⟩,h2⟩,λ k'=>?_⟩
   show (match rws[p]? with
    | some R=>qa (qc R.l i) λ e=>qa8 rws rs nb d w λ r' v'=>k' (.eltI (d-p) R.τ :: r') ((i,e),v')
    | none=>none)=_
   rw [hR]
   simp only [he,qa]
   exact h3 _
 | .nilp::_,_,_,_,_,_,_,_,h=>by cases h
 | .box _ _::_,_,_,_,_,_,_,_,h=>by cases h
 | .eltI _ _::_,_,_,_,_,_,_,_,h=>by cases h
theorem qhh:∀ (l:List RA) (v:CV l),toC l (toB l v)=v
 | [],_=>rfl
 | [_],(_,())=>rfl
 | _::_::_,_=>rfl
theorem QS:∀ (l:List RA) (v:CV l),(qcD l v).length=nR l
 | [],_=>rfl
 | .val _::r,v=>QS r v.2
 | .row _::r,v=>congrArg (· + 1) (QS r v.2)
theorem js:∀ (l:List RA) (v:CV l),(jZ l v).length=nR l
 | [],_=>rfl
 | .val _::r,v=>js r v.2
 | .row _::r,v=>congrArg (· + 1) (js r v.2)
theorem qa2:∀ (sas:List SA) (o:jr sas),(jT sas o).length=nrB sas
 | [],_=>rfl
 | .nil::r,o=>qa2 r o
 | .val _::r,o=>qa2 r o
 | .row _::r,o=>qa2 r o
 | .clo _ _::r,o=>qa2 r o
 | .box l::r,o=>by rw [jT,List.length_append,QS,qa2 r o.2];rfl
theorem qaI:∀ (sas:List SA) (o:jr sas),(J7 sas o).length=nrB sas
 | [],_=>rfl
 | .nil::r,o=>qaI r o
 | .val _::r,o=>qaI r o
 | .row _::r,o=>qaI r o
 | .clo _ _::r,o=>qaI r o
 | .box l::r,o=>by rw [J7,List.length_append,js,qaI r o.2];rfl
def sgP (g:qnj) (σ : St) (ys:List AV):Option (AV × Option St):=match dS σ g.args 0 0 ys with
 | some a=>match g.fn a with
   | some v=>qa8 (J7 g.args v.1) g.res (nBx g.args) (nrB g.args) v.2 λ rs' v'=>some (zI (jf rs' (σ.rw.length+nrB g.args) v'),some ⟨jQ g.args σ.rw.length v.1++jD rs' (σ.rw.length+nrB g.args) v',σ.rw.map Qn++(jT g.args v.1++jB rs' v'),List.range σ.bx.length,List.range σ.rw.length⟩)
   | none=>none
 | none=>none
def mgP (g:qom) (σ : St) (ys:List AV):Option (AV × Option St):=match dS σ (.row g.τ :: g.args) 0 0 ys with
 | some a=>match g.fn a with
   | some v=>match Nat.beq v.length a.1.length with
     | true=>match σ.bx,σ.rw with
       | [],[R]=>some (.tup [],some ⟨[],[⟨R.k,v.map (ql g.τ),R.ver,R.fz,R.off⟩],[],[0]⟩)
       | [],[]=>some (.tup [],none)
       | _,_=>none
     | false=>none
   | none=>none
 | none=>none
def xgP (g:qrv) (σ : St) (ys:List AV):Option (AV × Option St):=match dS σ g.args 0 0 ys with
 | some a=>match g.fn a with
   | some v=>some (.v (.int .i64 v),none)
   | none=>none
 | none=>none
def TC.spf (c:TC) (f:Nat):Option (St->List AV->Option (AV × Option St)):=match c.mf f with
 | some g=>some (mgP g)
 | none=>match c.xf f with
   | some g=>some (xgP g)
   | none=>match c.sf f with
     | some g=>some (sgP g)
     | none=>none
def TC.pc (c:TC):PC:=⟨c.ty,λ f=>match c.has f with
 | true=>some (yZ c f)
 | false=>none,c.spf,c.pur,c.ld⟩
theorem TC.raw_eq (c:TC):c.pc.cfg.raw=c.rawT:=by
 show c.pc.raw=c.rawT
 funext f
 unfold PC.raw TC.rawT
 have e1:c.pc.pf f=match c.has f with | true=>some (yZ c f) | false=>none:=rfl
 have e2:c.pc.sp f=c.spf f:=rfl
 rw [e1,e2]
 unfold TC.spf
 cases c.has f with
 | true=>rfl
 | false =>
   cases c.mf f with
   | some g=>rfl
   | none =>
     cases c.xf f with
     | some g=>rfl
     | none =>
       cases c.sf f with
       | none=>rfl
       | some g=>rfl
theorem TC.lo_eq (c:TC):c.pc.cfg.lo=c.loT:=by
 show (λ f=>c.pc.raw f||c.ld f)=c.loT
 funext f
 have h:c.pc.raw f=c.rawT f:=congrFun c.raw_eq f
 rw [h];rfl
section
variable {α : Type} {N:Nat × Nat} {m:Mp} {E:Env} {τ : TS} {tm:List AV} {σ : St} {K:KT α} {r : α} {p:Option (AV × Option St)} {c:TC} {C:Cfg}
theorem qab:∀ {cs:List AV},(∀ x∈cs,qA x=true)->rbL cs=[]/\rrL cs=[]
 | [],_=>⟨rfl,rfl⟩
 | x::cs,h=>by
   obtain ⟨h1,h2⟩:=qab λ y hy=>h y (List.mem_cons_of_mem _ hy)
   have hx:=h x (List.mem_cons_self ..)
   rw [rbL,rrL,h1,h2]
   cases x<;>first | exact ⟨rfl,rfl⟩ | (simp [qA] at hx)
theorem qb5 {a:Ty} {y:AV} {v:Val a} (h:Qd a y=some v):Qo y=true/\∀ f cs,y ≠ .fn f cs:=by
 unfold Qd at h
 split at h
 case h_2=>cases h
 obtain ⟨pre,h1,_,h3,_⟩:=yx a (zQ.1 h)
 rw [List.append_nil] at h1
 rw [<- h1] at h3
 cases y with
 | agg cs =>
   obtain ⟨g1,g2⟩:=qab (cs:=cs) h3
   refine ⟨?_,λ f cs h=>by cases h⟩
   unfold Qo
   rw [rb,rr,g1,g2];rfl
 | v x=>exact ⟨rfl,λ f cs h=>by cases h⟩
 | sl k es n=>exact ⟨rfl,λ f cs h=>by cases h⟩
 | _=>have:=h3 _ (List.mem_singleton.2 rfl);simp [qA] at this
theorem qgR:∀ (a:Ty) (v:Val a),Qo (yG a v)=true
 | .int _,_=>rfl
 | .bool,_=>rfl
 | .str,_=>rfl
 | .list _,_=>rfl
 | .term,v=>by
   obtain ⟨g1,g2⟩:=qab (z8 .term v)
   show Qo (.agg _)=true
   unfold Qo
   rw [rb,rr,g1,g2];rfl
 | .pair a b,v=>by
   obtain ⟨g1,g2⟩:=qab (z8 (.pair a b) v)
   show Qo (.agg _)=true
   unfold Qo
   rw [rb,rr,g1,g2];rfl
 | .one a,v=>by
   obtain ⟨g1,g2⟩:=qab (z8 (.one a) v)
   show Qo (.agg _)=true
   unfold Qo
   rw [rb,rr,g1,g2];rfl
theorem qAA {y:AV} (h:∀ z∈cellsOf y,qA z=true):rb y=[]/\rr y=[]:=by
 cases y with
 | agg cs =>
   obtain ⟨g1,g2⟩:=qab (cs:=cs) h
   exact ⟨by rw [rb,g1],by rw [rr,g2]⟩
 | _=>exact qtR (h _ (List.mem_singleton.2 rfl))
theorem qDQ (hq:ja m σ) {a:Ty} {cs:List TV} {ds:List AV} {v:Val a} (h1:∀ y∈ds,rsC y=[]) (h2:qm2 (qi1 m.rw a cs)=some v) (ho:OKL m cs ds):yg a ds=some v/\∀ y∈ds,qA y=true:=by
 obtain ⟨rs,p1,p2⟩:=qd4 hq a (qgo h2) ho
 cases p2
 have hp:∀ y∈ds,qA y=true:=by
  obtain ⟨pre,h1',_,h3,_⟩:=yx a p1
  rw [List.map_nil,List.append_nil] at h1'
  intro y hy
  exact qoR (h1 y hy) (h3 _ (by rw [<- h1'];exact List.mem_map_of_mem hy))
 exact ⟨qqQ hp (zQ.2 p1),hp⟩
theorem qIr (hq:ja m σ) {a:Ty} {x:TV} {y:AV} {v:Val a} (h1:qni x=true) (h2:qfq m.rw a x=some v) (ho:OK m x y):Qd a y=some v/\rb y=[]/\rr y=[]:=by
 obtain ⟨g1,g2⟩:=qjw hq h2 ho
 have hrs:=qup h1 ho
 have hno:∀ z∈cellsOf y,rsC z=[]:=by
  intro z hz
  cases y with
  | agg cs=>exact List.flatMap_eq_nil_iff.1 hrs z hz
  | _=>cases List.mem_singleton.1 hz;exact hrs
 have hp:∀ z∈cellsOf y,qA z=true:=by
  obtain ⟨pre,h1',_,h3,_⟩:=yx a (zQ.1 g2)
  rw [List.append_nil] at h1'
  intro z hz
  exact qoR (hno z hz) (h3 _ (by rw [<- h1'];exact List.mem_map_of_mem hz))
 obtain ⟨e1,e2⟩:=qAA hp
 refine ⟨?_,e1,e2⟩
 have hd:yg a (cellsOf y)=some v:=qqQ hp g2
 unfold Qd at g1 |-
 have hag:qcU (jR σ.rw y)=qcU y:=by
  cases y with
  | agg cs=>rfl
  | rs r lo n ep f=>simp [cellsOf,rsC] at hno
  | _=>rfl
 rw [hag] at g1
 split at g1
 ·exact hd
 ·cases g1
theorem qot {fb fr:Nat->Nat} {y:AV} (h1:rb y=[]) (h2:rr y=[]):ren fb fr y=y:=qrY y h1 h2
theorem qA0 {pre post:List Nat} {b:Nat} (h:(pre++b::post).Nodup):(pre++b::post).idxOf b=pre.length:=qp1 h (by rw [List.getElem?_append_right (Nat.le_refl _)];simp)
theorem qcy {fb fr:Nat->Nat}:∀ l:List AV,qZ fb fr l=l.map (ren fb fr)
 | []=>rfl
 | x::l=>by rw [qZ,qcy l];rfl
theorem qzy {fb fr:Nat->Nat} (a b:List AV):qZ fb fr (a++b)=qZ fb fr a++qZ fb fr b:=by rw [qcy,qcy,qcy,List.map_append]
theorem quT:∀ a b:List AV,rbL (a++b)=rbL a++rbL b
 | [],_=>rfl
 | x::a,b=>by rw [List.cons_append,rbL,rbL,quT a b,List.append_assoc]
theorem qu3:∀ a b:List AV,rrL (a++b)=rrL a++rrL b
 | [],_=>rfl
 | x::a,b=>by rw [List.cons_append,rrL,rrL,qu3 a b,List.append_assoc]
theorem qA1 (hr:Rel N m E τ tm σ) {t:Ty} {x:TV} {y:AV} {l:List (Val t)} {ids:List Nat} (hl:qhb τ.rw t x=some (l,ids)) (hy:OK m x y) :
  rb y=[]/\rr y=ids.filterMap m.r/\(∀ id∈ids,id<m.rw.length) /\
  ∀ (B pre post:List Nat) (fb:Nat->Nat),(pre++(ids.filterMap m.r++post)).Nodup->qcP (qO σ B (pre++(ids.filterMap m.r++post))) t pre.length (ren fb (λ r=>(pre++(ids.filterMap m.r++post)).idxOf r) y)=some (l,pre.length+(ids.filterMap m.r).length):=by
 have emp:dlist t y=some l->l=[]->2<=lvl y->ids.filterMap m.r=[]->(∀ id∈ids,id<m.rw.length)->rb y=[]/\rr y=ids.filterMap m.r/\(∀ id∈ids,id<m.rw.length) /\
   ∀ (B pre post:List Nat) (fb:Nat->Nat),(pre++(ids.filterMap m.r++post)).Nodup->qcP (qO σ B (pre++(ids.filterMap m.r++post))) t pre.length (ren fb (λ r=>(pre++(ids.filterMap m.r++post)).idxOf r) y)=some (l,pre.length+(ids.filterMap m.r).length):=by
  intro hd hl hlv hids hlt
  have hyp:rb y=[]/\rr y=[]:=by
   rcases jc hd with ⟨rfl,_⟩ | ⟨es,n,rfl,_⟩<;>exact ⟨rfl,rfl⟩
  refine ⟨hyp.1,by rw [hyp.2,hids],hlt,λ B pre post fb _=>?_⟩
  rw [qot hyp.1 hyp.2,hids]
  subst hl
  rcases jc hd with ⟨rfl,_⟩ | ⟨es,n,rfl,_⟩
  ·simp only [qcP,hd,decide_eq_true hlv];rfl
  ·simp only [qcP,hd,decide_eq_true hlv];rfl
 unfold qhb at hl
 split at hl
 ·cases hl
  cases hy
  exact emp rfl rfl (Nat.le_refl _) rfl (by simp)
 ·split at hl<;>cases hl
  rename_i hc hlv
  obtain ⟨e,he⟩:=jd hc
  subst e
  obtain ⟨hy1,hy2⟩:=hy
  have he:_=_:=he
  subst he
  exact emp hy1 rfl (Nat.le_trans (of_decide_eq_true hlv) hy2) rfl (by simp)
 ·rename_i id ver
  split at hl<;>try cases hl
  rename_i R hR
  split at hl<;>try cases hl
  rename_i hv
  rw [Bool.and_eq_true,Bool.not_eq_true'] at hv
  split at hl<;>cases hl
  rename_i hc
  obtain ⟨e,he⟩:=jd hc
  subst e
  have he:R.l=l:=he
  subst he
  obtain ⟨R',k1,_,_,k2⟩:=hy
  have hR':m.rw[id]? = some R:=by rw [hr.rw];exact hR
  rw [hR'] at k1;cases k1
  have hlt:∀ i∈[id],i<m.rw.length:=by intro i hi;rw [List.mem_singleton.1 hi];exact getElem?_lt hR'
  rcases qhf hr.rows hR' (k2 (Nat.eq_of_beq_eq_true hv.1)) with ⟨rr',Q,q0,rfl,q1,q2,q3,q4,q5,q6,q7⟩ | ⟨q0,q1,q2,q3⟩
  ·have hfm:[id].filterMap m.r=[rr']:=by simp [q0]
   refine ⟨rfl,by rw [hfm];rfl,hlt,λ B pre post fb hn=>?_⟩
   rw [hfm] at hn |-
   have hidx:=qA0 hn
   have hget:(qO σ B (pre++([rr']++post))).rw[pre.length]? = some Q:=by
    show ((pre++rr'::post).map λ r => σ.rw.getD r ⟨0,[],0,0,false⟩)[pre.length]? = _
    rw [List.getElem?_map,List.getElem?_append_right (Nat.le_refl _),Nat.sub_self,List.getElem?_cons_zero]
    show some (σ.rw.getD rr' _)=_
    rw [zO q1]
   rw [ren]
   have hidx:(pre++([rr']++post)).idxOf rr'=pre.length:=hidx
   rw [hidx]
   simp only [qcP,hget,q4,q7 hv.2,and_self,decide_true,q5]
   rfl
  ·exact emp q2 (q1 hv.2) q3 (by simp [q0]) hlt
 ·cases hl
theorem qqK (hr:Rel N m E τ tm σ):∀ {l:List RA} {cs:List TV} {ds:List AV} {v:CV l} {ids:List Nat},qaa τ.rw l cs=some (v,ids,true)->OKL m cs ds ->
  rbL ds=[]/\rrL ds=ids.filterMap m.r/\(∀ id∈ids,id<m.rw.length) /\
  ∀ (B pre post:List Nat) (fb:Nat->Nat),(pre++(ids.filterMap m.r++post)).Nodup->qiA (qO σ B (pre++(ids.filterMap m.r++post))) l pre.length (qZ fb (λ r=>(pre++(ids.filterMap m.r++post)).idxOf r) ds)=some (v,pre.length+(ids.filterMap m.r).length)
 | [],cs,ds,v,ids,h,ho=>by
   cases cs with
   | cons c cs=>simp [qaa] at h
   | nil =>
     cases ho
     simp only [qaa,Option.some.injEq,Prod.mk.injEq] at h
     obtain ⟨_,rfl,_⟩:=h
     exact ⟨rfl,rfl,by simp,λ B pre post fb _=>rfl⟩
 | .val t::l,cs,ds,v,ids,h,ho=>by
   simp only [qaa] at h
   split at h<;>try (cases h;done)
   rename_i w vs ids0 q hw hvs
   simp only [Option.some.injEq,Prod.mk.injEq,Bool.and_eq_true] at h
   obtain ⟨rfl,rfl,hno,rfl⟩:=h
   obtain ⟨i1,i2,i3,i4⟩:=qqK hr hvs (ho.drop t.size)
   have ht:=ho.take t.size
   have hrs:∀ y∈ds.take t.size,rsC y=[]:=List.flatMap_eq_nil_iff.1 (qif ht hno)
   obtain ⟨g1,g2⟩:=qDQ hr.rows hrs (by rw [hr.rw];exact hw) ht
   obtain ⟨p1,p2⟩:=qab g2
   have hsplit:ds=ds.take t.size++ds.drop t.size:=(List.take_append_drop _ _).symm
   refine ⟨by rw [hsplit,quT,p1,i1];rfl,by rw [hsplit,qu3,p2,i2];rfl,i3,λ B pre post fb hn=>?_⟩
   have e1:(qZ fb (λ r=>(pre++(ids0.filterMap m.r++post)).idxOf r) ds).take t.size=ds.take t.size:=by rw [qcy,<- List.map_take,<- qcy,qdA _ p1 p2]
   have e2:(qZ fb (λ r=>(pre++(ids0.filterMap m.r++post)).idxOf r) ds).drop t.size=qZ fb (λ r=>(pre++(ids0.filterMap m.r++post)).idxOf r) (ds.drop t.size):=by rw [qcy,<- List.map_drop,<- qcy]
   rw [qiA,e1,g1]
   simp only
   rw [e2,i4 B pre post fb hn]
 | .row t::l,cs,ds,v,ids,h,ho=>by
   cases cs with
   | nil=>simp [qaa] at h
   | cons c cs =>
     obtain ⟨d,ds,rfl,hd,hds⟩:=ho
     simp only [qaa] at h
     split at h<;>try (cases h;done)
     rename_i w i vs ids' q hw hvs
     simp only [Option.some.injEq,Prod.mk.injEq] at h
     obtain ⟨rfl,rfl,rfl⟩:=h
     obtain ⟨a1,a2,a3,a4⟩:=qA1 hr hw hd
     obtain ⟨i1,i2,i3,i4⟩:=qqK hr hvs hds
     refine ⟨by rw [rbL,a1,i1];rfl,by rw [rrL,a2,i2,List.filterMap_append],λ id hid=>(List.mem_append.1 hid).elim (a3 id) (i3 id),λ B pre post fb hn=>?_⟩
     rw [List.filterMap_append,List.append_assoc] at hn |-
     rw [qZ,qiA,a4 B pre (ids'.filterMap m.r++post) fb hn]
     simp only
     have:=i4 B (pre++i.filterMap m.r) post fb (by rw [List.append_assoc];exact hn)
     rw [List.append_assoc,List.length_append] at this
     rw [this,List.length_append,Nat.add_assoc]
theorem qrR (hr:Rel N m E τ tm σ):∀ {sas:List SA} {xs:List TV} {ys:List AV} {a:Qm sas} {bs rs:List Nat},yt τ sas xs=some (a,bs,rs)->OKL m xs ys->qjZ sas=true ->
  rbL ys=bs.map m.b/\(qkO sas=true->rrL ys=[])/\(rrL ys++bs.flatMap λ b=>rrL (σ.bx.getD (m.b b) []))=rs.filterMap m.r/\(∀ b∈bs,b<m.nb/\∃ ds,σ.bx[m.b b]? = some ds/\rbL ds=[])/\(∀ id∈rs,id<m.rw.length) /\
  ∀ (preB preR:List Nat),(preB++bs.map m.b).Nodup->(preR++rs.filterMap m.r).Nodup ->
   dS (qO σ (preB++bs.map m.b) (preR++rs.filterMap m.r)) sas preB.length preR.length (qZ (λ b=>(preB++bs.map m.b).idxOf b) (λ r=>(preR++rs.filterMap m.r).idxOf r) ys)=some a:=by
 intro sas
 induction sas with
 | nil =>
   intro xs ys a bs rs h ho _
   cases xs with
   | cons x xs=>simp [yt] at h
   | nil =>
     cases ho
     simp only [yt,Option.some.injEq,Prod.mk.injEq] at h
     obtain ⟨_,rfl,rfl⟩:=h
     refine ⟨rfl,λ _=>rfl,rfl,by simp,by simp,λ preB preR _ _=>?_⟩
     simp [qZ,dS,qO]
 | cons k sas ih =>
   intro xs ys a bs rs h ho hord
   cases xs with
   | nil=>cases k<;>simp [yt] at h
   | cons x xs =>
   obtain ⟨y,ys,rfl,hy,hys⟩:=ho
   cases k with
   | val t =>
     simp only [yt] at h
     split at h<;>try cases h
     rename_i v hno hv
     split at h<;>cases h
     rename_i vs bs' rs' hvs
     obtain ⟨i1,i0,i2,i3,i4,i5⟩:=ih hvs hys hord
     obtain ⟨g1,g2,g3⟩:=qIr hr.rows hno (by rw [hr.rw];exact hv) hy
     refine ⟨by rw [rbL,g2,i1];rfl,λ hn=>by rw [rrL,g3,i0 hn];rfl,by rw [rrL,g3];exact i2,i3,i4,λ preB preR hb hR=>?_⟩
     rw [qZ,qot g2 g3,dS,g1]
     simp only
     rw [i5 preB preR hb hR]
   | nil =>
     cases x with
     | nil =>
       have h:yt τ sas xs=some (a,bs,rs):=h
       have hy:y = .v (.slice none 0 0):=hy
       subst hy
       obtain ⟨i1,i0,i2,i3,i4,i5⟩:=ih h hys hord
       refine ⟨by rw [rbL,i1];rfl,λ hn=>by rw [rrL,i0 hn];rfl,by rw [rrL];exact i2,i3,i4,λ preB preR hb hR=>?_⟩
       show dS _ (.nil::sas) _ _ (.v (.slice none 0 0)::qZ _ _ ys)=_
       exact i5 preB preR hb hR
     | _=>simp [yt] at h
   | clo g k =>
     cases x with
     | fn g' cs =>
       simp only [yt] at h
       split at h<;>try cases h
       rename_i hg
       rw [Bool.and_eq_true] at hg
       obtain ⟨cs',rfl,hcs⟩:=hy
       obtain ⟨i1,i0,i2,i3,i4,i5⟩:=ih h (hcs.append hys) hord
       rw [quT] at i1
       rw [qu3] at i0 i2
       refine ⟨by rw [rbL,rb];exact i1,λ hn=>by rw [rrL,rr];exact i0 hn,by rw [rrL,rr];exact i2,i3,i4,λ preB preR hb hR=>?_⟩
       have hcl:qx1 g k (.fn g' (qZ (λ b=>(preB++bs.map m.b).idxOf b) (λ r=>(preR++rs.filterMap m.r).idxOf r) cs'))=some (qZ (λ b=>(preB++bs.map m.b).idxOf b) (λ r=>(preR++rs.filterMap m.r).idxOf r) cs'):=by
        have hlen:Nat.beq (qZ (λ b=>(preB++bs.map m.b).idxOf b) (λ r=>(preR++rs.filterMap m.r).idxOf r) cs').length k=true:=by
         rw [qcy,List.length_map,hcs.len];exact hg.2
        simp only [qx1,hg.1,hlen,Bool.and_self]
       rw [qZ,ren,dS,hcl]
       simp only
       rw [<- qzy]
       exact i5 preB preR hb hR
     | _=>simp [yt] at h
   | row t =>
     simp only [yt] at h
     split at h<;>try cases h
     rename_i l ids hl
     split at h<;>cases h
     rename_i vs rs' hvs
     obtain ⟨i1,i0,i2,i3,i4,i5⟩:=ih hvs hys hord
     obtain ⟨a1,a2,a3,a4⟩:=qA1 hr hl hy
     refine ⟨by rw [rbL,a1,i1];rfl,λ hn=>(by cases hn),by rw [rrL,a2,List.append_assoc,i2,List.filterMap_append],i3,λ id hid=>(List.mem_append.1 hid).elim (a3 id) (i4 id),λ preB preR hb hR=>?_⟩
     rw [List.filterMap_append] at hR |-
     rw [qZ,dS,a4 _ preR (rs'.filterMap m.r) _ hR]
     simp only
     have:=i5 preB (preR++ids.filterMap m.r) hb (by rw [List.append_assoc];exact hR)
     rw [List.append_assoc,List.length_append] at this
     rw [this]
   | box l =>
     have hord':qkO sas=true/\qjZ sas=true:=by
      have:(qkO sas&&qjZ sas)=true:=hord
      rw [Bool.and_eq_true] at this;exact this
     simp only [yt] at h
     split at h<;>try cases h
     rename_i v ids b hb0
     split at h<;>cases h
     rename_i vs bs' rs' hvs
     obtain ⟨i1,i0,i2,i3,i4,i5⟩:=ih hvs hys hord'.2
     unfold qI6 at hb0
     split at hb0<;>try cases hb0
     split at hb0<;>try cases hb0
     rename_i cs hcs
     split at hb0<;>cases hb0
     rename_i hv
     obtain ⟨hbn,rfl⟩:=hy
     obtain ⟨ds,d1,d2⟩:=hr.box _ cs hcs
     obtain ⟨p1,p2,p3,p4⟩:=qqK hr hv d2
     have hrr:=i0 hord'.1
     rw [hrr,List.nil_append] at i2
     refine ⟨by rw [rbL,i1];rfl,λ _=>by rw [rrL,hrr];rfl,?_,λ b' hb'=>?_,λ id hid=>(List.mem_append.1 hid).elim (p3 id) (i4 id),λ preB preR hbN hR=>?_⟩
     ·rw [rrL,hrr,List.flatMap_cons,i2,zO d1,p2,List.filterMap_append];rfl
     ·rcases List.mem_cons.1 hb' with rfl | hb'
      ·exact ⟨hbn,ds,d1,p1⟩
      ·exact i3 b' hb'
     ·rw [List.map_cons] at hbN |-
      rw [List.filterMap_append] at hR |-
      have hidx:=qA0 hbN
      have hget:(qO σ (preB++m.b b::bs'.map m.b) (preR++(ids.filterMap m.r++rs'.filterMap m.r))).bx[preB.length]? = some (qZ (λ b'=>(preB++m.b b::bs'.map m.b).idxOf b') (λ r=>(preR++(ids.filterMap m.r++rs'.filterMap m.r)).idxOf r) ds):=by
       show ((preB++m.b b::bs'.map m.b).map λ b=>qZ _ _ (σ.bx.getD b []))[preB.length]? = _
       rw [List.getElem?_map,List.getElem?_append_right (Nat.le_refl _),Nat.sub_self,List.getElem?_cons_zero]
       show some (qZ _ _ (σ.bx.getD (m.b b) []))=_
       rw [zO d1]
      have hbox:qsV (qO σ (preB++m.b b::bs'.map m.b) (preR++(ids.filterMap m.r++rs'.filterMap m.r))) l preB.length preR.length (.ptr preB.length 0)=some (v,preR.length+(ids.filterMap m.r).length):=by
       simp only [qsV,Nat.beq_refl,hget]
       exact p4 _ preR (rs'.filterMap m.r) _ hR
      rw [qZ,ren,hidx,dS,hbox]
      simp only
      have:=i5 (preB++[m.b b]) (preR++ids.filterMap m.r) (by rw [List.append_assoc];exact hbN) (by rw [List.append_assoc];exact hR)
      rw [List.append_assoc,List.append_assoc,List.length_append,List.length_append] at this
      have this:dS (qO σ (preB++m.b b::bs'.map m.b) (preR++(ids.filterMap m.r++rs'.filterMap m.r))) sas (preB.length+1) (preR.length+(ids.filterMap m.r).length) (qZ (λ b'=>(preB++m.b b::bs'.map m.b).idxOf b') (λ r=>(preR++(ids.filterMap m.r++rs'.filterMap m.r)).idxOf r) ys)=some vs:=this
      rw [this]
theorem qDc:∀ {l:List Nat},l.Nodup->nd l=true
 | [],_=>rfl
 | b::l,h=>by
   rw [List.nodup_cons] at h
   rw [nd,qDc h.2]
   simp [h.1]
theorem quy:∀ {l seen:List Nat},l.Nodup->(∀ b∈l,b ∉ seen)->qd seen l=l
 | [],seen,_,_=>rfl
 | b::l,seen,h,hs=>by
   rw [List.nodup_cons] at h
   rw [qd]
   have:seen.contains b=false:=by
    have:=hs b (List.mem_cons_self ..)
    simpa using this
   rw [this]
   simp only
   rw [quy h.2 λ c hc hm=>by
    rcases List.mem_cons.1 hm with rfl | hm
    ·exact h.1 hc
    ·exact hs c (List.mem_cons_of_mem _ hc) hm]
theorem qHe {α : Type} {f : α -> List Nat} {l:List α} (h:∀ x∈l,f x=[]):l.flatMap f=[]:=List.flatMap_eq_nil_iff.2 h
theorem qGU {α : Type} {f : α -> List Nat} {l:List α} {x : α} {r:Nat} (hx:x∈l) (hr:r∈f x):r∈l.flatMap f:=List.mem_flatMap.2 ⟨x,hx,hr⟩
theorem qqS {ys:List AV} {B R:List Nat} (h1:rbL ys=B) (h2:(rrL ys++B.flatMap λ b=>rrL (σ.bx.getD b []))=R) (hB:B.Nodup) (hR:R.Nodup) (hb:∀ b∈B,∃ ds,σ.bx[b]? = some ds/\rbL ds=[]) (hr:∀ r∈R,r < σ.rw.length) :
  QU σ ys=B/\qc2 σ ys=R/\qjl σ ys=true:=by
 have c1:∀ b∈B,rbL (σ.bx.getD b [])=[] := λ b hb'=>by obtain ⟨ds,d1,d2⟩:=hb b hb';rw [zO d1];exact d2
 have e1:QU σ ys=B:=by
  unfold QU
  rw [h1,quy hB (by simp)]
  cases σ.bx.length with
  | zero=>rfl
  | succ n=>rw [qlV,qHe c1];rfl
 have e2:qc2 σ ys=R:=by
  unfold qc2
  rw [e1,h2,quy hR (by simp)]
 refine ⟨e1,e2,?_⟩
 unfold qjl
 rw [e1,e2,h1,qDc hB,qDc hR]
 simp only [Bool.true_and,Bool.and_eq_true,List.all_eq_true,List.contains_iff_mem,decide_eq_true_eq]
 refine ⟨⟨⟨λ _ h=>h,λ r h=>by rw [<- h2];exact List.mem_append.2 (.inl h)⟩,λ b hb'=>?_⟩,hr⟩
 obtain ⟨ds,d1,d2⟩:=hb b hb'
 refine ⟨⟨getElem?_lt d1,?_⟩,λ r hr'=>?_⟩
 ·rw [zO d1,d2];simp
 ·rw [<- h2];exact List.mem_append.2 (.inr (qGU hb' hr'))
theorem qDX {fb fr:Nat->Nat}:∀ l:List AV,ren fb fr (zI l)=zI (qZ fb fr l)
 | []=>rfl
 | [x]=>rfl
 | x::y::l=>rfl
theorem qng {R:List Nat} {rn j:Nat}:zx R rn (R.length+j)=rn+j:=by
 unfold zx
 rw [List.getElem?_eq_none (by omega)]
 show rn+(R.length+j-R.length)=_
 omega
theorem qga {B R:List Nat} {bn rn:Nat}:∀ (l:List RA) (j:Nat) (v:CV l),qZ (zx B bn) (zx R rn) (JG l (R.length+j) v)=JG l (rn+j) v
 | [],j,v=>rfl
 | .val a::l,j,v=>by
   obtain ⟨h1,h2⟩:=qab (z8 a v.1)
   rw [JG,qzy,qdA _ h1 h2,qga l j v.2];rfl
 | .row a::l,j,v=>by
   have h:=qga (B:=B) (R:=R) (bn:=bn) (rn:=rn) l (j+1) v.2
   rw [<- Nat.add_assoc,<- Nat.add_assoc] at h
   rw [JG,qZ,ren,qng,h];rfl
theorem qfM {rws:List qM} {B R:List Nat} {bn rn:Nat}:∀ (rs:List RE) (nb j:Nat) (v:RV rs),B.length<=nb->qnq rws rs nb j v->qZ (zx B bn) (zx R rn) (jf rs (R.length+j) v)=(jf rs (rn+j) v).map λ y=>match y with
  | .ptr n o => .ptr (bn+(n-B.length)) o
  | y=>y
 | [],nb,j,v,_,_=>rfl
 | .one (.val a)::rs,nb,j,v,hb,h=>by
   obtain ⟨h1,h2⟩:=qev (qgR a v.1)
   rw [jf,qZ,qot h1 h2,qfM rs nb j v.2 hb h,jf,List.map_cons]
   congr 1
   split
   ·rename_i n o he
    rw [he] at h1;cases h1
   ·rfl
 | .one (.row a)::rs,nb,j,v,hb,h=>by
   have h:=qfM (B:=B) (R:=R) (bn:=bn) (rn:=rn) rs nb (j+1) v.2 hb h
   rw [<- Nat.add_assoc,<- Nat.add_assoc] at h
   rw [jf,qZ,ren,qng,h];rfl
 | .agg l::rs,nb,j,v,hb,h=>by
   have h:=qfM (B:=B) (R:=R) (bn:=bn) (rn:=rn) rs nb (j+nR l) v.2 hb h
   rw [<- Nat.add_assoc,<- Nat.add_assoc] at h
   rw [jf,qZ,ren,qga l j v.1,h];rfl
 | .opt _::rs,nb,j,v,hb,h=>h.elim
 | .elt _::rs,nb,j,v,hb,h=>h.elim
 | .nilp::rs,nb,j,v,hb,h=>by rw [jf,qZ,qfM rs nb j v hb h];rfl
 | .box n l::rs,nb,j,v,hb,h=>by
   obtain ⟨rfl,h⟩:=h
   have h:=qfM (B:=B) (R:=R) (bn:=bn) (rn:=rn) rs (n+1) (j+nR l) v.2 (by omega) h
   rw [<- Nat.add_assoc,<- Nat.add_assoc] at h
   rw [jf,qZ,ren,h,jf,List.map_cons]
   congr 1
   show AV.ptr (zx B bn n) 0 = .ptr (bn+(n-B.length)) 0
   obtain ⟨k,rfl⟩:=Nat.le.dest hb
   rw [qng,Nat.add_sub_cancel_left]
 | .eltI d a::rs,nb,j,v,hb,⟨⟨p,i,Rw,e1,e2,_⟩,h⟩=>by
   have hx:R.length+j-d=R.length+(j-d):=by omega
   have hy:rn+j-d=rn+(j-d):=by omega
   rw [jf,qZ,ren,hx,qng,qfM rs nb j v.2 hb h,jf,List.map_cons,hy]
theorem qdP {rws:List qM} {B R:List Nat} {bn rn:Nat}:∀ (rs:List RE) (nb j:Nat) (v:RV rs),qnq rws rs nb j v->(jD rs (R.length+j) v).map (qZ (zx B bn) (zx R rn))=jD rs (rn+j) v
 | [],nb,j,v,_=>rfl
 | .one (.val a)::rs,nb,j,v,h=>qdP rs nb j v.2 h
 | .one (.row a)::rs,nb,j,v,h=>qdP rs nb (j+1) v.2 h
 | .agg l::rs,nb,j,v,h=>by
   have h:=qdP (B:=B) (R:=R) (bn:=bn) (rn:=rn) rs nb (j+nR l) v.2 h
   rw [<- Nat.add_assoc,<- Nat.add_assoc] at h
   exact h
 | .opt _::rs,nb,j,v,h=>h.elim
 | .elt _::rs,nb,j,v,h=>h.elim
 | .nilp::rs,nb,j,v,h=>qdP rs nb j v h
 | .box n l::rs,nb,j,v,h=>by
   have h:=qdP (B:=B) (R:=R) (bn:=bn) (rn:=rn) rs (nb+1) (j+nR l) v.2 h.2
   rw [<- Nat.add_assoc,<- Nat.add_assoc] at h
   rw [jD,List.map_cons,qga l j,h];rfl
 | .eltI d a::rs,nb,j,v,h=>qdP rs nb j v.2 h.2
theorem qhk {B R:List Nat} {bn rn:Nat}:∀ (sas:List SA) (j:Nat) (o:jr sas),(jQ sas (R.length+j) o).map (qZ (zx B bn) (zx R rn))=jQ sas (rn+j) o
 | [],j,o=>rfl
 | .nil::sas,j,o=>qhk sas j o
 | .val _::sas,j,o=>qhk sas j o
 | .row _::sas,j,o=>qhk sas j o
 | .clo _ _::sas,j,o=>qhk sas j o
 | .box l::sas,j,o=>by
   have h:=qhk (B:=B) (R:=R) (bn:=bn) (rn:=rn) sas (j+nR l) o.2
   rw [<- Nat.add_assoc,<- Nat.add_assoc] at h
   rw [jQ,List.map_cons,qga l j,h];rfl
theorem qnr {β : Type}:∀ (rs:List Nat) (l ks ns:List β),ks.length=rs.length->∃ l',zH l rs (ks++ns)=l'++ns/\l'.length=l.length/\∀ r,r ∉ rs->l'[r]? = l[r]?
 | [],l,ks,ns,h=>by
   have:ks=[]:=List.eq_nil_of_length_eq_zero h
   subst this
   exact ⟨l,by simp [zH],rfl,λ _ _=>rfl⟩
 | r::rs,l,[],ns,h=>by simp at h
 | r::rs,l,k::ks,ns,h=>by
   obtain ⟨l',h1,h2,h3⟩:=qnr rs (l.set r k) ks ns (by simpa using h)
   refine ⟨l',h1,by rw [h2,List.length_set],λ q hq=>?_⟩
   rw [h3 q λ hm=>hq (List.mem_cons_of_mem _ hm),List.getElem?_set_ne (by intro he;subst he;exact hq (List.mem_cons_self ..))]
def BxL (m:Mp):List (List TV)->List (List AV)->Prop
 | [],ys=>ys=[]
 | x::xs,ys=>∃ y r,ys=y::r/\OKL m x y/\BxL m xs r
theorem BxL.mono {m':Mp} (h:MLe m m'):∀ {xs:List (List TV)} {ys:List (List AV)},BxL m xs ys->BxL m' xs ys
 | [],ys,hx=>hx
 | x::xs,ys,⟨y,r,e,h1,h2⟩=>⟨y,r,e,h1.mono h,BxL.mono h h2⟩
theorem qwt:∀ (bs:List Nat) {τ : TS} {σ : St} {xs:List (List TV)} {ys:List (List AV)},Rel N m E τ tm σ -> BxL m xs ys->xs.length=bs.length->(∀ b∈bs,b<m.nb) ->
  Rel N m E ⟨qli τ.bx bs xs,τ.rw⟩ tm { σ with bx:=zH σ.bx (bs.map m.b) ys }
 | [],τ,σ,xs,ys,hr,hx,hl,_=>by
   have:xs=[]:=List.eq_nil_of_length_eq_zero hl
   subst this
   cases hx
   show Rel N m E τ tm { σ with bx := σ.bx++[] }
   rw [List.append_nil];exact hr
 | b::bs,τ,σ,xs,ys,hr,hx,hl,hb=>by
   cases xs with
   | nil=>simp at hl
   | cons x xs =>
     obtain ⟨y,r,rfl,h1,h2⟩:=hx
     have:=hr.setBox (hb b (List.mem_cons_self ..)) h1 σ.wr
     exact qwt bs this h2 (by simpa using hl) λ c hc=>hb c (List.mem_cons_of_mem _ hc)
theorem qtt {β : Type} {l:List β} {i:Nat} {x : β} {f : β -> β} (h:l[i]? = some x):l.modify i f=l.set i (f x):=by
 apply List.ext_getElem?
 intro j
 rw [List.getElem?_modify,List.getElem?_set]
 by_cases he:i=j
 ·subst he
  rw [h,if_pos rfl,if_pos (getElem?_lt h)]
  simp
 ·rw [if_neg he]
  cases l[j]? with
  | none=>rfl
  | some y=>simp [he]
theorem qyP:∀ (ids:List Nat) {m:Mp} {τ : TS},Rel N m E τ tm σ -> (∀ id∈ids,id<m.rw.length) ->
  ∃ m',MLe m m'/\Rel N m' E ⟨τ.bx,qeA τ.rw ids⟩ tm σ /\ m'.nb=m.nb/\m'.b=m.b/\m'.rw.length=m.rw.length/\(∀ i r,m'.r i=some r->m.r i=some r/\i ∉ ids)
 | [],m,τ,hr,_=>⟨m,.refl m,hr,rfl,rfl,rfl,λ i r h=>⟨h,by simp⟩⟩
 | id::ids,m,τ,hr,hl=>by
   have hid:=hl id (List.mem_cons_self ..)
   have h0:=List.getElem?_eq_getElem hid
   generalize hRe:m.rw[id]=R at h0
   have hle:MLe m (m.upd id ⟨R.τ,[],R.ver+1,R.sv,false⟩ none 0 []):=qEt h0 (Nat.le_succ _) (Nat.le_refl _) (λ h=>by have:R.ver+1=R.ver:=h;omega)
   have hr1:Rel N (m.upd id ⟨R.τ,[],R.ver+1,R.sv,false⟩ none 0 []) E ⟨τ.bx,τ.rw.modify id λ R=>⟨R.τ,[],R.ver+1,R.sv,false⟩⟩ tm σ := by
    refine hr.to hle ?_ rfl rfl rfl (qxL h0 hr.rows (λ _=>rfl) λ _ _ _ _ _ _ h=>h) ?_
    ·show m.rw.set id _ = τ.rw.modify id _
     rw [<- hr.rw,qtt h0]
    ·intro i i' r g1 g2 e1 e2
     change i<(m.rw.set id _).length at g1
     change i'<(m.rw.set id _).length at g2
     change (if i=id then none else m.r i)=some r at e1
     change (if i'=id then none else m.r i')=some r at e2
     simp at g1 g2
     split at e1<;>split at e2<;>first | (cases e1;done) | (cases e2;done) | exact hr.rinj i i' r g1 g2 e1 e2
   obtain ⟨m',k1,k2,k3,k4,k5,k6⟩:=qyP ids hr1 (λ i hi=>by show i<(m.rw.set id _).length;rw [List.length_set];exact hl i (List.mem_cons_of_mem _ hi))
   refine ⟨m',hle.trans k1,k2,k3,k4,by rw [k5];show (m.rw.set id _).length=_;rw [List.length_set],λ i r h=>?_⟩
   obtain ⟨q1,q2⟩:=k6 i r h
   have q1:(if i=id then none else m.r i)=some r:=q1
   split at q1
   ·cases q1
   ·rename_i hne
    exact ⟨q1,λ hm=>(List.mem_cons.1 hm).elim hne q2⟩
def qh9 (m:Mp) (L:Nat):Prop:=∀ id r,id<m.rw.length->m.r id=some r->r<L
def At (m:Mp) (t L n:Nat):Prop:=∀ k,k<n->∃ R,m.rw[t+k]? = some R/\R.ver=0/\R.sv=0/\m.r (t+k)=some (L+k)/\m.v (t+k)=0
theorem At.mono {m m':Mp} {t L n:Nat} (h:At m t L n) (hl:MLe m m') (hz:∀ (id:Nat) (R R':qM),m.rw[id]? = some R->m'.rw[id]? = some R'->R'=R):At m' t L n := λ k hk=>by
 obtain ⟨R,h1,h2,h3,h4,h5⟩:=h k hk
 obtain ⟨R',g1,_,_,g4⟩:=hl.row _ R h1
 cases hz _ _ _ h1 g1
 obtain ⟨_,a,b,_⟩:=g4 rfl
 exact ⟨R,g1,h2,h3,a.trans h4,b.trans h5⟩
theorem At.join {m:Mp} {t L a b:Nat} (h:At m t L a) (g:At m (t+a) (L+a) b):At m t L (a+b) := λ k hk=>by
 by_cases hl:k<a
 ·exact h k hl
 ·obtain ⟨R,g1,g2,g3,g4,g5⟩:=g (k-a) (by omega)
  rw [show t+a+(k-a)=t+k by omega] at g1 g4 g5
  rw [show L+a+(k-a)=L+k by omega] at g4
  exact ⟨R,g1,g2,g3,g4,g5⟩
theorem qBR (hr:Rel N m E τ tm σ) {L:Nat} {a:Ty} {l:List (Val a)} (hf:qh9 m L) (hq : σ.rw[L]? = some ⟨a.size,l.map (ql a),0,0,false⟩) :
  ∃ m',MLe m m'/\Rel N m' E ⟨τ.bx,τ.rw++[⟨a,l,0,0,false⟩]⟩ tm σ /\ OK m' (.row τ.rw.length 0) (.rs L 0 l.length 0 false)/\qh9 m' (L+1)/\m'.b=m.b/\m'.nb=m.nb/\At m' τ.rw.length L 1:=by
 have hle:=qpH m ⟨a,l,0,0,false⟩ (some L) 0 (l.map (ql a))
 have hg:Jk σ ⟨a,l,0,0,false⟩ (some L) 0 (l.map (ql a)):=⟨⟨a.size,l.map (ql a),0,0,false⟩,hq,rfl,rfl,rfl,qbl (j9 a) l,Nat.zero_le _,λ _=>⟨rfl,rfl⟩⟩
 have hr1:Rel N (m.add ⟨a,l,0,0,false⟩ (some L) 0 (l.map (ql a))) E ⟨τ.bx,τ.rw++[⟨a,l,0,0,false⟩]⟩ tm σ := by
  refine hr.to hle (by show m.rw++_=_;rw [hr.rw]) rfl rfl rfl (qm5 hr.rows hg λ _ _ h=>h) ?_
  intro id id' r h1 h2 e1 e2
  change id<(m.rw++[_]).length at h1
  change id'<(m.rw++[_]).length at h2
  change (if id=m.rw.length then some L else m.r id)=some r at e1
  change (if id'=m.rw.length then some L else m.r id')=some r at e2
  simp at h1 h2
  split at e1<;>split at e2
  ·omega
  ·have:=hf id' r (by omega) e2;cases e1;omega
  ·have:=hf id r (by omega) e1;cases e2;omega
  ·exact hr.rinj id id' r (by omega) (by omega) e1 e2
 refine ⟨_,hle,hr1,⟨⟨a,l,0,0,false⟩,?_,Nat.zero_le _,.inr (.inr ⟨_,_,_,_,_,rfl⟩),λ _=>?_⟩,λ id r h1 e1=>?_,rfl,rfl,λ k hk=>?_⟩
 ·show (m.rw++_)[τ.rw.length]? = _
  rw [hr.rw];simp
 ·show Jr (if τ.rw.length=m.rw.length then some L else m.r τ.rw.length) (if τ.rw.length=m.rw.length then 0 else m.v τ.rw.length) a l _
  rw [if_pos (by rw [hr.rw]),if_pos (by rw [hr.rw])];rfl
 ·change id<(m.rw++[_]).length at h1
  change (if id=m.rw.length then some L else m.r id)=some r at e1
  simp at h1
  split at e1
  ·cases e1;omega
  ·have:=hf id r (by omega) e1;omega
 ·have hk0:k=0:=by omega
  subst hk0
  exact ⟨⟨a,l,0,0,false⟩,by show (m.rw++_)[τ.rw.length+0]? = _;rw [hr.rw];simp,rfl,rfl,by show (if τ.rw.length+0=m.rw.length then some L else _)=_;rw [if_pos (by rw [hr.rw,Nat.add_zero])];rfl,by show (if τ.rw.length+0=m.rw.length then 0 else _)=_;rw [if_pos (by rw [hr.rw,Nat.add_zero])]⟩
theorem quR {m m':Mp} {ls:List qM} {rw rw':List qM} (h:m.rw=rw) (h':m'.rw=rw') (he:rw'=rw++ls):∀ (id:Nat) (R R':qM),m.rw[id]? = some R->m'.rw[id]? = some R'->R'=R := λ id R R' h1 h2=>by
 rw [h',he,<- h,List.getElem?_append_left (getElem?_lt h1),h1] at h2
 exact (Option.some.inj h2).symm
theorem qih:∀ (l:List RA) {m:Mp} {τ : TS} {L:Nat} {v:CV l},Rel N m E τ tm σ -> qh9 m L->(∀ (k:Nat) (Q:Row),(qcD l v)[k]? = some Q -> σ.rw[L+k]? = some Q) ->
  ∃ m',MLe m m'/\Rel N m' E ⟨τ.bx,τ.rw++jZ l v⟩ tm σ /\ OKL m' (qb4 l τ.rw.length v) (JG l L v)/\qh9 m' (L+nR l)/\m'.b=m.b/\m'.nb=m.nb/\At m' τ.rw.length L (nR l)
 | [],m,τ,L,v,hr,hf,_=>⟨m,.refl m,by show Rel N m E ⟨τ.bx,τ.rw++[]⟩ tm σ;rw [List.append_nil];exact hr,rfl,hf,rfl,rfl,λ k hk=>absurd hk (Nat.not_lt_zero _)⟩
 | .val a::l,m,τ,L,v,hr,hf,hq=>by
   obtain ⟨m',h1,h2,h3,h4,h5,h6,h7⟩:=qih l (v:=v.2) hr hf hq
   exact ⟨m',h1,h2,(jU (j9 a v.1)).append h3,h4,h5,h6,h7⟩
 | .row a::l,m,τ,L,v,hr,hf,hq=>by
   obtain ⟨m1,a1,a2,a3,a4,a5,a6,a7⟩:=qBR hr (a:=a) (l:=v.1) hf (hq 0 _ rfl)
   obtain ⟨m',h1,h2,h3,h4,h5,h6,h7⟩:=qih l (v:=v.2) (L:=L+1) a2 a4 λ k Q hk=>by
    have:=hq (k+1) Q hk
    rw [<- this];congr 1;omega
   have h2:Rel N m' E ⟨τ.bx,(τ.rw++[⟨a,v.1,0,0,false⟩])++jZ l v.2⟩ tm σ := h2
   rw [List.append_assoc] at h2
   have h3:OKL m' (qb4 l (τ.rw++([⟨a,v.1,0,0,false⟩]:List qM)).length v.2) (JG l (L+1) v.2):=h3
   have h7:At m' (τ.rw++([⟨a,v.1,0,0,false⟩]:List qM)).length (L+1) (nR l):=h7
   rw [List.length_append] at h3 h7
   exact ⟨m',a1.trans h1,h2,⟨_,_,rfl,a3.mono h1,h3⟩,(by rw [nR,<- Nat.add_assoc,Nat.add_right_comm];exact h4),h5.trans a5,h6.trans a6,by
    rw [nR,Nat.add_comm]
    exact (a7.mono h1 (quR a2.rw h2.rw (List.append_assoc ..).symm)).join h7⟩
theorem qhy:∀ (sas:List SA) {m:Mp} {τ : TS} {L:Nat} {o:jr sas},Rel N m E τ tm σ -> qh9 m L->(∀ (k:Nat) (Q:Row),(jT sas o)[k]? = some Q -> σ.rw[L+k]? = some Q) ->
  ∃ m',MLe m m'/\Rel N m' E ⟨τ.bx,τ.rw++J7 sas o⟩ tm σ /\ BxL m' (qdZ sas τ.rw.length o) (jQ sas L o)/\qh9 m' (L+nrB sas)/\m'.b=m.b/\m'.nb=m.nb/\At m' τ.rw.length L (nrB sas)
 | [],m,τ,L,o,hr,hf,_=>⟨m,.refl m,by show Rel N m E ⟨τ.bx,τ.rw++[]⟩ tm σ;rw [List.append_nil];exact hr,rfl,hf,rfl,rfl,λ k hk=>absurd hk (Nat.not_lt_zero _)⟩
 | .nil::sas,m,τ,L,o,hr,hf,hq=>qhy sas (o:=o) hr hf hq
 | .val _::sas,m,τ,L,o,hr,hf,hq=>qhy sas (o:=o) hr hf hq
 | .row _::sas,m,τ,L,o,hr,hf,hq=>qhy sas (o:=o) hr hf hq
 | .clo _ _::sas,m,τ,L,o,hr,hf,hq=>qhy sas (o:=o) hr hf hq
 | .box l::sas,m,τ,L,o,hr,hf,hq=>by
   have hq:∀ (k:Nat) (Q:Row),(qcD l (toC l o.1)++jT sas o.2)[k]? = some Q -> σ.rw[L+k]? = some Q:=hq
   obtain ⟨m1,a1,a2,a3,a4,a5,a6,a7⟩:=qih l (v:=toC l o.1) hr hf λ k Q hk=>hq k Q (by rw [List.getElem?_append_left (getElem?_lt hk)];exact hk)
   obtain ⟨m',h1,h2,h3,h4,h5,h6,h7⟩:=qhy sas (o:=o.2) (L:=L+nR l) a2 a4 λ k Q hk=>by
    have:=hq (nR l+k) Q (by rw [List.getElem?_append_right (by rw [QS];omega),QS,Nat.add_sub_cancel_left];exact hk)
    rw [<- this,Nat.add_assoc]
   have h2:Rel N m' E ⟨τ.bx,(τ.rw++jZ l (toC l o.1))++J7 sas o.2⟩ tm σ := h2
   rw [List.append_assoc] at h2
   have h3:BxL m' (qdZ sas (τ.rw++jZ l (toC l o.1)).length o.2) (jQ sas (L+nR l) o.2):=h3
   have h7:At m' (τ.rw++jZ l (toC l o.1)).length (L+nR l) (nrB sas):=h7
   rw [List.length_append,js] at h3 h7
   exact ⟨m',a1.trans h1,h2,⟨_,_,rfl,a3.mono h1,h3⟩,(by rw [nrB,<- Nat.add_assoc];exact h4),h5.trans a5,h6.trans a6,(a7.mono h1 (quR a2.rw h2.rw (List.append_assoc ..).symm)).join h7⟩
theorem qFT {τ τ':TS} {m':Mp} (h:Rel N m E τ tm σ) (e:m'=m) (e2 : τ' = τ):Rel N m' E τ' tm σ := by subst e;subst e2;exact h
theorem qut {rws:List qM} {t0 L0:Nat} {m m':Mp} {rw ls:List qM} (h:m.rw=rw) (hl:MLe m m') (h':m'.rw=rw++ls) (hp:∀ (p:Nat) (R:qM),rws[p]? = some R->∃ q,m.rw[t0+p]? = some R/\R.ver=0/\R.sv=0/\m.r (t0+p)=some q/\q=L0+p/\m.v (t0+p)=0/\m.q (t0+p)=R.l.map (ql R.τ)) :
  ∀ (p:Nat) (R:qM),rws[p]? = some R->∃ q,m'.rw[t0+p]? = some R/\R.ver=0/\R.sv=0/\m'.r (t0+p)=some q/\q=L0+p/\m'.v (t0+p)=0/\m'.q (t0+p)=R.l.map (ql R.τ) := λ p R hR=>by
 obtain ⟨q,q1,q2,q3,q4,q5,q6,q7⟩:=hp p R hR
 obtain ⟨R',g1,_,_,g4⟩:=hl.row _ R q1
 cases quR h h' rfl _ _ _ q1 g1
 obtain ⟨_,a,b,_,c,_⟩:=g4 rfl
 exact ⟨q,g1,q2,q3,a.trans q4,q5,b.trans q6,(c rfl).trans q7⟩
theorem Rel.addBox {τ : TS} (hr:Rel N m E τ tm σ) {cs:List TV} {ds:List AV} {b':Nat} (h : σ.bx[b']? = some ds) (hc:OKL m cs ds) (hf:∀ b,b<m.nb->m.b b≠b') :
  ∃ m',MLe m m'/\Rel N m' E ⟨τ.bx++[cs],τ.rw⟩ tm σ /\ (∀ b,b<m'.nb->(b<m.nb/\m'.b b=m.b b)\/m'.b b=b')/\(m'.rw=m.rw/\m'.r=m.r/\m'.v=m.v/\m'.q=m.q):=by
 have hle:MLe m ⟨λ i=>if i=m.nb then b' else m.b i,m.nb+1,m.r,m.v,m.q,m.rw⟩:=⟨Nat.le_succ _,λ i hi=>if_neg (Nat.ne_of_lt hi),λ id R h=>⟨R,h,Nat.le_refl _,Nat.le_refl _,λ _=>⟨rfl,rfl,rfl,rfl,λ _=>rfl,λ _ _ h=>h⟩⟩⟩
 refine ⟨_,hle,⟨hr.len,λ t=>(hr.env t).mono hle,hr.rw,by show m.nb+1=(τ.bx++[cs]).length;rw [List.length_append,hr.nb];rfl,λ b cs' hb=>?_,λ b c hb hc he=>?_,hr.rows,hr.rinj,qr9 hle hr.pin⟩,λ b hb=>?_,rfl,rfl,rfl,rfl⟩
 ·have hb:(τ.bx++[cs])[b]? = some cs':=hb
  show ∃ ds,σ.bx[if b=m.nb then b' else m.b b]? = some ds/\_
  by_cases hlt:b < τ.bx.length
  ·rw [List.getElem?_append_left hlt] at hb
   rw [if_neg (by rw [hr.nb];exact Nat.ne_of_lt hlt)]
   obtain ⟨ds',d1,d2⟩:=hr.box b cs' hb
   exact ⟨ds',d1,d2.mono hle⟩
  ·have:b = τ.bx.length:=by
     have:=getElem?_lt hb
     simp at this;omega
   subst this
   rw [List.getElem?_append_right (Nat.le_refl _),Nat.sub_self] at hb
   cases hb
   rw [if_pos hr.nb.symm]
   exact ⟨ds,h,hc.mono hle⟩
 ·have hb:b<m.nb+1:=hb
  have hc:c<m.nb+1:=hc
  have he:(if b=m.nb then b' else m.b b)=(if c=m.nb then b' else m.b c):=he
  split at he<;>split at he
  ·omega
  ·exact absurd he.symm (hf c (by omega))
  ·exact absurd he (hf b (by omega))
  ·exact hr.inj b c (by omega) (by omega) he
 ·have hb:b<m.nb+1:=hb
  show (b<m.nb/\(if b=m.nb then b' else m.b b)=m.b b)\/(if b=m.nb then b' else m.b b)=b'
  by_cases he:b=m.nb
  ·exact .inr (if_pos he)
  ·exact .inl ⟨by omega,if_neg he⟩
theorem qfP {rws:List qM} {t0 L0 bn B NB:Nat}:∀ (rs:List RE) {m:Mp} {τ : TS} {nb d:Nat} {v:RV rs},Rel N m E τ tm σ -> qh9 m (L0+d) -> τ.rw.length=t0+d->(∀ (p:Nat) (R:qM),rws[p]? = some R->∃ q,m.rw[t0+p]? = some R/\R.ver=0/\R.sv=0/\m.r (t0+p)=some q/\q=L0+p/\m.v (t0+p)=0/\m.q (t0+p)=R.l.map (ql R.τ))->qnq rws rs nb d v->(∀ (k:Nat) (Q:Row),(jB rs v)[k]? = some Q -> σ.rw[L0+d+k]? = some Q) ->
  τ.bx.length=bn+(nb-NB)->NB<=nb->B+(nb-NB)+(jD rs (L0+d) v).length <= σ.bx.length->(∀ b,b<m.nb->m.b b<B+(nb-NB))->(∀ (k:Nat) (ds:List AV),(jD rs (L0+d) v)[k]? = some ds -> σ.bx[B+(nb-NB)+k]? = some ds) ->
  ∃ m',MLe m m'/\Rel N m' E ⟨τ.bx++qgJ rs τ.rw.length v,τ.rw++qgb rs v⟩ tm σ /\ OKL m' (qgF bn NB rs τ.rw.length v) ((jf rs (L0+d) v).map λ y=>match y with | .ptr n o => .ptr (B+(n-NB)) o | y=>y)
 | [],m,τ,nb,d,v,hr,_,_,_,_,_,_,_,_,_,_=>⟨m,.refl m,qFT hr rfl (by show (⟨τ.bx++[],τ.rw++[]⟩:TS) = τ;rw [List.append_nil,List.append_nil]),rfl⟩
 | .one (.val a)::rs,m,τ,nb,d,v,hr,hf,ht,hp,hn,hq,hb1,hb2,hb3,hb4,hb5=>by
   obtain ⟨m',h1,h2,h3⟩:=qfP rs (v:=v.2) hr hf ht hp hn hq hb1 hb2 hb3 hb4 hb5
   refine ⟨m',h1,h2,⟨_,_,rfl,?_,h3⟩⟩
   have:=qpZ (m:=m') a v.1
   show OK m' _ (match yG a v.1 with | .ptr n o => .ptr (B+(n-NB)) o | y=>y)
   split
   ·rename_i n o he
    have hz:=(qev (qgR a v.1)).1
    rw [he] at hz;cases hz
   ·exact this
 | .one (.row a)::rs,m,τ,nb,d,v,hr,hf,ht,hp,hn,hq,hb1,hb2,hb3,hb4,hb5=>by
   obtain ⟨m1,a1,a2,a3,a4,a5,a6,a7⟩:=qBR hr (a:=a) (l:=v.1) hf (hq 0 _ rfl)
   obtain ⟨m',h1,h2,h3⟩:=qfP rs (B:=B) (nb:=nb) (v:=v.2) (d:=d+1) a2 a4 (by show (τ.rw++[_]).length=_;rw [List.length_append,ht];rfl) (qut hr.rw a1 a2.rw hp) hn (λ k Q hk=>by
    have:=hq (k+1) Q hk
    rw [<- this];congr 1;omega) hb1 hb2 hb3 (by rw [a5,a6];exact hb4) hb5
   have h2:Rel N m' E ⟨τ.bx++qgJ rs (τ.rw++([⟨a,v.1,0,0,false⟩]:List qM)).length v.2,(τ.rw++[⟨a,v.1,0,0,false⟩])++qgb rs v.2⟩ tm σ := h2
   rw [List.append_assoc,List.length_append] at h2
   have h3:OKL m' (qgF bn NB rs (τ.rw++([⟨a,v.1,0,0,false⟩]:List qM)).length v.2) _:=h3
   rw [List.length_append] at h3
   exact ⟨m',a1.trans h1,h2,⟨_,_,rfl,a3.mono h1,h3⟩⟩
 | .agg l::rs,m,τ,nb,d,v,hr,hf,ht,hp,hn,hq,hb1,hb2,hb3,hb4,hb5=>by
   have hq:∀ (k:Nat) (Q:Row),(qcD l v.1++jB rs v.2)[k]? = some Q -> σ.rw[L0+d+k]? = some Q:=hq
   obtain ⟨m1,a1,a2,a3,a4,a5,a6,a7⟩:=qih l (v:=v.1) hr hf λ k Q hk=>hq k Q (by rw [List.getElem?_append_left (getElem?_lt hk)];exact hk)
   obtain ⟨m',h1,h2,h3⟩:=qfP rs (B:=B) (nb:=nb) (v:=v.2) (d:=d+nR l) a2 (by rw [<- Nat.add_assoc];exact a4) (by show (τ.rw++_).length=_;rw [List.length_append,ht,js,Nat.add_assoc]) (qut hr.rw a1 a2.rw hp) hn (λ k Q hk=>by
    have:=hq (nR l+k) Q (by rw [List.getElem?_append_right (by rw [QS];omega),QS,Nat.add_sub_cancel_left];exact hk)
    rw [<- this];congr 1;omega) hb1 hb2 (by rw [<- Nat.add_assoc];exact hb3) (by rw [a5,a6];exact hb4) (λ k ds hk=>by rw [<- Nat.add_assoc] at hk;exact hb5 k ds hk)
   have h2:Rel N m' E ⟨τ.bx++qgJ rs (τ.rw++jZ l v.1).length v.2,(τ.rw++jZ l v.1)++qgb rs v.2⟩ tm σ := h2
   rw [List.append_assoc,List.length_append,js] at h2
   have h3:OKL m' (qgF bn NB rs (τ.rw++jZ l v.1).length v.2) _:=h3
   rw [List.length_append,js,<- Nat.add_assoc] at h3
   have hag:OK m' (.agg (qb4 l τ.rw.length v.1)) (.agg (JG l (L0+d) v.1)):=⟨_,rfl,a3.mono h1⟩
   exact ⟨m',a1.trans h1,h2,⟨_,_,rfl,hag,h3⟩⟩
 | .opt _::rs,m,τ,nb,d,v,_,_,_,_,hn,_,_,_,_,_,_=>hn.elim
 | .elt _::rs,m,τ,nb,d,v,_,_,_,_,hn,_,_,_,_,_,_=>hn.elim
 | .nilp::rs,m,τ,nb,d,v,hr,hf,ht,hp,hn,hq,hb1,hb2,hb3,hb4,hb5=>by
   obtain ⟨m',h1,h2,h3⟩:=qfP rs (v:=v) hr hf ht hp hn hq hb1 hb2 hb3 hb4 hb5
   exact ⟨m',h1,h2,⟨_,_,rfl,⟨rfl,rfl⟩,h3⟩⟩
 | .box n l::rs,m,τ,nb,d,v,hr,hf,ht,hp,hn,hq,hb1,hb2,hb3,hb4,hb5=>by
   obtain ⟨rfl,hn⟩:=hn
   have hq:∀ (k:Nat) (Q:Row),(qcD l (toC l v.1)++jB rs v.2)[k]? = some Q -> σ.rw[L0+d+k]? = some Q:=hq
   obtain ⟨m1,a1,a2,a3,a4,a5,a6,a7⟩:=qih l (v:=toC l v.1) hr hf λ k Q hk=>hq k Q (by rw [List.getElem?_append_left (getElem?_lt hk)];exact hk)
   have hbx : σ.bx[B+(n-NB)]? = some (JG l (L0+d) (toC l v.1)):=hb5 0 _ rfl
   obtain ⟨m2,c1,c2,c3,c4⟩:=a2.addBox (ds:=JG l (L0+d) (toC l v.1)) (b':=B+(n-NB)) hbx a3 (by rw [a5,a6];intro b hb;exact Nat.ne_of_lt (hb4 b hb))
   have hlen:(τ.bx++[qb4 l τ.rw.length (toC l v.1)]).length=bn+(n+1-NB):=by rw [List.length_append,hb1];show _+1=_;omega
   have hb3:B+(n-NB)+((jD rs (L0+d+nR l) v.2).length+1) <= σ.bx.length:=hb3
   have hp1:=qut hr.rw a1 a2.rw hp
   have hp2:∀ (p:Nat) (R:qM),rws[p]? = some R->∃ q,m2.rw[t0+p]? = some R/\R.ver=0/\R.sv=0/\m2.r (t0+p)=some q/\q=L0+p/\m2.v (t0+p)=0/\m2.q (t0+p)=R.l.map (ql R.τ):=by
    rw [c4.1,c4.2.1,c4.2.2.1,c4.2.2.2]
    exact hp1
   obtain ⟨m',h1,h2,h3⟩:=qfP rs (B:=B) (nb:=n+1) (v:=v.2) (d:=d+nR l) c2 (by rw [<- Nat.add_assoc];exact λ id r hl he=>a4 id r (by rw [<- c4.1];exact hl) (by rw [<- c4.2.1];exact he)) (by show (τ.rw++_).length=_;rw [List.length_append,ht,js,Nat.add_assoc]) hp2 hn (λ k Q hk=>by
    have:=hq (nR l+k) Q (by rw [List.getElem?_append_right (by rw [QS];omega),QS,Nat.add_sub_cancel_left];exact hk)
    rw [<- this];congr 1;omega) hlen (by omega) (by rw [<- Nat.add_assoc];omega) (λ b hb=>by
     have:=c3 b hb
     rcases this with ⟨hlt,he⟩ | he
     ·rw [he,a5];have:=hb4 b (by rw [<- a6];exact hlt);omega
     ·rw [he];omega) (λ k ds hk=>by
    rw [<- Nat.add_assoc] at hk
    have:=hb5 (k+1) ds hk
    rw [<- this];congr 1;omega)
   have h2:Rel N m' E ⟨(τ.bx++[qb4 l τ.rw.length (toC l v.1)])++qgJ rs (τ.rw++jZ l (toC l v.1)).length v.2,(τ.rw++jZ l (toC l v.1))++qgb rs v.2⟩ tm σ := h2
   rw [List.append_assoc,List.append_assoc,List.length_append,js] at h2
   have h3:OKL m' (qgF bn NB rs (τ.rw++jZ l (toC l v.1)).length v.2) _:=h3
   rw [List.length_append,js,<- Nat.add_assoc] at h3
   refine ⟨m',a1.trans (c1.trans h1),h2,⟨_,_,rfl,?_,h3⟩⟩
   have hbn : τ.bx.length<m2.nb:=by rw [c2.nb];show _<(τ.bx++[_]).length;simp
   have hbe:m2.b τ.bx.length=B+(n-NB):=(c3 _ hbn).resolve_left λ h=>by have:=h.1;rw [a2.nb] at this;exact Nat.lt_irrefl _ this
   have:OK m2 (.ptr τ.bx.length 0) (.ptr (B+(n-NB)) 0):=⟨hbn,by rw [hbe]⟩
   rw [hb1] at this
   exact this.mono h1
 | .eltI x a::rs,m,τ,nb,d,v,hr,hf,ht,hp,hn,hq,hb1,hb2,hb3,hb4,hb5=>by
   obtain ⟨⟨p,j,R,rfl,hpd,hR,rfl,e2,e3⟩,hn⟩:=hn
   obtain ⟨m',h1,h2,h3⟩:=qfP rs (v:=v.2) hr hf ht hp hn hq hb1 hb2 hb3 hb4 hb5
   obtain ⟨q,q1,q2,q3,q4,rfl,q5,q6⟩:=hp p R hR
   have hL:L0+d-(d-p)=L0+p:=by omega
   have hT : τ.rw.length-(d-p)=t0+p:=by rw [ht];omega
   have hj:=getElem?_lt e3
   refine ⟨m',h1,h2,⟨_,_,rfl,?_,h3⟩⟩
   show OK m' (.rpt (τ.rw.length-(d-p)) 0 0 v.1.1 (QE R.τ v.1.2) 0) (.rpt (L0+d-(d-p)) v.1.1.toNat 0 0)
   rw [hL,hT,e2,Int.toNat_natCast]
   have hc:OKL m (QE R.τ v.1.2) (ql R.τ v.1.2):=jU (j9 R.τ v.1.2)
   have:OK m (.rpt (t0+p) 0 0 ((j:Nat):Int) (QE R.τ v.1.2) 0) (.rpt (L0+p) j 0 0) :=
    ⟨R,q1,by omega,by omega,.inl ⟨_,_,_,rfl⟩,λ _ => .inl ⟨L0+p,j,q4,by rw [q5],rfl,hj,λ _=>⟨ql R.τ v.1.2,by rw [q6,List.getElem?_map,e3];rfl,hc⟩⟩⟩
   exact this.mono h1
theorem qdM {τ : TS}:∀ {sas:List SA} {xs:List TV} {a:Qm sas} {bs rs:List Nat},yt τ sas xs=some (a,bs,rs)->∀ (L:Nat) (o:jr sas),(qdZ sas L o).length=bs.length
 | [],xs,a,bs,rs,h,L,o=>by
   cases xs with
   | nil=>simp only [yt,Option.some.injEq,Prod.mk.injEq] at h;rw [<- h.2.1];rfl
   | cons x xs=>simp [yt] at h
 | .nil::sas,xs,a,bs,rs,h,L,o=>by
   cases xs with
   | nil=>simp [yt] at h
   | cons x xs =>
     cases x with
     | nil=>exact qdM (sas:=sas) h L o
     | _=>simp [yt] at h
 | .clo g k::sas,xs,a,bs,rs,h,L,o=>by
   cases xs with
   | nil=>simp [yt] at h
   | cons x xs =>
     cases x with
     | fn g' cs =>
       simp only [yt] at h
       split at h<;>try cases h
       exact qdM (sas:=sas) h L o
     | _=>simp [yt] at h
 | .val t::sas,xs,a,bs,rs,h,L,o=>by
   cases xs with
   | nil=>simp [yt] at h
   | cons x xs =>
     simp only [yt] at h
     split at h<;>try cases h
     split at h<;>cases h
     rename_i hvs
     exact qdM (sas:=sas) hvs L o
 | .row t::sas,xs,a,bs,rs,h,L,o=>by
   cases xs with
   | nil=>simp [yt] at h
   | cons x xs =>
     simp only [yt] at h
     split at h<;>try cases h
     split at h<;>cases h
     rename_i hvs
     exact qdM (sas:=sas) hvs L o
 | .box t::sas,xs,a,bs,rs,h,L,o=>by
   cases xs with
   | nil=>simp [yt] at h
   | cons x xs =>
     simp only [yt] at h
     split at h<;>try cases h
     split at h<;>cases h
     rename_i hvs
     rw [qdZ,List.length_cons,List.length_cons,qdM (sas:=sas) hvs _ o.2]
theorem qkv:∀ {l:List Nat},ndN l=true->l.Nodup
 | [],_=>List.nodup_nil
 | b::l,h=>by
   rw [ndN,Bool.and_eq_true,List.all_eq_true] at h
   refine List.nodup_cons.2 ⟨λ hm=>?_,qkv h.2⟩
   have:=h.1 b hm
   simp at this
theorem qsy {f:Nat->Nat}:∀ {l:List Nat},l.Nodup->(∀ a∈l,∀ b∈l,f a=f b->a=b)->(l.map f).Nodup
 | [],_,_=>List.nodup_nil
 | b::l,h,hi=>by
   rw [List.nodup_cons] at h
   rw [List.map_cons,List.nodup_cons]
   refine ⟨λ hm=>?_,qsy h.2 λ a ha c hc=>hi a (List.mem_cons_of_mem _ ha) c (List.mem_cons_of_mem _ hc)⟩
   obtain ⟨c,hc,he⟩:=List.mem_map.1 hm
   have:=hi c (List.mem_cons_of_mem _ hc) b (List.mem_cons_self ..) he
   subst this
   exact h.1 hc
theorem qxD {f:Nat->Option Nat}:∀ {l:List Nat},l.Nodup->(∀ a∈l,∀ b∈l,∀ r,f a=some r->f b=some r->a=b)->(l.filterMap f).Nodup
 | [],_,_=>List.nodup_nil
 | b::l,h,hi=>by
   rw [List.nodup_cons] at h
   have ih:=qxD h.2 λ a ha c hc=>hi a (List.mem_cons_of_mem _ ha) c (List.mem_cons_of_mem _ hc)
   cases hb:f b with
   | none=>rw [List.filterMap_cons_none hb];exact ih
   | some r =>
     rw [List.filterMap_cons_some hb,List.nodup_cons]
     refine ⟨λ hm=>?_,ih⟩
     obtain ⟨c,hc,he⟩:=List.mem_filterMap.1 hm
     have:=hi c (List.mem_cons_of_mem _ hc) b (List.mem_cons_self ..) r he hb
     subst this
     exact h.1 hc
theorem qEO {xs:List TV} {ys:List AV} (h:OKL m xs ys):OK m (qtJ xs) (zI ys):=by
 cases xs with
 | nil=>cases h;exact ⟨[],rfl,rfl⟩
 | cons x xs =>
   obtain ⟨y,r,rfl,h1,h2⟩:=h
   cases xs with
   | nil=>cases h2;exact h1
   | cons x' xs =>
     obtain ⟨y',r',rfl,h3,h4⟩:=h2
     show OK m (.tup (x::x'::xs)) (.tup (y::y'::r'))
     exact (⟨y::y'::r',rfl,y,_,rfl,h1,y',_,rfl,h3,h4⟩:∃ ds,AV.tup (y::y'::r') = .tup ds/\OKL m (x::x'::xs) ds)
theorem qFe (ids:List Nat):∀ rw:List qM,(qeA rw ids).length=rw.length:=by
 induction ids with
 | nil=>intro rw;rfl
 | cons a ids ih =>
   intro rw
   show (qeA (rw.modify a _) ids).length=_
   rw [ih,List.length_modify]
theorem qE2 {f:Nat} {xs:List TV} {ys:List AV} (hr:Rel N m E τ tm σ) (ho:OKL m xs ys) (hh:c.has f=false) {g:qom} (hg:c.mf f=some g) (h:qzc τ g xs K=some r):Sim N m E τ tm σ K r (qa6 c.pc f σ ys):=by
 obtain ⟨t,sas,fn⟩:=g
 unfold qzc at h
 split at h
 case h_2=>cases h
 rename_i x xs
 split at h
 case h_2=>cases h
 rename_i l ids a hl ha
 split at h
 case h_2=>cases h
 rename_i hord
 replace hl:qhb τ.rw t x=some (l,ids):=hl
 have hids:ids=[]\/∃ id,ids=[id]:=by
  have hl:=hl
  unfold qhb at hl
  repeat' split at hl
  all_goals first | (cases hl;done) | (cases hl;exact .inl rfl) | (cases hl;exact .inr ⟨_,rfl⟩)
 have hs:yt τ (.row t::sas) (x::xs)=some ((l,a),[],ids):=by
  rw [yt,hl]
  simp only
  rw [ha]
  simp only [List.append_nil]
 obtain ⟨i1,_,i2,i3,i4,i5⟩:=qrR hr hs ho hord
 have hp:∀ (σ':Option St) (v:List (Val t)) (R:List Nat),qc2 σ ys=R->QU σ ys=[]->qjl σ ys=true->fn (l,a)=some v->dS (qO σ [] R) (.row t::sas) 0 0 (qZ (λ b=>([]:List Nat).idxOf b) (λ r=>R.idxOf r) ys)=some (l,a)->Nat.beq v.length l.length=true ->
   (match (qO σ [] R).bx,(qO σ [] R).rw with
    | [],[Q]=>some (AV.tup [],some (⟨[],[⟨Q.k,v.map (ql t),Q.ver,Q.fz,Q.off⟩],[],[0]⟩:St))
    | [],[]=>some (.tup [],none)
    | _,_=>none)=some (.tup [],σ')->qa6 c.pc f σ ys=some (qi5 σ [] R (.tup [],σ')):=by
  intro σ' v R h1 h2 h3 h4 h5 h6 h7
  unfold qa6
  have e1:c.pc.pf f=none:=by show (match c.has f with | true=>some (yZ c f) | false=>none)=_;rw [hh]
  have e2:c.pc.sp f=some (mgP ⟨t,sas,fn⟩):=by show c.spf f=_;unfold TC.spf;rw [hg]
  rw [e1,e2]
  simp only
  unfold qaK
  rw [h3,h2,h1]
  have hm:mgP ⟨t,sas,fn⟩ (qO σ [] R) (qZ (λ b=>([]:List Nat).idxOf b) (λ r=>R.idxOf r) ys)=some (.tup [],σ'):=by
   unfold mgP
   rw [h5]
   simp only [h4,h6]
   exact h7
  simp only [hm]
 have fin:∀ (R:List Nat),ids.filterMap m.r=R->qc2 σ ys=R/\QU σ ys=[]/\qjl σ ys=true/\dS (qO σ [] R) (.row t::sas) 0 0 (qZ (λ b=>([]:List Nat).idxOf b) (λ r=>R.idxOf r) ys)=some (l,a):=by
  intro R hR
  have nr:R.Nodup:=by
   rw [<- hR]
   rcases hids with rfl | ⟨id,rfl⟩
   ·exact List.nodup_nil
   ·cases hq:m.r id with
    | none=>rw [List.filterMap_cons_none hq];exact List.nodup_nil
    | some q=>rw [List.filterMap_cons_some hq];exact List.nodup_cons.2 ⟨List.not_mem_nil,List.nodup_nil⟩
  have hRlt:∀ q∈R,q < σ.rw.length := λ q hq=>by
   rw [<- hR] at hq
   obtain ⟨id,h1,h2⟩:=List.mem_filterMap.1 hq
   exact hr.row_lt (i4 id h1) h2
  obtain ⟨s1,s2,s3⟩:=qqS (σ := σ) (B:=[]) (R:=R) i1 (by rw [<- hR];exact i2) List.nodup_nil nr (λ b hb=>by cases hb) hRlt
  have:=i5 [] [] List.nodup_nil (by rw [List.nil_append,hR];exact nr)
  rw [hR] at this
  exact ⟨s2,s1,s3,this⟩
 split at h
 case h_3=>cases h
 ·rename_i id
  obtain ⟨v,hv,h1⟩:=Jy h
  obtain ⟨hlen,h2⟩:=Qh h1
  clear h h1
  have hvl:v.length=l.length:=Nat.eq_of_beq_eq_true hlen
  have hl0:=hl
  unfold qhb at hl
  split at hl
  ·cases hl
  ·split at hl<;>cases hl
  ·rename_i id' ver
   split at hl<;>try cases hl
   rename_i Rw hRw
   split at hl<;>try cases hl
   rename_i hvs
   rw [Bool.and_eq_true,Bool.not_eq_true'] at hvs
   split at hl<;>cases hl
   rename_i hc
   obtain ⟨e,he⟩:=jd hc
   subst e
   have he:Rw.l=l:=he
   subst he
   have hR':m.rw[id]? = some Rw:=by rw [hr.rw];exact hRw
   have hgood:=hr.rows id Rw hR'
   have hmod : τ.rw.modify id (λ R=>(⟨Rw.τ,v,R.ver,R.sv+1,false⟩:qM)) = τ.rw.set id ⟨Rw.τ,v,Rw.ver,Rw.sv+1,false⟩:=qtt hRw
   have h:K (.tup []) (some ⟨τ.bx,τ.rw.modify id λ R=>⟨Rw.τ,v,R.ver,R.sv+1,false⟩⟩)=some r:=h2
   rw [hmod] at h
   cases hq:m.r id with
   | none =>
     obtain ⟨s1,s2,s3,s4⟩:=fin [] (by rw [List.filterMap_cons_none hq];rfl)
     have hpc:=hp none v [] s1 s2 s3 hv s4 hlen rfl
     rw [hq] at hgood
     have hn:Rw.l=[]:=hgood hvs.2
     have hvn:v=[]:=List.eq_nil_of_length_eq_zero (by rw [hvl,hn];rfl)
     obtain ⟨m',g1,g2,_⟩:=hr.rowUpd (R2:=⟨Rw.τ,v,Rw.ver,Rw.sv+1,false⟩) hRw none (m.v id) (m.q id) (Nat.le_refl _) (Nat.le_succ _)
      (λ _=>⟨hvl,hq.symm,rfl,rfl,λ _=>rfl,λ _ y hy=>by rw [hvn,<- hn];exact hy⟩) (σ' := σ) rfl (λ _=>hvn)
      (λ id' r' h1 h2 h3=>⟨(by intro h;cases h),λ Q hQ=>hQ⟩)
     exact ⟨_,_,_,none,m',h,hpc,g1,g2,⟨[],rfl,rfl⟩,λ h=>by cases h⟩
   | some q =>
     obtain ⟨s1,s2,s3,s4⟩:=fin [q] (by rw [List.filterMap_cons_some hq];rfl)
     rw [hq] at hgood
     obtain ⟨Q,k2,kc,kv,kk,kd,kf,ks⟩:=hgood
     have hsub:(qO σ [] [q]).rw=[Q]:=by show [σ.rw.getD q ⟨0,[],0,0,false⟩]=[Q];rw [zO k2]
     have hpc:=hp (some ⟨[],[⟨Q.k,v.map (ql Rw.τ),Q.ver,Q.fz,Q.off⟩],[],[0]⟩) v [q] s1 s2 s3 hv s4 hlen (by rw [hsub];rfl)
     have hrl:q < σ.rw.length:=getElem?_lt k2
     have hbk:qi5 σ [] [q] (.tup [],some ⟨[],[⟨Q.k,v.map (ql Rw.τ),Q.ver,Q.fz,Q.off⟩],[],[0]⟩)=(.tup [],some { σ with rw := σ.rw.set q ⟨Q.k,v.map (ql Rw.τ),Q.ver,Q.fz,Q.off⟩,wrr:=q :: σ.wrr }):=by
      simp [qi5,qg6,zH,ren,qZ,zx]
     rw [hbk] at hpc
     obtain ⟨m',g1,g2,_⟩:=hr.rowUpd (R2:=⟨Rw.τ,v,Rw.ver,Rw.sv+1,false⟩) hRw (m.r id) (m.v id) (v.map (ql Rw.τ)) (Nat.le_refl _) (Nat.le_succ _)
      (λ _=>⟨hvl,rfl,rfl,rfl,(λ h=>by have:Rw.sv+1=Rw.sv:=h;omega),(λ h=>by rw [hq] at h;cases h)⟩) (σ':={ σ with rw := σ.rw.set q ⟨Q.k,v.map (ql Rw.τ),Q.ver,Q.fz,Q.off⟩,wrr:=q :: σ.wrr }) rfl
      (by
       rw [hq]
       refine ⟨⟨Q.k,v.map (ql Rw.τ),Q.ver,Q.fz,Q.off⟩,by show (σ.rw.set q _)[q]? = _;rw [List.getElem?_set_self hrl],rfl,kv,kk,qbl (j9 Rw.τ) v,?_,λ _=>ks hvs.2⟩
       show Q.fz<=(v.map _).length
       rw [(ks hvs.2).1];exact Nat.zero_le _)
      (λ id' r'' h1 h2 h3=>by
       have hne:=hr.others hRw hq h1 h2 h3
       refine ⟨λ he=>by rw [hq] at he;exact hne (Option.some.inj he).symm,λ Q' hQ'=>?_⟩
       show (σ.rw.set q _)[r'']? = _
       rw [List.getElem?_set_ne (Ne.symm hne)];exact hQ')
     exact .to h hpc g1 g2 ⟨[],rfl,rfl⟩
  ·cases hl
 ·obtain ⟨v,hv,h⟩:=Jy h
  obtain ⟨hlen,h⟩:=Qh h
  obtain ⟨s1,s2,s3,s4⟩:=fin [] rfl
  have hpc:=hp none v [] s1 s2 s3 hv s4 hlen rfl
  exact .same hr h hpc ⟨[],rfl,rfl⟩
theorem qFa {f:Nat} {xs:List TV} {ys:List AV} (hr:Rel N m E τ tm σ) (ho:OKL m xs ys) (hh:c.has f=false) (hmf:c.mf f=none) {g:qrv} (hg:c.xf f=some g) (h:qzl τ g xs K=some r):Sim N m E τ tm σ K r (qa6 c.pc f σ ys):=by
 unfold qzl at h
 split at h
 case h_2=>cases h
 rename_i a bs rs hvs
 split at h
 case h_2=>cases h
 rename_i hnd
 rw [Bool.and_eq_true,Bool.and_eq_true] at hnd
 obtain ⟨hnd1,hnd2,hord⟩:=hnd
 obtain ⟨v,hv,h⟩:=Jy h
 obtain ⟨i1,_,i2,i3,i4,i5⟩:=qrR hr hvs ho hord
 have nb:=qsy (f:=m.b) (qkv hnd1) λ x hx y hy he=>hr.inj x y (i3 x hx).1 (i3 y hy).1 he
 have nr:=qxD (f:=m.r) (qkv hnd2) λ x hx y hy q e1 e2=>hr.rinj x y q (i4 x hx) (i4 y hy) e1 e2
 have hRlt:∀ q∈rs.filterMap m.r,q < σ.rw.length := λ q hq=>by
  obtain ⟨id,h1,h2⟩:=List.mem_filterMap.1 hq
  exact hr.row_lt (i4 id h1) h2
 have i2':(rrL ys++(bs.map m.b).flatMap λ b=>rrL (σ.bx.getD b []))=rs.filterMap m.r:=by rw [List.flatMap_map];exact i2
 obtain ⟨s1,s2,s3⟩:=qqS (σ := σ) i1 i2' nb nr (λ b hb=>by obtain ⟨b0,h1,rfl⟩:=List.mem_map.1 hb;exact (i3 b0 h1).2) hRlt
 have hd:=i5 [] [] nb nr
 rw [List.nil_append,List.nil_append] at hd
 generalize hB:bs.map m.b=B at *
 generalize hR:rs.filterMap m.r=R at *
 have hsg:xgP g (qO σ B R) (qZ (λ b=>B.idxOf b) (λ r=>R.idxOf r) ys)=some (.v (.int .i64 v),none):=by
  unfold xgP
  have hd:dS (qO σ B R) g.args 0 0 (qZ (λ b=>B.idxOf b) (λ r=>R.idxOf r) ys)=some a:=hd
  rw [hd]
  simp only [hv]
 have hpc:qa6 c.pc f σ ys=some (.v (.int .i64 v),none):=by
  unfold qa6
  have e1:c.pc.pf f=none:=by show (match c.has f with | true=>some (yZ c f) | false=>none)=_;rw [hh]
  have e2:c.pc.sp f=some (xgP g):=by show c.spf f=_;unfold TC.spf;rw [hmf,hg]
  rw [e1,e2]
  simp only
  unfold qaK
  rw [s3,s1,s2]
  simp only [hsg,qi5]
  rfl
 exact .same hr h hpc rfl
theorem qhG:∀ (sas:List SA) (L:Nat) (o:jr sas),(qdZ sas L o).length=nBx sas
 | [],_,_=>rfl
 | .nil::sas,L,o=>qhG sas L o
 | .clo _ _::sas,L,o=>qhG sas L o
 | .val _::sas,L,o=>qhG sas L o
 | .row _::sas,L,o=>qhG sas L o
 | .box _::sas,L,o=>by rw [qdZ,List.length_cons,qhG sas _ o.2,nBx]
theorem qas:∀ (sas:List SA) (L:Nat) (o:jr sas),(jQ sas L o).length=nBx sas
 | [],_,_=>rfl
 | .nil::sas,L,o=>qas sas L o
 | .clo _ _::sas,L,o=>qas sas L o
 | .val _::sas,L,o=>qas sas L o
 | .row _::sas,L,o=>qas sas L o
 | .box _::sas,L,o=>by rw [jQ,List.length_cons,qas sas _ o.2,nBx]
theorem qvF:∀ (bs:List Nat) (bx xs:List (List TV)),(qli bx bs xs).length=bx.length
 | [],bx,xs=>by cases xs<;>rfl
 | b::bs,bx,[]=>rfl
 | b::bs,bx,x::xs=>by rw [qli,qvF bs,List.length_set]
theorem qtg {β : Type}:∀ (rs:List Nat) (l ks ns:List β),ks.length=rs.length->zH l rs (ks++ns)=zH l rs ks++ns
 | [],l,ks,ns,h=>by
   have:ks=[]:=List.eq_nil_of_length_eq_zero h
   subst this
   simp [zH]
 | r::rs,l,[],ns,h=>by simp at h
 | r::rs,l,k::ks,ns,h=>qtg rs (l.set r k) ks ns (by simpa using h)
theorem Rel.moreBx {τ : TS} (hr:Rel N m E τ tm σ) (xs:List (List AV)):Rel N m E τ tm { σ with bx := σ.bx++xs } :=
 ⟨hr.len,hr.env,hr.rw,hr.nb,λ b cs hb=>by
  obtain ⟨ds,d1,d2⟩:=hr.box b cs hb
  exact ⟨ds,by show (σ.bx++xs)[_]? = _;rw [List.getElem?_append_left (getElem?_lt d1)];exact d1,d2⟩,hr.inj,hr.rows,hr.rinj,hr.pin⟩
theorem qrX:∀ (l:List RA) (v:CV l) (p:Nat) (R:qM) (Q:Row),(jZ l v)[p]? = some R->(qcD l v)[p]? = some Q->Q.c=R.l.map (ql R.τ)
 | [],v,p,R,Q,h,_=>by cases h
 | .val _::l,v,p,R,Q,h,g=>qrX l v.2 p R Q h g
 | .row a::l,v,0,R,Q,h,g=>by cases h;cases g;rfl
 | .row a::l,v,p+1,R,Q,h,g=>qrX l v.2 p R Q h g
theorem qhl:∀ (sas:List SA) (o:jr sas) (p:Nat) (R:qM) (Q:Row),(J7 sas o)[p]? = some R->(jT sas o)[p]? = some Q->Q.c=R.l.map (ql R.τ)
 | [],o,p,R,Q,h,_=>by cases h
 | .nil::sas,o,p,R,Q,h,g=>qhl sas o p R Q h g
 | .clo _ _::sas,o,p,R,Q,h,g=>qhl sas o p R Q h g
 | .val _::sas,o,p,R,Q,h,g=>qhl sas o p R Q h g
 | .row _::sas,o,p,R,Q,h,g=>qhl sas o p R Q h g
 | .box l::sas,o,p,R,Q,h,g=>by
   have h:(jZ l (toC l o.1)++J7 sas o.2)[p]? = some R:=h
   have g:(qcD l (toC l o.1)++jT sas o.2)[p]? = some Q:=g
   by_cases hl:p<nR l
   ·rw [List.getElem?_append_left (by rw [js];exact hl)] at h
    rw [List.getElem?_append_left (by rw [QS];exact hl)] at g
    exact qrX l _ p R Q h g
   ·rw [List.getElem?_append_right (by rw [js];omega),js] at h
    rw [List.getElem?_append_right (by rw [QS];omega),QS] at g
    exact qhl sas o.2 _ R Q h g
theorem qvG {f:Nat} {xs:List TV} {ys:List AV} (hr:Rel N m E τ tm σ) (ho:OKL m xs ys) (hh:c.has f=false) (h:qtq c τ f xs K=some r):Sim N m E τ tm σ K r (qa6 c.pc f σ ys):=by
 unfold qtq at h
 split at h
 ·exact qE2 hr ho hh ‹_› h
 rename_i hmf
 split at h
 ·exact qFa hr ho hh hmf ‹_› h
 rename_i hxf
 split at h
 case h_2=>cases h
 rename_i g hg
 split at h
 case h_2=>cases h
 rename_i a bs rs hvs
 split at h
 case h_2=>cases h
 rename_i hnd
 rw [Bool.and_eq_true,Bool.and_eq_true] at hnd
 obtain ⟨hnd1,hnd2,hord⟩:=hnd
 obtain ⟨v,hv,h⟩:=Jy h
 obtain ⟨rs',v',h,hnum,hsol⟩:=qcA g.res (nBx g.args) (nrB g.args) v.2 (by rw [qaI];exact Nat.le_refl _) h
 obtain ⟨i1,_,i2,i3,i4,i5⟩:=qrR hr hvs ho hord
 have nb:=qsy (f:=m.b) (qkv hnd1) λ x hx y hy he=>hr.inj x y (i3 x hx).1 (i3 y hy).1 he
 have nr:=qxD (f:=m.r) (qkv hnd2) λ x hx y hy q e1 e2=>hr.rinj x y q (i4 x hx) (i4 y hy) e1 e2
 have hRlt:∀ q∈rs.filterMap m.r,q < σ.rw.length := λ q hq=>by
  obtain ⟨id,h1,h2⟩:=List.mem_filterMap.1 hq
  exact hr.row_lt (i4 id h1) h2
 have i2':(rrL ys++(bs.map m.b).flatMap λ b=>rrL (σ.bx.getD b []))=rs.filterMap m.r:=by rw [List.flatMap_map];exact i2
 obtain ⟨s1,s2,s3⟩:=qqS (σ := σ) i1 i2' nb nr (λ b hb=>by obtain ⟨b0,h1,rfl⟩:=List.mem_map.1 hb;exact (i3 b0 h1).2) hRlt
 have hd:=i5 [] [] nb nr
 rw [List.nil_append,List.nil_append] at hd
 have hbl:=qdM hvs (σ.rw.length) v.1
 have hBl:(bs.map m.b).length=nBx g.args:=by rw [List.length_map,<- hbl,qhG]
 generalize hB:bs.map m.b=B at *
 generalize hR:rs.filterMap m.r=R at *
 have hsl:(qO σ B R).rw.length=R.length:=List.length_map ..
 have hsg:sgP g (qO σ B R) (qZ (λ b=>B.idxOf b) (λ r=>R.idxOf r) ys)=some (zI (jf rs' (R.length+nrB g.args) v'),some ⟨jQ g.args R.length v.1++jD rs' (R.length+nrB g.args) v',(qO σ B R).rw.map Qn++(jT g.args v.1++jB rs' v'),List.range (qO σ B R).bx.length,List.range (qO σ B R).rw.length⟩):=by
  unfold sgP
  have hd:dS (qO σ B R) g.args 0 0 (qZ (λ b=>B.idxOf b) (λ r=>R.idxOf r) ys)=some a:=hd
  rw [hd]
  simp only [hv]
  rw [hsl]
  exact hsol _
 have hpc:qa6 c.pc f σ ys=some (zI ((jf rs' (σ.rw.length+nrB g.args) v').map λ y=>match y with | .ptr n o => .ptr (σ.bx.length+(n-nBx g.args)) o | y=>y),some (qg6 σ B R ⟨jQ g.args R.length v.1++jD rs' (R.length+nrB g.args) v',(qO σ B R).rw.map Qn++(jT g.args v.1++jB rs' v'),List.range (qO σ B R).bx.length,List.range (qO σ B R).rw.length⟩)):=by
  unfold qa6
  have e1:c.pc.pf f=none:=by show (match c.has f with | true=>some (yZ c f) | false=>none)=_;rw [hh]
  have e2:c.pc.sp f=some (sgP g):=by show c.spf f=_;unfold TC.spf;rw [hmf,hxf,hg]
  rw [e1,e2]
  simp only
  unfold qaK
  rw [s3,s1,s2]
  simp only [hsg,qi5]
  rw [qDX,qfM rs' (nBx g.args) (nrB g.args) v' (Nat.le_of_eq hBl) hnum,hBl]
 obtain ⟨m1,k1,k2,k3,k4,k5,k6⟩:=qyP rs hr i4
 obtain ⟨l',l1,l2,l3⟩:=qnr R σ.rw ((qO σ B R).rw.map Qn) (jT g.args v.1++jB rs' v') (by rw [List.length_map];exact List.length_map ..)
 have hbe:(jQ g.args σ.rw.length v.1).length=B.length:=by rw [hBl,qas]
 have hbs:qg6 σ B R ⟨jQ g.args R.length v.1++jD rs' (R.length+nrB g.args) v',(qO σ B R).rw.map Qn++(jT g.args v.1++jB rs' v'),List.range (qO σ B R).bx.length,List.range (qO σ B R).rw.length⟩=⟨zH σ.bx B (jQ g.args σ.rw.length v.1)++jD rs' (σ.rw.length+nrB g.args) v',l'++(jT g.args v.1++jB rs' v'),(List.range (qO σ B R).bx.length).map (zx B σ.bx.length) ++ σ.wr,(List.range (qO σ B R).rw.length).map (zx R σ.rw.length) ++ σ.wrr⟩:=by
  unfold qg6
  have h1:=qhk (B:=B) (R:=R) (bn := σ.bx.length) (rn := σ.rw.length) g.args 0 v.1
  have h2:=qdP (B:=B) (R:=R) (bn := σ.bx.length) (rn := σ.rw.length) rs' _ _ v' hnum
  rw [Nat.add_zero,Nat.add_zero] at h1
  simp only [List.map_append,h1,h2,l1,qtg _ _ _ _ hbe]
 have hlow:qh9 m1 σ.rw.length := λ id r h1 h2=>hr.row_lt (by rw [<- k5];exact h1) (k6 id r h2).1
 let σ':St:=⟨σ.bx,l'++(jT g.args v.1++jB rs' v'),(List.range (qO σ B R).bx.length).map (zx B σ.bx.length) ++ σ.wr,(List.range (qO σ B R).rw.length).map (zx R σ.rw.length) ++ σ.wrr⟩
 have hrel:Rel N m1 E ⟨τ.bx,qeA τ.rw rs⟩ tm σ':=by
  refine k2.rowsTo rfl λ id Rw hRw=>(k2.rows id Rw hRw).later λ q Q hq hQ=>?_
  obtain ⟨q1,q2⟩:=k6 id q hq
  have hql:=hr.row_lt (by rw [<- k5];exact getElem?_lt hRw) q1
  show (l'++_)[q]? = _
  rw [List.getElem?_append_left (by rw [l2];exact hql),l3 q λ hm=>?_]
  ·exact hQ
  ·rw [<- hR] at hm
   obtain ⟨id',h1,h2⟩:=List.mem_filterMap.1 hm
   have:=hr.rinj id id' q (by rw [<- k5];exact getElem?_lt hRw) (i4 id' h1) q1 h2
   subst this
   exact q2 h1
 obtain ⟨m2,z1,z2,z3,z4,z5,z6,z7⟩:=qhy g.args (L := σ.rw.length) (o:=v.1) hrel hlow λ k Q hk=>by
  show (l'++(jT g.args v.1++jB rs' v'))[σ.rw.length+k]? = _
  rw [List.getElem?_append_right (by rw [l2];omega),l2,Nat.add_sub_cancel_left,List.getElem?_append_left (getElem?_lt hk)]
  exact hk
 have hkl:(qeA τ.rw rs).length = τ.rw.length:=qFe rs τ.rw
 have z3:BxL m2 (qdZ g.args (qeA τ.rw rs).length v.1) (jQ g.args σ.rw.length v.1):=z3
 have z7:At m2 (qeA τ.rw rs).length σ.rw.length (nrB g.args):=z7
 rw [hkl] at z3 z7
 have hbx:=qwt bs (xs:=qdZ g.args τ.rw.length v.1) (ys:=jQ g.args σ.rw.length v.1) z2 z3 (qdM hvs _ v.1) λ b hb=>by rw [z6,k3];exact (i3 b hb).1
 rw [z5,k4,hB] at hbx
 have hsa:(zH σ.bx B (jQ g.args σ.rw.length v.1)).length = σ.bx.length:=by
  obtain ⟨lb,b1,b2,_⟩:=qnr B σ.bx (jQ g.args σ.rw.length v.1) [] hbe
  rw [List.append_nil,List.append_nil] at b1
  rw [b1,b2]
 have hbx2:=hbx.moreBx (jD rs' (σ.rw.length+nrB g.args) v')
 have hsbl:(qli τ.bx bs (qdZ g.args τ.rw.length v.1)).length = τ.bx.length:=qvF _ _ _
 obtain ⟨m3,y1,y2,y3⟩:=qfP (rws:=J7 g.args v.1) (t0 := τ.rw.length) (L0 := σ.rw.length) (bn := τ.bx.length) (B := σ.bx.length) (NB:=nBx g.args) rs' (nb:=nBx g.args) (d:=nrB g.args) (v:=v') hbx2 z4 (by show (qeA τ.rw rs++J7 g.args v.1).length=_;rw [List.length_append,hkl,qaI]) (λ p R hp=>by
   have hpl:=getElem?_lt hp
   rw [qaI] at hpl
   obtain ⟨R',g1,g2,g3,g4,g5⟩:=z7 p hpl
   have hRe:m2.rw[τ.rw.length+p]? = some R:=by
    rw [z2.rw]
    show (qeA τ.rw rs++J7 g.args v.1)[_]? = _
    rw [List.getElem?_append_right (by rw [hkl];omega),hkl,Nat.add_sub_cancel_left];exact hp
   cases hRe.symm.trans g1
   refine ⟨_,hRe,g2,g3,g4,rfl,g5,?_⟩
   have hg:=hbx2.rows _ _ hRe
   rw [g4] at hg
   obtain ⟨Q,q1,q2,_⟩:=hg
   rw [<- q2]
   have q1:(l'++(jT g.args v.1++jB rs' v'))[σ.rw.length+p]? = some Q:=q1
   rw [List.getElem?_append_right (by rw [l2];omega),l2,Nat.add_sub_cancel_left,List.getElem?_append_left (by rw [qa2];exact hpl)] at q1
   exact qhl g.args v.1 p _ _ hp q1) hnum (λ k Q hk=>by
  show (l'++(jT g.args v.1++jB rs' v'))[σ.rw.length+nrB g.args+k]? = _
  rw [List.getElem?_append_right (by rw [l2];omega),l2,show σ.rw.length+nrB g.args+k - σ.rw.length=nrB g.args+k by omega,List.getElem?_append_right (by rw [qa2];omega),qa2,Nat.add_sub_cancel_left]
  exact hk) (by show (qli τ.bx bs (qdZ g.args τ.rw.length v.1)).length=_;rw [hsbl,Nat.sub_self,Nat.add_zero]) (Nat.le_refl _) (by rw [Nat.sub_self,Nat.add_zero];show _<=(zH σ.bx B (jQ g.args σ.rw.length v.1)++_).length;rw [List.length_append,hsa];exact Nat.le_refl _) (λ b hb=>by
   rw [Nat.sub_self,Nat.add_zero,z5,k4]
   rw [z6,k3] at hb
   obtain ⟨ds,d1,_⟩:=hr.box b _ (List.getElem?_eq_getElem (by rw [<- hr.nb];exact hb))
   exact getElem?_lt d1) (λ k ds hk=>by
   rw [Nat.sub_self,Nat.add_zero]
   show (zH σ.bx B (jQ g.args σ.rw.length v.1)++_)[_]? = _
   rw [List.getElem?_append_right (by rw [hsa];omega),hsa,Nat.add_sub_cancel_left];exact hk)
 have y2:Rel N m3 E ⟨qli τ.bx bs (qdZ g.args τ.rw.length v.1)++qgJ rs' (qeA τ.rw rs++J7 g.args v.1).length v',(qeA τ.rw rs++J7 g.args v.1)++qgb rs' v'⟩ tm _:=y2
 rw [List.append_assoc,List.length_append,hkl,qaI] at y2
 have y3:OKL m3 (qgF τ.bx.length (nBx g.args) rs' (qeA τ.rw rs++J7 g.args v.1).length v') _:=y3
 rw [List.length_append,hkl,qaI] at y3
 rw [hpc,hbs]
 exact .to h rfl (k1.trans (z1.trans y1)) y2 (qEO y3)
end
end Go.AmZ
namespace Go.AmZ
open Go Go.RowKit Go.GxZ
section
variable {α : Type} {N:Nat × Nat} {m:Mp} {E:Env} {τ : TS} {tm:List AV} {σ : St} {K:KT α} {r : α} {p:Option (AV × Option St)} {c:TC} {C:Cfg}
theorem qGq {rw:List qM} {a:Ty} {f:Nat} {cs:List TV} {v:Val a} (h:qfq rw a (.fn f cs)=some v):False:=by
 unfold qfq at h
 cases a with
 | int k=>cases h
 | bool=>cases h
 | str=>cases h
 | list a=>cases h
 | term=>cases h
 | pair a b=>cases h
 | one a=>cases h
theorem qvO {σ β γ : Type} {p : σ -> Option β} {q:List σ -> Option γ} {xs:List σ} {v : β × γ} (h:qlQ p q xs=some v):∃ x r,xs=x::r/\p x=some v.1/\q r=some v.2:=by
 unfold qlQ at h
 split at h<;>try cases h
 split at h<;>try cases h
 split at h<;>cases h
 exact ⟨_,_,rfl,by assumption,by assumption⟩
theorem qpD (hq:ja m σ):∀ (ts:List ATy) {xs:List TV} {ys:List AV} {v:qa1 ts},qtS m.rw ts xs=some v->OKL m xs ys ->
  qcY ts (ys.map (jR σ.rw))=some v/\qeR (ys.map (jR σ.rw))=qmS xs/\noRefs (ys.map (jR σ.rw))=true
 | [],xs,ys,v,h,ho=>by
   cases xs with
   | nil=>cases ho;exact ⟨rfl,rfl,rfl⟩
   | cons x xs=>cases h
 | .val a::ts,xs,ys,v,h,ho=>by
   obtain ⟨x,xs,rfl,hw,hws⟩:=qvO h
   obtain ⟨y,r,rfl,h1,h2⟩:=ho
   obtain ⟨g1,_⟩:=qjw hq hw h1
   obtain ⟨k1,k2,k3⟩:=qpD hq ts hws h2
   obtain ⟨p1,p2⟩:=qb5 g1
   refine ⟨?_,?_,?_⟩
   ·show qlQ _ _ (jR σ.rw y::r.map (jR σ.rw))=_
    simp only [qlQ,g1,k1]
   ·rw [List.map_cons]
    have e1:qeR (jR σ.rw y::r.map (jR σ.rw))=qeR (r.map (jR σ.rw)):=by
     generalize jR σ.rw y=z at p2
     cases z<;>first | rfl | exact absurd rfl (p2 _ _)
    have e2:qmS (x::xs)=qmS xs:=by
     cases x<;>first | rfl | exact (qGq hw).elim
    rw [e1,e2,k2]
   ·rw [List.map_cons]
    unfold noRefs at k3 |-
    rw [List.all_cons,p1,k3];rfl
 | .fn::ts,xs,ys,v,h,ho=>by
   change pFn _ xs=_ at h
   unfold pFn at h
   split at h
   case h_2=>cases h
   obtain ⟨y,r,rfl,⟨ds,rfl,hd⟩,h2⟩:=ho
   cases hd
   obtain ⟨k1,k2,k3⟩:=qpD hq ts h h2
   refine ⟨k1,?_,?_⟩
   ·show _::qeR _=_::qmS _
    rw [k2]
   ·unfold noRefs at k3 |-
    rw [List.map_cons,List.all_cons,k3];rfl
theorem qA2:∀ (ts:List Ty) (v:qd1 ts),OKL m (unL ts v) (qac ts v)/\noRefs (qac ts v)=true
 | [],_=>⟨rfl,rfl⟩
 | [a],v=>⟨⟨_,_,rfl,qpZ a v,rfl⟩,by show (Qo (yG a v)&&true)=true;rw [qgR];rfl⟩
 | a::b::r,v=>by
   obtain ⟨h1,h2⟩:=qA2 (b::r) v.2
   refine ⟨⟨_,_,rfl,qpZ a v.1,h1⟩,?_⟩
   show (Qo (yG a v.1)&&noRefs (qac (b::r) v.2))=true
   rw [qgR,h2];rfl
theorem qwk {l:List AV} (h:noRefs l=true):Qo (.tup l)=true:=by
 have:=qhV h
 unfold Qo
 rw [rb,rr,this.1,this.2];rfl
theorem qGB {xs:List TV} {ys:List AV} (h:OKL m xs ys) (hn:noRefs ys=true):OK m (qtJ xs) (zI ys)/\Qo (zI ys)=true:=by
 cases xs with
 | nil=>cases h;exact ⟨⟨[],rfl,rfl⟩,rfl⟩
 | cons x xs =>
   obtain ⟨y,r,rfl,h1,h2⟩:=h
   cases xs with
   | nil =>
     cases h2
     have:Qo y=true:=by
      unfold noRefs at hn
      simpa using hn
     exact ⟨h1,this⟩
   | cons x' xs =>
     obtain ⟨y',r',rfl,h3,h4⟩:=h2
     exact ⟨⟨_,rfl,⟨_,_,rfl,h1,_,_,rfl,h3,h4⟩⟩,qwk hn⟩
theorem qzk {a:Ty} (h:qtO a=true) (v:Val a):isV (yG a v)=true:=by
 cases a<;>first | rfl | (cases h)
theorem qyS:∀ {ts:List Ty} (v:qd1 ts),ts.all qtO=true->(qac ts v).all isV=true
 | [],_,_=>rfl
 | [a],v,h=>by
   have:qtO a=true:=by simpa using h
   show (isV (yG a v)&&true)=true
   rw [qzk this];rfl
 | a::b::r,v,h=>by
   rw [List.all_cons,Bool.and_eq_true] at h
   show (isV (yG a v.1)&&(qac (b::r) v.2).all isV)=true
   rw [qzk h.1,qyS v.2 h.2];rfl
theorem qFt {ts:List Ty} {v:qd1 ts} (h:ts.all qtO=true):qfe (zI (qac ts v))=true:=by
 have:=qyS v h
 revert this
 cases qac ts v with
 | nil=>intro _;rfl
 | cons x l =>
   cases l with
   | nil =>
     intro hx
     have hx:isV x=true:=by simpa using hx
     show qfe x=true
     cases x<;>first | rfl | (cases hx)
   | cons y l=>intro hx;exact hx
theorem qFE {f:Nat} {xs:List TV} {ys:List AV} (hr:Rel N m E τ tm σ) (ho:OKL m xs ys) (h:qCf c τ f xs K=some r):Sim N m E τ tm σ K r (qa6 c.pc f σ ys):=by
 unfold qCf at h
 split at h
 case h_2=>cases h
 case h_3 hh=>exact qvG hr ho hh h
 rename_i g hh hg
 split at h<;>try cases h
 rename_i a ha
 obtain ⟨v,hv,h⟩:=Jy h
 rw [<- hr.rw] at ha
 obtain ⟨g1,g2,g3⟩:=qpD hr.rows g.args ha ho
 obtain ⟨e1,e2⟩:=qA2 (m:=m) g.res v
 obtain ⟨e3,e4⟩:=qGB e1 e2
 have hp:c.pc.pf f=some (yZ c f):=by show (match c.has f with | true=>some (yZ c f) | false=>none)=_;rw [hh]
 have hs:yZ c f (ys.map (jR σ.rw))=some (zI (qac g.res v)):=by
  unfold yZ
  rw [g2,hg]
  simp only [g1,hv]
 have hst:qa6 c.pc f σ ys=match qfe (zI (qac g.res v)),ys.flatMap rsA with
   | true,_=>some (zI (qac g.res v),none)
   | _,[]=>some (zI (qac g.res v),none)
   | _,r::l=>some (zI (qac g.res v),some { σ with rw:=frz σ.rw (r::l),wrr:=(r::l) ++ σ.wrr }):=by
  unfold qa6
  simp only [hp,g3,hs,e4]
  rfl
 rw [hst]
 split at h
 ·rename_i hno
  rcases Bool.or_eq_true_iff.1 hno with hno | hno
  ·rw [qq0 hno ho]
   refine .same hr h ?_ e3
   cases qfe (zI (qac g.res v))<;>rfl
  ·rw [qFt hno]
   exact .same hr h rfl e3
 ·split
  ·exact ⟨_,some (shA τ),_,none,shM m,h,rfl,qe5 m,hr.share rfl hr.rows.sh,e3.mono (qe5 m),λ h=>by cases h⟩
  ·exact ⟨_,some (shA τ),_,none,shM m,h,rfl,qe5 m,hr.share rfl hr.rows.sh,e3.mono (qe5 m),λ h=>by cases h⟩
  ·exact .to h rfl (qe5 m) (hr.share (σ':={ σ with rw:=frz σ.rw _,wrr:=_ }) rfl (hr.rows.frz _ _)) (e3.mono (qe5 m))
end
end Go.AmZ
namespace Go.AmZ
open Go Go.RowKit Go.GxZ
section
variable {α : Type} {N:Nat × Nat} {m:Mp} {E:Env} {τ : TS} {tm:List AV} {σ : St} {K:KT α} {r : α} {p:Option (AV × Option St)} {c:TC} {C:Cfg}
theorem qyL {a:Ty} {es:List (List AV)} {l:List (Val a)} (h:qU (yg a) es=some l):uni a.size es=true:=by
 unfold uni
 rw [List.all_eq_true]
 intro e he
 obtain ⟨i,hi⟩:=List.getElem?_of_mem he
 obtain ⟨v,_,h2⟩:=Ju h hi
 obtain ⟨pre,p1,p2,p3,_⟩:=yx a (zQ.1 h2)
 rw [List.append_nil] at p1
 rw [p1]
 simp only [Bool.and_eq_true,decide_eq_true_eq,List.all_eq_true]
 exact ⟨p2,p3⟩
theorem qoL {n bytes:Nat} (h:yq n bytes=true):n*bytes<=2 ^ 47/\n<2 ^ 62:=of_decide_eq_true h
theorem qBX {bytes:Nat} {a:Ty} {s:TV} {xs:List (Val a)} {y:AV} {es:List (List AV)} (hr:Rel N m E τ tm σ) (ho:OK m s y) (hd:qU (yg a) es=some xs) (h:qCV a.size bytes τ a s xs K=some r) :
  Sim N m E τ tm σ K r (zS a.size bytes σ y es):=by
 have hlen:=qQ hd
 unfold qCV at h
 split at h
 ·-- nil
  cases ho
  unfold qi0 at h
  split at h
  ·have:es=[]:=List.eq_nil_of_length_eq_zero (by simpa using hlen)
   subst this
   exact .same hr h rfl rfl
  ·rename_i x rest
   obtain ⟨h1,h⟩:=Qh h
   obtain ⟨q1,q2⟩:=qoL h1
   obtain ⟨m',g1,g2,g3⟩:=hr.rowNew hd
   have hn:zf (qaD es) 0=false:=by simp [zf,qaD,hlen]
   have hle:es.length=rest.length+1:=by simpa using hlen
   have hrn:rowNew a.size bytes es=some (⟨a.size,es,0,0,false⟩,es.length):=by
    unfold Go.AmZ.rowNew
    rw [if_pos ⟨by rw [hle];exact q1,by rw [hle];exact q2⟩]
   refine .to h (y := .rs σ.rw.length 0 es.length 0 false) (by simp only [zS,hn,hrn]) g1 g2 ?_
   rw [hlen];exact g3
 ·-- a list
  rename_i a' l lv
  split at h<;>try cases h
  rename_i hlv
  have hlv:=of_decide_eq_true hlv
  split at h<;>try cases h
  rename_i l hl
  obtain ⟨e,rfl⟩:=jd hl
  subst e
  obtain ⟨h1,h⟩:=Qh h
  obtain ⟨q1,q2⟩:=qoL h1
  unfold qi0 at h
  split at h
  ·have:es=[]:=List.eq_nil_of_length_eq_zero (by simpa using hlen)
   subst this
   refine .same hr h ?_ ho
   rcases jc ho.1 with ⟨rfl,_⟩ | ⟨es0,n,rfl,_⟩<;>rfl
  rename_i x rest _
  have hn:zf (qaD es) 0=false:=by simp [zf,qaD,hlen]
  have hle:es.length=rest.length+1:=by simpa using hlen
  obtain ⟨ho1,ho2⟩:=ho
  rcases jc ho1 with ⟨rfl,hl0⟩ | ⟨es0,n,rfl,h2⟩
  ·have hl0:l=[]:=hl0
   subst hl0
   obtain ⟨m',g1,g2,g3⟩:=hr.rowNew hd
   have hrn:rowNew a'.size bytes es=some (⟨a'.size,es,0,0,false⟩,es.length):=by
    unfold Go.AmZ.rowNew
    rw [if_pos ⟨by rw [hle];simpa using q1,by rw [hle];simpa using q2⟩]
   refine .to h (y := .rs σ.rw.length 0 es.length 0 false) (by simp only [zS,hn,hrn]) g1 g2 ?_
   rw [hlen];exact g3
  ·have hd2:=Jz h2 hd
   have hlen2:=qQ hd2
   obtain ⟨m',g1,g2,g3⟩:=hr.rowNew hd2
   have hrn:rowNew a'.size bytes (qke es0 es)=some (⟨a'.size,qke es0 es,0,0,false⟩,(qke es0 es).length):=by
    unfold Go.AmZ.rowNew qke
    have:(es0++es).length=l.length+(x::rest).length:=by rw [hlen2,List.length_append]
    rw [if_pos ⟨by rw [this];exact q1,by rw [this];exact q2⟩]
   have hc:(decide (1<n+1)&&zf a'.size a'.size&&uni a'.size es0)=true:=by
    have:1<n+1:=Nat.lt_of_lt_of_le hlv ho2
    simp only [decide_eq_true this,zf,decide_true,qyL h2,Bool.and_self]
   refine .to h (y := .rs σ.rw.length 0 (qke es0 es).length 0 false) (by simp only [zS,hn,hc,hrn];rfl) g1 g2 ?_
   show OK m' _ (.rs _ 0 (es0++es).length 0 false)
   rw [hlen2];exact g3
 ·-- a row
  rename_i id ver
  split at h<;>try cases h
  rename_i R hR
  split at h<;>try cases h
  rename_i hv
  have hv:R.ver=ver:=Nat.eq_of_beq_eq_true hv
  split at h<;>try cases h
  rename_i l hl
  obtain ⟨e,rfl⟩:=jd hl
  subst e
  obtain ⟨h1,h⟩:=Qh h
  obtain ⟨q1,q2⟩:=qoL h1
  obtain ⟨R',g1,g2,g3,g4⟩:=ho
  rw [hr.rw,hR] at g1;cases g1
  have hR':m.rw[id]? = some R:=by rw [hr.rw];exact hR
  have gy:=g4 hv
  clear g4
  subst hv
  rcases qhf hr.rows hR' gy with ⟨rr,Q,hrr,hy,k1,k2,kv,k3,k4,kf,ks⟩ | ⟨hrr,hq,hy,hlv⟩
  ·have hQl:=qQ k4
   have hrl:rr < σ.rw.length:=getElem?_lt k1
   by_cases he:xs=[]
   ·subst he
    have:es=[]:=List.eq_nil_of_length_eq_zero (by simpa using hlen)
    subst this
    obtain ⟨m',z1,z2,z3⟩:=hr.rowUpd (R2:=⟨R.τ,R.l++[],R.ver+1,R.sv,R.sh⟩) hR (m.r id) (m.v id) (m.q id) (Nat.le_succ _) (Nat.le_refl _) (λ h=>by have:R.ver+1=R.ver:=h;omega) (σ' := σ) rfl
     (by rw [hrr];exact ⟨Q,k1,k2,kv,k3,by rw [List.append_nil];exact k4,kf,ks⟩) λ id' r'' hne hlt hr''=>⟨λ hee=>by rw [hrr] at hee;exact hr.others hR hrr hne hlt hr'' (Option.some.inj hee).symm,λ _ h=>h⟩
    refine ⟨_,some _,y,none,m',h,by rw [hy];rfl,z1,z2,z3 y ?_,λ h=>by cases h⟩
    rw [hrr]
    show y = .rs rr 0 (R.l++[]).length (m.v id) false
    rw [hy,List.append_nil,kv,hQl]
   ·have hn:zf (qaD es) 0=false:=by
      have:es.length≠0:=by rw [hlen];exact λ h=>he (List.eq_nil_of_length_eq_zero h)
      simp [zf,qaD,this]
    have hap:qsz Q R.τ.size 0 Q.c.length Q.ver false bytes es=some ({ Q with c:=Q.c++es,ver:=Q.ver+1 },Q.c.length+es.length):=by
     unfold qsz
     rw [if_pos ⟨k3,rfl,rfl,rfl,rfl,kf,by rw [hlen,hQl];exact q1,by rw [hlen,hQl];exact q2⟩]
    obtain ⟨m',z1,z2,z3⟩:=hr.rowUpd (R2:=⟨R.τ,R.l++xs,R.ver+1,R.sv,R.sh⟩) hR (some rr) (Q.ver+1) (Q.c++es) (Nat.le_succ _) (Nat.le_refl _) (λ h=>by have:R.ver+1=R.ver:=h;omega)
     (σ':={ σ with rw := σ.rw.set rr { Q with c:=Q.c++es,ver:=Q.ver+1 },wrr:=rr :: σ.wrr }) rfl
     ⟨{ Q with c:=Q.c++es,ver:=Q.ver+1 },by show (σ.rw.set rr _)[rr]? = _;rw [List.getElem?_set_self hrl],rfl,rfl,k3,Jz k4 hd,by show Q.fz<=(Q.c++es).length;rw [List.length_append];omega,ks⟩ λ id' r'' hne hlt hr''=>by
      have hnr:=hr.others hR hrr hne hlt hr''
      exact ⟨λ hee=>hnr (Option.some.inj hee).symm,λ Q' hQ'=>by show (σ.rw.set rr _)[r'']? = _;rw [List.getElem?_set_ne (Ne.symm hnr)];exact hQ'⟩
    refine .to h (y := .rs rr 0 (Q.c.length+es.length) (Q.ver+1) false) (by rw [hy];simp only [zS,hn,k1,hap]) z1 z2 (z3 _ ?_)
    show _=AV.rs rr 0 (R.l++xs).length (Q.ver+1) false
    rw [List.length_append,hQl,hlen]
  ·have hnoR:∀ id' r'',id'≠id->id'<m.rw.length->m.r id'=some r''->r'' < σ.rw.length := λ _ _ _ hlt h=>hr.row_lt hlt h
   by_cases he:xs=[]
   ·subst he
    have:es=[]:=List.eq_nil_of_length_eq_zero (by simpa using hlen)
    subst this
    obtain ⟨m',z1,z2,z3⟩:=hr.rowUpd (R2:=⟨R.τ,R.l++[],R.ver+1,R.sv,R.sh⟩) hR none 0 [] (Nat.le_succ _) (Nat.le_refl _) (λ h=>by have:R.ver+1=R.ver:=h;omega) (σ' := σ) rfl
     (λ hs=>by show R.l++[]=[];rw [hq hs];rfl) λ id' r'' hne hlt hr''=>⟨λ hee=>(by cases hee),λ _ h=>h⟩
    refine ⟨_,some _,y,none,m',h,?_,z1,z2,z3 y ⟨by show dlist R.τ y=some (R.l++[]);rw [List.append_nil];exact hy,hlv⟩,λ h=>by cases h⟩
    rcases jc hy with ⟨rfl,_⟩ | ⟨es,n,rfl,_⟩<;>rfl
   ·have hn:zf (qaD es) 0=false:=by
      have:es.length≠0:=by rw [hlen];exact λ h=>he (List.eq_nil_of_length_eq_zero h)
      simp [zf,qaD,this]
    have key:∀ es2,qU (yg R.τ) es2=some (R.l++xs)->zS R.τ.size bytes σ y es=(match Go.AmZ.rowNew R.τ.size bytes es2 with | some (R,n)=>some (.rs σ.rw.length 0 n 0 false,some { σ with rw := σ.rw++[R] }) | none=>none)->Sim N m E τ tm σ K r (zS R.τ.size bytes σ y es):=by
     intro es2 hd2 hap
     have hle:=qQ hd2
     rw [List.length_append] at hle
     have hrn:rowNew R.τ.size bytes es2=some (⟨R.τ.size,es2,0,0,false⟩,es2.length):=by
      unfold Go.AmZ.rowNew
      rw [if_pos ⟨by rw [hle];exact q1,by rw [hle];exact q2⟩]
     obtain ⟨m',z1,z2,z3⟩:=hr.rowUpd (R2:=⟨R.τ,R.l++xs,R.ver+1,R.sv,R.sh⟩) hR (some σ.rw.length) 0 es2 (Nat.le_succ _) (Nat.le_refl _) (λ h=>by have:R.ver+1=R.ver:=h;omega)
      (σ':={ σ with rw := σ.rw++[⟨R.τ.size,es2,0,0,false⟩] }) rfl
      ⟨⟨R.τ.size,es2,0,0,false⟩,by show (σ.rw++[_])[σ.rw.length]? = _;simp,rfl,rfl,rfl,hd2,Nat.zero_le _,λ _=>⟨rfl,rfl⟩⟩ λ id' r'' hne hlt hr''=>by
        have:=hnoR id' r'' hne hlt hr''
        exact ⟨λ hee=>by have:=Option.some.inj hee;omega,λ Q' hQ'=>by show (σ.rw++[_])[r'']? = _;rw [List.getElem?_append_left this];exact hQ'⟩
     refine .to h (y := .rs σ.rw.length 0 es2.length 0 false) (by rw [hap,hrn]) z1 z2 (z3 _ ?_)
     show _=AV.rs σ.rw.length 0 (R.l++xs).length 0 false
     rw [List.length_append,hle]
    rcases jc hy with ⟨rfl,hl⟩ | ⟨es0,n,rfl,hl⟩
    ·exact key es (by rw [hl];exact hd) (by simp only [zS,hn];rfl)
    ·have hc:(decide (1<n+1)&&zf R.τ.size R.τ.size&&uni R.τ.size es0)=true:=by
       have:1<n+1:=hlv
       simp only [decide_eq_true this,zf,decide_true,qyL hl,Bool.and_self]
     exact key (qke es0 es) (Jz hl hd) (by simp only [zS,hn,hc];rfl)
 ·cases h
end
end Go.AmZ
namespace Go.AmZ
open Go Go.RowKit Go.GxZ
section
variable {α : Type} {N:Nat × Nat} {m:Mp} {E:Env} {τ : TS} {tm:List AV} {σ : St} {K:KT α} {r : α} {p:Option (AV × Option St)} {c:TC} {C:Cfg}
theorem qvU {m':Mp}:∀ {xs:List TV} {ys:List AV},(xs.all λ | .i .. | .b _ | .s _ | .c _ | .nil | .sl .. => true | _=>false)=true->OKL m xs ys->OKL m' xs ys
 | [],_,_,h=>h
 | x::xs,_,h,⟨y,r,rfl,h1,h2⟩=>by
   rw [List.all_cons,Bool.and_eq_true] at h
   refine ⟨y,r,rfl,?_,qvU h.2 h2⟩
   have h:=h.1
   cases x<;>first | exact h1 | (cases h)
theorem qFm {m':Mp} {x:TV} {y:AV} (h:qys x=true) (ho:OK m x y):OK m' x y:=by
 cases x with
 | fn f cs =>
   have:cs=[]:=by simpa [qys,List.isEmpty_iff] using h
   subst this
   obtain ⟨ds,rfl,hd⟩:=ho
   cases hd
   exact ⟨[],rfl,rfl⟩
 | agg cs =>
   obtain ⟨ds,rfl,hd⟩:=ho
   exact ⟨ds,rfl,qvU h hd⟩
 | _=>first | exact ho | (cases h)
structure qhd (m:Mp) (tm:List AV) (σ : St) (M:Mv) (m':Mp):Prop where
 rw:m'.rw=M.rw
 nb:m'.nb=M.bx.length
 box:∀ b cs,M.bx[b]? = some cs->∃ ds,σ.bx[m'.b b]? = some ds/\OKL m' cs ds
 src:∀ b',b'<m'.nb->∃ b,jp M.mb b=some b'/\m'.b b'=m.b b/\b<m.nb
 mb:∀ b b',jp M.mb b=some b'->b'<m'.nb/\m'.b b'=m.b b
 rows:ja m' σ
 rsrc:∀ id' r,id'<m'.rw.length->m'.r id'=some r->∃ id,jp M.mr id=some id'/\m.r id=some r/\id<m.rw.length
 mr:∀ id id',jp M.mr id=some id'->∃ R R',m.rw[id]? = some R/\m'.rw[id']? = some R'/\R'.ver=0/\(∀ y,Jr (m.r id) (m.v id) R.τ R.l y->Jr (m'.r id') (m'.v id') R'.τ R'.l y)
 env:∀ t,OK m' (get M.E t) (tm.getD t .dead)
theorem qtw {b b' k v:Nat} {l:List (Nat × Nat)} (h:jp ((k,v)::l) b=some b'):(k=b/\v=b')\/(k≠b/\jp l b=some b'):=by
 simp only [jp] at h
 split at h
 ·rename_i hk
  cases h
  exact .inl ⟨Nat.eq_of_beq_eq_true hk,rfl⟩
 ·rename_i hk
  exact .inr ⟨λ he=>by rw [he] at hk;simp at hk,h⟩
theorem qtN {k v:Nat} {l:List (Nat × Nat)}:jp ((k,v)::l) k=some v:=by simp [jp]
theorem qxO {b k v:Nat} {l:List (Nat × Nat)} (h:k≠b):jp ((k,v)::l) b=jp l b:=by
 simp only [jp]
 split
 ·rename_i hk;exact absurd (Nat.eq_of_beq_eq_true hk) h
 ·rfl
theorem qhd.addRow {M:Mv} {m':Mp} (h:qhd m tm σ M m') (R2:qM) (ro:Option Nat) (vo:Nat) (qo:List (List AV)) {mr':List (Nat × Nat)} (h0:R2.ver=0)
  (h1:Jk σ R2 ro vo qo)
  (h2:(mr'=M.mr/\ro=none)\/∃ id R,jp M.mr id=none/\mr'=(id,M.rw.length)::M.mr/\ro=m.r id/\m.rw[id]? = some R/\∀ y,Jr (m.r id) (m.v id) R.τ R.l y->Jr ro vo R2.τ R2.l y) :
  ∃ m'',MLe m' m''/\qhd m tm σ { M with rw:=M.rw++[R2],mr:=mr' } m''/\∀ y,Jr ro vo R2.τ R2.l y->OK m'' (.row M.rw.length 0) y:=by
 have hle:MLe m' (m'.add R2 ro vo qo):=qpH _ _ _ _ _
 have ga:∀ {id:Nat} {R:qM},m'.rw[id]? = some R->(m'.rw++[R2])[id]? = some R/\¬ id=m'.rw.length := λ h=>⟨by rw [List.getElem?_append_left (getElem?_lt h)];exact h,Nat.ne_of_lt (getElem?_lt h)⟩
 refine ⟨m'.add R2 ro vo qo,hle,?_,?_⟩
 ·refine ⟨by show m'.rw++_=M.rw++_;rw [h.rw],h.nb,?_,h.src,h.mb,qm5 h.rows h1 λ _ _ h=>h,?_,?_,λ t=>(h.env t).mono hle⟩
  ·intro b cs hb
   obtain ⟨ds,g1,g2⟩:=h.box b cs hb
   exact ⟨ds,g1,g2.mono hle⟩
  ·intro id' r hlt he
   change id'<(m'.rw++[_]).length at hlt
   change (if id'=m'.rw.length then ro else m'.r id')=some r at he
   simp at hlt
   split at he
   ·rename_i hid
    rcases h2 with ⟨_,hn⟩ | ⟨id,R,g1,g2,g3,g4,_⟩
    ·rw [hn] at he;cases he
    ·refine ⟨id,?_,by rw [<- g3];exact he,getElem?_lt g4⟩
     show jp mr' id=some id'
     rw [g2,qtN,hid,h.rw]
   ·obtain ⟨id,k1,k2,k3⟩:=h.rsrc id' r (by omega) he
    refine ⟨id,?_,k2,k3⟩
    show jp mr' id=some id'
    rcases h2 with ⟨hm,_⟩ | ⟨id0,R,g1,g2,_⟩
    ·rw [hm];exact k1
    ·rw [g2,qxO]
     ·exact k1
     ·intro hee
      subst hee
      rw [g1] at k1;cases k1
  ·intro id id' hid
   change jp mr' id=some id' at hid
   have old:jp M.mr id=some id'->∃ R R',m.rw[id]? = some R/\(m'.rw++[R2])[id']? = some R'/\R'.ver=0/\(∀ y,Jr (m.r id) (m.v id) R.τ R.l y->Jr (if id'=m'.rw.length then ro else m'.r id') (if id'=m'.rw.length then vo else m'.v id') R'.τ R'.l y):=by
    intro hid
    obtain ⟨R0,R',k1,k2,k3,k4⟩:=h.mr id id' hid
    obtain ⟨q1,q2⟩:=ga k2
    exact ⟨R0,R',k1,q1,k3,by rw [if_neg q2,if_neg q2];exact k4⟩
   rcases h2 with ⟨hm,_⟩ | ⟨id0,R,g1,g2,g3,g4,g5⟩
   ·rw [hm] at hid
    exact old hid
   ·rw [g2] at hid
    rcases qtw hid with ⟨rfl,rfl⟩ | ⟨_,hid⟩
    ·refine ⟨R,R2,g4,by show (m'.rw++_)[M.rw.length]? = _;rw [h.rw];simp,h0,?_⟩
     show ∀ y,_->Jr (if M.rw.length=m'.rw.length then ro else m'.r M.rw.length) (if M.rw.length=m'.rw.length then vo else m'.v M.rw.length) _ _ y
     rw [if_pos (by rw [h.rw]),if_pos (by rw [h.rw])];exact g5
    ·exact old hid
 ·intro y hy
  refine ⟨R2,by show (m'.rw++_)[M.rw.length]? = _;rw [h.rw];simp,Nat.zero_le _,hy.ish,λ _=>?_⟩
  show Jr (if M.rw.length=m'.rw.length then ro else m'.r M.rw.length) (if M.rw.length=m'.rw.length then vo else m'.v M.rw.length) _ _ y
  rw [if_pos (by rw [h.rw]),if_pos (by rw [h.rw])];exact hy
theorem qhd.addBox {M:Mv} {m':Mp} (h:qhd m tm σ M m') {b:Nat} (hb:b<m.nb) (hn:jp M.mb b=none) {ys:List TV} {ds:List AV} (hd : σ.bx[m.b b]? = some ds) (ho:OKL m' ys ds) :
  ∃ m'',MLe m' m''/\qhd m tm σ { M with bx:=M.bx++[ys],mb:=(b,M.bx.length)::M.mb } m''/\OK m'' (.ptr M.bx.length 0) (.ptr (m.b b) 0):=by
 have hle:MLe m' { m' with b := λ i=>if i=m'.nb then m.b b else m'.b i,nb:=m'.nb+1 } :=
  ⟨Nat.le_succ _,λ i hi=>if_neg (Nat.ne_of_lt hi),λ id R h=>⟨R,h,Nat.le_refl _,Nat.le_refl _,λ _=>⟨rfl,rfl,rfl,rfl,(λ _=>rfl),λ _ _ h=>h⟩⟩⟩
 refine ⟨_,hle,?_,?_⟩
 ·refine ⟨h.rw,by show m'.nb+1=(M.bx++[ys]).length;rw [h.nb];simp,?_,?_,?_,h.rows,h.rsrc,h.mr,λ t=>(h.env t).mono hle⟩
  ·intro i cs hi
   change (M.bx++[ys])[i]? = some cs at hi
   show ∃ ds,σ.bx[if i=m'.nb then m.b b else m'.b i]? = some ds/\_
   by_cases he:i=m'.nb
   ·rw [if_pos he]
    rw [he,h.nb] at hi
    simp at hi
    subst hi
    exact ⟨ds,hd,ho.mono hle⟩
   ·rw [if_neg he]
    have hlt:i<M.bx.length:=by have:=getElem?_lt hi;simp at this;have:=h.nb;omega
    rw [List.getElem?_append_left hlt] at hi
    obtain ⟨ds',g1,g2⟩:=h.box i cs hi
    exact ⟨ds',g1,g2.mono hle⟩
  ·intro b' hb'
   change b'<m'.nb+1 at hb'
   show ∃ b0,jp ((b,M.bx.length)::M.mb) b0=some b'/\(if b'=m'.nb then m.b b else m'.b b')=m.b b0/\b0<m.nb
   by_cases he:b'=m'.nb
   ·exact ⟨b,by rw [qtN,he,h.nb],if_pos he,hb⟩
   ·obtain ⟨b0,g1,g2,g3⟩:=h.src b' (by omega)
    refine ⟨b0,?_,by rw [if_neg he];exact g2,g3⟩
    rw [qxO]
    ·exact g1
    ·intro hee;subst hee;rw [hn] at g1;cases g1
  ·intro b0 b' hb'
   change jp ((b,M.bx.length)::M.mb) b0=some b' at hb'
   show b'<m'.nb+1/\(if b'=m'.nb then m.b b else m'.b b')=m.b b0
   rcases qtw hb' with ⟨rfl,rfl⟩ | ⟨_,hb'⟩
   ·rw [<- h.nb]
    exact ⟨Nat.lt_succ_self _,if_pos rfl⟩
   ·obtain ⟨g1,g2⟩:=h.mb b0 b' hb'
    exact ⟨by omega,by rw [if_neg (Nat.ne_of_lt g1)];exact g2⟩
 ·refine ⟨?_,?_⟩
  ·show M.bx.length<m'.nb+1
   rw [h.nb];exact Nat.lt_succ_self _
  ·show _=AV.ptr (if M.bx.length=m'.nb then m.b b else m'.b M.bx.length) 0
   rw [if_pos h.nb.symm]
mutual
theorem qEw (hr:Rel N m E τ tm σ):∀ (co:Co) {x:TV} {y:AV} {M:Mv} {m':Mp} {K:TV->Mv->Option α} {r : α},mvT τ co x M K=some r->OK m x y->qhd m tm σ M m' ->
  ∃ x' M' m'',K x' M'=some r/\MLe m' m''/\qhd m tm σ M' m''/\OK m'' x' y/\M'.E=M.E
 | .keep,x,y,M,m',K,r,h,ho,hM=>by
   simp only [mvT] at h
   split at h
   ·rename_i hp
    exact ⟨x,M,m',h,.refl m',hM,qFm hp ho,rfl⟩
   ·exact ⟨.dead,M,m',h,.refl m',hM,trivial,rfl⟩
 | .list a,x,y,M,m',K,r,h,ho,hM=>by
   simp only [mvT] at h
   split at h
   ·cases ho
    exact ⟨_,M,m',h,.refl m',hM,⟨rfl,by decide⟩,rfl⟩
   ·split at h<;>try cases h
    rename_i l hl
    obtain ⟨e,rfl⟩:=jd hl
    subst e
    exact ⟨_,M,m',h,.refl m',hM,⟨ho.1,qk5 ho.1⟩,rfl⟩
   ·exact ⟨.dead,M,m',h,.refl m',hM,trivial,rfl⟩
 | .plist a,x,y,M,m',K,r,h,ho,hM=>by
   simp only [mvT] at h
   split at h
   ·cases ho
    exact ⟨_,M,m',h,.refl m',hM,⟨rfl,by decide⟩,rfl⟩
   ·split at h<;>try cases h
    rename_i l hl
    obtain ⟨e,rfl⟩:=jd hl
    subst e
    exact ⟨_,M,m',h,.refl m',hM,⟨ho.1,qk5 ho.1⟩,rfl⟩
   ·exact ⟨.dead,M,m',h,.refl m',hM,trivial,rfl⟩
 | .row a sh,x,y,M,m',K,r,h,ho,hM=>by
   simp only [mvT] at h
   split at h
   ·cases ho
    obtain ⟨m'',g1,g2,g3⟩:=hM.addRow ⟨a,[],0,0,sh⟩ none 0 [] rfl (λ _=>rfl) (.inl ⟨rfl,rfl⟩)
    exact ⟨_,_,m'',h,g1,g2,g3 _ ⟨rfl,Nat.le_refl _⟩,rfl⟩
   ·rename_i a' l lv
    split at h<;>try cases h
    rename_i l hl hlv
    obtain ⟨e,rfl⟩:=jd hl
    subst e
    have hlv:=of_decide_eq_true hlv
    obtain ⟨ho1,ho2⟩:=ho
    split at h
    ·obtain ⟨m'',g1,g2,g3⟩:=hM.addRow ⟨a',l,0,0,true⟩ none 0 [] rfl (λ h=>by cases h) (.inl ⟨rfl,rfl⟩)
     exact ⟨_,_,m'',h,g1,g2,g3 _ ⟨ho1,by omega⟩,rfl⟩
    ·split at h<;>try cases h
     rename_i hnil
     have hnil:l=[]:=hnil
     subst hnil
     obtain ⟨m'',g1,g2,g3⟩:=hM.addRow ⟨a',[],0,0,false⟩ none 0 [] rfl (λ _=>rfl) (.inl ⟨rfl,rfl⟩)
     exact ⟨_,_,m'',h,g1,g2,g3 _ ⟨ho1,by omega⟩,rfl⟩
   ·rename_i id ver
    split at h<;>try cases h
    rename_i R hR
    split at h<;>try cases h
    rename_i hv
    rw [Bool.and_eq_true] at hv
    have hsh:=hv.2
    have hv:R.ver=ver:=Nat.eq_of_beq_eq_true hv.1
    split at h<;>try cases h
    rename_i l hl
    obtain ⟨e,rfl⟩:=jd hl
    subst e
    obtain ⟨R',k1,_,_,k2⟩:=ho
    rw [hr.rw,hR] at k1;cases k1
    have hy:=k2 hv
    have hR':m.rw[id]? = some R:=by rw [hr.rw];exact hR
    split at h
    ·rename_i id' has
     obtain ⟨R0,R1,z1,z2,z3,z4⟩:=hM.mr id id' has
     rw [hR'] at z1;cases z1
     exact ⟨_,M,m',h,.refl m',hM,⟨R1,z2,Nat.zero_le _,hy.ish,λ _=>z4 y hy⟩,rfl⟩
    ·rename_i has
     have hrow:=hr.rows id R hR'
     have hrow2:Jk σ ⟨R.τ,R.l,0,0,sh⟩ (m.r id) (m.v id) (m.q id):=by
      have hs:sh=false->R.sh=false:=by
       intro h0
       rw [h0] at hsh
       simpa using hsh
      revert hrow
      cases m.r id with
      | none=>intro hrow h0;exact hrow (hs h0)
      | some rr =>
        rintro ⟨Q,q1,q2,q3,q4,q5,q6,q7⟩
        exact ⟨Q,q1,q2,q3,q4,q5,q6,λ h0=>q7 (hs h0)⟩
     obtain ⟨m'',g1,g2,g3⟩:=hM.addRow ⟨R.τ,R.l,0,0,sh⟩ (m.r id) (m.v id) (m.q id) rfl hrow2 (.inr ⟨id,R,has,rfl,rfl,hR',λ _ h=>h⟩)
     exact ⟨_,_,m'',h,g1,g2,g3 y hy,rfl⟩
   ·cases h
 | .fn cs,x,y,M,m',K,r,h,ho,hM=>by
   cases x with
   | fn f xs =>
     simp only [mvT] at h
     obtain ⟨ds,rfl,hd⟩:=ho
     obtain ⟨ys,M1,m1,q1,q2,q3,q4,q5⟩:=qz6 hr cs h hd hM
     exact ⟨_,M1,m1,q1,q2,q3,⟨_,rfl,q4⟩,q5⟩
   | _=>simp only [mvT] at h;cases h
 | .box cs,x,y,M,m',K,r,h,ho,hM=>by
   simp only [mvT] at h
   split at h
   case h_2=>cases h
   rename_i b
   obtain ⟨hb,rfl⟩:=ho
   split at h
   ·rename_i b' has
    obtain ⟨g1,g2⟩:=hM.mb b b' has
    exact ⟨_,M,m',h,.refl m',hM,⟨g1,by rw [g2]⟩,rfl⟩
   ·split at h<;>try cases h
    rename_i xs hxs
    obtain ⟨ds,k1,k2⟩:=hr.box b xs hxs
    obtain ⟨ys,M',m'',q1,q2,q3,q4,q5⟩:=qz6 hr cs h k2 hM
    split at q1
    case h_2=>cases q1
    rename_i has
    obtain ⟨m3,z1,z2,z3⟩:=q3.addBox hb has k1 q4
    exact ⟨_,_,m3,q1,q2.trans z1,z2,z3,q5⟩
theorem qz6 (hr:Rel N m E τ tm σ):∀ (cs:List Co) {xs:List TV} {ys:List AV} {M:Mv} {m':Mp} {K:List TV->Mv->Option α} {r : α},mvL τ cs xs M K=some r->OKL m xs ys->qhd m tm σ M m' ->
  ∃ xs' M' m'',K xs' M'=some r/\MLe m' m''/\qhd m tm σ M' m''/\OKL m'' xs' ys/\M'.E=M.E
 | [],xs,ys,M,m',K,r,h,ho,hM=>by
   cases xs with
   | nil=>simp only [mvL] at h;cases ho;exact ⟨[],M,m',h,.refl m',hM,rfl,rfl⟩
   | cons x xs=>simp only [mvL] at h;cases h
 | co::cs,xs,ys,M,m',K,r,h,ho,hM=>by
   cases xs with
   | nil=>simp only [mvL] at h;cases h
   | cons x xs =>
     simp only [mvL] at h
     obtain ⟨y,rr,rfl,h1,h2⟩:=ho
     obtain ⟨x',M1,m1,q1,q2,q3,q4,q5⟩:=qEw hr co h h1 hM
     obtain ⟨xs',M2,m2,z1,z2,z3,z4,z5⟩:=qz6 hr cs q1 h2 q3
     exact ⟨x'::xs',M2,m2,z1,q2.trans z2,z3,⟨y,rr,rfl,q4.mono z2,z4⟩,z5.trans q5⟩
end
theorem qH5 {E:Env} {t:Nat} {x:TV} {s:Nat} {y:AV} {m':Mp} (h1:OK m' (get E s) y) (h2:t=s->OK m' x y):OK m' (get (E++[(t,x)]) s) y:=by
 induction E with
 | nil =>
   simp only [List.nil_append,get]
   split
   ·rename_i hk;exact h2 (Nat.eq_of_beq_eq_true hk)
   ·trivial
 | cons q E ih =>
   simp only [List.cons_append,get] at h1 |-
   split
   ·rename_i hk;rw [hk] at h1;exact h1
   ·rename_i hk;rw [hk] at h1;exact ih h1
theorem qBc {mb:List (Nat × Nat)}:∀ {n:Nat},qxU mb n=true->∀ i,i<n->jp mb i=some i
 | 0,_,i,hi=>absurd hi (Nat.not_lt_zero _)
 | n+1,h,i,hi=>by
   rw [qxU,Bool.and_eq_true] at h
   by_cases he:i=n
   ·subst he
    have h:=h.1
    split at h
    ·rename_i j hj
     rw [hj,<- Nat.eq_of_beq_eq_true h]
    ·cases h
   ·exact qBc h.2 i (by omega)
theorem qhd.rel (hr:Rel N m E τ tm σ) {M:Mv} {m':Mp} (h:qhd m tm σ M m') (hp:qxU M.mb N.2=true):Rel N m' M.E ⟨M.bx,M.rw⟩ tm σ := by
 refine ⟨hr.len,h.env,h.rw,h.nb,h.box,?_,h.rows,?_,λ i hi=>?_⟩
 rotate_right
 ·have has:=qBc hp i hi
  obtain ⟨g1,g2⟩:=h.mb i i has
  exact ⟨g1,g2.trans (hr.pin i hi).2⟩
 ·intro b1 b2 h1 h2 he
  obtain ⟨c1,g1,g2,g3⟩:=h.src b1 h1
  obtain ⟨c2,k1,k2,k3⟩:=h.src b2 h2
  have:c1=c2:=hr.inj c1 c2 g3 k3 (by rw [<- g2,<- k2,he])
  subst this
  rw [g1] at k1
  exact Option.some.inj k1
 ·intro i1 i2 r h1 h2 e1 e2
  obtain ⟨c1,g1,g2,g3⟩:=h.rsrc i1 r h1 e1
  obtain ⟨c2,k1,k2,k3⟩:=h.rsrc i2 r h2 e2
  have:c1=c2:=hr.rinj c1 c2 r g3 k3 g2 k2
  subst this
  rw [g1] at k1
  exact Option.some.inj k1
theorem qD2 (hr:Rel N m E τ tm σ):∀ (l:List (Tmp × Co)) {M:Mv} {m':Mp} {K:Env->TS->Option α} {r : α},mvE N.2 τ E l M K=some r->qhd m tm σ M m' ->
  ∃ E' τ' m'',K E' τ'=some r/\Rel N m'' E' τ' tm σ
 | [],M,m',K,r,h,hM=>by
   simp only [mvE] at h
   split at h<;>try cases h
   rename_i hp
   exact ⟨_,_,m',h,hM.rel hr hp⟩
 | (t,co)::l,M,m',K,r,h,hM=>by
   simp only [mvE] at h
   obtain ⟨x',M1,m1,q1,q2,q3,q4,q5⟩:=qEw hr co h (hr.env t) hM
   refine qD2 hr l q1 (m':=m1) ?_
   refine ⟨q3.rw,q3.nb,q3.box,q3.src,q3.mb,q3.rows,q3.rsrc,q3.mr,λ s=>?_⟩
   exact qH5 (q3.env s) λ he=>by subst he;exact q4
theorem qCl (hr:Rel N m E τ tm σ) {l:List (Tmp × Co)} {K:Env->TS->Option α} {r : α} (h:mvE N.2 τ E l ⟨[],[],[],[],[]⟩ K=some r):∃ E' τ' m'',K E' τ'=some r/\Rel N m'' E' τ' tm σ :=
 qD2 hr l (m':=mp0) h
  ⟨rfl,rfl,λ b cs h=>by simp at h,λ b' h=>absurd h (Nat.not_lt_zero _),λ b b' h=>by simp [jp] at h,λ id R h=>(by cases h),λ id r h=>absurd h (Nat.not_lt_zero _),λ id id' h=>by simp [jp] at h,λ t=>trivial⟩
end
end Go.AmZ
namespace Go.AmZ
open Go Go.RowKit Go.GxZ
section
variable {α : Type} {N:Nat × Nat} {m:Mp} {E:Env} {τ : TS} {tm:List AV} {σ : St} {K:KT α} {r : α} {p:Option (AV × Option St)} {c:TC} {C:Cfg}
theorem qAH {b:Builtin} {ts:Array TypeId} {xs:List TV} {ys:List AV} (hty:C.ty=c.ty) (hr:Rel N m E τ tm σ) (ho:OKL m xs ys) (h:qrn c τ b ts xs K=some r):Sim N m E τ tm σ K r (yS C σ b ts ys):=by
 unfold qrn at h
 split at h
 ·rename_i x
  obtain ⟨y,r',rfl,h1,h2⟩:=ho
  cases h2
  split at h<;>try cases h
  rename_i t ht
  split at h<;>try cases h
  rename_i d hd
  split at h<;>try cases h
  ·rename_i s hk
   cases h1
   refine .same hr h (y := .v (.int .i64 s.length)) ?_ rfl
   have:qnE ⟨s.toArray⟩=s.length:=by simp [qnE,ByteArray.size]
   simp only [yS,ht,hty,hd,qhv,hk,qkh,this]
  ·rename_i hk
   cases h1
   refine .same hr h (y := .v (.int .i64 0)) ?_ rfl
   simp only [yS,ht,hty,hd,qhv,hk,qaZ]
   rfl
  ·rename_i a l lv hk
   refine .same hr h (y := .v (.int .i64 l.length)) ?_ rfl
   rcases jc h1.1 with ⟨rfl,hl⟩ | ⟨es,n,rfl,hl⟩
   ·rw [hl]
    simp only [yS,ht,hty,hd,qhv,hk,qaZ]
    rfl
   ·have:=qQ hl
    simp only [yS,ht,hty,hd,qhv,hk,qaZ,qaD,this]
  ·rename_i id ver hk
   split at h<;>try cases h
   rename_i R hR
   split at h<;>try cases h
   rename_i hv
   obtain ⟨R',g1,_,_,g2⟩:=h1
   rw [hr.rw,hR] at g1;cases g1
   have hy:=g2 (Nat.eq_of_beq_eq_true hv)
   refine .same hr h (y := .v (.int .i64 R.l.length)) ?_ rfl
   rcases qhf hr.rows (by rw [hr.rw];exact hR) hy with ⟨r,Q,_,rfl,_,_,_,_,g5,_⟩ | ⟨_,_,hd',_⟩
   ·simp only [yS,ht,hty,hd,qhv,hk,qaZ]
    rw [qQ g5]
   ·rcases jc hd' with ⟨rfl,hl⟩ | ⟨es,n,rfl,hl⟩
    ·rw [hl]
     simp only [yS,ht,hty,hd,qhv,hk,qaZ]
     rfl
    ·have:=qQ hl
     simp only [yS,ht,hty,hd,qhv,hk,qaZ,qaD,this]
 ·rename_i s x
  obtain ⟨y,r1,rfl,h1,z,r2,rfl,h2,h3⟩:=ho
  cases h3
  split at h<;>try cases h
  rename_i t u ht hu
  split at h<;>try (cases h;done)
  ·rename_i k bytes zz _ _ _ _ _ _ _ _ a hd1 hd2 he
   split at h<;>try cases h
   rename_i hc
   simp only [Bool.and_eq_true,decide_eq_true_eq] at hc
   obtain ⟨⟨hk0,hz⟩,hk⟩:=hc
   split at h<;>try cases h
   rename_i xs hxs
   rw [<- hr.rw] at hxs
   obtain ⟨es,g1,g2,_⟩:=ql8 hr.rows hxs h2
   have:=qBX (bytes:=bytes) hr h1 g2 (by rw [<- hk];exact h)
   rw [<- hk] at g1 this
   have hu':uni k es=true:=by rw [hk];exact qyL g2
   have e:yS C σ .append ts [y,z]=zS k bytes σ y es:=by
    simp only [yS,ht,hu,hty,hd1,hd2,hk0,hz,decide_true,Bool.and_self,g1,hu']
   rw [e];exact this
  ·rename_i by' _ _ _ _ _ hd1 hd2 he
   split at h<;>try (cases h;done)
   rename_i s' hc
   cases h2
   have:=qBX (a := .int .u8) (σ := σ) (y:=y) (es:=qbj ⟨s'.toArray⟩) (xs:=Q9 s') hr h1 (qv7 s') h
   have e:yS C σ .append ts [y,.v (.string ⟨s'.toArray⟩)]=zS 1 by' σ y (qbj ⟨s'.toArray⟩):=by
    simp only [yS,ht,hu,hty,hd1,hd2,hc]
   rw [e];exact this
 ·obtain ⟨y,r1,rfl,h1,z,r2,rfl,h2,h3⟩:=ho
  cases h3;cases h1;cases h2
  split at h<;>try cases h
  rename_i hk
  exact .same hr h (by simp only [yS,hk]) rfl
 ·obtain ⟨y,r1,rfl,h1,z,r2,rfl,h2,h3⟩:=ho
  cases h3;cases h1;cases h2
  split at h<;>try cases h
  rename_i hk
  exact .same hr h (by simp only [yS,hk]) rfl
 ·cases h
theorem qJV {op:Op} (hr:Rel N m E τ tm σ) (h:opT c E τ op K=some r):Sim N m E τ tm σ K r (qiD c.pc tm σ op):=by
 unfold opT at h
 split at h
 ·exact qAH (C:=c.pc.cfg) rfl hr (hr.evs _) h
 ·rename_i g args ts
  split at h<;>try cases h
  ·rename_i f hg
   have hv:=hr.ev g
   rw [hg] at hv
   obtain ⟨ds,hv,hd⟩:=hv
   cases hd
   have:=qFE hr (hr.evs args.toList) h
   have e:qiD c.pc tm σ (.call ⟨.value g,args,ts⟩)=qa6 c.pc f σ (args.toList.map (aev tm)):=by
    simp only [qiD,hv,List.append_nil]
   rw [e];exact this
  ·rename_i f x cs hg
   have hv:=hr.ev g
   rw [hg] at hv
   obtain ⟨ds,hv,hd⟩:=hv
   split at h<;>try cases h
   rename_i hh
   have:=qvG hr ((hr.evs args.toList).append hd) hh h
   have e:qiD c.pc tm σ (.call ⟨.value g,args,ts⟩)=qa6 c.pc f σ (args.toList.map (aev tm)++ds):=by
    simp only [qiD,hv]
   rw [e];exact this
 ·cases h
 ·rename_i n1 n2 n3
  have:=qHj (C:=c.pc.cfg) rfl hr h
  have e:qiD c.pc tm σ op=qb c.pc.cfg tm σ op:=by
   unfold qiD
   split
   ·exact absurd rfl (n1 _ _ _)
   ·exact absurd rfl (n2 _ _ _)
   ·exact absurd rfl (n3 _)
   ·rfl
  rw [e];exact this
theorem Rel.put (hr:Rel c.n2 m E τ tm σ) {d:Option Tmp} {x:TV} {y:AV} (ho:OK m x y) {K:Env->Option α} (h:qyD c E d x K=some r):∃ E',K E'=some r/\Rel c.n2 m E' τ (qbv tm d y) σ := by
 unfold qyD at h
 split at h
 ·exact ⟨E,h,hr⟩
 ·rename_i d
  split at h<;>try cases h
  rename_i hd
  have hd:d<c.nt:=Nat.lt_of_succ_le (by simpa [Nat.blt] using hd)
  refine ⟨_,h,?_⟩
  refine ⟨by show (tm.set d y).length=_;rw [List.length_set];exact hr.len,λ t=>?_,hr.rw,hr.nb,hr.box,hr.inj,hr.rows,hr.rinj,hr.pin⟩
  show OK m (get ((d,x)::E) t) ((tm.set d y).getD t .dead)
  have hdl:d<tm.length:=by rw [hr.len];exact hd
  simp only [get]
  split
  ·rename_i hk
   have hk:d=t:=Nat.eq_of_beq_eq_true hk
   subst hk
   rw [List.getD_eq_getElem?_getD,List.getElem?_set_self hdl]
   exact ho
  ·rename_i hk
   have hk:d≠t := λ he=>by rw [he] at hk;simp at hk
   have:=hr.env t
   rw [List.getD_eq_getElem?_getD,List.getElem?_set_ne hk,<- List.getD_eq_getElem?_getD]
   exact this
theorem Rel.know (hr:Rel N m E τ tm σ) {d:Nat} {x:TV} (h:OK m x (tm.getD d .dead)):Rel N m ((d,x)::E) τ tm σ := by
 refine ⟨hr.len,λ t=>?_,hr.rw,hr.nb,hr.box,hr.inj,hr.rows,hr.rinj,hr.pin⟩
 simp only [get]
 split
 ·rename_i hk
  have hk:d=t:=Nat.eq_of_beq_eq_true hk
  subst hk;exact h
 ·exact hr.env t
theorem qGu {ops:Array Oper} {o:Oper} {K:Bool->Env->Option α} (hr:Rel N m E τ tm σ) (h:qDh ops E o K=some r):∃ w E',yk ops tm o=some w/\K w E'=some r/\Rel N m E' τ tm σ := by
 unfold qDh at h
 unfold yk
 split at h
 ·rename_i hg
  exact ⟨true,E,by rw [hg],h,hr⟩
 ·rename_i j want hg
  rw [hg]
  simp only
  split at h<;>try cases h
  rename_i d hd
  rw [hd]
  simp only
  have hx:=hr.env d
  split at h<;>try cases h
  ·rename_i x hgx
   rw [hgx] at hx
   have hx:tm.getD d .dead = .v (.bool x):=hx
   rw [hx]
   cases want with
   | true =>
     cases x with
     | true=>exact ⟨true,_,rfl,h,hr.know hx⟩
     | false=>exact ⟨false,_,rfl,h,hr.know hx⟩
   | false =>
     cases x with
     | true=>exact ⟨false,_,rfl,h,hr.know hx⟩
     | false=>exact ⟨true,_,rfl,h,hr.know hx⟩
  ·rename_i hgx
   rw [hgx] at hx
   obtain ⟨ds,hx,hd⟩:=hx
   cases hd
   rw [hx]
   exact ⟨false,E,rfl,h,hr⟩
theorem qjp (hr:Rel N m E τ tm σ) {ops:Array Oper} {k:Nat} {t:Tmp} {b:Nat} (h:qmX E ops k t=some b):b<m.nb/\yR tm ops k t=some (m.b b):=by
 unfold qmX at h
 unfold yR
 split at h<;>try cases h
 rename_i u hu
 split at h<;>cases h
 rename_i o hg
 have:=hr.env u
 rw [hg] at this
 obtain ⟨h1,h2⟩:=this
 rw [hu]
 simp only
 rw [h2]
 exact ⟨h1,rfl⟩
theorem qGr (hr:Rel N m E τ tm σ) {ops:Array Oper} {k:Nat} {t:Tmp} (h:qHb E ops k t=true):qdG tm ops k t=true/\yR tm ops k t=none:=by
 unfold qHb at h
 unfold qdG yR
 split at h<;>try cases h
 rename_i u hu
 split at h<;>try cases h
 rename_i hg
 have:=hr.env u
 rw [hg] at this
 obtain ⟨R,_,_,_,hy,_⟩:=this
 rw [hu]
 rcases hy with ⟨r,j,ep,hy⟩ | ⟨ds,hy⟩<;>simp only [hy]<;>exact ⟨rfl,by trivial⟩
mutual
theorem qJp:∀ {x:TV} {y:AV} {l:List Nat},OK m x y->rbT x=some l->rb y=l.map m.b
 | .i ..,y,l,ho,h=>by cases h;cases ho;rfl
 | .b ..,y,l,ho,h=>by cases h;cases ho;rfl
 | .s ..,y,l,ho,h=>by cases h;cases ho;rfl
 | .c ..,y,l,ho,h=>by cases h;obtain ⟨_,rfl⟩:=ho;rfl
 | .nil,y,l,ho,h=>by cases h;cases ho;rfl
 | .sl ..,y,l,ho,h=>by cases h;rcases jc ho.1 with ⟨rfl,_⟩ | ⟨es,n,rfl,_⟩<;>rfl
 | .row ..,y,l,ho,h=>by
   cases h
   obtain ⟨R,_,_,ho,_⟩:=ho
   rcases ho with rfl | ⟨k,es,j,rfl⟩ | ⟨r,lo,n,ep,f,rfl⟩<;>rfl
 | .ptr b o,y,l,ho,h=>by cases h;obtain ⟨_,rfl⟩:=ho;rfl
 | .rpt ..,y,l,ho,h=>by cases h;obtain ⟨R,_,_,_,ho,_⟩:=ho;rcases ho with ⟨r,i,ep,rfl⟩ | ⟨ds,rfl⟩<;>rfl
 | .ept ..,y,l,ho,h=>by cases h;obtain ⟨ds,rfl,_⟩:=ho;rfl
 | .fn f cs,y,l,ho,h=>by obtain ⟨ds,rfl,hd⟩:=ho;exact qjo hd h
 | .agg cs,y,l,ho,h=>by obtain ⟨ds,rfl,hd⟩:=ho;exact qjo hd h
 | .tup cs,y,l,ho,h=>by obtain ⟨ds,rfl,hd⟩:=ho;exact qjo hd h
 | .dead,y,l,ho,h=>by cases h
theorem qjo:∀ {xs:List TV} {ys:List AV} {l:List Nat},OKL m xs ys->qpp xs=some l->rbL ys=l.map m.b
 | [],ys,l,ho,h=>by cases h;cases ho;rfl
 | x::xs,ys,l,⟨y,r,e,h1,h2⟩,h=>by
   subst e
   simp only [qpp] at h
   split at h<;>cases h
   rename_i a b ha hb
   rw [rbL,qJp h1 ha,qjo h2 hb,List.map_append]
end
theorem qBV (rw:List Row) (x:AV):rb (zm rw x)=rb x:=by
 cases x<;>first | rfl | skip
 rename_i r lo n ep f
 simp only [zm]
 split
 ·split<;>rfl
 ·rfl
theorem qzQ (rw:List Row):∀ l:List AV,rbL (l.map (zm rw))=rbL l
 | []=>rfl
 | x::l=>by rw [List.map_cons,rbL,rbL,qBV,qzQ rw l]
theorem qIB (rw:List Row) (x:AV):rb (jR rw x)=rb x:=by
 unfold jR
 split
 ·exact qzQ rw _
 ·exact qBV rw x
theorem qjI (rw:List Row):∀ l:List AV,rbL (l.map (jR rw))=rbL l
 | []=>rfl
 | x::l=>by rw [List.map_cons,rbL,rbL,qIB,qjI rw l]
theorem qj2:∀ {l seen:List Nat} {b:Nat},b∈qd seen l->b∈l
 | [],_,b,h=>by cases h
 | c::l,seen,b,h=>by
   rw [qd] at h
   split at h
   ·exact List.mem_cons_of_mem _ (qj2 h)
   ·rcases List.mem_cons.1 h with rfl | h
    ·exact List.mem_cons_self ..
    ·exact List.mem_cons_of_mem _ (qj2 h)
theorem qrH {args:List AV} (h:∀ b∈rbL args,rbL (σ.bx.getD b [])=[]) {b:Nat} (hb:b∈QU σ args):b∈rbL args:=by
 have hf:(qd [] (rbL args)).flatMap (λ b=>rbL (σ.bx.getD b []))=[]:=List.flatMap_eq_nil_iff.2 λ c hc=>h c (qj2 hc)
 unfold QU at hb
 cases hn : σ.bx.length with
 | zero=>rw [hn] at hb;exact qj2 hb
 | succ n=>rw [hn,qlV,hf] at hb;exact qj2 hb
theorem qDO (hr:Rel c.n2 m E τ tm σ) {ops:Array Oper} {j:Nat} {op:Op} (h:qtn ops j E τ op=true):qcc c.pc.cfg ops j tm σ op=true:=by
 unfold qtn at h
 unfold qcc
 rw [Bool.or_eq_true] at h |-
 refine h.imp id λ h=>?_
 rw [List.all_eq_true] at h |-
 intro p hp
 have:=h p hp
 obtain ⟨q,i⟩:=p
 simp only at this |-
 split
 ·rename_i t a hq
  rw [hq] at this
  simp only [Bool.or_eq_true] at this |-
  refine this.imp id λ hh=>?_
  split at hh
  ·rename_i y l hy hl
   rw [Bool.and_eq_true,List.all_eq_true] at hh
   obtain ⟨hym,hy'⟩:=qjp hr hy
   rw [hy']
   have hylt:m.b y < σ.bx.length:=by
    obtain ⟨ds,d1,_⟩:=hr.box y _ (List.getElem?_eq_getElem (by rw [<- hr.nb];exact hym))
    exact getElem?_lt d1
   simp only [Bool.and_eq_true,decide_eq_true_eq,Bool.not_eq_true']
   refine ⟨hylt,?_⟩
   rw [<- Bool.not_eq_true,List.contains_iff_mem]
   intro hm
   unfold qFf at hl
   split at hl<;>try cases hl
   rename_i g az ts _
   split at hl<;>try cases hl
   rename_i f cs hg
   split at hl<;>try cases hl
   rename_i l' hl'
   split at hl<;>cases hl
   rename_i hall
   rw [List.all_eq_true] at hall
   have hfn:=hr.ev g
   rw [hg] at hfn
   obtain ⟨caps,hfn,hcaps⟩:=hfn
   have hrb:=qjo ((hr.evs az.toList).append hcaps) hl'
   have hcell:∀ b∈rbL (az.toList.map (aev tm)++caps),rbL (σ.bx.getD b [])=[]:=by
    intro b hb
    rw [hrb] at hb
    obtain ⟨b0,hb0,rfl⟩:=List.mem_map.1 hb
    have:=hall b0 hb0
    unfold qFK at this
    split at this<;>try cases this
    rename_i cs' hcs
    split at this<;>try cases this
    rename_i hnil
    obtain ⟨ds,d1,d2⟩:=hr.box b0 cs' hcs
    rw [zO d1,qjo d2 hnil];rfl
   have hmem:m.b y∈rbL (az.toList.map (aev tm)++caps):=by
    simp only [qso,qjz,hfn] at hm
    split at hm
    ·rename_i args he
     unfold qhS at he
     split at he
     ·cases he;exact qrH hcell hm
     ·split at he<;>cases he
      have:=qrH (λ b hb=>by rw [qjI] at hb;exact hcell b hb) hm
      rw [qjI] at this
      exact this
    ·rename_i args σ1 he
     unfold qhS at he
     split at he
     ·cases he
     ·split at he<;>cases he
      have:=qrH (λ b hb=>by rw [qjI] at hb;exact hcell b hb) hm
      rw [qjI] at this
      exact this
   rw [hrb] at hmem
   obtain ⟨b0,hb0,he⟩:=List.mem_map.1 hmem
   have hne:=hh.2 b0 hb0
   have hb0m:b0<m.nb:=by
    have:=hall b0 hb0
    unfold qFK at this
    split at this<;>try cases this
    rename_i cs' hcs
    rw [hr.nb];exact getElem?_lt hcs
   have:=hr.inj b0 y hb0m hym he
   subst this
   simp at hne
  ·cases hh
 ·rfl
theorem qFH (hr:Rel c.n2 m E τ tm σ) {ops:Array Oper} {draw:Bool} {j:Nat} {op:Op} (h:(draw && !(zZ c.loT op&&qtn ops j E τ op))=false):(draw && !(zZ c.pc.cfg.lo op&&qcc c.pc.cfg ops j tm σ op))=false:=by
 cases draw with
 | false=>rfl
 | true =>
   rw [Bool.true_and,Bool.not_eq_false',Bool.and_eq_true] at h |-
   exact ⟨by rw [TC.lo_eq];exact h.1,qDO hr h.2⟩
variable {Q:Ex->S->Prop} {k:List It}
theorem qc1 {ops:Array Oper} {draw:Bool}:∀ {l:List Oper} {m:Mp} {E:Env} {τ : TS} {tm:List AV} {σ : St} {Kf:Env->TS->Option α},qj9 c ops draw l E τ Kf=some r->Rel c.n2 m E τ tm σ ->
  (∀ m E τ tm σ,Kf E τ = some r->Rel c.n2 m E τ tm σ -> Go c.pc Q k .normal ⟨tm,σ⟩)->Go c.pc Q (.ops ops draw l::k) .normal ⟨tm,σ⟩
 | [],m,E,τ,tm,σ,Kf,h,hr,hK=>by
   rw [qCo]
   exact hK m E τ tm σ h hr
 | o::rest,m,E,τ,tm,σ,Kf,h,hr,hK=>by
   simp only [qj9] at h
   rw [qJU]
   obtain ⟨w,E',hw,h,hr⟩:=qGu hr h
   rw [hw]
   cases w with
   | true =>
     rw [qDY]
     simp only at h
     have hr0:=hr
     obtain ⟨x,τ',y,σ',m',h,hp,hle,hr',ho,hs⟩:=qJV hr h
     rw [hp]
     cases τ' with
     | none =>
       rw [hs rfl] at hr' |-
       rw [qBq]
       obtain ⟨E2,h,hr2⟩:=hr'.put ho h
       exact qc1 h hr2 hK
     | some τ' =>
       simp only at h
       split at h<;>try cases h
       rename_i hd
       obtain ⟨E2,h,hr2⟩:=Rel.put (τ := τ') hr' ho h
       cases σ' with
       | none =>
         rw [qBq]
         exact qc1 h hr2 hK
       | some σ' =>
         rw [qH0]
         exact ⟨qFH hr0 hd,qc1 h hr2 hK⟩
   | false =>
     rw [qC9]
     simp only at h
     obtain ⟨E2,h,hr2⟩:=hr.put (x := .tup []) (y:=qjB) ⟨[],rfl,rfl⟩ h
     exact qc1 h hr2 hK
variable {fin:Env->TS->Option α} {L:List It->Env->TS->Option α} {Qr : α -> Ex->S->Prop}
def qxu (c:TC) (fin:Env->TS->Option α) (Qr : α -> Ex->S->Prop):Prop:=∀ E τ r m tm σ,fin E τ = some r->Rel c.n2 m E τ tm σ -> ∀ e,e = .ret\/e = .normal->Qr r e ⟨tm,σ⟩
def LOK (c:TC) (L:List It->Env->TS->Option α) (Qr : α -> Ex->S->Prop):Prop:=∀ st E τ r m tm σ,L st E τ = some r->Rel c.n2 m E τ tm σ -> Go c.pc (Qr r) st .normal ⟨tm,σ⟩
theorem qtH (hr:Rel N m E τ tm σ) {ops:Array Oper} {j i:Nat} {o q:Oper} (h:qpX E ops j o i q=true):qh0 tm ops j o i q=true:=by
 unfold qpX at h
 unfold qh0
 split at h
 case h_4=>cases h
 case h_3 =>
  rename_i h1 h2
  simp only [h1,h2]
  cases hb:qmX E ops i _ with
  | none=>rw [hb] at h;cases h
  | some b=>rw [(qjp hr hb).2];rfl
 case h_2 =>
  rename_i h1 h2
  simp only [h1,h2]
  cases hb:qmX E ops i _ with
  | none=>rw [hb] at h;cases h
  | some b=>rw [(qjp hr hb).2];rfl
 rename_i h1 h2
 split at h
 case h_3=>cases h
 case h_2 =>
  rename_i x hx _
  obtain ⟨a1,a2⟩:=qjp hr hx
  obtain ⟨b1,b2⟩:=qGr hr h
  simp only [h1,h2,a2,b2]
  exact b1
 rename_i x y hx hy
 obtain ⟨a1,a2⟩:=qjp hr hx
 obtain ⟨b1,b2⟩:=qjp hr hy
 simp only [h1,h2,a2,b2]
 have hne:x≠y := λ he=>by rw [he] at h;simp at h
 have:m.b x≠m.b y := λ he=>hne (hr.inj x y a1 b1 he)
 have hb:Nat.beq (m.b x) (m.b y)=false:=by
  cases hb:Nat.beq (m.b x) (m.b y) with
  | true=>exact absurd (Nat.eq_of_beq_eq_true hb) this
  | false=>rfl
 rw [hb];rfl
theorem qnm (hr:Rel N m E τ tm σ) {ops:Array Oper} {d:Bool} {raw:Nat->Bool} (h:qpR raw E ops d=true):qbh raw tm ops d=true:=by
 cases d with
 | false=>rfl
 | true =>
   show qbe raw tm ops=true
   simp only [qpR,List.all_eq_true,Bool.and_eq_true,decide_eq_true_eq,Bool.or_eq_true,Bool.not_eq_true'] at h
   simp only [qbe,List.all_eq_true,Bool.and_eq_true,decide_eq_true_eq,Bool.or_eq_true,Bool.not_eq_true']
   intro p hp
   obtain ⟨g1,g2⟩:=h p hp
   refine ⟨g1,λ q hq=>?_⟩
   rcases g2 q hq with (g | g) | g
   ·exact .inl (.inl g)
   ·refine .inl (.inr ?_)
    unfold qHJ at g
    unfold qis
    rw [Bool.or_eq_false_iff] at g |-
    refine ⟨g.1,?_⟩
    rw [Bool.and_eq_false_iff] at *
    rcases g.2 with g | g
    ·exact .inl g
    ·right
     simp only [Bool.not_eq_false',Bool.or_eq_true] at g
     unfold qh4
     simp only [Bool.not_eq_false',Bool.or_eq_true]
     exact g.imp (qtH hr) (qtH hr)
   ·exact .inr g
theorem qIQ (hr:Rel N m E τ tm σ) {t:Nat} (h:qI8 (get E t)=true):qxY (tm.getD t .dead)=true:=by
 have ho:=hr.env t
 cases hx:get E t<;>rw [hx] at h ho<;>first | (cases h;done) | skip
 rw [show tm.getD t .dead=_ from ho.2];rfl
theorem qBs (hr:Rel N m E τ tm σ) {x:Operand} {b:Bool} (h:evT E x = .b b) {b':Bool} (hb:b=b'):Rel N m (qCE E x b') τ tm σ := by
 subst hb
 unfold qCE
 split
 ·rename_i t
  refine hr.know ?_
  have:=hr.env t
  have h:get E t = .b b:=h
  rw [h] at this;exact this
 ·exact hr
theorem qB5 (hr:Rel N m E τ tm σ) (t:Nat) {x':TV} (hx:rsA (tm.getD t .dead)=[]->OK (shM m) x' (tm.getD t .dead)) (hp:rsA (tm.getD t .dead)≠[]->OK (shM m) x' (jR σ.rw (tm.getD t .dead))) :
  Rel N (shM m) ((t,x')::E) (shA τ) (qb9 ⟨tm,σ⟩ t).tm (qb9 ⟨tm,σ⟩ t).σ := by
 unfold qb9
 cases hrs:rsA (tm.getD t .dead) with
 | nil =>
   simp only [hrs]
   exact (hr.share rfl hr.rows.sh).know (hx hrs)
 | cons q l =>
   simp only [hrs]
   have hp:=hp (by rw [hrs];intro h;cases h)
   have h1:=hr.share (σ':={ σ with rw:=frz σ.rw (q::l),wrr:=(q::l) ++ σ.wrr }) rfl (hr.rows.frz _ _)
   have hlt:t<tm.length:=by
    apply Nat.lt_of_not_le
    intro hle
    rw [List.getD_eq_getElem?_getD,List.getElem?_eq_none hle] at hrs
    cases hrs
   refine ⟨by rw [List.length_set];exact h1.len,λ u=>?_,h1.rw,h1.nb,h1.box,h1.inj,h1.rows,h1.rinj,h1.pin⟩
   simp only [get]
   split
   ·rename_i hk
    have hk:t=u:=Nat.eq_of_beq_eq_true hk
    subst hk
    rw [List.getD_eq_getElem?_getD,List.getElem?_set_self hlt]
    exact hp
   ·rename_i hk
    have hk:t≠u := λ he=>by rw [he] at hk;simp at hk
    rw [List.getD_eq_getElem?_getD,List.getElem?_set_ne hk,<- List.getD_eq_getElem?_getD]
    exact h1.env u
theorem qDR {t:Nat} (h:rsA (tm.getD t .dead)=[]):qb9 ⟨tm,σ⟩ t=⟨tm,σ⟩:=by
 unfold qb9
 simp only [h]
theorem qG1 (hr:Rel N m E τ tm σ) {t:Nat} {a:Ty} {K:Env->TS->Option α} (h:qB8 E τ t a K=some r) :
  ∃ E' τ' m',K E' τ'=some r/\Rel N m' E' τ' (qb9 ⟨tm,σ⟩ t).tm (qb9 ⟨tm,σ⟩ t).σ := by
 have ho:=hr.env t
 unfold qB8 at h
 have same:rsA (tm.getD t .dead)=[]->K E τ = some r->∃ E' τ' m',K E' τ'=some r/\Rel N m' E' τ' (qb9 ⟨tm,σ⟩ t).tm (qb9 ⟨tm,σ⟩ t).σ := λ h1 h2=>by
  rw [qDR h1]
  exact ⟨E,τ,m,h2,hr⟩
 split at h
 ·rename_i he
  rw [he] at ho
  exact same (by rw [show tm.getD t .dead=_ from ho];rfl) h
 ·rename_i he
  rw [he] at ho
  exact same (by rw [show tm.getD t .dead=_ from ho];rfl) h
 ·rename_i he
  rw [he] at ho
  exact same (by rw [show tm.getD t .dead=_ from ho];rfl) h
 ·rename_i he
  rw [he] at ho
  exact same (by rw [show tm.getD t .dead=_ from ho.2];rfl) h
 ·rename_i he
  rw [he] at ho
  exact same (by rw [show tm.getD t .dead=_ from ho];rfl) h
 ·rename_i he
  rw [he] at ho
  refine same ?_ h
  rcases jc ho.1 with ⟨h1,_⟩ | ⟨es,n,h1,_⟩<;>(rw [h1];rfl)
 ·rename_i id ver he
  rw [he] at ho
  split at h<;>try cases h
  rename_i R hR
  split at h<;>try cases h
  rename_i hv
  have hv':R.ver=ver:=Nat.eq_of_beq_eq_true hv
  split at h<;>try cases h
  rename_i l hl
  have hL:qlh m.rw a (.row id ver)=some l:=by
   unfold qlh
   rw [hr.rw]
   simp only [hR,hv]
   exact hl
  obtain ⟨es,g1,g2,g3⟩:=ql8 hr.rows hL ho
  obtain ⟨e,rfl⟩:=jd hl
  subst e
  have e1:∀ y:AV,(∀ cs,y ≠ .agg cs)->jR σ.rw y=zm σ.rw y := λ y hy=>by cases y<;>first | rfl | exact absurd rfl (hy _)
  obtain ⟨R',k1,_,ki,k3⟩:=ho
  have hna:∀ cs,tm.getD t .dead ≠ .agg cs:=by
   intro cs hc
   rw [hc] at ki
   rcases ki with h | ⟨_,_,_,h⟩ | ⟨_,_,_,_,_,h⟩<;>cases h
  refine ⟨_,_,_,h,qB5 hr t (λ hn=>?_) λ _=>?_⟩
  ·have hk:=k3 (by rw [hr.rw,hR] at k1;cases k1;exact hv')
   have hd:∃ y,y=tm.getD t .dead:=⟨_,rfl⟩
   obtain ⟨y,hy⟩:=hd
   rw [<- hy] at hk hn |-
   rw [hr.rw,hR] at k1;cases k1
   revert hk
   unfold Jr
   cases m.r id with
   | none=>intro hk;exact ⟨hk.1,Nat.le_trans (by decide) hk.2⟩
   | some q=>intro hk;rw [hk] at hn;cases hn
  ·rw [e1 _ hna]
   exact ⟨g3,qk5 g3⟩
 ·rename_i he
  refine ⟨_,_,shM m,h,?_⟩
  have:=qB5 hr t (x' := .dead) (λ _=>trivial) λ _=>trivial
  refine ⟨this.len,λ u=>?_,this.rw,this.nb,this.box,this.inj,this.rows,this.rinj,this.pin⟩
  by_cases hu:t=u
  ·subst hu;rw [he];trivial
  ·have h2:=this.env u
   simp only [get] at h2
   rw [show Nat.beq t u=false from by
    cases hb:Nat.beq t u with
    | true=>exact absurd (Nat.eq_of_beq_eq_true hb) hu
    | false=>rfl] at h2
   exact h2
 ·cases h
theorem qpP:∀ (l:List (Tmp × Co)) {m:Mp} {E:Env} {τ : TS} {tm:List AV} {σ : St} {K:Env->TS->Option α} {r : α},Rel N m E τ tm σ -> qrk l E τ K=some r ->
  ∃ E' τ' m',K E' τ'=some r/\Rel N m' E' τ' (qc4 (qfN l) ⟨tm,σ⟩).tm (qc4 (qfN l) ⟨tm,σ⟩).σ
 | [],m,E,τ,tm,σ,K,r,hr,h=>⟨E,τ,m,h,hr⟩
 | (t,co)::l,m,E,τ,tm,σ,K,r,hr,h=>by
   cases co with
   | plist a =>
     rw [qrk] at h
     obtain ⟨E1,τ1,m1,h1,hr1⟩:=qG1 hr h
     exact qpP l hr1 h1
   | _=>simp only [qrk] at h;exact qpP l hr h
theorem qur (hf:qxu c fin Qr) (hL:LOK c L Qr):∀ (n:Nat) {st:List It} {e:Ex} {E:Env} {τ : TS} {r : α} {m:Mp} {tm:List AV} {σ : St},Jq c fin L n st e E τ = some r->Rel c.n2 m E τ tm σ -> Go c.pc (Qr r) st e ⟨tm,σ⟩:=by
 intro n
 induction n with
 | zero=>intro st e E τ r m tm σ h hr;simp [Jq] at h
 | succ n ih =>
   intro st e E τ r m tm σ h hr
   cases st with
   | nil =>
     simp only [Jq] at h
     rw [qKh]
     cases e with
     | exit i=>cases h
     | normal=>exact hf E τ r m tm σ h hr _ (.inr rfl)
     | ret=>exact hf E τ r m tm σ h hr _ (.inl rfl)
   | cons it k =>
     cases it with
     | ops os d l=>simp [Jq] at h
     | blk id =>
       simp only [Jq] at h
       cases e with
       | exit i =>
         simp only at h
         rw [qAt]
         split at h
         ·rename_i hi
          have hi:i=id:=Nat.eq_of_beq_eq_true hi
          rw [if_pos hi]
          split at h
          ·obtain ⟨E',τ',m',h,hr'⟩:=qCl hr h
           exact hL k E' τ' r m' tm σ h hr'
          ·exact ih h hr
         ·rename_i hi
          have hi:i≠id := λ he=>by rw [he] at hi;simp at hi
          rw [if_neg hi]
          exact ih h hr
       | normal =>
         simp only at h
         rw [qxr]
         split at h
         ·obtain ⟨E',τ',m',h,hr'⟩:=qCl hr h
          exact hL k E' τ' r m' tm σ h hr'
         ·exact ih h hr
       | ret=>rw [qDo];simp only at h;exact ih h hr
     | code cd =>
       cases e with
       | exit i=>simp only [Jq] at h;rw [qyz];exact ih h hr
       | ret=>simp only [Jq] at h;rw [qAr];exact ih h hr
       | normal =>
         simp only [Jq] at h
         cases cd with
         | skip=>rw [qHv];exact ih h hr
         | label l=>rw [qGC];exact ih h hr
         | region id ops d =>
           obtain ⟨l⟩:=ops
           simp only at h
           split at h
           ·rename_i hsp
            split at h<;>try cases h
            rename_i hg
            rw [Bool.and_eq_true] at hg
            have hg2:=(Bool.and_eq_true _ _).mp hg.2
            refine qCh id l d hsp (by rw [TC.lo_eq];exact hg.1) (by rw [TC.lo_eq];exact qnm hr hg2.1) (by rw [TC.lo_eq];exact qnm hr hg2.2) ?_
            rw [TC.lo_eq]
            exact qc1 h hr λ m E τ tm σ h hr=>qc1 h hr λ m E τ tm σ h hr=>qc1 h hr λ m E τ tm σ h hr=>ih h hr
           ·rename_i hsp
            split at h
            ·rename_i p htw
             split at h<;>try cases h
             rename_i hg
             refine qCc id l d hsp htw (by rw [TC.lo_eq];exact qnm hr hg) ?_
             refine qc1 h hr λ m E τ tm σ h hr=>?_
             split at h<;>try cases h
             rename_i hp
             exact ⟨qIQ hr hp,qc1 h hr λ m E τ tm σ h hr=>ih h hr⟩
            ·rename_i htw
             rw [qFc _ _ _ hsp htw]
             split at h<;>try cases h
             rename_i hg
             exact ⟨by rw [TC.lo_eq];exact qnm hr hg,qc1 h hr λ m E τ tm σ h hr=>ih h hr⟩
         | seq a b=>rw [qJ4];exact ih h hr
         | cond x a b =>
           simp only at h
           rw [qIt]
           split at h<;>try cases h
           rename_i y hy
           have hv:=hr.ev x
           rw [hy] at hv
           have hv:aev tm x = .v (.bool y):=hv
           rw [hv]
           cases y with
           | true=>rw [qEg];exact ih h (qBs hr hy rfl)
           | false=>rw [qC6];exact ih h (qBs hr hy rfl)
         | block id b=>rw [qG7];exact ih h hr
         | loop b =>
           simp only at h
           split at h<;>try cases h
           rename_i l hl
           obtain ⟨E1,τ1,m1,h,hr1⟩:=qpP l hr h
           obtain ⟨E',τ',m',h,hr'⟩:=qCl hr1 h
           rw [<- qJu,show c.pc.pur b=qfN l from by show c.pur b=_;unfold TC.pur;rw [hl]]
           exact hL _ E' τ' r m' _ _ h hr'
         | exit id=>rw [qH6];exact ih h hr
         | ret=>rw [qIq];exact ih h hr
         | _=>simp only at h;cases h
theorem qEE (hf:qxu c fin Qr) (hL:LOK c L Qr) (n:Nat):LOK c (λ st E τ => qyN c fin L n st E τ) Qr:=by
 intro st E τ r m tm σ h hr
 simp only [qyN] at h
 split at h
 ·rename_i b k
  rw [qvj]
  split at h
  ·rename_i l hl
   obtain ⟨E1,τ1,m1,h,hr1⟩:=qpP l hr h
   rw [show c.pc.pur b=qfN l from by show c.pur b=_;unfold TC.pur;rw [hl]]
   exact qur hf hL n h hr1
  ·rename_i hl
   rw [show c.pc.pur b=[] from by show c.pur b=_;unfold TC.pur;rw [hl]]
   exact qur hf hL n h hr
 ·exact qur hf hL n h hr
theorem qr3 (hf:qxu c fin Qr) (n:Nat):∀ k,LOK c (qm9 c fin n k) Qr
 | 0 => λ st E τ r m tm σ h=>by simp [qm9] at h
 | k+1=>by
   intro st E τ r m tm σ h hr
   exact qEE hf (qr3 hf n k) n st E τ r m tm σ h hr
theorem qfT (hr:Rel c.n2 m E τ tm σ) {rv:ResultVar} {x:TV} (h:qlP c E τ rv=some x):∃ y,qjy c.pc.cfg tm σ rv=some y/\OK m x y:=by
 cases rv with
 | tmp t=>cases h;exact ⟨_,rfl,hr.env t⟩
 | cell a t =>
   simp only [qlP] at h
   split at h<;>try cases h
   rename_i d b o hd ha
   have hv:=hr.env a
   rw [ha] at hv
   obtain ⟨hb,hv⟩:=hv
   split at h<;>try cases h
   rename_i cs hcs
   obtain ⟨ds,g1,g2⟩:=hr.box b cs hcs
   obtain ⟨y,g3,g4⟩:=qfD g2 h
   refine ⟨y,?_,g4⟩
   have e:c.pc.cfg.ty t=some d:=hd
   simp only [qjy,e,hv,Js,g1,g3]
theorem qIn {y:AV}:qrA 0 σ.rw y=zm σ.rw y:=by
 cases y<;>rfl
theorem qBr (y:AV) (h:∀ vs,y ≠ .tup vs):qik 0 σ.rw y=jR σ.rw y:=by
 cases y with
 | agg cs =>
   show AV.agg (cs.map (qrA 0 σ.rw)) = .agg (cs.map (zm σ.rw))
   rw [List.map_congr_left λ x _=>qIn]
 | _=>rfl
theorem qqc {a:Ty} {y:AV} {v:Val a} (h:Qd a y=some v):Sub y (yG a v):=by
 unfold Qd at h
 split at h
 case h_2=>cases h
 rename_i hb
 have hb:a.agg=qcU y:=by simpa [qgs] using hb
 obtain ⟨pre,h1,_,h3,h4,_⟩:=yx a (zQ.1 h)
 rw [List.append_nil] at h1
 rw [<- h1] at h4
 have agg:∀ e:List AV,a.agg=true->Qa (cellsOf y) e->Sub y (.agg e):=by
  intro e ha hs
  rw [hb] at ha
  cases y with
  | agg cs=>exact qG6 hs
  | _=>cases ha
 have one:∀ e:AV,a.agg=false->Qa (cellsOf y) [e]->Sub y e:=by
  intro e ha hs
  rw [hb] at ha
  have:cellsOf y=[y]:=by cases y<;>first | rfl | (cases ha)
  rw [this] at hs
  cases hs with
  | cons h _=>exact h
 cases a with
 | int k=>exact one _ rfl h4
 | bool=>exact one _ rfl h4
 | str=>exact one _ rfl h4
 | list a=>exact one _ rfl h4
 | term=>exact agg _ rfl h4
 | pair a b=>exact agg _ rfl h4
 | one a=>exact agg _ rfl h4
theorem qB3 (hr:Rel c.n2 m E τ tm σ) {a:Ty} {rv:ResultVar} {x:TV} {v:Val a} (h1:qlP c E τ rv=some x) (h2:qfq τ.rw a x=some v):∃ y,qjy c.pc.cfg tm σ rv=some y/\(∀ vs,y ≠ .tup vs)/\Qo (qik 0 σ.rw y)=true/\Sub (qik 0 σ.rw y) (yG a v):=by
 obtain ⟨y,g1,g2⟩:=qfT hr h1
 rw [<- hr.rw] at h2
 obtain ⟨g3,_⟩:=qjw hr.rows h2 g2
 have ht:∀ vs,y ≠ .tup vs:=by
  rintro vs rfl
  have:=(qb5 g3).1
  unfold Qd at g3
  split at g3
  ·obtain ⟨pre,p1,_,p3,_⟩:=yx a (zQ.1 g3)
   rw [List.append_nil] at p1
   have:=p3 (.tup vs) (by rw [<- p1];exact List.mem_singleton.2 rfl)
   cases this
  ·cases g3
 refine ⟨y,g1,ht,?_,?_⟩
 ·rw [qBr y ht];exact (qb5 g3).1
 ·rw [qBr y ht];exact qqc g3
theorem qAY (hr:Rel c.n2 m E τ tm σ):∀ {ts:List Ty} {rs:List ResultVar} {v:qd1 ts},qiz c ts rs E τ = some v ->
  ∃ l,jx c.pc.cfg tm σ rs=some l/\(∀ y∈l,∀ vs,y≠AV.tup vs)/\noRefs (l.map (qik 0 σ.rw))=true/\Qa (l.map (qik 0 σ.rw)) (qac ts v)
 | [],rs,v,h=>by
   cases rs with
   | nil=>exact ⟨[],rfl,by simp,rfl,.nil⟩
   | cons a l=>simp only [qiz] at h;cases h
 | [a],rs,v,h=>by
   cases rs with
   | nil=>simp only [qiz] at h;cases h
   | cons rv rs =>
     cases rs with
     | cons _ _=>simp only [qiz] at h;cases h
     | nil =>
       simp only [qiz] at h
       split at h<;>try cases h
       rename_i x hx
       obtain ⟨y,g1,g2,g3,g4⟩:=qB3 hr hx h
       refine ⟨[y],by simp only [jx,g1],by simpa using g2,?_,.cons g4 .nil⟩
       show (Qo _&&true)=true
       rw [g3];rfl
 | a::b::ts,rs,v,h=>by
   cases rs with
   | nil=>simp only [qiz] at h;cases h
   | cons rv rs =>
     simp only [qiz] at h
     split at h<;>try cases h
     rename_i x hx
     split at h<;>try cases h
     rename_i w hw
     split at h<;>cases h
     rename_i ws hws
     obtain ⟨y,g1,g2,g3,g4⟩:=qB3 hr hx hw
     obtain ⟨l,k1,k2,k3,k4⟩:=qAY hr hws
     refine ⟨y::l,by simp only [jx,g1,k1],?_,?_,.cons g4 k4⟩
     ·intro z hz
      rcases List.mem_cons.1 hz with rfl | hz
      ·exact g2
      ·exact k2 z hz
     ·rw [List.map_cons]
      unfold noRefs at k3 |-
      rw [List.all_cons,g3,k3];rfl
theorem qHR {x:AV} (h:Qo x=true):refs 0 0 x=false:=by
 obtain ⟨h1,h2⟩:=qev h
 unfold refs
 rw [h1,h2];rfl
theorem qIN {ts:List Ty} {rs:List ResultVar}:qxu c (qiz c ts rs) (λ v=>Ret c.pc rs λ z=>Sub z (zI (qac ts v))):=by
 intro E τ v m tm σ h hr e he
 refine ⟨he,?_⟩
 obtain ⟨l,g1,g2,g3,g4⟩:=qAY hr h
 rw [g1]
 show refs 0 0 (qhK 0 σ.rw (zI l))=false/\Sub (qhK 0 σ.rw (zI l)) (zI (qac ts v))
 have hlen:l.length=(qac ts v).length:=by rw [<- g4.len,List.length_map]
 have key:qhK 0 σ.rw (zI l)=zI (l.map (qik 0 σ.rw)):=by
  match l,g2 with
  | [],_=>rfl
  | [y],g2 =>
    have:=g2 y (List.mem_singleton.2 rfl)
    show qhK 0 σ.rw y=qik 0 σ.rw y
    cases y<;>first | rfl | exact absurd rfl (this _)
  | y::z::l,_=>rfl
 rw [key]
 constructor
 ·apply qHR
  match l,g3 with
  | [],_=>rfl
  | [y],g3 =>
    show Qo (qik 0 σ.rw y)=true
    simpa [noRefs] using g3
  | y::z::l,g3=>exact qwk g3
 ·match l,qac ts v,g4 with
  | [],[],_=>exact .refl _
  | [y],[z],.cons h _=>exact h
  | y::y'::l,z::z'::k,h=>exact h.tup
theorem qyy {m:Mp}:∀ (n:Nat) {xs:List TV} {ys:List AV} {pre:List AV} {post:List AV},OKL m xs ys->pre.length=n->∀ t,OK m (get (qgq n xs) t) ((pre++(ys++post)).getD t .dead)
 | n,[],ys,pre,post,h,hn,t=>trivial
 | n,x::xs,ys,pre,post,⟨y,r,he,h1,h2⟩,hn,t=>by
   subst he
   simp only [qgq,get]
   split
   ·rename_i hk
    have hk:n=t:=Nat.eq_of_beq_eq_true hk
    subst hk
    rw [List.getD_eq_getElem?_getD,List.getElem?_append_right (by omega),hn,Nat.sub_self]
    exact h1
   ·have:=qyy (m:=m) (n+1) (pre:=pre++[y]) (post:=post) h2 (by simp [hn]) t
    simpa using this
theorem qKt {ts:List Ty} {fn:Func} {cd:Code} (hc:fn.body=some cd) {n k:Nat} {xs:List TV} {ys:List AV} {v:qd1 ts} (hnt:c.nt=fn.ntmps) (hnp:c.np=0) (hle:ys.length<=fn.ntmps) (ho:OKL mp0 xs ys)
  (h:qm9 c (qiz c ts fn.results.toList) n k [.code cd] (qgq 0 xs) ⟨[],[]⟩=some v):GoB c.pc (λ z=>Sub z (zI (qac ts v))) fn ys:=by
 unfold GoB
 rw [hc]
 have hr:Rel c.n2 mp0 (qgq 0 xs) ⟨[],[]⟩ (ys++List.replicate (fn.ntmps-ys.length) .dead) emp:=by
  refine ⟨by show _=c.nt;rw [List.length_append,List.length_replicate,hnt];omega,λ t=>?_,rfl,rfl,λ b cs h=>by simp at h,λ b b' h=>absurd h (Nat.not_lt_zero _),λ id R h=>(by cases h),λ id id' r h=>absurd h (Nat.not_lt_zero _),λ i hi=>absurd hi (by show ¬ i<c.np;rw [hnp];exact Nat.not_lt_zero _)⟩
  have:=qyy (m:=mp0) 0 (pre:=[]) (post:=List.replicate (fn.ntmps-ys.length) .dead) ho rfl t
  simpa using this
 exact qr3 qIN n k _ _ _ _ _ _ _ h hr
end
end Go.AmZ
namespace Go.AmZ
open Go Go.RowKit Go.GxZ
section
variable {α : Type} {m:Mp} {E:Env} {τ : TS} {tm:List AV} {σ : St} {c:TC}
theorem qDS {a:Ty} {y:AV} {v:Val a} (h:Qd a y=some v):OK m (qrZ a v) y:=by
 unfold Qd at h
 split at h
 case h_2=>cases h
 rename_i hb
 have hb:a.agg=qcU y:=by simpa [qgs] using hb
 have hc:OKL m (QE a v) (cellsOf y):=jU h
 have agg:a.agg=true->∃ ds,y = .agg ds/\OKL m (QE a v) ds:=by
  intro ha
  rw [hb] at ha
  cases y with
  | agg cs=>exact ⟨cs,rfl,hc⟩
  | _=>cases ha
 have one:a.agg=false->cellsOf y=[y]:=by
  intro ha
  rw [hb] at ha
  cases y<;>first | rfl | (cases ha)
 cases a with
 | term=>exact agg rfl
 | pair a b=>exact agg rfl
 | one a=>exact agg rfl
 | int k=>rw [one rfl] at hc;obtain ⟨z,r,he,h1,_⟩:=hc;cases he;exact h1
 | bool=>rw [one rfl] at hc;obtain ⟨z,r,he,h1,_⟩:=hc;cases he;exact h1
 | str=>rw [one rfl] at hc;obtain ⟨z,r,he,h1,_⟩:=hc;cases he;exact h1
 | list a=>rw [one rfl] at hc;obtain ⟨z,r,he,h1,_⟩:=hc;cases he;exact h1
structure qiB (m:Mp) (σ : St) (nb nr:Nat):Prop where
 b:∀ i,m.b i=i
 nb:m.nb=nb
 rows:ja m σ
 low:∀ id r,id<m.rw.length->m.r id=some r->r<nr
 rinj:∀ id id' r,id<m.rw.length->id'<m.rw.length->m.r id=some r->m.r id'=some r->id=id'
 zero:∀ (id:Nat) (R:qM),m.rw[id]? = some R->R.ver=0
theorem qiB.add {nb nr:Nat} (h:qiB m σ nb nr) {a:Ty} {l:List (Val a)} {ro:Option Nat} {vo:Nat} {qo:List (List AV)} {nr':Nat} (hg:Jk σ ⟨a,l,0,0,false⟩ ro vo qo) (h1:nr<=nr') (h2:∀ r,ro=some r->nr<=r/\r<nr'):qiB (m.add ⟨a,l,0,0,false⟩ ro vo qo) σ nb nr':=by
 refine ⟨h.b,h.nb,qm5 h.rows hg λ _ _ h=>h,?_,?_,?_⟩
 ·intro id r hl he
  change id<(m.rw++[_]).length at hl
  change (if id=m.rw.length then ro else m.r id)=some r at he
  simp at hl
  split at he
  ·exact (h2 r he).2
  ·have:=h.low id r (by omega) he;omega
 ·intro id id' r l1 l2 e1 e2
  change id<(m.rw++[_]).length at l1
  change id'<(m.rw++[_]).length at l2
  change (if id=m.rw.length then ro else m.r id)=some r at e1
  change (if id'=m.rw.length then ro else m.r id')=some r at e2
  simp at l1 l2
  split at e1<;>split at e2
  ·omega
  ·have:=h.low id' r (by omega) e2;have:=(h2 r e1).1;omega
  ·have:=h.low id r (by omega) e1;have:=(h2 r e2).1;omega
  ·exact h.rinj id id' r (by omega) (by omega) e1 e2
 ·intro id R hR
  change (m.rw++[_])[id]? = some R at hR
  rw [List.getElem?_append] at hR
  split at hR
  ·exact h.zero id R hR
  ·cases hx:id-m.rw.length with
   | zero=>rw [hx] at hR;cases hR;rfl
   | succ n=>rw [hx] at hR;cases hR
theorem qwq {m:Mp} {nb nr nr1:Nat} {t:Ty} {y:AV} {l:List (Val t)} (hl:qcP σ t nr y=some (l,nr1)) (hm:qiB m σ nb nr) :
  ∃ m1,MLe m m1/\qiB m1 σ nb nr1/\m1.rw=m.rw++[⟨t,l,0,0,false⟩]/\OK m1 (.row m.rw.length 0) y:=by
 have step:∀ ro vo qo,Jk σ ⟨t,l,0,0,false⟩ ro vo qo->nr<=nr1->(∀ r,ro=some r->nr<=r/\r<nr1)->Jr ro vo t l y ->
   ∃ m1,MLe m m1/\qiB m1 σ nb nr1/\m1.rw=m.rw++[⟨t,l,0,0,false⟩]/\OK m1 (.row m.rw.length 0) y:=by
  intro ro vo qo hg hle1 hro hat
  refine ⟨_,qpH m ⟨t,l,0,0,false⟩ ro vo qo,hm.add hg hle1 hro,rfl,⟨t,l,0,0,false⟩,by show (m.rw++_)[m.rw.length]? = _;simp,Nat.zero_le _,hat.ish,λ _=>?_⟩
  show Jr (if m.rw.length=m.rw.length then ro else m.r m.rw.length) (if m.rw.length=m.rw.length then vo else m.v m.rw.length) t l y
  rw [if_pos rfl,if_pos rfl];exact hat
 unfold qcP at hl
 split at hl
 ·split at hl<;>try cases hl
  rename_i R hR
  split at hl<;>try cases hl
  rename_i hd
  split at hl<;>cases hl
  rename_i hdec
  obtain ⟨rfl,rfl,rfl,e4,rfl,rfl,e7⟩:=of_decide_eq_true hd
  refine step (some _) R.ver R.c ⟨R,hR,rfl,rfl,e4,hdec,by rw [e7.1];exact Nat.zero_le _,λ _=>e7⟩ (Nat.le_succ _) (λ r h=>by cases h;omega) ?_
  show _=_
  rw [qQ hdec]
 ·split at hl
  ·rename_i hd hlv
   cases hl
   exact step none 0 [] (λ _=>rfl) (Nat.le_refl _) (λ r h=>by cases h) ⟨hd,of_decide_eq_true hlv⟩
  ·cases hl
theorem qlS:∀ (l:List RA) {m:Mp} {nb nr nr1:Nat} {ds:List AV} {v:CV l},qiA σ l nr ds=some (v,nr1)->qiB m σ nb nr ->
  ∃ m1,MLe m m1/\qiB m1 σ nb nr1/\m1.rw=m.rw++jZ l v/\OKL m1 (qb4 l m.rw.length v) ds
 | [],m,nb,nr,nr1,ds,v,h,hm=>by
   cases ds with
   | cons d ds=>simp [qiA] at h
   | nil =>
     simp only [qiA,Option.some.injEq,Prod.mk.injEq] at h
     obtain ⟨_,rfl⟩:=h
     exact ⟨m,.refl m,hm,(List.append_nil _).symm,rfl⟩
 | .val t::l,m,nb,nr,nr1,ds,v,h,hm=>by
   simp only [qiA] at h
   split at h<;>try cases h
   rename_i w hw
   split at h<;>cases h
   rename_i vs hvs
   obtain ⟨m1,h1,h2,h3,h4⟩:=qlS l hvs hm
   refine ⟨m1,h1,h2,h3,?_⟩
   rw [<- List.take_append_drop t.size ds]
   exact (jU hw).append h4
 | .row t::l,m,nb,nr,nr1,ds,v,h,hm=>by
   cases ds with
   | nil=>simp [qiA] at h
   | cons d ds =>
     simp only [qiA] at h
     split at h<;>try cases h
     rename_i w n hw
     split at h<;>cases h
     rename_i vs hvs
     obtain ⟨m1,a1,a2,a3,a4⟩:=qwq hw hm
     obtain ⟨m2,h1,h2,h3,h4⟩:=qlS l hvs a2
     rw [a3,List.length_append] at h4
     exact ⟨m2,a1.trans h1,h2,by rw [h3,a3,List.append_assoc];rfl,⟨_,_,rfl,a4.mono h1,h4⟩⟩
theorem qfR:∀ (sas:List SA) {m:Mp} {nb nr:Nat} {ys:List AV} {a:Qm sas},dS σ sas nb nr ys=some a->qiB m σ nb nr ->
  ∃ m' nb' nr',MLe m m'/\qiB m' σ nb' nr'/\nb' = σ.bx.length/\m'.rw=m.rw++sRw sas a/\nb+(sBx sas m.rw.length a).length=nb'/\OKL m' (qki sas nb m.rw.length a) ys/\ys.length<=sas.length /\
   ∀ (i:Nat) (cs:List TV),(sBx sas m.rw.length a)[i]? = some cs->∃ ds,σ.bx[nb+i]? = some ds/\OKL m' cs ds
 | [],m,nb,nr,ys,a,h,hm=>by
   cases ys with
   | cons y ys=>simp [dS] at h
   | nil =>
     simp only [dS] at h
     split at h<;>try cases h
     rename_i hd
     have hd:=of_decide_eq_true hd
     exact ⟨m,nb,nr,.refl m,hm,hd.1,(List.append_nil _).symm,rfl,rfl,Nat.le_refl _,λ i cs h=>by cases h⟩
 | .nil::sas,m,nb,nr,ys,a,h,hm=>by
   obtain ⟨ys',rfl,h⟩:∃ ys',ys = .v (.slice none 0 0)::ys'/\dS σ sas nb nr ys'=some a:=by
    cases ys with
    | nil=>simp [dS] at h
    | cons y ys =>
      simp only [dS] at h
      split at h
      ·rename_i hn
       exact ⟨ys,by rw [qwc hn],h⟩
      ·cases h
   obtain ⟨m',nb',nr',h1,h2,h3,h4,h5,h6,h7,h8⟩:=qfR sas h hm
   exact ⟨m',nb',nr',h1,h2,h3,h4,h5,⟨_,_,rfl,rfl,h6⟩,Nat.succ_le_succ h7,h8⟩
 | .clo g k::sas,m,nb,nr,ys,a,h,hm=>by
   cases ys with
   | nil=>simp [dS] at h
   | cons y ys =>
     simp only [dS] at h
     split at h<;>try cases h
     rename_i cs hcs
     obtain ⟨rfl,hk⟩:=qA4 hcs
     obtain ⟨m',nb',nr',h1,h2,h3,h4,h5,h6,h7,h8⟩:=qfR sas h hm
     have ht:=h6.take k
     have hd:=h6.drop k
     rw [List.take_left' hk] at ht
     rw [List.drop_left' hk] at hd
     refine ⟨m',nb',nr',h1,h2,h3,h4,h5,⟨_,_,rfl,⟨_,rfl,ht⟩,hd⟩,?_,h8⟩
     rw [List.length_append] at h7
     rw [List.length_cons,List.length_cons]
     omega
 | .val t::sas,m,nb,nr,ys,a,h,hm=>by
   cases ys with
   | nil=>simp [dS] at h
   | cons y ys =>
     simp only [dS] at h
     split at h<;>try cases h
     rename_i v hv
     split at h<;>cases h
     rename_i vs hvs
     obtain ⟨m',nb',nr',h1,h2,h3,h4,h5,h6,h7,h8⟩:=qfR sas hvs hm
     exact ⟨m',nb',nr',h1,h2,h3,h4,h5,⟨_,_,rfl,qDS hv,h6⟩,Nat.succ_le_succ h7,h8⟩
 | .box l::sas,m,nb,nr,ys,a,h,hm=>by
   cases ys with
   | nil=>simp [dS] at h
   | cons y ys =>
     simp only [dS] at h
     split at h<;>try cases h
     rename_i v n hv
     split at h<;>cases h
     rename_i vs hvs
     unfold qsV at hv
     split at hv<;>try cases hv
     split at hv<;>try cases hv
     rename_i j _ _ ds hj hds
     have hj:=Nat.eq_of_beq_eq_true hj
     subst hj
     have hm2:qiB { m with nb:=m.nb+1 } σ (j+1) nr:=⟨hm.b,by show m.nb+1=_;rw [hm.nb],hm.rows,hm.low,hm.rinj,hm.zero⟩
     have hle:MLe m { m with nb:=m.nb+1 }:=⟨Nat.le_succ _,λ _ _=>rfl,λ id R h=>⟨R,h,Nat.le_refl _,Nat.le_refl _,λ _=>⟨rfl,rfl,rfl,rfl,(λ _=>rfl),λ _ _ h=>h⟩⟩⟩
     obtain ⟨m1,b1,b2,b3,b4⟩:=qlS l hv hm2
     obtain ⟨m',nb',nr',h1,h2,h3,h4,h5,h6,h7,h8⟩:=qfR sas hvs b2
     have b3:m1.rw=m.rw++jZ l v:=b3
     have hlen:m1.rw.length=m.rw.length+nR l:=by rw [b3,List.length_append,js]
     rw [hlen] at h5 h6 h8
     have hnb:m'.nb=nb':=h2.nb
     have hsb:(sBx (.box l::sas) m.rw.length (toB l v,vs)).length=(sBx sas (m.rw.length+nR l) vs).length+1:=rfl
     refine ⟨m',nb',nr',hle.trans (b1.trans h1),h2,h3,?_,by omega,⟨_,_,rfl,⟨by rw [hnb];omega,by rw [h2.b]⟩,h6⟩,Nat.succ_le_succ h7,λ i cs hi=>?_⟩
     ·rw [h4,b3,List.append_assoc]
      show _=m.rw++(jZ l (toC l (toB l v))++_)
      rw [qhh]
     ·cases i with
      | zero =>
        cases hi
        refine ⟨ds,hds,?_⟩
        show OKL m' (qb4 l m.rw.length (toC l (toB l v))) ds
        rw [qhh]
        exact b4.mono h1
      | succ i =>
        obtain ⟨ds',g1,g2⟩:=h8 i cs hi
        exact ⟨ds',by rw [<- g1];congr 1;omega,g2⟩
 | .row t::sas,m,nb,nr,ys,a,h,hm=>by
   cases ys with
   | nil=>simp [dS] at h
   | cons y ys =>
     simp only [dS] at h
     split at h<;>try cases h
     rename_i l nr1 hl
     split at h<;>cases h
     rename_i vs hvs
     obtain ⟨m1,b1,b2,b3,b4⟩:=qwq hl hm
     obtain ⟨m',nb',nr',h1,h2,h3,h4,h5,h6,h7,h8⟩:=qfR sas hvs b2
     have hlen:m1.rw.length=m.rw.length+1:=by rw [b3,List.length_append];rfl
     rw [hlen] at h5 h6 h8
     exact ⟨m',nb',nr',b1.trans h1,h2,h3,by rw [h4,b3,List.append_assoc];rfl,h5,⟨_,_,rfl,b4.mono h1,h6⟩,Nat.succ_le_succ h7,h8⟩
theorem qmF {a:Ty} {ds:List AV} {v:Val a} (h:yg a ds=some v):Qa ds (ql a v):=by
 obtain ⟨pre,h1,_,_,h4,_⟩:=yx a (zQ.1 h)
 rw [List.append_nil] at h1
 rw [h1];exact h4
def qo8 (σ : St) (fs:List Nat) (a:Ty) (v:List (Val a)) (y:AV):Option Nat->Prop
 | some j=>∃ Q,y = .rs j 0 Q.c.length Q.ver false /\ σ.rw[j]? = some Q/\Q.k=a.size/\Q.fz=0/\qU (yg a) Q.c=some v/\j ∉ fs/\Q.off=false
 | none=>v=[]/\dlist a y=some []/\2<=lvl y
def qzr (l:List SA):Nat:=nBx l
theorem qjr:∀ (sas:List SA) (L:Nat) (a:Qm sas),(sBx sas L a).length=nBx sas
 | [],_,_=>rfl
 | .nil::sas,L,a=>qjr sas L a
 | .clo _ _::sas,L,a=>qjr sas L a
 | .val _::sas,L,a=>qjr sas L a.2
 | .row _::sas,L,a=>qjr sas _ a.2
 | .box _::sas,L,a=>by rw [sBx,List.length_cons,qjr sas _ a.2,nBx]
inductive FC (σ : St) (fs:List Nat):(l:List RA)->CV l->List AV->List (Option Nat × Row)->Prop
 | nil:FC σ fs [] () [] []
 | val {a:Ty} {l:List RA} {v:Val a} {vs:CV l} {ds ds':List AV} {qd:List (Option Nat × Row)} (h:Qa (ds.map (zm σ.rw)) (ql a v)) (hf:∀ x∈ds,∀ r∈rsC x,r∈fs) (t:FC σ fs l vs ds' qd):FC σ fs (.val a::l) (v,vs) (ds++ds') qd
 | row {a:Ty} {l:List RA} {v:List (Val a)} {vs:CV l} {y:AV} {ds:List AV} {qd:List (Option Nat × Row)} {so:Option Nat} (h:qo8 σ fs a v y so) (t:FC σ fs l vs ds qd):FC σ fs (.row a::l) (v,vs) (y::ds) ((so,⟨a.size,v.map (ql a),0,0,false⟩)::qd)
inductive FR (σ : St) (fs:List Nat) (rws:List qM) (nB:List (Option Nat × Row)):(rs:List RE)->Nat->Nat->RV rs->List AV->List (Option Nat × Row)->List Nat->Prop
 | nil {n d:Nat}:FR σ fs rws nB [] n d () [] [] []
 | val {a:Ty} {rs:List RE} {v:Val a} {vs:RV rs} {y:AV} {ys:List AV} {qd:List (Option Nat × Row)} {n d:Nat} {kb:List Nat} (h:Sub (jR σ.rw y) (yG a v)) (hf:∀ r∈rsA y,r∈fs) (t:FR σ fs rws nB rs n d vs ys qd kb):FR σ fs rws nB (.one (.val a)::rs) n d (v,vs) (y::ys) qd kb
 | row {a:Ty} {rs:List RE} {v:List (Val a)} {vs:RV rs} {y:AV} {ys:List AV} {qd:List (Option Nat × Row)} {so:Option Nat} {n d:Nat} {kb:List Nat}
  (h:qo8 σ fs a v y so)
  (t:FR σ fs rws nB rs n (d+1) vs ys qd kb):FR σ fs rws nB (.one (.row a)::rs) n d (v,vs) (y::ys) ((so,⟨a.size,v.map (ql a),0,0,false⟩)::qd) kb
 | agg {l:List RA} {rs:List RE} {v:CV l} {vs:RV rs} {ds:List AV} {ys:List AV} {n1 n2:List (Option Nat × Row)} {n d:Nat} {kb:List Nat} (h:FC σ fs l v ds n1) (t:FR σ fs rws nB rs n (d+nR l) vs ys n2 kb):FR σ fs rws nB (.agg l::rs) n d (v,vs) (.agg ds::ys) (n1++n2) kb
 | nilp {rs:List RE} {vs:RV rs} {ys:List AV} {qd:List (Option Nat × Row)} {n d:Nat} {kb:List Nat} (t:FR σ fs rws nB rs n d vs ys qd kb):FR σ fs rws nB (.nilp::rs) n d vs (.v (.pointer none)::ys) qd kb
 | box {l:List RA} {rs:List RE} {v:CV l} {vs:RV rs} {ds:List AV} {ys:List AV} {n1 n2:List (Option Nat × Row)} {n d b:Nat} {kb:List Nat} (hd : σ.bx[b]? = some ds) (h:FC σ fs l v ds n1) (t:FR σ fs rws nB rs (n+1) (d+nR l) vs ys n2 kb):FR σ fs rws nB (.box n l::rs) n d (toB l v,vs) (.ptr b 0::ys) (n1++n2) (b::kb)
 | elt {rs:List RE} {a:Ty} {e:Val a} {vs:RV rs} {ys:List AV} {qd:List (Option Nat × Row)} {n d p r j:Nat} {Q R:Row} {kb:List Nat} (h1:nB[p]? = some (some r,R)) (h2 : σ.rw[r]? = some Q) (h3:p<=d) (h4:Q.off=false) (h5:j<Q.c.length) (t:FR σ fs rws nB rs n d vs ys qd kb):FR σ fs rws nB (.eltI (d-p) a::rs) n d ((((j:Nat):Int),e),vs) (.rpt r j 0 Q.ver::ys) qd kb
inductive FB (σ : St) (fs:List Nat):(sas:List SA)->jr sas->Nat->List (Option Nat × Row)->Prop
 | nil {n:Nat}:FB σ fs [] () n []
 | skip1 {r:List SA} {o:jr r} {n:Nat} {qd:List (Option Nat × Row)} (t:FB σ fs r o n qd):FB σ fs (.nil::r) o n qd
 | skip2 {r:List SA} {o:jr r} {n g k:Nat} {qd:List (Option Nat × Row)} (t:FB σ fs r o n qd):FB σ fs (.clo g k::r) o n qd
 | skip3 {r:List SA} {o:jr r} {n:Nat} {a:Ty} {qd:List (Option Nat × Row)} (t:FB σ fs r o n qd):FB σ fs (.val a::r) o n qd
 | skip4 {r:List SA} {o:jr r} {n:Nat} {a:Ty} {qd:List (Option Nat × Row)} (t:FB σ fs r o n qd):FB σ fs (.row a::r) o n qd
 | box {r:List SA} {l:List RA} {v:CV l} {o:jr r} {n:Nat} {ds:List AV} {n1 n2:List (Option Nat × Row)} (hd : σ.bx[n]? = some ds) (h:FC σ fs l v ds n1) (t:FB σ fs r o (n+1) n2):FB σ fs (.box l::r) (toB l v,o) n (n1++n2)
theorem qAX (hr:Rel c.n2 m E τ tm σ) {a:Ty} {x:TV} {y:AV} {w:List (Val a)} {i:List Nat} (hw:qhb τ.rw a x=some (w,i)) (g2:OK m x y) :
  ∃ so,i.filterMap m.r=so.toList/\(∀ id∈i,id<m.rw.length)/\∀ fs,fs=[]\/i=[]->qo8 σ fs a w y so:=by
 unfold qhb at hw
 split at hw
 ·cases hw
  cases g2
  exact ⟨none,rfl,by simp,λ _ _=>⟨rfl,rfl,Nat.le_refl _⟩⟩
 ·split at hw<;>cases hw
  rename_i hc hlv
  obtain ⟨e,he⟩:=jd hc
  subst e
  have he:_=_:=he
  subst he
  obtain ⟨hy1,hy2⟩:=g2
  exact ⟨none,rfl,by simp,λ _ _=>⟨rfl,hy1,Nat.le_trans (of_decide_eq_true hlv) hy2⟩⟩
 ·rename_i id ver
  split at hw<;>try cases hw
  rename_i R hR
  split at hw<;>try cases hw
  rename_i hv
  rw [Bool.and_eq_true,Bool.not_eq_true'] at hv
  split at hw<;>cases hw
  rename_i hc
  obtain ⟨e,he⟩:=jd hc
  subst e
  have he:R.l=w:=he
  subst he
  obtain ⟨R',z1,_,_,z2⟩:=g2
  have hR':m.rw[id]? = some R:=by rw [hr.rw];exact hR
  rw [hR'] at z1;cases z1
  have hlt:∀ i∈[id],i<m.rw.length:=by intro i hi;rw [List.mem_singleton.1 hi];exact getElem?_lt hR'
  rcases qhf hr.rows hR' (z2 (Nat.eq_of_beq_eq_true hv.1)) with ⟨j,Q,q0,hy,q1,q2,q3,q4,q5,q6,q7⟩ | ⟨q0,q1,q2,q3⟩
  ·refine ⟨some j,by simp [q0],hlt,λ fs hfs=>⟨Q,hy,q1,q4,(q7 hv.2).1,q5,?_,(q7 hv.2).2⟩⟩
   rcases hfs with rfl | h
   ·simp
   ·cases h
  ·have hl:=q1 hv.2
   refine ⟨none,by simp [q0],hlt,λ fs _=>⟨hl,?_,q3⟩⟩
   rw [<- hl];exact q2
 ·cases hw
theorem qHK (so:Option Nat) (R:Row) (l:List (Option Nat × Row)):((so,R)::l).filterMap (·.1)=so.toList++l.filterMap (·.1):=by cases so<;>rfl
def qor (rw:List qM) (ids:List Nat) (rows:List qM):Prop:=∀ (p id:Nat),ids[p]? = some id->∃ R R',rw[id]? = some R/\rows[p]? = some R'/\R.sh=false/\∃ h:R'.τ = R.τ,h▸R'.l=R.l
theorem qor.app {rw:List qM} {a b:List Nat} {x y:List qM} (h:qor rw a x) (g:qor rw b y) (hl:a.length=x.length):qor rw (a++b) (x++y) := λ p id hp=>by
 by_cases hlt:p<a.length
 ·rw [List.getElem?_append_left hlt] at hp
  obtain ⟨R,R',h1,h2,h3⟩:=h p id hp
  exact ⟨R,R',h1,by rw [List.getElem?_append_left (by omega)];exact h2,h3⟩
 ·rw [List.getElem?_append_right (by omega)] at hp
  obtain ⟨R,R',h1,h2,h3⟩:=g _ id hp
  exact ⟨R,R',h1,by rw [List.getElem?_append_right (by omega),<- hl];exact h2,h3⟩
theorem qyO {rw:List qM} {a:Ty} {x:TV} {w:List (Val a)} {i:List Nat} (h:qhb rw a x=some (w,i)):i.length<=1/\(i.length=1->qor rw i [⟨a,w,0,0,false⟩]):=by
 unfold qhb at h
 split at h
 ·cases h;exact ⟨by simp,λ h=>by cases h⟩
 ·split at h<;>cases h
  exact ⟨by simp,λ h=>by cases h⟩
 ·rename_i id ver
  split at h<;>try cases h
  rename_i R hR
  split at h<;>try cases h
  rename_i hv
  rw [Bool.and_eq_true,Bool.not_eq_true'] at hv
  split at h<;>cases h
  rename_i hc
  obtain ⟨e,he⟩:=jd hc
  subst e
  have he:R.l=w:=he
  subst he
  refine ⟨Nat.le_refl _,λ _ p id' hp=>?_⟩
  cases p with
  | zero=>cases hp;exact ⟨R,_,hR,rfl,hv.2,rfl,rfl⟩
  | succ p=>cases hp
 ·cases h
theorem qjQ {rw:List qM}:∀ {l:List RA} {cs:List TV} {v:CV l} {ids:List Nat} {q:Bool},qaa rw l cs=some (v,ids,q)->ids.length<=nR l/\(ids.length=nR l->qor rw ids (jZ l v))
 | [],cs,v,ids,q,h=>by
   cases cs with
   | cons c cs=>simp [qaa] at h
   | nil =>
     simp only [qaa,Option.some.injEq,Prod.mk.injEq] at h
     obtain ⟨_,rfl,_⟩:=h
     exact ⟨Nat.le_refl _,λ _ p id h=>by cases h⟩
 | .val t::l,cs,v,ids,q,h=>by
   simp only [qaa] at h
   split at h<;>try (cases h;done)
   rename_i w vs ids0 q0 hw hvs
   simp only [Option.some.injEq,Prod.mk.injEq] at h
   obtain ⟨rfl,rfl,rfl⟩:=h
   have:=qjQ hvs
   exact this
 | .row t::l,cs,v,ids,q,h=>by
   cases cs with
   | nil=>simp [qaa] at h
   | cons c cs =>
     simp only [qaa] at h
     split at h<;>try (cases h;done)
     rename_i w i vs ids' q0 hw hvs
     simp only [Option.some.injEq,Prod.mk.injEq] at h
     obtain ⟨rfl,rfl,rfl⟩:=h
     obtain ⟨a1,a2⟩:=qyO hw
     obtain ⟨b1,b2⟩:=qjQ hvs
     refine ⟨by rw [List.length_append,nR];omega,λ hl=>?_⟩
     rw [List.length_append,nR] at hl
     exact (a2 (by omega)).app (b2 (by omega)) (by show i.length=1;omega)
theorem qfC {τ : TS}:∀ (sas:List SA) {n:Nat} {o:jr sas} {ids:List Nat} {q:Bool},qhC τ sas n=some (o,ids,q)->ids.length<=nrB sas/\(ids.length=nrB sas->qor τ.rw ids (J7 sas o))
 | [],n,o,ids,q,h=>by
   simp only [qhC,Option.some.injEq,Prod.mk.injEq] at h
   obtain ⟨_,rfl,_⟩:=h
   exact ⟨Nat.le_refl _,λ _ p id h=>by cases h⟩
 | .nil::sas,n,o,ids,q,h=>qfC sas (o:=o) h
 | .clo _ _::sas,n,o,ids,q,h=>qfC sas (o:=o) h
 | .val _::sas,n,o,ids,q,h=>qfC sas (o:=o) h
 | .row _::sas,n,o,ids,q,h=>qfC sas (o:=o) h
 | .box l::sas,n,o,ids,q,h=>by
   simp only [qhC] at h
   split at h<;>try (cases h;done)
   rename_i cs hcs
   split at h<;>try (cases h;done)
   rename_i v i q1 o' ids' q2 hv ho
   simp only [Option.some.injEq,Prod.mk.injEq] at h
   obtain ⟨rfl,rfl,rfl⟩:=h
   obtain ⟨a1,a2⟩:=qjQ hv
   obtain ⟨b1,b2⟩:=qfC sas ho
   refine ⟨by rw [List.length_append,nrB];omega,λ hl=>?_⟩
   rw [List.length_append,nrB] at hl
   have:=(a2 (by omega)).app (b2 (by omega)) (by rw [js];omega)
   show qor τ.rw (i++ids') (jZ l (toC l (toB l v))++J7 sas o')
   rw [qhh];exact this
theorem qjD (hr:Rel c.n2 m E τ tm σ):∀ {l:List RA} {cs:List TV} {ds:List AV} {v:CV l} {ids:List Nat} {q:Bool},qaa τ.rw l cs=some (v,ids,q)->OKL m cs ds->(∀ id∈ids,id<m.rw.length) /\
  ∀ fs,(((∀ x∈ds,∀ r∈rsC x,r∈fs)/\ids=[])\/(q=true/\fs=[]))->∃ qd,FC σ fs l v ds qd/\qd.map (·.2)=qcD l v/\qd.filterMap (·.1)=ids.filterMap m.r/\(ids.length=nR l->qd.map (·.1)=ids.map m.r)
 | [],cs,ds,v,ids,q,h,ho=>by
   cases cs with
   | cons c cs=>simp [qaa] at h
   | nil =>
     cases ho
     simp only [qaa,Option.some.injEq,Prod.mk.injEq] at h
     obtain ⟨_,rfl,_⟩:=h
     exact ⟨by simp,λ fs _=>⟨[],.nil,rfl,rfl,λ _=>rfl⟩⟩
 | .val t::l,cs,ds,v,ids,q,h,ho=>by
   simp only [qaa] at h
   split at h<;>try (cases h;done)
   rename_i w vs ids0 q0 hw hvs
   simp only [Option.some.injEq,Prod.mk.injEq] at h
   obtain ⟨rfl,rfl,rfl⟩:=h
   obtain ⟨k0,k1⟩:=qjD hr hvs (ho.drop t.size)
   have ht:=ho.take t.size
   rw [<- hr.rw] at hw
   obtain ⟨rs,p1,p2⟩:=qd4 hr.rows t (qgo hw) ht
   cases p2
   have hsplit:ds=ds.take t.size++ds.drop t.size:=(List.take_append_drop _ _).symm
   refine ⟨k0,λ fs hfs=>?_⟩
   obtain ⟨qd,n1,n2,n3⟩:=k1 fs (hfs.imp (λ h=>⟨λ x hx=>h.1 x (List.mem_of_mem_drop hx),h.2⟩) λ h=>⟨(Bool.and_eq_true _ _▸h.1:(cs.take t.size).all qji=true/\q0=true).2,h.2⟩)
   refine ⟨qd,?_,n2,n3⟩
   rw [hsplit]
   refine .val (qmF (zQ.2 p1)) ?_ n1
   rcases hfs with h | h
   ·exact λ x hx=>h.1 x (List.mem_of_mem_take hx)
   ·have hno:=(Bool.and_eq_true _ _▸h.1:(cs.take t.size).all qji=true/\q0=true).1
    intro x hx r hr'
    rw [List.flatMap_eq_nil_iff.1 (qif ht hno) x hx] at hr'
    cases hr'
 | .row t::l,cs,ds,v,ids,q,h,ho=>by
   cases cs with
   | nil=>simp [qaa] at h
   | cons c cs =>
     obtain ⟨d,ds,rfl,hd,hds⟩:=ho
     simp only [qaa] at h
     split at h<;>try (cases h;done)
     rename_i w i vs ids' q0 hw hvs
     simp only [Option.some.injEq,Prod.mk.injEq] at h
     obtain ⟨rfl,rfl,rfl⟩:=h
     obtain ⟨so,s1,s2,s3⟩:=qAX hr hw hd
     obtain ⟨k0,k1⟩:=qjD hr hvs hds
     refine ⟨λ id hid=>(List.mem_append.1 hid).elim (s2 id) (k0 id),λ fs hfs=>?_⟩
     obtain ⟨qd,n1,n2,n3⟩:=k1 fs (hfs.imp (λ h=>⟨λ x hx=>h.1 x (List.mem_cons_of_mem _ hx),(List.append_eq_nil_iff.1 h.2).2⟩) λ h=>h)
     refine ⟨_,.row (s3 fs (hfs.elim (λ h => .inr (List.append_eq_nil_iff.1 h.2).1) λ h => .inl h.2)) n1,by rw [List.map_cons,n2];rfl,?_⟩
     refine ⟨by rw [qHK,List.filterMap_append,<- n3.1,s1],λ hl=>?_⟩
     have hi:=(qyO hw).1
     have hi2:=(qjQ hvs).1
     have hl:(i++ids').length=nR l+1:=hl
     rw [List.length_append] at hl
     obtain ⟨id,rfl⟩:=List.length_eq_one_iff.1 (show i.length=1 by omega)
     rw [List.map_cons,n3.2 (by simp at hl;omega)]
     have:so=m.r id:=by
      cases hm:m.r id with
      | none=>rw [List.filterMap_cons_none hm] at s1;cases so with | none=>rfl | some _=>cases s1
      | some r=>rw [List.filterMap_cons_some hm] at s1;cases so with | none=>cases s1 | some _=>cases s1;rfl
     rw [this];rfl
theorem qhF (hr:Rel c.n2 m E τ tm σ):∀ (sas:List SA) {n:Nat} {o:jr sas} {ids:List Nat} {q:Bool},qhC τ sas n=some (o,ids,q)->(∀ i,i<nBx sas->m.b (n+i)=n+i)->(∀ id∈ids,id<m.rw.length) /\
  ∀ fs,(((∀ ds ∈ σ.bx,∀ x∈ds,∀ r∈rsC x,r∈fs)/\ids=[])\/(q=true/\fs=[]))->∃ qd,FB σ fs sas o n qd/\qd.map (·.2)=jT sas o/\qd.filterMap (·.1)=ids.filterMap m.r/\(ids.length=nrB sas->qd.map (·.1)=ids.map m.r)
 | [],n,o,ids,q,h,_=>by
   simp only [qhC,Option.some.injEq,Prod.mk.injEq] at h
   obtain ⟨_,rfl,_⟩:=h
   exact ⟨by simp,λ fs _=>⟨[],.nil,rfl,rfl,λ _=>rfl⟩⟩
 | .nil::sas,n,o,ids,q,h,hp=>by
   obtain ⟨k0,k1⟩:=qhF hr sas (o:=o) h hp
   exact ⟨k0,λ fs hfs=>let ⟨qd,n1,n2⟩:=k1 fs hfs;⟨qd,.skip1 n1,n2⟩⟩
 | .clo _ _::sas,n,o,ids,q,h,hp=>by
   obtain ⟨k0,k1⟩:=qhF hr sas (o:=o) h hp
   exact ⟨k0,λ fs hfs=>let ⟨qd,n1,n2⟩:=k1 fs hfs;⟨qd,.skip2 n1,n2⟩⟩
 | .val _::sas,n,o,ids,q,h,hp=>by
   obtain ⟨k0,k1⟩:=qhF hr sas (o:=o) h hp
   exact ⟨k0,λ fs hfs=>let ⟨qd,n1,n2⟩:=k1 fs hfs;⟨qd,.skip3 n1,n2⟩⟩
 | .row _::sas,n,o,ids,q,h,hp=>by
   obtain ⟨k0,k1⟩:=qhF hr sas (o:=o) h hp
   exact ⟨k0,λ fs hfs=>let ⟨qd,n1,n2⟩:=k1 fs hfs;⟨qd,.skip4 n1,n2⟩⟩
 | .box l::sas,n,o,ids,q,h,hp=>by
   simp only [qhC] at h
   split at h<;>try (cases h;done)
   rename_i cs hcs
   split at h<;>try (cases h;done)
   rename_i v i q1 o' ids' q2 hv ho
   simp only [Option.some.injEq,Prod.mk.injEq] at h
   obtain ⟨rfl,rfl,rfl⟩:=h
   obtain ⟨ds,d1,d2⟩:=hr.box n cs hcs
   have hpn:m.b n=n:=hp 0 (Nat.succ_pos _)
   rw [hpn] at d1
   obtain ⟨c0,c1⟩:=qjD hr hv d2
   obtain ⟨k0,k1⟩:=qhF hr sas ho λ j hj=>by
    have:=hp (j+1) (Nat.succ_lt_succ hj)
    rw [show n+1+j=n+(j+1) by omega];exact this
   refine ⟨λ id hid=>(List.mem_append.1 hid).elim (c0 id) (k0 id),λ fs hfs=>?_⟩
   obtain ⟨n1,a1,a2,a3⟩:=c1 fs (hfs.imp (λ h=>⟨h.1 ds (List.mem_of_getElem? d1),(List.append_eq_nil_iff.1 h.2).1⟩) λ h=>⟨(Bool.and_eq_true _ _▸h.1:q1=true/\q2=true).1,h.2⟩)
   obtain ⟨n2,b1,b2,b3⟩:=k1 fs (hfs.imp (λ h=>⟨h.1,(List.append_eq_nil_iff.1 h.2).2⟩) λ h=>⟨(Bool.and_eq_true _ _▸h.1:q1=true/\q2=true).2,h.2⟩)
   refine ⟨n1++n2,.box d1 a1 b1,?_,by rw [List.filterMap_append,List.filterMap_append,a3.1,b3.1],λ hl=>?_⟩
   ·rw [List.map_append,a2,b2]
    show _=qcD l (toC l (toB l v))++_
    rw [qhh]
   ·have h1:=(qjQ hv).1
    have h2:=(qfC sas ho).1
    have hl:(i++ids').length=nR l+nrB sas:=hl
    rw [List.length_append] at hl
    rw [List.map_append,List.map_append,a3.2 (by omega),b3.2 (by omega)]
def qJo (m:Mp) (σ : St) (iB:List Nat) (rws:List qM) (nB:List (Option Nat × Row)):Prop :=
 ∀ (p id:Nat),iB[p]? = some id->∃ (R R':qM) (Q:Row),m.rw[id]? = some R/\rws[p]? = some R'/\nB[p]? = some (m.r id,Q)/\(∃ h:R'.τ = R.τ,h▸R'.l=R.l)/\R.sh=false
theorem qKB (hr:Rel c.n2 m E τ tm σ) {sas:List SA} {o:jr sas} {ids:List Nat} {q:Bool} (h:qhC τ sas 0=some (o,ids,q)) {nB:List (Option Nat × Row)} (hn:ids.length=nrB sas->nB.map (·.1)=ids.map m.r):qJo m σ (qCW (nrB sas) ids) (J7 sas o) nB:=by
 unfold qCW
 cases hb:Nat.beq ids.length (nrB sas) with
 | false=>intro p id hp;cases hp
 | true =>
   have hl:=Nat.eq_of_beq_eq_true hb
   intro p id hp
   have hp:ids[p]? = some id:=hp
   obtain ⟨R,R',h1,h2,h3,h4⟩:=(qfC sas h).2 hl p id hp
   have hm:=congrArg (·[p]?) (hn hl)
   simp only [List.getElem?_map,hp,Option.map_some] at hm
   cases hnp:nB[p]? with
   | none=>rw [hnp] at hm;cases hm
   | some x =>
     rw [hnp] at hm
     obtain ⟨so,Q⟩:=x
     cases hm
     exact ⟨R,R',Q,by rw [hr.rw];exact h1,h2,rfl,h4,h3⟩
theorem qdU (hr:Rel c.n2 m E τ tm σ) {iB:List Nat} {rws:List qM}:∀ {rs:List RE} {l:List ResultVar} {v:RV rs} {ids bs:List Nat} {q:Bool},qbA c E τ iB rs l=some (v,ids,bs,q)->(∀ id∈ids,id<m.rw.length)/\(∀ b∈bs,b<m.nb) /\
  ∃ ys,jx c.pc.cfg tm σ l=some ys/\∀ (fs:List Nat) (nB:List (Option Nat × Row)) (n d:Nat),qJo m σ iB rws nB->rws.length<=d->(((∀ y∈ys,∀ r∈rsA y,r∈fs)/\(∀ b∈bs,∀ ds,σ.bx[m.b b]? = some ds->∀ x∈ds,∀ r∈rsC x,r∈fs)/\ids=[])\/(q=true/\fs=[])) ->
   ∃ rs' v' qd,FR σ fs rws nB rs' n d v' ys qd (bs.map m.b)/\qd.map (·.2)=jB rs' v'/\qd.filterMap (·.1)=ids.filterMap m.r/\∀ {γ : Type} (k:(rs':List RE)->RV rs'->Option γ),qa8 rws rs n d v k=k rs' v'
 | [],l,v,ids,bs,q,h=>by
   cases l with
   | cons a l=>simp [qbA] at h
   | nil =>
     simp only [qbA,Option.some.injEq,Prod.mk.injEq] at h
     obtain ⟨_,rfl,rfl,_⟩:=h
     exact ⟨by simp,by simp,[],rfl,λ fs nB n d _ _ _=>⟨[],(),[],.nil,rfl,rfl,λ _=>rfl⟩⟩
 | .one (.val a)::rs,l,v,ids,bs,q,h=>by
   cases l with
   | nil=>simp [qbA] at h
   | cons rv l =>
     simp only [qbA] at h
     split at h<;>try cases h
     rename_i x hx
     split at h<;>cases h
     rename_i w vs q' hw hvs
     obtain ⟨y,g1,g2⟩:=qfT hr hx
     obtain ⟨k0,kb,ys,k1,k2⟩:=qdU hr (rws:=rws) hvs
     rw [<- hr.rw] at hw
     obtain ⟨p1,_⟩:=qjw hr.rows hw g2
     refine ⟨k0,kb,y::ys,by simp only [jx,g1,k1],λ fs nB n d hB hd hfs=>?_⟩
     obtain ⟨rs',v',qd,n1,n2,n3,n4⟩:=k2 fs nB n d hB hd (hfs.imp (λ h=>⟨λ y hy=>h.1 y (List.mem_cons_of_mem _ hy),h.2⟩) λ h=>⟨(Bool.and_eq_true _ _▸h.1:qni x=true/\q'=true).2,h.2⟩)
     refine ⟨.one (.val a)::rs',(w,v'),qd,.val (qqc p1) ?_ n1,n2,n3,λ k=>n4 _⟩
     rcases hfs with h | h
     ·exact h.1 y (List.mem_cons_self ..)
     ·have hno:=(Bool.and_eq_true _ _▸h.1:qni x=true/\q'=true).1
      rw [qup hno g2]
      intro r hr;cases hr
 | .one (.row a)::rs,l,v,ids,bs,q,h=>by
   cases l with
   | nil=>simp [qbA] at h
   | cons rv l =>
     simp only [qbA] at h
     split at h<;>try cases h
     rename_i x hx
     split at h<;>cases h
     rename_i w i vs ids' hw hvs
     obtain ⟨y,g1,g2⟩:=qfT hr hx
     obtain ⟨k0,kb,ys,k1,k2⟩:=qdU hr (rws:=rws) hvs
     obtain ⟨so,s1,s2,s3⟩:=qAX hr hw g2
     refine ⟨λ id hid=>(List.mem_append.1 hid).elim (s2 id) (k0 id),kb,y::ys,by simp only [jx,g1,k1],λ fs nB n d hB hd hfs=>?_⟩
     obtain ⟨rs',v',qd,n1,n2,n3,n4⟩:=k2 fs nB n (d+1) hB (by omega) (hfs.imp (λ h=>⟨λ y hy=>h.1 y (List.mem_cons_of_mem _ hy),h.2.1,(List.append_eq_nil_iff.1 h.2.2).2⟩) λ h=>h)
     refine ⟨.one (.row a)::rs',(w,v'),_,.row (s3 fs (hfs.elim (λ h => .inr (List.append_eq_nil_iff.1 h.2.2).1) λ h => .inl h.2)) n1,by rw [List.map_cons,n2];rfl,?_,λ k=>n4 _⟩
     rw [qHK,List.filterMap_append,<- n3,s1]
 | .agg p::rs,l,v,ids,bs,q,h=>by
   cases l with
   | nil=>simp [qbA] at h
   | cons rv l =>
     simp only [qbA] at h
     split at h<;>try (cases h;done)
     rename_i cs hx
     split at h<;>try (cases h;done)
     rename_i w i q1 vs ids' bs' q2 hw hvs
     simp only [Option.some.injEq,Prod.mk.injEq] at h
     obtain ⟨rfl,rfl,rfl,rfl⟩:=h
     obtain ⟨y,g1,ds,rfl,g2⟩:=qfT hr hx
     obtain ⟨c0,c1⟩:=qjD hr hw g2
     obtain ⟨k0,kb,ys,k1,k2⟩:=qdU hr (rws:=rws) hvs
     refine ⟨λ id hid=>(List.mem_append.1 hid).elim (c0 id) (k0 id),kb,.agg ds::ys,by simp only [jx,g1,k1],λ fs nB n d hB hd hfs=>?_⟩
     obtain ⟨n1,a1,a2,a3⟩:=c1 fs (hfs.imp (λ h=>⟨λ x hx r hr'=>h.1 (.agg ds) (List.mem_cons_self ..) r (List.mem_flatMap.2 ⟨x,hx,hr'⟩),(List.append_eq_nil_iff.1 h.2.2).1⟩) λ h=>⟨(Bool.and_eq_true _ _▸h.1:q1=true/\q2=true).1,h.2⟩)
     obtain ⟨rs',v',n2,b1,b2,b3,b4⟩:=k2 fs nB n (d+nR p) hB (by omega) (hfs.imp (λ h=>⟨λ y hy=>h.1 y (List.mem_cons_of_mem _ hy),h.2.1,(List.append_eq_nil_iff.1 h.2.2).2⟩) λ h=>⟨(Bool.and_eq_true _ _▸h.1:q1=true/\q2=true).2,h.2⟩)
     exact ⟨.agg p::rs',(w,v'),n1++n2,.agg a1 b1,by rw [List.map_append,a2,b2];rfl,by rw [List.filterMap_append,List.filterMap_append,a3.1,b3],λ k=>b4 _⟩
 | .opt p::rs,l,v,ids,bs,q,h=>by
   cases l with
   | nil=>simp [qbA] at h
   | cons rv l =>
     simp only [qbA] at h
     split at h<;>try (cases h;done)
     ·rename_i hx
      split at h<;>cases h
      rename_i hvs
      obtain ⟨y,g1,_,rfl⟩:=qfT hr hx
      obtain ⟨k0,kb,ys,k1,k2⟩:=qdU hr (rws:=rws) hvs
      refine ⟨k0,kb,.v (.pointer none)::ys,by simp only [jx,g1,k1],λ fs nB n d hB hd hfs=>?_⟩
      obtain ⟨rs',v',qd,n1,n2,n3,n4⟩:=k2 fs nB n d hB hd (hfs.imp (λ h=>⟨λ y hy=>h.1 y (List.mem_cons_of_mem _ hy),h.2⟩) λ h=>h)
      exact ⟨.nilp::rs',v',qd,.nilp n1,n2,n3,λ k=>n4 _⟩
     ·rename_i b hx
      split at h<;>try (cases h;done)
      rename_i cs hcs
      split at h<;>try (cases h;done)
      rename_i w i q1 vs ids' bs' q2 hw hvs
      simp only [Option.some.injEq,Prod.mk.injEq] at h
      obtain ⟨rfl,rfl,rfl,rfl⟩:=h
      obtain ⟨y,g1,hbn,rfl⟩:=qfT hr hx
      obtain ⟨ds,d1,d2⟩:=hr.box b cs hcs
      obtain ⟨c0,c1⟩:=qjD hr hw d2
      obtain ⟨k0,kb,ys,k1,k2⟩:=qdU hr (rws:=rws) hvs
      refine ⟨λ id hid=>(List.mem_append.1 hid).elim (c0 id) (k0 id),λ b' hb'=>(List.mem_cons.1 hb').elim (λ h=>h▸hbn) (kb b'),.ptr (m.b b) 0::ys,by simp only [jx,g1,k1],λ fs nB n d hB hd hfs=>?_⟩
      obtain ⟨n1,a1,a2,a3⟩:=c1 fs (hfs.imp (λ h=>⟨h.2.1 b (List.mem_cons_self ..) ds d1,(List.append_eq_nil_iff.1 h.2.2).1⟩) λ h=>⟨(Bool.and_eq_true _ _▸h.1:q1=true/\q2=true).1,h.2⟩)
      obtain ⟨rs',v',n2,b1,b2,b3,b4⟩:=k2 fs nB (n+1) (d+nR p) hB (by omega) (hfs.imp (λ h=>⟨λ y hy=>h.1 y (List.mem_cons_of_mem _ hy),λ b' hb'=>h.2.1 b' (List.mem_cons_of_mem _ hb'),(List.append_eq_nil_iff.1 h.2.2).2⟩) λ h=>⟨(Bool.and_eq_true _ _▸h.1:q1=true/\q2=true).2,h.2⟩)
      refine ⟨.box n p::rs',(toB p w,v'),n1++n2,.box d1 a1 b1,?_,by rw [List.filterMap_append,List.filterMap_append,a3.1,b3],λ k=>b4 _⟩
      rw [List.map_append,a2,b2]
      show _=qcD p (toC p (toB p w))++_
      rw [qhh]
 | .elt p::rs,l,v,ids,bs,q,h=>by
   cases l with
   | nil=>simp [qbA] at h
   | cons rv l =>
     simp only [qbA] at h
     split at h<;>try (cases h;done)
     ·rename_i hx
      split at h<;>cases h
      rename_i hvs
      obtain ⟨y,g1,_,rfl⟩:=qfT hr hx
      obtain ⟨k0,kb,ys,k1,k2⟩:=qdU hr (rws:=rws) hvs
      refine ⟨k0,kb,.v (.pointer none)::ys,by simp only [jx,g1,k1],λ fs nB n d hB hd hfs=>?_⟩
      obtain ⟨rs',v',qd,n1,n2,n3,n4⟩:=k2 fs nB n d hB hd (hfs.imp (λ h=>⟨λ y hy=>h.1 y (List.mem_cons_of_mem _ hy),h.2⟩) λ h=>h)
      exact ⟨.nilp::rs',v',qd,.nilp n1,n2,n3,λ k=>n4 _⟩
     ·rename_i id ver sv i cs hx
      split at h<;>try (cases h;done)
      rename_i R id' vs ids' bs' q' hR hid hvs
      split at h<;>try (cases h;done)
      rename_i hcond
      cases h
      rw [Bool.and_eq_true,Bool.and_eq_true] at hcond
      have e1:=Nat.eq_of_beq_eq_true hcond.1
      have e2:=Nat.eq_of_beq_eq_true hcond.2.1
      have e3:=Nat.eq_of_beq_eq_true hcond.2.2
      subst e3
      obtain ⟨y,g1,R',z1,z2,z3,z4,z5⟩:=qfT hr hx
      have hR':m.rw[id]? = some R:=by rw [hr.rw];exact hR
      cases hR'.symm.trans z1
      obtain ⟨k0,kb,ys,k1,k2⟩:=qdU hr (rws:=rws) hvs
      refine ⟨k0,kb,y::ys,by simp only [jx,g1,k1],λ fs nB n d hB hd hfs=>?_⟩
      obtain ⟨rs',v',qd,n1,n2,n3,n4⟩:=k2 fs nB n d hB hd (hfs.imp (λ h=>⟨λ y hy=>h.1 y (List.mem_cons_of_mem _ hy),h.2⟩) λ h=>h)
      obtain ⟨R1,R2,Q1,w1,w2,w3,⟨w4,w5⟩,w6⟩:=hB p id hid
      cases hR'.symm.trans w1
      have hg:=hr.rows id R hR'
      rcases qBZ (z5 e1) e2 with ⟨r,j,ds,s1,s2,s3,s4,s5,s6⟩ | ⟨ds,s1,s2,s3,s4⟩
      ·rw [s1] at hg w3
       obtain ⟨Q,q1,q2,q3,q4,q5,q6,q7⟩:=hg
       obtain ⟨t2,l2,ver2,sv2,sh2⟩:=R2
       simp only at w4
       subst w4
       have w5:l2=R.l:=w5
       have hjl:j<l2.length:=by rw [w5];exact s4
       have hlg:qc l2 i=some l2[j]:=by rw [s3];unfold qc;rw [if_pos (Int.natCast_nonneg j),Int.toNat_natCast,List.getElem?_eq_getElem hjl]
       refine ⟨.eltI (d-p) R.τ :: rs',((i,l2[j]),v'),qd,?_,n2,n3,λ k=>?_⟩
       ·rw [s2,s3,<- q3]
        exact .elt w3 q1 (by have:=getElem?_lt w2;omega) (q7 w6).2 (by rw [qQ q5];exact s4) n1
       ·show (match rws[p]? with
          | some R=>qa (qc R.l i) λ e=>qa8 rws rs n d vs λ r' v'=>k (.eltI (d-p) R.τ :: r') ((i,e),v')
          | none=>none)=_
        rw [w2]
        simp only [hlg,qa]
        exact n4 _
      ·have hsh:R.sh=false:=w6
       rw [s1] at hg
       have:R.l=[]:=hg hsh
       rw [this] at s3
       exact absurd s3 (Nat.lt_irrefl _)
theorem FR.len {fs:List Nat} {rws:List qM} {nB:List (Option Nat × Row)} {rs:List RE} {n d:Nat} {v:RV rs} {ys:List AV} {qd:List (Option Nat × Row)} {kb:List Nat} (h:FR σ fs rws nB rs n d v ys qd kb):∀ L,ys.length=(jf rs L v).length:=by
 induction h with
 | nil=>intro L;rfl
 | val h hf t ih=>intro L;rw [jf,List.length_cons,List.length_cons,ih L]
 | row h t ih=>intro L;rw [jf,List.length_cons,List.length_cons,ih (L+1)]
 | agg h t ih=>intro L;rw [jf,List.length_cons,List.length_cons,ih]
 | nilp t ih=>intro L;rw [jf,List.length_cons,List.length_cons,ih L]
 | box hd h t ih=>intro L;rw [jf,List.length_cons,List.length_cons,ih]
 | elt h1 h2 h3 h4 h5 t ih=>intro L;rw [jf,List.length_cons,List.length_cons,ih L]
theorem qsn {fs:List Nat} {a:Ty} {v:List (Val a)} {y:AV} {so:Option Nat} (h:qo8 σ fs a v y so):qDv σ fs so ⟨a.size,v.map (ql a),0,0,false⟩:=by
 refine ⟨rfl,rfl,Ty.size_pos a,?_,?_,?_⟩
 ·intro e he
  obtain ⟨w,_,rfl⟩:=List.mem_map.1 he
  exact Qb a w
 ·intro e he
  obtain ⟨w,_,rfl⟩:=List.mem_map.1 he
  exact z8 a w
 ·cases so with
  | none=>show v.map (ql a)=[];rw [h.1];rfl
  | some j =>
    obtain ⟨Q,_,q1,q2,q3,q4,q5⟩:=h
    refine ⟨Q,q1,q2,q3,by show Q.c.length=(v.map (ql a)).length;rw [qQ q4,List.length_map],λ i e e' h1 h2=>?_,q5⟩
    obtain ⟨w,w1,w2⟩:=Ju q4 h1
    have h2:(v.map (ql a))[i]? = some e':=h2
    rw [List.getElem?_map,w1] at h2
    cases h2
    exact qmF w2
def qo9 (σ : St) (fs:List Nat) (qd:List (Option Nat × Row)):Prop:=∀ p∈qd,qDv σ fs p.1 p.2
theorem FC.newOk {fs:List Nat} {l:List RA} {v:CV l} {ds:List AV} {qd:List (Option Nat × Row)} (h:FC σ fs l v ds qd):qo9 σ fs qd:=by
 induction h with
 | nil=>intro p h;cases h
 | val h hf t ih=>exact ih
 | row h t ih =>
   intro p hp
   rcases List.mem_cons.1 hp with rfl | hp
   ·exact qsn h
   ·exact ih p hp
theorem FR.newOk {fs:List Nat} {rws:List qM} {nB:List (Option Nat × Row)} {rs:List RE} {n d:Nat} {v:RV rs} {ys:List AV} {qd:List (Option Nat × Row)} {kb:List Nat} (h:FR σ fs rws nB rs n d v ys qd kb):qo9 σ fs qd:=by
 induction h with
 | nil=>intro p h;cases h
 | val h hf t ih=>exact ih
 | row h t ih =>
   intro p hp
   rcases List.mem_cons.1 hp with rfl | hp
   ·exact qsn h
   ·exact ih p hp
 | agg h t ih=>intro p hp;exact (List.mem_append.1 hp).elim (h.newOk p) (ih p)
 | nilp t ih=>exact ih
 | box hd h t ih=>intro p hp;exact (List.mem_append.1 hp).elim (h.newOk p) (ih p)
 | elt h1 h2 h3 h4 h5 t ih=>exact ih
theorem FB.newOk {fs:List Nat} {sas:List SA} {o:jr sas} {n:Nat} {qd:List (Option Nat × Row)} (h:FB σ fs sas o n qd):qo9 σ fs qd:=by
 induction h with
 | nil=>intro p h;cases h
 | box hd h t ih=>intro p hp;exact (List.mem_append.1 hp).elim (h.newOk p) (ih p)
 | _=>assumption
theorem qAT {Γ1:Gh} {w1:World} {mm:Nat->Nat->Option Value} {fs kb:List Nat} (h1:Inv Γ1 σ w1) {nb L p:Nat} {all:List (Option Nat × Row)} {a:Ty} {v:List (Val a)} {y:AV} {so:Option Nat} (h:qo8 σ fs a v y so) (hall:all[p]? = some (so,⟨a.size,v.map (ql a),0,0,false⟩)) {u:Value} (g1:Rep Γ1 y u):Rep (yV Γ1 mm nb kb L all) (.rs (L+p) 0 v.length 0 false) u:=by
 have hlt:p<all.length:=getElem?_lt hall
 have hnl:¬ L+p<L:=by omega
 have hsub:L+p-L=p:=by omega
 cases so with
 | some j =>
   obtain ⟨Q,rfl,q1,q2,q3,q4,q5⟩:=h
   have H:=h1.row j Q q1
   cases g1 with
   | rs _ _ _ _ _ a' cap hr hv hc hf hl =>
     have hl:=hl (H.ver (by rw [q3];exact Nat.zero_le _)).symm
     have hle:=qQ q4
     rw [hle] at hc
     rw [hle]
     show Rep (yV Γ1 mm nb kb L all) (.rs (L+p) 0 v.length 0 false) (.slice a' v.length cap)
     refine .rs _ _ _ _ _ a' cap (by show L+p<L+all.length;omega) (Nat.zero_le _) hc (λ h=>by cases h) λ _=>?_
     have ec:(yV Γ1 mm nb kb L all).cur (L+p) = Γ1.cur j:=by
      show (if L+p<L then _ else match all[L+p-L]? with | some (some j,_) => Γ1.cur j | _=>0)=_
      rw [if_neg hnl,hsub,hall]
     have es:(yV Γ1 mm nb kb L all).sz (L+p) = Γ1.sz j:=by
      show (if L+p<L then _ else match all[L+p-L]? with | some (some j,_) => Γ1.sz j | _=>0)=_
      rw [if_neg hnl,hsub,hall]
     have ek:(yV Γ1 mm nb kb L all).k (L+p) = Γ1.k j:=by
      show (if L+p<L then _ else match all[L+p-L]? with | some p=>p.2.k | none=>1)=_
      rw [if_neg hnl,hsub,hall,<- H.k,q2]
     rw [ec,es,ek]
     rw [H.off q5.2] at hl
     exact hl
 | none =>
   obtain ⟨rfl,q1,q2⟩:=h
   have hu0:∃ a',u = .slice a' 0 0:=by
    rcases jc q1 with ⟨rfl,_⟩ | ⟨es,n,rfl,hd⟩
    ·exact ⟨none,zo g1⟩
    ·have:es=[]:=List.eq_nil_of_length_eq_zero (qQ hd)
     subst this
     cases g1 with
     | sl _ _ _ a' n' cap b o us hn hc hf =>
       have h2:1<n+1:=q2
       have:=hf h2
       refine ⟨a',?_⟩
       have hn:n'=0:=hn
       rw [this,hn]
   obtain ⟨a',rfl⟩:=hu0
   refine .rs _ _ _ _ _ a' 0 (by show L+p<L+all.length;omega) (Nat.zero_le _) (Nat.le_refl _) (λ h=>by cases h) λ _=>⟨.inl rfl,by rw [Nat.add_zero,Nat.zero_mul];exact Nat.zero_le _⟩
theorem qC2 {Γ1:Gh} {w1:World} {mm:Nat->Nat->Option Value} {fs kb:List Nat} (h1:Inv Γ1 σ w1) (hm:Le Γ1 { Γ1 with mem:=mm }) (hfz:∀ r∈fs,∀ R,σ.rw[r]? = some R->jS { Γ1 with mem:=mm } r R) {nb L:Nat} {all:List (Option Nat × Row)} {a:Ty} {v:Val a} {ds:List AV} (h:Qa (ds.map (zm σ.rw)) (ql a v)) (hf:∀ x∈ds,∀ r∈rsC x,r∈fs) {us:List Value} (hu:RepL Γ1 ds us):RepL (yV Γ1 mm nb kb L all) (ql a v) us:=by
 obtain ⟨p1,p2⟩:=qab (z8 a v)
 refine qD9 (Γ := { Γ1 with mem:=mm }) (λ _ _ _ h=>h) (h.rep ?_) p1 p2
 refine ⟨by rw [List.length_map];exact hu.len,λ i x u hx hu'=>?_⟩
 rw [List.getElem?_map] at hx
 cases hxa:ds[i]? with
 | none=>rw [hxa] at hx;cases hx
 | some x0 =>
   rw [hxa] at hx;cases hx
   exact qmp h1 hm (λ r hr R hR=>hfz r (hf x0 (List.mem_of_getElem? hxa) r hr) R hR) (hu.rep i x0 u hxa hu')
theorem RepL.split {Γ : Gh} {a b:List AV} {us:List Value} (h:RepL Γ (a++b) us):RepL Γ a (us.take a.length)/\RepL Γ b (us.drop a.length):=by
 have h1:=h.take a.length
 have h2:=h.drop a.length
 rw [List.take_left] at h1
 rw [List.drop_left] at h2
 exact ⟨h1,h2⟩
theorem qjR {fs:List Nat} {l:List RA} {v:CV l} {ds:List AV} {qd:List (Option Nat × Row)} (h:FC σ fs l v ds qd):qd.length=nR l:=by
 induction h with
 | nil=>rfl
 | val h hf t ih=>exact ih
 | row h t ih=>exact congrArg (· + 1) ih
theorem FC.rep {Γ1:Gh} {w1:World} {mm:Nat->Nat->Option Value} {fs kb:List Nat} (h1:Inv Γ1 σ w1) (hm:Le Γ1 { Γ1 with mem:=mm }) (hfz:∀ r∈fs,∀ R,σ.rw[r]? = some R->jS { Γ1 with mem:=mm } r R) (nb L:Nat) (all:List (Option Nat × Row)) {l:List RA} {v:CV l} {ds:List AV} {qd:List (Option Nat × Row)} (h:FC σ fs l v ds qd) :
  ∀ (pre post:List (Option Nat × Row)),all=pre++(qd++post)->∀ us,RepL Γ1 ds us->RepL (yV Γ1 mm nb kb L all) (JG l (L+pre.length) v) us:=by
 induction h with
 | nil=>intro pre post _ us hu;rw [hu.nil_inv];exact .nil
 | @val a l v vs ds ds' qd h hf t ih =>
   intro pre post he us hu
   obtain ⟨g1,g2⟩:=hu.split
   have:=(qC2 h1 hm hfz (nb:=nb) (kb:=kb) (L:=L) (all:=all) h hf g1).append (ih pre post he _ g2)
   rw [List.take_append_drop] at this
   exact this
 | @row a l v vs y ds qd so h t ih =>
   intro pre post he us hu
   obtain ⟨u,r,rfl,g1,g2⟩:=hu.uncons
   have hall:all[pre.length]? = some (so,⟨a.size,v.map (ql a),0,0,false⟩):=by rw [he,List.getElem?_append_right (Nat.le_refl _),Nat.sub_self];rfl
   refine .cons (qAT h1 h hall g1) ?_
   have:=ih (pre++[(so,⟨a.size,v.map (ql a),0,0,false⟩)]) post (by rw [he,List.append_assoc];rfl) r g2
   rw [List.length_append] at this
   exact this
theorem FR.rep {Γ1:Gh} {w1:World} {mm:Nat->Nat->Option Value} {fs:List Nat} (h1:Inv Γ1 σ w1) (hm:Le Γ1 { Γ1 with mem:=mm }) (hfz:∀ r∈fs,∀ R,σ.rw[r]? = some R->jS { Γ1 with mem:=mm } r R) (nb L:Nat) (KB:List Nat) (all:List (Option Nat × Row)) (hall:qo9 σ fs all) {rws:List qM} {nB:List (Option Nat × Row)} (hnB:∀ (p:Nat) (x:Option Nat × Row),nB[p]? = some x->all[p]? = some x) {rs:List RE} {n d:Nat} {v:RV rs} {ys:List AV} {qd:List (Option Nat × Row)} {kb:List Nat} (h:FR σ fs rws nB rs n d v ys qd kb) :
  ∀ (pre:List (Option Nat × Row)),all=pre++qd->pre.length=d->nb<=n->(∀ (j b:Nat),kb[j]? = some b->KB[n-nb+j]? = some b)->∀ us,RepL Γ1 ys us->RepL (yV Γ1 mm nb KB L all) (jf rs (L+pre.length) v) us:=by
 induction h with
 | nil=>intro pre _ _ _ _ us hu;rw [hu.nil_inv];exact .nil
 | @val a rs v vs y ys qd n d kb h hf t ih =>
   intro pre he hd hn hk us hu
   obtain ⟨u,r,rfl,g1,g2⟩:=hu.uncons
   obtain ⟨p1,p2⟩:=qev (qgR a v)
   exact .cons (qnL (Γ := { Γ1 with mem:=mm }) (λ _ _ _ h=>h) (h _ _ (quV h1 hm (λ q hq R hR=>hfz q (hf q hq) R hR) g1)) p1 p2) (ih pre he hd hn hk r g2)
 | @row a rs v vs y ys qd so n d kb h t ih =>
   intro pre he hd hn hk us hu
   obtain ⟨u,r,rfl,g1,g2⟩:=hu.uncons
   have hall:all[pre.length]? = some (so,⟨a.size,v.map (ql a),0,0,false⟩):=by rw [he,List.getElem?_append_right (Nat.le_refl _),Nat.sub_self];rfl
   refine .cons (qAT h1 h hall g1) ?_
   have:=ih (pre++[(so,⟨a.size,v.map (ql a),0,0,false⟩)]) (by rw [he,List.append_assoc];rfl) (by rw [List.length_append,hd];rfl) hn hk r g2
   rw [List.length_append] at this
   exact this
 | @agg l rs v vs ds ys n1 n2 n d kb h t ih =>
   intro pre he hd hn hk us hu
   obtain ⟨u,r,rfl,g1,g2⟩:=hu.uncons
   refine .cons ?_ ?_
   ·cases g1 with
    | agg cs us hn' h1' hr =>
      have:=h.rep h1 hm hfz nb L (kb:=KB) all pre n2 he us ⟨hn',hr⟩
      exact .agg _ us this.len h1' this.rep
   ·have:=ih (pre++n1) (by rw [he,List.append_assoc]) (by rw [List.length_append,hd,qjR h]) hn hk r g2
    rw [List.length_append,qjR h,<- Nat.add_assoc] at this
    exact this
 | @nilp rs vs ys qd n d kb t ih =>
   intro pre he hd hn hk us hu
   obtain ⟨u,r,rfl,g1,g2⟩:=hu.uncons
   exact .cons (qnL (λ b o u h=>hm.mem b o u h) g1 rfl rfl) (ih pre he hd hn hk r g2)
 | @box l rs v vs ds ys n1 n2 n d b kb hb h t ih =>
   intro pre he hd hn hk us hu
   obtain ⟨u,r,rfl,g1,g2⟩:=hu.uncons
   have hkb:=hk 0 b rfl
   rw [Nat.add_zero] at hkb
   refine .cons ?_ ?_
   ·cases g1 with
    | ptr _ _ hlt =>
      have e:(yV Γ1 mm nb KB L all).β n = Γ1.β b:=by
       show Γ1.β (qhw nb KB n)=_
       unfold qhw
       rw [if_neg (by omega),List.getD_eq_getElem?_getD,hkb];rfl
      have:Rep (yV Γ1 mm nb KB L all) (.ptr n 0) (.pointer (some ⟨(yV Γ1 mm nb KB L all).β n,0,none⟩)) := .ptr n 0 (by show n<nb+KB.length;have:=getElem?_lt hkb;omega)
      rw [e] at this
      exact this
   ·have:=ih (pre++n1) (by rw [he,List.append_assoc]) (by rw [List.length_append,hd,qjR h]) (by omega) (λ j b' hj=>by have:=hk (j+1) b' hj;rw [<- this];congr 1;omega) r g2
    rw [List.length_append,qjR h,<- Nat.add_assoc] at this
    exact this
 | @elt rs a e vs ys qd n d p r0 j Q R kb h1' h2 h3 h4 h5 t ih =>
   intro pre he hd hn hk us hu
   obtain ⟨u,r,rfl,g1,g2⟩:=hu.uncons
   refine .cons ?_ (ih pre he hd hn hk r g2)
   have ha:=hnB p _ h1'
   have hp:=getElem?_lt ha
   have hnl:¬ L+p<L:=by omega
   have hsub:L+p-L=p:=by omega
   show Rep (yV Γ1 mm nb KB L all) (.rpt (L+pre.length-(d-p)) (((j:Nat):Int)).toNat 0 0) u
   rw [hd,show L+d-(d-p)=L+p by omega,Int.toNat_natCast]
   have H:=h1.row r0 Q h2
   obtain ⟨Q',q1,q2,_⟩:=(hall _ (List.mem_of_getElem? ha)).src
   cases h2.symm.trans q1
   cases g1 with
   | rpt _ _ _ _ A hr hv hl =>
     have hA:=hl (H.ver (H.live (List.getElem?_eq_getElem h5))).symm
     refine .rpt _ _ _ _ A (by show L+p<L+all.length;omega) (Nat.zero_le _) λ _=>?_
     have ec:(yV Γ1 mm nb KB L all).cur (L+p) = Γ1.cur r0:=by
      show (if L+p<L then _ else match all[L+p-L]? with | some (some j,_) => Γ1.cur j | _=>0)=_
      rw [if_neg hnl,hsub,ha]
     have ek:(yV Γ1 mm nb KB L all).k (L+p) = Γ1.k r0:=by
      show (if L+p<L then _ else match all[L+p-L]? with | some p=>p.2.k | none=>1)=_
      rw [if_neg hnl,hsub,ha,<- H.k,q2]
     rw [ec,ek,hA,H.off h4]
     rfl
theorem FR.boxes {Γ1:Gh} {w1:World} {mm:Nat->Nat->Option Value} {fs:List Nat} (h1:Inv Γ1 σ w1) (hm:Le Γ1 { Γ1 with mem:=mm }) (hfz:∀ r∈fs,∀ R,σ.rw[r]? = some R->jS { Γ1 with mem:=mm } r R) (nb L:Nat) (KB:List Nat) (all:List (Option Nat × Row)) {rws:List qM} {nB:List (Option Nat × Row)} {rs:List RE} {n d:Nat} {v:RV rs} {ys:List AV} {qd:List (Option Nat × Row)} {kb:List Nat} (h:FR σ fs rws nB rs n d v ys qd kb) :
  ∀ (pre:List (Option Nat × Row)),all=pre++qd->∀ (j:Nat) (cs:List AV),(jD rs (L+pre.length) v)[j]? = some cs->∃ b ds,kb[j]? = some b /\ σ.bx[b]? = some ds/\∀ us,RepL Γ1 ds us->RepL (yV Γ1 mm nb KB L all) cs us:=by
 induction h with
 | nil=>intro pre _ j cs hj;cases hj
 | val h hf t ih=>exact λ pre he j cs hj=>ih pre he j cs hj
 | @row a rs v vs y ys qd so n d kb h t ih =>
   intro pre he j cs hj
   exact ih (pre++[(so,⟨a.size,v.map (ql a),0,0,false⟩)]) (by rw [he,List.append_assoc];rfl) j cs (by rw [List.length_append];exact hj)
 | @agg l rs v vs ds ys n1 n2 n d kb h t ih =>
   intro pre he j cs hj
   exact ih (pre++n1) (by rw [he,List.append_assoc]) j cs (by rw [List.length_append,qjR h,<- Nat.add_assoc];exact hj)
 | nilp t ih=>exact λ pre he j cs hj=>ih pre he j cs hj
 | @box l rs v vs ds ys n1 n2 n d b kb hb h t ih =>
   intro pre he j cs hj
   have hj:(JG l (L+pre.length) (toC l (toB l v))::jD rs (L+pre.length+nR l) vs)[j]? = some cs:=hj
   cases j with
   | zero =>
     cases hj
     refine ⟨b,ds,rfl,hb,λ us hu=>?_⟩
     rw [qhh]
     exact h.rep h1 hm hfz nb L (kb:=KB) all pre n2 he us hu
   | succ j =>
     exact ih (pre++n1) (by rw [he,List.append_assoc]) j cs (by rw [List.length_append,qjR h,<- Nat.add_assoc];exact hj)
 | elt h1' h2 h3 h4 h5 t ih=>exact λ pre he j cs hj=>ih pre he j cs hj
theorem FR.kept {fs:List Nat} {rws:List qM} {nB:List (Option Nat × Row)} {rs:List RE} {n d:Nat} {v:RV rs} {ys:List AV} {qd:List (Option Nat × Row)} {kb:List Nat} (h:FR σ fs rws nB rs n d v ys qd kb):(∀ b∈kb,b < σ.bx.length)/\∀ L,(jD rs L v).length=kb.length:=by
 induction h with
 | nil=>exact ⟨by simp,λ _=>rfl⟩
 | val h hf t ih=>exact ih
 | row h t ih=>exact ⟨ih.1,λ L=>ih.2 (L+1)⟩
 | agg h t ih=>exact ⟨ih.1,λ L=>ih.2 _⟩
 | nilp t ih=>exact ih
 | box hd h t ih=>exact ⟨λ b' hb'=>(List.mem_cons.1 hb').elim (λ h=>h▸getElem?_lt hd) (ih.1 b'),λ L=>congrArg (· + 1) (ih.2 _)⟩
 | elt h1 h2 h3 h4 h5 t ih=>exact ih
theorem FB.rep {Γ1:Gh} {w1:World} {mm:Nat->Nat->Option Value} {fs kb:List Nat} (h1:Inv Γ1 σ w1) (hm:Le Γ1 { Γ1 with mem:=mm }) (hfz:∀ r∈fs,∀ R,σ.rw[r]? = some R->jS { Γ1 with mem:=mm } r R) (nb L:Nat) (all:List (Option Nat × Row)) {sas:List SA} {o:jr sas} {n:Nat} {qd:List (Option Nat × Row)} (h:FB σ fs sas o n qd) :
  ∀ (pre post:List (Option Nat × Row)),all=pre++(qd++post)->∀ (i:Nat) (cs:List AV),(jQ sas (L+pre.length) o)[i]? = some cs->∃ ds,σ.bx[n+i]? = some ds/\∀ us,RepL Γ1 ds us->RepL (yV Γ1 mm nb kb L all) cs us:=by
 induction h with
 | nil=>intro pre post _ i cs hi;cases hi
 | @box r l v o n ds n1 n2 hd h t ih =>
   intro pre post he i cs hi
   have he:all=pre++(n1++(n2++post)):=by rw [he,List.append_assoc]
   have hi:(JG l (L+pre.length) (toC l (toB l v))::jQ r (L+pre.length+nR l) o)[i]? = some cs:=hi
   cases i with
   | zero =>
     cases hi
     refine ⟨ds,hd,λ us hu=>?_⟩
     rw [qhh]
     exact h.rep h1 hm hfz nb L all pre (n2++post) he us hu
   | succ i =>
     obtain ⟨ds',g1,g2⟩:=ih (pre++n1) post (by rw [he,List.append_assoc]) i cs (by rw [List.length_append,qjR h,<- Nat.add_assoc];exact hi)
     exact ⟨ds',by rw [<- g1];congr 1;omega,g2⟩
 | skip1 t ih=>exact λ pre post he i cs hi=>ih pre post he i cs hi
 | skip2 t ih=>exact λ pre post he i cs hi=>ih pre post he i cs hi
 | skip3 t ih=>exact λ pre post he i cs hi=>ih pre post he i cs hi
 | skip4 t ih=>exact λ pre post he i cs hi=>ih pre post he i cs hi
theorem qEo {Γ1 Γ2:Gh} {ys zs:List AV} {u:Value} (hl:ys.length=zs.length) (h:∀ us,RepL Γ1 ys us->RepL Γ2 zs us) (hr:Rep Γ1 (zI ys) u):Rep Γ2 (zI zs) u:=by
 match ys,zs,hl with
 | [],[],_ =>
   cases hr with
   | tup cs us hn hr=>exact .tup [] us hn (h us ⟨hn,hr⟩).rep
 | [y],[z],_ =>
   obtain ⟨u',r,he,h1,_⟩:=(h [u] (.cons hr .nil)).uncons
   cases he
   exact h1
 | y::y'::ys,z::z'::zs,hl =>
   cases hr with
   | tup cs us hn hr=>exact .tup _ us (by rw [hn];exact hl) (h us ⟨hn,hr⟩).rep
theorem qDG {β : Type} {f : β -> Option Nat}:∀ {l:List β},(l.filterMap f).Nodup->∀ (a b j:Nat) (x y : β),l[a]? = some x->l[b]? = some y->f x=some j->f y=some j->a=b
 | [],_,a,b,j,x,y,h,_,_,_=>by cases h
 | z::l,hn,a,b,j,x,y,ha,hb,hx,hy=>by
   have ht:(l.filterMap f).Nodup:=by
    cases hz:f z with
    | none=>rw [List.filterMap_cons_none hz] at hn;exact hn
    | some q=>rw [List.filterMap_cons_some hz] at hn;exact (List.nodup_cons.1 hn).2
   have hout:∀ {i:Nat} {w : β},l[i]? = some w->f z=some j->f w=some j->False := λ hi hz hw=>by
    rw [List.filterMap_cons_some hz] at hn
    exact (List.nodup_cons.1 hn).1 (List.mem_filterMap.2 ⟨_,List.mem_of_getElem? hi,hw⟩)
   cases a with
   | zero =>
     cases b with
     | zero=>rfl
     | succ b=>cases ha;exact (hout hb hx hy).elim
   | succ a =>
     cases b with
     | zero=>cases hb;exact (hout ha hy hx).elim
     | succ b=>rw [qDG ht a b j x y ha hb hx hy]
theorem qDu {P:Program} {c:TC} (hC:ym P c.pc.cfg) {f:FuncId} {fn:Func} {cd:Code} (hf:P.funcs[f]? = some fn) (hb:qb6 fn=true) (hc:fn.body=some cd) (hnt:c.nt=fn.ntmps) (g:qnj) (hnp:c.np=qzr g.args) (hlen:g.args.length<=fn.ntmps)
  (h:∀ a v,g.fn a=some v->∃ n k,qm9 c (qul c g.args g.res fn.results.toList) n k [.code cd] (qgq 0 (qki g.args 0 0 a)) ⟨sBx g.args 0 a,sRw g.args a⟩=some v):zj P f (sgP g):=by
 unfold qb6 at hb
 rw [hc] at hb
 simp only [Bool.and_eq_true,Bool.not_eq_true'] at hb
 obtain ⟨hdr,hname⟩:=hb
 refine ⟨⟨fn,hf,by rw [hc];rfl,hname⟩,λ Γ σ w args vals r hi hr hp=>?_⟩
 unfold sgP at hp
 split at hp<;>try cases hp
 rename_i a ha
 split at hp<;>try cases hp
 rename_i v hv
 obtain ⟨N,k,hrun⟩:=h a v hv
 have h0:qiB ⟨λ i=>i,0,λ _=>none,λ _=>0,λ _=>[],[]⟩ σ 0 0:=⟨λ _=>rfl,rfl,λ id R h=>(by cases h),λ id r h=>absurd h (Nat.not_lt_zero _),λ id id' r h=>absurd h (Nat.not_lt_zero _),λ id R h=>(by cases h)⟩
 obtain ⟨m,nb',nr',s1,s2,s3,s4,s5,s6,s7,s8⟩:=qfR g.args ha h0
 have hal:args.length<=fn.ntmps:=Nat.le_trans s7 hlen
 have s5:0+(sBx g.args 0 a).length=nb':=s5
 have hnb : σ.bx.length=nBx g.args:=by rw [<- s3,<- s5,qjr];omega
 have hnp:c.np=nBx g.args:=hnp
 have hrel:Rel c.n2 m (qgq 0 (qki g.args 0 0 a)) ⟨sBx g.args 0 a,sRw g.args a⟩ (args++List.replicate (fn.ntmps-args.length) .dead) { σ with wr:=[],wrr:=[] }:=by
  refine ⟨by show _=c.nt;rw [List.length_append,List.length_replicate,hnt];omega,λ t=>?_,s4,by show m.nb=(sBx g.args 0 a).length;rw [s2.nb];omega,λ b cs hb=>?_,λ b b' _ _ he=>by rw [s2.b,s2.b] at he;exact he,s2.rows,s2.rinj,λ i hi=>⟨?_,s2.b i⟩⟩
  ·have:=qyy (m:=m) 0 (pre:=[]) (post:=List.replicate (fn.ntmps-args.length) .dead) s6 rfl t
   simpa using this
  ·obtain ⟨ds,d1,d2⟩:=s8 b cs hb
   rw [Nat.zero_add] at d1
   exact ⟨ds,by rw [s2.b];exact d1,d2⟩
  ·have hi:i<c.np:=hi
   rw [s2.nb,s3,hnb,<- hnp];exact hi
 have hgo:Go c.pc (λ e s=>(e = .ret\/e = .normal)/\∃ m E τ,Rel c.n2 m E τ s.tm s.σ /\ qul c g.args g.res fn.results.toList E τ = some v) [.code cd] .normal ⟨args++List.replicate (fn.ntmps-args.length) .dead,{ σ with wr:=[],wrr:=[] }⟩ :=
  qr3 (Qr := λ v e s=>(e = .ret\/e = .normal)/\∃ m E τ,Rel c.n2 m E τ s.tm s.σ /\ qul c g.args g.res fn.results.toList E τ = some v) (λ E τ r m tm σ h hr e he=>⟨he,m,E,τ,hr,h⟩) N k _ _ _ _ _ _ _ hrun hrel
 obtain ⟨n,e,s',g3,hee,m2,E2,τ2,hr2,hfin⟩:=hgo
 unfold QJ
 refine calls_of_wp hf hc ?_
 have hi':Inv Γ (qgC fn σ args).σ w:=hi.wr rfl rfl
 have ht:zq Γ (qgC fn σ args).tm { tmps:=vals.toArray++Array.replicate (fn.ntmps-vals.toArray.size) undef,defers:=[] }:=by
  show RepL Γ (args++List.replicate (fn.ntmps-args.length) .dead) (vals.toArray++Array.replicate (fn.ntmps-vals.toArray.size) undef).toList
  rw [Array.toList_append,Array.toList_replicate]
  have:vals.toArray.size=args.length:=by simpa using hr.len
  rw [this]
  exact hr.append (qff Γ _)
 refine wp_mono (qus hC n cd _ e s' hdr (qxI g3) Γ w _ hi' ht rfl) ?_
 rintro e' a' w' ⟨rfl,hd,Γ',x1,x2,x3,x4⟩
 unfold qul at hfin
 split at hfin<;>try cases hfin
 rename_i o iB q hoB
 split at hfin<;>try cases hfin
 rename_i vv ids bs q' hoR
 split at hfin<;>cases hfin
 rename_i hcond
 rw [Bool.and_eq_true,Bool.and_eq_true,Bool.and_eq_true,List.all_eq_true] at hcond
 obtain ⟨hids,hbs,ys,hys,hFR⟩:=qdU hr2 (rws:=J7 g.args o) hoR
 obtain ⟨vr,q1,q2⟩:=qnf hC.ty x2 x3 (fn:=fn) (r:=zI ys) (by unfold qhD;rw [hys])
 have hpin:∀ i,i<nBx g.args->m2.b (0+i)=0+i := λ i hi=>by rw [Nat.zero_add];exact (hr2.pin i (by rw [<- hnp] at hi;exact hi)).2
 obtain ⟨hidB,hFB⟩:=qhF hr2 g.args hoB hpin
 have hfs:∃ fs,(((∀ ds∈s'.σ.bx,∀ x∈ds,∀ r∈rsC x,r∈fs)/\iB=[])\/(q=true/\fs=[]))/\(((∀ y∈ys,∀ r∈rsA y,r∈fs)/\(∀ b∈bs,∀ ds,s'.σ.bx[m2.b b]? = some ds->∀ x∈ds,∀ r∈rsC x,r∈fs)/\ids=[])\/(q'=true/\fs=[])):=by
  rcases Bool.or_eq_true_iff.1 hcond.2.1 with hc | hc
  ·have hc:iB++ids=[]:=by simpa [List.isEmpty_iff] using hc
   obtain ⟨hc1,hc2⟩:=List.append_eq_nil_iff.1 hc
   exact ⟨(s'.σ.bx.flatMap λ ds=>ds.flatMap rsC)++ys.flatMap rsA,.inl ⟨λ ds hds x hx r hr=>List.mem_append.2 (.inl (List.mem_flatMap.2 ⟨ds,hds,List.mem_flatMap.2 ⟨x,hx,hr⟩⟩)),hc1⟩,.inl ⟨λ y hy r hr=>List.mem_append.2 (.inr (List.mem_flatMap.2 ⟨y,hy,hr⟩)),λ b _ ds hds x hx r hr=>List.mem_append.2 (.inl (List.mem_flatMap.2 ⟨ds,List.mem_of_getElem? hds,List.mem_flatMap.2 ⟨x,hx,hr⟩⟩)),hc2⟩⟩
  ·rw [Bool.and_eq_true] at hc
   exact ⟨[],.inr ⟨hc.1,rfl⟩,.inr ⟨hc.2,rfl⟩⟩
 obtain ⟨fs,f1,f2⟩:=hfs
 obtain ⟨nB,b1,b2,b3⟩:=hFB fs f1
 have hlB:nB.length=nrB g.args:=by rw [<- qa2 g.args o,<- b2,List.length_map]
 obtain ⟨rs',v',nE,n1,n2,n3,n4⟩:=hFR fs nB (nBx g.args) (nrB g.args) (qKB hr2 hoB b3.2) (by rw [qaI];exact Nat.le_refl _) f2
 rw [n4] at hp
 cases hp
 have hnd:((nB++nE).filterMap (·.1)).Nodup:=by
  rw [List.filterMap_append,b3.1,n3,<- List.filterMap_append]
  have hid:∀ id∈iB++ids,id<m2.rw.length := λ id h=>(List.mem_append.1 h).elim (hidB id) (hids id)
  exact qxD (qkv hcond.1) λ x hx y hy q e1 e2=>hr2.rinj x y q (hid x hx) (hid y hy) e1 e2
 have hnw:qo9 s'.σ fs (nB++nE) := λ p hp=>(List.mem_append.1 hp).elim (b1.newOk p) (n1.newOk p)
 obtain ⟨kp1,kp2⟩:=n1.kept
 have hkn:(bs.map m2.b).Nodup:=qsy (qkv hcond.2.2.1) λ a ha b hb he=>hr2.inj a b (hbs a ha) (hbs b hb) he
 have hkl:∀ b∈bs.map m2.b,σ.bx.length<=b/\b<s'.σ.bx.length := λ b hb=>by
  refine ⟨?_,kp1 b hb⟩
  obtain ⟨b0,h1,rfl⟩:=List.mem_map.1 hb
  have hge:=Nat.le_of_ble_eq_true (hcond.2.2.2 b0 h1)
  rw [hnb]
  refine Nat.le_of_not_lt λ hlt=>?_
  have e1:=hpin (m2.b b0) hlt
  rw [Nat.zero_add] at e1
  have:=hr2.inj (m2.b b0) b0 (hr2.pin _ (by show _<c.np;rw [hnp];exact hlt)).1 (hbs b0 h1) e1
  omega
 obtain ⟨mm,z1,z2,z3,z4⟩:=qsi (σ0 := σ) hi x1 x2 x4.bl (jQ g.args σ.rw.length o++jD rs' (σ.rw.length+nrB g.args) v') (bs.map m2.b) (by rw [List.length_append,qas,hnb,kp2]) hkl hkn fs (nB++nE) (λ i cs hics=>by
  by_cases hin:i < σ.bx.length
  ·rw [List.getElem?_append_left (by rw [qas,<- hnb];exact hin)] at hics
   have hics:(jQ g.args (σ.rw.length+0) o)[i]? = some cs:=hics
   have hil:i<s'.σ.bx.length:=Nat.lt_of_lt_of_le hin x4.bl
   have hbm:qhw σ.bx.length (bs.map m2.b) i=i:=if_pos hin
   rw [hbm]
   refine ⟨s'.σ.bx[i],List.getElem?_eq_getElem hil,λ m fz hfr us hu=>?_⟩
   obtain ⟨ds',d1,d2⟩:=b1.rep x2 fz.le hfr σ.bx.length σ.rw.length (kb:=bs.map m2.b) (nB++nE) [] nE rfl i cs hics
   rw [Nat.zero_add,List.getElem?_eq_getElem hil] at d1
   cases d1
   exact d2 us hu
  ·rw [List.getElem?_append_right (by rw [qas,<- hnb];omega),qas,<- hnb,<- hlB] at hics
   have hics0:=hics
   have hjl:=getElem?_lt hics
   rw [kp2] at hjl
   obtain ⟨b,k1⟩:∃ b,(bs.map m2.b)[i - σ.bx.length]? = some b:=⟨_,List.getElem?_eq_getElem hjl⟩
   obtain ⟨ds,k2⟩:∃ ds,s'.σ.bx[b]? = some ds:=⟨_,List.getElem?_eq_getElem (kp1 _ (List.mem_of_getElem? k1))⟩
   refine ⟨ds,?_,λ m fz hfr us hu=>?_⟩
   ·unfold qhw
    rw [if_neg hin,List.getD_eq_getElem?_getD,k1]
    exact k2
   ·obtain ⟨b',ds',k1',k2',k3'⟩:=n1.boxes x2 fz.le hfr σ.bx.length σ.rw.length (bs.map m2.b) (nB++nE) nB rfl _ cs hics0
    cases k1.symm.trans k1'
    cases k2.symm.trans k2'
    exact k3' us hu) (λ a so R h=>hnw (so,R) (List.mem_of_getElem? h)) (λ a b j R R' h1 h2=>qDG hnd a b j _ _ h1 h2 rfl rfl) (List.range σ.bx.length) (List.range σ.rw.length)
 have hrep:Rep (yV Γ' mm σ.bx.length (bs.map m2.b) σ.rw.length (nB++nE)) (zI (jf rs' (σ.rw.length+nrB g.args) v')) vr:=by
  refine qEo (n1.len _) (λ us hu=>?_) q2
  rw [<- hlB]
  exact n1.rep x2 z1.le z2 σ.bx.length σ.rw.length (bs.map m2.b) (nB++nE) hnw (λ p x hx=>by rw [List.getElem?_append_left (getElem?_lt hx)];exact hx) nB rfl hlB (by rw [hnb];exact Nat.le_refl _) (λ j b hj=>by rw [hnb,Nat.sub_self,Nat.zero_add];exact hj) us hu
 rw [List.map_append,b2,n2] at z4
 have hkeep:qV { σ with wr:=[],wrr:=[] } ⟨jQ g.args σ.rw.length o++jD rs' (σ.rw.length+nrB g.args) v',σ.rw.map Qn++(jT g.args o++jB rs' v'),List.range σ.bx.length,List.range σ.rw.length⟩:=by
  refine ⟨by show σ.bx.length<=(jQ g.args σ.rw.length o++_).length;rw [List.length_append,qas,hnb];exact Nat.le_add_right _ _,by show σ.rw.length<=(σ.rw.map Qn++_).length;rw [List.length_append,List.length_map];exact Nat.le_add_right _ _,λ i hi hn=>absurd (List.mem_range.2 hi) hn,λ i hi hn=>absurd (List.mem_range.2 hi) hn,λ i h=>(by cases h),λ i h=>(by cases h)⟩
 have fin:a'.defers=[]/\∃ v,(results fn a'.tmps).run P w' = .ok v w'/\∃ v_1 Γ',Ending.returned v = .returned v_1/\Ext Γ w Γ' w'/\Inv Γ' ⟨jQ g.args σ.rw.length o++jD rs' (σ.rw.length+nrB g.args) v',σ.rw.map Qn++(jT g.args o++jB rs' v'),List.range σ.bx.length,List.range σ.rw.length⟩ w'/\Rep Γ' (zI (jf rs' (σ.rw.length+nrB g.args) v')) v_1/\qV { σ with wr:=[],wrr:=[] } ⟨jQ g.args σ.rw.length o++jD rs' (σ.rw.length+nrB g.args) v',σ.rw.map Qn++(jT g.args o++jB rs' v'),List.range σ.bx.length,List.range σ.rw.length⟩ :=
  ⟨hd,vr,q1,vr,_,rfl,z3,z4,hrep,hkeep⟩
 rcases hee with rfl | rfl
 ·exact fin
 ·exact fin
end
end Go.AmZ
namespace Go.AmZ
open Go Go.RowKit Go.GxZ
def qY {α : Type} (z : α) (s : α -> α):Nat -> α := λ k=>Nat.rec (motive := λ _ => α) z (λ _ ih=>s ih) k
def qf {α : Type} (z : α) (s:Nat -> α -> α):Nat -> α := λ k=>Nat.rec (motive := λ _ => α) z (λ m ih=>s m ih) k
abbrev Y8:=List UInt8
abbrev TL:=List T
def qtC:Nat:=4000
def qmH (r:Nat):Code->List It->Option (List It)
 | .seq a b,k=>match qmH r a (.code b::k) with
   | some x=>some x
   | none=>qmH r b k
 | .cond _ a b,k=>match qmH r a k with
   | some x=>some x
   | none=>qmH r b k
 | .block id b,k=>qmH r b (.blk id::k)
 | .loop b,k=>match Nat.beq (qdV b) r with
   | true=>some (.code (.loop b)::k)
   | false=>qmH r b (.code (.loop b)::k)
 | _,_=>none
def qpJ (f:Func):Code:=match f.body with
 | some c=>c
 | none => .skip
def stL (f:Func) (r:Nat):List It:=match qmH r (qpJ f) [] with
 | some x=>x
 | none=>[]
def qmn:List Nat->List Nat->Bool
 | [],[]=>true
 | a::l,b::m=>Nat.beq a b&&qmn l m
 | _,_=>false
def qu2 (a b:List Nat) (x y:Option Sig):Option Sig:=cond (qmn a b) x y
def qHD (f:Nat):List Nat->Bool
 | []=>false
 | a::l=>cond (Nat.beq a f) true (qHD f l)
theorem qpo:∀ {a b:List Nat},qmn a b=true->a=b
 | [],[],_=>rfl
 | a::l,b::m,h=>by
   simp only [qmn,Bool.and_eq_true] at h
   rw [Nat.eq_of_beq_eq_true h.1,qpo h.2]
 | [],_::_,h=>by cases h
 | _::_,[],h=>by cases h
theorem qv0 {a b:List Nat} {x y:Option Sig} {g:Sig} (h:qu2 a b x y=some g):(a=b/\x=some g)\/y=some g:=by
 unfold qu2 at h
 cases hb:qmn a b with
 | true=>rw [hb] at h;exact .inl ⟨qpo hb,h⟩
 | false=>rw [hb] at h;exact .inr h
def qum:(ts:List ATy)->qa1 ts->List Nat->List TV
 | [],_,_=>[]
 | .val τ :: r,a,gs=>qrZ τ a.1::qum r a.2 gs
 | .fn::r,a,g::gs => .fn g []::qum r a gs
 | .fn::r,a,[] => .dead::qum r a []
def jN:(ts:List ATy)->qa1 ts->List Nat->List AV
 | [],_,_=>[]
 | .val τ :: r,a,gs=>yG τ a.1::jN r a.2 gs
 | .fn::r,a,g::gs => .fn g []::jN r a gs
 | .fn::r,a,[] => .dead::jN r a []
theorem qlo:∀ (ts:List ATy) (a:qa1 ts) (gs:List Nat),(jN ts a gs).length=ts.length
 | [],_,_=>rfl
 | .val τ :: r,a,gs=>by simp [jN,qlo r]
 | .fn::r,a,g::gs=>by simp [jN,qlo r]
 | .fn::r,a,[]=>by simp [jN,qlo r]
theorem qnP {m:Mp}:∀ (ts:List ATy) (a:qa1 ts) (gs:List Nat),OKL m (qum ts a gs) (jN ts a gs)
 | [],_,_=>rfl
 | .val τ :: r,a,gs=>⟨_,_,rfl,qpZ τ a.1,qnP r a.2 gs⟩
 | .fn::r,a,g::gs=>⟨_,_,rfl,⟨[],rfl,rfl⟩,qnP r a gs⟩
 | .fn::r,a,[]=>⟨_,_,rfl,trivial,qnP r a []⟩
theorem qkU:∀ (ts:List ATy) {ys:List AV} {a:qa1 ts},qcY ts ys=some a->Qa ys (jN ts a (qeR ys))
 | [],ys,a,h=>by
   cases ys with
   | nil=>exact .nil
   | cons y ys=>cases h
 | .val τ :: r,ys,a,h=>by
   obtain ⟨y,ys,rfl,h1,h2⟩:=qvO h
   have hf:qeR (y::ys)=qeR ys:=by
    have:=(qb5 h1).2
    cases y<;>first | rfl | exact absurd rfl (this _ _)
   rw [hf]
   exact .cons (qqc h1) (qkU r h2)
 | .fn::r,ys,a,h=>by
   change dFn _ ys=_ at h
   unfold dFn at h
   split at h
   case h_2=>cases h
   exact .cons (.refl _) (qkU r h)
theorem qaY {P:Program} {f:FuncId} {fn:Func} (hf:P.funcs[f]? = some fn) (hb:qb6 fn=true):qfA P f:=by
 unfold qb6 at hb
 cases hc:fn.body with
 | none=>rw [hc] at hb;cases hb
 | some cd =>
   rw [hc] at hb
   simp only [Bool.and_eq_true,Bool.not_eq_true'] at hb
   exact ⟨fn,hf,by rw [hc];rfl,hb.2⟩
theorem qEk {P:Program} {c:TC} {f:FuncId} (hf:qfA P f) (h:∀ gs g a,c.pf f gs=some g->g.fn a=none):zj P f (Q5 (yZ c f)):=by
 refine ⟨hf,λ Γ σ w args vals r hi hr hp=>?_⟩
 have:∀ ys,yZ c f ys=none:=by
  intro ys
  unfold yZ
  split
  ·rename_i g hg
   split
   ·rename_i a ha
    rw [h _ g a hg]
   ·rfl
  ·rfl
 unfold Q5 at hp
 split at hp<;>try cases hp
 rw [this] at hp
 cases hp
theorem qtM {P:Program} {f:FuncId} {g:qnj} (hf:qfA P f) (h:∀ a,g.fn a=none):zj P f (sgP g):=by
 refine ⟨hf,λ Γ σ w args vals r hi hr hp=>?_⟩
 unfold sgP at hp
 split at hp<;>try cases hp
 rw [h] at hp
 cases hp
theorem qFn {P:Program} {c:TC} (hC:ym P c.pc.cfg) {f:FuncId} {fn:Func} {cd:Code} (hf:P.funcs[f]? = some fn) (hb:qb6 fn=true) (hc:fn.body=some cd) (hnt:c.nt=fn.ntmps) (g:qnj) (hnp:c.np=qzr g.args) (hlen:g.args.length<=fn.ntmps)
  (h:∃ N k,∀ a,g.fn a=qm9 c (qul c g.args g.res fn.results.toList) N k [.code cd] (qgq 0 (qki g.args 0 0 a)) ⟨sBx g.args 0 a,sRw g.args a⟩):zj P f (sgP g):=by
 obtain ⟨N,k,h⟩:=h
 exact qDu hC hf hb hc hnt g hnp hlen λ a v hv=>⟨N,k,by rw [<- h a];exact hv⟩
theorem qDJ {P:Program} {c:TC} (hm:P.follows .mixedOrders=true) (ht:∀ t d,c.ty t=some d->jk P t=some d) (h:∀ f,c.has f=true->zj P f (Q5 (yZ c f))) (h2:∀ f g,c.sf f=some g->zj P f (sgP g)) (h3:∀ f g,c.mf f=some g->zj P f (mgP g)) (h4:∀ f g,c.xf f=some g->zj P f (xgP g)):ym P c.pc.cfg:=by
 refine ⟨hm,ht,(λ f fn h=>by cases h),λ f p hp=>?_⟩
 have hp:c.pc.prim f=some p:=hp
 unfold PC.prim at hp
 have e1:c.pc.pf f=match c.has f with | true=>some (yZ c f) | false=>none:=rfl
 have e2:c.pc.sp f=c.spf f:=rfl
 rw [e1,e2] at hp
 unfold TC.spf at hp
 cases hh:c.has f with
 | true =>
   rw [hh] at hp
   cases hp
   exact h f hh
 | false =>
   rw [hh] at hp
   cases hmf:c.mf f with
   | some g =>
     rw [hmf] at hp
     cases hp
     exact h3 f g hmf
   | none =>
     rw [hmf] at hp
     cases hxf:c.xf f with
     | some g =>
       rw [hxf] at hp
       cases hp
       exact h4 f g hxf
     | none =>
       rw [hxf] at hp
       cases hg:c.sf f with
       | none=>rw [hg] at hp;cases hp
       | some g =>
         rw [hg] at hp
         cases hp
         exact h2 f g hg
end Go.AmZ
namespace Go.AmZ
open Go
inductive qkp where
 | leaf
 | node (k:Nat) (d:TD) (l r:qkp)
def qkp.get:qkp->Nat->Option TD
 | .leaf,_=>none
 | .node k d l r,t=>match Nat.beq t k with
   | true=>some d
   | false=>match Nat.blt t k with
     | true=>l.get t
     | false=>r.get t
def qkp.ok (P:Program):qkp->Prop
 | .leaf=>True
 | .node k d l r=>jk P k=some d/\l.ok P/\r.ok P
theorem qkp.get_ok {P:Program}:∀ {x:qkp} {t:Nat} {d:TD},x.ok P->x.get t=some d->jk P t=some d
 | .leaf,t,d,_,h=>by cases h
 | .node k d' l r,t,d,⟨h1,h2,h3⟩,h=>by
   simp only [qkp.get] at h
   split at h
   ·rename_i hb
    cases h
    rw [Nat.eq_of_beq_eq_true hb];exact h1
   ·split at h
    ·exact get_ok h2 h
    ·exact get_ok h3 h
def qEn:qkp:=(.node 76 ⟨4,40,true,[Value.int IntKind.i64 (0),Value.int IntKind.i64 (0),Value.string { data:={ toList:=[] } },Value.bool false],TK.struct [(0,1,false),(1,1,false),(2,1,false),(3,1,false)]⟩
 (.node 22 ⟨1,24,false,[Value.slice none 0 0],TK.slice 24 4 56 [Value.int IntKind.i64 (0),Value.string { data:={ toList:=[] } },Value.int IntKind.i64 (0),Value.slice none 0 0]⟩
 (.node 12 ⟨1,8,false,[Value.int IntKind.u64 (0)],TK.int IntKind.u64⟩
 (.node 7 ⟨4,24,true,[Value.int IntKind.i64 (0),Value.int IntKind.i64 (0),Value.bool false,Value.int IntKind.u8 (0)],TK.struct [(0,1,false),(1,1,false),(2,1,false),(3,1,false)]⟩
 (.node 4 ⟨1,1,false,[Value.bool false],TK.bool⟩
 (.node 3 ⟨1,8,false,[Value.int IntKind.i64 (0)],TK.int IntKind.i64⟩
 (.node 2 ⟨1,8,false,[Value.int IntKind.i64 (0)],TK.int IntKind.i64⟩
 .leaf
 .leaf)
 .leaf)
 (.node 6 ⟨1,1,false,[Value.int IntKind.u8 (0)],TK.int IntKind.u8⟩
 (.node 5 ⟨1,1,false,[Value.int IntKind.u8 (0)],TK.int IntKind.u8⟩
 .leaf
 .leaf)
 .leaf))
 (.node 10 ⟨1,16,false,[Value.string { data:={ toList:=[] } }],TK.string⟩
 (.node 9 ⟨1,16,false,[Value.string { data:={ toList:=[] } }],TK.string⟩
 (.node 8 ⟨4,24,true,[Value.int IntKind.i64 (0),Value.int IntKind.i64 (0),Value.bool false,Value.int IntKind.u8 (0)],TK.struct [(0,1,false),(1,1,false),(2,1,false),(3,1,false)]⟩
 .leaf
 .leaf)
 .leaf)
 (.node 11 ⟨1,16,false,[Value.string { data:={ toList:=[] } }],TK.string⟩
 .leaf
 .leaf)))
 (.node 17 ⟨1,8,false,[Value.pointer none],TK.ptr⟩
 (.node 15 ⟨1,8,false,[Value.pointer none],TK.ptr⟩
 (.node 14 ⟨2,24,true,[Value.string { data:={ toList:=[] } },Value.int IntKind.u64 (0)],TK.struct [(0,1,false),(1,1,false)]⟩
 (.node 13 ⟨2,24,true,[Value.string { data:={ toList:=[] } },Value.int IntKind.u64 (0)],TK.struct [(0,1,false),(1,1,false)]⟩
 .leaf
 .leaf)
 .leaf)
 (.node 16 ⟨1,8,false,[Value.pointer none],TK.ptr⟩
 .leaf
 .leaf))
 (.node 20 ⟨1,16,false,[Value.nilIface],TK.other⟩
 (.node 19 ⟨1,8,true,[Value.pointer none],TK.struct [(0,1,false)]⟩
 (.node 18 ⟨1,8,true,[Value.pointer none],TK.struct [(0,1,false)]⟩
 .leaf
 .leaf)
 .leaf)
 (.node 21 ⟨1,4,false,[Value.int IntKind.i32 (0)],TK.int IntKind.i32⟩
 .leaf
 .leaf))))
 (.node 53 ⟨9,96,true,[Value.int IntKind.u8 (0),Value.int IntKind.i64 (0),Value.int IntKind.i64 (0),Value.int IntKind.u8 (0),Value.int IntKind.i64 (0),Value.string { data:={ toList:=[] } },Value.int IntKind.i64 (0),Value.slice none 0 0,Value.int IntKind.u8 (0)],TK.struct [(0,1,false),(1,1,false),(2,1,false),(3,1,false),(4,4,true),(8,1,false)]⟩
 (.node 30 ⟨1,8,false,[Value.int IntKind.i64 (0)],TK.int IntKind.i64⟩
 (.node 25 ⟨3,16,true,[Value.int IntKind.i64 (0),Value.int IntKind.u8 (0),Value.bool false],TK.struct [(0,1,false),(1,1,false),(2,1,false)]⟩
 (.node 24 ⟨4,56,true,[Value.int IntKind.i64 (0),Value.string { data:={ toList:=[] } },Value.int IntKind.i64 (0),Value.slice none 0 0],TK.struct [(0,1,false),(1,1,false),(2,1,false),(3,1,false)]⟩
 (.node 23 ⟨4,56,true,[Value.int IntKind.i64 (0),Value.string { data:={ toList:=[] } },Value.int IntKind.i64 (0),Value.slice none 0 0],TK.struct [(0,1,false),(1,1,false),(2,1,false),(3,1,false)]⟩
 .leaf
 .leaf)
 .leaf)
 (.node 29 ⟨1,8,false,[Value.pointer none],TK.ptr⟩
 (.node 26 ⟨3,16,true,[Value.int IntKind.i64 (0),Value.int IntKind.u8 (0),Value.bool false],TK.struct [(0,1,false),(1,1,false),(2,1,false)]⟩
 .leaf
 .leaf)
 .leaf))
 (.node 49 ⟨2,32,true,[Value.int IntKind.i64 (0),Value.slice none 0 0],TK.struct [(0,1,false),(1,1,false)]⟩
 (.node 48 ⟨1,24,false,[Value.slice none 0 0],TK.slice 63 4 40 [Value.int IntKind.i64 (0),Value.int IntKind.i64 (0),Value.string { data:={ toList:=[] } },Value.bool false]⟩
 (.node 46 ⟨1,24,false,[Value.slice none 0 0],TK.slice 54 9 96 [Value.int IntKind.u8 (0),Value.int IntKind.i64 (0),Value.int IntKind.i64 (0),Value.int IntKind.u8 (0),Value.int IntKind.i64 (0),Value.string { data:={ toList:=[] } },Value.int IntKind.i64 (0),Value.slice none 0 0,Value.int IntKind.u8 (0)]⟩
 .leaf
 .leaf)
 .leaf)
 (.node 50 ⟨2,32,true,[Value.int IntKind.i64 (0),Value.slice none 0 0],TK.struct [(0,1,false),(1,1,false)]⟩
 .leaf
 .leaf)))
 (.node 63 ⟨4,40,true,[Value.int IntKind.i64 (0),Value.int IntKind.i64 (0),Value.string { data:={ toList:=[] } },Value.bool false],TK.struct [(0,1,false),(1,1,false),(2,1,false),(3,1,false)]⟩
 (.node 61 ⟨1,24,false,[Value.slice none 0 0],TK.slice 4 1 1 [Value.bool false]⟩
 (.node 56 ⟨1,8,false,[Value.pointer none],TK.ptr⟩
 (.node 54 ⟨9,96,true,[Value.int IntKind.u8 (0),Value.int IntKind.i64 (0),Value.int IntKind.i64 (0),Value.int IntKind.u8 (0),Value.int IntKind.i64 (0),Value.string { data:={ toList:=[] } },Value.int IntKind.i64 (0),Value.slice none 0 0,Value.int IntKind.u8 (0)],TK.struct [(0,1,false),(1,1,false),(2,1,false),(3,1,false),(4,4,true),(8,1,false)]⟩
 .leaf
 .leaf)
 .leaf)
 (.node 62 ⟨4,40,true,[Value.int IntKind.i64 (0),Value.int IntKind.i64 (0),Value.string { data:={ toList:=[] } },Value.bool false],TK.struct [(0,1,false),(1,1,false),(2,1,false),(3,1,false)]⟩
 .leaf
 .leaf))
 (.node 72 ⟨2,32,true,[Value.int IntKind.i64 (0),Value.slice none 0 0],TK.struct [(0,1,false),(1,1,false)]⟩
 (.node 71 ⟨1,24,false,[Value.slice none 0 0],TK.slice 77 4 40 [Value.int IntKind.i64 (0),Value.int IntKind.i64 (0),Value.string { data:={ toList:=[] } },Value.bool false]⟩
 (.node 66 ⟨1,24,false,[Value.slice none 0 0],TK.slice 3 1 8 [Value.int IntKind.i64 (0)]⟩
 .leaf
 .leaf)
 .leaf)
 (.node 73 ⟨2,32,true,[Value.int IntKind.i64 (0),Value.slice none 0 0],TK.struct [(0,1,false),(1,1,false)]⟩
 .leaf
 .leaf)))))
 (.node 158 ⟨5,64,true,[Value.int IntKind.i64 (0),Value.string { data:={ toList:=[] } },Value.int IntKind.i64 (0),Value.slice none 0 0,Value.int IntKind.i64 (0)],TK.struct [(0,4,true),(4,1,false)]⟩
 (.node 114 ⟨1,24,false,[Value.slice none 0 0],TK.slice 116 3 32 [Value.string { data:={ toList:=[] } },Value.int IntKind.i64 (0),Value.int IntKind.i64 (0)]⟩
 (.node 98 ⟨1,8,false,[Value.pointer none],TK.ptr⟩
 (.node 83 ⟨1,24,false,[Value.slice none 0 0],TK.slice 5 1 1 [Value.int IntKind.u8 (0)]⟩
 (.node 80 ⟨1,8,false,[Value.pointer none],TK.ptr⟩
 (.node 77 ⟨4,40,true,[Value.int IntKind.i64 (0),Value.int IntKind.i64 (0),Value.string { data:={ toList:=[] } },Value.bool false],TK.struct [(0,1,false),(1,1,false),(2,1,false),(3,1,false)]⟩
 .leaf
 .leaf)
 .leaf)
 (.node 95 ⟨1,8,false,[Value.int IntKind.u64 (0)],TK.int IntKind.u64⟩
 (.node 88 ⟨1,4,false,[Value.int IntKind.u32 (0)],TK.int IntKind.u32⟩
 .leaf
 .leaf)
 .leaf))
 (.node 110 ⟨4,40,true,[Value.string { data:={ toList:=[] } },Value.int IntKind.i64 (0),Value.int IntKind.i64 (0),Value.int IntKind.i64 (0)],TK.struct [(0,1,false),(1,1,false),(2,1,false),(3,1,false)]⟩
 (.node 100 ⟨3,32,true,[Value.string { data:={ toList:=[] } },Value.int IntKind.i64 (0),Value.bool false],TK.struct [(0,1,false),(1,1,false),(2,1,false)]⟩
 (.node 99 ⟨3,32,true,[Value.string { data:={ toList:=[] } },Value.int IntKind.i64 (0),Value.bool false],TK.struct [(0,1,false),(1,1,false),(2,1,false)]⟩
 .leaf
 .leaf)
 .leaf)
 (.node 111 ⟨4,40,true,[Value.string { data:={ toList:=[] } },Value.int IntKind.i64 (0),Value.int IntKind.i64 (0),Value.int IntKind.i64 (0)],TK.struct [(0,1,false),(1,1,false),(2,1,false),(3,1,false)]⟩
 .leaf
 .leaf)))
 (.node 122 ⟨5,64,true,[Value.int IntKind.i64 (0),Value.string { data:={ toList:=[] } },Value.int IntKind.i64 (0),Value.slice none 0 0,Value.int IntKind.i64 (0)],TK.struct [(0,4,true),(4,1,false)]⟩
 (.node 119 ⟨1,24,false,[Value.slice none 0 0],TK.slice 9 1 16 [Value.string { data:={ toList:=[] } }]⟩
 (.node 116 ⟨3,32,true,[Value.string { data:={ toList:=[] } },Value.int IntKind.i64 (0),Value.int IntKind.i64 (0)],TK.struct [(0,1,false),(1,1,false),(2,1,false)]⟩
 (.node 115 ⟨3,32,true,[Value.string { data:={ toList:=[] } },Value.int IntKind.i64 (0),Value.int IntKind.i64 (0)],TK.struct [(0,1,false),(1,1,false),(2,1,false)]⟩
 .leaf
 .leaf)
 .leaf)
 (.node 121 ⟨5,64,true,[Value.int IntKind.i64 (0),Value.string { data:={ toList:=[] } },Value.int IntKind.i64 (0),Value.slice none 0 0,Value.int IntKind.i64 (0)],TK.struct [(0,4,true),(4,1,false)]⟩
 .leaf
 .leaf))
 (.node 132 ⟨1,24,false,[Value.slice none 0 0],TK.slice 111 4 40 [Value.string { data:={ toList:=[] } },Value.int IntKind.i64 (0),Value.int IntKind.i64 (0),Value.int IntKind.i64 (0)]⟩
 (.node 126 ⟨1,8,false,[Value.pointer none],TK.ptr⟩
 (.node 124 ⟨1,24,false,[Value.slice none 0 0],TK.slice 122 5 64 [Value.int IntKind.i64 (0),Value.string { data:={ toList:=[] } },Value.int IntKind.i64 (0),Value.slice none 0 0,Value.int IntKind.i64 (0)]⟩
 .leaf
 .leaf)
 .leaf)
 (.node 139 ⟨1,24,false,[Value.slice none 0 0],TK.slice 159 5 64 [Value.int IntKind.i64 (0),Value.string { data:={ toList:=[] } },Value.int IntKind.i64 (0),Value.slice none 0 0,Value.int IntKind.i64 (0)]⟩
 .leaf
 .leaf))))
 (.node 207 ⟨0,0,true,[],TK.struct [(0,0,true)]⟩
 (.node 189 ⟨1,8,false,[Value.pointer none],TK.ptr⟩
 (.node 175 ⟨1,8,false,[Value.int IntKind.u64 (0)],TK.int IntKind.u64⟩
 (.node 166 ⟨1,8,false,[Value.int IntKind.i64 (0)],TK.int IntKind.i64⟩
 (.node 159 ⟨5,64,true,[Value.int IntKind.i64 (0),Value.string { data:={ toList:=[] } },Value.int IntKind.i64 (0),Value.slice none 0 0,Value.int IntKind.i64 (0)],TK.struct [(0,4,true),(4,1,false)]⟩
 .leaf
 .leaf)
 .leaf)
 (.node 184 ⟨1,8,false,[Value.int IntKind.u64 (0)],TK.int IntKind.u64⟩
 (.node 178 ⟨1,24,false,[Value.slice none 0 0],TK.slice 22 1 24 [Value.slice none 0 0]⟩
 .leaf
 .leaf)
 .leaf))
 (.node 205 ⟨4,40,true,[Value.pointer none,Value.pointer none,Value.pointer none,Value.string { data:={ toList:=[] } }],TK.struct [(0,1,false),(1,1,false),(2,1,false),(3,1,false)]⟩
 (.node 204 ⟨4,40,true,[Value.pointer none,Value.pointer none,Value.pointer none,Value.string { data:={ toList:=[] } }],TK.struct [(0,1,false),(1,1,false),(2,1,false),(3,1,false)]⟩
 (.node 197 ⟨1,8,false,[Value.pointer none],TK.ptr⟩
 .leaf
 .leaf)
 .leaf)
 (.node 206 ⟨0,0,true,[],TK.array 0 16 1⟩
 .leaf
 .leaf)))
 (.node 214 ⟨1,4,false,[Value.int IntKind.i32 (0)],TK.int IntKind.i32⟩
 (.node 211 ⟨1,1,false,[Value.int IntKind.u8 (0)],TK.int IntKind.u8⟩
 (.node 210 ⟨1,1,false,[Value.int IntKind.u8 (0)],TK.int IntKind.u8⟩
 (.node 208 ⟨0,0,true,[],TK.struct [(0,0,true)]⟩
 .leaf
 .leaf)
 .leaf)
 (.node 213 ⟨1,8,false,[Value.pointer none],TK.ptr⟩
 .leaf
 .leaf))
 (.node 217 ⟨11,48,true,[Value.int IntKind.u64 (0),Value.int IntKind.u64 (0),Value.int IntKind.u32 (0),Value.int IntKind.u8 (0),Value.int IntKind.u8 (0),Value.int IntKind.u8 (0),Value.int IntKind.u8 (0),Value.nilFunc,Value.pointer none,Value.int IntKind.i32 (0),Value.int IntKind.i32 (0)],TK.struct [(0,1,false),(1,1,false),(2,1,false),(3,1,false),(4,1,false),(5,1,false),(6,1,false),(7,1,false),(8,1,false),(9,1,false),(10,1,false)]⟩
 (.node 216 ⟨11,48,true,[Value.int IntKind.u64 (0),Value.int IntKind.u64 (0),Value.int IntKind.u32 (0),Value.int IntKind.u8 (0),Value.int IntKind.u8 (0),Value.int IntKind.u8 (0),Value.int IntKind.u8 (0),Value.nilFunc,Value.pointer none,Value.int IntKind.i32 (0),Value.int IntKind.i32 (0)],TK.struct [(0,1,false),(1,1,false),(2,1,false),(3,1,false),(4,1,false),(5,1,false),(6,1,false),(7,1,false),(8,1,false),(9,1,false),(10,1,false)]⟩
 (.node 215 ⟨1,4,false,[Value.int IntKind.i32 (0)],TK.int IntKind.i32⟩
 .leaf
 .leaf)
 .leaf)
 (.node 218 ⟨1,8,false,[Value.pointer none],TK.other⟩
 .leaf
 .leaf))))))
def tyT (t:Nat):Option TD:=qEn.get t
theorem qEu (t:Nat) (d:TD) (h:tyT t=some d):jk Go.Proofs.Tryz.prog t=some d :=
 qkp.get_ok (show qkp.ok Go.Proofs.Tryz.prog qEn from ⟨by kernel_rfl,⟨by kernel_rfl,⟨by kernel_rfl,⟨by kernel_rfl,⟨by kernel_rfl,⟨by kernel_rfl,⟨by kernel_rfl,trivial,trivial⟩,trivial⟩,⟨by kernel_rfl,⟨by kernel_rfl,trivial,trivial⟩,trivial⟩⟩,⟨by kernel_rfl,⟨by kernel_rfl,⟨by kernel_rfl,trivial,trivial⟩,trivial⟩,⟨by kernel_rfl,trivial,trivial⟩⟩⟩,⟨by kernel_rfl,⟨by kernel_rfl,⟨by kernel_rfl,⟨by kernel_rfl,trivial,trivial⟩,trivial⟩,⟨by kernel_rfl,trivial,trivial⟩⟩,⟨by kernel_rfl,⟨by kernel_rfl,⟨by kernel_rfl,trivial,trivial⟩,trivial⟩,⟨by kernel_rfl,trivial,trivial⟩⟩⟩⟩,⟨by kernel_rfl,⟨by kernel_rfl,⟨by kernel_rfl,⟨by kernel_rfl,⟨by kernel_rfl,trivial,trivial⟩,trivial⟩,⟨by kernel_rfl,⟨by kernel_rfl,trivial,trivial⟩,trivial⟩⟩,⟨by kernel_rfl,⟨by kernel_rfl,⟨by kernel_rfl,trivial,trivial⟩,trivial⟩,⟨by kernel_rfl,trivial,trivial⟩⟩⟩,⟨by kernel_rfl,⟨by kernel_rfl,⟨by kernel_rfl,⟨by kernel_rfl,trivial,trivial⟩,trivial⟩,⟨by kernel_rfl,trivial,trivial⟩⟩,⟨by kernel_rfl,⟨by kernel_rfl,⟨by kernel_rfl,trivial,trivial⟩,trivial⟩,⟨by kernel_rfl,trivial,trivial⟩⟩⟩⟩⟩,⟨by kernel_rfl,⟨by kernel_rfl,⟨by kernel_rfl,⟨by kernel_rfl,⟨by kernel_rfl,⟨by kernel_rfl,trivial,trivial⟩,trivial⟩,⟨by kernel_rfl,⟨by kernel_rfl,trivial,trivial⟩,trivial⟩⟩,⟨by kernel_rfl,⟨by kernel_rfl,⟨by kernel_rfl,trivial,trivial⟩,trivial⟩,⟨by kernel_rfl,trivial,trivial⟩⟩⟩,⟨by kernel_rfl,⟨by kernel_rfl,⟨by kernel_rfl,⟨by kernel_rfl,trivial,trivial⟩,trivial⟩,⟨by kernel_rfl,trivial,trivial⟩⟩,⟨by kernel_rfl,⟨by kernel_rfl,⟨by kernel_rfl,trivial,trivial⟩,trivial⟩,⟨by kernel_rfl,trivial,trivial⟩⟩⟩⟩,⟨by kernel_rfl,⟨by kernel_rfl,⟨by kernel_rfl,⟨by kernel_rfl,⟨by kernel_rfl,trivial,trivial⟩,trivial⟩,⟨by kernel_rfl,⟨by kernel_rfl,trivial,trivial⟩,trivial⟩⟩,⟨by kernel_rfl,⟨by kernel_rfl,⟨by kernel_rfl,trivial,trivial⟩,trivial⟩,⟨by kernel_rfl,trivial,trivial⟩⟩⟩,⟨by kernel_rfl,⟨by kernel_rfl,⟨by kernel_rfl,⟨by kernel_rfl,trivial,trivial⟩,trivial⟩,⟨by kernel_rfl,trivial,trivial⟩⟩,⟨by kernel_rfl,⟨by kernel_rfl,⟨by kernel_rfl,trivial,trivial⟩,trivial⟩,⟨by kernel_rfl,trivial,trivial⟩⟩⟩⟩⟩⟩) h
end Go.AmZ
namespace Go.Proofs
open Go.Shelf
def Tryz.lays106_ren:Go.Shelf.Ren:=⟨λ | 106=>118 | 213=>144 | 265=>172 | n=>n,λ | 9=>9 | 3=>3 | n=>n,λ | n=>n⟩
theorem Tryz.lays106:Go.Proofs.Lays.n106 Tryz.prog Tryz.lays106_ren:={
 mixed:=by kernel_rfl
 f106:=Tryz.func118.trans (congrArg some (by kernel_rfl))
 f213:=Tryz.func144.trans (congrArg some (by kernel_rfl))
 f265:=Tryz.func172.trans (congrArg some (by kernel_rfl))
 t3:=Tryz.underlying3
 a3:=Tryz.isAgg3
 z3:=Tryz.sizeOf3
 v3:=Tryz.zeroValue3
 t9:=Tryz.underlying9
 a9:=Tryz.isAgg9
 z9:=Tryz.sizeOf9
 v9:=Tryz.zeroValue9 }
open Go.RowKit in
theorem Tryz.strings_Compare (a b:ByteArray) (w:World) :
 Calls Tryz.prog 118 #[.string a,.string b] w λ e w'=>e = .returned (.int .i64 (Lib.compareBytes a.data.toList b.data.toList))/\w'=w:=Any.strings_Compare Tryz.lays106 a b w
end Go.Proofs
namespace Go.AmZ
open Go Go.RowKit Go.GxZ
structure qHr (Γ : Gh) (w:World) (a:Option Addr) (n k:Nat) (cs:List (List AV)):Prop where
 len:cs.length=n
 size:∀ e∈cs,e.length=k
 plain:∀ e∈cs,∀ x∈e,qA x=true
 at_:cs=[]\/∃ b o,a=some ⟨b,o,none⟩/\∀ (i:Nat) (e:List AV) (j:Nat) (x:AV),cs[i]? = some e->e[j]? = some x->∃ u,w.cell? ⟨b,o+(i*k+j),none⟩=some u/\Rep Γ x u/\u.oneCell'=true
theorem qyg {Γ : Gh} {σ : St} {w:World} (hi:Inv Γ σ w) {a:Ty} {y:AV} {l:List (Val a)} {u:Value} (hd:dlist a y=some l) (hr:Rep Γ y u):∃ p n c,u = .slice p n c/\n<=c/\qHr Γ w p n a.size (l.map (ql a)):=by
 rcases jc hd with ⟨rfl,rfl⟩ | ⟨es,n,rfl,h⟩
 ·have:=zo hr
  subst this
  exact ⟨none,0,0,rfl,Nat.le_refl _,rfl,(by intro e he;cases he),(by intro e he;cases he),.inl rfl⟩
 ·cases hr with
  | sl k es f p n' c b o us hn hc hf hk hp h0 ha hm hr =>
    have hlen:=qQ h
    refine ⟨p,n',c,rfl,hc (Nat.succ_pos _),by rw [List.length_map,hn,hlen],?_,?_,?_⟩
    ·intro e he
     obtain ⟨v,_,rfl⟩:=List.mem_map.1 he
     exact Qb a v
    ·intro e he
     obtain ⟨v,_,rfl⟩:=List.mem_map.1 he
     exact z8 a v
    ·rcases ha with ha | ha
     ·left
      have:l=[]:=List.eq_nil_of_length_eq_zero (by rw [<- hlen,ha];rfl)
      rw [this];rfl
     ·right
      refine ⟨b,o,ha,λ i e j x h1 h2=>?_⟩
      rw [List.getElem?_map] at h1
      cases hl:l[i]? with
      | none=>rw [hl] at h1;cases h1
      | some v =>
        rw [hl] at h1;cases h1
        obtain ⟨e0,g1,g2⟩:=qf0 h hl
        obtain ⟨x0,g3,g4⟩:=(qmF g2).get j x h2
        have hmm:=hm i e0 j x0 g1 g3
        obtain ⟨q1,q2⟩:=hi.mem _ _ _ hmm
        exact ⟨us i j,by rw [<- Nat.add_assoc];exact q1,g4 _ _ (hr i e0 j x0 g1 g3),q2⟩
def Fresh (w:World) (k n:Nat) (xs:List Value) (v:Value) (w':World):Prop :=
 Below w.heap.size w w'/\w.drawn<=w'.drawn/\((n=0/\∃ a,v = .slice a 0 0)\/∃ (g cap:Nat) (cur:Array Value) (e:TypeId),v = .slice (some ⟨g,0,none⟩) n cap/\w.heap.size<=g/\w'.heap[g]? = some (.cells cur e (0,0))/\n<=cap/\cap*k<=cur.size/\∀ (j:Nat) (u:Value),xs[j]? = some u->cur[j]? = some u)
theorem qlL {P:Program} {f:FuncId} {Γ : Gh} {σ : St} {w:World} {vals:List Value} {a:Ty} {l:List (Val a)} {xs:List Value} (hi:Inv Γ σ w) (hb0 : σ.bx=[]) (hr0 : σ.rw=[])
  (hx:∀ (i:Nat) (e:List AV) (j:Nat) (x:AV),(l.map (ql a))[i]? = some e->e[j]? = some x->∃ u,xs[i*a.size+j]? = some u/\Rep Γ x u/\u.oneCell'=true)
  (h:Calls P f vals.toArray w λ e w'=>∃ v,e = .returned v/\Fresh w a.size l.length xs v w') :
  QJ P Γ σ w f vals (zI (jf [.one (.row a)] σ.rw.length (l,())),some ⟨[],σ.rw.map Qn++jB [.one (.row a)] (l,()),List.range σ.bx.length,List.range σ.rw.length⟩):=by
 refine Calls.mono h ?_
 rintro e w' ⟨v,rfl,hbl,hdr,hv⟩
 have hi':=hi.later hbl
 have hkeep:qV { σ with wr:=[],wrr:=[] } ⟨[],σ.rw.map Qn++jB [.one (.row a)] (l,()),List.range σ.bx.length,List.range σ.rw.length⟩ :=
  ⟨by rw [hb0];exact Nat.le_refl _,by show σ.rw.length<=_;rw [hr0];exact Nat.zero_le _,λ i hi _=>(by have hi:i < σ.bx.length:=hi;rw [hb0] at hi;exact absurd hi (Nat.not_lt_zero _)),λ i hi _=>(by have hi:i < σ.rw.length:=hi;rw [hr0] at hi;exact absurd hi (Nat.not_lt_zero _)),λ i h=>(by cases h),λ i h=>(by cases h)⟩
 rcases hv with ⟨hn,p,rfl⟩ | ⟨g,cap,cur,et,rfl,g1,g2,g3,g4,g5⟩
 ·have hl:l=[]:=List.eq_nil_of_length_eq_zero hn
  subst hl
  obtain ⟨mm,z1,z2,z3,z4⟩:=qsi (σ0 := σ) (σ1 := σ) hi (qf4 hbl hdr) hi' (Nat.le_refl _) [] [] (by rw [hb0];rfl) (by simp) List.nodup_nil [] [(none,⟨a.size,[],0,0,false⟩)] (λ i cs h=>by cases h)
   (λ i so R h=>by
    cases i with
    | zero=>cases h;exact ⟨rfl,rfl,Ty.size_pos a,(by intro e he;cases he),(by intro e he;cases he),rfl⟩
    | succ i=>cases h)
   (λ i j q R R' h1 h2=>by cases i<;>cases h1) (List.range σ.bx.length) (List.range σ.rw.length)
  refine ⟨_,_,rfl,z3,z4,?_,hkeep⟩
  show Rep _ (.rs σ.rw.length 0 0 0 false) _
  exact .rs _ _ _ _ _ p 0 (by show σ.rw.length < σ.rw.length+1;omega) (Nat.zero_le _) (Nat.le_refl _) (λ h=>by cases h) λ _=>⟨.inl rfl,by rw [Nat.add_zero,Nat.zero_mul];exact Nat.zero_le _⟩
 ·obtain ⟨Γ',f1,f2,f3⟩:=qvi hi (Ty.size_pos a) (c:=l.map (ql a)) (λ e he=>by obtain ⟨v,_,rfl⟩:=List.mem_map.1 he;exact Qb a v) (λ e he=>by obtain ⟨v,_,rfl⟩:=List.mem_map.1 he;exact z8 a v) (vs:=cur) (by rw [List.length_map];exact Nat.le_trans (Nat.mul_le_mul_right _ g3) g4)
    (λ i e j x h1 h2=>by
     obtain ⟨u,u1,u2⟩:=hx i e j x h1 h2
     exact ⟨u,g5 _ _ u1,u2⟩) (cap:=cap) (by rw [List.length_map];exact g3) g4 hbl hdr g1 g2
  rw [List.length_map] at f3
  refine ⟨_,Γ',rfl,f1,?_,f3,hkeep⟩
  have:({ σ with rw := σ.rw++[⟨a.size,l.map (ql a),0,0,false⟩] }:St).bx=[]:=hb0
  exact f2.wr this.symm (by show σ.rw.map Qn++_ = σ.rw++_;rw [hr0];rfl)
end Go.AmZ
namespace Go.GxZ
open Go.RowKit
def Blk (w:World) (g:Nat) (e:TypeId) (cur:Array Value):Prop:=w.heap[g]? = some (.cells cur e (0,0))
theorem Blk.cell {w:World} {g:Nat} {e:TypeId} {cur:Array Value} (h:Blk w g e cur) (i:Nat):w.cell? ⟨g,i,none⟩=cur[i]? := by
 unfold Blk at h
 simp [World.cell?,h]
theorem Blk.free {w:World} {g:Nat} {e:TypeId} {cur:Array Value} (h:Blk w g e cur) (i:Nat):w.frozen? ⟨g,i,none⟩=false:=by
 unfold Blk at h
 simp [World.frozen?,h]
theorem Blk.later {w w':World} {g:Nat} {e:TypeId} {cur:Array Value} (h:Blk w g e cur) (hb:Below w.heap.size w w'):Blk w' g e cur:=by
 unfold Blk at h |-
 rw [hb.block g (lt_of_block h)];exact h
theorem Blk.same {w w':World} {g:Nat} {e:TypeId} {cur:Array Value} (h:Blk w g e cur) (hb:w'.heap[g]? = w.heap[g]?):Blk w' g e cur:=by
 unfold Blk at h |-
 rw [hb];exact h
theorem Blk.set {w:World} {g:Nat} {e:TypeId} {cur:Array Value} (h:Blk w g e cur) (i:Nat) (v:Value):Blk (w.setCell ⟨g,i,none⟩ v) g e (cur.setIfInBounds i v):=by
 unfold Blk at h |-
 have hlt:=lt_of_block h
 have h':w.heap[g] = .cells cur e (0,0):=by simpa [Array.getElem?_eq_getElem hlt] using h
 show (w.heap.modify g _)[g]? = _
 rw [Array.getElem?_eq_getElem (by simpa using hlt),Array.getElem_modify_self,h']
 rfl
theorem qvE {w:World} {g:Nat} {e:TypeId} {cur:Array Value} (h:Blk w g e cur) (o:Nat) (x0 x1 x2 x3:Value) (ho:o+4<=cur.size) :
  ∃ w' cur',(((w.setCell ⟨g,o,none⟩ x0).setCell ⟨g,o+1,none⟩ x1).setCell ⟨g,o+2,none⟩ x2).setCell ⟨g,o+3,none⟩ x3=w'/\Blk w' g e cur'/\cur'.size=cur.size /\
   cur'[o]? = some x0/\cur'[o+1]? = some x1/\cur'[o+2]? = some x2/\cur'[o+3]? = some x3/\(∀ i,i<o->cur'[i]? = cur[i]?) /\
   (∀ B,B<=g->∀ w0,Below B w0 w->Below B w0 w')/\w'.heap.size=w.heap.size/\(∀ k,k≠g->w'.heap[k]? = w.heap[k]?)/\(∀ a,w'.frozen? a=w.frozen? a):=by
 refine ⟨_,_,rfl,(((h.set o x0).set (o+1) x1).set (o+2) x2).set (o+3) x3,by simp,?_,?_,?_,?_,λ i hi=>?_,λ B hB w0 h=>(((h.setCell hB _).setCell hB _).setCell hB _).setCell hB _,by simp,λ k hk=>?_,λ a=>by simp⟩
 ·simp [Array.getElem?_setIfInBounds];omega
 ·simp [Array.getElem?_setIfInBounds];omega
 ·simp [Array.getElem?_setIfInBounds];omega
 ·simp [Array.getElem?_setIfInBounds];omega
 ·simp only [Array.getElem?_setIfInBounds]
  rw [if_neg (by omega),if_neg (by omega),if_neg (by omega),if_neg (by omega)]
 ·rw [Below.heap_setCell _ _ _ _ hk,Below.heap_setCell _ _ _ _ hk,Below.heap_setCell _ _ _ _ hk,Below.heap_setCell _ _ _ _ hk]
def qrt (Q:Nat->Prop) (w:World) (cur:Array Value) (l:List T):Prop :=
 ∀ (k:Nat) (x:T),l[k]? = some x->∃ cs:List Value,cs.length=4/\(∀ (i:Nat) (c:Value),cs[i]? = some c->cur[k*4+i]? = some c)/\Q3 Q w x cs
theorem qrt.nil {Q:Nat->Prop} {w:World} {cur:Array Value}:qrt Q w cur [] := λ k x h=>by simp at h
theorem qrt.kids {Q Q':Nat->Prop} {w:World} {g:Nat} {e:TypeId} {cur:Array Value} {l:List T} (h:qrt Q w cur l) (hb:Blk w g e cur) (hg:Q' g) (hQ:∀ b,Q b->Q' b):qcm Q' w (some ⟨g,0,none⟩) l := λ k x hk=>by
 obtain ⟨cs,h1,h2,h3⟩:=h k x hk
 exact ⟨g,0,cs,rfl,hg,h1,λ i c hc=>by rw [Nat.zero_add,hb.cell];exact h2 i c hc,h3.mono hQ x⟩
theorem qrt.next {Q Q':Nat->Prop} {w w':World} {cur cur':Array Value} {l:List T} (h:qrt Q w cur l) (hw:∀ b,Q b->w'.heap[b]? = w.heap[b]?) (hQ:∀ b,Q b->Q' b) (hc:∀ i,i<l.length*4->cur'[i]? = cur[i]?):qrt Q' w' cur' l := λ k x hk=>by
 obtain ⟨cs,h1,h2,h3⟩:=h k x hk
 have hl:=(List.getElem?_eq_some_iff.1 hk).1
 refine ⟨cs,h1,λ i c hc'=>?_,(h3.keep hw x).mono hQ x⟩
 have hi:=(List.getElem?_eq_some_iff.1 hc').1
 rw [hc _ (by omega)];exact h2 i c hc'
end Go.GxZ
namespace Go.GxZ
open Go.RowKit
end Go.GxZ
namespace Go.GxZ
open Go.RowKit
theorem qpj {P:Program} (w:World) (dT sT ty elem:TypeId) (size g o dLen dCap:Nat) (a:Addr) (sLen sCap:Nat) (cur:Array Value) (t:TypeId) (cs:List Value)
  (hu:P.underlying dT=some (.slice elem)) (hs:(P.info? elem).map (·.size)=some size)
  (hg:w.heap[g]? = some (.cells cur t (0,0))) (hn:cs.length=Nat.min sLen dLen*size)
  (hsrc:∀ j v,cs[j]? = some v->w.cell? (a.add j)=some v) (hfit:o+cs.length<=cur.size) (h1:∀ v∈cs,v.oneCell'=true) :
  (Builtin.copy_ #[dT,sT] ty #[.slice (some ⟨g,o,none⟩) dLen dCap,.slice (some a) sLen sCap]).run P w =
   .ok (goInt (Nat.min sLen dLen)) (w.setRow g (cur.toList.take o++cs++cur.toList.drop (o+cs.length)).toArray):=by
 have hl:=run_loadCells_list (P:=P) w a cs hsrc
 have hst:=run_storeCells_at P g o t cs 0 cur w hg (by simpa using hfit) h1
 cases hq:P.info? elem with
 | none=>simp [hq] at hs
 | some i =>
   have hi:i.size=size:=by simpa [hq] using hs
   rw [hn] at hl
   simp [Builtin.copy_,run_underlying hu,Builtin.lenOf,Builtin.firstCells,sizeOf,typeInfo,hq,hi,hl,hst]
theorem qt3 {P:Program} (w:World) (t e ty:TypeId) (z:Value) (ht:P.underlying t=some (.slice e)) (hv:∀ w,(zeroValue e).run P w = .ok z w) (g o n c:Nat) (hn:0<n) (cur:Array Value) (tb:TypeId)
  (hg:w.heap[g]? = some (.cells cur tb (0,0))) (hfit:o+n*z.cells.size<=cur.size) (h1:∀ v∈(Builtin.zeroCells z.cells n).toList,v.oneCell'=true) :
  (Builtin.clear_ #[t] ty #[.slice (some ⟨g,o,none⟩) n c]).run P w = .ok (.tuple #[]) (w.setRow g (cur.toList.take o++(Builtin.zeroCells z.cells n).toList++cur.toList.drop (o+(Builtin.zeroCells z.cells n).toList.length)).toArray):=by
 have hst:=run_storeCells_at P g o tb (Builtin.zeroCells z.cells n).toList 0 cur w hg (by simpa [Builtin.zeroCells] using hfit) h1
 obtain ⟨m,rfl⟩:∃ m,n=m+1:=⟨n-1,by omega⟩
 simp only [Nat.add_zero] at hst
 simp [Builtin.clear_,run_underlying ht,hv,hst]
structure qle (w w':World) (g:Nat) (t:TypeId) (new:List Value):Prop where
 blk:Blk w' g t new.toArray
 other:∀ k,k≠g->w'.heap[k]? = w.heap[k]?
 size:w'.heap.size=w.heap.size
 below:∀ B,B<=g->∀ w0,Below B w0 w->Below B w0 w'
 os:w'.os=w.os
 tape:w'.tape=w.tape
 output:w'.output=w.output
 drawn:w'.drawn=w.drawn
theorem qgN {w:World} {g:Nat} {t:TypeId} {cur:Array Value} (h:Blk w g t cur) (new:List Value):qle w (w.setRow g new.toArray) g t new :=
 ⟨setRow_heap w g cur _ t _ h,λ k hk=>setRow_other w g k _ hk,by simp [World.setRow],λ _ hB _ hb=>below_setRow hb hB _,rfl,rfl,rfl,rfl⟩
theorem qtp {P:Program} {ops:Array Oper} {o:Oper} {a:Act} {w:World} {K:Act->World->Prop} {Q:Exit->Act->World->Prop} {E:Prop} (hgd:o.guard=none) (d s:Operand) (dT sT:TypeId)
  (ho:o.op = .call { callee := .builtin .copy,args := #[d,s],argTypes := #[dT,sT] }) (elem:TypeId) (size:Nat) (hu:P.underlying dT=some (.slice elem)) (hsz:(P.info? elem).map (·.size)=some size)
  (g off dLen dCap:Nat) (ad:Addr) (sLen sCap:Nat) (hd:a.eval d = .slice (some ⟨g,off,none⟩) dLen dCap) (hs:a.eval s = .slice (some ad) sLen sCap)
  (cur:Array Value) (t:TypeId) (hg:Blk w g t cur) (cs:List Value) (hn:cs.length=Nat.min sLen dLen*size)
  (hsrc:∀ j v,cs[j]? = some v->w.cell? (ad.add j)=some v) (hfit:off+cs.length<=cur.size) (h1:∀ v∈cs,v.oneCell'=true)
  (h:∀ w',qle w w' g t (cur.toList.take off++cs++cur.toList.drop (off+cs.length))->K (a.put o.dst (goInt (Nat.min sLen dLen))) w') :
  if Region.wanted o (yielded ops a.tmps)=true then Oper.wp P o a w K Q else E:=by
 have hw:Region.wanted o (yielded ops a.tmps)=true:=by simp [Region.wanted,hgd]
 rw [if_pos hw]
 have hrun:=qpj (P:=P) w dT sT o.type elem size g off dLen dCap ad sLen sCap cur t cs hu hsz hg hn hsrc hfit h1
 unfold Oper.wp
 simp [execOp,ho,resolve,invoke,builtin,hd,hs,hrun,Result.andThen]
 have hh:=h _ (qgN hg (cur.toList.take off++cs++cur.toList.drop (off+cs.length)))
 rw [List.append_assoc] at hh
 exact hh
theorem qmA (g:Nat) (t:TypeId):∀ (vs:List Value) (o:Nat) (w:World) (cur:Array Value),Blk w g t cur->o+vs.length<=cur.size->qle w (w.setCells g o vs) g t (cur.toList.take o++vs++cur.toList.drop (o+vs.length))
 | [],o,w,cur,h,_=>by
   refine ⟨?_,λ _ _=>rfl,rfl,λ _ _ _ h=>h,rfl,rfl,rfl,rfl⟩
   simp only [List.append_nil,List.length_nil,Nat.add_zero,List.take_append_drop,Array.toArray_toList]
   exact h
 | v::r,o,w,cur,h,hl=>by
   have ih:=qmA g t r (o+1) (w.setCell ⟨g,o,none⟩ v) (cur.setIfInBounds o v) (h.set o v) (by simp at hl |-;omega)
   have e:=list_seg_step cur.toList o v r (by simp at hl |-;omega)
   rw [World.setCells]
   refine ⟨?_,λ k hk=>(ih.other k hk).trans (Below.heap_setCell _ _ _ _ hk),ih.size.trans (by simp),λ B hB w0 hb=>ih.below B hB w0 (hb.setCell hB _),ih.os,ih.tape,ih.output,ih.drawn⟩
   have hb:=ih.blk
   have e2:(cur.setIfInBounds o v).toList.take (o+1)++r++(cur.setIfInBounds o v).toList.drop (o+1+r.length)=cur.toList.take o++v::r++cur.toList.drop (o+(v::r).length):=by
    simpa [Array.toList_setIfInBounds] using e
   rwa [e2] at hb
theorem qF0 (k:Nat) (cur xs ys:List Value) (i n:Nat) (hx:cur.take (n*k)=xs) (hc:n*k+k<=cur.length) (hi:i*k<=n*k) (hy:ys.length=k) (c1:List Value)
  (h1:c1=cur.take (i*k+k)++xs.drop (i*k)++cur.drop (i*k+k+(xs.drop (i*k)).length)) :
  c1.length=cur.length/\(c1.take (i*k)++ys++c1.drop (i*k+ys.length)).length=cur.length/\(c1.take (i*k)++ys++c1.drop (i*k+ys.length)).take (n*k+k)=xs.take (i*k)++ys++xs.drop (i*k):=by
 generalize n*k=N at *
 generalize i*k=I at *
 have hxl:xs.length=N:=by rw [<- hx,List.length_take];omega
 have hdl:(xs.drop I).length=N-I:=by rw [List.length_drop,hxl]
 have hl1:c1.length=cur.length:=by rw [h1];simp only [List.length_append,List.length_take,List.length_drop,hxl];omega
 refine ⟨hl1,?_,?_⟩
 ·simp only [List.length_append,List.length_take,List.length_drop,hl1,hy];omega
 ·have e1:c1.take I=xs.take I:=by
    rw [h1,List.append_assoc,List.take_append_of_le_length (by rw [List.length_take];omega),List.take_take,<- hx,List.take_take]
    congr 1;omega
  have e2:c1.drop (I+k)=xs.drop I++cur.drop (I+k+(xs.drop I).length):=by
   rw [h1,List.append_assoc,List.drop_append_of_le_length (by rw [List.length_take];omega),List.drop_eq_nil_of_le (by rw [List.length_take];omega),List.nil_append]
  rw [hy,e1,e2,<- List.append_assoc,List.take_append_of_le_length (by simp only [List.length_append,List.length_take,hy,hdl,hxl];omega),List.take_of_length_le (by simp only [List.length_append,List.length_take,hy,hdl,hxl];omega)]
theorem qHL (k:Nat) (new xs ys:List Value) (i n:Nat) (hn:new.take (i*k)=xs.take (i*k)) (hxl:xs.length=n*k) (hc:n*k+k<=new.length) (hi:i*k<=n*k) (hy:ys.length=k) (c1:List Value)
  (h1:c1=new.take (i*k)++ys++new.drop (i*k+ys.length)) :
  c1.length=new.length/\(c1.take (i*k+k)++xs.drop (i*k)++c1.drop (i*k+k+(xs.drop (i*k)).length)).length=new.length /\
   (c1.take (i*k+k)++xs.drop (i*k)++c1.drop (i*k+k+(xs.drop (i*k)).length)).take (n*k+k)=xs.take (i*k)++ys++xs.drop (i*k):=by
 generalize n*k=N at *
 generalize i*k=I at *
 have hdl:(xs.drop I).length=N-I:=by rw [List.length_drop,hxl]
 have hl1:c1.length=new.length:=by rw [h1];simp only [List.length_append,List.length_take,List.length_drop,hy];omega
 refine ⟨hl1,?_,?_⟩
 ·simp only [List.length_append,List.length_take,List.length_drop,hl1,hxl];omega
 ·have e1:c1.take (I+k)=xs.take I++ys:=by
    rw [h1,List.take_append_of_le_length (by simp only [List.length_append,List.length_take,hy];omega),List.take_of_length_le (by simp only [List.length_append,List.length_take,hy];omega),hn]
  rw [e1,List.take_append_of_le_length (by simp only [List.length_append,List.length_take,hy,hdl,hxl];omega),List.take_of_length_le (by simp only [List.length_append,List.length_take,hy,hdl,hxl];omega)]
def qkW (k:Nat) (w:World) (g sz n:Nat) (xs:List Value) (e:Ending) (w':World):Prop :=
 ∃ (g' cap:Nat) (cur:Array Value) (et:TypeId),e = .returned (.slice (some ⟨g',0,none⟩) n cap)/\w'.heap[g']? = some (.cells cur et (0,0))/\n<=cap/\cap*k<=cur.size/\cur.toList.take (n*k)=xs /\
  ((g'=g/\cur.size=sz)\/w.heap.size<=g')/\w'.os=w.os/\w'.tape=w.tape/\w'.output=w.output/\w.heap.size<=w'.heap.size/\w.drawn<=w'.drawn/\∀ b,b<w.heap.size->b≠g->w'.heap[b]? = w.heap[b]?
theorem qs6 {P:Program} (w:World) (tS tR e:TypeId) (ht:P.underlying tS=some (.slice e)) (size:Nat) (hz:∀ w,(Go.sizeOf e).run P w = .ok size w)
  (a b:Addr) (la ca lb cb:Nat) (hne:a.block≠b.block) (tA tB:TypeId) (kA kB:Nat)
  (hsa:w.shape? a.block=some (tA,kA)) (hkA:kA≠0) (hsb:w.shape? b.block=some (tB,kB))
  (hfb:w.frozen? b=false) (hfe:w.frozen? { block:=b.block,off:=kB }=false) :
  (Extern.SlicesOverlaps.overlaps #[tS,tS] #[tR] #[.slice (some a) la ca,.slice (some b) lb cb]).run P w = .ok (.bool false) w:=by
 have hnb:(a.block != b.block)=true:=by simpa using hne
 have hnb':(a.block==b.block)=false:=by simpa using hne
 change Sem.run P (α := Value) (do
  let some t:=(#[tS,tS]:Array TypeId)[0]? | stuck "slices.overlaps: no parameter types"
  let .slice elem <- underlying t | stuck "slices.overlaps: slice type expected"
  let size <- sizeOf elem
  match (some a:Option Addr),(some b:Option Addr) with
  | some a,some b =>
    if la=0\/lb=0\/size=0 then pure (Value.bool false)
    else if a.block != b.block&&(<- frozen a)&&(<- frozen b) then unsupported .addressObserved
    else do
     if a.block != b.block then do
      noView a;noView b
      if <- mayBeOne a b then return Value.bool ((<- choose _)==1)
     pure (Value.bool (a.block==b.block&&a.off<b.off+lb*size&&b.off<a.off+la*size))
  | _,_=>pure (Value.bool false)) w=_
 by_cases h0:la=0\/lb=0\/size=0
 ·simp [run_underlying ht,hz,h0]
 ·cases kA with
  | zero=>exact absurd rfl hkA
  | succ kA =>
    cases hfa:w.frozen? a with
    | true=>simp [run_underlying ht,hz,h0,hnb,hnb',frozen,noView,viewAt,mayBeOne,stringish,shape,Sem.run,hsa,hsb,hfb,hfe,hfa]
    | false =>
      cases hfk:w.frozen? { block:=a.block,off:=kA+1 } with
      | true=>simp [run_underlying ht,hz,h0,hnb,hnb',frozen,noView,viewAt,mayBeOne,stringish,shape,Sem.run,hsa,hsb,hfb,hfe,hfa,hfk]
      | false=>simp [run_underlying ht,hz,h0,hnb,hnb',frozen,noView,viewAt,mayBeOne,stringish,shape,Sem.run,hsa,hsb,hfb,hfe,hfa,hfk]
theorem qDb {w:World} {a:Addr} {u:Value} (ha:a.spot=none) (h:w.cell? a=some u):∃ t n,w.shape? a.block=some (t,n)/\n≠0:=by
 unfold World.cell? at h
 split at h
 ·rename_i c e f hh
  refine ⟨e,c.size,by simp [World.shape?,hh],λ h0=>?_⟩
  have:c = #[]:=Array.eq_empty_of_size_eq_zero h0
  subst this
  simp [ha] at h
 ·cases h
end Go.GxZ
