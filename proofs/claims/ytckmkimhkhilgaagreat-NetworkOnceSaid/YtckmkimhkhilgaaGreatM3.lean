/- Part 3 of what the proofs stand on: plain functions of the program, and that they are its functions. -/
import Derived.Test.YtckmkimhkhilgaaGreatM2
import Derived.KernelRfl
import Derived.Test.YtckmkimhkhilgaaGreatProg
import Derived.Test.YtckmkimhkhilgaaGreatM1
import Derived.Shelf.Small.Strs
import Derived.Laws.OwnMore
import Derived.OneCell
import Derived.Deep.DeepAppendRoom
import Derived.Deep.Onto
import Derived.ArgAppend
import Derived.Deep.RegionLaw
import Derived.Laws.CopyOwn
import Derived.Lib.AppendZerosOnto
import Derived.Lib.AppendZeros
import Derived.Lib.Overlaps
import Derived.Laws.Externs
import Derived.Deep.DeepCutAuto
import Derived.Handy
import Derived.IntWalk
import Derived.Shelf.SlSortCmp.NoneTotal
set_option linter.unusedVariables false
set_option linter.unusedSimpArgs false
noncomputable section
namespace Go.AmZ
open Go Go.RowKit Go.GxZ
def qfV:List AV->List Nat
 | []=>[]
 | .fn f _::l=>f::qfV l
 | _::l=>qfV l
def dFn{a:Type}(q:List AV->Option a):List AV->Option a
 | .fn _ []::xs=>q xs
 | _=>none
def qd1:(ts:List ATy)->List AV->Option (qbO ts)
 | []=>qN6
 | .val τ :: r=>qn1 (QW τ) (qd1 r)
 | .fn::r=>dFn (qd1 r)
def qbq:(ts:List Ty)->qe2 ts->List AV
 | [],_=>[]
 | [a],v=>[yL a v]
 | a::b::r,v=>yL a v.1::qbq (b::r) v.2
def jB(c:TC)(f:Nat)(ys:List AV):Option AV:=match c.pf f (qfV ys)with
 | some g=>match qd1 g.args ys with
   | some a=>match g.fn a with
     | some v=>some (zZ (qbq g.res v))
     | none=>none
   | none=>none
 | none=>none
def qdR(σ : St)(τ : Ty)(a:Nat):AV->Option (List (Val τ) × Nat)
 | .rs j lo n b f=>match σ.rw[a]? with
   | some R=>match decide (j=a/\lo=0/\f=false/\R.k = τ.size/\R.ver=b/\n=R.c.length/\R.fz=0/\R.off=false)with
     | true=>match zg (yh τ) R.c with
       | some l=>some (l,a+1)
       | none=>none
     | false=>none
   | none=>none
 | y=>match dlist τ y,decide (2<=lvl y)with
   | some [],true=>some ([],a)
   | _,_=>none
def qf2(σ : St):(l:List RA)->Nat->List AV->Option (CV l × Nat)
 | [],a,[]=>some ((),a)
 | [],_,_::_=>none
 | .val τ :: r,a,ds=>match yh τ (ds.take τ.size)with
   | some v=>match qf2 σ r a (ds.drop τ.size)with
     | some (vs,n)=>some ((v,vs),n)
     | none=>none
   | none=>none
 | .row τ :: r,a,d::ds=>match qdR σ τ a d with
   | some (l,b)=>match qf2 σ r b ds with
     | some (vs,n)=>some ((l,vs),n)
     | none=>none
   | none=>none
 | .row _::_,_,[]=>none
def qjw(σ : St)(l:List RA)(nb a:Nat):AV->Option (CV l × Nat)
 | .ptr j 0=>match Nat.beq j nb,σ.bx[nb]? with
   | true,some ds=>qf2 σ l a ds
   | _,_=>none
 | _=>none
def qA1:AV->Bool
 | .v (.slice none 0 0)=>true
 | _=>false
theorem qza{y:AV}(h:qA1 y=true):y = .v (.slice none 0 0):=by
 unfold qA1 at h;split at h
 ·rfl
 ·cases h
def qAW(g k:Nat):AV->Option (List AV)
 | .fn a cs=>match Nat.beq g a&&Nat.beq cs.length k with
   | true=>some cs
   | false=>none
 | _=>none
theorem qFa{g k:Nat}{y:AV}{cs:List AV}(h:qAW g k y=some cs):y = .fn g cs/\cs.length=k:=by
 unfold qAW at h;split at h<;>try cases h
 split at h<;>cases h;rename_i a;rw[wd]at a;rw[wj a.1];exact⟨rfl,wj a.2⟩
def dS(σ : St):(sas:List SA)->Nat->Nat->List AV->Option (QF sas)
 | [],nb,a,[]=>match decide (nb = σ.bx.length/\a = σ.rw.length)with
   | true=>some ()
   | false=>none
 | .val τ :: r,nb,a,y::ys=>match QW τ y with
   | some v=>match dS σ r nb a ys with
     | some vs=>some (v,vs)
     | none=>none
   | none=>none
 | .row τ :: r,nb,a,y::ys=>match qdR σ τ a y with
   | some (l,b)=>match dS σ r nb b ys with
     | some vs=>some (l,vs)
     | none=>none
   | none=>none
 | .box l::r,nb,a,y::ys=>match qjw σ l nb a y with
   | some (v,b)=>match dS σ r (nb+1) b ys with
     | some vs=>some (toB l v,vs)
     | none=>none
   | none=>none
 | .nil::r,nb,a,y::ys=>match qA1 y with
   | true=>dS σ r nb a ys
   | false=>none
 | .clo g k::r,nb,a,y::ys=>match qAW g k y with
   | some cs=>dS σ r nb a (cs++ys)
   | none=>none
 | _,_,_,_=>none
def qaf:(l:List RA)->Nat->CV l->List AV
 | [],_,_=>[]
 | .val τ :: r,L,v=>qi τ v.1++qaf r L v.2
 | .row _::r,L,v => .rs L 0 v.1.length 0 false::qaf r (L+1) v.2
def qdy:(l:List RA)->CV l->List Row
 | [],_=>[]
 | .val _::r,v=>qdy r v.2
 | .row τ :: r,v=>⟨τ.size,v.1.map (qi τ),0,0,false⟩::qdy r v.2
def Qv:(sas:List SA)->Nat->j7 sas->List (List AV)
 | [],_,_=>[]
 | .box l::r,L,o=>qaf l L (toC l o.1)::Qv r (L+nR l) o.2
 | .nil::r,L,o=>Qv r L o
 | .val _::r,L,o=>Qv r L o
 | .row _::r,L,o=>Qv r L o
 | .clo _ _::r,L,o=>Qv r L o
def QA:(sas:List SA)->j7 sas->List Row
 | [],_=>[]
 | .box l::r,o=>qdy l (toC l o.1)++QA r o.2
 | .nil::r,o=>QA r o
 | .val _::r,o=>QA r o
 | .row _::r,o=>QA r o
 | .clo _ _::r,o=>QA r o
def jK:(a:List RE)->Nat->RV a->List AV
 | [],_,_=>[]
 | .one (.val τ)::r,L,v=>yL τ v.1::jK r L v.2
 | .one (.row _)::r,L,v => .rs L 0 v.1.length 0 false::jK r (L+1) v.2
 | .agg l::r,L,v => .agg (qaf l L v.1)::jK r (L+nR l) v.2
 | .opt _::r,L,v => .dead::jK r L v.2
 | .elt _::r,L,v => .dead::jK r L v.2
 | .nilp::r,L,v => .v (.pointer none)::jK r L v
 | .box n l::r,L,v => .ptr n 0::jK r (L+nR l) v.2
 | .eltI d _::r,L,v => .rpt (L-d) v.1.1.toNat 0 0::jK r L v.2
def jY:(a:List RE)->RV a->List Row
 | [],_=>[]
 | .one (.val _)::r,v=>jY r v.2
 | .one (.row τ)::r,v=>⟨τ.size,v.1.map (qi τ),0,0,false⟩::jY r v.2
 | .agg l::r,v=>qdy l v.1++jY r v.2
 | .opt _::r,v=>jY r v.2
 | .elt _::r,v=>jY r v.2
 | .nilp::r,v=>jY r v
 | .box _ l::r,v=>qdy l (toC l v.1)++jY r v.2
 | .eltI _ _::r,v=>jY r v.2
def Qe:(a:List RE)->Nat->RV a->List (List AV)
 | [],_,_=>[]
 | .one (.val _)::r,L,v=>Qe r L v.2
 | .one (.row _)::r,L,v=>Qe r (L+1) v.2
 | .agg l::r,L,v=>Qe r (L+nR l) v.2
 | .opt _::r,L,v=>Qe r L v.2
 | .elt _::r,L,v=>Qe r L v.2
 | .nilp::r,L,v=>Qe r L v
 | .box _ l::r,L,v=>qaf l L (toC l v.1)::Qe r (L+nR l) v.2
 | .eltI _ _::r,L,v=>Qe r L v.2
def qpQ(rws:List qQ):(b:List RE)->Nat->Nat->RV b->Prop
 | [],_,_,_=>True
 | .one a::r,nb,d,v=>qpQ rws r nb (d+nRA a) v.2
 | .agg l::r,nb,d,v=>qpQ rws r nb (d+nR l) v.2
 | .opt _::_,_,_,_=>False
 | .elt _::_,_,_,_=>False
 | .nilp::r,nb,d,v=>qpQ rws r nb d v
 | .box n l::r,nb,d,v=>n=nb/\qpQ rws r (nb+1) (d+nR l) v.2
 | .eltI x τ :: r,nb,d,v=>(∃ p j R,x=d-p/\p<=d/\rws[p]?=some R/\∃ h:R.τ = τ,v.1.1=((j:Nat):Int)/\R.l[j]?=some (h▸v.1.2))/\qpQ rws r nb d v.2
theorem qKh{a:Type}{l:List a}{i:Int}{e:a}(h:qb l i=some e):∃ j:Nat,i=j/\l[j]?=some e:=by
 unfold qb at h;split at h
 ·exact⟨i.toNat,by omega,h⟩
 ·cases h
theorem qds{rws:List qQ}:∀(f:List RE) (nb d:Nat) (v:RV f) {q:Type} {k:(c:List RE)->RV c->Option q} {x:q},rws.length<=d->qbP rws f nb d v k=some x ->
  ∃ c g,k c g=some x/\qpQ rws c nb d g/\∀{z:Type} (r:(c:List RE)->RV c->Option z),qbP rws f nb d v r=r c g
 | [],nb,d,v,q,k,x,s,h=>⟨[],(),h,trivial,λ _=>rfl⟩
 | .one a::f,nb,d,v,q,k,x,s,h=>by
   obtain⟨c,g,o,n,m⟩:=qds f nb (d+nRA a) v.2 (by omega) h;exact⟨_,_,o,n,λ r=>m _⟩
 | .agg l::f,nb,d,v,q,k,x,s,h=>by
   obtain⟨c,g,o,n,m⟩:=qds f nb (d+nR l) v.2 (by omega) h;exact⟨_,_,o,n,λ r=>m _⟩
 | .opt l::f,nb,d,(none,w),q,k,x,s,h=>by
   obtain⟨c,g,o,n,m⟩:=qds f nb d w s h;exact⟨_,_,o,n,λ r=>m _⟩
 | .opt l::f,nb,d,(some b,w),q,k,x,s,h=>by
   obtain⟨c,g,o,n,m⟩:=qds f (nb+1) (d+nR l) w (by omega) h;exact⟨_,_,o,⟨rfl,n⟩,λ r=>m _⟩
 | .elt p::f,nb,d,(none,w),q,k,x,s,h=>by
   obtain⟨c,g,o,n,m⟩:=qds f nb d w s h;exact⟨_,_,o,n,λ r=>m _⟩
 | .elt p::f,nb,d,(some i,w),q,k,x,s,h=>by
   have h:(match rws[p]? with
    | some R=>qa (qb R.l i) λ e=>qbP rws f nb d w λ t g=>k (.eltI (d-p) R.τ :: t) ((i,e),g)
    | none=>none)=some x:=h
   split at h<;>try cases h
   rename_i R u;obtain⟨e,y,h⟩:=Jd h;obtain⟨c,g,o,n,m⟩:=qds f nb d w s h;obtain⟨j,B,A⟩:=qKh y;refine⟨_,_,o,⟨⟨p,j,R,rfl,by have:=getElem?_lt u;omega,u,rfl,B,A⟩,n⟩,λ r=>?_⟩
   show(match rws[p]? with
    | some R=>qa (qb R.l i) λ e=>qbP rws f nb d w λ t g=>r (.eltI (d-p) R.τ :: t) ((i,e),g)
    | none=>none)=_
   rw[u];simp only[y,qa];exact m _
 | .nilp::_,_,_,_,_,_,_,_,h=>by cases h
 | .box _ _::_,_,_,_,_,_,_,_,h=>by cases h
 | .eltI _ _::_,_,_,_,_,_,_,_,h=>by cases h
theorem qiL:∀(l:List RA) (v:CV l),toC l (toB l v)=v
 | [],_=>rfl
 | [_],(_,())=>rfl
 | _::_::_,_=>rfl
theorem Jw:∀(l:List RA) (v:CV l),(qdy l v).length=nR l
 | [],_=>rfl
 | .val _::r,v=>Jw r v.2
 | .row _::r,v=>congrArg (· + 1) (Jw r v.2)
theorem j8:∀(l:List RA) (v:CV l),(Qz l v).length=nR l
 | [],_=>rfl
 | .val _::r,v=>j8 r v.2
 | .row _::r,v=>congrArg (· + 1) (j8 r v.2)
theorem qb7:∀(sas:List SA) (o:j7 sas),(QA sas o).length=nrB sas
 | [],_=>rfl
 | .nil::r,o=>qb7 r o
 | .val _::r,o=>qb7 r o
 | .row _::r,o=>qb7 r o
 | .clo _ _::r,o=>qb7 r o
 | .box l::r,o=>by rw[QA,wc,Jw,qb7 r o.2];rfl
theorem qbg:∀(sas:List SA) (o:j7 sas),(qaR sas o).length=nrB sas
 | [],_=>rfl
 | .nil::r,o=>qbg r o
 | .val _::r,o=>qbg r o
 | .row _::r,o=>qbg r o
 | .clo _ _::r,o=>qbg r o
 | .box l::r,o=>by rw[qaR,wc,j8,qbg r o.2];rfl
def sgP(g:qn4)(σ : St)(ys:List AV):Option (AV × Option St):=match dS σ g.args 0 0 ys with
 | some a=>match g.fn a with
   | some v=>qbP (qaR g.args v.1) g.res (nBx g.args) (nrB g.args) v.2 λ b c=>some (zZ (jK b (σ.rw.length+nrB g.args) c),some ⟨Qv g.args σ.rw.length v.1++Qe b (σ.rw.length+nrB g.args) c,σ.rw.map Q3++(QA g.args v.1++jY b c),List.range σ.bx.length,List.range σ.rw.length⟩)
   | none=>none
 | none=>none
def mgP(g:qqR)(σ : St)(ys:List AV):Option (AV × Option St):=match dS σ (.row g.τ :: g.args) 0 0 ys with
 | some a=>match g.fn a with
   | some v=>match Nat.beq v.length a.1.length with
     | true=>match σ.bx,σ.rw with
       | [],[R]=>some (.tup [],some ⟨[],[⟨R.k,v.map (qi g.τ),R.ver,R.fz,R.off⟩],[],[0]⟩)
       | [],[]=>some (.tup [],none)
       | _,_=>none
     | false=>none
   | none=>none
 | none=>none
def xgP(g:quk)(σ : St)(ys:List AV):Option (AV × Option St):=match dS σ g.args 0 0 ys with
 | some a=>match g.fn a with
   | some v=>some (.v (.int .i64 v),none)
   | none=>none
 | none=>none
def TC.spf(c:TC)(f:Nat):Option (St->List AV->Option (AV × Option St)):=match c.mf f with
 | some g=>some (mgP g)
 | none=>match c.xf f with
   | some g=>some (xgP g)
   | none=>match c.sf f with
     | some g=>some (sgP g)
     | none=>none
def TC.pc(c:TC):PC:=⟨c.ty,λ f=>match c.has f with
 | true=>some (jB c f)
 | false=>none,c.spf,c.pur,c.ld⟩
theorem TC.raw_eq(c:TC):c.pc.cfg.raw=c.rawT:=by
 show c.pc.raw=c.rawT;funext f;unfold PC.raw TC.rawT;have e1:c.pc.pf f=match c.has f with | true=>some (jB c f) | false=>none:=rfl
 have a:c.pc.sp f=c.spf f:=rfl;rw[e1,a];unfold TC.spf;cases c.has f with
 | true=>rfl
 | false =>
   cases c.mf f with
   | some g=>rfl
   | none =>
     cases c.xf f with
     | some g=>rfl
     | none =>
       cases c.sf f with
       | none=>rfl
       | some g=>rfl
theorem TC.lo_eq(c:TC):c.pc.cfg.lo=c.loT:=by
 show(λ f=>c.pc.raw f||c.ld f)=c.loT;funext f;have h:c.pc.raw f=c.rawT f:=congrFun c.raw_eq f;rw[h];rfl
section
variable {α : Type} {N:Nat × Nat} {m:Mp} {E:Env} {τ : TS} {tm:List AV} {σ : St} {K:KT α} {r : α} {p:Option (AV × Option St)} {c:TC} {C:Cfg}
theorem qaV:∀{cs:List AV},(∀ x∈cs,qy x=true)->rbL cs=[]/\rrL cs=[]
 | [],_=>⟨rfl,rfl⟩
 | x::cs,h=>by
   obtain⟨d,c⟩:=qaV λ y a=>h y (wg _ a);have b:=h x (wh ..);rw[rbL,rrL,d,c];cases x<;>first | exact⟨rfl,rfl⟩ | (simp[qy]at b)
theorem qc0{a:Ty}{y:AV}{v:Val a}(h:QW a y=some v):Q4 y=true/\∀ f cs,y ≠ .fn f cs:=by
 unfold QW at h;split at h
 case h_2=>cases h
 obtain⟨pre,h1,_,h3,_⟩:=yO a (yb.1 h);rw[wB]at h1;rw[<- h1]at h3;cases y with
 | agg cs =>
   obtain⟨g1,g2⟩:=qaV (cs:=cs) h3;refine⟨?_,λ f cs h=>by cases h⟩;unfold Q4;rw[rb,rr,g1,g2];rfl
 | v x=>exact⟨rfl,λ f cs h=>by cases h⟩
 | sl k es n=>exact⟨rfl,λ f cs h=>by cases h⟩
 | _=>have:=h3 _ (wH.2 rfl);simp[qy]at this
theorem qhK:∀(a:Ty) (v:Val a),Q4 (yL a v)=true
 | .int _,_=>rfl
 | .bool,_=>rfl
 | .str,_=>rfl
 | .list _,_=>rfl
 | .term,v=>by
   obtain⟨d,c⟩:=qaV (zt .term v);show Q4 (.agg _)=true;unfold Q4;rw[rb,rr,d,c];rfl
 | .pair a b,v=>by
   obtain⟨d,c⟩:=qaV (zt (.pair a b) v);show Q4 (.agg _)=true;unfold Q4;rw[rb,rr,d,c];rfl
 | .one a,v=>by
   obtain⟨d,c⟩:=qaV (zt (.one a) v);show Q4 (.agg _)=true;unfold Q4;rw[rb,rr,d,c];rfl
theorem qD6{y:AV}(h:∀ z∈cellsOf y,qy z=true):rb y=[]/\rr y=[]:=by
 cases y with
 | agg cs =>
   obtain⟨b,a⟩:=qaV (cs:=cs) h;exact⟨by rw[rb,b],by rw[rr,a]⟩
 | _=>exact qvw (h _ (wH.2 rfl))
theorem qIm(g:ju m σ){a:Ty}{cs:List TV}{ds:List AV}{v:Val a}(k:∀ y∈ds,rsC y=[])(j:qp9 (qkV m.rw a cs)=some v)(h:OKL m cs ds):yh a ds=some v/\∀ y∈ds,qy y=true:=by
 obtain⟨l,c,f⟩:=qfa g a (qh8 j) h;cases f
 have e:∀ y∈ds,qy y=true:=by
  obtain⟨pre,b,_,i,_⟩:=yO a c;rw[vq,wB]at b;intro y d;exact qrL (k y d) (i _ (by rw[<- b];exact kP d))
 exact⟨quc e (yb.2 c),e⟩
theorem qNv(l:ju m σ){a:Ty}{x:TV}{y:AV}{v:Val a}(s:qo7 x=true)(q:qgs m.rw a x=some v)(j:OK m x y):QW a y=some v/\rb y=[]/\rr y=[]:=by
 obtain⟨g,k⟩:=qk4 l q j;have c:=qxk s j
 have d:∀ z∈cellsOf y,rsC z=[]:=by
  intro z b;cases y with
  | agg cs=>exact kI.1 c z b
  | _=>cases wH.1 b;exact c
 have i:∀ z∈cellsOf y,qy z=true:=by
  obtain⟨pre,e,_,p,_⟩:=yO a (yb.1 k);rw[wB]at e;intro z b;exact qrL (d z b) (p _ (by rw[<- e];exact kP b))
 obtain⟨e1,t⟩:=qD6 i;refine⟨?_,e1,t⟩;have o:yh a (cellsOf y)=some v:=quc i k;unfold QW at g |-
 have h:qeK (QN σ.rw y)=qeK y:=by
  cases y with
  | agg cs=>rfl
  | rs r lo n u f=>simp[cellsOf,rsC]at d
  | _=>rfl
 rw[h]at g;split at g
 ·exact o
 ·cases g
theorem qr0{fb fr:Nat->Nat}{y:AV}(b:rb y=[])(a:rr y=[]):ren fb fr y=y:=quf y b a
theorem qEy{pre post:List Nat}{b:Nat}(h:(pre++b::post).Nodup):(pre++b::post).idxOf b=pre.length:=qx3 h (by rw[List.getElem?_append_right (wb _)];simp)
theorem qdH{fb fr:Nat->Nat}:∀ l:List AV,zd fb fr l=l.map (ren fb fr)
 | []=>rfl
 | x::l=>by rw[zd,qdH l];rfl
theorem qCd{fb fr:Nat->Nat}(a b:List AV):zd fb fr (a++b)=zd fb fr a++zd fb fr b:=by rw[qdH,qdH,qdH,wS]
theorem qyy:∀ a b:List AV,rbL (a++b)=rbL a++rbL b
 | [],_=>rfl
 | x::a,b=>by rw[List.cons_append,rbL,rbL,qyy a b,wi]
theorem qya:∀ a b:List AV,rrL (a++b)=rrL a++rrL b
 | [],_=>rfl
 | x::a,b=>by rw[List.cons_append,rrL,rrL,qya a b,wi]
theorem qEL(I:Rel N m E τ tm σ){t:Ty}{x:TV}{y:AV}{l:List (Val t)}{a:List Nat}(b:qiD τ.rw t x=some (l,a))(C:OK m x y) :
  rb y=[]/\rr y=a.filterMap m.r/\(∀ id∈a,id<m.rw.length) /\
  ∀(B pre post:List Nat) (fb:Nat->Nat),(pre++(a.filterMap m.r++post)).Nodup->qdR (qN σ B (pre++(a.filterMap m.r++post))) t pre.length (ren fb (λ r=>(pre++(a.filterMap m.r++post)).idxOf r) y)=some (l,pre.length+(a.filterMap m.r).length):=by
 have emp:dlist t y=some l->l=[]->2<=lvl y->a.filterMap m.r=[]->(∀ id∈a,id<m.rw.length)->rb y=[]/\rr y=a.filterMap m.r/\(∀ id∈a,id<m.rw.length) /\
   ∀(B pre post:List Nat) (fb:Nat->Nat),(pre++(a.filterMap m.r++post)).Nodup->qdR (qN σ B (pre++(a.filterMap m.r++post))) t pre.length (ren fb (λ r=>(pre++(a.filterMap m.r++post)).idxOf r) y)=some (l,pre.length+(a.filterMap m.r).length):=by
  intro u b g j h
  have f:rb y=[]/\rr y=[]:=by
   rcases jh u with⟨rfl,_⟩ | ⟨es,n,rfl,_⟩<;>exact⟨rfl,rfl⟩
  refine⟨f.1,by rw[f.2,j],h,λ B pre post fb _=>?_⟩;rw[qr0 f.1 f.2,j];subst b;rcases jh u with⟨rfl,_⟩ | ⟨es,n,rfl,_⟩
  ·simp only[qdR,u,decide_eq_true g];rfl
  ·simp only[qdR,u,decide_eq_true g];rfl
 unfold qiD at b;split at b
 ·cases b;cases C;exact emp rfl rfl (wb _) rfl (by simp)
 ·split at b<;>cases b;rename_i D g;obtain⟨e,k⟩:=jE D;subst e;obtain⟨A,z⟩:=C;have k:_=_:=k;subst k;exact emp A rfl (wD (of_decide_eq_true g) z) rfl (by simp)
 ·rename_i id K;split at b<;>try cases b
  rename_i R S;split at b<;>try cases b
  rename_i s;rw[wd,wV]at s;split at b<;>cases b;rename_i D;obtain⟨e,k⟩:=jE D;subst e;have k:R.l=l:=k;subst k;obtain⟨R',H,_,_,P⟩:=C;have o:m.rw[id]?=some R:=by rw[I.rw];exact S
  rw[o]at H;cases H;have h:∀ i∈[id],i<m.rw.length:=by intro i hi;rw[wH.1 hi];exact getElem?_lt o
  rcases qiB I.rows o (P (wj s.1))with⟨c,Q,w,rfl,v,G,F,O,M,T,L⟩ | ⟨w,v,G,F⟩
  ·have q:[id].filterMap m.r=[c]:=by simp[w]
   refine⟨rfl,by rw[q];rfl,h,λ B pre post fb J=>?_⟩;rw[q]at J |-
   have d:=qEy J
   have p:(qN σ B (pre++([c]++post))).rw[pre.length]?=some Q:=by
    show((pre++c::post).map λ r => σ.rw.getD r ⟨0,[],0,0,false⟩)[pre.length]?=_;rw[List.getElem?_map,List.getElem?_append_right (wb _),kM,List.getElem?_cons_zero];show some (σ.rw.getD c _)=_;rw[yC v]
   rw[ren];have d:(pre++([c]++post)).idxOf c=pre.length:=d;rw[d];simp only[qdR,p,O,L s.2,and_self,decide_true,M];rfl
  ·exact emp G (v s.2) F (by simp[w]) h
 ·cases b
theorem qty(k:Rel N m E τ tm σ):∀{l:List RA} {cs:List TV} {ds:List AV} {v:CV l} {a:List Nat},qaQ τ.rw l cs=some (v,a,true)->OKL m cs ds ->
  rbL ds=[]/\rrL ds=a.filterMap m.r/\(∀ id∈a,id<m.rw.length) /\
  ∀(B pre post:List Nat) (fb:Nat->Nat),(pre++(a.filterMap m.r++post)).Nodup->qf2 (qN σ B (pre++(a.filterMap m.r++post))) l pre.length (zd fb (λ r=>(pre++(a.filterMap m.r++post)).idxOf r) ds)=some (v,pre.length+(a.filterMap m.r).length)
 | [],cs,ds,v,a,h,g=>by
   cases cs with
   | cons c cs=>simp[qaQ]at h
   | nil =>
     cases g;simp only[qaQ,wz,wR]at h;obtain⟨_,rfl,_⟩:=h;exact⟨rfl,rfl,by simp,λ B pre post fb _=>rfl⟩
 | .val t::l,cs,ds,v,a,h,g=>by
   simp only[qaQ]at h;split at h<;>try (cases h;done)
   rename_i w vs e q x f;simp only[wz,wR,wd]at h;obtain⟨rfl,rfl,A,rfl⟩:=h;obtain⟨u,s,p,o⟩:=qty k f (g.drop t.size);have H:=g.take t.size;have z:∀ y∈ds.take t.size,rsC y=[]:=kI.1 (qjE H A);obtain⟨K,J⟩:=qIm k.rows z (by rw[k.rw];exact x) H;obtain⟨G,F⟩:=qaV J;have b:ds=ds.take t.size++ds.drop t.size:=(kz _ _).symm;refine⟨by rw[b,qyy,G,u];rfl,by rw[b,qya,F,s];rfl,p,λ B pre post fb n=>?_⟩;have e1:(zd fb (λ r=>(pre++(e.filterMap m.r++post)).idxOf r) ds).take t.size=ds.take t.size:=by rw[qdH,<- List.map_take,<- qdH,qe3 _ G F]
   have L:(zd fb (λ r=>(pre++(e.filterMap m.r++post)).idxOf r) ds).drop t.size=zd fb (λ r=>(pre++(e.filterMap m.r++post)).idxOf r) (ds.drop t.size):=by rw[qdH,<- List.map_drop,<- qdH]
   rw[qf2,e1,K];simp only;rw[L,o B pre post fb n]
 | .row t::l,cs,ds,v,a,h,g=>by
   cases cs with
   | nil=>simp[qaQ]at h
   | cons c cs =>
     obtain⟨d,ds,rfl,I,D⟩:=g;simp only[qaQ]at h;split at h<;>try (cases h;done)
     rename_i w i vs j q x f;simp only[wz,wR]at h;obtain⟨rfl,rfl,rfl⟩:=h;obtain⟨Q,P,O,M⟩:=qEL k x I;obtain⟨u,s,p,o⟩:=qty k f D;refine⟨by rw[rbL,Q,u];rfl,by rw[rrL,P,s,wZ],λ id C=>(ww.1 C).elim (O id) (p id),λ B pre post fb n=>?_⟩;rw[wZ,wi]at n |-
     rw[zd,qf2,M B pre (j.filterMap m.r++post) fb n];simp only;have:=o B (pre++i.filterMap m.r) post fb (by rw[wi];exact n);rw[wi,wc]at this;rw[this,wc,wI]
theorem quL(Q:Rel N m E τ tm σ):∀{sas:List SA} {xs:List TV} {ys:List AV} {a:QF sas} {p q:List Nat},yK τ sas xs=some (a,p,q)->OKL m xs ys->qlj sas=true ->
  rbL ys=p.map m.b/\(qmV sas=true->rrL ys=[])/\(rrL ys++p.flatMap λ b=>rrL (σ.bx.getD (m.b b) []))=q.filterMap m.r/\(∀ b∈p,b<m.nb/\∃ ds,σ.bx[m.b b]?=some ds/\rbL ds=[])/\(∀ id∈q,id<m.rw.length) /\
  ∀(c d:List Nat),(c++p.map m.b).Nodup->(d++q.filterMap m.r).Nodup ->
   dS (qN σ (c++p.map m.b) (d++q.filterMap m.r)) sas c.length d.length (zd (λ b=>(c++p.map m.b).idxOf b) (λ r=>(d++q.filterMap m.r).idxOf r) ys)=some a:=by
 intro sas
 induction sas with
 | nil =>
   intro xs ys a p q h W _;cases xs with
   | cons x xs=>simp[yK]at h
   | nil =>
     cases W;simp only[yK,wz,wR]at h;obtain⟨_,rfl,rfl⟩:=h;refine⟨rfl,λ _=>rfl,rfl,by simp,by simp,λ c d _ _=>?_⟩;simp[zd,dS,qN]
 | cons k sas P =>
   intro xs ys a p q h W i;cases xs with
   | nil=>cases k<;>simp[yK]at h
   | cons x xs =>
   obtain⟨y,ys,rfl,H,u⟩:=W;cases k with
   | val t =>
     simp only[yK]at h;split at h<;>try cases h
     rename_i v X V;split at h<;>cases h;rename_i vs n f w;obtain⟨A,F,s,D,C,B⟩:=P w u i;obtain⟨g1,g2,g3⟩:=qNv Q.rows X (by rw[Q.rw];exact V) H;refine⟨by rw[rbL,g2,A];rfl,λ J=>by rw[rrL,g3,F J];rfl,by rw[rrL,g3];exact s,D,C,λ c d O o=>?_⟩;rw[zd,qr0 g2 g3,dS,g1];simp only;rw[B c d O o]
   | nil =>
     cases x with
     | nil =>
       have h:yK τ sas xs=some (a,p,q):=h;have H:y = .v (.slice none 0 0):=H;subst H;obtain⟨A,F,s,D,C,B⟩:=P h u i;refine⟨by rw[rbL,A];rfl,λ J=>by rw[rrL,F J];rfl,by rw[rrL];exact s,D,C,λ c d O o=>?_⟩;show dS _ (.nil::sas) _ _ (.v (.slice none 0 0)::zd _ _ ys)=_;exact B c d O o
     | _=>simp[yK]at h
   | clo g k =>
     cases x with
     | fn g' cs =>
       simp only[yK]at h;split at h<;>try cases h
       rename_i Y;rw[wd]at Y;obtain⟨cs',rfl,G⟩:=H;obtain⟨A,F,s,D,C,B⟩:=P h (G.append u) i;rw[qyy]at A;rw[qya]at F s;refine⟨by rw[rbL,rb];exact A,λ J=>by rw[rrL,rr];exact F J,by rw[rrL,rr];exact s,D,C,λ c d O o=>?_⟩
       have Z:qAW g k (.fn g' (zd (λ b=>(c++p.map m.b).idxOf b) (λ r=>(d++q.filterMap m.r).idxOf r) cs'))=some (zd (λ b=>(c++p.map m.b).idxOf b) (λ r=>(d++q.filterMap m.r).idxOf r) cs'):=by
        have R:Nat.beq (zd (λ b=>(c++p.map m.b).idxOf b) (λ r=>(d++q.filterMap m.r).idxOf r) cs').length k=true:=by
         rw[qdH,wA,G.len];exact Y.2
        simp only[qAW,Y.1,R,xl]
       rw[zd,ren,dS,Z];simp only;rw[<- qCd];exact B c d O o
     | _=>simp[yK]at h
   | row t =>
     simp only[yK]at h;split at h<;>try cases h
     rename_i l e hl;split at h<;>cases h;rename_i vs f w;obtain⟨A,F,s,D,C,B⟩:=P w u i;obtain⟨a1,a2,a3,a4⟩:=qEL Q hl H;refine⟨by rw[rbL,a1,A];rfl,λ J=>(by cases J),by rw[rrL,a2,wi,s,wZ],D,λ id K=>(ww.1 K).elim (a3 id) (C id),λ c d O o=>?_⟩;rw[wZ]at o |-
     rw[zd,dS,a4 _ d (f.filterMap m.r) _ o];simp only;have:=B c (d++e.filterMap m.r) O (by rw[wi];exact o);rw[wi,wc]at this;rw[this]
   | box l =>
     have z:qmV sas=true/\qlj sas=true:=by
      have:(qmV sas&&qlj sas)=true:=i;rw[wd]at this;exact this
     simp only[yK]at h;split at h<;>try cases h
     rename_i v e b j;split at h<;>cases h;rename_i vs n f w;obtain⟨A,F,s,D,C,B⟩:=P w u z.2;unfold qPe at j;split at j<;>try cases j
     split at j<;>try cases j
     rename_i cs G;split at j<;>cases j;rename_i V;obtain⟨aa,rfl⟩:=H;obtain⟨ds,d1,d2⟩:=Q.box _ cs G;obtain⟨p1,p2,p3,p4⟩:=qty Q V d2;have I:=F z.1;rw[I,kV]at s;refine⟨by rw[rbL,A];rfl,λ _=>by rw[rrL,I];rfl,?_,λ b' M=>?_,λ id K=>(ww.1 K).elim (p3 id) (C id),λ c d L o=>?_⟩
     ·rw[rrL,I,xc,s,yC d1,p2,wZ];rfl
     ·rcases wx.1 M with rfl | M
      ·exact⟨aa,ds,d1,p1⟩
      ·exact D b' M
     ·rw[wo]at L |-
      rw[wZ]at o |-
      have S:=qEy L
      have T:(qN σ (c++m.b b::n.map m.b) (d++(e.filterMap m.r++f.filterMap m.r))).bx[c.length]?=some (zd (λ b'=>(c++m.b b::n.map m.b).idxOf b') (λ r=>(d++(e.filterMap m.r++f.filterMap m.r)).idxOf r) ds):=by
       show((c++m.b b::n.map m.b).map λ b=>zd _ _ (σ.bx.getD b []))[c.length]?=_;rw[List.getElem?_map,List.getElem?_append_right (wb _),kM,List.getElem?_cons_zero];show some (zd _ _ (σ.bx.getD (m.b b) []))=_;rw[yC d1]
      have U:qjw (qN σ (c++m.b b::n.map m.b) (d++(e.filterMap m.r++f.filterMap m.r))) l c.length d.length (.ptr c.length 0)=some (v,d.length+(e.filterMap m.r).length):=by
       simp only[qjw,Nat.beq_refl,T];exact p4 _ d (f.filterMap m.r) _ o
      rw[zd,ren,S,dS,U];simp only;have:=B (c++[m.b b]) (d++e.filterMap m.r) (by rw[wi];exact L) (by rw[wi];exact o);rw[wi,wi,wc,wc]at this;have this:dS (qN σ (c++m.b b::n.map m.b) (d++(e.filterMap m.r++f.filterMap m.r))) sas (c.length+1) (d.length+(e.filterMap m.r).length) (zd (λ b'=>(c++m.b b::n.map m.b).idxOf b') (λ r=>(d++(e.filterMap m.r++f.filterMap m.r)).idxOf r) ys)=some vs:=this;rw[this]
theorem qHo:∀{l:List Nat},l.Nodup->nd l=true
 | [],_=>rfl
 | b::l,h=>by
   rw[kW]at h;rw[nd,qHo h.2];simp[h.1]
theorem qxg:∀{l seen:List Nat},l.Nodup->(∀ b∈l,b ∉ seen)->qf seen l=l
 | [],seen,_,_=>rfl
 | b::l,seen,h,d=>by
   rw[kW]at h;rw[qf]
   have:seen.contains b=false:=by
    have:=d b (wh ..);simpa using this
   rw[this];simp only
   rw[qxg h.2 λ c e a=>by
    rcases wx.1 a with rfl | a
    ·exact h.1 e
    ·exact d c (wg _ e) a]
theorem qLb{α : Type}{f : α -> List Nat}{l:List α}(h:∀ x∈l,f x=[]):l.flatMap f=[]:=kI.2 h
theorem qKe{α : Type}{f : α -> List Nat}{l:List α}{x : α}{r:Nat}(a:x∈l)(b:r∈f x):r∈l.flatMap f:=ka.2 ⟨x,a,b⟩
theorem quh{ys:List AV}{B R:List Nat}(k:rbL ys=B)(e:(rrL ys++B.flatMap λ b=>rrL (σ.bx.getD b []))=R)(j:B.Nodup)(i:R.Nodup)(g:∀ b∈B,∃ ds,σ.bx[b]?=some ds/\rbL ds=[])(m:∀ r∈R,r < σ.rw.length) :
  Q7 σ ys=B/\qcP σ ys=R/\qjg σ ys=true:=by
 have o:∀ b∈B,rbL (σ.bx.getD b [])=[] := λ b a=>by obtain⟨ds,c,f⟩:=g b a;rw[yC c];exact f
 have e1:Q7 σ ys=B:=by
  unfold Q7;rw[k,qxg j (by simp)];cases σ.bx.length with
  | zero=>rfl
  | succ n=>rw[qoz,qLb o];rfl
 have l:qcP σ ys=R:=by
  unfold qcP;rw[e1,e,qxg i (by simp)]
 refine⟨e1,l,?_⟩;unfold qjg;rw[e1,l,k,qHo j,qHo i];simp only[w7,wd,wv,wap,decide_eq_true_eq];refine⟨⟨⟨λ _ h=>h,λ r h=>by rw[<- e];exact ww.2 (.inl h)⟩,λ b a=>?_⟩,m⟩;obtain⟨ds,c,f⟩:=g b a;refine⟨⟨getElem?_lt c,?_⟩,λ r d=>?_⟩
 ·rw[yC c,f];simp
 ·rw[<- e];exact ww.2 (.inr (qKe a d))
theorem qH9{fb fr:Nat->Nat}:∀ l:List AV,ren fb fr (zZ l)=zZ (zd fb fr l)
 | []=>rfl
 | [x]=>rfl
 | x::y::l=>rfl
theorem qpB{R:List Nat}{rn j:Nat}:zF R rn (R.length+j)=rn+j:=by
 unfold zF;rw[List.getElem?_eq_none (by omega)];show rn+(R.length+j-R.length)=_;omega
theorem qie{B R:List Nat}{bn rn:Nat}:∀(l:List RA) (j:Nat) (v:CV l),zd (zF B bn) (zF R rn) (qaf l (R.length+j) v)=qaf l (rn+j) v
 | [],j,v=>rfl
 | .val a::l,j,v=>by
   obtain⟨c,b⟩:=qaV (zt a v.1);rw[qaf,qCd,qe3 _ c b,qie l j v.2];rfl
 | .row a::l,j,v=>by
   have h:=qie (B:=B) (R:=R) (bn:=bn) (rn:=rn) l (j+1) v.2;rw[<- wI,<- wI]at h;rw[qaf,zd,ren,qpB,h];rfl
theorem qgR{rws:List qQ}{B R:List Nat}{bn rn:Nat}:∀(b:List RE) (nb j:Nat) (v:RV b),B.length<=nb->qpQ rws b nb j v->zd (zF B bn) (zF R rn) (jK b (R.length+j) v)=(jK b (rn+j) v).map λ y=>match y with
  | .ptr n o => .ptr (bn+(n-B.length)) o
  | y=>y
 | [],nb,j,v,_,_=>rfl
 | .one (.val a)::b,nb,j,v,c,h=>by
   obtain⟨e,q⟩:=qfI (qhK a v.1);rw[jK,zd,qr0 e q,qgR b nb j v.2 c h,jK,wo];congr 1;split
   ·rename_i n o m;rw[m]at e;cases e
   ·rfl
 | .one (.row a)::b,nb,j,v,c,h=>by
   have h:=qgR (B:=B) (R:=R) (bn:=bn) (rn:=rn) b nb (j+1) v.2 c h;rw[<- wI,<- wI]at h;rw[jK,zd,ren,qpB,h];rfl
 | .agg l::b,nb,j,v,c,h=>by
   have h:=qgR (B:=B) (R:=R) (bn:=bn) (rn:=rn) b nb (j+nR l) v.2 c h;rw[<- wI,<- wI]at h;rw[jK,zd,ren,qie l j v.1,h];rfl
 | .opt _::b,nb,j,v,c,h=>h.elim
 | .elt _::b,nb,j,v,c,h=>h.elim
 | .nilp::b,nb,j,v,c,h=>by rw[jK,zd,qgR b nb j v c h];rfl
 | .box n l::b,nb,j,v,c,h=>by
   obtain⟨rfl,h⟩:=h;have h:=qgR (B:=B) (R:=R) (bn:=bn) (rn:=rn) b (n+1) (j+nR l) v.2 (by omega) h;rw[<- wI,<- wI]at h;rw[jK,zd,ren,h,jK,wo];congr 1;show AV.ptr (zF B bn n) 0 = .ptr (bn+(n-B.length)) 0;obtain⟨k,rfl⟩:=Nat.le.dest c;rw[qpB,ky]
 | .eltI d a::b,nb,j,v,c,⟨⟨p,i,s,e1,r,_⟩,h⟩=>by
   have g:R.length+j-d=R.length+(j-d):=by omega
   have f:rn+j-d=rn+(j-d):=by omega
   rw[jK,zd,ren,g,qpB,qgR b nb j v.2 c h,jK,wo,f]
theorem qeZ{rws:List qQ}{B R:List Nat}{bn rn:Nat}:∀(b:List RE) (nb j:Nat) (v:RV b),qpQ rws b nb j v->(Qe b (R.length+j) v).map (zd (zF B bn) (zF R rn))=Qe b (rn+j) v
 | [],nb,j,v,_=>rfl
 | .one (.val a)::b,nb,j,v,h=>qeZ b nb j v.2 h
 | .one (.row a)::b,nb,j,v,h=>qeZ b nb (j+1) v.2 h
 | .agg l::b,nb,j,v,h=>by
   have h:=qeZ (B:=B) (R:=R) (bn:=bn) (rn:=rn) b nb (j+nR l) v.2 h;rw[<- wI,<- wI]at h;exact h
 | .opt _::b,nb,j,v,h=>h.elim
 | .elt _::b,nb,j,v,h=>h.elim
 | .nilp::b,nb,j,v,h=>qeZ b nb j v h
 | .box n l::b,nb,j,v,h=>by
   have h:=qeZ (B:=B) (R:=R) (bn:=bn) (rn:=rn) b (nb+1) (j+nR l) v.2 h.2;rw[<- wI,<- wI]at h;rw[Qe,wo,qie l j,h];rfl
 | .eltI d a::b,nb,j,v,h=>qeZ b nb j v.2 h.2
theorem qiO{B R:List Nat}{bn rn:Nat}:∀(sas:List SA) (j:Nat) (o:j7 sas),(Qv sas (R.length+j) o).map (zd (zF B bn) (zF R rn))=Qv sas (rn+j) o
 | [],j,o=>rfl
 | .nil::sas,j,o=>qiO sas j o
 | .val _::sas,j,o=>qiO sas j o
 | .row _::sas,j,o=>qiO sas j o
 | .clo _ _::sas,j,o=>qiO sas j o
 | .box l::sas,j,o=>by
   have h:=qiO (B:=B) (R:=R) (bn:=bn) (rn:=rn) sas (j+nR l) o.2;rw[<- wI,<- wI]at h;rw[Qv,wo,qie l j,h];rfl
theorem qp4{e:Type}:∀(a:List Nat) (l ks b:List e),ks.length=a.length->∃ c,zU l a (ks++b)=c++b/\c.length=l.length/\∀ r,r ∉ a->c[r]?=l[r]?
 | [],l,ks,b,h=>by
   have:ks=[]:=wk h;subst this;exact⟨l,by simp[zU],rfl,λ _ _=>rfl⟩
 | r::a,l,[],b,h=>by simp at h
 | r::a,l,k::ks,b,h=>by
   obtain⟨c,j,i,g⟩:=qp4 a (l.set r k) ks b (by simpa using h);refine⟨c,j,by rw[i,wJ],λ q d=>?_⟩;rw[g q λ f=>d (wg _ f),List.getElem?_set_ne (by intro he;subst he;exact d (wh ..))]
def BxL(m:Mp):List (List TV)->List (List AV)->Prop
 | [],ys=>ys=[]
 | x::xs,ys=>∃ y r,ys=y::r/\OKL m x y/\BxL m xs r
theorem BxL.mono{m':Mp}(h:MLe m m'):∀{xs:List (List TV)} {ys:List (List AV)},BxL m xs ys->BxL m' xs ys
 | [],ys,a=>a
 | x::xs,ys,⟨y,r,e,c,b⟩=>⟨y,r,e,c.mono h,BxL.mono h b⟩
theorem qzC:∀(a:List Nat) {τ : TS} {σ : St} {xs:List (List TV)} {ys:List (List AV)},Rel N m E τ tm σ -> BxL m xs ys->xs.length=a.length->(∀ b∈a,b<m.nb) ->
  Rel N m E ⟨qnx τ.bx a xs,τ.rw⟩ tm { σ with bx:=zU σ.bx (a.map m.b) ys }
 | [],τ,σ,xs,ys,f,e,d,_=>by
   have:xs=[]:=wk d;subst this;cases e;show Rel N m E τ tm { σ with bx := σ.bx++[] };rw[wB];exact f
 | b::a,τ,σ,xs,ys,f,e,d,g=>by
   cases xs with
   | nil=>simp at d
   | cons x xs =>
     obtain⟨y,r,rfl,j,i⟩:=e;have:=f.setBox (g b (wh ..)) j σ.wr;exact qzC a this i (by simpa using d) λ c h=>g c (wg _ h)
theorem qvd{a:Type}{l:List a}{i:Nat}{x:a}{f:a->a}(h:l[i]?=some x):l.modify i f=l.set i (f x):=by
 apply xd;intro j;rw[List.getElem?_modify,List.getElem?_set];by_cases b:i=j
 ·subst b;rw[h,if_pos rfl,if_pos (getElem?_lt h)];simp
 ·rw[if_neg b];cases l[j]? with
  | none=>rfl
  | some y=>simp[b]
theorem qDn:∀(a:List Nat) {m:Mp} {τ : TS},Rel N m E τ tm σ -> (∀ id∈a,id<m.rw.length) ->
  ∃ m',MLe m m'/\Rel N m' E ⟨τ.bx,qfg τ.rw a⟩ tm σ /\ m'.nb=m.nb/\m'.b=m.b/\m'.rw.length=m.rw.length/\(∀ i r,m'.r i=some r->m.r i=some r/\i ∉ a)
 | [],m,τ,c,_=>⟨m,.refl m,c,rfl,rfl,rfl,λ i r h=>⟨h,by simp⟩⟩
 | id::a,m,τ,c,q=>by
   have n:=q id (wh ..);have g:=List.getElem?_eq_getElem n;generalize B:m.rw[id]=R at g;have e:MLe m (m.upd id ⟨R.τ,[],R.ver+1,R.sv,false⟩ none 0 []):=qHL g (kr _) (wb _) (λ h=>by have:R.ver+1=R.ver:=h;omega)
   have k:Rel N (m.upd id ⟨R.τ,[],R.ver+1,R.sv,false⟩ none 0 []) E ⟨τ.bx,τ.rw.modify id λ R=>⟨R.τ,[],R.ver+1,R.sv,false⟩⟩ tm σ := by
    refine c.to e ?_ rfl rfl rfl (qCE g c.rows (λ _=>rfl) λ _ _ _ _ _ _ h=>h) ?_
    ·show m.rw.set id _ = τ.rw.modify id _;rw[<- c.rw,qvd g]
    ·intro i f r p o e1 j;change i<(m.rw.set id _).length at p;change f<(m.rw.set id _).length at o;change (if i=id then none else m.r i)=some r at e1;change (if f=id then none else m.r f)=some r at j;simp at p o;split at e1<;>split at j<;>first | (cases e1;done) | (cases j;done) | exact c.rinj i f r p o e1 j
   obtain⟨m',y,x,w,v,u,t⟩:=qDn a k (λ i A=>by show i<(m.rw.set id _).length;rw[wJ];exact q i (wg _ A));refine⟨m',e.trans y,x,w,v,by rw[u];show(m.rw.set id _).length=_;rw[wJ],λ i r h=>?_⟩;obtain⟨d,s⟩:=t i r h;have d:(if i=id then none else m.r i)=some r:=d;split at d
   ·cases d
   ·rename_i l;exact⟨d,λ z=>(wx.1 z).elim l s⟩
def qjt(m:Mp)(L:Nat):Prop:=∀ id r,id<m.rw.length->m.r id=some r->r<L
def At(m:Mp)(t L n:Nat):Prop:=∀ k,k<n->∃ R,m.rw[t+k]?=some R/\R.ver=0/\R.sv=0/\m.r (t+k)=some (L+k)/\m.v (t+k)=0
theorem At.mono{m m':Mp}{t L n:Nat}(h:At m t L n)(f:MLe m m')(e:∀(id:Nat) (R R':qQ),m.rw[id]?=some R->m'.rw[id]?=some R'->R'=R):At m' t L n := λ k g=>by
 obtain⟨R,c,o,l,j,i⟩:=h k g;obtain⟨R',d,_,_,p⟩:=f.row _ R c;cases e _ _ _ c d;obtain⟨_,a,b,_⟩:=p rfl;exact⟨R,d,o,l,a.trans j,b.trans i⟩
theorem At.join{m:Mp}{t L a b:Nat}(h:At m t L a)(g:At m (t+a) (L+a) b):At m t L (a+b) := λ k j=>by
 by_cases f:k<a
 ·exact h k f
 ·obtain⟨R,e,i,g3,c,d⟩:=g (k-a) (by omega);rw[show t+a+(k-a)=t+k by omega]at e c d;rw[show L+a+(k-a)=L+k by omega]at c;exact⟨R,e,i,g3,c,d⟩
theorem qFn(d:Rel N m E τ tm σ){L:Nat}{a:Ty}{l:List (Val a)}(n:qjt m L)(p : σ.rw[L]?=some ⟨a.size,l.map (qi a),0,0,false⟩) :
  ∃ m',MLe m m'/\Rel N m' E ⟨τ.bx,τ.rw++[⟨a,l,0,0,false⟩]⟩ tm σ /\ OK m' (.row τ.rw.length 0) (.rs L 0 l.length 0 false)/\qjt m' (L+1)/\m'.b=m.b/\m'.nb=m.nb/\At m' τ.rw.length L 1:=by
 have e:=qsl m ⟨a,l,0,0,false⟩ (some L) 0 (l.map (qi a));have q:JT σ ⟨a,l,0,0,false⟩ (some L) 0 (l.map (qi a)):=⟨⟨a.size,l.map (qi a),0,0,false⟩,p,rfl,rfl,rfl,qb3 (Qi a) l,we _,λ _=>⟨rfl,rfl⟩⟩
 have i:Rel N (m.add ⟨a,l,0,0,false⟩ (some L) 0 (l.map (qi a))) E ⟨τ.bx,τ.rw++[⟨a,l,0,0,false⟩]⟩ tm σ := by
  refine d.to e (by show m.rw++_=_;rw[d.rw]) rfl rfl rfl (qo1 d.rows q λ _ _ h=>h) ?_;intro id c r f o e1 g;change id<(m.rw++[_]).length at f;change c<(m.rw++[_]).length at o;change (if id=m.rw.length then some L else m.r id)=some r at e1;change (if c=m.rw.length then some L else m.r c)=some r at g;simp at f o;split at e1<;>split at g
  ·omega
  ·have:=n c r (by omega) g;cases e1;omega
  ·have:=n id r (by omega) e1;cases g;omega
  ·exact d.rinj id c r (by omega) (by omega) e1 g
 refine⟨_,e,i,⟨⟨a,l,0,0,false⟩,?_,we _,.inr (.inr ⟨_,_,_,_,_,rfl⟩),λ _=>?_⟩,λ id r f e1=>?_,rfl,rfl,λ k s=>?_⟩
 ·show(m.rw++_)[τ.rw.length]?=_;rw[d.rw];simp
 ·show qaa (if τ.rw.length=m.rw.length then some L else m.r τ.rw.length) (if τ.rw.length=m.rw.length then 0 else m.v τ.rw.length) a l _;rw[if_pos (by rw[d.rw]),if_pos (by rw[d.rw])];rfl
 ·change id<(m.rw++[_]).length at f;change (if id=m.rw.length then some L else m.r id)=some r at e1;simp at f;split at e1
  ·cases e1;omega
  ·have:=n id r (by omega) e1;omega
 ·have j:k=0:=by omega
  subst j;exact⟨⟨a,l,0,0,false⟩,by show(m.rw++_)[τ.rw.length+0]?=_;rw[d.rw];simp,rfl,rfl,by show(if τ.rw.length+0=m.rw.length then some L else _)=_;rw[if_pos (by rw[d.rw,wP])];rfl,by show(if τ.rw.length+0=m.rw.length then 0 else _)=_;rw[if_pos (by rw[d.rw,wP])]⟩
theorem qxC{m m':Mp}{d:List qQ}{rw a:List qQ}(h:m.rw=rw)(f:m'.rw=a)(e:a=rw++d):∀(id:Nat) (R R':qQ),m.rw[id]?=some R->m'.rw[id]?=some R'->R'=R := λ id R R' c b=>by
 rw[f,e,<- h,List.getElem?_append_left (getElem?_lt c),c]at b;exact(kX b).symm
theorem qjD:∀(l:List RA) {m:Mp} {τ : TS} {L:Nat} {v:CV l},Rel N m E τ tm σ -> qjt m L->(∀(k:Nat) (Q:Row),(qdy l v)[k]?=some Q -> σ.rw[L+k]?=some Q) ->
  ∃ m',MLe m m'/\Rel N m' E ⟨τ.bx,τ.rw++Qz l v⟩ tm σ /\ OKL m' (qcV l τ.rw.length v) (qaf l L v)/\qjt m' (L+nR l)/\m'.b=m.b/\m'.nb=m.nb/\At m' τ.rw.length L (nR l)
 | [],m,τ,L,v,f,g,_=>⟨m,.refl m,by show Rel N m E ⟨τ.bx,τ.rw++[]⟩ tm σ;rw[wB];exact f,rfl,g,rfl,rfl,λ k j=>absurd j (wL _)⟩
 | .val a::l,m,τ,L,v,f,g,i=>by
   obtain⟨m',h,c,e,p,o,n,d⟩:=qjD l (v:=v.2) f g i;exact⟨m',h,c,(QH (Qi a v.1)).append e,p,o,n,d⟩
 | .row a::l,m,τ,L,v,f,g,i=>by
   obtain⟨y,x,q,w,u,t,s,r⟩:=qFn f (a:=a) (l:=v.1) g (i 0 _ rfl)
   obtain⟨m',h,c,e,p,o,n,d⟩:=qjD l (v:=v.2) (L:=L+1) q u λ k Q j=>by
    have:=i (k+1) Q j;rw[<- this];congr 1;omega
   have c:Rel N m' E ⟨τ.bx,(τ.rw++[⟨a,v.1,0,0,false⟩])++Qz l v.2⟩ tm σ := c;rw[wi]at c;have e:OKL m' (qcV l (τ.rw++([⟨a,v.1,0,0,false⟩]:List qQ)).length v.2) (qaf l (L+1) v.2):=e;have d:At m' (τ.rw++([⟨a,v.1,0,0,false⟩]:List qQ)).length (L+1) (nR l):=d;rw[wc]at e d
   exact⟨m',x.trans h,c,⟨_,_,rfl,w.mono h,e⟩,(by rw[nR,<- wI,Nat.add_right_comm];exact p),o.trans t,n.trans s,by
    rw[nR,wab];exact(r.mono h (qxC q.rw c.rw (wi ..).symm)).join d⟩
theorem qiG:∀(sas:List SA) {m:Mp} {τ : TS} {L:Nat} {o:j7 sas},Rel N m E τ tm σ -> qjt m L->(∀(k:Nat) (Q:Row),(QA sas o)[k]?=some Q -> σ.rw[L+k]?=some Q) ->
  ∃ m',MLe m m'/\Rel N m' E ⟨τ.bx,τ.rw++qaR sas o⟩ tm σ /\ BxL m' (qe8 sas τ.rw.length o) (Qv sas L o)/\qjt m' (L+nrB sas)/\m'.b=m.b/\m'.nb=m.nb/\At m' τ.rw.length L (nrB sas)
 | [],m,τ,L,o,c,d,_=>⟨m,.refl m,by show Rel N m E ⟨τ.bx,τ.rw++[]⟩ tm σ;rw[wB];exact c,rfl,d,rfl,rfl,λ k e=>absurd e (wL _)⟩
 | .nil::sas,m,τ,L,o,c,d,a=>qiG sas (o:=o) c d a
 | .val _::sas,m,τ,L,o,c,d,a=>qiG sas (o:=o) c d a
 | .row _::sas,m,τ,L,o,c,d,a=>qiG sas (o:=o) c d a
 | .clo _ _::sas,m,τ,L,o,c,d,a=>qiG sas (o:=o) c d a
 | .box l::sas,m,τ,L,o,c,d,a=>by
   have a:∀(k:Nat) (Q:Row),(qdy l (toC l o.1)++QA sas o.2)[k]?=some Q -> σ.rw[L+k]?=some Q:=a;obtain⟨y,x,j,w,u,t,s,r⟩:=qjD l (v:=toC l o.1) c d λ k Q e=>a k Q (by rw[List.getElem?_append_left (getElem?_lt e)];exact e)
   obtain⟨m',i,f,h,q,p,n,g⟩:=qiG sas (o:=o.2) (L:=L+nR l) j u λ k Q e=>by
    have:=a (nR l+k) Q (by rw[List.getElem?_append_right (by rw[Jw];omega),Jw,ky];exact e);rw[<- this,wI]
   have f:Rel N m' E ⟨τ.bx,(τ.rw++Qz l (toC l o.1))++qaR sas o.2⟩ tm σ := f;rw[wi]at f;have h:BxL m' (qe8 sas (τ.rw++Qz l (toC l o.1)).length o.2) (Qv sas (L+nR l) o.2):=h;have g:At m' (τ.rw++Qz l (toC l o.1)).length (L+nR l) (nrB sas):=g;rw[wc,j8]at h g;exact⟨m',x.trans i,f,⟨_,_,rfl,w.mono i,h⟩,(by rw[nrB,<- wI];exact q),p.trans t,n.trans s,(r.mono i (qxC j.rw f.rw (wi ..).symm)).join g⟩
theorem qJY{τ a:TS}{m':Mp}(h:Rel N m E τ tm σ)(e:m'=m)(b:a = τ):Rel N m' E a tm σ := by subst e;subst b;exact h
theorem qwZ{rws:List qQ}{t0 L0:Nat}{m m':Mp}{rw o:List qQ}(h:m.rw=rw)(t:MLe m m')(w:m'.rw=rw++o)(s:∀(p:Nat) (R:qQ),rws[p]?=some R->∃ q,m.rw[t0+p]?=some R/\R.ver=0/\R.sv=0/\m.r (t0+p)=some q/\q=L0+p/\m.v (t0+p)=0/\m.q (t0+p)=R.l.map (qi R.τ)) :
  ∀(p:Nat) (R:qQ),rws[p]?=some R->∃ q,m'.rw[t0+p]?=some R/\R.ver=0/\R.sv=0/\m'.r (t0+p)=some q/\q=L0+p/\m'.v (t0+p)=0/\m'.q (t0+p)=R.l.map (qi R.τ) := λ p R u=>by
 obtain⟨q,d,n,k,j,i,g,f⟩:=s p R u;obtain⟨R',e,_,_,x⟩:=t.row _ R d;cases qxC h w rfl _ _ _ d e;obtain⟨_,a,b,_,c,_⟩:=x rfl;exact⟨q,e,n,k,a.trans j,i,b.trans g,(c rfl).trans f⟩
theorem Rel.addBox{τ : TS}(d:Rel N m E τ tm σ){cs:List TV}{ds:List AV}{b':Nat}(h : σ.bx[b']?=some ds)(j:OKL m cs ds)(l:∀ b,b<m.nb->m.b b≠b') :
  ∃ m',MLe m m'/\Rel N m' E ⟨τ.bx++[cs],τ.rw⟩ tm σ /\ (∀ b,b<m'.nb->(b<m.nb/\m'.b b=m.b b)\/m'.b b=b')/\(m'.rw=m.rw/\m'.r=m.r/\m'.v=m.v/\m'.q=m.q):=by
 have e:MLe m ⟨λ i=>if i=m.nb then b' else m.b i,m.nb+1,m.r,m.v,m.q,m.rw⟩:=⟨kr _,λ i n=>if_neg (xY n),λ id R h=>⟨R,h,wb _,wb _,λ _=>⟨rfl,rfl,rfl,rfl,λ _=>rfl,λ _ _ h=>h⟩⟩⟩
 refine⟨_,e,⟨d.len,λ t=>(d.env t).mono e,d.rw,by show m.nb+1=(τ.bx++[cs]).length;rw[wc,d.nb];rfl,λ b cs' a=>?_,λ b c a j f=>?_,d.rows,d.rinj,quF e d.pin⟩,λ b a=>?_,rfl,rfl,rfl,rfl⟩
 ·have a:(τ.bx++[cs])[b]?=some cs':=a;show ∃ ds,σ.bx[if b=m.nb then b' else m.b b]?=some ds/\_;by_cases g:b < τ.bx.length
  ·rw[List.getElem?_append_left g]at a;rw[if_neg (by rw[d.nb];exact xY g)];obtain⟨k,p,o⟩:=d.box b cs' a;exact⟨k,p,o.mono e⟩
  ·have:b = τ.bx.length:=by
     have:=getElem?_lt a;simp at this;omega
   subst this;rw[List.getElem?_append_right (wb _),kM]at a;cases a;rw[if_pos d.nb.symm];exact⟨ds,h,j.mono e⟩
 ·have a:b<m.nb+1:=a;have j:c<m.nb+1:=j;have f:(if b=m.nb then b' else m.b b)=(if c=m.nb then b' else m.b c):=f;split at f<;>split at f
  ·omega
  ·exact absurd f.symm (l c (by omega))
  ·exact absurd f (l b (by omega))
  ·exact d.inj b c (by omega) (by omega) f
 ·have a:b<m.nb+1:=a;show(b<m.nb/\(if b=m.nb then b' else m.b b)=m.b b)\/(if b=m.nb then b' else m.b b)=b';by_cases f:b=m.nb
  ·exact .inr (if_pos f)
  ·exact .inl ⟨by omega,if_neg f⟩
theorem qgM{rws:List qQ}{t0 L0 bn B NB:Nat}:∀(c:List RE) {m:Mp} {τ : TS} {nb d:Nat} {v:RV c},Rel N m E τ tm σ -> qjt m (L0+d) -> τ.rw.length=t0+d->(∀(p:Nat) (R:qQ),rws[p]?=some R->∃ q,m.rw[t0+p]?=some R/\R.ver=0/\R.sv=0/\m.r (t0+p)=some q/\q=L0+p/\m.v (t0+p)=0/\m.q (t0+p)=R.l.map (qi R.τ))->qpQ rws c nb d v->(∀(k:Nat) (Q:Row),(jY c v)[k]?=some Q -> σ.rw[L0+d+k]?=some Q) ->
  τ.bx.length=bn+(nb-NB)->NB<=nb->B+(nb-NB)+(Qe c (L0+d) v).length <= σ.bx.length->(∀ b,b<m.nb->m.b b<B+(nb-NB))->(∀(k:Nat) (ds:List AV),(Qe c (L0+d) v)[k]?=some ds -> σ.bx[B+(nb-NB)+k]?=some ds) ->
  ∃ m',MLe m m'/\Rel N m' E ⟨τ.bx++qij c τ.rw.length v,τ.rw++qha c v⟩ tm σ /\ OKL m' (qhu bn NB c τ.rw.length v) ((jK c (L0+d) v).map λ y=>match y with | .ptr n o => .ptr (B+(n-NB)) o | y=>y)
 | [],m,τ,nb,d,v,C,_,_,_,_,_,_,_,_,_,_=>⟨m,.refl m,qJY C rfl (by show(⟨τ.bx++[],τ.rw++[]⟩:TS) = τ;rw[wB,wB]),rfl⟩
 | .one (.val a)::c,m,τ,nb,d,v,C,H,F,G,w,z,i,s,g,f,e=>by
   obtain⟨m',D,u,t⟩:=qgM c (v:=v.2) C H F G w z i s g f e;refine⟨m',D,u,⟨_,_,rfl,?_,t⟩⟩;have:=qsq (m:=m') a v.1;show OK m' _ (match yL a v.1 with | .ptr n o => .ptr (B+(n-NB)) o | y=>y);split
   ·rename_i n o L;have hz:=(qfI (qhK a v.1)).1;rw[L]at hz;cases hz
   ·exact this
 | .one (.row a)::c,m,τ,nb,d,v,C,H,F,G,w,z,i,s,g,f,e=>by
   obtain⟨m1,J,I,V,U,P,O,a7⟩:=qFn C (a:=a) (l:=v.1) H (z 0 _ rfl)
   obtain⟨m',D,u,t⟩:=qgM c (B:=B) (nb:=nb) (v:=v.2) (d:=d+1) I U (by show(τ.rw++[_]).length=_;rw[wc,F];rfl) (qwZ C.rw J I.rw G) w (λ k Q A=>by
    have:=z (k+1) Q A;rw[<- this];congr 1;omega) i s g (by rw[P,O];exact f) e
   have u:Rel N m' E ⟨τ.bx++qij c (τ.rw++([⟨a,v.1,0,0,false⟩]:List qQ)).length v.2,(τ.rw++[⟨a,v.1,0,0,false⟩])++qha c v.2⟩ tm σ := u;rw[wi,wc]at u;have t:OKL m' (qhu bn NB c (τ.rw++([⟨a,v.1,0,0,false⟩]:List qQ)).length v.2) _:=t;rw[wc]at t;exact⟨m',J.trans D,u,⟨_,_,rfl,V.mono D,t⟩⟩
 | .agg l::c,m,τ,nb,d,v,C,H,F,G,w,z,i,s,g,f,e=>by
   have z:∀(k:Nat) (Q:Row),(qdy l v.1++jY c v.2)[k]?=some Q -> σ.rw[L0+d+k]?=some Q:=z;obtain⟨m1,J,I,V,U,P,O,a7⟩:=qjD l (v:=v.1) C H λ k Q A=>z k Q (by rw[List.getElem?_append_left (getElem?_lt A)];exact A)
   obtain⟨m',D,u,t⟩:=qgM c (B:=B) (nb:=nb) (v:=v.2) (d:=d+nR l) I (by rw[<- wI];exact U) (by show(τ.rw++_).length=_;rw[wc,F,j8,wI]) (qwZ C.rw J I.rw G) w (λ k Q A=>by
    have:=z (nR l+k) Q (by rw[List.getElem?_append_right (by rw[Jw];omega),Jw,ky];exact A);rw[<- this];congr 1;omega) i s (by rw[<- wI];exact g) (by rw[P,O];exact f) (λ k ds A=>by rw[<- wI]at A;exact e k ds A)
   have u:Rel N m' E ⟨τ.bx++qij c (τ.rw++Qz l v.1).length v.2,(τ.rw++Qz l v.1)++qha c v.2⟩ tm σ := u;rw[wi,wc,j8]at u;have t:OKL m' (qhu bn NB c (τ.rw++Qz l v.1).length v.2) _:=t;rw[wc,j8,<- wI]at t;have ab:OK m' (.agg (qcV l τ.rw.length v.1)) (.agg (qaf l (L0+d) v.1)):=⟨_,rfl,V.mono D⟩
   exact⟨m',J.trans D,u,⟨_,_,rfl,ab,t⟩⟩
 | .opt _::c,m,τ,nb,d,v,_,_,_,_,w,_,_,_,_,_,_=>w.elim
 | .elt _::c,m,τ,nb,d,v,_,_,_,_,w,_,_,_,_,_,_=>w.elim
 | .nilp::c,m,τ,nb,d,v,C,H,F,G,w,z,i,s,g,f,e=>by
   obtain⟨m',D,u,t⟩:=qgM c (v:=v) C H F G w z i s g f e;exact⟨m',D,u,⟨_,_,rfl,⟨rfl,rfl⟩,t⟩⟩
 | .box n l::c,m,τ,nb,d,v,C,H,F,G,w,z,i,s,g,f,e=>by
   obtain⟨rfl,w⟩:=w;have z:∀(k:Nat) (Q:Row),(qdy l (toC l v.1)++jY c v.2)[k]?=some Q -> σ.rw[L0+d+k]?=some Q:=z;obtain⟨m1,J,I,V,U,P,O,a7⟩:=qjD l (v:=toC l v.1) C H λ k Q A=>z k Q (by rw[List.getElem?_append_left (getElem?_lt A)];exact A);have Z : σ.bx[B+(n-NB)]?=some (qaf l (L0+d) (toC l v.1)):=e 0 _ rfl;obtain⟨K,c1,c2,c3,M⟩:=I.addBox (ds:=qaf l (L0+d) (toC l v.1)) (b':=B+(n-NB)) Z V (by rw[P,O];intro b hb;exact xY (f b hb));have S:(τ.bx++[qcV l τ.rw.length (toC l v.1)]).length=bn+(n+1-NB):=by rw[wc,i];show _+1=_;omega
   have g:B+(n-NB)+((Qe c (L0+d+nR l) v.2).length+1) <= σ.bx.length:=g;have X:=qwZ C.rw J I.rw G
   have W:∀(p:Nat) (R:qQ),rws[p]?=some R->∃ q,K.rw[t0+p]?=some R/\R.ver=0/\R.sv=0/\K.r (t0+p)=some q/\q=L0+p/\K.v (t0+p)=0/\K.q (t0+p)=R.l.map (qi R.τ):=by
    rw[M.1,M.2.1,M.2.2.1,M.2.2.2];exact X
   obtain⟨m',D,u,t⟩:=qgM c (B:=B) (nb:=n+1) (v:=v.2) (d:=d+nR l) c2 (by rw[<- wI];exact λ id r hl L=>U id r (by rw[<- M.1];exact hl) (by rw[<- M.2.1];exact L)) (by show(τ.rw++_).length=_;rw[wc,F,j8,wI]) W w (λ k Q A=>by
    have:=z (nR l+k) Q (by rw[List.getElem?_append_right (by rw[Jw];omega),Jw,ky];exact A)
    rw[<- this];congr 1;omega) S (by omega) (by rw[<- wI];omega) (λ b hb=>by
     have:=c3 b hb;rcases this with⟨Y,L⟩ | L
     ·rw[L,P];have:=f b (by rw[<- O];exact Y);omega
     ·rw[L];omega) (λ k ds A=>by
    rw[<- wI]at A;have:=e (k+1) ds A;rw[<- this];congr 1;omega)
   have u:Rel N m' E ⟨(τ.bx++[qcV l τ.rw.length (toC l v.1)])++qij c (τ.rw++Qz l (toC l v.1)).length v.2,(τ.rw++Qz l (toC l v.1))++qha c v.2⟩ tm σ := u;rw[wi,wi,wc,j8]at u;have t:OKL m' (qhu bn NB c (τ.rw++Qz l (toC l v.1)).length v.2) _:=t;rw[wc,j8,<- wI]at t;refine⟨m',J.trans (c1.trans D),u,⟨_,_,rfl,?_,t⟩⟩;have T : τ.bx.length<K.nb:=by rw[c2.nb];show _<(τ.bx++[_]).length;simp
   have aa:K.b τ.bx.length=B+(n-NB):=(c3 _ T).resolve_left λ h=>by have:=h.1;rw[I.nb]at this;exact xQ _ this
   have:OK K (.ptr τ.bx.length 0) (.ptr (B+(n-NB)) 0):=⟨T,by rw[aa]⟩
   rw[i]at this;exact this.mono D
 | .eltI x a::c,m,τ,nb,d,v,C,H,F,G,w,z,i,s,g,f,e=>by
   obtain⟨⟨p,j,R,rfl,ac,hR,rfl,e2,e3⟩,w⟩:=w;obtain⟨m',D,u,t⟩:=qgM c (v:=v.2) C H F G w z i s g f e;obtain⟨q,q1,q2,q3,q4,rfl,q5,q6⟩:=G p R hR;have hL:L0+d-(d-p)=L0+p:=by omega
   have hT : τ.rw.length-(d-p)=t0+p:=by rw[F];omega
   have hj:=getElem?_lt e3;refine⟨m',D,u,⟨_,_,rfl,?_,t⟩⟩;show OK m' (.rpt (τ.rw.length-(d-p)) 0 0 v.1.1 (Jr R.τ v.1.2) 0) (.rpt (L0+d-(d-p)) v.1.1.toNat 0 0);rw[hL,hT,e2,wF];have hc:OKL m (Jr R.τ v.1.2) (qi R.τ v.1.2):=QH (Qi R.τ v.1.2)
   have:OK m (.rpt (t0+p) 0 0 ((j:Nat):Int) (Jr R.τ v.1.2) 0) (.rpt (L0+p) j 0 0) :=
    ⟨R,q1,by omega,by omega,.inl ⟨_,_,_,rfl⟩,λ _ => .inl ⟨L0+p,j,q4,by rw[q5],rfl,hj,λ _=>⟨qi R.τ v.1.2,by rw[q6,List.getElem?_map,e3];rfl,hc⟩⟩⟩
   exact this.mono D
theorem qe5{τ : TS}:∀{sas:List SA} {xs:List TV} {a:QF sas} {c d:List Nat},yK τ sas xs=some (a,c,d)->∀(L:Nat) (o:j7 sas),(qe8 sas L o).length=c.length
 | [],xs,a,c,d,h,L,o=>by
   cases xs with
   | nil=>simp only[yK,wz,wR]at h;rw[<- h.2.1];rfl
   | cons x xs=>simp[yK]at h
 | .nil::sas,xs,a,c,d,h,L,o=>by
   cases xs with
   | nil=>simp[yK]at h
   | cons x xs =>
     cases x with
     | nil=>exact qe5 (sas:=sas) h L o
     | _=>simp[yK]at h
 | .clo g k::sas,xs,a,c,d,h,L,o=>by
   cases xs with
   | nil=>simp[yK]at h
   | cons x xs =>
     cases x with
     | fn e cs =>
       simp only[yK]at h;split at h<;>try cases h
       exact qe5 (sas:=sas) h L o
     | _=>simp[yK]at h
 | .val t::sas,xs,a,c,d,h,L,o=>by
   cases xs with
   | nil=>simp[yK]at h
   | cons x xs =>
     simp only[yK]at h;split at h<;>try cases h
     split at h<;>cases h;rename_i b;exact qe5 (sas:=sas) b L o
 | .row t::sas,xs,a,c,d,h,L,o=>by
   cases xs with
   | nil=>simp[yK]at h
   | cons x xs =>
     simp only[yK]at h;split at h<;>try cases h
     split at h<;>cases h;rename_i b;exact qe5 (sas:=sas) b L o
 | .box t::sas,xs,a,c,d,h,L,o=>by
   cases xs with
   | nil=>simp[yK]at h
   | cons x xs =>
     simp only[yK]at h;split at h<;>try cases h
     split at h<;>cases h;rename_i b;rw[qe8,wu,wu,qe5 (sas:=sas) b _ o.2]
theorem qmg:∀{l:List Nat},ndN l=true->l.Nodup
 | [],_=>kT
 | b::l,h=>by
   rw[ndN,wd,wv]at h;refine kW.2 ⟨λ a=>?_,qmg h.2⟩;have:=h.1 b a;simp at this
theorem qwc{f:Nat->Nat}:∀{l:List Nat},l.Nodup->(∀ a∈l,∀ b∈l,f a=f b->a=b)->(l.map f).Nodup
 | [],_,_=>kT
 | b::l,h,e=>by
   rw[kW]at h;rw[wo,kW];refine⟨λ g=>?_,qwc h.2 λ a j c d=>e a (wg _ j) c (wg _ d)⟩;obtain⟨c,d,i⟩:=wy.1 g;have:=e c (wg _ d) b (wh ..) i;subst this;exact h.1 d
theorem qAI{f:Nat->Option Nat}:∀{l:List Nat},l.Nodup->(∀ a∈l,∀ b∈l,∀ r,f a=some r->f b=some r->a=b)->(l.filterMap f).Nodup
 | [],_,_=>kT
 | b::l,h,i=>by
   rw[kW]at h;have g:=qAI h.2 λ a m c d=>i a (wg _ m) c (wg _ d);cases e:f b with
   | none=>rw[xB e];exact g
   | some r =>
     rw[xk e,kW];refine⟨λ j=>?_,g⟩;obtain⟨c,d,k⟩:=xa.1 j;have:=i c (wg _ d) b (wh ..) r k e;subst this;exact h.1 d
theorem qIj{xs:List TV}{ys:List AV}(h:OKL m xs ys):OK m (qwn xs) (zZ ys):=by
 cases xs with
 | nil=>cases h;exact⟨[],rfl,rfl⟩
 | cons x xs =>
   obtain⟨y,r,rfl,d,c⟩:=h;cases xs with
   | nil=>cases c;exact d
   | cons x' xs =>
     obtain⟨a,b,rfl,f,e⟩:=c;show OK m (.tup (x::x'::xs)) (.tup (y::a::b));exact(⟨y::a::b,rfl,y,_,rfl,d,a,_,rfl,f,e⟩:∃ ds,AV.tup (y::a::b) = .tup ds/\OKL m (x::x'::xs) ds)
theorem qIu(b:List Nat):∀ rw:List qQ,(qfg rw b).length=rw.length:=by
 induction b with
 | nil=>intro rw;rfl
 | cons a b c =>
   intro rw;show(qfg (rw.modify a _) b).length=_;rw[c,vQ]
theorem qIV{f:Nat}{xs:List TV}{ys:List AV}(hr:Rel N m E τ tm σ)(ho:OKL m xs ys)(hh:c.has f=false){g:qqR}(hg:c.mf f=some g)(h:qCB τ g xs K=some r):Sim N m E τ tm σ K r (qdp c.pc f σ ys):=by
 obtain⟨t,sas,fn⟩:=g;unfold qCB at h;split at h
 case h_2=>cases h
 rename_i x xs;split at h
 case h_2=>cases h
 rename_i l ids a hl ha;split at h
 case h_2=>cases h
 rename_i hord
 replace hl:qiD τ.rw t x=some (l,ids):=hl
 have hids:ids=[]\/∃ id,ids=[id]:=by
  have hl:=hl;unfold qiD at hl
  repeat' split at hl
  all_goals first | (cases hl;done) | (cases hl;exact .inl rfl) | (cases hl;exact .inr ⟨_,rfl⟩)
 have hs:yK τ (.row t::sas) (x::xs)=some ((l,a),[],ids):=by
  rw[yK,hl];simp only;rw[ha];simp only[wB]
 obtain⟨i1,_,i2,i3,i4,i5⟩:=quL hr hs ho hord
 have hp:∀(σ':Option St) (v:List (Val t)) (R:List Nat),qcP σ ys=R->Q7 σ ys=[]->qjg σ ys=true->fn (l,a)=some v->dS (qN σ [] R) (.row t::sas) 0 0 (zd (λ b=>([]:List Nat).idxOf b) (λ r=>R.idxOf r) ys)=some (l,a)->Nat.beq v.length l.length=true ->
   (match(qN σ [] R).bx,(qN σ [] R).rw with
    | [],[Q]=>some (AV.tup [],some (⟨[],[⟨Q.k,v.map (qi t),Q.ver,Q.fz,Q.off⟩],[],[0]⟩:St))
    | [],[]=>some (.tup [],none)
    | _,_=>none)=some (.tup [],σ')->qdp c.pc f σ ys=some (qjc σ [] R (.tup [],σ')):=by
  intro σ' v R h1 h2 h3 h4 h5 h6 h7;unfold qdp;have e1:c.pc.pf f=none:=by show(match c.has f with | true=>some (jB c f) | false=>none)=_;rw[hh]
  have e2:c.pc.sp f=some (mgP ⟨t,sas,fn⟩):=by show c.spf f=_;unfold TC.spf;rw[hg]
  rw[e1,e2];simp only;unfold qal;rw[h3,h2,h1]
  have hm:mgP ⟨t,sas,fn⟩ (qN σ [] R) (zd (λ b=>([]:List Nat).idxOf b) (λ r=>R.idxOf r) ys)=some (.tup [],σ'):=by
   unfold mgP;rw[h5];simp only[h4,h6];exact h7
  simp only[hm]
 have fin:∀(R:List Nat),ids.filterMap m.r=R->qcP σ ys=R/\Q7 σ ys=[]/\qjg σ ys=true/\dS (qN σ [] R) (.row t::sas) 0 0 (zd (λ b=>([]:List Nat).idxOf b) (λ r=>R.idxOf r) ys)=some (l,a):=by
  intro R hR
  have nr:R.Nodup:=by
   rw[<- hR];rcases hids with rfl | ⟨id,rfl⟩
   ·exact kT
   ·cases hq:m.r id with
    | none=>rw[xB hq];exact kT
    | some q=>rw[xk hq];exact kW.2 ⟨xt,kT⟩
  have hRlt:∀ q∈R,q < σ.rw.length := λ q hq=>by
   rw[<- hR]at hq;obtain⟨id,h1,h2⟩:=xa.1 hq;exact hr.row_lt (i4 id h1) h2
  obtain⟨s1,s2,s3⟩:=quh (σ := σ) (B:=[]) (R:=R) i1 (by rw[<- hR];exact i2) kT nr (λ b hb=>by cases hb) hRlt;have:=i5 [] [] kT (by rw[kV,hR];exact nr);rw[hR]at this;exact⟨s2,s1,s3,this⟩
 split at h
 case h_3=>cases h
 ·rename_i id;obtain⟨v,hv,h1⟩:=Jd h;obtain⟨hlen,h2⟩:=jU h1;clear h h1;have hvl:v.length=l.length:=wj hlen;have hl0:=hl;unfold qiD at hl;split at hl
  ·cases hl
  ·split at hl<;>cases hl
  ·rename_i id' ver;split at hl<;>try cases hl
   rename_i Rw hRw;split at hl<;>try cases hl
   rename_i hvs;rw[wd,wV]at hvs;split at hl<;>cases hl;rename_i hc;obtain⟨e,he⟩:=jE hc;subst e;have he:Rw.l=l:=he;subst he;have hR':m.rw[id]?=some Rw:=by rw[hr.rw];exact hRw
   have hgood:=hr.rows id Rw hR';have hmod : τ.rw.modify id (λ R=>(⟨Rw.τ,v,R.ver,R.sv+1,false⟩:qQ)) = τ.rw.set id ⟨Rw.τ,v,Rw.ver,Rw.sv+1,false⟩:=qvd hRw;have h:K (.tup []) (some ⟨τ.bx,τ.rw.modify id λ R=>⟨Rw.τ,v,R.ver,R.sv+1,false⟩⟩)=some r:=h2;rw[hmod]at h;cases hq:m.r id with
   | none =>
     obtain⟨s1,s2,s3,s4⟩:=fin [] (by rw[xB hq];rfl);have hpc:=hp none v [] s1 s2 s3 hv s4 hlen rfl;rw[hq]at hgood;have hn:Rw.l=[]:=hgood hvs.2;have hvn:v=[]:=wk (by rw[hvl,hn];rfl)
     obtain⟨m',g1,g2,_⟩:=hr.rowUpd (R2:=⟨Rw.τ,v,Rw.ver,Rw.sv+1,false⟩) hRw none (m.v id) (m.q id) (wb _) (kr _)
      (λ _=>⟨hvl,hq.symm,rfl,rfl,λ _=>rfl,λ _ y hy=>by rw[hvn,<- hn];exact hy⟩) (σ' := σ) rfl (λ _=>hvn)
      (λ id' r' h1 h2 h3=>⟨(by intro h;cases h),λ Q hQ=>hQ⟩)
     exact⟨_,_,_,none,m',h,hpc,g1,g2,⟨[],rfl,rfl⟩,λ h=>by cases h⟩
   | some q =>
     obtain⟨s1,s2,s3,s4⟩:=fin [q] (by rw[xk hq];rfl);rw[hq]at hgood;obtain⟨Q,k2,kc,kv,kk,kd,kf,ks⟩:=hgood;have hsub:(qN σ [] [q]).rw=[Q]:=by show[σ.rw.getD q ⟨0,[],0,0,false⟩]=[Q];rw[yC k2]
     have hpc:=hp (some ⟨[],[⟨Q.k,v.map (qi Rw.τ),Q.ver,Q.fz,Q.off⟩],[],[0]⟩) v [q] s1 s2 s3 hv s4 hlen (by rw[hsub];rfl);have hrl:q < σ.rw.length:=getElem?_lt k2
     have hbk:qjc σ [] [q] (.tup [],some ⟨[],[⟨Q.k,v.map (qi Rw.τ),Q.ver,Q.fz,Q.off⟩],[],[0]⟩)=(.tup [],some { σ with rw := σ.rw.set q ⟨Q.k,v.map (qi Rw.τ),Q.ver,Q.fz,Q.off⟩,wrr:=q :: σ.wrr }):=by
      simp[qjc,qhU,zU,ren,zd,zF]
     rw[hbk]at hpc
     obtain⟨m',g1,g2,_⟩:=hr.rowUpd (R2:=⟨Rw.τ,v,Rw.ver,Rw.sv+1,false⟩) hRw (m.r id) (m.v id) (v.map (qi Rw.τ)) (wb _) (kr _)
      (λ _=>⟨hvl,rfl,rfl,rfl,(λ h=>by have:Rw.sv+1=Rw.sv:=h;omega),(λ h=>by rw[hq]at h;cases h)⟩) (σ':={ σ with rw := σ.rw.set q ⟨Q.k,v.map (qi Rw.τ),Q.ver,Q.fz,Q.off⟩,wrr:=q :: σ.wrr }) rfl
      (by
       rw[hq];refine⟨⟨Q.k,v.map (qi Rw.τ),Q.ver,Q.fz,Q.off⟩,by show(σ.rw.set q _)[q]?=_;rw[List.getElem?_set_self hrl],rfl,kv,kk,qb3 (Qi Rw.τ) v,?_,λ _=>ks hvs.2⟩;show Q.fz<=(v.map _).length;rw[(ks hvs.2).1];exact we _)
      (λ id' r'' h1 h2 h3=>by
       have hne:=hr.others hRw hq h1 h2 h3;refine⟨λ he=>by rw[hq]at he;exact hne (kX he).symm,λ Q' hQ'=>?_⟩;show(σ.rw.set q _)[r'']?=_;rw[List.getElem?_set_ne (xK hne)];exact hQ')
     exact .to h hpc g1 g2 ⟨[],rfl,rfl⟩
  ·cases hl
 ·obtain⟨v,hv,h⟩:=Jd h;obtain⟨hlen,h⟩:=jU h;obtain⟨s1,s2,s3,s4⟩:=fin [] rfl;have hpc:=hp none v [] s1 s2 s3 hv s4 hlen rfl;exact .same hr h hpc ⟨[],rfl,rfl⟩
theorem qIi{f:Nat}{xs:List TV}{ys:List AV}(hr:Rel N m E τ tm σ)(ho:OKL m xs ys)(hh:c.has f=false)(hmf:c.mf f=none){g:quk}(hg:c.xf f=some g)(h:qBW τ g xs K=some r):Sim N m E τ tm σ K r (qdp c.pc f σ ys):=by
 unfold qBW at h;split at h
 case h_2=>cases h
 rename_i a bs rs hvs;split at h
 case h_2=>cases h
 rename_i hnd;rw[wd,wd]at hnd;obtain⟨hnd1,hnd2,hord⟩:=hnd;obtain⟨v,hv,h⟩:=Jd h;obtain⟨i1,_,i2,i3,i4,i5⟩:=quL hr hvs ho hord;have nb:=qwc (f:=m.b) (qmg hnd1) λ x hx y hy he=>hr.inj x y (i3 x hx).1 (i3 y hy).1 he;have nr:=qAI (f:=m.r) (qmg hnd2) λ x hx y hy q e1 e2=>hr.rinj x y q (i4 x hx) (i4 y hy) e1 e2
 have hRlt:∀ q∈rs.filterMap m.r,q < σ.rw.length := λ q hq=>by
  obtain⟨id,h1,h2⟩:=xa.1 hq;exact hr.row_lt (i4 id h1) h2
 have i2':(rrL ys++(bs.map m.b).flatMap λ b=>rrL (σ.bx.getD b []))=rs.filterMap m.r:=by rw[vf];exact i2
 obtain⟨s1,s2,s3⟩:=quh (σ := σ) i1 i2' nb nr (λ b hb=>by obtain⟨b0,h1,rfl⟩:=wy.1 hb;exact(i3 b0 h1).2) hRlt;have hd:=i5 [] [] nb nr;rw[kV,kV]at hd;generalize hB:bs.map m.b=B at *;generalize hR:rs.filterMap m.r=R at *
 have hsg:xgP g (qN σ B R) (zd (λ b=>B.idxOf b) (λ r=>R.idxOf r) ys)=some (.v (.int .i64 v),none):=by
  unfold xgP;have hd:dS (qN σ B R) g.args 0 0 (zd (λ b=>B.idxOf b) (λ r=>R.idxOf r) ys)=some a:=hd;rw[hd];simp only[hv]
 have hpc:qdp c.pc f σ ys=some (.v (.int .i64 v),none):=by
  unfold qdp;have e1:c.pc.pf f=none:=by show(match c.has f with | true=>some (jB c f) | false=>none)=_;rw[hh]
  have e2:c.pc.sp f=some (xgP g):=by show c.spf f=_;unfold TC.spf;rw[hmf,hg]
  rw[e1,e2];simp only;unfold qal;rw[s3,s1,s2];simp only[hsg,qjc];rfl
 exact .same hr h hpc rfl
theorem qis:∀(sas:List SA) (L:Nat) (o:j7 sas),(qe8 sas L o).length=nBx sas
 | [],_,_=>rfl
 | .nil::sas,L,o=>qis sas L o
 | .clo _ _::sas,L,o=>qis sas L o
 | .val _::sas,L,o=>qis sas L o
 | .row _::sas,L,o=>qis sas L o
 | .box _::sas,L,o=>by rw[qe8,wu,qis sas _ o.2,nBx]
theorem qbo:∀(sas:List SA) (L:Nat) (o:j7 sas),(Qv sas L o).length=nBx sas
 | [],_,_=>rfl
 | .nil::sas,L,o=>qbo sas L o
 | .clo _ _::sas,L,o=>qbo sas L o
 | .val _::sas,L,o=>qbo sas L o
 | .row _::sas,L,o=>qbo sas L o
 | .box _::sas,L,o=>by rw[Qv,wu,qbo sas _ o.2,nBx]
theorem qyM:∀(c:List Nat) (a xs:List (List TV)),(qnx a c xs).length=a.length
 | [],a,xs=>by cases xs<;>rfl
 | b::c,a,[]=>rfl
 | b::c,a,x::xs=>by rw[qnx,qyM c,wJ]
theorem qv3{c:Type}:∀(a:List Nat) (l ks b:List c),ks.length=a.length->zU l a (ks++b)=zU l a ks++b
 | [],l,ks,b,h=>by
   have:ks=[]:=wk h;subst this;simp[zU]
 | r::a,l,[],b,h=>by simp at h
 | r::a,l,k::ks,b,h=>qv3 a (l.set r k) ks b (by simpa using h)
theorem Rel.moreBx{τ : TS}(a:Rel N m E τ tm σ)(xs:List (List AV)):Rel N m E τ tm { σ with bx := σ.bx++xs } :=
 ⟨a.len,a.env,a.rw,a.nb,λ b cs d=>by
  obtain⟨ds,c,e⟩:=a.box b cs d;exact⟨ds,by show(σ.bx++xs)[_]?=_;rw[List.getElem?_append_left (getElem?_lt c)];exact c,e⟩,a.inj,a.rows,a.rinj,a.pin⟩
theorem quU:∀(l:List RA) (v:CV l) (p:Nat) (R:qQ) (Q:Row),(Qz l v)[p]?=some R->(qdy l v)[p]?=some Q->Q.c=R.l.map (qi R.τ)
 | [],v,p,R,Q,h,_=>by cases h
 | .val _::l,v,p,R,Q,h,g=>quU l v.2 p R Q h g
 | .row a::l,v,0,R,Q,h,g=>by cases h;cases g;rfl
 | .row a::l,v,p+1,R,Q,h,g=>quU l v.2 p R Q h g
theorem qiE:∀(sas:List SA) (o:j7 sas) (p:Nat) (R:qQ) (Q:Row),(qaR sas o)[p]?=some R->(QA sas o)[p]?=some Q->Q.c=R.l.map (qi R.τ)
 | [],o,p,R,Q,h,_=>by cases h
 | .nil::sas,o,p,R,Q,h,g=>qiE sas o p R Q h g
 | .clo _ _::sas,o,p,R,Q,h,g=>qiE sas o p R Q h g
 | .val _::sas,o,p,R,Q,h,g=>qiE sas o p R Q h g
 | .row _::sas,o,p,R,Q,h,g=>qiE sas o p R Q h g
 | .box l::sas,o,p,R,Q,h,g=>by
   have h:(Qz l (toC l o.1)++qaR sas o.2)[p]?=some R:=h;have g:(qdy l (toC l o.1)++QA sas o.2)[p]?=some Q:=g;by_cases a:p<nR l
   ·rw[List.getElem?_append_left (by rw[j8];exact a)]at h;rw[List.getElem?_append_left (by rw[Jw];exact a)]at g;exact quU l _ p R Q h g
   ·rw[List.getElem?_append_right (by rw[j8];omega),j8]at h;rw[List.getElem?_append_right (by rw[Jw];omega),Jw]at g;exact qiE sas o.2 _ R Q h g
theorem qzz{f:Nat}{xs:List TV}{ys:List AV}(hr:Rel N m E τ tm σ)(ho:OKL m xs ys)(hh:c.has f=false)(h:qu2 c τ f xs K=some r):Sim N m E τ tm σ K r (qdp c.pc f σ ys):=by
 unfold qu2 at h;split at h
 ·exact qIV hr ho hh ‹_› h
 rename_i hmf;split at h
 ·exact qIi hr ho hh hmf ‹_› h
 rename_i hxf;split at h
 case h_2=>cases h
 rename_i g hg;split at h
 case h_2=>cases h
 rename_i a bs rs hvs;split at h
 case h_2=>cases h
 rename_i hnd;rw[wd,wd]at hnd;obtain⟨hnd1,hnd2,hord⟩:=hnd;obtain⟨v,hv,h⟩:=Jd h;obtain⟨rs',v',h,hnum,hsol⟩:=qds g.res (nBx g.args) (nrB g.args) v.2 (by rw[qbg];exact wb _) h;obtain⟨i1,_,i2,i3,i4,i5⟩:=quL hr hvs ho hord;have nb:=qwc (f:=m.b) (qmg hnd1) λ x hx y hy he=>hr.inj x y (i3 x hx).1 (i3 y hy).1 he;have nr:=qAI (f:=m.r) (qmg hnd2) λ x hx y hy q e1 e2=>hr.rinj x y q (i4 x hx) (i4 y hy) e1 e2
 have hRlt:∀ q∈rs.filterMap m.r,q < σ.rw.length := λ q hq=>by
  obtain⟨id,h1,h2⟩:=xa.1 hq;exact hr.row_lt (i4 id h1) h2
 have i2':(rrL ys++(bs.map m.b).flatMap λ b=>rrL (σ.bx.getD b []))=rs.filterMap m.r:=by rw[vf];exact i2
 obtain⟨s1,s2,s3⟩:=quh (σ := σ) i1 i2' nb nr (λ b hb=>by obtain⟨b0,h1,rfl⟩:=wy.1 hb;exact(i3 b0 h1).2) hRlt;have hd:=i5 [] [] nb nr;rw[kV,kV]at hd;have hbl:=qe5 hvs (σ.rw.length) v.1;have hBl:(bs.map m.b).length=nBx g.args:=by rw[wA,<- hbl,qis]
 generalize hB:bs.map m.b=B at *;generalize hR:rs.filterMap m.r=R at *;have hsl:(qN σ B R).rw.length=R.length:=wA ..
 have hsg:sgP g (qN σ B R) (zd (λ b=>B.idxOf b) (λ r=>R.idxOf r) ys)=some (zZ (jK rs' (R.length+nrB g.args) v'),some ⟨Qv g.args R.length v.1++Qe rs' (R.length+nrB g.args) v',(qN σ B R).rw.map Q3++(QA g.args v.1++jY rs' v'),List.range (qN σ B R).bx.length,List.range (qN σ B R).rw.length⟩):=by
  unfold sgP;have hd:dS (qN σ B R) g.args 0 0 (zd (λ b=>B.idxOf b) (λ r=>R.idxOf r) ys)=some a:=hd;rw[hd];simp only[hv];rw[hsl];exact hsol _
 have hpc:qdp c.pc f σ ys=some (zZ ((jK rs' (σ.rw.length+nrB g.args) v').map λ y=>match y with | .ptr n o => .ptr (σ.bx.length+(n-nBx g.args)) o | y=>y),some (qhU σ B R ⟨Qv g.args R.length v.1++Qe rs' (R.length+nrB g.args) v',(qN σ B R).rw.map Q3++(QA g.args v.1++jY rs' v'),List.range (qN σ B R).bx.length,List.range (qN σ B R).rw.length⟩)):=by
  unfold qdp;have e1:c.pc.pf f=none:=by show(match c.has f with | true=>some (jB c f) | false=>none)=_;rw[hh]
  have e2:c.pc.sp f=some (sgP g):=by show c.spf f=_;unfold TC.spf;rw[hmf,hxf,hg]
  rw[e1,e2];simp only;unfold qal;rw[s3,s1,s2];simp only[hsg,qjc];rw[qH9,qgR rs' (nBx g.args) (nrB g.args) v' (vK hBl) hnum,hBl]
 obtain⟨m1,k1,k2,k3,k4,k5,k6⟩:=qDn rs hr i4;obtain⟨l',l1,l2,l3⟩:=qp4 R σ.rw ((qN σ B R).rw.map Q3) (QA g.args v.1++jY rs' v') (by rw[wA];exact wA ..);have hbe:(Qv g.args σ.rw.length v.1).length=B.length:=by rw[hBl,qbo]
 have hbs:qhU σ B R ⟨Qv g.args R.length v.1++Qe rs' (R.length+nrB g.args) v',(qN σ B R).rw.map Q3++(QA g.args v.1++jY rs' v'),List.range (qN σ B R).bx.length,List.range (qN σ B R).rw.length⟩=⟨zU σ.bx B (Qv g.args σ.rw.length v.1)++Qe rs' (σ.rw.length+nrB g.args) v',l'++(QA g.args v.1++jY rs' v'),(List.range (qN σ B R).bx.length).map (zF B σ.bx.length) ++ σ.wr,(List.range (qN σ B R).rw.length).map (zF R σ.rw.length) ++ σ.wrr⟩:=by
  unfold qhU;have h1:=qiO (B:=B) (R:=R) (bn := σ.bx.length) (rn := σ.rw.length) g.args 0 v.1;have h2:=qeZ (B:=B) (R:=R) (bn := σ.bx.length) (rn := σ.rw.length) rs' _ _ v' hnum;rw[wP,wP]at h1;simp only[wS,h1,h2,l1,qv3 _ _ _ _ hbe]
 have hlow:qjt m1 σ.rw.length := λ id r h1 h2=>hr.row_lt (by rw[<- k5];exact h1) (k6 id r h2).1;let σ':St:=⟨σ.bx,l'++(QA g.args v.1++jY rs' v'),(List.range (qN σ B R).bx.length).map (zF B σ.bx.length) ++ σ.wr,(List.range (qN σ B R).rw.length).map (zF R σ.rw.length) ++ σ.wrr⟩
 have hrel:Rel N m1 E ⟨τ.bx,qfg τ.rw rs⟩ tm σ':=by
  refine k2.rowsTo rfl λ id Rw hRw=>(k2.rows id Rw hRw).later λ q Q hq hQ=>?_;obtain⟨q1,q2⟩:=k6 id q hq;have hql:=hr.row_lt (by rw[<- k5];exact getElem?_lt hRw) q1;show(l'++_)[q]?=_;rw[List.getElem?_append_left (by rw[l2];exact hql),l3 q λ hm=>?_]
  ·exact hQ
  ·rw[<- hR]at hm;obtain⟨id',h1,h2⟩:=xa.1 hm;have:=hr.rinj id id' q (by rw[<- k5];exact getElem?_lt hRw) (i4 id' h1) q1 h2;subst this;exact q2 h1
 obtain⟨m2,z1,z2,z3,z4,z5,z6,z7⟩:=qiG g.args (L := σ.rw.length) (o:=v.1) hrel hlow λ k Q hk=>by
  show(l'++(QA g.args v.1++jY rs' v'))[σ.rw.length+k]?=_;rw[List.getElem?_append_right (by rw[l2];omega),l2,ky,List.getElem?_append_left (getElem?_lt hk)];exact hk
 have hkl:(qfg τ.rw rs).length = τ.rw.length:=qIu rs τ.rw;have z3:BxL m2 (qe8 g.args (qfg τ.rw rs).length v.1) (Qv g.args σ.rw.length v.1):=z3;have z7:At m2 (qfg τ.rw rs).length σ.rw.length (nrB g.args):=z7;rw[hkl]at z3 z7;have hbx:=qzC bs (xs:=qe8 g.args τ.rw.length v.1) (ys:=Qv g.args σ.rw.length v.1) z2 z3 (qe5 hvs _ v.1) λ b hb=>by rw[z6,k3];exact(i3 b hb).1
 rw[z5,k4,hB]at hbx
 have hsa:(zU σ.bx B (Qv g.args σ.rw.length v.1)).length = σ.bx.length:=by
  obtain⟨lb,b1,b2,_⟩:=qp4 B σ.bx (Qv g.args σ.rw.length v.1) [] hbe;rw[wB,wB]at b1;rw[b1,b2]
 have hbx2:=hbx.moreBx (Qe rs' (σ.rw.length+nrB g.args) v');have hsbl:(qnx τ.bx bs (qe8 g.args τ.rw.length v.1)).length = τ.bx.length:=qyM _ _ _
 obtain⟨m3,y1,y2,y3⟩:=qgM (rws:=qaR g.args v.1) (t0 := τ.rw.length) (L0 := σ.rw.length) (bn := τ.bx.length) (B := σ.bx.length) (NB:=nBx g.args) rs' (nb:=nBx g.args) (d:=nrB g.args) (v:=v') hbx2 z4 (by show(qfg τ.rw rs++qaR g.args v.1).length=_;rw[wc,hkl,qbg]) (λ p R hp=>by
   have hpl:=getElem?_lt hp;rw[qbg]at hpl;obtain⟨R',g1,g2,g3,g4,g5⟩:=z7 p hpl
   have hRe:m2.rw[τ.rw.length+p]?=some R:=by
    rw[z2.rw];show(qfg τ.rw rs++qaR g.args v.1)[_]?=_;rw[List.getElem?_append_right (by rw[hkl];omega),hkl,ky];exact hp
   cases hRe.symm.trans g1;refine⟨_,hRe,g2,g3,g4,rfl,g5,?_⟩;have hg:=hbx2.rows _ _ hRe;rw[g4]at hg;obtain⟨Q,q1,q2,_⟩:=hg;rw[<- q2];have q1:(l'++(QA g.args v.1++jY rs' v'))[σ.rw.length+p]?=some Q:=q1;rw[List.getElem?_append_right (by rw[l2];omega),l2,ky,List.getElem?_append_left (by rw[qb7];exact hpl)]at q1;exact qiE g.args v.1 p _ _ hp q1) hnum (λ k Q hk=>by
  show(l'++(QA g.args v.1++jY rs' v'))[σ.rw.length+nrB g.args+k]?=_;rw[List.getElem?_append_right (by rw[l2];omega),l2,show σ.rw.length+nrB g.args+k - σ.rw.length=nrB g.args+k by omega,List.getElem?_append_right (by rw[qb7];omega),qb7,ky]
  exact hk) (by show(qnx τ.bx bs (qe8 g.args τ.rw.length v.1)).length=_;rw[hsbl,kM,wP]) (wb _) (by rw[kM,wP];show _<=(zU σ.bx B (Qv g.args σ.rw.length v.1)++_).length;rw[wc,hsa];exact wb _) (λ b hb=>by
   rw[kM,wP,z5,k4];rw[z6,k3]at hb;obtain⟨ds,d1,_⟩:=hr.box b _ (List.getElem?_eq_getElem (by rw[<- hr.nb];exact hb));exact getElem?_lt d1) (λ k ds hk=>by
   rw[kM,wP];show(zU σ.bx B (Qv g.args σ.rw.length v.1)++_)[_]?=_;rw[List.getElem?_append_right (by rw[hsa];omega),hsa,ky];exact hk)
 have y2:Rel N m3 E ⟨qnx τ.bx bs (qe8 g.args τ.rw.length v.1)++qij rs' (qfg τ.rw rs++qaR g.args v.1).length v',(qfg τ.rw rs++qaR g.args v.1)++qha rs' v'⟩ tm _:=y2;rw[wi,wc,hkl,qbg]at y2;have y3:OKL m3 (qhu τ.bx.length (nBx g.args) rs' (qfg τ.rw rs++qaR g.args v.1).length v') _:=y3;rw[wc,hkl,qbg]at y3;rw[hpc,hbs];exact .to h rfl (k1.trans (z1.trans y1)) y2 (qIj y3)
end
abbrev waF:=@TC.lo_eq
end Go.AmZ
namespace Go.AmZ
open Go Go.RowKit Go.GxZ
section
variable {α : Type} {N:Nat × Nat} {m:Mp} {E:Env} {τ : TS} {tm:List AV} {σ : St} {K:KT α} {r : α} {p:Option (AV × Option St)} {c:TC} {C:Cfg}
theorem qKn{rw:List qQ}{a:Ty}{f:Nat}{cs:List TV}{v:Val a}(h:qgs rw a (.fn f cs)=some v):False:=by
 unfold qgs at h;cases a with
 | int k=>cases h
 | bool=>cases h
 | str=>cases h
 | list a=>cases h
 | term=>cases h
 | pair a b=>cases h
 | one a=>cases h
theorem qyI{σ b a:Type}{p : σ -> Option b}{q:List σ -> Option a}{xs:List σ}{v:b × a}(h:qn1 p q xs=some v):∃ x r,xs=x::r/\p x=some v.1/\q r=some v.2:=by
 unfold qn1 at h;grind
theorem qq1(hq:ju m σ):∀(ts:List ATy) {xs:List TV} {ys:List AV} {v:qbO ts},qwf m.rw ts xs=some v->OKL m xs ys ->
  qd1 ts (ys.map (QN σ.rw))=some v/\qfV (ys.map (QN σ.rw))=qpu xs/\noRefs (ys.map (QN σ.rw))=true
 | [],xs,ys,v,h,ho=>by
   cases xs with
   | nil=>cases ho;exact⟨rfl,rfl,rfl⟩
   | cons x xs=>cases h
 | .val a::ts,xs,ys,v,h,ho=>by
   obtain⟨x,xs,rfl,hw,hws⟩:=qyI h;obtain⟨y,r,rfl,h1,h2⟩:=ho;obtain⟨g1,_⟩:=qk4 hq hw h1;obtain⟨k1,k2,k3⟩:=qq1 hq ts hws h2;obtain⟨p1,p2⟩:=qc0 g1;refine⟨?_,?_,?_⟩
   ·show qn1 _ _ (QN σ.rw y::r.map (QN σ.rw))=_;simp only[qn1,g1,k1]
   ·rw[wo]
    have e1:qfV (QN σ.rw y::r.map (QN σ.rw))=qfV (r.map (QN σ.rw)):=by
     generalize QN σ.rw y=z at p2;cases z<;>first | rfl | exact absurd rfl (p2 _ _)
    have e2:qpu (x::xs)=qpu xs:=by
     cases x<;>first | rfl | exact(qKn hw).elim
    rw[e1,e2,k2]
   ·rw[wo];unfold noRefs at k3 |-
    rw[kC,p1,k3];rfl
 | .fn::ts,xs,ys,v,h,ho=>by
   change pFn _ xs=_ at h;unfold pFn at h;split at h
   case h_2=>cases h
   obtain⟨y,r,rfl,⟨ds,rfl,hd⟩,h2⟩:=ho;cases hd;obtain⟨k1,k2,k3⟩:=qq1 hq ts h h2;refine⟨k1,?_,?_⟩
   ·show _::qfV _=_::qpu _;rw[k2]
   ·unfold noRefs at k3 |-
    rw[wo,kC,k3];rfl
theorem qFd:∀(ts:List Ty) (v:qe2 ts),OKL m (unL ts v) (qbq ts v)/\noRefs (qbq ts v)=true
 | [],_=>⟨rfl,rfl⟩
 | [a],v=>⟨⟨_,_,rfl,qsq a v,rfl⟩,by show(Q4 (yL a v)&&true)=true;rw[qhK];rfl⟩
 | a::b::r,v=>by
   obtain⟨d,c⟩:=qFd (b::r) v.2;refine⟨⟨_,_,rfl,qsq a v.1,d⟩,?_⟩;show(Q4 (yL a v.1)&&noRefs (qbq (b::r) v.2))=true;rw[qhK,c];rfl
theorem qyU{l:List AV}(h:noRefs l=true):Q4 (.tup l)=true:=by
 have:=qjh h;grind [Q4,rb,rr]
theorem qJ9{xs:List TV}{ys:List AV}(h:OKL m xs ys)(c:noRefs ys=true):OK m (qwn xs) (zZ ys)/\Q4 (zZ ys)=true:=by
 cases xs with
 | nil=>cases h;exact⟨⟨[],rfl,rfl⟩,rfl⟩
 | cons x xs =>
   obtain⟨y,r,rfl,b,a⟩:=h;cases xs with
   | nil =>
     cases a
     have:Q4 y=true:=by
      grind [noRefs]
     exact⟨b,this⟩
   | cons x' xs =>
     obtain⟨f,g,rfl,e,d⟩:=a;exact⟨⟨_,rfl,⟨_,_,rfl,b,_,_,rfl,e,d⟩⟩,qyU c⟩
theorem qBB{a:Ty}(h:qu8 a=true)(v:Val a):isV (yL a v)=true:=by
 cases a<;>first | rfl | (cases h)
theorem qCW:∀{ts:List Ty} (v:qe2 ts),ts.all qu8=true->(qbq ts v).all isV=true
 | [],_,_=>rfl
 | [a],v,h=>by
   have:qu8 a=true:=by simpa using h
   show(isV (yL a v)&&true)=true;rw[qBB this];rfl
 | a::b::r,v,h=>by
   rw[kC,wd]at h;show(isV (yL a v.1)&&(qbq (b::r) v.2).all isV)=true;rw[qBB h.1,qCW v.2 h.2];rfl
theorem qKE{ts:List Ty}{v:qe2 ts}(h:ts.all qu8=true):qlY (zZ (qbq ts v))=true:=by
 have:=qCW v h;revert this;cases qbq ts v with
 | nil=>intro _;rfl
 | cons x l =>
   cases l with
   | nil =>
     intro a;have a:isV x=true:=by simpa using a
     show qlY x=true;cases x<;>first | rfl | (cases a)
   | cons y l=>intro a;exact a
theorem qKS{f:Nat}{xs:List TV}{ys:List AV}(hr:Rel N m E τ tm σ)(ho:OKL m xs ys)(h:qGN c τ f xs K=some r):Sim N m E τ tm σ K r (qdp c.pc f σ ys):=by
 unfold qGN at h;split at h
 case h_2=>cases h
 case h_3 hh=>exact qzz hr ho hh h
 rename_i g hh hg;split at h<;>try cases h
 rename_i a ha;obtain⟨v,hv,h⟩:=Jd h;rw[<- hr.rw]at ha;obtain⟨g1,g2,g3⟩:=qq1 hr.rows g.args ha ho;obtain⟨e1,e2⟩:=qFd (m:=m) g.res v;obtain⟨e3,e4⟩:=qJ9 e1 e2;have hp:c.pc.pf f=some (jB c f):=by show(match c.has f with | true=>some (jB c f) | false=>none)=_;rw[hh]
 have hs:jB c f (ys.map (QN σ.rw))=some (zZ (qbq g.res v)):=by
  grind [jB]
 have hst:qdp c.pc f σ ys=match qlY (zZ (qbq g.res v)),ys.flatMap rsA with
   | true,_=>some (zZ (qbq g.res v),none)
   | _,[]=>some (zZ (qbq g.res v),none)
   | _,r::l=>some (zZ (qbq g.res v),some { σ with rw:=frz σ.rw (r::l),wrr:=(r::l) ++ σ.wrr }):=by
  unfold qdp;simp only[hp,g3,hs,e4];rfl
 rw[hst];split at h
 ·rename_i hno;rcases Bool.or_eq_true_iff.1 hno with hno | hno
  ·rw[qtv hno ho];refine .same hr h ?_ e3;grind
  ·rw[qKE hno];exact .same hr h rfl e3
 ·split
  ·exact⟨_,some (shA τ),_,none,shM m,h,rfl,qf5 m,hr.share rfl hr.rows.sh,e3.mono (qf5 m),λ h=>by cases h⟩
  ·exact⟨_,some (shA τ),_,none,shM m,h,rfl,qf5 m,hr.share rfl hr.rows.sh,e3.mono (qf5 m),λ h=>by cases h⟩
  ·exact .to h rfl (qf5 m) (hr.share (σ':={ σ with rw:=frz σ.rw _,wrr:=_ }) rfl (hr.rows.frz _ _)) (e3.mono (qf5 m))
end
end Go.AmZ
namespace Go.AmZ
open Go Go.RowKit Go.GxZ
section
variable {α : Type} {N:Nat × Nat} {m:Mp} {E:Env} {τ : TS} {tm:List AV} {σ : St} {K:KT α} {r : α} {p:Option (AV × Option St)} {c:TC} {C:Cfg}
theorem qDf{a:Ty}{es:List (List AV)}{l:List (Val a)}(h:zg (yh a) es=some l):uni a.size es=true:=by
 unfold uni;rw[wv];intro e c;obtain⟨i,b⟩:=List.getElem?_of_mem c;obtain⟨v,_,d⟩:=J8 h b;obtain⟨pre,j,g,f,_⟩:=yO a (yb.1 d);grind
theorem qrp{n bytes:Nat}(h:zp n bytes=true):n*bytes<=2 ^ 47/\n<2 ^ 62:=of_decide_eq_true h
theorem qFI{bytes:Nat}{a:Ty}{s:TV}{xs:List (Val a)}{y:AV}{es:List (List AV)}(t:Rel N m E τ tm σ)(Y:OK m s y)(W:zg (yh a) es=some xs)(h:qF0 a.size bytes τ a s xs K=some r) :
  Sim N m E τ tm σ K r (yc a.size bytes σ y es):=by
 have b:=qY W;unfold qF0 at h;split at h
 ·-- nil
  cases Y;unfold qkO at h;split at h
  ·have:es=[]:=wk (by simpa using b);subst this;exact .same t h rfl rfl
  ·rename_i x z;obtain⟨h1,h⟩:=jU h;obtain⟨q1,q2⟩:=qrp h1;obtain⟨m',H,X,g3⟩:=t.rowNew W;have F:zi (qaM es) 0=false:=by simp[zi,qaM,b]
   have D:es.length=z.length+1:=by simpa using b
   have p:rowNew a.size bytes es=some (⟨a.size,es,0,0,false⟩,es.length):=by
    grind [rowNew]
   refine .to h (y := .rs σ.rw.length 0 es.length 0 false) (by simp only[yc,F,p]) H X ?_;rw[b];exact g3
 ·-- a list
  rename_i U l lv;split at h<;>try cases h
  rename_i w;have w:=of_decide_eq_true w;split at h<;>try cases h
  rename_i l P;obtain⟨e,rfl⟩:=jE P;subst e;obtain⟨h1,h⟩:=jU h;obtain⟨q1,q2⟩:=qrp h1;unfold qkO at h;split at h
  ·have:es=[]:=wk (by simpa using b);subst this;refine .same t h ?_ Y;rcases jh Y.1 with⟨rfl,_⟩ | ⟨f,n,rfl,_⟩<;>rfl
  rename_i x z _;have F:zi (qaM es) 0=false:=by simp[zi,qaM,b]
  have D:es.length=z.length+1:=by simpa using b
  obtain⟨ae,ad⟩:=Y;rcases jh ae with⟨rfl,O⟩ | ⟨f,n,rfl,h2⟩
  ·have O:l=[]:=O;subst O;obtain⟨m',H,X,g3⟩:=t.rowNew W
   have p:rowNew U.size bytes es=some (⟨U.size,es,0,0,false⟩,es.length):=by
    grind [rowNew]
   refine .to h (y := .rs σ.rw.length 0 es.length 0 false) (by simp only[yc,F,p]) H X ?_;rw[b];exact g3
  ·have B:=qad h2 W;have M:=qY B;obtain⟨m',H,X,g3⟩:=t.rowNew B
   have p:rowNew U.size bytes (ql6 f es)=some (⟨U.size,ql6 f es,0,0,false⟩,(ql6 f es).length):=by
    grind [rowNew,ql6]
   have hc:(decide (1<n+1)&&zi U.size U.size&&uni U.size f)=true:=by
    have:1<n+1:=wE w ad;simp only[decide_eq_true this,zi,decide_true,qDf h2,xl]
   refine .to h (y := .rs σ.rw.length 0 (ql6 f es).length 0 false) (by simp only[yc,F,hc,p];rfl) H X ?_;show OK m' _ (.rs _ 0 (f++es).length 0 false);rw[M];exact g3
 ·-- a row
  rename_i id C;split at h<;>try cases h
  rename_i R G;split at h<;>try cases h
  rename_i hv;have hv:R.ver=C:=wj hv;split at h<;>try cases h
  rename_i l P;obtain⟨e,rfl⟩:=jE P;subst e;obtain⟨h1,h⟩:=jU h;obtain⟨q1,q2⟩:=qrp h1;obtain⟨R',H,X,g3,g4⟩:=Y;rw[t.rw,G]at H;cases H;have af:m.rw[id]?=some R:=by rw[t.rw];exact G
  have gy:=g4 hv;clear g4;subst hv;rcases qiB t.rows af gy with⟨rr,Q,A,V,k1,k2,kv,k3,k4,kf,ks⟩ | ⟨A,hq,V,w⟩
  ·have ag:=qY k4;have ac:rr < σ.rw.length:=getElem?_lt k1;by_cases he:xs=[]
   ·subst he;have:es=[]:=wk (by simpa using b);subst this
    obtain⟨m',L,J,I⟩:=t.rowUpd (R2:=⟨R.τ,R.l++[],R.ver+1,R.sv,R.sh⟩) G (m.r id) (m.v id) (m.q id) (kr _) (wb _) (λ h=>by have:R.ver+1=R.ver:=h;omega) (σ' := σ) rfl
     (by rw[A];exact⟨Q,k1,k2,kv,k3,by rw[wB];exact k4,kf,ks⟩) λ j i u k g=>⟨λ o=>by rw[A]at o;exact t.others G A u k g (kX o).symm,λ _ h=>h⟩
    refine⟨_,some _,y,none,m',h,by rw[V];rfl,L,J,I y ?_,λ h=>by cases h⟩;grind
   ·have F:zi (qaM es) 0=false:=by
      grind [zi,qaM]
    have S:qsS Q R.τ.size 0 Q.c.length Q.ver false bytes es=some ({ Q with c:=Q.c++es,ver:=Q.ver+1 },Q.c.length+es.length):=by
     grind [qsS]
    obtain⟨m',L,J,I⟩:=t.rowUpd (R2:=⟨R.τ,R.l++xs,R.ver+1,R.sv,R.sh⟩) G (some rr) (Q.ver+1) (Q.c++es) (kr _) (wb _) (λ h=>by have:R.ver+1=R.ver:=h;omega)
     (σ':={ σ with rw := σ.rw.set rr { Q with c:=Q.c++es,ver:=Q.ver+1 },wrr:=rr :: σ.wrr }) rfl
     ⟨{ Q with c:=Q.c++es,ver:=Q.ver+1 },by show(σ.rw.set rr _)[rr]?=_;rw[List.getElem?_set_self ac],rfl,rfl,k3,qad k4 W,by show Q.fz<=(Q.c++es).length;rw[wc];omega,ks⟩ λ j i u k g=>by
      have Z:=t.others G A u k g;exact⟨λ o=>Z (kX o).symm,λ Q' T=>by show(σ.rw.set rr _)[i]?=_;rw[List.getElem?_set_ne (xK Z)];exact T⟩
    refine .to h (y := .rs rr 0 (Q.c.length+es.length) (Q.ver+1) false) (by rw[V];simp only[yc,F,k1,S]) L J (I _ ?_);show _=AV.rs rr 0 (R.l++xs).length (Q.ver+1) false;grind
  ·have aa:∀ j i,j≠id->j<m.rw.length->m.r j=some i->i < σ.rw.length := λ _ _ _ k h=>t.row_lt k h;by_cases he:xs=[]
   ·subst he;have:es=[]:=wk (by simpa using b);subst this
    obtain⟨m',L,J,I⟩:=t.rowUpd (R2:=⟨R.τ,R.l++[],R.ver+1,R.sv,R.sh⟩) G none 0 [] (kr _) (wb _) (λ h=>by have:R.ver+1=R.ver:=h;omega) (σ' := σ) rfl
     (λ hs=>by show R.l++[]=[];rw[hq hs];rfl) λ j i u k g=>⟨λ o=>(by cases o),λ _ h=>h⟩
    refine⟨_,some _,y,none,m',h,?_,L,J,I y ⟨by show dlist R.τ y=some (R.l++[]);rw[wB];exact V,w⟩,λ h=>by cases h⟩;rcases jh V with⟨rfl,_⟩ | ⟨es,n,rfl,_⟩<;>rfl
   ·have F:zi (qaM es) 0=false:=by
      grind [zi,qaM]
    have ab:∀ d,zg (yh R.τ) d=some (R.l++xs)->yc R.τ.size bytes σ y es=(match Go.AmZ.rowNew R.τ.size bytes d with | some (R,n)=>some (.rs σ.rw.length 0 n 0 false,some { σ with rw := σ.rw++[R] }) | none=>none)->Sim N m E τ tm σ K r (yc R.τ.size bytes σ y es):=by
     intro d B S;have D:=qY B;rw[wc]at D
     have p:rowNew R.τ.size bytes d=some (⟨R.τ.size,d,0,0,false⟩,d.length):=by
      grind [rowNew]
     obtain⟨m',L,J,I⟩:=t.rowUpd (R2:=⟨R.τ,R.l++xs,R.ver+1,R.sv,R.sh⟩) G (some σ.rw.length) 0 d (kr _) (wb _) (λ h=>by have:R.ver+1=R.ver:=h;omega)
      (σ':={ σ with rw := σ.rw++[⟨R.τ.size,d,0,0,false⟩] }) rfl
      ⟨⟨R.τ.size,d,0,0,false⟩,by show(σ.rw++[_])[σ.rw.length]?=_;simp,rfl,rfl,rfl,B,we _,λ _=>⟨rfl,rfl⟩⟩ λ j i u k g=>by
        have:=aa j i u k g;exact⟨λ o=>by have:=kX o;omega,λ Q' T=>by show(σ.rw++[_])[i]?=_;rw[List.getElem?_append_left this];exact T⟩
     refine .to h (y := .rs σ.rw.length 0 d.length 0 false) (by rw[S,p]) L J (I _ ?_);show _=AV.rs σ.rw.length 0 (R.l++xs).length 0 false;rw[wc,D]
    rcases jh V with⟨rfl,P⟩ | ⟨f,n,rfl,P⟩
    ·grind [yc]
    ·have hc:(decide (1<n+1)&&zi R.τ.size R.τ.size&&uni R.τ.size f)=true:=by
       have:1<n+1:=w;simp only[decide_eq_true this,zi,decide_true,qDf P,xl]
     exact ab (ql6 f es) (qad P W) (by simp only[yc,F,hc];rfl)
 ·cases h
end
end Go.AmZ
namespace Go.AmZ
open Go Go.RowKit Go.GxZ
section
variable {α : Type} {N:Nat × Nat} {m:Mp} {E:Env} {τ : TS} {tm:List AV} {σ : St} {K:KT α} {r : α} {p:Option (AV × Option St)} {c:TC} {C:Cfg}
theorem qzA{m':Mp}:∀{xs:List TV} {ys:List AV},(xs.all λ | .i .. | .b _ | .s _ | .c _ | .nil | .sl .. => true | _=>false)=true->OKL m xs ys->OKL m' xs ys
 | [],_,_,h=>h
 | x::xs,_,h,⟨y,r,rfl,d,a⟩=>by
   rw[kC,wd]at h;refine⟨y,r,rfl,?_,qzA h.2 a⟩;have h:=h.1;cases x<;>first | exact d | (cases h)
theorem qIJ{m':Mp}{x:TV}{y:AV}(h:qBZ x=true)(a:OK m x y):OK m' x y:=by
 cases x with
 | fn f cs =>
   have:cs=[]:=by simpa[qBZ,ve]using h
   subst this;obtain⟨ds,rfl,b⟩:=a;cases b;exact⟨[],rfl,rfl⟩
 | agg cs =>
   obtain⟨ds,rfl,b⟩:=a;exact⟨ds,rfl,qzA h b⟩
 | _=>first | exact a | (cases h)
structure qiA (m:Mp) (tm:List AV) (σ : St) (M:Mv) (m':Mp):Prop where
 rw:m'.rw=M.rw
 nb:m'.nb=M.bx.length
 box:∀ b cs,M.bx[b]?=some cs->∃ ds,σ.bx[m'.b b]?=some ds/\OKL m' cs ds
 src:∀ b',b'<m'.nb->∃ b,jS M.mb b=some b'/\m'.b b'=m.b b/\b<m.nb
 mb:∀ b b',jS M.mb b=some b'->b'<m'.nb/\m'.b b'=m.b b
 rows:ju m' σ
 rsrc:∀ id' r,id'<m'.rw.length->m'.r id'=some r->∃ id,jS M.mr id=some id'/\m.r id=some r/\id<m.rw.length
 mr:∀ id id',jS M.mr id=some id'->∃ R R',m.rw[id]?=some R/\m'.rw[id']?=some R'/\R'.ver=0/\(∀ y,qaa (m.r id) (m.v id) R.τ R.l y->qaa (m'.r id') (m'.v id') R'.τ R'.l y)
 env:∀ t,OK m' (get M.E t) (tm.getD t .dead)
theorem qv5{b b' k v:Nat}{l:List (Nat × Nat)}(h:jS ((k,v)::l) b=some b'):(k=b/\v=b')\/(k≠b/\jS l b=some b'):=by
 simp only[jS]at h;split at h
 ·rename_i a;cases h;exact .inl ⟨wj a,rfl⟩
 ·rename_i a;exact .inr ⟨λ c=>by rw[c]at a;simp at a,h⟩
theorem qws{k v:Nat}{l:List (Nat × Nat)}:jS ((k,v)::l) k=some v:=by simp[jS]
theorem qCY{b k v:Nat}{l:List (Nat × Nat)}(h:k≠b):jS ((k,v)::l) b=jS l b:=by
 simp only[jS];split
 ·rename_i a;exact absurd (wj a) h
 ·rfl
theorem qiA.addRow{M:Mv}{m':Mp}(h:qiA m tm σ M m')(R2:qQ)(e:Option Nat)(f:Nat)(q:List (List AV)){d:List (Nat × Nat)}(G:R2.ver=0)
  (F:JT σ R2 e f q)
  (x:(d=M.mr/\e=none)\/∃ id R,jS M.mr id=none/\d=(id,M.rw.length)::M.mr/\e=m.r id/\m.rw[id]?=some R/\∀ y,qaa (m.r id) (m.v id) R.τ R.l y->qaa e f R2.τ R2.l y) :
  ∃ g,MLe m' g/\qiA m tm σ { M with rw:=M.rw++[R2],mr:=d } g/\∀ y,qaa e f R2.τ R2.l y->OK g (.row M.rw.length 0) y:=by
 have i:MLe m' (m'.add R2 e f q):=qsl _ _ _ _ _;have J:∀{id:Nat} {R:qQ},m'.rw[id]?=some R->(m'.rw++[R2])[id]?=some R/\¬ id=m'.rw.length := λ h=>⟨by rw[List.getElem?_append_left (getElem?_lt h)];exact h,xY (getElem?_lt h)⟩
 refine⟨m'.add R2 e f q,i,?_,?_⟩
 ·refine⟨by show m'.rw++_=M.rw++_;rw[h.rw],h.nb,?_,h.src,h.mb,qo1 h.rows F λ _ _ h=>h,?_,?_,λ t=>(h.env t).mono i⟩
  ·intro b cs E;obtain⟨ds,p,j⟩:=h.box b cs E;exact⟨ds,p,j.mono i⟩
  ·intro a r o k;change a<(m'.rw++[_]).length at o;change (if a=m'.rw.length then e else m'.r a)=some r at k;simp at o;split at k
   ·rename_i c;rcases x with⟨_,D⟩ | ⟨id,R,p,j,g3,z,_⟩
    ·rw[D]at k;cases k
    ·refine⟨id,?_,by rw[<- g3];exact k,getElem?_lt z⟩;show jS d id=some a;rw[j,qws,c,h.rw]
   ·obtain⟨id,s,B,A⟩:=h.rsrc a r (by omega) k;refine⟨id,?_,B,A⟩;show jS d id=some a;rcases x with⟨w,_⟩ | ⟨u,R,p,j,_⟩
    ·rw[w];exact s
    ·rw[j,qCY]
     ·exact s
     ·grind
  ·intro id a c;change jS d id=some a at c
   have n:jS M.mr id=some a->∃ R R',m.rw[id]?=some R/\(m'.rw++[R2])[a]?=some R'/\R'.ver=0/\(∀ y,qaa (m.r id) (m.v id) R.τ R.l y->qaa (if a=m'.rw.length then e else m'.r a) (if a=m'.rw.length then f else m'.v a) R'.τ R'.l y):=by
    intro c;obtain⟨K,R',s,B,A,I⟩:=h.mr id a c;grind
   rcases x with⟨w,_⟩ | ⟨u,R,p,j,g3,z,H⟩
   ·rw[w]at c;exact n c
   ·rw[j]at c;rcases qv5 c with⟨rfl,rfl⟩ | ⟨_,c⟩
    ·refine⟨R,R2,z,by show(m'.rw++_)[M.rw.length]?=_;rw[h.rw];simp,G,?_⟩;show ∀ y,_->qaa (if M.rw.length=m'.rw.length then e else m'.r M.rw.length) (if M.rw.length=m'.rw.length then f else m'.v M.rw.length) _ _ y;rw[if_pos (by rw[h.rw]),if_pos (by rw[h.rw])];exact H
    ·exact n c
 ·intro y C;refine⟨R2,by show(m'.rw++_)[M.rw.length]?=_;rw[h.rw];simp,we _,C.ish,λ _=>?_⟩;show qaa (if M.rw.length=m'.rw.length then e else m'.r M.rw.length) (if M.rw.length=m'.rw.length then f else m'.v M.rw.length) _ _ y;rw[if_pos (by rw[h.rw]),if_pos (by rw[h.rw])];exact C
theorem qiA.addBox{M:Mv}{m':Mp}(h:qiA m tm σ M m'){b:Nat}(q:b<m.nb)(r:jS M.mb b=none){ys:List TV}{ds:List AV}(p : σ.bx[m.b b]?=some ds)(o:OKL m' ys ds) :
  ∃ f,MLe m' f/\qiA m tm σ { M with bx:=M.bx++[ys],mb:=(b,M.bx.length)::M.mb } f/\OK f (.ptr M.bx.length 0) (.ptr (m.b b) 0):=by
 have c:MLe m' { m' with b := λ i=>if i=m'.nb then m.b b else m'.b i,nb:=m'.nb+1 } :=
  ⟨kr _,λ i d=>if_neg (xY d),λ id R h=>⟨R,h,wb _,wb _,λ _=>⟨rfl,rfl,rfl,rfl,(λ _=>rfl),λ _ _ h=>h⟩⟩⟩
 refine⟨_,c,?_,?_⟩
 ·refine⟨h.rw,by show m'.nb+1=(M.bx++[ys]).length;rw[h.nb];simp,?_,?_,?_,h.rows,h.rsrc,h.mr,λ t=>(h.env t).mono c⟩
  ·intro i cs d;change (M.bx++[ys])[i]?=some cs at d;show ∃ ds,σ.bx[if i=m'.nb then m.b b else m'.b i]?=some ds/\_;by_cases g:i=m'.nb
   ·rw[if_pos g];rw[g,h.nb]at d;simp at d;subst d;exact⟨ds,p,o.mono c⟩
   ·rw[if_neg g];have l:i<M.bx.length:=by have:=getElem?_lt d;simp at this;have:=h.nb;omega
    rw[List.getElem?_append_left l]at d;obtain⟨n,k,j⟩:=h.box i cs d;exact⟨n,k,j.mono c⟩
  ·intro b' a;change b'<m'.nb+1 at a;show ∃ e,jS ((b,M.bx.length)::M.mb) e=some b'/\(if b'=m'.nb then m.b b else m'.b b')=m.b e/\e<m.nb;by_cases g:b'=m'.nb
   ·exact⟨b,by rw[qws,g,h.nb],if_pos g,q⟩
   ·obtain⟨e,k,j,g3⟩:=h.src b' (by omega);refine⟨e,?_,by rw[if_neg g];exact j,g3⟩;rw[qCY]
    ·exact k
    ·grind
  ·intro e b' a;change jS ((b,M.bx.length)::M.mb) e=some b' at a;show b'<m'.nb+1/\(if b'=m'.nb then m.b b else m'.b b')=m.b e;rcases qv5 a with⟨rfl,rfl⟩ | ⟨_,a⟩
   ·rw[<- h.nb];grind
   ·obtain⟨k,j⟩:=h.mb e b' a;grind
 ·refine⟨?_,?_⟩
  ·show M.bx.length<m'.nb+1;rw[h.nb];exact xu _
  ·show _=AV.ptr (if M.bx.length=m'.nb then m.b b else m'.b M.bx.length) 0;rw[if_pos h.nb.symm]
mutual
theorem qJl(hr:Rel N m E τ tm σ):∀(co:Co) {x:TV} {y:AV} {M:Mv} {m':Mp} {K:TV->Mv->Option α} {r : α},mvT τ co x M K=some r->OK m x y->qiA m tm σ M m' ->
  ∃ x' M' m'',K x' M'=some r/\MLe m' m''/\qiA m tm σ M' m''/\OK m'' x' y/\M'.E=M.E
 | .keep,x,y,M,m',K,r,h,ho,hM=>by
   simp only[mvT]at h;split at h
   ·rename_i hp;exact⟨x,M,m',h,.refl m',hM,qIJ hp ho,rfl⟩
   ·exact⟨.dead,M,m',h,.refl m',hM,trivial,rfl⟩
 | .list a,x,y,M,m',K,r,h,ho,hM=>by
   simp only[mvT]at h;split at h
   ·cases ho;exact⟨_,M,m',h,.refl m',hM,⟨rfl,by decide⟩,rfl⟩
   ·split at h<;>try cases h
    rename_i l hl;obtain⟨e,rfl⟩:=jE hl;subst e;exact⟨_,M,m',h,.refl m',hM,⟨ho.1,qnq ho.1⟩,rfl⟩
   ·exact⟨.dead,M,m',h,.refl m',hM,trivial,rfl⟩
 | .plist a,x,y,M,m',K,r,h,ho,hM=>by
   simp only[mvT]at h;split at h
   ·cases ho;exact⟨_,M,m',h,.refl m',hM,⟨rfl,by decide⟩,rfl⟩
   ·split at h<;>try cases h
    rename_i l hl;obtain⟨e,rfl⟩:=jE hl;subst e;exact⟨_,M,m',h,.refl m',hM,⟨ho.1,qnq ho.1⟩,rfl⟩
   ·exact⟨.dead,M,m',h,.refl m',hM,trivial,rfl⟩
 | .row a sh,x,y,M,m',K,r,h,ho,hM=>by
   simp only[mvT]at h;split at h
   ·cases ho;obtain⟨m'',g1,g2,g3⟩:=hM.addRow ⟨a,[],0,0,sh⟩ none 0 [] rfl (λ _=>rfl) (.inl ⟨rfl,rfl⟩);exact⟨_,_,m'',h,g1,g2,g3 _ ⟨rfl,wb _⟩,rfl⟩
   ·rename_i a' l lv;split at h<;>try cases h
    rename_i l hl hlv;obtain⟨e,rfl⟩:=jE hl;subst e;have hlv:=of_decide_eq_true hlv;obtain⟨ho1,ho2⟩:=ho;split at h
    ·obtain⟨m'',g1,g2,g3⟩:=hM.addRow ⟨a',l,0,0,true⟩ none 0 [] rfl (λ h=>by cases h) (.inl ⟨rfl,rfl⟩);exact⟨_,_,m'',h,g1,g2,g3 _ ⟨ho1,by omega⟩,rfl⟩
    ·split at h<;>try cases h
     rename_i hnil;have hnil:l=[]:=hnil;subst hnil;obtain⟨m'',g1,g2,g3⟩:=hM.addRow ⟨a',[],0,0,false⟩ none 0 [] rfl (λ _=>rfl) (.inl ⟨rfl,rfl⟩);exact⟨_,_,m'',h,g1,g2,g3 _ ⟨ho1,by omega⟩,rfl⟩
   ·rename_i id ver;split at h<;>try cases h
    rename_i R hR;split at h<;>try cases h
    rename_i hv;rw[wd]at hv;have hsh:=hv.2;have hv:R.ver=ver:=wj hv.1;split at h<;>try cases h
    rename_i l hl;obtain⟨e,rfl⟩:=jE hl;subst e;obtain⟨R',k1,_,_,k2⟩:=ho;rw[hr.rw,hR]at k1;cases k1;have hy:=k2 hv;have hR':m.rw[id]?=some R:=by rw[hr.rw];exact hR
    split at h
    ·rename_i id' has;obtain⟨R0,R1,z1,z2,z3,z4⟩:=hM.mr id id' has;rw[hR']at z1;cases z1;exact⟨_,M,m',h,.refl m',hM,⟨R1,z2,we _,hy.ish,λ _=>z4 y hy⟩,rfl⟩
    ·rename_i has;have hrow:=hr.rows id R hR'
     have hrow2:JT σ ⟨R.τ,R.l,0,0,sh⟩ (m.r id) (m.v id) (m.q id):=by
      have hs:sh=false->R.sh=false:=by
       intro h0;rw[h0]at hsh;simpa using hsh
      revert hrow;cases m.r id with
      | none=>intro hrow h0;exact hrow (hs h0)
      | some rr =>
        rintro⟨Q,q1,q2,q3,q4,q5,q6,q7⟩;exact⟨Q,q1,q2,q3,q4,q5,q6,λ h0=>q7 (hs h0)⟩
     obtain⟨m'',g1,g2,g3⟩:=hM.addRow ⟨R.τ,R.l,0,0,sh⟩ (m.r id) (m.v id) (m.q id) rfl hrow2 (.inr ⟨id,R,has,rfl,rfl,hR',λ _ h=>h⟩);grind
   ·cases h
 | .fn cs,x,y,M,m',K,r,h,ho,hM=>by
   cases x with
   | fn f xs =>
     simp only[mvT]at h;obtain⟨ds,rfl,hd⟩:=ho;obtain⟨ys,M1,m1,q1,q2,q3,q4,q5⟩:=qBj hr cs h hd hM;exact⟨_,M1,m1,q1,q2,q3,⟨_,rfl,q4⟩,q5⟩
   | _=>simp only[mvT]at h;cases h
 | .box cs,x,y,M,m',K,r,h,ho,hM=>by
   simp only[mvT]at h;split at h
   case h_2=>exact⟨_,M,m',h,.refl m',hM,ho,rfl⟩
   case h_3=>cases h
   rename_i b;obtain⟨hb,rfl⟩:=ho;split at h
   ·rename_i b' has;obtain⟨g1,g2⟩:=hM.mb b b' has;exact⟨_,M,m',h,.refl m',hM,⟨g1,by rw[g2]⟩,rfl⟩
   ·split at h<;>try cases h
    rename_i xs hxs;obtain⟨ds,k1,k2⟩:=hr.box b xs hxs;obtain⟨ys,M',m'',q1,q2,q3,q4,q5⟩:=qBj hr cs h k2 hM;split at q1
    case h_2=>cases q1
    rename_i has;obtain⟨m3,z1,z2,z3⟩:=q3.addBox hb has k1 q4;exact⟨_,_,m3,q1,q2.trans z1,z2,z3,q5⟩
theorem qBj(g:Rel N m E τ tm σ):∀(cs:List Co) {xs:List TV} {ys:List AV} {M:Mv} {m':Mp} {K:List TV->Mv->Option α} {r : α},mvL τ cs xs M K=some r->OKL m xs ys->qiA m tm σ M m' ->
  ∃ a e b,K a e=some r/\MLe m' b/\qiA m tm σ e b/\OKL b a ys/\e.E=M.E
 | [],xs,ys,M,m',K,r,h,c,d=>by
   cases xs with
   | nil=>simp only[mvL]at h;cases c;exact⟨[],M,m',h,.refl m',d,rfl,rfl⟩
   | cons x xs=>simp only[mvL]at h;cases h
 | co::cs,xs,ys,M,m',K,r,h,c,d=>by
   cases xs with
   | nil=>simp only[mvL]at h;cases h
   | cons x xs =>
     simp only[mvL]at h;obtain⟨y,rr,rfl,v,u⟩:=c;obtain⟨x',A,z,s,q,p,o,n⟩:=qJl g co h v d;obtain⟨a,w,t,l,f,k,j,i⟩:=qBj g cs s u p;exact⟨x'::a,w,t,l,q.trans f,k,⟨y,rr,rfl,o.mono f,j⟩,i.trans n⟩
end
theorem qM0{E:Env}{t:Nat}{x:TV}{s:Nat}{y:AV}{m':Mp}(d:OK m' (get E s) y)(b:t=s->OK m' x y):OK m' (get (E++[(t,x)]) s) y:=by
 induction E with
 | nil =>
   simp only[kV,get];split
   ·rename_i a;exact b (wj a)
   ·trivial
 | cons q E c =>
   grind [get]
theorem qFf{a:List (Nat × Nat)}:∀{n:Nat},qBn a n=true->∀ i,i<n->jS a i=some i
 | 0,_,i,b=>absurd b (wL _)
 | n+1,h,i,b=>by
   rw[qBn,wd]at h;by_cases d:i=n
   ·subst d;have h:=h.1;split at h
    ·rename_i j c;rw[c,<- wj h]
    ·cases h
   ·exact qFf h.2 i (by omega)
theorem qiA.rel(d:Rel N m E τ tm σ){M:Mv}{m':Mp}(h:qiA m tm σ M m')(s:qBn M.mb N.2=true):Rel N m' M.E ⟨M.bx,M.rw⟩ tm σ := by
 refine⟨d.len,h.env,h.rw,h.nb,h.box,?_,h.rows,?_,λ i n=>?_⟩
 rotate_right
 ·have g:=qFf s i n;obtain⟨l,a⟩:=h.mb i i g;exact⟨l,a.trans (d.pin i n).2⟩
 ·intro w v k j t;obtain⟨c,l,a,g3⟩:=h.src w k;obtain⟨b,o,f,e⟩:=h.src v j;have:c=b:=d.inj c b g3 e (by rw[<- a,<- f,t]);grind
 ·intro q p r k j e1 u;obtain⟨c,l,a,g3⟩:=h.rsrc q r k e1;obtain⟨b,o,f,e⟩:=h.rsrc p r j u;have:c=b:=d.rinj c b r g3 e a f;grind
theorem qI1(c:Rel N m E τ tm σ):∀(l:List (Tmp × Co)) {M:Mv} {m':Mp} {K:Env->TS->Option α} {r : α},mvE N.2 τ E l M K=some r->qiA m tm σ M m' ->
  ∃ f b d,K f b=some r/\Rel N d f b tm σ
 | [],M,m',K,r,h,e=>by
   simp only[mvE]at h;split at h<;>try cases h
   rename_i k;exact⟨_,_,m',h,e.rel c k⟩
 | (t,o)::l,M,m',K,r,h,e=>by
   simp only[mvE]at h;obtain⟨x',u,j,i,q,a,g,p⟩:=qJl c o h (c.env t) e;refine qI1 c l i (m':=j) ?_;refine⟨a.rw,a.nb,a.box,a.src,a.mb,a.rows,a.rsrc,a.mr,λ s=>?_⟩;exact qM0 (a.env s) λ n=>by subst n;exact g
theorem qGk(f:Rel N m E τ tm σ){l:List (Tmp × Co)}{K:Env->TS->Option α}{r : α}(h:mvE N.2 τ E l ⟨[],[],[],[],[]⟩ K=some r):∃ d a c,K d a=some r/\Rel N c d a tm σ :=
 qI1 f l (m':=mp0) h
  ⟨rfl,rfl,λ b cs h=>by simp at h,λ b' h=>absurd h (wL _),λ b b' h=>by simp[jS]at h,λ id R h=>(by cases h),λ id r h=>absurd h (wL _),λ id e h=>by simp[jS]at h,λ t=>trivial⟩
end
end Go.AmZ
namespace Go.AmZ
open Go Go.RowKit Go.GxZ
section
variable {α : Type} {N:Nat × Nat} {m:Mp} {E:Env} {τ : TS} {tm:List AV} {σ : St} {K:KT α} {r : α} {p:Option (AV × Option St)} {c:TC} {C:Cfg}
theorem qDZ{b:Builtin}{ts:Array TypeId}{xs:List TV}{ys:List AV}(F:C.ty=c.ty)(f:Rel N m E τ tm σ)(A:OKL m xs ys)(h:quT c τ b ts xs K=some r):Sim N m E τ tm σ K r (jF C σ b ts ys):=by
 unfold quT at h;split at h
 ·rename_i x;obtain⟨y,r',rfl,i,j⟩:=A;cases j;split at h<;>try cases h
  rename_i t P;split at h<;>try cases h
  rename_i d Z;split at h<;>try cases h
  ·rename_i s g;cases i;refine .same f h (y := .v (.int .i64 s.length)) ?_ rfl;have:qpf ⟨s.toArray⟩=s.length:=by simp[qpf,ByteArray.size]
   grind [jF,qiz,qmp]
  ·rename_i g;cases i;refine .same f h (y := .v (.int .i64 0)) ?_ rfl;grind [jF,qiz,qbL]
  ·rename_i a l lv g;refine .same f h (y := .v (.int .i64 l.length)) ?_ rfl;rcases jh i.1 with⟨rfl,q⟩ | ⟨es,n,rfl,q⟩
   ·grind [jF,qiz,qbL]
   ·have:=qY q;grind [jF,qiz,qbL,qaM]
  ·rename_i id T g;split at h<;>try cases h
   rename_i R S;split at h<;>try cases h
   rename_i V;obtain⟨R',D,_,_,B⟩:=i;rw[f.rw,S]at D;cases D;have U:=B (wj V);refine .same f h (y := .v (.int .i64 R.l.length)) ?_ rfl;rcases qiB f.rows (by rw[f.rw];exact S) U with⟨r,Q,_,rfl,_,_,_,_,g5,_⟩ | ⟨_,_,I,_⟩
   ·simp only[jF,P,F,Z,qiz,g,qbL];rw[qY g5]
   ·rcases jh I with⟨rfl,q⟩ | ⟨es,n,rfl,q⟩
    ·grind [jF,qiz,qbL]
    ·have:=qY q;grind [jF,qiz,qbL,qaM]
 ·rename_i s x;obtain⟨y,O,rfl,i,z,M,rfl,j,w⟩:=A;cases w;split at h<;>try cases h
  rename_i t u P hu;split at h<;>try (cases h;done)
  ·rename_i k bytes zz _ _ _ _ _ _ _ _ a H G Y;split at h<;>try cases h
   rename_i J;simp only[wd,decide_eq_true_eq]at J;obtain⟨⟨X,hz⟩,g⟩:=J;split at h<;>try cases h
   rename_i xs p;rw[<- f.rw]at p;obtain⟨es,D,B,_⟩:=qob f.rows p j;have:=qFI (bytes:=bytes) f i B (by rw[<- g];exact h);rw[<- g]at D this;have W:uni k es=true:=by rw[g];exact qDf B
   grind [jF]
  ·rename_i L _ _ _ _ _ H G Y;split at h<;>try (cases h;done)
   rename_i o J;cases j;have:=qFI (a := .int .u8) (σ := σ) (y:=y) (es:=qbU ⟨o.toArray⟩) (xs:=Qw o) f i (qy1 o) h
   have e:jF C σ .append ts [y,.v (.string ⟨o.toArray⟩)]=yc 1 L σ y (qbU ⟨o.toArray⟩):=by
    grind [jF]
   rw[e];exact this
 ·obtain⟨y,O,rfl,i,z,M,rfl,j,w⟩:=A;cases w;cases i;cases j;split at h<;>try cases h
  rename_i g;exact .same f h (by simp only[jF,g]) rfl
 ·obtain⟨y,O,rfl,i,z,M,rfl,j,w⟩:=A;cases w;cases i;cases j;split at h<;>try cases h
  rename_i g;exact .same f h (by simp only[jF,g]) rfl
 ·cases h
theorem qN7{op:Op}(a:Rel N m E τ tm σ)(h:opT c E τ op K=some r):Sim N m E τ tm σ K r (qpm c.pc tm σ op):=by
 unfold opT at h;split at h
 ·exact qDZ (C:=c.pc.cfg) rfl a (a.evs _) h
 ·rename_i g b ts;split at h<;>try cases h
  ·rename_i f e;have d:=a.ev g;rw[e]at d;obtain⟨ds,d,i⟩:=d;cases i;have:=qKS a (a.evs b.toList) h;grind [qpm]
  ·rename_i f x cs e;have d:=a.ev g;rw[e]at d;obtain⟨ds,d,i⟩:=d;split at h<;>try cases h
   rename_i j;have:=qzz a ((a.evs b.toList).append i) j h;grind [qpm]
 ·cases h
 ·rename_i n l k;have:=qLh (C:=c.pc.cfg) rfl a h;grind [qpm]
theorem Rel.put(a:Rel c.n2 m E τ tm σ){d:Option Tmp}{x:TV}{y:AV}(j:OK m x y){K:Env->Option α}(h:qA3 c E d x K=some r):∃ f,K f=some r/\Rel c.n2 m f τ (qcm tm d y) σ := by
 unfold qA3 at h;split at h
 ·exact⟨E,h,a⟩
 ·rename_i d;split at h<;>try cases h
  rename_i e;have e:d<c.nt:=Nat.lt_of_succ_le (by simpa[Nat.blt]using e);refine⟨_,h,?_⟩;refine⟨by show(tm.set d y).length=_;rw[wJ];exact a.len,λ t=>?_,a.rw,a.nb,a.box,a.inj,a.rows,a.rinj,a.pin⟩;show OK m (get ((d,x)::E) t) ((tm.set d y).getD t .dead);have i:d<tm.length:=by rw[a.len];exact e
  simp only[get];split
  ·rename_i b;have b:d=t:=wj b;grind
  ·rename_i b;have b:d≠t := λ g=>by rw[g]at b;simp at b
   have:=a.env t;grind
theorem Rel.know(a:Rel N m E τ tm σ){d:Nat}{x:TV}(h:OK m x (tm.getD d .dead)):Rel N m ((d,x)::E) τ tm σ := by
 refine⟨a.len,λ t=>?_,a.rw,a.nb,a.box,a.inj,a.rows,a.rinj,a.pin⟩;simp only[get];split
 ·rename_i b;have b:d=t:=wj b;subst b;exact h
 ·exact a.env t
theorem qK5{ops:Array Oper}{o:Oper}{K:Bool->Env->Option α}(e:Rel N m E τ tm σ)(h:qGL ops E o K=some r):∃ w g,yJ ops tm o=some w/\K w g=some r/\Rel N m g τ tm σ := by
 unfold qGL at h;unfold yJ;split at h
 ·grind
 ·rename_i j c i;rw[i];simp only;split at h<;>try cases h
  rename_i d f;rw[f];simp only;have a:=e.env d;split at h<;>try cases h
  ·rename_i x b;rw[b]at a;have a:tm.getD d .dead = .v (.bool x):=a;rw[a];cases c with
   | true =>
     cases x with
     | true=>exact⟨true,_,rfl,h,e.know a⟩
     | false=>exact⟨false,_,rfl,h,e.know a⟩
   | false =>
     cases x with
     | true=>exact⟨false,_,rfl,h,e.know a⟩
     | false=>exact⟨true,_,rfl,h,e.know a⟩
  ·rename_i b;rw[b]at a;obtain⟨ds,a,f⟩:=a;cases f;grind
theorem qk3(a:Rel N m E τ tm σ){ops:Array Oper}{k:Nat}{t:Tmp}{b:Nat}(h:qpP E ops k t=some b):b<m.nb/\ji tm ops k t=some (m.b b):=by
 unfold qpP at h;unfold ji;split at h<;>try cases h
 rename_i u d;split at h<;>cases h;rename_i o c;have:=a.env u;rw[c]at this;obtain⟨f,e⟩:=this;grind
theorem qLR(c:Rel N m E τ tm σ){ops:Array Oper}{k:Nat}{t:Tmp}(h:qJO E ops k t=true):qeR tm ops k t=true/\ji tm ops k t=none:=by
 unfold qJO at h;unfold qeR ji;split at h<;>try cases h
 rename_i u b;split at h<;>try cases h
 rename_i d;have:=c.env u;rw[d]at this;obtain⟨R,_,_,_,a,_⟩:=this;rw[b];rcases a with⟨r,j,e,a⟩ | ⟨ds,a⟩<;>simp only[a]<;>exact⟨rfl,by trivial⟩
mutual
theorem qOT:∀{x:TV} {y:AV} {l:List Nat},OK m x y->rbT x=some l->rb y=l.map m.b
 | .i ..,y,l,a,h=>by cases h;cases a;rfl
 | .b ..,y,l,a,h=>by cases h;cases a;rfl
 | .s ..,y,l,a,h=>by cases h;cases a;rfl
 | .c ..,y,l,a,h=>by cases h;obtain⟨_,rfl⟩:=a;rfl
 | .nil,y,l,a,h=>by cases h;cases a;rfl
 | .sl ..,y,l,a,h=>by cases h;rcases jh a.1 with⟨rfl,_⟩ | ⟨es,n,rfl,_⟩<;>rfl
 | .row ..,y,l,a,h=>by
   cases h;obtain⟨R,_,_,a,_⟩:=a;rcases a with rfl | ⟨k,es,j,rfl⟩ | ⟨r,lo,n,e,f,rfl⟩<;>rfl
 | .ptr b o,y,l,a,h=>by cases h;obtain⟨_,rfl⟩:=a;rfl
 | .pti b i,y,l,a,h=>by cases h;obtain⟨_,_,rfl⟩:=a;rfl
 | .rpt ..,y,l,a,h=>by cases h;obtain⟨R,_,_,_,a,_⟩:=a;rcases a with⟨r,i,e,rfl⟩ | ⟨ds,rfl⟩<;>rfl
 | .ept ..,y,l,a,h=>by cases h;obtain⟨ds,rfl,_⟩:=a;rfl
 | .fn f cs,y,l,a,h=>by obtain⟨ds,rfl,d⟩:=a;exact qla d h
 | .agg cs,y,l,a,h=>by obtain⟨ds,rfl,d⟩:=a;exact qla d h
 | .tup cs,y,l,a,h=>by obtain⟨ds,rfl,d⟩:=a;exact qla d h
 | .dead,y,l,a,h=>by cases h
theorem qla:∀{xs:List TV} {ys:List AV} {l:List Nat},OKL m xs ys->qq3 xs=some l->rbL ys=l.map m.b
 | [],ys,l,c,h=>by cases h;cases c;rfl
 | x::xs,ys,l,⟨y,r,e,i,g⟩,h=>by
   subst e;simp only[qq3]at h;split at h<;>cases h;rename_i a b f d;rw[rbL,qOT i f,qla g d,wS]
end
theorem qEx(rw:List Row)(x:AV):rb (zk rw x)=rb x:=by
 cases x<;>first | rfl | skip
 rename_i r lo n a f;simp only[zk];split
 ·split<;>rfl
 ·rfl
theorem qAU(rw:List Row):∀ l:List AV,rbL (l.map (zk rw))=rbL l
 | []=>rfl
 | x::l=>by rw[wo,rbL,rbL,qEx,qAU rw l]
theorem qMK(rw:List Row)(x:AV):rb (QN rw x)=rb x:=by
 unfold QN;split
 ·exact qAU rw _
 ·exact qEx rw x
theorem qmi(rw:List Row):∀ l:List AV,rbL (l.map (QN rw))=rbL l
 | []=>rfl
 | x::l=>by rw[wo,rbL,rbL,qMK,qmi rw l]
theorem ql2:∀{l seen:List Nat} {b:Nat},b∈qf seen l->b∈l
 | [],_,b,h=>by cases h
 | c::l,seen,b,h=>by
   rw[qf]at h;split at h
   ·exact wg _ (ql2 h)
   ·rcases wx.1 h with rfl | h
    ·exact wh ..
    ·exact wg _ (ql2 h)
theorem qtO{a:List AV}(h:∀ b∈rbL a,rbL (σ.bx.getD b [])=[]){b:Nat}(d:b∈Q7 σ a):b∈rbL a:=by
 have f:(qf [] (rbL a)).flatMap (λ b=>rbL (σ.bx.getD b []))=[]:=kI.2 λ c g=>h c (ql2 g);unfold Q7 at d;cases e : σ.bx.length with
 | zero=>rw[e]at d;exact ql2 d
 | succ n=>rw[e,qoz,f]at d;exact ql2 d
theorem qHK(s:Rel c.n2 m E τ tm σ){ops:Array Oper}{j:Nat}{op:Op}(h:qv9 ops j E τ op=true):qcQ c.pc.cfg ops j tm σ op=true:=by
 unfold qv9 at h;unfold qcQ;rw[kh]at h |-
 refine h.imp id λ h=>?_;rw[wv]at h |-
 intro p R;have:=h p R;obtain⟨q,i⟩:=p;simp only at this |-
 split
 ·rename_i t a Q;rw[Q]at this;simp only[kh]at this |-
  refine this.imp id λ J=>?_;split at J
  ·rename_i y l P n;rw[wd,wv]at J;obtain⟨B,K⟩:=qk3 s P;rw[K]
   have C:m.b y < σ.bx.length:=by
    obtain⟨ds,N,_⟩:=s.box y _ (List.getElem?_eq_getElem (by rw[<- s.nb];exact B));exact getElem?_lt N
   simp only[wd,decide_eq_true_eq,wV];refine⟨C,?_⟩;rw[<- kL,wap];intro G;unfold qIo at n;split at n<;>try cases n
   rename_i g O ts _;split at n<;>try cases n
   rename_i f cs S;split at n<;>try cases n
   rename_i U M;split at n<;>cases n;rename_i k;rw[wv]at k;have o:=s.ev g;rw[S]at o;obtain⟨w,o,z⟩:=o;have D:=qla ((s.evs O.toList).append z) M
   have d:∀ b∈rbL (O.toList.map (aev tm)++w),rbL (σ.bx.getD b [])=[]:=by
    intro b v;rw[D]at v;obtain⟨A,r,rfl⟩:=wy.1 v;have:=k A r;unfold qKq at this;split at this<;>try cases this
    rename_i cs' x;split at this<;>try cases this
    rename_i F;obtain⟨ds,N,T⟩:=s.box A cs' x;rw[yC N,qla T F];rfl
   have u:m.b y∈rbL (O.toList.map (aev tm)++w):=by
    simp only[qwk,qk8,o]at G;split at G
    ·rename_i I e;unfold qi3 at e;split at e
     ·cases e;exact qtO d G
     ·split at e<;>cases e;have:=qtO (λ b v=>by rw[qmi]at v;exact d b v) G;rw[qmi]at this;exact this
    ·rename_i I σ1 e;unfold qi3 at e;split at e
     ·cases e
     ·split at e<;>cases e;have:=qtO (λ b v=>by rw[qmi]at v;exact d b v) G;rw[qmi]at this;exact this
   rw[D]at u;obtain⟨A,r,e⟩:=wy.1 u;have L:=J.2 A r
   have H:A<m.nb:=by
    have:=k A r;unfold qKq at this;split at this<;>try cases this
    rename_i cs' x;rw[s.nb];exact getElem?_lt x
   have:=s.inj A y H B e;subst this;simp at L
  ·cases J
 ·rfl
theorem qJE(b:Rel c.n2 m E τ tm σ){ops:Array Oper}{a:Bool}{j:Nat}{op:Op}(h:(a && !(yp c.loT op&&qv9 ops j E τ op))=false):(a && !(yp c.pc.cfg.lo op&&qcQ c.pc.cfg ops j tm σ op))=false:=by
 cases a with
 | false=>rfl
 | true =>
   rw[w7,vS,wd]at h |-
   exact⟨by rw[waF];exact h.1,qHK b h.2⟩
variable {Q:Ex->S->Prop} {k:List It}
theorem qd4{ops:Array Oper}{b:Bool}:∀{l:List Oper} {m:Mp} {E:Env} {τ : TS} {tm:List AV} {σ : St} {i:Env->TS->Option α},qln c ops b l E τ i=some r->Rel c.n2 m E τ tm σ ->
  (∀ m E τ tm σ,i E τ = some r->Rel c.n2 m E τ tm σ -> Go c.pc Q k .normal ⟨tm,σ⟩)->Go c.pc Q (.ops ops b l::k) .normal ⟨tm,σ⟩
 | [],m,E,τ,tm,σ,i,h,f,g=>by
   rw[qGT];exact g m E τ tm σ h f
 | o::n,m,E,τ,tm,σ,i,h,f,g=>by
   simp only[qln]at h;rw[qOJ];obtain⟨w,A,s,h,f⟩:=qK5 f h;rw[s];cases w with
   | true =>
     rw[qIE];simp only at h;have j:=f;obtain⟨x,d,y,σ',m',h,u,v,e,p,t⟩:=qN7 f h;rw[u];cases d with
     | none =>
       rw[t rfl]at e |-
       rw[qFx];obtain⟨q,h,a⟩:=e.put p h;exact qd4 h a g
     | some d =>
       simp only at h;split at h<;>try cases h
       rename_i z;obtain⟨q,h,a⟩:=Rel.put (τ := d) e p h;cases σ' with
       | none =>
         rw[qFx];exact qd4 h a g
       | some σ' =>
         rw[qMa];exact⟨qJE j z,qd4 h a g⟩
   | false =>
     rw[qHl];simp only at h;obtain⟨q,h,a⟩:=f.put (x := .tup []) (y:=qlT) ⟨[],rfl,rfl⟩ h;exact qd4 h a g
variable {fin:Env->TS->Option α} {L:List It->Env->TS->Option α} {Qr : α -> Ex->S->Prop}
def qAJ(c:TC)(fin:Env->TS->Option α)(Qr : α -> Ex->S->Prop):Prop:=∀ E τ r m tm σ,fin E τ = some r->Rel c.n2 m E τ tm σ -> ∀ e,e = .ret\/e = .normal->Qr r e ⟨tm,σ⟩
def LOK(c:TC)(L:List It->Env->TS->Option α)(Qr : α -> Ex->S->Prop):Prop:=∀ a E τ r m tm σ,L a E τ = some r->Rel c.n2 m E τ tm σ -> Go c.pc (Qr r) a .normal ⟨tm,σ⟩
theorem qvD(hr:Rel N m E τ tm σ){ops:Array Oper}{j i:Nat}{o q:Oper}(h:qsI E ops j o i q=true):qjn tm ops j o i q=true:=by
 unfold qsI at h;unfold qjn;split at h
 case h_4=>cases h
 case h_3 =>
  rename_i h1 h2;simp only[h1,h2];cases hb:qpP E ops i _ with
  | none=>rw[hb]at h;cases h
  | some b=>rw[(qk3 hr hb).2];rfl
 case h_2 =>
  rename_i h1 h2;simp only[h1,h2];cases hb:qpP E ops i _ with
  | none=>rw[hb]at h;cases h
  | some b=>rw[(qk3 hr hb).2];rfl
 rename_i h1 h2;split at h
 case h_3=>cases h
 case h_2 =>
  rename_i x hx _;obtain⟨a1,a2⟩:=qk3 hr hx;obtain⟨b1,b2⟩:=qLR hr h;grind
 rename_i x y hx hy;obtain⟨a1,a2⟩:=qk3 hr hx;obtain⟨b1,b2⟩:=qk3 hr hy;simp only[h1,h2,a2,b2];have hne:x≠y := λ he=>by rw[he]at h;simp at h
 have:m.b x≠m.b y := λ he=>hne (hr.inj x y a1 b1 he)
 have hb:Nat.beq (m.b x) (m.b y)=false:=by
  cases hb:Nat.beq (m.b x) (m.b y)with
  | true=>exact absurd (wj hb) this
  | false=>rfl
 rw[hb];rfl
theorem qo0(b:Rel N m E τ tm σ){ops:Array Oper}{d:Bool}{a:Nat->Bool}(h:qsG a E ops d=true):qbY a tm ops d=true:=by
 cases d with
 | false=>rfl
 | true =>
   show qb1 a tm ops=true;simp only[qsG,wv,wd,decide_eq_true_eq,kh,wV]at h;simp only[qb1,wv,wd,decide_eq_true_eq,kh,wV];intro p e;obtain⟨i,f⟩:=h p e;refine⟨i,λ q c=>?_⟩;rcases f q c with(g | g) | g
   ·exact .inl (.inl g)
   ·refine .inl (.inr ?_);unfold qL7 at g;unfold qj2;rw[xI]at g |-
    refine⟨g.1,?_⟩;rw[xZ]at *;rcases g.2 with g | g
    ·exact .inl g
    ·right;simp only[vS,kh]at g;unfold qjy;simp only[vS,kh];exact g.imp (qvD b) (qvD b)
   ·exact .inr g
theorem qMJ(c:Rel N m E τ tm σ){t:Nat}(h:qJD (get E t)=true):qxe (tm.getD t .dead)=true:=by
 have a:=c.env t;cases b:get E t<;>rw[b]at h a<;>first | (cases h;done) | skip
 rw[show tm.getD t .dead=_ from a.2];rfl
theorem qNd(hr:Rel N m E τ tm σ){ops:Array Oper}{t:Nat}(h:(qJD (get E t)&&qGX E ops)=true):quV tm ops t=true:=by
 rw[wd]at h;unfold quV;rw[qMJ hr h.1,w7];have h2:=h.2;unfold qGX at h2;unfold qFX;split at h2
 case h_2=>cases h2
 rename_i p l hp;rw[hp];simp only;split at h2
 case h_2=>cases h2
 rename_i a u b hop;have ho:=hr.ev u;rw[hop];simp only;cases hx:evT E u<;>rw[hx]at h2 ho<;>first | (cases h2;done) | skip
 ·rcases jh ho.1 with⟨hy,_⟩ | ⟨es,n,hy,_⟩<;>rw[hy]<;>rfl
 ·obtain⟨R,_,_,hy,_⟩:=ho;rcases hy with hy | ⟨k,es,j,hy⟩ | ⟨r,lo,n,ep,f,hy⟩<;>rw[hy]<;>rfl
theorem qFL(a:Rel N m E τ tm σ){x:Operand}{b:Bool}(h:evT E x = .b b){b':Bool}(c:b=b'):Rel N m (qHg E x b') τ tm σ := by
 subst c;unfold qHg;split
 ·rename_i t;refine a.know ?_;have:=a.env t;have h:get E t = .b b:=h;rw[h]at this;exact this
 ·exact a
theorem qE9(d:Rel N m E τ tm σ)(t:Nat){x':TV}(g:rsA (tm.getD t .dead)=[]->OK (shM m) x' (tm.getD t .dead))(f:rsA (tm.getD t .dead)≠[]->OK (shM m) x' (QN σ.rw (tm.getD t .dead))) :
  Rel N (shM m) ((t,x')::E) (shA τ) (qcZ ⟨tm,σ⟩ t).tm (qcZ ⟨tm,σ⟩ t).σ := by
 unfold qcZ;cases a:rsA (tm.getD t .dead)with
 | nil =>
   simp only[a];exact(d.share rfl d.rows.sh).know (g a)
 | cons q l =>
   simp only[a];have f:=f (by rw[a];intro h;cases h);have b:=d.share (σ':={ σ with rw:=frz σ.rw (q::l),wrr:=(q::l) ++ σ.wrr }) rfl (d.rows.frz _ _)
   have i:t<tm.length:=by
    apply wac;intro e;rw[List.getD_eq_getElem?_getD,List.getElem?_eq_none e]at a;cases a
   refine⟨by rw[wJ];exact b.len,λ u=>?_,b.rw,b.nb,b.box,b.inj,b.rows,b.rinj,b.pin⟩;simp only[get];split
   ·rename_i c;have c:t=u:=wj c;grind
   ·rename_i c;have c:t≠u := λ j=>by rw[j]at c;simp at c
    rw[List.getD_eq_getElem?_getD,List.getElem?_set_ne c,<- List.getD_eq_getElem?_getD];exact b.env u
theorem qIP{t:Nat}(h:rsA (tm.getD t .dead)=[]):qcZ ⟨tm,σ⟩ t=⟨tm,σ⟩:=by
 unfold qcZ;simp only[h]
theorem qKy(g:Rel N m E τ tm σ){t:Nat}{a:Ty}{K:Env->TS->Option α}(h:qGf E τ t a K=some r) :
  ∃ o f m',K o f=some r/\Rel N m' o f (qcZ ⟨tm,σ⟩ t).tm (qcZ ⟨tm,σ⟩ t).σ := by
 have c:=g.env t;unfold qGf at h
 have b:rsA (tm.getD t .dead)=[]->K E τ = some r->∃ o f m',K o f=some r/\Rel N m' o f (qcZ ⟨tm,σ⟩ t).tm (qcZ ⟨tm,σ⟩ t).σ := λ s k=>by
  rw[qIP s];exact⟨E,τ,m,k,g⟩
 split at h
 ·rename_i d;rw[d]at c;exact b (by rw[show tm.getD t .dead=_ from c];rfl) h
 ·rename_i d;rw[d]at c;exact b (by rw[show tm.getD t .dead=_ from c];rfl) h
 ·rename_i d;rw[d]at c;exact b (by rw[show tm.getD t .dead=_ from c];rfl) h
 ·rename_i d;rw[d]at c;exact b (by rw[show tm.getD t .dead=_ from c.2];rfl) h
 ·rename_i d;rw[d]at c;exact b (by rw[show tm.getD t .dead=_ from c];rfl) h
 ·rename_i d;rw[d]at c;refine b ?_ h;rcases jh c.1 with⟨s,_⟩ | ⟨es,n,s,_⟩<;>(rw[s];rfl)
 ·rename_i id j d;rw[d]at c;split at h<;>try cases h
  rename_i R A;split at h<;>try cases h
  rename_i C;have w:R.ver=j:=wj C;split at h<;>try cases h
  rename_i l F
  have L:qnu m.rw a (.row id j)=some l:=by
   unfold qnu;rw[g.rw];simp only[A,C];exact F
  obtain⟨es,O,M,g3⟩:=qob g.rows L c;obtain⟨e,rfl⟩:=jE F;subst e;have e1:∀ y:AV,(∀ cs,y ≠ .agg cs)->QN σ.rw y=zk σ.rw y := λ y v=>by cases y<;>first | rfl | exact absurd rfl (v _)
  obtain⟨R',p,_,B,G⟩:=c
  have x:∀ cs,tm.getD t .dead ≠ .agg cs:=by
   intro cs I;rw[I]at B;rcases B with h | ⟨_,_,_,h⟩ | ⟨_,_,_,_,_,h⟩<;>cases h
  refine⟨_,_,_,h,qE9 g t (λ z=>?_) λ _=>?_⟩
  ·have i:=G (by rw[g.rw,A]at p;cases p;exact w);have H:∃ y,y=tm.getD t .dead:=⟨_,rfl⟩
   obtain⟨y,v⟩:=H;rw[<- v]at i z |-
   rw[g.rw,A]at p;cases p;revert i;unfold qaa;cases m.r id with
   | none=>intro i;exact⟨i.1,wD (by decide) i.2⟩
   | some q=>intro i;rw[i]at z;cases z
  ·rw[e1 _ x];exact⟨g3,qnq g3⟩
 ·rename_i d;refine⟨_,_,shM m,h,?_⟩;have:=qE9 g t (x' := .dead) (λ _=>trivial) λ _=>trivial;refine⟨this.len,λ u=>?_,this.rw,this.nb,this.box,this.inj,this.rows,this.rinj,this.pin⟩;by_cases D:t=u
  ·subst D;rw[d];trivial
  ·have k:=this.env u;simp only[get]at k
   rw[show Nat.beq t u=false from by
    cases J:Nat.beq t u with
    | true=>exact absurd (wj J) D
    | false=>rfl]at k
   exact k
 ·cases h
theorem qsB:∀(l:List (Tmp × Co)) {m:Mp} {E:Env} {τ : TS} {tm:List AV} {σ : St} {K:Env->TS->Option α} {r : α},Rel N m E τ tm σ -> qtQ l E τ K=some r ->
  ∃ e b m',K e b=some r/\Rel N m' e b (qf4 (qgV l) ⟨tm,σ⟩).tm (qf4 (qgV l) ⟨tm,σ⟩).σ
 | [],m,E,τ,tm,σ,K,r,c,h=>⟨E,τ,m,h,c⟩
 | (t,i)::l,m,E,τ,tm,σ,K,r,c,h=>by
   cases i with
   | plist a =>
     rw[qtQ]at h;obtain⟨k,f,j,g,d⟩:=qKy c h;exact qsB l d g
   | _=>simp only[qtQ]at h;exact qsB l c h
theorem qxR(G:qAJ c fin Qr)(F:LOK c L Qr):∀(n:Nat) {w:List It} {e:Ex} {E:Env} {τ : TS} {r : α} {m:Mp} {tm:List AV} {σ : St},J0 c fin L n w e E τ = some r->Rel c.n2 m E τ tm σ -> Go c.pc (Qr r) w e ⟨tm,σ⟩:=by
 intro n
 induction n with
 | zero=>intro w e E τ r m tm σ h f;simp[J0]at h
 | succ n g =>
   intro w e E τ r m tm σ h f;cases w with
   | nil =>
     simp only[J0]at h;rw[qOU];cases e with
     | exit i=>cases h
     | normal=>exact G E τ r m tm σ h f _ (.inr rfl)
     | ret=>exact G E τ r m tm σ h f _ (.inl rfl)
   | cons I k =>
     cases I with
     | ops N d l=>simp[J0]at h
     | blk id =>
       simp only[J0]at h;cases e with
       | exit i =>
         simp only at h;rw[qEp];split at h
         ·rename_i s;have s:i=id:=wj s;rw[if_pos s];split at h
          ·obtain⟨A,j,m',h,o⟩:=qGk f h;exact F k A j r m' tm σ h o
          ·exact g h f
         ·rename_i s;have s:i≠id := λ M=>by rw[M]at s;simp at s
          rw[if_neg s];exact g h f
       | normal =>
         simp only at h;rw[qAq];split at h
         ·obtain⟨A,j,m',h,o⟩:=qGk f h;exact F k A j r m' tm σ h o
         ·exact g h f
       | ret=>rw[qHh];simp only at h;exact g h f
     | code cd =>
       cases e with
       | exit i=>simp only[J0]at h;rw[qCJ];exact g h f
       | ret=>simp only[J0]at h;rw[qDO];exact g h f
       | normal =>
         simp only[J0]at h;cases cd with
         | skip=>rw[qLl];exact g h f
         | label l=>rw[qLd];exact g h f
         | region id ops d =>
           obtain⟨l⟩:=ops;simp only at h;split at h
           ·rename_i q;split at h<;>try cases h
            rename_i u;rw[wd]at u;have z:=(wd _ _).mp u.2;refine qHp id l d q (by rw[waF];exact u.1) (by rw[waF];exact qo0 f z.1) (by rw[waF];exact qo0 f z.2) ?_;rw[waF];exact qd4 h f λ m E τ tm σ h f=>qd4 h f λ m E τ tm σ h f=>qd4 h f λ m E τ tm σ h f=>g h f
           ·rename_i q;split at h
            ·rename_i p t;split at h<;>try cases h
             rename_i u;refine qG5 id l d q t (by rw[waF];exact qo0 f u) ?_;refine qd4 h f λ m E τ tm σ h f=>?_;split at h<;>try cases h
             rename_i J;exact⟨qNd f J,qd4 h f λ m E τ tm σ h f=>g h f⟩
            ·rename_i t;rw[go_region _ _ _ q t];split at h<;>try cases h
             rename_i u;exact⟨by rw[waF];exact qo0 f u,qd4 h f λ m E τ tm σ h f=>g h f⟩
         | seq a b=>rw[qPa];exact g h f
         | cond x a b =>
           simp only at h;rw[qNw];split at h<;>try cases h
           rename_i y C;have B:=f.ev x;rw[C]at B;have B:aev tm x = .v (.bool y):=B;rw[B];cases y with
           | true=>rw[qIa];exact g h (qFL f C rfl)
           | false=>rw[qG9];exact g h (qFL f C rfl)
         | block id b=>rw[qKX];exact g h f
         | loop b =>
           simp only at h;split at h<;>try cases h
           rename_i l K;obtain⟨P,H,O,h,D⟩:=qsB l f h;obtain⟨A,j,m',h,o⟩:=qGk D h;rw[<- qOP,show c.pc.pur b=qgV l from by show c.pur b=_;unfold TC.pur;rw[K]];exact F _ A j r m' _ _ h o
         | exit id=>rw[qMc];exact g h f
         | ret=>rw[qMP];exact g h f
         | _=>simp only at h;cases h
theorem qJc(f:qAJ c fin Qr)(g:LOK c L Qr)(n:Nat):LOK c (λ i E τ => qBK c fin L n i E τ) Qr:=by
 intro i E τ r m tm σ h d;simp only[qBK]at h;split at h
 ·rename_i b k;rw[go_loop];split at h
  ·rename_i l e;obtain⟨p,j,o,h,a⟩:=qsB l d h;rw[show c.pc.pur b=qgV l from by show c.pur b=_;unfold TC.pur;rw[e]];exact qxR f g n h a
  ·rename_i e;rw[show c.pc.pur b=[]from by show c.pur b=_;unfold TC.pur;rw[e]];exact qxR f g n h d
 ·exact qxR f g n h d
theorem qub(b:qAJ c fin Qr)(n:Nat):∀ k,LOK c (qpa c fin n k) Qr
 | 0 => λ a E τ r m tm σ h=>by simp[qpa]at h
 | k+1=>by
   intro a E τ r m tm σ h d;exact qJc b (qub b n k) n a E τ r m tm σ h d
theorem qg8(i:Rel c.n2 m E τ tm σ){f:ResultVar}{x:TV}(h:qn0 c E τ f=some x):∃ y,qlc c.pc.cfg tm σ f=some y/\OK m x y:=by
 cases f with
 | tmp t=>cases h;exact⟨_,rfl,i.env t⟩
 | cell a t =>
   simp only[qn0]at h;split at h<;>try cases h
   rename_i d b o k l;have g:=i.env a;rw[l]at g;obtain⟨q,g⟩:=g;split at h<;>try cases h
   rename_i cs j;obtain⟨ds,r,p⟩:=i.box b cs j;obtain⟨y,g3,n⟩:=qgF p h;refine⟨y,?_,n⟩;have e:c.pc.cfg.ty t=some d:=k;grind [qlc,JJ,g3]
theorem qM3{y:AV}:quX 0 σ.rw y=zk σ.rw y:=by
 cases y<;>rfl
theorem qFK(y:AV)(h:∀ vs,y ≠ .tup vs):qjS 0 σ.rw y=QN σ.rw y:=by
 cases y with
 | agg cs =>
   show AV.agg (cs.map (quX 0 σ.rw)) = .agg (cs.map (zk σ.rw));rw[k8 λ x _=>qM3]
 | _=>rfl
theorem qsR{a:Ty}{y:AV}{v:Val a}(h:QW a y=some v):Sub y (yL a v):=by
 unfold QW at h;split at h
 case h_2=>cases h
 rename_i hb;have hb:a.agg=qeK y:=by simpa[qdG]using hb
 obtain⟨pre,h1,_,h3,h4,_⟩:=yO a (yb.1 h);rw[wB]at h1;rw[<- h1]at h4
 have agg:∀ e:List AV,a.agg=true->QK (cellsOf y) e->Sub y (.agg e):=by
  intro e ha hs;rw[hb]at ha;cases y with
  | agg cs=>exact qJM hs
  | _=>cases ha
 have one:∀ e:AV,a.agg=false->QK (cellsOf y) [e]->Sub y e:=by
  intro e ha hs;rw[hb]at ha;have:cellsOf y=[y]:=by cases y<;>first | rfl | (cases ha)
  rw[this]at hs;cases hs with
  | cons h _=>exact h
 cases a with
 | int k=>exact one _ rfl h4
 | bool=>exact one _ rfl h4
 | str=>exact one _ rfl h4
 | list a=>exact one _ rfl h4
 | term=>exact agg _ rfl h4
 | pair a b=>exact agg _ rfl h4
 | one a=>exact agg _ rfl h4
theorem qEs(d:Rel c.n2 m E τ tm σ){a:Ty}{e:ResultVar}{x:TV}{v:Val a}(i:qn0 c E τ e=some x)(g:qgs τ.rw a x=some v):∃ y,qlc c.pc.cfg tm σ e=some y/\(∀ vs,y ≠ .tup vs)/\Q4 (qjS 0 σ.rw y)=true/\Sub (qjS 0 σ.rw y) (yL a v):=by
 obtain⟨y,k,j⟩:=qg8 d i;rw[<- d.rw]at g;obtain⟨g3,_⟩:=qk4 d.rows g j
 have b:∀ vs,y ≠ .tup vs:=by
  rintro vs rfl;have:=(qc0 g3).1;unfold QW at g3;split at g3
  ·obtain⟨pre,f,_,h,_⟩:=yO a (yb.1 g3);rw[wB]at f;have:=h (.tup vs) (by rw[<- f];exact wH.2 rfl);cases this
  ·cases g3
 refine⟨y,k,b,?_,?_⟩
 ·rw[qFK y b];exact(qc0 g3).1
 ·rw[qFK y b];exact qsR g3
theorem qEN(g:Rel c.n2 m E τ tm σ):∀{ts:List Ty} {d:List ResultVar} {v:qe2 ts},qjU c ts d E τ = some v ->
  ∃ l,jW c.pc.cfg tm σ d=some l/\(∀ y∈l,∀ vs,y≠AV.tup vs)/\noRefs (l.map (qjS 0 σ.rw))=true/\QK (l.map (qjS 0 σ.rw)) (qbq ts v)
 | [],d,v,h=>by
   cases d with
   | nil=>exact⟨[],rfl,by simp,rfl,.nil⟩
   | cons a l=>simp only[qjU]at h;cases h
 | [a],d,v,h=>by
   cases d with
   | nil=>simp only[qjU]at h;cases h
   | cons n d =>
     cases d with
     | cons _ _=>simp only[qjU]at h;cases h
     | nil =>
       simp only[qjU]at h;split at h<;>try cases h
       rename_i x e;obtain⟨y,j,k,g3,i⟩:=qEs g e h;refine⟨[y],by simp only[jW,j],by simpa using k,?_,.cons i .nil⟩;show(Q4 _&&true)=true;rw[g3];rfl
 | a::b::ts,d,v,h=>by
   cases d with
   | nil=>simp only[qjU]at h;cases h
   | cons n d =>
     simp only[qjU]at h;split at h<;>try cases h
     rename_i x e;split at h<;>try cases h
     rename_i w q;split at h<;>cases h;rename_i r f;obtain⟨y,j,k,g3,i⟩:=qEs g e q;obtain⟨l,p,t,s,o⟩:=qEN g f;refine⟨y::l,by simp only[jW,j,p],?_,?_,.cons i o⟩
     ·grind
     ·grind [noRefs,g3]
theorem qMN{x:AV}(h:Q4 x=true):refs 0 0 x=false:=by
 obtain⟨b,a⟩:=qfI h;unfold refs;rw[b,a];rfl
theorem qNo{ts:List Ty}{d:List ResultVar}:qAJ c (qjU c ts d) (λ v=>Ret c.pc d λ z=>Sub z (zZ (qbq ts v))):=by
 intro E τ v m tm σ h i e j;refine⟨j,?_⟩;obtain⟨l,n,b,g3,g⟩:=qEN i h;rw[n];show refs 0 0 (qiU 0 σ.rw (zZ l))=false/\Sub (qiU 0 σ.rw (zZ l)) (zZ (qbq ts v));have f:l.length=(qbq ts v).length:=by rw[<- g.len,wA]
 have a:qiU 0 σ.rw (zZ l)=zZ (l.map (qjS 0 σ.rw)):=by
  match l,b with
  | [],_=>rfl
  | [y],b =>
    have:=b y (wH.2 rfl);show qiU 0 σ.rw y=qjS 0 σ.rw y;cases y<;>first | rfl | exact absurd rfl (this _)
  | y::z::l,_=>rfl
 rw[a];constructor
 ·apply qMN
  match l,g3 with
  | [],_=>rfl
  | [y],g3 =>
    show Q4 (qjS 0 σ.rw y)=true;simpa[noRefs]using g3
  | y::z::l,g3=>exact qyU g3
 ·match l,qbq ts v,g with
  | [],[],_=>exact .refl _
  | [y],[z],.cons h _=>exact h
  | y::p::l,z::o::k,h=>exact h.tup
theorem qB4{m:Mp}:∀(n:Nat) {xs:List TV} {ys:List AV} {pre:List AV} {post:List AV},OKL m xs ys->pre.length=n->∀ t,OK m (get (qhe n xs) t) ((pre++(ys++post)).getD t .dead)
 | n,[],ys,pre,post,h,a,t=>trivial
 | n,x::xs,ys,pre,post,⟨y,r,c,e,d⟩,a,t=>by
   subst c;simp only[qhe,get];split
   ·rename_i b;have b:n=t:=wj b;grind
   ·have:=qB4 (m:=m) (n+1) (pre:=pre++[y]) (post:=post) d (by simp[a]) t;simpa using this
theorem qPB{ts:List Ty}{fn:Func}{cd:Code}(o:fn.body=some cd){n k:Nat}{xs:List TV}{ys:List AV}{v:qe2 ts}(a:c.nt=fn.ntmps)(d:c.np=0)(j:ys.length<=fn.ntmps)(g:OKL mp0 xs ys)
  (h:qpa c (qjU c ts fn.results.toList) n k [.code cd] (qhe 0 xs) ⟨[],[]⟩=some v):GoB c.pc (λ z=>Sub z (zZ (qbq ts v))) fn ys:=by
 unfold GoB;rw[o]
 have f:Rel c.n2 mp0 (qhe 0 xs) ⟨[],[]⟩ (ys++List.replicate (fn.ntmps-ys.length) .dead) emp:=by
  refine⟨by show _=c.nt;rw[wc,kH,a];omega,λ t=>?_,rfl,rfl,λ b cs h=>by simp at h,λ b b' h=>absurd h (wL _),λ id R h=>(by cases h),λ id e r h=>absurd h (wL _),λ i l=>absurd l (by show ¬ i<c.np;rw[d];exact wL _)⟩;have:=qB4 (m:=mp0) 0 (pre:=[]) (post:=List.replicate (fn.ntmps-ys.length) .dead) g rfl t;simpa using this
 exact qub qNo n k _ _ _ _ _ _ _ h f
end
end Go.AmZ
namespace Go.AmZ
open Go Go.RowKit Go.GxZ
section
variable {α : Type} {m:Mp} {E:Env} {τ : TS} {tm:List AV} {σ : St} {c:TC}
theorem qJa{a:Ty}{y:AV}{v:Val a}(h:QW a y=some v):OK m (qur a v) y:=by
 unfold QW at h;split at h
 case h_2=>cases h
 rename_i hb;have hb:a.agg=qeK y:=by simpa[qdG]using hb
 have hc:OKL m (Jr a v) (cellsOf y):=QH h
 have agg:a.agg=true->∃ ds,y = .agg ds/\OKL m (Jr a v) ds:=by
  intro ha;rw[hb]at ha;cases y with
  | agg cs=>exact⟨cs,rfl,hc⟩
  | _=>cases ha
 have one:a.agg=false->cellsOf y=[y]:=by
  intro ha;rw[hb]at ha;cases y<;>first | rfl | (cases ha)
 cases a with
 | term=>exact agg rfl
 | pair a b=>exact agg rfl
 | one a=>exact agg rfl
 | int k=>rw[one rfl]at hc;obtain⟨z,r,he,h1,_⟩:=hc;cases he;exact h1
 | bool=>rw[one rfl]at hc;obtain⟨z,r,he,h1,_⟩:=hc;cases he;exact h1
 | str=>rw[one rfl]at hc;obtain⟨z,r,he,h1,_⟩:=hc;cases he;exact h1
 | list a=>rw[one rfl]at hc;obtain⟨z,r,he,h1,_⟩:=hc;cases he;exact h1
structure qj9 (m:Mp) (σ : St) (nb nr:Nat):Prop where
 b:∀ i,m.b i=i
 nb:m.nb=nb
 rows:ju m σ
 low:∀ id r,id<m.rw.length->m.r id=some r->r<nr
 rinj:∀ id id' r,id<m.rw.length->id'<m.rw.length->m.r id=some r->m.r id'=some r->id=id'
 zero:∀(id:Nat) (R:qQ),m.rw[id]?=some R->R.ver=0
theorem qj9.add{nb j:Nat}(h:qj9 m σ nb j){a:Ty}{l:List (Val a)}{f:Option Nat}{o:Nat}{p:List (List AV)}{e:Nat}(v:JT σ ⟨a,l,0,0,false⟩ f o p)(w:j<=e)(k:∀ r,f=some r->j<=r/\r<e):qj9 (m.add ⟨a,l,0,0,false⟩ f o p) σ nb e:=by
 refine⟨h.b,h.nb,qo1 h.rows v λ _ _ h=>h,?_,?_,?_⟩
 ·intro id r u i;change id<(m.rw++[_]).length at u;change (if id=m.rw.length then f else m.r id)=some r at i;simp at u;split at i
  ·exact(k r i).2
  ·have:=h.low id r (by omega) i;omega
 ·intro id c r s q e1 g;change id<(m.rw++[_]).length at s;change c<(m.rw++[_]).length at q;change (if id=m.rw.length then f else m.r id)=some r at e1;change (if c=m.rw.length then f else m.r c)=some r at g;simp at s q;split at e1<;>split at g
  ·omega
  ·have:=h.low c r (by omega) g;have:=(k r e1).1;omega
  ·have:=h.low id r (by omega) e1;have:=(k r g).1;omega
  ·exact h.rinj id c r (by omega) (by omega) e1 g
 ·intro id R d;change (m.rw++[_])[id]?=some R at d;rw[List.getElem?_append]at d;split at d
  ·exact h.zero id R d
  ·cases t:id-m.rw.length with
   | zero=>rw[t]at d;cases d;rfl
   | succ n=>rw[t]at d;cases d
theorem qzh{m:Mp}{nb k a:Nat}{t:Ty}{y:AV}{l:List (Val t)}(b:qdR σ t k y=some (l,a))(u:qj9 m σ nb k) :
  ∃ d,MLe m d/\qj9 d σ nb a/\d.rw=m.rw++[⟨t,l,0,0,false⟩]/\OK d (.row m.rw.length 0) y:=by
 have step:∀ f g n,JT σ ⟨t,l,0,0,false⟩ f g n->k<=a->(∀ r,f=some r->k<=r/\r<a)->qaa f g t l y ->
   ∃ d,MLe m d/\qj9 d σ nb a/\d.rw=m.rw++[⟨t,l,0,0,false⟩]/\OK d (.row m.rw.length 0) y:=by
  intro f g n w i o j;refine⟨_,qsl m ⟨t,l,0,0,false⟩ f g n,u.add w i o,rfl,⟨t,l,0,0,false⟩,by show(m.rw++_)[m.rw.length]?=_;simp,we _,j.ish,λ _=>?_⟩;show qaa (if m.rw.length=m.rw.length then f else m.r m.rw.length) (if m.rw.length=m.rw.length then g else m.v m.rw.length) t l y;rw[if_pos rfl,if_pos rfl];exact j
 unfold qdR at b;split at b
 ·split at b<;>try cases b
  rename_i R x;split at b<;>try cases b
  rename_i q;split at b<;>cases b;rename_i e;obtain⟨rfl,rfl,rfl,z,rfl,rfl,s⟩:=of_decide_eq_true q;refine step (some _) R.ver R.c ⟨R,x,rfl,rfl,z,e,by rw[s.1];exact we _,λ _=>s⟩ (kr _) (λ r h=>by cases h;omega) ?_;show _=_;rw[qY e]
 ·split at b
  ·rename_i q p;cases b;exact step none 0 [] (λ _=>rfl) (wb _) (λ r h=>by cases h) ⟨q,of_decide_eq_true p⟩
  ·cases b
theorem qn3:∀(l:List RA) {m:Mp} {nb e a:Nat} {ds:List AV} {v:CV l},qf2 σ l e ds=some (v,a)->qj9 m σ nb e ->
  ∃ b,MLe m b/\qj9 b σ nb a/\b.rw=m.rw++Qz l v/\OKL b (qcV l m.rw.length v) ds
 | [],m,nb,e,a,ds,v,h,f=>by
   cases ds with
   | cons d ds=>simp[qf2]at h
   | nil =>
     simp only[qf2,wz,wR]at h;obtain⟨_,rfl⟩:=h;exact⟨m,.refl m,f,(wB _).symm,rfl⟩
 | .val t::l,m,nb,e,a,ds,v,h,f=>by
   simp only[qf2]at h;split at h<;>try cases h
   rename_i w j;split at h<;>cases h;rename_i vs c;obtain⟨b,i,o,k,g⟩:=qn3 l c f;refine⟨b,i,o,k,?_⟩;rw[<- kz t.size ds];exact(QH j).append g
 | .row t::l,m,nb,e,a,ds,v,h,f=>by
   cases ds with
   | nil=>simp[qf2]at h
   | cons d ds =>
     simp only[qf2]at h;split at h<;>try cases h
     rename_i w n j;split at h<;>cases h;rename_i vs c;obtain⟨b,u,s,p,r⟩:=qzh j f;obtain⟨q,i,o,k,g⟩:=qn3 l c s;rw[p,wc]at g;exact⟨q,u.trans i,o,by rw[k,p,wi];rfl,⟨_,_,rfl,r.mono i,g⟩⟩
theorem qg0:∀(sas:List SA) {m:Mp} {nb o:Nat} {ys:List AV} {a:QF sas},dS σ sas nb o ys=some a->qj9 m σ nb o ->
  ∃ m' c d,MLe m m'/\qj9 m' σ c d/\c = σ.bx.length/\m'.rw=m.rw++sRw sas a/\nb+(sBx sas m.rw.length a).length=c/\OKL m' (qlA sas nb m.rw.length a) ys/\ys.length<=sas.length /\
   ∀(i:Nat) (cs:List TV),(sBx sas m.rw.length a)[i]?=some cs->∃ ds,σ.bx[nb+i]?=some ds/\OKL m' cs ds
 | [],m,nb,o,ys,a,h,e=>by
   cases ys with
   | cons y ys=>simp[dS]at h
   | nil =>
     simp only[dS]at h;split at h<;>try cases h
     rename_i E;have E:=of_decide_eq_true E;exact⟨m,nb,o,.refl m,e,E.1,(wB _).symm,rfl,rfl,wb _,λ i cs h=>by cases h⟩
 | .nil::sas,m,nb,o,ys,a,h,e=>by
   obtain⟨C,rfl,h⟩:∃ C,ys = .v (.slice none 0 0)::C/\dS σ sas nb o C=some a:=by
    cases ys with
    | nil=>simp[dS]at h
    | cons y ys =>
      simp only[dS]at h;split at h
      ·rename_i W;exact⟨ys,by rw[qza W],h⟩
      ·cases h
   obtain⟨m',c,d,u,s,A,z,w,f,x,r⟩:=qg0 sas h e;exact⟨m',c,d,u,s,A,z,w,⟨_,_,rfl,rfl,f⟩,xD x,r⟩
 | .clo g k::sas,m,nb,o,ys,a,h,e=>by
   cases ys with
   | nil=>simp[dS]at h
   | cons y ys =>
     simp only[dS]at h;split at h<;>try cases h
     rename_i cs L;obtain⟨rfl,S⟩:=qFa L;obtain⟨m',c,d,u,s,A,z,w,f,x,r⟩:=qg0 sas h e;have Q:=f.take k;have E:=f.drop k;rw[List.take_left' S]at Q;rw[List.drop_left' S]at E;refine⟨m',c,d,u,s,A,z,w,⟨_,_,rfl,⟨_,rfl,Q⟩,E⟩,?_,r⟩;rw[wc]at x;rw[wu,wu];omega
 | .val t::sas,m,nb,o,ys,a,h,e=>by
   cases ys with
   | nil=>simp[dS]at h
   | cons y ys =>
     simp only[dS]at h;split at h<;>try cases h
     rename_i v B;split at h<;>cases h;rename_i vs p;obtain⟨m',c,d,u,s,A,z,w,f,x,r⟩:=qg0 sas p e;exact⟨m',c,d,u,s,A,z,w,⟨_,_,rfl,qJa B,f⟩,xD x,r⟩
 | .box l::sas,m,nb,o,ys,a,h,e=>by
   cases ys with
   | nil=>simp[dS]at h
   | cons y ys =>
     simp only[dS]at h;split at h<;>try cases h
     rename_i v n B;split at h<;>cases h;rename_i vs p;unfold qjw at B;split at B<;>try cases B
     split at B<;>try cases B
     rename_i j _ _ ds J K;have J:=wj J;subst J;have H:qj9 { m with nb:=m.nb+1 } σ (j+1) o:=⟨e.b,by show m.nb+1=_;rw[e.nb],e.rows,e.low,e.rinj,e.zero⟩
     have I:MLe m { m with nb:=m.nb+1 }:=⟨kr _,λ _ _=>rfl,λ id R h=>⟨R,h,wb _,wb _,λ _=>⟨rfl,rfl,rfl,rfl,(λ _=>rfl),λ _ _ h=>h⟩⟩⟩
     obtain⟨F,P,O,D,N⟩:=qn3 l B H;obtain⟨m',c,d,u,s,A,z,w,f,x,r⟩:=qg0 sas p O;have D:F.rw=m.rw++Qz l v:=D;have q:F.rw.length=m.rw.length+nR l:=by rw[D,wc,j8]
     rw[q]at w f r;have G:m'.nb=c:=s.nb;have V:(sBx (.box l::sas) m.rw.length (toB l v,vs)).length=(sBx sas (m.rw.length+nR l) vs).length+1:=rfl;refine⟨m',c,d,I.trans (P.trans u),s,A,?_,by omega,⟨_,_,rfl,⟨by rw[G];omega,by rw[s.b]⟩,f⟩,xD x,λ i cs T=>?_⟩
     ·rw[z,D,wi];show _=m.rw++(Qz l (toC l (toB l v))++_);rw[qiL]
     ·cases i with
      | zero =>
        cases T;refine⟨ds,K,?_⟩;show OKL m' (qcV l m.rw.length (toC l (toB l v))) ds;rw[qiL];exact N.mono u
      | succ i =>
        obtain⟨M,Z,Y⟩:=r i cs T;exact⟨M,by rw[<- Z];congr 1;omega,Y⟩
 | .row t::sas,m,nb,o,ys,a,h,e=>by
   cases ys with
   | nil=>simp[dS]at h
   | cons y ys =>
     simp only[dS]at h;split at h<;>try cases h
     rename_i l U X;split at h<;>cases h;rename_i vs p;obtain⟨F,P,O,D,N⟩:=qzh X e;obtain⟨m',c,d,u,s,A,z,w,f,x,r⟩:=qg0 sas p O;have q:F.rw.length=m.rw.length+1:=by rw[D,wc];rfl
     rw[q]at w f r;exact⟨m',c,d,P.trans u,s,A,by rw[z,D,wi];rfl,w,⟨_,_,rfl,N.mono u,f⟩,xD x,r⟩
theorem qoL{a:Ty}{ds:List AV}{v:Val a}(h:yh a ds=some v):QK ds (qi a v):=by
 obtain⟨pre,b,_,_,c,_⟩:=yO a (yb.1 h);rw[wB]at b;rw[b];exact c
def qqQ(σ : St)(b:List Nat)(a:Ty)(v:List (Val a))(y:AV):Option Nat->Prop
 | some j=>∃ Q,y = .rs j 0 Q.c.length Q.ver false /\ σ.rw[j]?=some Q/\Q.k=a.size/\Q.fz=0/\zg (yh a) Q.c=some v/\j ∉ b/\Q.off=false
 | none=>v=[]/\dlist a y=some []/\2<=lvl y
def qB7(l:List SA):Nat:=nBx l
theorem qk9:∀(sas:List SA) (L:Nat) (a:QF sas),(sBx sas L a).length=nBx sas
 | [],_,_=>rfl
 | .nil::sas,L,a=>qk9 sas L a
 | .clo _ _::sas,L,a=>qk9 sas L a
 | .val _::sas,L,a=>qk9 sas L a.2
 | .row _::sas,L,a=>qk9 sas _ a.2
 | .box _::sas,L,a=>by rw[sBx,wu,qk9 sas _ a.2,nBx]
inductive FC (σ : St) (fs:List Nat):(l:List RA)->CV l->List AV->List (Option Nat × Row)->Prop
 | nil:FC σ fs [] () [] []
 | val {a:Ty} {l:List RA} {v:Val a} {vs:CV l} {ds ds':List AV} {qf:List (Option Nat × Row)} (h:QK (ds.map (zk σ.rw)) (qi a v)) (hf:∀ x∈ds,∀ r∈rsC x,r∈fs) (t:FC σ fs l vs ds' qf):FC σ fs (.val a::l) (v,vs) (ds++ds') qf
 | row {a:Ty} {l:List RA} {v:List (Val a)} {vs:CV l} {y:AV} {ds:List AV} {qf:List (Option Nat × Row)} {so:Option Nat} (h:qqQ σ fs a v y so) (t:FC σ fs l vs ds qf):FC σ fs (.row a::l) (v,vs) (y::ds) ((so,⟨a.size,v.map (qi a),0,0,false⟩)::qf)
inductive FR (σ : St) (fs:List Nat) (rws:List qQ) (nB:List (Option Nat × Row)):(rs:List RE)->Nat->Nat->RV rs->List AV->List (Option Nat × Row)->List Nat->Prop
 | nil {n d:Nat}:FR σ fs rws nB [] n d () [] [] []
 | val {a:Ty} {rs:List RE} {v:Val a} {vs:RV rs} {y:AV} {ys:List AV} {qf:List (Option Nat × Row)} {n d:Nat} {kb:List Nat} (h:Sub (QN σ.rw y) (yL a v)) (hf:∀ r∈rsA y,r∈fs) (t:FR σ fs rws nB rs n d vs ys qf kb):FR σ fs rws nB (.one (.val a)::rs) n d (v,vs) (y::ys) qf kb
 | row {a:Ty} {rs:List RE} {v:List (Val a)} {vs:RV rs} {y:AV} {ys:List AV} {qf:List (Option Nat × Row)} {so:Option Nat} {n d:Nat} {kb:List Nat}
  (h:qqQ σ fs a v y so)
  (t:FR σ fs rws nB rs n (d+1) vs ys qf kb):FR σ fs rws nB (.one (.row a)::rs) n d (v,vs) (y::ys) ((so,⟨a.size,v.map (qi a),0,0,false⟩)::qf) kb
 | agg {l:List RA} {rs:List RE} {v:CV l} {vs:RV rs} {ds:List AV} {ys:List AV} {n1 n2:List (Option Nat × Row)} {n d:Nat} {kb:List Nat} (h:FC σ fs l v ds n1) (t:FR σ fs rws nB rs n (d+nR l) vs ys n2 kb):FR σ fs rws nB (.agg l::rs) n d (v,vs) (.agg ds::ys) (n1++n2) kb
 | nilp {rs:List RE} {vs:RV rs} {ys:List AV} {qf:List (Option Nat × Row)} {n d:Nat} {kb:List Nat} (t:FR σ fs rws nB rs n d vs ys qf kb):FR σ fs rws nB (.nilp::rs) n d vs (.v (.pointer none)::ys) qf kb
 | box {l:List RA} {rs:List RE} {v:CV l} {vs:RV rs} {ds:List AV} {ys:List AV} {n1 n2:List (Option Nat × Row)} {n d b:Nat} {kb:List Nat} (hd : σ.bx[b]?=some ds) (h:FC σ fs l v ds n1) (t:FR σ fs rws nB rs (n+1) (d+nR l) vs ys n2 kb):FR σ fs rws nB (.box n l::rs) n d (toB l v,vs) (.ptr b 0::ys) (n1++n2) (b::kb)
 | elt {rs:List RE} {a:Ty} {e:Val a} {vs:RV rs} {ys:List AV} {qf:List (Option Nat × Row)} {n d p r j:Nat} {Q R:Row} {kb:List Nat} (h1:nB[p]?=some (some r,R)) (h2 : σ.rw[r]?=some Q) (h3:p<=d) (h4:Q.off=false) (h5:j<Q.c.length) (t:FR σ fs rws nB rs n d vs ys qf kb):FR σ fs rws nB (.eltI (d-p) a::rs) n d ((((j:Nat):Int),e),vs) (.rpt r j 0 Q.ver::ys) qf kb
inductive FB (σ : St) (fs:List Nat):(sas:List SA)->j7 sas->Nat->List (Option Nat × Row)->Prop
 | nil {n:Nat}:FB σ fs [] () n []
 | skip1 {r:List SA} {o:j7 r} {n:Nat} {qf:List (Option Nat × Row)} (t:FB σ fs r o n qf):FB σ fs (.nil::r) o n qf
 | skip2 {r:List SA} {o:j7 r} {n g k:Nat} {qf:List (Option Nat × Row)} (t:FB σ fs r o n qf):FB σ fs (.clo g k::r) o n qf
 | skip3 {r:List SA} {o:j7 r} {n:Nat} {a:Ty} {qf:List (Option Nat × Row)} (t:FB σ fs r o n qf):FB σ fs (.val a::r) o n qf
 | skip4 {r:List SA} {o:j7 r} {n:Nat} {a:Ty} {qf:List (Option Nat × Row)} (t:FB σ fs r o n qf):FB σ fs (.row a::r) o n qf
 | box {r:List SA} {l:List RA} {v:CV l} {o:j7 r} {n:Nat} {ds:List AV} {n1 n2:List (Option Nat × Row)} (hd : σ.bx[n]?=some ds) (h:FC σ fs l v ds n1) (t:FB σ fs r o (n+1) n2):FB σ fs (.box l::r) (toB l v,o) n (n1++n2)
theorem qFE(F:Rel c.n2 m E τ tm σ){a:Ty}{x:TV}{y:AV}{w:List (Val a)}{i:List Nat}(b:qiD τ.rw a x=some (w,i))(z:OK m x y) :
  ∃ so,i.filterMap m.r=so.toList/\(∀ id∈i,id<m.rw.length)/\∀ n,n=[]\/i=[]->qqQ σ n a w y so:=by
 unfold qiD at b;split at b
 ·cases b;cases z;exact⟨none,rfl,by simp,λ _ _=>⟨rfl,rfl,wb _⟩⟩
 ·split at b<;>cases b;rename_i v t;obtain⟨e,d⟩:=jE v;subst e;have d:_=_:=d;subst d;obtain⟨s,q⟩:=z;exact⟨none,rfl,by simp,λ _ _=>⟨rfl,s,wD (of_decide_eq_true t) q⟩⟩
 ·rename_i id I;split at b<;>try cases b
  rename_i R M;split at b<;>try cases b
  rename_i g;rw[wd,wV]at g;split at b<;>cases b;rename_i v;obtain⟨e,d⟩:=jE v;subst e;have d:R.l=w:=d;subst d;obtain⟨R',A,_,_,H⟩:=z;have f:m.rw[id]?=some R:=by rw[F.rw];exact M
  rw[f]at A;cases A;have k:∀ i∈[id],i<m.rw.length:=by intro i hi;rw[wH.1 hi];exact getElem?_lt f
  rcases qiB F.rows f (H (wj g.1))with⟨j,Q,p,L,o,D,C,K,J,N,B⟩ | ⟨p,o,D,C⟩
  ·refine⟨some j,by simp[p],k,λ n u=>⟨Q,L,o,K,(B g.2).1,J,?_,(B g.2).2⟩⟩;rcases u with rfl | h
   ·simp
   ·cases h
  ·have G:=o g.2;refine⟨none,by simp[p],k,λ n _=>⟨G,?_,C⟩⟩;rw[<- G];exact D
 ·cases b
theorem qL4(so:Option Nat)(R:Row)(l:List (Option Nat × Row)):((so,R)::l).filterMap (·.1)=so.toList++l.filterMap (·.1):=by cases so<;>rfl
def qsg(rw:List qQ)(b:List Nat)(a:List qQ):Prop:=∀(p id:Nat),b[p]?=some id->∃ R R',rw[id]?=some R/\a[p]?=some R'/\R.sh=false/\∃ h:R'.τ = R.τ,h▸R'.l=R.l
theorem qsg.app {rw:List qQ} {a b:List Nat} {x y:List qQ} (h:qsg rw a x) (g:qsg rw b y) (j:a.length=x.length):qsg rw (a++b) (x++y) := λ p id c=>by
 by_cases d:p<a.length
 ·rw [List.getElem?_append_left d] at c;obtain ⟨R,R',i,f,e⟩:=h p id c;exact ⟨R,R',i,by rw [List.getElem?_append_left (by omega)];exact f,e⟩
 ·rw [List.getElem?_append_right (by omega)] at c;obtain ⟨R,R',i,f,e⟩:=g _ id c;exact ⟨R,R',i,by rw [List.getElem?_append_right (by omega),<- j];exact f,e⟩
theorem qBU{rw:List qQ}{a:Ty}{x:TV}{w:List (Val a)}{i:List Nat}(h:qiD rw a x=some (w,i)):i.length<=1/\(i.length=1->qsg rw i [⟨a,w,0,0,false⟩]):=by
 unfold qiD at h;split at h
 ·cases h;exact⟨by simp,λ h=>by cases h⟩
 ·split at h<;>cases h;exact⟨by simp,λ h=>by cases h⟩
 ·rename_i id f;split at h<;>try cases h
  rename_i R k;split at h<;>try cases h
  rename_i c;rw[wd,wV]at c;split at h<;>cases h;rename_i j;obtain⟨e,b⟩:=jE j;subst e;have b:R.l=w:=b;subst b;refine⟨wb _,λ _ p g d=>?_⟩;cases p with
  | zero=>cases d;exact⟨R,_,k,rfl,c.2,rfl,rfl⟩
  | succ p=>cases d
 ·cases h
theorem qlr{rw:List qQ}:∀{l:List RA} {cs:List TV} {v:CV l} {ids:List Nat} {q:Bool},qaQ rw l cs=some (v,ids,q)->ids.length<=nR l/\(ids.length=nR l->qsg rw ids (Qz l v))
 | [],cs,v,ids,q,h=>by
   cases cs with
   | cons c cs=>simp[qaQ]at h
   | nil =>
     simp only[qaQ,wz,wR]at h;obtain⟨_,rfl,_⟩:=h;exact⟨wb _,λ _ p id h=>by cases h⟩
 | .val t::l,cs,v,ids,q,h=>by
   simp only[qaQ]at h;split at h<;>try (cases h;done)
   rename_i w vs ids0 q0 hw hvs;simp only[wz,wR]at h;obtain⟨rfl,rfl,rfl⟩:=h;have:=qlr hvs;exact this
 | .row t::l,cs,v,ids,q,h=>by
   cases cs with
   | nil=>simp[qaQ]at h
   | cons c cs =>
     simp only[qaQ]at h;split at h<;>try (cases h;done)
     rename_i w i vs ids' q0 hw hvs;simp only[wz,wR]at h;obtain⟨rfl,rfl,rfl⟩:=h;obtain⟨a1,a2⟩:=qBU hw;obtain⟨b1,b2⟩:=qlr hvs;refine⟨by rw[wc,nR];omega,λ hl=>?_⟩;rw[wc,nR]at hl;exact(a2 (by omega)).app (b2 (by omega)) (by show i.length=1;omega)
theorem qgE{τ : TS}:∀(sas:List SA) {n:Nat} {o:j7 sas} {ids:List Nat} {q:Bool},qiv τ sas n=some (o,ids,q)->ids.length<=nrB sas/\(ids.length=nrB sas->qsg τ.rw ids (qaR sas o))
 | [],n,o,ids,q,h=>by
   simp only[qiv,wz,wR]at h;obtain⟨_,rfl,_⟩:=h;exact⟨wb _,λ _ p id h=>by cases h⟩
 | .nil::sas,n,o,ids,q,h=>qgE sas (o:=o) h
 | .clo _ _::sas,n,o,ids,q,h=>qgE sas (o:=o) h
 | .val _::sas,n,o,ids,q,h=>qgE sas (o:=o) h
 | .row _::sas,n,o,ids,q,h=>qgE sas (o:=o) h
 | .box l::sas,n,o,ids,q,h=>by
   simp only[qiv]at h;split at h<;>try (cases h;done)
   rename_i cs hcs;split at h<;>try (cases h;done)
   rename_i v i q1 o' ids' q2 hv ho;simp only[wz,wR]at h;obtain⟨rfl,rfl,rfl⟩:=h;obtain⟨a1,a2⟩:=qlr hv;obtain⟨b1,b2⟩:=qgE sas ho;refine⟨by rw[wc,nrB];omega,λ hl=>?_⟩;rw[wc,nrB]at hl;have:=(a2 (by omega)).app (b2 (by omega)) (by rw[j8];omega);show qsg τ.rw (i++ids') (Qz l (toC l (toB l v))++qaR sas o');rw[qiL];exact this
theorem qlu(u:Rel c.n2 m E τ tm σ):∀{l:List RA} {cs:List TV} {ds:List AV} {v:CV l} {a:List Nat} {q:Bool},qaQ τ.rw l cs=some (v,a,q)->OKL m cs ds->(∀ id∈a,id<m.rw.length) /\
  ∀ g,(((∀ x∈ds,∀ r∈rsC x,r∈g)/\a=[])\/(q=true/\g=[]))->∃ qf,FC σ g l v ds qf/\qf.map (·.2)=qdy l v/\qf.filterMap (·.1)=a.filterMap m.r/\(a.length=nR l->qf.map (·.1)=a.map m.r)
 | [],cs,ds,v,a,q,h,n=>by
   cases cs with
   | cons c cs=>simp[qaQ]at h
   | nil =>
     cases n;simp only[qaQ,wz,wR]at h;obtain⟨_,rfl,_⟩:=h;exact⟨by simp,λ g _=>⟨[],.nil,rfl,rfl,λ _=>rfl⟩⟩
 | .val t::l,cs,ds,v,a,q,h,n=>by
   simp only[qaQ]at h;split at h<;>try (cases h;done)
   rename_i w vs J A p e;simp only[wz,wR]at h;obtain⟨rfl,rfl,rfl⟩:=h;obtain⟨F,D⟩:=qlu u e (n.drop t.size);have K:=n.take t.size;rw[<- u.rw]at p;obtain⟨S,P,O⟩:=qfa u.rows t (qh8 p) K;cases O;have f:ds=ds.take t.size++ds.drop t.size:=(kz _ _).symm;refine⟨F,λ g b=>?_⟩;obtain⟨qf,C,B,y⟩:=D g (b.imp (λ h=>⟨λ x j=>h.1 x (wX j),h.2⟩) λ h=>⟨(wd _ _▸h.1:(cs.take t.size).all qkX=true/\A=true).2,h.2⟩);refine⟨qf,?_,B,y⟩;rw[f];refine .val (qoL (yb.2 P)) ?_ C;rcases b with h | h
   ·exact λ x j=>h.1 x (wY j)
   ·have G:=(wd _ _▸h.1:(cs.take t.size).all qkX=true/\A=true).1;intro x j r s;rw[kI.1 (qjE K G) x j]at s;cases s
 | .row t::l,cs,ds,v,a,q,h,n=>by
   cases cs with
   | nil=>simp[qaQ]at h
   | cons c cs =>
     obtain⟨d,ds,rfl,R,I⟩:=n;simp only[qaQ]at h;split at h<;>try (cases h;done)
     rename_i w i vs o A p e;simp only[wz,wR]at h;obtain⟨rfl,rfl,rfl⟩:=h;obtain⟨so,k,N,M⟩:=qFE u p R;obtain⟨F,D⟩:=qlu u e I;refine⟨λ id H=>(ww.1 H).elim (N id) (F id),λ g b=>?_⟩;obtain⟨qf,C,B,y⟩:=D g (b.imp (λ h=>⟨λ x j=>h.1 x (wg _ j),(wU.1 h.2).2⟩) λ h=>h);refine⟨_,.row (M g (b.elim (λ h => .inr (wU.1 h.2).1) λ h => .inl h.2)) C,by rw[wo,B];rfl,?_⟩;refine⟨by rw[qL4,wZ,<- y.1,k],λ z=>?_⟩;have T:=(qBU p).1;have Q:=(qlr e).1;have z:(i++o).length=nR l+1:=z;rw[wc]at z;obtain⟨id,rfl⟩:=xV.1 (show i.length=1 by omega);rw[wo,y.2 (by simp at z;omega)]
     have:so=m.r id:=by
      cases L:m.r id with
      | none=>rw[xB L]at k;cases so with | none=>rfl | some _=>cases k
      | some r=>rw[xk L]at k;cases so with | none=>cases k | some _=>cases k;rfl
     rw[this];rfl
theorem qiw(t:Rel c.n2 m E τ tm σ):∀(sas:List SA) {n:Nat} {o:j7 sas} {a:List Nat} {q:Bool},qiv τ sas n=some (o,a,q)->(∀ i,i<nBx sas->m.b (n+i)=n+i)->(∀ id∈a,id<m.rw.length) /\
  ∀ e,(((∀ ds ∈ σ.bx,∀ x∈ds,∀ r∈rsC x,r∈e)/\a=[])\/(q=true/\e=[]))->∃ qf,FB σ e sas o n qf/\qf.map (·.2)=QA sas o/\qf.filterMap (·.1)=a.filterMap m.r/\(a.length=nrB sas->qf.map (·.1)=a.map m.r)
 | [],n,o,a,q,h,_=>by
   simp only[qiv,wz,wR]at h;obtain⟨_,rfl,_⟩:=h;exact⟨by simp,λ e _=>⟨[],.nil,rfl,rfl,λ _=>rfl⟩⟩
 | .nil::sas,n,o,a,q,h,f=>by
   obtain⟨s,p⟩:=qiw t sas (o:=o) h f;exact⟨s,λ e d=>let⟨qf,k,g⟩:=p e d;⟨qf,.skip1 k,g⟩⟩
 | .clo _ _::sas,n,o,a,q,h,f=>by
   obtain⟨s,p⟩:=qiw t sas (o:=o) h f;exact⟨s,λ e d=>let⟨qf,k,g⟩:=p e d;⟨qf,.skip2 k,g⟩⟩
 | .val _::sas,n,o,a,q,h,f=>by
   obtain⟨s,p⟩:=qiw t sas (o:=o) h f;exact⟨s,λ e d=>let⟨qf,k,g⟩:=p e d;⟨qf,.skip3 k,g⟩⟩
 | .row _::sas,n,o,a,q,h,f=>by
   obtain⟨s,p⟩:=qiw t sas (o:=o) h f;exact⟨s,λ e d=>let⟨qf,k,g⟩:=p e d;⟨qf,.skip4 k,g⟩⟩
 | .box l::sas,n,o,a,q,h,f=>by
   simp only[qiv]at h;split at h<;>try (cases h;done)
   rename_i cs A;split at h<;>try (cases h;done)
   rename_i v i D R u C F G;simp only[wz,wR]at h;obtain⟨rfl,rfl,rfl⟩:=h;obtain⟨ds,B,K⟩:=t.box n cs A;have w:m.b n=n:=f 0 (xN _);rw[w]at B;obtain⟨M,L⟩:=qlu t F K
   obtain⟨s,p⟩:=qiw t sas G λ j J=>by
    have:=f (j+1) (Nat.succ_lt_succ J);rw[show n+1+j=n+(j+1) by omega];exact this
   refine⟨λ id z=>(ww.1 z).elim (M id) (s id),λ e d=>?_⟩;obtain⟨k,Q,P,I⟩:=L e (d.imp (λ h=>⟨h.1 ds (wa B),(wU.1 h.2).1⟩) λ h=>⟨(wd _ _▸h.1:D=true/\C=true).1,h.2⟩);obtain⟨g,O,N,H⟩:=p e (d.imp (λ h=>⟨h.1,(wU.1 h.2).2⟩) λ h=>⟨(wd _ _▸h.1:D=true/\C=true).2,h.2⟩);refine⟨k++g,.box B Q O,?_,by rw[wZ,wZ,I.1,H.1],λ y=>?_⟩
   ·rw[wS,P,N];show _=qdy l (toC l (toB l v))++_;rw[qiL]
   ·have T:=(qlr F).1;have S:=(qgE sas G).1;have y:(i++u).length=nR l+nrB sas:=y;rw[wc]at y;rw[wS,wS,I.2 (by omega),H.2 (by omega)]
def qPc(m:Mp)(σ : St)(b:List Nat)(rws:List qQ)(a:List (Option Nat × Row)):Prop :=
 ∀(p id:Nat),b[p]?=some id->∃(R R':qQ) (Q:Row),m.rw[id]?=some R/\rws[p]?=some R'/\a[p]?=some (m.r id,Q)/\(∃ h:R'.τ = R.τ,h▸R'.l=R.l)/\R.sh=false
theorem qPF(i:Rel c.n2 m E τ tm σ){sas:List SA}{o:j7 sas}{a:List Nat}{q:Bool}(h:qiv τ sas 0=some (o,a,q)){f:List (Option Nat × Row)}(j:a.length=nrB sas->f.map (·.1)=a.map m.r):qPc m σ (qHv (nrB sas) a) (qaR sas o) f:=by
 unfold qHv;cases k:Nat.beq a.length (nrB sas)with
 | false=>intro p id b;cases b
 | true =>
   have g:=wj k;intro p id b;have b:a[p]?=some id:=b;obtain⟨R,R',t,s,n,l⟩:=(qgE sas h).2 g p id b;have e:=congrArg (·[p]?) (j g);simp only[List.getElem?_map,b,kN]at e;cases d:f[p]? with
   | none=>rw[d]at e;cases e
   | some x =>
     rw[d]at e;obtain⟨so,Q⟩:=x;cases e;exact⟨R,R',Q,by rw[i.rw];exact t,s,rfl,l,n⟩
theorem qeF(s:Rel c.n2 m E τ tm σ){iB:List Nat}{rws:List qQ}:∀{S:List RE} {l:List ResultVar} {v:RV S} {u P:List Nat} {q:Bool},qcj c E τ iB S l=some (v,u,P,q)->(∀ id∈u,id<m.rw.length)/\(∀ b∈P,b<m.nb) /\
  ∃ ys,jW c.pc.cfg tm σ l=some ys/\∀(t:List Nat) (B:List (Option Nat × Row)) (n d:Nat),qPc m σ iB rws B->rws.length<=d->(((∀ y∈ys,∀ r∈rsA y,r∈t)/\(∀ b∈P,∀ ds,σ.bx[m.b b]?=some ds->∀ x∈ds,∀ r∈rsC x,r∈t)/\u=[])\/(q=true/\t=[])) ->
   ∃ f z qf,FR σ t rws B f n d z ys qf (P.map m.b)/\qf.map (·.2)=jY f z/\qf.filterMap (·.1)=u.filterMap m.r/\∀{γ : Type} (k:(f:List RE)->RV f->Option γ),qbP rws S n d v k=k f z
 | [],l,v,u,P,q,h=>by
   cases l with
   | cons a l=>simp[qcj]at h
   | nil =>
     simp only[qcj,wz,wR]at h;obtain⟨_,rfl,rfl,_⟩:=h;exact⟨by simp,by simp,[],rfl,λ t B n d _ _ _=>⟨[],(),[],.nil,rfl,rfl,λ _=>rfl⟩⟩
 | .one (.val a)::S,l,v,u,P,q,h=>by
   cases l with
   | nil=>simp[qcj]at h
   | cons rv l =>
     simp only[qcj]at h;split at h<;>try cases h
     rename_i x C;split at h<;>cases h;rename_i w vs q' V o;obtain⟨y,M,g2⟩:=qg8 s C;obtain⟨K,kb,ys,J,I⟩:=qeF s (rws:=rws) o;rw[<- s.rw]at V;obtain⟨p1,_⟩:=qk4 s.rows V g2;refine⟨K,kb,y::ys,by simp only[jW,M,J],λ t B n d F O g=>?_⟩;obtain⟨f,z,qf,H,G,U,T⟩:=I t B n d F O (g.imp (λ h=>⟨λ y L=>h.1 y (wg _ L),h.2⟩) λ h=>⟨(wd _ _▸h.1:qo7 x=true/\q'=true).2,h.2⟩);refine⟨.one (.val a)::f,(w,z),qf,.val (qsR p1) ?_ H,G,U,λ k=>T _⟩;rcases g with h | h
     ·exact h.1 y (wh ..)
     ·have ad:=(wd _ _▸h.1:qo7 x=true/\q'=true).1;rw[qxk ad g2];intro r s;cases s
 | .one (.row a)::S,l,v,u,P,q,h=>by
   cases l with
   | nil=>simp[qcj]at h
   | cons rv l =>
     simp only[qcj]at h;split at h<;>try cases h
     rename_i x C;split at h<;>cases h;rename_i w i vs N V o;obtain⟨y,M,g2⟩:=qg8 s C;obtain⟨K,kb,ys,J,I⟩:=qeF s (rws:=rws) o;obtain⟨so,s1,s2,W⟩:=qFE s V g2;refine⟨λ id D=>(ww.1 D).elim (s2 id) (K id),kb,y::ys,by simp only[jW,M,J],λ t B n d F O g=>?_⟩;obtain⟨f,z,qf,H,G,U,T⟩:=I t B n (d+1) F (by omega) (g.imp (λ h=>⟨λ y L=>h.1 y (wg _ L),h.2.1,(wU.1 h.2.2).2⟩) λ h=>h);refine⟨.one (.row a)::f,(w,z),_,.row (W t (g.elim (λ h => .inr (wU.1 h.2.2).1) λ h => .inl h.2)) H,by rw[wo,G];rfl,?_,λ k=>T _⟩;rw[qL4,wZ,<- U,s1]
 | .agg p::S,l,v,u,P,q,h=>by
   cases l with
   | nil=>simp[qcj]at h
   | cons rv l =>
     simp only[qcj]at h;split at h<;>try (cases h;done)
     rename_i cs C;split at h<;>try (cases h;done)
     rename_i w i X vs N aa q2 V o;simp only[wz,wR]at h;obtain⟨rfl,rfl,rfl,rfl⟩:=h;obtain⟨y,M,ds,rfl,g2⟩:=qg8 s C;obtain⟨c0,c1⟩:=qlu s V g2;obtain⟨K,kb,ys,J,I⟩:=qeF s (rws:=rws) o;refine⟨λ id D=>(ww.1 D).elim (c0 id) (K id),kb,.agg ds::ys,by simp only[jW,M,J],λ t B n d F O g=>?_⟩;obtain⟨H,a1,a2,a3⟩:=c1 t (g.imp (λ h=>⟨λ x C r ac=>h.1 (.agg ds) (wh ..) r (ka.2 ⟨x,C,ac⟩),(wU.1 h.2.2).1⟩) λ h=>⟨(wd _ _▸h.1:X=true/\q2=true).1,h.2⟩);obtain⟨f,z,G,b1,b2,b3,b4⟩:=I t B n (d+nR p) F (by omega) (g.imp (λ h=>⟨λ y L=>h.1 y (wg _ L),h.2.1,(wU.1 h.2.2).2⟩) λ h=>⟨(wd _ _▸h.1:X=true/\q2=true).2,h.2⟩);exact⟨.agg p::f,(w,z),H++G,.agg a1 b1,by rw[wS,a2,b2];rfl,by rw[wZ,wZ,a3.1,b3],λ k=>b4 _⟩
 | .opt p::S,l,v,u,P,q,h=>by
   cases l with
   | nil=>simp[qcj]at h
   | cons rv l =>
     simp only[qcj]at h;split at h<;>try (cases h;done)
     ·rename_i C;split at h<;>cases h;rename_i o;obtain⟨y,M,_,rfl⟩:=qg8 s C;obtain⟨K,kb,ys,J,I⟩:=qeF s (rws:=rws) o;refine⟨K,kb,.v (.pointer none)::ys,by simp only[jW,M,J],λ t B n d F O g=>?_⟩;obtain⟨f,z,qf,H,G,U,T⟩:=I t B n d F O (g.imp (λ h=>⟨λ y L=>h.1 y (wg _ L),h.2⟩) λ h=>h);exact⟨.nilp::f,z,qf,.nilp H,G,U,λ k=>T _⟩
     ·rename_i b C;split at h<;>try (cases h;done)
      rename_i cs ag;split at h<;>try (cases h;done)
      rename_i w i X vs N aa q2 V o;simp only[wz,wR]at h;obtain⟨rfl,rfl,rfl,rfl⟩:=h;obtain⟨y,M,ah,rfl⟩:=qg8 s C;obtain⟨ds,d1,d2⟩:=s.box b cs ag;obtain⟨c0,c1⟩:=qlu s V d2;obtain⟨K,kb,ys,J,I⟩:=qeF s (rws:=rws) o;refine⟨λ id D=>(ww.1 D).elim (c0 id) (K id),λ b' Y=>(wx.1 Y).elim (λ h=>h▸ah) (kb b'),.ptr (m.b b) 0::ys,by simp only[jW,M,J],λ t B n d F O g=>?_⟩;obtain⟨H,a1,a2,a3⟩:=c1 t (g.imp (λ h=>⟨h.2.1 b (wh ..) ds d1,(wU.1 h.2.2).1⟩) λ h=>⟨(wd _ _▸h.1:X=true/\q2=true).1,h.2⟩);obtain⟨f,z,G,b1,b2,b3,b4⟩:=I t B (n+1) (d+nR p) F (by omega) (g.imp (λ h=>⟨λ y L=>h.1 y (wg _ L),λ b' Y=>h.2.1 b' (wg _ Y),(wU.1 h.2.2).2⟩) λ h=>⟨(wd _ _▸h.1:X=true/\q2=true).2,h.2⟩);refine⟨.box n p::f,(toB p w,z),H++G,.box d1 a1 b1,?_,by rw[wZ,wZ,a3.1,b3],λ k=>b4 _⟩;rw[wS,a2,b2];show _=qdy p (toC p (toB p w))++_;rw[qiL]
 | .elt p::S,l,v,u,P,q,h=>by
   cases l with
   | nil=>simp[qcj]at h
   | cons rv l =>
     simp only[qcj]at h;split at h<;>try (cases h;done)
     ·rename_i C;split at h<;>cases h;rename_i o;obtain⟨y,M,_,rfl⟩:=qg8 s C;obtain⟨K,kb,ys,J,I⟩:=qeF s (rws:=rws) o;refine⟨K,kb,.v (.pointer none)::ys,by simp only[jW,M,J],λ t B n d F O g=>?_⟩;obtain⟨f,z,qf,H,G,U,T⟩:=I t B n d F O (g.imp (λ h=>⟨λ y L=>h.1 y (wg _ L),h.2⟩) λ h=>h);exact⟨.nilp::f,z,qf,.nilp H,G,U,λ k=>T _⟩
     ·rename_i id aj sv i cs C;split at h<;>try (cases h;done)
      rename_i R am vs N aa q' hR D o;split at h<;>try (cases h;done)
      rename_i A;cases h;rw[wd,wd]at A;have e1:=wj A.1;have e2:=wj A.2.1;have e3:=wj A.2.2;subst e3;obtain⟨y,M,R',z1,z2,z3,z4,z5⟩:=qg8 s C;have Z:m.rw[id]?=some R:=by rw[s.rw];exact hR
      cases Z.symm.trans z1;obtain⟨K,kb,ys,J,I⟩:=qeF s (rws:=rws) o;refine⟨K,kb,y::ys,by simp only[jW,M,J],λ t B n d F O g=>?_⟩;obtain⟨f,z,qf,H,G,U,T⟩:=I t B n d F O (g.imp (λ h=>⟨λ y L=>h.1 y (wg _ L),h.2⟩) λ h=>h);obtain⟨R1,R2,Q1,w1,w2,w3,⟨w4,w5⟩,w6⟩:=F p id D;cases Z.symm.trans w1;have hg:=s.rows id R Z;rcases qEO (z5 e1) e2 with⟨r,j,ds,s1,s2,W,s4,s5,s6⟩ | ⟨ds,s1,s2,W,s4⟩
      ·rw[s1]at hg w3;obtain⟨Q,X,q2,q3,q4,q5,q6,q7⟩:=hg;obtain⟨t2,l2,ai,ak,al⟩:=R2;simp only at w4;subst w4;have w5:l2=R.l:=w5;have af:j<l2.length:=by rw[w5];exact s4
       have ae:qb l2 i=some l2[j]:=by rw[W];unfold qb;rw[if_pos (Int.natCast_nonneg j),wF,List.getElem?_eq_getElem af]
       refine⟨.eltI (d-p) R.τ :: f,((i,l2[j]),z),qf,?_,G,U,λ k=>?_⟩
       ·rw[s2,W,<- q3];exact .elt w3 X (by have:=getElem?_lt w2;omega) (q7 w6).2 (by rw[qY q5];exact s4) H
       ·show(match rws[p]? with
          | some R=>qa (qb R.l i) λ e=>qbP rws S n d vs λ r' z=>k (.eltI (d-p) R.τ :: r') ((i,e),z)
          | none=>none)=_
        rw[w2];simp only[ae,qa];exact T _
      ·have ab:R.sh=false:=w6;rw[s1]at hg;have:R.l=[]:=hg ab;rw[this]at W;exact absurd W (xQ _)
theorem FR.len{e:List Nat}{rws:List qQ}{c:List (Option Nat × Row)}{b:List RE}{n d:Nat}{v:RV b}{ys:List AV}{qf:List (Option Nat × Row)}{kb:List Nat}(h:FR σ e rws c b n d v ys qf kb):∀ L,ys.length=(jK b L v).length:=by
 induction h with
 | nil=>intro L;rfl
 | val h f t a=>intro L;rw[jK,wu,wu,a L]
 | row h t a=>intro L;rw[jK,wu,wu,a (L+1)]
 | agg h t a=>intro L;rw[jK,wu,wu,a]
 | nilp t a=>intro L;rw[jK,wu,wu,a L]
 | box g h t a=>intro L;rw[jK,wu,wu,a]
 | elt m l k j i t a=>intro L;rw[jK,wu,wu,a L]
theorem qu3{g:List Nat}{a:Ty}{v:List (Val a)}{y:AV}{so:Option Nat}(h:qqQ σ g a v y so):qGE σ g so ⟨a.size,v.map (qi a),0,0,false⟩:=by
 refine⟨rfl,rfl,waD a,?_,?_,?_⟩
 ·intro e d;obtain⟨w,_,rfl⟩:=wy.1 d;exact jA a w
 ·intro e d;obtain⟨w,_,rfl⟩:=wy.1 d;exact zt a w
 ·cases so with
  | none=>show v.map (qi a)=[];rw[h.1];rfl
  | some j =>
    obtain⟨Q,_,p,o,n,f,m⟩:=h;refine⟨Q,p,o,n,by show Q.c.length=(v.map (qi a)).length;rw[qY f,wA],λ i e r q b=>?_,m⟩;obtain⟨w,l,k⟩:=J8 f q;have b:(v.map (qi a))[i]?=some r:=b;rw[List.getElem?_map,l]at b;cases b;exact qoL k
def qrI(σ : St)(a:List Nat)(qf:List (Option Nat × Row)):Prop:=∀ p∈qf,qGE σ a p.1 p.2
theorem FC.newOk{c:List Nat}{l:List RA}{v:CV l}{ds:List AV}{qf:List (Option Nat × Row)}(h:FC σ c l v ds qf):qrI σ c qf:=by
 induction h with
 | nil=>intro p h;cases h
 | val h d t a=>exact a
 | row h t a =>
   intro p b;rcases wx.1 b with rfl | b
   ·exact qu3 h
   ·exact a p b
theorem FR.newOk{e:List Nat}{rws:List qQ}{f:List (Option Nat × Row)}{c:List RE}{n d:Nat}{v:RV c}{ys:List AV}{qf:List (Option Nat × Row)}{kb:List Nat}(h:FR σ e rws f c n d v ys qf kb):qrI σ e qf:=by
 induction h with
 | nil=>intro p h;cases h
 | val h g t a=>exact a
 | row h t a =>
   intro p b;rcases wx.1 b with rfl | b
   ·exact qu3 h
   ·exact a p b
 | agg h t a=>intro p b;exact(ww.1 b).elim (h.newOk p) (a p)
 | nilp t a=>exact a
 | box i h t a=>intro p b;exact(ww.1 b).elim (h.newOk p) (a p)
 | elt o m l k j t a=>exact a
theorem FB.newOk{a:List Nat}{sas:List SA}{o:j7 sas}{n:Nat}{qf:List (Option Nat × Row)}(h:FB σ a sas o n qf):qrI σ a qf:=by
 induction h with
 | nil=>intro p h;cases h
 | box d h t b=>intro p c;exact(ww.1 c).elim (h.newOk p) (b p)
 | _=>assumption
theorem qER{c:Gh}{A:World}{i:Nat->Nat->Option Value}{K kb:List Nat}(J:Inv c σ A){nb L p:Nat}{all:List (Option Nat × Row)}{a:Ty}{v:List (Val a)}{y:AV}{so:Option Nat}(h:qqQ σ K a v y so)(d:all[p]?=some (so,⟨a.size,v.map (qi a),0,0,false⟩)){u:Value}(x:Rep c y u):Rep (yQ c i nb kb L all) (.rs (L+p) 0 v.length 0 false) u:=by
 have F:p<all.length:=getElem?_lt d;have g:¬ L+p<L:=by omega
 have e:L+p-L=p:=by omega
 cases so with
 | some j =>
   obtain⟨Q,rfl,r,q,D,C,B⟩:=h;have H:=J.row j Q r;cases x with
   | rs _ _ _ _ _ f cap P O w z m =>
     have m:=m (H.ver (by rw[D];exact we _)).symm;have l:=qY C;rw[l]at w;rw[l];show Rep (yQ c i nb kb L all) (.rs (L+p) 0 v.length 0 false) (.slice f v.length cap);refine .rs _ _ _ _ _ f cap (by show L+p<L+all.length;omega) (we _) w (λ h=>by cases h) λ _=>?_
     have N:(yQ c i nb kb L all).cur (L+p)=c.cur j:=by
      show(if L+p<L then _ else match all[L+p-L]? with | some (some j,_)=>c.cur j | _=>0)=_;rw[if_neg g,e,d]
     have es:(yQ c i nb kb L all).sz (L+p)=c.sz j:=by
      show(if L+p<L then _ else match all[L+p-L]? with | some (some j,_)=>c.sz j | _=>0)=_;rw[if_neg g,e,d]
     have M:(yQ c i nb kb L all).k (L+p)=c.k j:=by
      show(if L+p<L then _ else match all[L+p-L]? with | some p=>p.2.k | none=>1)=_;rw[if_neg g,e,d,<- H.k,q]
     rw[N,es,M];rw[H.off B.2]at m;exact m
 | none =>
   obtain⟨rfl,r,q⟩:=h
   have s:∃ f,u = .slice f 0 0:=by
    rcases jh r with⟨rfl,_⟩ | ⟨es,n,rfl,G⟩
    ·exact⟨none,zo x⟩
    ·have:es=[]:=wk (qY G);subst this;cases x with
     | sl _ _ _ f E cap b o us t w z =>
       have I:1<n+1:=q;have:=z I;refine⟨f,?_⟩;have t:E=0:=t;rw[this,t]
   obtain⟨f,rfl⟩:=s;refine .rs _ _ _ _ _ f 0 (by show L+p<L+all.length;omega) (we _) (wb _) (λ h=>by cases h) λ _=>⟨.inl rfl,by rw[wP,kQ];exact we _⟩
theorem qFZ{b:Gh}{n:World}{f:Nat->Nat->Option Value}{m kb:List Nat}(y:Inv b σ n)(s:Le b { b with mem:=f })(j:∀ r∈m,∀ R,σ.rw[r]?=some R->Qx { b with mem:=f } r R){nb L:Nat}{all:List (Option Nat × Row)}{a:Ty}{v:Val a}{ds:List AV}(h:QK (ds.map (zk σ.rw)) (qi a v))(t:∀ x∈ds,∀ r∈rsC x,r∈m){us:List Value}(l:RepL b ds us):RepL (yQ b f nb kb L all) (qi a v) us:=by
 obtain⟨p,o⟩:=qaV (zt a v);refine qIQ (Γ := { b with mem:=f }) (λ _ _ _ h=>h) (h.rep ?_) p o;refine⟨by rw[wA];exact l.len,λ i x u e g=>?_⟩;rw[List.getElem?_map]at e;cases c:ds[i]? with
 | none=>rw[c]at e;cases e
 | some k =>
   rw[c]at e;cases e;exact qlh y s (λ r q R w=>j r (t k (wa c) r q) R w) (l.rep i k u c g)
theorem RepL.split{Γ : Gh}{a b:List AV}{us:List Value}(h:RepL Γ (a++b) us):RepL Γ a (us.take a.length)/\RepL Γ b (us.drop a.length):=by
 have d:=h.take a.length;have c:=h.drop a.length;rw[wao]at d;rw[List.drop_left]at c;exact⟨d,c⟩
theorem qmr{b:List Nat}{l:List RA}{v:CV l}{ds:List AV}{qf:List (Option Nat × Row)}(h:FC σ b l v ds qf):qf.length=nR l:=by
 induction h with
 | nil=>rfl
 | val h c t a=>exact a
 | row h t a=>exact congrArg (· + 1) a
theorem FC.rep{b:Gh}{p:World}{f:Nat->Nat->Option Value}{o kb:List Nat}(n:Inv b σ p)(q:Le b { b with mem:=f })(j:∀ r∈o,∀ R,σ.rw[r]?=some R->Qx { b with mem:=f } r R)(nb L:Nat)(all:List (Option Nat × Row)){l:List RA}{v:CV l}{ds:List AV}{qf:List (Option Nat × Row)}(h:FC σ o l v ds qf) :
  ∀(pre post:List (Option Nat × Row)),all=pre++(qf++post)->∀ us,RepL b ds us->RepL (yQ b f nb kb L all) (qaf l (L+pre.length) v) us:=by
 induction h with
 | nil=>intro pre post _ us c;rw[c.nil_inv];exact .nil
 | @val a l v vs ds w qf h s t i =>
   intro pre post e us c;obtain⟨m,k⟩:=c.split;have:=(qFZ n q j (nb:=nb) (kb:=kb) (L:=L) (all:=all) h s m).append (i pre post e _ k);rw[kz]at this;exact this
 | @row a l v vs y ds qf so h t i =>
   intro pre post e us c;obtain⟨u,r,rfl,m,k⟩:=c.uncons;have d:all[pre.length]?=some (so,⟨a.size,v.map (qi a),0,0,false⟩):=by rw[e,List.getElem?_append_right (wb _),kM];rfl
   refine .cons (qER n h d m) ?_;have:=i (pre++[(so,⟨a.size,v.map (qi a),0,0,false⟩)]) post (by rw[e,wi];rfl) r k;rw[wc]at this;exact this
theorem FR.rep{c:Gh}{w1:World}{D:Nat->Nat->Option Value}{X:List Nat}(P:Inv c σ w1)(W:Le c { c with mem:=D })(N:∀ r∈X,∀ R,σ.rw[r]?=some R->Qx { c with mem:=D } r R)(nb L:Nat)(C:List Nat)(all:List (Option Nat × Row))(w:qrI σ X all){rws:List qQ}{Y:List (Option Nat × Row)}(U:∀(p:Nat) (x:Option Nat × Row),Y[p]?=some x->all[p]?=some x){F:List RE}{n d:Nat}{v:RV F}{ys:List AV}{qf:List (Option Nat × Row)}{kb:List Nat}(h:FR σ X rws Y F n d v ys qf kb) :
  ∀(pre:List (Option Nat × Row)),all=pre++qf->pre.length=d->nb<=n->(∀(j b:Nat),kb[j]?=some b->C[n-nb+j]?=some b)->∀ us,RepL c ys us->RepL (yQ c D nb C L all) (jK F (L+pre.length) v) us:=by
 induction h with
 | nil=>intro pre _ _ _ _ us f;rw[f.nil_inv];exact .nil
 | @val a F v vs y ys qf n d kb h hf t s =>
   intro pre g m E i us f;obtain⟨u,r,rfl,B,z⟩:=f.uncons;obtain⟨p1,p2⟩:=qfI (qhK a v);exact .cons (qpc (Γ := { c with mem:=D }) (λ _ _ _ h=>h) (h _ _ (qyj P W (λ q hq R hR=>N q (hf q hq) R hR) B)) p1 p2) (s pre g m E i r z)
 | @row a F v vs y ys qf so n d kb h t s =>
   intro pre g m E i us f;obtain⟨u,r,rfl,B,z⟩:=f.uncons;have w:all[pre.length]?=some (so,⟨a.size,v.map (qi a),0,0,false⟩):=by rw[g,List.getElem?_append_right (wb _),kM];rfl
   refine .cons (qER P h w B) ?_;have:=s (pre++[(so,⟨a.size,v.map (qi a),0,0,false⟩)]) (by rw[g,wi];rfl) (by rw[wc,m];rfl) E i r z;rw[wc]at this;exact this
 | @agg l F v vs ds ys T Z n d kb h t s =>
   intro pre g m E i us f;obtain⟨u,r,rfl,B,z⟩:=f.uncons;refine .cons ?_ ?_
   ·cases B with
    | agg cs us V J hr =>
      have:=h.rep P W N nb L (kb:=C) all pre Z g us ⟨V,hr⟩;exact .agg _ us this.len J this.rep
   ·have:=s (pre++T) (by rw[g,wi]) (by rw[wc,m,qmr h]) E i r z;rw[wc,qmr h,<- wI]at this;exact this
 | @nilp F vs ys qf n d kb t s =>
   intro pre g m E i us f;obtain⟨u,r,rfl,B,z⟩:=f.uncons;exact .cons (qpc (λ b o u h=>W.mem b o u h) B rfl rfl) (s pre g m E i r z)
 | @box l F v vs ds ys T Z n d b kb hb h t s =>
   intro pre g m E i us f;obtain⟨u,r,rfl,B,z⟩:=f.uncons;have I:=i 0 b rfl;rw[wP]at I;refine .cons ?_ ?_
   ·cases B with
    | ptr _ _ aa =>
      have e:(yQ c D nb C L all).β n=c.β b:=by
       show c.β (qiS nb C n)=_;unfold qiS;rw[if_neg (by omega),List.getD_eq_getElem?_getD,I];rfl
      have:Rep (yQ c D nb C L all) (.ptr n 0) (.pointer (some ⟨(yQ c D nb C L all).β n,0,none⟩)) := .ptr n 0 (by show n<nb+C.length;have:=getElem?_lt I;omega);rw[e]at this;exact this
   ·have:=s (pre++T) (by rw[g,wi]) (by rw[wc,m,qmr h]) (by omega) (λ j b' hj=>by have:=i (j+1) b' hj;rw[<- this];congr 1;omega) r z;rw[wc,qmr h,<- wI]at this;exact this
 | @elt F a e vs ys qf n d p S j Q R kb J h2 h3 h4 h5 t s =>
   intro pre g m E i us f;obtain⟨u,r,rfl,B,z⟩:=f.uncons;refine .cons ?_ (s pre g m E i r z);have O:=U p _ J;have hp:=getElem?_lt O;have M:¬ L+p<L:=by omega
   have G:L+p-L=p:=by omega
   show Rep (yQ c D nb C L all) (.rpt (L+pre.length-(d-p)) (((j:Nat):Int)).toNat 0 0) u;rw[m,show L+d-(d-p)=L+p by omega,wF];have H:=P.row S Q h2;obtain⟨Q',q1,q2,_⟩:=(w _ (wa O)).src;cases h2.symm.trans q1;cases B with
   | rpt _ _ _ _ A hr hv hl =>
     have hA:=hl (H.ver (H.live (List.getElem?_eq_getElem h5))).symm;refine .rpt _ _ _ _ A (by show L+p<L+all.length;omega) (we _) λ _=>?_
     have ec:(yQ c D nb C L all).cur (L+p)=c.cur S:=by
      show(if L+p<L then _ else match all[L+p-L]? with | some (some j,_)=>c.cur j | _=>0)=_;rw[if_neg M,G,O]
     have ek:(yQ c D nb C L all).k (L+p)=c.k S:=by
      show(if L+p<L then _ else match all[L+p-L]? with | some p=>p.2.k | none=>1)=_;rw[if_neg M,G,O,<- H.k,q2]
     rw[ec,ek,hA,H.off h4];rfl
theorem FR.boxes{e:Gh}{w:World}{m:Nat->Nat->Option Value}{s:List Nat}(D:Inv e σ w)(A:Le e { e with mem:=m })(p:∀ r∈s,∀ R,σ.rw[r]?=some R->Qx { e with mem:=m } r R)(nb L:Nat)(u:List Nat)(all:List (Option Nat × Row)){rws:List qQ}{x:List (Option Nat × Row)}{i:List RE}{n d:Nat}{v:RV i}{ys:List AV}{qf:List (Option Nat × Row)}{kb:List Nat}(h:FR σ s rws x i n d v ys qf kb) :
  ∀(pre:List (Option Nat × Row)),all=pre++qf->∀(j:Nat) (cs:List AV),(Qe i (L+pre.length) v)[j]?=some cs->∃ b ds,kb[j]?=some b /\ σ.bx[b]?=some ds/\∀ us,RepL e ds us->RepL (yQ e m nb u L all) cs us:=by
 induction h with
 | nil=>intro pre _ j cs c;cases c
 | val h E t g=>exact λ pre f j cs c=>g pre f j cs c
 | @row a i v vs y ys qf so n d kb h t g =>
   intro pre f j cs c;exact g (pre++[(so,⟨a.size,v.map (qi a),0,0,false⟩)]) (by rw[f,wi];rfl) j cs (by rw[wc];exact c)
 | @agg l i v vs ds ys k q n d kb h t g =>
   intro pre f j cs c;exact g (pre++k) (by rw[f,wi]) j cs (by rw[wc,qmr h,<- wI];exact c)
 | nilp t g=>exact λ pre f j cs c=>g pre f j cs c
 | @box l i v vs ds ys k q n d b kb B h t g =>
   intro pre f j cs c;have c:(qaf l (L+pre.length) (toC l (toB l v))::Qe i (L+pre.length+nR l) vs)[j]?=some cs:=c;cases j with
   | zero =>
     cases c;refine⟨b,ds,rfl,B,λ us z=>?_⟩;rw[qiL];exact h.rep D A p nb L (kb:=u) all pre q f us z
   | succ j =>
     exact g (pre++k) (by rw[f,wi]) j cs (by rw[wc,qmr h,<- wI];exact c)
 | elt C I H G F t g=>exact λ pre f j cs c=>g pre f j cs c
theorem FR.kept{i:List Nat}{rws:List qQ}{f:List (Option Nat × Row)}{c:List RE}{n d:Nat}{v:RV c}{ys:List AV}{qf:List (Option Nat × Row)}{kb:List Nat}(h:FR σ i rws f c n d v ys qf kb):(∀ b∈kb,b < σ.bx.length)/\∀ L,(Qe c L v).length=kb.length:=by
 induction h with
 | nil=>exact⟨by simp,λ _=>rfl⟩
 | val h j t a=>exact a
 | row h t a=>exact⟨a.1,λ L=>a.2 (L+1)⟩
 | agg h t a=>exact⟨a.1,λ L=>a.2 _⟩
 | nilp t a=>exact a
 | box g h t a=>exact⟨λ b' e=>(wx.1 e).elim (λ h=>h▸getElem?_lt g) (a.1 b'),λ L=>congrArg (· + 1) (a.2 _)⟩
 | elt p o m l k t a=>exact a
theorem FB.rep{b:Gh}{q:World}{e:Nat->Nat->Option Value}{p kb:List Nat}(x:Inv b σ q)(u:Le b { b with mem:=e })(g:∀ r∈p,∀ R,σ.rw[r]?=some R->Qx { b with mem:=e } r R)(nb L:Nat)(all:List (Option Nat × Row)){sas:List SA}{o:j7 sas}{n:Nat}{qf:List (Option Nat × Row)}(h:FB σ p sas o n qf) :
  ∀(pre post:List (Option Nat × Row)),all=pre++(qf++post)->∀(i:Nat) (cs:List AV),(Qv sas (L+pre.length) o)[i]?=some cs->∃ ds,σ.bx[n+i]?=some ds/\∀ us,RepL b ds us->RepL (yQ b e nb kb L all) cs us:=by
 induction h with
 | nil=>intro pre post _ i cs a;cases a
 | @box r l v o n ds m k w h t d =>
   intro pre post c i cs a;have c:all=pre++(m++(k++post)):=by rw[c,wi]
   have a:(qaf l (L+pre.length) (toC l (toB l v))::Qv r (L+pre.length+nR l) o)[i]?=some cs:=a;cases i with
   | zero =>
     cases a;refine⟨ds,w,λ us s=>?_⟩;rw[qiL];exact h.rep x u g nb L all pre (k++post) c us s
   | succ i =>
     obtain⟨j,z,y⟩:=d (pre++m) post (by rw[c,wi]) i cs (by rw[wc,qmr h,<- wI];exact a);exact⟨j,by rw[<- z];congr 1;omega,y⟩
 | skip1 t d=>exact λ pre post c i cs a=>d pre post c i cs a
 | skip2 t d=>exact λ pre post c i cs a=>d pre post c i cs a
 | skip3 t d=>exact λ pre post c i cs a=>d pre post c i cs a
 | skip4 t d=>exact λ pre post c i cs a=>d pre post c i cs a
theorem qIC{c b:Gh}{ys d:List AV}{u:Value}(f:ys.length=d.length)(h:∀ us,RepL c ys us->RepL b d us)(a:Rep c (zZ ys) u):Rep b (zZ d) u:=by
 match ys,d,f with
 | [],[],_ =>
   cases a with
   | tup cs us e a=>exact .tup [] us e (h us ⟨e,a⟩).rep
 | [y],[z],_ =>
   obtain⟨l,r,g,i,_⟩:=(h [u] (.cons a .nil)).uncons;cases g;exact i
 | y::k::ys,z::j::d,f =>
   cases a with
   | tup cs us e a=>exact .tup _ us (by rw[e];exact f) (h us ⟨e,a⟩).rep
theorem qJk{e:Type}{f:e->Option Nat}:∀{l:List e},(l.filterMap f).Nodup->∀(a b j:Nat) (x y:e),l[a]?=some x->l[b]?=some y->f x=some j->f y=some j->a=b
 | [],_,a,b,j,x,y,h,_,_,_=>by cases h
 | z::l,d,a,b,j,x,y,o,n,m,k=>by
   have r:(l.filterMap f).Nodup:=by
    cases g:f z with
    | none=>rw[xB g]at d;exact d
    | some q=>rw[xk g]at d;exact(kW.1 d).2
   have c:∀{i:Nat} {w:e},l[i]?=some w->f z=some j->f w=some j->False := λ s g p=>by
    rw[xk g]at d;exact(kW.1 d).1 (xa.2 ⟨_,wa s,p⟩)
   cases a with
   | zero =>
     cases b with
     | zero=>rfl
     | succ b=>cases o;exact(c n m k).elim
   | succ a =>
     cases b with
     | zero=>cases n;exact(c o k m).elim
     | succ b=>rw[qJk r a b j x y o n m k]
theorem qG1{P:Program}{c:TC}(hC:yv P c.pc.cfg){f:FuncId}{fn:Func}{cd:Code}(hf:P.funcs[f]?=some fn)(K:qcU fn=true)(J:fn.body=some cd)(aF:c.nt=fn.ntmps)(g:qn4)(I:c.np=qB7 g.args)(aq:g.args.length<=fn.ntmps)
  (h:∀ a v,g.fn a=some v->∃ n k,qpa c (qx6 c g.args g.res fn.results.toList) n k [.code cd] (qhe 0 (qlA g.args 0 0 a)) ⟨sBx g.args 0 a,sRw g.args a⟩=some v):qZ P f (sgP g):=by
 unfold qcU at K;rw[J]at K;simp only[wd,wV]at K;obtain⟨aN,aa⟩:=K;refine⟨⟨fn,hf,by rw[J];rfl,aa⟩,λ Γ σ w d C r G L T=>?_⟩;unfold sgP at T;split at T<;>try cases T
 rename_i a ha;split at T<;>try cases T
 rename_i v hv;obtain⟨N,k,ak⟩:=h a v hv;have h0:qj9 ⟨λ i=>i,0,λ _=>none,λ _=>0,λ _=>[],[]⟩ σ 0 0:=⟨λ _=>rfl,rfl,λ id R h=>(by cases h),λ id r h=>absurd h (wL _),λ id aX r h=>absurd h (wL _),λ id R h=>(by cases h)⟩
 obtain⟨m,az,aW,s1,V,s3,s4,s5,s6,s7,s8⟩:=qg0 g.args ha h0;have aZ:d.length<=fn.ntmps:=wD s7 aq;have s5:0+(sBx g.args 0 a).length=az:=s5;have B : σ.bx.length=nBx g.args:=by rw[<- s3,<- s5,qk9];omega
 have I:c.np=nBx g.args:=I
 have am:Rel c.n2 m (qhe 0 (qlA g.args 0 0 a)) ⟨sBx g.args 0 a,sRw g.args a⟩ (d++List.replicate (fn.ntmps-d.length) .dead) { σ with wr:=[],wrr:=[] }:=by
  refine⟨by show _=c.nt;rw[wc,kH,aF];omega,λ t=>?_,s4,by show m.nb=(sBx g.args 0 a).length;rw[V.nb];omega,λ b cs K=>?_,λ b b' _ _ he=>by rw[V.b,V.b]at he;exact he,V.rows,V.rinj,λ i G=>⟨?_,V.b i⟩⟩
  ·have:=qB4 (m:=m) 0 (pre:=[]) (post:=List.replicate (fn.ntmps-d.length) .dead) s6 rfl t;simpa using this
  ·obtain⟨ds,d1,d2⟩:=s8 b cs K;rw[wG]at d1;exact⟨ds,by rw[V.b];exact d1,d2⟩
  ·have G:i<c.np:=G;rw[V.nb,s3,B,<- I];exact G
 have aK:Go c.pc (λ e s=>(e = .ret\/e = .normal)/\∃ m E τ,Rel c.n2 m E τ s.tm s.σ /\ qx6 c g.args g.res fn.results.toList E τ = some v) [.code cd] .normal ⟨d++List.replicate (fn.ntmps-d.length) .dead,{ σ with wr:=[],wrr:=[] }⟩ :=
  qub (Qr := λ v e s=>(e = .ret\/e = .normal)/\∃ m E τ,Rel c.n2 m E τ s.tm s.σ /\ qx6 c g.args g.res fn.results.toList E τ = some v) (λ E τ r m tm σ h L e he=>⟨he,m,E,τ,L,h⟩) N k _ _ _ _ _ _ _ ak am
 obtain⟨n,e,S,g3,aM,F,E2,aV,D,u⟩:=aK;unfold Js;refine calls_of_wp hf J ?_;have aJ:Inv Γ (qh9 fn σ d).σ w:=G.wr rfl rfl
 have ht:zx Γ (qh9 fn σ d).tm { tmps:=C.toArray++Array.replicate (fn.ntmps-C.toArray.size) undef,defers:=[] }:=by
  show RepL Γ (d++List.replicate (fn.ntmps-d.length) .dead) (C.toArray++Array.replicate (fn.ntmps-C.toArray.size) undef).toList;rw[xn,xp];have:C.toArray.size=d.length:=by simpa using L.len
  rw[this];exact L.append (qgf Γ _)
 refine wp_mono (qxS hC n cd _ e S aN (qCx g3) Γ w _ aJ ht rfl) ?_;rintro e' a' w' ⟨rfl,hd,Γ',x1,x2,x3,x4⟩;unfold qx6 at u;split at u<;>try cases u
 rename_i o iB q an;split at u<;>try cases u
 rename_i vv Z O q' aE;split at u<;>cases u;rename_i z;rw[wd,wd,wd,wv]at z;obtain⟨av,ag,ys,aD,aR⟩:=qeF D (rws:=qaR g.args o) aE;obtain⟨vr,q1,q2⟩:=qpC hC.ty x2 x3 (fn:=fn) (r:=zZ ys) (by unfold qi0;rw[aD]);have Y:∀ i,i<nBx g.args->F.b (0+i)=0+i := λ i G=>by rw[wG];exact(D.pin i (by rw[<- I]at G;exact G)).2
 obtain⟨aw,aS⟩:=qiw D g.args an Y
 have aL:∃ M,(((∀ ds∈S.σ.bx,∀ x∈ds,∀ r∈rsC x,r∈M)/\iB=[])\/(q=true/\M=[]))/\(((∀ y∈ys,∀ r∈rsA y,r∈M)/\(∀ b∈O,∀ ds,S.σ.bx[F.b b]?=some ds->∀ x∈ds,∀ r∈rsC x,r∈M)/\Z=[])\/(q'=true/\M=[])):=by
  rcases Bool.or_eq_true_iff.1 z.2.1 with J | J
  ·have J:iB++Z=[]:=by simpa[ve]using J
   obtain⟨aP,aO⟩:=wU.1 J;exact⟨(S.σ.bx.flatMap λ ds=>ds.flatMap rsC)++ys.flatMap rsA,.inl ⟨λ ds af x X r L=>ww.2 (.inl (ka.2 ⟨ds,af,ka.2 ⟨x,X,L⟩⟩)),aP⟩,.inl ⟨λ y hy r L=>ww.2 (.inr (ka.2 ⟨y,hy,L⟩)),λ b _ ds af x X r L=>ww.2 (.inl (ka.2 ⟨ds,wa af,ka.2 ⟨x,X,L⟩⟩)),aO⟩⟩
  ·rw[wd]at J;exact⟨[],.inr ⟨J.1,rfl⟩,.inr ⟨J.2,rfl⟩⟩
 obtain⟨M,f1,f2⟩:=aL;obtain⟨H,b1,b2,b3⟩:=aS M f1;have ab:H.length=nrB g.args:=by rw[<- qb7 g.args o,<- b2,wA]
 obtain⟨A,Q,W,n1,n2,n3,n4⟩:=aR M H (nBx g.args) (nrB g.args) (qPF D an b3.2) (by rw[qbg];exact wb _) f2;rw[n4]at T;cases T
 have aG:((H++W).filterMap (·.1)).Nodup:=by
  rw[wZ,b3.1,n3,<- wZ];have ax:∀ id∈iB++Z,id<F.rw.length := λ id h=>(ww.1 h).elim (aw id) (av id);exact qAI (qmg z.1) λ x X y hy q e1 e2=>D.rinj x y q (ax x X) (ax y hy) e1 e2
 have ao:qrI S.σ M (H++W) := λ p T=>(ww.1 T).elim (b1.newOk p) (n1.newOk p);obtain⟨aj,ai⟩:=n1.kept;have aH:(O.map F.b).Nodup:=qwc (qmg z.2.2.1) λ a ha b K he=>D.inj a b (ag a ha) (ag b K) he
 have aI:∀ b∈O.map F.b,σ.bx.length<=b/\b<S.σ.bx.length := λ b K=>by
  refine⟨?_,aj b K⟩;obtain⟨b0,h1,rfl⟩:=wy.1 K;have aY:=kO (z.2.2.2 b0 h1);rw[B];refine wad λ ap=>?_;have e1:=Y (F.b b0) ap;rw[wG]at e1;have:=D.inj (F.b b0) b0 (D.pin _ (by show _<c.np;rw[I];exact ap)).1 (ag b0 h1) e1;omega
 obtain⟨mm,z1,z2,z3,z4⟩:=qqW (σ0 := σ) G x1 x2 x4.bl (Qv g.args σ.rw.length o++Qe A (σ.rw.length+nrB g.args) Q) (O.map F.b) (by rw[wc,qbo,B,ai]) aI aH M (H++W) (λ i cs l=>by
  by_cases U:i < σ.bx.length
  ·rw[List.getElem?_append_left (by rw[qbo,<- B];exact U)]at l;have l:(Qv g.args (σ.rw.length+0) o)[i]?=some cs:=l;have au:i<S.σ.bx.length:=wE U x4.bl;have aQ:qiS σ.bx.length (O.map F.b) i=i:=if_pos U;rw[aQ];refine⟨S.σ.bx[i],List.getElem?_eq_getElem au,λ m fz ae us hu=>?_⟩;obtain⟨aT,d1,d2⟩:=b1.rep x2 fz.le ae σ.bx.length σ.rw.length (kb:=O.map F.b) (H++W) [] W rfl i cs l;rw[wG,List.getElem?_eq_getElem au]at d1;cases d1;exact d2 us hu
  ·rw[List.getElem?_append_right (by rw[qbo,<- B];omega),qbo,<- B,<- ab]at l;have ad:=l;have ar:=getElem?_lt l;rw[ai]at ar;obtain⟨b,k1⟩:∃ b,(O.map F.b)[i - σ.bx.length]?=some b:=⟨_,List.getElem?_eq_getElem ar⟩
   obtain⟨ds,k2⟩:∃ ds,S.σ.bx[b]?=some ds:=⟨_,List.getElem?_eq_getElem (aj _ (wa k1))⟩
   refine⟨ds,?_,λ m fz ae us hu=>?_⟩
   ·unfold qiS;rw[if_neg U,List.getD_eq_getElem?_getD,k1];exact k2
   ·obtain⟨b',aT,aC,aB,aA⟩:=n1.boxes x2 fz.le ae σ.bx.length σ.rw.length (O.map F.b) (H++W) H rfl _ cs ad;cases k1.symm.trans aC;cases k2.symm.trans aB;exact aA us hu) (λ a so R h=>ao (so,R) (wa h)) (λ a b j R R' h1 h2=>qJk aG a b j _ _ h1 h2 rfl rfl) (List.range σ.bx.length) (List.range σ.rw.length)
 have al:Rep (yQ Γ' mm σ.bx.length (O.map F.b) σ.rw.length (H++W)) (zZ (jK A (σ.rw.length+nrB g.args) Q)) vr:=by
  refine qIC (n1.len _) (λ us hu=>?_) q2;rw[<- ab];exact n1.rep x2 z1.le z2 σ.bx.length σ.rw.length (O.map F.b) (H++W) ao (λ p x X=>by rw[List.getElem?_append_left (getElem?_lt X)];exact X) H rfl ab (by rw[B];exact wb _) (λ j b hj=>by rw[B,kM,wG];exact hj) us hu
 rw[wS,b2,n2]at z4
 have ac:qX { σ with wr:=[],wrr:=[] } ⟨Qv g.args σ.rw.length o++Qe A (σ.rw.length+nrB g.args) Q,σ.rw.map Q3++(QA g.args o++jY A Q),List.range σ.bx.length,List.range σ.rw.length⟩:=by
  refine⟨by show σ.bx.length<=(Qv g.args σ.rw.length o++_).length;rw[wc,qbo,B];exact kF _ _,by show σ.rw.length<=(σ.rw.map Q3++_).length;rw[wc,wA];exact kF _ _,λ i G hn=>absurd (kS.2 G) hn,λ i G hn=>absurd (kS.2 G) hn,λ i h=>(by cases h),λ i h=>(by cases h)⟩
 have ay:a'.defers=[]/\∃ v,(results fn a'.tmps).run P w' = .ok v w'/\∃ ah Γ',Ending.returned v = .returned ah/\Ext Γ w Γ' w'/\Inv Γ' ⟨Qv g.args σ.rw.length o++Qe A (σ.rw.length+nrB g.args) Q,σ.rw.map Q3++(QA g.args o++jY A Q),List.range σ.bx.length,List.range σ.rw.length⟩ w'/\Rep Γ' (zZ (jK A (σ.rw.length+nrB g.args) Q)) ah/\qX { σ with wr:=[],wrr:=[] } ⟨Qv g.args σ.rw.length o++Qe A (σ.rw.length+nrB g.args) Q,σ.rw.map Q3++(QA g.args o++jY A Q),List.range σ.bx.length,List.range σ.rw.length⟩ :=
  ⟨hd,vr,q1,vr,_,rfl,z3,z4,al,ac⟩
 rcases aM with rfl | rfl
 ·exact ay
 ·exact ay
end
end Go.AmZ
namespace Go.AmZ
open Go Go.RowKit Go.GxZ
def qJ{α : Type}(z : α)(s : α -> α):Nat -> α := λ k=>Nat.rec (motive := λ _ => α) z (λ _ a=>s a) k
def qh{α : Type}(z : α)(s:Nat -> α -> α):Nat -> α := λ k=>Nat.rec (motive := λ _ => α) z (λ m a=>s m a) k
abbrev Y8:=List UInt8
abbrev TL:=List T
def qv7:Nat:=4000
def qpx(r:Nat):Code->List It->Option (List It)
 | .seq a b,k=>match qpx r a (.code b::k)with
   | some x=>some x
   | none=>qpx r b k
 | .cond _ a b,k=>match qpx r a k with
   | some x=>some x
   | none=>qpx r b k
 | .block id b,k=>qpx r b (.blk id::k)
 | .loop b,k=>match Nat.beq (qeU b) r with
   | true=>some (.code (.loop b)::k)
   | false=>qpx r b (.code (.loop b)::k)
 | _,_=>none
def qsx(f:Func):Code:=match f.body with
 | some c=>c
 | none => .skip
def stL(f:Func)(r:Nat):List It:=match qpx r (qsx f) []with
 | some x=>x
 | none=>[]
def qoW:List Nat->List Nat->Bool
 | [],[]=>true
 | a::l,b::m=>Nat.beq a b&&qoW l m
 | _,_=>false
def qw0(a b:List Nat)(x y:Option Sig):Option Sig:=cond (qoW a b) x y
def qL1(f:Nat):List Nat->Bool
 | []=>false
 | a::l=>cond (Nat.beq a f) true (qL1 f l)
theorem qr3:∀{a b:List Nat},qoW a b=true->a=b
 | [],[],_=>rfl
 | a::l,b::m,h=>by
   simp only[qoW,wd]at h;rw[wj h.1,qr3 h.2]
 | [],_::_,h=>by cases h
 | _::_,[],h=>by cases h
theorem qyS{a b:List Nat}{x y:Option Sig}{g:Sig}(h:qw0 a b x y=some g):(a=b/\x=some g)\/y=some g:=by
 unfold qw0 at h;cases c:qoW a b with
 | true=>rw[c]at h;exact .inl ⟨qr3 c,h⟩
 | false=>rw[c]at h;exact .inr h
def qxf:(ts:List ATy)->qbO ts->List Nat->List TV
 | [],_,_=>[]
 | .val τ :: r,a,b=>qur τ a.1::qxf r a.2 b
 | .fn::r,a,g::b => .fn g []::qxf r a b
 | .fn::r,a,[] => .dead::qxf r a []
def Qq:(ts:List ATy)->qbO ts->List Nat->List AV
 | [],_,_=>[]
 | .val τ :: r,a,b=>yL τ a.1::Qq r a.2 b
 | .fn::r,a,g::b => .fn g []::Qq r a b
 | .fn::r,a,[] => .dead::Qq r a []
theorem qny:∀(ts:List ATy) (a:qbO ts) (b:List Nat),(Qq ts a b).length=ts.length
 | [],_,_=>rfl
 | .val τ :: r,a,b=>by simp[Qq,qny r]
 | .fn::r,a,g::b=>by simp[Qq,qny r]
 | .fn::r,a,[]=>by simp[Qq,qny r]
theorem qo5{m:Mp}:∀(ts:List ATy) (a:qbO ts) (b:List Nat),OKL m (qxf ts a b) (Qq ts a b)
 | [],_,_=>rfl
 | .val τ :: r,a,b=>⟨_,_,rfl,qsq τ a.1,qo5 r a.2 b⟩
 | .fn::r,a,g::b=>⟨_,_,rfl,⟨[],rfl,rfl⟩,qo5 r a b⟩
 | .fn::r,a,[]=>⟨_,_,rfl,trivial,qo5 r a []⟩
theorem qm5:∀(ts:List ATy) {ys:List AV} {a:qbO ts},qd1 ts ys=some a->QK ys (Qq ts a (qfV ys))
 | [],ys,a,h=>by
   cases ys with
   | nil=>exact .nil
   | cons y ys=>cases h
 | .val τ :: r,ys,a,h=>by
   obtain⟨y,ys,rfl,h1,h2⟩:=qyI h
   have hf:qfV (y::ys)=qfV ys:=by
    have:=(qc0 h1).2;cases y<;>first | rfl | exact absurd rfl (this _ _)
   rw[hf];exact .cons (qsR h1) (qm5 r h2)
 | .fn::r,ys,a,h=>by
   change dFn _ ys=_ at h;unfold dFn at h;split at h
   case h_2=>cases h
   exact .cons (.refl _) (qm5 r h)
theorem qaq{P:Program}{f:FuncId}{fn:Func}(c:P.funcs[f]?=some fn)(a:qcU fn=true):qgJ P f:=by
 unfold qcU at a;cases b:fn.body with
 | none=>rw[b]at a;cases a
 | some cd =>
   rw[b]at a;simp only[wd,wV]at a;exact⟨fn,c,by rw[b];rfl,a.2⟩
theorem qIn{P:Program}{c:TC}{f:FuncId}(e:qgJ P f)(h:∀ i g a,c.pf f i=some g->g.fn a=none):qZ P f (JE (jB c f)):=by
 refine⟨e,λ Γ σ w d b r l j k=>?_⟩;grind [jB,JE]
theorem qqc{P:Program}{f:FuncId}{g:qn4}(d:qgJ P f)(h:∀ a,g.fn a=none):qZ P f (sgP g):=by
 refine⟨d,λ Γ σ w c b r j e i=>?_⟩;grind [sgP]
theorem qJt{P:Program}{c:TC}(n:yv P c.pc.cfg){f:FuncId}{fn:Func}{cd:Code}(j:P.funcs[f]?=some fn)(m:qcU fn=true)(l:fn.body=some cd)(d:c.nt=fn.ntmps)(g:qn4)(e:c.np=qB7 g.args)(b:g.args.length<=fn.ntmps)
  (h:∃ N k,∀ a,g.fn a=qpa c (qx6 c g.args g.res fn.results.toList) N k [.code cd] (qhe 0 (qlA g.args 0 0 a)) ⟨sBx g.args 0 a,sRw g.args a⟩):qZ P f (sgP g):=by
 obtain⟨N,k,h⟩:=h;exact qG1 n j m l d g e b λ a v i=>⟨N,k,by rw[<- h a];exact i⟩
theorem qHN{P:Program}{c:TC}(e:P.follows .mixedOrders=true)(b:∀ t d,c.ty t=some d->jD P t=some d)(h:∀ f,c.has f=true->qZ P f (JE (jB c f)))(k:∀ f g,c.sf f=some g->qZ P f (sgP g))(j:∀ f g,c.mf f=some g->qZ P f (mgP g))(i:∀ f g,c.xf f=some g->qZ P f (xgP g)):yv P c.pc.cfg:=by
 refine⟨e,b,(λ f fn h=>by cases h),λ f p a=>?_⟩;have a:c.pc.prim f=some p:=a;unfold PC.prim at a;have e1:c.pc.pf f=match c.has f with | true=>some (jB c f) | false=>none:=rfl
 have l:c.pc.sp f=c.spf f:=rfl;grind [TC.spf]
end Go.AmZ
namespace Go.AmZ
open Go
inductive qj0 where
 | leaf
 | node (k:Nat) (d:TD) (l r:qj0)
def qj0.get:qj0->Nat->Option TD
 | .leaf,_=>none
 | .node k d l r,t=>match Nat.beq t k with
   | true=>some d
   | false=>match Nat.blt t k with
     | true=>l.get t
     | false=>r.get t
def qj0.ok(P:Program):qj0->Prop
 | .leaf=>True
 | .node k d l r=>jD P k=some d/\l.ok P/\r.ok P
theorem qj0.get_ok{P:Program}:∀{x:qj0} {t:Nat} {d:TD},x.ok P->x.get t=some d->jD P t=some d
 | .leaf,t,d,_,h=>by cases h
 | .node k f l r,t,d,⟨e,c,b⟩,h=>by
   simp only[qj0.get]at h;split at h
   ·rename_i a;cases h;rw[wj a];exact e
   ·split at h
    ·exact get_ok c h
    ·exact get_ok b h
abbrev zS:Value := .string ⟨#[]⟩
abbrev zI:Value := .int .i64 0
abbrev zL:Value := .slice none 0 0
abbrev zB:Value := .bool false
abbrev ff:=false
abbrev tt:=true
abbrev nDn(k:Nat)(d:TD):qj0 := .node k d .leaf .leaf
theorem nk{P:Program}{k:Nat}{d:TD}(h:jD P k=some d):(nDn k d).ok P:=⟨h,trivial,trivial⟩
def qIG:qj0:=(.node 76 ⟨4,40,tt,[zI,zI,zS,zB],.struct [(0,1,ff),(1,1,ff),(2,1,ff),(3,1,ff)]⟩
 (.node 22 ⟨1,24,ff,[zL],.slice 24 4 56 [zI,zS,zI,zL]⟩
 (.node 12 ⟨1,8,ff,[.int .u64 (0)],.int .u64⟩
 (.node 7 ⟨4,24,tt,[zI,zI,zB,.int .u8 (0)],.struct [(0,1,ff),(1,1,ff),(2,1,ff),(3,1,ff)]⟩
 (.node 4 ⟨1,1,ff,[zB],.bool⟩
 (.node 3 ⟨1,8,ff,[zI],.int .i64⟩
 (nDn 2 ⟨1,8,ff,[zI],.int .i64⟩)
 .leaf)
 (.node 6 ⟨1,1,ff,[.int .u8 (0)],.int .u8⟩
 (nDn 5 ⟨1,1,ff,[.int .u8 (0)],.int .u8⟩)
 .leaf))
 (.node 10 ⟨1,16,ff,[zS],.string⟩
 (.node 9 ⟨1,16,ff,[zS],.string⟩
 (nDn 8 ⟨4,24,tt,[zI,zI,zB,.int .u8 (0)],.struct [(0,1,ff),(1,1,ff),(2,1,ff),(3,1,ff)]⟩)
 .leaf)
 (nDn 11 ⟨1,16,ff,[zS],.string⟩)))
 (.node 17 ⟨1,8,ff,[.pointer none],.ptr⟩
 (.node 15 ⟨1,8,ff,[.pointer none],.ptr⟩
 (.node 14 ⟨2,24,tt,[zS,.int .u64 (0)],.struct [(0,1,ff),(1,1,ff)]⟩
 (nDn 13 ⟨2,24,tt,[zS,.int .u64 (0)],.struct [(0,1,ff),(1,1,ff)]⟩)
 .leaf)
 (nDn 16 ⟨1,8,ff,[.pointer none],.ptr⟩))
 (.node 20 ⟨1,16,ff,[.nilIface],.other⟩
 (.node 19 ⟨1,8,tt,[.pointer none],.struct [(0,1,ff)]⟩
 (nDn 18 ⟨1,8,tt,[.pointer none],.struct [(0,1,ff)]⟩)
 .leaf)
 (nDn 21 ⟨1,4,ff,[.int .i32 (0)],.int .i32⟩))))
 (.node 53 ⟨9,96,tt,[.int .u8 (0),zI,zI,.int .u8 (0),zI,zS,zI,zL,.int .u8 (0)],.struct [(0,1,ff),(1,1,ff),(2,1,ff),(3,1,ff),(4,4,tt),(8,1,ff)]⟩
 (.node 30 ⟨1,8,ff,[zI],.int .i64⟩
 (.node 25 ⟨3,16,tt,[zI,.int .u8 (0),zB],.struct [(0,1,ff),(1,1,ff),(2,1,ff)]⟩
 (.node 24 ⟨4,56,tt,[zI,zS,zI,zL],.struct [(0,1,ff),(1,1,ff),(2,1,ff),(3,1,ff)]⟩
 (nDn 23 ⟨4,56,tt,[zI,zS,zI,zL],.struct [(0,1,ff),(1,1,ff),(2,1,ff),(3,1,ff)]⟩)
 .leaf)
 (.node 29 ⟨1,8,ff,[.pointer none],.ptr⟩
 (nDn 26 ⟨3,16,tt,[zI,.int .u8 (0),zB],.struct [(0,1,ff),(1,1,ff),(2,1,ff)]⟩)
 .leaf))
 (.node 49 ⟨2,32,tt,[zI,zL],.struct [(0,1,ff),(1,1,ff)]⟩
 (.node 48 ⟨1,24,ff,[zL],.slice 63 4 40 [zI,zI,zS,zB]⟩
 (nDn 46 ⟨1,24,ff,[zL],.slice 54 9 96 [.int .u8 (0),zI,zI,.int .u8 (0),zI,zS,zI,zL,.int .u8 (0)]⟩)
 .leaf)
 (nDn 50 ⟨2,32,tt,[zI,zL],.struct [(0,1,ff),(1,1,ff)]⟩)))
 (.node 63 ⟨4,40,tt,[zI,zI,zS,zB],.struct [(0,1,ff),(1,1,ff),(2,1,ff),(3,1,ff)]⟩
 (.node 61 ⟨1,24,ff,[zL],.slice 4 1 1 [zB]⟩
 (.node 56 ⟨1,8,ff,[.pointer none],.ptr⟩
 (nDn 54 ⟨9,96,tt,[.int .u8 (0),zI,zI,.int .u8 (0),zI,zS,zI,zL,.int .u8 (0)],.struct [(0,1,ff),(1,1,ff),(2,1,ff),(3,1,ff),(4,4,tt),(8,1,ff)]⟩)
 .leaf)
 (nDn 62 ⟨4,40,tt,[zI,zI,zS,zB],.struct [(0,1,ff),(1,1,ff),(2,1,ff),(3,1,ff)]⟩))
 (.node 72 ⟨2,32,tt,[zI,zL],.struct [(0,1,ff),(1,1,ff)]⟩
 (.node 71 ⟨1,24,ff,[zL],.slice 77 4 40 [zI,zI,zS,zB]⟩
 (nDn 66 ⟨1,24,ff,[zL],.slice 3 1 8 [zI]⟩)
 .leaf)
 (nDn 73 ⟨2,32,tt,[zI,zL],.struct [(0,1,ff),(1,1,ff)]⟩)))))
 (.node 158 ⟨5,64,tt,[zI,zS,zI,zL,zI],.struct [(0,4,tt),(4,1,ff)]⟩
 (.node 114 ⟨1,24,ff,[zL],.slice 116 3 32 [zS,zI,zI]⟩
 (.node 98 ⟨1,8,ff,[.pointer none],.ptr⟩
 (.node 83 ⟨1,24,ff,[zL],.slice 5 1 1 [.int .u8 (0)]⟩
 (.node 80 ⟨1,8,ff,[.pointer none],.ptr⟩
 (nDn 77 ⟨4,40,tt,[zI,zI,zS,zB],.struct [(0,1,ff),(1,1,ff),(2,1,ff),(3,1,ff)]⟩)
 .leaf)
 (.node 95 ⟨1,8,ff,[.int .u64 (0)],.int .u64⟩
 (nDn 88 ⟨1,4,ff,[.int .u32 (0)],.int .u32⟩)
 .leaf))
 (.node 110 ⟨4,40,tt,[zS,zI,zI,zI],.struct [(0,1,ff),(1,1,ff),(2,1,ff),(3,1,ff)]⟩
 (.node 100 ⟨3,32,tt,[zS,zI,zB],.struct [(0,1,ff),(1,1,ff),(2,1,ff)]⟩
 (nDn 99 ⟨3,32,tt,[zS,zI,zB],.struct [(0,1,ff),(1,1,ff),(2,1,ff)]⟩)
 .leaf)
 (nDn 111 ⟨4,40,tt,[zS,zI,zI,zI],.struct [(0,1,ff),(1,1,ff),(2,1,ff),(3,1,ff)]⟩)))
 (.node 122 ⟨5,64,tt,[zI,zS,zI,zL,zI],.struct [(0,4,tt),(4,1,ff)]⟩
 (.node 119 ⟨1,24,ff,[zL],.slice 9 1 16 [zS]⟩
 (.node 116 ⟨3,32,tt,[zS,zI,zI],.struct [(0,1,ff),(1,1,ff),(2,1,ff)]⟩
 (nDn 115 ⟨3,32,tt,[zS,zI,zI],.struct [(0,1,ff),(1,1,ff),(2,1,ff)]⟩)
 .leaf)
 (nDn 121 ⟨5,64,tt,[zI,zS,zI,zL,zI],.struct [(0,4,tt),(4,1,ff)]⟩))
 (.node 132 ⟨1,24,ff,[zL],.slice 111 4 40 [zS,zI,zI,zI]⟩
 (.node 126 ⟨1,8,ff,[.pointer none],.ptr⟩
 (nDn 124 ⟨1,24,ff,[zL],.slice 122 5 64 [zI,zS,zI,zL,zI]⟩)
 .leaf)
 (nDn 139 ⟨1,24,ff,[zL],.slice 159 5 64 [zI,zS,zI,zL,zI]⟩))))
 (.node 207 ⟨0,0,tt,[],.struct [(0,0,tt)]⟩
 (.node 189 ⟨1,8,ff,[.pointer none],.ptr⟩
 (.node 175 ⟨1,8,ff,[.int .u64 (0)],.int .u64⟩
 (.node 166 ⟨1,8,ff,[zI],.int .i64⟩
 (nDn 159 ⟨5,64,tt,[zI,zS,zI,zL,zI],.struct [(0,4,tt),(4,1,ff)]⟩)
 .leaf)
 (.node 184 ⟨1,8,ff,[.int .u64 (0)],.int .u64⟩
 (nDn 178 ⟨1,24,ff,[zL],.slice 22 1 24 [zL]⟩)
 .leaf))
 (.node 205 ⟨4,40,tt,[.pointer none,.pointer none,.pointer none,zS],.struct [(0,1,ff),(1,1,ff),(2,1,ff),(3,1,ff)]⟩
 (.node 204 ⟨4,40,tt,[.pointer none,.pointer none,.pointer none,zS],.struct [(0,1,ff),(1,1,ff),(2,1,ff),(3,1,ff)]⟩
 (nDn 197 ⟨1,8,ff,[.pointer none],.ptr⟩)
 .leaf)
 (nDn 206 ⟨0,0,tt,[],.array 0 16 1⟩)))
 (.node 214 ⟨1,4,ff,[.int .i32 (0)],.int .i32⟩
 (.node 211 ⟨1,1,ff,[.int .u8 (0)],.int .u8⟩
 (.node 210 ⟨1,1,ff,[.int .u8 (0)],.int .u8⟩
 (nDn 208 ⟨0,0,tt,[],.struct [(0,0,tt)]⟩)
 .leaf)
 (nDn 213 ⟨1,8,ff,[.pointer none],.ptr⟩))
 (.node 217 ⟨11,48,tt,[.int .u64 (0),.int .u64 (0),.int .u32 (0),.int .u8 (0),.int .u8 (0),.int .u8 (0),.int .u8 (0),.nilFunc,.pointer none,.int .i32 (0),.int .i32 (0)],.struct [(0,1,ff),(1,1,ff),(2,1,ff),(3,1,ff),(4,1,ff),(5,1,ff),(6,1,ff),(7,1,ff),(8,1,ff),(9,1,ff),(10,1,ff)]⟩
 (.node 216 ⟨11,48,tt,[.int .u64 (0),.int .u64 (0),.int .u32 (0),.int .u8 (0),.int .u8 (0),.int .u8 (0),.int .u8 (0),.nilFunc,.pointer none,.int .i32 (0),.int .i32 (0)],.struct [(0,1,ff),(1,1,ff),(2,1,ff),(3,1,ff),(4,1,ff),(5,1,ff),(6,1,ff),(7,1,ff),(8,1,ff),(9,1,ff),(10,1,ff)]⟩
 (nDn 215 ⟨1,4,ff,[.int .i32 (0)],.int .i32⟩)
 .leaf)
 (nDn 218 ⟨1,8,ff,[.pointer none],.other⟩))))))
def tyT(t:Nat):Option TD:=qIG.get t
theorem qIx(t:Nat)(d:TD)(h:tyT t=some d):jD Go.Proofs.Tryz.prog t=some d :=
 qj0.get_ok (show qj0.ok Go.Proofs.Tryz.prog qIG from⟨by kernel_rfl,⟨by kernel_rfl,⟨by kernel_rfl,⟨by kernel_rfl,⟨by kernel_rfl,⟨by kernel_rfl,(nk (by kernel_rfl)),trivial⟩,⟨by kernel_rfl,(nk (by kernel_rfl)),trivial⟩⟩,⟨by kernel_rfl,⟨by kernel_rfl,(nk (by kernel_rfl)),trivial⟩,(nk (by kernel_rfl))⟩⟩,⟨by kernel_rfl,⟨by kernel_rfl,⟨by kernel_rfl,(nk (by kernel_rfl)),trivial⟩,(nk (by kernel_rfl))⟩,⟨by kernel_rfl,⟨by kernel_rfl,(nk (by kernel_rfl)),trivial⟩,(nk (by kernel_rfl))⟩⟩⟩,⟨by kernel_rfl,⟨by kernel_rfl,⟨by kernel_rfl,⟨by kernel_rfl,(nk (by kernel_rfl)),trivial⟩,⟨by kernel_rfl,(nk (by kernel_rfl)),trivial⟩⟩,⟨by kernel_rfl,⟨by kernel_rfl,(nk (by kernel_rfl)),trivial⟩,(nk (by kernel_rfl))⟩⟩,⟨by kernel_rfl,⟨by kernel_rfl,⟨by kernel_rfl,(nk (by kernel_rfl)),trivial⟩,(nk (by kernel_rfl))⟩,⟨by kernel_rfl,⟨by kernel_rfl,(nk (by kernel_rfl)),trivial⟩,(nk (by kernel_rfl))⟩⟩⟩⟩,⟨by kernel_rfl,⟨by kernel_rfl,⟨by kernel_rfl,⟨by kernel_rfl,⟨by kernel_rfl,(nk (by kernel_rfl)),trivial⟩,⟨by kernel_rfl,(nk (by kernel_rfl)),trivial⟩⟩,⟨by kernel_rfl,⟨by kernel_rfl,(nk (by kernel_rfl)),trivial⟩,(nk (by kernel_rfl))⟩⟩,⟨by kernel_rfl,⟨by kernel_rfl,⟨by kernel_rfl,(nk (by kernel_rfl)),trivial⟩,(nk (by kernel_rfl))⟩,⟨by kernel_rfl,⟨by kernel_rfl,(nk (by kernel_rfl)),trivial⟩,(nk (by kernel_rfl))⟩⟩⟩,⟨by kernel_rfl,⟨by kernel_rfl,⟨by kernel_rfl,⟨by kernel_rfl,(nk (by kernel_rfl)),trivial⟩,⟨by kernel_rfl,(nk (by kernel_rfl)),trivial⟩⟩,⟨by kernel_rfl,⟨by kernel_rfl,(nk (by kernel_rfl)),trivial⟩,(nk (by kernel_rfl))⟩⟩,⟨by kernel_rfl,⟨by kernel_rfl,⟨by kernel_rfl,(nk (by kernel_rfl)),trivial⟩,(nk (by kernel_rfl))⟩,⟨by kernel_rfl,⟨by kernel_rfl,(nk (by kernel_rfl)),trivial⟩,(nk (by kernel_rfl))⟩⟩⟩⟩⟩) h
end Go.AmZ
namespace Go.Proofs
open Go.Shelf
def Tryz.lays106_ren:Go.Shelf.Ren:=⟨λ | 106=>118 | 213=>144 | 265=>172 | n=>n,λ | 9=>9 | 3=>3 | n=>n,λ | n=>n⟩
theorem Tryz.lays106:Go.Proofs.Lays.n106 Tryz.prog Tryz.lays106_ren:={
 mixed:=by kernel_rfl
 f106:=Tryz.func118.trans (congrArg some (by kernel_rfl))
 f213:=Tryz.func144.trans (congrArg some (by kernel_rfl))
 f265:=Tryz.func172.trans (congrArg some (by kernel_rfl))
 t3:=Tryz.underlying3
 a3:=Tryz.isAgg3
 z3:=Tryz.sizeOf3
 v3:=Tryz.zeroValue3
 t9:=Tryz.underlying9
 a9:=Tryz.isAgg9
 z9:=Tryz.sizeOf9
 v9:=Tryz.zeroValue9 }
open Go.RowKit in
theorem Tryz.strings_Compare(a b:ByteArray)(w:World) :
 Calls Tryz.prog 118 #[.string a,.string b] w λ e w'=>e = .returned (.int .i64 (Lib.compareBytes a.data.toList b.data.toList))/\w'=w:=Any.strings_Compare Tryz.lays106 a b w
end Go.Proofs
namespace Go.AmZ
open Go Go.RowKit Go.GxZ
structure qLe (Γ : Gh) (w:World) (a:Option Addr) (n k:Nat) (cs:List (List AV)):Prop where
 len:cs.length=n
 size:∀ e∈cs,e.length=k
 plain:∀ e∈cs,∀ x∈e,qy x=true
 at_:cs=[]\/∃ b o,a=some ⟨b,o,none⟩/\∀(i:Nat) (e:List AV) (j:Nat) (x:AV),cs[i]?=some e->e[j]?=some x->∃ u,w.cell? ⟨b,o+(i*k+j),none⟩=some u/\Rep Γ x u/\u.oneCell'=true
theorem qCy{Γ : Gh}{σ : St}{w:World}(H:Inv Γ σ w){a:Ty}{y:AV}{l:List (Val a)}{u:Value}(I:dlist a y=some l)(q:Rep Γ y u):∃ p n c,u = .slice p n c/\n<=c/\qLe Γ w p n a.size (l.map (qi a)):=by
 rcases jh I with⟨rfl,rfl⟩ | ⟨es,n,rfl,h⟩
 ·have:=zo q;subst this;exact⟨none,0,0,rfl,wb _,rfl,(by intro e d;cases d),(by intro e d;cases d),.inl rfl⟩
 ·cases q with
  | sl k es f p E c b o us F J P O N Q r G q =>
    have g:=qY h;refine⟨p,E,c,rfl,J (xN _),by rw[wA,F,g],?_,?_,?_⟩
    ·intro e d;obtain⟨v,_,rfl⟩:=wy.1 d;exact jA a v
    ·intro e d;obtain⟨v,_,rfl⟩:=wy.1 d;exact zt a v
    ·rcases r with r | r
     ·grind
     ·right;refine⟨b,o,r,λ i e j x m K=>?_⟩;rw[List.getElem?_map]at m;cases t:l[i]? with
      | none=>rw[t]at m;cases m
      | some v =>
        rw[t]at m;cases m;obtain⟨B,A,M⟩:=qg6 h t;obtain⟨z,g3,L⟩:=(qoL M).get j x K;have s:=G i B j z A g3;obtain⟨D,C⟩:=H.mem _ _ _ s;exact⟨us i j,by rw[<- wI];exact D,L _ _ (q i B j z A g3),C⟩
def Fresh(w:World)(k n:Nat)(xs:List Value)(v:Value)(w':World):Prop :=
 Below w.heap.size w w'/\w.drawn<=w'.drawn/\((n=0/\∃ a,v = .slice a 0 0)\/∃(g cap:Nat) (b:Array Value) (e:TypeId),v = .slice (some ⟨g,0,none⟩) n cap/\w.heap.size<=g/\w'.heap[g]?=some (.cells b e (0,0))/\n<=cap/\cap*k<=b.size/\∀(j:Nat) (u:Value),xs[j]?=some u->b[j]?=some u)
theorem qnJ{P:Program}{f:FuncId}{Γ : Gh}{σ : St}{w:World}{m:List Value}{a:Ty}{l:List (Val a)}{xs:List Value}(b:Inv Γ σ w)(k : σ.bx=[])(n : σ.rw=[])
  (F:∀(i:Nat) (e:List AV) (j:Nat) (x:AV),(l.map (qi a))[i]?=some e->e[j]?=some x->∃ u,xs[i*a.size+j]?=some u/\Rep Γ x u/\u.oneCell'=true)
  (h:Calls P f m.toArray w λ e w'=>∃ v,e = .returned v/\Fresh w a.size l.length xs v w') :
  Js P Γ σ w f m (zZ (jK [.one (.row a)] σ.rw.length (l,())),some ⟨[],σ.rw.map Q3++jY [.one (.row a)] (l,()),List.range σ.bx.length,List.range σ.rw.length⟩):=by
 refine Calls.mono h ?_;rintro e w' ⟨v,rfl,r,s,G⟩;have t:=b.later r
 have d:qX { σ with wr:=[],wrr:=[] } ⟨[],σ.rw.map Q3++jY [.one (.row a)] (l,()),List.range σ.bx.length,List.range σ.rw.length⟩ :=
  ⟨by rw[k];exact wb _,by show σ.rw.length<=_;rw[n];exact we _,λ i b _=>(by have b:i < σ.bx.length:=b;rw[k]at b;exact absurd b (wL _)),λ i b _=>(by have b:i < σ.rw.length:=b;rw[n]at b;exact absurd b (wL _)),λ i h=>(by cases h),λ i h=>(by cases h)⟩
 rcases G with⟨H,p,rfl⟩ | ⟨g,cap,z,U,rfl,L,K,g3,B,J⟩
 ·have I:l=[]:=wk H;subst I
  obtain⟨T,Q,O,E,D⟩:=qqW (σ0 := σ) (σ1 := σ) b (qgX r s) t (wb _) [] [] (by rw[k];rfl) (by simp) kT [] [(none,⟨a.size,[],0,0,false⟩)] (λ i cs h=>by cases h)
   (λ i so R h=>by
    cases i with
    | zero=>cases h;exact⟨rfl,rfl,waD a,(by intro e o;cases o),(by intro e o;cases o),rfl⟩
    | succ i=>cases h)
   (λ i j q R R' y A=>by cases i<;>cases y) (List.range σ.bx.length) (List.range σ.rw.length)
  refine⟨_,_,rfl,E,D,?_,d⟩;show Rep _ (.rs σ.rw.length 0 0 0 false) _;exact .rs _ _ _ _ _ p 0 (by show σ.rw.length < σ.rw.length+1;omega) (we _) (wb _) (λ h=>by cases h) λ _=>⟨.inl rfl,by rw[wP,kQ];exact we _⟩
 ·obtain⟨Γ',N,M,C⟩:=qx1 b (waD a) (c:=l.map (qi a)) (λ e o=>by obtain⟨v,_,rfl⟩:=wy.1 o;exact jA a v) (λ e o=>by obtain⟨v,_,rfl⟩:=wy.1 o;exact zt a v) (vs:=z) (by rw[wA];exact wD (wn _ g3) B)
    (λ i e j x y A=>by
     obtain⟨u,u1,u2⟩:=F i e j x y A;exact⟨u,J _ _ u1,u2⟩) (cap:=cap) (by rw[wA];exact g3) B r s L K
  rw[wA]at C;refine⟨_,Γ',rfl,N,?_,C,d⟩;have:({ σ with rw := σ.rw++[⟨a.size,l.map (qi a),0,0,false⟩] }:St).bx=[]:=k;exact M.wr this.symm (by show σ.rw.map Q3++_ = σ.rw++_;rw[n];rfl)
end Go.AmZ
namespace Go.GxZ
open Go.RowKit
def Blk(w:World)(g:Nat)(e:TypeId)(a:Array Value):Prop:=w.heap[g]?=some (.cells a e (0,0))
theorem Blk.cell{w:World}{g:Nat}{e:TypeId}{a:Array Value}(h:Blk w g e a)(i:Nat):w.cell? ⟨g,i,none⟩=a[i]?:=by
 unfold Blk at h;simp[World.cell?,h]
theorem Blk.free{w:World}{g:Nat}{e:TypeId}{a:Array Value}(h:Blk w g e a)(i:Nat):w.frozen? ⟨g,i,none⟩=false:=by
 unfold Blk at h;simp[World.frozen?,h]
theorem Blk.later{w w':World}{g:Nat}{e:TypeId}{a:Array Value}(h:Blk w g e a)(b:Below w.heap.size w w'):Blk w' g e a:=by
 unfold Blk at h |-
 rw[b.block g (lt_of_block h)];exact h
theorem Blk.same{w w':World}{g:Nat}{e:TypeId}{a:Array Value}(h:Blk w g e a)(b:w'.heap[g]?=w.heap[g]?):Blk w' g e a:=by
 unfold Blk at h |-
 rw[b];exact h
theorem Blk.set{w:World}{g:Nat}{e:TypeId}{a:Array Value}(h:Blk w g e a)(i:Nat)(v:Value):Blk (w.setCell ⟨g,i,none⟩ v) g e (a.setIfInBounds i v):=by
 unfold Blk at h |-
 have b:=lt_of_block h;have c:w.heap[g] = .cells a e (0,0):=by simpa[Array.getElem?_eq_getElem b]using h
 show(w.heap.modify g _)[g]?=_;rw[Array.getElem?_eq_getElem (by simpa using b),Array.getElem_modify_self,c];rfl
theorem qrA{w:World}{g:Nat}{e:TypeId}{c:Array Value}(h:Blk w g e c)(o:Nat)(n m l j:Value)(p:o+4<=c.size) :
  ∃ w' b,(((w.setCell ⟨g,o,none⟩ n).setCell ⟨g,o+1,none⟩ m).setCell ⟨g,o+2,none⟩ l).setCell ⟨g,o+3,none⟩ j=w'/\Blk w' g e b/\b.size=c.size /\
   b[o]?=some n/\b[o+1]?=some m/\b[o+2]?=some l/\b[o+3]?=some j/\(∀ i,i<o->b[i]?=c[i]?) /\
   (∀ B,B<=g->∀ w0,Below B w0 w->Below B w0 w')/\w'.heap.size=w.heap.size/\(∀ k,k≠g->w'.heap[k]?=w.heap[k]?)/\(∀ a,w'.frozen? a=w.frozen? a):=by
 refine⟨_,_,rfl,(((h.set o n).set (o+1) m).set (o+2) l).set (o+3) j,by simp,?_,?_,?_,?_,λ i q=>?_,λ B f w0 h=>(((h.setCell f _).setCell f _).setCell f _).setCell f _,by simp,λ k d=>?_,λ a=>by simp⟩
 ·simp[Array.getElem?_setIfInBounds];omega
 ·simp[Array.getElem?_setIfInBounds];omega
 ·simp[Array.getElem?_setIfInBounds];omega
 ·simp[Array.getElem?_setIfInBounds];omega
 ·simp only[Array.getElem?_setIfInBounds];rw[if_neg (by omega),if_neg (by omega),if_neg (by omega),if_neg (by omega)]
 ·rw[Below.heap_setCell _ _ _ _ d,Below.heap_setCell _ _ _ _ d,Below.heap_setCell _ _ _ _ d,Below.heap_setCell _ _ _ _ d]
def qus(Q:Nat->Prop)(w:World)(a:Array Value)(l:List T):Prop :=
 ∀(k:Nat) (x:T),l[k]?=some x->∃ cs:List Value,cs.length=4/\(∀(i:Nat) (c:Value),cs[i]?=some c->a[k*4+i]?=some c)/\JG Q w x cs
theorem qus.nil{Q:Nat->Prop}{w:World}{a:Array Value}:qus Q w a [] := λ k x h=>by simp at h
theorem qus.kids{Q d:Nat->Prop}{w:World}{g:Nat}{e:TypeId}{a:Array Value}{l:List T}(h:qus Q w a l)(n:Blk w g e a)(j:d g)(o:∀ b,Q b->d b):qdx d w (some ⟨g,0,none⟩) l := λ k x f=>by
 obtain⟨cs,r,q,p⟩:=h k x f;exact⟨g,0,cs,rfl,j,r,λ i c m=>by rw[wG,n.cell];exact q i c m,p.mono o x⟩
theorem qus.next{Q g:Nat->Prop}{w w':World}{e a:Array Value}{l:List T}(h:qus Q w e l)(j:∀ b,Q b->w'.heap[b]?=w.heap[b]?)(n:∀ b,Q b->g b)(m:∀ i,i<l.length*4->a[i]?=e[i]?):qus g w' a l := λ k x f=>by
 obtain⟨cs,q,p,o⟩:=h k x f;have r:=(List.getElem?_eq_some_iff.1 f).1;refine⟨cs,q,λ i c d=>?_,(o.keep j x).mono n x⟩;have s:=(List.getElem?_eq_some_iff.1 d).1;rw[m _ (by omega)];exact p i c d
end Go.GxZ
namespace Go.GxZ
open Go.RowKit
theorem qmn{P:Program}(w:World)(zu:Nat)(t ty e:TypeId)(i:TypeInfo)(z:Value)(size bytes:Nat)(F:P.underlying t=some (.slice e))(H:P.info? e=some i)(I:i.zero=some z)
  (d:i.size=size) (A:i.bytes=bytes) (s:z.cells.size=size) (x:0<size)
  (v:Value) (n:Nat) (xs:List Value) (b:w.ownsRow zu e size v n xs)
  (a:Addr) (m c:Nat) (qf:List Value) (G:qf.length=m*size) (f:∀ j u,qf[j]?=some u->w.cell? (a.add j)=some u) (J:∀ u∈qf,u.oneCell'=true)
  (B:n+m<=maxLen) (h:(n+m)*bytes<=140737488355328) (l:zu<=w.heap.size) :
  ∃ p w',(Builtin.append_ #[t,t] ty #[v,.slice (some a) m c]).run P w = .ok p w'/\w'.ownsRow zu e size p (n+m) (xs++qf)/\w.grownBy w' v.ownBlock /\
   (p.ownBlock=v.ownBlock\/∀ k,p.ownBlock=some k->w.heap.size<=k):=by
 rcases id b.2 with⟨rfl,rfl⟩ | ⟨g,cap,Q,rfl,O,R,K,N,M,E⟩
 ·have D:xs=[]:=kt.1 (by simpa using b.1);subst D;obtain⟨p,w',C,r,o,_⟩:=run_append_own (P:=P) w w.heap.size t ty e i z size bytes F H I d A s x (.slice none 0 0) 0 [] (World.ownsRow_nil w _ e size) a m c qf G f J B h (wb _);exact⟨p,w',C,r.mono l,o,.inr λ k y=>(r.lt k y).1⟩
 ·by_cases q:n+m<=cap
  ·obtain⟨w',C,r,o⟩:=run_append_own_spare (P:=P) w zu t ty e i size F H d g n cap xs b a m c qf G f J q;exact⟨_,w',C,r,o,.inl rfl⟩
  ·obtain⟨p,w',C,r,o⟩:=run_append_arg_grows (P:=P) w t ty e i z size bytes F H I d A s x ⟨g,0,none⟩ n cap xs b.1 (λ j u L=>b.cells rfl j u L) a m c qf G f (by omega) B h;exact⟨p,w',C,r.mono l,⟨o.os,o.tape,o.output,o.size,λ k y _=>o.block k y (by simp)⟩,.inr λ k y=>(r.lt k y).1⟩
end Go.GxZ
namespace Go.GxZ
open Go.RowKit
theorem qrj{P:Program}(w:World)(r s ty c:TypeId)(size g o d l:Nat)(a:Addr)(b f:Nat)(e:Array Value)(t:TypeId)(cs:List Value)
  (u:P.underlying r=some (.slice c)) (p:(P.info? c).map (·.size)=some size)
  (z:w.heap[g]?=some (.cells e t (0,0))) (x:cs.length=Nat.min b d*size)
  (h:∀ j v,cs[j]?=some v->w.cell? (a.add j)=some v) (k:o+cs.length<=e.size) (A:∀ v∈cs,v.oneCell'=true) :
  (Builtin.copy_ #[r,s] ty #[.slice (some ⟨g,o,none⟩) d l,.slice (some a) b f]).run P w =
   .ok (goInt (Nat.min b d)) (w.setRow g (e.toList.take o++cs++e.toList.drop (o+cs.length)).toArray):=by
 have q:=run_loadCells_list (P:=P) w a cs h;have m:=run_storeCells_at P g o t cs 0 e w z (by simpa using k) A;cases n:P.info? c with
 | none=>simp[n]at p
 | some i =>
   have y:i.size=size:=by simpa[n]using p
   rw[x]at q;simp[Builtin.copy_,run_underlying u,Builtin.lenOf,Builtin.firstCells,sizeOf,typeInfo,n,y,q,m]
theorem qwl{P:Program}(w:World)(t e ty:TypeId)(z:Value)(h:P.underlying t=some (.slice e))(f:∀ w,(zeroValue e).run P w = .ok z w)(g o n c:Nat)(k:0<n)(a:Array Value)(tb:TypeId)
  (i:w.heap[g]?=some (.cells a tb (0,0))) (d:o+n*z.cells.size<=a.size) (j:∀ v∈(Builtin.zeroCells z.cells n).toList,v.oneCell'=true) :
  (Builtin.clear_ #[t] ty #[.slice (some ⟨g,o,none⟩) n c]).run P w = .ok (.tuple #[]) (w.setRow g (a.toList.take o++(Builtin.zeroCells z.cells n).toList++a.toList.drop (o+(Builtin.zeroCells z.cells n).toList.length)).toArray):=by
 have b:=run_storeCells_at P g o tb (Builtin.zeroCells z.cells n).toList 0 a w i (by simpa[Builtin.zeroCells]using d) j;obtain⟨m,rfl⟩:∃ m,n=m+1:=⟨n-1,by omega⟩
 simp only[wP]at b;simp[Builtin.clear_,run_underlying h,f,b]
structure qmP (w w':World) (g:Nat) (t:TypeId) (new:List Value):Prop where
 blk:Blk w' g t new.toArray
 other:∀ k,k≠g->w'.heap[k]?=w.heap[k]?
 size:w'.heap.size=w.heap.size
 below:∀ B,B<=g->∀ w0,Below B w0 w->Below B w0 w'
 os:w'.os=w.os
 tape:w'.tape=w.tape
 output:w'.output=w.output
 drawn:w'.drawn=w.drawn
theorem qil{w:World}{g:Nat}{t:TypeId}{b:Array Value}(h:Blk w g t b)(a:List Value):qmP w (w.setRow g a.toArray) g t a :=
 ⟨setRow_heap w g b _ t _ h,λ k c=>setRow_other w g k _ c,by simp[World.setRow],λ _ e _ d=>below_setRow d e _,rfl,rfl,rfl,rfl⟩
theorem qvB{P:Program}{ops:Array Oper}{o:Oper}{a:Act}{w:World}{K:Act->World->Prop}{Q:Exit->Act->World->Prop}{E:Prop}(q:o.guard=none)(d s:Operand)(r u:TypeId)
  (C:o.op = .call { callee := .builtin .copy,args := #[d,s],argTypes := #[r,u] }) (f:TypeId) (size:Nat) (A:P.underlying r=some (.slice f)) (p:(P.info? f).map (·.size)=some size)
  (g off e k:Nat) (ad:Addr) (c i:Nat) (F:a.eval d = .slice (some ⟨g,off,none⟩) e k) (B:a.eval s = .slice (some ad) c i)
  (b:Array Value) (t:TypeId) (y:Blk w g t b) (cs:List Value) (D:cs.length=Nat.min c e*size)
  (l:∀ j v,cs[j]?=some v->w.cell? (ad.add j)=some v) (n:off+cs.length<=b.size) (G:∀ v∈cs,v.oneCell'=true)
  (h:∀ w',qmP w w' g t (b.toList.take off++cs++b.toList.drop (off+cs.length))->K (a.put o.dst (goInt (Nat.min c e))) w') :
  if Region.wanted o (yielded ops a.tmps)=true then Oper.wp P o a w K Q else E:=by
 have z:Region.wanted o (yielded ops a.tmps)=true:=by simp[Region.wanted,q]
 rw[if_pos z];have m:=qrj (P:=P) w r u o.type f size g off e k ad c i b t cs A p y D l n G;unfold Oper.wp;simp[execOp,C,resolve,invoke,builtin,F,B,m,Result.andThen];have x:=h _ (qil y (b.toList.take off++cs++b.toList.drop (off+cs.length)));rw[wi]at x;exact x
theorem qow(g:Nat)(t:TypeId):∀(vs:List Value) (o:Nat) (w:World) (a:Array Value),Blk w g t a->o+vs.length<=a.size->qmP w (w.setCells g o vs) g t (a.toList.take o++vs++a.toList.drop (o+vs.length))
 | [],o,w,a,h,_=>by
   refine⟨?_,λ _ _=>rfl,rfl,λ _ _ _ h=>h,rfl,rfl,rfl,rfl⟩;simp only[wB,ke,wP,kz,vJ];exact h
 | v::r,o,w,a,h,c=>by
   have b:=qow g t r (o+1) (w.setCell ⟨g,o,none⟩ v) (a.setIfInBounds o v) (h.set o v) (by simp at c |-;omega);have e:=list_seg_step a.toList o v r (by simp at c |-;omega);rw[World.setCells];refine⟨?_,λ k d=>(b.other k d).trans (Below.heap_setCell _ _ _ _ d),b.size.trans (by simp),λ B i w0 f=>b.below B i w0 (f.setCell i _),b.os,b.tape,b.output,b.drawn⟩;have f:=b.blk;grind
theorem qJ3(k:Nat)(a xs ys:List Value)(i n:Nat)(g:a.take (n*k)=xs)(m:n*k+k<=a.length)(l:i*k<=n*k)(e:ys.length=k)(c:List Value)
  (h:c=a.take (i*k+k)++xs.drop (i*k)++a.drop (i*k+k+(xs.drop (i*k)).length)) :
  c.length=a.length/\(c.take (i*k)++ys++c.drop (i*k+ys.length)).length=a.length/\(c.take (i*k)++ys++c.drop (i*k+ys.length)).take (n*k+k)=xs.take (i*k)++ys++xs.drop (i*k):=by
 generalize n*k=N at *;generalize i*k=I at *;have b:xs.length=N:=by rw[<- g,wm];omega
 have d:(xs.drop I).length=N-I:=by rw[wQ,b]
 have f:c.length=a.length:=by rw[h];simp only[wc,wm,wQ,b];omega
 refine⟨f,?_,?_⟩
 ·grind
 ·have e1:c.take I=xs.take I:=by
    grind
  have j:c.drop (I+k)=xs.drop I++a.drop (I+k+(xs.drop I).length):=by
   grind
  rw[e,e1,j,<- wi,kG (by simp only[wc,wm,e,d,b];omega),kE (by simp only[wc,wm,e,d,b];omega)]
theorem qMf(k:Nat)(a xs ys:List Value)(i n:Nat)(h:a.take (i*k)=xs.take (i*k))(c:xs.length=n*k)(l:n*k+k<=a.length)(j:i*k<=n*k)(e:ys.length=k)(b:List Value)
  (g:b=a.take (i*k)++ys++a.drop (i*k+ys.length)) :
  b.length=a.length/\(b.take (i*k+k)++xs.drop (i*k)++b.drop (i*k+k+(xs.drop (i*k)).length)).length=a.length /\
   (b.take (i*k+k)++xs.drop (i*k)++b.drop (i*k+k+(xs.drop (i*k)).length)).take (n*k+k)=xs.take (i*k)++ys++xs.drop (i*k):=by
 generalize n*k=N at *;generalize i*k=I at *;have d:(xs.drop I).length=N-I:=by rw[wQ,c]
 have f:b.length=a.length:=by rw[g];simp only[wc,wm,wQ,e];omega
 refine⟨f,?_,?_⟩
 ·grind
 ·have e1:b.take (I+k)=xs.take I++ys:=by
    grind
  rw[e1,kG (by simp only[wc,wm,e,d,c];omega),kE (by simp only[wc,wm,e,d,c];omega)]
def qm3(k:Nat)(w:World)(g d n:Nat)(xs:List Value)(e:Ending)(w':World):Prop :=
 ∃(c cap:Nat) (a:Array Value) (f:TypeId),e = .returned (.slice (some ⟨c,0,none⟩) n cap)/\w'.heap[c]?=some (.cells a f (0,0))/\n<=cap/\cap*k<=a.size/\a.toList.take (n*k)=xs /\
  ((c=g/\a.size=d)\/w.heap.size<=c)/\w'.os=w.os/\w'.tape=w.tape/\w'.output=w.output/\w.heap.size<=w'.heap.size/\w.drawn<=w'.drawn/\∀ b,b<w.heap.size->b≠g->w'.heap[b]?=w.heap[b]?
theorem qwQ{P:Program}(w:World)(tS tR e:TypeId)(ht:P.underlying tS=some (.slice e))(size:Nat)(hz:∀ w,(Go.sizeOf e).run P w = .ok size w)
  (a b:Addr) (la ca lb cb:Nat) (hne:a.block≠b.block) (tA tB:TypeId) (kA kB:Nat)
  (hsa:w.shape? a.block=some (tA,kA)) (hkA:kA≠0) (hsb:w.shape? b.block=some (tB,kB))
  (hfb:w.frozen? b=false) (hfe:w.frozen? { block:=b.block,off:=kB }=false) :
  (Extern.SlicesOverlaps.overlaps #[tS,tS] #[tR] #[.slice (some a) la ca,.slice (some b) lb cb]).run P w = .ok (.bool false) w:=by
 have hnb:(a.block != b.block)=true:=by simpa using hne
 have hnb':(a.block==b.block)=false:=by simpa using hne
 change Sem.run P (α := Value) (do
  let some t:=(#[tS,tS]:Array TypeId)[0]? | stuck "slices.overlaps: no parameter types"
  let .slice elem <- underlying t | stuck "slices.overlaps: slice type expected"
  let size <- sizeOf elem
  match(some a:Option Addr),(some b:Option Addr)with
  | some a,some b =>
    if la=0\/lb=0\/size=0 then pure (Value.bool false)
    else if a.block != b.block&&(<- frozen a)&&(<- frozen b)then unsupported .addressObserved
    else do
     if a.block != b.block then do
      noView a;noView b
      if <- mayBeOne a b then return Value.bool ((<- choose _)==1)
     pure (Value.bool (a.block==b.block&&a.off<b.off+lb*size&&b.off<a.off+la*size))
  | _,_=>pure (Value.bool false)) w=_
 by_cases h0:la=0\/lb=0\/size=0
 ·simp[run_underlying ht,hz,h0]
 ·cases kA with
  | zero=>exact absurd rfl hkA
  | succ kA =>
    cases hfa:w.frozen? a with
    | true=>simp[run_underlying ht,hz,h0,hnb,hnb',frozen,noView,viewAt,mayBeOne,stringish,shape,Sem.run,hsa,hsb,hfb,hfe,hfa]
    | false =>
      cases hfk:w.frozen? { block:=a.block,off:=kA+1 }with
      | true=>simp[run_underlying ht,hz,h0,hnb,hnb',frozen,noView,viewAt,mayBeOne,stringish,shape,Sem.run,hsa,hsb,hfb,hfe,hfa,hfk]
      | false=>simp[run_underlying ht,hz,h0,hnb,hnb',frozen,noView,viewAt,mayBeOne,stringish,shape,Sem.run,hsa,hsb,hfb,hfe,hfa,hfk]
theorem qGF{w:World}{a:Addr}{u:Value}(d:a.spot=none)(h:w.cell? a=some u):∃ t n,w.shape? a.block=some (t,n)/\n≠0:=by
 unfold World.cell? at h;split at h
 ·rename_i c e f b;refine⟨e,c.size,by simp[World.shape?,b],λ g=>?_⟩;grind
 ·cases h
end Go.GxZ
namespace Go.AmZ
open Go Go.RowKit Go.GxZ
theorem qxy{Γ b:Gh}{σ σ1:St}{w t:World}{a:Ty}{l:List (Val a)}(m:Inv Γ σ w)(L:Ext Γ w b t)(y:Inv b σ1 t)(f : σ.bx=[]){j:Nat}{Q:Row}(E : σ1.rw[j]?=some Q)(F:Q.k=a.size)(s:Q.fz=0)(g:Q.off=false)(G:zg (yh a) Q.c=some l){u:Value}(D:Rep b (.rs j 0 l.length Q.ver false) u) :
  ∃ n,Ext Γ w n t/\Inv n ⟨[],σ.rw.map Q3++jY [.one (.row a)] (l,()),List.range σ.bx.length,List.range σ.rw.length⟩ t/\Rep n (zZ (jK [.one (.row a)] σ.rw.length (l,()))) u /\
   qX { σ with wr:=[],wrr:=[] } ⟨[],σ.rw.map Q3++jY [.one (.row a)] (l,()),List.range σ.bx.length,List.range σ.rw.length⟩:=by
 have r:qX { σ with wr:=[],wrr:=[] } ⟨[],σ.rw.map Q3++jY [.one (.row a)] (l,()),List.range σ.bx.length,List.range σ.rw.length⟩ :=
  ⟨by rw[f];exact wb _,by show σ.rw.length<=(σ.rw.map Q3++_).length;rw[wc,wA];exact kF _ _,λ i m _=>(by have m:i < σ.bx.length:=m;rw[f]at m;exact absurd m (wL _)),λ i m M=>absurd (kS.2 m) M,λ i h=>(by cases h),λ i h=>(by cases h)⟩
 obtain⟨A,X,W,J,I⟩:=qqW (σ0 := σ) (σ1 := σ1) m L y (by rw[f];exact we _) [] [] (by rw[f];rfl) (by simp) kT [] [(some j,⟨a.size,l.map (qi a),0,0,false⟩)] (λ i cs h=>by cases h)
  (λ i so R h=>by
   cases i with
   | zero =>
     cases h;refine⟨rfl,rfl,waD a,λ e B=>?_,λ e B=>?_,Q,E,F,s,by rw[wA];exact qY G,λ i e U P z=>?_,(by simp),g⟩
     ·obtain⟨v,_,rfl⟩:=wy.1 B;exact jA a v
     ·obtain⟨v,_,rfl⟩:=wy.1 B;exact zt a v
     ·obtain⟨v,g3,O⟩:=J8 G P;have z:(l.map (qi a))[i]?=some U:=z;rw[List.getElem?_map,g3]at z;cases z;exact qoL O
   | succ i=>cases h)
  (λ i j q R R' y N=>by
   cases i with
   | succ i=>cases y
   | zero=>cases j with
     | zero=>rfl
     | succ j=>cases N) (List.range σ.bx.length) (List.range σ.rw.length)
 refine⟨_,J,I,?_,r⟩;have H:=y.row j Q E;cases D with
 | rs _ _ _ _ _ V cap D Y C Z x =>
   have x:=x (H.ver (by rw[s];exact we _)).symm;show Rep _ (.rs σ.rw.length 0 l.length 0 false) _;have o:¬ σ.rw.length < σ.rw.length:=xQ _;have d : σ.rw.length - σ.rw.length=0:=kM _;refine .rs _ _ _ _ _ V cap (by show σ.rw.length < σ.rw.length+1;omega) (we _) C (λ h=>by cases h) λ _=>?_
   have T:(yQ b A σ.bx.length [] σ.rw.length [(some j,⟨a.size,l.map (qi a),0,0,false⟩)]).cur σ.rw.length=b.cur j:=by
    show(if σ.rw.length < σ.rw.length then _ else match[((some j:Option Nat),(⟨a.size,l.map (qi a),0,0,false⟩:Row))][σ.rw.length - σ.rw.length]? with | some (some j,_)=>b.cur j | _=>0)=_;rw[if_neg o,d];rfl
   have es:(yQ b A σ.bx.length [] σ.rw.length [(some j,⟨a.size,l.map (qi a),0,0,false⟩)]).sz σ.rw.length=b.sz j:=by
    show(if σ.rw.length < σ.rw.length then 0 else match[((some j:Option Nat),(⟨a.size,l.map (qi a),0,0,false⟩:Row))][σ.rw.length - σ.rw.length]? with | some (some j,_)=>b.sz j | _=>0)=_;rw[if_neg o,d];rfl
   have S:(yQ b A σ.bx.length [] σ.rw.length [(some j,⟨a.size,l.map (qi a),0,0,false⟩)]).k σ.rw.length=b.k j:=by
    show(if σ.rw.length < σ.rw.length then _ else match[((some j:Option Nat),(⟨a.size,l.map (qi a),0,0,false⟩:Row))][σ.rw.length - σ.rw.length]? with | some p=>p.2.k | none=>1)=_;rw[if_neg o,d,<- H.k,F];rfl
   rw[T,es,S];rw[H.off g]at x;exact x
theorem qMA{Γ g:Gh}{σ σ1:St}{w k:World}{a:Ty}(c:Inv Γ σ w)(s:Ext Γ w g k)(m:Inv g σ1 k)(b : σ.bx=[])(p:Option Addr) :
  ∃ d,Ext Γ w d k/\Inv d ⟨[],σ.rw.map Q3++jY [.one (.row a)] (([]:List (Val a)),()),List.range σ.bx.length,List.range σ.rw.length⟩ k/\Rep d (zZ (jK [.one (.row a)] σ.rw.length (([]:List (Val a)),()))) (.slice p 0 0) /\
   qX { σ with wr:=[],wrr:=[] } ⟨[],σ.rw.map Q3++jY [.one (.row a)] (([]:List (Val a)),()),List.range σ.bx.length,List.range σ.rw.length⟩:=by
 have f:qX { σ with wr:=[],wrr:=[] } ⟨[],σ.rw.map Q3++jY [.one (.row a)] (([]:List (Val a)),()),List.range σ.bx.length,List.range σ.rw.length⟩ :=
  ⟨by rw[b];exact wb _,by show σ.rw.length<=(σ.rw.map Q3++_).length;rw[wc,wA];exact kF _ _,λ i c _=>(by have c:i < σ.bx.length:=c;rw[b]at c;exact absurd c (wL _)),λ i c t=>absurd (kS.2 c) t,λ i h=>(by cases h),λ i h=>(by cases h)⟩
 obtain⟨x,v,u,o,n⟩:=qqW (σ0 := σ) (σ1 := σ1) c s m (by rw[b];exact we _) [] [] (by rw[b];rfl) (by simp) kT [] [(none,⟨a.size,[],0,0,false⟩)] (λ i cs h=>by cases h)
  (λ i so R h=>by
   cases i with
   | zero=>cases h;exact⟨rfl,rfl,waD a,(by intro e l;cases l),(by intro e l;cases l),rfl⟩
   | succ i=>cases h)
  (λ i j q R R' m y=>by cases i<;>cases m) (List.range σ.bx.length) (List.range σ.rw.length)
 refine⟨_,o,n,?_,f⟩;show Rep _ (.rs σ.rw.length 0 0 0 false) _;exact .rs _ _ _ _ _ p 0 (by show σ.rw.length < σ.rw.length+1;omega) (we _) (wb _) (λ h=>by cases h) λ _=>⟨.inl rfl,by rw[wP,kQ];exact we _⟩
def yN(Γ : Gh)(k:Nat)(c:List (List AV))(xs:List Value):Prop:=∀(i:Nat) (e:List AV) (j:Nat) (x:AV),c[i]?=some e->e[j]?=some x->∃ u,xs[i*k+j]?=some u/\Rep Γ x u/\u.oneCell'=true
theorem yN.take{Γ : Gh}{k:Nat}{c:List (List AV)}{xs:List Value}(h:yN Γ k c xs)(hk:∀ e∈c,e.length=k)(n:Nat):yN Γ k (c.take n) (xs.take (n*k)):=by
 intro i e j x h1 h2;rw[List.getElem?_take]at h1;split at h1
 case isFalse=>cases h1
 rename_i hin;obtain⟨u,u1,u2⟩:=h i e j x h1 h2;refine⟨u,?_,u2⟩;have hj:j<k:=by have:=getElem?_lt h2;rwa [hk e (wa h1)]at this
 have:(i+1)*k<=n*k:=wn _ hin;grind
theorem yN.drop{Γ : Gh}{k:Nat}{c:List (List AV)}{xs:List Value}(h:yN Γ k c xs)(n:Nat):yN Γ k (c.drop n) (xs.drop (n*k)):=by
 intro i e j x a b;rw[List.getElem?_drop]at a;obtain⟨u,u1,u2⟩:=h _ e j x a b;grind
theorem yN.app{Γ : Gh}{k:Nat}{c a:List (List AV)}{xs ys:List Value}(h:yN Γ k c xs)(f:yN Γ k a ys)(b:xs.length=c.length*k)(d:∀ e∈c,e.length=k):yN Γ k (c++a) (xs++ys):=qrJ b d h f
theorem qkD{P:Program}{f:FuncId}{Γ : Gh}{σ : St}{w:World}{d:List Value}{a:Ty}{R:Row}{l:List (Val a)}{c:List (List AV)}{xs:List Value}{n:Nat}(r:Inv Γ σ w)(M : σ.bx=[])(t : σ.rw[0]?=some R)(y:R.k=a.size)(A:R.fz=0)(m:R.off=false)(F : Γ.sz 0≠0)(hn:n=l.length)
  (p:zg (yh a) c=some l) (v:∀ e∈c,e.length=a.size) (G:∀ e∈c,∀ x∈e,qy x=true) (hx:yN Γ a.size c xs)
  (h:Calls P f d.toArray w (qm3 a.size w (Γ.cur 0) (Γ.sz 0) n xs)) :
  Js P Γ σ w f d (zZ (jK [.one (.row a)] σ.rw.length (l,())),some ⟨[],σ.rw.map Q3++jY [.one (.row a)] (l,()),List.range σ.bx.length,List.range σ.rw.length⟩):=by
 subst hn;refine Calls.mono h ?_;rintro e w' ⟨g,cap,S,et,rfl,h1,U,T,h4,C,h6,h7,h8,h9,O,D⟩;have H:=r.row 0 R t;have B:c.length=l.length:=qY p;have s:∀ off,Γ.mem (Γ.cur 0) off=none := λ off=>H.un F off (by rw[A,kQ,H.off m];exact we _)
 obtain⟨W,e1,i1,r1⟩:=qtW (w':=w') r t (H.off m) (R':=⟨R.k,c,R.ver+1,0,false⟩) (by rw[A];exact we _) rfl (g:=g) (vs:=S) (e:=et) (.inl rfl) (λ e L=>(v e L).trans y.symm) G (we _) (qAP _) (λ _=>rfl) h1
  (by show c.length*R.k<=_;rw[B,y];exact wD (wn _ U) T)
  (λ off _=>by
   rcases C with⟨rfl,_⟩ | C
   ·exact s off
   ·cases q : Γ.mem g off with
    | none=>rfl
    | some u=>have:=r.mem_lt q;omega)
  (λ i e j x Q V=>by
   obtain⟨u,u1,u2⟩:=hx i e j x Q V;refine⟨u,?_,u2⟩;rw[y,<- Array.getElem?_toList]
   have J:i*a.size+j<l.length*a.size:=by
    have K:i<l.length:=by have:=getElem?_lt Q;rwa [<- B]
    have hj:j<a.size:=by have:=getElem?_lt V;rwa [v e (wa Q)]at this
    have:(i+1)*a.size<=l.length*a.size:=wn _ K;rw[kU]at this;omega
   rw[<- h4,List.getElem?_take,if_pos J]at u1;exact u1)
  (λ b o u q=>by
   have N:b ≠ Γ.cur 0 := λ L=>by rw[L,s]at q;cases q
   rw[show w'.cell? _=w.cell? _ from World.cell?_of_block (D b (r.mem_lt q) N)];exact(r.mem b o u q).1)
  (λ b N I=>D b N (I.elim id λ h0=>absurd h0 F))
  (by
   rcases C with⟨rfl,_⟩ | C
   ·exact .inl ⟨rfl,F⟩
   ·exact .inr C) h6 h7 h8 h9 O σ.wrr
 have z:({ σ with rw := σ.rw.set 0 ⟨R.k,c,R.ver+1,0,false⟩,wrr := σ.wrr }:St).rw[0]?=some ⟨R.k,c,R.ver+1,0,false⟩:=by
  grind
 obtain⟨E,z1,Z,Y,X⟩:=qxy (l:=l) r e1 i1 M z y rfl rfl p (r1 l.length cap U (by rw[y];exact T));exact⟨_,E,rfl,z1,Z,Y,X⟩
theorem qzc{Γ : Gh}{σ : St}{w:World}(f:Inv Γ σ w){R:Row}{r:Nat}(a : σ.rw[r]?=some R)(b:R.off=false)(n : Γ.sz r≠0){m:TypeId}{d:Array Value}(g:w.heap[Γ.cur r]?=some (.cells d m (0,0)))(i:Nat)(e:List AV)(j:Nat)(x:AV)(l:R.c[i]?=some e)(h:e[j]?=some x) :
  ∃ u,d[i*R.k+j]?=some u/\Rep Γ x u/\u.oneCell'=true:=by
 obtain⟨u,u1,u2⟩:=(f.row r R a).cells i e j x l h;refine⟨u,?_,u2⟩;rw[(f.row r R a).off b,wG]at u1;simpa[World.cell?,g]using u1
theorem qEz{cs:List (List AV)}{k:Nat}{xs:List Value}(n:∀ e∈cs,e.length=k)(f:0<k)(m:xs.length=cs.length*k)
  (h:∀(i:Nat) (e:List AV) (j:Nat) (x:AV),cs[i]?=some e->e[j]?=some x->∃ u,xs[i*k+j]?=some u/\u.oneCell'=true):∀ u∈xs,u.oneCell'=true:=by
 intro u g;obtain⟨q,c⟩:=List.getElem?_of_mem g;have b:=getElem?_lt c;rw[m]at b;have a:q / k<cs.length:=(xW f).2 b;have l:q % k<k:=xS _ f;have o:=n _ (wW a);obtain⟨r,d,p⟩:=h (q / k) _ (q % k) _ (List.getElem?_eq_getElem a) (List.getElem?_eq_getElem (by rw[o];exact l));rw[show q / k*k+q % k=q by rw[xF];exact vn q k]at d;rw[d]at c;cases c;exact p
theorem qoy{σ : St}{τ : Ty}{r:List SA}{nb c:Nat}{ys:List AV}{a:QF (.val τ :: r)}(h:dS σ (.val τ :: r) nb c ys=some a):∃ y b,ys=y::b/\QW τ y=some a.1/\dS σ r nb c b=some a.2:=by
 cases ys with
 | nil=>simp[dS]at h
 | cons y ys =>
   grind [dS]
theorem qvO{σ : St}{τ : Ty}{r:List SA}{nb d:Nat}{ys:List AV}{a:QF (.row τ :: r)}(h:dS σ (.row τ :: r) nb d ys=some a):∃ y b c,ys=y::b/\qdR σ τ d y=some (a.1,c)/\dS σ r nb c b=some a.2:=by
 cases ys with
 | nil=>simp[dS]at h
 | cons y ys =>
   grind [dS]
theorem qma{σ : St}{nb b:Nat}{ys:List AV}{a:QF []}(h:dS σ [] nb b ys=some a):ys=[]/\nb = σ.bx.length/\b = σ.rw.length:=by
 grind [dS]
theorem qhd{σ : St}{τ : Ty}{y:AV}{l:List (Val τ)}{a:Nat}(h:qdR σ τ 0 y=some (l,a)) :
  (a=1/\∃ R,y = .rs 0 0 R.c.length R.ver false /\ σ.rw[0]?=some R/\R.k = τ.size/\(R.fz=0/\R.off=false)/\zg (yh τ) R.c=some l)\/(a=0/\l=[]/\(y = .v (.slice none 0 0)\/∃ f,y = .sl τ.size [] f/\2<=f)):=by
 unfold qdR at h;split at h
 ·grind
 ·split at h<;>cases h;rename_i e b;refine .inr ⟨rfl,rfl,?_⟩;have b:=of_decide_eq_true b;rcases jh e with⟨rfl,_⟩ | ⟨es,n,rfl,d⟩
  ·exact .inl rfl
  ·have:es=[]:=wk (qY d);subst this;exact .inr ⟨_,rfl,b⟩
theorem qk2{Γ : Gh}{τ : Ty}{y:AV}{v:Val τ}{u:Value}(h:QW τ y=some v)(a:Rep Γ y u):Rep Γ (yL τ v) u:=qsR h _ _ a
theorem qwt{a:Ty}(l:List (Val a)):dlist a (.sl a.size (l.map (qi a)) 1)=some l:=by
 show jx a.size (yh a) _=some l;simp only[jx];rw[show zi a.size a.size=true from decide_eq_true rfl];exact qb3 (λ v=>Qi a v) l
structure qoe (P:Program) (a:Ty) (tS tE:TypeId) (bytes:Nat):Prop where
 td:∃ q1 q2 q3 q4 z,jD P tS=some ⟨q1,q2,q3,q4,.slice tE a.size bytes z⟩/\z.length=a.size
def qIs(t:TypeId)(d:TD):Cfg:=⟨λ a=>if a=t then some d else none,λ _=>none,λ _=>none,λ _=>false,λ _=>[],λ _=>false⟩
theorem qrH{P:Program}{a:Ty}{b g:TypeId}{bytes:Nat}(q:qoe P a b g bytes){Γ : Gh}{σ : St}{w:World}(p:Inv Γ σ w){s:AV}{i c:Value}{es:List (List AV)}{f:Nat}(o:Rep Γ s i)(n:Rep Γ (.sl a.size es f) c)(B:∀ e∈es,e.length=a.size)(A:∀ e∈es,∀ x∈e,qy x=true){x:AV}{σ':Option St}(h:yc a.size bytes σ s es=some (x,σ'))(ty:TypeId) :
  ∃ v w' Γ',(Builtin.append_ #[b,b] ty #[i,c]).run P w = .ok v w'/\Ext Γ w Γ' w'/\Inv Γ' (turn σ σ') w'/\Rep Γ' x v:=by
 obtain⟨m,l,k,j,z,D,r⟩:=q.td;refine qzl (C:=qIs b ⟨m,l,k,j,.slice g a.size bytes z⟩) (λ t d y=>?_) p o n (t:=b) (u:=b) rfl rfl (if_pos rfl) (if_pos rfl) (waD a) r (xs:=es) ?_ ?_ h
 ·grind [qIs]
 ·grind [elems,zi]
 ·grind [uni]
theorem qCO(b o j:Nat):(⟨b,o,none⟩:Addr).add j=⟨b,o+j,none⟩:=by unfold Addr.add;split<;>simp_all
theorem qK4 {P:Program} {N:FuncId} {a:Ty} {tS tE:TypeId} {bytes:Nat} (hf:qgJ P N) (hT:qoe P a tS tE bytes) (hb:bytes<=2 ^ 24)
  (hend:∀ (w:World) (p:Option Addr) (n c:Nat) (ad:Addr) (c2:Nat) (v':Value) (w':World),n<=100000->(Builtin.append_ #[tS,tS] tS #[.slice p n c,.slice (some ad) 1 c2]).run P w = .ok v' w'->Calls P N #[.slice p n c,.int .i64 n,.slice (some ad) 1 c2] w λ e w1=>e = .returned v'/\w1=w')
  (hroom:∀ (w:World) (g n c i:Nat) (et:TypeId) (cur:Array Value) (xs:List Value),Blk w g et cur->c*a.size<=cur.size->cur.toList.take (n*a.size)=xs->(∀ u∈xs,u.oneCell'=true)->∀ (g2 o2 c2:Nat) (ys:List Value),ys.length=a.size->(∀ j u,ys[j]? = some u->w.cell? ⟨g2,o2+j,none⟩=some u)->(∀ u∈ys,u.oneCell'=true)->g2≠g->n<=100000->i<n->n+1<=c ->
   Calls P N #[.slice (some ⟨g,0,none⟩) n c,.int .i64 i,.slice (some ⟨g2,o2,none⟩) 1 c2] w (qm3 a.size w g cur.size (n+1) (xs.take (i*a.size)++ys++xs.drop (i*a.size))))
  (hgrow:∀ (w:World) (g n i:Nat) (et:TypeId) (cur:Array Value) (xs:List Value),Blk w g et cur->n*a.size<=cur.size->cur.toList.take (n*a.size)=xs->(∀ u∈xs,u.oneCell'=true)->∀ (g2 o2 c2:Nat) (ys:List Value),ys.length=a.size->(∀ j u,ys[j]? = some u->w.cell? ⟨g2,o2+j,none⟩=some u)->(∀ u∈ys,u.oneCell'=true)->n<=100000->i<n ->
   Calls P N #[.slice (some ⟨g,0,none⟩) n n,.int .i64 i,.slice (some ⟨g2,o2,none⟩) 1 c2] w (qm3 a.size w g cur.size (n+1) (xs.take (i*a.size)++ys++xs.drop (i*a.size))))
  {fn:List (Val a)->Int->List (Val a)->Option (Unit × List (Val a) × Unit)} (hfn:∀ l i v r,fn l i v=some r->(∃ e,v=[e])/\0<=i/\i<=l.length/\l.length<=100000/\r=((),l.take i.toNat++(v++l.drop i.toNat),())) (hk1':a.size≠1:=by first | assumption | decide) :
  qZ P N (sgP ⟨[.row a,.val (.int .i64),.val (.list a)],[.one (.row a)],λ x=>fn x.1 x.2.1 x.2.2.1⟩):=by
 refine ⟨hf,λ Γ σ w args vals r hi hr hp=>?_⟩;unfold sgP at hp;split at hp<;>try cases hp
 rename_i x hx;split at hp<;>cases hp;rename_i v0 hv0;obtain ⟨l,i,v,_⟩:=x;obtain ⟨⟨e,rfl⟩,hi0,hil,hl,rfl⟩:=hfn _ _ _ _ hv0;obtain ⟨i,rfl⟩:=ko hi0;have hil:i<=l.length:=Int.ofNat_le.1 hil;have hl:l.length<=100000:=hl;obtain ⟨y0,ys0,nr,rfl,hy0,hx⟩:=qvO hx;obtain ⟨y1,ys1,rfl,hy1,hx⟩:=qoy hx;obtain ⟨y2,ys2,rfl,hy2,hx⟩:=qoy hx;obtain ⟨rfl,hbx,hrw⟩:=qma hx;obtain ⟨u0,r0,rfl,hu0,hr⟩:=hr.uncons;obtain ⟨u1,r1,rfl,hu1,hr⟩:=hr.uncons;obtain ⟨u2,r2,rfl,hu2,hr⟩:=hr.uncons;have:=hr.nil_inv;subst this;have hu1:=zo (qk2 hy1 hu1);subst hu1;have hb0 : σ.bx=[]:=wk hbx.symm;have hL:Rep Γ (.sl a.size ([e].map (qi a)) 1) u2:=qk2 hy2 hu2;obtain ⟨p2,n2,c2,rfl,hn2,hC⟩:=qCy hi (qwt [e]) hL;have hn2':n2=1:=by rw [<- hC.len];rfl
 subst hn2';rcases hC.at_ with hC0 | ⟨b2,o2,rfl,hC1⟩
 ·cases hC0
 obtain ⟨ys,y1',y2',y3,y4⟩:=qhf (Γ := Γ) (waD a) hC.size hC1;have y1'':ys.length=a.size:=by rw [y1'];exact xw _
 have hne1:zi (qaM [qi a e]) 0=false:=rfl;have hadd:∀ (b o j:Nat),(⟨b,o,none⟩:Addr).add j=⟨b,o+j,none⟩:=qCO;have hcells:∀ j u,ys[j]? = some u->w.cell? ⟨b2,o2+j,none⟩=some u := λ j u hj=>by rw [<- hadd];exact y2' j u hj
 have hsz:(1:Nat)*bytes<=2 ^ 47:=by omega
 have hk1:∀ q∈[qi a e],q.length=a.size:=by intro q hq;rw [wH.1 hq];exact jA a e
 have hp1:∀ q∈[qi a e],∀ x∈q,qy x=true:=by intro q hq;rw [wH.1 hq];exact zt a e
 rcases qhd hy0 with ⟨hnr,R,rfl,hR,hRk,hRf,hRd⟩ | ⟨hnr,hl0,hy⟩
 ·have H:=hi.row 0 R hR;have hcl:R.c.length=l.length:=qY hRd;cases hu0 with
  | rs _ _ _ _ _ p cap hr1 hr2 hr3 hr4 hr5 =>
  obtain ⟨hp0,hfit⟩:=hr5 (H.ver (by rw [hRf.1];exact we _)).symm;rw [H.off hRf.2,wG] at hp0 hfit;by_cases hin:i=l.length
  ·-- at the end
   have happ:yc a.size bytes σ (.rs 0 0 R.c.length R.ver false) [qi a e]=some (.rs 0 0 (R.c.length+1) (R.ver+1) false,some { σ with rw := σ.rw.set 0 { R with c:=R.c++[qi a e],ver:=R.ver+1 },wrr:=0 :: σ.wrr }):=by
    have hcond:R.k=a.size/\R.ver=R.ver/\R.c.length=R.c.length/\(0:Nat)=0/\false=false/\R.fz<=R.c.length/\(R.c.length+[qi a e].length)*bytes<=2 ^ 47/\R.c.length+[qi a e].length<2 ^ 62:=by
     refine ⟨hRk,rfl,rfl,rfl,rfl,by rw [hRf.1];exact we _,?_,?_⟩
     ·have:(R.c.length+1)*bytes<=100001*2 ^ 24:=vO (by omega) hb;grind
     ·show R.c.length+1<_;omega
    have hap:qsS R a.size 0 R.c.length R.ver false bytes [qi a e]=some ({ R with c:=R.c++[qi a e],ver:=R.ver+1 },R.c.length+1):=if_pos hcond;grind [yc]
   obtain ⟨v',w',Γ',g1,g2,g3,g4⟩:=qrH hT hi (.rs 0 0 _ _ _ p cap hr1 hr2 hr3 hr4 hr5) hL hk1 hp1 happ tS;have hcall:=hend w p R.c.length cap ⟨b2,o2,none⟩ c2 v' w' (by omega) g1;rw [show ((R.c.length:Nat):Int)=((i:Nat):Int) by omega] at hcall;refine Calls.mono hcall ?_;rintro e1 w1 ⟨rfl,rfl⟩
   have hget:(turn σ (some { σ with rw := σ.rw.set 0 { R with c:=R.c++[qi a e],ver:=R.ver+1 },wrr:=0 :: σ.wrr })).rw[0]? = some { R with c:=R.c++[qi a e],ver:=R.ver+1 }:=by
    show (σ.rw.set 0 _)[0]? = _;grind
   have hd:zg (yh a) (R.c++[qi a e])=some (l++[e]):=qad hRd (qb3 (λ v=>Qi a v) [e])
   have hlist:l.take ((i:Nat):Int).toNat++([e]++l.drop ((i:Nat):Int).toNat)=l++[e]:=by
    rw [wF,hin,wC,wT,wB]
   obtain ⟨Γ2,z1,z2,z3,z4⟩:=qxy (l:=l++[e]) hi g2 g3 hb0 hget hRk hRf.1 hRf.2 hd (u:=v') (by rw [wc,<- hcl];exact g4);rw [hlist];exact ⟨_,Γ2,rfl,z1,z2,z3,z4⟩
  ·-- within
   have hpos:cap≠0:=by omega
   have hpe:p=some ⟨Γ.cur 0,0,none⟩:=by
    grind
   subst hpe;have hk0:=waD a;have hck:1*a.size<=cap*a.size:=wn _ (by omega);rw [<- H.k,hRk,wG] at hfit;have hz : Γ.sz 0≠0:=by omega
   obtain ⟨vs,et,frz,hvs,hvsz,hsof,hfr0⟩:=H.blk hz;obtain rfl:frz=(0,0):=hfr0 (by rw [hRk];exact hk1')
   have hca:yN Γ a.size R.c (vs.toList.take (R.c.length*a.size)):=by
    have hh:yN Γ a.size R.c vs.toList := λ q e j x q1 q2=>by
     obtain ⟨u,u1,u2⟩:=qzc hi hR hRf.2 hz hvs q e j x q1 q2;grind
    have:=hh.take (λ e he=>(H.len e he).trans hRk) R.c.length
    rwa [wC] at this
   have hlk:∀ e∈R.c,e.length=a.size := λ e he=>(H.len e he).trans hRk;have hnk:R.c.length*a.size<=vs.size:=by rw [hvsz];exact wD (wn _ hr3) hfit
   have hxl:(vs.toList.take (R.c.length*a.size)).length=R.c.length*a.size:=by rw [wm,wM];exact kK hnk
   have h1:=qEz hlk hk0 hxl (λ q e j x q1 q2=>by obtain ⟨u,u1,u2,u3⟩:=hca q e j x q1 q2;exact ⟨u,u1,u3⟩)
   have hne:b2 ≠ Γ.cur 0:=by
    intro he;have hj:=hC1;cases hL with
    | sl _ _ _ _ _ _ b o us s1 s2 s3 s4 s5 s6 s7 s8 s9 =>
      rcases s7 with s7 | s7
      ·cases s7
      ·cases s7;have hel:=jA a e;have hm:=s8 0 (qi a e) 0 _ rfl (List.getElem?_eq_getElem (by rw [hel];exact hk0));have:=H.un hz (o2+0*a.size+0) (by rw [hRf.1,kQ,H.off hRf.2];exact we _);rw [he,this] at hm;cases hm
   have hgo:Calls P N #[.slice (some ⟨Γ.cur 0,0,none⟩) R.c.length cap,.int .i64 i,.slice (some ⟨b2,o2,none⟩) 1 c2] w (qm3 a.size w (Γ.cur 0) (Γ.sz 0) (R.c.length+1) ((vs.toList.take (R.c.length*a.size)).take (i*a.size)++ys++(vs.toList.take (R.c.length*a.size)).drop (i*a.size))):=by
    rw [<- hvsz];by_cases hroom':R.c.length+1<=cap
    ·exact hroom w (Γ.cur 0) R.c.length cap i et vs _ hvs (by rw [hvsz];exact hfit) rfl h1 b2 o2 c2 ys y1'' hcells y3 hne (by omega) (by omega) hroom'
    ·obtain rfl:cap=R.c.length:=by omega
     exact hgrow w (Γ.cur 0) R.c.length i et vs _ hvs hnk rfl h1 b2 o2 c2 ys y1'' hcells y3 (by omega) (by omega)
   have hik:i*a.size<=R.c.length*a.size:=wn _ (by omega);have hdec:zg (yh a) (R.c.take i++[qi a e]++R.c.drop i)=some (l.take i++[e]++l.drop i):=qad (qad (qhj i hRd) (qb3 (λ v=>Qi a v) [e])) (qfo i hRd);have hlist:l.take ((i:Nat):Int).toNat++([e]++l.drop ((i:Nat):Int).toNat)=l.take i++[e]++l.drop i:=by rw [wF,wi]
   rw [hlist];refine qkD hi hb0 hR hRk hRf.1 hRf.2 hz (n:=R.c.length+1) ?_ hdec (λ q hq=>?_) (λ q hq=>?_) ?_ hgo
   ·grind
   ·grind
   ·rcases ww.1 hq with hq | hq
    ·rcases ww.1 hq with hq | hq
     ·exact H.plain q (wY hq)
     ·exact hp1 q hq
    ·exact H.plain q (wX hq)
   ·have hy4:yN Γ a.size [qi a e] ys:=y4;have ht:=hca.take hlk i;have hd:=hca.drop i;refine yN.app (yN.app ht hy4 ?_ λ q hq=>hlk q (wY hq)) hd ?_ ?_
    ·grind
    ·grind
    ·grind
 ·-- nothing was there
  subst hl0;have hi0:i=0:=by simpa using hil
  subst hi0;have hrow:rowNew a.size bytes [qi a e]=some (⟨a.size,[qi a e],0,0,false⟩,1):=if_pos ⟨hsz,by show (1:Nat)<_;omega⟩
  have happ:yc a.size bytes σ y0 [qi a e]=some (.rs σ.rw.length 0 1 0 false,some { σ with rw := σ.rw++[⟨a.size,[qi a e],0,0,false⟩] })/\∃ p,u0 = .slice p 0 0:=by
   rcases hy with rfl | ⟨f,rfl,hf2⟩
   ·refine ⟨?_,none,zo hu0⟩;simp only [yc,hne1,hrow]
   ·refine ⟨?_,?_⟩
    ·have e1:(decide (1<f)&&zi a.size a.size&&uni a.size [])=true:=by
       rw [decide_eq_true (show 1<f by omega),show zi a.size a.size=true from decide_eq_true rfl];rfl
     grind [yc,ql6]
    ·cases hu0 with
     | sl _ _ _ p n cap b o us s1 s2 s3 =>
       grind
  obtain ⟨happ,p,rfl⟩:=happ;obtain ⟨v',w',Γ',g1,g2,g3,g4⟩:=qrH hT hi hu0 hL hk1 hp1 happ tS;refine Calls.mono (hend w p 0 0 ⟨b2,o2,none⟩ c2 v' w' (by omega) g1) ?_;rintro e1 w1 ⟨rfl,rfl⟩
  have hget:(turn σ (some { σ with rw := σ.rw++[⟨a.size,[qi a e],0,0,false⟩] })).rw[σ.rw.length]? = some ⟨a.size,[qi a e],0,0,false⟩:=by
   show (σ.rw++_)[σ.rw.length]? = _;grind
  obtain ⟨Γ2,z1,z2,z3,z4⟩:=qxy (l:=[e]) hi g2 g3 hb0 hget rfl rfl rfl (qb3 (λ v=>Qi a v) [e]) (u:=v') g4;exact ⟨_,Γ2,rfl,z1,z2,z3,z4⟩
theorem qxJ{Γ : Gh}{σ : St}{w:World}(J:Inv Γ σ w){a:Ty}{R:Row}(K : σ.rw[0]?=some R)(f:R.k=a.size)(g:R.fz=0/\R.off=false){u0:Value}(y:Rep Γ (.rs 0 0 R.c.length R.ver false) u0)(n:a.size≠1:=by first | assumption | decide) :
  ∃ p cap,u0 = .slice p R.c.length cap/\R.c.length<=cap/\(cap=0\/p=some ⟨Γ.cur 0,0,none⟩ /\ Γ.sz 0≠0/\∃ vs G,Blk w (Γ.cur 0) G vs/\vs.size = Γ.sz 0/\cap*a.size<=vs.size/\yN Γ a.size R.c (vs.toList.take (R.c.length*a.size))/\(vs.toList.take (R.c.length*a.size)).length=R.c.length*a.size/\(∀ u∈vs.toList.take (R.c.length*a.size),u.oneCell'=true)):=by
 have H:=J.row 0 R K;cases y with
 | rs _ _ _ _ _ p cap N M l L z =>
 obtain⟨B,b⟩:=z (H.ver (by rw[g.1];exact we _)).symm;rw[H.off g.2,wG]at B b;refine⟨p,cap,rfl,l,?_⟩;by_cases m:cap=0
 ·exact .inl m
 right
 have A:p=some ⟨Γ.cur 0,0,none⟩:=by
  grind
 subst A;have E:=waD a;have P:1*a.size<=cap*a.size:=wn _ (by omega);rw[<- H.k,f,wG]at b;have v : Γ.sz 0≠0:=by omega
 obtain⟨vs,G,frz,i,d,I,o⟩:=H.blk v;obtain rfl:frz=(0,0):=o (by rw[f];exact n)
 have r:yN Γ a.size R.c (vs.toList.take (R.c.length*a.size)):=by
  have O:yN Γ a.size R.c vs.toList := λ q e j x t s=>by
   obtain⟨u,u1,u2⟩:=qzc J K g.2 v i q e j x t s;grind
  have:=O.take (λ e F=>(H.len e F).trans f) R.c.length
  rwa [wC]at this
 have D:∀ e∈R.c,e.length=a.size := λ e F=>(H.len e F).trans f;have C:R.c.length*a.size<=vs.size:=by rw[d];exact wD (wn _ l) b
 have h:(vs.toList.take (R.c.length*a.size)).length=R.c.length*a.size:=by rw[wm,wM];exact kK C
 have Q:=qEz D E h (λ q e j x t s=>by obtain⟨u,u1,u2,u3⟩:=r q e j x t s;exact⟨u,u1,u3⟩);exact⟨rfl,v,vs,G,i,d,by rw[d];exact b,r,h,Q⟩
theorem qLg{P:Program}{N:FuncId}{a:Ty}(hf:qgJ P N)
  (F:∀(w:World) (g m c i:Nat) (et:TypeId) (b:Array Value) (xs:List Value),Blk w g et b->c*a.size<=b.size->b.toList.take ((m+1)*a.size)=xs->(∀ u∈xs,u.oneCell'=true)->m<=100000->i<=m->m+1<=c ->
   Calls P N #[.slice (some ⟨g,0,none⟩) (m+1) c,.int .i64 i,.int .i64 ((i:Int)+1)] w (qm3 a.size w g b.size m (xs.take (i*a.size)++xs.drop ((i+1)*a.size))))
  {fn:List (Val a)->Int->Int->Option (Unit × List (Val a) × Unit)} (W:∀ l i j r,fn l i j=some r->j=i+1/\0<=i/\i<l.length/\l.length<=100000/\r=((),l.take i.toNat++l.drop (i.toNat+1),())) (ab:a.size≠1:=by first | assumption | decide) :
  qZ P N (sgP ⟨[.row a,.val (.int .i64),.val (.int .i64)],[.one (.row a)],λ x=>fn x.1 x.2.1 x.2.2.1⟩):=by
 refine⟨hf,λ Γ σ w ad aa r V s A=>?_⟩;unfold sgP at A;split at A<;>try cases A
 rename_i x f;split at A<;>cases A;rename_i v0 O;obtain⟨l,i,j,_⟩:=x;obtain⟨T,U,C,hl,rfl⟩:=W _ _ _ _ O;have T:j=i+1:=T;subst T;obtain⟨i,rfl⟩:=ko U;have C:i<l.length:=Int.ofNat_lt.1 C;have hl:l.length<=100000:=hl;obtain⟨y0,ag,nr,rfl,L,f⟩:=qvO f;obtain⟨y1,af,rfl,K,f⟩:=qoy f;obtain⟨y2,ae,rfl,J,f⟩:=qoy f;obtain⟨rfl,X,ai⟩:=qma f;obtain⟨u0,r0,rfl,Q,s⟩:=s.uncons;obtain⟨u1,r1,rfl,o,s⟩:=s.uncons;obtain⟨u2,r2,rfl,k,s⟩:=s.uncons;have:=s.nil_inv;subst this;have o:=zo (qk2 K o);subst o;have k:=zo (qk2 J k);subst k;have Y : σ.bx=[]:=wk X.symm;rcases qhd L with⟨S,R,rfl,Z,t,v,y⟩ | ⟨S,aj,hy⟩
 ·have H:=V.row 0 R Z;have al:R.c.length=l.length:=qY y;have B:∀ e∈R.c,e.length=a.size := λ e he=>(H.len e he).trans t;obtain⟨p,cap,rfl,ac,h | ⟨rfl,hz,vs,et,M,z,E,I,ah,h1⟩⟩:=qxJ V Z t v Q
  ·omega
  ·obtain⟨m,hm⟩:∃ m,R.c.length=m+1:=⟨R.c.length-1,by omega⟩
   have ak:(i+1)*a.size<=R.c.length*a.size:=wn _ (by omega);have D:=F w (Γ.cur 0) m cap i et vs _ M E (by rw[<- hm]) h1 (by omega) (by omega) (by omega);rw[<- hm,z]at D
   have G:zg (yh a) (R.c.take i++R.c.drop (i+1))=some (l.take ((i:Nat):Int).toNat++l.drop (((i:Nat):Int).toNat+1)):=by
    rw[wF];exact qad (qhj i y) (qfo (i+1) y)
   refine qkD V Y Z t v.1 v.2 hz (n:=m) ?_ G (λ q d=>?_) (λ q d=>?_) ?_ D
   ·grind
   ·grind
   ·rcases ww.1 d with d | d
    ·exact H.plain q (wY d)
    ·exact H.plain q (wX d)
   ·refine yN.app (I.take B i) (I.drop (i+1)) ?_ λ q d=>B q (wY d);grind
 ·grind
theorem qGm{P:Program}{N:FuncId}{a:Ty}(R:qgJ P N){most:Nat}
  (F:∀(w:World) (p:Option Addr) (n c:Nat) (xs:List Value),xs.length=n*a.size->(n=0\/∃ ad,p=some ad/\∀ j u,xs[j]?=some u->w.cell? (ad.add j)=some u)->(∀ u∈xs,u.oneCell'=true)->n<=most->Calls P N #[.slice p n c] w λ e w'=>∃ v,e = .returned v/\Fresh w a.size n xs v w')
  {fn:List (Val a)->Option (Unit × List (Val a) × Unit)} (E:∀ l r,fn l=some r->l.length<=most/\r=((),l,())) :
  qZ P N (sgP ⟨[.val (.list a)],[.one (.row a)],λ x=>fn x.1⟩):=by
 refine⟨R,λ Γ σ w L J r D A g=>?_⟩;unfold sgP at g;split at g<;>try cases g
 rename_i x s;split at g<;>cases g;rename_i X t;obtain⟨l,_⟩:=x;obtain⟨C,rfl⟩:=E _ _ t;have C:l.length<=most:=C;obtain⟨T,M,rfl,q,s⟩:=qoy s;obtain⟨rfl,G,z⟩:=qma s;obtain⟨u0,Y,rfl,y,A⟩:=A.uncons;have:=A.nil_inv;subst this;have k : σ.bx=[]:=wk G.symm;have d : σ.rw=[]:=wk z.symm;have S:Rep Γ (.sl a.size (l.map (qi a)) 1) u0:=qk2 q y;obtain⟨p,n,c,rfl,Z,I⟩:=qCy D (qwt l) S;have B:l.length=n:=by rw[<- I.len,wA]
 subst B;rcases I.at_ with m | ⟨b,o,rfl,H⟩
 ·have h:l.length=0:=by rw[<- wA (f:=qi a),m];rfl
  refine qnJ (xs:=[]) D k d (λ i e j x K=>by rw[m]at K;cases K) ?_;exact F w p l.length c [] (by rw[h];simp) (.inl h) (λ u Q=>by cases Q) C
 ·obtain⟨xs,W,V,U,O⟩:=qhf (Γ := Γ) (waD a) I.size H;refine qnJ (xs:=xs) D k d O ?_;grind
theorem qMV{σ : St}{r:List SA}{nb c:Nat}{ys:List AV}{a:QF (.nil::r)}(h:dS σ (.nil::r) nb c ys=some a):∃ b,ys = .v (.slice none 0 0)::b/\dS σ r nb c b=some a:=by
 cases ys with
 | nil=>simp[dS]at h
 | cons y ys =>
   simp only[dS]at h;split at h
   ·rename_i d;exact⟨ys,by rw[qza d],h⟩
   ·cases h
theorem qHZ{P:Program}{N:FuncId}{a:Ty}(C:qgJ P N){most:Nat}
  (B:∀(w:World) (n:Nat),n<=most->Calls P N #[.slice none 0 0,.int .i64 n] w λ e w'=>∃ v,e = .returned v/\Fresh w a.size 0 [] v w')
  {fn:Int->Option (Unit × List (Val a) × Unit)} (q:∀ n r,fn n=some r->0<=n/\n<=most/\r=((),[],())) :
  qZ P N (sgP ⟨[.nil,.val (.int .i64)],[.one (.row a)],λ x=>fn x.1⟩):=by
 refine⟨C,λ Γ σ w u t r A g h=>?_⟩;unfold sgP at h;split at h<;>try cases h
 rename_i x f;split at h<;>cases h;rename_i E m;obtain⟨z,rfl,f⟩:=qMV f;obtain⟨n,_⟩:=x;obtain⟨p,d,rfl⟩:=q _ _ m;obtain⟨n,rfl⟩:=ko p;have d:n<=most:=Int.ofNat_le.1 d;obtain⟨y1,y,rfl,k,f⟩:=qoy f;obtain⟨rfl,s,o⟩:=qma f;obtain⟨u0,G,rfl,c,g⟩:=g.uncons;obtain⟨u1,F,rfl,b,g⟩:=g.uncons;have:=g.nil_inv;subst this;have c:=zo c;subst c;have b:=zo (qk2 k b);subst b;exact qnJ (a:=a) (l:=[]) (xs:=[]) A (wk s.symm) (wk o.symm) (λ i e j x D=>by cases D) (B w n d)
end Go.AmZ
namespace Go.Proofs.YtckmkimhkhilgaaGreat
open Go.RowKit Go.GxZ Go.BigFrame
theorem qEv:(Tryz.prog.info? 159).map (λ i=>(i.zero,i.size,i.bytes))=some (some (.agg #[.int .i64 0,.string ⟨#[]⟩,.int .i64 0,.slice none 0 0,.int .i64 0]),5,64):=by kernel_rfl
theorem qMw(w:World):(sizeOf 159).run Tryz.prog w = .ok 5 w:=by kernel_rfl
theorem qAT:(Tryz.prog.info? 159).map (·.size)=some 5:=by kernel_rfl
set_option maxHeartbeats 4000000 in
set_option maxRecDepth 100000 in
theorem insert_endPow(w:World)(p:Option Addr)(n c:Nat)(ad:Addr)(f:Nat)(b:Value)(w':World)(i:n<=100000)(d:(Builtin.append_ #[139,139] 139 #[.slice p n c,.slice (some ad) 1 f]).run Tryz.prog w = .ok b w') :
  Calls Tryz.prog 187 #[.slice p n c,.int .i64 n,.slice (some ad) 1 f] w λ e g=>e = .returned b/\g=w':=by
 have h:=Lib.hid d;clear d
 go_enter Tryz.func187,Tryz.ntmps187
 go_wp2_with (at_builtin;refine Lib.wpList_append_run _ rfl _ _ _ _ rfl _ _ rfl rfl _ _ h.out ?_)
 all_goals
  go_ret
  first
   | exact⟨rfl,rfl⟩
   | (have a:c=n:=by assumption
      subst a;exact⟨rfl,rfl⟩)
set_option maxHeartbeats 4000000 in
set_option maxRecDepth 100000 in
theorem insert_roomPow (w:World) (g n c i:Nat) (et:TypeId) (cur:Array Value) (xs:List Value) (hbk:Blk w g et cur) (hcs:c*5<=cur.size) (hx:cur.toList.take (n*5)=xs) (hone:∀ u∈xs,u.oneCell'=true)
  (g2 o2 c2:Nat) (ys:List Value) (hy:ys.length=5) (hys:∀ j u,ys[j]? = some u->w.cell? ⟨g2,o2+j,none⟩=some u) (h1:∀ u∈ys,u.oneCell'=true) (hne:g2≠g) (hn:n<=100000) (hi:i<n) (hroom:n+1<=c) :
  Calls Tryz.prog 187 #[.slice (some ⟨g,0,none⟩) n c,.int .i64 i,.slice (some ⟨g2,o2,none⟩) 1 c2] w (qm3 5 w g cur.size (n+1) (xs.take (i*5)++ys++xs.drop (i*5))):=by
 have hlc:cur.toList.length=cur.size:=by simp
 have hnc:(n+1)*5<=c*5:=wn _ hroom;have hik:(i+1)*5<=n*5:=wn _ hi;have hxl:xs.length=n*5:=by rw [<- hx,wm];omega
 obtain ⟨tA,kA,hsA,hkA⟩:∃ t k,w.shape? g2=some (t,k)/\k≠0:=by
  cases hy0:ys[0]? with
  | none=>rw [List.getElem?_eq_none_iff] at hy0;omega
  | some u=>exact qGF (a:=⟨g2,o2+0,none⟩) rfl (hys 0 u hy0)
 have hov:∀ lb cb,(callFunc 194 #[.slice (some ⟨g2,o2,none⟩) 1 c2,.slice (some ⟨g,(i+1)*5,none⟩) lb cb]).run Tryz.prog w = .ok (.value (.bool false)) w := λ lb cb=>by
  rw [run_callFunc_extern Tryz.func194 (by kernel_rfl) (by kernel_rfl) (by kernel_rfl) (e:=Extern.SlicesOverlaps.overlaps #[139,139] #[4]) (by kernel_rfl),
   qwQ w 139 4 159 Tryz.underlying139 5 qMw ⟨g2,o2,none⟩ ⟨g,(i+1)*5,none⟩ 1 c2 lb cb hne tA et kA cur.size
    hsA hkA (by unfold Blk at hbk;simp [World.shape?,hbk]) (hbk.free _) (hbk.free _)]
  rfl
 have hin:((i:Int)==(n:Int))=false:=by simp;omega
 have hb1:¬ (c=i+1):=by omega
 have hb2:¬ (c=i):=by omega
 have hlen1:(xs.drop (i*5)).length=n*5-i*5:=by rw [wQ,hxl]
 have HD1:Hid ((xs.drop (i*5)).length=Nat.min (n+1-i) (n-i)*5):=by
  have hm:Nat.min (n+1-i) (n-i)=n-i:=Nat.min_eq_right (by omega);show _=_;rw [hlen1,hm,wan]
 have HS1:Hid (∀ (j:Nat) (v:Value),(xs.drop (i*5))[j]? = some v->w.drew.cell? ((⟨g,i*5,none⟩:Addr).add j)=some v) := λ j v hj=>by
  have e1:(⟨g,i*5,none⟩:Addr).add j=⟨g,i*5+j,none⟩:=by unfold Addr.add;split<;>simp_all
  rw [e1];show w.cell? _=_;rw [hbk.cell,<- Array.getElem?_toList];rw [List.getElem?_drop,<- hx,List.getElem?_take] at hj;split at hj
  ·exact hj
  ·cases hj
 have HF1:Hid ((i+1)*5+(xs.drop (i*5)).length<=cur.size):=by show _<=_;rw [hlen1];omega
 have HO1:Hid (∀ v∈xs.drop (i*5),v.oneCell'=true) := λ v hv=>hone v (wX hv);have hBK1:Hid (Blk w.drew g et cur):=hbk;obtain ⟨c1,hc1⟩:∃ c1,c1=cur.toList.take ((i+1)*5)++xs.drop (i*5)++cur.toList.drop ((i+1)*5+(xs.drop (i*5)).length):=⟨_,rfl⟩
 obtain ⟨k1,k2,k3⟩:=qJ3 5 cur.toList xs ys i n hx (by rw [hlc];omega) (by omega) hy c1 (by rw [hc1,kU]);have HC1:=Lib.hid hc1;have K1:=Lib.hid k1;have K2:=Lib.hid k2;have K3:=Lib.hid k3;have HLC:=Lib.hid hlc;have HY:=Lib.hid hy
 have HY1:Hid (ys.length=Nat.min 1 (n+1-i)*5):=by
  have hm:Nat.min 1 (n+1-i)=1:=kK (by omega);show _=_;rw [hy,hm]
 have HF2:Hid (i*5+ys.length<=c1.toArray.size):=by show _<=_;rw [hy];simp only [km];rw [k1,hlc];omega
 have HYS:=Lib.hid hys;have HCS:=Lib.hid hcs;have H1:=Lib.hid h1;have HNE:=Lib.hid hne;have HNC:=Lib.hid hnc;have hlt:=lt_of_block hbk;have hov':=hov;clear hxl hlc hov hx hone hcs hbk hys hy h1 hne hlen1 hc1 k1 k2 k3 hsA hkA hnc hik;have HOV:=Lib.hid hov'
 go_enter Tryz.func187,Tryz.ntmps187
 go_upto_region 15 with (simp only [hov'])
 clear hov';have hw1:IntKind.i64.wrap ((i:Int)+1)=(i:Int)+1:=IntWalk.i64_in _ (by omega);have hw2:(0:Int)<=(i:Int)+1:=by omega
 have hw3:((i:Int)+1).toNat=i+1:=by omega
 have hw4:(i:Int)+1<=(n:Int)+1:=by omega
 have hw5:(i:Int)<=(n:Int)+1:=by omega
 go_region_law (refine qvB rfl (.tmp 73) (.tmp 76) 139 139 rfl 159 5 Tryz.underlying139 qAT g ((i+1)*5) (n-i) (c-(i+1)) ⟨g,i*5,none⟩ (n+1-i) (c-i) (by simp [Act.eval,Act.put]) (by simp [Act.eval,Act.put]) cur et hBK1.out (xs.drop (i*5)) HD1.out HS1.out HF1.out HO1.out ?_;intro w4 hw4;have HW4:=Lib.hid hw4;clear hw4)
 all_goals
  have HW5:Hid (qmP w.drew w4 g et c1):=by show qmP _ _ _ _ _;rw [HC1.out];exact HW4.out
  have HB4:Hid (Blk w4 g et c1.toArray):=HW5.out.blk
  have HSY:Hid (∀ (j:Nat) (v:Value),ys[j]? = some v->w4.cell? ((⟨g2,o2,none⟩:Addr).add j)=some v) := λ j v hj=>by
   have e1:(⟨g2,o2,none⟩:Addr).add j=⟨g2,o2+j,none⟩:=by unfold Addr.add;split<;>simp_all
   rw [e1,show w4.cell? _=w.cell? _ from World.cell?_of_block (HW5.out.other g2 HNE.out)];exact HYS.out j v hj
  clear hw1 hw2 hw3 hw4 HW4
  obtain ⟨w6,hcp,hw6⟩:∃ w6,(∀ ty,(Builtin.copy_ #[139,139] ty #[.slice (some ⟨g,i*5,none⟩) (n+1-i) (c-i),.slice (some ⟨g2,o2,none⟩) 1 c2]).run Tryz.prog w4 = .ok (goInt (Nat.min 1 (n+1-i))) w6)/\qmP w4 w6 g et (c1.toArray.toList.take (i*5)++ys++c1.toArray.toList.drop (i*5+ys.length)) :=
   ⟨_,λ ty=>qrj w4 139 139 ty 159 5 g (i*5) (n+1-i) (c-i) ⟨g2,o2,none⟩ 1 c2 c1.toArray et ys Tryz.underlying139 qAT HB4.out HY1.out HSY.out HF2.out H1.out,qil HB4.out _⟩
  have HW6:=Lib.hid hw6;clear hw6
  go_wp2_with (simp only [hcp])
  go_ret
  have h6:=HW6.out;have h5:=HW5.out;have hblk:=h6.blk;have k2:=K2.out;have hlc:=HLC.out;refine ⟨g,c,_,et,rfl,hblk,hroom,?_,?_,.inl ⟨rfl,?_⟩,h6.os.trans h5.os,h6.tape.trans h5.tape,h6.output.trans h5.output,?_,?_,λ k _ hk=>(h6.other k hk).trans (h5.other k hk)⟩
  ·rw [km];exact wD HCS.out (vK (by rw [k2,hlc]))
  ·rw [kU];exact K3.out.trans (wi _ _ _)
  ·rw [km,k2,hlc]
  ·rw [h6.size,h5.size];exact wb _
  ·rw [h6.drawn,h5.drawn];exact kr _
set_option maxHeartbeats 4000000 in
set_option maxRecDepth 100000 in
theorem insert_growPow (w:World) (g n i:Nat) (et:TypeId) (cur:Array Value) (xs:List Value) (hbk:Blk w g et cur) (hcs:n*5<=cur.size) (hx:cur.toList.take (n*5)=xs) (hone:∀ u∈xs,u.oneCell'=true)
  (g2 o2 c2:Nat) (ys:List Value) (hy:ys.length=5) (hys:∀ j u,ys[j]? = some u->w.cell? ⟨g2,o2+j,none⟩=some u) (h1:∀ u∈ys,u.oneCell'=true) (hn:n<=100000) (hi:i<n) :
  Calls Tryz.prog 187 #[.slice (some ⟨g,0,none⟩) n n,.int .i64 i,.slice (some ⟨g2,o2,none⟩) 1 c2] w (qm3 5 w g cur.size (n+1) (xs.take (i*5)++ys++xs.drop (i*5))):=by
 have hlc:cur.toList.length=cur.size:=by simp
 have hik:(i+1)*5<=n*5:=wn _ hi;have hxl:xs.length=n*5:=by rw [<- hx,wm];omega
 have hg:=lt_of_block hbk
 have hg2:g2<w.heap.size:=by
  cases hy0:ys[0]? with
  | none=>rw [List.getElem?_eq_none_iff] at hy0;omega
  | some u =>
    have:=hys 0 u hy0;unfold World.cell? at this;split at this
    ·rename_i hh;exact (Array.getElem?_eq_some_iff.1 hh).1
    ·cases this
 obtain ⟨i0,hi0,hz0,hz1,hz2⟩:=info_parts qEv;have hadd:∀ (b o j:Nat),(⟨b,o,none⟩:Addr).add j=⟨b,o+j,none⟩ := λ b o j=>by unfold Addr.add;split<;>simp_all
 have hcx:∀ (W:World),Blk W g et cur->∀ (o j:Nat) (v:Value),(xs.drop o)[j]? = some v->W.cell? ((⟨g,o,none⟩:Addr).add j)=some v := λ W hW o j v hj=>by
  rw [hadd,hW.cell,<- Array.getElem?_toList];rw [List.getElem?_drop,<- hx,List.getElem?_take] at hj;split at hj
  ·exact hj
  ·cases hj
 have hold:(Builtin.firstCells i0.size i (.slice (some ⟨g,0,none⟩) i n)).run Tryz.prog w.drew = .ok (xs.take (i*5)).toArray w.drew:=by
  rw [hz1];refine run_firstCells_some w.drew 5 i ⟨g,0,none⟩ i n (xs.take (i*5)) (by rw [wm,hxl];omega) λ j v hj=>?_;refine hcx w.drew hbk 0 j v ?_;rw [List.getElem?_take] at hj;split at hj
  ·simpa using hj
  ·cases hj
 have hk:i+(n+1-i)=n+1:=by omega
 have hG1:n+1<=grownCap w (n+1) n 159:=grownCap_ge w _ _ _;have hG2:grownCap w (n+1) n 159<=maxLen:=grownCap_le_maxLen w _ _ _ (by unfold maxLen;omega)
 obtain ⟨w1,G,new,hr,hb1,hbk1,hnl,hnt,hG3,hG4,hw1s,hw1d⟩:∃ (w1:World) (G:Nat) (new:List Value),(∀ ty,(Builtin.append_ #[139,3] ty #[.slice (some ⟨g,0,none⟩) i n,.int .i64 ((n:Int)+1-(i:Int))]).run Tryz.prog w = .ok (.slice (some ⟨w.heap.size,0,none⟩) (n+1) G) w1) /\
   Below w.heap.size w w1/\Blk w1 w.heap.size 159 new.toArray/\new.length=G*5/\new.take (i*5)=xs.take (i*5)/\n+1<=G/\G<=maxLen/\w.heap.size<w1.heap.size/\w.drawn<=w1.drawn:=by
  have hr:∀ ty,_ := λ ty=>Lib.run_append_grow_zeros w 139 3 ty 159 i0 _ .i64 .i64 Tryz.underlying139 Tryz.underlying3 hi0 hz0 (some ⟨g,0,none⟩) i n (xs.take (i*5)) hold (n+1-i) (by omega) (by rw [hz1];decide) (by omega) (by omega) (by rw [hz2];omega) (by rw [hk,hz2];exact growslice_fits (by omega) (by omega));rw [hk] at hr;obtain ⟨NEW,hNEW⟩:∃ N:Array Value,N=(xs.take (i*5)).toArray++Builtin.zeroCells (Value.cells (.agg #[.int .i64 0,.string ⟨#[]⟩,.int .i64 0,.slice none 0 0,.int .i64 0])) (n+1-i)++Builtin.zeroCells (Value.cells (.agg #[.int .i64 0,.string ⟨#[]⟩,.int .i64 0,.slice none 0 0,.int .i64 0])) (grownCap w (n+1) n 159-(n+1)):=⟨_,rfl⟩
  rw [<- hNEW] at hr;refine ⟨w.drew.alloc (.cells NEW 159),grownCap w (n+1) n 159,NEW.toList,λ ty=>?_,?_,?_,?_,?_,hG1,hG2,?_,kr _⟩
  ·rw [show (n:Int)+1-(i:Int)=((n+1-i:Nat):Int) by omega];exact hr ty
  ·exact ((Below.refl _ _).drew).alloc (wb _) _
  ·rw [vJ];exact heap_alloc_new w.drew _
  ·rw [wM,hNEW,xC,xC,size_zeroCells,size_zeroCells,show (Value.cells (.agg #[.int .i64 0,.string ⟨#[]⟩,.int .i64 0,.slice none 0 0,.int .i64 0])).size=5 from rfl,km,wm,hxl];have:i*5+(n+1-i)*5+(grownCap w (n+1) n 159-(n+1))*5=grownCap w (n+1) n 159*5:=by rw [<- wN,<- wN];congr 1;omega
   omega
  ·rw [hNEW,xn,xn,wi,kG (by simp [hxl];omega),xL];congr 1;omega
  ·simp
 have hgb:∀ k,k<w.heap.size->w1.heap[k]? = w.heap[k]? := hb1.block;have hbkg1:Blk w1 g et cur:=hbk.same (hgb g hg);have hGn:(n+1)*5<=G*5:=wn _ hG3;have hm1:Nat.min 1 (n+1-i)=1:=kK (by omega);obtain ⟨c1,hc1⟩:∃ c1,c1=new.take (i*5)++ys++new.drop (i*5+ys.length):=⟨_,rfl⟩
 obtain ⟨k1,k2,k3⟩:=qMf 5 new xs ys i n hnt hxl (by omega) (by omega) hy c1 hc1
 obtain ⟨w3,hcp,hw3⟩:∃ w3,(∀ ty,(Builtin.copy_ #[139,139] ty #[.slice (some ⟨w.heap.size,i*5,none⟩) (n+1-i) (G-i),.slice (some ⟨g2,o2,none⟩) 1 c2]).run Tryz.prog w1 = .ok (goInt (Nat.min 1 (n+1-i))) w3)/\qmP w1 w3 w.heap.size 159 c1 :=
  ⟨_,λ ty=>qrj w1 139 139 ty 159 5 w.heap.size (i*5) (n+1-i) (G-i) ⟨g2,o2,none⟩ 1 c2 new.toArray 159 ys Tryz.underlying139 qAT hbk1 (by rw [hm1];omega) (λ j v hj=>by rw [hadd,show w1.cell? _=w.cell? _ from World.cell?_of_block (hgb g2 hg2)];exact hys j v hj) (by rw [km];omega) h1,by rw [hc1];exact qil hbk1 _⟩
 have hbkg3:Blk w3 g et cur:=hbkg1.same (hw3.other g (by omega));have hmm:Nat.min (n-i) (n-i)=n-i:=kK (wb _);have HD1:Hid ((xs.drop (i*5)).length=Nat.min (n-i) (n-i)*5):=by show _=_;rw [wQ,hxl,hmm,wan]
 have HS1:Hid (∀ (j:Nat) (v:Value),(xs.drop (i*5))[j]? = some v->w3.drew.cell? ((⟨g,i*5,none⟩:Addr).add j)=some v):=hcx w3.drew hbkg3 (i*5);have HF1:Hid ((i+1)*5+(xs.drop (i*5)).length<=c1.toArray.size):=by show _<=_;rw [wQ,hxl,km,k1,hnl];omega
 have HO1:Hid (∀ v∈xs.drop (i*5),v.oneCell'=true) := λ v hv=>hone v (wX hv);have hBK1:Hid (Blk w3.drew w.heap.size 159 c1.toArray):=hw3.blk;have HW3:=Lib.hid hw3;have HB1:=Lib.hid hb1;have K2:Hid ((c1.take ((i+1)*5)++xs.drop (i*5)++c1.drop ((i+1)*5+(xs.drop (i*5)).length)).length=G*5):=by show _=_;rw [kU];exact k2.trans hnl
 have K3:Hid ((c1.take ((i+1)*5)++xs.drop (i*5)++c1.drop ((i+1)*5+(xs.drop (i*5)).length)).take ((n+1)*5)=xs.take (i*5)++ys++xs.drop (i*5)):=by show _=_;rw [kU,kU];exact k3
 have HG4:=Lib.hid hG4;have HR:=Lib.hid hr;have HCP:=Lib.hid hcp;have hin:((i:Int)==(n:Int))=false:=by simp;omega
 have hb0:¬ (n=i):=by omega
 have hb2:¬ (G=i):=by omega
 have hb3:¬ (G=i+1):=by omega
 have hg63:(G:Int)<=9223372036854775807:=by unfold maxLen at hG4;omega
 clear hlc hxl hi0 hz0 hz1 hz2 hadd hcx hold hk hG1 hG2 hr hb1 hbk1 hnl hnt hG4 hgb hbkg1 hm1 hc1 k1 k2 k3 hcp hw3 hbkg3 hmm hbk hcs hx hone hy hys h1 hik hGn
 go_enter Tryz.func187,Tryz.ntmps187
 go_upto_region 10 with (at_builtin;refine Lib.wpList_append_run _ rfl _ _ _ _ rfl _ _ rfl rfl _ _ (HR.out _) ?_)
 have hcp:=HCP.out
 go_upto_region 11 with (simp only [hcp])
 clear hcp;have hw1:IntKind.i64.wrap ((i:Int)+1)=(i:Int)+1:=IntWalk.i64_in _ (by omega);have hw2:(0:Int)<=(i:Int)+1:=by omega
 have hw3:((i:Int)+1).toNat=i+1:=by omega
 have hw4:(i:Int)+1<=(n:Int)+1:=by omega
 have hw5:(i:Int)<=(n:Int):=by omega
 go_region_law (refine qvB rfl (.tmp 50) (.tmp 53) 139 139 rfl 159 5 Tryz.underlying139 qAT w.heap.size ((i+1)*5) (n-i) (G-(i+1)) ⟨g,i*5,none⟩ (n-i) (n-i) (by simp [Act.eval,Act.put]) (by simp [Act.eval,Act.put]) c1.toArray 159 hBK1.out (xs.drop (i*5)) HD1.out HS1.out HF1.out HO1.out ?_;intro w6 hw6;have HW6:=Lib.hid hw6;clear hw6)
 all_goals
  clear hw1 hw2 hw3 hw4
  go_wp2_with fail
  go_ret
  have h6:=HW6.out;have h5:=HW3.out;have h0:=HB1.out;have hblk:=h6.blk;have k3:=K3.out;have k2:=K2.out;refine ⟨w.heap.size,G,_,_,rfl,hblk,hG3,?_,k3.trans (wi _ _ _),.inr (wb _),h6.os.trans (h5.os.trans h0.os),h6.tape.trans (h5.tape.trans h0.tape),h6.output.trans (h5.output.trans h0.output),?_,?_,λ k hkl _=>?_⟩
  ·rw [km];exact vK k2.symm
  ·rw [h6.size];show w.heap.size<=w3.heap.size;rw [h5.size];exact h0.size
  ·rw [h6.drawn];show w.drawn<=w3.drawn+1;rw [h5.drawn];exact Nat.le_succ_of_le hw1d
  ·exact (h6.other k (by omega)).trans ((h5.other k (by omega)).trans (h0.block k hkl))
theorem qND(w:World):(zeroValue 159).run Tryz.prog w = .ok (.agg #[.int .i64 0,.string ⟨#[]⟩,.int .i64 0,.slice none 0 0,.int .i64 0]) w:=by kernel_rfl
theorem qCA:(Builtin.zeroCells (Value.cells (.agg #[.int .i64 0,.string ⟨#[]⟩,.int .i64 0,.slice none 0 0,.int .i64 0])) 1).toList=(Value.cells (.agg #[.int .i64 0,.string ⟨#[]⟩,.int .i64 0,.slice none 0 0,.int .i64 0])).toList:=by kernel_rfl
theorem qEe:∀ v∈(Builtin.zeroCells (Value.cells (.agg #[.int .i64 0,.string ⟨#[]⟩,.int .i64 0,.slice none 0 0,.int .i64 0])) 1).toList,v.oneCell'=true:=by
 rw[qCA];decide
set_option maxHeartbeats 4000000 in
set_option maxRecDepth 100000 in
theorem delete_onePow (w:World) (g m c i:Nat) (et:TypeId) (cur:Array Value) (xs:List Value) (hbk:Blk w g et cur) (hcs:c*5<=cur.size) (hx:cur.toList.take ((m+1)*5)=xs) (hone:∀ u∈xs,u.oneCell'=true)
  (hn:m<=100000) (hi:i<=m) (hroom:m+1<=c) :
  Calls Tryz.prog 188 #[.slice (some ⟨g,0,none⟩) (m+1) c,.int .i64 i,.int .i64 ((i:Int)+1)] w (qm3 5 w g cur.size m (xs.take (i*5)++xs.drop ((i+1)*5))):=by
 have hlc:cur.toList.length=cur.size:=by simp
 have hmc:(m+1)*5<=c*5:=wn _ hroom;have him:i*5<=m*5:=wn _ hi;have hxl:xs.length=(m+1)*5:=by rw [<- hx,wm,hlc];omega
 have hadd:∀ (b o j:Nat),(⟨b,o,none⟩:Addr).add j=⟨b,o+j,none⟩ := λ b o j=>by unfold Addr.add;split<;>simp_all
 have hcell:∀ (o j:Nat) (v:Value),(xs.drop o)[j]? = some v->w.drew.cell? ⟨g,o+j,none⟩=some v := λ o j v hj=>by
  show w.cell? _=_;rw [hbk.cell,<- Array.getElem?_toList];rw [List.getElem?_drop,<- hx,List.getElem?_take] at hj;split at hj
  ·exact hj
  ·cases hj
 obtain ⟨i0,hi0,hz0,hz1,hz2⟩:=info_parts qEv;have hdl:(xs.drop ((i+1)*5)).length=(m-i)*5:=by rw [wQ,hxl,<- wan];congr 1;omega
 have hdl':(m-i)*5=m*5-i*5:=wan ..
 obtain ⟨A,hA,HN⟩:∃ A:Addr,(if c=i+1 then some (⟨g,0,none⟩:Addr) else some ⟨g,(i+1)*5,none⟩)=some A/\Hid (∀ j u,(xs.drop ((i+1)*5))[j]? = some u->w.drew.cell? (A.add j)=some u):=by
  by_cases h:c=i+1
  ·refine ⟨_,if_pos h,λ j u hj=>?_⟩;have:=(List.getElem?_eq_some_iff.1 hj).1;rw [hdl] at this;have:m-i=0:=by omega
   simp [this] at *
  ·exact ⟨_,if_neg h,λ j u hj=>by rw [hadd];exact hcell _ j u hj⟩
 have HDL:=Lib.hid hdl;have HO1:Hid (∀ u∈xs.drop ((i+1)*5),u.oneCell'=true) := λ v hv=>hone v (wX hv)
 have HSP:Hid (∀ j,j<(xs.drop ((i+1)*5)).length->(w.drew.cell? ⟨g,0+i*5+j,none⟩).isSome=true/\w.drew.frozen? ⟨g,0+i*5+j,none⟩=false) := λ j hj=>by
  rw [hdl] at hj;refine ⟨?_,hbk.free _⟩;show (w.cell? _).isSome=true;rw [hbk.cell,Array.getElem?_eq_getElem (by omega)];rfl
 have hBKd:Blk w.drew g et cur:=hbk;have hw0:=qow g et (xs.drop ((i+1)*5)) (0+i*5) w.drew cur hBKd (by rw [hdl];omega);obtain ⟨w2,hw2⟩:∃ w2,w2=w.drew.setCells g (0+i*5) (xs.drop ((i+1)*5)):=⟨_,rfl⟩
 rw [<- hw2] at hw0;obtain ⟨c1,hc1⟩:∃ c1,c1=cur.toList.take (0+i*5)++xs.drop ((i+1)*5)++cur.toList.drop (0+i*5+(xs.drop ((i+1)*5)).length):=⟨_,rfl⟩
 rw [<- hc1] at hw0;have hl1:c1.length=cur.size:=by rw [hc1];simp only [wc,wm,wQ,hlc,hdl];simp only [wQ] at hdl;omega
 have ht1:c1.take (m*5)=xs.take (i*5)++xs.drop ((i+1)*5):=by
  have e1:cur.toList.take (0+i*5)=xs.take (i*5):=by rw [<- hx,xL];congr 1;omega
  rw [hc1,e1,kG (by simp only [wc,wm,hdl,hxl];omega),kE (by simp only [wc,wm,hdl,hxl];omega)]
 have hzl:(Builtin.zeroCells (Value.cells (.agg #[.int .i64 0,.string ⟨#[]⟩,.int .i64 0,.slice none 0 0,.int .i64 0])) 1).toList.length=5:=by rw [wM,size_zeroCells];rfl
 obtain ⟨w3,hcl,hw3⟩:∃ w3,(∀ ty,(Builtin.clear_ #[139] ty #[.slice (some ⟨g,m*5,none⟩) 1 (c-m)]).run Tryz.prog w2 = .ok (.tuple #[]) w3)/\qmP w2 w3 g et (c1.toArray.toList.take (m*5)++(Builtin.zeroCells (Value.cells (.agg #[.int .i64 0,.string ⟨#[]⟩,.int .i64 0,.slice none 0 0,.int .i64 0])) 1).toList++c1.toArray.toList.drop (m*5+(Builtin.zeroCells (Value.cells (.agg #[.int .i64 0,.string ⟨#[]⟩,.int .i64 0,.slice none 0 0,.int .i64 0])) 1).toList.length)) :=
  ⟨_,λ ty=>qwl w2 139 159 ty _ Tryz.underlying139 qND g (m*5) 1 (c-m) (by omega) c1.toArray et hw0.blk (by
   show m*5+1*5<=c1.toArray.size;rw [km,hl1];omega) qEe,qil hw0.blk _⟩
 have HW0:=Lib.hid hw0;have HW2:=Lib.hid hw2;have HW3:=Lib.hid hw3;have HCL:=Lib.hid hcl;have HT1:=Lib.hid ht1;have HL1:=Lib.hid hl1;have HZL:=Lib.hid hzl;have HI:=Lib.hid hi0;have HZ1:=Lib.hid hz1;have HCS:=Lib.hid hcs;have HMC:=Lib.hid hmc;have hlt:=lt_of_block hbk;have hc1:¬ (m+1=i):=by omega
 have hc2:¬ (c=m):=by omega
 have hf1:((i:Int)==(i:Int)+1)=false:=by simp;omega
 have hrm:i+(m-i)<=c:=by omega
 have hmi:i+(m-i)=m:=by omega
 have HRM:=Lib.hid hrm;have HMI:=Lib.hid hmi;clear hlc hxl hadd hcell hi0 hz0 hz1 hz2 hdl hBKd hw0 hw2 hl1 ht1 hzl hcl hw3 hcs hx hone hbk hrm hmi hmc him hdl';have hw1:((i:Int)+1).toNat=i+1:=by omega
 have hw4:(i:Int)+1<=(m:Int)+1:=by omega
 have hw5:(i:Int)<=(m:Int)+1:=by omega
 have hw6:(0:Int)<=(i:Int)+1:=by omega
 have hic:i<=c:=by omega
 go_enter Tryz.func188,Tryz.ntmps188
 go_upto_region 5 with (fail)
 go_region_law (refine step_append_room rfl (.tmp 22) (.tmp 25) 139 rfl 159 i0 5 Tryz.underlying139 HI.out HZ1.out g 0 i c (by simp [Act.eval,Act.put]) A (m-i) (c-(i+1)) (xs.drop ((i+1)*5)) (by simp [Act.eval,Act.put]) HDL.out HN.out HO1.out HRM.out HSP.out ?_;rw [<- HW2.out,HMI.out])
 all_goals
  clear hw1 hw4 hw5 hw6 hA;have hcl:=HCL.out
  go_wp2_with (simp only [hcl])
  go_ret
  have h3:=HW3.out;have h0:=HW0.out;have hblk:=h3.blk;have hl1:=HL1.out;have hzl:=HZL.out;have hmc:=HMC.out;have hcs:=HCS.out
  have hsz:(c1.toArray.toList.take (m*5)++(Builtin.zeroCells (Value.cells (.agg #[.int .i64 0,.string ⟨#[]⟩,.int .i64 0,.slice none 0 0,.int .i64 0])) 1).toList++c1.toArray.toList.drop (m*5+(Builtin.zeroCells (Value.cells (.agg #[.int .i64 0,.string ⟨#[]⟩,.int .i64 0,.slice none 0 0,.int .i64 0])) 1).toList.length)).length=cur.size:=by
   show (c1.take (m*5)++_++c1.drop (m*5+_)).length=_;simp only [wc,wm,wQ,hl1,hzl];omega
  refine ⟨g,c,_,et,rfl,hblk,by omega,?_,?_,.inl ⟨rfl,?_⟩,h3.os.trans h0.os,h3.tape.trans h0.tape,h3.output.trans h0.output,?_,?_,λ k _ hk=>(h3.other k hk).trans (h0.other k hk)⟩
  ·rw [km,hsz];exact hcs
  ·show (c1.take (m*5)++_++c1.drop (m*5+_)).take (m*5)=_;rw [wi,kG (by rw [wm,hl1];omega),xL,Nat.min_self];exact HT1.out
  ·rw [km,hsz]
  ·rw [h3.size,h0.size];exact wb _
  ·rw [h3.drawn,h0.drawn];exact kr _
end Go.Proofs.YtckmkimhkhilgaaGreat
namespace Go.Proofs.YtckmkimhkhilgaaGreat
open Go.RowKit Go.GxZ Go.BigFrame
theorem qFr:(Tryz.prog.info? 24).map (λ i=>(i.zero,i.size,i.bytes))=some (some (.agg #[.int .i64 0,.string ⟨#[]⟩,.int .i64 0,.slice none 0 0]),4,56):=by kernel_rfl
set_option maxHeartbeats 4000000 in
set_option maxRecDepth 100000 in
theorem clone_anyTrm(w:World)(p:Option Addr)(n c:Nat)(xs:List Value)(f:xs.length=n*4)(x:n=0\/∃ ad,p=some ad/\∀ j u,xs[j]?=some u->w.cell? (ad.add j)=some u)(z:∀ u∈xs,u.oneCell'=true)(S:n<=100000000) :
  Calls Tryz.prog 168 #[.slice p n c] w λ e w'=>∃ v,e = .returned v/\AmZ.Fresh w 4 n xs v w':=by
 cases p with
 | none =>
   have i:n=0:=by
    rcases x with h | ⟨ad,h,_⟩
    ·exact h
    ·cases h
   subst i;clear x z f;have G:∀ w,(binOp .eql 22 (.slice none 0 c) (.slice none 0 0)).run Tryz.prog w = .ok (.bool true) w := λ w=>by rw[Lib.run_eql_slice_nil w 22 24 none 0 c 0 0 Tryz.underlying22];rfl
   go_enter Tryz.func168,Tryz.ntmps168
   go_wp2_with fail
   go_ret
   exact⟨_,rfl,Below.refl _ _,wb _,.inl ⟨rfl,_,rfl⟩⟩
 | some ad =>
   obtain⟨R,k,o,m,l⟩:=info_parts qFr;have s:Below w.heap.size w (w.alloc (.cells #[] 24)):=(Below.refl _ _).alloc (wb _) _;by_cases i:n=0
   ·subst i;have F:∀ ty,(Builtin.append_ #[22,22] ty #[.slice (some ⟨w.heap.size,0,none⟩) 0 0,.slice (some ad) 0 c]).run Tryz.prog (w.alloc (.cells #[] 24)) = .ok (.slice (some ⟨w.heap.size,0,none⟩) 0 0) (w.alloc (.cells #[] 24)) := λ ty=>run_append_nothing _ 22 22 ty 24 _ Tryz.underlying22 k (some ⟨w.heap.size,0,none⟩) 0 0 (wb _) _ (Src.ofSlice _ Tryz.underlying22 ad 0 c [] (by simp) (λ _ _ h=>by simp at h) (λ _ h=>by simp at h));have E:=Lib.hid F;have Q:=Lib.hid s;clear F x z f s k o m l;have G:∀ w,(binOp .eql 22 (.slice (some ad) 0 c) (.slice none 0 0)).run Tryz.prog w = .ok (.bool false) w := λ w=>by rw[Lib.run_eql_slice_nil w 22 24 (some ad) 0 c 0 0 Tryz.underlying22];rfl
    go_enter Tryz.func168,Tryz.ntmps168
    go_wp2_with (at_builtin;refine Lib.wpList_append_run _ rfl _ _ _ _ rfl _ _ rfl rfl _ _ (E.out _) ?_)
    go_ret
    exact⟨_,rfl,Q.out,wb _,.inl ⟨rfl,_,rfl⟩⟩
   ·have b:∀ j u,xs[j]?=some u->(w.alloc (.cells #[] 24)).cell? (ad.add j)=some u := λ j u r=>by
      rcases x with h | ⟨N,h,K⟩
      ·exact absurd h i
      ·cases h;have y:=K j u r
       have B:(ad.add j).block<w.heap.size:=by
        unfold World.cell? at y;split at y
        ·rename_i L;exact(Array.getElem?_eq_some_iff.1 L).1
        ·cases y
       rw[show(w.alloc (.cells #[] 24)).cell? _=w.cell? _ from World.cell?_of_block (s.block _ B)];exact y
    have t:∀ ty,∃ g a d w',(Builtin.append_ #[22,22] ty #[.slice (some ⟨w.heap.size,0,none⟩) 0 0,.slice (some ad) n c]).run Tryz.prog (w.alloc (.cells #[] 24)) = .ok (.slice (some ⟨g,0,none⟩) (0+n) a) w'/\Below (w.alloc (.cells #[] 24)).heap.size (w.alloc (.cells #[] 24)) w'/\(w.alloc (.cells #[] 24)).heap.size<=g/\w'.heap[g]?=some (.cells d 24 (0,0))/\0+n<=a/\d.size=a*4/\d.toList.take ((0+n)*4)=[]++xs/\(w.alloc (.cells #[] 24)).drawn<=w'.drawn :=
     λ ty=>AmZ.grow_any (P:=Tryz.prog) (w:=w.alloc (.cells #[] 24)) (ty:=ty) Tryz.underlying22 k o m l rfl (some ⟨w.heap.size,0,none⟩) 0 0 (λ h=>by cases h) [] (by simp) (λ _ _ j u h=>by simp at h) _ n xs (Src.ofSlice _ Tryz.underlying22 ad n c xs f b z) (by omega) (by unfold maxLen;omega) (by omega)
    obtain⟨g,a,d,w',D,J,g3,I,C,H,A,M⟩:=t 22;rw[wG]at D C A;rw[kV]at A;have E:=Lib.hid D;have q:w.heap.size<=(w.alloc (.cells #[] 24)).heap.size:=s.size
    have O:Hid (AmZ.Fresh w 4 n xs (.slice (some ⟨g,0,none⟩) n a) w'):=by
     refine⟨s.trans (J.mono q),M,.inr ⟨g,a,d,_,rfl,wD q g3,I,C,vK H.symm,λ j u r=>?_⟩⟩;rw[<- A,List.getElem?_take]at r;split at r
     ·rw[<- Array.getElem?_toList];exact r
     ·cases r
    clear s b t D J g3 I C H A q x z f k o m l;have G:∀ w,(binOp .eql 22 (.slice (some ad) n c) (.slice none 0 0)).run Tryz.prog w = .ok (.bool false) w := λ w=>by rw[Lib.run_eql_slice_nil w 22 24 (some ad) n c 0 0 Tryz.underlying22];rfl
    go_enter Tryz.func168,Tryz.ntmps168
    go_wp2_with (at_builtin;refine Lib.wpList_append_run _ rfl _ _ _ _ rfl _ _ rfl rfl _ _ E.out ?_)
    go_ret
    exact⟨_,rfl,O.out⟩
set_option maxHeartbeats 4000000 in
set_option maxRecDepth 100000 in
theorem grow_nilTrm(w:World)(n:Nat)(z:n<=100000000) :
  Calls Tryz.prog 169 #[.slice none 0 0,.int .i64 n] w λ e w'=>∃ v,e = .returned v/\AmZ.Fresh w 4 0 [] v w':=by
 by_cases r:n=0
 ·subst r;have l:IntKind.i64.wrap ((0:Int)-0)=(0:Int):=IntWalk.i64_in _ (by omega)
  go_enter Tryz.func169,Tryz.ntmps169
  go_wp2_with fail
  go_ret
  exact⟨_,rfl,Below.refl _ _,wb _,.inl ⟨rfl,_,rfl⟩⟩
 obtain⟨o,h,f,d,c⟩:=info_parts qFr;have b:(Builtin.firstCells o.size 0 (.slice none 0 0)).run Tryz.prog w.drew = .ok (([]:List Value)).toArray w.drew:=run_firstCells_none ..;have k:∀ ty,_ := λ ty=>Lib.run_append_grow_zeros w 22 3 ty 24 o _ .i64 .i64 Tryz.underlying22 Tryz.underlying3 h f none 0 0 [] b n (by omega) (by rw[d];decide) (by omega) (by omega) (by rw[c];omega) (by rw[wG,c];exact growslice_fits (by omega) (by omega));rw[wG]at k;obtain⟨i,a⟩:∃ N:Array Value,N=([]:List Value).toArray++Builtin.zeroCells (Value.cells (.agg #[.int .i64 0,.string ⟨#[]⟩,.int .i64 0,.slice none 0 0])) n++Builtin.zeroCells (Value.cells (.agg #[.int .i64 0,.string ⟨#[]⟩,.int .i64 0,.slice none 0 0])) (grownCap w n 0 24-n):=⟨_,rfl⟩
 rw[<- a]at k;have m:n<=grownCap w n 0 24:=grownCap_ge w _ _ _
 have g:grownCap w n 0 24*4<=i.size:=by
  rw[a,xC,xC,size_zeroCells,size_zeroCells,show(Value.cells (.agg #[.int .i64 0,.string ⟨#[]⟩,.int .i64 0,.slice none 0 0])).size=4 from rfl,km,ke];have:n*4+(grownCap w n 0 24-n)*4=grownCap w n 0 24*4:=by rw[<- wN];congr 1;omega
  omega
 have y:=Lib.hid k;have x:=Lib.hid g;have l:IntKind.i64.wrap ((0:Int)-0)=(0:Int):=IntWalk.i64_in _ (by omega);have q:IntKind.i64.wrap ((n:Int)-0)=(n:Int):=by rw[IntWalk.i64_in _ (by omega)];omega
 have p:(0:Int)<(n:Int):=by omega
 generalize t:grownCap w n 0 24=G at *;clear b k a g h f d c t m
 go_enter Tryz.func169,Tryz.ntmps169
 go_wp2_with (at_builtin;refine Lib.wpList_append_run _ rfl _ _ _ _ rfl _ _ rfl rfl _ _ (y.out _) ?_)
 all_goals
  go_ret
  exact⟨_,rfl,((Below.refl _ _).alloc (wb _) _).drew,kr _,.inr ⟨w.heap.size,G,i,_,rfl,wb _,heap_alloc_new w _,we _,x.out,λ j u s=>by simp at s⟩⟩
end Go.Proofs.YtckmkimhkhilgaaGreat
namespace Go.AmZ
open Go Go.RowKit Go.GxZ
theorem qzH{P:Program}{c:TC}{f:FuncId}(o:qgJ P f)(h:∀ i g,c.pf f i=some g->∀ a v,g.fn a=some v->∀ Γ w b,Inv Γ emp w->RepL Γ (Qq g.args a i) b->Js P Γ emp w f b (zZ (qbq g.res v),none)):qZ P f (JE (jB c f)):=by
 refine⟨o,λ Γ σ w j b r m l e=>?_⟩;unfold JE at e;split at e<;>try cases e
 split at e<;>cases e;rename_i z d;unfold jB at d;split at d<;>try cases d
 rename_i g n;split at d<;>try cases d
 rename_i a p;split at d<;>cases d;rename_i v k;exact h _ g n a v k Γ w b m ((qm5 g.args p).rep l)
theorem qHi{P:Program}{f:FuncId}{Γ : Gh}{w:World}{a:List Value}{x:Value}(g:Inv Γ emp w)(d:zu x=true)(h:Calls P f a.toArray w λ e w'=>e = .returned x/\Below w.heap.size w w'/\w.drawn<=w'.drawn):Js P Γ emp w f a (.v x,none):=by
 refine Calls.mono h ?_;rintro e w' ⟨rfl,c,b⟩;exact⟨x,Γ,rfl,qgX c b,g.later c,.v x d,.refl _⟩
def strings_Compare(m:Nat)(a b:List UInt8):Option Int:=some (Lib.compareBytes a b)
theorem qo8{m:Nat}{c:TC}(l:∀ h,c.pf 118 h=qw0 h [] (some ⟨[.val .str,.val .str],[.int .i64],λ x=>strings_Compare m x.1 x.2.1⟩) none):qZ Go.Proofs.Tryz.prog 118 (JE (jB c 118)):=by
 refine qzH (qaq Go.Proofs.Tryz.func118 (by kernel_rfl)) λ h g b a v j Γ w i k e=>?_;rw[l]at b;rcases qyS b with⟨rfl,b⟩ | b
 ·cases b;cases j;obtain⟨u1,o,rfl,f,e⟩:=e.uncons;obtain⟨u2,n,rfl,d,e⟩:=e.uncons;have:=e.nil_inv;subst this;have f:=zo f;have d:=zo d;subst f;subst d;refine qHi k rfl ?_;exact(Go.Proofs.Tryz.strings_Compare _ _ w).mono λ _ _ ⟨f,d⟩=>⟨f,by rw[d];exact Below.refl _ _,by rw[d];exact wb _⟩
 ·cases b
abbrev qF5:Ty := .pair .str (.pair (.int .i64) (.pair (.int .i64) (.int .i64)))
def qL3:List (Val qF5):=[([112,97,105,114],2,2,1),([101,110,99],2,2,1),([97,101,110,99],2,2,1),([112,107],1,1,1),([115,105,103,110],2,2,1),([104,97,115,104],1,1,1),([120,111,114],2,8,1),([122,101,114,111],0,0,1),([101,120,112],2,2,1),([109,117,108],2,8,1),([105,110,118],1,1,1),([111,110,101],0,0,1),([115,107],1,1,2),([115,104,107],2,2,2),([110,101,119],1,8,2),([102,115,116],1,1,3),([115,110,100],1,1,3),([100,101,99],2,2,3),([97,100,101,99],2,2,3),([111,112,101,110],2,2,3),([114,101,97,100],1,1,3)]
def qiQ(m:Nat):Option (List (List UInt8 × Int × Int × Int)):=some qL3
def qJP:Cfg:=⟨tyT,λ f=>cond (Nat.beq f 96) (some Go.Proofs.Tryz.f96) (cond (Nat.beq f 119) (some Go.Proofs.Tryz.f119) none),λ _=>none,λ _=>false,λ _=>[],λ _=>false⟩
theorem qEa(cd:Code):Qs cd=true:=by
 induction cd<;>simp_all [Qs]
theorem qE8:yv Go.Proofs.Tryz.prog qJP:=by
 refine⟨by kernel_rfl,qIx,λ f fn h=>?_,λ f p h=>by cases h⟩;have h:cond (Nat.beq f 96) (some Go.Proofs.Tryz.f96) (cond (Nat.beq f 119) (some Go.Proofs.Tryz.f119) none)=some fn:=h;have c:∀ cd:Code,Qs cd=true:=qEa;cases b:Nat.beq f 96 with
 | true =>
   rw[b]at h;cases h;rw[wj b];exact⟨Go.Proofs.Tryz.func96,by kernel_rfl,λ _ _=>c _⟩
 | false =>
   rw[b]at h;cases a:Nat.beq f 119 with
   | true =>
     rw[a]at h;cases h;rw[wj a];exact⟨Go.Proofs.Tryz.func119,by kernel_rfl,λ _ _=>c _⟩
   | false=>rw[a]at h;cases h
theorem qLz:qeo qJP (qac qJP 300) emp 96 []=some (zZ (qbq [.list qF5] qL3),none):=by kernel_rfl
theorem qqI{m:Nat}{c:TC}(j:∀ d,c.pf 96 d=qw0 d [] (some ⟨[],[.list qF5],λ x=>qiQ m⟩) none):qZ Go.Proofs.Tryz.prog 96 (JE (jB c 96)):=by
 refine qzH (qaq Go.Proofs.Tryz.func96 (by kernel_rfl)) λ d g b a v f Γ w e i h=>?_;rw[j]at b;rcases qyS b with⟨rfl,b⟩ | b
 ·cases b;cases f;exact qBN qE8 (qxS qE8 300) i h qLz
 ·cases b
def ya(m:Nat)(l:List T):Option (Unit × List T × Unit):=cond (Nat.ble l.length 100000000) (some ((),l,())) none
def yT(m:Nat)(n:Int):Option (Unit × List T × Unit):=cond (inb n 100000000) (some ((),[],())) none
def zy(m:Nat)(l:List (T × Int))(i:Int)(v:List (T × Int)):Option (Unit × List (T × Int) × Unit):=cond (inb i l.length&&(Nat.ble l.length 100000&&Nat.beq v.length 1)) (some ((),l.take i.toNat++(v++l.drop i.toNat),())) none
def zC(m:Nat)(l:List (T × Int))(i j:Int):Option (Unit × List (T × Int) × Unit):=cond (inb j l.length&&(inb i l.length&&(ieq j (qe i 1)&&Nat.ble l.length 100000))) (some ((),l.take i.toNat++l.drop (i.toNat+1),())) none
theorem qkL{α : Type}{b:Bool}{x : α}{r : α}(h:cond b (some x) none=some r):b=true/\x=r:=by
 cases b with
 | true=>exact⟨rfl,kX h⟩
 | false=>cases h
theorem qfl{m:Nat}:qZ Go.Proofs.Tryz.prog 168 (sgP ⟨[.val (.list .term)],[.one (.row .term)],λ x=>ya m x.1⟩):=by
 refine qGm (a := .term) (qaq Go.Proofs.Tryz.func168 (by kernel_rfl)) (most:=100000000) Go.Proofs.YtckmkimhkhilgaaGreat.clone_anyTrm (fn:=ya m) λ l r h=>?_;obtain⟨c,b⟩:=qkL h;exact⟨kO c,b.symm⟩
theorem qf1{m:Nat}:qZ Go.Proofs.Tryz.prog 169 (sgP ⟨[.nil,.val (.int .i64)],[.one (.row .term)],λ x=>yT m x.1⟩):=by
 refine qHZ (a := .term) (qaq Go.Proofs.Tryz.func169 (by kernel_rfl)) (most:=100000000) Go.Proofs.YtckmkimhkhilgaaGreat.grow_nilTrm (fn:=yT m) λ n r h=>?_;obtain⟨b,c⟩:=qkL h;have b:=of_decide_eq_true b;exact⟨b.1,b.2,c.symm⟩
theorem qPy:qoe Go.Proofs.Tryz.prog (.pair .term (.int .i64)) 139 159 64:=⟨by
 have h:(match jD Go.Proofs.Tryz.prog 139 with | some ⟨_,_,_,_,.slice e k b z⟩=>Nat.beq e 159&&(Nat.beq k 5&&(Nat.beq b 64&&Nat.beq z.length 5)) | _=>false)=true:=by kernel_rfl
 split at h
 ·rename_i l j i g e k b z m;simp only[wd]at h;obtain⟨f,d,c,a⟩:=h;have f:=wj f;have d:=wj d;have c:=wj c;have a:=wj a;subst f;subst d;subst c;exact⟨l,j,i,g,z,m,a⟩
 ·cases h⟩
theorem qd8{m:Nat}:qZ Go.Proofs.Tryz.prog 187 (sgP ⟨[.row (.pair .term (.int .i64)),.val (.int .i64),.val (.list (.pair .term (.int .i64)))],[.one (.row (.pair .term (.int .i64)))],λ x=>zy m x.1 x.2.1 x.2.2.1⟩):=by
 refine qK4 (a := .pair .term (.int .i64)) (qaq Go.Proofs.Tryz.func187 (by kernel_rfl)) qPy (by decide) Go.Proofs.YtckmkimhkhilgaaGreat.insert_endPow Go.Proofs.YtckmkimhkhilgaaGreat.insert_roomPow Go.Proofs.YtckmkimhkhilgaaGreat.insert_growPow (fn:=zy m) λ l i v r h=>?_;obtain⟨c,g⟩:=qkL h;simp only[wd,Nat.beq_eq_true_eq]at c;obtain⟨b,f,d⟩:=c;have b:=of_decide_eq_true b;refine⟨?_,b.1,b.2,kO f,g.symm⟩
 match v,d with
 | [e],_=>exact⟨e,rfl⟩
theorem qd9{m:Nat}:qZ Go.Proofs.Tryz.prog 188 (sgP ⟨[.row (.pair .term (.int .i64)),.val (.int .i64),.val (.int .i64)],[.one (.row (.pair .term (.int .i64)))],λ x=>zC m x.1 x.2.1 x.2.2.1⟩):=by
 refine qLg (a := .pair .term (.int .i64)) (qaq Go.Proofs.Tryz.func188 (by kernel_rfl)) Go.Proofs.YtckmkimhkhilgaaGreat.delete_onePow (fn:=zC m) λ l i j r h=>?_;obtain⟨e,g⟩:=qkL h;simp only[wd]at e;obtain⟨d,c,b,f⟩:=e;have d:=of_decide_eq_true d;have c:=of_decide_eq_true c;have b:j=i+1:=by simpa[ieq,qe]using b
 refine⟨b,c.1,?_,kO f,g.symm⟩;omega
end Go.AmZ
namespace Go.AmZ
open Go Go.RowKit Go.GxZ
structure FI where
 fn:Func
 args:List ATy
 res:List Ty
 loop:List (Nat × List (Tmp × Co))
 ld:List Nat
 F:Nat->qbO args->Option (qe2 res)
structure SI where
 fn:Func
 args:List SA
 res:List RE
 loop:List (Nat × List (Tmp × Co))
 ld:List Nat
 F:Nat->QF args->Option (j7 args × RV res)
inductive En where
 | pure (l:List (List Nat × FI))
 | st (i:SI)
 | hp (g:Sig)
 | hs (g:qn4)
 | hx (g:Nat->qn4)
 | hm (g:Nat->qqR)
 | hk (g:Nat->quk)
inductive Tr where
 | leaf
 | node (k:Nat) (l r:Tr) (x:En)
def Tr.get:Tr->Nat->Option En
 | .leaf,_=>none
 | .node k l r x,f=>match Nat.beq f k with
   | true=>some x
   | false=>match Nat.blt f k with
     | true=>Tr.get l f
     | false=>Tr.get r f
def qsH(a:List Nat):List (List Nat × FI)->Option FI
 | []=>none
 | p::r=>match qoW p.1 a with
   | true=>some p.2
   | false=>qsH a r
def qIA(r:Nat):List (Nat × List (Tmp × Co))->Option (List (Tmp × Co))
 | []=>none
 | p::l=>match Nat.beq p.1 r with
   | true=>some p.2
   | false=>qIA r l
structure Tb where
 ty:Nat->Option TD
 el:Nat->Option Ty
 tr:Tr
def Tb.has(b:Tb)(f:Nat):Bool:=match b.tr.get f with
 | some (.pure _)=>true
 | some (.hp _)=>true
 | _=>false
def Tb.pf(b:Tb)(m f:Nat)(a:List Nat):Option Sig:=match b.tr.get f with
 | some (.pure l)=>match qsH a l with
   | some i=>some ⟨i.args,i.res,i.F m⟩
   | none=>none
 | some (.hp g)=>qw0 a [] (some g) none
 | _=>none
def Tb.sf(b:Tb)(m f:Nat):Option qn4:=match b.tr.get f with
 | some (.st i)=>some ⟨i.args,i.res,i.F m⟩
 | some (.hs g)=>some g
 | some (.hx g)=>some (g m)
 | _=>none
def Tb.mf(b:Tb)(m f:Nat):Option qqR:=match b.tr.get f with
 | some (.hm g)=>some (g m)
 | _=>none
def Tb.xf(b:Tb)(m f:Nat):Option quk:=match b.tr.get f with
 | some (.hk g)=>some (g m)
 | _=>none
def Tb.tc(b:Tb)(m:Nat)(d:List (Nat × List (Tmp × Co)))(a c:Nat)(e:List Nat):TC:=⟨b.ty,b.el,b.has,b.pf m,b.sf m,λ r=>qIA r d,λ _=>none,a,c,λ f=>qL1 f e,b.mf m,b.xf m⟩
def Tb.runP(b:Tb)(m:Nat)(i:FI)(k:Nat)(a:List It)(E:Env)(σ : TS):Option (qe2 i.res) :=
 qpa (b.tc m i.loop i.fn.ntmps 0 i.ld) (qjU (b.tc m i.loop i.fn.ntmps 0 i.ld) i.res i.fn.results.toList) qv7 k a E σ
def Tb.runS(b:Tb)(m:Nat)(i:SI)(k:Nat)(a:List It)(E:Env)(σ : TS):Option (j7 i.args × RV i.res) :=
 qpa (b.tc m i.loop i.fn.ntmps (qB7 i.args) i.ld) (qx6 (b.tc m i.loop i.fn.ntmps (qB7 i.args) i.ld) i.args i.res i.fn.results.toList) qv7 k a E σ
def Tb.runP1(b:Tb)(m:Nat)(i:FI)(c:List Nat)(a:qbO i.args):Option (qe2 i.res):=b.runP m i (m+1) [.code (qsx i.fn)] (qhe 0 (qxf i.args a c)) ⟨[],[]⟩
def Tb.runS1(b:Tb)(m:Nat)(i:SI)(a:QF i.args):Option (j7 i.args × RV i.res):=b.runS m i (m+1) [.code (qsx i.fn)] (qhe 0 (qlA i.args 0 0 a)) ⟨sBx i.args 0 a,sRw i.args a⟩
def Tb.PL(b:Tb)(i:FI)(r:Nat)(m k:Nat)(E:Env)(σ : TS):Option (qe2 i.res):=b.runP m i k (stL i.fn r) E σ
def Tb.QL(b:Tb)(i:SI)(r:Nat)(m k:Nat)(E:Env)(σ : TS):Option (j7 i.args × RV i.res):=b.runS m i k (stL i.fn r) E σ
def Tb.at(b:Tb)(m:Nat):TC:=b.tc m [] 0 0 []
theorem qM{α : Type}{M:Nat -> α}{z : α}{s : α -> α}(c:z=M 0)(b:∀ k,M (k+1)=s (M k))(k:Nat):qJ z s k=M k:=by
 induction k with
 | zero=>exact c
 | succ k a=>rw[b,<- a];rfl
def fnB(fn:Func)(n:Nat):Bool:=qcU fn&&Nat.ble n fn.ntmps
def En.ok:En->Bool
 | .pure l=>l.all λ p=>fnB p.2.fn p.2.args.length
 | .st i=>fnB i.fn i.args.length
 | _=>true
def Tr.ok:Tr->Bool
 | .leaf=>true
 | .node _ l r x=>x.ok&&(l.ok&&r.ok)
def qvU(P:Program)(b:Tb)(f:Nat)(l:List (List Nat × FI)):Prop:=match l with
 | []=>True
 | p::r=>P.funcs[f]?=some p.2.fn/\(∀ a,p.2.F 0 a=none)/\(∀ m a,p.2.F (m+1) a=b.runP1 m p.2 p.1 a)/\qvU P b f r
def En.prog(P:Program)(b:Tb)(f:Nat):En->Prop
 | .pure l=>qvU P b f l/\l≠[]
 | .st i=>P.funcs[f]?=some i.fn/\(∀ a,i.F 0 a=none)/\∀ m a,i.F (m+1) a=b.runS1 m i a
 | .hp g=>∀ c:TC,(∀ d,c.pf f d=qw0 d [] (some g) none)->qZ P f (JE (jB c f))
 | .hs g=>qZ P f (sgP g)
 | .hx g=>qZ P f (sgP (g 0))/\∀ m,yv P (b.at m).pc.cfg->qZ P f (sgP (g (m+1)))
 | .hm g=>qZ P f (mgP (g 0))/\∀ m,yv P (b.at m).pc.cfg->qZ P f (mgP (g (m+1)))
 | .hk g=>qZ P f (xgP (g 0))/\∀ m,yv P (b.at m).pc.cfg->qZ P f (xgP (g (m+1)))
def Tr.prog(P:Program)(b:Tb):Tr->Prop
 | .leaf=>True
 | .node k l r x=>x.prog P b k/\l.prog P b/\r.prog P b
theorem Tr.get_spec{P:Program}{b:Tb}:∀{t:Tr} {f:Nat} {x:En},t.get f=some x->t.ok=true->t.prog P b->x.ok=true/\x.prog P b f
 | .leaf,f,x,h,_,_=>by cases h
 | .node k l r y,f,x,h,a,⟨e,d,c⟩=>by
   simp only[Tr.ok,wd]at a;obtain⟨j,i,g⟩:=a;simp only[Tr.get]at h;split at h
   ·rename_i m;cases h;rw[wj m];exact⟨j,e⟩
   ·split at h
    ·exact Tr.get_spec h i d
    ·exact Tr.get_spec h g c
theorem qzj{a:List Nat}:∀{l:List (List Nat × FI)} {i:FI},qsH a l=some i->(a,i)∈l
 | [],i,h=>by cases h
 | p::r,i,h=>by
   simp only[qsH]at h;split at h
   ·rename_i b;cases h;rw[<- qr3 b];exact wh ..
   ·exact wg _ (qzj h)
theorem qvU.mem{P:Program}{b:Tb}{f:Nat}:∀{l:List (List Nat × FI)} {p:List Nat × FI},qvU P b f l->p∈l->P.funcs[f]?=some p.2.fn/\(∀ a,p.2.F 0 a=none)/\(∀ m a,p.2.F (m+1) a=b.runP1 m p.2 p.1 a)
 | [],p,_,h=>by cases h
 | q::r,p,⟨g,e,d,c⟩,h=>by
   rcases wx.1 h with rfl | h
   ·exact⟨g,e,d⟩
   ·exact qvU.mem c h
theorem qvm{fn:Func}(h:qcU fn=true):fn.body=some (qsx fn):=by
 unfold qcU at h;unfold qsx;cases a:fn.body with
 | none=>rw[a]at h;cases h
 | some c=>rfl
theorem qpI{fn:Func}{n:Nat}(h:fnB fn n=true):qcU fn=true/\n<=fn.ntmps:=by
 unfold fnB at h;rw[wd]at h;exact⟨h.1,kO h.2⟩
theorem qJ1{P:Program}{d:PC}(w:yv P d.cfg){l:TC}{f:FuncId}{fn:Func}(t:P.funcs[f]?=some fn)(m:qcU fn=true)
  (h:∀ n g,l.pf f n=some g->∃ c:TC,{ c.pc with pur:=d.pur,ld:=d.ld }=d/\c.nt=fn.ntmps/\c.np=0/\g.args.length<=fn.ntmps/\∃ N k,∀ a,g.fn a=qpa c (qjU c g.res fn.results.toList) N k [.code (qsx fn)] (qhe 0 (qxf g.args a n)) ⟨[],[]⟩):qZ P f (JE (jB l f)):=by
 refine qJd w t m (jB l f) λ ys r b=>?_;unfold jB at b;split at b<;>try cases b
 rename_i g s;split at b<;>try cases b
 rename_i a u;split at b<;>cases b;rename_i v q;obtain⟨c,e,i,j,y,N,k,x⟩:=h _ g s;refine⟨Qq g.args a (qfV ys),_,c.pc.pur,c.pc.ld,qm5 g.args u,λ z p=>p,?_⟩;rw[<- e];exact qPB (qvm m) i j (by rw[qny];exact y) (qo5 g.args a (qfV ys)) (by rw[<- x a];exact q)
theorem Tb.has_pf{b:Tb}{m f:Nat}{a:List Nat}{g:Sig}(h:b.pf m f a=some g):(∃ l i,b.tr.get f=some (.pure l)/\qsH a l=some i/\g=⟨i.args,i.res,i.F m⟩)\/(∃ d,b.tr.get f=some (.hp d)):=by
 unfold Tb.pf at h;split at h
 ·rename_i l c;split at h<;>cases h;exact .inl ⟨l,_,c,‹_›,rfl⟩
 ·exact .inr ⟨_,‹_›⟩
 ·cases h
theorem Tb.all_ok{P:Program}{b:Tb}(E:P.follows .mixedOrders=true)(O:∀ t d,b.ty t=some d->jD P t=some d)(n:b.tr.ok=true)(k:b.tr.prog P b):∀ m,yv P (b.at m).pc.cfg:=by
 have x:∀{c:TC} {g:Sig} {f m:Nat},c.pf=b.pf m->b.tr.get f=some (.hp g)->qZ P f (JE (jB c f)):=by
  intro c g f m S j;refine(Tr.get_spec j n k).2 c λ s=>?_;rw[S];unfold Tb.pf;rw[j]
 have w:∀{m:Nat} {f:Nat},(b.at m).has f=true->(∃ l,b.tr.get f=some (.pure l))\/∃ g,b.tr.get f=some (.hp g):=by
  intro m f h;have h:b.has f=true:=h;unfold Tb.has at h;split at h
  ·exact .inl ⟨_,‹_›⟩
  ·exact .inr ⟨_,‹_›⟩
  ·cases h
 have B:∀{m:Nat} {f:Nat} {g:qn4},(b.at m).sf f=some g->(∃ i,b.tr.get f=some (.st i)/\g=⟨i.args,i.res,i.F m⟩)\/b.tr.get f=some (.hs g)\/∃ h,b.tr.get f=some (.hx h)/\g=h m:=by
  intro m f g h;have h:b.sf m f=some g:=h;unfold Tb.sf at h;split at h
  ·cases h;exact .inl ⟨_,‹_›,rfl⟩
  ·cases h;exact .inr (.inl ‹_›)
  ·cases h;exact .inr (.inr ⟨_,‹_›,rfl⟩)
  ·cases h
 have C:∀{m:Nat} {f:Nat} {g:qqR},(b.at m).mf f=some g->∃ h,b.tr.get f=some (.hm h)/\g=h m:=by
  intro m f g h;have h:b.mf m f=some g:=h;unfold Tb.mf at h;split at h
  ·cases h;exact⟨_,‹_›,rfl⟩
  ·cases h
 have A:∀{m:Nat} {f:Nat} {g:quk},(b.at m).xf f=some g->∃ h,b.tr.get f=some (.hk h)/\g=h m:=by
  intro m f g h;have h:b.xf m f=some g:=h;unfold Tb.xf at h;split at h
  ·cases h;exact⟨_,‹_›,rfl⟩
  ·cases h
 have q:∀{f:Nat} {l:List (List Nat × FI)},b.tr.get f=some (.pure l)->∃ fn,P.funcs[f]?=some fn/\qcU fn=true/\∀ s i,qsH s l=some i->i.fn=fn/\i.args.length<=fn.ntmps/\(∀ a,i.F 0 a=none)/\∀ m a,i.F (m+1) a=b.runP1 m i s a:=by
  intro f l u;obtain⟨y,v⟩:=Tr.get_spec u n k;obtain⟨v,z⟩:=v;have y:=wv.1 (show l.all _=true from y);cases l with
  | nil=>exact absurd rfl z
  | cons p r =>
    refine⟨p.2.fn,(v.mem (wh ..)).1,(qpI (y p (wh ..))).1,λ s i G=>?_⟩;have E:=qzj G;obtain⟨e1,V,U⟩:=v.mem E;have W:=(v.mem (wh ..)).1;rw[W]at e1;have Q:p.2.fn=i.fn:=kX e1;refine⟨Q.symm,?_,V,U⟩;rw[Q];exact(qpI (y _ E)).2
 intro m
 induction m with
 | zero =>
   refine qHN E O (λ f H=>?_) (λ f g j=>?_) (λ f g j=>?_) λ f g j=>?_
   ·rcases w H with⟨l,u⟩ | ⟨g,j⟩
    ·obtain⟨fn,N,M,L⟩:=q u;refine qIn (qaq N M) λ s g a h=>?_;have h:b.pf 0 f s=some g:=h;rcases Tb.has_pf h with⟨R,i,o,K,rfl⟩ | ⟨T,o⟩
     ·rw[u]at o;cases o;exact(L s i K).2.2.1 a
     ·rw[u]at o;cases o
    ·exact x rfl j
   ·rcases B j with⟨i,G,rfl⟩ | e
    ·obtain⟨y,v,z,_⟩:=Tr.get_spec G n k;exact qqc (qaq v (qpI y).1) z
    ·rcases e with e | ⟨h,e,rfl⟩
     ·exact(Tr.get_spec e n k).2
     ·exact(Tr.get_spec e n k).2.1
   ·obtain⟨h,e,rfl⟩:=C j;exact(Tr.get_spec e n k).2.1
   ·obtain⟨h,e,rfl⟩:=A j;exact(Tr.get_spec e n k).2.1
 | succ m D =>
   refine qHN E O (λ f H=>?_) (λ f g j=>?_) (λ f g j=>?_) λ f g j=>?_
   ·rcases w H with⟨l,u⟩ | ⟨g,j⟩
    ·obtain⟨fn,N,M,L⟩:=q u;refine qJ1 D N M λ s g h=>?_;have h:b.pf (m+1) f s=some g:=h;rcases Tb.has_pf h with⟨R,i,o,K,rfl⟩ | ⟨T,o⟩
     ·rw[u]at o;cases o;obtain⟨rfl,J,_,I⟩:=L s i K;exact⟨b.tc m i.loop i.fn.ntmps 0 i.ld,rfl,rfl,rfl,J,qv7,m+1,λ a=>I m a⟩
     ·rw[u]at o;cases o
    ·exact x rfl j
   ·rcases B j with⟨i,G,rfl⟩ | e
    ·obtain⟨y,v,_,I⟩:=Tr.get_spec G n k;obtain⟨z,J⟩:=qpI y;exact qJt (c:=b.tc m i.loop i.fn.ntmps (qB7 i.args) i.ld) (D.pur _ _) v z (qvm z) rfl _ rfl J ⟨qv7,m+1,λ a=>I m a⟩
    ·rcases e with e | ⟨h,e,rfl⟩
     ·exact(Tr.get_spec e n k).2
     ·exact(Tr.get_spec e n k).2.2 m D
   ·obtain⟨h,e,rfl⟩:=C j;exact(Tr.get_spec e n k).2.2 m D
   ·obtain⟨h,e,rfl⟩:=A j;exact(Tr.get_spec e n k).2.2 m D
def okP(b:Tb)(c:List Nat)(i:FI):Prop:=∀ m a,i.F (m+1) a=b.runP1 m i c a
def okS(b:Tb)(i:SI):Prop:=∀ m a,i.F (m+1) a=b.runS1 m i a
theorem nP{P:Program}{b:Tb}{k:Nat}{c:List Nat}{i:FI}{l r:Tr}(h:P.funcs[k]?=some i.fn)(g:okP b c i)(e:l.prog P b)(d:r.prog P b)(f:∀ a,i.F 0 a=none:=by exact λ _=>rfl):(Tr.node k l r (.pure [(c,i)])).prog P b:=⟨⟨⟨h,f,g,trivial⟩,vA _ _⟩,e,d⟩
theorem nS{P:Program}{b:Tb}{k:Nat}{i:SI}{l r:Tr}(h:P.funcs[k]?=some i.fn)(g:okS b i)(d:l.prog P b)(c:r.prog P b)(e:∀ a,i.F 0 a=none:=by exact λ _=>rfl):(Tr.node k l r (.st i)).prog P b:=⟨⟨h,e,g⟩,d,c⟩
abbrev eP(i:FI):En := .pure [([],i)]
abbrev eS(i:SI):En := .st i
abbrev tL(k:Nat)(x:En):Tr := .node k .leaf .leaf x
abbrev vI:=TV.i .i64
abbrev vT(l:List T):=TV.sl .term l 1
section
variable {A B C D E F R:Type}
abbrev u0(f:Nat->R):Nat->Unit->R := λ m _=>f m
abbrev u1(f:Nat->A->R):Nat->A × Unit->R := λ m x=>f m x.1
abbrev u2(f:Nat->A->B->R):Nat->A × B × Unit->R := λ m x=>f m x.1 x.2.1
abbrev u3(f:Nat->A->B->C->R):Nat->A × B × C × Unit->R := λ m x=>f m x.1 x.2.1 x.2.2.1
abbrev u4(f:Nat->A->B->C->D->R):Nat->A × B × C × D × Unit->R := λ m x=>f m x.1 x.2.1 x.2.2.1 x.2.2.2.1
abbrev u5(f:Nat->A->B->C->D->E->R):Nat->A × B × C × D × E × Unit->R := λ m x=>f m x.1 x.2.1 x.2.2.1 x.2.2.2.1 x.2.2.2.2.1
end
theorem Tb.prim{P:Program}{b:Tb}(h:∀ m,yv P (b.at m).pc.cfg)(m:Nat){f:Nat}(a:b.has f=true):qZ P f (JE (jB (b.at m) f)):=by
 refine(h m).prim f _ ?_;show PC.prim _ f=_;unfold PC.prim
 have:(b.at m).pc.pf f=some (jB (b.at m) f):=by
  show(match(b.at m).has f with | true=>some (jB (b.at m) f) | false=>none)=_;rw[show(b.at m).has f=true from a]
 rw[this]
end Go.AmZ
namespace Go.AmZ
open Go Go.RowKit Go.GxZ Go.Sort Go.Proofs Go.Shelf
def bare(Γ : Gh):Gh:={ Γ with nb:=0,nr:=0 }
theorem Rep.bare{Γ : Gh}{x:AV}{u:Value}(h:Rep Γ x u)(m:qy x=true):Rep (bare Γ) x u:=by
 induction h with
 | v x h=>exact .v x h
 | sl k es f a n cap b o us p t s r c y w q z l=>exact .sl k es f a n cap b o us p t s r c y w q (λ i e j x g d=>l i e j x g d (c e (wa g) x (wa d)))
 | _=>simp[qy]at m
theorem Inv.bare{Γ : Gh}{σ : St}{w w':World}(h:Inv Γ σ w)(d:∀ b o u,Γ.mem b o=some u->w'.cell? ⟨b,o,none⟩=some u):Inv (bare Γ) emp w' where
 nb:=rfl
 nr:=rfl
 mem := λ b o u e=>⟨d b o u e,(h.mem b o u e).2⟩
 box := λ i cs e=>by cases e
 inj := λ i j a=>absurd a (wL _)
 boxmem := λ i a=>absurd a (wL _)
 row := λ r R e=>by cases e
 apart := λ r f c=>absurd c (wL _)
structure qJ2 (w w':World):Prop where
 os:w'.os=w.os
 tape:w'.tape=w.tape
 output:w'.output=w.output
 size:w.heap.size<=w'.heap.size
 block:∀ b,b<w.heap.size->w'.heap[b]?=w.heap[b]?
 drawn:w.drawn<=w'.drawn
theorem qy4:∀(τ : Ty) (v:Val τ),QW τ (yL τ v)=some v:=by
 intro τ v;have h:=Qi τ v;cases τ <;> exact h
theorem qro:∀(ts:List Ty) (a:qbO (ts.map ATy.val)),qd1 (ts.map ATy.val) (Qq (ts.map ATy.val) a [])=some a/\qfV (Qq (ts.map ATy.val) a [])=[]
 | [],_=>⟨rfl,rfl⟩
 | τ :: r,a=>by
   obtain⟨d,c⟩:=qro r a.2;constructor
   ·show qn1 (QW τ) (qd1 (r.map ATy.val)) (yL τ a.1::Qq (r.map ATy.val) a.2 [])=_;simp only[qn1,qy4,d];rfl
   ·show qfV (yL τ a.1::Qq (r.map ATy.val) a.2 [])=[];have:=(qc0 (qy4 τ a.1)).2;cases b:yL τ a.1<;>first | exact c | exact absurd b (this _ _)
def Fn2(P:Program)(g:FuncId)(τ : Ty){a:Type}(enc:a->Value)(F:Val τ -> Val τ -> Option a):Prop :=
 qgJ P g/\∀{Γ : Gh} {w:World} {x y:Val τ} {u v:Value} {c:a},Inv Γ emp w->Rep Γ (yL τ x) u->Rep Γ (yL τ y) v->F x y=some c->Calls P g #[u,v] w λ e w'=>e = .returned (enc c)/\qJ2 w w'
theorem qHG{P:Program}{g:FuncId}{c:TC}{τ ρ : Ty}(o:qZ P g (JE (jB c g))){F:Val τ -> Val τ -> Option (qe2 [ρ])}(z:c.pf g []=some ⟨[.val τ,.val τ],[ρ],λ x=>F x.1 x.2.1⟩){enc:qe2 [ρ]->Value}(A:∀ v,zZ (qbq [ρ] v) = .v (enc v)):Fn2 P g τ enc F:=by
 refine⟨o.1,λ{Γ w x y u v p} m a q B=>?_⟩;obtain⟨E,D⟩:=qro [τ,τ] (x,y,())
 have t:jB c g [yL τ x,yL τ y]=some (.v (enc p)):=by
  show jB c g (Qq ([τ,τ].map ATy.val) (x,y,()) [])=_;unfold jB;rw[D,z];simp only;have n:qd1 [ATy.val τ,ATy.val τ] (Qq ([τ,τ].map ATy.val) (x,y,()) [])=some (x,y,()):=E;rw[n];simp only;rw[B];simp only;rw[A]
 have j:JE (jB c g) emp [yL τ x,yL τ y]=some (.v (enc p),none):=by
  show(match jB c g [yL τ x,yL τ y]with | some v=>some (v,none) | none=>none)=_;rw[t]
 have:=o.2 Γ emp w _ [u,v] _ m (waE a (waE q RepL.nil)) j;refine Calls.mono this ?_;rintro e w' ⟨G,Γ',rfl,a,_,h,_⟩;have s:=zo h;subst s;refine⟨rfl,a.os,a.tape,a.output,a.size,λ b C=>a.block b C ?_,a.drawn⟩;have l : Γ.nb=0:=m.nb;have k : Γ.nr=0:=m.nr;rintro(⟨i,f,_⟩ | ⟨r,d,_⟩)
 ·rw[l]at f;exact absurd f (wL _)
 ·rw[k]at d;exact absurd d (wL _)
theorem qFJ{P:Program}{b:Tb}{m:Nat}(h:yv P (b.at m).pc.cfg){f:Nat}(a:b.has f=true):qZ P f (JE (jB (b.at m) f)):=by
 refine h.prim f _ ?_;show PC.prim _ f=_;unfold PC.prim
 have:(b.at m).pc.pf f=some (jB (b.at m) f):=by
  show(match(b.at m).has f with | true=>some (jB (b.at m) f) | false=>none)=_;rw[show(b.at m).has f=true from a]
 rw[this]
def JB{α : Type}(F : α -> α -> Option Int)(l:List α)(i j:Nat):Int:=match l[i % l.length]?,l[j % l.length]? with
 | some x,some y=>(F x y).getD 0
 | _,_=>0
def qc9{α a:Type}(F : α -> α -> Option a)(l:List α):Bool:=l.all λ x=>l.all λ y=>(F x y).isSome
def qtx(n:Nat)(lt:Nat->Nat->Bool):Bool:=(List.range n).all λ i => !lt i i&&(List.range n).all λ j=>(List.range n).all λ k=>(!(lt i j&&lt j k)||lt i k)&&(lt i j||(lt j k || !lt i k))
def qbe{α : Type}(F : α -> α -> Option Int)(l:List α):List Nat:=(Sort.pdq (ltOf (JB F l)) (Array.range l.length) 0 l.length (Lib.bitLen l.length) true true).toList
def pick{α : Type}(l:List α)(a:List Nat):List α := a.filterMap λ i=>l[i]?
def qsJ{α : Type}(F : α -> α -> Option Int):List α -> Option (List α)
 | []=>some []
 | x::l=>cond (Nat.ble (x::l).length 100000&&(qc9 F (x::l)&&qtx (x::l).length (ltOf (JB F (x::l))))) (some (pick (x::l) (qbe F (x::l)))) none
theorem qLW{α : Type}(F : α -> α -> Option Int)(l:List α)(i j:Nat):JB F l i j=JB F l (i % l.length) (j % l.length):=by
 unfold JB;rw[Nat.mod_mod,Nat.mod_mod]
theorem qOO{n:Nat}{lt:Nat->Nat->Bool}(l:0<n)(e:∀ i j,lt i j=lt (i % n) (j % n))(h:qtx n lt=true):SWO lt:=by
 have b:∀ i j k,lt i i=false/\(lt i j=true->lt j k=true->lt i k=true)/\(lt i j=false->lt j k=false->lt i k=false):=by
  intro i j k;have a:∀ i,i % n∈List.range n := λ i=>kS.2 (xS _ l);have d:=wv.1 h _ (a i);rw[wd]at d;have c:=wv.1 (wv.1 d.2 _ (a j)) _ (a k);rw[wd]at c;rw[e i i,e i j,e j k,e i k];obtain⟨d,_⟩:=d;obtain⟨c,g⟩:=c;refine⟨by simpa using d,λ e1 f=>?_,λ e1 f=>?_⟩
  ·rw[e1,f]at c;simpa using c
  ·rw[e1,f]at g;simpa using g
 exact⟨λ i=>(b i i i).1,λ i j k=>(b i j k).2.1,λ i j k=>(b i j k).2.2⟩
theorem qtJ{α : Type}{l:List α}:∀{a:List Nat},(∀ i∈a,i<l.length)->∀(q:Nat),(pick l a)[q]?=(a[q]?).bind λ i=>l[i]?
 | [],_,q=>by simp[pick]
 | i::a,h,q=>by
   have b:=h i (wh ..)
   have e:pick l (i::a)=l[i]::pick l a:=by
    unfold pick;rw[vl,List.getElem?_eq_getElem b]
   rw[e];cases q with
   | zero=>simp[List.getElem?_eq_getElem b]
   | succ q=>simpa using qtJ (λ j c=>h j (wg _ c)) q
theorem qpg{α : Type}{l:List α}{a:List Nat}(h:∀ i∈a,i<l.length):(pick l a).length=a.length:=by
 induction a with
 | nil=>rfl
 | cons i a b =>
   have d:=h i (wh ..)
   have e:pick l (i::a)=l[i]::pick l a:=by
    unfold pick;rw[vl,List.getElem?_eq_getElem d]
   rw[e,wu,wu,b λ j c=>h j (wg _ c)]
theorem qtm{α : Type}(F : α -> α -> Option Int)(l:List α)(h:SWO (ltOf (JB F l))):(qbe F l).Perm (List.range l.length)/\SortedIn (ltOf (JB F l)) 0 l.length (qbe F l).toArray:=by
 have hp:=pdq_sorts (ltOf (JB F l)) h (Array.range l.length) 0 l.length (Lib.bitLen l.length) true true (we _) (by simp) (Or.inl rfl);obtain⟨⟨h1,_,h3⟩,h4⟩:=hp;have hsz:(Array.range l.length).size=l.length:=vB;have hs':(Sort.pdq (ltOf (JB F l)) (Array.range l.length) 0 l.length (Lib.bitLen l.length) true true).size=l.length:=h1.trans hsz;have e2:∀ a:Array Nat,a.size=l.length->a.extract 0 l.length=a := λ a ha=>by rw[<- ha];exact Array.extract_size
 rw[e2 _ hs',e2 _ hsz]at h3;refine⟨?_,h4⟩;rw[Array.toList_range]at h3;exact h3
theorem qFF{σ : St}{g:Nat}{r:List SA}{nb c:Nat}{ys:List AV}{a:QF (.clo g 0::r)}(h:dS σ (.clo g 0::r) nb c ys=some a):∃ b,ys = .fn g []::b/\dS σ r nb c b=some a:=by
 cases ys with
 | nil=>simp[dS]at h
 | cons y ys =>
   simp only[dS]at h;split at h
   ·rename_i cs d;obtain⟨rfl,e⟩:=qFa d;obtain rfl:=wk e;exact⟨ys,rfl,h⟩
   ·cases h
end Go.AmZ
