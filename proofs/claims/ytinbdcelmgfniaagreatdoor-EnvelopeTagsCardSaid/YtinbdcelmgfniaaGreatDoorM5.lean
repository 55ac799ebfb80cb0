/- Part 5 of what the proofs stand on: plain functions of the program, and that they are its functions. -/
import Derived.Test.YtinbdcelmgfniaaGreatDoorM4
import Derived.KernelRfl
import Derived.Test.YtinbdcelmgfniaaGreatDoorM3
import Derived.SliceStrings
import Derived.SizedLaws
import Derived.Shelf.SlSortCmp.NoneTotal
import Derived.Test.YtinbdcelmgfniaaGreatDoorProg
import Derived.Test.YtinbdcelmgfniaaGreatDoorM2
import Derived.Deep.RegionLaw
import Derived.Handy
import Derived.Test.YtinbdcelmgfniaaGreatDoorM1
import Derived.ProofKit
import Derived.Test.YtinbdcelmgfniaaGreatDoorRows
import Derived.Lib.LaidTab
import Derived.Stop.LaidErr
import Derived.MakeChecks
set_option linter.unusedVariables false
set_option linter.unusedSimpArgs false
noncomputable section
namespace Go.GxZ
open Go.RowKit
end Go.GxZ
namespace Go.AmZ
open Go Go.GxZ
end Go.AmZ
namespace Go.AmZ
open Go Go.GxZ
theorem qlB{α:Type}{l:List α}{i:Nat}{x:α}(h:l[i]?=some x):l.take (i+1)=l.take i++[x]:=by rw[xJ,h];rfl
end Go.AmZ
namespace Go.AmZ
open Go Go.GxZ
end Go.AmZ
namespace Go.AmZ
open Go Go.GxZ
end Go.AmZ
namespace Go.AmZ
open Go Go.GxZ Go.Lib
theorem qsO{t:T}(h:qdc t=0):zm t=0/\qa3 t=0:=by
 unfold qdc at h;exact qc2 h
end Go.AmZ
namespace Go.AmZ
open Go Go.GxZ
end Go.AmZ
namespace Go.AmZ
open Go Go.GxZ
end Go.AmZ
namespace Go.AmZ
open Go Go.GxZ
end Go.AmZ
namespace Go.AmZ
open Go Go.GxZ
end Go.AmZ
namespace Go.AmZ
open Go Go.GxZ
def qbH(p:List UInt8->Bool):T->Bool:=T.para λ t a=>(!(t.kind==3)||p t.name)&&a.all id
theorem qhC(p:List UInt8->Bool)(t:T):qbH p t=((!(t.kind==3)||p t.name)&&(t.kids.map (qbH p)).all id):=T.para_eq _ _
def qbo:T->List T:=T.para λ t a=>t::a.flatten
theorem qrz(t:T):qbo t=t::(t.kids.map qbo).flatten:=T.para_eq _ _
theorem qwv(t:T):(qbo t).length=size t:=by
 refine T.ind (P:=λ t=>(qbo t).length=size t) ?_ t;intro t a;rw[qrz,jk,wB,List.length_flatten,xc];have:t.kids.map (List.length ∘ qbo)=t.kids.map size:=kS λ k b=>a k b;rw[this];omega
theorem qy8(p:List UInt8->Bool)(t:T):(qbo t).all (λ u => !(u.kind==3)||p u.name)=qbH p t:=by
 refine T.ind (P:=λ t=>(qbo t).all (λ u => !(u.kind==3)||p u.name)=qbH p t) ?_ t;intro t b;rw[qrz,qhC,ke,List.all_flatten];congr 1;rw[vL,vL];rw[xH,wo,wo];exact⟨λ h k a=>(b k a).symm.trans (h k a),λ h k a=>(b k a).trans (h k a)⟩
def pPl(n:List UInt8):Bool:=qh (ieq (ya n).2.2 3)
def qjH(n:List UInt8):Bool:=n==qFF||n==qDC||n==qE2||n==qF2||n==qFK||n==qCT
def pFr(n:List UInt8):Bool := !qjH n&&pPl n
theorem qbs{n x:List UInt8}(h:n=x)(a:qjH x=true):qjH n=true:=by rw[h];exact a
theorem qz4{n:List UInt8}(e:n≠qFF)(d:n≠qDC)(c:n≠qE2)(b:n≠qF2)(a:n≠qFK):qjH n=(n==qCT):=by
 unfold qjH;rw[beq_eq_false_iff_ne.2 e,beq_eq_false_iff_ne.2 d,beq_eq_false_iff_ne.2 c,beq_eq_false_iff_ne.2 b,beq_eq_false_iff_ne.2 a];rfl
theorem qDU(t:T):size t<=1000000000->Ev (λ m _=>jB m t) (qbo t):=by
 induction t using T.ind with
 |h t n=>
   intro r;have s:=Qe t;have b:=qwv t;refine wal ?_;simp only[qw6,qef,qL];rw[qrz]at b |-
   have a:∀i,((t.kids.take i).map qbo).flatten.length<=(t.kids.map qbo).flatten.length:=λ i=>by
    have:=congrArg (λ l=>(l.map qbo).flatten.length) (kT i t.kids);simp only[kK,List.flatten_append,wd]at this;omega
   have c:=qZ (P:=λ i=>Ev (λ m k=>JT m (jB m) k i t.kind t.name t.sort t.kids (t::((t.kids.take i).map qbo).flatten)) (t::(t.kids.map qbo).flatten)) t.kids (by omega)
    (λ d=>by
     refine waj ?_;simp only[qlF,qdV];refine wai d ?_;rw[xD];exact wak _)
    (λ i x f u d p o j=>by
     refine waj ?_;simp only[qlF,qdV,qL];have g:=wc f;have v:=JN t x g;have q:=a (i+1)
     have e:((t.kids.take (i+1)).map qbo).flatten=((t.kids.take i).map qbo).flatten++qbo x:=by
      rw[qlB f,kK,List.flatten_append];simp
     rw[e,wd]at q;rw[e]at j;rw[wB]at b;refine wag d (wam p (wae (n x g (by omega)) (wag (qlL (by rw[wB];omega) (by omega)) ?_)));rw[o];exact j)
   refine wan (L:=λ m k=>JT m (jB m) k 0 t.kind t.name t.sort t.kids [t]) ?_;exact c 0 (wh _)
def qd3(t:T):Bool:=decide (qdc t=0)&&qbH pFr t
end Go.AmZ
namespace Go.AmZ
open Go Go.GxZ
theorem qEA(n:List UInt8):Ev (λ m _=>qbi m n) (qjH n):=by
 refine wal ?_;simp only[qnL,qbq];have a:qjH n=true->Ev (λ _ _=>some true) (qjH n):=λ h=>waf h.symm;refine wah (λ h=>a (qbs (qaw.1 h) (by decide))) λ f=>?_;refine wah (λ h=>a (qbs (qaw.1 h) (by decide))) λ e=>?_;refine wah (λ h=>a (qbs (qaw.1 h) (by decide))) λ d=>?_;refine wah (λ h=>a (qbs (qaw.1 h) (by decide))) λ c=>?_;refine wah (λ h=>a (qbs (qaw.1 h) (by decide))) λ b=>?_;refine waf ?_;rw[qz4 (qaA.1 f) (qaA.1 e) (qaA.1 d) (qaA.1 c) (qaA.1 b)];rfl
theorem qCk(n:List UInt8):Ev (λ m _=>qcZ m n) (pFr n):=by
 refine wal ?_;simp only[qqb,qc8];have a:qjH n=true->Ev (λ _ _=>some false) (pFr n):=λ h=>waf (by unfold pFr;rw[h];rfl);refine wah (λ h=>a (qbs (qaw.1 h) (by decide))) λ g=>?_;refine wah (λ h=>a (qbs (qaw.1 h) (by decide))) λ f=>?_;refine wah (λ h=>a (qbs (qaw.1 h) (by decide))) λ e=>?_;refine wah (λ h=>a (qbs (qaw.1 h) (by decide))) λ d=>?_;refine wah (λ h=>a (qbs (qaw.1 h) (by decide))) λ c=>?_;refine wah (λ h=>a (qbs (qaw.1 h) (by decide))) λ b=>?_;refine wae (qsF n) (waf ?_);unfold pFr pPl;rw[qz4 (qaA.1 g) (qaA.1 f) (qaA.1 e) (qaA.1 d) (qaA.1 c),show(n==qCT)=false from beq_eq_false_iff_ne.2 (qaA.1 b),<-qoV];rfl
theorem qzO(t:T):size t<=1000000000->Ev (λ m _=>qA m t) (qbH pFr t):=by
 induction t using T.ind with
 |h t j=>
   intro r;have s:=Qe t;refine wal ?_;simp only[qiR,Qy]
   have d:=qZ (P:=λ i=>Ev (λ m k=>zq m (qA m) k t.kids t.kids.length i) (((t.kids.drop i).map (qbH pFr)).all id)) t.kids (by omega)
    (λ f=>by
     refine waj ?_;simp only[qcD,Qt];refine wai f (waf ?_);rw[km];rfl)
    (λ i x l p f o n q=>by
     refine waj ?_;simp only[qcD,Qt,qL];have g:=wc l;have u:=JN t x g;rw[p,wz,ke];refine wag f (wam o (wae (j x g (by omega)) (wah (λ b=>?_) λ b=>?_)))
     .rw[bnt]at b;rw[b];exact wak _
     .rw[bnf]at b;rw[b,n];exact q)
   have a:Ev (λ m _=>zq m (qA m) m t.kids t.kids.length 0) ((t.kids.map (qbH pFr)).all id):=
    wan (L:=λ m k=>zq m (qA m) k t.kids t.kids.length 0) ((d 0 (wh _)).res (by rw[wP]))
   rw[qhC];refine wah (λ c=>?_) λ c=>?_
   .rw[qz]at c;have e:(!(t.kind==3))=false:=by rw[c];rfl
    rw[e,vA];refine wae (qCk t.name) (wah (λ h=>?_) λ h=>?_)
    .rw[bnt]at h;rw[h];exact wak _
    .rw[bnf]at h;rw[h];exact a
   .rw[ql]at c;have e:(!(t.kind==3))=true:=by rw[wJ,beq_eq_false_iff_ne];exact c
    rw[e,vd];exact a
theorem qBh(t:T)(a:size t<=1000000000):Ev (λ m _=>qe0 m t) (qd3 t):=by
 refine wal ?_;simp only[qtR,qeM,qL];unfold qd3;refine wae (qx0 t a) (wah (λ h=>?_) λ h=>?_)
 .rw[qz]at h;rw[decide_eq_true h,kJ];exact wae (qzO t a) (wak _)
 .rw[ql]at h;rw[decide_eq_false h,xh];exact wak _
theorem qBt(t:T)(n:size t<=1000000000):Ev (λ m _=>qfY m t) (qd3 t):=by
 refine wal ?_;simp only[quU,qcX,qL];unfold qd3;refine wae (qxg t n) (wah (λ h=>?_) λ h=>?_)
 .rw[bnt,ql]at h;rw[decide_eq_false h,xh];exact wak _
 rw[bnf,qz]at h;rw[decide_eq_true h,kJ,<-qy8];refine wae (qDU t n) ?_;have p:=qwv t;generalize qbo t=l at*
 have c:=qZ (P:=λ i=>Ev (λ m k=>Jo m k l i) ((l.drop i).all λ u => !(u.kind==3)||pFr u.name)) l (by omega)
  (λ f=>by
   refine waj ?_;simp only[qkL,qcV];refine wai f (waf ?_);rw[km];rfl)
  (λ i x r q f e o j=>by
   refine waj ?_;simp only[qkL,qcV];rw[q,ke];refine wag f (wam e (wah (λ b=>?_) λ b=>?_))
   .rw[qz]at b;have d:(!(x.kind==3))=false:=by rw[b];rfl
    rw[d,vA];unfold pFr at j |-
    refine wam e (wae (qEA x.name) (wah (λ g=>?_) λ g=>?_))
    .rw[g];exact wak _
    rw[g];refine wam e (wae (qx9 x.name) (wah (λ a=>?_) λ a=>?_))
    .unfold pPl;rw[a];exact wak _
    .rw[o];refine j.res ?_;have:pPl x.name=true:=by unfold pPl;rw[a];rfl
     rw[this];rfl
   .rw[ql]at b;have d:(!(x.kind==3))=true:=by rw[wJ,beq_eq_false_iff_ne];exact b
    rw[d,vd,o,kJ];exact j)
 refine wan (L:=λ m k=>Jo m k l 0) ?_;exact(c 0 (wh _)).res (by rw[wP])
end Go.AmZ
namespace Go.AmZ
open Go Go.GxZ Go.Lib
theorem qzR(t:T):qlz t->∀a:Int,-1000000000<=a->a<=1000000000->Ev (λ m _=>yc m t a) (Jz t a):=by
 induction t using T.ind with
 |h t j=>
   intro p a d c;let⟨u,v,s⟩:=(qyd t).1 p;refine wal ?_;simp only[qsa,qbk];rw[qw9];refine wah (λ h=>?_) λ h=>?_
   .rw[qno]at h;exact waf (by rw[if_pos (.inl h)])
   rw[que]at h;refine wah (λ f=>?_) λ f=>?_
   .rw[z8]at f;exact waf (by rw[if_pos (.inr (by omega))])
   rw[zZ]at f;rw[if_neg (by omega),show qbN a 1=a-1 from rfl,qhN (by omega)]
   have b:=qZ (P:=λ i=>∀a:Int,0<=a->a<=1000000000->Ev (λ m k=>Qf m (yc m) k a i t.kind t.name t.sort t.kids) (qgI ((t.kids.drop i).map Jz) a)) t.kids u
    (λ e a _ _=>by
     refine waj ?_;simp only[qir,qbe];refine wai e ?_;rw[km];exact wak _)
    (λ i x l q e o n r a d c=>by
     refine waj ?_;simp only[qir,qbe,qL];have g:=wc l;refine wag e (wam o (wae (j x g (s x g) a (by omega) (by omega)) ?_));rw[q,wz,qgI,n];have:=qlk x a;refine wah (λ h=>?_) λ h=>?_
     .rw[z8]at h;exact waf (by rw[if_pos h])
     .rw[zZ]at h;rw[if_neg (by omega)];exact r _ (by omega) (by omega))
   refine wan (L:=λ m k=>Qf m (yc m) k (a-1) 0 t.kind t.name t.sort t.kids) ?_;exact(b 0 (wh _) (a-1) (by omega) (by omega)).res (by rw[wP])
theorem qE9(l:List T)(j:l.length<2^62)(q:∀t∈l,qlz t)(n:Nat)(a:Int)(c:0<=a)(b:a<=1000000000):Ev (λ m _=>qh9 m l n a) (decide (l.length<=n)&&qjR l a):=by
 refine wal ?_;simp only[qwQ,qdB];refine wah (λ h=>?_) λ h=>?_
 .rw[z8]at h;exact waf (by rw[decide_eq_false (by omega)];rfl)
 rw[zZ]at h;rw[decide_eq_true (by omega),kJ]
 have d:=qZ (P:=λ i=>∀a:Int,0<=a->a<=1000000000->Ev (λ m k=>JU m k l a i) (qjR (l.drop i) a)) l j
  (λ e a _ _=>by
   refine waj ?_;simp only[qlj,qdy];refine wai e ?_;rw[km];exact wak _)
  (λ i x f r e p o s a c b=>by
   refine waj ?_;simp only[qlj,qdy,qL];have g:=wc f;refine wag e (wam p (wae (qzR x (q x g) a (by omega) (by omega)) ?_));rw[r,qjR,o];have:=qlk x a;refine wah (λ h=>?_) λ h=>?_
   .rw[z8]at h;exact waf (by rw[if_pos h])
   .rw[zZ]at h;rw[if_neg (by omega)];exact s _ (by omega) (by omega))
 refine wan (L:=λ m k=>JU m k l a 0) ?_;exact(d 0 (wh _) a c b).res (by rw[wP])
end Go.AmZ
namespace Go.AmZ
open Go Go.GxZ
theorem qDj(l:List T)(a:l.length<2^62)(b:∀t∈l,qlz t):Ev (λ m _=>qiq m l) (decide (l.length<=20)&&qjR l 450):=by
 refine wal ?_;simp only[qw3,qgt];exact wae (qE9 l a b 20 450 (by decide) (by decide)) (wak _)
def qbv(p:T):Int:=if qdc p≠0 then qdc p else if qd3 p=false then 10 else 0
theorem qEX(p:T)(a:size p<=1000000000):Ev (λ m _=>qaF m p) (qbv p):=by
 refine wal ?_;simp only[qmE,qa7,qL];unfold qbv;refine wae (qx0 p a) ?_;by_cases h:qdc p=0
 .rw[if_neg (λ g=>g h)];refine wai (bnf.2 (qz.2 h)) (wae (qBh p a) ?_);cases qd3 p with
  |true=>exact wai rfl (wak _)
  |false=>exact wag rfl (wak _)
 .rw[if_pos h];exact wag (bnt.2 (ql.2 h)) (wak _)
theorem qEj(p:T)(a:size p<=1000000000):Ev (λ m _=>qcQ m p) (qbv p):=by
 refine wal ?_;simp only[qpK,qda,qL];unfold qbv;refine wae (qxg p a) ?_;by_cases h:qdc p=0
 .rw[if_neg (λ g=>g h)];refine wai (bnf.2 (qz.2 h)) (wae (qBt p a) ?_);cases qd3 p with
  |true=>exact wai rfl (wak _)
  |false=>exact wag rfl (wak _)
 .rw[if_pos h];exact wag (bnt.2 (ql.2 h)) (wak _)
theorem qAz{p:T}(h:qbv p=0):qdc p=0/\qd3 p=true:=by
 unfold qbv at h;by_cases g:qdc p=0
 .refine⟨g,?_⟩;rw[if_neg (λ e=>e g)]at h;cases a:qd3 p with
  |true=>rfl
  |false=>rw[a,if_pos rfl]at h;cases h
 .rw[if_pos g]at h;exact absurd h g
def qgz:List T->Int
 |[]=>0
 |t::l=>if qbv t=0 then qgz l else qbv t
def qbP(l:List T):Int:=if 200<l.length then 3 else qgz l
theorem qBe:∀{l:List T},qgz l=0->∀t∈l,qbv t=0
 |t::l,h,x,a=>by
   rw[qgz]at h;by_cases g:qbv t=0
   .rw[if_pos g]at h;obtain rfl|a:=wM.1 a
    .exact g
    .exact qBe h x a
   .rw[if_neg g]at h;exact absurd h g
theorem qxL:∀{l:List T},(∀t∈l,qbv t=0)->qgz l=0
 |[],_=>rfl
 |t::l,h=>by rw[qgz,if_pos (h t (ww ..))];exact qxL λ x a=>h x (wj _ a)
theorem qxt(l:List T)(d:∀t∈l,size t<=1000000000)(o:l.length<=1000000):Ev (λ m _=>QM m l) (qbP l):=by
 refine wal ?_;simp only[qk8,QR];unfold qbP;by_cases h:200<l.length
 .rw[if_pos h];exact wag (z8.2 (by omega)) (wak _)
 rw[if_neg h];refine wai (zZ.2 (by omega)) ?_
 have a:=qZ (P:=λ i=>Ev (λ m k=>yA m k l l.length i) (qgz (l.drop i))) l (by omega)
  (λ b=>by
   refine waj ?_;simp only[qed,QY];refine wai b ?_;rw[km];exact wak _)
  (λ i x c j b f e n=>by
   refine waj ?_;simp only[qed,QY,qL];refine wag b (wam f (wae (qEX x (d x (wc c))) ?_));rw[j,qgz,e];by_cases g:qbv x=0
   .rw[if_pos g];exact wai (bnf.2 (qz.2 g)) n
   .rw[if_neg g];exact wag (bnt.2 (ql.2 g)) (wak _))
 exact wan (L:=λ m k=>yA m k l l.length 0) (a 0 (wh _))
theorem qCw(l:List T)(d:∀t∈l,size t<=1000000000)(o:l.length<=1000000):Ev (λ m _=>qb5 m l) (qbP l):=by
 refine wal ?_;simp only[qoT,J8];unfold qbP;by_cases h:200<l.length
 .rw[if_pos h];exact wag (z8.2 (by omega)) (wak _)
 rw[if_neg h];refine wai (zZ.2 (by omega)) ?_
 have a:=qZ (P:=λ i=>Ev (λ m k=>jw m k l i) (qgz (l.drop i))) l (by omega)
  (λ b=>by
   refine waj ?_;simp only[qfH,J4];refine wai b ?_;rw[km];exact wak _)
  (λ i x c j b f e n=>by
   refine waj ?_;simp only[qfH,J4,qL];refine wag b (wam f (wae (qEj x (d x (wc c))) ?_));rw[j,qgz,e];by_cases g:qbv x=0
   .rw[if_pos g];exact wai (bnf.2 (qz.2 g)) n
   .rw[if_neg g];exact wag (bnt.2 (ql.2 g)) (wak _))
 exact wan (L:=λ m k=>jw m k l 0) (a 0 (wh _))
end Go.AmZ
namespace Go.AmZ
open Go Go.GxZ Go.Lib
theorem qBq(l r:List T)(g:l.length<2^62)(u:∀t∈l,size t<=1000000000)(s:∀t∈r,size t<=1000000000):Ev (λ m _=>qa2 m l r) (decide (l=r)):=by
 refine wal ?_;simp only[qtJ,qb2];refine wah (λ h=>?_) λ h=>?_
 .rw[bnt,ql]at h;exact waf (by rw[decide_eq_false];intro a;subst a;exact h rfl)
 rw[bnf,qz]at h
 have b:=qZ (P:=λ i=>Ev (λ m k=>QF m k l r i) (decide (l.drop i=r.drop i))) l g
  (λ e=>by
   refine waj ?_;simp only[qi9,qbQ];refine wai e ?_;refine waf ?_;rw[km,vV (by omega),decide_eq_true rfl])
  (λ i x f p e o j q=>by
   refine waj ?_;simp only[qi9,qbQ,qL];have d:i<r.length:=by have:=(List.getElem?_eq_some_iff.1 f).1;omega
   have c:=List.getElem?_eq_getElem d;refine wag e (wam o (wam (by rw[qdd];exact c) ?_));refine wae (qBu x _ (u x (wc f)) (s _ (wc c))) ?_;rw[p,qoR c,j];unfold qfZ;by_cases a:x=r[i]
   .rw[decide_eq_true a];refine wai rfl (q.res ?_);rw[xH,decide_eq_true_iff,decide_eq_true_iff,a];exact⟨λ h=>by rw[h],λ h=>(List.cons.inj h).2⟩
   .rw[decide_eq_false a];refine wag rfl (waf ?_);rw[decide_eq_false];intro n;exact a (List.cons.inj n).1)
 refine wan (L:=λ m k=>QF m k l r 0) ?_;exact(b 0 (wh _)).res (by rw[wP,wP])
end Go.AmZ
namespace Go.AmZ
theorem qAj(n:Nat):qcy (n+3000)=some true:=by kernel_rfl
end Go.AmZ
namespace Go.AmZ
open Go Go.GxZ
theorem qGo{x y:Int}(h:thn x y=0):x=0/\y=0:=by
 unfold thn at h;by_cases a:x=0
 .rw[if_pos a]at h;exact⟨a,h⟩
 .rw[if_neg a]at h;exact absurd h a
theorem qiw:∀(l:List Int) (x:Int),l.foldl thn x=0->x=0/\∀y∈l,y=0
 |[],x,h=>⟨h,by simp⟩
 |y::l,x,h=>by
   let⟨f,d⟩:=qiw l (thn x y) h;let⟨c,b⟩:=qGo f;exact⟨c,λ z a=>(wM.1 a).elim (λ e=>e▸b) (d z)⟩
theorem qjg{t:T}(h:zm t=0):qaR t=0/\size t<=400/\JZ t<=40:=by
 unfold zm at h;by_cases a:qaR t=0
 .rw[if_neg (λ g=>g a)]at h;by_cases b:400<size t\/40<JZ t
  .rw[if_pos b]at h;cases h
  .exact⟨a,by omega,by omega⟩
 .rw[if_pos a]at h;exact absurd h a
theorem qAZ{t k:T}(h:zm t=0)(c:k∈t.kids):zm k=0:=by
 let⟨d,o,n⟩:=qjg h;rw[qho]at d;have i:=(qiw _ _ d).2 _ (xb c);have m:=JN t k c
 have j:JZ k<=JZ t:=by
  rw[qgd t]
  have:∀(l:List Nat) (a x:Nat),x∈l->x<=l.foldl max a:=by
   intro l
   induction l with
   |nil=>intro a x b;cases b
   |cons y l e=>
     intro a x b;obtain rfl|b:=wM.1 b
     .exact wC (vH a x) (qvS l _)
     .exact e _ x b
  have:=this _ 0 _ (xb (f:=JZ) c);omega
 unfold zm;rw[if_neg (λ g=>g i),if_neg (by omega)]
theorem qAg{t:T}(h:zm t=0)(e:t.kind=1):0<=t.sort/\t.sort<=5/\t.name.length<=24:=by
 have d:=(qjg h).1;rw[qho]at d;have a:=(qiw _ _ d).1;unfold qaa qnp at a;rw[if_pos (.inl e)]at a;by_cases c:t.sort<0\/5<t.sort\/0<t.kids.length
 .rw[if_pos c]at a;cases a
 .rw[if_neg c]at a;cases b:Qc t.name with
  |false=>rw[b]at a;cases a
  |true=>
    unfold Qc at b;simp only[wb,decide_eq_true_eq]at b;exact⟨by omega,by omega,b.1.1.2⟩
end Go.AmZ
namespace Go.AmZ
open Go Go.GxZ
theorem qqn:Ev (λ m _=>qcy m) true:=⟨3000,λ m k a _=>by
 obtain⟨n,rfl⟩:∃n,m=n+3000:=⟨m-3000,by omega⟩
 exact qAj n⟩
theorem qi2{a b:List UInt8}(h:a.length+b.length<1000000000000):qeV a b=true:=by
 unfold qeV;exact vZ (by omega)
theorem qoh:∀f u,(qoE f u).length<=f
 |0,_=>wa 0
 |f+1,u=>by
   rw[qoE];split
   .exact kX (wh f)
   .rw[wd];have:=qoh f (u/10);simp only[wB,kC];omega
theorem qhY(n:Int):(J7 n).length<=21:=by
 unfold J7;split
 .have:=qoh 20 n.natAbs;rw[wB];omega
 .have:=qoh 20 n.toNat;omega
theorem qmW(n:Int)(b:0<=n)(a:n<=1000000000):Ev (λ _ _=>strconv_Itoa 0 n) (J7 n):=by
 unfold strconv_Itoa;exact wag (qno.2 (by omega)) (wag (qno.2 (by omega)) (wak _))
theorem qGt(t:T):T.mk t.kind t.name t.sort t.kids=t:=by cases t;rfl
theorem qFx(t:T):size t<=1000000->Ev (λ m _=>qG m [] t) t:=by
 induction t using T.ind with
 |h t e=>
   intro n;have f:=Qe t;refine wal ?_;simp only[qrI,qbh]
   have a:=qZ (P:=λ i=>Ev (λ m k=>(q9 m (qG m) k).2 [] t.kids t.kids.length i 0 [] 0 t.kind t.name t.sort [] (t.kids.take i)) t) t.kids (by omega)
    (λ b=>by
     refine waj ?_;simp only[qhE,qbj];refine wai b (waf ?_);rw[xD];exact qGt t)
    (λ i x c o b j g l=>by
     refine waj ?_;simp only[qhE,qbj,qL];have d:=wc c;have q:=JN t x d;have p:=List.length_take_le' i t.kids;refine wag b (wam j (wae (e x d (by omega)) (wag (qlL (by omega) (by omega)) ?_)));rw[g,<-qlB c];exact l)
   refine wan (L:=λ m k=>(q9 m (qG m) k).1 [] [] (List.length ([]:List (T×T))) 0 t.kind t.name t.sort t.kids 0 [] 0 []) (waj ?_);simp only[qpr,qdA];exact wai rfl (a 0 (wh _))
def ApR(k a:T):Prop:=a.kind=k.kind/\(k.kind≠1->a.name=k.name)/\a.sort=k.sort/\a.kids.length=k.kids.length
def ApL(ks a:List T):Prop:=a.length=ks.length/\szL a<=szL ks/\∀(j:Nat) (k b:T),ks[j]?=some k->a[j]?=some b->ApR k b
theorem qu1{K V:Type}(eq:K->K->Bool)(k:K)(v:V):∀l:List (K×V),(qdX eq l k v).length<=l.length+1
 |[]=>wa 1
 |p::l=>by
   rw[qdX];cases eq k p.1 with
   |true=>exact wU _
   |false=>exact kX (qu1 eq k v l)
theorem qBy(b:List UInt8)(aa:b.length<=10)(t:T):∀s:List (List UInt8×List UInt8),(∀u,u=t->zm u=0)->s.length+size t<=100000->
  ∃l c,Ev (λ m _=>qF m t b s) ((l,()),(c,()))/\l.length<=s.length+size t/\size c<=size t/\ApR t c/\ApL t.kids c.kids:=by
 induction t using T.ind with
 |h t X=>
   intro s E J;have E:=E t rfl;have ab:=Qe t;have I:size t=1+szL t.kids:=by rw[jk];rfl
   have v:∀(d i:Nat) (s:List (List UInt8×List UInt8)) (z:Int) (y:List UInt8) (p:Int) (o:List T),t.kids.length=i+d->s.length+szL (t.kids.drop i)<=100000->o.length+d<=100000->
     ∃l ks,Ev (λ m k=>yL m (qF m) k b t.kids t.kids.length i s 0 [] 0 z y p [] o) ((l,()),(T.mk z y p (o++ks),()))/\l.length<=s.length+szL (t.kids.drop i)/\ApL (t.kids.drop i) ks:=by
    intro d
    induction d with
    |zero=>
      intro i s z y p o hi J ha;refine⟨s,[],waj ?_,w7 _ _,?_⟩
      .simp only[qfN,J3];exact wai (zZ.2 (by omega)) (waf (by rw[wA]))
      .rw[vV (by omega)];exact⟨rfl,wa _,λ j k O h=>by simp at h⟩
    |succ d H=>
      intro i s z y p o hi J ha;obtain⟨x,D⟩:∃x,t.kids[i]?=some x:=⟨_,List.getElem?_eq_getElem (by omega)⟩
      have Q:=wc D
      have M:t.kids.drop i=x::t.kids.drop (i+1):=by
       rw[xY (by omega)];rw[List.getElem?_eq_getElem (by omega)]at D;rw[kz D]
      rw[M,qkA]at J;let⟨q,x',e1,n1,z1,W,_⟩:=X x Q s (λ u Y=>by rw[Y];exact qAZ E Q) (by omega);let⟨V,ks,U,n2,C,N,G⟩:=H (i+1) q z y p (o++[x']) (by omega) (by omega) (by rw[wd];simp only[wB,kC];omega);refine⟨V,x'::ks,waj ?_,by rw[M,qkA];omega,?_⟩
      .simp only[qfN,J3,qL];refine wag (z8.2 (by omega)) (wam (a:=x) (by rw[qdd];exact D) (wae e1 (wag (qlL (by omega) (by omega)) ?_)));have K:iw .i64 (qj (i:Int) 1)=((i+1:Nat):Int):=by rw[show(1:Int)=((1:Nat):Int)from rfl,qog,qhN (by omega)]
       rw[K];rw[wk]at U;exact U
      .rw[M];refine⟨by rw[wB,wB,C],by rw[qkA,qkA];omega,λ j k O h S=>?_⟩;cases j with
       |zero=>cases h;cases S;exact W
       |succ j=>exact G j k O h S
   have done:∀(q:List (List UInt8×List UInt8)) (nm:List UInt8),q.length<=s.length+1->(t.kind≠1->nm=t.name)->
     ∃l c,Ev (λ m _=>yL m (qF m) m b t.kids t.kids.length 0 q 0 [] 0 t.kind nm t.sort [] []) ((l,()),(c,()))/\l.length<=s.length+size t/\size c<=size t/\ApR t c/\ApL t.kids c.kids:=by
    intro q nm w P;let⟨l,ks,e,n,C,N,G⟩:=v t.kids.length 0 q t.kind nm t.sort [] (by omega) (by rw[wP];omega) (by rw[kC];omega);rw[wP]at n C N G;exact⟨l,_,wan (L:=λ m k=>yL m (qF m) k b t.kids t.kids.length 0 q 0 [] 0 t.kind nm t.sort [] []) e,by omega,by rw[jk,I];show 1+szL ([]++ks)<=_;rw[kD];omega,⟨rfl,P,rfl,C⟩,C,N,G⟩
   have f:∀{F:Nat->Nat->Option ((List (List UInt8×List UInt8)×Unit)×(T×Unit))},(∃l c,Ev F ((l,()),(c,()))/\l.length<=s.length+size t/\size c<=size t/\ApR t c/\ApL t.kids c.kids)->(∀r,Ev F r->Ev (λ m _=>qF m t b s) r)->∃l c,Ev (λ m _=>qF m t b s) ((l,()),(c,()))/\l.length<=s.length+size t/\size c<=size t/\ApR t c/\ApL t.kids c.kids:=
    λ⟨l,c,e,h⟩ g=>⟨l,c,g _ e,h⟩
   by_cases w:t.kind=1
   .have A:0<=t.sort/\t.sort<=5/\t.name.length<=24:=qAg E w;have P:=qhY t.sort;cases R:qx (qfA (veq .str) [] s (J7 t.sort++t.name)) []with
    |true=>
      refine f (done (qdX (veq .str) s (J7 t.sort++t.name) (b++J7 s.length)) (qfA (veq .str) [] (qdX (veq .str) s (J7 t.sort++t.name) (b++J7 s.length)) (J7 t.sort++t.name)) (qu1 _ _ _ s) λ h=>absurd w h) λ r B=>?_;refine wal ?_;simp only[qc1,jV,qL];have Z:=qhY (s.length:Int);exact wag (qz.2 w) (wae (qmW t.sort A.1 (by omega)) (wag (qi2 (by omega)) (wag R (wae (qmW (s.length:Int) (by omega) (by omega)) (wag (qi2 (by omega)) B)))))
    |false=>
      refine f (done s (qfA (veq .str) [] s (J7 t.sort++t.name)) (wU _) λ h=>absurd w h) λ r B=>?_;refine wal ?_;simp only[qc1,jV,qL];exact wag (qz.2 w) (wae (qmW t.sort A.1 (by omega)) (wag (qi2 (by omega)) (wai R B)))
   .refine f (done s t.name (wU _) λ _=>rfl) λ r B=>?_;refine wal ?_;simp only[qc1,jV,qL];exact wai (ql.2 w) B
end Go.AmZ
namespace Go.AmZ
open Go Go.GxZ Go.RowKit
open Go.ChangeShapes Go.WideShapes Go.ChangeAt Go.WideMaps Go.WideElems
theorem qsC(b o j:Nat):(⟨b,o,none⟩:Addr).add j=⟨b,o+j,none⟩:=by unfold Addr.add;split<;>simp_all
def Ty.wt:Ty->Nat
 |.int _|.bool=>1
 |.str=>16
 |.list _=>24
 |.term=>56
 |.pair a b=>a.wt+b.wt
 |.one a=>a.wt
 |.map _ _=>8
theorem Ty.wt_pos:∀a:Ty,0<a.wt
 |.int _|.bool=>Nat.one_pos
 |.list _=>(by decide:0<24)
 |.str=>(by decide:0<16)
 |.term=>(by decide:0<56)
 |.pair a b=>wv (Ty.wt_pos a) (w7 _ _)
 |.one a=>Ty.wt_pos a
 |.map _ _=>(by decide:0<8)
mutual
def tyM(P:Program):Nat->Ty->TypeId->Bool
 |0,_,_=>false
 |_+1,.int k,t=>match P.underlying t with
   |some (.int d)=>decide (d=k)&&decide (P.cellsOf t=1)
   |_=>false
 |_+1,.bool,t=>match P.underlying t with
   |some .bool=>decide (P.cellsOf t=1)
   |_=>false
 |_+1,.str,t=>match P.underlying t with
   |some .string=>decide (P.cellsOf t=1)
   |_=>false
 |n+1,.list a,t=>match P.underlying t with
   |some (.slice e)=>decide (P.cellsOf t=1)&&decide (P.cellsOf e=a.size)&&decide (a.wt<=P.bytesOf e)&&tyM P n a e
   |_=>false
 |n+1,.term,t=>qyV P n t
 |n+1,.pair a b,t=>match P.underlying t with
   |some (.struct c)=>decide (P.cellsOf t=a.size+b.size)&&fsM P n (.pair a b) 0 c.toList
   |_=>false
 |n+1,.one a,t=>match P.underlying t with
   |some (.struct c)=>decide (P.cellsOf t=a.size)&&fsM P n a 0 c.toList
   |_=>false
 |_+1,.map _ _,_=>false
def fsM(P:Program):Nat->Ty->Nat->List Field->Bool
 |0,_,_,_=>false
 |n+1,τ,off,[f]=>decide (f.offset=off)&&decide (P.cellsOf f.type=τ.size)&&tyM P n τ f.type
 |n+1,.pair a b,off,f::g::r=>decide (f.offset=off)&&decide (P.cellsOf f.type=a.size)&&tyM P n a f.type&&fsM P n b (off+a.size) (g::r)
 |_+1,_,_,_=>false
def qyV(P:Program):Nat->TypeId->Bool
 |0,_=>false
 |n+1,t=>match P.underlying t with
   |some (.struct f)=>match f.toList with
     |[d,c,b,a]=>decide (P.cellsOf t=4)&&decide (d.offset=0)&&decide (c.offset=1)&&decide (b.offset=2)&&decide (a.offset=3)&&decide (P.cellsOf a.type=1)&&
      tyM P n (.int .i64) d.type&&tyM P n .str c.type&&tyM P n (.int .i64) b.type&&(match P.underlying a.type with
      |some (.slice e)=>decide (e=t)&&decide (0<P.bytesOf t)
      |_=>false)
     |_=>false
   |_=>false
end
def qg5:(τ:Ty)->Val τ->Prop
 |.int k,n=>k.min<=n/\n<=k.max
 |.bool,_=>True
 |.str,s=>s.length<2^62
 |.term,t=>qlz t
 |.list a,l=>(l.length<2^62/\l.length*a.wt<=2^47)/\∀x∈l,qg5 a x
 |.pair a b,p=>qg5 a p.1/\qg5 b p.2
 |.one a,v=>qg5 a v
 |.map _ _,_=>True
def ghW(W:World):Gh:=⟨λ b o=>match W.cell? ⟨b,o,none⟩with|some u=>if u.oneCell'=true then some u else none|none=>none,0,λ _=>0,0,λ _=>0,λ _=>0,λ _=>0,λ _=>0,λ _=>0⟩
theorem qrE{W:World}{b o:Nat}{u:Value}:(ghW W).mem b o=some u↔W.cell? ⟨b,o,none⟩=some u/\u.oneCell'=true:=by
 show(match W.cell? ⟨b,o,none⟩with|some u=>if u.oneCell'=true then some u else none|none=>none)=some u↔_;cases W.cell? ⟨b,o,none⟩with
 |none=>simp
 |some v=>
   simp only[wn];constructor
   .intro h;split at h
    .cases h;exact⟨rfl,‹_›⟩
    .cases h
   .rintro⟨rfl,h⟩;rw[if_pos h]
theorem qEM{W:World}{e:TypeId}{fr:Nat×Nat}(h:W.heap[0]?=some (.cells qwa e fr)):Tab (ghW W) W:=by
 refine⟨⟨e,fr,h⟩,λ b=>b.elim (λ⟨i,a,_⟩=>absurd a (wD i)) λ⟨i,a,_⟩=>absurd a (wD i),?_⟩;have:(ghW W).mem 0 0=some (.int .u64 1):=qrE.2 ⟨by unfold World.cell?;rw[h];rfl,rfl⟩;rw[this];exact λ h=>by cases h
theorem qDP{W:World}(a:Tab (ghW W) W):Inv (ghW W) emp W:=
 ⟨rfl,rfl,λ b o u h=>qrE.1 h,λ i cs h=>(by cases h),λ i j h=>absurd h (wD _),λ i h=>absurd h (wD _),λ r R h=>(by cases h),λ r c h=>absurd h (wD _),a⟩
theorem cells_len{W:World}{qS:Nat}{a:Addr}:∀{n:Nat} {cs:List Value},W.cells? qS a n=some cs->cs.length=n/\∀ j u,cs[j]?=some u->W.cell? (a.add j)=some u:=by
 intro n cs h;unfold World.cells? at h;split at h
 case isFalse=>cases h
 have h1:=mapM_some_length h;rw[xK]at h1;refine⟨h1,λ j u hj=>?_⟩;have hlt:=getElem?_lt hj;have:=mapM_some_get h j j (by rw[List.getElem?_range (by omega)]);rw[this];exact hj
section
variable {H:Type}{enc:TypeId×Value->H}{P:Program}{W:World}
def qzp(enc:TypeId×Value->H)(P:Program)(W:World)(a:Nat):Prop:=∀(n:Nat) (τ:Ty) (t:TypeId) (cs:List Value) (x:DataW H×List MemPlace),tyM P n τ t=true->DataW.trod enc P W 0 (λ _=>true) true a t cs=some x->(∀k∈x.1.weights P t,k<=reachBytes)->
 ∃v:Val τ,RepL (ghW W) (qd τ v) cs/\(∀u∈cs,u.oneCell'=true)/\qg5 τ v
theorem qje{e:TypeId}:∀{ds:List (DataW H)}{d:DataW H},d∈ds->∀n∈d.weights P e,n∈DataW.weightsAll P e ds
 |b::ds,d,h,n,a=>by
   simp only[DataW.weightsAll,wi];obtain rfl|h:=wM.1 h
   .exact Or.inl a
   .exact Or.inr (qje h n a)
theorem quV{n k:Nat}(h:n*k<=reachBytes)(a:0<k):n<2^62:=by
 have:n*1<=n*k:=vt _ a;have b:reachBytes=140737488351232:=rfl;omega
theorem qAJ{α d:Type}{n:Nat}{Q:Nat->α->d->Prop}(e:0<n)(h:∀i,i<n->∃a b,Q i a b):∃(f:Nat->α) (g:Nat->d),∀i,i<n->Q i (f i) (g i):=by
 let⟨k,j,_⟩:=h 0 e;refine⟨λ i=>if c:i<n then(h i c).choose else k,λ i=>if c:i<n then(h i c).choose_spec.choose else j,λ i c=>?_⟩;simp only[dif_pos c];exact(h i c).choose_spec.choose_spec
theorem quL{Γ:Gh}{x:AV}{u:Value}(h:Rep Γ x u):RepL Γ [x] [u]:=waq h RepL.nil
theorem qts{A:Nat}(hA:∀f,f<A->qzp enc P W f){a:Ty}{t e:TypeId}{m:Nat}{cs:List Value}{x:DataW H×List MemPlace}(T:P.underlying t=some (.slice e))(hc:P.cellsOf e=a.size)(hb:0<P.bytesOf e)(hm:tyM P m a e=true)
  (h:DataW.trod enc P W 0 (λ _=>true) true A t cs=some x) (M:∀k∈x.1.weights P t,k<=reachBytes):
  ∃(l:List (Val a)) (u:Value),cs=[u]/\u.oneCell'=true/\Rep (ghW W) (.sl a.size (l.map (qd a)) 1) u/\(l.length<2^62/\l.length*P.bytesOf e<=2^47)/\∀v∈l,qg5 a v:=by
 obtain⟨rfl,rfl⟩|⟨ad,d,cap,elems,E,n,rfl,rfl,rfl,_,U,_,I,O,_,_⟩:=DataW.trod_slice T h
 .refine⟨[],_,rfl,rfl,?_,⟨by simp,by simp⟩,(by intro v G;cases G)⟩;exact .sl _ _ _ none 0 0 0 0 (λ _ _=>undef) rfl (λ _=>wa _) (λ h=>by omega) (by intro e p;cases p) (by intro e p;cases p) (wao a) (.inl rfl) (by intro i e j x c;cases c) (by intro i e j x c;cases c)
 .have F:(elems.length+E.length)*P.bytesOf e<=reachBytes/\∀k∈DataW.weightsAll P e (elems.map (·.1)),k<=reachBytes:=by
    simp only[DataW.weights,T,wx,wM,wi]at M;exact⟨M _ (.inl rfl),λ k N=>M k (.inr (.inl N))⟩
  have B:∀i,i<d->∃(v:Val a) (us:List Value),RepL (ghW W) (qd a v) us/\(∀u∈us,u.oneCell'=true)/\qg5 a v/\(∀j u,us[j]?=some u->W.cell? ((ad.add (i*a.size)).add j)=some u):=by
   intro i c;have g:=O i c;rw[List.getElem?_eq_getElem (by omega),hc,Option.bind_eq_some_iff]at g;let⟨us,C,h3⟩:=g;let⟨z,D⟩:=cells_len C;let⟨v,Q,g2,g3⟩:=hA n (kV _) m a e us _ hm h3 λ k N=>F.2 k (qje (xb (wQ _)) k N);exact⟨v,us,Q,g2,g3,D⟩
  by_cases h0:d=0
  .subst h0;refine⟨[],_,rfl,rfl,?_,⟨by simp,by simp⟩,(by intro v G;cases G)⟩;exact .sl _ _ _ _ 0 cap 0 0 (λ _ _=>undef) rfl (λ _=>U) (λ h=>by omega) (by intro e p;cases p) (by intro e p;cases p) (wao a) (.inl rfl) (by intro i e j x c;cases c) (by intro i e j x c;cases c)
  obtain⟨b,o,rfl⟩:∃b o,ad=⟨b,o,none⟩:=by
   let⟨v,us,Q,_,_,g4⟩:=B 0 (by omega);have aa:us.length=a.size:=by rw[Q.len];exact zj a v
   have hp:=wao a;have g:=g4 0 _ (List.getElem?_eq_getElem (by omega));rw[ko]at g;have e1:(ad.add 0).add 0=ad:=rfl;rw[e1]at g;let⟨b,o,sp⟩:=ad;unfold World.cell? at g;split at g
   .split at g
    .cases g
    .rename_i hs;cases sp with
     |none=>exact⟨b,o,rfl⟩
     |some s=>simp at hs
   .cases g
  let⟨L,R,r⟩:=qAJ (by omega:0<d) B;have Z:=λ i c=>(r i c).1;have Y:=λ i c=>(r i c).2.1;have X:=λ i c=>(r i c).2.2.1;have V:=λ i c=>(r i c).2.2.2;have K:∀i,i<d->((List.range d).map L)[i]?=some (L i):=λ i c=>by rw[List.getElem?_map,List.getElem?_range c];rfl
  have q:∀(i:Nat) (w:List AV) (j:Nat) (y:AV),(((List.range d).map L).map (qd a))[i]?=some w->w[j]?=some y->i<d/\∃u,(R i)[j]?=some u/\Rep (ghW W) y u/\(ghW W).mem b (o+i*a.size+j)=some u:=by
   intro i w j y g C;have c:i<d:=by have:=getElem?_lt g;simpa using this
   rw[List.getElem?_map,K i c]at g;cases g;let⟨u,z,D⟩:=(Z i c).get C;refine⟨c,u,z,D,qrE.2 ⟨?_,Y i c u (wc z)⟩⟩;have:=V i c j u z;rw[qsC,qsC]at this;exact this
  refine⟨(List.range d).map L,_,rfl,rfl,?_,?_,?_⟩
  .refine .sl _ _ _ _ d cap b o (λ i j=>(R i).getD j undef) (by simp) (λ _=>U) (λ h=>by omega) ?_ ?_ (wao a) (.inr rfl) ?_ ?_
   .intro w p;obtain⟨v,_,rfl⟩:=wI.1 p;exact zj a v
   .intro w p;obtain⟨v,_,rfl⟩:=wI.1 p;exact qO a v
   .intro i w j y g C;let⟨_,u,z,D,S⟩:=q i w j y g C;rw[List.getD_eq_getElem?_getD,z];exact S
   .intro i w j y g C;let⟨_,u,z,D,S⟩:=q i w j y g C;rw[List.getD_eq_getElem?_getD,z];exact D
  .rw[wx,xK,<-I];have J:elems.length*P.bytesOf e<=reachBytes:=wC (wm _ (w7 _ _)) F.1;exact⟨quV J hb,wC J (by decide)⟩
  .intro v G;obtain⟨i,c,rfl⟩:=wI.1 G;exact X i (kM.1 c)
theorem qqF{c:Nat}(G:qzp enc P W c):∀(n:Nat) (τ:Ty) (off:Nat) (d:List Field) (cs:List Value) (xs:List (DataW H×List MemPlace)),fsM P n τ off d=true->xs.length=d.length->
  (∀(i:Nat) (f:Field),d[i]?=some f->DataW.trod enc P W 0 (λ _=>true) true c f.type ((cs.drop f.offset).take (P.cellsOf f.type))=xs[i]?)->(∀k∈DataW.weightsEach P (d.map (·.type)) (xs.map (·.1)),k<=reachBytes)->off+τ.size<=cs.length->
  ∃v:Val τ,RepL (ghW W) (qd τ v) ((cs.drop off).take τ.size)/\(∀u∈(cs.drop off).take τ.size,u.oneCell'=true)/\qg5 τ v:=by
 intro n
 induction n with
 |zero=>intro τ off d cs xs h;simp[fsM]at h
 |succ n M=>
   intro τ off d cs xs h A z m j
   have t:∀f x,d=[f]->xs=[x]->(decide (f.offset=off)&&decide (P.cellsOf f.type=τ.size)&&tyM P n τ f.type)=true->∃v:Val τ,RepL (ghW W) (qd τ v) ((cs.drop off).take τ.size)/\(∀u∈(cs.drop off).take τ.size,u.oneCell'=true)/\qg5 τ v:=by
    intro f x Q w h;simp only[wb,decide_eq_true_eq]at h;let⟨⟨E,D⟩,C⟩:=h;subst Q;subst w;have o:=z 0 f rfl;rw[E,D]at o;exact G n τ f.type _ x C o λ k l=>m k (by simp only[wz,vG,DataW.weightsEach,wA];exact l)
   cases d with
   |nil=>cases τ<;>simp[fsM]at h
   |cons f r=>
     cases xs with
     |nil=>simp at A
     |cons x xs=>
       cases r with
       |nil=>
         have y:xs=[]:=we (by simpa using A);subst y;refine t f x rfl rfl ?_;cases τ<;>exact h
       |cons g r=>
         cases τ with
         |pair a b=>
           simp only[fsM,wb,decide_eq_true_eq]at h;let⟨⟨⟨E,D⟩,C⟩,o⟩:=h;have I:=z 0 f rfl;rw[E,D]at I;have O:off+(a.size+b.size)<=cs.length:=j;simp only[wz,DataW.weightsEach,wi]at m;let⟨v,L,K,J⟩:=G n a f.type _ x C I λ k l=>m k (.inl l);let⟨F,s,q,p⟩:=M b (off+a.size) (g::r) cs xs o (by simpa using A) (λ i R B=>z (i+1) R B) (λ k l=>m k (.inr l)) (by omega)
           have e:(cs.drop off).take (a.size+b.size)=(cs.drop off).take a.size++(cs.drop (off+a.size)).take b.size:=by
            rw[List.take_add,List.drop_drop]
           refine⟨(v,F),?_,?_,J,p⟩
           .show RepL _ (qd a v++qd b F) ((cs.drop off).take (a.size+b.size));rw[e];exact L.append s
           .show ∀u∈(cs.drop off).take (a.size+b.size),_;rw[e];intro u N;exact(wi.1 N).elim (K u) (q u)
         |_=>simp[fsM]at h
theorem qEK{Γ:Gh}(k:IntKind)(n:Int):RepL Γ (qd (.int k) n) [.int k n]:=quL (.v _ rfl)
theorem qBr:∀ fuel,qzp enc P W fuel:=by
 intro fuel
 induction fuel using Nat.strongRecOn with
 | ind fuel ihA =>
   have ints:∀{k:IntKind} {t:TypeId} {cs:List Value} {x:DataW H × List MemPlace} {f:Nat},P.underlying t=some (.int k)->DataW.trod enc P W 0 (λ _=>true) true f t cs=some x->∃ n:Int,cs=[.int k n]/\k.min<=n/\n<=k.max:=by
    intro k t cs x f ht h;obtain⟨n,rfl,_,hwf⟩:=DataW.trod_int ht h;simp only[Lit.wf,wb,decide_eq_true_eq]at hwf;exact⟨n,rfl,hwf⟩
   have strs:∀{t:TypeId} {cs:List Value} {x:DataW H × List MemPlace} {f:Nat},P.underlying t=some .string->DataW.trod enc P W 0 (λ _=>true) true f t cs=some x->(∀ k∈x.1.weights P t,k<=reachBytes)->∃ s:ByteArray,cs=[.string s]/\s.data.toList.length<2 ^ 62:=by
    intro t cs x f ht h hw;obtain⟨s,rfl,rfl,_⟩:=DataW.trod_string ht h;refine⟨s,rfl,?_⟩;have:=hw s.data.toList.length (by simp[DataW.weights]);exact quV (k:=1) (by omega) (by decide)
   intro n τ t cs x hm h hw;cases n with
   | zero=>cases τ <;> simp[tyM]at hm
   | succ n =>
   cases τ with
   | int k =>
     simp only[tyM]at hm;split at hm
     ·rename_i k' ht;simp only[wb,decide_eq_true_eq]at hm;obtain⟨rfl,_⟩:=hm;obtain⟨i,rfl,h1,h2⟩:=ints ht h;exact⟨i,qEK _ _,by intro u hu;rw[wF.1 hu];rfl,h1,h2⟩
     ·cases hm
   | bool =>
     simp only[tyM]at hm;split at hm
     ·rename_i ht;obtain⟨b,rfl,_⟩:=DataW.trod_bool ht h;exact⟨b,quL (.v _ rfl),by intro u hu;rw[wF.1 hu];rfl,trivial⟩
     ·cases hm
   | str =>
     simp only[tyM]at hm;split at hm
     ·rename_i ht;obtain⟨s,rfl,h1⟩:=strs ht h hw;refine⟨s.data.toList,?_,by intro u hu;rw[wF.1 hu];rfl,h1⟩;exact quL (.v _ rfl)
     ·cases hm
   | list a =>
     simp only[tyM]at hm;split at hm
     ·rename_i e ht;simp only[wb,decide_eq_true_eq]at hm;obtain⟨⟨⟨_,hc⟩,hb⟩,hm⟩:=hm;obtain⟨l,u,rfl,h1,h2,h3,h4⟩:=qts (λ f hf=>ihA f hf) ht hc (wv (Ty.wt_pos a) hb) hm h hw;exact⟨l,quL h2,by intro u' hu;rw[wF.1 hu];exact h1,⟨h3.1,wC (vt _ hb) h3.2⟩,h4⟩
     ·cases hm
   | pair a b =>
     simp only[tyM]at hm;split at hm
     ·rename_i fs ht;simp only[wb,decide_eq_true_eq]at hm;obtain⟨hc,hm⟩:=hm;obtain⟨xs,f,rfl,rfl,h1,h2,h3⟩:=DataW.trod_struct ht h;have hsz:(Ty.pair a b).size=a.size+b.size:=rfl;obtain⟨v,v1,v2,v3⟩:=qqF (ihA f (kV _)) n (.pair a b) 0 fs.toList cs xs hm (by simpa using h2) (λ i g hg=>h3 i g (by simpa using hg)) (by simpa[DataW.weights,ht]using hw) (by rw[h1,hc,hsz];omega);rw[wP,kR (by rw[h1,hc,hsz];exact wa _)]at v1 v2;exact⟨v,v1,v2,v3⟩
     ·cases hm
   | one a =>
     simp only[tyM]at hm;split at hm
     ·rename_i fs ht;simp only[wb,decide_eq_true_eq]at hm;obtain⟨hc,hm⟩:=hm;obtain⟨xs,f,rfl,rfl,h1,h2,h3⟩:=DataW.trod_struct ht h;obtain⟨v,v1,v2,v3⟩:=qqF (ihA f (kV _)) n a 0 fs.toList cs xs hm (by simpa using h2) (λ i g hg=>h3 i g (by simpa using hg)) (by simpa[DataW.weights,ht]using hw) (by rw[h1,hc];omega);rw[wP,kR (by rw[h1,hc];exact wa _)]at v1 v2;exact⟨v,v1,v2,v3⟩
     ·cases hm
   | map a b=>simp[tyM]at hm
   | term =>
     have hm0:=hm;simp only[tyM]at hm;cases n with
     | zero=>simp[qyV]at hm
     | succ n =>
     simp only[qyV]at hm;split at hm
     case h_2=>cases hm
     rename_i fs ht;split at hm
     case h_2=>cases hm
     rename_i f0 f1 f2 f3 hfs;simp only[wb,decide_eq_true_eq]at hm;obtain⟨⟨⟨⟨⟨⟨⟨⟨⟨hc,o0⟩,o1⟩,o2⟩,o3⟩,hc3⟩,m0⟩,m1⟩,m2⟩,m3⟩:=hm;split at m3
     case h_2=>cases m3
     rename_i e ht3;simp only[wb,decide_eq_true_eq]at m3;obtain⟨rfl,hb⟩:=m3;obtain⟨xs,f,rfl,rfl,h1,h2,h3⟩:=DataW.trod_struct ht h;have hsz:fs.size=4:=by rw[<- wK,hfs];rfl
     rw[hsz]at h2;rw[hc]at h1
     obtain⟨c0,c1,c2,c3,rfl⟩:∃ c0 c1 c2 c3,cs=[c0,c1,c2,c3]:=by
      match cs,h1 with
      | [a,b,c,d],_=>exact⟨a,b,c,d,rfl⟩
     obtain⟨x0,x1,x2,x3,rfl⟩:∃ x0 x1 x2 x3,xs=[x0,x1,x2,x3]:=by
      match xs,h2 with
      | [a,b,c,d],_=>exact⟨a,b,c,d,rfl⟩
     have fg:∀ i g,[f0,f1,f2,f3][i]?=some g->fs[i]?=some g := λ i g hg=>by rw[<- hfs,Array.getElem?_toList]at hg;exact hg
     have s0:=h3 0 f0 (fg 0 _ rfl);have s1:=h3 1 f1 (fg 1 _ rfl);have s2:=h3 2 f2 (fg 2 _ rfl);have s3:=h3 3 f3 (fg 3 _ rfl)
     have cOf:∀{τ : Ty} {t:TypeId},(∃ k,τ = .int k) \/ τ = .str->tyM P n τ t=true->P.cellsOf t=1:=by
      intro τ t hτ hm;cases n with
      | zero=>cases τ <;> simp[tyM]at hm
      | succ n =>
        rcases hτ with⟨k,rfl⟩ | rfl
        ·simp only[tyM]at hm;split at hm
         ·simp only[wb,decide_eq_true_eq]at hm;exact hm.2
         ·cases hm
        ·simp only[tyM]at hm;split at hm
         ·exact of_decide_eq_true hm
         ·cases hm
     have uInt:∀{k:IntKind} {t:TypeId},tyM P n (.int k) t=true->P.underlying t=some (.int k):=by
      intro k t hm;cases n with
      | zero=>simp[tyM]at hm
      | succ n =>
        simp only[tyM]at hm;split at hm
        ·rename_i k' ht;simp only[wb,decide_eq_true_eq]at hm;rw[ht,hm.1]
        ·cases hm
     have uStr:∀{t:TypeId},tyM P n .str t=true->P.underlying t=some .string:=by
      intro t hm;cases n with
      | zero=>simp[tyM]at hm
      | succ n =>
        simp only[tyM]at hm;split at hm
        ·assumption
        ·cases hm
     rw[o0,cOf (.inl ⟨_,rfl⟩) m0]at s0;rw[o1,cOf (.inr rfl) m1]at s1;rw[o2,cOf (.inl ⟨_,rfl⟩) m2]at s2;rw[o3,hc3]at s3
     have hwE:∀ k∈DataW.weightsEach P [f0.type,f1.type,f2.type,f3.type] [x0.1,x1.1,x2.1,x3.1],k<=reachBytes:=by
      intro k hk;refine hw k ?_;simp only[DataW.weights,ht,hfs];exact hk
     simp only[DataW.weightsEach,wi]at hwE;obtain⟨i0,e0,_,_⟩:=ints (uInt m0) (f:=f) (x:=x0) s0;obtain⟨i1,e1,b1⟩:=strs (uStr m1) (f:=f) (x:=x1) s1 λ k hk=>hwE k (.inr (.inl hk));obtain⟨i2,e2,_,_⟩:=ints (uInt m2) (f:=f) (x:=x2) s2;obtain⟨l,u,e3,b3,r3,l3,v3⟩:=qts (a := .term) (λ g hg=>ihA g (Nat.lt_succ_of_lt hg)) ht3 hc hb hm0 s3 λ k hk=>hwE k (.inr (.inr (.inr (.inl hk))));have g0:c0 = .int .i64 i0:=by simpa using e0
     have g1:c1 = .string i1:=by simpa using e1
     have g2:c2 = .int .i64 i2:=by simpa using e2
     have g3:c3=u:=by simpa using e3
     subst g0;subst g1;subst g2;subst g3;refine⟨.mk i0 i1.data.toList i2 l,?_,?_,(qyd _).2 ⟨l3.1,b1,v3⟩⟩
     ·show RepL _ (Qv _) _;rw[Qv,qgJ];exact waq (.v _ rfl) (waq (.v _ rfl) (waq (.v _ rfl) (quL r3)))
     ·intro u hu;simp only[wM,kW,or_false]at hu;rcases hu with rfl | rfl | rfl | rfl
      ·rfl
      ·rfl
      ·rfl
      ·exact b3
end
end Go.AmZ
namespace Go.AmZ
open Go Go.GxZ
def qcr(i:Nat):List UInt8:=109::J7 i
def yZ(i:Nat)(t:T):T:=.mk 3 [112,97,105,114] 0 [.mk 2 (qcr i) 5 [],t]
theorem qDR(n:Nat):(List.range 20).map (λ i:Nat=>qdw (n+5) (i:Int))=(List.range 20).map (λ i:Nat=>some (J7 (i:Int))):=by kernel_rfl
theorem qFP(i:Nat)(h:i<20):Ev (λ m _=>qdw m (i:Int)) (J7 i):=⟨5,λ m _ a _=>by
 obtain⟨n,rfl⟩:∃n,m=n+5:=⟨m-5,by omega⟩
 have:=congrArg (λ l:List (Option (List UInt8))=>l[i]?) (qDR n);simp only[List.getElem?_map,List.getElem?_range h,kr,wn]at this;exact this⟩
theorem qEw:∀i,i<20->∀k,k<20->qcr i=qcr k->i=k:=by decide+kernel
theorem qsw(i:Nat)(t:T):size (yZ i t)=size t+2:=by
 unfold yZ;rw[jk];show 1+(size (.mk 2 (qcr i) 5 [])+(size t+0))=_;rw[jk];show 1+((1+0)+(size t+0))=_;omega
def qhc:Nat->List T->List T->List T×Int
 |_,[],a=>(a,0)
 |i,t::l,a=>if zm (yZ i t)=0 then qhc (i+1) l (a++[yZ i t])else([],zm (yZ i t))
def qol(l:List T):List T×Int:=if qbP l=0 then qhc 0 l []else([],qbP l)
theorem qEP(l:List T)(hs:∀ t∈l,size t<=1000)(hl:l.length<=20):Ev (λ m _=>qdI m l) (qol l):=by
 refine wal ?_;simp only[qsm,qbb];unfold qol;refine wae (qxt l (λ t ht=>by have:=hs t ht;omega) (by omega)) ?_;by_cases h:qbP l=0
 case neg=>rw[if_neg h];exact wag (bnt.2 (ql.2 h)) (wak _)
 rw[if_pos h];refine wai (bnf.2 (qz.2 h)) ?_
 have key:=qZ (P := λ i=>∀ acc:List T,acc.length+(l.length-i)<=1000->Ev (λ m k=>Qh m k l l.length i acc) (qhc i (l.drop i) acc)) l (by omega)
  (λ hc acc _=>by
   refine waj ?_;simp only[qhz,qbn];refine wai hc ?_;rw[km];exact wak _)
  (λ i x hx hd hc hg hi hP acc ha=>by
   refine waj ?_;simp only[qhz,qbn,qL];have hz:=hs x (wc hx);have hil:=getElem?_lt hx;have hn:=qhY (i:Int);have hts:=qsw i x;refine wag hc (wam hg (wae (qmW (i:Int) (by omega) (by omega)) (wag (qi2 (by show 1+_<_;omega)) (wae (qFx x (by omega)) (wae (a:=zm (yZ i x)) (qhS (yZ i x) (by omega)) ?_)))));rw[hd,qhc];by_cases g:zm (yZ i x)=0
   ·rw[if_pos g];refine wai (bnf.2 (qz.2 g)) (wag (qlL (by omega) (by omega)) ?_);rw[hi];exact hP (acc++[yZ i x]) (by rw[wd];simp only[wB,kC];omega)
   ·rw[if_neg g];exact wag (bnt.2 (ql.2 g)) (wak _))
 exact wan (L := λ m k=>Qh m k l l.length 0 []) (key 0 (wh _) [] (by rw[kC];omega))
theorem qED(l:List T)(hs:∀ t∈l,size t<=1000)(hl:l.length<=20):Ev (λ m _=>qh5 m l) (qol l):=by
 refine wal ?_;simp only[qwV,qdO];unfold qol;refine wae (qCw l (λ t ht=>by have:=hs t ht;omega) (by omega)) ?_;by_cases h:qbP l=0
 case neg=>rw[if_neg h];exact wag (bnt.2 (ql.2 h)) (wak _)
 rw[if_pos h];refine wai (bnf.2 (qz.2 h)) ?_
 have key:=qZ (P := λ i=>∀ acc:List T,acc.length+(l.length-i)<=1000->Ev (λ m k=>JV m k l i acc) (qhc i (l.drop i) acc)) l (by omega)
  (λ hc acc _=>by
   refine waj ?_;simp only[qlc,qdJ];refine wai hc ?_;rw[km];exact wak _)
  (λ i x hx hd hc hg hi hP acc ha=>by
   refine waj ?_;simp only[qlc,qdJ,qL];have hz:=hs x (wc hx);have hil:=getElem?_lt hx;have hn:=qhY (i:Int);have hts:=qsw i x;refine wag hc (wae (qFP i (by omega)) (wag (qi2 (by show 1+_<_;omega)) (wae (a:=T.mk 2 (qcr i) 5 []) (wal (wau (wak _) λ _ _=>rfl)) (wam hg (wae (a:=yZ i x) (wal ?_) (wae (qsy (yZ i x) (by omega)) ?_))))))
   ·exact wau (wak (yZ i x)) λ _ _=>rfl
   rw[hd,qhc];by_cases g:zm (yZ i x)=0
   ·rw[if_pos g];refine wai (bnf.2 (qz.2 g)) (wag (qlL (by omega) (by omega)) ?_);rw[hi];exact hP (acc++[yZ i x]) (by rw[wd];simp only[wB,kC];omega)
   ·rw[if_neg g];exact wag (bnt.2 (ql.2 g)) (wak _))
 exact wan (L := λ m k=>JV m k l 0 []) (key 0 (wh _) [] (by rw[kC];omega))
theorem qrK:∀(l:List T) (i:Nat) (a r:List T),qhc i l a=(r,0)->∃ts,r=a++ts/\ts.length=l.length/\∀(j:Nat) (t u:T),l[j]?=some t->ts[j]?=some u->u=yZ (i+j) t/\zm u=0
 |[],i,a,r,h=>by cases h;exact⟨[],(wA _).symm,rfl,λ j t u h=>by simp at h⟩
 |t::l,i,a,r,h=>by
   rw[qhc]at h;by_cases g:zm (yZ i t)=0
   .rw[if_pos g]at h;obtain⟨ts,rfl,f,e⟩:=qrK l (i+1) _ r h;refine⟨yZ i t::ts,by rw[wk];rfl,by rw[wB,wB,f],λ j d u c b=>?_⟩;cases j with
    |zero=>cases c;cases b;exact⟨rfl,g⟩
    |succ j=>
      have:=e j d u c b;rw[show i+(j+1)=i+1+j by omega];exact this
   .rw[if_neg g]at h;exact absurd (congrArg Prod.snd h) g
theorem qEq{i:Nat}{t:T}(c:zm (yZ i t)=0)(d:qbv t=0):qbv (yZ i t)=0:=by
 let⟨j,b⟩:=qAz d;have h:qa3 t=0:=(qsO j).2
 have g:qa3 (yZ i t)=0:=by
  rw[qnh,if_neg (by show ¬ (3:Int)≠3;decide)]
  have e1:qeE (yZ i t)=0:=by
   unfold qeE;rw[if_neg (by show ¬ (3:Int)≠3;decide)];have es:ya (yZ i t).name=ya [112,97,105,114]:=rfl;have l:((yZ i t).kids.length:Int)=2:=rfl
   have k:qaO (yZ i t)=false:=by
    unfold qaO;rw[if_neg (by show ¬ ([112,97,105,114]:List UInt8)=qg8;decide),if_neg (by show ¬ (([112,97,105,114]:List UInt8)=nSk\/([112,97,105,114]:List UInt8)=qvN);decide)]
   rw[es,l,k];decide
  have m:qa3 (.mk 2 (qcr i) 5 [])=0:=by rw[qnh,if_pos (by show(2:Int)≠3;decide)]
  show([qa3 (.mk 2 (qcr i) 5 []),qa3 t]:List Int).foldl thn (qeE (yZ i t))=0;rw[e1,m,h];rfl
 have a:qdc (yZ i t)=0:=by unfold qdc;rw[c,g];rfl
 have f:qd3 (yZ i t)=true:=by
  unfold qd3 at b |-
  rw[wb]at b;rw[decide_eq_true a,kJ,qhC];have n:qbH pFr (.mk 2 (qcr i) 5 [])=true:=by rw[qhC];rfl
  show((!((3:Int)==3)||pFr [112,97,105,114])&&([qbH pFr (.mk 2 (qcr i) 5 []),qbH pFr t]:List Bool).all id)=true;rw[n,b.2];decide
 unfold qbv;rw[if_neg (λ e=>e a),f];rfl
theorem qCS{na nb:List UInt8}(hne:na≠nb)(ta tb:T)(hs1:size ta<=1000)(hs2:size tb<=1000) :
  ∃ r e,Ev (λ m _=>qeX m (T.mk 3 [112,97,105,114] 0 [.mk 2 na 5 [],ta]) (T.mk 3 [112,97,105,114] 0 [.mk 2 nb 5 [],tb])) (r,e)/\e≠0:=by
 have sz:∀(n:List UInt8) (t:T),size t<=1000->size (T.mk 3 [112,97,105,114] 0 [.mk 2 n 5 [],t])<=1002 := λ n t h=>by
  rw[jk];show 1+(size (.mk 2 n 5 [])+(size t+0))<=_;rw[jk (.mk 2 n 5 [])];show 1+((1+0)+(size t+0))<=_;omega
 have za:=sz na ta hs1;have zb:=sz nb tb hs2;generalize ha:T.mk 3 [112,97,105,114] 0 [.mk 2 na 5 [],ta]=a at za;generalize hb:T.mk 3 [112,97,105,114] 0 [.mk 2 nb 5 [],tb]=b at zb
 have hv:Ev (λ m _=>qeU m a b) (if zm a=0 then zm b else zm a):=by
  refine wal ?_;simp only[qtT,qeJ,qL];refine wae (qhS a (by omega)) ?_;by_cases h:zm a=0
  ·rw[if_pos h];exact wai (bnf.2 (qz.2 h)) (wae (qhS b (by omega)) (wak _))
  ·rw[if_neg h];exact wag (bnt.2 (ql.2 h)) (wak _)
 generalize (if zm a=0 then zm b else zm a)=e at hv;by_cases he:e=0
 case neg =>
  refine⟨[],e,wal ?_,he⟩;simp only[qkU,qb0,qL];exact wae hv (wag (bnt.2 (ql.2 he)) (wak _))
 subst he;have uv:∀ x:T,Ev (λ m _=>JX m x) (ieq x.kind 1) := λ x=>wal (wau (wak (ieq x.kind 1)) λ _ _=>rfl)
 have us:∀ x y:T,size x<=1000000->size y<=1000000->Ev (λ m _=>qeg m x y) (qfZ x y) := λ x y h1 h2=>by
  refine wal ?_;simp only[qvD,qfB,qL];exact wae (qw0 x (by omega) y (by omega)) (waf (qxO x y))
 have s2:Ev (λ m _=>Q9 m ([(T.mk 2 na 5 [],T.mk 2 nb 5 []),(ta,tb)],[],())) ((([(ta,tb)],[],()),()),(11,())):=by
  have hsm:qfZ (T.mk 2 na 5 []) (T.mk 2 nb 5 [])=false:=Bool.eq_false_iff.2 λ h=>by
   have:=qsH.1 h;cases this;exact hne rfl
  refine wal ?_;simp only[qfo,Qb,qL];refine wam (a:=(T.mk 2 na 5 [],T.mk 2 nb 5 [])) rfl (wam (a:=(T.mk 2 na 5 [],T.mk 2 nb 5 [])) rfl (wag rfl (wag rfl (wae (us _ _ (by rw[jk];show 1+0<=1000000;decide) (by rw[jk];show 1+0<=1000000;decide)) ?_))));rw[hsm];refine wai rfl (wae (a:=false) (wal (wau (wak _) λ _ _=>rfl)) (wai rfl (wae (uv _) (wai rfl (wae (uv _) (wai rfl (wae (uv _) (wag rfl (waf rfl)))))))))
 have s1:Ev (λ m _=>Q9 m ([(a,b)],[],())) ((([(T.mk 2 na 5 [],T.mk 2 nb 5 []),(ta,tb)],[],()),()),(0,())):=by
  have hsm:qfZ a b=false:=Bool.eq_false_iff.2 λ h=>by
   have:=qsH.1 h;rw[<- ha,<- hb]at this;cases this;exact hne rfl
  refine wal ?_;simp only[qfo,Qb,qL];refine wam (a:=(a,b)) rfl (wam (a:=(a,b)) rfl (wag rfl (wag rfl (wae (us a b (by omega) (by omega)) ?_))));rw[hsm];refine wai rfl (wae (a:=true) (wal (wau (wak _) λ _ _=>by rw[<- ha,<- hb];rfl)) (wag rfl ?_));rw[<- ha,<- hb];refine wan (L := λ m k=>jD m k 2 0 [] 3 [112,97,105,114] 0 [.mk 2 na 5 [],ta] 3 [112,97,105,114] 0 [.mk 2 nb 5 [],tb] [] []) (waj ?_);simp only[qa8,Qa,qL];refine wag rfl (wam (a:=T.mk 2 na 5 []) rfl (wam (a:=T.mk 2 nb 5 []) rfl (wag rfl (waj ?_))));simp only[qa8,Qa,qL];refine wag rfl (wam (a:=ta) rfl (wam (a:=tb) rfl (wag rfl (waj ?_))));simp only[qa8,Qa,qL];exact wai rfl (wag rfl (waf rfl))
 refine⟨[],11,wal ?_,by decide⟩;simp only[qkU,qb0,qL];refine wae hv (wai rfl (wae (a:=([],11)) (wal ?_) (wak _)));simp only[qt6,qcf];refine wan (L := λ m k=>JF m k [(a,b)] []) (waj ?_);simp only[qi3,qb7];refine wag rfl (wae s1 (wai rfl (waj ?_)));simp only[qi3,qb7];exact wag rfl (wae s2 (wag rfl (wak _)))
theorem qsQ(a:List UInt8)(g:a.length<=10){i:Nat}{t:T}(h:zm (yZ i t)=0):
  ∃d u,Ev (λ m _=>qF m (yZ i t) a []) ((d,()),(T.mk 3 [112,97,105,114] 0 [.mk 2 (qcr i) 5 [],u],()))/\size u<=1000:=by
 have E:=(qjg h).2.1;let⟨d,j,e,_,z,⟨q,p,o,D⟩,b,F,C⟩:=qBy a g (yZ i t) [] (λ u B=>by rw[B];exact h) (by rw[kC];omega);let⟨k,n,so,ks⟩:=j;obtain rfl:k=3:=q;obtain rfl:n=[112,97,105,114]:=p (by show(3:Int)≠1;decide);obtain rfl:so=0:=o;have b:ks.length=2:=b
 obtain⟨x,ks,rfl⟩:∃x l,ks=x::l:=by
  cases ks with
  |nil=>cases b
  |cons x l=>exact⟨x,l,rfl⟩
 obtain⟨u,ks,rfl⟩:∃x l,ks=x::l:=by
  cases ks with
  |nil=>cases b
  |cons x l=>exact⟨x,l,rfl⟩
 obtain rfl:ks=[]:=we (by simpa using b);let⟨w,v,s,r⟩:=C 0 (.mk 2 (qcr i) 5 []) x rfl rfl;let⟨A,y,c,f⟩:=x;obtain rfl:A=2:=w;obtain rfl:y=qcr i:=v (by show(2:Int)≠1;decide);obtain rfl:c=5:=s;obtain rfl:f=[]:=we r;refine⟨d,u,e,?_⟩;have:size u<size (T.mk 3 [112,97,105,114] 0 [.mk 2 (qcr i) 5 [],u]):=JN _ u (by show u∈[_,u];simp);omega
theorem qwX(l:List T)(X:l.length<=20)(C:∀t∈l,qbv t=0)(E:∀(j:Nat) (u:T),l[j]?=some u->∃t,u=yZ j t/\zm u=0):
  Ev (λ m _=>jU m l) (0,(0,(T.mk 0 [] 0 [],15))):=by
 have H:∀t∈l,size t<=400:=λ t f=>(qjg (qsO (qAz (C t f)).1).1).2.1;refine wal ?_;simp only[qkX,QV];have g:qbP l=0:=by unfold qbP;rw[if_neg (by omega)];exact qxL C
 refine wae (qxt l (λ t f=>by have:=H t f;omega) (by omega)) (wai (by rw[g];rfl) ?_)
 have c:=qZ (P:=λ i=>Ev (λ m k=>(qt m k).1 l l.length i 0 [] 0 []) (0,(0,(T.mk 0 [] 0 [],15)))) l (by omega)
  (λ z=>by
   refine waj ?_;simp only[qdT,QN];exact wai z (wak _))
  (λ i x B Y z s D Q=>by
   have K:=getElem?_lt B;obtain⟨t,rfl,I⟩:=E i x B;let⟨W,u,e,F⟩:=qsQ [97] (by decide) I
   have a:=qZ (P:=λ k=>i<k->Ev (λ m G=>(qt m G).2 l i k l.length i 0 [] 0 3 [112,97,105,114] 0 [.mk 2 (qcr i) 5 [],u] []) (0,(0,(T.mk 0 [] 0 [],15)))) l (by omega)
    (λ w _=>by
     refine waj ?_;simp only[qdu,QP];refine wai w ?_;rw[D];exact Q)
    (λ k y A N v q o O M=>by
     have J:=getElem?_lt A;obtain⟨U,rfl,d⟩:=E k y A;let⟨V,u2,S,b⟩:=qsQ [98] (by decide) d;let⟨r,Z,R,n⟩:=qCS (na:=qcr i) (nb:=qcr k) (λ h=>by have:=qEw i (by omega) k (by omega) h;omega) u u2 F b;refine waj ?_;simp only[qdu,QP,qL];refine wag v (wam q (wae S (wae R (wag (bnt.2 (ql.2 n)) ?_))));rw[o];exact O (by omega))
   refine waj ?_;simp only[qdT,QN,qL];refine wag z (wam s (wae e ?_));have p:=D;rw[p];exact a (i+1) (by omega) (kV i))
 exact wan (L:=λ m k=>(qt m k).1 l l.length 0 0 [] 0 []) (c 0 (wh _))
theorem envelopeTags_ev(l:List T)(hf:qg5 (.list .term) l):Ev (λ m _=>law20_EnvelopeTags m l) true:=by
 have hl:l.length<2 ^ 62:=hf.1.1;have hf:∀ t∈l,qlz t:=hf.2;refine wal ?_;simp only[qkC,qal,qL];refine wae qqn (wai rfl (wae (qDj l hl hf) ?_));cases hfw:decide (l.length<=20)&&qjR l 450 with
 | false=>exact wag rfl (wae qqn (wak _))
 | true =>
 simp only[wb,decide_eq_true_eq]at hfw;have hs:∀ t∈l,size t<=1000 := λ t ht=>by have:=qB4 (by decide) hfw.2 t ht;omega
 have hcl:qP 0 l=some ((),l,()):=by
  unfold qP;cases l with
  | nil=>rfl
  | cons x l =>
    show cond (Nat.ble (x::l).length 100000000) _ _=_;rw[vZ (wC hfw.1 (by decide))];rfl
 refine wai rfl (wam hcl (wae (qEP l hs hfw.1) (wae (qED l hs hfw.1) ?_)));obtain⟨q,hr⟩:∃ q,qol l=q:=⟨_,rfl⟩
 rw[hr];obtain⟨r,e⟩:=q;have eq1:∀ x:Int,ieq x x=true := λ x=>qz.2 rfl
 have hrs:r.length<2 ^ 62/\∀ t∈r,size t<=1000000000:=by
  unfold qol at hr;by_cases h:qbP l=0
  ·rw[if_pos h]at hr;by_cases he:e=0
   ·subst he;obtain⟨ts,rfl,h1,h2⟩:=qrK l 0 [] r hr;refine⟨by rw[h1];exact hl,λ t ht=>?_⟩;obtain⟨j,hj⟩:=List.getElem?_of_mem ht;have hjl:=getElem?_lt hj;have:=(h2 j l[j] t (List.getElem?_eq_getElem (by omega)) hj).2;have:=(qjg this).2.1;omega
   ·have:r=[]:=by
      clear hfw hs hcl
      have aux:∀(l:List T) (i:Nat) (acc:List T),(qhc i l acc).2≠0->(qhc i l acc).1=[]:=by
       intro l
       induction l with
       | nil=>intro i acc h;exact absurd rfl h
       | cons t l ih =>
         intro i acc h;rw[qhc]at h |-
         by_cases g:zm (yZ i t)=0
         ·rw[if_pos g]at h |-;exact ih _ _ h
         ·rw[if_neg g]
      have:=aux l 0 [];rw[hr]at this;exact this he
    rw[this];exact⟨by decide,λ t ht=>by cases ht⟩
  ·rw[if_neg h]at hr;cases hr;exact⟨by decide,λ t ht=>by cases ht⟩
 have hL:Ev (λ m _=>qa2 m r r) true:=(qBq r r hrs.1 hrs.2 hrs.2).res (decide_eq_true rfl);refine wai (bnf.2 (eq1 _)) (wae hL (wai rfl ?_));by_cases he:e=0
 case neg=>exact wag (bnt.2 (ql.2 he)) (wag (eq1 _) (wae hL (wak _)))
 subst he;refine wai rfl (wae (a:=(0,(0,(T.mk 0 [] 0 [],15)))) ?_ (waf rfl));unfold qol at hr;by_cases h:qbP l=0
 case neg=>rw[if_neg h]at hr;exact absurd (congrArg Prod.snd hr) h
 rw[if_pos h]at hr;obtain⟨ts,hts,h1,h2⟩:=qrK l 0 [] r hr;rw[kD]at hts;subst hts;have hpz:=qBe (show qgz l=0 by unfold qbP at h;rw[if_neg (by omega)]at h;exact h)
 have hget:∀(j:Nat) (u:T),r[j]?=some u->∃ t,t∈l/\u=yZ j t/\zm u=0 := λ j u hu=>by
  have hjl:=getElem?_lt hu;obtain⟨g1,g2⟩:=h2 j l[j] u (List.getElem?_eq_getElem (by omega)) hu;exact⟨l[j]'(by omega),wQ _,by rw[g1,wy],g2⟩
 refine qwX r (by omega) (λ u hu=>?_) λ j u hu=>?_
 ·obtain⟨j,hj⟩:=List.getElem?_of_mem hu;obtain⟨t,ht,rfl,hv⟩:=hget j u hj;exact qEq hv (hpz t ht)
 ·obtain⟨t,_,h3,h4⟩:=hget j u hu;exact⟨t,h3,h4⟩
end Go.AmZ
namespace Go.AmZ
open Go Go.GxZ
set_option linter.unusedVariables false
set_option maxRecDepth 100000
open Go.Proofs.Tryz (f7 f10 f11 f13 f14 f15 f22 f24 f25 f26 f30 f32 f33 f34 f36 f37 f39 f40 f41 f43 f44 f45 f46 f47 f50 f52 f53 f54 f55 f56 f57 f58 f60 f62 f63 f64 f67 f68 f69 f70 f71 f72 f73 f77 f79 f80 f81 f82 f83 f84 f85 f86 f89 f90 f91 f92 f93 f95 f96 f99 f100 f101 f102 f103 f105 f106 f107 f109 f110 f111 f114 f115 f117 f118 f119 f120 f121 f122 f123 f126 f127 f128 f129 f130 f131 f133 f134 f141 f142 f149 f150 f151 f153 f154 f155 f156 f157 f158 f159 f160 f161 f162 f163 f164 f165 f184 f185 f186 f187 f190 f191 f192 f194 f195 f214 f223 f224 f227 f228 f241)
abbrev y13:Ty:=.int .u8
abbrev y1:Ty:=.int .i64
abbrev y5:Ty:=.list .term
abbrev y3:Ty:=.pair .term .term
abbrev y12:Ty:=.pair .str y1
abbrev y2:Ty:=.pair .term y1
abbrev y8:Ty:=.list y3
abbrev y6:Ty:=.list y2
abbrev y14:Ty:=.map y12 .term
abbrev y10:Ty:=.pair .str (.pair y1 .bool)
abbrev y7:Ty:=.pair .str (.pair y1 y1)
abbrev y11:Ty:=.list y7
abbrev y4:Ty:=.pair .str (.pair y1 (.pair y1 y1))
abbrev y9:Ty:=.list y4
def i7:FI:=⟨f7,[.val y5],[.bool],[],[],u1 law20_EnvelopeTags⟩
def i10:FI:=⟨f10,[],[.bool],[],[],u0 qcy⟩
def i11:FI:=⟨f11,[.val .str],[.term,y1,y1],[],[],u1 qd2⟩
def i13:FI:=⟨f13,[.val .term,.val .term],[.bool],[],[],u2 qf0⟩
def i14:FI:=⟨f14,[.val .term],[.str,y1],[],[],u1 qhu⟩
def i15:FI:=⟨f15,[.val y5],[.bool],[],[],u1 qiq⟩
def i22:FI:=⟨f22,[.val y5],[y5,y1],[(6,[(5,.row .term false),(16,.list .term),(17,.keep),(18,.keep)])],[],u1 qdI⟩
def i24:FI:=⟨f24,[.val y5],[y5,y1],[(6,[(0,.list .term),(5,.row .term false),(6,.keep)])],[],u1 qh5⟩
def i25:FI:=⟨f25,[.val y5,.val y5],[.bool],[(4,[(0,.list .term),(1,.list .term),(5,.keep)])],[],u2 qa2⟩
def i26:FI:=⟨f26,[.val y5],[y1,y1,.term,y1],[(5,[(0,.list .term),(4,.box [.keep,.keep,.keep,.row .term false]),(20,.keep),(21,.keep)]),(9,[(0,.list .term),(4,.box [.keep,.keep,.keep,.row .term false]),(7,.keep),(8,.box [.keep,.keep,.keep,.list .term]),(9,.keep),(20,.keep),(21,.keep)])],[],u1 jU⟩
def i30:FI:=⟨f30,[.val .term],[.bool],[(5,[(3,.list .term),(4,.keep)])],[],u1 qfY⟩
def i32:FI:=⟨f32,[.val .str,.val y5],[.term],[],[],u2 qbL⟩
def i33:FI:=⟨f33,[.val .str,.val y1],[.term],[],[],u2 qdG⟩
def i34:FI:=⟨f34,[.val .str,.val y1],[.term],[],[],u2 qhP⟩
def i36:FI:=⟨f36,[.val .term],[y1],[],[],u1 qN⟩
def i37:FI:=⟨f37,[.val .term],[.bool],[],[],u1 qhd⟩
def i39:FI:=⟨f39,[.val .term],[y1],[(3,[(1,.box [.keep,.keep,.keep,.list .term]),(3,.keep),(4,.keep)])],[],u1 yr⟩
def i40:FI:=⟨f40,[.val .term],[y1],[(3,[(1,.box [.keep,.keep,.keep,.list .term]),(3,.keep),(4,.keep)])],[],u1 yz⟩
def i41:FI:=⟨f41,[.val .term],[y1],[],[],u1 qcI⟩
def i43:FI:=⟨f43,[.val .term,.val .term],[y1],[(18,[(2,.box [.keep,.keep,.keep,.list .term]),(3,.box [.keep,.keep,.keep,.list .term]),(9,.keep)])],[],u2 zA⟩
def i44:FI:=⟨f44,[.val .term],[y1],[],[],u1 Je⟩
def i45:FI:=⟨f45,[.val .term],[y5],[],[],u1 qth⟩
def i46:SI:=⟨f46,[.row y13,.val .term],[.one (.row y13)],[(8,[(0,.row y13 false),(46,.list .term),(47,.keep),(48,.keep)])],[],u2 qci⟩
def i47:FI:=⟨f47,[.val y5,.val y1,.val y1],[.bool],[(4,[(0,.list .term),(2,.keep),(7,.keep)])],[],u3 qh9⟩
def i50:FI:=⟨f50,[.val y5],[y1],[(4,[(9,.list .term),(10,.keep),(11,.keep)])],[],u1 QM⟩
def i52:FI:=⟨f52,[.val y8,.val .term],[.term],[(2,[(0,.list y3),(3,.box [.keep,.keep,.keep,.list .term]),(4,.box [.keep,.keep,.keep,.row .term false]),(10,.list y3),(11,.keep),(12,.keep)]),(10,[(0,.list y3),(4,.box [.keep,.keep,.keep,.row .term false]),(7,.box [.keep,.keep,.keep,.row .term false]),(27,.list .term),(28,.keep),(29,.keep)])],[],u2 qG⟩
def i53:FI:=⟨f53,[.val y5],[y1],[(4,[(0,.list .term),(3,.keep)])],[],u1 qb5⟩
def i54:FI:=⟨f54,[.val y1],[.str],[],[],u1 qdw⟩
def i55:FI:=⟨f55,[.val .term],[y1],[],[],u1 qcH⟩
def i56:SI:=⟨f56,[.val .term,.val .str,.box [.val (.map .str .str)]],[.one (.val .term)],[(9,[(1,.keep),(2,.box []),(6,.box [.keep,.keep,.keep,.row .term false]),(7,.box [.keep,.keep,.keep,.row .term false]),(38,.list .term),(39,.keep),(40,.keep)])],[],u3 qF⟩
def i57:FI:=⟨f57,[.val .term,.val .term],[y8,y1],[],[],u2 qeX⟩
def i58:FI:=⟨f58,[.val .term],[y1],[],[],u1 qaF⟩
def i60:FI:=⟨f60,[.val .term],[y1],[],[],u1 qcQ⟩
def i62:FI:=⟨f62,[.val .term],[y5],[(3,[(1,.box [.keep,.keep,.keep,.list .term]),(3,.row .term true),(4,.keep)])],[],u1 jB⟩
def i63:FI:=⟨f63,[.val .str],[.bool],[],[],u1 qbi⟩
def i64:FI:=⟨f64,[.val .str],[y1],[(3,[(0,.keep),(3,.list y4),(4,.keep)])],[],u1 qdZ⟩
def i67:SI:=⟨f67,[.box [.val y10]],[.agg [.val y1,.val .str,.val y1,.row .term,.val y1]],[],[],u1 qaH⟩
def i68:SI:=⟨f68,[.val .term,.val y1,.box [.val y1],.box [.val y1]],[.one (.val y1)],[(17,[(1,.keep),(2,.box [.keep]),(3,.box [.keep]),(57,.list .term),(58,.keep),(59,.keep)])],[],u4 zk⟩
def i69:FI:=⟨f69,[.val .term],[.term,y1],[],[],u1 qkS⟩
def i70:FI:=⟨f70,[.val .term,.val .term],[.bool],[],[],u2 J2⟩
def i71:FI:=⟨f71,[.val .term,.fn],[.bool],[(4,[(1,.keep),(18,.list .term),(19,.keep),(20,.keep)])],[],u1 JR⟩
def qyu:FI:=⟨f71,[.val .term,.fn],[.bool],[(4,[(1,.keep),(18,.list .term),(19,.keep),(20,.keep)])],[],u1 qA⟩
def i72:FI:=⟨f72,[.val .str],[.bool],[],[],u1 qiS⟩
def i73:FI:=⟨f73,[.val .str],[y4],[(2,[(0,.keep),(2,.box [.keep,.keep,.keep,.keep]),(5,.list y4),(6,.keep),(7,.keep)])],[],u1 JD⟩
def i77:FI:=⟨f77,[.val .term],[y1],[(11,[(1,.box [.keep,.keep,.keep,.list .term]),(4,.keep)])],[],u1 yk⟩
def i79:FI:=⟨f79,[.val y1,.val y1],[y1],[],[],u2 Ja⟩
def i80:FI:=⟨f80,[.val .term],[y1],[(13,[(1,.box [.keep,.keep,.keep,.list .term]),(38,.list .term),(39,.keep),(40,.keep)]),(22,[(62,.list .term),(63,.keep),(64,.keep)])],[],u1 qn⟩
def i81:FI:=⟨f81,[.val .term,.val y1],[y5],[],[],u2 qnQ⟩
def i82:SI:=⟨f82,[.val y11,.clo 84 1,.box [.val .term]],[.one (.val y1)],[(2,[(0,.list y7),(1,.fn [.box [.keep,.keep,.keep,.list .term]]),(7,.keep),(8,.keep)])],[],u2 yj⟩
def i83:FI:=⟨f83,[],[y11],[],[],u0 Jj⟩
def i84:SI:=⟨f84,[.val y7,.box [.val .term]],[.one (.val .bool)],[],[],u2 qdg⟩
def i85:FI:=⟨f85,[.val y7],[.bool],[],[],u1 Ju⟩
def i86:FI:=⟨f86,[.val .term,.val y1],[y1],[(5,[(1,.keep),(2,.box [.keep,.keep,.keep,.list .term]),(5,.keep)])],[],u2 yc⟩
def i89:FI:=⟨f89,[.val .term,.val .term],[y1],[(11,[(2,.box [.keep,.keep,.keep,.list .term]),(3,.box [.keep,.keep,.keep,.list .term]),(5,.keep),(6,.keep)])],[],u2 qp⟩
def i90:FI:=⟨f90,[.val .term],[y1],[(5,[(1,.box [.keep,.keep,.keep,.list .term]),(4,.keep)])],[],u1 yy⟩
def i91:FI:=⟨f91,[.val .term,.val .term],[y1],[],[],u2 qeU⟩
def i92:FI:=⟨f92,[.val y8],[y8,y1],[(2,[(4,.box [.list y3,.row y3 false])])],[],u1 qiF⟩
def i93:FI:=⟨f93,[.val .term],[.bool],[],[],u1 qe0⟩
def i95:FI:=⟨f95,[.val .term],[y12],[],[],u1 qlI⟩
def i96:FI:=⟨f96,[.val .term,.val .term],[.bool],[],[],u2 qeg⟩
def i99:FI:=⟨f99,[],[y9],[],[],u0 qfF⟩
def qE0:SI:=⟨f100,[.box [.val y10],.val y1,.val y1],[.one (.val y1)],[],[],u3 jM⟩
def qBU:SI:=⟨f101,[.box [.val y10]],[.one (.val .str)],[(4,[(0,.box [.keep,.keep,.keep]),(4,.keep),(14,.keep),(15,.keep)])],[],u1 qdP⟩
def qCN:FI:=⟨f102,[.val .str],[.bool],[(4,[(0,.keep),(38,.keep),(39,.keep)])],[],u1 qaZ⟩
def qCY:FI:=⟨f103,[.val .term],[.term,y1],[(5,[(1,.box [.keep,.keep,.keep,.list .term]),(2,.box [.keep,.keep,.keep,.row .term false]),(4,.box [.keep,.keep,.keep,.row .term false]),(19,.list .term),(20,.keep),(21,.keep)])],[],u1 qcJ⟩
def qCr:FI:=⟨f105,[.val .str],[.bool],[(4,[(0,.keep),(3,.keep)])],[],u1 qan⟩
def qCR:FI:=⟨f106,[.val .term],[.bool],[(3,[(1,.box [.keep,.keep,.keep,.list .term]),(3,.list y4),(4,.keep)])],[],u1 qf7⟩
def qC9:FI:=⟨f107,[.val .term],[.bool],[(4,[(1,.box [.keep,.keep,.keep,.list .term]),(3,.keep)])],[],u1 qdF⟩
def qBG:SI:=⟨f109,[.val .term,.clo 110 2,.box [.val y1],.box [.row .term]],[],[(3,[(1,.fn [.box [.keep],.box [.row .term false]]),(10,.list .term),(11,.keep),(12,.keep)])],[],u3 qab⟩
def qF9:SI:=⟨f110,[.val .term,.box [.val y1],.box [.row .term]],[],[],[],u3 qdL⟩
def qCn:SI:=⟨f111,[.row .term],[.one (.row .term)],[(4,[(0,.row .term false),(9,.keep),(10,.keep)])],[],u1 qmH⟩
def qFY:FI:=⟨f114,[.val y1,.val y1],[y1],[],[],u2 qbJ⟩
def qCK:FI:=⟨f115,[.val .term],[y1],[(3,[(3,.keep),(7,.list .term),(8,.keep),(9,.keep)])],[],u1 jb⟩
def qGa:FI:=⟨f117,[.val .term],[y1],[],[],u1 qfV⟩
def qDb:SI:=⟨f118,[.box [.val y8,.row y3]],[.one (.val y1)],[(8,[(0,.box [.list y3,.row y3 false]),(3,.box [.keep,.keep,.keep,.list .term]),(4,.box [.keep,.keep,.keep,.list .term]),(5,.row y3 false),(39,.keep),(40,.keep)])],[],u1 Q9⟩
def qF4:SI:=⟨f119,[.row y3],[.one (.row y3)],[],[],u1 qil⟩
def qGc:FI:=⟨f120,[.val .str],[.bool],[],[],u1 qcZ⟩
def qF3:FI:=⟨f121,[.val .term],[.bool],[],[],u1 JX⟩
def qE3:FI:=⟨f122,[.val .term,.val .term],[.bool],[],[],u2 qkE⟩
def qFG:FI:=⟨f123,[.val .term,.val .term],[.bool],[],[],u2 qn2⟩
def qE8:FI:=⟨f126,[.val y13],[.bool],[],[],u1 qfg⟩
def qFB:FI:=⟨f127,[.val .term],[.term],[],[],u1 qjf⟩
def qDl:FI:=⟨f128,[.val y5],[.term,y1],[(6,[(2,.box [.keep,.keep,.keep,.row .term true]),(5,.list .term),(15,.list .term),(16,.keep),(17,.keep)])],[],u1 qxo⟩
def qFJ:FI:=⟨f129,[.val .term],[y6,y1],[],[],u1 qe2⟩
def qwy:FI:=⟨f130,[.val y6],[.term,y1],[(6,[(2,.box [.keep,.keep,.keep,.row .term false]),(5,.row .term false),(6,.row .term false),(18,.list y2),(19,.keep),(20,.keep)]),(11,[(2,.box [.keep,.keep,.keep,.row .term false]),(5,.row .term false),(6,.row .term false),(8,.box [.keep,.keep,.keep,.list .term,.keep]),(18,.list y2),(19,.keep),(20,.keep),(34,.keep),(35,.keep)]),(15,[(2,.box [.keep,.keep,.keep,.row .term false]),(5,.row .term false),(6,.row .term false),(8,.box [.keep,.keep,.keep,.list .term,.keep]),(18,.list y2),(19,.keep),(20,.keep),(46,.keep),(47,.keep)])],[],u1 qcR⟩
def qFc:FI:=⟨f131,[.val .term,.val .term],[.term,y1],[],[],u2 qlY⟩
def qFC:FI:=⟨f133,[.val y13],[.bool],[],[],u1 qbw⟩
def qFo:FI:=⟨f134,[.val y13],[.bool],[],[],u1 qeZ⟩
def qEW:FI:=⟨f141,[.val .term,.val .term],[.bool],[],[],u2 qeI⟩
def qBV:FI:=⟨f142,[.val .term],[.term],[(4,[(1,.box [.keep,.keep,.keep,.row .term false]),(2,.box [.keep,.keep,.keep,.row .term false]),(9,.list .term),(10,.keep),(11,.keep)])],[],u1 qcd⟩
def qEQ:SI:=⟨f149,[.box [.val y8,.row y3],.val .term,.val .term],[.one (.val y1)],[],[],u3 qhM⟩
def qGe:FI:=⟨f150,[.val .term,.val .term],[.bool],[],[],u2 qbx⟩
def qyQ:SI:=⟨f151,[.box [.val y8,.row y3],.val .term,.val .term],[.one (.val y1)],[(6,[(0,.box [.list y3,.row y3 false]),(4,.box [.keep,.keep,.keep,.list .term]),(5,.box [.keep,.keep,.keep,.list .term]),(8,.box [.keep]),(9,.fn [.box [.box []],.box []]),(10,.row y3 false),(25,.keep),(26,.keep)]),(12,[(0,.box [.list y3,.row y3 false]),(4,.box [.keep,.keep,.keep,.list .term]),(5,.box [.keep,.keep,.keep,.list .term]),(8,.box [.keep]),(9,.fn [.box [.box []],.box []]),(10,.row y3 false),(46,.keep),(47,.keep)])],[],u3 Jk⟩
def qGb:FI:=⟨f153,[.val y3,.val y3],[y1],[],[],u2 qcn⟩
def qFa:FI:=⟨f154,[.val .term,.val .str],[.bool],[],[],u2 yJ⟩
def qBi:FI:=⟨f155,[.val y5,.val y5],[y1],[(4,[(14,.list .term),(15,.keep),(16,.keep)])],[],u2 qsU⟩
def qDt:FI:=⟨f156,[.val y5,.val y5],[y5],[(2,[(0,.list .term),(1,.list .term),(5,.row .term false)])],[],u2 qoM⟩
def qC7:FI:=⟨f157,[.val .term],[y5],[(6,[(3,.list .term),(31,.list .term),(32,.keep),(33,.keep)])],[],u1 qdK⟩
def qCl:FI:=⟨f158,[.val y5],[y5],[(3,[(3,.row .term false),(9,.list .term),(10,.keep),(11,.keep)])],[],u1 qnl⟩
def qBl:SI:=⟨f159,[.row y2,.val .term,.val y1],[.one (.row y2),.one (.val .bool)],[(12,[(0,.row y2 false),(2,.keep),(52,.list .term),(53,.keep),(54,.keep)])],[],u3 qaG⟩
def qC5:FI:=⟨f160,[.val y6],[y1],[(4,[(0,.list y2),(9,.list y2),(10,.keep),(11,.keep)])],[],u1 qbR⟩
def qCW:FI:=⟨f161,[.val .term],[.term],[(3,[(1,.box [.keep,.keep,.keep,.row .term false]),(2,.box [.keep,.keep,.keep,.row .term false]),(10,.row .term false),(11,.keep),(12,.keep)])],[],u1 Qi⟩
def qFV:FI:=⟨f162,[.val .str,.val y5],[.term],[],[],u2 qdD⟩
def qyi:FI:=⟨f163,[.val (.list y5)],[y5],[(3,[(0,.list y5),(3,.keep),(9,.list y5),(10,.keep),(11,.keep)]),(11,[(6,.row .term false),(25,.list y5),(26,.keep),(27,.keep)])],[],u1 jI⟩
def qBw:FI:=⟨f164,[.val y6,.val y6],[y6,y1],[(9,[(8,.row y2 false),(23,.list y2),(24,.keep),(25,.keep)])],[],u2 qlt⟩
def qFg:FI:=⟨f165,[.val .str,.val y5],[.term],[],[],u2 qjK⟩
def qFW:SI:=⟨f184,[.val y5,.clo 185 1,.box [.val .term]],[.one (.val .bool)],[],[],u2 zC⟩
def qFD:SI:=⟨f185,[.val .term,.box [.val .term]],[.one (.val .bool)],[],[],u2 qa5⟩
def qBj:SI:=⟨f187,[.box [.val y14],.val .term],[.one (.val .term)],[(10,[(0,.box []),(3,.box [.keep,.keep,.keep,.list .term]),(4,.box [.keep,.keep,.keep,.row .term false]),(7,.row .term false),(32,.list .term),(33,.keep),(34,.keep)])],[],u2 qbI⟩
def qDp:FI:=⟨f190,[.val .term,.val (.list y1),.val .term],[.term,y1],[(4,[(5,.box [.keep,.keep,.keep,.list .term]),(6,.box [.keep,.keep,.keep,.row .term false]),(8,.box [.keep,.keep,.keep,.list .term]),(9,.box []),(14,.list y1),(15,.keep),(16,.keep)])],[],u3 qly⟩
def qF1:FI:=⟨f191,[.val .term],[.bool],[],[],u1 qd5⟩
def qFR:SI:=⟨f192,[.row y2,.val y2],[.one (.row y2)],[],[],u2 qei⟩
def qCV:SI:=⟨f194,[.val y6],[.one (.row y2)],[(3,[(3,.row y2 false),(6,.list y2),(7,.keep),(8,.keep)])],[],u1 qhs⟩
def qES:FI:=⟨f195,[.val y6],[y6,y1],[],[],u1 qh7⟩
def qCt:SI:=⟨f214,[.val y5,.clo 185 1,.box [.val .term]],[.one (.val y1)],[(2,[(0,.list .term),(1,.fn [.box [.keep,.keep,.keep,.list .term]]),(7,.keep),(8,.keep)])],[],u2 yf⟩
def qDs:FI:=⟨f223,[.val y6,.val .term,.fn],[y1,.bool],[(3,[(0,.list y2),(2,.keep),(4,.box [.keep,.keep,.keep,.list .term]),(8,.keep),(9,.keep),(10,.keep)])],[],u2 zH⟩
def qFp:FI:=⟨f224,[.val y2,.val .term],[y1],[],[],u2 qcm⟩
def qFq:FI:=⟨f227,[.val y6,.fn],[.bool],[],[],u1 yU⟩
def qFI:FI:=⟨f228,[.val y2],[.bool],[],[],u1 qfR⟩
def qB3:FI:=⟨f241,[.val y6,.fn],[y1],[(2,[(0,.list y2),(1,.keep),(7,.keep),(8,.keep)])],[],u1 jv⟩
def elT(f:Nat):Option Ty:=
cond (Nat.blt f 107)
 (cond (Nat.blt f 73)
 (cond (Nat.blt f 48)
 (cond (Nat.beq f 23) (some .term) (none))
 (cond (Nat.blt f 66)
 (cond (Nat.beq f 48) (some y3) (none))
 (cond (Nat.beq f 66) (some y13) (none))))
 (cond (Nat.blt f 90)
 (cond (Nat.blt f 81)
 (cond (Nat.beq f 73) (some (.map .str .str)) (none))
 (cond (Nat.beq f 81) (some y2) (none)))
 (cond (Nat.blt f 97)
 (cond (Nat.beq f 90) (some .str) (none))
 (cond (Nat.beq f 97) (some y7) (none)))))
 (cond (Nat.blt f 118)
 (cond (Nat.blt f 108)
 (cond (Nat.beq f 107) (some y3) (none))
 (cond (Nat.blt f 113)
 (cond (Nat.beq f 108) (some y14) (none))
 (cond (Nat.beq f 113) (some y3) (none))))
 (cond (Nat.blt f 180)
 (cond (Nat.blt f 134)
 (cond (Nat.beq f 118) (some y4) (none))
 (cond (Nat.beq f 134) (some y2) (none)))
 (cond (Nat.blt f 201)
 (cond (Nat.beq f 180) (some y5) (none))
 (cond (Nat.beq f 201) (some y1) (none)))))
def tb:Tb:=⟨tyT,elT,.node 103 (.node 57 (.node 36 (.node 24 (.node 14 (.node 11 (.node 10 (tL 7 (eP i7)) .leaf (eP i10)) (tL 13 (eP i13)) (eP i11)) (.node 22 (tL 15 (eP i15)) (.node 23 .leaf .leaf (.hs ⟨[.val y5],[.one (.row .term)],λ x=>qP 0 x.1⟩)) (eP i22)) (eP i14)) (.node 32 (.node 26 (tL 25 (eP i25)) (tL 30 (eP i30)) (eP i26)) (.node 34 (tL 33 (eP i33)) (.node 35 .leaf .leaf (.hx λ m=>⟨[.box [.val RD]],[.one (.val .term)],λ x=>qaD m x.1⟩)) (eP i34)) (eP i32)) (eP i24)) (.node 47 (.node 43 (.node 40 (.node 39 (tL 37 (eP i37)) .leaf (eP i39)) (tL 41 (eP i41)) (eP i40)) (.node 45 (tL 44 (eP i44)) (tL 46 (eS i46)) (eP i45)) (eP i43)) (.node 53 (.node 51 (tL 50 (eP i50)) (tL 52 (eP i52)) (.hp ⟨[.val y1],[.str],λ x=>strconv_Itoa 0 x.1⟩)) (.node 55 (tL 54 (eP i54)) (tL 56 (eS i56)) (eP i55)) (eP i53)) (eP i47)) (eP i36)) (.node 82 (.node 70 (.node 64 (.node 62 (.node 60 (tL 58 (eP i58)) .leaf (eP i60)) (tL 63 (eP i63)) (eP i62)) (.node 68 (tL 67 (eS i67)) (tL 69 (eP i69)) (eS i68)) (eP i64)) (.node 77 (.node 72 (.node 71 .leaf .leaf (.pure [([72],i71),([120],qyu)])) (tL 73 (eP i73)) (eP i72)) (.node 80 (tL 79 (eP i79)) (tL 81 (eP i81)) (eP i80)) (eP i77)) (eP i70)) (.node 92 (.node 86 (.node 84 (tL 83 (eP i83)) (tL 85 (eP i85)) (eS i84)) (.node 90 (tL 89 (eP i89)) (tL 91 (eP i91)) (eP i90)) (eP i86)) (.node 99 (.node 95 (tL 93 (eP i93)) (tL 96 (eP i96)) (eP i95)) (.node 101 (tL 100 (eS qE0)) (tL 102 (eP qCN)) (eS qBU)) (eP i99)) (eP i92)) (eS i82)) (eP i57)) (.node 152 (.node 123 (.node 115 (.node 109 (.node 106 (.node 105 (.node 104 .leaf .leaf (.hp ⟨[],[y9],λ x=>qeQ 0⟩)) .leaf (eP qCr)) (tL 107 (eP qC9)) (eP qCR)) (.node 111 (tL 110 (eS qF9)) (tL 114 (eP qFY)) (eS qCn)) (eS qBG)) (.node 119 (.node 117 (.node 116 .leaf .leaf (.hp ⟨[.val .str,.val .str],[y1],λ x=>strings_Compare 0 x.1 x.2.1⟩)) (tL 118 (eS qDb)) (eP qGa)) (.node 121 (tL 120 (eP qGc)) (tL 122 (eP qE3)) (eP qF3)) (eS qF4)) (eP qCK)) (.node 134 (.node 129 (.node 127 (tL 126 (eP qE8)) (tL 128 (eP qDl)) (eP qFB)) (.node 131 (tL 130 (eP qwy)) (tL 133 (eP qFC)) (eP qFc)) (eP qFJ)) (.node 142 (.node 140 (.node 139 .leaf .leaf (.hm λ m=>⟨.term,[.clo 89 0],λ x=>yw m x.1⟩)) (tL 141 (eP qEW)) (.hx λ m=>⟨[.row .term,.clo 141 0],[.one (.row .term)],λ x=>zV m x.1⟩)) (.node 150 (tL 149 (eS qEQ)) (tL 151 (eS qyQ)) (eP qGe)) (eP qBV)) (eP qFo)) (eP qFG)) (.node 187 (.node 161 (.node 157 (.node 155 (.node 154 (tL 153 (eP qGb)) .leaf (eP qFa)) (tL 156 (eP qDt)) (eP qBi)) (.node 159 (tL 158 (eP qCl)) (tL 160 (eP qC5)) (eS qBl)) (eP qC7)) (.node 165 (.node 163 (tL 162 (eP qFV)) (tL 164 (eP qBw)) (eP qyi)) (.node 185 (tL 184 (eS qFW)) (.node 186 .leaf .leaf (.il f186)) (eS qFD)) (eP qFg)) (eP qCW)) (.node 214 (.node 192 (.node 190 (.node 188 .leaf .leaf (.hs ⟨[.val y8],[.one (.row y3)],λ x=>zX 0 x.1⟩)) (tL 191 (eP qF1)) (eP qDp)) (.node 194 (.node 193 .leaf .leaf (.hs ⟨[.nil,.val y1],[.one (.row .term)],λ x=>yG 0 x.1⟩)) (tL 195 (eP qES)) (eS qCV)) (eS qFR)) (.node 226 (.node 224 (tL 223 (.pure [([224],qDs)])) (.node 225 .leaf .leaf (.hs ⟨[.row y2,.val y1,.val y6],[.one (.row y2)],λ x=>yh 0 x.1 x.2.1 x.2.2.1⟩)) (eP qFp)) (.node 228 (tL 227 (.pure [([228],qFq)])) (tL 241 (.pure [([228],qB3)])) (eP qFI)) (.hs ⟨[.row y2,.val y1,.val y1],[.one (.row y2)],λ x=>yl 0 x.1 x.2.1 x.2.2.1⟩)) (eS qCt)) (eS qBj)) (.hm λ m=>⟨y3,[.clo 153 0],λ x=>zx m x.1⟩)) (eP qCY)⟩
end Go.AmZ
namespace Go.AmZ
open Go Go.GxZ
set_option linter.unusedVariables false
set_option maxRecDepth 100000
theorem qk2:okP tb [] i83:=λ m a=>by kernel_rfl
theorem qfx:okP tb [] i85:=λ m a=>by kernel_rfl
theorem qhf:okS tb qE0:=λ m a=>by kernel_rfl
def qcl(m k x0 x1 x2 x3 x4 x5):=tb.QL qBU 4 m k [(0,.ptr 0 0),(4,vI x0),(14,vI x1),(15,vI x2)] ⟨[[.s x3,vI x4,.b x5]],[]⟩
theorem qgU(m k):qcC m k=qcl m k:=qV (M:=qcl m) rfl (λ _=>by kernel_rfl) k
theorem qhg:okS tb qBU:=λ m a=>(congrArg (λ L=>qck m L a.1) (qgU m m)).trans (by kernel_rfl)
theorem qhh:okS tb i67:=λ m a=>by kernel_rfl
theorem quY:okP tb [] qE8:=λ m a=>by kernel_rfl
def qiO(m k x0 x1 x2):=tb.PL qCN 4 m k [(0,.s x0),(38,vI x1),(39,vI x2)] ⟨[],[]⟩
theorem qpD(m k):jr m k=qiO m k:=qV (M:=qiO m) rfl (λ _=>by kernel_rfl) k
theorem qrU:okP tb [] qCN:=λ m a=>(congrArg (λ L=>qbS m L a.1) (qpD m m)).trans (by kernel_rfl)
def qkR(m k x0 x1 x2 x3 x4 x5):=tb.QL i68 17 m k [(1,vI x0),(2,.ptr 0 0),(3,.ptr 1 0),(57,vT x1),(58,vI x2),(59,vI x3)] ⟨[[vI x4],[vI x5]],[]⟩
theorem qsh(m k):yx m (zk m) k=qkR m k:=qV (M:=qkR m) rfl (λ _=>by kernel_rfl) k
theorem qtz:okS tb i68:=λ m a=>(congrArg (λ L=>qcN m (zk m) L a.1 a.2.1 a.2.2.1 a.2.2.2.1) (qsh m m)).trans (by kernel_rfl)
theorem qt4:okP tb [] i36:=λ m a=>by kernel_rfl
def qgT(m k x0 x1 x2 x3 x4 x5 x6 x7):=tb.PL i73 2 m k [(0,.s x0),(2,.ptr 0 0),(5,.sl y4 x1 1),(6,vI x2),(7,vI x3)] ⟨[[.s x4,vI x5,vI x6,vI x7]],[]⟩
theorem qnH(m k):jS m k=qgT m k:=qV (M:=qgT m) rfl (λ _=>by kernel_rfl) k
theorem qoP:okP tb [] i73:=λ m a=>(congrArg (λ L=>qaI m L a.1) (qnH m m)).trans (by kernel_rfl)
def qid(m k x0 x1 x2 x3 x4 x5 x6):=tb.PL i80 13 m k [(1,.ptr 0 0),(38,vT x0),(39,vI x1),(40,vI x2)] ⟨[[vI x3,.s x4,vI x5,vT x6]],[]⟩
def qiu(m k x0 x1 x2):=tb.PL i80 22 m k [(62,vT x0),(63,vI x1),(64,vI x2)] ⟨[],[]⟩
theorem qoC(m k):qC m (qn m) k=(qid m k,qiu m k):=qV (M:=λ k=>(qid m k,qiu m k)) rfl (λ _=>by kernel_rfl) k
theorem qqC:okP tb [] i80:=λ m a=>(congrArg (a₁:=qC m (qn m) m) (λ L=>qbm m (qn m) L.1 L.2 a.1) (qoC m m)).trans (by kernel_rfl)
theorem qrc:okP tb [] i44:=λ m a=>by kernel_rfl
theorem qwf:okP tb [] qFY:=λ m a=>by kernel_rfl
def qmM(m k x0 x1 x2 x3):=tb.PL qCK 3 m k [(3,vI x0),(7,vT x1),(8,vI x2),(9,vI x3)] ⟨[],[]⟩
theorem qtX(m k):J1 m (jb m) k=qmM m k:=qV (M:=qmM m) rfl (λ _=>by kernel_rfl) k
theorem qwh:okP tb [] qCK:=λ m a=>(congrArg (λ L=>qdx m (jb m) L a.1) (qtX m m)).trans (by kernel_rfl)
def qis(m k x0 x1 x2 x3 x4 x5 x6 x7 x8 x9):=tb.PL i89 11 m k [(2,.ptr 0 0),(3,.ptr 1 0),(5,vI x0),(6,vI x1)] ⟨[[vI x2,.s x3,vI x4,vT x5],[vI x6,.s x7,vI x8,vT x9]],[]⟩
theorem qoA(m k):yP m (qp m) k=qis m k:=qV (M:=qis m) rfl (λ _=>by kernel_rfl) k
theorem qqr:okP tb [] i89:=λ m a=>(congrArg (λ L=>qbl m (qp m) L a.1 a.2.1) (qoA m m)).trans (by kernel_rfl)
theorem qrT:okP tb [] i70:=λ m a=>by kernel_rfl
theorem qu6:okP tb [] qFa:=λ m a=>by kernel_rfl
theorem qnu:okP tb [] qFB:=λ m a=>by kernel_rfl
def QK(m k x0 x1 x2 x3 x4):=tb.PL qyi 3 m k [(0,.sl y5 x0 1),(3,vI x1),(9,.sl y5 x2 1),(10,vI x3),(11,vI x4)] ⟨[],[]⟩
def QJ(m k x0 x1 x2 x3):=tb.PL qyi 11 m k [(6,.row 0 0),(25,.sl y5 x0 1),(26,vI x1),(27,vI x2)] ⟨[],[⟨.term,x3,0,0,false⟩]⟩
theorem qch(m k):yi m k=(QK m k,QJ m k):=qV (M:=λ k=>(QK m k,QJ m k)) rfl (λ _=>by kernel_rfl) k
theorem qcv:okP tb [] qyi:=λ m a=>(congrArg (a₁:=yi m m) (λ L=>QH m L.1 L.2 a.1) (qch m m)).trans (by kernel_rfl)
def qlT(m k x0 x1 x2):=tb.PL qBi 4 m k [(14,vT x0),(15,vI x1),(16,vI x2)] ⟨[],[]⟩
theorem qtI(m k):qnV m k=qlT m k:=qV (M:=qlT m) rfl (λ _=>by kernel_rfl) k
theorem qvd:okP tb [] qBi:=λ m a=>(congrArg (λ L=>qmj m L a.1 a.2.1) (qtI m m)).trans (by kernel_rfl)
def qnX(m k x0 x1 x2):=tb.PL qDt 2 m k [(0,vT x0),(1,vT x1),(5,.row 0 0)] ⟨[],[⟨.term,x2,0,0,false⟩]⟩
theorem quD(m k):qpE m k=qnX m k:=qV (M:=qnX m) rfl (λ _=>by kernel_rfl) k
theorem qwS:okP tb [] qDt:=λ m a=>(congrArg (λ L=>qnY m L a.1 a.2.1) (quD m m)).trans (by kernel_rfl)
def qii(m k x0 x1 x2 x3):=tb.PL qC7 6 m k [(3,vT x0),(31,vT x1),(32,vI x2),(33,vI x3)] ⟨[],[]⟩
theorem qow(m k):qjh m (qdK m) k=qii m k:=qV (M:=qii m) rfl (λ _=>by kernel_rfl) k
theorem qqT:okP tb [] qC7:=λ m a=>(congrArg (λ L=>qhQ m (qdK m) L a.1) (qow m m)).trans (by kernel_rfl)
def qkH(m k x0 x1 x2 x3 x4 x5 x6 x7 x8 x9 x10):=tb.PL qBV 4 m k [(1,.ptr 0 0),(2,.ptr 1 0),(9,vT x0),(10,vI x1),(11,vI x2)] ⟨[[vI x3,.s x4,vI x5,.row 0 0],[vI x6,.s x7,vI x8,.row 1 0]],[⟨.term,x9,0,0,false⟩,⟨.term,x10,0,0,false⟩]⟩
theorem qrM(m k):qmt m (qcd m) k=qkH m k:=qV (M:=qkH m) rfl (λ _=>by kernel_rfl) k
theorem qtM:okP tb [] qBV:=λ m a=>(congrArg (λ L=>qkW m (qcd m) L a.1) (qrM m m)).trans (by kernel_rfl)
def qhy(m k x0 x1 x2 x3 x4 x5 x6 x7 x8 x9 x10 x11 x12 x13 x14):=tb.PL qDp 4 m k [(5,.ptr 0 0),(6,.ptr 1 0),(8,.ptr 2 0),(9,.ptr 2 0),(14,.sl y1 x0 1),(15,vI x1),(16,vI x2)] ⟨[[vI x3,.s x4,vI x5,vT x6],[vI x7,.s x8,vI x9,.row 0 0],[vI x10,.s x11,vI x12,vT x13]],[⟨.term,x14,0,0,false⟩]⟩
theorem qof(m k):qjd m k=qhy m k:=qV (M:=qhy m) rfl (λ _=>by kernel_rfl) k
theorem qpU:okP tb [] qDp:=λ m a=>(congrArg (λ L=>qhD m L a.1 a.2.1 a.2.2.1) (qof m m)).trans (by kernel_rfl)
def qpp(m k x0 x1 x2 x3):=tb.PL qCl 3 m k [(3,.row 0 0),(9,vT x0),(10,vI x1),(11,vI x2)] ⟨[],[⟨.term,x3,0,0,false⟩]⟩
theorem qwU(m k):qsJ m (qnl m) k=qpp m k:=qV (M:=qpp m) rfl (λ _=>by kernel_rfl) k
theorem qyR:okP tb [] qCl:=λ m a=>(congrArg (λ L=>qq5 m (qnl m) L a.1) (qwU m m)).trans (by kernel_rfl)
def qp6(m k x0 x1 x2 x3 x4 x5 x6 x7):=tb.PL qDl 6 m k [(2,.ptr 0 0),(5,vT x0),(15,vT x1),(16,vI x2),(17,vI x3)] ⟨[[vI x4,.s x5,vI x6,.row 0 0]],[⟨.term,x7,0,0,true⟩]⟩
theorem qwP(m k):qtt m k=qp6 m k:=qV (M:=qp6 m) rfl (λ _=>by kernel_rfl) k
theorem qzz:okP tb [] qDl:=λ m a=>(congrArg (λ L=>qpu m L a.1) (qwP m m)).trans (by kernel_rfl)
theorem qmb:okP tb [] qF1:=λ m a=>by kernel_rfl
def qfJ(m k x0 x1 x2 x3 x4 x5 x6 x7 x8 x9):=tb.PL qCW 3 m k [(1,.ptr 0 0),(2,.ptr 1 0),(10,.row 0 0),(11,vI x0),(12,vI x1)] ⟨[[vI x2,.s x3,vI x4,.row 0 0],[vI x5,.s x6,vI x7,.row 1 0]],[⟨.term,x8,0,0,false⟩,⟨.term,x9,0,0,false⟩]⟩
theorem qmv(m k):qg1 m (Qi m) k=qfJ m k:=qV (M:=qfJ m) rfl (λ _=>by kernel_rfl) k
theorem qnI:okP tb [] qCW:=λ m a=>(congrArg (λ L=>qfG m (Qi m) L a.1) (qmv m m)).trans (by kernel_rfl)
theorem qkp:okP tb [] qFp:=λ m a=>by kernel_rfl
def zt(m k x0 x1 x2 x3 x4 x5 x6 x7):=tb.PL qDs 3 m k [(0,.sl y2 x0 1),(2,.fn 224 []),(4,.ptr 0 0),(8,vI x1),(9,vI x2),(10,vI x3)] ⟨[[vI x4,.s x5,vI x6,vT x7]],[]⟩
theorem jz(m k):zy m k=zt m k:=qV (M:=zt m) rfl (λ _=>by kernel_rfl) k
theorem jH:okP tb [224] qDs:=λ m a=>(congrArg (λ L=>zr m L a.1 a.2.1) (jz m m)).trans (by kernel_rfl)
theorem qmk:okS tb qFR:=λ m a=>by kernel_rfl
def qep(m k x0 x1 x2 x3 x4):=tb.QL qBl 12 m k [(0,.row 0 0),(2,vI x0),(52,vT x1),(53,vI x2),(54,vI x3)] ⟨[],[⟨y2,x4,0,0,false⟩]⟩
theorem qkx(m k):qfi m (qaG m) k=qep m k:=qV (M:=qep m) rfl (λ _=>by kernel_rfl) k
theorem qk0:okS tb qBl:=λ m a=>(congrArg (λ L=>qem m (qaG m) L a.1 a.2.1 a.2.2.1) (qkx m m)).trans (by kernel_rfl)
theorem qrr:okP tb [] qFJ:=λ m a=>by kernel_rfl
def qfI(m k x0 x1 x2 x3):=tb.PL qC5 4 m k [(0,.sl y2 x0 1),(9,.sl y2 x1 1),(10,vI x2),(11,vI x3)] ⟨[],[]⟩
theorem qmR(m k):qgK m k=qfI m k:=qV (M:=qfI m) rfl (λ _=>by kernel_rfl) k
theorem qnK:okP tb [] qC5:=λ m a=>(congrArg (λ L=>qfQ m L a.1) (qmR m m)).trans (by kernel_rfl)
theorem qp1:okP tb [] qFV:=λ m a=>by kernel_rfl
def qgo(m k x0 x1 x2 x3 x4 x5 x6 x7 x8):=tb.PL qwy 6 m k [(2,.ptr 0 0),(5,.row 1 0),(6,.row 2 0),(18,.sl y2 x0 1),(19,vI x1),(20,vI x2)] ⟨[[vI x3,.s x4,vI x5,.row 0 0]],[⟨.term,x6,0,0,false⟩,⟨.term,x7,0,0,false⟩,⟨.term,x8,0,0,false⟩]⟩
def qgm(m k x0 x1 x2 x3 x4 x5 x6 x7 x8 x9 x10 x11 x12 x13 x14 x15):=tb.PL qwy 11 m k [(2,.ptr 0 0),(5,.row 1 0),(6,.row 2 0),(8,.ptr 1 0),(18,.sl y2 x0 1),(19,vI x1),(20,vI x2),(34,vI x3),(35,vI x4)] ⟨[[vI x5,.s x6,vI x7,.row 0 0],[vI x8,.s x9,vI x10,vT x11,vI x12]],[⟨.term,x13,0,0,false⟩,⟨.term,x14,0,0,false⟩,⟨.term,x15,0,0,false⟩]⟩
def qgs(m k x0 x1 x2 x3 x4 x5 x6 x7 x8 x9 x10 x11 x12 x13 x14 x15):=tb.PL qwy 15 m k [(2,.ptr 0 0),(5,.row 1 0),(6,.row 2 0),(8,.ptr 1 0),(18,.sl y2 x0 1),(19,vI x1),(20,vI x2),(46,vI x3),(47,vI x4)] ⟨[[vI x5,.s x6,vI x7,.row 0 0],[vI x8,.s x9,vI x10,vT x11,vI x12]],[⟨.term,x13,0,0,false⟩,⟨.term,x14,0,0,false⟩,⟨.term,x15,0,0,false⟩]⟩
theorem qnz(m k):JI m k=(qgo m k,qgm m k,qgs m k):=qV (M:=λ k=>(qgo m k,qgm m k,qgs m k)) rfl (λ _=>by kernel_rfl) k
theorem qo4:okP tb [] qwy:=λ m a=>(congrArg (a₁:=JI m m) (λ L=>qgv m L.1 L.2.1 L.2.2 a.1) (qnz m m)).trans (by kernel_rfl)
def qe6(m k x0 x1 x2 x3):=tb.QL qCV 3 m k [(3,.row 0 0),(6,.sl y2 x0 1),(7,vI x1),(8,vI x2)] ⟨[],[⟨y2,x3,0,0,false⟩]⟩
theorem qk3(m k):qfK m k=qe6 m k:=qV (M:=qe6 m) rfl (λ _=>by kernel_rfl) k
theorem qma:okS tb qCV:=λ m a=>(congrArg (λ L=>qfb m L a.1) (qk3 m m)).trans (by kernel_rfl)
theorem qjX:okP tb [] qFI:=λ m a=>by kernel_rfl
def yX(m k x0 x1 x2):=tb.PL qB3 2 m k [(0,.sl y2 x0 1),(1,.fn 228 []),(7,vI x1),(8,vI x2)] ⟨[],[]⟩
theorem Jt(m k):jd m k=yX m k:=qV (M:=yX m) rfl (λ _=>by kernel_rfl) k
theorem Jv:okP tb [228] qB3:=λ m a=>(congrArg (λ L=>yV m L a.1) (Jt m m)).trans (by kernel_rfl)
theorem Q6:okP tb [228] qFq:=λ m a=>by kernel_rfl
theorem qmi:okP tb [] qES:=λ m a=>by kernel_rfl
def qhW(m k x0 x1 x2 x3):=tb.PL qBw 9 m k [(8,.row 0 0),(23,.sl y2 x0 1),(24,vI x1),(25,vI x2)] ⟨[],[⟨y2,x3,0,0,false⟩]⟩
theorem qpl(m k):qjb m k=qhW m k:=qV (M:=qhW m) rfl (λ _=>by kernel_rfl) k
theorem qqu:okP tb [] qBw:=λ m a=>(congrArg (λ L=>qhX m L a.1 a.2.1) (qpl m m)).trans (by kernel_rfl)
theorem qtE:okP tb [] qFg:=λ m a=>by kernel_rfl
theorem qp0:okP tb [] qFc:=λ m a=>by kernel_rfl
def qg4(m k x0 x1 x2 x3 x4 x5 x6 x7 x8 x9 x10 x11 x12 x13 x14):=tb.PL qCY 5 m k [(1,.ptr 0 0),(2,.ptr 1 0),(4,.ptr 2 0),(19,vT x0),(20,vI x1),(21,vI x2)] ⟨[[vI x3,.s x4,vI x5,vT x6],[vI x7,.s x8,vI x9,.row 0 0],[vI x10,.s x11,vI x12,.row 1 0]],[⟨.term,x13,0,0,false⟩,⟨.term,x14,0,0,false⟩]⟩
theorem qny(m k):qie m (qcJ m) k=qg4 m k:=qV (M:=qg4 m) rfl (λ _=>by kernel_rfl) k
theorem qoH:okP tb [] qCY:=λ m a=>(congrArg (λ L=>qgH m (qcJ m) L a.1) (qny m m)).trans (by kernel_rfl)
theorem qoy:okP tb [] i69:=λ m a=>by kernel_rfl
theorem qnG:okP tb [] i72:=λ m a=>by kernel_rfl
def qdq(m k x0 x1 x2):=tb.PL i71 4 m k [(1,.fn 72 []),(18,vT x0),(19,vI x1),(20,vI x2)] ⟨[],[]⟩
theorem qiK(m k):qdN m (JR m) k=qdq m k:=qV (M:=qdq m) rfl (λ _=>by kernel_rfl) k
theorem qjn:okP tb [72] i71:=λ m a=>(congrArg (λ L=>qdj m (JR m) L a.1) (qiK m m)).trans (by kernel_rfl)
theorem qp3:okP tb [] i37:=λ m a=>by kernel_rfl
theorem qmA:okP tb [] i11:=λ m a=>by kernel_rfl
theorem qhi:okS tb qF9:=λ m a=>by kernel_rfl
def qdR(m k x0 x1 x2 x3 x4):=tb.QL qBG 3 m k [(1,.fn 110 [.ptr 0 0,.ptr 1 0]),(10,vT x0),(11,vI x1),(12,vI x2)] ⟨[[vI x3],[.row 0 0]],[⟨.term,x4,0,0,false⟩]⟩
theorem qi1(m k):qeq m (qab m) k=qdR m k:=qV (M:=qdR m) rfl (λ _=>by kernel_rfl) k
theorem qjS:okS tb qBG:=λ m a=>(congrArg (λ L=>qd6 m (qab m) L a.1 a.2.1 a.2.2.1) (qi1 m m)).trans (by kernel_rfl)
theorem qnE:okP tb [] qEW:=λ m a=>by kernel_rfl
def qio(m k x0 x1 x2):=tb.QL qCn 4 m k [(0,.row 0 0),(9,vI x0),(10,vI x1)] ⟨[],[⟨.term,x2,0,0,false⟩]⟩
theorem qoF(m k):qiM m k=qio m k:=qV (M:=qio m) rfl (λ _=>by kernel_rfl) k
theorem qqU:okS tb qCn:=λ m a=>(congrArg (λ L=>qig m L a.1) (qoF m m)).trans (by kernel_rfl)
theorem qrm:okP tb [] i81:=λ m a=>by kernel_rfl
theorem qvA:okP tb [] i45:=λ m a=>by kernel_rfl
theorem qgp:okS tb i84:=λ m a=>by kernel_rfl
def zP(m k x0 x1 x2 x3 x4 x5 x6):=tb.QL i82 2 m k [(0,.sl y7 x0 1),(1,.fn 84 [.ptr 0 0]),(7,vI x1),(8,vI x2)] ⟨[[vI x3,.s x4,vI x5,vT x6]],[]⟩
theorem jX(m k):zW m k=zP m k:=qV (M:=zP m) rfl (λ _=>by kernel_rfl) k
theorem j7:okS tb i82:=λ m a=>(congrArg (λ L=>zQ m L a.1 a.2.1) (jX m m)).trans (by kernel_rfl)
def qfL(m k x0 x1 x2 x3):=tb.QL i46 8 m k [(0,.row 0 0),(46,vT x0),(47,vI x1),(48,vI x2)] ⟨[],[⟨y13,x3,0,0,false⟩]⟩
theorem qmJ(m k):qgM m (qci m) k=qfL m k:=qV (M:=qfL m) rfl (λ _=>by kernel_rfl) k
theorem qnw:okS tb i46:=λ m a=>(congrArg (λ L=>qfM m (qci m) L a.1 a.2.1) (qmJ m m)).trans (by kernel_rfl)
theorem qmx:okP tb [] i14:=λ m a=>by kernel_rfl
theorem qoU:okP tb [] qGc:=λ m a=>by kernel_rfl
def qcz(m k x0 x1 x2):=tb.PL qyu 4 m k [(1,.fn 120 []),(18,vT x0),(19,vI x1),(20,vI x2)] ⟨[],[]⟩
theorem qhm(m k):zq m (qA m) k=qcz m k:=qV (M:=qcz m) rfl (λ _=>by kernel_rfl) k
theorem qiJ:okP tb [120] qyu:=λ m a=>(congrArg (λ L=>Qy m (qA m) L a.1) (qhm m m)).trans (by kernel_rfl)
theorem qrx:okP tb [] i93:=λ m a=>by kernel_rfl
theorem qk5:okP tb [] i58:=λ m a=>by kernel_rfl
def qdz(m k x0 x1 x2):=tb.PL i50 4 m k [(9,vT x0),(10,vI x1),(11,vI x2)] ⟨[],[]⟩
theorem qja(m k):yA m k=qdz m k:=qV (M:=qdz m) rfl (λ _=>by kernel_rfl) k
theorem qkF:okP tb [] i50:=λ m a=>(congrArg (λ L=>QR m L a.1) (qja m m)).trans (by kernel_rfl)
def qhq(m k x0 x1 x2 x3 x4 x5 x6 x7 x8 x9 x10 x11):=tb.PL i52 2 m k [(0,.sl y3 x0 1),(3,.ptr 0 0),(4,.ptr 1 0),(10,.sl y3 x1 1),(11,vI x2),(12,vI x3)] ⟨[[vI x4,.s x5,vI x6,vT x7],[vI x8,.s x9,vI x10,.row 0 0]],[⟨.term,x11,0,0,false⟩]⟩
def qhn(m k x0 x1 x2 x3 x4 x5 x6 x7 x8 x9 x10 x11):=tb.PL i52 10 m k [(0,.sl y3 x0 1),(4,.ptr 0 0),(7,.ptr 1 0),(27,vT x1),(28,vI x2),(29,vI x3)] ⟨[[vI x4,.s x5,vI x6,.row 0 0],[vI x7,.s x8,vI x9,.row 1 0]],[⟨.term,x10,0,0,false⟩,⟨.term,x11,0,0,false⟩]⟩
theorem qoi(m k):q9 m (qG m) k=(qhq m k,qhn m k):=qV (M:=λ k=>(qhq m k,qhn m k)) rfl (λ _=>by kernel_rfl) k
theorem qpQ:okP tb [] i52:=λ m a=>(congrArg (a₁:=q9 m (qG m) m) (λ L=>qbh m (qG m) L.1 L.2 a.1 a.2.1) (qoi m m)).trans (by kernel_rfl)
def qfO(m k x0 x1 x2 x3 x4 x5 x6 x7 x8 x9 x10 x11 x12):=tb.QL i56 9 m k [(1,.s x0),(2,.mp 0),(6,.ptr 1 0),(7,.ptr 2 0),(38,vT x1),(39,vI x2),(40,vI x3)] ⟨[[.mc .str .str x4],[vI x5,.s x6,vI x7,.row 0 0],[vI x8,.s x9,vI x10,.row 1 0]],[⟨.term,x11,0,0,false⟩,⟨.term,x12,0,0,false⟩]⟩
theorem qlE(m k):yL m (qF m) k=qfO m k:=qV (M:=qfO m) rfl (λ _=>by kernel_rfl) k
theorem qnB:okS tb i56:=λ m a=>(congrArg (λ L=>jV m (qF m) L a.1 a.2.1 a.2.2.1) (qlE m m)).trans (by kernel_rfl)
theorem qrv:okP tb [] i91:=λ m a=>by kernel_rfl
theorem qtS:okP tb [] i96:=λ m a=>by kernel_rfl
theorem qr9:okP tb [] qF3:=λ m a=>by kernel_rfl
theorem qtY:okP tb [] qE3:=λ m a=>by kernel_rfl
theorem qrO:okP tb [] qFG:=λ m a=>by kernel_rfl
theorem quW:okP tb [] i95:=λ m a=>by kernel_rfl
def qmN(m k x0 x1 x2 x3 x4 x5 x6 x7 x8 x9 x10 x11 x12):=tb.QL qBj 10 m k [(0,.mp 0),(3,.ptr 1 0),(4,.ptr 2 0),(7,.row 1 0),(32,vT x0),(33,vI x1),(34,vI x2)] ⟨[[.mc y12 .term x3],[vI x4,.s x5,vI x6,vT x7],[vI x8,.s x9,vI x10,.row 0 0]],[⟨.term,x11,0,0,false⟩,⟨.term,x12,0,0,false⟩]⟩
theorem qt0(m k):qn1 m (qbI m) k=qmN m k:=qV (M:=qmN m) rfl (λ _=>by kernel_rfl) k
theorem quE:okS tb qBj:=λ m a=>(congrArg (λ L=>qmq m (qbI m) L a.1 a.2.1) (qt0 m m)).trans (by kernel_rfl)
def qen(m k x0 x1 x2 x3 x4 x5 x6 x7 x8 x9 x10 x11 x12 x13 x14):=tb.QL qyQ 6 m k [(0,.ptr 0 0),(4,.ptr 1 0),(5,.ptr 2 0),(8,.ptr 3 0),(9,.fn 186 [.ptr 5 0,.ptr 3 0]),(10,.row 1 0),(25,vI x0),(26,vI x1)] ⟨[[.sl y3 x2 1,.row 0 0],[vI x3,.s x4,vI x5,vT x6],[vI x7,.s x8,vI x9,vT x10],[.b x11],[.mc y12 .term x12],[.mp 4]],[⟨y3,x13,0,0,false⟩,⟨y3,x14,0,0,false⟩]⟩
def qes(m k x0 x1 x2 x3 x4 x5 x6 x7 x8 x9 x10 x11 x12 x13 x14):=tb.QL qyQ 12 m k [(0,.ptr 0 0),(4,.ptr 1 0),(5,.ptr 2 0),(8,.ptr 3 0),(9,.fn 186 [.ptr 5 0,.ptr 3 0]),(10,.row 1 0),(46,vI x0),(47,vI x1)] ⟨[[.sl y3 x2 1,.row 0 0],[vI x3,.s x4,vI x5,vT x6],[vI x7,.s x8,vI x9,vT x10],[.b x11],[.mc y12 .term x12],[.mp 4]],[⟨y3,x13,0,0,false⟩,⟨y3,x14,0,0,false⟩]⟩
theorem qjt(m k):JL m k=(qen m k,qes m k):=qV (M:=λ k=>(qen m k,qes m k)) rfl (λ _=>by kernel_rfl) k
theorem qk1:okS tb qyQ:=λ m a=>(congrArg (a₁:=JL m m) (λ L=>qer m L.1 L.2 a.1 a.2.1 a.2.2.1) (qjt m m)).trans (by kernel_rfl)
theorem qlr:okS tb qEQ:=λ m a=>by kernel_rfl
theorem qqw:okP tb [] qGe:=λ m a=>by kernel_rfl
theorem Jg:okS tb qFW:=λ m a=>by kernel_rfl
theorem qiG:okS tb qFD:=λ m a=>by kernel_rfl
def jg(m k x0 x1 x2 x3 x4 x5 x6):=tb.QL qCt 2 m k [(0,vT x0),(1,.fn 185 [.ptr 0 0]),(7,vI x1),(8,vI x2)] ⟨[[vI x3,.s x4,vI x5,vT x6]],[]⟩
theorem Jw(m k):jl m (qbx m) (zC m) (qa5 m) (yf m) k=jg m k:=qV (M:=jg m) rfl (λ _=>by kernel_rfl) k
theorem JM:okS tb qCt:=λ m a=>(congrArg (λ L=>jc m (qbx m) (zC m) (qa5 m) (yf m) L a.1 a.2.1) (Jw m m)).trans (by kernel_rfl)
def qeo(m k x0 x1 x2 x3 x4 x5 x6 x7 x8 x9 x10 x11 x12):=tb.QL qDb 8 m k [(0,.ptr 0 0),(3,.ptr 1 0),(4,.ptr 2 0),(5,.row 1 0),(39,vI x0),(40,vI x1)] ⟨[[.sl y3 x2 1,.row 0 0],[vI x3,.s x4,vI x5,vT x6],[vI x7,.s x8,vI x9,vT x10]],[⟨y3,x11,0,0,false⟩,⟨y3,x12,0,0,false⟩]⟩
theorem qjW(m k):jD m k=qeo m k:=qV (M:=qeo m) rfl (λ _=>by kernel_rfl) k
theorem qkZ:okS tb qDb:=λ m a=>(congrArg (λ L=>Qb m L a.1) (qjW m m)).trans (by kernel_rfl)
theorem qjG:okP tb [] qGb:=λ m a=>by kernel_rfl
theorem qlC:okS tb qF4:=λ m a=>by kernel_rfl
def qi5(m k x0 x1):=tb.PL i92 2 m k [(4,.ptr 0 0)] ⟨[[.sl y3 x0 1,.row 0 0]],[⟨y3,x1,0,0,false⟩]⟩
theorem qps(m k):JF m k=qi5 m k:=qV (M:=qi5 m) rfl (λ _=>by kernel_rfl) k
theorem qsk:okP tb [] i92:=λ m a=>(congrArg (λ L=>qcf m L a.1) (qps m m)).trans (by kernel_rfl)
theorem qsl:okP tb [] i57:=λ m a=>by kernel_rfl
def qdW(m k x0 x1 x2 x3 x4 x5 x6):=tb.PL i26 5 m k [(0,vT x0),(4,.ptr 0 0),(20,vI x1),(21,vI x2)] ⟨[[vI x3,.s x4,vI x5,.row 0 0]],[⟨.term,x6,0,0,false⟩]⟩
def qdH(m k x0 x1 x2 x3 x4 x5 x6 x7 x8 x9 x10 x11 x12):=tb.PL i26 9 m k [(0,vT x0),(4,.ptr 0 0),(7,vI x1),(8,.ptr 1 0),(9,vI x2),(20,vI x3),(21,vI x4)] ⟨[[vI x5,.s x6,vI x7,.row 0 0],[vI x8,.s x9,vI x10,vT x11]],[⟨.term,x12,0,0,false⟩]⟩
theorem qi7(m k):qt m k=(qdW m k,qdH m k):=qV (M:=λ k=>(qdW m k,qdH m k)) rfl (λ _=>by kernel_rfl) k
theorem qj8:okP tb [] i26:=λ m a=>(congrArg (a₁:=qt m m) (λ L=>QV m L.1 L.2 a.1) (qi7 m m)).trans (by kernel_rfl)
theorem qvp:okP tb [] i32:=λ m a=>by kernel_rfl
theorem qtZ:okP tb [] i33:=λ m a=>by kernel_rfl
theorem qvo:okP tb [] i34:=λ m a=>by kernel_rfl
theorem qr4:okP tb [] i10:=λ m a=>by kernel_rfl
def qhB(m k x0 x1 x2 x3 x4 x5):=tb.PL i86 5 m k [(1,vI x0),(2,.ptr 0 0),(5,vI x1)] ⟨[[vI x2,.s x3,vI x4,vT x5]],[]⟩
theorem qpm(m k):Qf m (yc m) k=qhB m k:=qV (M:=qhB m) rfl (λ _=>by kernel_rfl) k
theorem qqV:okP tb [] i86:=λ m a=>(congrArg (λ L=>qbk m (yc m) L a.1 a.2.1) (qpm m m)).trans (by kernel_rfl)
def qmm(m k x0 x1 x2):=tb.PL i47 4 m k [(0,vT x0),(2,vI x1),(7,vI x2)] ⟨[],[]⟩
theorem qtD(m k):JU m k=qmm m k:=qV (M:=qmm m) rfl (λ _=>by kernel_rfl) k
theorem quT:okP tb [] i47:=λ m a=>(congrArg (λ L=>qdB m L a.1 a.2.1 a.2.2.1) (qtD m m)).trans (by kernel_rfl)
theorem qwc:okP tb [] i15:=λ m a=>by kernel_rfl
def qij(m k x0 x1 x2 x3):=tb.PL i22 6 m k [(5,.row 0 0),(16,vT x0),(17,vI x1),(18,vI x2)] ⟨[],[⟨.term,x3,0,0,false⟩]⟩
theorem qn7(m k):Qh m k=qij m k:=qV (M:=qij m) rfl (λ _=>by kernel_rfl) k
theorem qri:okP tb [] i22:=λ m a=>(congrArg (λ L=>qbb m L a.1) (qn7 m m)).trans (by kernel_rfl)
def qkN(m k x0 x1 x2 x3 x4 x5):=tb.PL i39 3 m k [(1,.ptr 0 0),(3,vI x0),(4,vI x1)] ⟨[[vI x2,.s x3,vI x4,vT x5]],[]⟩
theorem qrY(m k):Ji m (yr m) k=qkN m k:=qV (M:=qkN m) rfl (λ _=>by kernel_rfl) k
theorem qt3:okP tb [] i39:=λ m a=>(congrArg (λ L=>qcW m (yr m) L a.1) (qrY m m)).trans (by kernel_rfl)
def qi8(m k x0 x1 x2 x3 x4 x5):=tb.PL i40 3 m k [(1,.ptr 0 0),(3,vI x0),(4,vI x1)] ⟨[[vI x2,.s x3,vI x4,vT x5]],[]⟩
theorem qq2(m k):QD m (yz m) k=qi8 m k:=qV (M:=qi8 m) rfl (λ _=>by kernel_rfl) k
theorem qr2:okP tb [] i40:=λ m a=>(congrArg (λ L=>qb8 m (yz m) L a.1) (qq2 m m)).trans (by kernel_rfl)
theorem qq7:okP tb [] qFC:=λ m a=>by kernel_rfl
theorem qrA:okP tb [] qFo:=λ m a=>by kernel_rfl
def qh4(m k x0 x1):=tb.PL qCr 4 m k [(0,.s x0),(3,vI x1)] ⟨[],[]⟩
theorem qoB(m k):Ql m k=qh4 m k:=qV (M:=qh4 m) rfl (λ _=>by kernel_rfl) k
theorem qqq:okP tb [] qCr:=λ m a=>(congrArg (λ L=>qbf m L a.1) (qoB m m)).trans (by kernel_rfl)
theorem qty:okP tb [] qGa:=λ m a=>by kernel_rfl
def qjl(m k x0 x1 x2 x3 x4):=tb.PL i90 5 m k [(1,.ptr 0 0),(4,vI x0)] ⟨[[vI x1,.s x2,vI x3,vT x4]],[]⟩
theorem qqv(m k):QE m (yy m) k=qjl m k:=qV (M:=qjl m) rfl (λ _=>by kernel_rfl) k
theorem qrP:okP tb [] i90:=λ m a=>(congrArg (λ L=>qcg m (yy m) L a.1) (qqv m m)).trans (by kernel_rfl)
theorem qrZ:okP tb [] i55:=λ m a=>by kernel_rfl
theorem qo2:okP tb [] i99:=λ m a=>by kernel_rfl
def qkV(m k x0 x1 x2):=tb.PL i64 3 m k [(0,.s x0),(3,.sl y4 x1 1),(4,vI x2)] ⟨[],[]⟩
theorem qrV(m k):Jb m k=qkV m k:=qV (M:=qkV m) rfl (λ _=>by kernel_rfl) k
theorem qt1:okP tb [] i64:=λ m a=>(congrArg (λ L=>qcL m L a.1) (qrV m m)).trans (by kernel_rfl)
def qkI(m k x0 x1 x2 x3 x4 x5):=tb.PL qCR 3 m k [(1,.ptr 0 0),(3,.sl y4 x0 1),(4,vI x1)] ⟨[[vI x2,.s x3,vI x4,vT x5]],[]⟩
theorem qsq(m k):Jc m k=qkI m k:=qV (M:=qkI m) rfl (λ _=>by kernel_rfl) k
theorem qtK:okP tb [] qCR:=λ m a=>(congrArg (λ L=>qcP m L a.1) (qsq m m)).trans (by kernel_rfl)
def qhZ(m k x0 x1 x2 x3 x4):=tb.PL qC9 4 m k [(1,.ptr 0 0),(3,vI x0)] ⟨[[vI x1,.s x2,vI x3,vT x4]],[]⟩
theorem qoq(m k):Qn m k=qhZ m k:=qV (M:=qhZ m) rfl (λ _=>by kernel_rfl) k
theorem qqS:okP tb [] qC9:=λ m a=>(congrArg (λ L=>qbg m L a.1) (qoq m m)).trans (by kernel_rfl)
def qiW(m k x0 x1 x2 x3 x4):=tb.PL i77 11 m k [(1,.ptr 0 0),(4,vI x0)] ⟨[[vI x1,.s x2,vI x3,vT x4]],[]⟩
theorem qqg(m k):jZ m (yk m) k=qiW m k:=qV (M:=qiW m) rfl (λ _=>by kernel_rfl) k
theorem qr1:okP tb [] i77:=λ m a=>(congrArg (λ L=>qbX m (yk m) L a.1) (qqg m m)).trans (by kernel_rfl)
theorem qsb:okP tb [] i41:=λ m a=>by kernel_rfl
def qmB(m k x0 x1 x2 x3 x4 x5):=tb.PL i62 3 m k [(1,.ptr 0 0),(3,.row 0 0),(4,vI x0)] ⟨[[vI x1,.s x2,vI x3,vT x4]],[⟨.term,x5,0,0,true⟩]⟩
theorem qtN(m k):JT m (jB m) k=qmB m k:=qV (M:=qmB m) rfl (λ _=>by kernel_rfl) k
theorem qv9:okP tb [] i62:=λ m a=>(congrArg (λ L=>qef m (jB m) L a.1) (qtN m m)).trans (by kernel_rfl)
theorem qlV:okP tb [] i63:=λ m a=>by kernel_rfl
def qkP(m k x0 x1):=tb.PL i30 5 m k [(3,vT x0),(4,vI x1)] ⟨[],[]⟩
theorem qrW(m k):Jo m k=qkP m k:=qV (M:=qkP m) rfl (λ _=>by kernel_rfl) k
theorem qtA:okP tb [] i30:=λ m a=>(congrArg (λ L=>qcX m L a.1) (qrW m m)).trans (by kernel_rfl)
theorem qoe:okP tb [] i60:=λ m a=>by kernel_rfl
def qfP(m k x0 x1):=tb.PL i53 4 m k [(0,vT x0),(3,vI x1)] ⟨[],[]⟩
theorem qlS(m k):jw m k=qfP m k:=qV (M:=qfP m) rfl (λ _=>by kernel_rfl) k
theorem qnN:okP tb [] i53:=λ m a=>(congrArg (λ L=>J8 m L a.1) (qlS m m)).trans (by kernel_rfl)
theorem qpy:okP tb [] i54:=λ m a=>by kernel_rfl
def qlR(m k x0 x1 x2):=tb.PL i24 6 m k [(0,vT x0),(5,.row 0 0),(6,vI x1)] ⟨[],[⟨.term,x2,0,0,false⟩]⟩
theorem qtF(m k):JV m k=qlR m k:=qV (M:=qlR m) rfl (λ _=>by kernel_rfl) k
theorem qwD:okP tb [] i24:=λ m a=>(congrArg (λ L=>qdO m L a.1) (qtF m m)).trans (by kernel_rfl)
theorem qqi:okP tb [] i79:=λ m a=>by kernel_rfl
def qha(m k x0 x1 x2 x3 x4 x5 x6 x7 x8):=tb.PL i43 18 m k [(2,.ptr 0 0),(3,.ptr 1 0),(9,vI x0)] ⟨[[vI x1,.s x2,vI x3,vT x4],[vI x5,.s x6,vI x7,vT x8]],[]⟩
theorem qnF(m k):jQ m (zA m) k=qha m k:=qV (M:=qha m) rfl (λ _=>by kernel_rfl) k
theorem qoI:okP tb [] i43:=λ m a=>(congrArg (λ L=>qaQ m (zA m) L a.1 a.2.1) (qnF m m)).trans (by kernel_rfl)
theorem qtP:okP tb [] i13:=λ m a=>by kernel_rfl
def qji(m k x0 x1 x2):=tb.PL i25 4 m k [(0,vT x0),(1,vT x1),(5,vI x2)] ⟨[],[]⟩
theorem qqs(m k):QF m k=qji m k:=qV (M:=qji m) rfl (λ _=>by kernel_rfl) k
theorem qsg:okP tb [] i25:=λ m a=>(congrArg (λ L=>qb2 m L a.1 a.2.1) (qqs m m)).trans (by kernel_rfl)
theorem qiY:okP tb [] i7:=λ m a=>by kernel_rfl
end Go.AmZ
namespace Go.Proofs
open Go.Shelf
def Tryz.sortTrm_ren:Go.Shelf.Ren:=⟨λ|6=>139|15=>176|14=>175|28=>211|29=>179|20=>203|21=>204|22=>205|23=>206|24=>207|25=>208|26=>209|27=>210|46=>231|47=>232|48=>233|49=>234|50=>235|57=>242|n=>n,λ|22=>23|24=>25|25=>64|3=>3|39=>164|0=>0|53=>169|55=>144|4=>4|46=>188|45=>187|50=>192|5=>5|9=>9|66=>209|70=>83|76=>221|77=>222|n=>n,λ|n=>n⟩
theorem Tryz.sortTrm:Go.Proofs.SlLaysF0.n6 Tryz.prog Tryz.sortTrm_ren:={
 mixed:=by kernel_rfl
 f6:=⟨Tryz.f139.name,by decide,Tryz.func139.trans (congrArg some (by kernel_rfl))⟩
 f14:=⟨Tryz.f175.name,by decide,Tryz.func175.trans (congrArg some (by kernel_rfl))⟩
 f15:=Tryz.func176.trans (congrArg some (by kernel_rfl))
 f20:=⟨Tryz.f203.name,by decide,Tryz.func203.trans (congrArg some (by kernel_rfl))⟩
 f21:=⟨Tryz.f204.name,by decide,Tryz.func204.trans (congrArg some (by kernel_rfl))⟩
 f22:=⟨Tryz.f205.name,by decide,Tryz.func205.trans (congrArg some (by kernel_rfl))⟩
 f23:=⟨Tryz.f206.name,by decide,Tryz.func206.trans (congrArg some (by kernel_rfl))⟩
 f24:=⟨Tryz.f207.name,by decide,Tryz.func207.trans (congrArg some (by kernel_rfl))⟩
 f25:=⟨Tryz.f208.name,by decide,Tryz.func208.trans (congrArg some (by kernel_rfl))⟩
 f26:=⟨Tryz.f209.name,by decide,Tryz.func209.trans (congrArg some (by kernel_rfl))⟩
 f27:=⟨Tryz.f210.name,by decide,Tryz.func210.trans (congrArg some (by kernel_rfl))⟩
 f28:=Tryz.func211.trans (congrArg some (by kernel_rfl))
 f29:=Tryz.func179.trans (congrArg some (by kernel_rfl))
 f46:=⟨Tryz.f231.name,by decide,Tryz.func231.trans (congrArg some (by kernel_rfl))⟩
 f47:=Tryz.func232.trans (congrArg some (by kernel_rfl))
 f48:=Tryz.func233.trans (congrArg some (by kernel_rfl))
 f49:=⟨Tryz.f234.name,by decide,Tryz.func234.trans (congrArg some (by kernel_rfl))⟩
 f50:=⟨Tryz.f235.name,by decide,Tryz.func235.trans (congrArg some (by kernel_rfl))⟩
 f57:=⟨Tryz.f242.name,by decide,Tryz.func242.trans (congrArg some (by kernel_rfl))⟩
 t0:=Tryz.underlying0
 a0:=Tryz.isAgg0
 z0:=Tryz.sizeOf0
 v0:=Tryz.zeroValue0
 t3:=Tryz.underlying3
 a3:=Tryz.isAgg3
 z3:=Tryz.sizeOf3
 v3:=Tryz.zeroValue3
 t4:=Tryz.underlying4
 a4:=Tryz.isAgg4
 z4:=Tryz.sizeOf4
 v4:=Tryz.zeroValue4
 t5:=Tryz.underlying5
 a5:=Tryz.isAgg5
 z5:=Tryz.sizeOf5
 v5:=Tryz.zeroValue5
 t9:=Tryz.underlying9
 a9:=Tryz.isAgg9
 z9:=Tryz.sizeOf9
 v9:=Tryz.zeroValue9
 t22:=Tryz.underlying23
 a22:=Tryz.isAgg23
 z22:=Tryz.sizeOf23
 v22:=Tryz.zeroValue23
 t25:=Tryz.underlying64
 a25:=Tryz.isAgg64
 z25:=Tryz.sizeOf64
 v25:=Tryz.zeroValue64
 t39:=Tryz.underlying164
 a39:=Tryz.isAgg164
 z39:=Tryz.sizeOf164
 v39:=Tryz.zeroValue164
 t45:=Tryz.underlying187
 a45:=Tryz.isAgg187
 z45:=Tryz.sizeOf187
 v45:=Tryz.zeroValue187
 t46:=Tryz.underlying188
 a46:=Tryz.isAgg188
 z46:=Tryz.sizeOf188
 v46:=Tryz.zeroValue188
 t50:=Tryz.underlying192
 a50:=Tryz.isAgg192
 z50:=Tryz.sizeOf192
 v50:=Tryz.zeroValue192
 t53:=Tryz.underlying169
 a53:=Tryz.isAgg169
 z53:=Tryz.sizeOf169
 v53:=Tryz.zeroValue169
 t55:=Tryz.underlying144
 a55:=Tryz.isAgg144
 z55:=Tryz.sizeOf144
 v55:=Tryz.zeroValue144
 t66:=Tryz.underlying209
 a66:=Tryz.isAgg209
 z66:=Tryz.sizeOf209
 v66:=Tryz.zeroValue209
 t70:=Tryz.underlying83
 a70:=Tryz.isAgg83
 z70:=Tryz.sizeOf83
 v70:=Tryz.zeroValue83
 t76:=Tryz.underlying221
 a76:=Tryz.isAgg221
 z76:=Tryz.sizeOf221
 v76:=Tryz.zeroValue221
 t77:=Tryz.underlying222
 a77:=Tryz.isAgg222
 z77:=Tryz.sizeOf222
 v77:=Tryz.zeroValue222}
end Go.Proofs
namespace Go.Proofs
open Go.Shelf
def Tryz.sortBnd_ren:Go.Shelf.Ren:=⟨λ|6=>152|15=>176|14=>189|28=>211|29=>179|20=>215|21=>216|22=>217|23=>218|24=>219|25=>220|26=>221|27=>222|46=>236|47=>232|48=>233|49=>237|50=>238|57=>243|n=>n,λ|22=>48|24=>76|25=>150|3=>3|39=>164|0=>0|53=>169|55=>144|4=>4|46=>188|45=>187|50=>192|5=>5|9=>9|66=>209|70=>83|76=>221|77=>222|n=>n,λ|n=>n⟩
theorem Tryz.sortBnd:Go.Proofs.SlLaysF0.n6 Tryz.prog Tryz.sortBnd_ren:={
 mixed:=by kernel_rfl
 f6:=⟨Tryz.f152.name,by decide,Tryz.func152.trans (congrArg some (by kernel_rfl))⟩
 f14:=⟨Tryz.f189.name,by decide,Tryz.func189.trans (congrArg some (by kernel_rfl))⟩
 f15:=Tryz.func176.trans (congrArg some (by kernel_rfl))
 f20:=⟨Tryz.f215.name,by decide,Tryz.func215.trans (congrArg some (by kernel_rfl))⟩
 f21:=⟨Tryz.f216.name,by decide,Tryz.func216.trans (congrArg some (by kernel_rfl))⟩
 f22:=⟨Tryz.f217.name,by decide,Tryz.func217.trans (congrArg some (by kernel_rfl))⟩
 f23:=⟨Tryz.f218.name,by decide,Tryz.func218.trans (congrArg some (by kernel_rfl))⟩
 f24:=⟨Tryz.f219.name,by decide,Tryz.func219.trans (congrArg some (by kernel_rfl))⟩
 f25:=⟨Tryz.f220.name,by decide,Tryz.func220.trans (congrArg some (by kernel_rfl))⟩
 f26:=⟨Tryz.f221.name,by decide,Tryz.func221.trans (congrArg some (by kernel_rfl))⟩
 f27:=⟨Tryz.f222.name,by decide,Tryz.func222.trans (congrArg some (by kernel_rfl))⟩
 f28:=Tryz.func211.trans (congrArg some (by kernel_rfl))
 f29:=Tryz.func179.trans (congrArg some (by kernel_rfl))
 f46:=⟨Tryz.f236.name,by decide,Tryz.func236.trans (congrArg some (by kernel_rfl))⟩
 f47:=Tryz.func232.trans (congrArg some (by kernel_rfl))
 f48:=Tryz.func233.trans (congrArg some (by kernel_rfl))
 f49:=⟨Tryz.f237.name,by decide,Tryz.func237.trans (congrArg some (by kernel_rfl))⟩
 f50:=⟨Tryz.f238.name,by decide,Tryz.func238.trans (congrArg some (by kernel_rfl))⟩
 f57:=⟨Tryz.f243.name,by decide,Tryz.func243.trans (congrArg some (by kernel_rfl))⟩
 t0:=Tryz.underlying0
 a0:=Tryz.isAgg0
 z0:=Tryz.sizeOf0
 v0:=Tryz.zeroValue0
 t3:=Tryz.underlying3
 a3:=Tryz.isAgg3
 z3:=Tryz.sizeOf3
 v3:=Tryz.zeroValue3
 t4:=Tryz.underlying4
 a4:=Tryz.isAgg4
 z4:=Tryz.sizeOf4
 v4:=Tryz.zeroValue4
 t5:=Tryz.underlying5
 a5:=Tryz.isAgg5
 z5:=Tryz.sizeOf5
 v5:=Tryz.zeroValue5
 t9:=Tryz.underlying9
 a9:=Tryz.isAgg9
 z9:=Tryz.sizeOf9
 v9:=Tryz.zeroValue9
 t22:=Tryz.underlying48
 a22:=Tryz.isAgg48
 z22:=Tryz.sizeOf48
 v22:=Tryz.zeroValue48
 t25:=Tryz.underlying150
 a25:=Tryz.isAgg150
 z25:=Tryz.sizeOf150
 v25:=Tryz.zeroValue150
 t39:=Tryz.underlying164
 a39:=Tryz.isAgg164
 z39:=Tryz.sizeOf164
 v39:=Tryz.zeroValue164
 t45:=Tryz.underlying187
 a45:=Tryz.isAgg187
 z45:=Tryz.sizeOf187
 v45:=Tryz.zeroValue187
 t46:=Tryz.underlying188
 a46:=Tryz.isAgg188
 z46:=Tryz.sizeOf188
 v46:=Tryz.zeroValue188
 t50:=Tryz.underlying192
 a50:=Tryz.isAgg192
 z50:=Tryz.sizeOf192
 v50:=Tryz.zeroValue192
 t53:=Tryz.underlying169
 a53:=Tryz.isAgg169
 z53:=Tryz.sizeOf169
 v53:=Tryz.zeroValue169
 t55:=Tryz.underlying144
 a55:=Tryz.isAgg144
 z55:=Tryz.sizeOf144
 v55:=Tryz.zeroValue144
 t66:=Tryz.underlying209
 a66:=Tryz.isAgg209
 z66:=Tryz.sizeOf209
 v66:=Tryz.zeroValue209
 t70:=Tryz.underlying83
 a70:=Tryz.isAgg83
 z70:=Tryz.sizeOf83
 v70:=Tryz.zeroValue83
 t76:=Tryz.underlying221
 a76:=Tryz.isAgg221
 z76:=Tryz.sizeOf221
 v76:=Tryz.zeroValue221
 t77:=Tryz.underlying222
 a77:=Tryz.isAgg222
 z77:=Tryz.sizeOf222
 v77:=Tryz.zeroValue222}
end Go.Proofs
namespace Go.GxZ
open Go.RowKit
def Box(w:World)(b:Nat)(e d c a:Value):Prop:=
 w.cell? ⟨b,0,none⟩=some e/\w.cell? ⟨b,1,none⟩=some d/\w.cell? ⟨b,2,none⟩=some c/\w.cell? ⟨b,3,none⟩=some a
theorem Box.keep{w u:World}{b:Nat}{g f e d:Value}{B:Nat}(h:Box w b g f e d)(c:b<B)(a:Below B w u):Box u b g f e d:=
 ⟨(a.cell c).trans h.1,(a.cell c).trans h.2.1,(a.cell c).trans h.2.2.1,(a.cell c).trans h.2.2.2⟩
theorem qsf(w:World)(d c b a:Value)(t:TypeId):Box (w.alloc (Obj.cells #[d,c,b,a] t)) w.heap.size d c b a:=
 ⟨by rw[World.cell?_alloc_mark];rfl,by rw[World.cell?_alloc_mark];rfl,by rw[World.cell?_alloc_mark];rfl,by rw[World.cell?_alloc_mark];rfl⟩
theorem qGr(w:World)(e d c b:Value)(t:TypeId):
  ∃a,w.alloc (Obj.cells #[e,d,c,b] t)=a/\Below w.heap.size w a/\a.heap.size=w.heap.size+1/\∀u,Below a.heap.size a u->Box u w.heap.size e d c b:=
 ⟨_,rfl,(Below.refl _ _).alloc (wa _) _,by simp,λ _ f=>(qsf w e d c b t).keep (by simp) f⟩
theorem qC8(w:World)(d c b a f y1 y2 y3:Value)(t g:TypeId):
  ∃e,(w.alloc (Obj.cells #[d,c,b,a] t)).alloc (Obj.cells #[f,y1,y2,y3] g)=e/\Below w.heap.size w e/\e.heap.size=w.heap.size+2/\
   ∀u,Below e.heap.size e u->Box u w.heap.size d c b a/\Box u (w.heap.size+1) f y1 y2 y3:=by
 refine⟨_,rfl,((Below.refl _ _).alloc (wa _) _).alloc (by simp) _,by simp,λ u h=>⟨?_,?_⟩⟩
 .exact((qsf w d c b a t).keep (B:=w.heap.size+1) (by omega) (((Below.refl _ _).alloc (by simp) _))).keep (by simp;omega) h
 .have:=qsf (w.alloc (Obj.cells #[d,c,b,a] t)) f y1 y2 y3 g;rw[show(w.alloc (Obj.cells #[d,c,b,a] t)).heap.size=w.heap.size+1 by simp]at this;exact this.keep (by simp) h
theorem qs5(w:World)(b:Nat)(n y1 y2 y3 m l g f:Value)(h:Box w b n y1 y2 y3):
  ∃w',(((w.setCell ⟨b,0,none⟩ m).setCell ⟨b,1,none⟩ l).setCell ⟨b,2,none⟩ g).setCell ⟨b,3,none⟩ f=w'/\Box w' b m l g f/\(∀B,B<=b->∀w0,Below B w0 w->Below B w0 w')/\
   w'.heap.size=w.heap.size/\(∀k,k≠b->w'.heap[k]?=w.heap[k]?)/\(∀a,w'.frozen? a=w.frozen? a):=by
 let⟨r,q,p,o⟩:=h;have c:∀i j:Nat,i≠j->(⟨b,i,none⟩:Addr)≠⟨b,j,none⟩:=λ i j h k=>h (by cases k;rfl);refine⟨_,rfl,⟨?_,?_,?_,?_⟩,λ B e w0 h=>(((h.setCell e _).setCell e _).setCell e _).setCell e _,by simp,λ k d=>?_,λ a=>by simp⟩
 .rw[World.cell?_setCell_other _ _ _ _ (c 3 0 (by decide)),World.cell?_setCell_other _ _ _ _ (c 2 0 (by decide)),World.cell?_setCell_other _ _ _ _ (c 1 0 (by decide))];exact World.cell?_setCell_same _ _ _ r
 .rw[World.cell?_setCell_other _ _ _ _ (c 3 1 (by decide)),World.cell?_setCell_other _ _ _ _ (c 2 1 (by decide))];refine World.cell?_setCell_same _ _ _ (u:=y1) ?_;rw[World.cell?_setCell_other _ _ _ _ (c 0 1 (by decide))];exact q
 .rw[World.cell?_setCell_other _ _ _ _ (c 3 2 (by decide))];refine World.cell?_setCell_same _ _ _ (u:=y2) ?_;rw[World.cell?_setCell_other _ _ _ _ (c 1 2 (by decide)),World.cell?_setCell_other _ _ _ _ (c 0 2 (by decide))];exact p
 .refine World.cell?_setCell_same _ _ _ (u:=y3) ?_;rw[World.cell?_setCell_other _ _ _ _ (c 2 3 (by decide)),World.cell?_setCell_other _ _ _ _ (c 1 3 (by decide)),World.cell?_setCell_other _ _ _ _ (c 0 3 (by decide))];exact o
 .rw[Below.heap_setCell _ _ _ _ d,Below.heap_setCell _ _ _ _ d,Below.heap_setCell _ _ _ _ d,Below.heap_setCell _ _ _ _ d]
theorem Box.same{w u:World}{b:Nat}{g f e d:Value}(h:Box w b g f e d)(c:u.heap[b]?=w.heap[b]?):Box u b g f e d:=
 ⟨(World.cell?_of_block (w:=w) (a:=⟨b,0,none⟩) c).trans h.1,(World.cell?_of_block (w:=w) (a:=⟨b,1,none⟩) c).trans h.2.1,(World.cell?_of_block (w:=w) (a:=⟨b,2,none⟩) c).trans h.2.2.1,(World.cell?_of_block (w:=w) (a:=⟨b,3,none⟩) c).trans h.2.2.2⟩
end Go.GxZ
namespace Go.Proofs.YtinbdcelmgfniaaGreatDoor
open Go Go.RowKit Go.GxZ Go.AmZ Go.Lib
theorem qxs:qiX Tryz.prog .term 23 25 56:=⟨by
 have h:(match zJ Tryz.prog 23 with|some ⟨_,_,_,_,.slice e k b z⟩=>Nat.beq e 25&&(Nat.beq k 4&&(Nat.beq b 56&&Nat.beq z.length 4))|_=>false)=true:=by kernel_rfl
 split at h
 .rename_i l j i g e k b z m;simp only[wb]at h;let⟨f,d,c,a⟩:=h;have f:=wg f;have d:=wg d;have c:=wg c;have a:=wg a;subst f;subst d;subst c;exact⟨l,j,i,g,z,m,a⟩
 .cases h⟩
theorem qzo{F:Val RD->Option qf5}{k:Nat}{b:Val RD}{r:(Val RD×Unit)×(T×Unit)}(h:qqY F k b=some r):∃a nk nm sk lf,F b=some ((a,()),((nk,nm,sk,[],lf,()),()))/\qpv F k [(T.mk nk nm sk [],lf)] a=some r:=by
 unfold qqY at h;cases c:qfn F b with
 |none=>rw[c]at h;cases h
 |some x=>
   let⟨a,nk,nm,sk,lf⟩:=x;rw[c]at h;exact⟨a,nk,nm,sk,lf,qnP c,h⟩
def qB1(a:Gh)(w0:World)(b:Val RD)(t:T)(e:Ending)(w':World):Prop:=∃(us:List Value) (Γ:Gh) (σ:St),e=.returned (.agg us.toArray)/\RS a w0 b Γ σ w'/\RepL Γ (qd .term t) us/\∀u∈us,u.oneCell'=true
theorem qBf:(Tryz.prog.info? 79).map (λ i=>(i.zero,i.size,i.bytes))=some (some (.agg #[.int .i64 0,.string ⟨#[]⟩,.int .i64 0,.slice none 0 0,.int .i64 0]),5,64):=by kernel_rfl
set_option maxHeartbeats 4000000 in
set_option maxRecDepth 1000000 in
theorem qAq{F:Val RD->Option qf5}(hF:qw Tryz.prog 67 (sgP (qjD F))){k:Nat}{Γ0:Gh}{σ0:St}{w0:World}{rd rd':Val RD}{t:T}(h0:Inv Γ0 σ0 w0)(hb : σ0.bx=[qd RD rd])(hr : σ0.rw=[])(hf:qqY F k rd=some ((rd',()),(t,()))) :
  Calls Tryz.prog 35 #[.pointer (some ⟨Γ0.β 0,0,none⟩)] w0 (qB1 Γ0 w0 rd' t):=by
 have HF:=Lib.hid hF;have hS:RS Γ0 w0 rd Γ0 σ0 w0:=⟨.refl _ _,h0,hb⟩
 have HS:=Lib.hid hS;have HR:=Lib.hid hr;have HQ:=Lib.hid hf;clear hF hS hr hf h0 hb;generalize hβ : Γ0.β 0 = β;have Hβ := Lib.hid hβ;clear hβ
 go_enter Tryz.func35,Tryz.ntmps35
 obtain⟨rd1,nk,nm,sk,lf,hf1,hl1⟩:=qzo HQ.out
 have hc1:∀ o:Obj,Calls Tryz.prog 67 #[.pointer (some ⟨β,0,none⟩)] (w0.alloc o) λ e w'=>∃ Γ' σ' ku,e = .returned (.agg #[.int .i64 nk,.string ⟨nm.toArray⟩,.int .i64 sk,ku,.int .i64 lf])/\Ext Γ0 (w0.alloc o) Γ' w'/\RS Γ0 w0 rd1 Γ' σ' w' /\ σ'.rw = σ0.rw++[⟨4,[],0,0,false⟩]/\Rep Γ' (.rs σ0.rw.length 0 0 0 false) ku := λ o=>by
  rw[<- Hβ.out];exact qqk HF.out hf1 (HS.out.alloc o)
 have HC1:=Lib.hid hc1;have HL1:=Lib.hid hl1;clear hc1 hl1 hf1
 go_wp2_with (go_at_call 67;refine(HC1.out _).mono ?_;rintro e w1 ⟨Γ1,σ1,ku,rfl,hx1,hS1,hrw1,hku1⟩)
 have hR1 : σ1.rw[σ0.rw.length]?=some ⟨4,[],0,0,false⟩:=by rw[hrw1];simp
 have hsz1:w0.heap.size+1<=w1.heap.size:=by have:=hx1.size;simpa using this
 have hres0:qas Γ0 (w0.alloc (Obj.cells #[.int .i64 0,.string ⟨#[]⟩,.int .i64 0,.slice none 0 0] 25)) w0.heap.size 25 :=
  ⟨qbC.new HS.out.i (wa _),by simp,heap_alloc_new w0 _⟩
 have hres1:=hres0.ext hx1;obtain⟨hS2,hK2⟩:=qEy (N:=79) (B:=w0.heap.size) hS1 (by omega) (nk:=nk) (sk:=sk) (nm:=nm) (lf:=lf) hR1 hku1;have hres2:qas Γ1 (w1.alloc (Obj.cells #[.int .i64 nk,.string ⟨nm.toArray⟩,.int .i64 sk,ku,.int .i64 lf] 79)) w0.heap.size 25:=hres1.same (by simp) (Below.heap_alloc _ _ _ hres1.2.1);have hbet:∀{Γ : Gh},Le Γ0 Γ -> Γ.β 0 = β := λ h=>(h.β 0 (by rw[HS.out.i.nb,HS.out.bx];exact vO)).trans Hβ.out;have HBET:Hid (∀{Γ : Gh},Le Γ0 Γ -> Γ.β 0 = β):=@hbet;have HS2:=Lib.hid hS2;have HK2:=Lib.hid hK2;have HRES2:=Lib.hid hres2;have HSZ1:=Lib.hid hsz1;clear hR1 hres0 hres1 hS2 hK2 hres2 hx1 hS1 hrw1 hku1 hbet hsz1 HC1
 go_loopg [3] k (λ g1 v3 wr=>∃(st:List (T × Int)) (ids:List Nat) (g cap:Nat) (cs:List Value) (Γ : Gh) (σ : St) (rdx:Val RD),v3 = .slice (some ⟨g,0,none⟩) (st.length:Nat) cap/\Hid (RS Γ0 w0 rdx Γ σ wr)/\Hid (Stk w0.heap.size 79 Γ σ wr st ids g cap cs)/\Hid (qas Γ wr w0.heap.size 25/\w0.heap.size≠g)/\Hid (qpv F g1 st rdx=some ((rd',()),(t,()))))
 case atStart=>exact⟨_,_,_,_,_,_,_,_,rfl,HS2.out,HK2.out,⟨HRES2.out,by have:=HSZ1.out;omega⟩,HL1.out⟩
 case round =>
  obtain⟨st,ids,g,cap,cs,Γ,σ,rdx,rfl,HSr,HKr,HRr,HLr⟩:=hrel;clear HS2 HK2 HRES2 HL1 HSZ1
  obtain⟨m,hm⟩:∃ m,gk=m+1:=by
   cases gk with
   | zero=>exact absurd HLr.out (by intro h;cases h)
   | succ m=>exact⟨m,rfl⟩
  have HLm:Hid (qpv F (m+1) st rdx=some ((rd',()),(t,()))):=by rw[<- hm];exact HLr
  clear HLr;obtain⟨hw0,hw1,hw2⟩:=HSr.out.box;rw[HBET.out HSr.out.x.le]at hw0 hw1 hw2;clear hw0 hw1;rcases qzt (show qui F (qpv F m) st rdx=some ((rd',()),(t,()))from HLm.out)with⟨hw,he⟩ | ⟨hw,p,top,lt,hlen,hp,hcase⟩
  ·rw[hw]at hw2;cases he;obtain⟨r0,r1,r2,r3,rf⟩:=HRr.out.1.cells;have RF:=Lib.hid rf;have f0:=rf 0;have f1:=rf 1;have f2:=rf 2;have f3:=rf 3;clear rf
   go_wp2_with fail
   obtain⟨w9,hw9,⟨b0,b1,b2,b3⟩,_⟩:=qs5 wr w0.heap.size _ _ _ _ (.int .i64 0) (.string ⟨#[]⟩) (.int .i64 0) (.slice none 0 0) ⟨r0,r1,r2,r3⟩;have hS9:=HSr.out.put4 HRr.out.1.1 (wa _) (.int .i64 0) (.string ⟨#[]⟩) (.int .i64 0) (.slice none 0 0);rw[hw9]at hS9 |-
   refine bodyPost_ret (v := .agg #[.int .i64 0,.string ⟨#[]⟩,.int .i64 0,.slice none 0 0]) (by simp[results,Tryz.results35,go_sem,b0,b1,b2,b3]) rfl ?_;exact⟨_,Γ,σ,rfl,hS9,qdS (t := .mk 0 [] 0 []) qwo,qjC rfl⟩
  ·rw[hw]at hw2;obtain⟨r,hr,NC⟩:=HKr.out.at hp;have hcap:=qEi HKr.out.own;have hpm:p+1<=maxLen:=by omega
   unfold maxLen at hpm;have hwp:IntKind.i64.wrap (((p+1:Nat):Int)-1)=(p:Int):=by rw[IntKind.wrap_i64];omega
   obtain⟨Rp,kp,z1,z2,z3,z4,z5,z6,a0,a1,a2,a3,a4⟩:=NC;obtain⟨c4,f4⟩:=HKr.out.cell a4;have hz:(p:Int)<((p+1:Nat):Int):=by omega
   rcases hcase with⟨hlt,hroom,rd1,nk1,nm1,sk1,lf1,hf1,hih⟩ | ⟨hlt,hend⟩
   ·clear z1 z2 z3 z4 z5 z6 a0 a1 a2 a3;rw[hlen]
    go_upto_region 6 with(fail)
    have hwr:iw .i64 (qbN lt 1)=wrap64 (lt-1):=by show IntKind.i64.wrap (lt-1)=_;rw[IntKind.wrap_i64];unfold wrap64;rfl
    rw[hwr]at hih;have hS2:=HSr.out.set HKr.out.priv (qah HKr.out.own).1 (p*5+4) (.int .i64 (wrap64 (lt-1)));have hK2:=HKr.out.left hp (wrap64 (lt-1));have hR2:qas Γ (wr.setCell ⟨g,p*5+4,none⟩ (.int .i64 (wrap64 (lt-1)))) w0.heap.size 25:=HRr.out.1.same (by simp) (Below.heap_setCell _ _ _ _ HRr.out.2);have hc:=qqk HF.out hf1 hS2;rw[HBET.out HSr.out.x.le]at hc;generalize wr.setCell ⟨g,p*5+4,none⟩ (.int .i64 (wrap64 (lt-1)))=w2 at *;have HC:=Lib.hid hc;have HK2:=Lib.hid hK2;have HR2:=Lib.hid hR2;have HIH:=Lib.hid hih;have HRM:=Lib.hid hroom;have HLEN:=Lib.hid hlen;have HNG:=Lib.hid HRr.out.2;clear hc hK2 hR2 hih hroom hS2 HSr HKr HRr hlen hcap hwp hz c4 f4 a4 hr hp hf1 hw2 hwr;obtain⟨i0,hi,hz0,hz1,hz2⟩:=info_parts qBf
    go_wp2_with (first
     | (go_at_call 67;refine HC.out.mono ?_;rintro e w3 ⟨Γ3,σ3,ku3,rfl,hx3,hS3,hrw3,hku3⟩
        have hK3:=HK2.out.later hx3 (σ' := σ3) (λ r _ R h=>by rw[hrw3,List.getElem?_append_left (getElem?_lt h)];exact h);have hR3:=HR2.out.ext hx3;have hnid : σ.rw.length ∉ ids:=HK2.out.id_lt;have hlen2:(st.set p (top,wrap64 (lt-1))).length=p+1:=by rw[wE];exact HLEN.out
        obtain⟨v4,w4,hrun4,g4,cap4,hv4,hS4,hK4,hsz4,hbl4,hg4⟩:=qBD Tryz.underlying81 hi hz0 hz1 hz2 rfl hS3 hK3 (wa _) (nk:=nk1) (nm:=nm1) (sk:=sk1) (lf:=lf1) (r := σ.rw.length) (by rw[hrw3];simp) hku3 hnid (by rw[hlen2];exact HRM.out) 81;have hR4:qas Γ3 w4 w0.heap.size 25:=hR3.same hsz4 (hbl4 _ hR3.2.1 HNG.out);have hng4:w0.heap.size≠g4:=by rcases hg4 with rfl | h;exact HNG.out;have:=hR3.2.1;omega
        rw[hlen2]at hrun4 hv4;subst hv4;have HS4:=Lib.hid hS4;have HK4:=Lib.hid hK4;have HR4:=Lib.hid hR4;have HNG4:=Lib.hid hng4;have HRUN:=Lib.hid hrun4;clear hx3 hS3 hrw3 hku3 hK3 hR3 hnid hlen2 hrun4 hS4 hK4 hsz4 hbl4 hg4 hR4 hng4)
     | (at_builtin;refine qrs _ _ _ rfl rfl rfl rfl HRUN.out ?_))
    go_roundg m
    case measure=>omega
    case rel=>exact⟨_,_,g4,cap4,_,Γ3,σ3,rd1,by rw[wd,wE,HLEN.out];rfl,HS4.out,HK4.out,⟨HR4.out,HNG4.out⟩,HIH.out⟩
   ·obtain⟨c0,f0⟩:=HKr.out.cell a0;obtain⟨c1,f1⟩:=HKr.out.cell a1;obtain⟨c2,f2⟩:=HKr.out.cell a2;obtain⟨c3,f3⟩:=HKr.out.cell a3;have hgl:=(qah HKr.out.own).2;have hbl:w0.heap.size<wr.heap.size:=HRr.out.1.2.1;have NC:qe1 Γ σ cs p top lt r:=⟨Rp,kp,z1,z2,z3,z4,z5,z6,a0,a1,a2,a3,a4⟩
    have hk1:=z6.one rfl;obtain⟨pa,kn,kc,rfl⟩:∃ pa kn kc,kp = .slice pa kn kc:=by cases z6;exact⟨_,_,_,rfl⟩
    clear z1 z2 z3 z4 z5 z6 a0 a1 a2 f0 f1 f2 f3 f4;rcases hend with⟨rfl,he⟩ | ⟨q,par,n,rfl,hq,hroom,hih⟩
    ·cases he;rw[hlen];have hR5:∀ o:Obj,qas Γ (wr.alloc o) w0.heap.size 25 := λ o=>HRr.out.1.same (by simp) (Below.heap_alloc _ _ _ hbl);obtain⟨r0,r1,r2,r3,rf⟩:=HRr.out.1.cells;have f0:=rf 0;have f1:=rf 1;have f2:=rf 2;have f3:=rf 3;clear rf;have HNC:=Lib.hid NC;have HR5:=Lib.hid hR5;have HLT:=Lib.hid hlt;have HK1:=Lib.hid hk1;clear NC hR5 hk1
     go_wp2_with fail
     obtain⟨w9,hw9,⟨b0,b1,b2,b3⟩,_,hsz9,_⟩:=qs5 wr w0.heap.size _ _ _ _ (.int .i64 t.kind) (.string ⟨t.name.toArray⟩) (.int .i64 t.sort) (.slice pa kn kc) ⟨r0,r1,r2,r3⟩;have hS9:=HSr.out.put4 HRr.out.1.1 (wa _) (.int .i64 t.kind) (.string ⟨t.name.toArray⟩) (.int .i64 t.sort) (.slice pa kn kc);rw[hw9]at hS9 |-
     have hl9:w0.heap.size<w9.heap.size:=by rw[hsz9];exact hbl
     refine bodyPost_ret (v := .agg #[.int .i64 t.kind,.string ⟨t.name.toArray⟩,.int .i64 t.sort,.slice pa kn kc]) (by simp[results,Tryz.results35,go_sem,b0,b1,b2,b3,hl9]) rfl ?_;have hS10:=hS9.alloc (.cells #[.int .i64 t.kind,.string ⟨t.name.toArray⟩,.int .i64 t.sort,.slice pa kn kc] 25);obtain⟨Γ1,σ9,kx,y1,y2,y3,y4,y5,y6,y7⟩:=qwi hS10.i HNC.out;obtain⟨_,kx',_,_,_,_,_,_,_,_,_,y8,_⟩:=HNC.out;have hcs:cs[0*5+3]?=some (.slice pa kn kc):=a3;rw[hcs]at y5;cases y5;exact⟨[.int .i64 t.kind,.string ⟨t.name.toArray⟩,.int .i64 t.sort,.slice pa kn kc],Γ1,σ9,rfl,⟨hS10.x.trans y3,y4,y1.trans hS10.bx⟩,qdS y6,qjC rfl⟩
    ·rw[hlen];have HNC:=Lib.hid NC;have HK1:=Lib.hid hk1;have HIH:=Lib.hid hih;have HRM:=Lib.hid hroom;have HQ2:=Lib.hid hq;have HP:=Lib.hid hp;have hqm:q+1+1<=2 ^ 63-1:=hpm;have hz2:¬ ((q:Int)+1=0):=by omega
     clear NC hk1 hih hroom hq HQ
     go_upto_region 11 with(fail)
     obtain⟨w5,hw5,hb5,hs5,hbx5⟩:=qGr wr (.int .i64 top.kind) (.string ⟨top.name.toArray⟩) (.int .i64 top.sort) (.slice pa kn kc) 25;have hS5:=HSr.out.alloc (.cells #[.int .i64 top.kind,.string ⟨top.name.toArray⟩,.int .i64 top.sort,.slice pa kn kc] 25);have hK5:=HKr.out.grown (World.grownBy_alloc wr (.cells #[.int .i64 top.kind,.string ⟨top.name.toArray⟩,.int .i64 top.sort,.slice pa kn kc] 25) none) (λ e=>by cases e);have hR5:qas Γ (wr.alloc (.cells #[.int .i64 top.kind,.string ⟨top.name.toArray⟩,.int .i64 top.sort,.slice pa kn kc] 25)) w0.heap.size 25:=HRr.out.1.same (by simp) (Below.heap_alloc _ _ _ hbl);rw[hw5]at hS5 hK5 hR5 |-
     have g5:=hbx5 _ (Below.refl _ _);have HS5:=Lib.hid hS5;have HK5:=Lib.hid hK5;have HR5:=Lib.hid hR5;have G5:=Lib.hid g5;have HNG:=Lib.hid HRr.out.2;have HA3:=Lib.hid a3;have HSZ5:=Lib.hid hs5;clear hbx5 hw5 hb5 hS5 hK5 hR5 g5 HSr HKr HRr c0 c1 c2 c3 c4 a4 a3 hw2 hgl hbl hs5 hlen hp hcap hwp hr
     have key:∀ bv:Value,RS Γ0 w0 rdx Γ σ (w5.alloc (.cells #[bv] 4)).drew/\Stk w0.heap.size 79 Γ σ (w5.alloc (.cells #[bv] 4)).drew st ids g cap cs/\qas Γ (w5.alloc (.cells #[bv] 4)).drew w0.heap.size 25/\Box (w5.alloc (.cells #[bv] 4)).drew wr.heap.size (.int .i64 top.kind) (.string ⟨top.name.toArray⟩) (.int .i64 top.sort) (.slice pa kn kc) := λ bv =>
      ⟨(HS5.out.alloc _).drew',(HK5.out.grown (World.grownBy_alloc w5 (.cells #[bv] 4) none) (λ e=>by cases e)).drew,(HR5.out.same (by simp) (Below.heap_alloc _ _ _ HR5.out.2.1)).drew,G5.out.same (Below.heap_alloc _ _ _ (by have:=HSZ5.out;omega))⟩
     have KEY:=Lib.hid key;clear key
     go_region
     ·obtain⟨w6,hw6⟩:∃ w6,(w5.alloc (.cells #[.bool false] 4)).drew=w6:=⟨_,rfl⟩
      obtain⟨k1,k2,k3,k4⟩:=KEY.out (.bool false);rw[hw6]at k1 k2 k3 k4 |-
      have HS6:=Lib.hid k1;have HK6:=Lib.hid k2;have HR6:=Lib.hid k3;have G6:=Lib.hid k4;clear KEY hw6 k1 k2 k3 k4 HS5 HK5 HR5 G5 HSZ5
      go_upto_region 14 with(fail)
      obtain⟨Γ7,σ7,kx,b4,hS7,hK7,hx7,hx6⟩:=qx1 HS6.out.drew' HK6.out.drew HP.out;rw[HA3.out]at b4;cases b4;have hql:q<st.length:=getElem?_lt HQ2.out;obtain⟨kq,rq,b0,_,_,v8,w8,hrun,⟨pa8,kc8,hv8⟩,Γ8,σ8,hx8,hS8,hK8⟩:=qxH qxs hS7 hK7 (wa _) (q:=q) (t:=par) (n:=n) (by rw[List.getElem?_take,if_pos (by omega)];exact HQ2.out) hx7 HRM.out 25 23;rw[xy,kh (by omega)]at hK8;subst hv8;obtain⟨c6,f6⟩:=hK7.cell b0;obtain⟨c0,c1,c2,c3⟩:=G6.out;have c7:∀ o:Obj,(w6.alloc o).cell? ⟨g,q*5+3,none⟩=some kq := λ o=>(World.cell?_alloc_lt _ _ _ (by show g<_;exact(qah HK6.out.own).2)).trans c6;have hbk:=(hK7.priv.ext hx8 (by exact(qah HK6.out.own).2)).2;have c8:w8.cell? ⟨g,q*5+3,none⟩=some kq:=(World.cell?_of_block (w:=w6) (a:=⟨g,q*5+3,none⟩) hbk).trans c6;have f8:w8.frozen? ⟨g,q*5+3,none⟩=false:=(World.frozen?_of_block (w:=w6) (a:=⟨g,q*5+3,none⟩) hbk).trans f6;have HR8:=Lib.hid ((HR6.out.drew.ext hx6).ext hx8);have HS8:=Lib.hid hS8;have HK8:=Lib.hid hK8;have hrun:(Builtin.append_ #[23,23] 23 #[kq,.slice (some ⟨w6.heap.size,0,none⟩) 1 1]).run Tryz.prog (w6.alloc (.cells #[.int .i64 top.kind,.string ⟨top.name.toArray⟩,.int .i64 top.sort,.slice pa kn kc] 25)).drew = .ok (.slice pa8 (par.kids.length+1) kc8) w8:=hrun;have HRUN:=Lib.hid hrun;have hl9:(st.take q++[(T.mk par.kind par.name par.sort (par.kids++[top]),n)]).length=q+1:=by rw[wd,wu];simp;omega
      have HL9:=Lib.hid hl9;clear hx8 hS8 hK8 hrun b0 hbk HS6 HK6 HR6 G6 hS7 hK7 hx7 hx6 hl9 hql;have hwq:IntKind.i64.wrap (q:Int)=(q:Int):=by rw[IntKind.wrap_i64];omega
      have hqz:(q:Int)<(q:Int)+1:=by omega
      go_region_law (first | (refine qiV rfl _ _ _ rfl rfl rfl HRUN.out ?_))
      all_goals
       go_wp2_with fail
       go_roundg m
       case measure=>omega
       case rel=>exact⟨_,_,g,cap,_,Γ8,σ8,rdx,by rw[HL9.out],HS8.out,HK8.out,⟨HR8.out.same (by simp) (Below.heap_setCell _ _ _ _ HNG.out),HNG.out⟩,HIH.out⟩
     ·obtain⟨w6,hw6⟩:∃ w6,(w5.alloc (.cells #[.bool true] 4)).drew=w6:=⟨_,rfl⟩
      obtain⟨k1,k2,k3,k4⟩:=KEY.out (.bool true);rw[hw6]at k1 k2 k3 k4 |-
      have HS6:=Lib.hid k1;have HK6:=Lib.hid k2;have HR6:=Lib.hid k3;have G6:=Lib.hid k4;clear KEY hw6 k1 k2 k3 k4 HS5 HK5 HR5 G5 HSZ5
      go_upto_region 12 with(fail)
      obtain⟨Γ7,σ7,kx,b4,hS7,hK7,hx7,hx6⟩:=qx1 HS6.out.drew' HK6.out.drew HP.out;rw[HA3.out]at b4;cases b4;have hql:q<st.length:=getElem?_lt HQ2.out;obtain⟨kq,rq,b0,_,⟨pa7,kc7,rfl⟩,v8,w8,hrun,⟨pa8,kc8,hv8⟩,Γ8,σ8,hx8,hS8,hK8⟩:=qxH qxs hS7 hK7 (wa _) (q:=q) (t:=par) (n:=n) (x := .mk 0 [] 0 []) (by rw[List.getElem?_take,if_pos (by omega)];exact HQ2.out) qwo HRM.out 25 23;rw[xy,kh (by omega)]at hK8;subst hv8;obtain⟨c6,f6⟩:=hK7.cell b0;obtain⟨c0,c1,c2,c3⟩:=G6.out;have c7:∀ o:Obj,(w6.alloc o).cell? ⟨g,q*5+3,none⟩=some (.slice pa7 par.kids.length kc7) := λ o=>(World.cell?_alloc_lt _ _ _ (by show g<_;exact(qah HK6.out.own).2)).trans c6;have hwl:wr.heap.size<w6.heap.size:=qnm c0;have hbk:=(hK7.priv.ext hx8 (by exact(qah HK6.out.own).2)).2;have c8:w8.cell? ⟨g,q*5+3,none⟩=some (.slice pa7 par.kids.length kc7):=(World.cell?_of_block (w:=w6) (a:=⟨g,q*5+3,none⟩) hbk).trans c6;have f8:w8.frozen? ⟨g,q*5+3,none⟩=false:=(World.frozen?_of_block (w:=w6) (a:=⟨g,q*5+3,none⟩) hbk).trans f6;have hR8:qas Γ8 (w8.setCell ⟨g,q*5+3,none⟩ (.slice pa8 (par.kids.length+1) kc8)) w0.heap.size 25:=((HR6.out.drew.ext hx6).ext hx8).same (by simp) (Below.heap_setCell _ _ _ _ HNG.out);have hl9:(st.take q).length=q:=by rw[wu];omega
      obtain⟨b,kc9,y1,y2,y3,y4,y5,Γ9,σ9,hx9,hS9,hK9⟩:=qEs hS8 hK8 (q:=q) (ks:=par.kids) (z := .mk 0 [] 0 []) (x:=top) (n:=n) (by rw[List.getElem?_append_right (by omega),hl9,kP];rfl) rfl (hx7.mono hx8.le)
      have y6:pa8=some ⟨b,0,none⟩/\kc8=kc9:=by
       rw[List.getElem?_take,if_pos (by omega),List.getElem?_set_self (by rw[hK7.own.1,wu];omega)]at y1;cases y1;exact⟨rfl,rfl⟩
      obtain⟨rfl,rfl⟩:=y6;obtain⟨u0,d0⟩:=y4 0 (by decide);obtain⟨u1,d1⟩:=y4 1 (by decide);obtain⟨u2,d2⟩:=y4 2 (by decide);obtain⟨u3,d3⟩:=y4 3 (by decide);have g0:=y5 (par.kids.length*4);have g1:=y5 (par.kids.length*4+1);have g2:=y5 (par.kids.length*4+2);have g3:=y5 (par.kids.length*4+3);have hres:b≠w0.heap.size := λ e=>hR8.1.own (e▸y3);have hR9:=(hR8.ext hx9)
      have hrun:(Builtin.append_ #[23,23] 23 #[.slice pa7 par.kids.length kc7,.slice (some ⟨w6.heap.size,0,none⟩) 1 1]).run Tryz.prog (w6.alloc (.cells #[.int .i64 0,.string ⟨#[]⟩,.int .i64 0,.slice none 0 0] 25)).drew = .ok (.slice (some ⟨b,0,none⟩) (par.kids.length+1) kc8) w8:=hrun;obtain⟨w9,hw9⟩:∃ w9,w8.setCell ⟨g,q*5+3,none⟩ (.slice (some ⟨b,0,none⟩) (par.kids.length+1) kc8)=w9:=⟨_,rfl⟩
      rw[hw9]at hS9 hK9 hR9 d0 d1 d2 d3 g0 g1 g2 g3;rw[wL]at d0
      have hl10:((st.take q++[(T.mk par.kind par.name par.sort (par.kids++[T.mk 0 [] 0 []]),n)]).set q (T.mk par.kind par.name par.sort (par.kids++[top]),n))=st.take q++[(T.mk par.kind par.name par.sort (par.kids++[top]),n)]:=by
       rw[List.set_append_right _ _ (by omega),hl9,kP];rfl
      have hK9:Stk w0.heap.size 79 Γ9 σ9 _ ((st.take q++[(T.mk par.kind par.name par.sort (par.kids++[T.mk 0 [] 0 []]),n)]).set q (T.mk par.kind par.name par.sort (par.kids++[top]),n)) _ g cap _:=hK9;rw[hl10]at hK9;have hl11:(st.take q++[(T.mk par.kind par.name par.sort (par.kids++[top]),n)]).length=q+1:=by rw[wd,hl9];rfl
      have HL11:=Lib.hid hl11;have HS9:=Lib.hid hS9;have HK9:=Lib.hid hK9;have HR9:=Lib.hid hR9;have HRUN:=Lib.hid hrun;have HW9:=Lib.hid hw9;have hwq:IntKind.i64.wrap (q:Int)=(q:Int):=by rw[IntKind.wrap_i64];omega
      have hqz:(q:Int)<(q:Int)+1:=by omega
      have hnz:(par.kids.length:Int)<(par.kids.length:Int)+1:=by omega
      clear hx8 hS8 hK8 hrun b0 hbk HS6 HK6 HR6 G6 hS7 hK7 hx7 hx6 hl9 hql hR8 hx9 hS9 hK9 hR9 hw9 hl10 hl11 y1 y2 y3 y4 y5 hres
      go_region_law (first | (refine qiV rfl _ _ _ rfl rfl rfl HRUN.out ?_))
      all_goals
       rw[HW9.out]
       go_wp2_with fail
       go_roundg m
       case measure=>omega
       case rel=>exact⟨_,_,g,cap,_,Γ9,σ9,rdx,by rw[HL11.out],HS9.out,HK9.out,⟨HR9.out,HNG.out⟩,HIH.out⟩
end Go.Proofs.YtinbdcelmgfniaaGreatDoor
namespace Go.AmZ
open Go Go.RowKit Go.GxZ
theorem qCe{ds:List AV}{e:Val RD}(h:qm RD (ds.take (Ty.size RD))=some e)(j:ds.drop (Ty.size RD)=[]):ds=qd RD e:=by
 have k:ds.take (Ty.size RD)=ds:=kR (List.drop_eq_nil_iff.1 j);rw[k]at h;have h:=qy.1 h;let⟨s,f,w⟩:=e;change qj2 (zF .str) (qj2 (zF (.int .i64)) (zF .bool)) ds=_ at h;unfold qj2 at h;split at h<;>try cases h
 rename_i x r c;split at h<;>cases h;rename_i y d;split at d<;>try cases d
 rename_i l g a;split at d<;>cases d;rename_i b;have c:qav ds=some (s,r):=c;have a:Qg .i64 r=some (f,g):=a;have b:qaE g=some (w,[]):=b;unfold qav at c;split at c<;>cases c;unfold Qg at a;split at a<;>try cases a
 rename_i i;split at a<;>cases a;have i:=of_decide_eq_true (by assumption);subst i;unfold qaE at b;split at b<;>cases b;rfl
theorem qDQ{σ:St}{ys:List AV}{a:jt [.box [.val RD]]}(h:dS σ [.box [.val RD]] 0 0 ys=some a):ys=[.ptr 0 0]/\σ.bx=[qd RD a.1]/\σ.rw=[]:=by
 cases ys with
 |nil=>simp[dS]at h
 |cons y ys=>
   simp only[dS]at h;cases c:qe9 σ [.val RD] 0 0 y with
   |none=>rw[c]at h;cases h
   |some p=>
     let⟨v,n⟩:=p;rw[c]at h;simp only at h;unfold qe9 at c;split at c<;>try cases c
     rename_i j f;have f:=qvh f;subst f;split at c<;>try cases c
     rename_i ds k g;have k:=wg k;subst k;simp only[qcp]at c;split at c<;>try cases c
     rename_i x o;split at c<;>cases c;rename_i d
     have m:ds.drop (Ty.size RD)=[]/\n=0:=by
      cases i:ds.drop (Ty.size RD)with
      |nil=>rw[i]at d;simp[qcp]at d;exact⟨rfl,d.symm⟩
      |cons z s=>rw[i]at d;simp[qcp]at d
     obtain⟨m,rfl⟩:=m;split at h<;>cases h;rename_i l;obtain⟨rfl,r,q⟩:=qgV l;have e:=qCe o m;let⟨b,c⟩:=xI.1 r.symm;refine⟨rfl,?_,we q.symm⟩;rw[c]at g |-
     cases g;rw[e];rfl
end Go.AmZ
namespace Go.Proofs.YtinbdcelmgfniaaGreatDoor
open Go Go.RowKit Go.GxZ Go.AmZ Go.Lib
theorem hand_read{F:Val RD->Option qf5}(q:qw Tryz.prog 67 (sgP (qjD F)))(k:Nat):qw Tryz.prog 35 (sgP ⟨[.box [.val RD]],[.one (.val .term)],λ x=>qqY F k x.1⟩):=by
 refine⟨ji Tryz.func35 (by kernel_rfl),λ Γ σ w l h r i g a=>?_⟩;let⟨B,b,y,m⟩:= σ;unfold sgP at a;split at a<;>try cases a
 rename_i x p;let⟨z,_⟩:=x;obtain⟨rfl,j,c⟩:=qDQ p;have c:b=[]:=c;subst c;split at a<;>cases a;rename_i n d;let⟨⟨o,_⟩,t,_⟩:=n;obtain⟨u0,A,rfl,f,g⟩:=g.uncons;have:=g.nil_inv;subst this;cases f;refine(qAq q i j rfl d).mono ?_;rintro e w' ⟨us,Γ',σ',rfl,v,u,s⟩;exact qzS i (by rw[j];rfl) rfl v u s
end Go.Proofs.YtinbdcelmgfniaaGreatDoor
namespace Go.AmZ
open Go Go.GxZ
set_option linter.unusedVariables false
set_option maxRecDepth 100000
open Go.Proofs.Tryz (func7 func10 func11 func13 func14 func15 func22 func24 func25 func26 func30 func32 func33 func34 func36 func37 func39 func40 func41 func43 func44 func45 func46 func47 func50 func52 func53 func54 func55 func56 func57 func58 func60 func62 func63 func64 func67 func68 func69 func70 func71 func72 func73 func77 func79 func80 func81 func82 func83 func84 func85 func86 func89 func90 func91 func92 func93 func95 func96 func99 func100 func101 func102 func103 func105 func106 func107 func109 func110 func111 func114 func115 func117 func118 func119 func120 func121 func122 func123 func126 func127 func128 func129 func130 func131 func133 func134 func141 func142 func149 func150 func151 func153 func154 func155 func156 func157 func158 func159 func160 func161 func162 func163 func164 func165 func184 func185 func186 func187 func190 func191 func192 func194 func195 func214 func223 func224 func227 func228 func241)
theorem qf4(m:Nat)(h:zp Go.Proofs.Tryz.prog (tb.at m).pc.cfg):qw Go.Proofs.Tryz.prog 35 (sgP ⟨[.box [.val RD]],[.one (.val .term)],λ x=>qaD (m+1) x.1⟩):=Go.Proofs.YtinbdcelmgfniaaGreatDoor.hand_read (F:=qaH m) (h.prim 67 _ (by kernel_rfl)) m
theorem JY(m:Nat)(h:zp Go.Proofs.Tryz.prog (tb.at m).pc.cfg):qw Go.Proofs.Tryz.prog 139 (mgP ⟨.term,[.clo 89 0],λ x=>yw (m+1) x.1⟩):=qtk (τ:=.term) Go.Proofs.Tryz.sortTrm (λ _=>rfl) Go.Proofs.Tryz.isAgg25 Go.Proofs.Tryz.sizeOf25 (qvi (τ:=.term) (ρ:=y1) (qsi h (by kernel_rfl)) (F:=λ x y=>qp m x y) (by kernel_rfl) (λ _=>rfl)) (ji Go.Proofs.Tryz.func139 (by kernel_rfl)) (λ _ _ h=>h)
theorem Jd(m:Nat)(h:zp Go.Proofs.Tryz.prog (tb.at m).pc.cfg):qw Go.Proofs.Tryz.prog 140 (sgP ⟨[.row .term,.clo 141 0],[.one (.row .term)],λ x=>zV (m+1) x.1⟩):=qwk (qvi (τ:=.term) (ρ:=.bool) (qsi h (by kernel_rfl)) (F:=λ x y=>qeI m x y) (by kernel_rfl) (λ _=>rfl)) (λ _ _ h=>qzi h)
theorem QG(m:Nat)(h:zp Go.Proofs.Tryz.prog (tb.at m).pc.cfg):qw Go.Proofs.Tryz.prog 152 (mgP ⟨y3,[.clo 153 0],λ x=>zx (m+1) x.1⟩):=qtk (τ:=y3) Go.Proofs.Tryz.sortBnd (λ _=>rfl) Go.Proofs.Tryz.isAgg76 Go.Proofs.Tryz.sizeOf76 (qvi (τ:=y3) (ρ:=y1) (qsi h (by kernel_rfl)) (F:=λ x y=>qcn m x y) (by kernel_rfl) (λ _=>rfl)) (ji Go.Proofs.Tryz.func152 (by kernel_rfl)) (λ _ _ h=>h)
theorem tb_ok:∀ m,zp Go.Proofs.Tryz.prog (tb.at m).pc.cfg:=Tb.all_ok (by kernel_rfl) qBb (by kernel_rfl) (nP func103 qoH (nP func57 qsl (nP func36 qt4 (nP func24 qwD (nP func14 qmx (nP func11 qmA (nP func10 qr4 (nP func7 qiY trivial trivial) trivial) (nP func13 qtP trivial trivial)) (nP func22 qri (nP func15 qwc trivial trivial) ⟨qbT (m:=0),trivial,trivial⟩)) (nP func32 qvp (nP func26 qj8 (nP func25 qsg trivial trivial) (nP func30 qtA trivial trivial)) (nP func34 qvo (nP func33 qtZ trivial trivial) ⟨⟨qjx (ji Go.Proofs.Tryz.func35 (by kernel_rfl)) λ _=>rfl,λ m h=>qf4 m h⟩,trivial,trivial⟩))) (nP func47 quT (nP func43 qoI (nP func40 qr2 (nP func39 qt3 (nP func37 qp3 trivial trivial) trivial) (nP func41 qsb trivial trivial)) (nP func45 qvA (nP func44 qrc trivial trivial) (nS func46 qnw trivial trivial))) (nP func53 qnN ⟨λ c hc=>qnJ (m:=0) hc,(nP func50 qkF trivial trivial),(nP func52 qpQ trivial trivial)⟩ (nP func55 qrZ (nP func54 qpy trivial trivial) (nS func56 qnB trivial trivial))))) (nS func82 j7 (nP func70 qrT (nP func64 qt1 (nP func62 qv9 (nP func60 qoe (nP func58 qk5 trivial trivial) trivial) (nP func63 qlV trivial trivial)) (nS func68 qtz (nS func67 qhh trivial trivial) (nP func69 qoy trivial trivial))) (nP func77 qr1 (nP func72 qnG ⟨⟨⟨func71,λ _=>rfl,qjn,⟨func71,λ _=>rfl,qiJ,trivial⟩⟩,List.cons_ne_nil _ _⟩,trivial,trivial⟩ (nP func73 qoP trivial trivial)) (nP func80 qqC (nP func79 qqi trivial trivial) (nP func81 qrm trivial trivial)))) (nP func92 qsk (nP func86 qqV (nS func84 qgp (nP func83 qk2 trivial trivial) (nP func85 qfx trivial trivial)) (nP func90 qrP (nP func89 qqr trivial trivial) (nP func91 qrv trivial trivial))) (nP func99 qo2 (nP func95 quW (nP func93 qrx trivial trivial) (nP func96 qtS trivial trivial)) (nS func101 qhg (nS func100 qhf trivial trivial) (nP func102 qrU trivial trivial)))))) ⟨⟨qs3 (ji Go.Proofs.Tryz.func152 (by kernel_rfl)) λ _=>rfl,λ m h=>QG m h⟩,(nP func123 qrO (nP func115 qwh (nS func109 qjS (nP func106 qtK (nP func105 qqq ⟨λ c hc=>qkY (m:=0) hc,trivial,trivial⟩ trivial) (nP func107 qqS trivial trivial)) (nS func111 qqU (nS func110 qhi trivial trivial) (nP func114 qwf trivial trivial))) (nS func119 qlC (nP func117 qty ⟨λ c hc=>qj7 (m:=0) hc,trivial,trivial⟩ (nS func118 qkZ trivial trivial)) (nP func121 qr9 (nP func120 qoU trivial trivial) (nP func122 qtY trivial trivial)))) (nP func134 qrA (nP func129 qrr (nP func127 qnu (nP func126 quY trivial trivial) (nP func128 qzz trivial trivial)) (nP func131 qp0 (nP func130 qo4 trivial trivial) (nP func133 qq7 trivial trivial))) (nP func142 qtM ⟨⟨qjx (ji Go.Proofs.Tryz.func140 (by kernel_rfl)) λ _=>rfl,λ m h=>Jd m h⟩,⟨⟨qs3 (ji Go.Proofs.Tryz.func139 (by kernel_rfl)) λ _=>rfl,λ m h=>JY m h⟩,trivial,trivial⟩,(nP func141 qnE trivial trivial)⟩ (nP func150 qqw (nS func149 qlr trivial trivial) (nS func151 qk1 trivial trivial))))),(nS func187 quE (nP func161 qnI (nP func157 qqT (nP func155 qvd (nP func154 qu6 (nP func153 qjG trivial trivial) trivial) (nP func156 qwS trivial trivial)) (nS func159 qk0 (nP func158 qyR trivial trivial) (nP func160 qnK trivial trivial))) (nP func165 qtE (nP func163 qcv (nP func162 qp1 trivial trivial) (nP func164 qqu trivial trivial)) (nS func185 qiG (nS func184 Jg trivial trivial) ⟨func186,trivial,trivial⟩))) (nS func214 JM (nS func192 qmk (nP func190 qpU ⟨qaT (m:=0),trivial,trivial⟩ (nP func191 qmb trivial trivial)) (nS func194 qma ⟨qco (m:=0),trivial,trivial⟩ (nP func195 qmi trivial trivial))) ⟨qa6 (m:=0),(nP func224 qkp (nP func223 jH trivial trivial) ⟨qa4 (m:=0),trivial,trivial⟩),(nP func228 qjX (nP func227 Q6 trivial trivial) (nP func241 Jv trivial trivial))⟩))⟩)
end Go.AmZ
namespace Go.GxZ
open Go.RowKit Go.ChangeShapes Go.WideShapes Go.ChangeAt
open Go.WideMaps Go.WideElems
section
variable {H:Type}{enc:TypeId×Value->H}{P:Program}
theorem qkK(f:laidOutB P=true){W i:World}(g:Below W.heap.size W i):∀{ts:List TypeId}{vs:List Value}{ds:List (DataW H)}{ps:List MemPlace},
  (∀t∈ts,P.readableRec t=true/\t<P.types.size)->DataW.TrodAll enc P W 0 (λ _=>true) true ts vs ds ps->(∀x∈ps,x.block<W.heap.size)->
  DataW.TrodAll enc P i 0 (λ b=>decide (b<W.heap.size)) true ts vs ds ps
 |[],[],[],_,_,h,_=>h
 |t::ts,v::vs,d::ds,_,e,⟨p,q,m,l,k⟩,a=>by
   subst k;refine⟨p,q,?_,?_,rfl⟩
   .exact Below.trod f (e t (ww ..)).1 (e t (ww ..)).2 m g λ x c=>a x (xS _ c)
   .exact qkK f g (λ t j=>e t (wj _ j)) l λ x c=>a x (xM _ c)
 |[],[],_::_,_,_,h,_|[],_::_,_,_,_,h,_|_::_,[],_,_,_,h,_|_::_,_::_,[],_,_,h,_=>h.elim
theorem qCy{f:Func}{s:ChangeSpec}{b g a:Bool}{W A:World}{d:Array Value}{ds k:List (DataW H)}{c:List MemPlace}{ts:List TypeId}{T:TypeId}
  (E:laidOutB P=true) (m:f.params.toList=ts) (C:ts.all (λ t=>P.readableRec t&&decide (t<P.types.size))=true) (u:s.vars=[])
  (n:f.resultTypes = #[T]) (G:P.underlying T=some .bool)
  (y:DataW.Whole enc P f.params.toList s.vars b W d.toList ds k c)
  (i:(s.fn H (ds++k)).results=[.lit (.bool true)]) (e:(s.fn H (ds++k)).args=ds) (l:(s.fn H (ds++k)).vars=[])
  (w:Below W.heap.size W A):s.post enc P f b g a false W d (.bool true) A:=by
 have j:=y;have o:=λ x B=>j.lt x B;obtain⟨p,q,I,z,rfl,F,D⟩:=y;rw[u]at z;have r:k=[]/\q=[]:=trodVars_none z;obtain⟨rfl,rfl⟩:=r;rw[wA]at *;refine⟨ds,[],p,[],p,[],?_,?_,?_,?_,?_,λ h=>by cases h⟩
 .exact j
 .rw[n,wA,i];exact trodAll_mk1 (shut_bool G _)
 .rw[wA,e];refine qkK E w (ts:=f.params.toList) ?_ I o;intro t v;rw[m]at v;have:=wo.1 C t v;simpa using this
 .rw[wA,l,u];rfl
 .exact w.frame _
end
end Go.GxZ
namespace Go.Proofs.YtinbdcelmgfniaaGreatDoor
theorem Tryz.own:ownKnob Tryz.prog.godebug=none:=by kernel_rfl
theorem Tryz.laidOut:laidOutB Tryz.prog=true:=by kernel_rfl
end Go.Proofs.YtinbdcelmgfniaaGreatDoor
namespace Go.AmZ
open Go Go.GxZ Go.RowKit
theorem qsz:∀(τ:Ty) (v:Val τ),yW τ (zK τ v)=some v:=by
 intro τ v;have h:=yK τ v;cases τ<;>exact h
def quR:List ATy->Bool
 |[]=>true
 |.val _::r=>quR r
 |.fn::_=>false
theorem qlP:∀(ts:List ATy) (a:JQ ts),quR ts=true->qa0 ts (je ts a [])=some a/\qct (je ts a [])=[]
 |[],_,_=>⟨rfl,rfl⟩
 |.val τ::r,a,h=>by
   let⟨d,c⟩:=qlP r a.2 h;constructor
   .show qiL (yW τ) (qa0 r) (zK τ a.1::je r a.2 [])=_;simp only[qiL,qsz,d]
   .show qct (zK τ a.1::je r a.2 [])=[];have:=(qaq (qsz τ a.1)).2;cases b:zK τ a.1<;>first|exact c|exact absurd b (this _ _)
 |.fn::_,_,h=>by cases h
theorem law_calls{P:Program}{f:FuncId}{c:TC}(p:qw P f (jL (ym c f))){ts:List ATy}{fn:JQ ts->Option (qbD [.bool])}(s:c.pf f []=some ⟨ts,[.bool],fn⟩)(n:quR ts=true){a:JQ ts}(h:fn a=some true)
  {W:World} (j:Tab (ghW W) W) {d:List Value} (l:RepL (ghW W) (je ts a []) d):Calls P f d.toArray W λ e w'=>e=.returned (.bool true)/\Below W.heap.size W w':=by
 let⟨w,u⟩:=qlP ts a n
 have o:ym c f (je ts a [])=some (.v (.bool true)):=by
  unfold ym;rw[u,s];simp only;rw[w];simp only;rw[h];rfl
 have m:jL (ym c f) emp (je ts a [])=some (.v (.bool true),none):=by
  show(match ym c f (je ts a [])with|some v=>some (v,none)|none=>none)=_;rw[o]
 have:=p.2 (ghW W) emp W (je ts a []) d _ (qDP j) l m;refine Calls.mono this ?_;rintro e w' ⟨v,Γ',rfl,g,_,k,_⟩;have h:=qK k;subst h;refine⟨rfl,g.os,g.tape,g.output,g.size,λ b t=>g.block b t ?_⟩;rintro(⟨i,q,_⟩|⟨r,l,_⟩)
 .exact absurd q (wD _)
 .exact absurd l (wD _)
theorem qwe{Γ:Gh}{τ:Ty}{x:Val τ}{v:Value}(h:RepL Γ (qd τ x) v.cells.toList)(l:∀u∈v.cells.toList,u.oneCell'=true)(j:τ.agg=true->τ.size≠1)(e:τ.agg=false->∀cs,v≠.agg cs):Rep Γ (zK τ x) v:=by
 have c:=h.len;rw[zj]at c
 have agg:zK τ x=.agg (qd τ x)->τ.agg=true->Rep Γ (zK τ x) v:=by
  intro f g;rw[f];have d:=j g;cases v with
  |agg cs=>exact .agg _ _ h.len l h.rep
  |_=>exact absurd (show τ.size=1 by rw[<-c];rfl) d
 have one:∀{y:AV},qd τ x=[y]->zK τ x=y->τ.agg=false->Rep Γ (zK τ x) v:=by
  intro y f i g
  have k:v.cells = #[v]:=by
   cases v with
   |agg cs=>exact absurd rfl (e g cs)
   |_=>rfl
  rw[f,k]at h;rw[i];exact h.rep 0 y v rfl rfl
 cases τ with
 |term|pair a b|one a=>exact agg rfl rfl
 |_=>exact one rfl rfl rfl
open Go.ChangeShapes Go.WideShapes Go.ChangeAt Go.WideMaps Go.WideElems
theorem qDJ{P:Program}{n:Nat}{τ:Ty}{t:TypeId}{W:World}{qS:Nat}{v:Value}(c:tyM P n τ t=true)(f:Value.okWide P W .any qS t v):τ.agg=false->∀cs,v≠.agg cs:=by
 intro g cs;cases n with
 |zero=>cases τ<;>simp[tyM]at c
 |succ n=>
 cases τ with
 |map a b=>simp[tyM]at c
 |int k=>
   simp only[tyM]at c;split at c
   .rename_i d;obtain⟨_,rfl⟩:=okWide_int d f;intro h;cases h
   .cases c
 |bool=>
   simp only[tyM]at c;split at c
   .rename_i d;obtain⟨_,rfl⟩:=okWide_bool d f;intro h;cases h
   .cases c
 |str=>
   simp only[tyM]at c;split at c
   .rename_i d;obtain⟨_,rfl⟩:=okWide_string d f;intro h;cases h
   .cases c
 |list a=>
   simp only[tyM]at c;split at c
   .rename_i e d;obtain⟨_,_,_,rfl⟩:=okWide_slice d f;intro h;cases h
   .cases c
 |_=>cases g
theorem arg_val{H:Type}{enc:TypeId×Value->H}{P:Program}{W:World}{n:Nat}{τ:Ty}{t:TypeId}{v:Value}{d:DataW H}{ps:List MemPlace}{qS:Nat}(b:tyM P n τ t=true)(f:τ.agg=true->τ.size≠1)(e:Value.okWide P W .any qS t v)
  (h:DataW.Trod enc P W 0 (λ _=>true) true t v d ps) (c:∀k∈d.weights P t,k<=reachBytes):∃x:Val τ,Rep (ghW W) (zK τ x) v/\qg5 τ x:=by
 let⟨a,g⟩:=h;let⟨x,l,j,i⟩:=qBr a n τ t v.cells.toList (d,ps) b g c;exact⟨x,qwe l j f (qDJ b e),i⟩
end Go.AmZ
namespace Go.AmZ
open Go Go.GxZ Go.RowKit
theorem tab_laid {W:World} {L:List (String × DataW Unit)} {x y:String × DataW Unit} (e:L=[x,y,("internal/strconv.uint64pow10",Lib.tabData .u64 Lib.pow10Tab)]) (hp:(L.all λ x=>x.2.handleName?.isNone)=true) (h:laidMetH Go.Proofs.Tryz.prog L W):Tab (ghW W) W:=by
 rw [MakeChecks.laidMetH_plain _ _ _ hp,e] at h;have h2:=Lib.tabIs_of_head (g:=0) (t:=168) (e:=144) (n:=20) (by kernel_rfl) (by kernel_rfl) (by kernel_rfl) (by kernel_rfl) (by kernel_rfl) (by kernel_rfl) h.tail.tail;unfold Lib.TabIs World.var? at h2;rw [show Go.Proofs.Tryz.prog.globalNamed "internal/strconv.uint64pow10" = some 0 by kernel_rfl] at h2;have h2:(match (W.heap[0]? : Option Obj) with | some (Obj.cells cs _ _)=>some cs | _=>none)=some (Lib.pow10Tab.map λ z=>Value.int .u64 z).toArray:=h2;have et:(Lib.pow10Tab.map λ z=>Value.int .u64 z).toArray=qwa:=by unfold qwa Lib.pow10Tab;rw [xc];rfl
 rw [et] at h2;cases hh:W.heap[0]? with
 | none=>rw [hh] at h2;cases h2
 | some o =>
   rw [hh] at h2;cases o with
   | cells cs e fr=>cases h2;exact qEM hh
   | _=>cases h2
end Go.AmZ
