/- Part 5 of what the proofs stand on: plain functions of the program, and that they are its functions. -/
import Derived.Test.YtckmkimhkhilgaaGreatM4
import Derived.KernelRfl
import Derived.Test.YtckmkimhkhilgaaGreatM3
import Derived.SliceStrings
import Derived.SizedLaws
import Derived.Shelf.SlSortCmp.NoneTotal
import Derived.Test.YtckmkimhkhilgaaGreatProg
import Derived.Test.YtckmkimhkhilgaaGreatM2
set_option linter.unusedVariables false
set_option linter.unusedSimpArgs false
noncomputable section
namespace Go.GxZ
def qfN(l:List Pw):Prop:=Asc (l.map (·.1))
def NzP(l:List Pw):Prop:=∀ p∈l,p.2≠0
theorem qfX{p:Pw}{l:List Pw}:qfN (p::l)↔(∀ q∈l,qp p.1 q.1=-1)/\qfN l:=by
 unfold qfN;rw[wm,qaw];simp
theorem qdY{p:Pw}{l:List Pw}:NzP (p::l)↔p.2≠0/\NzP l:=by
 unfold NzP;simp
def QO(l:List Pw):Nat:=(l.map λ p=>p.2.natAbs).sum
theorem qnN:∀(l:List Pw) (t:T) (n:Int) (p:Pw),p∈yz l t n->p.1=t\/p∈l
 | [],t,n,p,h=>by simp[yz]at h;exact .inl (by rw[h])
 | (x,m)::l,t,n,p,h=>by
   rw[yz]at h;split at h
   ·rcases wy.1 h with h | h
    ·exact .inl (by rw[h])
    ·exact .inr h
   ·split at h
    ·rename_i a;split at h
     ·exact .inr (wg _ h)
     ·rcases wy.1 h with h | h
      ·left;rw[h];exact(qar t x a).symm
      ·exact .inr (wg _ h)
    ·rcases wy.1 h with h | h
     ·exact .inr (h▸wh ..)
     ·rcases qnN l t n p h with h | h
      ·exact .inl h
      ·exact .inr (wg _ h)
theorem qy1:∀(l:List Pw) (t:T) (n:Int),qfN l->qfN (yz l t n)
 | [],_,_,_=>vy _ _
 | (x,m)::l,t,n,h=>by
   obtain⟨d,c⟩:=qfX.1 h;rw[yz];have f:=ya.rng t x;split
   ·rename_i b;refine qfX.2 ⟨λ q a=>?_,h⟩;rcases wy.1 a with e | a
    ·rw[e];exact b
    ·exact qeI b (d q a)
   ·split
    ·split
     ·exact c
     ·exact qfX.2 ⟨d,c⟩
    ·refine qfX.2 ⟨λ q a=>?_,qy1 l t n c⟩;rcases qnN l t n q a with e | a
     ·rw[e];exact qva.1 (show qp t x=1 by omega)
     ·exact d q a
theorem qCd:∀(l:List Pw) (t:T) (n:Int),NzP l->n≠0->NzP (yz l t n)
 | [],_,_,_,a=>by intro p c;simp[yz]at c;rw[c];exact a
 | (x,m)::l,t,n,h,a=>by
   obtain⟨d,b⟩:=qdY.1 h;rw[yz];split
   ·exact qdY.2 ⟨a,h⟩
   ·split
    ·split
     ·exact b
     ·exact qdY.2 ⟨by assumption,b⟩
    ·exact qdY.2 ⟨d,qCd l t n b a⟩
theorem qsJ:∀(l:List Pw) (t:T) (n:Int),QO (yz l t n)<=QO l+n.natAbs
 | [],t,n=>by simp[yz,QO]
 | (x,m)::l,t,n=>by
   have a:=qsJ l t n;unfold QO at a |-
   rw[yz];split
   ·simp only[wm,kD];omega
   ·split
    ·split
     ·simp only[wm,kD];omega
     ·simp only[wm,kD];omega
    ·simp only[wm,kD];omega
theorem qsb:∀(l:List Pw) (t:T) (n:Int),(yz l t n).length<=l.length+1
 | [],t,n=>by simp[yz]
 | (x,m)::l,t,n=>by
   have a:=qsb l t n;rw[yz];split
   ·simp
   ·split
    ·split
     ·simp;omega
     ·simp
    ·simp only[wu];omega
theorem qzH(l:List Pw)(p:Pw)(h:p∈l):p.2.natAbs<=QO l:=by
 unfold QO
 induction l with
 | nil=>cases h
 | cons q l a =>
   simp only[wm,kD];rcases wy.1 h with e | h
   ·rw[e];omega
   ·have:=a h;omega
def yQ(t:T)(n:Int)(s:List Pw × Bool)(p:Pw):List Pw × Bool :=
 ((if s.2=false/\qp t p.1<0 then s.1++[(t,n)]else s.1)++(if(if qp t p.1=0 then p.2+n else p.2)=0 then[]else[(p.1,if qp t p.1=0 then p.2+n else p.2)]),
   s.2||decide (qp t p.1<=0))
def qEt(l:List Pw)(t:T)(n:Int):List Pw:=if(l.foldl (yQ t n) ([],false)).2 then(l.foldl (yQ t n) ([],false)).1 else(l.foldl (yQ t n) ([],false)).1++[(t,n)]
theorem qnC(t:T)(n:Int):∀(l a:List Pw),NzP l->(∀ q∈l,qp t q.1=-1)->l.foldl (yQ t n) (a,true)=(a++l,true)
 | [],a,_,_=>by simp
 | (x,m)::l,a,h,k=>by
   obtain⟨c,f⟩:=qdY.1 h;have b:=k _ (wh ..);simp only at b c;have e:yQ t n (a,true) (x,m)=(a++[(x,m)],true):=by simp[yQ,b,c]
   rw[w7,e,qnC t n l _ f λ q d=>k q (wg _ d)];simp
theorem qrk(t:T)(n:Int):∀(l a:List Pw),NzP l->qfN l->(if(l.foldl (yQ t n) (a,false)).2 then(l.foldl (yQ t n) (a,false)).1 else(l.foldl (yQ t n) (a,false)).1++[(t,n)])=a++yz l t n
 | [],a,_,_=>by simp[yz]
 | (x,m)::l,a,h,k=>by
   obtain⟨i,g⟩:=qdY.1 h;obtain⟨d,o⟩:=qfX.1 k;simp only at i d;have s:=ya.rng t x;rw[w7,yz];by_cases c:qp t x=-1
   ·have e:yQ t n (a,false) (x,m)=(a++[(t,n)]++[(x,m)],true):=by simp[yQ,c,i]
    rw[e,qnC t n l _ g λ q f=>qeI c (d q f),if_pos c];simp
   ·by_cases b:qp t x=0
    ·have e:yQ t n (a,false) (x,m)=(a++(if m+n=0 then[]else[(x,m+n)]),true):=by simp[yQ,b]
     have ex:=qar t x b;rw[e,qnC t n l _ g λ q f=>by rw[ex];exact d q f,if_neg c,if_pos b];by_cases j:m+n=0
     ·simp[j]
     ·simp[j]
    ·have e:yQ t n (a,false) (x,m)=(a++[(x,m)],false):=by
       have r:¬ qp t x<0:=by omega
       have p:¬ qp t x<=0:=by omega
       simp[yQ,r,p,b,i]
     rw[e,qrk t n l _ g o,if_neg c,if_neg b];simp
theorem qIw{l:List Pw}(h:NzP l)(k:qfN l)(t:T)(n:Int):qEt l t n=yz l t n:=by
 have:=qrk t n l [] h k;simpa[qEt]using this
def JL(l:List Pw):Prop:=qfN l/\NzP l
theorem JL.nil:JL []:=⟨List.Pairwise.nil,λ _ h=>by cases h⟩
theorem JL.ins{l:List Pw}(h:JL l)(t:T){n:Int}(a:n≠0):JL (yz l t n):=⟨qy1 l t n h.1,qCd l t n h.2 a⟩
theorem qJ0{t:T}{n:Int}(h:n≠0):qaV t n≠0:=by unfold qaV;split<;>omega
theorem qIQ(t:T)(n:Int):(qaV t n).natAbs=n.natAbs:=by unfold qaV;split<;>omega
theorem qCh(a:List T)(n:Int)(P:List Pw->Prop)(h:∀ k∈a,∀ l,P l->P (js k l n)):∀ l,P l->P ((a.map js).foldl (λ l f=>f l n) l):=by
 induction a with
 | nil=>intro l b;exact b
 | cons k a c=>intro l b;exact c (λ k d=>h k (wg _ d)) _ (h k (wh ..) l b)
theorem qF4(t:T):∀(l:List Pw) (n:Int),n≠0->JL l->JL (js t l n):=by
 refine T.ind (P := λ t=>∀(l:List Pw) (n:Int),n≠0->JL l->JL (js t l n)) ?_ t;intro t b l n a h;rw[qf0];split
 ·exact qCh t.kids (qaV t n) JL (λ k d l c=>b k d l _ (qJ0 a) c) l h
 ·exact h.ins t a
theorem qHz(t:T):∀(l:List Pw) (n:Int),QO (js t l n)<=QO l+size t*n.natAbs/\(js t l n).length<=l.length+size t:=by
 refine T.ind (P := λ t=>∀(l:List Pw) (n:Int),QO (js t l n)<=QO l+size t*n.natAbs/\(js t l n).length<=l.length+size t) ?_ t;intro t g l n;rw[qf0,qR];split
 ·have:∀(a:List T),(∀ k∈a,k∈t.kids)->∀ l,QO ((a.map js).foldl (λ l f=>f l (qaV t n)) l)<=QO l+(a.map size).sum*n.natAbs/\((a.map js).foldl (λ l f=>f l (qaV t n)) l).length<=l.length+(a.map size).sum:=by
    intro a
    induction a with
    | nil=>intro _ l;simp
    | cons k a b =>
      intro c l;have e:=g k (c k (wh ..)) l (qaV t n);rw[qIQ]at e;have d:=b (λ k i=>c k (wg _ i)) (js k l (qaV t n));simp only[wm,w7,kD,wN]at d |-
      omega
  have:=this t.kids (λ _ h=>h) l;rw[wN];omega
 ·have e:=qsJ l t n;have d:=qsb l t n;rw[wN];omega
theorem qpE:∀(b a:List Pw),JL a->NzP b->JL (QS a b)
 | [],a,h,_=>h
 | p::b,a,h,k=>qpE b (yz a p.1 p.2) (h.ins p.1 (qdY.1 k).1) (qdY.1 k).2
theorem qsh:∀(b a:List Pw),QO (QS a b)<=QO a+QO b/\(QS a b).length<=a.length+b.length
 | [],a=>by simp[QS,QO]
 | p::b,a=>by
   have f:=qsh b (yz a p.1 p.2);have d:=qsJ a p.1 p.2;have c:=qsb a p.1 p.2;have e:QO (p::b)=p.2.natAbs+QO b:=by simp[QO]
   rw[show QS a (p::b)=QS (yz a p.1 p.2) b from rfl,e,wu];omega
def ixP:List Pw->T->Nat
 | [],_=>0
 | p::l,t=>if qp p.1 t=-1 then ixP l t+1 else 0
theorem qGz:∀(l:List Pw) (t:T),ixP l t<=l.length
 | [],_=>wa _
 | p::l,t=>by
   have:=qGz l t;rw[ixP];split
   ·simp;omega
   ·omega
theorem qGc:∀(l:List Pw) (t:T) (i:Nat),i<=l.length->(∀ k p,k<i->l[k]?=some p->qp p.1 t=-1)->(∀ p,l[i]?=some p->qp p.1 t≠-1)->i=ixP l t
 | [],_,i,h,_,_=>by simp at h;rw[h];rfl
 | p::l,t,0,_,_,h=>by rw[ixP,if_neg (h p rfl)]
 | p::l,t,i+1,h,k,m=>by
   rw[ixP,if_pos (k 0 p (by omega) rfl)];rw[<- qGc l t i (by simpa using h) (λ j q b a=>k (j+1) q (by omega) (by simpa using a)) (λ q a=>m q (by simpa using a))]
theorem qDi:∀(l:List Pw) (t:T) (n:Int) (x:T) (m:Int),l[ixP l t]?=some (x,m)->qp x t=0 ->
  yz l t n=if m+n=0 then l.take (ixP l t)++l.drop (ixP l t+1)else l.take (ixP l t)++[(x,m+n)]++l.drop (ixP l t+1)
 | [],_,_,_,_,h,_=>by simp at h
 | (y,k)::l,t,n,x,m,h,a=>by
   have d:=ya.anti y t;have b:=ya.rng y t;rw[ixP]at h;rw[yz,ixP];simp only at h |-
   by_cases c:qp y t=-1
   ·rw[if_pos c]at h;rw[if_neg (by omega),if_neg (by omega),if_pos c,qDi l t n x m (by simpa using h) a];split<;>simp
   ·rw[if_neg c]at h;simp at h;obtain⟨rfl,rfl⟩:=h;rw[if_neg (by omega),if_pos (by omega),if_neg c];split<;>simp
theorem qBc:∀(l:List Pw) (t:T) (n:Int),(∀ p,l[ixP l t]?=some p->qp p.1 t≠0)->yz l t n=l.take (ixP l t)++[(t,n)]++l.drop (ixP l t)
 | [],_,_,_=>by simp[yz,ixP]
 | (y,k)::l,t,n,h=>by
   have d:=ya.anti y t;have b:=ya.rng y t;rw[ixP]at h;rw[yz,ixP];simp only at h |-
   by_cases c:qp y t=-1
   ·rw[if_pos c]at h;rw[if_neg (by omega),if_neg (by omega),if_pos c,qBc l t n λ p a=>h p (by simpa using a)];simp
   ·rw[if_neg c]at h;have:=h (y,k) rfl;simp only at this;rw[if_pos (by omega),if_neg c];simp
theorem qC7{l:List Pw}(h:qfN l){i j:Nat}{p q:Pw}(g:l[i]?=some p)(f:l[j]?=some q)(c:i<j):qp p.1 q.1=-1:=by
 unfold qfN Asc at h;rw[List.pairwise_iff_getElem]at h;obtain⟨e,d⟩:=List.getElem?_eq_some_iff.1 g;obtain⟨b,a⟩:=List.getElem?_eq_some_iff.1 f;have:=h i j (by simpa using e) (by simpa using b) c;simpa[d,a]using this
end Go.GxZ
namespace Go.AmZ
open Go Go.GxZ
theorem qB7(t:T):Ev (λ m _=>qby m t) (qcO t):=by
 refine waD ?_;simp only[qqZ,qdQ];unfold qcO;by_cases a:t.kind=3
 ·refine waz (qk.2 a) (waw (λ h=>?_) λ h=>(waw (λ b=>?_) λ b=>?_))
  ·rw[jf]at h;exact waB (by rw[a,h];rfl)
  ·rw[jf]at b;exact waB (by rw[a,b];rfl)
  ·rw[jI]at h b
   exact waB (by
    have d:(t.name==qeg)=false:=by rw[beq_eq_false_iff_ne];exact h
    have c:(t.name==Ji)=false:=by rw[beq_eq_false_iff_ne];exact b
    rw[a,d,c];rfl)
 ·exact waA (qg.2 a) (waB (by have:(t.kind==3)=false:=by rw[beq_eq_false_iff_ne];exact a
                              rw[this];rfl))
theorem qlh(t:T):size t<=100000000->Ev (λ m _=>zo m t) t:=by
 induction t using T.ind with
 | h t g =>
   intro o;have p:=yt t;refine waD ?_;simp only[qrW,qbY]
   have a:zX 0 t.kids=some ((),t.kids,()):=by
    unfold zX;rw[show Nat.ble t.kids.length 100000000=true from xG (by omega)];rfl
   refine way a ?_
   have b:=qs (P := λ i=>Ev (λ m k=>Qv m (zo m) k t.kids.length i t.kind t.name t.sort 0 [] 0 t.kids []) t) t.kids (by omega)
    (λ a=>by
     refine waC ?_;simp only[qiR,qb8];exact waA a (waB (qh t)))
    (λ i x c q a f j l=>by
     refine waC ?_;simp only[qiR,qb8,qh];have d:=wb c;have s:=jy t x d
     have e:jt t.kids (i:Int) x=t.kids:=by
      rw[qaz];obtain⟨r,n⟩:=List.getElem?_eq_some_iff.1 c;rw[<- n,wau]
     refine waz a (way f (wav (g x d (by omega)) (way f ?_)));rw[e,j];exact l)
   refine waE (L := λ m k=>Qv m (zo m) k t.kids.length 0 t.kind t.name t.sort 0 [] 0 t.kids []) ?_;exact b 0 (we _)
theorem qLq(lo a:Nat)(h:lo+a<=1000000000):iw .i64 (qa7 .u64 (iw .u64 (iw .i64 (qj (lo:Int) (a:Int)))) 1)=(((lo+a) / 2:Nat):Int):=by
 rw[qhq,show iw .i64 ((lo+a:Nat):Int)=((lo+a:Nat):Int)from jJ (by omega),show iw .u64 ((lo+a:Nat):Int)=((lo+a:Nat):Int)from IntWalk.u64_in _ (by omega)]
 have:qa7 .u64 ((lo+a:Nat):Int) 1=(((lo+a) / 2:Nat):Int):=by
  unfold qa7;show Int.fdiv _ 2=_;rw[vY _ (by decide)];omega
 rw[this,jJ (by omega)]
def szP(l:List Pw):Nat:=(l.map λ p=>size p.1).sum
theorem qaE(p:Pw)(l:List Pw):szP (p::l)=size p.1+szP l:=by simp[szP]
theorem qcd:∀ l:List Pw,l.length<=szP l
 | []=>we _
 | p::l=>by
   have:=qcd l;have:=size_pos p.1;rw[qaE,wu];omega
theorem qeT:∀{l:List Pw} {p:Pw},p∈l->size p.1<=szP l
 | q::l,p,h=>by
   rw[qaE];rcases wy.1 h with rfl | h
   ·omega
   ·have:=qeT h;omega
theorem qCO:∀(l:List Pw) (t:T) (n:Int),szP (yz l t n)<=szP l+size t
 | [],t,n=>by rw[yz,qaE];show size t+0<=0+size t;omega
 | (x,m)::l,t,n=>by
   have:=qCO l t n;rw[yz];split
   ·rw[qaE,qaE];show size t+(size x+_)<=size x+_+size t;omega
   ·split
    ·split
     ·rw[qaE];show _<=size x+_+_;omega
     ·rw[qaE,qaE];show size x+_<=size x+_+_;omega
    ·rw[qaE,qaE];show size x+_<=size x+_+_;omega
theorem qAi(p:Pw)(t:T)(b:size p.1<=1000000000)(a:size t<=1000000000):Ev (λ m _=>qaa m p t) (qp p.1 t):=by
 refine waD ?_;simp only[qoS,qcR,qh];exact wav (qdd _ b _ a) (wax _)
def qsw(l:List Pw)(t:T):Bool:=match l[Go.GxZ.ixP l t]? with
 | some p=>ieq (qp p.1 t) 0
 | none=>false
theorem qKu{l:List Pw}(y:qfN l)(t:T)(D:szP l+size t<=100000000):∀(d lo c:Nat),c<=lo+d->lo<=c->c<=l.length->(∀ k p,k<lo->l[k]?=some p->qp p.1 t=-1)->(∀ k p,c<=k->l[k]?=some p->qp p.1 t≠-1) ->
  Ev (λ m k=>qn m k l l.length lo c t.kind t.name t.sort t.kids) ((Go.GxZ.ixP l t:Int),qsw l t):=by
 have E:=qcd l;intro d
 induction d with
 | zero =>
   intro lo c C z r o n;have:lo=c:=by omega
   subst this;have w:=qGc l t lo r o (λ p g=>n lo p (wa _) g);subst w;refine waC ?_;simp only[ym,qF,qh];rw[show T.mk t.kind t.name t.sort t.kids=t from qh t];refine waA (qt.2 (vA _)) (waw (λ h=>?_) λ h=>?_)
   ·rw[qw]at h;have i:Go.GxZ.ixP l t<l.length:=by omega
    obtain⟨p,e⟩:∃ p,l[Go.GxZ.ixP l t]?=some p:=⟨_,List.getElem?_eq_getElem i⟩
    have v:=qeT (wb e);refine way (a:=p) (by rw[zM,e]) (wav (qAi (p.1,p.2) _ (wD v (by omega)) (by omega)) (waB ?_));unfold qsw;rw[e]
   ·rw[qt]at h;refine waB ?_;unfold qsw;rw[List.getElem?_eq_none (by omega)]
 | succ d s =>
   intro lo c C z r o n;by_cases F:lo=c
   ·exact s lo c (by omega) z r o n
   refine waC ?_;simp only[ym,qF,qh];rw[show T.mk t.kind t.name t.sort t.kids=t from qh t,qLq lo c (by omega)];have A:(lo+c) / 2<c:=by omega
   have u:lo<=(lo+c) / 2:=by omega
   generalize (lo+c) / 2=b at *;have i:b<l.length:=by omega
   obtain⟨p,e⟩:∃ p,l[b]?=some p:=⟨_,List.getElem?_eq_getElem i⟩
   have v:=qeT (wb e);refine waz (qw.2 (by omega)) (way (a:=p) (by rw[zM,e]) (wav (qAi (p.1,p.2) _ (wD v (by omega)) (by omega)) (waw (λ f=>?_) λ f=>?_)))
   ·rw[qw]at f;have f:qp p.1 t<0:=f;have f:qp p.1 t=-1:=by rcases ya.rng p.1 t with h | h | h<;>omega
    rw[show qj ((b:Nat):Int) 1=((b+1:Nat):Int)from by unfold qj;omega,jJ (by omega)];refine s (b+1) c (by omega) (by omega) r (λ k q B g=>?_) n;by_cases j:k=b
    ·subst j;rw[e]at g;cases g;exact f
    ·exact ya.trans _ _ _ (qC7 y g e (by omega)) f
   ·rw[qt]at f;have f:0<=qp p.1 t:=f;refine s lo b (by omega) u (by omega) o (λ k q B g=>?_);by_cases j:k=b
    ·subst j;rw[e]at g;cases g;omega
    ·intro x;have:=ya.trans _ _ _ (qC7 y e g (by omega)) x;omega
theorem qMt{l:List Pw}(d:qfN l)(t:T)(c:szP l+size t<=100000000):Ev (λ m _=>qI m l t) ((Go.GxZ.ixP l t:Int),qsw l t):=by
 refine waD ?_;simp only[QR,qE];refine waE (L := λ m k=>qn m k l l.length 0 l.length t.kind t.name t.sort t.kids) ?_;exact qKu d t c l.length 0 l.length (by omega) (we _) (wa _) (λ k p b=>by omega) (λ k p b a=>by rw[List.getElem?_eq_none b]at a;cases a)
theorem quF{l:List Pw}(r:qfN l)(t:T)(n:Int)(u:szP l+size t<=90000000)(g:l.length<=90000)(v:QO l+n.natAbs<=1000000000000):Ev (λ m _=>qbl m l (t,n)) ((),yz l t n,()):=by
 have w:=qcd l;have q:=qGz l t;refine waD ?_;simp only[qq5,qdV,qh];refine wav (qMt r t (by omega)) (waw (λ h=>?_) λ h=>?_)
 ·rw[bnt]at h;refine wav (qlh t (by omega)) ?_
  have i:zq 0 l (Go.GxZ.ixP l t:Int) [(re t,n)]=some ((),yz l t n,()):=by
   unfold zq;rw[show inb (Go.GxZ.ixP l t:Int) l.length=true from by unfold inb;rw[decide_eq_true_iff];omega,show Nat.ble l.length 100000=true from xG (by omega)]
   rw[qBc l t n λ p j f=>by
    unfold qsw at h;simp only[j]at h;rw[qg]at h;exact h f]
   rw[wJ,qh,wi];rfl
  rw[qh]at i;refine way i (wax _)
 ·rw[bnf]at h;cases b:l[Go.GxZ.ixP l t]? with
  | none=>unfold qsw at h;simp only[b]at h;cases h
  | some p =>
    obtain⟨x,k⟩:=p
    have f:qp x t=0:=by
     unfold qsw at h;simp only[b]at h;exact qk.1 h
    have o:=qzH l _ (wb b);have d:Go.GxZ.ixP l t<l.length:=(List.getElem?_eq_some_iff.1 b).1;simp only at o
    have e1:iw .i64 (qj k n)=k+n:=by
     unfold qj;exact jJ (by omega)
    have e:qc (jt l (Go.GxZ.ixP l t:Int) (x,k+n)) (Go.GxZ.ixP l t:Int)=some (x,k+n):=by
     rw[qaz,zM,List.getElem?_set_self d]
    have a:l.set (Go.GxZ.ixP l t) (x,k+n)=l.take (Go.GxZ.ixP l t)++[(x,k+n)]++l.drop (Go.GxZ.ixP l t+1):=by
     rw[vB,if_pos d,wi];rfl
    refine way (by rw[zM,b]) (way (by rw[zM,b]) ?_);simp only[qh,e1];refine way e ?_;rw[qDi l t n x k b f];refine waw (λ c=>?_) λ c=>?_
    ·rw[qk]at c;rw[if_pos c]
     have s:zt 0 (jt l (Go.GxZ.ixP l t:Int) (x,k+n)) (Go.GxZ.ixP l t:Int) (iw .i64 (qj (Go.GxZ.ixP l t:Int) 1))=some ((),l.take (Go.GxZ.ixP l t)++l.drop (Go.GxZ.ixP l t+1),()):=by
      rw[show qj (Go.GxZ.ixP l t:Int) 1=((Go.GxZ.ixP l t+1:Nat):Int)from by unfold qj;omega,jJ (by omega),qaz];unfold zt
      rw[wI,show inb ((Go.GxZ.ixP l t+1:Nat):Int) l.length=true from by unfold inb;rw[decide_eq_true_iff];omega,show inb (Go.GxZ.ixP l t:Int) l.length=true from by unfold inb;rw[decide_eq_true_iff];omega,
       show ieq ((Go.GxZ.ixP l t+1:Nat):Int) (qj (Go.GxZ.ixP l t:Int) 1)=true from qk.2 (by unfold qj;omega),show Nat.ble l.length 100000=true from xG (by omega)]
      rw[wJ,vk (wa _),vP (by omega)];rfl
     exact way s (wax _)
    ·rw[qg]at c;rw[if_neg c];refine waB ?_;rw[qaz,a]
end Go.AmZ
namespace Go.GxZ
open Go.RowKit
theorem qA6(q:Option T)(p:Pw):pvK q p=if qJ p.1≠0 then qJ p.1 else if qcO p.1 then 1 else if p.2=0\/p.2 < -1000\/1000<p.2 then 7 else match q with | some x=>if 0<=qp x p.1 then 5 else 0 | none=>0:=rfl
theorem qBa:∀(l:List Pw) (q:Option T),pvL q l=0->qfN l/\(∀ p∈l,p.2≠0/\p.2.natAbs<=1000)/\(∀ x,q=some x->∀ p∈l,qp x p.1=-1)/\(∀ p∈l,qJ p.1=0/\qcO p.1=false)
 | [],q,_=>⟨List.Pairwise.nil,(λ _ h=>by cases h),(λ _ _ _ h=>by cases h),(λ _ h=>by cases h)⟩
 | p::l,q,h=>by
   rw[pvL]at h;unfold thn at h;split at h
   rotate_left
   ·rename_i b;exact absurd h b
   ·rename_i b;have j:=qA6 q p;obtain⟨i,g,i3,f⟩:=qBa l (some p.1) h;rw[j]at b;split at b
    ·rename_i e;exact absurd b e
    rename_i e;split at b
    ·cases b
    rename_i k;split at b
    ·cases b
    rename_i n
    have d:∀ x,q=some x->qp x p.1=-1 := λ x c=>by
     subst c;simp only at b;split at b
     ·cases b
     ·rename_i m;rcases ya.rng x p.1 with h | h | h<;>omega
    refine⟨qfX.2 ⟨λ r a=>i3 _ rfl r a,i⟩,λ r a=>?_,λ x c r a=>?_,λ r a=>?_⟩
    ·rcases wy.1 a with rfl | a
     ·omega
     ·exact g r a
    ·rcases wy.1 a with rfl | a
     ·exact d x c
     ·exact qeI (d x c) (by have:=i3 _ rfl r a;omega)
    ·rcases wy.1 a with rfl | a
     ·exact⟨by omega,by simpa using k⟩
     ·exact f r a
theorem qbu{l:List Pw}(h:Jl l=0):JL l/\l.length<=200/\(∀ p∈l,p.2.natAbs<=1000)/\(∀ p∈l,qJ p.1=0/\qcO p.1=false):=by
 unfold Jl at h;split at h
 ·cases h
 ·obtain⟨d,b,-,c⟩:=qBa l none h;exact⟨⟨d,λ p a=>(b p a).1⟩,by omega,λ p a=>(b p a).2,c⟩
theorem qnd(k:Nat):∀(l:List Pw),(∀ p∈l,p.2.natAbs<=k)->QO l<=l.length*k
 | [],_=>by simp[QO]
 | p::l,h=>by
   have c:=qnd k l λ q a=>h q (wg _ a);have b:=h p (wh ..);have e:QO (p::l)=p.2.natAbs+QO l:=rfl;rw[e,wu,wN];omega
theorem qrU:∀(b a:List Pw) (p:Pw),p∈QS a b->(∃ q∈a,q.1=p.1)\/∃ q∈b,q.1=p.1
 | [],a,p,h => .inl ⟨p,h,rfl⟩
 | r::b,a,p,h=>by
   rcases qrU b (yz a r.1 r.2) p h with⟨q,c,e⟩ | ⟨q,c,e⟩
   ·rcases qnN a r.1 r.2 q c with d | d
    ·exact .inr ⟨r,wh ..,by rw[<- d];exact e⟩
    ·exact .inl ⟨q,d,e⟩
   ·exact .inr ⟨q,wg _ c,e⟩
theorem qxp(a b:List Pw)(p:Pw):QS a (b++[p])=yz (QS a b) p.1 p.2:=by unfold QS;rw[xk];rfl
theorem qEP{a b:List Pw}(n:Jl a=0)(m:Jl b=0)(S:Nat)(f:∀ p∈a,size p.1<=S)(d:∀ p∈b,size p.1<=S)(j:Nat) :
  qfN (QS a (b.take j))/\(QS a (b.take j)).length<=400/\(∀ p∈QS a (b.take j),p.2.natAbs<=1000000)/\(∀ p∈QS a (b.take j),size p.1<=S):=by
 obtain⟨r,t,k,-⟩:=qbu n;obtain⟨o,s,i,-⟩:=qbu m;have h:∀ p∈b.take j,p∈b := λ p c=>ka c;have l:=qpE (b.take j) a r λ p c=>o.2 p (h p c);obtain⟨y,x⟩:=qsh (b.take j) a;have w:=qnd 1000 a k;have v:=qnd 1000 (b.take j) λ p c=>i p (h p c);have u:(b.take j).length<=200:=by rw[wo];omega
 refine⟨l.1,by omega,λ p c=>?_,λ p c=>?_⟩
 ·have:=qzH _ p c;omega
 ·rcases qrU _ _ p c with⟨q,g,e⟩ | ⟨q,g,e⟩
  ·rw[<- e];exact f q g
  ·rw[<- e];exact d q (h q g)
end Go.GxZ
namespace Go.AmZ
open Go Go.GxZ
theorem QI{t:T}(h:qJ t=0):size t<=400:=by
 unfold qJ at h;split at h
 ·rename_i a;exact absurd h a
 ·split at h
  ·cases h
  ·omega
theorem qqU{t:T}:qcO t=true↔t.kind=3/\(t.name=qeg\/t.name=Ji\/t.name=qiD):=by
 unfold qcO;simp only[wd,kg,beq_iff_eq];constructor
 ·rintro⟨h,(a | a) | a⟩
  ·exact⟨h,.inl a⟩
  ·exact⟨h,.inr (.inl a)⟩
  ·exact⟨h,.inr (.inr a)⟩
 ·rintro⟨h,a | a | a⟩
  ·exact⟨h,.inl (.inl a)⟩
  ·exact⟨h,.inl (.inr a)⟩
  ·exact⟨h,.inr a⟩
theorem qDk(t:T):∀(l:List Pw) (n:Int),szP (js t l n)<=szP l+size t:=by
 refine T.ind (P := λ t=>∀(l:List Pw) (n:Int),szP (js t l n)<=szP l+size t) ?_ t;intro t d l n;rw[qf0];have i:=qR t;split
 ·have:∀(a:List T),(∀ k∈a,k∈t.kids)->∀ l,szP ((a.map js).foldl (λ l f=>f l (qaV t n)) l)<=szP l+(a.map size).sum:=by
    intro a
    induction a with
    | nil=>intro _ l;simp
    | cons k a b =>
      intro c l;have j:=d k (c k (wh ..)) l (qaV t n);have g:=b (λ k e=>c k (wg _ e)) (js k l (qaV t n));simp only[wm,w7,kD]at g |-
      omega
  have:=this t.kids (λ _ h=>h) l;omega
 ·exact qCO l t n
def qe3(ks:List T)(a:Int)(l:List Pw)(i:Nat):List Pw:=((ks.take i).map js).foldl (λ l f=>f l a) l
theorem qwP{ks:List T}{i:Nat}{x:T}(h:ks[i]?=some x)(a:Int)(l:List Pw):qe3 ks a l (i+1)=js x (qe3 ks a l i) a:=by
 unfold qe3;rw[kt,h,wT,xk];rfl
theorem qnQ(a:Int)(b:a≠0):∀(ks:List T) (l:List Pw),JL l->JL ((ks.map js).foldl (λ l f=>f l a) l)/\szP ((ks.map js).foldl (λ l f=>f l a) l)<=szP l+szL ks /\
  QO ((ks.map js).foldl (λ l f=>f l a) l)<=QO l+szL ks*a.natAbs/\((ks.map js).foldl (λ l f=>f l a) l).length<=l.length+szL ks
 | [],l,h=>⟨h,by simp,by simp,by simp⟩
 | k::ks,l,h=>by
   obtain⟨c,e,i3,d⟩:=qnQ a b ks (js k l a) (qF4 k l a b h);have j:=qDk k l a;obtain⟨i,g⟩:=qHz k l a;rw[wm,w7,qO,wN];exact⟨c,by omega,by omega,by omega⟩
def qkt(t:T)(l:List Pw)(n:Int):Unit × List Pw × Bool × Unit:=((),if arT t then js t l n else[],arT t,())
theorem qDC(t:T):∀(l:List Pw) (n:Int),n≠0->JL l->szP l+size t<=80000->QO l+size t*n.natAbs<=100000000000->Ev (λ m _=>zl m l t n) (qkt t l n):=by
 induction t using T.ind with
 | h t K =>
   intro l n H I R J;have S:=yt t;have Q:=qR t;have M:=qcd l;refine waD ?_;simp only[qpO,qaX,qh];refine wav (qB7 t) (waw (λ h=>?_) λ h=>?_)
   ·rw[bnt]at h;have s:n.natAbs<=size t*n.natAbs:=vC _ (size_pos t);refine wav (quF I.1 t n (by omega) (by omega) (by omega)) (waB ?_);unfold qkt;rw[qtY,qf0,h];rfl
   rw[bnf]at h;obtain⟨Y,j⟩:=qqU.1 h;have o:arT t=(arK t&&(t.kids.map arT).all id):=by rw[qtY,h];rfl
   have g:∀ e:Int,e≠0->e.natAbs=n.natAbs->qaV t n=e->arK t=true->Ev (λ m _=>ji m (zl m) m e t.kids t.kids.length 0 l) (qkt t l n):=by
    intro e q F A d;have u:js t l n=qe3 t.kids e l t.kids.length:=by rw[qf0,h,if_pos rfl,A];unfold qe3;rw[wE]
    have z:=qs (P := λ i=>(∀ k∈t.kids.take i,arT k=true)->Ev (λ m k=>ji m (zl m) k e t.kids t.kids.length i (qe3 t.kids e l i)) (qkt t l n)) t.kids (by omega)
     (λ E y=>by
      refine waC ?_;simp only[qhc,qaZ];refine waA E (waB ?_);unfold qkt
      have:arT t=true:=by
       rw[o,d,kr,wv];intro b J;obtain⟨k,C,rfl⟩:=wx.1 J;rw[wE]at y;exact y k C
      rw[this,if_pos rfl,u])
     (λ i x w U E D N G y=>by
      refine waC ?_;simp only[qhc,qaZ,qh];have B:=wb w;have Z:=jy t x B;obtain⟨O,f2,f3,f4⟩:=qnQ e q (t.kids.take i) l I;have X:=Ql w;have W:szL t.kids+1=size t:=by unfold szL;omega
      have V:szL (t.kids.take i)*e.natAbs+size x*e.natAbs<=size t*n.natAbs:=by
       rw[<- wN,F];exact wn _ (by omega)
      refine waz E (way D (wav (K x B (qe3 t.kids e l i) e q O (by unfold qe3;omega) (by unfold qe3;omega)) (waw (λ c=>?_) λ c=>?_)))
      ·rw[bnt]at c;have c:arT x=false:=c;refine waB ?_;unfold qkt
       have:arT t=false:=by
        rw[o,d,kr,<- kP,wv];intro v;have:=v (arT x) (kT B);rw[c]at this;cases this
       rw[this];rfl
      ·rw[bnf]at c;have c:arT x=true:=c
       have G:=G λ k f=>by
        rw[kt,w]at f;rcases ww.1 f with f | f
        ·exact y k f
        ·rw[show k=x from by simpa using f];exact c
       rw[N];refine G.congr λ m k=>?_;unfold qkt;rw[qwP w,c];rfl)
    refine waE (L := λ m k=>ji m (zl m) k e t.kids t.kids.length 0 l) ?_;exact(z 0 (we _)) (λ k d=>by rw[xE]at d;cases d)
   have p:arK t=false->Ev (λ _ _=>some ((),[],false,())) (qkt t l n) := λ d=>by
    refine waB ?_;unfold qkt;rw[o,d];rfl
   have r:iw .i64 (zO 0 n)=-n:=by
    have s:n.natAbs<=size t*n.natAbs:=vC _ (size_pos t);unfold zO;rw[jJ (by omega)];omega
   rcases j with a | a | a
   ·refine waA (by rw[a];rfl) (waA (by rw[a];rfl) (waz (by rw[a];rfl) (waw (λ d=>?_) λ d=>?_)))
    ·rw[qw]at d;exact p (by unfold arK;rw[a,decide_eq_true (show t.kids.length<2 by omega)];rfl)
    ·rw[qt]at d;exact waA (by rw[a];rfl) (g n H rfl (by unfold qaV;rw[a];rfl) (by unfold arK;rw[a,decide_eq_false (show ¬ t.kids.length<2 by omega)];rfl))
   ·refine waA (by rw[a];rfl) (waz (by rw[a];rfl) (waw (λ d=>?_) λ d=>?_))
    ·rw[bnt,qg]at d;exact p (by unfold arK;rw[a,show(t.kids.length != 1)=true from by rw[bne_iff_ne];omega];rfl)
    ·rw[bnf,qk]at d;rw[r];exact waA (by rw[a];rfl) (waz (by rw[a];rfl) (g (-n) (by omega) (by omega) (by unfold qaV;rw[if_pos a]) (by unfold arK;rw[a,show(t.kids.length != 1)=false from by rw[bne_eq_false_iff_eq];omega];rfl)))
   ·refine waz (by rw[a];rfl) (waw (λ d=>?_) λ d=>?_)
    ·rw[bnt,qg]at d;exact p (by unfold arK;rw[a,show(t.kids.length != 0)=true from by rw[bne_iff_ne];omega];rfl)
    ·rw[bnf,qk]at d;exact waA (by rw[a];rfl) (waA (by rw[a];rfl) (waA (by rw[a];rfl) (g n H rfl (by unfold qaV;rw[a];rfl) (by unfold arK;rw[a,show(t.kids.length != 0)=false from by rw[bne_eq_false_iff_eq];omega];rfl))))
theorem qBe(t:T)(c:size t<=1000000000):Ev (λ m _=>qbB m t) (ofP t):=by
 refine waD ?_;simp only[qxU,qhK,qh];unfold ofP;refine wav (qcy t c) (waw (λ h=>?_) λ h=>?_)
 ·rw[bnt,qg]at h;rw[if_pos h];exact wax _
 ·rw[bnf,qk]at h;have d:=QI h;rw[if_neg (by omega)];refine wav (qDC t [] 1 (by decide) JL.nil (by show 0+_<=_;omega) (by show 0+size t*1<=_;omega)) (waw (λ a=>?_) λ a=>?_)
  ·rw[bnt]at a;have a:arT t=false:=a;rw[if_pos a];exact wax _
  ·rw[bnf]at a;have a:arT t=true:=a;rw[if_neg (by rw[a];decide)];have e:(qkt t [] 1).2.1=js t [] 1:=by unfold qkt;rw[a];rfl
   rw[e];refine waw (λ b=>?_) λ b=>?_
   ·rw[qw]at b;rw[if_pos (by omega)];exact wax _
   ·rw[qt]at b;rw[if_neg (by omega)];exact wax _
def qdJ(l:List Pw)(i:Nat):Option T:=if i=0 then none else(l[i-1]?).map (·.1)
theorem qjc{l:List Pw}{i:Nat}{p:Pw}(h:l[i]?=some p):qdJ l (i+1)=some p.1:=by
 unfold qdJ;rw[if_neg (by omega),xQ,h];rfl
theorem qp1(l:List Pw)(E:szP l<=1000000000):Ev (λ m _=>qat m l) (Jl l):=by
 have F:=qcd l;refine waD ?_;simp only[qsO,qbV];unfold Jl;refine waw (λ h=>?_) λ h=>?_
 ·rw[qw]at h;rw[if_pos (by omega)];exact wax _
 rw[qt]at h;rw[if_neg (by omega)]
 have s:=qs (P := λ i=>Ev (λ m k=>jP m k l l l.length i) (pvL (qdJ l i) (l.drop i))) l (by omega)
  (λ z=>by
   refine waC ?_;simp only[qi5,qb6];refine waA z (waB ?_);rw[wU];rfl)
  (λ i x u D z C B A=>by
   refine waC ?_;simp only[qi5,qb6,qh];have H:=qeT (wb u);rw[qjc u]at A;rw[D,pvL];have c:=qA6 (qdJ l i) x
   have b:∀ e:Int,pvK (qdJ l i) x=e->e≠0->Ev (λ _ _=>some e) (thn (pvK (qdJ l i) x) (pvL (some x.1) (l.drop (i+1)))) := λ e y r=>by
    rw[y];exact waB (by unfold thn;rw[if_neg r])
   have d:pvK (qdJ l i) x=0->Ev (λ m k=>jP m k l l l.length ((i+1:Nat):Int)) (thn (pvK (qdJ l i) x) (pvL (some x.1) (l.drop (i+1)))) := λ y=>by
    rw[y];exact A.res (by unfold thn;rw[if_pos rfl])
   refine waz z (way C (wav (qcy x.1 (by omega)) (waw (λ p=>?_) λ p=>?_)))
   ·rw[bnt,qg]at p;exact b _ (by rw[c,if_pos p]) p
   rw[bnf,qk]at p;rw[if_neg (by omega)]at c;refine wav (qB7 x.1) (waw (λ o=>?_) λ o=>?_)
   ·exact b 1 (by rw[c,if_pos o]) (by decide)
   rw[if_neg (by rw[o];decide)]at c;refine waw (λ t=>?_) λ t=>?_
   ·rw[qk]at t;exact b 7 (by rw[c,if_pos (by omega)]) (by decide)
   rw[qg]at t;refine waw (λ n=>?_) λ n=>?_
   ·rw[qw]at n;exact b 7 (by rw[c,if_pos (by omega)]) (by decide)
   rw[qt]at n;refine waw (λ g=>?_) λ g=>?_
   ·rw[qw]at g;exact b 7 (by rw[c,if_pos (by omega)]) (by decide)
   rw[qt]at g;rw[if_neg (by omega)]at c;rw[B];refine waw (λ r=>?_) λ r=>?_
   ·rw[qw]at r;obtain⟨j,rfl⟩:∃ j,i=j+1:=⟨i-1,by omega⟩
    have w:j<l.length:=by have:=(List.getElem?_eq_some_iff.1 u).1;omega
    obtain⟨q,v⟩:∃ q,l[j]?=some q:=⟨_,List.getElem?_eq_getElem w⟩
    have G:=qeT (wb v);rw[qjc v]at c b d |-
    simp only at c;refine way (a:=q) (by rw[show zO ((j+1:Nat):Int) 1=((j:Nat):Int)from by unfold zO;omega,jJ (by omega),zM,v]) (wav (qdd q.1 (by omega) x.1 (by omega)) (waw (λ f=>?_) λ f=>?_))
    ·rw[qa1]at f;exact b 5 (by rw[c,if_pos f]) (by decide)
    ·rw[qbv]at f;exact d (by rw[c,if_neg (by omega)])
   ·rw[qt]at r;have:i=0:=by omega
    subst this;exact d (by rw[c];rfl))
 refine waE (L := λ m k=>jP m k l l l.length 0) ?_;exact s 0 (we _)
end Go.AmZ
namespace Go.AmZ
open Go Go.GxZ
theorem zZ{α : Type}{l:List α}{i:Nat}{x : α}(h:l[i]?=some x):l.take (i+1)=l.take i++[x]:=by rw[kt,h];rfl
theorem qrG(a b:List Pw):yf (a++b)=yf a++yf b:=by unfold yf;rw[List.flatMap_append]
theorem qsS(a b:List Pw):yj (a++b)=yj a++yj b:=by unfold yj;rw[List.flatMap_append]
theorem qsB(p:Pw):yf [p]=List.replicate p.2.toNat p.1:=by unfold yf;simp
theorem qsK(p:Pw):yj [p]=List.replicate (-p.2).toNat (apT Ji [p.1]):=by unfold yj;simp
theorem qCw(n:Nat)(x:T):szL (List.replicate n x)=n*size x:=by
 induction n with
 | zero=>simp[szL]
 | succ n a=>rw[List.replicate_succ,qO,a,wN];omega
theorem qAX(t:T):size (apT Ji [t])=1+size t:=by rw[qR];show 1+(size t+0)=_;omega
theorem qn8{P:Nat->Prop}(N:Int)(g:N<=1000000)(b:P N.toNat)(a:∀ j:Nat,(j:Int)<N->iw .i64 (qj (j:Int) 1)=((j+1:Nat):Int)->P (j+1)->P j):∀ j:Nat,j<=N.toNat->P j:=by
 intro j e;obtain⟨d,f⟩:∃ d,N.toNat=j+d:=⟨N.toNat-j,by omega⟩
 induction d generalizing j with
 | zero =>
   have:j=N.toNat:=by omega
   subst this;exact b
 | succ d c =>
   refine a j (by omega) ?_ (c (j+1) (by omega) (by omega));unfold qj;rw[jJ (by omega)];omega
theorem qJN{l:List Pw}{p:Pw}(a:p∈l)(h:8<p.2):8<(yf l++yj l).length:=by
 have:(List.replicate p.2.toNat p.1).length<=(yf l).length:=wD (vc (kT (f := λ p:Pw=>List.replicate p.2.toNat p.1) a)).length_le (by unfold yf;rw[wad];exact wa _);rw[kH]at this;rw[wc];omega
theorem qKw{l:List Pw}{p:Pw}(a:p∈l)(h:p.2 < -8):8<(yf l++yj l).length:=by
 have:(List.replicate (-p.2).toNat (apT Ji [p.1])).length<=(yj l).length:=wD (vc (kT (f := λ p:Pw=>List.replicate (-p.2).toNat (apT Ji [p.1])) a)).length_le (by unfold yj;rw[wad];exact wa _);rw[kH]at this;rw[wc];omega
theorem qCv(o:List T):size (JT o)<=1+szL o:=by
 unfold JT;split
 ·rw[qR];show 1+0<=_;omega
 ·split
  ·rename_i _ a
   have:o.getD 0 zT∈o:=by
    cases o with
    | nil=>cases a
    | cons x r=>exact wh ..
   have:=qcc this;omega
  ·rw[qR];exact wa _
theorem qo1{l:List Pw}(a:∀ p∈l,size p.1<=400):∀(ks:List Pw),(∀ p∈ks,p∈l/\-8<=p.2/\p.2<=8)->(yf ks).length<=8*ks.length/\(yj ks).length<=8*ks.length/\szL (yf ks)<=3200*ks.length/\szL (yj ks)<=3208*ks.length
 | [],_=>⟨wa _,wa _,wa _,wa _⟩
 | p::ks,h=>by
   obtain⟨k,j,i3,i⟩:=qo1 a ks λ q b=>h q (wg _ b);obtain⟨d,n,m⟩:=h p (wh ..);have c:=a p d;have e1:yf (p::ks)=List.replicate p.2.toNat p.1++yf ks:=by rw[show p::ks=[p]++ks from rfl,qrG,qsB]
   have e:yj (p::ks)=List.replicate (-p.2).toNat (apT Ji [p.1])++yj ks:=by rw[show p::ks=[p]++ks from rfl,qsS,qsK]
   have g:p.2.toNat*size p.1<=8*400:=vR (by omega) c;have f:(-p.2).toNat*(1+size p.1)<=8*401:=vR (by omega) (by omega);rw[e1,e,qhk,qhk,qCw,qCw,qAX];simp only[wc,kH,wu];refine⟨by omega,by omega,by omega,by omega⟩
def qmg(o:List T):T × Int:=if 8<o.length then(zT,3)else if qJ (JT o)≠0 then(zT,qJ (JT o))else(JT o,0)
theorem qo7{l:List Pw}(h:Jl l=0):qaW l=qmg (yf l++yj l):=by
 unfold qaW qmg;rw[if_neg (by omega)]
theorem qAs(l:List Pw)(Q:szP l<=1000000000):Ev (λ m _=>Ja m l) (qaW l):=by
 refine waD ?_;simp only[qtG,qcI];refine wav (qp1 l Q) (waw (λ h=>?_) λ h=>?_)
 ·rw[bnt,qg]at h;unfold qaW;rw[if_pos h];exact wax _
 rw[bnf,qk]at h;obtain⟨_,H,Y,X⟩:=qbu h;have c:∀ p∈l,size p.1<=400 := λ p A=>QI (X p A).1;rw[qo7 h]
 have D:=qs (P := λ i=>(∀ p∈l.take i,p∈l/\-8<=p.2/\p.2<=8)->Ev (λ m k=>(qz m k).1 l l.length i 0 [] 0 [] (yf (l.take i)) (yj (l.take i))) (qmg (yf l++yj l))) l (by omega)
  (λ F t=>by
   refine waC ?_;simp only[qkH,qcW,qh];rw[wE]at t |-
   obtain⟨b1,b2,b3,Z⟩:=qo1 c l t;refine waA F (wav (quv (yf l) (yj l) (by omega)) ?_);have ho:szL (yf l++yj l)<=10000000:=by rw[qhk];omega
   generalize yf l++yj l=o at *;have S:=jF o;have R:=qCv o;unfold qmg;refine waw (λ b=>?_) λ b=>?_
   ·rw[qw]at b;rw[if_pos (by omega)];exact wax _
   rw[qt]at b;rw[if_neg (by omega)]
   have f:∀ u:T,u=JT o->Ev (λ m _=>qa (yA m u) λ v=>cond (qe (ieq v 0)) (some (T.mk 0 [] 0 [],v)) (some (u,0))) (if qJ (JT o)≠0 then(zT,qJ (JT o))else(JT o,0)):=by
    intro u N;subst N;refine wav (qcy _ (by omega)) (waw (λ h=>?_) λ h=>?_)
    ·rw[bnt,qg]at h;rw[if_pos h];exact wax _
    ·rw[bnf,qk]at h;rw[if_neg (by omega)];exact wax _
   have y:∀(n:List UInt8) (x:List T),Ev (λ m _=>qdX m n x) (apT n x) := λ n x=>waD (wax _);refine wav (y [109,117,108] o) (waw (λ G=>?_) λ G=>?_)
   ·rw[qk]at G;exact wav (y [111,110,101] []) (f _ (by unfold JT;rw[if_pos (by omega)];rfl))
   ·rw[qg]at G;refine waw (λ C=>?_) λ C=>?_
    ·rw[qk]at C;refine way (a:=o.getD 0 zT) ?_ (f _ (by unfold JT;rw[if_neg (by omega),if_pos (by omega)]));rw[JS,List.getD_eq_getElem?_getD];cases o with
     | nil=>simp at C
     | cons x r=>rfl
    ·rw[qg]at C;exact f _ (by unfold JT;rw[if_neg (by omega),if_neg (by omega)];rfl))
  (λ i p z hd F W V B t=>by
   refine waC ?_;simp only[qkH,qcW];have s:=wb z;have hn:=Y p s;have hz:=c p s;have U:=(List.getElem?_eq_some_iff.1 z).1;refine waz F (way W (waw (λ b=>?_) λ b=>?_))
   ·rw[qw]at b;unfold qmg;rw[if_pos (qJN s b)];exact wax _
   rw[qt]at b;refine waw (λ w=>?_) λ w=>?_
   ·rw[qw]at w;unfold qmg;rw[if_pos (qKw s w)];exact wax _
   rw[qt]at w;obtain⟨b1,b2,b3,Z⟩:=qo1 c _ t;have O:(l.take i).length<=200:=by rw[wo];omega
   have B:=B λ q g=>by
    rw[zZ z]at g;rcases ww.1 g with g | g
    ·exact t q g
    ·rw[show q=p from by simpa using g];exact⟨s,w,b⟩
   rw[zZ z,qrG,qsS,qsB,qsK]at B;generalize yf (l.take i)=I at *;generalize yj (l.take i)=J at *
   have K:=qn8 (P := λ j=>Ev (λ m k=>(qz m k).2.2 l l.length i (-p.2) j 0 [] 0 p.1.kind p.1.name p.1.sort p.1.kids p.2 [] (I++List.replicate p.2.toNat p.1) (J++List.replicate j (apT Ji [p.1]))) (qmg (yf l++yj l))) (-p.2) (by omega)
    (by
     refine waC ?_;simp only[qj4,qcH];refine waA (qt.2 (by omega)) ?_;rw[V];exact B)
    (λ j E d e=>by
     refine waC ?_;simp only[qj4,qcH,qh];rw[show T.mk p.1.kind p.1.name p.1.sort p.1.kids=p.1 from qh p.1,d];refine waz (qw.2 E) (wav (qlh p.1 (by omega)) (wav (a:=apT Ji [p.1]) (waD (wax _)) (waz (qU (by rw[wc,kH];omega) (by omega)) ?_)));refine e.congr λ m k=>?_;rw[vg,wi])
   have M:=qn8 (P := λ j=>Ev (λ m k=>(qz m k).2.1 l l.length i p.2 j 0 [] 0 p.1.kind p.1.name p.1.sort p.1.kids p.2 [] (I++List.replicate j p.1) J) (qmg (yf l++yj l))) p.2 (by omega)
    (by
     refine waC ?_;simp only[qky,qcA];refine waA (qt.2 (by omega)) ?_;rw[show iw .i64 (zO 0 p.2)=-p.2 from by unfold zO;rw[jJ (by omega)];omega];have:=K 0 (we _);rw[vm,wA]at this;exact this)
    (λ j E d e=>by
     refine waC ?_;simp only[qky,qcA,qh];rw[show T.mk p.1.kind p.1.name p.1.sort p.1.kids=p.1 from qh p.1,d];refine waz (qw.2 E) (wav (qlh p.1 (by omega)) (waz (qU (by rw[wc,kH];omega) (by omega)) ?_));refine e.congr λ m k=>?_;rw[vg,wi])
   have:=M 0 (we _);rw[vm,wA]at this;exact this)
 refine waE (L := λ m k=>(qz m k).1 l l.length 0 0 [] 0 [] [] []) ?_;exact(D 0 (we _)) (λ p A=>by rw[xE]at A;cases A)
theorem qKH(l:List Pw)(g:szP l<=100000000):Ev (λ m _=>qdm m l) ((),l,()):=by
 have h:=qcd l;refine waD ?_;simp only[qrb,qbx]
 have a:=qs (P := λ i=>Ev (λ m k=>Qa m k l l.length i (l.take i)) ((),l,())) l (by omega)
  (λ b=>by
   refine waC ?_;simp only[qim,qbj];refine waA b ?_;rw[wE];exact wax _)
  (λ i p c j b e d f=>by
   refine waC ?_;simp only[qim,qbj,qh];have o:=qeT (wb c);have n:(l.take i).length<=l.length:=by rw[wo];omega
   refine waz b (way e (wav (qlh p.1 (by omega)) (waz (qU (by omega) (by omega)) ?_)));rw[d];refine f.congr λ m k=>?_;rw[zZ c])
 refine waE (L := λ m k=>Qa m k l l.length 0 []) ?_;exact a 0 (we _)
theorem qxs(p:Pw)(l:List Pw):qmf (p::l)=((decide (p.2 < -1000)||decide (1000<p.2))||qmf l):=rfl
theorem qKv(l:List Pw)(r:l.length<=1000000000):∃ v,Ev (λ m _=>zQ m l) v/\ile 0 v=qmf l:=by
 have b:=qs (P := λ i=>∃ v,Ev (λ m k=>qB m k l l.length i) v/\ile 0 v=qmf (l.drop i)) l (by omega)
  (λ a=>by
   refine⟨-1,waC ?_,by rw[wU];rfl⟩;simp only[yr,qW];exact waA a (wax _))
  (λ i p q n a f j o=>by
   obtain⟨v,c,d⟩:=o;rw[n,qxs]
   have e:Ev (λ m _=>qbZ m (p.1,p.2)) (decide (p.2 < -1000)||decide (1000<p.2)):=by
    refine waD ?_;simp only[qoO,qc0];refine waw (λ h=>?_) λ h=>?_
    ·rw[qw]at h;exact waB (by rw[decide_eq_true h];rfl)
    ·rw[qt]at h;exact waB (by rw[decide_eq_false (show ¬ p.2 < -1000 by omega)];rfl)
   cases g:decide (p.2 < -1000)||decide (1000<p.2)with
   | true =>
     refine⟨i,waC ?_,by rw[xz,qa1];omega⟩;simp only[yr,qW,qh];exact waz a (way f (wav e (waz g (wax _))))
   | false =>
     refine⟨v,waC ?_,by rw[xO];exact d⟩;simp only[yr,qW,qh];refine waz a (way f (wav e (waA g ?_)));rw[j];exact c)
 obtain⟨v,c,d⟩:=b 0 (we _);refine⟨v,waD ?_,by rw[d,wO]⟩;simp only[qbg,zx];exact waE (L := λ m k=>qB m k l l.length 0) c
def qou(l:List Pw):List Pw × Int:=if qmf l then([],7)else if 200<l.length then([],3)else(l,0)
theorem qJX(l:List Pw)(c:l.length<=1000000000):Ev (λ m _=>qdn m l) (qou l):=by
 obtain⟨v,b,d⟩:=qKv l c;refine waD ?_;simp only[qq1,qd0]
 have e:Ev (λ m _=>zu m l) (qmf l):=by
  refine waD ?_;simp only[qaB,ye];exact wav b (waB d)
 unfold qou;refine wav e (waw (λ h=>?_) λ h=>?_)
 ·rw[if_pos h];exact wax _
 ·rw[if_neg (by rw[h];decide)];refine waw (λ a=>?_) λ a=>?_
  ·rw[qw]at a;rw[if_pos (by omega)];exact wax _
  ·rw[qt]at a;rw[if_neg (by omega)];exact wax _
theorem qFu(S:Nat):∀ l:List Pw,(∀ p∈l,size p.1<=S)->szP l<=l.length*S
 | [],_=>by simp[szP]
 | p::l,h=>by
   have c:=qFu S l λ q a=>h q (wg _ a);have b:=h p (wh ..);rw[qaE,wu,wN];omega
theorem qtK(a b:List Pw):qkN a b=if Jl a≠0 then([],Jl a)else if Jl b≠0 then([],Jl b)else qou (QS a b):=rfl
theorem qgA{a b:List Pw}(f:Jl a=0)(e:Jl b=0)(j:Nat) :
  JL (QS a (b.take j))/\(QS a (b.take j)).length<=400/\szP (QS a (b.take j))<=160000/\QO (QS a (b.take j))<=400000:=by
 obtain⟨s,k,m,i⟩:=qbu f;obtain⟨r,v,l,h⟩:=qbu e;have d:∀ p∈b.take j,p∈b := λ p c=>ka c;obtain⟨A,g,z,q⟩:=qEP f e 400 (λ p c=>QI (i p c).1) (λ p c=>QI (h p c).1) j;have o:=qFu 400 _ q;obtain⟨y,_⟩:=qsh (b.take j) a;have x:=qnd 1000 a m;have w:=qnd 1000 (b.take j) λ p c=>l p (d p c);have n:(b.take j).length<=200:=by rw[wo];omega
 refine⟨qpE _ _ s λ p c=>r.2 p (d p c),g,wD o (wn 400 g),?_⟩;have u:a.length*1000<=200*1000:=wn _ k;have t:(b.take j).length*1000<=200*1000:=wn _ n;omega
theorem qJW(a b:List Pw)(s:szP a<=100000000)(y:szP b<=100000000):Ev (λ m _=>qgi m a b) (qkN a b):=by
 have w:=qcd b;refine waD ?_;simp only[qvA,qdv];rw[qtK];refine wav (qp1 a (by omega)) (waw (λ h=>?_) λ h=>?_)
 ·rw[bnt,qg]at h;rw[if_pos h];exact wax _
 rw[bnf,qk]at h;rw[if_neg (by omega)];refine wav (qp1 b (by omega)) (waw (λ c=>?_) λ c=>?_)
 ·rw[bnt,qg]at c;rw[if_pos c];exact wax _
 rw[bnf,qk]at c;rw[if_neg (by omega)];refine wav (qKH a s) ?_
 have d:=qs (P := λ i=>Ev (λ m k=>Jz m k b b.length i (QS a (b.take i))) (qou (QS a b))) b (by omega)
  (λ e=>by
   refine waC ?_;simp only[qlB,qdL];rw[wE];obtain⟨_,j,_,_⟩:=qgA h c b.length;rw[wE]at j;exact waA e (wav (qJX _ (by omega)) (wax _)))
  (λ i p f x e r q t=>by
   refine waC ?_;simp only[qlB,qdL,qh];have g:=wb f;obtain⟨u,j,A,z⟩:=qgA h c i;obtain⟨_,_,o,l⟩:=qbu c;have v:=QI (l p g).1;have n:=o p g;refine waz e (way r (wav (quF u.1 p.1 p.2 (by omega) (by omega) (by omega)) ?_));rw[q];refine t.congr λ m k=>?_;rw[zZ f,qxp])
 refine waE (L := λ m k=>Jz m k b b.length 0 a) ?_;exact d 0 (we _)
end Go.AmZ
namespace Go.AmZ
open Go Go.GxZ
theorem qzq(t:T):Ev (λ m _=>qbc m t) (qcO t):=by
 refine waD ?_;simp only[qtx,qfK];unfold qcO;by_cases a:t.kind=3
 ·refine waz (qk.2 a) (waw (λ h=>?_) λ h=>(waw (λ b=>?_) λ b=>?_))
  ·rw[jf]at h;exact waB (by rw[a,h];rfl)
  ·rw[jf]at b;exact waB (by rw[a,b];rfl)
  ·rw[jI]at h b
   exact waB (by
    have d:(t.name==qeg)=false:=by rw[beq_eq_false_iff_ne];exact h
    have c:(t.name==Ji)=false:=by rw[beq_eq_false_iff_ne];exact b
    rw[a,d,c];rfl)
 ·exact waA (qg.2 a) (waB (by have:(t.kind==3)=false:=by rw[beq_eq_false_iff_ne];exact a
                              rw[this];rfl))
theorem qFJ(t:T):size t<=1000000000->Ev (λ m _=>je m t) (arT t):=by
 induction t using T.ind with
 | h t o =>
   intro v;have w:=yt t;refine waD ?_;simp only[qxP,qeD,qh];refine wav (qzq t) (waw (λ h=>?_) λ h=>?_)
   ·rw[bnt]at h;exact waB (by rw[qtY,h];rfl)
   rw[bnf]at h;obtain⟨y,d⟩:=qqU.1 h;have g:arT t=(arK t&&(t.kids.map arT).all id):=by rw[qtY,h];rfl
   have c:arK t=true->Ev (λ m _=>Jb m (je m) m t.kids.length 0 t.kind t.name t.sort t.kids) (arT t):=by
    intro b;rw[g,b,kr]
    have j:=qs (P := λ i=>Ev (λ m k=>Jb m (je m) k t.kids.length i t.kind t.name t.sort t.kids) (((t.kids.drop i).map arT).all id)) t.kids (by omega)
     (λ l=>by
      refine waC ?_;simp only[qmM,qer];refine waA l (waB ?_);rw[wU];rfl)
     (λ i x p s l r q u=>by
      refine waC ?_;simp only[qmM,qer,qh];have n:=wb p;have z:=jy t x n;rw[s,wm,kC];refine waz l (way r (wav (o x n (by omega)) (waw (λ f=>?_) λ f=>?_)))
      ·rw[bnt]at f;rw[f];exact wax _
      ·rw[bnf]at f;rw[f,q];exact u)
    refine waE (L := λ m k=>Jb m (je m) k t.kids.length 0 t.kind t.name t.sort t.kids) ?_;exact(j 0 (we _)).res (by rw[wO])
   have e:arK t=false->Ev (λ _ _=>some false) (arT t) := λ b=>waB (by rw[g,b];rfl);rcases d with a | a | a
   ·refine waz (by rw[a];rfl) (waw (λ b=>?_) λ b=>?_)
    ·rw[qw]at b;exact e (by unfold arK;rw[a,decide_eq_true (show t.kids.length<2 by omega)];rfl)
    ·rw[qt]at b;exact waA (by rw[a];rfl) (waA (by rw[a];rfl) (c (by unfold arK;rw[a,decide_eq_false (show ¬ t.kids.length<2 by omega)];rfl)))
   ·refine waA (by rw[a];rfl) (waz (by rw[a];rfl) (waw (λ b=>?_) λ b=>?_))
    ·rw[bnt,qg]at b;exact e (by unfold arK;rw[a,show(t.kids.length != 1)=true from by rw[bne_iff_ne];omega];rfl)
    ·rw[bnf,qk]at b;exact waA (by rw[a];rfl) (c (by unfold arK;rw[a,show(t.kids.length != 1)=false from by rw[bne_eq_false_iff_eq];omega];rfl))
   ·refine waA (by rw[a];rfl) (waA (by rw[a];rfl) (waz (by rw[a];rfl) (waw (λ b=>?_) λ b=>?_)))
    ·rw[bnt,qg]at b;exact e (by unfold arK;rw[a,show(t.kids.length != 0)=true from by rw[bne_iff_ne];omega];rfl)
    ·rw[bnf,qk]at b;exact c (by unfold arK;rw[a,show(t.kids.length != 0)=false from by rw[bne_eq_false_iff_eq];omega];rfl)
theorem qwv(t:T)(n:Int):∀(l:List Pw) (s:List Pw × Bool),(l.foldl (yQ t n) s).1.length<=s.1.length+2*l.length
 | [],s=>by simp
 | x::l,s=>by
   have h:=qwv t n l (yQ t n s x)
   have:(yQ t n s x).1.length<=s.1.length+2:=by
    unfold yQ;simp only[wc];have a:(if s.2=false/\qp t x.1<0 then s.1++[(t,n)]else s.1).length<=s.1.length+1:=by split<;>simp
    have b:(if(if qp t x.1=0 then x.2+n else x.2)=0 then([]:List Pw)else[(x.1,if qp t x.1=0 then x.2+n else x.2)]).length<=1:=by generalize (if qp t x.1=0 then x.2+n else x.2)=z;split<;>simp
    omega
   rw[w7,wu];omega
theorem qDc{l:List Pw}(y:JL l)(t:T)(n:Int)(E:szP l+size t<=1000000000)(F:QO l+n.natAbs<=1000000000000):Ev (λ m _=>qia m l t n) ((),yz l t n,()):=by
 have G:=qcd l;refine waD ?_;simp only[qBF,qgS]
 have j:∀ i,((l.take i).foldl (yQ t n) ([],false)).1.length<=2*l.length := λ i=>by
  have:=qwv t n (l.take i) ([],false);have D:(l.take i).length<=l.length:=by rw[wo];omega
  simp only[wZ]at this;omega
 have w:=qs (P := λ i=>Ev (λ m k=>JG m k n ((l.take i).foldl (yQ t n) ([],false)).2 i t.kind t.name t.sort t.kids l ((l.take i).foldl (yQ t n) ([],false)).1) ((),yz l t n,())) l (by omega)
  (λ z=>by
   refine waC ?_;simp only[qqc,qgJ];refine waA z ?_;have:=j l.length;have u:=qIw y.2 y.1 t n;rw[wE]at this |-
   unfold qEt at u;refine waw (λ h=>?_) λ h=>?_
   ·rw[bnt]at h;rw[if_neg (by rw[h];decide)]at u;rw[show T.mk t.kind t.name t.sort t.kids=t from qh t,u];exact waz (qU (by omega) (by omega)) (wax _)
   ·rw[bnf]at h;rw[if_pos h]at u;rw[u];exact wax _)
  (λ i p A H z f B v=>by
   refine waC ?_;simp only[qqc,qgJ,qh];have x:=wb A;have J:=qeT x;have D:=j i;have I:=qzH l p x;have d:=y.2 p x;rw[zZ A,xk]at v;generalize (l.take i).foldl (yQ t n) ([],false)=s at *
   have r:∀(b:Bool) (o:List Pw),yQ t n s p=(o,b)->Ev (λ m k=>JG m k n b ((i+1:Nat):Int) t.kind t.name t.sort t.kids l o) ((),yz l t n,()) := λ b o e=>by
    have v:Ev (λ m k=>JG m k n (yQ t n s p).2 ((i+1:Nat):Int) t.kind t.name t.sort t.kids l (yQ t n s p).1) ((),yz l t n,()):=v;rw[e]at v;exact v
   have e1:iw .i64 (qj p.2 n)=p.2+n:=by unfold qj;exact jJ (by omega)
   rw[show T.mk t.kind t.name t.sort t.kids=t from qh t,B];have q:qe (ieq p.2 0)=true:=bnt.2 (qg.2 d);refine waz z (way f (wav (qh6 t (by omega) p.1 (by omega)) (waw (λ h=>?_) λ h=>?_)))
   ·rw[bnt]at h;refine waw (λ g=>?_) λ g=>?_
    ·rw[qw]at g;refine waz (qU (by omega) (by omega)) (way f (waA (qg.2 (by omega)) (waz q (waz (qU (by rw[wc];simp only[wu,wZ];omega) (by omega)) (r _ _ ?_)))));unfold yQ;rw[if_pos ⟨h,g⟩,if_neg (show ¬ qp t p.1=0 by omega),if_neg d,decide_eq_true (show qp t p.1<=0 by omega),xy]
    ·rw[qt]at g;refine way f (waw (λ a=>?_) λ a=>?_)
     ·rw[qk]at a;refine waw (λ c=>?_) λ c=>?_
      ·rw[bnt,qg,e1]at c;refine waz (qU (by omega) (by omega)) (r _ _ ?_);rw[e1];unfold yQ;rw[if_neg (by omega),if_pos a,if_neg c,decide_eq_true (show qp t p.1<=0 by omega),xy]
      ·rw[bnf,qk,e1]at c;refine r _ _ ?_;unfold yQ;rw[if_neg (by omega),if_pos a,if_pos c,decide_eq_true (show qp t p.1<=0 by omega),xy,wA]
     ·rw[qg]at a;refine waz q (waz (qU (by omega) (by omega)) (r _ _ ?_));unfold yQ;rw[if_neg (by omega),if_neg a,if_neg d,decide_eq_false (show ¬ qp t p.1<=0 by omega),Bool.or_false]
   ·rw[bnf]at h;refine way f (waw (λ a=>?_) λ a=>?_)
    ·rw[qk]at a;refine waw (λ c=>?_) λ c=>?_
     ·rw[bnt,qg,e1]at c;refine waz (qU (by omega) (by omega)) (r _ _ ?_);rw[e1];unfold yQ;rw[if_neg (by omega),if_pos a,if_neg c,decide_eq_true (show qp t p.1<=0 by omega),xy]
     ·rw[bnf,qk,e1]at c;refine r _ _ ?_;unfold yQ;rw[if_neg (by omega),if_pos a,if_pos c,decide_eq_true (show qp t p.1<=0 by omega),xy,wA]
    ·rw[qg]at a;refine waz q (waz (qU (by omega) (by omega)) (r _ _ ?_));unfold yQ;rw[if_neg (by rw[h];intro C;cases C.1),if_neg a,if_neg d,h,xz])
 refine waE (L := λ m k=>JG m k n false 0 t.kind t.name t.sort t.kids l []) ?_;exact w 0 (we _)
theorem qBC(t:T):∀(l:List Pw) (n:Int),n≠0->JL l->szP l+size t<=80000000->QO l+size t*n.natAbs<=100000000000->Ev (λ m _=>yg m l t n) ((),js t l n,()):=by
 induction t using T.ind with
 | h t y =>
   intro l n z w E H;have F:=yt t;have D:=qR t;refine waD ?_;simp only[quK,qcL,qh];have u:n.natAbs<=size t*n.natAbs:=vC _ (size_pos t);refine wav (qzq t) (waw (λ h=>?_) λ h=>?_)
   ·rw[bnt]at h;refine wav (qDc w t n (by omega) (by omega)) (waB ?_);rw[qf0,h];rfl
   rw[bnf]at h;obtain⟨M,p⟩:=qqU.1 h
   have b:∀ a:Int,a≠0->a.natAbs=n.natAbs->qaV t n=a->Ev (λ m _=>Qd m (yg m) m a 0 t.kind t.name t.sort t.kids l) ((),js t l n,()):=by
    intro a c s o;have f:js t l n=qe3 t.kids a l t.kids.length:=by rw[qf0,h,if_pos rfl,o];unfold qe3;rw[wE]
    rw[f]
    have g:=qs (P := λ i=>Ev (λ m k=>Qd m (yg m) k a i t.kind t.name t.sort t.kids (qe3 t.kids a l i)) ((),qe3 t.kids a l t.kids.length,())) t.kids (by omega)
     (λ r=>by
      refine waC ?_;simp only[qkv,qcF];exact waA r (wax _))
     (λ i x j G r q A B=>by
      refine waC ?_;simp only[qkv,qcF,qh];have v:=wb j;have N:=jy t x v;obtain⟨C,R,Q,O⟩:=qnQ a c (t.kids.take i) l w;have K:=Ql j;have J:szL t.kids+1=size t:=by unfold szL;omega
      have I:szL (t.kids.take i)*a.natAbs+size x*a.natAbs<=size t*n.natAbs:=by
       rw[<- wN,s];exact wn _ (by omega)
      refine waz r (way q (wav (y x v (qe3 t.kids a l i) a c C (by unfold qe3;omega) (by unfold qe3;omega)) ?_));rw[A];refine B.congr λ m k=>?_;rw[qwP j])
    refine waE (L := λ m k=>Qd m (yg m) k a 0 t.kind t.name t.sort t.kids l) ?_;exact g 0 (we _)
   have d:iw .i64 (zO 0 n)=-n:=by
    unfold zO;rw[jJ (by omega)];omega
   refine waw (λ e=>?_) λ e=>?_
   ·rw[jf]at e;rw[d];exact b (-n) (by omega) (by omega) (by unfold qaV;rw[if_pos (show t.name=Ji from e)])
   ·rw[jI]at e;exact b n z rfl (by unfold qaV;rw[if_neg (show ¬ t.name=Ji from e)])
theorem qzs(t:T)(c:size t<=1000000000):Ev (λ m _=>qhl m t) (ofP t):=by
 refine waD ?_;simp only[qDs,qmn,qh];unfold ofP;refine wav (qcx t c) (waw (λ h=>?_) λ h=>?_)
 ·rw[bnt,qg]at h;rw[if_pos h];exact wax _
 ·rw[bnf,qk]at h;have d:=QI h;rw[if_neg (by omega)];refine wav (qFJ t c) (waw (λ b=>?_) λ b=>?_)
  ·rw[bnt]at b;rw[if_pos b];exact wax _
  ·rw[bnf]at b;rw[if_neg (by rw[b];decide)];refine wav (qBC t [] 1 (by decide) JL.nil (by show 0+_<=_;omega) (by show 0+size t*1<=_;omega)) (waw (λ a=>?_) λ a=>?_)
   ·rw[qw]at a;have a:(200:Int)<((js t [] 1).length:Int):=a;rw[if_pos (by omega)];exact wax _
   ·rw[qt]at a;have a:((js t [] 1).length:Int)<=200:=a;rw[if_neg (by omega)];exact wax _
theorem qsA(l:List Pw)(E:szP l<=1000000000):Ev (λ m _=>qdb m l) (Jl l):=by
 have F:=qcd l;refine waD ?_;simp only[qx8,qeO];unfold Jl;refine waw (λ h=>?_) λ h=>?_
 ·rw[qw]at h;rw[if_pos (by omega)];exact wax _
 rw[qt]at h;rw[if_neg (by omega)]
 have t:=qs (P := λ i=>Ev (λ m k=>Jd m k l i) (pvL (qdJ l i) (l.drop i))) l (by omega)
  (λ A=>by
   refine waC ?_;simp only[qmO,qeM];refine waA A (waB ?_);rw[wU];rfl)
  (λ i x v D A p C B=>by
   refine waC ?_;simp only[qmO,qeM,qh];have H:=qeT (wb v);rw[qjc v]at B;rw[D,pvL];have c:=qA6 (qdJ l i) x
   have b:∀ e:Int,pvK (qdJ l i) x=e->e≠0->Ev (λ _ _=>some e) (thn (pvK (qdJ l i) x) (pvL (some x.1) (l.drop (i+1)))) := λ e z s=>by
    rw[z];exact waB (by unfold thn;rw[if_neg s])
   have d:pvK (qdJ l i) x=0->Ev (λ m k=>Jd m k l ((i+1:Nat):Int)) (thn (pvK (qdJ l i) x) (pvL (some x.1) (l.drop (i+1)))) := λ z=>by
    rw[z];exact B.res (by unfold thn;rw[if_pos rfl])
   refine waz A (way p (wav (qcx x.1 (by omega)) (waw (λ r=>?_) λ r=>?_)))
   ·rw[bnt,qg]at r;exact b _ (by rw[c,if_pos r]) r
   rw[bnf,qk]at r;rw[if_neg (by omega)]at c;refine way p (wav (qzq x.1) (waw (λ o=>?_) λ o=>?_))
   ·exact b 1 (by rw[c,if_pos o]) (by decide)
   rw[if_neg (by rw[o];decide)]at c;refine way p (waw (λ u=>?_) λ u=>?_)
   ·rw[qk]at u;exact b 7 (by rw[c,if_pos (by omega)]) (by decide)
   rw[qg]at u;refine way p (waw (λ n=>?_) λ n=>?_)
   ·rw[qw]at n;exact b 7 (by rw[c,if_pos (by omega)]) (by decide)
   rw[qt]at n;refine way p (waw (λ g=>?_) λ g=>?_)
   ·rw[qw]at g;exact b 7 (by rw[c,if_pos (by omega)]) (by decide)
   rw[qt]at g;rw[if_neg (by omega)]at c;rw[C];refine waw (λ s=>?_) λ s=>?_
   ·rw[qw]at s;obtain⟨j,rfl⟩:∃ j,i=j+1:=⟨i-1,by omega⟩
    have y:j<l.length:=by have:=(List.getElem?_eq_some_iff.1 v).1;omega
    obtain⟨q,w⟩:∃ q,l[j]?=some q:=⟨_,List.getElem?_eq_getElem y⟩
    have G:=qeT (wb w);rw[qjc w]at c b d |-
    simp only at c;refine way (a:=q) (by rw[show zO ((j+1:Nat):Int) 1=((j:Nat):Int)from by unfold zO;omega,jJ (by omega),zM,w]) (way p (wav (qh6 q.1 (by omega) x.1 (by omega)) (waw (λ f=>?_) λ f=>?_)))
    ·rw[qa1]at f;exact b 5 (by rw[c,if_pos f]) (by decide)
    ·rw[qbv]at f;exact d (by rw[c,if_neg (by omega)])
   ·rw[qt]at s;have:i=0:=by omega
    subst this;exact d (by rw[c];rfl))
 refine waE (L := λ m k=>Jd m k l 0) ?_;exact t 0 (we _)
end Go.AmZ
namespace Go.AmZ
open Go Go.GxZ
theorem qtV(A:List T)(x:T)(h:(A.take 9).length<9):A.take 9++[x]=(A++[x]).take 9:=by
 rw[wo]at h;rw[kE (by omega),kE (by rw[wc];simp only[wu,wZ];omega)]
theorem qtF(A B:List T)(h:¬ (A.take 9).length<9):A.take 9=(A++B).take 9:=by
 rw[wo]at h;rw[kG (by omega)]
theorem qJg(l:List Pw)(C:l.length<=1000)(u:∀ p∈l,p.2.natAbs<=1000):Ev (λ m _=>qeB m l) ((yf l++yj l).take 9):=by
 refine waD ?_;simp only[qsL,qb2];have t:∀ A:List T,(A.take 9).length<=9 := λ A=>by rw[wo];omega
 have w:=qs (P := λ i=>Ev (λ m k=>(ql m k).2.2.1 l i ((yf l++yj (l.take i)).take 9)) ((yf l++yj l).take 9)) l (by omega)
  (λ g=>by
   refine waC ?_;simp only[qi3,qbS];refine waA g ?_;rw[wE];exact wax _)
  (λ i p o z g e q n=>by
   refine waC ?_;simp only[qi3,qbS];refine waz g ?_;have r:=u p (wb o);rw[zZ o,qsS,qsK,<- wi]at n;generalize yf l++yj (l.take i)=A at *;have b:iw .i64 (zO 0 p.2)=-p.2:=by unfold zO;rw[jJ (by omega)];omega
   have v:=qn8 (P := λ j=>Ev (λ m k=>(ql m k).2.2.2 l i j ((A++List.replicate j (apT Ji [p.1])).take 9)) ((yf l++yj l).take 9)) (-p.2) (by omega)
    (by
     refine waC ?_;simp only[qiX,qbW,qh];refine way e (waA (by rw[b,qt];omega) ?_);rw[q];exact n)
    (λ j s c a=>by
     refine waC ?_;simp only[qiX,qbW,qh];rw[vg,<- wi]at a;have B:=t (A++List.replicate j (apT Ji [p.1]));refine way e (waz (by rw[b,qw];exact s) (waw (λ h=>?_) λ h=>?_))
     ·rw[qw]at h;refine way e (wav (qeC [105,110,118] [p.1] (by simp)) (waz (qU (by omega) (by omega)) ?_));rw[c];refine a.congr λ m k=>?_;rw[<- qtV _ _ (by omega)];rfl
     ·rw[qt]at h;rw[q];refine n.congr λ m k=>?_;obtain⟨d,f⟩:∃ d,(-p.2).toNat=j+d:=⟨(-p.2).toNat-j,by omega⟩
      rw[f,<- vK,<- wi,<- qtF (A++List.replicate j (apT Ji [p.1])) _ (by omega)])
   have:=v 0 (we _);rw[vm,wA]at this;exact this)
 have y:=qs (P := λ i=>Ev (λ m k=>(ql m k).1 l i ((yf (l.take i)).take 9)) ((yf l++yj l).take 9)) l (by omega)
  (λ g=>by
   refine waC ?_;simp only[qiY,qbX];refine waA g ?_;rw[wE];have:=w 0 (we _);rw[xE,show yj []=[]from rfl,wA]at this;exact this)
  (λ i p o z g e q n=>by
   refine waC ?_;simp only[qiY,qbX];refine waz g ?_;have r:=u p (wb o);rw[zZ o,qrG,qsB]at n;generalize yf (l.take i)=A at *
   have x:=qn8 (P := λ j=>Ev (λ m k=>(ql m k).2.1 l i j ((A++List.replicate j p.1).take 9)) ((yf l++yj l).take 9)) p.2 (by omega)
    (by
     refine waC ?_;simp only[qi2,qb0,qh];refine way e (waA (by rw[qt];omega) ?_);rw[q];exact n)
    (λ j s c a=>by
     refine waC ?_;simp only[qi2,qb0,qh];rw[vg,<- wi]at a;have B:=t (A++List.replicate j p.1);refine way e (waz (by rw[qw];exact s) (waw (λ h=>?_) λ h=>?_))
     ·rw[qw]at h;refine way e (waz (qU (by omega) (by omega)) ?_);rw[c];refine a.congr λ m k=>?_;rw[<- qtV _ _ (by omega)]
     ·rw[qt]at h;rw[q];refine n.congr λ m k=>?_;obtain⟨d,f⟩:∃ d,p.2.toNat=j+d:=⟨p.2.toNat-j,by omega⟩
      rw[f,<- vK,<- wi,<- qtF (A++List.replicate j p.1) _ (by omega)])
   have:=x 0 (we _);rw[vm,wA]at this;exact this)
 refine waE (L := λ m k=>(ql m k).1 l 0 []) ?_;exact y 0 (we _)
theorem qJ8(S:Nat):∀ l:List Pw,(∀ p∈l,size p.1<=S)->(∀ x∈yf l,size x<=S)/\∀ x∈yj l,size x<=1+S:=by
 intro l h;refine⟨λ x a=>?_,λ x a=>?_⟩
 ·unfold yf at a;obtain⟨p,b,a⟩:=ke.1 a;rw[xh a];exact h p b
 ·unfold yj at a;obtain⟨p,b,a⟩:=ke.1 a;rw[xh a,qAX];have:=h p b;omega
theorem qFP(S:Nat):∀ l:List T,(∀ x∈l,size x<=S)->szL l<=l.length*S
 | [],_=>by simp[szL]
 | x::l,h=>by
   have c:=qFP S l λ q a=>h q (wg _ a);have b:=h x (wh ..);rw[qO,wu,wN];omega
theorem qAk(l:List Pw)(q:szP l<=1000000000):Ev (λ m _=>qcU m l) (qaW l):=by
 refine waD ?_;simp only[qAx,qiy,qh];refine wav (qsA l q) (waw (λ h=>?_) λ h=>?_)
 ·rw[bnt,qg]at h;unfold qaW;rw[if_pos h];exact wax _
 rw[bnf,qk]at h;obtain⟨_,j,y,w⟩:=qbu h;have f:∀ p∈l,size p.1<=400 := λ p s=>QI (w p s).1;rw[qo7 h];obtain⟨n,k⟩:=qJ8 400 l f
 have d:∀ x∈yf l++yj l,size x<=401 := λ x c=>by
  rcases ww.1 c with c | c
  ·have:=n x c;omega
  ·exact k x c
 refine wav (qJg l (by omega) y) ?_;generalize yf l++yj l=A at *;unfold qmg;refine waw (λ g=>?_) λ g=>?_
 ·rw[qw,wo]at g;rw[if_pos (by omega)];exact wax _
 rw[qt,wo]at g;rw[if_neg (by omega),kE (by omega)];have z:=qFP 401 A d;have t:=qCv A;have B:A.length*401<=8*401:=wn _ (by omega)
 have b:∀ u:T,u=JT A->Ev (λ m _=>qa (jg m u) λ v=>cond (qe (ieq v 0)) (some (T.mk 0 [] 0 [],v)) (some (u,0))) (if qJ (JT A)≠0 then(zT,qJ (JT A))else(JT A,0)):=by
  intro u o;subst o;refine wav (qcx _ (by omega)) (waw (λ h=>?_) λ h=>?_)
  ·rw[bnt,qg]at h;rw[if_pos h];exact wax _
  ·rw[bnf,qk]at h;rw[if_neg (by omega)];exact wax _
 refine wav (qeC [109,117,108] A (by omega)) (waw (λ i=>?_) λ i=>?_)
 ·rw[qk]at i;refine wav (qeC [111,110,101] [] (by simp)) (waA (qg.2 (by omega)) (b _ (by unfold JT;rw[if_pos (by omega)];rfl)))
 ·rw[qg]at i;refine waw (λ e=>?_) λ e=>?_
  ·rw[qk]at e;refine way (a:=A.getD 0 zT) ?_ (b _ (by unfold JT;rw[if_neg (by omega),if_pos (by omega)]));rw[JS,List.getD_eq_getElem?_getD];cases A with
   | nil=>simp at e
   | cons x r=>rfl
  ·rw[qg]at e;exact b _ (by unfold JT;rw[if_neg (by omega),if_neg (by omega)];rfl)
theorem qGn(l:List Pw)(n:l.length<=1000000000):Ev (λ m _=>qfh m l) (if qmf l then 7 else if 200<l.length then 3 else 0):=by
 refine waD ?_;simp only[qun,qcK]
 have b:=qs (P := λ i=>Ev (λ m k=>QZ m k l i) (if qmf (l.drop i)then(7:Int)else if 200<l.length then 3 else 0)) l (by omega)
  (λ c=>by
   refine waC ?_;simp only[qj8,qcZ];rw[wU,if_neg (by decide)];refine waA c (waw (λ h=>?_) λ h=>?_)
   ·rw[qw]at h;rw[if_pos (by omega)];exact wax _
   ·rw[qt]at h;rw[if_neg (by omega)];exact wax _)
  (λ i p j f c d e g=>by
   refine waC ?_;simp only[qj8,qcZ];rw[f,qxs];refine waz c (way d (waw (λ h=>?_) λ h=>?_))
   ·rw[qw]at h;rw[decide_eq_true h,xz,xz,if_pos rfl];exact wax _
   ·rw[qt]at h;rw[decide_eq_false (show ¬ p.2 < -1000 by omega),xO];refine way d (waw (λ a=>?_) λ a=>?_)
    ·rw[qw]at a;rw[decide_eq_true a,xz,if_pos rfl];exact wax _
    ·rw[qt]at a;rw[decide_eq_false (show ¬ 1000<p.2 by omega),xO,e];exact g)
 refine waE (L := λ m k=>QZ m k l 0) ?_;exact(b 0 (we _)).res (by rw[wO])
theorem qKk(a b:List Pw)(E:szP a<=100000000)(D:szP b<=100000000):Ev (λ m _=>qli m a b) (qkN a b):=by
 have B:=qcd b;have v:=qcd a;refine waD ?_;simp only[qBt,qg2];rw[qtK];refine wav (qsA a (by omega)) (waw (λ h=>?_) λ h=>?_)
 ·rw[bnt,qg]at h;rw[if_pos h];exact wax _
 rw[bnf,qk]at h;rw[if_neg (by omega)];refine wav (qsA b (by omega)) (waw (λ e=>?_) λ e=>?_)
 ·rw[bnt,qg]at e;rw[if_pos e];exact wax _
 rw[bnf,qk]at e;rw[if_neg (by omega)]
 have g:=qs (P := λ i=>Ev (λ m k=>qas m k b i (QS a (b.take i))) (qou (QS a b))) b (by omega)
  (λ j=>by
   refine waC ?_;simp only[qp4,qgZ];rw[wE];obtain⟨_,q,_,_⟩:=qgA h e b.length;rw[wE]at q;refine waA j (wav (qGn _ (by omega)) ?_);unfold qou;by_cases f:qmf (QS a b)=true
   ·rw[if_pos f,if_pos f];exact waz rfl (wax _)
   ·rw[if_neg f,if_neg f];by_cases d:200<(QS a b).length
    ·rw[if_pos d,if_pos d];exact waz rfl (wax _)
    ·rw[if_neg d,if_neg d];exact waA rfl (wax _))
  (λ i p l C j o w y=>by
   refine waC ?_;simp only[qp4,qgZ,qh];have n:=wb l;obtain⟨z,q,G,F⟩:=qgA h e i;obtain⟨_,_,u,s⟩:=qbu e;have A:=QI (s p n).1;have t:=u p n;refine waz j (way o (way o (wav (qDc z p.1 p.2 (by omega) (by omega)) ?_)));rw[w];refine y.congr λ m k=>?_;rw[zZ l,qxp])
 refine waz (qU (by simp only[wZ];omega) (by omega)) ?_;have c:Ev (λ m _=>qas m m b 0 a) (qou (QS a b)):=waE (L := λ m k=>qas m k b 0 a) (g 0 (we _));exact Ev.case (λ h=>by rw[h]at c |-;exact c) λ x r h=>by rw[h]at c |-;exact c
end Go.AmZ
namespace Go.AmZ
open Go Go.GxZ Go.Lib
theorem qly{t:T}(h:qce t=0):qJ t=0/\zg t=0:=by
 unfold qce at h;exact qfG h
theorem qnw{t:T}(h:zg t=0){n:List UInt8}(i:isN t n=true){a b c:Int}(g:qC n=(a,b,c)):a<=(t.kids.length:Int)/\(t.kids.length:Int)<=b/\∀ k∈t.kids,zg k=0:=by
 obtain⟨d,rfl⟩:=yJ.1 i;obtain⟨l,j⟩:=qaq d h;obtain⟨_,f,e,_⟩:=qnX d l;rw[g]at f e;exact⟨f,e,j⟩
end Go.AmZ
namespace Go.AmZ
open Go Go.GxZ
def Cl(P:T->Prop):Prop:=∀ t:T,t.kind=3->P t->∀ k∈t.kids,P k
theorem qlo:∀(n:Nat) (a b:List T),a.length+b.length<=n->∀ x∈zj a b,x∈a\/x∈b
 | _,[],b,_,x,h=>by rw[zj]at h;exact .inr h
 | _,z::a,[],_,x,h=>by rw[zj]at h;exact .inl h
 | 0,z::a,y::b,c,x,h=>by simp at c
 | n+1,z::a,y::b,c,x,h=>by
   simp only[wu]at c;rw[zj]at h;split at h
   ·rcases wy.1 h with rfl | h
    ·exact .inl (wh ..)
    ·rcases qlo n a (y::b) (by simp;omega) x h with h | h
     ·exact .inl (wg _ h)
     ·exact .inr h
   ·split at h
    ·rcases wy.1 h with rfl | h
     ·exact .inr (wh ..)
     ·rcases qlo n (z::a) b (by simp;omega) x h with h | h
      ·exact .inl h
      ·exact .inr (wg _ h)
    ·rcases qlo n a b (by omega) x h with h | h
     ·exact .inl (wg _ h)
     ·exact .inr (wg _ h)
theorem qkL:∀(b:List (List T)) (a:List T),∀ x∈b.foldl zj a,x∈a\/∃ l∈b,x∈l
 | [],a,x,h => .inl h
 | l::b,a,x,h=>by
   rcases qkL b (zj a l) x h with h | ⟨m,c,h⟩
   ·rcases qlo _ a l (wa _) x h with h | h
    ·exact .inl h
    ·exact .inr ⟨l,wh ..,h⟩
   ·exact .inr ⟨m,wg _ c,h⟩
theorem qIs{P:T->Prop}(g:Cl P)(t:T):P t->∀ x∈jV t,P x:=by
 refine T.ind (P := λ t=>P t->∀ x∈jV t,P x) ?_ t;intro t d b x a;rw[qki]at a;split at a
 ·cases a
 ·split at a
  ·rename_i e;rcases qkL _ _ x a with h | ⟨l,f,h⟩
   ·cases h
   ·obtain⟨k,c,rfl⟩:=wx.1 f;exact d k c (g t (yJ.1 e).1 b k c) x h
  ·rw[wF.1 a];exact b
theorem qwM{P:T->Prop}(e:Cl P){l:List T}(h:∀ k∈l,P k):∀ x∈zU l,P x:=by
 intro x b;rcases qkL _ _ x b with a | ⟨m,c,a⟩
 ·cases a
 ·obtain⟨k,d,rfl⟩:=wx.1 c;exact qIs e k (h k d) x a
theorem qJY{P:T->Prop}{l:List Pw}{t:T}(n:Int)(a:P t)(c:∀ p∈l,P p.1):∀ p∈yz l t n,P p.1:=by
 intro p b;rcases qnN l t n p b with h | h
 ·rw[h];exact a
 ·exact c p h
theorem qKR{P:T->Prop}(f:Cl P)(t:T):P t->∀(l:List Pw) (n:Int),(∀ p∈l,P p.1)->∀ p∈js t l n,P p.1:=by
 refine T.ind (P := λ t=>P t->∀(l:List Pw) (n:Int),(∀ p∈l,P p.1)->∀ p∈js t l n,P p.1) ?_ t;intro t d b l n a;rw[qf0];split
 ·rename_i e;have g:=(qqU.1 e).1;exact qCh t.kids (qaV t n) (λ l=>∀ p∈l,P p.1) (λ k c l a=>d k c (f t g b k c) l _ a) l a
 ·exact qJY n b a
theorem qis{P:T->Prop}(c:Cl P){t:T}(b:P t):∀ p∈(ofP t).1,P p.1:=by
 intro p a;unfold ofP at a;split at a
 ·cases a
 ·split at a
  ·cases a
  ·split at a
   ·cases a
   ·exact qKR c t b [] 1 (λ _ h=>by cases h) p a
theorem qCs{P:T->Prop}{a b:List Pw}(g:∀ p∈a,P p.1)(f:∀ p∈b,P p.1):∀ p∈(qkN a b).1,P p.1:=by
 intro p c;unfold qkN at c;split at c
 ·cases c
 ·split at c
  ·cases c
  ·split at c
   ·cases c
   ·split at c
    ·cases c
    ·rcases qrU b a p c with⟨q,d,e⟩ | ⟨q,d,e⟩
     ·rw[<- e];exact g q d
     ·rw[<- e];exact f q d
theorem qAK{l:List Pw}{x:T}(h:x∈yf l):∃ p∈l,x=p.1:=by
 unfold yf at h;obtain⟨p,a,h⟩:=ke.1 h;exact⟨p,a,xh h⟩
theorem qBd{l:List Pw}{x:T}(h:x∈yj l):∃ p∈l,x=apT Ji [p.1]:=by
 unfold yj at h;obtain⟨p,a,h⟩:=ke.1 h;exact⟨p,a,xh h⟩
theorem JV:Cl λ t=>zg t=0 := λ t a h=>(qaq a h).2
theorem qpB:∀(l:List Int),(∀ y∈l,y=0)->l.foldl thn 0=0
 | [],_=>rfl
 | z::l,h=>by
   rw[QF,h z (wh ..)];exact qpB l λ y a=>h y (wg _ a)
theorem qin{t:T}(h:qcs t=0)(c:∀ k∈t.kids,zg k=0):zg t=0:=by
 rw[qmF];split
 ·rfl
 ·rw[h];refine qpB _ λ y b=>?_;obtain⟨k,a,rfl⟩:=wx.1 b;exact c k a
theorem qfP{n:List UInt8}{ks:List T}(b:(qC n).2.2≠0)(d:(qC n).1<=(ks.length:Int))(c:(ks.length:Int)<=(qC n).2.1)(a:qah (apT n ks)=false):qcs (apT n ks)=0:=by
 unfold qcs;show(if(3:Int)≠3 then(0:Int)else if(qC n).2.2=0 then 10 else if(ks.length:Int)<(qC n).1\/(qC n).2.1<(ks.length:Int)then 6 else if qah (apT n ks)then 10 else 0)=0;rw[if_neg (by decide),if_neg b,if_neg (by omega),a];rfl
theorem qjD{n:List UInt8}(c:n≠qg7)(b:n≠nSk)(a:n≠qsE)(ks:List T):qah (apT n ks)=false:=by
 unfold qah;rw[if_neg (show ¬ (apT n ks).name=qg7 from c),if_neg (show ¬ ((apT n ks).name=nSk\/(apT n ks).name=qsE)from λ h=>h.elim b a)]
theorem qbf:zg zT=0:=by rw[qmF];rfl
theorem qaN{P:T->Prop}(c:Cl P)(a:P zT){t:T}(d:t.kind=3)(b:P t)(i:Nat):P (kid t i):=by
 by_cases h:i<t.kids.length
 ·exact c t d b _ (qBW h)
 ·unfold kid;rw[List.getD_eq_getElem?_getD,List.getElem?_eq_none (by omega)];exact a
theorem qqx{P:T->Prop}(a:P zT){l:List T}(h:∀ x∈l,P x):P (l.getD 0 zT):=by
 cases l with
 | nil=>exact a
 | cons x r=>exact h x (wh ..)
theorem qF0{t:T}(c:t.kind=3)(h:qJ t=0):t.kids.length<=8:=by
 unfold qJ at h;split at h
 ·rename_i b;exact absurd h b
 ·rename_i b;have a:=(qhW (t:=t) (by omega)).1;unfold yK qfC at a;rw[if_neg (by omega),if_pos c]at a;split at a
  ·cases a
  ·split at a
   ·split at a
    ·cases a
    ·omega
   ·cases a
theorem qxb{l:List Pw}(f:∀ p∈l,zg p.1=0)(h:(qaW l).2=0):zg (qaW l).1=0:=by
 by_cases b:Jl l=0
 ·rw[qo7 b]at h |-
  unfold qmg at h |-
  by_cases g:8<(yf l++yj l).length
  ·rw[if_pos g]at h;cases h
  rw[if_neg g]at h |-
  by_cases e:qJ (JT (yf l++yj l))=0
  ·rw[if_neg (by omega)]
   have a:∀ x∈yf l++yj l,zg x=0 := λ x c=>by
    rcases ww.1 c with c | c
    ·obtain⟨p,b,rfl⟩:=qAK c;exact f p b
    ·obtain⟨p,b,rfl⟩:=qBd c;exact qin (qfP (by decide) (by show(1:Int)<=1;decide) (by show(1:Int)<=1;decide) (qjD (by decide) (by decide) (by decide) _)) λ k d=>by rw[wF.1 d];exact f p b
   generalize yf l++yj l=o at *;unfold JT;split
   ·exact qin (qfP (by decide) (by show(0:Int)<=0;decide) (by show(0:Int)<=0;decide) (qjD (by decide) (by decide) (by decide) _)) λ k d=>by cases d
   ·split
    ·exact qqx (P := λ t=>zg t=0) qbf a
    ·rename_i j i;exact qin (qfP (by decide) (by show(2:Int)<=_;omega) (by show _<=(8:Int);omega) (qjD (by decide) (by decide) (by decide) _)) a
  ·rw[if_pos e]at h;exact absurd h e
 ·unfold qaW at h;rw[if_pos b]at h;exact absurd h b
theorem qyV{b:T}{l:List Pw}(e:zg b=0)(f:∀ p∈l,zg p.1=0)(h:(qhG b l).2=0):zg (qhG b l).1=0:=by
 unfold qhG at h |-
 split at h
 ·rename_i d;rw[if_pos d];exact e
 ·rename_i d;rw[if_neg d];split at h
  ·rename_i c;exact absurd h c
  ·rename_i c;rw[if_neg c];refine qin (qfP (by decide) (by show(2:Int)<=2;decide) (by show(2:Int)<=2;decide) (qjD (by decide) (by decide) (by decide) _)) λ k a=>?_;rcases wy.1 a with rfl | a
   ·exact e
   ·rw[wF.1 a];exact qxb f (by omega)
theorem qG6{n:List UInt8}{ks:List T}(i:∀ k∈ks,zg k=0)(A:qcs (apT n ks)=0)(a:(JQ (apT n ks)).2=0):zg (JQ (apT n ks)).1=0:=by
 have g:zg (apT n ks)=0:=qin A i;unfold JQ at a |-
 by_cases w:isD (apT n ks).name=true
 ·rw[if_pos w];show zg (qiN _)=0;unfold qiN;split
  ·rename_i c
   have m:(kid (apT n ks) 0).kind=3:=by
    unfold yh at c;split at c
    ·exact(yJ.1 c).1
    ·split at c
     ·rw[wd]at c;exact(yJ.1 c.1).1
     ·split at c
      ·rw[wd,wd]at c;exact(yJ.1 c.1.1).1
      ·split at c
       ·rw[wd,wd]at c;exact(yJ.1 c.1.1).1
       ·split at c
        ·exact(yJ.1 c).1
        ·cases c
   exact qaN JV qbf m (qaN JV qbf rfl g 0) _
  ·exact g
 rw[if_neg w]at a |-
 by_cases s:(apT n ks).name=qco
 ·rw[if_pos s]at a |-
  unfold qoj at a |-
  split at a
  ·rename_i d;exact absurd a d
  rename_i d;rw[if_neg d];split at a
  ·cases a
  rename_i h;rw[if_neg h];show zg (J5 (zU ks))=0
  have l:qJ (J5 (zU ks))=0:=by
   have:¬ qJ (J5 (zU (apT n ks).kids))≠0:=h;exact kY this
  have f:=qwM JV i;generalize zU ks=o at *;unfold J5 at l |-
  split
  ·exact qin (qfP (by decide) (by show(0:Int)<=0;decide) (by show(0:Int)<=0;decide) (qjD (by decide) (by decide) (by decide) _)) λ k z=>by cases z
  ·rename_i C;split
   ·exact qqx (P := λ t=>zg t=0) qbf f
   ·rename_i B;rw[if_neg C,if_neg B]at l;have x:o.length<=8:=qF0 (t:=apT qco o) rfl l;exact qin (qfP (by decide) (by show(2:Int)<=_;omega) (by show _<=(8:Int);omega) (qjD (by decide) (by decide) (by decide) _)) f
 rw[if_neg s]at a |-
 by_cases u:(apT n ks).name=qeg\/(apT n ks).name=Ji\/(apT n ks).name=qiD
 ·rw[if_pos u]at a |-
  unfold qlQ at a |-
  split at a
  ·rename_i d;exact absurd a d
  rename_i d;rw[if_neg d];exact qxb (qis JV g) a
 rw[if_neg u]at a |-
 by_cases v:(apT n ks).name=qe2
 ·rw[if_pos v]at a |-
  have p:=qaN JV qbf (t:=apT n ks) rfl g 0;have r:=qaN JV qbf (t:=apT n ks) rfl g 1;generalize kid (apT n ks) 0=b at *;generalize kid (apT n ks) 1=y at *;unfold qod at a |-
  split at a
  ·rename_i d;exact absurd a d
  rename_i d;rw[if_neg d];split at a
  ·rename_i e;rw[if_pos e];split at a
   ·rename_i h;exact absurd a h
   rename_i h;rw[if_neg h];split at a
   ·rename_i q;exact absurd a q
   rename_i q;rw[if_neg q];have j:=(yJ.1 e).1;exact qyV (qaN JV qbf j p 0) (qCs (P := λ t=>zg t=0) (qis JV (qaN JV qbf j p 1)) (qis JV r)) a
  ·rename_i e;rw[if_neg e];exact qyV p (qis JV r) a
 ·rw[if_neg v];exact g
theorem qjO:size zT=1:=by rw[qR];rfl
theorem qaQ(t:T)(i:Nat):size (kid t i)<=size t:=by
 have:=size_pos t;by_cases h:i<t.kids.length
 ·have:=jy t _ (qBW h);omega
 ·unfold kid;rw[List.getD_eq_getElem?_getD,List.getElem?_eq_none (by omega)];show size zT<=_;rw[qjO];omega
theorem qyO(l:List Pw):size (qaW l).1<=400:=by
 unfold qaW;have:=qjO;split
 ·show size zT<=_;omega
 ·split
  ·show size zT<=_;omega
  ·split
   ·show size zT<=_;omega
   ·rename_i h;exact QI (kY h)
theorem qC5(b:T)(l:List Pw):size (qhG b l).1<=401+size b:=by
 unfold qhG;have:=qjO;have:=qyO l;split
 ·show size b<=_;omega
 ·split
  ·show size zT<=_;omega
  ·rw[qR];show 1+(size b+(size (qaW l).1+0))<=_;omega
theorem qKr(n:List UInt8)(ks:List T):size (JQ (apT n ks)).1<=402+szL ks:=by
 have d:=qjO;have e:size (apT n ks)=1+szL ks:=qR _;unfold JQ;split
 ·show size (qiN _)<=_;unfold qiN;split
  ·have a:=qaQ (apT n ks) 0;have c:=qaQ (kid (apT n ks) 0) (if(apT n ks).name=qvn then 1 else 0);omega
  ·omega
 ·split
  ·unfold qoj;split
   ·show size zT<=_;omega
   ·split
    ·show size zT<=_;omega
    ·have a:=qCT (zU (apT n ks).kids);have c:=qef (apT n ks).kids;have f:szL (apT n ks).kids=szL ks:=rfl;show size (J5 _)<=_;omega
  ·split
   ·unfold qlQ;split
    ·show size zT<=_;omega
    ·have:=qyO (ofP (apT n ks)).1;omega
   ·split
    ·have g:=qaQ (apT n ks) 0;generalize kid (apT n ks) 0=b at *;generalize kid (apT n ks) 1=y at *;unfold qod;split
     ·show size zT<=_;omega
     ·split
      ·split
       ·show size zT<=_;omega
       ·split
        ·show size zT<=_;omega
        ·have a:=qC5 (kid b 0) (qkN (ofP (kid b 1)).1 (ofP y).1).1;have c:=qaQ b 0;omega
      ·have a:=qC5 b (ofP y).1;omega
    ·show size (apT n ks)<=_;omega
theorem qvO(t:T):size (zG t).1<=402*size t:=by
 refine T.ind (P := λ t=>size (zG t).1<=402*size t) ?_ t;intro t b;have f:=qjO;have g:=size_pos t;rw[qmK];split
 ·show size t<=_;omega
 ·split
  ·show size zT<=_;omega
  ·have e:=qKr t.name ((t.kids.map zG).map (·.1))
   have d:szL ((t.kids.map zG).map (·.1))<=402*szL t.kids:=by
    have:∀ l:List T,(∀ k∈l,k∈t.kids)->szL ((l.map zG).map (·.1))<=402*szL l:=by
     intro l
     induction l with
     | nil=>intro _;exact wa _
     | cons k l a =>
       intro h;have e:=b k (h k (wh ..));have d:=a λ x c=>h x (wg _ c);rw[wm,wm,qO,qO];omega
    exact this t.kids λ _ h=>h
   have i:size t=1+szL t.kids:=qR t;omega
theorem qrl:∀(l:List Int),l.foldl thn 0=0->∀ y∈l,y=0
 | [],_,y,a=>by cases a
 | z::l,h,y,a=>by
   rw[QF]at h;by_cases b:z=0
   ·subst b;rcases wy.1 a with rfl | a
    ·rfl
    ·exact qrl l h y a
   ·rw[qP _ b]at h;exact absurd h b
theorem qiu{t:T}(h:t.kind≠3):zG t=(t,0):=by rw[qmK,if_pos h]
theorem qHT{t:T}(d:t.kind=3)(h:(zG t).2=0):(∀ k∈t.kids,(zG k).2=0)/\zG t=JQ (apT t.name ((t.kids.map zG).map (·.1))):=by
 rw[qmK,if_neg (λ c=>c d)]at h |-
 split at h
 ·rename_i a;exact absurd h a
 ·rename_i a;rw[if_neg a];refine⟨λ k b=>?_,rfl⟩;exact qrl _ (kY a) _ (wx.2 ⟨_,wx.2 ⟨k,b,rfl⟩,rfl⟩)
theorem qG2(l:List T)(h:∀ k∈l,k.kind≠3):(l.map zG).map (·.1)=l:=by
 induction l with
 | nil=>rfl
 | cons k l a =>
   rw[wm,wm,qiu (h k (wh ..)),a λ x b=>h x (wg _ b)]
theorem qzh{t:T}(j:t.kind=3)(h:qcs t=0):qcs (apT t.name ((t.kids.map zG).map (·.1)))=0:=by
 obtain⟨m,l,i,b⟩:=qnX j h;refine qfP m (by simpa using l) (by simpa using i) ?_;unfold qah at b |-
 show(if t.name=qg7 then decide ((kid (apT t.name ((t.kids.map zG).map (·.1))) 0).kind≠2)else if t.name=nSk\/t.name=qsE then((t.kids.map zG).map (·.1)).any λ k=>decide (k.kind=3)||decide (k.sort≠1)else false)=false;split
 ·rename_i c;rw[if_pos c]at b;have a:(kid t 0).kind=2:=by simpa using b
  cases e:t.kids with
  | nil =>
    unfold kid at a;rw[e]at a;exact absurd a (by decide)
  | cons x r =>
    have f:kid t 0=x:=by unfold kid;rw[e];rfl
    rw[f]at a;show decide ((zG x).1.kind≠2)=false;rw[qiu (by omega)];simpa using a
 ·rename_i c;rw[if_neg c]at b;split
  ·rename_i g;rw[if_pos g]at b;rw[qG2 t.kids λ k a d=>?_]
   ·exact b
   ·have:=List.any_eq_false.1 b k a;rw[d]at this;exact this rfl
  ·rfl
theorem qHH(t:T):zg t=0->(zG t).2=0->zg (zG t).1=0:=by
 refine T.ind (P := λ t=>zg t=0->(zG t).2=0->zg (zG t).1=0) ?_ t;intro t e d c;by_cases a:t.kind=3
 ·obtain⟨i,h⟩:=qHT a c;obtain⟨m,l⟩:=qaq a d;rw[h]at c |-
  refine qG6 (λ k g=>?_) (qzh a m) c;obtain⟨q,f,rfl⟩:=wx.1 g;obtain⟨j,b,rfl⟩:=wx.1 f;exact e j b (l j b) (i j b)
 ·rw[qiu a];exact d
end Go.AmZ
namespace Go.AmZ
open Go Go.GxZ
theorem zr(t:T){b:Bool}(h:yh t=b):qiN t=if b then kid (kid t 0) (if t.name=qvn then 1 else 0)else t:=by unfold qiN;rw[h]
theorem qcm{t:T}(h:zg t=0){n:List UInt8}(e:isN t n=true){a b c:Int}(d:qC n=(a,b,c)){i:Nat}(f:(i:Int)<a):qc t.kids (i:Int)=some (kid t i):=by
 have:=(qnw h e d).1;exact qwd (by omega)
theorem qEQ(t:T)(J:t.kind=3)(I:zg t=0)(D:isD t.name=true)(L:size t<=1000000000):Ev (λ m _=>qct m t) (qiN t):=by
 have B:∀ i,size (kid t i)<=size t:=qaQ t;have r:∀ i j,size (kid (kid t i) j)<=1000000000 := λ i j=>by have:=qaQ (kid t i) j;have:=B i;omega
 have v:∀ i j k,size (kid (kid (kid t i) j) k)<=1000000000 := λ i j k=>by have:=qaQ (kid (kid t i) j) k;have:=r i j;omega
 have f:∀ i,zg (kid t i)=0 := λ i=>qaN JV qbf J I i;have x:∀ i j,(kid t i).kind=3->zg (kid (kid t i) j)=0 := λ i j h=>qaN JV qbf h (f i) j;have A:isN t t.name=true:=yJ.2 ⟨J,rfl⟩;have H:∀{u:T} {n:List UInt8},zg u=0->isN u n=true->∀{b c:Int},qC n=(1,b,c)->qc u.kids 0=some (kid u 0) := λ h d _ _ e=>qcm (i:=0) h d e (by decide);have q:∀{u:T} {n:List UInt8},zg u=0->isN u n=true->∀{b c:Int},qC n=(2,b,c)->qc u.kids 0=some (kid u 0) := λ h d _ _ e=>qcm (i:=0) h d e (by decide);have p:∀{u:T} {n:List UInt8},zg u=0->isN u n=true->∀{b c:Int},qC n=(2,b,c)->qc u.kids 1=some (kid u 1) := λ h d _ _ e=>qcm (i:=1) h d e (by decide);have E:qC qn7=(2,2,1):=by decide
 have G:qC qnr=(2,2,1):=by decide
 have z:qC qhS=(2,2,1):=by decide
 have F:qC nPk=(1,1,1):=by decide
 have y:qC qew=(2,2,1):=by decide
 unfold isD at D;simp only[kg,beq_iff_eq]at D;refine waD ?_;simp only[qrX,qe1,qh]
 have l:∀{a b c:Int},qC t.name=(a,b,c)->a=b->(t.kids.length:Int)=a := λ e K=>by
  have:=qnw I A e;omega
 rcases D with((((d | d) | d) | d) | d) | d
 ·have w:=l (a:=1) (b:=1) (c:=3) (by rw[d];decide) rfl;refine way (qdt (by omega)) (waA (qt.2 (by omega)) (waz (by rw[d];rfl) (wav (qjq _ _) ?_)));have g:yh t=isN (kid t 0) qn7:=by unfold yh;rw[if_pos (.inl d)]
  refine waw (λ h=>?_) λ h=>?_
  ·refine way (q (f 0) h E) (waB ?_);rw[zr t (g.trans h),if_pos rfl,if_neg (by rw[d];decide)]
  ·refine waB ?_;rw[zr t (g.trans h),if_neg (by decide)]
 ·have w:=l (a:=1) (b:=1) (c:=3) (by rw[d];decide) rfl;refine way (qdt (by omega)) (waA (qt.2 (by omega)) (waA (by rw[d];rfl) (waz (by rw[d];rfl) (wav (qjq _ _) ?_))));have g:yh t=isN (kid t 0) qn7:=by unfold yh;rw[if_pos (.inr d)]
  refine waw (λ h=>?_) λ h=>?_
  ·refine way (p (f 0) h E) (waB ?_);rw[zr t (g.trans h),if_pos rfl,if_pos d]
  ·refine waB ?_;rw[zr t (g.trans h),if_neg (by decide)]
 ·have w:=l (a:=2) (b:=2) (c:=3) (by rw[d];decide) rfl;refine way (qdt (by omega)) (waz (qw.2 (by omega)) (way (qqG (by omega)) (waA (by rw[d];rfl) (waA (by rw[d];rfl) (waz (by rw[d];rfl) (wav (qjq _ _) ?_))))));have g:yh t=(isN (kid t 0) qnr&&jc (kid (kid t 0) 1) (kid t 1)):=by unfold yh;rw[if_neg (by rw[d];decide),if_pos d]
  refine waw (λ h=>?_) λ h=>?_
  ·refine way (p (f 0) h G) (wav (qnH _ _ (r 0 1) (by have:=B 1;omega)) (waw (λ o=>?_) λ o=>?_))
   ·refine way (q (f 0) h G) (waB ?_);rw[zr t (b:=true) (by rw[g,show isN (kid t 0) qnr=true from h,o];rfl),if_pos rfl,if_neg (by rw[d];decide)]
   ·refine waB ?_;rw[zr t (b:=false) (by rw[g,o,vb]),if_neg (by decide)]
  ·refine waB ?_;rw[zr t (b:=false) (by rw[g,show isN (kid t 0) qnr=false from h];rfl),if_neg (by decide)]
 ·have w:=l (a:=2) (b:=2) (c:=3) (by rw[d];decide) rfl;refine way (qdt (by omega)) (waz (qw.2 (by omega)) (way (qqG (by omega)) (waA (by rw[d];rfl) (waA (by rw[d];rfl) (waA (by rw[d];rfl) (waz (by rw[d];rfl) (wav (qjq _ _) ?_)))))));have g:yh t=(isN (kid t 0) qhS&&isN (kid (kid t 0) 1) nPk&&jc (kid (kid (kid t 0) 1) 0) (kid t 1)):=by unfold yh;rw[if_neg (by rw[d];decide),if_neg (by rw[d];decide),if_pos d]
  refine waw (λ h=>?_) λ h=>?_
  ·have C:=(yJ.1 h).1;refine way (p (f 0) h z) (wav (qjq _ _) (waw (λ o=>?_) λ o=>?_))
   ·refine way (p (f 0) h z) (way (H (x 0 1 C) o F) (wav (qnH _ _ (v 0 1 0) (by have:=B 1;omega)) (waw (λ s=>?_) λ s=>?_)))
    ·refine way (q (f 0) h z) (waB ?_);rw[zr t (b:=true) (by rw[g,show isN (kid t 0) qhS=true from h,show isN (kid (kid t 0) 1) nPk=true from o,s];rfl),if_pos rfl,if_neg (by rw[d];decide)]
    ·refine waB ?_;rw[zr t (b:=false) (by rw[g,s,vb]),if_neg (by decide)]
   ·refine waB ?_;rw[zr t (b:=false) (by rw[g,show isN (kid (kid t 0) 1) nPk=false from o,vb,xt]),if_neg (by decide)]
  ·refine waB ?_;rw[zr t (b:=false) (by rw[g,show isN (kid t 0) qhS=false from h];rfl),if_neg (by decide)]
 ·have w:=l (a:=2) (b:=2) (c:=3) (by rw[d];decide) rfl;refine way (qdt (by omega)) (waz (qw.2 (by omega)) (way (qqG (by omega)) (waA (by rw[d];rfl) (waA (by rw[d];rfl) (waA (by rw[d];rfl) (waA (by rw[d];rfl) (waz (by rw[d];rfl) (wav (qjq _ _) ?_))))))));have g:yh t=(isN (kid t 0) qew&&isN (kid t 1) nPk&&jc (kid (kid t 0) 1) (kid (kid t 1) 0)):=by unfold yh;rw[if_neg (by rw[d];decide),if_neg (by rw[d];decide),if_neg (by rw[d];decide),if_pos d]
  refine waw (λ h=>?_) λ h=>?_
  ·refine wav (qjq _ _) (waw (λ o=>?_) λ o=>?_)
   ·refine way (p (f 0) h y) (way (H (f 1) o F) (wav (qnH _ _ (r 0 1) (r 1 0)) (waw (λ s=>?_) λ s=>?_)))
    ·refine way (q (f 0) h y) (waB ?_);rw[zr t (b:=true) (by rw[g,show isN (kid t 0) qew=true from h,show isN (kid t 1) nPk=true from o,s];rfl),if_pos rfl,if_neg (by rw[d];decide)]
    ·refine waB ?_;rw[zr t (b:=false) (by rw[g,s,vb]),if_neg (by decide)]
   ·refine waB ?_;rw[zr t (b:=false) (by rw[g,show isN (kid t 1) nPk=false from o,vb,xt]),if_neg (by decide)]
  ·refine waB ?_;rw[zr t (b:=false) (by rw[g,show isN (kid t 0) qew=false from h];rfl),if_neg (by decide)]
 ·have w:=l (a:=1) (b:=1) (c:=3) (by rw[d];decide) rfl;refine way (qdt (by omega)) (waA (qt.2 (by omega)) (waA (by rw[d];rfl) (waA (by rw[d];rfl) (waA (by rw[d];rfl) (waA (by rw[d];rfl) (waA (by rw[d];rfl) (waz (by rw[d];rfl) (wav (qjq _ _) ?_))))))));have g:yh t=isN (kid t 0) qew:=by unfold yh;rw[if_neg (by rw[d];decide),if_neg (by rw[d];decide),if_neg (by rw[d];decide),if_neg (by rw[d];decide),if_pos d]
  refine waw (λ h=>?_) λ h=>?_
  ·refine way (q (f 0) h y) (waB ?_);rw[zr t (g.trans h),if_pos rfl,if_neg (by rw[d];decide)]
  ·refine waB ?_;rw[zr t (g.trans h),if_neg (by decide)]
end Go.AmZ
namespace Go.AmZ
open Go Go.GxZ
def qe0:T->Prop:=T.para λ t a=>(t.kind=3->t.sort=0)/\∀ p∈a,p
theorem qm8(t:T):qe0 t↔(t.kind=3->t.sort=0)/\∀ k∈t.kids,qe0 k:=by
 have h:qe0 t=((t.kind=3->t.sort=0)/\∀ p∈t.kids.map qe0,p):=T.para_eq _ _;rw[h];refine and_congr_right λ _=>⟨λ h k a=>h _ (kT a),λ h p b=>?_⟩
 obtain⟨k,a,rfl⟩:=wx.1 b;exact h k a
theorem qpz:Cl qe0 := λ t _ h=>((qm8 t).1 h).2
theorem qzn:qe0 zT:=(qm8 zT).2 ⟨λ h=>absurd h (by decide),λ _ h=>by cases h⟩
theorem qCU(n:List UInt8)(ks:List T)(h:∀ k∈ks,qe0 k):qe0 (apT n ks):=(qm8 _).2 ⟨λ _=>rfl,h⟩
theorem qED{t:T}(a:t.kind=3)(h:yK t=0):t.sort=0:=by
 unfold yK qfC at h;rw[if_neg (by omega),if_pos a]at h;split at h
 ·cases h
 ·omega
theorem qGL(t:T):yV t=0->qe0 t:=by
 refine T.ind (P := λ t=>yV t=0->qe0 t) ?_ t;intro t b h;obtain⟨e,d⟩:=qhW h;exact(qm8 t).2 ⟨λ c=>qED c e,λ k a=>b k a (d k a)⟩
theorem qBG{t:T}(h:qJ t=0):yV t=0:=by
 unfold qJ at h;split at h
 ·rename_i a;exact absurd h a
 ·rename_i a;exact kY a
theorem qJ1{P:T->Prop}(s:Cl P)(f:P zT)(e:∀ n ks,(∀ k∈ks,P k)->P (apT n ks)){n:List UInt8}{ks:List T}(v:∀ k∈ks,P k):P (JQ (apT n ks)).1:=by
 have q:=e n ks v;have a:∀{t:T} (i:Nat),P t->t.kind=3->P (kid t i) := λ i h E=>qaN s f E h i
 have g:∀ l:List Pw,(∀ p∈l,P p.1)->P (qaW l).1:=by
  intro l z;unfold qaW;split
  ·exact f
  ·split
   ·exact f
   ·split
    ·exact f
    ·have c:∀ x∈yf l++yj l,P x := λ x u=>by
       rcases ww.1 u with u | u
       ·obtain⟨p,A,rfl⟩:=qAK u;exact z p A
       ·obtain⟨p,A,rfl⟩:=qBd u;exact e _ _ λ k j=>by rw[wF.1 j];exact z p A
     show P (JT _);generalize yf l++yj l=o at *;unfold JT;split
     ·exact e _ _ λ k j=>by cases j
     ·split
      ·exact qqx f c
      ·exact e _ _ c
 have m:∀(b:T) (l:List Pw),P b->(∀ p∈l,P p.1)->P (qhG b l).1:=by
  intro b l r z;unfold qhG;split
  ·exact r
  ·split
   ·exact f
   ·refine e _ _ λ k j=>?_;rcases wy.1 j with rfl | j
    ·exact r
    ·rw[wF.1 j];exact g l z
 unfold JQ;split
 ·show P (qiN _);unfold qiN;split
  ·rename_i d
   have B:(kid (apT n ks) 0).kind=3:=by
    unfold yh at d;split at d
    ·exact(yJ.1 d).1
    ·split at d
     ·rw[wd]at d;exact(yJ.1 d.1).1
     ·split at d
      ·rw[wd,wd]at d;exact(yJ.1 d.1.1).1
      ·split at d
       ·rw[wd,wd]at d;exact(yJ.1 d.1.1).1
       ·split at d
        ·exact(yJ.1 d).1
        ·cases d
   exact a _ (a 0 q rfl) B
  ·exact q
 ·split
  ·unfold qoj;split
   ·exact f
   ·split
    ·exact f
    ·have c:=qwM s v;show P (J5 (zU ks));generalize zU ks=o at *;unfold J5;split
     ·exact e _ _ λ k j=>by cases j
     ·split
      ·exact qqx f c
      ·exact e _ _ c
  ·split
   ·unfold qlQ;split
    ·exact f
    ·exact g _ (qis s q)
   ·split
    ·have r:=a (t:=apT n ks) 0 q rfl;have D:=a (t:=apT n ks) 1 q rfl;generalize kid (apT n ks) 0=b at *;generalize kid (apT n ks) 1=y at *;unfold qod;split
     ·exact f
     ·split
      ·rename_i C;have w:=(yJ.1 C).1;split
       ·exact f
       ·split
        ·exact f
        ·exact m _ _ (a 0 r w) (qCs (qis s (a 1 r w)) (qis s D))
      ·exact m _ _ r (qis s D)
    ·exact q
theorem qKF{P:T->Prop}(d:Cl P)(b:P zT)(a:∀ n ks,(∀ k∈ks,P k)->P (apT n ks))(t:T):P t->P (zG t).1:=by
 refine T.ind (P := λ t=>P t->P (zG t).1) ?_ t;intro t e h;rw[qmK];split
 ·exact h
 ·rename_i i;split
  ·exact b
  ·refine qJ1 d b a λ k g=>?_;obtain⟨q,f,rfl⟩:=wx.1 g;obtain⟨j,c,rfl⟩:=wx.1 f;exact e j c (d t (kY i) h j c)
theorem qCQ{u x:T}(m:zg u=0)(l:qe0 u):jc u (apT nPk [x])=(isN u nPk&&jc (kid u 0) x):=by
 rw[xe,wd,qbp,qbp];constructor
 ·rintro rfl;exact⟨yJ.2 ⟨rfl,rfl⟩,rfl⟩
 ·rintro⟨h,j⟩;obtain⟨f,g⟩:=yJ.1 h;have e:=qnw m h (a:=1) (b:=1) (c:=1) (by decide);have d:=((qm8 u).1 l).1 f;cases u with
  | mk k n so ks =>
    have f:k=3:=f;have g:n=nPk:=g;have d:so=0:=d
    have i:ks.length=1:=by
     have h:(1:Int)<=(ks.length:Int):=e.1;have j:(ks.length:Int)<=1:=e.2.1;omega
    cases ks with
    | nil=>cases i
    | cons y r =>
      cases r with
      | nil =>
        have:y=x:=j;subst f;subst g;subst d;subst this;rfl
      | cons z r=>simp at i
theorem qtd(a b:T):jc a b=jc b a:=by
 rw[xe,qbp,qbp];exact eq_comm
theorem qBq(t:T)(G:t.kind=3)(K:zg t=0)(E:qe0 t)(F:isD t.name=true)(M:size t<=900000000):Ev (λ m _=>qfm m t) (qiN t,yh t):=by
 have B:∀ i,size (kid t i)<=size t:=qaQ t;have s:∀ i j,size (kid (kid t i) j)<=900000000 := λ i j=>by have:=qaQ (kid t i) j;have:=B i;omega
 have k:∀ i,zg (kid t i)=0 := λ i=>qaN JV qbf G K i;have A:∀ i j,(kid t i).kind=3->zg (kid (kid t i) j)=0 := λ i j h=>qaN JV qbf h (k i) j;have w:∀ i,qe0 (kid t i) := λ i=>qaN qpz qzn G E i;have v:∀ i j,(kid t i).kind=3->qe0 (kid (kid t i) j) := λ i j h=>qaN qpz qzn h (w i) j;have D:isN t t.name=true:=yJ.2 ⟨G,rfl⟩;have p:∀{u:T} {n:List UInt8},zg u=0->isN u n=true->∀{b c:Int},qC n=(2,b,c)->qc u.kids 0=some (kid u 0) := λ h d _ _ e=>qcm (i:=0) h d e (by decide);have r:∀{u:T} {n:List UInt8},zg u=0->isN u n=true->∀{b c:Int},qC n=(2,b,c)->qc u.kids 1=some (kid u 1) := λ h d _ _ e=>qcm (i:=1) h d e (by decide);have H:qC qn7=(2,2,1):=by decide
 have I:qC qnr=(2,2,1):=by decide
 have J:qC qhS=(2,2,1):=by decide
 have C:qC qew=(2,2,1):=by decide
 unfold isD at F;simp only[kg,beq_iff_eq]at F;refine waD ?_;simp only[qs7,qfS,qh]
 have o:∀{a b c:Int},qC t.name=(a,b,c)->a=b->(t.kids.length:Int)=a := λ e L=>by
  have:=qnw K D e;omega
 have l:∀ x:T,size (apT nPk [x])=1+size x := λ x=>by rw[qR];show 1+(size x+0)=_;omega
 rcases F with((((d | d) | d) | d) | d) | d
 ·have y:=o (a:=1) (b:=1) (c:=3) (by rw[d];decide) rfl;refine way (qdt (by omega)) (waz (by rw[d];rfl) (wav (qkG _ _) ?_));have f:yh t=isN (kid t 0) qn7:=by unfold yh;rw[if_pos (.inl d)]
  refine waw (λ h=>?_) λ h=>?_
  ·refine way (p (k 0) h H) (waB ?_);rw[zr t (f.trans h),if_pos rfl,if_neg (by rw[d];decide),f.trans h]
  ·repeat (refine waA (by rw[d];rfl) ?_)
   refine waB ?_;rw[zr t (f.trans h),if_neg (by decide),f.trans h]
 ·have y:=o (a:=1) (b:=1) (c:=3) (by rw[d];decide) rfl;refine way (qdt (by omega)) (waA (by rw[d];rfl) (waz (by rw[d];rfl) (wav (qkG _ _) ?_)));have f:yh t=isN (kid t 0) qn7:=by unfold yh;rw[if_pos (.inr d)]
  refine waw (λ h=>?_) λ h=>?_
  ·refine way (r (k 0) h H) (waB ?_);rw[zr t (f.trans h),if_pos rfl,if_pos d,f.trans h]
  ·repeat (refine waA (by rw[d];rfl) ?_)
   refine waB ?_;rw[zr t (f.trans h),if_neg (by decide),f.trans h]
 ·have y:=o (a:=2) (b:=2) (c:=3) (by rw[d];decide) rfl;refine way (qdt (by omega)) (waA (by rw[d];rfl) (waA (by rw[d];rfl) (waz (by rw[d];rfl) (wav (qkG _ _) ?_))));have f:yh t=(isN (kid t 0) qnr&&jc (kid (kid t 0) 1) (kid t 1)):=by unfold yh;rw[if_neg (by rw[d];decide),if_pos d]
  refine waw (λ h=>?_) λ h=>?_
  ·refine way (r (k 0) h I) (way (qqG (by omega)) (wav (qfQ _ _ (by have:=s 0 1;omega) (by have:=B 1;omega)) (waw (λ q=>?_) λ q=>?_)))
   ·have g:yh t=true:=by rw[f,show isN (kid t 0) qnr=true from h,q];rfl
    refine way (p (k 0) h I) (waB ?_);rw[zr t g,if_pos rfl,if_neg (by rw[d];decide),g]
   ·have g:yh t=false:=by rw[f,q,vb]
    repeat (refine waA (by rw[d];rfl) ?_)
    refine waB ?_;rw[zr t g,if_neg (by decide),g]
  ·have g:yh t=false:=by rw[f,show isN (kid t 0) qnr=false from h];rfl
   repeat (refine waA (by rw[d];rfl) ?_)
   refine waB ?_;rw[zr t g,if_neg (by decide),g]
 ·have y:=o (a:=2) (b:=2) (c:=3) (by rw[d];decide) rfl;refine way (qdt (by omega)) (waA (by rw[d];rfl) (waA (by rw[d];rfl) (waA (by rw[d];rfl) (waz (by rw[d];rfl) (wav (qkG _ _) ?_)))));have f:yh t=(isN (kid t 0) qhS&&isN (kid (kid t 0) 1) nPk&&jc (kid (kid (kid t 0) 1) 0) (kid t 1)):=by unfold yh;rw[if_neg (by rw[d];decide),if_neg (by rw[d];decide),if_pos d]
  refine waw (λ h=>?_) λ h=>?_
  ·have z:=(yJ.1 h).1;refine way (r (k 0) h J) (way (qqG (by omega)) (wav (qeC nPk [kid t 1] (by simp)) (wav (qfQ _ _ (by have:=s 0 1;omega) (by rw[l];have:=B 1;omega)) ?_)));rw[qCQ (A 0 1 z) (v 0 1 z)];refine waw (λ q=>?_) λ q=>?_
   ·have g:yh t=true:=by rw[f,show isN (kid t 0) qhS=true from h,kr,q]
    refine way (p (k 0) h J) (waB ?_);rw[zr t g,if_pos rfl,if_neg (by rw[d];decide),g]
   ·have g:yh t=false:=by rw[f,show isN (kid t 0) qhS=true from h,kr,q]
    repeat (refine waA (by rw[d];rfl) ?_)
    refine waB ?_;rw[zr t g,if_neg (by decide),g]
  ·have g:yh t=false:=by rw[f,show isN (kid t 0) qhS=false from h];rfl
   repeat (refine waA (by rw[d];rfl) ?_)
   refine waB ?_;rw[zr t g,if_neg (by decide),g]
 ·have y:=o (a:=2) (b:=2) (c:=3) (by rw[d];decide) rfl;refine way (qdt (by omega)) (waA (by rw[d];rfl) (waA (by rw[d];rfl) (waA (by rw[d];rfl) (waA (by rw[d];rfl) (waz (by rw[d];rfl) (wav (qkG _ _) ?_))))));have f:yh t=(isN (kid t 0) qew&&isN (kid t 1) nPk&&jc (kid (kid t 0) 1) (kid (kid t 1) 0)):=by unfold yh;rw[if_neg (by rw[d];decide),if_neg (by rw[d];decide),if_neg (by rw[d];decide),if_pos d]
  refine waw (λ h=>?_) λ h=>?_
  ·refine way (qqG (by omega)) (way (r (k 0) h C) (wav (qeC nPk [kid (kid t 0) 1] (by simp)) (wav (qfQ _ _ (by have:=B 1;omega) (by rw[l];have:=s 0 1;omega)) ?_)));rw[qCQ (k 1) (w 1),qtd (kid (kid t 1) 0)];refine waw (λ q=>?_) λ q=>?_
   ·have g:yh t=true:=by rw[f,show isN (kid t 0) qew=true from h,kr,q]
    refine way (p (k 0) h C) (waB ?_);rw[zr t g,if_pos rfl,if_neg (by rw[d];decide),g]
   ·have g:yh t=false:=by rw[f,show isN (kid t 0) qew=true from h,kr,q]
    repeat (refine waA (by rw[d];rfl) ?_)
    refine waB ?_;rw[zr t g,if_neg (by decide),g]
  ·have g:yh t=false:=by rw[f,show isN (kid t 0) qew=false from h];rfl
   repeat (refine waA (by rw[d];rfl) ?_)
   refine waB ?_;rw[zr t g,if_neg (by decide),g]
 ·have y:=o (a:=1) (b:=1) (c:=3) (by rw[d];decide) rfl;refine way (qdt (by omega)) (waA (by rw[d];rfl) (waA (by rw[d];rfl) (waA (by rw[d];rfl) (waA (by rw[d];rfl) (waA (by rw[d];rfl) (waz (by rw[d];rfl) (wav (qkG _ _) ?_)))))));have f:yh t=isN (kid t 0) qew:=by unfold yh;rw[if_neg (by rw[d];decide),if_neg (by rw[d];decide),if_neg (by rw[d];decide),if_neg (by rw[d];decide),if_pos d]
  refine waw (λ h=>?_) λ h=>?_
  ·refine way (p (k 0) h C) (waB ?_);rw[zr t (f.trans h),if_pos rfl,if_neg (by rw[d];decide),f.trans h]
  ·repeat (refine waA (by rw[d];rfl) ?_)
   refine waB ?_;rw[zr t (f.trans h),if_neg (by decide),f.trans h]
end Go.AmZ
namespace Go.AmZ
open Go Go.GxZ
theorem qiv(t:T):szP (ofP t).1<=400:=by
 unfold ofP;split
 ·exact we _
 ·rename_i h;split
  ·exact we _
  ·split
   ·exact we _
   ·have c:=qDk t [] 1;have b:=QI (kY h);have a:szP ([]:List Pw)=0:=rfl;show szP (js t [] 1)<=_;omega
theorem qCH(a b:List Pw):szP (qkN a b).1<=160000:=by
 unfold qkN;split
 ·exact we _
 ·rename_i d;split
  ·exact we _
  ·rename_i c;split
   ·exact we _
   ·split
    ·exact we _
    ·obtain⟨_,_,h,_⟩:=qgA (kY d) (kY c) b.length;rw[wE]at h;exact h
theorem qHd(b e:T)(k:zg b=0)(n:size b<=1000000000)(j:size e<=1000000000):Ev (λ m _=>qge m b e) (qod b e):=by
 refine waD ?_;simp only[qvr,qgo,qh]
 have g:∀(l:List Pw) (x:T),szP l<=1000000000->Ev (λ m _=>cond (ieq (l.length:Int) 0) (some (x,(0:Int))) (qa (Ja m l) λ v=>cond (qe (ieq v.2 0)) (some (T.mk 0 [] 0 [],v.2)) (qa (qgq m [101,120,112] [x,v.1]) λ w=>some (w,0)))) (qhG x l):=by
  intro l x o;unfold qhG;refine waw (λ h=>?_) λ h=>?_
  ·rw[qk]at h;rw[if_pos (by omega)];exact wax _
  ·rw[qg]at h;rw[if_neg (by omega)];refine wav (qAs l o) (waw (λ h=>?_) λ h=>?_)
   ·rw[bnt,qg]at h;rw[if_pos h];exact wax _
   ·rw[bnf,qk]at h;rw[if_neg (by omega)];exact wav (qK0 _ _) (wax _)
 unfold qod;refine wav (qBe e j) (waw (λ h=>?_) λ h=>?_)
 ·rw[bnt,qg]at h;rw[if_pos h];exact wax _
 rw[bnf,qk]at h;rw[if_neg (by omega)];refine wav (qjq _ _) (waw (λ f=>?_) λ f=>?_)
 ·rw[if_pos (show isN b qe2=true from f)];have s:=qaQ b 1;refine way (qcm (i:=1) k f (a:=2) (b:=2) (c:=1) (by decide) (by decide)) (wav (qBe _ (by omega)) (waw (λ d=>?_) λ d=>?_))
  ·rw[bnt,qg]at d;rw[if_pos d];exact wax _
  rw[bnf,qk]at d;rw[if_neg (by omega)];have r:=qiv (kid b 1);have p:=qiv e;have q:=qCH (ofP (kid b 1)).1 (ofP e).1;refine wav (qJW _ _ (by omega) (by omega)) (waw (λ d=>?_) λ d=>?_)
  ·rw[bnt,qg]at d;rw[if_pos d];exact wax _
  rw[bnf,qk]at d;rw[if_neg (by omega)];exact way (qcm (i:=0) k f (a:=2) (b:=2) (c:=1) (by decide) (by decide)) (g _ _ (by omega))
 ·rw[if_neg (by rw[show isN b qe2=false from f];decide)];have p:=qiv e;exact g _ _ (by omega)
theorem qHn(b e:T)(k:zg b=0)(n:size b<=1000000000)(j:size e<=1000000000):Ev (λ m _=>qhV m b e) (qod b e):=by
 refine waD ?_;simp only[qxT,qhL,qh]
 have g:∀(l:List Pw) (x:T),szP l<=1000000000->Ev (λ m _=>cond (ieq (l.length:Int) 0) (some (x,(0:Int))) (qa (qcU m l) λ v=>cond (qe (ieq v.2 0)) (some (T.mk 0 [] 0 [],v.2)) (qa (Qe m [101,120,112] [x,v.1]) λ w=>some (w,0)))) (qhG x l):=by
  intro l x o;unfold qhG;refine waw (λ h=>?_) λ h=>?_
  ·rw[qk]at h;rw[if_pos (by omega)];exact wax _
  ·rw[qg]at h;rw[if_neg (by omega)];refine wav (qAk l o) (waw (λ h=>?_) λ h=>?_)
   ·rw[bnt,qg]at h;rw[if_pos h];exact wax _
   ·rw[bnf,qk]at h;rw[if_neg (by omega)];exact wav (qeC _ _ (by simp)) (wax _)
 unfold qod;refine wav (qzs e j) (waw (λ h=>?_) λ h=>?_)
 ·rw[bnt,qg]at h;rw[if_pos h];exact wax _
 rw[bnf,qk]at h;rw[if_neg (by omega)];refine wav (qkG _ _) (waw (λ f=>?_) λ f=>?_)
 ·rw[if_pos (show isN b qe2=true from f)];have s:=qaQ b 1;refine way (qcm (i:=1) k f (a:=2) (b:=2) (c:=1) (by decide) (by decide)) (wav (qzs _ (by omega)) (waw (λ d=>?_) λ d=>?_))
  ·rw[bnt,qg]at d;rw[if_pos d];exact wax _
  rw[bnf,qk]at d;rw[if_neg (by omega)];have r:=qiv (kid b 1);have p:=qiv e;have q:=qCH (ofP (kid b 1)).1 (ofP e).1;refine wav (qKk _ _ (by omega) (by omega)) (waw (λ d=>?_) λ d=>?_)
  ·rw[bnt,qg]at d;rw[if_pos d];exact wax _
  rw[bnf,qk]at d;rw[if_neg (by omega)];exact way (qcm (i:=0) k f (a:=2) (b:=2) (c:=1) (by decide) (by decide)) (g _ _ (by omega))
 ·rw[if_neg (by rw[show isN b qe2=false from f];decide)];have p:=qiv e;exact g _ _ (by omega)
theorem qAr{t:T}(h:isD t.name=true):JQ t=(qiN t,0):=by unfold JQ;rw[if_pos h]
theorem qy7{t:T}(h:t.name=qco):JQ t=qoj t.kids:=by unfold JQ;rw[if_neg (by rw[h];decide),if_pos h]
theorem qzf{t:T}(h:t.name=qeg\/t.name=Ji\/t.name=qiD):JQ t=qlQ t:=by
 unfold JQ;rw[if_neg (by rcases h with h | h | h<;>rw[h]<;>decide),if_neg (by rcases h with h | h | h<;>rw[h]<;>decide),if_pos h]
theorem qA9{t:T}(h:t.name=qe2):JQ t=qod (kid t 0) (kid t 1):=by
 unfold JQ;rw[if_neg (by rw[h];decide),if_neg (by rw[h];decide),if_neg (by rw[h];decide),if_pos h]
theorem qwW{t:T}(d:isD t.name=false)(c:t.name≠qco)(b:¬ (t.name=qeg\/t.name=Ji\/t.name=qiD))(a:t.name≠qe2):JQ t=(t,0):=by
 unfold JQ;rw[if_neg (by rw[d];decide),if_neg c,if_neg b,if_neg a]
theorem qEZ(n:List UInt8):(qC n).2.2=3↔isD n=true:=by
 constructor
 ·intro h;rcases qs1 n with b | ⟨r,c,a,b⟩
  ·rw[quA b]at h;cases h
  ·rw[qnF b]at h;have:jE.all (λ r => !decide (r.2.2.2=3)||isD r.1)=true:=by decide
   have:=wv.1 this r c;rw[decide_eq_true h]at this;rw[<- a];exact this
 ·intro h;unfold isD at h;simp only[kg,beq_iff_eq]at h;rcases h with((((a | a) | a) | a) | a) | a<;>rw[a]<;>decide
def nks(l:List T):List T:=(l.map zG).map (·.1)
theorem qqQ(l:List T):(nks l).length=l.length:=by unfold nks;simp
theorem qFr(l:List T):szL (nks l)<=402*szL l:=by
 induction l with
 | nil=>exact wa _
 | cons k l a =>
   have:=qvO k;show szL ((zG k).1::nks l)<=_;rw[qO,qO];omega
theorem qA3{l:List T}{i:Nat}{x:T}(h:l[i]?=some x):nks (l.take (i+1))=nks (l.take i)++[(zG x).1]:=by
 unfold nks;rw[zZ h,wT,wT];rfl
def erN(l:List T):Int:=((l.map zG).map (·.2)).foldl thn 0
theorem qy5{l:List T}{i:Nat}{x:T}(h:l.drop i=x::l.drop (i+1)):erN (l.drop i)=if(zG x).2≠0 then(zG x).2 else erN (l.drop (i+1)):=by
 unfold erN;rw[h,wm,wm];by_cases a:(zG x).2=0
 ·rw[if_neg (by omega),a];rfl
 ·rw[if_pos a];exact qP _ a
theorem qCt{t:T}(a:t.kind=3):zG t=if erN t.kids≠0 then(zT,erN t.kids)else JQ (apT t.name (nks t.kids)):=by rw[qmK,if_neg (λ h=>h a)];rfl
theorem qC3{t:T}(c:t.kind=3)(f:zg t=0)(e:∀ k∈t.kids,(zG k).2=0):zg (apT t.name (nks t.kids))=0/\∀ k∈nks t.kids,zg k=0:=by
 obtain⟨h,g⟩:=qaq c f
 have a:∀ k∈nks t.kids,zg k=0 := λ k a=>by
  obtain⟨q,d,rfl⟩:=wx.1 a;obtain⟨j,b,rfl⟩:=wx.1 d;exact qHH j (g j b) (e j b)
 exact⟨qin (qzh c h) a,a⟩
theorem qGF(t:T):size t<=2000->zg t=0->Ev (λ m _=>yw m t) (zG t):=by
 induction t using T.ind with
 | h t F =>
   intro hs E;have hl:=yt t;have hz:=qR t;refine waD ?_;simp only[qtJ,qcN,qh];by_cases n:t.kind=3
   rotate_left
   ·refine waz (bnt.2 (qg.2 n)) (waB (qiu n).symm)
   refine waA (bnf.2 (qk.2 n)) ?_;rw[qCt n];have y:=(qaq n E).2
   have s:=qs (P := λ i=>(∀ k∈t.kids.take i,(zG k).2=0)->Ev (λ m k=>Q5 m (yw m) k t.kids t.kids.length i t.kind t.name t.sort t.kids 0 [] 0 3 t.name 0 [] (nks (t.kids.take i))) (if erN (t.kids.drop i)≠0 then(zT,erN (t.kids.drop i))else JQ (apT t.name (nks t.kids)))) t.kids (by omega)
    (λ g q=>by
     refine waC ?_;simp only[qkf,qcG,qh];refine waA g ?_;rw[wE]at q |-
     rw[wU,if_neg (show ¬ erN []≠0 from λ h=>h rfl)];obtain⟨r,c2⟩:=qC3 n E q;have Y:=qFr t.kids;have X:szL t.kids+1=size t:=by unfold szL;omega
     have H:=qqQ t.kids;generalize nks t.kids=ks at *;have G:T.mk 3 t.name 0 ks=apT t.name ks:=rfl;rw[G];have W:size (apT t.name ks)=1+szL ks:=qR _
     have e:isD t.name=true->Ev (λ m _=>qa (qct m (apT t.name ks)) λ v=>some (v,(0:Int))) (JQ (apT t.name ks)) := λ l=>by
      rw[qAr (show isD (apT t.name ks).name=true from l)];exact wav (qEQ _ rfl r l (by omega)) (wax _)
     have f:t.name=qeg\/t.name=Ji\/t.name=qiD->Ev (λ m _=>qa (qbB m (apT t.name ks)) λ v=>cond (qe (ieq v.2 0)) (some (T.mk 0 [] 0 [],v.2)) (qa (Ja m v.1) λ w=>some (w.1,w.2))) (JQ (apT t.name ks)) := λ p=>by
      rw[qzf (show(apT t.name ks).name=qeg\/(apT t.name ks).name=Ji\/(apT t.name ks).name=qiD from p)];unfold qlQ;have A:=qiv (apT t.name ks);refine wav (qBe _ (by omega)) (waw (λ h=>?_) λ h=>?_)
      ·rw[bnt,qg]at h;rw[if_pos h];exact wax _
      ·rw[bnf,qk]at h;rw[if_neg (by omega)];exact wav (qAs _ (by omega)) (wax _)
     refine waw (λ h=>e (by rw[jf.1 h];decide)) λ V=>?_;refine waw (λ h=>e (by rw[jf.1 h];decide)) λ U=>?_;refine waw (λ h=>e (by rw[jf.1 h];decide)) λ B=>?_;refine waw (λ h=>e (by rw[jf.1 h];decide)) λ A=>?_;refine waw (λ h=>e (by rw[jf.1 h];decide)) λ S=>?_;refine waw (λ h=>e (by rw[jf.1 h];decide)) λ R=>?_;refine waw (λ h=>?_) λ Q=>?_
     ·rw[qy7 (show(apT t.name ks).name=qco from jf.1 h)];exact wav (qKS ks (by omega)) (wax _)
     refine waw (λ h=>f (.inl (jf.1 h))) λ O=>?_;refine waw (λ h=>f (.inr (.inl (jf.1 h)))) λ N=>?_;refine waw (λ h=>f (.inr (.inr (jf.1 h)))) λ D=>?_;refine waw (λ h=>?_) λ C=>?_
     ·have d:t.name=qe2:=jf.1 h;rw[qA9 (show(apT t.name ks).name=qe2 from d)];have o:isN (apT t.name ks) qe2=true:=yJ.2 ⟨rfl,d⟩;have q0:=qaQ (apT t.name ks) 0;have Z:=qaQ (apT t.name ks) 1;refine way (qcm (t:=apT t.name ks) (i:=0) r o (a:=2) (b:=2) (c:=1) (by decide) (by decide)) (way (qcm (t:=apT t.name ks) (i:=1) r o (a:=2) (b:=2) (c:=1) (by decide) (by decide)) ?_);exact wav (qHd _ _ (qaN JV qbf rfl r 0) (by omega) (by omega)) (wax _)
     ·rw[qwW (t:=apT t.name ks) (show isD t.name=false from by
         rw[<- kP];intro l;unfold isD at l;simp only[kg,beq_iff_eq]at l;rcases l with((((d | d) | d) | d) | d) | d
         ·exact jI.1 V d
         ·exact jI.1 U d
         ·exact jI.1 B d
         ·exact jI.1 A d
         ·exact jI.1 S d
         ·exact jI.1 R d) (jI.1 Q) (λ h=>by rcases h with h | h | h;exact jI.1 O h;exact jI.1 N h;exact jI.1 D h) (jI.1 C)]
      exact wax _)
    (λ i x u l g M K z q=>by
     refine waC ?_;simp only[qkf,qcG,qh];have p:=wb u;have I:=jy t x p;rw[qy5 l];refine waz g (way M (wav (F x p (by omega) (y x p)) (waw (λ h=>?_) λ h=>?_)))
     ·rw[bnt,qg]at h;rw[if_pos (show(if(zG x).2≠0 then(zG x).2 else erN (t.kids.drop (i+1)))≠0 from by rw[if_pos h];exact h),if_pos h];exact wax _
     ·rw[bnf,qk]at h;rw[if_neg (show ¬ (zG x).2≠0 from by omega)];have A:(nks (t.kids.take i)).length<=t.kids.length:=by rw[qqQ,wo];omega
      refine waz (qU (by omega) (by omega)) ?_
      have z:=z λ k j=>by
       rw[zZ u]at j;rcases ww.1 j with j | j
       ·exact q k j
       ·rw[wF.1 j];exact h
      rw[K];refine z.congr λ m k=>?_;rw[qA3 u])
   have J:=n;refine waE (L := λ m k=>Q5 m (yw m) k t.kids t.kids.length 0 t.kind t.name t.sort t.kids 0 [] 0 3 t.name 0 [] []) ?_;exact(s 0 (we _)) (λ k j=>by rw[xE]at j;cases j)
theorem qD7(t:T):size t<=2000->zg t=0->qe0 t->Ev (λ m _=>yY m t) (zG t):=by
 induction t using T.ind with
 | h t G =>
   intro hs E o;have hl:=yt t;have hz:=qR t;refine waD ?_;simp only[qvw,qdy,qh];by_cases g:t.kind=3
   rotate_left
   ·refine waz (bnt.2 (qg.2 g)) (waB (qiu g).symm)
   refine waA (bnf.2 (qk.2 g)) ?_;rw[qCt g];have y:=(qaq g E).2
   have u:=qs (P := λ i=>(∀ k∈t.kids.take i,(zG k).2=0)->Ev (λ m k=>Jt m (yY m) k i t.kind t.name t.sort t.kids 0 [] 0 [] (nks (t.kids.take i))) (if erN (t.kids.drop i)≠0 then(zT,erN (t.kids.drop i))else JQ (apT t.name (nks t.kids)))) t.kids (by omega)
    (λ e p=>by
     refine waC ?_;simp only[ql9,qdl,qh];refine waA e ?_;rw[wE]at p |-
     rw[wU,if_neg (show ¬ erN []≠0 from λ h=>h rfl)];obtain⟨s,c2⟩:=qC3 g E p
     have F:qe0 (apT t.name (nks t.kids)):=qCU _ _ λ k f=>by
      obtain⟨q,H,rfl⟩:=wx.1 f;obtain⟨j,K,rfl⟩:=wx.1 H;exact qKF qpz qzn qCU j (qpz t g o j K)
     have X:=qFr t.kids;have W:szL t.kids+1=size t:=by unfold szL;omega
     have I:=qqQ t.kids;generalize nks t.kids=ks at *;have V:size (apT t.name ks)=1+szL ks:=qR _
     have d:t.name=qeg\/t.name=Ji\/t.name=qiD->Ev (λ m _=>qa (qc5 m (apT t.name ks)) λ w=>some (w.1,w.2)) (JQ (apT t.name ks)) := λ l=>by
      rw[qzf (show(apT t.name ks).name=qeg\/(apT t.name ks).name=Ji\/(apT t.name ks).name=qiD from l)];have S:=qiv (apT t.name ks)
      have:Ev (λ m _=>qc5 m (apT t.name ks)) (qlQ (apT t.name ks)):=by
       refine waD ?_;simp only[qt4,qfI,qh];unfold qlQ;refine wav (qzs _ (by omega)) (waw (λ h=>?_) λ h=>?_)
       ·rw[bnt,qg]at h;rw[if_pos h];exact wax _
       ·rw[bnf,qk]at h;rw[if_neg (by omega)];exact wav (qAk _ (by omega)) (wax _)
      exact wav this (wax _)
     have D:=jF ks;refine wav (qeC t.name ks (by omega)) (wav (qv6 t.name) (waw (λ h=>?_) λ U=>?_))
     ·have r:=(qEZ t.name).1 (qk.1 h);rw[qAr (show isD (apT t.name ks).name=true from r)];exact wav (qBq _ rfl s F r (by omega)) (wax _)
     refine waw (λ h=>?_) λ R=>?_
     ·rw[qy7 (show(apT t.name ks).name=qco from jf.1 h)];exact wav (qKG ks (by omega)) (wax _)
     refine waw (λ h=>d (.inl (jf.1 h))) λ Q=>?_;refine waw (λ h=>d (.inr (.inl (jf.1 h)))) λ O=>?_;refine waw (λ h=>d (.inr (.inr (jf.1 h)))) λ B=>?_;refine waw (λ h=>?_) λ A=>?_
     ·have C:t.name=qe2:=jf.1 h;rw[qA9 (show(apT t.name ks).name=qe2 from C)];have n:isN (apT t.name ks) qe2=true:=yJ.2 ⟨rfl,C⟩;have Z:=qaQ (apT t.name ks) 0;have Y:=qaQ (apT t.name ks) 1;refine way (qcm (t:=apT t.name ks) (i:=0) s n (a:=2) (b:=2) (c:=1) (by decide) (by decide)) (way (qcm (t:=apT t.name ks) (i:=1) s n (a:=2) (b:=2) (c:=1) (by decide) (by decide)) ?_);exact wav (qHn _ _ (qaN JV qbf rfl s 0) (by omega) (by omega)) (wax _)
     ·rw[qwW (t:=apT t.name ks) (show isD t.name=false from by
         rw[<- kP,<- qEZ];exact qg.1 U) (jI.1 R) (λ h=>by rcases h with h | h | h;exact jI.1 Q h;exact jI.1 O h;exact jI.1 B h) (jI.1 A)]
      exact wax _)
    (λ i x v r e N M z p=>by
     refine waC ?_;simp only[ql9,qdl,qh];have l:=wb v;have J:=jy t x l;rw[qy5 r];refine waz e (way N (wav (G x l (by omega) (y x l) (qpz t g o x l)) (waw (λ h=>?_) λ h=>?_)))
     ·rw[bnt,qg]at h;rw[if_pos (show(if(zG x).2≠0 then(zG x).2 else erN (t.kids.drop (i+1)))≠0 from by rw[if_pos h];exact h),if_pos h];exact wax _
     ·rw[bnf,qk]at h;rw[if_neg (show ¬ (zG x).2≠0 from by omega)];have S:(nks (t.kids.take i)).length<=t.kids.length:=by rw[qqQ,wo];omega
      refine waz (qU (by omega) (by omega)) ?_
      have z:=z λ k f=>by
       rw[zZ v]at f;rcases ww.1 f with f | f
       ·exact p k f
       ·rw[wF.1 f];exact h
      rw[M];refine z.congr λ m k=>?_;rw[qA3 v])
   refine waE (L := λ m k=>Jt m (yY m) k 0 t.kind t.name t.sort t.kids 0 [] 0 [] []) ?_;exact(u 0 (we _)) (λ k f=>by rw[xE]at f;cases f)
theorem qnu(t:T):qjQ t=if qce t≠0 then(zT,qce t)else if(zG t).2≠0 then(zT,(zG t).2)else if qJ (zG t).1≠0 then(zT,qJ (zG t).1)else zG t:=rfl
theorem qDA(t:T)(d:size t<=1000000000):Ev (λ m _=>qfl m t) (qjQ t):=by
 refine waD ?_;simp only[qth,qfT,qh];rw[qnu];refine wav (qDj t d) (waw (λ h=>?_) λ h=>?_)
 ·rw[bnt,qg]at h;rw[if_pos h];exact wax _
 rw[bnf,qk]at h;rw[if_neg (by omega)];obtain⟨c,e⟩:=qly h;have f:=QI c;have g:=qvO t;refine wav (qGF t (by omega) e) (waw (λ a=>?_) λ a=>?_)
 ·rw[qk]at a;rw[if_neg (by omega)];refine wav (qcy _ (by omega)) (waw (λ b=>?_) λ b=>?_)
  ·rw[bnt,qg]at b;rw[if_pos b];exact wax _
  ·rw[bnf,qk]at b;rw[if_neg (by omega)];exact waB (by rw[<- a])
 ·rw[qg]at a;rw[if_pos a];exact waz (bnt.2 (qg.2 a)) (wax _)
theorem qDT(t:T)(d:size t<=1000000000):Ev (λ m _=>qg9 m t) (qjQ t):=by
 refine waD ?_;simp only[qwe,qgt,qh];rw[qnu];refine wav (qC9 t d) (waw (λ h=>?_) λ h=>?_)
 ·rw[bnt,qg]at h;rw[if_pos h];exact wax _
 rw[bnf,qk]at h;rw[if_neg (by omega)];obtain⟨c,e⟩:=qly h;have f:=QI c;have g:=qvO t;refine wav (qD7 t (by omega) e (qGL t (qBG c))) (waw (λ a=>?_) λ a=>?_)
 ·rw[bnt,qg]at a;rw[if_pos a];exact wax _
 rw[bnf,qk]at a;rw[if_neg (by omega)];refine wav (qcx _ (by omega)) (waw (λ b=>?_) λ b=>?_)
 ·rw[bnt,qg]at b;rw[if_pos b];exact wax _
 ·rw[bnf,qk]at b;rw[if_neg (by omega)];exact waB (by rw[<- a])
theorem quV(t:T):size (qjQ t).1<=400:=by
 rw[qnu];have:=qjO;split
 ·show size zT<=_;omega
 ·split
  ·show size zT<=_;omega
  ·split
   ·show size zT<=_;omega
   ·rename_i h;exact QI (kY h)
end Go.AmZ
namespace Go.AmZ
open Go Go.GxZ
def qc6(p:List UInt8->Bool):T->Bool:=T.para λ t a=>(!(t.kind==3)||p t.name)&&a.all id
theorem qlj(p:List UInt8->Bool)(t:T):qc6 p t=((!(t.kind==3)||p t.name)&&(t.kids.map (qc6 p)).all id):=T.para_eq _ _
def Q0:T->List T:=T.para λ t a=>t::a.flatten
theorem qcf(t:T):Q0 t=t::(t.kids.map Q0).flatten:=T.para_eq _ _
theorem qoh(t:T):(Q0 t).length=size t:=by
 refine T.ind (P := λ t=>(Q0 t).length=size t) ?_ t;intro t a;rw[qcf,qR,wu,List.length_flatten,xg];have:t.kids.map (List.length ∘ Q0)=t.kids.map size:=k8 λ k b=>a k b;rw[this];omega
theorem qJ5(t:T):∀ u∈Q0 t,size u<=size t:=by
 refine T.ind (P := λ t=>∀ u∈Q0 t,size u<=size t) ?_ t;intro t c u a;rw[qcf]at a;rcases wy.1 a with rfl | a
 ·exact wa _
 ·obtain⟨l,d,a⟩:=vh.1 a;obtain⟨k,b,rfl⟩:=wx.1 d;have f:=c k b u a;have e:=jy t k b;omega
theorem qDL(p:List UInt8->Bool)(t:T):(Q0 t).all (λ u => !(u.kind==3)||p u.name)=qc6 p t:=by
 refine T.ind (P := λ t=>(Q0 t).all (λ u => !(u.kind==3)||p u.name)=qc6 p t) ?_ t;intro t b;rw[qcf,qlj,kC,List.all_flatten];congr 1;rw[wag,wag];rw[xe,wv,wv];exact⟨λ h k a=>(b k a).symm.trans (h k a),λ h k a=>(b k a).trans (h k a)⟩
def pPl(n:List UInt8):Bool:=qe (ieq (qC n).2.2 3)
theorem qF8(n:List UInt8):Ev (λ m _=>qel m n) (pPl n):=by
 refine waD ?_;simp only[qsg,qeX];refine wav (qw7 n) (waB ?_);unfold pPl;rw[<- qrP]
theorem qGi(t:T):size t<=1000000000->Ev (λ m _=>qZ m t) (qc6 pPl t):=by
 induction t using T.ind with
 | h t j =>
   intro r;have s:=yt t;refine waD ?_;simp only[qn9,J1]
   have d:=qs (P := λ i=>Ev (λ m k=>yC m (qZ m) k t.kids t.kids.length i) (((t.kids.drop i).map (qc6 pPl)).all id)) t.kids (by omega)
    (λ f=>by
     refine waC ?_;simp only[qf5,JZ];refine waA f (waB ?_);rw[wU];rfl)
    (λ i x l p f o n q=>by
     refine waC ?_;simp only[qf5,JZ,qh];have g:=wb l;have u:=jy t x g;rw[p,wm,kC];refine waz f (way o (wav (j x g (by omega)) (waw (λ b=>?_) λ b=>?_)))
     ·rw[bnt]at b;rw[b];exact wax _
     ·rw[bnf]at b;rw[b,n];exact q)
   have a:Ev (λ m _=>yC m (qZ m) m t.kids t.kids.length 0) ((t.kids.map (qc6 pPl)).all id) :=
    waE (L := λ m k=>yC m (qZ m) k t.kids t.kids.length 0) ((d 0 (we _)).res (by rw[wO]))
   rw[qlj];refine waw (λ c=>?_) λ c=>?_
   ·rw[qk]at c;have e:(!(t.kind==3))=false:=by rw[c];rfl
    rw[e,xO];refine wav (qF8 t.name) (waw (λ h=>?_) λ h=>?_)
    ·rw[bnt]at h;rw[h];exact wax _
    ·rw[bnf]at h;rw[h];exact a
   ·rw[qg]at c;have e:(!(t.kind==3))=true:=by rw[wV,beq_eq_false_iff_ne];exact c
    rw[e,xz];exact a
theorem qCj(t:T):size t<=1000000000->Ev (λ m _=>Qc m t) (Q0 t):=by
 induction t using T.ind with
 | h t n =>
   intro r;have s:=yt t;have b:=qoh t;refine waD ?_;simp only[qBg,qg4,qh];rw[qcf]at b |-
   have a:∀ i,((t.kids.take i).map Q0).flatten.length<=(t.kids.map Q0).flatten.length := λ i=>by
    have:=congrArg (λ l=>(l.map Q0).flatten.length) (kz i t.kids);simp only[wT,xm,wc]at this;omega
   have c:=qs (P := λ i=>Ev (λ m k=>qbM m (Qc m) k i t.kind t.name t.sort t.kids (t::((t.kids.take i).map Q0).flatten)) (t::(t.kids.map Q0).flatten)) t.kids (by omega)
    (λ d=>by
     refine waC ?_;simp only[qpi,qgR];refine waA d ?_;rw[wE];exact wax _)
    (λ i x f u d p o j=>by
     refine waC ?_;simp only[qpi,qgR,qh];have g:=wb f;have v:=jy t x g;have q:=a (i+1)
     have e:((t.kids.take (i+1)).map Q0).flatten=((t.kids.take i).map Q0).flatten++Q0 x:=by
      rw[zZ f,wT,xm];simp
     rw[e,wc]at q;rw[e]at j;rw[wu]at b;refine waz d (way p (wav (n x g (by omega)) (waz (qU (by rw[wu];omega) (by omega)) ?_)));rw[o];exact j)
   refine waE (L := λ m k=>qbM m (Qc m) k 0 t.kind t.name t.sort t.kids [t]) ?_;exact c 0 (we _)
def qac(t:T):Bool:=decide ((qjQ t).2=0)&&(jc (qjQ t).1 t&&qc6 pPl t)
theorem qwK(t:T)(a:size t<=1000000000):Ev (λ m _=>qdZ m t) (qac t):=by
 have c:=quV t;refine waD ?_;simp only[qwl,qga,qh];unfold qac;refine wav (qDA t a) (waw (λ h=>?_) λ h=>?_)
 ·rw[qk]at h;rw[decide_eq_true h,kr];refine wav (qnH _ _ (by omega) a) (waw (λ b=>?_) λ b=>?_)
  ·rw[b,kr];exact wav (qGi t a) (wax _)
  ·rw[b,xt];exact wax _
 ·rw[qg]at h;rw[decide_eq_false h,xt];exact wax _
theorem qGv(t:T)(e:size t<=1000000000):Ev (λ m _=>qhZ m t) (qac t):=by
 have s:=quV t;refine waD ?_;simp only[qxy,qeU,qh];unfold qac;refine wav (qDT t e) (waw (λ h=>?_) λ h=>?_)
 ·rw[bnt,qg]at h;rw[decide_eq_false h,xt];exact wax _
 rw[bnf,qk]at h;rw[decide_eq_true h,kr,qtd];refine wav (qfQ _ _ e (by omega)) (waw (λ c=>?_) λ c=>?_)
 ·rw[bnt]at c;rw[c,xt];exact wax _
 rw[bnf]at c;rw[c,kr,<- qDL];refine wav (qCj t e) ?_;have p:=qoh t;generalize Q0 t=l at *
 have d:=qs (P := λ i=>Ev (λ m k=>J6 m k l i) ((l.drop i).all λ u => !(u.kind==3)||pPl u.name)) l (by omega)
  (λ g=>by
   refine waC ?_;simp only[qm6,qeL];refine waA g (waB ?_);rw[wU];rfl)
  (λ i x r q g n j o=>by
   refine waC ?_;simp only[qm6,qeL];rw[q,kC];refine waz g (way n (waw (λ b=>?_) λ b=>?_))
   ·rw[qk]at b;have f:(!(x.kind==3))=false:=by rw[b];rfl
    rw[f,xO];refine way n (wav (qv6 x.name) (waw (λ a=>?_) λ a=>?_))
    ·have:pPl x.name=false:=by unfold pPl;rw[a];rfl
     rw[this];exact wax _
    ·rw[j];refine o.res ?_;have:pPl x.name=true:=by unfold pPl;rw[a];rfl
     rw[this];rfl
   ·rw[qg]at b;have f:(!(x.kind==3))=true:=by rw[wV,beq_eq_false_iff_ne];exact b
    rw[f,xz,j,kr];exact o)
 refine waE (L := λ m k=>J6 m k l 0) ?_;exact(d 0 (we _)).res (by rw[wO])
end Go.AmZ
namespace Go.AmZ
open Go Go.GxZ Go.Sort Go.Proofs Go.Proofs.YtckmkimhkhilgaaGreat
def zC(k:Int)(t:T):List T:=(Q0 t).filter λ x=>decide (x.kind=k)
def qdg(t:T):Bool:=(zC 1 t).isEmpty
theorem ql1(k:Int)(t:T):zC k t=(if t.kind=k then[t]else[])++(t.kids.map (zC k)).flatten:=by
 unfold zC;rw[qcf,List.filter_cons,List.filter_flatten,xg];by_cases h:t.kind=k<;>simp[h,vz,zC]
theorem qi6(k:Int)(t:T):(zC k t).length<=size t:=by
 have:=va (λ x:T=>decide (x.kind=k)) (Q0 t);rw[qoh]at this;exact this
theorem qwx(k:Int)(t:T):∀ u∈zC k t,size u<=size t := λ u a=>qJ5 t u ((kJ.1 a).1)
theorem qDq{s:Nat}:∀{l:List T},(∀ u∈l,size u<=s)->szL l<=l.length*s
 | [],_=>by simp[szL]
 | x::l,h=>by
   have:=qDq λ u a=>h u (wg _ a);have b:=h x (wh ..);rw[qO,wu,kV];omega
theorem qH1(x:T)(k:Int)(l:List T)(b:l.length<=1000000000):Ev (λ m _=>qag m x k l) ((k,l++(if x.kind=k then[x]else[]),()),()):=by
 refine waD ?_;simp only[qmv,qa9,qh];by_cases h:x.kind=k
 ·rw[if_pos h];refine waz (qk.2 h) (waz (qU (by omega) (by omega)) (way (a:=T.mk 0 [] 0 []) (by rw[zM];simp) (waB ?_)));rw[qaz];simp
 ·rw[if_neg h,wA];exact waA (qg.2 h) (wax _)
theorem qKb(t:T)(k:Int):size t<=1000000000->∀ l:List T,l.length+size t<=1000000000->Ev (λ m _=>zA m t k l) ((k,l++zC k t,()),()):=by
 induction t using T.ind with
 | h t v =>
   intro C l D;have w:=yt t;refine waD ?_;simp only[qp9,qaY,qh];refine wav (qH1 t k l (by omega)) ?_;simp only;obtain⟨b,a⟩:∃ b,b=l++(if t.kind=k then[t]else[]):=⟨_,rfl⟩
   rw[<- a];have j:=qi6 k t;rw[ql1,wc]at j;have r:b.length+((t.kids.map (zC k)).flatten).length=l.length+((if t.kind=k then[t]else[]).length+((t.kids.map (zC k)).flatten).length):=by rw[a,wc];omega
   have p:∀ i,((t.kids.take i).map (zC k)).flatten.length<=(t.kids.map (zC k)).flatten.length := λ i=>by
    have:=congrArg (λ l=>(l.map (zC k)).flatten.length) (kz i t.kids);simp only[wT,xm,wc]at this;omega
   have g:∀ i x,t.kids[i]?=some x->b.length+((t.kids.take i).map (zC k)).flatten.length+size x<=1000000000 := λ i x c=>by
    have B:((t.kids.take i).map (zC k)).flatten.length<=szL (t.kids.take i):=by
     have o:∀ l:List T,((l.map (zC k)).flatten).length<=szL l:=by
      intro l
      induction l with
      | nil=>simp[szL]
      | cons y l u=>rw[wm,xS,wc,qO];have:=qi6 k y;omega
     exact o _
    have H:=Ql c;have G:szL t.kids+1<=size t:=by rw[qR];unfold szL;omega
    have F:b.length<=l.length+1:=by rw[a,wc];split<;>simp
    omega
   have f:=qs (P := λ i=>Ev (λ m d=>jT m (zA m) d t.kids t.kids.length i k (b++((t.kids.take i).map (zC k)).flatten)) ((k,b++(t.kids.map (zC k)).flatten,()),())) t.kids (by omega)
    (λ n=>by
     refine waC ?_;simp only[qhd,qa0];refine waA n ?_;rw[wE];exact wax _)
    (λ i x c E n A z s=>by
     refine waC ?_;simp only[qhd,qa0,qh];have q:=wb c;have B:=jy t x q;refine waz n (way A (wav (v x q (by omega) _ (by rw[wc];exact g i x c)) ?_));rw[z]
     have e:((t.kids.take (i+1)).map (zC k)).flatten=((t.kids.take i).map (zC k)).flatten++zC k x:=by
      rw[zZ c,wT,xm];simp
     rw[e,<- wi]at s;exact s)
   rw[ql1,<- wi,<- a];refine waE (L := λ m d=>jT m (zA m) d t.kids t.kids.length 0 k b) ?_;have:=f 0 (we _);simpa using this
theorem qKM{F G:T->T->Option Int}{l:List T}(h:∀ x∈l,∀ y∈l,F x y=G x y):Jh F l=Jh G l:=by
 funext i j;unfold Jh;cases b:l[i % l.length]? with
 | none=>rfl
 | some x=>cases a:l[j % l.length]? with
   | none=>rfl
   | some y=>simp only;rw[h x (wb b) y (wb a)]
theorem qw4{a:Type}{F:T->T->Option a}{l:List T}(h:∀ x∈l,∀ y∈l,(F x y).isSome=true):qcu F l=true :=
 wv.2 λ x c=>wv.2 λ y b=>h x c y b
theorem qKo{n:Nat}{lt:Nat->Nat->Bool}(h:SWO lt):qrA n lt=true:=by
 unfold qrA;refine wv.2 λ i _=>?_;rw[wd];refine⟨by rw[h.irrefl];rfl,wv.2 λ j _=>wv.2 λ k _=>?_⟩;rw[wd];constructor
 ·cases b:lt i j with
  | false=>rfl
  | true=>cases a:lt j k with
    | false=>rfl
    | true=>rw[h.trans i j k b a];rfl
 ·cases b:lt i j with
  | true=>rfl
  | false=>cases a:lt j k with
    | true=>rfl
    | false=>rw[h.ntrans i j k b a];rfl
theorem qMI(l:List T):SWO (ltOf (Jh (λ x y=>some (qp x y)) l)):=by
 have hlt:∀ i j,ltOf (Jh (λ x y=>some (qp x y)) l) i j=true↔∃ x y,l[i % l.length]?=some x/\l[j % l.length]?=some y/\qp x y=-1 := λ i j=>by
  unfold ltOf Jh;rw[decide_eq_true_iff];cases hx:l[i % l.length]? with
  | none=>simp
  | some x=>cases hy:l[j % l.length]? with
    | none=>simp
    | some y =>
      simp only[Option.getD_some];have:=ya.rng x y;constructor
      ·intro h;exact⟨x,y,rfl,rfl,by omega⟩
      ·rintro⟨_,_,h1,h2,h3⟩;cases h1;cases h2;omega
 refine⟨λ i=>?_,λ i j k h1 h2=>?_,λ i j k h1 h2=>?_⟩
 ·rw[Bool.eq_false_iff];intro h;obtain⟨x,y,h1,h2,h3⟩:=(hlt _ _).1 h;rw[h1]at h2;cases h2;rw[qqa]at h3;cases h3
 ·obtain⟨x,y,a1,a2,a3⟩:=(hlt _ _).1 h1;obtain⟨y',z,b1,b2,b3⟩:=(hlt _ _).1 h2;rw[a2]at b1;cases b1;exact(hlt _ _).2 ⟨x,z,a1,b2,ya.trans x y z a3 b3⟩
 ·rw[Bool.eq_false_iff]at h1 h2 |-
  intro h;obtain⟨x,z,a1,a2,a3⟩:=(hlt _ _).1 h;have hn:0<l.length:=by have:=getElem?_lt a1;omega
  obtain⟨y,hj⟩:∃ y,l[j % l.length]?=some y:=⟨_,List.getElem?_eq_getElem (xP _ hn)⟩
  have n1:qp x y≠-1 := λ he=>h1 ((hlt _ _).2 ⟨x,_,a1,hj,he⟩);have n2:qp y z≠-1 := λ he=>h2 ((hlt _ _).2 ⟨_,z,hj,a2,he⟩);have r1:=ya.rng x y;have r2:=ya.rng y z;rcases r1 with r1 | r1 | r1
  ·exact n1 r1
  ·have:=qar _ _ r1;rw[<- this]at n2;exact n2 a3
  ·rcases r2 with r2 | r2 | r2
   ·exact n2 r2
   ·have:=qar _ _ r2;rw[this]at n1;exact n1 a3
   ·have e1:qp y x=-1:=by rw[ya.anti];omega
    have e2:qp z y=-1:=by rw[ya.anti];omega
    have e3:=ya.trans _ _ _ e2 e1;have e4:=ya.anti x z;omega
theorem qyF{k:Type}{F:Nat->T->T->Option k}{g:T->T->k}(l:List T)(h:∀ x∈l,∀ y∈l,Ev (λ m _=>F m x y) (g x y)):∃ B,∀ m,B<=m->∀ x∈l,∀ y∈l,F m x y=some (g x y):=by
 have d:∀(x:T),(∀ y∈l,Ev (λ m _=>F m x y) (g x y))->∀ r:List T,(∀ y∈r,y∈l)->∃ B,∀ m,B<=m->∀ y∈r,F m x y=some (g x y):=by
  intro x n r
  induction r with
  | nil=>exact λ _=>⟨0,λ _ _ y f=>by cases f⟩
  | cons y r e =>
    intro b;obtain⟨B,j⟩:=e λ z a=>b z (wg _ a);obtain⟨D,i⟩:=n y (b y (wh ..));refine⟨max B D,λ m o z a=>?_⟩;rcases wy.1 a with rfl | a
    ·exact i m D (by omega) (wa _)
    ·exact j m (by omega) z a
 have c:∀ r:List T,(∀ y∈r,y∈l)->∃ B,∀ m,B<=m->∀ x∈r,∀ y∈l,F m x y=some (g x y):=by
  intro r
  induction r with
  | nil=>exact λ _=>⟨0,λ _ _ y f=>by cases f⟩
  | cons x r e =>
    intro b;obtain⟨B,j⟩:=e λ z a=>b z (wg _ a);obtain⟨D,i⟩:=d x (h x (b x (wh ..))) l λ _ h=>h;refine⟨max B D,λ m o z a=>?_⟩;rcases wy.1 a with rfl | a
    ·exact i m (by omega)
    ·exact j m (by omega) z a
 exact c l λ _ h=>h
theorem qA4{α : Type}{l:List α}{b:List Nat}:∀ x∈pick l b,x∈l := λ x a=>by
 unfold pick at a;obtain⟨i,_,h⟩:=xa.1 a;exact wb h
theorem qKN(l:List T)(hl:l.length<=100000)(hs:∀ t∈l,size t<=1000000000):∃ l',Ev (λ m _=>qY m l) l'/\l'.length=l.length/\∀ x∈l',x∈l:=by
 cases hl0:l with
 | nil=>exact⟨[],waD (Ev.congr (wax _) λ m _=>rfl),rfl,λ x h=>h⟩
 | cons x0 r0 =>
   rw[<- hl0];obtain⟨B,hB⟩:=qyF (F := λ m x y=>qA m x y) l λ x hx y hy=>qdd x (hs x hx) y (hs y hy);have hne:l≠[]:=by rw[hl0];exact vF _ _
   have hO:=qMI l;obtain⟨hp,_⟩:=qrp (λ x y=>some (qp x y)) l hO;have hlt:∀ i∈qaI (λ x y=>some (qp x y)) l,i<l.length := λ i hi=>kS.1 (hp.mem_iff.1 hi);refine⟨pick l (qaI (λ x y=>some (qp x y)) l),waD ⟨B,λ m k hm _=>?_⟩,by rw[qny hlt,hp.length_eq,xC],qA4⟩;show qY (m+1) l=_;rw[qcv];have hcf:Jh (qA m) l=Jh (λ x y=>some (qp x y)) l:=qKM (hB m hm);have hall:qcu (qA m) l=true:=qw4 λ x hx y hy=>by rw[hB m hm x hx y hy];rfl
   have hix:qaI (qA m) l=qaI (λ x y=>some (qp x y)) l:=by unfold qaI;rw[hcf]
   have e:qqM (qA m) l=cond (Nat.ble l.length 100000&&(qcu (qA m) l&&qrA l.length (ltOf (Jh (qA m) l)))) (some (pick l (qaI (qA m) l))) none:=by rw[hl0];rfl
   rw[e,hcf,hall,hix,qKo hO,show Nat.ble l.length 100000=true from xG hl];rfl
theorem qDX(l:List T)(A:l.length<=100000)(v:∀ t∈l,size t<=1000000000):∃ r,Ev (λ m _=>qG m l) ((),r,())/\(r=[]↔l=[])/\r.length<=l.length/\∀ x∈r,x∈l:=by
 cases b:l with
 | nil=>exact⟨[],waD (Ev.congr (wax _) λ m _=>rfl),Iff.rfl,wa _,λ x h=>h⟩
 | cons D E =>
   rw[<- b]
   obtain⟨B,z⟩:=qyF (F := λ m x y=>yX m x y) (g := λ x y=>ieq (qp x y) 0) l λ x d y c=>by
    refine waD ?_;simp only[qr4,qeZ,qh];exact wav (qdd x (v x d) y (v y c)) (wax _)
   have n:l≠[]:=by rw[b];exact vF _ _
   have f:0<l.length:=xd.2 n;obtain⟨a,s⟩:∃ a,a=qjX (λ x y=>some (ieq (qp x y) 0)) l:=⟨_,rfl⟩
   have o:∀ i∈zy a l.length,i<l.length:=qxi
   have p:(zy a l.length).length<=l.length:=by
    have:=va (λ i=>decide (i=0) || !a i (i-1)) (List.range l.length);rw[xC]at this;exact this
   have C:0∈zy a l.length:=kJ.2 ⟨kS.2 f,by simp⟩;refine⟨pick l (zy a l.length),waD ⟨B,λ m k w _=>?_⟩,⟨λ h=>?_,λ h=>absurd h n⟩,by rw[qny o];exact p,qA4⟩
   ·show qG (m+1) l=_;rw[qbt]
    have u:qjX (yX m) l=a:=by
     rw[s];funext i j;unfold qjX;cases d:l[i % l.length]? with
     | none=>rfl
     | some x=>cases c:l[j % l.length]? with
       | none=>rfl
       | some y=>simp only;rw[z m w x (wb d) y (wb c)]
    have q:qcu (yX m) l=true:=qw4 λ x d y c=>by rw[z m w x d y c];rfl
    have e:qyj (yX m) l=cond (Nat.ble l.length 100000&&qcu (yX m) l) (some (pick l (zy (qjX (yX m) l) l.length))) none:=by rw[b];rfl
    unfold qtH;rw[e,q,u,show Nat.ble l.length 100000=true from xG A];rfl
   ·have:=qny o;rw[h]at this;have G:=List.length_pos_of_mem C;simp at this;omega
theorem qDy(l:List T)(w:l.length<=100000)(f:∀ t∈l,size t<=1000000000):∃ o,Ev (λ m _=>qgN m l) ((),o,())/\(o=[]↔l=[]):=by
 obtain⟨u,e1,b,n⟩:=qKN l w f;obtain⟨a,A,r,B,s⟩:=qDX u (by omega) λ t v=>f t (n t v);refine⟨a,?_,r.trans ⟨λ h=>wj (by rw[<- b,h];rfl),λ h=>wj (by rw[b,h];rfl)⟩⟩;refine waD ?_;simp only[qwi,qdN];refine wav e1 (waz (by rw[b,Nat.beq_refl]) (wav A ?_))
 have c:=qs (P := λ i=>Ev (λ m k=>JE m k a.length i a) ((),a,())) a (by omega)
  (λ g=>by
   refine waC ?_;simp only[qlf,qdF];exact waA g (wax _))
  (λ i x d C g q y z=>by
   refine waC ?_;simp only[qlf,qdF,qh];refine waz g (way q (wav (qsG x (f x (n x (s x (wb d))))) (way q ?_)));rw[y]
   have e:jt a (i:Int) x=a:=by
    rw[qaz];apply xc;intro j;by_cases p:i=j
    ·subst p;rw[List.getElem?_set_self (getElem?_lt d)];exact d.symm
    ·rw[List.getElem?_set_ne p]
   rw[e];exact z)
 exact waE (L := λ m k=>JE m k a.length 0 a) (c 0 (we _))
theorem qKm(t:T)(d:size t<=100000):∃ l,Ev (λ m _=>ql7 m t) l/\(l=[]↔zC 1 t=[]):=by
 obtain⟨l,f,e⟩:=qDy (zC 1 t) (wD (qi6 1 t) d) λ u c=>by have:=qwx 1 t u c;omega
 refine⟨l,?_,e⟩;refine waD ?_;simp only[qBs,qkl,qh];refine wav (a:=l) (waD ?_) (wax _);simp only[qxR,qhw,qh];have b:=qKb t 1 (by omega) [] (by rw[wZ];omega);rw[kW]at b;exact wav b (wav f (waB rfl))
theorem qCZ(l:List T)(t:T):Q6 l t≠[]:=by
 cases l with
 | nil=>simp[Q6]
 | cons x l =>
   unfold Q6
   repeat' split
   all_goals exact vF _ _
theorem qK4(l:List T)(o:szL l<=1000000000):Ev (λ m _=>qlF m l) (l.foldl Q6 []):=by
 have g:=jF l;refine waD ?_;simp only[qBl,qgQ]
 have n:∀(l a:List T),szL (l.foldl Q6 a)<=szL a+szL l:=by
  intro l
  induction l with
  | nil=>intro a;simp[szL]
  | cons x l f=>intro a;rw[w7,qO];have:=f (Q6 a x);have:=qwj x a;omega
 have b:=qs (P := λ i=>Ev (λ m k=>qbH m k l ((l.take i).foldl Q6 []) i) (l.foldl Q6 [])) l (by omega)
  (λ c=>by
   refine waC ?_;simp only[qpn,qgB];refine waA c ?_;rw[wE];exact wax _)
  (λ i x d p c j h e=>by
   refine waC ?_;simp only[qpn,qgB,qh];have r:=n (l.take i) [];have q:=Ql d;have s:szL ([]:List T)=0:=rfl;refine waz c (way j (wav (qFt _ x (by omega)) ?_));rw[h,qr2];rw[zZ d,xk]at e;exact e)
 exact waE (L := λ m k=>qbH m k l [] 0) (b 0 (we _))
theorem qFO(l:List T):l.foldl Q6 []=[]↔l=[]:=by
 constructor
 ·intro h;cases d:l with
  | nil=>rfl
  | cons x r =>
    exfalso
    have b:∀(r a:List T),a≠[]->r.foldl Q6 a≠[]:=by
     intro r
     induction r with
     | nil=>intro a h;exact h
     | cons y r c=>intro a _;exact c _ (qCZ _ _)
    rw[d,w7]at h;exact b r _ (qCZ _ _) h
 ·intro h;rw[h];rfl
theorem qHP(t:T)(k:Int)(g:size t<=10000):Ev (λ m _=>qjn m t k) ((zC k t).foldl Q6 []):=by
 refine waD ?_;simp only[qz0,qfr,qh];refine wav (qCj t (by omega)) ?_;have h:=qoh t
 have a:szL (zC k t)<=1000000000:=by
  have s:=qDq (qwx k t);have r:(zC k t).length*size t<=10000*10000:=vR (wD (qi6 k t) g) g;omega
 have d:=qs (P := λ i=>Ev (λ m c=>qax m c k (Q0 t) i (((Q0 t).take i).filter λ x=>decide (x.kind=k))) ((zC k t).foldl Q6 [])) (Q0 t) (by omega)
  (λ e=>by
   refine waC ?_;simp only[qoK,qfz];refine waA e ?_;rw[wE];exact wav (qK4 (zC k t) a) (wax _))
  (λ i x n o e l j f=>by
   refine waC ?_;simp only[qoK,qfz,qh];have q:=va (λ x:T=>decide (x.kind=k)) ((Q0 t).take i);have p:=List.length_take_le' i (Q0 t);rw[zZ n,vt]at f;refine waz e (way l ?_);by_cases b:x.kind=k
   ·refine waz (qk.2 b) (way l (waz (qU (by omega) (by omega)) ?_));rw[j];simpa[b]using f
   ·refine waA (qg.2 b) ?_;rw[j];simpa[b]using f)
 exact waE (L := λ m c=>qax m c k (Q0 t) 0 []) (d 0 (we _))
theorem qGa(t:T)(c:size t<=10000):Ev (λ m _=>qgy m t) (qdg t):=by
 have b:Ev (λ m _=>qju m t) ((zC 1 t).foldl Q6 []):=by
  refine waD ?_;simp only[qy8,qiF,qh];exact wav (qHP t 1 c) (wax _)
 refine waD ?_;simp only[qvj,qgG,qh];refine wav b (waB ?_);unfold qdg;by_cases h:zC 1 t=[]
 ·rw[h];rfl
 ·have a:(zC 1 t).foldl Q6 []≠[] := λ a=>h ((qFO _).1 a);have e:0<((zC 1 t).foldl Q6 []).length:=xd.2 a;rw[qg.2 (by omega)];cases d:zC 1 t with
  | nil=>exact absurd d h
  | cons x r=>rfl
end Go.AmZ
namespace Go.AmZ
open Go Go.GxZ
def nmL:List (List UInt8):=[[112,97,105,114],[101,110,99],[97,101,110,99],[112,107],[115,105,103,110],[104,97,115,104],[120,111,114],[122,101,114,111],[101,120,112],[109,117,108],[105,110,118],[111,110,101],[115,107],[115,104,107],[110,101,119]]
def esL:List (List UInt8 × (Int × Int)):=[([112,97,105,114],(2,2)),([101,110,99],(2,2)),([97,101,110,99],(2,2)),([112,107],(1,1)),([115,105,103,110],(2,2)),([104,97,115,104],(1,1)),([120,111,114],(2,8)),([122,101,114,111],(0,0)),([101,120,112],(2,2)),([109,117,108],(2,8)),([105,110,118],(1,1)),([111,110,101],(0,0)),([115,107],(1,1)),([115,104,107],(2,2)),([110,101,119],(1,8))]
theorem qyr:esL.map (·.1)=nmL:=rfl
def qcD(n:List UInt8):Bool:=qy n qco||(qy n qeg||qy n qg7)
def qn6:List (List UInt8 × (Int × Int))->List UInt8->Nat->Int
 | [],_,_=>-1
 | r::l,n,i=>if qy r.1 n=true then(i:Int)else qn6 l n (i+1)
def qnS:List (List UInt8)->List UInt8->Nat->Int
 | [],_,_=>0
 | r::l,n,i=>if qy r n=true then(i:Int)else qnS l n (i+1)
theorem qzQ:∀(l:List (List UInt8 × (Int × Int))) (n:List UInt8) (i:Nat),n∈l.map (·.1)->qn6 l n i=qnS (l.map (·.1)) n i/\∃(j:Nat) (r:List UInt8 × (Int × Int)),qn6 l n i=((i+j:Nat):Int)/\l[j]?=some r/\r.1=n
 | [],_,_,h=>by cases h
 | r::l,n,i,h=>by
   rw[qn6,wm,qnS];by_cases a:qy r.1 n=true
   ·rw[if_pos a,if_pos a];exact⟨rfl,0,r,rfl,rfl,jf.1 a⟩
   ·rw[if_neg a,if_neg a];rw[wm]at h;rcases wy.1 h with h | h
    ·exact absurd (jf.2 h.symm) a
    ·obtain⟨e,j,q,d,c,b⟩:=qzQ l n (i+1) h;exact⟨e,j+1,q,by rw[d];omega,by simpa using c,b⟩
def hdE(n:List UInt8):Int:=iw .u8 (iw .i64 (qj 16 (qnS nmL n 0)))
def bI:T->List Int:=T.para λ t a=>if t.kind=2 then[iw .u8 t.sort,iw .u8 t.name.length]++Qj t.name else(if qcD t.name then[hdE t.name]++[iw .u8 t.kids.length]else[hdE t.name])++a.flatten
theorem qqH(t:T):bI t=if t.kind=2 then[iw .u8 t.sort,iw .u8 t.name.length]++Qj t.name else(if qcD t.name then[hdE t.name]++[iw .u8 t.kids.length]else[hdE t.name])++(t.kids.map bI).flatten:=T.para_eq _ _
def okN(u:T):Prop:=(u.kind=2\/u.kind=3/\u.name∈nmL)/\u.name.length<=24
def okE(t:T):Prop:=∀ u∈Q0 t,okN u
theorem qvc{t:T}(h:okE t):okN t:=h t (by rw[qcf];exact wh ..)
theorem qvv{t k:T}(h:okE t)(b:k∈t.kids):okE k := λ u a=>h u (by
 rw[qcf];exact wg _ (vh.2 ⟨_,wx.2 ⟨k,b,rfl⟩,a⟩))
theorem qom(s:List UInt8):(Qj s).length=s.length:=wC ..
theorem qbz(s:List Int):(qH s).length=s.length:=wC ..
theorem qeP(a b:List Int):qH (a++b)=qH a++qH b:=wT ..
theorem qsu(s:List UInt8):qH (Qj s)=s:=by
 unfold qH Qj;rw[xg];refine(k8 (g:=id) λ c _=>?_).trans (List.map_id _);show UInt8.ofNat (Int.toNat ((c.toNat:Nat):Int))=c;rw[wJ];exact UInt8.ofNat_toNat
theorem qLX(t:T):okE t->(bI t).length<=26*size t:=by
 induction t using T.ind with
 | h t d =>
   intro h;have f:=(qvc h).2;rw[qqH,qR];split
   ·rw[wc,qom];show 2+_<=_;omega
   ·have c:∀ l:List T,(∀ k∈l,k∈t.kids)->((l.map bI).flatten).length<=26*(l.map size).sum:=by
      intro l
      induction l with
      | nil=>intro _;exact we _
      | cons k l a =>
        intro b;have f:=d k (b k (wh ..)) (qvv h (b k (wh ..)));have i:=a λ x e=>b x (wg _ e);rw[wm,xS,wc,wm,kD];omega
    have:=c t.kids λ _ h=>h;rw[wc];have g:(if qcD t.name=true then[hdE t.name]++[iw .u8 t.kids.length]else[hdE t.name]).length<=2:=by split<;>simp
    omega
theorem qCe{n:List UInt8}(h:(qC n).2.2≠0)(a:pPl n=true):n∈nmL:=by
 have all:∀ r∈jE,r.2.2.2≠3->r.1∈nmL:=by decide
 unfold pPl at a;unfold qC at h a;cases b:jE.find? λ r=>r.1==n with
 | none=>rw[b]at h;exact absurd rfl h
 | some r =>
   rw[b]at a;have e:=List.mem_of_find?_eq_some b;have d:=List.find?_some b;have c:r.1=n:=by simpa using d
   rw[bnt,qg]at a;rw[<- c];exact all r e a
theorem qui{t:T}(h:yK t=0):t.name.length<=24/\(t.kind=1\/t.kind=2\/t.kind=3)/\(t.kind≠3->t.kids=[]):=by
 unfold yK qfC at h
 have a:yD t.name=true->t.name.length<=24 := λ a=>by
  unfold yD at a;simp only[wd,decide_eq_true_eq]at a;exact a.1.1.2
 cases b:yD t.name with
 | false =>
   rw[b]at h;simp only[vV,if_false]at h;exfalso;revert h
   repeat' split
   all_goals omega
 | true =>
   rw[b]at h;refine⟨a b,?_,λ c=>?_⟩
   ·revert h;repeat' split
    all_goals intro h;omega
   ·apply wj;revert h;repeat' split
    all_goals intro h;omega
theorem qMo(t:T):yV t=0->zg t=0->qc6 pPl t=true->zC 1 t=[]->okE t:=by
 induction t using T.ind with
 | h t r =>
   intro v j e i;obtain⟨x,w⟩:=qhW v;obtain⟨p,o,n⟩:=qui x;rw[qlj,wd]at e;rw[ql1]at i;obtain⟨f,q⟩:=wR.1 i;have c:t.kind≠1 := λ h=>by rw[if_pos h]at f;cases f
   intro u b;rw[qcf]at b;rcases wy.1 b with rfl | b
   ·refine⟨?_,p⟩;rcases o with h | h | h
    ·exact absurd h c
    ·exact .inl h
    ·refine .inr ⟨h,?_⟩;obtain⟨z,_⟩:=qaq h j;obtain⟨m,_⟩:=qnX h z;have g:=e.1;rw[show(u.kind==3)=true from beq_iff_eq.2 h]at g;exact qCe m (by simpa using g)
   ·obtain⟨l,s,b⟩:=vh.1 b;obtain⟨k,a,rfl⟩:=wx.1 s
    have d:t.kind=3:=by
     by_cases h:t.kind=3
     ·exact h
     ·rw[n h]at a;cases a
    obtain⟨_,y⟩:=qaq d j;refine r k a (w k a) (y k a) ?_ ?_ u b
    ·have:=wv.1 e.2 (qc6 pPl k) (wx.2 ⟨k,a,rfl⟩);exact this
    ·exact waj.1 q _ (wx.2 ⟨k,a,rfl⟩)
end Go.AmZ
namespace Go.AmZ
open Go Go.GxZ
theorem qCf(t:T):T.mk t.kind t.name t.sort t.kids=t:=qh t
theorem qLJ(t:T):Ev (λ m _=>qX m esL t) ((t,()),(qn6 esL t.name 0,())):=by
 refine waD ?_;simp only[Jq,qM]
 have b:=qs (P := λ i=>Ev (λ m k=>qr m k esL esL.length i t.kind t.name t.sort t.kids) ((t,()),(qn6 (esL.drop i) t.name i,()))) esL (by decide)
  (λ c=>by
   refine waC ?_;simp only[yO,qL];refine waA c (waB ?_);rw[wU,qn6,qCf])
  (λ i x j f c e d g=>by
   refine waC ?_;simp only[yO,qL,qCf];refine waz c (way e ?_);refine wav (a:=((t,()),(qy x.1 t.name,()))) (waD (waB ?_)) ?_
   ·show _=_;simp only[qk6,qay,qh]
   rw[f,qn6,d];refine waw (λ h=>?_) λ h=>?_
   ·rw[if_pos h];simp only[qh];exact wax _
   ·rw[if_neg (by rw[show qy x.1 t.name=false from h];decide)];exact g)
 exact waE (L := λ m k=>qr m k esL esL.length 0 t.kind t.name t.sort t.kids) (b 0 (we _))
theorem qJZ(n:List UInt8):Ev (λ m _=>qh7 m n) (qnS nmL n 0):=by
 refine waD ?_;simp only[qx9,qeE];refine wav (a:=nmL) (waD (wax _)) ?_
 have b:=qs (P := λ i=>Ev (λ m k=>J9 m k n nmL i) (qnS (nmL.drop i) n i)) nmL (by decide)
  (λ c=>by
   refine waC ?_;simp only[qmE,qet];refine waA c (waB ?_);rw[wU,qnS])
  (λ i x j f c e d g=>by
   refine waC ?_;simp only[qmE,qet];refine waz c (way e ?_);rw[f,qnS,d];refine waw (λ h=>?_) λ h=>?_
   ·rw[if_pos h];exact wax _
   ·rw[if_neg (by rw[h];decide)];exact g)
 exact waE (L := λ m k=>J9 m k n nmL 0) (b 0 (we _))
theorem qJ4(n:List UInt8):Ev (λ m _=>qfg m n) (qcD n):=by
 refine waD ?_;simp only[qtC,qfH];unfold qcD;refine waw (λ h=>waB ?_) λ h=>waw (λ a=>waB ?_) λ a=>waB ?_
 ·rw[show qy n qco=true from h];rfl
 ·rw[show qy n qco=false from h,show qy n qeg=true from a];rfl
 ·rw[show qy n qco=false from h,show qy n qeg=false from a];rfl
theorem qFh:∀ r∈esL,qe (ieq r.2.1 r.2.2)=qcD r.1:=by decide
theorem qwS(t:T)(i:Nat):((t.kids.take i).map bI).flatten.length<=(t.kids.map bI).flatten.length:=by
 have:=congrArg (λ l=>(l.map bI).flatten.length) (kz i t.kids);simp only[wT,xm,wc]at this;omega
theorem qlq{t x:T}{i:Nat}(a:t.kids[i]?=some x):((t.kids.take (i+1)).map bI).flatten=((t.kids.take i).map bI).flatten++bI x:=by
 rw[zZ a,wT,xm];simp
theorem qHW(t:T):okE t->size t<=100000->∀ c:List Int,c.length+(bI t).length<=1000000000->Ev (λ m _=>zR m c t) ((),(c++bI t,())):=by
 induction t using T.ind with
 | h t B =>
   intro f J c C;obtain⟨l,K⟩:=qvc f;refine waD ?_;simp only[qsa,qb5,qh];rcases l with l | ⟨l,g⟩
   ·rw[qqH,if_pos l];refine waz (bnt.2 (qg.2 (by omega))) ?_;refine waz (qU (by omega) (by omega)) ?_;refine waz (qU (by rw[wc,qom];show(c.length+2+_)*1<=_;omega) (by omega)) (waB ?_);rw[wi]
   ·have q:t.kind≠2:=by omega
    refine waA (bnf.2 (qk.2 l)) ?_;obtain⟨A,j,r,v,u,z⟩:=qzQ esL t.name 0 (by rw[qyr];exact g);rw[wH]at v;refine wav (a:=esL) (waD (wax _)) (wav (qLJ t) ?_);refine waz (qU (by omega) (by omega)) (wav (a:=esL) (waD (wax _)) (way (a:=r) (by rw[v,zM,u]) ?_));refine wav (a:=qcD t.name) (waD (waB ?_)) ?_
    ·simp only[qdq,Qo];rw[<- z];exact qFh r (wb u)
    rw[show iw .u8 (iw .i64 (qj 16 (qn6 esL t.name 0)))=hdE t.name by unfold hdE;rw[A,qyr]];obtain⟨e,b⟩:∃ e,e=(if qcD t.name then[hdE t.name]++[iw .u8 (t.kids.length:Int)]else[hdE t.name]):=⟨_,rfl⟩
    have w:bI t=e++(t.kids.map bI).flatten:=by rw[qqH,if_neg q,b]
    rw[w,wc]at C;have D:=yt t
    have o:=qs (P := λ i=>Ev (λ m k=>jN m (zR m) k t.kids t.kids.length i ((c++e)++((t.kids.take i).map bI).flatten)) ((),(c++bI t,()))) t.kids (by omega)
     (λ s=>by
      refine waC ?_;simp only[qiT,qbT];refine waA s (waB ?_);rw[wE,w,wi])
     (λ i x p G s F E y=>by
      refine waC ?_;simp only[qiT,qbT,qh];have g:=wb p;have M:=jy t x g;have I:=qwS t (i+1);rw[qlq p,wc]at I;refine waz s (way F (wav (B x g (qvv f g) (by omega) _ (by rw[wc,wc];omega)) ?_));rw[qlq p,<- wi]at y;rw[E];exact y)
    have d:=o 0 (we _);rw[xE,xW,List.flatten_nil,wA]at d;cases n:qcD t.name with
    | true =>
      rw[n]at b;have b:e=[hdE t.name]++[iw .u8 (t.kids.length:Int)]:=b;have H:e.length=2:=by rw[b];rfl
      rw[b,<- wi]at d;exact waz rfl (waz (qU (by rw[wc];show(c.length+1+1)*1<=_;omega) (by omega)) (waE (L := λ m k=>jN m (zR m) k t.kids t.kids.length 0 _) d))
    | false =>
      rw[n]at b;have b:e=[hdE t.name]:=b;rw[b]at d;exact waA rfl (waE (L := λ m k=>jN m (zR m) k t.kids t.kids.length 0 _) d)
theorem qGP(t:T):okE t->size t<=100000->(bI t).length<=1000000000->Ev (λ m _=>jb m t) (qH (bI t)):=by
 induction t using T.ind with
 | h t r =>
   intro d A s;obtain⟨f,B⟩:=qvc d;refine waD ?_;simp only[qx7,qes];rcases f with f | ⟨f,j⟩
   ·rw[qqH,if_pos f,qeP,qsu];exact waz (qk.2 f) (waz (qqS (by rw[qbz];show 2+_<_;omega)) (wax _))
   ·have e:t.kind≠2:=by omega
    refine waA (qg.2 e) (wav (qJZ t.name) (wav (qJ4 t.name) ?_));rw[show iw .u8 (iw .i64 (qj 16 (qnS nmL t.name 0)))=hdE t.name from rfl];obtain⟨c,a⟩:∃ c,c=(if qcD t.name then[hdE t.name]++[iw .u8 (t.kids.length:Int)]else[hdE t.name]):=⟨_,rfl⟩
    have p:bI t=c++(t.kids.map bI).flatten:=by rw[qqH,if_neg e,a]
    rw[p,wc]at s;have u:=yt t
    have l:=qs (P := λ i=>Ev (λ m k=>Jf m (jb m) k (qH (c++((t.kids.take i).map bI).flatten)) i t.kind t.name t.sort t.kids) (qH (bI t))) t.kids (by omega)
     (λ o=>by
      refine waC ?_;simp only[qmA,qeG];refine waA o (waB ?_);rw[wE,p])
     (λ i x n y o w v q=>by
      refine waC ?_;simp only[qmA,qeG,qh];have j:=wb n;have C:=jy t x j;have z:=qwS t (i+1);rw[qlq n,wc]at z;refine waz o (way w (wav (r x j (qvv d j) (by omega) (by omega)) (waz (qqS (by rw[qbz,qbz,wc];omega)) ?_)));rw[qlq n,<- wi,qeP]at q;rw[v];exact q)
    have b:=l 0 (we _);rw[xE,xW,List.flatten_nil,wA]at b;cases g:qcD t.name with
    | true =>
      rw[g]at a;have a:c=[hdE t.name]++[iw .u8 (t.kids.length:Int)]:=a;rw[a,qeP]at b;exact waz rfl (waz (qqS (by rw[qbz,qbz];show 1+1<_;omega)) (waE (L := λ m k=>Jf m (jb m) k _ 0 t.kind t.name t.sort t.kids) b))
    | false =>
      rw[g]at a;have a:c=[hdE t.name]:=a;rw[a]at b;exact waA rfl (waE (L := λ m k=>Jf m (jb m) k _ 0 t.kind t.name t.sort t.kids) b)
end Go.AmZ
namespace Go.AmZ
open Go Go.GxZ
def okC(i:Nat)(c:UInt8):Bool:=if i=0 then qeW (c.toNat:Int)else Qf (c.toNat:Int)
def nmE(s:List UInt8)(b:Nat):Nat->Nat->Option Nat
 | 0,_=>none
 | d+1,i=>match s[b+i]? with
   | none=>some (b+i)
   | some c=>cond (okC i c) (nmE s b d (i+1)) (some (b+i))
def hdN(s:List UInt8)(a:Nat):Option (T × Nat) × Nat:=match s[a]? with
 | none=>(none,a)
 | some c=>if c.toNat<=5 then(match s[a+1]? with
   | none=>(none,a+1)
   | some n=>if n.toNat<1\/24<n.toNat then(none,a+1)else match nmE s (a+2) n.toNat 0 with
     | some e=>(none,e)
     | none=>(some (.mk 2 ((s.take (a+2+n.toNat)).drop (a+2)) c.toNat [],0),a+2+n.toNat))
   else if c.toNat<16 then(none,a)else match esL[c.toNat-16]? with
    | none=>(none,a)
    | some r=>if qcD r.1=true then(match s[a+1]? with
      | none=>(none,a+1)
      | some k=>if(k.toNat:Int)<r.2.1\/r.2.2<(k.toNat:Int)then(none,a+1)else(some (.mk 3 r.1 0 [],k.toNat),a+2))
      else(some (.mk 3 r.1 0 [],r.2.1.toNat),a+1)
theorem iwc(c:UInt8):iw .i64 ((c.toNat:Nat):Int)=(c.toNat:Int):=by
 have:=c.toNat_lt;exact jJ (by omega)
theorem iwn{n:Nat}(d:Nat)(h:n+d<2 ^ 62):iw .i64 (qj (n:Int) (d:Int))=((n+d:Nat):Int):=by
 rw[qhq,jJ (by omega)]
theorem qqr(s:List UInt8)(a:Nat)(b d:Int)(j:s.length<2 ^ 60) :
  Ev (λ m _=>zc m (s,((a:Int),false)) b d) (match s[a]? with
   | none=>(((s,((a:Int),true)),()),(b,()))
   | some c=>if b<=(c.toNat:Int)/\(c.toNat:Int)<=d then(((s,(((a+1:Nat):Int),false)),()),((c.toNat:Int),()))else(((s,((a:Int),true)),()),(b,()))):=by
 refine waD ?_;simp only[qmk,qa3];refine waA rfl ?_;cases h:s[a]? with
 | none=>exact waz (qa1.2 (by have:=List.getElem?_eq_none_iff.1 h;omega)) (wax _)
 | some c =>
   have k:=(List.getElem?_eq_some_iff.1 h).1;have e:qc s (a:Int)=some c:=by rw[zM];exact h
   refine waA (qbv.2 (by omega)) (way e ?_);rw[iwc];by_cases g:b<=(c.toNat:Int)
   ·refine waA (qt.2 g) (way e ?_);rw[iwc];by_cases f:(c.toNat:Int)<=d
    ·have e1:iw .i64 (qj (a:Int) 1)=((a+1:Nat):Int):=iwn 1 (by omega);rw[e1]
     have i:iw .i64 (zO ((a+1:Nat):Int) 1)=(a:Int):=by
      rw[show zO ((a+1:Nat):Int) 1=(a:Int) by unfold zO;omega,jJ (by omega)]
     rw[i];refine waA (qt.2 f) (way e (waB ?_));simp only[];rw[if_pos ⟨g,f⟩,iwc]
    ·refine waz (qw.2 (by omega)) (waB ?_);simp only[];rw[if_neg (λ h=>f h.2)]
   ·refine waz (qw.2 (by omega)) (waB ?_);simp only[];rw[if_neg (λ h=>g h.1)]
theorem qzX{s:List UInt8}{b:Nat}:∀{d i:Nat},nmE s b d i=none->∀ j,j<d->b+i+j<s.length
 | 0,_,_,j,f=>by omega
 | d+1,i,h,j,f=>by
   unfold nmE at h;split at h
   ·cases h
   ·rename_i c g;have e:=(List.getElem?_eq_some_iff.1 g).1;cases a:okC i c with
    | false=>rw[a]at h;cases h
    | true =>
      rw[a]at h;have h:nmE s b d (i+1)=none:=h;cases j with
      | zero=>exact e
      | succ j=>have:=qzX h j (by omega);omega
theorem qGs{α : Type}(i:Nat)(c:UInt8)(A B:Option α):(cond (ile 97 (c.toNat:Int)) (cond (ile (c.toNat:Int) 122) A (cond (ile 65 (c.toNat:Int)) (cond (qe (ile (c.toNat:Int) 90)) (cond (ieq (i:Int) 0) B (cond (ilt (c.toNat:Int) 48) (cond (qe (ieq (c.toNat:Int) 95)) (cond (qe (ieq (c.toNat:Int) 35)) B A) A) (cond (ilt 57 (c.toNat:Int)) (cond (qe (ieq (c.toNat:Int) 95)) (cond (qe (ieq (c.toNat:Int) 35)) B A) A) A))) A) (cond (ieq (i:Int) 0) B (cond (ilt (c.toNat:Int) 48) (cond (qe (ieq (c.toNat:Int) 95)) (cond (qe (ieq (c.toNat:Int) 35)) B A) A) (cond (ilt 57 (c.toNat:Int)) (cond (qe (ieq (c.toNat:Int) 95)) (cond (qe (ieq (c.toNat:Int) 35)) B A) A) A))))) (cond (ile 65 (c.toNat:Int)) (cond (qe (ile (c.toNat:Int) 90)) (cond (ieq (i:Int) 0) B (cond (ilt (c.toNat:Int) 48) (cond (qe (ieq (c.toNat:Int) 95)) (cond (qe (ieq (c.toNat:Int) 35)) B A) A) (cond (ilt 57 (c.toNat:Int)) (cond (qe (ieq (c.toNat:Int) 95)) (cond (qe (ieq (c.toNat:Int) 35)) B A) A) A))) A) (cond (ieq (i:Int) 0) B (cond (ilt (c.toNat:Int) 48) (cond (qe (ieq (c.toNat:Int) 95)) (cond (qe (ieq (c.toNat:Int) 35)) B A) A) (cond (ilt 57 (c.toNat:Int)) (cond (qe (ieq (c.toNat:Int) 95)) (cond (qe (ieq (c.toNat:Int) 35)) B A) A) A)))))=cond (okC i c) A B:=by
 generalize a:((c.toNat:Nat):Int)=x;unfold okC;rw[a];clear a;have b:ieq (i:Int) 0=decide (i=0):=by rw[qwo,xe,decide_eq_true_iff,decide_eq_true_iff];omega
 rw[b];simp only[qwo];have o:ilt x 48 = !decide (48<=x):=by unfold ilt;rw[<- decide_not,xe,decide_eq_true_iff,decide_eq_true_iff];omega
 have n:ilt 57 x = !decide (x<=57):=by unfold ilt;rw[<- decide_not,xe,decide_eq_true_iff,decide_eq_true_iff];omega
 rw[o,n];unfold Qf qeW qqo ile qe;by_cases m:i=0<;>by_cases l:97<=x<;>by_cases k:x<=122<;>by_cases j:65<=x<;>by_cases h:x<=90<;>by_cases g:48<=x<;>by_cases f:x<=57<;>by_cases e:x=95<;>by_cases d:x=35<;>simp[m,l,k,j,h,g,f,e,d]<;>omega
theorem qAo(s:List UInt8)(g:s.length<2 ^ 60)(b n:Nat)(j:n<=24):∀ d i,i+d=n->b+i<=s.length ->
  Ev (λ m k=>yc m k b n i s ((b+i:Nat):Int) false) (match nmE s b d i with
   | some e=>(((s,((e:Int),true)),()),([],()))
   | none=>(((s,(((b+n:Nat):Int),false)),()),((s.take (b+n)).drop b,())))
 | 0,i,l,a=>by
   refine waC ?_;simp only[qa4,jZ];obtain rfl:i=n:=by omega
   refine waA (qt.2 (vA _)) ?_;refine waz (by unfold inb;rw[decide_eq_true_iff];omega) (waz (by unfold inb;rw[decide_eq_true_iff];omega) (waB ?_));rfl
 | d+1,i,l,a=>by
   refine waC ?_;simp only[qa4,jZ];refine waz (qw.2 (by omega)) (waA rfl ?_);rw[nmE];cases h:s[b+i]? with
   | none=>exact waz (qa1.2 (by have:=List.getElem?_eq_none_iff.1 h;omega)) (wax _)
   | some c =>
     have p:=(List.getElem?_eq_some_iff.1 h).1;refine waA (qbv.2 (by omega)) (way (by rw[zM];exact h) ?_);have f:=qAo s g b n j d (i+1) (by omega) (by omega);have e1:iw .i64 (qj (i:Int) 1)=((i+1:Nat):Int):=iwn 1 (by omega);have o:iw .i64 (qj ((b+i:Nat):Int) 1)=((b+(i+1):Nat):Int):=iwn (n:=b+i) 1 (by omega);rw[e1,o];refine Ev.congr (F := λ m k=>cond (okC i c) (yc m k b n ((i+1:Nat):Int) s ((b+(i+1):Nat):Int) false) (some (((s,(((b+i:Nat):Int),true)),()),([],())))) ?_ λ m k=>qGs i c _ _;simp only[];cases okC i c with
     | true=>exact f
     | false=>exact wax _
theorem qAG(s:List UInt8)(b a:Int):Ev (λ m k=>yc m k b 1 0 s a true) (((s,(a,true)),()),([],())):=by
 refine waC ?_;simp only[qa4,jZ];exact waz rfl (waz rfl (wax _))
theorem qKE(s:List UInt8)(c:s.length<2 ^ 60)(a:Nat):Ev (λ m _=>QU m (s,((a:Int),false))) (match s[a]? with
  | none=>(((s,((a:Int),true)),()),([],()))
  | some n=>if n.toNat<1\/24<n.toNat then(((s,((a:Int),true)),()),([],()))else match nmE s (a+1) n.toNat 0 with
    | some e=>(((s,((e:Int),true)),()),([],()))
    | none=>(((s,(((a+1+n.toNat:Nat):Int),false)),()),((s.take (a+1+n.toNat)).drop (a+1),()))):=by
 refine waD ?_;simp only[qmb,Jo];have b:=qqr s a 1 24 c;cases h:s[a]? with
 | none =>
   rw[h]at b;exact wav b (waE (qAG s a a))
 | some n =>
   rw[h]at b;simp only[]at b |-
   by_cases d:n.toNat<1\/24<n.toNat
   ·rw[if_neg (by omega)]at b;rw[if_pos d];exact wav b (waE (qAG s a a))
   ·rw[if_pos (by omega)]at b;rw[if_neg d];have f:=(List.getElem?_eq_some_iff.1 h).1;exact wav b (waE (qAo s c (a+1) n.toNat (by omega) n.toNat 0 (by omega) (by omega)))
theorem qde:Ev (λ m _=>yi m) esL:=by
 refine waD ?_;simp only[qo9,qdh];exact wax _
theorem qnc{r:List UInt8 × (Int × Int)}(a:r∈esL):Ev (λ m _=>yq m (r.1,(r.2.1,r.2.2))) (qcD r.1):=by
 refine waD ?_;simp only[qdq,Qo];exact waB (qFh r a)
theorem qAW:∀ r∈esL,0<=r.2.1/\r.2.1<=8/\r.2.2<=8:=by decide
theorem qqR(s:List UInt8)(D:s.length<2 ^ 60)(b:Nat):(∀ t n p,hdN s b=(some (t,n),p)->Ev (λ m _=>qv m (s,((b:Int),false))) (((s,((p:Int),false)),()),((t.kind,(t.name,(t.sort,([],((n:Int),()))))),()))) /\
  (∀ e,hdN s b=(none,e)->∃ nk nm sk lf,Ev (λ m _=>qv m (s,((b:Int),false))) (((s,((e:Int),true)),()),((nk,(nm,(sk,([],(lf,()))))),()))):=by
 have K:∃ v:(Val RD × Unit) × ((Int × List UInt8 × Int × List T × Int × Unit) × Unit),Ev (λ m _=>qv m (s,((b:Int),false))) v/\match hdN s b with
   | (some (t,n),p)=>v=(((s,((p:Int),false)),()),((t.kind,(t.name,(t.sort,([],((n:Int),()))))),()))
   | (none,e)=>∃ nk nm sk lf,v=(((s,((e:Int),true)),()),((nk,(nm,(sk,([],(lf,()))))),())):=by
  have y:(∀ c,s[b]?=some c->¬ c.toNat<=5)->∃ v:(Val RD × Unit) × ((Int × List UInt8 × Int × List T × Int × Unit) × Unit),Ev (λ m _=>qa (yi m) λ J=>qa (yi m) λ I=>qa (zc m (s,((b:Int),false)) 16 (iw .i64 (zO (iw .i64 (qj 16 (List.length I))) 1))) λ j=>qa (qc J (iw .i64 (zO j.2.1 16))) λ g=>qa (yq m (g.1,(g.2.1,g.2.2))) λ H=>cond H (qa (zc m (j.1.1.1,(j.1.1.2.1,j.1.1.2.2)) g.2.1 g.2.2) λ o=>some (((o.1.1.1,(o.1.1.2.1,o.1.1.2.2)),()),((3,(g.1,(0,([],(o.2.1,()))))),()))) (some (((j.1.1.1,(j.1.1.2.1,j.1.1.2.2)),()),((3,(g.1,(0,([],(g.2.1,()))))),())))) v/\match hdN s b with
   | (some (t,n),p)=>v=(((s,((p:Int),false)),()),((t.kind,(t.name,(t.sort,([],((n:Int),()))))),()))
   | (none,e)=>∃ nk nm sk lf,v=(((s,((e:Int),true)),()),((nk,(nm,(sk,([],(lf,()))))),())):=by
   intro B;have f:=qqr s b 16 30 D
   have fail:(match s[b]? with
    | none=>True
    | some c=>c.toNat<16\/30<c.toNat)->∃ v:(Val RD × Unit) × ((Int × List UInt8 × Int × List T × Int × Unit) × Unit),Ev (λ m _=>qa (yi m) λ J=>qa (yi m) λ I=>qa (zc m (s,((b:Int),false)) 16 (iw .i64 (zO (iw .i64 (qj 16 (List.length I))) 1))) λ j=>qa (qc J (iw .i64 (zO j.2.1 16))) λ g=>qa (yq m (g.1,(g.2.1,g.2.2))) λ H=>cond H (qa (zc m (j.1.1.1,(j.1.1.2.1,j.1.1.2.2)) g.2.1 g.2.2) λ o=>some (((o.1.1.1,(o.1.1.2.1,o.1.1.2.2)),()),((3,(g.1,(0,([],(o.2.1,()))))),()))) (some (((j.1.1.1,(j.1.1.2.1,j.1.1.2.2)),()),((3,(g.1,(0,([],(g.2.1,()))))),())))) v/\match hdN s b with
   | (some (t,n),p)=>v=(((s,((p:Int),false)),()),((t.kind,(t.name,(t.sort,([],((n:Int),()))))),()))
   | (none,e)=>∃ nk nm sk lf,v=(((s,((e:Int),true)),()),((nk,(nm,(sk,([],(lf,()))))),())):=by
     intro F
     have L:Ev (λ m _=>zc m (s,((b:Int),false)) 16 30) (((s,((b:Int),true)),()),(16,())):=by
      cases h:s[b]? with
      | none=>rw[h]at f;exact f
      | some c =>
        rw[h]at f F;simp only[]at f F;rw[if_neg (by omega)]at f;exact f
     have A:hdN s b=(none,b):=by
      unfold hdN;cases h:s[b]? with
      | none=>rfl
      | some c =>
        rw[h]at F;simp only[]at F |-
        rw[if_neg (B c h)];by_cases C:c.toNat<16
        ·rw[if_pos C]
        ·rw[if_neg C,show esL[c.toNat-16]?=none from List.getElem?_eq_none_iff.2 (by show 15<=_;omega)]
     rw[A];refine⟨_,wav qde (wav qde (wav L (way (a:=([112,97,105,114],(2,2))) rfl (wav (qnc (r:=([112,97,105,114],(2,2))) (wh ..)) (waA rfl (wax _)))))),3,_,0,_,rfl⟩
   cases h:s[b]? with
   | none=>rw[h]at fail;exact fail trivial
   | some c =>
     by_cases E:c.toNat<16\/30<c.toNat
     ·exact fail (by rw[h];exact E)
     ·rw[h]at f;simp only[]at f;rw[if_pos (by omega)]at f;have z:c.toNat-16<esL.length:=by show _<15;omega
      have q:=List.getElem?_eq_getElem z;generalize esL[c.toNat-16]=r at q;have i:=wb q;obtain⟨R,Q,P⟩:=qAW r i
      have A:hdN s b=(if qcD r.1=true then(match s[b+1]? with
        | none=>(none,b+1)
        | some k=>if(k.toNat:Int)<r.2.1\/r.2.2<(k.toNat:Int)then(none,b+1)else(some (.mk 3 r.1 0 [],k.toNat),b+2))
       else(some (.mk 3 r.1 0 [],r.2.1.toNat),b+1)):=by
       unfold hdN;rw[h];simp only[];rw[if_neg (B c h),if_neg (by omega),q]
      rw[A]
      have w:qc esL (iw .i64 (zO (c.toNat:Int) 16))=some r:=by
       rw[show iw .i64 (zO (c.toNat:Int) 16)=((c.toNat-16:Nat):Int) by rw[show zO (c.toNat:Int) 16=((c.toNat-16:Nat):Int) by unfold zO;omega,jJ (by omega)],zM];exact q
      cases u:qcD r.1 with
      | false =>
        rw[if_neg (by decide)];refine⟨_,wav qde (wav qde (wav f (way w (wav (qnc i) (waA u (wax _)))))),?_⟩;have e:((r.2.1.toNat:Nat):Int)=r.2.1:=by omega
        show _=_;rw[e];rfl
      | true =>
        rw[if_pos rfl];have d:=qqr s (b+1) r.2.1 r.2.2 D;cases l:s[b+1]? with
        | none=>rw[l]at d;exact⟨_,wav qde (wav qde (wav f (way w (wav (qnc i) (waz u (wav d (wax _))))))),3,_,0,_,rfl⟩
        | some k =>
          rw[l]at d;simp only[]at d |-
          by_cases N:(k.toNat:Int)<r.2.1\/r.2.2<(k.toNat:Int)
          ·rw[if_neg (by omega)]at d;rw[if_pos N];exact⟨_,wav qde (wav qde (wav f (way w (wav (qnc i) (waz u (wav d (wax _))))))),3,_,0,_,rfl⟩
          ·rw[if_pos (by omega)]at d;rw[if_neg N];exact⟨_,wav qde (wav qde (wav f (way w (wav (qnc i) (waz u (wav d (wax _))))))),rfl⟩
  cases h:s[b]? with
  | none =>
    obtain⟨v,l,d⟩:=y (by rw[h];intro c u;cases u);refine⟨v,waD ?_,d⟩;simp only[qbL,j7];exact waA (qt.2 (by have:=List.getElem?_eq_none_iff.1 h;omega)) l
  | some c =>
    have S:=(List.getElem?_eq_some_iff.1 h).1;have w:qc s (b:Int)=some c:=by rw[zM];exact h
    by_cases B:c.toNat<=5
    ·have f:=qqr s b 0 5 D;rw[h]at f;simp only[]at f;rw[if_pos (by omega)]at f;have i:=qKE s D (b+1)
     have A:hdN s b=(match s[b+1]? with
      | none=>(none,b+1)
      | some n=>if n.toNat<1\/24<n.toNat then(none,b+1)else match nmE s (b+2) n.toNat 0 with
        | some e=>(none,e)
        | none=>(some (.mk 2 ((s.take (b+2+n.toNat)).drop (b+2)) c.toNat [],0),b+2+n.toNat)):=by
      unfold hdN;rw[h];simp only[];rw[if_pos B]
     rw[A]
     have G:∀ x,Ev (λ m _=>QU m (s,(((b+1:Nat):Int),false))) x->Ev (λ m _=>qv m (s,((b:Int),false))) (((x.1.1.1,(x.1.1.2.1,x.1.1.2.2)),()),((2,(x.2.1,((c.toNat:Int),([],(0,()))))),())) := λ x O=>by
      refine waD ?_;simp only[qbL,j7];exact waz (qw.2 (by omega)) (way w (waz (qa1.2 (by omega)) (wav f (wav O (wax _)))))
     cases l:s[b+1]? with
     | none=>rw[l]at i;exact⟨_,G _ i,2,_,_,_,rfl⟩
     | some n =>
       rw[l]at i;simp only[]at i |-
       by_cases E:n.toNat<1\/24<n.toNat
       ·rw[if_pos E]at i |-;exact⟨_,G _ i,2,_,_,_,rfl⟩
       ·rw[if_neg E]at i |-
        cases d:nmE s (b+2) n.toNat 0 with
        | some e=>rw[show b+1+1=b+2 from rfl,d]at i;exact⟨_,G _ i,2,_,_,_,rfl⟩
        | none=>rw[show b+1+1=b+2 from rfl,d]at i;exact⟨_,G _ i,rfl⟩
    ·obtain⟨v,l,d⟩:=y (by rw[h];intro c' u;cases u;exact B);refine⟨v,waD ?_,d⟩;simp only[qbL,j7];exact waz (qw.2 (by omega)) (way w (waA (qbv.2 (by omega)) l))
 obtain⟨v,l,d⟩:=K;refine⟨λ t n p M=>?_,λ e M=>?_⟩
 ·rw[M]at d;have d:v=_:=d;rw[<- d];exact l
 ·rw[M]at d;obtain⟨nk,nm,sk,lf,d⟩:∃ nk nm sk lf,v=_:=d;exact⟨nk,nm,sk,lf,by rw[<- d];exact l⟩
end Go.AmZ
namespace Go.AmZ
open Go Go.GxZ
def qcq(R:Nat->Option T × Nat):Nat->Nat->Option (List T) × Nat
 | 0,p=>(some [],p)
 | n+1,p=>match R p with
   | (none,e)=>(none,e)
   | (some k,a)=>match qcq R n a with
     | (none,e)=>(none,e)
     | (some ks,q)=>(some (k::ks),q)
def rdT(s:List UInt8):Nat->Nat->Option T × Nat
 | 0,p=>(none,p)
 | f+1,p=>match hdN s p with
   | (none,e)=>(none,e)
   | (some (t,n),q)=>match qcq (rdT s f) n q with
     | (none,e)=>(none,e)
     | (some ks,a)=>(some (.mk t.kind t.name t.sort ks),a)
theorem qkQ{s:List UInt8}{p q n:Nat}{t:T}(h:hdN s p=(some (t,n),q)):p<q/\q<=s.length/\n<=8/\t.kids=[]/\t.name.length<=24:=by
 unfold hdN at h;cases g:s[p]? with
 | none=>rw[g]at h;cases h
 | some c =>
   rw[g]at h;have u:=(List.getElem?_eq_some_iff.1 g).1;simp only[]at h;split at h
   ·cases a:s[p+1]? with
    | none=>rw[a]at h;cases h
    | some k =>
      rw[a]at h;have f:=(List.getElem?_eq_some_iff.1 a).1;simp only[]at h;split at h
      ·cases h
      ·rename_i v;cases i:nmE s (p+2) k.toNat 0 with
       | some e=>rw[i]at h;cases h
       | none =>
         rw[i]at h;cases h;have:=qzX i (k.toNat-1) (by omega);refine⟨by omega,by omega,by omega,rfl,?_⟩;show((s.take _).drop _).length<=24;rw[wS,wo];omega
   ·split at h
    ·cases h
    ·cases d:esL[c.toNat-16]? with
     | none=>rw[d]at h;cases h
     | some r =>
       rw[d]at h;have j:=wb d;obtain⟨o,m,l⟩:=qAW r j;have b:r.1.length<=24:=(by decide:∀ r∈esL,r.1.length<=24) r j;simp only[]at h;split at h
       ·cases a:s[p+1]? with
        | none=>rw[a]at h;cases h
        | some k =>
          rw[a]at h;have f:=(List.getElem?_eq_some_iff.1 a).1;simp only[]at h;split at h
          ·cases h
          ·cases h;exact⟨by omega,by omega,by omega,rfl,b⟩
       ·cases h;exact⟨by omega,by omega,by omega,rfl,b⟩
theorem qvL{R:Nat->Option T × Nat}{L:Nat}(h:∀ p q t,R p=(some t,q)->p<q/\q<=L):∀ n p q ks,p<=L->qcq R n p=(some ks,q)->p<=q/\q<=L/\ks.length=n
 | 0,p,q,ks,c,a=>by cases a;exact⟨wa _,c,rfl⟩
 | n+1,p,q,ks,c,a=>by
   unfold qcq at a;split at a
   ·cases a
   ·rename_i k l e;obtain⟨o,i⟩:=h _ _ _ e;split at a
    ·cases a
    ·rename_i d j b;cases a;obtain⟨m,g,f⟩:=qvL h n _ _ _ i b;exact⟨by omega,g,by simp[f]⟩
theorem quB(s:List UInt8):∀ f p q t,rdT s f p=(some t,q)->p<q/\q<=s.length
 | 0,p,q,t,h=>by cases h
 | f+1,p,q,t,h=>by
   unfold rdT at h;split at h
   ·cases h
   ·rename_i t0 n e b;obtain⟨j,d,_⟩:=qkQ b;split at h
    ·cases h
    ·rename_i ks g a;cases h;obtain⟨i,c,_⟩:=qvL (quB s f) _ _ _ _ d a;exact⟨by omega,c⟩
theorem qwG{b a:Val RD}{nk sk lf:Int}{nm:List UInt8}(h:Ev (λ m _=>qv m b) ((a,()),((nk,(nm,(sk,([],(lf,()))))),()))):Ev (λ m _=>qd4 (qv m) b) (a,(nk,(nm,(sk,lf)))):=by
 obtain⟨B,h⟩:=h;refine⟨B,λ m k c d=>?_⟩;have e:qv m b=_:=h m k c d;show qd4 _ b=_;unfold qd4;rw[e]
abbrev RdL := λ(a:List (T × Int)) (b:Val RD) (m k:Nat)=>qjb (qv m) k a b
theorem qzo(b:List (T × Int))(s:List UInt8)(a:Int):Ev (RdL b (s,(a,true))) (((s,(a,true)),()),(T.mk 0 [] 0 [],())):=by
 refine waC (L:=RdL b (s,(a,true))) ?_;exact wax _
theorem qCY(b:List (T × Int))(s:List UInt8)(a:Int)(t:T)(n:Nat)(i:n<8)(d:b.length<=1000000000){c:Val RD}{nk sk lf:Int}{nm:List UInt8}(h:Ev (λ m _=>qv m (s,(a,false))) ((c,()),((nk,(nm,(sk,([],(lf,()))))),()))){r:(Val RD × Unit) × (T × Unit)}
  (e:Ev (RdL ((b++[(t,(n:Int))])++[(T.mk nk nm sk [],lf)]) c) r):Ev (RdL (b++[(t,((n+1:Nat):Int))]) (s,(a,false))) r:=by
 refine waC (L:=RdL (b++[(t,((n+1:Nat):Int))]) (s,(a,false))) ?_;show Ev (λ m k=>qlT (qv m) (qjb (qv m) k) (b++[(t,((n+1:Nat):Int))]) (s,(a,false))) r;unfold qlT;have f:(b++[(t,((n+1:Nat):Int))]).length=b.length+1:=by simp
 rw[f,xQ];refine waA rfl (way (a:=(t,((n+1:Nat):Int))) (by rw[List.getElem?_append_right (wa _),kK];rfl) ?_);refine waz (qw.2 (by show(0:Int)<((n+1:Nat):Int);omega)) (waz (qU (by omega) (by decide)) (wav (qwG h) ?_));have e1:iw .i64 (zO ((n+1:Nat):Int) 1)=(n:Int):=by rw[show zO ((n+1:Nat):Int) 1=(n:Int) by unfold zO;omega,jJ (by omega)]
 have g:(b++[(t,((n+1:Nat):Int))]).set b.length (t,iw .i64 (zO ((n+1:Nat):Int) 1))=b++[(t,(n:Int))]:=by
  rw[xZ _ _ (wa _),kK,e1];rfl
 show Ev (λ m k=>qjb (qv m) k ((b++[(t,((n+1:Nat):Int))]).set b.length (t,iw .i64 (zO ((n+1:Nat):Int) 1))++[(T.mk nk nm sk [],lf)]) c) r;rw[g];exact e
theorem qL6(b:List (T × Int))(s:List UInt8)(a:Int)(t x:T)(n:Int)(g:t.kids.length<8){r:(Val RD × Unit) × (T × Unit)}
  (d:Ev (RdL (b++[(T.mk t.kind t.name t.sort (t.kids++[x]),n)]) (s,(a,false))) r):Ev (RdL ((b++[(t,n)])++[(x,0)]) (s,(a,false))) r:=by
 refine waC (L:=RdL ((b++[(t,n)])++[(x,0)]) (s,(a,false))) ?_;show Ev (λ m k=>qlT (qv m) (qjb (qv m) k) ((b++[(t,n)])++[(x,0)]) (s,(a,false))) r;unfold qlT;have f:((b++[(t,n)])++[(x,(0:Int))]).length=b.length+2:=by simp
 have c:(b++[(t,n)]).length=b.length+1:=by simp
 rw[f,show b.length+2-1=b.length+1 from rfl,xQ];refine waA rfl (way (a:=(x,(0:Int))) (by rw[List.getElem?_append_right (by omega),c,kK];rfl) ?_);refine waA (qt.2 (vA _)) (waA rfl (way (a:=(t,n)) (by rw[List.getElem?_append_left (by omega),List.getElem?_append_right (wa _),kK];rfl) ?_));refine waz (qU (by show(t.kids.length+1)*56<=_;omega) (by decide)) ?_;have e:((b++[(t,n)])++[(x,(0:Int))]).take b.length=b:=by rw[wi,war]
 rw[e];exact d
theorem qHK(s:List UInt8)(O:s.length<=1000000000):∀ f n p t b,s.length<p+f->p<=s.length->b.length<=p->t.kids.length+n<=8 ->
  (∀ ks q,qcq (rdT s f) n p=(some ks,q)->∀ r,Ev (RdL (b++[(T.mk t.kind t.name t.sort (t.kids++ks),0)]) (s,((q:Int),false))) r->Ev (RdL (b++[(t,(n:Int))]) (s,((p:Int),false))) r) /\
  ∀ e,qcq (rdT s f) n p=(none,e)->Ev (RdL (b++[(t,(n:Int))]) (s,((p:Int),false))) (((s,((e:Int),true)),()),(T.mk 0 [] 0 [],())):=by
 intro f
 induction f with
 | zero=>intro n p t b C B;omega
 | succ f x =>
   intro n
   induction n with
   | zero =>
     intro p t b C B J I;refine⟨λ ks q a r h=>?_,λ e a=>by cases a⟩;cases a;rw[wA]at h;have e:T.mk t.kind t.name t.sort t.kids=t:=qh t;rw[e]at h;exact h
   | succ n w =>
     intro p t b C B J I;cases j:hdN s p with
     | mk o l =>
     cases o with
     | none =>
       have k:rdT s (f+1) p=(none,l):=by unfold rdT;rw[j]
       have d:qcq (rdT s (f+1)) (n+1) p=(none,l):=by unfold qcq;rw[k]
       refine⟨λ ks q a=>(by rw[d]at a;cases a),λ e a=>?_⟩;rw[d]at a;cases a;obtain⟨nk,nm,sk,lf,y⟩:=(qqR s (by omega) p).2 _ j;exact qCY b s p t n (by omega) (by omega) y (qzo _ _ _)
     | some o =>
       obtain⟨t0,u⟩:=o;obtain⟨P,K,g3,A,_⟩:=qkQ j;have y:=(qqR s (by omega) p).1 _ _ _ j;have z := λ r=>qCY b s p t n (by omega) (by omega) y (r:=r);have L:T.mk t0.kind t0.name t0.sort []=t0:=by rw[<- A];exact qh t0
       rw[L]at z;obtain⟨F,E⟩:=x u l t0 (b++[(t,(n:Int))]) (by omega) K (by rw[wc];show b.length+1<=l;omega) (by rw[A];show 0+u<=8;omega);cases m:qcq (rdT s f) u l with
       | mk o g =>
       cases o with
       | none =>
         have k:rdT s (f+1) p=(none,g):=by unfold rdT;rw[j];simp only[];rw[m]
         have d:qcq (rdT s (f+1)) (n+1) p=(none,g):=by unfold qcq;rw[k]
         refine⟨λ ks q a=>(by rw[d]at a;cases a),λ e a=>?_⟩;rw[d]at a;cases a;exact z _ (E _ m)
       | some c =>
         have k:rdT s (f+1) p=(some (.mk t0.kind t0.name t0.sort c),g):=by unfold rdT;rw[j];simp only[];rw[m]
         obtain⟨M,D⟩:=quB s _ _ _ _ k
         have step:∀ r,Ev (RdL (b++[(T.mk t.kind t.name t.sort (t.kids++[.mk t0.kind t0.name t0.sort c]),(n:Int))]) (s,((g:Int),false))) r->Ev (RdL (b++[(t,((n+1:Nat):Int))]) (s,((p:Int),false))) r := λ r h=>by
          refine z r (F _ _ m r ?_);rw[A];exact qL6 b s g t _ n (by omega) h
         obtain⟨H,G⟩:=w g (T.mk t.kind t.name t.sort (t.kids++[.mk t0.kind t0.name t0.sort c])) b (by omega) D (by omega) (by show(t.kids++[_]).length+n<=8;rw[wc];show t.kids.length+1+n<=8;omega)
         have d:qcq (rdT s (f+1)) (n+1) p=(match qcq (rdT s (f+1)) n g with
          | (none,e)=>(none,e)
          | (some ks,q)=>(some (.mk t0.kind t0.name t0.sort c::ks),q)):=by
          rw[qcq,k]
         cases i:qcq (rdT s (f+1)) n g with
         | mk o N =>
         rw[i]at d;cases o with
         | none =>
           refine⟨λ ks q a=>(by rw[d]at a;cases a),λ e a=>?_⟩;rw[d]at a;cases a;exact step _ (G _ i)
         | some v =>
           refine⟨λ ks q a r h=>?_,λ e a=>(by rw[d]at a;cases a)⟩;rw[d]at a;cases a;refine step _ (H _ _ i r ?_);show Ev (RdL (b++[(T.mk t.kind t.name t.sort ((t.kids++[.mk t0.kind t0.name t0.sort c])++v),0)]) _) r;rw[wi];exact h
theorem qFx(s:List UInt8)(w:s.length<=1000000000):(∀ t q,rdT s (s.length+1) 0=(some t,q)->Ev (λ m _=>jo m (s,(0,false))) (((s,((q:Int),false)),()),(t,()))) /\
  ∀ e,rdT s (s.length+1) 0=(none,e)->Ev (λ m _=>jo m (s,(0,false))) (((s,((e:Int),true)),()),(T.mk 0 [] 0 [],())):=by
 have start:∀{c:Val RD} {nk sk lf:Int} {nm:List UInt8} {r:(Val RD × Unit) × (T × Unit)},Ev (λ m _=>qv m (s,(0,false))) ((c,()),((nk,(nm,(sk,([],(lf,()))))),()))->Ev (RdL [(T.mk nk nm sk [],lf)] c) r->Ev (λ m _=>jo m (s,(0,false))) r:=by
  intro c nk sk lf nm r h x;refine waD ?_;simp only[qmq];unfold qn0;exact wav (qwG h) (waE x)
 cases d:hdN s 0 with
 | mk o j =>
 cases o with
 | none =>
   have b:rdT s (s.length+1) 0=(none,j):=by unfold rdT;rw[d]
   refine⟨λ t q a=>(by rw[b]at a;cases a),λ e a=>?_⟩;rw[b]at a;cases a;obtain⟨nk,nm,sk,lf,l⟩:=(qqR s (by omega) 0).2 _ d;exact start l (qzo _ _ _)
 | some o =>
   obtain⟨t0,k⟩:=o;obtain⟨A,y,g3,p,_⟩:=qkQ d;have l:=(qqR s (by omega) 0).1 _ _ _ d;have n := λ r=>start l (r:=r);have z:T.mk t0.kind t0.name t0.sort []=t0:=by rw[<- p];exact qh t0
   rw[z]at n;obtain⟨v,u⟩:=qHK s w s.length k j t0 [] (by omega) y (we _) (by rw[p];show 0+k<=8;omega);cases g:qcq (rdT s s.length) k j with
   | mk o i =>
   cases o with
   | none =>
     have b:rdT s (s.length+1) 0=(none,i):=by unfold rdT;rw[d];simp only[];rw[g]
     refine⟨λ t q a=>(by rw[b]at a;cases a),λ e a=>?_⟩;rw[b]at a;cases a;exact n _ (u _ g)
   | some f =>
     have b:rdT s (s.length+1) 0=(some (.mk t0.kind t0.name t0.sort f),i):=by unfold rdT;rw[d];simp only[];rw[g]
     refine⟨λ t q a=>?_,λ e a=>(by rw[b]at a;cases a)⟩;rw[b]at a;cases a;refine n _ (v _ _ g _ ?_);rw[p];refine waC (L:=RdL ([]++[(T.mk t0.kind t0.name t0.sort ([]++f),(0:Int))]) (s,((i:Int),false))) ?_;exact wax _
end Go.AmZ
namespace Go.AmZ
open Go Go.GxZ
theorem qIt{i:Nat}{c:UInt8}(h:okC i c=true):Qf (c.toNat:Int)=true:=by
 unfold okC at h;split at h
 ·unfold Qf;rw[h];rfl
 ·exact h
theorem qI8{s:List UInt8}{b n:Nat}(w:n<24)(x:b+n<s.length)(h:∀ j c,j<n->s[b+j]?=some c->okC j c=true){c:UInt8}(g:s[b+n]?=some c):yD ((s.take (b+(n+1))).drop b)=okC n c:=by
 have f:((s.take (b+(n+1))).drop b).length=n+1:=by rw[wS,wo];omega
 have a:∀ j,j<n+1->((s.take (b+(n+1))).drop b)[j]?=s[b+j]? := λ j e=>by
  rw[List.getElem?_drop,List.getElem?_take,if_pos (by omega)]
 unfold yD;rw[f,decide_eq_true (show 0<n+1 by omega),decide_eq_true (show n+1<=24 by omega)]
 have q:∀ o,s[b]?=some o->((s.take (b+(n+1))).drop b).getD 0 0=o := λ o d=>by
  rw[List.getD_eq_getElem?_getD,a 0 (by omega),wP,d];rfl
 cases n with
 | zero =>
   rw[q c g]
   have l:(s.take (b+(0+1))).drop b=[c]:=by
    apply xc;intro j;cases j with
    | zero=>rw[a 0 (by omega)];exact g
    | succ j=>rw[List.getElem?_eq_none_iff.2 (by omega)];rfl
   rw[l];unfold okC;rw[if_pos rfl];cases v:qeW (c.toNat:Int)with
   | true=>simp[Qf,v]
   | false=>rfl
 | succ n =>
   have u:b<s.length:=by omega
   have d:=List.getElem?_eq_getElem u;have k:=h 0 _ (by omega) d;unfold okC at k;rw[if_pos rfl]at k;rw[q _ d,k];have:okC (n+1) c=Qf (c.toNat:Int):=by unfold okC;rw[if_neg (by omega)]
   rw[this];cases p:Qf (c.toNat:Int)with
   | true =>
     simp only[kr,wv];intro y r;obtain⟨j,e⟩:=vJ.1 r;have t:=(List.getElem?_eq_some_iff.1 e).1;rw[a j (by omega)]at e;by_cases m:j=n+1
     ·subst m;rw[g]at e;cases e;exact p
     ·exact qIt (h j y (by omega) e)
   | false =>
     simp only[kr];rw[List.all_eq_false];refine⟨c,wb (i:=n+1) ?_,by rw[p];decide⟩;rw[a (n+1) (by omega)];exact g
end Go.AmZ
namespace Go.AmZ
open Go Go.GxZ Go.Lib
theorem qFz(t:T):qp5 t->∀ a:Int,-1000000000<=a->a<=1000000000->Ev (λ m _=>yW m t a) (qa5 t a):=by
 induction t using T.ind with
 | h t j =>
   intro p a d c;obtain⟨u,v,s⟩:=(qCa t).1 p;refine waD ?_;simp only[qv4,qdI];rw[qDp];refine waw (λ h=>?_) λ h=>?_
   ·rw[qa1]at h;exact waB (by rw[if_pos (.inl h)])
   rw[qbv]at h;refine waw (λ f=>?_) λ f=>?_
   ·rw[qw]at f;exact waB (by rw[if_pos (.inr (by omega))])
   rw[qt]at f;rw[if_neg (by omega),show zO a 1=a-1 from rfl,jJ (by omega)]
   have b:=qs (P := λ i=>∀ a:Int,0<=a->a<=1000000000->Ev (λ m k=>JF m (yW m) k a i t.kind t.name t.sort t.kids) (qkW ((t.kids.drop i).map qa5) a)) t.kids u
    (λ e a _ _=>by
     refine waC ?_;simp only[ql5,qdo];refine waA e ?_;rw[wU];exact wax _)
    (λ i x l q e o n r a d c=>by
     refine waC ?_;simp only[ql5,qdo,qh];have g:=wb l;refine waz e (way o (wav (j x g (s x g) a (by omega) (by omega)) ?_));rw[q,wm,qkW,n];have:=qo3 x a;refine waw (λ h=>?_) λ h=>?_
     ·rw[qw]at h;exact waB (by rw[if_pos h])
     ·rw[qt]at h;rw[if_neg (by omega)];exact r _ (by omega) (by omega))
   refine waE (L := λ m k=>JF m (yW m) k (a-1) 0 t.kind t.name t.sort t.kids) ?_;exact(b 0 (we _) (a-1) (by omega) (by omega)).res (by rw[wO])
theorem qLO(l:List T)(j:l.length<2 ^ 62)(q:∀ t∈l,qp5 t)(n:Nat)(a:Int)(c:0<=a)(b:a<=1000000000):Ev (λ m _=>qlA m l n a) (decide (l.length<=n)&&qml l a):=by
 refine waD ?_;simp only[qBK,qgx];refine waw (λ h=>?_) λ h=>?_
 ·rw[qw]at h;exact waB (by rw[decide_eq_false (by omega)];rfl)
 rw[qt]at h;rw[decide_eq_true (by omega),kr]
 have d:=qs (P := λ i=>∀ a:Int,0<=a->a<=1000000000->Ev (λ m k=>qbN m k l a i) (qml (l.drop i) a)) l j
  (λ e a _ _=>by
   refine waC ?_;simp only[qpG,qgg];refine waA e ?_;rw[wU];exact wax _)
  (λ i x f r e p o s a c b=>by
   refine waC ?_;simp only[qpG,qgg,qh];have g:=wb f;refine waz e (way p (wav (qFz x (q x g) a (by omega) (by omega)) ?_));rw[r,qml,o];have:=qo3 x a;refine waw (λ h=>?_) λ h=>?_
   ·rw[qw]at h;exact waB (by rw[if_pos h])
   ·rw[qt]at h;rw[if_neg (by omega)];exact s _ (by omega) (by omega))
 refine waE (L := λ m k=>qbN m k l a 0) ?_;exact(d 0 (we _) a c b).res (by rw[wO])
end Go.AmZ
namespace Go.AmZ
theorem qFH(n:Nat):qfc (n+3000)=some true:=by kernel_rfl
end Go.AmZ
namespace Go.AmZ
open Go Go.GxZ
def JB(t:T):Int:=if qce t≠0 then qce t else if qdg t=false then 13 else if qac t=false then 10 else 0
def Jw(t:T):List UInt8:=if JB t=0 then qH (bI t)else[]
theorem qv5{t:T}(d:qce t=0)(c:qdg t=true)(a:qac t=true):okE t:=by
 obtain⟨b,e⟩:=qly d
 have g3:yV t=0:=by
  unfold qJ at b;by_cases h:yV t=0
  ·exact h
  ·rw[if_pos h]at b;exact absurd b h
 unfold qac at a;simp only[wd]at a;exact qMo t g3 e a.2.2 (xM.1 c)
theorem qvq{t:T}(h:okE t)(a:size t<=10000):(bI t).length<=260000:=by
 have:=qLX t h;omega
theorem qLH(t:T)(j:size t<=10000):Ev (λ m _=>qdr m t) (Jw t,JB t):=by
 refine waD ?_;simp only[qq3,qd7,qh];refine wav (qDj t (by omega)) ?_;obtain⟨l,i,g⟩:=qKm t (by omega);by_cases b:qce t=0
 ·refine waA (bnf.2 (qk.2 b)) (wav i ?_);cases a:qdg t with
  | false =>
    have k:zC 1 t≠[] := λ h=>by unfold qdg at a;rw[h]at a;cases a
    have e:l≠[] := λ h=>k (g.1 h);have:=xd.2 e;refine waz (qw.2 (by omega)) (waB ?_);have c:JB t=13:=by unfold JB;rw[if_neg (λ h=>h b),if_pos a]
    unfold Jw;rw[c];rfl
  | true =>
    have e:l=[]:=g.2 (xM.1 a);refine waA (qt.2 (by rw[e];exact vA _)) (wav (qwK t (by omega)) ?_);cases f:qac t with
    | false =>
      refine waz rfl (waB ?_);have c:JB t=10:=by unfold JB;rw[if_neg (λ h=>h b),if_neg (by rw[a];decide),if_pos f]
      unfold Jw;rw[c];rfl
    | true =>
      have d:=qv5 b a f;have n:=qvq d j;refine waA rfl (wav (qHW t d (by omega) [] (by show 0+_<=_;omega)) (waB ?_));have c:JB t=0:=by unfold JB;rw[if_neg (λ h=>h b),if_neg (by rw[a];decide),if_neg (by rw[f];decide)]
      unfold Jw;rw[c];rfl
 ·refine waz (bnt.2 (qg.2 b)) (waB ?_);have c:JB t=qce t:=if_pos b;unfold Jw;rw[c,if_neg b]
theorem qJM(t:T)(f:size t<=10000):Ev (λ m _=>qgO m t) (Jw t,JB t):=by
 refine waD ?_;simp only[qvN,qgI,qh]
 have g:Ev (λ m _=>qhX m t) (JB t):=by
  refine waD ?_;simp only[qxC,qhN,qh];refine wav (qC9 t (by omega)) ?_;unfold JB;by_cases b:qce t=0
  ·rw[if_neg (λ h=>h b)];refine waA (bnf.2 (qk.2 b)) (wav (qGa t f) ?_);cases d:qdg t with
   | false=>exact waz rfl (wax _)
   | true =>
     refine waA rfl (wav (qGv t (by omega)) ?_);cases e:qac t with
     | false=>exact waz rfl (wax _)
     | true=>exact waA rfl (wax _)
  ·rw[if_pos b];exact waz (bnt.2 (qg.2 b)) (wax _)
 refine wav g ?_;by_cases a:JB t=0
 ·have c:okE t:=by
    unfold JB at a;by_cases b:qce t=0
    ·rw[if_neg (λ h=>h b)]at a;cases d:qdg t with
     | false=>rw[if_pos d]at a;exact absurd a (by decide)
     | true =>
       rw[if_neg (by rw[d];decide)]at a;cases e:qac t with
       | false=>rw[if_pos e]at a;exact absurd a (by decide)
       | true=>exact qv5 b d e
    ·rw[if_pos b]at a;exact absurd a b
  have i:=qvq c f;refine waA (bnf.2 (qk.2 a)) (wav (qGP t c (by omega) (by omega)) (waB ?_));unfold Jw;rw[if_pos a,a]
 ·refine waz (bnt.2 (qg.2 a)) (waB ?_);unfold Jw;rw[if_neg a]
theorem qAw(t:T)(e:size t<=10000):(Jw t).length<=260000:=by
 unfold Jw;by_cases a:JB t=0
 ·rw[if_pos a,qbz];refine qvq ?_ e;unfold JB at a;by_cases b:qce t=0
  ·rw[if_neg (λ h=>h b)]at a;cases c:qdg t with
   | false=>rw[if_pos c]at a;exact absurd a (by decide)
   | true =>
     rw[if_neg (by rw[c];decide)]at a;cases d:qac t with
     | false=>rw[if_pos d]at a;exact absurd a (by decide)
     | true=>exact qv5 b c d
  ·rw[if_pos b]at a;exact absurd a b
 ·rw[if_neg a];exact we _
abbrev Pk:=Int × (Int × (List UInt8 × Bool))
theorem qzG(n:Int)(l:List Pk)(i:Int):Ev (λ m _=>QC m (n,l,()) i) (((n,l,()),()),(decide (0<=i/\i<n),())):=by
 refine waD ?_;simp only[qk8,qaF];refine waw (λ h=>waB ?_) λ h=>waB ?_
 ·rw[qa1]at h
  have:ilt i n=decide (0<=i/\i<n):=by
   by_cases a:i<n
   ·rw[qw.2 a,decide_eq_true ⟨h,a⟩]
   ·rw[qt.2 (by omega),decide_eq_false (by omega)]
  rw[this]
 ·rw[qbv]at h;rw[decide_eq_false (by omega)]
theorem qtD:Ev (λ m _=>qfc m) true:=⟨3000,λ m k a _=>by
 obtain⟨n,rfl⟩:∃ n,m=n+3000:=⟨m-3000,by omega⟩
 exact qFH n⟩
end Go.AmZ
namespace Go.AmZ
open Go Go.GxZ
end Go.AmZ
namespace Go.AmZ
open Go Go.GxZ
theorem qCn{s:List UInt8}{b:Nat}:∀{d i:Nat},nmE s b d i=none->∀ j c,j<d->s[b+i+j]?=some c->okC (i+j) c=true
 | 0,_,_,j,_,g,_=>by omega
 | d+1,i,h,j,c,g,a=>by
   unfold nmE at h;split at h
   ·cases h
   ·rename_i k f;cases e:okC i k with
    | false=>rw[e]at h;cases h
    | true =>
      rw[e]at h;have h:nmE s b d (i+1)=none:=h;cases j with
      | zero=>rw[wP]at a |-;rw[f]at a;cases a;exact e
      | succ j=>have:=qCn h j c (by omega) (by rw[show b+(i+1)+j=b+i+(j+1) by omega];exact a);rw[show i+(j+1)=i+1+j by omega];exact this
theorem qKd:∀ r∈esL,yD r.1=true:=by decide
theorem qIl{s:List UInt8}{p q n:Nat}{t:T}(h:hdN s p=(some (t,n),q))(ks:List T)(A:ks.length=n):yK (.mk t.kind t.name t.sort ks)=0:=by
 have C:=(qkQ h).2.2.1;unfold hdN at h;cases o:s[p]? with
 | none=>rw[o]at h;cases h
 | some c =>
   rw[o]at h;simp only[]at h;split at h
   ·rename_i D;cases i:s[p+1]? with
    | none=>rw[i]at h;cases h
    | some k =>
      rw[i]at h;simp only[]at h;split at h
      ·cases h
      ·rename_i z;cases u:nmE s (p+2) k.toNat 0 with
       | some e=>rw[u]at h;cases h
       | none =>
         rw[u]at h;cases h;have y:=qzX u;have x:=qCn u;obtain⟨m,w⟩:∃ m,k.toNat=m+1:=⟨k.toNat-1,by omega⟩
         have d:=y m (by omega);rw[wP]at d;have g:=List.getElem?_eq_getElem d;have a:=qI8 (s:=s) (b:=p+2) (n:=m) (by omega) d (λ j c B o=>by have:=x j c (by omega) (by rw[wP];exact o);rwa [wH]at this) g;have f:=x m _ (by omega) (by rw[wP];exact g);rw[wH]at f;rw[f]at a;unfold yK qfC;show(if(2:Int)=1\/(2:Int)=2 then(if(c.toNat:Int)<0\/5<(c.toNat:Int)\/0<ks.length then 1 else if yD ((s.take (p+2+k.toNat)).drop (p+2))=true then 0 else 2)else _)=(0:Int);rw[if_pos (.inr rfl),if_neg (by omega),w,a,if_pos rfl]
   ·split at h
    ·cases h
    ·cases v:esL[c.toNat-16]? with
     | none=>rw[v]at h;cases h
     | some r =>
       rw[v]at h;have a:=qKd r (wb v)
       have l:∀ m,m=n->yK (.mk 3 r.1 0 ks)=0 := λ m w=>by
        unfold yK qfC;show(if(3:Int)=1\/(3:Int)=2 then _ else if(3:Int)=3 then(if(0:Int)≠0 then 1 else if yD r.1=true then(if 8<ks.length then 3 else 0)else 2)else 1)=(0:Int);rw[if_neg (by decide),if_pos rfl,if_neg (by decide),a,if_pos rfl,if_neg (by omega)]
       simp only[]at h;split at h
       ·cases i:s[p+1]? with
        | none=>rw[i]at h;cases h
        | some k =>
          rw[i]at h;simp only[]at h;split at h
          ·cases h
          ·cases h;exact l _ rfl
       ·cases h;exact l _ rfl
theorem qEE{t:T}(h:yK t=0)(b:∀ k∈t.kids,yV k=0):yV t=0:=by
 rw[qif,h];generalize t.kids=l at b
 induction l with
 | nil=>rfl
 | cons x l c=>rw[wm,w7,b x (wh ..)];exact c λ k a=>b k (wg _ a)
theorem qAT{R:Nat->Option T × Nat}(h:∀ p q t,R p=(some t,q)->yV t=0/\p+size t<=q):∀ n p q ks,qcq R n p=(some ks,q)->(∀ k∈ks,yV k=0)/\p+(ks.map size).sum<=q
 | 0,p,q,ks,a=>by cases a;exact⟨λ k d=>(by cases d),wa _⟩
 | n+1,p,q,ks,a=>by
   unfold qcq at a;split at a
   ·cases a
   ·rename_i k l d;obtain⟨i,o⟩:=h _ _ _ d;split at a
    ·cases a
    ·rename_i e j c;cases a;obtain⟨g,m⟩:=qAT h n _ _ _ c;refine⟨λ f b=>?_,by rw[wm,kD];omega⟩;rcases wy.1 b with rfl | b
     ·exact i
     ·exact g f b
theorem qCA(s:List UInt8):∀ f p q t,rdT s f p=(some t,q)->yV t=0/\p+size t<=q
 | 0,p,q,t,h=>by cases h
 | f+1,p,q,t,h=>by
   unfold rdT at h;split at h
   ·cases h
   ·rename_i t0 n g b;split at h
    ·cases h
    ·rename_i ks i a;cases h;obtain⟨k,e,_⟩:=qkQ b;obtain⟨d,j⟩:=qAT (qCA s f) _ _ _ _ a;obtain⟨_,_,c⟩:=qvL (quB s f) _ _ _ _ e a;refine⟨qEE (qIl b ks c) d,?_⟩;rw[qR];show p+(1+(ks.map size).sum)<=q;omega
def qpl(s:List UInt8):T × (Int × Int):=match rdT s (s.length+1) 0 with
 | (none,e)=>(.mk 0 [] 0 [],((e:Int),2))
 | (some t,q)=>if q≠s.length then(.mk 0 [] 0 [],((q:Int),2))else if 400<size t\/40<qcn t then(.mk 0 [] 0 [],(0,3))else if qac t=true then(t,(0,0))else(.mk 0 [] 0 [],(0,10))
theorem qLA(s:List UInt8)(e:s.length<=1000000000):Ev (λ m _=>qdu m s) (qpl s):=by
 refine waD ?_;simp only[qra,qdS,qh];unfold qpl;obtain⟨i,g⟩:=qFx s e;cases b:rdT s (s.length+1) 0 with
 | mk o q =>
 cases o with
 | none=>exact wav (g _ b) (waz rfl (wax _))
 | some t =>
   obtain⟨f,j⟩:=qCA s _ _ _ _ b;obtain⟨_,k⟩:=quB s _ _ _ _ b;refine wav (i _ _ b) (waA rfl ?_);simp only[];by_cases a:q=s.length
   ·rw[if_neg (λ h=>h a)];refine waA (bnf.2 (qk.2 (by omega))) (wav (qcy t (by omega)) ?_);have d:qJ t=if 400<size t\/40<qcn t then 3 else 0:=by unfold qJ;rw[if_neg (λ h=>h f)]
    rw[d];by_cases c:400<size t\/40<qcn t
    ·rw[if_pos c,if_pos c];exact waz rfl (wax _)
    ·rw[if_neg c,if_neg c];refine waA rfl (wav (qwK t (by omega)) ?_);cases l:qac t with
     | true=>exact waA rfl (wax _)
     | false=>exact waz rfl (wax _)
   ·rw[if_pos a];exact waz (bnt.2 (qg.2 (by omega))) (wax _)
end Go.AmZ
namespace Go.AmZ
open Go Go.GxZ
def qbo(s:List UInt8):List UInt8 × Int:=if s.length<4 then([],2)else if yB (s.drop 4)=s then(s.drop 4,0)else([],19)
theorem qMC{s:List UInt8}:qd8 s 4 (s.length:Int)=s.drop 4:=by
 unfold qd8;rw[wJ,wE];rfl
theorem qJU(s:List UInt8)(b:s.length<=1000000000):Ev (λ m _=>qll m s) (qbo s):=by
 refine waD ?_;simp only[qBn,qkq,qMC];unfold qbo;by_cases h:s.length<4
 ·rw[if_pos h];exact waz (qw.2 (by omega)) (wax _)
 ·rw[if_neg h];refine waA (qt.2 (by omega)) (waz (qhO _) (waz (by unfold inb;rw[decide_eq_true_iff];omega) (wav (qC2 (s.drop 4) (by rw[wS];omega)) ?_)));by_cases a:yB (s.drop 4)=s
  ·rw[if_pos a];exact waA (bnf.2 (jf.2 a)) (waz (qhO _) (waz (by unfold inb;rw[decide_eq_true_iff];omega) (wax _)))
  ·rw[if_neg a];exact waz (bnt.2 (jI.2 a)) (wax _)
def QK(l:List Pk)(i:Int)(w:Bool):Int:=if i<0\/(l.length:Int)<=i then 4 else match l[i.toNat]? with
 | none=>4
 | some p=>if w=true/\p.2.2.2=false then 9 else 0
theorem quC{l:List Pk}{i:Int}{w:Bool}(h:QK l i w=0):∃(j:Nat) (p:Pk),i=(j:Int)/\l[j]?=some p/\j<l.length/\(w=true->p.2.2.2=true)/\qc l i=some p:=by
 unfold QK at h;split at h
 ·cases h
 ·rename_i f;obtain⟨j,rfl⟩:=ky (show 0<=i by omega);have a:j<l.length:=by omega
  have e:l[(Int.ofNat j).toNat]?=l[j]?:=rfl;rw[show((j:Int)).toNat=j from wJ j,List.getElem?_eq_getElem a]at h;simp only[]at h;refine⟨j,l[j],rfl,List.getElem?_eq_getElem a,a,λ b=>?_,by rw[zM];exact List.getElem?_eq_getElem a⟩;split at h
  ·cases h
  ·rename_i d;cases c:l[j].2.2.2 with
   | true=>rfl
   | false=>exact absurd ⟨b,c⟩ d
theorem qj7{l:List Pk}{j:Nat}(a:j<l.length)(w:Bool):QK l (j:Int) w=if w=true/\l[j].2.2.2=false then 9 else 0:=by
 unfold QK;rw[if_neg (by omega),wJ,List.getElem?_eq_getElem a]
theorem qlt{l:List Pk}{i:Int}(h:i<0\/(l.length:Int)<=i)(w:Bool):QK l i w=4:=if_pos h
theorem qCg(n:Int)(l:List Pk)(i:Int):Ev (λ m _=>j8 m (n,l,()) i) (((n,l,()),()),(if QK l i true=0 then some i else none,(QK l i true,()))):=by
 refine waD ?_;simp only[qjm,J2];by_cases d:i<0
 ·exact waz (qw.2 d) (waB (by rw[qlt (.inl d)];rfl))
 ·by_cases c:(l.length:Int)<=i
  ·exact waA (qt.2 (by omega)) (waz (qa1.2 c) (waB (by rw[qlt (.inr c)];rfl)))
  ·obtain⟨j,rfl⟩:=ky (show 0<=i by omega);have a:j<l.length:=by omega
   have b:qc l (j:Int)=some l[j]:=by rw[zM];exact List.getElem?_eq_getElem a
   refine waA (qt.2 (by omega)) (waA (qbv.2 (by omega)) (way b ?_));rw[qj7 a];cases e:l[j].2.2.2 with
   | true=>exact waA rfl (way b (waB rfl))
   | false=>exact waz rfl (waB rfl)
def Sm(l:List Pk):Prop:=l.length<=400/\∀ p∈l,p.2.2.1.length<=300000
def qEf(p:Pk):Pk:=(p.1,(p.2.1,(p.2.2.1,false)))
def qkc(l:List Pk)(i:Int):List Pk × (T × (Int × Int)):=if QK l i true≠0 then(l,(.mk 0 [] 0 [],(0,QK l i true)))else match l[i.toNat]? with
 | none=>(l,(.mk 0 [] 0 [],(0,0)))
 | some p=>(l.set i.toNat (qEf p),if(qbo p.2.2.1).2≠0 then(.mk 0 [] 0 [],(p.2.1,(qbo p.2.2.1).2))else if(qpl (qbo p.2.2.1).1).2.2≠0 then(.mk 0 [] 0 [],(p.2.1,(qpl (qbo p.2.2.1).1).2.2))else((qpl (qbo p.2.2.1).1).1,(p.2.1,0)))
theorem qFm(s:List UInt8):(qbo s).1.length<=s.length:=by
 unfold qbo;split
 ·exact we _
 ·split
  ·rw[wS];omega
  ·exact we _
theorem qFA(n:Int)(l:List Pk)(f:Sm l)(i:Int):Ev (λ m _=>yp m (n,l,()) i) (((n,(qkc l i).1,()),()),((qkc l i).2.1,((qkc l i).2.2.1,((qkc l i).2.2.2,())))):=by
 refine waD ?_;simp only[qi8,J7,qh];unfold qkc;refine wav (qCg n l i) ?_;by_cases b:QK l i true=0
 ·rw[if_pos b,if_neg (λ h=>h b)];obtain⟨j,p,rfl,e,g,o,k⟩:=quC b;rw[wJ,e];refine way k (waA (bnf.2 (qk.2 b)) ?_);rw[qaz];have a:qc (l.set j (qEf p)) (j:Int)=some (qEf p):=by rw[zM,List.getElem?_set_self g]
  have r:=f.2 p (wb e);have q:=qFm p.2.2.1;refine way a (wav (qJU p.2.2.1 (by omega)) ?_);by_cases d:(qbo p.2.2.1).2=0
  ·simp only[];rw[if_neg (λ h=>h d)];refine waA (bnf.2 (qk.2 d)) (wav (qLA (qbo p.2.2.1).1 (by omega)) ?_);by_cases c:(qpl (qbo p.2.2.1).1).2.2=0
   ·rw[if_neg (λ h=>h c)];exact waA (bnf.2 (qk.2 c)) (way a (wax _))
   ·rw[if_pos c];exact waz (bnt.2 (qg.2 c)) (way a (wax _))
  ·simp only[];rw[if_pos d];exact waz (bnt.2 (qg.2 d)) (way a (wax _))
 ·rw[if_neg b,if_pos b];exact waz (bnt.2 (qg.2 b)) (wax _)
theorem qJP(l:List Pk)(p:Pk)(h:l.length<400):iw .i64 (zO (((l++[p]).length:Nat):Int) 1)=(l.length:Int):=by
 rw[wc];show iw .i64 (zO (((l.length+1:Nat)):Int) 1)=_;rw[jJ (by unfold zO;omega)];unfold zO;omega
theorem qJ2(n:Int)(l:List Pk)(p:Pk):Ev (λ m _=>Jp m (n,l,()) p) (if 400<=l.length then(((n,l,()),()),(0,(3,())))else(((n,l++[p],()),()),((l.length:Int),(0,())))):=by
 refine waD ?_;simp only[qmL,qbC];by_cases h:400<=l.length
 ·rw[if_pos h];exact waz (qa1.2 (by omega)) (wax _)
 ·rw[if_neg h];refine waA (qbv.2 (by omega)) (waz (qU (by omega) (by omega)) (waB ?_));rw[qJP l _ (by omega)]
def qh9(l:List Pk)(i:Int):List UInt8 × Int:=if QK l i false≠0 then([],QK l i false)else match l[i.toNat]? with
 | none=>([],0)
 | some p=>(p.2.2.1,0)
theorem qLG(n:Int)(l:List Pk)(i:Int):Ev (λ m _=>JX m (n,l,()) i) (((n,l,()),()),((qh9 l i).1,((qh9 l i).2,()))):=by
 refine waD ?_;simp only[qk4,qaG];by_cases c:i<0
 ·refine waz (qw.2 c) (waB ?_);unfold qh9;rw[qlt (.inl c)];rfl
 ·by_cases b:(l.length:Int)<=i
  ·refine waA (qt.2 (by omega)) (waz (qa1.2 b) (waB ?_));unfold qh9;rw[qlt (.inr b)];rfl
  ·obtain⟨j,rfl⟩:=ky (show 0<=i by omega);have a:j<l.length:=by omega
   have d:qc l (j:Int)=some l[j]:=by rw[zM];exact List.getElem?_eq_getElem a
   refine waA (qt.2 (by omega)) (waA (qbv.2 (by omega)) (way d (waB ?_)));have e:QK l (j:Int) false=0:=by rw[qj7 a,if_neg (λ h=>by cases h.1)]
   unfold qh9;rw[e,if_neg (λ h=>h rfl),wJ,List.getElem?_eq_getElem a]
end Go.AmZ
namespace Go.AmZ
open Go Go.GxZ
def qMH(p:Pk)(j:Nat)(v:Int):Pk:=(p.1,(p.2.1,(p.2.2.1.set j (UInt8.ofNat v.toNat),p.2.2.2)))
def qsr(l:List Pk)(i a v:Int):List Pk × Int:=if QK l i true≠0 then(l,QK l i true)else match l[i.toNat]? with
 | none=>(l,0)
 | some p=>if a<0\/(p.2.2.1.length:Int)<=a then(l,7)else(l.set i.toNat (qMH p a.toNat v),0)
theorem qFL(n:Int)(l:List Pk)(i b v:Int):Ev (λ m _=>jG m (n,l,()) i b v) (((n,(qsr l i b v).1,()),()),((qsr l i b v).2,())):=by
 refine waD ?_;simp only[qk0,qaM];unfold qsr;refine wav (qCg n l i) ?_;by_cases c:QK l i true=0
 ·rw[if_pos c,if_neg (λ h=>h c)];obtain⟨j,p,rfl,k,s,r,o⟩:=quC c;rw[wJ,k];refine way o (waA (bnf.2 (qk.2 c)) ?_);simp only[];by_cases f:b<0
  ·rw[if_pos (.inl f)];exact waz (qw.2 f) (wax _)
  ·by_cases d:(p.2.2.1.length:Int)<=b
   ·rw[if_pos (.inr d)];exact waA (qt.2 (by omega)) (waz (qa1.2 d) (wax _))
   ·rw[if_neg (by omega)];obtain⟨q,rfl⟩:=ky (show 0<=b by omega);have g:q<(Qj p.2.2.1).length:=by rw[qom];omega
    refine waA (qt.2 (by omega)) (waA (qbv.2 (by omega)) (way (a:=(Qj p.2.2.1)[q]) (by rw[zM];exact List.getElem?_eq_getElem g) (waB ?_)));rw[qaz,qaz]
    have e:qH ((Qj p.2.2.1).set q v)=p.2.2.1.set q (UInt8.ofNat v.toNat):=by
     unfold qH;rw[List.map_set];exact congrArg (λ x=>List.set x q (UInt8.ofNat v.toNat)) (qsu p.2.2.1)
    rw[e,wJ];rfl
 ·rw[if_neg c,if_pos c];exact waz (bnt.2 (qg.2 c)) (wax _)
def qqe(n:Int)(l:List Pk)(a b:Int)(t:T):List Pk × (Int × Int):=if ¬ (0<=a/\a<n)\/¬ (0<=b/\b<n)then(l,(0,7))else if 400<=l.length then(l,(0,3))else if JB t≠0 then(l,(0,JB t))else(l++[(a,(b,(yB (Jw t),true)))],((l.length:Int),0))
theorem qMp(n:Int)(l:List Pk)(a b:Int)(t:T)(g:size t<=10000):Ev (λ m _=>Q3 m (n,l,()) a b t) (((n,(qqe n l a b t).1,()),()),((qqe n l a b t).2.1,((qqe n l a b t).2.2,()))):=by
 refine waD ?_;simp only[qmi,qa8,qh];unfold qqe;refine wav (qzG n l a) ?_;by_cases e:0<=a/\a<n
 ·refine waA (by show qe (decide _)=false;rw[decide_eq_true e];rfl) (wav (qzG n l b) ?_);by_cases d:0<=b/\b<n
  ·rw[if_neg (λ h=>h.elim (λ h=>h e) λ h=>h d)];refine waA (by show qe (decide _)=false;rw[decide_eq_true d];rfl) ?_;by_cases f:400<=l.length
   ·rw[if_pos f];exact waz (qa1.2 (by show(400:Int)<=(l.length:Int);omega)) (wax _)
   ·rw[if_neg f];refine waA (qbv.2 (by show(l.length:Int)<400;omega)) (wav (qLH t g) ?_);by_cases c:JB t=0
    ·rw[if_neg (λ h=>h c)];have j:=qAw t g;have i:=qJ2 n l (a,(b,(yB (Jw t),true)));rw[if_neg f]at i;exact waA (bnf.2 (qk.2 c)) (wav (qC2 (Jw t) (by omega)) (wav i (wax _)))
    ·rw[if_pos c];exact waz (bnt.2 (qg.2 c)) (wax _)
  ·rw[if_pos (.inr d)];exact waz (by show qe (decide _)=true;rw[decide_eq_false d];rfl) (wax _)
 ·rw[if_pos (.inl e)];exact waz (by show qe (decide _)=true;rw[decide_eq_false e];rfl) (wax _)
end Go.AmZ
namespace Go.AmZ
open Go Go.GxZ Go.RowKit
open Go.ChangeShapes Go.WideShapes Go.ChangeAt Go.WideMaps Go.WideElems
theorem qwU(b o j:Nat):(⟨b,o,none⟩:Addr).add j=⟨b,o+j,none⟩:=by unfold Addr.add;split<;>simp_all
def Ty.wt:Ty->Nat
 | .int _ | .bool=>1
 | .str=>16
 | .list _=>24
 | .term=>56
 | .pair a b=>a.wt+b.wt
 | .one a=>a.wt
theorem Ty.wt_pos:∀ a:Ty,0<a.wt
 | .int _=>Nat.one_pos
 | .bool=>Nat.one_pos
 | .list _=>(by decide:0<24)
 | .str=>(by decide:0<16)
 | .term=>(by decide:0<56)
 | .pair a b=>wB (Ty.wt_pos a) (kF _ _)
 | .one a=>Ty.wt_pos a
mutual
def tyM(P:Program):Nat->Ty->TypeId->Bool
 | 0,_,_=>false
 | _+1,.int k,t=>match P.underlying t with
   | some (.int d)=>decide (d=k)&&decide (P.cellsOf t=1)
   | _=>false
 | _+1,.bool,t=>match P.underlying t with
   | some .bool=>decide (P.cellsOf t=1)
   | _=>false
 | _+1,.str,t=>match P.underlying t with
   | some .string=>decide (P.cellsOf t=1)
   | _=>false
 | n+1,.list a,t=>match P.underlying t with
   | some (.slice e)=>decide (P.cellsOf t=1)&&decide (P.cellsOf e=a.size)&&decide (a.wt<=P.bytesOf e)&&tyM P n a e
   | _=>false
 | n+1,.term,t=>qEU P n t
 | n+1,.pair a b,t=>match P.underlying t with
   | some (.struct c)=>decide (P.cellsOf t=a.size+b.size)&&fsM P n (.pair a b) 0 c.toList
   | _=>false
 | n+1,.one a,t=>match P.underlying t with
   | some (.struct c)=>decide (P.cellsOf t=a.size)&&fsM P n a 0 c.toList
   | _=>false
def fsM(P:Program):Nat->Ty->Nat->List Field->Bool
 | 0,_,_,_=>false
 | n+1,τ,off,[f]=>decide (f.offset=off)&&decide (P.cellsOf f.type = τ.size)&&tyM P n τ f.type
 | n+1,.pair a b,off,f::g::r=>decide (f.offset=off)&&decide (P.cellsOf f.type=a.size)&&tyM P n a f.type&&fsM P n b (off+a.size) (g::r)
 | _+1,_,_,_=>false
def qEU(P:Program):Nat->TypeId->Bool
 | 0,_=>false
 | n+1,t=>match P.underlying t with
   | some (.struct f)=>match f.toList with
     | [d,c,b,a]=>decide (P.cellsOf t=4)&&decide (d.offset=0)&&decide (c.offset=1)&&decide (b.offset=2)&&decide (a.offset=3)&&decide (P.cellsOf a.type=1) &&
      tyM P n (.int .i64) d.type&&tyM P n .str c.type&&tyM P n (.int .i64) b.type&&(match P.underlying a.type with
      | some (.slice e)=>decide (e=t)&&decide (0<P.bytesOf t)
      | _=>false)
     | _=>false
   | _=>false
end
def qkk:(τ : Ty)->Val τ -> Prop
 | .int k,n=>k.min<=n/\n<=k.max
 | .bool,_=>True
 | .str,s=>s.length<2 ^ 62
 | .term,t=>qp5 t
 | .list a,l=>(l.length<2 ^ 62/\l.length*a.wt<=2 ^ 47)/\∀ x∈l,qkk a x
 | .pair a b,p=>qkk a p.1/\qkk b p.2
 | .one a,v=>qkk a v
def ghW(W:World):Gh:=⟨λ b o=>match W.cell? ⟨b,o,none⟩with | some u=>if u.oneCell'=true then some u else none | none=>none,0,λ _=>0,0,λ _=>0,λ _=>0,λ _=>0,λ _=>0,λ _=>0⟩
theorem qDd{W:World}{b o:Nat}{u:Value}:(ghW W).mem b o=some u↔W.cell? ⟨b,o,none⟩=some u/\u.oneCell'=true:=by
 show(match W.cell? ⟨b,o,none⟩with | some u=>if u.oneCell'=true then some u else none | none=>none)=some u↔_;cases W.cell? ⟨b,o,none⟩with
 | none=>simp
 | some v =>
   simp only[wz];constructor
   ·intro h;split at h
    ·cases h;exact⟨rfl,‹_›⟩
    ·cases h
   ·rintro⟨rfl,h⟩;rw[if_pos h]
theorem qJK(W:World):Inv (ghW W) emp W :=
 ⟨rfl,rfl,λ b o u h=>qDd.1 h,λ i cs h=>(by cases h),λ i j h=>absurd h (wL _),λ i h=>absurd h (wL _),λ r R h=>(by cases h),λ r a h=>absurd h (wL _)⟩
theorem cells_len{W:World}{zP:Nat}{a:Addr}:∀{n:Nat} {cs:List Value},W.cells? zP a n=some cs->cs.length=n/\∀ j u,cs[j]?=some u->W.cell? (a.add j)=some u:=by
 intro n cs h;unfold World.cells? at h;split at h
 case isFalse=>cases h
 have h1:=mapM_some_length h;rw[xC]at h1;refine⟨h1,λ j u hj=>?_⟩;have hlt:=getElem?_lt hj;have:=mapM_some_get h j j (by rw[List.getElem?_range (by omega)]);rw[this];exact hj
section
variable {H:Type} {enc:TypeId × Value->H} {P:Program} {W:World}
def qEw(enc:TypeId × Value->H)(P:Program)(W:World)(a:Nat):Prop:=∀(n:Nat) (τ : Ty) (t:TypeId) (cs:List Value) (x:DataW H × List MemPlace),tyM P n τ t=true->DataW.trod enc P W 0 (λ _=>true) true a t cs=some x->(∀ k∈x.1.weights P t,k<=reachBytes) ->
 ∃ v:Val τ,RepL (ghW W) (qf τ v) cs/\(∀ u∈cs,u.oneCell'=true)/\qkk τ v
theorem qm7{e:TypeId}:∀{ds:List (DataW H)} {d:DataW H},d∈ds->∀ n∈d.weights P e,n∈DataW.weightsAll P e ds
 | b::ds,d,h,n,a=>by
   simp only[DataW.weightsAll,ww];rcases wy.1 h with rfl | h
   ·exact Or.inl a
   ·exact Or.inr (qm7 h n a)
theorem qAU{n k:Nat}(h:n*k<=reachBytes)(a:0<k):n<2 ^ 62:=by
 have:n*1<=n*k:=vQ _ a;have b:reachBytes=140737488351232:=rfl;omega
theorem qGQ{α d:Type}{n:Nat}{Q:Nat -> α -> d->Prop}(e:0<n)(h:∀ i,i<n->∃ a b,Q i a b):∃(f:Nat -> α) (g:Nat->d),∀ i,i<n->Q i (f i) (g i):=by
 obtain⟨k,j,_⟩:=h 0 e;refine⟨λ i=>if c:i<n then(h i c).choose else k,λ i=>if c:i<n then(h i c).choose_spec.choose else j,λ i c=>?_⟩;simp only[dif_pos c];exact(h i c).choose_spec.choose_spec
theorem qyQ{Γ : Gh}{x:AV}{u:Value}(h:Rep Γ x u):RepL Γ [x] [u]:=waH h RepL.nil
theorem qxt{A:Nat}(hA:∀ f,f<A->qEw enc P W f){a:Ty}{t e:TypeId}{m:Nat}{cs:List Value}{x:DataW H × List MemPlace}(T:P.underlying t=some (.slice e))(hc:P.cellsOf e=a.size)(hb:0<P.bytesOf e)(hm:tyM P m a e=true)
  (h:DataW.trod enc P W 0 (λ _=>true) true A t cs=some x) (M:∀ k∈x.1.weights P t,k<=reachBytes) :
  ∃(l:List (Val a)) (u:Value),cs=[u]/\u.oneCell'=true/\Rep (ghW W) (.sl a.size (l.map (qf a)) 1) u/\(l.length<2 ^ 62/\l.length*P.bytesOf e<=2 ^ 47)/\∀ v∈l,qkk a v:=by
 rcases DataW.trod_slice T h with⟨rfl,rfl⟩ | ⟨ad,d,cap,elems,E,n,rfl,rfl,rfl,_,U,_,I,O,_,_⟩
 ·refine⟨[],_,rfl,rfl,?_,⟨by simp,by simp⟩,(by intro v G;cases G)⟩;exact .sl _ _ _ none 0 0 0 0 (λ _ _=>undef) rfl (λ _=>wa _) (λ h=>by omega) (by intro e p;cases p) (by intro e p;cases p) (waG a) (.inl rfl) (by intro i e j x c;cases c) (by intro i e j x c;cases c)
 ·have F:(elems.length+E.length)*P.bytesOf e<=reachBytes/\∀ k∈DataW.weightsAll P e (elems.map (·.1)),k<=reachBytes:=by
    simp only[DataW.weights,T,wC,wy,ww]at M;exact⟨M _ (.inl rfl),λ k N=>M k (.inr (.inl N))⟩
  have B:∀ i,i<d->∃(v:Val a) (us:List Value),RepL (ghW W) (qf a v) us/\(∀ u∈us,u.oneCell'=true)/\qkk a v/\(∀ j u,us[j]?=some u->W.cell? ((ad.add (i*a.size)).add j)=some u):=by
   intro i c;have g:=O i c;rw[List.getElem?_eq_getElem (by omega),hc,Option.bind_eq_some_iff]at g;obtain⟨us,C,h3⟩:=g;obtain⟨z,D⟩:=cells_len C;obtain⟨v,Q,g2,g3⟩:=hA n (xr _) m a e us _ hm h3 λ k N=>F.2 k (qm7 (kT (wW _)) k N);exact⟨v,us,Q,g2,g3,D⟩
  by_cases h0:d=0
  ·subst h0;refine⟨[],_,rfl,rfl,?_,⟨by simp,by simp⟩,(by intro v G;cases G)⟩;exact .sl _ _ _ _ 0 cap 0 0 (λ _ _=>undef) rfl (λ _=>U) (λ h=>by omega) (by intro e p;cases p) (by intro e p;cases p) (waG a) (.inl rfl) (by intro i e j x c;cases c) (by intro i e j x c;cases c)
  obtain⟨b,o,rfl⟩:∃ b o,ad=⟨b,o,none⟩:=by
   obtain⟨v,us,Q,_,_,g4⟩:=B 0 (by omega);have aa:us.length=a.size:=by rw[Q.len];exact jq a v
   have hp:=waG a;have g:=g4 0 _ (List.getElem?_eq_getElem (by omega));rw[kQ]at g;have e1:(ad.add 0).add 0=ad:=rfl;rw[e1]at g;obtain⟨b,o,sp⟩:=ad;unfold World.cell? at g;split at g
   ·split at g
    ·cases g
    ·rename_i hs;cases sp with
     | none=>exact⟨b,o,rfl⟩
     | some s=>simp at hs
   ·cases g
  obtain⟨L,R,r⟩:=qGQ (by omega:0<d) B;have Z := λ i c=>(r i c).1;have Y := λ i c=>(r i c).2.1;have X := λ i c=>(r i c).2.2.1;have V := λ i c=>(r i c).2.2.2;have K:∀ i,i<d->((List.range d).map L)[i]?=some (L i) := λ i c=>by rw[List.getElem?_map,List.getElem?_range c];rfl
  have q:∀(i:Nat) (w:List AV) (j:Nat) (y:AV),(((List.range d).map L).map (qf a))[i]?=some w->w[j]?=some y->i<d/\∃ u,(R i)[j]?=some u/\Rep (ghW W) y u/\(ghW W).mem b (o+i*a.size+j)=some u:=by
   intro i w j y g C;have c:i<d:=by have:=getElem?_lt g;simpa using this
   rw[List.getElem?_map,K i c]at g;cases g;obtain⟨u,z,D⟩:=(Z i c).get C;refine⟨c,u,z,D,qDd.2 ⟨?_,Y i c u (wb z)⟩⟩;have:=V i c j u z;rw[qwU,qwU]at this;exact this
  refine⟨(List.range d).map L,_,rfl,rfl,?_,?_,?_⟩
  ·refine .sl _ _ _ _ d cap b o (λ i j=>(R i).getD j undef) (by simp) (λ _=>U) (λ h=>by omega) ?_ ?_ (waG a) (.inr rfl) ?_ ?_
   ·intro w p;obtain⟨v,_,rfl⟩:=wx.1 p;exact jq a v
   ·intro w p;obtain⟨v,_,rfl⟩:=wx.1 p;exact zm a v
   ·intro i w j y g C;obtain⟨_,u,z,D,S⟩:=q i w j y g C;rw[List.getD_eq_getElem?_getD,z];exact S
   ·intro i w j y g C;obtain⟨_,u,z,D,S⟩:=q i w j y g C;rw[List.getD_eq_getElem?_getD,z];exact D
  ·rw[wC,xC,<- I];have J:elems.length*P.bytesOf e<=reachBytes:=wD (wn _ (kF _ _)) F.1;exact⟨qAU J hb,wD J (by decide)⟩
  ·intro v G;obtain⟨i,c,rfl⟩:=wx.1 G;exact X i (kS.1 c)
theorem quH{c:Nat}(G:qEw enc P W c):∀(n:Nat) (τ : Ty) (off:Nat) (d:List Field) (cs:List Value) (xs:List (DataW H × List MemPlace)),fsM P n τ off d=true->xs.length=d.length ->
  (∀(i:Nat) (f:Field),d[i]?=some f->DataW.trod enc P W 0 (λ _=>true) true c f.type ((cs.drop f.offset).take (P.cellsOf f.type))=xs[i]?)->(∀ k∈DataW.weightsEach P (d.map (·.type)) (xs.map (·.1)),k<=reachBytes)->off + τ.size<=cs.length ->
  ∃ v:Val τ,RepL (ghW W) (qf τ v) ((cs.drop off).take τ.size)/\(∀ u∈(cs.drop off).take τ.size,u.oneCell'=true)/\qkk τ v:=by
 intro n
 induction n with
 | zero=>intro τ off d cs xs h;simp[fsM]at h
 | succ n M =>
   intro τ off d cs xs h A z m j
   have t:∀ f x,d=[f]->xs=[x]->(decide (f.offset=off)&&decide (P.cellsOf f.type = τ.size)&&tyM P n τ f.type)=true->∃ v:Val τ,RepL (ghW W) (qf τ v) ((cs.drop off).take τ.size)/\(∀ u∈(cs.drop off).take τ.size,u.oneCell'=true)/\qkk τ v:=by
    intro f x Q w h;simp only[wd,decide_eq_true_eq]at h;obtain⟨⟨E,D⟩,C⟩:=h;subst Q;subst w;have o:=z 0 f rfl;rw[E,D]at o;exact G n τ f.type _ x C o λ k l=>m k (by simp only[wm,xW,DataW.weightsEach,wA];exact l)
   cases d with
   | nil=>cases τ <;> simp[fsM]at h
   | cons f r =>
     cases xs with
     | nil=>simp at A
     | cons x xs =>
       cases r with
       | nil =>
         have y:xs=[]:=wj (by simpa using A);subst y;refine t f x rfl rfl ?_;cases τ <;> exact h
       | cons g r =>
         cases τ with
         | pair a b =>
           simp only[fsM,wd,decide_eq_true_eq]at h;obtain⟨⟨⟨E,D⟩,C⟩,o⟩:=h;have I:=z 0 f rfl;rw[E,D]at I;have O:off+(a.size+b.size)<=cs.length:=j;simp only[wm,DataW.weightsEach,ww]at m;obtain⟨v,L,K,J⟩:=G n a f.type _ x C I λ k l=>m k (.inl l);obtain⟨F,s,q,p⟩:=M b (off+a.size) (g::r) cs xs o (by simpa using A) (λ i R B=>z (i+1) R B) (λ k l=>m k (.inr l)) (by omega)
           have e:(cs.drop off).take (a.size+b.size)=(cs.drop off).take a.size++(cs.drop (off+a.size)).take b.size:=by
            rw[List.take_add,List.drop_drop]
           refine⟨(v,F),?_,?_,J,p⟩
           ·show RepL _ (qf a v++qf b F) ((cs.drop off).take (a.size+b.size));rw[e];exact L.append s
           ·show ∀ u∈(cs.drop off).take (a.size+b.size),_;rw[e];intro u N;exact(ww.1 N).elim (K u) (q u)
         | _=>simp[fsM]at h
theorem qJH{Γ : Gh}(k:IntKind)(n:Int):RepL Γ (qf (.int k) n) [.int k n]:=qyQ (.v _ rfl)
theorem qJo:∀ fuel,qEw enc P W fuel:=by
 intro fuel
 induction fuel using Nat.strongRecOn with
 | ind fuel ihA =>
   have ints:∀{k:IntKind} {t:TypeId} {cs:List Value} {x:DataW H × List MemPlace} {f:Nat},P.underlying t=some (.int k)->DataW.trod enc P W 0 (λ _=>true) true f t cs=some x->∃ n:Int,cs=[.int k n]/\k.min<=n/\n<=k.max:=by
    intro k t cs x f ht h;obtain⟨n,rfl,_,hwf⟩:=DataW.trod_int ht h;simp only[Lit.wf,wd,decide_eq_true_eq]at hwf;exact⟨n,rfl,hwf⟩
   have strs:∀{t:TypeId} {cs:List Value} {x:DataW H × List MemPlace} {f:Nat},P.underlying t=some .string->DataW.trod enc P W 0 (λ _=>true) true f t cs=some x->(∀ k∈x.1.weights P t,k<=reachBytes)->∃ s:ByteArray,cs=[.string s]/\s.data.toList.length<2 ^ 62:=by
    intro t cs x f ht h hw;obtain⟨s,rfl,rfl,_⟩:=DataW.trod_string ht h;refine⟨s,rfl,?_⟩;have:=hw s.data.toList.length (by simp[DataW.weights]);exact qAU (k:=1) (by omega) (by decide)
   intro n τ t cs x hm h hw;cases n with
   | zero=>cases τ <;> simp[tyM]at hm
   | succ n =>
   cases τ with
   | int k =>
     simp only[tyM]at hm;split at hm
     ·rename_i k' ht;simp only[wd,decide_eq_true_eq]at hm;obtain⟨rfl,_⟩:=hm;obtain⟨i,rfl,h1,h2⟩:=ints ht h;exact⟨i,qJH _ _,by intro u hu;rw[wF.1 hu];rfl,h1,h2⟩
     ·cases hm
   | bool =>
     simp only[tyM]at hm;split at hm
     ·rename_i ht;obtain⟨b,rfl,_⟩:=DataW.trod_bool ht h;exact⟨b,qyQ (.v _ rfl),by intro u hu;rw[wF.1 hu];rfl,trivial⟩
     ·cases hm
   | str =>
     simp only[tyM]at hm;split at hm
     ·rename_i ht;obtain⟨s,rfl,h1⟩:=strs ht h hw;refine⟨s.data.toList,?_,by intro u hu;rw[wF.1 hu];rfl,h1⟩;exact qyQ (.v _ rfl)
     ·cases hm
   | list a =>
     simp only[tyM]at hm;split at hm
     ·rename_i e ht;simp only[wd,decide_eq_true_eq]at hm;obtain⟨⟨⟨_,hc⟩,hb⟩,hm⟩:=hm;obtain⟨l,u,rfl,h1,h2,h3,h4⟩:=qxt (λ f hf=>ihA f hf) ht hc (wB (Ty.wt_pos a) hb) hm h hw;exact⟨l,qyQ h2,by intro u' hu;rw[wF.1 hu];exact h1,⟨h3.1,wD (vQ _ hb) h3.2⟩,h4⟩
     ·cases hm
   | pair a b =>
     simp only[tyM]at hm;split at hm
     ·rename_i fs ht;simp only[wd,decide_eq_true_eq]at hm;obtain⟨hc,hm⟩:=hm;obtain⟨xs,f,rfl,rfl,h1,h2,h3⟩:=DataW.trod_struct ht h;have hsz:(Ty.pair a b).size=a.size+b.size:=rfl;obtain⟨v,v1,v2,v3⟩:=quH (ihA f (xr _)) n (.pair a b) 0 fs.toList cs xs hm (by simpa using h2) (λ i g hg=>h3 i g (by simpa using hg)) (by simpa[DataW.weights,ht]using hw) (by rw[h1,hc,hsz];omega);rw[wO,kE (by rw[h1,hc,hsz];exact wa _)]at v1 v2;exact⟨v,v1,v2,v3⟩
     ·cases hm
   | one a =>
     simp only[tyM]at hm;split at hm
     ·rename_i fs ht;simp only[wd,decide_eq_true_eq]at hm;obtain⟨hc,hm⟩:=hm;obtain⟨xs,f,rfl,rfl,h1,h2,h3⟩:=DataW.trod_struct ht h;obtain⟨v,v1,v2,v3⟩:=quH (ihA f (xr _)) n a 0 fs.toList cs xs hm (by simpa using h2) (λ i g hg=>h3 i g (by simpa using hg)) (by simpa[DataW.weights,ht]using hw) (by rw[h1,hc];omega);rw[wO,kE (by rw[h1,hc];exact wa _)]at v1 v2;exact⟨v,v1,v2,v3⟩
     ·cases hm
   | term =>
     have hm0:=hm;simp only[tyM]at hm;cases n with
     | zero=>simp[qEU]at hm
     | succ n =>
     simp only[qEU]at hm;split at hm
     case h_2=>cases hm
     rename_i fs ht;split at hm
     case h_2=>cases hm
     rename_i f0 f1 f2 f3 hfs;simp only[wd,decide_eq_true_eq]at hm;obtain⟨⟨⟨⟨⟨⟨⟨⟨⟨hc,o0⟩,o1⟩,o2⟩,o3⟩,hc3⟩,m0⟩,m1⟩,m2⟩,m3⟩:=hm;split at m3
     case h_2=>cases m3
     rename_i e ht3;simp only[wd,decide_eq_true_eq]at m3;obtain⟨rfl,hb⟩:=m3;obtain⟨xs,f,rfl,rfl,h1,h2,h3⟩:=DataW.trod_struct ht h;have hsz:fs.size=4:=by rw[<- wM,hfs];rfl
     rw[hsz]at h2;rw[hc]at h1
     obtain⟨c0,c1,c2,c3,rfl⟩:∃ c0 c1 c2 c3,cs=[c0,c1,c2,c3]:=by
      match cs,h1 with
      | [a,b,c,d],_=>exact⟨a,b,c,d,rfl⟩
     obtain⟨x0,x1,x2,x3,rfl⟩:∃ x0 x1 x2 x3,xs=[x0,x1,x2,x3]:=by
      match xs,h2 with
      | [a,b,c,d],_=>exact⟨a,b,c,d,rfl⟩
     have fg:∀ i g,[f0,f1,f2,f3][i]?=some g->fs[i]?=some g := λ i g hg=>by rw[<- hfs,Array.getElem?_toList]at hg;exact hg
     have s0:=h3 0 f0 (fg 0 _ rfl);have s1:=h3 1 f1 (fg 1 _ rfl);have s2:=h3 2 f2 (fg 2 _ rfl);have s3:=h3 3 f3 (fg 3 _ rfl)
     have cOf:∀{τ : Ty} {t:TypeId},(∃ k,τ = .int k) \/ τ = .str->tyM P n τ t=true->P.cellsOf t=1:=by
      intro τ t hτ hm;cases n with
      | zero=>cases τ <;> simp[tyM]at hm
      | succ n =>
        rcases hτ with⟨k,rfl⟩ | rfl
        ·simp only[tyM]at hm;split at hm
         ·simp only[wd,decide_eq_true_eq]at hm;exact hm.2
         ·cases hm
        ·simp only[tyM]at hm;split at hm
         ·exact of_decide_eq_true hm
         ·cases hm
     have uInt:∀{k:IntKind} {t:TypeId},tyM P n (.int k) t=true->P.underlying t=some (.int k):=by
      intro k t hm;cases n with
      | zero=>simp[tyM]at hm
      | succ n =>
        simp only[tyM]at hm;split at hm
        ·rename_i k' ht;simp only[wd,decide_eq_true_eq]at hm;rw[ht,hm.1]
        ·cases hm
     have uStr:∀{t:TypeId},tyM P n .str t=true->P.underlying t=some .string:=by
      intro t hm;cases n with
      | zero=>simp[tyM]at hm
      | succ n =>
        simp only[tyM]at hm;split at hm
        ·assumption
        ·cases hm
     rw[o0,cOf (.inl ⟨_,rfl⟩) m0]at s0;rw[o1,cOf (.inr rfl) m1]at s1;rw[o2,cOf (.inl ⟨_,rfl⟩) m2]at s2;rw[o3,hc3]at s3
     have hwE:∀ k∈DataW.weightsEach P [f0.type,f1.type,f2.type,f3.type] [x0.1,x1.1,x2.1,x3.1],k<=reachBytes:=by
      intro k hk;refine hw k ?_;simp only[DataW.weights,ht,hfs];exact hk
     simp only[DataW.weightsEach,ww]at hwE;obtain⟨i0,e0,_,_⟩:=ints (uInt m0) (f:=f) (x:=x0) s0;obtain⟨i1,e1,b1⟩:=strs (uStr m1) (f:=f) (x:=x1) s1 λ k hk=>hwE k (.inr (.inl hk));obtain⟨i2,e2,_,_⟩:=ints (uInt m2) (f:=f) (x:=x2) s2;obtain⟨l,u,e3,b3,r3,l3,v3⟩:=qxt (a := .term) (λ g hg=>ihA g (Nat.lt_succ_of_lt hg)) ht3 hc hb hm0 s3 λ k hk=>hwE k (.inr (.inr (.inr (.inl hk))));have g0:c0 = .int .i64 i0:=by simpa using e0
     have g1:c1 = .string i1:=by simpa using e1
     have g2:c2 = .int .i64 i2:=by simpa using e2
     have g3:c3=u:=by simpa using e3
     subst g0;subst g1;subst g2;subst g3;refine⟨.mk i0 i1.data.toList i2 l,?_,?_,(qCa _).2 ⟨l3.1,b1,v3⟩⟩
     ·show RepL _ (JI _) _;rw[JI,qkn];exact waH (.v _ rfl) (waH (.v _ rfl) (waH (.v _ rfl) (qyQ r3)))
     ·intro u hu;simp only[wy,xq,or_false]at hu;rcases hu with rfl | rfl | rfl | rfl
      ·rfl
      ·rfl
      ·rfl
      ·exact b3
end
end Go.AmZ
namespace Go.AmZ
open Go Go.GxZ
structure Gd (n:Int) (l:List Pk):Prop where
 len:l.length<=400
 all:∀ p∈l,p.2.2.1.length<=300000/\0<=p.2.1/\p.2.1<n
theorem Gd.sm{n:Int}{l:List Pk}(h:Gd n l):Sm l:=⟨h.len,λ p a=>(h.all p a).1⟩
theorem Gd.nil(n:Int):Gd n []:=⟨we _,λ p a=>by cases a⟩
theorem Gd.set{n:Int}{l:List Pk}(h:Gd n l)(i:Nat)(p:Pk)(b:p.2.2.1.length<=300000/\0<=p.2.1/\p.2.1<n):Gd n (l.set i p) :=
 ⟨by rw[wI];exact h.len,λ q a=>(List.mem_or_eq_of_mem_set a).elim (h.all q) λ e=>e▸b⟩
theorem Gd.app{n:Int}{l:List Pk}(h:Gd n l)(c:l.length<400)(p:Pk)(b:p.2.2.1.length<=300000/\0<=p.2.1/\p.2.1<n):Gd n (l++[p]) :=
 ⟨by rw[wc];exact c,λ q a=>(ww.1 a).elim (h.all q) λ e=>by rw[wF.1 e];exact b⟩
theorem Gd.get{n:Int}{l:List Pk}(h:Gd n l){i:Nat}{p:Pk}(a:l[i]?=some p):p.2.2.1.length<=300000/\0<=p.2.1/\p.2.1<n:=h.all p (wb a)
theorem qLs{n:Int}{l:List Pk}(h:Gd n l)(a b:Int)(t:T)(c:size t<=10000):Gd n (qqe n l a b t).1:=by
 unfold qqe;split
 ·exact h
 ·rename_i d;split
  ·exact h
  ·rename_i e;split
   ·exact h
   ·refine h.app (by omega) _ ⟨?_,by show 0<=b;omega,by show b<n;omega⟩;have:=qAw t c;show(yB _).length<=_;rw[qp2];omega
theorem qLU{n:Int}{l:List Pk}(h:Gd n l)(i a v:Int):Gd n (qsr l i a v).1:=by
 unfold qsr;split
 ·exact h
 ·split
  ·exact h
  ·rename_i p b;split
   ·exact h
   ·have:=h.get b;refine h.set _ _ ⟨?_,this.2⟩;show(List.set _ _ _).length<=_;rw[wI];exact this.1
theorem qDM{l:List Pk}{j:Nat}{p:Pk}(a:l[j]?=some p):qh9 l (j:Int)=(p.2.2.1,0):=by
 have b:QK l (j:Int) false=0:=by
  rw[qj7 (List.getElem?_eq_some_iff.1 a).1];exact if_neg λ h=>by cases h.1
 unfold qh9;rw[if_neg (λ h:QK l (j:Int) false≠0=>h b),wJ,a]
end Go.AmZ
namespace Go.AmZ
open Go Go.GxZ
def okR(u:T):Prop:=(u.kind=2/\0<=u.sort/\u.sort<=5/\yD u.name=true/\u.kids=[])\/(u.kind=3/\u.sort=0/\u.name∈nmL/\(qC u.name).1<=(u.kids.length:Int)/\(u.kids.length:Int)<=(qC u.name).2.1)
def qu5(t:T):Prop:=∀ u∈Q0 t,okR u
theorem qzN{t:T}(h:qu5 t):okR t:=h t (by rw[qcf];exact wh ..)
theorem qHk{t k:T}(h:qu5 t)(b:k∈t.kids):qu5 k := λ u a=>h u (by
 rw[qcf];exact wg _ (vh.2 ⟨_,wx.2 ⟨k,b,rfl⟩,a⟩))
theorem qGl{t:T}(h:yK t=0)(b:t.kind=2):0<=t.sort/\t.sort<=5/\yD t.name=true/\t.kids=[]:=by
 unfold yK qfC at h;rw[if_pos (.inr b)]at h;split at h
 ·cases h
 ·rename_i c;cases a:yD t.name with
  | false=>rw[a]at h;cases h
  | true=>exact⟨by omega,by omega,rfl,wj (by omega)⟩
theorem qBU{t:T}(h:yK t=0)(a:t.kind=3):t.sort=0:=by
 unfold yK qfC at h;rw[if_neg (by omega),if_pos a]at h;split at h
 ·cases h
 ·omega
theorem qKt(t:T):yV t=0->zg t=0->qc6 pPl t=true->zC 1 t=[]->qu5 t:=by
 induction t using T.ind with
 | h t v =>
   intro x m e j;obtain⟨f,y⟩:=qhW x;obtain⟨B,r,q⟩:=qui f;rw[qlj,wd]at e;rw[ql1]at j;obtain⟨g,s⟩:=wR.1 j;have c:t.kind≠1 := λ h=>by rw[if_pos h]at g;cases g
   intro u b;rw[qcf]at b;rcases wy.1 b with rfl | b
   ·rcases r with h | h | h
    ·exact absurd h c
    ·exact .inl ⟨h,qGl f h⟩
    ·obtain⟨A,_⟩:=qaq h m;obtain⟨p,o,n,_⟩:=qnX h A;have i:=e.1;rw[show(u.kind==3)=true from beq_iff_eq.2 h]at i;exact .inr ⟨h,qBU f h,qCe p (by simpa using i),o,n⟩
   ·obtain⟨l,w,b⟩:=vh.1 b;obtain⟨k,a,rfl⟩:=wx.1 w
    have d:t.kind=3:=by
     by_cases h:t.kind=3
     ·exact h
     ·rw[q h]at a;cases a
    obtain⟨_,z⟩:=qaq d m;refine v k a (y k a) (z k a) ?_ ?_ u b
    ·have:=wv.1 e.2 (qc6 pPl k) (wx.2 ⟨k,a,rfl⟩);exact this
    ·exact waj.1 s _ (wx.2 ⟨k,a,rfl⟩)
theorem qJr{t:T}(h:JB t=0):qu5 t/\¬ (400<size t\/40<qcn t)/\qac t=true:=by
 unfold JB at h;by_cases d:qce t=0
 ·rw[if_neg (λ g:qce t≠0=>g d)]at h;by_cases c:qdg t=false
  ·rw[if_pos c]at h;cases h
  ·rw[if_neg c]at h;by_cases b:qac t=false
   ·rw[if_pos b]at h;cases h
   ·rw[Bool.not_eq_false]at c b;obtain⟨a,f⟩:=qly d;have e:=b;unfold qac at e;simp only[wd]at e;unfold qJ at a;by_cases g3:yV t=0
    ·rw[if_neg (λ g:yV t≠0=>g g3)]at a;refine⟨qKt t g3 f e.2.2 (xM.1 c),λ g=>?_,b⟩;rw[if_pos g]at a;cases a
    ·rw[if_pos g3]at a;exact absurd a g3
 ·rw[if_pos d]at h;exact absurd h d
theorem qyY{s:List UInt8}{b:Nat}:∀(n j:Nat),(∀ i,j<=i->i<j+n->∃ c,s[b+i]?=some c/\okC i c=true)->nmE s b n j=none
 | 0,_,_=>rfl
 | n+1,j,h=>by
   obtain⟨c,d,a⟩:=h j (wa _) (by omega);rw[nmE,d];show cond (okC j c) _ _=_;rw[a];exact qyY n (j+1) λ i f e=>h i (by omega) (by omega)
theorem qFG{n:List UInt8}(h:yD n=true):1<=n.length/\n.length<=24/\∀ i c,n[i]?=some c->okC i c=true:=by
 unfold yD at h;simp only[wd,decide_eq_true_eq]at h;obtain⟨⟨⟨g,f⟩,d⟩,e⟩:=h;refine⟨g,f,λ i c b=>?_⟩;unfold okC;by_cases a:i=0
 ·subst a;rw[if_pos rfl];rw[List.getD_eq_getElem?_getD,b]at d;exact d
 ·rw[if_neg a];exact wv.1 e c (wb b)
def hdS(u:T):List UInt8:=if u.kind=2 then qH [iw .u8 u.sort,iw .u8 u.name.length]++u.name else qH (if qcD u.name then[hdE u.name]++[iw .u8 u.kids.length]else[hdE u.name])
theorem u8_in{n:Nat}(h:n<=255):iw .u8 (n:Int)=(n:Int):=IntWalk.u8_in _ (by omega)
theorem qt2{n:Nat}(h:n<=255):(UInt8.ofNat (iw .u8 (n:Int)).toNat).toNat=n:=by
 rw[u8_in h,wJ];simp only[vX];omega
theorem qLM{n:List UInt8}(h:n∈nmL):∃(j:Nat) (r:List UInt8 × (Int × Int)),j<15/\hdE n=iw .u8 ((16+j:Nat):Int)/\esL[j]?=some r/\r.1=n:=by
 obtain⟨b,j,r,e,a,d⟩:=qzQ esL n 0 (by rw[qyr];exact h);have c:j<15:=(List.getElem?_eq_some_iff.1 a).1;refine⟨j,r,c,?_,a,d⟩;unfold hdE;rw[qyr]at b;rw[<- b,e,show(16:Int)=((16:Nat):Int)from rfl,qhq,jJ (by omega),wH]
theorem qL3:∀ r∈esL,(qC r.1).1=r.2.1/\(qC r.1).2.1=r.2.2:=by decide
theorem qLa:∀ r∈esL,qcD r.1=false->r.2.1=r.2.2:=by decide
theorem qIW(u:T)(h:okR u)(A B:List UInt8):hdN (A++(hdS u++B)) A.length=(some (.mk u.kind u.name u.sort [],u.kids.length),A.length+(hdS u).length):=by
 rcases h with⟨l,F,P,n,D⟩ | ⟨l,C,n,p,q⟩
 ·obtain⟨N,M,z⟩:=qFG n;obtain⟨so,f⟩:=ky F;have e1:hdS u=[UInt8.ofNat (iw .u8 u.sort).toNat,UInt8.ofNat (iw .u8 (u.name.length:Int)).toNat]++u.name:=by unfold hdS;rw[if_pos l];rfl
  rw[e1];have k:(UInt8.ofNat (iw .u8 u.sort).toNat).toNat=so:=by rw[f];exact qt2 (by omega)
  have e:(UInt8.ofNat (iw .u8 (u.name.length:Int)).toNat).toNat=u.name.length:=qt2 (by omega);generalize UInt8.ofNat (iw .u8 u.sort).toNat=a at k;generalize UInt8.ofNat (iw .u8 (u.name.length:Int)).toNat=b at e;have t:(A++([a,b]++u.name++B))[A.length]?=some a:=by simp
  have s:(A++([a,b]++u.name++B))[A.length+1]?=some b:=by rw[List.getElem?_append_right (by omega)];simp
  have G:∀ i c,u.name[i]?=some c->(A++([a,b]++u.name++B))[A.length+2+i]?=some c := λ i c m=>by
   have w:=(List.getElem?_eq_some_iff.1 m).1;rw[List.getElem?_append_right (by omega),show A.length+2+i-A.length=2+i by omega,wi,List.getElem?_append_right (by show 2<=_;omega),show 2+i-[a,b].length=i by show 2+i-2=i;omega,List.getElem?_append_left w];exact m
  unfold hdN;rw[t];simp only[];rw[if_pos (by omega),s];simp only[];rw[if_neg (by omega),qyY _ _ λ i _ w=>⟨u.name[i]'(by omega),G i _ (List.getElem?_eq_getElem _),z i _ (List.getElem?_eq_getElem _)⟩];simp only[]
  have I:((A++([a,b]++u.name++B)).take (A.length+2+b.toNat)).drop (A.length+2)=u.name:=by
   rw[List.drop_take,e,show A.length+2+u.name.length-(A.length+2)=u.name.length by omega,show A++([a,b]++u.name++B)=(A++[a,b])++(u.name++B) by simp,vp (by simp),List.take_left' rfl]
  rw[I,k,e,D,l,f];have H:([a,b]++u.name).length=2+u.name.length:=by simp;omega
  rw[H,wG];rfl
 ·obtain⟨j,r,O,E,v,d⟩:=qLM n;have o:=wb v;obtain⟨L,K,J⟩:=qAW r o;obtain⟨y,x⟩:=qL3 r o;rw[<- d,y]at p;rw[<- d,x]at q;have k:(UInt8.ofNat (hdE u.name).toNat).toNat=16+j:=by rw[E];exact qt2 (by omega)
  have e1:hdS u=UInt8.ofNat (hdE u.name).toNat::(if qcD u.name then[UInt8.ofNat (iw .u8 (u.kids.length:Int)).toNat]else[]):=by
   unfold hdS;rw[if_neg (by omega)];split<;>rfl
  rw[e1];generalize UInt8.ofNat (hdE u.name).toNat=a at k;have t:∀ R:List UInt8,(A++(a::R++B))[A.length]?=some a := λ R=>by simp
  have g:esL[a.toNat-16]?=some r:=by rw[k,show 16+j-16=j by omega];exact v
  unfold hdN;rw[t];simp only[];rw[if_neg (by omega),if_neg (by omega),g];simp only[];rw[d,l,C];cases m:qcD u.name with
  | true =>
    have e:(UInt8.ofNat (iw .u8 (u.kids.length:Int)).toNat).toNat=u.kids.length:=qt2 (by omega);generalize UInt8.ofNat (iw .u8 (u.kids.length:Int)).toNat=b at e;rw[if_pos rfl,if_pos rfl];have s:(A++(a::[b]++B))[A.length+1]?=some b:=by rw[List.getElem?_append_right (by omega)];simp
    rw[s];simp only[];rw[if_neg (by omega),e];rfl
  | false =>
    have:=qLa r o (by rw[d];exact m);rw[if_neg (by decide),if_neg (by decide),show r.2.1.toNat=u.kids.length by omega];rfl
theorem qMz(t:T)(h:okR t):qH (bI t)=hdS t++qH (t.kids.map bI).flatten:=by
 rw[qqH];unfold hdS;rcases h with⟨a,_,_,_,c⟩ | ⟨a,_⟩
 ·rw[if_pos a,if_pos a,qeP,qsu,c];exact(wA _).symm
 ·have b:¬ t.kind=2:=by omega
  rw[if_neg b,if_neg b,qeP]
theorem qJE(t:T):1<=(hdS t).length:=by
 unfold hdS;split
 ·rw[wc];show 1<=2+_;omega
 ·split
  ·exact(by decide:1<=2)
  ·exact wa 1
theorem qws(f:Nat):∀(ks:List T),(∀ k∈ks,∀ A B:List UInt8,rdT (A++(qH (bI k)++B)) f A.length=(some k,A.length+(qH (bI k)).length))->∀ A B:List UInt8,qcq (rdT (A++(qH (ks.map bI).flatten++B)) f) ks.length A.length=(some ks,A.length+(qH (ks.map bI).flatten).length)
 | [],_,A,B=>rfl
 | k::ks,h,A,B=>by
   have c:=h k (wh ..) A (qH (ks.map bI).flatten++B);have a:=qws f ks (λ x b=>h x (wg _ b)) (A++qH (bI k)) B;rw[wm,xS,qeP,wu,qcq,wi,c];simp only[];rw[wi,wc]at a;rw[a];simp only[];rw[wc,wG]
theorem qHi(t:T):qu5 t->∀(f:Nat) (A B:List UInt8),(qH (bI t)).length<=f->rdT (A++(qH (bI t)++B)) f A.length=(some t,A.length+(qH (bI t)).length):=by
 induction t using T.ind with
 | h t c =>
   intro h f A B d;have e:=qJE t;rw[qMz t (qzN h),wc]at d |-
   obtain⟨f,rfl⟩:∃ n,f=n+1:=⟨f-1,by omega⟩
   rw[rdT,wi,qIW t (qzN h)];simp only[]
   have b:∀ k∈t.kids,(qH (bI k)).length<=(qH (t.kids.map bI).flatten).length := λ k b=>by
    rw[qbz,qbz];exact(vc (wx.2 ⟨k,b,rfl⟩)).length_le
   have:=qws f t.kids (λ k a A B=>c k a (qHk h a) f A B (by have:=b k a;omega)) (A++hdS t) B;rw[wi,wc]at this;rw[this];simp only[];rw[wG];cases t;rfl
theorem qFa{t:T}(h:JB t=0):qpl (Jw t)=(t,(0,0)):=by
 obtain⟨c,b,a⟩:=qJr h;unfold qpl Jw;rw[if_pos h];have:=qHi t c ((qH (bI t)).length+1) [] [] (by omega);rw[wA]at this;have e:rdT (qH (bI t)) ((qH (bI t)).length+1) 0=(some t,(qH (bI t)).length):=this.trans (by rw[wZ,wH]);rw[e];simp only[];rw[if_neg (λ g=>g rfl),if_neg b,if_pos a]
end Go.AmZ
namespace Go.AmZ
open Go Go.GxZ
theorem qKZ(t:T)(b:qp5 t):Ev (λ m _=>qln m t) (qml [t] 450):=by
 refine waD ?_;simp only[qBj,qkg,qh];have:=qLO [t] (by show 1<2 ^ 62;decide) (λ u a=>by rw[wF.1 a];exact b) 1 450 (by decide) (by decide);exact wav this (waB rfl)
theorem qIf{t:T}(h:qml [t] 450=true):size t<=10000:=by
 have:=qIF (by decide) h t (wF.2 rfl);omega
theorem qEx(s:List UInt8):qbo (yB s)=(s,0):=by
 have a:(yB s).drop 4=s:=vp rfl;unfold qbo;rw[if_neg (by rw[qp2];omega),a,if_pos rfl]
theorem qGh{l:List Pk}{v:Nat}{a b:Int}{t:T}(h:l[v]?=some (a,(b,(yB (Jw t),true))))(f:JB t=0):qkc l (v:Int)=(l.set v (a,(b,(yB (Jw t),false))),(t,(b,0))):=by
 have d:=(List.getElem?_eq_some_iff.1 h).1
 have c:QK l (v:Int) true=0:=by
  rw[qj7 d];have e:l[v]=(a,(b,(yB (Jw t),true))):=(List.getElem?_eq_some_iff.1 h).2;rw[e];exact if_neg λ g=>by cases g.2
 unfold qkc;rw[if_neg (λ g:QK l (v:Int) true≠0=>g c),wJ,h];simp only[qEx,qFa f];rw[if_neg (λ g=>g rfl),if_neg (λ g=>g rfl)];rfl
end Go.AmZ
namespace Go.AmZ
open Go Go.GxZ
def qj9(l:List UInt8):Nat:=(l.map (·.toNat)).sum
theorem qzc:∀(l:List UInt8) (p:Int × Int),0<=p.1->p.1<65521->(l.foldl ckS p).1=(p.1+(qj9 l:Int)) % 65521
 | [],p,d,b=>by
   show p.1=(p.1+((0:Nat):Int)) % 65521;omega
 | c::l,p,d,b=>by
   have a:=qzc l (ckS p c) (by show 0<=(p.1+c.toNat) % 65521;omega) (by show(p.1+c.toNat) % 65521<65521;omega);have e:(ckS p c).1=(p.1+c.toNat) % 65521:=rfl;have f:qj9 (c::l)=c.toNat+qj9 l:=rfl;rw[w7,a,e,f];omega
theorem qyS:∀(l:List UInt8) (k:Nat) (b:UInt8) (h:k<l.length),qj9 (l.set k b)+(l[k]).toNat=qj9 l+b.toNat
 | c::l,0,b,_=>by
   show(b.toNat+qj9 l)+c.toNat=(c.toNat+qj9 l)+b.toNat;omega
 | c::l,k+1,b,h=>by
   have a:=qyS l k b (waq h);show(c.toNat+qj9 (l.set k b))+(l[k]'(waq h)).toNat=(c.toNat+qj9 l)+b.toNat;omega
theorem qB8{a b:Int}(d:0<=a/\a<256)(c:0<=b/\b<256)(h:UInt8.ofNat a.toNat=UInt8.ofNat b.toNat):a=b:=by
 have:=congrArg UInt8.toNat h;simp only[vX]at this;omega
theorem qJJ{v w:Int}(h:ckB v=ckB w):v % 65536=w % 65536:=by
 unfold ckB qH at h;simp only[wm,xW,List.cons.injEq,and_true]at h;have b:=qB8 (by omega) (by omega) h.2.2.1;have a:=qB8 (by omega) (by omega) h.2.2.2;omega
theorem qjN(v:Int):(ckB v).length=4:=rfl
theorem qDS(s:List UInt8)(k:Nat)(b:UInt8)(e:k<(yB s).length)(l:(yB s)[k]≠b):qbo ((yB s).set k b)=([],19):=by
 have w:=qp2 s
 have d:yB (((yB s).set k b).drop 4)≠(yB s).set k b:=by
  intro h;by_cases q:k<4
  ·have e1:((yB s).set k b).drop 4=s:=by
     rw[List.drop_set,if_pos q];exact vp rfl
   rw[e1]at h
   have c:(yB s)[k]?=some b:=by
    rw[h];exact List.getElem?_set_self e
   rw[List.getElem?_eq_getElem e]at c;exact l (kM c)
  ·have e1:(yB s).set k b=ckB (ckN (ckF s))++s.set (k-4) b:=by
     unfold yB;rw[xZ _ _ (by rw[qjN];omega),qjN]
   have c:((yB s).set k b).drop 4=s.set (k-4) b:=by rw[e1];exact vp rfl
   rw[c,e1]at h;unfold yB at h;have p:=(List.append_inj h (by rw[qjN,qjN])).1;have o:=qJJ p;have a:k-4<s.length:=by omega
   have n:=quL s;have m:=quL (s.set (k-4) b);have j:=qzc s (1,0) (by decide) (by decide);have i:=qzc (s.set (k-4) b) (1,0) (by decide) (by decide);have r:=qyS s (k-4) b a
   have f:s[k-4]≠b:=by
    intro g;apply l
    have:(yB s)[k]?=some b:=by
     unfold yB;rw[List.getElem?_append_right (by rw[qjN];omega),qjN,List.getElem?_eq_getElem a,g]
    rw[List.getElem?_eq_getElem e]at this;exact kM this
   have v:(s[k-4]).toNat≠b.toNat := λ g=>f (wal.1 g);have u:=(s[k-4]).toNat_lt;have t:=b.toNat_lt;have j:(ckF s).1=(1+(qj9 s:Int)) % 65521:=j;have i:(ckF (s.set (k-4) b)).1=(1+(qj9 (s.set (k-4) b):Int)) % 65521:=i;unfold ckN at o;obtain⟨E,D,C,B⟩:=n;obtain⟨A,z,y,x⟩:=m;omega
 unfold qbo;rw[if_neg (by rw[wI];omega),if_neg d]
theorem qES{l:List Pk}{v:Nat}{a b:Int}{s:List UInt8}(h:l[v]?=some (a,(b,(s,true))))(e:qbo s=([],19)):(qkc l (v:Int)).2=(.mk 0 [] 0 [],(b,19)):=by
 have d:=(List.getElem?_eq_some_iff.1 h).1
 have c:QK l (v:Int) true=0:=by
  rw[qj7 d,(List.getElem?_eq_some_iff.1 h).2];exact if_neg λ g=>by cases g.2
 unfold qkc;rw[if_neg (λ g:QK l (v:Int) true≠0=>g c),wJ,h];simp only[e];rw[if_pos (by decide)]
theorem qC4(a b:Int)(s:List UInt8)(j:Nat)(v:Int)(d:j<s.length):qsr [(a,(b,(s,true)))] 0 (j:Int) v=([(a,(b,(s.set j (UInt8.ofNat v.toNat),true)))],0):=by
 unfold qsr;have c:QK [((a,(b,(s,true))):Pk)] 0 true=0:=rfl;rw[if_neg (λ g:QK [((a,(b,(s,true))):Pk)] 0 true≠0=>g c)];show(if(j:Int)<0\/(s.length:Int)<=(j:Int)then _ else _)=_;rw[if_neg (by omega),wJ];rfl
theorem networkSpoils_ev(t:T)(x:Int × (Int × Bool))(u:qp5 t)(E:qkk (.pair (.int .i64) (.pair (.int .u8) .bool)) x):Ev (λ m _=>law31_NetworkSpoils m t x) true:=by
 obtain⟨c,v,h⟩:=x;obtain⟨_,⟨f,e⟩,_⟩:=E;have f:0<=v:=f;have e:v<=255:=e;refine waD ?_;simp only[qmW,qbE,qh];have D:∀ x:Int,ieq x x=true := λ x=>qk.2 rfl;refine wav qtD (waA rfl (wav (qKZ t u) ?_));cases o:qml [t] 450 with
 | false=>exact waz rfl (wav qtD (wax _))
 | true =>
 have d:=qIf o;refine waA rfl (wav (a:=((),(some (2,[],()),0,()))) (waD ?_) ?_)
 ·simp only[qxx,qhh];exact waA rfl (waA rfl (wax _))
 dsimp only[qnq];refine waA rfl (wav (qMp 2 [] 0 1 t d) ?_);have s:=qLs (Gd.nil 2) 0 1 t d
 have b:qqe 2 [] 0 1 t=if JB t≠0 then([],(0,JB t))else([(0,(1,(yB (Jw t),true)))],(0,0)):=by
  unfold qqe;rw[if_neg (by omega),if_neg (by show ¬ 400<=0;omega)];rfl
 by_cases n:JB t=0
 ·rw[if_neg (λ g:JB t≠0=>g n)]at b;rw[b]at s |-
  refine waA rfl ?_;have y1:=qLG 2 [(0,(1,(yB (Jw t),true)))] 0;have J:qh9 [((0,(1,(yB (Jw t),true))):Pk)] 0=(yB (Jw t),0):=qDM (l:=[(0,(1,(yB (Jw t),true)))]) (j:=0) (p:=(0,(1,(yB (Jw t),true)))) rfl;rw[J]at y1;have i:=qGh (l:=[(0,(1,(yB (Jw t),true)))]) (v:=0) rfl n;have q:=qDS (Jw t);generalize K:yB (Jw t)=S at *;refine wav y1 (waA rfl ?_);by_cases H:c<0
  ·exact waz (qw.2 H) (waB rfl)
  refine waA (qt.2 (by omega)) ?_;by_cases G:(S.length:Int)<=c
  ·exact waz (qa1.2 G) (waB rfl)
  refine waA (qbv.2 (show c<(S.length:Int) by omega)) ?_;obtain⟨j,rfl⟩:=ky (show 0<=c by omega);have k:j<S.length:=by omega
  have z:qc S (j:Int)=some S[j]:=by rw[zM];exact List.getElem?_eq_getElem k
  refine way z ?_;by_cases r:((UInt8.toNat S[j]:Nat):Int)=v
  ·exact waz (qk.2 r) (waB rfl)
  refine waA (qg.2 r) ?_
  have F:S[j]≠UInt8.ofNat v.toNat:=by
   intro g;apply r;rw[g];simp only[vX];omega
  have y:=qFL 2 [(0,(1,(S,true)))] 0 (j:Int) v;have A:=qLU s 0 (j:Int) v;rw[qC4 _ _ _ _ _ k]at y A;refine wav y (waA rfl ?_);cases h with
  | true =>
    have w:=qFL 2 [(0,(1,(S.set j (UInt8.ofNat v.toNat),true)))] 0 (j:Int) ((UInt8.toNat S[j]:Nat):Int);rw[qC4 _ _ _ _ _ (by rw[wI];exact k),List.set_set,wJ,UInt8.ofNat_toNat,wau]at w;have C:=qFA 2 [(0,(1,(S,true)))] s.sm 0;rw[show qkc [(0,(1,(S,true)))] 0=_ from i]at C;refine waz rfl (way z (wav w (waA rfl (wav C (waz rfl (waz rfl (waz rfl (wav (qfQ t t (by omega) (by omega)) (waB ?_)))))))));exact qbp.2 rfl
  | false =>
    have B:=qFA 2 [(0,(1,(S.set j (UInt8.ofNat v.toNat),true)))] A.sm 0;have I:=qES (l:=[(0,(1,(S.set j (UInt8.ofNat v.toNat),true)))]) (v:=0) rfl (q j _ k F);rw[show(qkc [(0,(1,(S.set j (UInt8.ofNat v.toNat),true)))] 0).2=_ from I]at B;exact waA rfl (wav B (waA rfl (waz rfl (waz rfl (waB rfl)))))
 ·rw[if_pos n]at b;rw[b];refine waz (bnt.2 (qg.2 n)) (wav (qJM t d) (waB ?_));exact D _
end Go.AmZ
namespace Go.AmZ
open Go Go.GxZ
set_option linter.unusedVariables false
set_option maxRecDepth 100000
open Go.Proofs.Tryz (f3 f10 f11 f12 f13 f14 f15 f16 f17 f18 f19 f28 f31 f32 f33 f34 f35 f36 f37 f38 f39 f40 f41 f42 f52 f53 f54 f55 f56 f57 f58 f59 f60 f61 f62 f64 f65 f66 f68 f69 f70 f71 f72 f73 f74 f75 f76 f77 f78 f79 f80 f81 f82 f83 f84 f85 f86 f87 f88 f91 f92 f93 f94 f95 f97 f98 f99 f100 f101 f102 f103 f104 f105 f106 f109 f110 f111 f112 f113 f114 f115 f116 f117 f120 f121 f122 f123 f124 f125 f126 f127 f128 f129 f132 f133 f134 f135 f136 f137 f138 f139 f140 f141 f142 f143 f145 f146 f147 f148 f149 f150 f151 f152 f153 f154 f165 f166 f167 f170 f171 f173 f174 f175 f176 f177 f178 f179 f185 f186 f189 f190 f191 f192 f196)
abbrev y11:Ty := .int .u8
abbrev y2:Ty := .int .i64
abbrev y5:Ty := .list .term
abbrev y1:Ty := .pair .term y2
abbrev y4:Ty := .list y1
abbrev y9:Ty := .pair .str (.pair y2 .bool)
abbrev y7:Ty := .pair .str (.pair y2 y2)
abbrev y10:Ty := .list y7
abbrev y3:Ty := .pair y2 (.pair y2 (.pair .str .bool))
abbrev y6:Ty := .pair .str (.pair y2 (.pair y2 y2))
abbrev y8:Ty := .list y6
def i3:FI:=⟨f3,[.val .term,.val (.pair y2 (.pair y11 .bool))],[.bool],[],[],u2 law31_NetworkSpoils⟩
def i10:FI:=⟨f10,[],[.bool],[],[],u0 qfc⟩
def i11:FI:=⟨f11,[.val .term],[.bool],[],[],u1 qln⟩
def i12:SI:=⟨f12,[.val y2],[.opt [.val y2,.row y3],.one (.val y2)],[],[],u1 qh2⟩
def i13:SI:=⟨f13,[.box [.val y2,.row y3],.val y2,.val y2,.val .term],[.one (.val y2),.one (.val y2)],[],[],u4 Q3⟩
def i14:FI:=⟨f14,[.val .term],[.str,y2],[],[],u1 qgO⟩
def i15:SI:=⟨f15,[.box [.val y2,.row y3],.val y2],[.one (.val .str),.one (.val y2)],[],[],u2 JX⟩
def i16:SI:=⟨f16,[.box [.val y2,.row y3],.val y2,.val y2,.val y11],[.one (.val y2)],[],[],u4 jG⟩
def i17:SI:=⟨f17,[.box [.val y2,.row y3],.val y2],[.one (.val .term),.one (.val y2),.one (.val y2)],[],[],u2 yp⟩
def i18:FI:=⟨f18,[.val .term,.val .term],[.bool],[],[],u2 Qp⟩
def i19:FI:=⟨f19,[.val y5,.val y2,.val y2],[.bool],[(4,[(0,.list .term),(2,.keep),(7,.keep)])],[],u3 qlA⟩
def i28:SI:=⟨f28,[.box [.val y2,.row y3],.val y2],[.one (.val y2),.one (.val y2)],[],[],u2 qe8⟩
def i31:FI:=⟨f31,[.val .str],[.term],[],[],u1 qru⟩
def i32:SI:=⟨f32,[.box [.val y2,.row y3],.val y2],[.one (.val .bool)],[],[],u2 QC⟩
def i33:FI:=⟨f33,[.val .term],[.str,y2],[],[],u1 qdr⟩
def i34:SI:=⟨f34,[.box [.val y2,.row y3],.val y3],[.one (.val y2),.one (.val y2)],[],[],u2 Jp⟩
def i35:FI:=⟨f35,[.val .str],[.str],[],[],u1 qiq⟩
def i36:FI:=⟨f36,[.val .term],[y2],[],[],u1 qhX⟩
def i37:FI:=⟨f37,[.val .term],[.str],[(7,[(1,.box [.keep,.keep,.keep,.list .term]),(3,.keep),(4,.keep)])],[],u1 jb⟩
def i38:SI:=⟨f38,[.box [.val y2,.row y3],.val y2],[.elt 0,.one (.val y2)],[],[],u2 j8⟩
def i39:FI:=⟨f39,[.val .str],[.str,y2],[],[],u1 qll⟩
def i40:FI:=⟨f40,[.val .str],[.term,y2,y2],[],[],u1 qdu⟩
def i41:FI:=⟨f41,[.val .term,.val .term],[y2],[(18,[(2,.box [.keep,.keep,.keep,.list .term]),(3,.box [.keep,.keep,.keep,.list .term]),(9,.keep)])],[],u2 zD⟩
def i42:FI:=⟨f42,[.val .term,.val y2],[y2],[(5,[(1,.keep),(2,.box [.keep,.keep,.keep,.list .term]),(5,.keep)])],[],u2 yW⟩
def i52:FI:=⟨f52,[.val .str,.val y2],[.term],[],[],u2 qto⟩
def i53:FI:=⟨f53,[.val .term],[y2],[],[],u1 qd2⟩
def i54:FI:=⟨f54,[.val .term],[y5],[],[],u1 ql7⟩
def i55:FI:=⟨f55,[.val .term],[.bool],[],[],u1 qdZ⟩
def i56:SI:=⟨f56,[.row y11,.val .term],[.one (.row y11)],[(8,[(0,.row y11 false),(46,.list .term),(47,.keep),(48,.keep)])],[],u2 zR⟩
def i57:FI:=⟨f57,[.val .str],[(.int .u32)],[(3,[(0,.keep),(3,.keep),(4,.keep),(7,.keep),(8,.keep)])],[],u1 qjt⟩
def i58:FI:=⟨f58,[.val .term],[y2],[],[],u1 qe9⟩
def i59:FI:=⟨f59,[.val .term],[.bool],[],[],u1 qgy⟩
def i60:FI:=⟨f60,[.val .term],[.bool],[(6,[(5,.list .term),(6,.keep)])],[],u1 qhZ⟩
def i61:FI:=⟨f61,[.val .str],[y2],[(3,[(0,.keep),(3,.list .str),(4,.keep)])],[],u1 qh7⟩
def i62:FI:=⟨f62,[.val .str],[.bool],[],[],u1 qfg⟩
def i64:FI:=⟨f64,[.val .term],[y2],[],[],u1 yA⟩
def i65:FI:=⟨f65,[.val y2,.val y2],[y2],[],[],u2 qaC⟩
def i66:FI:=⟨f66,[.val .term],[y2],[(3,[(1,.box [.keep,.keep,.keep,.list .term]),(3,.keep),(4,.keep)])],[],u1 jn⟩
def i68:FI:=⟨f68,[.val .term],[y2],[(3,[(1,.box [.keep,.keep,.keep,.list .term]),(3,.keep),(4,.keep)])],[],u1 jB⟩
def i69:FI:=⟨f69,[.val .term],[y2],[(13,[(1,.box [.keep,.keep,.keep,.list .term]),(38,.list .term),(39,.keep),(40,.keep)]),(22,[(62,.list .term),(63,.keep),(64,.keep)])],[],u1 qD⟩
def i70:FI:=⟨f70,[.val .term,.val y2],[y5],[],[],u2 qmh⟩
def i71:FI:=⟨f71,[.val .term],[.term,y2],[],[],u1 qfl⟩
def i72:FI:=⟨f72,[.val .term,.val .term],[.bool],[],[],u2 JJ⟩
def i73:FI:=⟨f73,[.val .term,.fn],[.bool],[(4,[(1,.keep),(18,.list .term),(19,.keep),(20,.keep)])],[],u1 qZ⟩
def i74:FI:=⟨f74,[.val .str],[.bool],[],[],u1 qel⟩
def i75:FI:=⟨f75,[.val .str],[y6],[(2,[(0,.keep),(2,.box [.keep,.keep,.keep,.keep]),(5,.list y6),(6,.keep),(7,.keep)])],[],u1 qc2⟩
def i76:SI:=⟨f76,[.val y10,.clo 78 1,.box [.val .term]],[.one (.val y2)],[(2,[(0,.list y7),(1,.fn [.box [.keep,.keep,.keep,.list .term]]),(7,.keep),(8,.keep)])],[],u2 qX⟩
def i77:FI:=⟨f77,[],[y10],[],[],u0 yi⟩
def i78:SI:=⟨f78,[.val y7,.box [.val .term]],[.one (.val .bool)],[],[],u2 qci⟩
def i79:FI:=⟨f79,[.val y7],[.bool],[],[],u1 yq⟩
def i80:FI:=⟨f80,[.val .term],[y2],[],[],u1 jg⟩
def i81:FI:=⟨f81,[.val .term],[y2],[(11,[(1,.box [.keep,.keep,.keep,.list .term]),(4,.keep)])],[],u1 jd⟩
def i82:FI:=⟨f82,[.val .term],[y5],[],[],u1 qju⟩
def i83:FI:=⟨f83,[.val .term],[.term,y2],[],[],u1 qg9⟩
def i84:FI:=⟨f84,[.val .term],[y5],[(3,[(1,.box [.keep,.keep,.keep,.list .term]),(3,.row .term true),(4,.keep)])],[],u1 Qc⟩
def i85:FI:=⟨f85,[.val .str],[y2],[(3,[(0,.keep),(3,.list y6),(4,.keep)])],[],u1 qen⟩
def i86:FI:=⟨f86,[],[(.list .str)],[],[],u0 qrx⟩
def i87:SI:=⟨f87,[.box [.val y9]],[.agg [.val y2,.val .str,.val y2,.row .term,.val y2]],[],[],u1 qv⟩
def i88:SI:=⟨f88,[.val .term,.val y2,.box [.val y2],.box [.val y2]],[.one (.val y2)],[(17,[(1,.keep),(2,.box [.keep]),(3,.box [.keep]),(57,.list .term),(58,.keep),(59,.keep)])],[],u4 yb⟩
def i91:SI:=⟨f91,[.val .term,.clo 92 2,.box [.val y2],.box [.row .term]],[],[(3,[(1,.fn [.box [.keep],.box [.row .term false]]),(10,.list .term),(11,.keep),(12,.keep)])],[],u3 zA⟩
def i92:SI:=⟨f92,[.val .term,.box [.val y2],.box [.row .term]],[],[],[],u3 qag⟩
def i93:SI:=⟨f93,[.row .term],[.one (.row .term)],[(4,[(0,.row .term false),(9,.keep),(10,.keep)])],[],u1 qgN⟩
def i94:FI:=⟨f94,[.val .term],[.term,y2],[(5,[(1,.box [.keep,.keep,.keep,.list .term]),(2,.box [.keep,.keep,.keep,.row .term false]),(4,.box [.keep,.keep,.keep,.row .term false]),(19,.list .term),(20,.keep),(21,.keep)])],[],u1 yw⟩
def i95:FI:=⟨f95,[.val .term,.val .term],[y2],[(11,[(2,.box [.keep,.keep,.keep,.list .term]),(3,.box [.keep,.keep,.keep,.list .term]),(5,.keep),(6,.keep)])],[],u2 qA⟩
def i97:FI:=⟨f97,[.val .term],[y2],[(5,[(1,.box [.keep,.keep,.keep,.list .term]),(4,.keep)])],[],u1 jC⟩
def i98:FI:=⟨f98,[.val .term],[.bool],[(3,[(1,.box [.keep,.keep,.keep,.list .term]),(3,.list y6),(4,.keep)])],[],u1 qjr⟩
def i99:FI:=⟨f99,[.val .term],[.bool],[(4,[(1,.box [.keep,.keep,.keep,.list .term]),(3,.keep)])],[],u1 qf9⟩
def qII:FI:=⟨f100,[.val .term,.val y2],[y5],[(4,[(1,.keep),(5,.row .term false),(6,.list .term),(7,.keep)])],[],u2 qjn⟩
def qG1:FI:=⟨f101,[.val .term],[.term,y2],[(5,[(1,.box [.keep,.keep,.keep,.list .term]),(2,.box [.keep,.keep,.keep,.row .term false]),(4,.row .term false),(5,.keep)])],[],u1 yY⟩
def qK6:FI:=⟨f102,[],[y8],[],[],u0 qiG⟩
def qMe:SI:=⟨f103,[.box [.val y9],.val y2,.val y2],[.one (.val y2)],[],[],u3 zc⟩
def qH8:SI:=⟨f104,[.box [.val y9]],[.one (.val .str)],[(4,[(0,.box [.keep,.keep,.keep]),(4,.keep),(14,.keep),(15,.keep)])],[],u1 QU⟩
def qIT:FI:=⟨f105,[.val .str],[.bool],[(4,[(0,.keep),(38,.keep),(39,.keep)])],[],u1 qda⟩
def qHb:FI:=⟨f106,[.val .str],[.bool],[(4,[(0,.keep),(3,.keep)])],[],u1 qcl⟩
def qLD:FI:=⟨f109,[.val .term,.val .term],[.bool],[],[],u2 yX⟩
def qHv:FI:=⟨f110,[.val .term],[.term],[(4,[(1,.box [.keep,.keep,.keep,.row .term false]),(2,.box [.keep,.keep,.keep,.row .term false]),(9,.list .term),(10,.keep),(11,.keep)])],[],u1 jp⟩
def qLz:FI:=⟨f111,[.val .term],[.term],[],[],u1 qct⟩
def qIV:FI:=⟨f112,[.val y5],[.term,y2],[(6,[(2,.box [.keep,.keep,.keep,.row .term true]),(5,.list .term),(15,.list .term),(16,.keep),(17,.keep)])],[],u1 qqI⟩
def qLE:FI:=⟨f113,[.val .term],[y4,y2],[],[],u1 qbB⟩
def qzW:FI:=⟨f114,[.val y4],[.term,y2],[(6,[(2,.box [.keep,.keep,.keep,.row .term false]),(5,.row .term false),(6,.row .term false),(18,.list y1),(19,.keep),(20,.keep)]),(11,[(2,.box [.keep,.keep,.keep,.row .term false]),(5,.row .term false),(6,.row .term false),(8,.box [.keep,.keep,.keep,.list .term,.keep]),(18,.list y1),(19,.keep),(20,.keep),(34,.keep),(35,.keep)]),(15,[(2,.box [.keep,.keep,.keep,.row .term false]),(5,.row .term false),(6,.row .term false),(8,.box [.keep,.keep,.keep,.list .term,.keep]),(18,.list y1),(19,.keep),(20,.keep),(46,.keep),(47,.keep)])],[],u1 Ja⟩
def qL2:FI:=⟨f115,[.val .term,.val .term],[.term,y2],[],[],u2 qge⟩
def qLZ:FI:=⟨f116,[.val y2,.val y2],[y2],[],[],u2 qd6⟩
def qHD:FI:=⟨f117,[.val .term],[y2],[(3,[(3,.keep),(7,.list .term),(8,.keep),(9,.keep)])],[],u1 Qb⟩
def qKY:FI:=⟨f120,[.val .term],[y2],[],[],u1 qja⟩
def qIM:FI:=⟨f121,[.val y5],[y5],[(3,[(0,.list .term),(3,.list .term),(4,.keep)])],[],u1 qlF⟩
def qLy:FI:=⟨f122,[.val .str,.val y5],[.term],[],[],u2 Qe⟩
def qLb:FI:=⟨f123,[.val .term],[.term,.bool],[],[],u1 qfm⟩
def qJq:FI:=⟨f124,[.val y5],[.term,y2],[(6,[(0,.list .term),(2,.box [.keep,.keep,.keep,.row .term true]),(5,.list .term),(6,.keep)])],[],u1 qlP⟩
def qLx:FI:=⟨f125,[.val .term],[.term,y2],[],[],u1 qc5⟩
def qMk:FI:=⟨f126,[.val .term,.val .term],[.term,y2],[],[],u2 qhV⟩
def qLn:FI:=⟨f127,[.val y11],[.bool],[],[],u1 qic⟩
def qL1:FI:=⟨f128,[.val y11],[.bool],[],[],u1 qei⟩
def qLu:FI:=⟨f129,[.val y11],[.bool],[],[],u1 qh0⟩
def qLT:FI:=⟨f132,[.val .term,.val .str],[.bool],[],[],u2 jl⟩
def qI3:FI:=⟨f133,[.val y5,.val y5],[y2],[(4,[(14,.list .term),(15,.keep),(16,.keep)])],[],u2 qlr⟩
def qG4:FI:=⟨f134,[.val y5,.val y5],[y5],[(2,[(0,.list .term),(1,.list .term),(5,.row .term false)])],[],u2 qkp⟩
def qIk:FI:=⟨f135,[.val .term],[y5],[(6,[(3,.list .term),(31,.list .term),(32,.keep),(33,.keep)])],[],u1 yy⟩
def qIi:FI:=⟨f136,[.val y5],[y5],[(3,[(3,.row .term false),(9,.list .term),(10,.keep),(11,.keep)])],[],u1 JY⟩
def qHF:SI:=⟨f137,[.row y1,.val .term,.val y2],[.one (.row y1),.one (.val .bool)],[(12,[(0,.row y1 false),(2,.keep),(52,.list .term),(53,.keep),(54,.keep)])],[],u3 zl⟩
def qIc:FI:=⟨f138,[.val y4],[y2],[(4,[(0,.list y1),(9,.list y1),(10,.keep),(11,.keep)])],[],u1 qat⟩
def qJf:FI:=⟨f139,[.val .term],[.term],[(3,[(1,.box [.keep,.keep,.keep,.row .term false]),(2,.box [.keep,.keep,.keep,.row .term false]),(10,.row .term false),(11,.keep),(12,.keep)])],[],u1 zo⟩
def qLL:FI:=⟨f140,[.val .str,.val y5],[.term],[],[],u2 qdX⟩
def qDI:FI:=⟨f141,[.val (.list y5)],[y5],[(3,[(0,.list y5),(3,.keep),(9,.list y5),(10,.keep),(11,.keep)]),(11,[(6,.row .term false),(25,.list y5),(26,.keep),(27,.keep)])],[],u1 zJ⟩
def qIb:FI:=⟨f142,[.val y4,.val y4],[y4,y2],[(9,[(8,.row y1 false),(23,.list y1),(24,.keep),(25,.keep)])],[],u2 qgi⟩
def qLh:FI:=⟨f143,[.val .str,.val y5],[.term],[],[],u2 qgq⟩
def qIu:FI:=⟨f145,[.val y5,.val .term],[y5],[(4,[(0,.list .term),(3,.box [.keep,.keep,.keep,.list .term]),(5,.row .term false),(6,.keep),(7,.keep)])],[],u2 qit⟩
def qLr:FI:=⟨f146,[.val .term,.val .str],[.bool],[],[],u2 qbA⟩
def qJc:FI:=⟨f147,[.val y5,.val .term],[y2],[(4,[(0,.list .term),(3,.box [.keep,.keep,.keep,.list .term]),(5,.keep)])],[],u2 qh1⟩
def qL0:FI:=⟨f148,[],[.term],[],[],u0 qi7⟩
def qH5:FI:=⟨f149,[.val y5,.val y5],[y5],[(3,[(1,.list .term),(5,.plist .term),(6,.keep)])],[],u2 qgH⟩
def qIa:FI:=⟨f150,[.val .term],[y5],[(7,[(1,.box [.keep,.keep,.keep,.list .term]),(3,.list .term),(4,.keep)])],[],u1 zW⟩
def qMa:FI:=⟨f151,[.val y5],[.term],[],[],u1 qjB⟩
def qLp:FI:=⟨f152,[.val .term],[y4,y2],[],[],u1 qhl⟩
def qMf:FI:=⟨f153,[.val y4],[.term,y2],[],[],u1 qcU⟩
def qJa:FI:=⟨f154,[.val y4,.val y4],[y4,y2],[(9,[(1,.list y1),(8,.row y1 false),(9,.keep)])],[],u2 qli⟩
def qIB:FI:=⟨f165,[.val .term,.val (.list y2),.val .term],[.term,y2],[(4,[(5,.box [.keep,.keep,.keep,.list .term]),(6,.box [.keep,.keep,.keep,.row .term false]),(8,.box [.keep,.keep,.keep,.list .term]),(9,.box []),(14,.list y2),(15,.keep),(16,.keep)])],[],u3 qgu⟩
def qL4:FI:=⟨f166,[.val .term],[.bool],[],[],u1 qby⟩
def qK2:SI:=⟨f167,[.row y1,.val y1],[.one (.row y1)],[],[],u2 qbl⟩
def qIU:SI:=⟨f170,[.val y4],[.one (.row y1)],[(3,[(3,.row y1 false),(6,.list y1),(7,.keep),(8,.keep)])],[],u1 qdm⟩
def qK7:FI:=⟨f171,[.val y4],[y4,y2],[],[],u1 qdn⟩
def qH6:FI:=⟨f173,[.val y5,.val .term],[y5],[(5,[(0,.list .term),(3,.box [.keep,.keep,.keep,.list .term]),(5,.row .term false),(6,.keep)])],[],u2 qgz⟩
def qI9:FI:=⟨f174,[.val .term],[.bool],[(7,[(1,.box [.keep,.keep,.keep,.list .term]),(3,.keep),(4,.keep)])],[],u1 je⟩
def qHZ:SI:=⟨f175,[.row y1,.val .term,.val y2],[.one (.row y1)],[(6,[(0,.row y1 false),(2,.keep),(4,.box [.keep,.keep,.keep,.list .term]),(7,.keep)])],[],u3 yg⟩
def qJj:FI:=⟨f176,[.val y4],[y2],[(4,[(0,.list y1),(3,.keep)])],[],u1 qdb⟩
def qvl:FI:=⟨f177,[.val y4],[y5],[(3,[(0,.list y1),(3,.row .term false),(4,.keep)]),(6,[(0,.list y1),(3,.row .term false),(4,.keep),(5,.keep)]),(10,[(0,.list y1),(3,.row .term false),(6,.keep)]),(13,[(0,.list y1),(3,.row .term false),(6,.keep),(7,.keep)])],[],u1 qeB⟩
def qJl:SI:=⟨f178,[.row y1,.val .term,.val y2],[.one (.row y1)],[(4,[(0,.row y1 false),(2,.keep),(4,.box [.keep,.keep,.keep,.list .term]),(7,.row y1 false),(8,.keep),(9,.keep)])],[],u3 qia⟩
def qHO:FI:=⟨f179,[.val y4],[y2],[(2,[(0,.list y1),(3,.keep)])],[],u1 qfh⟩
def qHq:FI:=⟨f185,[.val y4,.val .term,.fn],[y2,.bool],[(3,[(0,.list y1),(2,.keep),(4,.box [.keep,.keep,.keep,.list .term]),(8,.keep),(9,.keep),(10,.keep)])],[],u2 qI⟩
def qLI:FI:=⟨f186,[.val y1,.val .term],[y2],[],[],u2 qaa⟩
def qL8:FI:=⟨f189,[.val y4,.fn],[.bool],[],[],u1 zu⟩
def qK9:FI:=⟨f190,[.val y1],[.bool],[],[],u1 qbZ⟩
def qHj:FI:=⟨f191,[.val y5,.val .term],[.bool],[(2,[(0,.list .term),(3,.box [.keep,.keep,.keep,.list .term]),(5,.keep)])],[],u2 ql6⟩
def qK3:FI:=⟨f192,[.val .term],[.bool],[],[],u1 qbc⟩
def qJk:FI:=⟨f196,[.val y4,.fn],[y2],[(2,[(0,.list y1),(1,.keep),(7,.keep),(8,.keep)])],[],u1 zQ⟩
def elT(f:Nat):Option Ty :=
cond (Nat.blt f 83)
 (cond (Nat.blt f 61)
 (cond (Nat.blt f 46)
 (cond (Nat.beq f 22) (some .term) (none))
 (cond (Nat.blt f 48)
 (cond (Nat.beq f 46) (some (.pair y11 (.pair y2 (.pair y2 (.pair y11 (.pair .term y11)))))) (none))
 (cond (Nat.beq f 48) (some y3) (none))))
 (cond (Nat.blt f 66)
 (cond (Nat.beq f 61) (some .bool) (none))
 (cond (Nat.blt f 71)
 (cond (Nat.beq f 66) (some y2) (none))
 (cond (Nat.beq f 71) (some y3) (none)))))
 (cond (Nat.blt f 124)
 (cond (Nat.blt f 114)
 (cond (Nat.beq f 83) (some y11) (none))
 (cond (Nat.blt f 119)
 (cond (Nat.beq f 114) (some y7) (none))
 (cond (Nat.beq f 119) (some .str) (none))))
 (cond (Nat.blt f 139)
 (cond (Nat.blt f 132)
 (cond (Nat.beq f 124) (some y1) (none))
 (cond (Nat.beq f 132) (some y6) (none)))
 (cond (Nat.blt f 178)
 (cond (Nat.beq f 139) (some y1) (none))
 (cond (Nat.beq f 178) (some y5) (none)))))
def tb:Tb:=⟨tyT,elT,.node 102 (.node 63 (.node 36 (.node 17 (.node 13 (.node 11 (.node 10 (tL 3 (eP i3)) .leaf (eP i10)) (tL 12 (eS i12)) (eP i11)) (.node 15 (tL 14 (eP i14)) (tL 16 (eS i16)) (eS i15)) (eS i13)) (.node 32 (.node 28 (.node 19 (tL 18 (eP i18)) .leaf (eP i19)) (tL 31 (eP i31)) (eS i28)) (.node 34 (tL 33 (eP i33)) (tL 35 (eP i35)) (eS i34)) (eS i32)) (eS i17)) (.node 54 (.node 41 (.node 39 (.node 38 (tL 37 (eP i37)) .leaf (eS i38)) (tL 40 (eP i40)) (eP i39)) (.node 52 (tL 42 (eP i42)) (tL 53 (eP i53)) (eP i52)) (eP i41)) (.node 59 (.node 57 (.node 56 (tL 55 (eP i55)) .leaf (eS i56)) (tL 58 (eP i58)) (eP i57)) (.node 61 (tL 60 (eP i60)) (tL 62 (eP i62)) (eP i61)) (eP i59)) (eP i54)) (eP i36)) (.node 82 (.node 73 (.node 69 (.node 66 (.node 65 (tL 64 (eP i64)) .leaf (eP i65)) (tL 68 (eP i68)) (eP i66)) (.node 71 (tL 70 (eP i70)) (tL 72 (eP i72)) (eP i71)) (eP i69)) (.node 78 (.node 76 (.node 75 (tL 74 (eP i74)) .leaf (eP i75)) (tL 77 (eP i77)) (eS i76)) (.node 80 (tL 79 (eP i79)) (tL 81 (eP i81)) (eP i80)) (eS i78)) (.pure [([74],i73)])) (.node 93 (.node 87 (.node 85 (.node 84 (tL 83 (eP i83)) .leaf (eP i84)) (tL 86 (eP i86)) (eP i85)) (.node 91 (tL 88 (eS i88)) (tL 92 (eS i92)) (eS i91)) (eS i87)) (.node 98 (.node 96 (.node 95 (tL 94 (eP i94)) .leaf (eP i95)) (tL 97 (eP i97)) (.hp ⟨[],[y8],λ x=>qhD 0⟩)) (.node 100 (tL 99 (eP i99)) (tL 101 (eP qG1)) (eP qII)) (eP i98)) (eS i93)) (eP i82)) (.hx λ m=>⟨[.box [.val RD]],[.one (.val .term)],λ x=>jo m x.1⟩)) (.node 141 (.node 121 (.node 111 (.node 107 (.node 105 (.node 104 (tL 103 (eS qMe)) .leaf (eS qH8)) (tL 106 (eP qHb)) (eP qIT)) (.node 109 (.node 108 .leaf .leaf (.hx λ m=>⟨[.row .term,.clo 109 0],[.one (.row .term)],λ x=>qG m x.1⟩)) (tL 110 (eP qHv)) (eP qLD)) (.hm λ m=>⟨.term,[.clo 95 0],λ x=>qY m x.1⟩)) (.node 116 (.node 114 (.node 113 (tL 112 (eP qIV)) .leaf (eP qLE)) (tL 115 (eP qL2)) (eP qzW)) (.node 118 (tL 117 (eP qHD)) (tL 120 (eP qKY)) (.hp ⟨[.val .str,.val .str],[y2],λ x=>strings_Compare 0 x.1 x.2.1⟩)) (eP qLZ)) (eP qLz)) (.node 132 (.node 126 (.node 124 (.node 123 (tL 122 (eP qLy)) .leaf (eP qLb)) (tL 125 (eP qLx)) (eP qJq)) (.node 128 (tL 127 (eP qLn)) (tL 129 (eP qLu)) (eP qL1)) (eP qMk)) (.node 137 (.node 135 (.node 134 (tL 133 (eP qI3)) .leaf (eP qG4)) (tL 136 (eP qIi)) (eP qIk)) (.node 139 (tL 138 (eP qIc)) (tL 140 (eP qLL)) (eP qJf)) (eS qHF)) (eP qLT)) (eP qIM)) (.node 170 (.node 151 (.node 147 (.node 145 (.node 143 (tL 142 (eP qIb)) .leaf (eP qLh)) (tL 146 (eP qLr)) (eP qIu)) (.node 149 (tL 148 (eP qL0)) (tL 150 (eP qIa)) (eP qH5)) (eP qJc)) (.node 166 (.node 154 (.node 153 (tL 152 (eP qLp)) .leaf (eP qMf)) (tL 165 (eP qIB)) (eP qJa)) (.node 168 (tL 167 (eS qK2)) (.node 169 .leaf .leaf (.hs ⟨[.nil,.val y2],[.one (.row .term)],λ x=>yN 0 x.1⟩)) (.hs ⟨[.val y5],[.one (.row .term)],λ x=>zX 0 x.1⟩)) (eP qL4)) (eP qMa)) (.node 185 (.node 176 (.node 174 (.node 173 (tL 171 (eP qK7)) .leaf (eP qH6)) (tL 175 (eS qHZ)) (eP qI9)) (.node 178 (tL 177 (eP qvl)) (tL 179 (eP qHO)) (eS qJl)) (eP qJj)) (.node 190 (.node 188 (.node 187 (tL 186 (eP qLI)) .leaf (.hs ⟨[.row y1,.val y2,.val y4],[.one (.row y1)],λ x=>zq 0 x.1 x.2.1 x.2.2.1⟩)) (tL 189 (.pure [([190],qL8)])) (.hs ⟨[.row y1,.val y2,.val y2],[.one (.row y1)],λ x=>zt 0 x.1 x.2.1 x.2.2.1⟩)) (.node 192 (tL 191 (eP qHj)) (tL 196 (.pure [([190],qJk)])) (eP qK3)) (eP qK9)) (.pure [([186],qHq)])) (eS qIU)) (eP qDI)) (eP qK6)⟩
end Go.AmZ
namespace Go.AmZ
open Go Go.GxZ
set_option linter.unusedVariables false
set_option maxRecDepth 100000
theorem qu8:okS tb i12 := λ m a=>by kernel_rfl
theorem qkS:okS tb i32 := λ m a=>by kernel_rfl
theorem qyK:okP tb [] qLn := λ m a=>by kernel_rfl
def qne(m k x0 x1 x2):=tb.PL qIT 4 m k [(0,.s x0),(38,vI x1),(39,vI x2)] ⟨[],[]⟩
theorem qtS(m k):Qq m k=qne m k:=zi (M:=qne m) rfl (λ _=>by kernel_rfl) k
theorem qvg:okP tb [] qIT := λ m a=>(congrArg (λ L=>qek m L a.1) (qtS m m)).trans (by kernel_rfl)
def qow(m k x0 x1 x2 x3 x4 x5):=tb.QL i88 17 m k [(1,vI x0),(2,.ptr 0 0),(3,.ptr 1 0),(57,vT x1),(58,vI x2),(59,vI x3)] ⟨[[vI x4],[vI x5]],[]⟩
theorem qvY(m k):jz m (yb m) k=qow m k:=zi (M:=qow m) rfl (λ _=>by kernel_rfl) k
theorem qxH:okS tb i88 := λ m a=>(congrArg (λ L=>qft m (yb m) L a.1 a.2.1 a.2.2.1 a.2.2.2.1) (qvY m m)).trans (by kernel_rfl)
theorem qxO:okP tb [] i64 := λ m a=>by kernel_rfl
def qkh(m k x0 x1 x2 x3 x4 x5 x6 x7):=tb.PL i75 2 m k [(0,.s x0),(2,.ptr 0 0),(5,.sl y6 x1 1),(6,vI x2),(7,vI x3)] ⟨[[.s x4,vI x5,vI x6,vI x7]],[]⟩
theorem qq0(m k):QX m k=qkh m k:=zi (M:=qkh m) rfl (λ _=>by kernel_rfl) k
theorem qr9:okP tb [] i75 := λ m a=>(congrArg (λ L=>qcE m L a.1) (qq0 m m)).trans (by kernel_rfl)
def qlG(m k x0 x1 x2 x3 x4 x5 x6):=tb.PL i69 13 m k [(1,.ptr 0 0),(38,vT x0),(39,vI x1),(40,vI x2)] ⟨[[vI x3,.s x4,vI x5,vT x6]],[]⟩
def qlw(m k x0 x1 x2):=tb.PL i69 22 m k [(62,vT x0),(63,vI x1),(64,vI x2)] ⟨[],[]⟩
theorem qrF(m k):qQ m (qD m) k=(qlG m k,qlw m k):=zi (M := λ k=>(qlG m k,qlw m k)) rfl (λ _=>by kernel_rfl) k
theorem qtz:okP tb [] i69 := λ m a=>(congrArg (a₁ := qQ m (qD m) m) (λ L=>qdK m (qD m) L.1 L.2 a.1) (qrF m m)).trans (by kernel_rfl)
theorem qug:okP tb [] i53 := λ m a=>by kernel_rfl
theorem qk7:okS tb i92 := λ m a=>by kernel_rfl
def qhb(m k x0 x1 x2 x3 x4):=tb.QL i91 3 m k [(1,.fn 92 [.ptr 0 0,.ptr 1 0]),(10,vT x0),(11,vI x1),(12,vI x2)] ⟨[[vI x3],[.row 0 0]],[⟨.term,x4,0,0,false⟩]⟩
theorem qot(m k):jT m (zA m) k=qhb m k:=zi (M:=qhb m) rfl (λ _=>by kernel_rfl) k
theorem qoN:okS tb i91 := λ m a=>(congrArg (λ L=>qaY m (zA m) L a.1 a.2.1 a.2.2.1) (qot m m)).trans (by kernel_rfl)
theorem qzk:okP tb [] qLZ := λ m a=>by kernel_rfl
def qqh(m k x0 x1 x2 x3):=tb.PL qHD 3 m k [(3,vI x0),(7,vT x1),(8,vI x2),(9,vI x3)] ⟨[],[]⟩
theorem qxu(m k):qbG m (Qb m) k=qqh m k:=zi (M:=qqh m) rfl (λ _=>by kernel_rfl) k
theorem qze:okP tb [] qHD := λ m a=>(congrArg (λ L=>qgD m (Qb m) L a.1) (qxu m m)).trans (by kernel_rfl)
def qlW(m k x0 x1 x2 x3 x4 x5 x6 x7 x8 x9):=tb.PL i95 11 m k [(2,.ptr 0 0),(3,.ptr 1 0),(5,vI x0),(6,vI x1)] ⟨[[vI x2,.s x3,vI x4,vT x5],[vI x6,.s x7,vI x8,vT x9]],[]⟩
theorem qrV(m k):jW m (qA m) k=qlW m k:=zi (M:=qlW m) rfl (λ _=>by kernel_rfl) k
theorem qs9:okP tb [] i95 := λ m a=>(congrArg (λ L=>qdD m (qA m) L a.1 a.2.1) (qrV m m)).trans (by kernel_rfl)
theorem qq6:okP tb [] qLD := λ m a=>by kernel_rfl
def qov(m k x0 x1 x2 x3 x4 x5 x6 x7 x8 x9 x10):=tb.PL qHv 4 m k [(1,.ptr 0 0),(2,.ptr 1 0),(9,vT x0),(10,vI x1),(11,vI x2)] ⟨[[vI x3,.s x4,vI x5,.row 0 0],[vI x6,.s x7,vI x8,.row 1 0]],[⟨.term,x9,0,0,false⟩,⟨.term,x10,0,0,false⟩]⟩
theorem qvP(m k):qaH m (jp m) k=qov m k:=zi (M:=qov m) rfl (λ _=>by kernel_rfl) k
theorem qxJ:okP tb [] qHv := λ m a=>(congrArg (λ L=>qfy m (jp m) L a.1) (qvP m m)).trans (by kernel_rfl)
def qlU(m k x0 x1 x2):=tb.QL i93 4 m k [(0,.row 0 0),(9,vI x0),(10,vI x1)] ⟨[],[⟨.term,x2,0,0,false⟩]⟩
theorem qsc(m k):JE m k=qlU m k:=zi (M:=qlU m) rfl (λ _=>by kernel_rfl) k
theorem qtZ:okS tb i93 := λ m a=>(congrArg (λ L=>qdN m L a.1) (qsc m m)).trans (by kernel_rfl)
theorem qvT:okP tb [] i70 := λ m a=>by kernel_rfl
theorem qzV:okP tb [] i54 := λ m a=>by kernel_rfl
theorem qvp:okP tb [] i72 := λ m a=>by kernel_rfl
theorem qAN:okP tb [] qLT := λ m a=>by kernel_rfl
theorem qrd:okP tb [] qLz := λ m a=>by kernel_rfl
def qae(m k x0 x1 x2 x3 x4):=tb.PL qDI 3 m k [(0,.sl y5 x0 1),(3,vI x1),(9,.sl y5 x2 1),(10,vI x3),(11,vI x4)] ⟨[],[]⟩
def qab(m k x0 x1 x2 x3):=tb.PL qDI 11 m k [(6,.row 0 0),(25,.sl y5 x0 1),(26,vI x1),(27,vI x2)] ⟨[],[⟨.term,x3,0,0,false⟩]⟩
theorem qev(m k):qm m k=(qae m k,qab m k):=zi (M := λ k=>(qae m k,qab m k)) rfl (λ _=>by kernel_rfl) k
theorem qe6:okP tb [] qDI := λ m a=>(congrArg (a₁ := qm m m) (λ L=>yS m L.1 L.2 a.1) (qev m m)).trans (by kernel_rfl)
def qpC(m k x0 x1 x2):=tb.PL qI3 4 m k [(14,vT x0),(15,vI x1),(16,vI x2)] ⟨[],[]⟩
theorem qyb(m k):qbD m k=qpC m k:=zi (M:=qpC m) rfl (λ _=>by kernel_rfl) k
theorem qzj:okP tb [] qI3 := λ m a=>(congrArg (λ L=>qgL m L a.1 a.2.1) (qyb m m)).trans (by kernel_rfl)
def qri(m k x0 x1 x2):=tb.PL qG4 2 m k [(0,vT x0),(1,vT x1),(5,.row 0 0)] ⟨[],[⟨.term,x2,0,0,false⟩]⟩
theorem qzU(m k):qcz m k=qri m k:=zi (M:=qri m) rfl (λ _=>by kernel_rfl) k
theorem qBT:okP tb [] qG4 := λ m a=>(congrArg (λ L=>qhR m L a.1 a.2.1) (qzU m m)).trans (by kernel_rfl)
def qlz(m k x0 x1 x2 x3):=tb.PL qIk 6 m k [(3,vT x0),(31,vT x1),(32,vI x2),(33,vI x3)] ⟨[],[]⟩
theorem qss(m k):QB m (yy m) k=qlz m k:=zi (M:=qlz m) rfl (λ _=>by kernel_rfl) k
theorem qti:okP tb [] qIk := λ m a=>(congrArg (λ L=>qdA m (yy m) L a.1) (qss m m)).trans (by kernel_rfl)
def ql3(m k x0 x1 x2 x3 x4 x5 x6 x7 x8 x9 x10 x11 x12 x13 x14):=tb.PL qIB 4 m k [(5,.ptr 0 0),(6,.ptr 1 0),(8,.ptr 2 0),(9,.ptr 2 0),(14,.sl y2 x0 1),(15,vI x1),(16,vI x2)] ⟨[[vI x3,.s x4,vI x5,vT x6],[vI x7,.s x8,vI x9,.row 0 0],[vI x10,.s x11,vI x12,vT x13]],[⟨.term,x14,0,0,false⟩]⟩
theorem qsx(m k):qau m k=ql3 m k:=zi (M:=ql3 m) rfl (λ _=>by kernel_rfl) k
theorem qtX:okP tb [] qIB := λ m a=>(congrArg (λ L=>qdB m L a.1 a.2.1 a.2.2.1) (qsx m m)).trans (by kernel_rfl)
def qtw(m k x0 x1 x2 x3):=tb.PL qIi 3 m k [(3,.row 0 0),(9,vT x0),(10,vI x1),(11,vI x2)] ⟨[],[⟨.term,x3,0,0,false⟩]⟩
theorem qBp(m k):qed m (JY m) k=qtw m k:=zi (M:=qtw m) rfl (λ _=>by kernel_rfl) k
theorem qDu:okP tb [] qIi := λ m a=>(congrArg (λ L=>qjk m (JY m) L a.1) (qBp m m)).trans (by kernel_rfl)
def qtL(m k x0 x1 x2 x3 x4 x5 x6 x7):=tb.PL qIV 6 m k [(2,.ptr 0 0),(5,vT x0),(15,vT x1),(16,vI x2),(17,vI x3)] ⟨[[vI x4,.s x5,vI x6,.row 0 0]],[⟨.term,x7,0,0,true⟩]⟩
theorem qBD(m k):qdR m k=qtL m k:=zi (M:=qtL m) rfl (λ _=>by kernel_rfl) k
theorem qEb:okP tb [] qIV := λ m a=>(congrArg (λ L=>qjv m L a.1) (qBD m m)).trans (by kernel_rfl)
theorem qqi:okP tb [] qL4 := λ m a=>by kernel_rfl
def qiV(m k x0 x1 x2 x3 x4 x5 x6 x7 x8 x9):=tb.PL qJf 3 m k [(1,.ptr 0 0),(2,.ptr 1 0),(10,.row 0 0),(11,vI x0),(12,vI x1)] ⟨[[vI x2,.s x3,vI x4,.row 0 0],[vI x5,.s x6,vI x7,.row 1 0]],[⟨.term,x8,0,0,false⟩,⟨.term,x9,0,0,false⟩]⟩
theorem qpc(m k):Qv m (zo m) k=qiV m k:=zi (M:=qiV m) rfl (λ _=>by kernel_rfl) k
theorem qq9:okP tb [] qJf := λ m a=>(congrArg (λ L=>qbY m (zo m) L a.1) (qpc m m)).trans (by kernel_rfl)
theorem qor:okP tb [] qLI := λ m a=>by kernel_rfl
def yn(m k x0 x1 x2 x3 x4 x5 x6 x7):=tb.PL qHq 3 m k [(0,.sl y1 x0 1),(2,.fn 186 []),(4,.ptr 0 0),(8,vI x1),(9,vI x2),(10,vI x3)] ⟨[[vI x4,.s x5,vI x6,vT x7]],[]⟩
theorem Qy(m k):qn m k=yn m k:=zi (M:=yn m) rfl (λ _=>by kernel_rfl) k
theorem QP:okP tb [186] qHq := λ m a=>(congrArg (λ L=>qE m L a.1 a.2.1) (Qy m m)).trans (by kernel_rfl)
theorem qp0:okS tb qK2 := λ m a=>by kernel_rfl
def qha(m k x0 x1 x2 x3 x4):=tb.QL qHF 12 m k [(0,.row 0 0),(2,vI x0),(52,vT x1),(53,vI x2),(54,vI x3)] ⟨[],[⟨y1,x4,0,0,false⟩]⟩
theorem qob(m k):ji m (zl m) k=qha m k:=zi (M:=qha m) rfl (λ _=>by kernel_rfl) k
theorem qoR:okS tb qHF := λ m a=>(congrArg (λ L=>qaX m (zl m) L a.1 a.2.1 a.2.2.1) (qob m m)).trans (by kernel_rfl)
theorem qvb:okP tb [] qLE := λ m a=>by kernel_rfl
def qiS(m k x0 x1 x2 x3):=tb.PL qIc 4 m k [(0,.sl y1 x0 1),(9,.sl y1 x1 1),(10,vI x2),(11,vI x3)] ⟨[],[]⟩
theorem qpy(m k):jP m k=qiS m k:=zi (M:=qiS m) rfl (λ _=>by kernel_rfl) k
theorem qq4:okP tb [] qIc := λ m a=>(congrArg (λ L=>qbV m L a.1) (qpy m m)).trans (by kernel_rfl)
theorem qs0:okP tb [] qLL := λ m a=>by kernel_rfl
def qkx(m k x0 x1 x2 x3 x4 x5 x6 x7 x8):=tb.PL qzW 6 m k [(2,.ptr 0 0),(5,.row 1 0),(6,.row 2 0),(18,.sl y1 x0 1),(19,vI x1),(20,vI x2)] ⟨[[vI x3,.s x4,vI x5,.row 0 0]],[⟨.term,x6,0,0,false⟩,⟨.term,x7,0,0,false⟩,⟨.term,x8,0,0,false⟩]⟩
def qjS(m k x0 x1 x2 x3 x4 x5 x6 x7 x8 x9 x10 x11 x12 x13 x14 x15):=tb.PL qzW 11 m k [(2,.ptr 0 0),(5,.row 1 0),(6,.row 2 0),(8,.ptr 1 0),(18,.sl y1 x0 1),(19,vI x1),(20,vI x2),(34,vI x3),(35,vI x4)] ⟨[[vI x5,.s x6,vI x7,.row 0 0],[vI x8,.s x9,vI x10,vT x11,vI x12]],[⟨.term,x13,0,0,false⟩,⟨.term,x14,0,0,false⟩,⟨.term,x15,0,0,false⟩]⟩
def qjT(m k x0 x1 x2 x3 x4 x5 x6 x7 x8 x9 x10 x11 x12 x13 x14 x15):=tb.PL qzW 15 m k [(2,.ptr 0 0),(5,.row 1 0),(6,.row 2 0),(8,.ptr 1 0),(18,.sl y1 x0 1),(19,vI x1),(20,vI x2),(46,vI x3),(47,vI x4)] ⟨[[vI x5,.s x6,vI x7,.row 0 0],[vI x8,.s x9,vI x10,vT x11,vI x12]],[⟨.term,x13,0,0,false⟩,⟨.term,x14,0,0,false⟩,⟨.term,x15,0,0,false⟩]⟩
theorem qrh(m k):qz m k=(qkx m k,qjS m k,qjT m k):=zi (M := λ k=>(qkx m k,qjS m k,qjT m k)) rfl (λ _=>by kernel_rfl) k
theorem qsj:okP tb [] qzW := λ m a=>(congrArg (a₁ := qz m m) (λ L=>qcI m L.1 L.2.1 L.2.2 a.1) (qrh m m)).trans (by kernel_rfl)
def qik(m k x0 x1 x2 x3):=tb.QL qIU 3 m k [(3,.row 0 0),(6,.sl y1 x0 1),(7,vI x1),(8,vI x2)] ⟨[],[⟨y1,x3,0,0,false⟩]⟩
theorem qoU(m k):Qa m k=qik m k:=zi (M:=qik m) rfl (λ _=>by kernel_rfl) k
theorem qoZ:okS tb qIU := λ m a=>(congrArg (λ L=>qbx m L a.1) (qoU m m)).trans (by kernel_rfl)
theorem qnY:okP tb [] qK9 := λ m a=>by kernel_rfl
def jY(m k x0 x1 x2):=tb.PL qJk 2 m k [(0,.sl y1 x0 1),(1,.fn 190 []),(7,vI x1),(8,vI x2)] ⟨[],[]⟩
theorem qa2(m k):qB m k=jY m k:=zi (M:=jY m) rfl (λ _=>by kernel_rfl) k
theorem qa6:okP tb [190] qJk := λ m a=>(congrArg (λ L=>zx m L a.1) (qa2 m m)).trans (by kernel_rfl)
theorem qav:okP tb [190] qL8 := λ m a=>by kernel_rfl
theorem qpA:okP tb [] qK7 := λ m a=>by kernel_rfl
def qls(m k x0 x1 x2 x3):=tb.PL qIb 9 m k [(8,.row 0 0),(23,.sl y1 x0 1),(24,vI x1),(25,vI x2)] ⟨[],[⟨y1,x3,0,0,false⟩]⟩
theorem qsX(m k):Jz m k=qls m k:=zi (M:=qls m) rfl (λ _=>by kernel_rfl) k
theorem quW:okP tb [] qIb := λ m a=>(congrArg (λ L=>qdv m L a.1 a.2.1) (qsX m m)).trans (by kernel_rfl)
theorem qxI:okP tb [] qLh := λ m a=>by kernel_rfl
theorem qtQ:okP tb [] qL2 := λ m a=>by kernel_rfl
def qj0(m k x0 x1 x2 x3 x4 x5 x6 x7 x8 x9 x10 x11 x12 x13 x14):=tb.PL i94 5 m k [(1,.ptr 0 0),(2,.ptr 1 0),(4,.ptr 2 0),(19,vT x0),(20,vI x1),(21,vI x2)] ⟨[[vI x3,.s x4,vI x5,vT x6],[vI x7,.s x8,vI x9,.row 0 0],[vI x10,.s x11,vI x12,.row 1 0]],[⟨.term,x13,0,0,false⟩,⟨.term,x14,0,0,false⟩]⟩
theorem qre(m k):Q5 m (yw m) k=qj0 m k:=zi (M:=qj0 m) rfl (λ _=>by kernel_rfl) k
theorem qr8:okP tb [] i94 := λ m a=>(congrArg (λ L=>qcN m (yw m) L a.1) (qre m m)).trans (by kernel_rfl)
theorem qsz:okP tb [] i71 := λ m a=>by kernel_rfl
theorem qq7:okP tb [] i74 := λ m a=>by kernel_rfl
def qf3(m k x0 x1 x2):=tb.PL i73 4 m k [(1,.fn 74 []),(18,vT x0),(19,vI x1),(20,vI x2)] ⟨[],[]⟩
theorem qmy(m k):yC m (qZ m) k=qf3 m k:=zi (M:=qf3 m) rfl (λ _=>by kernel_rfl) k
theorem qmQ:okP tb [74] i73 := λ m a=>(congrArg (λ L=>J1 m (qZ m) L a.1) (qmy m m)).trans (by kernel_rfl)
theorem qtN:okP tb [] i55 := λ m a=>by kernel_rfl
theorem qjR:okS tb i78 := λ m a=>by kernel_rfl
def yM(m k x0 x1 x2 x3 x4 x5 x6):=tb.QL i76 2 m k [(0,.sl y7 x0 1),(1,.fn 78 [.ptr 0 0]),(7,vI x1),(8,vI x2)] ⟨[[vI x3,.s x4,vI x5,vT x6]],[]⟩
theorem Q9(m k):qr m k=yM m k:=zi (M:=yM m) rfl (λ _=>by kernel_rfl) k
theorem Jg:okS tb i76 := λ m a=>(congrArg (λ L=>qM m L a.1 a.2.1) (Q9 m m)).trans (by kernel_rfl)
theorem qoT:okP tb [] i77 := λ m a=>by kernel_rfl
theorem qiL:okP tb [] i79 := λ m a=>by kernel_rfl
def qiQ(m k x0 x1 x2 x3):=tb.QL i56 8 m k [(0,.row 0 0),(46,vT x0),(47,vI x1),(48,vI x2)] ⟨[],[⟨y11,x3,0,0,false⟩]⟩
theorem qo5(m k):jN m (zR m) k=qiQ m k:=zi (M:=qiQ m) rfl (λ _=>by kernel_rfl) k
theorem qrf:okS tb i56 := λ m a=>(congrArg (λ L=>qb5 m (zR m) L a.1 a.2.1) (qo5 m m)).trans (by kernel_rfl)
theorem qpr:okP tb [] i33 := λ m a=>by kernel_rfl
theorem qmc:okS tb i34 := λ m a=>by kernel_rfl
def qoH(m k x0 x1 x2 x3 x4):=tb.PL i57 3 m k [(0,.s x0),(3,.i .u32 x1),(4,.i .u32 x2),(7,vI x3),(8,vI x4)] ⟨[],[]⟩
theorem qvW(m k):qaJ m k=qoH m k:=zi (M:=qoH m) rfl (λ _=>by kernel_rfl) k
theorem qxW:okP tb [] i57 := λ m a=>(congrArg (λ L=>qfi m L a.1) (qvW m m)).trans (by kernel_rfl)
theorem qAV:okP tb [] i35 := λ m a=>by kernel_rfl
theorem qk1:okS tb i13 := λ m a=>by kernel_rfl
theorem qiP:okS tb i38 := λ m a=>by kernel_rfl
theorem qkY:okS tb i16 := λ m a=>by kernel_rfl
theorem qAf:okP tb [] i39 := λ m a=>by kernel_rfl
theorem qk2:okS tb qMe := λ m a=>by kernel_rfl
def qeV(m k x0 x1 x2 x3 x4 x5):=tb.QL qH8 4 m k [(0,.ptr 0 0),(4,vI x0),(14,vI x1),(15,vI x2)] ⟨[[.s x3,vI x4,.b x5]],[]⟩
theorem qkR(m k):yc m k=qeV m k:=zi (M:=qeV m) rfl (λ _=>by kernel_rfl) k
theorem qk3:okS tb qH8 := λ m a=>(congrArg (λ L=>Jo m L a.1) (qkR m m)).trans (by kernel_rfl)
theorem qk5:okS tb i87 := λ m a=>by kernel_rfl
theorem qo4:okP tb [] i40 := λ m a=>by kernel_rfl
theorem qiK:okS tb i17 := λ m a=>by kernel_rfl
theorem qtn:okP tb [] i65 := λ m a=>by kernel_rfl
def qoG(m k x0 x1 x2 x3 x4 x5):=tb.PL i66 3 m k [(1,.ptr 0 0),(3,vI x0),(4,vI x1)] ⟨[[vI x2,.s x3,vI x4,vT x5]],[]⟩
theorem qvG(m k):qaD m (jn m) k=qoG m k:=zi (M:=qoG m) rfl (λ _=>by kernel_rfl) k
theorem qxw:okP tb [] i66 := λ m a=>(congrArg (λ L=>qfv m (jn m) L a.1) (qvG m m)).trans (by kernel_rfl)
def qkd(m k x0 x1 x2 x3 x4 x5 x6 x7 x8):=tb.PL i41 18 m k [(2,.ptr 0 0),(3,.ptr 1 0),(9,vI x0)] ⟨[[vI x1,.s x2,vI x3,vT x4],[vI x5,.s x6,vI x7,vT x8]],[]⟩
theorem qrc(m k):QY m (zD m) k=qkd m k:=zi (M:=qkd m) rfl (λ _=>by kernel_rfl) k
theorem qrI:okP tb [] i41 := λ m a=>(congrArg (λ L=>qcT m (zD m) L a.1 a.2.1) (qrc m m)).trans (by kernel_rfl)
theorem qx3:okP tb [] i18 := λ m a=>by kernel_rfl
theorem qjC:okS tb i28 := λ m a=>by kernel_rfl
theorem qyc:okP tb [] i52 := λ m a=>by kernel_rfl
theorem qv3:okP tb [] i31 := λ m a=>by kernel_rfl
theorem qvh:okP tb [] i10 := λ m a=>by kernel_rfl
def qlN(m k x0 x1 x2 x3 x4 x5):=tb.PL i42 5 m k [(1,vI x0),(2,.ptr 0 0),(5,vI x1)] ⟨[[vI x2,.s x3,vI x4,vT x5]],[]⟩
theorem qr7(m k):JF m (yW m) k=qlN m k:=zi (M:=qlN m) rfl (λ _=>by kernel_rfl) k
theorem qs4:okP tb [] i42 := λ m a=>(congrArg (λ L=>qdI m (yW m) L a.1 a.2.1) (qr7 m m)).trans (by kernel_rfl)
def qpF(m k x0 x1 x2):=tb.PL i19 4 m k [(0,vT x0),(2,vI x1),(7,vI x2)] ⟨[],[]⟩
theorem qx2(m k):qbN m k=qpF m k:=zi (M:=qpF m) rfl (λ _=>by kernel_rfl) k
theorem qy0:okP tb [] i19 := λ m a=>(congrArg (λ L=>qgx m L a.1 a.2.1 a.2.2.1) (qx2 m m)).trans (by kernel_rfl)
theorem qAL:okP tb [] i11 := λ m a=>by kernel_rfl
def qm3(m k x0 x1 x2 x3 x4 x5):=tb.PL i68 3 m k [(1,.ptr 0 0),(3,vI x0),(4,vI x1)] ⟨[[vI x2,.s x3,vI x4,vT x5]],[]⟩
theorem qtm(m k):J3 m (jB m) k=qm3 m k:=zi (M:=qm3 m) rfl (λ _=>by kernel_rfl) k
theorem qwk:okP tb [] i68 := λ m a=>(congrArg (λ L=>qeA m (jB m) L a.1) (qtm m m)).trans (by kernel_rfl)
theorem qtr:okP tb [] qL1 := λ m a=>by kernel_rfl
theorem qwa:okP tb [] qLu := λ m a=>by kernel_rfl
def qla(m k x0 x1):=tb.PL qHb 4 m k [(0,.s x0),(3,vI x1)] ⟨[],[]⟩
theorem qr1(m k):Jv m k=qla m k:=zi (M:=qla m) rfl (λ _=>by kernel_rfl) k
theorem quO:okP tb [] qHb := λ m a=>(congrArg (λ L=>qdE m L a.1) (qr1 m m)).trans (by kernel_rfl)
theorem qyh:okP tb [] qKY := λ m a=>by kernel_rfl
def qmI(m k x0 x1 x2 x3 x4):=tb.PL i97 5 m k [(1,.ptr 0 0),(4,vI x0)] ⟨[[vI x1,.s x2,vI x3,vT x4]],[]⟩
theorem qt6(m k):J4 m (jC m) k=qmI m k:=zi (M:=qmI m) rfl (λ _=>by kernel_rfl) k
theorem qvH:okP tb [] i97 := λ m a=>(congrArg (λ L=>qem m (jC m) L a.1) (qt6 m m)).trans (by kernel_rfl)
theorem qvo:okP tb [] i80 := λ m a=>by kernel_rfl
theorem qsN:okP tb [] qK6 := λ m a=>by kernel_rfl
def qoF(m k x0 x1 x2):=tb.PL i85 3 m k [(0,.s x0),(3,.sl y6 x1 1),(4,vI x2)] ⟨[],[]⟩
theorem qv1(m k):qaS m k=qoF m k:=zi (M:=qoF m) rfl (λ _=>by kernel_rfl) k
theorem qxv:okP tb [] i85 := λ m a=>(congrArg (λ L=>qfk m L a.1) (qv1 m m)).trans (by kernel_rfl)
def qoA(m k x0 x1 x2 x3 x4 x5):=tb.PL i98 3 m k [(1,.ptr 0 0),(3,.sl y6 x0 1),(4,vI x1)] ⟨[[vI x2,.s x3,vI x4,vT x5]],[]⟩
theorem qu7(m k):qaO m k=qoA m k:=zi (M:=qoA m) rfl (λ _=>by kernel_rfl) k
theorem qxE:okP tb [] i98 := λ m a=>(congrArg (λ L=>qfD m L a.1) (qu7 m m)).trans (by kernel_rfl)
def qld(m k x0 x1 x2 x3 x4):=tb.PL i99 4 m k [(1,.ptr 0 0),(3,vI x0)] ⟨[[vI x1,.s x2,vI x3,vT x4]],[]⟩
theorem qsm(m k):Jx m k=qld m k:=zi (M:=qld m) rfl (λ _=>by kernel_rfl) k
theorem qux:okP tb [] i99 := λ m a=>(congrArg (λ L=>qdC m L a.1) (qsm m m)).trans (by kernel_rfl)
def qm0(m k x0 x1 x2 x3 x4):=tb.PL i81 11 m k [(1,.ptr 0 0),(4,vI x0)] ⟨[[vI x1,.s x2,vI x3,vT x4]],[]⟩
theorem qtT(m k):Je m (jd m) k=qm0 m k:=zi (M:=qm0 m) rfl (λ _=>by kernel_rfl) k
theorem qwb:okP tb [] i81 := λ m a=>(congrArg (λ L=>qeS m (jd m) L a.1) (qtT m m)).trans (by kernel_rfl)
theorem qv7:okP tb [] i58 := λ m a=>by kernel_rfl
def qpd(m k x0 x1 x2 x3 x4 x5):=tb.PL i84 3 m k [(1,.ptr 0 0),(3,.row 0 0),(4,vI x0)] ⟨[[vI x1,.s x2,vI x3,vT x4]],[⟨.term,x5,0,0,true⟩]⟩
theorem qxX(m k):qbM m (Qc m) k=qpd m k:=zi (M:=qpd m) rfl (λ _=>by kernel_rfl) k
theorem qzE:okP tb [] i84 := λ m a=>(congrArg (λ L=>qg4 m (Qc m) L a.1) (qxX m m)).trans (by kernel_rfl)
def qpZ(m k x0 x1 x2 x3 x4 x5 x6 x7):=tb.PL qIu 4 m k [(0,vT x0),(3,.ptr 0 0),(5,.row 0 0),(6,.b x1),(7,vI x2)] ⟨[[vI x3,.s x4,vI x5,vT x6]],[⟨.term,x7,0,0,false⟩]⟩
theorem qyi(m k):qbK m k=qpZ m k:=zi (M:=qpZ m) rfl (λ _=>by kernel_rfl) k
theorem qyW:okP tb [] qIu := λ m a=>(congrArg (λ L=>qgj m L a.1 a.2.1) (qyi m m)).trans (by kernel_rfl)
def qpk(m k x0 x1 x2):=tb.PL qIM 3 m k [(0,vT x0),(3,vT x1),(4,vI x2)] ⟨[],[]⟩
theorem qyg(m k):qbH m k=qpk m k:=zi (M:=qpk m) rfl (λ _=>by kernel_rfl) k
theorem qA2:okP tb [] qIM := λ m a=>(congrArg (λ L=>qgQ m L a.1) (qyg m m)).trans (by kernel_rfl)
def qoD(m k x0 x1 x2 x3):=tb.PL qII 4 m k [(1,vI x0),(5,.row 0 0),(6,vT x1),(7,vI x2)] ⟨[],[⟨.term,x3,0,0,false⟩]⟩
theorem qvk(m k):qax m k=qoD m k:=zi (M:=qoD m) rfl (λ _=>by kernel_rfl) k
theorem qxz:okP tb [] qII := λ m a=>(congrArg (λ L=>qfr m L a.1 a.2.1) (qvk m m)).trans (by kernel_rfl)
theorem qx5:okP tb [] i82 := λ m a=>by kernel_rfl
theorem quR:okP tb [] i59 := λ m a=>by kernel_rfl
theorem qyH:okP tb [] qLy := λ m a=>by kernel_rfl
theorem qBH:okP tb [] qLr := λ m a=>by kernel_rfl
theorem qrY:okP tb [] qLb := λ m a=>by kernel_rfl
def qmN(m k x0 x1 x2 x3 x4 x5):=tb.PL qJc 4 m k [(0,vT x0),(3,.ptr 0 0),(5,vI x1)] ⟨[[vI x2,.s x3,vI x4,vT x5]],[]⟩
theorem qts(m k):J8 m k=qmN m k:=zi (M:=qmN m) rfl (λ _=>by kernel_rfl) k
theorem qvI:okP tb [] qJc := λ m a=>(congrArg (λ L=>qeN m L a.1 a.2.1) (qts m m)).trans (by kernel_rfl)
theorem qxN:okP tb [] qL0 := λ m a=>by kernel_rfl
def qph(m k x0 x1 x2 x3 x4 x5):=tb.PL qHj 2 m k [(0,vT x0),(3,.ptr 0 0),(5,vI x1)] ⟨[[vI x2,.s x3,vI x4,vT x5]],[]⟩
theorem qxA(m k):qbJ m k=qph m k:=zi (M:=qph m) rfl (λ _=>by kernel_rfl) k
theorem qyJ:okP tb [] qHj := λ m a=>(congrArg (λ L=>qgl m L a.1 a.2.1) (qxA m m)).trans (by kernel_rfl)
def qlp(m k x0 x1 x2 x3 x4 x5 x6):=tb.PL qH6 5 m k [(0,vT x0),(3,.ptr 0 0),(5,.row 0 0),(6,vI x1)] ⟨[[vI x2,.s x3,vI x4,vT x5]],[⟨.term,x6,0,0,false⟩]⟩
theorem qsQ(m k):JC m k=qlp m k:=zi (M:=qlp m) rfl (λ _=>by kernel_rfl) k
theorem quk:okP tb [] qH6 := λ m a=>(congrArg (λ L=>qdp m L a.1 a.2.1) (qsQ m m)).trans (by kernel_rfl)
def qoE(m k x0 x1 x2):=tb.PL qH5 3 m k [(1,vT x0),(5,vT x1),(6,vI x2)] ⟨[],[]⟩
theorem qwf(m k):JU m k=qoE m k:=zi (M:=qoE m) rfl (λ _=>by kernel_rfl) k
theorem qxZ:okP tb [] qH5 := λ m a=>(congrArg (λ L=>qfx m L a.1 a.2.1) (qwf m m)).trans (by kernel_rfl)
def qi4(m k x0 x1 x2 x3 x4 x5):=tb.PL qIa 7 m k [(1,.ptr 0 0),(3,vT x0),(4,vI x1)] ⟨[[vI x2,.s x3,vI x4,vT x5]],[]⟩
theorem qpX(m k):jL m (zW m) k=qi4 m k:=zi (M:=qi4 m) rfl (λ _=>by kernel_rfl) k
theorem qq2:okP tb [] qIa := λ m a=>(congrArg (λ L=>qbU m (zW m) L a.1) (qpX m m)).trans (by kernel_rfl)
theorem qxV:okP tb [] qMa := λ m a=>by kernel_rfl
def qo0(m k x0 x1 x2 x3 x4 x5 x6):=tb.PL qJq 6 m k [(0,vT x0),(2,.ptr 0 0),(5,vT x1),(6,vI x2)] ⟨[[vI x3,.s x4,vI x5,.row 0 0]],[⟨.term,x6,0,0,true⟩]⟩
theorem qxD(m k):qbP m k=qo0 m k:=zi (M:=qo0 m) rfl (λ _=>by kernel_rfl) k
theorem qy3:okP tb [] qJq := λ m a=>(congrArg (λ L=>qg3 m L a.1) (qxD m m)).trans (by kernel_rfl)
theorem qsC:okP tb [] qK3 := λ m a=>by kernel_rfl
def qm1(m k x0 x1 x2 x3 x4 x5):=tb.PL qI9 7 m k [(1,.ptr 0 0),(3,vI x0),(4,vI x1)] ⟨[[vI x2,.s x3,vI x4,vT x5]],[]⟩
theorem quf(m k):Jb m (je m) k=qm1 m k:=zi (M:=qm1 m) rfl (λ _=>by kernel_rfl) k
theorem qwg:okP tb [] qI9 := λ m a=>(congrArg (λ L=>qeD m (je m) L a.1) (quf m m)).trans (by kernel_rfl)
def qql(m k x0 x1 x2 x3 x4 x5 x6 x7 x8):=tb.QL qJl 4 m k [(0,.row 0 0),(2,vI x0),(4,.ptr 0 0),(7,.row 1 0),(8,.b x1),(9,vI x2)] ⟨[[vI x3,.s x4,vI x5,vT x6]],[⟨y1,x7,0,0,false⟩,⟨y1,x8,0,0,false⟩]⟩
theorem qx4(m k):JG m k=qql m k:=zi (M:=qql m) rfl (λ _=>by kernel_rfl) k
theorem qA8:okS tb qJl := λ m a=>(congrArg (λ L=>qgS m L a.1 a.2.1 a.2.2.1) (qx4 m m)).trans (by kernel_rfl)
def qjY(m k x0 x1 x2 x3 x4 x5 x6):=tb.QL qHZ 6 m k [(0,.row 0 0),(2,vI x0),(4,.ptr 0 0),(7,vI x1)] ⟨[[vI x2,.s x3,vI x4,vT x5]],[⟨y1,x6,0,0,false⟩]⟩
theorem qqY(m k):Qd m (yg m) k=qjY m k:=zi (M:=qjY m) rfl (λ _=>by kernel_rfl) k
theorem qr3:okS tb qHZ := λ m a=>(congrArg (λ L=>qcL m (yg m) L a.1 a.2.1 a.2.2.1) (qqY m m)).trans (by kernel_rfl)
theorem qBJ:okP tb [] qLp := λ m a=>by kernel_rfl
def qnb(m k x0 x1):=tb.PL qJj 4 m k [(0,.sl y1 x0 1),(3,vI x1)] ⟨[],[]⟩
theorem quS(m k):Jd m k=qnb m k:=zi (M:=qnb m) rfl (λ _=>by kernel_rfl) k
theorem qvF:okP tb [] qJj := λ m a=>(congrArg (λ L=>qeO m L a.1) (quS m m)).trans (by kernel_rfl)
def qiZ(m k x0 x1 x2):=tb.PL qvl 3 m k [(0,.sl y1 x0 1),(3,.row 0 0),(4,vI x1)] ⟨[],[⟨.term,x2,0,0,false⟩]⟩
def qi1(m k x0 x1 x2 x3):=tb.PL qvl 6 m k [(0,.sl y1 x0 1),(3,.row 0 0),(4,vI x1),(5,vI x2)] ⟨[],[⟨.term,x3,0,0,false⟩]⟩
def qiU(m k x0 x1 x2):=tb.PL qvl 10 m k [(0,.sl y1 x0 1),(3,.row 0 0),(6,vI x1)] ⟨[],[⟨.term,x2,0,0,false⟩]⟩
def qi0(m k x0 x1 x2 x3):=tb.PL qvl 13 m k [(0,.sl y1 x0 1),(3,.row 0 0),(6,vI x1),(7,vI x2)] ⟨[],[⟨.term,x3,0,0,false⟩]⟩
theorem qqf(m k):ql m k=(qiZ m k,qi1 m k,qiU m k,qi0 m k):=zi (M := λ k=>(qiZ m k,qi1 m k,qiU m k,qi0 m k)) rfl (λ _=>by kernel_rfl) k
theorem qrg:okP tb [] qvl := λ m a=>(congrArg (a₁ := ql m m) (λ L=>qb2 m L.1 L.2.1 L.2.2.1 L.2.2.2 a.1) (qqf m m)).trans (by kernel_rfl)
theorem qxM:okP tb [] qMf := λ m a=>by kernel_rfl
theorem qsd:okP tb [] qLx := λ m a=>by kernel_rfl
def qke(m k x0 x1):=tb.PL qHO 2 m k [(0,.sl y1 x0 1),(3,vI x1)] ⟨[],[]⟩
theorem qq8(m k):QZ m k=qke m k:=zi (M:=qke m) rfl (λ _=>by kernel_rfl) k
theorem qsp:okP tb [] qHO := λ m a=>(congrArg (λ L=>qcK m L a.1) (qq8 m m)).trans (by kernel_rfl)
def qpv(m k x0 x1 x2):=tb.PL qJa 9 m k [(1,.sl y1 x0 1),(8,.row 0 0),(9,vI x1)] ⟨[],[⟨y1,x2,0,0,false⟩]⟩
theorem qxF(m k):qas m k=qpv m k:=zi (M:=qpv m) rfl (λ _=>by kernel_rfl) k
theorem qzz:okP tb [] qJa := λ m a=>(congrArg (λ L=>qg2 m L a.1 a.2.1) (qxF m m)).trans (by kernel_rfl)
theorem qvz:okP tb [] qMk := λ m a=>by kernel_rfl
def qlu(m k x0 x1 x2 x3 x4 x5 x6 x7 x8 x9):=tb.PL qG1 5 m k [(1,.ptr 0 0),(2,.ptr 1 0),(4,.row 1 0),(5,vI x0)] ⟨[[vI x1,.s x2,vI x3,vT x4],[vI x5,.s x6,vI x7,.row 0 0]],[⟨.term,x8,0,0,false⟩,⟨.term,x9,0,0,false⟩]⟩
theorem qsR(m k):Jt m (yY m) k=qlu m k:=zi (M:=qlu m) rfl (λ _=>by kernel_rfl) k
theorem quN:okP tb [] qG1 := λ m a=>(congrArg (λ L=>qdy m (yY m) L a.1) (qsR m m)).trans (by kernel_rfl)
theorem qsZ:okP tb [] i83 := λ m a=>by kernel_rfl
def qm2(m k x0 x1):=tb.PL i60 6 m k [(5,vT x0),(6,vI x1)] ⟨[],[]⟩
theorem qua(m k):J6 m k=qm2 m k:=zi (M:=qm2 m) rfl (λ _=>by kernel_rfl) k
theorem qu2:okP tb [] i60 := λ m a=>(congrArg (λ L=>qeU m L a.1) (qua m m)).trans (by kernel_rfl)
theorem qvC:okP tb [] i36 := λ m a=>by kernel_rfl
theorem qvm:okP tb [] i86 := λ m a=>by kernel_rfl
def qmD(m k x0 x1 x2):=tb.PL i61 3 m k [(0,.s x0),(3,.sl .str x1 1),(4,vI x2)] ⟨[],[]⟩
theorem qs6(m k):J9 m k=qmD m k:=zi (M:=qmD m) rfl (λ _=>by kernel_rfl) k
theorem qvt:okP tb [] i61 := λ m a=>(congrArg (λ L=>qeE m L a.1) (qs6 m m)).trans (by kernel_rfl)
theorem qr5:okP tb [] i62 := λ m a=>by kernel_rfl
def qmR(m k x0 x1 x2 x3 x4 x5):=tb.PL i37 7 m k [(1,.ptr 0 0),(3,.s x0),(4,vI x1)] ⟨[[vI x2,.s x3,vI x4,vT x5]],[]⟩
theorem qtg(m k):Jf m (jb m) k=qmR m k:=zi (M:=qmR m) rfl (λ _=>by kernel_rfl) k
theorem qvQ:okP tb [] i37 := λ m a=>(congrArg (λ L=>qes m (jb m) L a.1) (qtg m m)).trans (by kernel_rfl)
theorem qtp:okP tb [] i14 := λ m a=>by kernel_rfl
theorem qkC:okS tb i15 := λ m a=>by kernel_rfl
theorem qma:okP tb [] i3 := λ m a=>by kernel_rfl
end Go.AmZ
namespace Go.Proofs
open Go.Shelf
def Tryz.sortTrm_ren:Go.Shelf.Ren:=⟨λ | 6=>107 | 15=>131 | 14=>130 | 28=>163 | 29=>164 | 20=>155 | 21=>156 | 22=>157 | 23=>158 | 24=>159 | 25=>160 | 26=>161 | 27=>162 | 46=>180 | 47=>181 | 48=>182 | 49=>183 | 50=>184 | 57=>193 | n=>n,λ | 22=>22 | 24=>24 | 25=>86 | 3=>3 | 39=>95 | 0=>0 | 53=>88 | 55=>175 | 4=>4 | 46=>167 | 45=>166 | 50=>171 | 5=>5 | 9=>9 | 66=>184 | 70=>126 | 76=>197 | 77=>198 | n=>n,λ | n=>n⟩
theorem Tryz.sortTrm:Go.Proofs.SlLaysF0.n6 Tryz.prog Tryz.sortTrm_ren:={
 mixed:=by kernel_rfl
 f6:=⟨Tryz.f107.name,by decide,Tryz.func107.trans (congrArg some (by kernel_rfl))⟩
 f14:=⟨Tryz.f130.name,by decide,Tryz.func130.trans (congrArg some (by kernel_rfl))⟩
 f15:=Tryz.func131.trans (congrArg some (by kernel_rfl))
 f20:=⟨Tryz.f155.name,by decide,Tryz.func155.trans (congrArg some (by kernel_rfl))⟩
 f21:=⟨Tryz.f156.name,by decide,Tryz.func156.trans (congrArg some (by kernel_rfl))⟩
 f22:=⟨Tryz.f157.name,by decide,Tryz.func157.trans (congrArg some (by kernel_rfl))⟩
 f23:=⟨Tryz.f158.name,by decide,Tryz.func158.trans (congrArg some (by kernel_rfl))⟩
 f24:=⟨Tryz.f159.name,by decide,Tryz.func159.trans (congrArg some (by kernel_rfl))⟩
 f25:=⟨Tryz.f160.name,by decide,Tryz.func160.trans (congrArg some (by kernel_rfl))⟩
 f26:=⟨Tryz.f161.name,by decide,Tryz.func161.trans (congrArg some (by kernel_rfl))⟩
 f27:=⟨Tryz.f162.name,by decide,Tryz.func162.trans (congrArg some (by kernel_rfl))⟩
 f28:=Tryz.func163.trans (congrArg some (by kernel_rfl))
 f29:=Tryz.func164.trans (congrArg some (by kernel_rfl))
 f46:=⟨Tryz.f180.name,by decide,Tryz.func180.trans (congrArg some (by kernel_rfl))⟩
 f47:=Tryz.func181.trans (congrArg some (by kernel_rfl))
 f48:=Tryz.func182.trans (congrArg some (by kernel_rfl))
 f49:=⟨Tryz.f183.name,by decide,Tryz.func183.trans (congrArg some (by kernel_rfl))⟩
 f50:=⟨Tryz.f184.name,by decide,Tryz.func184.trans (congrArg some (by kernel_rfl))⟩
 f57:=⟨Tryz.f193.name,by decide,Tryz.func193.trans (congrArg some (by kernel_rfl))⟩
 t0:=Tryz.underlying0
 a0:=Tryz.isAgg0
 z0:=Tryz.sizeOf0
 v0:=Tryz.zeroValue0
 t3:=Tryz.underlying3
 a3:=Tryz.isAgg3
 z3:=Tryz.sizeOf3
 v3:=Tryz.zeroValue3
 t4:=Tryz.underlying4
 a4:=Tryz.isAgg4
 z4:=Tryz.sizeOf4
 v4:=Tryz.zeroValue4
 t5:=Tryz.underlying5
 a5:=Tryz.isAgg5
 z5:=Tryz.sizeOf5
 v5:=Tryz.zeroValue5
 t9:=Tryz.underlying9
 a9:=Tryz.isAgg9
 z9:=Tryz.sizeOf9
 v9:=Tryz.zeroValue9
 t22:=Tryz.underlying22
 a22:=Tryz.isAgg22
 z22:=Tryz.sizeOf22
 v22:=Tryz.zeroValue22
 t25:=Tryz.underlying86
 a25:=Tryz.isAgg86
 z25:=Tryz.sizeOf86
 v25:=Tryz.zeroValue86
 t39:=Tryz.underlying95
 a39:=Tryz.isAgg95
 z39:=Tryz.sizeOf95
 v39:=Tryz.zeroValue95
 t45:=Tryz.underlying166
 a45:=Tryz.isAgg166
 z45:=Tryz.sizeOf166
 v45:=Tryz.zeroValue166
 t46:=Tryz.underlying167
 a46:=Tryz.isAgg167
 z46:=Tryz.sizeOf167
 v46:=Tryz.zeroValue167
 t50:=Tryz.underlying171
 a50:=Tryz.isAgg171
 z50:=Tryz.sizeOf171
 v50:=Tryz.zeroValue171
 t53:=Tryz.underlying88
 a53:=Tryz.isAgg88
 z53:=Tryz.sizeOf88
 v53:=Tryz.zeroValue88
 t55:=Tryz.underlying175
 a55:=Tryz.isAgg175
 z55:=Tryz.sizeOf175
 v55:=Tryz.zeroValue175
 t66:=Tryz.underlying184
 a66:=Tryz.isAgg184
 z66:=Tryz.sizeOf184
 v66:=Tryz.zeroValue184
 t70:=Tryz.underlying126
 a70:=Tryz.isAgg126
 z70:=Tryz.sizeOf126
 v70:=Tryz.zeroValue126
 t76:=Tryz.underlying197
 a76:=Tryz.isAgg197
 z76:=Tryz.sizeOf197
 v76:=Tryz.zeroValue197
 t77:=Tryz.underlying198
 a77:=Tryz.isAgg198
 z77:=Tryz.sizeOf198
 v77:=Tryz.zeroValue198 }
end Go.Proofs
namespace Go.GxZ
open Go.RowKit
def Box(w:World)(b:Nat)(e d c a:Value):Prop :=
 w.cell? ⟨b,0,none⟩=some e/\w.cell? ⟨b,1,none⟩=some d/\w.cell? ⟨b,2,none⟩=some c/\w.cell? ⟨b,3,none⟩=some a
theorem Box.keep{w u:World}{b:Nat}{g f e d:Value}{B:Nat}(h:Box w b g f e d)(c:b<B)(a:Below B w u):Box u b g f e d :=
 ⟨(a.cell c).trans h.1,(a.cell c).trans h.2.1,(a.cell c).trans h.2.2.1,(a.cell c).trans h.2.2.2⟩
theorem qwq(w:World)(d c b a:Value)(t:TypeId):Box (w.alloc (Obj.cells #[d,c,b,a] t)) w.heap.size d c b a :=
 ⟨by rw[World.cell?_alloc_mark];rfl,by rw[World.cell?_alloc_mark];rfl,by rw[World.cell?_alloc_mark];rfl,by rw[World.cell?_alloc_mark];rfl⟩
theorem qMG(w:World)(e d c b:Value)(t:TypeId) :
  ∃ a,w.alloc (Obj.cells #[e,d,c,b] t)=a/\Below w.heap.size w a/\a.heap.size=w.heap.size+1/\∀ u,Below a.heap.size a u->Box u w.heap.size e d c b :=
 ⟨_,rfl,(Below.refl _ _).alloc (wa _) _,by simp,λ _ f=>(qwq w e d c b t).keep (by simp) f⟩
theorem qHV(w:World)(d c b a f y1 y2 y3:Value)(t g:TypeId) :
  ∃ e,(w.alloc (Obj.cells #[d,c,b,a] t)).alloc (Obj.cells #[f,y1,y2,y3] g)=e/\Below w.heap.size w e/\e.heap.size=w.heap.size+2 /\
   ∀ u,Below e.heap.size e u->Box u w.heap.size d c b a/\Box u (w.heap.size+1) f y1 y2 y3:=by
 refine⟨_,rfl,((Below.refl _ _).alloc (wa _) _).alloc (by simp) _,by simp,λ u h=>⟨?_,?_⟩⟩
 ·exact((qwq w d c b a t).keep (B:=w.heap.size+1) (by omega) (((Below.refl _ _).alloc (by simp) _))).keep (by simp;omega) h
 ·have:=qwq (w.alloc (Obj.cells #[d,c,b,a] t)) f y1 y2 y3 g;rw[show(w.alloc (Obj.cells #[d,c,b,a] t)).heap.size=w.heap.size+1 by simp]at this;exact this.keep (by simp) h
theorem qwt(w:World)(b:Nat)(n y1 y2 y3 m l g f:Value)(h:Box w b n y1 y2 y3) :
  ∃ w',(((w.setCell ⟨b,0,none⟩ m).setCell ⟨b,1,none⟩ l).setCell ⟨b,2,none⟩ g).setCell ⟨b,3,none⟩ f=w'/\Box w' b m l g f/\(∀ B,B<=b->∀ w0,Below B w0 w->Below B w0 w') /\
   w'.heap.size=w.heap.size/\(∀ k,k≠b->w'.heap[k]?=w.heap[k]?)/\(∀ a,w'.frozen? a=w.frozen? a):=by
 obtain⟨r,q,p,o⟩:=h;have c:∀ i j:Nat,i≠j->(⟨b,i,none⟩:Addr)≠⟨b,j,none⟩ := λ i j h k=>h (by cases k;rfl);refine⟨_,rfl,⟨?_,?_,?_,?_⟩,λ B e w0 h=>(((h.setCell e _).setCell e _).setCell e _).setCell e _,by simp,λ k d=>?_,λ a=>by simp⟩
 ·rw[World.cell?_setCell_other _ _ _ _ (c 3 0 (by decide)),World.cell?_setCell_other _ _ _ _ (c 2 0 (by decide)),World.cell?_setCell_other _ _ _ _ (c 1 0 (by decide))];exact World.cell?_setCell_same _ _ _ r
 ·rw[World.cell?_setCell_other _ _ _ _ (c 3 1 (by decide)),World.cell?_setCell_other _ _ _ _ (c 2 1 (by decide))];refine World.cell?_setCell_same _ _ _ (u:=y1) ?_;rw[World.cell?_setCell_other _ _ _ _ (c 0 1 (by decide))];exact q
 ·rw[World.cell?_setCell_other _ _ _ _ (c 3 2 (by decide))];refine World.cell?_setCell_same _ _ _ (u:=y2) ?_;rw[World.cell?_setCell_other _ _ _ _ (c 1 2 (by decide)),World.cell?_setCell_other _ _ _ _ (c 0 2 (by decide))];exact p
 ·refine World.cell?_setCell_same _ _ _ (u:=y3) ?_;rw[World.cell?_setCell_other _ _ _ _ (c 2 3 (by decide)),World.cell?_setCell_other _ _ _ _ (c 1 3 (by decide)),World.cell?_setCell_other _ _ _ _ (c 0 3 (by decide))];exact o
 ·rw[Below.heap_setCell _ _ _ _ d,Below.heap_setCell _ _ _ _ d,Below.heap_setCell _ _ _ _ d,Below.heap_setCell _ _ _ _ d]
theorem Box.same{w u:World}{b:Nat}{g f e d:Value}(h:Box w b g f e d)(c:u.heap[b]?=w.heap[b]?):Box u b g f e d :=
 ⟨(World.cell?_of_block (w:=w) (a:=⟨b,0,none⟩) c).trans h.1,(World.cell?_of_block (w:=w) (a:=⟨b,1,none⟩) c).trans h.2.1,(World.cell?_of_block (w:=w) (a:=⟨b,2,none⟩) c).trans h.2.2.1,(World.cell?_of_block (w:=w) (a:=⟨b,3,none⟩) c).trans h.2.2.2⟩
end Go.GxZ
