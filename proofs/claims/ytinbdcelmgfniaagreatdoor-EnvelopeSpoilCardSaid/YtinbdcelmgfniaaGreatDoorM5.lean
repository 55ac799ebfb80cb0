/- Part 5 of what the proofs stand on: plain functions of the program, and that they are its functions. -/
import Derived.Test.YtinbdcelmgfniaaGreatDoorM4
import Derived.KernelRfl
import Derived.Test.YtinbdcelmgfniaaGreatDoorM3
import Derived.SliceStrings
import Derived.SizedLaws
import Derived.Shelf.SlSortCmp.NoneTotal
import Derived.Test.YtinbdcelmgfniaaGreatDoorProg
import Derived.Test.YtinbdcelmgfniaaGreatDoorM2
import Derived.Deep.RegionLaw
import Derived.Handy
import Derived.Test.YtinbdcelmgfniaaGreatDoorM1
import Derived.ProofKit
import Derived.Test.YtinbdcelmgfniaaGreatDoorRows
set_option linter.unusedVariables false
set_option linter.unusedSimpArgs false
noncomputable section
namespace Go.AmZ
open Go Go.GxZ
theorem qx9(t:T):Ev (λ m _=>qan m t) (qcJ t):=by
 refine wax ?_;simp only[qnY,qcp];unfold qcJ;by_cases a:t.kind=3
 .refine war (qu.2 a) (wap (λ h=>?_) λ h=>(wap (λ b=>?_) λ b=>?_))
  .rw[Qb]at h;exact wav (by rw[a,h];rfl)
  .rw[Qb]at b;exact wav (by rw[a,b];rfl)
  .rw[qai]at h b
   exact wav (by
    have d:(t.name==qf0)=false:=by rw[beq_eq_false_iff_ne];exact h
    have c:(t.name==qa4)=false:=by rw[beq_eq_false_iff_ne];exact b
    rw[a,d,c];rfl)
 .exact wau (qs.2 a) (wav (by have:(t.kind==3)=false:=by rw[beq_eq_false_iff_ne];exact a
                              rw[this];rfl))
theorem qhW(t:T):size t<=100000000->Ev (λ m _=>q9 m t) t:=by
 induction t using T.ind with
 |h t g=>
   intro o;have p:=Q3 t;refine wax ?_;simp only[qox,qaK]
   have a:zt 0 t.kids=some ((),t.kids,()):=by
    unfold zt;rw[show Nat.ble t.kids.length 100000000=true from vw (by omega)];rfl
   refine wat a ?_
   have b:=yb (P:=λ i=>Ev (λ m k=>jW m (q9 m) k t.kids.length i t.kind t.name t.sort 0 [] 0 t.kids []) t) t.kids (by omega)
    (λ a=>by
     refine waw ?_;simp only[qf6,qaD];exact wau a (wav (qt t)))
    (λ i x c q a f j l=>by
     refine waw ?_;simp only[qf6,qaD,qt];have d:=wc c;have s:=qa5 t x d
     have e:yc t.kids (i:Int) x=t.kids:=by
      rw[qfb];let⟨r,n⟩:=List.getElem?_eq_some_iff.1 c;rw[<-n,List.set_getElem_self]
     refine war a (wat f (wao (g x d (by omega)) (wat f ?_)));rw[e,j];exact l)
   refine way (L:=λ m k=>jW m (q9 m) k t.kids.length 0 t.kind t.name t.sort 0 [] 0 t.kids []) ?_;exact b 0 (wh _)
theorem qGF(lo a:Nat)(h:lo+a<=1000000000):iw .i64 (qk3 .u64 (iw .u64 (iw .i64 (qj (lo:Int) (a:Int)))) 1)=(((lo+a)/2:Nat):Int):=by
 rw[qe8,show iw .i64 ((lo+a:Nat):Int)=((lo+a:Nat):Int)from Qy (by omega),show iw .u64 ((lo+a:Nat):Int)=((lo+a:Nat):Int)from IntWalk.u64_in _ (by omega)]
 have:qk3 .u64 ((lo+a:Nat):Int) 1=(((lo+a)/2:Nat):Int):=by
  unfold qk3;show Int.fdiv _ 2=_;rw[Int.fdiv_eq_ediv_of_nonneg _ (by decide)];omega
 rw[this,Qy (by omega)]
def szP(l:List Pw):Nat:=(l.map λ p=>size p.1).sum
theorem Jw(p:Pw)(l:List Pw):szP (p::l)=size p.1+szP l:=by simp[szP]
theorem qe4:∀l:List Pw,l.length<=szP l
 |[]=>wh _
 |p::l=>by
   have:=qe4 l;have:=size_pos p.1;rw[Jw,wA];omega
theorem qgO:∀{l:List Pw}{p:Pw},p∈l->size p.1<=szP l
 |q::l,p,h=>by
   rw[Jw];obtain rfl|h:=wG.1 h
   .omega
   .have:=qgO h;omega
theorem qxZ:∀(l:List Pw) (t:T) (n:Int),szP (je l t n)<=szP l+size t
 |[],t,n=>by rw[je,Jw];show size t+0<=0+size t;omega
 |(x,m)::l,t,n=>by
   have:=qxZ l t n;rw[je];split
   .rw[Jw,Jw];show size t+(size x+_)<=size x+_+size t;omega
   .split
    .split
     .rw[Jw];show _<=size x+_+_;omega
     .rw[Jw,Jw];show size x+_<=size x+_+_;omega
    .rw[Jw,Jw];show size x+_<=size x+_+_;omega
theorem qua(p:Pw)(t:T)(b:size p.1<=1000000000)(a:size t<=1000000000):Ev (λ m _=>Jg m p t) (qG p.1 t):=by
 refine wax ?_;simp only[qlx,qbe,qt];exact wao (qfj _ b _ a) (waq _)
def qoj(l:List Pw)(t:T):Bool:=match l[Go.GxZ.ixP l t]? with
 |some p=>ieq (qG p.1 t) 0
 |none=>false
theorem qEK{l:List Pw}(y:qeO l)(t:T)(D:szP l+size t<=100000000):∀(d lo c:Nat),c<=lo+d->lo<=c->c<=l.length->(∀k p,k<lo->l[k]?=some p->qG p.1 t=-1)->(∀k p,c<=k->l[k]?=some p->qG p.1 t≠-1)->
  Ev (λ m k=>ql m k l l.length lo c t.kind t.name t.sort t.kids) ((Go.GxZ.ixP l t:Int),qoj l t):=by
 have E:=qe4 l;intro d
 induction d with
 |zero=>
   intro lo c C z r o n;have:lo=c:=by omega
   subst this;have w:=qBK l t lo r o (λ p g=>n lo p (wa _) g);subst w;refine waw ?_;simp only[zR,qy,qt];rw[show T.mk t.kind t.name t.sort t.kids=t from qt t];refine wau (qX.2 (vF _)) (wap (λ h=>?_) λ h=>?_)
   .rw[zg]at h;have i:Go.GxZ.ixP l t<l.length:=by omega
    obtain⟨p,e⟩:∃p,l[Go.GxZ.ixP l t]?=some p:=⟨_,List.getElem?_eq_getElem i⟩
    have v:=qgO (wc e);refine wat (a:=p) (by rw[jk,e]) (wao (qua (p.1,p.2) _ (wD v (by omega)) (by omega)) (wav ?_));unfold qoj;rw[e]
   .rw[qX]at h;refine wav ?_;unfold qoj;rw[List.getElem?_eq_none (by omega)]
 |succ d s=>
   intro lo c C z r o n;by_cases F:lo=c
   .exact s lo c (by omega) z r o n
   refine waw ?_;simp only[zR,qy,qt];rw[show T.mk t.kind t.name t.sort t.kids=t from qt t,qGF lo c (by omega)];have A:(lo+c)/2<c:=by omega
   have u:lo<=(lo+c)/2:=by omega
   generalize (lo+c)/2=b at *;have i:b<l.length:=by omega
   obtain⟨p,e⟩:∃p,l[b]?=some p:=⟨_,List.getElem?_eq_getElem i⟩
   have v:=qgO (wc e);refine war (zg.2 (by omega)) (wat (a:=p) (by rw[jk,e]) (wao (qua (p.1,p.2) _ (wD v (by omega)) (by omega)) (wap (λ f=>?_) λ f=>?_)))
   .rw[zg]at f;have f:qG p.1 t<0:=f;have f:qG p.1 t=-1:=by obtain h|h|h:=QH.rng p.1 t<;>omega
    rw[show qj ((b:Nat):Int) 1=((b+1:Nat):Int)from by unfold qj;omega,Qy (by omega)];refine s (b+1) c (by omega) (by omega) r (λ k q B g=>?_) n;by_cases j:k=b
    .subst j;rw[e]at g;cases g;exact f
    .exact QH.trans _ _ _ (qxL y g e (by omega)) f
   .rw[qX]at f;have f:0<=qG p.1 t:=f;refine s lo b (by omega) u (by omega) o (λ k q B g=>?_);by_cases j:k=b
    .subst j;rw[e]at g;cases g;omega
    .intro x;have:=QH.trans _ _ _ (qxL y e g (by omega)) x;omega
theorem qG9{l:List Pw}(d:qeO l)(t:T)(c:szP l+size t<=100000000):Ev (λ m _=>qF m l t) ((Go.GxZ.ixP l t:Int),qoj l t):=by
 refine wax ?_;simp only[Qe,qz];refine way (L:=λ m k=>ql m k l l.length 0 l.length t.kind t.name t.sort t.kids) ?_;exact qEK d t c l.length 0 l.length (by omega) (wh _) (wa _) (λ k p b=>by omega) (λ k p b a=>by rw[List.getElem?_eq_none b]at a;cases a)
theorem qp7{l:List Pw}(r:qeO l)(t:T)(n:Int)(u:szP l+size t<=90000000)(g:l.length<=90000)(v:Qx l+n.natAbs<=1000000000000):Ev (λ m _=>qap m l (t,n)) ((),je l t n,()):=by
 have w:=qe4 l;have q:=qBl l t;refine wax ?_;simp only[qnR,qcs,qt];refine wao (qG9 r t (by omega)) (wap (λ h=>?_) λ h=>?_)
 .rw[bnt]at h;refine wao (qhW t (by omega)) ?_
  have i:zf 0 l (Go.GxZ.ixP l t:Int) [(re t,n)]=some ((),je l t n,()):=by
   unfold zf;rw[show inb (Go.GxZ.ixP l t:Int) l.length=true from by unfold inb;rw[decide_eq_true_iff];omega,show Nat.ble l.length 100000=true from vw (by omega)]
   rw[qvN l t n λ p j f=>by
    unfold qoj at h;simp only[j]at h;rw[qs]at h;exact h f]
   rw[km,qt,wn];rfl
  rw[qt]at i;refine wat i (waq _)
 .rw[bnf]at h;cases b:l[Go.GxZ.ixP l t]? with
  |none=>unfold qoj at h;simp only[b]at h;cases h
  |some p=>
    let⟨x,k⟩:=p
    have f:qG x t=0:=by
     unfold qoj at h;simp only[b]at h;exact qu.1 h
    have o:=qAR l _ (wc b);have d:Go.GxZ.ixP l t<l.length:=(List.getElem?_eq_some_iff.1 b).1;simp only at o
    have e1:iw .i64 (qj k n)=k+n:=by
     unfold qj;exact Qy (by omega)
    have e:qh (yc l (Go.GxZ.ixP l t:Int) (x,k+n)) (Go.GxZ.ixP l t:Int)=some (x,k+n):=by
     rw[qfb,jk,List.getElem?_set_self d]
    have a:l.set (Go.GxZ.ixP l t) (x,k+n)=l.take (Go.GxZ.ixP l t)++[(x,k+n)]++l.drop (Go.GxZ.ixP l t+1):=by
     rw[vk,if_pos d,wn];rfl
    refine wat (by rw[jk,b]) (wat (by rw[jk,b]) ?_);simp only[qt,e1];refine wat e ?_;rw[qyb l t n x k b f];refine wap (λ c=>?_) λ c=>?_
    .rw[qu]at c;rw[if_pos c]
     have s:zd 0 (yc l (Go.GxZ.ixP l t:Int) (x,k+n)) (Go.GxZ.ixP l t:Int) (iw .i64 (qj (Go.GxZ.ixP l t:Int) 1))=some ((),l.take (Go.GxZ.ixP l t)++l.drop (Go.GxZ.ixP l t+1),()):=by
      rw[show qj (Go.GxZ.ixP l t:Int) 1=((Go.GxZ.ixP l t+1:Nat):Int)from by unfold qj;omega,Qy (by omega),qfb];unfold zd
      rw[wH,show inb ((Go.GxZ.ixP l t+1:Nat):Int) l.length=true from by unfold inb;rw[decide_eq_true_iff];omega,show inb (Go.GxZ.ixP l t:Int) l.length=true from by unfold inb;rw[decide_eq_true_iff];omega,
       show ieq ((Go.GxZ.ixP l t+1:Nat):Int) (qj (Go.GxZ.ixP l t:Int) 1)=true from qu.2 (by unfold qj;omega),show Nat.ble l.length 100000=true from vw (by omega)]
      rw[km,xX (wa _),vB (by omega)];rfl
     exact wat s (waq _)
    .rw[qs]at c;rw[if_neg c];refine wav ?_;rw[qfb,a]
end Go.AmZ
namespace Go.GxZ
open Go.RowKit
theorem qBr(q:Option T)(p:Pw):pvK q p=if zl p.1≠0 then zl p.1 else if qcJ p.1 then 1 else if p.2=0\/p.2 < -1000\/1000<p.2 then 7 else match q with|some x=>if 0<=qG x p.1 then 5 else 0|none=>0:=rfl
theorem qwe:∀(l:List Pw) (q:Option T),pvL q l=0->qeO l/\(∀p∈l,p.2≠0/\p.2.natAbs<=1000)/\(∀x,q=some x->∀p∈l,qG x p.1=-1)/\(∀p∈l,zl p.1=0/\qcJ p.1=false)
 |[],q,_=>⟨List.Pairwise.nil,(λ _ h=>by cases h),(λ _ _ _ h=>by cases h),(λ _ h=>by cases h)⟩
 |p::l,q,h=>by
   rw[pvL]at h;unfold thn at h;split at h
   rotate_left
   .rename_i b;exact absurd h b
   .rename_i b;have k:=qBr q p;let⟨j,i,d,g⟩:=qwe l (some p.1) h;rw[k]at b;split at b
    .rename_i f;exact absurd b f
    rename_i f;split at b
    .cases b
    rename_i m;split at b
    .cases b
    rename_i o
    have e:∀x,q=some x->qG x p.1=-1:=λ x c=>by
     subst c;simp only at b;split at b
     .cases b
     .rename_i n;obtain h|h|h:=QH.rng x p.1<;>omega
    refine⟨qfs.2 ⟨λ r a=>d _ rfl r a,j⟩,λ r a=>?_,λ x c r a=>?_,λ r a=>?_⟩
    .obtain rfl|a:=wG.1 a
     .omega
     .exact i r a
    .obtain rfl|a:=wG.1 a
     .exact e x c
     .exact qx4 (e x c) (by have:=d _ rfl r a;omega)
    .obtain rfl|a:=wG.1 a
     .exact⟨by omega,by simpa using m⟩
     .exact g r a
theorem qcB{l:List Pw}(h:Q6 l=0):JN l/\l.length<=200/\(∀p∈l,p.2.natAbs<=1000)/\(∀p∈l,zl p.1=0/\qcJ p.1=false):=by
 unfold Q6 at h;split at h
 .cases h
 .obtain⟨d,b,-,c⟩:=qwe l none h;exact⟨⟨d,λ p a=>(b p a).1⟩,by omega,λ p a=>(b p a).2,c⟩
theorem qjq(k:Nat):∀(l:List Pw),(∀p∈l,p.2.natAbs<=k)->Qx l<=l.length*k
 |[],_=>by simp[Qx]
 |p::l,h=>by
   have c:=qjq k l λ q a=>h q (we _ a);have b:=h p (wm ..);have e:Qx (p::l)=p.2.natAbs+Qx l:=rfl;rw[e,wA,wN];omega
theorem qoE:∀(b a:List Pw) (p:Pw),p∈Ji a b->(∃q∈a,q.1=p.1)\/∃q∈b,q.1=p.1
 |[],a,p,h=>.inl ⟨p,h,rfl⟩
 |r::b,a,p,h=>by
   obtain⟨q,c,e⟩|⟨q,c,e⟩:=qoE b (je a r.1 r.2) p h
   .obtain d|d:=qjM a r.1 r.2 q c
    .exact .inr ⟨r,wm ..,by rw[<-d];exact e⟩
    .exact .inl ⟨q,d,e⟩
   .exact .inr ⟨q,we _ c,e⟩
theorem qAB(a b:List Pw)(p:Pw):Ji a (b++[p])=je (Ji a b) p.1 p.2:=by unfold Ji;rw[vP];rfl
theorem qyE{a b:List Pw}(n:Q6 a=0)(m:Q6 b=0)(S:Nat)(f:∀p∈a,size p.1<=S)(d:∀p∈b,size p.1<=S)(j:Nat):
  qeO (Ji a (b.take j))/\(Ji a (b.take j)).length<=400/\(∀p∈Ji a (b.take j),p.2.natAbs<=1000000)/\(∀p∈Ji a (b.take j),size p.1<=S):=by
 obtain⟨r,t,k,-⟩:=qcB n;obtain⟨o,s,i,-⟩:=qcB m;have h:∀p∈b.take j,p∈b:=λ p c=>wR c;have l:=qme (b.take j) a r λ p c=>o.2 p (h p c);let⟨y,x⟩:=qoG (b.take j) a;have w:=qjq 1000 a k;have v:=qjq 1000 (b.take j) λ p c=>i p (h p c);have u:(b.take j).length<=200:=by rw[wk];omega
 refine⟨l.1,by omega,λ p c=>?_,λ p c=>?_⟩
 .have:=qAR _ p c;omega
 .obtain⟨q,g,e⟩|⟨q,g,e⟩:=qoE _ _ p c
  .rw[<-e];exact f q g
  .rw[<-e];exact d q (h q g)
end Go.GxZ
namespace Go.AmZ
open Go Go.GxZ
theorem qah{t:T}(h:zl t=0):size t<=400:=by
 unfold zl at h;split at h
 .rename_i a;exact absurd h a
 .split at h
  .cases h
  .omega
theorem qxW{t:T}:qcJ t=true↔t.kind=3/\(t.name=qf0\/t.name=qa4\/t.name=qi9):=by
 unfold qcJ;simp only[wb,wT,beq_iff_eq];constructor
 .rintro⟨h,(a|a)|a⟩
  .exact⟨h,.inl a⟩
  .exact⟨h,.inr (.inl a)⟩
  .exact⟨h,.inr (.inr a)⟩
 .rintro⟨h,a|a|a⟩
  .exact⟨h,.inl (.inl a)⟩
  .exact⟨h,.inl (.inr a)⟩
  .exact⟨h,.inr a⟩
theorem qxl(t:T):∀(l:List Pw) (n:Int),szP (jo t l n)<=szP l+size t:=by
 refine T.ind (P:=λ t=>∀(l:List Pw) (n:Int),szP (jo t l n)<=szP l+size t) ?_ t;intro t d l n;rw[qgF];have i:=zy t;split
 .have:∀(a:List T),(∀k∈a,k∈t.kids)->∀l,szP ((a.map jo).foldl (λ l f=>f l (qaU t n)) l)<=szP l+(a.map size).sum:=by
    intro a
    induction a with
    |nil=>intro _ l;simp
    |cons k a b=>
      intro c l;have j:=d k (c k (wm ..)) l (qaU t n);have g:=b (λ k e=>c k (we _ e)) (jo k l (qaU t n));simp only[wv,xa,kL]at g |-
      omega
  have:=this t.kids (λ _ h=>h) l;omega
 .exact qxZ l t n
def qkn(ks:List T)(a:Int)(l:List Pw)(i:Nat):List Pw:=((ks.take i).map jo).foldl (λ l f=>f l a) l
theorem qz9{ks:List T}{i:Nat}{x:T}(h:ks[i]?=some x)(a:Int)(l:List Pw):qkn ks a l (i+1)=jo x (qkn ks a l i) a:=by
 unfold qkn;rw[kH,h,kh,vP];rfl
theorem qqx(a:Int)(b:a≠0):∀(ks:List T) (l:List Pw),JN l->JN ((ks.map jo).foldl (λ l f=>f l a) l)/\szP ((ks.map jo).foldl (λ l f=>f l a) l)<=szP l+szL ks/\
  Qx ((ks.map jo).foldl (λ l f=>f l a) l)<=Qx l+szL ks*a.natAbs/\((ks.map jo).foldl (λ l f=>f l a) l).length<=l.length+szL ks
 |[],l,h=>⟨h,by simp,by simp,by simp⟩
 |k::ks,l,h=>by
   let⟨c,g,e,d⟩:=qqx a b ks (jo k l a) (qBC k l a b h);have m:=qxl k l a;let⟨j,i⟩:=qC3 k l a;rw[wv,xa,zX,wN];exact⟨c,by omega,by omega,by omega⟩
def qhi(t:T)(l:List Pw)(n:Int):Unit×List Pw×Bool×Unit:=((),if arT t then jo t l n else[],arT t,())
theorem qyG(t:T):∀(l:List Pw) (n:Int),n≠0->JN l->szP l+size t<=80000->Qx l+size t*n.natAbs<=100000000000->Ev (λ m _=>qZ m l t n) (qhi t l n):=by
 induction t using T.ind with
 |h t K=>
   intro l n H I R J;have S:=Q3 t;have Q:=zy t;have M:=qe4 l;refine wax ?_;simp only[qlz,JQ,qt];refine wao (qx9 t) (wap (λ h=>?_) λ h=>?_)
   .rw[bnt]at h;have s:n.natAbs<=size t*n.natAbs:=wae _ (size_pos t);refine wao (qp7 I.1 t n (by omega) (by omega) (by omega)) (wav ?_);unfold qhi;rw[qBq,qgF,h];rfl
   rw[bnf]at h;let⟨Y,j⟩:=qxW.1 h;have o:arT t=(arK t&&(t.kids.map arT).all id):=by rw[qBq,h];rfl
   have g:∀e:Int,e≠0->e.natAbs=n.natAbs->qaU t n=e->arK t=true->Ev (λ m _=>yM m (qZ m) m e t.kids t.kids.length 0 l) (qhi t l n):=by
    intro e q F A d;have u:jo t l n=qkn t.kids e l t.kids.length:=by rw[qgF,h,if_pos rfl,A];unfold qkn;rw[wV]
    have z:=yb (P:=λ i=>(∀k∈t.kids.take i,arT k=true)->Ev (λ m k=>yM m (qZ m) k e t.kids t.kids.length i (qkn t.kids e l i)) (qhi t l n)) t.kids (by omega)
     (λ E y=>by
      refine waw ?_;simp only[qeH,JR];refine wau E (wav ?_);unfold qhi
      have:arT t=true:=by
       rw[o,d,kR,ww];intro b J;obtain⟨k,C,rfl⟩:=wC.1 J;rw[wV]at y;exact y k C
      rw[this,if_pos rfl,u])
     (λ i x w U E D N G y=>by
      refine waw ?_;simp only[qeH,JR,qt];have B:=wc w;have Z:=qa5 t x B;let⟨O,f2,f3,f4⟩:=qqx e q (t.kids.take i) l I;have X:=qfV w;have W:szL t.kids+1=size t:=by unfold szL;omega
      have V:szL (t.kids.take i)*e.natAbs+size x*e.natAbs<=size t*n.natAbs:=by
       rw[<-wN,F];exact wo _ (by omega)
      refine war E (wat D (wao (K x B (qkn t.kids e l i) e q O (by unfold qkn;omega) (by unfold qkn;omega)) (wap (λ c=>?_) λ c=>?_)))
      .rw[bnt]at c;have c:arT x=false:=c;refine wav ?_;unfold qhi
       have:arT t=false:=by
        rw[o,d,kR,<-kG,ww];intro v;have:=v (arT x) (kY B);rw[c]at this;cases this
       rw[this];rfl
      .rw[bnf]at c;have c:arT x=true:=c
       have G:=G λ k f=>by
        rw[kH,w]at f;obtain f|f:=wi.1 f
        .exact y k f
        .rw[show k=x from by simpa using f];exact c
       rw[N];refine G.congr λ m k=>?_;unfold qhi;rw[qz9 w,c];rfl)
    refine way (L:=λ m k=>yM m (qZ m) k e t.kids t.kids.length 0 l) ?_;exact(z 0 (wh _)) (λ k d=>by rw[vD]at d;cases d)
   have p:arK t=false->Ev (λ _ _=>some ((),[],false,())) (qhi t l n):=λ d=>by
    refine wav ?_;unfold qhi;rw[o,d];rfl
   have r:iw .i64 (ja 0 n)=-n:=by
    have s:n.natAbs<=size t*n.natAbs:=wae _ (size_pos t);unfold ja;rw[Qy (by omega)];omega
   obtain a|a|a:=j
   .refine wau (by rw[a];rfl) (wau (by rw[a];rfl) (war (by rw[a];rfl) (wap (λ d=>?_) λ d=>?_)))
    .rw[zg]at d;exact p (by unfold arK;rw[a,decide_eq_true (show t.kids.length<2 by omega)];rfl)
    .rw[qX]at d;exact wau (by rw[a];rfl) (g n H rfl (by unfold qaU;rw[a];rfl) (by unfold arK;rw[a,decide_eq_false (show ¬ t.kids.length<2 by omega)];rfl))
   .refine wau (by rw[a];rfl) (war (by rw[a];rfl) (wap (λ d=>?_) λ d=>?_))
    .rw[bnt,qs]at d;exact p (by unfold arK;rw[a,show(t.kids.length != 1)=true from by rw[bne_iff_ne];omega];rfl)
    .rw[bnf,qu]at d;rw[r];exact wau (by rw[a];rfl) (war (by rw[a];rfl) (g (-n) (by omega) (by omega) (by unfold qaU;rw[if_pos a]) (by unfold arK;rw[a,show(t.kids.length != 1)=false from by rw[bne_eq_false_iff_eq];omega];rfl)))
   .refine war (by rw[a];rfl) (wap (λ d=>?_) λ d=>?_)
    .rw[bnt,qs]at d;exact p (by unfold arK;rw[a,show(t.kids.length != 0)=true from by rw[bne_iff_ne];omega];rfl)
    .rw[bnf,qu]at d;exact wau (by rw[a];rfl) (wau (by rw[a];rfl) (wau (by rw[a];rfl) (g n H rfl (by unfold qaU;rw[a];rfl) (by unfold arK;rw[a,show(t.kids.length != 0)=false from by rw[bne_eq_false_iff_eq];omega];rfl))))
theorem qvb(t:T)(c:size t<=1000000000):Ev (λ m _=>qay m t) (ofP t):=by
 refine wax ?_;simp only[qts,qfd,qt];unfold ofP;refine wao (qa7 t c) (wap (λ h=>?_) λ h=>?_)
 .rw[bnt,qs]at h;rw[if_pos h];exact waq _
 .rw[bnf,qu]at h;have d:=qah h;rw[if_neg (by omega)];refine wao (qyG t [] 1 (by decide) JN.nil (by show 0+_<=_;omega) (by show 0+size t*1<=_;omega)) (wap (λ a=>?_) λ a=>?_)
  .rw[bnt]at a;have a:arT t=false:=a;rw[if_pos a];exact waq _
  .rw[bnf]at a;have a:arT t=true:=a;rw[if_neg (by rw[a];decide)];have e:(qhi t [] 1).2.1=jo t [] 1:=by unfold qhi;rw[a];rfl
   rw[e];refine wap (λ b=>?_) λ b=>?_
   .rw[zg]at b;rw[if_pos (by omega)];exact waq _
   .rw[qX]at b;rw[if_neg (by omega)];exact waq _
def qiJ(l:List Pw)(i:Nat):Option T:=if i=0 then none else(l[i-1]?).map (·.1)
theorem qp4{l:List Pw}{i:Nat}{p:Pw}(h:l[i]?=some p):qiJ l (i+1)=some p.1:=by
 unfold qiJ;rw[if_neg (by omega),xM,h];rfl
theorem ql1(l:List Pw)(E:szP l<=1000000000):Ev (λ m _=>Jv m l) (Q6 l):=by
 have F:=qe4 l;refine wax ?_;simp only[qph,qaE];unfold Q6;refine wap (λ h=>?_) λ h=>?_
 .rw[zg]at h;rw[if_pos (by omega)];exact waq _
 rw[qX]at h;rw[if_neg (by omega)]
 have s:=yb (P:=λ i=>Ev (λ m k=>jm m k l l l.length i) (pvL (qiJ l i) (l.drop i))) l (by omega)
  (λ z=>by
   refine waw ?_;simp only[qf9,qaJ];refine wau z (wav ?_);rw[xc];rfl)
  (λ i x u D z C B A=>by
   refine waw ?_;simp only[qf9,qaJ,qt];have H:=qgO (wc u);rw[qp4 u]at A;rw[D,pvL];have c:=qBr (qiJ l i) x
   have b:∀e:Int,pvK (qiJ l i) x=e->e≠0->Ev (λ _ _=>some e) (thn (pvK (qiJ l i) x) (pvL (some x.1) (l.drop (i+1)))):=λ e y r=>by
    rw[y];exact wav (by unfold thn;rw[if_neg r])
   have d:pvK (qiJ l i) x=0->Ev (λ m k=>jm m k l l l.length ((i+1:Nat):Int)) (thn (pvK (qiJ l i) x) (pvL (some x.1) (l.drop (i+1)))):=λ y=>by
    rw[y];exact A.res (by unfold thn;rw[if_pos rfl])
   refine war z (wat C (wao (qa7 x.1 (by omega)) (wap (λ p=>?_) λ p=>?_)))
   .rw[bnt,qs]at p;exact b _ (by rw[c,if_pos p]) p
   rw[bnf,qu]at p;rw[if_neg (by omega)]at c;refine wao (qx9 x.1) (wap (λ o=>?_) λ o=>?_)
   .exact b 1 (by rw[c,if_pos o]) (by decide)
   rw[if_neg (by rw[o];decide)]at c;refine wap (λ t=>?_) λ t=>?_
   .rw[qu]at t;exact b 7 (by rw[c,if_pos (by omega)]) (by decide)
   rw[qs]at t;refine wap (λ n=>?_) λ n=>?_
   .rw[zg]at n;exact b 7 (by rw[c,if_pos (by omega)]) (by decide)
   rw[qX]at n;refine wap (λ g=>?_) λ g=>?_
   .rw[zg]at g;exact b 7 (by rw[c,if_pos (by omega)]) (by decide)
   rw[qX]at g;rw[if_neg (by omega)]at c;rw[B];refine wap (λ r=>?_) λ r=>?_
   .rw[zg]at r;obtain⟨j,rfl⟩:∃j,i=j+1:=⟨i-1,by omega⟩
    have w:j<l.length:=by have:=(List.getElem?_eq_some_iff.1 u).1;omega
    obtain⟨q,v⟩:∃q,l[j]?=some q:=⟨_,List.getElem?_eq_getElem w⟩
    have G:=qgO (wc v);rw[qp4 v]at c b d |-
    simp only at c;refine wat (a:=q) (by rw[show ja ((j+1:Nat):Int) 1=((j:Nat):Int)from by unfold ja;omega,Qy (by omega),jk,v]) (wao (qfj q.1 (by omega) x.1 (by omega)) (wap (λ f=>?_) λ f=>?_))
    .rw[qgr]at f;exact b 5 (by rw[c,if_pos f]) (by decide)
    .rw[qh8]at f;exact d (by rw[c,if_neg (by omega)])
   .rw[qX]at r;have:i=0:=by omega
    subst this;exact d (by rw[c];rfl))
 refine way (L:=λ m k=>jm m k l l l.length 0) ?_;exact s 0 (wh _)
end Go.AmZ
namespace Go.AmZ
open Go Go.GxZ
theorem qa2{α:Type}{l:List α}{i:Nat}{x:α}(h:l[i]?=some x):l.take (i+1)=l.take i++[x]:=by rw[kH,h];rfl
theorem quX(a b:List Pw):jD (a++b)=jD a++jD b:=by unfold jD;rw[List.flatMap_append]
theorem qv1(a b:List Pw):jC (a++b)=jC a++jC b:=by unfold jC;rw[List.flatMap_append]
theorem quF(p:Pw):jD [p]=List.replicate p.2.toNat p.1:=by unfold jD;simp
theorem quH(p:Pw):jC [p]=List.replicate (-p.2).toNat (apT qa4 [p.1]):=by unfold jC;simp
theorem qxF(n:Nat)(x:T):szL (List.replicate n x)=n*size x:=by
 induction n with
 |zero=>simp[szL]
 |succ n a=>rw[List.replicate_succ,zX,a,wN];omega
theorem qCY(t:T):size (apT qa4 [t])=1+size t:=by rw[zy];show 1+(size t+0)=_;omega
theorem qvK{P:Nat->Prop}(N:Int)(g:N<=1000000)(b:P N.toNat)(a:∀j:Nat,(j:Int)<N->iw .i64 (qj (j:Int) 1)=((j+1:Nat):Int)->P (j+1)->P j):∀j:Nat,j<=N.toNat->P j:=by
 intro j e;obtain⟨d,f⟩:∃d,N.toNat=j+d:=⟨N.toNat-j,by omega⟩
 induction d generalizing j with
 |zero=>
   have:j=N.toNat:=by omega
   subst this;exact b
 |succ d c=>
   refine a j (by omega) ?_ (c (j+1) (by omega) (by omega));unfold qj;rw[Qy (by omega)];omega
theorem qFz{l:List Pw}{p:Pw}(a:p∈l)(h:8<p.2):8<(jD l++jC l).length:=by
 have:(List.replicate p.2.toNat p.1).length<=(jD l).length:=wD (vK (kY (f:=λ p:Pw=>List.replicate p.2.toNat p.1) a)).length_le (by unfold jD;rw[vS];exact wa _);rw[ko]at this;rw[wd];omega
theorem qEE{l:List Pw}{p:Pw}(a:p∈l)(h:p.2 < -8):8<(jD l++jC l).length:=by
 have:(List.replicate (-p.2).toNat (apT qa4 [p.1])).length<=(jC l).length:=wD (vK (kY (f:=λ p:Pw=>List.replicate (-p.2).toNat (apT qa4 [p.1])) a)).length_le (by unfold jC;rw[vS];exact wa _);rw[ko]at this;rw[wd];omega
theorem qFl(o:List T):size (qck o)<=1+szL o:=by
 unfold qck;split
 .rw[zy];show 1+0<=_;omega
 .split
  .rename_i _ a
   have:o.getD 0 zT∈o:=by
    cases o with
    |nil=>cases a
    |cons x r=>exact wm ..
   have:=qgD this;omega
  .rw[zy];exact wa _
theorem ql5{l:List Pw}(a:∀p∈l,size p.1<=400):∀(ks:List Pw),(∀p∈ks,p∈l/\-8<=p.2/\p.2<=8)->(jD ks).length<=8*ks.length/\(jC ks).length<=8*ks.length/\szL (jD ks)<=3200*ks.length/\szL (jC ks)<=3208*ks.length
 |[],_=>⟨wa _,wa _,wa _,wa _⟩
 |p::ks,h=>by
   let⟨m,k,j,i⟩:=ql5 a ks λ q b=>h q (we _ b);let⟨d,o,n⟩:=h p (wm ..);have c:=a p d;have e1:jD (p::ks)=List.replicate p.2.toNat p.1++jD ks:=by rw[show p::ks=[p]++ks from rfl,quX,quF]
   have e:jC (p::ks)=List.replicate (-p.2).toNat (apT qa4 [p.1])++jC ks:=by rw[show p::ks=[p]++ks from rfl,qv1,quH]
   have g:p.2.toNat*size p.1<=8*400:=waj (by omega) c;have f:(-p.2).toNat*(1+size p.1)<=8*401:=waj (by omega) (by omega);rw[e1,e,qeY,qeY,qxF,qxF,qCY];simp only[wd,ko,wA];refine⟨by omega,by omega,by omega,by omega⟩
def qjH(o:List T):T×Int:=if 8<o.length then(zT,3)else if zl (qck o)≠0 then(zT,zl (qck o))else(qck o,0)
theorem qs0{l:List Pw}(h:Q6 l=0):qbV l=qjH (jD l++jC l):=by
 unfold qbV qjH;rw[if_neg (by omega)]
theorem quk(l:List Pw)(Q:szP l<=1000000000):Ev (λ m _=>Qu m l) (qbV l):=by
 refine wax ?_;simp only[qpr,qbu];refine wao (ql1 l Q) (wap (λ h=>?_) λ h=>?_)
 .rw[bnt,qs]at h;unfold qbV;rw[if_pos h];exact waq _
 rw[bnf,qu]at h;let⟨_,H,Y,X⟩:=qcB h;have c:∀p∈l,size p.1<=400:=λ p A=>qah (X p A).1;rw[qs0 h]
 have D:=yb (P:=λ i=>(∀p∈l.take i,p∈l/\-8<=p.2/\p.2<=8)->Ev (λ m k=>(qp m k).1 l l.length i 0 [] 0 [] (jD (l.take i)) (jC (l.take i))) (qjH (jD l++jC l))) l (by omega)
  (λ F t=>by
   refine waw ?_;simp only[qg5,qbf,qt];rw[wV]at t |-
   let⟨b1,b2,b3,Z⟩:=ql5 c l t;refine wau F (wao (qqS (jD l) (jC l) (by omega)) ?_);have ho:szL (jD l++jC l)<=10000000:=by rw[qeY];omega
   generalize jD l++jC l=o at *;have S:=qbJ o;have R:=qFl o;unfold qjH;refine wap (λ b=>?_) λ b=>?_
   .rw[zg]at b;rw[if_pos (by omega)];exact waq _
   rw[qX]at b;rw[if_neg (by omega)]
   have f:∀u:T,u=qck o->Ev (λ m _=>qb (qR m u) λ v=>cond (qf (ieq v 0)) (some (T.mk 0 [] 0 [],v)) (some (u,0))) (if zl (qck o)≠0 then(zT,zl (qck o))else(qck o,0)):=by
    intro u N;subst N;refine wao (qa7 _ (by omega)) (wap (λ h=>?_) λ h=>?_)
    .rw[bnt,qs]at h;rw[if_pos h];exact waq _
    .rw[bnf,qu]at h;rw[if_neg (by omega)];exact waq _
   have y:∀(n:List UInt8) (x:List T),Ev (λ m _=>qcb m n x) (apT n x):=λ n x=>wax (waq _);refine wao (y [109,117,108] o) (wap (λ G=>?_) λ G=>?_)
   .rw[qu]at G;exact wao (y [111,110,101] []) (f _ (by unfold qck;rw[if_pos (by omega)];rfl))
   .rw[qs]at G;refine wap (λ C=>?_) λ C=>?_
    .rw[qu]at C;refine wat (a:=o.getD 0 zT) ?_ (f _ (by unfold qck;rw[if_neg (by omega),if_pos (by omega)]));rw[qa9,List.getD_eq_getElem?_getD];cases o with
     |nil=>simp at C
     |cons x r=>rfl
    .rw[qs]at C;exact f _ (by unfold qck;rw[if_neg (by omega),if_neg (by omega)];rfl))
  (λ i p z hd F W V B t=>by
   refine waw ?_;simp only[qg5,qbf];have s:=wc z;have hn:=Y p s;have hz:=c p s;have U:=(List.getElem?_eq_some_iff.1 z).1;refine war F (wat W (wap (λ b=>?_) λ b=>?_))
   .rw[zg]at b;unfold qjH;rw[if_pos (qFz s b)];exact waq _
   rw[qX]at b;refine wap (λ w=>?_) λ w=>?_
   .rw[zg]at w;unfold qjH;rw[if_pos (qEE s w)];exact waq _
   rw[qX]at w;let⟨b1,b2,b3,Z⟩:=ql5 c _ t;have O:(l.take i).length<=200:=by rw[wk];omega
   have B:=B λ q g=>by
    rw[qa2 z]at g;obtain g|g:=wi.1 g
    .exact t q g
    .rw[show q=p from by simpa using g];exact⟨s,w,b⟩
   rw[qa2 z,quX,qv1,quF,quH]at B;generalize jD (l.take i)=I at *;generalize jC (l.take i)=J at*
   have K:=qvK (P:=λ j=>Ev (λ m k=>(qp m k).2.2 l l.length i (-p.2) j 0 [] 0 p.1.kind p.1.name p.1.sort p.1.kids p.2 [] (I++List.replicate p.2.toNat p.1) (J++List.replicate j (apT qa4 [p.1]))) (qjH (jD l++jC l))) (-p.2) (by omega)
    (by
     refine waw ?_;simp only[qht,qbs];refine wau (qX.2 (by omega)) ?_;rw[V];exact B)
    (λ j E d e=>by
     refine waw ?_;simp only[qht,qbs,qt];rw[show T.mk p.1.kind p.1.name p.1.sort p.1.kids=p.1 from qt p.1,d];refine war (zg.2 E) (wao (qhW p.1 (by omega)) (wao (a:=apT qa4 [p.1]) (wax (waq _)) (war (Je (by rw[wd,ko];omega) (by omega)) ?_)));refine e.congr λ m k=>?_;rw[List.replicate_succ',wn])
   have M:=qvK (P:=λ j=>Ev (λ m k=>(qp m k).2.1 l l.length i p.2 j 0 [] 0 p.1.kind p.1.name p.1.sort p.1.kids p.2 [] (I++List.replicate j p.1) J) (qjH (jD l++jC l))) p.2 (by omega)
    (by
     refine waw ?_;simp only[qhs,qbr];refine wau (qX.2 (by omega)) ?_;rw[show iw .i64 (ja 0 p.2)=-p.2 from by unfold ja;rw[Qy (by omega)];omega];have:=K 0 (wh _);rw[List.replicate_zero,wx]at this;exact this)
    (λ j E d e=>by
     refine waw ?_;simp only[qhs,qbr,qt];rw[show T.mk p.1.kind p.1.name p.1.sort p.1.kids=p.1 from qt p.1,d];refine war (zg.2 E) (wao (qhW p.1 (by omega)) (war (Je (by rw[wd,ko];omega) (by omega)) ?_));refine e.congr λ m k=>?_;rw[List.replicate_succ',wn])
   have:=M 0 (wh _);rw[List.replicate_zero,wx]at this;exact this)
 refine way (L:=λ m k=>(qp m k).1 l l.length 0 0 [] 0 [] [] []) ?_;exact(D 0 (wh _)) (λ p A=>by rw[vD]at A;cases A)
theorem qEW(l:List Pw)(g:szP l<=100000000):Ev (λ m _=>qbZ m l) ((),l,()):=by
 have h:=qe4 l;refine wax ?_;simp only[qnW,qad]
 have a:=yb (P:=λ i=>Ev (λ m k=>jA m k l l.length i (l.take i)) ((),l,())) l (by omega)
  (λ b=>by
   refine waw ?_;simp only[qfM,qag];refine wau b ?_;rw[wV];exact waq _)
  (λ i p c j b e d f=>by
   refine waw ?_;simp only[qfM,qag,qt];have o:=qgO (wc c);have n:(l.take i).length<=l.length:=by rw[wk];omega
   refine war b (wat e (wao (qhW p.1 (by omega)) (war (Je (by omega) (by omega)) ?_)));rw[d];refine f.congr λ m k=>?_;rw[qa2 c])
 refine way (L:=λ m k=>jA m k l l.length 0 []) ?_;exact a 0 (wh _)
theorem qz3(p:Pw)(l:List Pw):qo1 (p::l)=((decide (p.2 < -1000)||decide (1000<p.2))||qo1 l):=rfl
theorem qFs(l:List Pw)(r:l.length<=1000000000):∃v,Ev (λ m _=>zr m l) v/\ile 0 v=qo1 l:=by
 have b:=yb (P:=λ i=>∃v,Ev (λ m k=>qr m k l l.length i) v/\ile 0 v=qo1 (l.drop i)) l (by omega)
  (λ a=>by
   refine⟨-1,waw ?_,by rw[xc];rfl⟩;simp only[zY,qM];exact wau a (waq _))
  (λ i p q n a f j o=>by
   let⟨v,c,d⟩:=o;rw[n,qz3]
   have e:Ev (λ m _=>qaI m (p.1,p.2)) (decide (p.2 < -1000)||decide (1000<p.2)):=by
    refine wax ?_;simp only[qlu,qbi];refine wap (λ h=>?_) λ h=>?_
    .rw[zg]at h;exact wav (by rw[decide_eq_true h];rfl)
    .rw[qX]at h;exact wav (by rw[decide_eq_false (show ¬ p.2 < -1000 by omega)];rfl)
   cases g:decide (p.2 < -1000)||decide (1000<p.2)with
   |true=>
     refine⟨i,waw ?_,by rw[ve,qgr];omega⟩;simp only[zY,qM,qt];exact war a (wat f (wao e (war g (waq _))))
   |false=>
     refine⟨v,waw ?_,by rw[vL];exact d⟩;simp only[zY,qM,qt];refine war a (wat f (wao e (wau g ?_)));rw[j];exact c)
 let⟨v,c,d⟩:=b 0 (wh _);refine⟨v,wax ?_,by rw[d,ke]⟩;simp only[qaj,zh];exact way (L:=λ m k=>qr m k l l.length 0) c
def qtM(l:List Pw):List Pw×Int:=if qo1 l then([],7)else if 200<l.length then([],3)else(l,0)
theorem qEP(l:List Pw)(c:l.length<=1000000000):Ev (λ m _=>qb0 m l) (qtM l):=by
 let⟨v,b,d⟩:=qFs l c;refine wax ?_;simp only[qnP,qcm]
 have e:Ev (λ m _=>zi m l) (qo1 l):=by
  refine wax ?_;simp only[JH,zH];exact wao b (wav d)
 unfold qtM;refine wao e (wap (λ h=>?_) λ h=>?_)
 .rw[if_pos h];exact waq _
 .rw[if_neg (by rw[h];decide)];refine wap (λ a=>?_) λ a=>?_
  .rw[zg]at a;rw[if_pos (by omega)];exact waq _
  .rw[qX]at a;rw[if_neg (by omega)];exact waq _
theorem qBn(S:Nat):∀l:List Pw,(∀p∈l,size p.1<=S)->szP l<=l.length*S
 |[],_=>by simp[szP]
 |p::l,h=>by
   have c:=qBn S l λ q a=>h q (we _ a);have b:=h p (wm ..);rw[Jw,wA,wN];omega
theorem qyB(a b:List Pw):qi1 a b=if Q6 a≠0 then([],Q6 a)else if Q6 b≠0 then([],Q6 b)else qtM (Ji a b):=rfl
theorem qkY{a b:List Pw}(f:Q6 a=0)(e:Q6 b=0)(j:Nat):
  JN (Ji a (b.take j))/\(Ji a (b.take j)).length<=400/\szP (Ji a (b.take j))<=160000/\Qx (Ji a (b.take j))<=400000:=by
 let⟨s,k,m,i⟩:=qcB f;let⟨r,v,l,h⟩:=qcB e;have d:∀p∈b.take j,p∈b:=λ p c=>wR c;let⟨A,g,z,q⟩:=qyE f e 400 (λ p c=>qah (i p c).1) (λ p c=>qah (h p c).1) j;have o:=qBn 400 _ q;let⟨y,_⟩:=qoG (b.take j) a;have x:=qjq 1000 a m;have w:=qjq 1000 (b.take j) λ p c=>l p (d p c);have n:(b.take j).length<=200:=by rw[wk];omega
 refine⟨qme _ _ s λ p c=>r.2 p (d p c),g,wD o (wo 400 g),?_⟩;have u:a.length*1000<=200*1000:=wo _ k;have t:(b.take j).length*1000<=200*1000:=wo _ n;omega
theorem qFh(a b:List Pw)(s:szP a<=100000000)(y:szP b<=100000000):Ev (λ m _=>qdZ m a b) (qi1 a b):=by
 have w:=qe4 b;refine wax ?_;simp only[qr7,qbX];rw[qyB];refine wao (ql1 a (by omega)) (wap (λ h=>?_) λ h=>?_)
 .rw[bnt,qs]at h;rw[if_pos h];exact waq _
 rw[bnf,qu]at h;rw[if_neg (by omega)];refine wao (ql1 b (by omega)) (wap (λ c=>?_) λ c=>?_)
 .rw[bnt,qs]at c;rw[if_pos c];exact waq _
 rw[bnf,qu]at c;rw[if_neg (by omega)];refine wao (qEW a s) ?_
 have d:=yb (P:=λ i=>Ev (λ m k=>QD m k b b.length i (Ji a (b.take i))) (qtM (Ji a b))) b (by omega)
  (λ e=>by
   refine waw ?_;simp only[qh5,qbY];rw[wV];let⟨_,j,_,_⟩:=qkY h c b.length;rw[wV]at j;exact wau e (wao (qEP _ (by omega)) (waq _)))
  (λ i p f x e r q t=>by
   refine waw ?_;simp only[qh5,qbY,qt];have g:=wc f;let⟨u,j,A,z⟩:=qkY h c i;let⟨_,_,o,l⟩:=qcB c;have v:=qah (l p g).1;have n:=o p g;refine war e (wat r (wao (qp7 u.1 p.1 p.2 (by omega) (by omega) (by omega)) ?_));rw[q];refine t.congr λ m k=>?_;rw[qa2 f,qAB])
 refine way (L:=λ m k=>QD m k b b.length 0 a) ?_;exact d 0 (wh _)
end Go.AmZ
namespace Go.AmZ
open Go Go.GxZ
end Go.AmZ
namespace Go.AmZ
open Go Go.GxZ
end Go.AmZ
namespace Go.AmZ
open Go Go.GxZ Go.Lib
theorem qBx{t:T}(h:qfS t=0):zl t=0/\zw t=0:=by
 unfold qfS at h;exact qdD h
theorem qt0{t:T}(h:zw t=0){n:List UInt8}(i:isN t n=true){a b c:Int}(g:zK n=(a,b,c)):a<=(t.kids.length:Int)/\(t.kids.length:Int)<=b/\∀k∈t.kids,zw k=0:=by
 obtain⟨d,rfl⟩:=qal.1 i;let⟨l,j⟩:=qft d h;let⟨_,f,e,_⟩:=qwx d l;rw[g]at f e;exact⟨f,e,j⟩
end Go.AmZ
namespace Go.AmZ
open Go Go.GxZ
def Cl(P:T->Prop):Prop:=∀t:T,t.kind=3->P t->∀k∈t.kids,P k
theorem qia:∀(n:Nat) (a b:List T),a.length+b.length<=n->∀x∈yI a b,x∈a\/x∈b
 |_,[],b,_,x,h=>by rw[yI]at h;exact .inr h
 |_,z::a,[],_,x,h=>by rw[yI]at h;exact .inl h
 |0,z::a,y::b,c,x,h=>by simp at c
 |n+1,z::a,y::b,c,x,h=>by
   simp only[wA]at c;rw[yI]at h;split at h
   .obtain rfl|h:=wG.1 h
    .exact .inl (wm ..)
    .rcases qia n a (y::b) (by simp;omega) x h with h|h
     .exact .inl (we _ h)
     .exact .inr h
   .split at h
    .obtain rfl|h:=wG.1 h
     .exact .inr (wm ..)
     .rcases qia n (z::a) b (by simp;omega) x h with h|h
      .exact .inl h
      .exact .inr (we _ h)
    .obtain h|h:=qia n a b (by omega) x h
     .exact .inl (we _ h)
     .exact .inr (we _ h)
theorem qgV:∀(b:List (List T)) (a:List T),∀x∈b.foldl yI a,x∈a\/∃l∈b,x∈l
 |[],a,x,h=>.inl h
 |l::b,a,x,h=>by
   obtain h|⟨m,c,h⟩:=qgV b (yI a l) x h
   .obtain h|h:=qia _ a l (wa _) x h
    .exact .inl h
    .exact .inr ⟨l,wm ..,h⟩
   .exact .inr ⟨m,we _ c,h⟩
theorem qDA{P:T->Prop}(g:Cl P)(t:T):P t->∀x∈JS t,P x:=by
 refine T.ind (P:=λ t=>P t->∀x∈JS t,P x) ?_ t;intro t d b x a;rw[qoY]at a;split at a
 .cases a
 .split at a
  .rename_i e;obtain h|⟨l,f,h⟩:=qgV _ _ x a
   .cases h
   .obtain⟨k,c,rfl⟩:=wC.1 f;exact d k c (g t (qal.1 e).1 b k c) x h
  .rw[wF.1 a];exact b
theorem qAD{P:T->Prop}(e:Cl P){l:List T}(h:∀k∈l,P k):∀x∈yK l,P x:=by
 intro x b;obtain a|⟨m,c,a⟩:=qgV _ _ x b
 .cases a
 .obtain⟨k,d,rfl⟩:=wC.1 c;exact qDA e k (h k d) x a
theorem qEN{P:T->Prop}{l:List Pw}{t:T}(n:Int)(a:P t)(c:∀p∈l,P p.1):∀p∈je l t n,P p.1:=by
 intro p b;obtain h|h:=qjM l t n p b
 .rw[h];exact a
 .exact c p h
theorem qE9{P:T->Prop}(f:Cl P)(t:T):P t->∀(l:List Pw) (n:Int),(∀p∈l,P p.1)->∀p∈jo t l n,P p.1:=by
 refine T.ind (P:=λ t=>P t->∀(l:List Pw) (n:Int),(∀p∈l,P p.1)->∀p∈jo t l n,P p.1) ?_ t;intro t d b l n a;rw[qgF];split
 .rename_i e;have g:=(qxW.1 e).1;exact qxf t.kids (qaU t n) (λ l=>∀p∈l,P p.1) (λ k c l a=>d k c (f t g b k c) l _ a) l a
 .exact qEN n b a
theorem qq6{P:T->Prop}(c:Cl P){t:T}(b:P t):∀p∈(ofP t).1,P p.1:=by
 intro p a;unfold ofP at a;split at a
 .cases a
 .split at a
  .cases a
  .split at a
   .cases a
   .exact qE9 c t b [] 1 (λ _ h=>by cases h) p a
theorem qEv{P:T->Prop}{a b:List Pw}(g:∀p∈a,P p.1)(f:∀p∈b,P p.1):∀p∈(qi1 a b).1,P p.1:=by
 intro p c;unfold qi1 at c;split at c
 .cases c
 .split at c
  .cases c
  .split at c
   .cases c
   .split at c
    .cases c
    .obtain⟨q,d,e⟩|⟨q,d,e⟩:=qoE b a p c
     .rw[<-e];exact g q d
     .rw[<-e];exact f q d
theorem qCQ{l:List Pw}{x:T}(h:x∈jD l):∃p∈l,x=p.1:=by
 unfold jD at h;let⟨p,a,h⟩:=wZ.1 h;exact⟨p,a,xG h⟩
theorem qD3{l:List Pw}{x:T}(h:x∈jC l):∃p∈l,x=apT qa4 [p.1]:=by
 unfold jC at h;let⟨p,a,h⟩:=wZ.1 h;exact⟨p,a,xG h⟩
theorem qaa:Cl λ t=>zw t=0:=λ t a h=>(qft a h).2
theorem qmK:∀(l:List Int),(∀y∈l,y=0)->l.foldl thn 0=0
 |[],_=>rfl
 |z::l,h=>by
   rw[Ju,h z (wm ..)];exact qmK l λ y a=>h y (we _ a)
theorem qfA{t:T}(h:qbO t=0)(c:∀k∈t.kids,zw k=0):zw t=0:=by
 rw[qnu];split
 .rfl
 .rw[h];refine qmK _ λ y b=>?_;obtain⟨k,a,rfl⟩:=wC.1 b;exact c k a
theorem qdF{n:List UInt8}{ks:List T}(b:(zK n).2.2≠0)(d:(zK n).1<=(ks.length:Int))(c:(ks.length:Int)<=(zK n).2.1)(a:qaG (apT n ks)=false):qbO (apT n ks)=0:=by
 unfold qbO;show(if(3:Int)≠3 then(0:Int)else if(zK n).2.2=0 then 10 else if(ks.length:Int)<(zK n).1\/(zK n).2.1<(ks.length:Int)then 6 else if qaG (apT n ks)then 10 else 0)=0;rw[if_neg (by decide),if_neg b,if_neg (by omega),a];rfl
theorem qgC{n:List UInt8}(c:n≠qom)(b:n≠nSk)(a:n≠qyw)(ks:List T):qaG (apT n ks)=false:=by
 unfold qaG;rw[if_neg (show ¬ (apT n ks).name=qom from c),if_neg (show ¬ ((apT n ks).name=nSk\/(apT n ks).name=qyw)from λ h=>h.elim b a)]
theorem qcr:zw zT=0:=by rw[qnu];rfl
theorem qey{P:T->Prop}(c:Cl P)(a:P zT){t:T}(d:t.kind=3)(b:P t)(i:Nat):P (kid t i):=by
 by_cases h:i<t.kids.length
 .exact c t d b _ (qxi h)
 .unfold kid;rw[List.getD_eq_getElem?_getD,List.getElem?_eq_none (by omega)];exact a
theorem qw1{P:T->Prop}(a:P zT){l:List T}(h:∀x∈l,P x):P (l.getD 0 zT):=by
 cases l with
 |nil=>exact a
 |cons x r=>exact h x (wm ..)
theorem qAq{t:T}(c:t.kind=3)(h:zl t=0):t.kids.length<=8:=by
 unfold zl at h;split at h
 .rename_i b;exact absurd h b
 .rename_i b;have a:=(qwC (t:=t) (by omega)).1;unfold QQ qkL at a;rw[if_neg (by omega),if_pos c]at a;split at a
  .cases a
  .split at a
   .split at a
    .cases a
    .omega
   .cases a
theorem qtd{l:List Pw}(f:∀p∈l,zw p.1=0)(h:(qbV l).2=0):zw (qbV l).1=0:=by
 by_cases b:Q6 l=0
 .rw[qs0 b]at h |-
  unfold qjH at h |-
  by_cases g:8<(jD l++jC l).length
  .rw[if_pos g]at h;cases h
  rw[if_neg g]at h |-
  by_cases e:zl (qck (jD l++jC l))=0
  .rw[if_neg (by omega)]
   have a:∀x∈jD l++jC l,zw x=0:=λ x c=>by
    obtain c|c:=wi.1 c
    .obtain⟨p,b,rfl⟩:=qCQ c;exact f p b
    .obtain⟨p,b,rfl⟩:=qD3 c;exact qfA (qdF (by decide) (by show(1:Int)<=1;decide) (by show(1:Int)<=1;decide) (qgC (by decide) (by decide) (by decide) _)) λ k d=>by rw[wF.1 d];exact f p b
   generalize jD l++jC l=o at *;unfold qck;split
   .exact qfA (qdF (by decide) (by show(0:Int)<=0;decide) (by show(0:Int)<=0;decide) (qgC (by decide) (by decide) (by decide) _)) λ k d=>by cases d
   .split
    .exact qw1 (P:=λ t=>zw t=0) qcr a
    .rename_i j i;exact qfA (qdF (by decide) (by show(2:Int)<=_;omega) (by show _<=(8:Int);omega) (qgC (by decide) (by decide) (by decide) _)) a
  .rw[if_pos e]at h;exact absurd h e
 .unfold qbV at h;rw[if_pos b]at h;exact absurd h b
theorem que{b:T}{l:List Pw}(e:zw b=0)(f:∀p∈l,zw p.1=0)(h:(qjW b l).2=0):zw (qjW b l).1=0:=by
 unfold qjW at h |-
 split at h
 .rename_i d;rw[if_pos d];exact e
 .rename_i d;rw[if_neg d];split at h
  .rename_i c;exact absurd h c
  .rename_i c;rw[if_neg c];refine qfA (qdF (by decide) (by show(2:Int)<=2;decide) (by show(2:Int)<=2;decide) (qgC (by decide) (by decide) (by decide) _)) λ k a=>?_;obtain rfl|a:=wG.1 a
   .exact e
   .rw[wF.1 a];exact qtd f (by omega)
theorem qCV{n:List UInt8}{ks:List T}(i:∀k∈ks,zw k=0)(A:qbO (apT n ks)=0)(a:(J1 (apT n ks)).2=0):zw (J1 (apT n ks)).1=0:=by
 have g:zw (apT n ks)=0:=qfA A i;unfold J1 at a |-
 by_cases w:isD (apT n ks).name=true
 .rw[if_pos w];show zw (qkc _)=0;unfold qkc;split
  .rename_i c
   have m:(kid (apT n ks) 0).kind=3:=by
    unfold qbw at c;split at c
    .exact(qal.1 c).1
    .split at c
     .rw[wb]at c;exact(qal.1 c.1).1
     .split at c
      .rw[wb,wb]at c;exact(qal.1 c.1.1).1
      .split at c
       .rw[wb,wb]at c;exact(qal.1 c.1.1).1
       .split at c
        .exact(qal.1 c).1
        .cases c
   exact qey qaa qcr m (qey qaa qcr rfl g 0) _
  .exact g
 rw[if_neg w]at a |-
 by_cases s:(apT n ks).name=qfa
 .rw[if_pos s]at a |-
  unfold qsj at a |-
  split at a
  .rename_i d;exact absurd a d
  rename_i d;rw[if_neg d];split at a
  .cases a
  rename_i h;rw[if_neg h];show zw (qby (yK ks))=0
  have l:zl (qby (yK ks))=0:=by
   have:¬ zl (qby (yK (apT n ks).kids))≠0:=h;exact xk this
  have f:=qAD qaa i;generalize yK ks=o at *;unfold qby at l |-
  split
  .exact qfA (qdF (by decide) (by show(0:Int)<=0;decide) (by show(0:Int)<=0;decide) (qgC (by decide) (by decide) (by decide) _)) λ k z=>by cases z
  .rename_i C;split
   .exact qw1 (P:=λ t=>zw t=0) qcr f
   .rename_i B;rw[if_neg C,if_neg B]at l;have x:o.length<=8:=qAq (t:=apT qfa o) rfl l;exact qfA (qdF (by decide) (by show(2:Int)<=_;omega) (by show _<=(8:Int);omega) (qgC (by decide) (by decide) (by decide) _)) f
 rw[if_neg s]at a |-
 by_cases u:(apT n ks).name=qf0\/(apT n ks).name=qa4\/(apT n ks).name=qi9
 .rw[if_pos u]at a |-
  unfold qq0 at a |-
  split at a
  .rename_i d;exact absurd a d
  rename_i d;rw[if_neg d];exact qtd (qq6 qaa g) a
 rw[if_neg u]at a |-
 by_cases v:(apT n ks).name=qhn
 .rw[if_pos v]at a |-
  have p:=qey qaa qcr (t:=apT n ks) rfl g 0;have r:=qey qaa qcr (t:=apT n ks) rfl g 1;generalize kid (apT n ks) 0=b at *;generalize kid (apT n ks) 1=y at *;unfold qrD at a |-
  split at a
  .rename_i d;exact absurd a d
  rename_i d;rw[if_neg d];split at a
  .rename_i e;rw[if_pos e];split at a
   .rename_i h;exact absurd a h
   rename_i h;rw[if_neg h];split at a
   .rename_i q;exact absurd a q
   rename_i q;rw[if_neg q];have j:=(qal.1 e).1;exact que (qey qaa qcr j p 0) (qEv (P:=λ t=>zw t=0) (qq6 qaa (qey qaa qcr j p 1)) (qq6 qaa r)) a
  .rename_i e;rw[if_neg e];exact que p (qq6 qaa r) a
 .rw[if_neg v];exact g
theorem qgK:size zT=1:=by rw[zy];rfl
theorem qdg(t:T)(i:Nat):size (kid t i)<=size t:=by
 have:=size_pos t;by_cases h:i<t.kids.length
 .have:=qa5 t _ (qxi h);omega
 .unfold kid;rw[List.getD_eq_getElem?_getD,List.getElem?_eq_none (by omega)];show size zT<=_;rw[qgK];omega
theorem qvY(l:List Pw):size (qbV l).1<=400:=by
 unfold qbV;have:=qgK;split
 .show size zT<=_;omega
 .split
  .show size zT<=_;omega
  .split
   .show size zT<=_;omega
   .rename_i h;exact qah (xk h)
theorem qxJ(b:T)(l:List Pw):size (qjW b l).1<=401+size b:=by
 unfold qjW;have:=qgK;have:=qvY l;split
 .show size b<=_;omega
 .split
  .show size zT<=_;omega
  .rw[zy];show 1+(size b+(size (qbV l).1+0))<=_;omega
theorem qFm(n:List UInt8)(ks:List T):size (J1 (apT n ks)).1<=402+szL ks:=by
 have d:=qgK;have e:size (apT n ks)=1+szL ks:=zy _;unfold J1;split
 .show size (qkc _)<=_;unfold qkc;split
  .have a:=qdg (apT n ks) 0;have c:=qdg (kid (apT n ks) 0) (if(apT n ks).name=qug then 1 else 0);omega
  .omega
 .split
  .unfold qsj;split
   .show size zT<=_;omega
   .split
    .show size zT<=_;omega
    .have a:=qFq (yK (apT n ks).kids);have c:=qiF (apT n ks).kids;have f:szL (apT n ks).kids=szL ks:=rfl;show size (qby _)<=_;omega
  .split
   .unfold qq0;split
    .show size zT<=_;omega
    .have:=qvY (ofP (apT n ks)).1;omega
   .split
    .have g:=qdg (apT n ks) 0;generalize kid (apT n ks) 0=b at *;generalize kid (apT n ks) 1=y at *;unfold qrD;split
     .show size zT<=_;omega
     .split
      .split
       .show size zT<=_;omega
       .split
        .show size zT<=_;omega
        .have a:=qxJ (kid b 0) (qi1 (ofP (kid b 1)).1 (ofP y).1).1;have c:=qdg b 0;omega
      .have a:=qxJ b (ofP y).1;omega
    .show size (apT n ks)<=_;omega
theorem qxp(t:T):size (zO t).1<=402*size t:=by
 refine T.ind (P:=λ t=>size (zO t).1<=402*size t) ?_ t;intro t b;have f:=qgK;have g:=size_pos t;rw[qm4];split
 .show size t<=_;omega
 .split
  .show size zT<=_;omega
  .have e:=qFm t.name ((t.kids.map zO).map (·.1))
   have d:szL ((t.kids.map zO).map (·.1))<=402*szL t.kids:=by
    have:∀l:List T,(∀k∈l,k∈t.kids)->szL ((l.map zO).map (·.1))<=402*szL l:=by
     intro l
     induction l with
     |nil=>intro _;exact wa _
     |cons k l a=>
       intro h;have e:=b k (h k (wm ..));have d:=a λ x c=>h x (we _ c);rw[wv,wv,zX,zX];omega
    exact this t.kids λ _ h=>h
   have i:size t=1+szL t.kids:=zy t;omega
theorem qn2:∀(l:List Int),l.foldl thn 0=0->∀y∈l,y=0
 |[],_,y,a=>by cases a
 |z::l,h,y,a=>by
   rw[Ju]at h;by_cases b:z=0
   .subst b;obtain rfl|a:=wG.1 a
    .rfl
    .exact qn2 l h y a
   .rw[zp _ b]at h;exact absurd h b
theorem qiE{t:T}(h:t.kind≠3):zO t=(t,0):=by rw[qm4,if_pos h]
theorem qDL{t:T}(d:t.kind=3)(h:(zO t).2=0):(∀k∈t.kids,(zO k).2=0)/\zO t=J1 (apT t.name ((t.kids.map zO).map (·.1))):=by
 rw[qm4,if_neg (λ c=>c d)]at h |-
 split at h
 .rename_i a;exact absurd h a
 .rename_i a;rw[if_neg a];refine⟨λ k b=>?_,rfl⟩;exact qn2 _ (xk a) _ (wC.2 ⟨_,wC.2 ⟨k,b,rfl⟩,rfl⟩)
theorem qDs(l:List T)(h:∀k∈l,k.kind≠3):(l.map zO).map (·.1)=l:=by
 induction l with
 |nil=>rfl
 |cons k l a=>
   rw[wv,wv,qiE (h k (wm ..)),a λ x b=>h x (we _ b)]
theorem qwm{t:T}(j:t.kind=3)(h:qbO t=0):qbO (apT t.name ((t.kids.map zO).map (·.1)))=0:=by
 let⟨m,l,i,b⟩:=qwx j h;refine qdF m (by simpa using l) (by simpa using i) ?_;unfold qaG at b |-
 show(if t.name=qom then decide ((kid (apT t.name ((t.kids.map zO).map (·.1))) 0).kind≠2)else if t.name=nSk\/t.name=qyw then((t.kids.map zO).map (·.1)).any λ k=>decide (k.kind=3)||decide (k.sort≠1)else false)=false;split
 .rename_i c;rw[if_pos c]at b;have a:(kid t 0).kind=2:=by simpa using b
  cases e:t.kids with
  |nil=>
    unfold kid at a;rw[e]at a;exact absurd a (by decide)
  |cons x r=>
    have f:kid t 0=x:=by unfold kid;rw[e];rfl
    rw[f]at a;show decide ((zO x).1.kind≠2)=false;rw[qiE (by omega)];simpa using a
 .rename_i c;rw[if_neg c]at b;split
  .rename_i g;rw[if_pos g]at b;rw[qDs t.kids λ k a d=>?_]
   .exact b
   .have:=List.any_eq_false.1 b k a;rw[d]at this;exact this rfl
  .rfl
theorem qDv(t:T):zw t=0->(zO t).2=0->zw (zO t).1=0:=by
 refine T.ind (P:=λ t=>zw t=0->(zO t).2=0->zw (zO t).1=0) ?_ t;intro t e d c;by_cases a:t.kind=3
 .let⟨i,h⟩:=qDL a c;let⟨m,l⟩:=qft a d;rw[h]at c |-
  refine qCV (λ k g=>?_) (qwm a m) c;obtain⟨q,f,rfl⟩:=wC.1 g;obtain⟨j,b,rfl⟩:=wC.1 f;exact e j b (l j b) (i j b)
 .rw[qiE a];exact d
end Go.AmZ
namespace Go.AmZ
open Go Go.GxZ
theorem j8(t:T){b:Bool}(h:qbw t=b):qkc t=if b then kid (kid t 0) (if t.name=qug then 1 else 0)else t:=by unfold qkc;rw[h]
theorem qhh{t:T}(h:zw t=0){n:List UInt8}(e:isN t n=true){a b c:Int}(d:zK n=(a,b,c)){i:Nat}(f:(i:Int)<a):qh t.kids (i:Int)=some (kid t i):=by
 have:=(qt0 h e d).1;exact qrZ (by omega)
theorem qy9(t:T)(J:t.kind=3)(I:zw t=0)(D:isD t.name=true)(L:size t<=1000000000):Ev (λ m _=>qaX m t) (qkc t):=by
 have B:∀i,size (kid t i)<=size t:=qdg t;have r:∀i j,size (kid (kid t i) j)<=1000000000:=λ i j=>by have:=qdg (kid t i) j;have:=B i;omega
 have v:∀i j k,size (kid (kid (kid t i) j) k)<=1000000000:=λ i j k=>by have:=qdg (kid (kid t i) j) k;have:=r i j;omega
 have f:∀i,zw (kid t i)=0:=λ i=>qey qaa qcr J I i;have x:∀i j,(kid t i).kind=3->zw (kid (kid t i) j)=0:=λ i j h=>qey qaa qcr h (f i) j;have A:isN t t.name=true:=qal.2 ⟨J,rfl⟩;have H:∀{u:T}{n:List UInt8},zw u=0->isN u n=true->∀{b c:Int},zK n=(1,b,c)->qh u.kids 0=some (kid u 0):=λ h d _ _ e=>qhh (i:=0) h d e (by decide);have q:∀{u:T}{n:List UInt8},zw u=0->isN u n=true->∀{b c:Int},zK n=(2,b,c)->qh u.kids 0=some (kid u 0):=λ h d _ _ e=>qhh (i:=0) h d e (by decide);have p:∀{u:T}{n:List UInt8},zw u=0->isN u n=true->∀{b c:Int},zK n=(2,b,c)->qh u.kids 1=some (kid u 1):=λ h d _ _ e=>qhh (i:=1) h d e (by decide);have E:zK qtO=(2,2,1):=by decide
 have G:zK qvc=(2,2,1):=by decide
 have z:zK qqF=(2,2,1):=by decide
 have F:zK nPk=(1,1,1):=by decide
 have y:zK qjI=(2,2,1):=by decide
 unfold isD at D;simp only[wT,beq_iff_eq]at D;refine wax ?_;simp only[qoO,qc2,qt]
 have l:∀{a b c:Int},zK t.name=(a,b,c)->a=b->(t.kids.length:Int)=a:=λ e K=>by
  have:=qt0 I A e;omega
 obtain ((((d|d)|d)|d)|d)|d:=D
 .have w:=l (a:=1) (b:=1) (c:=3) (by rw[d];decide) rfl;refine wat (qkt (by omega)) (wau (qX.2 (by omega)) (war (by rw[d];rfl) (wao (qgb _ _) ?_)));have g:qbw t=isN (kid t 0) qtO:=by unfold qbw;rw[if_pos (.inl d)]
  refine wap (λ h=>?_) λ h=>?_
  .refine wat (q (f 0) h E) (wav ?_);rw[j8 t (g.trans h),if_pos rfl,if_neg (by rw[d];decide)]
  .refine wav ?_;rw[j8 t (g.trans h),if_neg (by decide)]
 .have w:=l (a:=1) (b:=1) (c:=3) (by rw[d];decide) rfl;refine wat (qkt (by omega)) (wau (qX.2 (by omega)) (wau (by rw[d];rfl) (war (by rw[d];rfl) (wao (qgb _ _) ?_))));have g:qbw t=isN (kid t 0) qtO:=by unfold qbw;rw[if_pos (.inr d)]
  refine wap (λ h=>?_) λ h=>?_
  .refine wat (p (f 0) h E) (wav ?_);rw[j8 t (g.trans h),if_pos rfl,if_pos d]
  .refine wav ?_;rw[j8 t (g.trans h),if_neg (by decide)]
 .have w:=l (a:=2) (b:=2) (c:=3) (by rw[d];decide) rfl;refine wat (qkt (by omega)) (war (zg.2 (by omega)) (wat (qyF (by omega)) (wau (by rw[d];rfl) (wau (by rw[d];rfl) (war (by rw[d];rfl) (wao (qgb _ _) ?_))))));have g:qbw t=(isN (kid t 0) qvc&&qbt (kid (kid t 0) 1) (kid t 1)):=by unfold qbw;rw[if_neg (by rw[d];decide),if_pos d]
  refine wap (λ h=>?_) λ h=>?_
  .refine wat (p (f 0) h G) (wao (qk2 _ _ (r 0 1) (by have:=B 1;omega)) (wap (λ o=>?_) λ o=>?_))
   .refine wat (q (f 0) h G) (wav ?_);rw[j8 t (b:=true) (by rw[g,show isN (kid t 0) qvc=true from h,o];rfl),if_pos rfl,if_neg (by rw[d];decide)]
   .refine wav ?_;rw[j8 t (b:=false) (by rw[g,o,xD]),if_neg (by decide)]
  .refine wav ?_;rw[j8 t (b:=false) (by rw[g,show isN (kid t 0) qvc=false from h];rfl),if_neg (by decide)]
 .have w:=l (a:=2) (b:=2) (c:=3) (by rw[d];decide) rfl;refine wat (qkt (by omega)) (war (zg.2 (by omega)) (wat (qyF (by omega)) (wau (by rw[d];rfl) (wau (by rw[d];rfl) (wau (by rw[d];rfl) (war (by rw[d];rfl) (wao (qgb _ _) ?_)))))));have g:qbw t=(isN (kid t 0) qqF&&isN (kid (kid t 0) 1) nPk&&qbt (kid (kid (kid t 0) 1) 0) (kid t 1)):=by unfold qbw;rw[if_neg (by rw[d];decide),if_neg (by rw[d];decide),if_pos d]
  refine wap (λ h=>?_) λ h=>?_
  .have C:=(qal.1 h).1;refine wat (p (f 0) h z) (wao (qgb _ _) (wap (λ o=>?_) λ o=>?_))
   .refine wat (p (f 0) h z) (wat (H (x 0 1 C) o F) (wao (qk2 _ _ (v 0 1 0) (by have:=B 1;omega)) (wap (λ s=>?_) λ s=>?_)))
    .refine wat (q (f 0) h z) (wav ?_);rw[j8 t (b:=true) (by rw[g,show isN (kid t 0) qqF=true from h,show isN (kid (kid t 0) 1) nPk=true from o,s];rfl),if_pos rfl,if_neg (by rw[d];decide)]
    .refine wav ?_;rw[j8 t (b:=false) (by rw[g,s,xD]),if_neg (by decide)]
   .refine wav ?_;rw[j8 t (b:=false) (by rw[g,show isN (kid (kid t 0) 1) nPk=false from o,xD,k8]),if_neg (by decide)]
  .refine wav ?_;rw[j8 t (b:=false) (by rw[g,show isN (kid t 0) qqF=false from h];rfl),if_neg (by decide)]
 .have w:=l (a:=2) (b:=2) (c:=3) (by rw[d];decide) rfl;refine wat (qkt (by omega)) (war (zg.2 (by omega)) (wat (qyF (by omega)) (wau (by rw[d];rfl) (wau (by rw[d];rfl) (wau (by rw[d];rfl) (wau (by rw[d];rfl) (war (by rw[d];rfl) (wao (qgb _ _) ?_))))))));have g:qbw t=(isN (kid t 0) qjI&&isN (kid t 1) nPk&&qbt (kid (kid t 0) 1) (kid (kid t 1) 0)):=by unfold qbw;rw[if_neg (by rw[d];decide),if_neg (by rw[d];decide),if_neg (by rw[d];decide),if_pos d]
  refine wap (λ h=>?_) λ h=>?_
  .refine wao (qgb _ _) (wap (λ o=>?_) λ o=>?_)
   .refine wat (p (f 0) h y) (wat (H (f 1) o F) (wao (qk2 _ _ (r 0 1) (r 1 0)) (wap (λ s=>?_) λ s=>?_)))
    .refine wat (q (f 0) h y) (wav ?_);rw[j8 t (b:=true) (by rw[g,show isN (kid t 0) qjI=true from h,show isN (kid t 1) nPk=true from o,s];rfl),if_pos rfl,if_neg (by rw[d];decide)]
    .refine wav ?_;rw[j8 t (b:=false) (by rw[g,s,xD]),if_neg (by decide)]
   .refine wav ?_;rw[j8 t (b:=false) (by rw[g,show isN (kid t 1) nPk=false from o,xD,k8]),if_neg (by decide)]
  .refine wav ?_;rw[j8 t (b:=false) (by rw[g,show isN (kid t 0) qjI=false from h];rfl),if_neg (by decide)]
 .have w:=l (a:=1) (b:=1) (c:=3) (by rw[d];decide) rfl;refine wat (qkt (by omega)) (wau (qX.2 (by omega)) (wau (by rw[d];rfl) (wau (by rw[d];rfl) (wau (by rw[d];rfl) (wau (by rw[d];rfl) (wau (by rw[d];rfl) (war (by rw[d];rfl) (wao (qgb _ _) ?_))))))));have g:qbw t=isN (kid t 0) qjI:=by unfold qbw;rw[if_neg (by rw[d];decide),if_neg (by rw[d];decide),if_neg (by rw[d];decide),if_neg (by rw[d];decide),if_pos d]
  refine wap (λ h=>?_) λ h=>?_
  .refine wat (q (f 0) h y) (wav ?_);rw[j8 t (g.trans h),if_pos rfl,if_neg (by rw[d];decide)]
  .refine wav ?_;rw[j8 t (g.trans h),if_neg (by decide)]
end Go.AmZ
namespace Go.AmZ
open Go Go.GxZ
end Go.AmZ
namespace Go.AmZ
open Go Go.GxZ
theorem qp9(t:T):szP (ofP t).1<=400:=by
 unfold ofP;split
 .exact wh _
 .rename_i h;split
  .exact wh _
  .split
   .exact wh _
   .have c:=qxl t [] 1;have b:=qah (xk h);have a:szP ([]:List Pw)=0:=rfl;show szP (jo t [] 1)<=_;omega
theorem qEo(a b:List Pw):szP (qi1 a b).1<=160000:=by
 unfold qi1;split
 .exact wh _
 .rename_i d;split
  .exact wh _
  .rename_i c;split
   .exact wh _
   .split
    .exact wh _
    .let⟨_,_,h,_⟩:=qkY (xk d) (xk c) b.length;rw[wV]at h;exact h
theorem qCO(b e:T)(k:zw b=0)(n:size b<=1000000000)(j:size e<=1000000000):Ev (λ m _=>qem m b e) (qrD b e):=by
 refine wax ?_;simp only[qrr,qeB,qt]
 have g:∀(l:List Pw) (x:T),szP l<=1000000000->Ev (λ m _=>cond (ieq (l.length:Int) 0) (some (x,(0:Int))) (qb (Qu m l) λ v=>cond (qf (ieq v.2 0)) (some (T.mk 0 [] 0 [],v.2)) (qb (qeA m [101,120,112] [x,v.1]) λ w=>some (w,0)))) (qjW x l):=by
  intro l x o;unfold qjW;refine wap (λ h=>?_) λ h=>?_
  .rw[qu]at h;rw[if_pos (by omega)];exact waq _
  .rw[qs]at h;rw[if_neg (by omega)];refine wao (quk l o) (wap (λ h=>?_) λ h=>?_)
   .rw[bnt,qs]at h;rw[if_pos h];exact waq _
   .rw[bnf,qu]at h;rw[if_neg (by omega)];exact wao (qGc _ _) (waq _)
 unfold qrD;refine wao (qvb e j) (wap (λ h=>?_) λ h=>?_)
 .rw[bnt,qs]at h;rw[if_pos h];exact waq _
 rw[bnf,qu]at h;rw[if_neg (by omega)];refine wao (qgb _ _) (wap (λ f=>?_) λ f=>?_)
 .rw[if_pos (show isN b qhn=true from f)];have s:=qdg b 1;refine wat (qhh (i:=1) k f (a:=2) (b:=2) (c:=1) (by decide) (by decide)) (wao (qvb _ (by omega)) (wap (λ d=>?_) λ d=>?_))
  .rw[bnt,qs]at d;rw[if_pos d];exact waq _
  rw[bnf,qu]at d;rw[if_neg (by omega)];have r:=qp9 (kid b 1);have p:=qp9 e;have q:=qEo (ofP (kid b 1)).1 (ofP e).1;refine wao (qFh _ _ (by omega) (by omega)) (wap (λ d=>?_) λ d=>?_)
  .rw[bnt,qs]at d;rw[if_pos d];exact waq _
  rw[bnf,qu]at d;rw[if_neg (by omega)];exact wat (qhh (i:=0) k f (a:=2) (b:=2) (c:=1) (by decide) (by decide)) (g _ _ (by omega))
 .rw[if_neg (by rw[show isN b qhn=false from f];decide)];have p:=qp9 e;exact g _ _ (by omega)
theorem qB0{t:T}(h:isD t.name=true):J1 t=(qkc t,0):=by unfold J1;rw[if_pos h]
theorem qB6{t:T}(h:t.name=qfa):J1 t=qsj t.kids:=by unfold J1;rw[if_neg (by rw[h];decide),if_pos h]
theorem qDh{t:T}(h:t.name=qf0\/t.name=qa4\/t.name=qi9):J1 t=qq0 t:=by
 unfold J1;rw[if_neg (by obtain h|h|h:=h<;>rw[h]<;>decide),if_neg (by obtain h|h|h:=h<;>rw[h]<;>decide),if_pos h]
theorem qDG{t:T}(h:t.name=qhn):J1 t=qrD (kid t 0) (kid t 1):=by
 unfold J1;rw[if_neg (by rw[h];decide),if_neg (by rw[h];decide),if_neg (by rw[h];decide),if_pos h]
theorem qBh{t:T}(d:isD t.name=false)(c:t.name≠qfa)(b:¬ (t.name=qf0\/t.name=qa4\/t.name=qi9))(a:t.name≠qhn):J1 t=(t,0):=by
 unfold J1;rw[if_neg (by rw[d];decide),if_neg c,if_neg b,if_neg a]
def nks(l:List T):List T:=(l.map zO).map (·.1)
theorem qw9(l:List T):(nks l).length=l.length:=by unfold nks;simp
theorem qFO(l:List T):szL (nks l)<=402*szL l:=by
 induction l with
 |nil=>exact wa _
 |cons k l a=>
   have:=qxp k;show szL ((zO k).1::nks l)<=_;rw[zX,zX];omega
theorem qEa{l:List T}{i:Nat}{x:T}(h:l[i]?=some x):nks (l.take (i+1))=nks (l.take i)++[(zO x).1]:=by
 unfold nks;rw[qa2 h,kh,kh];rfl
def erN(l:List T):Int:=((l.map zO).map (·.2)).foldl thn 0
theorem qCK{l:List T}{i:Nat}{x:T}(h:l.drop i=x::l.drop (i+1)):erN (l.drop i)=if(zO x).2≠0 then(zO x).2 else erN (l.drop (i+1)):=by
 unfold erN;rw[h,wv,wv];by_cases a:(zO x).2=0
 .rw[if_neg (by omega),a];rfl
 .rw[if_pos a];exact zp _ a
theorem qFd{t:T}(a:t.kind=3):zO t=if erN t.kids≠0 then(zT,erN t.kids)else J1 (apT t.name (nks t.kids)):=by rw[qm4,if_neg (λ h=>h a)];rfl
theorem qFb{t:T}(c:t.kind=3)(f:zw t=0)(e:∀k∈t.kids,(zO k).2=0):zw (apT t.name (nks t.kids))=0/\∀k∈nks t.kids,zw k=0:=by
 let⟨h,g⟩:=qft c f
 have a:∀k∈nks t.kids,zw k=0:=λ k a=>by
  obtain⟨q,d,rfl⟩:=wC.1 a;obtain⟨j,b,rfl⟩:=wC.1 d;exact qDv j (g j b) (e j b)
 exact⟨qfA (qwm c h) a,a⟩
theorem qA1(t:T):size t<=2000->zw t=0->Ev (λ m _=>zZ m t) (zO t):=by
 induction t using T.ind with
 |h t F=>
   intro hs E;have hl:=Q3 t;have hz:=zy t;refine wax ?_;simp only[qqM,qbq,qt];by_cases n:t.kind=3
   rotate_left
   .refine war (bnt.2 (qs.2 n)) (wav (qiE n).symm)
   refine wau (bnf.2 (qu.2 n)) ?_;rw[qFd n];have y:=(qft n E).2
   have s:=yb (P:=λ i=>(∀k∈t.kids.take i,(zO k).2=0)->Ev (λ m k=>Qo m (zZ m) k t.kids t.kids.length i t.kind t.name t.sort t.kids 0 [] 0 3 t.name 0 [] (nks (t.kids.take i))) (if erN (t.kids.drop i)≠0 then(zT,erN (t.kids.drop i))else J1 (apT t.name (nks t.kids)))) t.kids (by omega)
    (λ g q=>by
     refine waw ?_;simp only[qhj,qbb,qt];refine wau g ?_;rw[wV]at q |-
     rw[xc,if_neg (show ¬ erN []≠0 from λ h=>h rfl)];let⟨r,c2⟩:=qFb n E q;have Y:=qFO t.kids;have X:szL t.kids+1=size t:=by unfold szL;omega
     have H:=qw9 t.kids;generalize nks t.kids=ks at *;have G:T.mk 3 t.name 0 ks=apT t.name ks:=rfl;rw[G];have W:size (apT t.name ks)=1+szL ks:=zy _
     have e:isD t.name=true->Ev (λ m _=>qb (qaX m (apT t.name ks)) λ v=>some (v,(0:Int))) (J1 (apT t.name ks)):=λ l=>by
      rw[qB0 (show isD (apT t.name ks).name=true from l)];exact wao (qy9 _ rfl r l (by omega)) (waq _)
     have f:t.name=qf0\/t.name=qa4\/t.name=qi9->Ev (λ m _=>qb (qay m (apT t.name ks)) λ v=>cond (qf (ieq v.2 0)) (some (T.mk 0 [] 0 [],v.2)) (qb (Qu m v.1) λ w=>some (w.1,w.2))) (J1 (apT t.name ks)):=λ p=>by
      rw[qDh (show(apT t.name ks).name=qf0\/(apT t.name ks).name=qa4\/(apT t.name ks).name=qi9 from p)];unfold qq0;have A:=qp9 (apT t.name ks);refine wao (qvb _ (by omega)) (wap (λ h=>?_) λ h=>?_)
      .rw[bnt,qs]at h;rw[if_pos h];exact waq _
      .rw[bnf,qu]at h;rw[if_neg (by omega)];exact wao (quk _ (by omega)) (waq _)
     refine wap (λ h=>e (by rw[Qb.1 h];decide)) λ V=>?_;refine wap (λ h=>e (by rw[Qb.1 h];decide)) λ U=>?_;refine wap (λ h=>e (by rw[Qb.1 h];decide)) λ B=>?_;refine wap (λ h=>e (by rw[Qb.1 h];decide)) λ A=>?_;refine wap (λ h=>e (by rw[Qb.1 h];decide)) λ S=>?_;refine wap (λ h=>e (by rw[Qb.1 h];decide)) λ R=>?_;refine wap (λ h=>?_) λ Q=>?_
     .rw[qB6 (show(apT t.name ks).name=qfa from Qb.1 h)];exact wao (qEO ks (by omega)) (waq _)
     refine wap (λ h=>f (.inl (Qb.1 h))) λ O=>?_;refine wap (λ h=>f (.inr (.inl (Qb.1 h)))) λ N=>?_;refine wap (λ h=>f (.inr (.inr (Qb.1 h)))) λ D=>?_;refine wap (λ h=>?_) λ C=>?_
     .have d:t.name=qhn:=Qb.1 h;rw[qDG (show(apT t.name ks).name=qhn from d)];have o:isN (apT t.name ks) qhn=true:=qal.2 ⟨rfl,d⟩;have q0:=qdg (apT t.name ks) 0;have Z:=qdg (apT t.name ks) 1;refine wat (qhh (t:=apT t.name ks) (i:=0) r o (a:=2) (b:=2) (c:=1) (by decide) (by decide)) (wat (qhh (t:=apT t.name ks) (i:=1) r o (a:=2) (b:=2) (c:=1) (by decide) (by decide)) ?_);exact wao (qCO _ _ (qey qaa qcr rfl r 0) (by omega) (by omega)) (waq _)
     .rw[qBh (t:=apT t.name ks) (show isD t.name=false from by
         rw[<-kG];intro l;unfold isD at l;simp only[wT,beq_iff_eq]at l;obtain ((((d|d)|d)|d)|d)|d:=l
         .exact qai.1 V d
         .exact qai.1 U d
         .exact qai.1 B d
         .exact qai.1 A d
         .exact qai.1 S d
         .exact qai.1 R d) (qai.1 Q) (λ h=>by obtain h|h|h:=h;exact qai.1 O h;exact qai.1 N h;exact qai.1 D h) (qai.1 C)]
      exact waq _)
    (λ i x u l g M K z q=>by
     refine waw ?_;simp only[qhj,qbb,qt];have p:=wc u;have I:=qa5 t x p;rw[qCK l];refine war g (wat M (wao (F x p (by omega) (y x p)) (wap (λ h=>?_) λ h=>?_)))
     .rw[bnt,qs]at h;rw[if_pos (show(if(zO x).2≠0 then(zO x).2 else erN (t.kids.drop (i+1)))≠0 from by rw[if_pos h];exact h),if_pos h];exact waq _
     .rw[bnf,qu]at h;rw[if_neg (show ¬ (zO x).2≠0 from by omega)];have A:(nks (t.kids.take i)).length<=t.kids.length:=by rw[qw9,wk];omega
      refine war (Je (by omega) (by omega)) ?_
      have z:=z λ k j=>by
       rw[qa2 u]at j;obtain j|j:=wi.1 j
       .exact q k j
       .rw[wF.1 j];exact h
      rw[K];refine z.congr λ m k=>?_;rw[qEa u])
   have J:=n;refine way (L:=λ m k=>Qo m (zZ m) k t.kids t.kids.length 0 t.kind t.name t.sort t.kids 0 [] 0 3 t.name 0 [] []) ?_;exact(s 0 (wh _)) (λ k j=>by rw[vD]at j;cases j)
theorem qqa(t:T):qgB t=if qfS t≠0 then(zT,qfS t)else if(zO t).2≠0 then(zT,(zO t).2)else if zl (zO t).1≠0 then(zT,zl (zO t).1)else zO t:=rfl
theorem qzK(t:T)(d:size t<=1000000000):Ev (λ m _=>qdu m t) (qgB t):=by
 refine wax ?_;simp only[qpO,qdB,qt];rw[qqa];refine wao (qES t d) (wap (λ h=>?_) λ h=>?_)
 .rw[bnt,qs]at h;rw[if_pos h];exact waq _
 rw[bnf,qu]at h;rw[if_neg (by omega)];let⟨c,e⟩:=qBx h;have f:=qah c;have g:=qxp t;refine wao (qA1 t (by omega) e) (wap (λ a=>?_) λ a=>?_)
 .rw[qu]at a;rw[if_neg (by omega)];refine wao (qa7 _ (by omega)) (wap (λ b=>?_) λ b=>?_)
  .rw[bnt,qs]at b;rw[if_pos b];exact waq _
  .rw[bnf,qu]at b;rw[if_neg (by omega)];exact wav (by rw[<-a])
 .rw[qs]at a;rw[if_pos a];exact war (bnt.2 (qs.2 a)) (waq _)
theorem qzr(t:T):size (qgB t).1<=400:=by
 rw[qqa];have:=qgK;split
 .show size zT<=_;omega
 .split
  .show size zT<=_;omega
  .split
   .show size zT<=_;omega
   .rename_i h;exact qah (xk h)
end Go.AmZ
namespace Go.AmZ
open Go Go.GxZ
def qje(p:List UInt8->Bool):T->Bool:=T.para λ t a=>(!(t.kind==3)||p t.name)&&a.all id
theorem qzT(p:List UInt8->Bool)(t:T):qje p t=((!(t.kind==3)||p t.name)&&(t.kids.map (qje p)).all id):=T.para_eq _ _
def qzG:T->List T:=T.para λ t a=>t::a.flatten
theorem qEC(t:T):qzG t=t::(t.kids.map qzG).flatten:=T.para_eq _ _
def pPl(n:List UInt8):Bool:=qf (ieq (zK n).2.2 3)
theorem qA6(n:List UInt8):Ev (λ m _=>qcT m n) (pPl n):=by
 refine wax ?_;simp only[qoM,qcW];refine wao (qsA n) (wav ?_);unfold pPl;rw[<-qvO]
theorem qAL(t:T):size t<=1000000000->Ev (λ m _=>qO m t) (qje pPl t):=by
 induction t using T.ind with
 |h t j=>
   intro r;have s:=Q3 t;refine wax ?_;simp only[qjL,QZ]
   have d:=yb (P:=λ i=>Ev (λ m k=>yd m (qO m) k t.kids t.kids.length i) (((t.kids.drop i).map (qje pPl)).all id)) t.kids (by omega)
    (λ f=>by
     refine waw ?_;simp only[qdM,Q5];refine wau f (wav ?_);rw[xc];rfl)
    (λ i x l p f o n q=>by
     refine waw ?_;simp only[qdM,Q5,qt];have g:=wc l;have u:=qa5 t x g;rw[p,wv,kz];refine war f (wat o (wao (j x g (by omega)) (wap (λ b=>?_) λ b=>?_)))
     .rw[bnt]at b;rw[b];exact waq _
     .rw[bnf]at b;rw[b,n];exact q)
   have a:Ev (λ m _=>yd m (qO m) m t.kids t.kids.length 0) ((t.kids.map (qje pPl)).all id):=
    way (L:=λ m k=>yd m (qO m) k t.kids t.kids.length 0) ((d 0 (wh _)).res (by rw[ke]))
   rw[qzT];refine wap (λ c=>?_) λ c=>?_
   .rw[qu]at c;have e:(!(t.kind==3))=false:=by rw[c];rfl
    rw[e,vL];refine wao (qA6 t.name) (wap (λ h=>?_) λ h=>?_)
    .rw[bnt]at h;rw[h];exact waq _
    .rw[bnf]at h;rw[h];exact a
   .rw[qs]at c;have e:(!(t.kind==3))=true:=by rw[wM,beq_eq_false_iff_ne];exact c
    rw[e,ve];exact a
def qgR(t:T):Bool:=decide ((qgB t).2=0)&&(qbt (qgB t).1 t&&qje pPl t)
theorem qAI(t:T)(a:size t<=1000000000):Ev (λ m _=>qcy m t) (qgR t):=by
 have c:=qzr t;refine wax ?_;simp only[qrs,qes,qt];unfold qgR;refine wao (qzK t a) (wap (λ h=>?_) λ h=>?_)
 .rw[qu]at h;rw[decide_eq_true h,kR];refine wao (qk2 _ _ (by omega) a) (wap (λ b=>?_) λ b=>?_)
  .rw[b,kR];exact wao (qAL t a) (waq _)
  .rw[b,k8];exact waq _
 .rw[qs]at h;rw[decide_eq_false h,k8];exact waq _
end Go.AmZ
namespace Go.AmZ
open Go Go.GxZ Go.Sort Go.Proofs Go.Proofs.YtinbdcelmgfniaaGreatDoor
def qA4(k:Int)(t:T):List T:=(qzG t).filter λ x=>decide (x.kind=k)
def qsi(t:T):Bool:=(qA4 1 t).isEmpty
end Go.AmZ
namespace Go.AmZ
open Go Go.GxZ
def nmL:List (List UInt8):=[[112,97,105,114],[101,110,99],[97,101,110,99],[112,107],[115,105,103,110],[104,97,115,104],[120,111,114],[122,101,114,111],[101,120,112],[109,117,108],[105,110,118],[111,110,101],[115,107],[115,104,107],[110,101,119]]
def esL:List (List UInt8×(Int×Int)):=[([112,97,105,114],(2,2)),([101,110,99],(2,2)),([97,101,110,99],(2,2)),([112,107],(1,1)),([115,105,103,110],(2,2)),([104,97,115,104],(1,1)),([120,111,114],(2,8)),([122,101,114,111],(0,0)),([101,120,112],(2,2)),([109,117,108],(2,8)),([105,110,118],(1,1)),([111,110,101],(0,0)),([115,107],(1,1)),([115,104,107],(2,2)),([110,101,119],(1,8))]
theorem qyP:esL.map (·.1)=nmL:=rfl
def qi7(n:List UInt8):Bool:=qD n qfa||(qD n qf0||qD n qom)
def qzm:List (List UInt8×(Int×Int))->List UInt8->Nat->Int
 |[],_,_=>-1
 |r::l,n,i=>if qD r.1 n=true then(i:Int)else qzm l n (i+1)
def qzP:List (List UInt8)->List UInt8->Nat->Int
 |[],_,_=>0
 |r::l,n,i=>if qD r n=true then(i:Int)else qzP l n (i+1)
theorem qBD:∀(l:List (List UInt8×(Int×Int))) (n:List UInt8) (i:Nat),n∈l.map (·.1)->qzm l n i=qzP (l.map (·.1)) n i/\∃(j:Nat) (r:List UInt8×(Int×Int)),qzm l n i=((i+j:Nat):Int)/\l[j]?=some r/\r.1=n
 |[],_,_,h=>by cases h
 |r::l,n,i,h=>by
   rw[qzm,wv,qzP];by_cases a:qD r.1 n=true
   .rw[if_pos a,if_pos a];exact⟨rfl,0,r,rfl,rfl,Qb.1 a⟩
   .rw[if_neg a,if_neg a];rw[wv]at h;obtain h|h:=wG.1 h
    .exact absurd (Qb.2 h.symm) a
    .let⟨e,j,q,d,c,b⟩:=qBD l n (i+1) h;exact⟨e,j+1,q,by rw[d];omega,by simpa using c,b⟩
def hdE(n:List UInt8):Int:=iw .u8 (iw .i64 (qj 16 (qzP nmL n 0)))
def bI:T->List Int:=T.para λ t a=>if t.kind=2 then[iw .u8 t.sort,iw .u8 t.name.length]++JM t.name else(if qi7 t.name then[hdE t.name]++[iw .u8 t.kids.length]else[hdE t.name])++a.flatten
theorem qG8(t:T):bI t=if t.kind=2 then[iw .u8 t.sort,iw .u8 t.name.length]++JM t.name else(if qi7 t.name then[hdE t.name]++[iw .u8 t.kids.length]else[hdE t.name])++(t.kids.map bI).flatten:=T.para_eq _ _
theorem qkf(a b:List Int):zQ (a++b)=zQ a++zQ b:=kh ..
theorem qC4(s:List UInt8):zQ (JM s)=s:=by
 unfold zQ JM;rw[xl];refine(kX (g:=id) λ c _=>?_).trans (List.map_id _);show UInt8.ofNat (Int.toNat ((c.toNat:Nat):Int))=c;rw[km];exact UInt8.ofNat_toNat
end Go.AmZ
namespace Go.AmZ
open Go Go.GxZ
theorem qGz:∀r∈esL,qf (ieq r.2.1 r.2.2)=qi7 r.1:=by decide
end Go.AmZ
namespace Go.AmZ
open Go Go.GxZ
def okC(i:Nat)(c:UInt8):Bool:=if i=0 then qiV (c.toNat:Int)else Q0 (c.toNat:Int)
def nmE(s:List UInt8)(b:Nat):Nat->Nat->Option Nat
 |0,_=>none
 |d+1,i=>match s[b+i]? with
   |none=>some (b+i)
   |some c=>cond (okC i c) (nmE s b d (i+1)) (some (b+i))
def hdN(s:List UInt8)(a:Nat):Option (T×Nat)×Nat:=match s[a]? with
 |none=>(none,a)
 |some c=>if c.toNat<=5 then(match s[a+1]? with
   |none=>(none,a+1)
   |some n=>if n.toNat<1\/24<n.toNat then(none,a+1)else match nmE s (a+2) n.toNat 0 with
     |some e=>(none,e)
     |none=>(some (.mk 2 ((s.take (a+2+n.toNat)).drop (a+2)) c.toNat [],0),a+2+n.toNat))
   else if c.toNat<16 then(none,a)else match esL[c.toNat-16]? with
    |none=>(none,a)
    |some r=>if qi7 r.1=true then(match s[a+1]? with
      |none=>(none,a+1)
      |some k=>if(k.toNat:Int)<r.2.1\/r.2.2<(k.toNat:Int)then(none,a+1)else(some (.mk 3 r.1 0 [],k.toNat),a+2))
      else(some (.mk 3 r.1 0 [],r.2.1.toNat),a+1)
theorem iwc(c:UInt8):iw .i64 ((c.toNat:Nat):Int)=(c.toNat:Int):=by
 have:=c.toNat_lt;exact Qy (by omega)
theorem iwn{n:Nat}(d:Nat)(h:n+d<2^62):iw .i64 (qj (n:Int) (d:Int))=((n+d:Nat):Int):=by
 rw[qe8,Qy (by omega)]
theorem qnb(s:List UInt8)(a:Nat)(b d:Int)(j:s.length<2^60):
  Ev (λ m _=>qS m (s,((a:Int),false)) b d) (match s[a]? with
   |none=>(((s,((a:Int),true)),()),(b,()))
   |some c=>if b<=(c.toNat:Int)/\(c.toNat:Int)<=d then(((s,(((a+1:Nat):Int),false)),()),((c.toNat:Int),()))else(((s,((a:Int),true)),()),(b,()))):=by
 refine wax ?_;simp only[qi2,J4];refine wau rfl ?_;cases h:s[a]? with
 |none=>exact war (qgr.2 (by have:=List.getElem?_eq_none_iff.1 h;omega)) (waq _)
 |some c=>
   have k:=(List.getElem?_eq_some_iff.1 h).1;have e:qh s (a:Int)=some c:=by rw[jk];exact h
   refine wau (qh8.2 (by omega)) (wat e ?_);rw[iwc];by_cases g:b<=(c.toNat:Int)
   .refine wau (qX.2 g) (wat e ?_);rw[iwc];by_cases f:(c.toNat:Int)<=d
    .have e1:iw .i64 (qj (a:Int) 1)=((a+1:Nat):Int):=iwn 1 (by omega);rw[e1]
     have i:iw .i64 (ja ((a+1:Nat):Int) 1)=(a:Int):=by
      rw[show ja ((a+1:Nat):Int) 1=(a:Int) by unfold ja;omega,Qy (by omega)]
     rw[i];refine wau (qX.2 f) (wat e (wav ?_));simp only[];rw[if_pos ⟨g,f⟩,iwc]
    .refine war (zg.2 (by omega)) (wav ?_);simp only[];rw[if_neg (λ h=>f h.2)]
   .refine war (zg.2 (by omega)) (wav ?_);simp only[];rw[if_neg (λ h=>g h.1)]
theorem qvW{s:List UInt8}{b:Nat}:∀{d i:Nat},nmE s b d i=none->∀j,j<d->b+i+j<s.length
 |0,_,_,j,f=>by omega
 |d+1,i,h,j,f=>by
   unfold nmE at h;split at h
   .cases h
   .rename_i c g;have e:=(List.getElem?_eq_some_iff.1 g).1;cases a:okC i c with
    |false=>rw[a]at h;cases h
    |true=>
      rw[a]at h;have h:nmE s b d (i+1)=none:=h;cases j with
      |zero=>exact e
      |succ j=>have:=qvW h j (by omega);omega
theorem qAk{α:Type}(i:Nat)(c:UInt8)(A B:Option α):(cond (ile 97 (c.toNat:Int)) (cond (ile (c.toNat:Int) 122) A (cond (ile 65 (c.toNat:Int)) (cond (qf (ile (c.toNat:Int) 90)) (cond (ieq (i:Int) 0) B (cond (ilt (c.toNat:Int) 48) (cond (qf (ieq (c.toNat:Int) 95)) (cond (qf (ieq (c.toNat:Int) 35)) B A) A) (cond (ilt 57 (c.toNat:Int)) (cond (qf (ieq (c.toNat:Int) 95)) (cond (qf (ieq (c.toNat:Int) 35)) B A) A) A))) A) (cond (ieq (i:Int) 0) B (cond (ilt (c.toNat:Int) 48) (cond (qf (ieq (c.toNat:Int) 95)) (cond (qf (ieq (c.toNat:Int) 35)) B A) A) (cond (ilt 57 (c.toNat:Int)) (cond (qf (ieq (c.toNat:Int) 95)) (cond (qf (ieq (c.toNat:Int) 35)) B A) A) A))))) (cond (ile 65 (c.toNat:Int)) (cond (qf (ile (c.toNat:Int) 90)) (cond (ieq (i:Int) 0) B (cond (ilt (c.toNat:Int) 48) (cond (qf (ieq (c.toNat:Int) 95)) (cond (qf (ieq (c.toNat:Int) 35)) B A) A) (cond (ilt 57 (c.toNat:Int)) (cond (qf (ieq (c.toNat:Int) 95)) (cond (qf (ieq (c.toNat:Int) 35)) B A) A) A))) A) (cond (ieq (i:Int) 0) B (cond (ilt (c.toNat:Int) 48) (cond (qf (ieq (c.toNat:Int) 95)) (cond (qf (ieq (c.toNat:Int) 35)) B A) A) (cond (ilt 57 (c.toNat:Int)) (cond (qf (ieq (c.toNat:Int) 95)) (cond (qf (ieq (c.toNat:Int) 35)) B A) A) A)))))=cond (okC i c) A B:=by
 generalize a:((c.toNat:Nat):Int)=x;unfold okC;rw[a];clear a;have b:ieq (i:Int) 0=decide (i=0):=by rw[qrj,xB,decide_eq_true_iff,decide_eq_true_iff];omega
 rw[b];simp only[qrj];have o:ilt x 48 = !decide (48<=x):=by unfold ilt;rw[<-decide_not,xB,decide_eq_true_iff,decide_eq_true_iff];omega
 have n:ilt 57 x = !decide (x<=57):=by unfold ilt;rw[<-decide_not,xB,decide_eq_true_iff,decide_eq_true_iff];omega
 rw[o,n];unfold Q0 qiV qzu ile qf;by_cases m:i=0<;>by_cases l:97<=x<;>by_cases k:x<=122<;>by_cases j:65<=x<;>by_cases h:x<=90<;>by_cases g:48<=x<;>by_cases f:x<=57<;>by_cases e:x=95<;>by_cases d:x=35<;>simp[m,l,k,j,h,g,f,e,d]<;>omega
theorem qvZ(s:List UInt8)(g:s.length<2^60)(b n:Nat)(j:n<=24):∀d i,i+d=n->b+i<=s.length->
  Ev (λ m k=>zG m k b n i s ((b+i:Nat):Int) false) (match nmE s b d i with
   |some e=>(((s,((e:Int),true)),()),([],()))
   |none=>(((s,(((b+n:Nat):Int),false)),()),((s.take (b+n)).drop b,())))
 |0,i,l,a=>by
   refine waw ?_;simp only[J2,jz];obtain rfl:i=n:=by omega
   refine wau (qX.2 (vF _)) ?_;refine war (by unfold inb;rw[decide_eq_true_iff];omega) (war (by unfold inb;rw[decide_eq_true_iff];omega) (wav ?_));rfl
 |d+1,i,l,a=>by
   refine waw ?_;simp only[J2,jz];refine war (zg.2 (by omega)) (wau rfl ?_);rw[nmE];cases h:s[b+i]? with
   |none=>exact war (qgr.2 (by have:=List.getElem?_eq_none_iff.1 h;omega)) (waq _)
   |some c=>
     have p:=(List.getElem?_eq_some_iff.1 h).1;refine wau (qh8.2 (by omega)) (wat (by rw[jk];exact h) ?_);have f:=qvZ s g b n j d (i+1) (by omega) (by omega);have e1:iw .i64 (qj (i:Int) 1)=((i+1:Nat):Int):=iwn 1 (by omega);have o:iw .i64 (qj ((b+i:Nat):Int) 1)=((b+(i+1):Nat):Int):=iwn (n:=b+i) 1 (by omega);rw[e1,o];refine Ev.congr (F:=λ m k=>cond (okC i c) (zG m k b n ((i+1:Nat):Int) s ((b+(i+1):Nat):Int) false) (some (((s,(((b+i:Nat):Int),true)),()),([],())))) ?_ λ m k=>qAk i c _ _;simp only[];cases okC i c with
     |true=>exact f
     |false=>exact waq _
theorem qvH(s:List UInt8)(b a:Int):Ev (λ m k=>zG m k b 1 0 s a true) (((s,(a,true)),()),([],())):=by
 refine waw ?_;simp only[J2,jz];exact war rfl (war rfl (waq _))
theorem qFA(s:List UInt8)(c:s.length<2^60)(a:Nat):Ev (λ m _=>Qg m (s,((a:Int),false))) (match s[a]? with
  |none=>(((s,((a:Int),true)),()),([],()))
  |some n=>if n.toNat<1\/24<n.toNat then(((s,((a:Int),true)),()),([],()))else match nmE s (a+1) n.toNat 0 with
    |some e=>(((s,((e:Int),true)),()),([],()))
    |none=>(((s,(((a+1+n.toNat:Nat):Int),false)),()),((s.take (a+1+n.toNat)).drop (a+1),()))):=by
 refine wax ?_;simp only[qiT,QB];have b:=qnb s a 1 24 c;cases h:s[a]? with
 |none=>
   rw[h]at b;exact wao b (way (qvH s a a))
 |some n=>
   rw[h]at b;simp only[]at b |-
   by_cases d:n.toNat<1\/24<n.toNat
   .rw[if_neg (by omega)]at b;rw[if_pos d];exact wao b (way (qvH s a a))
   .rw[if_pos (by omega)]at b;rw[if_neg d];have f:=(List.getElem?_eq_some_iff.1 h).1;exact wao b (way (qvZ s c (a+1) n.toNat (by omega) n.toNat 0 (by omega) (by omega)))
theorem qbH:Ev (λ m _=>zN m) esL:=by
 refine wax ?_;simp only[qms,qbQ];exact waq _
theorem qjx{r:List UInt8×(Int×Int)}(a:r∈esL):Ev (λ m _=>zW m (r.1,(r.2.1,r.2.2))) (qi7 r.1):=by
 refine wax ?_;simp only[qgd,Q7];exact wav (qGz r a)
theorem qvT:∀r∈esL,0<=r.2.1/\r.2.1<=8/\r.2.2<=8:=by decide
theorem qnr(s:List UInt8)(D:s.length<2^60)(b:Nat):(∀t n p,hdN s b=(some (t,n),p)->Ev (λ m _=>qn m (s,((b:Int),false))) (((s,((p:Int),false)),()),((t.kind,(t.name,(t.sort,([],((n:Int),()))))),())))/\
  (∀e,hdN s b=(none,e)->∃nk nm sk lf,Ev (λ m _=>qn m (s,((b:Int),false))) (((s,((e:Int),true)),()),((nk,(nm,(sk,([],(lf,()))))),()))):=by
 have K:∃v:(Val RD×Unit)×((Int×List UInt8×Int×List T×Int×Unit)×Unit),Ev (λ m _=>qn m (s,((b:Int),false))) v/\match hdN s b with
   |(some (t,n),p)=>v=(((s,((p:Int),false)),()),((t.kind,(t.name,(t.sort,([],((n:Int),()))))),()))
   |(none,e)=>∃nk nm sk lf,v=(((s,((e:Int),true)),()),((nk,(nm,(sk,([],(lf,()))))),())):=by
  have y:(∀c,s[b]?=some c->¬ c.toNat<=5)->∃v:(Val RD×Unit)×((Int×List UInt8×Int×List T×Int×Unit)×Unit),Ev (λ m _=>qb (zN m) λ J=>qb (zN m) λ I=>qb (qS m (s,((b:Int),false)) 16 (iw .i64 (ja (iw .i64 (qj 16 (List.length I))) 1))) λ j=>qb (qh J (iw .i64 (ja j.2.1 16))) λ g=>qb (zW m (g.1,(g.2.1,g.2.2))) λ H=>cond H (qb (qS m (j.1.1.1,(j.1.1.2.1,j.1.1.2.2)) g.2.1 g.2.2) λ o=>some (((o.1.1.1,(o.1.1.2.1,o.1.1.2.2)),()),((3,(g.1,(0,([],(o.2.1,()))))),()))) (some (((j.1.1.1,(j.1.1.2.1,j.1.1.2.2)),()),((3,(g.1,(0,([],(g.2.1,()))))),())))) v/\match hdN s b with
   |(some (t,n),p)=>v=(((s,((p:Int),false)),()),((t.kind,(t.name,(t.sort,([],((n:Int),()))))),()))
   |(none,e)=>∃nk nm sk lf,v=(((s,((e:Int),true)),()),((nk,(nm,(sk,([],(lf,()))))),())):=by
   intro B;have f:=qnb s b 16 30 D
   have fail:(match s[b]? with
    |none=>True
    |some c=>c.toNat<16\/30<c.toNat)->∃v:(Val RD×Unit)×((Int×List UInt8×Int×List T×Int×Unit)×Unit),Ev (λ m _=>qb (zN m) λ J=>qb (zN m) λ I=>qb (qS m (s,((b:Int),false)) 16 (iw .i64 (ja (iw .i64 (qj 16 (List.length I))) 1))) λ j=>qb (qh J (iw .i64 (ja j.2.1 16))) λ g=>qb (zW m (g.1,(g.2.1,g.2.2))) λ H=>cond H (qb (qS m (j.1.1.1,(j.1.1.2.1,j.1.1.2.2)) g.2.1 g.2.2) λ o=>some (((o.1.1.1,(o.1.1.2.1,o.1.1.2.2)),()),((3,(g.1,(0,([],(o.2.1,()))))),()))) (some (((j.1.1.1,(j.1.1.2.1,j.1.1.2.2)),()),((3,(g.1,(0,([],(g.2.1,()))))),())))) v/\match hdN s b with
   |(some (t,n),p)=>v=(((s,((p:Int),false)),()),((t.kind,(t.name,(t.sort,([],((n:Int),()))))),()))
   |(none,e)=>∃nk nm sk lf,v=(((s,((e:Int),true)),()),((nk,(nm,(sk,([],(lf,()))))),())):=by
     intro F
     have L:Ev (λ m _=>qS m (s,((b:Int),false)) 16 30) (((s,((b:Int),true)),()),(16,())):=by
      cases h:s[b]? with
      |none=>rw[h]at f;exact f
      |some c=>
        rw[h]at f F;simp only[]at f F;rw[if_neg (by omega)]at f;exact f
     have A:hdN s b=(none,b):=by
      unfold hdN;cases h:s[b]? with
      |none=>rfl
      |some c=>
        rw[h]at F;simp only[]at F |-
        rw[if_neg (B c h)];by_cases C:c.toNat<16
        .rw[if_pos C]
        .rw[if_neg C,show esL[c.toNat-16]?=none from List.getElem?_eq_none_iff.2 (by show 15<=_;omega)]
     rw[A];refine⟨_,wao qbH (wao qbH (wao L (wat (a:=([112,97,105,114],(2,2))) rfl (wao (qjx (r:=([112,97,105,114],(2,2))) (wm ..)) (wau rfl (waq _)))))),3,_,0,_,rfl⟩
   cases h:s[b]? with
   |none=>rw[h]at fail;exact fail trivial
   |some c=>
     by_cases E:c.toNat<16\/30<c.toNat
     .exact fail (by rw[h];exact E)
     .rw[h]at f;simp only[]at f;rw[if_pos (by omega)]at f;have z:c.toNat-16<esL.length:=by show _<15;omega
      have q:=List.getElem?_eq_getElem z;generalize esL[c.toNat-16]=r at q;have i:=wc q;let⟨R,Q,P⟩:=qvT r i
      have A:hdN s b=(if qi7 r.1=true then(match s[b+1]? with
        |none=>(none,b+1)
        |some k=>if(k.toNat:Int)<r.2.1\/r.2.2<(k.toNat:Int)then(none,b+1)else(some (.mk 3 r.1 0 [],k.toNat),b+2))
       else(some (.mk 3 r.1 0 [],r.2.1.toNat),b+1)):=by
       unfold hdN;rw[h];simp only[];rw[if_neg (B c h),if_neg (by omega),q]
      rw[A]
      have w:qh esL (iw .i64 (ja (c.toNat:Int) 16))=some r:=by
       rw[show iw .i64 (ja (c.toNat:Int) 16)=((c.toNat-16:Nat):Int) by rw[show ja (c.toNat:Int) 16=((c.toNat-16:Nat):Int) by unfold ja;omega,Qy (by omega)],jk];exact q
      cases u:qi7 r.1 with
      |false=>
        rw[if_neg (by decide)];refine⟨_,wao qbH (wao qbH (wao f (wat w (wao (qjx i) (wau u (waq _)))))),?_⟩;have e:((r.2.1.toNat:Nat):Int)=r.2.1:=by omega
        show _=_;rw[e];rfl
      |true=>
        rw[if_pos rfl];have d:=qnb s (b+1) r.2.1 r.2.2 D;cases l:s[b+1]? with
        |none=>rw[l]at d;exact⟨_,wao qbH (wao qbH (wao f (wat w (wao (qjx i) (war u (wao d (waq _))))))),3,_,0,_,rfl⟩
        |some k=>
          rw[l]at d;simp only[]at d |-
          by_cases N:(k.toNat:Int)<r.2.1\/r.2.2<(k.toNat:Int)
          .rw[if_neg (by omega)]at d;rw[if_pos N];exact⟨_,wao qbH (wao qbH (wao f (wat w (wao (qjx i) (war u (wao d (waq _))))))),3,_,0,_,rfl⟩
          .rw[if_pos (by omega)]at d;rw[if_neg N];exact⟨_,wao qbH (wao qbH (wao f (wat w (wao (qjx i) (war u (wao d (waq _))))))),rfl⟩
  cases h:s[b]? with
  |none=>
    let⟨v,l,d⟩:=y (by rw[h];intro c u;cases u);refine⟨v,wax ?_,d⟩;simp only[qau,jw];exact wau (qX.2 (by have:=List.getElem?_eq_none_iff.1 h;omega)) l
  |some c=>
    have S:=(List.getElem?_eq_some_iff.1 h).1;have w:qh s (b:Int)=some c:=by rw[jk];exact h
    by_cases B:c.toNat<=5
    .have f:=qnb s b 0 5 D;rw[h]at f;simp only[]at f;rw[if_pos (by omega)]at f;have i:=qFA s D (b+1)
     have A:hdN s b=(match s[b+1]? with
      |none=>(none,b+1)
      |some n=>if n.toNat<1\/24<n.toNat then(none,b+1)else match nmE s (b+2) n.toNat 0 with
        |some e=>(none,e)
        |none=>(some (.mk 2 ((s.take (b+2+n.toNat)).drop (b+2)) c.toNat [],0),b+2+n.toNat)):=by
      unfold hdN;rw[h];simp only[];rw[if_pos B]
     rw[A]
     have G:∀x,Ev (λ m _=>Qg m (s,(((b+1:Nat):Int),false))) x->Ev (λ m _=>qn m (s,((b:Int),false))) (((x.1.1.1,(x.1.1.2.1,x.1.1.2.2)),()),((2,(x.2.1,((c.toNat:Int),([],(0,()))))),())):=λ x O=>by
      refine wax ?_;simp only[qau,jw];exact war (zg.2 (by omega)) (wat w (war (qgr.2 (by omega)) (wao f (wao O (waq _)))))
     cases l:s[b+1]? with
     |none=>rw[l]at i;exact⟨_,G _ i,2,_,_,_,rfl⟩
     |some n=>
       rw[l]at i;simp only[]at i |-
       by_cases E:n.toNat<1\/24<n.toNat
       .rw[if_pos E]at i |-;exact⟨_,G _ i,2,_,_,_,rfl⟩
       .rw[if_neg E]at i |-
        cases d:nmE s (b+2) n.toNat 0 with
        |some e=>rw[show b+1+1=b+2 from rfl,d]at i;exact⟨_,G _ i,2,_,_,_,rfl⟩
        |none=>rw[show b+1+1=b+2 from rfl,d]at i;exact⟨_,G _ i,rfl⟩
    .let⟨v,l,d⟩:=y (by rw[h];intro c' u;cases u;exact B);refine⟨v,wax ?_,d⟩;simp only[qau,jw];exact war (zg.2 (by omega)) (wat w (wau (qh8.2 (by omega)) l))
 let⟨v,l,d⟩:=K;refine⟨λ t n p M=>?_,λ e M=>?_⟩
 .rw[M]at d;have d:v=_:=d;rw[<-d];exact l
 .rw[M]at d;obtain⟨nk,nm,sk,lf,d⟩:∃nk nm sk lf,v=_:=d;exact⟨nk,nm,sk,lf,by rw[<-d];exact l⟩
end Go.AmZ
namespace Go.AmZ
open Go Go.GxZ
def qaw(R:Nat->Option T×Nat):Nat->Nat->Option (List T)×Nat
 |0,p=>(some [],p)
 |n+1,p=>match R p with
   |(none,e)=>(none,e)
   |(some k,a)=>match qaw R n a with
     |(none,e)=>(none,e)
     |(some ks,q)=>(some (k::ks),q)
def rdT(s:List UInt8):Nat->Nat->Option T×Nat
 |0,p=>(none,p)
 |f+1,p=>match hdN s p with
   |(none,e)=>(none,e)
   |(some (t,n),q)=>match qaw (rdT s f) n q with
     |(none,e)=>(none,e)
     |(some ks,a)=>(some (.mk t.kind t.name t.sort ks),a)
theorem qe6{s:List UInt8}{p q n:Nat}{t:T}(h:hdN s p=(some (t,n),q)):p<q/\q<=s.length/\n<=8/\t.kids=[]/\t.name.length<=24:=by
 unfold hdN at h;cases g:s[p]? with
 |none=>rw[g]at h;cases h
 |some c=>
   rw[g]at h;have u:=(List.getElem?_eq_some_iff.1 g).1;simp only[]at h;split at h
   .cases a:s[p+1]? with
    |none=>rw[a]at h;cases h
    |some k=>
      rw[a]at h;have f:=(List.getElem?_eq_some_iff.1 a).1;simp only[]at h;split at h
      .cases h
      .rename_i v;cases i:nmE s (p+2) k.toNat 0 with
       |some e=>rw[i]at h;cases h
       |none=>
         rw[i]at h;cases h;have:=qvW i (k.toNat-1) (by omega);refine⟨by omega,by omega,by omega,rfl,?_⟩;show((s.take _).drop _).length<=24;rw[wO,wk];omega
   .split at h
    .cases h
    .cases d:esL[c.toNat-16]? with
     |none=>rw[d]at h;cases h
     |some r=>
       rw[d]at h;have j:=wc d;let⟨o,m,l⟩:=qvT r j;have b:r.1.length<=24:=(by decide:∀r∈esL,r.1.length<=24) r j;simp only[]at h;split at h
       .cases a:s[p+1]? with
        |none=>rw[a]at h;cases h
        |some k=>
          rw[a]at h;have f:=(List.getElem?_eq_some_iff.1 a).1;simp only[]at h;split at h
          .cases h
          .cases h;exact⟨by omega,by omega,by omega,rfl,b⟩
       .cases h;exact⟨by omega,by omega,by omega,rfl,b⟩
theorem qr6{R:Nat->Option T×Nat}{L:Nat}(h:∀p q t,R p=(some t,q)->p<q/\q<=L):∀n p q ks,p<=L->qaw R n p=(some ks,q)->p<=q/\q<=L/\ks.length=n
 |0,p,q,ks,c,a=>by cases a;exact⟨wa _,c,rfl⟩
 |n+1,p,q,ks,c,a=>by
   unfold qaw at a;split at a
   .cases a
   .rename_i k l e;let⟨o,i⟩:=h _ _ _ e;split at a
    .cases a
    .rename_i d j b;cases a;let⟨m,g,f⟩:=qr6 h n _ _ _ i b;exact⟨by omega,g,by simp[f]⟩
theorem qqp(s:List UInt8):∀f p q t,rdT s f p=(some t,q)->p<q/\q<=s.length
 |0,p,q,t,h=>by cases h
 |f+1,p,q,t,h=>by
   unfold rdT at h;split at h
   .cases h
   .rename_i t0 n e b;let⟨j,d,_⟩:=qe6 b;split at h
    .cases h
    .rename_i ks g a;cases h;let⟨i,c,_⟩:=qr6 (qqp s f) _ _ _ _ d a;exact⟨by omega,c⟩
theorem qsK{b a:Val RD}{nk sk lf:Int}{nm:List UInt8}(h:Ev (λ m _=>qn m b) ((a,()),((nk,(nm,(sk,([],(lf,()))))),()))):Ev (λ m _=>qcw (qn m) b) (a,(nk,(nm,(sk,lf)))):=by
 let⟨B,h⟩:=h;refine⟨B,λ m k c d=>?_⟩;have e:qn m b=_:=h m k c d;show qcw _ b=_;unfold qcw;rw[e]
abbrev RdL:=λ(a:List (T×Int)) (b:Val RD) (m k:Nat)=>qgs (qn m) k a b
theorem qvM(b:List (T×Int))(s:List UInt8)(a:Int):Ev (RdL b (s,(a,true))) (((s,(a,true)),()),(T.mk 0 [] 0 [],())):=by
 refine waw (L:=RdL b (s,(a,true))) ?_;exact waq _
theorem qxw(b:List (T×Int))(s:List UInt8)(a:Int)(t:T)(n:Nat)(i:n<8)(d:b.length<=1000000000){c:Val RD}{nk sk lf:Int}{nm:List UInt8}(h:Ev (λ m _=>qn m (s,(a,false))) ((c,()),((nk,(nm,(sk,([],(lf,()))))),()))){r:(Val RD×Unit)×(T×Unit)}
  (e:Ev (RdL ((b++[(t,(n:Int))])++[(T.mk nk nm sk [],lf)]) c) r):Ev (RdL (b++[(t,((n+1:Nat):Int))]) (s,(a,false))) r:=by
 refine waw (L:=RdL (b++[(t,((n+1:Nat):Int))]) (s,(a,false))) ?_;show Ev (λ m k=>qik (qn m) (qgs (qn m) k) (b++[(t,((n+1:Nat):Int))]) (s,(a,false))) r;unfold qik;have f:(b++[(t,((n+1:Nat):Int))]).length=b.length+1:=by simp
 rw[f,xM];refine wau rfl (wat (a:=(t,((n+1:Nat):Int))) (by rw[List.getElem?_append_right (wa _),ky];rfl) ?_);refine war (zg.2 (by show(0:Int)<((n+1:Nat):Int);omega)) (war (Je (by omega) (by decide)) (wao (qsK h) ?_));have e1:iw .i64 (ja ((n+1:Nat):Int) 1)=(n:Int):=by rw[show ja ((n+1:Nat):Int) 1=(n:Int) by unfold ja;omega,Qy (by omega)]
 have g:(b++[(t,((n+1:Nat):Int))]).set b.length (t,iw .i64 (ja ((n+1:Nat):Int) 1))=b++[(t,(n:Int))]:=by
  rw[vu _ _ (wa _),ky,e1];rfl
 show Ev (λ m k=>qgs (qn m) k ((b++[(t,((n+1:Nat):Int))]).set b.length (t,iw .i64 (ja ((n+1:Nat):Int) 1))++[(T.mk nk nm sk [],lf)]) c) r;rw[g];exact e
theorem qFG(b:List (T×Int))(s:List UInt8)(a:Int)(t x:T)(n:Int)(g:t.kids.length<8){r:(Val RD×Unit)×(T×Unit)}
  (d:Ev (RdL (b++[(T.mk t.kind t.name t.sort (t.kids++[x]),n)]) (s,(a,false))) r):Ev (RdL ((b++[(t,n)])++[(x,0)]) (s,(a,false))) r:=by
 refine waw (L:=RdL ((b++[(t,n)])++[(x,0)]) (s,(a,false))) ?_;show Ev (λ m k=>qik (qn m) (qgs (qn m) k) ((b++[(t,n)])++[(x,0)]) (s,(a,false))) r;unfold qik;have f:((b++[(t,n)])++[(x,(0:Int))]).length=b.length+2:=by simp
 have c:(b++[(t,n)]).length=b.length+1:=by simp
 rw[f,show b.length+2-1=b.length+1 from rfl,xM];refine wau rfl (wat (a:=(x,(0:Int))) (by rw[List.getElem?_append_right (by omega),c,ky];rfl) ?_);refine wau (qX.2 (vF _)) (wau rfl (wat (a:=(t,n)) (by rw[List.getElem?_append_left (by omega),List.getElem?_append_right (wa _),ky];rfl) ?_));refine war (Je (by show(t.kids.length+1)*56<=_;omega) (by decide)) ?_;have e:((b++[(t,n)])++[(x,(0:Int))]).take b.length=b:=by rw[wn,wag]
 rw[e];exact d
theorem qDI(s:List UInt8)(O:s.length<=1000000000):∀f n p t b,s.length<p+f->p<=s.length->b.length<=p->t.kids.length+n<=8->
  (∀ks q,qaw (rdT s f) n p=(some ks,q)->∀r,Ev (RdL (b++[(T.mk t.kind t.name t.sort (t.kids++ks),0)]) (s,((q:Int),false))) r->Ev (RdL (b++[(t,(n:Int))]) (s,((p:Int),false))) r)/\
  ∀e,qaw (rdT s f) n p=(none,e)->Ev (RdL (b++[(t,(n:Int))]) (s,((p:Int),false))) (((s,((e:Int),true)),()),(T.mk 0 [] 0 [],())):=by
 intro f
 induction f with
 |zero=>intro n p t b C B;omega
 |succ f x=>
   intro n
   induction n with
   |zero=>
     intro p t b C B J I;refine⟨λ ks q a r h=>?_,λ e a=>by cases a⟩;cases a;rw[wx]at h;have e:T.mk t.kind t.name t.sort t.kids=t:=qt t;rw[e]at h;exact h
   |succ n w=>
     intro p t b C B J I;cases j:hdN s p with
     |mk o l=>
     cases o with
     |none=>
       have k:rdT s (f+1) p=(none,l):=by unfold rdT;rw[j]
       have d:qaw (rdT s (f+1)) (n+1) p=(none,l):=by unfold qaw;rw[k]
       refine⟨λ ks q a=>(by rw[d]at a;cases a),λ e a=>?_⟩;rw[d]at a;cases a;let⟨nk,nm,sk,lf,y⟩:=(qnr s (by omega) p).2 _ j;exact qxw b s p t n (by omega) (by omega) y (qvM _ _ _)
     |some o=>
       let⟨t0,u⟩:=o;let⟨P,K,g3,A,_⟩:=qe6 j;have y:=(qnr s (by omega) p).1 _ _ _ j;have z:=λ r=>qxw b s p t n (by omega) (by omega) y (r:=r);have L:T.mk t0.kind t0.name t0.sort []=t0:=by rw[<-A];exact qt t0
       rw[L]at z;let⟨F,E⟩:=x u l t0 (b++[(t,(n:Int))]) (by omega) K (by rw[wd];show b.length+1<=l;omega) (by rw[A];show 0+u<=8;omega);cases m:qaw (rdT s f) u l with
       |mk o g=>
       cases o with
       |none=>
         have k:rdT s (f+1) p=(none,g):=by unfold rdT;rw[j];simp only[];rw[m]
         have d:qaw (rdT s (f+1)) (n+1) p=(none,g):=by unfold qaw;rw[k]
         refine⟨λ ks q a=>(by rw[d]at a;cases a),λ e a=>?_⟩;rw[d]at a;cases a;exact z _ (E _ m)
       |some c=>
         have k:rdT s (f+1) p=(some (.mk t0.kind t0.name t0.sort c),g):=by unfold rdT;rw[j];simp only[];rw[m]
         let⟨M,D⟩:=qqp s _ _ _ _ k
         have step:∀r,Ev (RdL (b++[(T.mk t.kind t.name t.sort (t.kids++[.mk t0.kind t0.name t0.sort c]),(n:Int))]) (s,((g:Int),false))) r->Ev (RdL (b++[(t,((n+1:Nat):Int))]) (s,((p:Int),false))) r:=λ r h=>by
          refine z r (F _ _ m r ?_);rw[A];exact qFG b s g t _ n (by omega) h
         let⟨H,G⟩:=w g (T.mk t.kind t.name t.sort (t.kids++[.mk t0.kind t0.name t0.sort c])) b (by omega) D (by omega) (by show(t.kids++[_]).length+n<=8;rw[wd];show t.kids.length+1+n<=8;omega)
         have d:qaw (rdT s (f+1)) (n+1) p=(match qaw (rdT s (f+1)) n g with
          |(none,e)=>(none,e)
          |(some ks,q)=>(some (.mk t0.kind t0.name t0.sort c::ks),q)):=by
          rw[qaw,k]
         cases i:qaw (rdT s (f+1)) n g with
         |mk o N=>
         rw[i]at d;cases o with
         |none=>
           refine⟨λ ks q a=>(by rw[d]at a;cases a),λ e a=>?_⟩;rw[d]at a;cases a;exact step _ (G _ i)
         |some v=>
           refine⟨λ ks q a r h=>?_,λ e a=>(by rw[d]at a;cases a)⟩;rw[d]at a;cases a;refine step _ (H _ _ i r ?_);show Ev (RdL (b++[(T.mk t.kind t.name t.sort ((t.kids++[.mk t0.kind t0.name t0.sort c])++v),0)]) _) r;rw[wn];exact h
theorem qBL(s:List UInt8)(w:s.length<=1000000000):(∀t q,rdT s (s.length+1) 0=(some t,q)->Ev (λ m _=>yO m (s,(0,false))) (((s,((q:Int),false)),()),(t,())))/\
  ∀e,rdT s (s.length+1) 0=(none,e)->Ev (λ m _=>yO m (s,(0,false))) (((s,((e:Int),true)),()),(T.mk 0 [] 0 [],())):=by
 have start:∀{c:Val RD}{nk sk lf:Int}{nm:List UInt8}{r:(Val RD×Unit)×(T×Unit)},Ev (λ m _=>qn m (s,(0,false))) ((c,()),((nk,(nm,(sk,([],(lf,()))))),()))->Ev (RdL [(T.mk nk nm sk [],lf)] c) r->Ev (λ m _=>yO m (s,(0,false))) r:=by
  intro c nk sk lf nm r h x;refine wax ?_;simp only[qi6];unfold qjS;exact wao (qsK h) (way x)
 cases d:hdN s 0 with
 |mk o j=>
 cases o with
 |none=>
   have b:rdT s (s.length+1) 0=(none,j):=by unfold rdT;rw[d]
   refine⟨λ t q a=>(by rw[b]at a;cases a),λ e a=>?_⟩;rw[b]at a;cases a;let⟨nk,nm,sk,lf,l⟩:=(qnr s (by omega) 0).2 _ d;exact start l (qvM _ _ _)
 |some o=>
   let⟨t0,k⟩:=o;let⟨A,y,g3,p,_⟩:=qe6 d;have l:=(qnr s (by omega) 0).1 _ _ _ d;have n:=λ r=>start l (r:=r);have z:T.mk t0.kind t0.name t0.sort []=t0:=by rw[<-p];exact qt t0
   rw[z]at n;let⟨v,u⟩:=qDI s w s.length k j t0 [] (by omega) y (wh _) (by rw[p];show 0+k<=8;omega);cases g:qaw (rdT s s.length) k j with
   |mk o i=>
   cases o with
   |none=>
     have b:rdT s (s.length+1) 0=(none,i):=by unfold rdT;rw[d];simp only[];rw[g]
     refine⟨λ t q a=>(by rw[b]at a;cases a),λ e a=>?_⟩;rw[b]at a;cases a;exact n _ (u _ g)
   |some f=>
     have b:rdT s (s.length+1) 0=(some (.mk t0.kind t0.name t0.sort f),i):=by unfold rdT;rw[d];simp only[];rw[g]
     refine⟨λ t q a=>?_,λ e a=>(by rw[b]at a;cases a)⟩;rw[b]at a;cases a;refine n _ (v _ _ g _ ?_);rw[p];refine waw (L:=RdL ([]++[(T.mk t0.kind t0.name t0.sort ([]++f),(0:Int))]) (s,((i:Int),false))) ?_;exact waq _
end Go.AmZ
namespace Go.AmZ
open Go Go.GxZ
theorem qCW{i:Nat}{c:UInt8}(h:okC i c=true):Q0 (c.toNat:Int)=true:=by
 unfold okC at h;split at h
 .unfold Q0;rw[h];rfl
 .exact h
theorem qDV{s:List UInt8}{b n:Nat}(w:n<24)(x:b+n<s.length)(h:∀j c,j<n->s[b+j]?=some c->okC j c=true){c:UInt8}(g:s[b+n]?=some c):QW ((s.take (b+(n+1))).drop b)=okC n c:=by
 have f:((s.take (b+(n+1))).drop b).length=n+1:=by rw[wO,wk];omega
 have a:∀j,j<n+1->((s.take (b+(n+1))).drop b)[j]?=s[b+j]?:=λ j e=>by
  rw[List.getElem?_drop,List.getElem?_take,if_pos (by omega)]
 unfold QW;rw[f,decide_eq_true (show 0<n+1 by omega),decide_eq_true (show n+1<=24 by omega)]
 have q:∀o,s[b]?=some o->((s.take (b+(n+1))).drop b).getD 0 0=o:=λ o d=>by
  rw[List.getD_eq_getElem?_getD,a 0 (by omega),wK,d];rfl
 cases n with
 |zero=>
   rw[q c g]
   have l:(s.take (b+(0+1))).drop b=[c]:=by
    apply kZ;intro j;cases j with
    |zero=>rw[a 0 (by omega)];exact g
    |succ j=>rw[List.getElem?_eq_none_iff.2 (by omega)];rfl
   rw[l];unfold okC;rw[if_pos rfl];cases v:qiV (c.toNat:Int)with
   |true=>simp[Q0,v]
   |false=>rfl
 |succ n=>
   have u:b<s.length:=by omega
   have d:=List.getElem?_eq_getElem u;have k:=h 0 _ (by omega) d;unfold okC at k;rw[if_pos rfl]at k;rw[q _ d,k];have:okC (n+1) c=Q0 (c.toNat:Int):=by unfold okC;rw[if_neg (by omega)]
   rw[this];cases p:Q0 (c.toNat:Int)with
   |true=>
     simp only[kR,ww];intro y r;let⟨j,e⟩:=vt.1 r;have t:=(List.getElem?_eq_some_iff.1 e).1;rw[a j (by omega)]at e;by_cases m:j=n+1
     .subst m;rw[g]at e;cases e;exact p
     .exact qCW (h j y (by omega) e)
   |false=>
     simp only[kR];rw[List.all_eq_false];refine⟨c,wc (i:=n+1) ?_,by rw[p];decide⟩;rw[a (n+1) (by omega)];exact g
end Go.AmZ
namespace Go.AmZ
theorem qBE(n:Nat):qc9 (n+3000)=some true:=by kernel_rfl
end Go.AmZ
namespace Go.AmZ
open Go Go.GxZ
def qzE(t:T):Int:=if qfS t≠0 then qfS t else if qsi t=false then 13 else if qgR t=false then 10 else 0
def qGi(t:T):List UInt8:=if qzE t=0 then zQ (bI t)else[]
theorem qrb:Ev (λ m _=>qc9 m) true:=⟨3000,λ m k a _=>by
 obtain⟨n,rfl⟩:∃n,m=n+3000:=⟨m-3000,by omega⟩
 exact qBE n⟩
end Go.AmZ
namespace Go.AmZ
open Go Go.GxZ
end Go.AmZ
namespace Go.AmZ
open Go Go.GxZ
theorem qxN{s:List UInt8}{b:Nat}:∀{d i:Nat},nmE s b d i=none->∀j c,j<d->s[b+i+j]?=some c->okC (i+j) c=true
 |0,_,_,j,_,g,_=>by omega
 |d+1,i,h,j,c,g,a=>by
   unfold nmE at h;split at h
   .cases h
   .rename_i k f;cases e:okC i k with
    |false=>rw[e]at h;cases h
    |true=>
      rw[e]at h;have h:nmE s b d (i+1)=none:=h;cases j with
      |zero=>rw[wK]at a |-;rw[f]at a;cases a;exact e
      |succ j=>have:=qxN h j c (by omega) (by rw[show b+(i+1)+j=b+i+(j+1) by omega];exact a);rw[show i+(j+1)=i+1+j by omega];exact this
theorem qEM:∀r∈esL,QW r.1=true:=by decide
theorem qCr{s:List UInt8}{p q n:Nat}{t:T}(h:hdN s p=(some (t,n),q))(ks:List T)(A:ks.length=n):QQ (.mk t.kind t.name t.sort ks)=0:=by
 have C:=(qe6 h).2.2.1;unfold hdN at h;cases o:s[p]? with
 |none=>rw[o]at h;cases h
 |some c=>
   rw[o]at h;simp only[]at h;split at h
   .rename_i D;cases i:s[p+1]? with
    |none=>rw[i]at h;cases h
    |some k=>
      rw[i]at h;simp only[]at h;split at h
      .cases h
      .rename_i z;cases u:nmE s (p+2) k.toNat 0 with
       |some e=>rw[u]at h;cases h
       |none=>
         rw[u]at h;cases h;have y:=qvW u;have x:=qxN u;obtain⟨m,w⟩:∃m,k.toNat=m+1:=⟨k.toNat-1,by omega⟩
         have d:=y m (by omega);rw[wK]at d;have g:=List.getElem?_eq_getElem d;have a:=qDV (s:=s) (b:=p+2) (n:=m) (by omega) d (λ j c B o=>by have:=x j c (by omega) (by rw[wK];exact o);rwa [wB]at this) g;have f:=x m _ (by omega) (by rw[wK];exact g);rw[wB]at f;rw[f]at a;unfold QQ qkL;show(if(2:Int)=1\/(2:Int)=2 then(if(c.toNat:Int)<0\/5<(c.toNat:Int)\/0<ks.length then 1 else if QW ((s.take (p+2+k.toNat)).drop (p+2))=true then 0 else 2)else _)=(0:Int);rw[if_pos (.inr rfl),if_neg (by omega),w,a,if_pos rfl]
   .split at h
    .cases h
    .cases v:esL[c.toNat-16]? with
     |none=>rw[v]at h;cases h
     |some r=>
       rw[v]at h;have a:=qEM r (wc v)
       have l:∀m,m=n->QQ (.mk 3 r.1 0 ks)=0:=λ m w=>by
        unfold QQ qkL;show(if(3:Int)=1\/(3:Int)=2 then _ else if(3:Int)=3 then(if(0:Int)≠0 then 1 else if QW r.1=true then(if 8<ks.length then 3 else 0)else 2)else 1)=(0:Int);rw[if_neg (by decide),if_pos rfl,if_neg (by decide),a,if_pos rfl,if_neg (by omega)]
       simp only[]at h;split at h
       .cases i:s[p+1]? with
        |none=>rw[i]at h;cases h
        |some k=>
          rw[i]at h;simp only[]at h;split at h
          .cases h
          .cases h;exact l _ rfl
       .cases h;exact l _ rfl
theorem qyu{t:T}(h:QQ t=0)(b:∀k∈t.kids,Jd k=0):Jd t=0:=by
 rw[qmI,h];generalize t.kids=l at b
 induction l with
 |nil=>rfl
 |cons x l c=>rw[wv,xa,b x (wm ..)];exact c λ k a=>b k (we _ a)
theorem quh{R:Nat->Option T×Nat}(h:∀p q t,R p=(some t,q)->Jd t=0/\p+size t<=q):∀n p q ks,qaw R n p=(some ks,q)->(∀k∈ks,Jd k=0)/\p+(ks.map size).sum<=q
 |0,p,q,ks,a=>by cases a;exact⟨λ k d=>(by cases d),wa _⟩
 |n+1,p,q,ks,a=>by
   unfold qaw at a;split at a
   .cases a
   .rename_i k l d;let⟨i,o⟩:=h _ _ _ d;split at a
    .cases a
    .rename_i e j c;cases a;let⟨g,m⟩:=quh h n _ _ _ c;refine⟨λ f b=>?_,by rw[wv,kL];omega⟩;obtain rfl|b:=wG.1 b
     .exact i
     .exact g f b
theorem qx1(s:List UInt8):∀f p q t,rdT s f p=(some t,q)->Jd t=0/\p+size t<=q
 |0,p,q,t,h=>by cases h
 |f+1,p,q,t,h=>by
   unfold rdT at h;split at h
   .cases h
   .rename_i t0 n g b;split at h
    .cases h
    .rename_i ks i a;cases h;let⟨k,e,_⟩:=qe6 b;let⟨d,j⟩:=quh (qx1 s f) _ _ _ _ a;let⟨_,_,c⟩:=qr6 (qqp s f) _ _ _ _ e a;refine⟨qyu (qCr b ks c) d,?_⟩;rw[zy];show p+(1+(ks.map size).sum)<=q;omega
def qmL(s:List UInt8):T×(Int×Int):=match rdT s (s.length+1) 0 with
 |(none,e)=>(.mk 0 [] 0 [],((e:Int),2))
 |(some t,q)=>if q≠s.length then(.mk 0 [] 0 [],((q:Int),2))else if 400<size t\/40<qcX t then(.mk 0 [] 0 [],(0,3))else if qgR t=true then(t,(0,0))else(.mk 0 [] 0 [],(0,10))
theorem qAd(s:List UInt8)(e:s.length<=1000000000):Ev (λ m _=>Qk m s) (qmL s):=by
 refine wax ?_;simp only[qnN,qcq,qt];unfold qmL;let⟨i,g⟩:=qBL s e;cases b:rdT s (s.length+1) 0 with
 |mk o q=>
 cases o with
 |none=>exact wao (g _ b) (war rfl (waq _))
 |some t=>
   let⟨f,j⟩:=qx1 s _ _ _ _ b;let⟨_,k⟩:=qqp s _ _ _ _ b;refine wao (i _ _ b) (wau rfl ?_);simp only[];by_cases a:q=s.length
   .rw[if_neg (λ h=>h a)];refine wau (bnf.2 (qu.2 (by omega))) (wao (qa7 t (by omega)) ?_);have d:zl t=if 400<size t\/40<qcX t then 3 else 0:=by unfold zl;rw[if_neg (λ h=>h f)]
    rw[d];by_cases c:400<size t\/40<qcX t
    .rw[if_pos c,if_pos c];exact war rfl (waq _)
    .rw[if_neg c,if_neg c];refine wau rfl (wao (qAI t (by omega)) ?_);cases l:qgR t with
     |true=>exact wau rfl (waq _)
     |false=>exact war rfl (waq _)
   .rw[if_pos a];exact war (bnt.2 (qs.2 (by omega))) (waq _)
end Go.AmZ
namespace Go.AmZ
open Go Go.GxZ
def okR(u:T):Prop:=(u.kind=2/\0<=u.sort/\u.sort<=5/\QW u.name=true/\u.kids=[])\/(u.kind=3/\u.sort=0/\u.name∈nmL/\(zK u.name).1<=(u.kids.length:Int)/\(u.kids.length:Int)<=(zK u.name).2.1)
def qyz(t:T):Prop:=∀u∈qzG t,okR u
def hdS(u:T):List UInt8:=if u.kind=2 then zQ [iw .u8 u.sort,iw .u8 u.name.length]++u.name else zQ (if qi7 u.name then[hdE u.name]++[iw .u8 u.kids.length]else[hdE u.name])
theorem u8_in{n:Nat}(h:n<=255):iw .u8 (n:Int)=(n:Int):=IntWalk.u8_in _ (by omega)
theorem qGt{n:Nat}(h:n<=255):(UInt8.ofNat (iw .u8 (n:Int)).toNat).toNat=n:=by
 rw[u8_in h,km];simp only[UInt8.toNat_ofNat'];omega
theorem qF0{n:List UInt8}(h:n∈nmL):∃(j:Nat) (r:List UInt8×(Int×Int)),j<15/\hdE n=iw .u8 ((16+j:Nat):Int)/\esL[j]?=some r/\r.1=n:=by
 let⟨b,j,r,e,a,d⟩:=qBD esL n 0 (by rw[qyP];exact h);have c:j<15:=(List.getElem?_eq_some_iff.1 a).1;refine⟨j,r,c,?_,a,d⟩;unfold hdE;rw[qyP]at b;rw[<-b,e,show(16:Int)=((16:Nat):Int)from rfl,qe8,Qy (by omega),wB]
theorem qFS:∀r∈esL,(zK r.1).1=r.2.1/\(zK r.1).2.1=r.2.2:=by decide
theorem qGx:∀r∈esL,qi7 r.1=false->r.2.1=r.2.2:=by decide
theorem qG1(t:T)(h:okR t):zQ (bI t)=hdS t++zQ (t.kids.map bI).flatten:=by
 rw[qG8];unfold hdS;obtain⟨a,_,_,_,c⟩|⟨a,_⟩:=h
 .rw[if_pos a,if_pos a,qkf,qC4,c];exact(wx _).symm
 .have b:¬ t.kind=2:=by omega
  rw[if_neg b,if_neg b,qkf]
end Go.AmZ
namespace Go.AmZ
open Go Go.GxZ
theorem qnf(c:UInt8):UInt8.ofNat (iw .u8 ((c.toNat:Nat):Int)).toNat=c:=by
 have h:=c.toNat_lt;apply UInt8.toNat.inj;exact qGt (by omega)
theorem qw3{s:List UInt8}{b:Nat}:∀(n j:Nat),nmE s b n j=none->∀i,j<=i->i<j+n->∃c,s[b+i]?=some c/\okC i c=true
 |0,j,_,i,g,f=>by omega
 |n+1,j,h,i,g,f=>by
   rw[nmE]at h;cases e:s[b+j]? with
   |none=>rw[e]at h;cases h
   |some c=>
     rw[e]at h;cases a:okC j c with
     |false=>simp only[a,cond]at h;cases h
     |true=>
       simp only[a,cond]at h;by_cases d:i=j
       .subst d;exact⟨c,e,a⟩
       .exact qw3 n (j+1) h i (by omega) (by omega)
theorem qBf{n:List UInt8}(e:1<=n.length)(d:n.length<=24)(h:∀i c,n[i]?=some c->okC i c=true):QW n=true:=by
 unfold QW;simp only[wb,decide_eq_true_eq];refine⟨⟨⟨e,d⟩,?_⟩,?_⟩
 .have:=h 0 (n[0]) (List.getElem?_eq_getElem (by omega));unfold okC at this;rw[if_pos rfl]at this;rw[List.getD_eq_getElem?_getD,List.getElem?_eq_getElem (show 0<n.length by omega)];exact this
 .rw[ww];intro c b;obtain⟨i,a,rfl⟩:=List.mem_iff_getElem.1 b;have:=h i _ (List.getElem?_eq_getElem a);unfold okC at this;split at this
  .unfold Q0;rw[this];rfl
  .exact this
theorem qjc{s:List UInt8}{p:Nat}{c:UInt8}(h:s[p]?=some c):(s.take (p+1)).drop p=[c]:=by
 rw[kH,h,List.drop_append_of_le_length (by rw[wk];have:=(List.getElem?_eq_some_iff.1 h).1;omega)];simp
theorem qjo{s:List UInt8}{p q r:Nat}(b:p<=q)(a:q<=r):(s.take r).drop p=(s.take q).drop p++(s.take r).drop q:=by
 have e:s.take q=(s.take r).take q:=by rw[xz,wW a]
 rw[e];generalize s.take r=l;rw[List.drop_take]
 conv=>lhs;rw[<-kI (q-p) (l.drop p)]
 rw[waf,show p+(q-p)=q by omega]
theorem qFC(n:List UInt8)(so:Int)(ks:List T):hdS (.mk 2 n so ks)=zQ [iw .u8 so,iw .u8 n.length]++n:=if_pos rfl
theorem qsC(n:List UInt8)(so:Int)(ks:List T):hdS (.mk 3 n so ks)=zQ (if qi7 n then[hdE n]++[iw .u8 ks.length]else[hdE n]):=if_neg (show ¬ (3:Int)=2 by decide)
theorem qEQ{s:List UInt8}{p q n:Nat}{t:T}(h:hdN s p=(some (t,n),q))(ks:List T)(a:ks.length=n):okR (.mk t.kind t.name t.sort ks)/\(s.take q).drop p=hdS (.mk t.kind t.name t.sort ks):=by
 unfold hdN at h;cases v:s[p]? with
 |none=>rw[v]at h;cases h
 |some c=>
   rw[v]at h;simp only[]at h;split at h
   .rename_i Q;cases y:s[p+1]? with
    |none=>rw[y]at h;cases h
    |some d=>
      rw[y]at h;simp only[]at h;split at h
      .cases h
      .rename_i hd;have P:1<=d.toNat/\d.toNat<=24:=by omega
       cases B:nmE s (p+2) d.toNat 0 with
       |some e=>rw[B]at h;cases h
       |none=>
         rw[B]at h;simp only[wE,wu]at h;obtain⟨⟨rfl,rfl⟩,rfl⟩:=h;have m:=qw3 _ _ B
         have G:p+2+d.toNat<=s.length:=by
          let⟨K,C,_⟩:=m (d.toNat-1) (wh _) (by omega);have:=(List.getElem?_eq_some_iff.1 C).1;omega
         have f:((s.take (p+2+d.toNat)).drop (p+2)).length=d.toNat:=by
          rw[wO,wk];omega
         obtain rfl:=wg a;refine⟨.inl ⟨rfl,Int.natCast_nonneg _,by show((c.toNat:Nat):Int)<=5;omega,qBf (n:=(s.take (p+2+d.toNat)).drop (p+2)) (by rw[f];omega) (by rw[f];omega) λ i K o=>?_,rfl⟩,?_⟩
         .have O:i<d.toNat:=by rw[<-f];exact(List.getElem?_eq_some_iff.1 o).1
          let⟨c2,S,R⟩:=m i (wh _) (by omega);have o:((s.take (p+2+d.toNat)).drop (p+2))[i]?=some K:=o;rw[List.getElem?_drop,List.getElem?_take,if_pos (by omega),S]at o;cases o;exact R
         .refine Eq.trans ?_ (qFC ((s.take (p+2+d.toNat)).drop (p+2)) ((c.toNat:Nat):Int) []).symm;rw[f];show _=[UInt8.ofNat (iw .u8 ((c.toNat:Nat):Int)).toNat,UInt8.ofNat (iw .u8 ((d.toNat:Nat):Int)).toNat]++_;rw[qnf,qnf,qjo (q:=p+1) (by omega) (by omega),qjo (p:=p+1) (q:=p+2) (by omega) (by omega),qjc v,qjc y];rfl
   .split at h
    .cases h
    .rename_i Q U;cases l:esL[c.toNat-16]? with
     |none=>rw[l]at h;cases h
     |some r=>
       rw[l]at h;simp only[]at h;have w:=wc l;have hj:c.toNat-16<15:=(List.getElem?_eq_some_iff.1 l).1;have g:r.1∈nmL:=by rw[<-qyP];exact wC.2 ⟨r,w,rfl⟩
       let⟨Z,Y,X⟩:=qvT r w;let⟨F,E⟩:=qFS r w
       have u:UInt8.ofNat (hdE r.1).toNat=c:=by
        let⟨j,L,N,e1,D,W⟩:=qF0 g
        have:L=r/\j=c.toNat-16:=by
         have x:(esL.map (·.1)).Nodup:=by decide
         have J:(esL.map (·.1))[j]?=some r.1:=by rw[List.getElem?_map,D];exact congrArg some W
         have V:(esL.map (·.1))[c.toNat-16]?=some r.1:=by rw[List.getElem?_map,l];rfl
         have A:j<(esL.map (·.1)).length:=(List.getElem?_eq_some_iff.1 J).1;have I:=(List.getElem?_inj A x).1 (J.trans V.symm);refine⟨?_,I⟩;rw[I,l]at D;exact(kE D).symm
        rw[e1,this.2,show 16+(c.toNat-16)=c.toNat by omega];exact qnf c
       split at h
       .rename_i b;cases z:s[p+1]? with
        |none=>rw[z]at h;cases h
        |some k=>
          rw[z]at h;simp only[]at h;split at h
          .cases h
          .rename_i M;simp only[wE,wu]at h;obtain⟨⟨rfl,rfl⟩,rfl⟩:=h;refine⟨.inr ⟨rfl,rfl,g,?_,?_⟩,?_⟩
           .show(zK r.1).1<=(ks.length:Int);rw[F,a];omega
           .show(ks.length:Int)<=(zK r.1).2.1;rw[E,a];omega
           .refine Eq.trans ?_ (qsC r.1 0 ks).symm;rw[if_pos b,a];show _=[UInt8.ofNat (hdE r.1).toNat,UInt8.ofNat (iw .u8 ((k.toNat:Nat):Int)).toNat];rw[u,qnf,qjo (q:=p+1) (by omega) (by omega),qjc v,qjc z];rfl
       .rename_i b;rw[kG]at b;simp only[wE,wu]at h;obtain⟨⟨rfl,rfl⟩,rfl⟩:=h;have H:=qGx r w b;refine⟨.inr ⟨rfl,rfl,g,?_,?_⟩,?_⟩
        .show(zK r.1).1<=(ks.length:Int);rw[F,a];omega
        .show(ks.length:Int)<=(zK r.1).2.1;rw[E,a];omega
        .refine Eq.trans ?_ (qsC r.1 0 ks).symm;rw[if_neg (by rw[b];decide)];show _=[UInt8.ofNat (hdE r.1).toNat];rw[u,qjc v]
theorem quT{s:List UInt8}{R:Nat->Option T×Nat}(g:∀p k q,R p=(some k,q)->qyz k/\(s.take q).drop p=zQ (bI k)/\p<=q/\q<=s.length):∀(n p:Nat) (ks:List T) (q:Nat),p<=s.length->qaw R n p=(some ks,q)->ks.length=n/\(∀k∈ks,qyz k)/\(s.take q).drop p=zQ (ks.map bI).flatten/\p<=q/\q<=s.length
 |0,p,ks,q,f,h=>by
   simp only[qaw,wE,wu]at h;obtain⟨rfl,rfl⟩:=h;refine⟨rfl,λ k c=>(by cases c),?_,wa _,f⟩;rw[List.drop_eq_nil_of_le (by rw[wk];omega)];rfl
 |n+1,p,ks,q,f,h=>by
   simp only[qaw]at h;split at h
   .cases h
   .rename_i k d c;split at h
    .cases h
    .rename_i a l b;simp only[wE,wu]at h;obtain⟨rfl,rfl⟩:=h;let⟨y,w,j,v⟩:=g p k d c;let⟨u,t,r,i,o⟩:=quT g n d a l v b;refine⟨by rw[wA,u],λ x m=>(wG.1 m).elim (λ e=>e▸y) (t x),?_,wD j i,o⟩;rw[qjo j i,w,r,wv,vM,qkf]
theorem qxE{s:List UInt8}:∀(f p:Nat) (t:T) (q:Nat),rdT s f p=(some t,q)->qyz t/\(s.take q).drop p=zQ (bI t)/\p<=q/\q<=s.length
 |0,p,t,q,h=>by simp[rdT]at h
 |f+1,p,t,q,h=>by
   simp only[rdT]at h;split at h
   .cases h
   .rename_i t0 n d e;split at h
    .cases h
    .rename_i ks i b;simp only[wE,wu]at h;obtain⟨rfl,rfl⟩:=h;let⟨z,o,_⟩:=qe6 e;let⟨y,x,w,v,r⟩:=quT (λ p k q c=>qxE f p k q c) n d ks i o b;let⟨g,m⟩:=qEQ e ks y;refine⟨λ u a=>?_,?_,by omega,r⟩
     .rw[qEC]at a;obtain rfl|a:=wG.1 a
      .exact g
      .let⟨l,j,a⟩:=List.mem_flatten.1 a;obtain⟨k,c,rfl⟩:=wC.1 j;exact x k c u a
     .rw[qG1 _ g,qjo (q:=d) (by omega) v,m,w];rfl
theorem qwG{t:T}(h:qyz t):qsi t=true:=by
 unfold qsi qA4;rw[xn,vj];intro u b;obtain⟨a,_⟩|⟨a,_⟩:=h u b<;>(rw[a];decide)
theorem qwQ{t:T}(h:qgR t=true):qfS t=0:=by
 unfold qgR at h;rw[wb,decide_eq_true_eq]at h;have b:=h.1;by_cases a:qfS t=0
 .exact a
 .unfold qgB at b;rw[if_pos a]at b;exact absurd b a
theorem qu2{s:List UInt8}{t:T}{a:Int}(h:qmL s=(t,(a,0))):qzE t=0/\qGi t=s/\a=0/\size t<=400:=by
 unfold qmL at h;split at h
 .simp at h
 .rename_i e q f;let⟨j,i,_,l⟩:=qxE _ _ _ _ f;split at h
  .simp at h
  .rename_i b;have b:q=s.length:=kF λ g=>b g;split at h
   .simp at h
   .rename_i k;split at h
    .rename_i c;simp only[wE]at h;obtain⟨rfl,rfl,_⟩:=h
     have d:qzE e=0:=by
      unfold qzE;rw[if_neg (λ g=>g (qwQ c)),if_neg (by rw[qwG j];decide),if_neg (by rw[c];decide)]
     refine⟨d,?_,rfl,by omega⟩;unfold qGi;rw[if_pos d,<-i,b,wV,ke]
    .simp at h
end Go.AmZ
namespace Go.AmZ
open Go Go.GxZ Go.RowKit
open Go.ChangeShapes Go.WideShapes Go.ChangeAt Go.WideMaps Go.WideElems
theorem qsU(b o j:Nat):(⟨b,o,none⟩:Addr).add j=⟨b,o+j,none⟩:=by unfold Addr.add;split<;>simp_all
def Ty.wt:Ty->Nat
 |.int _|.bool=>1
 |.str=>16
 |.list _=>24
 |.term=>56
 |.pair a b=>a.wt+b.wt
 |.one a=>a.wt
 |.map _ _=>8
theorem Ty.wt_pos:∀a:Ty,0<a.wt
 |.int _|.bool=>Nat.one_pos
 |.list _=>(by decide:0<24)
 |.str=>(by decide:0<16)
 |.term=>(by decide:0<56)
 |.pair a b=>wy (Ty.wt_pos a) (kw _ _)
 |.one a=>Ty.wt_pos a
 |.map _ _=>(by decide:0<8)
mutual
def tyM(P:Program):Nat->Ty->TypeId->Bool
 |0,_,_=>false
 |_+1,.int k,t=>match P.underlying t with
   |some (.int d)=>decide (d=k)&&decide (P.cellsOf t=1)
   |_=>false
 |_+1,.bool,t=>match P.underlying t with
   |some .bool=>decide (P.cellsOf t=1)
   |_=>false
 |_+1,.str,t=>match P.underlying t with
   |some .string=>decide (P.cellsOf t=1)
   |_=>false
 |n+1,.list a,t=>match P.underlying t with
   |some (.slice e)=>decide (P.cellsOf t=1)&&decide (P.cellsOf e=a.size)&&decide (a.wt<=P.bytesOf e)&&tyM P n a e
   |_=>false
 |n+1,.term,t=>qzI P n t
 |n+1,.pair a b,t=>match P.underlying t with
   |some (.struct c)=>decide (P.cellsOf t=a.size+b.size)&&fsM P n (.pair a b) 0 c.toList
   |_=>false
 |n+1,.one a,t=>match P.underlying t with
   |some (.struct c)=>decide (P.cellsOf t=a.size)&&fsM P n a 0 c.toList
   |_=>false
 |_+1,.map _ _,_=>false
def fsM(P:Program):Nat->Ty->Nat->List Field->Bool
 |0,_,_,_=>false
 |n+1,τ,off,[f]=>decide (f.offset=off)&&decide (P.cellsOf f.type=τ.size)&&tyM P n τ f.type
 |n+1,.pair a b,off,f::g::r=>decide (f.offset=off)&&decide (P.cellsOf f.type=a.size)&&tyM P n a f.type&&fsM P n b (off+a.size) (g::r)
 |_+1,_,_,_=>false
def qzI(P:Program):Nat->TypeId->Bool
 |0,_=>false
 |n+1,t=>match P.underlying t with
   |some (.struct f)=>match f.toList with
     |[d,c,b,a]=>decide (P.cellsOf t=4)&&decide (d.offset=0)&&decide (c.offset=1)&&decide (b.offset=2)&&decide (a.offset=3)&&decide (P.cellsOf a.type=1)&&
      tyM P n (.int .i64) d.type&&tyM P n .str c.type&&tyM P n (.int .i64) b.type&&(match P.underlying a.type with
      |some (.slice e)=>decide (e=t)&&decide (0<P.bytesOf t)
      |_=>false)
     |_=>false
   |_=>false
end
def qgY:(τ:Ty)->Val τ->Prop
 |.int k,n=>k.min<=n/\n<=k.max
 |.bool,_=>True
 |.str,s=>s.length<2^62
 |.term,t=>qzD t
 |.list a,l=>(l.length<2^62/\l.length*a.wt<=2^47)/\∀x∈l,qgY a x
 |.pair a b,p=>qgY a p.1/\qgY b p.2
 |.one a,v=>qgY a v
 |.map _ _,_=>True
def ghW(W:World):Gh:=⟨λ b o=>match W.cell? ⟨b,o,none⟩with|some u=>if u.oneCell'=true then some u else none|none=>none,0,λ _=>0,0,λ _=>0,λ _=>0,λ _=>0,λ _=>0,λ _=>0⟩
theorem qx6{W:World}{b o:Nat}{u:Value}:(ghW W).mem b o=some u↔W.cell? ⟨b,o,none⟩=some u/\u.oneCell'=true:=by
 show(match W.cell? ⟨b,o,none⟩with|some u=>if u.oneCell'=true then some u else none|none=>none)=some u↔_;cases W.cell? ⟨b,o,none⟩with
 |none=>simp
 |some v=>
   simp only[wu];constructor
   .intro h;split at h
    .cases h;exact⟨rfl,‹_›⟩
    .cases h
   .rintro⟨rfl,h⟩;rw[if_pos h]
theorem qEz(W:World):Inv (ghW W) emp W:=
 ⟨rfl,rfl,λ b o u h=>qx6.1 h,λ i cs h=>(by cases h),λ i j h=>absurd h (wJ _),λ i h=>absurd h (wJ _),λ r R h=>(by cases h),λ r a h=>absurd h (wJ _)⟩
theorem cells_len{W:World}{zb:Nat}{a:Addr}:∀{n:Nat} {cs:List Value},W.cells? zb a n=some cs->cs.length=n/\∀ j u,cs[j]?=some u->W.cell? (a.add j)=some u:=by
 intro n cs h;unfold World.cells? at h;split at h
 case isFalse=>cases h
 have h1:=mapM_some_length h;rw[xO]at h1;refine⟨h1,λ j u hj=>?_⟩;have hlt:=getElem?_lt hj;have:=mapM_some_get h j j (by rw[List.getElem?_range (by omega)]);rw[this];exact hj
section
variable {H:Type}{enc:TypeId×Value->H}{P:Program}{W:World}
def qyL(enc:TypeId×Value->H)(P:Program)(W:World)(a:Nat):Prop:=∀(n:Nat) (τ:Ty) (t:TypeId) (cs:List Value) (x:DataW H×List MemPlace),tyM P n τ t=true->DataW.trod enc P W 0 (λ _=>true) true a t cs=some x->(∀k∈x.1.weights P t,k<=reachBytes)->
 ∃v:Val τ,RepL (ghW W) (qd τ v) cs/\(∀u∈cs,u.oneCell'=true)/\qgY τ v
theorem qjC{e:TypeId}:∀{ds:List (DataW H)}{d:DataW H},d∈ds->∀n∈d.weights P e,n∈DataW.weightsAll P e ds
 |b::ds,d,h,n,a=>by
   simp only[DataW.weightsAll,wi];obtain rfl|h:=wG.1 h
   .exact Or.inl a
   .exact Or.inr (qjC h n a)
theorem quq{n k:Nat}(h:n*k<=reachBytes)(a:0<k):n<2^62:=by
 have:n*1<=n*k:=vC _ a;have b:reachBytes=140737488351232:=rfl;omega
theorem qAE{α d:Type}{n:Nat}{Q:Nat->α->d->Prop}(e:0<n)(h:∀i,i<n->∃a b,Q i a b):∃(f:Nat->α) (g:Nat->d),∀i,i<n->Q i (f i) (g i):=by
 let⟨k,j,_⟩:=h 0 e;refine⟨λ i=>if c:i<n then(h i c).choose else k,λ i=>if c:i<n then(h i c).choose_spec.choose else j,λ i c=>?_⟩;simp only[dif_pos c];exact(h i c).choose_spec.choose_spec
theorem qwf{Γ:Gh}{x:AV}{u:Value}(h:Rep Γ x u):RepL Γ [x] [u]:=waB h RepL.nil
theorem qsB{A:Nat}(hA:∀f,f<A->qyL enc P W f){a:Ty}{t e:TypeId}{m:Nat}{cs:List Value}{x:DataW H×List MemPlace}(T:P.underlying t=some (.slice e))(hc:P.cellsOf e=a.size)(hb:0<P.bytesOf e)(hm:tyM P m a e=true)
  (h:DataW.trod enc P W 0 (λ _=>true) true A t cs=some x) (M:∀k∈x.1.weights P t,k<=reachBytes):
  ∃(l:List (Val a)) (u:Value),cs=[u]/\u.oneCell'=true/\Rep (ghW W) (.sl a.size (l.map (qd a)) 1) u/\(l.length<2^62/\l.length*P.bytesOf e<=2^47)/\∀v∈l,qgY a v:=by
 obtain⟨rfl,rfl⟩|⟨ad,d,cap,elems,E,n,rfl,rfl,rfl,_,U,_,I,O,_,_⟩:=DataW.trod_slice T h
 .refine⟨[],_,rfl,rfl,?_,⟨by simp,by simp⟩,(by intro v G;cases G)⟩;exact .sl _ _ _ none 0 0 0 0 (λ _ _=>undef) rfl (λ _=>wa _) (λ h=>by omega) (by intro e p;cases p) (by intro e p;cases p) (waz a) (.inl rfl) (by intro i e j x c;cases c) (by intro i e j x c;cases c)
 .have F:(elems.length+E.length)*P.bytesOf e<=reachBytes/\∀k∈DataW.weightsAll P e (elems.map (·.1)),k<=reachBytes:=by
    simp only[DataW.weights,T,wz,wG,wi]at M;exact⟨M _ (.inl rfl),λ k N=>M k (.inr (.inl N))⟩
  have B:∀i,i<d->∃(v:Val a) (us:List Value),RepL (ghW W) (qd a v) us/\(∀u∈us,u.oneCell'=true)/\qgY a v/\(∀j u,us[j]?=some u->W.cell? ((ad.add (i*a.size)).add j)=some u):=by
   intro i c;have g:=O i c;rw[List.getElem?_eq_getElem (by omega),hc,Option.bind_eq_some_iff]at g;let⟨us,C,h3⟩:=g;let⟨z,D⟩:=cells_len C;let⟨v,Q,g2,g3⟩:=hA n (xo _) m a e us _ hm h3 λ k N=>F.2 k (qjC (kY (wS _)) k N);exact⟨v,us,Q,g2,g3,D⟩
  by_cases h0:d=0
  .subst h0;refine⟨[],_,rfl,rfl,?_,⟨by simp,by simp⟩,(by intro v G;cases G)⟩;exact .sl _ _ _ _ 0 cap 0 0 (λ _ _=>undef) rfl (λ _=>U) (λ h=>by omega) (by intro e p;cases p) (by intro e p;cases p) (waz a) (.inl rfl) (by intro i e j x c;cases c) (by intro i e j x c;cases c)
  obtain⟨b,o,rfl⟩:∃b o,ad=⟨b,o,none⟩:=by
   let⟨v,us,Q,_,_,g4⟩:=B 0 (by omega);have aa:us.length=a.size:=by rw[Q.len];exact zC a v
   have hp:=waz a;have g:=g4 0 _ (List.getElem?_eq_getElem (by omega));rw[kr]at g;have e1:(ad.add 0).add 0=ad:=rfl;rw[e1]at g;let⟨b,o,sp⟩:=ad;unfold World.cell? at g;split at g
   .split at g
    .cases g
    .rename_i hs;cases sp with
     |none=>exact⟨b,o,rfl⟩
     |some s=>simp at hs
   .cases g
  let⟨L,R,r⟩:=qAE (by omega:0<d) B;have Z:=λ i c=>(r i c).1;have Y:=λ i c=>(r i c).2.1;have X:=λ i c=>(r i c).2.2.1;have V:=λ i c=>(r i c).2.2.2;have K:∀i,i<d->((List.range d).map L)[i]?=some (L i):=λ i c=>by rw[List.getElem?_map,List.getElem?_range c];rfl
  have q:∀(i:Nat) (w:List AV) (j:Nat) (y:AV),(((List.range d).map L).map (qd a))[i]?=some w->w[j]?=some y->i<d/\∃u,(R i)[j]?=some u/\Rep (ghW W) y u/\(ghW W).mem b (o+i*a.size+j)=some u:=by
   intro i w j y g C;have c:i<d:=by have:=getElem?_lt g;simpa using this
   rw[List.getElem?_map,K i c]at g;cases g;let⟨u,z,D⟩:=(Z i c).get C;refine⟨c,u,z,D,qx6.2 ⟨?_,Y i c u (wc z)⟩⟩;have:=V i c j u z;rw[qsU,qsU]at this;exact this
  refine⟨(List.range d).map L,_,rfl,rfl,?_,?_,?_⟩
  .refine .sl _ _ _ _ d cap b o (λ i j=>(R i).getD j undef) (by simp) (λ _=>U) (λ h=>by omega) ?_ ?_ (waz a) (.inr rfl) ?_ ?_
   .intro w p;obtain⟨v,_,rfl⟩:=wC.1 p;exact zC a v
   .intro w p;obtain⟨v,_,rfl⟩:=wC.1 p;exact qW a v
   .intro i w j y g C;let⟨_,u,z,D,S⟩:=q i w j y g C;rw[List.getD_eq_getElem?_getD,z];exact S
   .intro i w j y g C;let⟨_,u,z,D,S⟩:=q i w j y g C;rw[List.getD_eq_getElem?_getD,z];exact D
  .rw[wz,xO,<-I];have J:elems.length*P.bytesOf e<=reachBytes:=wD (wo _ (kw _ _)) F.1;exact⟨quq J hb,wD J (by decide)⟩
  .intro v G;obtain⟨i,c,rfl⟩:=wC.1 G;exact X i (kP.1 c)
theorem qrd{c:Nat}(G:qyL enc P W c):∀(n:Nat) (τ:Ty) (off:Nat) (d:List Field) (cs:List Value) (xs:List (DataW H×List MemPlace)),fsM P n τ off d=true->xs.length=d.length->
  (∀(i:Nat) (f:Field),d[i]?=some f->DataW.trod enc P W 0 (λ _=>true) true c f.type ((cs.drop f.offset).take (P.cellsOf f.type))=xs[i]?)->(∀k∈DataW.weightsEach P (d.map (·.type)) (xs.map (·.1)),k<=reachBytes)->off+τ.size<=cs.length->
  ∃v:Val τ,RepL (ghW W) (qd τ v) ((cs.drop off).take τ.size)/\(∀u∈(cs.drop off).take τ.size,u.oneCell'=true)/\qgY τ v:=by
 intro n
 induction n with
 |zero=>intro τ off d cs xs h;simp[fsM]at h
 |succ n M=>
   intro τ off d cs xs h A z m j
   have t:∀f x,d=[f]->xs=[x]->(decide (f.offset=off)&&decide (P.cellsOf f.type=τ.size)&&tyM P n τ f.type)=true->∃v:Val τ,RepL (ghW W) (qd τ v) ((cs.drop off).take τ.size)/\(∀u∈(cs.drop off).take τ.size,u.oneCell'=true)/\qgY τ v:=by
    intro f x Q w h;simp only[wb,decide_eq_true_eq]at h;let⟨⟨E,D⟩,C⟩:=h;subst Q;subst w;have o:=z 0 f rfl;rw[E,D]at o;exact G n τ f.type _ x C o λ k l=>m k (by simp only[wv,vx,DataW.weightsEach,wx];exact l)
   cases d with
   |nil=>cases τ<;>simp[fsM]at h
   |cons f r=>
     cases xs with
     |nil=>simp at A
     |cons x xs=>
       cases r with
       |nil=>
         have y:xs=[]:=wg (by simpa using A);subst y;refine t f x rfl rfl ?_;cases τ<;>exact h
       |cons g r=>
         cases τ with
         |pair a b=>
           simp only[fsM,wb,decide_eq_true_eq]at h;let⟨⟨⟨E,D⟩,C⟩,o⟩:=h;have I:=z 0 f rfl;rw[E,D]at I;have O:off+(a.size+b.size)<=cs.length:=j;simp only[wv,DataW.weightsEach,wi]at m;let⟨v,L,K,J⟩:=G n a f.type _ x C I λ k l=>m k (.inl l);let⟨F,s,q,p⟩:=M b (off+a.size) (g::r) cs xs o (by simpa using A) (λ i R B=>z (i+1) R B) (λ k l=>m k (.inr l)) (by omega)
           have e:(cs.drop off).take (a.size+b.size)=(cs.drop off).take a.size++(cs.drop (off+a.size)).take b.size:=by
            rw[List.take_add,waf]
           refine⟨(v,F),?_,?_,J,p⟩
           .show RepL _ (qd a v++qd b F) ((cs.drop off).take (a.size+b.size));rw[e];exact L.append s
           .show ∀u∈(cs.drop off).take (a.size+b.size),_;rw[e];intro u N;exact(wi.1 N).elim (K u) (q u)
         |_=>simp[fsM]at h
theorem qE7{Γ:Gh}(k:IntKind)(n:Int):RepL Γ (qd (.int k) n) [.int k n]:=qwf (.v _ rfl)
theorem qDE:∀ fuel,qyL enc P W fuel:=by
 intro fuel
 induction fuel using Nat.strongRecOn with
 | ind fuel ihA =>
   have ints:∀{k:IntKind} {t:TypeId} {cs:List Value} {x:DataW H × List MemPlace} {f:Nat},P.underlying t=some (.int k)->DataW.trod enc P W 0 (λ _=>true) true f t cs=some x->∃ n:Int,cs=[.int k n]/\k.min<=n/\n<=k.max:=by
    intro k t cs x f ht h;obtain⟨n,rfl,_,hwf⟩:=DataW.trod_int ht h;simp only[Lit.wf,wb,decide_eq_true_eq]at hwf;exact⟨n,rfl,hwf⟩
   have strs:∀{t:TypeId} {cs:List Value} {x:DataW H × List MemPlace} {f:Nat},P.underlying t=some .string->DataW.trod enc P W 0 (λ _=>true) true f t cs=some x->(∀ k∈x.1.weights P t,k<=reachBytes)->∃ s:ByteArray,cs=[.string s]/\s.data.toList.length<2 ^ 62:=by
    intro t cs x f ht h hw;obtain⟨s,rfl,rfl,_⟩:=DataW.trod_string ht h;refine⟨s,rfl,?_⟩;have:=hw s.data.toList.length (by simp[DataW.weights]);exact quq (k:=1) (by omega) (by decide)
   intro n τ t cs x hm h hw;cases n with
   | zero=>cases τ <;> simp[tyM]at hm
   | succ n =>
   cases τ with
   | int k =>
     simp only[tyM]at hm;split at hm
     ·rename_i k' ht;simp only[wb,decide_eq_true_eq]at hm;obtain⟨rfl,_⟩:=hm;obtain⟨i,rfl,h1,h2⟩:=ints ht h;exact⟨i,qE7 _ _,by intro u hu;rw[wF.1 hu];rfl,h1,h2⟩
     ·cases hm
   | bool =>
     simp only[tyM]at hm;split at hm
     ·rename_i ht;obtain⟨b,rfl,_⟩:=DataW.trod_bool ht h;exact⟨b,qwf (.v _ rfl),by intro u hu;rw[wF.1 hu];rfl,trivial⟩
     ·cases hm
   | str =>
     simp only[tyM]at hm;split at hm
     ·rename_i ht;obtain⟨s,rfl,h1⟩:=strs ht h hw;refine⟨s.data.toList,?_,by intro u hu;rw[wF.1 hu];rfl,h1⟩;exact qwf (.v _ rfl)
     ·cases hm
   | list a =>
     simp only[tyM]at hm;split at hm
     ·rename_i e ht;simp only[wb,decide_eq_true_eq]at hm;obtain⟨⟨⟨_,hc⟩,hb⟩,hm⟩:=hm;obtain⟨l,u,rfl,h1,h2,h3,h4⟩:=qsB (λ f hf=>ihA f hf) ht hc (wy (Ty.wt_pos a) hb) hm h hw;exact⟨l,qwf h2,by intro u' hu;rw[wF.1 hu];exact h1,⟨h3.1,wD (vC _ hb) h3.2⟩,h4⟩
     ·cases hm
   | pair a b =>
     simp only[tyM]at hm;split at hm
     ·rename_i fs ht;simp only[wb,decide_eq_true_eq]at hm;obtain⟨hc,hm⟩:=hm;obtain⟨xs,f,rfl,rfl,h1,h2,h3⟩:=DataW.trod_struct ht h;have hsz:(Ty.pair a b).size=a.size+b.size:=rfl;obtain⟨v,v1,v2,v3⟩:=qrd (ihA f (xo _)) n (.pair a b) 0 fs.toList cs xs hm (by simpa using h2) (λ i g hg=>h3 i g (by simpa using hg)) (by simpa[DataW.weights,ht]using hw) (by rw[h1,hc,hsz];omega);rw[ke,kW (by rw[h1,hc,hsz];exact wa _)]at v1 v2;exact⟨v,v1,v2,v3⟩
     ·cases hm
   | one a =>
     simp only[tyM]at hm;split at hm
     ·rename_i fs ht;simp only[wb,decide_eq_true_eq]at hm;obtain⟨hc,hm⟩:=hm;obtain⟨xs,f,rfl,rfl,h1,h2,h3⟩:=DataW.trod_struct ht h;obtain⟨v,v1,v2,v3⟩:=qrd (ihA f (xo _)) n a 0 fs.toList cs xs hm (by simpa using h2) (λ i g hg=>h3 i g (by simpa using hg)) (by simpa[DataW.weights,ht]using hw) (by rw[h1,hc];omega);rw[ke,kW (by rw[h1,hc];exact wa _)]at v1 v2;exact⟨v,v1,v2,v3⟩
     ·cases hm
   | map a b=>simp[tyM]at hm
   | term =>
     have hm0:=hm;simp only[tyM]at hm;cases n with
     | zero=>simp[qzI]at hm
     | succ n =>
     simp only[qzI]at hm;split at hm
     case h_2=>cases hm
     rename_i fs ht;split at hm
     case h_2=>cases hm
     rename_i f0 f1 f2 f3 hfs;simp only[wb,decide_eq_true_eq]at hm;obtain⟨⟨⟨⟨⟨⟨⟨⟨⟨hc,o0⟩,o1⟩,o2⟩,o3⟩,hc3⟩,m0⟩,m1⟩,m2⟩,m3⟩:=hm;split at m3
     case h_2=>cases m3
     rename_i e ht3;simp only[wb,decide_eq_true_eq]at m3;obtain⟨rfl,hb⟩:=m3;obtain⟨xs,f,rfl,rfl,h1,h2,h3⟩:=DataW.trod_struct ht h;have hsz:fs.size=4:=by rw[<- wL,hfs];rfl
     rw[hsz]at h2;rw[hc]at h1
     obtain⟨c0,c1,c2,c3,rfl⟩:∃ c0 c1 c2 c3,cs=[c0,c1,c2,c3]:=by
      match cs,h1 with
      | [a,b,c,d],_=>exact⟨a,b,c,d,rfl⟩
     obtain⟨x0,x1,x2,x3,rfl⟩:∃ x0 x1 x2 x3,xs=[x0,x1,x2,x3]:=by
      match xs,h2 with
      | [a,b,c,d],_=>exact⟨a,b,c,d,rfl⟩
     have fg:∀ i g,[f0,f1,f2,f3][i]?=some g->fs[i]?=some g := λ i g hg=>by rw[<- hfs,Array.getElem?_toList]at hg;exact hg
     have s0:=h3 0 f0 (fg 0 _ rfl);have s1:=h3 1 f1 (fg 1 _ rfl);have s2:=h3 2 f2 (fg 2 _ rfl);have s3:=h3 3 f3 (fg 3 _ rfl)
     have cOf:∀{τ : Ty} {t:TypeId},(∃ k,τ = .int k) \/ τ = .str->tyM P n τ t=true->P.cellsOf t=1:=by
      intro τ t hτ hm;cases n with
      | zero=>cases τ <;> simp[tyM]at hm
      | succ n =>
        rcases hτ with⟨k,rfl⟩ | rfl
        ·simp only[tyM]at hm;split at hm
         ·simp only[wb,decide_eq_true_eq]at hm;exact hm.2
         ·cases hm
        ·simp only[tyM]at hm;split at hm
         ·exact of_decide_eq_true hm
         ·cases hm
     have uInt:∀{k:IntKind} {t:TypeId},tyM P n (.int k) t=true->P.underlying t=some (.int k):=by
      intro k t hm;cases n with
      | zero=>simp[tyM]at hm
      | succ n =>
        simp only[tyM]at hm;split at hm
        ·rename_i k' ht;simp only[wb,decide_eq_true_eq]at hm;rw[ht,hm.1]
        ·cases hm
     have uStr:∀{t:TypeId},tyM P n .str t=true->P.underlying t=some .string:=by
      intro t hm;cases n with
      | zero=>simp[tyM]at hm
      | succ n =>
        simp only[tyM]at hm;split at hm
        ·assumption
        ·cases hm
     rw[o0,cOf (.inl ⟨_,rfl⟩) m0]at s0;rw[o1,cOf (.inr rfl) m1]at s1;rw[o2,cOf (.inl ⟨_,rfl⟩) m2]at s2;rw[o3,hc3]at s3
     have hwE:∀ k∈DataW.weightsEach P [f0.type,f1.type,f2.type,f3.type] [x0.1,x1.1,x2.1,x3.1],k<=reachBytes:=by
      intro k hk;refine hw k ?_;simp only[DataW.weights,ht,hfs];exact hk
     simp only[DataW.weightsEach,wi]at hwE;obtain⟨i0,e0,_,_⟩:=ints (uInt m0) (f:=f) (x:=x0) s0;obtain⟨i1,e1,b1⟩:=strs (uStr m1) (f:=f) (x:=x1) s1 λ k hk=>hwE k (.inr (.inl hk));obtain⟨i2,e2,_,_⟩:=ints (uInt m2) (f:=f) (x:=x2) s2;obtain⟨l,u,e3,b3,r3,l3,v3⟩:=qsB (a := .term) (λ g hg=>ihA g (Nat.lt_succ_of_lt hg)) ht3 hc hb hm0 s3 λ k hk=>hwE k (.inr (.inr (.inr (.inl hk))));have g0:c0 = .int .i64 i0:=by simpa using e0
     have g1:c1 = .string i1:=by simpa using e1
     have g2:c2 = .int .i64 i2:=by simpa using e2
     have g3:c3=u:=by simpa using e3
     subst g0;subst g1;subst g2;subst g3;refine⟨.mk i0 i1.data.toList i2 l,?_,?_,(qFa _).2 ⟨l3.1,b1,v3⟩⟩
     ·show RepL _ (QO _) _;rw[QO,qgW];exact waB (.v _ rfl) (waB (.v _ rfl) (waB (.v _ rfl) (qwf r3)))
     ·intro u hu;simp only[wG,xb,or_false]at hu;rcases hu with rfl | rfl | rfl | rfl
      ·rfl
      ·rfl
      ·rfl
      ·exact b3
end
end Go.AmZ
namespace Go.AmZ
open Go Go.GxZ
theorem qsJ(s:List UInt8):size (qmL s).1<=400:=by
 have a:size (.mk 0 [] 0 [])<=400:=by rw[zy];decide
 unfold qmL;split
 .exact a
 .split
  .exact a
  .split
   .exact a
   .split
    .rename_i t q d e c f;exact vV λ b=>c (.inl b)
    .exact a
theorem qv0{a b:List UInt8}(h:a.length+b.length<2^62):qcH a b=true:=by
 unfold qcH;rw[decide_eq_true_iff];show _<=(9223372036854775807:Int);omega
def qhG(s:List UInt8)(i b:Int):List UInt8×Int:=if i<0\/(s.length:Int)<=i then([],7)else((yv s 0 i++zQ [b])++yv s (iw .i64 (qj i 1)) s.length,0)
theorem qmY{s:List UInt8}{i:Int}(b:Int)(h:s.length<=2000)(k:0<=i)(j:i<(s.length:Int)):inb i s.length=true/\inb 0 (Int.toNat i)=true/\qcH (yv s 0 i) (zQ [b])=true/\inb (s.length:Int) s.length=true/\inb (iw .i64 (qj i 1)) (Int.toNat (s.length:Int))=true/\qcH (yv s 0 i++zQ [b]) (yv s (iw .i64 (qj i 1)) s.length)=true/\((yv s 0 i++zQ [b])++yv s (iw .i64 (qj i 1)) s.length).length<=4100:=by
 have c:∀a b:Int,(yv s a b).length<=s.length:=λ a b=>by unfold yv;rw[wO,wk];omega
 have e:iw .i64 (qj i 1)=i+1:=by unfold qj;exact Qy (by omega)
 have g:=c 0 i;have f:=c (iw .i64 (qj i 1)) s.length;have d:(zQ [b]).length=1:=rfl;refine⟨?_,?_,qv0 (by omega),?_,?_,qv0 (by rw[wd];omega),by rw[wd,wd];omega⟩
 .unfold inb;rw[decide_eq_true_iff];omega
 .unfold inb;rw[decide_eq_true_iff];omega
 .unfold inb;rw[decide_eq_true_iff];omega
 .rw[e];unfold inb;rw[decide_eq_true_iff];omega
theorem qDC(s:List UInt8)(d:s.length<=2000)(i b:Int):Ev (λ m _=>qcC m s i b) (qhG s i b):=by
 refine wax ?_;simp only[qoK,qc0];unfold qhG;by_cases c:i<0
 .rw[if_pos (.inl c)];exact war (zg.2 c) (waq _)
 by_cases a:(s.length:Int)<=i
 .rw[if_pos (.inr a)];exact wau (qX.2 (by omega)) (war (qgr.2 a) (waq _))
 let⟨k,j,h,g,f,e,_⟩:=qmY b d (by omega) (by omega:i<(s.length:Int));rw[if_neg (by omega)];exact wau (qX.2 (by omega)) (wau (qh8.2 (by omega)) (war k (war j (war h (war g (war f (war e (waq _))))))))
theorem qBj(s:List UInt8)(d:s.length<=2000)(i b:Int):Ev (λ m _=>qfp m s i b) (qhG s i b):=by
 refine wax ?_;simp only[qtD,qe9];unfold qhG;by_cases c:i<0
 .rw[if_pos (.inl c)];exact war (zg.2 c) (waq _)
 by_cases a:(s.length:Int)<=i
 .rw[if_pos (.inr a)];exact wau (qX.2 (by omega)) (war (qgr.2 a) (waq _))
 let⟨k,j,h,g,f,e,_⟩:=qmY b d (by omega) (by omega:i<(s.length:Int));rw[if_neg (by omega)];exact wau (qX.2 (by omega)) (wau (qh8.2 (by omega)) (war k (war j (war h (war g (war f (war e (waq _))))))))
theorem qA3(s:List UInt8)(a:s.length<=2000)(i b:Int):(qhG s i b).1.length<=4100:=by
 unfold qhG;by_cases h:i<0\/(s.length:Int)<=i
 .rw[if_pos h];exact wh _
 .rw[if_neg h];exact(qmY b a (by omega) (by omega:i<(s.length:Int))).2.2.2.2.2.2
theorem envelopeSpoil_ev(s:List UInt8)(i b:Int)(_:qgY .str s)(_:IntKind.i64.min<=i/\i<=IntKind.i64.max)(_:IntKind.u8.min<=b/\b<=IntKind.u8.max):Ev (λ m _=>law20_EnvelopeSpoil m s i b) true:=by
 refine wax ?_;simp only[qjt,qax,qt];refine wao qrb (wau rfl ?_);by_cases hl:ilt 2000 (s.length:Int)=true
 ·exact war hl (wao qrb (waq _))
 rw[kG]at hl;have hs:s.length<=2000:=by have:=qX.1 hl;omega
 have hx:=qA3 s hs i b;refine wau hl (wao (qDC s hs i b) (wao (qBj s hs i b) ?_));generalize qhG s i b=x at hx;have eq1:∀ x:Int,ieq x x=true := λ x=>qu.2 rfl;refine wau (bnf.2 (Qb.2 rfl)) (wau (bnf.2 (eq1 _)) ?_);by_cases h0:x.2=0
 case neg=>exact war (bnt.2 (qs.2 h0)) (war (Qb.2 rfl) (wav (eq1 _)))
 refine wau (bnf.2 (qu.2 h0)) (wao (qAd s (by omega)) (wao (qAd x.1 (by omega)) ?_));have hz1:=qsJ s;have hz2:=qsJ x.1;generalize hd1:qmL s=d1 at hz1;generalize hd2:qmL x.1=d2 at hz2;obtain⟨t,a,e⟩:=d1;obtain⟨u,a',e'⟩:=d2;have hz1:size t<=400:=hz1;have hz2:size u<=400:=hz2;by_cases g1:e=0
 case neg=>exact war (bnt.2 (qs.2 g1)) (waq _)
 by_cases g2:e'=0
 case neg=>exact wau (bnf.2 (qu.2 g1)) (war (bnt.2 (qs.2 g2)) (waq _))
 subst g1;subst g2;obtain⟨_,k1,_⟩:=qu2 hd1;obtain⟨_,k2,_⟩:=qu2 hd2;refine wau (bnf.2 (eq1 _)) (wau (bnf.2 (eq1 _)) (wao (qCA t u (by omega) (by omega)) (wav ?_)))
 have:qbt t u=qD x.1 s:=by
  cases h:qD x.1 s with
  | true =>
    have:=Qb.1 h;rw[this,hd1]at hd2;simp only[wE]at hd2;exact qsY.2 hd2.1
  | false =>
    cases g:qbt t u with
    | false=>rfl
    | true =>
      have:=qsY.1 g;subst this;rw[k1]at k2;rw[Qb.2 k2.symm]at h;cases h
 rw[this];cases qD x.1 s<;>rfl
end Go.AmZ
namespace Go.AmZ
open Go Go.GxZ
set_option linter.unusedVariables false
set_option maxRecDepth 100000
open Go.Proofs.Tryz (f6 f10 f11 f13 f14 f20 f21 f26 f32 f33 f34 f36 f37 f39 f43 f44 f45 f46 f50 f51 f52 f56 f57 f58 f67 f68 f69 f70 f71 f72 f73 f79 f80 f81 f82 f83 f84 f85 f88 f89 f91 f92 f93 f95 f96 f100 f101 f102 f103 f109 f110 f111 f113 f114 f115 f118 f119 f120 f121 f122 f123 f126 f127 f128 f129 f130 f131 f141 f142 f144 f149 f150 f151 f153 f154 f155 f156 f157 f158 f159 f160 f161 f162 f163 f164 f165 f184 f185 f186 f187 f190 f191 f192 f194 f195 f214 f223 f224 f227 f228 f241)
abbrev y12:Ty:=.int .u8
abbrev y2:Ty:=.int .i64
abbrev y5:Ty:=.list .term
abbrev y3:Ty:=.pair .term .term
abbrev y11:Ty:=.pair .str y2
abbrev y1:Ty:=.pair .term y2
abbrev y8:Ty:=.list y3
abbrev y4:Ty:=.list y1
abbrev y13:Ty:=.map y11 .term
abbrev y9:Ty:=.pair .str (.pair y2 .bool)
abbrev y7:Ty:=.pair .str (.pair y2 y2)
abbrev y10:Ty:=.list y7
abbrev y6:Ty:=.pair .str (.pair y2 (.pair y2 y2))
def i6:FI:=⟨f6,[.val .str,.val y2,.val y12],[.bool],[],[],u3 law20_EnvelopeSpoil⟩
def i10:FI:=⟨f10,[],[.bool],[],[],u0 qc9⟩
def i11:FI:=⟨f11,[.val .str],[.term,y2,y2],[],[],u1 Qk⟩
def i13:FI:=⟨f13,[.val .term,.val .term],[.bool],[],[],u2 qga⟩
def i14:FI:=⟨f14,[.val .term],[.str,y2],[],[],u1 qir⟩
def i20:FI:=⟨f20,[.val .str,.val y2,.val y12],[.str,y2],[],[],u3 qcC⟩
def i21:FI:=⟨f21,[.val .str,.val y2,.val y12],[.str,y2],[],[],u3 qfp⟩
def i26:FI:=⟨f26,[.val y5],[y2,y2,.term,y2],[(5,[(0,.list .term),(4,.box [.keep,.keep,.keep,.row .term false]),(20,.keep),(21,.keep)]),(9,[(0,.list .term),(4,.box [.keep,.keep,.keep,.row .term false]),(7,.keep),(8,.box [.keep,.keep,.keep,.list .term]),(9,.keep),(20,.keep),(21,.keep)])],[],u1 qcZ⟩
def i32:FI:=⟨f32,[.val .str,.val y5],[.term],[],[],u2 qdL⟩
def i33:FI:=⟨f33,[.val .str,.val y2],[.term],[],[],u2 qgt⟩
def i34:FI:=⟨f34,[.val .str,.val y2],[.term],[],[],u2 qh6⟩
def i36:FI:=⟨f36,[.val .term],[y2],[],[],u1 qR⟩
def i37:FI:=⟨f37,[.val .term],[.bool],[],[],u1 qcy⟩
def i39:FI:=⟨f39,[.val .term],[y2],[(3,[(1,.box [.keep,.keep,.keep,.list .term]),(3,.keep),(4,.keep)])],[],u1 jc⟩
def i43:FI:=⟨f43,[.val .term,.val .term],[y2],[(18,[(2,.box [.keep,.keep,.keep,.list .term]),(3,.box [.keep,.keep,.keep,.list .term]),(9,.keep)])],[],u2 ya⟩
def i44:FI:=⟨f44,[.val .term],[y2],[],[],u1 Jy⟩
def i45:FI:=⟨f45,[.val .term],[y5],[],[],u1 qsX⟩
def i46:SI:=⟨f46,[.row y12,.val .term],[.one (.row y12)],[(8,[(0,.row y12 false),(46,.list .term),(47,.keep),(48,.keep)])],[],u2 qcF⟩
def i50:FI:=⟨f50,[.val y5],[y2],[(4,[(9,.list .term),(10,.keep),(11,.keep)])],[],u1 qf8⟩
def i51:FI:=⟨f51,[.val y2],[.str],[],[],u1 qhe⟩
def i52:FI:=⟨f52,[.val y8,.val .term],[.term],[(2,[(0,.list y3),(3,.box [.keep,.keep,.keep,.list .term]),(4,.box [.keep,.keep,.keep,.row .term false]),(10,.list y3),(11,.keep),(12,.keep)]),(10,[(0,.list y3),(4,.box [.keep,.keep,.keep,.row .term false]),(7,.box [.keep,.keep,.keep,.row .term false]),(27,.list .term),(28,.keep),(29,.keep)])],[],u2 qcn⟩
def i56:SI:=⟨f56,[.val .term,.val .str,.box [.val (.map .str .str)]],[.one (.val .term)],[(9,[(1,.keep),(2,.box []),(6,.box [.keep,.keep,.keep,.row .term false]),(7,.box [.keep,.keep,.keep,.row .term false]),(38,.list .term),(39,.keep),(40,.keep)])],[],u3 qaP⟩
def i57:FI:=⟨f57,[.val .term,.val .term],[y8,y2],[],[],u2 qoe⟩
def i58:FI:=⟨f58,[.val .term],[y2],[],[],u1 qhu⟩
def i67:SI:=⟨f67,[.box [.val y9]],[.agg [.val y2,.val .str,.val y2,.row .term,.val y2]],[],[],u1 qn⟩
def i68:SI:=⟨f68,[.val .term,.val y2,.box [.val y2],.box [.val y2]],[.one (.val y2)],[(17,[(1,.keep),(2,.box [.keep]),(3,.box [.keep]),(57,.list .term),(58,.keep),(59,.keep)])],[],u4 zD⟩
def i69:FI:=⟨f69,[.val .term],[.term,y2],[],[],u1 qdu⟩
def i70:FI:=⟨f70,[.val .term,.val .term],[.bool],[],[],u2 QN⟩
def i71:FI:=⟨f71,[.val .term,.fn],[.bool],[(4,[(1,.keep),(18,.list .term),(19,.keep),(20,.keep)])],[],u1 qO⟩
def qzt:FI:=⟨f71,[.val .term,.fn],[.bool],[(4,[(1,.keep),(18,.list .term),(19,.keep),(20,.keep)])],[],u1 JU⟩
def i72:FI:=⟨f72,[.val .str],[.bool],[],[],u1 qcT⟩
def i73:FI:=⟨f73,[.val .str],[y6],[(2,[(0,.keep),(2,.box [.keep,.keep,.keep,.keep]),(5,.list y6),(6,.keep),(7,.keep)])],[],u1 J6⟩
def i79:FI:=⟨f79,[.val y2,.val y2],[y2],[],[],u2 JL⟩
def i80:FI:=⟨f80,[.val .term],[y2],[(13,[(1,.box [.keep,.keep,.keep,.list .term]),(38,.list .term),(39,.keep),(40,.keep)]),(22,[(62,.list .term),(63,.keep),(64,.keep)])],[],u1 qx⟩
def i81:FI:=⟨f81,[.val .term,.val y2],[y5],[],[],u2 qn0⟩
def i82:SI:=⟨f82,[.val y10,.clo 84 1,.box [.val .term]],[.one (.val y2)],[(2,[(0,.list y7),(1,.fn [.box [.keep,.keep,.keep,.list .term]]),(7,.keep),(8,.keep)])],[],u2 yJ⟩
def i83:FI:=⟨f83,[],[y10],[],[],u0 zN⟩
def i84:SI:=⟨f84,[.val y7,.box [.val .term]],[.one (.val .bool)],[],[],u2 qdJ⟩
def i85:FI:=⟨f85,[.val y7],[.bool],[],[],u1 zW⟩
def i88:FI:=⟨f88,[.val y2],[.str],[],[],u1 qdT⟩
def i89:FI:=⟨f89,[.val .term,.val .term],[y2],[(11,[(2,.box [.keep,.keep,.keep,.list .term]),(3,.box [.keep,.keep,.keep,.list .term]),(5,.keep),(6,.keep)])],[],u2 qv⟩
def i91:FI:=⟨f91,[.val .term,.val .term],[y2],[],[],u2 qn9⟩
def i92:FI:=⟨f92,[.val y8],[y8,y2],[(2,[(4,.box [.list y3,.row y3 false])])],[],u1 qoc⟩
def i93:FI:=⟨f93,[.val .term],[.bool],[],[],u1 qof⟩
def i95:FI:=⟨f95,[.val .term],[y11],[],[],u1 qlM⟩
def i96:FI:=⟨f96,[.val .term,.val .term],[.bool],[],[],u2 qka⟩
def qGH:SI:=⟨f100,[.box [.val y9],.val y2,.val y2],[.one (.val y2)],[],[],u3 qS⟩
def qDS:SI:=⟨f101,[.box [.val y9]],[.one (.val .str)],[(4,[(0,.box [.keep,.keep,.keep]),(4,.keep),(14,.keep),(15,.keep)])],[],u1 Qg⟩
def qC5:FI:=⟨f102,[.val .str],[.bool],[(4,[(0,.keep),(38,.keep),(39,.keep)])],[],u1 qbK⟩
def qCj:FI:=⟨f103,[.val .term],[.term,y2],[(5,[(1,.box [.keep,.keep,.keep,.list .term]),(2,.box [.keep,.keep,.keep,.row .term false]),(4,.box [.keep,.keep,.keep,.row .term false]),(19,.list .term),(20,.keep),(21,.keep)])],[],u1 zZ⟩
def qDm:SI:=⟨f109,[.val .term,.clo 110 2,.box [.val y2],.box [.row .term]],[],[(3,[(1,.fn [.box [.keep],.box [.row .term false]]),(10,.list .term),(11,.keep),(12,.keep)])],[],u3 qaH⟩
def qFK:SI:=⟨f110,[.val .term,.box [.val y2],.box [.row .term]],[],[],[],u3 qdX⟩
def qDT:SI:=⟨f111,[.row .term],[.one (.row .term)],[(4,[(0,.row .term false),(9,.keep),(10,.keep)])],[],u1 ql8⟩
def qGA:FI:=⟨f113,[.val y2,.val y2],[.str],[],[],u2 qbF⟩
def qFH:FI:=⟨f114,[.val y2,.val y2],[y2],[],[],u2 qcv⟩
def qCv:FI:=⟨f115,[.val .term],[y2],[(3,[(3,.keep),(7,.list .term),(8,.keep),(9,.keep)])],[],u1 jG⟩
def qCD:SI:=⟨f118,[.box [.val y8,.row y3]],[.one (.val y2)],[(8,[(0,.box [.list y3,.row y3 false]),(3,.box [.keep,.keep,.keep,.list .term]),(4,.box [.keep,.keep,.keep,.list .term]),(5,.row y3 false),(39,.keep),(40,.keep)])],[],u1 qhv⟩
def qGP:SI:=⟨f119,[.row y3],[.one (.row y3)],[],[],u1 qip⟩
def qFT:FI:=⟨f120,[.val .str],[.bool],[],[],u1 qlc⟩
def qF6:FI:=⟨f121,[.val .term],[.bool],[],[],u1 qbN⟩
def qGR:FI:=⟨f122,[.val .term,.val .term],[.bool],[],[],u2 qkJ⟩
def qGl:FI:=⟨f123,[.val .term,.val .term],[.bool],[],[],u2 qn6⟩
def qGG:FI:=⟨f126,[.val y12],[.bool],[],[],u1 qfJ⟩
def qGe:FI:=⟨f127,[.val .term],[.term],[],[],u1 qaX⟩
def qDj:FI:=⟨f128,[.val y5],[.term,y2],[(6,[(2,.box [.keep,.keep,.keep,.row .term true]),(5,.list .term),(15,.list .term),(16,.keep),(17,.keep)])],[],u1 qnx⟩
def qFJ:FI:=⟨f129,[.val .term],[y4,y2],[],[],u1 qay⟩
def qvn:FI:=⟨f130,[.val y4],[.term,y2],[(6,[(2,.box [.keep,.keep,.keep,.row .term false]),(5,.row .term false),(6,.row .term false),(18,.list y1),(19,.keep),(20,.keep)]),(11,[(2,.box [.keep,.keep,.keep,.row .term false]),(5,.row .term false),(6,.row .term false),(8,.box [.keep,.keep,.keep,.list .term,.keep]),(18,.list y1),(19,.keep),(20,.keep),(34,.keep),(35,.keep)]),(15,[(2,.box [.keep,.keep,.keep,.row .term false]),(5,.row .term false),(6,.row .term false),(8,.box [.keep,.keep,.keep,.list .term,.keep]),(18,.list y1),(19,.keep),(20,.keep),(46,.keep),(47,.keep)])],[],u1 Qu⟩
def qGI:FI:=⟨f131,[.val .term,.val .term],[.term,y2],[],[],u2 qem⟩
def qGw:FI:=⟨f141,[.val .term,.val .term],[.bool],[],[],u2 qeZ⟩
def qC7:FI:=⟨f142,[.val .term],[.term],[(4,[(1,.box [.keep,.keep,.keep,.row .term false]),(2,.box [.keep,.keep,.keep,.row .term false]),(9,.list .term),(10,.keep),(11,.keep)])],[],u1 yR⟩
def qF1:FI:=⟨f144,[.val y2],[.str],[],[],u1 qdh⟩
def qGV:SI:=⟨f149,[.box [.val y8,.row y3],.val .term,.val .term],[.one (.val y2)],[],[],u3 qii⟩
def qFY:FI:=⟨f150,[.val .term,.val .term],[.bool],[],[],u2 qb7⟩
def qyo:SI:=⟨f151,[.box [.val y8,.row y3],.val .term,.val .term],[.one (.val y2)],[(6,[(0,.box [.list y3,.row y3 false]),(4,.box [.keep,.keep,.keep,.list .term]),(5,.box [.keep,.keep,.keep,.list .term]),(8,.box [.keep]),(9,.fn [.box [.box []],.box []]),(10,.row y3 false),(25,.keep),(26,.keep)]),(12,[(0,.box [.list y3,.row y3 false]),(4,.box [.keep,.keep,.keep,.list .term]),(5,.box [.keep,.keep,.keep,.list .term]),(8,.box [.keep]),(9,.fn [.box [.box []],.box []]),(10,.row y3 false),(46,.keep),(47,.keep)])],[],u3 JI⟩
def qGr:FI:=⟨f153,[.val y3,.val y3],[y2],[],[],u2 qc1⟩
def qF8:FI:=⟨f154,[.val .term,.val .str],[.bool],[],[],u2 yL⟩
def qCc:FI:=⟨f155,[.val y5,.val y5],[y2],[(4,[(14,.list .term),(15,.keep),(16,.keep)])],[],u2 qiC⟩
def qCa:FI:=⟨f156,[.val y5,.val y5],[y5],[(2,[(0,.list .term),(1,.list .term),(5,.row .term false)])],[],u2 qhc⟩
def qCn:FI:=⟨f157,[.val .term],[y5],[(6,[(3,.list .term),(31,.list .term),(32,.keep),(33,.keep)])],[],u1 ye⟩
def qDB:FI:=⟨f158,[.val y5],[y5],[(3,[(3,.row .term false),(9,.list .term),(10,.keep),(11,.keep)])],[],u1 Q4⟩
def qCR:SI:=⟨f159,[.row y1,.val .term,.val y2],[.one (.row y1),.one (.val .bool)],[(12,[(0,.row y1 false),(2,.keep),(52,.list .term),(53,.keep),(54,.keep)])],[],u3 qZ⟩
def qCi:FI:=⟨f160,[.val y4],[y2],[(4,[(0,.list y1),(9,.list y1),(10,.keep),(11,.keep)])],[],u1 Jv⟩
def qBY:FI:=⟨f161,[.val .term],[.term],[(3,[(1,.box [.keep,.keep,.keep,.row .term false]),(2,.box [.keep,.keep,.keep,.row .term false]),(10,.row .term false),(11,.keep),(12,.keep)])],[],u1 q9⟩
def qGh:FI:=⟨f162,[.val .str,.val y5],[.term],[],[],u2 qcb⟩
def qys:FI:=⟨f163,[.val (.list y5)],[y5],[(3,[(0,.list y5),(3,.keep),(9,.list y5),(10,.keep),(11,.keep)]),(11,[(6,.row .term false),(25,.list y5),(26,.keep),(27,.keep)])],[],u1 zo⟩
def qDi:FI:=⟨f164,[.val y4,.val y4],[y4,y2],[(9,[(8,.row y1 false),(23,.list y1),(24,.keep),(25,.keep)])],[],u2 qdZ⟩
def qFI:FI:=⟨f165,[.val .str,.val y5],[.term],[],[],u2 qeA⟩
def qGp:SI:=⟨f184,[.val y5,.clo 185 1,.box [.val .term]],[.one (.val .bool)],[],[],u2 yi⟩
def qFX:SI:=⟨f185,[.val .term,.box [.val .term]],[.one (.val .bool)],[],[],u2 qbS⟩
def qCy:SI:=⟨f187,[.box [.val y13],.val .term],[.one (.val .term)],[(10,[(0,.box []),(3,.box [.keep,.keep,.keep,.list .term]),(4,.box [.keep,.keep,.keep,.row .term false]),(7,.row .term false),(32,.list .term),(33,.keep),(34,.keep)])],[],u2 qce⟩
def qD5:FI:=⟨f190,[.val .term,.val (.list y2),.val .term],[.term,y2],[(4,[(5,.box [.keep,.keep,.keep,.list .term]),(6,.box [.keep,.keep,.keep,.row .term false]),(8,.box [.keep,.keep,.keep,.list .term]),(9,.box []),(14,.list y2),(15,.keep),(16,.keep)])],[],u3 qew⟩
def qF7:FI:=⟨f191,[.val .term],[.bool],[],[],u1 qan⟩
def qGa:SI:=⟨f192,[.row y1,.val y1],[.one (.row y1)],[],[],u2 qap⟩
def qEb:SI:=⟨f194,[.val y4],[.one (.row y1)],[(3,[(3,.row y1 false),(6,.list y1),(7,.keep),(8,.keep)])],[],u1 qbZ⟩
def qGs:FI:=⟨f195,[.val y4],[y4,y2],[],[],u1 qb0⟩
def qBR:SI:=⟨f214,[.val y5,.clo 185 1,.box [.val .term]],[.one (.val y2)],[(2,[(0,.list .term),(1,.fn [.box [.keep,.keep,.keep,.list .term]]),(7,.keep),(8,.keep)])],[],u2 yE⟩
def qDn:FI:=⟨f223,[.val y4,.val .term,.fn],[y2,.bool],[(3,[(0,.list y1),(2,.keep),(4,.box [.keep,.keep,.keep,.list .term]),(8,.keep),(9,.keep),(10,.keep)])],[],u2 qF⟩
def qGE:FI:=⟨f224,[.val y1,.val .term],[y2],[],[],u2 Jg⟩
def qGv:FI:=⟨f227,[.val y4,.fn],[.bool],[],[],u1 zi⟩
def qGb:FI:=⟨f228,[.val y1],[.bool],[],[],u1 qaI⟩
def qB2:FI:=⟨f241,[.val y4,.fn],[y2],[(2,[(0,.list y1),(1,.keep),(7,.keep),(8,.keep)])],[],u1 zr⟩
def elT(f:Nat):Option Ty:=
cond (Nat.blt f 107)
 (cond (Nat.blt f 73)
 (cond (Nat.blt f 48)
 (cond (Nat.beq f 23) (some .term) (none))
 (cond (Nat.blt f 66)
 (cond (Nat.beq f 48) (some y3) (none))
 (cond (Nat.beq f 66) (some y12) (none))))
 (cond (Nat.blt f 90)
 (cond (Nat.blt f 81)
 (cond (Nat.beq f 73) (some (.map .str .str)) (none))
 (cond (Nat.beq f 81) (some y1) (none)))
 (cond (Nat.blt f 97)
 (cond (Nat.beq f 90) (some .str) (none))
 (cond (Nat.beq f 97) (some y7) (none)))))
 (cond (Nat.blt f 118)
 (cond (Nat.blt f 108)
 (cond (Nat.beq f 107) (some y3) (none))
 (cond (Nat.blt f 113)
 (cond (Nat.beq f 108) (some y13) (none))
 (cond (Nat.beq f 113) (some y3) (none))))
 (cond (Nat.blt f 180)
 (cond (Nat.blt f 134)
 (cond (Nat.beq f 118) (some y6) (none))
 (cond (Nat.beq f 134) (some y1) (none)))
 (cond (Nat.blt f 201)
 (cond (Nat.beq f 180) (some y5) (none))
 (cond (Nat.beq f 201) (some y2) (none)))))
def tb:Tb:=⟨tyT,elT,.node 114 (.node 69 (.node 37 (.node 23 (.node 13 (.node 10 (tL 6 (eP i6)) (tL 11 (eP i11)) (eP i10)) (.node 20 (tL 14 (eP i14)) (tL 21 (eP i21)) (eP i20)) (eP i13)) (.node 34 (.node 32 (tL 26 (eP i26)) (tL 33 (eP i33)) (eP i32)) (.node 36 (.node 35 .leaf .leaf (.hx λ m=>⟨[.box [.val RD]],[.one (.val .term)],λ x=>yO m x.1⟩)) .leaf (eP i36)) (eP i34)) (.hs ⟨[.val y5],[.one (.row .term)],λ x=>zt 0 x.1⟩)) (.node 51 (.node 45 (.node 43 (tL 39 (eP i39)) (tL 44 (eP i44)) (eP i43)) (.node 50 (tL 46 (eS i46)) .leaf (eP i50)) (eP i45)) (.node 58 (.node 56 (tL 52 (eP i52)) (tL 57 (eP i57)) (eS i56)) (.node 68 (tL 67 (eS i67)) .leaf (eS i68)) (eP i58)) (eP i51)) (eP i37)) (.node 91 (.node 81 (.node 73 (.node 71 (tL 70 (eP i70)) (tL 72 (eP i72)) (.pure [([72],i71),([120],qzt)])) (.node 80 (tL 79 (eP i79)) .leaf (eP i80)) (eP i73)) (.node 85 (.node 83 (tL 82 (eS i82)) (tL 84 (eS i84)) (eP i83)) (.node 89 (tL 88 (eP i88)) .leaf (eP i89)) (eP i85)) (eP i81)) (.node 102 (.node 96 (.node 93 (tL 92 (eP i92)) (tL 95 (eP i95)) (eP i93)) (.node 101 (tL 100 (eS qGH)) .leaf (eS qDS)) (eP i96)) (.node 110 (.node 104 (tL 103 (eP qCj)) (tL 109 (eS qDm)) (.hp ⟨[],[(.list y6)],λ x=>qeT 0⟩)) (.node 113 (tL 111 (eS qDT)) .leaf (eP qGA)) (eS qFK)) (eP qC5)) (eP i91)) (eP i69)) (.node 157 (.node 131 (.node 122 (.node 119 (.node 116 (tL 115 (eP qCv)) (tL 118 (eS qCD)) (.hp ⟨[.val .str,.val .str],[y2],λ x=>strings_Compare 0 x.1 x.2.1⟩)) (.node 121 (tL 120 (eP qFT)) .leaf (eP qF6)) (eS qGP)) (.node 128 (.node 126 (tL 123 (eP qGl)) (tL 127 (eP qGe)) (eP qGG)) (.node 130 (tL 129 (eP qFJ)) .leaf (eP qvn)) (eP qDj)) (eP qGR)) (.node 150 (.node 142 (.node 140 (.node 139 .leaf .leaf (.hm λ m=>⟨.term,[.clo 89 0],λ x=>yW m x.1⟩)) (tL 141 (eP qGw)) (.hx λ m=>⟨[.row .term,.clo 141 0],[.one (.row .term)],λ x=>yw m x.1⟩)) (.node 149 (tL 144 (eP qF1)) .leaf (eS qGV)) (eP qC7)) (.node 154 (.node 152 (tL 151 (eS qyo)) (tL 153 (eP qGr)) (.hm λ m=>⟨y3,[.clo 153 0],λ x=>zV m x.1⟩)) (.node 156 (tL 155 (eP qCc)) .leaf (eP qCa)) (eP qF8)) (eP qFY)) (eP qGI)) (.node 190 (.node 164 (.node 161 (.node 159 (tL 158 (eP qDB)) (tL 160 (eP qCi)) (eS qCR)) (.node 163 (tL 162 (eP qGh)) .leaf (eP qys)) (eP qBY)) (.node 186 (.node 184 (tL 165 (eP qFI)) (tL 185 (eS qFX)) (eS qGp)) (.node 188 (tL 187 (eS qCy)) .leaf (.hs ⟨[.val y8],[.one (.row y3)],λ x=>yA 0 x.1⟩)) (.il f186)) (eP qDi)) (.node 223 (.node 194 (.node 192 (tL 191 (eP qF7)) (.node 193 .leaf .leaf (.hs ⟨[.nil,.val y2],[.one (.row .term)],λ x=>yp 0 x.1⟩)) (eS qGa)) (.node 214 (tL 195 (eP qGs)) .leaf (eS qBR)) (eS qEb)) (.node 227 (.node 225 (tL 224 (eP qGE)) (.node 226 .leaf .leaf (.hs ⟨[.row y1,.val y2,.val y2],[.one (.row y1)],λ x=>zd 0 x.1 x.2.1 x.2.2.1⟩)) (.hs ⟨[.row y1,.val y2,.val y4],[.one (.row y1)],λ x=>zf 0 x.1 x.2.1 x.2.2.1⟩)) (.node 241 (tL 228 (eP qGb)) .leaf (.pure [([228],qB2)])) (.pure [([228],qGv)])) (.pure [([224],qDn)])) (eP qD5)) (eP qCn)) (eP qFH)⟩
end Go.AmZ
namespace Go.AmZ
open Go Go.GxZ
set_option linter.unusedVariables false
set_option maxRecDepth 100000
theorem qll:okP tb [] i83:=λ m a=>by kernel_rfl
theorem qfO:okP tb [] i85:=λ m a=>by kernel_rfl
theorem qhS:okS tb qGH:=λ m a=>by kernel_rfl
def qcV(m k x0 x1 x2 x3 x4 x5):=tb.QL qDS 4 m k [(0,.ptr 0 0),(4,vI x0),(14,vI x1),(15,vI x2)] ⟨[[.s x3,vI x4,.b x5]],[]⟩
theorem qhO(m k):zG m k=qcV m k:=yH (M:=qcV m) rfl (λ _=>by kernel_rfl) k
theorem qhP:okS tb qDS:=λ m a=>(congrArg (λ L=>QB m L a.1) (qhO m m)).trans (by kernel_rfl)
theorem qhR:okS tb i67:=λ m a=>by kernel_rfl
theorem qwh:okP tb [] qGG:=λ m a=>by kernel_rfl
def qjh(m k x0 x1 x2):=tb.PL qC5 4 m k [(0,.s x0),(38,vI x1),(39,vI x2)] ⟨[],[]⟩
theorem qqs(m k):jS m k=qjh m k:=yH (M:=qjh m) rfl (λ _=>by kernel_rfl) k
theorem qsc:okP tb [] qC5:=λ m a=>(congrArg (λ L=>qcz m L a.1) (qqs m m)).trans (by kernel_rfl)
def qli(m k x0 x1 x2 x3 x4 x5):=tb.QL i68 17 m k [(1,vI x0),(2,.ptr 0 0),(3,.ptr 1 0),(57,vT x1),(58,vI x2),(59,vI x3)] ⟨[[vI x4],[vI x5]],[]⟩
theorem qr8(m k):yY m (zD m) k=qli m k:=yH (M:=qli m) rfl (λ _=>by kernel_rfl) k
theorem qtB:okS tb i68:=λ m a=>(congrArg (λ L=>qdp m (zD m) L a.1 a.2.1 a.2.2.1 a.2.2.2.1) (qr8 m m)).trans (by kernel_rfl)
theorem qtp:okP tb [] i36:=λ m a=>by kernel_rfl
def qgS(m k x0 x1 x2 x3 x4 x5 x6 x7):=tb.PL i73 2 m k [(0,.s x0),(2,.ptr 0 0),(5,.sl y6 x1 1),(6,vI x2),(7,vI x3)] ⟨[[.s x4,vI x5,vI x6,vI x7]],[]⟩
theorem qnL(m k):Qn m k=qgS m k:=yH (M:=qgS m) rfl (λ _=>by kernel_rfl) k
theorem qoL:okP tb [] i73:=λ m a=>(congrArg (λ L=>qbc m L a.1) (qnL m m)).trans (by kernel_rfl)
def qim(m k x0 x1 x2 x3 x4 x5 x6):=tb.PL i80 13 m k [(1,.ptr 0 0),(38,vT x0),(39,vI x1),(40,vI x2)] ⟨[[vI x3,.s x4,vI x5,vT x6]],[]⟩
def qiu(m k x0 x1 x2):=tb.PL i80 22 m k [(62,vT x0),(63,vI x1),(64,vI x2)] ⟨[],[]⟩
theorem qpi(m k):qK m (qx m) k=(qim m k,qiu m k):=yH (M:=λ k=>(qim m k,qiu m k)) rfl (λ _=>by kernel_rfl) k
theorem qpJ:okP tb [] i80:=λ m a=>(congrArg (a₁:=qK m (qx m) m) (λ L=>qbT m (qx m) L.1 L.2 a.1) (qpi m m)).trans (by kernel_rfl)
theorem qpM:okP tb [] i44:=λ m a=>by kernel_rfl
theorem qwl:okP tb [] qFH:=λ m a=>by kernel_rfl
def qmy(m k x0 x1 x2 x3):=tb.PL qCv 3 m k [(3,vI x0),(7,vT x1),(8,vI x2),(9,vI x3)] ⟨[],[]⟩
theorem qtl(m k):qaz m (jG m) k=qmy m k:=yH (M:=qmy m) rfl (λ _=>by kernel_rfl) k
theorem qux:okP tb [] qCv:=λ m a=>(congrArg (λ L=>qee m (jG m) L a.1) (qtl m m)).trans (by kernel_rfl)
def qiG(m k x0 x1 x2 x3 x4 x5 x6 x7 x8 x9):=tb.PL i89 11 m k [(2,.ptr 0 0),(3,.ptr 1 0),(5,vI x0),(6,vI x1)] ⟨[[vI x2,.s x3,vI x4,vT x5],[vI x6,.s x7,vI x8,vT x9]],[]⟩
theorem qpg(m k):jq m (qv m) k=qiG m k:=yH (M:=qiG m) rfl (λ _=>by kernel_rfl) k
theorem qqq:okP tb [] i89:=λ m a=>(congrArg (λ L=>qbU m (qv m) L a.1 a.2.1) (qpg m m)).trans (by kernel_rfl)
theorem qrP:okP tb [] i70:=λ m a=>by kernel_rfl
theorem qvA:okP tb [] qF8:=λ m a=>by kernel_rfl
theorem qnO:okP tb [] qGe:=λ m a=>by kernel_rfl
def Jh(m k x0 x1 x2 x3 x4):=tb.PL qys 3 m k [(0,.sl y5 x0 1),(3,vI x1),(9,.sl y5 x2 1),(10,vI x3),(11,vI x4)] ⟨[],[]⟩
def Jf(m k x0 x1 x2 x3):=tb.PL qys 11 m k [(6,.row 0 0),(25,.sl y5 x0 1),(26,vI x1),(27,vI x2)] ⟨[],[⟨.term,x3,0,0,false⟩]⟩
theorem qcP(m k):qg m k=(Jh m k,Jf m k):=yH (M:=λ k=>(Jh m k,Jf m k)) rfl (λ _=>by kernel_rfl) k
theorem qc3:okP tb [] qys:=λ m a=>(congrArg (a₁:=qg m m) (λ L=>yz m L.1 L.2 a.1) (qcP m m)).trans (by kernel_rfl)
def qmX(m k x0 x1 x2):=tb.PL qCc 4 m k [(14,vT x0),(15,vI x1),(16,vI x2)] ⟨[],[]⟩
theorem qtm(m k):qaA m k=qmX m k:=yH (M:=qmX m) rfl (λ _=>by kernel_rfl) k
theorem quV:okP tb [] qCc:=λ m a=>(congrArg (λ L=>qej m L a.1 a.2.1) (qtm m m)).trans (by kernel_rfl)
def qod(m k x0 x1 x2):=tb.PL qCa 2 m k [(0,vT x0),(1,vT x1),(5,.row 0 0)] ⟨[],[⟨.term,x2,0,0,false⟩]⟩
theorem qt8(m k):qbk m k=qod m k:=yH (M:=qod m) rfl (λ _=>by kernel_rfl) k
theorem qwS:okP tb [] qCa:=λ m a=>(congrArg (λ L=>qfm m L a.1 a.2.1) (qt8 m m)).trans (by kernel_rfl)
def qie(m k x0 x1 x2 x3):=tb.PL qCn 6 m k [(3,vT x0),(31,vT x1),(32,vI x2),(33,vI x3)] ⟨[],[]⟩
theorem qoH(m k):jX m (ye m) k=qie m k:=yH (M:=qie m) rfl (λ _=>by kernel_rfl) k
theorem qqu:okP tb [] qCn:=λ m a=>(congrArg (λ L=>qbW m (ye m) L a.1) (qoH m m)).trans (by kernel_rfl)
def qlj(m k x0 x1 x2 x3 x4 x5 x6 x7 x8 x9 x10):=tb.PL qC7 4 m k [(1,.ptr 0 0),(2,.ptr 1 0),(9,vT x0),(10,vI x1),(11,vI x2)] ⟨[[vI x3,.s x4,vI x5,.row 0 0],[vI x6,.s x7,vI x8,.row 1 0]],[⟨.term,x9,0,0,false⟩,⟨.term,x10,0,0,false⟩]⟩
theorem qr5(m k):Jx m (yR m) k=qlj m k:=yH (M:=qlj m) rfl (λ _=>by kernel_rfl) k
theorem qtF:okP tb [] qC7:=λ m a=>(congrArg (λ L=>qdo m (yR m) L a.1) (qr5 m m)).trans (by kernel_rfl)
def qh2(m k x0 x1 x2 x3 x4 x5 x6 x7 x8 x9 x10 x11 x12 x13 x14):=tb.PL qD5 4 m k [(5,.ptr 0 0),(6,.ptr 1 0),(8,.ptr 2 0),(9,.ptr 2 0),(14,.sl y2 x0 1),(15,vI x1),(16,vI x2)] ⟨[[vI x3,.s x4,vI x5,vT x6],[vI x7,.s x8,vI x9,.row 0 0],[vI x10,.s x11,vI x12,vT x13]],[⟨.term,x14,0,0,false⟩]⟩
theorem qoi(m k):Js m k=qh2 m k:=yH (M:=qh2 m) rfl (λ _=>by kernel_rfl) k
theorem qqh:okP tb [] qD5:=λ m a=>(congrArg (λ L=>qb4 m L a.1 a.2.1 a.2.2.1) (qoi m m)).trans (by kernel_rfl)
def qpR(m k x0 x1 x2 x3):=tb.PL qDB 3 m k [(3,.row 0 0),(9,vT x0),(10,vI x1),(11,vI x2)] ⟨[],[⟨.term,x3,0,0,false⟩]⟩
theorem qwJ(m k):qcl m (Q4 m) k=qpR m k:=yH (M:=qpR m) rfl (λ _=>by kernel_rfl) k
theorem qyM:okP tb [] qDB:=λ m a=>(congrArg (λ L=>qge m (Q4 m) L a.1) (qwJ m m)).trans (by kernel_rfl)
def qq1(m k x0 x1 x2 x3 x4 x5 x6 x7):=tb.PL qDj 6 m k [(2,.ptr 0 0),(5,vT x0),(15,vT x1),(16,vI x2),(17,vI x3)] ⟨[[vI x4,.s x5,vI x6,.row 0 0]],[⟨.term,x7,0,0,true⟩]⟩
theorem qwF(m k):qcd m k=qq1 m k:=yH (M:=qq1 m) rfl (λ _=>by kernel_rfl) k
theorem qzB:okP tb [] qDj:=λ m a=>(congrArg (λ L=>qgk m L a.1) (qwF m m)).trans (by kernel_rfl)
theorem qlK:okP tb [] qF7:=λ m a=>by kernel_rfl
def qf2(m k x0 x1 x2 x3 x4 x5 x6 x7 x8 x9):=tb.PL qBY 3 m k [(1,.ptr 0 0),(2,.ptr 1 0),(10,.row 0 0),(11,vI x0),(12,vI x1)] ⟨[[vI x2,.s x3,vI x4,.row 0 0],[vI x5,.s x6,vI x7,.row 1 0]],[⟨.term,x8,0,0,false⟩,⟨.term,x9,0,0,false⟩]⟩
theorem qma(m k):jW m (q9 m) k=qf2 m k:=yH (M:=qf2 m) rfl (λ _=>by kernel_rfl) k
theorem qnG:okP tb [] qBY:=λ m a=>(congrArg (λ L=>qaK m (q9 m) L a.1) (qma m m)).trans (by kernel_rfl)
theorem qkk:okP tb [] qGE:=λ m a=>by kernel_rfl
def zP(m k x0 x1 x2 x3 x4 x5 x6 x7):=tb.PL qDn 3 m k [(0,.sl y1 x0 1),(2,.fn 224 []),(4,.ptr 0 0),(8,vI x1),(9,vI x2),(10,vI x3)] ⟨[[vI x4,.s x5,vI x6,vT x7]],[]⟩
theorem j7(m k):ql m k=zP m k:=yH (M:=zP m) rfl (λ _=>by kernel_rfl) k
theorem Qc:okP tb [224] qDn:=λ m a=>(congrArg (λ L=>qz m L a.1 a.2.1) (j7 m m)).trans (by kernel_rfl)
theorem qlO:okS tb qGa:=λ m a=>by kernel_rfl
def qeN(m k x0 x1 x2 x3 x4):=tb.QL qCR 12 m k [(0,.row 0 0),(2,vI x0),(52,vT x1),(53,vI x2),(54,vI x3)] ⟨[],[⟨y1,x4,0,0,false⟩]⟩
theorem qki(m k):yM m (qZ m) k=qeN m k:=yH (M:=qeN m) rfl (λ _=>by kernel_rfl) k
theorem qlm:okS tb qCR:=λ m a=>(congrArg (λ L=>JQ m (qZ m) L a.1 a.2.1 a.2.2.1) (qki m m)).trans (by kernel_rfl)
theorem qr0:okP tb [] qFJ:=λ m a=>by kernel_rfl
def qf1(m k x0 x1 x2 x3):=tb.PL qCi 4 m k [(0,.sl y1 x0 1),(9,.sl y1 x1 1),(10,vI x2),(11,vI x3)] ⟨[],[]⟩
theorem qmj(m k):jm m k=qf1 m k:=yH (M:=qf1 m) rfl (λ _=>by kernel_rfl) k
theorem qnM:okP tb [] qCi:=λ m a=>(congrArg (λ L=>qaE m L a.1) (qmj m m)).trans (by kernel_rfl)
theorem qpv:okP tb [] qGh:=λ m a=>by kernel_rfl
def qhL(m k x0 x1 x2 x3 x4 x5 x6 x7 x8):=tb.PL qvn 6 m k [(2,.ptr 0 0),(5,.row 1 0),(6,.row 2 0),(18,.sl y1 x0 1),(19,vI x1),(20,vI x2)] ⟨[[vI x3,.s x4,vI x5,.row 0 0]],[⟨.term,x6,0,0,false⟩,⟨.term,x7,0,0,false⟩,⟨.term,x8,0,0,false⟩]⟩
def qhN(m k x0 x1 x2 x3 x4 x5 x6 x7 x8 x9 x10 x11 x12 x13 x14 x15):=tb.PL qvn 11 m k [(2,.ptr 0 0),(5,.row 1 0),(6,.row 2 0),(8,.ptr 1 0),(18,.sl y1 x0 1),(19,vI x1),(20,vI x2),(34,vI x3),(35,vI x4)] ⟨[[vI x5,.s x6,vI x7,.row 0 0],[vI x8,.s x9,vI x10,vT x11,vI x12]],[⟨.term,x13,0,0,false⟩,⟨.term,x14,0,0,false⟩,⟨.term,x15,0,0,false⟩]⟩
def qhq(m k x0 x1 x2 x3 x4 x5 x6 x7 x8 x9 x10 x11 x12 x13 x14 x15):=tb.PL qvn 15 m k [(2,.ptr 0 0),(5,.row 1 0),(6,.row 2 0),(8,.ptr 1 0),(18,.sl y1 x0 1),(19,vI x1),(20,vI x2),(46,vI x3),(47,vI x4)] ⟨[[vI x5,.s x6,vI x7,.row 0 0],[vI x8,.s x9,vI x10,vT x11,vI x12]],[⟨.term,x13,0,0,false⟩,⟨.term,x14,0,0,false⟩,⟨.term,x15,0,0,false⟩]⟩
theorem qnS(m k):qp m k=(qhL m k,qhN m k,qhq m k):=yH (M:=λ k=>(qhL m k,qhN m k,qhq m k)) rfl (λ _=>by kernel_rfl) k
theorem qpo:okP tb [] qvn:=λ m a=>(congrArg (a₁:=qp m m) (λ L=>qbu m L.1 L.2.1 L.2.2 a.1) (qnS m m)).trans (by kernel_rfl)
def qfw(m k x0 x1 x2 x3):=tb.QL qEb 3 m k [(3,.row 0 0),(6,.sl y1 x0 1),(7,vI x1),(8,vI x2)] ⟨[],[⟨y1,x3,0,0,false⟩]⟩
theorem qlv(m k):jA m k=qfw m k:=yH (M:=qfw m) rfl (λ _=>by kernel_rfl) k
theorem qlG:okS tb qEb:=λ m a=>(congrArg (λ L=>qad m L a.1) (qlv m m)).trans (by kernel_rfl)
theorem qk7:okP tb [] qGb:=λ m a=>by kernel_rfl
def jx(m k x0 x1 x2):=tb.PL qB2 2 m k [(0,.sl y1 x0 1),(1,.fn 228 []),(7,vI x1),(8,vI x2)] ⟨[],[]⟩
theorem JX(m k):qr m k=jx m k:=yH (M:=jx m) rfl (λ _=>by kernel_rfl) k
theorem J0:okP tb [228] qB2:=λ m a=>(congrArg (λ L=>zh m L a.1) (JX m m)).trans (by kernel_rfl)
theorem Jt:okP tb [228] qGv:=λ m a=>by kernel_rfl
theorem qmR:okP tb [] qGs:=λ m a=>by kernel_rfl
def qiK(m k x0 x1 x2 x3):=tb.PL qDi 9 m k [(8,.row 0 0),(23,.sl y1 x0 1),(24,vI x1),(25,vI x2)] ⟨[],[⟨y1,x3,0,0,false⟩]⟩
theorem qpl(m k):QD m k=qiK m k:=yH (M:=qiK m) rfl (λ _=>by kernel_rfl) k
theorem qqC:okP tb [] qDi:=λ m a=>(congrArg (λ L=>qbX m L a.1 a.2.1) (qpl m m)).trans (by kernel_rfl)
theorem qtz:okP tb [] qFI:=λ m a=>by kernel_rfl
theorem qqo:okP tb [] qGI:=λ m a=>by kernel_rfl
def qgZ(m k x0 x1 x2 x3 x4 x5 x6 x7 x8 x9 x10 x11 x12 x13 x14):=tb.PL qCj 5 m k [(1,.ptr 0 0),(2,.ptr 1 0),(4,.ptr 2 0),(19,vT x0),(20,vI x1),(21,vI x2)] ⟨[[vI x3,.s x4,vI x5,vT x6],[vI x7,.s x8,vI x9,.row 0 0],[vI x10,.s x11,vI x12,.row 1 0]],[⟨.term,x13,0,0,false⟩,⟨.term,x14,0,0,false⟩]⟩
theorem qnK(m k):Qo m (zZ m) k=qgZ m k:=yH (M:=qgZ m) rfl (λ _=>by kernel_rfl) k
theorem qoD:okP tb [] qCj:=λ m a=>(congrArg (λ L=>qbq m (zZ m) L a.1) (qnK m m)).trans (by kernel_rfl)
theorem qok:okP tb [] i69:=λ m a=>by kernel_rfl
theorem qnJ:okP tb [] i72:=λ m a=>by kernel_rfl
def qdR(m k x0 x1 x2):=tb.PL i71 4 m k [(1,.fn 72 []),(18,vT x0),(19,vI x1),(20,vI x2)] ⟨[],[]⟩
theorem qiX(m k):yd m (qO m) k=qdR m k:=yH (M:=qdR m) rfl (λ _=>by kernel_rfl) k
theorem qjF:okP tb [72] i71:=λ m a=>(congrArg (λ L=>QZ m (qO m) L a.1) (qiX m m)).trans (by kernel_rfl)
theorem qp8:okP tb [] i37:=λ m a=>by kernel_rfl
theorem qmu:okP tb [] i11:=λ m a=>by kernel_rfl
theorem qhU:okS tb qFK:=λ m a=>by kernel_rfl
def qeo(m k x0 x1 x2 x3 x4):=tb.QL qDm 3 m k [(1,.fn 110 [.ptr 0 0,.ptr 1 0]),(10,vT x0),(11,vI x1),(12,vI x2)] ⟨[[vI x3],[.row 0 0]],[⟨.term,x4,0,0,false⟩]⟩
theorem qjA(m k):qeL m (qaH m) k=qeo m k:=yH (M:=qeo m) rfl (λ _=>by kernel_rfl) k
theorem qkq:okS tb qDm:=λ m a=>(congrArg (λ L=>qd6 m (qaH m) L a.1 a.2.1 a.2.2.1) (qjA m m)).trans (by kernel_rfl)
theorem qnQ:okP tb [] qGw:=λ m a=>by kernel_rfl
def qil(m k x0 x1 x2):=tb.QL qDT 4 m k [(0,.row 0 0),(9,vI x0),(10,vI x1)] ⟨[],[⟨.term,x2,0,0,false⟩]⟩
theorem qoz(m k):qjg m k=qil m k:=yH (M:=qil m) rfl (λ _=>by kernel_rfl) k
theorem qpC:okS tb qDT:=λ m a=>(congrArg (λ L=>qiL m L a.1) (qoz m m)).trans (by kernel_rfl)
theorem qsa:okP tb [] i81:=λ m a=>by kernel_rfl
theorem qvE:okP tb [] i45:=λ m a=>by kernel_rfl
theorem qg1:okS tb i84:=λ m a=>by kernel_rfl
def yu(m k x0 x1 x2 x3 x4 x5 x6):=tb.QL i82 2 m k [(0,.sl y7 x0 1),(1,.fn 84 [.ptr 0 0]),(7,vI x1),(8,vI x2)] ⟨[[vI x3,.s x4,vI x5,vT x6]],[]⟩
theorem Qs(m k):yx m k=yu m k:=yH (M:=yu m) rfl (λ _=>by kernel_rfl) k
theorem Qw:okS tb i82:=λ m a=>(congrArg (λ L=>yr m L a.1 a.2.1) (Qs m m)).trans (by kernel_rfl)
def qf5(m k x0 x1 x2 x3):=tb.QL i46 8 m k [(0,.row 0 0),(46,vT x0),(47,vI x1),(48,vI x2)] ⟨[],[⟨y12,x3,0,0,false⟩]⟩
theorem qmi(m k):qho m (qcF m) k=qf5 m k:=yH (M:=qf5 m) rfl (λ _=>by kernel_rfl) k
theorem qnT:okS tb i46:=λ m a=>(congrArg (λ L=>qf7 m (qcF m) L a.1 a.2.1) (qmi m m)).trans (by kernel_rfl)
theorem qlB:okP tb [] i14:=λ m a=>by kernel_rfl
theorem qo4:okP tb [] qFT:=λ m a=>by kernel_rfl
def qdd(m k x0 x1 x2):=tb.PL qzt 4 m k [(1,.fn 120 []),(18,vT x0),(19,vI x1),(20,vI x2)] ⟨[],[]⟩
theorem qhT(m k):qdK m (JU m) k=qdd m k:=yH (M:=qdd m) rfl (λ _=>by kernel_rfl) k
theorem qjb:okP tb [120] qzt:=λ m a=>(congrArg (λ L=>qdj m (JU m) L a.1) (qhT m m)).trans (by kernel_rfl)
theorem qrh:okP tb [] i93:=λ m a=>by kernel_rfl
theorem qls:okP tb [] i58:=λ m a=>by kernel_rfl
def qer(m k x0 x1 x2):=tb.PL i50 4 m k [(9,vT x0),(10,vI x1),(11,vI x2)] ⟨[],[]⟩
theorem qjD(m k):qeM m k=qer m k:=yH (M:=qer m) rfl (λ _=>by kernel_rfl) k
theorem qjO:okP tb [] i50:=λ m a=>(congrArg (λ L=>qek m L a.1) (qjD m m)).trans (by kernel_rfl)
def qit(m k x0 x1 x2 x3 x4 x5 x6 x7 x8 x9 x10 x11):=tb.PL i52 2 m k [(0,.sl y3 x0 1),(3,.ptr 0 0),(4,.ptr 1 0),(10,.sl y3 x1 1),(11,vI x2),(12,vI x3)] ⟨[[vI x4,.s x5,vI x6,vT x7],[vI x8,.s x9,vI x10,.row 0 0]],[⟨.term,x11,0,0,false⟩]⟩
def qiD(m k x0 x1 x2 x3 x4 x5 x6 x7 x8 x9 x10 x11):=tb.PL i52 10 m k [(0,.sl y3 x0 1),(4,.ptr 0 0),(7,.ptr 1 0),(27,vT x1),(28,vI x2),(29,vI x3)] ⟨[[vI x4,.s x5,vI x6,.row 0 0],[vI x7,.s x8,vI x9,.row 1 0]],[⟨.term,x10,0,0,false⟩,⟨.term,x11,0,0,false⟩]⟩
theorem qpa(m k):qcR m (qcn m) k=(qit m k,qiD m k):=yH (M:=λ k=>(qit m k,qiD m k)) rfl (λ _=>by kernel_rfl) k
theorem qpA:okP tb [] i52:=λ m a=>(congrArg (a₁:=qcR m (qcn m) m) (λ L=>qh9 m (qcn m) L.1 L.2 a.1 a.2.1) (qpa m m)).trans (by kernel_rfl)
theorem qgc:okP tb [] qF1:=λ m a=>by kernel_rfl
theorem qeC:okP tb [] qGA:=λ m a=>by kernel_rfl
theorem qhr:okP tb [] i88:=λ m a=>by kernel_rfl
theorem qqE:okP tb [] i51:=λ m a=>by kernel_rfl
def qf3(m k x0 x1 x2 x3 x4 x5 x6 x7 x8 x9 x10 x11 x12):=tb.QL i56 9 m k [(1,.s x0),(2,.mp 0),(6,.ptr 1 0),(7,.ptr 2 0),(38,vT x1),(39,vI x2),(40,vI x3)] ⟨[[.mc .str .str x4],[vI x5,.s x6,vI x7,.row 0 0],[vI x8,.s x9,vI x10,.row 1 0]],[⟨.term,x11,0,0,false⟩,⟨.term,x12,0,0,false⟩]⟩
theorem qmD(m k):qg3 m (qaP m) k=qf3 m k:=yH (M:=qf3 m) rfl (λ _=>by kernel_rfl) k
theorem qnX:okS tb i56:=λ m a=>(congrArg (λ L=>qf4 m (qaP m) L a.1 a.2.1 a.2.2.1) (qmD m m)).trans (by kernel_rfl)
theorem qrJ:okP tb [] i91:=λ m a=>by kernel_rfl
theorem qtq:okP tb [] i96:=λ m a=>by kernel_rfl
theorem qrB:okP tb [] qF6:=λ m a=>by kernel_rfl
theorem qtu:okP tb [] qGR:=λ m a=>by kernel_rfl
theorem qrE:okP tb [] qGl:=λ m a=>by kernel_rfl
theorem qwd:okP tb [] i95:=λ m a=>by kernel_rfl
def qlZ(m k x0 x1 x2 x3 x4 x5 x6 x7 x8 x9 x10 x11 x12):=tb.QL qCy 10 m k [(0,.mp 0),(3,.ptr 1 0),(4,.ptr 2 0),(7,.row 1 0),(32,vT x0),(33,vI x1),(34,vI x2)] ⟨[[.mc y11 .term x3],[vI x4,.s x5,vI x6,vT x7],[vI x8,.s x9,vI x10,.row 0 0]],[⟨.term,x11,0,0,false⟩,⟨.term,x12,0,0,false⟩]⟩
theorem qty(m k):qn1 m (qce m) k=qlZ m k:=yH (M:=qlZ m) rfl (λ _=>by kernel_rfl) k
theorem qvU:okS tb qCy:=λ m a=>(congrArg (λ L=>qlC m (qce m) L a.1 a.2.1) (qty m m)).trans (by kernel_rfl)
def qeF(m k x0 x1 x2 x3 x4 x5 x6 x7 x8 x9 x10 x11 x12 x13 x14):=tb.QL qyo 6 m k [(0,.ptr 0 0),(4,.ptr 1 0),(5,.ptr 2 0),(8,.ptr 3 0),(9,.fn 186 [.ptr 5 0,.ptr 3 0]),(10,.row 1 0),(25,vI x0),(26,vI x1)] ⟨[[.sl y3 x2 1,.row 0 0],[vI x3,.s x4,vI x5,vT x6],[vI x7,.s x8,vI x9,vT x10],[.b x11],[.mc y11 .term x12],[.mp 4]],[⟨y3,x13,0,0,false⟩,⟨y3,x14,0,0,false⟩]⟩
def qeK(m k x0 x1 x2 x3 x4 x5 x6 x7 x8 x9 x10 x11 x12 x13 x14):=tb.QL qyo 12 m k [(0,.ptr 0 0),(4,.ptr 1 0),(5,.ptr 2 0),(8,.ptr 3 0),(9,.fn 186 [.ptr 5 0,.ptr 3 0]),(10,.row 1 0),(46,vI x0),(47,vI x1)] ⟨[[.sl y3 x2 1,.row 0 0],[vI x3,.s x4,vI x5,vT x6],[vI x7,.s x8,vI x9,vT x10],[.b x11],[.mc y11 .term x12],[.mp 4]],[⟨y3,x13,0,0,false⟩,⟨y3,x14,0,0,false⟩]⟩
theorem qkh(m k):qak m k=(qeF m k,qeK m k):=yH (M:=λ k=>(qeF m k,qeK m k)) rfl (λ _=>by kernel_rfl) k
theorem qlr:okS tb qyo:=λ m a=>(congrArg (a₁:=qak m m) (λ L=>qeJ m L.1 L.2 a.1 a.2.1 a.2.2.1) (qkh m m)).trans (by kernel_rfl)
theorem qmo:okS tb qGV:=λ m a=>by kernel_rfl
theorem qqg:okP tb [] qFY:=λ m a=>by kernel_rfl
theorem JC:okS tb qGp:=λ m a=>by kernel_rfl
theorem qja:okS tb qFX:=λ m a=>by kernel_rfl
def jI(m k x0 x1 x2 x3 x4 x5 x6):=tb.QL qBR 2 m k [(0,vT x0),(1,.fn 185 [.ptr 0 0]),(7,vI x1),(8,vI x2)] ⟨[[vI x3,.s x4,vI x5,vT x6]],[]⟩
theorem J5(m k):jL m (qb7 m) (yi m) (qbS m) (yE m) k=jI m k:=yH (M:=jI m) rfl (λ _=>by kernel_rfl) k
theorem qaf:okS tb qBR:=λ m a=>(congrArg (λ L=>jF m (qb7 m) (yi m) (qbS m) (yE m) L a.1 a.2.1) (J5 m m)).trans (by kernel_rfl)
def qeI(m k x0 x1 x2 x3 x4 x5 x6 x7 x8 x9 x10 x11 x12):=tb.QL qCD 8 m k [(0,.ptr 0 0),(3,.ptr 1 0),(4,.ptr 2 0),(5,.row 1 0),(39,vI x0),(40,vI x1)] ⟨[[.sl y3 x2 1,.row 0 0],[vI x3,.s x4,vI x5,vT x6],[vI x7,.s x8,vI x9,vT x10]],[⟨y3,x11,0,0,false⟩,⟨y3,x12,0,0,false⟩]⟩
theorem qjN(m k):qfz m k=qeI m k:=yH (M:=qeI m) rfl (λ _=>by kernel_rfl) k
theorem qlp:okS tb qCD:=λ m a=>(congrArg (λ L=>qeG m L a.1) (qjN m m)).trans (by kernel_rfl)
theorem qkr:okP tb [] qGr:=λ m a=>by kernel_rfl
theorem qmn:okS tb qGP:=λ m a=>by kernel_rfl
def qjj(m k x0 x1):=tb.PL i92 2 m k [(4,.ptr 0 0)] ⟨[[.sl y3 x0 1,.row 0 0]],[⟨y3,x1,0,0,false⟩]⟩
theorem qq2(m k):qle m k=qjj m k:=yH (M:=qjj m) rfl (λ _=>by kernel_rfl) k
theorem qrU:okP tb [] i92:=λ m a=>(congrArg (λ L=>qjn m L a.1) (qq2 m m)).trans (by kernel_rfl)
theorem qrv:okP tb [] i57:=λ m a=>by kernel_rfl
def qec(m k x0 x1 x2 x3 x4 x5 x6):=tb.PL i26 5 m k [(0,vT x0),(4,.ptr 0 0),(20,vI x1),(21,vI x2)] ⟨[[vI x3,.s x4,vI x5,.row 0 0]],[⟨.term,x6,0,0,false⟩]⟩
def qev(m k x0 x1 x2 x3 x4 x5 x6 x7 x8 x9 x10 x11 x12):=tb.PL i26 9 m k [(0,vT x0),(4,.ptr 0 0),(7,vI x1),(8,.ptr 1 0),(9,vI x2),(20,vI x3),(21,vI x4)] ⟨[[vI x5,.s x6,vI x7,.row 0 0],[vI x8,.s x9,vI x10,vT x11]],[⟨.term,x12,0,0,false⟩]⟩
theorem qjE(m k):JW m k=(qec m k,qev m k):=yH (M:=λ k=>(qec m k,qev m k)) rfl (λ _=>by kernel_rfl) k
theorem qkm:okP tb [] i26:=λ m a=>(congrArg (a₁:=JW m m) (λ L=>qex m L.1 L.2 a.1) (qjE m m)).trans (by kernel_rfl)
theorem qvh:okP tb [] i32:=λ m a=>by kernel_rfl
theorem qtn:okP tb [] i33:=λ m a=>by kernel_rfl
theorem qu7:okP tb [] i34:=λ m a=>by kernel_rfl
theorem qsg:okP tb [] i10:=λ m a=>by kernel_rfl
def qlg(m k x0 x1 x2 x3 x4 x5):=tb.PL i39 3 m k [(1,.ptr 0 0),(3,vI x0),(4,vI x1)] ⟨[[vI x2,.s x3,vI x4,vT x5]],[]⟩
theorem qsh(m k):JB m (jc m) k=qlg m k:=yH (M:=qlg m) rfl (λ _=>by kernel_rfl) k
theorem qto:okP tb [] i39:=λ m a=>(congrArg (λ L=>qds m (jc m) L a.1) (qsh m m)).trans (by kernel_rfl)
theorem qpN:okP tb [] i79:=λ m a=>by kernel_rfl
def qhA(m k x0 x1 x2 x3 x4 x5 x6 x7 x8):=tb.PL i43 18 m k [(2,.ptr 0 0),(3,.ptr 1 0),(9,vI x0)] ⟨[[vI x1,.s x2,vI x3,vT x4],[vI x5,.s x6,vI x7,vT x8]],[]⟩
theorem qnU(m k):Qj m (ya m) k=qhA m k:=yH (M:=qhA m) rfl (λ _=>by kernel_rfl) k
theorem qoW:okP tb [] i43:=λ m a=>(congrArg (λ L=>qbp m (ya m) L a.1 a.2.1) (qnU m m)).trans (by kernel_rfl)
theorem qtt:okP tb [] i13:=λ m a=>by kernel_rfl
theorem qnV:okP tb [] i20:=λ m a=>by kernel_rfl
theorem qrT:okP tb [] i21:=λ m a=>by kernel_rfl
theorem qi3:okP tb [] i6:=λ m a=>by kernel_rfl
end Go.AmZ
namespace Go.Proofs
open Go.Shelf
def Tryz.sortTrm_ren:Go.Shelf.Ren:=⟨λ|6=>139|15=>176|14=>175|28=>211|29=>179|20=>203|21=>204|22=>205|23=>206|24=>207|25=>208|26=>209|27=>210|46=>231|47=>232|48=>233|49=>234|50=>235|57=>242|n=>n,λ|22=>23|24=>25|25=>64|3=>3|39=>164|0=>0|53=>169|55=>144|4=>4|46=>188|45=>187|50=>192|5=>5|9=>9|66=>209|70=>83|76=>221|77=>222|n=>n,λ|n=>n⟩
theorem Tryz.sortTrm:Go.Proofs.SlLaysF0.n6 Tryz.prog Tryz.sortTrm_ren:={
 mixed:=by kernel_rfl
 f6:=⟨Tryz.f139.name,by decide,Tryz.func139.trans (congrArg some (by kernel_rfl))⟩
 f14:=⟨Tryz.f175.name,by decide,Tryz.func175.trans (congrArg some (by kernel_rfl))⟩
 f15:=Tryz.func176.trans (congrArg some (by kernel_rfl))
 f20:=⟨Tryz.f203.name,by decide,Tryz.func203.trans (congrArg some (by kernel_rfl))⟩
 f21:=⟨Tryz.f204.name,by decide,Tryz.func204.trans (congrArg some (by kernel_rfl))⟩
 f22:=⟨Tryz.f205.name,by decide,Tryz.func205.trans (congrArg some (by kernel_rfl))⟩
 f23:=⟨Tryz.f206.name,by decide,Tryz.func206.trans (congrArg some (by kernel_rfl))⟩
 f24:=⟨Tryz.f207.name,by decide,Tryz.func207.trans (congrArg some (by kernel_rfl))⟩
 f25:=⟨Tryz.f208.name,by decide,Tryz.func208.trans (congrArg some (by kernel_rfl))⟩
 f26:=⟨Tryz.f209.name,by decide,Tryz.func209.trans (congrArg some (by kernel_rfl))⟩
 f27:=⟨Tryz.f210.name,by decide,Tryz.func210.trans (congrArg some (by kernel_rfl))⟩
 f28:=Tryz.func211.trans (congrArg some (by kernel_rfl))
 f29:=Tryz.func179.trans (congrArg some (by kernel_rfl))
 f46:=⟨Tryz.f231.name,by decide,Tryz.func231.trans (congrArg some (by kernel_rfl))⟩
 f47:=Tryz.func232.trans (congrArg some (by kernel_rfl))
 f48:=Tryz.func233.trans (congrArg some (by kernel_rfl))
 f49:=⟨Tryz.f234.name,by decide,Tryz.func234.trans (congrArg some (by kernel_rfl))⟩
 f50:=⟨Tryz.f235.name,by decide,Tryz.func235.trans (congrArg some (by kernel_rfl))⟩
 f57:=⟨Tryz.f242.name,by decide,Tryz.func242.trans (congrArg some (by kernel_rfl))⟩
 t0:=Tryz.underlying0
 a0:=Tryz.isAgg0
 z0:=Tryz.sizeOf0
 v0:=Tryz.zeroValue0
 t3:=Tryz.underlying3
 a3:=Tryz.isAgg3
 z3:=Tryz.sizeOf3
 v3:=Tryz.zeroValue3
 t4:=Tryz.underlying4
 a4:=Tryz.isAgg4
 z4:=Tryz.sizeOf4
 v4:=Tryz.zeroValue4
 t5:=Tryz.underlying5
 a5:=Tryz.isAgg5
 z5:=Tryz.sizeOf5
 v5:=Tryz.zeroValue5
 t9:=Tryz.underlying9
 a9:=Tryz.isAgg9
 z9:=Tryz.sizeOf9
 v9:=Tryz.zeroValue9
 t22:=Tryz.underlying23
 a22:=Tryz.isAgg23
 z22:=Tryz.sizeOf23
 v22:=Tryz.zeroValue23
 t25:=Tryz.underlying64
 a25:=Tryz.isAgg64
 z25:=Tryz.sizeOf64
 v25:=Tryz.zeroValue64
 t39:=Tryz.underlying164
 a39:=Tryz.isAgg164
 z39:=Tryz.sizeOf164
 v39:=Tryz.zeroValue164
 t45:=Tryz.underlying187
 a45:=Tryz.isAgg187
 z45:=Tryz.sizeOf187
 v45:=Tryz.zeroValue187
 t46:=Tryz.underlying188
 a46:=Tryz.isAgg188
 z46:=Tryz.sizeOf188
 v46:=Tryz.zeroValue188
 t50:=Tryz.underlying192
 a50:=Tryz.isAgg192
 z50:=Tryz.sizeOf192
 v50:=Tryz.zeroValue192
 t53:=Tryz.underlying169
 a53:=Tryz.isAgg169
 z53:=Tryz.sizeOf169
 v53:=Tryz.zeroValue169
 t55:=Tryz.underlying144
 a55:=Tryz.isAgg144
 z55:=Tryz.sizeOf144
 v55:=Tryz.zeroValue144
 t66:=Tryz.underlying209
 a66:=Tryz.isAgg209
 z66:=Tryz.sizeOf209
 v66:=Tryz.zeroValue209
 t70:=Tryz.underlying83
 a70:=Tryz.isAgg83
 z70:=Tryz.sizeOf83
 v70:=Tryz.zeroValue83
 t76:=Tryz.underlying221
 a76:=Tryz.isAgg221
 z76:=Tryz.sizeOf221
 v76:=Tryz.zeroValue221
 t77:=Tryz.underlying222
 a77:=Tryz.isAgg222
 z77:=Tryz.sizeOf222
 v77:=Tryz.zeroValue222}
end Go.Proofs
namespace Go.Proofs
open Go.Shelf
def Tryz.sortBnd_ren:Go.Shelf.Ren:=⟨λ|6=>152|15=>176|14=>189|28=>211|29=>179|20=>215|21=>216|22=>217|23=>218|24=>219|25=>220|26=>221|27=>222|46=>236|47=>232|48=>233|49=>237|50=>238|57=>243|n=>n,λ|22=>48|24=>76|25=>150|3=>3|39=>164|0=>0|53=>169|55=>144|4=>4|46=>188|45=>187|50=>192|5=>5|9=>9|66=>209|70=>83|76=>221|77=>222|n=>n,λ|n=>n⟩
theorem Tryz.sortBnd:Go.Proofs.SlLaysF0.n6 Tryz.prog Tryz.sortBnd_ren:={
 mixed:=by kernel_rfl
 f6:=⟨Tryz.f152.name,by decide,Tryz.func152.trans (congrArg some (by kernel_rfl))⟩
 f14:=⟨Tryz.f189.name,by decide,Tryz.func189.trans (congrArg some (by kernel_rfl))⟩
 f15:=Tryz.func176.trans (congrArg some (by kernel_rfl))
 f20:=⟨Tryz.f215.name,by decide,Tryz.func215.trans (congrArg some (by kernel_rfl))⟩
 f21:=⟨Tryz.f216.name,by decide,Tryz.func216.trans (congrArg some (by kernel_rfl))⟩
 f22:=⟨Tryz.f217.name,by decide,Tryz.func217.trans (congrArg some (by kernel_rfl))⟩
 f23:=⟨Tryz.f218.name,by decide,Tryz.func218.trans (congrArg some (by kernel_rfl))⟩
 f24:=⟨Tryz.f219.name,by decide,Tryz.func219.trans (congrArg some (by kernel_rfl))⟩
 f25:=⟨Tryz.f220.name,by decide,Tryz.func220.trans (congrArg some (by kernel_rfl))⟩
 f26:=⟨Tryz.f221.name,by decide,Tryz.func221.trans (congrArg some (by kernel_rfl))⟩
 f27:=⟨Tryz.f222.name,by decide,Tryz.func222.trans (congrArg some (by kernel_rfl))⟩
 f28:=Tryz.func211.trans (congrArg some (by kernel_rfl))
 f29:=Tryz.func179.trans (congrArg some (by kernel_rfl))
 f46:=⟨Tryz.f236.name,by decide,Tryz.func236.trans (congrArg some (by kernel_rfl))⟩
 f47:=Tryz.func232.trans (congrArg some (by kernel_rfl))
 f48:=Tryz.func233.trans (congrArg some (by kernel_rfl))
 f49:=⟨Tryz.f237.name,by decide,Tryz.func237.trans (congrArg some (by kernel_rfl))⟩
 f50:=⟨Tryz.f238.name,by decide,Tryz.func238.trans (congrArg some (by kernel_rfl))⟩
 f57:=⟨Tryz.f243.name,by decide,Tryz.func243.trans (congrArg some (by kernel_rfl))⟩
 t0:=Tryz.underlying0
 a0:=Tryz.isAgg0
 z0:=Tryz.sizeOf0
 v0:=Tryz.zeroValue0
 t3:=Tryz.underlying3
 a3:=Tryz.isAgg3
 z3:=Tryz.sizeOf3
 v3:=Tryz.zeroValue3
 t4:=Tryz.underlying4
 a4:=Tryz.isAgg4
 z4:=Tryz.sizeOf4
 v4:=Tryz.zeroValue4
 t5:=Tryz.underlying5
 a5:=Tryz.isAgg5
 z5:=Tryz.sizeOf5
 v5:=Tryz.zeroValue5
 t9:=Tryz.underlying9
 a9:=Tryz.isAgg9
 z9:=Tryz.sizeOf9
 v9:=Tryz.zeroValue9
 t22:=Tryz.underlying48
 a22:=Tryz.isAgg48
 z22:=Tryz.sizeOf48
 v22:=Tryz.zeroValue48
 t25:=Tryz.underlying150
 a25:=Tryz.isAgg150
 z25:=Tryz.sizeOf150
 v25:=Tryz.zeroValue150
 t39:=Tryz.underlying164
 a39:=Tryz.isAgg164
 z39:=Tryz.sizeOf164
 v39:=Tryz.zeroValue164
 t45:=Tryz.underlying187
 a45:=Tryz.isAgg187
 z45:=Tryz.sizeOf187
 v45:=Tryz.zeroValue187
 t46:=Tryz.underlying188
 a46:=Tryz.isAgg188
 z46:=Tryz.sizeOf188
 v46:=Tryz.zeroValue188
 t50:=Tryz.underlying192
 a50:=Tryz.isAgg192
 z50:=Tryz.sizeOf192
 v50:=Tryz.zeroValue192
 t53:=Tryz.underlying169
 a53:=Tryz.isAgg169
 z53:=Tryz.sizeOf169
 v53:=Tryz.zeroValue169
 t55:=Tryz.underlying144
 a55:=Tryz.isAgg144
 z55:=Tryz.sizeOf144
 v55:=Tryz.zeroValue144
 t66:=Tryz.underlying209
 a66:=Tryz.isAgg209
 z66:=Tryz.sizeOf209
 v66:=Tryz.zeroValue209
 t70:=Tryz.underlying83
 a70:=Tryz.isAgg83
 z70:=Tryz.sizeOf83
 v70:=Tryz.zeroValue83
 t76:=Tryz.underlying221
 a76:=Tryz.isAgg221
 z76:=Tryz.sizeOf221
 v76:=Tryz.zeroValue221
 t77:=Tryz.underlying222
 a77:=Tryz.isAgg222
 z77:=Tryz.sizeOf222
 v77:=Tryz.zeroValue222}
end Go.Proofs
namespace Go.GxZ
open Go.RowKit
def Box(w:World)(b:Nat)(e d c a:Value):Prop:=
 w.cell? ⟨b,0,none⟩=some e/\w.cell? ⟨b,1,none⟩=some d/\w.cell? ⟨b,2,none⟩=some c/\w.cell? ⟨b,3,none⟩=some a
theorem Box.keep{w u:World}{b:Nat}{g f e d:Value}{B:Nat}(h:Box w b g f e d)(c:b<B)(a:Below B w u):Box u b g f e d:=
 ⟨(a.cell c).trans h.1,(a.cell c).trans h.2.1,(a.cell c).trans h.2.2.1,(a.cell c).trans h.2.2.2⟩
theorem qrz(w:World)(d c b a:Value)(t:TypeId):Box (w.alloc (Obj.cells #[d,c,b,a] t)) w.heap.size d c b a:=
 ⟨by rw[World.cell?_alloc_mark];rfl,by rw[World.cell?_alloc_mark];rfl,by rw[World.cell?_alloc_mark];rfl,by rw[World.cell?_alloc_mark];rfl⟩
theorem qHa(w:World)(e d c b:Value)(t:TypeId):
  ∃a,w.alloc (Obj.cells #[e,d,c,b] t)=a/\Below w.heap.size w a/\a.heap.size=w.heap.size+1/\∀u,Below a.heap.size a u->Box u w.heap.size e d c b:=
 ⟨_,rfl,(Below.refl _ _).alloc (wa _) _,by simp,λ _ f=>(qrz w e d c b t).keep (by simp) f⟩
theorem qD9(w:World)(d c b a f y1 y2 y3:Value)(t g:TypeId):
  ∃e,(w.alloc (Obj.cells #[d,c,b,a] t)).alloc (Obj.cells #[f,y1,y2,y3] g)=e/\Below w.heap.size w e/\e.heap.size=w.heap.size+2/\
   ∀u,Below e.heap.size e u->Box u w.heap.size d c b a/\Box u (w.heap.size+1) f y1 y2 y3:=by
 refine⟨_,rfl,((Below.refl _ _).alloc (wa _) _).alloc (by simp) _,by simp,λ u h=>⟨?_,?_⟩⟩
 .exact((qrz w d c b a t).keep (B:=w.heap.size+1) (by omega) (((Below.refl _ _).alloc (by simp) _))).keep (by simp;omega) h
 .have:=qrz (w.alloc (Obj.cells #[d,c,b,a] t)) f y1 y2 y3 g;rw[show(w.alloc (Obj.cells #[d,c,b,a] t)).heap.size=w.heap.size+1 by simp]at this;exact this.keep (by simp) h
theorem qsv(w:World)(b:Nat)(n y1 y2 y3 m l g f:Value)(h:Box w b n y1 y2 y3):
  ∃w',(((w.setCell ⟨b,0,none⟩ m).setCell ⟨b,1,none⟩ l).setCell ⟨b,2,none⟩ g).setCell ⟨b,3,none⟩ f=w'/\Box w' b m l g f/\(∀B,B<=b->∀w0,Below B w0 w->Below B w0 w')/\
   w'.heap.size=w.heap.size/\(∀k,k≠b->w'.heap[k]?=w.heap[k]?)/\(∀a,w'.frozen? a=w.frozen? a):=by
 let⟨r,q,p,o⟩:=h;have c:∀i j:Nat,i≠j->(⟨b,i,none⟩:Addr)≠⟨b,j,none⟩:=λ i j h k=>h (by cases k;rfl);refine⟨_,rfl,⟨?_,?_,?_,?_⟩,λ B e w0 h=>(((h.setCell e _).setCell e _).setCell e _).setCell e _,by simp,λ k d=>?_,λ a=>by simp⟩
 .rw[World.cell?_setCell_other _ _ _ _ (c 3 0 (by decide)),World.cell?_setCell_other _ _ _ _ (c 2 0 (by decide)),World.cell?_setCell_other _ _ _ _ (c 1 0 (by decide))];exact World.cell?_setCell_same _ _ _ r
 .rw[World.cell?_setCell_other _ _ _ _ (c 3 1 (by decide)),World.cell?_setCell_other _ _ _ _ (c 2 1 (by decide))];refine World.cell?_setCell_same _ _ _ (u:=y1) ?_;rw[World.cell?_setCell_other _ _ _ _ (c 0 1 (by decide))];exact q
 .rw[World.cell?_setCell_other _ _ _ _ (c 3 2 (by decide))];refine World.cell?_setCell_same _ _ _ (u:=y2) ?_;rw[World.cell?_setCell_other _ _ _ _ (c 1 2 (by decide)),World.cell?_setCell_other _ _ _ _ (c 0 2 (by decide))];exact p
 .refine World.cell?_setCell_same _ _ _ (u:=y3) ?_;rw[World.cell?_setCell_other _ _ _ _ (c 2 3 (by decide)),World.cell?_setCell_other _ _ _ _ (c 1 3 (by decide)),World.cell?_setCell_other _ _ _ _ (c 0 3 (by decide))];exact o
 .rw[Below.heap_setCell _ _ _ _ d,Below.heap_setCell _ _ _ _ d,Below.heap_setCell _ _ _ _ d,Below.heap_setCell _ _ _ _ d]
theorem Box.same{w u:World}{b:Nat}{g f e d:Value}(h:Box w b g f e d)(c:u.heap[b]?=w.heap[b]?):Box u b g f e d:=
 ⟨(World.cell?_of_block (w:=w) (a:=⟨b,0,none⟩) c).trans h.1,(World.cell?_of_block (w:=w) (a:=⟨b,1,none⟩) c).trans h.2.1,(World.cell?_of_block (w:=w) (a:=⟨b,2,none⟩) c).trans h.2.2.1,(World.cell?_of_block (w:=w) (a:=⟨b,3,none⟩) c).trans h.2.2.2⟩
end Go.GxZ
namespace Go.Proofs.YtinbdcelmgfniaaGreatDoor
open Go Go.RowKit Go.GxZ Go.AmZ Go.Lib
theorem qyh:qji Tryz.prog .term 23 25 56:=⟨by
 have h:(match ym Tryz.prog 23 with|some ⟨_,_,_,_,.slice e k b z⟩=>Nat.beq e 25&&(Nat.beq k 4&&(Nat.beq b 56&&Nat.beq z.length 4))|_=>false)=true:=by kernel_rfl
 split at h
 .rename_i l j i g e k b z m;simp only[wb]at h;let⟨f,d,c,a⟩:=h;have f:=wj f;have d:=wj d;have c:=wj c;have a:=wj a;subst f;subst d;subst c;exact⟨l,j,i,g,z,m,a⟩
 .cases h⟩
theorem qym{F:Val RD->Option qgg}{k:Nat}{b:Val RD}{r:(Val RD×Unit)×(T×Unit)}(h:qjS F k b=some r):∃a nk nm sk lf,F b=some ((a,()),((nk,nm,sk,[],lf,()),()))/\qgs F k [(T.mk nk nm sk [],lf)] a=some r:=by
 unfold qjS at h;cases c:qcw F b with
 |none=>rw[c]at h;cases h
 |some x=>
   let⟨a,nk,nm,sk,lf⟩:=x;rw[c]at h;exact⟨a,nk,nm,sk,lf,qoh c,h⟩
def qDb(a:Gh)(w0:World)(b:Val RD)(t:T)(e:Ending)(w':World):Prop:=∃(us:List Value) (Γ:Gh) (σ:St),e=.returned (.agg us.toArray)/\RS a w0 b Γ σ w'/\RepL Γ (qd .term t) us/\∀u∈us,u.oneCell'=true
theorem qBO:(Tryz.prog.info? 79).map (λ i=>(i.zero,i.size,i.bytes))=some (some (.agg #[.int .i64 0,.string ⟨#[]⟩,.int .i64 0,.slice none 0 0,.int .i64 0]),5,64):=by kernel_rfl
set_option maxHeartbeats 4000000 in
set_option maxRecDepth 1000000 in
theorem qAr{F:Val RD->Option qgg}(hF:qI Tryz.prog 67 (sgP (qkp F))){k:Nat}{Γ0:Gh}{σ0:St}{w0:World}{rd rd':Val RD}{t:T}(h0:Inv Γ0 σ0 w0)(hb : σ0.bx=[qd RD rd])(hr : σ0.rw=[])(hf:qjS F k rd=some ((rd',()),(t,()))) :
  Calls Tryz.prog 35 #[.pointer (some ⟨Γ0.β 0,0,none⟩)] w0 (qDb Γ0 w0 rd' t):=by
 have HF:=Lib.hid hF;have hS:RS Γ0 w0 rd Γ0 σ0 w0:=⟨.refl _ _,h0,hb⟩
 have HS:=Lib.hid hS;have HR:=Lib.hid hr;have HQ:=Lib.hid hf;clear hF hS hr hf h0 hb;generalize hβ : Γ0.β 0 = β;have Hβ := Lib.hid hβ;clear hβ
 go_enter Tryz.func35,Tryz.ntmps35
 obtain⟨rd1,nk,nm,sk,lf,hf1,hl1⟩:=qym HQ.out
 have hc1:∀ o:Obj,Calls Tryz.prog 67 #[.pointer (some ⟨β,0,none⟩)] (w0.alloc o) λ e w'=>∃ Γ' σ' ku,e = .returned (.agg #[.int .i64 nk,.string ⟨nm.toArray⟩,.int .i64 sk,ku,.int .i64 lf])/\Ext Γ0 (w0.alloc o) Γ' w'/\RS Γ0 w0 rd1 Γ' σ' w' /\ σ'.rw = σ0.rw++[⟨4,[],0,0,false⟩]/\Rep Γ' (.rs σ0.rw.length 0 0 0 false) ku := λ o=>by
  rw[<- Hβ.out];exact qqb HF.out hf1 (HS.out.alloc o)
 have HC1:=Lib.hid hc1;have HL1:=Lib.hid hl1;clear hc1 hl1 hf1
 go_wp2_with (go_at_call 67;refine(HC1.out _).mono ?_;rintro e w1 ⟨Γ1,σ1,ku,rfl,hx1,hS1,hrw1,hku1⟩)
 have hR1 : σ1.rw[σ0.rw.length]?=some ⟨4,[],0,0,false⟩:=by rw[hrw1];simp
 have hsz1:w0.heap.size+1<=w1.heap.size:=by have:=hx1.size;simpa using this
 have hres0:qaY Γ0 (w0.alloc (Obj.cells #[.int .i64 0,.string ⟨#[]⟩,.int .i64 0,.slice none 0 0] 25)) w0.heap.size 25 :=
  ⟨qb5.new HS.out.i (wa _),by simp,heap_alloc_new w0 _⟩
 have hres1:=hres0.ext hx1;obtain⟨hS2,hK2⟩:=qFf (N:=79) (B:=w0.heap.size) hS1 (by omega) (nk:=nk) (sk:=sk) (nm:=nm) (lf:=lf) hR1 hku1;have hres2:qaY Γ1 (w1.alloc (Obj.cells #[.int .i64 nk,.string ⟨nm.toArray⟩,.int .i64 sk,ku,.int .i64 lf] 79)) w0.heap.size 25:=hres1.same (by simp) (Below.heap_alloc _ _ _ hres1.2.1);have hbet:∀{Γ : Gh},Le Γ0 Γ -> Γ.β 0 = β := λ h=>(h.β 0 (by rw[HS.out.i.nb,HS.out.bx];exact vZ)).trans Hβ.out;have HBET:Hid (∀{Γ : Gh},Le Γ0 Γ -> Γ.β 0 = β):=@hbet;have HS2:=Lib.hid hS2;have HK2:=Lib.hid hK2;have HRES2:=Lib.hid hres2;have HSZ1:=Lib.hid hsz1;clear hR1 hres0 hres1 hS2 hK2 hres2 hx1 hS1 hrw1 hku1 hbet hsz1 HC1
 go_loopg [3] k (λ g1 v3 wr=>∃(st:List (T × Int)) (ids:List Nat) (g cap:Nat) (cs:List Value) (Γ : Gh) (σ : St) (rdx:Val RD),v3 = .slice (some ⟨g,0,none⟩) (st.length:Nat) cap/\Hid (RS Γ0 w0 rdx Γ σ wr)/\Hid (Stk w0.heap.size 79 Γ σ wr st ids g cap cs)/\Hid (qaY Γ wr w0.heap.size 25/\w0.heap.size≠g)/\Hid (qgs F g1 st rdx=some ((rd',()),(t,()))))
 case atStart=>exact⟨_,_,_,_,_,_,_,_,rfl,HS2.out,HK2.out,⟨HRES2.out,by have:=HSZ1.out;omega⟩,HL1.out⟩
 case round =>
  obtain⟨st,ids,g,cap,cs,Γ,σ,rdx,rfl,HSr,HKr,HRr,HLr⟩:=hrel;clear HS2 HK2 HRES2 HL1 HSZ1
  obtain⟨m,hm⟩:∃ m,gk=m+1:=by
   cases gk with
   | zero=>exact absurd HLr.out (by intro h;cases h)
   | succ m=>exact⟨m,rfl⟩
  have HLm:Hid (qgs F (m+1) st rdx=some ((rd',()),(t,()))):=by rw[<- hm];exact HLr
  clear HLr;obtain⟨hw0,hw1,hw2⟩:=HSr.out.box;rw[HBET.out HSr.out.x.le]at hw0 hw1 hw2;clear hw0 hw1;rcases qyZ (show qik F (qgs F m) st rdx=some ((rd',()),(t,()))from HLm.out)with⟨hw,he⟩ | ⟨hw,p,top,lt,hlen,hp,hcase⟩
  ·rw[hw]at hw2;cases he;obtain⟨r0,r1,r2,r3,rf⟩:=HRr.out.1.cells;have RF:=Lib.hid rf;have f0:=rf 0;have f1:=rf 1;have f2:=rf 2;have f3:=rf 3;clear rf
   go_wp2_with fail
   obtain⟨w9,hw9,⟨b0,b1,b2,b3⟩,_⟩:=qsv wr w0.heap.size _ _ _ _ (.int .i64 0) (.string ⟨#[]⟩) (.int .i64 0) (.slice none 0 0) ⟨r0,r1,r2,r3⟩;have hS9:=HSr.out.put4 HRr.out.1.1 (wa _) (.int .i64 0) (.string ⟨#[]⟩) (.int .i64 0) (.slice none 0 0);rw[hw9]at hS9 |-
   refine bodyPost_ret (v := .agg #[.int .i64 0,.string ⟨#[]⟩,.int .i64 0,.slice none 0 0]) (by simp[results,Tryz.results35,go_sem,b0,b1,b2,b3]) rfl ?_;exact⟨_,Γ,σ,rfl,hS9,qed (t := .mk 0 [] 0 []) qut,qjZ rfl⟩
  ·rw[hw]at hw2;obtain⟨r,hr,NC⟩:=HKr.out.at hp;have hcap:=qEw HKr.out.own;have hpm:p+1<=maxLen:=by omega
   unfold maxLen at hpm;have hwp:IntKind.i64.wrap (((p+1:Nat):Int)-1)=(p:Int):=by rw[IntKind.wrap_i64];omega
   obtain⟨Rp,kp,z1,z2,z3,z4,z5,z6,a0,a1,a2,a3,a4⟩:=NC;obtain⟨c4,f4⟩:=HKr.out.cell a4;have hz:(p:Int)<((p+1:Nat):Int):=by omega
   rcases hcase with⟨hlt,hroom,rd1,nk1,nm1,sk1,lf1,hf1,hih⟩ | ⟨hlt,hend⟩
   ·clear z1 z2 z3 z4 z5 z6 a0 a1 a2 a3;rw[hlen]
    go_upto_region 6 with(fail)
    have hwr:iw .i64 (ja lt 1)=wrap64 (lt-1):=by show IntKind.i64.wrap (lt-1)=_;rw[IntKind.wrap_i64];unfold wrap64;rfl
    rw[hwr]at hih;have hS2:=HSr.out.set HKr.out.priv (qaV HKr.out.own).1 (p*5+4) (.int .i64 (wrap64 (lt-1)));have hK2:=HKr.out.left hp (wrap64 (lt-1));have hR2:qaY Γ (wr.setCell ⟨g,p*5+4,none⟩ (.int .i64 (wrap64 (lt-1)))) w0.heap.size 25:=HRr.out.1.same (by simp) (Below.heap_setCell _ _ _ _ HRr.out.2);have hc:=qqb HF.out hf1 hS2;rw[HBET.out HSr.out.x.le]at hc;generalize wr.setCell ⟨g,p*5+4,none⟩ (.int .i64 (wrap64 (lt-1)))=w2 at *;have HC:=Lib.hid hc;have HK2:=Lib.hid hK2;have HR2:=Lib.hid hR2;have HIH:=Lib.hid hih;have HRM:=Lib.hid hroom;have HLEN:=Lib.hid hlen;have HNG:=Lib.hid HRr.out.2;clear hc hK2 hR2 hih hroom hS2 HSr HKr HRr hlen hcap hwp hz c4 f4 a4 hr hp hf1 hw2 hwr;obtain⟨i0,hi,hz0,hz1,hz2⟩:=info_parts qBO
    go_wp2_with (first
     | (go_at_call 67;refine HC.out.mono ?_;rintro e w3 ⟨Γ3,σ3,ku3,rfl,hx3,hS3,hrw3,hku3⟩
        have hK3:=HK2.out.later hx3 (σ' := σ3) (λ r _ R h=>by rw[hrw3,List.getElem?_append_left (getElem?_lt h)];exact h);have hR3:=HR2.out.ext hx3;have hnid : σ.rw.length ∉ ids:=HK2.out.id_lt;have hlen2:(st.set p (top,wrap64 (lt-1))).length=p+1:=by rw[wH];exact HLEN.out
        obtain⟨v4,w4,hrun4,g4,cap4,hv4,hS4,hK4,hsz4,hbl4,hg4⟩:=qCP Tryz.underlying81 hi hz0 hz1 hz2 rfl hS3 hK3 (wa _) (nk:=nk1) (nm:=nm1) (sk:=sk1) (lf:=lf1) (r := σ.rw.length) (by rw[hrw3];simp) hku3 hnid (by rw[hlen2];exact HRM.out) 81;have hR4:qaY Γ3 w4 w0.heap.size 25:=hR3.same hsz4 (hbl4 _ hR3.2.1 HNG.out);have hng4:w0.heap.size≠g4:=by rcases hg4 with rfl | h;exact HNG.out;have:=hR3.2.1;omega
        rw[hlen2]at hrun4 hv4;subst hv4;have HS4:=Lib.hid hS4;have HK4:=Lib.hid hK4;have HR4:=Lib.hid hR4;have HNG4:=Lib.hid hng4;have HRUN:=Lib.hid hrun4;clear hx3 hS3 hrw3 hku3 hK3 hR3 hnid hlen2 hrun4 hS4 hK4 hsz4 hbl4 hg4 hR4 hng4)
     | (at_builtin;refine qse _ _ _ rfl rfl rfl rfl HRUN.out ?_))
    go_roundg m
    case measure=>omega
    case rel=>exact⟨_,_,g4,cap4,_,Γ3,σ3,rd1,by rw[wd,wH,HLEN.out];rfl,HS4.out,HK4.out,⟨HR4.out,HNG4.out⟩,HIH.out⟩
   ·obtain⟨c0,f0⟩:=HKr.out.cell a0;obtain⟨c1,f1⟩:=HKr.out.cell a1;obtain⟨c2,f2⟩:=HKr.out.cell a2;obtain⟨c3,f3⟩:=HKr.out.cell a3;have hgl:=(qaV HKr.out.own).2;have hbl:w0.heap.size<wr.heap.size:=HRr.out.1.2.1;have NC:qfi Γ σ cs p top lt r:=⟨Rp,kp,z1,z2,z3,z4,z5,z6,a0,a1,a2,a3,a4⟩
    have hk1:=z6.one rfl;obtain⟨pa,kn,kc,rfl⟩:∃ pa kn kc,kp = .slice pa kn kc:=by cases z6;exact⟨_,_,_,rfl⟩
    clear z1 z2 z3 z4 z5 z6 a0 a1 a2 f0 f1 f2 f3 f4;rcases hend with⟨rfl,he⟩ | ⟨q,par,n,rfl,hq,hroom,hih⟩
    ·cases he;rw[hlen];have hR5:∀ o:Obj,qaY Γ (wr.alloc o) w0.heap.size 25 := λ o=>HRr.out.1.same (by simp) (Below.heap_alloc _ _ _ hbl);obtain⟨r0,r1,r2,r3,rf⟩:=HRr.out.1.cells;have f0:=rf 0;have f1:=rf 1;have f2:=rf 2;have f3:=rf 3;clear rf;have HNC:=Lib.hid NC;have HR5:=Lib.hid hR5;have HLT:=Lib.hid hlt;have HK1:=Lib.hid hk1;clear NC hR5 hk1
     go_wp2_with fail
     obtain⟨w9,hw9,⟨b0,b1,b2,b3⟩,_,hsz9,_⟩:=qsv wr w0.heap.size _ _ _ _ (.int .i64 t.kind) (.string ⟨t.name.toArray⟩) (.int .i64 t.sort) (.slice pa kn kc) ⟨r0,r1,r2,r3⟩;have hS9:=HSr.out.put4 HRr.out.1.1 (wa _) (.int .i64 t.kind) (.string ⟨t.name.toArray⟩) (.int .i64 t.sort) (.slice pa kn kc);rw[hw9]at hS9 |-
     have hl9:w0.heap.size<w9.heap.size:=by rw[hsz9];exact hbl
     refine bodyPost_ret (v := .agg #[.int .i64 t.kind,.string ⟨t.name.toArray⟩,.int .i64 t.sort,.slice pa kn kc]) (by simp[results,Tryz.results35,go_sem,b0,b1,b2,b3,hl9]) rfl ?_;have hS10:=hS9.alloc (.cells #[.int .i64 t.kind,.string ⟨t.name.toArray⟩,.int .i64 t.sort,.slice pa kn kc] 25);obtain⟨Γ1,σ9,kx,y1,y2,y3,y4,y5,y6,y7⟩:=qum hS10.i HNC.out;obtain⟨_,kx',_,_,_,_,_,_,_,_,_,y8,_⟩:=HNC.out;have hcs:cs[0*5+3]?=some (.slice pa kn kc):=a3;rw[hcs]at y5;cases y5;exact⟨[.int .i64 t.kind,.string ⟨t.name.toArray⟩,.int .i64 t.sort,.slice pa kn kc],Γ1,σ9,rfl,⟨hS10.x.trans y3,y4,y1.trans hS10.bx⟩,qed y6,qjZ rfl⟩
    ·rw[hlen];have HNC:=Lib.hid NC;have HK1:=Lib.hid hk1;have HIH:=Lib.hid hih;have HRM:=Lib.hid hroom;have HQ2:=Lib.hid hq;have HP:=Lib.hid hp;have hqm:q+1+1<=2 ^ 63-1:=hpm;have hz2:¬ ((q:Int)+1=0):=by omega
     clear NC hk1 hih hroom hq HQ
     go_upto_region 11 with(fail)
     obtain⟨w5,hw5,hb5,hs5,hbx5⟩:=qHa wr (.int .i64 top.kind) (.string ⟨top.name.toArray⟩) (.int .i64 top.sort) (.slice pa kn kc) 25;have hS5:=HSr.out.alloc (.cells #[.int .i64 top.kind,.string ⟨top.name.toArray⟩,.int .i64 top.sort,.slice pa kn kc] 25);have hK5:=HKr.out.grown (World.grownBy_alloc wr (.cells #[.int .i64 top.kind,.string ⟨top.name.toArray⟩,.int .i64 top.sort,.slice pa kn kc] 25) none) (λ e=>by cases e);have hR5:qaY Γ (wr.alloc (.cells #[.int .i64 top.kind,.string ⟨top.name.toArray⟩,.int .i64 top.sort,.slice pa kn kc] 25)) w0.heap.size 25:=HRr.out.1.same (by simp) (Below.heap_alloc _ _ _ hbl);rw[hw5]at hS5 hK5 hR5 |-
     have g5:=hbx5 _ (Below.refl _ _);have HS5:=Lib.hid hS5;have HK5:=Lib.hid hK5;have HR5:=Lib.hid hR5;have G5:=Lib.hid g5;have HNG:=Lib.hid HRr.out.2;have HA3:=Lib.hid a3;have HSZ5:=Lib.hid hs5;clear hbx5 hw5 hb5 hS5 hK5 hR5 g5 HSr HKr HRr c0 c1 c2 c3 c4 a4 a3 hw2 hgl hbl hs5 hlen hp hcap hwp hr
     have key:∀ bv:Value,RS Γ0 w0 rdx Γ σ (w5.alloc (.cells #[bv] 4)).drew/\Stk w0.heap.size 79 Γ σ (w5.alloc (.cells #[bv] 4)).drew st ids g cap cs/\qaY Γ (w5.alloc (.cells #[bv] 4)).drew w0.heap.size 25/\Box (w5.alloc (.cells #[bv] 4)).drew wr.heap.size (.int .i64 top.kind) (.string ⟨top.name.toArray⟩) (.int .i64 top.sort) (.slice pa kn kc) := λ bv =>
      ⟨(HS5.out.alloc _).drew',(HK5.out.grown (World.grownBy_alloc w5 (.cells #[bv] 4) none) (λ e=>by cases e)).drew,(HR5.out.same (by simp) (Below.heap_alloc _ _ _ HR5.out.2.1)).drew,G5.out.same (Below.heap_alloc _ _ _ (by have:=HSZ5.out;omega))⟩
     have KEY:=Lib.hid key;clear key
     go_region
     ·obtain⟨w6,hw6⟩:∃ w6,(w5.alloc (.cells #[.bool false] 4)).drew=w6:=⟨_,rfl⟩
      obtain⟨k1,k2,k3,k4⟩:=KEY.out (.bool false);rw[hw6]at k1 k2 k3 k4 |-
      have HS6:=Lib.hid k1;have HK6:=Lib.hid k2;have HR6:=Lib.hid k3;have G6:=Lib.hid k4;clear KEY hw6 k1 k2 k3 k4 HS5 HK5 HR5 G5 HSZ5
      go_upto_region 14 with(fail)
      obtain⟨Γ7,σ7,kx,b4,hS7,hK7,hx7,hx6⟩:=qxg HS6.out.drew' HK6.out.drew HP.out;rw[HA3.out]at b4;cases b4;have hql:q<st.length:=getElem?_lt HQ2.out;obtain⟨kq,rq,b0,_,_,v8,w8,hrun,⟨pa8,kc8,hv8⟩,Γ8,σ8,hx8,hS8,hK8⟩:=qx3 qyh hS7 hK7 (wa _) (q:=q) (t:=par) (n:=n) (by rw[List.getElem?_take,if_pos (by omega)];exact HQ2.out) hx7 HRM.out 25 23;rw[xz,wW (by omega)]at hK8;subst hv8;obtain⟨c6,f6⟩:=hK7.cell b0;obtain⟨c0,c1,c2,c3⟩:=G6.out;have c7:∀ o:Obj,(w6.alloc o).cell? ⟨g,q*5+3,none⟩=some kq := λ o=>(World.cell?_alloc_lt _ _ _ (by show g<_;exact(qaV HK6.out.own).2)).trans c6;have hbk:=(hK7.priv.ext hx8 (by exact(qaV HK6.out.own).2)).2;have c8:w8.cell? ⟨g,q*5+3,none⟩=some kq:=(World.cell?_of_block (w:=w6) (a:=⟨g,q*5+3,none⟩) hbk).trans c6;have f8:w8.frozen? ⟨g,q*5+3,none⟩=false:=(World.frozen?_of_block (w:=w6) (a:=⟨g,q*5+3,none⟩) hbk).trans f6;have HR8:=Lib.hid ((HR6.out.drew.ext hx6).ext hx8);have HS8:=Lib.hid hS8;have HK8:=Lib.hid hK8;have hrun:(Builtin.append_ #[23,23] 23 #[kq,.slice (some ⟨w6.heap.size,0,none⟩) 1 1]).run Tryz.prog (w6.alloc (.cells #[.int .i64 top.kind,.string ⟨top.name.toArray⟩,.int .i64 top.sort,.slice pa kn kc] 25)).drew = .ok (.slice pa8 (par.kids.length+1) kc8) w8:=hrun;have HRUN:=Lib.hid hrun;have hl9:(st.take q++[(T.mk par.kind par.name par.sort (par.kids++[top]),n)]).length=q+1:=by rw[wd,wk];simp;omega
      have HL9:=Lib.hid hl9;clear hx8 hS8 hK8 hrun b0 hbk HS6 HK6 HR6 G6 hS7 hK7 hx7 hx6 hl9 hql;have hwq:IntKind.i64.wrap (q:Int)=(q:Int):=by rw[IntKind.wrap_i64];omega
      have hqz:(q:Int)<(q:Int)+1:=by omega
      go_region_law (first | (refine qjm rfl _ _ _ rfl rfl rfl HRUN.out ?_))
      all_goals
       go_wp2_with fail
       go_roundg m
       case measure=>omega
       case rel=>exact⟨_,_,g,cap,_,Γ8,σ8,rdx,by rw[HL9.out],HS8.out,HK8.out,⟨HR8.out.same (by simp) (Below.heap_setCell _ _ _ _ HNG.out),HNG.out⟩,HIH.out⟩
     ·obtain⟨w6,hw6⟩:∃ w6,(w5.alloc (.cells #[.bool true] 4)).drew=w6:=⟨_,rfl⟩
      obtain⟨k1,k2,k3,k4⟩:=KEY.out (.bool true);rw[hw6]at k1 k2 k3 k4 |-
      have HS6:=Lib.hid k1;have HK6:=Lib.hid k2;have HR6:=Lib.hid k3;have G6:=Lib.hid k4;clear KEY hw6 k1 k2 k3 k4 HS5 HK5 HR5 G5 HSZ5
      go_upto_region 12 with(fail)
      obtain⟨Γ7,σ7,kx,b4,hS7,hK7,hx7,hx6⟩:=qxg HS6.out.drew' HK6.out.drew HP.out;rw[HA3.out]at b4;cases b4;have hql:q<st.length:=getElem?_lt HQ2.out;obtain⟨kq,rq,b0,_,⟨pa7,kc7,rfl⟩,v8,w8,hrun,⟨pa8,kc8,hv8⟩,Γ8,σ8,hx8,hS8,hK8⟩:=qx3 qyh hS7 hK7 (wa _) (q:=q) (t:=par) (n:=n) (x := .mk 0 [] 0 []) (by rw[List.getElem?_take,if_pos (by omega)];exact HQ2.out) qut HRM.out 25 23;rw[xz,wW (by omega)]at hK8;subst hv8;obtain⟨c6,f6⟩:=hK7.cell b0;obtain⟨c0,c1,c2,c3⟩:=G6.out;have c7:∀ o:Obj,(w6.alloc o).cell? ⟨g,q*5+3,none⟩=some (.slice pa7 par.kids.length kc7) := λ o=>(World.cell?_alloc_lt _ _ _ (by show g<_;exact(qaV HK6.out.own).2)).trans c6;have hwl:wr.heap.size<w6.heap.size:=qnq c0;have hbk:=(hK7.priv.ext hx8 (by exact(qaV HK6.out.own).2)).2;have c8:w8.cell? ⟨g,q*5+3,none⟩=some (.slice pa7 par.kids.length kc7):=(World.cell?_of_block (w:=w6) (a:=⟨g,q*5+3,none⟩) hbk).trans c6;have f8:w8.frozen? ⟨g,q*5+3,none⟩=false:=(World.frozen?_of_block (w:=w6) (a:=⟨g,q*5+3,none⟩) hbk).trans f6;have hR8:qaY Γ8 (w8.setCell ⟨g,q*5+3,none⟩ (.slice pa8 (par.kids.length+1) kc8)) w0.heap.size 25:=((HR6.out.drew.ext hx6).ext hx8).same (by simp) (Below.heap_setCell _ _ _ _ HNG.out);have hl9:(st.take q).length=q:=by rw[wk];omega
      obtain⟨b,kc9,y1,y2,y3,y4,y5,Γ9,σ9,hx9,hS9,hK9⟩:=qEZ hS8 hK8 (q:=q) (ks:=par.kids) (z := .mk 0 [] 0 []) (x:=top) (n:=n) (by rw[List.getElem?_append_right (by omega),hl9,ky];rfl) rfl (hx7.mono hx8.le)
      have y6:pa8=some ⟨b,0,none⟩/\kc8=kc9:=by
       rw[List.getElem?_take,if_pos (by omega),List.getElem?_set_self (by rw[hK7.own.1,wk];omega)]at y1;cases y1;exact⟨rfl,rfl⟩
      obtain⟨rfl,rfl⟩:=y6;obtain⟨u0,d0⟩:=y4 0 (by decide);obtain⟨u1,d1⟩:=y4 1 (by decide);obtain⟨u2,d2⟩:=y4 2 (by decide);obtain⟨u3,d3⟩:=y4 3 (by decide);have g0:=y5 (par.kids.length*4);have g1:=y5 (par.kids.length*4+1);have g2:=y5 (par.kids.length*4+2);have g3:=y5 (par.kids.length*4+3);have hres:b≠w0.heap.size := λ e=>hR8.1.own (e▸y3);have hR9:=(hR8.ext hx9)
      have hrun:(Builtin.append_ #[23,23] 23 #[.slice pa7 par.kids.length kc7,.slice (some ⟨w6.heap.size,0,none⟩) 1 1]).run Tryz.prog (w6.alloc (.cells #[.int .i64 0,.string ⟨#[]⟩,.int .i64 0,.slice none 0 0] 25)).drew = .ok (.slice (some ⟨b,0,none⟩) (par.kids.length+1) kc8) w8:=hrun;obtain⟨w9,hw9⟩:∃ w9,w8.setCell ⟨g,q*5+3,none⟩ (.slice (some ⟨b,0,none⟩) (par.kids.length+1) kc8)=w9:=⟨_,rfl⟩
      rw[hw9]at hS9 hK9 hR9 d0 d1 d2 d3 g0 g1 g2 g3;rw[wK]at d0
      have hl10:((st.take q++[(T.mk par.kind par.name par.sort (par.kids++[T.mk 0 [] 0 []]),n)]).set q (T.mk par.kind par.name par.sort (par.kids++[top]),n))=st.take q++[(T.mk par.kind par.name par.sort (par.kids++[top]),n)]:=by
       rw[vu _ _ (by omega),hl9,ky];rfl
      have hK9:Stk w0.heap.size 79 Γ9 σ9 _ ((st.take q++[(T.mk par.kind par.name par.sort (par.kids++[T.mk 0 [] 0 []]),n)]).set q (T.mk par.kind par.name par.sort (par.kids++[top]),n)) _ g cap _:=hK9;rw[hl10]at hK9;have hl11:(st.take q++[(T.mk par.kind par.name par.sort (par.kids++[top]),n)]).length=q+1:=by rw[wd,hl9];rfl
      have HL11:=Lib.hid hl11;have HS9:=Lib.hid hS9;have HK9:=Lib.hid hK9;have HR9:=Lib.hid hR9;have HRUN:=Lib.hid hrun;have HW9:=Lib.hid hw9;have hwq:IntKind.i64.wrap (q:Int)=(q:Int):=by rw[IntKind.wrap_i64];omega
      have hqz:(q:Int)<(q:Int)+1:=by omega
      have hnz:(par.kids.length:Int)<(par.kids.length:Int)+1:=by omega
      clear hx8 hS8 hK8 hrun b0 hbk HS6 HK6 HR6 G6 hS7 hK7 hx7 hx6 hl9 hql hR8 hx9 hS9 hK9 hR9 hw9 hl10 hl11 y1 y2 y3 y4 y5 hres
      go_region_law (first | (refine qjm rfl _ _ _ rfl rfl rfl HRUN.out ?_))
      all_goals
       rw[HW9.out]
       go_wp2_with fail
       go_roundg m
       case measure=>omega
       case rel=>exact⟨_,_,g,cap,_,Γ9,σ9,rdx,by rw[HL11.out],HS9.out,HK9.out,⟨HR9.out,HNG.out⟩,HIH.out⟩
end Go.Proofs.YtinbdcelmgfniaaGreatDoor
namespace Go.AmZ
open Go Go.RowKit Go.GxZ
theorem qB1{ds:List AV}{e:Val RD}(h:qw RD (ds.take (Ty.size RD))=some e)(j:ds.drop (Ty.size RD)=[]):ds=qd RD e:=by
 have k:ds.take (Ty.size RD)=ds:=kW (List.drop_eq_nil_iff.1 j);rw[k]at h;have h:=qH.1 h;let⟨s,f,w⟩:=e;change qjV (yf .str) (qjV (yf (.int .i64)) (yf .bool)) ds=_ at h;unfold qjV at h;split at h<;>try cases h
 rename_i x r c;split at h<;>cases h;rename_i y d;split at d<;>try cases d
 rename_i l g a;split at d<;>cases d;rename_i b;have c:qbd ds=some (s,r):=c;have a:QI .i64 r=some (f,g):=a;have b:qbg g=some (w,[]):=b;unfold qbd at c;split at c<;>cases c;unfold QI at a;split at a<;>try cases a
 rename_i i;split at a<;>cases a;have i:=of_decide_eq_true (by assumption);subst i;unfold qbg at b;split at b<;>cases b;rfl
theorem qFe{σ:St}{ys:List AV}{a:jP [.box [.val RD]]}(h:dS σ [.box [.val RD]] 0 0 ys=some a):ys=[.ptr 0 0]/\σ.bx=[qd RD a.1]/\σ.rw=[]:=by
 cases ys with
 |nil=>simp[dS]at h
 |cons y ys=>
   simp only[dS]at h;cases c:qfB σ [.val RD] 0 0 y with
   |none=>rw[c]at h;cases h
   |some p=>
     let⟨v,n⟩:=p;rw[c]at h;simp only at h;unfold qfB at c;split at c<;>try cases c
     rename_i j f;have f:=qv7 f;subst f;split at c<;>try cases c
     rename_i ds k g;have k:=wj k;subst k;simp only[qcY]at c;split at c<;>try cases c
     rename_i x m;split at c<;>cases c;rename_i d
     have l:ds.drop (Ty.size RD)=[]/\n=0:=by
      cases i:ds.drop (Ty.size RD)with
      |nil=>rw[i]at d;simp[qcY]at d;exact⟨rfl,d.symm⟩
      |cons z r=>rw[i]at d;simp[qcY]at d
     obtain⟨l,rfl⟩:=l;split at h<;>cases h;rename_i hdS;obtain⟨rfl,q,o⟩:=qhf hdS;have e:=qB1 m l;let⟨b,c⟩:=xN.1 q.symm;refine⟨rfl,?_,wg o.symm⟩;rw[c]at g |-
     cases g;rw[e];rfl
end Go.AmZ
namespace Go.Proofs.YtinbdcelmgfniaaGreatDoor
open Go Go.RowKit Go.GxZ Go.AmZ Go.Lib
theorem hand_read{F:Val RD->Option qgg}(q:qI Tryz.prog 67 (sgP (qkp F)))(k:Nat):qI Tryz.prog 35 (sgP ⟨[.box [.val RD]],[.one (.val .term)],λ x=>qjS F k x.1⟩):=by
 refine⟨jZ Tryz.func35 (by kernel_rfl),λ Γ σ w l h r i g a=>?_⟩;let⟨B,b,y,m⟩:= σ;unfold sgP at a;split at a<;>try cases a
 rename_i x p;let⟨z,_⟩:=x;obtain⟨rfl,j,c⟩:=qFe p;have c:b=[]:=c;subst c;split at a<;>cases a;rename_i n d;let⟨⟨o,_⟩,t,_⟩:=n;obtain⟨u0,A,rfl,f,g⟩:=g.uncons;have:=g.nil_inv;subst this;cases f;refine(qAr q i j rfl d).mono ?_;rintro e w' ⟨us,Γ',σ',rfl,v,u,s⟩;exact qAY i (by rw[j];rfl) rfl v u s
end Go.Proofs.YtinbdcelmgfniaaGreatDoor
namespace Go.AmZ
open Go Go.GxZ
set_option linter.unusedVariables false
set_option maxRecDepth 100000
open Go.Proofs.Tryz (func6 func10 func11 func13 func14 func20 func21 func26 func32 func33 func34 func36 func37 func39 func43 func44 func45 func46 func50 func51 func52 func56 func57 func58 func67 func68 func69 func70 func71 func72 func73 func79 func80 func81 func82 func83 func84 func85 func88 func89 func91 func92 func93 func95 func96 func100 func101 func102 func103 func109 func110 func111 func113 func114 func115 func118 func119 func120 func121 func122 func123 func126 func127 func128 func129 func130 func131 func141 func142 func144 func149 func150 func151 func153 func154 func155 func156 func157 func158 func159 func160 func161 func162 func163 func164 func165 func184 func185 func186 func187 func190 func191 func192 func194 func195 func214 func223 func224 func227 func228 func241)
theorem qgh(m:Nat)(h:zM Go.Proofs.Tryz.prog (tb.at m).pc.cfg):qI Go.Proofs.Tryz.prog 35 (sgP ⟨[.box [.val RD]],[.one (.val .term)],λ x=>yO (m+1) x.1⟩):=Go.Proofs.YtinbdcelmgfniaaGreatDoor.hand_read (F:=qn m) (h.prim 67 _ (by kernel_rfl)) m
theorem qaB(m:Nat)(h:zM Go.Proofs.Tryz.prog (tb.at m).pc.cfg):qI Go.Proofs.Tryz.prog 139 (mgP ⟨.term,[.clo 89 0],λ x=>yW (m+1) x.1⟩):=qsn (τ:=.term) Go.Proofs.Tryz.sortTrm (λ _=>rfl) Go.Proofs.Tryz.isAgg25 Go.Proofs.Tryz.sizeOf25 (qws (τ:=.term) (ρ:=y2) (qrM h (by kernel_rfl)) (F:=λ x y=>qv m x y) (by kernel_rfl) (λ _=>rfl)) (jZ Go.Proofs.Tryz.func139 (by kernel_rfl)) (λ _ _ h=>h)
theorem JE(m:Nat)(h:zM Go.Proofs.Tryz.prog (tb.at m).pc.cfg):qI Go.Proofs.Tryz.prog 140 (sgP ⟨[.row .term,.clo 141 0],[.one (.row .term)],λ x=>yw (m+1) x.1⟩):=qww (qws (τ:=.term) (ρ:=.bool) (qrM h (by kernel_rfl)) (F:=λ x y=>qeZ m x y) (by kernel_rfl) (λ _=>rfl)) (λ _ _ h=>qzH h)
theorem Jc(m:Nat)(h:zM Go.Proofs.Tryz.prog (tb.at m).pc.cfg):qI Go.Proofs.Tryz.prog 152 (mgP ⟨y3,[.clo 153 0],λ x=>zV (m+1) x.1⟩):=qsn (τ:=y3) Go.Proofs.Tryz.sortBnd (λ _=>rfl) Go.Proofs.Tryz.isAgg76 Go.Proofs.Tryz.sizeOf76 (qws (τ:=y3) (ρ:=y2) (qrM h (by kernel_rfl)) (F:=λ x y=>qc1 m x y) (by kernel_rfl) (λ _=>rfl)) (jZ Go.Proofs.Tryz.func152 (by kernel_rfl)) (λ _ _ h=>h)
theorem tb_ok:∀ m,zM Go.Proofs.Tryz.prog (tb.at m).pc.cfg:=Tb.all_ok (by kernel_rfl) qA5 (by kernel_rfl) (nP func114 qwl (nP func69 qok (nP func37 qp8 ⟨qcK (m:=0),(nP func13 qtt (nP func10 qsg (nP func6 qi3 trivial trivial) (nP func11 qmu trivial trivial)) (nP func20 qnV (nP func14 qlB trivial trivial) (nP func21 qrT trivial trivial))),(nP func34 qu7 (nP func32 qvh (nP func26 qkm trivial trivial) (nP func33 qtn trivial trivial)) (nP func36 qtp ⟨⟨qk4 (jZ Go.Proofs.Tryz.func35 (by kernel_rfl)) λ _=>rfl,λ m h=>qgh m h⟩,trivial,trivial⟩ trivial))⟩ (nP func51 qqE (nP func45 qvE (nP func43 qoW (nP func39 qto trivial trivial) (nP func44 qpM trivial trivial)) (nP func50 qjO (nS func46 qnT trivial trivial) trivial)) (nP func58 qls (nS func56 qnX (nP func52 qpA trivial trivial) (nP func57 qrv trivial trivial)) (nS func68 qtB (nS func67 qhR trivial trivial) trivial)))) (nP func91 qrJ (nP func81 qsa (nP func73 qoL ⟨⟨⟨func71,λ _=>rfl,qjF,⟨func71,λ _=>rfl,qjb,trivial⟩⟩,List.cons_ne_nil _ _⟩,(nP func70 qrP trivial trivial),(nP func72 qnJ trivial trivial)⟩ (nP func80 qpJ (nP func79 qpN trivial trivial) trivial)) (nP func85 qfO (nP func83 qll (nS func82 Qw trivial trivial) (nS func84 qg1 trivial trivial)) (nP func89 qqq (nP func88 qhr trivial trivial) trivial))) (nP func102 qsc (nP func96 qtq (nP func93 qrh (nP func92 qrU trivial trivial) (nP func95 qwd trivial trivial)) (nS func101 qhP (nS func100 qhS trivial trivial) trivial)) (nS func110 qhU ⟨λ c hc=>qlq (m:=0) hc,(nP func103 qoD trivial trivial),(nS func109 qkq trivial trivial)⟩ (nP func113 qeC (nS func111 qpC trivial trivial) trivial))))) (nP func157 qqu (nP func131 qqo (nP func122 qtu (nS func119 qmn ⟨λ c hc=>qj5 (m:=0) hc,(nP func115 qux trivial trivial),(nS func118 qlp trivial trivial)⟩ (nP func121 qrB (nP func120 qo4 trivial trivial) trivial)) (nP func128 qzB (nP func126 qwh (nP func123 qrE trivial trivial) (nP func127 qnO trivial trivial)) (nP func130 qpo (nP func129 qr0 trivial trivial) trivial))) (nP func150 qqg (nP func142 qtF ⟨⟨qk4 (jZ Go.Proofs.Tryz.func140 (by kernel_rfl)) λ _=>rfl,λ m h=>JE m h⟩,⟨⟨qte (jZ Go.Proofs.Tryz.func139 (by kernel_rfl)) λ _=>rfl,λ m h=>qaB m h⟩,trivial,trivial⟩,(nP func141 qnQ trivial trivial)⟩ (nS func149 qmo (nP func144 qgc trivial trivial) trivial)) (nP func154 qvA ⟨⟨qte (jZ Go.Proofs.Tryz.func152 (by kernel_rfl)) λ _=>rfl,λ m h=>Jc m h⟩,(nS func151 qlr trivial trivial),(nP func153 qkr trivial trivial)⟩ (nP func156 qwS (nP func155 quV trivial trivial) trivial)))) (nP func190 qqh (nP func164 qqC (nP func161 qnG (nS func159 qlm (nP func158 qyM trivial trivial) (nP func160 qnM trivial trivial)) (nP func163 qc3 (nP func162 qpv trivial trivial) trivial)) ⟨func186,(nS func184 JC (nP func165 qtz trivial trivial) (nS func185 qja trivial trivial)),⟨qbA (m:=0),(nS func187 qvU trivial trivial),trivial⟩⟩) (nP func223 Qc (nS func194 qlG (nS func192 qlO (nP func191 qlK trivial trivial) ⟨qc4 (m:=0),trivial,trivial⟩) (nS func214 qaf (nP func195 qmR trivial trivial) trivial)) (nP func227 Jt ⟨qbR (m:=0),(nP func224 qkk trivial trivial),⟨qbP (m:=0),trivial,trivial⟩⟩ (nP func241 J0 (nP func228 qk7 trivial trivial) trivial))))))
end Go.AmZ
namespace Go.GxZ
open Go.RowKit Go.ChangeShapes Go.WideShapes Go.ChangeAt
open Go.WideMaps Go.WideElems
section
variable {H:Type}{enc:TypeId×Value->H}{P:Program}
theorem qlh(f:laidOutB P=true){W i:World}(g:Below W.heap.size W i):∀{ts:List TypeId}{vs:List Value}{ds:List (DataW H)}{ps:List MemPlace},
  (∀t∈ts,P.readableRec t=true/\t<P.types.size)->DataW.TrodAll enc P W 0 (λ _=>true) true ts vs ds ps->(∀x∈ps,x.block<W.heap.size)->
  DataW.TrodAll enc P i 0 (λ b=>decide (b<W.heap.size)) true ts vs ds ps
 |[],[],[],_,_,h,_=>h
 |t::ts,v::vs,d::ds,_,e,⟨p,q,m,l,k⟩,a=>by
   subst k;refine⟨p,q,?_,?_,rfl⟩
   .exact Below.trod f (e t (wm ..)).1 (e t (wm ..)).2 m g λ x c=>a x (xV _ c)
   .exact qlh f g (λ t j=>e t (we _ j)) l λ x c=>a x (xQ _ c)
 |[],[],_::_,_,_,h,_|[],_::_,_,_,_,h,_|_::_,[],_,_,_,h,_|_::_,_::_,[],_,_,h,_=>h.elim
theorem qCt{f:Func}{s:ChangeSpec}{b g a:Bool}{W A:World}{d:Array Value}{ds k:List (DataW H)}{c:List MemPlace}{ts:List TypeId}{T:TypeId}
  (E:laidOutB P=true) (m:f.params.toList=ts) (C:ts.all (λ t=>P.readableRec t&&decide (t<P.types.size))=true) (u:s.vars=[])
  (n:f.resultTypes = #[T]) (G:P.underlying T=some .bool)
  (y:DataW.Whole enc P f.params.toList s.vars b W d.toList ds k c)
  (i:(s.fn H (ds++k)).results=[.lit (.bool true)]) (e:(s.fn H (ds++k)).args=ds) (l:(s.fn H (ds++k)).vars=[])
  (w:Below W.heap.size W A):s.post enc P f b g a false W d (.bool true) A:=by
 have j:=y;have o:=λ x B=>j.lt x B;obtain⟨p,q,I,z,rfl,F,D⟩:=y;rw[u]at z;have r:k=[]/\q=[]:=trodVars_none z;obtain⟨rfl,rfl⟩:=r;rw[wx]at *;refine⟨ds,[],p,[],p,[],?_,?_,?_,?_,?_,λ h=>by cases h⟩
 .exact j
 .rw[n,wx,i];exact trodAll_mk1 (shut_bool G _)
 .rw[wx,e];refine qlh E w (ts:=f.params.toList) ?_ I o;intro t v;rw[m]at v;have:=ww.1 C t v;simpa using this
 .rw[wx,l,u];rfl
 .exact w.frame _
end
end Go.GxZ
namespace Go.Proofs.YtinbdcelmgfniaaGreatDoor
theorem Tryz.own:ownKnob Tryz.prog.godebug=none:=by kernel_rfl
theorem Tryz.laidOut:laidOutB Tryz.prog=true:=by kernel_rfl
end Go.Proofs.YtinbdcelmgfniaaGreatDoor
namespace Go.AmZ
open Go Go.GxZ Go.RowKit
theorem qs8:∀(τ:Ty) (v:Val τ),jy τ (yl τ v)=some v:=by
 intro τ v;have h:=ji τ v;cases τ<;>exact h
def qun:List ATy->Bool
 |[]=>true
 |.val _::r=>qun r
 |.fn::_=>false
theorem qmv:∀(ts:List ATy) (a:qam ts),qun ts=true->qbL ts (jE ts a [])=some a/\qc5 (jE ts a [])=[]
 |[],_,_=>⟨rfl,rfl⟩
 |.val τ::r,a,h=>by
   let⟨d,c⟩:=qmv r a.2 h;constructor
   .show qi8 (jy τ) (qbL r) (yl τ a.1::jE r a.2 [])=_;simp only[qi8,qs8,d]
   .show qc5 (yl τ a.1::jE r a.2 [])=[];have:=(qaO (qs8 τ a.1)).2;cases b:yl τ a.1<;>first|exact c|exact absurd b (this _ _)
 |.fn::_,_,h=>by cases h
theorem law_calls{P:Program}{f:FuncId}{c:TC}(o:qI P f (Qz (yS c f))){ts:List ATy}{fn:qam ts->Option (qci [.bool])}(q:c.pf f []=some ⟨ts,[.bool],fn⟩)(m:qun ts=true){a:qam ts}(h:fn a=some true)
  {W:World}{d:List Value} (k:RepL (ghW W) (jE ts a []) d):Calls P f d.toArray W λ e w'=>e=.returned (.bool true)/\Below W.heap.size W w':=by
 let⟨u,t⟩:=qmv ts a m
 have n:yS c f (jE ts a [])=some (.v (.bool true)):=by
  unfold yS;rw[t,q];simp only;rw[u];simp only;rw[h];rfl
 have l:Qz (yS c f) emp (jE ts a [])=some (.v (.bool true),none):=by
  show(match yS c f (jE ts a [])with|some v=>some (v,none)|none=>none)=_;rw[n]
 have:=o.2 (ghW W) emp W (jE ts a []) d _ (qEz W) k l;refine Calls.mono this ?_;rintro e w' ⟨v,Γ',rfl,g,_,j,_⟩;have h:=qV j;subst h;refine⟨rfl,g.os,g.tape,g.output,g.size,λ b s=>g.block b s ?_⟩;rintro(⟨i,p,_⟩|⟨r,k,_⟩)
 .exact absurd p (wJ _)
 .exact absurd k (wJ _)
theorem qvG{Γ:Gh}{τ:Ty}{x:Val τ}{v:Value}(h:RepL Γ (qd τ x) v.cells.toList)(l:∀u∈v.cells.toList,u.oneCell'=true)(j:τ.agg=true->τ.size≠1)(e:τ.agg=false->∀cs,v≠.agg cs):Rep Γ (yl τ x) v:=by
 have c:=h.len;rw[zC]at c
 have agg:yl τ x=.agg (qd τ x)->τ.agg=true->Rep Γ (yl τ x) v:=by
  intro f g;rw[f];have d:=j g;cases v with
  |agg cs=>exact .agg _ _ h.len l h.rep
  |_=>exact absurd (show τ.size=1 by rw[<-c];rfl) d
 have one:∀{y:AV},qd τ x=[y]->yl τ x=y->τ.agg=false->Rep Γ (yl τ x) v:=by
  intro y f i g
  have k:v.cells = #[v]:=by
   cases v with
   |agg cs=>exact absurd rfl (e g cs)
   |_=>rfl
  rw[f,k]at h;rw[i];exact h.rep 0 y v rfl rfl
 cases τ with
 |term|pair a b|one a=>exact agg rfl rfl
 |_=>exact one rfl rfl rfl
open Go.ChangeShapes Go.WideShapes Go.ChangeAt Go.WideMaps Go.WideElems
theorem qEV{P:Program}{n:Nat}{τ:Ty}{t:TypeId}{W:World}{zb:Nat}{v:Value}(c:tyM P n τ t=true)(f:Value.okWide P W .any zb t v):τ.agg=false->∀cs,v≠.agg cs:=by
 intro g cs;cases n with
 |zero=>cases τ<;>simp[tyM]at c
 |succ n=>
 cases τ with
 |map a b=>simp[tyM]at c
 |int k=>
   simp only[tyM]at c;split at c
   .rename_i d;obtain⟨_,rfl⟩:=okWide_int d f;intro h;cases h
   .cases c
 |bool=>
   simp only[tyM]at c;split at c
   .rename_i d;obtain⟨_,rfl⟩:=okWide_bool d f;intro h;cases h
   .cases c
 |str=>
   simp only[tyM]at c;split at c
   .rename_i d;obtain⟨_,rfl⟩:=okWide_string d f;intro h;cases h
   .cases c
 |list a=>
   simp only[tyM]at c;split at c
   .rename_i e d;obtain⟨_,_,_,rfl⟩:=okWide_slice d f;intro h;cases h
   .cases c
 |_=>cases g
theorem arg_val{H:Type}{enc:TypeId×Value->H}{P:Program}{W:World}{n:Nat}{τ:Ty}{t:TypeId}{v:Value}{d:DataW H}{ps:List MemPlace}{zb:Nat}(b:tyM P n τ t=true)(f:τ.agg=true->τ.size≠1)(e:Value.okWide P W .any zb t v)
  (h:DataW.Trod enc P W 0 (λ _=>true) true t v d ps) (c:∀k∈d.weights P t,k<=reachBytes):∃x:Val τ,Rep (ghW W) (yl τ x) v/\qgY τ x:=by
 let⟨a,g⟩:=h;let⟨x,l,j,i⟩:=qDE a n τ t v.cells.toList (d,ps) b g c;exact⟨x,qvG l j f (qEV b e),i⟩
end Go.AmZ
