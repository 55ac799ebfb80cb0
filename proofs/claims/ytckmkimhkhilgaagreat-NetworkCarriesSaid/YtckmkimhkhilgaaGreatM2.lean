/- Part 2 of what the proofs stand on: plain functions of the program, and that they are its functions. -/
import Derived.Test.YtckmkimhkhilgaaGreatM1
set_option linter.unusedVariables false
set_option linter.unusedSimpArgs false
noncomputable section
namespace Go.AmZ
open Go Go.RowKit
theorem qmA(lo:Nat->Bool):∀ l:List Oper,JZ lo l<=l.length
 | []=>wb _
 | o::r=>by
   unfold JZ;split
   ·exact we _
   ·simpa using qmA lo r
theorem qrf(o:Oper):(jg o).dst=o.dst:=by unfold jg;split<;>rfl
theorem qEx(o:Oper):(jg o).guard=o.guard:=by unfold jg;split<;>rfl
theorem qts(o:Oper):jQ (jg o)=jQ o:=by unfold jg;split<;>rfl
theorem qt2{lo:Nat->Bool}{l:List Oper}:(zi lo l).length=JZ lo l:=by simp[zi,kL (qmA lo l)]
theorem qiL{lo:Nat->Bool}{l:List Oper}{j:Nat}(a:j<JZ lo l):(zi lo l)[j]?=l[j]?.map jg:=by
 grind [zi]
theorem qCX{lo:Nat->Bool}{l:List Oper}{j:Nat}{o:Oper}(h:(zi lo l)[j]?=some o):j<JZ lo l/\∃ q,l[j]?=some q/\jg q=o:=by
 have a:j<JZ lo l:=by rw[<- qt2 (lo:=lo) (l:=l)];exact getElem?_lt h
 rw[qiL a]at h;grind
theorem qpd{lo:Nat->Bool}{ops:Array Oper}{tm:List AV}{o:Oper}{b:Bool}(h:yL ⟨zi lo ops.toList⟩ tm (jg o)=some b):yL ops tm o=some b:=by
 unfold yL at h |-
 rw[qEx]at h;cases d:o.guard with
 | none=>rw[d]at h;exact h
 | some p =>
   obtain⟨j,a⟩:=p;rw[d]at h;simp only at h |-
   cases c:(zi lo ops.toList)[j]? with
   | none =>
     grind
   | some q =>
     obtain⟨k,e,g,f⟩:=qCX c;have e1:(⟨zi lo ops.toList⟩:Array Oper)[j]?=some q:=by simpa using c
     have i:ops[j]?=some e:=by simpa using g
     rw[e1]at h;rw[i];subst f;simp only[Option.bind_some,qrf]at h |-
     exact h
section
variable {P:Program} {C:Cfg} {Γ : Gh} {σ : St} {w:World} {ops:Array Oper} {ex:Je} {l:List (AV × Option St)} {s0:S}
theorem qwO{a:Array Bool}(h:a.toList.countP (λ b => !b)=0):∀ i,i<a.size->a.getD i false=true:=by
 intro i c;rw[List.countP_eq_zero]at h;have:=h a[i] (by simp);simp only[wV,Bool.not_eq_false]at this;rw[wK,Array.getElem?_eq_getElem c];simpa using this
theorem qFm(hC:yx P C)(hx:qdV P ex){G:(Nat->Bool)->S}{Good:(Nat->Bool)->Prop}(z:∀ L j,Good L->Good (λ i=>decide (i=j)||L i))(H:∀(j:Nat) (o:Oper),ops[j]?=some o->∀ e∈jQ o,e<j)(I:∀ L,(∀ i,i<ops.size->L i=true)->G L=G qv)
  (t:∀(L:Nat->Bool) (j:Nat) (o:Oper),qeb ops L->Good L->ops[j]?=some o->L j=false->(∀ e∈jQ o,L e=true)->∃ y,qb8 C ex ops o (G L) y/\G (λ i=>decide (i=j)||L i)=yF (G L) o y) {Q:Exit->Act->World->Prop}:∀(d:Nat) (c:Array Bool) (Γ : Gh) (w:World) (a:Act),c.size=ops.size->c.toList.countP (λ b => !b)=d->qeb ops (λ i=>c.getD i false)->Good (λ i=>c.getD i false) ->
  Inv Γ (G (λ i=>c.getD i false)).σ w->zw Γ (G (λ i=>c.getD i false)).tm a ->
  (∀ Γ' w' a',Ext Γ w Γ' w'->Inv Γ' (G qv).σ w'->zw Γ' (G qv).tm a'->qW (G (λ i=>c.getD i false)).σ (G qv).σ -> a'.defers=a.defers->Q .normal a' w') ->
  wpAny P .any ops Q d c a w:=by
 intro d
 induction d with
 | zero =>
   intro c Γ w a g p M l D s V;have r:=qwO p
   have n:Region.ready .any ops c=[]:=by
    apply List.eq_nil_iff_forall_not_mem.2;intro j hj;obtain⟨h1,o,v,_⟩:=mem_ready.1 hj;grind
   have hF:G (λ i=>c.getD i false)=G qv:=I _ λ i D=>r i (by rw[g];exact D);rw[hF]at D s;exact⟨n,V Γ w a (.refl _ _) D s (by rw[hF];exact .refl _) rfl⟩
 | succ d ih =>
   intro c Γ w a g p M l D s V;refine⟨λ n=>?_,λ j hj=>?_⟩
   ·exfalso
    have aa:∃ i,i<c.size/\c.getD i false=false:=by
     apply kZ;intro X
     have:c.toList.countP (λ b => !b)=0:=by
      rw[List.countP_eq_zero];intro b hb;obtain⟨i,f,rfl⟩:=List.getElem_of_mem hb;intro ad;refine X ⟨i,by simpa using f,?_⟩;rw[wK,Array.getElem?_eq_getElem (by simpa using f)];simpa using ad
     rw[p]at this;cases this
    obtain⟨i0,h0,h1⟩:=aa
    have O:∀ i,i<c.size->c.getD i false=false->False:=by
     intro i
     induction i using Nat.strongRecOn with
     | _ i R =>
       intro f hf;obtain⟨o,v⟩:=Qa (ops:=ops) (k:=i) (by rw[<- g];exact f)
       have hr:i∈Region.ready .any ops c:=by
        refine mem_ready.2 ⟨?_,o,v,λ e J hb=>?_⟩
        ·rw[wK,Array.getElem?_eq_getElem f]at hf |-
         simpa using hf
        ·have ab:e.on∈jQ o:=ww.2 ⟨e,kK.2 ⟨by simpa using J,hb⟩,rfl⟩;have Y:=H i o v e.on ab;cases hc:c.getD e.on false with
         | true=>rfl
         | false=>exact(R e.on Y (by omega) hc).elim
       rw[n]at hr;cases hr
    exact O i0 h0 h1
   ·obtain⟨h1,o,v,r⟩:=mem_ready.1 hj;have A:j<ops.size:=(Array.getElem?_eq_some_iff.1 v).1
    have hL:c.getD j false=false:=by
     grind
    have hp:∀ e∈jQ o,c.getD e false=true := λ e J=>by
     obtain⟨ed,af,rfl⟩:=ww.1 J;grind
    obtain⟨y,hy,ae⟩:=t _ j o M l v hL hp
    have m:(λ i=>(c.setIfInBounds j true).getD i false) = λ i=>decide (i=j)||c.getD i false:=by
     funext i;by_cases B:i=j
     ·subst B;rw[wK,Array.getElem?_setIfInBounds_self_of_lt (by rw[g];exact A)];simp
     ·rw[getD_set_ne false (xK B)];simp[B]
    have F:(c.setIfInBounds j true).size=ops.size:=by rw[xM,g]
    have K:(c.setIfInBounds j true).toList.countP (λ b => !b)=d:=by
     have Z:j<c.toList.length:=by simp[g,A]
     rw[xq,List.countP_set (h:=Z),p]
     have:c.toList[j]=false:=by
      rw[wK,Array.getElem?_eq_getElem (by rw[g];exact A)]at hL;simpa using hL
     rw[this];simp
    have ac:qeb ops (λ i=>(c.setIfInBounds j true).getD i false):=by
     rw[m];intro i q U f e J;simp only[kh,decide_eq_true_eq]at f |-
     rcases f with rfl | f
     ·grind
     ·exact .inr (M i q U f e J)
    unfold wpOp;rw[v];simp only
    have next:∀ Γ' w' u,Ext Γ w Γ' w'->Inv Γ' (turn (G (λ i=>c.getD i false)).σ y.2) w'->Rep Γ' y.1 u->qW (G (λ i=>c.getD i false)).σ (turn (G (λ i=>c.getD i false)).σ y.2) ->
      wpAny P .any ops Q d (c.setIfInBounds j true) (a.put o.dst u) w':=by
     intro Γ' w' u e1 e2 e3 e4;have E:G (λ i=>(c.setIfInBounds j true).getD i false)=yF (G (λ i=>c.getD i false)) o y:=by rw[m];exact ae
     refine ih (c.setIfInBounds j true) Γ' w' (a.put o.dst u) F K ac (by rw[m];exact z _ j l) ?_ ?_ ?_
     ·rw[E];exact e2
     ·rw[E];exact zw.put (waI e1.le s) o.dst e3
     ·intro N w2 a2 g1 g2 g3 g4 g5;rw[E]at g4;exact V N w2 a2 (e1.trans g1) g2 g3 (e4.trans g4) (by rw[g5];cases M:o.dst<;>rfl)
    rcases hy with⟨T,W⟩ | ⟨T,rfl⟩
    ·rw[if_pos (qiV s T)];left;refine qHx hC hx D s W _ _ ?_;grind
    ·rw[if_neg (by rw[qiV s T];exact k9)];exact next Γ w undef (.refl _ _) D (.tup [] [] rfl λ i x u h=>by simp at h) (.refl _)
theorem qF8(p:yx P C)(n:qdV P ex){Good:(Nat->Bool)->Prop}(g:∀ L j,Good L->Good (λ i=>decide (i=j)||L i))(k:∀(j:Nat) (o:Oper),ops[j]?=some o->∀ e∈jQ o,e<j)
  (f:∀(L:Nat->Bool) (j:Nat) (o:Oper),qeb ops L->Good L->ops[j]?=some o->L j=false->(∀ e∈jQ o,L e=true)->∃ y,qb8 C ex ops o (F ops.toList l s0 L ops.size) y/\F ops.toList l s0 (λ i=>decide (i=j)||L i) ops.size=yF (F ops.toList l s0 L ops.size) o y) {Q:Exit->Act->World->Prop}:∀(d:Nat) (c:Array Bool) (Γ : Gh) (w:World) (a:Act),c.size=ops.size->c.toList.countP (λ b => !b)=d->qeb ops (λ i=>c.getD i false)->Good (λ i=>c.getD i false) ->
  Inv Γ (F ops.toList l s0 (λ i=>c.getD i false) ops.size).σ w->zw Γ (F ops.toList l s0 (λ i=>c.getD i false) ops.size).tm a ->
  (∀ Γ' w' m,Ext Γ w Γ' w'->Inv Γ' (F ops.toList l s0 qv ops.size).σ w'->zw Γ' (F ops.toList l s0 qv ops.size).tm m->qW (F ops.toList l s0 (λ i=>c.getD i false) ops.size).σ (F ops.toList l s0 qv ops.size).σ -> m.defers=a.defers->Q .normal m w') ->
  wpAny P .any ops Q d c a w :=
 qFm (G := λ L=>F ops.toList l s0 L ops.size) p n g k (λ _ h=>qAY _ h) f
theorem qyN{lo:Nat->Bool}(h:qjM lo ops.toList=true) :
  (∀(j:Nat) (o:Oper),ops[j]?=some o->∀ e∈jQ o,e<j) /\
  (∀(j:Nat) (o:Oper),ops[j]?=some o->JZ lo ops.toList<=j->∀ i,i<j->((JM ops.toList []).getD j 0).testBit i=true\/(i<JZ lo ops.toList/\∃ q,ops[i]?=some q/\qeN ops.toList q=true)) /\
  ∀(j:Nat) (o:Oper),ops[j]?=some o->yu o=true->o.guard=none/\∃ d,o.dst=some d/\∀(k:Nat) (q:Oper),ops[k]?=some q->k≠j->q.dst≠some d:=by
 have a:∀(i:Nat) (o:Oper),ops[i]?=some o->(o,i)∈ops.toList.zipIdx := λ i o c=>by
  grind
 simp only[qjM,wu,wd,kh,decide_eq_true_eq,wV]at h;refine⟨λ j o c=>(h _ (a j o c)).1,λ j o c y i s=>?_,λ j o c t=>?_⟩
 ·rcases(h _ (a j o c)).2.1 with b | b
  ·rw[Nat.blt_eq]at b;omega
  ·rcases b i (kS.2 s)with b | ⟨l,f⟩
   ·exact .inl b
   ·rw[Nat.blt_eq]at l;grind
 ·rcases(h _ (a j o c)).2.2 with b | ⟨l,f⟩
  ·rw[t]at b;cases b
  ·refine⟨Option.isNone_iff_eq_none.1 l,?_⟩;simp only at f;split at f
   ·rename_i d m;refine⟨d,m,λ k q n p g=>?_⟩;have r:=wk f;obtain⟨x,w⟩:=xW.1 r;have v:(o,j)∈qd1 ops.toList d:=kK.2 ⟨a j o c,by simp[qst,m]⟩;have u:(q,k)∈qd1 ops.toList d:=kK.2 ⟨a k q n,by simp[qst,g]⟩;grind
   ·cases f
theorem qiJ{o:Oper}(a:yu o=true):∃ e,o.op = .alloc e:=by
 grind [yu]
structure qmb (P:Program) (Γ : Gh) (w0 w:World) (ops:Array Oper) (L:Nat->Prop) (a:Act) (ad:Nat->Nat):Prop where
 blk:∀ k o e d,L k->ops[k]?=some o->o.op = .alloc e->jG P e=some d->d.zero.all zt=true ->
  w0.heap.size<=ad k/\w.heap[ad k]?=some (.cells d.zero.toArray e (0,0))/\¬ QI Γ (ad k)/\∀ i,Γ.mem (ad k) i=none
 tmp:∀ k o e d u,L k->ops[k]?=some o->o.op = .alloc e->o.dst=some d->a.tmps[d]?=some u->u = .pointer (some ⟨ad k,0,none⟩)
 inj:∀ k k' o o',L k->L k'->ops[k]?=some o->ops[k']?=some o'->yu o=true->yu o'=true->ad k=ad k'->k=k'
theorem qIH{a:Act}{d:Option Tmp}{u:Value}{t:Tmp}(h:d≠some t):(a.put d u).tmps[t]?=a.tmps[t]?:=by
 cases d with
 | none=>rfl
 | some d =>
   show(a.tmps.setIfInBounds d u)[t]?=_;grind
theorem qmb.step{L:Nat->Prop}{w0 w':World}{Γ':Gh}{a:Act}{ad:Nat->Nat}{d:Option Tmp}{u:Value}(h:qmb P Γ w0 w ops L a ad)(p:Ext Γ w Γ' w')
  (r:∀ k o t,L k->ops[k]?=some o->yu o=true->o.dst=some t->d≠some t):qmb P Γ' w0 w' ops L (a.put d u) ad where
 blk := λ k o e d m l j g f=>by
  obtain⟨x,q,g3,s⟩:=h.blk k o e d m l j g f;have n:ad k<w.heap.size:=(Array.getElem?_eq_some_iff.1 q).1;refine⟨x,by rw[p.block _ n g3];exact q,λ c=>?_,λ i=>?_⟩
  ·rcases p.own _ c with c | c
   ·exact g3 c
   ·omega
  ·cases b : Γ'.mem (ad k) i with
   | none=>rfl
   | some v =>
     rcases p.memg _ _ _ b with b | b | b
     ·rw[s]at b;cases b
     ·exact absurd b g3
     ·omega
 tmp := λ k o e t v m l j g f=>by
  rw[qIH (r k o t m l (by simp[yu,j]) g)]at f;exact h.tmp k o e t v m l j g f
 inj:=h.inj
theorem qH5{o:Oper}{ρ : Operand->Value}{e:TypeId}{d:TD}(a:o.op = .alloc e)(b:jG P e=some d)(w:World):(execOp ρ o).run P w = .ok (.value (.pointer (some ⟨w.heap.size,0,none⟩))) (w.alloc (.cells d.zero.toArray e)):=by
 obtain⟨i,u,z,g,m,f,l,k,j,c,h⟩:=waE b;rw[<- c];simp[execOp,a,Instr.alloc,zeroValue,typeInfo,g,f,newVar,qga]
theorem Inv.free(a:Inv Γ σ w){b:Nat}(f:w.heap.size<=b):¬ QI Γ b/\∀ i,Γ.mem b i=none:=by
 refine⟨?_,λ i=>?_⟩
 ·rintro(⟨i,c,d⟩ | ⟨r,c,d,g⟩)
  ·have:=a.box_lt c;omega
  ·have:=a.cur_lt c d;omega
 ·cases e : Γ.mem b i with
  | none=>rfl
  | some u=>have:=a.mem_lt e;omega
theorem qPF(hC:yx P C)(hx:qdV P ex)(hT:qdY C ex ⟨zi C.lo ops.toList⟩ l s0)(hk:qb9 C.lo s0.tm ⟨zi C.lo ops.toList⟩=true)(aa:qjM C.lo ops.toList=true)
  (hz:∀ k o e,k<JZ C.lo ops.toList->ops[k]?=some o->o.op = .alloc e->∃ d,jG P e=some d/\d.zero.all zt=true) {w0:World} {Q:Exit->Act->World->Prop} {n:Nat} (hn:n=JZ C.lo ops.toList) :
  ∀(g:Nat) (c:Array Bool) (Γ : Gh) (w:World) (a:Act) (ad:Nat->Nat),c.size=ops.size->c.toList.countP (λ b => !b)=g->(∀ i,n<=i->c.getD i false=false)->qeb ops (λ i=>c.getD i false) ->
  Inv Γ (F (zi C.lo ops.toList) l s0 (λ i=>c.getD i false) n).σ w->zw Γ (F (zi C.lo ops.toList) l s0 (λ i=>c.getD i false) n).tm a->qmb P Γ w0 w ops (λ i=>c.getD i false=true) a ad->w0.heap.size<=w.heap.size ->
  (∀ s f Γ' w' a' L,f.size=ops.size->f.toList.countP (λ b => !b)=s->(∀ i,n<=i->f.getD i false=false)->(∀(i:Nat) (o:Oper),i<n->ops[i]?=some o->qeN ops.toList o=false->f.getD i false=true)->qeb ops (λ i=>f.getD i false)->Ext Γ w Γ' w'->Inv Γ' (F (zi C.lo ops.toList) l s0 (λ i=>f.getD i false) n).σ w'->zw Γ' (F (zi C.lo ops.toList) l s0 (λ i=>f.getD i false) n).tm a'->qmb P Γ' w0 w' ops (λ i=>f.getD i false=true) a' L ->
   qW (F (zi C.lo ops.toList) l s0 (λ i=>c.getD i false) n).σ (F (zi C.lo ops.toList) l s0 (λ i=>f.getD i false) n).σ -> a'.defers=a.defers->wpAny P .any ops Q s f a' w') ->
  wpAny P .any ops Q g c a w:=by
 obtain⟨aM,aN,ao⟩:=qyN aa
 have ak:∀(j:Nat) (o:Oper),j<n->ops[j]?=some o->(⟨zi C.lo ops.toList⟩:Array Oper)[j]?=some (jg o) := λ j o hj A=>by
  have:(zi C.lo ops.toList)[j]?=some (jg o):=by
   rw[qiL (by omega)];grind
  simpa using this
 have ai:(⟨zi C.lo ops.toList⟩:Array Oper).size=n:=by show(zi C.lo ops.toList).length=n;rw[qt2,hn]
 have aY:n<=ops.size:=by rw[hn];simpa using qmA C.lo ops.toList
 intro g
 induction g with
 | zero =>
   intro c Γ w a ad z K N hd hi S X V hq;have B:=qwO K;exact hq 0 c Γ w a ad z K N (λ i o m _ _=>B i (by omega)) hd (.refl _ _) hi S X (.refl _) rfl
 | succ g ih =>
   intro c Γ w a ad z K N hd hi S X V hq;by_cases B:∀(i:Nat) (o:Oper),i<n->ops[i]?=some o->qeN ops.toList o=false->c.getD i false=true
   ·exact hq (g+1) c Γ w a ad z K N B hd (.refl _ _) hi S X (.refl _) rfl
   have aT:qeb ⟨zi C.lo ops.toList⟩ (λ i=>c.getD i false):=by
    intro i o A hL e M;obtain⟨m,q,h1,rfl⟩:=qCX (lo:=C.lo) (l:=ops.toList) (j:=i) (o:=o) (by simpa using A);rw[qts]at M;exact hd i q (by simpa using h1) hL e M
   have aw:∃(U:Nat) (o0:Oper),U<n/\ops[U]?=some o0/\qeN ops.toList o0=false/\c.getD U false=false:=by
    apply kZ;intro al;refine B λ i o m aK ar=>?_;cases hc:c.getD i false with
    | true=>rfl
    | false=>exact(al ⟨i,o,m,aK,ar,hc⟩).elim
   refine⟨λ am=>?_,λ j hj=>?_⟩
   ·exfalso;obtain⟨U,o0,R,_,_,h1⟩:=aw
    have aC:∀ i,i<n->c.getD i false=false->False:=by
     intro i
     induction i using Nat.strongRecOn with
     | _ i aD =>
       intro m hf;obtain⟨o,A⟩:=Qa (ops:=ops) (k:=i) (by omega)
       have hr:i∈Region.ready .any ops c:=by
        refine mem_ready.2 ⟨?_,o,A,λ e M hb=>?_⟩
        ·rw[wK,Array.getElem?_eq_getElem (by omega)]at hf |-
         simpa using hf
        ·have aR:e.on∈jQ o:=ww.2 ⟨e,kK.2 ⟨by simpa using M,hb⟩,rfl⟩;have an:=aM i o A e.on aR;cases hc:c.getD e.on false with
         | true=>rfl
         | false=>exact(aD e.on an (by omega) hc).elim
       rw[am]at hr;cases hr
    exact aC U R h1
   ·obtain⟨h1,o,A,az⟩:=mem_ready.1 hj;have ac:j<ops.size:=(Array.getElem?_eq_some_iff.1 A).1
    have hL:c.getD j false=false:=by
     grind
    have hp:∀ e∈jQ o,c.getD e false=true := λ e M=>by
     obtain⟨ed,a6,rfl⟩:=ww.1 M;grind
    have aO:j<n:=by
     apply kZ;intro al;obtain⟨U,o0,R,a3,a5,h2⟩:=aw;rcases aN j o A (by omega) U (by omega)with hb | ⟨_,q,E,ar⟩
     ·have:=qpZ hd j o A hp hb;rw[h2]at this;cases this
     ·grind
    have aJ:∀ e∈jQ (jg o),c.getD e false=true:=by rw[qts];exact hp
    obtain⟨y,hy,ax⟩:=qtN hT hk aT (ak j o aO A) hL aJ;rw[ai]at hy ax
    have J:(λ i=>(c.setIfInBounds j true).getD i false) = λ i=>decide (i=j)||c.getD i false:=by
     funext i;by_cases ae:i=j
     ·subst ae;rw[wK,Array.getElem?_setIfInBounds_self_of_lt (by rw[z];exact ac)];simp
     ·rw[getD_set_ne false (xK ae)];simp[ae]
    have aj:(c.setIfInBounds j true).size=ops.size:=by rw[xM,z]
    have av:(c.setIfInBounds j true).toList.countP (λ b => !b)=g:=by
     have aP:j<c.toList.length:=by simp[z,ac]
     rw[xq,List.countP_set (h:=aP),K]
     have:c.toList[j]=false:=by
      rw[wK,Array.getElem?_eq_getElem (by rw[z];exact ac)]at hL;simpa using hL
     rw[this];simp
    have ap:∀ i,n<=i->(c.setIfInBounds j true).getD i false=false := λ i m=>by
     rw[getD_set_ne false (by omega)];exact N i m
    have aU:qeb ops (λ i=>(c.setIfInBounds j true).getD i false):=by
     rw[J];intro i q E m e M;simp only[kh,decide_eq_true_eq]at m |-
     rcases m with rfl | m
     ·grind
     ·exact .inr (hd i q E m e M)
    have yq:∀ k,(c.setIfInBounds j true).getD k false=true->k=j\/c.getD k false=true := λ k ab=>by
     have:(λ i=>(c.setIfInBounds j true).getD i false) k=true:=ab;rw[J]at this;simpa using this
    have af:F (zi C.lo ops.toList) l s0 (λ i=>(c.setIfInBounds j true).getD i false) n=yF (F (zi C.lo ops.toList) l s0 (λ i=>c.getD i false) n) (jg o) y:=by rw[J];exact ax
    unfold wpOp;rw[A];simp only
    have next:∀ Γ' w' u L,Ext Γ w Γ' w'->Inv Γ' (turn (F (zi C.lo ops.toList) l s0 (λ i=>c.getD i false) n).σ y.2) w'->Rep Γ' y.1 u->qW (F (zi C.lo ops.toList) l s0 (λ i=>c.getD i false) n).σ (turn (F (zi C.lo ops.toList) l s0 (λ i=>c.getD i false) n).σ y.2) ->
      qmb P Γ' w0 w' ops (λ i=>(c.setIfInBounds j true).getD i false=true) (a.put o.dst u) L->wpAny P .any ops Q g (c.setIfInBounds j true) (a.put o.dst u) w':=by
     intro Γ' w' u L e1 e2 e3 e4 e5;refine ih (c.setIfInBounds j true) Γ' w' (a.put o.dst u) L aj av ap aU ?_ ?_ e5 (wD V e1.size) ?_
     ·rw[af];exact e2
     ·rw[af];show RepL Γ' (qcr _ (jg o).dst y.1) _;rw[qrf];exact zw.put (waI e1.le S) o.dst e3
     ·intro s f aA w2 a2 aX g0 aW ay q1 q2 I r g3 aV D H;rw[af]at D;exact hq s f aA w2 a2 aX g0 aW ay q1 q2 (e1.trans I) r g3 aV (e4.trans D) (by rw[H];cases hd:o.dst<;>rfl)
    cases O:yu o with
    | false =>
      have aS:jg o=o:=by unfold jg;rw[O]
      have ag:∀ Γ' w' u,Ext Γ w Γ' w'->qmb P Γ' w0 w' ops (λ i=>(c.setIfInBounds j true).getD i false=true) (a.put o.dst u) ad := λ Γ' w' u M=>by
       have R:=X.step (d:=o.dst) (u:=u) M λ k q t ab E Y aI=>by
        obtain⟨_,d,a8,a7⟩:=ao k q E Y;grind
       have conv:∀ k q,(c.setIfInBounds j true).getD k false=true->ops[k]?=some q->yu q=true->c.getD k false=true := λ k q h2 E Y=>by
        grind
       exact⟨λ k q e d I r g3=>R.blk k q e d (conv k q I r (by simp[yu,g3])) r g3,λ k q e d v I r g3=>R.tmp k q e d v (conv k q I r (by simp[yu,g3])) r g3,λ k k' q q' I r g3 D H g6=>R.inj k k' q q' (conv k q I g3 H) (conv k' q' r D g6) g3 D H g6⟩
      rcases hy with⟨W,G⟩ | ⟨W,rfl⟩
      ·rw[if_pos (qiV S (qpd W))];left;rw[aS]at G;refine qHx hC hx hi S G _ _ ?_;grind
      ·rw[if_neg (by rw[qiV S (qpd W)];exact k9)];exact next Γ w undef ad (.refl _ _) hi (.tup [] [] rfl λ i x u h=>by simp at h) (.refl _) (ag Γ w undef (.refl _ _))
    | true =>
      obtain⟨e,Z⟩:=qiJ O;obtain⟨aQ,d,aZ,a1⟩:=ao j o A O
      have aE:y=(.dead,none):=by
       rcases hy with⟨W,G⟩ | ⟨W,rfl⟩
       ·have:(jg o).op = .move (.global 0):=by unfold jg;rw[O]
        rw[this]at G;simp only[opA,qc,aev,wz]at G;exact G.symm
       ·have W:=qpd W;grind [yL]
      subst aE;have aF:yL ops (F (zi C.lo ops.toList) l s0 (λ i=>c.getD i false) n).tm o=some true:=by unfold yL;rw[aQ]
      rw[if_pos (qiV S aF)];left;obtain⟨td,ah,a0⟩:=hz j o e (by omega) A Z;have hb:Below w.heap.size w (w.alloc (.cells td.zero.toArray e)):=(Below.refl _ _).alloc (wb _) _;unfold Oper.wp;rw[qH5 Z ah];refine next Γ _ (.pointer (some ⟨w.heap.size,0,none⟩)) (λ k=>if k=j then w.heap.size else ad k) (qg3 hb (wb _)) (hi.later hb) (.dead _) (.refl _) ?_
      have R:=X.step (d:=o.dst) (u := .pointer (some ⟨w.heap.size,0,none⟩)) (qg3 (Γ := Γ) hb (wb _)) λ k q t ab E Y aI=>by
       grind
      have aq:=hi.free (wb w.heap.size);have conv:∀ k,(c.setIfInBounds j true).getD k false=true->k≠j->c.getD k false=true := λ k h2 aL=>(yq k h2).resolve_left aL
      have an:∀ k q,c.getD k false=true->ops[k]?=some q->yu q=true->ad k<w.heap.size := λ k q h2 h3 h4=>by
       obtain⟨e',au⟩:=qiJ h4
       have a4:k<n:=by
        grind
       obtain⟨aB,aH,aG⟩:=hz k q e' (by omega) h3 au;exact(Array.getElem?_eq_some_iff.1 (X.blk k q e' aB h2 h3 au aH aG).2.1).1
      refine⟨λ k q e' d' I r g3 D H=>?_,λ k q e' d' v I r g3 D H=>?_,λ k k' q q' I r g3 D H g6 g7=>?_⟩
      ·by_cases p:k=j
       ·subst p;rw[A]at r;cases r;rw[Z]at g3;cases g3;rw[ah]at D;cases D;simp only[if_true];exact⟨V,heap_alloc_new w _,aq.1,aq.2⟩
       ·simp only[if_neg p];exact R.blk k q e' d' (conv k I p) r g3 D H
      ·by_cases p:k=j
       ·subst p;rw[A]at r;cases r;simp only[if_true];rw[D]at H;have H:(a.tmps.setIfInBounds d' (.pointer (some ⟨w.heap.size,0,none⟩)))[d']?=some v:=H;grind
       ·simp only[if_neg p];exact R.tmp k q e' d' v (conv k I p) r g3 D H
      ·by_cases p:k=j
       ·grind
       ·by_cases T:k'=j
        ·grind
        ·simp only[if_neg p,if_neg T]at g7;exact X.inj k k' q q' (conv k I p) (conv k' r T) g3 D H g6 g7
end
end Go.AmZ
namespace Go.AmZ
open Go Go.RowKit
section
variable {P:Program} {C:Cfg} {Γ : Gh} {σ : St} {w:World} {ops:Array Oper} {ex:Je} {l:List (AV × Option St)} {s0:S}
theorem qID(h:Inv Γ σ w){cs:List AV}{vs:List Value}{b:Nat}{e:TypeId}(E:w.heap[b]?=some (.cells vs.toArray e (0,0)))(m:¬ QI Γ b)(x:∀ i,Γ.mem b i=none)(B:RepL Γ cs vs)(F:∀ u∈vs,u.oneCell'=true) :
  ∃ Γ',Le Γ Γ'/\(∀ c,QI Γ' c->QI Γ c\/c=b) /\ Γ'.mem = Γ.mem/\Inv Γ' { σ with bx := σ.bx++[cs] } w/\Rep Γ' (.ptr σ.bx.length 0) (.pointer (some ⟨b,0,none⟩)):=by
 let Γ':Gh:={ Γ with nb := Γ.nb+1,β := λ i=>if i = Γ.nb then b else Γ.β i }
 have g:∀ i,i < Γ.nb -> Γ'.β i = Γ.β i := λ i f=>if_neg (by omega);have a : Γ'.β Γ.nb=b:=if_pos rfl;have k:Le Γ Γ':=⟨λ _ _ _ h=>h,kr _,g,wb _,λ _ _=>rfl,λ _ _=>wb _,λ _ _ _=>⟨rfl,rfl,rfl⟩⟩
 refine⟨Γ',k,?_,rfl,⟨?_,h.nr,h.mem,?_,?_,?_,?_,h.apart⟩,?_⟩
 ·rintro c (⟨i,f,rfl⟩ | q)
  ·have f:i < Γ.nb+1:=f;by_cases d:i = Γ.nb
   ·right;rw[d,a]
   ·left;left;exact⟨i,by omega,(g i (by omega)).symm⟩
  ·exact .inl (.inr q)
 ·show Γ.nb+1=(σ.bx++[cs]).length;simp[h.nb]
 ·intro i cs' f;rw[List.getElem?_append]at f;split at f
  ·rename_i s;exact(h.box i cs' f).lift (by rw[h.nb];exact s) k λ o q=>q
  ·rename_i s
   have z:i - σ.bx.length=0:=by
    have:=getElem?_lt f;simp at this;omega
   rw[z]at f;simp at f;subst f;have y:i = Γ.nb:=by rw[h.nb];omega
   refine⟨vs.toArray,e,?_,by simpa using B.mono k,by simpa using F⟩;rw[y,a];exact E
 ·intro i j f D l;have v:i < Γ.nb+1:=f;have C:j < Γ.nb+1:=D;by_cases d:i = Γ.nb<;>by_cases t:j = Γ.nb
  ·rw[d,t]
  ·rw[d,a,g j (by omega)]at l;exact(m (.inl ⟨j,by omega,l.symm⟩)).elim
  ·rw[t,a,g i (by omega)]at l;exact(m (.inl ⟨i,by omega,l⟩)).elim
  ·rw[g i (by omega),g j (by omega)]at l;exact h.inj i j (by omega) (by omega) l
 ·intro i f o;have v:i < Γ.nb+1:=f;by_cases d:i = Γ.nb
  ·rw[d,a];exact x o
  ·rw[g i (by omega)];exact h.boxmem i (by omega) o
 ·intro r R p;have n:r < Γ.nr:=by rw[h.nr];exact getElem?_lt p
  refine(h.row r R p).lift n k rfl (λ _ G q=>q) (λ _ _ x=>x) λ A i f H l=>?_;have v:i < Γ.nb+1:=f;have d:i = Γ.nb:=by omega
  rw[d,a]at l;exact m (.inr ⟨r,n,A,l.symm⟩)
 ·rw[<- a,h.nb];exact .ptr _ _ (by show σ.bx.length < Γ.nb+1;rw[h.nb];omega)
theorem qnn{lo:Nat->Bool}:∀{l:List Oper} {k:Nat} {o:Oper},k<JZ lo l->l[k]?=some o->yt lo o.op=false
 | [],k,o,h,_=>by simp[JZ]at h
 | q::l,k,o,h,a=>by
   unfold JZ at h;split at h
   ·omega
   ·rename_i b;cases k with
    | zero=>cases a;exact b
    | succ k=>exact qnn (l:=l) (k:=k) (by omega) (by simpa using a)
def idA(nb:Nat)(ops:Array Oper)(k:Nat):Nat:=nb+(ops.toList.take k).countP yu
theorem qpz{nb k:Nat}{o:Oper}(a:ops[k]?=some o):idA nb ops (k+1)=idA nb ops k+(if yu o then 1 else 0):=by
 unfold idA;have b:k<ops.toList.length:=by have:=(Array.getElem?_eq_some_iff.1 a).1;simpa using this
 have:ops.toList.take (k+1)=ops.toList.take k++[o]:=by
  rw[kw,show ops.toList[k]?=some o by simpa using a];rfl
 rw[this,List.countP_append,List.countP_singleton];omega
def qGz(ops:Array Oper)(P:Nat->Prop)(nb:Nat)(tm a:List AV):Prop :=
 a.length=tm.length/\∀ t,(∀(k:Nat) (o:Oper),P k->ops[k]?=some o->yu o=true->o.dst=some t->a.getD t .dead=if t<tm.length then .ptr (idA nb ops k) 0 else .dead) /\
  ((∀(k:Nat) (o:Oper),P k->ops[k]?=some o->yu o=true->o.dst≠some t)->a.getD t .dead=tm.getD t .dead)
theorem qmv(tm:List AV)(d t:Nat)(x:AV):(tm.set d x).getD t .dead=if d=t then(if t<tm.length then x else .dead)else tm.getD t .dead:=by
 rw[List.getD_eq_getElem?_getD,List.getElem?_set];by_cases h:d=t
 ·rw[if_pos h,if_pos h];subst h;split<;>rfl
 ·rw[if_neg h,if_neg h,List.getD_eq_getElem?_getD]
theorem qpu{n nb:Nat}(v:∀(j:Nat) (o:Oper),ops[j]?=some o->yu o=true->o.guard=none/\∃ d,o.dst=some d/\∀(k:Nat) (q:Oper),ops[k]?=some q->k≠j->q.dst≠some d):∀(a:List Oper) (i:Nat) (s x:S),(∀(j:Nat) (o:Oper),a[j]?=some o->i+j<n/\ops[i+j]?=some o)->i+a.length=n->zR C ex ops false (a.filter yu) s=some x->s.σ.bx.length=idA nb ops i ->
  qGz ops (λ k=>i<=k/\k<n) nb s.tm x.tm
 | [],i,s,x,_,H,h,_=>by
   simp only[List.filter_nil,zR,wz]at h;subst h;simp at H;exact⟨rfl,λ t=>⟨λ k o p=>by omega,λ _=>rfl⟩⟩
 | o::a,i,s,x,N,H,h,L=>by
   obtain⟨V,b⟩:=N 0 o rfl;have b:ops[i]?=some o:=by simpa using b
   have y:∀(j:Nat) (q:Oper),a[j]?=some q->i+1+j<n/\ops[i+1+j]?=some q := λ j q g=>by
    have:=N (j+1) q g;rw[show i+1+j=i+(j+1) by omega];exact this
   have z:i+1+a.length=n:=by rw[<- H];simp;omega
   cases c:yu o with
   | false =>
     rw[xP (by rw[c];exact k9)]at h;obtain⟨D,w⟩:=qpu v a (i+1) s x y z h (by rw[qpz b,c];exact L);refine⟨D,λ t=>⟨λ k q p g A B=>(w t).1 k q ⟨?_,p.2⟩ g A B,λ l=>(w t).2 λ k q p=>l k q ⟨by omega,p.2⟩⟩⟩;apply kZ;intro T;have:k=i:=by omega
     subst this;rw[b]at g;cases g;rw[c]at A;cases A
   | true =>
     rw[xQ c]at h;obtain⟨e,G⟩:=qiJ c;obtain⟨J,d,f,E⟩:=v i o b c;simp only[zR]at h;have R:yL ops s.tm o=some true:=by unfold yL;rw[J]
     rw[R]at h;simp only[G,opA,qc]at h;cases B:C.ty e with
     | none=>rw[B]at h;cases h
     | some O =>
       rw[B]at h;simp only at h;cases M:O.zero.all zt with
       | false=>rw[M]at h;cases h
       | true =>
         rw[M]at h;simp only[xb]at h;obtain⟨D,w⟩:=qpu v a (i+1) _ x y z h (by show(s.σ.bx++[_]).length=_;rw[qpz b,c,wc,L];rfl);rw[f]at D w;have m:(qcr s.tm (some d) (.ptr s.σ.bx.length 0)).length=s.tm.length:=wJ ..;have r:∀ t,(qcr s.tm (some d) (.ptr s.σ.bx.length 0)).getD t .dead=if d=t then(if t<s.tm.length then .ptr s.σ.bx.length 0 else .dead)else s.tm.getD t .dead := λ t=>qmv s.tm d t _;refine⟨D.trans m,λ t=>⟨λ k q p g A u=>?_,λ l=>?_⟩⟩
         ·by_cases I:k=i
          ·subst I;rw[b]at g;cases g;rw[f]at u;cases u;rw[(w d).2 λ Q P U F _=>E Q P F (by omega),r,if_pos rfl,L]
          ·rw[(w t).1 k q ⟨by omega,p.2⟩ g A u,m]
         ·have K:d≠t := λ W=>l i o ⟨wb _,by omega⟩ b c (by rw[f,W]);rw[(w t).2 λ k q p=>l k q ⟨by omega,p.2⟩,r,if_neg K]
theorem qqT(Y:yx P C){n nb:Nat}{z:Gh}{w0:World}{a:Act}{ad:Nat->Nat}:∀(f:List Oper) (i:Nat) (s A:S) (σ : St) (Γ : Gh),(∀(j:Nat) (o:Oper),f[j]?=some o->i+j<n/\ops[i+j]?=some o)->i+f.length=n->zR C ex ops false (f.filter yu) s=some A ->
  (∀(j:Nat) (o:Oper),ops[j]?=some o->yu o=true->o.guard=none)->s.σ = σ -> s.σ.bx.length=idA nb ops i->Inv Γ σ w->qmb P Γ w0 w ops (λ k=>i<=k/\k<n) a ad->Ext z w0 Γ w ->
  ∃ Γ',Le Γ Γ'/\Ext z w0 Γ' w/\Inv Γ' A.σ w/\qW σ A.σ /\ ∀(k:Nat) (o:Oper),i<=k->k<n->ops[k]?=some o->yu o=true->Rep Γ' (.ptr (idA nb ops k) 0) (.pointer (some ⟨ad k,0,none⟩))
 | [],i,s,A,σ,Γ,_,O,h,_,m,_,K,D,p=>by
   simp only[List.filter_nil,zR,wz]at h;subst h;simp at O;exact⟨Γ,.refl Γ,p,by rw[m];exact K,by rw[m];exact .refl _,λ k o r x=>by omega⟩
 | o::f,i,s,A,σ,Γ,hr,O,h,T,m,X,K,D,p=>by
   obtain⟨ab,g⟩:=hr 0 o rfl;have g:ops[i]?=some o:=by simpa using g
   have E:∀(j:Nat) (q:Oper),f[j]?=some q->i+1+j<n/\ops[i+1+j]?=some q := λ j q B=>by
    have:=hr (j+1) q B;rw[show i+1+j=i+(j+1) by omega];exact this
   have H:i+1+f.length=n:=by rw[<- O];simp;omega
   have t:qmb P Γ w0 w ops (λ k=>i+1<=k/\k<n) a ad:=⟨λ k o e d r=>D.blk k o e d ⟨by omega,r.2⟩,λ k o e d u r=>D.tmp k o e d u ⟨by omega,r.2⟩,λ k k' o o' r x=>D.inj k k' o o' ⟨by omega,r.2⟩ ⟨by omega,x.2⟩⟩
   cases l:yu o with
   | false =>
     rw[xP (by rw[l];exact k9)]at h;obtain⟨Γ',g0,g1,g2,g3,Z⟩:=qqT Y f (i+1) s A σ Γ E H h T m (by rw[qpz g,l];exact X) K t p;refine⟨Γ',g0,g1,g2,g3,λ k q r x B I=>Z k q ?_ x B I⟩;apply kZ;intro aa;have:k=i:=by omega
     subst this;rw[g]at B;cases B;rw[l]at I;cases I
   | true =>
     rw[xQ l]at h;obtain⟨e,F⟩:=qiJ l;simp only[zR]at h;have hw:yL ops s.tm o=some true:=by unfold yL;rw[T i o g l]
     rw[hw]at h;simp only[F,opA,qc]at h;cases V:C.ty e with
     | none=>rw[V]at h;cases h
     | some d =>
       rw[V]at h;simp only at h;cases J:d.zero.all zt with
       | false=>rw[J]at h;cases h
       | true =>
         rw[J]at h;simp only[xb]at h;have M:=Y.ty e d V;obtain⟨g1,g2,g3,Z⟩:=D.blk i o e d ⟨wb _,by omega⟩ g F M J;obtain⟨b1,b2⟩:=qg9 (Γ := Γ) J;obtain⟨y,a1,a2,a3,a4,a5⟩:=qID K g2 g3 Z b1 b2
         have U:Ext z w0 y w:=⟨p.le.trans a1,p.os,p.tape,p.output,p.size,p.block,λ c W=>by
          rcases a2 c W with W | rfl
          ·exact p.own c W
          ·exact .inr g1,λ b o u hm=>by rw[a3]at hm;exact p.memg b o u hm,p.drawn⟩
         have N:qmb P y w0 w ops (λ k=>i+1<=k/\k<n) a ad:=⟨λ k q e' d' r x h3 h4 h5=>by
          obtain⟨q1,q2,q3,q4⟩:=t.blk k q e' d' r x h3 h4 h5;refine⟨q1,q2,λ G=>?_,λ j=>by rw[a3];exact q4 j⟩;rcases a2 _ G with G | G
          ·exact q3 G
          ·have:=D.inj k i q o ⟨by omega,r.2⟩ ⟨wb _,by omega⟩ x g (by simp[yu,h3]) l G;omega,t.tmp,t.inj⟩
         obtain⟨L,c0,c1,c2,c3,c4⟩:=qqT Y f (i+1) _ A { σ with bx := σ.bx++[d.zero.map .v] } y E H h T (by simp only;rw[m]) (by show(s.σ.bx++[_]).length=_;rw[qpz g,l,wc,X];rfl) a4 N U;have R:qW σ { σ with bx := σ.bx++[d.zero.map .v] }:=⟨by simp,wb _,λ j hj _=>by simp only[List.getElem?_append_left hj],λ _ _ _=>rfl,λ _ h=>h,λ _ h=>h⟩
         refine⟨L,a1.trans c0,c1,c2,R.trans c3,λ k q r x B I=>?_⟩;by_cases Q:k=i
         ·subst Q;rw[<- X,m];exact a5.mono c0
         ·exact c4 k q (by omega) x B I
theorem qtA{l:S}:∀(a:List Oper) (s:S),zR C ex ops false (a.filter yu) s=some l->(∀ o∈a,yu o=true->o.guard=none)->∀ o∈a,∀ e,o.op = .alloc e->∃ d,C.ty e=some d/\d.zero.all zt=true
 | [],_,_,_,o,b,_,_=>by cases b
 | q::a,s,h,j,o,b,e,c=>by
   cases f:yu q with
   | false =>
     rw[xP (by rw[f];exact k9)]at h;rcases wy.1 b with rfl | b
     ·simp[yu,c]at f
     ·exact qtA a s h (λ o b=>j o (wg _ b)) o b e c
   | true =>
     rw[xQ f]at h;obtain⟨n,g⟩:=qiJ f;simp only[zR]at h;have m:yL ops s.tm q=some true:=by unfold yL;rw[j q (wh ..) f]
     rw[m]at h;simp only[g,opA,qc]at h;cases k:C.ty n with
     | none=>rw[k]at h;cases h
     | some d =>
       rw[k]at h;simp only at h;cases i:d.zero.all zt with
       | false=>rw[i]at h;cases h
       | true =>
         rw[i]at h;simp only[xb]at h;rcases wy.1 b with rfl | b
         ·rw[g]at c;cases c;exact⟨d,k,i⟩
         ·exact qtA a _ h (λ o b=>j o (wg _ b)) o b e c
theorem qIt{lB:List (AV × Option St)}{s0B:S}{L:Nat->Bool}{n:Nat}(h:∀ i,n<=i->L i=false):∀ m,F ops.toList lB s0B L (n+m)=F ops.toList lB s0B L n
 | 0=>rfl
 | m+1=>by
   show F ops.toList lB s0B L (n+m+1)=_;simp only[F];rw[h (n+m) (by omega)];split
   ·rename_i a;cases a
   ·exact qIt h m
def qrR(ops:Array Oper)(n nb:Nat)(lA lS:List (AV × Option St)):List (AV × Option St) :=
 (List.range n).map (λ k=>match ops[k]? with
  | some o=>match yu o with
    | true=>(AV.ptr (idA nb ops k) 0,none)
    | false=>lA.getD k (.dead,none)
  | none=>(.dead,none))++lS
theorem qp9{n nb k:Nat}{lA lS:List (AV × Option St)}{o:Oper}(a:k<n)(b:ops[k]?=some o):(qrR ops n nb lA lS)[k]?=some (match yu o with
  | true=>(AV.ptr (idA nb ops k) 0,none)
  | false=>lA.getD k (.dead,none)):=by
 unfold qrR;rw[List.getElem?_append_left (by simpa using a),List.getElem?_map,List.getElem?_range a];simp only[kM,b]
theorem qtJ{n nb k:Nat}{lA lS:List (AV × Option St)}:(qrR ops n nb lA lS)[n+k]?=lS[k]?:=by
 unfold qrR;rw[List.getElem?_append_right (by simp)];simp
theorem qFl{n nb:Nat}{lA lS:List (AV × Option St)}{s0 s0B:S}(s:s0B.tm=s0.tm)(K:n=JZ C.lo ops.toList)(J:qrT C ⟨zi C.lo ops.toList⟩ lA)(u:∀(j:Nat) (o:Oper),ops[j]?=some o->yu o=true->o.guard=none/\∃ d,o.dst=some d/\∀(k:Nat) (q:Oper),ops[k]?=some q->k≠j->q.dst≠some d)
  (L:Nat->Bool):∀ k,k<=n->qGz ops (λ i=>i<k/\L i=true) nb (F (zi C.lo ops.toList) lA s0 L k).tm (F ops.toList (qrR ops n nb lA lS) s0B L k).tm
 | 0,_=>⟨by show s0B.tm.length=s0.tm.length;rw[s],λ t=>⟨λ k o M=>by omega,λ _=>by show s0B.tm.getD t _=s0.tm.getD t _;rw[s]⟩⟩
 | k+1,M=>by
   obtain⟨w,p⟩:=qFl (lS:=lS) s K J u L k (by omega);have I:JZ C.lo ops.toList<=ops.size:=by simpa using qmA C.lo ops.toList
   obtain⟨o,m⟩:=Qa (ops:=ops) (k:=k) (by omega);have z:ops.toList[k]?=some o:=by simpa using m
   have x:(zi C.lo ops.toList)[k]?=some (jg o):=by rw[qiL (by omega),z];rfl
   obtain⟨y,H,_⟩:=J k (jg o) (by simpa using x);have N:=qp9 (n:=n) (nb:=nb) (lA:=lA) (lS:=lS) (k:=k) (by omega) m;simp only[F,x,H,z,N];cases D:L k with
   | false =>
     refine⟨w,λ t=>⟨λ i q c=>(p t).1 i q ⟨?_,c.2⟩,λ b=>(p t).2 λ i q c=>b i q ⟨by omega,c.2⟩⟩⟩;apply kZ;intro G;have:i=k:=by omega
     subst this;rw[D]at c;exact k9 c.2
   | true =>
     simp only[yF,qrf];cases l:yu o with
     | true =>
       obtain⟨_,d,B,r⟩:=u k o m l;simp only[B,qcr];refine⟨by rw[wJ,wJ,w],λ t=>⟨λ i q c e g a=>?_,λ b=>?_⟩⟩
       ·rw[qmv,wJ];by_cases h:i=k
        ·subst h;rw[m]at e;cases e;rw[B]at a;cases a;rw[if_pos rfl,w]
        ·have f:d≠t := λ v=>r i q e h (by rw[a,v]);rw[if_neg f];exact(p t).1 i q ⟨by omega,c.2⟩ e g a
       ·have f:d≠t := λ v=>b k o ⟨by omega,D⟩ m l (by rw[B,v]);rw[qmv,if_neg f,qmv,if_neg f];exact(p t).2 λ i q c=>b i q ⟨by omega,c.2⟩
     | false =>
       have E:lA.getD k (.dead,none)=y:=by rw[List.getD_eq_getElem?_getD,H];rfl
       rw[E];cases B:o.dst with
       | none =>
         refine⟨w,λ t=>⟨λ i q c e g a=>(p t).1 i q ⟨?_,c.2⟩ e g a,λ b=>(p t).2 λ i q c=>b i q ⟨by omega,c.2⟩⟩⟩;apply kZ;intro G;have:i=k:=by omega
         subst this;rw[m]at e;cases e;rw[l]at g;cases g
       | some d =>
         simp only[qcr];refine⟨by rw[wJ,wJ,w],λ t=>⟨λ i q c e g a=>?_,λ b=>?_⟩⟩
         ·have h:i≠k := λ v=>by subst v;rw[m]at e;cases e;rw[l]at g;cases g
          obtain⟨_,O,A,r⟩:=u i q e g;rw[a]at A;cases A;have f:d≠t := λ v=>r k o m (xK h) (by rw[B,v]);rw[qmv,if_neg f,wJ];exact(p t).1 i q ⟨by omega,c.2⟩ e g a
         ·rw[qmv,qmv,w];split
          ·rfl
          ·exact(p t).2 λ i q c=>b i q ⟨by omega,c.2⟩
theorem qiQ{n:Nat}{lB:List (AV × Option St)}{s0B:S}{L:Nat->Bool}(h:∀ k y,k<n->lB[k]?=some y->y.2=none):∀ k,k<=n->(F ops.toList lB s0B L k).σ = s0B.σ
 | 0,_=>rfl
 | k+1,b=>by
   simp only[F];split
   ·rename_i o y _ a _;rw[putS_σ _ _ _ (h k y (by omega) a)];exact qiQ h k (by omega)
   ·exact qiQ h k (by omega)
theorem recB_σ{n nb:Nat}{lA lS:List (AV × Option St)}(p:n=JZ C.lo ops.toList)(m:qrT C ⟨zi C.lo ops.toList⟩ lA):∀ k y,k<n->(qrR ops n nb lA lS)[k]?=some y->y.2=none:=by
 intro k y l c;have i:JZ C.lo ops.toList<=ops.size:=by simpa using qmA C.lo ops.toList
 obtain⟨o,h⟩:=Qa (ops:=ops) (k:=k) (by omega);have d:ops.toList[k]?=some o:=by simpa using h
 rw[qp9 l h]at c;cases b:yu o with
 | true=>rw[b]at c;cases c;rfl
 | false =>
   rw[b]at c;have f:(zi C.lo ops.toList)[k]?=some (jg o):=by rw[qiL (by omega),d];rfl
   obtain⟨z,j,a⟩:=m k (jg o) (by simpa using f);simp only[List.getD_eq_getElem?_getD,j,Option.getD_some,wz]at c;subst c;have g:jg o=o:=by unfold jg;rw[b]
   rw[g,qnn (by omega) d]at a;cases e:z.2 with
   | none=>rfl
   | some σ'=>rw[e]at a;exact absurd (a rfl) k9
theorem lA_σ{n:Nat}{lA:List (AV × Option St)}(l:n=JZ C.lo ops.toList)(j:qrT C ⟨zi C.lo ops.toList⟩ lA):∀ k y,k<n->lA[k]?=some y->y.2=none:=by
 intro k y m g;have f:JZ C.lo ops.toList<=ops.size:=by simpa using qmA C.lo ops.toList
 obtain⟨o,i⟩:=Qa (ops:=ops) (k:=k) (by omega);have b:ops.toList[k]?=some o:=by simpa using i
 have d:(zi C.lo ops.toList)[k]?=some (jg o):=by rw[qiL (by omega),b];rfl
 obtain⟨z,e,a⟩:=j k (jg o) (by simpa using d);rw[g]at e;cases e
 have h:yt C.lo (jg o).op=false:=by
  unfold jg;split
  ·rfl
  ·exact qnn (by omega) b
 rw[h]at a;cases c:y.2 with
 | none=>rfl
 | some σ'=>rw[c]at a;exact absurd (a rfl) k9
theorem qGY(hC:yx P C)(hx:qdV P ex){id:Nat}{s s1 G s':S}(Z:qjM C.lo ops.toList=true)(ab:qb7 C.lo s.tm ops true=true)(hk:qb7 C.lo s.tm ⟨zi C.lo ops.toList⟩ true=true)(h:zR C ex ⟨zi C.lo ops.toList⟩ true (zi C.lo ops.toList) s=some s1)(hm:zR C ex ops false (alL C.lo ops.toList) s1=some G)(h':zR C ex ops true (qsn C.lo ops.toList) G=some s'){a:Act}{Q:Exit->Act->World->Prop}(hi:Inv Γ s.σ w)(ht:zw Γ s.tm a)
  (I:∀ Γ' w' a',Ext Γ w Γ' w'->Inv Γ' s'.σ w'->zw Γ' s'.tm a'->qW s.σ s'.σ -> a'.defers=a.defers->Q .normal a' w'):(Code.region id ops true).wp P Q a w:=by
 obtain⟨lA,h1,h2,h3,h4⟩:=qjw (zi C.lo ops.toList) s s1 h;obtain⟨lS,e1,e2,e3,_⟩:=qjw (qsn C.lo ops.toList) G s' h';have hT:qdY C ex ⟨zi C.lo ops.toList⟩ lA s:=qrW h3 h4;rw[qt2]at h2;have hk:qb9 C.lo s.tm ⟨zi C.lo ops.toList⟩=true:=hk;have ab:qb9 C.lo s.tm ops=true:=ab;obtain⟨aX,an,ao⟩:=qyN Z;generalize hn:JZ C.lo ops.toList=n at h2 an;have a3:n<=ops.size:=by rw[<- hn];simpa using qmA C.lo ops.toList
 have hg:∀(j:Nat) (o:Oper),ops[j]?=some o->yu o=true->o.guard=none := λ j o g ha=>(ao j o g ha).1
 have ai:∀(j:Nat) (o:Oper),(ops.toList.take n)[j]?=some o->0+j<n/\ops[0+j]?=some o := λ j o g=>by
  rw[wI];rw[List.getElem?_take]at g;split at g
  ·exact⟨‹_›,by simpa using g⟩
  ·cases g
 have R:0+(ops.toList.take n).length=n:=by simp;omega
 have hm:zR C ex ops false ((ops.toList.take n).filter yu) s1=some G:=by rw[<- hn];exact hm
 have aB:qsn C.lo ops.toList=ops.toList.drop n:=by unfold qsn;rw[hn]
 rw[aB]at e1 e2 e3
 have hz:∀ k o e,k<JZ C.lo ops.toList->ops[k]?=some o->o.op = .alloc e->∃ d,jG P e=some d/\d.zero.all zt=true := λ k o e hk g al=>by
  rw[hn]at hk;have aE:o∈ops.toList.take n:=wa (i:=k) (by rw[List.getElem?_take,if_pos hk];simpa using g)
  obtain⟨d,f,v⟩:=qtA _ s1 hm (λ q I ak=>by
   obtain⟨j,hj⟩:=List.getElem?_of_mem I;exact hg (0+j) q (ai j q hj).2 ak) o aE e al
  exact⟨d,hC.ty e d f,v⟩
 have W:∀ L k,k<=n->(F (zi C.lo ops.toList) lA s L k).σ = s.σ := λ L k aY=>qiQ (ops:=⟨zi C.lo ops.toList⟩) (lA_σ hn.symm hT.recd) k aY
 have aN:∀ k,F (zi C.lo ops.toList) lA s (λ i=>(Array.replicate ops.size false).getD i false) k=s:=by
  intro k
  induction k with
  | zero=>rfl
  | succ k ih =>
    simp only[F]
    have:(Array.replicate ops.size false).getD k false=false:=by
     rw[wK,Array.getElem?_replicate];split<;>rfl
    rw[this];split
    ·rename_i hf;cases hf
    ·exact ih
 have p:∀ i,(Array.replicate ops.size false).getD i false=false := λ i=>by
  rw[wK,Array.getElem?_replicate];split<;>rfl
 have aC:s1.σ = s.σ := by rw[<- h2];exact W _ _ (wb _)
 let nb:=s.σ.bx.length;have ae:s1.σ.bx.length=idA nb ops 0:=by rw[aC];rfl
 let lB:=qrR ops n nb lA lS;let s0B:S:=⟨s.tm,G.σ⟩
 have E:∀ k y,k<n->lB[k]?=some y->y.2=none:=recB_σ hn.symm hT.recd;have au:∀ L k,k<=n->qGz ops (λ i=>i<k/\L i=true) nb (F (zi C.lo ops.toList) lA s L k).tm (F ops.toList lB s0B L k).tm:=qFl rfl hn.symm hT.recd ao
 have aR:F ops.toList lB s0B qv n=G:=by
  have hr:=qpu (nb:=nb) ao (ops.toList.take n) 0 s1 G ai R hm ae;have M:=au qv n (wb _);rw[h2]at M;have aa:(F ops.toList lB s0B qv n).σ = G.σ := qiQ E n (wb _)
  have ay:(F ops.toList lB s0B qv n).tm=G.tm:=by
   have Y:(F ops.toList lB s0B qv n).tm.length=G.tm.length:=by rw[M.1,hr.1]
   have aK:∀ t,(F ops.toList lB s0B qv n).tm.getD t .dead=G.tm.getD t .dead := λ t=>by
    by_cases J:∃(k:Nat) (o:Oper),k<n/\ops[k]?=some o/\yu o=true/\o.dst=some t
    ·obtain⟨k,o,K,A,B,N⟩:=J;rw[(M.2 t).1 k o ⟨K,rfl⟩ A B N,(hr.2 t).1 k o ⟨we _,K⟩ A B N]
    ·rw[(M.2 t).2 λ k o hk A B N=>J ⟨k,o,hk.1,A,B,N⟩,(hr.2 t).2 λ k o hk A B N=>J ⟨k,o,hk.2,A,B,N⟩]
   apply List.ext_getElem Y;intro i f v;have:=aK i;rw[List.getD_eq_getElem?_getD,List.getD_eq_getElem?_getD,List.getElem?_eq_getElem f,List.getElem?_eq_getElem v]at this;exact this
  show F ops.toList lB s0B qv n=G;generalize F ops.toList lB s0B qv n=z at *;obtain⟨z1,z2⟩:=z;obtain⟨K,A⟩:=G;simp only at aa ay;rw[aa,ay]
 have T:∀ i,i<=(ops.toList.drop n).length->F ops.toList lB s0B qv (n+i)=F (ops.toList.drop n) lS G qv i:=by
  intro i
  induction i with
  | zero=>intro _;exact aR
  | succ i ih =>
    intro aH;show F ops.toList lB s0B qv (n+i+1)=_;have hl:lB[n+i]?=lS[i]?:=qtJ;simp only[F,List.getElem?_drop,hl,ih (by omega)];rfl
 have Y:n+(ops.toList.drop n).length=ops.size:=by simp;omega
 have aL:F ops.toList lB s0B qv ops.size=s':=by rw[<- Y,T _ (wb _)];exact e2
 have D:qrT C ops lB:=by
  intro i o g;have a7:i<ops.size:=(Array.getElem?_eq_some_iff.1 g).1;by_cases aJ:i<n
  ·have hy:=qp9 (nb:=nb) (lA:=lA) (lS:=lS) aJ g;exact⟨_,hy,λ hs=>by rw[E i _ aJ hy]at hs;cases hs⟩
  ·obtain⟨j,rfl⟩:∃ j,i=n+j:=⟨i-n,by omega⟩
   obtain⟨y,f,_,g3⟩:=e3 j o (by rw[List.getElem?_drop];simpa using g);exact⟨y,by rw[<- f];exact qtJ,g3⟩
 have aj:∀(L:Nat->Bool) (j:Nat) (o:Oper),qeb ops L->(∀(i:Nat) (q:Oper),i<n->ops[i]?=some q->qeN ops.toList q=false->L i=true)->ops[j]?=some o->L j=false->(∀ e∈jQ o,L e=true) ->
   ∃ y,qb8 C ex ops o (F ops.toList lB s0B L ops.size) y/\F ops.toList lB s0B (λ i=>decide (i=j)||L i) ops.size=yF (F ops.toList lB s0B L ops.size) o y:=by
  intro L j o hd ar g hL hp;have a6:j<ops.size:=(Array.getElem?_eq_some_iff.1 g).1;obtain⟨y,hy,aW⟩:=D j o g;refine⟨y,?_,qFJ (s0:=s0B) D ab hd g hL hp hy aW⟩;have H:∀ t∈qfN ops o,(F ops.toList lB s0B L ops.size).tm.getD t .dead=(F ops.toList lB s0B qv j).tm.getD t .dead := λ t ht=>qrG (s0:=s0B) D ab hd g hL hp ht;by_cases ap:j<n
  ·-- it qfN at no memory
   have hf:qeN ops.toList o=true:=by
    cases hf:qeN ops.toList o with
    | true=>rfl
    | false=>rw[ar j o ap g hf]at hL;cases hL
   unfold qeN at hf;simp only[wd,wV,wu,kh]at hf;obtain⟨f1,f2,f3⟩:=hf;have aD:ops.toList[j]?=some o:=by simpa using g
   have aU:(zi C.lo ops.toList)[j]?=some o:=by
    rw[qiL (by omega),aD];show some (jg o)=_;unfold jg;rw[f2]
   have aV:(⟨zi C.lo ops.toList⟩:Array Oper)[j]?=some o:=by simpa using aU
   obtain⟨z,z1,z2,z3⟩:=hT.st j o aV
   have ah:y=z:=by
    have:=qp9 (nb:=nb) (lA:=lA) (lS:=lS) ap g;rw[f2]at this;have hz:lA.getD j (.dead,none)=z:=by rw[List.getD_eq_getElem?_getD,z1];rfl
    simp only[hz]at this;have hy:(qrR ops n nb lA lS)[j]?=some y:=hy;rw[this]at hy;cases hy;rfl
   subst ah
   have V:∀ t∈qfN ops o,(F ops.toList lB s0B L ops.size).tm.getD t .dead=(F (zi C.lo ops.toList) lA s qv j).tm.getD t .dead := λ t ht=>by
    rw[H t ht];refine((au qv j (by omega)).2 t).2 λ k q aI I ak aT=>?_;have aS:q∈ops.toList:=wa (i:=k) (by simpa using I);rcases f3 q aS with h0 | h0
    ·rw[ak]at h0;cases h0
    ·rw[aT]at h0;simp only[wV,vK,decide_eq_false_iff_not]at h0;exact h0 ht
   have hw:∀ b,yL ⟨zi C.lo ops.toList⟩ (F (zi C.lo ops.toList) lA s qv j).tm o=some b->yL ops (F ops.toList lB s0B L ops.size).tm o=some b := λ b M=>by
    rw[qpB V];have a0:jg o=o:=by unfold jg;rw[f2]
    exact qpd (by rw[a0];exact M)
   rcases z2 with⟨f,v⟩ | ⟨f,v⟩
   ·refine .inl ⟨hw _ f,?_⟩
    have X:=qtD (C:=C) (ex:=ex) (op:=o.op) (σ := (F ops.toList lB s0B L ops.size).σ) (qrO (xs:=o.op.operands.toList) λ t ht=>V t (by
     simp only[qfN,wx];exact .inl (.inr ht)))
    rw[X];obtain⟨x,zz⟩:=y;cases zz with
    | none=>exact qA7 f1 (qnn (by omega) aD) v
    | some σ'=>have:=lA_σ hn.symm hT.recd j _ ap z1;cases this
   ·exact .inr ⟨hw _ f,v⟩
  ·obtain⟨i,rfl⟩:∃ i,j=n+i:=⟨j-n,by omega⟩
   have a8:i<(ops.toList.drop n).length:=by omega
   obtain⟨z,z1,z2,z3⟩:=e3 i o (by rw[List.getElem?_drop];simpa using g)
   have ah:y=z:=by
    have:lB[n+i]?=lS[i]?:=qtJ;rw[this,z1]at hy;cases hy;rfl
   subst ah;rw[<- T i (by omega)]at z2
   have aa:(F ops.toList lB s0B L ops.size).σ = (F ops.toList lB s0B qv (n+i)).σ := by
    have aG:∀ m,n<=m->m<n+i->L m=true := λ m aF am=>by
     rcases an (n+i) o g (by omega) m am with M | ⟨M,_⟩
     ·exact qpZ hd (n+i) o g hp M
     ·omega
    have aq:∀ m,n+i<m->m<ops.size->L m=false := λ m aF am=>by
     obtain⟨q,I⟩:=Qa (ops:=ops) (k:=m) am;cases a2:L m with
     | false=>rfl
     | true =>
       rcases an m q I (by omega) (n+i) aF with M | ⟨M,_⟩
       ·have:=qpZ hd m q I (hd m q I a2) M;rw[hL]at this;cases this
       ·omega
    have k1:∀ m,m<=i->(F ops.toList lB s0B L (n+m)).σ = (F ops.toList lB s0B qv (n+m)).σ := by
     intro m
     induction m with
     | zero=>intro _;rw[wP,qiQ E n (wb _),qiQ E n (wb _)]
     | succ m ih =>
       intro aH;obtain⟨q,I⟩:=Qa (ops:=ops) (k:=n+m) (by omega);obtain⟨y',_,_,hF⟩:=qca (s0:=s0B) D I;show(F ops.toList lB s0B L (n+m+1)).σ = (F ops.toList lB s0B qv (n+m+1)).σ;rw[hF L,hF qv,if_pos (aG (n+m) (by omega) (by omega)),if_pos (show qv (n+m)=true from rfl)];show turn _ _=turn _ _;rw[ih (by omega)]
    have k2:∀ m,n+i+m<=ops.size->(F ops.toList lB s0B L (n+i+m)).σ = (F ops.toList lB s0B L (n+i)).σ := by
     intro m
     induction m with
     | zero=>intro _;rfl
     | succ m ih =>
       intro aH;obtain⟨q,I⟩:=Qa (ops:=ops) (k:=n+i+m) (by omega);obtain⟨y',_,_,hF⟩:=qca (s0:=s0B) D I;show(F ops.toList lB s0B L (n+i+m+1)).σ = _
       have hf:L (n+i+m)=false:=by
        cases m with
        | zero=>exact hL
        | succ m=>exact aq _ (by omega) (by omega)
       rw[hF L,hf];simp only[vU,if_false];exact ih (by omega)
    have:=k2 (ops.size-(n+i)) (by omega);rw[show n+i+(ops.size-(n+i))=ops.size by omega]at this;rw[this,k1 i (wb _)]
   have ax:=qpB (ops:=ops) (o:=o) H
   have X:=qtD (C:=C) (ex:=ex) (op:=o.op) (σ := (F ops.toList lB s0B L ops.size).σ) (qrO (xs:=o.op.operands.toList) λ t ht=>H t (by
    simp only[qfN,wx];exact .inl (.inr ht)))
   rcases z2 with⟨f,v⟩ | ⟨f,v⟩
   ·refine .inl ⟨by rw[ax];exact f,?_⟩;rw[X,aa];exact v
   ·exact .inr ⟨by rw[ax];exact f,v⟩
 refine wp_region_any hC.mixed ?_;refine qPF hC hx hT hk Z hz (w0:=w) hn.symm ops.size _ Γ _ a (λ _=>0) (by simp) (by rw[xp,vF];simp) (λ i _=>p i) ?_ ?_ ?_ ?_ (wb _) ?_
 ·intro i q a5 ac;exfalso;have ac:(Array.replicate ops.size false).getD i false=true:=ac;rw[p]at ac;cases ac
 ·rw[aN];exact hi.drew
 ·rw[aN];exact ht
 ·exact⟨λ k o e d h=>(by rw[p]at h;cases h),λ k o e d u h=>(by rw[p]at h;cases h),λ k k' o o' h=>(by rw[p]at h;cases h)⟩
 ·intro av c ag w1 a1 aO x1 x2 x3 x4 x5 x6 x7 x8 x9 a4 aQ;have aP:Ext Γ w ag w1:=(Ext.drew Γ w).trans x6;have r:∀(k:Nat) (o:Oper),k<n->ops[k]?=some o->yu o=true->c.getD k false=true := λ k o K A B=>x4 k o K A (by unfold qeN;rw[B];simp);have U:qmb P ag w w1 ops (λ k=>0<=k/\k<n) a1 aO:=⟨λ k o e d hh f v=>x9.blk k o e d (r k o hh.2 f (by simp[yu,v])) f v,λ k o e d u hh f v=>x9.tmp k o e d u (r k o hh.2 f (by simp[yu,v])) f v,λ k k' o o' hh aZ f v g3 g4=>x9.inj k k' o o' (r k o hh.2 f g3) (r k' o' aZ.2 v g4) f v g3 g4⟩
  rw[W _ _ (wb _)]at x7;obtain⟨aw,c0,c1,c2,c3,c4⟩:=qqT hC (n:=n) (nb:=nb) (ad:=aO) (ops.toList.take n) 0 s1 G s.σ ag ai R hm hg aC ae x7 U aP
  have aM:F ops.toList lB s0B (λ i=>c.getD i false) ops.size=F ops.toList lB s0B (λ i=>c.getD i false) n:=by
   have:=qIt (ops:=ops) (lB:=lB) (s0B:=s0B) (L := λ i=>c.getD i false) (n:=n) x3 (ops.size-n);rw[show n+(ops.size-n)=ops.size by omega]at this;exact this
  have af:(F ops.toList lB s0B (λ i=>c.getD i false) ops.size).σ = G.σ := by rw[aM];exact qiQ E n (wb _)
  refine qF8 hC hx (l:=lB) (s0:=s0B) (Good := λ L=>∀(i:Nat) (q:Oper),i<n->ops[i]?=some q->qeN ops.toList q=false->L i=true) (λ L j hg i q K A B=>by simp[hg i q K A B]) aX aj av c aw w1 a1 x1 x2 x5 x4 (by rw[af];exact c2) ?_ ?_
  ·-- the slots
   rw[aM];obtain⟨b1,b2⟩:=au (λ i=>c.getD i false) n (wb _);have aA:RepL aw (F (zi C.lo ops.toList) lA s (λ i=>c.getD i false) n).tm a1.tmps.toList:=waI c0 x8;refine⟨by rw[b1];exact aA.len,λ t x u hx hu=>?_⟩;have R:=getElem?_lt hx;have O:(F ops.toList lB s0B (λ i=>c.getD i false) n).tm.getD t .dead=x:=by rw[List.getD_eq_getElem?_getD,hx];rfl
   by_cases J:∃(k:Nat) (o:Oper),k<n/\ops[k]?=some o/\yu o=true/\o.dst=some t
   ·obtain⟨k,o,K,A,B,N⟩:=J;rw[(b2 t).1 k o ⟨K,r k o K A B⟩ A B N,if_pos (by rw[<- b1];exact R)]at O;obtain⟨e,al⟩:=qiJ B;have hp:=U.tmp k o e t u ⟨we _,K⟩ A al N (by simpa using hu);rw[<- O,hp];exact c4 k o (we _) K A B
   ·rw[(b2 t).2 λ k o aI A B N=>J ⟨k,o,aI.1,A,B,N⟩]at O;have az:t<(F (zi C.lo ops.toList) lA s (λ i=>c.getD i false) n).tm.length:=by rw[<- b1];exact R
    rw[List.getD_eq_getElem?_getD,List.getElem?_eq_getElem az]at O;exact aA.rep t x u (by rw[List.getElem?_eq_getElem az];exact congrArg some O) hu
  ·intro Γ' w' a' f v g3 g4 g5;rw[aL]at v g3 g4;rw[af]at g4;exact I Γ' w' a' (c1.trans f) v g3 (c3.trans g4) (by rw[g5,aQ])
end
end Go.AmZ
namespace Go.AmZ
open Go Go.RowKit
def qLD:AV->Bool
 | .rpt _ _ _ _=>true
 | .ept _ _=>true
 | _=>false
theorem qHO{o:Oper}{a:Tmp × Operand}(h:stP o=some a):(∃ t,o.op = .store t (.tmp a.1) a.2)/\o.guard=none/\o.dst=none:=by
 grind [stP]
theorem qO8{o:Oper}{d:Tmp}(h:ixP o=some d):(∃ t x i,o.op = .indexAddr t x i)/\o.guard=none/\o.dst=some d:=by
 grind [ixP]
theorem qzL:∀{m b:Nat},qtL m b=true->∀ i,i<m->b.testBit i=true
 | 0,_,_,i,a=>absurd a (wL _)
 | m+1,b,h,i,a=>by
   simp only[qtL,wd]at h;rcases Nat.lt_succ_iff_lt_or_eq.1 a with a | rfl
   ·exact qzL h.2 i a
   ·exact h.1
theorem qFk{ops:Array Oper}{f:Bool}{b:Tmp}(h:qre ops f=some b):f=true/\∃ p o q d g c,qh1 ops=[p,o,q]/\ixP p=some d/\stP o=some (d,g)/\stP q=some (b,c)/\b≠d/\qGp d c=true/\qGk (JM ops.toList []) (ops.toList.length-3) p o q=true:=by
 unfold qre at h;split at h
 ·refine⟨rfl,?_⟩;unfold qPA at h;split at h
  ·rename_i p o q m;split at h
   ·rename_i d a b' s r n;split at h
    ·rename_i e;cases h;simp only[wd,wV]at e;obtain⟨⟨i,l,k⟩,j⟩:=e;have e1:a.1=d:=wk i;grind
    ·cases h
   ·cases h
  ·cases h
 ·cases h
section
variable {P:Program} {C:Cfg} {Γ : Gh} {σ : St} {w:World} {ops pre:Array Oper} {ex:Je} {l:List (AV × Option St)} {s0:S}
theorem qKL{tm:List AV}{σ':St}{t:TypeId}{a:Tmp}{v:Operand}{b off:Nat}{x:AV}{z:Option St}(h:opA C ex tm σ (.store t (.tmp a) v)=some (x,z))(l:tm.getD a .dead = .ptr b off) :
  ∃ cs,z=some { σ with bx := σ.bx.set b cs,wr:=b :: σ.wr }/\∀(c:List AV) (τ : St),aev c (.tmp a)=aev tm (.tmp a)->aev c v=aev tm v -> τ.bx = σ.bx->opA C ex c τ (.store t (.tmp a) v)=some (x,some { τ with bx := τ.bx.set b cs,wr:=b :: τ.wr }):=by
 have j:aev tm (.tmp a) = .ptr b off:=l;simp only[opA,qc,j]at h;cases i:C.ty t with
 | none=>rw[i]at h;cases h
 | some d =>
   rw[i]at h;simp only at h;cases f : σ.bx[b]? with
   | none=>rw[f]at h;cases h
   | some cs =>
     rw[f]at h;simp only at h;split at h<;>cases h;rename_i k;refine⟨_,rfl,λ c τ n m g=>?_⟩;have e : τ.bx[b]?=some cs:=by rw[g];exact f
     simp only[opA,qc,n,m,j,i,e,k]
theorem qKV{tm:List AV}{t:TypeId}{u i:Operand}{x:AV}{z:Option St}(b:qxm (aev tm u)=false)(h:opA C ex tm σ (.indexAddr t u i)=some (x,z)) :
  z=none/\qLD x=true/\∀ τ : St,τ.rw = σ.rw->opA C ex tm τ (.indexAddr t u i)=some (x,none):=by
 have c:∀ τ : St,τ.rw = σ.rw->opA C ex tm τ (.indexAddr t u i)=some (x,z) := λ τ a=>by
  rw[<- h];simp only[opA,qc,a]
 have e:z=none/\qLD x=true:=by
  simp only[opA,qc]at h
  repeat' split at h
  all_goals first | (cases h;done) | (cases h;exact⟨rfl,rfl⟩) | (rename_i d _ _;rw[d]at b;cases b) | (exfalso;simp_all [qxm];done)
 grind
theorem qN7{tm:List AV}{t:TypeId}{a:Tmp}{v:Operand}{y:AV}{x:AV}{z:Option St}(h:opA C ex tm σ (.store t (.tmp a) v)=some (x,z))(o:tm.getD a .dead=y)(n:qLD y=true) :
  ∃ r R,z=some { σ with rw := σ.rw.set r R,wrr:=r :: σ.wrr }/\∀ τ : St,τ.rw = σ.rw->opA C ex tm τ (.store t (.tmp a) v)=some (x,some { τ with rw := τ.rw.set r R,wrr:=r :: τ.wrr }):=by
 have f:aev tm (.tmp a)=y:=o;cases y with
 | rpt k m l j =>
   simp only[opA,qc,f]at h;cases g:C.ty t with
   | none=>rw[g]at h;cases h
   | some d =>
     rw[g]at h;simp only at h;cases i : σ.rw[k]? with
     | none=>rw[i]at h;cases h
     | some R =>
       rw[i]at h;simp only at h;cases b:qsx R m l j d.size (cellsOf (aev tm v))with
       | none=>rw[b]at h;cases h
       | some R' =>
         rw[b]at h;cases h;refine⟨_,_,rfl,λ τ c=>?_⟩;have e : τ.rw[k]?=some R:=by rw[c];exact i
         simp only[opA,qc,f,g,e,b]
 | ept p l =>
   simp only[opA,qc,f]at h;grind
 | _=>cases n
theorem qB4{tm:List AV}{o:Oper}{b:Bool}(a:∀(i:Nat) (q:Oper),pre[i]?=some q->ops[i]?=some q)(h:yL pre tm o=some b):yL ops tm o=some b:=by
 grind [yL]
def g3(f e c d b a:S):Bool->Bool->Bool->S
 | true,true,true=>a
 | true,true,false=>b
 | true,false,_=>d
 | false,true,true=>c
 | false,true,false=>e
 | false,false,_=>f
def G3(pre:Array Oper)(l:List (AV × Option St))(s0 e c d b a:S)(L:Nat->Bool):S:=g3 (F pre.toList l s0 L pre.size) e c d b a (L (pre.size+2)) (L pre.size) (L (pre.size+1))
theorem qaQ{h f g e d:S}{L:Nat->Bool}{a b c:Bool}(k:L (pre.size+2)=a)(j:L pre.size=b)(i:L (pre.size+1)=c):G3 pre l s0 h f g e d L=g3 (F pre.toList l s0 L pre.size) h f g e d a b c:=by
 unfold G3;rw[k,j,i]
theorem qvL{tm:List AV}{t:TypeId}{a:Tmp}{v:Operand}{y:AV × Option St}(h:opA C ex tm σ (.store t (.tmp a) v)=some y):a<tm.length:=by
 apply wad;intro c
 have b:aev tm (.tmp a) = .dead:=by
  show tm.getD a .dead = .dead;grind
 have:opA C ex tm σ (.store t (.tmp a) v)=none:=by
  simp only[opA,qc,b];cases C.ty t<;>rfl
 rw[this]at h;cases h
theorem qNr{tm:List AV}{d:Tmp}{x:AV}{v:Operand}(h:qGp d v=true):aev (tm.set d x) v=aev tm v:=by
 cases v with
 | tmp t =>
   have a:d≠t := λ b=>by rw[b]at h;simp[qGp]at h
   show(tm.set d x).getD t .dead=tm.getD t .dead;grind
 | _=>rfl
theorem qHH(hC:yx P C)(hx:qdV P ex){id:Nat}{s g s':S}{b:Tmp}(aQ:qre ops true=some b)(hk:qb7 C.lo s.tm (qcO ops) true=true)(h1:zR C ex (qcO ops) true (qcO ops).toList s=some g)(aa:quZ g.tm ops b=true)
  (h2:zR C ex ops true (qh1 ops) g=some s') {a:Act} {Q:Exit->Act->World->Prop} (hi:Inv Γ s.σ w) (ht:zw Γ s.tm a)
  (hq:∀ Γ' w' a',Ext Γ w Γ' w'->Inv Γ' s'.σ w'->zw Γ' s'.tm a'->qW s.σ s'.σ -> a'.defers=a.defers->Q .normal a' w'):(Code.region id ops true).wp P Q a w:=by
 obtain⟨_,p,o,q,d,v6,v7,ar,aS,aT,aR,a8,aG,aF⟩:=qFk aQ;obtain⟨⟨t5,u5,i5,N⟩,aX,aw⟩:=qO8 aS;obtain⟨⟨t6,Y⟩,aW,av⟩:=qHO aT;obtain⟨⟨t7,M⟩,aV,au⟩:=qHO aR;unfold quZ at aa;rw[wd]at aa;obtain⟨aa,J⟩:=aa
 have J:qxm (aev g.tm u5)=false:=by
  grind [qGe]
 simp only[qGk,wd,wu]at aF;obtain⟨k1,k2,k3,k4,k5,k6⟩:=aF;obtain⟨pre,af⟩:∃ pre,pre=qcO ops:=⟨_,rfl⟩
 rw[<- af]at hk h1
 have aJ:ops.toList.length=(ops.toList.length-3)+3:=by
  have:(qh1 ops).length=3:=by rw[ar];rfl
  grind [qh1]
 have aD:pre.size=ops.toList.length-3:=by
  rw[af];show(ops.toList.take (ops.toList.length-3)).toArray.size=_;grind
 have X:ops.toList=pre.toList++[p,o,q]:=by
  rw[af,<- ar];exact(kz _ _).symm
 rw[<- aD]at k1 k2 k3 k4 k5 k6;obtain⟨m,u⟩:∃ m,m=pre.size:=⟨_,rfl⟩
 have aI:m=pre.toList.length:=by rw[u,wM]
 rw[<- u]at k1 k2 k3 k4 k5 k6;have am:ops.size=m+3:=by rw[<- wM,aJ,u,aD]
 have ae:∀ i r,pre[i]?=some r->ops[i]?=some r := λ i r hr=>by
  have hi:i<pre.toList.length:=by rw[wM];exact(Array.getElem?_eq_some_iff.1 hr).1
  rw[<- Array.getElem?_toList,X,List.getElem?_append_left hi,Array.getElem?_toList];exact hr
 have an:∀ i r,i<m->ops[i]?=some r->pre[i]?=some r := λ i r hi hr=>by
  grind
 have ay:∀ n,ops[m+n]?=[p,o,q][n]? := λ n=>by
  rw[<- Array.getElem?_toList,X,List.getElem?_append_right (by rw[<- aI];exact kF _ _),<- aI,ky]
 have ai:ops[m]?=some p:=ay 0;have aj:ops[m+1]?=some o:=ay 1;have ah:ops[m+2]?=some q:=ay 2;obtain⟨l,l1,l2,l3,l4⟩:=qjw pre.toList s g h1;have hT:qdY C ex pre l s:=qrW l3 l4;rw[wM]at l2;have aK:qb9 C.lo s.tm pre=true:=hk;have O:∀ tm,yL ops tm p=some true := λ tm=>by unfold yL;rw[aX]
 have T:∀ tm,yL ops tm o=some true := λ tm=>by unfold yL;rw[aW]
 have I:∀ tm,yL ops tm q=some true := λ tm=>by unfold yL;rw[aV]
 cases aE:g.tm.getD b .dead with
 | ptr W off =>
   have ax:∀ x,(g.tm.set d x).getD b .dead = .ptr W off := λ x=>by
    grind
   rw[ar]at h2
   obtain⟨H,x6,ac,x7,ap,y5,y6,y7,rfl⟩:∃ H x6 ac x7 ap,opA C ex g.tm g.σ p.op=some (H,none)/\opA C ex (g.tm.set d H) g.σ o.op=some (x6,some ac)/\opA C ex (g.tm.set d H) ac q.op=some (x7,some ap)/\s'=⟨g.tm.set d H,ap⟩:=by
    simp only[zR,O,T,I]at h2;split at h2<;>try cases h2
    ·rename_i H e5;rw[aw]at h2;simp only[qcr]at h2;have aq:=(qKV J (by rw[N]at e5;exact e5)).2.1;split at h2<;>try cases h2
     ·rename_i x6 e6;have e6:=e6;rw[Y]at e6;have ag:=qvL e6;rw[wJ]at ag;have hv:(g.tm.set d H).getD d .dead=H:=by rw[List.getD_eq_getElem?_getD,List.getElem?_set_self ag];rfl
      obtain⟨_,_,h,_⟩:=qN7 e6 hv aq;cases h
     ·rename_i x6 ac e6;split at h2<;>try cases h2
      rw[av]at h2;simp only at h2;split at h2<;>try cases h2
      ·rename_i x7 e7;obtain⟨_,h,_⟩:=qKL (σ':=ac) (by rw[M]at e7;exact e7) (ax H);cases h
      ·grind
    ·rename_i H a3 e5;have:=(qKV J (by rw[N]at e5;exact e5)).1;cases this
   rw[N]at y5;rw[Y]at y6;rw[M]at y7;obtain⟨_,aq,g5⟩:=qKV J y5;have ag:=qvL y6;rw[wJ]at ag;have aP:(g.tm.set d H).getD d .dead=H:=by rw[List.getD_eq_getElem?_getD,List.getElem?_set_self ag];rfl
   obtain⟨r,R,z6,g6⟩:=qN7 y6 aP aq;cases z6;obtain⟨cs,z7,g7⟩:=qKL (σ':=g.σ) y7 (ax H);cases z7
   have eb:aev g.tm (.tmp b)=aev (g.tm.set d H) (.tmp b):=by
    show g.tm.getD b .dead=(g.tm.set d H).getD b .dead;rw[ax,aE]
   have ev:aev g.tm v7=aev (g.tm.set d H) v7:=(qNr aG).symm;obtain⟨B,al⟩:∃ B:S,B=⟨g.tm.set d H,g.σ⟩:=⟨_,rfl⟩
   obtain⟨v,ak⟩:∃ v:S,v=⟨g.tm.set d H,{ g.σ with rw:=g.σ.rw.set r R,wrr:=r::g.σ.wrr }⟩:=⟨_,rfl⟩
   obtain⟨D,az⟩:∃ D:S,D=⟨g.tm,{ g.σ with bx:=g.σ.bx.set W cs,wr:=W::g.σ.wr }⟩:=⟨_,rfl⟩
   obtain⟨t,Z⟩:∃ t:S,t=⟨g.tm.set d H,{ g.σ with bx:=g.σ.bx.set W cs,wr:=W::g.σ.wr }⟩:=⟨_,rfl⟩
   obtain⟨f,U⟩:∃ f:S,f=⟨g.tm.set d H,{ g.σ with rw:=g.σ.rw.set r R,wrr:=r::g.σ.wrr,bx:=g.σ.bx.set W cs,wr:=W::g.σ.wr }⟩:=⟨_,rfl⟩
   have a5:qb8 C ex ops p g (H,none) := .inl ⟨O _,by rw[N];exact y5⟩;have a2:qb8 C ex ops p D (H,none) := .inl ⟨O _,by rw[N,az];exact g5 _ rfl⟩;have a6:qb8 C ex ops o B (x6,some { g.σ with rw:=g.σ.rw.set r R,wrr:=r::g.σ.wrr }) := .inl ⟨T _,by rw[Y,al];exact y6⟩;have a1:qb8 C ex ops o t (x6,some { g.σ with rw:=g.σ.rw.set r R,wrr:=r::g.σ.wrr,bx:=g.σ.bx.set W cs,wr:=W::g.σ.wr }) := .inl ⟨T _,by rw[Y,Z];exact g6 _ rfl⟩;have a7:qb8 C ex ops q g (x7,some { g.σ with bx:=g.σ.bx.set W cs,wr:=W::g.σ.wr }) := .inl ⟨I _,by rw[M];exact g7 _ _ eb ev rfl⟩;have a0:qb8 C ex ops q B (x7,some { g.σ with bx:=g.σ.bx.set W cs,wr:=W::g.σ.wr }) := .inl ⟨I _,by rw[M,al];exact g7 _ _ rfl rfl rfl⟩;have aM:qb8 C ex ops q v (x7,some { g.σ with rw:=g.σ.rw.set r R,wrr:=r::g.σ.wrr,bx:=g.σ.bx.set W cs,wr:=W::g.σ.wr }) := .inl ⟨I _,by rw[M,ak];exact y7⟩;have ab:∀{L:Nat->Bool} {n j:Nat} {o':Oper},qeb ops L->ops[j]?=some o'->(∀ e∈jQ o',L e=true)->qtL n ((JM ops.toList []).getD j 0)=true->∀ i,i<n->L i=true := λ hd ho hp hb i hi=>qpZ hd _ _ ho hp (qzL hb i hi);have ao:∀{L:Nat->Bool},(∀ i,i<m->L i=true)->F pre.toList l s L pre.size=g := λ h=>by rw[<- l2];exact qAY _ λ i hi=>h i (by rw[u];exact hi)
   have aZ:∀ k,F pre.toList l s (λ i=>(Array.replicate ops.size false).getD i false) k=s:=by
    intro k
    induction k with
    | zero=>rfl
    | succ k ih =>
      simp only[F]
      have:(Array.replicate ops.size false).getD k false=false:=by
       rw[wK,Array.getElem?_replicate];split<;>rfl
      rw[this];split
      ·rename_i hf;cases hf
      ·exact ih
   have ad:∀ i,(Array.replicate ops.size false).getD i false=false := λ i=>by
    rw[wK,Array.getElem?_replicate];split<;>rfl
   have aC:G3 pre l s B v D t f (λ i=>(Array.replicate ops.size false).getD i false)=s:=by
    rw[qaQ (ad _) (ad _) (ad _)];exact aZ _
   have aL:G3 pre l s B v D t f qv=f:=qaQ (a:=true) (b:=true) (c:=true) rfl rfl rfl;have A:∀(L:Nat->Bool) (j i:Nat),i≠j->(decide (i=j)||L i)=L i := λ L j i h=>by rw[decide_eq_false h,xS]
   have E:∀(L:Nat->Bool) (j:Nat),(decide (j=j)||L j)=true := λ L j=>by rw[decide_eq_true rfl,xA]
   refine wp_region_any hC.mixed ?_;refine qFm (G:=G3 pre l s B v D t f) (Good := λ _=>True) hC hx (λ _ _ _=>trivial) (λ j o' z e he=>?_) (λ L K=>?_) (λ L j o' hd _ z K hp=>?_) ops.size _ Γ _ a (by simp) (by rw[xp,vF];simp) ?_ trivial ?_ ?_ ?_
   ·have aU:j<m+3:=by rw[<- am];exact(Array.getElem?_eq_some_iff.1 z).1
    by_cases hj:j<m
    ·exact(qjc aK).1 j o' (an j o' hj z) e he
    ·obtain rfl | rfl | rfl:j=m\/j=m+1\/j=m+2:=by omega
     ·rw[ai]at z;cases z;exact kN (k1 e he)
     ·rw[aj]at z;cases z;exact kN (k2 e he)
     ·rw[ah]at z;cases z;have:=kN (k3 e he);omega
   ·rw[aL];exact qaQ (a:=true) (b:=true) (c:=true) (K _ (by omega)) (K _ (by omega)) (K _ (by omega))
   ·have aU:j<m+3:=by rw[<- am];exact(Array.getElem?_eq_some_iff.1 z).1
    have d1:L (m+1)=true->L m=true := λ h=>ab hd aj (hd (m+1) o aj h) k5 m (xu m);by_cases hj:j<m
    ·have aH:=an j o' hj z
     have n5:L m=false:=by
      cases aA:L m with
      | false=>rfl
      | true=>rw[ab hd ai (hd m p ai aA) k4 j hj]at K;cases K
     have n7:L (m+2)=false:=by
      cases aA:L (m+2)with
      | false=>rfl
      | true=>rw[ab hd ah (hd (m+2) q ah aA) k6 j hj]at K;cases K
     have aY:qeb pre L := λ i r hr hi e he=>hd i r (ae i r hr) hi e he;obtain⟨y,aO,aN⟩:=qtN hT aK aY aH K hp
     have e1:G3 pre l s B v D t f L=F pre.toList l s L pre.size:=by
      exact qaQ (a:=false) (b:=false) (c:=L (pre.size+1)) (by rw[<- u];exact n7) (by rw[<- u];exact n5) rfl
     have V:G3 pre l s B v D t f (λ i=>decide (i=j)||L i)=F pre.toList l s (λ i=>decide (i=j)||L i) pre.size:=by
      exact qaQ (L := λ i=>decide (i=j)||L i) (a:=false) (b:=false) (c:=_) (by show(decide (_=j)||L _)=false;rw[A _ _ _ (by omega),<- u];exact n7) (by show(decide (_=j)||L _)=false;rw[A _ _ _ (by omega),<- u];exact n5) rfl
     rw[e1,V];refine⟨y,?_,aN⟩;rcases aO with⟨w1,w2⟩ | ⟨w1,w2⟩
     ·exact .inl ⟨qB4 ae w1,w2⟩
     ·exact .inr ⟨qB4 ae w1,w2⟩
    ·obtain rfl | rfl | rfl:j=m\/j=m+1\/j=m+2:=by omega
     ·rw[ai]at z;cases z;have aB:=ab hd ai hp k4
      have n6:L (j+1)=false:=by
       cases h:L (j+1)with
       | false=>rfl
       | true=>rw[d1 h]at K;cases K
      cases hn:L (j+2)with
      | false =>
        have e1:G3 pre l s B v D t f L=g:=by
         exact(qaQ (a:=false) (b:=false) (c:=false) (by rw[<- u];exact hn) (by rw[<- u];exact K) (by rw[<- u];exact n6)).trans (ao aB)
        have V:G3 pre l s B v D t f (λ i=>decide (i=j)||L i)=B :=
         qaQ (L := λ i=>decide (i=j)||L i) (a:=false) (b:=true) (c:=false) (by rw[<- u];show(decide (_=j)||L _)=false;rw[A _ _ _ (by omega)];exact hn) (by rw[<- u];exact E L j) (by rw[<- u];show(decide (_=j)||L _)=false;rw[A _ _ _ (by omega)];exact n6)
        rw[e1,V];refine⟨_,a5,?_⟩;rw[al,yF,aw];rfl
      | true =>
        have e1:G3 pre l s B v D t f L=D :=
         qaQ (a:=true) (b:=false) (c:=false) (by rw[<- u];exact hn) (by rw[<- u];exact K) (by rw[<- u];exact n6)
        have V:G3 pre l s B v D t f (λ i=>decide (i=j)||L i)=t :=
         qaQ (L := λ i=>decide (i=j)||L i) (a:=true) (b:=true) (c:=false) (by rw[<- u];show(decide (_=j)||L _)=true;rw[A _ _ _ (by omega)];exact hn) (by rw[<- u];exact E L j) (by rw[<- u];show(decide (_=j)||L _)=false;rw[A _ _ _ (by omega)];exact n6)
        rw[e1,V];refine⟨_,a2,?_⟩;rw[Z,az,yF,aw];rfl
     ·rw[aj]at z;cases z;have h5:=ab hd aj hp k5 m (xu m);cases hn:L (m+2)with
      | false =>
        have e1:G3 pre l s B v D t f L=B :=
         qaQ (a:=false) (b:=true) (c:=false) (by rw[<- u];exact hn) (by rw[<- u];exact h5) (by rw[<- u];exact K)
        have V:G3 pre l s B v D t f (λ i=>decide (i=m+1)||L i)=v :=
         qaQ (L := λ i=>decide (i=m+1)||L i) (a:=false) (b:=true) (c:=true) (by rw[<- u];show(decide (_=m+1)||L _)=false;rw[A _ _ _ (by omega)];exact hn) (by rw[<- u];show(decide (_=m+1)||L _)=true;rw[A _ _ _ (by omega)];exact h5) (by rw[<- u];exact E L (m+1))
        rw[e1,V];refine⟨_,a6,?_⟩;rw[ak,al,yF,av];rfl
      | true =>
        have e1:G3 pre l s B v D t f L=t :=
         qaQ (a:=true) (b:=true) (c:=false) (by rw[<- u];exact hn) (by rw[<- u];exact h5) (by rw[<- u];exact K)
        have V:G3 pre l s B v D t f (λ i=>decide (i=m+1)||L i)=f :=
         qaQ (L := λ i=>decide (i=m+1)||L i) (a:=true) (b:=true) (c:=true) (by rw[<- u];show(decide (_=m+1)||L _)=true;rw[A _ _ _ (by omega)];exact hn) (by rw[<- u];show(decide (_=m+1)||L _)=true;rw[A _ _ _ (by omega)];exact h5) (by rw[<- u];exact E L (m+1))
        rw[e1,V];refine⟨_,a1,?_⟩;rw[U,Z,yF,av];rfl
     ·rw[ah]at z;cases z;have aB:=ab hd ah hp k6;cases h5:L m with
      | false =>
        have n6:L (m+1)=false:=by
         cases h:L (m+1)with
         | false=>rfl
         | true=>rw[d1 h]at h5;cases h5
        have e1:G3 pre l s B v D t f L=g:=by
         exact(qaQ (a:=false) (b:=false) (c:=false) (by rw[<- u];exact K) (by rw[<- u];exact h5) (by rw[<- u];exact n6)).trans (ao aB)
        have V:G3 pre l s B v D t f (λ i=>decide (i=m+2)||L i)=D :=
         qaQ (L := λ i=>decide (i=m+2)||L i) (a:=true) (b:=false) (c:=false) (by rw[<- u];exact E L (m+2)) (by rw[<- u];show(decide (_=m+2)||L _)=false;rw[A _ _ _ (by omega)];exact h5) (by rw[<- u];show(decide (_=m+2)||L _)=false;rw[A _ _ _ (by omega)];exact n6)
        rw[e1,V];refine⟨_,a7,?_⟩;rw[az,yF,au];rfl
      | true =>
        cases h6:L (m+1)with
        | false =>
          have e1:G3 pre l s B v D t f L=B :=
           qaQ (a:=false) (b:=true) (c:=false) (by rw[<- u];exact K) (by rw[<- u];exact h5) (by rw[<- u];exact h6)
          have V:G3 pre l s B v D t f (λ i=>decide (i=m+2)||L i)=t :=
           qaQ (L := λ i=>decide (i=m+2)||L i) (a:=true) (b:=true) (c:=false) (by rw[<- u];exact E L (m+2)) (by rw[<- u];show(decide (_=m+2)||L _)=true;rw[A _ _ _ (by omega)];exact h5) (by rw[<- u];show(decide (_=m+2)||L _)=false;rw[A _ _ _ (by omega)];exact h6)
          rw[e1,V];refine⟨_,a0,?_⟩;rw[Z,al,yF,au];rfl
        | true =>
          have e1:G3 pre l s B v D t f L=v :=
           qaQ (a:=false) (b:=true) (c:=true) (by rw[<- u];exact K) (by rw[<- u];exact h5) (by rw[<- u];exact h6)
          have V:G3 pre l s B v D t f (λ i=>decide (i=m+2)||L i)=f :=
           qaQ (L := λ i=>decide (i=m+2)||L i) (a:=true) (b:=true) (c:=true) (by rw[<- u];exact E L (m+2)) (by rw[<- u];show(decide (_=m+2)||L _)=true;rw[A _ _ _ (by omega)];exact h5) (by rw[<- u];show(decide (_=m+2)||L _)=true;rw[A _ _ _ (by omega)];exact h6)
          rw[e1,V];refine⟨_,aM,?_⟩;rw[U,ak,yF,au];rfl
   ·intro i r hr a4;grind
   ·rw[aC];exact hi.drew
   ·rw[aC];exact ht
   ·intro Γ' w' a' g1 g2 g3 g4 g5;rw[aC]at g4;rw[aL,U]at g2 g3 g4;exact hq Γ' w' a' ((Ext.drew Γ w).trans g1) g2 g3 g4 g5
 | _=>rw[aE]at aa;cases aa
end
end Go.AmZ
namespace Go.AmZ
open Go Go.RowKit
section
variable {P:Program} {C:Cfg} {Γ : Gh} {σ : St} {w:World} {ops:Array Oper} {ex:Je} {l:List (AV × Option St)} {s0:S}
theorem qPG(q:yx P C)(k:qdV P ex)(o:qdY C ex ops l s0)(j:qb9 C.lo s0.tm ops=true){Q:Exit->Act->World->Prop}:∀(d:Nat) (c:Array Bool) (Γ : Gh) (w:World) (a:Act),c.size=ops.size->c.toList.countP (λ b => !b)=d->qeb ops (λ i=>c.getD i false) ->
  Inv Γ (F ops.toList l s0 (λ i=>c.getD i false) ops.size).σ w->zw Γ (F ops.toList l s0 (λ i=>c.getD i false) ops.size).tm a ->
  (∀ Γ' w' h,Ext Γ w Γ' w'->Inv Γ' (F ops.toList l s0 qv ops.size).σ w'->zw Γ' (F ops.toList l s0 qv ops.size).tm h->qW (F ops.toList l s0 (λ i=>c.getD i false) ops.size).σ (F ops.toList l s0 qv ops.size).σ -> h.defers=a.defers->Q .normal h w') ->
  wpAny P .any ops Q d c a w :=
 λ d c Γ w a e g f=>qF8 q k (Good := λ _=>True) (λ _ _ _=>trivial) (qjc j).1 (λ _ _ _ f _ n p m=>qtN o j f n p m) d c Γ w a e g f trivial
theorem qJG(g:yx P C)(m:qdV P ex){id:Nat}{b:Bool}{s d:S}(f:qb7 C.lo s.tm ops b=true)(h:zR C ex ops b ops.toList s=some d){a:Act}{Q:Exit->Act->World->Prop}(p:Inv Γ s.σ w)(n:zw Γ s.tm a)
  (o:∀ Γ' w' e,Ext Γ w Γ' w'->Inv Γ' d.σ w'->zw Γ' d.tm e->qW s.σ d.σ -> e.defers=a.defers->Q .normal e w'):(Code.region id ops b).wp P Q a w:=by
 cases b with
 | false =>
   refine wp_region ?_;have:=qBT g m (ops:=ops) ops.toList 0 s Γ w a (by simp) h p n o;rw[wM,<- List.range_eq_range']at this;exact this
 | true =>
   obtain⟨l,G,r,B,A⟩:=qjw ops.toList s d h;have z:qdY C ex ops l s:=qrW B A;rw[wM]at r;have f:qb9 C.lo s.tm ops=true:=f
   have c:∀ k,F ops.toList l s (λ i=>(Array.replicate ops.size false).getD i false) k=s:=by
    intro k
    induction k with
    | zero=>rfl
    | succ k u =>
      simp only[F]
      have:(Array.replicate ops.size false).getD k false=false:=by
       rw[wK,Array.getElem?_replicate];split<;>rfl
      rw[this];split
      ·rename_i y;cases y
      ·exact u
   refine wp_region_any g.mixed ?_;refine qPG g m z f ops.size _ Γ _ a (by simp) (by rw[xp,vF];simp) ?_ ?_ ?_ ?_
   ·intro i q v x;exfalso
    have:(Array.replicate ops.size false).getD i false=false:=by
     rw[wK,Array.getElem?_replicate];split<;>rfl
    grind
   ·rw[c];exact p.drew
   ·rw[c];exact n
   ·intro Γ' w' e E t g3 j D;rw[c]at j;rw[r]at t g3 j;exact o Γ' w' e ((Ext.drew Γ w).trans E) t g3 j D
def COk(P:Program)(ex:Je)(c:Code):Prop :=
 ∀ s e b,Qs c=true->ex c s=some (e,b)->∀ Γ w a,Inv Γ s.σ w->zw Γ s.tm a->a.defers=[] ->
  c.wp P (λ f d w'=>f=e.toExit/\d.defers=[]/\∃ Γ',Ext Γ w Γ' w'/\Inv Γ' b.σ w'/\zw Γ' b.tm d/\qW s.σ b.σ) a w
theorem qNS{s:S}{a:Act}(g:Inv Γ s.σ w)(f:zw Γ s.tm a)(t:Nat) :
  ∃ Γ',Ext Γ w Γ' w/\Inv Γ' (qc6 s t).σ w/\zw Γ' (qc6 s t).tm a/\qW s.σ (qc6 s t).σ := by
 unfold qc6;cases v:rsA (s.tm.getD t .dead)with
 | nil=>exact⟨Γ,.refl _ _,g,f,.refl _⟩
 | cons r l =>
   obtain⟨m,h,p,o⟩:=qdl (r::l) g ((r::l)++s.σ.wrr);refine⟨_,qld h w,p,?_,qrk (r::l)⟩;have n:Le Γ { Γ with mem:=m }:=(qld h w).le;have k:=qyq g n (λ q y=>o q (by rw[<- v];exact y)) (f.get t);have c:RepL { Γ with mem:=m } s.tm a.tmps.toList:=waI n f;refine⟨by rw[wJ];exact c.len,λ i x u b j=>?_⟩;by_cases d:t=i
   ·subst d;rw[List.getElem?_set_self (by have:=getElem?_lt b;simpa using this)]at b;cases b
    have:a.tmps.getD t undef=u:=by
     rw[wK,<- Array.getElem?_toList,j];rfl
    rw[this]at k;exact k
   ·rw[List.getElem?_set_ne d]at b;exact c.rep i x u b j
theorem qER{a:Act}:∀(ts:List Nat) {s:S} {Γ : Gh},Inv Γ s.σ w->zw Γ s.tm a ->
  ∃ Γ',Ext Γ w Γ' w/\Inv Γ' (qf8 ts s).σ w/\zw Γ' (qf8 ts s).tm a/\qW s.σ (qf8 ts s).σ
 | [],s,Γ,d,c=>⟨Γ,.refl _ _,d,c,.refl _⟩
 | t::ts,s,Γ,d,c=>by
   obtain⟨e,m,l,k,j⟩:=qNS d c t;obtain⟨b,i,h,g,f⟩:=qER ts l k;exact⟨b,m.trans i,h,g,j.trans f⟩
theorem qNu{b:Code}{n:Nat}(o:∀ m,m<n->COk P (qac C m) b){s:S}{e:Ex}{g:S}(z:Qs b=true)(h:qac C n (.loop b) s=some (e,g)){a:Act}(hi:Inv Γ s.σ w)(ht:zw Γ s.tm a)(I:a.defers=[]) :
  (Code.loop b).wp P (λ A f w'=>A=e.toExit/\f.defers=[]/\∃ Γ',Ext Γ w Γ' w'/\Inv Γ' g.σ w'/\zw Γ' g.tm f/\qW s.σ g.σ) a w:=by
 let J:Nat->Act->World->Prop := λ m d c=>m<=n/\∃ r i,qac C m (.loop b) r=some (e,g)/\Ext Γ w i c/\Inv i r.σ c/\zw i r.tm d/\d.defers=[]/\qW s.σ r.σ
 have j:∀ d c,(∃ m,J m d c)->∃ m,J m d c/\∀ k,J k d c->m<=k:=by
  rintro d c ⟨m,R⟩
  induction m using Nat.strongRecOn with
  | _ m Z =>
    by_cases z:∃ k,k<m/\J k d c
    ·obtain⟨k,H,G⟩:=z;exact Z k H G
    ·exact⟨m,R,λ k L=>wae λ F=>z ⟨k,F,L⟩⟩
 classical
 let t:Act->World->Nat := λ d c=>if h:∃ m,J m d c then Classical.choose (j d c h)else 0
 have u:∀ d c,(h:∃ m,J m d c)->J (t d c) d c/\∀ k,J k d c->t d c<=k:=by
  intro d c h;grind
 refine wp_loop (λ d c=>∃ m,J m d c) t ⟨n,wb _,s,Γ,h,.refl _ _,hi,ht,I,.refl _⟩ ?_;intro d c L;obtain⟨K,_⟩:=u d c L;obtain⟨v,r,i,T,N,h3,h4,h5,M⟩:=K;generalize R:t d c=m at *;cases m with
 | zero=>simp[qac]at T
 | succ m =>
   simp only[qac,qcP]at T;obtain⟨B,Y,X,W,V⟩:=qER (C.pur b) h3 h4
   have U:∀ e1 q,qac C m b (qf8 (C.pur b) r)=some (e1,q)->(e1 = .normal/\qac C m (.loop b) q=some (e,g)\/(e1 ≠ .normal/\e1=e/\q=g)) ->
     b.wp P (Exit.then (λ f w'=>(∃ m,J m f w')/\t f w'<m+1) (λ A f w'=>A=e.toExit/\f.defers=[]/\∃ Γ',Ext Γ w Γ' w'/\Inv Γ' g.σ w'/\zw Γ' g.tm f/\qW s.σ g.σ)) d c:=by
    intro e1 q hb D;refine wp_mono (o m v _ e1 q z hb B c d X W h5) ?_;rintro A f w' ⟨rfl,Q,l,y,O,g3,x⟩;have y:=Y.trans y;have x:=V.trans x;rcases D with⟨rfl,hl⟩ | ⟨E,rfl,rfl⟩
    ·have p:J m f w':=⟨Nat.le_of_succ_le v,q,l,hl,N.trans y,O,g3,Q,M.trans x⟩
     exact⟨⟨m,p⟩,Nat.lt_succ_of_le ((u f w' ⟨m,p⟩).2 m p)⟩
    ·cases e1 with
     | normal=>exact absurd rfl E
     | exit id=>exact⟨rfl,Q,l,N.trans y,O,g3,M.trans x⟩
     | ret=>exact⟨rfl,Q,l,N.trans y,O,g3,M.trans x⟩
   grind
theorem qx0(U:yx P C):∀ n,qdV P (qac C n):=by
 intro n
 induction n using Nat.strongRecOn with
 | _ n V =>
   cases n with
   | zero=>intro c s e J _ h;simp[qac]at h
   | succ n =>
     have j:=V n (xu n);intro c s e J A h Γ w a z v f;cases c with
     | skip =>
       simp only[qac,qcP,wz,wR]at h;obtain⟨rfl,rfl⟩:=h;exact wp_skip ⟨rfl,f,Γ,.refl _ _,z,v,.refl _⟩
     | label k =>
       simp only[qac,qcP,wz,wR]at h;obtain⟨rfl,rfl⟩:=h;exact wp_label ⟨rfl,f,Γ,.refl _ _,z,v,.refl _⟩
     | exit id =>
       simp only[qac,qcP,wz,wR]at h;obtain⟨rfl,rfl⟩:=h;exact wp_exit ⟨rfl,f,Γ,.refl _ _,z,v,.refl _⟩
     | ret =>
       simp only[qac,qcP,wz,wR]at h;obtain⟨rfl,rfl⟩:=h;exact wp_ret ⟨rfl,f,Γ,.refl _ _,z,v,.refl _⟩
     | region id ops M =>
       simp only[qac,qcP]at h;split at h
       ·rename_i E;have H:M=true:=by unfold qlV at E;rw[wd]at E;exact E.1
        subst H;split at h<;>try cases h
        rename_i d l;rw[wd,wd]at d;split at h<;>try cases h
        rename_i o;split at h<;>cases h;rename_i F;refine qGY U j d.1 d.2.1 d.2.2 l o F z v ?_;intro Γ' w' N u t g3 q L;exact⟨rfl,by rw[L,f],Γ',u,t,g3,q⟩
       ·split at h
        ·rename_i p K;obtain⟨H,_⟩:=qFk K;subst H;split at h<;>try cases h
         rename_i d l;split at h<;>cases h;rename_i T o;refine qHH U j K d l T o z v ?_;intro Γ' w' N u t g3 q L;exact⟨rfl,by rw[L,f],Γ',u,t,g3,q⟩
        ·split at h<;>cases h;rename_i d l;refine qJG U j d l z v ?_;intro Γ' w' N u t g3 q L;exact⟨rfl,by rw[L,f],Γ',u,t,g3,q⟩
     | seq x y =>
       simp only[qac,qcP]at h;simp only[Qs,wd]at A;refine wp_seq ?_;cases D:qac C n x s with
       | none=>rw[D]at h;cases h
       | some r =>
         obtain⟨e1,O⟩:=r;rw[D]at h;refine wp_mono (j x s e1 O A.1 D Γ w a z v f) ?_;rintro e' N w' ⟨rfl,B,g,u,t,g3,q⟩;cases e1 with
         | normal =>
           refine wp_mono (j y O e J A.2 h g w' N t g3 B) ?_;rintro aa ab W ⟨rfl,q0,S,q1,Z,Y,X⟩;exact⟨rfl,q0,S,u.trans q1,Z,Y,q.trans X⟩
         | exit id=>cases h;exact⟨rfl,B,g,u,t,g3,q⟩
         | ret=>cases h;exact⟨rfl,B,g,u,t,g3,q⟩
     | cond c x y =>
       simp only[qac,qcP]at h;simp only[Qs,wd]at A;have Q:=zw.ev v c;split at h
       ·rename_i I;rw[I]at Q;exact wp_cond_true (zm Q) (j x s e J A.1 h Γ w a z v f)
       ·rename_i I;rw[I]at Q;exact wp_cond_false (zm Q) (j y s e J A.2 h Γ w a z v f)
       ·cases h
     | block id b =>
       simp only[qac,qcP]at h;simp only[Qs]at A;refine wp_block ?_;cases D:qac C n b s with
       | none=>rw[D]at h;cases h
       | some r =>
         obtain⟨e1,O⟩:=r;rw[D]at h;refine wp_mono (j b s e1 O A D Γ w a z v f) ?_;rintro e' N w' ⟨rfl,B,g,u,t,g3,q⟩;cases e1 with
         | normal=>cases h;exact⟨rfl,B,g,u,t,g3,q⟩
         | ret=>cases h;exact⟨rfl,B,g,u,t,g3,q⟩
         | exit i =>
           simp only[wz,wR]at h;obtain⟨R,rfl⟩:=h;show if i=id then _ else _;split
           ·rename_i G;rw[if_pos G]at R;subst R;exact⟨rfl,B,g,u,t,g3,q⟩
           ·rename_i G;rw[if_neg G]at R;subst R;exact⟨rfl,B,g,u,t,g3,q⟩
     | loop b =>
       exact qNu (n:=n+1) (λ m hm => λ s e J A h=>V m hm b s e J A h) A h z v f
     | _=>simp only[qac,qcP]at h;cases h
end
end Go.AmZ
namespace Go.AmZ
open Go Go.RowKit
structure PC where
 ty:Nat->Option TD
 pf:Nat->Option (List AV->Option AV)
 sp:Nat->Option (St->List AV->Option (AV × Option St))
 pur:Code->List Nat
 ld:Nat->Bool
def emp:St:=⟨[],[],[],[]⟩
def Q6(x:AV):Bool:=(rb x).isEmpty&&(rr x).isEmpty
def noRefs(xs:List AV):Bool:=xs.all Q6
def JE(p:List AV->Option AV):St->List AV->Option (AV × Option St) := λ σ a =>
 match σ with
 | ⟨[],[],[],[]⟩=>match p a with
   | some v=>some (v,none)
   | none=>none
 | _=>none
def PC.prim(c:PC)(f:Nat):Option (St->List AV->Option (AV × Option St)):=match c.pf f with | some p=>some (JE p) | none=>c.sp f
def PC.raw(c:PC)(f:Nat):Bool:=match c.pf f with | some _=>false | none=>(c.sp f).isSome
def PC.cfg(c:PC):Cfg:=⟨c.ty,λ _=>none,c.prim,c.raw,c.pur,λ f=>c.raw f||c.ld f⟩
def qdt(c:PC)(f:Nat)(σ : St)(a:List AV):Option (AV × Option St) :=
 match c.pf f with
 | some p=>match noRefs (a.map (QP σ.rw))with
   | true=>match p (a.map (QP σ.rw))with
     | some v=>match Q6 v with
       | true=>match ql6 v,a.flatMap rsA with
         | true,_=>some (v,none)
         | _,[]=>some (v,none)
         | _,r::l=>some (v,some { σ with rw:=frz σ.rw (r::l),wrr:=(r::l) ++ σ.wrr })
       | false=>none
     | none=>none
   | false=>none
 | none=>match c.sp f with
   | some p=>qam σ a p
   | none=>none
def qpw(c:PC)(tm:List AV)(σ : St)(op:Op):Option (AV × Option St) :=
 match op with
 | .call ⟨.builtin b,a,ts⟩=>jJ c.cfg σ b ts (a.toList.map (aev tm))
 | .call ⟨.value g,a,_⟩=>match aev tm g with
   | .fn f d=>qdt c f σ (a.toList.map (aev tm)++d)
   | _=>none
 | .call _=>none
 | op=>qc c.cfg tm σ op
def QR(c:PC)(ops:Array Oper)(b:Bool):List Oper->S->Option S
 | [],s=>some s
 | o::a,s=>match yL ops s.tm o with
   | some true=>match qpw c s.tm s.σ o.op with
     | some (x,none)=>QR c ops b a ⟨qcr s.tm o.dst x,s.σ⟩
     | some (x,some σ')=>match b && !(yt c.cfg.lo o.op&&qcW c.cfg ops (ops.size-(a.length+1)) s.tm s.σ o.op)with
       | true=>none
       | false=>QR c ops b a ⟨qcr s.tm o.dst x,σ'⟩
     | none=>none
   | some false=>QR c ops b a ⟨qcr s.tm o.dst ql1,s.σ⟩
   | none=>none
def ju(c:PC)(ex:Je):Je
 | .skip,s=>some (.normal,s)
 | .label _,s=>some (.normal,s)
 | .region _ ops d,s=>match qlV ops d with
   | true=>match qjM c.cfg.lo ops.toList&&(qb7 c.cfg.lo s.tm ops true&&qb7 c.cfg.lo s.tm ⟨zi c.cfg.lo ops.toList⟩ true),QR c ⟨zi c.cfg.lo ops.toList⟩ true (zi c.cfg.lo ops.toList) s with
     | true,some f=>match QR c ops false (alL c.cfg.lo ops.toList) f with
       | some g=>match QR c ops true (qsn c.cfg.lo ops.toList) g with
         | some e=>some (.normal,e)
         | none=>none
       | none=>none
     | _,_=>none
   | false=>match qre ops d with
     | some p=>match qb7 c.cfg.lo s.tm (qcO ops) true,QR c (qcO ops) true (qcO ops).toList s with
       | true,some f=>match quZ f.tm ops p,QR c ops true (qh1 ops) f with
         | true,some e=>some (.normal,e)
         | _,_=>none
       | _,_=>none
     | none=>match qb7 c.cfg.lo s.tm ops d,QR c ops d ops.toList s with
       | true,some e=>some (.normal,e)
       | _,_=>none
 | .seq a b,s=>match ex a s with
   | some (.normal,e)=>ex b e
   | r=>r
 | .cond t x y,s=>match aev s.tm t with
   | .v (.bool true)=>ex x s
   | .v (.bool false)=>ex y s
   | _=>none
 | .block id b,s=>match ex b s with
   | some (.exit i,e)=>some (if i=id then .normal else .exit i,e)
   | r=>r
 | .loop b,s=>match ex b (qf8 (c.pur b) s)with
   | some (.normal,e)=>ex (.loop b) e
   | r=>r
 | .exit id,s=>some (.exit id,s)
 | .ret,s=>some (.ret,s)
 | _,_=>none
def zO(c:PC):Nat->Je
 | 0 => λ _ _=>none
 | n+1=>ju c (zO c n)
mutual
theorem quk{fb fr:Nat->Nat}:∀ x:AV,rb x=[]->rr x=[]->ren fb fr x=x
 | .v _,_,_=>rfl
 | .dead,_,_=>rfl
 | .sl ..,_,_=>rfl
 | .rs ..,_,h=>by simp[rr]at h
 | .ptr ..,h,_=>by simp[rb]at h
 | .rpt ..,_,h=>by simp[rr]at h
 | .ept ..,_,_=>rfl
 | .fn f cs,h,g=>by rw[ren,qe6 cs (by simpa[rb]using h) (by simpa[rr]using g)]
 | .agg cs,h,g=>by rw[ren,qe6 cs (by simpa[rb]using h) (by simpa[rr]using g)]
 | .tup cs,h,g=>by rw[ren,qe6 cs (by simpa[rb]using h) (by simpa[rr]using g)]
theorem qe6{fb fr:Nat->Nat}:∀ xs:List AV,rbL xs=[]->rrL xs=[]->zd fb fr xs=xs
 | [],_,_=>rfl
 | x::xs,h,g=>by
   simp only[rbL,rrL,wT]at h g;rw[zd,quk x h.1 g.1,qe6 xs h.2 g.2]
end
theorem qfM{x:AV}(h:Q6 x=true):rb x=[]/\rr x=[]:=by
 grind [Q6]
theorem qjm:∀{xs:List AV},noRefs xs=true->rbL xs=[]/\rrL xs=[]
 | [],_=>⟨rfl,rfl⟩
 | x::xs,h=>by
   simp only[noRefs,kC,wd]at h;obtain⟨d,c⟩:=qfM h.1;obtain⟨b,a⟩:=qjm (xs:=xs) h.2;grind [rbL,rrL]
theorem qwK{σ : St}{a:List AV}{p:List AV->Option AV}{v:AV}(i:noRefs a=true)(h:p a=some v)(f:Q6 v=true):qam σ a (λ σ a=>JE p σ a)=some (v,none):=by
 obtain⟨d,c⟩:=qjm i;obtain⟨k,j⟩:=qfM f
 have b:Q9 σ a=[]:=by
  unfold Q9;rw[d];show qoJ σ.bx σ.bx.length []=[];cases σ.bx.length with
  | zero=>rfl
  | succ n=>rfl
 have e:qcV σ a=[]:=by
  unfold qcV;rw[b,c];rfl
 unfold qam
 have g:qjl σ a=true:=by
  unfold qjl;rw[b,e,d,c];rfl
 rw[g];simp only;rw[b,e,qe6 a d c];have:qO σ [] []=⟨[],[],[],[]⟩:=rfl;rw[this];simp only[JE,h,qjh];rw[quk v k j]
theorem qL1{c:PC}{ex:Je}{f:Nat}{σ : St}{a:List AV}{r:AV × Option St}(h:qdt c f σ a=some r):qhf c.cfg ex σ f a=some r:=by
 unfold qdt at h;split at h
 rotate_left
 ·rename_i g;split at h<;>try cases h
  rename_i p e;have b:c.cfg.raw f=true:=by show c.raw f=true;unfold PC.raw;rw[g,e];rfl
  have d:(λ(σ : St) a=>qes c.cfg ex σ f a)=p:=by
   funext σ a;unfold qes;simp only[PC.cfg,PC.prim,g,e]
  grind [qhf,qi7]
 rename_i p g;split at h<;>try cases h
 rename_i i;split at h<;>try cases h
 rename_i v j;split at h<;>try cases h
 rename_i k
 have d:∀ σ : St,(λ(σ : St) a=>qes c.cfg ex σ f a) = λ σ a=>JE p σ a := λ _=>by
  funext σ a;unfold qes;simp only[PC.cfg,PC.prim,g]
 have b:c.cfg.raw f=false:=by show c.raw f=false;unfold PC.raw;rw[g]
 unfold qhf qi7;rw[b];obtain⟨o,n⟩:=qjm i;cases m:a.flatMap rsA with
 | nil =>
   have:r=(v,none):=by
    grind
   subst this;simp only;rw[d σ];exact qwK i j k
 | cons q l =>
   simp only;rw[d σ,qwK i j k];grind [qv9]
theorem qFH{c:PC}{ex:Je}{tm:List AV}{σ : St}{op:Op}{r:AV × Option St}(h:qpw c tm σ op=some r):opA c.cfg ex tm σ op=some r:=by
 unfold qpw at h;split at h
 ·exact h
 ·rename_i g b ts;split at h<;>try cases h
  rename_i f a d;simp only[opA,qle,d];exact qL1 h
 ·cases h
 ·grind [opA]
theorem qaO{c:PC}{ex:Je}{ops:Array Oper}{a:Bool}:∀{l:List Oper} {s d:S},QR c ops a l s=some d->zR c.cfg ex ops a l s=some d
 | [],s,d,h=>h
 | o::f,s,d,h=>by
   simp only[QR]at h;simp only[zR];split at h
   ·rename_i e;rw[e];simp only;split at h
    ·rename_i x b;rw[qFH b];exact qaO h
    ·rename_i x σ' b;rw[qFH b];simp only;split at h
     ·cases h
     ·rename_i g;rw[g];exact qaO h
    ·cases h
   ·rename_i e;rw[e];exact qaO h
   ·cases h
theorem qCL{c:PC}:∀{n:Nat} {cd:Code} {s:S} {r:Ex × S},zO c n cd s=some r->qac c.cfg n cd s=some r:=by
 intro n
 induction n with
 | zero=>intro cd s r h;simp[zO]at h
 | succ n o =>
   intro cd s r h;simp only[zO]at h;simp only[qac];cases cd with
   | region id ops m =>
     simp only[ju]at h;simp only[qcP];split at h
     ·rename_i e;rw[e];simp only;split at h<;>try cases h
      rename_i i g;rw[qaO g,i];simp only;split at h<;>try cases h
      rename_i f;rw[qaO f];simp only;split at h<;>cases h;rename_i k;rw[qaO k]
     ·rename_i e;rw[e];simp only;split at h
      ·rename_i p d;rw[d];simp only;split at h<;>try cases h
       rename_i i g;rw[qaO g,i];simp only;split at h<;>cases h;rename_i l f;rw[qaO f,l]
      ·rename_i d;rw[d];simp only;split at h<;>cases h;rename_i i g;rw[qaO g,i]
   | seq a b =>
     grind [ju,qcP]
   | cond t x y =>
     grind [ju,qcP]
   | block id b =>
     grind [ju,qcP]
   | loop b =>
     simp only[ju]at h;simp only[qcP];cases j:zO c n b (qf8 (c.pur b) s)with
     | none=>rw[j]at h;cases h
     | some q =>
       rw[j]at h;rw[show qac c.cfg n b (qf8 (c.cfg.pur b) s)=_ from o j];grind
   | _=>exact h
theorem qGR{c:PC}:∀{n:Nat} {cd:Code} {s:S} {r:Ex × S},zO c n cd s=some r->zO c (n+1) cd s=some r:=by
 intro n
 induction n with
 | zero=>intro cd s r h;simp[zO]at h
 | succ n d =>
   intro cd s r h;rw[zO]at h |-
   cases cd with
   | seq a b =>
     grind [ju]
   | cond t x y =>
     grind [ju]
   | block id b =>
     grind [ju]
   | loop b =>
     grind [ju]
   | _=>exact h
theorem qpN{c:PC}{n m:Nat}(a:n<=m){cd:Code}{s:S}{r:Ex × S}(h:zO c n cd s=some r):zO c m cd s=some r:=by
 induction a with
 | refl=>exact h
 | step _ b=>exact qGR b
def Run(c:PC)(cd:Code)(s:S)(K:Ex->S->Prop):Prop:=∃ n e a,zO c n cd s=some (e,a)/\K e a
inductive It where
 | code (c:Code) | blk (id:Nat) | ops (os:Array Oper) (draw:Bool) (rest:List Oper)
def Go(c:PC)(Q:Ex->S->Prop):List It->Ex->S->Prop
 | [],e,s=>Q e s
 | .code cd::k,.normal,s=>Run c cd s λ e b=>Go c Q k e b
 | .code _::k,e,s=>Go c Q k e s
 | .blk id::k,.exit i,s=>Go c Q k (if i=id then .normal else .exit i) s
 | .blk _::k,e,s=>Go c Q k e s
 | .ops f d a::k,.normal,s=>∃ b,QR c f d a s=some b/\Go c Q k .normal b
 | .ops _ _ _::k,e,s=>Go c Q k e s
section
variable {c:PC} {Q:Ex->S->Prop} {k:List It} {tm:List AV} {σ : St} {s:S}
theorem qIX{cd:Code}{K:Ex->S->Prop}(h:∀ n,∀ r,ju c (zO c n) cd s=some r↔r=(.normal,s)):Run c cd s K↔K .normal s:=by
 constructor
 ·rintro⟨n,e,f,a,d⟩;cases n with
  | zero=>simp[zO]at a
  | succ n=>have:=(h n _).1 a;cases this;exact d
 ·intro b;exact⟨1,_,_,(h 0 _).2 rfl,b⟩
theorem qPc(e:Ex):Go c Q [] e s=Q e s:=rfl
theorem qLE:Go c Q (.code .skip::k) .normal s=Go c Q k .normal s :=
 propext (qIX (c:=c) (s:=s) (cd := .skip) (K := λ e a=>Go c Q k e a) λ n r=>⟨λ h=>by cases h;rfl,λ h=>by rw[h];rfl⟩)
theorem qLw(l:Nat):Go c Q (.code (.label l)::k) .normal s=Go c Q k .normal s :=
 propext (qIX (c:=c) (s:=s) (cd := .label l) (K := λ e a=>Go c Q k e a) λ n r=>⟨λ h=>by cases h;rfl,λ h=>by rw[h];rfl⟩)
theorem qMt(id:Nat):Go c Q (.code (.exit id)::k) .normal s=Go c Q k (.exit id) s:=by
 apply propext;constructor
 ·rintro⟨n,e,d,a,b⟩;cases n with
  | zero=>simp[zO]at a
  | succ n=>simp only[zO,ju,wz,wR]at a;obtain⟨rfl,rfl⟩:=a;exact b
 ·intro h;exact⟨1,_,_,rfl,h⟩
theorem qM6:Go c Q (.code .ret::k) .normal s=Go c Q k .ret s:=by
 apply propext;constructor
 ·rintro⟨n,e,d,a,b⟩;cases n with
  | zero=>simp[zO]at a
  | succ n=>simp only[zO,ju,wz,wR]at a;obtain⟨rfl,rfl⟩:=a;exact b
 ·intro h;exact⟨1,_,_,rfl,h⟩
theorem qD4(cd:Code):Go c Q (.code cd::k) .ret s=Go c Q k .ret s:=rfl
theorem qCW(cd:Code)(i:Nat):Go c Q (.code cd::k) (.exit i) s=Go c Q k (.exit i) s:=rfl
theorem qAA(id:Nat):Go c Q (.blk id::k) .normal s=Go c Q k .normal s:=rfl
theorem qHu(id:Nat):Go c Q (.blk id::k) .ret s=Go c Q k .ret s:=rfl
theorem qEG(id i:Nat):Go c Q (.blk id::k) (.exit i) s=Go c Q k (if i=id then .normal else .exit i) s:=rfl
theorem qPs(a b:Code):Go c Q (.code (.seq a b)::k) .normal s=Go c Q (.code a :: .code b::k) .normal s:=by
 apply propext;show Run c (.seq a b) s (λ e f=>Go c Q k e f)↔Run c a s λ e f=>Go c Q (.code b::k) e f;constructor
 ·rintro⟨n,e,f,d,g⟩;cases n with
  | zero=>simp[zO]at d
  | succ n =>
    simp only[zO,ju]at d;split at d
    ·rename_i h l;exact⟨n,_,h,l,n,e,f,d,g⟩
    ·rename_i j;refine⟨n,e,f,d,?_⟩;cases e with
     | normal=>exact absurd d (j f)
     | exit i=>exact g
     | ret=>exact g
 ·rintro⟨n,e,h,d,g⟩;cases e with
  | normal =>
    obtain⟨m,e,f,p,o⟩:=g;refine⟨n+m+1,e,f,?_,o⟩;simp only[zO,ju];rw[qpN (by omega) d];exact qpN (by omega) p
  | exit i=>exact⟨n+1,_,h,by simp only[zO,ju];rw[d],g⟩
  | ret=>exact⟨n+1,_,h,by simp only[zO,ju];rw[d],g⟩
theorem qLi(id:Nat)(b:Code):Go c Q (.code (.block id b)::k) .normal s=Go c Q (.code b :: .blk id::k) .normal s:=by
 apply propext;show Run c (.block id b) s (λ e g=>Go c Q k e g)↔Run c b s λ e g=>Go c Q (.blk id::k) e g;constructor
 ·rintro⟨n,e,g,a,f⟩;cases n with
  | zero=>simp[zO]at a
  | succ n =>
    simp only[zO,ju]at a;cases h:zO c n b s with
    | none=>rw[h]at a;cases a
    | some q =>
      rw[h]at a;obtain⟨e1,d⟩:=q;refine⟨n,e1,d,h,?_⟩;cases e1<;>(simp only[wz,wR]at a;obtain⟨rfl,rfl⟩:=a;exact f)
 ·rintro⟨n,e,d,a,f⟩;cases e with
  | normal=>exact⟨n+1,_,d,by simp only[zO,ju];rw[a],f⟩
  | exit i=>exact⟨n+1,_,d,by simp only[zO,ju];rw[a],f⟩
  | ret=>exact⟨n+1,_,d,by simp only[zO,ju];rw[a],f⟩
theorem go_loop(b:Code):Go c Q (.code (.loop b)::k) .normal s=Go c Q (.code b :: .code (.loop b)::k) .normal (qf8 (c.pur b) s):=by
 apply propext;show Run c (.loop b) s (λ e d=>Go c Q k e d)↔Run c b (qf8 (c.pur b) s) λ e d=>Go c Q (.code (.loop b)::k) e d;constructor
 ·rintro⟨n,e,d,a,f⟩;cases n with
  | zero=>simp[zO]at a
  | succ n =>
    simp only[zO,ju]at a;split at a
    ·rename_i g j;exact⟨n,_,g,j,n,e,d,a,f⟩
    ·rename_i h;refine⟨n,e,d,a,?_⟩;cases e with
     | normal=>exact absurd a (h d)
     | exit i=>exact f
     | ret=>exact f
 ·rintro⟨n,e,g,a,f⟩;cases e with
  | normal =>
    obtain⟨m,e,d,o,l⟩:=f;refine⟨n+m+1,e,d,?_,l⟩;simp only[zO,ju];rw[qpN (by omega) a];exact qpN (by omega) o
  | exit i=>exact⟨n+1,_,g,by simp only[zO,ju];rw[a],f⟩
  | ret=>exact⟨n+1,_,g,by simp only[zO,ju];rw[a],f⟩
theorem qHN (rw:List Row) (y:AV):rsA (QP rw y)=[]:=by
 have b:∀ x,rsC (zk rw x)=[]:=by
  intro x;cases x with
  | rs r lo n a f =>
    simp only [zk];split
    ·split<;>rfl
    ·rfl
  | _=>rfl
 cases y with
 | agg cs =>
   show (cs.map (zk rw)).flatMap rsC=[];rw [vh];exact kI.2 λ x _=>b x
 | rs r lo n a f =>
   show rsA (zk rw (.rs r lo n a f))=[];simp only [zk];split
   ·split<;>rfl
   ·rfl
 | _=>rfl
def qGB(ts:List Nat)(s:S):Prop:=∀ t∈ts,rsA (s.tm.getD t .dead)=[]
theorem qHl(s:S)(t u:Nat)(h:u=t\/rsA (s.tm.getD u .dead)=[]):rsA ((qc6 s t).tm.getD u .dead)=[]:=by
 unfold qc6;cases c:rsA (s.tm.getD t .dead)with
 | nil =>
   grind
 | cons r l =>
   show rsA ((s.tm.set t _).getD u .dead)=[];by_cases d:t=u
   ·subst d
    have a:t<s.tm.length:=by
     apply wad;intro b;rw[List.getD_eq_getElem?_getD,List.getElem?_eq_none b]at c;cases c
    rw[List.getD_eq_getElem?_getD,List.getElem?_set_self a];exact qHN _ _
   ·grind
theorem qwI:∀(ts:List Nat) (s:S) (us:List Nat),qGB us s->qGB (us++ts) (qf8 ts s)
 | [],s,us,h=>by rw[wA];exact h
 | t::ts,s,us,h=>by
   have:=qwI ts (qc6 s t) (us++[t]) (λ u a=>qHl s t u (by
    rcases wx.1 a with a | a
    ·exact .inr (h u a)
    ·exact .inl (by simpa using a)))
   rw[wi]at this;exact this
theorem qFe:∀(ts:List Nat) (s:S),qGB ts s->qf8 ts s=s
 | [],s,h=>rfl
 | t::ts,s,h=>by
   have e:qc6 s t=s:=by unfold qc6;rw[h t (wh ..)]
   show qf8 ts (qc6 s t)=s;rw[e];exact qFe ts s λ u a=>h u (wg _ a)
theorem qO7(b:Code):Go c Q (.code (.loop b)::k) .normal (qf8 (c.pur b) s)=Go c Q (.code (.loop b)::k) .normal s:=by
 rw[go_loop,go_loop,qFe _ _ (by have:=qwI (c.pur b) s [] (λ _ h=>by cases h);simpa using this)]
def qG7(c:PC)(Q:Ex->S->Prop)(k:List It)(s:S)(x y:Code):AV->Prop
 | .v (.bool true)=>Go c Q (.code x::k) .normal s
 | .v (.bool false)=>Go c Q (.code y::k) .normal s
 | _=>False
theorem qNO(t:Operand)(x y:Code):Go c Q (.code (.cond t x y)::k) .normal ⟨tm,σ⟩=qG7 c Q k ⟨tm,σ⟩ x y (aev tm t):=by
 apply propext;show Run c (.cond t x y) ⟨tm,σ⟩ (λ e b=>Go c Q k e b)↔_;constructor
 ·rintro⟨n,e,b,a,f⟩;cases n with
  | zero=>simp[zO]at a
  | succ n =>
    simp only[zO,ju]at a;split at a
    ·rename_i d;rw[d];exact⟨n,e,b,a,f⟩
    ·rename_i d;rw[d];exact⟨n,e,b,a,f⟩
    ·cases a
 ·intro h;unfold qG7 at h;split at h
  ·rename_i d;obtain⟨n,e,b,a,f⟩:=h;exact⟨n+1,e,b,by simp only[zO,ju,d];exact a,f⟩
  ·rename_i d;obtain⟨n,e,b,a,f⟩:=h;exact⟨n+1,e,b,by simp only[zO,ju,d];exact a,f⟩
  ·exact h.elim
theorem qIo(x y:Code):qG7 c Q k s x y (.v (.bool true))=Go c Q (.code x::k) .normal s:=rfl
theorem qHn(x y:Code):qG7 c Q k s x y (.v (.bool false))=Go c Q (.code y::k) .normal s:=rfl
theorem qHj(id:Nat)(l:List Oper)(d:Bool){p:Tmp}(f:qlV ⟨l⟩ d=false)(b:qre ⟨l⟩ d=some p)(j:qb7 c.cfg.lo s.tm (qcO ⟨l⟩) true=true)(h:Go c (λ e a=>quZ a.tm ⟨l⟩ p=true/\Go c Q (.ops ⟨l⟩ true (qh1 ⟨l⟩)::k) .normal a) (.ops (qcO ⟨l⟩) true (qcO ⟨l⟩).toList::[]) .normal s):Go c Q (.code (.region id ⟨l⟩ d)::k) .normal s:=by
 obtain⟨a,o,i,g,n,m⟩:=h;refine⟨1,.normal,g,?_,m⟩;simp only[zO,ju,f,b];rw[j,o];simp only;rw[i,n]
theorem go_region(id:Nat)(l:List Oper)(d:Bool)(f:qlV ⟨l⟩ d=false)(b:qre ⟨l⟩ d=none):Go c Q (.code (.region id ⟨l⟩ d)::k) .normal s=(qb7 c.cfg.lo s.tm ⟨l⟩ d=true/\Go c Q (.ops ⟨l⟩ d l::k) .normal s):=by
 apply propext;constructor
 ·rintro⟨n,e,i,a,h⟩;cases n with
  | zero=>simp[zO]at a
  | succ n =>
    simp only[zO,ju,f,b]at a;split at a<;>cases a;rename_i g j;exact⟨g,_,j,h⟩
 ·rintro⟨g,i,a,h⟩;exact⟨1,.normal,i,by simp only[zO,ju,f,b];rw[g,a],h⟩
theorem qHC(id:Nat)(l:List Oper)(d:Bool)(a:qlV ⟨l⟩ d=true)(j:qjM c.cfg.lo l=true)(e:qb7 c.cfg.lo s.tm ⟨l⟩ true=true)(m:qb7 c.cfg.lo s.tm ⟨zi c.cfg.lo l⟩ true=true)(h:Go c Q (.ops ⟨zi c.cfg.lo l⟩ true (zi c.cfg.lo l) :: .ops ⟨l⟩ false (alL c.cfg.lo l) :: .ops ⟨l⟩ true (qsn c.cfg.lo l)::k) .normal s):Go c Q (.code (.region id ⟨l⟩ d)::k) .normal s:=by
 obtain⟨i,p,g,o,b,n,f⟩:=h;refine⟨1,.normal,b,?_,f⟩;simp only[zO,ju,a];grind
theorem qG8(b:Array Oper)(d:Bool):Go c Q (.ops b d []::k) .normal s=Go c Q k .normal s:=by
 apply propext;constructor
 ·rintro⟨f,a,e⟩;simp only[QR,wz]at a;subst a;exact e
 ·intro h;exact⟨s,rfl,h⟩
def qsF(c:PC)(Q:Ex->S->Prop)(k:List It)(e:Array Oper)(d l:Bool)(a:List Oper)(b:Option Tmp)(tm:List AV)(σ : St):Option (AV × Option St)->Prop
 | some (x,none)=>Go c Q (.ops e d a::k) .normal ⟨qcr tm b x,σ⟩
 | some (x,some σ')=>(d && !l)=false/\Go c Q (.ops e d a::k) .normal ⟨qcr tm b x,σ'⟩
 | none=>False
def qqW(c:PC)(Q:Ex->S->Prop)(k:List It)(b:Array Oper)(d:Bool)(a:List Oper)(o:Oper)(tm:List AV)(σ : St):Option Bool->Prop
 | some true=>qsF c Q k b d (yt c.cfg.lo o.op&&qcW c.cfg b (b.size-(a.length+1)) tm σ o.op) a o.dst tm σ (qpw c tm σ o.op)
 | some false=>Go c Q (.ops b d a::k) .normal ⟨qcr tm o.dst ql1,σ⟩
 | none=>False
theorem qO2(j:Array Oper)(d:Bool)(o:Oper)(f:List Oper):Go c Q (.ops j d (o::f)::k) .normal ⟨tm,σ⟩=qqW c Q k j d f o tm σ (yL j tm o):=by
 apply propext;constructor
 ·rintro⟨b,a,e⟩;simp only[QR]at a;unfold qqW;split at a
  ·rename_i g;unfold qsF;split at a
   ·rename_i x i;exact⟨b,a,e⟩
   ·rename_i x σ' i;split at a
    ·cases a
    ·rename_i l;exact⟨l,b,a,e⟩
   ·cases a
  ·rename_i g;exact⟨b,a,e⟩
  ·cases a
 ·intro h;unfold qqW at h;split at h
  ·rename_i g;unfold qsF at h;split at h
   ·rename_i x i;obtain⟨b,a,e⟩:=h;exact⟨b,by simp only[QR,g,i];exact a,e⟩
   ·rename_i x σ' i;obtain⟨l,b,a,e⟩:=h;exact⟨b,by simp only[QR,g,i,l];exact a,e⟩
   ·exact h.elim
  ·rename_i g;obtain⟨b,a,e⟩:=h;exact⟨b,by simp only[QR,g];exact a,e⟩
  ·exact h.elim
end
end Go.AmZ
namespace Go.AmZ
open Go Go.RowKit
def Sub(x y:AV):Prop:=∀ Γ u,Rep Γ x u->Rep Γ y u
theorem Sub.refl(x:AV):Sub x x := λ _ _ h=>h
inductive QN:List AV->List AV->Prop
 | nil:QN [] []
 | cons {x y:AV} {xs ys:List AV}:Sub x y->QN xs ys->QN (x::xs) (y::ys)
theorem QN.refl:∀ xs,QN xs xs
 | [] => .nil
 | x::xs => .cons (.refl x) (.refl xs)
theorem QN.rep{Γ : Gh}:∀{xs ys:List AV} {us:List Value},QN xs ys->RepL Γ xs us->RepL Γ ys us
 | _,_,_,.nil,h=>h
 | _,_,us,.cons h t,g=>by
   obtain⟨u,r,rfl,b,a⟩:=g.uncons;exact .cons (h Γ u b) (t.rep a)
theorem QN.tup{xs ys:List AV}(h:QN xs ys):Sub (.tup xs) (.tup ys):=by
 intro Γ u a;cases a with
 | tup cs us c b =>
   have:=h.rep (RepL.mk c b);exact .tup _ _ this.len this.rep
theorem qNL{P:Program}{C:Cfg}{Γ : Gh}{σ : St}{w:World}(t:yx P C){f:FuncId}{fn:Func}{c:Code}(F:P.funcs[f]?=some fn)(E:fn.body=some c)(o:Qs c=true){b:List AV}{a:List Value}{r:AV × Option St}(s:Inv Γ σ w)(q:RepL Γ b a)
  {n:Nat} {e:Ex} {d:S} (D:qac C n c (qic fn σ b)=some (e,d)) (m:e = .ret\/e = .normal) (k:qju C fn σ d=some r):Js P Γ σ w f a r:=by
 unfold Js;refine calls_of_wp F E ?_;have l:Inv Γ (qic fn σ b).σ w:=s.wr rfl rfl
 have B:zw Γ (qic fn σ b).tm { tmps:=a.toArray++Array.replicate (fn.ntmps-a.toArray.size) undef,defers:=[] }:=by
  show RepL Γ (b++List.replicate (fn.ntmps-b.length) .dead) (a.toArray++Array.replicate (fn.ntmps-a.toArray.size) undef).toList;rw[xn,xp];have:a.toArray.size=b.length:=by simpa using q.len
  rw[this];exact q.append (qgi Γ _)
 refine wp_mono (qx0 t n c _ e d o D Γ w _ l B rfl) ?_;rintro I x w' ⟨rfl,o,Γ',H,u,g3,G⟩;unfold qju at k;split at k<;>cases k;rename_i i j;obtain⟨v,A,z⟩:=qpJ t.ty u g3 j;obtain⟨⟨h,u1,u2,u3⟩,u4⟩:=qJq s H u G z
 have:x.defers=[]/\∃ v,(results fn x.tmps).run P w' = .ok v w'/\∃ g Γ',Ending.returned v = .returned g/\Ext Γ w Γ' w'/\Inv Γ' (turn σ (qbV σ i d.σ).2) w'/\Rep Γ' (qbV σ i d.σ).1 g/\qW { σ with wr:=[],wrr:=[] } (turn { σ with wr:=[],wrr:=[] } (qbV σ i d.σ).2) :=
  ⟨o,v,A,v,h,rfl,u1,u2,u3,u4⟩
 rcases m with rfl | rfl
 ·exact this
 ·exact this
def Ret(c:PC)(a:List ResultVar)(b:AV->Prop)(e:Ex)(s:S):Prop :=
 (e = .ret\/e = .normal)/\match jX c.cfg s.tm s.σ a with
  | some l=>refs 0 0 (qiY 0 s.σ.rw (zX l))=false/\b (qiY 0 s.σ.rw (zX l))
  | none=>False
def GoB(c:PC)(b:AV->Prop)(fn:Func)(a:List AV):Prop :=
 match fn.body with
 | some cd=>Go c (Ret c fn.results.toList b) [.code cd] .normal ⟨a++List.replicate (fn.ntmps-a.length) .dead,emp⟩
 | none=>False
def qc1(fn:Func):Bool:=match fn.body with
 | some cd=>Qs cd && !(fn.name == "runtime.NumGoroutine")
 | none=>false
theorem yx.pur{P:Program}{C:Cfg}(h:yx P C)(p:Code->List Nat)(q:Nat->Bool):yx P { C with pur:=p,lo:=q }:=⟨h.mixed,h.ty,h.fn,h.prim⟩
theorem qJu{P:Program}{c:PC}(hC:yx P c.cfg){f:FuncId}{fn:Func}(hf:P.funcs[f]?=some fn)(hb:qc1 fn=true)(p:List AV->Option AV)
  (h:∀ args r,p args=some r->∃ args' Pr p q,QN args args'/\(∀ v,Pr v->Sub v r)/\GoB { c with pur:=p,ld:=q } Pr fn args'):qY P f (JE p):=by
 unfold qc1 at hb;cases hc:fn.body with
 | none=>rw[hc]at hb;cases hb
 | some cd =>
 rw[hc]at hb;simp only[wd,wV]at hb;obtain⟨hd,hn⟩:=hb;refine⟨⟨fn,hf,by rw[hc];rfl,hn⟩,λ Γ σ w args vals r hi hr hp=>?_⟩;unfold JE at hp;split at hp<;>try cases hp
 split at hp<;>cases hp;rename_i v hv;obtain⟨args',Pr,pp,qq,g1,g2,hgo⟩:=h args v hv;have hC:yx P (PC.cfg { c with pur:=pp,ld:=qq }):=hC.pur pp _;unfold GoB at hgo;rw[hc]at hgo;obtain⟨n,e,s',g3,g4,g0⟩:=hgo;split at g0
 case h_2=>exact g0.elim
 rename_i l hl;obtain⟨g6,g7⟩:=g0
 have g5:qi4 (PC.cfg { c with pur:=pp,ld:=qq }) fn s'=some (zX l):=by
  unfold qi4;rw[hl]
 generalize zX l=rv at g5 g6 g7
 have hl:qju (PC.cfg { c with pur:=pp,ld:=qq }) fn emp s'=some (qiY 0 s'.σ.rw rv,none):=by
  unfold qju;rw[g5];simp only[qbV];have f1:(s'.σ.wr.filter λ b=>decide (b<emp.bx.length))=[]:=wao.2 λ b _=>by simp[emp]
  have f2:(s'.σ.wrr.filter λ b=>decide (b<emp.rw.length))=[]:=wao.2 λ b _=>by simp[emp]
  have hk:qpG emp rv s'.σ = false:=by
   unfold qpG;rw[f1];show(refs 0 0 (qiY 0 s'.σ.rw rv)||false)=false;rw[g6];rfl
  rw[hk,f1,f2];rfl
 have hcall:=qNL (f:=f) (σ := emp) hC hf hc hd hi (g1.rep hr) (qCL g3) g4 hl;refine Calls.mono hcall ?_;rintro e' w' ⟨v',Γ',q1,q2,q3,q4,q5⟩;exact⟨v',Γ',q1,q2,q3,g2 _ g7 Γ' v' q4,q5⟩
section
variable {c:PC} {Q:Ex->S->Prop} {k:List It} {tm:List AV} {σ : St} {os:Array Oper} {d:Bool} {rest:List Oper} {dst:Option Tmp}
def qMn(c:PC)(Q:Ex->S->Prop)(k:List It)(os:Array Oper)(d:Bool)(rest:List Oper)(dst:Option Tmp)(tm:List AV)(σ : St)(x:AV):Prop:=Go c Q (.ops os d rest::k) .normal ⟨qcr tm dst x,σ⟩
theorem qFN(l:Bool)(x:AV):qsF c Q k os d l rest dst tm σ (some (x,none))=qMn c Q k os d rest dst tm σ x:=rfl
theorem qMr(l:Bool)(x:AV)(σ':St):qsF c Q k os d l rest dst tm σ (some (x,some σ'))=((d && !l)=false/\qMn c Q k os d rest dst tm σ' x):=rfl
theorem qIS(o:Oper):qqW c Q k os d rest o tm σ (some true)=qsF c Q k os d (yt c.cfg.lo o.op&&qcW c.cfg os (os.size-(rest.length+1)) tm σ o.op) rest o.dst tm σ (qpw c tm σ o.op):=rfl
theorem qHy(o:Oper):qqW c Q k os d rest o tm σ (some false)=Go c Q (.ops os d rest::k) .normal ⟨qcr tm o.dst ql1,σ⟩:=rfl
end
end Go.AmZ
namespace Go.GxZ
open Go.RowKit
inductive T where
 | mk (kind:Int) (name:List UInt8) (sort:Int) (kids:List T)
namespace T
def kind:T->Int | mk k _ _ _=>k
def name:T->List UInt8 | mk _ n _ _=>n
def sort:T->Int | mk _ _ s _=>s
def kids:T->List T | mk _ _ _ l=>l
def para{α : Type}(f:T->List α -> α)(t:T) : α :=
 T.rec (motive_1 := λ _ => α) (motive_2 := λ _=>List α) (λ k n s l c=>f (mk k n s l) c) [] (λ _ _ a b=>a::b) t
theorem para_eq{α : Type}(f:T->List α -> α)(t:T):para f t=f t (t.kids.map (para f)):=by
 obtain⟨k,n,s,l⟩:=t;show f (mk k n s l) _=f (mk k n s l) _;congr 1;show T.rec_1 (motive_1 := λ _ => α) (motive_2 := λ _=>List α) _ _ _ l=l.map (para f)
 induction l with
 | nil=>rfl
 | cons a l ih=>exact congrArg (para f a :: ·) ih
theorem ind{P:T->Prop}(h:∀ t,(∀ k∈t.kids,P k)->P t)(t:T):P t :=
 T.rec (motive_1:=P) (motive_2 := λ l=>∀ k∈l,P k) (λ _ _ _ _ c=>h _ c) (λ k b=>by cases b)
  (λ a l e d k b=>by rcases wy.1 b with rfl | b;exact e;exact d k b) t
end T
def qe4{α : Type}(k:Nat)(R : α -> List Value->Prop)(Q:Nat->Prop)(w:World)(a:Option Addr)(xs:List α):Prop :=
 ∀(j:Nat) (x : α),xs[j]?=some x->∃ b off cs,a=some ⟨b,off,none⟩/\Q b/\cs.length=k/\(∀(i:Nat) (c:Value),cs[i]?=some c->w.cell? ⟨b,off+j*k+i,none⟩=some c)/\R x cs
def JG(Q:Nat->Prop)(w:World):T->List Value->Prop :=
 T.para λ t b cs=>∃ a c,cs=[.int .i64 t.kind,.string ⟨t.name.toArray⟩,.int .i64 t.sort,.slice a b.length c]/\qe4 4 (λ r cs=>r cs) Q w a b
theorem qnO{Q:Nat->Prop}{w:World}{t:T}{cs:List Value} :
  JG Q w t cs↔∃ a c,cs=[.int .i64 t.kind,.string ⟨t.name.toArray⟩,.int .i64 t.sort,.slice a t.kids.length c]/\qe4 4 (JG Q w) Q w a t.kids:=by
 unfold JG;rw[T.para_eq];simp only[wB];refine exists_congr λ a=>exists_congr λ c=>and_congr Iff.rfl ?_;constructor
 ·intro h j x d;obtain⟨b,off,cs,l,k,i,g,f⟩:=h j _ (by rw[List.getElem?_map,d];rfl);grind
 ·intro h j r d;rw[List.getElem?_map,Option.map_eq_some_iff]at d;obtain⟨x,e,rfl⟩:=d;exact h j x e
theorem qe4.mono{α : Type}{k:Nat}{R R' : α -> List Value->Prop}{Q d:Nat->Prop}{w:World}{a:Option Addr}{xs:List α}(h:qe4 k R Q w a xs)(f:∀ b,Q b->d b)(e:∀ x∈xs,∀ cs,R x cs->R' x cs):qe4 k R' d w a xs :=
 λ j x c=>let⟨b,off,cs,h1,h2,h3,h4,h5⟩:=h j x c;⟨b,off,cs,h1,f b h2,h3,h4,e x (wa c) cs h5⟩
theorem qe4.below{α : Type}{k:Nat}{R R' : α -> List Value->Prop}{Q:Nat->Prop}{w w':World}{a:Option Addr}{xs:List α}(h:qe4 k R Q w a xs)(f:∀ b,Q b->w'.heap[b]?=w.heap[b]?)(g:∀ x∈xs,∀ cs,R x cs->R' x cs):qe4 k R' Q w' a xs :=
 λ j x d=>let⟨b,off,cs,h1,h2,h3,h4,h5⟩:=h j x d;⟨b,off,cs,h1,h2,h3,λ i c e=>(World.cell?_of_block (w:=w) (a:=⟨b,off+j*k+i,none⟩) (f b h2)).trans (h4 i c e),g x (wa d) cs h5⟩
theorem JG.mono{Q d:Nat->Prop}{w:World}(g:∀ b,Q b->d b)(t:T):∀{cs:List Value},JG Q w t cs->JG d w t cs:=by
 refine T.ind (P := λ t=>∀{cs:List Value},JG Q w t cs->JG d w t cs) ?_ t;intro t e cs h;rw[qnO]at h |-
 obtain⟨a,c,j,i⟩:=h;exact⟨a,c,j,i.mono g λ x f cs h=>e x f h⟩
theorem JG.keep{Q:Nat->Prop}{w w':World}(f:∀ b,Q b->w'.heap[b]?=w.heap[b]?)(t:T):∀{cs:List Value},JG Q w t cs->JG Q w' t cs:=by
 refine T.ind (P := λ t=>∀{cs:List Value},JG Q w t cs->JG Q w' t cs) ?_ t;intro t d cs h;rw[qnO]at h |-
 obtain⟨a,c,i,g⟩:=h;exact⟨a,c,i,g.below f λ x e cs h=>d x e h⟩
def qMj(t:T)(a:Option Addr)(c:Nat):List Value:=[.int .i64 t.kind,.string ⟨t.name.toArray⟩,.int .i64 t.sort,.slice a t.kids.length c]
def qdB(Q:Nat->Prop)(w:World)(a:Option Addr)(l:List T):Prop:=qe4 4 (JG Q w) Q w a l
theorem JG.mk{Q:Nat->Prop}{w:World}{t:T}{a:Option Addr}{c:Nat}(h:qdB Q w a t.kids):JG Q w t (qMj t a c):=qnO.2 ⟨a,c,rfl,h⟩
theorem JG.out{Q:Nat->Prop}{w:World}{t:T}{cs:List Value}(h:JG Q w t cs):∃ a c,cs=qMj t a c/\qdB Q w a t.kids:=qnO.1 h
theorem qdB.mono{Q d:Nat->Prop}{w:World}{a:Option Addr}{l:List T}(c:∀ b,Q b->d b)(h:qdB Q w a l):qdB d w a l:=qe4.mono h c λ _ _ _ h=>h.mono c
theorem qdB.keep{Q:Nat->Prop}{w w':World}{a:Option Addr}{l:List T}(c:∀ b,Q b->w'.heap[b]?=w.heap[b]?)(h:qdB Q w a l):qdB Q w' a l:=qe4.below h c λ x _ _ h=>h.keep c x
theorem qdB.at{Q:Nat->Prop}{w:World}{a:Option Addr}{l:List T}(h:qdB Q w a l){j:Nat}{x:T}(f:l[j]?=some x) :
  ∃ b off d e,a=some ⟨b,off,none⟩/\Q b/\w.cell? ⟨b,off+j*4,none⟩=some (.int .i64 x.kind)/\w.cell? ⟨b,off+j*4+1,none⟩=some (.string ⟨x.name.toArray⟩) /\
   w.cell? ⟨b,off+j*4+2,none⟩=some (.int .i64 x.sort)/\w.cell? ⟨b,off+j*4+3,none⟩=some (.slice d x.kids.length e)/\qdB Q w d x.kids:=by
 obtain⟨b,off,cs,m,k,n,c,i⟩:=h j x f;obtain⟨d,e,rfl,g⟩:=i.out;exact⟨b,off,d,e,m,k,c 0 _ rfl,c 1 _ rfl,c 2 _ rfl,c 3 _ rfl,g⟩
def InW(Q:Nat->Prop)(w:World):Prop:=∀ b,Q b->b<w.heap.size
theorem InW.below{Q:Nat->Prop}{w w':World}(h:InW Q w)(c:Below w.heap.size w w'):InW Q w' := λ b a=>wE (h b a) c.size
theorem qdB.later{Q:Nat->Prop}{w w':World}{a:Option Addr}{l:List T}(h:qdB Q w a l)(e:InW Q w)(d:Below w.heap.size w w'):qdB Q w' a l:=h.keep λ b c=>d.block b (e b c)
theorem JG.later{Q:Nat->Prop}{w w':World}{t:T}{cs:List Value}(h:JG Q w t cs)(d:InW Q w)(c:Below w.heap.size w w'):JG Q w' t cs:=h.keep (λ b a=>c.block b (d b a)) t
end Go.GxZ
namespace Go.AmZ
open Go Go.GxZ
def re(t:T):T := .mk t.kind t.name t.sort t.kids
theorem qk(t:T):re t=t:=by obtain⟨k,n,s,l⟩:=t;rfl
inductive Ty where
 | int (k:IntKind) | bool | str | term | list (a:Ty) | pair (a b:Ty) | one (a:Ty)
 deriving DecidableEq
@[reducible] def Val:Ty->Type
  | .int _=>Int
  | .bool=>Bool
  | .str=>List UInt8
  | .term=>T
  | .list a=>List (Val a)
  | .pair a b=>Val a × Val b
  | .one a=>Val a
def Ty.size:Ty->Nat
 | .term=>4
 | .pair a b=>a.size+b.size
 | .one a=>a.size
 | _=>1
inductive TV where
 | i (k:IntKind) (n:Int)
 | b (x:Bool)
 | s (x:List UInt8)
 | c (x:Value)
 | nil
 | sl (τ : Ty) (l:List (Val τ)) (lv:Nat)
 | row (id ver:Nat)
 | ptr (b o:Nat)
 | pti (b:Nat) (i:Int)
 | rpt (id ver sv:Nat) (i:Int) (cs:List TV) (o:Nat)
 | ept (cs:List TV) (o:Nat)
 | fn (f:FuncId) (caps:List TV)
 | agg (cs:List TV)
 | tup (vs:List TV)
 | dead
structure qR where
 τ : Ty
 l:List (Val τ)
 ver:Nat
 sv:Nat
 sh:Bool
structure TS where
 bx:List (List TV)
 rw:List qR
abbrev Env:=List (Nat × TV)
def get:Env->Nat->TV
 | [],_ => .dead
 | p::E,t=>match Nat.beq p.1 t with
   | true=>p.2
   | false=>get E t
def qdZ:Value->TV
 | .bool b => .b b
 | .int k n => .i k n
 | .string s => .s s.data.toList
 | .slice none 0 0 => .nil
 | x=>match zt x with
   | true => .c x
   | false => .dead
def qDn:Value->TV
 | .agg cs=>match cs.toList.all zt with
   | true => .agg (cs.toList.map qdZ)
   | false => .dead
 | .tuple vs=>match vs.toList with
   | [] => .tup []
   | _ => .dead
 | x=>qdZ x
def evT(E:Env):Operand->TV
 | .tmp t=>get E t
 | .const x=>qDn x
 | .func f => .fn f []
 | .global _ => .dead
def jL:TV->List TV
 | .agg cs=>cs
 | x=>[x]
def qiv:TV->Bool
 | .agg _ | .tup _ | .dead=>false
 | _=>true
def Jr:(τ : Ty)->Val τ -> List TV
 | .int k,n=>[.i k n]
 | .bool,b=>[.b b]
 | .str,s=>[.s s]
 | .term,t=>[.i .i64 t.kind,.s t.name,.i .i64 t.sort,.sl .term t.kids 1]
 | .list a,l=>[.sl a l 1]
 | .pair a b,p=>Jr a p.1++Jr b p.2
 | .one a,v=>Jr a v
def quv:(τ : Ty)->Val τ -> TV
 | .int k,n => .i k n
 | .bool,b => .b b
 | .str,s => .s s
 | .list a,l => .sl a l 1
 | .term,t => .agg (Jr .term t)
 | .pair a b,p => .agg (Jr (.pair a b) p)
 | .one a,v => .agg (Jr (.one a) v)
def qft{τ : Ty}(l:List (Val τ))(a:Ty):Option (List (Val a)):=if h : τ = a then some (h▸l)else none
def qnD(rw:List qR)(a:Ty):TV->Option (List (Val a))
 | .nil=>some []
 | .sl _ l _=>qft l a
 | .row id b=>match rw[id]? with
   | some R=>match Nat.beq R.ver b with
     | true=>qft R.l a
     | false=>none
   | none=>none
 | _=>none
def qJW(k:IntKind):List TV->Option (Int × List TV)
 | .i a n::r=>match decide (a=k)with
   | true=>some (n,r)
   | false=>none
 | _=>none
def qG5:List TV->Option (Bool × List TV)
 | .b x::r=>some (x,r)
 | _=>none
def qK5:List TV->Option (List UInt8 × List TV)
 | .s x::r=>some (x,r)
 | _=>none
def qGX(a:TV->Option (List T)):List TV->Option (T × List TV)
 | .i .i64 k :: .s n :: .i .i64 s::x::r=>match a x with
   | some l=>some (.mk k n s l,r)
   | none=>none
 | _=>none
def qG6{a:Type}(b:TV->Option a):List TV->Option (a × List TV)
 | x::r=>match b x with
   | some l=>some (l,r)
   | none=>none
 | _=>none
def qqj{σ b a:Type}(p:List σ -> Option (b × List σ))(q:List σ -> Option (a × List σ))(cs:List σ):Option ((b × a) × List σ):=match p cs with
 | some (x,r)=>match q r with
   | some (y,r)=>some ((x,y),r)
   | none=>none
 | none=>none
def qk1(rw:List qR):(τ : Ty)->List TV->Option (Val τ × List TV)
 | .int k=>qJW k
 | .bool=>qG5
 | .str=>qK5
 | .term=>qGX (qnD rw .term)
 | .list a=>qG6 (qnD rw a)
 | .pair a b=>qqj (qk1 rw a) (qk1 rw b)
 | .one a=>qk1 rw a
def Ty.agg:Ty->Bool
 | .term | .pair _ _ | .one _=>true
 | _=>false
def qqf{a:Type}:Option (a × List TV)->Option a
 | some (v,[])=>some v
 | _=>none
def qvW:TV->Bool
 | .agg _=>true
 | _=>false
def qgv(rw:List qR)(τ : Ty)(x:TV):Option (Val τ):=match qh9 τ.agg (qvW x)with
 | true=>qqf (qk1 rw τ (jL x))
 | false=>none
def qsv(rw:List qR)(τ : Ty):List TV->Option (List (Val τ))
 | []=>some []
 | x::l=>match qgv rw τ x with
   | some v=>match qsv rw τ l with
     | some vs=>some (v::vs)
     | none=>none
   | none=>none
def qk3:TV->Bool
 | .i .. | .b _ | .s _ | .c _ | .nil | .sl .. | .fn .. => true
 | _=>false
def qph:TV->Bool
 | .agg cs=>cs.all qk3
 | x=>qk3 x
inductive ATy where
 | val (τ : Ty) | fn
@[reducible] def qbX:List ATy->Type
  | []=>Unit
  | .val τ :: r=>Val τ × qbX r
  | .fn::r=>qbX r
@[reducible] def qe5:List Ty->Type
  | []=>Unit
  | [a]=>Val a
  | a::b::r=>Val a × qe5 (b::r)
def qOp{σ : Type}:List σ -> Option Unit
 | []=>some ()
 | _=>none
def qoc{σ b a:Type}(p : σ -> Option b)(q:List σ -> Option a):List σ -> Option (b × a)
 | x::xs=>match p x with
   | some v=>match q xs with
     | some vs=>some (v,vs)
     | none=>none
   | none=>none
 | []=>none
def pFn{a:Type}(q:List TV->Option a):List TV->Option a
 | .fn _ []::xs=>q xs
 | _=>none
def qwm(rw:List qR):(ts:List ATy)->List TV->Option (qbX ts)
 | []=>qOp
 | .val τ :: r=>qoc (qgv rw τ) (qwm rw r)
 | .fn::r=>pFn (qwm rw r)
def qpC:List TV->List Nat
 | []=>[]
 | .fn f _::l=>f::qpC l
 | _::l=>qpC l
def unL:(ts:List Ty)->qe5 ts->List TV
 | [],_=>[]
 | [a],v=>[quv a v]
 | a::b::r,v=>quv a v.1::unL (b::r) v.2
def qwv:List TV->TV
 | [x]=>x
 | l => .tup l
structure Sig where
 args:List ATy
 res:List Ty
 fn:qbX args->Option (qe5 res)
inductive RA where
 | val (τ : Ty) | row (τ : Ty)
@[reducible] def RA.T:RA->Type
  | .val τ => Val τ
  | .row τ => List (Val τ)
@[reducible] def CV:List RA->Type
  | []=>Unit
  | a::r=>a.T × CV r
@[reducible] def BV:List RA->Type
  | []=>Unit
  | [a]=>a.T
  | a::b::r=>CV (a::b::r)
def toC:(l:List RA)->BV l->CV l
 | [],_=>()
 | [_],v=>(v,())
 | _::_::_,v=>v
def toB:(l:List RA)->CV l->BV l
 | [],_=>()
 | [_],v=>v.1
 | _::_::_,v=>v
def nR:List RA->Nat
 | []=>0
 | .val _::r=>nR r
 | .row _::r=>nR r+1
inductive SA where
 | val (τ : Ty) | row (τ : Ty) | box (l:List RA) | nil | clo (g k:Nat)
inductive RE where
 | one (a:RA) | agg (l:List RA) | opt (l:List RA) | elt (p:Nat) | nilp | box (n:Nat) (l:List RA) | eltI (d:Nat) (τ : Ty)
@[reducible] def QH:List SA->Type
  | []=>Unit
  | .val τ :: r=>Val τ × QH r
  | .row τ :: r=>List (Val τ) × QH r
  | .box l::r=>BV l × QH r
  | .nil::r=>QH r
  | .clo _ _::r=>QH r
@[reducible] def j8:List SA->Type
  | []=>Unit
  | .box l::r=>BV l × j8 r
  | .nil::r=>j8 r
  | .val _::r=>j8 r
  | .row _::r=>j8 r
  | .clo _ _::r=>j8 r
@[reducible] def RV:List RE->Type
  | []=>Unit
  | .one a::r=>a.T × RV r
  | .agg l::r=>CV l × RV r
  | .opt l::r=>Option (BV l) × RV r
  | .elt _::r=>Option Int × RV r
  | .nilp::r=>RV r
  | .box _ l::r=>BV l × RV r
  | .eltI _ τ :: r=>(Int × Val τ) × RV r
def nrB:List SA->Nat
 | []=>0
 | .box l::r=>nR l+nrB r
 | .nil::r=>nrB r
 | .val _::r=>nrB r
 | .row _::r=>nrB r
 | .clo _ _::r=>nrB r
def nBx:List SA->Nat
 | []=>0
 | .box _::r=>nBx r+1
 | .nil::r=>nBx r
 | .val _::r=>nBx r
 | .row _::r=>nBx r
 | .clo _ _::r=>nBx r
def qm3:List SA->Bool
 | []=>true
 | .row _::_=>false
 | .box _::r=>qm3 r
 | .nil::r=>qm3 r
 | .val _::r=>qm3 r
 | .clo _ _::r=>qm3 r
def qlq:List SA->Bool
 | []=>true
 | .box _::r=>qm3 r&&qlq r
 | .nil::r=>qlq r
 | .val _::r=>qlq r
 | .row _::r=>qlq r
 | .clo _ _::r=>qlq r
structure qof where
 args:List SA
 res:List RE
 fn:QH args->Option (j8 args × RV res)
structure qqV where
 τ : Ty
 args:List SA
 fn:QH (.row τ :: args)->Option (List (Val τ))
structure quq where
 args:List SA
 fn:QH args->Option Int
inductive Co where
 | keep | row (τ : Ty) (sh:Bool) | list (τ : Ty) | plist (τ : Ty) | box (cs:List Co) | fn (cs:List Co)
structure TC where
 ty:Nat->Option TD
 el:Nat->Option Ty
 has:Nat->Bool
 pf:Nat->List Nat->Option Sig
 sf:Nat->Option qof
 loop:Nat->Option (List (Tmp × Co))
 join:Nat->Option (List (Tmp × Co))
 nt:Nat
 np:Nat
 ld:Nat->Bool
 mf:Nat->Option qqV
 xf:Nat->Option quq
def TC.rawT(c:TC)(f:Nat):Bool:=match c.has f with
 | true=>false
 | false=>match c.mf f with
   | some _=>true
   | none=>match c.xf f with
     | some _=>true
     | none=>match c.sf f with
       | some _=>true
       | none=>false
def TC.loT(c:TC)(f:Nat):Bool:=c.rawT f||c.ld f
abbrev TC.n2(c:TC):Nat × Nat:=(c.nt,c.np)
def qa{α b:Type}(x:Option α)(k : α -> Option b):Option b:=match x with
 | some a=>k a
 | none=>none
def qhr{α c:Type}(x:Option c)(a : α)(f:c -> α) : α := match x with
 | none=>a
 | some b=>f b
def qkU{α b:Type}(l:List b)(a : α)(f:b->List b -> α) : α := match l with
 | []=>a
 | x::r=>f x r
def qb{α : Type}(l:List α)(j:Int):Option α := if 0<=j then l[j.toNat]? else none
def ixb(j:Int)(n:Nat):Bool:=decide (0<=j/\j<(n:Int))
def qrV:List TV->Option (List Bool)
 | []=>some []
 | .b x::l=>match qrV l with
   | some r=>some (x::r)
   | none=>none
 | _=>none
def qpe:List Bool->Int->Bool->Nat->List Bool
 | [],_,_,_=>[]
 | e::l,i,v,j=>cond (ieq i (j:Int)) v e::qpe l i v (j+1)
def inb(i:Int)(y:Nat):Bool:=decide (0<=i/\i<=y)
def yq{α : Type}(l:List α)(j:Int)(v : α):List α := if 0<=j then l.set j.toNat v else l
def qG9(n:Int)(bytes:Nat):Bool:=decide (0<=n/\n.toNat*bytes<=2 ^ 47/\n.toNat<2 ^ 62)
def qK8:Operand->Operand->Bool
 | .tmp a,.tmp b=>Nat.beq a b
 | .const (.int k a),.const (.int c b)=>decide (k=c)&&decide (a=b)
 | _,_=>false
def shA(σ : TS):TS:=⟨σ.bx,σ.rw.map λ R=>⟨R.τ,R.l,R.ver,R.sv,true⟩⟩
def qve:Ty->Bool
 | .int _ | .bool | .str=>true
 | _=>false
def QO{α : Type}(l:List α)(a b:Int):List α := (l.take b.toNat).drop a.toNat
def qgE(a b:List UInt8):Bool:=decide (((a.length+b.length:Nat):Int)<=IntKind.i64.max)
def zo(n bytes:Nat):Bool:=decide (n*bytes<=2 ^ 47/\n<2 ^ 62)
def qx(a b:List UInt8):Bool:=a==b
def slt(a b:List UInt8):Bool:=Op.bytesLess a b
def qC(l:List Int):List UInt8:=l.map λ n=>UInt8.ofNat n.toNat
def Qx(s:List UInt8):List Int:=s.map λ b=>((b.toNat:Nat):Int)
def qBk:Option TD->Bool
 | some ⟨_,_,_,_,.ptr⟩=>true
 | _=>false
def qGA:TV->TV->Option Bool
 | .c (.pointer none),.c (.pointer none)=>some true
 | .ptr _ _,.c (.pointer none)=>some false
 | .rpt _ _ _ _ _ _,.c (.pointer none)=>some false
 | .ept _ _,.c (.pointer none)=>some false
 | _,_=>none
section
variable {α : Type}
abbrev KT(α : Type):=TV->Option TS->Option α
def qLf(op:BinOp)(k:IntKind)(a b:Int)(K:TV->Option α):Option α :=
 match op with
 | .add=>K (.i k (iw k (qe a b)))
 | .sub=>K (.i k (iw k (zp a b)))
 | .mul=>K (.i k (iw k (qty a b)))
 | .quo=>cond (ieq b 0) none (K (.i k (iw k (qiN a b))))
 | .rem=>cond (ieq b 0) none (K (.i k (ye a b)))
 | .and=>K (.i k (qmr .and k a b))
 | .or=>K (.i k (qmr .or k a b))
 | .xor=>K (.i k (qmr .xor k a b))
 | .andNot=>K (.i k (qmr .andNot k a b))
 | .eql=>K (.b (ieq a b))
 | .neq=>K (.b (qd (ieq a b)))
 | .lss=>K (.b (ilt a b))
 | .leq=>K (.b (ile a b))
 | .gtr=>K (.b (ilt b a))
 | .geq=>K (.b (ile b a))
 | _=>none
def qMc(op:BinOp)(x y:List UInt8)(K:TV->Option α):Option α :=
 match op with
 | .add=>cond (qgE x y) (K (.s (x++y))) none
 | .eql=>K (.b (qx x y))
 | .neq=>K (.b (qd (qx x y)))
 | .lss=>K (.b (slt x y))
 | .leq=>K (.b (qrL (slt x y) (qx x y)))
 | .gtr=>K (.b (qd (qrL (slt x y) (qx x y))))
 | .geq=>K (.b (qd (slt x y)))
 | _=>none
def qva:Option TD->Bool
 | some ⟨_,_,_,_,.bool⟩=>true
 | _=>false
def qLO(d:Option TD)(op:BinOp)(x y:TV)(K:TV->Option α):Option α :=
 match x,y with
 | .i k a,.i c b=>match op with
   | .shl=>cond (ilt b 0) none (K (.i k (qx2 k a b)))
   | .shr=>cond (ilt b 0) none (K (.i k (qbP k a b)))
   | op=>match decide (k=c)with
     | true=>qLf op k a b K
     | false=>none
 | .s a,.s b=>qMc op a b K
 | .b a,.b b=>match op,qva d with
   | .eql,true=>K (.b (qh9 a b))
   | .neq,true=>K (.b (qd (qh9 a b)))
   | _,_=>none
 | _,_=>none
def qA0(place:Nat->Option (Nat × Nat))(cells:List TV):List (Nat × TV)->Option (List TV)
 | []=>some cells
 | (i,x)::a=>match place i with
   | none=>none
   | some (off,size)=>match decide ((jL x).length=size)&&decide (off+size<=cells.length)&&(jL x).all qiv with
     | true=>qA0 place (cells.take off++(jL x++cells.drop (off+size))) a
     | false=>none
def qmV(a:Bool)(size:Nat)(cs:List TV)(o:Nat):Option TV :=
 match a with
 | true=>match decide (o+size<=cs.length)with
   | true=>some (.agg ((cs.drop o).take size))
   | false=>none
 | false=>cs[o]?
def qgf(d:Int)(E:Env):Option Operand->Option Int
 | none=>some d
 | some x=>match evT E x with
   | .i _ n=>some n
   | _=>none
def Q4(c:TC)(E:Env)(σ : TS)(op:Op)(K:KT α):Option α :=
 match op with
 | .move x | .assign x=>K (evT E x) none
 | .pick x a b=>match evT E x with
   | .b y=>cond y (K (evT E a) none) (K (evT E b) none)
   | _=>none
 | .alloc e=>match c.ty e with
   | some d=>match d.zero.all zt with
     | true=>K (.ptr σ.bx.length 0) (some { σ with bx := σ.bx++[d.zero.map qdZ] })
     | false=>none
   | none=>none
 | .box e x=>match c.ty e with
   | some _=>match(jL (evT E x)).all qiv with
     | true=>K (.ptr σ.bx.length 0) (some { σ with bx := σ.bx++[jL (evT E x)] })
     | false=>none
   | none=>none
 | .build t parts=>match c.ty t with
   | some ⟨_,_,_,z,.struct u⟩=>match z.all zt with
     | true=>match qA0 (λ i=>match u[i]? with | some f=>some (f.1,f.2.1) | none=>none) (z.map qdZ) (parts.toList.map λ p=>(p.1,evT E p.2))with
       | some cs=>K (.agg cs) none
       | none=>none
     | false=>none
   | _=>none
 | .buildSlice t n parts=>match c.ty t,c.el t with
   | some ⟨_,_,_,_,.slice _ k _ _⟩,some τ => match decide (k = τ.size)&&decide (parts.size=n)&&decide (n*k<=2 ^ 24)&&decide (0<k)&&(parts.toList.zipIdx.all λ p=>decide (p.1.1=p.2))with
     | true=>match qsv σ.rw τ (parts.toList.map λ p=>evT E p.2)with
       | some vs=>K (.sl τ vs 2) (match(parts.toList.all λ p=>qph (evT E p.2))with | true=>none | false=>some (shA σ))
       | none=>none
     | false=>none
   | _,_=>none
 | .load t a=>match c.ty t with
   | some d=>match evT E a with
     | .ptr b o=>match σ.bx[b]? with
       | some cs=>match qmV d.agg d.size cs o with
         | some x=>K x none
         | none=>none
       | none=>none
     | .ept cs o=>match qmV d.agg d.size cs o with
       | some x=>K x none
       | none=>none
     | .pti b i=>match σ.bx[b]? with
       | some cs=>match d.agg,qrV cs with
         | false,some l=>qa (qb l i) λ v=>K (.b v) none
         | _,_=>none
       | none=>none
     | .rpt id q r i cs o=>match σ.rw[id]? with
       | some R=>match Nat.beq R.ver q with
         | true=>match Nat.beq R.sv r with
           | true=>match qmV d.agg d.size cs o with
             | some x=>K x none
             | none=>none
           | false=>match R.sh with
             | true=>none
             | false=>qa (qb R.l i) λ v=>match qmV d.agg d.size (Jr R.τ v) o with
               | some x=>K x none
               | none=>none
         | false=>none
       | none=>none
     | _=>none
   | none=>none
 | .store t a x=>match c.ty t,evT E a with
   | some d,.ptr b o=>match σ.bx[b]? with
     | some cs=>match decide ((jL (evT E x)).length=d.size)&&decide (o+d.size<=cs.length)&&(jL (evT E x)).all qiv with
       | true=>K (.tup []) (some { σ with bx := σ.bx.set b (cs.take o++(jL (evT E x)++cs.drop (o+d.size))) })
       | false=>none
     | none=>none
   | some d,.pti b i=>match σ.bx[b]?,evT E x with
     | some cs,.b v=>match qrV cs,Nat.beq d.size 1 with
       | some l,true=>cond (ixb i l.length) (K (.tup []) (some { σ with bx := σ.bx.set b ((qpe l i v 0).map .b) })) none
       | _,_=>none
     | _,_=>none
   | some d,.rpt id q r i cs o=>match σ.rw[id]? with
     | some R=>match Nat.beq R.ver q&&Nat.beq R.sv r && !R.sh&&decide ((jL (evT E x)).length=d.size)&&decide (o+d.size<=cs.length)&&(jL (evT E x)).all qk3 with
       | true=>match qqf (qk1 σ.rw R.τ (cs.take o++(jL (evT E x)++cs.drop (o+d.size))))with
         | some v=>K (.tup []) (some { σ with rw := σ.rw.set id ⟨R.τ,yq R.l i v,R.ver,R.sv+1,R.sh⟩ })
         | none=>none
       | false=>none
     | none=>none
   | _,_=>none
 | .makeSlice t n m=>match c.ty t,c.el t,evT E n with
   | some ⟨_,_,_,_,.slice _ k bytes z⟩,some τ,.i _ a=>match qK8 n m&&decide (k = τ.size)&&decide (0<k)&&decide (z.length=k)&&z.all zt with
     | true=>match qqf (qk1 [] τ (z.map qdZ))with
       | some v=>cond (qG9 a bytes) (K (.row σ.rw.length 0) (some { σ with rw := σ.rw++[⟨τ,List.replicate a.toNat v,0,0,false⟩] })) none
       | none=>none
     | false=>none
   | _,_,_=>none
 | .nilCheck x=>match evT E x with
   | .ptr b o=>K (.ptr b o) none
   | .ept cs o=>K (.ept cs o) none
   | .rpt id q r i cs o=>K (.rpt id q r i cs o) none
   | _=>none
 | .binOp op t x y _=>match qGA (evT E x) (evT E y)with
   | some b=>match op,qBk (c.ty t)with
     | .eql,true=>K (.b b) none
     | .neq,true=>K (.b (!b)) none
     | _,_=>none
   | none=>qLO (c.ty t) op (evT E x) (evT E y) λ v=>K v none
 | .unOp op _ x=>match op,evT E x with
   | .neg,.i k n=>K (.i k (iw k (zp 0 n))) none
   | .not,.b y=>K (.b (qd y)) none
   | _,_=>none
 | .convert s d x=>match c.ty s,c.ty d,evT E x with
   | some _,some ⟨_,_,_,_,.int k⟩,.i _ n=>K (.i k (iw k n)) none
   | some _,some ⟨_,_,_,_,.string⟩,.s y=>K (.s y) none
   | some ⟨_,_,_,_,.string⟩,some ⟨_,_,_,_,.slice e 1 _ _⟩,.s y=>match qrd (c.ty e)with
     | true=>K (.row σ.rw.length 0) (some { σ with rw := σ.rw++[⟨.int .u8,Qx y,0,0,false⟩] })
     | false=>none
   | some ⟨_,_,_,_,.slice e 1 _ _⟩,some ⟨_,_,_,_,.string⟩,y=>match qrd (c.ty e),qnD σ.rw (.int .u8) y with
     | true,some l=>K (.s (qC l)) none
     | _,_=>none
   | _,_,_=>none
 | .makeFunc (.func f) u cs=>match u.toList with
   | []=>K (.fn f (cs.toList.map (evT E))) none
   | _=>none
 | .slice t x lo w none=>match c.ty t,evT E x with
   | some ⟨_,_,_,_,.string⟩,.s y=>match qgf y.length E w with
     | some h=>match qgf 0 E lo with
       | some l=>cond (inb h y.length) (cond (inb l h.toNat) (K (.s (QO y l h)) none) none) none
       | none=>none
     | none=>none
   | some ⟨_,_,_,_,.slice _ k _ _⟩,.sl τ y B=>match decide (τ.size=k)&&pos B with
     | true=>match qgf y.length E w with
       | some h=>match qgf 0 E lo with
         | some l=>cond (inb h y.length) (cond (inb l h.toNat) (K (.sl τ (QO y l h) 1) none) none) none
         | none=>none
       | none=>none
     | false=>none
   | some ⟨_,_,_,_,.slice _ _ _ _⟩,.nil=>match qgf 0 E w with
     | some h=>match qgf 0 E lo with
       | some l=>cond (inb h 0) (cond (inb l h.toNat) (K .nil none) none) none
       | none=>none
     | none=>none
   | some ⟨_,_,_,_,.slice _ k _ _⟩,.row id q=>match w,σ.rw[id]? with
     | none,some R=>match Nat.beq R.ver q&&decide (R.τ.size=k)with
       | true=>match qgf 0 E lo with
         | some l=>cond (inb l R.l.length) (K (.row id (q+1)) (some { σ with rw := σ.rw.set id ⟨R.τ,R.l.drop l.toNat,q+1,R.sv,true⟩ })) none
         | none=>none
       | false=>none
     | _,_=>none
   | _,_=>none
 | .fieldAddr t x i=>match c.ty t with
   | some ⟨_,_,_,_,.struct u⟩=>match u[i]? with
     | some (off,size,_)=>match size with
       | 0=>none
       | _+1=>match evT E x with
         | .ptr b o=>K (.ptr b (o+off)) none
         | .ept cs o=>K (.ept cs (o+off)) none
         | .rpt id q r i cs o=>K (.rpt id q r i cs (o+off)) none
         | _=>none
     | none=>none
   | _=>none
 | .field t x i=>match c.ty t,evT E x with
   | some ⟨_,_,_,_,.struct u⟩,.agg cs=>match u[i]? with
     | some (off,size,g)=>match qmV g size cs off with
       | some y=>K y none
       | none=>none
     | none=>none
   | _,_=>none
 | .indexAddr t x i=>match c.ty t,evT E i with
   | some ⟨_,_,_,_,.slice _ k _ _⟩,.i _ j=>match evT E x with
     | .sl τ l _=>match decide (τ.size=k)with
       | true=>qa (qb l j) λ v=>K (.ept (Jr τ v) 0) none
       | false=>none
     | .row id q=>match σ.rw[id]? with
       | some R=>match Nat.beq R.ver q&&decide (R.τ.size=k)with
         | true=>qa (qb R.l j) λ v=>K (.rpt id q R.sv j (Jr R.τ v) 0) none
         | false=>none
       | none=>none
     | _=>none
   | some ⟨_,_,_,_,.array n _ 1⟩,.i _ j=>match evT E x with
     | .ptr b 0=>cond (ixb j n) (K (.pti b j) none) none
     | _=>none
   | _,_=>none
 | .index t x i=>match c.ty t,evT E x,evT E i with
   | some ⟨_,_,_,_,.string⟩,.s y,.i _ j=>qa (qb y j) λ v=>K (.i .u8 v.toNat) none
   | _,_,_=>none
 | .extract x i=>match evT E x with
   | .tup vs=>match vs[i]? with
     | some y=>K y none
     | none=>none
   | _=>none
 | _=>none
def qGh(k bytes:Nat)(σ : TS)(τ : Ty)(s:TV)(xs:List (Val τ))(K:KT α):Option α :=
 match s with
 | .nil=>qkU xs (K .nil none) λ x r=>cond (zo (r.length+1) bytes) (K (.row σ.rw.length 0) (some { σ with rw := σ.rw++[⟨τ,x::r,0,0,false⟩] })) none
 | .sl b l c=>match decide (1<c)with
   | true=>match qft l τ with
     | some l=>cond (zo (l.length+xs.length) bytes) (qkU xs (K s none) λ x r=>K (.row σ.rw.length 0) (some { σ with rw := σ.rw++[⟨τ,l++(x::r),0,0,false⟩] })) none
     | none=>none
   | false=>none
 | .row id a=>match σ.rw[id]? with
   | some R=>match Nat.beq R.ver a with
     | true=>match qft R.l τ with
       | some l=>cond (zo (l.length+xs.length) bytes) (K (.row id (a+1)) (some { σ with rw := σ.rw.set id ⟨τ,l++xs,a+1,R.sv,R.sh⟩ })) none
       | none=>none
     | false=>none
   | none=>none
 | _=>none
def quX(c:TC)(σ : TS)(b:Builtin)(ts:Array TypeId)(f:List TV)(K:KT α):Option α :=
 match b,f with
 | .len,[x]=>match ts[0]? with
   | some t=>match c.ty t with
     | some d=>match d.k,x with
       | .string,.s y=>K (.i .i64 y.length) none
       | .slice ..,.nil=>K (.i .i64 0) none
       | .slice ..,.sl _ l _=>K (.i .i64 l.length) none
       | .slice ..,.row id g=>match σ.rw[id]? with
         | some R=>match Nat.beq R.ver g with
           | true=>K (.i .i64 R.l.length) none
           | false=>none
         | none=>none
       | _,_=>none
     | none=>none
   | none=>none
 | .append,[s,x]=>match ts[0]?,ts[1]? with
   | some t,some u=>match c.ty t,c.ty u,c.el t with
     | some ⟨_,_,_,_,.slice _ k bytes z⟩,some ⟨_,_,_,_,.slice _ _ _ _⟩,some τ => match decide (0<k)&&decide (z.length=k)&&decide (k = τ.size)with
       | true=>match qnD σ.rw τ x with
         | some xs=>qGh k bytes σ τ s xs K
         | none=>none
       | false=>none
     | some ⟨_,_,_,_,.slice e 1 bytes z⟩,some ⟨_,_,_,_,.string⟩,some (.int .u8)=>match decide (z.length=1)&&qrd (c.ty e),x with
       | true,.s y=>qGh 1 bytes σ (.int .u8) s (Qx y) K
       | _,_=>none
     | _,_,_=>none
   | _,_=>none
 | .max,[.i k a,.i h b]=>match decide (k=h)with | true=>K (.i k (qoa a b)) none | false=>none
 | .min,[.i k a,.i h b]=>match decide (k=h)with | true=>K (.i k (qKe a b)) none | false=>none
 | _,_=>none
def qiH(rw:List qR)(τ : Ty):TV->Option (List (Val τ) × List Nat)
 | .nil=>some ([],[])
 | .sl a l c=>match qft l τ,decide (1<c)with
   | some [],true=>some ([],[])
   | _,_=>none
 | .row id b=>match rw[id]? with
   | some R=>match Nat.beq R.ver b && !R.sh with
     | true=>match qft R.l τ with
       | some l=>some (l,[id])
       | none=>none
     | false=>none
   | none=>none
 | _=>none
def qaT(rw:List qR):(l:List RA)->List TV->Option (CV l × List Nat × Bool)
 | [],[]=>some ((),[],true)
 | [],_::_=>none
 | .val τ :: r,cs=>match qqf (qk1 rw τ (cs.take τ.size)),qaT rw r (cs.drop τ.size)with
   | some v,some (vs,a,q)=>some ((v,vs),a,(cs.take τ.size).all qk3&&q)
   | _,_=>none
 | .row τ :: r,c::cs=>match qiH rw τ c,qaT rw r cs with
   | some (v,i),some (vs,a,q)=>some ((v,vs),i++a,q)
   | _,_=>none
 | .row _::_,[]=>none
def qPw(rw:List qR)(c:List (List TV))(l:List RA):TV->Option (CV l × List Nat × Nat)
 | .ptr b 0=>match c[b]? with
   | some cs=>match qaT rw l cs with
     | some (v,a,true)=>some (v,a,b)
     | _=>none
   | none=>none
 | _=>none
def yM(σ : TS):(sas:List SA)->List TV->Option (QH sas × List Nat × List Nat)
 | [],[]=>some ((),[],[])
 | .val τ :: r,x::xs=>match qph x,qgv σ.rw τ x with
   | true,some v=>match yM σ r xs with
     | some (vs,q)=>some ((v,vs),q)
     | none=>none
   | _,_=>none
 | .row τ :: r,x::xs=>match qiH σ.rw τ x with
   | some (l,a)=>match yM σ r xs with
     | some (vs,d,c)=>some ((l,vs),d,a++c)
     | none=>none
   | none=>none
 | .box l::r,x::xs=>match qPw σ.rw σ.bx l x with
   | some (v,a,b)=>match yM σ r xs with
     | some (vs,d,c)=>some ((toB l v,vs),b::d,a++c)
     | none=>none
   | none=>none
 | .nil::r,.nil::xs=>yM σ r xs
 | .clo g k::r,.fn e cs::xs=>match Nat.beq g e&&Nat.beq cs.length k with
   | true=>yM σ r (cs++xs)
   | false=>none
 | _,_=>none
def ndN:List Nat->Bool
 | []=>true
 | b::l=>(l.all λ c => !Nat.beq b c)&&ndN l
def qfk(rw:List qR)(a:List Nat):List qR:=a.foldl (λ l i=>l.modify i λ R=>⟨R.τ,[],R.ver+1,R.sv,false⟩) rw
def qc2:(l:List RA)->Nat->CV l->List TV
 | [],_,_=>[]
 | .val τ :: r,L,v=>Jr τ v.1++qc2 r L v.2
 | .row _::r,L,v => .row L 0::qc2 r (L+1) v.2
def QA:(l:List RA)->CV l->List qR
 | [],_=>[]
 | .val _::r,v=>QA r v.2
 | .row τ :: r,v=>⟨τ,v.1,0,0,false⟩::QA r v.2
def qfc:(sas:List SA)->Nat->j8 sas->List (List TV)
 | [],_,_=>[]
 | .box l::r,L,o=>qc2 l L (toC l o.1)::qfc r (L+nR l) o.2
 | .nil::r,L,o=>qfc r L o
 | .val _::r,L,o=>qfc r L o
 | .row _::r,L,o=>qfc r L o
 | .clo _ _::r,L,o=>qfc r L o
def qaU:(sas:List SA)->j8 sas->List qR
 | [],_=>[]
 | .box l::r,o=>QA l (toC l o.1)++qaU r o.2
 | .nil::r,o=>qaU r o
 | .val _::r,o=>qaU r o
 | .row _::r,o=>qaU r o
 | .clo _ _::r,o=>qaU r o
def qnG(a:List (List TV)):List Nat->List (List TV)->List (List TV)
 | b::c,x::xs=>qnG (a.set b x) c xs
 | _,_=>a
def qhA(nb NB:Nat):(a:List RE)->Nat->RV a->List TV
 | [],_,_=>[]
 | .one (.val τ)::r,L,v=>quv τ v.1::qhA nb NB r L v.2
 | .one (.row _)::r,L,v => .row L 0::qhA nb NB r (L+1) v.2
 | .agg l::r,L,v => .agg (qc2 l L v.1)::qhA nb NB r (L+nR l) v.2
 | .opt _::r,L,v => .dead::qhA nb NB r L v.2
 | .elt _::r,L,v => .dead::qhA nb NB r L v.2
 | .nilp::r,L,v => .c (.pointer none)::qhA nb NB r L v
 | .box n l::r,L,v => .ptr (nb+(n-NB)) 0::qhA nb NB r (L+nR l) v.2
 | .eltI d τ :: r,L,v => .rpt (L-d) 0 0 v.1.1 (Jr τ v.1.2) 0::qhA nb NB r L v.2
def qhg:(a:List RE)->RV a->List qR
 | [],_=>[]
 | .one (.val _)::r,v=>qhg r v.2
 | .one (.row τ)::r,v=>⟨τ,v.1,0,0,false⟩::qhg r v.2
 | .agg l::r,v=>QA l v.1++qhg r v.2
 | .opt _::r,v=>qhg r v.2
 | .elt _::r,v=>qhg r v.2
 | .nilp::r,v=>qhg r v
 | .box _ l::r,v=>QA l (toC l v.1)++qhg r v.2
 | .eltI _ _::r,v=>qhg r v.2
def qil:(a:List RE)->Nat->RV a->List (List TV)
 | [],_,_=>[]
 | .one (.val _)::r,L,v=>qil r L v.2
 | .one (.row _)::r,L,v=>qil r (L+1) v.2
 | .agg l::r,L,v=>qil r (L+nR l) v.2
 | .opt _::r,L,v=>qil r L v.2
 | .elt _::r,L,v=>qil r L v.2
 | .nilp::r,L,v=>qil r L v
 | .box _ l::r,L,v=>qc2 l L (toC l v.1)::qil r (L+nR l) v.2
 | .eltI _ _::r,L,v=>qil r L v.2
def nRA:RA->Nat
 | .val _=>0
 | .row _=>1
def qbY(rws:List qR):(h:List RE)->Nat->Nat->RV h->((g:List RE)->RV g->Option α)->Option α
 | [],_,_,_,k=>k [] ()
 | .one a::r,nb,d,v,k=>qbY rws r nb (d+nRA a) v.2 λ f c=>k (.one a::f) (v.1,c)
 | .agg l::r,nb,d,v,k=>qbY rws r nb (d+nR l) v.2 λ f c=>k (.agg l::f) (v.1,c)
 | .opt l::r,nb,d,v,k=>qhr v.1 (qbY rws r nb d v.2 λ f c=>k (.nilp::f) c) λ b=>qbY rws r (nb+1) (d+nR l) v.2 λ f c=>k (.box nb l::f) (b,c)
 | .elt p::r,nb,d,v,k=>qhr v.1 (qbY rws r nb d v.2 λ f c=>k (.nilp::f) c) λ i=>match rws[p]? with
   | some R=>qa (qb R.l i) λ e=>qbY rws r nb d v.2 λ f c=>k (.eltI (d-p) R.τ :: f) ((i,e),c)
   | none=>none
 | .nilp::_,_,_,_,_=>none
 | .box _ _::_,_,_,_,_=>none
 | .eltI _ _::_,_,_,_,_=>none
def qCP(σ : TS)(g:qqV)(b:List TV)(K:KT α):Option α := match b with
 | x::xs=>match qiH σ.rw g.τ x,yM σ g.args xs with
   | some (l,c),some (a,[],[])=>match qlq g.args with
     | true=>match c with
       | [id]=>qa (g.fn (l,a)) λ v=>cond (Nat.beq v.length l.length) (K (.tup []) (some ⟨σ.bx,σ.rw.modify id λ R=>⟨g.τ,v,R.ver,R.sv+1,false⟩⟩)) none
       | []=>qa (g.fn (l,a)) λ v=>cond (Nat.beq v.length l.length) (K (.tup []) none) none
       | _=>none
     | false=>none
   | _,_=>none
 | []=>none
def qB8(σ : TS)(g:quq)(b:List TV)(K:KT α):Option α := match yM σ g.args b with
 | some (a,d,c)=>match ndN d&&(ndN c&&qlq g.args)with
   | true=>qa (g.fn a) λ v=>K (.i .i64 v) none
   | false=>none
 | none=>none
def qu7(c:TC)(σ : TS)(f:Nat)(b:List TV)(K:KT α):Option α := match c.mf f with
 | some g=>qCP σ g b K
 | none=>match c.xf f with
   | some g=>qB8 σ g b K
   | none=>match c.sf f with
     | some g=>match yM σ g.args b with
       | some (a,i,h)=>match ndN i&&(ndN h&&qlq g.args)with
         | true=>qa (g.fn a) λ v=>qbY (qaU g.args v.1) g.res (nBx g.args) (nrB g.args) v.2 λ d e=>K (qwv (qhA σ.bx.length (nBx g.args) d (σ.rw.length+nrB g.args) e)) (some ⟨qnG σ.bx i (qfc g.args σ.rw.length v.1)++qil d (σ.rw.length+nrB g.args) e,qfk σ.rw h++(qaU g.args v.1++qhg d e)⟩)
         | false=>none
       | none=>none
     | none=>none
def qG3(c:TC)(σ : TS)(f:Nat)(a:List TV)(K:KT α):Option α :=
 match c.has f,c.pf f (qpC a)with
 | true,some g=>match qwm σ.rw g.args a with
   | some sas=>qa (g.fn sas) λ v=>K (qwv (unL g.res v)) (match a.all qph||g.res.all qve with | true=>none | false=>some (shA σ))
   | none=>none
 | true,none=>none
 | false,_=>qu7 c σ f a K
def opT(c:TC)(E:Env)(σ : TS)(op:Op)(K:KT α):Option α :=
 match op with
 | .call ⟨.builtin b,a,ts⟩=>quX c σ b ts (a.toList.map (evT E)) K
 | .call ⟨.value g,a,_⟩=>match evT E g with
   | .fn f []=>qG3 c σ f (a.toList.map (evT E)) K
   | .fn f (x::cs)=>match c.has f with
     | true=>none
     | false=>qu7 c σ f (a.toList.map (evT E)++(x::cs)) K
   | _=>none
 | .call _=>none
 | op=>Q4 c E σ op K
def qBc(c:TC)(E:Env)(d:Option Tmp)(x:TV)(K:Env->Option α):Option α := match d with
 | none=>K E
 | some d=>match Nat.blt d c.nt with
   | true=>K ((d,x)::E)
   | false=>none
def qGZ(ops:Array Oper)(E:Env)(o:Oper)(K:Bool->Env->Option α):Option α :=
 match o.guard with
 | none=>K true E
 | some (j,a)=>match(ops[j]?).bind (·.dst)with
   | none=>none
   | some d=>match get E d with
     | .b x=>match a with
       | true=>cond x (K true ((d,.b true)::E)) (K false ((d,.b false)::E))
       | false=>cond x (K false ((d,.b true)::E)) (K true ((d,.b false)::E))
     | .tup []=>K false E
     | _=>none
end
def qpW(E:Env)(ops:Array Oper)(k:Nat)(t:Tmp):Option Nat:=match qAV ops k t with
 | some u=>match get E u with
   | .ptr b _=>some b
   | _=>none
 | none=>none
def qJ7(E:Env)(ops:Array Oper)(k:Nat)(t:Tmp):Bool:=match qAV ops k t with
 | some u=>match get E u with
   | .rpt .. => true
   | _=>false
 | none=>false
mutual
def rbT:TV->Option (List Nat)
 | .ptr b _=>some [b]
 | .pti b _=>some [b]
 | .fn _ cs=>qq7 cs
 | .agg cs=>qq7 cs
 | .tup cs=>qq7 cs
 | .dead=>none
 | _=>some []
def qq7:List TV->Option (List Nat)
 | []=>some []
 | x::l=>match rbT x,qq7 l with
   | some a,some b=>some (a++b)
   | _,_=>none
end
def qKK(σ : TS)(b:Nat):Bool:=match σ.bx[b]? with
 | some cs=>match qq7 cs with
   | some []=>true
   | _=>false
 | none=>false
def qIC(E:Env)(σ : TS):Op->Option (List Nat)
 | .call ⟨.value g,as,_⟩=>match evT E g with
   | .fn _ cs=>match qq7 (as.toList.map (evT E)++cs)with
     | some l=>match l.all (qKK σ)with
       | true=>some l
       | false=>none
     | none=>none
   | _=>none
 | _=>none
def qwg(ops:Array Oper)(j:Nat)(E:Env)(σ : TS)(op:Op):Bool := !qyj op||ops.toList.zipIdx.all λ(q,i)=>match q.op with
 | .load _ (.tmp a)=>((JM ops.toList []).getD (max i j) 0).testBit (min i j)||match qpW E ops i a,qIC E σ op with
   | some y,some l=>Nat.blt y σ.bx.length&&l.all λ c => !Nat.beq c y
   | _,_=>false
 | _=>true
section
variable {α : Type}
def qlu(c:TC)(ops:Array Oper)(b:Bool):List Oper->Env->TS->(Env->TS->Option α)->Option α
 | [],E,σ,K=>K E σ
 | o::a,E,σ,K=>qGZ ops E o λ w E=>match w with
   | true=>opT c E σ o.op λ x σ'=>match σ' with
     | none=>qBc c E o.dst x λ E=>qlu c ops b a E σ K
     | some σ'=>match b && !(yt c.loT o.op&&qwg ops (ops.size-(a.length+1)) E σ o.op)with
       | true=>none
       | false=>qBc c E o.dst x λ E=>qlu c ops b a E σ' K
   | false=>qBc c E o.dst (.tup []) λ E=>qlu c ops b a E σ K
structure Mv where
 E:Env
 bx:List (List TV)
 rw:List qR
 mb:List (Nat × Nat)
 mr:List (Nat × Nat)
def jU(l:List (Nat × Nat))(b:Nat):Option Nat:=match l with
 | []=>none
 | p::r=>match Nat.beq p.1 b with
   | true=>some p.2
   | false=>jU r b
def qCb:TV->Bool
 | .i .. | .b _ | .s _ | .c _ | .nil | .sl .. => true
 | .fn _ cs=>cs.isEmpty
 | .agg cs=>cs.all λ | .i .. | .b _ | .s _ | .c _ | .nil | .sl .. => true | _=>false
 | _=>false
mutual
def mvT(σ : TS)(i:Co)(x:TV)(m:Mv)(K:TV->Mv->Option α):Option α :=
 match i with
 | .keep=>match qCb x with
   | true=>K x m
   | false=>K .dead m
 | .list τ => match x with
   | .nil=>K (.sl τ [] 1) m
   | .sl a l _=>match qft l τ with
     | some l=>K (.sl τ l 1) m
     | none=>none
   | _=>K .dead m
 | .plist τ => match x with
   | .nil=>K (.sl τ [] 1) m
   | .sl a l _=>match qft l τ with
     | some l=>K (.sl τ l 1) m
     | none=>none
   | _=>K .dead m
 | .row τ d=>match x with
   | .nil=>K (.row m.rw.length 0) { m with rw:=m.rw++[⟨τ,[],0,0,d⟩] }
   | .sl a l h=>match qft l τ,decide (1<h)with
     | some l,true=>match d with
       | true=>K (.row m.rw.length 0) { m with rw:=m.rw++[⟨τ,l,0,0,true⟩] }
       | false=>match l with
         | []=>K (.row m.rw.length 0) { m with rw:=m.rw++[⟨τ,[],0,0,false⟩] }
         | _=>none
     | _,_=>none
   | .row id e=>match σ.rw[id]? with
     | some R=>match Nat.beq R.ver e&&(d || !R.sh)with
       | true=>match qft R.l τ with
         | some l=>match jU m.mr id with
           | some g=>K (.row g 0) m
           | none=>K (.row m.rw.length 0) { m with rw:=m.rw++[⟨τ,l,0,0,d⟩],mr:=(id,m.rw.length)::m.mr }
         | none=>none
       | false=>none
     | none=>none
   | _=>none
 | .fn cs=>match x with
   | .fn f xs=>mvL σ cs xs m λ ys m=>K (.fn f ys) m
   | _=>none
 | .box cs=>match x with
   | .ptr b 0=>match jU m.mb b with
     | some b'=>K (.ptr b' 0) m
     | none=>match σ.bx[b]? with
       | some xs=>mvL σ cs xs m λ ys m=>match jU m.mb b with
         | none=>K (.ptr m.bx.length 0) { m with bx:=m.bx++[ys],mb:=(b,m.bx.length)::m.mb }
         | some _=>none
       | none=>none
   | .c v=>K (.c v) m
   | _=>none
def mvL(σ : TS)(cs:List Co)(xs:List TV)(m:Mv)(K:List TV->Mv->Option α):Option α :=
 match cs,xs with
 | [],[]=>K [] m
 | co::cs,x::xs=>mvT σ co x m λ y m=>mvL σ cs xs m λ ys m=>K (y::ys) m
 | _,_=>none
end
def qBx(a:List (Nat × Nat)):Nat->Bool
 | 0=>true
 | n+1=>(match jU a n with | some j=>Nat.beq n j | none=>false)&&qBx a n
def mvE(a:Nat)(σ : TS)(E:Env):List (Tmp × Co)->Mv->(Env->TS->Option α)->Option α
 | [],m,K=>match qBx m.mb a with
   | true=>K m.E ⟨m.bx,m.rw⟩
   | false=>none
 | (t,b)::r,m,K=>mvT σ b (get E t) m λ y m=>mvE a σ E r { m with E:=m.E++[(t,y)] } K
def qGx(E:Env)(σ : TS)(t:Tmp)(τ : Ty)(K:Env->TS->Option α):Option α := match get E t with
 | .i .. => K E σ
 | .b _=>K E σ
 | .s _=>K E σ
 | .c _=>K E σ
 | .nil=>K E σ
 | .sl .. => K E σ
 | .row id a=>match σ.rw[id]? with
   | some R=>match Nat.beq R.ver a with
     | true=>match qft R.l τ with
       | some l=>K ((t,.sl τ l 1)::E) (shA σ)
       | none=>none
     | false=>none
   | none=>none
 | .dead=>K E (shA σ)
 | _=>none
def qtV:List (Tmp × Co)->Env->TS->(Env->TS->Option α)->Option α
 | [],E,σ,K=>K E σ
 | (t,a)::r,E,σ,K=>match a with
   | .plist τ => qGx E σ t τ λ E σ => qtV r E σ K
   | _=>qtV r E σ K
def qsM(E:Env)(ops:Array Oper)(j:Nat)(o:Oper)(i:Nat)(q:Oper):Bool:=match o.op,q.op with
 | .store _ (.tmp a) _,.load _ (.tmp b)=>match qpW E ops j a,qpW E ops i b with
   | some x,some y => !Nat.beq x y
   | some _,none=>qJ7 E ops i b
   | _,_=>false
 | .call ⟨.builtin .append,_,_⟩,.load _ (.tmp b)=>(qpW E ops i b).isSome
 | .call ⟨.value _,_,_⟩,.load _ (.tmp b)=>(qpW E ops i b).isSome
 | _,_=>false
def qMo(a:Nat->Bool)(E:Env)(ops:Array Oper)(j:Nat)(o:Oper)(i:Nat)(q:Oper):Bool :=
 (match q.dst with | some d=>(qfN ops o).contains d | none=>false)||(qpV a o q && !(qsM E ops j o i q||qsM E ops i q j o))
def qsK(c:Nat->Bool)(E:Env)(ops:Array Oper)(a:Bool):Bool:=match a with
 | true =>
   let b:=JM ops.toList []
   ops.toList.zipIdx.all λ(o,j)=>((jQ o).all λ e=>decide (e<j))&&ops.toList.zipIdx.all λ(q,i) =>
    decide (i=j) || !qMo c E ops j o i q||(b.getD (max i j) 0).testBit (min i j)
 | false=>true
def slT:TV->Bool
 | .sl .. => true
 | .row .. => true
 | _=>false
def qHc(E:Env)(ops:Array Oper):Bool:=match qh1 ops with
 | p::_=>match p.op with
   | .indexAddr _ u _=>slT (evT E u)
   | _=>false
 | []=>false
def qJU:TV->Bool
 | .ptr _ _=>true
 | _=>false
def qeX:Code->Nat
 | .region id _ _=>id
 | .seq a _=>qeX a
 | .block _ b=>qeX b
 | .loop b=>qeX b
 | .cond _ a _=>qeX a
 | _=>0
def qg0:List (Tmp × Co)->List Nat
 | []=>[]
 | (t,a)::r=>match a with
   | .plist _=>t::qg0 r
   | _=>qg0 r
def TC.pur(c:TC)(b:Code):List Nat:=match c.loop (qeX b)with
 | some l=>qg0 l
 | none=>[]
def qHt(E:Env)(x:Operand)(b:Bool):Env:=match x with
 | .tmp t=>(t,.b b)::E
 | _=>E
def J1(c:TC)(f:Env->TS->Option α)(L:List It->Env->TS->Option α):Nat->List It->Ex->Env->TS->Option α
 | 0,_,_,_,_=>none
 | _+1,[],e,E,σ => match e with
   | .exit _=>none
   | _=>f E σ
 | N+1,.code cd::k,e,E,σ => match e with
   | .normal=>match cd with
     | .skip=>J1 c f L N k .normal E σ
     | .label _=>J1 c f L N k .normal E σ
     | .region _ ops d=>match qlV ops d with
       | true=>match qjM c.loT ops.toList&&(qsK c.loT E ops true&&qsK c.loT E ⟨zi c.loT ops.toList⟩ true)with
         | true=>qlu c ⟨zi c.loT ops.toList⟩ true (zi c.loT ops.toList) E σ λ E σ => qlu c ops false (alL c.loT ops.toList) E σ λ E σ => qlu c ops true (qsn c.loT ops.toList) E σ λ E σ => J1 c f L N k .normal E σ
         | false=>none
       | false=>match qre ops d with
         | some p=>match qsK c.loT E (qcO ops) true with
           | true=>qlu c (qcO ops) true (qcO ops).toList E σ λ E σ => match qJU (get E p)&&qHc E ops with
             | true=>qlu c ops true (qh1 ops) E σ λ E σ => J1 c f L N k .normal E σ
             | false=>none
           | false=>none
         | none=>match qsK c.loT E ops d with
           | true=>qlu c ops d ops.toList E σ λ E σ => J1 c f L N k .normal E σ
           | false=>none
     | .seq a b=>J1 c f L N (.code a :: .code b::k) .normal E σ
     | .cond x a b=>match evT E x with
       | .b y=>cond y (J1 c f L N (.code a::k) .normal (qHt E x true) σ) (J1 c f L N (.code b::k) .normal (qHt E x false) σ)
       | _=>none
     | .block id b=>J1 c f L N (.code b :: .blk id::k) .normal E σ
     | .loop b=>match c.loop (qeX b)with
       | some l=>qtV l E σ λ E σ => mvE c.np σ E l ⟨[],[],[],[],[]⟩ λ E σ => L (.code (.loop b)::k) E σ
       | none=>none
     | .exit id=>J1 c f L N k (.exit id) E σ
     | .ret=>J1 c f L N k .ret E σ
     | _=>none
   | e=>J1 c f L N k e E σ
 | N+1,.blk id::k,e,E,σ => match e with
   | .exit i=>match Nat.beq i id with
     | true=>match c.join id with
       | some l=>mvE c.np σ E l ⟨[],[],[],[],[]⟩ λ E σ => L k E σ
       | none=>J1 c f L N k .normal E σ
     | false=>J1 c f L N k (.exit i) E σ
   | .normal=>match c.join id with
     | some l=>mvE c.np σ E l ⟨[],[],[],[],[]⟩ λ E σ => L k E σ
     | none=>J1 c f L N k .normal E σ
   | .ret=>J1 c f L N k .ret E σ
 | _+1,.ops .. :: _,_,_,_=>none
def qBU(c:TC)(a:Env->TS->Option α)(L:List It->Env->TS->Option α)(N:Nat)(d:List It)(E:Env)(σ : TS):Option α :=
 match d with
 | .code (.loop b)::k=>match c.loop (qeX b)with
   | some l=>qtV l E σ λ E σ => J1 c a L N (.code b :: .code (.loop b)::k) .normal E σ
   | none=>J1 c a L N (.code b :: .code (.loop b)::k) .normal E σ
 | d=>J1 c a L N d .normal E σ
def qpk(c:TC)(a:Env->TS->Option α)(N:Nat):Nat->List It->Env->TS->Option α
 | 0 => λ _ _ _=>none
 | n+1=>qBU c a (qpk c a N n) N
end
def qob(c:TC)(E:Env)(σ : TS):ResultVar->Option TV
 | .tmp t=>some (get E t)
 | .cell a t=>match c.ty t,get E a with
   | some d,.ptr b o=>match σ.bx[b]? with
     | some cs=>qmV d.agg d.size cs o
     | none=>none
   | _,_=>none
def qjZ(c:TC):(ts:List Ty)->List ResultVar->Env->TS->Option (qe5 ts)
 | [],[],_,_=>some ()
 | [a],[r],E,σ => match qob c E σ r with
   | some x=>qgv σ.rw a x
   | none=>none
 | a::b::ts,r::d,E,σ => match qob c E σ r with
   | some x=>match qgv σ.rw a x with
     | some v=>match qjZ c (b::ts) d E σ with
       | some vs=>some (v,vs)
       | none=>none
     | none=>none
   | none=>none
 | _,_,_,_=>none
def qlI:(sas:List SA)->Nat->Nat->QH sas->List TV
 | [],_,_,_=>[]
 | .val τ :: r,nb,b,a=>quv τ a.1::qlI r nb b a.2
 | .row _::r,nb,b,a => .row b 0::qlI r nb (b+1) a.2
 | .box l::r,nb,b,a => .ptr nb 0::qlI r (nb+1) (b+nR l) a.2
 | .nil::r,nb,b,a => .nil::qlI r nb b a
 | .clo g k::r,nb,b,a => .fn g ((qlI r nb b a).take k)::(qlI r nb b a).drop k
def sBx:(sas:List SA)->Nat->QH sas->List (List TV)
 | [],_,_=>[]
 | .nil::r,b,a=>sBx r b a
 | .clo _ _::r,b,a=>sBx r b a
 | .val _::r,b,a=>sBx r b a.2
 | .row _::r,b,a=>sBx r (b+1) a.2
 | .box l::r,b,a=>qc2 l b (toC l a.1)::sBx r (b+nR l) a.2
def sRw:(sas:List SA)->QH sas->List qR
 | [],_=>[]
 | .nil::r,a=>sRw r a
 | .clo _ _::r,a=>sRw r a
 | .val _::r,a=>sRw r a.2
 | .row τ :: r,a=>⟨τ,a.1,0,0,false⟩::sRw r a.2
 | .box l::r,a=>QA l (toC l a.1)++sRw r a.2
def qix(σ : TS):(sas:List SA)->Nat->Option (j8 sas × List Nat × Bool)
 | [],_=>some ((),[],true)
 | .nil::r,n=>qix σ r n
 | .clo _ _::r,n=>qix σ r n
 | .val _::r,n=>qix σ r n
 | .row _::r,n=>qix σ r n
 | .box l::r,n=>match σ.bx[n]? with
   | some cs=>match qaT σ.rw l cs,qix σ r (n+1)with
     | some (v,i,q),some (o,a,b)=>some ((toB l v,o),i++a,q&&b)
     | _,_=>none
   | none=>none
def qco(c:TC)(E:Env)(σ : TS)(g:List Nat):(e:List RE)->List ResultVar->Option (RV e × List Nat × List Nat × Bool)
 | [],[]=>some ((),[],[],true)
 | .one (.val a)::e,r::l=>match qob c E σ r with
   | some x=>match qgv σ.rw a x,qco c E σ g e l with
     | some v,some (vs,d,f,q)=>some ((v,vs),d,f,qph x&&q)
     | _,_=>none
   | none=>none
 | .one (.row a)::e,r::l=>match qob c E σ r with
   | some x=>match qiH σ.rw a x,qco c E σ g e l with
     | some (v,i),some (vs,d,f,q)=>some ((v,vs),i++d,f,q)
     | _,_=>none
   | none=>none
 | .agg p::e,r::l=>match qob c E σ r with
   | some (.agg cs)=>match qaT σ.rw p cs,qco c E σ g e l with
     | some (v,i,j),some (vs,d,f,q)=>some ((v,vs),i++d,f,j&&q)
     | _,_=>none
   | _=>none
 | .opt p::e,r::l=>match qob c E σ r with
   | some (.c (.pointer none))=>match qco c E σ g e l with
     | some (vs,d,f,q)=>some ((none,vs),d,f,q)
     | none=>none
   | some (.ptr b 0)=>match σ.bx[b]? with
     | some cs=>match qaT σ.rw p cs,qco c E σ g e l with
       | some (v,i,j),some (vs,d,f,q)=>some ((some (toB p v),vs),i++d,b::f,j&&q)
       | _,_=>none
     | none=>none
   | _=>none
 | .elt p::e,r::l=>match qob c E σ r with
   | some (.c (.pointer none))=>match qco c E σ g e l with
     | some (vs,d,f,q)=>some ((none,vs),d,f,q)
     | none=>none
   | some (.rpt id h m i _ 0)=>match σ.rw[id]?,g[p]?,qco c E σ g e l with
     | some R,some k,some (vs,d,f,q)=>match Nat.beq R.ver h&&(Nat.beq R.sv m&&Nat.beq id k)with
       | true=>some ((some i,vs),d,f,q)
       | false=>none
     | _,_,_=>none
   | _=>none
 | _,_=>none
def qHI(n:Nat)(l:List Nat):List Nat:=match Nat.beq l.length n with
 | true=>l
 | false=>[]
def qye(c:TC)(sas:List SA)(d:List RE)(l:List ResultVar)(E:Env)(σ : TS):Option (j8 sas × RV d):=match qix σ sas 0 with
 | some (o,i,q)=>match qco c E σ (qHI (nrB sas) i) d l with
   | some (v,a,e,f)=>match ndN (i++a)&&(((i++a).isEmpty||(q&&f))&&(ndN e&&e.all λ b=>Nat.ble (nBx sas) b))with
     | true=>some (o,v)
     | false=>none
   | none=>none
 | none=>none
def qhk:Nat->List TV->Env
 | _,[]=>[]
 | n,x::l=>(n,x)::qhk (n+1) l
end Go.AmZ
namespace Go.AmZ
open Go Go.RowKit Go.GxZ
mutual
def qKw:T->List AV
 | .mk k n s l=>[.v (.int .i64 k),.v (.string ⟨n.toArray⟩),.v (.int .i64 s),.sl 4 (qDa l) 0]
def qDa:List T->List (List AV)
 | []=>[]
 | t::l=>qKw t::qDa l
end
mutual
def qOg:AV->Option (List T)
 | .v (.slice none 0 0)=>some []
 | .sl 4 es _=>qCE es
 | _=>none
def qCE:List (List AV)->Option (List T)
 | []=>some []
 | e::es=>match qKf e with
   | some t=>match qCE es with
     | some l=>some (t::l)
     | none=>none
   | none=>none
def qKf:List AV->Option T
 | [.v (.int .i64 k),.v (.string n),.v (.int .i64 s),x]=>match qOg x with
   | some l=>some (.mk k n.data.toList s l)
   | none=>none
 | _=>none
end
mutual
theorem qLm:∀ t:T,qKf (qKw t)=some t
 | .mk k n s l=>by
   rw[qKw,qKf,qOg,qCc l]
theorem qCc:∀ l:List T,qCE (qDa l)=some l
 | []=>by rw[qDa,qCE]
 | t::l=>by rw[qDa,qCE,qLm t,qCc l]
end
theorem QN.len:∀{xs ys:List AV},QN xs ys->xs.length=ys.length
 | _,_,.nil=>rfl
 | _,_,.cons _ t=>by simp[t.len]
theorem QN.get:∀{xs ys:List AV},QN xs ys->∀(i:Nat) (y:AV),ys[i]?=some y->∃ x,xs[i]?=some x/\Sub x y
 | _,_,.nil,i,y,h=>by simp at h
 | _,_,.cons a t,0,y,h=>by simp at h;subst h;exact⟨_,rfl,a⟩
 | _,_,.cons a t,i+1,y,h=>by simpa using t.get i y (by simpa using h)
theorem qJ3{xs ys:List AV}(h:QN xs ys):Sub (.agg xs) (.agg ys):=by
 intro Γ u a;cases a with
 | agg cs us c d b =>
   have:=h.rep (RepL.mk c b);exact .agg _ _ this.len d this.rep
end Go.AmZ
namespace Go.AmZ
open Go Go.RowKit
def Q5(R:Row):Row:=⟨R.k,[],0,1,false⟩
theorem qpm{Γ Γ':Gh}{x:AV}{u:Value}(a:∀ b o u,Γ.mem b o=some u -> Γ'.mem b o=some u)(h:Rep Γ x u)(d:rb x=[])(c:rr x=[]):Rep Γ' x u:=by
 have:=qsQ (Γ' := Γ') (fb := λ b=>b) (fr := λ r=>r) a h (by rw[d];intro b hb;cases hb) (by rw[c];intro b hb;cases hb)
 rwa [qBB]at this
theorem qF7:∀{cs:List AV},rbL cs=[]->∀ x∈cs,rb x=[]
 | [],_,x,a=>by cases a
 | y::cs,h,x,a=>by
   simp only[rbL,wT]at h;rcases wy.1 a with rfl | a
   ·exact h.1
   ·exact qF7 h.2 x a
theorem qFv:∀{cs:List AV},rrL cs=[]->∀ x∈cs,rr x=[]
 | [],_,x,a=>by cases a
 | y::cs,h,x,a=>by
   simp only[rrL,wT]at h;rcases wy.1 a with rfl | a
   ·exact h.1
   ·exact qFv h.2 x a
theorem qI6{Γ Γ':Gh}{cs:List AV}{us:List Value}(d:∀ b o u,Γ.mem b o=some u -> Γ'.mem b o=some u)(h:RepL Γ cs us)(f:rbL cs=[])(e:rrL cs=[]):RepL Γ' cs us :=
 ⟨h.len,λ i x u a c=>qpm d (h.rep i x u a c) (qF7 f x (wa a)) (qFv e x (wa a))⟩
theorem qvB{x:AV}(h:qy x=true):rb x=[]/\rr x=[]:=(qg5 (fb := λ b=>b) (fr := λ r=>r) h).2
structure qGT (σ1:St) (fs:List Nat) (so:Option Nat) (R:Row):Prop where
 fz:R.fz=0
 ver:R.ver=0
 pos:0<R.k
 len:∀ e∈R.c,e.length=R.k
 plain:∀ e∈R.c,∀ x∈e,qy x=true
 src:match so with
  | none=>R.c=[]
  | some j=>∃ Q,σ1.rw[j]?=some Q/\Q.k=R.k/\Q.fz=0/\Q.c.length=R.c.length/\(∀(i:Nat) (e e':List AV),Q.c[i]?=some e->R.c[i]?=some e'->QN e e')/\j ∉ fs/\Q.off=false
def qiW(nb:Nat)(kb:List Nat)(i:Nat):Nat:=if i<nb then i else kb.getD (i-nb) 0
def yU(a:Gh)(m:Nat->Nat->Option Value)(nb:Nat)(kb:List Nat)(L:Nat)(qf:List (Option Nat × Row)):Gh :=
 { mem:=m,nb:=nb+kb.length,β := λ i=>a.β (qiW nb kb i),nr:=L+qf.length,ver := λ r=>if r<L then a.ver r+1 else 0,
   k := λ r=>if r<L then a.k r else match qf[r-L]? with | some p=>p.2.k | none=>1,
   cur := λ r=>if r<L then a.cur r else match qf[r-L]? with | some (some j,_)=>a.cur j | _=>0,
   sz := λ r=>if r<L then 0 else match qf[r-L]? with | some (some j,_)=>a.sz j | _=>0,of := λ _=>0 }
theorem qq1{y d:Gh}{σ0 σ1:St}{w0 I:World}(G:Inv y σ0 w0)(t:Ext y w0 d I)(F:Inv d σ1 I)(ag : σ0.bx.length <= σ1.bx.length)
  (z:List (List AV)) (kb:List Nat) (ac:z.length = σ0.bx.length+kb.length) (N:∀ b∈kb,σ0.bx.length<=b/\b < σ1.bx.length) (af:kb.Nodup) (K:List Nat) (qf:List (Option Nat × Row)) (ad:∀(i:Nat) (cs:List AV),z[i]?=some cs->∃ ds,σ1.bx[qiW σ0.bx.length kb i]?=some ds/\∀ m,Fz d m->(∀ r∈K,∀ R,σ1.rw[r]?=some R->Qy { d with mem:=m } r R)->∀ us,RepL d ds us->RepL (yU d m σ0.bx.length kb σ0.rw.length qf) cs us)
  (hn:∀(a:Nat) (so:Option Nat) (R:Row),qf[a]?=some (so,R)->qGT σ1 K so R) (hd:∀(a b j:Nat) (R R':Row),qf[a]?=some (some j,R)->qf[b]?=some (some j,R')->a=b) (wl aa:List Nat) :
  ∃ m,Fz d m/\(∀ r∈K,∀ R,σ1.rw[r]?=some R->Qy { d with mem:=m } r R)/\Ext y w0 (yU d m σ0.bx.length kb σ0.rw.length qf) I/\Inv (yU d m σ0.bx.length kb σ0.rw.length qf) ⟨z,σ0.rw.map Q5++qf.map (·.2),wl,aa⟩ I:=by
 obtain⟨m,W,V,m3⟩:=qdl K F σ1.wrr;have am : σ0.bx.length<=d.nb:=by rw[F.nb];exact ag
 have ae:∀ b o u,d.mem b o=some u->m b o=some u:=W.le.mem
 have B:∀{i:Nat},i < σ0.bx.length+kb.length->qiW σ0.bx.length kb i<d.nb := λ{i} f=>by
  unfold qiW;split
  ·grind
  ·rw[List.getD_eq_getElem?_getD,List.getElem?_eq_getElem (show i - σ0.bx.length<kb.length by omega),F.nb];exact(N _ (wW _)).2
 have ah:∀{i j:Nat},i < σ0.bx.length+kb.length->j < σ0.bx.length+kb.length->qiW σ0.bx.length kb i=qiW σ0.bx.length kb j->i=j := λ{i j} f O g=>by
  unfold qiW at g;split at g<;>split at g
  ·exact g
  ·rw[List.getD_eq_getElem?_getD,List.getElem?_eq_getElem (show j - σ0.bx.length<kb.length by omega)]at g;have g:i=kb[j - σ0.bx.length]:=g;have:=(N _ (wW (show j - σ0.bx.length<kb.length by omega))).1;omega
  ·rw[List.getD_eq_getElem?_getD,List.getElem?_eq_getElem (show i - σ0.bx.length<kb.length by omega)]at g;have g:kb[i - σ0.bx.length]=j:=g;have:=(N _ (wW (show i - σ0.bx.length<kb.length by omega))).1;omega
  ·rw[List.getD_eq_getElem?_getD,List.getD_eq_getElem?_getD,List.getElem?_eq_getElem (show i - σ0.bx.length<kb.length by omega),List.getElem?_eq_getElem (show j - σ0.bx.length<kb.length by omega)]at g;have g:kb[i - σ0.bx.length]=kb[j - σ0.bx.length]:=g;have:=(List.getElem_inj (h₀ := by omega) (h₁ := by omega) af).1 g;omega
 have A:∀{r:Nat},¬ r < σ0.rw.length->(yU d m σ0.bx.length kb σ0.rw.length qf).sz r≠0->∃ j R Q,qf[r - σ0.rw.length]?=some (some j,R) /\ σ1.rw[j]?=some Q/\qgz { d with mem:=m } I j Q/\(yU d m σ0.bx.length kb σ0.rw.length qf).cur r=d.cur j/\(yU d m σ0.bx.length kb σ0.rw.length qf).sz r=d.sz j:=by
  intro r s n;have L:(if r < σ0.rw.length then 0 else match qf[r - σ0.rw.length]? with | some (some j,_)=>d.sz j | _=>0)≠0:=n;rw[if_neg s]at L;split at L
  ·rename_i j R E;obtain⟨Q,U,_,_,_,_,q6,_⟩:=(hn _ _ _ E).src;refine⟨j,R,Q,E,U,V.row j Q (by show(frz σ1.rw K)[j]?=_;rw[qow K _ j q6];exact U),?_,?_⟩
   ·show(if r < σ0.rw.length then _ else match qf[r - σ0.rw.length]? with | some (some j,_)=>d.cur j | _=>0)=_;rw[if_neg s,E]
   ·show(if r < σ0.rw.length then _ else match qf[r - σ0.rw.length]? with | some (some j,_)=>d.sz j | _=>0)=_;rw[if_neg s,E]
  ·exact absurd rfl L
 have v:∀{r:Nat},r < σ0.rw.length->(yU d m σ0.bx.length kb σ0.rw.length qf).sz r=0 := λ s=>if_pos s;refine⟨m,W,m3,⟨⟨λ b o u h=>ae _ _ _ (t.le.mem b o u h),by rw[G.nb];exact kF _ _,λ i f=>by rw[<- t.le.β i f];show d.β (qiW _ _ _)=_;unfold qiW;rw[if_pos (by rw[<- G.nb];exact f)],by rw[G.nr];exact kF _ _,λ r s=>?_,λ r s=>?_,λ r s g=>?_⟩,t.os,t.tape,t.output,t.size,t.block,?_,?_,t.drawn⟩,?_⟩
 ·rw[G.nr]at s;exact(if_pos s).trans (t.le.k r (by rw[G.nr];exact s))
 ·have:=t.le.ver r s;rw[G.nr]at s;show y.ver r<=(if r < σ0.rw.length then d.ver r+1 else 0);rw[if_pos s];omega
 ·have:=t.le.ver r s;rw[G.nr]at s;have g:(if r < σ0.rw.length then d.ver r+1 else 0)=y.ver r:=g;rw[if_pos s]at g;omega
 ·rintro b (⟨i,f,hb⟩ | ⟨r,s,n,hb⟩)
  ·exact t.own b (.inl ⟨_,B f,hb⟩)
  ·by_cases l:r < σ0.rw.length
   ·exact absurd (v l) n
   ·obtain⟨j,R,Q,_,q2,_,q4,q5⟩:=A l n;exact t.own b (.inr ⟨j,by rw[F.nr];exact getElem?_lt q2,by rw[<- q5];exact n,by rw[<- q4];exact hb⟩)
 ·intro b o u hm;rcases W.own b o u hm with h | h
  ·exact t.memg b o u h
  ·exact .inr (t.own b h)
 ·refine⟨ac.symm,by show σ0.rw.length+qf.length=_;simp,λ b o u h=>V.mem b o u h,?_,λ i j f O g=>ah f O (F.inj _ _ (B f) (B O) g),λ i f o=>V.boxmem _ (B f) o,?_,?_⟩
  ·intro i cs f;obtain⟨ds,d1,d2⟩:=ad i cs f;obtain⟨vs,e,v1,v2,v3⟩:=F.box _ ds d1;exact⟨vs,e,v1,d2 m W m3 _ v2,v3⟩
  ·intro r R w;have w:(σ0.rw.map Q5++qf.map (·.2))[r]?=some R:=w;by_cases l:r < σ0.rw.length
   ·rw[List.getElem?_append_left (by rw[wB];exact l),List.getElem?_map]at w;cases q : σ0.rw[r]? with
    | none=>rw[q]at w;cases w
    | some R0 =>
      rw[q]at w;cases w;have H:=G.row r R0 q;have n:=v l;refine⟨?_,λ h=>absurd h (by show ¬ 1<=0;omega),H.pos,(by intro e g;cases g),(by intro e g;cases g),.inl rfl,λ h=>absurd n h,by show 0+0*_<=_;rw[kQ];exact we _,λ h=>absurd n h,(by intro i e j x f;cases f),λ h=>absurd n h,λ _=>rfl⟩;show R0.k=(if r < σ0.rw.length then d.k r else _);rw[if_pos l,H.k];exact(t.le.k r (by rw[G.nr];exact l)).symm
   ·rw[List.getElem?_append_right (by rw[wB];omega),wB,List.getElem?_map]at w;cases q:qf[r - σ0.rw.length]? with
    | none=>rw[q]at w;cases w
    | some p =>
      rw[q]at w;cases w;obtain⟨so,R⟩:=p;have C:=hn _ _ _ q
      have hk:R.k=(yU d m σ0.bx.length kb σ0.rw.length qf).k r:=by
       show _=(if r < σ0.rw.length then _ else match qf[r - σ0.rw.length]? with | some p=>p.2.k | none=>1);rw[if_neg l,q]
      have J:R.ver=(yU d m σ0.bx.length kb σ0.rw.length qf).ver r:=by
       show _=(if r < σ0.rw.length then _ else 0);rw[if_neg l];exact C.ver
      cases so with
      | none =>
        have hc:R.c=[]:=C.src
        have n:(yU d m σ0.bx.length kb σ0.rw.length qf).sz r=0:=by
         grind
        exact⟨hk,λ _=>J,C.pos,C.len,C.plain,.inl hc,λ h=>absurd n h,by show 0+R.c.length*_<=_;rw[hc];simp,λ h=>absurd n h,(by intro i e j x f;change R.c[i]?=_ at f;rw[hc]at f;cases f),λ h=>absurd n h,λ _=>rfl⟩
      | some j =>
        obtain⟨Q,U,q2,q3,q4,q5,q6,q7⟩:=C.src;have H:qgz { d with mem:=m } I j Q:=V.row j Q (by show(frz σ1.rw K)[j]?=_;rw[qow K _ j q6];exact U)
        have T:(yU d m σ0.bx.length kb σ0.rw.length qf).cur r=d.cur j:=by
         show(if r < σ0.rw.length then _ else match qf[r - σ0.rw.length]? with | some (some j,_)=>d.cur j | _=>0)=_;rw[if_neg l,q]
        have M:(yU d m σ0.bx.length kb σ0.rw.length qf).sz r=d.sz j:=by
         show(if r < σ0.rw.length then _ else match qf[r - σ0.rw.length]? with | some (some j,_)=>d.sz j | _=>0)=_;rw[if_neg l,q]
        have ak:d.of j=0:=H.off q7;refine⟨hk,λ _=>J,C.pos,C.len,C.plain,.inr (by show R.fz<=_;rw[C.fz];exact we _),λ n=>?_,?_,λ n off ho=>?_,?_,λ n i f=>?_,λ _=>rfl⟩
        ·rw[M]at n;obtain⟨vs,e,fr,b1,b2,b3,b4⟩:=H.blk n;grind
        ·show 0+R.c.length*R.k<=_;have an:d.of j+Q.c.length*Q.k<=d.sz j:=H.fit;grind
        ·rw[M]at n;rw[T];refine H.un n off ?_;grind
        ·intro i e' X x' f O;have f:R.c[i]?=some e':=f;have S:i<Q.c.length:=by rw[q4];exact getElem?_lt f
         obtain⟨x,ab,P⟩:=(q5 i _ e' (List.getElem?_eq_getElem S) f).get X x' O;obtain⟨u,u1,u2,u3⟩:=H.cells i _ X x (List.getElem?_eq_getElem S) ab;obtain⟨p1,p2⟩:=qvB (C.plain e' (wa f) x' (wa O));refine⟨u,?_,qpm (Γ := { d with mem:=m }) (λ _ _ _ h=>h) (P _ _ u2) p1 p2,u3⟩;have ai:I.cell? ⟨d.cur j,d.of j+(i*Q.k+X),none⟩=some u:=u1;show I.cell? ⟨_,0+(i*R.k+X),none⟩=_;grind
        ·rw[M]at n;rw[T];exact H.nbx n _ (B f)
  ·intro r r' s aj al Z Y;by_cases e1:r < σ0.rw.length
   ·exact absurd (v e1) Z
   by_cases e2:r' < σ0.rw.length
   ·exact absurd (v e2) Y
   obtain⟨j,R,Q,a1,a2,_,a4,a5⟩:=A e1 Z;obtain⟨j',R',Q',b1,b2,_,b4,b5⟩:=A e2 Y;rw[a4,b4];refine F.apart j j' (by rw[F.nr];exact getElem?_lt a2) (by rw[F.nr];exact getElem?_lt b2) (λ g=>?_) (by rw[<- a5];exact Z) (by rw[<- b5];exact Y);grind
end Go.AmZ
namespace Go.AmZ
open Go Go.RowKit Go.GxZ
def zf{a:Type}(f:List AV->Option a):List (List AV)->Option (List a)
 | []=>some []
 | e::es=>match f e with
   | some v=>match zf f es with
     | some vs=>some (v::vs)
     | none=>none
   | none=>none
mutual
def qnx:AV->Option (List T)
 | .v (.slice none 0 0)=>some []
 | .sl 4 es (_+1)=>qsA es
 | _=>none
def qsA:List (List AV)->Option (List T)
 | []=>some []
 | e::es=>match Jc e with
   | some t=>match qsA es with
     | some l=>some (t::l)
     | none=>none
   | none=>none
def Jc:List AV->Option T
 | [.v (.int .i64 k),.v (.string n),.v (.int .i64 s),x]=>match qnx x with
   | some l=>some (.mk k n.data.toList s l)
   | none=>none
 | _=>none
end
def full{a:Type}:Option (a × List AV)->Option a
 | some (v,[])=>some v
 | _=>none
def jA(k:Nat){a:Type}(f:List AV->Option a):AV->Option (List a)
 | .v (.slice none 0 0)=>some []
 | .sl b es (_+1)=>match zh b k with
   | true=>zf f es
   | false=>none
 | _=>none
def qbd(k:IntKind):List AV->Option (Int × List AV)
 | .v (.int a n)::r=>match decide (a=k)with
   | true=>some (n,r)
   | false=>none
 | _=>none
def qif:List AV->Option (Bool × List AV)
 | .v (.bool b)::r=>some (b,r)
 | _=>none
def qgU:List AV->Option (List UInt8 × List AV)
 | .v (.string s)::r=>some (s.data.toList,r)
 | _=>none
def qaN:List AV->Option (T × List AV)
 | a::b::c::d::r=>match Jc [a,b,c,d]with
   | some t=>some (t,r)
   | none=>none
 | _=>none
def qdI{a:Type}(b:AV->Option a):List AV->Option (a × List AV)
 | x::r=>match b x with
   | some l=>some (l,r)
   | none=>none
 | _=>none
def QZ:(τ : Ty)->List AV->Option (Val τ × List AV)
 | .int k=>qbd k
 | .bool=>qif
 | .str=>qgU
 | .term=>qaN
 | .list a=>qdI (jA a.size (λ e=>full (QZ a e)))
 | .pair a b=>qqj (QZ a) (QZ b)
 | .one a=>QZ a
def yj(τ : Ty)(e:List AV):Option (Val τ):=full (QZ τ e)
def dlist(τ : Ty)(x:AV):Option (List (Val τ)):=jA τ.size (yj τ) x
mutual
def J6:T->List AV
 | .mk k n s l=>[.v (.int .i64 k),.v (.string ⟨n.toArray⟩),.v (.int .i64 s),.sl 4 (qqm l) 1]
def qqm:List T->List (List AV)
 | []=>[]
 | t::l=>J6 t::qqm l
end
def qi:(τ : Ty)->Val τ -> List AV
 | .int k,n=>[.v (.int k n)]
 | .bool,b=>[.v (.bool b)]
 | .str,s=>[.v (.string ⟨s.toArray⟩)]
 | .term,t=>J6 t
 | .list a,l=>[.sl a.size (l.map (qi a)) 1]
 | .pair a b,p=>qi a p.1++qi b p.2
 | .one a,v=>qi a v
def yN:(τ : Ty)->Val τ -> AV
 | .int k,n => .v (.int k n)
 | .bool,b => .v (.bool b)
 | .str,s => .v (.string ⟨s.toArray⟩)
 | .list a,l => .sl a.size (l.map (qi a)) 1
 | .term,t => .agg (qi .term t)
 | .pair a b,p => .agg (qi (.pair a b) p)
 | .one a,v => .agg (qi (.one a) v)
theorem jb{a:Type}{f:List AV->Option a}{e:List AV}{es:List (List AV)}{l:List a}:zf f (e::es)=some l↔∃ v vs,f e=some v/\zf f es=some vs/\l=v::vs:=by
 grind [zf]
theorem qX{a:Type}{f:List AV->Option a}:∀{es:List (List AV)} {l:List a},zf f es=some l->es.length=l.length
 | [],l,h=>by cases h;rfl
 | e::es,l,h=>by
   obtain⟨v,vs,_,b,rfl⟩:=jb.1 h;simp[qX b]
theorem qhc{b:Type}{f:List AV->Option b}:∀{es:List (List AV)} {l:List b},zf f es=some l->∀{i:Nat} {v:b},l[i]?=some v->∃ e,es[i]?=some e/\f e=some v
 | [],l,h,i,v,a=>by cases h;simp at a
 | e::es,l,h,i,v,a=>by
   obtain⟨w,vs,d,c,rfl⟩:=jb.1 h;cases i with
   | zero=>simp at a;subst a;exact⟨e,rfl,d⟩
   | succ i=>exact qhc c (by simpa using a)
theorem J8{b:Type}{f:List AV->Option b}:∀{es:List (List AV)} {l:List b},zf f es=some l->∀{i:Nat} {e:List AV},es[i]?=some e->∃ v,l[i]?=some v/\f e=some v
 | [],l,h,i,v,a=>by simp at a
 | e::es,l,h,i,v,a=>by
   obtain⟨w,vs,d,c,rfl⟩:=jb.1 h;cases i with
   | zero=>simp at a;subst a;exact⟨w,rfl,d⟩
   | succ i=>exact J8 c (by simpa using a)
theorem qad{b:Type}{f:List AV->Option b}:∀{es a:List (List AV)} {l m:List b},zf f es=some l->zf f a=some m->zf f (es++a)=some (l++m)
 | [],a,l,m,h,g=>by cases h;exact g
 | e::es,a,l,m,h,g=>by
   obtain⟨v,vs,d,c,rfl⟩:=jb.1 h;exact jb.2 ⟨v,vs++m,d,qad c g,rfl⟩
theorem qhp{a:Type}{f:List AV->Option a}:∀(n:Nat) {es:List (List AV)} {l:List a},zf f es=some l->zf f (es.take n)=some (l.take n)
 | 0,es,l,h=>by simp;rfl
 | n+1,[],l,h=>by cases h;rfl
 | n+1,e::es,l,h=>by
   obtain⟨v,vs,c,b,rfl⟩:=jb.1 h;exact jb.2 ⟨v,vs.take n,c,qhp n b,rfl⟩
theorem qfs{a:Type}{f:List AV->Option a}:∀(n:Nat) {es:List (List AV)} {l:List a},zf f es=some l->zf f (es.drop n)=some (l.drop n)
 | 0,es,l,h=>by simpa using h
 | n+1,[],l,h=>by cases h;rfl
 | n+1,e::es,l,h=>by
   obtain⟨v,vs,c,b,rfl⟩:=jb.1 h;simpa using qfs n b
theorem qcb{a:Type}{f:List AV->Option a}{g:a->List AV}(h:∀ v,f (g v)=some v):∀ l:List a,zf f (l.map g)=some l
 | []=>rfl
 | v::l=>jb.2 ⟨v,l,h v,qcb h l,rfl⟩
theorem qp4:∀ es:List (List AV),qsA es=zf Jc es
 | []=>rfl
 | e::es=>by
   rw[qsA,zf,qp4 es];grind
theorem ya{a:Type}{x:Option (a × List AV)}{v:a}:full x=some v↔x=some (v,[]):=by
 unfold full;grind
theorem qni{cs:List AV}{t:T}(h:Jc cs=some t):∃ k n s x l,cs=[.v (.int .i64 k),.v (.string n),.v (.int .i64 s),x]/\qnx x=some l/\t = .mk k n.data.toList s l:=by
 unfold Jc at h;grind
theorem qyS(e:List AV):yj .term e=Jc e:=by
 show full (qaN e)=Jc e;unfold qaN;split
 ·rename_i a b c d r;cases r with
  | nil =>
    cases f:Jc [a,b,c,d]with
    | none=>rfl
    | some t=>rfl
  | cons x r =>
    have g:Jc (a::b::c::d::x::r)=none:=by
     grind [Jc]
    rw[g];cases f:Jc [a,b,c,d]with
    | none=>rfl
    | some t=>rfl
 ·rename_i h;cases f:Jc e with
  | none=>rfl
  | some t =>
    obtain⟨k,n,s,x,l,rfl,_,_⟩:=qni f;exact absurd rfl (h _ _ _ _ _)
theorem qkQ(x:AV):dlist .term x=qnx x:=by
 have c:(yj .term:List AV->Option T)=Jc:=funext qyS;unfold dlist jA qnx;split
 ·rfl
 ·rename_i a es n;by_cases b:a=4
  ·subst b;show zf (yj .term) es=qsA es;rw[c,qp4]
  ·grind [zh,Ty.size]
 ·grind
theorem qFn{es c:List (List AV)}{k f:Nat}(D:0<f)(q:es.length=c.length)(C:∀ e∈c,e.length=k)(B:∀ e∈c,∀ x∈e,qy x=true)
  (A:∀(i:Nat) (e d:List AV),es[i]?=some e->c[i]?=some d->QN e d):Sub (.sl k es f) (.sl k c 1):=by
 intro Γ u z;cases z with
 | sl k es f a n cap b o us H G M L K F J I E =>
   have get:∀(i:Nat) (d:List AV) (j:Nat) (y:AV),c[i]?=some d->d[j]?=some y->∃ e x,es[i]?=some e/\e[j]?=some x/\Sub x y:=by
    intro i d j y l p;have m:i<es.length:=by rw[q];exact getElem?_lt l
    have r:=List.getElem?_eq_getElem m;obtain⟨x,w,g⟩:=(A i _ d r l).get j y p;exact⟨_,x,r,w,g⟩
   refine .sl k c 1 a n cap b o us (by rw[H,q]) (λ _=>G D) (λ h=>absurd h (by decide)) C B F ?_ ?_ ?_
   ·grind
   ·grind
   ·intro i d j y l p;obtain⟨e,x,v,t,s⟩:=get i d j y l p;exact s Γ _ (E i e j x v t)
theorem qBi(k:Nat)(b:0<k):Sub (.v (.slice none 0 0)) (.sl k [] 1):=by
 intro Γ u a;have:=zm a;subst this;exact .sl k [] 1 none 0 0 0 0 (λ _ _=>undef) rfl (λ _=>wb _) (λ h=>absurd h (by decide)) (by simp) (by simp) b (.inl rfl) (by simp) (by simp)
theorem qlW:∀ l:List T,qqm l=l.map J6
 | []=>rfl
 | t::l=>by rw[qqm,qlW l];rfl
theorem qzo(t:T):(J6 t).length=4:=by obtain⟨k,n,s,l⟩:=t;rw[J6];rfl
theorem qtx(t:T):∀ x∈J6 t,qy x=true:=by
 obtain⟨k,n,s,l⟩:=t;intro x a;rw[J6]at a;simp at a;rcases a with rfl | rfl | rfl | rfl<;>rfl
theorem jD:∀(τ : Ty) (v:Val τ),(qi τ v).length = τ.size
 | .int _,_=>rfl
 | .bool,_=>rfl
 | .str,_=>rfl
 | .term,t=>qzo t
 | .list _,_=>rfl
 | .pair a b,p=>by rw[qi,wc,jD a,jD b];rfl
 | .one a,v=>by rw[qi,jD a];rfl
theorem zr:∀(τ : Ty) (v:Val τ),∀ x∈qi τ v,qy x=true
 | .int _,_,x,h=>by simp[qi]at h;subst h;rfl
 | .bool,_,x,h=>by simp[qi]at h;subst h;rfl
 | .str,_,x,h=>by simp[qi]at h;subst h;rfl
 | .term,t,x,h=>qtx t x h
 | .list _,_,x,h=>by simp[qi]at h;subst h;rfl
 | .pair a b,p,x,h=>by
   rw[qi]at h;rcases wx.1 h with h | h
   ·exact zr a _ x h
   ·exact zr b _ x h
 | .one a,v,x,h=>zr a v x h
theorem qPR(t:T):∀ cs,Jc cs=some t->QN cs (J6 t)/\∀ x∈cs,qy x=true:=by
 refine T.ind (P := λ t=>∀ cs,Jc cs=some t->QN cs (J6 t)/\∀ x∈cs,qy x=true) ?_ t;intro t o cs h;obtain⟨k,n,s,x,l,rfl,b,rfl⟩:=qni h;have p:(⟨n.data.toList.toArray⟩:ByteArray)=n:=by cases n;simp
 have d:Sub x (.sl 4 (qqm l) 1)/\qy x=true:=by
  unfold qnx at b;split at b
  ·cases b;rw[qqm];exact⟨qBi 4 (by decide),rfl⟩
  ·rename_i es r;refine⟨?_,rfl⟩;rw[qp4]at b;rw[qlW];refine qFn (xN _) (by rw[qX b,wB]) ?_ ?_ ?_
   ·intro e f;obtain⟨c,_,rfl⟩:=ww.1 f;exact qzo c
   ·intro e f;obtain⟨c,_,rfl⟩:=ww.1 f;exact qtx c
   ·intro i e u q a;obtain⟨c,g,m⟩:=J8 b q;rw[List.getElem?_map,g]at a;simp at a;subst a;exact(o c (wa g) e m).1
  ·cases b
 refine⟨?_,?_⟩
 ·rw[J6,p];exact .cons (.refl _) (.cons (.refl _) (.cons (.refl _) (.cons d.1 .nil)))
 ·intro y j;simp at j;rcases j with rfl | rfl | rfl | rfl
  ·rfl
  ·rfl
  ·rfl
  ·exact d.2
theorem QN.append:∀{a b c d:List AV},QN a b->QN c d->QN (a++c) (b++d)
 | _,_,_,_,.nil,g=>g
 | _,_,_,_,.cons h t,g => .cons h (t.append g)
theorem Ty.size_pos:∀ τ : Ty,0 < τ.size
 | .int _=>Nat.one_pos
 | .bool=>Nat.one_pos
 | .str=>Nat.one_pos
 | .term=>by decide
 | .list _=>Nat.one_pos
 | .pair a b=>wE (Ty.size_pos a) (kF _ _)
 | .one a=>Ty.size_pos a
theorem qab{σ b a:Type}{p:List σ -> Option (b × List σ)}{q:List σ -> Option (a × List σ)}{cs:List σ}{v:b × a}{r:List σ}:qqj p q cs=some (v,r)↔∃ c,p cs=some (v.1,c)/\q c=some (v.2,r):=by
 grind [qqj]
theorem qgd:∀(τ : Ty) {cs:List AV} {v:Val τ} {r:List AV} (s:List AV),QZ τ cs=some (v,r)->QZ τ (cs++s)=some (v,r++s)
 | .int k,cs,v,r,s,h=>by
   change qbd k cs=_ at h;show qbd k (cs++s)=_;unfold qbd at h;grind [qbd]
 | .bool,cs,v,r,s,h=>by
   change qif cs=_ at h;unfold qif at h;split at h<;>cases h;rfl
 | .str,cs,v,r,s,h=>by
   change qgU cs=_ at h;unfold qgU at h;split at h<;>cases h;rfl
 | .term,cs,v,r,s,h=>by
   change qaN cs=_ at h;unfold qaN at h;split at h<;>try cases h
   split at h<;>cases h;rename_i c;show qaN _=_;grind [qaN]
 | .list a,cs,v,r,s,h=>by
   change qdI _ cs=_ at h;unfold qdI at h;split at h<;>try cases h
   split at h<;>cases h;rename_i c;show qdI _ _=_;grind [qdI]
 | .pair a b,cs,v,r,s,h=>by
   obtain⟨f,e,d⟩:=qab.1 h;exact qab.2 ⟨_,qgd a s e,qgd b s d⟩
 | .one a,cs,v,r,s,h=>qgd a s h
theorem yQ:∀(τ : Ty) {cs:List AV} {v:Val τ} {r:List AV},QZ τ cs=some (v,r)->∃ pre,cs=pre++r/\pre.length = τ.size/\(∀ x∈pre,qy x=true)/\QN pre (qi τ v)/\QZ τ pre=some (v,[])
 | .int k,cs,v,r,h=>by
   change qbd k cs=_ at h;unfold qbd at h;split at h<;>try cases h
   split at h<;>cases h;rename_i f;have j:=of_decide_eq_true f;subst j;exact⟨[_],rfl,rfl,by simp[qy],.refl _,by show qbd _ _=_;simp[qbd]⟩
 | .bool,cs,v,r,h=>by
   change qif cs=_ at h;unfold qif at h;split at h<;>cases h;exact⟨[_],rfl,rfl,by simp[qy],.refl _,rfl⟩
 | .str,cs,v,r,h=>by
   change qgU cs=_ at h;unfold qgU at h;split at h<;>cases h;rename_i s;have D:(⟨s.data.toList.toArray⟩:ByteArray)=s:=by cases s;simp
   exact⟨[_],rfl,rfl,by simp[qy],by rw[qi,D];exact .refl _,rfl⟩
 | .term,cs,v,r,h=>by
   change qaN cs=_ at h;unfold qaN at h;split at h<;>try cases h
   split at h<;>cases h;rename_i c;obtain⟨o,m⟩:=qPR _ _ c;exact⟨_,rfl,rfl,m,o,by show qaN _=_;simp only[qaN,c]⟩
 | .list a,cs,v,r,h=>by
   change qdI _ cs=_ at h;unfold qdI at h;split at h<;>try cases h
   rename_i x J;split at h<;>cases h;rename_i c;refine⟨[x],rfl,rfl,?_,?_,by show qdI _ _=_;simp only[qdI,c]⟩
   ·intro y u;simp at u;subst u;unfold jA at c;split at c
    ·rfl
    ·rfl
    ·cases c
   ·rw[qi];refine .cons ?_ .nil;unfold jA at c;split at c
    ·cases c;exact qBi _ (Ty.size_pos a)
    ·rename_i M es n;split at c
     ·rename_i f;have f:=of_decide_eq_true f;subst f;refine qFn (xN _) (by rw[qX c,wB]) ?_ ?_ ?_
      ·intro e l;obtain⟨w,_,rfl⟩:=ww.1 l;exact jD a w
      ·intro e l;obtain⟨w,_,rfl⟩:=ww.1 l;exact zr a w
      ·intro i e N E d;obtain⟨w,t,q⟩:=J8 c E;rw[List.getElem?_map,t]at d;simp at d;subst d;obtain⟨pre,L,_,_,K,_⟩:=yQ a (ya.1 q);grind
     ·cases c
    ·cases c
 | .pair a b,cs,v,r,h=>by
   obtain⟨I,o,m⟩:=qab.1 h;obtain⟨p,e1,C,t,A,H⟩:=yQ a o;obtain⟨g,F,B,q,z,G⟩:=yQ b m;refine⟨p++g,by rw[e1,F,wi],by rw[wc,C,B];rfl,?_,by rw[qi];exact A.append z,?_⟩
   ·grind
   ·exact qab.2 ⟨g,by have:=qgd a g H;simpa using this,G⟩
 | .one a,cs,v,r,h=>yQ a h
theorem qHT(t:T):Jc (J6 t)=some t:=by
 refine T.ind (P := λ t=>Jc (J6 t)=some t) ?_ t;intro t c;obtain⟨k,n,s,l⟩:=t
 have:qsA (qqm l)=some l:=by
  rw[qp4,qlW];have c:∀ x∈l,Jc (J6 x)=some x:=c
  have a:∀ m:List T,(∀ x∈m,Jc (J6 x)=some x)->zf Jc (m.map J6)=some m:=by
   intro m
   induction m with
   | nil=>intro _;rfl
   | cons x m b=>intro h;exact jb.2 ⟨x,m,h x (wh ..),b λ y d=>h y (wg _ d),rfl⟩
  exact a l c
 rw[J6,Jc,qnx,this]
theorem qhB:∀(τ : Ty) (v:Val τ),QZ τ (qi τ v)=some (v,[])
 | .int k,v=>by show qbd k [_]=_;simp[qbd]
 | .bool,v=>rfl
 | .str,v=>by show qgU _=_;simp[qgU,qi]
 | .term,t=>by
   have:=qyS (J6 t);rw[qHT]at this;exact ya.1 this
 | .list a,l=>by
   have c:zf (λ e=>full (QZ a e)) (l.map (qi a))=some l:=qcb (λ v=>by rw[qhB a v];rfl) l;show qdI _ [_]=_;grind [qdI,jA,zh]
 | .pair a b,v=>qab.2 ⟨_,qgd a _ (qhB a v.1),by rw[kV];exact qhB b v.2⟩
 | .one a,v=>qhB a v
abbrev waF:=@Ty.size_pos
end Go.AmZ
namespace Go.AmZ
open Go Go.RowKit Go.GxZ
structure Mp where
 b:Nat->Nat
 nb:Nat
 r:Nat->Option Nat
 v:Nat->Nat
 q:Nat->List (List AV)
 rw:List qR
def mp0:Mp:=⟨λ _=>0,0,λ _=>none,λ _=>0,λ _=>[],[]⟩
def lvl:AV->Nat
 | .v _=>2
 | .sl _ _ n=>n
 | _=>0
def qaa(r:Option Nat)(v:Nat)(τ : Ty)(l:List (Val τ))(y:AV):Prop:=match r with
 | some r=>y = .rs r 0 l.length v false
 | none=>dlist τ y=some l/\2<=lvl y
def qtS(y:AV):Prop:=y = .v (.slice none 0 0)\/(∃ k es n,y = .sl k es n)\/∃ r lo n a f,y = .rs r lo n a f
theorem qJo{τ : Ty}{y:AV}{l:List (Val τ)}(h:dlist τ y=some l):qtS y:=by
 unfold dlist jA at h;split at h
 ·exact .inl rfl
 ·exact .inr (.inl ⟨_,_,_,rfl⟩)
 ·cases h
theorem qaa.ish{r:Option Nat}{v:Nat}{τ : Ty}{l:List (Val τ)}{y:AV}(h:qaa r v τ l y):qtS y:=by
 cases r with
 | some r=>exact .inr (.inr ⟨_,_,_,_,_,h⟩)
 | none=>exact qJo h.1
def qww(m:Mp)(id a:Nat)(y:AV):Prop :=
 ∃ R,m.rw[id]?=some R/\a<=R.ver/\qtS y/\(R.ver=a->qaa (m.r id) (m.v id) R.τ R.l y)
mutual
def OK(m:Mp):TV->AV->Prop
 | .i k n,y=>y = .v (.int k n)
 | .b x,y=>y = .v (.bool x)
 | .s x,y=>y = .v (.string ⟨x.toArray⟩)
 | .c v,y=>zt v=true/\y = .v v
 | .nil,y=>y = .v (.slice none 0 0)
 | .sl τ l e,y=>dlist τ y=some l/\e<=lvl y
 | .row id a,y=>qww m id a y
 | .ptr b o,y=>b<m.nb/\y = .ptr (m.b b) o
 | .pti b i,y=>b<m.nb/\0<=i/\y = .ptr (m.b b) i.toNat
 | .rpt id a d i cs o,y=>∃ R,m.rw[id]?=some R/\a<=R.ver/\d<=R.sv/\((∃ r j g,y = .rpt r j o g)\/∃ ds,y = .ept ds o)/\(R.ver=a->(∃ r j,m.r id=some r/\y = .rpt r j o (m.v id)/\i=((j:Nat):Int)/\j<R.l.length/\(R.sv=d->∃ ds,(m.q id)[j]?=some ds/\OKL m cs ds))\/(m.r id=none/\0<R.l.length/\(R.sv=d->∃ ds,y = .ept ds o/\OKL m cs ds)))
 | .ept cs o,y=>∃ ds,y = .ept ds o/\OKL m cs ds
 | .fn f cs,y=>∃ ds,y = .fn f ds/\OKL m cs ds
 | .agg cs,y=>∃ ds,y = .agg ds/\OKL m cs ds
 | .tup cs,y=>∃ ds,y = .tup ds/\OKL m cs ds
 | .dead,_=>True
def OKL(m:Mp):List TV->List AV->Prop
 | [],ys=>ys=[]
 | x::xs,ys=>∃ y r,ys=y::r/\OK m x y/\OKL m xs r
end
structure MLe (m m':Mp):Prop where
 nb:m.nb<=m'.nb
 b:∀ i,i<m.nb->m'.b i=m.b i
 row:∀ id R,m.rw[id]?=some R->∃ R',m'.rw[id]?=some R'/\R.ver<=R'.ver/\R.sv<=R'.sv/\(R'.ver=R.ver->R'.l.length=R.l.length/\m'.r id=m.r id/\m'.v id=m.v id/\R'.τ = R.τ /\ (R'.sv=R.sv->m'.q id=m.q id)/\(m.r id=none->∀ y,dlist R.τ y=some R.l->dlist R'.τ y=some R'.l))
theorem MLe.refl(m:Mp):MLe m m:=⟨wb _,λ _ _=>rfl,λ _ R h=>⟨R,h,wb _,wb _,λ _=>⟨rfl,rfl,rfl,rfl,λ _=>rfl,λ _ _ h=>h⟩⟩⟩
theorem MLe.trans{a b c:Mp}(h:MLe a b)(g:MLe b c):MLe a c where
 nb:=wD h.nb g.nb
 b := λ i f=>(g.b i (wE f h.nb)).trans (h.b i f)
 row := λ id R l=>by
  obtain⟨d,p,o,n,m⟩:=h.row id R l;obtain⟨R2,s,r,g3,q⟩:=g.row id d p;refine⟨R2,s,wD o r,wD n g3,λ H=>?_⟩;have e1:d.ver=R.ver:=by omega
  have t:R2.ver=d.ver:=by omega
  obtain⟨F,j,E,D,C,B⟩:=m e1;obtain⟨A,z,x,w,v,u⟩:=q t;exact⟨A.trans F,z.trans j,x.trans E,w.trans D,λ G=>(v (by omega)).trans (C (by omega)),λ e y k=>u (j.trans e) y (B e y k)⟩
theorem qww.mono{m m':Mp}(g:MLe m m'){id f:Nat}{y:AV}(h:qww m id f y):qww m' id f y:=by
 obtain⟨R,n,j,i,e⟩:=h;obtain⟨R',p,o,_,g3⟩:=g.row id R n;refine⟨R',p,wD j o,i,λ q=>?_⟩;have e1:R'.ver=R.ver:=by omega
 obtain⟨a,b,c,d,_,k⟩:=g3 e1;have e:=e (by omega);rw[b,c];revert e k;cases m.r id with
 | some r =>
   intro _ e;show y = .rs r 0 R'.l.length (m.v id) false;rw[a];exact e
 | none=>intro k e;exact⟨k rfl y e.1,e.2⟩
mutual
theorem OK.mono{m m':Mp}(e:MLe m m'):∀{x:TV} {y:AV},OK m x y->OK m' x y
 | .i ..,y,h=>h
 | .b ..,y,h=>h
 | .s ..,y,h=>h
 | .c ..,y,h=>h
 | .nil,y,h=>h
 | .sl ..,y,h=>h
 | .row ..,y,h=>qww.mono e h
 | .ptr b o,y,h=>⟨wE h.1 e.nb,by rw[e.b _ h.1];exact h.2⟩
 | .pti b i,y,h=>⟨wE h.1 e.nb,h.2.1,by rw[e.b _ h.1];exact h.2.2⟩
 | .rpt id w G _ cs o,y,h=>by
   obtain⟨R,k,g,u,D,C⟩:=h;obtain⟨R',F,E,v,g3⟩:=e.row id R k;refine⟨R',F,wD g E,wD u v,D,λ H=>?_⟩;have e1:R'.ver=R.ver:=by omega
   obtain⟨a,b,c,_,d,_⟩:=g3 e1;rcases C (by omega)with⟨r,j,t,z,A,q,p⟩ | ⟨t,q,p⟩
   ·refine .inl ⟨r,j,b.trans t,by rw[c];exact z,A,by rw[a];exact q,λ B=>?_⟩;obtain⟨ds,n,l⟩:=p (by omega);exact⟨ds,by rw[d (by omega)];exact n,OKL.mono e l⟩
   ·refine .inr ⟨b.trans t,by rw[a];exact q,λ B=>?_⟩;obtain⟨ds,n,l⟩:=p (by omega);exact⟨ds,n,OKL.mono e l⟩
 | .ept cs o,y,⟨ds,k,g⟩=>⟨ds,k,OKL.mono e g⟩
 | .fn f cs,y,⟨ds,k,g⟩=>⟨ds,k,OKL.mono e g⟩
 | .agg cs,y,⟨ds,k,g⟩=>⟨ds,k,OKL.mono e g⟩
 | .tup cs,y,⟨ds,k,g⟩=>⟨ds,k,OKL.mono e g⟩
 | .dead,y,h=>trivial
theorem OKL.mono{m m':Mp}(a:MLe m m'):∀{xs:List TV} {ys:List AV},OKL m xs ys->OKL m' xs ys
 | [],ys,h=>h
 | x::xs,ys,⟨y,r,d,c,b⟩=>⟨y,r,d,OK.mono a c,OKL.mono a b⟩
end
theorem qE5{m:Mp}{R:qR}{id a o:Nat}{i:Int}{cs:List TV}{y:AV}(h:(∃ r j,m.r id=some r/\y = .rpt r j o (m.v id)/\i=((j:Nat):Int)/\j<R.l.length/\(R.sv=a->∃ ds,(m.q id)[j]?=some ds/\OKL m cs ds))\/(m.r id=none/\0<R.l.length/\(R.sv=a->∃ ds,y = .ept ds o/\OKL m cs ds)))(b:R.sv=a) :
  (∃ r j ds,m.r id=some r/\y = .rpt r j o (m.v id)/\i=((j:Nat):Int)/\j<R.l.length/\(m.q id)[j]?=some ds/\OKL m cs ds)\/∃ ds,m.r id=none/\y = .ept ds o/\0<R.l.length/\OKL m cs ds:=by
 grind
theorem OKL.nil(m:Mp):OKL m [] []:=rfl
theorem OKL.cons{m:Mp}{x:TV}{y:AV}{xs:List TV}{ys:List AV}(h:OK m x y)(g:OKL m xs ys):OKL m (x::xs) (y::ys):=⟨y,ys,rfl,h,g⟩
theorem OKL.len{m:Mp}:∀{xs:List TV} {ys:List AV},OKL m xs ys->ys.length=xs.length
 | [],_,h=>by cases h;rfl
 | _::_,_,⟨_,_,rfl,_,h⟩=>by simp[h.len]
theorem OKL.get{m:Mp}:∀{xs:List TV} {ys:List AV},OKL m xs ys->∀{i:Nat} {x:TV},xs[i]?=some x->∃ y,ys[i]?=some y/\OK m x y
 | [],_,_,i,x,a=>by simp at a
 | _::_,_,⟨y,r,rfl,c,b⟩,0,x,a=>by simp at a;subst a;exact⟨y,rfl,c⟩
 | _::_,_,⟨y,r,rfl,c,b⟩,i+1,x,a=>by simpa using b.get (by simpa using a)
theorem OKL.append{m:Mp}:∀{xs:List TV} {ys:List AV} {b:List TV} {a:List AV},OKL m xs ys->OKL m b a->OKL m (xs++b) (ys++a)
 | [],_,_,_,h,g=>by cases h;exact g
 | _::_,_,_,_,⟨y,r,rfl,d,c⟩,g=>⟨y,_,rfl,d,c.append g⟩
theorem OKL.take{m:Mp}(n:Nat):∀{xs:List TV} {ys:List AV},OKL m xs ys->OKL m (xs.take n) (ys.take n):=by
 induction n with
 | zero=>intro xs ys _;simp;exact rfl
 | succ n a =>
   intro xs ys h;cases xs with
   | nil=>cases h;exact rfl
   | cons x xs=>obtain⟨y,r,rfl,c,b⟩:=h;exact⟨y,_,rfl,c,a b⟩
theorem OKL.drop{m:Mp}(n:Nat):∀{xs:List TV} {ys:List AV},OKL m xs ys->OKL m (xs.drop n) (ys.drop n):=by
 induction n with
 | zero=>intro xs ys h;simpa using h
 | succ n a =>
   intro xs ys h;cases xs with
   | nil=>cases h;exact rfl
   | cons x xs=>obtain⟨y,r,rfl,c,b⟩:=h;simpa using a b
theorem OKL.split{m:Mp}:∀{xs c:List TV} {ys:List AV},OKL m (xs++c) ys->∃ a b,ys=a++b/\OKL m xs a/\OKL m c b
 | [],_,ys,h=>⟨[],ys,rfl,rfl,h⟩
 | _::_,_,_,⟨y,r,rfl,g,f⟩=>by
   obtain⟨a,b,rfl,e,d⟩:=f.split;exact⟨y::a,b,rfl,⟨y,a,rfl,g,e⟩,d⟩
theorem qzw{m:Mp}{v:Value}(h:zt v=true):OK m (qdZ v) (.v v):=by
 unfold qdZ;split
 ·exact rfl
 ·exact rfl
 ·rename_i s;show AV.v (.string s) = .v (.string ⟨s.data.toList.toArray⟩);cases s;simp
 ·exact rfl
 ·rw[h];exact⟨h,rfl⟩
theorem qik{m:Mp}:∀{l:List Value},l.all zt=true->OKL m (l.map qdZ) (l.map .v)
 | [],_=>rfl
 | x::l,h=>by
   rw[kC,wd]at h;exact⟨_,_,rfl,qzw h.1,qik h.2⟩
theorem Qc{m:Mp}(v:Value):OK m (qdZ v) (ofC v):=by
 unfold ofC;cases h:zt v with
 | true=>exact qzw h
 | false =>
   have:qdZ v = .dead:=by
    unfold qdZ;grind [zt]
   rw[this];trivial
theorem qGt{m:Mp}(v:Value):OK m (qDn v) (qsu v):=by
 cases v with
 | agg cs =>
   show OK m (match cs.toList.all zt with | true=>TV.agg (cs.toList.map qdZ) | false => .dead) (match cs.toList.all zt with | true => .agg (cs.toList.map .v) | false => .dead);cases h:cs.toList.all zt with
   | true=>exact⟨_,rfl,qik h⟩
   | false=>trivial
 | tuple vs =>
   show OK m (match vs.toList with | []=>TV.tup [] | _ => .dead) (match vs.toList with | [] => .tup [] | _ => .dead);cases vs.toList with
   | nil=>exact⟨_,rfl,rfl⟩
   | cons a l=>trivial
 | bool b=>exact Qc (.bool b)
 | int k n=>exact Qc (.int k n)
 | float k n=>exact Qc (.float k n)
 | complex k a b=>exact Qc (.complex k a b)
 | string s=>exact Qc (.string s)
 | pointer a=>exact Qc (.pointer a)
 | slice a n c=>exact Qc (.slice a n c)
 | map r=>exact Qc (.map r)
 | chan r=>exact Qc (.chan r)
 | func f a b=>exact Qc (.func f a b)
 | nilFunc=>exact Qc (.nilFunc)
 | iface t v=>exact Qc (.iface t v)
 | nilIface=>exact Qc (.nilIface)
def JU(σ : St)(R:qR)(b:Option Nat)(a:Nat)(d:List (List AV)):Prop:=match b with
 | some r=>∃ Q,σ.rw[r]?=some Q/\Q.c=d/\Q.ver=a/\Q.k=R.τ.size/\zf (yj R.τ) Q.c=some R.l/\Q.fz<=Q.c.length/\(R.sh=false->Q.fz=0/\Q.off=false)
 | none=>R.sh=false->R.l=[]
def jx(m:Mp)(σ : St):Prop:=∀ id R,m.rw[id]?=some R->JU σ R (m.r id) (m.v id) (m.q id)
structure Rel (N:Nat × Nat) (m:Mp) (E:Env) (τ : TS) (tm:List AV) (σ : St):Prop where
 len:tm.length=N.1
 env:∀ t,OK m (get E t) (tm.getD t .dead)
 rw:m.rw = τ.rw
 nb:m.nb = τ.bx.length
 box:∀ b cs,τ.bx[b]?=some cs->∃ ds,σ.bx[m.b b]?=some ds/\OKL m cs ds
 inj:∀ b b',b<m.nb->b'<m.nb->m.b b=m.b b'->b=b'
 rows:jx m σ
 rinj:∀ id id' r,id<m.rw.length->id'<m.rw.length->m.r id=some r->m.r id'=some r->id=id'
 pin:∀ i,i<N.2->i<m.nb/\m.b i=i
theorem quK{m m':Mp}{n:Nat}(c:MLe m m')(h:∀ i,i<n->i<m.nb/\m.b i=i):∀ i,i<n->i<m'.nb/\m'.b i=i := λ i a =>
 ⟨wE (h i a).1 c.nb,(c.b i (h i a).1).trans (h i a).2⟩
theorem Rel.ev{N:Nat × Nat}{m:Mp}{E:Env}{τ : TS}{tm:List AV}{σ : St}(h:Rel N m E τ tm σ)(x:Operand):OK m (evT E x) (aev tm x):=by
 cases x with
 | tmp t=>exact h.env t
 | const v=>exact qGt v
 | func f=>exact⟨_,rfl,rfl⟩
 | global g=>trivial
theorem Rel.evs{N:Nat × Nat}{m:Mp}{E:Env}{τ : TS}{tm:List AV}{σ : St}(h:Rel N m E τ tm σ):∀ l:List Operand,OKL m (l.map (evT E)) (l.map (aev tm))
 | []=>rfl
 | x::l=>⟨_,_,rfl,h.ev x,h.evs l⟩
theorem jm{τ : Ty}{y:AV}{l:List (Val τ)}(h:dlist τ y=some l):y = .v (.slice none 0 0)/\l=[]\/∃ es n,y = .sl τ.size es (n+1)/\zf (yj τ) es=some l:=by
 unfold dlist jA at h;split at h
 ·grind
 ·rename_i k es n;split at h
  ·rename_i a;have:=of_decide_eq_true a;subst this;exact .inr ⟨es,n,rfl,h⟩
  ·cases h
 ·cases h
theorem OK.one{m:Mp}{x:TV}{y:AV}(h:OK m x y)(d:qiv x=true):isC y=true/\jL x=[x]/\cellsOf y=[y]:=by
 cases x with
 | i=>cases h;exact⟨rfl,rfl,rfl⟩
 | b=>cases h;exact⟨rfl,rfl,rfl⟩
 | s=>cases h;exact⟨rfl,rfl,rfl⟩
 | c=>obtain⟨_,rfl⟩:=h;exact⟨rfl,rfl,rfl⟩
 | nil=>cases h;exact⟨rfl,rfl,rfl⟩
 | sl τ l p =>
   obtain⟨h,_⟩:=h;rcases jm h with⟨rfl,_⟩ | ⟨es,n,rfl,_⟩<;>exact⟨rfl,rfl,rfl⟩
 | row id a =>
   obtain⟨R,_,_,h,_⟩:=h;rcases h with rfl | ⟨k,es,j,rfl⟩ | ⟨r,lo,n,e,f,rfl⟩<;>exact⟨rfl,rfl,rfl⟩
 | ptr b o=>obtain⟨_,rfl⟩:=h;exact⟨rfl,rfl,rfl⟩
 | pti b i=>obtain⟨_,_,rfl⟩:=h;exact⟨rfl,rfl,rfl⟩
 | rpt id a g i cs o=>obtain⟨R,_,_,_,h,_⟩:=h;rcases h with⟨r,i,e,rfl⟩ | ⟨ds,rfl⟩<;>exact⟨rfl,rfl,rfl⟩
 | ept cs o=>obtain⟨ds,rfl,_⟩:=h;exact⟨rfl,rfl,rfl⟩
 | fn f cs=>obtain⟨ds,rfl,_⟩:=h;exact⟨rfl,rfl,rfl⟩
 | agg cs=>simp[qiv]at d
 | tup cs=>simp[qiv]at d
 | dead=>simp[qiv]at d
theorem OKL.allC{m:Mp}:∀{xs:List TV} {ys:List AV},OKL m xs ys->xs.all qiv=true->ys.all isC=true
 | [],_,h,_=>by cases h;rfl
 | x::xs,_,⟨y,r,rfl,b,a⟩,h=>by
   rw[kC,wd]at h;rw[kC,(b.one h.1).1,a.allC h.2];rfl
theorem OK.cells{m:Mp}{x:TV}{y:AV}(h:OK m x y)(e:(jL x).all qiv=true):OKL m (jL x) (cellsOf y)/\(cellsOf y).all isC=true:=by
 have d:qiv x=true->OKL m (jL x) (cellsOf y)/\(cellsOf y).all isC=true:=by
  intro g;obtain⟨a,b,c⟩:=h.one g;rw[b,c];exact⟨⟨y,[],rfl,h,rfl⟩,by simp[a]⟩
 cases x with
 | agg cs =>
   obtain⟨ds,rfl,f⟩:=h;exact⟨f,f.allC e⟩
 | tup cs=>simp[jL,qiv]at e
 | dead=>simp[jL,qiv]at e
 | _=>exact d rfl
theorem qHY{x:AV}{l:List T}(h:qnx x=some l):1<=lvl x:=by
 unfold qnx at h;split at h
 ·exact kr _
 ·exact xD (we _)
 ·cases h
theorem qny{τ : Ty}{y:AV}{l:List (Val τ)}(h:dlist τ y=some l):1<=lvl y:=by
 rcases jm h with⟨rfl,_⟩ | ⟨es,n,rfl,_⟩
 ·exact kr _
 ·exact xD (we _)
theorem qpc{m:Mp}:∀(τ : Ty) {cs:List AV} {v:Val τ} {r:List AV},QZ τ cs=some (v,r)->∃ pre,cs=pre++r/\OKL m (Jr τ v) pre
 | .int k,cs,v,r,h=>by
   change qbd k cs=_ at h;unfold qbd at h;split at h<;>try cases h
   split at h<;>cases h;rename_i o;have e:=of_decide_eq_true o;subst e;exact⟨[_],rfl,⟨_,_,rfl,rfl,rfl⟩⟩
 | .bool,cs,v,r,h=>by
   change qif cs=_ at h;unfold qif at h;split at h<;>cases h;exact⟨[_],rfl,⟨_,_,rfl,rfl,rfl⟩⟩
 | .str,cs,v,r,h=>by
   change qgU cs=_ at h;unfold qgU at h;split at h<;>cases h;rename_i s;exact⟨[_],rfl,⟨_,_,rfl,by show AV.v (.string s) = .v (.string ⟨s.data.toList.toArray⟩);cases s;simp,rfl⟩⟩
 | .term,cs,v,r,h=>by
   change qaN cs=_ at h;unfold qaN at h;split at h<;>try cases h
   split at h<;>cases h;rename_i c;obtain⟨k,n,s,x,l,j,d,rfl⟩:=qni c;cases j;refine⟨_,rfl,⟨_,_,rfl,rfl,_,_,rfl,?_,_,_,rfl,rfl,_,_,rfl,⟨?_,qHY d⟩,rfl⟩⟩
   ·show AV.v (.string n) = .v (.string ⟨n.data.toList.toArray⟩);cases n;simp
   ·rw[qkQ];exact d
 | .list a,cs,v,r,h=>by
   change qdI _ cs=_ at h;unfold qdI at h;split at h<;>try cases h
   split at h<;>cases h;rename_i c;have c:dlist a _=some v:=c;exact⟨[_],rfl,⟨_,_,rfl,⟨c,qny c⟩,rfl⟩⟩
 | .pair a b,cs,v,r,h=>by
   obtain⟨u,d,q⟩:=qab.1 h;obtain⟨p,e1,i⟩:=qpc (m:=m) a d;obtain⟨f,t,g⟩:=qpc (m:=m) b q;exact⟨p++f,by rw[e1,t,wi],i.append g⟩
 | .one a,cs,v,r,h=>qpc (m:=m) a h
theorem QJ{m:Mp}{τ : Ty}{e:List AV}{v:Val τ}(h:yj τ e=some v):OKL m (Jr τ v) e:=by
 obtain⟨pre,b,a⟩:=qpc (m:=m) τ (ya.1 h);grind
theorem Qj(τ : Ty)(v:Val τ):yj τ (qi τ v)=some v:=ya.2 (qhB τ v)
theorem qss{m:Mp}:∀(τ : Ty) (v:Val τ),OK m (quv τ v) (yN τ v)
 | .int k,v=>rfl
 | .bool,v=>rfl
 | .str,v=>rfl
 | .list a,v=>by
   have h:OKL m (Jr (.list a) v) (qi (.list a) v):=QJ (Qj (.list a) v);obtain⟨y,r,d,c,_⟩:=h;cases d;exact c
 | .term,v=>⟨_,rfl,QJ (Qj .term v)⟩
 | .pair a b,v=>⟨_,rfl,QJ (Qj (.pair a b) v)⟩
 | .one a,v=>⟨_,rfl,QJ (Qj (.one a) v)⟩
end Go.AmZ
namespace Go.AmZ
open Go Go.RowKit Go.GxZ
def qPO(τ : TS):Option TS->TS
 | none => τ
 | some a=>a
def Sim{α : Type}(N:Nat × Nat)(m:Mp)(E:Env)(τ : TS)(tm:List AV)(σ : St)(K:KT α)(r : α)(p:Option (AV × Option St)):Prop :=
 ∃ x a y σ' m',K x a=some r/\p=some (y,σ')/\MLe m m'/\Rel N m' E (qPO τ a) tm (turn σ σ')/\OK m' x y/\(a=none -> σ'=none)
section
variable {α : Type} {N:Nat × Nat} {m:Mp} {E:Env} {τ : TS} {tm:List AV} {σ : St} {K:KT α} {r : α} {p:Option (AV × Option St)}
theorem Sim.same{x:TV}{y:AV}(a:Rel N m E τ tm σ)(h:K x none=some r)(b:p=some (y,none))(c:OK m x y):Sim N m E τ tm σ K r p :=
 ⟨x,none,y,none,m,h,b,.refl m,a,c,λ _=>rfl⟩
theorem Sim.to{x:TV}{y:AV}{a:TS}{σ':St}{m':Mp}(h:K x (some a)=some r)(b:p=some (y,some σ'))(e:MLe m m')(d:Rel N m' E a tm σ')(c:OK m' x y):Sim N m E τ tm σ K r p :=
 ⟨x,some a,y,some σ',m',h,b,e,d,c,λ h=>by cases h⟩
theorem Rel.box_lt(a:Rel N m E τ tm σ){b:Nat}(h:b<m.nb):m.b b < σ.bx.length:=by
 rw[a.nb]at h;obtain⟨ds,c,_⟩:=a.box b _ (List.getElem?_eq_getElem h);exact getElem?_lt c
theorem Rel.alloc(a:Rel N m E τ tm σ){cs:List TV}{ds:List AV}(p:OKL m cs ds) :
  ∃ m',MLe m m'/\Rel N m' E { τ with bx := τ.bx++[cs] } tm { σ with bx := σ.bx++[ds] }/\OK m' (.ptr τ.bx.length 0) (.ptr σ.bx.length 0):=by
 have c:MLe m { m with b := λ i=>if i=m.nb then σ.bx.length else m.b i,nb:=m.nb+1 } :=
  ⟨kr _,λ i o=>if_neg (va o),λ id R h=>⟨R,h,wb _,wb _,λ _=>⟨rfl,rfl,rfl,rfl,λ _=>rfl,λ _ _ h=>h⟩⟩⟩
 refine⟨_,c,?_,?_⟩
 ·refine⟨a.len,λ t=>(a.env t).mono c,a.rw,by show m.nb+1=_;rw[a.nb];simp,?_,?_,a.rows,a.rinj,quK c a.pin⟩
  ·intro b cs' d;show ∃ e,(σ.bx++[ds])[if b=m.nb then σ.bx.length else m.b b]?=some e/\_;by_cases g:b < τ.bx.length
   ·rw[List.getElem?_append_left g]at d;obtain⟨e,n,q⟩:=a.box b cs' d;rw[if_neg (by rw[a.nb];omega),List.getElem?_append_left (getElem?_lt n)];exact⟨e,n,q.mono c⟩
   ·have j:b<(τ.bx++[cs]).length:=getElem?_lt d;simp at j;have k:b = τ.bx.length:=by omega
    subst k;simp at d;subst d;rw[if_pos a.nb.symm];exact⟨ds,by simp,p.mono c⟩
  ·intro b b' d l f;change b<m.nb+1 at d;change b'<m.nb+1 at l;change (if b=m.nb then σ.bx.length else m.b b)=(if b'=m.nb then σ.bx.length else m.b b')at f;split at f<;>split at f
   ·omega
   ·have:=a.box_lt (b:=b') (by omega);omega
   ·have:=a.box_lt (b:=b) (by omega);omega
   ·exact a.inj b b' (by omega) (by omega) f
 ·refine⟨?_,?_⟩
  ·show τ.bx.length<m.nb+1;rw[a.nb];exact xu _
  ·show AV.ptr σ.bx.length 0 = .ptr (if τ.bx.length=m.nb then σ.bx.length else m.b τ.bx.length) 0;rw[if_pos a.nb.symm]
theorem Rel.setBox(a:Rel N m E τ tm σ){b:Nat}{cs:List TV}{ds:List AV}(g:b<m.nb)(k:OKL m cs ds)(w:List Nat):Rel N m E { τ with bx := τ.bx.set b cs } tm { σ with bx := σ.bx.set (m.b b) ds,wr:=w }:=by
 refine⟨a.len,a.env,a.rw,by rw[a.nb];simp,?_,a.inj,a.rows,a.rinj,a.pin⟩;intro i cs' d;have c:i<m.nb:=by rw[a.nb];have:=getElem?_lt d;simpa using this
 by_cases f:i=b
 ·subst f;have e:i < τ.bx.length:=by rw[<- a.nb];exact c
  simp only[List.getElem?_set_self e,wz]at d;subst d;exact⟨ds,by simp only[List.getElem?_set_self (a.box_lt g)],k⟩
 ·simp only[List.getElem?_set_ne (xK f)]at d;obtain⟨l,p,o⟩:=a.box i cs' d;have j:m.b b≠m.b i := λ h=>f (a.inj _ _ c g h.symm);grind
theorem Rel.rowsTo(a:Rel N m E τ tm σ){σ':St}(c : σ'.bx = σ.bx)(b:jx m σ'):Rel N m E τ tm σ' :=
 ⟨a.len,a.env,a.rw,a.nb,by rw[c];exact a.box,a.inj,b,a.rinj,a.pin⟩
theorem qJ2{r:Nat}{Q:Row}(f:Q.fz<=Q.c.length):∀(e:List Nat) {rw:List Row},rw[r]?=some Q->∃ d,(frz rw e)[r]?=some d/\d.c=Q.c/\d.k=Q.k/\d.ver=Q.ver/\d.fz<=d.c.length:=by
 intro e
 induction e generalizing Q with
 | nil=>intro rw h;exact⟨Q,h,rfl,rfl,rfl,f⟩
 | cons a e n =>
   intro rw h
   have:∃ b,(rw.modify a qmm)[r]?=some b/\b.c=Q.c/\b.k=Q.k/\b.ver=Q.ver/\b.fz<=b.c.length:=by
    rw[List.getElem?_modify,h];by_cases o:a=r
    ·exact⟨qmm Q,by simp[o],rfl,rfl,rfl,Nat.max_le.2 ⟨f,wb _⟩⟩
    ·grind
   obtain⟨b,t,s,g3,q,p⟩:=this;obtain⟨u,m,l,j,i,g⟩:=n (Q:=b) p t;exact⟨u,m,l.trans s,j.trans g3,i.trans q,g⟩
def shM(m:Mp):Mp:={ m with rw:=m.rw.map λ R=>⟨R.τ,R.l,R.ver,R.sv,true⟩ }
theorem qFD{id:Nat}{R:qR}(h:(shM m).rw[id]?=some R):∃ a,m.rw[id]?=some a/\R=⟨a.τ,a.l,a.ver,a.sv,true⟩:=by
 change (m.rw.map _)[id]?=some R at h;grind
theorem qf9(m:Mp):MLe m (shM m):=by
 refine⟨wb _,λ _ _=>rfl,λ id R h=>⟨⟨R.τ,R.l,R.ver,R.sv,true⟩,?_,wb _,wb _,λ _=>⟨rfl,rfl,rfl,rfl,λ _=>rfl,λ _ _ h=>h⟩⟩⟩;show(m.rw.map _)[id]?=_;rw[List.getElem?_map,h];rfl
theorem jx.frz(h:jx m σ)(b w:List Nat):jx (shM m) { σ with rw:=frz σ.rw b,wrr:=w }:=by
 intro id R e;obtain⟨a,i,rfl⟩:=qFD e;have:=h id a i;show match m.r id with | some r=>∃ Q,(Go.AmZ.frz σ.rw b)[r]?=some Q/\Q.c=m.q id/\Q.ver=m.v id/\Q.k=a.τ.size/\zf (yj a.τ) Q.c=some a.l/\Q.fz<=Q.c.length/\(true=false->Q.fz=0/\Q.off=false) | none=>true=false->a.l=[]
 cases d:m.r id with
 | some r =>
   rw[d]at this;obtain⟨Q,g,p,o,n,j,f,_⟩:=this;obtain⟨y,x,u,g3,t,s⟩:=qJ2 f (rw := σ.rw) b g;grind
 | none=>intro h;cases h
theorem jx.sh(h:jx m σ):jx (shM m) σ := by
 intro id R d;obtain⟨a,e,rfl⟩:=qFD d;have:=h id a e;show match m.r id with | some r=>∃ Q,σ.rw[r]?=some Q/\Q.c=m.q id/\Q.ver=m.v id/\Q.k=a.τ.size/\zf (yj a.τ) Q.c=some a.l/\Q.fz<=Q.c.length/\(true=false->Q.fz=0/\Q.off=false) | none=>true=false->a.l=[]
 cases b:m.r id with
 | some r =>
   rw[b]at this;obtain⟨Q,o,n,j,i,g,f,_⟩:=this;grind
 | none=>intro h;cases h
theorem Rel.share(a:Rel N m E τ tm σ){σ':St}(f : σ'.bx = σ.bx)(e:jx (shM m) σ'):Rel N (shM m) E (shA τ) tm σ':=by
 refine⟨a.len,λ t=>(a.env t).mono (qf9 m),by show m.rw.map _ = τ.rw.map _;rw[a.rw],a.nb,?_,a.inj,e,?_,a.pin⟩
 ·intro b cs d;obtain⟨ds,h,g⟩:=a.box b cs d;exact⟨ds,by rw[f];exact h,g.mono (qf9 m)⟩
 ·intro id c r e1 k j i;have l:(shM m).rw.length=m.rw.length:=wB ..;exact a.rinj id c r (l▸e1) (l▸k) j i
theorem qMJ{op:BinOp}{k:IntKind}{a b:Int}{d:TV->Option α}{r : α}(h:qLf op k a b d=some r):∃ x z,d x=some r/\qCJ op k a b=some z/\OK m x (.v z):=by
 cases op<;>simp only[qLf]at h<;>first
  | (cases h;done)
  | exact⟨_,_,h,rfl,rfl⟩
  | skip
 all_goals (
  cases c:ieq b 0 with
  | true=>rw[c]at h;cases h
  | false=>rw[c]at h;exact⟨_,_,h,by simp only[qCJ,c],rfl⟩)
theorem qLQ{a b:List UInt8}(h:qgE a b=true):qHm ⟨a.toArray⟩ ⟨b.toArray⟩=some ⟨(a++b).toArray⟩:=by
 have h:=of_decide_eq_true h;unfold qHm;have e1:(⟨a.toArray⟩:ByteArray).size=a.length:=by simp[ByteArray.size]
 have c:(⟨b.toArray⟩:ByteArray).size=b.length:=by simp[ByteArray.size]
 rw[if_neg (by rw[e1,c];omega)];congr 1
theorem qMA(a b:List UInt8):xeq ⟨a.toArray⟩ ⟨b.toArray⟩=qx a b:=by
 simp[xeq,qx]
theorem qNt(a b:List UInt8):xlt ⟨a.toArray⟩ ⟨b.toArray⟩=slt a b:=by
 simp[xlt,slt]
theorem qNm{op:BinOp}{a b:List UInt8}{d:TV->Option α}{r : α}(h:qMc op a b d=some r):∃ x z,d x=some r/\qCG op ⟨a.toArray⟩ ⟨b.toArray⟩=some z/\OK m x (.v z):=by
 cases op<;>simp only[qMc]at h<;>first
  | (cases h;done)
  | (refine⟨_,_,h,rfl,?_⟩;simp only[qMA,qNt];exact rfl)
  | skip
 cases c:qgE a b with
 | false=>rw[c]at h;cases h
 | true=>rw[c]at h;exact⟨_,_,h,by simp only[qCG,qLQ c],rfl⟩
theorem qCC{place:Nat->Option (Nat × Nat)}:∀{l:List (Nat × TV)} {c:List (Nat × AV)} {cells:List TV} {cells':List AV} {cs:List TV},
  (l.map (·.1)=c.map (·.1)/\OKL m (l.map (·.2)) (c.map (·.2)))->OKL m cells cells'->qA0 place cells l=some cs->∃ ds,qnr place cells' c=some ds/\OKL m cs ds
 | [],c,cells,cells',cs,d,e,h=>by
   have:c=[]:=by cases c with | nil=>rfl | cons a b=>simp at d
   subst this;cases h;exact⟨cells',rfl,e⟩
 | (i,x)::l,c,cells,cells',cs,d,e,h=>by
   cases c with
   | nil=>simp at d
   | cons q c =>
     obtain⟨j,y⟩:=q;simp only[wo,List.cons.injEq]at d;obtain⟨⟨rfl,g⟩,z,A,r,o,f⟩:=d;cases r;simp only[qA0]at h;simp only[qnr];split at h<;>try cases h
     rename_i off size p;split at h<;>try cases h
     rename_i k;simp only[wd,decide_eq_true_eq]at k;obtain⟨⟨u,t⟩,s⟩:=k;obtain⟨n,v⟩:=o.cells s;rw[p];have e1:(cellsOf y).length=size:=by rw[n.len];exact u
     have w:off+size<=cells'.length:=by rw[e.len];exact t
     simp only[e1,w,v,decide_true,xl];exact qCC ⟨g,f⟩ ((e.take off).append (n.append (e.drop (off+size)))) h
theorem qgJ{a:Bool}{size o:Nat}{cs:List TV}{ds:List AV}{x:TV}(b:OKL m cs ds)(h:qmV a size cs o=some x):∃ y,qdQ a size ds o=some y/\OK m x y:=by
 unfold qmV at h;unfold qdQ;cases a with
 | true =>
   simp only at h |-
   split at h<;>cases h;rename_i c;rw[<- b.len]at c;rw[c];exact⟨_,rfl,_,rfl,(b.drop o).take size⟩
 | false=>exact b.get h
theorem qdg(e:Rel N m E τ tm σ){y:Nat}{d:Nat}{a:Option Operand}{n:Int}(h:qgf d E a=some n)(f:d<=y)(b:inb n y=true):qdF d y (a.map (aev tm))=some n.toNat:=by
 have b:=of_decide_eq_true b;cases a with
 | none =>
   grind [qgf,qdF]
 | some x =>
   simp only[qgf]at h;split at h<;>cases h;rename_i k c;have:=e.ev x;rw[c]at this;show qwC y (aev tm x)=_;rw[this];show bnd y n=_;unfold bnd;rw[if_pos b]
theorem qjG{a:Type}{l:List a}{j:Int}{v:a}(h:qb l j=some v):0<=j/\l[j.toNat]?=some v:=by
 grind [qb]
theorem Jf{b a:Type}{x:Option b}{k:b->Option a}{r:a}(h:qa x k=some r):∃ v,x=some v/\k v=some r:=by
 unfold qa at h;grind
theorem jV{b:Bool}{x:Option α}{r : α}(h:cond b x none=some r):b=true/\x=some r:=by
 grind
theorem qw2{b:Bool}{x:Option α}{r : α}(h:cond b none x=some r):b=false/\x=some r:=by
 grind
end
end Go.AmZ
namespace Go.AmZ
open Go Go.RowKit Go.GxZ
def qeO:AV->Bool
 | .agg _=>true
 | _=>false
def QY(τ : Ty)(y:AV):Option (Val τ):=match qh9 τ.agg (qeO y)with
 | true=>yj τ (cellsOf y)
 | false=>none
section
variable {α : Type} {N:Nat × Nat} {m:Mp} {E:Env} {τ : TS} {tm:List AV} {σ : St} {K:KT α} {r : α} {p:Option (AV × Option St)}
theorem jI{a b:Ty}{l:List (Val a)}{c:List (Val b)}(h:qft l b=some c):∃ e:a=b,e▸l=c:=by
 grind [qft]
theorem qzg(Q:Row):qnh Q Q.k 0 Q.c.length Q.ver=some Q.c:=by
 grind [qnh]
theorem qiE(a:jx m σ){id:Nat}{R:qR}{y:AV}(e:m.rw[id]?=some R)(h:qaa (m.r id) (m.v id) R.τ R.l y) :
  (∃ r Q,m.r id=some r/\y = .rs r 0 Q.c.length Q.ver false /\ σ.rw[r]?=some Q/\Q.c=m.q id/\Q.ver=m.v id/\Q.k=R.τ.size/\zf (yj R.τ) Q.c=some R.l/\Q.fz<=Q.c.length/\(R.sh=false->Q.fz=0/\Q.off=false)) \/
  (m.r id=none/\(R.sh=false->R.l=[])/\dlist R.τ y=some R.l/\2<=lvl y):=by
 have a:=a id R e;cases b:m.r id with
 | some r =>
   rw[b]at a h;obtain⟨Q,j,i,g3,g,d,f⟩:=a;refine .inl ⟨r,Q,rfl,?_,j,i,g3,g,d,f⟩;rw[qX d,g3];exact h
 | none =>
   rw[b]at a h;exact .inr ⟨rfl,a,h.1,h.2⟩
theorem qzC{a:Ty}{y:AV}{l:List (Val a)}(b:List Row)(h:dlist a y=some l):∃ es,elems b a.size y=some es/\zf (yj a) es=some l/\dlist a (zk b y)=some l:=by
 rcases jm h with⟨rfl,c⟩ | ⟨es,n,rfl,c⟩
 ·rw[c];exact⟨[],rfl,rfl,rfl⟩
 ·refine⟨es,by simp only[elems,zh,decide_true],c,?_⟩;show dlist _ (.sl _ es 1)=_;grind [dlist,jA,zh]
theorem qom(k:jx m σ){a:Ty}{x:TV}{y:AV}{l:List (Val a)}(h:qnD m.rw a x=some l)(f:OK m x y) :
  ∃ es,elems σ.rw a.size y=some es/\zf (yj a) es=some l/\dlist a (zk σ.rw y)=some l:=by
 unfold qnD at h;split at h
 ·cases h;cases f;exact⟨[],rfl,rfl,rfl⟩
 ·obtain⟨e,rfl⟩:=jI h;subst e;exact qzC _ f.1
 ·rename_i id b;split at h<;>try cases h
  rename_i R g;split at h<;>try cases h
  rename_i d;have d:R.ver=b:=wk d;obtain⟨e,rfl⟩:=jI h;subst e;obtain⟨R',i,_,_,n⟩:=f;rw[g]at i;cases i;rcases qiE k g (n d)with⟨r,Q,_,rfl,j,_,_,p,o,_⟩ | ⟨_,_,q,_⟩
  ·refine⟨Q.c,?_,o,?_⟩
   ·simp only[elems,j];rw[<- p];exact qzg Q
   ·simp only[zk,j,qzg Q,dlist,jA];grind [zh]
  ·exact qzC _ q
 ·cases h
theorem qfe(i:jx m σ):∀(a:Ty) {cs:List TV} {v:Val a} {r:List TV} {ds:List AV},qk1 m.rw a cs=some (v,r)->OKL m cs ds->∃ d,QZ a (ds.map (zk σ.rw))=some (v,d.map (zk σ.rw))/\OKL m r d
 | .int k,cs,v,r,ds,h,c=>by
   change qJW k cs=_ at h;unfold qJW at h;split at h<;>try cases h
   split at h<;>cases h;rename_i A;obtain⟨y,d,rfl,g,f⟩:=c;cases g;exact⟨d,by show qbd _ _=_;simp only[wo,zk,qbd,A],f⟩
 | .bool,cs,v,r,ds,h,c=>by
   change qG5 cs=_ at h;unfold qG5 at h;split at h<;>cases h;obtain⟨y,d,rfl,g,f⟩:=c;cases g;exact⟨d,rfl,f⟩
 | .str,cs,v,r,ds,h,c=>by
   change qK5 cs=_ at h;unfold qK5 at h;split at h<;>cases h;obtain⟨y,d,rfl,g,f⟩:=c;cases g;exact⟨d,by show qgU _=_;simp only[wo,zk,qgU],f⟩
 | .term,cs,v,r,ds,h,c=>by
   change qGX _ cs=_ at h;unfold qGX at h;split at h<;>try cases h
   split at h<;>cases h;rename_i s;obtain⟨y1,w,rfl,q,y2,G,rfl,p,y3,F,rfl,o,y4,t,rfl,n,f⟩:=c;cases q;cases p;cases o;obtain⟨es,_,_,j⟩:=qom i s n;rw[qkQ]at j;refine⟨t,?_,f⟩;show qaN (.v (.int .i64 _) :: .v (.string ⟨_⟩) :: .v (.int .i64 _)::zk σ.rw y4::t.map (zk σ.rw))=_;grind [qaN,Jc]
 | .list a,cs,v,r,ds,h,c=>by
   change qG6 _ cs=_ at h;unfold qG6 at h;split at h<;>try cases h
   split at h<;>cases h;rename_i s;obtain⟨y,d,rfl,g,f⟩:=c;obtain⟨es,_,_,j⟩:=qom i s g;have j:jA a.size (λ e=>full (QZ a e)) (zk σ.rw y)=some v:=j;exact⟨d,by show qdI _ _=_;simp only[wo,qdI,j],f⟩
 | .pair a b,cs,v,r,ds,h,c=>by
   obtain⟨w,C,B⟩:=qab.1 h;obtain⟨u,E,D⟩:=qfe i a C c;obtain⟨l,z,x⟩:=qfe i b B D;exact⟨l,qab.2 ⟨_,E,z⟩,x⟩
 | .one a,cs,v,r,ds,h,c=>qfe i a h c
theorem qib{a:Type}{x:Option (a × List TV)}{v:a}(h:qqf x=some v):x=some (v,[]):=by
 unfold qqf at h;grind
theorem qGV(rw:List Row){y:AV}(h:qeO y=false):qeO (QP rw y)=false/\cellsOf (QP rw y)=[zk rw y]/\cellsOf y=[y]:=by
 cases y with
 | agg cs=>cases h
 | rs r lo n a f =>
   grind [QP,zk,qeO,cellsOf]
 | _=>exact⟨rfl,rfl,rfl⟩
theorem qla(hq:jx m σ){a:Ty}{x:TV}{y:AV}{v:Val a}(h:qgv m.rw a x=some v)(ho:OK m x y) :
  QY a (QP σ.rw y)=some v/\yj a ((cellsOf y).map (zk σ.rw))=some v:=by
 unfold qgv at h;split at h
 case h_2=>cases h
 rename_i hb;have hb:a.agg=qvW x:=by simpa[qh9]using hb
 have h:=qib h
 have key:OKL m (jL x) (cellsOf y)->yj a ((cellsOf y).map (zk σ.rw))=some v:=by
  intro hc;obtain⟨rs,g1,g2⟩:=qfe hq a h hc;cases g2;exact ya.2 g1
 by_cases hx:qvW x=true
 ·cases x with
  | agg cs =>
    obtain⟨ds,rfl,hd⟩:=ho;refine⟨?_,key hd⟩;unfold QY;rw[hb];exact key hd
  | _=>cases hx
 ·have hx:qvW x=false:=by simpa using hx
  have hct:jL x=[x]:=by cases x<;>first | rfl | (cases hx)
  have hy:qeO y=false:=by
   cases x with
   | agg cs=>cases hx
   | i=>cases ho;rfl
   | b=>cases ho;rfl
   | s=>cases ho;rfl
   | c=>obtain⟨_,rfl⟩:=ho;rfl
   | nil=>cases ho;rfl
   | sl τ l lv =>
     obtain⟨ho,_⟩:=ho;rcases jm ho with⟨rfl,_⟩ | ⟨es,n,rfl,_⟩<;>rfl
   | row id ver =>
     obtain⟨R,_,_,ho,_⟩:=ho;rcases ho with rfl | ⟨k,es,j,rfl⟩ | ⟨r,lo,n,ep,f,rfl⟩<;>rfl
   | ptr b o=>obtain⟨_,rfl⟩:=ho;rfl
   | pti b i=>obtain⟨_,_,rfl⟩:=ho;rfl
   | rpt id ver sv i cs o=>obtain⟨R,_,_,_,ho,_⟩:=ho;rcases ho with⟨r,i,ep,rfl⟩ | ⟨ds,rfl⟩<;>rfl
   | ept cs o=>obtain⟨ds,rfl,_⟩:=ho;rfl
   | fn f cs=>obtain⟨ds,rfl,_⟩:=ho;rfl
   | tup cs=>obtain⟨ds,rfl,_⟩:=ho;rfl
   | dead =>
     exfalso;rw[hct]at h;have hag:a.agg=false:=by rw[hb];rfl
     cases a with
     | int k=>cases h
     | bool=>cases h
     | str=>cases h
     | list a=>cases h
     | term=>cases hag
     | pair a b=>cases hag
     | one a=>cases hag
  obtain⟨e1,e2,e3⟩:=qGV σ.rw hy;have hc:OKL m (jL x) (cellsOf y):=by rw[hct,e3];exact⟨y,[],rfl,ho,rfl⟩
  grind [QY]
theorem qBJ{x:TV}{y:AV}(a:OK m x y)(h:qk3 x=true):rsC y=[]/\qeO y=false:=by
 cases x with
 | i=>cases a;exact⟨rfl,rfl⟩
 | b=>cases a;exact⟨rfl,rfl⟩
 | s=>cases a;exact⟨rfl,rfl⟩
 | c=>obtain⟨_,rfl⟩:=a;exact⟨rfl,rfl⟩
 | nil=>cases a;exact⟨rfl,rfl⟩
 | sl τ l d =>
   obtain⟨a,_⟩:=a;rcases jm a with⟨rfl,_⟩ | ⟨es,n,rfl,_⟩<;>exact⟨rfl,rfl⟩
 | fn f cs=>obtain⟨ds,rfl,_⟩:=a;exact⟨rfl,rfl⟩
 | _=>cases h
theorem qjK:∀{xs:List TV} {ys:List AV},OKL m xs ys->xs.all qk3=true->ys.flatMap rsC=[]
 | [],_,h,_=>by cases h;rfl
 | x::xs,_,⟨y,r,rfl,b,a⟩,h=>by
   rw[kC,wd]at h;rw[xc,(qBJ b h.1).1,qjK a h.2];rfl
theorem qM3{y:AV}(b:rsC y=[])(a:qeO y=false):rsA y=[]:=by
 cases y<;>first | (cases a;done) | exact b
theorem qxs{x:TV}{y:AV}(h:qph x=true)(c:OK m x y):rsA y=[]:=by
 cases x with
 | agg cs =>
   obtain⟨ds,rfl,d⟩:=c;exact qjK d h
 | _=>obtain⟨a,b⟩:=qBJ c h;exact qM3 a b
theorem qtz:∀{xs:List TV} {ys:List AV},xs.all qph=true->OKL m xs ys->ys.flatMap rsA=[]
 | [],_,_,h=>by cases h;rfl
 | x::xs,_,h,⟨y,r,rfl,b,a⟩=>by
   rw[kC,wd]at h;rw[xc,qxs h.1 b,qtz h.2 a];rfl
theorem qCo(c:jx m σ){a:Ty}:∀{xs:List TV} {ys:List AV} {vs:List (Val a)},qsv m.rw a xs=some vs->OKL m xs ys ->
  zf (yj a) (ys.map λ y=>(cellsOf y).map (zk σ.rw))=some vs
 | [],ys,vs,h,e=>by cases e;cases h;rfl
 | x::xs,ys,vs,h,⟨y,r,f,i,g⟩=>by
   subst f;simp only[qsv]at h;split at h<;>try cases h
   rename_i v d;split at h<;>cases h;rename_i vs b;exact jb.2 ⟨v,vs,(qla c d i).2,qCo c b g,rfl⟩
end
end Go.AmZ
namespace Go.AmZ
open Go Go.RowKit Go.GxZ
def Mp.add(m:Mp)(R:qR)(ro:Option Nat)(vo:Nat)(qo:List (List AV)):Mp :=
 ⟨m.b,m.nb,λ i=>if i=m.rw.length then ro else m.r i,λ i=>if i=m.rw.length then vo else m.v i,λ i=>if i=m.rw.length then qo else m.q i,m.rw++[R]⟩
def Mp.upd(m:Mp)(id:Nat)(R:qR)(ro:Option Nat)(vo:Nat)(qo:List (List AV)):Mp :=
 ⟨m.b,m.nb,λ i=>if i=id then ro else m.r i,λ i=>if i=id then vo else m.v i,λ i=>if i=id then qo else m.q i,m.rw.set id R⟩
section
variable {α : Type} {N:Nat × Nat} {m:Mp} {E:Env} {τ : TS} {tm:List AV} {σ : St} {K:KT α} {r : α} {p:Option (AV × Option St)} {c:TC} {C:Cfg} {R R2:qR} {ro:Option Nat} {vo:Nat} {qo:List (List AV)} {id:Nat}
theorem qsp(m:Mp)(R:qR)(ro:Option Nat)(vo:Nat)(qo:List (List AV)):MLe m (m.add R ro vo qo):=by
 refine⟨wb _,λ i _=>rfl,λ id R' h=>?_⟩;have b:=getElem?_lt h;have a:¬ id=m.rw.length:=va b;exact⟨R',by show(m.rw++_)[id]?=_;rw[List.getElem?_append_left b];exact h,wb _,wb _,λ _=>⟨rfl,if_neg a,if_neg a,rfl,λ _=>if_neg a,λ _ _ h=>h⟩⟩
theorem JU.later{σ':St}(h:JU σ R ro vo qo)(a:∀ r Q,ro=some r -> σ.rw[r]?=some Q -> σ'.rw[r]?=some Q):JU σ' R ro vo qo:=by
 cases ro with
 | none=>exact h
 | some r =>
   obtain⟨Q,c,b⟩:=h;exact⟨Q,a r Q rfl c,b⟩
theorem qpb{σ':St}(d:jx m σ)(f:JU σ' R ro vo qo)(e:∀(r:Nat) (Q:Row),σ.rw[r]?=some Q -> σ'.rw[r]?=some Q):jx (m.add R ro vo qo) σ':=by
 intro id R' a;change (m.rw++[R])[id]?=some R' at a;show JU σ' R' (if id=m.rw.length then ro else m.r id) (if id=m.rw.length then vo else m.v id) (if id=m.rw.length then qo else m.q id);by_cases c:id=m.rw.length
 ·grind
 ·rw[if_neg c,if_neg c,if_neg c];have b:id<m.rw.length:=by have:=getElem?_lt a;simp at this;omega
  rw[List.getElem?_append_left b]at a;exact(d id R' a).later λ r Q _ h=>e r Q h
theorem qH0(k:m.rw[id]?=some R)(n:R.ver<=R2.ver)(o:R.sv<=R2.sv)(p:R2.ver=R.ver->R2.l.length=R.l.length/\ro=m.r id/\vo=m.v id/\R2.τ = R.τ /\ (R2.sv=R.sv->qo=m.q id)/\(m.r id=none->∀ y,dlist R.τ y=some R.l->dlist R2.τ y=some R2.l)):MLe m (m.upd id R2 ro vo qo):=by
 have j:=getElem?_lt k;refine⟨wb _,λ i _=>rfl,λ i R' h=>?_⟩;by_cases g:i=id
 ·subst g;rw[k]at h;cases h;refine⟨R2,by show(m.rw.set i R2)[i]?=_;rw[List.getElem?_set_self j],n,o,λ h=>?_⟩;obtain⟨a,b,c,d,e,f⟩:=p h;exact⟨a,(if_pos rfl).trans b,(if_pos rfl).trans c,d,λ h=>(if_pos rfl).trans (e h),f⟩
 ·exact⟨R',by show(m.rw.set id R2)[i]?=_;rw[List.getElem?_set_ne (xK g)];exact h,wb _,wb _,λ _=>⟨rfl,if_neg g,if_neg g,rfl,λ _=>if_neg g,λ _ _ h=>h⟩⟩
theorem qCR{σ':St}(j:m.rw[id]?=some R)(d:jx m σ)(k:JU σ' R2 ro vo qo)(e:∀ a r Q,a≠id->a<m.rw.length->m.r a=some r -> σ.rw[r]?=some Q -> σ'.rw[r]?=some Q):jx (m.upd id R2 ro vo qo) σ':=by
 have f:=getElem?_lt j;intro i R' c;change (m.rw.set id R2)[i]?=some R' at c;show JU σ' R' (if i=id then ro else m.r i) (if i=id then vo else m.v i) (if i=id then qo else m.q i);by_cases b:i=id
 ·grind
 ·rw[if_neg b,if_neg b,if_neg b];rw[List.getElem?_set_ne (xK b)]at c;exact(d i R' c).later λ r Q h g=>e i r Q b (getElem?_lt c) h g
theorem Rel.to{m':Mp}{d:List qR}{σ':St}(c:Rel N m E τ tm σ)(a:MLe m m')(n:m'.rw=d)(h:m'.nb=m.nb)(g:m'.b=m.b)(l : σ'.bx = σ.bx)(j:jx m' σ')
  (k:∀ i e r,i<m'.rw.length->e<m'.rw.length->m'.r i=some r->m'.r e=some r->i=e):Rel N m' E { τ with rw:=d } tm σ':=by
 refine⟨c.len,λ t=>(c.env t).mono a,n,by rw[h];exact c.nb,?_,by rw[h,g];exact c.inj,j,k,quK a c.pin⟩;intro b cs f;obtain⟨ds,p,o⟩:=c.box b cs f;exact⟨ds,by rw[l,g];exact p,o.mono a⟩
theorem Rel.row_lt(a:Rel N m E τ tm σ){id r:Nat}(h:id<m.rw.length)(b:m.r id=some r):r < σ.rw.length:=by
 have:=a.rows id _ (List.getElem?_eq_getElem h);rw[b]at this;obtain⟨Q,c,_⟩:=this;exact getElem?_lt c
theorem Rel.rowAdd{σ':St}(b:Rel N m E τ tm σ)(R:qR)(ro:Option Nat)(vo:Nat)(qo:List (List AV))(j : σ'.bx = σ.bx)(h:JU σ' R ro vo qo)(i:∀(r:Nat) (Q:Row),σ.rw[r]?=some Q -> σ'.rw[r]?=some Q)(e:∀ r,ro=some r -> σ.rw.length<=r){y:AV}(d:qaa ro vo R.τ R.l y)(k:R.ver=0) :
  ∃ m',MLe m m'/\Rel N m' E { τ with rw := τ.rw++[R] } tm σ'/\OK m' (.row τ.rw.length 0) y:=by
 refine⟨m.add R ro vo qo,qsp _ _ _ _ _,b.to (qsp _ _ _ _ _) (by show m.rw++_=_;rw[b.rw]) rfl rfl j (qpb b.rows h i) ?_,?_⟩
 ·intro id a r g f e1 c;change id<(m.rw++[_]).length at g;change a<(m.rw++[_]).length at f;change (if id=m.rw.length then ro else m.r id)=some r at e1;change (if a=m.rw.length then ro else m.r a)=some r at c;simp at g f;split at e1<;>split at c
  ·omega
  ·have:=b.row_lt (by omega) c;have:=e r e1;omega
  ·have:=b.row_lt (by omega) e1;have:=e r c;omega
  ·exact b.rinj id a r (by omega) (by omega) e1 c
 ·refine⟨R,?_,we _,d.ish,λ _=>?_⟩
  ·show(m.rw++_)[τ.rw.length]?=_;rw[b.rw];simp
  ·show qaa (if τ.rw.length=m.rw.length then ro else m.r τ.rw.length) (if τ.rw.length=m.rw.length then vo else m.v τ.rw.length) _ _ y;rw[if_pos (by rw[b.rw]),if_pos (by rw[b.rw])];exact d
theorem Rel.rowNew(b:Rel N m E τ tm σ){a:Ty}{es:List (List AV)}{l:List (Val a)}(c:zf (yj a) es=some l) :
  ∃ m',MLe m m'/\Rel N m' E { τ with rw := τ.rw++[⟨a,l,0,0,false⟩] } tm { σ with rw := σ.rw++[⟨a.size,es,0,0,false⟩] }/\OK m' (.row τ.rw.length 0) (.rs σ.rw.length 0 l.length 0 false) :=
 b.rowAdd (σ':={ σ with rw := σ.rw++[⟨a.size,es,0,0,false⟩] }) ⟨a,l,0,0,false⟩ (some σ.rw.length) 0 es rfl ⟨⟨a.size,es,0,0,false⟩,by show(σ.rw++[_])[σ.rw.length]?=_;simp,rfl,rfl,rfl,c,we _,λ _=>⟨rfl,rfl⟩⟩
  (λ r Q h=>by show(σ.rw++_)[r]?=_;rw[List.getElem?_append_left (getElem?_lt h)];exact h) (λ r h=>by cases h;exact wb _) rfl rfl
theorem Rel.rowUpd(c:Rel N m E τ tm σ)(B : τ.rw[id]?=some R)(ro:Option Nat)(vo:Nat)(qo:List (List AV))(n:R.ver<=R2.ver)(o:R.sv<=R2.sv)(t:R2.ver=R.ver->R2.l.length=R.l.length/\ro=m.r id/\vo=m.v id/\R2.τ = R.τ /\ (R2.sv=R.sv->qo=m.q id)/\(m.r id=none->∀ y,dlist R.τ y=some R.l->dlist R2.τ y=some R2.l)){σ':St}(u : σ'.bx = σ.bx)(p:JU σ' R2 ro vo qo)
  (s:∀ a r,a≠id->a<m.rw.length->m.r a=some r->ro≠some r/\∀ Q,σ.rw[r]?=some Q -> σ'.rw[r]?=some Q) :
  ∃ m',MLe m m'/\Rel N m' E { τ with rw := τ.rw.set id R2 } tm σ'/\(∀ y,qaa ro vo R2.τ R2.l y->OK m' (.row id R2.ver) y):=by
 have b:m.rw[id]?=some R:=by rw[c.rw];exact B
 have f:=getElem?_lt b;have d:MLe m (m.upd id R2 ro vo qo):=qH0 b n o t;refine⟨m.upd id R2 ro vo qo,d,c.to d (by show m.rw.set id R2=_;rw[c.rw]) rfl rfl u (qCR b c.rows p λ a r Q A z x w=>(s a r A z x).2 Q w) ?_,λ y k=>?_⟩
 ·intro i e r h g e1 j;change i<(m.rw.set id R2).length at h;change e<(m.rw.set id R2).length at g;change (if i=id then ro else m.r i)=some r at e1;change (if e=id then ro else m.r e)=some r at j;simp at h g;split at e1<;>split at j
  ·omega
  ·grind
  ·grind
  ·exact c.rinj i e r h g e1 j
 ·refine⟨R2,?_,wb _,k.ish,λ _=>?_⟩
  ·show(m.rw.set id R2)[id]?=_;rw[List.getElem?_set_self f]
  ·show qaa (if id=id then ro else m.r id) (if id=id then vo else m.v id) _ _ y;grind
theorem Rel.others(c:Rel N m E τ tm σ)(h : τ.rw[id]?=some R){rr:Nat}(b:m.r id=some rr){a r:Nat}(g:a≠id)(f:a<m.rw.length)(e:m.r a=some r):r≠rr := λ d =>
 g (c.rinj a id rr f (by rw[c.rw];exact getElem?_lt h) (d▸e) b)
theorem qyY{a:Type}{f:List AV->Option a}:∀{es:List (List AV)} {l:List a},zf f es=some l->∀(j:Nat) {e:List AV} {v:a},f e=some v->zf f (es.set j e)=some (l.set j v)
 | [],l,h,j,e,v,b=>by cases h;rfl
 | g::es,l,h,j,e,v,b=>by
   obtain⟨w,vs,d,c,rfl⟩:=jb.1 h;cases j with
   | zero=>exact jb.2 ⟨v,vs,b,c,rfl⟩
   | succ j=>exact jb.2 ⟨w,vs.set j v,d,qyY c j b,rfl⟩
theorem qzi{a:Type}{f:List AV->Option a}{e:List AV}{v:a}(h:f e=some v):∀ n:Nat,zf f (List.replicate n e)=some (List.replicate n v)
 | 0=>rfl
 | n+1=>jb.2 ⟨v,_,h,qzi h n,rfl⟩
end
end Go.AmZ
namespace Go.AmZ
open Go Go.RowKit Go.GxZ
section
variable {α : Type} {N:Nat × Nat} {m:Mp} {E:Env} {τ : TS} {tm:List AV} {σ : St} {K:KT α} {r : α} {p:Option (AV × Option St)} {c:TC} {C:Cfg}
theorem qMy{d:Option TD}{op:BinOp}{x y:TV}{x' f:AV}{n:TV->Option α}(i:OK m x x')(g:OK m y f)(h:qLO d op x y n=some r) :
  ∃ z v,n z=some r/\OK m z (.v v)/\((∃ a b,x' = .v (.bool a)/\f = .v (.bool b)/\qva d=true/\((op = .eql/\v = .bool (qh9 a b))\/(op = .neq/\v = .bool (qd (qh9 a b)))))\/∃ a b,x' = .v a/\f = .v b/\(∀ p q,¬ (a = .bool p/\b = .bool q))/\qrv op a b=some v):=by
 unfold qLO at h;split at h
 ·rename_i k a u b;cases i;cases g;split at h
  ·obtain⟨e,c⟩:=qw2 h;exact⟨_,_,c,rfl,.inr ⟨_,_,rfl,rfl,by simp,by simp only[qrv,e]⟩⟩
  ·obtain⟨e,c⟩:=qw2 h;exact⟨_,_,c,rfl,.inr ⟨_,_,rfl,rfl,by simp,by simp only[qrv,e]⟩⟩
  ·rename_i s o;split at h<;>try cases h
   rename_i t;obtain⟨z,v,e,c,l⟩:=qMJ (m:=m) h;refine⟨z,v,e,l,.inr ⟨_,_,rfl,rfl,by simp,?_⟩⟩;unfold qrv;cases op<;>first | (exact absurd rfl s) | (exact absurd rfl o) | (simp only[t];exact c)
 ·cases i;cases g;obtain⟨z,v,e,c,l⟩:=qNm (m:=m) h;exact⟨z,v,e,l,.inr ⟨_,_,rfl,rfl,by simp,c⟩⟩
 ·cases i;cases g;split at h<;>try cases h
  ·rename_i j;exact⟨_,_,h,rfl,.inl ⟨_,_,rfl,rfl,j,.inl ⟨rfl,rfl⟩⟩⟩
  ·rename_i j;exact⟨_,_,h,rfl,.inl ⟨_,_,rfl,rfl,j,.inr ⟨rfl,rfl⟩⟩⟩
 ·cases h
theorem qtk{d:Option TD}(h:qBk d=true):∃ a b c z,d=some ⟨a,b,c,z,.ptr⟩:=by
 unfold qBk at h;split at h
 ·exact⟨_,_,_,_,rfl⟩
 ·cases h
theorem qHM{x y:TV}{x' d:AV}(c:OK m x x')(a:OK m y d){b:Bool}(h:qGA x y=some b) :
  (b=true/\x' = .v (.pointer none)/\d = .v (.pointer none))\/(b=false/\qri x'=true/\d = .v (.pointer none)):=by
 unfold qGA at h;split at h<;>cases h
 ·exact .inl ⟨rfl,c.2,a.2⟩
 ·obtain⟨_,rfl⟩:=c;exact .inr ⟨rfl,rfl,a.2⟩
 ·obtain⟨R,_,_,_,e,_⟩:=c;rcases e with⟨r,j,f,rfl⟩ | ⟨ds,rfl⟩<;>exact .inr ⟨rfl,rfl,a.2⟩
 ·obtain⟨ds,rfl,_⟩:=c;exact .inr ⟨rfl,rfl,a.2⟩
theorem qB9:∀(es:List (List AV)) (l:List Int),zf (yj (.int .u8)) es=some l->qsC es=some (qC l)
 | [],l,h=>by cases h;rfl
 | e::es,l,h=>by
   simp only[zf]at h;split at h<;>try cases h
   rename_i v a;split at h<;>cases h;rename_i vs b;have:=qB9 es vs b
   have d:e=[.v (.int .u8 v)]:=by
    have a:qbd .u8 e=some (v,[]):=ya.1 a;unfold qbd at a;split at a<;>try cases a
    split at a<;>cases a;rename_i c;have c:=of_decide_eq_true c;subst c;rfl
   subst d;simp only[qsC,qGI,this];rfl
theorem qEt{d:Option TD}(h:qva d=true):∃ a b c z,d=some ⟨a,b,c,z,.bool⟩:=by
 unfold qva at h;split at h
 ·exact⟨_,_,_,_,rfl⟩
 ·cases h
theorem qCm(E:Env)(tm:List AV)(a:Rel N m E τ tm σ):∀ l:List (Nat × Operand),(l.map λ p=>(p.1,evT E p.2)).map (·.1)=(l.map λ p=>(p.1,aev tm p.2)).map (·.1)/\OKL m ((l.map λ p=>(p.1,evT E p.2)).map (·.2)) ((l.map λ p=>(p.1,aev tm p.2)).map (·.2))
 | []=>⟨rfl,rfl⟩
 | x::l=>⟨by simp,⟨_,_,rfl,a.ev x.2,(qCm E tm a l).2⟩⟩
theorem qCA(g:Rel N m E τ tm σ){id a h:Nat}{i:Int}{cs:List TV}{o:Nat}{y:AV}{R:qR}(D:OK m (.rpt id a h i cs o) y)(p : τ.rw[id]?=some R)(H:R.ver=a)(G:R.sv=h) :
  (∃ r j ds Q,y = .rpt r j o Q.ver/\m.r id=some r/\i=((j:Nat):Int) /\ σ.rw[r]?=some Q/\Q.c[j]?=some ds/\OKL m cs ds/\j<R.l.length/\Q.ver=m.v id/\Q.k=R.τ.size/\zf (yj R.τ) Q.c=some R.l/\Q.fz<=Q.c.length/\(R.sh=false->Q.fz=0/\Q.off=false)) \/
  ∃ ds,y = .ept ds o/\OKL m cs ds/\R.sh=true:=by
 obtain⟨R',q,_,_,_,I⟩:=D;rw[g.rw,p]at q;cases q;have:=g.rows id R (by rw[g.rw];exact p);rcases qE5 (I H) G with⟨r,j,ds,d,f,B,b,e,A⟩ | ⟨ds,d,f,b,e⟩
 ·rw[d]at this;obtain⟨Q,z,x,n,w,u,t,s⟩:=this;exact .inl ⟨r,j,ds,Q,by rw[n];exact f,d,B,z,by rw[x];exact e,A,b,n,w,u,t,s⟩
 ·rw[d]at this;refine .inr ⟨ds,f,e,?_⟩;cases C:R.sh with
  | true=>rfl
  | false =>
    have F:=this C;rw[F]at b;exact absurd b (xR 0)
theorem qFo{b:Type}(f:b->AV):∀(l:List (Nat × b)) (n:Nat),((l.zipIdx n).all λ p=>decide (p.1.1=p.2))=true->(∀ q∈l,True)->∀ P:AV->Bool,(∀ q∈l,P (f q.2)=true) ->
  (((l.map λ p=>(p.1,f p.2)).zipIdx n).all λ p=>decide (p.1.1=p.2)&&P p.1.2)=true
 | [],n,_,_,P,_=>rfl
 | a::l,n,h,_,P,c=>by
   simp only[vB,kC,wd,wo]at h |-
   exact⟨⟨h.1,c a (wh ..)⟩,qFo f l (n+1) h.2 (λ _ _=>trivial) P λ q d=>c q (wg _ d)⟩
theorem qto(f:jx m σ){a:Ty}{E:Env}{tm:List AV}(e:Rel N m E τ tm σ):∀{l:List (Nat × Operand)} {vs:List (Val a)},qsv m.rw a (l.map λ p=>evT E p.2)=some vs ->
  ∀ p∈l,(cellsOf (aev tm p.2)).length=a.size/\((cellsOf (aev tm p.2)).all λ x=>qy (zk σ.rw x))=true
 | [],vs,h,p,b=>by cases b
 | q::l,vs,h,p,b=>by
   simp only[wo,qsv]at h;split at h<;>try cases h
   rename_i v i;split at h<;>cases h;rename_i c;rcases wy.1 b with rfl | b
   ·have:=(qla f i (e.ev p.2)).2;obtain⟨pre,d,k,j,_⟩:=yQ a (ya.1 this);rw[wA]at d;refine⟨by rw[<- k,<- d,wB],?_⟩;rw[wu];intro x g;exact j _ (by rw[<- d];exact kO g)
   ·exact qto f e c p b
theorem qKq(y:List UInt8)(l h:Int):(⟨(QO y l h).toArray⟩:ByteArray)=qDq ⟨y.toArray⟩ l.toNat h.toNat:=by
 unfold QO qDq;rw[ByteArray.ext_iff];simp[ByteArray.data_extract,List.drop_take]
theorem qEw{x:TV}{y:AV}(h:OK m x y)(c:(jL x).all qk3=true):OKL m (jL x) (cellsOf y)/\(cellsOf y).all isC=true/\∀ z∈cellsOf y,rsC z=[]:=by
 have b:(jL x).all qiv=true:=by
  rw[wu]at c |-
  intro z a;have:=c z a;cases z<;>first | rfl | (cases this)
 obtain⟨d,e⟩:=h.cells b;refine⟨d,e,λ z a=>?_⟩;have:=qjK d c;rw[kI]at this;exact this z a
theorem qrM{y:AV}(h:rsC y=[])(a:qy (zk σ.rw y)=true):qy y=true:=by
 cases y<;>first | rfl | exact a | (simp[rsC]at h)
theorem qM9{tm:List AV}{a b:Operand}(h:qK8 a b=true):aev tm a=aev tm b:=by
 unfold qK8 at h;split at h
 ·rw[wk h]
 ·simp only[wd,decide_eq_true_eq]at h;rw[h.1,h.2]
 ·cases h
def LvE(x y:AV):Prop:=x=y\/∃ k es n a,x = .sl k es (n+1)/\y = .sl k es (a+1)
inductive LvL:List AV->List AV->Prop
 | nil:LvL [] []
 | cons {x y:AV} {xs ys:List AV}:LvE x y->LvL xs ys->LvL (x::xs) (y::ys)
theorem LvE.v{x:Value}{y:AV}(h:LvE (.v x) y):y = .v x:=by
 rcases h with rfl | ⟨_,_,_,_,h,_⟩
 ·rfl
 ·cases h
theorem LvE.dlist{a:Ty}{x y:AV}(h:LvE x y){l:List (Val a)}(b:dlist a x=some l):dlist a y=some l:=by
 rcases h with rfl | ⟨_,_,_,_,rfl,rfl⟩
 ·exact b
 ·exact b
theorem qnK:∀(a:Ty) {cs cs':List AV} {v:Val a} {r:List AV},LvL cs cs'->QZ a cs=some (v,r)->∃ j,LvL r j/\QZ a cs'=some (v,j)
 | .int k,cs,cs',v,r,c,h=>by
   change qbd k cs=_ at h;unfold qbd at h;split at h<;>try cases h
   split at h<;>cases h;rename_i o;cases c with
   | cons d f =>
     have:=d.v;subst this;exact⟨_,f,by show qbd _ _=_;simp only[qbd,o]⟩
 | .bool,cs,cs',v,r,c,h=>by
   change qif cs=_ at h;unfold qif at h;split at h<;>cases h;cases c with
   | cons d f =>
     have:=d.v;subst this;exact⟨_,f,rfl⟩
 | .str,cs,cs',v,r,c,h=>by
   change qgU cs=_ at h;unfold qgU at h;split at h<;>cases h;cases c with
   | cons d f =>
     have:=d.v;subst this;exact⟨_,f,rfl⟩
 | .term,cs,cs',v,r,c,h=>by
   change qaN cs=_ at h;unfold qaN at h;split at h<;>try cases h
   split at h<;>cases h;rename_i g;obtain⟨k,n,s,x,l,p,d,rfl⟩:=qni g;cases p;cases c with
   | cons A c=>cases c with
     | cons z c=>cases c with
       | cons y c=>cases c with
         | cons w c =>
           have:=A.v;subst this;have:=z.v;subst this;have:=y.v;subst this;rw[<- qkQ]at d;have d:=w.dlist d;rw[qkQ]at d;exact⟨_,c,by show qaN _=_;simp only[qaN,Jc,d]⟩
 | .list a,cs,cs',v,r,c,h=>by
   change qdI _ cs=_ at h;unfold qdI at h;split at h<;>try cases h
   split at h<;>cases h;rename_i g;cases c with
   | cons d f =>
     have g:dlist a _=some v:=g;have g:jA a.size (λ e=>full (QZ a e)) _=some v:=d.dlist g;exact⟨_,f,by show qdI _ _=_;simp only[qdI,g]⟩
 | .pair a b,cs,cs',v,r,c,h=>by
   obtain⟨B,d,f⟩:=qab.1 h;obtain⟨m,u,t⟩:=qnK a c d;obtain⟨i,g3,q⟩:=qnK b u f;exact⟨i,g3,qab.2 ⟨_,t,q⟩⟩
 | .one a,cs,cs',v,r,c,h=>qnK a c h
theorem qH9:∀{cs:List AV},(∀ y∈cs,qy y=true)->LvL (cs.map (zk σ.rw)) cs
 | [],_ => .nil
 | y::cs,h=>by
   refine .cons ?_ (qH9 λ z a=>h z (wg _ a));have:=h y (wh ..);cases y with
   | v x=>exact .inl rfl
   | sl k es f =>
     cases f with
     | zero=>exact .inl rfl
     | succ f=>exact .inr ⟨k,es,0,f,rfl,rfl⟩
   | _=>cases this
theorem quh{a:Ty}{cs:List AV}{v:Val a}(b:∀ y∈cs,qy y=true)(h:yj a (cs.map (zk σ.rw))=some v):yj a cs=some v:=by
 obtain⟨e,d,c⟩:=qnK a (qH9 b) (ya.1 h);cases d;exact ya.2 c
theorem qur{m:Mp}:∀{cs:List TV} {l:List Bool} {ds:List AV},qrV cs=some l->OKL m cs ds->ds=l.map λ b=>AV.v (.bool b)
 | [],l,ds,h,c=>by cases h;cases c;rfl
 | x::cs,l,ds,h,⟨y,r,f,e,d⟩=>by
   subst f;cases x<;>simp only[qrV]at h<;>try (cases h;done)
   rename_i b;split at h<;>cases h;rename_i g a;cases e;rw[qur a d];rfl
theorem qy3{m:Mp}:∀(l:List Bool),OKL m (l.map .b) (l.map λ b=>AV.v (.bool b))
 | []=>rfl
 | b::l=>⟨_,_,rfl,rfl,qy3 l⟩
theorem qDH:∀(l:List Bool) (i:Nat) (v:Bool) (j:Nat),qpe l ((i+j:Nat):Int) v j=l.set i v
 | [],_,_,_=>rfl
 | e::l,0,v,j=>by
   have h:∀(l:List Bool) (i j:Nat),i<j->qpe l ((i:Nat):Int) v j=l:=by
    intro l
    induction l with
    | nil=>intro _ _ _;rfl
    | cons e l a =>
      intro i j b;rw[qpe,a i (j+1) (by omega)];have:ieq ((i:Nat):Int) ((j:Nat):Int)=false:=by unfold ieq;rw[beq_eq_false_iff_ne];omega
      rw[this];rfl
   rw[qpe,h l (0+j) (j+1) (by omega)];have:ieq ((0+j:Nat):Int) ((j:Nat):Int)=true:=by unfold ieq;rw[beq_iff_eq];omega
   rw[this];rfl
 | e::l,i+1,v,j=>by
   rw[qpe,show((i+1+j:Nat):Int)=((i+(j+1):Nat):Int) by omega,qDH l i v (j+1)];have:ieq ((i+(j+1):Nat):Int) ((j:Nat):Int)=false:=by unfold ieq;rw[beq_eq_false_iff_ne];omega
   rw[this];rfl
theorem qzb(s:List UInt8):zf (yj (.int .u8)) (qb3 ⟨s.toArray⟩)=some (Qx s):=by
 have:qb3 ⟨s.toArray⟩=(Qx s).map (qi (.int .u8)):=by
  unfold qb3 Qx;rw[xi];rfl
 rw[this];exact qcb (Qj (.int .u8)) (Qx s)
theorem qLA{op:Op}(D:C.ty=c.ty)(A:Rel N m E τ tm σ)(h:Q4 c E τ op K=some r):Sim N m E τ tm σ K r (qc C tm σ op):=by
 cases op with
 | move x=>exact .same A h rfl (A.ev x)
 | assign x=>exact .same A h rfl (A.ev x)
 | pick x a b =>
   simp only[Q4]at h;split at h<;>try cases h
   rename_i y H;have O:=A.ev x;rw[H]at O;cases y with
   | true=>exact .same A h (by simp only[qc,show aev tm x=_ from O]) (A.ev a)
   | false=>exact .same A h (by simp only[qc,show aev tm x=_ from O]) (A.ev b)
 | alloc e =>
   simp only[Q4]at h;split at h<;>try cases h
   rename_i d F;split at h<;>try cases h
   rename_i hz;obtain⟨m',J,P,V⟩:=A.alloc (qik (m:=m) hz);exact .to h (by simp only[qc,D,F,hz]) J P V
 | box e x =>
   simp only[Q4]at h;split at h<;>try cases h
   rename_i d F;split at h<;>try cases h
   rename_i hz;obtain⟨I,M⟩:=(A.ev x).cells hz;obtain⟨m',J,P,V⟩:=A.alloc I;exact .to h (by simp only[qc,D,F,M]) J P V
 | build t parts =>
   simp only[Q4]at h;split at h<;>try cases h
   rename_i _ _ _ z fs F;split at h<;>try cases h
   rename_i hz;split at h<;>try cases h
   rename_i cs U;obtain⟨ds,J,P⟩:=qCC (qCm E tm A parts.toList) (qik (m:=m) hz) U;exact .same A h (by simp only[qc,D,F,hz];erw [J]) ⟨ds,rfl,P⟩
 | buildSlice t n parts =>
   simp only[Q4]at h;split at h<;>try cases h
   rename_i _ _ _ _ _ k _ _ a F G;split at h<;>try cases h
   rename_i hb;simp only[wd,decide_eq_true_eq]at hb;obtain⟨⟨⟨⟨hk,hn⟩,bb⟩,bd⟩,hz⟩:=hb;split at h<;>try cases h
   rename_i vs ax;rw[<- A.rw]at ax;have hq:=A.rows;have au:=qto hq A ax;have ai:=qCo hq ax (by have:=A.evs (parts.toList.map (·.2));simpa[xi,vz]using this)
   have a9:qi0 k n σ.rw (parts.toList.map λ p=>(p.1,aev tm p.2))=true:=by
    unfold qi0;have J:(parts.toList.map λ p=>(p.1,aev tm p.2)).length=n:=by simpa using hn
    simp only[J,decide_true,bb,bd,ka,vl]
    have:=qFo (aev tm) parts.toList 0 hz (λ _ _=>trivial) (λ x=>decide ((cellsOf x).length=k)&&((cellsOf x).all λ y=>qy (zk σ.rw y)))
     λ q a8=>by obtain⟨a1,a2⟩:=au q a8;rw[a1,a2,hk];simp
    rw[wu]at this |-
    intro p hp;have:=this p hp;simpa[Bool.and_assoc]using this
   have aD:∀ m':Mp,OK m' (.sl a vs 2) (.sl k (parts.toList.map λ p=>(cellsOf (aev tm p.2)).map (zk σ.rw)) 2):=by
    intro m';refine⟨?_,wb _⟩;subst hk;show jA _ _ (.sl _ _ 2)=_;simp only[jA,zh,decide_true];simpa[xi,vz]using ai
   have ap:qc C tm σ (.buildSlice t n parts)=match parts.toList.flatMap λ p=>rsA (aev tm p.2)with
     | []=>some (.sl k (parts.toList.map λ p=>(cellsOf (aev tm p.2)).map (zk σ.rw)) 2,none)
     | r::l=>some (.sl k (parts.toList.map λ p=>(cellsOf (aev tm p.2)).map (zk σ.rw)) 2,some { σ with rw:=frz σ.rw (r::l),wrr:=(r::l) ++ σ.wrr }):=by
    simp only[qc,D,F,a9];rfl
   rw[ap];split at h
   ·rename_i aE
    have aQ:parts.toList.flatMap (λ p=>rsA (aev tm p.2))=[]:=by
     have:=qtz (xs:=parts.toList.map λ p=>evT E p.2) (ys:=parts.toList.map λ p=>aev tm p.2) (by rw[waf];exact aE) (by have:=A.evs (parts.toList.map (·.2));simpa[xi,vz]using this)
     rwa [vh]at this
    rw[aQ];exact .same A h rfl (aD m)
   ·split
    ·exact⟨_,some (shA τ),_,none,shM m,h,rfl,qf9 m,A.share rfl hq.sh,aD _,λ h=>by cases h⟩
    ·exact .to h rfl (qf9 m) (A.share (σ':={ σ with rw:=frz σ.rw _,wrr:=_ }) rfl (hq.frz _ _)) (aD _)
 | load t a =>
   simp only[Q4]at h;split at h<;>try cases h
   rename_i d F;have B:=A.ev a;split at h<;>try cases h
   ·rename_i b o G;rw[G]at B;obtain⟨_,B⟩:=B;split at h<;>try cases h
    rename_i cs U;split at h<;>try cases h
    rename_i x O;obtain⟨ds,I,M⟩:=A.box b cs U;obtain⟨y,g3,g4⟩:=qgJ M O;exact .same A h (by simp only[qc,D,F,B,JL,I,g3]) g4
   ·rename_i cs o G;rw[G]at B;obtain⟨ds,B,M⟩:=B;split at h<;>try cases h
    rename_i x O;obtain⟨y,g3,g4⟩:=qgJ M O;exact .same A h (by simp only[qc,D,F,B,JL,g3]) g4
   ·rename_i b i G;rw[G]at B;obtain⟨_,i0,B⟩:=B;split at h<;>try cases h
    rename_i cs U;split at h<;>try cases h
    rename_i l bg hl;obtain⟨v,L,h⟩:=Jf h;obtain⟨_,L⟩:=qjG L;obtain⟨ds,I,M⟩:=A.box b cs U;have g3:ds[i.toNat]?=some (.v (.bool v)):=by rw[qur hl M,List.getElem?_map,L];rfl
    exact .same A h (y := .v (.bool v)) (by simp only[qc,D,F,B,JL,I,bg,qdQ,g3]) rfl
   ·rename_i id T sv i cs o G;rw[G]at B;split at h<;>try cases h
    rename_i R W;split at h<;>try cases h
    rename_i an;split at h
    rotate_left
    ·split at h<;>try cases h
     rename_i a5;obtain⟨v,L,h⟩:=Jf h;split at h<;>try cases h
     rename_i x O;obtain⟨j0,L⟩:=qjG L;obtain⟨R',I,_,_,_,M⟩:=B;rw[A.rw,W]at I;cases I;have hg:=A.rows id R (by rw[A.rw];exact W);rcases M (wk an)with⟨r',j,S,z2,z0,Y,_⟩ | ⟨S,Y,_⟩
     ·rw[S]at hg;obtain⟨Q,q1,q2,q3,q4,q5,q6,q7⟩:=hg;rw[z0,wF]at L;obtain⟨e,e1,e2⟩:=qhc q5 L;obtain⟨y,g3,g4⟩:=qgJ (QJ e2) O;have kl:qsB Q j (m.v id)=some e:=by unfold qsB;rw[if_pos q3];exact e1
      exact .same A h (by simp only[qc,D,F,z2,JL,q1,kl,g3]) g4
     ·rw[S]at hg;have:=hg a5;rw[this]at Y;exact absurd Y (xR _)
    rename_i a4;split at h<;>try cases h
    rename_i x O;rcases qCA A B W (wk an) (wk a4)with⟨r',j,ds,Q,k1,_,_,k2,k3,k4,_⟩ | ⟨ds,k1,k4,_⟩
    ·obtain⟨y,g3,g4⟩:=qgJ k4 O;have kl:qsB Q j Q.ver=some ds:=by unfold qsB;rw[if_pos rfl];exact k3
     exact .same A h (by simp only[qc,D,F,k1,JL,k2,kl,g3]) g4
    ·obtain⟨y,g3,g4⟩:=qgJ k4 O;exact .same A h (by simp only[qc,D,F,k1,JL,g3]) g4
 | store t a x =>
   simp only[Q4]at h;split at h<;>try cases h
   rotate_left
   ·rename_i d b i F G;have B:=A.ev a;rw[G]at B;obtain⟨hb,i0,B⟩:=B;split at h<;>try cases h
    rename_i cs v U O;split at h<;>try cases h
    rename_i l hl ao;obtain⟨aV,h⟩:=jV h;have aV:=of_decide_eq_true aV;have ao:=wk ao;obtain⟨ds,I,M⟩:=A.box b cs U;have ab:=A.ev x;rw[O]at ab;have ab:aev tm x = .v (.bool v):=ab;have aW:=qur hl M;have aF:i.toNat<l.length:=by omega
    have ac:ds.length=l.length:=by rw[aW,wB]
    have aM:qpe l i v 0=l.set i.toNat v:=by
     have:=qDH l i.toNat v 0
     rwa [show((i.toNat+0:Nat):Int)=i by omega]at this
    have aj:ds.take i.toNat++(cellsOf (aev tm x)++ds.drop (i.toNat+d.size))=(qpe l i v 0).map λ b=>AV.v (.bool b):=by
     rw[ab,ao,aM,List.map_set,<- aW,xJ,if_pos (by omega)];rfl
    have e1:(cellsOf (aev tm x)).length=d.size:=by rw[ab,ao];rfl
    have e2:i.toNat+d.size<=ds.length:=by omega
    have k2:(cellsOf (aev tm x)).all isC=true:=by rw[ab];rfl
    exact .to h (by simp only[qc,D,F,B,I,e1,e2,k2,decide_true,xl];rfl) (.refl m) (A.setBox hb (ds:=ds.take i.toNat++(cellsOf (aev tm x)++ds.drop (i.toNat+d.size))) (by rw[aj];exact qy3 _) _) ⟨_,rfl,rfl⟩
   ·rename_i d id T sv i cs o F G;have B:=A.ev a;rw[G]at B;split at h<;>try cases h
    rename_i R W;split at h<;>try cases h
    rename_i hc;simp only[wd,decide_eq_true_eq,wV]at hc;obtain⟨⟨⟨⟨⟨Z,c2⟩,c3⟩,c4⟩,c5⟩,c6⟩:=hc;split at h<;>try cases h
    rename_i v L;rcases qCA A B W (wk Z) (wk c2)with⟨r',j,ds,Q,k1,al,ki,k2,k3,k4,kj,kv,kk,kd,kf,ks⟩ | ⟨ds,k1,k4,ks⟩
    rotate_left
    ·rw[c3]at ks;cases ks
    obtain⟨S,z2,Y⟩:=qEw (A.ev x) c6;have aa:=qib L;have aj:OKL m (cs.take o++(jL (evT E x)++cs.drop (o+d.size))) (ds.take o++(cellsOf (aev tm x)++ds.drop (o+d.size))):=(k4.take o).append (S.append (k4.drop _));rw[<- A.rw]at aa;obtain⟨rs,p1,p2⟩:=qfe A.rows R.τ aa aj;cases p2
    have aO:∀ y∈ds,qy y=true:=by
     obtain⟨w,_,hw⟩:=J8 kd k3;obtain⟨pre,J,_,V,_⟩:=yQ R.τ (ya.1 hw);rw[wA]at J;rw[J];exact V
    have ac:ds.length=R.τ.size:=by
     obtain⟨w,_,hw⟩:=J8 kd k3;obtain⟨pre,J,P,_⟩:=yQ R.τ (ya.1 hw);rw[wA]at J;rw[J];exact P
    have aK:∀ y∈cellsOf (aev tm x),qy y=true:=by
     obtain⟨pre,J,_,V,_⟩:=yQ R.τ p1;rw[vw,wA]at J;intro y H;have:=V (zk σ.rw y) (by rw[<- J];exact kO (wx.2 (.inr (wx.2 (.inl H)))));exact qrM (Y y H) this
    have ai:yj R.τ (ds.take o++(cellsOf (aev tm x)++ds.drop (o+d.size)))=some v:=by
     have:yj R.τ ((ds.take o++(cellsOf (aev tm x)++ds.drop (o+d.size))).map (zk σ.rw))=some v:=ya.2 p1
     exact quh (λ y H=>by
      rcases wx.1 H with H | H
      ·exact aO y (wY H)
      ·rcases wx.1 H with H | H
       ·exact aK y H
       ·exact aO y (wX H)) this
    have aL:=qyY kd j ai;have aB:r' < σ.rw.length:=getElem?_lt k2;have bf:(cellsOf (aev tm x)).length=d.size:=by rw[S.len];exact c4
    have ba:o+d.size<=ds.length:=by rw[k4.len];exact c5
    have a6:qsx Q j o Q.ver d.size (cellsOf (aev tm x))=some { Q with c:=Q.c.set j (ds.take o++(cellsOf (aev tm x)++ds.drop (o+d.size))) }:=by
     unfold qsx
     have e1:(decide (Q.ver=Q.ver/\Q.fz<=j/\o+d.size<=Q.k/\(cellsOf (aev tm x)).length=d.size/\Q.off=false)&&(cellsOf (aev tm x)).all qy)=true:=by
      rw[wd,decide_eq_true_eq,wu];exact⟨⟨rfl,by rw[(ks c3).1];exact we _,by rw[kk,<- ac];exact ba,bf,(ks c3).2⟩,aK⟩
     rw[e1,k3]
    have ag:yq R.l i v=R.l.set j v:=by
     unfold yq;rw[if_pos (by rw[ki];exact Int.natCast_nonneg j),ki];rfl
    obtain⟨m',I,M,_⟩:=A.rowUpd (R2:=⟨R.τ,yq R.l i v,R.ver,R.sv+1,R.sh⟩) W (m.r id) (m.v id) (Q.c.set j (ds.take o++(cellsOf (aev tm x)++ds.drop (o+d.size)))) (wb _) (kr _)
     (λ _=>⟨by show(yq R.l i v).length=_;rw[ag,wJ],rfl,rfl,rfl,(λ h=>by have:R.sv+1=R.sv:=h;omega),(λ h=>by rw[al]at h;cases h)⟩) (σ':={ σ with rw := σ.rw.set r' { Q with c:=Q.c.set j (ds.take o++(cellsOf (aev tm x)++ds.drop (o+d.size))) },wrr:=r' :: σ.wrr }) rfl
     (by
      rw[al];refine⟨{ Q with c:=Q.c.set j (ds.take o++(cellsOf (aev tm x)++ds.drop (o+d.size))) },by show(σ.rw.set r' _)[r']?=_;rw[List.getElem?_set_self aB],rfl,kv,kk,?_,?_,ks⟩
      ·show zf (yj R.τ) (Q.c.set j _)=some (yq R.l i v);rw[ag];exact aL
      ·show Q.fz<=(Q.c.set j _).length;rw[wJ];exact kf)
     (λ aJ ak J P V=>by
      have ae:=A.others W al J P V;refine⟨λ G=>by rw[al]at G;exact ae (kX G).symm,λ Q' aI=>?_⟩;show(σ.rw.set r' _)[ak]?=_;rw[List.getElem?_set_ne (xK ae)];exact aI)
    exact .to h (by simp only[qc,D,F,k1,k2,a6];rfl) I M ⟨_,rfl,rfl⟩
   rename_i d b o F G;have B:=A.ev a;rw[G]at B;obtain⟨hb,B⟩:=B;split at h<;>try cases h
   rename_i cs U;split at h<;>try cases h
   rename_i hc;simp only[wd,decide_eq_true_eq]at hc;obtain⟨⟨J,P⟩,V⟩:=hc;obtain⟨ds,I,M⟩:=A.box b cs U;obtain⟨k1,k2⟩:=(A.ev x).cells V;have e1:(cellsOf (aev tm x)).length=d.size:=by rw[k1.len];exact J
   have e2:o+d.size<=ds.length:=by rw[M.len];exact P
   exact .to h (by simp only[qc,D,F,B,I,e1,e2,k2,decide_true,xl];rfl) (.refl m) (A.setBox hb ((M.take o).append (k1.append (M.drop (o+d.size)))) _) ⟨_,rfl,rfl⟩
 | makeSlice t n mm =>
   simp only[Q4]at h;split at h<;>try cases h
   rename_i _ _ _ _ _ k bytes z a' ik a F G hn;split at h<;>try cases h
   rename_i hc;simp only[wd,decide_eq_true_eq]at hc;obtain⟨⟨⟨⟨Z,c2⟩,c3⟩,c4⟩,c5⟩:=hc;split at h<;>try cases h
   rename_i v L;obtain⟨hm,h⟩:=jV h;obtain⟨m1,m2,m3⟩:=of_decide_eq_true hm;have ad:=A.ev n;rw[hn]at ad;have ad:aev tm n = .v (.int ik a):=ad;have bc:aev tm mm = .v (.int ik a):=by rw[<- qM9 Z];exact ad
   have a7:jx mp0 σ := λ id R h=>by cases h
   have aa:=qib L;obtain⟨rs,p1,p2⟩:=qfe (m:=mp0) a7 a' aa (qik c5);cases p2;have a0:(z.map AV.v).map (zk σ.rw)=z.map AV.v:=by rw[xi];exact k8 λ _ _=>rfl
   rw[a0]at p1;have be:yj a' (z.map AV.v)=some v:=ya.2 p1;have aN:(z.map AV.v).all qy=true:=by rw[waf,wu];intro _ _;rfl
   have aH:decide (0<=a/\a.toNat*bytes<=2 ^ 47/\a.toNat<2 ^ 62/\0<k/\z.length=k)=true:=decide_eq_true ⟨m1,m2,m3,c3,c4⟩
   have ap:qc C tm σ (.makeSlice t n mm)=match zh a.toNat 0 with
     | true=>some (.sl k [] 2,none)
     | false=>some (.rs σ.rw.length 0 a.toNat 0 false,some { σ with rw := σ.rw++[⟨k,List.replicate a.toNat (z.map .v),0,0,false⟩] }):=by
    simp only[qc,D,F,ad,bc,true_and,aH,c5,aN,xl];cases zh a.toNat 0<;>rfl
   have aC:=qzi be a.toNat;by_cases B:a.toNat=0
   ·obtain⟨m',I,M,g3⟩:=A.rowAdd (σ' := σ) ⟨a',List.replicate a.toNat v,0,0,false⟩ none 0 [] rfl (λ _=>by show List.replicate a.toNat v=[];rw[B];rfl) (λ r Q h=>h) (λ r h=>by cases h) (y := .sl k [] 2) ⟨by show jA a'.size (yj a') (.sl k [] 2)=some (List.replicate a.toNat v);rw[B,c2];simp only[jA,zh,decide_true];rfl,wb _⟩ rfl;refine⟨_,some _,.sl k [] 2,none,m',h,?_,I,M,g3,λ h=>by cases h⟩;have:zh a.toNat 0=true:=by simp[zh,B]
    rw[ap,this]
   ·obtain⟨m',I,M,g3⟩:=A.rowNew aC;rw[kH]at g3;refine .to h (y := .rs σ.rw.length 0 a.toNat 0 false) ?_ I M g3;have:zh a.toNat 0=false:=by simp[zh,B]
    rw[ap,this,c2]
 | nilCheck x =>
   simp only[Q4]at h;have B:=A.ev x;split at h<;>try cases h
   ·rename_i b o G;rw[G]at B;exact .same A h (by simp only[qc,B.2]) ⟨B.1,rfl⟩
   ·rename_i cs o G;rw[G]at B;obtain⟨ds,B,g⟩:=B;exact .same A h (by simp only[qc,B]) ⟨ds,rfl,g⟩
   ·rename_i id T sv i cs o G;rw[G]at B;have aZ:=B;obtain⟨R,_,_,_,H,_⟩:=B;rcases H with⟨r',j,ep,H⟩ | ⟨ds,H⟩
    ·exact .same A h (y := .rpt r' j o ep) (by simp only[qc,H]) (by rw[<- H];exact aZ)
    ·exact .same A h (y := .ept ds o) (by simp only[qc,H]) (by rw[<- H];exact aZ)
 | binOp op t x y u =>
   simp only[Q4]at h;split at h
   ·rename_i b hb
    obtain⟨e1,F⟩:((op = .eql/\K (.b b) none=some r)\/(op = .neq/\K (.b (!b)) none=some r))/\∃ p1 p2 p3 p4,c.ty t=some ⟨p1,p2,p3,p4,.ptr⟩:=by
     split at h<;>try (cases h;done)
     ·rename_i hp;exact⟨.inl ⟨rfl,h⟩,qtk hp⟩
     ·rename_i hp;exact⟨.inr ⟨rfl,h⟩,qtk hp⟩
    obtain⟨p1,p2,p3,p4,F⟩:=F;rcases qHM (A.ev x) (A.ev y) hb with⟨rfl,q1,q2⟩ | ⟨rfl,q1,q2⟩
    ·rcases e1 with⟨rfl,e1⟩ | ⟨rfl,e1⟩<;>exact .same A e1 (by simp only[qc,q1,q2,D,F,Bool.not_true]) rfl
    ·rcases e1 with⟨rfl,e1⟩ | ⟨rfl,e1⟩
     ·refine .same A e1 (y := .v (.bool false)) ?_ rfl;cases O:aev tm x<;>rw[O]at q1<;>first | (cases q1;done) | (simp only[qc,O,q2,D,F,qri,qBQ,xl])
     ·refine .same A e1 (y := .v (.bool true)) ?_ rfl;cases O:aev tm x<;>rw[O]at q1<;>first | (cases q1;done) | (simp only[qc,O,q2,D,F,qri,qBQ,xl])
   obtain⟨z,v,J,P,V⟩:=qMy (A.ev x) (A.ev y) h;refine .same A J ?_ P;rcases V with⟨a,b,e1,e2,e3,h4⟩ | ⟨a,b,e1,e2,e3,h4⟩
   ·obtain⟨p1,p2,p3,p4,F⟩:=qEt e3;rcases h4 with⟨rfl,rfl⟩ | ⟨rfl,rfl⟩<;>simp only[qc,e1,e2,D,F]
   ·simp only[qc,e1,e2];split
    ·rename_i p q hp hq;cases hp;cases hq;exact absurd ⟨rfl,rfl⟩ (e3 p q)
    ·rename_i hp hq;cases hp;cases hq;simp[qrv]at h4
    ·rename_i hp hq;cases hp;cases hq;rw[h4]
    ·rename_i n1 n2 n3;exact absurd rfl (n3 _ _ rfl)
 | unOp op t x =>
   simp only[Q4]at h;have B:=A.ev x;split at h<;>try cases h
   ·rename_i k n G;rw[G]at B;exact .same A h (by simp only[qc,show aev tm x=_ from B,unA]) rfl
   ·rename_i b G;rw[G]at B;exact .same A h (by simp only[qc,show aev tm x=_ from B,unA]) rfl
 | convert s d x =>
   simp only[Q4]at h;have B:=A.ev x;split at h<;>try cases h
   ·rename_i J P V;rw[V]at B;exact .same A h (by simp only[qc,D,J,P,show aev tm x=_ from B]) rfl
   ·rename_i J P V;rw[V]at B;exact .same A h (by simp only[qc,D,J,P,show aev tm x=_ from B]) rfl
   ·rename_i e _ _ _ y J P V;rw[V]at B;split at h<;>try cases h
    rename_i hu;have B:aev tm x = .v (.string ⟨y.toArray⟩):=B;obtain⟨m',I,M,g3⟩:=A.rowNew (qzb y);rw[show(Qx y).length=y.toArray.size by simp[Qx]]at g3;exact .to h (y := .rs σ.rw.length 0 y.toArray.size 0 false) (by simp only[qc,D,J,P,B,hu];rfl) I M g3
   ·rename_i e _ _ _ _ _ _ _ _ _ _ J P hn;split at h<;>try cases h
    rename_i l hu hl;rw[<- A.rw]at hl;obtain⟨es,I,M,g3⟩:=qom A.rows hl B;have I:elems σ.rw 1 (aev tm x)=some es:=I;refine .same A h (y := .v (.string ⟨(qC l).toArray⟩)) ?_ rfl;have hs:=qB9 es l M
    cases O:aev tm x<;>rw[O]at I<;>first
     | (simp[elems]at I;done)
     | (simp only[qc,D,J,P,O,hu,I,hs];done)
     | skip
    rename_i v
    cases v<;>first
     | (simp[elems]at I;done)
     | (simp only[qc,D,J,P,O,hu,I,hs])
 | makeFunc f fs cs =>
   cases f with
   | func f =>
     simp only[Q4]at h;split at h<;>try cases h
     rename_i hf;exact .same A h (by simp only[qc,hf]) ⟨_,rfl,A.evs _⟩
   | _=>simp only[Q4]at h;cases h
 | slice t x lo hi mx =>
   cases mx with
   | some q=>simp only[Q4]at h;cases h
   | none =>
   simp only[Q4]at h;have B:=A.ev x;split at h<;>try cases h
   ·rename_i y F G;rw[G]at B;split at h<;>try cases h
    rename_i hh ah;split at h<;>try cases h
    rename_i l X;obtain⟨Z,h⟩:=jV h;obtain⟨c2,h⟩:=jV h;have a3:qpp ⟨y.toArray⟩=y.length:=by simp[qpp,ByteArray.size]
    have b1:=qdg A (d:=y.length) ah (wb _) Z;have b2:=qdg A (d:=0) X (we _) c2;refine .same A h (y := .v (.string (qDq ⟨y.toArray⟩ l.toNat hh.toNat))) ?_ ?_
    ·simp only[qc,D,F,show aev tm x=_ from B,a3,b1,b2]
    ·show AV.v _=AV.v _;rw[<- qKq]
   ·rename_i a y lv F G;rw[G]at B;split at h<;>try cases h
    rename_i hk;rw[wd]at hk;have aU:=of_decide_eq_true hk.1;split at h<;>try cases h
    rename_i hh ah;split at h<;>try cases h
    rename_i l X;obtain⟨Z,h⟩:=jV h;obtain⟨c2,h⟩:=jV h;have b1:=qdg A (d:=y.length) ah (wb _) Z;have b2:=qdg A (d:=0) X (we _) c2;obtain⟨ac,_⟩:=B;rcases jm ac with⟨J,rfl⟩ | ⟨es,n,J,P⟩
    ·refine .same A h (y := .v (.slice none 0 0)) ?_ ?_
     ·simp only[w7]at b1;simp only[qc,D,F,J,b1,b2]
     ·refine⟨?_,by decide⟩;show some []=some (QO [] l hh);simp[QO]
    ·have az:qaP es=y.length:=qX P;refine .same A h (y := .sl a.size (qHr es l.toNat hh.toNat) (lvS (n+1) (zh hh.toNat y.length))) ?_ ?_
     ·simp only[qc,D,F,J,aU,zh,decide_true,az,b1,b2,show pos (n+1)=true from by simp[pos],xl]
     ·have af:∃ q,lvS (n+1) (zh hh.toNat y.length)=q+1:=by unfold lvS;split<;>exact⟨_,rfl⟩
      obtain⟨q,hq⟩:=af;rw[hq];refine⟨?_,xD (we _)⟩;show jA _ _ (.sl _ _ (q+1))=_;simp only[jA,aU,zh,decide_true];exact qfs _ (qhp _ P)
   ·rename_i F G;rw[G]at B;split at h<;>try cases h
    rename_i hh ah;split at h<;>try cases h
    rename_i l X;obtain⟨Z,h⟩:=jV h;obtain⟨c2,h⟩:=jV h;have b1:=qdg A (d:=0) ah (wb _) Z;have b2:=qdg A (d:=0) X (we _) c2;exact .same A h (y := .v (.slice none 0 0)) (by simp only[qc,D,F,show aev tm x=_ from B,b1,b2]) rfl
   ·rename_i _ _ _ _ _ k _ _ id T F G;rw[G]at B;split at h<;>try cases h
    rename_i R W;split at h<;>try cases h
    rename_i ay;rw[wd]at ay;have L:R.ver=T:=wk ay.1;have hk:=of_decide_eq_true ay.2;split at h<;>try cases h
    rename_i l X;obtain⟨Z,h⟩:=jV h;obtain⟨R',I,M,g3,g4⟩:=B;rw[A.rw,W]at I;cases I;have bh:m.rw[id]?=some R:=by rw[A.rw];exact W
    have gy:=g4 L;subst L;rcases qiE A.rows bh gy with⟨rr,Q,aq,H,k1,k2,kv,k3,k4,kf,ks⟩ | ⟨aq,hq,H,af⟩
    ·have av:=qX k4;have aB:rr < σ.rw.length:=getElem?_lt k1;have b2:=qdg A (d:=0) X (we _) Z
     have ar:l.toNat<=R.l.length:=by
      unfold inb at Z;have:=of_decide_eq_true Z;omega
     have aX:qA1 Q k 0 Q.c.length Q.ver l.toNat=some { Q with c:=Q.c.drop l.toNat,ver:=Q.ver+1,fz:=Q.fz-l.toNat,off:=true }:=by
      unfold qA1;rw[if_pos ⟨k3.trans hk,rfl,rfl,rfl,by rw[av];exact ar,kf⟩]
     obtain⟨m',S,z2,Y⟩:=A.rowUpd (R2:=⟨R.τ,R.l.drop l.toNat,R.ver+1,R.sv,true⟩) W (some rr) (Q.ver+1) (Q.c.drop l.toNat) (kr _) (wb _) (λ h=>by have:R.ver+1=R.ver:=h;omega)
      (σ':={ σ with rw := σ.rw.set rr { Q with c:=Q.c.drop l.toNat,ver:=Q.ver+1,fz:=Q.fz-l.toNat,off:=true },wrr:=rr :: σ.wrr }) rfl
      ⟨{ Q with c:=Q.c.drop l.toNat,ver:=Q.ver+1,fz:=Q.fz-l.toNat,off:=true },by show(σ.rw.set rr _)[rr]?=_;rw[List.getElem?_set_self aB],rfl,rfl,k3,qfs _ k4,by show Q.fz-l.toNat<=(Q.c.drop l.toNat).length;rw[wQ];omega,λ h=>by cases h⟩ λ aJ ak ae aF aw=>by
       have aP:=A.others W aq ae aF aw;exact⟨λ aG=>aP (kX aG).symm,λ Q' aI=>by show(σ.rw.set rr _)[ak]?=_;rw[List.getElem?_set_ne (xK aP)];exact aI⟩
     refine .to h (y := .rs rr 0 (Q.c.length-l.toNat) (Q.ver+1) false) ?_ S z2 (Y _ ?_)
     ·simp only[qc,D,F,H,xx,show ∀ n,qdF n n none=some n from λ _=>rfl,k1,av,b2,zh,decide_true];rw[av]at aX;rw[aX]
     ·show _=AV.rs rr 0 (R.l.drop l.toNat).length (Q.ver+1) false;rw[wQ,av]
    ·have b2:=qdg A (d:=0) X (we _) Z
     have ar:l.toNat<=R.l.length:=by
      unfold inb at Z;have:=of_decide_eq_true Z;omega
     obtain⟨m',S,z2,Y⟩:=A.rowUpd (R2:=⟨R.τ,R.l.drop l.toNat,R.ver+1,R.sv,true⟩) W none 0 [] (kr _) (wb _) (λ h=>by have:R.ver+1=R.ver:=h;omega) (σ' := σ) rfl
      (λ hs=>by cases hs) λ aJ ak ae aF aw=>⟨λ aG=>(by cases aG),λ _ h=>h⟩
     rcases jm H with⟨am,aT⟩ | ⟨es,n,am,aY⟩<;>rw[am]at H af
     ·have aS:l.toNat=0:=by rw[aT]at ar;simpa using ar
      refine⟨_,some _,.v (.slice none 0 0),none,m',h,?_,S,z2,Y _ ⟨?_,af⟩,λ h=>by cases h⟩
      ·rw[aT]at b2;simp only[w7]at b2;simp only[qc,D,F,am,xx,show ∀ n,qdF n n none=some n from λ _=>rfl,b2]
      ·show dlist R.τ _=some (R.l.drop l.toNat);rw[aS,wO];exact H
     ·have az:qaP es=R.l.length:=qX aY;have bj:1<=n:=by have:2<=n+1:=af;omega
      refine⟨_,some _,.sl R.τ.size (qHr es l.toNat R.l.length) (lvS (n+1) (zh R.l.length R.l.length)),none,m',h,?_,S,z2,Y _ ⟨?_,?_⟩,λ h=>by cases h⟩
      ·simp only[qc,D,F,am,hk,zh,decide_true,xx,show ∀ n,qdF n n none=some n from λ _=>rfl,az,b2,show pos (n+1)=true from by simp[pos],xl]
      ·have aR:lvS (n+1) (zh R.l.length R.l.length)=2:=by
         unfold lvS;rw[show(decide (1<n+1)&&zh R.l.length R.l.length)=true by simp[zh];omega]
       rw[aR];show jA _ _ (.sl _ _ 2)=_;simp only[jA,zh,decide_true];have:=qfs l.toNat (qhp R.l.length aY);rw[wC]at this;exact this
      ·show 2<=lvS _ _;unfold lvS;rw[show(decide (1<n+1)&&zh R.l.length R.l.length)=true by simp[zh];omega];exact wb _
 | fieldAddr t x i =>
   simp only[Q4]at h;split at h<;>try cases h
   rename_i F;split at h<;>try cases h
   rename_i off size g hf;split at h<;>try cases h
   have B:=A.ev x;split at h<;>try cases h
   ·rename_i b o G;rw[G]at B;exact .same A h (by simp only[qc,D,F,hf,B.2]) ⟨B.1,rfl⟩
   ·rename_i cs o G;rw[G]at B;obtain⟨ds,B,hg⟩:=B;exact .same A h (by simp only[qc,D,F,hf,B]) ⟨ds,rfl,hg⟩
   ·rename_i id T sv j cs o G;rw[G]at B;obtain⟨R,k1,k2,k3,H,k4⟩:=B;rcases H with⟨r',q,ep,H⟩ | ⟨ds,H⟩
    ·refine .same A h (y := .rpt r' q (o+off) ep) (by simp only[qc,D,F,hf,H]) ⟨R,k1,k2,k3,.inl ⟨_,_,_,rfl⟩,λ e1=>?_⟩;rcases k4 e1 with⟨r2,i2,S,z2,z0,Y,z4⟩ | ⟨S,Y,z4⟩
     ·rw[H]at z2;cases z2;exact .inl ⟨_,_,S,rfl,z0,Y,z4⟩
     ·exact .inr ⟨S,Y,λ hs=>by obtain⟨ds,z,_⟩:=z4 hs;rw[H]at z;cases z⟩
    ·refine .same A h (y := .ept ds (o+off)) (by simp only[qc,D,F,hf,H]) ⟨R,k1,k2,k3,.inr ⟨_,rfl⟩,λ e1=>?_⟩;rcases k4 e1 with⟨r2,i2,S,z2,_⟩ | ⟨S,Y,z4⟩
     ·rw[H]at z2;cases z2
     ·exact .inr ⟨S,Y,λ hs=>by obtain⟨ds',z,zz⟩:=z4 hs;rw[H]at z;cases z;exact⟨ds,rfl,zz⟩⟩
 | field t x i =>
   simp only[Q4]at h;have B:=A.ev x;split at h<;>try cases h
   rename_i cs F G;split at h<;>try cases h
   rename_i off size g hf;split at h<;>try cases h
   rename_i y H;rw[G]at B;obtain⟨ds,B,hg⟩:=B;obtain⟨z,I,M⟩:=qgJ hg H;exact .same A h (by simp only[qc,D,F,B,hf,I]) M
 | indexAddr t x i =>
   simp only[Q4]at h;have B:=A.ev x;have hi:=A.ev i;split at h<;>try cases h
   ·rename_i _ _ _ _ _ k _ _ ik j F hj;rw[hj]at hi;have hi:aev tm i = .v (.int ik j):=hi;split at h<;>try cases h
    ·rename_i a l lv G;rw[G]at B;split at h<;>try cases h
     rename_i hk;have hk:=of_decide_eq_true hk;obtain⟨v,L,h⟩:=Jf h;obtain⟨j0,L⟩:=qjG L;obtain⟨ac,_⟩:=B;rcases jm ac with⟨J,rfl⟩ | ⟨es,n,J,P⟩
     ·simp at L
     ·obtain⟨e,I,M⟩:=qhc P L;refine .same A h (y := .ept e 0) ?_ ⟨e,rfl,QJ M⟩;have aA:qyv es j=some e:=by unfold qyv;rw[if_pos j0];exact I
      simp only[qc,D,F,hi,J,hk,zh,decide_true,aA]
    ·rename_i id T G;rw[G]at B;split at h<;>try cases h
     rename_i R W;split at h<;>try cases h
     rename_i L;rw[wd]at L;have an:=wk L.1;have hk:=of_decide_eq_true L.2;obtain⟨v,L,h⟩:=Jf h;obtain⟨j0,L⟩:=qjG L;obtain⟨R',I,M,g3,g4⟩:=B;rw[A.rw,W]at I;cases I;have g4:=g4 an;rcases qiE A.rows (by rw[A.rw];exact W) g4 with⟨rr,Q,aq,H,q1,q2,q3,q4,q5,_⟩ | ⟨aE,_,hq,_⟩
     ·obtain⟨e,S,z2⟩:=qhc q5 L;have hl:=qX q5;have bk:j.toNat<Q.c.length:=getElem?_lt S;refine .same A h (y := .rpt rr (0+j.toNat) 0 Q.ver) ?_ ?_
      ·have:qAX Q k 0 Q.c.length Q.ver j=some (0+j.toNat):=by
         unfold qAX;rw[if_pos ⟨q4.trans hk,j0,by omega,rfl,by omega⟩]
       simp only[qc,D,F,hi,H,q1,this]
      ·refine⟨R,by rw[A.rw];exact W,by omega,wb _,.inl ⟨_,_,_,rfl⟩,λ _ => .inl ⟨rr,j.toNat,aq,by rw[wI,q3],by omega,by omega,λ _=>⟨e,by rw[<- q2];exact S,QJ z2⟩⟩⟩
     ·rcases jm hq with⟨_,hl⟩ | ⟨es,n,J,P⟩
      ·rw[hl]at L;simp at L
      ·obtain⟨e,I,bi⟩:=qhc P L;refine .same A h (y := .ept e 0) ?_ ⟨R,by rw[A.rw];exact W,by omega,wb _,.inr ⟨_,rfl⟩,λ _ => .inr ⟨aE,vR (we _) (getElem?_lt L),λ _=>⟨e,rfl,QJ bi⟩⟩⟩;have aA:qyv es j=some e:=by unfold qyv;rw[if_pos j0];exact I
       simp only[qc,D,F,hi,J,hk,zh,decide_true,aA]
   ·rename_i n _ ik j F hj;rw[hj]at hi;have hi:aev tm i = .v (.int ik j):=hi;split at h<;>try cases h
    rename_i b G;rw[G]at B;obtain⟨hb,B⟩:=B;obtain⟨O,h⟩:=jV h;have O:=of_decide_eq_true O;refine .same A h (y := .ptr (m.b b) (0+j.toNat*1)) (by simp only[qc,D,F,hi,B,decide_eq_true O]) ⟨hb,O.1,by rw[wI,wan]⟩
 | index t x i =>
   simp only[Q4]at h;have B:=A.ev x;have hi:=A.ev i;split at h<;>try cases h
   rename_i y ik j F G hj;rw[G]at B;rw[hj]at hi;obtain⟨v,L,h⟩:=Jf h;obtain⟨j0,L⟩:=qjG L;refine .same A h (y := .v (.int .u8 v.toNat)) ?_ rfl
   have:qGK ⟨y.toArray⟩ j=some (v.toNat:Int):=by
    unfold qGK;rw[if_pos j0];show(match y[j.toNat]? with | some b=>some ((b.toNat:Nat):Int) | none=>none)=_;rw[L]
   simp only[qc,D,F,show aev tm x=_ from B,show aev tm i=_ from hi,this]
 | extract x i =>
   simp only[Q4]at h;have B:=A.ev x;split at h<;>try cases h
   rename_i vs G;rw[G]at B;obtain⟨ds,B,hg⟩:=B;split at h<;>try cases h
   rename_i y H;obtain⟨z,I,M⟩:=hg.get H;exact .same A h (by simp only[qc,B,I]) M
 | _=>simp only[Q4]at h;cases h
end
end Go.AmZ
