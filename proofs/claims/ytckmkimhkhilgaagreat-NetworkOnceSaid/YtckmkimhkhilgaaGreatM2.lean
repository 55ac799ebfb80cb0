/- Part 2 of what the proofs stand on: plain functions of the program, and that they are its functions. -/
import Derived.Test.YtckmkimhkhilgaaGreatM1
set_option linter.unusedVariables false
set_option linter.unusedSimpArgs false
noncomputable section
namespace Go.AmZ
open Go Go.RowKit
theorem qmt(lo:Nat->Bool):∀ l:List Oper,JY lo l<=l.length
 | []=>wb _
 | o::r=>by
   unfold JY;split
   ·exact we _
   ·simpa using qmt lo r
theorem qrb(o:Oper):(jd o).dst=o.dst:=by unfold jd;split<;>rfl
theorem qEh(o:Oper):(jd o).guard=o.guard:=by unfold jd;split<;>rfl
theorem qto(o:Oper):jN (jd o)=jN o:=by unfold jd;split<;>rfl
theorem qtX{lo:Nat->Bool}{l:List Oper}:(zj lo l).length=JY lo l:=by simp[zj,kK (qmt lo l)]
theorem qiH{lo:Nat->Bool}{l:List Oper}{j:Nat}(a:j<JY lo l):(zj lo l)[j]?=l[j]?.map jd:=by
 grind [zj]
theorem qCK{lo:Nat->Bool}{l:List Oper}{j:Nat}{o:Oper}(h:(zj lo l)[j]?=some o):j<JY lo l/\∃ q,l[j]?=some q/\jd q=o:=by
 have a:j<JY lo l:=by rw[<- qtX (lo:=lo) (l:=l)];exact getElem?_lt h
 rw[qiH a]at h;grind
theorem qo3{lo:Nat->Bool}{ops:Array Oper}{tm:List AV}{o:Oper}{b:Bool}(h:yJ ⟨zj lo ops.toList⟩ tm (jd o)=some b):yJ ops tm o=some b:=by
 unfold yJ at h |-
 rw[qEh]at h;cases d:o.guard with
 | none=>rw[d]at h;exact h
 | some p =>
   obtain⟨j,a⟩:=p;rw[d]at h;simp only at h |-
   cases c:(zj lo ops.toList)[j]? with
   | none =>
     grind
   | some q =>
     obtain⟨k,e,g,f⟩:=qCK c;have e1:(⟨zj lo ops.toList⟩:Array Oper)[j]?=some q:=by simpa using c
     have i:ops[j]?=some e:=by simpa using g
     rw[e1]at h;rw[i];subst f;simp only[Option.bind_some,qrb]at h |-
     exact h
section
variable {P:Program} {C:Cfg} {Γ : Gh} {σ : St} {w:World} {ops:Array Oper} {ex:Jc} {l:List (AV × Option St)} {s0:S}
theorem qwG{a:Array Bool}(h:a.toList.countP (λ b => !b)=0):∀ i,i<a.size->a.getD i false=true:=by
 intro i c;rw[List.countP_eq_zero]at h;have:=h a[i] (by simp);simp only[wV,Bool.not_eq_false]at this;rw[wK,Array.getElem?_eq_getElem c];simpa using this
theorem qE5(hC:yv P C)(hx:qdS P ex){G:(Nat->Bool)->S}{Good:(Nat->Bool)->Prop}(z:∀ L j,Good L->Good (λ i=>decide (i=j)||L i))(H:∀(j:Nat) (o:Oper),ops[j]?=some o->∀ e∈jN o,e<j)(I:∀ L,(∀ i,i<ops.size->L i=true)->G L=G qv)
  (t:∀(L:Nat->Bool) (j:Nat) (o:Oper),qd7 ops L->Good L->ops[j]?=some o->L j=false->(∀ e∈jN o,L e=true)->∃ y,qbZ C ex ops o (G L) y/\G (λ i=>decide (i=j)||L i)=yE (G L) o y) {Q:Exit->Act->World->Prop}:∀(d:Nat) (c:Array Bool) (Γ : Gh) (w:World) (a:Act),c.size=ops.size->c.toList.countP (λ b => !b)=d->qd7 ops (λ i=>c.getD i false)->Good (λ i=>c.getD i false) ->
  Inv Γ (G (λ i=>c.getD i false)).σ w->zx Γ (G (λ i=>c.getD i false)).tm a ->
  (∀ Γ' w' a',Ext Γ w Γ' w'->Inv Γ' (G qv).σ w'->zx Γ' (G qv).tm a'->qX (G (λ i=>c.getD i false)).σ (G qv).σ -> a'.defers=a.defers->Q .normal a' w') ->
  wpAny P .any ops Q d c a w:=by
 intro d
 induction d with
 | zero =>
   intro c Γ w a g p M l D s V;have r:=qwG p
   have n:Region.ready .any ops c=[]:=by
    apply List.eq_nil_iff_forall_not_mem.2;intro j hj;obtain⟨h1,o,v,_⟩:=mem_ready.1 hj;grind
   have hF:G (λ i=>c.getD i false)=G qv:=I _ λ i D=>r i (by rw[g];exact D);rw[hF]at D s;exact⟨n,V Γ w a (.refl _ _) D s (by rw[hF];exact .refl _) rfl⟩
 | succ d ih =>
   intro c Γ w a g p M l D s V;refine⟨λ n=>?_,λ j hj=>?_⟩
   ·exfalso
    have aa:∃ i,i<c.size/\c.getD i false=false:=by
     apply kZ;intro X
     have:c.toList.countP (λ b => !b)=0:=by
      rw[List.countP_eq_zero];intro b hb;obtain⟨i,f,rfl⟩:=List.getElem_of_mem hb;intro ad;refine X ⟨i,by simpa using f,?_⟩;rw[wK,Array.getElem?_eq_getElem (by simpa using f)];simpa using ad
     rw[p]at this;cases this
    obtain⟨i0,h0,h1⟩:=aa
    have O:∀ i,i<c.size->c.getD i false=false->False:=by
     intro i
     induction i using Nat.strongRecOn with
     | _ i R =>
       intro f hf;obtain⟨o,v⟩:=j9 (ops:=ops) (k:=i) (by rw[<- g];exact f)
       have hr:i∈Region.ready .any ops c:=by
        refine mem_ready.2 ⟨?_,o,v,λ e J hb=>?_⟩
        ·rw[wK,Array.getElem?_eq_getElem f]at hf |-
         simpa using hf
        ·have ab:e.on∈jN o:=wy.2 ⟨e,kJ.2 ⟨by simpa using J,hb⟩,rfl⟩;have Y:=H i o v e.on ab;cases hc:c.getD e.on false with
         | true=>rfl
         | false=>exact(R e.on Y (by omega) hc).elim
       rw[n]at hr;cases hr
    exact O i0 h0 h1
   ·obtain⟨h1,o,v,r⟩:=mem_ready.1 hj;have A:j<ops.size:=(Array.getElem?_eq_some_iff.1 v).1
    have hL:c.getD j false=false:=by
     grind
    have hp:∀ e∈jN o,c.getD e false=true := λ e J=>by
     obtain⟨ed,af,rfl⟩:=wy.1 J;grind
    obtain⟨y,hy,ae⟩:=t _ j o M l v hL hp
    have m:(λ i=>(c.setIfInBounds j true).getD i false) = λ i=>decide (i=j)||c.getD i false:=by
     funext i;by_cases B:i=j
     ·subst B;rw[wK,Array.getElem?_setIfInBounds_self_of_lt (by rw[g];exact A)];simp
     ·rw[getD_set_ne false (xK B)];simp[B]
    have F:(c.setIfInBounds j true).size=ops.size:=by rw[xM,g]
    have K:(c.setIfInBounds j true).toList.countP (λ b => !b)=d:=by
     have Z:j<c.toList.length:=by simp[g,A]
     rw[xq,List.countP_set (h:=Z),p]
     have:c.toList[j]=false:=by
      rw[wK,Array.getElem?_eq_getElem (by rw[g];exact A)]at hL;simpa using hL
     rw[this];simp
    have ac:qd7 ops (λ i=>(c.setIfInBounds j true).getD i false):=by
     rw[m];intro i q U f e J;simp only[kh,decide_eq_true_eq]at f |-
     rcases f with rfl | f
     ·grind
     ·exact .inr (M i q U f e J)
    unfold wpOp;rw[v];simp only
    have next:∀ Γ' w' u,Ext Γ w Γ' w'->Inv Γ' (turn (G (λ i=>c.getD i false)).σ y.2) w'->Rep Γ' y.1 u->qX (G (λ i=>c.getD i false)).σ (turn (G (λ i=>c.getD i false)).σ y.2) ->
      wpAny P .any ops Q d (c.setIfInBounds j true) (a.put o.dst u) w':=by
     intro Γ' w' u e1 e2 e3 e4;have E:G (λ i=>(c.setIfInBounds j true).getD i false)=yE (G (λ i=>c.getD i false)) o y:=by rw[m];exact ae
     refine ih (c.setIfInBounds j true) Γ' w' (a.put o.dst u) F K ac (by rw[m];exact z _ j l) ?_ ?_ ?_
     ·rw[E];exact e2
     ·rw[E];exact zx.put (waG e1.le s) o.dst e3
     ·intro N w2 a2 g1 g2 g3 g4 g5;rw[E]at g4;exact V N w2 a2 (e1.trans g1) g2 g3 (e4.trans g4) (by rw[g5];cases M:o.dst<;>rfl)
    rcases hy with⟨T,W⟩ | ⟨T,rfl⟩
    ·rw[if_pos (qiR s T)];left;refine qHk hC hx D s W _ _ ?_;grind
    ·rw[if_neg (by rw[qiR s T];exact k9)];exact next Γ w undef (.refl _ _) D (.tup [] [] rfl λ i x u h=>by simp at h) (.refl _)
theorem qFR(p:yv P C)(n:qdS P ex){Good:(Nat->Bool)->Prop}(g:∀ L j,Good L->Good (λ i=>decide (i=j)||L i))(k:∀(j:Nat) (o:Oper),ops[j]?=some o->∀ e∈jN o,e<j)
  (f:∀(L:Nat->Bool) (j:Nat) (o:Oper),qd7 ops L->Good L->ops[j]?=some o->L j=false->(∀ e∈jN o,L e=true)->∃ y,qbZ C ex ops o (F ops.toList l s0 L ops.size) y/\F ops.toList l s0 (λ i=>decide (i=j)||L i) ops.size=yE (F ops.toList l s0 L ops.size) o y) {Q:Exit->Act->World->Prop}:∀(d:Nat) (c:Array Bool) (Γ : Gh) (w:World) (a:Act),c.size=ops.size->c.toList.countP (λ b => !b)=d->qd7 ops (λ i=>c.getD i false)->Good (λ i=>c.getD i false) ->
  Inv Γ (F ops.toList l s0 (λ i=>c.getD i false) ops.size).σ w->zx Γ (F ops.toList l s0 (λ i=>c.getD i false) ops.size).tm a ->
  (∀ Γ' w' m,Ext Γ w Γ' w'->Inv Γ' (F ops.toList l s0 qv ops.size).σ w'->zx Γ' (F ops.toList l s0 qv ops.size).tm m->qX (F ops.toList l s0 (λ i=>c.getD i false) ops.size).σ (F ops.toList l s0 qv ops.size).σ -> m.defers=a.defers->Q .normal m w') ->
  wpAny P .any ops Q d c a w :=
 qE5 (G := λ L=>F ops.toList l s0 L ops.size) p n g k (λ _ h=>qAO _ h) f
theorem qyE{lo:Nat->Bool}(h:qjG lo ops.toList=true) :
  (∀(j:Nat) (o:Oper),ops[j]?=some o->∀ e∈jN o,e<j) /\
  (∀(j:Nat) (o:Oper),ops[j]?=some o->JY lo ops.toList<=j->∀ i,i<j->((JK ops.toList []).getD j 0).testBit i=true\/(i<JY lo ops.toList/\∃ q,ops[i]?=some q/\qeJ ops.toList q=true)) /\
  ∀(j:Nat) (o:Oper),ops[j]?=some o->yr o=true->o.guard=none/\∃ d,o.dst=some d/\∀(k:Nat) (q:Oper),ops[k]?=some q->k≠j->q.dst≠some d:=by
 have a:∀(i:Nat) (o:Oper),ops[i]?=some o->(o,i)∈ops.toList.zipIdx := λ i o c=>by
  grind
 simp only[qjG,wv,wd,kh,decide_eq_true_eq,wV]at h;refine⟨λ j o c=>(h _ (a j o c)).1,λ j o c y i s=>?_,λ j o c t=>?_⟩
 ·rcases(h _ (a j o c)).2.1 with b | b
  ·rw[Nat.blt_eq]at b;omega
  ·rcases b i (kS.2 s)with b | ⟨l,f⟩
   ·exact .inl b
   ·rw[Nat.blt_eq]at l;grind
 ·rcases(h _ (a j o c)).2.2 with b | ⟨l,f⟩
  ·rw[t]at b;cases b
  ·refine⟨Option.isNone_iff_eq_none.1 l,?_⟩;simp only at f;split at f
   ·rename_i d m;refine⟨d,m,λ k q n p g=>?_⟩;have r:=wj f;obtain⟨x,w⟩:=xV.1 r;have v:(o,j)∈qdX ops.toList d:=kJ.2 ⟨a j o c,by simp[qsr,m]⟩;have u:(q,k)∈qdX ops.toList d:=kJ.2 ⟨a k q n,by simp[qsr,g]⟩;grind
   ·cases f
theorem qiF{o:Oper}(a:yr o=true):∃ e,o.op = .alloc e:=by
 grind [yr]
structure ql3 (P:Program) (Γ : Gh) (w0 w:World) (ops:Array Oper) (L:Nat->Prop) (a:Act) (ad:Nat->Nat):Prop where
 blk:∀ k o e d,L k->ops[k]?=some o->o.op = .alloc e->jD P e=some d->d.zero.all zu=true ->
  w0.heap.size<=ad k/\w.heap[ad k]?=some (.cells d.zero.toArray e (0,0))/\¬ QG Γ (ad k)/\∀ i,Γ.mem (ad k) i=none
 tmp:∀ k o e d u,L k->ops[k]?=some o->o.op = .alloc e->o.dst=some d->a.tmps[d]?=some u->u = .pointer (some ⟨ad k,0,none⟩)
 inj:∀ k k' o o',L k->L k'->ops[k]?=some o->ops[k']?=some o'->yr o=true->yr o'=true->ad k=ad k'->k=k'
theorem qIt{a:Act}{d:Option Tmp}{u:Value}{t:Tmp}(h:d≠some t):(a.put d u).tmps[t]?=a.tmps[t]?:=by
 cases d with
 | none=>rfl
 | some d =>
   show(a.tmps.setIfInBounds d u)[t]?=_;grind
theorem ql3.step{L:Nat->Prop}{w0 w':World}{Γ':Gh}{a:Act}{ad:Nat->Nat}{d:Option Tmp}{u:Value}(h:ql3 P Γ w0 w ops L a ad)(p:Ext Γ w Γ' w')
  (r:∀ k o t,L k->ops[k]?=some o->yr o=true->o.dst=some t->d≠some t):ql3 P Γ' w0 w' ops L (a.put d u) ad where
 blk := λ k o e d m l j g f=>by
  obtain⟨x,q,g3,s⟩:=h.blk k o e d m l j g f;have n:ad k<w.heap.size:=(Array.getElem?_eq_some_iff.1 q).1;refine⟨x,by rw[p.block _ n g3];exact q,λ c=>?_,λ i=>?_⟩
  ·rcases p.own _ c with c | c
   ·exact g3 c
   ·omega
  ·cases b : Γ'.mem (ad k) i with
   | none=>rfl
   | some v =>
     rcases p.memg _ _ _ b with b | b | b
     ·rw[s]at b;cases b
     ·exact absurd b g3
     ·omega
 tmp := λ k o e t v m l j g f=>by
  rw[qIt (r k o t m l (by simp[yr,j]) g)]at f;exact h.tmp k o e t v m l j g f
 inj:=h.inj
theorem qHR{o:Oper}{ρ : Operand->Value}{e:TypeId}{d:TD}(a:o.op = .alloc e)(b:jD P e=some d)(w:World):(execOp ρ o).run P w = .ok (.value (.pointer (some ⟨w.heap.size,0,none⟩))) (w.alloc (.cells d.zero.toArray e)):=by
 obtain⟨i,u,z,g,m,f,l,k,j,c,h⟩:=waC b;rw[<- c];simp[execOp,a,Instr.alloc,zeroValue,typeInfo,g,f,newVar,qf6]
theorem Inv.free(a:Inv Γ σ w){b:Nat}(f:w.heap.size<=b):¬ QG Γ b/\∀ i,Γ.mem b i=none:=by
 refine⟨?_,λ i=>?_⟩
 ·rintro(⟨i,c,d⟩ | ⟨r,c,d,g⟩)
  ·have:=a.box_lt c;omega
  ·have:=a.cur_lt c d;omega
 ·cases e : Γ.mem b i with
  | none=>rfl
  | some u=>have:=a.mem_lt e;omega
theorem qPl(hC:yv P C)(hx:qdS P ex)(hT:qdU C ex ⟨zj C.lo ops.toList⟩ l s0)(hk:qb1 C.lo s0.tm ⟨zj C.lo ops.toList⟩=true)(aa:qjG C.lo ops.toList=true)
  (hz:∀ k o e,k<JY C.lo ops.toList->ops[k]?=some o->o.op = .alloc e->∃ d,jD P e=some d/\d.zero.all zu=true) {w0:World} {Q:Exit->Act->World->Prop} {n:Nat} (hn:n=JY C.lo ops.toList) :
  ∀(g:Nat) (c:Array Bool) (Γ : Gh) (w:World) (a:Act) (ad:Nat->Nat),c.size=ops.size->c.toList.countP (λ b => !b)=g->(∀ i,n<=i->c.getD i false=false)->qd7 ops (λ i=>c.getD i false) ->
  Inv Γ (F (zj C.lo ops.toList) l s0 (λ i=>c.getD i false) n).σ w->zx Γ (F (zj C.lo ops.toList) l s0 (λ i=>c.getD i false) n).tm a->ql3 P Γ w0 w ops (λ i=>c.getD i false=true) a ad->w0.heap.size<=w.heap.size ->
  (∀ s f Γ' w' a' L,f.size=ops.size->f.toList.countP (λ b => !b)=s->(∀ i,n<=i->f.getD i false=false)->(∀(i:Nat) (o:Oper),i<n->ops[i]?=some o->qeJ ops.toList o=false->f.getD i false=true)->qd7 ops (λ i=>f.getD i false)->Ext Γ w Γ' w'->Inv Γ' (F (zj C.lo ops.toList) l s0 (λ i=>f.getD i false) n).σ w'->zx Γ' (F (zj C.lo ops.toList) l s0 (λ i=>f.getD i false) n).tm a'->ql3 P Γ' w0 w' ops (λ i=>f.getD i false=true) a' L ->
   qX (F (zj C.lo ops.toList) l s0 (λ i=>c.getD i false) n).σ (F (zj C.lo ops.toList) l s0 (λ i=>f.getD i false) n).σ -> a'.defers=a.defers->wpAny P .any ops Q s f a' w') ->
  wpAny P .any ops Q g c a w:=by
 obtain⟨aM,aN,ao⟩:=qyE aa
 have ak:∀(j:Nat) (o:Oper),j<n->ops[j]?=some o->(⟨zj C.lo ops.toList⟩:Array Oper)[j]?=some (jd o) := λ j o hj A=>by
  have:(zj C.lo ops.toList)[j]?=some (jd o):=by
   rw[qiH (by omega)];grind
  simpa using this
 have ai:(⟨zj C.lo ops.toList⟩:Array Oper).size=n:=by show(zj C.lo ops.toList).length=n;rw[qtX,hn]
 have aY:n<=ops.size:=by rw[hn];simpa using qmt C.lo ops.toList
 intro g
 induction g with
 | zero =>
   intro c Γ w a ad z K N hd hi S X V hq;have B:=qwG K;exact hq 0 c Γ w a ad z K N (λ i o m _ _=>B i (by omega)) hd (.refl _ _) hi S X (.refl _) rfl
 | succ g ih =>
   intro c Γ w a ad z K N hd hi S X V hq;by_cases B:∀(i:Nat) (o:Oper),i<n->ops[i]?=some o->qeJ ops.toList o=false->c.getD i false=true
   ·exact hq (g+1) c Γ w a ad z K N B hd (.refl _ _) hi S X (.refl _) rfl
   have aT:qd7 ⟨zj C.lo ops.toList⟩ (λ i=>c.getD i false):=by
    intro i o A hL e M;obtain⟨m,q,h1,rfl⟩:=qCK (lo:=C.lo) (l:=ops.toList) (j:=i) (o:=o) (by simpa using A);rw[qto]at M;exact hd i q (by simpa using h1) hL e M
   have aw:∃(U:Nat) (o0:Oper),U<n/\ops[U]?=some o0/\qeJ ops.toList o0=false/\c.getD U false=false:=by
    apply kZ;intro al;refine B λ i o m aK ar=>?_;cases hc:c.getD i false with
    | true=>rfl
    | false=>exact(al ⟨i,o,m,aK,ar,hc⟩).elim
   refine⟨λ am=>?_,λ j hj=>?_⟩
   ·exfalso;obtain⟨U,o0,R,_,_,h1⟩:=aw
    have aC:∀ i,i<n->c.getD i false=false->False:=by
     intro i
     induction i using Nat.strongRecOn with
     | _ i aD =>
       intro m hf;obtain⟨o,A⟩:=j9 (ops:=ops) (k:=i) (by omega)
       have hr:i∈Region.ready .any ops c:=by
        refine mem_ready.2 ⟨?_,o,A,λ e M hb=>?_⟩
        ·rw[wK,Array.getElem?_eq_getElem (by omega)]at hf |-
         simpa using hf
        ·have aR:e.on∈jN o:=wy.2 ⟨e,kJ.2 ⟨by simpa using M,hb⟩,rfl⟩;have an:=aM i o A e.on aR;cases hc:c.getD e.on false with
         | true=>rfl
         | false=>exact(aD e.on an (by omega) hc).elim
       rw[am]at hr;cases hr
    exact aC U R h1
   ·obtain⟨h1,o,A,az⟩:=mem_ready.1 hj;have ac:j<ops.size:=(Array.getElem?_eq_some_iff.1 A).1
    have hL:c.getD j false=false:=by
     grind
    have hp:∀ e∈jN o,c.getD e false=true := λ e M=>by
     obtain⟨ed,a6,rfl⟩:=wy.1 M;grind
    have aO:j<n:=by
     apply kZ;intro al;obtain⟨U,o0,R,a3,a5,h2⟩:=aw;rcases aN j o A (by omega) U (by omega)with hb | ⟨_,q,E,ar⟩
     ·have:=qpT hd j o A hp hb;rw[h2]at this;cases this
     ·grind
    have aJ:∀ e∈jN (jd o),c.getD e false=true:=by rw[qto];exact hp
    obtain⟨y,hy,ax⟩:=qtI hT hk aT (ak j o aO A) hL aJ;rw[ai]at hy ax
    have J:(λ i=>(c.setIfInBounds j true).getD i false) = λ i=>decide (i=j)||c.getD i false:=by
     funext i;by_cases ae:i=j
     ·subst ae;rw[wK,Array.getElem?_setIfInBounds_self_of_lt (by rw[z];exact ac)];simp
     ·rw[getD_set_ne false (xK ae)];simp[ae]
    have aj:(c.setIfInBounds j true).size=ops.size:=by rw[xM,z]
    have av:(c.setIfInBounds j true).toList.countP (λ b => !b)=g:=by
     have aP:j<c.toList.length:=by simp[z,ac]
     rw[xq,List.countP_set (h:=aP),K]
     have:c.toList[j]=false:=by
      rw[wK,Array.getElem?_eq_getElem (by rw[z];exact ac)]at hL;simpa using hL
     rw[this];simp
    have ap:∀ i,n<=i->(c.setIfInBounds j true).getD i false=false := λ i m=>by
     rw[getD_set_ne false (by omega)];exact N i m
    have aU:qd7 ops (λ i=>(c.setIfInBounds j true).getD i false):=by
     rw[J];intro i q E m e M;simp only[kh,decide_eq_true_eq]at m |-
     rcases m with rfl | m
     ·grind
     ·exact .inr (hd i q E m e M)
    have yn:∀ k,(c.setIfInBounds j true).getD k false=true->k=j\/c.getD k false=true := λ k ab=>by
     have:(λ i=>(c.setIfInBounds j true).getD i false) k=true:=ab;rw[J]at this;simpa using this
    have af:F (zj C.lo ops.toList) l s0 (λ i=>(c.setIfInBounds j true).getD i false) n=yE (F (zj C.lo ops.toList) l s0 (λ i=>c.getD i false) n) (jd o) y:=by rw[J];exact ax
    unfold wpOp;rw[A];simp only
    have next:∀ Γ' w' u L,Ext Γ w Γ' w'->Inv Γ' (turn (F (zj C.lo ops.toList) l s0 (λ i=>c.getD i false) n).σ y.2) w'->Rep Γ' y.1 u->qX (F (zj C.lo ops.toList) l s0 (λ i=>c.getD i false) n).σ (turn (F (zj C.lo ops.toList) l s0 (λ i=>c.getD i false) n).σ y.2) ->
      ql3 P Γ' w0 w' ops (λ i=>(c.setIfInBounds j true).getD i false=true) (a.put o.dst u) L->wpAny P .any ops Q g (c.setIfInBounds j true) (a.put o.dst u) w':=by
     intro Γ' w' u L e1 e2 e3 e4 e5;refine ih (c.setIfInBounds j true) Γ' w' (a.put o.dst u) L aj av ap aU ?_ ?_ e5 (wD V e1.size) ?_
     ·rw[af];exact e2
     ·rw[af];show RepL Γ' (qcm _ (jd o).dst y.1) _;rw[qrb];exact zx.put (waG e1.le S) o.dst e3
     ·intro s f aA w2 a2 aX g0 aW ay q1 q2 I r g3 aV D H;rw[af]at D;exact hq s f aA w2 a2 aX g0 aW ay q1 q2 (e1.trans I) r g3 aV (e4.trans D) (by rw[H];cases hd:o.dst<;>rfl)
    cases O:yr o with
    | false =>
      have aS:jd o=o:=by unfold jd;rw[O]
      have ag:∀ Γ' w' u,Ext Γ w Γ' w'->ql3 P Γ' w0 w' ops (λ i=>(c.setIfInBounds j true).getD i false=true) (a.put o.dst u) ad := λ Γ' w' u M=>by
       have R:=X.step (d:=o.dst) (u:=u) M λ k q t ab E Y aI=>by
        obtain⟨_,d,a8,a7⟩:=ao k q E Y;grind
       have conv:∀ k q,(c.setIfInBounds j true).getD k false=true->ops[k]?=some q->yr q=true->c.getD k false=true := λ k q h2 E Y=>by
        grind
       exact⟨λ k q e d I r g3=>R.blk k q e d (conv k q I r (by simp[yr,g3])) r g3,λ k q e d v I r g3=>R.tmp k q e d v (conv k q I r (by simp[yr,g3])) r g3,λ k k' q q' I r g3 D H g6=>R.inj k k' q q' (conv k q I g3 H) (conv k' q' r D g6) g3 D H g6⟩
      rcases hy with⟨W,G⟩ | ⟨W,rfl⟩
      ·rw[if_pos (qiR S (qo3 W))];left;rw[aS]at G;refine qHk hC hx hi S G _ _ ?_;grind
      ·rw[if_neg (by rw[qiR S (qo3 W)];exact k9)];exact next Γ w undef ad (.refl _ _) hi (.tup [] [] rfl λ i x u h=>by simp at h) (.refl _) (ag Γ w undef (.refl _ _))
    | true =>
      obtain⟨e,Z⟩:=qiF O;obtain⟨aQ,d,aZ,a1⟩:=ao j o A O
      have aE:y=(.dead,none):=by
       rcases hy with⟨W,G⟩ | ⟨W,rfl⟩
       ·have:(jd o).op = .move (.global 0):=by unfold jd;rw[O]
        rw[this]at G;simp only[opA,qc,aev,wz]at G;exact G.symm
       ·have W:=qo3 W;grind [yJ]
      subst aE;have aF:yJ ops (F (zj C.lo ops.toList) l s0 (λ i=>c.getD i false) n).tm o=some true:=by unfold yJ;rw[aQ]
      rw[if_pos (qiR S aF)];left;obtain⟨td,ah,a0⟩:=hz j o e (by omega) A Z;have hb:Below w.heap.size w (w.alloc (.cells td.zero.toArray e)):=(Below.refl _ _).alloc (wb _) _;unfold Oper.wp;rw[qHR Z ah];refine next Γ _ (.pointer (some ⟨w.heap.size,0,none⟩)) (λ k=>if k=j then w.heap.size else ad k) (qgX hb (wb _)) (hi.later hb) (.dead _) (.refl _) ?_
      have R:=X.step (d:=o.dst) (u := .pointer (some ⟨w.heap.size,0,none⟩)) (qgX (Γ := Γ) hb (wb _)) λ k q t ab E Y aI=>by
       grind
      have aq:=hi.free (wb w.heap.size);have conv:∀ k,(c.setIfInBounds j true).getD k false=true->k≠j->c.getD k false=true := λ k h2 aL=>(yn k h2).resolve_left aL
      have an:∀ k q,c.getD k false=true->ops[k]?=some q->yr q=true->ad k<w.heap.size := λ k q h2 h3 h4=>by
       obtain⟨e',au⟩:=qiF h4
       have a4:k<n:=by
        grind
       obtain⟨aB,aH,aG⟩:=hz k q e' (by omega) h3 au;exact(Array.getElem?_eq_some_iff.1 (X.blk k q e' aB h2 h3 au aH aG).2.1).1
      refine⟨λ k q e' d' I r g3 D H=>?_,λ k q e' d' v I r g3 D H=>?_,λ k k' q q' I r g3 D H g6 g7=>?_⟩
      ·by_cases p:k=j
       ·subst p;rw[A]at r;cases r;rw[Z]at g3;cases g3;rw[ah]at D;cases D;simp only[if_true];exact⟨V,heap_alloc_new w _,aq.1,aq.2⟩
       ·simp only[if_neg p];exact R.blk k q e' d' (conv k I p) r g3 D H
      ·by_cases p:k=j
       ·subst p;rw[A]at r;cases r;simp only[if_true];rw[D]at H;have H:(a.tmps.setIfInBounds d' (.pointer (some ⟨w.heap.size,0,none⟩)))[d']?=some v:=H;grind
       ·simp only[if_neg p];exact R.tmp k q e' d' v (conv k I p) r g3 D H
      ·by_cases p:k=j
       ·grind
       ·by_cases T:k'=j
        ·grind
        ·simp only[if_neg p,if_neg T]at g7;exact X.inj k k' q q' (conv k I p) (conv k' r T) g3 D H g6 g7
end
end Go.AmZ
namespace Go.AmZ
open Go Go.RowKit
section
variable {P:Program} {C:Cfg} {Γ : Gh} {σ : St} {w:World} {ops:Array Oper} {ex:Jc} {l:List (AV × Option St)} {s0:S}
theorem qIp(h:Inv Γ σ w){cs:List AV}{vs:List Value}{b:Nat}{e:TypeId}(E:w.heap[b]?=some (.cells vs.toArray e (0,0)))(m:¬ QG Γ b)(x:∀ i,Γ.mem b i=none)(B:RepL Γ cs vs)(F:∀ u∈vs,u.oneCell'=true) :
  ∃ Γ',Le Γ Γ'/\(∀ c,QG Γ' c->QG Γ c\/c=b) /\ Γ'.mem = Γ.mem/\Inv Γ' { σ with bx := σ.bx++[cs] } w/\Rep Γ' (.ptr σ.bx.length 0) (.pointer (some ⟨b,0,none⟩)):=by
 let Γ':Gh:={ Γ with nb := Γ.nb+1,β := λ i=>if i = Γ.nb then b else Γ.β i }
 have g:∀ i,i < Γ.nb -> Γ'.β i = Γ.β i := λ i f=>if_neg (by omega);have a : Γ'.β Γ.nb=b:=if_pos rfl;have k:Le Γ Γ':=⟨λ _ _ _ h=>h,kr _,g,wb _,λ _ _=>rfl,λ _ _=>wb _,λ _ _ _=>⟨rfl,rfl,rfl⟩⟩
 refine⟨Γ',k,?_,rfl,⟨?_,h.nr,h.mem,?_,?_,?_,?_,h.apart⟩,?_⟩
 ·rintro c (⟨i,f,rfl⟩ | q)
  ·have f:i < Γ.nb+1:=f;by_cases d:i = Γ.nb
   ·right;rw[d,a]
   ·left;left;exact⟨i,by omega,(g i (by omega)).symm⟩
  ·exact .inl (.inr q)
 ·show Γ.nb+1=(σ.bx++[cs]).length;simp[h.nb]
 ·intro i cs' f;rw[List.getElem?_append]at f;split at f
  ·rename_i s;exact(h.box i cs' f).lift (by rw[h.nb];exact s) k λ o q=>q
  ·rename_i s
   have z:i - σ.bx.length=0:=by
    have:=getElem?_lt f;simp at this;omega
   rw[z]at f;simp at f;subst f;have y:i = Γ.nb:=by rw[h.nb];omega
   refine⟨vs.toArray,e,?_,by simpa using B.mono k,by simpa using F⟩;rw[y,a];exact E
 ·intro i j f D l;have v:i < Γ.nb+1:=f;have C:j < Γ.nb+1:=D;by_cases d:i = Γ.nb<;>by_cases t:j = Γ.nb
  ·rw[d,t]
  ·rw[d,a,g j (by omega)]at l;exact(m (.inl ⟨j,by omega,l.symm⟩)).elim
  ·rw[t,a,g i (by omega)]at l;exact(m (.inl ⟨i,by omega,l⟩)).elim
  ·rw[g i (by omega),g j (by omega)]at l;exact h.inj i j (by omega) (by omega) l
 ·intro i f o;have v:i < Γ.nb+1:=f;by_cases d:i = Γ.nb
  ·rw[d,a];exact x o
  ·rw[g i (by omega)];exact h.boxmem i (by omega) o
 ·intro r R p;have n:r < Γ.nr:=by rw[h.nr];exact getElem?_lt p
  refine(h.row r R p).lift n k rfl (λ _ G q=>q) (λ _ _ x=>x) λ A i f H l=>?_;have v:i < Γ.nb+1:=f;have d:i = Γ.nb:=by omega
  rw[d,a]at l;exact m (.inr ⟨r,n,A,l.symm⟩)
 ·rw[<- a,h.nb];exact .ptr _ _ (by show σ.bx.length < Γ.nb+1;rw[h.nb];omega)
theorem qnf{lo:Nat->Bool}:∀{l:List Oper} {k:Nat} {o:Oper},k<JY lo l->l[k]?=some o->yp lo o.op=false
 | [],k,o,h,_=>by simp[JY]at h
 | q::l,k,o,h,a=>by
   unfold JY at h;split at h
   ·omega
   ·rename_i b;cases k with
    | zero=>cases a;exact b
    | succ k=>exact qnf (l:=l) (k:=k) (by omega) (by simpa using a)
def idA(nb:Nat)(ops:Array Oper)(k:Nat):Nat:=nb+(ops.toList.take k).countP yr
theorem qpr{nb k:Nat}{o:Oper}(a:ops[k]?=some o):idA nb ops (k+1)=idA nb ops k+(if yr o then 1 else 0):=by
 unfold idA;have b:k<ops.toList.length:=by have:=(Array.getElem?_eq_some_iff.1 a).1;simpa using this
 have:ops.toList.take (k+1)=ops.toList.take k++[o]:=by
  rw[kw,show ops.toList[k]?=some o by simpa using a];rfl
 rw[this,List.countP_append,List.countP_singleton];omega
def qGh(ops:Array Oper)(P:Nat->Prop)(nb:Nat)(tm a:List AV):Prop :=
 a.length=tm.length/\∀ t,(∀(k:Nat) (o:Oper),P k->ops[k]?=some o->yr o=true->o.dst=some t->a.getD t .dead=if t<tm.length then .ptr (idA nb ops k) 0 else .dead) /\
  ((∀(k:Nat) (o:Oper),P k->ops[k]?=some o->yr o=true->o.dst≠some t)->a.getD t .dead=tm.getD t .dead)
theorem qmo(tm:List AV)(d t:Nat)(x:AV):(tm.set d x).getD t .dead=if d=t then(if t<tm.length then x else .dead)else tm.getD t .dead:=by
 rw[List.getD_eq_getElem?_getD,List.getElem?_set];by_cases h:d=t
 ·rw[if_pos h,if_pos h];subst h;split<;>rfl
 ·rw[if_neg h,if_neg h,List.getD_eq_getElem?_getD]
theorem qpk{n nb:Nat}(v:∀(j:Nat) (o:Oper),ops[j]?=some o->yr o=true->o.guard=none/\∃ d,o.dst=some d/\∀(k:Nat) (q:Oper),ops[k]?=some q->k≠j->q.dst≠some d):∀(a:List Oper) (i:Nat) (s x:S),(∀(j:Nat) (o:Oper),a[j]?=some o->i+j<n/\ops[i+j]?=some o)->i+a.length=n->zV C ex ops false (a.filter yr) s=some x->s.σ.bx.length=idA nb ops i ->
  qGh ops (λ k=>i<=k/\k<n) nb s.tm x.tm
 | [],i,s,x,_,H,h,_=>by
   simp only[List.filter_nil,zV,wz]at h;subst h;simp at H;exact⟨rfl,λ t=>⟨λ k o p=>by omega,λ _=>rfl⟩⟩
 | o::a,i,s,x,N,H,h,L=>by
   obtain⟨V,b⟩:=N 0 o rfl;have b:ops[i]?=some o:=by simpa using b
   have y:∀(j:Nat) (q:Oper),a[j]?=some q->i+1+j<n/\ops[i+1+j]?=some q := λ j q g=>by
    have:=N (j+1) q g;rw[show i+1+j=i+(j+1) by omega];exact this
   have z:i+1+a.length=n:=by rw[<- H];simp;omega
   cases c:yr o with
   | false =>
     rw[xO (by rw[c];exact k9)]at h;obtain⟨D,w⟩:=qpk v a (i+1) s x y z h (by rw[qpr b,c];exact L);refine⟨D,λ t=>⟨λ k q p g A B=>(w t).1 k q ⟨?_,p.2⟩ g A B,λ l=>(w t).2 λ k q p=>l k q ⟨by omega,p.2⟩⟩⟩;apply kZ;intro T;have:k=i:=by omega
     subst this;rw[b]at g;cases g;rw[c]at A;cases A
   | true =>
     rw[xP c]at h;obtain⟨e,G⟩:=qiF c;obtain⟨J,d,f,E⟩:=v i o b c;simp only[zV]at h;have R:yJ ops s.tm o=some true:=by unfold yJ;rw[J]
     rw[R]at h;simp only[G,opA,qc]at h;cases B:C.ty e with
     | none=>rw[B]at h;cases h
     | some O =>
       rw[B]at h;simp only at h;cases M:O.zero.all zu with
       | false=>rw[M]at h;cases h
       | true =>
         rw[M]at h;simp only[xb]at h;obtain⟨D,w⟩:=qpk v a (i+1) _ x y z h (by show(s.σ.bx++[_]).length=_;rw[qpr b,c,wc,L];rfl);rw[f]at D w;have m:(qcm s.tm (some d) (.ptr s.σ.bx.length 0)).length=s.tm.length:=wJ ..;have r:∀ t,(qcm s.tm (some d) (.ptr s.σ.bx.length 0)).getD t .dead=if d=t then(if t<s.tm.length then .ptr s.σ.bx.length 0 else .dead)else s.tm.getD t .dead := λ t=>qmo s.tm d t _;refine⟨D.trans m,λ t=>⟨λ k q p g A u=>?_,λ l=>?_⟩⟩
         ·by_cases I:k=i
          ·subst I;rw[b]at g;cases g;rw[f]at u;cases u;rw[(w d).2 λ Q P U F _=>E Q P F (by omega),r,if_pos rfl,L]
          ·rw[(w t).1 k q ⟨by omega,p.2⟩ g A u,m]
         ·have K:d≠t := λ W=>l i o ⟨wb _,by omega⟩ b c (by rw[f,W]);rw[(w t).2 λ k q p=>l k q ⟨by omega,p.2⟩,r,if_neg K]
theorem qqP(Y:yv P C){n nb:Nat}{z:Gh}{w0:World}{a:Act}{ad:Nat->Nat}:∀(f:List Oper) (i:Nat) (s A:S) (σ : St) (Γ : Gh),(∀(j:Nat) (o:Oper),f[j]?=some o->i+j<n/\ops[i+j]?=some o)->i+f.length=n->zV C ex ops false (f.filter yr) s=some A ->
  (∀(j:Nat) (o:Oper),ops[j]?=some o->yr o=true->o.guard=none)->s.σ = σ -> s.σ.bx.length=idA nb ops i->Inv Γ σ w->ql3 P Γ w0 w ops (λ k=>i<=k/\k<n) a ad->Ext z w0 Γ w ->
  ∃ Γ',Le Γ Γ'/\Ext z w0 Γ' w/\Inv Γ' A.σ w/\qX σ A.σ /\ ∀(k:Nat) (o:Oper),i<=k->k<n->ops[k]?=some o->yr o=true->Rep Γ' (.ptr (idA nb ops k) 0) (.pointer (some ⟨ad k,0,none⟩))
 | [],i,s,A,σ,Γ,_,O,h,_,m,_,K,D,p=>by
   simp only[List.filter_nil,zV,wz]at h;subst h;simp at O;exact⟨Γ,.refl Γ,p,by rw[m];exact K,by rw[m];exact .refl _,λ k o r x=>by omega⟩
 | o::f,i,s,A,σ,Γ,hr,O,h,T,m,X,K,D,p=>by
   obtain⟨ab,g⟩:=hr 0 o rfl;have g:ops[i]?=some o:=by simpa using g
   have E:∀(j:Nat) (q:Oper),f[j]?=some q->i+1+j<n/\ops[i+1+j]?=some q := λ j q B=>by
    have:=hr (j+1) q B;rw[show i+1+j=i+(j+1) by omega];exact this
   have H:i+1+f.length=n:=by rw[<- O];simp;omega
   have t:ql3 P Γ w0 w ops (λ k=>i+1<=k/\k<n) a ad:=⟨λ k o e d r=>D.blk k o e d ⟨by omega,r.2⟩,λ k o e d u r=>D.tmp k o e d u ⟨by omega,r.2⟩,λ k k' o o' r x=>D.inj k k' o o' ⟨by omega,r.2⟩ ⟨by omega,x.2⟩⟩
   cases l:yr o with
   | false =>
     rw[xO (by rw[l];exact k9)]at h;obtain⟨Γ',g0,g1,g2,g3,Z⟩:=qqP Y f (i+1) s A σ Γ E H h T m (by rw[qpr g,l];exact X) K t p;refine⟨Γ',g0,g1,g2,g3,λ k q r x B I=>Z k q ?_ x B I⟩;apply kZ;intro aa;have:k=i:=by omega
     subst this;rw[g]at B;cases B;rw[l]at I;cases I
   | true =>
     rw[xP l]at h;obtain⟨e,F⟩:=qiF l;simp only[zV]at h;have hw:yJ ops s.tm o=some true:=by unfold yJ;rw[T i o g l]
     rw[hw]at h;simp only[F,opA,qc]at h;cases V:C.ty e with
     | none=>rw[V]at h;cases h
     | some d =>
       rw[V]at h;simp only at h;cases J:d.zero.all zu with
       | false=>rw[J]at h;cases h
       | true =>
         rw[J]at h;simp only[xb]at h;have M:=Y.ty e d V;obtain⟨g1,g2,g3,Z⟩:=D.blk i o e d ⟨wb _,by omega⟩ g F M J;obtain⟨b1,b2⟩:=qg3 (Γ := Γ) J;obtain⟨y,a1,a2,a3,a4,a5⟩:=qIp K g2 g3 Z b1 b2
         have U:Ext z w0 y w:=⟨p.le.trans a1,p.os,p.tape,p.output,p.size,p.block,λ c W=>by
          rcases a2 c W with W | rfl
          ·exact p.own c W
          ·exact .inr g1,λ b o u hm=>by rw[a3]at hm;exact p.memg b o u hm,p.drawn⟩
         have N:ql3 P y w0 w ops (λ k=>i+1<=k/\k<n) a ad:=⟨λ k q e' d' r x h3 h4 h5=>by
          obtain⟨q1,q2,q3,q4⟩:=t.blk k q e' d' r x h3 h4 h5;refine⟨q1,q2,λ G=>?_,λ j=>by rw[a3];exact q4 j⟩;rcases a2 _ G with G | G
          ·exact q3 G
          ·have:=D.inj k i q o ⟨by omega,r.2⟩ ⟨wb _,by omega⟩ x g (by simp[yr,h3]) l G;omega,t.tmp,t.inj⟩
         obtain⟨L,c0,c1,c2,c3,c4⟩:=qqP Y f (i+1) _ A { σ with bx := σ.bx++[d.zero.map .v] } y E H h T (by simp only;rw[m]) (by show(s.σ.bx++[_]).length=_;rw[qpr g,l,wc,X];rfl) a4 N U;have R:qX σ { σ with bx := σ.bx++[d.zero.map .v] }:=⟨by simp,wb _,λ j hj _=>by simp only[List.getElem?_append_left hj],λ _ _ _=>rfl,λ _ h=>h,λ _ h=>h⟩
         refine⟨L,a1.trans c0,c1,c2,R.trans c3,λ k q r x B I=>?_⟩;by_cases Q:k=i
         ·subst Q;rw[<- X,m];exact a5.mono c0
         ·exact c4 k q (by omega) x B I
theorem qtw{l:S}:∀(a:List Oper) (s:S),zV C ex ops false (a.filter yr) s=some l->(∀ o∈a,yr o=true->o.guard=none)->∀ o∈a,∀ e,o.op = .alloc e->∃ d,C.ty e=some d/\d.zero.all zu=true
 | [],_,_,_,o,b,_,_=>by cases b
 | q::a,s,h,j,o,b,e,c=>by
   cases f:yr q with
   | false =>
     rw[xO (by rw[f];exact k9)]at h;rcases wx.1 b with rfl | b
     ·simp[yr,c]at f
     ·exact qtw a s h (λ o b=>j o (wg _ b)) o b e c
   | true =>
     rw[xP f]at h;obtain⟨n,g⟩:=qiF f;simp only[zV]at h;have m:yJ ops s.tm q=some true:=by unfold yJ;rw[j q (wh ..) f]
     rw[m]at h;simp only[g,opA,qc]at h;cases k:C.ty n with
     | none=>rw[k]at h;cases h
     | some d =>
       rw[k]at h;simp only at h;cases i:d.zero.all zu with
       | false=>rw[i]at h;cases h
       | true =>
         rw[i]at h;simp only[xb]at h;rcases wx.1 b with rfl | b
         ·rw[g]at c;cases c;exact⟨d,k,i⟩
         ·exact qtw a _ h (λ o b=>j o (wg _ b)) o b e c
theorem qIe{lB:List (AV × Option St)}{s0B:S}{L:Nat->Bool}{n:Nat}(h:∀ i,n<=i->L i=false):∀ m,F ops.toList lB s0B L (n+m)=F ops.toList lB s0B L n
 | 0=>rfl
 | m+1=>by
   show F ops.toList lB s0B L (n+m+1)=_;simp only[F];rw[h (n+m) (by omega)];split
   ·rename_i a;cases a
   ·exact qIe h m
def qrP(ops:Array Oper)(n nb:Nat)(lA lS:List (AV × Option St)):List (AV × Option St) :=
 (List.range n).map (λ k=>match ops[k]? with
  | some o=>match yr o with
    | true=>(AV.ptr (idA nb ops k) 0,none)
    | false=>lA.getD k (.dead,none)
  | none=>(.dead,none))++lS
theorem qp3{n nb k:Nat}{lA lS:List (AV × Option St)}{o:Oper}(a:k<n)(b:ops[k]?=some o):(qrP ops n nb lA lS)[k]?=some (match yr o with
  | true=>(AV.ptr (idA nb ops k) 0,none)
  | false=>lA.getD k (.dead,none)):=by
 unfold qrP;rw[List.getElem?_append_left (by simpa using a),List.getElem?_map,List.getElem?_range a];simp only[kN,b]
theorem qtE{n nb k:Nat}{lA lS:List (AV × Option St)}:(qrP ops n nb lA lS)[n+k]?=lS[k]?:=by
 unfold qrP;rw[List.getElem?_append_right (by simp)];simp
theorem qE4{n nb:Nat}{lA lS:List (AV × Option St)}{s0 s0B:S}(s:s0B.tm=s0.tm)(K:n=JY C.lo ops.toList)(J:qrR C ⟨zj C.lo ops.toList⟩ lA)(u:∀(j:Nat) (o:Oper),ops[j]?=some o->yr o=true->o.guard=none/\∃ d,o.dst=some d/\∀(k:Nat) (q:Oper),ops[k]?=some q->k≠j->q.dst≠some d)
  (L:Nat->Bool):∀ k,k<=n->qGh ops (λ i=>i<k/\L i=true) nb (F (zj C.lo ops.toList) lA s0 L k).tm (F ops.toList (qrP ops n nb lA lS) s0B L k).tm
 | 0,_=>⟨by show s0B.tm.length=s0.tm.length;rw[s],λ t=>⟨λ k o M=>by omega,λ _=>by show s0B.tm.getD t _=s0.tm.getD t _;rw[s]⟩⟩
 | k+1,M=>by
   obtain⟨w,p⟩:=qE4 (lS:=lS) s K J u L k (by omega);have I:JY C.lo ops.toList<=ops.size:=by simpa using qmt C.lo ops.toList
   obtain⟨o,m⟩:=j9 (ops:=ops) (k:=k) (by omega);have z:ops.toList[k]?=some o:=by simpa using m
   have x:(zj C.lo ops.toList)[k]?=some (jd o):=by rw[qiH (by omega),z];rfl
   obtain⟨y,H,_⟩:=J k (jd o) (by simpa using x);have N:=qp3 (n:=n) (nb:=nb) (lA:=lA) (lS:=lS) (k:=k) (by omega) m;simp only[F,x,H,z,N];cases D:L k with
   | false =>
     refine⟨w,λ t=>⟨λ i q c=>(p t).1 i q ⟨?_,c.2⟩,λ b=>(p t).2 λ i q c=>b i q ⟨by omega,c.2⟩⟩⟩;apply kZ;intro G;have:i=k:=by omega
     subst this;rw[D]at c;exact k9 c.2
   | true =>
     simp only[yE,qrb];cases l:yr o with
     | true =>
       obtain⟨_,d,B,r⟩:=u k o m l;simp only[B,qcm];refine⟨by rw[wJ,wJ,w],λ t=>⟨λ i q c e g a=>?_,λ b=>?_⟩⟩
       ·rw[qmo,wJ];by_cases h:i=k
        ·subst h;rw[m]at e;cases e;rw[B]at a;cases a;rw[if_pos rfl,w]
        ·have f:d≠t := λ v=>r i q e h (by rw[a,v]);rw[if_neg f];exact(p t).1 i q ⟨by omega,c.2⟩ e g a
       ·have f:d≠t := λ v=>b k o ⟨by omega,D⟩ m l (by rw[B,v]);rw[qmo,if_neg f,qmo,if_neg f];exact(p t).2 λ i q c=>b i q ⟨by omega,c.2⟩
     | false =>
       have E:lA.getD k (.dead,none)=y:=by rw[List.getD_eq_getElem?_getD,H];rfl
       rw[E];cases B:o.dst with
       | none =>
         refine⟨w,λ t=>⟨λ i q c e g a=>(p t).1 i q ⟨?_,c.2⟩ e g a,λ b=>(p t).2 λ i q c=>b i q ⟨by omega,c.2⟩⟩⟩;apply kZ;intro G;have:i=k:=by omega
         subst this;rw[m]at e;cases e;rw[l]at g;cases g
       | some d =>
         simp only[qcm];refine⟨by rw[wJ,wJ,w],λ t=>⟨λ i q c e g a=>?_,λ b=>?_⟩⟩
         ·have h:i≠k := λ v=>by subst v;rw[m]at e;cases e;rw[l]at g;cases g
          obtain⟨_,O,A,r⟩:=u i q e g;rw[a]at A;cases A;have f:d≠t := λ v=>r k o m (xK h) (by rw[B,v]);rw[qmo,if_neg f,wJ];exact(p t).1 i q ⟨by omega,c.2⟩ e g a
         ·rw[qmo,qmo,w];split
          ·rfl
          ·exact(p t).2 λ i q c=>b i q ⟨by omega,c.2⟩
theorem qiM{n:Nat}{lB:List (AV × Option St)}{s0B:S}{L:Nat->Bool}(h:∀ k y,k<n->lB[k]?=some y->y.2=none):∀ k,k<=n->(F ops.toList lB s0B L k).σ = s0B.σ
 | 0,_=>rfl
 | k+1,b=>by
   simp only[F];split
   ·rename_i o y _ a _;rw[putS_σ _ _ _ (h k y (by omega) a)];exact qiM h k (by omega)
   ·exact qiM h k (by omega)
theorem recB_σ{n nb:Nat}{lA lS:List (AV × Option St)}(p:n=JY C.lo ops.toList)(m:qrR C ⟨zj C.lo ops.toList⟩ lA):∀ k y,k<n->(qrP ops n nb lA lS)[k]?=some y->y.2=none:=by
 intro k y l c;have i:JY C.lo ops.toList<=ops.size:=by simpa using qmt C.lo ops.toList
 obtain⟨o,h⟩:=j9 (ops:=ops) (k:=k) (by omega);have d:ops.toList[k]?=some o:=by simpa using h
 rw[qp3 l h]at c;cases b:yr o with
 | true=>rw[b]at c;cases c;rfl
 | false =>
   rw[b]at c;have f:(zj C.lo ops.toList)[k]?=some (jd o):=by rw[qiH (by omega),d];rfl
   obtain⟨z,j,a⟩:=m k (jd o) (by simpa using f);simp only[List.getD_eq_getElem?_getD,j,Option.getD_some,wz]at c;subst c;have g:jd o=o:=by unfold jd;rw[b]
   rw[g,qnf (by omega) d]at a;cases e:z.2 with
   | none=>rfl
   | some σ'=>rw[e]at a;exact absurd (a rfl) k9
theorem lA_σ{n:Nat}{lA:List (AV × Option St)}(l:n=JY C.lo ops.toList)(j:qrR C ⟨zj C.lo ops.toList⟩ lA):∀ k y,k<n->lA[k]?=some y->y.2=none:=by
 intro k y m g;have f:JY C.lo ops.toList<=ops.size:=by simpa using qmt C.lo ops.toList
 obtain⟨o,i⟩:=j9 (ops:=ops) (k:=k) (by omega);have b:ops.toList[k]?=some o:=by simpa using i
 have d:(zj C.lo ops.toList)[k]?=some (jd o):=by rw[qiH (by omega),b];rfl
 obtain⟨z,e,a⟩:=j k (jd o) (by simpa using d);rw[g]at e;cases e
 have h:yp C.lo (jd o).op=false:=by
  unfold jd;split
  ·rfl
  ·exact qnf (by omega) b
 rw[h]at a;cases c:y.2 with
 | none=>rfl
 | some σ'=>rw[c]at a;exact absurd (a rfl) k9
theorem qGK(hC:yv P C)(hx:qdS P ex){id:Nat}{s s1 G s':S}(Z:qjG C.lo ops.toList=true)(ab:qbY C.lo s.tm ops true=true)(hk:qbY C.lo s.tm ⟨zj C.lo ops.toList⟩ true=true)(h:zV C ex ⟨zj C.lo ops.toList⟩ true (zj C.lo ops.toList) s=some s1)(hm:zV C ex ops false (alL C.lo ops.toList) s1=some G)(h':zV C ex ops true (qsj C.lo ops.toList) G=some s'){a:Act}{Q:Exit->Act->World->Prop}(hi:Inv Γ s.σ w)(ht:zx Γ s.tm a)
  (I:∀ Γ' w' a',Ext Γ w Γ' w'->Inv Γ' s'.σ w'->zx Γ' s'.tm a'->qX s.σ s'.σ -> a'.defers=a.defers->Q .normal a' w'):(Code.region id ops true).wp P Q a w:=by
 obtain⟨lA,h1,h2,h3,h4⟩:=qjs (zj C.lo ops.toList) s s1 h;obtain⟨lS,e1,e2,e3,_⟩:=qjs (qsj C.lo ops.toList) G s' h';have hT:qdU C ex ⟨zj C.lo ops.toList⟩ lA s:=qrU h3 h4;rw[qtX]at h2;have hk:qb1 C.lo s.tm ⟨zj C.lo ops.toList⟩=true:=hk;have ab:qb1 C.lo s.tm ops=true:=ab;obtain⟨aX,an,ao⟩:=qyE Z;generalize hn:JY C.lo ops.toList=n at h2 an;have a3:n<=ops.size:=by rw[<- hn];simpa using qmt C.lo ops.toList
 have hg:∀(j:Nat) (o:Oper),ops[j]?=some o->yr o=true->o.guard=none := λ j o g ha=>(ao j o g ha).1
 have ai:∀(j:Nat) (o:Oper),(ops.toList.take n)[j]?=some o->0+j<n/\ops[0+j]?=some o := λ j o g=>by
  rw[wG];rw[List.getElem?_take]at g;split at g
  ·exact⟨‹_›,by simpa using g⟩
  ·cases g
 have R:0+(ops.toList.take n).length=n:=by simp;omega
 have hm:zV C ex ops false ((ops.toList.take n).filter yr) s1=some G:=by rw[<- hn];exact hm
 have aB:qsj C.lo ops.toList=ops.toList.drop n:=by unfold qsj;rw[hn]
 rw[aB]at e1 e2 e3
 have hz:∀ k o e,k<JY C.lo ops.toList->ops[k]?=some o->o.op = .alloc e->∃ d,jD P e=some d/\d.zero.all zu=true := λ k o e hk g al=>by
  rw[hn]at hk;have aE:o∈ops.toList.take n:=wa (i:=k) (by rw[List.getElem?_take,if_pos hk];simpa using g)
  obtain⟨d,f,v⟩:=qtw _ s1 hm (λ q I ak=>by
   obtain⟨j,hj⟩:=List.getElem?_of_mem I;exact hg (0+j) q (ai j q hj).2 ak) o aE e al
  exact⟨d,hC.ty e d f,v⟩
 have W:∀ L k,k<=n->(F (zj C.lo ops.toList) lA s L k).σ = s.σ := λ L k aY=>qiM (ops:=⟨zj C.lo ops.toList⟩) (lA_σ hn.symm hT.recd) k aY
 have aN:∀ k,F (zj C.lo ops.toList) lA s (λ i=>(Array.replicate ops.size false).getD i false) k=s:=by
  intro k
  induction k with
  | zero=>rfl
  | succ k ih =>
    simp only[F]
    have:(Array.replicate ops.size false).getD k false=false:=by
     rw[wK,Array.getElem?_replicate];split<;>rfl
    rw[this];split
    ·rename_i hf;cases hf
    ·exact ih
 have p:∀ i,(Array.replicate ops.size false).getD i false=false := λ i=>by
  rw[wK,Array.getElem?_replicate];split<;>rfl
 have aC:s1.σ = s.σ := by rw[<- h2];exact W _ _ (wb _)
 let nb:=s.σ.bx.length;have ae:s1.σ.bx.length=idA nb ops 0:=by rw[aC];rfl
 let lB:=qrP ops n nb lA lS;let s0B:S:=⟨s.tm,G.σ⟩
 have E:∀ k y,k<n->lB[k]?=some y->y.2=none:=recB_σ hn.symm hT.recd;have au:∀ L k,k<=n->qGh ops (λ i=>i<k/\L i=true) nb (F (zj C.lo ops.toList) lA s L k).tm (F ops.toList lB s0B L k).tm:=qE4 rfl hn.symm hT.recd ao
 have aR:F ops.toList lB s0B qv n=G:=by
  have hr:=qpk (nb:=nb) ao (ops.toList.take n) 0 s1 G ai R hm ae;have M:=au qv n (wb _);rw[h2]at M;have aa:(F ops.toList lB s0B qv n).σ = G.σ := qiM E n (wb _)
  have ay:(F ops.toList lB s0B qv n).tm=G.tm:=by
   have Y:(F ops.toList lB s0B qv n).tm.length=G.tm.length:=by rw[M.1,hr.1]
   have aK:∀ t,(F ops.toList lB s0B qv n).tm.getD t .dead=G.tm.getD t .dead := λ t=>by
    by_cases J:∃(k:Nat) (o:Oper),k<n/\ops[k]?=some o/\yr o=true/\o.dst=some t
    ·obtain⟨k,o,K,A,B,N⟩:=J;rw[(M.2 t).1 k o ⟨K,rfl⟩ A B N,(hr.2 t).1 k o ⟨we _,K⟩ A B N]
    ·rw[(M.2 t).2 λ k o hk A B N=>J ⟨k,o,hk.1,A,B,N⟩,(hr.2 t).2 λ k o hk A B N=>J ⟨k,o,hk.2,A,B,N⟩]
   apply List.ext_getElem Y;intro i f v;have:=aK i;rw[List.getD_eq_getElem?_getD,List.getD_eq_getElem?_getD,List.getElem?_eq_getElem f,List.getElem?_eq_getElem v]at this;exact this
  show F ops.toList lB s0B qv n=G;generalize F ops.toList lB s0B qv n=z at *;obtain⟨z1,z2⟩:=z;obtain⟨K,A⟩:=G;simp only at aa ay;rw[aa,ay]
 have T:∀ i,i<=(ops.toList.drop n).length->F ops.toList lB s0B qv (n+i)=F (ops.toList.drop n) lS G qv i:=by
  intro i
  induction i with
  | zero=>intro _;exact aR
  | succ i ih =>
    intro aH;show F ops.toList lB s0B qv (n+i+1)=_;have hl:lB[n+i]?=lS[i]?:=qtE;simp only[F,List.getElem?_drop,hl,ih (by omega)];rfl
 have Y:n+(ops.toList.drop n).length=ops.size:=by simp;omega
 have aL:F ops.toList lB s0B qv ops.size=s':=by rw[<- Y,T _ (wb _)];exact e2
 have D:qrR C ops lB:=by
  intro i o g;have a7:i<ops.size:=(Array.getElem?_eq_some_iff.1 g).1;by_cases aJ:i<n
  ·have hy:=qp3 (nb:=nb) (lA:=lA) (lS:=lS) aJ g;exact⟨_,hy,λ hs=>by rw[E i _ aJ hy]at hs;cases hs⟩
  ·obtain⟨j,rfl⟩:∃ j,i=n+j:=⟨i-n,by omega⟩
   obtain⟨y,f,_,g3⟩:=e3 j o (by rw[List.getElem?_drop];simpa using g);exact⟨y,by rw[<- f];exact qtE,g3⟩
 have aj:∀(L:Nat->Bool) (j:Nat) (o:Oper),qd7 ops L->(∀(i:Nat) (q:Oper),i<n->ops[i]?=some q->qeJ ops.toList q=false->L i=true)->ops[j]?=some o->L j=false->(∀ e∈jN o,L e=true) ->
   ∃ y,qbZ C ex ops o (F ops.toList lB s0B L ops.size) y/\F ops.toList lB s0B (λ i=>decide (i=j)||L i) ops.size=yE (F ops.toList lB s0B L ops.size) o y:=by
  intro L j o hd ar g hL hp;have a6:j<ops.size:=(Array.getElem?_eq_some_iff.1 g).1;obtain⟨y,hy,aW⟩:=D j o g;refine⟨y,?_,qFs (s0:=s0B) D ab hd g hL hp hy aW⟩;have H:∀ t∈qfJ ops o,(F ops.toList lB s0B L ops.size).tm.getD t .dead=(F ops.toList lB s0B qv j).tm.getD t .dead := λ t ht=>qrE (s0:=s0B) D ab hd g hL hp ht;by_cases ap:j<n
  ·-- it qfJ at no memory
   have hf:qeJ ops.toList o=true:=by
    cases hf:qeJ ops.toList o with
    | true=>rfl
    | false=>rw[ar j o ap g hf]at hL;cases hL
   unfold qeJ at hf;simp only[wd,wV,wv,kh]at hf;obtain⟨f1,f2,f3⟩:=hf;have aD:ops.toList[j]?=some o:=by simpa using g
   have aU:(zj C.lo ops.toList)[j]?=some o:=by
    rw[qiH (by omega),aD];show some (jd o)=_;unfold jd;rw[f2]
   have aV:(⟨zj C.lo ops.toList⟩:Array Oper)[j]?=some o:=by simpa using aU
   obtain⟨z,z1,z2,z3⟩:=hT.st j o aV
   have ah:y=z:=by
    have:=qp3 (nb:=nb) (lA:=lA) (lS:=lS) ap g;rw[f2]at this;have hz:lA.getD j (.dead,none)=z:=by rw[List.getD_eq_getElem?_getD,z1];rfl
    simp only[hz]at this;have hy:(qrP ops n nb lA lS)[j]?=some y:=hy;rw[this]at hy;cases hy;rfl
   subst ah
   have V:∀ t∈qfJ ops o,(F ops.toList lB s0B L ops.size).tm.getD t .dead=(F (zj C.lo ops.toList) lA s qv j).tm.getD t .dead := λ t ht=>by
    rw[H t ht];refine((au qv j (by omega)).2 t).2 λ k q aI I ak aT=>?_;have aS:q∈ops.toList:=wa (i:=k) (by simpa using I);rcases f3 q aS with h0 | h0
    ·rw[ak]at h0;cases h0
    ·rw[aT]at h0;simp only[wV,vH,decide_eq_false_iff_not]at h0;exact h0 ht
   have hw:∀ b,yJ ⟨zj C.lo ops.toList⟩ (F (zj C.lo ops.toList) lA s qv j).tm o=some b->yJ ops (F ops.toList lB s0B L ops.size).tm o=some b := λ b M=>by
    rw[qpt V];have a0:jd o=o:=by unfold jd;rw[f2]
    exact qo3 (by rw[a0];exact M)
   rcases z2 with⟨f,v⟩ | ⟨f,v⟩
   ·refine .inl ⟨hw _ f,?_⟩
    have X:=qtz (C:=C) (ex:=ex) (op:=o.op) (σ := (F ops.toList lB s0B L ops.size).σ) (qrN (xs:=o.op.operands.toList) λ t ht=>V t (by
     simp only[qfJ,ww];exact .inl (.inr ht)))
    rw[X];obtain⟨x,zz⟩:=y;cases zz with
    | none=>exact qAX f1 (qnf (by omega) aD) v
    | some σ'=>have:=lA_σ hn.symm hT.recd j _ ap z1;cases this
   ·exact .inr ⟨hw _ f,v⟩
  ·obtain⟨i,rfl⟩:∃ i,j=n+i:=⟨j-n,by omega⟩
   have a8:i<(ops.toList.drop n).length:=by omega
   obtain⟨z,z1,z2,z3⟩:=e3 i o (by rw[List.getElem?_drop];simpa using g)
   have ah:y=z:=by
    have:lB[n+i]?=lS[i]?:=qtE;rw[this,z1]at hy;cases hy;rfl
   subst ah;rw[<- T i (by omega)]at z2
   have aa:(F ops.toList lB s0B L ops.size).σ = (F ops.toList lB s0B qv (n+i)).σ := by
    have aG:∀ m,n<=m->m<n+i->L m=true := λ m aF am=>by
     rcases an (n+i) o g (by omega) m am with M | ⟨M,_⟩
     ·exact qpT hd (n+i) o g hp M
     ·omega
    have aq:∀ m,n+i<m->m<ops.size->L m=false := λ m aF am=>by
     obtain⟨q,I⟩:=j9 (ops:=ops) (k:=m) am;cases a2:L m with
     | false=>rfl
     | true =>
       rcases an m q I (by omega) (n+i) aF with M | ⟨M,_⟩
       ·have:=qpT hd m q I (hd m q I a2) M;rw[hL]at this;cases this
       ·omega
    have k1:∀ m,m<=i->(F ops.toList lB s0B L (n+m)).σ = (F ops.toList lB s0B qv (n+m)).σ := by
     intro m
     induction m with
     | zero=>intro _;rw[wP,qiM E n (wb _),qiM E n (wb _)]
     | succ m ih =>
       intro aH;obtain⟨q,I⟩:=j9 (ops:=ops) (k:=n+m) (by omega);obtain⟨y',_,_,hF⟩:=qb2 (s0:=s0B) D I;show(F ops.toList lB s0B L (n+m+1)).σ = (F ops.toList lB s0B qv (n+m+1)).σ;rw[hF L,hF qv,if_pos (aG (n+m) (by omega) (by omega)),if_pos (show qv (n+m)=true from rfl)];show turn _ _=turn _ _;rw[ih (by omega)]
    have k2:∀ m,n+i+m<=ops.size->(F ops.toList lB s0B L (n+i+m)).σ = (F ops.toList lB s0B L (n+i)).σ := by
     intro m
     induction m with
     | zero=>intro _;rfl
     | succ m ih =>
       intro aH;obtain⟨q,I⟩:=j9 (ops:=ops) (k:=n+i+m) (by omega);obtain⟨y',_,_,hF⟩:=qb2 (s0:=s0B) D I;show(F ops.toList lB s0B L (n+i+m+1)).σ = _
       have hf:L (n+i+m)=false:=by
        cases m with
        | zero=>exact hL
        | succ m=>exact aq _ (by omega) (by omega)
       rw[hF L,hf];simp only[vR,if_false];exact ih (by omega)
    have:=k2 (ops.size-(n+i)) (by omega);rw[show n+i+(ops.size-(n+i))=ops.size by omega]at this;rw[this,k1 i (wb _)]
   have ax:=qpt (ops:=ops) (o:=o) H
   have X:=qtz (C:=C) (ex:=ex) (op:=o.op) (σ := (F ops.toList lB s0B L ops.size).σ) (qrN (xs:=o.op.operands.toList) λ t ht=>H t (by
    simp only[qfJ,ww];exact .inl (.inr ht)))
   rcases z2 with⟨f,v⟩ | ⟨f,v⟩
   ·refine .inl ⟨by rw[ax];exact f,?_⟩;rw[X,aa];exact v
   ·exact .inr ⟨by rw[ax];exact f,v⟩
 refine wp_region_any hC.mixed ?_;refine qPl hC hx hT hk Z hz (w0:=w) hn.symm ops.size _ Γ _ a (λ _=>0) (by simp) (by rw[xp,vC];simp) (λ i _=>p i) ?_ ?_ ?_ ?_ (wb _) ?_
 ·intro i q a5 ac;exfalso;have ac:(Array.replicate ops.size false).getD i false=true:=ac;rw[p]at ac;cases ac
 ·rw[aN];exact hi.drew
 ·rw[aN];exact ht
 ·exact⟨λ k o e d h=>(by rw[p]at h;cases h),λ k o e d u h=>(by rw[p]at h;cases h),λ k k' o o' h=>(by rw[p]at h;cases h)⟩
 ·intro av c ag w1 a1 aO x1 x2 x3 x4 x5 x6 x7 x8 x9 a4 aQ;have aP:Ext Γ w ag w1:=(Ext.drew Γ w).trans x6;have r:∀(k:Nat) (o:Oper),k<n->ops[k]?=some o->yr o=true->c.getD k false=true := λ k o K A B=>x4 k o K A (by unfold qeJ;rw[B];simp);have U:ql3 P ag w w1 ops (λ k=>0<=k/\k<n) a1 aO:=⟨λ k o e d hh f v=>x9.blk k o e d (r k o hh.2 f (by simp[yr,v])) f v,λ k o e d u hh f v=>x9.tmp k o e d u (r k o hh.2 f (by simp[yr,v])) f v,λ k k' o o' hh aZ f v g3 g4=>x9.inj k k' o o' (r k o hh.2 f g3) (r k' o' aZ.2 v g4) f v g3 g4⟩
  rw[W _ _ (wb _)]at x7;obtain⟨aw,c0,c1,c2,c3,c4⟩:=qqP hC (n:=n) (nb:=nb) (ad:=aO) (ops.toList.take n) 0 s1 G s.σ ag ai R hm hg aC ae x7 U aP
  have aM:F ops.toList lB s0B (λ i=>c.getD i false) ops.size=F ops.toList lB s0B (λ i=>c.getD i false) n:=by
   have:=qIe (ops:=ops) (lB:=lB) (s0B:=s0B) (L := λ i=>c.getD i false) (n:=n) x3 (ops.size-n);rw[show n+(ops.size-n)=ops.size by omega]at this;exact this
  have af:(F ops.toList lB s0B (λ i=>c.getD i false) ops.size).σ = G.σ := by rw[aM];exact qiM E n (wb _)
  refine qFR hC hx (l:=lB) (s0:=s0B) (Good := λ L=>∀(i:Nat) (q:Oper),i<n->ops[i]?=some q->qeJ ops.toList q=false->L i=true) (λ L j hg i q K A B=>by simp[hg i q K A B]) aX aj av c aw w1 a1 x1 x2 x5 x4 (by rw[af];exact c2) ?_ ?_
  ·-- the slots
   rw[aM];obtain⟨b1,b2⟩:=au (λ i=>c.getD i false) n (wb _);have aA:RepL aw (F (zj C.lo ops.toList) lA s (λ i=>c.getD i false) n).tm a1.tmps.toList:=waG c0 x8;refine⟨by rw[b1];exact aA.len,λ t x u hx hu=>?_⟩;have R:=getElem?_lt hx;have O:(F ops.toList lB s0B (λ i=>c.getD i false) n).tm.getD t .dead=x:=by rw[List.getD_eq_getElem?_getD,hx];rfl
   by_cases J:∃(k:Nat) (o:Oper),k<n/\ops[k]?=some o/\yr o=true/\o.dst=some t
   ·obtain⟨k,o,K,A,B,N⟩:=J;rw[(b2 t).1 k o ⟨K,r k o K A B⟩ A B N,if_pos (by rw[<- b1];exact R)]at O;obtain⟨e,al⟩:=qiF B;have hp:=U.tmp k o e t u ⟨we _,K⟩ A al N (by simpa using hu);rw[<- O,hp];exact c4 k o (we _) K A B
   ·rw[(b2 t).2 λ k o aI A B N=>J ⟨k,o,aI.1,A,B,N⟩]at O;have az:t<(F (zj C.lo ops.toList) lA s (λ i=>c.getD i false) n).tm.length:=by rw[<- b1];exact R
    rw[List.getD_eq_getElem?_getD,List.getElem?_eq_getElem az]at O;exact aA.rep t x u (by rw[List.getElem?_eq_getElem az];exact congrArg some O) hu
  ·intro Γ' w' a' f v g3 g4 g5;rw[aL]at v g3 g4;rw[af]at g4;exact I Γ' w' a' (c1.trans f) v g3 (c3.trans g4) (by rw[g5,aQ])
end
end Go.AmZ
namespace Go.AmZ
open Go Go.RowKit
def qLk:AV->Bool
 | .rpt _ _ _ _=>true
 | .ept _ _=>true
 | _=>false
theorem qHz{o:Oper}{a:Tmp × Operand}(h:stP o=some a):(∃ t,o.op = .store t (.tmp a.1) a.2)/\o.guard=none/\o.dst=none:=by
 grind [stP]
theorem qOQ{o:Oper}{d:Tmp}(h:ixP o=some d):(∃ t x i,o.op = .indexAddr t x i)/\o.guard=none/\o.dst=some d:=by
 grind [ixP]
theorem qzB:∀{m b:Nat},qtG m b=true->∀ i,i<m->b.testBit i=true
 | 0,_,_,i,a=>absurd a (wL _)
 | m+1,b,h,i,a=>by
   simp only[qtG,wd]at h;rcases Nat.lt_succ_iff_lt_or_eq.1 a with a | rfl
   ·exact qzB h.2 i a
   ·exact h.1
theorem qE3{ops:Array Oper}{f:Bool}{b:Tmp}(h:qra ops f=some b):f=true/\∃ p o q d g c,qhZ ops=[p,o,q]/\ixP p=some d/\stP o=some (d,g)/\stP q=some (b,c)/\b≠d/\qF8 d c=true/\qF3 (JK ops.toList []) (ops.toList.length-3) p o q=true:=by
 unfold qra at h;split at h
 ·refine⟨rfl,?_⟩;unfold qPh at h;split at h
  ·rename_i p o q m;split at h
   ·rename_i d a b' s r n;split at h
    ·rename_i e;cases h;simp only[wd,wV]at e;obtain⟨⟨i,l,k⟩,j⟩:=e;have e1:a.1=d:=wj i;grind
    ·cases h
   ·cases h
  ·cases h
 ·cases h
section
variable {P:Program} {C:Cfg} {Γ : Gh} {σ : St} {w:World} {ops pre:Array Oper} {ex:Jc} {l:List (AV × Option St)} {s0:S}
theorem qKr{tm:List AV}{σ':St}{t:TypeId}{a:Tmp}{v:Operand}{b off:Nat}{x:AV}{z:Option St}(h:opA C ex tm σ (.store t (.tmp a) v)=some (x,z))(l:tm.getD a .dead = .ptr b off) :
  ∃ cs,z=some { σ with bx := σ.bx.set b cs,wr:=b :: σ.wr }/\∀(c:List AV) (τ : St),aev c (.tmp a)=aev tm (.tmp a)->aev c v=aev tm v -> τ.bx = σ.bx->opA C ex c τ (.store t (.tmp a) v)=some (x,some { τ with bx := τ.bx.set b cs,wr:=b :: τ.wr }):=by
 have j:aev tm (.tmp a) = .ptr b off:=l;simp only[opA,qc,j]at h;cases i:C.ty t with
 | none=>rw[i]at h;cases h
 | some d =>
   rw[i]at h;simp only at h;cases f : σ.bx[b]? with
   | none=>rw[f]at h;cases h
   | some cs =>
     rw[f]at h;simp only at h;split at h<;>cases h;rename_i k;refine⟨_,rfl,λ c τ n m g=>?_⟩;have e : τ.bx[b]?=some cs:=by rw[g];exact f
     simp only[opA,qc,n,m,j,i,e,k]
theorem qKB{tm:List AV}{t:TypeId}{u i:Operand}{x:AV}{z:Option St}(b:qxe (aev tm u)=false)(h:opA C ex tm σ (.indexAddr t u i)=some (x,z)) :
  z=none/\qLk x=true/\∀ τ : St,τ.rw = σ.rw->opA C ex tm τ (.indexAddr t u i)=some (x,none):=by
 have c:∀ τ : St,τ.rw = σ.rw->opA C ex tm τ (.indexAddr t u i)=some (x,z) := λ τ a=>by
  rw[<- h];simp only[opA,qc,a]
 have e:z=none/\qLk x=true:=by
  simp only[opA,qc]at h
  repeat' split at h
  all_goals first | (cases h;done) | (cases h;exact⟨rfl,rfl⟩) | (rename_i d _ _;rw[d]at b;cases b) | (exfalso;simp_all [qxe];done)
 grind
theorem qNO{tm:List AV}{t:TypeId}{a:Tmp}{v:Operand}{y:AV}{x:AV}{z:Option St}(h:opA C ex tm σ (.store t (.tmp a) v)=some (x,z))(o:tm.getD a .dead=y)(n:qLk y=true) :
  ∃ r R,z=some { σ with rw := σ.rw.set r R,wrr:=r :: σ.wrr }/\∀ τ : St,τ.rw = σ.rw->opA C ex tm τ (.store t (.tmp a) v)=some (x,some { τ with rw := τ.rw.set r R,wrr:=r :: τ.wrr }):=by
 have f:aev tm (.tmp a)=y:=o;cases y with
 | rpt k m l j =>
   simp only[opA,qc,f]at h;cases g:C.ty t with
   | none=>rw[g]at h;cases h
   | some d =>
     rw[g]at h;simp only at h;cases i : σ.rw[k]? with
     | none=>rw[i]at h;cases h
     | some R =>
       rw[i]at h;simp only at h;cases b:qsv R m l j d.size (cellsOf (aev tm v))with
       | none=>rw[b]at h;cases h
       | some R' =>
         rw[b]at h;cases h;refine⟨_,_,rfl,λ τ c=>?_⟩;have e : τ.rw[k]?=some R:=by rw[c];exact i
         simp only[opA,qc,f,g,e,b]
 | ept p l =>
   simp only[opA,qc,f]at h;grind
 | _=>cases n
theorem qBS{tm:List AV}{o:Oper}{b:Bool}(a:∀(i:Nat) (q:Oper),pre[i]?=some q->ops[i]?=some q)(h:yJ pre tm o=some b):yJ ops tm o=some b:=by
 grind [yJ]
def g3(f e c d b a:S):Bool->Bool->Bool->S
 | true,true,true=>a
 | true,true,false=>b
 | true,false,_=>d
 | false,true,true=>c
 | false,true,false=>e
 | false,false,_=>f
def G3(pre:Array Oper)(l:List (AV × Option St))(s0 e c d b a:S)(L:Nat->Bool):S:=g3 (F pre.toList l s0 L pre.size) e c d b a (L (pre.size+2)) (L pre.size) (L (pre.size+1))
theorem qaN{h f g e d:S}{L:Nat->Bool}{a b c:Bool}(k:L (pre.size+2)=a)(j:L pre.size=b)(i:L (pre.size+1)=c):G3 pre l s0 h f g e d L=g3 (F pre.toList l s0 L pre.size) h f g e d a b c:=by
 unfold G3;rw[k,j,i]
theorem qvG{tm:List AV}{t:TypeId}{a:Tmp}{v:Operand}{y:AV × Option St}(h:opA C ex tm σ (.store t (.tmp a) v)=some y):a<tm.length:=by
 apply wac;intro c
 have b:aev tm (.tmp a) = .dead:=by
  show tm.getD a .dead = .dead;grind
 have:opA C ex tm σ (.store t (.tmp a) v)=none:=by
  simp only[opA,qc,b];cases C.ty t<;>rfl
 rw[this]at h;cases h
theorem qM9{tm:List AV}{d:Tmp}{x:AV}{v:Operand}(h:qF8 d v=true):aev (tm.set d x) v=aev tm v:=by
 cases v with
 | tmp t =>
   have a:d≠t := λ b=>by rw[b]at h;simp[qF8]at h
   show(tm.set d x).getD t .dead=tm.getD t .dead;grind
 | _=>rfl
theorem qHu(hC:yv P C)(hx:qdS P ex){id:Nat}{s g s':S}{b:Tmp}(aQ:qra ops true=some b)(hk:qbY C.lo s.tm (qcI ops) true=true)(h1:zV C ex (qcI ops) true (qcI ops).toList s=some g)(aa:quV g.tm ops b=true)
  (h2:zV C ex ops true (qhZ ops) g=some s') {a:Act} {Q:Exit->Act->World->Prop} (hi:Inv Γ s.σ w) (ht:zx Γ s.tm a)
  (hq:∀ Γ' w' a',Ext Γ w Γ' w'->Inv Γ' s'.σ w'->zx Γ' s'.tm a'->qX s.σ s'.σ -> a'.defers=a.defers->Q .normal a' w'):(Code.region id ops true).wp P Q a w:=by
 obtain⟨_,p,o,q,d,v6,v7,ar,aS,aT,aR,a8,aG,aF⟩:=qE3 aQ;obtain⟨⟨t5,u5,i5,N⟩,aX,aw⟩:=qOQ aS;obtain⟨⟨t6,Y⟩,aW,av⟩:=qHz aT;obtain⟨⟨t7,M⟩,aV,au⟩:=qHz aR;unfold quV at aa;rw[wd]at aa;obtain⟨aa,J⟩:=aa
 have J:qxe (aev g.tm u5)=false:=by
  grind [qFX]
 simp only[qF3,wd,wv]at aF;obtain⟨k1,k2,k3,k4,k5,k6⟩:=aF;obtain⟨pre,af⟩:∃ pre,pre=qcI ops:=⟨_,rfl⟩
 rw[<- af]at hk h1
 have aJ:ops.toList.length=(ops.toList.length-3)+3:=by
  have:(qhZ ops).length=3:=by rw[ar];rfl
  grind [qhZ]
 have aD:pre.size=ops.toList.length-3:=by
  rw[af];show(ops.toList.take (ops.toList.length-3)).toArray.size=_;grind
 have X:ops.toList=pre.toList++[p,o,q]:=by
  rw[af,<- ar];exact(kz _ _).symm
 rw[<- aD]at k1 k2 k3 k4 k5 k6;obtain⟨m,u⟩:∃ m,m=pre.size:=⟨_,rfl⟩
 have aI:m=pre.toList.length:=by rw[u,wM]
 rw[<- u]at k1 k2 k3 k4 k5 k6;have am:ops.size=m+3:=by rw[<- wM,aJ,u,aD]
 have ae:∀ i r,pre[i]?=some r->ops[i]?=some r := λ i r hr=>by
  have hi:i<pre.toList.length:=by rw[wM];exact(Array.getElem?_eq_some_iff.1 hr).1
  rw[<- Array.getElem?_toList,X,List.getElem?_append_left hi,Array.getElem?_toList];exact hr
 have an:∀ i r,i<m->ops[i]?=some r->pre[i]?=some r := λ i r hi hr=>by
  grind
 have ay:∀ n,ops[m+n]?=[p,o,q][n]? := λ n=>by
  rw[<- Array.getElem?_toList,X,List.getElem?_append_right (by rw[<- aI];exact kF _ _),<- aI,ky]
 have ai:ops[m]?=some p:=ay 0;have aj:ops[m+1]?=some o:=ay 1;have ah:ops[m+2]?=some q:=ay 2;obtain⟨l,l1,l2,l3,l4⟩:=qjs pre.toList s g h1;have hT:qdU C ex pre l s:=qrU l3 l4;rw[wM]at l2;have aK:qb1 C.lo s.tm pre=true:=hk;have O:∀ tm,yJ ops tm p=some true := λ tm=>by unfold yJ;rw[aX]
 have T:∀ tm,yJ ops tm o=some true := λ tm=>by unfold yJ;rw[aW]
 have I:∀ tm,yJ ops tm q=some true := λ tm=>by unfold yJ;rw[aV]
 cases aE:g.tm.getD b .dead with
 | ptr W off =>
   have ax:∀ x,(g.tm.set d x).getD b .dead = .ptr W off := λ x=>by
    grind
   rw[ar]at h2
   obtain⟨H,x6,ac,x7,ap,y5,y6,y7,rfl⟩:∃ H x6 ac x7 ap,opA C ex g.tm g.σ p.op=some (H,none)/\opA C ex (g.tm.set d H) g.σ o.op=some (x6,some ac)/\opA C ex (g.tm.set d H) ac q.op=some (x7,some ap)/\s'=⟨g.tm.set d H,ap⟩:=by
    simp only[zV,O,T,I]at h2;split at h2<;>try cases h2
    ·rename_i H e5;rw[aw]at h2;simp only[qcm]at h2;have aq:=(qKB J (by rw[N]at e5;exact e5)).2.1;split at h2<;>try cases h2
     ·rename_i x6 e6;have e6:=e6;rw[Y]at e6;have ag:=qvG e6;rw[wJ]at ag;have hv:(g.tm.set d H).getD d .dead=H:=by rw[List.getD_eq_getElem?_getD,List.getElem?_set_self ag];rfl
      obtain⟨_,_,h,_⟩:=qNO e6 hv aq;cases h
     ·rename_i x6 ac e6;split at h2<;>try cases h2
      rw[av]at h2;simp only at h2;split at h2<;>try cases h2
      ·rename_i x7 e7;obtain⟨_,h,_⟩:=qKr (σ':=ac) (by rw[M]at e7;exact e7) (ax H);cases h
      ·grind
    ·rename_i H a3 e5;have:=(qKB J (by rw[N]at e5;exact e5)).1;cases this
   rw[N]at y5;rw[Y]at y6;rw[M]at y7;obtain⟨_,aq,g5⟩:=qKB J y5;have ag:=qvG y6;rw[wJ]at ag;have aP:(g.tm.set d H).getD d .dead=H:=by rw[List.getD_eq_getElem?_getD,List.getElem?_set_self ag];rfl
   obtain⟨r,R,z6,g6⟩:=qNO y6 aP aq;cases z6;obtain⟨cs,z7,g7⟩:=qKr (σ':=g.σ) y7 (ax H);cases z7
   have eb:aev g.tm (.tmp b)=aev (g.tm.set d H) (.tmp b):=by
    show g.tm.getD b .dead=(g.tm.set d H).getD b .dead;rw[ax,aE]
   have ev:aev g.tm v7=aev (g.tm.set d H) v7:=(qM9 aG).symm;obtain⟨B,al⟩:∃ B:S,B=⟨g.tm.set d H,g.σ⟩:=⟨_,rfl⟩
   obtain⟨v,ak⟩:∃ v:S,v=⟨g.tm.set d H,{ g.σ with rw:=g.σ.rw.set r R,wrr:=r::g.σ.wrr }⟩:=⟨_,rfl⟩
   obtain⟨D,az⟩:∃ D:S,D=⟨g.tm,{ g.σ with bx:=g.σ.bx.set W cs,wr:=W::g.σ.wr }⟩:=⟨_,rfl⟩
   obtain⟨t,Z⟩:∃ t:S,t=⟨g.tm.set d H,{ g.σ with bx:=g.σ.bx.set W cs,wr:=W::g.σ.wr }⟩:=⟨_,rfl⟩
   obtain⟨f,U⟩:∃ f:S,f=⟨g.tm.set d H,{ g.σ with rw:=g.σ.rw.set r R,wrr:=r::g.σ.wrr,bx:=g.σ.bx.set W cs,wr:=W::g.σ.wr }⟩:=⟨_,rfl⟩
   have a5:qbZ C ex ops p g (H,none) := .inl ⟨O _,by rw[N];exact y5⟩;have a2:qbZ C ex ops p D (H,none) := .inl ⟨O _,by rw[N,az];exact g5 _ rfl⟩;have a6:qbZ C ex ops o B (x6,some { g.σ with rw:=g.σ.rw.set r R,wrr:=r::g.σ.wrr }) := .inl ⟨T _,by rw[Y,al];exact y6⟩;have a1:qbZ C ex ops o t (x6,some { g.σ with rw:=g.σ.rw.set r R,wrr:=r::g.σ.wrr,bx:=g.σ.bx.set W cs,wr:=W::g.σ.wr }) := .inl ⟨T _,by rw[Y,Z];exact g6 _ rfl⟩;have a7:qbZ C ex ops q g (x7,some { g.σ with bx:=g.σ.bx.set W cs,wr:=W::g.σ.wr }) := .inl ⟨I _,by rw[M];exact g7 _ _ eb ev rfl⟩;have a0:qbZ C ex ops q B (x7,some { g.σ with bx:=g.σ.bx.set W cs,wr:=W::g.σ.wr }) := .inl ⟨I _,by rw[M,al];exact g7 _ _ rfl rfl rfl⟩;have aM:qbZ C ex ops q v (x7,some { g.σ with rw:=g.σ.rw.set r R,wrr:=r::g.σ.wrr,bx:=g.σ.bx.set W cs,wr:=W::g.σ.wr }) := .inl ⟨I _,by rw[M,ak];exact y7⟩;have ab:∀{L:Nat->Bool} {n j:Nat} {o':Oper},qd7 ops L->ops[j]?=some o'->(∀ e∈jN o',L e=true)->qtG n ((JK ops.toList []).getD j 0)=true->∀ i,i<n->L i=true := λ hd ho hp hb i hi=>qpT hd _ _ ho hp (qzB hb i hi);have ao:∀{L:Nat->Bool},(∀ i,i<m->L i=true)->F pre.toList l s L pre.size=g := λ h=>by rw[<- l2];exact qAO _ λ i hi=>h i (by rw[u];exact hi)
   have aZ:∀ k,F pre.toList l s (λ i=>(Array.replicate ops.size false).getD i false) k=s:=by
    intro k
    induction k with
    | zero=>rfl
    | succ k ih =>
      simp only[F]
      have:(Array.replicate ops.size false).getD k false=false:=by
       rw[wK,Array.getElem?_replicate];split<;>rfl
      rw[this];split
      ·rename_i hf;cases hf
      ·exact ih
   have ad:∀ i,(Array.replicate ops.size false).getD i false=false := λ i=>by
    rw[wK,Array.getElem?_replicate];split<;>rfl
   have aC:G3 pre l s B v D t f (λ i=>(Array.replicate ops.size false).getD i false)=s:=by
    rw[qaN (ad _) (ad _) (ad _)];exact aZ _
   have aL:G3 pre l s B v D t f qv=f:=qaN (a:=true) (b:=true) (c:=true) rfl rfl rfl;have A:∀(L:Nat->Bool) (j i:Nat),i≠j->(decide (i=j)||L i)=L i := λ L j i h=>by rw[decide_eq_false h,xR]
   have E:∀(L:Nat->Bool) (j:Nat),(decide (j=j)||L j)=true := λ L j=>by rw[decide_eq_true rfl,xA]
   refine wp_region_any hC.mixed ?_;refine qE5 (G:=G3 pre l s B v D t f) (Good := λ _=>True) hC hx (λ _ _ _=>trivial) (λ j o' z e he=>?_) (λ L K=>?_) (λ L j o' hd _ z K hp=>?_) ops.size _ Γ _ a (by simp) (by rw[xp,vC];simp) ?_ trivial ?_ ?_ ?_
   ·have aU:j<m+3:=by rw[<- am];exact(Array.getElem?_eq_some_iff.1 z).1
    by_cases hj:j<m
    ·exact(qi7 aK).1 j o' (an j o' hj z) e he
    ·obtain rfl | rfl | rfl:j=m\/j=m+1\/j=m+2:=by omega
     ·rw[ai]at z;cases z;exact kO (k1 e he)
     ·rw[aj]at z;cases z;exact kO (k2 e he)
     ·rw[ah]at z;cases z;have:=kO (k3 e he);omega
   ·rw[aL];exact qaN (a:=true) (b:=true) (c:=true) (K _ (by omega)) (K _ (by omega)) (K _ (by omega))
   ·have aU:j<m+3:=by rw[<- am];exact(Array.getElem?_eq_some_iff.1 z).1
    have d1:L (m+1)=true->L m=true := λ h=>ab hd aj (hd (m+1) o aj h) k5 m (xu m);by_cases hj:j<m
    ·have aH:=an j o' hj z
     have n5:L m=false:=by
      cases aA:L m with
      | false=>rfl
      | true=>rw[ab hd ai (hd m p ai aA) k4 j hj]at K;cases K
     have n7:L (m+2)=false:=by
      cases aA:L (m+2)with
      | false=>rfl
      | true=>rw[ab hd ah (hd (m+2) q ah aA) k6 j hj]at K;cases K
     have aY:qd7 pre L := λ i r hr hi e he=>hd i r (ae i r hr) hi e he;obtain⟨y,aO,aN⟩:=qtI hT aK aY aH K hp
     have e1:G3 pre l s B v D t f L=F pre.toList l s L pre.size:=by
      exact qaN (a:=false) (b:=false) (c:=L (pre.size+1)) (by rw[<- u];exact n7) (by rw[<- u];exact n5) rfl
     have V:G3 pre l s B v D t f (λ i=>decide (i=j)||L i)=F pre.toList l s (λ i=>decide (i=j)||L i) pre.size:=by
      exact qaN (L := λ i=>decide (i=j)||L i) (a:=false) (b:=false) (c:=_) (by show(decide (_=j)||L _)=false;rw[A _ _ _ (by omega),<- u];exact n7) (by show(decide (_=j)||L _)=false;rw[A _ _ _ (by omega),<- u];exact n5) rfl
     rw[e1,V];refine⟨y,?_,aN⟩;rcases aO with⟨w1,w2⟩ | ⟨w1,w2⟩
     ·exact .inl ⟨qBS ae w1,w2⟩
     ·exact .inr ⟨qBS ae w1,w2⟩
    ·obtain rfl | rfl | rfl:j=m\/j=m+1\/j=m+2:=by omega
     ·rw[ai]at z;cases z;have aB:=ab hd ai hp k4
      have n6:L (j+1)=false:=by
       cases h:L (j+1)with
       | false=>rfl
       | true=>rw[d1 h]at K;cases K
      cases hn:L (j+2)with
      | false =>
        have e1:G3 pre l s B v D t f L=g:=by
         exact(qaN (a:=false) (b:=false) (c:=false) (by rw[<- u];exact hn) (by rw[<- u];exact K) (by rw[<- u];exact n6)).trans (ao aB)
        have V:G3 pre l s B v D t f (λ i=>decide (i=j)||L i)=B :=
         qaN (L := λ i=>decide (i=j)||L i) (a:=false) (b:=true) (c:=false) (by rw[<- u];show(decide (_=j)||L _)=false;rw[A _ _ _ (by omega)];exact hn) (by rw[<- u];exact E L j) (by rw[<- u];show(decide (_=j)||L _)=false;rw[A _ _ _ (by omega)];exact n6)
        rw[e1,V];refine⟨_,a5,?_⟩;rw[al,yE,aw];rfl
      | true =>
        have e1:G3 pre l s B v D t f L=D :=
         qaN (a:=true) (b:=false) (c:=false) (by rw[<- u];exact hn) (by rw[<- u];exact K) (by rw[<- u];exact n6)
        have V:G3 pre l s B v D t f (λ i=>decide (i=j)||L i)=t :=
         qaN (L := λ i=>decide (i=j)||L i) (a:=true) (b:=true) (c:=false) (by rw[<- u];show(decide (_=j)||L _)=true;rw[A _ _ _ (by omega)];exact hn) (by rw[<- u];exact E L j) (by rw[<- u];show(decide (_=j)||L _)=false;rw[A _ _ _ (by omega)];exact n6)
        rw[e1,V];refine⟨_,a2,?_⟩;rw[Z,az,yE,aw];rfl
     ·rw[aj]at z;cases z;have h5:=ab hd aj hp k5 m (xu m);cases hn:L (m+2)with
      | false =>
        have e1:G3 pre l s B v D t f L=B :=
         qaN (a:=false) (b:=true) (c:=false) (by rw[<- u];exact hn) (by rw[<- u];exact h5) (by rw[<- u];exact K)
        have V:G3 pre l s B v D t f (λ i=>decide (i=m+1)||L i)=v :=
         qaN (L := λ i=>decide (i=m+1)||L i) (a:=false) (b:=true) (c:=true) (by rw[<- u];show(decide (_=m+1)||L _)=false;rw[A _ _ _ (by omega)];exact hn) (by rw[<- u];show(decide (_=m+1)||L _)=true;rw[A _ _ _ (by omega)];exact h5) (by rw[<- u];exact E L (m+1))
        rw[e1,V];refine⟨_,a6,?_⟩;rw[ak,al,yE,av];rfl
      | true =>
        have e1:G3 pre l s B v D t f L=t :=
         qaN (a:=true) (b:=true) (c:=false) (by rw[<- u];exact hn) (by rw[<- u];exact h5) (by rw[<- u];exact K)
        have V:G3 pre l s B v D t f (λ i=>decide (i=m+1)||L i)=f :=
         qaN (L := λ i=>decide (i=m+1)||L i) (a:=true) (b:=true) (c:=true) (by rw[<- u];show(decide (_=m+1)||L _)=true;rw[A _ _ _ (by omega)];exact hn) (by rw[<- u];show(decide (_=m+1)||L _)=true;rw[A _ _ _ (by omega)];exact h5) (by rw[<- u];exact E L (m+1))
        rw[e1,V];refine⟨_,a1,?_⟩;rw[U,Z,yE,av];rfl
     ·rw[ah]at z;cases z;have aB:=ab hd ah hp k6;cases h5:L m with
      | false =>
        have n6:L (m+1)=false:=by
         cases h:L (m+1)with
         | false=>rfl
         | true=>rw[d1 h]at h5;cases h5
        have e1:G3 pre l s B v D t f L=g:=by
         exact(qaN (a:=false) (b:=false) (c:=false) (by rw[<- u];exact K) (by rw[<- u];exact h5) (by rw[<- u];exact n6)).trans (ao aB)
        have V:G3 pre l s B v D t f (λ i=>decide (i=m+2)||L i)=D :=
         qaN (L := λ i=>decide (i=m+2)||L i) (a:=true) (b:=false) (c:=false) (by rw[<- u];exact E L (m+2)) (by rw[<- u];show(decide (_=m+2)||L _)=false;rw[A _ _ _ (by omega)];exact h5) (by rw[<- u];show(decide (_=m+2)||L _)=false;rw[A _ _ _ (by omega)];exact n6)
        rw[e1,V];refine⟨_,a7,?_⟩;rw[az,yE,au];rfl
      | true =>
        cases h6:L (m+1)with
        | false =>
          have e1:G3 pre l s B v D t f L=B :=
           qaN (a:=false) (b:=true) (c:=false) (by rw[<- u];exact K) (by rw[<- u];exact h5) (by rw[<- u];exact h6)
          have V:G3 pre l s B v D t f (λ i=>decide (i=m+2)||L i)=t :=
           qaN (L := λ i=>decide (i=m+2)||L i) (a:=true) (b:=true) (c:=false) (by rw[<- u];exact E L (m+2)) (by rw[<- u];show(decide (_=m+2)||L _)=true;rw[A _ _ _ (by omega)];exact h5) (by rw[<- u];show(decide (_=m+2)||L _)=false;rw[A _ _ _ (by omega)];exact h6)
          rw[e1,V];refine⟨_,a0,?_⟩;rw[Z,al,yE,au];rfl
        | true =>
          have e1:G3 pre l s B v D t f L=v :=
           qaN (a:=false) (b:=true) (c:=true) (by rw[<- u];exact K) (by rw[<- u];exact h5) (by rw[<- u];exact h6)
          have V:G3 pre l s B v D t f (λ i=>decide (i=m+2)||L i)=f :=
           qaN (L := λ i=>decide (i=m+2)||L i) (a:=true) (b:=true) (c:=true) (by rw[<- u];exact E L (m+2)) (by rw[<- u];show(decide (_=m+2)||L _)=true;rw[A _ _ _ (by omega)];exact h5) (by rw[<- u];show(decide (_=m+2)||L _)=true;rw[A _ _ _ (by omega)];exact h6)
          rw[e1,V];refine⟨_,aM,?_⟩;rw[U,ak,yE,au];rfl
   ·intro i r hr a4;grind
   ·rw[aC];exact hi.drew
   ·rw[aC];exact ht
   ·intro Γ' w' a' g1 g2 g3 g4 g5;rw[aC]at g4;rw[aL,U]at g2 g3 g4;exact hq Γ' w' a' ((Ext.drew Γ w).trans g1) g2 g3 g4 g5
 | _=>rw[aE]at aa;cases aa
end
end Go.AmZ
namespace Go.AmZ
open Go Go.RowKit
section
variable {P:Program} {C:Cfg} {Γ : Gh} {σ : St} {w:World} {ops:Array Oper} {ex:Jc} {l:List (AV × Option St)} {s0:S}
theorem qPm(q:yv P C)(k:qdS P ex)(o:qdU C ex ops l s0)(j:qb1 C.lo s0.tm ops=true){Q:Exit->Act->World->Prop}:∀(d:Nat) (c:Array Bool) (Γ : Gh) (w:World) (a:Act),c.size=ops.size->c.toList.countP (λ b => !b)=d->qd7 ops (λ i=>c.getD i false) ->
  Inv Γ (F ops.toList l s0 (λ i=>c.getD i false) ops.size).σ w->zx Γ (F ops.toList l s0 (λ i=>c.getD i false) ops.size).tm a ->
  (∀ Γ' w' h,Ext Γ w Γ' w'->Inv Γ' (F ops.toList l s0 qv ops.size).σ w'->zx Γ' (F ops.toList l s0 qv ops.size).tm h->qX (F ops.toList l s0 (λ i=>c.getD i false) ops.size).σ (F ops.toList l s0 qv ops.size).σ -> h.defers=a.defers->Q .normal h w') ->
  wpAny P .any ops Q d c a w :=
 λ d c Γ w a e g f=>qFR q k (Good := λ _=>True) (λ _ _ _=>trivial) (qi7 j).1 (λ _ _ _ f _ n p m=>qtI o j f n p m) d c Γ w a e g f trivial
theorem qJp(g:yv P C)(m:qdS P ex){id:Nat}{b:Bool}{s d:S}(f:qbY C.lo s.tm ops b=true)(h:zV C ex ops b ops.toList s=some d){a:Act}{Q:Exit->Act->World->Prop}(p:Inv Γ s.σ w)(n:zx Γ s.tm a)
  (o:∀ Γ' w' e,Ext Γ w Γ' w'->Inv Γ' d.σ w'->zx Γ' d.tm e->qX s.σ d.σ -> e.defers=a.defers->Q .normal e w'):(Code.region id ops b).wp P Q a w:=by
 cases b with
 | false =>
   refine wp_region ?_;have:=qBJ g m (ops:=ops) ops.toList 0 s Γ w a (by simp) h p n o;rw[wM,<- List.range_eq_range']at this;exact this
 | true =>
   obtain⟨l,G,r,B,A⟩:=qjs ops.toList s d h;have z:qdU C ex ops l s:=qrU B A;rw[wM]at r;have f:qb1 C.lo s.tm ops=true:=f
   have c:∀ k,F ops.toList l s (λ i=>(Array.replicate ops.size false).getD i false) k=s:=by
    intro k
    induction k with
    | zero=>rfl
    | succ k u =>
      simp only[F]
      have:(Array.replicate ops.size false).getD k false=false:=by
       rw[wK,Array.getElem?_replicate];split<;>rfl
      rw[this];split
      ·rename_i y;cases y
      ·exact u
   refine wp_region_any g.mixed ?_;refine qPm g m z f ops.size _ Γ _ a (by simp) (by rw[xp,vC];simp) ?_ ?_ ?_ ?_
   ·intro i q v x;exfalso
    have:(Array.replicate ops.size false).getD i false=false:=by
     rw[wK,Array.getElem?_replicate];split<;>rfl
    grind
   ·rw[c];exact p.drew
   ·rw[c];exact n
   ·intro Γ' w' e E t g3 j D;rw[c]at j;rw[r]at t g3 j;exact o Γ' w' e ((Ext.drew Γ w).trans E) t g3 j D
def COk(P:Program)(ex:Jc)(c:Code):Prop :=
 ∀ s e b,Qs c=true->ex c s=some (e,b)->∀ Γ w a,Inv Γ s.σ w->zx Γ s.tm a->a.defers=[] ->
  c.wp P (λ f d w'=>f=e.toExit/\d.defers=[]/\∃ Γ',Ext Γ w Γ' w'/\Inv Γ' b.σ w'/\zx Γ' b.tm d/\qX s.σ b.σ) a w
theorem qNA{s:S}{a:Act}(g:Inv Γ s.σ w)(f:zx Γ s.tm a)(t:Nat) :
  ∃ Γ',Ext Γ w Γ' w/\Inv Γ' (qcZ s t).σ w/\zx Γ' (qcZ s t).tm a/\qX s.σ (qcZ s t).σ := by
 unfold qcZ;cases v:rsA (s.tm.getD t .dead)with
 | nil=>exact⟨Γ,.refl _ _,g,f,.refl _⟩
 | cons r l =>
   obtain⟨m,h,p,o⟩:=qdh (r::l) g ((r::l)++s.σ.wrr);refine⟨_,qk7 h w,p,?_,qrh (r::l)⟩;have n:Le Γ { Γ with mem:=m }:=(qk7 h w).le;have k:=qyj g n (λ q y=>o q (by rw[<- v];exact y)) (f.get t);have c:RepL { Γ with mem:=m } s.tm a.tmps.toList:=waG n f;refine⟨by rw[wJ];exact c.len,λ i x u b j=>?_⟩;by_cases d:t=i
   ·subst d;rw[List.getElem?_set_self (by have:=getElem?_lt b;simpa using this)]at b;cases b
    have:a.tmps.getD t undef=u:=by
     rw[wK,<- Array.getElem?_toList,j];rfl
    rw[this]at k;exact k
   ·rw[List.getElem?_set_ne d]at b;exact c.rep i x u b j
theorem qEA{a:Act}:∀(ts:List Nat) {s:S} {Γ : Gh},Inv Γ s.σ w->zx Γ s.tm a ->
  ∃ Γ',Ext Γ w Γ' w/\Inv Γ' (qf4 ts s).σ w/\zx Γ' (qf4 ts s).tm a/\qX s.σ (qf4 ts s).σ
 | [],s,Γ,d,c=>⟨Γ,.refl _ _,d,c,.refl _⟩
 | t::ts,s,Γ,d,c=>by
   obtain⟨e,m,l,k,j⟩:=qNA d c t;obtain⟨b,i,h,g,f⟩:=qEA ts l k;exact⟨b,m.trans i,h,g,j.trans f⟩
theorem qNb{b:Code}{n:Nat}(o:∀ m,m<n->COk P (qac C m) b){s:S}{e:Ex}{g:S}(z:Qs b=true)(h:qac C n (.loop b) s=some (e,g)){a:Act}(hi:Inv Γ s.σ w)(ht:zx Γ s.tm a)(I:a.defers=[]) :
  (Code.loop b).wp P (λ A f w'=>A=e.toExit/\f.defers=[]/\∃ Γ',Ext Γ w Γ' w'/\Inv Γ' g.σ w'/\zx Γ' g.tm f/\qX s.σ g.σ) a w:=by
 let J:Nat->Act->World->Prop := λ m d c=>m<=n/\∃ r i,qac C m (.loop b) r=some (e,g)/\Ext Γ w i c/\Inv i r.σ c/\zx i r.tm d/\d.defers=[]/\qX s.σ r.σ
 have j:∀ d c,(∃ m,J m d c)->∃ m,J m d c/\∀ k,J k d c->m<=k:=by
  rintro d c ⟨m,R⟩
  induction m using Nat.strongRecOn with
  | _ m Z =>
    by_cases z:∃ k,k<m/\J k d c
    ·obtain⟨k,H,G⟩:=z;exact Z k H G
    ·exact⟨m,R,λ k L=>wad λ F=>z ⟨k,F,L⟩⟩
 classical
 let t:Act->World->Nat := λ d c=>if h:∃ m,J m d c then Classical.choose (j d c h)else 0
 have u:∀ d c,(h:∃ m,J m d c)->J (t d c) d c/\∀ k,J k d c->t d c<=k:=by
  intro d c h;grind
 refine wp_loop (λ d c=>∃ m,J m d c) t ⟨n,wb _,s,Γ,h,.refl _ _,hi,ht,I,.refl _⟩ ?_;intro d c L;obtain⟨K,_⟩:=u d c L;obtain⟨v,r,i,T,N,h3,h4,h5,M⟩:=K;generalize R:t d c=m at *;cases m with
 | zero=>simp[qac]at T
 | succ m =>
   simp only[qac,qcJ]at T;obtain⟨B,Y,X,W,V⟩:=qEA (C.pur b) h3 h4
   have U:∀ e1 q,qac C m b (qf4 (C.pur b) r)=some (e1,q)->(e1 = .normal/\qac C m (.loop b) q=some (e,g)\/(e1 ≠ .normal/\e1=e/\q=g)) ->
     b.wp P (Exit.then (λ f w'=>(∃ m,J m f w')/\t f w'<m+1) (λ A f w'=>A=e.toExit/\f.defers=[]/\∃ Γ',Ext Γ w Γ' w'/\Inv Γ' g.σ w'/\zx Γ' g.tm f/\qX s.σ g.σ)) d c:=by
    intro e1 q hb D;refine wp_mono (o m v _ e1 q z hb B c d X W h5) ?_;rintro A f w' ⟨rfl,Q,l,y,O,g3,x⟩;have y:=Y.trans y;have x:=V.trans x;rcases D with⟨rfl,hl⟩ | ⟨E,rfl,rfl⟩
    ·have p:J m f w':=⟨Nat.le_of_succ_le v,q,l,hl,N.trans y,O,g3,Q,M.trans x⟩
     exact⟨⟨m,p⟩,Nat.lt_succ_of_le ((u f w' ⟨m,p⟩).2 m p)⟩
    ·cases e1 with
     | normal=>exact absurd rfl E
     | exit id=>exact⟨rfl,Q,l,N.trans y,O,g3,M.trans x⟩
     | ret=>exact⟨rfl,Q,l,N.trans y,O,g3,M.trans x⟩
   grind
theorem qxS(U:yv P C):∀ n,qdS P (qac C n):=by
 intro n
 induction n using Nat.strongRecOn with
 | _ n V =>
   cases n with
   | zero=>intro c s e J _ h;simp[qac]at h
   | succ n =>
     have j:=V n (xu n);intro c s e J A h Γ w a z v f;cases c with
     | skip =>
       simp only[qac,qcJ,wz,wR]at h;obtain⟨rfl,rfl⟩:=h;exact wp_skip ⟨rfl,f,Γ,.refl _ _,z,v,.refl _⟩
     | label k =>
       simp only[qac,qcJ,wz,wR]at h;obtain⟨rfl,rfl⟩:=h;exact wp_label ⟨rfl,f,Γ,.refl _ _,z,v,.refl _⟩
     | exit id =>
       simp only[qac,qcJ,wz,wR]at h;obtain⟨rfl,rfl⟩:=h;exact wp_exit ⟨rfl,f,Γ,.refl _ _,z,v,.refl _⟩
     | ret =>
       simp only[qac,qcJ,wz,wR]at h;obtain⟨rfl,rfl⟩:=h;exact wp_ret ⟨rfl,f,Γ,.refl _ _,z,v,.refl _⟩
     | region id ops M =>
       simp only[qac,qcJ]at h;split at h
       ·rename_i E;have H:M=true:=by unfold qlM at E;rw[wd]at E;exact E.1
        subst H;split at h<;>try cases h
        rename_i d l;rw[wd,wd]at d;split at h<;>try cases h
        rename_i o;split at h<;>cases h;rename_i F;refine qGK U j d.1 d.2.1 d.2.2 l o F z v ?_;intro Γ' w' N u t g3 q L;exact⟨rfl,by rw[L,f],Γ',u,t,g3,q⟩
       ·split at h
        ·rename_i p K;obtain⟨H,_⟩:=qE3 K;subst H;split at h<;>try cases h
         rename_i d l;split at h<;>cases h;rename_i T o;refine qHu U j K d l T o z v ?_;intro Γ' w' N u t g3 q L;exact⟨rfl,by rw[L,f],Γ',u,t,g3,q⟩
        ·split at h<;>cases h;rename_i d l;refine qJp U j d l z v ?_;intro Γ' w' N u t g3 q L;exact⟨rfl,by rw[L,f],Γ',u,t,g3,q⟩
     | seq x y =>
       simp only[qac,qcJ]at h;simp only[Qs,wd]at A;refine wp_seq ?_;cases D:qac C n x s with
       | none=>rw[D]at h;cases h
       | some r =>
         obtain⟨e1,O⟩:=r;rw[D]at h;refine wp_mono (j x s e1 O A.1 D Γ w a z v f) ?_;rintro e' N w' ⟨rfl,B,g,u,t,g3,q⟩;cases e1 with
         | normal =>
           refine wp_mono (j y O e J A.2 h g w' N t g3 B) ?_;rintro aa ab W ⟨rfl,q0,S,q1,Z,Y,X⟩;exact⟨rfl,q0,S,u.trans q1,Z,Y,q.trans X⟩
         | exit id=>cases h;exact⟨rfl,B,g,u,t,g3,q⟩
         | ret=>cases h;exact⟨rfl,B,g,u,t,g3,q⟩
     | cond c x y =>
       simp only[qac,qcJ]at h;simp only[Qs,wd]at A;have Q:=zx.ev v c;split at h
       ·rename_i I;rw[I]at Q;exact wp_cond_true (zo Q) (j x s e J A.1 h Γ w a z v f)
       ·rename_i I;rw[I]at Q;exact wp_cond_false (zo Q) (j y s e J A.2 h Γ w a z v f)
       ·cases h
     | block id b =>
       simp only[qac,qcJ]at h;simp only[Qs]at A;refine wp_block ?_;cases D:qac C n b s with
       | none=>rw[D]at h;cases h
       | some r =>
         obtain⟨e1,O⟩:=r;rw[D]at h;refine wp_mono (j b s e1 O A D Γ w a z v f) ?_;rintro e' N w' ⟨rfl,B,g,u,t,g3,q⟩;cases e1 with
         | normal=>cases h;exact⟨rfl,B,g,u,t,g3,q⟩
         | ret=>cases h;exact⟨rfl,B,g,u,t,g3,q⟩
         | exit i =>
           simp only[wz,wR]at h;obtain⟨R,rfl⟩:=h;show if i=id then _ else _;split
           ·rename_i G;rw[if_pos G]at R;subst R;exact⟨rfl,B,g,u,t,g3,q⟩
           ·rename_i G;rw[if_neg G]at R;subst R;exact⟨rfl,B,g,u,t,g3,q⟩
     | loop b =>
       exact qNb (n:=n+1) (λ m hm => λ s e J A h=>V m hm b s e J A h) A h z v f
     | _=>simp only[qac,qcJ]at h;cases h
end
end Go.AmZ
namespace Go.AmZ
open Go Go.RowKit
structure PC where
 ty:Nat->Option TD
 pf:Nat->Option (List AV->Option AV)
 sp:Nat->Option (St->List AV->Option (AV × Option St))
 pur:Code->List Nat
 ld:Nat->Bool
def emp:St:=⟨[],[],[],[]⟩
def Q4(x:AV):Bool:=(rb x).isEmpty&&(rr x).isEmpty
def noRefs(xs:List AV):Bool:=xs.all Q4
def JE(p:List AV->Option AV):St->List AV->Option (AV × Option St) := λ σ a =>
 match σ with
 | ⟨[],[],[],[]⟩=>match p a with
   | some v=>some (v,none)
   | none=>none
 | _=>none
def PC.prim(c:PC)(f:Nat):Option (St->List AV->Option (AV × Option St)):=match c.pf f with | some p=>some (JE p) | none=>c.sp f
def PC.raw(c:PC)(f:Nat):Bool:=match c.pf f with | some _=>false | none=>(c.sp f).isSome
def PC.cfg(c:PC):Cfg:=⟨c.ty,λ _=>none,c.prim,c.raw,c.pur,λ f=>c.raw f||c.ld f⟩
def qdp(c:PC)(f:Nat)(σ : St)(a:List AV):Option (AV × Option St) :=
 match c.pf f with
 | some p=>match noRefs (a.map (QN σ.rw))with
   | true=>match p (a.map (QN σ.rw))with
     | some v=>match Q4 v with
       | true=>match qlY v,a.flatMap rsA with
         | true,_=>some (v,none)
         | _,[]=>some (v,none)
         | _,r::l=>some (v,some { σ with rw:=frz σ.rw (r::l),wrr:=(r::l) ++ σ.wrr })
       | false=>none
     | none=>none
   | false=>none
 | none=>match c.sp f with
   | some p=>qal σ a p
   | none=>none
def qpm(c:PC)(tm:List AV)(σ : St)(op:Op):Option (AV × Option St) :=
 match op with
 | .call ⟨.builtin b,a,ts⟩=>jF c.cfg σ b ts (a.toList.map (aev tm))
 | .call ⟨.value g,a,_⟩=>match aev tm g with
   | .fn f d=>qdp c f σ (a.toList.map (aev tm)++d)
   | _=>none
 | .call _=>none
 | op=>qc c.cfg tm σ op
def QP(c:PC)(ops:Array Oper)(b:Bool):List Oper->S->Option S
 | [],s=>some s
 | o::a,s=>match yJ ops s.tm o with
   | some true=>match qpm c s.tm s.σ o.op with
     | some (x,none)=>QP c ops b a ⟨qcm s.tm o.dst x,s.σ⟩
     | some (x,some σ')=>match b && !(yp c.cfg.lo o.op&&qcQ c.cfg ops (ops.size-(a.length+1)) s.tm s.σ o.op)with
       | true=>none
       | false=>QP c ops b a ⟨qcm s.tm o.dst x,σ'⟩
     | none=>none
   | some false=>QP c ops b a ⟨qcm s.tm o.dst qlT,s.σ⟩
   | none=>none
def jq(c:PC)(ex:Jc):Jc
 | .skip,s=>some (.normal,s)
 | .label _,s=>some (.normal,s)
 | .region _ ops d,s=>match qlM ops d with
   | true=>match qjG c.cfg.lo ops.toList&&(qbY c.cfg.lo s.tm ops true&&qbY c.cfg.lo s.tm ⟨zj c.cfg.lo ops.toList⟩ true),QP c ⟨zj c.cfg.lo ops.toList⟩ true (zj c.cfg.lo ops.toList) s with
     | true,some f=>match QP c ops false (alL c.cfg.lo ops.toList) f with
       | some g=>match QP c ops true (qsj c.cfg.lo ops.toList) g with
         | some e=>some (.normal,e)
         | none=>none
       | none=>none
     | _,_=>none
   | false=>match qra ops d with
     | some p=>match qbY c.cfg.lo s.tm (qcI ops) true,QP c (qcI ops) true (qcI ops).toList s with
       | true,some f=>match quV f.tm ops p,QP c ops true (qhZ ops) f with
         | true,some e=>some (.normal,e)
         | _,_=>none
       | _,_=>none
     | none=>match qbY c.cfg.lo s.tm ops d,QP c ops d ops.toList s with
       | true,some e=>some (.normal,e)
       | _,_=>none
 | .seq a b,s=>match ex a s with
   | some (.normal,e)=>ex b e
   | r=>r
 | .cond t x y,s=>match aev s.tm t with
   | .v (.bool true)=>ex x s
   | .v (.bool false)=>ex y s
   | _=>none
 | .block id b,s=>match ex b s with
   | some (.exit i,e)=>some (if i=id then .normal else .exit i,e)
   | r=>r
 | .loop b,s=>match ex b (qf4 (c.pur b) s)with
   | some (.normal,e)=>ex (.loop b) e
   | r=>r
 | .exit id,s=>some (.exit id,s)
 | .ret,s=>some (.ret,s)
 | _,_=>none
def zP(c:PC):Nat->Jc
 | 0 => λ _ _=>none
 | n+1=>jq c (zP c n)
mutual
theorem quf{fb fr:Nat->Nat}:∀ x:AV,rb x=[]->rr x=[]->ren fb fr x=x
 | .v _,_,_=>rfl
 | .dead,_,_=>rfl
 | .sl ..,_,_=>rfl
 | .rs ..,_,h=>by simp[rr]at h
 | .ptr ..,h,_=>by simp[rb]at h
 | .rpt ..,_,h=>by simp[rr]at h
 | .ept ..,_,_=>rfl
 | .fn f cs,h,g=>by rw[ren,qe3 cs (by simpa[rb]using h) (by simpa[rr]using g)]
 | .agg cs,h,g=>by rw[ren,qe3 cs (by simpa[rb]using h) (by simpa[rr]using g)]
 | .tup cs,h,g=>by rw[ren,qe3 cs (by simpa[rb]using h) (by simpa[rr]using g)]
theorem qe3{fb fr:Nat->Nat}:∀ xs:List AV,rbL xs=[]->rrL xs=[]->zd fb fr xs=xs
 | [],_,_=>rfl
 | x::xs,h,g=>by
   simp only[rbL,rrL,wU]at h g;rw[zd,quf x h.1 g.1,qe3 xs h.2 g.2]
end
theorem qfI{x:AV}(h:Q4 x=true):rb x=[]/\rr x=[]:=by
 grind [Q4]
theorem qjh:∀{xs:List AV},noRefs xs=true->rbL xs=[]/\rrL xs=[]
 | [],_=>⟨rfl,rfl⟩
 | x::xs,h=>by
   simp only[noRefs,kC,wd]at h;obtain⟨d,c⟩:=qfI h.1;obtain⟨b,a⟩:=qjh (xs:=xs) h.2;grind [rbL,rrL]
theorem qwC{σ : St}{a:List AV}{p:List AV->Option AV}{v:AV}(i:noRefs a=true)(h:p a=some v)(f:Q4 v=true):qal σ a (λ σ a=>JE p σ a)=some (v,none):=by
 obtain⟨d,c⟩:=qjh i;obtain⟨k,j⟩:=qfI f
 have b:Q7 σ a=[]:=by
  unfold Q7;rw[d];show qoz σ.bx σ.bx.length []=[];cases σ.bx.length with
  | zero=>rfl
  | succ n=>rfl
 have e:qcP σ a=[]:=by
  unfold qcP;rw[b,c];rfl
 unfold qal
 have g:qjg σ a=true:=by
  unfold qjg;rw[b,e,d,c];rfl
 rw[g];simp only;rw[b,e,qe3 a d c];have:qN σ [] []=⟨[],[],[],[]⟩:=rfl;rw[this];simp only[JE,h,qjc];rw[quf v k j]
theorem qLK{c:PC}{ex:Jc}{f:Nat}{σ : St}{a:List AV}{r:AV × Option St}(h:qdp c f σ a=some r):qg9 c.cfg ex σ f a=some r:=by
 unfold qdp at h;split at h
 rotate_left
 ·rename_i g;split at h<;>try cases h
  rename_i p e;have b:c.cfg.raw f=true:=by show c.raw f=true;unfold PC.raw;rw[g,e];rfl
  have d:(λ(σ : St) a=>qeo c.cfg ex σ f a)=p:=by
   funext σ a;unfold qeo;simp only[PC.cfg,PC.prim,g,e]
  grind [qg9,qi3]
 rename_i p g;split at h<;>try cases h
 rename_i i;split at h<;>try cases h
 rename_i v j;split at h<;>try cases h
 rename_i k
 have d:∀ σ : St,(λ(σ : St) a=>qeo c.cfg ex σ f a) = λ σ a=>JE p σ a := λ _=>by
  funext σ a;unfold qeo;simp only[PC.cfg,PC.prim,g]
 have b:c.cfg.raw f=false:=by show c.raw f=false;unfold PC.raw;rw[g]
 unfold qg9 qi3;rw[b];obtain⟨o,n⟩:=qjh i;cases m:a.flatMap rsA with
 | nil =>
   have:r=(v,none):=by
    grind
   subst this;simp only;rw[d σ];exact qwC i j k
 | cons q l =>
   simp only;rw[d σ,qwC i j k];grind [qv4]
theorem qFq{c:PC}{ex:Jc}{tm:List AV}{σ : St}{op:Op}{r:AV × Option St}(h:qpm c tm σ op=some r):opA c.cfg ex tm σ op=some r:=by
 unfold qpm at h;split at h
 ·exact h
 ·rename_i g b ts;split at h<;>try cases h
  rename_i f a d;simp only[opA,qk8,d];exact qLK h
 ·cases h
 ·grind [opA]
theorem qaL{c:PC}{ex:Jc}{ops:Array Oper}{a:Bool}:∀{l:List Oper} {s d:S},QP c ops a l s=some d->zV c.cfg ex ops a l s=some d
 | [],s,d,h=>h
 | o::f,s,d,h=>by
   simp only[QP]at h;simp only[zV];split at h
   ·rename_i e;rw[e];simp only;split at h
    ·rename_i x b;rw[qFq b];exact qaL h
    ·rename_i x σ' b;rw[qFq b];simp only;split at h
     ·cases h
     ·rename_i g;rw[g];exact qaL h
    ·cases h
   ·rename_i e;rw[e];exact qaL h
   ·cases h
theorem qCx{c:PC}:∀{n:Nat} {cd:Code} {s:S} {r:Ex × S},zP c n cd s=some r->qac c.cfg n cd s=some r:=by
 intro n
 induction n with
 | zero=>intro cd s r h;simp[zP]at h
 | succ n o =>
   intro cd s r h;simp only[zP]at h;simp only[qac];cases cd with
   | region id ops m =>
     simp only[jq]at h;simp only[qcJ];split at h
     ·rename_i e;rw[e];simp only;split at h<;>try cases h
      rename_i i g;rw[qaL g,i];simp only;split at h<;>try cases h
      rename_i f;rw[qaL f];simp only;split at h<;>cases h;rename_i k;rw[qaL k]
     ·rename_i e;rw[e];simp only;split at h
      ·rename_i p d;rw[d];simp only;split at h<;>try cases h
       rename_i i g;rw[qaL g,i];simp only;split at h<;>cases h;rename_i l f;rw[qaL f,l]
      ·rename_i d;rw[d];simp only;split at h<;>cases h;rename_i i g;rw[qaL g,i]
   | seq a b =>
     grind [jq,qcJ]
   | cond t x y =>
     grind [jq,qcJ]
   | block id b =>
     grind [jq,qcJ]
   | loop b =>
     simp only[jq]at h;simp only[qcJ];cases j:zP c n b (qf4 (c.pur b) s)with
     | none=>rw[j]at h;cases h
     | some q =>
       rw[j]at h;rw[show qac c.cfg n b (qf4 (c.cfg.pur b) s)=_ from o j];grind
   | _=>exact h
theorem qGB{c:PC}:∀{n:Nat} {cd:Code} {s:S} {r:Ex × S},zP c n cd s=some r->zP c (n+1) cd s=some r:=by
 intro n
 induction n with
 | zero=>intro cd s r h;simp[zP]at h
 | succ n d =>
   intro cd s r h;rw[zP]at h |-
   cases cd with
   | seq a b =>
     grind [jq]
   | cond t x y =>
     grind [jq]
   | block id b =>
     grind [jq]
   | loop b =>
     grind [jq]
   | _=>exact h
theorem qpG{c:PC}{n m:Nat}(a:n<=m){cd:Code}{s:S}{r:Ex × S}(h:zP c n cd s=some r):zP c m cd s=some r:=by
 induction a with
 | refl=>exact h
 | step _ b=>exact qGB b
def Run(c:PC)(cd:Code)(s:S)(K:Ex->S->Prop):Prop:=∃ n e a,zP c n cd s=some (e,a)/\K e a
inductive It where
 | code (c:Code) | blk (id:Nat) | ops (os:Array Oper) (draw:Bool) (rest:List Oper)
def Go(c:PC)(Q:Ex->S->Prop):List It->Ex->S->Prop
 | [],e,s=>Q e s
 | .code cd::k,.normal,s=>Run c cd s λ e b=>Go c Q k e b
 | .code _::k,e,s=>Go c Q k e s
 | .blk id::k,.exit i,s=>Go c Q k (if i=id then .normal else .exit i) s
 | .blk _::k,e,s=>Go c Q k e s
 | .ops f d a::k,.normal,s=>∃ b,QP c f d a s=some b/\Go c Q k .normal b
 | .ops _ _ _::k,e,s=>Go c Q k e s
section
variable {c:PC} {Q:Ex->S->Prop} {k:List It} {tm:List AV} {σ : St} {s:S}
theorem qII{cd:Code}{K:Ex->S->Prop}(h:∀ n,∀ r,jq c (zP c n) cd s=some r↔r=(.normal,s)):Run c cd s K↔K .normal s:=by
 constructor
 ·rintro⟨n,e,f,a,d⟩;cases n with
  | zero=>simp[zP]at a
  | succ n=>have:=(h n _).1 a;cases this;exact d
 ·intro b;exact⟨1,_,_,(h 0 _).2 rfl,b⟩
theorem qOU(e:Ex):Go c Q [] e s=Q e s:=rfl
theorem qLl:Go c Q (.code .skip::k) .normal s=Go c Q k .normal s :=
 propext (qII (c:=c) (s:=s) (cd := .skip) (K := λ e a=>Go c Q k e a) λ n r=>⟨λ h=>by cases h;rfl,λ h=>by rw[h];rfl⟩)
theorem qLd(l:Nat):Go c Q (.code (.label l)::k) .normal s=Go c Q k .normal s :=
 propext (qII (c:=c) (s:=s) (cd := .label l) (K := λ e a=>Go c Q k e a) λ n r=>⟨λ h=>by cases h;rfl,λ h=>by rw[h];rfl⟩)
theorem qMc(id:Nat):Go c Q (.code (.exit id)::k) .normal s=Go c Q k (.exit id) s:=by
 apply propext;constructor
 ·rintro⟨n,e,d,a,b⟩;cases n with
  | zero=>simp[zP]at a
  | succ n=>simp only[zP,jq,wz,wR]at a;obtain⟨rfl,rfl⟩:=a;exact b
 ·intro h;exact⟨1,_,_,rfl,h⟩
theorem qMP:Go c Q (.code .ret::k) .normal s=Go c Q k .ret s:=by
 apply propext;constructor
 ·rintro⟨n,e,d,a,b⟩;cases n with
  | zero=>simp[zP]at a
  | succ n=>simp only[zP,jq,wz,wR]at a;obtain⟨rfl,rfl⟩:=a;exact b
 ·intro h;exact⟨1,_,_,rfl,h⟩
theorem qDO(cd:Code):Go c Q (.code cd::k) .ret s=Go c Q k .ret s:=rfl
theorem qCJ(cd:Code)(i:Nat):Go c Q (.code cd::k) (.exit i) s=Go c Q k (.exit i) s:=rfl
theorem qAq(id:Nat):Go c Q (.blk id::k) .normal s=Go c Q k .normal s:=rfl
theorem qHh(id:Nat):Go c Q (.blk id::k) .ret s=Go c Q k .ret s:=rfl
theorem qEp(id i:Nat):Go c Q (.blk id::k) (.exit i) s=Go c Q k (if i=id then .normal else .exit i) s:=rfl
theorem qPa(a b:Code):Go c Q (.code (.seq a b)::k) .normal s=Go c Q (.code a :: .code b::k) .normal s:=by
 apply propext;show Run c (.seq a b) s (λ e f=>Go c Q k e f)↔Run c a s λ e f=>Go c Q (.code b::k) e f;constructor
 ·rintro⟨n,e,f,d,g⟩;cases n with
  | zero=>simp[zP]at d
  | succ n =>
    simp only[zP,jq]at d;split at d
    ·rename_i h l;exact⟨n,_,h,l,n,e,f,d,g⟩
    ·rename_i j;refine⟨n,e,f,d,?_⟩;cases e with
     | normal=>exact absurd d (j f)
     | exit i=>exact g
     | ret=>exact g
 ·rintro⟨n,e,h,d,g⟩;cases e with
  | normal =>
    obtain⟨m,e,f,p,o⟩:=g;refine⟨n+m+1,e,f,?_,o⟩;simp only[zP,jq];rw[qpG (by omega) d];exact qpG (by omega) p
  | exit i=>exact⟨n+1,_,h,by simp only[zP,jq];rw[d],g⟩
  | ret=>exact⟨n+1,_,h,by simp only[zP,jq];rw[d],g⟩
theorem qKX(id:Nat)(b:Code):Go c Q (.code (.block id b)::k) .normal s=Go c Q (.code b :: .blk id::k) .normal s:=by
 apply propext;show Run c (.block id b) s (λ e g=>Go c Q k e g)↔Run c b s λ e g=>Go c Q (.blk id::k) e g;constructor
 ·rintro⟨n,e,g,a,f⟩;cases n with
  | zero=>simp[zP]at a
  | succ n =>
    simp only[zP,jq]at a;cases h:zP c n b s with
    | none=>rw[h]at a;cases a
    | some q =>
      rw[h]at a;obtain⟨e1,d⟩:=q;refine⟨n,e1,d,h,?_⟩;cases e1<;>(simp only[wz,wR]at a;obtain⟨rfl,rfl⟩:=a;exact f)
 ·rintro⟨n,e,d,a,f⟩;cases e with
  | normal=>exact⟨n+1,_,d,by simp only[zP,jq];rw[a],f⟩
  | exit i=>exact⟨n+1,_,d,by simp only[zP,jq];rw[a],f⟩
  | ret=>exact⟨n+1,_,d,by simp only[zP,jq];rw[a],f⟩
theorem go_loop(b:Code):Go c Q (.code (.loop b)::k) .normal s=Go c Q (.code b :: .code (.loop b)::k) .normal (qf4 (c.pur b) s):=by
 apply propext;show Run c (.loop b) s (λ e d=>Go c Q k e d)↔Run c b (qf4 (c.pur b) s) λ e d=>Go c Q (.code (.loop b)::k) e d;constructor
 ·rintro⟨n,e,d,a,f⟩;cases n with
  | zero=>simp[zP]at a
  | succ n =>
    simp only[zP,jq]at a;split at a
    ·rename_i g j;exact⟨n,_,g,j,n,e,d,a,f⟩
    ·rename_i h;refine⟨n,e,d,a,?_⟩;cases e with
     | normal=>exact absurd a (h d)
     | exit i=>exact f
     | ret=>exact f
 ·rintro⟨n,e,g,a,f⟩;cases e with
  | normal =>
    obtain⟨m,e,d,o,l⟩:=f;refine⟨n+m+1,e,d,?_,l⟩;simp only[zP,jq];rw[qpG (by omega) a];exact qpG (by omega) o
  | exit i=>exact⟨n+1,_,g,by simp only[zP,jq];rw[a],f⟩
  | ret=>exact⟨n+1,_,g,by simp only[zP,jq];rw[a],f⟩
theorem qHy (rw:List Row) (y:AV):rsA (QN rw y)=[]:=by
 have b:∀ x,rsC (zk rw x)=[]:=by
  intro x;cases x with
  | rs r lo n a f =>
    simp only [zk];split
    ·split<;>rfl
    ·rfl
  | _=>rfl
 cases y with
 | agg cs =>
   show (cs.map (zk rw)).flatMap rsC=[];rw [vf];exact kI.2 λ x _=>b x
 | rs r lo n a f =>
   show rsA (zk rw (.rs r lo n a f))=[];simp only [zk];split
   ·split<;>rfl
   ·rfl
 | _=>rfl
def qGj(ts:List Nat)(s:S):Prop:=∀ t∈ts,rsA (s.tm.getD t .dead)=[]
theorem qG7(s:S)(t u:Nat)(h:u=t\/rsA (s.tm.getD u .dead)=[]):rsA ((qcZ s t).tm.getD u .dead)=[]:=by
 unfold qcZ;cases c:rsA (s.tm.getD t .dead)with
 | nil =>
   grind
 | cons r l =>
   show rsA ((s.tm.set t _).getD u .dead)=[];by_cases d:t=u
   ·subst d
    have a:t<s.tm.length:=by
     apply wac;intro b;rw[List.getD_eq_getElem?_getD,List.getElem?_eq_none b]at c;cases c
    rw[List.getD_eq_getElem?_getD,List.getElem?_set_self a];exact qHy _ _
   ·grind
theorem qwA:∀(ts:List Nat) (s:S) (us:List Nat),qGj us s->qGj (us++ts) (qf4 ts s)
 | [],s,us,h=>by rw[wB];exact h
 | t::ts,s,us,h=>by
   have:=qwA ts (qcZ s t) (us++[t]) (λ u a=>qG7 s t u (by
    rcases ww.1 a with a | a
    ·exact .inr (h u a)
    ·exact .inl (by simpa using a)))
   rw[wi]at this;exact this
theorem qEX:∀(ts:List Nat) (s:S),qGj ts s->qf4 ts s=s
 | [],s,h=>rfl
 | t::ts,s,h=>by
   have e:qcZ s t=s:=by unfold qcZ;rw[h t (wh ..)]
   show qf4 ts (qcZ s t)=s;rw[e];exact qEX ts s λ u a=>h u (wg _ a)
theorem qOP(b:Code):Go c Q (.code (.loop b)::k) .normal (qf4 (c.pur b) s)=Go c Q (.code (.loop b)::k) .normal s:=by
 rw[go_loop,go_loop,qEX _ _ (by have:=qwA (c.pur b) s [] (λ _ h=>by cases h);simpa using this)]
def qGS(c:PC)(Q:Ex->S->Prop)(k:List It)(s:S)(x y:Code):AV->Prop
 | .v (.bool true)=>Go c Q (.code x::k) .normal s
 | .v (.bool false)=>Go c Q (.code y::k) .normal s
 | _=>False
theorem qNw(t:Operand)(x y:Code):Go c Q (.code (.cond t x y)::k) .normal ⟨tm,σ⟩=qGS c Q k ⟨tm,σ⟩ x y (aev tm t):=by
 apply propext;show Run c (.cond t x y) ⟨tm,σ⟩ (λ e b=>Go c Q k e b)↔_;constructor
 ·rintro⟨n,e,b,a,f⟩;cases n with
  | zero=>simp[zP]at a
  | succ n =>
    simp only[zP,jq]at a;split at a
    ·rename_i d;rw[d];exact⟨n,e,b,a,f⟩
    ·rename_i d;rw[d];exact⟨n,e,b,a,f⟩
    ·cases a
 ·intro h;unfold qGS at h;split at h
  ·rename_i d;obtain⟨n,e,b,a,f⟩:=h;exact⟨n+1,e,b,by simp only[zP,jq,d];exact a,f⟩
  ·rename_i d;obtain⟨n,e,b,a,f⟩:=h;exact⟨n+1,e,b,by simp only[zP,jq,d];exact a,f⟩
  ·exact h.elim
theorem qIa(x y:Code):qGS c Q k s x y (.v (.bool true))=Go c Q (.code x::k) .normal s:=rfl
theorem qG9(x y:Code):qGS c Q k s x y (.v (.bool false))=Go c Q (.code y::k) .normal s:=rfl
theorem qG5(id:Nat)(l:List Oper)(d:Bool){p:Tmp}(f:qlM ⟨l⟩ d=false)(b:qra ⟨l⟩ d=some p)(j:qbY c.cfg.lo s.tm (qcI ⟨l⟩) true=true)(h:Go c (λ e a=>quV a.tm ⟨l⟩ p=true/\Go c Q (.ops ⟨l⟩ true (qhZ ⟨l⟩)::k) .normal a) (.ops (qcI ⟨l⟩) true (qcI ⟨l⟩).toList::[]) .normal s):Go c Q (.code (.region id ⟨l⟩ d)::k) .normal s:=by
 obtain⟨a,o,i,g,n,m⟩:=h;refine⟨1,.normal,g,?_,m⟩;simp only[zP,jq,f,b];rw[j,o];simp only;rw[i,n]
theorem go_region(id:Nat)(l:List Oper)(d:Bool)(f:qlM ⟨l⟩ d=false)(b:qra ⟨l⟩ d=none):Go c Q (.code (.region id ⟨l⟩ d)::k) .normal s=(qbY c.cfg.lo s.tm ⟨l⟩ d=true/\Go c Q (.ops ⟨l⟩ d l::k) .normal s):=by
 apply propext;constructor
 ·rintro⟨n,e,i,a,h⟩;cases n with
  | zero=>simp[zP]at a
  | succ n =>
    simp only[zP,jq,f,b]at a;split at a<;>cases a;rename_i g j;exact⟨g,_,j,h⟩
 ·rintro⟨g,i,a,h⟩;exact⟨1,.normal,i,by simp only[zP,jq,f,b];rw[g,a],h⟩
theorem qHp(id:Nat)(l:List Oper)(d:Bool)(a:qlM ⟨l⟩ d=true)(j:qjG c.cfg.lo l=true)(e:qbY c.cfg.lo s.tm ⟨l⟩ true=true)(m:qbY c.cfg.lo s.tm ⟨zj c.cfg.lo l⟩ true=true)(h:Go c Q (.ops ⟨zj c.cfg.lo l⟩ true (zj c.cfg.lo l) :: .ops ⟨l⟩ false (alL c.cfg.lo l) :: .ops ⟨l⟩ true (qsj c.cfg.lo l)::k) .normal s):Go c Q (.code (.region id ⟨l⟩ d)::k) .normal s:=by
 obtain⟨i,p,g,o,b,n,f⟩:=h;refine⟨1,.normal,b,?_,f⟩;simp only[zP,jq,a];grind
theorem qGT(b:Array Oper)(d:Bool):Go c Q (.ops b d []::k) .normal s=Go c Q k .normal s:=by
 apply propext;constructor
 ·rintro⟨f,a,e⟩;simp only[QP,wz]at a;subst a;exact e
 ·intro h;exact⟨s,rfl,h⟩
def qsD(c:PC)(Q:Ex->S->Prop)(k:List It)(e:Array Oper)(d l:Bool)(a:List Oper)(b:Option Tmp)(tm:List AV)(σ : St):Option (AV × Option St)->Prop
 | some (x,none)=>Go c Q (.ops e d a::k) .normal ⟨qcm tm b x,σ⟩
 | some (x,some σ')=>(d && !l)=false/\Go c Q (.ops e d a::k) .normal ⟨qcm tm b x,σ'⟩
 | none=>False
def qqS(c:PC)(Q:Ex->S->Prop)(k:List It)(b:Array Oper)(d:Bool)(a:List Oper)(o:Oper)(tm:List AV)(σ : St):Option Bool->Prop
 | some true=>qsD c Q k b d (yp c.cfg.lo o.op&&qcQ c.cfg b (b.size-(a.length+1)) tm σ o.op) a o.dst tm σ (qpm c tm σ o.op)
 | some false=>Go c Q (.ops b d a::k) .normal ⟨qcm tm o.dst qlT,σ⟩
 | none=>False
theorem qOJ(j:Array Oper)(d:Bool)(o:Oper)(f:List Oper):Go c Q (.ops j d (o::f)::k) .normal ⟨tm,σ⟩=qqS c Q k j d f o tm σ (yJ j tm o):=by
 apply propext;constructor
 ·rintro⟨b,a,e⟩;simp only[QP]at a;unfold qqS;split at a
  ·rename_i g;unfold qsD;split at a
   ·rename_i x i;exact⟨b,a,e⟩
   ·rename_i x σ' i;split at a
    ·cases a
    ·rename_i l;exact⟨l,b,a,e⟩
   ·cases a
  ·rename_i g;exact⟨b,a,e⟩
  ·cases a
 ·intro h;unfold qqS at h;split at h
  ·rename_i g;unfold qsD at h;split at h
   ·rename_i x i;obtain⟨b,a,e⟩:=h;exact⟨b,by simp only[QP,g,i];exact a,e⟩
   ·rename_i x σ' i;obtain⟨l,b,a,e⟩:=h;exact⟨b,by simp only[QP,g,i,l];exact a,e⟩
   ·exact h.elim
  ·rename_i g;obtain⟨b,a,e⟩:=h;exact⟨b,by simp only[QP,g];exact a,e⟩
  ·exact h.elim
end
end Go.AmZ
namespace Go.AmZ
open Go Go.RowKit
def Sub(x y:AV):Prop:=∀ Γ u,Rep Γ x u->Rep Γ y u
theorem Sub.refl(x:AV):Sub x x := λ _ _ h=>h
inductive QK:List AV->List AV->Prop
 | nil:QK [] []
 | cons {x y:AV} {xs ys:List AV}:Sub x y->QK xs ys->QK (x::xs) (y::ys)
theorem QK.refl:∀ xs,QK xs xs
 | [] => .nil
 | x::xs => .cons (.refl x) (.refl xs)
theorem QK.rep{Γ : Gh}:∀{xs ys:List AV} {us:List Value},QK xs ys->RepL Γ xs us->RepL Γ ys us
 | _,_,_,.nil,h=>h
 | _,_,us,.cons h t,g=>by
   obtain⟨u,r,rfl,b,a⟩:=g.uncons;exact .cons (h Γ u b) (t.rep a)
theorem QK.tup{xs ys:List AV}(h:QK xs ys):Sub (.tup xs) (.tup ys):=by
 intro Γ u a;cases a with
 | tup cs us c b =>
   have:=h.rep (RepL.mk c b);exact .tup _ _ this.len this.rep
theorem qNu{P:Program}{C:Cfg}{Γ : Gh}{σ : St}{w:World}(t:yv P C){f:FuncId}{fn:Func}{c:Code}(F:P.funcs[f]?=some fn)(E:fn.body=some c)(o:Qs c=true){b:List AV}{a:List Value}{r:AV × Option St}(s:Inv Γ σ w)(q:RepL Γ b a)
  {n:Nat} {e:Ex} {d:S} (D:qac C n c (qh9 fn σ b)=some (e,d)) (m:e = .ret\/e = .normal) (k:qjq C fn σ d=some r):Js P Γ σ w f a r:=by
 unfold Js;refine calls_of_wp F E ?_;have l:Inv Γ (qh9 fn σ b).σ w:=s.wr rfl rfl
 have B:zx Γ (qh9 fn σ b).tm { tmps:=a.toArray++Array.replicate (fn.ntmps-a.toArray.size) undef,defers:=[] }:=by
  show RepL Γ (b++List.replicate (fn.ntmps-b.length) .dead) (a.toArray++Array.replicate (fn.ntmps-a.toArray.size) undef).toList;rw[xn,xp];have:a.toArray.size=b.length:=by simpa using q.len
  rw[this];exact q.append (qgf Γ _)
 refine wp_mono (qxS t n c _ e d o D Γ w _ l B rfl) ?_;rintro I x w' ⟨rfl,o,Γ',H,u,g3,G⟩;unfold qjq at k;split at k<;>cases k;rename_i i j;obtain⟨v,A,z⟩:=qpC t.ty u g3 j;obtain⟨⟨h,u1,u2,u3⟩,u4⟩:=qI9 s H u G z
 have:x.defers=[]/\∃ v,(results fn x.tmps).run P w' = .ok v w'/\∃ g Γ',Ending.returned v = .returned g/\Ext Γ w Γ' w'/\Inv Γ' (turn σ (qbM σ i d.σ).2) w'/\Rep Γ' (qbM σ i d.σ).1 g/\qX { σ with wr:=[],wrr:=[] } (turn { σ with wr:=[],wrr:=[] } (qbM σ i d.σ).2) :=
  ⟨o,v,A,v,h,rfl,u1,u2,u3,u4⟩
 rcases m with rfl | rfl
 ·exact this
 ·exact this
def Ret(c:PC)(a:List ResultVar)(b:AV->Prop)(e:Ex)(s:S):Prop :=
 (e = .ret\/e = .normal)/\match jW c.cfg s.tm s.σ a with
  | some l=>refs 0 0 (qiU 0 s.σ.rw (zZ l))=false/\b (qiU 0 s.σ.rw (zZ l))
  | none=>False
def GoB(c:PC)(b:AV->Prop)(fn:Func)(a:List AV):Prop :=
 match fn.body with
 | some cd=>Go c (Ret c fn.results.toList b) [.code cd] .normal ⟨a++List.replicate (fn.ntmps-a.length) .dead,emp⟩
 | none=>False
def qcU(fn:Func):Bool:=match fn.body with
 | some cd=>Qs cd && !(fn.name == "runtime.NumGoroutine")
 | none=>false
theorem yv.pur{P:Program}{C:Cfg}(h:yv P C)(p:Code->List Nat)(q:Nat->Bool):yv P { C with pur:=p,lo:=q }:=⟨h.mixed,h.ty,h.fn,h.prim⟩
theorem qJd{P:Program}{c:PC}(hC:yv P c.cfg){f:FuncId}{fn:Func}(hf:P.funcs[f]?=some fn)(hb:qcU fn=true)(p:List AV->Option AV)
  (h:∀ args r,p args=some r->∃ args' Pr p q,QK args args'/\(∀ v,Pr v->Sub v r)/\GoB { c with pur:=p,ld:=q } Pr fn args'):qZ P f (JE p):=by
 unfold qcU at hb;cases hc:fn.body with
 | none=>rw[hc]at hb;cases hb
 | some cd =>
 rw[hc]at hb;simp only[wd,wV]at hb;obtain⟨hd,hn⟩:=hb;refine⟨⟨fn,hf,by rw[hc];rfl,hn⟩,λ Γ σ w args vals r hi hr hp=>?_⟩;unfold JE at hp;split at hp<;>try cases hp
 split at hp<;>cases hp;rename_i v hv;obtain⟨args',Pr,pp,qq,g1,g2,hgo⟩:=h args v hv;have hC:yv P (PC.cfg { c with pur:=pp,ld:=qq }):=hC.pur pp _;unfold GoB at hgo;rw[hc]at hgo;obtain⟨n,e,s',g3,g4,g0⟩:=hgo;split at g0
 case h_2=>exact g0.elim
 rename_i l hl;obtain⟨g6,g7⟩:=g0
 have g5:qi0 (PC.cfg { c with pur:=pp,ld:=qq }) fn s'=some (zZ l):=by
  unfold qi0;rw[hl]
 generalize zZ l=rv at g5 g6 g7
 have hl:qjq (PC.cfg { c with pur:=pp,ld:=qq }) fn emp s'=some (qiU 0 s'.σ.rw rv,none):=by
  unfold qjq;rw[g5];simp only[qbM];have f1:(s'.σ.wr.filter λ b=>decide (b<emp.bx.length))=[]:=wam.2 λ b _=>by simp[emp]
  have f2:(s'.σ.wrr.filter λ b=>decide (b<emp.rw.length))=[]:=wam.2 λ b _=>by simp[emp]
  have hk:qpy emp rv s'.σ = false:=by
   unfold qpy;rw[f1];show(refs 0 0 (qiU 0 s'.σ.rw rv)||false)=false;rw[g6];rfl
  rw[hk,f1,f2];rfl
 have hcall:=qNu (f:=f) (σ := emp) hC hf hc hd hi (g1.rep hr) (qCx g3) g4 hl;refine Calls.mono hcall ?_;rintro e' w' ⟨v',Γ',q1,q2,q3,q4,q5⟩;exact⟨v',Γ',q1,q2,q3,g2 _ g7 Γ' v' q4,q5⟩
section
variable {c:PC} {Q:Ex->S->Prop} {k:List It} {tm:List AV} {σ : St} {os:Array Oper} {d:Bool} {rest:List Oper} {dst:Option Tmp}
def qL5(c:PC)(Q:Ex->S->Prop)(k:List It)(os:Array Oper)(d:Bool)(rest:List Oper)(dst:Option Tmp)(tm:List AV)(σ : St)(x:AV):Prop:=Go c Q (.ops os d rest::k) .normal ⟨qcm tm dst x,σ⟩
theorem qFx(l:Bool)(x:AV):qsD c Q k os d l rest dst tm σ (some (x,none))=qL5 c Q k os d rest dst tm σ x:=rfl
theorem qMa(l:Bool)(x:AV)(σ':St):qsD c Q k os d l rest dst tm σ (some (x,some σ'))=((d && !l)=false/\qL5 c Q k os d rest dst tm σ' x):=rfl
theorem qIE(o:Oper):qqS c Q k os d rest o tm σ (some true)=qsD c Q k os d (yp c.cfg.lo o.op&&qcQ c.cfg os (os.size-(rest.length+1)) tm σ o.op) rest o.dst tm σ (qpm c tm σ o.op):=rfl
theorem qHl(o:Oper):qqS c Q k os d rest o tm σ (some false)=Go c Q (.ops os d rest::k) .normal ⟨qcm tm o.dst qlT,σ⟩:=rfl
end
end Go.AmZ
namespace Go.GxZ
open Go.RowKit
inductive T where
 | mk (kind:Int) (name:List UInt8) (sort:Int) (kids:List T)
namespace T
def kind:T->Int | mk k _ _ _=>k
def name:T->List UInt8 | mk _ n _ _=>n
def sort:T->Int | mk _ _ s _=>s
def kids:T->List T | mk _ _ _ l=>l
def para{α : Type}(f:T->List α -> α)(t:T) : α :=
 T.rec (motive_1 := λ _ => α) (motive_2 := λ _=>List α) (λ k n s l c=>f (mk k n s l) c) [] (λ _ _ a b=>a::b) t
theorem para_eq{α : Type}(f:T->List α -> α)(t:T):para f t=f t (t.kids.map (para f)):=by
 obtain⟨k,n,s,l⟩:=t;show f (mk k n s l) _=f (mk k n s l) _;congr 1;show T.rec_1 (motive_1 := λ _ => α) (motive_2 := λ _=>List α) _ _ _ l=l.map (para f)
 induction l with
 | nil=>rfl
 | cons a l ih=>exact congrArg (para f a :: ·) ih
theorem ind{P:T->Prop}(h:∀ t,(∀ k∈t.kids,P k)->P t)(t:T):P t :=
 T.rec (motive_1:=P) (motive_2 := λ l=>∀ k∈l,P k) (λ _ _ _ _ c=>h _ c) (λ k b=>by cases b)
  (λ a l e d k b=>by rcases wx.1 b with rfl | b;exact e;exact d k b) t
end T
def qe1{α : Type}(k:Nat)(R : α -> List Value->Prop)(Q:Nat->Prop)(w:World)(a:Option Addr)(xs:List α):Prop :=
 ∀(j:Nat) (x : α),xs[j]?=some x->∃ b off cs,a=some ⟨b,off,none⟩/\Q b/\cs.length=k/\(∀(i:Nat) (c:Value),cs[i]?=some c->w.cell? ⟨b,off+j*k+i,none⟩=some c)/\R x cs
def JG(Q:Nat->Prop)(w:World):T->List Value->Prop :=
 T.para λ t b cs=>∃ a c,cs=[.int .i64 t.kind,.string ⟨t.name.toArray⟩,.int .i64 t.sort,.slice a b.length c]/\qe1 4 (λ r cs=>r cs) Q w a b
theorem qnE{Q:Nat->Prop}{w:World}{t:T}{cs:List Value} :
  JG Q w t cs↔∃ a c,cs=[.int .i64 t.kind,.string ⟨t.name.toArray⟩,.int .i64 t.sort,.slice a t.kids.length c]/\qe1 4 (JG Q w) Q w a t.kids:=by
 unfold JG;rw[T.para_eq];simp only[wA];refine exists_congr λ a=>exists_congr λ c=>and_congr Iff.rfl ?_;constructor
 ·intro h j x d;obtain⟨b,off,cs,l,k,i,g,f⟩:=h j _ (by rw[List.getElem?_map,d];rfl);grind
 ·intro h j r d;rw[List.getElem?_map,Option.map_eq_some_iff]at d;obtain⟨x,e,rfl⟩:=d;exact h j x e
theorem qe1.mono{α : Type}{k:Nat}{R R' : α -> List Value->Prop}{Q d:Nat->Prop}{w:World}{a:Option Addr}{xs:List α}(h:qe1 k R Q w a xs)(f:∀ b,Q b->d b)(e:∀ x∈xs,∀ cs,R x cs->R' x cs):qe1 k R' d w a xs :=
 λ j x c=>let⟨b,off,cs,h1,h2,h3,h4,h5⟩:=h j x c;⟨b,off,cs,h1,f b h2,h3,h4,e x (wa c) cs h5⟩
theorem qe1.below{α : Type}{k:Nat}{R R' : α -> List Value->Prop}{Q:Nat->Prop}{w w':World}{a:Option Addr}{xs:List α}(h:qe1 k R Q w a xs)(f:∀ b,Q b->w'.heap[b]?=w.heap[b]?)(g:∀ x∈xs,∀ cs,R x cs->R' x cs):qe1 k R' Q w' a xs :=
 λ j x d=>let⟨b,off,cs,h1,h2,h3,h4,h5⟩:=h j x d;⟨b,off,cs,h1,h2,h3,λ i c e=>(World.cell?_of_block (w:=w) (a:=⟨b,off+j*k+i,none⟩) (f b h2)).trans (h4 i c e),g x (wa d) cs h5⟩
theorem JG.mono{Q d:Nat->Prop}{w:World}(g:∀ b,Q b->d b)(t:T):∀{cs:List Value},JG Q w t cs->JG d w t cs:=by
 refine T.ind (P := λ t=>∀{cs:List Value},JG Q w t cs->JG d w t cs) ?_ t;intro t e cs h;rw[qnE]at h |-
 obtain⟨a,c,j,i⟩:=h;exact⟨a,c,j,i.mono g λ x f cs h=>e x f h⟩
theorem JG.keep{Q:Nat->Prop}{w w':World}(f:∀ b,Q b->w'.heap[b]?=w.heap[b]?)(t:T):∀{cs:List Value},JG Q w t cs->JG Q w' t cs:=by
 refine T.ind (P := λ t=>∀{cs:List Value},JG Q w t cs->JG Q w' t cs) ?_ t;intro t d cs h;rw[qnE]at h |-
 obtain⟨a,c,i,g⟩:=h;exact⟨a,c,i,g.below f λ x e cs h=>d x e h⟩
def qL2(t:T)(a:Option Addr)(c:Nat):List Value:=[.int .i64 t.kind,.string ⟨t.name.toArray⟩,.int .i64 t.sort,.slice a t.kids.length c]
def qdx(Q:Nat->Prop)(w:World)(a:Option Addr)(l:List T):Prop:=qe1 4 (JG Q w) Q w a l
theorem JG.mk{Q:Nat->Prop}{w:World}{t:T}{a:Option Addr}{c:Nat}(h:qdx Q w a t.kids):JG Q w t (qL2 t a c):=qnE.2 ⟨a,c,rfl,h⟩
theorem JG.out{Q:Nat->Prop}{w:World}{t:T}{cs:List Value}(h:JG Q w t cs):∃ a c,cs=qL2 t a c/\qdx Q w a t.kids:=qnE.1 h
theorem qdx.mono{Q d:Nat->Prop}{w:World}{a:Option Addr}{l:List T}(c:∀ b,Q b->d b)(h:qdx Q w a l):qdx d w a l:=qe1.mono h c λ _ _ _ h=>h.mono c
theorem qdx.keep{Q:Nat->Prop}{w w':World}{a:Option Addr}{l:List T}(c:∀ b,Q b->w'.heap[b]?=w.heap[b]?)(h:qdx Q w a l):qdx Q w' a l:=qe1.below h c λ x _ _ h=>h.keep c x
theorem qdx.at{Q:Nat->Prop}{w:World}{a:Option Addr}{l:List T}(h:qdx Q w a l){j:Nat}{x:T}(f:l[j]?=some x) :
  ∃ b off d e,a=some ⟨b,off,none⟩/\Q b/\w.cell? ⟨b,off+j*4,none⟩=some (.int .i64 x.kind)/\w.cell? ⟨b,off+j*4+1,none⟩=some (.string ⟨x.name.toArray⟩) /\
   w.cell? ⟨b,off+j*4+2,none⟩=some (.int .i64 x.sort)/\w.cell? ⟨b,off+j*4+3,none⟩=some (.slice d x.kids.length e)/\qdx Q w d x.kids:=by
 obtain⟨b,off,cs,m,k,n,c,i⟩:=h j x f;obtain⟨d,e,rfl,g⟩:=i.out;exact⟨b,off,d,e,m,k,c 0 _ rfl,c 1 _ rfl,c 2 _ rfl,c 3 _ rfl,g⟩
def InW(Q:Nat->Prop)(w:World):Prop:=∀ b,Q b->b<w.heap.size
theorem InW.below{Q:Nat->Prop}{w w':World}(h:InW Q w)(c:Below w.heap.size w w'):InW Q w' := λ b a=>wE (h b a) c.size
theorem qdx.later{Q:Nat->Prop}{w w':World}{a:Option Addr}{l:List T}(h:qdx Q w a l)(e:InW Q w)(d:Below w.heap.size w w'):qdx Q w' a l:=h.keep λ b c=>d.block b (e b c)
theorem JG.later{Q:Nat->Prop}{w w':World}{t:T}{cs:List Value}(h:JG Q w t cs)(d:InW Q w)(c:Below w.heap.size w w'):JG Q w' t cs:=h.keep (λ b a=>c.block b (d b a)) t
end Go.GxZ
namespace Go.AmZ
open Go Go.GxZ
def re(t:T):T := .mk t.kind t.name t.sort t.kids
theorem qk(t:T):re t=t:=by obtain⟨k,n,s,l⟩:=t;rfl
inductive Ty where
 | int (k:IntKind) | bool | str | term | list (a:Ty) | pair (a b:Ty) | one (a:Ty)
 deriving DecidableEq
@[reducible] def Val:Ty->Type
  | .int _=>Int
  | .bool=>Bool
  | .str=>List UInt8
  | .term=>T
  | .list a=>List (Val a)
  | .pair a b=>Val a × Val b
  | .one a=>Val a
def Ty.size:Ty->Nat
 | .term=>4
 | .pair a b=>a.size+b.size
 | .one a=>a.size
 | _=>1
inductive TV where
 | i (k:IntKind) (n:Int)
 | b (x:Bool)
 | s (x:List UInt8)
 | c (x:Value)
 | nil
 | sl (τ : Ty) (l:List (Val τ)) (lv:Nat)
 | row (id ver:Nat)
 | ptr (b o:Nat)
 | pti (b:Nat) (i:Int)
 | rpt (id ver sv:Nat) (i:Int) (cs:List TV) (o:Nat)
 | ept (cs:List TV) (o:Nat)
 | fn (f:FuncId) (caps:List TV)
 | agg (cs:List TV)
 | tup (vs:List TV)
 | dead
structure qQ where
 τ : Ty
 l:List (Val τ)
 ver:Nat
 sv:Nat
 sh:Bool
structure TS where
 bx:List (List TV)
 rw:List qQ
abbrev Env:=List (Nat × TV)
def get:Env->Nat->TV
 | [],_ => .dead
 | p::E,t=>match Nat.beq p.1 t with
   | true=>p.2
   | false=>get E t
def qdV:Value->TV
 | .bool b => .b b
 | .int k n => .i k n
 | .string s => .s s.data.toList
 | .slice none 0 0 => .nil
 | x=>match zu x with
   | true => .c x
   | false => .dead
def qC8:Value->TV
 | .agg cs=>match cs.toList.all zu with
   | true => .agg (cs.toList.map qdV)
   | false => .dead
 | .tuple vs=>match vs.toList with
   | [] => .tup []
   | _ => .dead
 | x=>qdV x
def evT(E:Env):Operand->TV
 | .tmp t=>get E t
 | .const x=>qC8 x
 | .func f => .fn f []
 | .global _ => .dead
def jH:TV->List TV
 | .agg cs=>cs
 | x=>[x]
def qit:TV->Bool
 | .agg _ | .tup _ | .dead=>false
 | _=>true
def Jr:(τ : Ty)->Val τ -> List TV
 | .int k,n=>[.i k n]
 | .bool,b=>[.b b]
 | .str,s=>[.s s]
 | .term,t=>[.i .i64 t.kind,.s t.name,.i .i64 t.sort,.sl .term t.kids 1]
 | .list a,l=>[.sl a l 1]
 | .pair a b,p=>Jr a p.1++Jr b p.2
 | .one a,v=>Jr a v
def qur:(τ : Ty)->Val τ -> TV
 | .int k,n => .i k n
 | .bool,b => .b b
 | .str,s => .s s
 | .list a,l => .sl a l 1
 | .term,t => .agg (Jr .term t)
 | .pair a b,p => .agg (Jr (.pair a b) p)
 | .one a,v => .agg (Jr (.one a) v)
def qfp{τ : Ty}(l:List (Val τ))(a:Ty):Option (List (Val a)):=if h : τ = a then some (h▸l)else none
def qnu(rw:List qQ)(a:Ty):TV->Option (List (Val a))
 | .nil=>some []
 | .sl _ l _=>qfp l a
 | .row id b=>match rw[id]? with
   | some R=>match Nat.beq R.ver b with
     | true=>qfp R.l a
     | false=>none
   | none=>none
 | _=>none
def qJF(k:IntKind):List TV->Option (Int × List TV)
 | .i a n::r=>match decide (a=k)with
   | true=>some (n,r)
   | false=>none
 | _=>none
def qGP:List TV->Option (Bool × List TV)
 | .b x::r=>some (x,r)
 | _=>none
def qKL:List TV->Option (List UInt8 × List TV)
 | .s x::r=>some (x,r)
 | _=>none
def qGI(a:TV->Option (List T)):List TV->Option (T × List TV)
 | .i .i64 k :: .s n :: .i .i64 s::x::r=>match a x with
   | some l=>some (.mk k n s l,r)
   | none=>none
 | _=>none
def qGR{a:Type}(b:TV->Option a):List TV->Option (a × List TV)
 | x::r=>match b x with
   | some l=>some (l,r)
   | none=>none
 | _=>none
def qqd{σ b a:Type}(p:List σ -> Option (b × List σ))(q:List σ -> Option (a × List σ))(cs:List σ):Option ((b × a) × List σ):=match p cs with
 | some (x,r)=>match q r with
   | some (y,r)=>some ((x,y),r)
   | none=>none
 | none=>none
def qkV(rw:List qQ):(τ : Ty)->List TV->Option (Val τ × List TV)
 | .int k=>qJF k
 | .bool=>qGP
 | .str=>qKL
 | .term=>qGI (qnu rw .term)
 | .list a=>qGR (qnu rw a)
 | .pair a b=>qqd (qkV rw a) (qkV rw b)
 | .one a=>qkV rw a
def Ty.agg:Ty->Bool
 | .term | .pair _ _ | .one _=>true
 | _=>false
def qp9{a:Type}:Option (a × List TV)->Option a
 | some (v,[])=>some v
 | _=>none
def qvQ:TV->Bool
 | .agg _=>true
 | _=>false
def qgs(rw:List qQ)(τ : Ty)(x:TV):Option (Val τ):=match qdG τ.agg (qvQ x)with
 | true=>qp9 (qkV rw τ (jH x))
 | false=>none
def qst(rw:List qQ)(τ : Ty):List TV->Option (List (Val τ))
 | []=>some []
 | x::l=>match qgs rw τ x with
   | some v=>match qst rw τ l with
     | some vs=>some (v::vs)
     | none=>none
   | none=>none
def qkX:TV->Bool
 | .i .. | .b _ | .s _ | .c _ | .nil | .sl .. | .fn .. => true
 | _=>false
def qo7:TV->Bool
 | .agg cs=>cs.all qkX
 | x=>qkX x
inductive ATy where
 | val (τ : Ty) | fn
@[reducible] def qbO:List ATy->Type
  | []=>Unit
  | .val τ :: r=>Val τ × qbO r
  | .fn::r=>qbO r
@[reducible] def qe2:List Ty->Type
  | []=>Unit
  | [a]=>Val a
  | a::b::r=>Val a × qe2 (b::r)
def qN6{σ : Type}:List σ -> Option Unit
 | []=>some ()
 | _=>none
def qn1{σ b a:Type}(p : σ -> Option b)(q:List σ -> Option a):List σ -> Option (b × a)
 | x::xs=>match p x with
   | some v=>match q xs with
     | some vs=>some (v,vs)
     | none=>none
   | none=>none
 | []=>none
def pFn{a:Type}(q:List TV->Option a):List TV->Option a
 | .fn _ []::xs=>q xs
 | _=>none
def qwf(rw:List qQ):(ts:List ATy)->List TV->Option (qbO ts)
 | []=>qN6
 | .val τ :: r=>qn1 (qgs rw τ) (qwf rw r)
 | .fn::r=>pFn (qwf rw r)
def qpu:List TV->List Nat
 | []=>[]
 | .fn f _::l=>f::qpu l
 | _::l=>qpu l
def unL:(ts:List Ty)->qe2 ts->List TV
 | [],_=>[]
 | [a],v=>[qur a v]
 | a::b::r,v=>qur a v.1::unL (b::r) v.2
def qwn:List TV->TV
 | [x]=>x
 | l => .tup l
structure Sig where
 args:List ATy
 res:List Ty
 fn:qbO args->Option (qe2 res)
inductive RA where
 | val (τ : Ty) | row (τ : Ty)
@[reducible] def RA.T:RA->Type
  | .val τ => Val τ
  | .row τ => List (Val τ)
@[reducible] def CV:List RA->Type
  | []=>Unit
  | a::r=>a.T × CV r
@[reducible] def BV:List RA->Type
  | []=>Unit
  | [a]=>a.T
  | a::b::r=>CV (a::b::r)
def toC:(l:List RA)->BV l->CV l
 | [],_=>()
 | [_],v=>(v,())
 | _::_::_,v=>v
def toB:(l:List RA)->CV l->BV l
 | [],_=>()
 | [_],v=>v.1
 | _::_::_,v=>v
def nR:List RA->Nat
 | []=>0
 | .val _::r=>nR r
 | .row _::r=>nR r+1
inductive SA where
 | val (τ : Ty) | row (τ : Ty) | box (l:List RA) | nil | clo (g k:Nat)
inductive RE where
 | one (a:RA) | agg (l:List RA) | opt (l:List RA) | elt (p:Nat) | nilp | box (n:Nat) (l:List RA) | eltI (d:Nat) (τ : Ty)
@[reducible] def QF:List SA->Type
  | []=>Unit
  | .val τ :: r=>Val τ × QF r
  | .row τ :: r=>List (Val τ) × QF r
  | .box l::r=>BV l × QF r
  | .nil::r=>QF r
  | .clo _ _::r=>QF r
@[reducible] def j7:List SA->Type
  | []=>Unit
  | .box l::r=>BV l × j7 r
  | .nil::r=>j7 r
  | .val _::r=>j7 r
  | .row _::r=>j7 r
  | .clo _ _::r=>j7 r
@[reducible] def RV:List RE->Type
  | []=>Unit
  | .one a::r=>a.T × RV r
  | .agg l::r=>CV l × RV r
  | .opt l::r=>Option (BV l) × RV r
  | .elt _::r=>Option Int × RV r
  | .nilp::r=>RV r
  | .box _ l::r=>BV l × RV r
  | .eltI _ τ :: r=>(Int × Val τ) × RV r
def nrB:List SA->Nat
 | []=>0
 | .box l::r=>nR l+nrB r
 | .nil::r=>nrB r
 | .val _::r=>nrB r
 | .row _::r=>nrB r
 | .clo _ _::r=>nrB r
def nBx:List SA->Nat
 | []=>0
 | .box _::r=>nBx r+1
 | .nil::r=>nBx r
 | .val _::r=>nBx r
 | .row _::r=>nBx r
 | .clo _ _::r=>nBx r
def qmV:List SA->Bool
 | []=>true
 | .row _::_=>false
 | .box _::r=>qmV r
 | .nil::r=>qmV r
 | .val _::r=>qmV r
 | .clo _ _::r=>qmV r
def qlj:List SA->Bool
 | []=>true
 | .box _::r=>qmV r&&qlj r
 | .nil::r=>qlj r
 | .val _::r=>qlj r
 | .row _::r=>qlj r
 | .clo _ _::r=>qlj r
structure qn4 where
 args:List SA
 res:List RE
 fn:QF args->Option (j7 args × RV res)
structure qqR where
 τ : Ty
 args:List SA
 fn:QF (.row τ :: args)->Option (List (Val τ))
structure quk where
 args:List SA
 fn:QF args->Option Int
inductive Co where
 | keep | row (τ : Ty) (sh:Bool) | list (τ : Ty) | plist (τ : Ty) | box (cs:List Co) | fn (cs:List Co)
structure TC where
 ty:Nat->Option TD
 el:Nat->Option Ty
 has:Nat->Bool
 pf:Nat->List Nat->Option Sig
 sf:Nat->Option qn4
 loop:Nat->Option (List (Tmp × Co))
 join:Nat->Option (List (Tmp × Co))
 nt:Nat
 np:Nat
 ld:Nat->Bool
 mf:Nat->Option qqR
 xf:Nat->Option quk
def TC.rawT(c:TC)(f:Nat):Bool:=match c.has f with
 | true=>false
 | false=>match c.mf f with
   | some _=>true
   | none=>match c.xf f with
     | some _=>true
     | none=>match c.sf f with
       | some _=>true
       | none=>false
def TC.loT(c:TC)(f:Nat):Bool:=c.rawT f||c.ld f
abbrev TC.n2(c:TC):Nat × Nat:=(c.nt,c.np)
def qa{α b:Type}(x:Option α)(k : α -> Option b):Option b:=match x with
 | some a=>k a
 | none=>none
def qhl{α c:Type}(x:Option c)(a : α)(f:c -> α) : α := match x with
 | none=>a
 | some b=>f b
def qkO{α b:Type}(l:List b)(a : α)(f:b->List b -> α) : α := match l with
 | []=>a
 | x::r=>f x r
def qb{α : Type}(l:List α)(j:Int):Option α := if 0<=j then l[j.toNat]? else none
def ixb(j:Int)(n:Nat):Bool:=decide (0<=j/\j<(n:Int))
def qrT:List TV->Option (List Bool)
 | []=>some []
 | .b x::l=>match qrT l with
   | some r=>some (x::r)
   | none=>none
 | _=>none
def qo4:List Bool->Int->Bool->Nat->List Bool
 | [],_,_,_=>[]
 | e::l,i,v,j=>cond (ieq i (j:Int)) v e::qo4 l i v (j+1)
def inb(i:Int)(y:Nat):Bool:=decide (0<=i/\i<=y)
def yn{α : Type}(l:List α)(j:Int)(v : α):List α := if 0<=j then l.set j.toNat v else l
def qGU(n:Int)(bytes:Nat):Bool:=decide (0<=n/\n.toNat*bytes<=2 ^ 47/\n.toNat<2 ^ 62)
def qKN:Operand->Operand->Bool
 | .tmp a,.tmp b=>Nat.beq a b
 | .const (.int k a),.const (.int c b)=>decide (k=c)&&decide (a=b)
 | _,_=>false
def shA(σ : TS):TS:=⟨σ.bx,σ.rw.map λ R=>⟨R.τ,R.l,R.ver,R.sv,true⟩⟩
def qu8:Ty->Bool
 | .int _ | .bool | .str=>true
 | _=>false
def QM{α : Type}(l:List α)(a b:Int):List α := (l.take b.toNat).drop a.toNat
def qgB(a b:List UInt8):Bool:=decide (((a.length+b.length:Nat):Int)<=IntKind.i64.max)
def zp(n bytes:Nat):Bool:=decide (n*bytes<=2 ^ 47/\n<2 ^ 62)
def qx(a b:List UInt8):Bool:=a==b
def slt(a b:List UInt8):Bool:=Op.bytesLess a b
def zM(l:List Int):List UInt8:=l.map λ n=>UInt8.ofNat n.toNat
def Qw(s:List UInt8):List Int:=s.map λ b=>((b.toNat:Nat):Int)
def qBb:Option TD->Bool
 | some ⟨_,_,_,_,.ptr⟩=>true
 | _=>false
def qGi:TV->TV->Option Bool
 | .c (.pointer none),.c (.pointer none)=>some true
 | .ptr _ _,.c (.pointer none)=>some false
 | .rpt _ _ _ _ _ _,.c (.pointer none)=>some false
 | .ept _ _,.c (.pointer none)=>some false
 | _,_=>none
section
variable {α : Type}
abbrev KT(α : Type):=TV->Option TS->Option α
def qKU(op:BinOp)(k:IntKind)(a b:Int)(K:TV->Option α):Option α :=
 match op with
 | .add=>K (.i k (iw k (qe a b)))
 | .sub=>K (.i k (iw k (zq a b)))
 | .mul=>K (.i k (iw k (qtu a b)))
 | .quo=>cond (ieq b 0) none (K (.i k (iw k (qiJ a b))))
 | .rem=>cond (ieq b 0) none (K (.i k (jr a b)))
 | .and=>K (.i k (qmj .and k a b))
 | .or=>K (.i k (qmj .or k a b))
 | .xor=>K (.i k (qmj .xor k a b))
 | .andNot=>K (.i k (qmj .andNot k a b))
 | .eql=>K (.b (ieq a b))
 | .neq=>K (.b (qd (ieq a b)))
 | .lss=>K (.b (ilt a b))
 | .leq=>K (.b (ile a b))
 | .gtr=>K (.b (ilt b a))
 | .geq=>K (.b (ile b a))
 | _=>none
def qLV(op:BinOp)(x y:List UInt8)(K:TV->Option α):Option α :=
 match op with
 | .add=>cond (qgB x y) (K (.s (x++y))) none
 | .eql=>K (.b (qx x y))
 | .neq=>K (.b (qd (qx x y)))
 | .lss=>K (.b (slt x y))
 | .leq=>K (.b (qrK (slt x y) (qx x y)))
 | .gtr=>K (.b (qd (qrK (slt x y) (qx x y))))
 | .geq=>K (.b (qd (slt x y)))
 | _=>none
def qu5:Option TD->Bool
 | some ⟨_,_,_,_,.bool⟩=>true
 | _=>false
def qLw(d:Option TD)(op:BinOp)(x y:TV)(K:TV->Option α):Option α :=
 match x,y with
 | .i k a,.i c b=>match op with
   | .shl=>cond (ilt b 0) none (K (.i k (qxU k a b)))
   | .shr=>cond (ilt b 0) none (K (.i k (qbG k a b)))
   | op=>match decide (k=c)with
     | true=>qKU op k a b K
     | false=>none
 | .s a,.s b=>qLV op a b K
 | .b a,.b b=>match op,qu5 d with
   | .eql,true=>K (.b (qdG a b))
   | .neq,true=>K (.b (qd (qdG a b)))
   | _,_=>none
 | _,_=>none
def qAQ(place:Nat->Option (Nat × Nat))(cells:List TV):List (Nat × TV)->Option (List TV)
 | []=>some cells
 | (i,x)::a=>match place i with
   | none=>none
   | some (off,size)=>match decide ((jH x).length=size)&&decide (off+size<=cells.length)&&(jH x).all qit with
     | true=>qAQ place (cells.take off++(jH x++cells.drop (off+size))) a
     | false=>none
def qmN(a:Bool)(size:Nat)(cs:List TV)(o:Nat):Option TV :=
 match a with
 | true=>match decide (o+size<=cs.length)with
   | true=>some (.agg ((cs.drop o).take size))
   | false=>none
 | false=>cs[o]?
def qgc(d:Int)(E:Env):Option Operand->Option Int
 | none=>some d
 | some x=>match evT E x with
   | .i _ n=>some n
   | _=>none
def Q0(c:TC)(E:Env)(σ : TS)(op:Op)(K:KT α):Option α :=
 match op with
 | .move x | .assign x=>K (evT E x) none
 | .pick x a b=>match evT E x with
   | .b y=>cond y (K (evT E a) none) (K (evT E b) none)
   | _=>none
 | .alloc e=>match c.ty e with
   | some d=>match d.zero.all zu with
     | true=>K (.ptr σ.bx.length 0) (some { σ with bx := σ.bx++[d.zero.map qdV] })
     | false=>none
   | none=>none
 | .box e x=>match c.ty e with
   | some _=>match(jH (evT E x)).all qit with
     | true=>K (.ptr σ.bx.length 0) (some { σ with bx := σ.bx++[jH (evT E x)] })
     | false=>none
   | none=>none
 | .build t parts=>match c.ty t with
   | some ⟨_,_,_,z,.struct u⟩=>match z.all zu with
     | true=>match qAQ (λ i=>match u[i]? with | some f=>some (f.1,f.2.1) | none=>none) (z.map qdV) (parts.toList.map λ p=>(p.1,evT E p.2))with
       | some cs=>K (.agg cs) none
       | none=>none
     | false=>none
   | _=>none
 | .buildSlice t n parts=>match c.ty t,c.el t with
   | some ⟨_,_,_,_,.slice _ k _ _⟩,some τ => match decide (k = τ.size)&&decide (parts.size=n)&&decide (n*k<=2 ^ 24)&&decide (0<k)&&(parts.toList.zipIdx.all λ p=>decide (p.1.1=p.2))with
     | true=>match qst σ.rw τ (parts.toList.map λ p=>evT E p.2)with
       | some vs=>K (.sl τ vs 2) (match(parts.toList.all λ p=>qo7 (evT E p.2))with | true=>none | false=>some (shA σ))
       | none=>none
     | false=>none
   | _,_=>none
 | .load t a=>match c.ty t with
   | some d=>match evT E a with
     | .ptr b o=>match σ.bx[b]? with
       | some cs=>match qmN d.agg d.size cs o with
         | some x=>K x none
         | none=>none
       | none=>none
     | .ept cs o=>match qmN d.agg d.size cs o with
       | some x=>K x none
       | none=>none
     | .pti b i=>match σ.bx[b]? with
       | some cs=>match d.agg,qrT cs with
         | false,some l=>qa (qb l i) λ v=>K (.b v) none
         | _,_=>none
       | none=>none
     | .rpt id q r i cs o=>match σ.rw[id]? with
       | some R=>match Nat.beq R.ver q with
         | true=>match Nat.beq R.sv r with
           | true=>match qmN d.agg d.size cs o with
             | some x=>K x none
             | none=>none
           | false=>match R.sh with
             | true=>none
             | false=>qa (qb R.l i) λ v=>match qmN d.agg d.size (Jr R.τ v) o with
               | some x=>K x none
               | none=>none
         | false=>none
       | none=>none
     | _=>none
   | none=>none
 | .store t a x=>match c.ty t,evT E a with
   | some d,.ptr b o=>match σ.bx[b]? with
     | some cs=>match decide ((jH (evT E x)).length=d.size)&&decide (o+d.size<=cs.length)&&(jH (evT E x)).all qit with
       | true=>K (.tup []) (some { σ with bx := σ.bx.set b (cs.take o++(jH (evT E x)++cs.drop (o+d.size))) })
       | false=>none
     | none=>none
   | some d,.pti b i=>match σ.bx[b]?,evT E x with
     | some cs,.b v=>match qrT cs,Nat.beq d.size 1 with
       | some l,true=>cond (ixb i l.length) (K (.tup []) (some { σ with bx := σ.bx.set b ((qo4 l i v 0).map .b) })) none
       | _,_=>none
     | _,_=>none
   | some d,.rpt id q r i cs o=>match σ.rw[id]? with
     | some R=>match Nat.beq R.ver q&&Nat.beq R.sv r && !R.sh&&decide ((jH (evT E x)).length=d.size)&&decide (o+d.size<=cs.length)&&(jH (evT E x)).all qkX with
       | true=>match qp9 (qkV σ.rw R.τ (cs.take o++(jH (evT E x)++cs.drop (o+d.size))))with
         | some v=>K (.tup []) (some { σ with rw := σ.rw.set id ⟨R.τ,yn R.l i v,R.ver,R.sv+1,R.sh⟩ })
         | none=>none
       | false=>none
     | none=>none
   | _,_=>none
 | .makeSlice t n m=>match c.ty t,c.el t,evT E n with
   | some ⟨_,_,_,_,.slice _ k bytes z⟩,some τ,.i _ a=>match qKN n m&&decide (k = τ.size)&&decide (0<k)&&decide (z.length=k)&&z.all zu with
     | true=>match qp9 (qkV [] τ (z.map qdV))with
       | some v=>cond (qGU a bytes) (K (.row σ.rw.length 0) (some { σ with rw := σ.rw++[⟨τ,List.replicate a.toNat v,0,0,false⟩] })) none
       | none=>none
     | false=>none
   | _,_,_=>none
 | .nilCheck x=>match evT E x with
   | .ptr b o=>K (.ptr b o) none
   | .ept cs o=>K (.ept cs o) none
   | .rpt id q r i cs o=>K (.rpt id q r i cs o) none
   | _=>none
 | .binOp op t x y _=>match qGi (evT E x) (evT E y)with
   | some b=>match op,qBb (c.ty t)with
     | .eql,true=>K (.b b) none
     | .neq,true=>K (.b (!b)) none
     | _,_=>none
   | none=>qLw (c.ty t) op (evT E x) (evT E y) λ v=>K v none
 | .unOp op _ x=>match op,evT E x with
   | .neg,.i k n=>K (.i k (iw k (zq 0 n))) none
   | .not,.b y=>K (.b (qd y)) none
   | _,_=>none
 | .convert s d x=>match c.ty s,c.ty d,evT E x with
   | some _,some ⟨_,_,_,_,.int k⟩,.i _ n=>K (.i k (iw k n)) none
   | some _,some ⟨_,_,_,_,.string⟩,.s y=>K (.s y) none
   | some ⟨_,_,_,_,.string⟩,some ⟨_,_,_,_,.slice e 1 _ _⟩,.s y=>match qq9 (c.ty e)with
     | true=>K (.row σ.rw.length 0) (some { σ with rw := σ.rw++[⟨.int .u8,Qw y,0,0,false⟩] })
     | false=>none
   | some ⟨_,_,_,_,.slice e 1 _ _⟩,some ⟨_,_,_,_,.string⟩,y=>match qq9 (c.ty e),qnu σ.rw (.int .u8) y with
     | true,some l=>K (.s (zM l)) none
     | _,_=>none
   | _,_,_=>none
 | .makeFunc (.func f) u cs=>match u.toList with
   | []=>K (.fn f (cs.toList.map (evT E))) none
   | _=>none
 | .slice t x lo w none=>match c.ty t,evT E x with
   | some ⟨_,_,_,_,.string⟩,.s y=>match qgc y.length E w with
     | some h=>match qgc 0 E lo with
       | some l=>cond (inb h y.length) (cond (inb l h.toNat) (K (.s (QM y l h)) none) none) none
       | none=>none
     | none=>none
   | some ⟨_,_,_,_,.slice _ k _ _⟩,.sl τ y B=>match decide (τ.size=k)&&pos B with
     | true=>match qgc y.length E w with
       | some h=>match qgc 0 E lo with
         | some l=>cond (inb h y.length) (cond (inb l h.toNat) (K (.sl τ (QM y l h) 1) none) none) none
         | none=>none
       | none=>none
     | false=>none
   | some ⟨_,_,_,_,.slice _ _ _ _⟩,.nil=>match qgc 0 E w with
     | some h=>match qgc 0 E lo with
       | some l=>cond (inb h 0) (cond (inb l h.toNat) (K .nil none) none) none
       | none=>none
     | none=>none
   | some ⟨_,_,_,_,.slice _ k _ _⟩,.row id q=>match w,σ.rw[id]? with
     | none,some R=>match Nat.beq R.ver q&&decide (R.τ.size=k)with
       | true=>match qgc 0 E lo with
         | some l=>cond (inb l R.l.length) (K (.row id (q+1)) (some { σ with rw := σ.rw.set id ⟨R.τ,R.l.drop l.toNat,q+1,R.sv,true⟩ })) none
         | none=>none
       | false=>none
     | _,_=>none
   | _,_=>none
 | .fieldAddr t x i=>match c.ty t with
   | some ⟨_,_,_,_,.struct u⟩=>match u[i]? with
     | some (off,size,_)=>match size with
       | 0=>none
       | _+1=>match evT E x with
         | .ptr b o=>K (.ptr b (o+off)) none
         | .ept cs o=>K (.ept cs (o+off)) none
         | .rpt id q r i cs o=>K (.rpt id q r i cs (o+off)) none
         | _=>none
     | none=>none
   | _=>none
 | .field t x i=>match c.ty t,evT E x with
   | some ⟨_,_,_,_,.struct u⟩,.agg cs=>match u[i]? with
     | some (off,size,g)=>match qmN g size cs off with
       | some y=>K y none
       | none=>none
     | none=>none
   | _,_=>none
 | .indexAddr t x i=>match c.ty t,evT E i with
   | some ⟨_,_,_,_,.slice _ k _ _⟩,.i _ j=>match evT E x with
     | .sl τ l _=>match decide (τ.size=k)with
       | true=>qa (qb l j) λ v=>K (.ept (Jr τ v) 0) none
       | false=>none
     | .row id q=>match σ.rw[id]? with
       | some R=>match Nat.beq R.ver q&&decide (R.τ.size=k)with
         | true=>qa (qb R.l j) λ v=>K (.rpt id q R.sv j (Jr R.τ v) 0) none
         | false=>none
       | none=>none
     | _=>none
   | some ⟨_,_,_,_,.array n _ 1⟩,.i _ j=>match evT E x with
     | .ptr b 0=>cond (ixb j n) (K (.pti b j) none) none
     | _=>none
   | _,_=>none
 | .index t x i=>match c.ty t,evT E x,evT E i with
   | some ⟨_,_,_,_,.string⟩,.s y,.i _ j=>qa (qb y j) λ v=>K (.i .u8 v.toNat) none
   | _,_,_=>none
 | .extract x i=>match evT E x with
   | .tup vs=>match vs[i]? with
     | some y=>K y none
     | none=>none
   | _=>none
 | _=>none
def qF0(k bytes:Nat)(σ : TS)(τ : Ty)(s:TV)(xs:List (Val τ))(K:KT α):Option α :=
 match s with
 | .nil=>qkO xs (K .nil none) λ x r=>cond (zp (r.length+1) bytes) (K (.row σ.rw.length 0) (some { σ with rw := σ.rw++[⟨τ,x::r,0,0,false⟩] })) none
 | .sl b l c=>match decide (1<c)with
   | true=>match qfp l τ with
     | some l=>cond (zp (l.length+xs.length) bytes) (qkO xs (K s none) λ x r=>K (.row σ.rw.length 0) (some { σ with rw := σ.rw++[⟨τ,l++(x::r),0,0,false⟩] })) none
     | none=>none
   | false=>none
 | .row id a=>match σ.rw[id]? with
   | some R=>match Nat.beq R.ver a with
     | true=>match qfp R.l τ with
       | some l=>cond (zp (l.length+xs.length) bytes) (K (.row id (a+1)) (some { σ with rw := σ.rw.set id ⟨τ,l++xs,a+1,R.sv,R.sh⟩ })) none
       | none=>none
     | false=>none
   | none=>none
 | _=>none
def quT(c:TC)(σ : TS)(b:Builtin)(ts:Array TypeId)(f:List TV)(K:KT α):Option α :=
 match b,f with
 | .len,[x]=>match ts[0]? with
   | some t=>match c.ty t with
     | some d=>match d.k,x with
       | .string,.s y=>K (.i .i64 y.length) none
       | .slice ..,.nil=>K (.i .i64 0) none
       | .slice ..,.sl _ l _=>K (.i .i64 l.length) none
       | .slice ..,.row id g=>match σ.rw[id]? with
         | some R=>match Nat.beq R.ver g with
           | true=>K (.i .i64 R.l.length) none
           | false=>none
         | none=>none
       | _,_=>none
     | none=>none
   | none=>none
 | .append,[s,x]=>match ts[0]?,ts[1]? with
   | some t,some u=>match c.ty t,c.ty u,c.el t with
     | some ⟨_,_,_,_,.slice _ k bytes z⟩,some ⟨_,_,_,_,.slice _ _ _ _⟩,some τ => match decide (0<k)&&decide (z.length=k)&&decide (k = τ.size)with
       | true=>match qnu σ.rw τ x with
         | some xs=>qF0 k bytes σ τ s xs K
         | none=>none
       | false=>none
     | some ⟨_,_,_,_,.slice e 1 bytes z⟩,some ⟨_,_,_,_,.string⟩,some (.int .u8)=>match decide (z.length=1)&&qq9 (c.ty e),x with
       | true,.s y=>qF0 1 bytes σ (.int .u8) s (Qw y) K
       | _,_=>none
     | _,_,_=>none
   | _,_=>none
 | .max,[.i k a,.i h b]=>match decide (k=h)with | true=>K (.i k (qnZ a b)) none | false=>none
 | .min,[.i k a,.i h b]=>match decide (k=h)with | true=>K (.i k (qJU a b)) none | false=>none
 | _,_=>none
def qiD(rw:List qQ)(τ : Ty):TV->Option (List (Val τ) × List Nat)
 | .nil=>some ([],[])
 | .sl a l c=>match qfp l τ,decide (1<c)with
   | some [],true=>some ([],[])
   | _,_=>none
 | .row id b=>match rw[id]? with
   | some R=>match Nat.beq R.ver b && !R.sh with
     | true=>match qfp R.l τ with
       | some l=>some (l,[id])
       | none=>none
     | false=>none
   | none=>none
 | _=>none
def qaQ(rw:List qQ):(l:List RA)->List TV->Option (CV l × List Nat × Bool)
 | [],[]=>some ((),[],true)
 | [],_::_=>none
 | .val τ :: r,cs=>match qp9 (qkV rw τ (cs.take τ.size)),qaQ rw r (cs.drop τ.size)with
   | some v,some (vs,a,q)=>some ((v,vs),a,(cs.take τ.size).all qkX&&q)
   | _,_=>none
 | .row τ :: r,c::cs=>match qiD rw τ c,qaQ rw r cs with
   | some (v,i),some (vs,a,q)=>some ((v,vs),i++a,q)
   | _,_=>none
 | .row _::_,[]=>none
def qPe(rw:List qQ)(c:List (List TV))(l:List RA):TV->Option (CV l × List Nat × Nat)
 | .ptr b 0=>match c[b]? with
   | some cs=>match qaQ rw l cs with
     | some (v,a,true)=>some (v,a,b)
     | _=>none
   | none=>none
 | _=>none
def yK(σ : TS):(sas:List SA)->List TV->Option (QF sas × List Nat × List Nat)
 | [],[]=>some ((),[],[])
 | .val τ :: r,x::xs=>match qo7 x,qgs σ.rw τ x with
   | true,some v=>match yK σ r xs with
     | some (vs,q)=>some ((v,vs),q)
     | none=>none
   | _,_=>none
 | .row τ :: r,x::xs=>match qiD σ.rw τ x with
   | some (l,a)=>match yK σ r xs with
     | some (vs,d,c)=>some ((l,vs),d,a++c)
     | none=>none
   | none=>none
 | .box l::r,x::xs=>match qPe σ.rw σ.bx l x with
   | some (v,a,b)=>match yK σ r xs with
     | some (vs,d,c)=>some ((toB l v,vs),b::d,a++c)
     | none=>none
   | none=>none
 | .nil::r,.nil::xs=>yK σ r xs
 | .clo g k::r,.fn e cs::xs=>match Nat.beq g e&&Nat.beq cs.length k with
   | true=>yK σ r (cs++xs)
   | false=>none
 | _,_=>none
def ndN:List Nat->Bool
 | []=>true
 | b::l=>(l.all λ c => !Nat.beq b c)&&ndN l
def qfg(rw:List qQ)(a:List Nat):List qQ:=a.foldl (λ l i=>l.modify i λ R=>⟨R.τ,[],R.ver+1,R.sv,false⟩) rw
def qcV:(l:List RA)->Nat->CV l->List TV
 | [],_,_=>[]
 | .val τ :: r,L,v=>Jr τ v.1++qcV r L v.2
 | .row _::r,L,v => .row L 0::qcV r (L+1) v.2
def Qz:(l:List RA)->CV l->List qQ
 | [],_=>[]
 | .val _::r,v=>Qz r v.2
 | .row τ :: r,v=>⟨τ,v.1,0,0,false⟩::Qz r v.2
def qe8:(sas:List SA)->Nat->j7 sas->List (List TV)
 | [],_,_=>[]
 | .box l::r,L,o=>qcV l L (toC l o.1)::qe8 r (L+nR l) o.2
 | .nil::r,L,o=>qe8 r L o
 | .val _::r,L,o=>qe8 r L o
 | .row _::r,L,o=>qe8 r L o
 | .clo _ _::r,L,o=>qe8 r L o
def qaR:(sas:List SA)->j7 sas->List qQ
 | [],_=>[]
 | .box l::r,o=>Qz l (toC l o.1)++qaR r o.2
 | .nil::r,o=>qaR r o
 | .val _::r,o=>qaR r o
 | .row _::r,o=>qaR r o
 | .clo _ _::r,o=>qaR r o
def qnx(a:List (List TV)):List Nat->List (List TV)->List (List TV)
 | b::c,x::xs=>qnx (a.set b x) c xs
 | _,_=>a
def qhu(nb NB:Nat):(a:List RE)->Nat->RV a->List TV
 | [],_,_=>[]
 | .one (.val τ)::r,L,v=>qur τ v.1::qhu nb NB r L v.2
 | .one (.row _)::r,L,v => .row L 0::qhu nb NB r (L+1) v.2
 | .agg l::r,L,v => .agg (qcV l L v.1)::qhu nb NB r (L+nR l) v.2
 | .opt _::r,L,v => .dead::qhu nb NB r L v.2
 | .elt _::r,L,v => .dead::qhu nb NB r L v.2
 | .nilp::r,L,v => .c (.pointer none)::qhu nb NB r L v
 | .box n l::r,L,v => .ptr (nb+(n-NB)) 0::qhu nb NB r (L+nR l) v.2
 | .eltI d τ :: r,L,v => .rpt (L-d) 0 0 v.1.1 (Jr τ v.1.2) 0::qhu nb NB r L v.2
def qha:(a:List RE)->RV a->List qQ
 | [],_=>[]
 | .one (.val _)::r,v=>qha r v.2
 | .one (.row τ)::r,v=>⟨τ,v.1,0,0,false⟩::qha r v.2
 | .agg l::r,v=>Qz l v.1++qha r v.2
 | .opt _::r,v=>qha r v.2
 | .elt _::r,v=>qha r v.2
 | .nilp::r,v=>qha r v
 | .box _ l::r,v=>Qz l (toC l v.1)++qha r v.2
 | .eltI _ _::r,v=>qha r v.2
def qij:(a:List RE)->Nat->RV a->List (List TV)
 | [],_,_=>[]
 | .one (.val _)::r,L,v=>qij r L v.2
 | .one (.row _)::r,L,v=>qij r (L+1) v.2
 | .agg l::r,L,v=>qij r (L+nR l) v.2
 | .opt _::r,L,v=>qij r L v.2
 | .elt _::r,L,v=>qij r L v.2
 | .nilp::r,L,v=>qij r L v
 | .box _ l::r,L,v=>qcV l L (toC l v.1)::qij r (L+nR l) v.2
 | .eltI _ _::r,L,v=>qij r L v.2
def nRA:RA->Nat
 | .val _=>0
 | .row _=>1
def qbP(rws:List qQ):(h:List RE)->Nat->Nat->RV h->((g:List RE)->RV g->Option α)->Option α
 | [],_,_,_,k=>k [] ()
 | .one a::r,nb,d,v,k=>qbP rws r nb (d+nRA a) v.2 λ f c=>k (.one a::f) (v.1,c)
 | .agg l::r,nb,d,v,k=>qbP rws r nb (d+nR l) v.2 λ f c=>k (.agg l::f) (v.1,c)
 | .opt l::r,nb,d,v,k=>qhl v.1 (qbP rws r nb d v.2 λ f c=>k (.nilp::f) c) λ b=>qbP rws r (nb+1) (d+nR l) v.2 λ f c=>k (.box nb l::f) (b,c)
 | .elt p::r,nb,d,v,k=>qhl v.1 (qbP rws r nb d v.2 λ f c=>k (.nilp::f) c) λ i=>match rws[p]? with
   | some R=>qa (qb R.l i) λ e=>qbP rws r nb d v.2 λ f c=>k (.eltI (d-p) R.τ :: f) ((i,e),c)
   | none=>none
 | .nilp::_,_,_,_,_=>none
 | .box _ _::_,_,_,_,_=>none
 | .eltI _ _::_,_,_,_,_=>none
def qCB(σ : TS)(g:qqR)(b:List TV)(K:KT α):Option α := match b with
 | x::xs=>match qiD σ.rw g.τ x,yK σ g.args xs with
   | some (l,c),some (a,[],[])=>match qlj g.args with
     | true=>match c with
       | [id]=>qa (g.fn (l,a)) λ v=>cond (Nat.beq v.length l.length) (K (.tup []) (some ⟨σ.bx,σ.rw.modify id λ R=>⟨g.τ,v,R.ver,R.sv+1,false⟩⟩)) none
       | []=>qa (g.fn (l,a)) λ v=>cond (Nat.beq v.length l.length) (K (.tup []) none) none
       | _=>none
     | false=>none
   | _,_=>none
 | []=>none
def qBW(σ : TS)(g:quk)(b:List TV)(K:KT α):Option α := match yK σ g.args b with
 | some (a,d,c)=>match ndN d&&(ndN c&&qlj g.args)with
   | true=>qa (g.fn a) λ v=>K (.i .i64 v) none
   | false=>none
 | none=>none
def qu2(c:TC)(σ : TS)(f:Nat)(b:List TV)(K:KT α):Option α := match c.mf f with
 | some g=>qCB σ g b K
 | none=>match c.xf f with
   | some g=>qBW σ g b K
   | none=>match c.sf f with
     | some g=>match yK σ g.args b with
       | some (a,i,h)=>match ndN i&&(ndN h&&qlj g.args)with
         | true=>qa (g.fn a) λ v=>qbP (qaR g.args v.1) g.res (nBx g.args) (nrB g.args) v.2 λ d e=>K (qwn (qhu σ.bx.length (nBx g.args) d (σ.rw.length+nrB g.args) e)) (some ⟨qnx σ.bx i (qe8 g.args σ.rw.length v.1)++qij d (σ.rw.length+nrB g.args) e,qfg σ.rw h++(qaR g.args v.1++qha d e)⟩)
         | false=>none
       | none=>none
     | none=>none
def qGN(c:TC)(σ : TS)(f:Nat)(a:List TV)(K:KT α):Option α :=
 match c.has f,c.pf f (qpu a)with
 | true,some g=>match qwf σ.rw g.args a with
   | some sas=>qa (g.fn sas) λ v=>K (qwn (unL g.res v)) (match a.all qo7||g.res.all qu8 with | true=>none | false=>some (shA σ))
   | none=>none
 | true,none=>none
 | false,_=>qu2 c σ f a K
def opT(c:TC)(E:Env)(σ : TS)(op:Op)(K:KT α):Option α :=
 match op with
 | .call ⟨.builtin b,a,ts⟩=>quT c σ b ts (a.toList.map (evT E)) K
 | .call ⟨.value g,a,_⟩=>match evT E g with
   | .fn f []=>qGN c σ f (a.toList.map (evT E)) K
   | .fn f (x::cs)=>match c.has f with
     | true=>none
     | false=>qu2 c σ f (a.toList.map (evT E)++(x::cs)) K
   | _=>none
 | .call _=>none
 | op=>Q0 c E σ op K
def qA3(c:TC)(E:Env)(d:Option Tmp)(x:TV)(K:Env->Option α):Option α := match d with
 | none=>K E
 | some d=>match Nat.blt d c.nt with
   | true=>K ((d,x)::E)
   | false=>none
def qGL(ops:Array Oper)(E:Env)(o:Oper)(K:Bool->Env->Option α):Option α :=
 match o.guard with
 | none=>K true E
 | some (j,a)=>match(ops[j]?).bind (·.dst)with
   | none=>none
   | some d=>match get E d with
     | .b x=>match a with
       | true=>cond x (K true ((d,.b true)::E)) (K false ((d,.b false)::E))
       | false=>cond x (K false ((d,.b true)::E)) (K true ((d,.b false)::E))
     | .tup []=>K false E
     | _=>none
end
def qpP(E:Env)(ops:Array Oper)(k:Nat)(t:Tmp):Option Nat:=match qAL ops k t with
 | some u=>match get E u with
   | .ptr b _=>some b
   | _=>none
 | none=>none
def qJO(E:Env)(ops:Array Oper)(k:Nat)(t:Tmp):Bool:=match qAL ops k t with
 | some u=>match get E u with
   | .rpt .. => true
   | _=>false
 | none=>false
mutual
def rbT:TV->Option (List Nat)
 | .ptr b _=>some [b]
 | .pti b _=>some [b]
 | .fn _ cs=>qq3 cs
 | .agg cs=>qq3 cs
 | .tup cs=>qq3 cs
 | .dead=>none
 | _=>some []
def qq3:List TV->Option (List Nat)
 | []=>some []
 | x::l=>match rbT x,qq3 l with
   | some a,some b=>some (a++b)
   | _,_=>none
end
def qKq(σ : TS)(b:Nat):Bool:=match σ.bx[b]? with
 | some cs=>match qq3 cs with
   | some []=>true
   | _=>false
 | none=>false
def qIo(E:Env)(σ : TS):Op->Option (List Nat)
 | .call ⟨.value g,as,_⟩=>match evT E g with
   | .fn _ cs=>match qq3 (as.toList.map (evT E)++cs)with
     | some l=>match l.all (qKq σ)with
       | true=>some l
       | false=>none
     | none=>none
   | _=>none
 | _=>none
def qv9(ops:Array Oper)(j:Nat)(E:Env)(σ : TS)(op:Op):Bool := !qyc op||ops.toList.zipIdx.all λ(q,i)=>match q.op with
 | .load _ (.tmp a)=>((JK ops.toList []).getD (max i j) 0).testBit (min i j)||match qpP E ops i a,qIo E σ op with
   | some y,some l=>Nat.blt y σ.bx.length&&l.all λ c => !Nat.beq c y
   | _,_=>false
 | _=>true
section
variable {α : Type}
def qln(c:TC)(ops:Array Oper)(b:Bool):List Oper->Env->TS->(Env->TS->Option α)->Option α
 | [],E,σ,K=>K E σ
 | o::a,E,σ,K=>qGL ops E o λ w E=>match w with
   | true=>opT c E σ o.op λ x σ'=>match σ' with
     | none=>qA3 c E o.dst x λ E=>qln c ops b a E σ K
     | some σ'=>match b && !(yp c.loT o.op&&qv9 ops (ops.size-(a.length+1)) E σ o.op)with
       | true=>none
       | false=>qA3 c E o.dst x λ E=>qln c ops b a E σ' K
   | false=>qA3 c E o.dst (.tup []) λ E=>qln c ops b a E σ K
structure Mv where
 E:Env
 bx:List (List TV)
 rw:List qQ
 mb:List (Nat × Nat)
 mr:List (Nat × Nat)
def jS(l:List (Nat × Nat))(b:Nat):Option Nat:=match l with
 | []=>none
 | p::r=>match Nat.beq p.1 b with
   | true=>some p.2
   | false=>jS r b
def qBZ:TV->Bool
 | .i .. | .b _ | .s _ | .c _ | .nil | .sl .. => true
 | .fn _ cs=>cs.isEmpty
 | .agg cs=>cs.all λ | .i .. | .b _ | .s _ | .c _ | .nil | .sl .. => true | _=>false
 | _=>false
mutual
def mvT(σ : TS)(i:Co)(x:TV)(m:Mv)(K:TV->Mv->Option α):Option α :=
 match i with
 | .keep=>match qBZ x with
   | true=>K x m
   | false=>K .dead m
 | .list τ => match x with
   | .nil=>K (.sl τ [] 1) m
   | .sl a l _=>match qfp l τ with
     | some l=>K (.sl τ l 1) m
     | none=>none
   | _=>K .dead m
 | .plist τ => match x with
   | .nil=>K (.sl τ [] 1) m
   | .sl a l _=>match qfp l τ with
     | some l=>K (.sl τ l 1) m
     | none=>none
   | _=>K .dead m
 | .row τ d=>match x with
   | .nil=>K (.row m.rw.length 0) { m with rw:=m.rw++[⟨τ,[],0,0,d⟩] }
   | .sl a l h=>match qfp l τ,decide (1<h)with
     | some l,true=>match d with
       | true=>K (.row m.rw.length 0) { m with rw:=m.rw++[⟨τ,l,0,0,true⟩] }
       | false=>match l with
         | []=>K (.row m.rw.length 0) { m with rw:=m.rw++[⟨τ,[],0,0,false⟩] }
         | _=>none
     | _,_=>none
   | .row id e=>match σ.rw[id]? with
     | some R=>match Nat.beq R.ver e&&(d || !R.sh)with
       | true=>match qfp R.l τ with
         | some l=>match jS m.mr id with
           | some g=>K (.row g 0) m
           | none=>K (.row m.rw.length 0) { m with rw:=m.rw++[⟨τ,l,0,0,d⟩],mr:=(id,m.rw.length)::m.mr }
         | none=>none
       | false=>none
     | none=>none
   | _=>none
 | .fn cs=>match x with
   | .fn f xs=>mvL σ cs xs m λ ys m=>K (.fn f ys) m
   | _=>none
 | .box cs=>match x with
   | .ptr b 0=>match jS m.mb b with
     | some b'=>K (.ptr b' 0) m
     | none=>match σ.bx[b]? with
       | some xs=>mvL σ cs xs m λ ys m=>match jS m.mb b with
         | none=>K (.ptr m.bx.length 0) { m with bx:=m.bx++[ys],mb:=(b,m.bx.length)::m.mb }
         | some _=>none
       | none=>none
   | .c v=>K (.c v) m
   | _=>none
def mvL(σ : TS)(cs:List Co)(xs:List TV)(m:Mv)(K:List TV->Mv->Option α):Option α :=
 match cs,xs with
 | [],[]=>K [] m
 | co::cs,x::xs=>mvT σ co x m λ y m=>mvL σ cs xs m λ ys m=>K (y::ys) m
 | _,_=>none
end
def qBn(a:List (Nat × Nat)):Nat->Bool
 | 0=>true
 | n+1=>(match jS a n with | some j=>Nat.beq n j | none=>false)&&qBn a n
def mvE(a:Nat)(σ : TS)(E:Env):List (Tmp × Co)->Mv->(Env->TS->Option α)->Option α
 | [],m,K=>match qBn m.mb a with
   | true=>K m.E ⟨m.bx,m.rw⟩
   | false=>none
 | (t,b)::r,m,K=>mvT σ b (get E t) m λ y m=>mvE a σ E r { m with E:=m.E++[(t,y)] } K
def qGf(E:Env)(σ : TS)(t:Tmp)(τ : Ty)(K:Env->TS->Option α):Option α := match get E t with
 | .i .. => K E σ
 | .b _=>K E σ
 | .s _=>K E σ
 | .c _=>K E σ
 | .nil=>K E σ
 | .sl .. => K E σ
 | .row id a=>match σ.rw[id]? with
   | some R=>match Nat.beq R.ver a with
     | true=>match qfp R.l τ with
       | some l=>K ((t,.sl τ l 1)::E) (shA σ)
       | none=>none
     | false=>none
   | none=>none
 | .dead=>K E (shA σ)
 | _=>none
def qtQ:List (Tmp × Co)->Env->TS->(Env->TS->Option α)->Option α
 | [],E,σ,K=>K E σ
 | (t,a)::r,E,σ,K=>match a with
   | .plist τ => qGf E σ t τ λ E σ => qtQ r E σ K
   | _=>qtQ r E σ K
def qsI(E:Env)(ops:Array Oper)(j:Nat)(o:Oper)(i:Nat)(q:Oper):Bool:=match o.op,q.op with
 | .store _ (.tmp a) _,.load _ (.tmp b)=>match qpP E ops j a,qpP E ops i b with
   | some x,some y => !Nat.beq x y
   | some _,none=>qJO E ops i b
   | _,_=>false
 | .call ⟨.builtin .append,_,_⟩,.load _ (.tmp b)=>(qpP E ops i b).isSome
 | .call ⟨.value _,_,_⟩,.load _ (.tmp b)=>(qpP E ops i b).isSome
 | _,_=>false
def qL7(a:Nat->Bool)(E:Env)(ops:Array Oper)(j:Nat)(o:Oper)(i:Nat)(q:Oper):Bool :=
 (match q.dst with | some d=>(qfJ ops o).contains d | none=>false)||(qpO a o q && !(qsI E ops j o i q||qsI E ops i q j o))
def qsG(c:Nat->Bool)(E:Env)(ops:Array Oper)(a:Bool):Bool:=match a with
 | true =>
   let b:=JK ops.toList []
   ops.toList.zipIdx.all λ(o,j)=>((jN o).all λ e=>decide (e<j))&&ops.toList.zipIdx.all λ(q,i) =>
    decide (i=j) || !qL7 c E ops j o i q||(b.getD (max i j) 0).testBit (min i j)
 | false=>true
def slT:TV->Bool
 | .sl .. => true
 | .row .. => true
 | _=>false
def qGX(E:Env)(ops:Array Oper):Bool:=match qhZ ops with
 | p::_=>match p.op with
   | .indexAddr _ u _=>slT (evT E u)
   | _=>false
 | []=>false
def qJD:TV->Bool
 | .ptr _ _=>true
 | _=>false
def qeU:Code->Nat
 | .region id _ _=>id
 | .seq a _=>qeU a
 | .block _ b=>qeU b
 | .loop b=>qeU b
 | .cond _ a _=>qeU a
 | _=>0
def qgV:List (Tmp × Co)->List Nat
 | []=>[]
 | (t,a)::r=>match a with
   | .plist _=>t::qgV r
   | _=>qgV r
def TC.pur(c:TC)(b:Code):List Nat:=match c.loop (qeU b)with
 | some l=>qgV l
 | none=>[]
def qHg(E:Env)(x:Operand)(b:Bool):Env:=match x with
 | .tmp t=>(t,.b b)::E
 | _=>E
def J0(c:TC)(f:Env->TS->Option α)(L:List It->Env->TS->Option α):Nat->List It->Ex->Env->TS->Option α
 | 0,_,_,_,_=>none
 | _+1,[],e,E,σ => match e with
   | .exit _=>none
   | _=>f E σ
 | N+1,.code cd::k,e,E,σ => match e with
   | .normal=>match cd with
     | .skip=>J0 c f L N k .normal E σ
     | .label _=>J0 c f L N k .normal E σ
     | .region _ ops d=>match qlM ops d with
       | true=>match qjG c.loT ops.toList&&(qsG c.loT E ops true&&qsG c.loT E ⟨zj c.loT ops.toList⟩ true)with
         | true=>qln c ⟨zj c.loT ops.toList⟩ true (zj c.loT ops.toList) E σ λ E σ => qln c ops false (alL c.loT ops.toList) E σ λ E σ => qln c ops true (qsj c.loT ops.toList) E σ λ E σ => J0 c f L N k .normal E σ
         | false=>none
       | false=>match qra ops d with
         | some p=>match qsG c.loT E (qcI ops) true with
           | true=>qln c (qcI ops) true (qcI ops).toList E σ λ E σ => match qJD (get E p)&&qGX E ops with
             | true=>qln c ops true (qhZ ops) E σ λ E σ => J0 c f L N k .normal E σ
             | false=>none
           | false=>none
         | none=>match qsG c.loT E ops d with
           | true=>qln c ops d ops.toList E σ λ E σ => J0 c f L N k .normal E σ
           | false=>none
     | .seq a b=>J0 c f L N (.code a :: .code b::k) .normal E σ
     | .cond x a b=>match evT E x with
       | .b y=>cond y (J0 c f L N (.code a::k) .normal (qHg E x true) σ) (J0 c f L N (.code b::k) .normal (qHg E x false) σ)
       | _=>none
     | .block id b=>J0 c f L N (.code b :: .blk id::k) .normal E σ
     | .loop b=>match c.loop (qeU b)with
       | some l=>qtQ l E σ λ E σ => mvE c.np σ E l ⟨[],[],[],[],[]⟩ λ E σ => L (.code (.loop b)::k) E σ
       | none=>none
     | .exit id=>J0 c f L N k (.exit id) E σ
     | .ret=>J0 c f L N k .ret E σ
     | _=>none
   | e=>J0 c f L N k e E σ
 | N+1,.blk id::k,e,E,σ => match e with
   | .exit i=>match Nat.beq i id with
     | true=>match c.join id with
       | some l=>mvE c.np σ E l ⟨[],[],[],[],[]⟩ λ E σ => L k E σ
       | none=>J0 c f L N k .normal E σ
     | false=>J0 c f L N k (.exit i) E σ
   | .normal=>match c.join id with
     | some l=>mvE c.np σ E l ⟨[],[],[],[],[]⟩ λ E σ => L k E σ
     | none=>J0 c f L N k .normal E σ
   | .ret=>J0 c f L N k .ret E σ
 | _+1,.ops .. :: _,_,_,_=>none
def qBK(c:TC)(a:Env->TS->Option α)(L:List It->Env->TS->Option α)(N:Nat)(d:List It)(E:Env)(σ : TS):Option α :=
 match d with
 | .code (.loop b)::k=>match c.loop (qeU b)with
   | some l=>qtQ l E σ λ E σ => J0 c a L N (.code b :: .code (.loop b)::k) .normal E σ
   | none=>J0 c a L N (.code b :: .code (.loop b)::k) .normal E σ
 | d=>J0 c a L N d .normal E σ
def qpa(c:TC)(a:Env->TS->Option α)(N:Nat):Nat->List It->Env->TS->Option α
 | 0 => λ _ _ _=>none
 | n+1=>qBK c a (qpa c a N n) N
end
def qn0(c:TC)(E:Env)(σ : TS):ResultVar->Option TV
 | .tmp t=>some (get E t)
 | .cell a t=>match c.ty t,get E a with
   | some d,.ptr b o=>match σ.bx[b]? with
     | some cs=>qmN d.agg d.size cs o
     | none=>none
   | _,_=>none
def qjU(c:TC):(ts:List Ty)->List ResultVar->Env->TS->Option (qe2 ts)
 | [],[],_,_=>some ()
 | [a],[r],E,σ => match qn0 c E σ r with
   | some x=>qgs σ.rw a x
   | none=>none
 | a::b::ts,r::d,E,σ => match qn0 c E σ r with
   | some x=>match qgs σ.rw a x with
     | some v=>match qjU c (b::ts) d E σ with
       | some vs=>some (v,vs)
       | none=>none
     | none=>none
   | none=>none
 | _,_,_,_=>none
def qlA:(sas:List SA)->Nat->Nat->QF sas->List TV
 | [],_,_,_=>[]
 | .val τ :: r,nb,b,a=>qur τ a.1::qlA r nb b a.2
 | .row _::r,nb,b,a => .row b 0::qlA r nb (b+1) a.2
 | .box l::r,nb,b,a => .ptr nb 0::qlA r (nb+1) (b+nR l) a.2
 | .nil::r,nb,b,a => .nil::qlA r nb b a
 | .clo g k::r,nb,b,a => .fn g ((qlA r nb b a).take k)::(qlA r nb b a).drop k
def sBx:(sas:List SA)->Nat->QF sas->List (List TV)
 | [],_,_=>[]
 | .nil::r,b,a=>sBx r b a
 | .clo _ _::r,b,a=>sBx r b a
 | .val _::r,b,a=>sBx r b a.2
 | .row _::r,b,a=>sBx r (b+1) a.2
 | .box l::r,b,a=>qcV l b (toC l a.1)::sBx r (b+nR l) a.2
def sRw:(sas:List SA)->QF sas->List qQ
 | [],_=>[]
 | .nil::r,a=>sRw r a
 | .clo _ _::r,a=>sRw r a
 | .val _::r,a=>sRw r a.2
 | .row τ :: r,a=>⟨τ,a.1,0,0,false⟩::sRw r a.2
 | .box l::r,a=>Qz l (toC l a.1)++sRw r a.2
def qiv(σ : TS):(sas:List SA)->Nat->Option (j7 sas × List Nat × Bool)
 | [],_=>some ((),[],true)
 | .nil::r,n=>qiv σ r n
 | .clo _ _::r,n=>qiv σ r n
 | .val _::r,n=>qiv σ r n
 | .row _::r,n=>qiv σ r n
 | .box l::r,n=>match σ.bx[n]? with
   | some cs=>match qaQ σ.rw l cs,qiv σ r (n+1)with
     | some (v,i,q),some (o,a,b)=>some ((toB l v,o),i++a,q&&b)
     | _,_=>none
   | none=>none
def qcj(c:TC)(E:Env)(σ : TS)(g:List Nat):(e:List RE)->List ResultVar->Option (RV e × List Nat × List Nat × Bool)
 | [],[]=>some ((),[],[],true)
 | .one (.val a)::e,r::l=>match qn0 c E σ r with
   | some x=>match qgs σ.rw a x,qcj c E σ g e l with
     | some v,some (vs,d,f,q)=>some ((v,vs),d,f,qo7 x&&q)
     | _,_=>none
   | none=>none
 | .one (.row a)::e,r::l=>match qn0 c E σ r with
   | some x=>match qiD σ.rw a x,qcj c E σ g e l with
     | some (v,i),some (vs,d,f,q)=>some ((v,vs),i++d,f,q)
     | _,_=>none
   | none=>none
 | .agg p::e,r::l=>match qn0 c E σ r with
   | some (.agg cs)=>match qaQ σ.rw p cs,qcj c E σ g e l with
     | some (v,i,j),some (vs,d,f,q)=>some ((v,vs),i++d,f,j&&q)
     | _,_=>none
   | _=>none
 | .opt p::e,r::l=>match qn0 c E σ r with
   | some (.c (.pointer none))=>match qcj c E σ g e l with
     | some (vs,d,f,q)=>some ((none,vs),d,f,q)
     | none=>none
   | some (.ptr b 0)=>match σ.bx[b]? with
     | some cs=>match qaQ σ.rw p cs,qcj c E σ g e l with
       | some (v,i,j),some (vs,d,f,q)=>some ((some (toB p v),vs),i++d,b::f,j&&q)
       | _,_=>none
     | none=>none
   | _=>none
 | .elt p::e,r::l=>match qn0 c E σ r with
   | some (.c (.pointer none))=>match qcj c E σ g e l with
     | some (vs,d,f,q)=>some ((none,vs),d,f,q)
     | none=>none
   | some (.rpt id h m i _ 0)=>match σ.rw[id]?,g[p]?,qcj c E σ g e l with
     | some R,some k,some (vs,d,f,q)=>match Nat.beq R.ver h&&(Nat.beq R.sv m&&Nat.beq id k)with
       | true=>some ((some i,vs),d,f,q)
       | false=>none
     | _,_,_=>none
   | _=>none
 | _,_=>none
def qHv(n:Nat)(l:List Nat):List Nat:=match Nat.beq l.length n with
 | true=>l
 | false=>[]
def qx6(c:TC)(sas:List SA)(d:List RE)(l:List ResultVar)(E:Env)(σ : TS):Option (j7 sas × RV d):=match qiv σ sas 0 with
 | some (o,i,q)=>match qcj c E σ (qHv (nrB sas) i) d l with
   | some (v,a,e,f)=>match ndN (i++a)&&(((i++a).isEmpty||(q&&f))&&(ndN e&&e.all λ b=>Nat.ble (nBx sas) b))with
     | true=>some (o,v)
     | false=>none
   | none=>none
 | none=>none
def qhe:Nat->List TV->Env
 | _,[]=>[]
 | n,x::l=>(n,x)::qhe (n+1) l
end Go.AmZ
namespace Go.AmZ
open Go Go.RowKit Go.GxZ
mutual
def qKb:T->List AV
 | .mk k n s l=>[.v (.int .i64 k),.v (.string ⟨n.toArray⟩),.v (.int .i64 s),.sl 4 (qCV l) 0]
def qCV:List T->List (List AV)
 | []=>[]
 | t::l=>qKb t::qCV l
end
mutual
def qNY:AV->Option (List T)
 | .v (.slice none 0 0)=>some []
 | .sl 4 es _=>qCq es
 | _=>none
def qCq:List (List AV)->Option (List T)
 | []=>some []
 | e::es=>match qJV e with
   | some t=>match qCq es with
     | some l=>some (t::l)
     | none=>none
   | none=>none
def qJV:List AV->Option T
 | [.v (.int .i64 k),.v (.string n),.v (.int .i64 s),x]=>match qNY x with
   | some l=>some (.mk k n.data.toList s l)
   | none=>none
 | _=>none
end
mutual
theorem qK1:∀ t:T,qJV (qKb t)=some t
 | .mk k n s l=>by
   rw[qKb,qJV,qNY,qB0 l]
theorem qB0:∀ l:List T,qCq (qCV l)=some l
 | []=>by rw[qCV,qCq]
 | t::l=>by rw[qCV,qCq,qK1 t,qB0 l]
end
theorem QK.len:∀{xs ys:List AV},QK xs ys->xs.length=ys.length
 | _,_,.nil=>rfl
 | _,_,.cons _ t=>by simp[t.len]
theorem QK.get:∀{xs ys:List AV},QK xs ys->∀(i:Nat) (y:AV),ys[i]?=some y->∃ x,xs[i]?=some x/\Sub x y
 | _,_,.nil,i,y,h=>by simp at h
 | _,_,.cons a t,0,y,h=>by simp at h;subst h;exact⟨_,rfl,a⟩
 | _,_,.cons a t,i+1,y,h=>by simpa using t.get i y (by simpa using h)
theorem qJM{xs ys:List AV}(h:QK xs ys):Sub (.agg xs) (.agg ys):=by
 intro Γ u a;cases a with
 | agg cs us c d b =>
   have:=h.rep (RepL.mk c b);exact .agg _ _ this.len d this.rep
end Go.AmZ
namespace Go.AmZ
open Go Go.RowKit
def Q3(R:Row):Row:=⟨R.k,[],0,1,false⟩
theorem qpc{Γ Γ':Gh}{x:AV}{u:Value}(a:∀ b o u,Γ.mem b o=some u -> Γ'.mem b o=some u)(h:Rep Γ x u)(d:rb x=[])(c:rr x=[]):Rep Γ' x u:=by
 have:=qsM (Γ' := Γ') (fb := λ b=>b) (fr := λ r=>r) a h (by rw[d];intro b hb;cases hb) (by rw[c];intro b hb;cases hb)
 rwa [qBr]at this
theorem qFQ:∀{cs:List AV},rbL cs=[]->∀ x∈cs,rb x=[]
 | [],_,x,a=>by cases a
 | y::cs,h,x,a=>by
   simp only[rbL,wU]at h;rcases wx.1 a with rfl | a
   ·exact h.1
   ·exact qFQ h.2 x a
theorem qFe:∀{cs:List AV},rrL cs=[]->∀ x∈cs,rr x=[]
 | [],_,x,a=>by cases a
 | y::cs,h,x,a=>by
   simp only[rrL,wU]at h;rcases wx.1 a with rfl | a
   ·exact h.1
   ·exact qFe h.2 x a
theorem qIQ{Γ Γ':Gh}{cs:List AV}{us:List Value}(d:∀ b o u,Γ.mem b o=some u -> Γ'.mem b o=some u)(h:RepL Γ cs us)(f:rbL cs=[])(e:rrL cs=[]):RepL Γ' cs us :=
 ⟨h.len,λ i x u a c=>qpc d (h.rep i x u a c) (qFQ f x (wa a)) (qFe e x (wa a))⟩
theorem qvw{x:AV}(h:qy x=true):rb x=[]/\rr x=[]:=(qgZ (fb := λ b=>b) (fr := λ r=>r) h).2
structure qGE (σ1:St) (fs:List Nat) (so:Option Nat) (R:Row):Prop where
 fz:R.fz=0
 ver:R.ver=0
 pos:0<R.k
 len:∀ e∈R.c,e.length=R.k
 plain:∀ e∈R.c,∀ x∈e,qy x=true
 src:match so with
  | none=>R.c=[]
  | some j=>∃ Q,σ1.rw[j]?=some Q/\Q.k=R.k/\Q.fz=0/\Q.c.length=R.c.length/\(∀(i:Nat) (e e':List AV),Q.c[i]?=some e->R.c[i]?=some e'->QK e e')/\j ∉ fs/\Q.off=false
def qiS(nb:Nat)(kb:List Nat)(i:Nat):Nat:=if i<nb then i else kb.getD (i-nb) 0
def yQ(a:Gh)(m:Nat->Nat->Option Value)(nb:Nat)(kb:List Nat)(L:Nat)(qf:List (Option Nat × Row)):Gh :=
 { mem:=m,nb:=nb+kb.length,β := λ i=>a.β (qiS nb kb i),nr:=L+qf.length,ver := λ r=>if r<L then a.ver r+1 else 0,
   k := λ r=>if r<L then a.k r else match qf[r-L]? with | some p=>p.2.k | none=>1,
   cur := λ r=>if r<L then a.cur r else match qf[r-L]? with | some (some j,_)=>a.cur j | _=>0,
   sz := λ r=>if r<L then 0 else match qf[r-L]? with | some (some j,_)=>a.sz j | _=>0,of := λ _=>0 }
theorem qqW{y d:Gh}{σ0 σ1:St}{w0 I:World}(G:Inv y σ0 w0)(t:Ext y w0 d I)(F:Inv d σ1 I)(ag : σ0.bx.length <= σ1.bx.length)
  (z:List (List AV)) (kb:List Nat) (ac:z.length = σ0.bx.length+kb.length) (N:∀ b∈kb,σ0.bx.length<=b/\b < σ1.bx.length) (af:kb.Nodup) (K:List Nat) (qf:List (Option Nat × Row)) (ad:∀(i:Nat) (cs:List AV),z[i]?=some cs->∃ ds,σ1.bx[qiS σ0.bx.length kb i]?=some ds/\∀ m,Fz d m->(∀ r∈K,∀ R,σ1.rw[r]?=some R->Qx { d with mem:=m } r R)->∀ us,RepL d ds us->RepL (yQ d m σ0.bx.length kb σ0.rw.length qf) cs us)
  (hn:∀(a:Nat) (so:Option Nat) (R:Row),qf[a]?=some (so,R)->qGE σ1 K so R) (hd:∀(a b j:Nat) (R R':Row),qf[a]?=some (some j,R)->qf[b]?=some (some j,R')->a=b) (wl aa:List Nat) :
  ∃ m,Fz d m/\(∀ r∈K,∀ R,σ1.rw[r]?=some R->Qx { d with mem:=m } r R)/\Ext y w0 (yQ d m σ0.bx.length kb σ0.rw.length qf) I/\Inv (yQ d m σ0.bx.length kb σ0.rw.length qf) ⟨z,σ0.rw.map Q3++qf.map (·.2),wl,aa⟩ I:=by
 obtain⟨m,W,V,m3⟩:=qdh K F σ1.wrr;have am : σ0.bx.length<=d.nb:=by rw[F.nb];exact ag
 have ae:∀ b o u,d.mem b o=some u->m b o=some u:=W.le.mem
 have B:∀{i:Nat},i < σ0.bx.length+kb.length->qiS σ0.bx.length kb i<d.nb := λ{i} f=>by
  unfold qiS;split
  ·grind
  ·rw[List.getD_eq_getElem?_getD,List.getElem?_eq_getElem (show i - σ0.bx.length<kb.length by omega),F.nb];exact(N _ (wW _)).2
 have ah:∀{i j:Nat},i < σ0.bx.length+kb.length->j < σ0.bx.length+kb.length->qiS σ0.bx.length kb i=qiS σ0.bx.length kb j->i=j := λ{i j} f O g=>by
  unfold qiS at g;split at g<;>split at g
  ·exact g
  ·rw[List.getD_eq_getElem?_getD,List.getElem?_eq_getElem (show j - σ0.bx.length<kb.length by omega)]at g;have g:i=kb[j - σ0.bx.length]:=g;have:=(N _ (wW (show j - σ0.bx.length<kb.length by omega))).1;omega
  ·rw[List.getD_eq_getElem?_getD,List.getElem?_eq_getElem (show i - σ0.bx.length<kb.length by omega)]at g;have g:kb[i - σ0.bx.length]=j:=g;have:=(N _ (wW (show i - σ0.bx.length<kb.length by omega))).1;omega
  ·rw[List.getD_eq_getElem?_getD,List.getD_eq_getElem?_getD,List.getElem?_eq_getElem (show i - σ0.bx.length<kb.length by omega),List.getElem?_eq_getElem (show j - σ0.bx.length<kb.length by omega)]at g;have g:kb[i - σ0.bx.length]=kb[j - σ0.bx.length]:=g;have:=(List.getElem_inj (h₀ := by omega) (h₁ := by omega) af).1 g;omega
 have A:∀{r:Nat},¬ r < σ0.rw.length->(yQ d m σ0.bx.length kb σ0.rw.length qf).sz r≠0->∃ j R Q,qf[r - σ0.rw.length]?=some (some j,R) /\ σ1.rw[j]?=some Q/\qgw { d with mem:=m } I j Q/\(yQ d m σ0.bx.length kb σ0.rw.length qf).cur r=d.cur j/\(yQ d m σ0.bx.length kb σ0.rw.length qf).sz r=d.sz j:=by
  intro r s n;have L:(if r < σ0.rw.length then 0 else match qf[r - σ0.rw.length]? with | some (some j,_)=>d.sz j | _=>0)≠0:=n;rw[if_neg s]at L;split at L
  ·rename_i j R E;obtain⟨Q,U,_,_,_,_,q6,_⟩:=(hn _ _ _ E).src;refine⟨j,R,Q,E,U,V.row j Q (by show(frz σ1.rw K)[j]?=_;rw[qom K _ j q6];exact U),?_,?_⟩
   ·show(if r < σ0.rw.length then _ else match qf[r - σ0.rw.length]? with | some (some j,_)=>d.cur j | _=>0)=_;rw[if_neg s,E]
   ·show(if r < σ0.rw.length then _ else match qf[r - σ0.rw.length]? with | some (some j,_)=>d.sz j | _=>0)=_;rw[if_neg s,E]
  ·exact absurd rfl L
 have v:∀{r:Nat},r < σ0.rw.length->(yQ d m σ0.bx.length kb σ0.rw.length qf).sz r=0 := λ s=>if_pos s;refine⟨m,W,m3,⟨⟨λ b o u h=>ae _ _ _ (t.le.mem b o u h),by rw[G.nb];exact kF _ _,λ i f=>by rw[<- t.le.β i f];show d.β (qiS _ _ _)=_;unfold qiS;rw[if_pos (by rw[<- G.nb];exact f)],by rw[G.nr];exact kF _ _,λ r s=>?_,λ r s=>?_,λ r s g=>?_⟩,t.os,t.tape,t.output,t.size,t.block,?_,?_,t.drawn⟩,?_⟩
 ·rw[G.nr]at s;exact(if_pos s).trans (t.le.k r (by rw[G.nr];exact s))
 ·have:=t.le.ver r s;rw[G.nr]at s;show y.ver r<=(if r < σ0.rw.length then d.ver r+1 else 0);rw[if_pos s];omega
 ·have:=t.le.ver r s;rw[G.nr]at s;have g:(if r < σ0.rw.length then d.ver r+1 else 0)=y.ver r:=g;rw[if_pos s]at g;omega
 ·rintro b (⟨i,f,hb⟩ | ⟨r,s,n,hb⟩)
  ·exact t.own b (.inl ⟨_,B f,hb⟩)
  ·by_cases l:r < σ0.rw.length
   ·exact absurd (v l) n
   ·obtain⟨j,R,Q,_,q2,_,q4,q5⟩:=A l n;exact t.own b (.inr ⟨j,by rw[F.nr];exact getElem?_lt q2,by rw[<- q5];exact n,by rw[<- q4];exact hb⟩)
 ·intro b o u hm;rcases W.own b o u hm with h | h
  ·exact t.memg b o u h
  ·exact .inr (t.own b h)
 ·refine⟨ac.symm,by show σ0.rw.length+qf.length=_;simp,λ b o u h=>V.mem b o u h,?_,λ i j f O g=>ah f O (F.inj _ _ (B f) (B O) g),λ i f o=>V.boxmem _ (B f) o,?_,?_⟩
  ·intro i cs f;obtain⟨ds,d1,d2⟩:=ad i cs f;obtain⟨vs,e,v1,v2,v3⟩:=F.box _ ds d1;exact⟨vs,e,v1,d2 m W m3 _ v2,v3⟩
  ·intro r R w;have w:(σ0.rw.map Q3++qf.map (·.2))[r]?=some R:=w;by_cases l:r < σ0.rw.length
   ·rw[List.getElem?_append_left (by rw[wA];exact l),List.getElem?_map]at w;cases q : σ0.rw[r]? with
    | none=>rw[q]at w;cases w
    | some R0 =>
      rw[q]at w;cases w;have H:=G.row r R0 q;have n:=v l;refine⟨?_,λ h=>absurd h (by show ¬ 1<=0;omega),H.pos,(by intro e g;cases g),(by intro e g;cases g),.inl rfl,λ h=>absurd n h,by show 0+0*_<=_;rw[kQ];exact we _,λ h=>absurd n h,(by intro i e j x f;cases f),λ h=>absurd n h,λ _=>rfl⟩;show R0.k=(if r < σ0.rw.length then d.k r else _);rw[if_pos l,H.k];exact(t.le.k r (by rw[G.nr];exact l)).symm
   ·rw[List.getElem?_append_right (by rw[wA];omega),wA,List.getElem?_map]at w;cases q:qf[r - σ0.rw.length]? with
    | none=>rw[q]at w;cases w
    | some p =>
      rw[q]at w;cases w;obtain⟨so,R⟩:=p;have C:=hn _ _ _ q
      have hk:R.k=(yQ d m σ0.bx.length kb σ0.rw.length qf).k r:=by
       show _=(if r < σ0.rw.length then _ else match qf[r - σ0.rw.length]? with | some p=>p.2.k | none=>1);rw[if_neg l,q]
      have J:R.ver=(yQ d m σ0.bx.length kb σ0.rw.length qf).ver r:=by
       show _=(if r < σ0.rw.length then _ else 0);rw[if_neg l];exact C.ver
      cases so with
      | none =>
        have hc:R.c=[]:=C.src
        have n:(yQ d m σ0.bx.length kb σ0.rw.length qf).sz r=0:=by
         grind
        exact⟨hk,λ _=>J,C.pos,C.len,C.plain,.inl hc,λ h=>absurd n h,by show 0+R.c.length*_<=_;rw[hc];simp,λ h=>absurd n h,(by intro i e j x f;change R.c[i]?=_ at f;rw[hc]at f;cases f),λ h=>absurd n h,λ _=>rfl⟩
      | some j =>
        obtain⟨Q,U,q2,q3,q4,q5,q6,q7⟩:=C.src;have H:qgw { d with mem:=m } I j Q:=V.row j Q (by show(frz σ1.rw K)[j]?=_;rw[qom K _ j q6];exact U)
        have T:(yQ d m σ0.bx.length kb σ0.rw.length qf).cur r=d.cur j:=by
         show(if r < σ0.rw.length then _ else match qf[r - σ0.rw.length]? with | some (some j,_)=>d.cur j | _=>0)=_;rw[if_neg l,q]
        have M:(yQ d m σ0.bx.length kb σ0.rw.length qf).sz r=d.sz j:=by
         show(if r < σ0.rw.length then _ else match qf[r - σ0.rw.length]? with | some (some j,_)=>d.sz j | _=>0)=_;rw[if_neg l,q]
        have ak:d.of j=0:=H.off q7;refine⟨hk,λ _=>J,C.pos,C.len,C.plain,.inr (by show R.fz<=_;rw[C.fz];exact we _),λ n=>?_,?_,λ n off ho=>?_,?_,λ n i f=>?_,λ _=>rfl⟩
        ·rw[M]at n;obtain⟨vs,e,fr,b1,b2,b3,b4⟩:=H.blk n;grind
        ·show 0+R.c.length*R.k<=_;have an:d.of j+Q.c.length*Q.k<=d.sz j:=H.fit;grind
        ·rw[M]at n;rw[T];refine H.un n off ?_;grind
        ·intro i e' X x' f O;have f:R.c[i]?=some e':=f;have S:i<Q.c.length:=by rw[q4];exact getElem?_lt f
         obtain⟨x,ab,P⟩:=(q5 i _ e' (List.getElem?_eq_getElem S) f).get X x' O;obtain⟨u,u1,u2,u3⟩:=H.cells i _ X x (List.getElem?_eq_getElem S) ab;obtain⟨p1,p2⟩:=qvw (C.plain e' (wa f) x' (wa O));refine⟨u,?_,qpc (Γ := { d with mem:=m }) (λ _ _ _ h=>h) (P _ _ u2) p1 p2,u3⟩;have ai:I.cell? ⟨d.cur j,d.of j+(i*Q.k+X),none⟩=some u:=u1;show I.cell? ⟨_,0+(i*R.k+X),none⟩=_;grind
        ·rw[M]at n;rw[T];exact H.nbx n _ (B f)
  ·intro r r' s aj al Z Y;by_cases e1:r < σ0.rw.length
   ·exact absurd (v e1) Z
   by_cases e2:r' < σ0.rw.length
   ·exact absurd (v e2) Y
   obtain⟨j,R,Q,a1,a2,_,a4,a5⟩:=A e1 Z;obtain⟨j',R',Q',b1,b2,_,b4,b5⟩:=A e2 Y;rw[a4,b4];refine F.apart j j' (by rw[F.nr];exact getElem?_lt a2) (by rw[F.nr];exact getElem?_lt b2) (λ g=>?_) (by rw[<- a5];exact Z) (by rw[<- b5];exact Y);grind
end Go.AmZ
namespace Go.AmZ
open Go Go.RowKit Go.GxZ
def zg{a:Type}(f:List AV->Option a):List (List AV)->Option (List a)
 | []=>some []
 | e::es=>match f e with
   | some v=>match zg f es with
     | some vs=>some (v::vs)
     | none=>none
   | none=>none
mutual
def qnp:AV->Option (List T)
 | .v (.slice none 0 0)=>some []
 | .sl 4 es (_+1)=>qsy es
 | _=>none
def qsy:List (List AV)->Option (List T)
 | []=>some []
 | e::es=>match Ja e with
   | some t=>match qsy es with
     | some l=>some (t::l)
     | none=>none
   | none=>none
def Ja:List AV->Option T
 | [.v (.int .i64 k),.v (.string n),.v (.int .i64 s),x]=>match qnp x with
   | some l=>some (.mk k n.data.toList s l)
   | none=>none
 | _=>none
end
def full{a:Type}:Option (a × List AV)->Option a
 | some (v,[])=>some v
 | _=>none
def jx(k:Nat){a:Type}(f:List AV->Option a):AV->Option (List a)
 | .v (.slice none 0 0)=>some []
 | .sl b es (_+1)=>match zi b k with
   | true=>zg f es
   | false=>none
 | _=>none
def qa6(k:IntKind):List AV->Option (Int × List AV)
 | .v (.int a n)::r=>match decide (a=k)with
   | true=>some (n,r)
   | false=>none
 | _=>none
def qid:List AV->Option (Bool × List AV)
 | .v (.bool b)::r=>some (b,r)
 | _=>none
def qgO:List AV->Option (List UInt8 × List AV)
 | .v (.string s)::r=>some (s.data.toList,r)
 | _=>none
def qaK:List AV->Option (T × List AV)
 | a::b::c::d::r=>match Ja [a,b,c,d]with
   | some t=>some (t,r)
   | none=>none
 | _=>none
def qdE{a:Type}(b:AV->Option a):List AV->Option (a × List AV)
 | x::r=>match b x with
   | some l=>some (l,r)
   | none=>none
 | _=>none
def QX:(τ : Ty)->List AV->Option (Val τ × List AV)
 | .int k=>qa6 k
 | .bool=>qid
 | .str=>qgO
 | .term=>qaK
 | .list a=>qdE (jx a.size (λ e=>full (QX a e)))
 | .pair a b=>qqd (QX a) (QX b)
 | .one a=>QX a
def yh(τ : Ty)(e:List AV):Option (Val τ):=full (QX τ e)
def dlist(τ : Ty)(x:AV):Option (List (Val τ)):=jx τ.size (yh τ) x
mutual
def J6:T->List AV
 | .mk k n s l=>[.v (.int .i64 k),.v (.string ⟨n.toArray⟩),.v (.int .i64 s),.sl 4 (qqh l) 1]
def qqh:List T->List (List AV)
 | []=>[]
 | t::l=>J6 t::qqh l
end
def qi:(τ : Ty)->Val τ -> List AV
 | .int k,n=>[.v (.int k n)]
 | .bool,b=>[.v (.bool b)]
 | .str,s=>[.v (.string ⟨s.toArray⟩)]
 | .term,t=>J6 t
 | .list a,l=>[.sl a.size (l.map (qi a)) 1]
 | .pair a b,p=>qi a p.1++qi b p.2
 | .one a,v=>qi a v
def yL:(τ : Ty)->Val τ -> AV
 | .int k,n => .v (.int k n)
 | .bool,b => .v (.bool b)
 | .str,s => .v (.string ⟨s.toArray⟩)
 | .list a,l => .sl a.size (l.map (qi a)) 1
 | .term,t => .agg (qi .term t)
 | .pair a b,p => .agg (qi (.pair a b) p)
 | .one a,v => .agg (qi (.one a) v)
theorem yX{a:Type}{f:List AV->Option a}{e:List AV}{es:List (List AV)}{l:List a}:zg f (e::es)=some l↔∃ v vs,f e=some v/\zg f es=some vs/\l=v::vs:=by
 grind [zg]
theorem qY{a:Type}{f:List AV->Option a}:∀{es:List (List AV)} {l:List a},zg f es=some l->es.length=l.length
 | [],l,h=>by cases h;rfl
 | e::es,l,h=>by
   obtain⟨v,vs,_,b,rfl⟩:=yX.1 h;simp[qY b]
theorem qg6{b:Type}{f:List AV->Option b}:∀{es:List (List AV)} {l:List b},zg f es=some l->∀{i:Nat} {v:b},l[i]?=some v->∃ e,es[i]?=some e/\f e=some v
 | [],l,h,i,v,a=>by cases h;simp at a
 | e::es,l,h,i,v,a=>by
   obtain⟨w,vs,d,c,rfl⟩:=yX.1 h;cases i with
   | zero=>simp at a;subst a;exact⟨e,rfl,d⟩
   | succ i=>exact qg6 c (by simpa using a)
theorem J8{b:Type}{f:List AV->Option b}:∀{es:List (List AV)} {l:List b},zg f es=some l->∀{i:Nat} {e:List AV},es[i]?=some e->∃ v,l[i]?=some v/\f e=some v
 | [],l,h,i,v,a=>by simp at a
 | e::es,l,h,i,v,a=>by
   obtain⟨w,vs,d,c,rfl⟩:=yX.1 h;cases i with
   | zero=>simp at a;subst a;exact⟨w,rfl,d⟩
   | succ i=>exact J8 c (by simpa using a)
theorem qad{b:Type}{f:List AV->Option b}:∀{es a:List (List AV)} {l m:List b},zg f es=some l->zg f a=some m->zg f (es++a)=some (l++m)
 | [],a,l,m,h,g=>by cases h;exact g
 | e::es,a,l,m,h,g=>by
   obtain⟨v,vs,d,c,rfl⟩:=yX.1 h;exact yX.2 ⟨v,vs++m,d,qad c g,rfl⟩
theorem qhj{a:Type}{f:List AV->Option a}:∀(n:Nat) {es:List (List AV)} {l:List a},zg f es=some l->zg f (es.take n)=some (l.take n)
 | 0,es,l,h=>by simp;rfl
 | n+1,[],l,h=>by cases h;rfl
 | n+1,e::es,l,h=>by
   obtain⟨v,vs,c,b,rfl⟩:=yX.1 h;exact yX.2 ⟨v,vs.take n,c,qhj n b,rfl⟩
theorem qfo{a:Type}{f:List AV->Option a}:∀(n:Nat) {es:List (List AV)} {l:List a},zg f es=some l->zg f (es.drop n)=some (l.drop n)
 | 0,es,l,h=>by simpa using h
 | n+1,[],l,h=>by cases h;rfl
 | n+1,e::es,l,h=>by
   obtain⟨v,vs,c,b,rfl⟩:=yX.1 h;simpa using qfo n b
theorem qb3{a:Type}{f:List AV->Option a}{g:a->List AV}(h:∀ v,f (g v)=some v):∀ l:List a,zg f (l.map g)=some l
 | []=>rfl
 | v::l=>yX.2 ⟨v,l,h v,qb3 h l,rfl⟩
theorem qpY:∀ es:List (List AV),qsy es=zg Ja es
 | []=>rfl
 | e::es=>by
   rw[qsy,zg,qpY es];grind
theorem yb{a:Type}{x:Option (a × List AV)}{v:a}:full x=some v↔x=some (v,[]):=by
 unfold full;grind
theorem qna{cs:List AV}{t:T}(h:Ja cs=some t):∃ k n s x l,cs=[.v (.int .i64 k),.v (.string n),.v (.int .i64 s),x]/\qnp x=some l/\t = .mk k n.data.toList s l:=by
 unfold Ja at h;grind
theorem qyJ(e:List AV):yh .term e=Ja e:=by
 show full (qaK e)=Ja e;unfold qaK;split
 ·rename_i a b c d r;cases r with
  | nil =>
    cases f:Ja [a,b,c,d]with
    | none=>rfl
    | some t=>rfl
  | cons x r =>
    have g:Ja (a::b::c::d::x::r)=none:=by
     grind [Ja]
    rw[g];cases f:Ja [a,b,c,d]with
    | none=>rfl
    | some t=>rfl
 ·rename_i h;cases f:Ja e with
  | none=>rfl
  | some t =>
    obtain⟨k,n,s,x,l,rfl,_,_⟩:=qna f;exact absurd rfl (h _ _ _ _ _)
theorem qkK(x:AV):dlist .term x=qnp x:=by
 have c:(yh .term:List AV->Option T)=Ja:=funext qyJ;unfold dlist jx qnp;split
 ·rfl
 ·rename_i a es n;by_cases b:a=4
  ·subst b;show zg (yh .term) es=qsy es;rw[c,qpY]
  ·grind [zi,Ty.size]
 ·grind
theorem qE6{es c:List (List AV)}{k f:Nat}(D:0<f)(q:es.length=c.length)(C:∀ e∈c,e.length=k)(B:∀ e∈c,∀ x∈e,qy x=true)
  (A:∀(i:Nat) (e d:List AV),es[i]?=some e->c[i]?=some d->QK e d):Sub (.sl k es f) (.sl k c 1):=by
 intro Γ u z;cases z with
 | sl k es f a n cap b o us H G M L K F J I E =>
   have get:∀(i:Nat) (d:List AV) (j:Nat) (y:AV),c[i]?=some d->d[j]?=some y->∃ e x,es[i]?=some e/\e[j]?=some x/\Sub x y:=by
    intro i d j y l p;have m:i<es.length:=by rw[q];exact getElem?_lt l
    have r:=List.getElem?_eq_getElem m;obtain⟨x,w,g⟩:=(A i _ d r l).get j y p;exact⟨_,x,r,w,g⟩
   refine .sl k c 1 a n cap b o us (by rw[H,q]) (λ _=>G D) (λ h=>absurd h (by decide)) C B F ?_ ?_ ?_
   ·grind
   ·grind
   ·intro i d j y l p;obtain⟨e,x,v,t,s⟩:=get i d j y l p;exact s Γ _ (E i e j x v t)
theorem qA9(k:Nat)(b:0<k):Sub (.v (.slice none 0 0)) (.sl k [] 1):=by
 intro Γ u a;have:=zo a;subst this;exact .sl k [] 1 none 0 0 0 0 (λ _ _=>undef) rfl (λ _=>wb _) (λ h=>absurd h (by decide)) (by simp) (by simp) b (.inl rfl) (by simp) (by simp)
theorem qlN:∀ l:List T,qqh l=l.map J6
 | []=>rfl
 | t::l=>by rw[qqh,qlN l];rfl
theorem qzf(t:T):(J6 t).length=4:=by obtain⟨k,n,s,l⟩:=t;rw[J6];rfl
theorem qtt(t:T):∀ x∈J6 t,qy x=true:=by
 obtain⟨k,n,s,l⟩:=t;intro x a;rw[J6]at a;simp at a;rcases a with rfl | rfl | rfl | rfl<;>rfl
theorem jA:∀(τ : Ty) (v:Val τ),(qi τ v).length = τ.size
 | .int _,_=>rfl
 | .bool,_=>rfl
 | .str,_=>rfl
 | .term,t=>qzf t
 | .list _,_=>rfl
 | .pair a b,p=>by rw[qi,wc,jA a,jA b];rfl
 | .one a,v=>by rw[qi,jA a];rfl
theorem zt:∀(τ : Ty) (v:Val τ),∀ x∈qi τ v,qy x=true
 | .int _,_,x,h=>by simp[qi]at h;subst h;rfl
 | .bool,_,x,h=>by simp[qi]at h;subst h;rfl
 | .str,_,x,h=>by simp[qi]at h;subst h;rfl
 | .term,t,x,h=>qtt t x h
 | .list _,_,x,h=>by simp[qi]at h;subst h;rfl
 | .pair a b,p,x,h=>by
   rw[qi]at h;rcases ww.1 h with h | h
   ·exact zt a _ x h
   ·exact zt b _ x h
 | .one a,v,x,h=>zt a v x h
theorem qPz(t:T):∀ cs,Ja cs=some t->QK cs (J6 t)/\∀ x∈cs,qy x=true:=by
 refine T.ind (P := λ t=>∀ cs,Ja cs=some t->QK cs (J6 t)/\∀ x∈cs,qy x=true) ?_ t;intro t o cs h;obtain⟨k,n,s,x,l,rfl,b,rfl⟩:=qna h;have p:(⟨n.data.toList.toArray⟩:ByteArray)=n:=by cases n;simp
 have d:Sub x (.sl 4 (qqh l) 1)/\qy x=true:=by
  unfold qnp at b;split at b
  ·cases b;rw[qqh];exact⟨qA9 4 (by decide),rfl⟩
  ·rename_i es r;refine⟨?_,rfl⟩;rw[qpY]at b;rw[qlN];refine qE6 (xN _) (by rw[qY b,wA]) ?_ ?_ ?_
   ·intro e f;obtain⟨c,_,rfl⟩:=wy.1 f;exact qzf c
   ·intro e f;obtain⟨c,_,rfl⟩:=wy.1 f;exact qtt c
   ·intro i e u q a;obtain⟨c,g,m⟩:=J8 b q;rw[List.getElem?_map,g]at a;simp at a;subst a;exact(o c (wa g) e m).1
  ·cases b
 refine⟨?_,?_⟩
 ·rw[J6,p];exact .cons (.refl _) (.cons (.refl _) (.cons (.refl _) (.cons d.1 .nil)))
 ·intro y j;simp at j;rcases j with rfl | rfl | rfl | rfl
  ·rfl
  ·rfl
  ·rfl
  ·exact d.2
theorem QK.append:∀{a b c d:List AV},QK a b->QK c d->QK (a++c) (b++d)
 | _,_,_,_,.nil,g=>g
 | _,_,_,_,.cons h t,g => .cons h (t.append g)
theorem Ty.size_pos:∀ τ : Ty,0 < τ.size
 | .int _=>Nat.one_pos
 | .bool=>Nat.one_pos
 | .str=>Nat.one_pos
 | .term=>by decide
 | .list _=>Nat.one_pos
 | .pair a b=>wE (Ty.size_pos a) (kF _ _)
 | .one a=>Ty.size_pos a
theorem qab{σ b a:Type}{p:List σ -> Option (b × List σ)}{q:List σ -> Option (a × List σ)}{cs:List σ}{v:b × a}{r:List σ}:qqd p q cs=some (v,r)↔∃ c,p cs=some (v.1,c)/\q c=some (v.2,r):=by
 grind [qqd]
theorem qga:∀(τ : Ty) {cs:List AV} {v:Val τ} {r:List AV} (s:List AV),QX τ cs=some (v,r)->QX τ (cs++s)=some (v,r++s)
 | .int k,cs,v,r,s,h=>by
   change qa6 k cs=_ at h;show qa6 k (cs++s)=_;unfold qa6 at h;grind [qa6]
 | .bool,cs,v,r,s,h=>by
   change qid cs=_ at h;unfold qid at h;split at h<;>cases h;rfl
 | .str,cs,v,r,s,h=>by
   change qgO cs=_ at h;unfold qgO at h;split at h<;>cases h;rfl
 | .term,cs,v,r,s,h=>by
   change qaK cs=_ at h;unfold qaK at h;split at h<;>try cases h
   split at h<;>cases h;rename_i c;show qaK _=_;grind [qaK]
 | .list a,cs,v,r,s,h=>by
   change qdE _ cs=_ at h;unfold qdE at h;split at h<;>try cases h
   split at h<;>cases h;rename_i c;show qdE _ _=_;grind [qdE]
 | .pair a b,cs,v,r,s,h=>by
   obtain⟨f,e,d⟩:=qab.1 h;exact qab.2 ⟨_,qga a s e,qga b s d⟩
 | .one a,cs,v,r,s,h=>qga a s h
theorem yO:∀(τ : Ty) {cs:List AV} {v:Val τ} {r:List AV},QX τ cs=some (v,r)->∃ pre,cs=pre++r/\pre.length = τ.size/\(∀ x∈pre,qy x=true)/\QK pre (qi τ v)/\QX τ pre=some (v,[])
 | .int k,cs,v,r,h=>by
   change qa6 k cs=_ at h;unfold qa6 at h;split at h<;>try cases h
   split at h<;>cases h;rename_i f;have j:=of_decide_eq_true f;subst j;exact⟨[_],rfl,rfl,by simp[qy],.refl _,by show qa6 _ _=_;simp[qa6]⟩
 | .bool,cs,v,r,h=>by
   change qid cs=_ at h;unfold qid at h;split at h<;>cases h;exact⟨[_],rfl,rfl,by simp[qy],.refl _,rfl⟩
 | .str,cs,v,r,h=>by
   change qgO cs=_ at h;unfold qgO at h;split at h<;>cases h;rename_i s;have D:(⟨s.data.toList.toArray⟩:ByteArray)=s:=by cases s;simp
   exact⟨[_],rfl,rfl,by simp[qy],by rw[qi,D];exact .refl _,rfl⟩
 | .term,cs,v,r,h=>by
   change qaK cs=_ at h;unfold qaK at h;split at h<;>try cases h
   split at h<;>cases h;rename_i c;obtain⟨o,m⟩:=qPz _ _ c;exact⟨_,rfl,rfl,m,o,by show qaK _=_;simp only[qaK,c]⟩
 | .list a,cs,v,r,h=>by
   change qdE _ cs=_ at h;unfold qdE at h;split at h<;>try cases h
   rename_i x J;split at h<;>cases h;rename_i c;refine⟨[x],rfl,rfl,?_,?_,by show qdE _ _=_;simp only[qdE,c]⟩
   ·intro y u;simp at u;subst u;unfold jx at c;split at c
    ·rfl
    ·rfl
    ·cases c
   ·rw[qi];refine .cons ?_ .nil;unfold jx at c;split at c
    ·cases c;exact qA9 _ (Ty.size_pos a)
    ·rename_i M es n;split at c
     ·rename_i f;have f:=of_decide_eq_true f;subst f;refine qE6 (xN _) (by rw[qY c,wA]) ?_ ?_ ?_
      ·intro e l;obtain⟨w,_,rfl⟩:=wy.1 l;exact jA a w
      ·intro e l;obtain⟨w,_,rfl⟩:=wy.1 l;exact zt a w
      ·intro i e N E d;obtain⟨w,t,q⟩:=J8 c E;rw[List.getElem?_map,t]at d;simp at d;subst d;obtain⟨pre,L,_,_,K,_⟩:=yO a (yb.1 q);grind
     ·cases c
    ·cases c
 | .pair a b,cs,v,r,h=>by
   obtain⟨I,o,m⟩:=qab.1 h;obtain⟨p,e1,C,t,A,H⟩:=yO a o;obtain⟨g,F,B,q,z,G⟩:=yO b m;refine⟨p++g,by rw[e1,F,wi],by rw[wc,C,B];rfl,?_,by rw[qi];exact A.append z,?_⟩
   ·grind
   ·exact qab.2 ⟨g,by have:=qga a g H;simpa using this,G⟩
 | .one a,cs,v,r,h=>yO a h
theorem qHF(t:T):Ja (J6 t)=some t:=by
 refine T.ind (P := λ t=>Ja (J6 t)=some t) ?_ t;intro t c;obtain⟨k,n,s,l⟩:=t
 have:qsy (qqh l)=some l:=by
  rw[qpY,qlN];have c:∀ x∈l,Ja (J6 x)=some x:=c
  have a:∀ m:List T,(∀ x∈m,Ja (J6 x)=some x)->zg Ja (m.map J6)=some m:=by
   intro m
   induction m with
   | nil=>intro _;rfl
   | cons x m b=>intro h;exact yX.2 ⟨x,m,h x (wh ..),b λ y d=>h y (wg _ d),rfl⟩
  exact a l c
 rw[J6,Ja,qnp,this]
theorem qhv:∀(τ : Ty) (v:Val τ),QX τ (qi τ v)=some (v,[])
 | .int k,v=>by show qa6 k [_]=_;simp[qa6]
 | .bool,v=>rfl
 | .str,v=>by show qgO _=_;simp[qgO,qi]
 | .term,t=>by
   have:=qyJ (J6 t);rw[qHF]at this;exact yb.1 this
 | .list a,l=>by
   have c:zg (λ e=>full (QX a e)) (l.map (qi a))=some l:=qb3 (λ v=>by rw[qhv a v];rfl) l;show qdE _ [_]=_;grind [qdE,jx,zi]
 | .pair a b,v=>qab.2 ⟨_,qga a _ (qhv a v.1),by rw[kV];exact qhv b v.2⟩
 | .one a,v=>qhv a v
abbrev waD:=@Ty.size_pos
end Go.AmZ
namespace Go.AmZ
open Go Go.RowKit Go.GxZ
structure Mp where
 b:Nat->Nat
 nb:Nat
 r:Nat->Option Nat
 v:Nat->Nat
 q:Nat->List (List AV)
 rw:List qQ
def mp0:Mp:=⟨λ _=>0,0,λ _=>none,λ _=>0,λ _=>[],[]⟩
def lvl:AV->Nat
 | .v _=>2
 | .sl _ _ n=>n
 | _=>0
def qaa(r:Option Nat)(v:Nat)(τ : Ty)(l:List (Val τ))(y:AV):Prop:=match r with
 | some r=>y = .rs r 0 l.length v false
 | none=>dlist τ y=some l/\2<=lvl y
def qtN(y:AV):Prop:=y = .v (.slice none 0 0)\/(∃ k es n,y = .sl k es n)\/∃ r lo n a f,y = .rs r lo n a f
theorem qI7{τ : Ty}{y:AV}{l:List (Val τ)}(h:dlist τ y=some l):qtN y:=by
 unfold dlist jx at h;split at h
 ·exact .inl rfl
 ·exact .inr (.inl ⟨_,_,_,rfl⟩)
 ·cases h
theorem qaa.ish{r:Option Nat}{v:Nat}{τ : Ty}{l:List (Val τ)}{y:AV}(h:qaa r v τ l y):qtN y:=by
 cases r with
 | some r=>exact .inr (.inr ⟨_,_,_,_,_,h⟩)
 | none=>exact qI7 h.1
def qwo(m:Mp)(id a:Nat)(y:AV):Prop :=
 ∃ R,m.rw[id]?=some R/\a<=R.ver/\qtN y/\(R.ver=a->qaa (m.r id) (m.v id) R.τ R.l y)
mutual
def OK(m:Mp):TV->AV->Prop
 | .i k n,y=>y = .v (.int k n)
 | .b x,y=>y = .v (.bool x)
 | .s x,y=>y = .v (.string ⟨x.toArray⟩)
 | .c v,y=>zu v=true/\y = .v v
 | .nil,y=>y = .v (.slice none 0 0)
 | .sl τ l e,y=>dlist τ y=some l/\e<=lvl y
 | .row id a,y=>qwo m id a y
 | .ptr b o,y=>b<m.nb/\y = .ptr (m.b b) o
 | .pti b i,y=>b<m.nb/\0<=i/\y = .ptr (m.b b) i.toNat
 | .rpt id a d i cs o,y=>∃ R,m.rw[id]?=some R/\a<=R.ver/\d<=R.sv/\((∃ r j g,y = .rpt r j o g)\/∃ ds,y = .ept ds o)/\(R.ver=a->(∃ r j,m.r id=some r/\y = .rpt r j o (m.v id)/\i=((j:Nat):Int)/\j<R.l.length/\(R.sv=d->∃ ds,(m.q id)[j]?=some ds/\OKL m cs ds))\/(m.r id=none/\0<R.l.length/\(R.sv=d->∃ ds,y = .ept ds o/\OKL m cs ds)))
 | .ept cs o,y=>∃ ds,y = .ept ds o/\OKL m cs ds
 | .fn f cs,y=>∃ ds,y = .fn f ds/\OKL m cs ds
 | .agg cs,y=>∃ ds,y = .agg ds/\OKL m cs ds
 | .tup cs,y=>∃ ds,y = .tup ds/\OKL m cs ds
 | .dead,_=>True
def OKL(m:Mp):List TV->List AV->Prop
 | [],ys=>ys=[]
 | x::xs,ys=>∃ y r,ys=y::r/\OK m x y/\OKL m xs r
end
structure MLe (m m':Mp):Prop where
 nb:m.nb<=m'.nb
 b:∀ i,i<m.nb->m'.b i=m.b i
 row:∀ id R,m.rw[id]?=some R->∃ R',m'.rw[id]?=some R'/\R.ver<=R'.ver/\R.sv<=R'.sv/\(R'.ver=R.ver->R'.l.length=R.l.length/\m'.r id=m.r id/\m'.v id=m.v id/\R'.τ = R.τ /\ (R'.sv=R.sv->m'.q id=m.q id)/\(m.r id=none->∀ y,dlist R.τ y=some R.l->dlist R'.τ y=some R'.l))
theorem MLe.refl(m:Mp):MLe m m:=⟨wb _,λ _ _=>rfl,λ _ R h=>⟨R,h,wb _,wb _,λ _=>⟨rfl,rfl,rfl,rfl,λ _=>rfl,λ _ _ h=>h⟩⟩⟩
theorem MLe.trans{a b c:Mp}(h:MLe a b)(g:MLe b c):MLe a c where
 nb:=wD h.nb g.nb
 b := λ i f=>(g.b i (wE f h.nb)).trans (h.b i f)
 row := λ id R l=>by
  obtain⟨d,p,o,n,m⟩:=h.row id R l;obtain⟨R2,s,r,g3,q⟩:=g.row id d p;refine⟨R2,s,wD o r,wD n g3,λ H=>?_⟩;have e1:d.ver=R.ver:=by omega
  have t:R2.ver=d.ver:=by omega
  obtain⟨F,j,E,D,C,B⟩:=m e1;obtain⟨A,z,x,w,v,u⟩:=q t;exact⟨A.trans F,z.trans j,x.trans E,w.trans D,λ G=>(v (by omega)).trans (C (by omega)),λ e y k=>u (j.trans e) y (B e y k)⟩
theorem qwo.mono{m m':Mp}(g:MLe m m'){id f:Nat}{y:AV}(h:qwo m id f y):qwo m' id f y:=by
 obtain⟨R,n,j,i,e⟩:=h;obtain⟨R',p,o,_,g3⟩:=g.row id R n;refine⟨R',p,wD j o,i,λ q=>?_⟩;have e1:R'.ver=R.ver:=by omega
 obtain⟨a,b,c,d,_,k⟩:=g3 e1;have e:=e (by omega);rw[b,c];revert e k;cases m.r id with
 | some r =>
   intro _ e;show y = .rs r 0 R'.l.length (m.v id) false;rw[a];exact e
 | none=>intro k e;exact⟨k rfl y e.1,e.2⟩
mutual
theorem OK.mono{m m':Mp}(e:MLe m m'):∀{x:TV} {y:AV},OK m x y->OK m' x y
 | .i ..,y,h=>h
 | .b ..,y,h=>h
 | .s ..,y,h=>h
 | .c ..,y,h=>h
 | .nil,y,h=>h
 | .sl ..,y,h=>h
 | .row ..,y,h=>qwo.mono e h
 | .ptr b o,y,h=>⟨wE h.1 e.nb,by rw[e.b _ h.1];exact h.2⟩
 | .pti b i,y,h=>⟨wE h.1 e.nb,h.2.1,by rw[e.b _ h.1];exact h.2.2⟩
 | .rpt id w G _ cs o,y,h=>by
   obtain⟨R,k,g,u,D,C⟩:=h;obtain⟨R',F,E,v,g3⟩:=e.row id R k;refine⟨R',F,wD g E,wD u v,D,λ H=>?_⟩;have e1:R'.ver=R.ver:=by omega
   obtain⟨a,b,c,_,d,_⟩:=g3 e1;rcases C (by omega)with⟨r,j,t,z,A,q,p⟩ | ⟨t,q,p⟩
   ·refine .inl ⟨r,j,b.trans t,by rw[c];exact z,A,by rw[a];exact q,λ B=>?_⟩;obtain⟨ds,n,l⟩:=p (by omega);exact⟨ds,by rw[d (by omega)];exact n,OKL.mono e l⟩
   ·refine .inr ⟨b.trans t,by rw[a];exact q,λ B=>?_⟩;obtain⟨ds,n,l⟩:=p (by omega);exact⟨ds,n,OKL.mono e l⟩
 | .ept cs o,y,⟨ds,k,g⟩=>⟨ds,k,OKL.mono e g⟩
 | .fn f cs,y,⟨ds,k,g⟩=>⟨ds,k,OKL.mono e g⟩
 | .agg cs,y,⟨ds,k,g⟩=>⟨ds,k,OKL.mono e g⟩
 | .tup cs,y,⟨ds,k,g⟩=>⟨ds,k,OKL.mono e g⟩
 | .dead,y,h=>trivial
theorem OKL.mono{m m':Mp}(a:MLe m m'):∀{xs:List TV} {ys:List AV},OKL m xs ys->OKL m' xs ys
 | [],ys,h=>h
 | x::xs,ys,⟨y,r,d,c,b⟩=>⟨y,r,d,OK.mono a c,OKL.mono a b⟩
end
theorem qEO{m:Mp}{R:qQ}{id a o:Nat}{i:Int}{cs:List TV}{y:AV}(h:(∃ r j,m.r id=some r/\y = .rpt r j o (m.v id)/\i=((j:Nat):Int)/\j<R.l.length/\(R.sv=a->∃ ds,(m.q id)[j]?=some ds/\OKL m cs ds))\/(m.r id=none/\0<R.l.length/\(R.sv=a->∃ ds,y = .ept ds o/\OKL m cs ds)))(b:R.sv=a) :
  (∃ r j ds,m.r id=some r/\y = .rpt r j o (m.v id)/\i=((j:Nat):Int)/\j<R.l.length/\(m.q id)[j]?=some ds/\OKL m cs ds)\/∃ ds,m.r id=none/\y = .ept ds o/\0<R.l.length/\OKL m cs ds:=by
 grind
theorem OKL.nil(m:Mp):OKL m [] []:=rfl
theorem OKL.cons{m:Mp}{x:TV}{y:AV}{xs:List TV}{ys:List AV}(h:OK m x y)(g:OKL m xs ys):OKL m (x::xs) (y::ys):=⟨y,ys,rfl,h,g⟩
theorem OKL.len{m:Mp}:∀{xs:List TV} {ys:List AV},OKL m xs ys->ys.length=xs.length
 | [],_,h=>by cases h;rfl
 | _::_,_,⟨_,_,rfl,_,h⟩=>by simp[h.len]
theorem OKL.get{m:Mp}:∀{xs:List TV} {ys:List AV},OKL m xs ys->∀{i:Nat} {x:TV},xs[i]?=some x->∃ y,ys[i]?=some y/\OK m x y
 | [],_,_,i,x,a=>by simp at a
 | _::_,_,⟨y,r,rfl,c,b⟩,0,x,a=>by simp at a;subst a;exact⟨y,rfl,c⟩
 | _::_,_,⟨y,r,rfl,c,b⟩,i+1,x,a=>by simpa using b.get (by simpa using a)
theorem OKL.append{m:Mp}:∀{xs:List TV} {ys:List AV} {b:List TV} {a:List AV},OKL m xs ys->OKL m b a->OKL m (xs++b) (ys++a)
 | [],_,_,_,h,g=>by cases h;exact g
 | _::_,_,_,_,⟨y,r,rfl,d,c⟩,g=>⟨y,_,rfl,d,c.append g⟩
theorem OKL.take{m:Mp}(n:Nat):∀{xs:List TV} {ys:List AV},OKL m xs ys->OKL m (xs.take n) (ys.take n):=by
 induction n with
 | zero=>intro xs ys _;simp;exact rfl
 | succ n a =>
   intro xs ys h;cases xs with
   | nil=>cases h;exact rfl
   | cons x xs=>obtain⟨y,r,rfl,c,b⟩:=h;exact⟨y,_,rfl,c,a b⟩
theorem OKL.drop{m:Mp}(n:Nat):∀{xs:List TV} {ys:List AV},OKL m xs ys->OKL m (xs.drop n) (ys.drop n):=by
 induction n with
 | zero=>intro xs ys h;simpa using h
 | succ n a =>
   intro xs ys h;cases xs with
   | nil=>cases h;exact rfl
   | cons x xs=>obtain⟨y,r,rfl,c,b⟩:=h;simpa using a b
theorem OKL.split{m:Mp}:∀{xs c:List TV} {ys:List AV},OKL m (xs++c) ys->∃ a b,ys=a++b/\OKL m xs a/\OKL m c b
 | [],_,ys,h=>⟨[],ys,rfl,rfl,h⟩
 | _::_,_,_,⟨y,r,rfl,g,f⟩=>by
   obtain⟨a,b,rfl,e,d⟩:=f.split;exact⟨y::a,b,rfl,⟨y,a,rfl,g,e⟩,d⟩
theorem qzn{m:Mp}{v:Value}(h:zu v=true):OK m (qdV v) (.v v):=by
 unfold qdV;split
 ·exact rfl
 ·exact rfl
 ·rename_i s;show AV.v (.string s) = .v (.string ⟨s.data.toList.toArray⟩);cases s;simp
 ·exact rfl
 ·rw[h];exact⟨h,rfl⟩
theorem qii{m:Mp}:∀{l:List Value},l.all zu=true->OKL m (l.map qdV) (l.map .v)
 | [],_=>rfl
 | x::l,h=>by
   rw[kC,wd]at h;exact⟨_,_,rfl,qzn h.1,qii h.2⟩
theorem Qb{m:Mp}(v:Value):OK m (qdV v) (ofC v):=by
 unfold ofC;cases h:zu v with
 | true=>exact qzn h
 | false =>
   have:qdV v = .dead:=by
    unfold qdV;grind [zu]
   rw[this];trivial
theorem qGb{m:Mp}(v:Value):OK m (qC8 v) (qss v):=by
 cases v with
 | agg cs =>
   show OK m (match cs.toList.all zu with | true=>TV.agg (cs.toList.map qdV) | false => .dead) (match cs.toList.all zu with | true => .agg (cs.toList.map .v) | false => .dead);cases h:cs.toList.all zu with
   | true=>exact⟨_,rfl,qii h⟩
   | false=>trivial
 | tuple vs =>
   show OK m (match vs.toList with | []=>TV.tup [] | _ => .dead) (match vs.toList with | [] => .tup [] | _ => .dead);cases vs.toList with
   | nil=>exact⟨_,rfl,rfl⟩
   | cons a l=>trivial
 | bool b=>exact Qb (.bool b)
 | int k n=>exact Qb (.int k n)
 | float k n=>exact Qb (.float k n)
 | complex k a b=>exact Qb (.complex k a b)
 | string s=>exact Qb (.string s)
 | pointer a=>exact Qb (.pointer a)
 | slice a n c=>exact Qb (.slice a n c)
 | map r=>exact Qb (.map r)
 | chan r=>exact Qb (.chan r)
 | func f a b=>exact Qb (.func f a b)
 | nilFunc=>exact Qb (.nilFunc)
 | iface t v=>exact Qb (.iface t v)
 | nilIface=>exact Qb (.nilIface)
def JT(σ : St)(R:qQ)(b:Option Nat)(a:Nat)(d:List (List AV)):Prop:=match b with
 | some r=>∃ Q,σ.rw[r]?=some Q/\Q.c=d/\Q.ver=a/\Q.k=R.τ.size/\zg (yh R.τ) Q.c=some R.l/\Q.fz<=Q.c.length/\(R.sh=false->Q.fz=0/\Q.off=false)
 | none=>R.sh=false->R.l=[]
def ju(m:Mp)(σ : St):Prop:=∀ id R,m.rw[id]?=some R->JT σ R (m.r id) (m.v id) (m.q id)
structure Rel (N:Nat × Nat) (m:Mp) (E:Env) (τ : TS) (tm:List AV) (σ : St):Prop where
 len:tm.length=N.1
 env:∀ t,OK m (get E t) (tm.getD t .dead)
 rw:m.rw = τ.rw
 nb:m.nb = τ.bx.length
 box:∀ b cs,τ.bx[b]?=some cs->∃ ds,σ.bx[m.b b]?=some ds/\OKL m cs ds
 inj:∀ b b',b<m.nb->b'<m.nb->m.b b=m.b b'->b=b'
 rows:ju m σ
 rinj:∀ id id' r,id<m.rw.length->id'<m.rw.length->m.r id=some r->m.r id'=some r->id=id'
 pin:∀ i,i<N.2->i<m.nb/\m.b i=i
theorem quF{m m':Mp}{n:Nat}(c:MLe m m')(h:∀ i,i<n->i<m.nb/\m.b i=i):∀ i,i<n->i<m'.nb/\m'.b i=i := λ i a =>
 ⟨wE (h i a).1 c.nb,(c.b i (h i a).1).trans (h i a).2⟩
theorem Rel.ev{N:Nat × Nat}{m:Mp}{E:Env}{τ : TS}{tm:List AV}{σ : St}(h:Rel N m E τ tm σ)(x:Operand):OK m (evT E x) (aev tm x):=by
 cases x with
 | tmp t=>exact h.env t
 | const v=>exact qGb v
 | func f=>exact⟨_,rfl,rfl⟩
 | global g=>trivial
theorem Rel.evs{N:Nat × Nat}{m:Mp}{E:Env}{τ : TS}{tm:List AV}{σ : St}(h:Rel N m E τ tm σ):∀ l:List Operand,OKL m (l.map (evT E)) (l.map (aev tm))
 | []=>rfl
 | x::l=>⟨_,_,rfl,h.ev x,h.evs l⟩
theorem jh{τ : Ty}{y:AV}{l:List (Val τ)}(h:dlist τ y=some l):y = .v (.slice none 0 0)/\l=[]\/∃ es n,y = .sl τ.size es (n+1)/\zg (yh τ) es=some l:=by
 unfold dlist jx at h;split at h
 ·grind
 ·rename_i k es n;split at h
  ·rename_i a;have:=of_decide_eq_true a;subst this;exact .inr ⟨es,n,rfl,h⟩
  ·cases h
 ·cases h
theorem OK.one{m:Mp}{x:TV}{y:AV}(h:OK m x y)(d:qit x=true):isC y=true/\jH x=[x]/\cellsOf y=[y]:=by
 cases x with
 | i=>cases h;exact⟨rfl,rfl,rfl⟩
 | b=>cases h;exact⟨rfl,rfl,rfl⟩
 | s=>cases h;exact⟨rfl,rfl,rfl⟩
 | c=>obtain⟨_,rfl⟩:=h;exact⟨rfl,rfl,rfl⟩
 | nil=>cases h;exact⟨rfl,rfl,rfl⟩
 | sl τ l p =>
   obtain⟨h,_⟩:=h;rcases jh h with⟨rfl,_⟩ | ⟨es,n,rfl,_⟩<;>exact⟨rfl,rfl,rfl⟩
 | row id a =>
   obtain⟨R,_,_,h,_⟩:=h;rcases h with rfl | ⟨k,es,j,rfl⟩ | ⟨r,lo,n,e,f,rfl⟩<;>exact⟨rfl,rfl,rfl⟩
 | ptr b o=>obtain⟨_,rfl⟩:=h;exact⟨rfl,rfl,rfl⟩
 | pti b i=>obtain⟨_,_,rfl⟩:=h;exact⟨rfl,rfl,rfl⟩
 | rpt id a g i cs o=>obtain⟨R,_,_,_,h,_⟩:=h;rcases h with⟨r,i,e,rfl⟩ | ⟨ds,rfl⟩<;>exact⟨rfl,rfl,rfl⟩
 | ept cs o=>obtain⟨ds,rfl,_⟩:=h;exact⟨rfl,rfl,rfl⟩
 | fn f cs=>obtain⟨ds,rfl,_⟩:=h;exact⟨rfl,rfl,rfl⟩
 | agg cs=>simp[qit]at d
 | tup cs=>simp[qit]at d
 | dead=>simp[qit]at d
theorem OKL.allC{m:Mp}:∀{xs:List TV} {ys:List AV},OKL m xs ys->xs.all qit=true->ys.all isC=true
 | [],_,h,_=>by cases h;rfl
 | x::xs,_,⟨y,r,rfl,b,a⟩,h=>by
   rw[kC,wd]at h;rw[kC,(b.one h.1).1,a.allC h.2];rfl
theorem OK.cells{m:Mp}{x:TV}{y:AV}(h:OK m x y)(e:(jH x).all qit=true):OKL m (jH x) (cellsOf y)/\(cellsOf y).all isC=true:=by
 have d:qit x=true->OKL m (jH x) (cellsOf y)/\(cellsOf y).all isC=true:=by
  intro g;obtain⟨a,b,c⟩:=h.one g;rw[b,c];exact⟨⟨y,[],rfl,h,rfl⟩,by simp[a]⟩
 cases x with
 | agg cs =>
   obtain⟨ds,rfl,f⟩:=h;exact⟨f,f.allC e⟩
 | tup cs=>simp[jH,qit]at e
 | dead=>simp[jH,qit]at e
 | _=>exact d rfl
theorem qHJ{x:AV}{l:List T}(h:qnp x=some l):1<=lvl x:=by
 unfold qnp at h;split at h
 ·exact kr _
 ·exact xD (we _)
 ·cases h
theorem qnq{τ : Ty}{y:AV}{l:List (Val τ)}(h:dlist τ y=some l):1<=lvl y:=by
 rcases jh h with⟨rfl,_⟩ | ⟨es,n,rfl,_⟩
 ·exact kr _
 ·exact xD (we _)
theorem qo2{m:Mp}:∀(τ : Ty) {cs:List AV} {v:Val τ} {r:List AV},QX τ cs=some (v,r)->∃ pre,cs=pre++r/\OKL m (Jr τ v) pre
 | .int k,cs,v,r,h=>by
   change qa6 k cs=_ at h;unfold qa6 at h;split at h<;>try cases h
   split at h<;>cases h;rename_i o;have e:=of_decide_eq_true o;subst e;exact⟨[_],rfl,⟨_,_,rfl,rfl,rfl⟩⟩
 | .bool,cs,v,r,h=>by
   change qid cs=_ at h;unfold qid at h;split at h<;>cases h;exact⟨[_],rfl,⟨_,_,rfl,rfl,rfl⟩⟩
 | .str,cs,v,r,h=>by
   change qgO cs=_ at h;unfold qgO at h;split at h<;>cases h;rename_i s;exact⟨[_],rfl,⟨_,_,rfl,by show AV.v (.string s) = .v (.string ⟨s.data.toList.toArray⟩);cases s;simp,rfl⟩⟩
 | .term,cs,v,r,h=>by
   change qaK cs=_ at h;unfold qaK at h;split at h<;>try cases h
   split at h<;>cases h;rename_i c;obtain⟨k,n,s,x,l,j,d,rfl⟩:=qna c;cases j;refine⟨_,rfl,⟨_,_,rfl,rfl,_,_,rfl,?_,_,_,rfl,rfl,_,_,rfl,⟨?_,qHJ d⟩,rfl⟩⟩
   ·show AV.v (.string n) = .v (.string ⟨n.data.toList.toArray⟩);cases n;simp
   ·rw[qkK];exact d
 | .list a,cs,v,r,h=>by
   change qdE _ cs=_ at h;unfold qdE at h;split at h<;>try cases h
   split at h<;>cases h;rename_i c;have c:dlist a _=some v:=c;exact⟨[_],rfl,⟨_,_,rfl,⟨c,qnq c⟩,rfl⟩⟩
 | .pair a b,cs,v,r,h=>by
   obtain⟨u,d,q⟩:=qab.1 h;obtain⟨p,e1,i⟩:=qo2 (m:=m) a d;obtain⟨f,t,g⟩:=qo2 (m:=m) b q;exact⟨p++f,by rw[e1,t,wi],i.append g⟩
 | .one a,cs,v,r,h=>qo2 (m:=m) a h
theorem QH{m:Mp}{τ : Ty}{e:List AV}{v:Val τ}(h:yh τ e=some v):OKL m (Jr τ v) e:=by
 obtain⟨pre,b,a⟩:=qo2 (m:=m) τ (yb.1 h);grind
theorem Qi(τ : Ty)(v:Val τ):yh τ (qi τ v)=some v:=yb.2 (qhv τ v)
theorem qsq{m:Mp}:∀(τ : Ty) (v:Val τ),OK m (qur τ v) (yL τ v)
 | .int k,v=>rfl
 | .bool,v=>rfl
 | .str,v=>rfl
 | .list a,v=>by
   have h:OKL m (Jr (.list a) v) (qi (.list a) v):=QH (Qi (.list a) v);obtain⟨y,r,d,c,_⟩:=h;cases d;exact c
 | .term,v=>⟨_,rfl,QH (Qi .term v)⟩
 | .pair a b,v=>⟨_,rfl,QH (Qi (.pair a b) v)⟩
 | .one a,v=>⟨_,rfl,QH (Qi (.one a) v)⟩
end Go.AmZ
namespace Go.AmZ
open Go Go.RowKit Go.GxZ
def qPw(τ : TS):Option TS->TS
 | none => τ
 | some a=>a
def Sim{α : Type}(N:Nat × Nat)(m:Mp)(E:Env)(τ : TS)(tm:List AV)(σ : St)(K:KT α)(r : α)(p:Option (AV × Option St)):Prop :=
 ∃ x a y σ' m',K x a=some r/\p=some (y,σ')/\MLe m m'/\Rel N m' E (qPw τ a) tm (turn σ σ')/\OK m' x y/\(a=none -> σ'=none)
section
variable {α : Type} {N:Nat × Nat} {m:Mp} {E:Env} {τ : TS} {tm:List AV} {σ : St} {K:KT α} {r : α} {p:Option (AV × Option St)}
theorem Sim.same{x:TV}{y:AV}(a:Rel N m E τ tm σ)(h:K x none=some r)(b:p=some (y,none))(c:OK m x y):Sim N m E τ tm σ K r p :=
 ⟨x,none,y,none,m,h,b,.refl m,a,c,λ _=>rfl⟩
theorem Sim.to{x:TV}{y:AV}{a:TS}{σ':St}{m':Mp}(h:K x (some a)=some r)(b:p=some (y,some σ'))(e:MLe m m')(d:Rel N m' E a tm σ')(c:OK m' x y):Sim N m E τ tm σ K r p :=
 ⟨x,some a,y,some σ',m',h,b,e,d,c,λ h=>by cases h⟩
theorem Rel.box_lt(a:Rel N m E τ tm σ){b:Nat}(h:b<m.nb):m.b b < σ.bx.length:=by
 rw[a.nb]at h;obtain⟨ds,c,_⟩:=a.box b _ (List.getElem?_eq_getElem h);exact getElem?_lt c
theorem Rel.alloc(a:Rel N m E τ tm σ){cs:List TV}{ds:List AV}(p:OKL m cs ds) :
  ∃ m',MLe m m'/\Rel N m' E { τ with bx := τ.bx++[cs] } tm { σ with bx := σ.bx++[ds] }/\OK m' (.ptr τ.bx.length 0) (.ptr σ.bx.length 0):=by
 have c:MLe m { m with b := λ i=>if i=m.nb then σ.bx.length else m.b i,nb:=m.nb+1 } :=
  ⟨kr _,λ i o=>if_neg (xY o),λ id R h=>⟨R,h,wb _,wb _,λ _=>⟨rfl,rfl,rfl,rfl,λ _=>rfl,λ _ _ h=>h⟩⟩⟩
 refine⟨_,c,?_,?_⟩
 ·refine⟨a.len,λ t=>(a.env t).mono c,a.rw,by show m.nb+1=_;rw[a.nb];simp,?_,?_,a.rows,a.rinj,quF c a.pin⟩
  ·intro b cs' d;show ∃ e,(σ.bx++[ds])[if b=m.nb then σ.bx.length else m.b b]?=some e/\_;by_cases g:b < τ.bx.length
   ·rw[List.getElem?_append_left g]at d;obtain⟨e,n,q⟩:=a.box b cs' d;rw[if_neg (by rw[a.nb];omega),List.getElem?_append_left (getElem?_lt n)];exact⟨e,n,q.mono c⟩
   ·have j:b<(τ.bx++[cs]).length:=getElem?_lt d;simp at j;have k:b = τ.bx.length:=by omega
    subst k;simp at d;subst d;rw[if_pos a.nb.symm];exact⟨ds,by simp,p.mono c⟩
  ·intro b b' d l f;change b<m.nb+1 at d;change b'<m.nb+1 at l;change (if b=m.nb then σ.bx.length else m.b b)=(if b'=m.nb then σ.bx.length else m.b b')at f;split at f<;>split at f
   ·omega
   ·have:=a.box_lt (b:=b') (by omega);omega
   ·have:=a.box_lt (b:=b) (by omega);omega
   ·exact a.inj b b' (by omega) (by omega) f
 ·refine⟨?_,?_⟩
  ·show τ.bx.length<m.nb+1;rw[a.nb];exact xu _
  ·show AV.ptr σ.bx.length 0 = .ptr (if τ.bx.length=m.nb then σ.bx.length else m.b τ.bx.length) 0;rw[if_pos a.nb.symm]
theorem Rel.setBox(a:Rel N m E τ tm σ){b:Nat}{cs:List TV}{ds:List AV}(g:b<m.nb)(k:OKL m cs ds)(w:List Nat):Rel N m E { τ with bx := τ.bx.set b cs } tm { σ with bx := σ.bx.set (m.b b) ds,wr:=w }:=by
 refine⟨a.len,a.env,a.rw,by rw[a.nb];simp,?_,a.inj,a.rows,a.rinj,a.pin⟩;intro i cs' d;have c:i<m.nb:=by rw[a.nb];have:=getElem?_lt d;simpa using this
 by_cases f:i=b
 ·subst f;have e:i < τ.bx.length:=by rw[<- a.nb];exact c
  simp only[List.getElem?_set_self e,wz]at d;subst d;exact⟨ds,by simp only[List.getElem?_set_self (a.box_lt g)],k⟩
 ·simp only[List.getElem?_set_ne (xK f)]at d;obtain⟨l,p,o⟩:=a.box i cs' d;have j:m.b b≠m.b i := λ h=>f (a.inj _ _ c g h.symm);grind
theorem Rel.rowsTo(a:Rel N m E τ tm σ){σ':St}(c : σ'.bx = σ.bx)(b:ju m σ'):Rel N m E τ tm σ' :=
 ⟨a.len,a.env,a.rw,a.nb,by rw[c];exact a.box,a.inj,b,a.rinj,a.pin⟩
theorem qJL{r:Nat}{Q:Row}(f:Q.fz<=Q.c.length):∀(e:List Nat) {rw:List Row},rw[r]?=some Q->∃ d,(frz rw e)[r]?=some d/\d.c=Q.c/\d.k=Q.k/\d.ver=Q.ver/\d.fz<=d.c.length:=by
 intro e
 induction e generalizing Q with
 | nil=>intro rw h;exact⟨Q,h,rfl,rfl,rfl,f⟩
 | cons a e n =>
   intro rw h
   have:∃ b,(rw.modify a qme)[r]?=some b/\b.c=Q.c/\b.k=Q.k/\b.ver=Q.ver/\b.fz<=b.c.length:=by
    rw[List.getElem?_modify,h];by_cases o:a=r
    ·exact⟨qme Q,by simp[o],rfl,rfl,rfl,Nat.max_le.2 ⟨f,wb _⟩⟩
    ·grind
   obtain⟨b,t,s,g3,q,p⟩:=this;obtain⟨u,m,l,j,i,g⟩:=n (Q:=b) p t;exact⟨u,m,l.trans s,j.trans g3,i.trans q,g⟩
def shM(m:Mp):Mp:={ m with rw:=m.rw.map λ R=>⟨R.τ,R.l,R.ver,R.sv,true⟩ }
theorem qFm{id:Nat}{R:qQ}(h:(shM m).rw[id]?=some R):∃ a,m.rw[id]?=some a/\R=⟨a.τ,a.l,a.ver,a.sv,true⟩:=by
 change (m.rw.map _)[id]?=some R at h;grind
theorem qf5(m:Mp):MLe m (shM m):=by
 refine⟨wb _,λ _ _=>rfl,λ id R h=>⟨⟨R.τ,R.l,R.ver,R.sv,true⟩,?_,wb _,wb _,λ _=>⟨rfl,rfl,rfl,rfl,λ _=>rfl,λ _ _ h=>h⟩⟩⟩;show(m.rw.map _)[id]?=_;rw[List.getElem?_map,h];rfl
theorem ju.frz(h:ju m σ)(b w:List Nat):ju (shM m) { σ with rw:=frz σ.rw b,wrr:=w }:=by
 intro id R e;obtain⟨a,i,rfl⟩:=qFm e;have:=h id a i;show match m.r id with | some r=>∃ Q,(Go.AmZ.frz σ.rw b)[r]?=some Q/\Q.c=m.q id/\Q.ver=m.v id/\Q.k=a.τ.size/\zg (yh a.τ) Q.c=some a.l/\Q.fz<=Q.c.length/\(true=false->Q.fz=0/\Q.off=false) | none=>true=false->a.l=[]
 cases d:m.r id with
 | some r =>
   rw[d]at this;obtain⟨Q,g,p,o,n,j,f,_⟩:=this;obtain⟨y,x,u,g3,t,s⟩:=qJL f (rw := σ.rw) b g;grind
 | none=>intro h;cases h
theorem ju.sh(h:ju m σ):ju (shM m) σ := by
 intro id R d;obtain⟨a,e,rfl⟩:=qFm d;have:=h id a e;show match m.r id with | some r=>∃ Q,σ.rw[r]?=some Q/\Q.c=m.q id/\Q.ver=m.v id/\Q.k=a.τ.size/\zg (yh a.τ) Q.c=some a.l/\Q.fz<=Q.c.length/\(true=false->Q.fz=0/\Q.off=false) | none=>true=false->a.l=[]
 cases b:m.r id with
 | some r =>
   rw[b]at this;obtain⟨Q,o,n,j,i,g,f,_⟩:=this;grind
 | none=>intro h;cases h
theorem Rel.share(a:Rel N m E τ tm σ){σ':St}(f : σ'.bx = σ.bx)(e:ju (shM m) σ'):Rel N (shM m) E (shA τ) tm σ':=by
 refine⟨a.len,λ t=>(a.env t).mono (qf5 m),by show m.rw.map _ = τ.rw.map _;rw[a.rw],a.nb,?_,a.inj,e,?_,a.pin⟩
 ·intro b cs d;obtain⟨ds,h,g⟩:=a.box b cs d;exact⟨ds,by rw[f];exact h,g.mono (qf5 m)⟩
 ·intro id c r e1 k j i;have l:(shM m).rw.length=m.rw.length:=wA ..;exact a.rinj id c r (l▸e1) (l▸k) j i
theorem qMs{op:BinOp}{k:IntKind}{a b:Int}{d:TV->Option α}{r : α}(h:qKU op k a b d=some r):∃ x z,d x=some r/\qCv op k a b=some z/\OK m x (.v z):=by
 cases op<;>simp only[qKU]at h<;>first
  | (cases h;done)
  | exact⟨_,_,h,rfl,rfl⟩
  | skip
 all_goals (
  cases c:ieq b 0 with
  | true=>rw[c]at h;cases h
  | false=>rw[c]at h;exact⟨_,_,h,by simp only[qCv,c],rfl⟩)
theorem qLy{a b:List UInt8}(h:qgB a b=true):qG8 ⟨a.toArray⟩ ⟨b.toArray⟩=some ⟨(a++b).toArray⟩:=by
 have h:=of_decide_eq_true h;unfold qG8;have e1:(⟨a.toArray⟩:ByteArray).size=a.length:=by simp[ByteArray.size]
 have c:(⟨b.toArray⟩:ByteArray).size=b.length:=by simp[ByteArray.size]
 rw[if_neg (by rw[e1,c];omega)];congr 1
theorem qMi(a b:List UInt8):xeq ⟨a.toArray⟩ ⟨b.toArray⟩=qx a b:=by
 simp[xeq,qx]
theorem qNa(a b:List UInt8):xlt ⟨a.toArray⟩ ⟨b.toArray⟩=slt a b:=by
 simp[xlt,slt]
theorem qM5{op:BinOp}{a b:List UInt8}{d:TV->Option α}{r : α}(h:qLV op a b d=some r):∃ x z,d x=some r/\qCs op ⟨a.toArray⟩ ⟨b.toArray⟩=some z/\OK m x (.v z):=by
 cases op<;>simp only[qLV]at h<;>first
  | (cases h;done)
  | (refine⟨_,_,h,rfl,?_⟩;simp only[qMi,qNa];exact rfl)
  | skip
 cases c:qgB a b with
 | false=>rw[c]at h;cases h
 | true=>rw[c]at h;exact⟨_,_,h,by simp only[qCs,qLy c],rfl⟩
theorem qCo{place:Nat->Option (Nat × Nat)}:∀{l:List (Nat × TV)} {c:List (Nat × AV)} {cells:List TV} {cells':List AV} {cs:List TV},
  (l.map (·.1)=c.map (·.1)/\OKL m (l.map (·.2)) (c.map (·.2)))->OKL m cells cells'->qAQ place cells l=some cs->∃ ds,qnj place cells' c=some ds/\OKL m cs ds
 | [],c,cells,cells',cs,d,e,h=>by
   have:c=[]:=by cases c with | nil=>rfl | cons a b=>simp at d
   subst this;cases h;exact⟨cells',rfl,e⟩
 | (i,x)::l,c,cells,cells',cs,d,e,h=>by
   cases c with
   | nil=>simp at d
   | cons q c =>
     obtain⟨j,y⟩:=q;simp only[wo,List.cons.injEq]at d;obtain⟨⟨rfl,g⟩,z,A,r,o,f⟩:=d;cases r;simp only[qAQ]at h;simp only[qnj];split at h<;>try cases h
     rename_i off size p;split at h<;>try cases h
     rename_i k;simp only[wd,decide_eq_true_eq]at k;obtain⟨⟨u,t⟩,s⟩:=k;obtain⟨n,v⟩:=o.cells s;rw[p];have e1:(cellsOf y).length=size:=by rw[n.len];exact u
     have w:off+size<=cells'.length:=by rw[e.len];exact t
     simp only[e1,w,v,decide_true,xl];exact qCo ⟨g,f⟩ ((e.take off).append (n.append (e.drop (off+size)))) h
theorem qgF{a:Bool}{size o:Nat}{cs:List TV}{ds:List AV}{x:TV}(b:OKL m cs ds)(h:qmN a size cs o=some x):∃ y,qdN a size ds o=some y/\OK m x y:=by
 unfold qmN at h;unfold qdN;cases a with
 | true =>
   simp only at h |-
   split at h<;>cases h;rename_i c;rw[<- b.len]at c;rw[c];exact⟨_,rfl,_,rfl,(b.drop o).take size⟩
 | false=>exact b.get h
theorem qdc(e:Rel N m E τ tm σ){y:Nat}{d:Nat}{a:Option Operand}{n:Int}(h:qgc d E a=some n)(f:d<=y)(b:inb n y=true):qdB d y (a.map (aev tm))=some n.toNat:=by
 have b:=of_decide_eq_true b;cases a with
 | none =>
   grind [qgc,qdB]
 | some x =>
   simp only[qgc]at h;split at h<;>cases h;rename_i k c;have:=e.ev x;rw[c]at this;show qwu y (aev tm x)=_;rw[this];show bnd y n=_;unfold bnd;rw[if_pos b]
theorem qjA{a:Type}{l:List a}{j:Int}{v:a}(h:qb l j=some v):0<=j/\l[j.toNat]?=some v:=by
 grind [qb]
theorem Jd{b a:Type}{x:Option b}{k:b->Option a}{r:a}(h:qa x k=some r):∃ v,x=some v/\k v=some r:=by
 unfold qa at h;grind
theorem jU{b:Bool}{x:Option α}{r : α}(h:cond b x none=some r):b=true/\x=some r:=by
 grind
theorem qwV{b:Bool}{x:Option α}{r : α}(h:cond b none x=some r):b=false/\x=some r:=by
 grind
end
end Go.AmZ
namespace Go.AmZ
open Go Go.RowKit Go.GxZ
def qeK:AV->Bool
 | .agg _=>true
 | _=>false
def QW(τ : Ty)(y:AV):Option (Val τ):=match qdG τ.agg (qeK y)with
 | true=>yh τ (cellsOf y)
 | false=>none
section
variable {α : Type} {N:Nat × Nat} {m:Mp} {E:Env} {τ : TS} {tm:List AV} {σ : St} {K:KT α} {r : α} {p:Option (AV × Option St)}
theorem jE{a b:Ty}{l:List (Val a)}{c:List (Val b)}(h:qfp l b=some c):∃ e:a=b,e▸l=c:=by
 grind [qfp]
theorem qy6(Q:Row):qm9 Q Q.k 0 Q.c.length Q.ver=some Q.c:=by
 grind [qm9]
theorem qiB(a:ju m σ){id:Nat}{R:qQ}{y:AV}(e:m.rw[id]?=some R)(h:qaa (m.r id) (m.v id) R.τ R.l y) :
  (∃ r Q,m.r id=some r/\y = .rs r 0 Q.c.length Q.ver false /\ σ.rw[r]?=some Q/\Q.c=m.q id/\Q.ver=m.v id/\Q.k=R.τ.size/\zg (yh R.τ) Q.c=some R.l/\Q.fz<=Q.c.length/\(R.sh=false->Q.fz=0/\Q.off=false)) \/
  (m.r id=none/\(R.sh=false->R.l=[])/\dlist R.τ y=some R.l/\2<=lvl y):=by
 have a:=a id R e;cases b:m.r id with
 | some r =>
   rw[b]at a h;obtain⟨Q,j,i,g3,g,d,f⟩:=a;refine .inl ⟨r,Q,rfl,?_,j,i,g3,g,d,f⟩;rw[qY d,g3];exact h
 | none =>
   rw[b]at a h;exact .inr ⟨rfl,a,h.1,h.2⟩
theorem qzt{a:Ty}{y:AV}{l:List (Val a)}(b:List Row)(h:dlist a y=some l):∃ es,elems b a.size y=some es/\zg (yh a) es=some l/\dlist a (zk b y)=some l:=by
 rcases jh h with⟨rfl,c⟩ | ⟨es,n,rfl,c⟩
 ·rw[c];exact⟨[],rfl,rfl,rfl⟩
 ·refine⟨es,by simp only[elems,zi,decide_true],c,?_⟩;show dlist _ (.sl _ es 1)=_;grind [dlist,jx,zi]
theorem qob(k:ju m σ){a:Ty}{x:TV}{y:AV}{l:List (Val a)}(h:qnu m.rw a x=some l)(f:OK m x y) :
  ∃ es,elems σ.rw a.size y=some es/\zg (yh a) es=some l/\dlist a (zk σ.rw y)=some l:=by
 unfold qnu at h;split at h
 ·cases h;cases f;exact⟨[],rfl,rfl,rfl⟩
 ·obtain⟨e,rfl⟩:=jE h;subst e;exact qzt _ f.1
 ·rename_i id b;split at h<;>try cases h
  rename_i R g;split at h<;>try cases h
  rename_i d;have d:R.ver=b:=wj d;obtain⟨e,rfl⟩:=jE h;subst e;obtain⟨R',i,_,_,n⟩:=f;rw[g]at i;cases i;rcases qiB k g (n d)with⟨r,Q,_,rfl,j,_,_,p,o,_⟩ | ⟨_,_,q,_⟩
  ·refine⟨Q.c,?_,o,?_⟩
   ·simp only[elems,j];rw[<- p];exact qy6 Q
   ·simp only[zk,j,qy6 Q,dlist,jx];grind [zi]
  ·exact qzt _ q
 ·cases h
theorem qfa(i:ju m σ):∀(a:Ty) {cs:List TV} {v:Val a} {r:List TV} {ds:List AV},qkV m.rw a cs=some (v,r)->OKL m cs ds->∃ d,QX a (ds.map (zk σ.rw))=some (v,d.map (zk σ.rw))/\OKL m r d
 | .int k,cs,v,r,ds,h,c=>by
   change qJF k cs=_ at h;unfold qJF at h;split at h<;>try cases h
   split at h<;>cases h;rename_i A;obtain⟨y,d,rfl,g,f⟩:=c;cases g;exact⟨d,by show qa6 _ _=_;simp only[wo,zk,qa6,A],f⟩
 | .bool,cs,v,r,ds,h,c=>by
   change qGP cs=_ at h;unfold qGP at h;split at h<;>cases h;obtain⟨y,d,rfl,g,f⟩:=c;cases g;exact⟨d,rfl,f⟩
 | .str,cs,v,r,ds,h,c=>by
   change qKL cs=_ at h;unfold qKL at h;split at h<;>cases h;obtain⟨y,d,rfl,g,f⟩:=c;cases g;exact⟨d,by show qgO _=_;simp only[wo,zk,qgO],f⟩
 | .term,cs,v,r,ds,h,c=>by
   change qGI _ cs=_ at h;unfold qGI at h;split at h<;>try cases h
   split at h<;>cases h;rename_i s;obtain⟨y1,w,rfl,q,y2,G,rfl,p,y3,F,rfl,o,y4,t,rfl,n,f⟩:=c;cases q;cases p;cases o;obtain⟨es,_,_,j⟩:=qob i s n;rw[qkK]at j;refine⟨t,?_,f⟩;show qaK (.v (.int .i64 _) :: .v (.string ⟨_⟩) :: .v (.int .i64 _)::zk σ.rw y4::t.map (zk σ.rw))=_;grind [qaK,Ja]
 | .list a,cs,v,r,ds,h,c=>by
   change qGR _ cs=_ at h;unfold qGR at h;split at h<;>try cases h
   split at h<;>cases h;rename_i s;obtain⟨y,d,rfl,g,f⟩:=c;obtain⟨es,_,_,j⟩:=qob i s g;have j:jx a.size (λ e=>full (QX a e)) (zk σ.rw y)=some v:=j;exact⟨d,by show qdE _ _=_;simp only[wo,qdE,j],f⟩
 | .pair a b,cs,v,r,ds,h,c=>by
   obtain⟨w,C,B⟩:=qab.1 h;obtain⟨u,E,D⟩:=qfa i a C c;obtain⟨l,z,x⟩:=qfa i b B D;exact⟨l,qab.2 ⟨_,E,z⟩,x⟩
 | .one a,cs,v,r,ds,h,c=>qfa i a h c
theorem qh8{a:Type}{x:Option (a × List TV)}{v:a}(h:qp9 x=some v):x=some (v,[]):=by
 unfold qp9 at h;grind
theorem qGG(rw:List Row){y:AV}(h:qeK y=false):qeK (QN rw y)=false/\cellsOf (QN rw y)=[zk rw y]/\cellsOf y=[y]:=by
 cases y with
 | agg cs=>cases h
 | rs r lo n a f =>
   grind [QN,zk,qeK,cellsOf]
 | _=>exact⟨rfl,rfl,rfl⟩
theorem qk4(hq:ju m σ){a:Ty}{x:TV}{y:AV}{v:Val a}(h:qgs m.rw a x=some v)(ho:OK m x y) :
  QW a (QN σ.rw y)=some v/\yh a ((cellsOf y).map (zk σ.rw))=some v:=by
 unfold qgs at h;split at h
 case h_2=>cases h
 rename_i hb;have hb:a.agg=qvQ x:=by simpa[qdG]using hb
 have h:=qh8 h
 have key:OKL m (jH x) (cellsOf y)->yh a ((cellsOf y).map (zk σ.rw))=some v:=by
  intro hc;obtain⟨rs,g1,g2⟩:=qfa hq a h hc;cases g2;exact yb.2 g1
 by_cases hx:qvQ x=true
 ·cases x with
  | agg cs =>
    obtain⟨ds,rfl,hd⟩:=ho;refine⟨?_,key hd⟩;unfold QW;rw[hb];exact key hd
  | _=>cases hx
 ·have hx:qvQ x=false:=by simpa using hx
  have hct:jH x=[x]:=by cases x<;>first | rfl | (cases hx)
  have hy:qeK y=false:=by
   cases x with
   | agg cs=>cases hx
   | i=>cases ho;rfl
   | b=>cases ho;rfl
   | s=>cases ho;rfl
   | c=>obtain⟨_,rfl⟩:=ho;rfl
   | nil=>cases ho;rfl
   | sl τ l lv =>
     obtain⟨ho,_⟩:=ho;rcases jh ho with⟨rfl,_⟩ | ⟨es,n,rfl,_⟩<;>rfl
   | row id ver =>
     obtain⟨R,_,_,ho,_⟩:=ho;rcases ho with rfl | ⟨k,es,j,rfl⟩ | ⟨r,lo,n,ep,f,rfl⟩<;>rfl
   | ptr b o=>obtain⟨_,rfl⟩:=ho;rfl
   | pti b i=>obtain⟨_,_,rfl⟩:=ho;rfl
   | rpt id ver sv i cs o=>obtain⟨R,_,_,_,ho,_⟩:=ho;rcases ho with⟨r,i,ep,rfl⟩ | ⟨ds,rfl⟩<;>rfl
   | ept cs o=>obtain⟨ds,rfl,_⟩:=ho;rfl
   | fn f cs=>obtain⟨ds,rfl,_⟩:=ho;rfl
   | tup cs=>obtain⟨ds,rfl,_⟩:=ho;rfl
   | dead =>
     exfalso;rw[hct]at h;have hag:a.agg=false:=by rw[hb];rfl
     cases a with
     | int k=>cases h
     | bool=>cases h
     | str=>cases h
     | list a=>cases h
     | term=>cases hag
     | pair a b=>cases hag
     | one a=>cases hag
  obtain⟨e1,e2,e3⟩:=qGG σ.rw hy;have hc:OKL m (jH x) (cellsOf y):=by rw[hct,e3];exact⟨y,[],rfl,ho,rfl⟩
  grind [QW]
theorem qBz{x:TV}{y:AV}(a:OK m x y)(h:qkX x=true):rsC y=[]/\qeK y=false:=by
 cases x with
 | i=>cases a;exact⟨rfl,rfl⟩
 | b=>cases a;exact⟨rfl,rfl⟩
 | s=>cases a;exact⟨rfl,rfl⟩
 | c=>obtain⟨_,rfl⟩:=a;exact⟨rfl,rfl⟩
 | nil=>cases a;exact⟨rfl,rfl⟩
 | sl τ l d =>
   obtain⟨a,_⟩:=a;rcases jh a with⟨rfl,_⟩ | ⟨es,n,rfl,_⟩<;>exact⟨rfl,rfl⟩
 | fn f cs=>obtain⟨ds,rfl,_⟩:=a;exact⟨rfl,rfl⟩
 | _=>cases h
theorem qjE:∀{xs:List TV} {ys:List AV},OKL m xs ys->xs.all qkX=true->ys.flatMap rsC=[]
 | [],_,h,_=>by cases h;rfl
 | x::xs,_,⟨y,r,rfl,b,a⟩,h=>by
   rw[kC,wd]at h;rw[xc,(qBz b h.1).1,qjE a h.2];rfl
theorem qMM{y:AV}(b:rsC y=[])(a:qeK y=false):rsA y=[]:=by
 cases y<;>first | (cases a;done) | exact b
theorem qxk{x:TV}{y:AV}(h:qo7 x=true)(c:OK m x y):rsA y=[]:=by
 cases x with
 | agg cs =>
   obtain⟨ds,rfl,d⟩:=c;exact qjE d h
 | _=>obtain⟨a,b⟩:=qBz c h;exact qMM a b
theorem qtv:∀{xs:List TV} {ys:List AV},xs.all qo7=true->OKL m xs ys->ys.flatMap rsA=[]
 | [],_,_,h=>by cases h;rfl
 | x::xs,_,h,⟨y,r,rfl,b,a⟩=>by
   rw[kC,wd]at h;rw[xc,qxk h.1 b,qtv h.2 a];rfl
theorem qCc(c:ju m σ){a:Ty}:∀{xs:List TV} {ys:List AV} {vs:List (Val a)},qst m.rw a xs=some vs->OKL m xs ys ->
  zg (yh a) (ys.map λ y=>(cellsOf y).map (zk σ.rw))=some vs
 | [],ys,vs,h,e=>by cases e;cases h;rfl
 | x::xs,ys,vs,h,⟨y,r,f,i,g⟩=>by
   subst f;simp only[qst]at h;split at h<;>try cases h
   rename_i v d;split at h<;>cases h;rename_i vs b;exact yX.2 ⟨v,vs,(qk4 c d i).2,qCc c b g,rfl⟩
end
end Go.AmZ
namespace Go.AmZ
open Go Go.RowKit Go.GxZ
def Mp.add(m:Mp)(R:qQ)(ro:Option Nat)(vo:Nat)(qo:List (List AV)):Mp :=
 ⟨m.b,m.nb,λ i=>if i=m.rw.length then ro else m.r i,λ i=>if i=m.rw.length then vo else m.v i,λ i=>if i=m.rw.length then qo else m.q i,m.rw++[R]⟩
def Mp.upd(m:Mp)(id:Nat)(R:qQ)(ro:Option Nat)(vo:Nat)(qo:List (List AV)):Mp :=
 ⟨m.b,m.nb,λ i=>if i=id then ro else m.r i,λ i=>if i=id then vo else m.v i,λ i=>if i=id then qo else m.q i,m.rw.set id R⟩
section
variable {α : Type} {N:Nat × Nat} {m:Mp} {E:Env} {τ : TS} {tm:List AV} {σ : St} {K:KT α} {r : α} {p:Option (AV × Option St)} {c:TC} {C:Cfg} {R R2:qQ} {ro:Option Nat} {vo:Nat} {qo:List (List AV)} {id:Nat}
theorem qsl(m:Mp)(R:qQ)(ro:Option Nat)(vo:Nat)(qo:List (List AV)):MLe m (m.add R ro vo qo):=by
 refine⟨wb _,λ i _=>rfl,λ id R' h=>?_⟩;have b:=getElem?_lt h;have a:¬ id=m.rw.length:=xY b;exact⟨R',by show(m.rw++_)[id]?=_;rw[List.getElem?_append_left b];exact h,wb _,wb _,λ _=>⟨rfl,if_neg a,if_neg a,rfl,λ _=>if_neg a,λ _ _ h=>h⟩⟩
theorem JT.later{σ':St}(h:JT σ R ro vo qo)(a:∀ r Q,ro=some r -> σ.rw[r]?=some Q -> σ'.rw[r]?=some Q):JT σ' R ro vo qo:=by
 cases ro with
 | none=>exact h
 | some r =>
   obtain⟨Q,c,b⟩:=h;exact⟨Q,a r Q rfl c,b⟩
theorem qo1{σ':St}(d:ju m σ)(f:JT σ' R ro vo qo)(e:∀(r:Nat) (Q:Row),σ.rw[r]?=some Q -> σ'.rw[r]?=some Q):ju (m.add R ro vo qo) σ':=by
 intro id R' a;change (m.rw++[R])[id]?=some R' at a;show JT σ' R' (if id=m.rw.length then ro else m.r id) (if id=m.rw.length then vo else m.v id) (if id=m.rw.length then qo else m.q id);by_cases c:id=m.rw.length
 ·grind
 ·rw[if_neg c,if_neg c,if_neg c];have b:id<m.rw.length:=by have:=getElem?_lt a;simp at this;omega
  rw[List.getElem?_append_left b]at a;exact(d id R' a).later λ r Q _ h=>e r Q h
theorem qHL(k:m.rw[id]?=some R)(n:R.ver<=R2.ver)(o:R.sv<=R2.sv)(p:R2.ver=R.ver->R2.l.length=R.l.length/\ro=m.r id/\vo=m.v id/\R2.τ = R.τ /\ (R2.sv=R.sv->qo=m.q id)/\(m.r id=none->∀ y,dlist R.τ y=some R.l->dlist R2.τ y=some R2.l)):MLe m (m.upd id R2 ro vo qo):=by
 have j:=getElem?_lt k;refine⟨wb _,λ i _=>rfl,λ i R' h=>?_⟩;by_cases g:i=id
 ·subst g;rw[k]at h;cases h;refine⟨R2,by show(m.rw.set i R2)[i]?=_;rw[List.getElem?_set_self j],n,o,λ h=>?_⟩;obtain⟨a,b,c,d,e,f⟩:=p h;exact⟨a,(if_pos rfl).trans b,(if_pos rfl).trans c,d,λ h=>(if_pos rfl).trans (e h),f⟩
 ·exact⟨R',by show(m.rw.set id R2)[i]?=_;rw[List.getElem?_set_ne (xK g)];exact h,wb _,wb _,λ _=>⟨rfl,if_neg g,if_neg g,rfl,λ _=>if_neg g,λ _ _ h=>h⟩⟩
theorem qCE{σ':St}(j:m.rw[id]?=some R)(d:ju m σ)(k:JT σ' R2 ro vo qo)(e:∀ a r Q,a≠id->a<m.rw.length->m.r a=some r -> σ.rw[r]?=some Q -> σ'.rw[r]?=some Q):ju (m.upd id R2 ro vo qo) σ':=by
 have f:=getElem?_lt j;intro i R' c;change (m.rw.set id R2)[i]?=some R' at c;show JT σ' R' (if i=id then ro else m.r i) (if i=id then vo else m.v i) (if i=id then qo else m.q i);by_cases b:i=id
 ·grind
 ·rw[if_neg b,if_neg b,if_neg b];rw[List.getElem?_set_ne (xK b)]at c;exact(d i R' c).later λ r Q h g=>e i r Q b (getElem?_lt c) h g
theorem Rel.to{m':Mp}{d:List qQ}{σ':St}(c:Rel N m E τ tm σ)(a:MLe m m')(n:m'.rw=d)(h:m'.nb=m.nb)(g:m'.b=m.b)(l : σ'.bx = σ.bx)(j:ju m' σ')
  (k:∀ i e r,i<m'.rw.length->e<m'.rw.length->m'.r i=some r->m'.r e=some r->i=e):Rel N m' E { τ with rw:=d } tm σ':=by
 refine⟨c.len,λ t=>(c.env t).mono a,n,by rw[h];exact c.nb,?_,by rw[h,g];exact c.inj,j,k,quF a c.pin⟩;intro b cs f;obtain⟨ds,p,o⟩:=c.box b cs f;exact⟨ds,by rw[l,g];exact p,o.mono a⟩
theorem Rel.row_lt(a:Rel N m E τ tm σ){id r:Nat}(h:id<m.rw.length)(b:m.r id=some r):r < σ.rw.length:=by
 have:=a.rows id _ (List.getElem?_eq_getElem h);rw[b]at this;obtain⟨Q,c,_⟩:=this;exact getElem?_lt c
theorem Rel.rowAdd{σ':St}(b:Rel N m E τ tm σ)(R:qQ)(ro:Option Nat)(vo:Nat)(qo:List (List AV))(j : σ'.bx = σ.bx)(h:JT σ' R ro vo qo)(i:∀(r:Nat) (Q:Row),σ.rw[r]?=some Q -> σ'.rw[r]?=some Q)(e:∀ r,ro=some r -> σ.rw.length<=r){y:AV}(d:qaa ro vo R.τ R.l y)(k:R.ver=0) :
  ∃ m',MLe m m'/\Rel N m' E { τ with rw := τ.rw++[R] } tm σ'/\OK m' (.row τ.rw.length 0) y:=by
 refine⟨m.add R ro vo qo,qsl _ _ _ _ _,b.to (qsl _ _ _ _ _) (by show m.rw++_=_;rw[b.rw]) rfl rfl j (qo1 b.rows h i) ?_,?_⟩
 ·intro id a r g f e1 c;change id<(m.rw++[_]).length at g;change a<(m.rw++[_]).length at f;change (if id=m.rw.length then ro else m.r id)=some r at e1;change (if a=m.rw.length then ro else m.r a)=some r at c;simp at g f;split at e1<;>split at c
  ·omega
  ·have:=b.row_lt (by omega) c;have:=e r e1;omega
  ·have:=b.row_lt (by omega) e1;have:=e r c;omega
  ·exact b.rinj id a r (by omega) (by omega) e1 c
 ·refine⟨R,?_,we _,d.ish,λ _=>?_⟩
  ·show(m.rw++_)[τ.rw.length]?=_;rw[b.rw];simp
  ·show qaa (if τ.rw.length=m.rw.length then ro else m.r τ.rw.length) (if τ.rw.length=m.rw.length then vo else m.v τ.rw.length) _ _ y;rw[if_pos (by rw[b.rw]),if_pos (by rw[b.rw])];exact d
theorem Rel.rowNew(b:Rel N m E τ tm σ){a:Ty}{es:List (List AV)}{l:List (Val a)}(c:zg (yh a) es=some l) :
  ∃ m',MLe m m'/\Rel N m' E { τ with rw := τ.rw++[⟨a,l,0,0,false⟩] } tm { σ with rw := σ.rw++[⟨a.size,es,0,0,false⟩] }/\OK m' (.row τ.rw.length 0) (.rs σ.rw.length 0 l.length 0 false) :=
 b.rowAdd (σ':={ σ with rw := σ.rw++[⟨a.size,es,0,0,false⟩] }) ⟨a,l,0,0,false⟩ (some σ.rw.length) 0 es rfl ⟨⟨a.size,es,0,0,false⟩,by show(σ.rw++[_])[σ.rw.length]?=_;simp,rfl,rfl,rfl,c,we _,λ _=>⟨rfl,rfl⟩⟩
  (λ r Q h=>by show(σ.rw++_)[r]?=_;rw[List.getElem?_append_left (getElem?_lt h)];exact h) (λ r h=>by cases h;exact wb _) rfl rfl
theorem Rel.rowUpd(c:Rel N m E τ tm σ)(B : τ.rw[id]?=some R)(ro:Option Nat)(vo:Nat)(qo:List (List AV))(n:R.ver<=R2.ver)(o:R.sv<=R2.sv)(t:R2.ver=R.ver->R2.l.length=R.l.length/\ro=m.r id/\vo=m.v id/\R2.τ = R.τ /\ (R2.sv=R.sv->qo=m.q id)/\(m.r id=none->∀ y,dlist R.τ y=some R.l->dlist R2.τ y=some R2.l)){σ':St}(u : σ'.bx = σ.bx)(p:JT σ' R2 ro vo qo)
  (s:∀ a r,a≠id->a<m.rw.length->m.r a=some r->ro≠some r/\∀ Q,σ.rw[r]?=some Q -> σ'.rw[r]?=some Q) :
  ∃ m',MLe m m'/\Rel N m' E { τ with rw := τ.rw.set id R2 } tm σ'/\(∀ y,qaa ro vo R2.τ R2.l y->OK m' (.row id R2.ver) y):=by
 have b:m.rw[id]?=some R:=by rw[c.rw];exact B
 have f:=getElem?_lt b;have d:MLe m (m.upd id R2 ro vo qo):=qHL b n o t;refine⟨m.upd id R2 ro vo qo,d,c.to d (by show m.rw.set id R2=_;rw[c.rw]) rfl rfl u (qCE b c.rows p λ a r Q A z x w=>(s a r A z x).2 Q w) ?_,λ y k=>?_⟩
 ·intro i e r h g e1 j;change i<(m.rw.set id R2).length at h;change e<(m.rw.set id R2).length at g;change (if i=id then ro else m.r i)=some r at e1;change (if e=id then ro else m.r e)=some r at j;simp at h g;split at e1<;>split at j
  ·omega
  ·grind
  ·grind
  ·exact c.rinj i e r h g e1 j
 ·refine⟨R2,?_,wb _,k.ish,λ _=>?_⟩
  ·show(m.rw.set id R2)[id]?=_;rw[List.getElem?_set_self f]
  ·show qaa (if id=id then ro else m.r id) (if id=id then vo else m.v id) _ _ y;grind
theorem Rel.others(c:Rel N m E τ tm σ)(h : τ.rw[id]?=some R){rr:Nat}(b:m.r id=some rr){a r:Nat}(g:a≠id)(f:a<m.rw.length)(e:m.r a=some r):r≠rr := λ d =>
 g (c.rinj a id rr f (by rw[c.rw];exact getElem?_lt h) (d▸e) b)
theorem qyO{a:Type}{f:List AV->Option a}:∀{es:List (List AV)} {l:List a},zg f es=some l->∀(j:Nat) {e:List AV} {v:a},f e=some v->zg f (es.set j e)=some (l.set j v)
 | [],l,h,j,e,v,b=>by cases h;rfl
 | g::es,l,h,j,e,v,b=>by
   obtain⟨w,vs,d,c,rfl⟩:=yX.1 h;cases j with
   | zero=>exact yX.2 ⟨v,vs,b,c,rfl⟩
   | succ j=>exact yX.2 ⟨w,vs.set j v,d,qyO c j b,rfl⟩
theorem qy8{a:Type}{f:List AV->Option a}{e:List AV}{v:a}(h:f e=some v):∀ n:Nat,zg f (List.replicate n e)=some (List.replicate n v)
 | 0=>rfl
 | n+1=>yX.2 ⟨v,_,h,qy8 h n,rfl⟩
end
end Go.AmZ
namespace Go.AmZ
open Go Go.RowKit Go.GxZ
section
variable {α : Type} {N:Nat × Nat} {m:Mp} {E:Env} {τ : TS} {tm:List AV} {σ : St} {K:KT α} {r : α} {p:Option (AV × Option St)} {c:TC} {C:Cfg}
theorem qMg{d:Option TD}{op:BinOp}{x y:TV}{x' f:AV}{n:TV->Option α}(i:OK m x x')(g:OK m y f)(h:qLw d op x y n=some r) :
  ∃ z v,n z=some r/\OK m z (.v v)/\((∃ a b,x' = .v (.bool a)/\f = .v (.bool b)/\qu5 d=true/\((op = .eql/\v = .bool (qdG a b))\/(op = .neq/\v = .bool (qd (qdG a b)))))\/∃ a b,x' = .v a/\f = .v b/\(∀ p q,¬ (a = .bool p/\b = .bool q))/\qrs op a b=some v):=by
 unfold qLw at h;split at h
 ·rename_i k a u b;cases i;cases g;split at h
  ·obtain⟨e,c⟩:=qwV h;exact⟨_,_,c,rfl,.inr ⟨_,_,rfl,rfl,by simp,by simp only[qrs,e]⟩⟩
  ·obtain⟨e,c⟩:=qwV h;exact⟨_,_,c,rfl,.inr ⟨_,_,rfl,rfl,by simp,by simp only[qrs,e]⟩⟩
  ·rename_i s o;split at h<;>try cases h
   rename_i t;obtain⟨z,v,e,c,l⟩:=qMs (m:=m) h;refine⟨z,v,e,l,.inr ⟨_,_,rfl,rfl,by simp,?_⟩⟩;unfold qrs;cases op<;>first | (exact absurd rfl s) | (exact absurd rfl o) | (simp only[t];exact c)
 ·cases i;cases g;obtain⟨z,v,e,c,l⟩:=qM5 (m:=m) h;exact⟨z,v,e,l,.inr ⟨_,_,rfl,rfl,by simp,c⟩⟩
 ·cases i;cases g;split at h<;>try cases h
  ·rename_i j;exact⟨_,_,h,rfl,.inl ⟨_,_,rfl,rfl,j,.inl ⟨rfl,rfl⟩⟩⟩
  ·rename_i j;exact⟨_,_,h,rfl,.inl ⟨_,_,rfl,rfl,j,.inr ⟨rfl,rfl⟩⟩⟩
 ·cases h
theorem qtg{d:Option TD}(h:qBb d=true):∃ a b c z,d=some ⟨a,b,c,z,.ptr⟩:=by
 unfold qBb at h;split at h
 ·exact⟨_,_,_,_,rfl⟩
 ·cases h
theorem qHx{x y:TV}{x' d:AV}(c:OK m x x')(a:OK m y d){b:Bool}(h:qGi x y=some b) :
  (b=true/\x' = .v (.pointer none)/\d = .v (.pointer none))\/(b=false/\qre x'=true/\d = .v (.pointer none)):=by
 unfold qGi at h;split at h<;>cases h
 ·exact .inl ⟨rfl,c.2,a.2⟩
 ·obtain⟨_,rfl⟩:=c;exact .inr ⟨rfl,rfl,a.2⟩
 ·obtain⟨R,_,_,_,e,_⟩:=c;rcases e with⟨r,j,f,rfl⟩ | ⟨ds,rfl⟩<;>exact .inr ⟨rfl,rfl,a.2⟩
 ·obtain⟨ds,rfl,_⟩:=c;exact .inr ⟨rfl,rfl,a.2⟩
theorem qBX:∀(es:List (List AV)) (l:List Int),zg (yh (.int .u8)) es=some l->qsA es=some (zM l)
 | [],l,h=>by cases h;rfl
 | e::es,l,h=>by
   simp only[zg]at h;split at h<;>try cases h
   rename_i v a;split at h<;>cases h;rename_i vs b;have:=qBX es vs b
   have d:e=[.v (.int .u8 v)]:=by
    have a:qa6 .u8 e=some (v,[]):=yb.1 a;unfold qa6 at a;split at a<;>try cases a
    split at a<;>cases a;rename_i c;have c:=of_decide_eq_true c;subst c;rfl
   subst d;simp only[qsA,qGr,this];rfl
theorem qEd{d:Option TD}(h:qu5 d=true):∃ a b c z,d=some ⟨a,b,c,z,.bool⟩:=by
 unfold qu5 at h;split at h
 ·exact⟨_,_,_,_,rfl⟩
 ·cases h
theorem qCa(E:Env)(tm:List AV)(a:Rel N m E τ tm σ):∀ l:List (Nat × Operand),(l.map λ p=>(p.1,evT E p.2)).map (·.1)=(l.map λ p=>(p.1,aev tm p.2)).map (·.1)/\OKL m ((l.map λ p=>(p.1,evT E p.2)).map (·.2)) ((l.map λ p=>(p.1,aev tm p.2)).map (·.2))
 | []=>⟨rfl,rfl⟩
 | x::l=>⟨by simp,⟨_,_,rfl,a.ev x.2,(qCa E tm a l).2⟩⟩
theorem qCm(g:Rel N m E τ tm σ){id a h:Nat}{i:Int}{cs:List TV}{o:Nat}{y:AV}{R:qQ}(D:OK m (.rpt id a h i cs o) y)(p : τ.rw[id]?=some R)(H:R.ver=a)(G:R.sv=h) :
  (∃ r j ds Q,y = .rpt r j o Q.ver/\m.r id=some r/\i=((j:Nat):Int) /\ σ.rw[r]?=some Q/\Q.c[j]?=some ds/\OKL m cs ds/\j<R.l.length/\Q.ver=m.v id/\Q.k=R.τ.size/\zg (yh R.τ) Q.c=some R.l/\Q.fz<=Q.c.length/\(R.sh=false->Q.fz=0/\Q.off=false)) \/
  ∃ ds,y = .ept ds o/\OKL m cs ds/\R.sh=true:=by
 obtain⟨R',q,_,_,_,I⟩:=D;rw[g.rw,p]at q;cases q;have:=g.rows id R (by rw[g.rw];exact p);rcases qEO (I H) G with⟨r,j,ds,d,f,B,b,e,A⟩ | ⟨ds,d,f,b,e⟩
 ·rw[d]at this;obtain⟨Q,z,x,n,w,u,t,s⟩:=this;exact .inl ⟨r,j,ds,Q,by rw[n];exact f,d,B,z,by rw[x];exact e,A,b,n,w,u,t,s⟩
 ·rw[d]at this;refine .inr ⟨ds,f,e,?_⟩;cases C:R.sh with
  | true=>rfl
  | false =>
    have F:=this C;rw[F]at b;exact absurd b (xQ 0)
theorem qE7{b:Type}(f:b->AV):∀(l:List (Nat × b)) (n:Nat),((l.zipIdx n).all λ p=>decide (p.1.1=p.2))=true->(∀ q∈l,True)->∀ P:AV->Bool,(∀ q∈l,P (f q.2)=true) ->
  (((l.map λ p=>(p.1,f p.2)).zipIdx n).all λ p=>decide (p.1.1=p.2)&&P p.1.2)=true
 | [],n,_,_,P,_=>rfl
 | a::l,n,h,_,P,c=>by
   simp only[vz,kC,wd,wo]at h |-
   exact⟨⟨h.1,c a (wh ..)⟩,qE7 f l (n+1) h.2 (λ _ _=>trivial) P λ q d=>c q (wg _ d)⟩
theorem qtk(f:ju m σ){a:Ty}{E:Env}{tm:List AV}(e:Rel N m E τ tm σ):∀{l:List (Nat × Operand)} {vs:List (Val a)},qst m.rw a (l.map λ p=>evT E p.2)=some vs ->
  ∀ p∈l,(cellsOf (aev tm p.2)).length=a.size/\((cellsOf (aev tm p.2)).all λ x=>qy (zk σ.rw x))=true
 | [],vs,h,p,b=>by cases b
 | q::l,vs,h,p,b=>by
   simp only[wo,qst]at h;split at h<;>try cases h
   rename_i v i;split at h<;>cases h;rename_i c;rcases wx.1 b with rfl | b
   ·have:=(qk4 f i (e.ev p.2)).2;obtain⟨pre,d,k,j,_⟩:=yO a (yb.1 this);rw[wB]at d;refine⟨by rw[<- k,<- d,wA],?_⟩;rw[wv];intro x g;exact j _ (by rw[<- d];exact kP g)
   ·exact qtk f e c p b
theorem qJ6(y:List UInt8)(l h:Int):(⟨(QM y l h).toArray⟩:ByteArray)=qDa ⟨y.toArray⟩ l.toNat h.toNat:=by
 unfold QM qDa;rw[ByteArray.ext_iff];simp[ByteArray.data_extract,List.drop_take]
theorem qEg{x:TV}{y:AV}(h:OK m x y)(c:(jH x).all qkX=true):OKL m (jH x) (cellsOf y)/\(cellsOf y).all isC=true/\∀ z∈cellsOf y,rsC z=[]:=by
 have b:(jH x).all qit=true:=by
  rw[wv]at c |-
  intro z a;have:=c z a;cases z<;>first | rfl | (cases this)
 obtain⟨d,e⟩:=h.cells b;refine⟨d,e,λ z a=>?_⟩;have:=qjE d c;rw[kI]at this;exact this z a
theorem qrL{y:AV}(h:rsC y=[])(a:qy (zk σ.rw y)=true):qy y=true:=by
 cases y<;>first | rfl | exact a | (simp[rsC]at h)
theorem qMS{tm:List AV}{a b:Operand}(h:qKN a b=true):aev tm a=aev tm b:=by
 unfold qKN at h;split at h
 ·rw[wj h]
 ·simp only[wd,decide_eq_true_eq]at h;rw[h.1,h.2]
 ·cases h
def LvE(x y:AV):Prop:=x=y\/∃ k es n a,x = .sl k es (n+1)/\y = .sl k es (a+1)
inductive LvL:List AV->List AV->Prop
 | nil:LvL [] []
 | cons {x y:AV} {xs ys:List AV}:LvE x y->LvL xs ys->LvL (x::xs) (y::ys)
theorem LvE.v{x:Value}{y:AV}(h:LvE (.v x) y):y = .v x:=by
 rcases h with rfl | ⟨_,_,_,_,h,_⟩
 ·rfl
 ·cases h
theorem LvE.dlist{a:Ty}{x y:AV}(h:LvE x y){l:List (Val a)}(b:dlist a x=some l):dlist a y=some l:=by
 rcases h with rfl | ⟨_,_,_,_,rfl,rfl⟩
 ·exact b
 ·exact b
theorem qnA:∀(a:Ty) {cs cs':List AV} {v:Val a} {r:List AV},LvL cs cs'->QX a cs=some (v,r)->∃ j,LvL r j/\QX a cs'=some (v,j)
 | .int k,cs,cs',v,r,c,h=>by
   change qa6 k cs=_ at h;unfold qa6 at h;split at h<;>try cases h
   split at h<;>cases h;rename_i o;cases c with
   | cons d f =>
     have:=d.v;subst this;exact⟨_,f,by show qa6 _ _=_;simp only[qa6,o]⟩
 | .bool,cs,cs',v,r,c,h=>by
   change qid cs=_ at h;unfold qid at h;split at h<;>cases h;cases c with
   | cons d f =>
     have:=d.v;subst this;exact⟨_,f,rfl⟩
 | .str,cs,cs',v,r,c,h=>by
   change qgO cs=_ at h;unfold qgO at h;split at h<;>cases h;cases c with
   | cons d f =>
     have:=d.v;subst this;exact⟨_,f,rfl⟩
 | .term,cs,cs',v,r,c,h=>by
   change qaK cs=_ at h;unfold qaK at h;split at h<;>try cases h
   split at h<;>cases h;rename_i g;obtain⟨k,n,s,x,l,p,d,rfl⟩:=qna g;cases p;cases c with
   | cons A c=>cases c with
     | cons z c=>cases c with
       | cons y c=>cases c with
         | cons w c =>
           have:=A.v;subst this;have:=z.v;subst this;have:=y.v;subst this;rw[<- qkK]at d;have d:=w.dlist d;rw[qkK]at d;exact⟨_,c,by show qaK _=_;simp only[qaK,Ja,d]⟩
 | .list a,cs,cs',v,r,c,h=>by
   change qdE _ cs=_ at h;unfold qdE at h;split at h<;>try cases h
   split at h<;>cases h;rename_i g;cases c with
   | cons d f =>
     have g:dlist a _=some v:=g;have g:jx a.size (λ e=>full (QX a e)) _=some v:=d.dlist g;exact⟨_,f,by show qdE _ _=_;simp only[qdE,g]⟩
 | .pair a b,cs,cs',v,r,c,h=>by
   obtain⟨B,d,f⟩:=qab.1 h;obtain⟨m,u,t⟩:=qnA a c d;obtain⟨i,g3,q⟩:=qnA b u f;exact⟨i,g3,qab.2 ⟨_,t,q⟩⟩
 | .one a,cs,cs',v,r,c,h=>qnA a c h
theorem qHV:∀{cs:List AV},(∀ y∈cs,qy y=true)->LvL (cs.map (zk σ.rw)) cs
 | [],_ => .nil
 | y::cs,h=>by
   refine .cons ?_ (qHV λ z a=>h z (wg _ a));have:=h y (wh ..);cases y with
   | v x=>exact .inl rfl
   | sl k es f =>
     cases f with
     | zero=>exact .inl rfl
     | succ f=>exact .inr ⟨k,es,0,f,rfl,rfl⟩
   | _=>cases this
theorem quc{a:Ty}{cs:List AV}{v:Val a}(b:∀ y∈cs,qy y=true)(h:yh a (cs.map (zk σ.rw))=some v):yh a cs=some v:=by
 obtain⟨e,d,c⟩:=qnA a (qHV b) (yb.1 h);cases d;exact yb.2 c
theorem qul{m:Mp}:∀{cs:List TV} {l:List Bool} {ds:List AV},qrT cs=some l->OKL m cs ds->ds=l.map λ b=>AV.v (.bool b)
 | [],l,ds,h,c=>by cases h;cases c;rfl
 | x::cs,l,ds,h,⟨y,r,f,e,d⟩=>by
   subst f;cases x<;>simp only[qrT]at h<;>try (cases h;done)
   rename_i b;split at h<;>cases h;rename_i g a;cases e;rw[qul a d];rfl
theorem qyT{m:Mp}:∀(l:List Bool),OKL m (l.map .b) (l.map λ b=>AV.v (.bool b))
 | []=>rfl
 | b::l=>⟨_,_,rfl,rfl,qyT l⟩
theorem qDr:∀(l:List Bool) (i:Nat) (v:Bool) (j:Nat),qo4 l ((i+j:Nat):Int) v j=l.set i v
 | [],_,_,_=>rfl
 | e::l,0,v,j=>by
   have h:∀(l:List Bool) (i j:Nat),i<j->qo4 l ((i:Nat):Int) v j=l:=by
    intro l
    induction l with
    | nil=>intro _ _ _;rfl
    | cons e l a =>
      intro i j b;rw[qo4,a i (j+1) (by omega)];have:ieq ((i:Nat):Int) ((j:Nat):Int)=false:=by unfold ieq;rw[beq_eq_false_iff_ne];omega
      rw[this];rfl
   rw[qo4,h l (0+j) (j+1) (by omega)];have:ieq ((0+j:Nat):Int) ((j:Nat):Int)=true:=by unfold ieq;rw[beq_iff_eq];omega
   rw[this];rfl
 | e::l,i+1,v,j=>by
   rw[qo4,show((i+1+j:Nat):Int)=((i+(j+1):Nat):Int) by omega,qDr l i v (j+1)];have:ieq ((i+(j+1):Nat):Int) ((j:Nat):Int)=false:=by unfold ieq;rw[beq_eq_false_iff_ne];omega
   rw[this];rfl
theorem qy1(s:List UInt8):zg (yh (.int .u8)) (qbU ⟨s.toArray⟩)=some (Qw s):=by
 have:qbU ⟨s.toArray⟩=(Qw s).map (qi (.int .u8)):=by
  unfold qbU Qw;rw[xi];rfl
 rw[this];exact qb3 (Qi (.int .u8)) (Qw s)
theorem qLh{op:Op}(D:C.ty=c.ty)(A:Rel N m E τ tm σ)(h:Q0 c E τ op K=some r):Sim N m E τ tm σ K r (qc C tm σ op):=by
 cases op with
 | move x=>exact .same A h rfl (A.ev x)
 | assign x=>exact .same A h rfl (A.ev x)
 | pick x a b =>
   simp only[Q0]at h;split at h<;>try cases h
   rename_i y H;have O:=A.ev x;rw[H]at O;cases y with
   | true=>exact .same A h (by simp only[qc,show aev tm x=_ from O]) (A.ev a)
   | false=>exact .same A h (by simp only[qc,show aev tm x=_ from O]) (A.ev b)
 | alloc e =>
   simp only[Q0]at h;split at h<;>try cases h
   rename_i d F;split at h<;>try cases h
   rename_i hz;obtain⟨m',J,P,V⟩:=A.alloc (qii (m:=m) hz);exact .to h (by simp only[qc,D,F,hz]) J P V
 | box e x =>
   simp only[Q0]at h;split at h<;>try cases h
   rename_i d F;split at h<;>try cases h
   rename_i hz;obtain⟨I,M⟩:=(A.ev x).cells hz;obtain⟨m',J,P,V⟩:=A.alloc I;exact .to h (by simp only[qc,D,F,M]) J P V
 | build t parts =>
   simp only[Q0]at h;split at h<;>try cases h
   rename_i _ _ _ z fs F;split at h<;>try cases h
   rename_i hz;split at h<;>try cases h
   rename_i cs U;obtain⟨ds,J,P⟩:=qCo (qCa E tm A parts.toList) (qii (m:=m) hz) U;exact .same A h (by simp only[qc,D,F,hz];erw [J]) ⟨ds,rfl,P⟩
 | buildSlice t n parts =>
   simp only[Q0]at h;split at h<;>try cases h
   rename_i _ _ _ _ _ k _ _ a F G;split at h<;>try cases h
   rename_i hb;simp only[wd,decide_eq_true_eq]at hb;obtain⟨⟨⟨⟨hk,hn⟩,bb⟩,bd⟩,hz⟩:=hb;split at h<;>try cases h
   rename_i vs ax;rw[<- A.rw]at ax;have hq:=A.rows;have au:=qtk hq A ax;have ai:=qCc hq ax (by have:=A.evs (parts.toList.map (·.2));simpa[xi,vx]using this)
   have a9:qiW k n σ.rw (parts.toList.map λ p=>(p.1,aev tm p.2))=true:=by
    unfold qiW;have J:(parts.toList.map λ p=>(p.1,aev tm p.2)).length=n:=by simpa using hn
    simp only[J,decide_true,bb,bd,w7,vh]
    have:=qE7 (aev tm) parts.toList 0 hz (λ _ _=>trivial) (λ x=>decide ((cellsOf x).length=k)&&((cellsOf x).all λ y=>qy (zk σ.rw y)))
     λ q a8=>by obtain⟨a1,a2⟩:=au q a8;rw[a1,a2,hk];simp
    rw[wv]at this |-
    intro p hp;have:=this p hp;simpa[Bool.and_assoc]using this
   have aD:∀ m':Mp,OK m' (.sl a vs 2) (.sl k (parts.toList.map λ p=>(cellsOf (aev tm p.2)).map (zk σ.rw)) 2):=by
    intro m';refine⟨?_,wb _⟩;subst hk;show jx _ _ (.sl _ _ 2)=_;simp only[jx,zi,decide_true];simpa[xi,vx]using ai
   have ap:qc C tm σ (.buildSlice t n parts)=match parts.toList.flatMap λ p=>rsA (aev tm p.2)with
     | []=>some (.sl k (parts.toList.map λ p=>(cellsOf (aev tm p.2)).map (zk σ.rw)) 2,none)
     | r::l=>some (.sl k (parts.toList.map λ p=>(cellsOf (aev tm p.2)).map (zk σ.rw)) 2,some { σ with rw:=frz σ.rw (r::l),wrr:=(r::l) ++ σ.wrr }):=by
    simp only[qc,D,F,a9];rfl
   rw[ap];split at h
   ·rename_i aE
    have aQ:parts.toList.flatMap (λ p=>rsA (aev tm p.2))=[]:=by
     have:=qtv (xs:=parts.toList.map λ p=>evT E p.2) (ys:=parts.toList.map λ p=>aev tm p.2) (by rw[wae];exact aE) (by have:=A.evs (parts.toList.map (·.2));simpa[xi,vx]using this)
     rwa [vf]at this
    rw[aQ];exact .same A h rfl (aD m)
   ·split
    ·exact⟨_,some (shA τ),_,none,shM m,h,rfl,qf5 m,A.share rfl hq.sh,aD _,λ h=>by cases h⟩
    ·exact .to h rfl (qf5 m) (A.share (σ':={ σ with rw:=frz σ.rw _,wrr:=_ }) rfl (hq.frz _ _)) (aD _)
 | load t a =>
   simp only[Q0]at h;split at h<;>try cases h
   rename_i d F;have B:=A.ev a;split at h<;>try cases h
   ·rename_i b o G;rw[G]at B;obtain⟨_,B⟩:=B;split at h<;>try cases h
    rename_i cs U;split at h<;>try cases h
    rename_i x O;obtain⟨ds,I,M⟩:=A.box b cs U;obtain⟨y,g3,g4⟩:=qgF M O;exact .same A h (by simp only[qc,D,F,B,JJ,I,g3]) g4
   ·rename_i cs o G;rw[G]at B;obtain⟨ds,B,M⟩:=B;split at h<;>try cases h
    rename_i x O;obtain⟨y,g3,g4⟩:=qgF M O;exact .same A h (by simp only[qc,D,F,B,JJ,g3]) g4
   ·rename_i b i G;rw[G]at B;obtain⟨_,i0,B⟩:=B;split at h<;>try cases h
    rename_i cs U;split at h<;>try cases h
    rename_i l bg hl;obtain⟨v,L,h⟩:=Jd h;obtain⟨_,L⟩:=qjA L;obtain⟨ds,I,M⟩:=A.box b cs U;have g3:ds[i.toNat]?=some (.v (.bool v)):=by rw[qul hl M,List.getElem?_map,L];rfl
    exact .same A h (y := .v (.bool v)) (by simp only[qc,D,F,B,JJ,I,bg,qdN,g3]) rfl
   ·rename_i id T sv i cs o G;rw[G]at B;split at h<;>try cases h
    rename_i R W;split at h<;>try cases h
    rename_i an;split at h
    rotate_left
    ·split at h<;>try cases h
     rename_i a5;obtain⟨v,L,h⟩:=Jd h;split at h<;>try cases h
     rename_i x O;obtain⟨j0,L⟩:=qjA L;obtain⟨R',I,_,_,_,M⟩:=B;rw[A.rw,W]at I;cases I;have hg:=A.rows id R (by rw[A.rw];exact W);rcases M (wj an)with⟨r',j,S,z2,z0,Y,_⟩ | ⟨S,Y,_⟩
     ·rw[S]at hg;obtain⟨Q,q1,q2,q3,q4,q5,q6,q7⟩:=hg;rw[z0,wF]at L;obtain⟨e,e1,e2⟩:=qg6 q5 L;obtain⟨y,g3,g4⟩:=qgF (QH e2) O;have kl:qsz Q j (m.v id)=some e:=by unfold qsz;rw[if_pos q3];exact e1
      exact .same A h (by simp only[qc,D,F,z2,JJ,q1,kl,g3]) g4
     ·rw[S]at hg;have:=hg a5;rw[this]at Y;exact absurd Y (xQ _)
    rename_i a4;split at h<;>try cases h
    rename_i x O;rcases qCm A B W (wj an) (wj a4)with⟨r',j,ds,Q,k1,_,_,k2,k3,k4,_⟩ | ⟨ds,k1,k4,_⟩
    ·obtain⟨y,g3,g4⟩:=qgF k4 O;have kl:qsz Q j Q.ver=some ds:=by unfold qsz;rw[if_pos rfl];exact k3
     exact .same A h (by simp only[qc,D,F,k1,JJ,k2,kl,g3]) g4
    ·obtain⟨y,g3,g4⟩:=qgF k4 O;exact .same A h (by simp only[qc,D,F,k1,JJ,g3]) g4
 | store t a x =>
   simp only[Q0]at h;split at h<;>try cases h
   rotate_left
   ·rename_i d b i F G;have B:=A.ev a;rw[G]at B;obtain⟨hb,i0,B⟩:=B;split at h<;>try cases h
    rename_i cs v U O;split at h<;>try cases h
    rename_i l hl ao;obtain⟨aV,h⟩:=jU h;have aV:=of_decide_eq_true aV;have ao:=wj ao;obtain⟨ds,I,M⟩:=A.box b cs U;have ab:=A.ev x;rw[O]at ab;have ab:aev tm x = .v (.bool v):=ab;have aW:=qul hl M;have aF:i.toNat<l.length:=by omega
    have ac:ds.length=l.length:=by rw[aW,wA]
    have aM:qo4 l i v 0=l.set i.toNat v:=by
     have:=qDr l i.toNat v 0
     rwa [show((i.toNat+0:Nat):Int)=i by omega]at this
    have aj:ds.take i.toNat++(cellsOf (aev tm x)++ds.drop (i.toNat+d.size))=(qo4 l i v 0).map λ b=>AV.v (.bool b):=by
     rw[ab,ao,aM,List.map_set,<- aW,xJ,if_pos (by omega)];rfl
    have e1:(cellsOf (aev tm x)).length=d.size:=by rw[ab,ao];rfl
    have e2:i.toNat+d.size<=ds.length:=by omega
    have k2:(cellsOf (aev tm x)).all isC=true:=by rw[ab];rfl
    exact .to h (by simp only[qc,D,F,B,I,e1,e2,k2,decide_true,xl];rfl) (.refl m) (A.setBox hb (ds:=ds.take i.toNat++(cellsOf (aev tm x)++ds.drop (i.toNat+d.size))) (by rw[aj];exact qyT _) _) ⟨_,rfl,rfl⟩
   ·rename_i d id T sv i cs o F G;have B:=A.ev a;rw[G]at B;split at h<;>try cases h
    rename_i R W;split at h<;>try cases h
    rename_i hc;simp only[wd,decide_eq_true_eq,wV]at hc;obtain⟨⟨⟨⟨⟨Z,c2⟩,c3⟩,c4⟩,c5⟩,c6⟩:=hc;split at h<;>try cases h
    rename_i v L;rcases qCm A B W (wj Z) (wj c2)with⟨r',j,ds,Q,k1,al,ki,k2,k3,k4,kj,kv,kk,kd,kf,ks⟩ | ⟨ds,k1,k4,ks⟩
    rotate_left
    ·rw[c3]at ks;cases ks
    obtain⟨S,z2,Y⟩:=qEg (A.ev x) c6;have aa:=qh8 L;have aj:OKL m (cs.take o++(jH (evT E x)++cs.drop (o+d.size))) (ds.take o++(cellsOf (aev tm x)++ds.drop (o+d.size))):=(k4.take o).append (S.append (k4.drop _));rw[<- A.rw]at aa;obtain⟨rs,p1,p2⟩:=qfa A.rows R.τ aa aj;cases p2
    have aO:∀ y∈ds,qy y=true:=by
     obtain⟨w,_,hw⟩:=J8 kd k3;obtain⟨pre,J,_,V,_⟩:=yO R.τ (yb.1 hw);rw[wB]at J;rw[J];exact V
    have ac:ds.length=R.τ.size:=by
     obtain⟨w,_,hw⟩:=J8 kd k3;obtain⟨pre,J,P,_⟩:=yO R.τ (yb.1 hw);rw[wB]at J;rw[J];exact P
    have aK:∀ y∈cellsOf (aev tm x),qy y=true:=by
     obtain⟨pre,J,_,V,_⟩:=yO R.τ p1;rw[vq,wB]at J;intro y H;have:=V (zk σ.rw y) (by rw[<- J];exact kP (ww.2 (.inr (ww.2 (.inl H)))));exact qrL (Y y H) this
    have ai:yh R.τ (ds.take o++(cellsOf (aev tm x)++ds.drop (o+d.size)))=some v:=by
     have:yh R.τ ((ds.take o++(cellsOf (aev tm x)++ds.drop (o+d.size))).map (zk σ.rw))=some v:=yb.2 p1
     exact quc (λ y H=>by
      rcases ww.1 H with H | H
      ·exact aO y (wY H)
      ·rcases ww.1 H with H | H
       ·exact aK y H
       ·exact aO y (wX H)) this
    have aL:=qyO kd j ai;have aB:r' < σ.rw.length:=getElem?_lt k2;have bf:(cellsOf (aev tm x)).length=d.size:=by rw[S.len];exact c4
    have ba:o+d.size<=ds.length:=by rw[k4.len];exact c5
    have a6:qsv Q j o Q.ver d.size (cellsOf (aev tm x))=some { Q with c:=Q.c.set j (ds.take o++(cellsOf (aev tm x)++ds.drop (o+d.size))) }:=by
     unfold qsv
     have e1:(decide (Q.ver=Q.ver/\Q.fz<=j/\o+d.size<=Q.k/\(cellsOf (aev tm x)).length=d.size/\Q.off=false)&&(cellsOf (aev tm x)).all qy)=true:=by
      rw[wd,decide_eq_true_eq,wv];exact⟨⟨rfl,by rw[(ks c3).1];exact we _,by rw[kk,<- ac];exact ba,bf,(ks c3).2⟩,aK⟩
     rw[e1,k3]
    have ag:yn R.l i v=R.l.set j v:=by
     unfold yn;rw[if_pos (by rw[ki];exact Int.natCast_nonneg j),ki];rfl
    obtain⟨m',I,M,_⟩:=A.rowUpd (R2:=⟨R.τ,yn R.l i v,R.ver,R.sv+1,R.sh⟩) W (m.r id) (m.v id) (Q.c.set j (ds.take o++(cellsOf (aev tm x)++ds.drop (o+d.size)))) (wb _) (kr _)
     (λ _=>⟨by show(yn R.l i v).length=_;rw[ag,wJ],rfl,rfl,rfl,(λ h=>by have:R.sv+1=R.sv:=h;omega),(λ h=>by rw[al]at h;cases h)⟩) (σ':={ σ with rw := σ.rw.set r' { Q with c:=Q.c.set j (ds.take o++(cellsOf (aev tm x)++ds.drop (o+d.size))) },wrr:=r' :: σ.wrr }) rfl
     (by
      rw[al];refine⟨{ Q with c:=Q.c.set j (ds.take o++(cellsOf (aev tm x)++ds.drop (o+d.size))) },by show(σ.rw.set r' _)[r']?=_;rw[List.getElem?_set_self aB],rfl,kv,kk,?_,?_,ks⟩
      ·show zg (yh R.τ) (Q.c.set j _)=some (yn R.l i v);rw[ag];exact aL
      ·show Q.fz<=(Q.c.set j _).length;rw[wJ];exact kf)
     (λ aJ ak J P V=>by
      have ae:=A.others W al J P V;refine⟨λ G=>by rw[al]at G;exact ae (kX G).symm,λ Q' aI=>?_⟩;show(σ.rw.set r' _)[ak]?=_;rw[List.getElem?_set_ne (xK ae)];exact aI)
    exact .to h (by simp only[qc,D,F,k1,k2,a6];rfl) I M ⟨_,rfl,rfl⟩
   rename_i d b o F G;have B:=A.ev a;rw[G]at B;obtain⟨hb,B⟩:=B;split at h<;>try cases h
   rename_i cs U;split at h<;>try cases h
   rename_i hc;simp only[wd,decide_eq_true_eq]at hc;obtain⟨⟨J,P⟩,V⟩:=hc;obtain⟨ds,I,M⟩:=A.box b cs U;obtain⟨k1,k2⟩:=(A.ev x).cells V;have e1:(cellsOf (aev tm x)).length=d.size:=by rw[k1.len];exact J
   have e2:o+d.size<=ds.length:=by rw[M.len];exact P
   exact .to h (by simp only[qc,D,F,B,I,e1,e2,k2,decide_true,xl];rfl) (.refl m) (A.setBox hb ((M.take o).append (k1.append (M.drop (o+d.size)))) _) ⟨_,rfl,rfl⟩
 | makeSlice t n mm =>
   simp only[Q0]at h;split at h<;>try cases h
   rename_i _ _ _ _ _ k bytes z a' ik a F G hn;split at h<;>try cases h
   rename_i hc;simp only[wd,decide_eq_true_eq]at hc;obtain⟨⟨⟨⟨Z,c2⟩,c3⟩,c4⟩,c5⟩:=hc;split at h<;>try cases h
   rename_i v L;obtain⟨hm,h⟩:=jU h;obtain⟨m1,m2,m3⟩:=of_decide_eq_true hm;have ad:=A.ev n;rw[hn]at ad;have ad:aev tm n = .v (.int ik a):=ad;have bc:aev tm mm = .v (.int ik a):=by rw[<- qMS Z];exact ad
   have a7:ju mp0 σ := λ id R h=>by cases h
   have aa:=qh8 L;obtain⟨rs,p1,p2⟩:=qfa (m:=mp0) a7 a' aa (qii c5);cases p2;have a0:(z.map AV.v).map (zk σ.rw)=z.map AV.v:=by rw[xi];exact k8 λ _ _=>rfl
   rw[a0]at p1;have be:yh a' (z.map AV.v)=some v:=yb.2 p1;have aN:(z.map AV.v).all qy=true:=by rw[wae,wv];intro _ _;rfl
   have aH:decide (0<=a/\a.toNat*bytes<=2 ^ 47/\a.toNat<2 ^ 62/\0<k/\z.length=k)=true:=decide_eq_true ⟨m1,m2,m3,c3,c4⟩
   have ap:qc C tm σ (.makeSlice t n mm)=match zi a.toNat 0 with
     | true=>some (.sl k [] 2,none)
     | false=>some (.rs σ.rw.length 0 a.toNat 0 false,some { σ with rw := σ.rw++[⟨k,List.replicate a.toNat (z.map .v),0,0,false⟩] }):=by
    simp only[qc,D,F,ad,bc,true_and,aH,c5,aN,xl];cases zi a.toNat 0<;>rfl
   have aC:=qy8 be a.toNat;by_cases B:a.toNat=0
   ·obtain⟨m',I,M,g3⟩:=A.rowAdd (σ' := σ) ⟨a',List.replicate a.toNat v,0,0,false⟩ none 0 [] rfl (λ _=>by show List.replicate a.toNat v=[];rw[B];rfl) (λ r Q h=>h) (λ r h=>by cases h) (y := .sl k [] 2) ⟨by show jx a'.size (yh a') (.sl k [] 2)=some (List.replicate a.toNat v);rw[B,c2];simp only[jx,zi,decide_true];rfl,wb _⟩ rfl;refine⟨_,some _,.sl k [] 2,none,m',h,?_,I,M,g3,λ h=>by cases h⟩;have:zi a.toNat 0=true:=by simp[zi,B]
    rw[ap,this]
   ·obtain⟨m',I,M,g3⟩:=A.rowNew aC;rw[kH]at g3;refine .to h (y := .rs σ.rw.length 0 a.toNat 0 false) ?_ I M g3;have:zi a.toNat 0=false:=by simp[zi,B]
    rw[ap,this,c2]
 | nilCheck x =>
   simp only[Q0]at h;have B:=A.ev x;split at h<;>try cases h
   ·rename_i b o G;rw[G]at B;exact .same A h (by simp only[qc,B.2]) ⟨B.1,rfl⟩
   ·rename_i cs o G;rw[G]at B;obtain⟨ds,B,g⟩:=B;exact .same A h (by simp only[qc,B]) ⟨ds,rfl,g⟩
   ·rename_i id T sv i cs o G;rw[G]at B;have aZ:=B;obtain⟨R,_,_,_,H,_⟩:=B;rcases H with⟨r',j,ep,H⟩ | ⟨ds,H⟩
    ·exact .same A h (y := .rpt r' j o ep) (by simp only[qc,H]) (by rw[<- H];exact aZ)
    ·exact .same A h (y := .ept ds o) (by simp only[qc,H]) (by rw[<- H];exact aZ)
 | binOp op t x y u =>
   simp only[Q0]at h;split at h
   ·rename_i b hb
    obtain⟨e1,F⟩:((op = .eql/\K (.b b) none=some r)\/(op = .neq/\K (.b (!b)) none=some r))/\∃ p1 p2 p3 p4,c.ty t=some ⟨p1,p2,p3,p4,.ptr⟩:=by
     split at h<;>try (cases h;done)
     ·rename_i hp;exact⟨.inl ⟨rfl,h⟩,qtg hp⟩
     ·rename_i hp;exact⟨.inr ⟨rfl,h⟩,qtg hp⟩
    obtain⟨p1,p2,p3,p4,F⟩:=F;rcases qHx (A.ev x) (A.ev y) hb with⟨rfl,q1,q2⟩ | ⟨rfl,q1,q2⟩
    ·rcases e1 with⟨rfl,e1⟩ | ⟨rfl,e1⟩<;>exact .same A e1 (by simp only[qc,q1,q2,D,F,Bool.not_true]) rfl
    ·rcases e1 with⟨rfl,e1⟩ | ⟨rfl,e1⟩
     ·refine .same A e1 (y := .v (.bool false)) ?_ rfl;cases O:aev tm x<;>rw[O]at q1<;>first | (cases q1;done) | (simp only[qc,O,q2,D,F,qre,qBG,xl])
     ·refine .same A e1 (y := .v (.bool true)) ?_ rfl;cases O:aev tm x<;>rw[O]at q1<;>first | (cases q1;done) | (simp only[qc,O,q2,D,F,qre,qBG,xl])
   obtain⟨z,v,J,P,V⟩:=qMg (A.ev x) (A.ev y) h;refine .same A J ?_ P;rcases V with⟨a,b,e1,e2,e3,h4⟩ | ⟨a,b,e1,e2,e3,h4⟩
   ·obtain⟨p1,p2,p3,p4,F⟩:=qEd e3;rcases h4 with⟨rfl,rfl⟩ | ⟨rfl,rfl⟩<;>simp only[qc,e1,e2,D,F]
   ·simp only[qc,e1,e2];split
    ·rename_i p q hp hq;cases hp;cases hq;exact absurd ⟨rfl,rfl⟩ (e3 p q)
    ·rename_i hp hq;cases hp;cases hq;simp[qrs]at h4
    ·rename_i hp hq;cases hp;cases hq;rw[h4]
    ·rename_i n1 n2 n3;exact absurd rfl (n3 _ _ rfl)
 | unOp op t x =>
   simp only[Q0]at h;have B:=A.ev x;split at h<;>try cases h
   ·rename_i k n G;rw[G]at B;exact .same A h (by simp only[qc,show aev tm x=_ from B,unA]) rfl
   ·rename_i b G;rw[G]at B;exact .same A h (by simp only[qc,show aev tm x=_ from B,unA]) rfl
 | convert s d x =>
   simp only[Q0]at h;have B:=A.ev x;split at h<;>try cases h
   ·rename_i J P V;rw[V]at B;exact .same A h (by simp only[qc,D,J,P,show aev tm x=_ from B]) rfl
   ·rename_i J P V;rw[V]at B;exact .same A h (by simp only[qc,D,J,P,show aev tm x=_ from B]) rfl
   ·rename_i e _ _ _ y J P V;rw[V]at B;split at h<;>try cases h
    rename_i hu;have B:aev tm x = .v (.string ⟨y.toArray⟩):=B;obtain⟨m',I,M,g3⟩:=A.rowNew (qy1 y);rw[show(Qw y).length=y.toArray.size by simp[Qw]]at g3;exact .to h (y := .rs σ.rw.length 0 y.toArray.size 0 false) (by simp only[qc,D,J,P,B,hu];rfl) I M g3
   ·rename_i e _ _ _ _ _ _ _ _ _ _ J P hn;split at h<;>try cases h
    rename_i l hu hl;rw[<- A.rw]at hl;obtain⟨es,I,M,g3⟩:=qob A.rows hl B;have I:elems σ.rw 1 (aev tm x)=some es:=I;refine .same A h (y := .v (.string ⟨(zM l).toArray⟩)) ?_ rfl;have hs:=qBX es l M
    cases O:aev tm x<;>rw[O]at I<;>first
     | (simp[elems]at I;done)
     | (simp only[qc,D,J,P,O,hu,I,hs];done)
     | skip
    rename_i v
    cases v<;>first
     | (simp[elems]at I;done)
     | (simp only[qc,D,J,P,O,hu,I,hs])
 | makeFunc f fs cs =>
   cases f with
   | func f =>
     simp only[Q0]at h;split at h<;>try cases h
     rename_i hf;exact .same A h (by simp only[qc,hf]) ⟨_,rfl,A.evs _⟩
   | _=>simp only[Q0]at h;cases h
 | slice t x lo hi mx =>
   cases mx with
   | some q=>simp only[Q0]at h;cases h
   | none =>
   simp only[Q0]at h;have B:=A.ev x;split at h<;>try cases h
   ·rename_i y F G;rw[G]at B;split at h<;>try cases h
    rename_i hh ah;split at h<;>try cases h
    rename_i l X;obtain⟨Z,h⟩:=jU h;obtain⟨c2,h⟩:=jU h;have a3:qpf ⟨y.toArray⟩=y.length:=by simp[qpf,ByteArray.size]
    have b1:=qdc A (d:=y.length) ah (wb _) Z;have b2:=qdc A (d:=0) X (we _) c2;refine .same A h (y := .v (.string (qDa ⟨y.toArray⟩ l.toNat hh.toNat))) ?_ ?_
    ·simp only[qc,D,F,show aev tm x=_ from B,a3,b1,b2]
    ·show AV.v _=AV.v _;rw[<- qJ6]
   ·rename_i a y lv F G;rw[G]at B;split at h<;>try cases h
    rename_i hk;rw[wd]at hk;have aU:=of_decide_eq_true hk.1;split at h<;>try cases h
    rename_i hh ah;split at h<;>try cases h
    rename_i l X;obtain⟨Z,h⟩:=jU h;obtain⟨c2,h⟩:=jU h;have b1:=qdc A (d:=y.length) ah (wb _) Z;have b2:=qdc A (d:=0) X (we _) c2;obtain⟨ac,_⟩:=B;rcases jh ac with⟨J,rfl⟩ | ⟨es,n,J,P⟩
    ·refine .same A h (y := .v (.slice none 0 0)) ?_ ?_
     ·simp only[ke]at b1;simp only[qc,D,F,J,b1,b2]
     ·refine⟨?_,by decide⟩;show some []=some (QM [] l hh);simp[QM]
    ·have az:qaM es=y.length:=qY P;refine .same A h (y := .sl a.size (qHe es l.toNat hh.toNat) (lvS (n+1) (zi hh.toNat y.length))) ?_ ?_
     ·simp only[qc,D,F,J,aU,zi,decide_true,az,b1,b2,show pos (n+1)=true from by simp[pos],xl]
     ·have af:∃ q,lvS (n+1) (zi hh.toNat y.length)=q+1:=by unfold lvS;split<;>exact⟨_,rfl⟩
      obtain⟨q,hq⟩:=af;rw[hq];refine⟨?_,xD (we _)⟩;show jx _ _ (.sl _ _ (q+1))=_;simp only[jx,aU,zi,decide_true];exact qfo _ (qhj _ P)
   ·rename_i F G;rw[G]at B;split at h<;>try cases h
    rename_i hh ah;split at h<;>try cases h
    rename_i l X;obtain⟨Z,h⟩:=jU h;obtain⟨c2,h⟩:=jU h;have b1:=qdc A (d:=0) ah (wb _) Z;have b2:=qdc A (d:=0) X (we _) c2;exact .same A h (y := .v (.slice none 0 0)) (by simp only[qc,D,F,show aev tm x=_ from B,b1,b2]) rfl
   ·rename_i _ _ _ _ _ k _ _ id T F G;rw[G]at B;split at h<;>try cases h
    rename_i R W;split at h<;>try cases h
    rename_i ay;rw[wd]at ay;have L:R.ver=T:=wj ay.1;have hk:=of_decide_eq_true ay.2;split at h<;>try cases h
    rename_i l X;obtain⟨Z,h⟩:=jU h;obtain⟨R',I,M,g3,g4⟩:=B;rw[A.rw,W]at I;cases I;have bh:m.rw[id]?=some R:=by rw[A.rw];exact W
    have gy:=g4 L;subst L;rcases qiB A.rows bh gy with⟨rr,Q,aq,H,k1,k2,kv,k3,k4,kf,ks⟩ | ⟨aq,hq,H,af⟩
    ·have av:=qY k4;have aB:rr < σ.rw.length:=getElem?_lt k1;have b2:=qdc A (d:=0) X (we _) Z
     have ar:l.toNat<=R.l.length:=by
      unfold inb at Z;have:=of_decide_eq_true Z;omega
     have aX:qAR Q k 0 Q.c.length Q.ver l.toNat=some { Q with c:=Q.c.drop l.toNat,ver:=Q.ver+1,fz:=Q.fz-l.toNat,off:=true }:=by
      unfold qAR;rw[if_pos ⟨k3.trans hk,rfl,rfl,rfl,by rw[av];exact ar,kf⟩]
     obtain⟨m',S,z2,Y⟩:=A.rowUpd (R2:=⟨R.τ,R.l.drop l.toNat,R.ver+1,R.sv,true⟩) W (some rr) (Q.ver+1) (Q.c.drop l.toNat) (kr _) (wb _) (λ h=>by have:R.ver+1=R.ver:=h;omega)
      (σ':={ σ with rw := σ.rw.set rr { Q with c:=Q.c.drop l.toNat,ver:=Q.ver+1,fz:=Q.fz-l.toNat,off:=true },wrr:=rr :: σ.wrr }) rfl
      ⟨{ Q with c:=Q.c.drop l.toNat,ver:=Q.ver+1,fz:=Q.fz-l.toNat,off:=true },by show(σ.rw.set rr _)[rr]?=_;rw[List.getElem?_set_self aB],rfl,rfl,k3,qfo _ k4,by show Q.fz-l.toNat<=(Q.c.drop l.toNat).length;rw[wQ];omega,λ h=>by cases h⟩ λ aJ ak ae aF aw=>by
       have aP:=A.others W aq ae aF aw;exact⟨λ aG=>aP (kX aG).symm,λ Q' aI=>by show(σ.rw.set rr _)[ak]?=_;rw[List.getElem?_set_ne (xK aP)];exact aI⟩
     refine .to h (y := .rs rr 0 (Q.c.length-l.toNat) (Q.ver+1) false) ?_ S z2 (Y _ ?_)
     ·simp only[qc,D,F,H,xx,show ∀ n,qdB n n none=some n from λ _=>rfl,k1,av,b2,zi,decide_true];rw[av]at aX;rw[aX]
     ·show _=AV.rs rr 0 (R.l.drop l.toNat).length (Q.ver+1) false;rw[wQ,av]
    ·have b2:=qdc A (d:=0) X (we _) Z
     have ar:l.toNat<=R.l.length:=by
      unfold inb at Z;have:=of_decide_eq_true Z;omega
     obtain⟨m',S,z2,Y⟩:=A.rowUpd (R2:=⟨R.τ,R.l.drop l.toNat,R.ver+1,R.sv,true⟩) W none 0 [] (kr _) (wb _) (λ h=>by have:R.ver+1=R.ver:=h;omega) (σ' := σ) rfl
      (λ hs=>by cases hs) λ aJ ak ae aF aw=>⟨λ aG=>(by cases aG),λ _ h=>h⟩
     rcases jh H with⟨am,aT⟩ | ⟨es,n,am,aY⟩<;>rw[am]at H af
     ·have aS:l.toNat=0:=by rw[aT]at ar;simpa using ar
      refine⟨_,some _,.v (.slice none 0 0),none,m',h,?_,S,z2,Y _ ⟨?_,af⟩,λ h=>by cases h⟩
      ·rw[aT]at b2;simp only[ke]at b2;simp only[qc,D,F,am,xx,show ∀ n,qdB n n none=some n from λ _=>rfl,b2]
      ·show dlist R.τ _=some (R.l.drop l.toNat);rw[aS,wO];exact H
     ·have az:qaM es=R.l.length:=qY aY;have bj:1<=n:=by have:2<=n+1:=af;omega
      refine⟨_,some _,.sl R.τ.size (qHe es l.toNat R.l.length) (lvS (n+1) (zi R.l.length R.l.length)),none,m',h,?_,S,z2,Y _ ⟨?_,?_⟩,λ h=>by cases h⟩
      ·simp only[qc,D,F,am,hk,zi,decide_true,xx,show ∀ n,qdB n n none=some n from λ _=>rfl,az,b2,show pos (n+1)=true from by simp[pos],xl]
      ·have aR:lvS (n+1) (zi R.l.length R.l.length)=2:=by
         unfold lvS;rw[show(decide (1<n+1)&&zi R.l.length R.l.length)=true by simp[zi];omega]
       rw[aR];show jx _ _ (.sl _ _ 2)=_;simp only[jx,zi,decide_true];have:=qfo l.toNat (qhj R.l.length aY);rw[wC]at this;exact this
      ·show 2<=lvS _ _;unfold lvS;rw[show(decide (1<n+1)&&zi R.l.length R.l.length)=true by simp[zi];omega];exact wb _
 | fieldAddr t x i =>
   simp only[Q0]at h;split at h<;>try cases h
   rename_i F;split at h<;>try cases h
   rename_i off size g hf;split at h<;>try cases h
   have B:=A.ev x;split at h<;>try cases h
   ·rename_i b o G;rw[G]at B;exact .same A h (by simp only[qc,D,F,hf,B.2]) ⟨B.1,rfl⟩
   ·rename_i cs o G;rw[G]at B;obtain⟨ds,B,hg⟩:=B;exact .same A h (by simp only[qc,D,F,hf,B]) ⟨ds,rfl,hg⟩
   ·rename_i id T sv j cs o G;rw[G]at B;obtain⟨R,k1,k2,k3,H,k4⟩:=B;rcases H with⟨r',q,ep,H⟩ | ⟨ds,H⟩
    ·refine .same A h (y := .rpt r' q (o+off) ep) (by simp only[qc,D,F,hf,H]) ⟨R,k1,k2,k3,.inl ⟨_,_,_,rfl⟩,λ e1=>?_⟩;rcases k4 e1 with⟨r2,i2,S,z2,z0,Y,z4⟩ | ⟨S,Y,z4⟩
     ·rw[H]at z2;cases z2;exact .inl ⟨_,_,S,rfl,z0,Y,z4⟩
     ·exact .inr ⟨S,Y,λ hs=>by obtain⟨ds,z,_⟩:=z4 hs;rw[H]at z;cases z⟩
    ·refine .same A h (y := .ept ds (o+off)) (by simp only[qc,D,F,hf,H]) ⟨R,k1,k2,k3,.inr ⟨_,rfl⟩,λ e1=>?_⟩;rcases k4 e1 with⟨r2,i2,S,z2,_⟩ | ⟨S,Y,z4⟩
     ·rw[H]at z2;cases z2
     ·exact .inr ⟨S,Y,λ hs=>by obtain⟨ds',z,zz⟩:=z4 hs;rw[H]at z;cases z;exact⟨ds,rfl,zz⟩⟩
 | field t x i =>
   simp only[Q0]at h;have B:=A.ev x;split at h<;>try cases h
   rename_i cs F G;split at h<;>try cases h
   rename_i off size g hf;split at h<;>try cases h
   rename_i y H;rw[G]at B;obtain⟨ds,B,hg⟩:=B;obtain⟨z,I,M⟩:=qgF hg H;exact .same A h (by simp only[qc,D,F,B,hf,I]) M
 | indexAddr t x i =>
   simp only[Q0]at h;have B:=A.ev x;have hi:=A.ev i;split at h<;>try cases h
   ·rename_i _ _ _ _ _ k _ _ ik j F hj;rw[hj]at hi;have hi:aev tm i = .v (.int ik j):=hi;split at h<;>try cases h
    ·rename_i a l lv G;rw[G]at B;split at h<;>try cases h
     rename_i hk;have hk:=of_decide_eq_true hk;obtain⟨v,L,h⟩:=Jd h;obtain⟨j0,L⟩:=qjA L;obtain⟨ac,_⟩:=B;rcases jh ac with⟨J,rfl⟩ | ⟨es,n,J,P⟩
     ·simp at L
     ·obtain⟨e,I,M⟩:=qg6 P L;refine .same A h (y := .ept e 0) ?_ ⟨e,rfl,QH M⟩;have aA:qyn es j=some e:=by unfold qyn;rw[if_pos j0];exact I
      simp only[qc,D,F,hi,J,hk,zi,decide_true,aA]
    ·rename_i id T G;rw[G]at B;split at h<;>try cases h
     rename_i R W;split at h<;>try cases h
     rename_i L;rw[wd]at L;have an:=wj L.1;have hk:=of_decide_eq_true L.2;obtain⟨v,L,h⟩:=Jd h;obtain⟨j0,L⟩:=qjA L;obtain⟨R',I,M,g3,g4⟩:=B;rw[A.rw,W]at I;cases I;have g4:=g4 an;rcases qiB A.rows (by rw[A.rw];exact W) g4 with⟨rr,Q,aq,H,q1,q2,q3,q4,q5,_⟩ | ⟨aE,_,hq,_⟩
     ·obtain⟨e,S,z2⟩:=qg6 q5 L;have hl:=qY q5;have bk:j.toNat<Q.c.length:=getElem?_lt S;refine .same A h (y := .rpt rr (0+j.toNat) 0 Q.ver) ?_ ?_
      ·have:qAN Q k 0 Q.c.length Q.ver j=some (0+j.toNat):=by
         unfold qAN;rw[if_pos ⟨q4.trans hk,j0,by omega,rfl,by omega⟩]
       simp only[qc,D,F,hi,H,q1,this]
      ·refine⟨R,by rw[A.rw];exact W,by omega,wb _,.inl ⟨_,_,_,rfl⟩,λ _ => .inl ⟨rr,j.toNat,aq,by rw[wG,q3],by omega,by omega,λ _=>⟨e,by rw[<- q2];exact S,QH z2⟩⟩⟩
     ·rcases jh hq with⟨_,hl⟩ | ⟨es,n,J,P⟩
      ·rw[hl]at L;simp at L
      ·obtain⟨e,I,bi⟩:=qg6 P L;refine .same A h (y := .ept e 0) ?_ ⟨R,by rw[A.rw];exact W,by omega,wb _,.inr ⟨_,rfl⟩,λ _ => .inr ⟨aE,vP (we _) (getElem?_lt L),λ _=>⟨e,rfl,QH bi⟩⟩⟩;have aA:qyn es j=some e:=by unfold qyn;rw[if_pos j0];exact I
       simp only[qc,D,F,hi,J,hk,zi,decide_true,aA]
   ·rename_i n _ ik j F hj;rw[hj]at hi;have hi:aev tm i = .v (.int ik j):=hi;split at h<;>try cases h
    rename_i b G;rw[G]at B;obtain⟨hb,B⟩:=B;obtain⟨O,h⟩:=jU h;have O:=of_decide_eq_true O;refine .same A h (y := .ptr (m.b b) (0+j.toNat*1)) (by simp only[qc,D,F,hi,B,decide_eq_true O]) ⟨hb,O.1,by rw[wG,wal]⟩
 | index t x i =>
   simp only[Q0]at h;have B:=A.ev x;have hi:=A.ev i;split at h<;>try cases h
   rename_i y ik j F G hj;rw[G]at B;rw[hj]at hi;obtain⟨v,L,h⟩:=Jd h;obtain⟨j0,L⟩:=qjA L;refine .same A h (y := .v (.int .u8 v.toNat)) ?_ rfl
   have:qGt ⟨y.toArray⟩ j=some (v.toNat:Int):=by
    unfold qGt;rw[if_pos j0];show(match y[j.toNat]? with | some b=>some ((b.toNat:Nat):Int) | none=>none)=_;rw[L]
   simp only[qc,D,F,show aev tm x=_ from B,show aev tm i=_ from hi,this]
 | extract x i =>
   simp only[Q0]at h;have B:=A.ev x;split at h<;>try cases h
   rename_i vs G;rw[G]at B;obtain⟨ds,B,hg⟩:=B;split at h<;>try cases h
   rename_i y H;obtain⟨z,I,M⟩:=hg.get H;exact .same A h (by simp only[qc,B,I]) M
 | _=>simp only[Q0]at h;cases h
end
end Go.AmZ
