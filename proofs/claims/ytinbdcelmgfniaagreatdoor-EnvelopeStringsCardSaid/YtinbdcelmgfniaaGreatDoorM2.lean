/- Part 2 of what the proofs stand on: plain functions of the program, and that they are its functions. -/
import Derived.Test.YtinbdcelmgfniaaGreatDoorM1
set_option linter.unusedVariables false
set_option linter.unusedSimpArgs false
set_option linter.defProp false
noncomputable section
open Option renaming some->Z,none->U
open Bool renaming true->O,false->Y
open Decidable renaming decide->J
open List renaming length->I
open Array renaming toList->V
open Go renaming Value->ah,World->ao,TypeId->aO,Program->aX,Operand->bw,FuncId->dm,BinOp->mN
namespace Go.AmZ
open GxZ
section
open RowKit
theorem VZ(ops:aa Oper):∀l:aa Oper,Hw ops l<=I l
 |[]=>al _
 |o::r=>by
   unfold Hw;split
   .exact aL _
   .simpa using VZ ops r
theorem AD(lo:Nat->Bool)(l:aa Oper):ia lo l<=I l:=VZ l l
theorem J5(o:Oper):(eJ o).dst=o.dst:=by unfold eJ;split<;>rfl
theorem qhK(o:Oper):(eJ o).guard=o.guard:=by unfold eJ;split<;>rfl
theorem JO(o:Oper):dM (eJ o)=dM o:=by unfold eJ;split<;>rfl
theorem FN{lo:Nat->Bool}{l:aa Oper}:I (bo lo l)=ia lo l:=by simp[bo,kP (AD lo l)]
theorem zP{lo:Nat->Bool}{l:aa Oper}{j:Nat}(a:j<ia lo l:=by omega):(bo lo l)[j]?=l[j]?.map eJ:=by
 grind [bo]
theorem Ld{lo:Nat->Bool}{l:aa Oper}{j:Nat}{o:Oper}(h:(bo lo l)[j]?=Z o):j<ia lo l/\∃q,l[j]?=Z q/\eJ q=o:=by
 have a:j<ia lo l:=by rw[<-FN (lo:=lo) (l:=l)];exact getElem?_lt h
 rw[zP a]at h;grind
theorem FQ{lo:Nat->Bool}{ops:aM Oper}{c:aa AV}{o:Oper}{b:Bool}(h:dh ⟨bo lo (V ops)⟩ c (eJ o)=Z b):dh ops c o=Z b:=by
 unfold dh at h |-
 rw[qhK]at h;cases e:o.guard with
 |none=>rw[e]at h;exact h
 |some p=>
   let⟨j,a⟩:=p;rw[e]at h;simp only at h |-
   cases d:(bo lo (V ops))[j]? with
   |none=>
     grind
   |some q=>
     let⟨l,f,i,g⟩:=Ld d;have e1:(⟨bo lo (V ops)⟩:aM Oper)[j]?=Z q:=by simpa using d
     have k:ops[j]?=Z f:=by simpa using i
     rw[e1]at h;rw[k];subst g;simp only[Option.bind_some,J5]at h |-
     exact h
section
variable {P:aX}{C:Cfg}{Γ:Gh}{σ:St}{w:ao}{ops:aM Oper}{ex:dQ}{l:aa (AV×ac St)}{s0:S}
theorem RT{a:aM Bool}(h:a.toList.countP (λ b => !b)=0):∀i,i<a.size->a.getD i Y=O:=by
 intro i c;rw[List.countP_eq_zero]at h;have:=h a[i] (by simp);simp only[fF,Bool.not_eq_false]at this;rw[jR,gi c];simpa using this
theorem Xb(hC:dd P C)(hx:md P ex){G:(Nat->Bool)->S}{Good:(Nat->Bool)->Prop}(z:∀L j,Good L->Good (λ i=>J (i=j)||L i))(H:∀(j:Nat) (o:Oper),ops[j]?=Z o->∀e∈dM o,e<j)(K:∀L,(∀i,i<ops.size->L i=O)->G L=G aR)
  (t:∀(L:Nat->Bool) (j:Nat) (o:Oper),ij ops L->Good L->ops[j]?=Z o->L j=Y->(∀e∈dM o,L e=O)->∃y,iX C ex ops o (G L) y/\G (λ i=>J (i=j)||L i)=ck (G L) o y) {Q:Exit->Act->ao->Prop}:∀(d:Nat) (c:aM Bool) (Γ:Gh) (w:ao) (a:Act),c.size=ops.size->c.toList.countP (λ b => !b)=d->ij ops (λ i=>c.getD i Y)->Good (λ i=>c.getD i Y)->
  Inv Γ (G (λ i=>c.getD i Y)).σ w->cv Γ (G (λ i=>c.getD i Y)).tm a->
  (∀Γ' w' a',Ext Γ w Γ' w'->Inv Γ' (G aR).σ w'->cv Γ' (G aR).tm a'->bP (G (λ i=>c.getD i Y)).σ (G aR).σ->a'.defers=a.defers->Q .normal a' w')->
  wpAny P .any ops Q d c a w:=by
 intro d
 induction d with
 |zero=>
   intro c Γ w a g p R l D s hq;have r:=RT p
   have n:Region.ready .any ops c=[]:=by
    apply List.eq_nil_iff_forall_not_mem.2;intro j hj;let⟨h1,o,v,_⟩:=mem_ready.1 hj;grind
   have hF:G (λ i=>c.getD i Y)=G aR:=K _ λ i D=>r i (by rw[g];exact D);rw[hF]at D s;exact⟨n,hq Γ w a (.refl _ _) D s (by rw[hF];exact .refl _) rfl⟩
 |succ d ih=>
   intro c Γ w a g p R l D s hq;refine⟨λ n=>?_,λ j hj=>?_⟩
   .exfalso
    have az:∃i,i<c.size/\c.getD i Y=Y:=by
     apply O6;intro an
     have:c.toList.countP (λ b => !b)=0:=by
      rw[List.countP_eq_zero];intro b hb;obtain⟨i,f,rfl⟩:=List.getElem_of_mem hb;intro a1;refine an ⟨i,by simpa using f,?_⟩;rw[jR,gi (by simpa using f)];simpa using a1
     rw[p]at this;cases this
    let⟨i0,h0,h1⟩:=az
    have W:∀i,i<c.size->c.getD i Y=Y->False:=by
     intro i
     induction i using Nat.strongRecOn with
     |_ i X=>
       intro f hf;let⟨o,v⟩:=gW (ops:=ops) (k:=i) (by rw[<-g];exact f)
       have hr:i∈Region.ready .any ops c:=by
        refine mem_ready.2 ⟨?_,o,v,λ e M hb=>?_⟩
        .rw[jR,gi f]at hf |-
         simpa using hf
        .have aE:e.on∈dM o:=bu.2 ⟨e,jQ.2 ⟨by simpa using M,hb⟩,rfl⟩;have ar:=H i o v e.on aE;cases hc:c.getD e.on Y with
         |true=>rfl
         |false=>exact(X e.on ar (by omega) hc).elim
       rw[n]at hr;cases hr
    exact W i0 h0 h1
   .let⟨h1,o,v,r⟩:=mem_ready.1 hj;have A:j<ops.size:=(dW.1 v).1
    have hL:c.getD j Y=Y:=by
     grind
    have hp:∀e∈dM o,c.getD e Y=O:=λ e M=>by
     obtain⟨ed,a4,rfl⟩:=bu.1 M;grind
    let⟨y,hy,a3⟩:=t _ j o R l v hL hp
    have m:(λ i=>(c.setIfInBounds j O).getD i Y)=λ i=>J (i=j)||c.getD i Y:=by
     funext i;by_cases B:i=j
     .subst B;rw[jR,qoM (by rw[g];exact A)];simp
     .rw[getD_set_ne Y (oO B)];simp[B]
    have F:(c.setIfInBounds j O).size=ops.size:=by rw[OY,g]
    have N:(c.setIfInBounds j O).toList.countP (λ b => !b)=d:=by
     have ax:j<I (V c):=by simp[g,A]
     rw[H5,List.countP_set (h:=ax),p]
     have:c.toList[j]=Y:=by
      rw[jR,gi (by rw[g];exact A)]at hL;simpa using hL
     rw[this];simp
    have a0:ij ops (λ i=>(c.setIfInBounds j O).getD i Y):=by
     rw[m];intro i q ab f e M;simp only[gR,cC]at f |-
     obtain rfl|f:=f
     .grind
     .exact .inr (R i q ab f e M)
    unfold wpOp;rw[v];simp only
    have next:∀Γ' w' u,Ext Γ w Γ' w'->Inv Γ' (turn (G (λ i=>c.getD i Y)).σ y.2) w'->Rep Γ' y.1 u->bP (G (λ i=>c.getD i Y)).σ (turn (G (λ i=>c.getD i Y)).σ y.2)->
      wpAny P .any ops Q d (c.setIfInBounds j O) (a.put o.dst u) w':=by
     intro Γ' w' u e1 e2 e3 e4;have E:G (λ i=>(c.setIfInBounds j O).getD i Y)=ck (G (λ i=>c.getD i Y)) o y:=by rw[m];exact a3
     refine ih (c.setIfInBounds j O) Γ' w' (a.put o.dst u) F N a0 (by rw[m];exact z _ j l) ?_ ?_ ?_
     .rw[E];exact e2
     .rw[E];exact cv.put (Ih e1.le s) o.dst e3
     .intro T w2 a2 g1 g2 g3 g4 g5;rw[E]at g4;exact hq T w2 a2 (e1.trans g1) g2 g3 (e4.trans g4) (by rw[g5];cases R:o.dst<;>rfl)
    obtain⟨hw,ad⟩|⟨hw,rfl⟩:=hy
    .rw[ag (uZ s hw)];left;apply MO hC hx D s ad _ _;grind
    .rw[af (by rw[uZ s hw];exact mK)];exact next Γ w undef (.refl _ _) D (.tup [] [] rfl λ i x u h=>by simp at h) (.refl _)
theorem Xi(p:dd P C)(n:md P ex){Good:(Nat->Bool)->Prop}(g:∀L j,Good L->Good (λ i=>J (i=j)||L i))(k:∀(j:Nat) (o:Oper),ops[j]?=Z o->∀e∈dM o,e<j)
  (f:∀(L:Nat->Bool) (j:Nat) (o:Oper),ij ops L->Good L->ops[j]?=Z o->L j=Y->(∀e∈dM o,L e=O)->∃y,iX C ex ops o (F (V ops) l s0 L ops.size) y/\F (V ops) l s0 (λ i=>J (i=j)||L i) ops.size=ck (F (V ops) l s0 L ops.size) o y) {Q:Exit->Act->ao->Prop}:∀(d:Nat) (c:aM Bool) (Γ:Gh) (w:ao) (a:Act),c.size=ops.size->c.toList.countP (λ b => !b)=d->ij ops (λ i=>c.getD i Y)->Good (λ i=>c.getD i Y)->
  Inv Γ (F (V ops) l s0 (λ i=>c.getD i Y) ops.size).σ w->cv Γ (F (V ops) l s0 (λ i=>c.getD i Y) ops.size).tm a->
  (∀Γ' w' m,Ext Γ w Γ' w'->Inv Γ' (F (V ops) l s0 aR ops.size).σ w'->cv Γ' (F (V ops) l s0 aR ops.size).tm m->bP (F (V ops) l s0 (λ i=>c.getD i Y) ops.size).σ (F (V ops) l s0 aR ops.size).σ->m.defers=a.defers->Q .normal m w')->
  wpAny P .any ops Q d c a w:=
 Xb (G:=λ L=>F (V ops) l s0 L ops.size) p n g k (λ _ h=>G1 _ h) f
theorem TR{lo:Nat->Bool}(h:rX lo (V ops)=O):
  (∀(j:Nat) (o:Oper),ops[j]?=Z o->∀e∈dM o,e<j)/\
  (∀(j:Nat) (o:Oper),ops[j]?=Z o->ia lo (V ops)<=j->∀i,i<j->((fO (V ops) []).getD j 0).testBit i=O\/(i<ia lo (V ops)/\∃q,ops[i]?=Z q/\(qn (V ops) q=O\/xV (V ops) q=O/\AT (V ops) o=O)))/\
  ∀(j:Nat) (o:Oper),ops[j]?=Z o->bT o=O->o.guard=U/\∃d,o.dst=Z d/\∀(k:Nat) (q:Oper),ops[k]?=Z q->k≠j->q.dst≠Z d:=by
 have a:∀(i:Nat) (o:Oper),ops[i]?=Z o->(o,i)∈ops.toList.zipIdx:=λ i o c=>by
  grind
 simp only[rX,bJ,aK,gR,cC,fF]at h;refine⟨λ j o c=>(h _ (a j o c)).1,λ j o c y i s=>?_,λ j o c t=>?_⟩
 .obtain b|b:=(h _ (a j o c)).2.1
  .rw[O7]at b;omega
  .obtain b|⟨l,f⟩:=b i (nM.2 s)
   .exact .inl b
   .rw[O7]at l;grind
 .obtain b|⟨l,f⟩:=(h _ (a j o c)).2.2
  .rw[t]at b;cases b
  .refine⟨Option.isNone_iff_eq_none.1 l,?_⟩;simp only at f;split at f
   .next d m=>refine⟨d,m,λ k q n p g=>?_⟩;have r:=cg f;let⟨x,w⟩:=O8.1 r;have v:(o,j)∈oY (V ops) d:=jQ.2 ⟨a j o c,by simp[sD,m]⟩;have u:(q,k)∈oY (V ops) d:=jQ.2 ⟨a k q n,by simp[sD,g]⟩;grind
   .cases f
theorem rK{o:Oper}(a:bT o=O):∃e,o.op=.alloc e:=by
 grind [bT]
structure oK (P:aX) (Γ:Gh) (w0 w:ao) (ops:Array Oper) (L:Nat->Prop) (a:Act) (ad:Nat->Nat):Prop where
 blk:∀k o e d,L k->ops[k]?=Z o->o.op=.alloc e->cH P e=Z d->d.zero.all bQ=O->
  w0.heap.size<=ad k/\w.heap[ad k]?=Z (.cells d.zero.toArray e (0,0))/\¬ fN Γ (ad k)/\∀i,Γ.mem (ad k) i=U
 tmp:∀k o e d u,L k->ops[k]?=Z o->o.op=.alloc e->o.dst=Z d->a.tmps[d]?=Z u->u=.pointer (Z ⟨ad k,0,U⟩)
 inj:∀k k' o o',L k->L k'->ops[k]?=Z o->ops[k']?=Z o'->bT o=O->bT o'=O->ad k=ad k'->k=k'
theorem qjA{a:Act}{d:ac Tmp}{u:ah}{t:Tmp}(h:d≠Z t):(a.put d u).tmps[t]?=a.tmps[t]?:=by
 cases d with
 |none=>rfl
 |some d=>
   show(a.tmps.setIfInBounds d u)[t]?=_;grind
theorem oK.step{L:Nat->Prop}{w0 w':ao}{Γ':Gh}{a:Act}{ad:Nat->Nat}{d:ac Tmp}{u:ah}(h:oK P Γ w0 w ops L a ad)(p:Ext Γ w Γ' w')
  (r:∀k o t,L k->ops[k]?=Z o->bT o=O->o.dst=Z t->d≠Z t):oK P Γ' w0 w' ops L (a.put d u) ad where
 blk:=λ k o e d m l j g f=>by
  let⟨x,q,g3,s⟩:=h.blk k o e d m l j g f;have n:ad k<w.heap.size:=(dW.1 q).1;refine⟨x,by rw[p.block _ n g3];exact q,λ c=>?_,λ i=>?_⟩
  .obtain c|c:=p.own _ c
   .exact g3 c
   .omega
  .cases b:Γ'.mem (ad k) i with
   |none=>rfl
   |some v=>
     obtain b|b|b:=p.memg _ _ _ b
     .rw[s]at b;cases b
     .exact absurd b g3
     .omega
 tmp:=λ k o e t v m l j g f=>by
  rw[qjA (r k o t m l (by simp[bT,j]) g)]at f;exact h.tmp k o e t v m l j g f
 inj:=h.inj
theorem qjQ{o:Oper}{ρ:bw->ah}{e:aO}{d:TD}(a:o.op=.alloc e)(b:cH P e=Z d)(w:ao):(execOp ρ o).run P w=.ok (.value (.pointer (Z ⟨w.heap.size,0,U⟩))) (w.alloc (.cells d.zero.toArray e)):=by
 let⟨i,u,z,g,m,f,l,k,j,c,h⟩:=dI b;rw[<-c];simp[execOp,a,Instr.alloc,zeroValue,typeInfo,g,f,newVar,yW]
theorem Inv.free(a:Inv Γ σ w){b:Nat}(f:w.heap.size<=b):¬ fN Γ b/\∀i,Γ.mem b i=U:=by
 refine⟨?_,λ i=>?_⟩
 .rintro(⟨i,c,d⟩|⟨r,c,d,g⟩)
  .have:=a.box_lt c;omega
  .have:=a.cur_lt c d;omega
 .cases e:Γ.mem b i with
  |none=>rfl
  |some u=>have:=a.mem_lt e;omega
theorem qob(hC:dd P C)(hx:md P ex)(hT:mY C ex ⟨bo C.lo (V ops)⟩ l s0)(hk:lm C.lo s0.tm ⟨bo C.lo (V ops)⟩=O)(az:rX C.lo (V ops)=O)
  (hz:∀k o e,k<ia C.lo (V ops)->ops[k]?=Z o->o.op=.alloc e->∃d,cH P e=Z d/\d.zero.all bQ=O) {w0:ao}{Q:Exit->Act->ao->Prop}{n:Nat} (hn:n=ia C.lo (V ops)):
  ∀(g:Nat) (c:aM Bool) (Γ:Gh) (w:ao) (a:Act) (ad:Nat->Nat),c.size=ops.size->c.toList.countP (λ b => !b)=g->(∀i,n<=i->c.getD i Y=Y)->ij ops (λ i=>c.getD i Y)->
  Inv Γ (F (bo C.lo (V ops)) l s0 (λ i=>c.getD i Y) n).σ w->cv Γ (F (bo C.lo (V ops)) l s0 (λ i=>c.getD i Y) n).tm a->oK P Γ w0 w ops (λ i=>c.getD i Y=O) a ad->w0.heap.size<=w.heap.size->
  (∀s f Γ' w' a' N,f.size=ops.size->f.toList.countP (λ b => !b)=s->(∀i,n<=i->f.getD i Y=Y)->(∀(i:Nat) (o:Oper),i<n->ops[i]?=Z o->iV (V ops) o=Y->f.getD i Y=O)->ij ops (λ i=>f.getD i Y)->Ext Γ w Γ' w'->Inv Γ' (F (bo C.lo (V ops)) l s0 (λ i=>f.getD i Y) n).σ w'->cv Γ' (F (bo C.lo (V ops)) l s0 (λ i=>f.getD i Y) n).tm a'->oK P Γ' w0 w' ops (λ i=>f.getD i Y=O) a' N->
   bP (F (bo C.lo (V ops)) l s0 (λ i=>c.getD i Y) n).σ (F (bo C.lo (V ops)) l s0 (λ i=>f.getD i Y) n).σ->a'.defers=a.defers->wpAny P .any ops Q s f a' w')->
  wpAny P .any ops Q g c a w:=by
 let⟨co,cs,bd⟩:=TR az
 have a8:∀(j:Nat) (o:Oper),j<n->ops[j]?=Z o->(⟨bo C.lo (V ops)⟩:aM Oper)[j]?=Z (eJ o):=λ j o hj B=>by
  have:(bo C.lo (V ops))[j]?=Z (eJ o):=by
   rw[zP];grind
  simpa using this
 have a6:(⟨bo C.lo (V ops)⟩:aM Oper).size=n:=by show(bo C.lo (V ops)).length=n;rw[FN,hn]
 have c9:n<=ops.size:=by rw[hn];simpa using AD C.lo (V ops)
 intro g
 induction g with
 |zero=>
   intro c Γ w a ad A M S hd hi X hs an hq;have D:=RT M;exact hq 0 c Γ w a ad A M S (λ i o m _ _=>D i (by omega)) hd (.refl _ _) hi X hs (.refl _) rfl
 |succ g ih=>
   intro c Γ w a ad A M S hd hi X hs an hq;by_cases D:∀(i:Nat) (o:Oper),i<n->ops[i]?=Z o->iV (V ops) o=Y->c.getD i Y=O
   .exact hq (g+1) c Γ w a ad A M S D hd (.refl _ _) hi X hs (.refl _) rfl
   have c4:ij ⟨bo C.lo (V ops)⟩ (λ i=>c.getD i Y):=by
    intro i o B hL e R;obtain⟨m,q,h1,rfl⟩:=Ld (lo:=C.lo) (l:=V ops) (j:=i) (o:=o) (by simpa using B);rw[JO]at R;exact hd i q (by simpa using h1) hL e R
   have bx:∃(i0:Nat) (o0:Oper),i0<n/\ops[i0]?=Z o0/\iV (V ops) o0=Y/\c.getD i0 Y=Y:=by
    apply O6;intro a9;refine D λ i o m cf bp=>?_;cases hc:c.getD i Y with
    |true=>rfl
    |false=>exact(a9 ⟨i,o,m,cf,bp,hc⟩).elim
   refine⟨λ ba=>?_,λ j hj=>?_⟩
   .exfalso;let⟨i0,o0,W,_,_,h1⟩:=bx
    have b4:∀i,i<n->c.getD i Y=Y->False:=by
     intro i
     induction i using Nat.strongRecOn with
     |_ i b5=>
       intro m hf;let⟨o,B⟩:=gW (ops:=ops) (k:=i)
       have hr:i∈Region.ready .any ops c:=by
        refine mem_ready.2 ⟨?_,o,B,λ e R hb=>?_⟩
        .rw[jR,gi (by omega)]at hf |-
         simpa using hf
        .have c2:e.on∈dM o:=bu.2 ⟨e,jQ.2 ⟨by simpa using R,hb⟩,rfl⟩;have bb:=co i o B e.on c2;cases hc:c.getD e.on Y with
         |true=>rfl
         |false=>exact(b5 e.on bb (by omega) hc).elim
       rw[ba]at hr;cases hr
    exact b4 i0 W h1
   .let⟨h1,o,B,b1⟩:=mem_ready.1 hj;have a0:j<ops.size:=(dW.1 B).1
    have hL:c.getD j Y=Y:=by
     grind
    have hp:∀e∈dM o,c.getD e Y=O:=λ e R=>by
     obtain⟨ed,ds,rfl⟩:=bu.1 R;grind
    have ct:j<n:=by
     apply O6;intro a9;let⟨i0,o0,W,cd,c1,h2⟩:=bx;obtain hb|⟨_,q,z,bp⟩:=cs j o B (by omega) i0 (by omega)
     .have:=qz hd j o B hp hb;rw[h2]at this;cases this
     .rw[cd]at z;cases z;unfold iV at c1;grind
    have cb:∀e∈dM (eJ o),c.getD e Y=O:=by rw[JO];exact hp
    let⟨y,hy,bz⟩:=KN hT hk c4 (a8 j o ct B) hL cb;rw[a6]at hy bz
    have L:(λ i=>(c.setIfInBounds j O).getD i Y)=λ i=>J (i=j)||c.getD i Y:=by
     funext i;by_cases a1:i=j
     .subst a1;rw[jR,qoM (by rw[A];exact a0)];simp
     .rw[getD_set_ne Y (oO a1)];simp[a1]
    have a7:(c.setIfInBounds j O).size=ops.size:=by rw[OY,A]
    have bv:(c.setIfInBounds j O).toList.countP (λ b => !b)=g:=by
     have cP:j<I (V c):=by simp[A,a0]
     rw[H5,List.countP_set (h:=cP),M]
     have:c.toList[j]=Y:=by
      rw[jR,gi (by rw[A];exact a0)]at hL;simpa using hL
     rw[this];simp
    have bl:∀i,n<=i->(c.setIfInBounds j O).getD i Y=Y:=λ i m=>by
     rw[getD_set_ne Y (by omega)];exact S i m
    have c5:ij ops (λ i=>(c.setIfInBounds j O).getD i Y):=by
     rw[L];intro i q z m e R;simp only[gR,cC]at m |-
     obtain rfl|m:=m
     .grind
     .exact .inr (hd i q z m e R)
    have cy:∀k,(c.setIfInBounds j O).getD k Y=O->k=j\/c.getD k Y=O:=λ k aE=>by
     have:(λ i=>(c.setIfInBounds j O).getD i Y) k=O:=aE;rw[L]at this;simpa using this
    have a3:F (bo C.lo (V ops)) l s0 (λ i=>(c.setIfInBounds j O).getD i Y) n=ck (F (bo C.lo (V ops)) l s0 (λ i=>c.getD i Y) n) (eJ o) y:=by rw[L];exact bz
    unfold wpOp;rw[B];simp only
    have next:∀Γ' w' u N,Ext Γ w Γ' w'->Inv Γ' (turn (F (bo C.lo (V ops)) l s0 (λ i=>c.getD i Y) n).σ y.2) w'->Rep Γ' y.1 u->bP (F (bo C.lo (V ops)) l s0 (λ i=>c.getD i Y) n).σ (turn (F (bo C.lo (V ops)) l s0 (λ i=>c.getD i Y) n).σ y.2)->
      oK P Γ' w0 w' ops (λ i=>(c.setIfInBounds j O).getD i Y=O) (a.put o.dst u) N->wpAny P .any ops Q g (c.setIfInBounds j O) (a.put o.dst u) w':=by
     intro Γ' w' u N e1 e2 e3 e4 e5;refine ih (c.setIfInBounds j O) Γ' w' (a.put o.dst u) N a7 bv bl c5 ?_ ?_ e5 (bR an e1.size) ?_
     .rw[a3];exact e2
     .rw[a3];show RepL Γ' (ic _ (eJ o).dst y.1) _;rw[J5];exact cv.put (Ih e1.le X) o.dst e3
     .intro s f b2 w2 a2 c8 g0 c7 b0 q1 q2 K r g3 c6 E H;rw[a3]at E;exact hq s f b2 w2 a2 c8 g0 c7 b0 q1 q2 (e1.trans K) r g3 c6 (e4.trans E) (by rw[H];cases hd:o.dst<;>rfl)
    cases T:bT o with
    |false=>
      have c3:eJ o=o:=by unfold eJ;rw[T]
      have a4:∀Γ' w' u,Ext Γ w Γ' w'->oK P Γ' w0 w' ops (λ i=>(c.setIfInBounds j O).getD i Y=O) (a.put o.dst u) ad:=λ Γ' w' u R=>by
       have W:=hs.step (d:=o.dst) (u:=u) R λ k q t aE z ar ca=>by
        let⟨_,d,d0,dT⟩:=bd k q z ar;grind
       have conv:∀k q,(c.setIfInBounds j O).getD k Y=O->ops[k]?=Z q->bT q=O->c.getD k Y=O:=λ k q h2 z ar=>by
        grind
       exact⟨λ k q e d K r g3=>W.blk k q e d (conv k q K r (by simp[bT,g3])) r g3,λ k q e d v K r g3=>W.tmp k q e d v (conv k q K r (by simp[bT,g3])) r g3,λ k k' q q' K r g3 E H g6=>W.inj k k' q q' (conv k q K g3 H) (conv k' q' r E g6) g3 E H g6⟩
      obtain⟨hw,G⟩|⟨hw,rfl⟩:=hy
      .rw[ag (uZ X (FQ hw))];left;rw[c3]at G;apply MO hC hx hi X G _ _;grind
      .rw[af (by rw[uZ X (FQ hw)];exact mK)];exact next Γ w undef ad (.refl _ _) hi (.tup [] [] rfl λ i x u h=>by simp at h) (.refl _) (a4 Γ w undef (.refl _ _))
    |true=>
      let⟨e,ax⟩:=rK T;let⟨c0,d,da,dk⟩:=bd j o B T
      have b6:y=(.dead,U):=by
       obtain⟨hw,G⟩|⟨hw,rfl⟩:=hy
       .have:(eJ o).op=.move (.global 0):=by unfold eJ;rw[T]
        rw[this]at G;simp only[opA,aC,aev,dF]at G;exact G.symm
       .have hw:=FQ hw;grind [dh]
      subst b6;have b7:dh ops (F (bo C.lo (V ops)) l s0 (λ i=>c.getD i Y) n).tm o=Z O:=by unfold dh;rw[c0]
      rw[ag (uZ X b7)];left;let⟨td,a5,db⟩:=hz j o e (by omega) B ax;have hb:Below w.heap.size w (w.alloc (.cells td.zero.toArray e)):=(Below.refl _ _).alloc (al _) _;unfold Oper.wp;rw[qjQ ax a5];apply next Γ _ (.pointer (Z ⟨w.heap.size,0,U⟩)) (λ k=>if k=j then w.heap.size else ad k) (wY hb (al _)) (hi.later hb) (.dead _) (.refl _)
      have W:=hs.step (d:=o.dst) (u:=.pointer (Z ⟨w.heap.size,0,U⟩)) (wY (Γ:=Γ) hb (al _)) λ k q t aE z ar ca=>by
       grind
      have bn:=hi.free (al w.heap.size);have conv:∀k,(c.setIfInBounds j O).getD k Y=O->k≠j->c.getD k Y=O:=λ k h2 cl=>(cy k h2).resolve_left cl
      have bb:∀k q,c.getD k Y=O->ops[k]?=Z q->bT q=O->ad k<w.heap.size:=λ k q h2 h3 h4=>by
       let⟨e',bs⟩:=rK h4
       have dr:k<n:=by
        grind
       let⟨b3,b9,b8⟩:=hz k q e' (by omega) h3 bs;exact(dW.1 (hs.blk k q e' b3 h2 h3 bs b9 b8).2.1).1
      refine⟨λ k q e' d' K r g3 E H=>?_,λ k q e' d' v K r g3 E H=>?_,λ k k' q q' K r g3 E H g6 g7=>?_⟩
      .by_cases p:k=j
       .subst p;rw[B]at r;cases r;rw[ax]at g3;cases g3;rw[a5]at E;cases E;simp only[yu];exact⟨an,heap_alloc_new w _,bn.1,bn.2⟩
       .simp only[af p];exact W.blk k q e' d' (conv k K p) r g3 E H
      .by_cases p:k=j
       .subst p;rw[B]at r;cases r;simp only[yu];rw[E]at H;have H:(a.tmps.setIfInBounds d' (.pointer (Z ⟨w.heap.size,0,U⟩)))[d']?=Z v:=H;grind
       .simp only[af p];exact W.tmp k q e' d' v (conv k K p) r g3 E H
      .by_cases p:k=j
       .grind
       .by_cases ab:k'=j
        .grind
        .simp only[af p,af ab]at g7;exact hs.inj k k' q q' (conv k K p) (conv k' r ab) g3 E H g6 g7
end
end
section
open RowKit
section
variable {P:aX}{C:Cfg}{Γ:Gh}{σ:St}{w:ao}{ops:aM Oper}{ex:dQ}{l:aa (AV×ac St)}{s0:S}
theorem qj4(h:Inv Γ σ w){cs:aa AV}{vs:aa ah}{b:Nat}{e:aO}(x:w.heap[b]?=Z (.cells vs.toArray e (0,0)))(n:¬ fN Γ b)(y:∀i,Γ.mem b i=U)(C:RepL Γ cs vs)(F:∀u∈vs,u.oneCell'=O):
  ∃Γ',Le Γ Γ'/\(∀c,fN Γ' c->fN Γ c\/c=b)/\Γ'.mem=Γ.mem/\Inv Γ' {σ with bx:=σ.bx++[cs]} w/\Rep Γ' (.ptr (I σ.bx) 0) (.pointer (Z ⟨b,0,U⟩)):=by
 let Γ':Gh:={Γ with nb:=Γ.nb+1,β:=λ i=>if i=Γ.nb then b else Γ.β i}
 have g:∀i,i<Γ.nb->Γ'.β i=Γ.β i:=λ i f=>ifN;have a:Γ'.β Γ.nb=b:=ag rfl;have k:Le Γ Γ':=⟨λ _ _ _ h=>h,eO _,g,al _,λ _ _=>rfl,λ _ _=>al _,λ _ _ _=>⟨rfl,rfl,rfl⟩⟩
 refine⟨Γ',k,?_,rfl,⟨?_,h.nr,h.mem,?_,?_,?_,?_,h.apart,h.tab.1,λ m=>h.tab.2.1 (m.elim (λ⟨i,f,x⟩=>by
  have f:i<Γ.nb+1:=f;by_cases d:i=Γ.nb
  .rw[d,a]at x;exact absurd (y 0) (by rw[x];exact h.tab.2.2)
  .exact .inl ⟨i,by omega,by rw[<-g i (by omega)];exact x⟩) .inr),h.tab.2.2⟩,?_⟩
 .rintro c (⟨i,f,rfl⟩|m)
  .have f:i<Γ.nb+1:=f;by_cases d:i=Γ.nb
   .right;rw[d,a]
   .left;left;exact⟨i,by omega,(g i (by omega)).symm⟩
  .exact .inl (.inr m)
 .show Γ.nb+1=I (σ.bx++[cs]);simp[h.nb]
 .intro i cs' f;rw[yr]at f;split at f
  .next s=>exact(h.box i cs' f).lift (by rw[h.nb];exact s) k λ o m=>m
  .rename_i s
   have A:i-I σ.bx=0:=by
    grind
   rw[A]at f;simp at f;subst f;have z:i=Γ.nb:=by rw[h.nb];omega
   refine .of ⟨vs.toArray,e,?_,by simpa using C.mono k,by simpa using F⟩;rw[z,a];exact x
 .intro i j f E l;have v:i<Γ.nb+1:=f;have D:j<Γ.nb+1:=E;by_cases d:i=Γ.nb<;>by_cases t:j=Γ.nb
  .rw[d,t]
  .rw[d,a,g j (by omega)]at l;exact(n (.inl ⟨j,by omega,l.symm⟩)).elim
  .rw[t,a,g i (by omega)]at l;exact(n (.inl ⟨i,by omega,l⟩)).elim
  .rw[g i (by omega),g j (by omega)]at l;exact h.inj i j (by omega) (by omega) l
 .intro i f o;have v:i<Γ.nb+1:=f;by_cases d:i=Γ.nb
  .rw[d,a];exact y o
  .rw[g i (by omega)];exact h.boxmem i (by omega) o
 .intro r R q;have p:r<Γ.nr:=by rw[h.nr];exact getElem?_lt q
  refine(h.row r R q).lift p k rfl (λ _ G m=>m) (λ _ _ y=>y) λ B i f H l=>?_;have v:i<Γ.nb+1:=f;have d:i=Γ.nb:=by omega
  rw[d,a]at l;exact n (.inr ⟨r,p,B,l.symm⟩)
 .rw[<-a,h.nb];exact .ptr _ _ (by show I σ.bx<Γ.nb+1;rw[h.nb];omega)
theorem JV{lo:Nat->Bool}{l:aa Oper}{o:Oper}(h:iV l o=O):cQ lo o.op=Y:=by
 cases a:cQ lo o.op with
 |false=>rfl
 |true=>
   exfalso
   have c:iC o.op=O\/sX o.op=O:=by
    unfold cQ at a;split at a<;>first|(cases a;done)|(rename_i e;rw[e];first|exact .inl rfl|exact .inr rfl)
   unfold iV qn xV at h;simp only[gR,aK,fF]at h;obtain⟨⟨b,d⟩,_⟩|⟨b,_⟩:=h
   .grind
   .unfold vV at b;split at b
    .next e=>rw[e]at a;cases a
    .next e=>rw[e]at a;cases a
    .cases b
theorem Wj{l:aa Oper}{o:Oper}(h:iV l o=O):bT o=Y/\∀q∈l,bT q=O->∀d,q.dst=Z d->d ∉ iZ ⟨l⟩ o:=by
 unfold iV at h;rw[gR]at h;obtain h|h:=h
 .grind [qn]
 .unfold xV at h;rw[aK]at h
  have a:bT o=Y:=by
   have:=h.1;unfold vV at this;grind [bT]
  refine⟨a,λ q c g d f e=>?_⟩;have b:=h.2;unfold Ow at b;grind
def idA(nb:Nat)(ops:aM Oper)(k:Nat):Nat:=nb+(ops.toList.take k).countP bT
theorem FY{nb k:Nat}{o:Oper}(a:ops[k]?=Z o):idA nb ops (k+1)=idA nb ops k+(if bT o then 1 else 0):=by
 grind [idA,Array.getElem?_eq_some_iff,List.take_add_one,List.countP_singleton]
def M7(ops:aM Oper)(P:Nat->Prop)(nb:Nat)(b a:aa AV):Prop:=
 I a=I b/\∀t,(∀(k:Nat) (o:Oper),P k->ops[k]?=Z o->bT o=O->o.dst=Z t->a.getD t .dead=if t<I b then .ptr (idA nb ops k) 0 else .dead)/\
  ((∀(k:Nat) (o:Oper),P k->ops[k]?=Z o->bT o=O->o.dst≠Z t)->a.getD t .dead=b.getD t .dead)
theorem xM(a:aa AV)(d t:Nat)(x:AV):(a.set d x).getD t .dead=if d=t then(if t<I a then x else .dead)else a.getD t .dead:=by
 grind
theorem JW{n nb:Nat}(f:∀(j:Nat) (o:Oper),ops[j]?=Z o->bT o=O->o.guard=U/\∃d,o.dst=Z d/\∀(k:Nat) (q:Oper),ops[k]?=Z q->k≠j->q.dst≠Z d):∀(a:aa Oper) (i:Nat) (s g:S),(∀(j:Nat) (o:Oper),a[j]?=Z o->i+j<n/\ops[i+j]?=Z o)->i+I a=n->cY C ex ops Y (a.filter bT) s=Z g->I s.σ.bx=idA nb ops i->
  M7 ops (λ k=>i<=k/\k<n) nb s.tm g.tm
 |[],i,s,g,_,B,h,_=>by
   simp only[ZH,cY,dF]at h;subst h;simp at B;exact⟨rfl,λ t=>⟨λ k o u=>by omega,λ _=>rfl⟩⟩
 |o::a,i,s,g,F,B,h,H=>by
   obtain⟨Q,c⟩:=F 0 o rfl;have c:ops[i]?=Z o:=by simpa using c
   have l:∀(j:Nat) (q:Oper),a[j]?=Z q->i+1+j<n/\ops[i+1+j]?=Z q:=λ j q w=>by
    have:=F (j+1) q w;grind
   have p:i+1+I a=n:=by rw[<-B];simp;omega
   cases b:bT o with
   |false=>
     rw[O9 (by rw[b];exact mK)]at h;obtain⟨z,y⟩:=JW f a (i+1) s g l p h (by rw[FY c,b];exact H);refine⟨z,λ t=>⟨λ k q u w K x=>(y t).1 k q ⟨?_,u.2⟩ w K x,λ m=>(y t).2 λ k q u=>m k q ⟨by omega,u.2⟩⟩⟩;grind
   |true=>
     rw[Pa b]at h;obtain⟨e,A⟩:=rK b;obtain⟨D,d,v,N⟩:=f i o c b;simp only[cY]at h;have M:dh ops s.tm o=Z O:=by unfold dh;rw[D]
     rw[M]at h;simp only[A,opA,aC]at h;cases x:C.ty e with
     |none=>rw[x]at h;cases h
     |some L=>
       rw[x]at h;simp only at h;cases E:L.zero.all bQ with
       |false=>rw[E]at h;cases h
       |true=>
         rw[E]at h;simp only[jz]at h;obtain⟨z,y⟩:=JW f a (i+1) _ g l p h (by show(s.σ.bx++[_]).length=_;rw[FY c,b,aU,H];rfl);rw[v]at z y;have r:I (ic s.tm (Z d) (.ptr (I s.σ.bx) 0))=I s.tm:=dX ..;have G:∀t,(ic s.tm (Z d) (.ptr (I s.σ.bx) 0)).getD t .dead=if d=t then(if t<I s.tm then .ptr (I s.σ.bx) 0 else .dead)else s.tm.getD t .dead:=λ t=>xM s.tm d t _;refine⟨z.trans r,λ t=>⟨λ k q u w K P=>?_,λ m=>?_⟩⟩
         .grind
         .grind
theorem KH(hC:dd P C){n nb:Nat}{y:Gh}{w0:ao}{a:Act}{ad:Nat->Nat}:∀(f:aa Oper) (i:Nat) (s z:S) (σ:St) (Γ:Gh),(∀(j:Nat) (o:Oper),f[j]?=Z o->i+j<n/\ops[i+j]?=Z o)->i+I f=n->cY C ex ops Y (f.filter bT) s=Z z->
  (∀(j:Nat) (o:Oper),ops[j]?=Z o->bT o=O->o.guard=U)->s.σ=σ->I s.σ.bx=idA nb ops i->Inv Γ σ w->oK P Γ w0 w ops (λ k=>i<=k/\k<n) a ad->Ext y w0 Γ w->
  ∃Γ',Le Γ Γ'/\Ext y w0 Γ' w/\Inv Γ' z.σ w/\bP σ z.σ/\∀(k:Nat) (o:Oper),i<=k->k<n->ops[k]?=Z o->bT o=O->Rep Γ' (.ptr (idA nb ops k) 0) (.pointer (Z ⟨ad k,0,U⟩))
 |[],i,s,z,σ,Γ,_,R,h,_,m,_,K,B,p=>by
   simp only[ZH,cY,dF]at h;subst h;simp at R;exact⟨Γ,.refl Γ,p,by rw[m];exact K,by rw[m];exact .refl _,λ k o r A=>by omega⟩
 |o::f,i,s,z,σ,Γ,hr,R,h,X,m,hb,K,B,p=>by
   obtain⟨an,g⟩:=hr 0 o rfl;have g:ops[i]?=Z o:=by simpa using g
   have D:∀(j:Nat) (q:Oper),f[j]?=Z q->i+1+j<n/\ops[i+1+j]?=Z q:=λ j q Q=>by
    have:=hr (j+1) q Q;grind
   have G:i+1+I f=n:=by rw[<-R];simp;omega
   have t:oK P Γ w0 w ops (λ k=>i+1<=k/\k<n) a ad:=⟨λ k o e d r=>B.blk k o e d ⟨by omega,r.2⟩,λ k o e d u r=>B.tmp k o e d u ⟨by omega,r.2⟩,λ k k' o o' r A=>B.inj k k' o o' ⟨by omega,r.2⟩ ⟨by omega,A.2⟩⟩
   cases l:bT o with
   |false=>
     rw[O9 (by rw[l];exact mK)]at h;obtain⟨Γ',g0,g1,g2,g3,g4⟩:=KH hC f (i+1) s z σ Γ D G h X m (by rw[FY g,l];exact hb) K t p;grind
   |true=>
     rw[Pa l]at h;obtain⟨e,E⟩:=rK l;simp only[cY]at h;have hw:dh ops s.tm o=Z O:=by unfold dh;rw[X i o g l]
     rw[hw]at h;simp only[E,opA,aC]at h;cases hd:C.ty e with
     |none=>rw[hd]at h;cases h
     |some d=>
       rw[hd]at h;simp only at h;cases H:d.zero.all bQ with
       |false=>rw[H]at h;cases h
       |true=>
         rw[H]at h;simp only[jz]at h;have M:=hC.ty e d hd;obtain⟨g1,g2,g3,g4⟩:=B.blk i o e d ⟨al _,by omega⟩ g E M H;obtain⟨b1,b2⟩:=uM (Γ:=Γ) H;obtain⟨x,a1,a2,a3,a4,a5⟩:=qj4 K g2 g3 g4 b1 b2
         have ab:Ext y w0 x w:=⟨p.le.trans a1,p.os,p.tape,p.output,p.size,p.block,λ c hc=>by
          rcases a2 c hc with hc|rfl
          .exact p.own c hc
          .grind,λ b o u hm=>by rw[a3]at hm;exact p.memg b o u hm,p.drawn⟩
         have N:oK P x w0 w ops (λ k=>i+1<=k/\k<n) a ad:=⟨λ k q e' d' r A h3 h4 h5=>by
          obtain⟨q1,q2,q3,q4⟩:=t.blk k q e' d' r A h3 h4 h5;refine⟨q1,q2,λ F=>?_,λ j=>by rw[a3];exact q4 j⟩;rcases a2 _ F with F|F
          .exact q3 F
          .have:=B.inj k i q o ⟨by omega,r.2⟩ ⟨al _,by omega⟩ A g (by simp[bT,h3]) l F;omega,t.tmp,t.inj⟩
         obtain⟨L,c0,c1,c2,c3,c4⟩:=KH hC f (i+1) _ z {σ with bx:=σ.bx++[d.zero.map .v]} x D G h X (by simp only;rw[m]) (by show(s.σ.bx++[_]).length=_;rw[FY g,l,aU,hb];rfl) a4 N ab;have W:bP σ {σ with bx:=σ.bx++[d.zero.map .v]}:=⟨by simp,al _,λ j hj _=>by simp only[dY hj],λ _ _ _=>rfl,λ _ h=>h,λ _ h=>h⟩
         refine⟨L,a1.trans c0,c1,c2,W.trans c3,λ k q r A Q ha=>?_⟩;by_cases T:k=i
         .subst T;rw[<-hb,m];exact a5.mono c0
         .exact c4 k q (by omega) A Q ha
theorem KO{l:S}:∀(a:aa Oper) (s:S),cY C ex ops Y (a.filter bT) s=Z l->(∀o∈a,bT o=O->o.guard=U)->∀o∈a,∀e,o.op=.alloc e->∃d,C.ty e=Z d/\d.zero.all bQ=O
 |[],_,_,_,o,b,_,_=>by cases b
 |q::a,s,h,i,o,b,e,f=>by
   cases c:bT q with
   |false=>
     rw[O9 (by rw[c];exact mK)]at h;obtain rfl|b:=bi.1 b
     .simp[bT,f]at c
     .exact KO a s h (λ o b=>i o (aS _ b)) o b e f
   |true=>
     rw[Pa c]at h;let⟨n,g⟩:=rK c;simp only[cY]at h;have m:dh ops s.tm q=Z O:=by unfold dh;rw[i q (aW ..) c]
     rw[m]at h;simp only[g,opA,aC]at h;cases k:C.ty n with
     |none=>rw[k]at h;cases h
     |some d=>
       rw[k]at h;simp only at h;cases j:d.zero.all bQ with
       |false=>rw[j]at h;cases h
       |true=>
         rw[j]at h;simp only[jz]at h;obtain rfl|b:=bi.1 b
         .grind
         .exact KO a _ h (λ o b=>i o (aS _ b)) o b e f
theorem XX{b:aa (AV×ac St)}{a:S}{L:Nat->Bool}{n:Nat}(h:∀i,n<=i->L i=Y):∀m,F (V ops) b a L (n+m)=F (V ops) b a L n
 |0=>rfl
 |m+1=>by
   show F (V ops) b a L (n+m+1)=_;simp only[F];rw[h (n+m) (by omega)];split
   .next c=>cases c
   .exact XX h m
def sU(ops:aM Oper)(n nb:Nat)(lA lS:aa (AV×ac St)):aa (AV×ac St):=
 (List.range n).map (λ k=>match ops[k]? with
  |Z o=>match bT o with
    |O=>(AV.ptr (idA nb ops k) 0,U)
    |Y=>((lA.getD k (.dead,U)).1,U)
  |U=>(.dead,U))++lS
theorem Gg{n nb k:Nat}{lA lS:aa (AV×ac St)}{o:Oper}(a:k<n)(b:ops[k]?=Z o):(sU ops n nb lA lS)[k]?=Z (match bT o with
  |O=>(AV.ptr (idA nb ops k) 0,U)
  |Y=>((lA.getD k (.dead,U)).1,U)):=by
 unfold sU;rw[dY (by simpa using a),dC,ZI a];simp only[lK,b]
theorem FU{n nb k:Nat}{lA lS:aa (AV×ac St)}:(sU ops n nb lA lS)[n+k]?=lS[k]?:=by
 grind [sU]
theorem Wf{n nb:Nat}{lA lS:aa (AV×ac St)}{s0 b:S}(g:b.tm=s0.tm)(N:n=ia C.lo (V ops))(M:vX C ⟨bo C.lo (V ops)⟩ lA)(h:∀(j:Nat) (o:Oper),ops[j]?=Z o->bT o=O->o.guard=U/\∃d,o.dst=Z d/\∀(k:Nat) (q:Oper),ops[k]?=Z q->k≠j->q.dst≠Z d)
  (L:Nat->Bool):∀k,k<=n->M7 ops (λ i=>i<k/\L i=O) nb (F (bo C.lo (V ops)) lA s0 L k).tm (F (V ops) (sU ops n nb lA lS) b L k).tm
 |0,_=>⟨by show I b.tm=I s0.tm;rw[g],λ t=>⟨λ k o P=>by omega,λ _=>by show b.tm.getD t _=s0.tm.getD t _;rw[g]⟩⟩
 |k+1,P=>by
   obtain⟨B,A⟩:=Wf (lS:=lS) g N M h L k (by omega);have K:ia C.lo (V ops)<=ops.size:=by simpa using AD C.lo (V ops)
   obtain⟨o,p⟩:=gW (ops:=ops) (k:=k);have v:ops.toList[k]?=Z o:=by simpa using p
   have u:(bo C.lo (V ops))[k]?=Z (eJ o):=by rw[zP,v];rfl
   obtain⟨y,H,_⟩:=M k (eJ o) (by simpa using u);have Q:=Gg (n:=n) (nb:=nb) (lA:=lA) (lS:=lS) (k:=k) (by omega) p;simp only[F,u,H,v,Q];cases G:L k with
   |false=>
     refine⟨B,λ t=>⟨λ i q e=>(A t).1 i q ⟨?_,e.2⟩,λ a=>(A t).2 λ i q e=>a i q ⟨by omega,e.2⟩⟩⟩;grind
   |true=>
     simp only[ck,J5];cases l:bT o with
     |true=>
       obtain⟨_,d,z,s⟩:=h k o p l;simp only[z,ic];refine⟨by rw[dX,dX,B],λ t=>⟨λ i q e m r c=>?_,λ a=>?_⟩⟩
       .rw[xM,dX];grind
       .have f:d≠t:=λ w=>a k o ⟨by omega,G⟩ p l (by rw[z,w]);rw[xM,af f,xM,af f];grind
     |false=>
       have D:(lA.getD k (.dead,U)).1=y.1:=by rw[gE,H];rfl
       rw[D];cases z:o.dst with
       |none=>
         refine⟨B,λ t=>⟨λ i q e m r c=>(A t).1 i q ⟨?_,e.2⟩ m r c,λ a=>(A t).2 λ i q e=>a i q ⟨by omega,e.2⟩⟩⟩;grind
       |some d=>
         simp only[ic];refine⟨by rw[dX,dX,B],λ t=>⟨λ i q e m r c=>?_,λ a=>?_⟩⟩
         .have E:i≠k:=λ w=>by subst w;rw[p]at m;cases m;rw[l]at r;cases r
          obtain⟨_,R,x,s⟩:=h i q m r;rw[c]at x;cases x;have f:d≠t:=λ w=>s k o p (oO E) (by rw[z,w]);rw[xM,af f,dX];grind
         .grind [xM]
theorem rW{n:Nat}{b:aa (AV×ac St)}{a:S}{L:Nat->Bool}(h:∀k y,k<n->b[k]?=Z y->y.2=U):∀k,k<=n->(F (V ops) b a L k).σ=a.σ
 |0,_=>rfl
 |k+1,d=>by
   simp only[F];split
   .next o y _ c _=>rw[putS_σ _ _ _ (h k y (by omega) c)];exact rW h k (by omega)
   .exact rW h k (by omega)
theorem recB_σ{n nb:Nat}{lA lS:aa (AV×ac St)}(c:n<=ops.size):∀k y,k<n->(sU ops n nb lA lS)[k]?=Z y->y.2=U:=by
 intro k y d a;let⟨o,b⟩:=gW (ops:=ops) (k:=k);grind [Gg]
theorem qiZ{lo:Nat->Bool}{o:Oper}(h:cQ lo (eJ o).op=O):eJ o=o:=by
 unfold eJ at h |-
 split at h
 .cases h
 .rfl
theorem XW{n:Nat}{lA:aa (AV×ac St)}(s:n=ia C.lo (V ops))(l:vX C ⟨bo C.lo (V ops)⟩ lA){L:Nat->Bool}(v:∀(i:Nat) (q:Oper),i<n->ops[i]?=Z q->iV (V ops) q=Y->L i=O):∀k,k<=n->(F (bo C.lo (V ops)) lA s0 L k).σ=(F (bo C.lo (V ops)) lA s0 aR k).σ
 |0,_=>rfl
 |k+1,w=>by
   have h:ia C.lo (V ops)<=ops.size:=by simpa using AD C.lo (V ops)
   let⟨o,p⟩:=gW (ops:=ops) (k:=k);have m:ops.toList[k]?=Z o:=by simpa using p
   have c:(⟨bo C.lo (V ops)⟩:aM Oper)[k]?=Z (eJ o):=by
    grind [zP]
   let⟨y,_,t,j⟩:=iU (ops:=⟨bo C.lo (V ops)⟩) (s0:=s0) l c;have g:=XW s l v k (by omega);have f:=j L;have e:=j aR;show(F (V (⟨bo C.lo (V ops)⟩:aM Oper)) lA s0 L (k+1)).σ=(F (V (⟨bo C.lo (V ops)⟩:aM Oper)) lA s0 aR (k+1)).σ;rw[f,e,ag (show aR k=O from rfl)];cases b:y.2 with
   |none=>
     rw[putS_σ _ _ _ b];split
     .rw[putS_σ _ _ _ b];exact g
     .exact g
   |some σ'=>
     have a:=t (by rw[b];rfl);have d:=qiZ a
     have r:iV (V ops) o=Y:=by
      cases u:iV (V ops) o with
      |false=>rfl
      |true=>rw[d,JV u]at a;cases a
     grind [ck,turn]
def qx(n:Nat)(σ σ':St):Prop:=σ'.rw=σ.rw/\∀b,b<n->σ'.bx[b]?=σ.bx[b]?
theorem qkL{e:aa AV}{σ σ':St}{op:Op}{x:AV}(g:vV op=O)(j:qx (I σ.bx) σ σ')(h:opA C ex e σ op=Z (x,U)):opA C ex e σ' op=Z (x,U):=by
 unfold vV at g;split at g<;>try cases g
 .rename_i t a;simp only[opA,aC]at h |-
  split at h<;>try cases h
  rename_i d m
  have l:∀y,dN d σ (aev e a)=Z y->dN d σ' (aev e a)=Z y:=λ y c=>by
   cases f:aev e a with
   |ptr b o=>
     rw[f]at c;simp only[dN]at c |-
     cases k:σ.bx[b]? with
     |none=>rw[k]at c;cases c
     |some cs=>rw[j.2 b (getElem?_lt k)];exact c
   |rpt r i o n=>
     rw[f]at c;simp only[dN,j.1]at c |-;exact c
   |_=>rw[f]at c;exact c
  grind
 .next t a i=>have h:aC C e σ (.indexAddr t a i)=Z (x,U):=h;show aC C e σ' (.indexAddr t a i)=Z (x,U);rw[W3 j.1];exact h
theorem yR{n:Nat}:∀(a:aa Oper) (s c:S),cY C ex ops Y (a.filter bT) s=Z c->n<=I s.σ.bx->qx n s.σ c.σ
 |[],s,c,h,_=>by
   simp only[ZH,cY,dF]at h;subst h;exact⟨rfl,λ _ _=>rfl⟩
 |o::a,s,c,h,i=>by
   cases d:bT o with
   |false=>
     rw[O9 (by rw[d];exact mK)]at h;exact yR a s c h i
   |true=>
     rw[Pa d]at h;let⟨e,f⟩:=rK d;simp only[cY]at h;split at h
     .simp only[f,opA,aC]at h;cases j:C.ty e with
      |none=>rw[j]at h;cases h
      |some k=>
        rw[j]at h;simp only at h;cases g:k.zero.all bQ with
        |false=>rw[g]at h;cases h
        |true=>
          rw[g]at h;simp only[jz]at h;let⟨p,m⟩:=yR (n:=n) a _ c h (by show n<=I (s.σ.bx++[_]);rw[aU];omega);exact⟨p,λ b l=>by rw[m b l];show(s.σ.bx++[_])[b]?=_;rw[dY (by omega)]⟩
     .exact yR (n:=n) a ⟨ic s.tm o.dst xH,s.σ⟩ c h i
     .cases h
theorem qib(hC:dd P C)(hx:md P ex){id:Nat}{s N X s':S}(bv:rX C.lo (V ops)=O)(d9:oi C.lo ops=O)(hk:mq C.lo s.tm ⟨bo C.lo (V ops)⟩ O=O)(h:cY C ex ⟨bo C.lo (V ops)⟩ O (bo C.lo (V ops)) s=Z N)(hm:cY C ex ops Y (alL C.lo (V ops)) N=Z X)(h':cY C ex ops O (sL C.lo (V ops)) X=Z s'){a:Act}{Q:Exit->Act->ao->Prop}(hi:Inv Γ s.σ w)(ht:cv Γ s.tm a)
  (B:∀Γ' w' a',Ext Γ w Γ' w'->Inv Γ' s'.σ w'->cv Γ' s'.tm a'->bP s.σ s'.σ->a'.defers=a.defers->Q .normal a' w'):(Code.region id ops O).wp P Q a w:=by
 let⟨lA,h1,h2,h3,h4⟩:=zw (bo C.lo (V ops)) s N h;let⟨lS,e1,e2,e3,_⟩:=zw (sL C.lo (V ops)) X s' h';have hT:mY C ex ⟨bo C.lo (V ops)⟩ lA s:=Kl h3 h4;rw[FN]at h2;have hk:lm C.lo s.tm ⟨bo C.lo (V ops)⟩=O:=hk;let⟨fk,bp,bz⟩:=TR bv;generalize hn:ia C.lo (V ops)=n at h2 bp;have eo:n<=ops.size:=by rw[<-hn];simpa using AD C.lo (V ops)
 have hg:∀(j:Nat) (o:Oper),ops[j]?=Z o->bT o=O->o.guard=U:=λ j o R ha=>(bz j o R ha).1
 have ct:∀(j:Nat) (o:Oper),(ops.toList.take n)[j]?=Z o->0+j<n/\ops[0+j]?=Z o:=λ j o R=>by
  grind
 have a9:0+I (ops.toList.take n)=n:=by simp;omega
 have hm:cY C ex ops Y ((ops.toList.take n).filter bT) N=Z X:=by rw[<-hn];exact hm
 have d1:sL C.lo (V ops)=ops.toList.drop n:=by unfold sL;rw[hn]
 rw[d1]at e1 e2 e3
 have hz:∀k o e,k<ia C.lo (V ops)->ops[k]?=Z o->o.op=.alloc e->∃d,cH P e=Z d/\d.zero.all bQ=O:=λ k o e hk R c6=>by
  rw[hn]at hk;have d5:o∈ops.toList.take n:=aP (i:=k) (by rw[eX,ag hk];simpa using R)
  let⟨d,D,G⟩:=KO _ N hm (λ q B H=>by
   let⟨j,hj⟩:=lI B;exact hg (0+j) q (ct j q hj).2 H) o d5 e c6
  exact⟨d,hC.ty e d D,G⟩
 have a4:∀L:Nat->Bool,(∀(i:Nat) (q:Oper),i<n->ops[i]?=Z q->iV (V ops) q=Y->L i=O)->(F (bo C.lo (V ops)) lA s L n).σ=N.σ:=λ L hL=>by
  rw[XW hn.symm hT.recd hL n (al _),h2]
 have c9:∀k,F (bo C.lo (V ops)) lA s (λ i=>(Array.replicate ops.size Y).getD i Y) k=s:=by
  intro k
  induction k with
  |zero=>rfl
  |succ k ih=>
    simp only[F]
    have:(Array.replicate ops.size Y).getD k Y=Y:=by
     rw[jR,Bm];split<;>rfl
    rw[this];split
    .next hf=>cases hf
    .exact ih
 have an:∀i,(Array.replicate ops.size Y).getD i Y=Y:=λ i=>by
  rw[jR,Bm];split<;>rfl
 let nb:=I N.σ.bx;have cd:I N.σ.bx=idA nb ops 0:=rfl;let A:=sU ops n nb lA lS;let f:S:=⟨s.tm,X.σ⟩
 have W:∀k y,k<n->A[k]?=Z y->y.2=U:=recB_σ eo;have b9:∀L k,k<=n->M7 ops (λ i=>i<k/\L i=O) nb (F (bo C.lo (V ops)) lA s L k).tm (F (V ops) A f L k).tm:=Wf rfl hn.symm hT.recd bz
 have e5:F (V ops) A f aR n=X:=by
  have hr:=JW (nb:=nb) bz (ops.toList.take n) 0 N X ct a9 hm cd;have T:=b9 aR n (al _);rw[h2]at T;have dr:(F (V ops) A f aR n).σ=X.σ:=rW W n (al _)
  have f5:(F (V ops) A f aR n).tm=X.tm:=by
   have bs:(F (V ops) A f aR n).tm.length=I X.tm:=by rw[T.1,hr.1]
   have ec:∀t,(F (V ops) A f aR n).tm.getD t .dead=X.tm.getD t .dead:=λ t=>by
    by_cases a7:∃(k:Nat) (o:Oper),k<n/\ops[k]?=Z o/\bT o=O/\o.dst=Z t
    .let⟨k,o,q1,q2,q3,q4⟩:=a7;rw[(T.2 t).1 k o ⟨q1,rfl⟩ q2 q3 q4,(hr.2 t).1 k o ⟨aL _,q1⟩ q2 q3 q4]
    .rw[(T.2 t).2 λ k o hk q2 q3 q4=>a7 ⟨k,o,hk.1,q2,q3,q4⟩,(hr.2 t).2 λ k o hk q2 q3 q4=>a7 ⟨k,o,hk.2,q2,q3,q4⟩]
   apply List.ext_getElem bs;intro i D G;have:=ec i;grind
  show F (V ops) A f aR n=X;generalize F (V ops) A f aR n=z at *;let⟨z1,z2⟩:=z;simp_all
 have aE:∀i,i<=I (ops.toList.drop n)->F (V ops) A f aR (n+i)=F (ops.toList.drop n) lS X aR i:=by
  intro i
  induction i with
  |zero=>intro _;exact e5
  |succ i ih=>
    intro a6;show F (V ops) A f aR (n+i+1)=_;have hl:A[n+i]?=lS[i]?:=FU;simp only[F,mG,hl,ih (by omega)];rfl
 have bs:n+I (ops.toList.drop n)=ops.size:=by simp;omega
 have ed:F (V ops) A f aR ops.size=s':=by rw[<-bs,aE _ (al _)];exact e2
 have E:vX C ops A:=by
  intro i o R;have f9:i<ops.size:=(dW.1 R).1;by_cases fq:i<n
  .have hy:=Gg (nb:=nb) (lA:=lA) (lS:=lS) fq R;grind
  .obtain⟨j,rfl⟩:∃j,i=n+j:=⟨i-n,by omega⟩
   let⟨y,D,_,g3⟩:=e3 j o (by rw[mG];simpa using R);grind [FU]
 have cP:∀(L:Nat->Bool) (j:Nat) (o:Oper),ij ops L->(∀(i:Nat) (q:Oper),i<n->ops[i]?=Z q->iV (V ops) q=Y->L i=O)->ops[j]?=Z o->L j=Y->(∀e∈dM o,L e=O)->
   ∃y,iX C ex ops o (F (V ops) A f L ops.size) y/\F (V ops) A f (λ i=>J (i=j)||L i) ops.size=ck (F (V ops) A f L ops.size) o y:=by
  intro L j o hd b0 R hL hp;have f8:j<ops.size:=(dW.1 R).1;let⟨y,hy,fg⟩:=E j o R;refine⟨y,?_,Wk (s0:=f) E d9 hd R hL hp hy fg⟩;have a0:∀t∈iZ ops o,(F (V ops) A f L ops.size).tm.getD t .dead=(F (V ops) A f aR j).tm.getD t .dead:=λ t ht=>Fq (s0:=f) E d9 hd R hL hp ht;by_cases eb:j<n
  .-- it iZ at no memory
   have hf:iV (V ops) o=O:=by
    cases hf:iV (V ops) o with
    |true=>rfl
    |false=>rw[b0 j o eb R hf]at hL;cases hL
   let⟨f2,f3⟩:=Wj hf;have fa:ops.toList[j]?=Z o:=by simpa using R
   have eg:eJ o=o:=by unfold eJ;rw[f2]
   have e8:(bo C.lo (V ops))[j]?=Z o:=by
    rw[zP,fa];show Z (eJ o)=_;rw[eg]
   have c5:(⟨bo C.lo (V ops)⟩:aM Oper)[j]?=Z o:=by simpa using e8
   have el:ij ⟨bo C.lo (V ops)⟩ L:=by
    intro i q B f0 e he;obtain⟨fr,q',D,rfl⟩:=Ld (lo:=C.lo) (l:=V ops) (j:=i) (o:=q) (by simpa using B);rw[JO]at he;exact hd i q' (by simpa using D) f0 e he
   have cb:(⟨bo C.lo (V ops)⟩:aM Oper).size=n:=by show(bo C.lo (V ops)).length=n;rw[FN,hn]
   let⟨z,z1,zs,_⟩:=Va hT hk el c5 hL hp;rw[cb]at zs;let⟨z',q1,_,q3⟩:=hT.st j o c5;rw[z1]at q1;cases q1
   have b4:z.2=U:=by
    cases hc:z.2 with
    |none=>rfl
    |some τ=>have:=q3 (by rw[hc];rfl);rw[JV hf]at this;cases this
   have cs:y=z:=by
    have h0:=Gg (nb:=nb) (lA:=lA) (lS:=lS) eb R;rw[f2]at h0;have hz:lA.getD j (.dead,U)=z:=by rw[gE,z1];rfl
    simp only[hz]at h0;have hy:(sU ops n nb lA lS)[j]?=Z y:=hy;rw[h0]at hy;cases hy;rw[<-b4]
   subst cs
   have bb:∀t∈iZ ops o,(F (V ops) A f L ops.size).tm.getD t .dead=(F (bo C.lo (V ops)) lA s aR j).tm.getD t .dead:=λ t ht=>by
    rw[a0 t ht];refine((b9 aR j (by omega)).2 t).2 λ k q d8 B H b7=>?_;exact f3 q (aP (i:=k) (by simpa using B)) H t b7 ht
   have a5:∀t∈iZ ⟨bo C.lo (V ops)⟩ o,(F (bo C.lo (V ops)) lA s L n).tm.getD t .dead=(F (bo C.lo (V ops)) lA s aR j).tm.getD t .dead:=λ t ht=>by
    have:=Fq (s0:=s) hT.recd (EN hk) el c5 hL hp ht;rw[cb]at this;exact this
   have e0:=EF (ops:=⟨bo C.lo (V ops)⟩) (o:=o) a5
   have hw:∀b,dh ⟨bo C.lo (V ops)⟩ (F (bo C.lo (V ops)) lA s L n).tm o=Z b->dh ops (F (V ops) A f L ops.size).tm o=Z b:=λ b T=>by
    rw[EF bb];rw[e0]at T;exact FQ (by rw[eg];exact T)
   obtain⟨D,G⟩|⟨D,G⟩:=zs
   .refine .inl ⟨hw _ D,?_⟩
    have bl:∀τ,opA C ex (F (V ops) A f L ops.size).tm τ o.op=opA C ex (F (bo C.lo (V ops)) lA s L n).tm τ o.op:=λ τ=>Ll (C:=C) (ex:=ex) (op:=o.op) (σ:=τ) (Ke (xs:=V o.op.operands) λ t ht=>(bb t (by
     simp only[iZ,bc];exact .inl (.inr ht))).trans (a5 t (by
     simp only[iZ,bc];exact .inl (.inr ht))).symm)
    have G:opA C ex (F (bo C.lo (V ops)) lA s L n).tm (F (bo C.lo (V ops)) lA s L n).σ o.op=Z y:=G;rw[a4 L b0]at G;rw[bl];let⟨x,zz⟩:=y;have b4:zz=U:=b4;subst b4;have K:=hf;unfold iV at K;rw[gR]at K;obtain K|K:=K
    .unfold qn at K;simp only[aK,fF]at K;exact Vr K.1.1 (JV hf) G
    .-- it lies behind stores into the region's boxes alone
     have b8:vV o.op=O:=by
      unfold xV at K;rw[aK]at K;exact K.1
     refine qkL b8 ?_ G
     have fb:qn (V ops) o=Y:=by
      cases hc:qn (V ops) o with
      |false=>rfl
      |true=>
        unfold qn at hc;simp only[aK,fF]at hc;have:=hc.1.1;unfold vV at b8;split at b8
        .next e=>rw[e]at this;cases this
        .next e=>rw[e]at this;cases this
        .cases b8
     have d4:∀(m:Nat) (q:Oper),ops[n+m]?=Z q->L (n+m)=O->AT (V ops) q=O:=λ m q B az=>by
      obtain T|⟨_,q',bd,h'⟩:=bp (n+m) q B (by omega) j (by omega)
      .have:=qz hd (n+m) q B (hd (n+m) q B az) T;rw[hL]at this;cases this
      .rw[R]at bd;cases bd;obtain h'|⟨_,h'⟩:=h'
       .rw[fb]at h';cases h'
       .exact h'
     have ca:∀(m:Nat) (q:Oper),ops[n+m]?=Z q->L (n+m)=O->∀p,p<m->L (n+p)=O:=λ m q B az p d3=>by
      obtain T|⟨T,_⟩:=bp (n+m) q B (by omega) (n+p) (by omega)
      .exact qz hd (n+m) q B (hd (n+m) q B az) T
      .omega
     have b6:∀(k:Nat) (q:Oper) (d:Tmp),k<n->ops[k]?=Z q->bT q=O->q.dst=Z d->∀m,n+m<=ops.size->(F (V ops) A f aR (n+m)).tm.getD d .dead=.dead\/∃b,nb<=b/\(F (V ops) A f aR (n+m)).tm.getD d .dead=.ptr b 0:=λ k q d ax B H b7 m=>by
      induction m with
      |zero=>
        intro _;have:=((b9 aR n (al _)).2 d).1 k q ⟨ax,rfl⟩ B H b7;rw[dE,this];split
        .exact .inr ⟨_,by unfold idA;omega,rfl⟩
        .exact .inl rfl
      |succ m ih=>
        intro a6;let⟨q2,d2⟩:=gW (ops:=ops) (k:=n+m);let⟨y2,_,_,hF⟩:=iU (s0:=f) E d2;show(F (V ops) A f aR (n+m+1)).tm.getD d .dead=_\/∃b,nb<=b/\(F (V ops) A f aR (n+m+1)).tm.getD d .dead=_;let⟨_,d',em,e4⟩:=bz k q B H;rw[b7]at em;cases em;rw[hF aR,ag (show aR (n+m)=O from rfl),Ae _ _ _ _ (e4 (n+m) q2 d2 (by omega))];exact ih (by omega)
     have dk:∀m,n+m<=ops.size->(∀(p:Nat) (q:Oper),p<m->ops[n+p]?=Z q->AT (V ops) q=O)->qx nb N.σ (F (V ops) A f aR (n+m)).σ:=by
      intro m
      induction m with
      |zero=>
        intro _ _;rw[dE,rW W n (al _)];exact(yR (ops.toList.take n) N X hm (al _):qx nb N.σ X.σ)
      |succ m ih=>
        intro a6 cf;let⟨q,B⟩:=gW (ops:=ops) (k:=n+m);let⟨z,w1,w2,w3⟩:=e3 m q (by rw[mG];simpa using B);let⟨y2,u1,_,hF⟩:=iU (s0:=f) E B;have:A[n+m]?=lS[m]?:=FU;rw[this,w1]at u1;cases u1;rw[<-aE m (by omega)]at w2;have ih:=ih (by omega) λ p q d3=>cf p q (by omega);show qx nb N.σ (F (V ops) A f aR (n+m+1)).σ;rw[hF aR,ag (show aR (n+m)=O from rfl)];cases ar:z.2 with
        |none=>rw[putS_σ _ _ _ ar];exact ih
        |some b3=>
          have e:(ck (F (V ops) A f aR (n+m)) q z).σ=b3:=by simp[ck,ar,turn]
          rw[e];have bn:=cf m q (by omega) B;unfold AT at bn;split at bn<;>try cases bn
          rename_i t c v e9;rw[Ia]at bn;let⟨qa,e6,H⟩:=bn;rw[aK]at H;let⟨k,ax⟩:=lI e6;have ax:ops[k]?=Z qa:=by simpa using ax
          let⟨fu,d,ek,_⟩:=bz k qa ax H.1
          have fv:d=c:=by
           have:=H.2;unfold sD at this;rw[ek]at this;exact cg this
          subst fv;let⟨x2,eu⟩:=z;have ar:eu=Z b3:=ar;subst ar
          have fp:k<n:=by
           apply O6;intro f7;obtain⟨r,rfl⟩:∃r,k=n+r:=⟨k-n,by omega⟩
           have f6:n+r<ops.size:=(dW.1 ax).1;let⟨za,a1,a2,a3⟩:=e3 r qa (by rw[mG];simpa using ax);let⟨ea,ef⟩:=rK H.1;have fn:cQ C.lo qa.op=Y:=by rw[ef];rfl
           obtain⟨_,a2⟩|⟨a2,_⟩:=a2
           .rw[ef]at a2;simp only[opA,aC]at a2;split at a2<;>try cases a2
            split at a2<;>cases a2;have:=a3 rfl;rw[fn]at this;cases this
           .unfold dh at a2;rw[fu]at a2;cases a2
          have ab:=b6 k qa d fp ax H.1 ek m (by omega);obtain⟨_,w2⟩|⟨_,w2⟩:=w2
          .obtain⟨b,off,D,f1,g3⟩|⟨r',i',o',gb,D⟩:=Jc e9 w2
           .obtain ab|⟨b',fz,ab⟩:=ab
            .rw[ab]at D;cases D
            .rw[ab]at D;cases D;exact⟨f1.trans ih.1,λ b T=>by rw[g3 b (by omega)];exact ih.2 b T⟩
           .obtain ab|⟨b',fz,ab⟩:=ab<;>(rw[ab]at D;cases D)
          .cases w2
     have f4:∀m,n+m<=ops.size->qx nb N.σ (F (V ops) A f L (n+m)).σ:=by
      intro m
      induction m with
      |zero=>
        intro _;rw[dE,rW W n (al _)];exact(yR (ops.toList.take n) N X hm (al _):qx nb N.σ X.σ)
      |succ m ih=>
        intro a6;let⟨q,B⟩:=gW (ops:=ops) (k:=n+m);let⟨z,_,_,hF⟩:=iU (s0:=f) E B;show qx nb N.σ (F (V ops) A f L (n+m+1)).σ;rw[hF L];split
        .rename_i az;cases ar:z.2 with
         |none=>rw[putS_σ _ _ _ ar];exact ih (by omega)
         |some b3=>
           have ht:=dk (m+1) a6 λ p q' d3 bd=>d4 p q' bd (by
            by_cases e7:p=m
            .subst e7;exact az
            .exact ca m q B az p (by omega))
           have es:=hF aR;rw[ag (show aR (n+m)=O from rfl)]at es;have e:∀s:S,(ck s q z).σ=b3:=λ s=>by simp[ck,ar,turn]
           have ht:qx nb N.σ (F (V ops) A f aR (n+m+1)).σ:=ht;rw[es,e]at ht;rw[e];exact ht
        .exact ih (by omega)
     have:=f4 (ops.size-n) (by omega);rw[show n+(ops.size-n)=ops.size by omega]at this;exact this
   .exact .inr ⟨hw _ D,G⟩
  .obtain⟨i,rfl⟩:∃i,j=n+i:=⟨j-n,by omega⟩
   have ga:i<I (ops.toList.drop n):=by omega
   let⟨z,z1,z2,z3⟩:=e3 i o (by rw[mG];simpa using R)
   have cs:y=z:=by
    have:A[n+i]?=lS[i]?:=FU;rw[this,z1]at hy;cases hy;rfl
   subst cs;rw[<-aE i (by omega)]at z2
   have dr:(F (V ops) A f L ops.size).σ=(F (V ops) A f aR (n+i)).σ:=by
    have d7:∀m,n<=m->m<n+i->L m=O:=λ m d6 c7=>by
     obtain T|⟨T,_⟩:=bp (n+i) o R (by omega) m c7
     .exact qz hd (n+i) o R hp T
     .omega
    have c8:∀m,n+i<m->m<ops.size->L m=Y:=λ m d6 c7=>by
     let⟨q,B⟩:=gW (ops:=ops) (k:=m) c7;cases az:L m with
     |false=>rfl
     |true=>
       obtain T|⟨T,_⟩:=bp m q B (by omega) (n+i) d6
       .have:=qz hd m q B (hd m q B az) T;rw[hL]at this;cases this
       .omega
    have k1:∀m,m<=i->(F (V ops) A f L (n+m)).σ=(F (V ops) A f aR (n+m)).σ:=by
     intro m
     induction m with
     |zero=>intro _;rw[dE,rW W n (al _),rW W n (al _)]
     |succ m ih=>
       intro a6;let⟨q,B⟩:=gW (ops:=ops) (k:=n+m);let⟨y',_,_,hF⟩:=iU (s0:=f) E B;show(F (V ops) A f L (n+m+1)).σ=(F (V ops) A f aR (n+m+1)).σ;rw[hF L,hF aR,ag (d7 (n+m) (by omega) (by omega)),ag (show aR (n+m)=O from rfl)];show turn _ _=turn _ _;rw[ih (by omega)]
    have k2:∀m,n+i+m<=ops.size->(F (V ops) A f L (n+i+m)).σ=(F (V ops) A f L (n+i)).σ:=by
     intro m
     induction m with
     |zero=>intro _;rfl
     |succ m ih=>
       intro a6;let⟨q,B⟩:=gW (ops:=ops) (k:=n+i+m);let⟨y',_,_,hF⟩:=iU (s0:=f) E B;show(F (V ops) A f L (n+i+m+1)).σ=_
       have hf:L (n+i+m)=Y:=by
        cases m with
        |zero=>exact hL
        |succ m=>exact c8 _ (by omega) (by omega)
       rw[hF L,hf];simp only[wg,wh];exact ih (by omega)
    have:=k2 (ops.size-(n+i)) (by omega);rw[show n+i+(ops.size-(n+i))=ops.size by omega]at this;rw[this,k1 i (al _)]
   have ds:=EF (ops:=ops) (o:=o) a0
   have bl:=Ll (C:=C) (ex:=ex) (op:=o.op) (σ:=(F (V ops) A f L ops.size).σ) (Ke (xs:=V o.op.operands) λ t ht=>a0 t (by
    simp only[iZ,bc];exact .inl (.inr ht)))
   obtain⟨D,G⟩|⟨D,G⟩:=z2
   .refine .inl ⟨by rw[ds];exact D,?_⟩;rw[bl,dr];exact G
   .exact .inr ⟨by rw[ds];exact D,G⟩
 apply wp_region_any hC.mixed;refine qob hC hx hT hk bv hz (w0:=w) hn.symm ops.size _ Γ _ a (λ _=>0) (by simp) (by rw[yw,ZJ];simp) (λ i _=>an i) ?_ ?_ ?_ ?_ (al _) ?_
 .intro i q bd fr;grind
 .rw[c9];exact hi.drew
 .rw[c9];exact ht
 .exact⟨λ k o e d h=>(by rw[an]at h;cases h),λ k o e d u h=>(by rw[an]at h;cases h),λ k k' o o' h=>(by rw[an]at h;cases h)⟩
 .intro da g co w1 a1 et x1 x2 x3 x4 x5 x6 x7 x8 x9 a8 ez;have ev:Ext Γ w co w1:=(Ext.drew Γ w).trans x6
  have M:∀(k:Nat) (o:Oper),k<n->ops[k]?=Z o->bT o=O->g.getD k Y=O:=λ k o q1 q2 q3=>x4 k o q1 q2 (by
   cases hc:iV (V ops) o with
   |false=>rfl
   |true=>rw[(Wj hc).1]at q3;cases q3)
  have ba:oK P co w w1 ops (λ k=>0<=k/\k<n) a1 et:=⟨λ k o e d hh D G=>x9.blk k o e d (M k o hh.2 D (by simp[bT,G])) D G,λ k o e d u hh D G=>x9.tmp k o e d u (M k o hh.2 D (by simp[bT,G])) D G,λ k k' o o' hh fs D G g3 g4=>x9.inj k k' o o' (M k o hh.2 D g3) (M k' o' fs.2 G g4) D G g3 g4⟩
  rw[a4 _ x4]at x7;rw[a4 _ x4]at a8;have a8:bP s.σ N.σ:=by rw[c9]at a8;exact a8
  let⟨db,c0,c1,c2,c3,c4⟩:=KH hC (n:=n) (nb:=nb) (ad:=et) (ops.toList.take n) 0 N X N.σ co ct a9 hm hg rfl cd x7 ba ev
  have ep:F (V ops) A f (λ i=>g.getD i Y) ops.size=F (V ops) A f (λ i=>g.getD i Y) n:=by
   grind [XX]
  have cl:(F (V ops) A f (λ i=>g.getD i Y) ops.size).σ=X.σ:=by rw[ep];exact rW W n (al _)
  refine Xi hC hx (l:=A) (s0:=f) (Good:=λ L=>∀(i:Nat) (q:Oper),i<n->ops[i]?=Z q->iV (V ops) q=Y->L i=O) (λ L j hg i q q1 q2 q3=>by simp[hg i q q1 q2 q3]) fk cP da g db w1 a1 x1 x2 x5 x4 (by rw[cl];exact c2) ?_ ?_
  .-- the slots
   rw[ep];let⟨b1,b2⟩:=b9 (λ i=>g.getD i Y) n (al _);have d0:RepL db (F (bo C.lo (V ops)) lA s (λ i=>g.getD i Y) n).tm (V a1.tmps):=Ih c0 x8;refine⟨by rw[b1];exact d0.len,λ t x u hx hu=>?_⟩;have a9:=getElem?_lt hx;have b5:(F (V ops) A f (λ i=>g.getD i Y) n).tm.getD t .dead=x:=by rw[gE,hx];rfl
   by_cases a7:∃(k:Nat) (o:Oper),k<n/\ops[k]?=Z o/\bT o=O/\o.dst=Z t
   .let⟨k,o,q1,q2,q3,q4⟩:=a7;rw[(b2 t).1 k o ⟨q1,M k o q1 q2 q3⟩ q2 q3 q4,ag (by rw[<-b1];exact a9)]at b5;let⟨e,c6⟩:=rK q3;have hp:=ba.tmp k o e t u ⟨aL _,q1⟩ q2 c6 q4 (by simpa using hu);grind
   .rw[(b2 t).2 λ k o d8 q2 q3 q4=>a7 ⟨k,o,d8.1,q2,q3,q4⟩]at b5;have dT:t<(F (bo C.lo (V ops)) lA s (λ i=>g.getD i Y) n).tm.length:=by rw[<-b1];exact a9
    rw[gE,aV dT]at b5;exact d0.rep t x u (by rw[aV dT];exact aY Z b5) hu
  .intro Γ' w' a' D G g3 g4 g5;rw[ed]at G g3 g4;rw[cl]at g4;exact B Γ' w' a' (c1.trans D) G g3 (a8.trans (c3.trans g4)) (by rw[g5,ez])
end
end
section
open RowKit
def NG:AV->Bool
 |.rpt _ _ _ _|.ept _ _=>O
 |_=>Y
theorem Ya{o:Oper}{a:Tmp×bw}(h:stP o=Z a):(∃t,o.op=.store t (.tmp a.1) a.2)/\o.guard=U/\o.dst=U:=by
 grind [stP]
theorem qoh{o:Oper}{d:Tmp}(h:ixP o=Z d):(∃t x i,o.op=.indexAddr t x i)/\o.guard=U/\o.dst=Z d:=by
 grind [ixP]
theorem T3:∀{m b:Nat},wa m b=O->∀i,i<m->b.testBit i=O
 |0,_,_,i,a=>absurd a (eh _)
 |m+1,b,h,i,a=>by
   simp only[wa,aK]at h;obtain a|rfl:=Nat.lt_succ_iff_lt_or_eq.1 a
   .exact T3 h.2 i a
   .exact h.1
theorem Wh{ops:aM Oper}{e:Bool}{b:Tmp}(h:qL ops e=Z b):e=O/\∃p o q d f c,oz ops=[p,o,q]/\ixP p=Z d/\stP o=Z (d,f)/\stP q=Z (b,c)/\b≠d/\Hn d c=O/\M3 (fO (V ops) []) (I (V ops)-3) p o q=O:=by
 unfold qL at h;split at h
 .refine⟨rfl,?_⟩;unfold Yz at h;split at h
  .rename_i p o q i;split at h
   .rename_i d a m l k j;split at h
    .next g=>cases h;simp only[aK,fF]at g;grind [Nat.eq_of_beq_eq_true]
    .cases h
   .cases h
  .cases h
 .cases h
section
variable {P:aX}{C:Cfg}{Γ:Gh}{σ:St}{w:ao}{ops pre:aM Oper}{ex:dQ}{l:aa (AV×ac St)}{s0:S}
theorem NA{g:aa AV}{σ':St}{t:aO}{a:Tmp}{v:bw}{b off:Nat}{x:AV}{z:ac St}(h:opA C ex g σ (.store t (.tmp a) v)=Z (x,z))(m:g.getD a .dead=.ptr b off):
  ∃cs,z=Z {σ with bx:=σ.bx.set b cs,wr:=b::σ.wr}/\∀(c:aa AV) (τ:St),aev c (.tmp a)=aev g (.tmp a)->aev c v=aev g v->τ.bx=σ.bx->opA C ex c τ (.store t (.tmp a) v)=Z (x,Z {τ with bx:=τ.bx.set b cs,wr:=b::τ.wr}):=by
 have k:aev g (.tmp a)=.ptr b off:=m;simp only[opA,aC,k]at h;cases j:C.ty t with
 |none=>rw[j]at h;cases h
 |some d=>
   rw[j]at h;simp only at h;cases f:σ.bx[b]? with
   |none=>rw[f]at h;cases h
   |some cs=>
     rw[f]at h;simp only at h;split at h<;>cases h;rename_i l;refine⟨_,rfl,λ c τ o n i=>?_⟩;have e:τ.bx[b]?=Z cs:=by rw[i];exact f
     simp only[opA,aC,o,n,k,j,e,l]
theorem NQ{a:aa AV}{t:aO}{u i:bw}{x:AV}{z:ac St}(b:yq (aev a u)=Y)(h:opA C ex a σ (.indexAddr t u i)=Z (x,z)):
  z=U/\NG x=O/\∀τ:St,τ.rw=σ.rw->opA C ex a τ (.indexAddr t u i)=Z (x,U):=by
 have c:∀τ:St,τ.rw=σ.rw->opA C ex a τ (.indexAddr t u i)=Z (x,z):=λ τ d=>by
  simp_all [opA,aC]
 have f:z=U/\NG x=O:=by
  simp only[opA,aC]at h
  repeat' split at h
  all_goals first|(cases h;done)|(cases h;exact⟨rfl,rfl⟩)|(rename_i e _ _;rw[e]at b;cases b)|(exfalso;simp_all [yq];done)
 grind
theorem Y1{b:aa AV}{t:aO}{a:Tmp}{v:bw}{y:AV}{x:AV}{z:ac St}(h:opA C ex b σ (.store t (.tmp a) v)=Z (x,z))(o:b.getD a .dead=y)(m:NG y=O):
  ∃r R,z=Z {σ with rw:=σ.rw.set r R,wrr:=r::σ.wrr}/\∀τ:St,τ.rw=σ.rw->opA C ex b τ (.store t (.tmp a) v)=Z (x,Z {τ with rw:=τ.rw.set r R,wrr:=r::τ.wrr}):=by
 have n:aev b (.tmp a)=y:=o;cases y with
 |rpt j k f e=>
   simp only[opA,aC,n]at h;cases g:C.ty t with
   |none=>rw[g]at h;cases h
   |some d=>
     rw[g]at h;simp only at h;cases i:σ.rw[j]? with
     |none=>rw[i]at h;cases h
     |some R=>
       rw[i]at h;simp only at h;cases c:ya R k f e d.size (cellsOf (aev b v))with
       |none=>rw[c]at h;cases h
       |some R'=>
         rw[c]at h;cases h;refine⟨_,_,rfl,λ τ l=>?_⟩;simp_all [opA,aC]
 |ept p f=>
   simp_all [opA,aC]
 |_=>cases m
theorem VH{a:aa AV}{o:Oper}{b:Bool}(c:∀(i:Nat) (q:Oper),pre[i]?=Z q->ops[i]?=Z q)(h:dh pre a o=Z b):dh ops a o=Z b:=by
 grind [dh]
def g3(f e c d b a:S):Bool->Bool->Bool->S
 |O,O,O=>a
 |O,O,Y=>b
 |O,Y,_=>d
 |Y,O,O=>c
 |Y,O,Y=>e
 |Y,Y,_=>f
def G3(pre:aM Oper)(l:aa (AV×ac St))(s0 e c d b a:S)(L:Nat->Bool):S:=g3 (F (V pre) l s0 L pre.size) e c d b a (L (pre.size+2)) (L pre.size) (L (pre.size+1))
theorem iG{h f g e d:S}{L:Nat->Bool}{a b c:Bool}(k:L (pre.size+2)=a)(j:L pre.size=b)(i:L (pre.size+1)=c):G3 pre l s0 h f g e d L=g3 (F (V pre) l s0 L pre.size) h f g e d a b c:=by
 unfold G3;rw[k,j,i]
theorem SB{b:aa AV}{t:aO}{a:Tmp}{v:bw}{y:AV×ac St}(h:opA C ex b σ (.store t (.tmp a) v)=Z y):a<I b:=by
 apply ZK;intro c
 have d:aev b (.tmp a)=.dead:=by
  show b.getD a .dead=.dead;grind
 simp_all [opA,aC]
theorem qmJ{a:aa AV}{d:Tmp}{x:AV}{v:bw}(h:Hn d v=O):aev (a.set d x) v=aev a v:=by
 cases v with
 |tmp t=>
   have b:d≠t:=λ c=>by rw[c]at h;simp[Hn]at h
   show(a.set d x).getD t .dead=a.getD t .dead;grind
 |_=>rfl
theorem qik(hC:dd P C)(hx:md P ex){id:Nat}{s g s':S}{b:Tmp}(c5:qL ops O=Z b)(hk:mq C.lo s.tm (jL ops) O=O)(h1:cY C ex (jL ops) O (V (jL ops)) s=Z g)(az:vY g.tm ops b=O)
  (h2:cY C ex ops O (oz ops) g=Z s') {a:Act}{Q:Exit->Act->ao->Prop} (hi:Inv Γ s.σ w) (ht:cv Γ s.tm a)
  (hq:∀Γ' w' a',Ext Γ w Γ' w'->Inv Γ' s'.σ w'->cv Γ' s'.tm a'->bP s.σ s'.σ->a'.defers=a.defers->Q .normal a' w'):(Code.region id ops O).wp P Q a w:=by
 obtain⟨_,p,o,q,d,v6,v7,b0,c7,c8,c6,d5,cf,cd⟩:=Wh c5;obtain⟨⟨t5,u5,i5,W⟩,dk,b3⟩:=qoh c7;obtain⟨⟨t6,ar⟩,db,b2⟩:=Ya c8;obtain⟨⟨t7,T⟩,da,b1⟩:=Ya c6;unfold vY at az;rw[aK]at az;obtain⟨az,M⟩:=az
 have M:yq (aev g.tm u5)=Y:=by
  grind [Nk]
 simp only[M3,aK,bJ]at cd;obtain⟨k1,k2,k3,k4,k5,k6⟩:=cd;obtain⟨pre,a3⟩:∃pre,pre=jL ops:=⟨_,rfl⟩
 rw[<-a3]at hk h1
 have ct:I (V ops)=(I (V ops)-3)+3:=by
  have:I (oz ops)=3:=by rw[b0];rfl
  grind [oz]
 have ca:pre.size=I (V ops)-3:=by
  rw[a3];show(ops.toList.take (I (V ops)-3)).toArray.size=_;grind
 have an:V ops=V pre++[p,o,q]:=by
  rw[a3,<-b0];exact(oP _ _).symm
 rw[<-ca]at k1 k2 k3 k4 k5 k6;obtain⟨m,u⟩:∃m,m=pre.size:=⟨_,rfl⟩
 have co:m=I (V pre):=by rw[u,jg]
 rw[<-u]at k1 k2 k3 k4 k5 k6;have bn:ops.size=m+3:=by rw[<-jg,ct,u,ca]
 have a2:∀i r,pre[i]?=Z r->ops[i]?=Z r:=λ i r hr=>by
  have hi:i<I (V pre):=by rw[jg];exact(dW.1 hr).1
  rw[<-jh,an,dY hi,jh];exact hr
 have bp:∀i r,i<m->ops[i]?=Z r->pre[i]?=Z r:=λ i r hi hr=>by
  grind
 have b5:∀n,ops[m+n]?=[p,o,q][n]?:=λ n=>by
  rw[<-jh,an,dy (by rw[<-co];exact kM _ _),<-co,th]
 have a9:ops[m]?=Z p:=b5 0;have ba:ops[m+1]?=Z o:=b5 1;have a8:ops[m+2]?=Z q:=b5 2;obtain⟨l,l1,l2,l3,l4⟩:=zw (V pre) s g h1;have hT:mY C ex pre l s:=Kl l3 l4;rw[jg]at l2;have cP:lm C.lo s.tm pre=O:=hk;have X:∀tm,dh ops tm p=Z O:=λ tm=>by unfold dh;rw[dk]
 have ab:∀tm,dh ops tm o=Z O:=λ tm=>by unfold dh;rw[db]
 have K:∀tm,dh ops tm q=Z O:=λ tm=>by unfold dh;rw[da]
 cases cb:g.tm.getD b .dead with
 |ptr bb off=>
   have b4:∀x,(g.tm.set d x).getD b .dead=.ptr bb off:=λ x=>by
    grind
   rw[b0]at h2
   obtain⟨H,x6,a0,x7,bv,y5,y6,y7,rfl⟩:∃H x6 a0 x7 bv,opA C ex g.tm g.σ p.op=Z (H,U)/\opA C ex (g.tm.set d H) g.σ o.op=Z (x6,Z a0)/\opA C ex (g.tm.set d H) a0 q.op=Z (x7,Z bv)/\s'=⟨g.tm.set d H,bv⟩:=by
    simp only[cY,X,ab,K]at h2;split at h2<;>try cases h2
    .rename_i H e5;rw[b3]at h2;simp only[ic]at h2;have bz:=(NQ M (by rw[W]at e5;exact e5)).2.1;split at h2<;>try cases h2
     .rename_i x6 e6;have e6:=e6;rw[ar]at e6;have a4:=SB e6;rw[dX]at a4;have hv:(g.tm.set d H).getD d .dead=H:=by rw[gE,gh a4];rfl
      obtain⟨_,_,h,_⟩:=Y1 e6 hv bz;cases h
     .rename_i x6 a0 e6;split at h2<;>try cases h2
      rw[b2]at h2;simp only at h2;split at h2<;>try cases h2
      .next x7 e7=>obtain⟨_,h,_⟩:=NA (σ':=a0) (by rw[T]at e7;exact e7) (b4 H);cases h
      .grind
    .next H d3 e5=>have:=(NQ M (by rw[W]at e5;exact e5)).1;cases this
   rw[W]at y5;rw[ar]at y6;rw[T]at y7;obtain⟨_,bz,g5⟩:=NQ M y5;have a4:=SB y6;rw[dX]at a4;have c4:(g.tm.set d H).getD d .dead=H:=by rw[gE,gh a4];rfl
   obtain⟨r,R,z6,g6⟩:=Y1 y6 c4 bz;cases z6;obtain⟨cs,z7,g7⟩:=NA (σ':=g.σ) y7 (b4 H);cases z7
   have eb:aev g.tm (.tmp b)=aev (g.tm.set d H) (.tmp b):=by
    show g.tm.getD b .dead=(g.tm.set d H).getD b .dead;rw[b4,cb]
   have ev:aev g.tm v7=aev (g.tm.set d H) v7:=(qmJ cf).symm;obtain⟨B,bl⟩:∃B:S,B=⟨g.tm.set d H,g.σ⟩:=⟨_,rfl⟩
   obtain⟨v,bd⟩:∃v:S,v=⟨g.tm.set d H,{g.σ with rw:=g.σ.rw.set r R,wrr:=r::g.σ.wrr}⟩:=⟨_,rfl⟩
   obtain⟨D,b6⟩:∃D:S,D=⟨g.tm,{g.σ with bx:=g.σ.bx.set bb cs,wr:=bb::g.σ.wr}⟩:=⟨_,rfl⟩
   obtain⟨t,ax⟩:∃t:S,t=⟨g.tm.set d H,{g.σ with bx:=g.σ.bx.set bb cs,wr:=bb::g.σ.wr}⟩:=⟨_,rfl⟩
   obtain⟨f,ad⟩:∃f:S,f=⟨g.tm.set d H,{g.σ with rw:=g.σ.rw.set r R,wrr:=r::g.σ.wrr,bx:=g.σ.bx.set bb cs,wr:=bb::g.σ.wr}⟩:=⟨_,rfl⟩
   have a5:iX C ex ops p g (H,U):=.inl ⟨X _,by rw[W];exact y5⟩;have d2:iX C ex ops p D (H,U):=.inl ⟨X _,by rw[W,b6];exact g5 _ rfl⟩;have a6:iX C ex ops o B (x6,Z {g.σ with rw:=g.σ.rw.set r R,wrr:=r::g.σ.wrr}):=.inl ⟨ab _,by rw[ar,bl];exact y6⟩;have d0:iX C ex ops o t (x6,Z {g.σ with rw:=g.σ.rw.set r R,wrr:=r::g.σ.wrr,bx:=g.σ.bx.set bb cs,wr:=bb::g.σ.wr}):=.inl ⟨ab _,by rw[ar,ax];exact g6 _ rfl⟩;have a7:iX C ex ops q g (x7,Z {g.σ with bx:=g.σ.bx.set bb cs,wr:=bb::g.σ.wr}):=.inl ⟨K _,by rw[T];exact g7 _ _ eb ev rfl⟩;have dT:iX C ex ops q B (x7,Z {g.σ with bx:=g.σ.bx.set bb cs,wr:=bb::g.σ.wr}):=.inl ⟨K _,by rw[T,bl];exact g7 _ _ rfl rfl rfl⟩;have c1:iX C ex ops q v (x7,Z {g.σ with rw:=g.σ.rw.set r R,wrr:=r::g.σ.wrr,bx:=g.σ.bx.set bb cs,wr:=bb::g.σ.wr}):=.inl ⟨K _,by rw[T,bd];exact y7⟩;have aE:∀{L:Nat->Bool}{n j:Nat}{o':Oper},ij ops L->ops[j]?=Z o'->(∀e∈dM o',L e=O)->wa n ((fO (V ops) []).getD j 0)=O->∀i,i<n->L i=O:=λ hd ho hp hb i hi=>qz hd _ _ ho hp (T3 hb i hi);have bs:∀{L:Nat->Bool},(∀i,i<m->L i=O)->F (V pre) l s L pre.size=g:=λ h=>by rw[<-l2];exact G1 _ λ i hi=>h i (by rw[u];exact hi)
   have ds:∀k,F (V pre) l s (λ i=>(Array.replicate ops.size Y).getD i Y) k=s:=by
    intro k
    induction k with
    |zero=>rfl
    |succ k ih=>
      simp only[F]
      have:(Array.replicate ops.size Y).getD k Y=Y:=by
       rw[jR,Bm];split<;>rfl
      rw[this];split
      .next hf=>cases hf
      .exact ih
   have a1:∀i,(Array.replicate ops.size Y).getD i Y=Y:=λ i=>by
    rw[jR,Bm];split<;>rfl
   have b9:G3 pre l s B v D t f (λ i=>(Array.replicate ops.size Y).getD i Y)=s:=by
    rw[iG (a1 _) (a1 _) (a1 _)];exact ds _
   have c0:G3 pre l s B v D t f aR=f:=iG (a:=O) (b:=O) (c:=O) rfl rfl rfl;have A:∀(L:Nat->Bool) (j i:Nat),i≠j->(J (i=j)||L i)=L i:=λ L j i h=>by rw[gj h,pM]
   have E:∀(L:Nat->Bool) (j:Nat),(J (j=j)||L j)=O:=λ L j=>by rw[cO rfl,nO]
   apply wp_region_any hC.mixed;refine Xb (G:=G3 pre l s B v D t f) (Good:=λ _=>True) hC hx (λ _ _ _=>trivial) (λ j o' z e he=>?_) (λ L N=>?_) (λ L j o' hd _ z N hp=>?_) ops.size _ Γ _ a (by simp) (by rw[yw,ZJ];simp) ?_ trivial ?_ ?_ ?_
   .have c9:j<m+3:=by rw[<-bn];exact(dW.1 z).1
    by_cases hj:j<m
    .exact(El cP).1 j o' (bp j o' hj z) e he
    .obtain rfl|rfl|rfl:j=m\/j=m+1\/j=m+2:=by omega
     .rw[a9]at z;cases z;exact nT (k1 e he)
     .rw[ba]at z;cases z;exact nT (k2 e he)
     .rw[a8]at z;cases z;have:=nT (k3 e he);omega
   .rw[c0];exact iG (a:=O) (b:=O) (c:=O) (N _ (by omega)) (N _ (by omega)) (N _ (by omega))
   .have c9:j<m+3:=by rw[<-bn];exact(dW.1 z).1
    have d1:L (m+1)=O->L m=O:=λ h=>aE hd ba (hd (m+1) o ba h) k5 m (tk m);by_cases hj:j<m
    .have cl:=bp j o' hj z
     have n5:L m=Y:=by
      cases b7:L m with
      |false=>rfl
      |true=>rw[aE hd a9 (hd m p a9 b7) k4 j hj]at N;cases N
     have n7:L (m+2)=Y:=by
      cases b7:L (m+2)with
      |false=>rfl
      |true=>rw[aE hd a8 (hd (m+2) q a8 b7) k6 j hj]at N;cases N
     have dr:ij pre L:=λ i r hr hi e he=>hd i r (a2 i r hr) hi e he;obtain⟨y,c3,c2⟩:=KN hT cP dr cl N hp
     have e1:G3 pre l s B v D t f L=F (V pre) l s L pre.size:=by
      exact iG (a:=Y) (b:=Y) (c:=L (pre.size+1)) (by rw[<-u];exact n7) (by rw[<-u];exact n5) rfl
     have e2:G3 pre l s B v D t f (λ i=>J (i=j)||L i)=F (V pre) l s (λ i=>J (i=j)||L i) pre.size:=by
      exact iG (L:=λ i=>J (i=j)||L i) (a:=Y) (b:=Y) (c:=_) (by show(J (_=j)||L _)=Y;rw[A _ _ _ (by omega),<-u];exact n7) (by show(J (_=j)||L _)=Y;rw[A _ _ _ (by omega),<-u];exact n5) rfl
     rw[e1,e2];refine⟨y,?_,c2⟩;rcases c3 with⟨w1,w2⟩|⟨w1,w2⟩
     .exact .inl ⟨VH a2 w1,w2⟩
     .exact .inr ⟨VH a2 w1,w2⟩
    .obtain rfl|rfl|rfl:j=m\/j=m+1\/j=m+2:=by omega
     .rw[a9]at z;cases z;have b8:=aE hd a9 hp k4
      have n6:L (j+1)=Y:=by
       cases h:L (j+1)with
       |false=>rfl
       |true=>rw[d1 h]at N;cases N
      cases hn:L (j+2)with
      |false=>
        have e1:G3 pre l s B v D t f L=g:=by
         exact(iG (a:=Y) (b:=Y) (c:=Y) (by rw[<-u];exact hn) (by rw[<-u];exact N) (by rw[<-u];exact n6)).trans (bs b8)
        have e2:G3 pre l s B v D t f (λ i=>J (i=j)||L i)=B:=
         iG (L:=λ i=>J (i=j)||L i) (a:=Y) (b:=O) (c:=Y) (by rw[<-u];show(J (_=j)||L _)=Y;rw[A _ _ _ (by omega)];exact hn) (by rw[<-u];exact E L j) (by rw[<-u];show(J (_=j)||L _)=Y;rw[A _ _ _ (by omega)];exact n6)
        rw[e1,e2];refine⟨_,a5,?_⟩;rw[bl,ck,b3];rfl
      |true=>
        have e1:G3 pre l s B v D t f L=D:=
         iG (a:=O) (b:=Y) (c:=Y) (by rw[<-u];exact hn) (by rw[<-u];exact N) (by rw[<-u];exact n6)
        have e2:G3 pre l s B v D t f (λ i=>J (i=j)||L i)=t:=
         iG (L:=λ i=>J (i=j)||L i) (a:=O) (b:=O) (c:=Y) (by rw[<-u];show(J (_=j)||L _)=O;rw[A _ _ _ (by omega)];exact hn) (by rw[<-u];exact E L j) (by rw[<-u];show(J (_=j)||L _)=Y;rw[A _ _ _ (by omega)];exact n6)
        rw[e1,e2];refine⟨_,d2,?_⟩;rw[ax,b6,ck,b3];rfl
     .rw[ba]at z;cases z;have h5:=aE hd ba hp k5 m (tk m);cases hn:L (m+2)with
      |false=>
        have e1:G3 pre l s B v D t f L=B:=
         iG (a:=Y) (b:=O) (c:=Y) (by rw[<-u];exact hn) (by rw[<-u];exact h5) (by rw[<-u];exact N)
        have e2:G3 pre l s B v D t f (λ i=>J (i=m+1)||L i)=v:=
         iG (L:=λ i=>J (i=m+1)||L i) (a:=Y) (b:=O) (c:=O) (by rw[<-u];show(J (_=m+1)||L _)=Y;rw[A _ _ _ (by omega)];exact hn) (by rw[<-u];show(J (_=m+1)||L _)=O;rw[A _ _ _ (by omega)];exact h5) (by rw[<-u];exact E L (m+1))
        rw[e1,e2];refine⟨_,a6,?_⟩;rw[bd,bl,ck,b2];rfl
      |true=>
        have e1:G3 pre l s B v D t f L=t:=
         iG (a:=O) (b:=O) (c:=Y) (by rw[<-u];exact hn) (by rw[<-u];exact h5) (by rw[<-u];exact N)
        have e2:G3 pre l s B v D t f (λ i=>J (i=m+1)||L i)=f:=
         iG (L:=λ i=>J (i=m+1)||L i) (a:=O) (b:=O) (c:=O) (by rw[<-u];show(J (_=m+1)||L _)=O;rw[A _ _ _ (by omega)];exact hn) (by rw[<-u];show(J (_=m+1)||L _)=O;rw[A _ _ _ (by omega)];exact h5) (by rw[<-u];exact E L (m+1))
        rw[e1,e2];refine⟨_,d0,?_⟩;rw[ad,ax,ck,b2];rfl
     .rw[a8]at z;cases z;have b8:=aE hd a8 hp k6;cases h5:L m with
      |false=>
        have n6:L (m+1)=Y:=by
         cases h:L (m+1)with
         |false=>rfl
         |true=>rw[d1 h]at h5;cases h5
        have e1:G3 pre l s B v D t f L=g:=by
         exact(iG (a:=Y) (b:=Y) (c:=Y) (by rw[<-u];exact N) (by rw[<-u];exact h5) (by rw[<-u];exact n6)).trans (bs b8)
        have e2:G3 pre l s B v D t f (λ i=>J (i=m+2)||L i)=D:=
         iG (L:=λ i=>J (i=m+2)||L i) (a:=O) (b:=Y) (c:=Y) (by rw[<-u];exact E L (m+2)) (by rw[<-u];show(J (_=m+2)||L _)=Y;rw[A _ _ _ (by omega)];exact h5) (by rw[<-u];show(J (_=m+2)||L _)=Y;rw[A _ _ _ (by omega)];exact n6)
        rw[e1,e2];refine⟨_,a7,?_⟩;rw[b6,ck,b1];rfl
      |true=>
        cases h6:L (m+1)with
        |false=>
          have e1:G3 pre l s B v D t f L=B:=
           iG (a:=Y) (b:=O) (c:=Y) (by rw[<-u];exact N) (by rw[<-u];exact h5) (by rw[<-u];exact h6)
          have e2:G3 pre l s B v D t f (λ i=>J (i=m+2)||L i)=t:=
           iG (L:=λ i=>J (i=m+2)||L i) (a:=O) (b:=O) (c:=Y) (by rw[<-u];exact E L (m+2)) (by rw[<-u];show(J (_=m+2)||L _)=O;rw[A _ _ _ (by omega)];exact h5) (by rw[<-u];show(J (_=m+2)||L _)=Y;rw[A _ _ _ (by omega)];exact h6)
          rw[e1,e2];refine⟨_,dT,?_⟩;rw[ax,bl,ck,b1];rfl
        |true=>
          have e1:G3 pre l s B v D t f L=v:=
           iG (a:=Y) (b:=O) (c:=O) (by rw[<-u];exact N) (by rw[<-u];exact h5) (by rw[<-u];exact h6)
          have e2:G3 pre l s B v D t f (λ i=>J (i=m+2)||L i)=f:=
           iG (L:=λ i=>J (i=m+2)||L i) (a:=O) (b:=O) (c:=O) (by rw[<-u];exact E L (m+2)) (by rw[<-u];show(J (_=m+2)||L _)=O;rw[A _ _ _ (by omega)];exact h5) (by rw[<-u];show(J (_=m+2)||L _)=O;rw[A _ _ _ (by omega)];exact h6)
          rw[e1,e2];refine⟨_,c1,?_⟩;rw[ad,bd,ck,b1];rfl
   .intro i r hr d4;grind
   .rw[b9];exact hi.drew
   .rw[b9];exact ht
   .intro Γ' w' a' g1 g2 g3 g4 g5;rw[b9]at g4;rw[c0,ad]at g2 g3 g4;exact hq Γ' w' a' ((Ext.drew Γ w).trans g1) g2 g3 g4 g5
 |_=>rw[cb]at az;cases az
end
end
section
open RowKit
section
variable {P:aX}{C:Cfg}{Γ:Gh}{σ:St}{w:ao}{ops:aM Oper}{ex:dQ}{l:aa (AV×ac St)}{s0:S}
theorem qos(q:dd P C)(k:md P ex)(o:mY C ex ops l s0)(j:lm C.lo s0.tm ops=O){Q:Exit->Act->ao->Prop}:∀(d:Nat) (c:aM Bool) (Γ:Gh) (w:ao) (a:Act),c.size=ops.size->c.toList.countP (λ b => !b)=d->ij ops (λ i=>c.getD i Y)->
  Inv Γ (F (V ops) l s0 (λ i=>c.getD i Y) ops.size).σ w->cv Γ (F (V ops) l s0 (λ i=>c.getD i Y) ops.size).tm a->
  (∀Γ' w' h,Ext Γ w Γ' w'->Inv Γ' (F (V ops) l s0 aR ops.size).σ w'->cv Γ' (F (V ops) l s0 aR ops.size).tm h->bP (F (V ops) l s0 (λ i=>c.getD i Y) ops.size).σ (F (V ops) l s0 aR ops.size).σ->h.defers=a.defers->Q .normal h w')->
  wpAny P .any ops Q d c a w:=
 λ d c Γ w a e g f=>Xi q k (Good:=λ _=>True) (λ _ _ _=>trivial) (El j).1 (λ _ _ _ f _ n p m=>KN o j f n p m) d c Γ w a e g f trivial
theorem qi5(g:dd P C)(m:md P ex){id:Nat}{b:Bool}{s d:S}(f:mq C.lo s.tm ops b=O)(h:cY C ex ops b (V ops) s=Z d){a:Act}{Q:Exit->Act->ao->Prop}(p:Inv Γ s.σ w)(n:cv Γ s.tm a)
  (o:∀Γ' w' e,Ext Γ w Γ' w'->Inv Γ' d.σ w'->cv Γ' d.tm e->bP s.σ d.σ->e.defers=a.defers->Q .normal e w'):(Code.region id ops b).wp P Q a w:=by
 cases b with
 |false=>
   apply wp_region;have:=Ms g m (ops:=ops) (V ops) 0 s Γ w a (by simp) h p n o;rw[jg,<-List.range_eq_range']at this;exact this
 |true=>
   let⟨l,G,r,B,A⟩:=zw (V ops) s d h;have z:mY C ex ops l s:=Kl B A;rw[jg]at r;have f:lm C.lo s.tm ops=O:=f
   have c:∀k,F (V ops) l s (λ i=>(Array.replicate ops.size Y).getD i Y) k=s:=by
    intro k
    induction k with
    |zero=>rfl
    |succ k u=>
      simp only[F]
      have:(Array.replicate ops.size Y).getD k Y=Y:=by
       rw[jR,Bm];split<;>rfl
      rw[this];split
      .next y=>cases y
      .exact u
   apply wp_region_any g.mixed;refine qos g m z f ops.size _ Γ _ a (by simp) (by rw[yw,ZJ];simp) ?_ ?_ ?_ ?_
   .intro i q v x;exfalso
    have:(Array.replicate ops.size Y).getD i Y=Y:=by
     rw[jR,Bm];split<;>rfl
    grind
   .rw[c];exact p.drew
   .rw[c];exact n
   .intro Γ' w' e E t g3 j D;rw[c]at j;rw[r]at t g3 j;exact o Γ' w' e ((Ext.drew Γ w).trans E) t g3 j D
def COk(P:aX)(ex:dQ)(c:Code):Prop:=
 ∀s e b,iD c=O->ex c s=Z (e,b)->∀Γ w a,Inv Γ s.σ w->cv Γ s.tm a->a.defers=[]->
  c.wp P (λ f d w'=>f=e.toExit/\d.defers=[]/\∃Γ',Ext Γ w Γ' w'/\Inv Γ' b.σ w'/\cv Γ' b.tm d/\bP s.σ b.σ) a w
theorem qnJ{s:S}{a:Act}(g:Inv Γ s.σ w)(f:cv Γ s.tm a)(t:Nat):
  ∃Γ',Ext Γ w Γ' w/\Inv Γ' (io s t).σ w/\cv Γ' (io s t).tm a/\bP s.σ (io s t).σ:=by
 unfold io;cases v:rsA (s.tm.getD t .dead)with
 |nil=>exact⟨Γ,.refl _ _,g,f,.refl _⟩
 |cons r l=>
   let⟨m,h,p,o⟩:=pU (r::l) g ((r::l)++s.σ.wrr);refine⟨_,xx h w,p,?_,J7 (r::l)⟩;have n:Le Γ {Γ with mem:=m}:=(xx h w).le;have k:=Mc g n (λ q y=>o q (by rw[<-v];exact y)) (f.get t);have c:RepL {Γ with mem:=m} s.tm (V a.tmps):=Ih n f;refine⟨by rw[dX];exact c.len,λ i x u b j=>?_⟩;by_cases d:t=i
   .subst d;rw[gh (by have:=getElem?_lt b;simpa using this)]at b;cases b
    have:a.tmps.getD t undef=u:=by
     rw[jR,<-jh,j];rfl
    rw[this]at k;exact k
   .rw[jA d]at b;exact c.rep i x u b j
theorem V1{a:Act}:∀(ts:aa Nat) {s:S}{Γ:Gh},Inv Γ s.σ w->cv Γ s.tm a->
  ∃Γ',Ext Γ w Γ' w/\Inv Γ' (kH ts s).σ w/\cv Γ' (kH ts s).tm a/\bP s.σ (kH ts s).σ
 |[],s,Γ,d,c=>⟨Γ,.refl _ _,d,c,.refl _⟩
 |t::ts,s,Γ,d,c=>by
   let⟨e,m,l,k,j⟩:=qnJ d c t;let⟨b,i,h,g,f⟩:=V1 ts l k;exact⟨b,m.trans i,h,g,j.trans f⟩
theorem qm6{b:Code}{n:Nat}(o:∀m,m<n->COk P (eA C m) b){s:S}{e:Ex}{g:S}(z:iD b=O)(h:eA C n (.loop b) s=Z (e,g)){a:Act}(hi:Inv Γ s.σ w)(ht:cv Γ s.tm a)(K:a.defers=[]):
  (Code.loop b).wp P (λ A f w'=>A=e.toExit/\f.defers=[]/\∃Γ',Ext Γ w Γ' w'/\Inv Γ' g.σ w'/\cv Γ' g.tm f/\bP s.σ g.σ) a w:=by
 let X:Nat->Act->ao->Prop:=λ m d c=>m<=n/\∃r i,eA C m (.loop b) r=Z (e,g)/\Ext Γ w i c/\Inv i r.σ c/\cv i r.tm d/\d.defers=[]/\bP s.σ r.σ
 have j:∀d c,(∃m,X m d c)->∃m,X m d c/\∀k,X k d c->m<=k:=by
  rintro d c ⟨m,W⟩
  induction m using Nat.strongRecOn with
  |_ m ih=>
    by_cases z:∃k,k<m/\X k d c
    .let⟨k,H,G⟩:=z;exact ih k H G
    .exact⟨m,W,λ k M=>Nat.le_of_not_lt λ F=>z ⟨k,F,M⟩⟩
 classical
 let t:Act->ao->Nat:=λ d c=>if h:∃m,X m d c then Classical.choose (j d c h)else 0
 have u:∀d c,(h:∃m,X m d c)->X (t d c) d c/\∀k,X k d c->t d c<=k:=by
  intro d c h;grind
 apply wp_loop (λ d c=>∃m,X m d c) t ⟨n,al _,s,Γ,h,.refl _ _,hi,ht,K,.refl _⟩;intro d c M;let⟨L,_⟩:=u d c M;let⟨v,r,i,h1,Q,h3,h4,h5,N⟩:=L;generalize W:t d c=m at *;cases m with
 |zero=>simp[eA]at h1
 |succ m=>
   simp only[eA,jJ]at h1;let⟨B,p1,p2,p3,p4⟩:=V1 (C.pur b) h3 h4
   have ab:∀e1 q,eA C m b (kH (C.pur b) r)=Z (e1,q)->(e1=.normal/\eA C m (.loop b) q=Z (e,g)\/(e1≠.normal/\e1=e/\q=g))->
     b.wp P (Exit.then (λ f w'=>(∃m,X m f w')/\t f w'<m+1) (λ A f w'=>A=e.toExit/\f.defers=[]/\∃Γ',Ext Γ w Γ' w'/\Inv Γ' g.σ w'/\cv Γ' g.tm f/\bP s.σ g.σ)) d c:=by
    intro e1 q hb D;apply wp_mono (o m v _ e1 q z hb B c d p2 p3 h5);rintro A f w' ⟨rfl,T,l,y,R,g3,x⟩;have y:=p1.trans y;have x:=p4.trans x;obtain⟨rfl,hl⟩|⟨E,rfl,rfl⟩:=D
    .have p:X m f w':=⟨Nat.le_of_succ_le v,q,l,hl,Q.trans y,R,g3,T,N.trans x⟩
     exact⟨⟨m,p⟩,Nat.lt_succ_of_le ((u f w' ⟨m,p⟩).2 m p)⟩
    .cases e1 with
     |normal=>exact absurd rfl E
     |exit id|ret=>exact⟨rfl,T,l,Q.trans y,R,g3,N.trans x⟩
   grind
theorem L3(hC:dd P C):∀n,md P (eA C n):=by
 intro n
 induction n using Nat.strongRecOn with
 |_ n ih=>
   cases n with
   |zero=>intro c s e L _ h;simp[eA]at h
   |succ n=>
     have j:=ih n (tk n);intro c s e L A h Γ w a z v f;cases c with
     |skip=>
       simp only[eA,jJ,dF,fo]at h;obtain⟨rfl,rfl⟩:=h;exact wp_skip ⟨rfl,f,Γ,.refl _ _,z,v,.refl _⟩
     |label k=>
       simp only[eA,jJ,dF,fo]at h;obtain⟨rfl,rfl⟩:=h;exact wp_label ⟨rfl,f,Γ,.refl _ _,z,v,.refl _⟩
     |exit id=>
       simp only[eA,jJ,dF,fo]at h;obtain⟨rfl,rfl⟩:=h;exact wp_exit ⟨rfl,f,Γ,.refl _ _,z,v,.refl _⟩
     |ret=>
       simp only[eA,jJ,dF,fo]at h;obtain⟨rfl,rfl⟩:=h;exact wp_ret ⟨rfl,f,Γ,.refl _ _,z,v,.refl _⟩
     |region id ops Q=>
       simp only[eA,jJ]at h;split at h
       .rename_i E;have H:Q=O:=by unfold sj at E;rw[aK]at E;exact E.1
        subst H;split at h<;>try cases h
        rename_i d l;rw[aK,aK]at d;split at h<;>try cases h
        next o=>split at h<;>cases h;next F=>apply qib hC j d.1 d.2.1 d.2.2 l o F z v;intro Γ' w' R u t g3 q N;exact⟨rfl,by rw[N,f],Γ',u,t,g3,q⟩
       .split at h
        .rename_i p M;let⟨H,_⟩:=Wh M;subst H;split at h<;>try cases h
         next d l=>split at h<;>cases h;next ab o=>apply qik hC j M d l ab o z v;intro Γ' w' R u t g3 q N;exact⟨rfl,by rw[N,f],Γ',u,t,g3,q⟩
        .split at h<;>cases h;next d l=>apply qi5 hC j d l z v;intro Γ' w' R u t g3 q N;exact⟨rfl,by rw[N,f],Γ',u,t,g3,q⟩
     |seq x y=>
       simp only[eA,jJ]at h;simp only[iD,aK]at A;apply wp_seq;cases D:eA C n x s with
       |none=>rw[D]at h;cases h
       |some r=>
         let⟨e1,S⟩:=r;rw[D]at h;apply wp_mono (j x s e1 S A.1 D Γ w a z v f);rintro e' R w' ⟨rfl,B,g,u,t,g3,q⟩;cases e1 with
         |normal=>
           apply wp_mono (j y S e L A.2 h g w' R t g3 B);rintro an ar ad ⟨rfl,q0,X,q1,q2,q3,q4⟩;exact⟨rfl,q0,X,u.trans q1,q2,q3,q.trans q4⟩
         |exit id|ret=>cases h;exact⟨rfl,B,g,u,t,g3,q⟩
     |cond c x y=>
       simp only[eA,jJ]at h;simp only[iD,aK]at A;have T:=cv.ev v c;split at h
       .next K=>rw[K]at T;exact wp_cond_true (ch T) (j x s e L A.1 h Γ w a z v f)
       .next K=>rw[K]at T;exact wp_cond_false (ch T) (j y s e L A.2 h Γ w a z v f)
       .cases h
     |block id b=>
       simp only[eA,jJ]at h;simp only[iD]at A;apply wp_block;cases D:eA C n b s with
       |none=>rw[D]at h;cases h
       |some r=>
         let⟨e1,S⟩:=r;rw[D]at h;apply wp_mono (j b s e1 S A D Γ w a z v f);rintro e' R w' ⟨rfl,B,g,u,t,g3,q⟩;cases e1 with
         |normal|ret=>cases h;exact⟨rfl,B,g,u,t,g3,q⟩
         |exit i=>
           simp only[dF,fo]at h;obtain⟨W,rfl⟩:=h;show if i=id then _ else _;split
           .next G=>rw[ag G]at W;subst W;exact⟨rfl,B,g,u,t,g3,q⟩
           .next G=>rw[af G]at W;subst W;exact⟨rfl,B,g,u,t,g3,q⟩
     |loop b=>
       exact qm6 (n:=n+1) (λ m hm=>λ s e L A h=>ih m hm b s e L A h) A h z v f
     |_=>simp only[eA,jJ]at h;cases h
end
end
section
open RowKit
structure PC where
 ty:Nat->Option TD
 pf:Nat->Option (List AV->Option AV)
 sp:Nat->Option (St->List AV->Option (AV×Option St))
 pur:Code->List Nat
 ld:Nat->Bool
 inl:Nat->Option Func
def emp:St:=⟨[],[],[],[]⟩
def fX(p:aa AV->ac AV):St->aa AV->ac (AV×ac St):=λ σ a=>
 match σ with
 |⟨[],[],[],[]⟩=>match p a with
   |Z v=>Z (v,U)
   |U=>U
 |_=>U
def PC.prim(c:PC)(f:Nat):ac (St->aa AV->ac (AV×ac St)):=match c.pf f with|Z p=>Z (fX p)|U=>c.sp f
def PC.raw(c:PC)(f:Nat):Bool:=match c.pf f with|Z _=>Y|U=>(c.sp f).isSome
def PC.cfg(c:PC):Cfg:=⟨c.ty,λ _=>U,c.prim,c.raw,c.pur,λ f=>c.raw f||(c.ld f||(c.inl f).isSome),c.inl⟩
def iW(c:PC)(f:Nat)(σ:St)(a:aa AV):ac (AV×ac St):=
 match c.pf f with
 |Z p=>match noRefs (a.map (cS σ.rw))with
   |O=>match p (a.map (cS σ.rw))with
     |Z v=>match dO v with
       |O=>match rY v,a.flatMap rsA with
         |O,_|_,[]=>Z (v,U)
         |_,r::l=>Z (v,Z {σ with rw:=frz σ.rw (r::l),wrr:=(r::l)++σ.wrr})
       |Y=>U
     |U=>U
   |Y=>U
 |U=>match c.sp f with
   |Z p=>fd σ a p
   |U=>U
def kD(c:PC)(tm:aa AV)(σ:St)(op:Op):ac (AV×ac St):=
 match op with
 |.call ⟨.builtin b,a,ts⟩=>iA c.cfg σ b ts (a.toList.map (aev tm))
 |.call ⟨.value g,a,_⟩=>match aev tm g with
   |.fn f d=>match c.inl f with
     |U=>iW c f σ (a.toList.map (aev tm)++d)
     |Z _=>U
   |_=>U
 |.call _=>U
 |op=>aC c.cfg tm σ op
def iE(d:aa AV->St->Op->ac (AV×ac St))(c:PC)(ops:aM Oper)(b:Bool):aa Oper->S->ac S
 |[],s=>Z s
 |o::a,s=>match dh ops s.tm o with
   |Z O=>match d s.tm s.σ o.op with
     |Z (x,U)=>iE d c ops b a ⟨ic s.tm o.dst x,s.σ⟩
     |Z (x,Z σ')=>match b && !(cQ c.cfg.lo o.op&&ml c.cfg ops (ops.size-(I a+1)) s.tm s.σ o.op)with
       |O=>U
       |Y=>iE d c ops b a ⟨ic s.tm o.dst x,σ'⟩
     |U=>U
   |Z Y=>iE d c ops b a ⟨ic s.tm o.dst xH,s.σ⟩
   |U=>U
def dw(f:aa AV->St->Op->ac (AV×ac St))(c:PC)(ex:dQ):dQ
 |.skip,s|.label _,s=>Z (.normal,s)
 |.region _ ops d,s=>match sj ops d with
   |O=>match rX c.cfg.lo (V ops)&&(oi c.cfg.lo ops&&mq c.cfg.lo s.tm ⟨bo c.cfg.lo (V ops)⟩ O),iE f c ⟨bo c.cfg.lo (V ops)⟩ O (bo c.cfg.lo (V ops)) s with
     |O,Z g=>match iE f c ops Y (alL c.cfg.lo (V ops)) g with
       |Z h=>match iE f c ops O (sL c.cfg.lo (V ops)) h with
         |Z e=>Z (.normal,e)
         |U=>U
       |U=>U
     |_,_=>U
   |Y=>match qL ops d with
     |Z p=>match mq c.cfg.lo s.tm (jL ops) O,iE f c (jL ops) O (V (jL ops)) s with
       |O,Z g=>match vY g.tm ops p,iE f c ops O (oz ops) g with
         |O,Z e=>Z (.normal,e)
         |_,_=>U
       |_,_=>U
     |U=>match mq c.cfg.lo s.tm ops d,iE f c ops d (V ops) s with
       |O,Z e=>Z (.normal,e)
       |_,_=>U
 |.seq a b,s=>match ex a s with
   |Z (.normal,e)=>ex b e
   |r=>r
 |.cond t x y,s=>match aev s.tm t with
   |.v (.bool O)=>ex x s
   |.v (.bool Y)=>ex y s
   |_=>U
 |.block id b,s=>match ex b s with
   |Z (.exit i,e)=>Z (if i=id then .normal else .exit i,e)
   |r=>r
 |.loop b,s=>match ex b (kH (c.pur b) s)with
   |Z (.normal,e)=>ex (.loop b) e
   |r=>r
 |.exit id,s=>Z (.exit id,s)
 |.ret,s=>Z (.ret,s)
 |_,_=>U
def cc(a:aa AV->St->Op->ac (AV×ac St))(c:PC):Nat->dQ
 |0=>λ _ _=>U
 |n+1=>dw a c (cc a c n)
def yl(c:PC)(σ:St)(fn:Func)(a:aa AV):ac (AV×ac St):=match fn.body with
 |U=>U
 |Z d=>match cc (kD c) c 12 d ⟨a++List.replicate (fn.ntmps-I a) .dead,σ⟩with
   |Z (.exit _,_)=>U
   |Z (_,b)=>match od c.cfg fn b with
     |Z r=>Z (r,Z b.σ)
     |U=>U
   |U=>U
def jv(c:PC)(tm:aa AV)(σ:St)(op:Op):ac (AV×ac St):=
 match op with
 |.call ⟨.value g,b,_⟩=>match aev tm g with
   |.fn f a=>match c.inl f with
     |Z fn=>yl c σ fn (b.toList.map (aev tm)++a)
     |U=>iW c f σ (b.toList.map (aev tm)++a)
   |_=>U
 |op=>kD c tm σ op
theorem UH{fb fr}(x)(h:rb x=[])(g:rr x=[]):ren fb fr x=x:=AE fb fr x h g
def J8{fb fr}(xs)(h:rbL xs=[])(g:rrL xs=[]):bB fb fr xs=xs:=Ak fb fr xs h g
theorem wS{x}(h:dO x=O):rb x=[]/\rr x=[]:=by
 grind [dO]
def Ej: ∀{xs},noRefs xs=O->rbL xs=[]/\rrL xs=[]
 |[],_=>⟨rfl,rfl⟩
 |x::xs,h=>by
   simp only[noRefs,fm,aK]at h;let⟨d,c⟩:=wS h.1;let⟨b,a⟩:=Ej h.2;grind [rbL,rrL]
def Sb{σ a p v}(g:noRefs a=O)(i:p a=Z v)(f:dO v=O):fd σ a (λ σ a=>fX p σ a)=Z (v,U):=by
 let⟨d,c⟩:=Ej g;let⟨k,j⟩:=wS f
 have b:dP σ a=[]:=by
  unfold dP;rw[d];cases I σ.bx with
  |zero|succ n=>rfl
 have e:gD σ a=[]:=by
  unfold gD;rw[b,c];rfl
 unfold fd
 have h:ng σ a=O:=by
  unfold ng;rw[b,e,d,c];rfl
 rw[b,e,J8 a d c];have:bO σ [] []=⟨[],[],[],[]⟩:=rfl;grind [fX,oA,UH]
def qjj{c ex f σ a r}(h:iW c f σ a=Z r):mW c.cfg ex σ f a=Z r:=by
 unfold iW at h;split at h
 rotate_left
 .rename_i g;split at h<;>try cases h
  rename_i p e;have b:c.cfg.raw f=O:=by show c.raw f=O;unfold PC.raw;rw[g,e];rfl
  have d:(λ(σ:St) a=>ju c.cfg ex σ f a)=p:=by
   simp_all [ju,PC.cfg,PC.prim]
  unfold mW pt;grind
 rename_i p g;split at h<;>try cases h
 rename_i i;split at h<;>try cases h
 rename_i v j;split at h<;>try cases h
 rename_i k
 have d:∀σ:St,(λ(σ:St) a=>ju c.cfg ex σ f a)=λ σ a=>fX p σ a:=λ _=>by
  simp_all [ju,PC.cfg,PC.prim]
 have b:c.cfg.raw f=Y:=by show c.raw f=Y;unfold PC.raw;rw[g]
 unfold mW pt;rw[b];let⟨o,n⟩:=Ej i;cases m:a.flatMap rsA with
 |nil=>
   have:r=(v,U):=by
    grind
   subst this;rw[d σ];exact Sb i j k
 |cons q l=>
   simp only;rw[d σ,Sb i j k];grind [xL]
def qnk{C ex σ f args r}(a:C.inl f=U)(h:mW C ex σ f args=Z r)(b:C.lo f=Y->C.raw f=Y/\noRefs (args.map (cS σ.rw))=O/\dO r.1=O):mX C ex σ f args=Z r:=by
 grind [mX]
theorem Ui{c ex f σ args r}(e:c.inl f=U)(h:iW c f σ args=Z r):mX c.cfg ex σ f args=Z r:=by
 refine qnk e (qjj h) λ d=>?_;unfold iW at h;split at h
 rotate_left
 .rename_i b;split at h<;>try cases h
  rename_i p a;have:c.cfg.lo f=O:=by show(c.raw f||(c.ld f||(c.inl f).isSome))=O;unfold PC.raw;rw[b,a];rfl
  rw[d]at this;cases this
 rename_i p b;have g:c.cfg.raw f=Y:=by show c.raw f=Y;unfold PC.raw;rw[b]
 grind
def Wa{c ex tm σ op r}(h:kD c tm σ op=Z r):opA c.cfg ex tm σ op=Z r:=by
 unfold kD at h;grind [opA,rR,Ui]
theorem zg{pp c ex}(a:∀tm σ op r,pp tm σ op=Z r->opA c.cfg ex tm σ op=Z r){ops draw}:∀{l s d},iE pp c ops draw l s=Z d->cY c.cfg ex ops draw l s=Z d
 |[],s,d,h=>h
 |o::f,s,d,h=>by
   simp only[iE]at h;simp only[cY];split at h
   .rename_i e;rw[e];split at h
    .next x b=>rw[a _ _ _ _ b];exact zg a h
    .rename_i x σ' b;rw[a _ _ _ _ b];split at h
     .cases h
     .next g=>rw[g];exact zg a h
    .cases h
   .next e=>rw[e];exact zg a h
   .cases h
def LA{f c d}(k:∀n tm σ op r,f tm σ op=Z r->opA c.cfg (eA c.cfg (n+d)) tm σ op=Z r):∀{n e s r},cc f c n e s=Z r->eA c.cfg (n+d) e s=Z r:=by
 intro n
 induction n with
 |zero=>intro e s r h;simp[cc]at h
 |succ n j=>
   intro e s r h;simp[cc]at h;rw[show n+1+d=(n+d)+1 by omega];simp[eA];cases e with
   |region id ops i=>
     simp[dw]at h;simp[jJ];split at h
     .grind [zg]
     .grind [zg]
   |seq a b=>
     grind [dw,jJ]
   |cond t x y=>
     grind [dw,jJ]
   |block id b=>
     grind [dw,jJ]
   |loop b=>
     simp[dw]at h;simp[jJ];cases g:cc f c n b (kH (c.pur b) s)with
     |none=>rw[g]at h;cases h
     |some q=>
       rw[g]at h;rw[show eA c.cfg (n+d) b (kH (c.cfg.pur b) s)=_ from j g];grind
   |_=>exact h
def qif{pp c}:∀{n d s r},cc pp c n d s=Z r->cc pp c (n+1) d s=Z r:=by
 intro n
 induction n with
 |zero=>intro d s r h;simp[cc]at h
 |succ n e=>
   intro d s r h;rw[cc]at h |-
   cases d with
   |seq a b=>
     grind [dw]
   |cond t x y=>
     grind [dw]
   |block id b=>
     grind [dw]
   |loop b=>
     grind [dw]
   |_=>exact h
theorem rO{pp c n m}(a:n<=m){cd s r}(h:cc pp c n cd s=Z r):cc pp c m cd s=Z r:=by
 induction a with
 |refl=>exact h
 |step _ b=>exact qif b
def qk0{c σ fn args r}(h:yl c σ fn args=Z r):∃b e a x,fn.body=Z b/\cc (kD c) c 12 b ⟨args++List.replicate (fn.ntmps-I args) .dead,σ⟩=Z (e,a)/\(e=.ret\/e=.normal)/\od c.cfg fn a=Z x/\r=(x,Z a.σ):=by
 unfold yl at h;split at h<;>try cases h
 rename_i b j;split at h<;>try cases h
 rename_i e a d g;split at h<;>cases h;rename_i x f;refine⟨b,e,a,x,j,g,?_,f,rfl⟩;cases e with
 |normal=>exact .inr rfl
 |ret=>exact .inl rfl
 |exit i=>exact(d i rfl).elim
def qmB{c}(n){tm σ op r}(h:jv c tm σ op=Z r):opA c.cfg (eA c.cfg (n+12)) tm σ op=Z r:=by
 unfold jv at h;split at h
 .rename_i g i ts;split at h<;>try cases h
  rename_i f b o;simp[opA,rR,o];split at h
  .rename_i fn a;obtain⟨w,e,q,x,v,p,u,t,rfl⟩:=qk0 h;have s:=LA (d:=0) (λ n tm σ op r h=>Wa h) (rO (m:=n+12) (by omega) p);have k:c.cfg.lo f=O:=by show(c.raw f||(c.ld f||(c.inl f).isSome))=O;rw[a];simp
   have l:c.cfg.inl f=Z fn:=a;unfold mX;unfold yo;grind
  .next a=>exact Ui a h
 .next op j=>exact Wa h
def UK{c}:∀n tm σ op r,jv c tm σ op=Z r->opA c.cfg (eA c.cfg (n+12)) tm σ op=Z r:=λ n _ _ _ _ h=>qmB n h
def Run(c:PC)(b:Code)(s:S)(K:Ex->S->Prop):Prop:=∃n e a,cc (jv c) c n b s=Z (e,a)/\K e a
inductive It where
 |code (c:Code)|blk (id:Nat)|ops (os:Array Oper) (draw:Bool) (rest:List Oper)
def Go(c:PC)(Q:Ex->S->Prop):aa It->Ex->S->Prop
 |[],e,s=>Q e s
 |.code f::k,.normal,s=>Run c f s λ e b=>Go c Q k e b
 |.code _::k,e,s=>Go c Q k e s
 |.blk id::k,.exit i,s=>Go c Q k (if i=id then .normal else .exit i) s
 |.blk _::k,e,s=>Go c Q k e s
 |.ops os d a::k,.normal,s=>∃b,iE (jv c) c os d a s=Z b/\Go c Q k .normal b
 |.ops _ _ _::k,e,s=>Go c Q k e s
section
variable {c:PC}{Q:Ex->S->Prop}{k:aa It}{tm:aa AV}{σ:St}{s:S}
def XQ{cd K}(h:∀n,∀r,dw (jv c) c (cc (jv c) c n) cd s=Z r↔r=(.normal,s)):Run c cd s K↔K .normal s:=by
 constructor
 .rintro⟨n,e,f,a,d⟩;cases n with
  |zero=>simp[cc]at a
  |succ n=>have:=(h n _).1 a;cases this;exact d
 .intro b;exact⟨1,_,_,(h 0 _).2 rfl,b⟩
def qkS: Go c Q (.code .skip::k) .normal s=Go c Q k .normal s:=
 propext (XQ λ n r=>⟨λ h=>by cases h;rfl,λ h=>by rw[h];rfl⟩)
def qlS(l):Go c Q (.code (.label l)::k) .normal s=Go c Q k .normal s:=
 propext (XQ λ n r=>⟨λ h=>by cases h;rfl,λ h=>by rw[h];rfl⟩)
def qmj(id):Go c Q (.code (.exit id)::k) .normal s=Go c Q k (.exit id) s:=by
 apply propext;constructor
 .rintro⟨n,e,d,a,b⟩;cases n with
  |zero=>simp[cc]at a
  |succ n=>simp only[cc,dw,fo]at a;obtain⟨rfl,rfl⟩:=a;exact b
 .intro h;exact⟨1,_,_,rfl,h⟩
def qnL: Go c Q (.code .ret::k) .normal s=Go c Q k .ret s:=by
 apply propext;constructor
 .rintro⟨n,e,d,a,b⟩;cases n with
  |zero=>simp[cc]at a
  |succ n=>simp only[cc,dw,fo]at a;obtain⟨rfl,rfl⟩:=a;exact b
 .intro h;exact⟨1,_,_,rfl,h⟩
def qhR(cd):Go c Q (.code cd::k) .ret s=Go c Q k .ret s:=rfl
def qgy(cd i):Go c Q (.code cd::k) (.exit i) s=Go c Q k (.exit i) s:=rfl
def qfy(id):Go c Q (.blk id::k) .normal s=Go c Q k .normal s:=rfl
def qit(id):Go c Q (.blk id::k) .ret s=Go c Q k .ret s:=rfl
def qhq(id i):Go c Q (.blk id::k) (.exit i) s=Go c Q k (if i=id then .normal else .exit i) s:=rfl
def qoe(a b):Go c Q (.code (.seq a b)::k) .normal s=Go c Q (.code a::.code b::k) .normal s:=by
 apply propext;constructor
 .rintro⟨n,e,g,d,f⟩;cases n with
  |zero=>simp[cc]at d
  |succ n=>
    simp[cc,dw]at d;split at d
    .next h l=>exact⟨n,_,h,l,n,e,g,d,f⟩
    .rename_i j;refine⟨n,e,g,d,?_⟩;cases e with
     |normal=>exact absurd d (j g)
     |exit i|ret=>exact f
 .rintro⟨n,e,h,d,f⟩;cases e with
  |normal=>
    let⟨m,e,g,p,o⟩:=f;refine⟨n+m+1,e,g,?_,o⟩;simp[cc,dw];rw[rO (by omega) d];exact rO (by omega) p
  |exit i|ret=>exact⟨n+1,_,h,by simp[cc,dw];rw[d],f⟩
def qkx(id b):Go c Q (.code (.block id b)::k) .normal s=Go c Q (.code b::.blk id::k) .normal s:=by
 apply propext;constructor
 .rintro⟨n,e,h,a,f⟩;cases n with
  |zero=>simp[cc]at a
  |succ n=>
    simp[cc,dw]at a;cases g:cc (jv c) c n b s with
    |none=>rw[g]at a;cases a
    |some q=>
      rw[g]at a;let⟨e1,d⟩:=q;refine⟨n,e1,d,g,?_⟩;cases e1<;>(simp at a;obtain⟨rfl,rfl⟩:=a;exact f)
 .rintro⟨n,e,d,a,f⟩;cases e with
  |normal|exit i|ret=>exact⟨n+1,_,d,by simp[cc,dw];rw[a],f⟩
def go_loop(b):Go c Q (.code (.loop b)::k) .normal s=Go c Q (.code b::.code (.loop b)::k) .normal (kH (c.pur b) s):=by
 apply propext;constructor
 .rintro⟨n,e,f,a,d⟩;cases n with
  |zero=>simp[cc]at a
  |succ n=>
    simp[cc,dw]at a;split at a
    .next g j=>exact⟨n,_,g,j,n,e,f,a,d⟩
    .rename_i h;refine⟨n,e,f,a,?_⟩;cases e with
     |normal=>exact absurd a (h f)
     |exit i|ret=>exact d
 .rintro⟨n,e,g,a,d⟩;cases e with
  |normal=>
    let⟨m,e,f,o,l⟩:=d;refine⟨n+m+1,e,f,?_,l⟩;simp[cc,dw];rw[rO (by omega) a];exact rO (by omega) o
  |exit i|ret=>exact⟨n+1,_,g,by simp[cc,dw];rw[a],d⟩
theorem qjB (rw y):rsA (cS rw y)=[]:=by
 have b:∀ x,rsC (bC rw x)=[]:=by
  intro x;cases x with
  | rs r lo n a f =>
    simp [bC];split
    ·split<;>rfl
    ·rfl
  | _=>rfl
 cases y with
 | agg cs =>
   show (cs.map (bC rw)).flatMap rsC=[];grind [List.flatMap_map,List.flatMap_eq_nil_iff]
 | rs r lo n a f =>
   show rsA (bC rw (.rs r lo n a f))=[];simp [bC];split
   ·split<;>rfl
   ·rfl
 | _=>rfl
def M0(ts:aa Nat)(s:S):Prop:=∀t∈ts,rsA (s.tm.getD t .dead)=[]
def qis(s t u)(h:u=t\/rsA (s.tm.getD u .dead)=[]):rsA ((io s t).tm.getD u .dead)=[]:=by
 unfold io;cases b:rsA (s.tm.getD t .dead)with
 |nil=>
   grind
 |cons r l=>
   by_cases c:t=u
   .subst c
    have d:t<I s.tm:=by
     apply ZK;intro a;rw[gE,pL a]at b;cases b
    grind [List.getElem?_set_self,qjB]
   .grind
def Ss: ∀ts s us,M0 us s->M0 (us++ts) (kH ts s)
 |[],s,us,h=>by rw[bZ];exact h
 |t::ts,s,us,h=>by
   have:=Ss ts (io s t) (us++[t]) (λ u a=>qis s t u (by
    obtain a|a:=bc.1 a
    .exact .inr (h u a)
    .exact .inl (by grind)))
   rw[bE]at this;exact this
def Wv: ∀ts s,M0 ts s->kH ts s=s
 |[],s,h=>rfl
 |t::ts,s,h=>by
   have e:io s t=s:=by unfold io;rw[h t (aW ..)]
   show kH ts (io s t)=s;rw[e];exact Wv ts s λ u a=>h u (aS _ a)
def qn5(b):Go c Q (.code (.loop b)::k) .normal (kH (c.pur b) s)=Go c Q (.code (.loop b)::k) .normal s:=by
 rw[go_loop,go_loop,Wv _ _ (by have:=Ss (c.pur b) s [] (λ _ h=>by cases h);simpa using this)]
def Hm(c:PC)(Q:Ex->S->Prop)(k:aa It)(s:S)(x y:Code):AV->Prop
 |.v (.bool O)=>Go c Q (.code x::k) .normal s
 |.v (.bool Y)=>Go c Q (.code y::k) .normal s
 |_=>False
def qng(t x y):Go c Q (.code (.cond t x y)::k) .normal ⟨tm,σ⟩=Hm c Q k ⟨tm,σ⟩ x y (aev tm t):=by
 apply propext;constructor
 .rintro⟨n,e,d,a,f⟩;cases n with
  |zero=>simp[cc]at a
  |succ n=>
    simp[cc,dw]at a;split at a
    .next b=>rw[b];exact⟨n,e,d,a,f⟩
    .next b=>rw[b];exact⟨n,e,d,a,f⟩
    .cases a
 .intro h;unfold Hm at h;split at h
  .next b=>let⟨n,e,d,a,f⟩:=h;exact⟨n+1,e,d,by simp[cc,dw,b];exact a,f⟩
  .next b=>let⟨n,e,d,a,f⟩:=h;exact⟨n+1,e,d,by simp[cc,dw,b];exact a,f⟩
  .exact h.elim
def qkf(x y):Hm c Q k s x y (.v (.bool O))=Go c Q (.code x::k) .normal s:=rfl
def qiw(x y):Hm c Q k s x y (.v (.bool Y))=Go c Q (.code y::k) .normal s:=rfl
def qia(id l d){p}(g:sj ⟨l⟩ d=Y)(f:qL ⟨l⟩ d=Z p)(m:mq c.cfg.lo s.tm (jL ⟨l⟩) O=O)(h:Go c (λ e a=>vY a.tm ⟨l⟩ p=O/\Go c Q (.ops ⟨l⟩ O (oz ⟨l⟩)::k) .normal a) (.ops (jL ⟨l⟩) O (V (jL ⟨l⟩))::[]) .normal s):Go c Q (.code (.region id ⟨l⟩ d)::k) .normal s:=by
 let⟨a,o,j,b,n,i⟩:=h;refine⟨1,.normal,b,?_,i⟩;simp_all [cc,dw]
theorem go_region(id l d)(f:sj ⟨l⟩ d=Y)(b:qL ⟨l⟩ d=U):Go c Q (.code (.region id ⟨l⟩ d)::k) .normal s=(mq c.cfg.lo s.tm ⟨l⟩ d=O/\Go c Q (.ops ⟨l⟩ d l::k) .normal s):=by
 apply propext;constructor
 .rintro⟨n,e,i,a,h⟩;cases n with
  |zero=>simp[cc]at a
  |succ n=>
    simp[cc,dw,f,b]at a;split at a<;>cases a;next g j=>exact⟨g,_,j,h⟩
 .rintro⟨g,i,a,h⟩;exact⟨1,.normal,i,by simp[cc,dw,f,b];rw[g,a],h⟩
theorem qiH(id l d)(b:sj ⟨l⟩ d=O)(j:rX c.cfg.lo l=O)(e:oi c.cfg.lo ⟨l⟩=O)(m:mq c.cfg.lo s.tm ⟨bo c.cfg.lo l⟩ O=O)(h:Go c Q (.ops ⟨bo c.cfg.lo l⟩ O (bo c.cfg.lo l)::.ops ⟨l⟩ Y (alL c.cfg.lo l)::.ops ⟨l⟩ O (sL c.cfg.lo l)::k) .normal s):Go c Q (.code (.region id ⟨l⟩ d)::k) .normal s:=by
 let⟨i,p,g,o,a,n,f⟩:=h;refine⟨1,.normal,a,?_,f⟩;simp_all [cc,dw]
def qh3(os d):Go c Q (.ops os d []::k) .normal s=Go c Q k .normal s:=by
 apply propext;constructor
 .rintro⟨e,a,b⟩;simp[iE,dF]at a;subst a;exact b
 .intro h;exact⟨s,rfl,h⟩
def Hd(c:PC)(Q:Ex->S->Prop)(k:aa It)(os:aM Oper)(d l:Bool)(a:aa Oper)(b:ac Tmp)(tm:aa AV)(σ:St):ac (AV×ac St)->Prop
 |Z (x,U)=>Go c Q (.ops os d a::k) .normal ⟨ic tm b x,σ⟩
 |Z (x,Z σ')=>(d && !l)=Y/\Go c Q (.ops os d a::k) .normal ⟨ic tm b x,σ'⟩
 |U=>False
def GM(c:PC)(Q:Ex->S->Prop)(k:aa It)(os:aM Oper)(d:Bool)(a:aa Oper)(o:Oper)(tm:aa AV)(σ:St):ac Bool->Prop
 |Z O=>Hd c Q k os d (cQ c.cfg.lo o.op&&ml c.cfg os (os.size-(I a+1)) tm σ o.op) a o.dst tm σ (jv c tm σ o.op)
 |Z Y=>Go c Q (.ops os d a::k) .normal ⟨ic tm o.dst xH,σ⟩
 |U=>False
def qop(os d o rest):Go c Q (.ops os d (o::rest)::k) .normal ⟨tm,σ⟩=GM c Q k os d rest o tm σ (dh os tm o):=by
 apply propext;constructor
 .rintro⟨b,a,e⟩;simp only[iE]at a;unfold GM;split at a
  .rename_i f;unfold Hd;split at a
   .next x g=>exact⟨b,a,e⟩
   .rename_i x σ' g;split at a
    .cases a
    .next i=>exact⟨i,b,a,e⟩
   .cases a
  .next f=>exact⟨b,a,e⟩
  .cases a
 .intro h;unfold GM at h;split at h
  .rename_i f;unfold Hd at h;split at h
   .next x g=>let⟨b,a,e⟩:=h;exact⟨b,by simp[iE,f,g];exact a,e⟩
   .next x σ' g=>let⟨i,b,a,e⟩:=h;exact⟨b,by simp only[iE,f,g,i];exact a,e⟩
   .exact h.elim
  .next f=>let⟨b,a,e⟩:=h;exact⟨b,by simp[iE,f];exact a,e⟩
  .exact h.elim
end
end
section
open RowKit
def Sub(x y:AV):Prop:=∀Γ u,Rep Γ x u->Rep Γ y u
def Sub.refl(x:AV):Sub x x:=λ _ _ h=>h
inductive dR:List AV->List AV->Prop
 |nil:dR [] []
 |cons {x y:AV}{xs ys:List AV}:Sub x y->dR xs ys->dR (x::xs) (y::ys)
def dR.refl:∀xs,dR xs xs
 |[]=>.nil
 |x::xs=>.cons (.refl x) (.refl xs)
def dR.rep{Γ:Gh}:∀{xs ys:aa AV}{us:aa ah},dR xs ys->RepL Γ xs us->RepL Γ ys us
 |_,_,_,.nil,h=>h
 |_,_,us,.cons h t,g=>by
   obtain⟨u,r,rfl,b,a⟩:=g.uncons;exact .cons (h Γ u b) (t.rep a)
def dR.tup{xs ys:aa AV}(h:dR xs ys):Sub (.tup xs) (.tup ys):=by
 intro Γ u a;cases a with
 |tup cs us c b=>
   have:=h.rep (RepL.mk c b);exact .tup _ _ this.len this.rep
def qm5{P:aX}{C:Cfg}{Γ:Gh}{σ:St}{w:ao}(t:dd P C){f:dm}{fn:Func}{c:Code}(F:P.funcs[f]?=Z fn)(E:fn.body=Z c)(o:iD c=O){b:aa AV}{a:aa ah}{r:AV×ac St}(s:Inv Γ σ w)(q:RepL Γ b a)
  {n:Nat}{e:Ex}{d:S} (D:eA C n c (ql fn σ b)=Z (e,d)) (m:e=.ret\/e=.normal) (k:sa C fn σ d=Z r):jI P Γ σ w f a r:=by
 unfold jI;apply calls_of_wp F E;have l:Inv Γ (ql fn σ b).σ w:=s.wr rfl rfl
 have B:cv Γ (ql fn σ b).tm {tmps:=a.toArray++Array.replicate (fn.ntmps-a.toArray.size) undef,defers:=[]}:=by
  show RepL Γ (b++List.replicate (fn.ntmps-I b) .dead) (V (a.toArray++Array.replicate (fn.ntmps-a.toArray.size) undef));rw[yv,yw];have:a.toArray.size=I b:=by simpa using q.len
  rw[this];exact q.append (yQ Γ _)
 apply wp_mono (L3 t n c _ e d o D Γ w _ l B rfl);rintro K x w' ⟨rfl,o,Γ',H,u,g3,G⟩;unfold sa at k;split at k<;>cases k;rename_i i j;let⟨v,A,z⟩:=EO t.ty u g3 j;let⟨⟨h,u1,u2,u3⟩,u4⟩:=XT s H u G z
 have:x.defers=[]/\∃v,(results fn x.tmps).run P w'=.ok v w'/\∃g Γ',Ending.returned v=.returned g/\Ext Γ w Γ' w'/\Inv Γ' (turn σ (mV σ i d.σ).2) w'/\Rep Γ' (mV σ i d.σ).1 g/\bP {σ with wr:=[],wrr:=[]} (turn {σ with wr:=[],wrr:=[]} (mV σ i d.σ).2):=
  ⟨o,v,A,v,h,rfl,u1,u2,u3,u4⟩
 obtain rfl|rfl:=m
 .exact this
 .exact this
def Ret(c:PC)(a:aa ResultVar)(b:AV->Prop)(e:Ex)(s:S):Prop:=
 (e=.ret\/e=.normal)/\match jH c.cfg s.tm s.σ a with
  |Z l=>refs 0 0 (nz 0 s.σ.rw (cN l))=Y/\b (nz 0 s.σ.rw (cN l))
  |U=>False
def GoB(c:PC)(d:AV->Prop)(fn:Func)(a:aa AV):Prop:=
 match fn.body with
 |Z b=>Go c (Ret c (V fn.results) d) [.code b] .normal ⟨a++List.replicate (fn.ntmps-I a) .dead,emp⟩
 |U=>False
def jr(fn:Func):Bool:=match fn.body with
 |Z a=>iD a && !(fn.name=="runtime.NumGoroutine")
 |U=>Y
def dd.pur{P:aX}{C:Cfg}(h:dd P C)(p:Code->aa Nat)(q:Nat->Bool):dd P {C with pur:=p,lo:=q}:=⟨h.mixed,h.ty,h.fn,h.prim,h.inl⟩
def qkt{P:aX}{c:PC}(hC:dd P c.cfg){f:dm}{fn:Func}(hf:P.funcs[f]?=Z fn)(hb:jr fn=O)(p:aa AV->ac AV)
  (h:∀ args r,p args=Z r->∃ args' Pr p q,dR args args'/\(∀ v,Pr v->Sub v r)/\GoB { c with pur:=p,ld:=q } Pr fn args'):cp P f (fX p):=by
 unfold jr at hb;cases hc:fn.body with
 | none=>rw[hc]at hb;cases hb
 | some cd =>
 rw[hc]at hb;simp only[aK,fF]at hb;obtain⟨hd,hn⟩:=hb;refine⟨⟨fn,hf,by rw[hc];rfl,hn⟩,λ Γ σ w args vals r hi hr hp=>?_⟩;unfold fX at hp;split at hp<;>try cases hp
 split at hp<;>cases hp;rename_i v hv;obtain⟨args',Pr,pp,qq,g1,g2,hgo⟩:=h args v hv;have hC:dd P (PC.cfg { c with pur:=pp,ld:=qq }):=hC.pur pp _;unfold GoB at hgo;rw[hc]at hgo;obtain⟨n,e,s',g3,g4,g0⟩:=hgo;split at g0
 case h_2=>exact g0.elim
 rename_i l hl;obtain⟨g6,g7⟩:=g0
 have g5:od (PC.cfg { c with pur:=pp,ld:=qq }) fn s'=Z (cN l):=by
  unfold od;rw[hl]
 generalize cN l=rv at g5 g6 g7
 have hl:sa (PC.cfg { c with pur:=pp,ld:=qq }) fn emp s'=Z (nz 0 s'.σ.rw rv,U):=by
  unfold sa;rw[g5];simp only[mV];have f1:(s'.σ.wr.filter λ b=>J (b<I emp.bx))=[]:=qoN.2 λ b _=>by simp[emp]
  have f2:(s'.σ.wrr.filter λ b=>J (b<I emp.rw))=[]:=qoN.2 λ b _=>by simp[emp]
  have hk:vC emp rv s'.σ = Y:=by
   unfold vC;rw[f1];show(refs 0 0 (nz 0 s'.σ.rw rv)||false)=Y;rw[g6];rfl
  rw[hk,f1,f2];rfl
 have hcall:=qm5 (f:=f) (σ := emp) hC hf hc hd hi (g1.rep hr) (LA UK g3) g4 hl;apply Calls.mono hcall;rintro e' w' ⟨v',Γ',q1,q2,q3,q4,q5⟩;exact⟨v',Γ',q1,q2,q3,g2 _ g7 Γ' v' q4,q5⟩
section
variable {c:PC}{Q:Ex->S->Prop}{k:aa It}{tm:aa AV}{σ:St}{os:aM Oper}{d:Bool}{rest:aa Oper}{dst:ac Tmp}
def qjl(o:Oper):GM c Q k os d rest o tm σ (Z O)=Hd c Q k os d (cQ c.cfg.lo o.op&&ml c.cfg os (os.size-(I rest+1)) tm σ o.op) rest o.dst tm σ (jv c tm σ o.op):=rfl
end
end
end Go.AmZ
namespace Go.GxZ
open Go.RowKit
inductive T where
 |mk (kind:Int) (name:List UInt8) (sort:Int) (kids:List T)
namespace T
def kind:T->Int|mk k _ _ _=>k
def name:T->aa aA|mk _ n _ _=>n
def sort:T->Int|mk _ _ s _=>s
def kids:T->aa T|mk _ _ _ l=>l
def para{α:Type}(f:T->aa α->α)(t:T):α:=
 T.rec (motive_1:=λ _=>α) (motive_2:=λ _=>aa α) (λ k n s l c=>f (mk k n s l) c) [] (λ _ _ a b=>a::b) t
def para_eq{α : Type}(f:T->aa α -> α)(t:T):para f t=f t (t.kids.map (para f)):=by
 obtain⟨k,n,s,l⟩:=t;show f (mk k n s l) _=f (mk k n s l) _;congr 1;show T.rec_1 (motive_1 := λ _ => α) (motive_2 := λ _=>aa α) _ _ _ l=l.map (para f)
 induction l with
 | nil=>rfl
 | cons a l ih=>exact aY (para f a :: ·) ih
def ind{P:T->Prop}(h:∀t,(∀k∈t.kids,P k)->P t)(t:T):P t:=
 T.rec (motive_1:=P) (motive_2:=λ l=>∀k∈l,P k) (λ _ _ _ _ c=>h _ c) (λ k b=>by cases b)
  (λ a l e d k b=>by obtain rfl|b:=bi.1 b;exact e;exact d k b) t
end T
def ou{α:Type}(k:Nat)(R:α->aa ah->Prop)(Q:Nat->Prop)(w:ao)(a:ac Addr)(xs:aa α):Prop:=
 ∀(j:Nat) (x:α),xs[j]?=Z x->∃b off cs,a=Z ⟨b,off,U⟩/\Q b/\I cs=k/\(∀(i:Nat) (c:ah),cs[i]?=Z c->w.cell? ⟨b,off+j*k+i,U⟩=Z c)/\R x cs
def gw(Q:Nat->Prop)(w:ao):T->aa ah->Prop:=
 T.para λ t b cs=>∃a c,cs=[.int .i64 t.kind,.string ⟨t.name.toArray⟩,.int .i64 t.sort,.slice a (I b) c]/\ou 4 (λ r cs=>r cs) Q w a b
def Fm{Q:Nat->Prop}{w:ao}{t:T}{cs:aa ah}:
  gw Q w t cs↔∃a c,cs=[.int .i64 t.kind,.string ⟨t.name.toArray⟩,.int .i64 t.sort,.slice a (I t.kids) c]/\ou 4 (gw Q w) Q w a t.kids:=by
 unfold gw;rw[T.para_eq];simp only[ce];refine exists_congr λ a=>exists_congr λ c=>and_congr Iff.rfl ?_;constructor
 .intro h j x d;obtain⟨b,off,cs,l,k,i,g,f⟩:=h j _ (by rw[dC,d];rfl);grind
 .intro h j r d;rw[dC,Option.map_eq_some_iff]at d;obtain⟨x,e,rfl⟩:=d;exact h j x e
def ou.mono{α:Type}{k:Nat}{R R':α->aa ah->Prop}{Q d:Nat->Prop}{w:ao}{a:ac Addr}{xs:aa α}(h:ou k R Q w a xs)(f:∀b,Q b->d b)(e:∀x∈xs,∀cs,R x cs->R' x cs):ou k R' d w a xs:=
 λ j x c=>let⟨b,off,cs,h1,h2,h3,h4,h5⟩:=h j x c;⟨b,off,cs,h1,f b h2,h3,h4,e x (aP c) cs h5⟩
def ou.below{α:Type}{k:Nat}{R R':α->aa ah->Prop}{Q:Nat->Prop}{w w':ao}{a:ac Addr}{xs:aa α}(h:ou k R Q w a xs)(f:∀b,Q b->w'.heap[b]?=w.heap[b]?)(g:∀x∈xs,∀cs,R x cs->R' x cs):ou k R' Q w' a xs:=
 λ j x d=>let⟨b,off,cs,h1,h2,h3,h4,h5⟩:=h j x d;⟨b,off,cs,h1,h2,h3,λ i c e=>(World.cell?_of_block (w:=w) (a:=⟨b,off+j*k+i,U⟩) (f b h2)).trans (h4 i c e),g x (aP d) cs h5⟩
def gw.mono{Q d:Nat->Prop}{w:ao}(g:∀b,Q b->d b)(t:T):∀{cs:aa ah},gw Q w t cs->gw d w t cs:=by
 refine T.ind (P:=λ t=>∀{cs:aa ah},gw Q w t cs->gw d w t cs) ?_ t;intro t e cs h;rw[Fm]at h |-
 let⟨a,c,j,i⟩:=h;exact⟨a,c,j,i.mono g λ x f cs h=>e x f h⟩
def gw.keep{Q:Nat->Prop}{w w':ao}(f:∀b,Q b->w'.heap[b]?=w.heap[b]?)(t:T):∀{cs:aa ah},gw Q w t cs->gw Q w' t cs:=by
 refine T.ind (P:=λ t=>∀{cs:aa ah},gw Q w t cs->gw Q w' t cs) ?_ t;intro t d cs h;rw[Fm]at h |-
 let⟨a,c,i,g⟩:=h;exact⟨a,c,i,g.below f λ x e cs h=>d x e h⟩
def Yd(t:T)(a:ac Addr)(c:Nat):aa ah:=[.int .i64 t.kind,.string ⟨t.name.toArray⟩,.int .i64 t.sort,.slice a (I t.kids) c]
def ky(Q:Nat->Prop)(w:ao)(a:ac Addr)(l:aa T):Prop:=ou 4 (gw Q w) Q w a l
def gw.mk{Q:Nat->Prop}{w:ao}{t:T}{a:ac Addr}{c:Nat}(h:ky Q w a t.kids):gw Q w t (Yd t a c):=Fm.2 ⟨a,c,rfl,h⟩
def gw.out{Q:Nat->Prop}{w:ao}{t:T}{cs:aa ah}(h:gw Q w t cs):∃a c,cs=Yd t a c/\ky Q w a t.kids:=Fm.1 h
def ky.mono{Q d:Nat->Prop}{w:ao}{a:ac Addr}{l:aa T}(c:∀b,Q b->d b)(h:ky Q w a l):ky d w a l:=ou.mono h c λ _ _ _ h=>h.mono c
def ky.keep{Q:Nat->Prop}{w w':ao}{a:ac Addr}{l:aa T}(c:∀b,Q b->w'.heap[b]?=w.heap[b]?)(h:ky Q w a l):ky Q w' a l:=ou.below h c λ x _ _ h=>h.keep c x
def ky.at{Q:Nat->Prop}{w:ao}{a:ac Addr}{l:aa T}(h:ky Q w a l){j:Nat}{x:T}(f:l[j]?=Z x):
  ∃b off d e,a=Z ⟨b,off,U⟩/\Q b/\w.cell? ⟨b,off+j*4,U⟩=Z (.int .i64 x.kind)/\w.cell? ⟨b,off+j*4+1,U⟩=Z (.string ⟨x.name.toArray⟩)/\
   w.cell? ⟨b,off+j*4+2,U⟩=Z (.int .i64 x.sort)/\w.cell? ⟨b,off+j*4+3,U⟩=Z (.slice d (I x.kids) e)/\ky Q w d x.kids:=by
 let⟨b,off,cs,m,k,n,c,i⟩:=h j x f;obtain⟨d,e,rfl,g⟩:=i.out;exact⟨b,off,d,e,m,k,c 0 _ rfl,c 1 _ rfl,c 2 _ rfl,c 3 _ rfl,g⟩
def InW(Q:Nat->Prop)(w:ao):Prop:=∀b,Q b->b<w.heap.size
def InW.below{Q:Nat->Prop}{w w':ao}(h:InW Q w)(c:Below w.heap.size w w'):InW Q w':=λ b a=>cU (h b a) c.size
def ky.later{Q:Nat->Prop}{w w':ao}{a:ac Addr}{l:aa T}(h:ky Q w a l)(e:InW Q w)(d:Below w.heap.size w w'):ky Q w' a l:=h.keep λ b c=>d.block b (e b c)
def gw.later{Q:Nat->Prop}{w w':ao}{t:T}{cs:aa ah}(h:gw Q w t cs)(d:InW Q w)(c:Below w.heap.size w w'):gw Q w' t cs:=h.keep (λ b a=>c.block b (d b a)) t
end Go.GxZ
namespace Go.AmZ
open GxZ
section
def re(t:T):T:=.mk t.kind t.name t.sort t.kids
def aH(t:T):re t=t:=by let⟨k,n,s,l⟩:=t;rfl
inductive Ty where
 |int (k:IntKind)|bool|str|term|list (a:Ty)|pair (a b:Ty)|one (a:Ty)|map (a b:Ty)
 deriving DecidableEq
@[reducible] def Val:Ty->Type
  |.int _=>Int
  |.bool=>Bool
  |.str=>aa aA
  |.term=>T
  |.list a=>aa (Val a)
  |.pair a b=>Val a×Val b
  |.one a=>Val a
  |.map a b=>aa (Val a×Val b)
def Ty.size:Ty->Nat
 |.term=>4
 |.pair a b=>a.size+b.size
 |.one a=>a.size
 |_=>1
inductive TV where
 |i (k:IntKind) (n:Int)
 |b (x:Bool)
 |s (x:List UInt8)
 |c (x:ah)
 |nil
 |sl (τ:Ty) (l:List (Val τ)) (lv:Nat)
 |row (id ver:Nat)
 |ptr (b o:Nat)
 |pti (b:Nat) (i:Int)
 |rpt (id ver sv:Nat) (i:Int) (cs:List TV) (o:Nat)
 |ept (cs:List TV) (o:Nat)
 |fn (f:dm) (caps:List TV)
 |agg (cs:List TV)
 |tup (vs:List TV)
 |dead
 |mp (b:Nat)
 |mc (κ τ:Ty) (l:List (Val κ×Val τ))
structure cm where
 τ:Ty
 l:List (Val τ)
 ver:Nat
 sv:Nat
 sh:Bool
structure TS where
 bx:List (List TV)
 rw:List cm
abbrev Env:=aa (Nat×TV)
def get:Env->Nat->TV
 |[],_=>.dead
 |p::E,t=>match Nat.beq p.1 t with
   |O=>p.2
   |Y=>get E t
def lZ:ah->TV
 |.bool b=>.b b
 |.int k n=>.i k n
 |.string s=>.s (V s.data)
 |.slice U 0 0=>.nil
 |x=>match bQ x with
   |O=>.c x
   |Y=>.dead
def Uq:ah->TV
 |.agg cs=>match cs.toList.all bQ with
   |O=>.agg (cs.toList.map lZ)
   |Y=>.dead
 |.tuple vs=>match V vs with
   |[]=>.tup []
   |_=>.dead
 |x=>lZ x
def evT(E:Env):bw->TV
 |.tmp t=>get E t
 |.const x=>Uq x
 |.func f=>.fn f []
 |.global _=>.dead
def fw:TV->aa TV
 |.agg cs=>cs
 |x=>[x]
def mF:TV->Bool
 |.agg _|.tup _|.dead=>Y
 |_=>O
def js:(τ:Ty)->Val τ->aa TV
 |.int k,n=>[.i k n]
 |.bool,b=>[.b b]
 |.str,s=>[.s s]
 |.term,t=>[.i .i64 t.kind,.s t.name,.i .i64 t.sort,.sl .term t.kids 1]
 |.list a,l=>[.sl a l 1]
 |.pair a b,p=>js a p.1++js b p.2
 |.one a,v=>js a v
 |.map a b,l=>[.mc a b l]
def oL:(τ:Ty)->Val τ->TV
 |.int k,n=>.i k n
 |.bool,b=>.b b
 |.str,s=>.s s
 |.list a,l=>.sl a l 1
 |.term,t=>.agg (js .term t)
 |.pair a b,p=>.agg (js (.pair a b) p)
 |.one a,v=>.agg (js (.one a) v)
 |.map a b,l=>.mc a b l
def G2{c τ:Ty}(l:aa (Val c×Val τ))(a b:Ty):ac (aa (Val a×Val b)):=if h:c=a/\τ=b then Z (h.1▸h.2▸l)else U
def mu{τ:Ty}(l:aa (Val τ))(a:Ty):ac (aa (Val a)):=if h:τ=a then Z (h▸l)else U
def sy(rw:aa cm)(a:Ty):TV->ac (aa (Val a))
 |.nil=>Z []
 |.sl _ l _=>mu l a
 |.row id b=>match rw[id]? with
   |Z R=>match Nat.beq R.ver b with
     |O=>mu R.l a
     |Y=>U
   |U=>U
 |_=>U
def NS(k:IntKind):aa TV->ac (Int×aa TV)
 |.i a n::r=>match J (a=k)with
   |O=>Z (n,r)
   |Y=>U
 |_=>U
def MQ:aa TV->ac (Bool×aa TV)
 |.b x::r=>Z (x,r)
 |_=>U
def Nr:aa TV->ac (aa aA×aa TV)
 |.s x::r=>Z (x,r)
 |_=>U
def M4(a:TV->ac (aa T)):aa TV->ac (T×aa TV)
 |.i .i64 k::.s n::.i .i64 s::x::r=>match a x with
   |Z l=>Z (.mk k n s l,r)
   |U=>U
 |_=>U
def Nf{a:Type}(b:TV->ac a):aa TV->ac (a×aa TV)
 |x::r=>match b x with
   |Z l=>Z (l,r)
   |U=>U
 |_=>U
def vA{σ b a:Type}(p:aa σ->ac (b×aa σ))(q:aa σ->ac (a×aa σ))(cs:aa σ):ac ((b×a)×aa σ):=match p cs with
 |Z (x,r)=>match q r with
   |Z (y,r)=>Z ((x,y),r)
   |U=>U
 |U=>U
def N3(a b:Ty):aa TV->ac (aa (Val a×Val b)×aa TV)
 |.mc c τ l::r=>match G2 l a b with
   |Z l=>Z (l,r)
   |U=>U
 |_=>U
def pq(rw:aa cm):(τ:Ty)->aa TV->ac (Val τ×aa TV)
 |.int k=>NS k
 |.bool=>MQ
 |.str=>Nr
 |.term=>M4 (sy rw .term)
 |.list a=>Nf (sy rw a)
 |.pair a b=>vA (pq rw a) (pq rw b)
 |.one a=>pq rw a
 |.map a b=>N3 a b
def Ty.agg:Ty->Bool
 |.term|.pair _ _|.one _=>O
 |_=>Y
def sJ{a:Type}:ac (a×aa TV)->ac a
 |Z (v,[])=>Z v
 |_=>U
def GL:TV->Bool
 |.agg _=>O
 |_=>Y
def jK(rw:aa cm)(τ:Ty)(x:TV):ac (Val τ):=match eE τ.agg (GL x)with
 |O=>sJ (pq rw τ (fw x))
 |Y=>U
def xQ(rw:aa cm)(τ:Ty):aa TV->ac (aa (Val τ))
 |[]=>Z []
 |x::l=>match jK rw τ x with
   |Z v=>match xQ rw τ l with
     |Z vs=>Z (v::vs)
     |U=>U
   |U=>U
def sH:TV->Bool
 |.i .. |.b _|.s _|.c _|.nil|.sl .. |.fn .. |.mc .. => O
 |_=>Y
def px:TV->Bool
 |.agg cs=>cs.all sH
 |x=>sH x
inductive ATy where
 |val (τ:Ty)|fn
@[reducible] def lu:aa ATy->Type
  |[]=>Unit
  |.val τ::r=>Val τ×lu r
  |.fn::r=>lu r
@[reducible] def kE:aa Ty->Type
  |[]=>Unit
  |[a]=>Val a
  |a::b::r=>Val a×kE (b::r)
def Yn{σ:Type}:aa σ->ac Unit
 |[]=>Z ()
 |_=>U
def pD{σ b a:Type}(p:σ->ac b)(q:aa σ->ac a):aa σ->ac (b×a)
 |x::xs=>match p x with
   |Z v=>match q xs with
     |Z vs=>Z (v,vs)
     |U=>U
   |U=>U
 |[]=>U
def pFn{a:Type}(q:aa TV->ac a):aa TV->ac a
 |.fn _ []::xs=>q xs
 |_=>U
def GK(rw:aa cm):(ts:aa ATy)->aa TV->ac (lu ts)
 |[]=>Yn
 |.val τ::r=>pD (jK rw τ) (GK rw r)
 |.fn::r=>pFn (GK rw r)
def vp:aa TV->aa Nat
 |[]=>[]
 |.fn f _::l=>f::vp l
 |_::l=>vp l
def unL:(ts:aa Ty)->kE ts->aa TV
 |[],_=>[]
 |[a],v=>[oL a v]
 |a::b::r,v=>oL a v.1::unL (b::r) v.2
def AA:aa TV->TV
 |[x]=>x
 |l=>.tup l
structure Sig where
 args:List ATy
 res:List Ty
 fn:lu args->Option (kE res)
inductive RA where
 |val (τ:Ty)|row (τ:Ty)
@[reducible] def RA.T:RA->Type
  |.val τ=>Val τ
  |.row τ=>aa (Val τ)
@[reducible] def CV:aa RA->Type
  |[]=>Unit
  |a::r=>a.T×CV r
@[reducible] def BV:aa RA->Type
  |[]=>Unit
  |[a]=>a.T
  |a::b::r=>CV (a::b::r)
def toC:(l:aa RA)->BV l->CV l
 |[],_=>()
 |[_],v=>(v,())
 |_::_::_,v=>v
def toB:(l:aa RA)->CV l->BV l
 |[],_=>()
 |[_],v=>v.1
 |_::_::_,v=>v
def nR:aa RA->Nat
 |[]=>0
 |.val _::r=>nR r
 |.row _::r=>nR r+1
inductive SA where
 |val (τ:Ty)|row (τ:Ty)|box (l:List RA)|nil|clo (g k:Nat)
inductive RE where
 |one (a:RA)|agg (l:List RA)
@[reducible] def iI:aa SA->Type
  |[]=>Unit
  |.val τ::r=>Val τ×iI r
  |.row τ::r=>aa (Val τ)×iI r
  |.box l::r=>BV l×iI r
  |.nil::r|.clo _ _::r=>iI r
@[reducible] def fl:aa SA->Type
  |[]=>Unit
  |.box l::r=>BV l×fl r
  |.nil::r|.val _::r|.row _::r|.clo _ _::r=>fl r
@[reducible] def RV:aa RE->Type
  |[]=>Unit
  |.one a::r=>a.T×RV r
  |.agg l::r=>CV l×RV r
def nrB:aa SA->Nat
 |[]=>0
 |.box l::r=>nR l+nrB r
 |.nil::r|.val _::r|.row _::r|.clo _ _::r=>nrB r
def nBx:aa SA->Nat
 |[]=>0
 |.box _::r=>nBx r+1
 |.nil::r|.val _::r|.row _::r|.clo _ _::r=>nBx r
def sm:aa SA->Bool
 |[]=>O
 |.row _::_=>Y
 |.box _::r|.nil::r|.val _::r|.clo _ _::r=>sm r
def oG:aa SA->Bool
 |[]=>O
 |.box _::r=>sm r&&oG r
 |.nil::r|.val _::r|.row _::r|.clo _ _::r=>oG r
structure sZ where
 args:List SA
 res:List RE
 fn:iI args->Option (fl args×RV res)
structure vS where
 τ:Ty
 args:List SA
 fn:iI (.row τ::args)->Option (List (Val τ))
structure yi where
 args:List SA
 fn:iI args->Option Int
inductive Co where
 |keep|row (τ:Ty) (sh:Bool)|list (τ:Ty)|plist (τ:Ty)|box (cs:List Co)|fn (cs:List Co)
structure TC where
 ty:Nat->Option TD
 el:Nat->Option Ty
 has:Nat->Bool
 pf:Nat->List Nat->Option Sig
 sf:Nat->Option sZ
 loop:Nat->Option (List (Tmp×Co))
 join:Nat->Option (List (Tmp×Co))
 nt:Nat
 np:Nat
 ld:Nat->Bool
 mf:Nat->Option vS
 xf:Nat->Option yi
 inl:Nat->Option Func
def TC.rawT(c:TC)(f:Nat):Bool:=match c.has f with
 |O=>Y
 |Y=>match c.mf f with
   |Z _=>O
   |U=>match c.xf f with
     |Z _=>O
     |U=>match c.sf f with
       |Z _=>O
       |U=>Y
def TC.loT(c:TC)(f:Nat):Bool:=c.rawT f||(c.ld f||(c.inl f).isSome)
abbrev TC.n2(c:TC):Nat×Nat:=(c.nt,c.np)
def ae{α b:Type}(x:ac α)(k:α->ac b):ac b:=match x with
 |Z a=>k a
 |U=>U
def xZ{α c:Type}(x:ac c)(a:α)(f:c->α):α:=match x with
 |U=>a
 |Z b=>f b
def qB{α b:Type}(l:aa b)(a:α)(f:b->aa b->α):α:=match l with
 |[]=>a
 |x::r=>f x r
def av{α:Type}(l:aa α)(j:Int):ac α:=if 0<=j then l[j.toNat]? else U
def ixb(j:Int)(n:Nat):Bool:=J (0<=j/\j<(n:Int))
def xO:aa TV->ac (aa Bool)
 |[]=>Z []
 |.b x::l=>match xO l with
   |Z r=>Z (x::r)
   |U=>U
 |_=>U
def qH:aa Bool->Int->Bool->Nat->aa Bool
 |[],_,_,_=>[]
 |e::l,i,v,j=>cond (ieq i (j:Int)) v e::qH l i v (j+1)
def inb(i:Int)(y:Nat):Bool:=J (0<=i/\i<=y)
def cy{α:Type}(l:aa α)(j:Int)(v:α):aa α:=if 0<=j then l.set j.toNat v else l
def AM(n:Int)(bytes:Nat):Bool:=J (0<=n/\n.toNat*bytes<=2^47/\n.toNat<2^62)
def NW:bw->bw->Bool
 |.tmp a,.tmp b=>Nat.beq a b
 |.const (.int k a),.const (.int c b)=>J (k=c)&&J (a=b)
 |_,_=>Y
def shA(σ:TS):TS:=⟨σ.bx,σ.rw.map λ R=>⟨R.τ,R.l,R.ver,R.sv,O⟩⟩
def AL:Ty->Bool
 |.int _|.bool|.str=>O
 |_=>Y
def gA{α:Type}(l:aa α)(a b:Int):aa α:=(l.take b.toNat).drop a.toNat
def nl(a b:aa aA):Bool:=Nat.ble (I a+I b) 9223372036854775807
def bM(n bytes:Nat):Bool:=J (n*bytes<=2^47/\n<2^62)
def aT(a b:aa aA):Bool:=a==b
def slt(a b:aa aA):Bool:=Op.bytesLess a b
def gI(l:aa Int):aa aA:=l.map λ n=>UInt8.ofNat n.toNat
def ln(s:aa aA):aa Int:=s.map λ b=>((b.toNat:Nat):Int)
def MD:ac TD->Bool
 |Z ⟨_,_,_,_,.ptr⟩=>O
 |_=>Y
def MS:TV->TV->ac Bool
 |.c (.pointer U),.c (.pointer U)=>Z O
 |.ptr _ _,.c (.pointer U)|.rpt _ _ _ _ _ _,.c (.pointer U)|.ept _ _,.c (.pointer U)=>Z Y
 |_,_=>U
section
variable {α:Type}
abbrev KT(α:Type):=TV->ac TS->ac α
def ON(op:mN)(k:IntKind)(a b:Int)(K:TV->ac α):ac α:=
 match op with
 |.add=>K (.i k (iw k (aD a b)))
 |.sub=>K (.i k (iw k (cr a b)))
 |.mul=>K (.i k (iw k (Oh a b)))
 |.quo=>cond (ieq b 0) U (K (.i k (iw k (OM a b))))
 |.rem=>cond (ieq b 0) U (K (.i k (Oc a b)))
 |.and=>K (.i k (qP .and k a b))
 |.or=>K (.i k (qP .or k a b))
 |.xor=>K (.i k (qP .xor k a b))
 |.andNot=>K (.i k (qP .andNot k a b))
 |.eql=>K (.b (ieq a b))
 |.neq=>K (.b (au (ieq a b)))
 |.lss=>K (.b (ilt a b))
 |.leq=>K (.b (ile a b))
 |.gtr=>K (.b (ilt b a))
 |.geq=>K (.b (ile b a))
 |_=>U
def OG(op:mN)(x y:aa aA)(K:TV->ac α):ac α:=
 match op with
 |.add=>cond (nl x y) (K (.s (x++y))) U
 |.eql=>K (.b (aT x y))
 |.neq=>K (.b (au (aT x y)))
 |.lss=>K (.b (slt x y))
 |.leq=>K (.b (tf (slt x y) (aT x y)))
 |.gtr=>K (.b (au (tf (slt x y) (aT x y))))
 |.geq=>K (.b (au (slt x y)))
 |_=>U
def GU:ac TD->Bool
 |Z ⟨_,_,_,_,.bool⟩=>O
 |_=>Y
def No(d:ac TD)(op:mN)(x y:TV)(K:TV->ac α):ac α:=
 match x,y with
 |.i k a,.i c b=>match op with
   |.shl=>cond (ilt b 0) U (K (.i k (OA k a b)))
   |.shr=>cond (ilt b 0) U (K (.i k (qO k a b)))
   |op=>match J (k=c)with
     |O=>ON op k a b K
     |Y=>U
 |.s a,.s b=>OG op a b K
 |.b a,.b b=>match op,GU d with
   |.eql,O=>K (.b (eE a b))
   |.neq,O=>K (.b (au (eE a b)))
   |_,_=>U
 |_,_=>U
def G4(place:Nat->ac (Nat×Nat))(cells:aa TV):aa (Nat×TV)->ac (aa TV)
 |[]=>Z cells
 |(i,x)::a=>match place i with
   |U=>U
   |Z (off,size)=>match J (I (fw x)=size)&&J (off+size<=I cells)&&(fw x).all mF with
     |O=>G4 place (cells.take off++(fw x++cells.drop (off+size))) a
     |Y=>U
def sq(a:Bool)(size:Nat)(cs:aa TV)(o:Nat):ac TV:=
 match a with
 |O=>match J (o+size<=I cs)with
   |O=>Z (.agg ((cs.drop o).take size))
   |Y=>U
 |Y=>cs[o]?
def pd(d:Int)(E:Env):ac bw->ac Int
 |U=>Z d
 |Z x=>match evT E x with
   |.i _ n=>Z n
   |_=>U
def veq:(c:Ty)->Val c->Val c->Bool
 |.int _,a,b=>ieq a b
 |.str,a,b=>aT a b
 |.bool,a,b=>eE a b
 |.pair c τ,a,b=>veq c a.1 b.1&&veq τ a.2 b.2
 |.one c,a,b=>veq c a b
 |_,_,_=>Y
def kcT:Ty->aa KC
 |.int k=>[.int k]
 |.str=>[.str]
 |.bool=>[.bool]
 |.pair a b=>kcT a++kcT b
 |.one a=>kcT a
 |_=>[]
def km:Ty->Bool
 |.int _|.str|.bool=>O
 |.pair a b=>km a&&km b
 |.one a=>km a
 |_=>Y
def bS{K X:Type}(eq:K->K->Bool):aa (K×X)->K->ac X
 |[],_=>U
 |p::l,k=>cond (eq k p.1) (Z p.2) (bS eq l k)
def cX{K X:Type}(eq:K->K->Bool)(z:X)(l:aa (K×X))(k:K):X:=xZ (bS eq l k) z id
def lE{K X:Type}(eq:K->K->Bool)(l:aa (K×X))(k:K):Bool:=xZ (bS eq l k) Y λ _=>O
def fQ{K X:Type}(eq:K->K->Bool):aa (K×X)->K->X->aa (K×X)
 |[],k,v=>[(k,v)]
 |p::l,k,v=>cond (eq k p.1) ((p.1,v)::l) (p::fQ eq l k v)
def AQ:aa TV->Bool
 |[.dead]|[.mc ..]=>Y
 |_=>O
def AJ(σ:TS)(a τ:Ty):TV->ac (Nat×aa (Val a×Val τ))
 |.mp b=>match σ.bx[b]? with
   |Z [.mc _ _ l]=>match G2 l a τ with
     |Z l=>Z (b,l)
     |U=>U
   |_=>U
 |_=>U
def xR(c:TC)(t:Nat):ac (Ty×Ty):=match c.ty t,c.el t with
 |Z ⟨_,_,_,_,.map e f d b _⟩,Z (.map a τ)=>match J (e=kcT a)&&(eE f a.agg&&(eE d τ.agg&&(J (b=τ.size)&&km a)))with
   |O=>Z (a,τ)
   |Y=>U
 |_,_=>U
def Oz(c:TC)(t:Nat)(τ:Ty):ac (Val τ):=match c.ty t with
 |Z ⟨_,_,_,_,.map _ _ _ b a⟩=>match a.all bQ&&J (I a=b)with
   |O=>sJ (pq [] τ (a.map lZ))
   |Y=>U
 |_=>U
def xP(c:TC)(E:Env)(σ:TS)(t:Nat)(m k v:bw)(K:KT α):ac α:=match xR c t with
 |Z (a,τ)=>match AJ σ a τ (evT E m),px (evT E v)with
   |Z (b,l),O=>match jK σ.rw a (evT E k),jK σ.rw τ (evT E v)with
     |Z k,Z v=>K (.tup []) (Z {σ with bx:=σ.bx.set b [.mc a τ (fQ (veq a) l k v)]})
     |_,_=>U
   |_,_=>U
 |U=>U
def eT(c:TC)(E:Env)(σ:TS)(op:Op)(K:KT α):ac α:=
 match op with
 |.move x|.assign x=>K (evT E x) U
 |.pick x a b=>match evT E x with
   |.b y=>cond y (K (evT E a) U) (K (evT E b) U)
   |_=>U
 |.alloc e=>match c.ty e with
   |Z d=>match d.zero.all bQ with
     |O=>K (.ptr (I σ.bx) 0) (Z {σ with bx:=σ.bx++[d.zero.map lZ]})
     |Y=>U
   |U=>U
 |.box e x=>match c.ty e with
   |Z _=>match(fw (evT E x)).all mF with
     |O=>K (.ptr (I σ.bx) 0) (Z {σ with bx:=σ.bx++[fw (evT E x)]})
     |Y=>U
   |U=>U
 |.build t parts=>match c.ty t with
   |Z ⟨_,_,_,z,.struct w⟩=>match z.all bQ with
     |O=>match G4 (λ i=>match w[i]? with|Z f=>Z (f.1,f.2.1)|U=>U) (z.map lZ) (parts.toList.map λ p=>(p.1,evT E p.2))with
       |Z cs=>K (.agg cs) U
       |U=>U
     |Y=>U
   |_=>U
 |.buildSlice t n parts=>match c.ty t,c.el t with
   |Z ⟨_,_,_,_,.slice _ k _ _⟩,Z τ=>match J (k=τ.size)&&J (parts.size=n)&&J (n*k<=2^24)&&J (0<k)&&(parts.toList.zipIdx.all λ p=>J (p.1.1=p.2))with
     |O=>match xQ σ.rw τ (parts.toList.map λ p=>evT E p.2)with
       |Z vs=>K (.sl τ vs 2) (match(parts.toList.all λ p=>px (evT E p.2))with|O=>U|Y=>Z (shA σ))
       |U=>U
     |Y=>U
   |_,_=>U
 |.load t a=>match c.ty t with
   |Z d=>match evT E a with
     |.ptr b o=>match σ.bx[b]? with
       |Z cs=>match AQ cs with
         |O=>match sq d.agg d.size cs o with
           |Z x=>K x U
           |U=>U
         |Y=>U
       |U=>U
     |.ept cs o=>match sq d.agg d.size cs o with
       |Z x=>K x U
       |U=>U
     |.pti b i=>match σ.bx[b]? with
       |Z cs=>match d.agg,xO cs with
         |Y,Z l=>ae (av l i) λ v=>K (.b v) U
         |_,_=>U
       |U=>U
     |.rpt id q u i cs o=>match σ.rw[id]? with
       |Z R=>match Nat.beq R.ver q with
         |O=>match Nat.beq R.sv u with
           |O=>match sq d.agg d.size cs o with
             |Z x=>K x U
             |U=>U
           |Y=>match R.sh with
             |O=>U
             |Y=>ae (av R.l i) λ v=>match sq d.agg d.size (js R.τ v) o with
               |Z x=>K x U
               |U=>U
         |Y=>U
       |U=>U
     |_=>U
   |U=>U
 |.store t a x=>match c.ty t,evT E a with
   |Z d,.ptr b o=>match σ.bx[b]? with
     |Z cs=>match AQ cs&&J (I (fw (evT E x))=d.size)&&J (o+d.size<=I cs)&&(fw (evT E x)).all mF with
       |O=>K (.tup []) (Z {σ with bx:=σ.bx.set b (cs.take o++(fw (evT E x)++cs.drop (o+d.size)))})
       |Y=>U
     |U=>U
   |Z d,.pti b i=>match σ.bx[b]?,evT E x with
     |Z cs,.b v=>match xO cs,Nat.beq d.size 1 with
       |Z l,O=>cond (ixb i (I l)) (K (.tup []) (Z {σ with bx:=σ.bx.set b ((qH l i v 0).map .b)})) U
       |_,_=>U
     |_,_=>U
   |Z d,.rpt id q u i cs o=>match σ.rw[id]? with
     |Z R=>match Nat.beq R.ver q&&Nat.beq R.sv u && !R.sh&&J (I (fw (evT E x))=d.size)&&J (o+d.size<=I cs)&&(fw (evT E x)).all sH with
       |O=>match sJ (pq σ.rw R.τ (cs.take o++(fw (evT E x)++cs.drop (o+d.size))))with
         |Z v=>K (.tup []) (Z {σ with rw:=σ.rw.set id ⟨R.τ,cy R.l i v,R.ver,R.sv+1,R.sh⟩})
         |U=>U
       |Y=>U
     |U=>U
   |_,_=>U
 |.makeSlice t n m=>match c.ty t,c.el t,evT E n with
   |Z ⟨_,_,_,_,.slice _ k bytes z⟩,Z τ,.i _ a=>match NW n m&&J (k=τ.size)&&J (0<k)&&J (I z=k)&&z.all bQ with
     |O=>match sJ (pq [] τ (z.map lZ))with
       |Z v=>cond (AM a bytes) (K (.row (I σ.rw) 0) (Z {σ with rw:=σ.rw++[⟨τ,List.replicate a.toNat v,0,0,Y⟩]})) U
       |U=>U
     |Y=>U
   |_,_,_=>U
 |.nilCheck x=>match evT E x with
   |.ptr b o=>K (.ptr b o) U
   |.ept cs o=>K (.ept cs o) U
   |.rpt id q u i cs o=>K (.rpt id q u i cs o) U
   |_=>U
 |.binOp op t x y _=>match MS (evT E x) (evT E y)with
   |Z b=>match op,MD (c.ty t)with
     |.eql,O=>K (.b b) U
     |.neq,O=>K (.b (!b)) U
     |_,_=>U
   |U=>No (c.ty t) op (evT E x) (evT E y) λ v=>K v U
 |.unOp op _ x=>match op,evT E x with
   |.neg,.i k n=>K (.i k (iw k (cr 0 n))) U
   |.not,.b y=>K (.b (au y)) U
   |_,_=>U
 |.convert s d x=>match c.ty s,c.ty d,evT E x with
   |Z _,Z ⟨_,_,_,_,.int k⟩,.i _ n=>K (.i k (iw k n)) U
   |Z _,Z ⟨_,_,_,_,.string⟩,.s y=>K (.s y) U
   |Z ⟨_,_,_,_,.string⟩,Z ⟨_,_,_,_,.slice e 1 _ _⟩,.s y=>match sQ (c.ty e)with
     |O=>K (.row (I σ.rw) 0) (Z {σ with rw:=σ.rw++[⟨.int .u8,ln y,0,0,Y⟩]})
     |Y=>U
   |Z ⟨_,_,_,_,.slice e 1 _ _⟩,Z ⟨_,_,_,_,.string⟩,y=>match sQ (c.ty e),sy σ.rw (.int .u8) y with
     |O,Z l=>K (.s (gI l)) U
     |_,_=>U
   |_,_,_=>U
 |.makeFunc (.func f) w cs=>match V w with
   |[]=>K (.fn f (cs.toList.map (evT E))) U
   |_=>U
 |.slice t x lo A U=>match c.ty t,evT E x with
   |Z ⟨_,_,_,_,.string⟩,.s y=>match pd (I y) E A with
     |Z h=>match pd 0 E lo with
       |Z l=>cond (inb h (I y)) (cond (inb l h.toNat) (K (.s (gA y l h)) U) U) U
       |U=>U
     |U=>U
   |Z ⟨_,_,_,_,.slice _ k _ _⟩,.sl τ y D=>match J (τ.size=k)&&pos D with
     |O=>match pd (I y) E A with
       |Z h=>match pd 0 E lo with
         |Z l=>cond (inb h (I y)) (cond (inb l h.toNat) (K (.sl τ (gA y l h) 1) U) U) U
         |U=>U
       |U=>U
     |Y=>U
   |Z ⟨_,_,_,_,.slice _ _ _ _⟩,.nil=>match pd 0 E A with
     |Z h=>match pd 0 E lo with
       |Z l=>cond (inb h 0) (cond (inb l h.toNat) (K .nil U) U) U
       |U=>U
     |U=>U
   |Z ⟨_,_,_,_,.slice _ k _ _⟩,.row id q=>match A,σ.rw[id]? with
     |U,Z R=>match Nat.beq R.ver q&&J (R.τ.size=k)with
       |O=>match pd 0 E lo with
         |Z l=>cond (inb l (I R.l)) (K (.row id (q+1)) (Z {σ with rw:=σ.rw.set id ⟨R.τ,R.l.drop l.toNat,q+1,R.sv,O⟩})) U
         |U=>U
       |Y=>U
     |_,_=>U
   |_,_=>U
 |.fieldAddr t x i=>match c.ty t with
   |Z ⟨_,_,_,_,.struct w⟩=>match w[i]? with
     |Z (off,size,_)=>match size with
       |0=>U
       |_+1=>match evT E x with
         |.ptr b o=>K (.ptr b (o+off)) U
         |.ept cs o=>K (.ept cs (o+off)) U
         |.rpt id q u i cs o=>K (.rpt id q u i cs (o+off)) U
         |_=>U
     |U=>U
   |_=>U
 |.field t x i=>match c.ty t,evT E x with
   |Z ⟨_,_,_,_,.struct w⟩,.agg cs=>match w[i]? with
     |Z (off,size,g)=>match sq g size cs off with
       |Z y=>K y U
       |U=>U
     |U=>U
   |_,_=>U
 |.indexAddr t x i=>match c.ty t,evT E i with
   |Z ⟨_,_,_,_,.slice _ k _ _⟩,.i _ j=>match evT E x with
     |.sl τ l _=>match J (τ.size=k)with
       |O=>ae (av l j) λ v=>K (.ept (js τ v) 0) U
       |Y=>U
     |.row id q=>match σ.rw[id]? with
       |Z R=>match Nat.beq R.ver q&&J (R.τ.size=k)with
         |O=>ae (av R.l j) λ v=>K (.rpt id q R.sv j (js R.τ v) 0) U
         |Y=>U
       |U=>U
     |_=>U
   |Z ⟨_,_,_,_,.array n _ 1⟩,.i _ j=>match evT E x with
     |.ptr b 0=>cond (ixb j n) (K (.pti b j) U) U
     |_=>U
   |_,_=>U
 |.index t x i=>match c.ty t,evT E x,evT E i with
   |Z ⟨_,_,_,_,.string⟩,.s y,.i _ j=>ae (av y j) λ v=>K (.i .u8 v.toNat) U
   |_,_,_=>U
 |.extract x i=>match evT E x with
   |.tup vs=>match vs[i]? with
     |Z y=>K y U
     |U=>U
   |_=>U
 |.makeMap t U=>match xR c t with
   |Z (r,τ)=>K (.mp (I σ.bx)) (Z {σ with bx:=σ.bx++[[.mc r τ []]]})
   |U=>U
 |.lookup t m k C=>match xR c t with
   |Z (r,τ)=>match AJ σ r τ (evT E m),Oz c t τ,jK σ.rw r (evT E k)with
     |Z (_,l),Z z,Z k=>match C with
       |O=>K (.tup [oL τ (cX (veq r) z l k),.b (lE (veq r) l k)]) U
       |Y=>K (oL τ (cX (veq r) z l k)) U
     |_,_,_=>U
   |U=>U
 |.mapUpdate t m k v|.insert t m k v=>xP c E σ t m k v K
 |_=>U
def HG(k bytes:Nat)(σ:TS)(τ:Ty)(s:TV)(xs:aa (Val τ))(K:KT α):ac α:=
 match s with
 |.nil=>qB xs (K .nil U) λ x r=>cond (bM (I r+1) bytes) (K (.row (I σ.rw) 0) (Z {σ with rw:=σ.rw++[⟨τ,x::r,0,0,Y⟩]})) U
 |.sl b l c=>match J (1<c)with
   |O=>match mu l τ with
     |Z l=>cond (bM (I l+I xs) bytes) (qB xs (K s U) λ x r=>K (.row (I σ.rw) 0) (Z {σ with rw:=σ.rw++[⟨τ,l++(x::r),0,0,Y⟩]})) U
     |U=>U
   |Y=>U
 |.row id a=>match σ.rw[id]? with
   |Z R=>match Nat.beq R.ver a with
     |O=>match mu R.l τ with
       |Z l=>cond (bM (I l+I xs) bytes) (K (.row id (a+1)) (Z {σ with rw:=σ.rw.set id ⟨τ,l++xs,a+1,R.sv,R.sh⟩})) U
       |U=>U
     |Y=>U
   |U=>U
 |_=>U
def KL(c:TC)(σ:TS)(b:Builtin)(ts:aM aO)(f:aa TV)(K:KT α):ac α:=
 match b,f with
 |.len,[x]=>match ts[0]? with
   |Z t=>match c.ty t with
     |Z d=>match d.k,x with
       |.string,.s y=>K (.i .i64 (I y)) U
       |.slice ..,.nil=>K (.i .i64 0) U
       |.slice ..,.sl _ l _=>K (.i .i64 (I l)) U
       |.slice ..,.row id g=>match σ.rw[id]? with
         |Z R=>match Nat.beq R.ver g with
           |O=>K (.i .i64 (I R.l)) U
           |Y=>U
         |U=>U
       |.map ..,.mp b=>match xR c t with
         |Z (j,τ)=>match AJ σ j τ (.mp b)with
           |Z (_,l)=>K (.i .i64 (I l)) U
           |U=>U
         |U=>U
       |_,_=>U
     |U=>U
   |U=>U
 |.append,[s,x]=>match ts[0]?,ts[1]? with
   |Z t,Z u=>match c.ty t,c.ty u,c.el t with
     |Z ⟨_,_,_,_,.slice _ k bytes z⟩,Z ⟨_,_,_,_,.slice _ _ _ _⟩,Z τ=>match J (0<k)&&J (I z=k)&&J (k=τ.size)with
       |O=>match sy σ.rw τ x with
         |Z xs=>HG k bytes σ τ s xs K
         |U=>U
       |Y=>U
     |Z ⟨_,_,_,_,.slice e 1 bytes z⟩,Z ⟨_,_,_,_,.string⟩,Z (.int .u8)=>match J (I z=1)&&sQ (c.ty e),x with
       |O,.s y=>HG 1 bytes σ (.int .u8) s (ln y) K
       |_,_=>U
     |_,_,_=>U
   |_,_=>U
 |.max,[.i k a,.i h b]=>match J (k=h)with|O=>K (.i k (pw a b)) U|Y=>U
 |.min,[.i k a,.i h b]=>match J (k=h)with|O=>K (.i k (NU a b)) U|Y=>U
 |_,_=>U
def mC(rw:aa cm)(τ:Ty):TV->ac (aa (Val τ)×aa Nat)
 |.nil=>Z ([],[])
 |.sl a l c=>match mu l τ,J (1<c)with
   |Z [],O=>Z ([],[])
   |_,_=>U
 |.row id b=>match rw[id]? with
   |Z R=>match Nat.beq R.ver b && !R.sh with
     |O=>match mu R.l τ with
       |Z l=>Z (l,[id])
       |U=>U
     |Y=>U
   |U=>U
 |_=>U
def fB(rw:aa cm):(l:aa RA)->aa TV->ac (CV l×aa Nat×Bool)
 |[],[]=>Z ((),[],O)
 |[],_::_=>U
 |.val τ::r,cs=>match sJ (pq rw τ (cs.take τ.size)),fB rw r (cs.drop τ.size)with
   |Z v,Z (vs,a,q)=>Z ((v,vs),a,(cs.take τ.size).all sH&&q)
   |_,_=>U
 |.row τ::r,c::cs=>match mC rw τ c,fB rw r cs with
   |Z (v,i),Z (vs,a,q)=>Z ((v,vs),i++a,q)
   |_,_=>U
 |.row _::_,[]=>U
def ve:aa RA->Bool
 |[.val (.map _ _)]=>O
 |_=>Y
def bxT(l:aa RA)(b:Nat):TV:=match ve l with
 |O=>.mp b
 |Y=>.ptr b 0
def Ny(l:aa RA)(x:TV):ac Nat:=match ve l,x with
 |O,.mp b|Y,.ptr b 0=>Z b
 |_,_=>U
def Zg(rw:aa cm)(c:aa (aa TV))(l:aa RA)(x:TV):ac (CV l×aa Nat×Nat):=match Ny l x with
 |Z b=>match c[b]? with
   |Z cs=>match fB rw l cs with
     |Z (v,a,O)=>Z (v,a,b)
     |_=>U
   |U=>U
 |U=>U
def dB(σ:TS):(sas:aa SA)->aa TV->ac (iI sas×aa Nat×aa Nat)
 |[],[]=>Z ((),[],[])
 |.val τ::r,x::xs=>match px x,jK σ.rw τ x with
   |O,Z v=>match dB σ r xs with
     |Z (vs,q)=>Z ((v,vs),q)
     |U=>U
   |_,_=>U
 |.row τ::r,x::xs=>match mC σ.rw τ x with
   |Z (l,a)=>match dB σ r xs with
     |Z (vs,d,c)=>Z ((l,vs),d,a++c)
     |U=>U
   |U=>U
 |.box l::r,x::xs=>match Zg σ.rw σ.bx l x with
   |Z (v,a,b)=>match dB σ r xs with
     |Z (vs,d,c)=>Z ((toB l v,vs),b::d,a++c)
     |U=>U
   |U=>U
 |.nil::r,.nil::xs=>dB σ r xs
 |.clo g k::r,.fn e cs::xs=>match Nat.beq g e&&Nat.beq (I cs) k with
   |O=>dB σ r (cs++xs)
   |Y=>U
 |_,_=>U
def ndN:aa Nat->Bool
 |[]=>O
 |b::l=>(l.all λ c => !Nat.beq b c)&&ndN l
def vt(rw:aa cm)(a:aa Nat):aa cm:=a.foldl (λ l i=>l.modify i λ R=>⟨R.τ,[],R.ver+1,R.sv,Y⟩) rw
def qr:(l:aa RA)->Nat->CV l->aa TV
 |[],_,_=>[]
 |.val τ::r,L,v=>js τ v.1++qr r L v.2
 |.row _::r,L,v=>.row L 0::qr r (L+1) v.2
def lr:(l:aa RA)->CV l->aa cm
 |[],_=>[]
 |.val _::r,v=>lr r v.2
 |.row τ::r,v=>⟨τ,v.1,0,0,Y⟩::lr r v.2
def nn:(sas:aa SA)->Nat->fl sas->aa (aa TV)
 |[],_,_=>[]
 |.box l::r,L,o=>qr l L (toC l o.1)::nn r (L+nR l) o.2
 |.nil::r,L,o|.val _::r,L,o|.row _::r,L,o|.clo _ _::r,L,o=>nn r L o
def iM:(sas:aa SA)->fl sas->aa cm
 |[],_=>[]
 |.box l::r,o=>lr l (toC l o.1)++iM r o.2
 |.nil::r,o|.val _::r,o|.row _::r,o|.clo _ _::r,o=>iM r o
def xW(a:aa (aa TV)):aa Nat->aa (aa TV)->aa (aa TV)
 |b::c,x::xs=>xW (a.set b x) c xs
 |_,_=>a
def Bc(nb NB:Nat):(a:aa RE)->Nat->RV a->aa TV
 |[],_,_=>[]
 |.one (.val τ)::r,L,v=>oL τ v.1::Bc nb NB r L v.2
 |.one (.row _)::r,L,v=>.row L 0::Bc nb NB r (L+1) v.2
 |.agg l::r,L,v=>.agg (qr l L v.1)::Bc nb NB r (L+nR l) v.2
def A3:(a:aa RE)->RV a->aa cm
 |[],_=>[]
 |.one (.val _)::r,v=>A3 r v.2
 |.one (.row τ)::r,v=>⟨τ,v.1,0,0,Y⟩::A3 r v.2
 |.agg l::r,v=>lr l v.1++A3 r v.2
def Bj:(a:aa RE)->Nat->RV a->aa (aa TV)
 |[],_,_=>[]
 |.one (.val _)::r,L,v=>Bj r L v.2
 |.one (.row _)::r,L,v=>Bj r (L+1) v.2
 |.agg l::r,L,v=>Bj r (L+nR l) v.2
def nRA:RA->Nat
 |.val _=>0
 |.row _=>1
def vc(rws:aa cm):(f:aa RE)->Nat->Nat->RV f->((c:aa RE)->RV c->ac α)->ac α
 |[],_,_,_,k=>k [] ()
 |.one a::r,nb,d,v,k=>vc rws r nb (d+nRA a) v.2 λ e b=>k (.one a::e) (v.1,b)
 |.agg l::r,nb,d,v,k=>vc rws r nb (d+nR l) v.2 λ e b=>k (.agg l::e) (v.1,b)
def Mo(σ:TS)(g:vS)(b:aa TV)(K:KT α):ac α:=match b with
 |x::xs=>match mC σ.rw g.τ x,dB σ g.args xs with
   |Z (l,c),Z (a,[],[])=>match oG g.args with
     |O=>match c with
       |[id]=>ae (g.fn (l,a)) λ v=>cond (Nat.beq (I v) (I l)) (K (.tup []) (Z ⟨σ.bx,σ.rw.modify id λ R=>⟨g.τ,v,R.ver,R.sv+1,Y⟩⟩)) U
       |[]=>ae (g.fn (l,a)) λ v=>cond (Nat.beq (I v) (I l)) (K (.tup []) U) U
       |_=>U
     |Y=>U
   |_,_=>U
 |[]=>U
def Mt(σ:TS)(g:yi)(b:aa TV)(K:KT α):ac α:=match dB σ g.args b with
 |Z (a,d,c)=>match ndN d&&(ndN c&&oG g.args)with
   |O=>ae (g.fn a) λ v=>K (.i .i64 v) U
   |Y=>U
 |U=>U
def G0(c:TC)(σ:TS)(f:Nat)(b:aa TV)(K:KT α):ac α:=match c.mf f with
 |Z g=>Mo σ g b K
 |U=>match c.xf f with
   |Z g=>Mt σ g b K
   |U=>match c.sf f with
     |Z g=>match dB σ g.args b with
       |Z (a,i,h)=>match ndN i&&(ndN h&&oG g.args)with
         |O=>ae (g.fn a) λ v=>vc (iM g.args v.1) g.res (nBx g.args) (nrB g.args) v.2 λ d e=>K (AA (Bc (I σ.bx) (nBx g.args) d (I σ.rw+nrB g.args) e)) (Z ⟨xW σ.bx i (nn g.args (I σ.rw) v.1)++Bj d (I σ.rw+nrB g.args) e,vt σ.rw h++(iM g.args v.1++A3 d e)⟩)
         |Y=>U
       |U=>U
     |U=>U
def Ng(c:TC)(σ:TS)(f:Nat)(a:aa TV)(K:KT α):ac α:=
 match c.has f,c.pf f (vp a)with
 |O,Z g=>match GK σ.rw g.args a with
   |Z sas=>ae (g.fn sas) λ v=>K (AA (unL g.res v)) (match a.all px||g.res.all AL with|O=>U|Y=>Z (shA σ))
   |U=>U
 |O,U=>U
 |Y,_=>G0 c σ f a K
def opT(c:TC)(E:Env)(σ:TS)(op:Op)(K:KT α):ac α:=
 match op with
 |.call ⟨.builtin b,a,ts⟩=>KL c σ b ts (a.toList.map (evT E)) K
 |.call ⟨.value g,a,_⟩=>match evT E g with
   |.fn f cs=>match c.inl f with
     |Z _=>U
     |U=>match cs with
       |[]=>Ng c σ f (a.toList.map (evT E)) K
       |x::cs=>match c.has f with
         |O=>U
         |Y=>G0 c σ f (a.toList.map (evT E)++(x::cs)) K
   |_=>U
 |.call _=>U
 |op=>eT c E σ op K
def Bd(c:TC)(E:Env)(d:ac Tmp)(x:TV)(K:Env->ac α):ac α:=match d with
 |U=>K E
 |Z d=>match Nat.blt d c.nt with
   |O=>K ((d,x)::E)
   |Y=>U
def MW(ops:aM Oper)(E:Env)(o:Oper)(K:Bool->Env->ac α):ac α:=
 match o.guard with
 |U=>K O E
 |Z (j,a)=>match(ops[j]?).bind (·.dst)with
   |U=>U
   |Z d=>match get E d with
     |.b x=>match a with
       |O=>cond x (K O ((d,.b O)::E)) (K Y ((d,.b Y)::E))
       |Y=>cond x (K Y ((d,.b O)::E)) (K O ((d,.b Y)::E))
     |.tup []=>K Y E
     |_=>U
end
def qF(E:Env)(ops:aM Oper)(k:Nat)(t:Tmp):ac Nat:=match Hg ops k t with
 |Z u=>match get E u with
   |.ptr b _=>Z b
   |_=>U
 |U=>U
def Om(E:Env)(ops:aM Oper)(k:Nat)(t:Tmp):Bool:=match Hg ops k t with
 |Z u=>match get E u with
   |.rpt .. => O
   |_=>Y
 |U=>Y
mutual
def rbT:TV->ac (aa Nat)
 |.ptr b _|.mp b|.pti b _=>Z [b]
 |.fn _ cs|.agg cs|.tup cs=>sR cs
 |.dead=>U
 |_=>Z []
def sR:aa TV->ac (aa Nat)
 |[]=>Z []
 |x::l=>match rbT x,sR l with
   |Z a,Z b=>Z (a++b)
   |_,_=>U
end
def Ns(σ:TS)(b:Nat):Bool:=match σ.bx[b]? with
 |Z cs=>match sR cs with
   |Z []=>O
   |_=>Y
 |U=>Y
def X3(c:TC)(E:Env)(σ:TS):Op->ac (aa Nat)
 |.call ⟨.value g,as,_⟩=>match evT E g with
   |.fn f cs=>match(c.inl f).isSome,sR (as.toList.map (evT E)++cs)with
     |Y,Z l=>match l.all (Ns σ)with
       |O=>Z l
       |Y=>U
     |_,_=>U
   |_=>U
 |_=>U
def GN(c:TC)(ops:aM Oper)(j:Nat)(E:Env)(σ:TS)(op:Op):Bool := !Mf op||ops.toList.zipIdx.all λ(q,i)=>match q.op with
 |.load _ (.tmp a)=>((fO (V ops) []).getD (max i j) 0).testBit (min i j)||match qF E ops i a,X3 c E σ op with
   |Z y,Z l=>Nat.blt y (I σ.bx)&&l.all λ c => !Nat.beq c y
   |_,_=>Y
 |_=>O
section
variable {α:Type}
def nF(d:Env->TS->Op->KT α->ac α)(c:TC)(ops:aM Oper)(b:Bool):aa Oper->Env->TS->(Env->TS->ac α)->ac α
 |[],E,σ,K=>K E σ
 |o::a,E,σ,K=>MW ops E o λ w E=>match w with
   |O=>d E σ o.op λ x σ'=>match σ' with
     |U=>Bd c E o.dst x λ E=>nF d c ops b a E σ K
     |Z σ'=>match b && !(cQ c.loT o.op&&GN c ops (ops.size-(I a+1)) E σ o.op)with
       |O=>U
       |Y=>Bd c E o.dst x λ E=>nF d c ops b a E σ' K
   |Y=>Bd c E o.dst (.tup []) λ E=>nF d c ops b a E σ K
structure Mv where
 E:Env
 bx:List (List TV)
 rw:List cm
 mb:List (Nat×Nat)
 mr:List (Nat×Nat)
def eL(l:aa (Nat×Nat))(b:Nat):ac Nat:=match l with
 |[]=>U
 |p::r=>match Nat.beq p.1 b with
   |O=>Z p.2
   |Y=>eL r b
def MF:TV->Bool
 |.i .. |.b _|.s _|.c _|.nil|.sl .. => O
 |.fn _ cs=>cs.isEmpty
 |.agg cs=>cs.all λ|.i .. |.b _|.s _|.c _|.nil|.sl .. => O|_=>Y
 |_=>Y
mutual
def mvT(σ:TS)(k:Co)(x:TV)(m:Mv)(K:TV->Mv->ac α):ac α:=
 match k with
 |.keep=>match MF x with
   |O=>K x m
   |Y=>K .dead m
 |.list τ=>match x with
   |.nil=>K (.sl τ [] 1) m
   |.sl a l _=>match mu l τ with
     |Z l=>K (.sl τ l 1) m
     |U=>U
   |_=>K .dead m
 |.plist τ=>match x with
   |.nil=>K (.sl τ [] 1) m
   |.sl a l _=>match mu l τ with
     |Z l=>K (.sl τ l 1) m
     |U=>U
   |_=>K .dead m
 |.row τ d=>match x with
   |.nil=>K (.row (I m.rw) 0) {m with rw:=m.rw++[⟨τ,[],0,0,d⟩]}
   |.sl a l j=>match mu l τ,J (1<j)with
     |Z l,O=>match d with
       |O=>K (.row (I m.rw) 0) {m with rw:=m.rw++[⟨τ,l,0,0,O⟩]}
       |Y=>match l with
         |[]=>K (.row (I m.rw) 0) {m with rw:=m.rw++[⟨τ,[],0,0,Y⟩]}
         |_=>U
     |_,_=>U
   |.row id e=>match σ.rw[id]? with
     |Z R=>match Nat.beq R.ver e&&(d || !R.sh)with
       |O=>match mu R.l τ with
         |Z l=>match eL m.mr id with
           |Z g=>K (.row g 0) m
           |U=>K (.row (I m.rw) 0) {m with rw:=m.rw++[⟨τ,l,0,0,d⟩],mr:=(id,I m.rw)::m.mr}
         |U=>U
       |Y=>U
     |U=>U
   |_=>U
 |.fn cs=>match x with
   |.fn f xs=>mvL σ cs xs m λ ys m=>K (.fn f ys) m
   |_=>U
 |.box cs=>match x with
   |.ptr b 0=>match eL m.mb b with
     |Z h=>K (.ptr h 0) m
     |U=>match σ.bx[b]? with
       |Z xs=>mvL σ cs xs m λ ys m=>match eL m.mb b with
         |U=>K (.ptr (I m.bx) 0) {m with bx:=m.bx++[ys],mb:=(b,I m.bx)::m.mb}
         |Z _=>U
       |U=>U
   |.c v=>K (.c v) m
   |.mp b=>match eL m.mb b with
     |Z h=>K (.mp h) m
     |U=>match σ.bx[b]? with
       |Z [.mc i τ l]=>K (.mp (I m.bx)) {m with bx:=m.bx++[[.mc i τ l]],mb:=(b,I m.bx)::m.mb}
       |_=>U
   |_=>U
def mvL(σ:TS)(cs:aa Co)(xs:aa TV)(m:Mv)(K:aa TV->Mv->ac α):ac α:=
 match cs,xs with
 |[],[]=>K [] m
 |co::cs,x::xs=>mvT σ co x m λ y m=>mvL σ cs xs m λ ys m=>K (y::ys) m
 |_,_=>U
end
def A5(a:aa (Nat×Nat)):Nat->Bool
 |0=>O
 |n+1=>(match eL a n with|Z j=>Nat.beq n j|U=>Y)&&A5 a n
def mvE(a:Nat)(σ:TS)(E:Env):aa (Tmp×Co)->Mv->(Env->TS->ac α)->ac α
 |[],m,K=>match A5 m.mb a with
   |O=>K m.E ⟨m.bx,m.rw⟩
   |Y=>U
 |(t,b)::r,m,K=>mvT σ b (get E t) m λ y m=>mvE a σ E r {m with E:=m.E++[(t,y)]} K
def Nj(E:Env)(σ:TS)(t:Tmp)(τ:Ty)(K:Env->TS->ac α):ac α:=match get E t with
 |.i .. => K E σ
 |.b _|.s _|.c _|.nil=>K E σ
 |.sl .. => K E σ
 |.row id a=>match σ.rw[id]? with
   |Z R=>match Nat.beq R.ver a with
     |O=>match mu R.l τ with
       |Z l=>K ((t,.sl τ l 1)::E) (shA σ)
       |U=>U
     |Y=>U
   |U=>U
 |.dead=>K E (shA σ)
 |_=>U
def vM:aa (Tmp×Co)->Env->TS->(Env->TS->ac α)->ac α
 |[],E,σ,K=>K E σ
 |(t,a)::r,E,σ,K=>match a with
   |.plist τ=>Nj E σ t τ λ E σ=>vM r E σ K
   |_=>vM r E σ K
def GF(E:Env)(ops:aM Oper)(j:Nat)(o:Oper)(i:Nat)(q:Oper):Bool:=match o.op,q.op with
 |.store _ (.tmp a) _,.load _ (.tmp b)=>match qF E ops j a,qF E ops i b with
   |Z x,Z y => !Nat.beq x y
   |Z _,U=>Om E ops i b
   |_,_=>Y
 |.call ⟨.builtin .append,_,_⟩,.load _ (.tmp b)|.call ⟨.value _,_,_⟩,.load _ (.tmp b)=>(qF E ops i b).isSome
 |_,_=>Y
def Yi(a:Nat->Bool)(E:Env)(ops:aM Oper)(j:Nat)(o:Oper)(i:Nat)(q:Oper):Bool:=
 (match q.dst with|Z d=>(iZ ops o).contains d|U=>Y)||(vq a o q && !(GF E ops j o i q||GF E ops i q j o))
def xT(c:Nat->Bool)(E:Env)(ops:aM Oper)(a:Bool):Bool:=match a with
 |O=>
   let b:=fO (V ops) []
   ops.toList.zipIdx.all λ(o,j)=>((dM o).all λ e=>J (e<j))&&ops.toList.zipIdx.all λ(q,i)=>
    decide (i=j) || !Yi c E ops j o i q||(b.getD (max i j) 0).testBit (min i j)
 |Y=>O
def mn:Nat->aa TV->Env
 |_,[]=>[]
 |n,x::l=>(n,x)::mn (n+1) l
def qM(c:TC)(E:Env)(σ:TS):ResultVar->ac TV
 |.tmp t=>Z (get E t)
 |.cell a t=>match c.ty t,get E a with
   |Z d,.ptr b o=>match σ.bx[b]? with
     |Z cs=>match AQ cs with
       |O=>sq d.agg d.size cs o
       |Y=>U
     |U=>U
   |_,_=>U
def vK:Code->Nat
 |.seq a b=>max (vK a) (vK b)+1
 |_=>1
section
variable {α:Type}
def sn(c:TC):Code->Env->TS->(Env->TS->ac α)->ac α
 |.skip,E,σ,K=>K E σ
 |.seq a b,E,σ,K=>sn c a E σ λ E σ=>sn c b E σ K
 |.region _ ops d,E,σ,K=>match sj ops d,qL ops d with
   |Y,U=>match xT c.loT E ops d with
     |O=>nF (opT c) c ops d (V ops) E σ K
     |Y=>U
   |_,_=>U
 |_,_,_,_=>U
def AY(c:TC)(E:Env)(σ:TS):aa ResultVar->ac (aa TV)
 |[]=>Z []
 |r::l=>match qM c E σ r with
   |Z x=>match AY c E σ l with
     |Z xs=>Z (x::xs)
     |U=>U
   |U=>U
def NP(c:TC)(fn:Func)(σ:TS)(xs:aa TV)(K:KT α):ac α:=match fn.body with
 |Z a=>match Nat.ble (I xs) fn.ntmps&&Nat.ble (vK a) 12 with
   |O=>sn {c with nt:=fn.ntmps} a (mn 0 xs) σ λ E σ=>match AY {c with nt:=fn.ntmps} E σ (V fn.results) with
     |Z ys=>K (AA ys) (Z σ)
     |U=>U
   |Y=>U
 |U=>U
def opI(c:TC)(E:Env)(σ:TS)(op:Op)(K:KT α):ac α:=
 match op with
 |.call ⟨.value g,a,ts⟩=>match evT E g with
   |.fn f cs=>match c.inl f with
     |Z fn=>NP c fn σ (a.toList.map (evT E)++cs) K
     |U=>opT c E σ (.call ⟨.value g,a,ts⟩) K
   |_=>U
 |op=>opT c E σ op K
end
def slT:TV->Bool
 |.sl ..|.row .. => O
 |_=>Y
def Nc(E:Env)(ops:aM Oper):Bool:=match oz ops with
 |p::_=>match p.op with
   |.indexAddr _ u _=>slT (evT E u)
   |_=>Y
 |[]=>Y
def N9:TV->Bool
 |.ptr _ _=>O
 |_=>Y
def rJ:Code->Nat
 |.region id _ _=>id
 |.seq a _=>rJ a
 |.block _ b|.loop b=>rJ b
 |.cond _ a _=>rJ a
 |_=>0
def uP:aa (Tmp×Co)->aa Nat
 |[]=>[]
 |(t,a)::r=>match a with
   |.plist _=>t::uP r
   |_=>uP r
def TC.pur(c:TC)(b:Code):aa Nat:=match c.loop (rJ b)with
 |Z l=>uP l
 |U=>[]
def Hz(E:Env)(x:bw)(b:Bool):Env:=match x with
 |.tmp t=>(t,.b b)::E
 |_=>E
def fh(c:TC)(f:Env->TS->ac α)(L:aa It->Env->TS->ac α):Nat->aa It->Ex->Env->TS->ac α
 |0,_,_,_,_=>U
 |_+1,[],e,E,σ=>match e with
   |.exit _=>U
   |_=>f E σ
 |N+1,.code g::k,e,E,σ=>match e with
   |.normal=>match g with
     |.skip|.label _=>fh c f L N k .normal E σ
     |.region _ ops d=>match sj ops d with
       |O=>match rX c.loT (V ops)&&(oi c.loT ops&&xT c.loT E ⟨bo c.loT (V ops)⟩ O)with
         |O=>nF (opI c) c ⟨bo c.loT (V ops)⟩ O (bo c.loT (V ops)) E σ λ E σ=>nF (opI c) c ops Y (alL c.loT (V ops)) E σ λ E σ=>nF (opI c) c ops O (sL c.loT (V ops)) E σ λ E σ=>fh c f L N k .normal E σ
         |Y=>U
       |Y=>match qL ops d with
         |Z p=>match xT c.loT E (jL ops) O with
           |O=>nF (opI c) c (jL ops) O (V (jL ops)) E σ λ E σ=>match N9 (get E p)&&Nc E ops with
             |O=>nF (opI c) c ops O (oz ops) E σ λ E σ=>fh c f L N k .normal E σ
             |Y=>U
           |Y=>U
         |U=>match xT c.loT E ops d with
           |O=>nF (opI c) c ops d (V ops) E σ λ E σ=>fh c f L N k .normal E σ
           |Y=>U
     |.seq a b=>fh c f L N (.code a::.code b::k) .normal E σ
     |.cond x a b=>match evT E x with
       |.b y=>cond y (fh c f L N (.code a::k) .normal (Hz E x O) σ) (fh c f L N (.code b::k) .normal (Hz E x Y) σ)
       |_=>U
     |.block id b=>fh c f L N (.code b::.blk id::k) .normal E σ
     |.loop b=>match c.loop (rJ b)with
       |Z l=>vM l E σ λ E σ=>mvE c.np σ E l ⟨[],[],[],[],[]⟩ λ E σ=>L (.code (.loop b)::k) E σ
       |U=>U
     |.exit id=>fh c f L N k (.exit id) E σ
     |.ret=>fh c f L N k .ret E σ
     |_=>U
   |e=>fh c f L N k e E σ
 |N+1,.blk id::k,e,E,σ=>match e with
   |.exit i=>match Nat.beq i id with
     |O=>match c.join id with
       |Z l=>mvE c.np σ E l ⟨[],[],[],[],[]⟩ λ E σ=>L k E σ
       |U=>fh c f L N k .normal E σ
     |Y=>fh c f L N k (.exit i) E σ
   |.normal=>match c.join id with
     |Z l=>mvE c.np σ E l ⟨[],[],[],[],[]⟩ λ E σ=>L k E σ
     |U=>fh c f L N k .normal E σ
   |.ret=>fh c f L N k .ret E σ
 |_+1,.ops .. :: _,_,_,_=>U
def Mu(c:TC)(a:Env->TS->ac α)(L:aa It->Env->TS->ac α)(N:Nat)(d:aa It)(E:Env)(σ:TS):ac α:=
 match d with
 |.code (.loop b)::k=>match c.loop (rJ b)with
   |Z l=>vM l E σ λ E σ=>fh c a L N (.code b::.code (.loop b)::k) .normal E σ
   |U=>fh c a L N (.code b::.code (.loop b)::k) .normal E σ
 |d=>fh c a L N d .normal E σ
def qJ(c:TC)(a:Env->TS->ac α)(N:Nat):Nat->aa It->Env->TS->ac α
 |0=>λ _ _ _=>U
 |n+1=>Mu c a (qJ c a N n) N
end
def nC(c:TC):(ts:aa Ty)->aa ResultVar->Env->TS->ac (kE ts)
 |[],[],_,_=>Z ()
 |[a],[r],E,σ=>match qM c E σ r with
   |Z x=>jK σ.rw a x
   |U=>U
 |a::b::ts,r::d,E,σ=>match qM c E σ r with
   |Z x=>match jK σ.rw a x with
     |Z v=>match nC c (b::ts) d E σ with
       |Z vs=>Z (v,vs)
       |U=>U
     |U=>U
   |U=>U
 |_,_,_,_=>U
def oD:(sas:aa SA)->Nat->Nat->iI sas->aa TV
 |[],_,_,_=>[]
 |.val τ::r,nb,b,a=>oL τ a.1::oD r nb b a.2
 |.row _::r,nb,b,a=>.row b 0::oD r nb (b+1) a.2
 |.box l::r,nb,b,a=>bxT l nb::oD r (nb+1) (b+nR l) a.2
 |.nil::r,nb,b,a=>.nil::oD r nb b a
 |.clo g k::r,nb,b,a=>.fn g ((oD r nb b a).take k)::(oD r nb b a).drop k
def sBx:(sas:aa SA)->Nat->iI sas->aa (aa TV)
 |[],_,_=>[]
 |.nil::r,b,a|.clo _ _::r,b,a=>sBx r b a
 |.val _::r,b,a=>sBx r b a.2
 |.row _::r,b,a=>sBx r (b+1) a.2
 |.box l::r,b,a=>qr l b (toC l a.1)::sBx r (b+nR l) a.2
def sRw:(sas:aa SA)->iI sas->aa cm
 |[],_=>[]
 |.nil::r,a|.clo _ _::r,a=>sRw r a
 |.val _::r,a=>sRw r a.2
 |.row τ::r,a=>⟨τ,a.1,0,0,Y⟩::sRw r a.2
 |.box l::r,a=>lr l (toC l a.1)++sRw r a.2
def lH(σ:TS):(sas:aa SA)->Nat->ac (fl sas×aa Nat×Bool)
 |[],_=>Z ((),[],O)
 |.nil::r,n|.clo _ _::r,n|.val _::r,n|.row _::r,n=>lH σ r n
 |.box l::r,n=>match σ.bx[n]? with
   |Z cs=>match fB σ.rw l cs,lH σ r (n+1)with
     |Z (v,i,q),Z (o,a,b)=>Z ((toB l v,o),i++a,q&&b)
     |_,_=>U
   |U=>U
def mz(c:TC)(E:Env)(σ:TS)(f:aa Nat):(d:aa RE)->aa ResultVar->ac (RV d×aa Nat×aa Nat×Bool)
 |[],[]=>Z ((),[],[],O)
 |.one (.val a)::d,r::l=>match qM c E σ r with
   |Z x=>match jK σ.rw a x,mz c E σ f d l with
     |Z v,Z (vs,b,e,q)=>Z ((v,vs),b,e,px x&&q)
     |_,_=>U
   |U=>U
 |.one (.row a)::d,r::l=>match qM c E σ r with
   |Z x=>match mC σ.rw a x,mz c E σ f d l with
     |Z (v,i),Z (vs,b,e,q)=>Z ((v,vs),i++b,e,q)
     |_,_=>U
   |U=>U
 |.agg p::d,r::l=>match qM c E σ r with
   |Z (.agg cs)=>match fB σ.rw p cs,mz c E σ f d l with
     |Z (v,i,g),Z (vs,b,e,q)=>Z ((v,vs),i++b,e,g&&q)
     |_,_=>U
   |_=>U
 |_,_=>U
def YY(rw:aa cm):TV->ac (aa Nat)
 |.row id a=>match rw[id]? with
   |Z R=>match Nat.beq R.ver a with
     |O=>Z [id]
     |Y=>U
   |U=>U
 |x=>match sH x with
   |O=>Z []
   |Y=>U
def Hy(rw:aa cm):aa TV->ac (aa Nat)
 |[]=>Z []
 |x::l=>match YY rw x,Hy rw l with
   |Z a,Z b=>Z (a++b)
   |_,_=>U
def Ba (rw:aa cm):aa RA->aa TV->ac (aa Nat)
 | [],_=>Z []
 | .val τ :: r,cs=>match Hy rw (cs.take τ.size),Ba rw r (cs.drop τ.size) with
   | Z a,Z b=>Z (a++b)
   | _,_=>U
 | .row _::r,cs=>Ba rw r (cs.drop 1)
def sM(σ:TS):aa SA->Nat->ac (aa Nat)
 |[],_=>Z []
 |.box l::r,n=>match σ.bx[n]? with
   |Z cs=>match Ba σ.rw l cs,sM σ r (n+1)with
     |Z a,Z b=>Z (a++b)
     |_,_=>U
   |U=>U
 |.nil::r,n|.clo _ _::r,n|.val _::r,n|.row _::r,n=>sM σ r n
def Zp(vs:ac (aa Nat))(l:aa Nat):Bool:=match vs with
 |Z vs=>vs.all λ a=>l.all λ b => !Nat.beq a b
 |U=>Y
def MX(n:Nat)(l:aa Nat):aa Nat:=match Nat.beq (I l) n with
 |O=>l
 |Y=>[]
def yh(c:TC)(sas:aa SA)(d:aa RE)(l:aa ResultVar)(E:Env)(σ:TS):ac (fl sas×RV d):=match lH σ sas 0 with
 |Z (o,i,q)=>match mz c E σ (MX (nrB sas) i) d l with
   |Z (v,a,e,f)=>match ndN (i++a)&&(((i++a).isEmpty||(f&&(q||Zp (sM σ sas 0) (i++a))))&&(ndN e&&e.all λ b=>Nat.ble (nBx sas) b))with
     |O=>Z (o,v)
     |Y=>U
   |U=>U
 |U=>U
end
section
open RowKit
mutual
def NO:T->aa AV
 |.mk k n s l=>[.v (.int .i64 k),.v (.string ⟨n.toArray⟩),.v (.int .i64 s),.sl 4 (Bi l) 0]
def Bi:aa T->aa (aa AV)
 |[]=>[]
 |t::l=>NO t::Bi l
end
mutual
def Yy:AV->ac (aa T)
 |.v (.slice U 0 0)=>Z []
 |.sl 4 a _=>A8 a
 |_=>U
def A8:aa (aa AV)->ac (aa T)
 |[]=>Z []
 |e::a=>match Oa e with
   |Z t=>match A8 a with
     |Z l=>Z (t::l)
     |U=>U
   |U=>U
def Oa:aa AV->ac T
 |[.v (.int .i64 k),.v (.string n),.v (.int .i64 s),x]=>match Yy x with
   |Z l=>Z (.mk k (V n.data) s l)
   |U=>U
 |_=>U
end
mutual
theorem qkE:∀t:T,Oa (NO t)=Z t
 |.mk k n s l=>by
   rw[NO,Oa,Yy,U7 l]
theorem U7:∀l:aa T,A8 (Bi l)=Z l
 |[]=>by rw[Bi,A8]
 |t::l=>by rw[Bi,A8,qkE t,U7 l]
end
def dR.len:∀{xs ys:aa AV},dR xs ys->I xs=I ys
 |_,_,.nil=>rfl
 |_,_,.cons _ t=>by simp[t.len]
theorem dR.get:∀{xs ys:aa AV},dR xs ys->∀(i:Nat) (y:AV),ys[i]?=Z y->∃x,xs[i]?=Z x/\Sub x y
 |_,_,.nil,i,y,h=>by simp at h
 |_,_,.cons a t,0,y,h=>by simp at h;subst h;exact⟨_,rfl,a⟩
 |_,_,.cons a t,i+1,y,h=>by simpa using t.get i y (by simpa using h)
def VM{xs ys:aa AV}(h:dR xs ys):Sub (.agg xs) (.agg ys):=by
 intro Γ u a;cases a with
 |agg cs us c d b=>
   have:=h.rep (RepL.mk c b);exact .agg _ _ this.len d this.rep
def fP(R:Row):Row:=⟨R.k,[],0,1,Y⟩
def FO{Γ Γ':Gh}{x:AV}{u:ah}(a:∀b o u,Γ.mem b o=Z u->Γ'.mem b o=Z u)(h:Rep Γ x u)(d:rb x=[])(c:rr x=[]):Rep Γ' x u:=by
 have:=GB (Γ':=Γ') (fb:=λ b=>b) (fr:=λ r=>r) a h (by rw[d];intro b hb;cases hb) (by rw[c];intro b hb;cases hb)
 rwa [ME]at this
def WT:∀{cs:aa AV},rbL cs=[]->∀x∈cs,rb x=[]
 |[],_,x,a=>by cases a
 |y::cs,h,x,a=>by
   simp only[rbL,mH]at h;obtain rfl|a:=bi.1 a
   .exact h.1
   .exact WT h.2 x a
def V5:∀{cs:aa AV},rrL cs=[]->∀x∈cs,rr x=[]
 |[],_,x,a=>by cases a
 |y::cs,h,x,a=>by
   simp only[rrL,mH]at h;obtain rfl|a:=bi.1 a
   .exact h.1
   .exact V5 h.2 x a
def qjM{Γ Γ':Gh}{cs:aa AV}{us:aa ah}(d:∀b o u,Γ.mem b o=Z u->Γ'.mem b o=Z u)(h:RepL Γ cs us)(f:rbL cs=[])(e:rrL cs=[]):RepL Γ' cs us:=
 ⟨h.len,λ i x u a c=>FO d (h.rep i x u a c) (WT f x (aP a)) (V5 e x (aP a))⟩
def RW{x:AV}(h:br x=O):rb x=[]/\rr x=[]:=(wX (fb:=λ b=>b) (fr:=λ r=>r) h).2
def YN(ds cs:aa AV):Prop:=∃c d a ks vs vs',ds=[.mc c d a ks vs]/\cs=[.mc c d a ks vs']/\I vs'=I vs/\∀(j:Nat) (v b:aa AV),vs[j]?=Z v->vs'[j]?=Z b->Sub (fy a v) (fy a b)/\b.all br=O
def kC.sub{Γ:Gh}{w:ao}{b:Nat}{m:aa KC}{n f:Bool}{ks vs vs':aa (aa AV)}(h:kC Γ w b m n f ks vs)(s:I vs'=I vs)(r:∀(j:Nat) (v g:aa AV),vs[j]?=Z v->vs'[j]?=Z g->Sub (fy f v) (fy f g)/\g.all br=O):kC Γ w b m n f ks vs':=by
 let⟨y,B,d,x,u,t⟩:=h;refine⟨s.trans y,B,d,x,u,λ j k v e a b c=>?_⟩;have C:=(dV.1 b).1;have o:=aV (l:=vs) (i:=j) (by omega);let⟨A,z,g3,D⟩:=t j k _ e a o c;let⟨q,p⟩:=r j _ _ o b;exact⟨A,q _ _ z,g3,p⟩
structure Nn (σ1:St) (fs:List Nat) (so:Option Nat) (R:Row):Prop where
 fz:R.fz=0
 ver:R.ver=0
 pos:0<R.k
 len:∀e∈R.c,e.length=R.k
 plain:∀e∈R.c,∀x∈e,br x=O
 src:match so with
  |U=>R.c=[]
  |Z j=>∃Q,σ1.rw[j]?=Z Q/\Q.k=R.k/\Q.fz=0/\Q.c.length=R.c.length/\(∀(i:Nat) (e e':List AV),Q.c[i]?=Z e->R.c[i]?=Z e'->dR e e')/\j ∉ fs/\Q.off=Y
def oJ(nb:Nat)(kb:aa Nat)(i:Nat):Nat:=if i<nb then i else kb.getD (i-nb) 0
def eK(a:Gh)(m:Nat->Nat->ac ah)(nb:Nat)(kb:aa Nat)(L:Nat)(aB:aa (ac Nat×Row)):Gh:=
 {mem:=m,nb:=nb+I kb,β:=λ i=>a.β (oJ nb kb i),nr:=L+I aB,ver:=λ r=>if r<L then a.ver r+1 else 0,
   k:=λ r=>if r<L then a.k r else match aB[r-L]? with|Z p=>p.2.k|U=>1,
   cur:=λ r=>if r<L then a.cur r else match aB[r-L]? with|Z (Z j,_)=>a.cur j|_=>0,
   sz:=λ r=>if r<L then 0 else match aB[r-L]? with|Z (Z j,_)=>a.sz j|_=>0,of:=λ _=>0}
def Az{y d:Gh}{σ0 σ1:St}{w0 M:ao}(E:Inv y σ0 w0)(t:Ext y w0 d M)(L:Inv d σ1 M)(a8:I σ0.bx<=I σ1.bx)
  (z:aa (aa AV)) (kb:aa Nat) (a0:I z=I σ0.bx+I kb) (W:∀b∈kb,I σ0.bx<=b/\b<I σ1.bx) (a7:kb.Nodup) (P:aa Nat) (aB:aa (ac Nat×Row)) (a3:∀(i:Nat) (cs:aa AV),z[i]?=Z cs->∃ds,σ1.bx[oJ (I σ0.bx) kb i]?=Z ds/\(noMc ds=Y->YN ds cs)/\∀m,Fz d m->(∀r∈P,∀R,σ1.rw[r]?=Z R->gJ {d with mem:=m} r R)->∀us,RepL d ds us->RepL (eK d m (I σ0.bx) kb (I σ0.rw) aB) cs us)
  (hn:∀(a:Nat) (so:ac Nat) (R:Row),aB[a]?=Z (so,R)->Nn σ1 P so R) (hd:∀(a b j:Nat) (R R':Row),aB[a]?=Z (Z j,R)->aB[b]?=Z (Z j,R')->a=b) (wl ax:aa Nat):
  ∃m,Fz d m/\(∀r∈P,∀R,σ1.rw[r]?=Z R->gJ {d with mem:=m} r R)/\Ext y w0 (eK d m (I σ0.bx) kb (I σ0.rw) aB) M/\Inv (eK d m (I σ0.bx) kb (I σ0.rw) aB) ⟨z,σ0.rw.map fP++aB.map (·.2),wl,ax⟩ M:=by
 let⟨m,m1,m2,m3⟩:=pU P L σ1.wrr;have a6:I σ0.bx<=d.nb:=by rw[L.nb];exact a8
 have ad:∀b o u,d.mem b o=Z u->m b o=Z u:=m1.le.mem
 have C:∀{i:Nat},i<I σ0.bx+I kb->oJ (I σ0.bx) kb i<d.nb:=λ{i} f=>by
  unfold oJ;split
  .exact cU ‹_› a6
  .rw[gE,aV (show i-I σ0.bx<I kb by omega),L.nb];exact(W _ (iq _)).2
 have a9:∀{i j:Nat},i<I σ0.bx+I kb->j<I σ0.bx+I kb->oJ (I σ0.bx) kb i=oJ (I σ0.bx) kb j->i=j:=λ{i j} f X g=>by
  unfold oJ at g;split at g<;>split at g
  .exact g
  .rw[gE,aV (show j-I σ0.bx<I kb by omega)]at g;have g:i=kb[j-I σ0.bx]:=g;have:=(W _ (iq (show j-I σ0.bx<I kb by omega))).1;omega
  .rw[gE,aV (show i-I σ0.bx<I kb by omega)]at g;have g:kb[i-I σ0.bx]=j:=g;have:=(W _ (iq (show i-I σ0.bx<I kb by omega))).1;omega
  .rw[gE,gE,aV (show i-I σ0.bx<I kb by omega),aV (show j-I σ0.bx<I kb by omega)]at g;have g:kb[i-I σ0.bx]=kb[j-I σ0.bx]:=g;have:=(List.getElem_inj (h₀:=by omega) (h₁:=by omega) a7).1 g;omega
 have B:∀{r:Nat},¬ r<I σ0.rw->(eK d m (I σ0.bx) kb (I σ0.rw) aB).sz r≠0->∃j R Q,aB[r-I σ0.rw]?=Z (Z j,R)/\σ1.rw[j]?=Z Q/\ni {d with mem:=m} M j Q/\(eK d m (I σ0.bx) kb (I σ0.rw) aB).cur r=d.cur j/\(eK d m (I σ0.bx) kb (I σ0.rw) aB).sz r=d.sz j:=by
  intro r s q;have S:(if r<I σ0.rw then 0 else match aB[r-I σ0.rw]? with|some (Z j,_)=>d.sz j|_=>0)≠0:=q;rw[af s]at S;split at S
  .rename_i j R G;let⟨Q,q1,_,_,_,_,q6,_⟩:=(hn _ _ _ G).src;refine⟨j,R,Q,G,q1,m2.row j Q (by show(frz σ1.rw P)[j]?=_;rw[An P _ j q6];exact q1),?_,?_⟩
   .show(if r<I σ0.rw then _ else match aB[r-I σ0.rw]? with|some (Z j,_)=>d.cur j|_=>0)=_;rw[af s,G]
   .show(if r<I σ0.rw then _ else match aB[r-I σ0.rw]? with|some (Z j,_)=>d.sz j|_=>0)=_;rw[af s,G]
  .exact absurd rfl S
 have v:∀{r:Nat},r<I σ0.rw->(eK d m (I σ0.bx) kb (I σ0.rw) aB).sz r=0:=λ s=>ag s;refine⟨m,m1,m3,vW ⟨⟨λ b o u h=>ad _ _ _ (t.le.mem b o u h),by rw[E.nb];exact kM _ _,λ i f=>by rw[<-t.le.β i f];show d.β (oJ _ _ _)=_;unfold oJ;rw[ag (by rw[<-E.nb];exact f)],by rw[E.nr];exact kM _ _,λ r s=>?_,λ r s=>?_,λ r s g=>?_⟩,t.os,t.tape,t.output,t.size,t.block,?_,?_,t.drawn⟩ λ hX=>?_⟩
 .rw[E.nr]at s;exact(ag s).trans (t.le.k r (by rw[E.nr];exact s))
 .have:=t.le.ver r s;rw[E.nr]at s;show y.ver r<=(if r<I σ0.rw then d.ver r+1 else 0);rw[ag s];omega
 .have:=t.le.ver r s;rw[E.nr]at s;have g:(if r<I σ0.rw then d.ver r+1 else 0)=y.ver r:=g;rw[ag s]at g;omega
 .rintro b (⟨i,f,hb⟩|⟨r,s,q,hb⟩)
  .exact t.own b (.inl ⟨_,C f,hb⟩)
  .by_cases l:r<I σ0.rw
   .exact absurd (v l) q
   .let⟨j,R,Q,_,q2,_,q4,q5⟩:=B l q;exact t.own b (.inr ⟨j,by rw[L.nr];exact getElem?_lt q2,by rw[<-q5];exact q,by rw[<-q4];exact hb⟩)
 .intro b o u hm;obtain h|h:=m1.own b o u hm
  .exact t.memg b o u h
  .exact .inr (t.own b h)
 .refine⟨a0.symm,by show I σ0.rw+I aB=_;simp,λ b o u h=>m2.mem b o u h,?_,λ i j f X g=>a9 f X (L.inj _ _ (C f) (C X) g),λ i f o=>m2.boxmem _ (C f) o,?_,?_,hX.tab E.tab⟩
  .intro i cs f;let⟨ds,d1,d3,d2⟩:=a3 i cs f;obtain⟨vs,e,v1,v2,v3⟩|⟨kc,ka,va,ks,vs,rfl,hm⟩:=(L.box _ ds d1).split
   .exact .of ⟨vs,e,v1,d2 m m1 m3 _ v2,v3⟩
   .obtain⟨_,_,_,_,_,vs',e1,rfl,l1,l2⟩:=d3 rfl;cases e1;exact(hm.sub l1 l2).to (λ _ h=>h) λ x u t g1 g2=>FO ad t g1 g2
  .intro r R w;have w:(σ0.rw.map fP++aB.map (·.2))[r]?=Z R:=w;by_cases l:r<I σ0.rw
   .rw[dY (by rw[ce];exact l),dC]at w;cases n:σ0.rw[r]? with
    |none=>rw[n]at w;cases w
    |some R0=>
      rw[n]at w;cases w;have H:=E.row r R0 n;have q:=v l;refine⟨?_,λ h=>absurd h (by show ¬ 1<=0;omega),H.pos,(by intro e g;cases g),(by intro e g;cases g),.inl rfl,λ h=>absurd q h,by show 0+0*_<=_;rw[kK];exact aL _,λ h=>absurd q h,(by intro i e j x f;cases f),λ h=>absurd q h,λ _=>rfl⟩;show R0.k=(if r<I σ0.rw then d.k r else _);rw[ag l,H.k];exact(t.le.k r (by rw[E.nr];exact l)).symm
   .rw[dy (by rw[ce];omega),ce,dC]at w;cases n:aB[r-I σ0.rw]? with
    |none=>rw[n]at w;cases w
    |some p=>
      rw[n]at w;cases w;let⟨so,R⟩:=p;have D:=hn _ _ _ n
      have hk:R.k=(eK d m (I σ0.bx) kb (I σ0.rw) aB).k r:=by
       show _=(if r<I σ0.rw then _ else match aB[r-I σ0.rw]? with|some p=>p.2.k|none=>1);rw[af l,n]
      have N:R.ver=(eK d m (I σ0.bx) kb (I σ0.rw) aB).ver r:=by
       show _=(if r<I σ0.rw then _ else 0);rw[af l];exact D.ver
      cases so with
      |none=>
        have hc:R.c=[]:=D.src
        have q:(eK d m (I σ0.bx) kb (I σ0.rw) aB).sz r=0:=by
         show(if r<I σ0.rw then 0 else match aB[r-I σ0.rw]? with|some (Z j,_)=>d.sz j|_=>0)=0;rw[af l,n]
        exact⟨hk,λ _=>N,D.pos,D.len,D.plain,.inl hc,λ h=>absurd q h,by show 0+I R.c*_<=_;rw[hc];simp,λ h=>absurd q h,(by intro i e j x f;change R.c[i]?=_ at f;rw[hc]at f;cases f),λ h=>absurd q h,λ _=>rfl⟩
      |some j=>
        let⟨Q,q1,q2,q3,q4,q5,q6,q7⟩:=D.src;have H:ni {d with mem:=m} M j Q:=m2.row j Q (by show(frz σ1.rw P)[j]?=_;rw[An P _ j q6];exact q1)
        have K:(eK d m (I σ0.bx) kb (I σ0.rw) aB).cur r=d.cur j:=by
         show(if r<I σ0.rw then _ else match aB[r-I σ0.rw]? with|some (Z j,_)=>d.cur j|_=>0)=_;rw[af l,n]
        have A:(eK d m (I σ0.bx) kb (I σ0.rw) aB).sz r=d.sz j:=by
         show(if r<I σ0.rw then _ else match aB[r-I σ0.rw]? with|some (Z j,_)=>d.sz j|_=>0)=_;rw[af l,n]
        have T:d.of j=0:=H.off q7;refine⟨hk,λ _=>N,D.pos,D.len,D.plain,.inr (by show R.fz<=_;rw[D.fz];exact aL _),λ q=>?_,?_,λ q off ho=>?_,?_,λ q i f=>?_,λ _=>rfl⟩
        .rw[A]at q;let⟨vs,e,fr,b1,b2,b3,b4⟩:=H.blk q;exact⟨vs,e,fr,by rw[K];exact b1,by rw[A];exact b2,b3,by rw[<-q2];exact b4⟩
        .show 0+I R.c*R.k<=_;have ar:d.of j+I Q.c*Q.k<=d.sz j:=H.fit;rw[T]at ar;rw[A,<-q4,<-q2];exact ar
        .rw[A]at q;rw[K];apply H.un q off;show d.of j+_<=_;rw[q3,kK,T];exact aL _
        .intro i e' jj x' f X;have f:R.c[i]?=Z e':=f;have an:i<I Q.c:=by rw[q4];exact getElem?_lt f
         let⟨x,aE,ab⟩:=(q5 i _ e' (aV an) f).get jj x' X;let⟨u,u1,u2,u3⟩:=H.cells i _ jj x (aV an) aE;let⟨p1,p2⟩:=RW (D.plain e' (aP f) x' (aP X));refine⟨u,?_,FO (Γ:={d with mem:=m}) (λ _ _ _ h=>h) (ab _ _ u2) p1 p2,u3⟩;have az:M.cell? ⟨d.cur j,d.of j+(i*Q.k+jj),U⟩=Z u:=u1;show M.cell? ⟨_,0+(i*R.k+jj),U⟩=_;rw[K,<-q2,<-T];exact az
        .rw[A]at q;rw[K];exact H.nbx q _ (C f)
  .intro r r' s ba bb z1 z2;by_cases e1:r<I σ0.rw
   .exact absurd (v e1) z1
   by_cases e2:r'<I σ0.rw
   .exact absurd (v e2) z2
   let⟨j,R,Q,a1,a2,_,a4,a5⟩:=B e1 z1;let⟨j',R',Q',b1,b2,_,b4,b5⟩:=B e2 z2;rw[a4,b4];refine L.apart j j' (by rw[L.nr];exact getElem?_lt a2) (by rw[L.nr];exact getElem?_lt b2) (λ g=>?_) (by rw[<-a5];exact z1) (by rw[<-b5];exact z2);subst g;have:=hd _ _ _ _ _ a1 b1;omega
def ci{a:Type}(f:aa AV->ac a):aa (aa AV)->ac (aa a)
 |[]=>Z []
 |e::b=>match f e with
   |Z v=>match ci f b with
     |Z vs=>Z (v::vs)
     |U=>U
   |U=>U
mutual
def qw:AV->ac (aa T)
 |.v (.slice U 0 0)=>Z []
 |.sl 4 a (_+1)=>AU a
 |_=>U
def AU:aa (aa AV)->ac (aa T)
 |[]=>Z []
 |e::a=>match fY e with
   |Z t=>match AU a with
     |Z l=>Z (t::l)
     |U=>U
   |U=>U
def fY:aa AV->ac T
 |[.v (.int .i64 k),.v (.string n),.v (.int .i64 s),x]=>match qw x with
   |Z l=>Z (.mk k (V n.data) s l)
   |U=>U
 |_=>U
end
def full{a:Type}:ac (a×aa AV)->ac a
 |Z (v,[])=>Z v
 |_=>U
def fU(k:Nat){a:Type}(f:aa AV->ac a):AV->ac (aa a)
 |.v (.slice U 0 0)=>Z []
 |.sl b c (_+1)=>match bN b k with
   |O=>ci f c
   |Y=>U
 |_=>U
def eW(k:IntKind):aa AV->ac (Int×aa AV)
 |.v (.int a n)::r=>match J (a=k)with
   |O=>Z (n,r)
   |Y=>U
 |_=>U
def kz:aa AV->ac (Bool×aa AV)
 |.v (.bool b)::r=>Z (b,r)
 |_=>U
def iO:aa AV->ac (aa aA×aa AV)
 |.v (.string s)::r=>Z (V s.data,r)
 |_=>U
def gN:aa AV->ac (T×aa AV)
 |a::b::c::d::r=>match fY [a,b,c,d]with
   |Z t=>Z (t,r)
   |U=>U
 |_=>U
def cD{a:Type}(b:AV->ac a):aa AV->ac (a×aa AV)
 |x::r=>match b x with
   |Z l=>Z (l,r)
   |U=>U
 |_=>U
def gz{d c:Type}(f:aa AV->ac d)(g:aa AV->ac c):aa (aa AV)->aa (aa AV)->ac (aa (d×c))
 |[],[]=>Z []
 |k::ks,v::vs=>match f k,g v with
   |Z a,Z b=>match gz f g ks vs with
     |Z l=>Z ((a,b)::l)
     |U=>U
   |_,_=>U
 |_,_=>U
def dMc{d c:Type}(a b:Ty)(f:aa AV->ac d)(g:aa AV->ac c):AV->ac (aa (d×c))
 |.mc h i e ks vs=>match J (h=kcT a)&&(eE i a.agg&&eE e b.agg)with
   |O=>gz f g ks vs
   |Y=>U
 |_=>U
def er:(τ:Ty)->aa AV->ac (Val τ×aa AV)
 |.int k=>eW k
 |.bool=>kz
 |.str=>iO
 |.term=>gN
 |.list a=>cD (fU a.size (λ e=>full (er a e)))
 |.pair a b=>vA (er a) (er b)
 |.one a=>er a
 |.map a b=>cD (dMc a b (λ e=>full (er a e)) (λ e=>full (er b e)))
def bq(τ:Ty)(e:aa AV):ac (Val τ):=full (er τ e)
def dlist(τ:Ty)(x:AV):ac (aa (Val τ)):=fU τ.size (bq τ) x
mutual
def gM:T->aa AV
 |.mk k n s l=>[.v (.int .i64 k),.v (.string ⟨n.toArray⟩),.v (.int .i64 s),.sl 4 (vD l) 1]
def vD:aa T->aa (aa AV)
 |[]=>[]
 |t::l=>gM t::vD l
end
def aq:(τ:Ty)->Val τ->aa AV
 |.int k,n=>[.v (.int k n)]
 |.bool,b=>[.v (.bool b)]
 |.str,s=>[.v (.string ⟨s.toArray⟩)]
 |.term,t=>gM t
 |.list a,l=>[.sl a.size (l.map (aq a)) 1]
 |.pair a b,p=>aq a p.1++aq b p.2
 |.one a,v=>aq a v
 |.map a b,l=>[.mc (kcT a) a.agg b.agg (l.map λ p=>aq a p.1) (l.map λ p=>aq b p.2)]
def cG:(τ:Ty)->Val τ->AV
 |.int k,n=>.v (.int k n)
 |.bool,b=>.v (.bool b)
 |.str,s=>.v (.string ⟨s.toArray⟩)
 |.list a,l=>.sl a.size (l.map (aq a)) 1
 |.term,t=>.agg (aq .term t)
 |.pair a b,p=>.agg (aq (.pair a b) p)
 |.one a,v=>.agg (aq (.one a) v)
 |.map a b,l=>.mc (kcT a) a.agg b.agg (l.map λ p=>aq a p.1) (l.map λ p=>aq b p.2)
def jF{a:Type}{f:aa AV->ac a}{e:aa AV}{b:aa (aa AV)}{l:aa a}:ci f (e::b)=Z l↔∃v vs,f e=Z v/\ci f b=Z vs/\l=v::vs:=by
 grind [ci]
theorem en{b:Type}{f:aa AV->ac b}:∀{a:aa (aa AV)}{l:aa b},ci f a=Z l->I a=I l
 |[],l,h=>by cases h;rfl
 |e::a,l,h=>by
   obtain⟨v,vs,_,c,rfl⟩:=jF.1 h;simp[en c]
def xd{b:Type}{f:aa AV->ac b}:∀{c:aa (aa AV)}{l:aa b},ci f c=Z l->∀{i:Nat}{v:b},l[i]?=Z v->∃e,c[i]?=Z e/\f e=Z v
 |[],l,h,i,v,a=>by cases h;simp at a
 |e::c,l,h,i,v,a=>by
   obtain⟨w,vs,g,d,rfl⟩:=jF.1 h;cases i with
   |zero=>simp at a;subst a;exact⟨e,rfl,g⟩
   |succ i=>exact xd d (by simpa using a)
def oS{c:Type}{f:aa AV->ac c}:∀{b:aa (aa AV)}{l:aa c},ci f b=Z l->∀{i:Nat}{e:aa AV},b[i]?=Z e->∃v,l[i]?=Z v/\f e=Z v
 |[],l,h,i,v,a=>by simp at a
 |e::b,l,h,i,v,a=>by
   obtain⟨w,vs,g,d,rfl⟩:=jF.1 h;cases i with
   |zero=>simp at a;subst a;exact⟨w,rfl,g⟩
   |succ i=>exact oS d (by simpa using a)
def rB{c:Type}{f:aa AV->ac c}:∀{b a:aa (aa AV)}{l m:aa c},ci f b=Z l->ci f a=Z m->ci f (b++a)=Z (l++m)
 |[],a,l,m,h,g=>by cases h;exact g
 |e::b,a,l,m,h,g=>by
   obtain⟨v,vs,i,d,rfl⟩:=jF.1 h;exact jF.2 ⟨v,vs++m,i,rB d g,rfl⟩
def zd{b:Type}{f:aa AV->ac b}:∀(n:Nat) {a:aa (aa AV)}{l:aa b},ci f a=Z l->ci f (a.take n)=Z (l.take n)
 |0,a,l,h=>by simp;rfl
 |n+1,[],l,h=>by cases h;rfl
 |n+1,e::a,l,h=>by
   obtain⟨v,vs,d,c,rfl⟩:=jF.1 h;exact jF.2 ⟨v,vs.take n,d,zd n c,rfl⟩
def wW{b:Type}{f:aa AV->ac b}:∀(n:Nat) {a:aa (aa AV)}{l:aa b},ci f a=Z l->ci f (a.drop n)=Z (l.drop n)
 |0,a,l,h=>by simpa using h
 |n+1,[],l,h=>by cases h;rfl
 |n+1,e::a,l,h=>by
   obtain⟨v,vs,d,c,rfl⟩:=jF.1 h;simpa using wW n c
theorem qc{a:Type}{f:aa AV->ac a}{g:a->aa AV}(h:∀v,f (g v)=Z v):∀l:aa a,ci f (l.map g)=Z l
 |[]=>rfl
 |v::l=>jF.2 ⟨v,l,h v,qc h l,rfl⟩
theorem F8:∀a:aa (aa AV),AU a=ci fY a
 |[]=>rfl
 |e::a=>by
   rw[AU,ci,F8 a];grind
def dJ{a:Type}{x:ac (a×aa AV)}{v:a}:full x=Z v↔x=Z (v,[]):=by
 unfold full;grind
theorem zJ{cs:aa AV}{t:T}(h:fY cs=Z t):∃k n s x l,cs=[.v (.int .i64 k),.v (.string n),.v (.int .i64 s),x]/\qw x=Z l/\t=.mk k (V n.data) s l:=by
 unfold fY at h;grind
def TB(e:aa AV):bq .term e=fY e:=by
 show full (gN e)=fY e;unfold gN;split
 .rename_i a b c d r;cases r with
  |nil=>
    cases f:fY [a,b,c,d]with
    |none|some t=>rfl
  |cons x r=>
    have g:fY (a::b::c::d::x::r)=U:=by
     grind [fY]
    rw[g];cases f:fY [a,b,c,d]with
    |none|some t=>rfl
 .rename_i h;cases f:fY e with
  |none=>rfl
  |some t=>
    grind [zJ]
def EQ(x:AV):dlist .term x=qw x:=by
 have a:(bq .term:aa AV->ac T)=fY:=funext TB;unfold dlist fU qw;grind [bN,Ty.size,F8]
def Xd{g c:aa (aa AV)}{k f:Nat}(E:0<f)(r:I g=I c)(D:∀e∈c,I e=k)(C:∀e∈c,∀x∈e,br x=O)
  (B:∀(i:Nat) (e d:aa AV),g[i]?=Z e->c[i]?=Z d->dR e d):Sub (.sl k g f) (.sl k c 1):=by
 intro Γ u A;cases A with
 |sl k g f a n cap b o us K H Q P N G M L F=>
   have get:∀(i:Nat) (d:aa AV) (j:Nat) (y:AV),c[i]?=Z d->d[j]?=Z y->∃e x,g[i]?=Z e/\e[j]?=Z x/\Sub x y:=by
    intro i d j y m q;have p:i<I g:=by rw[r];exact getElem?_lt m
    have s:=aV p;let⟨x,z,l⟩:=(B i _ d s m).get j y q;exact⟨_,x,s,z,l⟩
   refine .sl k c 1 a n cap b o us (by rw[K,r]) (λ _=>H E) (λ h=>absurd h (by decide)) D C G ?_ ?_ ?_
   .grind
   .grind
   .intro i d j y m q;let⟨e,x,w,v,t⟩:=get i d j y m q;exact t Γ _ (F i e j x w v)
theorem Uk(k:Nat)(b:0<k):Sub (.v (.slice U 0 0)) (.sl k [] 1):=by
 intro Γ u a;have:=ch a;subst this;exact .sl k [] 1 U 0 0 0 0 (λ _ _=>undef) rfl (λ _=>al _) (λ h=>absurd h (by decide)) (by simp) (by simp) b (.inl rfl) (by simp) (by simp)
def zY:∀l:aa T,vD l=l.map gM
 |[]=>rfl
 |t::l=>by rw[vD,zY l];rfl
theorem Tz(t:T):I (gM t)=4:=by let⟨k,n,s,l⟩:=t;rw[gM];rfl
theorem RH(t:T):∀x∈gM t,br x=O:=by
 let⟨k,n,s,l⟩:=t;intro x a;rw[gM]at a;simp at a;obtain rfl|rfl|rfl|rfl:=a<;>rfl
theorem fK:∀(τ:Ty) (v:Val τ),I (aq τ v)=τ.size
 |.int _,_|.bool,_|.str,_=>rfl
 |.term,t=>Tz t
 |.list _,_=>rfl
 |.pair a b,p=>by rw[aq,aU,fK a,fK b];rfl
 |.one a,v=>by rw[aq,fK a];rfl
 |.map _ _,_=>rfl
theorem fI:∀(τ:Ty) (v:Val τ),∀x∈aq τ v,br x=O
 |.int _,_,x,h|.bool,_,x,h|.str,_,x,h=>by simp[aq]at h;subst h;rfl
 |.term,t,x,h=>RH t x h
 |.list _,_,x,h=>by simp[aq]at h;subst h;rfl
 |.pair a b,p,x,h=>by
   rw[aq]at h;obtain h|h:=bc.1 h
   .exact fI a _ x h
   .exact fI b _ x h
 |.one a,v,x,h=>fI a v x h
 |.map _ _,_,x,h=>by simp[aq]at h;subst h;rfl
def qox(t:T):∀cs,fY cs=Z t->dR cs (gM t)/\∀x∈cs,br x=O:=by
 refine T.ind (P:=λ t=>∀cs,fY cs=Z t->dR cs (gM t)/\∀x∈cs,br x=O) ?_ t;intro t m cs h;obtain⟨k,n,s,x,l,rfl,b,rfl⟩:=zJ h;have o:(⟨n.data.toList.toArray⟩:gS)=n:=by cases n;simp
 have c:Sub x (.sl 4 (vD l) 1)/\br x=O:=by
  unfold qw at b;split at b
  .cases b;rw[vD];exact⟨Uk 4 (by decide),rfl⟩
  .rename_i r q;refine⟨?_,rfl⟩;rw[F8]at b;rw[zY];apply Xd (pI _) (by rw[en b,ce])
   .grind [Tz]
   .grind [RH]
   .intro i e u p a;let⟨g,d,j⟩:=oS b p;rw[dC,d]at a;simp at a;subst a;exact(m g (aP d) e j).1
  .cases b
 refine⟨?_,?_⟩
 .rw[gM,o];exact .cons (.refl _) (.cons (.refl _) (.cons (.refl _) (.cons c.1 .nil)))
 .intro y f;simp at f;obtain rfl|rfl|rfl|rfl:=f
  .rfl
  .rfl
  .rfl
  .exact c.2
def dR.append:∀{a b c d:aa AV},dR a b->dR c d->dR (a++c) (b++d)
 |_,_,_,_,.nil,g=>g
 |_,_,_,_,.cons h t,g=>.cons h (t.append g)
theorem Ty.size_pos:∀τ:Ty,0<τ.size
 |.int _|.bool|.str=>Nat.one_pos
 |.term=>by decide
 |.list _=>Nat.one_pos
 |.pair a b=>cU (Ty.size_pos a) (kM _ _)
 |.one a=>Ty.size_pos a
 |.map _ _=>Nat.one_pos
def mS{σ b a:Type}{p:aa σ->ac (b×aa σ)}{q:aa σ->ac (a×aa σ)}{cs:aa σ}{v:b×a}{r:aa σ}:vA p q cs=Z (v,r)↔∃c,p cs=Z (v.1,c)/\q c=Z (v.2,r):=by
 grind [vA]
def yY:∀(τ:Ty) {cs:aa AV}{v:Val τ}{r:aa AV} (s:aa AV),er τ cs=Z (v,r)->er τ (cs++s)=Z (v,r++s)
 |.int k,cs,v,r,s,h=>by
   change eW k cs=_ at h;show eW k (cs++s)=_;unfold eW at h;grind [eW]
 |.bool,cs,v,r,s,h=>by
   change kz cs=_ at h;unfold kz at h;split at h<;>cases h;rfl
 |.str,cs,v,r,s,h=>by
   change iO cs=_ at h;unfold iO at h;split at h<;>cases h;rfl
 |.term,cs,v,r,s,h=>by
   change gN cs=_ at h;unfold gN at h;split at h<;>try cases h
   split at h<;>cases h;next c=>show gN _=_;grind [gN]
 |.list a,cs,v,r,s,h=>by
   change cD _ cs=_ at h;unfold cD at h;split at h<;>try cases h
   split at h<;>cases h;next c=>show cD _ _=_;grind [cD]
 |.pair a b,cs,v,r,s,h=>by
   let⟨f,e,d⟩:=mS.1 h;exact mS.2 ⟨_,yY a s e,yY b s d⟩
 |.one a,cs,v,r,s,h=>yY a s h
 |.map a b,cs,v,r,s,h=>by
   change cD _ cs=_ at h;unfold cD at h;split at h<;>try cases h
   split at h<;>cases h;next c=>show cD _ _=_;grind [cD]
theorem ot{e d:Type}{a b:Ty}{f:aa AV->ac e}{g:aa AV->ac d}{x:AV}{l:aa (e×d)}(h:dMc a b f g x=Z l):∃ks vs,x=.mc (kcT a) a.agg b.agg ks vs/\gz f g ks vs=Z l:=by
 unfold dMc at h;split at h<;>try cases h
 split at h<;>try cases h
 next c=>rw[aK,aK]at c;rw[bH c.1,qj c.2.1,qj c.2.2];exact⟨_,_,rfl,h⟩
def MN{d c:Type}{a b:Ty}{f:aa AV->ac d}{g:aa AV->ac c}{ks vs:aa (aa AV)}:dMc a b f g (.mc (kcT a) a.agg b.agg ks vs)=gz f g ks vs:=by
 have e:∀x,eE x x=O:=λ x=>by cases x<;>rfl
 simp only[dMc,kQ,e,nN]
def qnT{b:aa KC}{c a:Bool}{ks vs:aa (aa AV)}(y:AV):Sub (.mc b c a ks vs) y:=λ Γ u h=>(X0 h).elim
def iS:∀(τ:Ty) {cs:aa AV}{v:Val τ}{r:aa AV},er τ cs=Z (v,r)->∃pre,cs=pre++r/\I pre=τ.size/\(∀x∈pre,br x=O)/\dR pre (aq τ v)/\er τ pre=Z (v,[])
 |.int k,cs,v,r,h=>by
   change eW k cs=_ at h;unfold eW at h;split at h<;>try cases h
   split at h<;>cases h;next g=>have l:=bH g;subst l;exact⟨[_],rfl,rfl,by simp[br],.refl _,by show eW _ _=_;simp[eW]⟩
 |.bool,cs,v,r,h=>by
   change kz cs=_ at h;unfold kz at h;split at h<;>cases h;exact⟨[_],rfl,rfl,by simp[br],.refl _,rfl⟩
 |.str,cs,v,r,h=>by
   change iO cs=_ at h;unfold iO at h;split at h<;>cases h;rename_i s;have D:(⟨s.data.toList.toArray⟩:gS)=s:=by cases s;simp
   exact⟨[_],rfl,rfl,by simp[br],by rw[aq,D];exact .refl _,rfl⟩
 |.term,cs,v,r,h=>by
   change gN cs=_ at h;unfold gN at h;split at h<;>try cases h
   split at h<;>cases h;next c=>let⟨o,m⟩:=qox _ _ c;exact⟨_,rfl,rfl,m,o,by show gN _=_;simp only[gN,c]⟩
 |.list a,cs,v,r,h=>by
   change cD _ cs=_ at h;unfold cD at h;split at h<;>try cases h
   rename_i x A;split at h<;>cases h;rename_i c;refine⟨[x],rfl,rfl,?_,?_,by show cD _ _=_;simp only[cD,c]⟩
   .intro y f;simp at f;subst f;unfold fU at c;split at c
    .rfl
    .rfl
    .cases c
   .rw[aq];refine .cons ?_ .nil;unfold fU at c;split at c
    .grind [Uk,Ty.size_pos]
    .rename_i N P n;split at c
     .rename_i g;have g:=bH g;subst g;apply Xd (pI _) (by rw[en c,ce])
      .grind [fK]
      .grind [fI]
      .intro i e Q E d;let⟨w,t,q⟩:=oS c E;rw[dC,t]at d;simp at d;subst d;let⟨pre,M,_,_,L,_⟩:=iS a (dJ.1 q);grind
     .cases c
    .cases c
 |.pair a b,cs,v,r,h=>by
   let⟨K,o,m⟩:=mS.1 h;let⟨p,e1,C,t,z,H⟩:=iS a o;let⟨j,F,B,q,u,G⟩:=iS b m;refine⟨p++j,by rw[e1,F,bE],by rw[aU,C,B];rfl,?_,by rw[aq];exact z.append u,?_⟩
   .grind
   .exact mS.2 ⟨j,by have:=yY a j H;simpa using this,G⟩
 |.one a,cs,v,r,h=>iS a h
 |.map a b,cs,v,r,h=>by
   change cD _ cs=_ at h;unfold cD at h;split at h<;>try cases h
   rename_i x A;split at h<;>cases h;rename_i c;refine⟨[x],rfl,rfl,?_,?_,by show cD _ _=_;simp only[cD,c]⟩
   .obtain⟨ks,vs,rfl,_⟩:=ot c;intro y f;simp at f;subst f;rfl
   .obtain⟨ks,vs,rfl,_⟩:=ot c;rw[aq];exact .cons (qnT _) .nil
def qiU(t:T):fY (gM t)=Z t:=by
 refine T.ind (P:=λ t=>fY (gM t)=Z t) ?_ t;intro t c;let⟨k,n,s,l⟩:=t
 have:AU (vD l)=Z l:=by
  rw[F8,zY];have c:∀x∈l,fY (gM x)=Z x:=c
  have a:∀m:aa T,(∀x∈m,fY (gM x)=Z x)->ci fY (m.map gM)=Z m:=by
   intro m
   induction m with
   |nil=>intro _;rfl
   |cons x m b=>intro h;exact jF.2 ⟨x,m,h x (aW ..),b λ y d=>h y (aS _ d),rfl⟩
  exact a l c
 rw[gM,fY,qw,this]
def uG:∀(τ:Ty) (v:Val τ),er τ (aq τ v)=Z (v,[])
 |.int k,v=>by show eW k [_]=_;simp[eW]
 |.bool,v=>rfl
 |.str,v=>by show iO _=_;simp[iO,aq]
 |.term,t=>by
   have:=TB (gM t);rw[qiU]at this;exact dJ.1 this
 |.list a,l=>by
   have c:ci (λ e=>full (er a e)) (l.map (aq a))=Z l:=qc (λ v=>by rw[uG a v];rfl) l;show cD _ [_]=_;grind [cD,fU,bN]
 |.pair a b,v=>mS.2 ⟨_,yY a _ (uG a v.1),by rw[fS];exact uG b v.2⟩
 |.one a,v=>uG a v
 |.map a b,l=>by
   have c:∀l:aa (Val a×Val b),gz (λ e=>full (er a e)) (λ e=>full (er b e)) (l.map λ p=>aq a p.1) (l.map λ p=>aq b p.2)=Z l:=by
    intro l
    induction l with
    |nil=>rfl
    |cons p l d=>
      have e1:full (er a (aq a p.1))=Z p.1:=by rw[uG a p.1];rfl
      have f:full (er b (aq b p.2))=Z p.2:=by rw[uG b p.2];rfl
      simp only[aZ,gz,e1,f,d]
   show cD _ [_]=_;simp only[cD,MN,c]
def Gw:∀(j:Ty) {cs:aa AV}{v:Val j}{r:aa AV},er j cs=Z (v,r)->∃pre,cs=pre++r/\((∀x∈pre,∃c,cu [c] [x]=O)->pre=aq j v)
 |.int k,cs,v,r,h=>by
   change eW k cs=_ at h;unfold eW at h;split at h<;>try cases h
   split at h<;>cases h;next y=>exact⟨[_],rfl,λ _=>by rw[bH y];rfl⟩
 |.bool,cs,v,r,h=>by
   change kz cs=_ at h;unfold kz at h;split at h<;>cases h;exact⟨[_],rfl,λ _=>rfl⟩
 |.str,cs,v,r,h=>by
   change iO cs=_ at h;unfold iO at h;split at h<;>cases h;rename_i s;have w:(⟨s.data.toList.toArray⟩:gS)=s:=by cases s;simp
   exact⟨[_],rfl,λ _=>by rw[aq,w]⟩
 |.term,cs,v,r,h=>by
   change gN cs=_ at h;unfold gN at h;split at h<;>try cases h
   split at h<;>cases h;next f=>obtain⟨k,n,s,x,l,e,i,rfl⟩:=zJ f;cases e;refine⟨[_,_,_,_],rfl,λ d=>?_⟩;let⟨c,g⟩:=d _ (aS _ (aS _ (aS _ (aW ..))));unfold qw at i;split at i<;>(try cases i)<;>cases c<;>cases g
 |.list a,cs,v,r,h=>by
   change cD _ cs=_ at h;unfold cD at h;split at h<;>try cases h
   next x o=>split at h<;>cases h;next f=>refine⟨[x],rfl,λ d=>?_⟩;let⟨c,g⟩:=d x (by simp);unfold fU at f;split at f<;>(try cases f)<;>cases c<;>cases g
 |.pair a b,cs,v,r,h=>by
   let⟨B,i,z⟩:=mS.1 h;let⟨p,e1,u⟩:=Gw a i;let⟨q,A,t⟩:=Gw b z;exact⟨p++q,by rw[e1,A,bE],λ d=>by rw[aq,u λ x m=>d x (bc.2 (.inl m)),t λ x m=>d x (bc.2 (.inr m))]⟩
 |.one a,cs,v,r,h=>Gw a h
 |.map a b,cs,v,r,h=>by
   change cD _ cs=_ at h;unfold cD at h;split at h<;>try cases h
   next x o=>split at h<;>cases h;next f=>refine⟨[x],rfl,λ d=>?_⟩;let⟨c,g⟩:=d x (by simp);obtain⟨ks,vs,rfl,_⟩:=ot f;cases c<;>cases g
theorem Vz:∀{b:aa KC}{k:aa AV},cu b k=O->∀x∈k,∃c,cu [c] [x]=O
 |[],[],_,x,a=>by cases a
 |[],_::_,h,_,_=>by cases h
 |c::b,k,h,x,a=>by
   obtain⟨y,r,rfl,e,d⟩:=uN h;obtain rfl|a:=bi.1 a
   .exact⟨c,e⟩
   .exact Vz d x a
def qnc{a:Ty}{b:aa KC}{k:aa AV}{v:Val a}(h:bq a k=Z v)(c:cu b k=O):k=aq a v:=by
 let⟨pre,e,o⟩:=Gw a (dJ.1 h);grind [Vz]
def Ab{d c:Type}{f:aa AV->ac d}{g:aa AV->ac c}:∀{ks vs:aa (aa AV)}{l:aa (d×c)},gz f g ks vs=Z l->I ks=I l/\I vs=I l
 |[],[],l,h=>by cases h;exact⟨rfl,rfl⟩
 |[],_::_,l,h|_::_,[],l,h=>by cases h
 |k::ks,v::vs,l,h=>by
   simp only[gz]at h;split at h<;>try cases h
   split at h<;>cases h;next e=>let⟨a,b⟩:=Ab e;simp[a,b]
def KS{i e:Type}{f:aa AV->ac i}{g:aa AV->ac e}:∀{ks vs:aa (aa AV)}{l:aa (i×e)},gz f g ks vs=Z l->∀{j:Nat}{k v:aa AV},ks[j]?=Z k->vs[j]?=Z v->∃p,l[j]?=Z p/\f k=Z p.1/\g v=Z p.2
 |[],[],l,h,j,k,v,c,d=>by simp at c
 |[],_::_,l,h,_,_,_,_,_|_::_,[],l,h,_,_,_,_,_=>by cases h
 |k::ks,v::vs,l,h,j,r,q,c,d=>by
   simp only[gz]at h;split at h<;>try cases h
   rename_i a b o n;split at h<;>cases h;rename_i m;cases j with
   |zero=>simp at c d;subst c;subst d;exact⟨_,rfl,o,n⟩
   |succ j=>exact KS m (by simpa using c) (by simpa using d)
abbrev jk:=@Ty.size_pos
structure Mp where
 b:Nat->Nat
 nb:Nat
 r:Nat->Option Nat
 v:Nat->Nat
 q:Nat->List (List AV)
 rw:List cm
def mp0:Mp:=⟨λ _=>0,0,λ _=>U,λ _=>0,λ _=>[],[]⟩
def lvl:AV->Nat
 |.v _=>2
 |.sl _ _ n=>n
 |_=>0
def hZ(r:ac Nat)(v:Nat)(τ:Ty)(l:aa (Val τ))(y:AV):Prop:=match r with
 |Z r=>y=.rs r 0 (I l) v Y
 |U=>dlist τ y=Z l/\2<=lvl y
def Lo(y:AV):Prop:=y=.v (.slice U 0 0)\/(∃k a n,y=.sl k a n)\/∃r lo n b f,y=.rs r lo n b f
def qjT{τ:Ty}{y:AV}{l:aa (Val τ)}(h:dlist τ y=Z l):Lo y:=by
 unfold dlist fU at h;split at h
 .exact .inl rfl
 .exact .inr (.inl ⟨_,_,_,rfl⟩)
 .cases h
def hZ.ish{r:ac Nat}{v:Nat}{τ:Ty}{l:aa (Val τ)}{y:AV}(h:hZ r v τ l y):Lo y:=by
 cases r with
 |some r=>exact .inr (.inr ⟨_,_,_,_,_,h⟩)
 |none=>exact qjT h.1
def AK(m:Mp)(id a:Nat)(y:AV):Prop:=
 ∃R,m.rw[id]?=Z R/\a<=R.ver/\Lo y/\(R.ver=a->hZ (m.r id) (m.v id) R.τ R.l y)
mutual
def OK(m:Mp):TV->AV->Prop
 |.i k n,y=>y=.v (.int k n)
 |.b x,y=>y=.v (.bool x)
 |.s x,y=>y=.v (.string ⟨x.toArray⟩)
 |.c v,y=>bQ v=O/\y=.v v
 |.nil,y=>y=.v (.slice U 0 0)
 |.sl τ l g,y=>dlist τ y=Z l/\g<=lvl y
 |.row id a,y=>AK m id a y
 |.ptr b o,y=>b<m.nb/\y=.ptr (m.b b) o
 |.pti b i,y=>b<m.nb/\0<=i/\y=.ptr (m.b b) i.toNat
 |.rpt id a d i cs o,y=>∃R,m.rw[id]?=Z R/\a<=R.ver/\d<=R.sv/\((∃r j h,y=.rpt r j o h)\/∃ds,y=.ept ds o)/\(R.ver=a->(∃r j,m.r id=Z r/\y=.rpt r j o (m.v id)/\i=((j:Nat):Int)/\j<I R.l/\(R.sv=d->∃ds,(m.q id)[j]?=Z ds/\OKL m cs ds))\/(m.r id=U/\0<I R.l/\(R.sv=d->∃ds,y=.ept ds o/\OKL m cs ds)))
 |.ept cs o,y=>∃ds,y=.ept ds o/\OKL m cs ds
 |.fn f cs,y=>∃ds,y=.fn f ds/\OKL m cs ds
 |.agg cs,y=>∃ds,y=.agg ds/\OKL m cs ds
 |.tup cs,y=>∃ds,y=.tup ds/\OKL m cs ds
 |.dead,_=>True
 |.mp b,y=>b<m.nb/\y=.mp (m.b b)
 |.mc e τ l,y=>dMc e τ (bq e) (bq τ) y=Z l
def OKL(m:Mp):aa TV->aa AV->Prop
 |[],ys=>ys=[]
 |x::xs,ys=>∃y r,ys=y::r/\OK m x y/\OKL m xs r
end
structure MLe (m m':Mp):Prop where
 nb:m.nb<=m'.nb
 b:∀i,i<m.nb->m'.b i=m.b i
 row:∀id R,m.rw[id]?=Z R->∃R',m'.rw[id]?=Z R'/\R.ver<=R'.ver/\R.sv<=R'.sv/\(R'.ver=R.ver->R'.l.length=R.l.length/\m'.r id=m.r id/\m'.v id=m.v id/\R'.τ=R.τ/\(R'.sv=R.sv->m'.q id=m.q id)/\(m.r id=U->∀y,dlist R.τ y=Z R.l->dlist R'.τ y=Z R'.l))
def MLe.refl(m:Mp):MLe m m:=⟨al _,λ _ _=>rfl,λ _ R h=>⟨R,h,al _,al _,λ _=>⟨rfl,rfl,rfl,rfl,λ _=>rfl,λ _ _ h=>h⟩⟩⟩
def MLe.trans{a b c:Mp}(h:MLe a b)(g:MLe b c):MLe a c where
 nb:=bR h.nb g.nb
 b:=λ i f=>(g.b i (cU f h.nb)).trans (h.b i f)
 row:=λ id R l=>by
  let⟨d,p,o,n,m⟩:=h.row id R l;let⟨R2,s,r,g3,q⟩:=g.row id d p;refine⟨R2,s,bR o r,bR n g3,λ H=>?_⟩;have e1:d.ver=R.ver:=by omega
  have t:R2.ver=d.ver:=by omega
  let⟨F,j,E,D,C,B⟩:=m e1;let⟨A,z,x,w,v,u⟩:=q t;exact⟨A.trans F,z.trans j,x.trans E,w.trans D,λ G=>(v (by omega)).trans (C (by omega)),λ e y k=>u (j.trans e) y (B e y k)⟩
def AK.mono{m m':Mp}(g:MLe m m'){id f:Nat}{y:AV}(h:AK m id f y):AK m' id f y:=by
 let⟨R,n,j,i,e⟩:=h;let⟨R',p,o,_,g3⟩:=g.row id R n;refine⟨R',p,bR j o,i,λ q=>?_⟩;have e1:R'.ver=R.ver:=by omega
 let⟨a,b,c,d,_,k⟩:=g3 e1;have e:=e (by omega);rw[b,c];revert e k;cases m.r id with
 |some r=>
   intro _ e;show y=.rs r 0 (I R'.l) (m.v id) Y;rw[a];exact e
 |none=>intro k e;exact⟨k rfl y e.1,e.2⟩
mutual
theorem OK.mono{m m':Mp}(e:MLe m m'):∀{x:TV}{y:AV},OK m x y->OK m' x y
 |.i ..,y,h|.b ..,y,h|.s ..,y,h|.c ..,y,h|.nil,y,h|.sl ..,y,h=>h
 |.row ..,y,h=>AK.mono e h
 |.ptr b o,y,h=>⟨cU h.1 e.nb,by rw[e.b _ h.1];exact h.2⟩
 |.pti b i,y,h=>⟨cU h.1 e.nb,h.2.1,by rw[e.b _ h.1];exact h.2.2⟩
 |.rpt id w G _ cs o,y,h=>by
   let⟨R,k,g,u,D,C⟩:=h;let⟨R',F,E,v,g3⟩:=e.row id R k;refine⟨R',F,bR g E,bR u v,D,λ H=>?_⟩;have e1:R'.ver=R.ver:=by omega
   let⟨a,b,c,_,d,_⟩:=g3 e1;obtain⟨r,j,t,z,A,q,p⟩|⟨t,q,p⟩:=C (by omega)
   .refine .inl ⟨r,j,b.trans t,by rw[c];exact z,A,by rw[a];exact q,λ B=>?_⟩;let⟨ds,n,l⟩:=p (by omega);exact⟨ds,by rw[d (by omega)];exact n,OKL.mono e l⟩
   .refine .inr ⟨b.trans t,by rw[a];exact q,λ B=>?_⟩;let⟨ds,n,l⟩:=p (by omega);exact⟨ds,n,OKL.mono e l⟩
 |.ept cs o,y,⟨ds,k,g⟩|.fn f cs,y,⟨ds,k,g⟩|.agg cs,y,⟨ds,k,g⟩|.tup cs,y,⟨ds,k,g⟩=>⟨ds,k,OKL.mono e g⟩
 |.dead,y,h=>trivial
 |.mp b,y,h=>⟨cU h.1 e.nb,by rw[e.b _ h.1];exact h.2⟩
 |.mc ..,y,h=>h
theorem OKL.mono{m m':Mp}(a:MLe m m'):∀{xs:aa TV}{ys:aa AV},OKL m xs ys->OKL m' xs ys
 |[],ys,h=>h
 |x::xs,ys,⟨y,r,d,c,b⟩=>⟨y,r,d,OK.mono a c,OKL.mono a b⟩
end
def qnC{m:Mp}{R:cm}{id a o:Nat}{i:Int}{cs:aa TV}{y:AV}(h:(∃r j,m.r id=Z r/\y=.rpt r j o (m.v id)/\i=((j:Nat):Int)/\j<I R.l/\(R.sv=a->∃ds,(m.q id)[j]?=Z ds/\OKL m cs ds))\/(m.r id=U/\0<I R.l/\(R.sv=a->∃ds,y=.ept ds o/\OKL m cs ds)))(b:R.sv=a):
  (∃r j ds,m.r id=Z r/\y=.rpt r j o (m.v id)/\i=((j:Nat):Int)/\j<I R.l/\(m.q id)[j]?=Z ds/\OKL m cs ds)\/∃ds,m.r id=U/\y=.ept ds o/\0<I R.l/\OKL m cs ds:=by
 grind
def OKL.nil(m:Mp):OKL m [] []:=rfl
def OKL.cons{m:Mp}{x:TV}{y:AV}{xs:aa TV}{ys:aa AV}(h:OK m x y)(g:OKL m xs ys):OKL m (x::xs) (y::ys):=⟨y,ys,rfl,h,g⟩
def OKL.len{m:Mp}:∀{xs:aa TV}{ys:aa AV},OKL m xs ys->I ys=I xs
 |[],_,h=>by cases h;rfl
 |_::_,_,⟨_,_,rfl,_,h⟩=>by simp[h.len]
theorem OKL.get{m:Mp}:∀{xs:aa TV}{ys:aa AV},OKL m xs ys->∀{i:Nat}{x:TV},xs[i]?=Z x->∃y,ys[i]?=Z y/\OK m x y
 |[],_,_,i,x,a=>by simp at a
 |_::_,_,⟨y,r,rfl,c,b⟩,0,x,a=>by simp at a;subst a;exact⟨y,rfl,c⟩
 |_::_,_,⟨y,r,rfl,c,b⟩,i+1,x,a=>by simpa using b.get (by simpa using a)
def OKL.append{m:Mp}:∀{xs:aa TV}{ys:aa AV}{b:aa TV}{a:aa AV},OKL m xs ys->OKL m b a->OKL m (xs++b) (ys++a)
 |[],_,_,_,h,g=>by cases h;exact g
 |_::_,_,_,_,⟨y,r,rfl,d,c⟩,g=>⟨y,_,rfl,d,c.append g⟩
def OKL.take{m:Mp}(n:Nat):∀{xs:aa TV}{ys:aa AV},OKL m xs ys->OKL m (xs.take n) (ys.take n):=by
 induction n with
 |zero=>intro xs ys _;simp;exact rfl
 |succ n a=>
   intro xs ys h;cases xs with
   |nil=>cases h;exact rfl
   |cons x xs=>obtain⟨y,r,rfl,c,b⟩:=h;exact⟨y,_,rfl,c,a b⟩
def OKL.drop{m:Mp}(n:Nat):∀{xs:aa TV}{ys:aa AV},OKL m xs ys->OKL m (xs.drop n) (ys.drop n):=by
 induction n with
 |zero=>intro xs ys h;simpa using h
 |succ n a=>
   intro xs ys h;cases xs with
   |nil=>cases h;exact rfl
   |cons x xs=>obtain⟨y,r,rfl,c,b⟩:=h;simpa using a b
def OKL.split{m:Mp}:∀{xs c:aa TV}{ys:aa AV},OKL m (xs++c) ys->∃a b,ys=a++b/\OKL m xs a/\OKL m c b
 |[],_,ys,h=>⟨[],ys,rfl,rfl,h⟩
 |_::_,_,_,⟨y,r,rfl,g,f⟩=>by
   obtain⟨a,b,rfl,e,d⟩:=f.split;exact⟨y::a,b,rfl,⟨y,a,rfl,g,e⟩,d⟩
def TO{m:Mp}{v:ah}(h:bQ v=O):OK m (lZ v) (.v v):=by
 unfold lZ;split
 .exact rfl
 .exact rfl
 .next s=>show AV.v (.string s)=.v (.string ⟨s.data.toList.toArray⟩);cases s;simp
 .exact rfl
 .rw[h];exact⟨h,rfl⟩
def wV{m:Mp}:∀{l:aa ah},l.all bQ=O->OKL m (l.map lZ) (l.map .v)
 |[],_=>rfl
 |x::l,h=>by
   rw[fm,aK]at h;exact⟨_,_,rfl,TO h.1,wV h.2⟩
def lW{m:Mp}(v:ah):OK m (lZ v) (ofC v):=by
 unfold ofC;cases h:bQ v with
 |true=>exact TO h
 |false=>
   have:lZ v=.dead:=by
    unfold lZ;grind [bQ]
   rw[this];trivial
def qiy{m:Mp}(v:ah):OK m (Uq v) (Gt v):=by
 cases v with
 |agg cs=>
   show OK m (match cs.toList.all bQ with|true=>TV.agg (cs.toList.map lZ)|false=>.dead) (match cs.toList.all bQ with|true=>.agg (cs.toList.map .v)|false=>.dead);cases h:cs.toList.all bQ with
   |true=>exact⟨_,rfl,wV h⟩
   |false=>trivial
 |tuple vs=>
   show OK m (match V vs with|[]=>TV.tup []|_=>.dead) (match V vs with|[]=>.tup []|_=>.dead);cases V vs with
   |nil=>exact⟨_,rfl,rfl⟩
   |cons a l=>trivial
 |bool b=>exact lW (.bool b)
 |int k n=>exact lW (.int k n)
 |float k n=>exact lW (.float k n)
 |complex k a b=>exact lW (.complex k a b)
 |string s=>exact lW (.string s)
 |pointer a=>exact lW (.pointer a)
 |slice a n c=>exact lW (.slice a n c)
 |map r=>exact lW (.map r)
 |chan r=>exact lW (.chan r)
 |func f a b=>exact lW (.func f a b)
 |nilFunc=>exact lW (.nilFunc)
 |iface t v=>exact lW (.iface t v)
 |nilIface=>exact lW (.nilIface)
def kg(σ:St)(R:cm)(b:ac Nat)(a:Nat)(d:aa (aa AV)):Prop:=match b with
 |Z r=>∃Q,σ.rw[r]?=Z Q/\Q.c=d/\Q.ver=a/\Q.k=R.τ.size/\ci (bq R.τ) Q.c=Z R.l/\Q.fz<=I Q.c/\(R.sh=Y->Q.fz=0/\Q.off=Y)
 |U=>R.sh=Y->R.l=[]
def eH(m:Mp)(σ:St):Prop:=∀id R,m.rw[id]?=Z R->kg σ R (m.r id) (m.v id) (m.q id)
structure Rel (N:Nat×Nat) (m:Mp) (E:Env) (τ:TS) (tm:List AV) (σ:St):Prop where
 len:tm.length=N.1
 env:∀t,OK m (get E t) (tm.getD t .dead)
 rw:m.rw=τ.rw
 nb:m.nb=τ.bx.length
 box:∀b cs,τ.bx[b]?=Z cs->∃ds,σ.bx[m.b b]?=Z ds/\OKL m cs ds
 inj:∀b b',b<m.nb->b'<m.nb->m.b b=m.b b'->b=b'
 rows:eH m σ
 rinj:∀id id' r,id<m.rw.length->id'<m.rw.length->m.r id=Z r->m.r id'=Z r->id=id'
 pin:∀i,i<N.2->i<m.nb/\m.b i=i
def Lp{m m':Mp}{n:Nat}(c:MLe m m')(h:∀i,i<n->i<m.nb/\m.b i=i):∀i,i<n->i<m'.nb/\m'.b i=i:=λ i a=>
 ⟨cU (h i a).1 c.nb,(c.b i (h i a).1).trans (h i a).2⟩
def Rel.ev{N:Nat×Nat}{m:Mp}{E:Env}{τ:TS}{a:aa AV}{σ:St}(h:Rel N m E τ a σ)(x:bw):OK m (evT E x) (aev a x):=by
 cases x with
 |tmp t=>exact h.env t
 |const v=>exact qiy v
 |func f=>exact⟨_,rfl,rfl⟩
 |global g=>trivial
def Rel.evs{N:Nat×Nat}{m:Mp}{E:Env}{τ:TS}{a:aa AV}{σ:St}(h:Rel N m E τ a σ):∀l:aa bw,OKL m (l.map (evT E)) (l.map (aev a))
 |[]=>rfl
 |x::l=>⟨_,_,rfl,h.ev x,h.evs l⟩
theorem fL{τ:Ty}{y:AV}{l:aa (Val τ)}(h:dlist τ y=Z l):y=.v (.slice U 0 0)/\l=[]\/∃a n,y=.sl τ.size a (n+1)/\ci (bq τ) a=Z l:=by
 unfold dlist fU at h;split at h
 .grind
 .rename_i k a n;split at h
  .next b=>have:=bH b;simp_all
  .cases h
 .cases h
def OK.one{m:Mp}{x:TV}{y:AV}(h:OK m x y)(d:mF x=O):isC y=O/\fw x=[x]/\cellsOf y=[y]:=by
 cases x with
 |i|b|s=>cases h;exact⟨rfl,rfl,rfl⟩
 |c=>obtain⟨_,rfl⟩:=h;exact⟨rfl,rfl,rfl⟩
 |nil=>cases h;exact⟨rfl,rfl,rfl⟩
 |sl τ l q=>
   let⟨h,_⟩:=h;obtain⟨rfl,_⟩|⟨e,n,rfl,_⟩:=fL h<;>exact⟨rfl,rfl,rfl⟩
 |row id a=>
   let⟨R,_,_,h,_⟩:=h;obtain rfl|⟨k,e,j,rfl⟩|⟨r,lo,n,g,f,rfl⟩:=h<;>exact⟨rfl,rfl,rfl⟩
 |ptr b o=>obtain⟨_,rfl⟩:=h;exact⟨rfl,rfl,rfl⟩
 |pti b i=>obtain⟨_,_,rfl⟩:=h;exact⟨rfl,rfl,rfl⟩
 |rpt id a p i cs o=>let⟨R,_,_,_,h,_⟩:=h;obtain⟨r,i,g,rfl⟩|⟨ds,rfl⟩:=h<;>exact⟨rfl,rfl,rfl⟩
 |ept cs o|fn f cs=>obtain⟨ds,rfl,_⟩:=h;exact⟨rfl,rfl,rfl⟩
 |agg cs|tup cs|dead=>simp[mF]at d
 |mp b=>obtain⟨_,rfl⟩:=h;exact⟨rfl,rfl,rfl⟩
 |mc=>obtain⟨ks,vs,rfl,_⟩:=ot h;exact⟨rfl,rfl,rfl⟩
def OKL.allC{m:Mp}:∀{xs:aa TV}{ys:aa AV},OKL m xs ys->xs.all mF=O->ys.all isC=O
 |[],_,h,_=>by cases h;rfl
 |x::xs,_,⟨y,r,rfl,b,a⟩,h=>by
   rw[fm,aK]at h;rw[fm,(b.one h.1).1,a.allC h.2];rfl
def OK.cells{m:Mp}{x:TV}{y:AV}(h:OK m x y)(e:(fw x).all mF=O):OKL m (fw x) (cellsOf y)/\(cellsOf y).all isC=O:=by
 have d:mF x=O->OKL m (fw x) (cellsOf y)/\(cellsOf y).all isC=O:=by
  intro g;let⟨a,b,c⟩:=h.one g;rw[b,c];exact⟨⟨y,[],rfl,h,rfl⟩,by simp[a]⟩
 cases x with
 |agg cs=>
   obtain⟨ds,rfl,f⟩:=h;exact⟨f,f.allC e⟩
 |tup cs|dead=>simp[fw,mF]at e
 |_=>exact d rfl
def qiS{x:AV}{l:aa T}(h:qw x=Z l):1<=lvl x:=by
 unfold qw at h;split at h
 .exact eO _
 .exact qV (aL _)
 .cases h
def E5{τ:Ty}{y:AV}{l:aa (Val τ)}(h:dlist τ y=Z l):1<=lvl y:=by
 obtain⟨rfl,_⟩|⟨a,n,rfl,_⟩:=fL h
 .exact eO _
 .exact qV (aL _)
def FK{m:Mp}:∀(τ:Ty) {cs:aa AV}{v:Val τ}{r:aa AV},er τ cs=Z (v,r)->∃pre,cs=pre++r/\OKL m (js τ v) pre
 |.int k,cs,v,r,h=>by
   change eW k cs=_ at h;unfold eW at h;split at h<;>try cases h
   split at h<;>cases h;next o=>have e:=bH o;subst e;exact⟨[_],rfl,⟨_,_,rfl,rfl,rfl⟩⟩
 |.bool,cs,v,r,h=>by
   change kz cs=_ at h;unfold kz at h;split at h<;>cases h;exact⟨[_],rfl,⟨_,_,rfl,rfl,rfl⟩⟩
 |.str,cs,v,r,h=>by
   change iO cs=_ at h;unfold iO at h;split at h<;>cases h;next s=>exact⟨[_],rfl,⟨_,_,rfl,by show AV.v (.string s)=.v (.string ⟨s.data.toList.toArray⟩);cases s;simp,rfl⟩⟩
 |.term,cs,v,r,h=>by
   change gN cs=_ at h;unfold gN at h;split at h<;>try cases h
   split at h<;>cases h;rename_i c;obtain⟨k,n,s,x,l,j,d,rfl⟩:=zJ c;cases j;refine⟨_,rfl,⟨_,_,rfl,rfl,_,_,rfl,?_,_,_,rfl,rfl,_,_,rfl,⟨?_,qiS d⟩,rfl⟩⟩
   .show AV.v (.string n)=.v (.string ⟨n.data.toList.toArray⟩);cases n;simp
   .rw[EQ];exact d
 |.list a,cs,v,r,h=>by
   change cD _ cs=_ at h;unfold cD at h;split at h<;>try cases h
   split at h<;>cases h;next c=>have c:dlist a _=Z v:=c;exact⟨[_],rfl,⟨_,_,rfl,⟨c,E5 c⟩,rfl⟩⟩
 |.pair a b,cs,v,r,h=>by
   let⟨u,d,q⟩:=mS.1 h;let⟨p,e1,i⟩:=FK (m:=m) a d;let⟨f,t,g⟩:=FK (m:=m) b q;exact⟨p++f,by rw[e1,t,bE],i.append g⟩
 |.one a,cs,v,r,h=>FK (m:=m) a h
 |.map a b,cs,v,r,h=>by
   change cD _ cs=_ at h;unfold cD at h;split at h<;>try cases h
   split at h<;>cases h;next c=>exact⟨[_],rfl,⟨_,_,rfl,c,rfl⟩⟩
def lV{m:Mp}{τ:Ty}{e:aa AV}{v:Val τ}(h:bq τ e=Z v):OKL m (js τ v) e:=by
 let⟨pre,b,a⟩:=FK (m:=m) τ (dJ.1 h);grind
theorem jo(τ:Ty)(v:Val τ):bq τ (aq τ v)=Z v:=dJ.2 (uG τ v)
def Gs{m:Mp}:∀(τ:Ty) (v:Val τ),OK m (oL τ v) (cG τ v)
 |.int k,v|.bool,v|.str,v=>rfl
 |.list a,v=>by
   have h:OKL m (js (.list a) v) (aq (.list a) v):=lV (jo (.list a) v);let⟨y,r,d,c,_⟩:=h;cases d;exact c
 |.term,v=>⟨_,rfl,lV (jo .term v)⟩
 |.pair a b,v=>⟨_,rfl,lV (jo (.pair a b) v)⟩
 |.one a,v=>⟨_,rfl,lV (jo (.one a) v)⟩
 |.map a b,v=>by
   have h:OKL m (js (.map a b) v) (aq (.map a b) v):=lV (jo (.map a b) v);let⟨y,r,d,c,_⟩:=h;cases d;exact c
end
section
open RowKit
def qou(τ:TS):ac TS->TS
 |U=>τ
 |Z a=>a
def Sim{α:Type}(N:Nat×Nat)(m:Mp)(E:Env)(τ:TS)(tm:aa AV)(σ:St)(K:KT α)(r:α)(p:ac (AV×ac St)):Prop:=
 ∃x a y σ' m',K x a=Z r/\p=Z (y,σ')/\MLe m m'/\Rel N m' E (qou τ a) tm (turn σ σ')/\OK m' x y/\(a=U->σ'=U)
section
variable {α:Type}{N:Nat×Nat}{m:Mp}{E:Env}{τ:TS}{tm:aa AV}{σ:St}{K:KT α}{r:α}{p:ac (AV×ac St)}
theorem Sim.same{x:TV}{y:AV}(a:Rel N m E τ tm σ)(h:K x U=Z r)(b:p=Z (y,U))(c:OK m x y):Sim N m E τ tm σ K r p:=
 ⟨x,U,y,U,m,h,b,.refl m,a,c,λ _=>rfl⟩
theorem Sim.to{x:TV}{y:AV}{a:TS}{σ':St}{m':Mp}(h:K x (Z a)=Z r)(b:p=Z (y,Z σ'))(e:MLe m m')(d:Rel N m' E a tm σ')(c:OK m' x y):Sim N m E τ tm σ K r p:=
 ⟨x,Z a,y,Z σ',m',h,b,e,d,c,λ h=>by cases h⟩
theorem Rel.box_lt(a:Rel N m E τ tm σ){b:Nat}(h:b<m.nb):m.b b<I σ.bx:=by
 rw[a.nb]at h;let⟨ds,c,_⟩:=a.box b _ (aV h);exact getElem?_lt c
theorem Rel.alloc(a:Rel N m E τ tm σ){cs:aa TV}{ds:aa AV}(q:OKL m cs ds):
  ∃m',MLe m m'/\Rel N m' E {τ with bx:=τ.bx++[cs]} tm {σ with bx:=σ.bx++[ds]}/\OK m' (.ptr (I τ.bx) 0) (.ptr (I σ.bx) 0):=by
 have c:MLe m {m with b:=λ i=>if i=m.nb then I σ.bx else m.b i,nb:=m.nb+1}:=
  ⟨eO _,λ i p=>af (Bn p),λ id R h=>⟨R,h,al _,al _,λ _=>⟨rfl,rfl,rfl,rfl,λ _=>rfl,λ _ _ h=>h⟩⟩⟩
 refine⟨_,c,?_,?_⟩
 .refine⟨a.len,λ t=>(a.env t).mono c,a.rw,by show m.nb+1=_;rw[a.nb];simp,?_,?_,a.rows,a.rinj,Lp c a.pin⟩
  .intro b cs' d;show ∃e,(σ.bx++[ds])[if b=m.nb then I σ.bx else m.b b]?=Z e/\_;by_cases j:b<I τ.bx
   .rw[dY j]at d;let⟨e,o,r⟩:=a.box b cs' d;rw[af (by rw[a.nb];omega),dY (getElem?_lt o)];exact⟨e,o,r.mono c⟩
   .have k:b<I (τ.bx++[cs]):=getElem?_lt d;simp at k;have l:b=I τ.bx:=by omega
    subst l;simp at d;subst d;rw[ag a.nb.symm];exact⟨ds,by simp,q.mono c⟩
  .intro b f d n g;change b<m.nb+1 at d;change f<m.nb+1 at n;change (if b=m.nb then I σ.bx else m.b b)=(if f=m.nb then I σ.bx else m.b f)at g;split at g<;>split at g
   .omega
   .have:=a.box_lt (b:=f) (by omega);omega
   .have:=a.box_lt (b:=b) (by omega);omega
   .exact a.inj b f (by omega) (by omega) g
 .refine⟨?_,?_⟩
  .show (I τ.bx)<m.nb+1;rw[a.nb];exact tk _
  .show AV.ptr (I σ.bx) 0=.ptr (if I τ.bx=m.nb then I σ.bx else m.b (I τ.bx)) 0;rw[ag a.nb.symm]
theorem Rel.setBox(a:Rel N m E τ tm σ){b:Nat}{cs:aa TV}{ds:aa AV}(g:b<m.nb)(k:OKL m cs ds)(w:aa Nat):Rel N m E {τ with bx:=τ.bx.set b cs} tm {σ with bx:=σ.bx.set (m.b b) ds,wr:=w}:=by
 refine⟨a.len,a.env,a.rw,by rw[a.nb];simp,?_,a.inj,a.rows,a.rinj,a.pin⟩;intro i cs' d;have c:i<m.nb:=by rw[a.nb];have:=getElem?_lt d;simpa using this
 by_cases f:i=b
 .subst f;have e:i<I τ.bx:=by rw[<-a.nb];exact c
  simp only[gh e,dF]at d;subst d;exact⟨ds,by simp only[gh (a.box_lt g)],k⟩
 .simp only[jA (oO f)]at d;let⟨l,p,o⟩:=a.box i cs' d;have j:m.b b≠m.b i:=λ h=>f (a.inj _ _ c g h.symm);grind
theorem Rel.rowsTo(a:Rel N m E τ tm σ){σ':St}(c:σ'.bx=σ.bx)(b:eH m σ'):Rel N m E τ tm σ':=
 ⟨a.len,a.env,a.rw,a.nb,by rw[c];exact a.box,a.inj,b,a.rinj,a.pin⟩
theorem qlM{r:Nat}{Q:Row}(f:Q.fz<=I Q.c):∀(e:aa Nat) {rw:aa Row},rw[r]?=Z Q->∃d,(frz rw e)[r]?=Z d/\d.c=Q.c/\d.k=Q.k/\d.ver=Q.ver/\d.fz<=I d.c:=by
 intro e
 induction e generalizing Q with
 |nil=>intro rw h;exact⟨Q,h,rfl,rfl,rfl,f⟩
 |cons a e n=>
   intro rw h
   have:∃b,(rw.modify a pA)[r]?=Z b/\b.c=Q.c/\b.k=Q.k/\b.ver=Q.ver/\b.fz<=I b.c:=by
    rw[ZE,h];by_cases o:a=r
    .exact⟨pA Q,by simp[o],rfl,rfl,rfl,Nat.max_le.2 ⟨f,al _⟩⟩
    .grind
   let⟨b,t,s,g3,q,p⟩:=this;let⟨u,m,l,j,i,g⟩:=n (Q:=b) p t;exact⟨u,m,l.trans s,j.trans g3,i.trans q,g⟩
def shM(m:Mp):Mp:={m with rw:=m.rw.map λ R=>⟨R.τ,R.l,R.ver,R.sv,O⟩}
theorem V6{id:Nat}{R:cm}(h:(shM m).rw[id]?=Z R):∃a,m.rw[id]?=Z a/\R=⟨a.τ,a.l,a.ver,a.sv,O⟩:=by
 change (m.rw.map _)[id]?=Z R at h;grind
theorem ph(m:Mp):MLe m (shM m):=by
 refine⟨al _,λ _ _=>rfl,λ id R h=>⟨⟨R.τ,R.l,R.ver,R.sv,O⟩,?_,al _,al _,λ _=>⟨rfl,rfl,rfl,rfl,λ _=>rfl,λ _ _ h=>h⟩⟩⟩;show(m.rw.map _)[id]?=_;rw[dC,h];rfl
theorem eH.frz(h:eH m σ)(b w:aa Nat):eH (shM m) {σ with rw:=frz σ.rw b,wrr:=w}:=by
 intro id R e;obtain⟨a,i,rfl⟩:=V6 e;have:=h id a i;show match m.r id with|some r=>∃Q,(Go.AmZ.frz σ.rw b)[r]?=Z Q/\Q.c=m.q id/\Q.ver=m.v id/\Q.k=a.τ.size/\ci (bq a.τ) Q.c=Z a.l/\Q.fz<=I Q.c/\(O=Y->Q.fz=0/\Q.off=Y)|none=>O=Y->a.l=[]
 cases d:m.r id with
 |some r=>
   rw[d]at this;let⟨Q,g,p,o,n,j,f,_⟩:=this;let⟨y,x,u,g3,t,s⟩:=qlM f (rw:=σ.rw) b g;grind
 |none=>intro h;cases h
theorem eH.sh(h:eH m σ):eH (shM m) σ:=by
 intro id R d;obtain⟨a,e,rfl⟩:=V6 d;have:=h id a e;show match m.r id with|some r=>∃Q,σ.rw[r]?=Z Q/\Q.c=m.q id/\Q.ver=m.v id/\Q.k=a.τ.size/\ci (bq a.τ) Q.c=Z a.l/\Q.fz<=I Q.c/\(O=Y->Q.fz=0/\Q.off=Y)|none=>O=Y->a.l=[]
 cases b:m.r id with
 |some r=>
   rw[b]at this;let⟨Q,o,n,j,i,g,f,_⟩:=this;grind
 |none=>intro h;cases h
theorem Rel.share(a:Rel N m E τ tm σ){σ':St}(f:σ'.bx=σ.bx)(e:eH (shM m) σ'):Rel N (shM m) E (shA τ) tm σ':=by
 refine⟨a.len,λ t=>(a.env t).mono (ph m),by show m.rw.map _=τ.rw.map _;rw[a.rw],a.nb,?_,a.inj,e,?_,a.pin⟩
 .intro b cs d;let⟨ds,h,g⟩:=a.box b cs d;exact⟨ds,by rw[f];exact h,g.mono (ph m)⟩
 .intro id c r e1 k j i;have l:(shM m).rw.length=I m.rw:=ce ..;exact a.rinj id c r (l▸e1) (l▸k) j i
theorem qml{op:mN}{k:IntKind}{a b:Int}{d:TV->ac α}{r:α}(h:ON op k a b d=Z r):∃x z,d x=Z r/\A7 op k a b=Z z/\OK m x (.v z):=by
 cases op<;>simp only[ON]at h<;>first
  |(cases h;done)
  |exact⟨_,_,h,rfl,rfl⟩
  |skip
 all_goals (
  cases c:ieq b 0 with
  |true=>rw[c]at h;cases h
  |false=>rw[c]at h;exact⟨_,_,h,by simp only[A7,c],rfl⟩)
theorem qkT{a b:aa aA}(h:nl a b=O):Hu ⟨a.toArray⟩ ⟨b.toArray⟩=Z ⟨(a++b).toArray⟩:=by
 have h:=nT h;unfold Hu;have e1:(⟨a.toArray⟩:gS).size=I a:=by simp[ByteArray.size]
 have c:(⟨b.toArray⟩:gS).size=I b:=by simp[ByteArray.size]
 rw[af (by rw[e1,c];have:IntKind.i64.max=9223372036854775807:=rfl;omega)];congr 1
theorem V0(a b:aa aA):xeq ⟨a.toArray⟩ ⟨b.toArray⟩=aT a b:=by
 simp[xeq,aT]
theorem qmy(a b:aa aA):xlt ⟨a.toArray⟩ ⟨b.toArray⟩=slt a b:=by
 simp[xlt,slt]
theorem qmK{op:mN}{a b:aa aA}{d:TV->ac α}{r:α}(h:OG op a b d=Z r):∃x z,d x=Z r/\Bb op ⟨a.toArray⟩ ⟨b.toArray⟩=Z z/\OK m x (.v z):=by
 cases op<;>simp only[OG]at h<;>first
  |(cases h;done)
  |(refine⟨_,_,h,rfl,?_⟩;simp only[V0,qmy];exact rfl)
  |skip
 cases c:nl a b with
 |false=>rw[c]at h;cases h
 |true=>rw[c]at h;exact⟨_,_,h,by simp only[Bb,qkT c],rfl⟩
theorem UW{place:Nat->ac (Nat×Nat)}:∀{l:aa (Nat×TV)}{c:aa (Nat×AV)}{cells:aa TV}{cells':aa AV}{cs:aa TV},
  (l.map (·.1)=c.map (·.1)/\OKL m (l.map (·.2)) (c.map (·.2)))->OKL m cells cells'->G4 place cells l=Z cs->∃ds,sC place cells' c=Z ds/\OKL m cs ds
 |[],c,cells,cells',cs,d,e,h=>by
   have:c=[]:=by cases c with|nil=>rfl|cons a b=>simp at d
   subst this;cases h;exact⟨cells',rfl,e⟩
 |(i,x)::l,c,cells,cells',cs,d,e,h=>by
   cases c with
   |nil=>simp at d
   |cons q c=>
     let⟨j,y⟩:=q;simp only[aZ,List.cons.injEq]at d;obtain⟨⟨rfl,g⟩,z,A,r,o,f⟩:=d;cases r;simp only[G4]at h;simp only[sC];split at h<;>try cases h
     rename_i off size p;split at h<;>try cases h
     rename_i k;simp only[aK,cC]at k;let⟨⟨u,t⟩,s⟩:=k;let⟨n,v⟩:=o.cells s;rw[p];have e1:I (cellsOf y)=size:=by rw[n.len];exact u
     have w:off+size<=I cells':=by rw[e.len];exact t
     simp only[e1,w,v,kQ,nN];exact UW ⟨g,f⟩ ((e.take off).append (n.append (e.drop (off+size)))) h
theorem uV{a:Bool}{size o:Nat}{cs:aa TV}{ds:aa AV}{x:TV}(b:OKL m cs ds)(h:sq a size cs o=Z x):∃y,mj a size ds o=Z y/\OK m x y:=by
 unfold sq at h;unfold mj;cases a with
 |true=>
   simp only at h |-
   split at h<;>cases h;next c=>rw[<-b.len]at c;rw[c];exact⟨_,rfl,_,rfl,(b.drop o).take size⟩
 |false=>exact b.get h
theorem rF(e:Rel N m E τ tm σ){y:Nat}{d:Nat}{a:ac bw}{n:Int}(h:pd d E a=Z n)(f:d<=y)(b:inb n y=O):iK d y (a.map (aev tm))=Z n.toNat:=by
 have b:=bH b;cases a with
 |none=>
   grind [pd,iK]
 |some x=>
   simp only[pd]at h;split at h<;>cases h;next k c=>have:=e.ev x;rw[c]at this;show GZ y (aev tm x)=_;rw[this];show bnd y n=_;unfold bnd;rw[ag b]
theorem zG{a:Type}{l:aa a}{j:Int}{v:a}(h:av l j=Z v):0<=j/\l[j.toNat]?=Z v:=by
 grind [av]
theorem oR{b a:Type}{x:ac b}{k:b->ac a}{r:a}(h:ae x k=Z r):∃v,x=Z v/\k v=Z r:=by
 unfold ae at h;grind
theorem jZ{b:Bool}{x:ac α}{r:α}(h:cond b x U=Z r):b=O/\x=Z r:=by
 grind
theorem Sf{b:Bool}{x:ac α}{r:α}(h:cond b U x=Z r):b=Y/\x=Z r:=by
 grind
end
end
section
open RowKit
def gu(τ:Ty)(y:AV):ac (Val τ):=match eE τ.agg (gY y)with
 |O=>bq τ (cellsOf y)
 |Y=>U
section
variable {α:Type}{N:Nat×Nat}{m:Mp}{E:Env}{τ:TS}{tm:aa AV}{σ:St}{K:KT α}{r:α}{p:ac (AV×ac St)}
theorem jW{a b l l'}(h:mu l b=Z l'):∃e:a=b,e▸l=l':=by
 grind [mu]
theorem qi2(Q):sI Q Q.k 0 (I Q.c) Q.ver=Z Q.c:=by
 grind [sI]
theorem rU(a:eH m σ){id R y}(e:m.rw[id]?=Z R)(h:hZ (m.r id) (m.v id) R.τ R.l y):
  (∃r Q,m.r id=Z r/\y=.rs r 0 (I Q.c) Q.ver Y/\σ.rw[r]?=Z Q/\Q.c=m.q id/\Q.ver=m.v id/\Q.k=R.τ.size/\ci (bq R.τ) Q.c=Z R.l/\Q.fz<=I Q.c/\(R.sh=Y->Q.fz=0/\Q.off=Y))\/
  (m.r id=U/\(R.sh=Y->R.l=[])/\dlist R.τ y=Z R.l/\2<=lvl y):=by
 have a:=a id R e;cases b:m.r id with
 |some r=>
   rw[b]at a h;let⟨Q,j,i,g3,g,d,f⟩:=a;refine .inl ⟨r,Q,rfl,?_,j,i,g3,g,d,f⟩;rw[en d,g3];exact h
 |none=>
   rw[b]at a h;exact .inr ⟨rfl,a,h.1,h.2⟩
theorem TE{a y l}(rw')(h:dlist a y=Z l):∃b,elems rw' a.size y=Z b/\ci (bq a) b=Z l/\dlist a (bC rw' y)=Z l:=by
 obtain⟨rfl,c⟩|⟨b,n,rfl,c⟩:=fL h
 .rw[c];exact⟨[],rfl,rfl,rfl⟩
 .refine⟨b,by simp[elems,bN,kQ],c,?_⟩;show dlist _ (.sl _ b 1)=_;grind [dlist,fU,bN]
theorem Ao(j:eH m σ){a x y l}(h:sy m.rw a x=Z l)(c:OK m x y):
  ∃g,elems σ.rw a.size y=Z g/\ci (bq a) g=Z l/\dlist a (bC σ.rw y)=Z l:=by
 unfold sy at h;split at h
 .cases h;cases c;exact⟨[],rfl,rfl,rfl⟩
 .obtain⟨e,rfl⟩:=jW h;subst e;exact TE _ c.1
 .rename_i id i;split at h<;>try cases h
  rename_i R d;split at h<;>try cases h
  rename_i b;have b:=cg b;obtain⟨e,rfl⟩:=jW h;subst e;let⟨R',f,_,_,k⟩:=c;rw[d]at f;cases f;obtain⟨r,Q,_,rfl,q,_,_,p,o,_⟩|⟨_,_,n,_⟩:=rU j d (k b)
  .grind [elems,bC,dlist,fU,bN,qi2,decide_true]
  .exact TE _ n
 .cases h
theorem qf(j:eH m σ):∀a {cs v r ds},pq m.rw a cs=Z (v,r)->OKL m cs ds->∃d,er a (ds.map (bC σ.rw))=Z (v,d.map (bC σ.rw))/\OKL m r d
 |.int k,cs,v,r,ds,h,c=>by
   change NS k cs=_ at h;unfold NS at h;split at h<;>try cases h
   split at h<;>cases h;next A=>obtain⟨y,d,rfl,f,g⟩:=c;cases f;exact⟨d,by show eW _ _=_;simp only[aZ,bC,eW,A],g⟩
 |.bool,cs,v,r,ds,h,c=>by
   change MQ cs=_ at h;unfold MQ at h;split at h<;>cases h;obtain⟨y,d,rfl,f,g⟩:=c;cases f;exact⟨d,rfl,g⟩
 |.str,cs,v,r,ds,h,c=>by
   change Nr cs=_ at h;unfold Nr at h;split at h<;>cases h;obtain⟨y,d,rfl,f,g⟩:=c;cases f;exact⟨d,by show iO _=_;simp only[aZ,bC,iO],g⟩
 |.term,cs,v,r,ds,h,c=>by
   change M4 _ cs=_ at h;unfold M4 at h;split at h<;>try cases h
   split at h<;>cases h;next i=>obtain⟨y1,w,rfl,s,y2,H,rfl,q,y3,G,rfl,p,y4,t,rfl,o,g⟩:=c;cases s;cases q;cases p;let⟨F,_,_,l⟩:=Ao j i o;rw[EQ]at l;refine⟨t,?_,g⟩;show gN (.v (.int .i64 _)::.v (.string ⟨_⟩)::.v (.int .i64 _)::bC σ.rw y4::t.map (bC σ.rw))=_;grind [gN,fY]
 |.list a,cs,v,r,ds,h,c=>by
   change Nf _ cs=_ at h;unfold Nf at h;split at h<;>try cases h
   split at h<;>cases h;next i=>obtain⟨y,d,rfl,f,g⟩:=c;let⟨F,_,_,l⟩:=Ao j i f;have l:fU a.size (λ e=>full (er a e)) (bC σ.rw y)=Z v:=l;exact⟨d,by show cD _ _=_;simp only[aZ,cD,l],g⟩
 |.pair a b,cs,v,r,ds,h,c=>by
   let⟨w,C,B⟩:=mS.1 h;let⟨u,E,D⟩:=qf j a C c;let⟨n,z,x⟩:=qf j b B D;exact⟨n,mS.2 ⟨_,E,z⟩,x⟩
 |.one a,cs,v,r,ds,h,c=>qf j a h c
 |.map a b,cs,v,r,ds,h,c=>by
   change N3 a b cs=_ at h;unfold N3 at h;split at h<;>try cases h
   split at h<;>cases h;next i=>obtain⟨y,d,rfl,f,g⟩:=c;unfold G2 at i;split at i<;>cases i;next e=>obtain⟨rfl,rfl⟩:=e;have f:dMc _ _ _ _ y=Z _:=f;obtain⟨ks,vs,rfl,_⟩:=ot f;exact⟨d,by show cD (dMc _ _ (bq _) (bq _)) _=_;simp only[aZ,bC,cD,f],g⟩
theorem wT{β x}{v:β}(h:sJ x=Z v):x=Z (v,[]):=by
 unfold sJ at h;grind
theorem JQ(rw){y}(h:gY y=Y):gY (cS rw y)=Y/\cellsOf (cS rw y)=[bC rw y]/\cellsOf y=[y]:=by
 cases y with
 |agg cs=>cases h
 |rs r lo n a f=>
   grind [cS,bC,gY,cellsOf]
 |_=>exact⟨rfl,rfl,rfl⟩
theorem rP(hq:eH m σ){a:Ty}{x:TV}{y:AV}{v:Val a}(h:jK m.rw a x=Z v)(ho:OK m x y) :
  gu a (cS σ.rw y)=Z v/\bq a ((cellsOf y).map (bC σ.rw))=Z v:=by
 unfold jK at h;split at h
 case h_2=>cases h
 rename_i hb;have hb:a.agg=GL x:=by simpa[eE]using hb
 have h:=wT h
 have key:OKL m (fw x) (cellsOf y)->bq a ((cellsOf y).map (bC σ.rw))=Z v:=by
  intro hc;obtain⟨rs,g1,g2⟩:=qf hq a h hc;cases g2;exact dJ.2 g1
 by_cases hx:GL x=O
 ·cases x with
  | agg cs =>
    obtain⟨ds,rfl,hd⟩:=ho;refine⟨?_,key hd⟩;unfold gu;rw[hb];exact key hd
  | _=>cases hx
 ·have hx:GL x=Y:=by simpa using hx
  have hct:fw x=[x]:=by cases x<;>first | rfl | (cases hx)
  have hy:gY y=Y:=by
   cases x with
   | agg cs=>cases hx
   | i=>cases ho;rfl
   | b=>cases ho;rfl
   | s=>cases ho;rfl
   | c=>obtain⟨_,rfl⟩:=ho;rfl
   | nil=>cases ho;rfl
   | sl τ l lv =>
     obtain⟨ho,_⟩:=ho;rcases fL ho with⟨rfl,_⟩ | ⟨es,n,rfl,_⟩<;>rfl
   | row id ver =>
     obtain⟨R,_,_,ho,_⟩:=ho;rcases ho with rfl | ⟨k,es,j,rfl⟩ | ⟨r,lo,n,ep,f,rfl⟩<;>rfl
   | ptr b o=>obtain⟨_,rfl⟩:=ho;rfl
   | pti b i=>obtain⟨_,_,rfl⟩:=ho;rfl
   | rpt id ver sv i cs o=>obtain⟨R,_,_,_,ho,_⟩:=ho;rcases ho with⟨r,i,ep,rfl⟩ | ⟨ds,rfl⟩<;>rfl
   | ept cs o=>obtain⟨ds,rfl,_⟩:=ho;rfl
   | fn f cs=>obtain⟨ds,rfl,_⟩:=ho;rfl
   | tup cs=>obtain⟨ds,rfl,_⟩:=ho;rfl
   | mp b=>obtain⟨_,rfl⟩:=ho;rfl
   | mc=>obtain⟨ks,vs,rfl,_⟩:=ot ho;rfl
   | dead =>
     exfalso;rw[hct]at h;have hag:a.agg=Y:=by rw[hb];rfl
     cases a with
     | int k=>cases h
     | bool=>cases h
     | str=>cases h
     | list a=>cases h
     | map a b=>cases h
     | term=>cases hag
     | pair a b=>cases hag
     | one a=>cases hag
  obtain⟨e1,e2,e3⟩:=JQ σ.rw hy;have hc:OKL m (fw x) (cellsOf y):=by rw[hct,e3];exact⟨y,[],rfl,ho,rfl⟩
  grind [gu]
theorem KI{x y}(a:OK m x y)(h:sH x=O):rsC y=[]/\gY y=Y:=by
 cases x with
 |i|b|s=>cases a;exact⟨rfl,rfl⟩
 |c=>obtain⟨_,rfl⟩:=a;exact⟨rfl,rfl⟩
 |nil=>cases a;exact⟨rfl,rfl⟩
 |sl τ l d=>
   let⟨a,_⟩:=a;obtain⟨rfl,_⟩|⟨e,n,rfl,_⟩:=fL a<;>exact⟨rfl,rfl⟩
 |fn f cs=>obtain⟨ds,rfl,_⟩:=a;exact⟨rfl,rfl⟩
 |mc=>obtain⟨ks,vs,rfl,_⟩:=ot a;exact⟨rfl,rfl⟩
 |_=>cases h
theorem zK: ∀{xs ys},OKL m xs ys->xs.all sH=O->ys.flatMap rsC=[]
 |[],_,h,_=>by cases h;rfl
 |x::xs,_,⟨y,r,rfl,b,a⟩,h=>by
   rw[fm,aK]at h;rw[we,(KI b h.1).1,zK a h.2];rfl
theorem qmF{y}(b:rsC y=[])(a:gY y=Y):rsA y=[]:=by
 cases y<;>first|(cases a;done)|exact b
theorem Gm{x y}(h:px x=O)(c:OK m x y):rsA y=[]:=by
 cases x with
 |agg cs=>
   obtain⟨ds,rfl,d⟩:=c;exact zK d h
 |_=>let⟨a,b⟩:=KI c h;exact qmF a b
theorem LD: ∀{xs ys},xs.all px=O->OKL m xs ys->ys.flatMap rsA=[]
 |[],_,_,h=>by cases h;rfl
 |x::xs,_,h,⟨y,r,rfl,b,a⟩=>by
   rw[fm,aK]at h;rw[we,Gm h.1 b,LD h.2 a];rfl
theorem UU(c:eH m σ){a:Ty}:∀{xs ys vs},xQ m.rw a xs=Z vs->OKL m xs ys->
  ci (bq a) (ys.map λ y=>(cellsOf y).map (bC σ.rw))=Z vs
 |[],ys,vs,h,e=>by cases e;cases h;rfl
 |x::xs,ys,vs,h,⟨y,r,f,i,g⟩=>by
   subst f;simp only[xQ]at h;split at h<;>try cases h
   next v d=>split at h<;>cases h;next vs b=>exact jF.2 ⟨v,vs,(rP c d i).2,UU c b g,rfl⟩
end
end
section
open RowKit
def Mp.add(m:Mp)(R:cm)(ro:ac Nat)(vo:Nat)(qo:aa (aa AV)):Mp:=
 ⟨m.b,m.nb,λ i=>if i=I m.rw then ro else m.r i,λ i=>if i=I m.rw then vo else m.v i,λ i=>if i=I m.rw then qo else m.q i,m.rw++[R]⟩
def Mp.upd(m:Mp)(id:Nat)(R:cm)(ro:ac Nat)(vo:Nat)(qo:aa (aa AV)):Mp:=
 ⟨m.b,m.nb,λ i=>if i=id then ro else m.r i,λ i=>if i=id then vo else m.v i,λ i=>if i=id then qo else m.q i,m.rw.set id R⟩
section
variable {α:Type}{N:Nat×Nat}{m:Mp}{E:Env}{τ:TS}{tm:aa AV}{σ:St}{K:KT α}{r:α}{p:ac (AV×ac St)}{c:TC}{C:Cfg}{R R2:cm}{ro:ac Nat}{vo:Nat}{qo:aa (aa AV)}{id:Nat}
theorem AF(m R ro vo qo):MLe m (m.add R ro vo qo):=by
 refine⟨al _,λ i _=>rfl,λ id R' h=>?_⟩;have b:=getElem?_lt h;have a:=Bn b;exact⟨R',by show(m.rw++_)[id]?=_;rw[dY b];exact h,al _,al _,λ _=>⟨rfl,af a,af a,rfl,λ _=>af a,λ _ _ h=>h⟩⟩
theorem kg.later{σ'}(h:kg σ R ro vo qo)(a:∀r Q,ro=Z r->σ.rw[r]?=Z Q->σ'.rw[r]?=Z Q):kg σ' R ro vo qo:=by
 cases ro with
 |none=>exact h
 |some r=>
   let⟨Q,c,b⟩:=h;exact⟨Q,a r Q rfl c,b⟩
theorem Gd{σ'}(d:eH m σ)(f:kg σ' R ro vo qo)(e:∀(r:Nat) (Q:Row),σ.rw[r]?=Z Q->σ'.rw[r]?=Z Q):eH (m.add R ro vo qo) σ':=by
 intro id R' c;change (m.rw++[R])[id]?=Z R' at c;show kg σ' R' (if id=I m.rw then ro else m.r id) (if id=I m.rw then vo else m.v id) (if id=I m.rw then qo else m.q id);by_cases b:id=I m.rw
 .grind
 .rw[af b,af b,af b];have a:id<I m.rw:=by grind
  rw[dY a]at c;exact(d id R' c).later λ r Q _ h=>e r Q h
theorem XS(k:m.rw[id]?=Z R)(n:R.ver<=R2.ver)(o:R.sv<=R2.sv)(p:R2.ver=R.ver->I R2.l=I R.l/\ro=m.r id/\vo=m.v id/\R2.τ=R.τ/\(R2.sv=R.sv->qo=m.q id)/\(m.r id=U->∀y,dlist R.τ y=Z R.l->dlist R2.τ y=Z R2.l)):MLe m (m.upd id R2 ro vo qo):=by
 have j:=getElem?_lt k;refine⟨al _,λ i _=>rfl,λ i R' h=>?_⟩;by_cases g:i=id
 .subst g;rw[k]at h;cases h;refine⟨R2,by show(m.rw.set i R2)[i]?=_;rw[gh j],n,o,λ h=>?_⟩;let⟨a,b,c,d,e,f⟩:=p h;exact⟨a,(ag rfl).trans b,(ag rfl).trans c,d,λ h=>(ag rfl).trans (e h),f⟩
 .exact⟨R',by show(m.rw.set id R2)[i]?=_;rw[jA (oO g)];exact h,al _,al _,λ _=>⟨rfl,af g,af g,rfl,λ _=>af g,λ _ _ h=>h⟩⟩
theorem Vw{σ'}(j:m.rw[id]?=Z R)(d:eH m σ)(h:kg σ' R2 ro vo qo)(e:∀a r Q,a≠id->a<I m.rw->m.r a=Z r->σ.rw[r]?=Z Q->σ'.rw[r]?=Z Q):eH (m.upd id R2 ro vo qo) σ':=by
 intro i R' c;change (m.rw.set id R2)[i]?=Z R' at c;show kg σ' R' (if i=id then ro else m.r i) (if i=id then vo else m.v i) (if i=id then qo else m.q i);by_cases b:i=id
 .grind
 .rw[af b,af b,af b];rw[jA (oO b)]at c;exact(d i R' c).later λ r Q g f=>e i r Q b (getElem?_lt c) g f
theorem Rel.to{m' rw' σ'}(c:Rel N m E τ tm σ)(a:MLe m m')(l:m'.rw=rw')(g:m'.nb=m.nb)(f:m'.b=m.b)(k:σ'.bx=σ.bx)(h:eH m' σ')
  (j:∀i d r,i<I m'.rw->d<I m'.rw->m'.r i=Z r->m'.r d=Z r->i=d):Rel N m' E {τ with rw:=rw'} tm σ':=by
 refine⟨c.len,λ t=>(c.env t).mono a,l,by rw[g];exact c.nb,?_,by rw[g,f];exact c.inj,h,j,Lp a c.pin⟩;intro b cs e;let⟨ds,o,n⟩:=c.box b cs e;exact⟨ds,by rw[k,f];exact o,n.mono a⟩
theorem Rel.row_lt(a:Rel N m E τ tm σ){id r}(h:id<I m.rw)(b:m.r id=Z r):r<I σ.rw:=by
 have:=a.rows id _ (aV h);rw[b]at this;let⟨Q,c,_⟩:=this;exact getElem?_lt c
theorem Rel.rowAdd{σ'}(b:Rel N m E τ tm σ)(R ro vo qo)(j:σ'.bx=σ.bx)(h:kg σ' R ro vo qo)(i:∀(r:Nat) (Q:Row),σ.rw[r]?=Z Q->σ'.rw[r]?=Z Q)(e:∀r,ro=Z r->I σ.rw<=r){y}(d:hZ ro vo R.τ R.l y)(k:R.ver=0):
  ∃m',MLe m m'/\Rel N m' E {τ with rw:=τ.rw++[R]} tm σ'/\OK m' (.row (I τ.rw) 0) y:=by
 refine⟨m.add R ro vo qo,AF _ _ _ _ _,b.to (AF _ _ _ _ _) (by show m.rw++_=_;rw[b.rw]) rfl rfl j (Gd b.rows h i) ?_,?_⟩
 .intro id a r g f e1 c;change id<I (m.rw++[_]) at g;change a<I (m.rw++[_]) at f;change (if id=I m.rw then ro else m.r id)=Z r at e1;change (if a=I m.rw then ro else m.r a)=Z r at c;simp at g f;split at e1<;>split at c
  .omega
  .have:=b.row_lt (by omega) c;have:=e r e1;omega
  .have:=b.row_lt (by omega) e1;have:=e r c;omega
  .exact b.rinj id a r (by omega) (by omega) e1 c
 .refine⟨R,?_,aL _,d.ish,λ _=>?_⟩
  .show(m.rw++_)[I τ.rw]?=_;rw[b.rw];simp
  .show hZ (if I τ.rw=I m.rw then ro else m.r (I τ.rw)) (if I τ.rw=I m.rw then vo else m.v (I τ.rw)) _ _ y;rw[ag (by rw[b.rw]),ag (by rw[b.rw])];exact d
theorem Rel.rowNew(b:Rel N m E τ tm σ){a es l}(c:ci (bq a) es=Z l):
  ∃m',MLe m m'/\Rel N m' E {τ with rw:=τ.rw++[⟨a,l,0,0,Y⟩]} tm {σ with rw:=σ.rw++[⟨a.size,es,0,0,Y⟩]}/\OK m' (.row (I τ.rw) 0) (.rs (I σ.rw) 0 (I l) 0 Y):=
 b.rowAdd (σ':={σ with rw:=σ.rw++[⟨a.size,es,0,0,Y⟩]}) ⟨a,l,0,0,Y⟩ (Z (I σ.rw)) 0 es rfl ⟨⟨a.size,es,0,0,Y⟩,by show(σ.rw++[_])[I σ.rw]?=_;simp,rfl,rfl,rfl,c,aL _,λ _=>⟨rfl,rfl⟩⟩
  (λ r Q h=>by show(σ.rw++_)[r]?=_;rw[dY (getElem?_lt h)];exact h) (λ r h=>by cases h;exact al _) rfl rfl
theorem Rel.rowUpd(c:Rel N m E τ tm σ)(B:τ.rw[id]?=Z R)(ro:ac Nat)(vo:Nat)(qo:aa (aa AV))(n:R.ver<=R2.ver)(o:R.sv<=R2.sv)(t:R2.ver=R.ver->I R2.l=I R.l/\ro=m.r id/\vo=m.v id/\R2.τ=R.τ/\(R2.sv=R.sv->qo=m.q id)/\(m.r id=U->∀y,dlist R.τ y=Z R.l->dlist R2.τ y=Z R2.l)){σ'}(u:σ'.bx=σ.bx)(p:kg σ' R2 ro vo qo)
  (s:∀a r,a≠id->a<I m.rw->m.r a=Z r->ro≠Z r/\∀Q,σ.rw[r]?=Z Q->σ'.rw[r]?=Z Q):
  ∃m',MLe m m'/\Rel N m' E {τ with rw:=τ.rw.set id R2} tm σ'/\(∀y,hZ ro vo R2.τ R2.l y->OK m' (.row id R2.ver) y):=by
 have b:m.rw[id]?=Z R:=by rw[c.rw];exact B
 have f:=getElem?_lt b;have d:=XS b n o t;refine⟨m.upd id R2 ro vo qo,d,c.to d (by show m.rw.set id R2=_;rw[c.rw]) rfl rfl u (Vw b c.rows p λ a r Q A z x w=>(s a r A z x).2 Q w) ?_,λ y k=>?_⟩
 .intro i e r h g e1 j;change i<I (m.rw.set id R2) at h;change e<I (m.rw.set id R2) at g;change (if i=id then ro else m.r i)=Z r at e1;change (if e=id then ro else m.r e)=Z r at j;simp at h g;split at e1<;>split at j
  .omega
  .grind
  .grind
  .exact c.rinj i e r h g e1 j
 .refine⟨R2,?_,al _,k.ish,λ _=>?_⟩
  .show(m.rw.set id R2)[id]?=_;rw[gh f]
  .show hZ (if id=id then ro else m.r id) (if id=id then vo else m.v id) _ _ y;grind
theorem Rel.others(b:Rel N m E τ tm σ)(g:τ.rw[id]?=Z R){rr}(a:m.r id=Z rr){id' r}(f:id'≠id)(e:id'<I m.rw)(d:m.r id'=Z r):r≠rr:=λ c=>
 f (b.rinj id' id rr e (by rw[b.rw];exact getElem?_lt g) (c▸d) a)
theorem S0{β f}:∀{b} {l},ci f b=Z l->∀(j:Nat) {e:aa AV}{v:β},f e=Z v->ci f (b.set j e)=Z (l.set j v)
 |[],l,h,j,e,v,a=>by cases h;rfl
 |g::b,l,h,j,e,v,a=>by
   obtain⟨w,vs,d,c,rfl⟩:=jF.1 h;cases j with
   |zero=>exact jF.2 ⟨v,vs,a,c,rfl⟩
   |succ j=>exact jF.2 ⟨w,vs.set j v,d,S0 c j a,rfl⟩
theorem SW{β f e}{v:β}(h:f e=Z v):∀n,ci f (List.replicate n e)=Z (List.replicate n v)
 |0=>rfl
 |n+1=>jF.2 ⟨v,_,h,SW h n,rfl⟩
end
end
section
open RowKit
section
variable {α:Type}{N:Nat×Nat}{m:Mp}{E:Env}{τ:TS}{tm:aa AV}{σ:St}{K:KT α}{r:α}{p:ac (AV×ac St)}{c:TC}{C:Cfg}
theorem qns{d:ac TD}{op:mN}{x y:TV}{x' f:AV}{n:TV->ac α}(i:OK m x x')(g:OK m y f)(h:No d op x y n=Z r):
  ∃z v,n z=Z r/\OK m z (.v v)/\((∃a b,x'=.v (.bool a)/\f=.v (.bool b)/\GU d=O/\((op=.eql/\v=.bool (eE a b))\/(op=.neq/\v=.bool (au (eE a b)))))\/∃a b,x'=.v a/\f=.v b/\(∀p q,¬ (a=.bool p/\b=.bool q))/\sO op a b=Z v):=by
 unfold No at h;split at h
 .rename_i k a t b;cases i;cases g;split at h
  .let⟨e,c⟩:=Sf h;exact⟨_,_,c,rfl,.inr ⟨_,_,rfl,rfl,by simp,by simp only[sO,e]⟩⟩
  .let⟨e,c⟩:=Sf h;exact⟨_,_,c,rfl,.inr ⟨_,_,rfl,rfl,by simp,by simp only[sO,e]⟩⟩
  .rename_i s o;split at h<;>try cases h
   next u=>let⟨z,v,e,c,l⟩:=qml (m:=m) h;grind [sO]
 .cases i;cases g;let⟨z,v,e,c,l⟩:=qmK (m:=m) h;exact⟨z,v,e,l,.inr ⟨_,_,rfl,rfl,by simp,c⟩⟩
 .cases i;cases g;split at h<;>try cases h
  .next j=>exact⟨_,_,h,rfl,.inl ⟨_,_,rfl,rfl,j,.inl ⟨rfl,rfl⟩⟩⟩
  .next j=>exact⟨_,_,h,rfl,.inl ⟨_,_,rfl,rfl,j,.inr ⟨rfl,rfl⟩⟩⟩
 .cases h
theorem qhv{d:ac TD}(h:MD d=O):∃a b c z,d=Z ⟨a,b,c,z,.ptr⟩:=by
 unfold MD at h;grind
theorem qkk{x y:TV}{x' d:AV}(c:OK m x x')(a:OK m y d){b:Bool}(h:MS x y=Z b):
  (b=O/\x'=.v (.pointer U)/\d=.v (.pointer U))\/(b=Y/\Ax x'=O/\d=.v (.pointer U)):=by
 unfold MS at h;split at h<;>cases h
 .exact .inl ⟨rfl,c.2,a.2⟩
 .obtain⟨_,rfl⟩:=c;exact .inr ⟨rfl,rfl,a.2⟩
 .let⟨R,_,_,_,e,_⟩:=c;obtain⟨r,j,f,rfl⟩|⟨ds,rfl⟩:=e<;>exact .inr ⟨rfl,rfl,a.2⟩
 .obtain⟨ds,rfl,_⟩:=c;exact .inr ⟨rfl,rfl,a.2⟩
theorem UN:∀(a:aa (aa AV)) (l:aa Int),ci (bq (.int .u8)) a=Z l->xU a=Z (gI l)
 |[],l,h=>by cases h;rfl
 |e::a,l,h=>by
   simp only[ci]at h;split at h<;>try cases h
   rename_i v c;split at h<;>cases h;rename_i vs b;have:=UN a vs b
   have d:e=[.v (.int .u8 v)]:=by
    have c:eW .u8 e=Z (v,[]):=dJ.1 c;unfold eW at c;grind
   subst d;simp only[xU,M6,this];rfl
theorem qhr{d:ac TD}(h:GU d=O):∃a b c z,d=Z ⟨a,b,c,z,.bool⟩:=by
 unfold GU at h;grind
theorem VO(E:Env)(tm:aa AV)(a:Rel N m E τ tm σ):∀l:aa (Nat×bw),(l.map λ p=>(p.1,evT E p.2)).map (·.1)=(l.map λ p=>(p.1,aev tm p.2)).map (·.1)/\OKL m ((l.map λ p=>(p.1,evT E p.2)).map (·.2)) ((l.map λ p=>(p.1,aev tm p.2)).map (·.2))
 |[]=>⟨rfl,rfl⟩
 |x::l=>⟨by simp,⟨_,_,rfl,a.ev x.2,(VO E tm a l).2⟩⟩
theorem Vp(d:Rel N m E τ tm σ){id a e:Nat}{i:Int}{cs:aa TV}{o:Nat}{y:AV}{R:cm}(s:OK m (.rpt id a e i cs o) y)(h:τ.rw[id]?=Z R)(u:R.ver=a)(t:R.sv=e):
  (∃r j ds Q,y=.rpt r j o Q.ver/\m.r id=Z r/\i=((j:Nat):Int)/\σ.rw[r]?=Z Q/\Q.c[j]?=Z ds/\OKL m cs ds/\j<I R.l/\Q.ver=m.v id/\Q.k=R.τ.size/\ci (bq R.τ) Q.c=Z R.l/\Q.fz<=I Q.c/\(R.sh=Y->Q.fz=0/\Q.off=Y))\/
  ∃ds,y=.ept ds o/\OKL m cs ds/\R.sh=O:=by
 let⟨R',n,_,_,_,w⟩:=s;rw[d.rw,h]at n;cases n;have:=d.rows id R (by rw[d.rw];exact h);obtain⟨r,j,ds,b,g,H,p,f,G⟩|⟨ds,b,g,p,f⟩:=qnC (w u) t
 .rw[b]at this;let⟨Q,F,D,C,B,A,z,x⟩:=this;grind
 .rw[b]at this;refine .inr ⟨ds,g,f,?_⟩;cases q:R.sh with
  |true=>rfl
  |false=>
    have K:=this q;grind
theorem W7{b:Type}(f:b->AV):∀(l:aa (Nat×b)) (n:Nat),((l.zipIdx n).all λ p=>J (p.1.1=p.2))=O->(∀q∈l,True)->∀P:AV->Bool,(∀q∈l,P (f q.2)=O)->
  (((l.map λ p=>(p.1,f p.2)).zipIdx n).all λ p=>J (p.1.1=p.2)&&P p.1.2)=O
 |[],n,_,_,P,_=>rfl
 |a::l,n,h,_,P,c=>by
   simp only[O1,fm,aK,aZ]at h |-
   exact⟨⟨h.1,c a (aW ..)⟩,W7 f l (n+1) h.2 (λ _ _=>trivial) P λ q d=>c q (aS _ d)⟩
theorem Rz(e:eH m σ){a:Ty}{E:Env}{tm:aa AV}(d:Rel N m E τ tm σ):∀{l:aa (Nat×bw)}{vs:aa (Val a)},xQ m.rw a (l.map λ p=>evT E p.2)=Z vs->
  ∀p∈l,I (cellsOf (aev tm p.2))=a.size/\((cellsOf (aev tm p.2)).all λ x=>br (bC σ.rw x))=O
 |[],vs,h,p,b=>by cases b
 |q::l,vs,h,p,b=>by
   simp only[aZ,xQ]at h;split at h<;>try cases h
   rename_i v f;split at h<;>cases h;rename_i c;obtain rfl|b:=bi.1 b
   .have:=(rP e f (d.ev p.2)).2;let⟨pre,j,i,g,_⟩:=iS a (dJ.1 this);grind
   .exact Rz e d c p b
theorem qlr(y:aa aA)(l h:Int):(⟨(gA y l h).toArray⟩:gS)=Bf ⟨y.toArray⟩ l.toNat h.toNat:=by
 unfold gA Bf;rw[ByteArray.ext_iff];simp[ByteArray.data_extract,List.drop_take]
theorem qhm{x:TV}{y:AV}(h:OK m x y)(b:(fw x).all sH=O):OKL m (fw x) (cellsOf y)/\(cellsOf y).all isC=O/\∀z∈cellsOf y,rsC z=[]:=by
 have a:(fw x).all mF=O:=by
  rw[bJ]at b |-
  intro z c;have:=b z c;cases z<;>first|rfl|(cases this)
 let⟨d,e⟩:=h.cells a;refine⟨d,e,λ z c=>?_⟩;have:=zK d b;grind [List.flatMap_eq_nil_iff]
theorem Fl{y:AV}(h:rsC y=[])(a:br (bC σ.rw y)=O):br y=O:=by
 cases y<;>first|rfl|exact a|(simp[rsC]at h)
theorem qmw{tm:aa AV}{a b:bw}(h:NW a b=O):aev tm a=aev tm b:=by
 unfold NW at h;grind [Nat.eq_of_beq_eq_true]
def LvE(x y:AV):Prop:=x=y\/∃k a n b,x=.sl k a (n+1)/\y=.sl k a (b+1)
inductive LvL:List AV->List AV->Prop
 |nil:LvL [] []
 |cons {x y:AV}{xs ys:List AV}:LvE x y->LvL xs ys->LvL (x::xs) (y::ys)
theorem LvE.v{x:ah}{y:AV}(h:LvE (.v x) y):y=.v x:=by
 obtain rfl|⟨_,_,_,_,h,_⟩:=h
 .rfl
 .cases h
theorem LvE.dlist{a:Ty}{x y:AV}(h:LvE x y){l:aa (Val a)}(b:dlist a x=Z l):dlist a y=Z l:=by
 obtain rfl|⟨_,_,_,_,rfl,rfl⟩:=h
 .exact b
 .exact b
theorem Fc:∀(a:Ty) {cs cs':aa AV}{v:Val a}{r:aa AV},LvL cs cs'->er a cs=Z (v,r)->∃j,LvL r j/\er a cs'=Z (v,j)
 |.int k,cs,cs',v,r,c,h=>by
   change eW k cs=_ at h;unfold eW at h;split at h<;>try cases h
   split at h<;>cases h;rename_i o;cases c with
   |cons d f=>
     have:=d.v;subst this;exact⟨_,f,by show eW _ _=_;simp only[eW,o]⟩
 |.bool,cs,cs',v,r,c,h=>by
   change kz cs=_ at h;unfold kz at h;split at h<;>cases h;cases c with
   |cons d f=>
     have:=d.v;subst this;exact⟨_,f,rfl⟩
 |.str,cs,cs',v,r,c,h=>by
   change iO cs=_ at h;unfold iO at h;split at h<;>cases h;cases c with
   |cons d f=>
     have:=d.v;subst this;exact⟨_,f,rfl⟩
 |.term,cs,cs',v,r,c,h=>by
   change gN cs=_ at h;unfold gN at h;split at h<;>try cases h
   split at h<;>cases h;rename_i g;obtain⟨k,n,s,x,l,p,d,rfl⟩:=zJ g;cases p;cases c with
   |cons A c=>cases c with
     |cons z c=>cases c with
       |cons y c=>cases c with
         |cons w c=>
           have:=A.v;subst this;have:=z.v;subst this;have:=y.v;subst this;rw[<-EQ]at d;have d:=w.dlist d;rw[EQ]at d;exact⟨_,c,by show gN _=_;simp only[gN,fY,d]⟩
 |.list a,cs,cs',v,r,c,h=>by
   change cD _ cs=_ at h;unfold cD at h;split at h<;>try cases h
   split at h<;>cases h;rename_i g;cases c with
   |cons d f=>
     have g:dlist a _=Z v:=g;have g:fU a.size (λ e=>full (er a e)) _=Z v:=d.dlist g;exact⟨_,f,by show cD _ _=_;simp only[cD,g]⟩
 |.pair a b,cs,cs',v,r,c,h=>by
   let⟨B,d,f⟩:=mS.1 h;let⟨m,u,t⟩:=Fc a c d;let⟨i,g3,q⟩:=Fc b u f;exact⟨i,g3,mS.2 ⟨_,t,q⟩⟩
 |.one a,cs,cs',v,r,c,h=>Fc a c h
 |.map a b,cs,cs',v,r,c,h=>by
   change cD _ cs=_ at h;unfold cD at h;split at h<;>try cases h
   split at h<;>cases h;rename_i g;cases c with
   |cons d f=>
     have D:=d;obtain rfl|⟨k,E,n,C,rfl,rfl⟩:=d
     .exact⟨_,f,by show cD _ _=_;simp only[cD,g]⟩
     .grind [ot]
theorem XY:∀{cs:aa AV},(∀y∈cs,br y=O)->LvL (cs.map (bC σ.rw)) cs
 |[],_=>.nil
 |y::cs,h=>by
   refine .cons ?_ (XY λ z a=>h z (aS _ a));have:=h y (aW ..);cases y with
   |v x=>exact .inl rfl
   |sl k b f=>
     cases f with
     |zero=>exact .inl rfl
     |succ f=>exact .inr ⟨k,b,0,f,rfl,rfl⟩
   |mc=>exact .inl rfl
   |_=>cases this
theorem Gb{a:Ty}{cs:aa AV}{v:Val a}(b:∀y∈cs,br y=O)(h:bq a (cs.map (bC σ.rw))=Z v):bq a cs=Z v:=by
 let⟨e,d,c⟩:=Fc a (XY b) (dJ.1 h);cases d;exact dJ.2 c
theorem KU{m:Mp}:∀{cs:aa TV}{l:aa Bool}{ds:aa AV},xO cs=Z l->OKL m cs ds->ds=l.map λ b=>AV.v (.bool b)
 |[],l,ds,h,c=>by cases h;cases c;rfl
 |x::cs,l,ds,h,⟨y,r,f,e,d⟩=>by
   subst f;cases x<;>simp only[xO]at h<;>try (cases h;done)
   next b=>split at h<;>cases h;next g a=>cases e;rw[KU a d];rfl
theorem S1{m:Mp}:∀(l:aa Bool),OKL m (l.map .b) (l.map λ b=>AV.v (.bool b))
 |[]=>rfl
 |b::l=>⟨_,_,rfl,rfl,S1 l⟩
theorem Vq:∀(l:aa Bool) (i:Nat) (v:Bool) (j:Nat),qH l ((i+j:Nat):Int) v j=l.set i v
 |[],_,_,_=>rfl
 |e::l,0,v,j=>by
   have h:∀(l:aa Bool) (i j:Nat),i<j->qH l ((i:Nat):Int) v j=l:=by
    intro l
    induction l with
    |nil=>intro _ _ _;rfl
    |cons e l a=>
      intro i j b;rw[qH,a i (j+1) (by omega)];have:ieq ((i:Nat):Int) ((j:Nat):Int)=Y:=by unfold ieq;rw[gG];omega
      rw[this];rfl
   grind [qH,ieq]
 |e::l,i+1,v,j=>by
   rw[qH,show((i+1+j:Nat):Int)=((i+(j+1):Nat):Int) by omega,Vq l i v (j+1)];grind [ieq]
theorem Tf(s:aa aA):ci (bq (.int .u8)) (me ⟨s.toArray⟩)=Z (ln s):=by
 have:me ⟨s.toArray⟩=(ln s).map (aq (.int .u8)):=by
  unfold me ln;rw[iu];rfl
 grind [qc,jo]
theorem Au{m:Mp}{cs:aa TV}{ds:aa AV}(h:OKL m cs ds)(g:AQ cs=O):noMc ds=O:=by
 match cs,h with
 |[],h=>cases h;rfl
 |[x],⟨y,r,e,d,j⟩=>
   cases j;subst e;cases y with
   |mc w z t ks vs=>
     exfalso;cases x with
     |i|b|s=>cases d
     |c=>cases d.2
     |nil=>cases d
     |sl a l v=>cases d.1
     |row=>obtain⟨R,_,_,e|⟨k,A,n,e⟩|⟨r,lo,n,o,f,e⟩,_⟩:=d<;>cases e
     |ptr=>cases d.2
     |pti=>cases d.2.2
     |rpt=>obtain⟨R,_,_,_,⟨r,i,o,e⟩|⟨ds,e⟩,_⟩:=d<;>cases e
     |ept|fn|agg|tup=>let⟨ds,e,_⟩:=d;cases e
     |dead=>cases g
     |mp=>cases d.2
     |mc=>cases g
   |_=>rfl
 |x::x'::xs,⟨y,r,e,_,⟨q,u,p,_,_⟩⟩=>subst e;subst p;cases y<;>rfl
theorem Sz{cs:aa TV}{l:aa Bool}(h:xO cs=Z l):AQ cs=O:=by
 match cs with
 |[]=>rfl
 |[x]=>cases x<;>first|rfl|cases h
 |x::x'::xs=>cases x<;>rfl
theorem Vb:∀{a:Ty},a.agg=Y->a.size=1
 |.int _,_|.bool,_|.str,_|.list _,_|.map _ _,_=>rfl
 |.term,h|.pair _ _,h|.one _,h=>by cases h
theorem Fa{c:TC}{t:Nat}{d a:Ty}(h:xR c t=Z (d,a)):∃s b g z e,c.ty t=Z ⟨s,b,g,z,.map (kcT d) d.agg a.agg a.size e⟩/\km d=O:=by
 unfold xR at h;split at h<;>try cases h
 next s b g z l m k j e f p o n=>split at h<;>cases h;next i=>simp only[aK,cC]at i;grind [qj]
theorem qlT{c:TC}{t:Nat}{a:Ty}{z:Val a}{s b:Nat}{g:Bool}{l:aa ah}{p:aa KC}{q n:Bool}{k:Nat}{d:aa ah}(r:c.ty t=Z ⟨s,b,g,l,.map p q n k d⟩)(h:Oz c t a=Z z):(d.all bQ=O/\I d=k)/\bq a (d.map .v)=Z z:=by
 unfold Oz at h;rw[r]at h;simp only at h;split at h<;>try cases h
 rename_i j;simp only[aK,cC]at j;refine⟨j,?_⟩;have i:eH mp0 ⟨[],[],[],[]⟩:=λ id R h=>by cases h
 let⟨u,e,o⟩:=qf (m:=mp0) i a (wT h) (wV j.1);cases o;have f:(d.map AV.v).map (bC [])=d.map AV.v:=by rw[iu];exact mL λ _ _=>rfl
 have e:er a ((d.map AV.v).map (bC []))=_:=e;rw[f]at e;exact dJ.2 e
theorem J6(n:Rel N m E τ tm σ){c a:Ty}{x:TV}{y:AV}(o:OK m x y){b:Nat}{l:aa (Val c×Val a)}(h:AJ τ c a x=Z (b,l)):b<m.nb/\∃ks vs,vF σ (kcT c) c.agg a.agg y=Z (m.b b,ks,vs)/\gz (bq c) (bq a) ks vs=Z l:=by
 unfold AJ at h;split at h<;>try cases h
 rename_i t;split at h<;>try cases h
 rename_i i u s g;split at h<;>cases h;rename_i f;unfold G2 at f;split at f<;>cases f;rename_i e;obtain⟨rfl,rfl⟩:=e;let⟨q,p⟩:=o;obtain⟨ds,g3,y,r,rfl,k,d⟩:=n.box _ _ g;cases d;obtain⟨ks,vs,rfl,j⟩:=ot k;have g:∀x,eE x x=O:=λ x=>by cases x<;>rfl
 exact⟨q,ks,vs,by rw[p];simp only[vF,g3,kQ,g,nN],j⟩
theorem VY{m:Mp}{a:Ty}{v:Val a}{ds:aa AV}(h:bq a ds=Z v):OK m (oL a v) (fy a.agg ds):=by
 have d:=lV (m:=m) h
 have one:∀x,js a v=[x]->∃y,ds=[y]/\OK m x y:=λ x f=>by
  rw[f]at d;let⟨y,r,e,i,g⟩:=d;cases g;exact⟨y,e,i⟩
 cases a with
 |term|pair a b|one a=>exact⟨ds,rfl,d⟩
 |int k|bool|str|list a|map a b=>obtain⟨y,rfl,c⟩:=one _ rfl;exact c
theorem EE:∀(d:Ty),km d=O->∀(v:Val d) (c:aa KC) (r:aa AV),cu (kcT d++c) (aq d v++r)=cu c r
 |.int k,_,v,c,r=>by simp[kcT,aq,cu]
 |.bool,_,v,c,r|.str,_,v,c,r=>rfl
 |.pair a b,h,v,c,r=>by
   simp only[km,aK]at h;rw[kcT,aq,bE,bE,EE a h.1,EE b h.2]
 |.one a,h,v,c,r=>EE a h v c r
 |.term,h,_,_,_|.list _,h,_,_,_|.map _ _,h,_,_,_=>by cases h
theorem SZ{a:Ty}(h:km a=O)(v:Val a):cu (kcT a) (aq a v)=O:=by
 have:=EE a h v [] []
 rwa [bZ,bZ]at this
theorem xC:∀(d:Ty),km d=O->∀{cs:aa AV}{v:Val d}{r:aa AV},er d cs=Z (v,r)->cs=aq d v++r
 |.int k,_,cs,v,r,h=>by
   change eW k cs=_ at h;unfold eW at h;split at h<;>try cases h
   split at h<;>cases h;next c=>rw[bH c];rfl
 |.bool,_,cs,v,r,h=>by
   change kz cs=_ at h;unfold kz at h;split at h<;>cases h;rfl
 |.str,_,cs,v,r,h=>by
   change iO cs=_ at h;unfold iO at h;split at h<;>cases h;simp_all [aq]
 |.pair a b,c,cs,v,r,h=>by
   simp only[km,aK]at c;let⟨g,f,e⟩:=mS.1 h;rw[xC a c.1 f,xC b c.2 e,aq,bE]
 |.one a,c,cs,v,r,h=>xC a c h
 |.term,h,_,_,_,_|.list _,h,_,_,_,_|.map _ _,h,_,_,_,_=>by cases h
theorem Wy{a:Ty}(d:km a=O)(q:eH m σ){x:TV}{y:AV}{v:Val a}(h:jK m.rw a x=Z v)(s:OK m x y):vm (kcT a) a.agg y=O/\cellsOf y=aq a v:=by
 let⟨j,A⟩:=rP q h s;have i:=xC a d (dJ.1 A);rw[bZ]at i;have w:=GV _ _ (SZ d v)
 have p:cellsOf y=aq a v:=by
  rw[<-i]
  have b:∀c∈cellsOf y,bC σ.rw c=c:=λ c u=>by
   have t:bC σ.rw c∈aq a v:=by rw[<-i];exact bu.2 ⟨c,u,rfl⟩
   have e:=w _ t;cases c with
   |sl k D f=>cases e
   |rs r lo n B f=>
     exfalso;simp only[bC]at e;cases o:σ.rw[r]? with
     |none=>rw[o]at e;cases e
     |some R=>
       rw[o]at e;simp only at e;cases z:sI R R.k lo n B<;>rw[z]at e<;>cases e
   |_=>rfl
  exact((mL (g:=id) b).trans (List.map_id _)).symm
 refine⟨?_,p⟩;unfold vm;rw[p,SZ d v,mJ];unfold gu at j;split at j
 .rename_i C
  have e:gY (cS σ.rw y)=gY y:=by
   cases l:gY y with
   |false=>exact(JQ σ.rw l).1
   |true=>cases y<;>first|rfl|cases l
  grind [qj]
 .cases j
theorem Ru:∀(a b c d:aa AV),I a=I b->gp (a++c) (b++d)=(gp a b&&gp c d)
 |[],[],c,d,_=>rfl
 |x::a,y::b,c,d,h=>by
   show(ox x y&&gp (a++c) (b++d))=(ox x y&&gp a b&&gp c d);rw[Ru a b c d (by simpa using h),Bool.and_assoc]
 |[],_::_,_,_,h|_::_,[],_,_,h=>by cases h
theorem Ap:∀(c:Ty),km c=O->∀(a b:Val c),gp (aq c a) (aq c b)=veq c a b
 |.int k,_,a,b|.bool,_,a,b=>mJ _
 |.str,_,a,b=>(mJ _).trans (V0 a b)
 |.pair c τ,h,a,b=>by
   simp only[km,aK]at h;rw[aq,aq,Ru _ _ _ _ (by rw[fK,fK]),Ap c h.1,Ap τ h.2];rfl
 |.one c,h,a,b=>Ap c h a b
 |.term,h,_,_|.list _,h,_,_|.map _ _,h,_,_=>by cases h
theorem zM{c b:Type}{f:aa AV->ac c}{g:aa AV->ac b}{ks vs:aa (aa AV)}{p:c×b}{l:aa (c×b)}:gz f g ks vs=Z (p::l)↔∃k a v vs',ks=k::a/\vs=v::vs'/\f k=Z p.1/\g v=Z p.2/\gz f g a vs'=Z l:=by
 constructor
 .intro h;cases ks<;>cases vs<;>try (cases h;done)
  simp only[gz]at h;grind
 .rintro⟨k,a,v,vs',rfl,rfl,i,e,d⟩;simp only[gz,i,e,d]
theorem VJ{b a:Ty}(c:km b=O):∀{l:aa (Val b×Val a)}{ks vs:aa (aa AV)},gz (bq b) (bq a) ks vs=Z l->∀(k:Val b) (i:Nat),
  (gL (aq b k) ks i=U/\bS (veq b) l k=U)\/∃j v p,gL (aq b k) ks i=Z (i+j)/\vs[j]?=Z v/\bq a v=Z p/\bS (veq b) l k=Z p
 |[],ks,vs,h,k,i=>by
   let⟨d,_⟩:=Ab h;have:ks=[]:=cJ d;subst this;exact .inl ⟨rfl,rfl⟩
 |p::l,ks,vs,h,k,i=>by
   obtain⟨s,m,v,vs',rfl,rfl,d,o,n⟩:=zM.1 h;have e:=xC b c (dJ.1 d);rw[bZ]at e;subst e;simp only[gL,Ap b c,bS];cases t:veq b k p.1 with
   |true=>exact .inr ⟨0,v,p.2,rfl,rfl,o,rfl⟩
   |false=>
     obtain⟨g,f⟩|⟨j,w,q,g,f,g3,r⟩:=VJ c n k (i+1)
     .exact .inl ⟨g,f⟩
     .exact .inr ⟨j+1,w,q,by show gL _ _ _=_;rw[g];congr 1;omega,f,g3,r⟩
theorem WA{b a:Ty}(o:km b=O)(k:Val b){p:Val a}{m:aa AV}(c:bq a m=Z p):∀{l:aa (Val b×Val a)}{ks vs:aa (aa AV)},gz (bq b) (bq a) ks vs=Z l->∀(i:Nat),
  match gL (aq b k) ks i with
  |none=>gz (bq b) (bq a) (ks++[aq b k]) (vs++[m])=Z (fQ (veq b) l k p)
  |some j=>∃q,j=i+q/\gz (bq b) (bq a) ks (vs.set q m)=Z (fQ (veq b) l k p)
 |[],ks,vs,h,i=>by
   let⟨d,g⟩:=Ab h;have:ks=[]:=cJ d;subst this;have:vs=[]:=cJ g;subst this;show gz _ _ [_] [_]=Z [(k,p)];simp only[gz,jo,c]
 |r::l,ks,vs,h,i=>by
   obtain⟨x,n,v,vs',rfl,rfl,d,g,t⟩:=zM.1 h;have e:=xC b o (dJ.1 d);rw[bZ]at e;have f:=WA o k c t (i+1);subst e;simp only[gL,Ap b o,fQ];cases y:veq b k r.1 with
   |true=>exact⟨0,rfl,zM.2 ⟨_,_,_,_,rfl,rfl,d,c,t⟩⟩
   |false=>
     simp only;cases s:gL (aq b k) n (i+1)with
     |none=>
       rw[s]at f;exact zM.2 ⟨_,_,_,_,rfl,rfl,d,g,f⟩
     |some j=>
       rw[s]at f;let⟨q,w,u⟩:=f;exact⟨q+1,by omega,zM.2 ⟨_,_,_,_,rfl,rfl,d,g,u⟩⟩
theorem R4{t:Nat}{u k y:bw}(W:C.ty=c.ty)(i:Rel N m E τ tm σ)(h:xP c E τ t u k y K=Z r):Sim N m E τ tm σ K r (ma C tm σ t u k y):=by
 unfold xP at h;split at h<;>try cases h
 rename_i d a X;split at h<;>try cases h
 rename_i b l G F;split at h<;>try cases h
 rename_i g v hk T;obtain⟨_,_,_,_,vz,hd,n⟩:=Fa X;obtain⟨L,ks,vs,ab,H⟩:=J6 i (i.ev u) G;obtain⟨e1,e2⟩:=Wy n i.rows (by rw[i.rw];exact hk) (i.ev k);obtain⟨w,P⟩:=rP i.rows (by rw[i.rw];exact T) (i.ev y);have A:=Gm F (i.ev y);have ad:∀z∈cellsOf (aev tm y),rsC z=[]:=JF A
 have B:∀z∈cellsOf (aev tm y),br z=O:=λ z hz=>by
  obtain⟨pre,o,_,q3,_⟩:=iS a (dJ.1 P);grind [Fl]
 have s:=Gb B P
 have S:AR a.agg a.size (aev tm y)=O:=by
  unfold AR;obtain⟨pre,o,M,_⟩:=iS a (dJ.1 s);rw[bZ]at o
  have hg:gY (aev tm y)=a.agg:=by
   unfold gu at w;split at w
   .rename_i hg
    have e:gY (cS σ.rw (aev tm y))=gY (aev tm y):=by
     cases x:gY (aev tm y)with
     |false=>exact(JQ σ.rw x).1
     |true=>cases R:aev tm y<;>rw[R]at x<;>first|rfl|cases x
    grind [qj]
   .cases w
  grind [eE]
 have f:=WA n g s H 0
 have p:gz (bq d) (bq a) (lF ks vs (aq d g) (cellsOf (aev tm y))).1 (lF ks vs (aq d g) (cellsOf (aev tm y))).2=Z (fQ (veq d) l g v):=by
  unfold lF;cases Q:gL (aq d g) ks 0 with
  |none=>rw[Q]at f;exact f
  |some j=>
    rw[Q]at f;obtain⟨q,o,M⟩:=f;rw[cI]at o;subst o;exact M
 have D:ma C tm σ t u k y=Z (.tup [],Z {σ with bx:=σ.bx.set (m.b b) [.mc (kcT d) d.agg a.agg (lF ks vs (aq d g) (cellsOf (aev tm y))).1 (lF ks vs (aq d g) (cellsOf (aev tm y))).2],wr:=m.b b::σ.wr}):=by
  unfold ma;grind
 exact .to h D (.refl m) (i.setBox L (cs:=[.mc d a (fQ (veq d) l g v)]) (ds:=[.mc (kcT d) d.agg a.agg (lF ks vs (aq d g) (cellsOf (aev tm y))).1 (lF ks vs (aq d g) (cellsOf (aev tm y))).2]) ⟨_,_,rfl,MN.trans p,rfl⟩ _) ⟨_,rfl,rfl⟩
theorem qk2{op:Op}(D:C.ty=c.ty)(A:Rel N m E τ tm σ)(h:eT c E τ op K=Z r):Sim N m E τ tm σ K r (aC C tm σ op):=by
 cases op with
 |move x=>exact .same A h rfl (A.ev x)
 |assign x=>exact .same A h rfl (A.ev x)
 |pick x a b=>
   simp only[eT]at h;split at h<;>try cases h
   rename_i y P;have W:=A.ev x;rw[P]at W;cases y with
   |true=>exact .same A h (by simp only[aC,show aev tm x=_ from W]) (A.ev a)
   |false=>exact .same A h (by simp only[aC,show aev tm x=_ from W]) (A.ev b)
 |alloc e=>
   simp only[eT]at h;split at h<;>try cases h
   rename_i d G;split at h<;>try cases h
   rename_i hz;obtain⟨m',S,T,X⟩:=A.alloc (wV (m:=m) hz);exact .to h (by simp only[aC,D,G,hz]) S T X
 |box e x=>
   simp only[eT]at h;split at h<;>try cases h
   rename_i d G;split at h<;>try cases h
   rename_i hz;obtain⟨H,L⟩:=(A.ev x).cells hz;obtain⟨m',S,T,X⟩:=A.alloc H;exact .to h (by simp only[aC,D,G,L]) S T X
 |build t parts=>
   simp only[eT]at h;split at h<;>try cases h
   rename_i _ _ _ z fs G;split at h<;>try cases h
   rename_i hz;split at h<;>try cases h
   rename_i cs ad;obtain⟨ds,S,T⟩:=UW (VO E tm A (V parts)) (wV (m:=m) hz) ad;exact .same A h (by simp only[aC,D,G,hz];erw [S]) ⟨ds,rfl,T⟩
 |buildSlice t n parts=>
   simp only[eT]at h;split at h<;>try cases h
   rename_i _ _ _ _ _ k _ _ a G F;split at h<;>try cases h
   rename_i hb;simp only[aK,cC]at hb;obtain⟨⟨⟨⟨hk,hn⟩,eb⟩,el⟩,hz⟩:=hb;split at h<;>try cases h
   rename_i vs bs;rw[<-A.rw]at bs;have hq:=A.rows;have bd:=Rz hq A bs;have bp:=UU hq bs (by have:=A.evs (parts.toList.map (·.2));simpa[iu,Ib]using this)
   have ea:vb k n σ.rw (parts.toList.map λ p=>(p.1,aev tm p.2))=O:=by
    unfold vb;have S:I (parts.toList.map λ p=>(p.1,aev tm p.2))=n:=by simpa using hn
    simp only[S,kQ,eb,el,ei,mJ]
    have:=W7 (aev tm) (V parts) 0 hz (λ _ _=>trivial) (λ x=>J (I (cellsOf x)=k)&&((cellsOf x).all λ y=>br (bC σ.rw y)))
     λ q d9=>by obtain⟨a1,a2⟩:=bd q d9;rw[a1,a2,hk];simp
    grind
   have b3:∀m':Mp,OK m' (.sl a vs 2) (.sl k (parts.toList.map λ p=>(cellsOf (aev tm p.2)).map (bC σ.rw)) 2):=by
    intro m';refine⟨?_,al _⟩;subst hk;show fU _ _ (.sl _ _ 2)=_;grind [fU,bN,decide_true,List.map_map,Function.comp_def]
   have cl:aC C tm σ (.buildSlice t n parts)=match parts.toList.flatMap λ p=>rsA (aev tm p.2)with
     |[]=>Z (.sl k (parts.toList.map λ p=>(cellsOf (aev tm p.2)).map (bC σ.rw)) 2,U)
     |r::l=>Z (.sl k (parts.toList.map λ p=>(cellsOf (aev tm p.2)).map (bC σ.rw)) 2,Z {σ with rw:=frz σ.rw (r::l),wrr:=(r::l)++σ.wrr}):=by
    simp only[aC,D,G,ea];rfl
   rw[cl];split at h
   .rename_i b4
    have c8:parts.toList.flatMap (λ p=>rsA (aev tm p.2))=[]:=by
     have:=LD (xs:=parts.toList.map λ p=>evT E p.2) (ys:=parts.toList.map λ p=>aev tm p.2) (by rw[Pb];exact b4) (by have:=A.evs (parts.toList.map (·.2));simpa[iu,Ib]using this)
     rwa [H9]at this
    rw[c8];exact .same A h rfl (b3 m)
   .split
    .exact⟨_,Z (shA τ),_,U,shM m,h,rfl,ph m,A.share rfl hq.sh,b3 _,λ h=>by cases h⟩
    .exact .to h rfl (ph m) (A.share (σ':={σ with rw:=frz σ.rw _,wrr:=_}) rfl (hq.frz _ _)) (b3 _)
 |load t a=>
   simp only[eT]at h;split at h<;>try cases h
   rename_i d G;have B:=A.ev a;split at h<;>try cases h
   .rename_i b o F;rw[F]at B;obtain⟨_,B⟩:=B;split at h<;>try cases h
    rename_i cs ad;split at h<;>try cases h
    rename_i b5;split at h<;>try cases h
    rename_i x W;obtain⟨ds,H,L⟩:=A.box b cs ad;obtain⟨y,g3,g4⟩:=uV L W;exact .same A h (by simp only[aC,D,G,B,dN,H,Au L b5,g3]) g4
   .rename_i cs o F;rw[F]at B;obtain⟨ds,B,L⟩:=B;split at h<;>try cases h
    rename_i x W;obtain⟨y,g3,g4⟩:=uV L W;exact .same A h (by simp only[aC,D,G,B,dN,g3]) g4
   .rename_i b i F;rw[F]at B;obtain⟨_,i0,B⟩:=B;split at h<;>try cases h
    rename_i cs ad;split at h<;>try cases h
    rename_i l ca hl;obtain⟨v,M,h⟩:=oR h;obtain⟨_,M⟩:=zG M;obtain⟨ds,H,L⟩:=A.box b cs ad;have g3:ds[i.toNat]?=Z (.v (.bool v)):=by rw[KU hl L,dC,M];rfl
    exact .same A h (y:=.v (.bool v)) (by simp only[aC,D,G,B,dN,H,Au L (Sz hl),ca,mj,g3]) rfl
   .rename_i id ab sv i cs o F;rw[F]at B;split at h<;>try cases h
    rename_i R hR;split at h<;>try cases h
    rename_i a9;split at h
    rotate_left
    .split at h<;>try cases h
     rename_i d6;obtain⟨v,M,h⟩:=oR h;split at h<;>try cases h
     rename_i x W;obtain⟨j0,M⟩:=zG M;obtain⟨R',H,_,_,_,L⟩:=B;rw[A.rw,hR]at H;cases H;have hg:=A.rows id R (by rw[A.rw];exact hR);rcases L (cg a9)with⟨r',j,z1,z2,z0,z3,_⟩|⟨z1,z3,_⟩
     .rw[z1]at hg;obtain⟨Q,q1,q2,q3,q4,q5,q6,q7⟩:=hg;rw[z0,lL]at M;obtain⟨e,e1,e2⟩:=xd q5 M;obtain⟨y,g3,g4⟩:=uV (lV e2) W;have kl:xX Q j (m.v id)=Z e:=by unfold xX;rw[ag q3];exact e1
      exact .same A h (by simp only[aC,D,G,z2,dN,q1,kl,g3]) g4
     .rw[z1]at hg;have:=hg d6;grind
    rename_i d4;split at h<;>try cases h
    rename_i x W;rcases Vp A B hR (cg a9) (cg d4)with⟨r',j,ds,Q,k1,_,_,k2,k3,k4,_⟩|⟨ds,k1,k4,_⟩
    .obtain⟨y,g3,g4⟩:=uV k4 W;have kl:xX Q j Q.ver=Z ds:=by unfold xX;rw[ag rfl];exact k3
     exact .same A h (by simp only[aC,D,G,k1,dN,k2,kl,g3]) g4
    .obtain⟨y,g3,g4⟩:=uV k4 W;exact .same A h (by simp only[aC,D,G,k1,dN,g3]) g4
 |store t a x=>
   simp only[eT]at h;split at h<;>try cases h
   rotate_left
   .rename_i d b i G F;have B:=A.ev a;rw[F]at B;obtain⟨hb,i0,B⟩:=B;split at h<;>try cases h
    rename_i cs v ad W;split at h<;>try cases h
    rename_i l hl ba;obtain⟨db,h⟩:=jZ h;have db:=bH db;have ba:=cg ba;obtain⟨ds,H,L⟩:=A.box b cs ad;have ax:=A.ev x;rw[W]at ax;have ax:aev tm x=.v (.bool v):=ax;have dk:=KU hl L;have b6:i.toNat<I l:=by omega
    have a5:I ds=I l:=by rw[dk,ce]
    have ct:qH l i v 0=l.set i.toNat v:=by
     have:=Vq l i.toNat v 0;grind
    have a6:ds.take i.toNat++(cellsOf (aev tm x)++ds.drop (i.toNat+d.size))=(qH l i v 0).map λ b=>AV.v (.bool b):=by
     rw[ax,ba,ct,List.map_set,<-dk,qoO,ifP];rfl
    have e1:I (cellsOf (aev tm x))=d.size:=by rw[ax,ba];rfl
    have e2:i.toNat+d.size<=I ds:=by omega
    have k2:(cellsOf (aev tm x)).all isC=O:=by rw[ax];rfl
    exact .to h (by simp only[aC,D,G,B,H,Au L (Sz hl),e1,e2,k2,kQ,nN];rfl) (.refl m) (A.setBox hb (ds:=ds.take i.toNat++(cellsOf (aev tm x)++ds.drop (i.toNat+d.size))) (by rw[a6];exact S1 _) _) ⟨_,rfl,rfl⟩
   .rename_i d id ab sv i cs o G F;have B:=A.ev a;rw[F]at B;split at h<;>try cases h
    rename_i R hR;split at h<;>try cases h
    rename_i hc;simp only[aK,cC,fF]at hc;obtain⟨⟨⟨⟨⟨c1,c2⟩,c3⟩,c4⟩,c5⟩,c6⟩:=hc;split at h<;>try cases h
    rename_i v M;rcases Vp A B hR (cg c1) (cg c2)with⟨r',j,ds,Q,k1,a8,ki,k2,k3,k4,kj,kv,kk,kd,kf,ks⟩|⟨ds,k1,k4,ks⟩
    rotate_left
    .rw[c3]at ks;cases ks
    obtain⟨z1,z2,z3⟩:=qhm (A.ev x) c6;have ar:=wT M;have a6:OKL m (cs.take o++(fw (evT E x)++cs.drop (o+d.size))) (ds.take o++(cellsOf (aev tm x)++ds.drop (o+d.size))):=(k4.take o).append (z1.append (k4.drop _));rw[<-A.rw]at ar;obtain⟨rs,p1,p2⟩:=qf A.rows R.τ ar a6;cases p2
    have c0:∀y∈ds,br y=O:=by
     obtain⟨w,_,hw⟩:=oS kd k3;obtain⟨pre,S,_,X,_⟩:=iS R.τ (dJ.1 hw);grind
    have a5:I ds=R.τ.size:=by
     obtain⟨w,_,hw⟩:=oS kd k3;obtain⟨pre,S,T,_⟩:=iS R.τ (dJ.1 hw);grind
    have d2:∀y∈cellsOf (aev tm x),br y=O:=by
     obtain⟨pre,S,_,X,_⟩:=iS R.τ p1;grind [List.mem_map_of_mem,Fl]
    have bp:bq R.τ (ds.take o++(cellsOf (aev tm x)++ds.drop (o+d.size)))=Z v:=by
     have:bq R.τ ((ds.take o++(cellsOf (aev tm x)++ds.drop (o+d.size))).map (bC σ.rw))=Z v:=dJ.2 p1
     exact Gb (λ y P=>by
      rcases bc.1 P with P|P
      .exact c0 y (jf P)
      .rcases bc.1 P with P|P
       .exact d2 y P
       .exact c0 y (iP P)) this
    have co:=S0 kd j bp;have bz:r'<I σ.rw:=getElem?_lt k2;have e7:I (cellsOf (aev tm x))=d.size:=by rw[z1.len];exact c4
    have e0:o+d.size<=I ds:=by rw[k4.len];exact c5
    have d7:ya Q j o Q.ver d.size (cellsOf (aev tm x))=Z {Q with c:=Q.c.set j (ds.take o++(cellsOf (aev tm x)++ds.drop (o+d.size)))}:=by
     unfold ya
     have e1:(J (Q.ver=Q.ver/\Q.fz<=j/\o+d.size<=Q.k/\I (cellsOf (aev tm x))=d.size/\Q.off=Y)&&(cellsOf (aev tm x)).all br)=O:=by
      grind
     rw[e1,k3]
    have a3:cy R.l i v=R.l.set j v:=by
     grind [cy]
    obtain⟨m',H,L,_⟩:=A.rowUpd (R2:=⟨R.τ,cy R.l i v,R.ver,R.sv+1,R.sh⟩) hR (m.r id) (m.v id) (Q.c.set j (ds.take o++(cellsOf (aev tm x)++ds.drop (o+d.size)))) (al _) (eO _)
     (λ _=>⟨by show(cy R.l i v).length=_;rw[a3,dX],rfl,rfl,rfl,(λ h=>by have:R.sv+1=R.sv:=h;omega),(λ h=>by rw[a8]at h;cases h)⟩) (σ':={σ with rw:=σ.rw.set r' {Q with c:=Q.c.set j (ds.take o++(cellsOf (aev tm x)++ds.drop (o+d.size)))},wrr:=r'::σ.wrr}) rfl
     (by
      rw[a8];refine⟨{Q with c:=Q.c.set j (ds.take o++(cellsOf (aev tm x)++ds.drop (o+d.size)))},by show(σ.rw.set r' _)[r']?=_;rw[gh bz],rfl,kv,kk,?_,?_,ks⟩
      .show ci (bq R.τ) (Q.c.set j _)=Z (cy R.l i v);rw[a3];exact co
      .show Q.fz<=I (Q.c.set j _);rw[dX];exact kf)
     (λ cd a7 S T X=>by
      have aE:=A.others hR a8 S T X;refine⟨λ F=>by rw[a8]at F;exact aE (kO F).symm,λ Q' cb=>?_⟩;show(σ.rw.set r' _)[a7]?=_;rw[jA (oO aE)];exact cb)
    exact .to h (by simp only[aC,D,G,k1,k2,d7];rfl) H L ⟨_,rfl,rfl⟩
   rename_i d b o G F;have B:=A.ev a;rw[F]at B;obtain⟨hb,B⟩:=B;split at h<;>try cases h
   rename_i cs ad;split at h<;>try cases h
   rename_i hc;simp only[aK,cC]at hc;obtain⟨⟨⟨b5,S⟩,T⟩,X⟩:=hc;obtain⟨ds,H,L⟩:=A.box b cs ad;obtain⟨k1,k2⟩:=(A.ev x).cells X;have e1:I (cellsOf (aev tm x))=d.size:=by rw[k1.len];exact S
   have e2:o+d.size<=I ds:=by rw[L.len];exact T
   exact .to h (by simp only[aC,D,G,B,H,Au L b5,e1,e2,k2,kQ,nN];rfl) (.refl m) (A.setBox hb ((L.take o).append (k1.append (L.drop (o+d.size)))) _) ⟨_,rfl,rfl⟩
 |makeSlice t n mm=>
   simp only[eT]at h;split at h<;>try cases h
   rename_i _ _ _ _ _ k bytes z a' ik a G F hn;split at h<;>try cases h
   rename_i hc;simp only[aK,cC]at hc;obtain⟨⟨⟨⟨c1,c2⟩,c3⟩,c4⟩,c5⟩:=hc;split at h<;>try cases h
   rename_i v M;obtain⟨hm,h⟩:=jZ h;obtain⟨m1,m2,m3⟩:=bH hm;have az:=A.ev n;rw[hn]at az;have az:aev tm n=.v (.int ik a):=az;have ec:aev tm mm=.v (.int ik a):=by rw[<-qmw c1];exact az
   have d8:eH mp0 σ:=λ id R h=>by cases h
   have ar:=wT M;obtain⟨rs,p1,p2⟩:=qf (m:=mp0) d8 a' ar (wV c5);cases p2;have d1:(z.map AV.v).map (bC σ.rw)=z.map AV.v:=by rw[iu];exact mL λ _ _=>rfl
   rw[d1]at p1;have em:bq a' (z.map AV.v)=Z v:=dJ.2 p1;have cP:(z.map AV.v).all br=O:=by rw[Pb,bJ];intro _ _;rfl
   have b9:J (0<=a/\a.toNat*bytes<=2^47/\a.toNat<2^62/\0<k/\I z=k)=O:=cO ⟨m1,m2,m3,c3,c4⟩
   have cl:aC C tm σ (.makeSlice t n mm)=match bN a.toNat 0 with
     |true=>Z (.sl k [] 2,U)
     |false=>Z (.rs (I σ.rw) 0 a.toNat 0 Y,Z {σ with rw:=σ.rw++[⟨k,List.replicate a.toNat (z.map .v),0,0,Y⟩]}):=by
    simp only[aC,D,G,az,ec,true_and,b9,c5,cP,nN];cases bN a.toNat 0<;>rfl
   have b0:=SW em a.toNat;by_cases B:a.toNat=0
   .obtain⟨m',H,L,g3⟩:=A.rowAdd (σ':=σ) ⟨a',List.replicate a.toNat v,0,0,Y⟩ U 0 [] rfl (λ _=>by show List.replicate a.toNat v=[];rw[B];rfl) (λ r Q h=>h) (λ r h=>by cases h) (y:=.sl k [] 2) ⟨by show fU a'.size (bq a') (.sl k [] 2)=Z (List.replicate a.toNat v);rw[B,c2];simp only[fU,bN,kQ];rfl,al _⟩ rfl;refine⟨_,Z _,.sl k [] 2,U,m',h,?_,H,L,g3,λ h=>by cases h⟩;grind [bN]
   .obtain⟨m',H,L,g3⟩:=A.rowNew b0;rw[ti]at g3;refine .to h (y:=.rs (I σ.rw) 0 a.toNat 0 Y) ?_ H L g3;grind [bN]
 |nilCheck x=>
   simp only[eT]at h;have B:=A.ev x;split at h<;>try cases h
   .rename_i b o F;rw[F]at B;exact .same A h (by simp only[aC,B.2]) ⟨B.1,rfl⟩
   .rename_i cs o F;rw[F]at B;obtain⟨ds,B,g⟩:=B;exact .same A h (by simp only[aC,B]) ⟨ds,rfl,g⟩
   .rename_i id ab sv i cs o F;rw[F]at B;have dT:=B;obtain⟨R,_,_,_,P,_⟩:=B;rcases P with⟨r',j,ep,P⟩|⟨ds,P⟩
    .exact .same A h (y:=.rpt r' j o ep) (by simp only[aC,P]) (by rw[<-P];exact dT)
    .exact .same A h (y:=.ept ds o) (by simp only[aC,P]) (by rw[<-P];exact dT)
 |binOp op t x y u=>
   simp only[eT]at h;split at h
   .rename_i b hb
    obtain⟨e1,G⟩:((op=.eql/\K (.b b) U=Z r)\/(op=.neq/\K (.b (!b)) U=Z r))/\∃p1 p2 p3 p4,c.ty t=Z ⟨p1,p2,p3,p4,.ptr⟩:=by
     grind [qhv]
    obtain⟨p1,p2,p3,p4,G⟩:=G;rcases qkk (A.ev x) (A.ev y) hb with⟨rfl,q1,q2⟩|⟨rfl,q1,q2⟩
    .rcases e1 with⟨rfl,e1⟩|⟨rfl,e1⟩<;>exact .same A e1 (by simp only[aC,q1,q2,D,G,ZF]) rfl
    .rcases e1 with⟨rfl,e1⟩|⟨rfl,e1⟩
     .refine .same A e1 (y:=.v (.bool Y)) ?_ rfl;cases W:aev tm x<;>rw[W]at q1<;>first|(cases q1;done)|(simp only[aC,W,q2,D,G,Ax,A9,nN])
     .refine .same A e1 (y:=.v (.bool O)) ?_ rfl;cases W:aev tm x<;>rw[W]at q1<;>first|(cases q1;done)|(simp only[aC,W,q2,D,G,Ax,A9,nN])
   obtain⟨z,v,S,T,X⟩:=qns (A.ev x) (A.ev y) h;refine .same A S ?_ T;rcases X with⟨a,b,e1,e2,e3,h4⟩|⟨a,b,e1,e2,e3,h4⟩
   .obtain⟨p1,p2,p3,p4,G⟩:=qhr e3;rcases h4 with⟨rfl,rfl⟩|⟨rfl,rfl⟩<;>simp only[aC,e1,e2,D,G]
   .simp only[aC,e1,e2];grind [sO]
 |unOp op t x=>
   simp only[eT]at h;have B:=A.ev x;split at h<;>try cases h
   .rename_i k n F;rw[F]at B;exact .same A h (by simp only[aC,show aev tm x=_ from B,unA]) rfl
   .rename_i b F;rw[F]at B;exact .same A h (by simp only[aC,show aev tm x=_ from B,unA]) rfl
 |convert s d x=>
   simp only[eT]at h;have B:=A.ev x;split at h<;>try cases h
   .rename_i S T X;rw[X]at B;exact .same A h (by simp only[aC,D,S,T,show aev tm x=_ from B]) rfl
   .rename_i S T X;rw[X]at B;exact .same A h (by simp only[aC,D,S,T,show aev tm x=_ from B]) rfl
   .rename_i e _ _ _ y S T X;rw[X]at B;split at h<;>try cases h
    rename_i hu;have B:aev tm x=.v (.string ⟨y.toArray⟩):=B;obtain⟨m',H,L,g3⟩:=A.rowNew (Tf y);rw[show(ln y).length=y.toArray.size by simp[ln]]at g3;exact .to h (y:=.rs (I σ.rw) 0 y.toArray.size 0 Y) (by simp only[aC,D,S,T,B,hu];rfl) H L g3
   .rename_i e _ _ _ _ _ _ _ _ _ _ S T hn;split at h<;>try cases h
    rename_i l hu hl;rw[<-A.rw]at hl;obtain⟨es,H,L,g3⟩:=Ao A.rows hl B;have H:elems σ.rw 1 (aev tm x)=Z es:=H;refine .same A h (y:=.v (.string ⟨(gI l).toArray⟩)) ?_ rfl;have hs:=UN es l L
    cases W:aev tm x<;>rw[W]at H<;>first
     |(simp[elems]at H;done)
     |(simp only[aC,D,S,T,W,hu,H,hs];done)
     |skip
    rename_i v
    cases v<;>first
     |(simp[elems]at H;done)
     |(simp only[aC,D,S,T,W,hu,H,hs])
 |makeFunc f fs cs=>
   cases f with
   |func f=>
     simp only[eT]at h;split at h<;>try cases h
     rename_i hf;exact .same A h (by simp only[aC,hf]) ⟨_,rfl,A.evs _⟩
   |_=>simp only[eT]at h;cases h
 |slice t x lo hi mx=>
   cases mx with
   |some q=>simp only[eT]at h;cases h
   |none=>
   simp only[eT]at h;have B:=A.ev x;split at h<;>try cases h
   .rename_i y G F;rw[F]at B;split at h<;>try cases h
    rename_i hh a4;split at h<;>try cases h
    rename_i l an;obtain⟨c1,h⟩:=jZ h;obtain⟨c2,h⟩:=jZ h;have d3:qN ⟨y.toArray⟩=I y:=by simp[qN,ByteArray.size]
    have b1:=rF A (d:=I y) a4 (al _) c1;have b2:=rF A (d:=0) an (aL _) c2;refine .same A h (y:=.v (.string (Bf ⟨y.toArray⟩ l.toNat hh.toNat))) ?_ ?_
    .simp only[aC,D,G,show aev tm x=_ from B,d3,b1,b2]
    .show AV.v _=AV.v _;rw[<-qlr]
   .rename_i a y lv G F;rw[F]at B;split at h<;>try cases h
    rename_i hk;rw[aK]at hk;have ek:=bH hk.1;split at h<;>try cases h
    rename_i hh a4;split at h<;>try cases h
    rename_i l an;obtain⟨c1,h⟩:=jZ h;obtain⟨c2,h⟩:=jZ h;have b1:=rF A (d:=I y) a4 (al _) c1;have b2:=rF A (d:=0) an (aL _) c2;obtain⟨a5,_⟩:=B;rcases fL a5 with⟨S,rfl⟩|⟨es,n,S,T⟩
    .refine .same A h (y:=.v (.slice U 0 0)) ?_ ?_
     .simp_all [aC]
     .refine⟨?_,by decide⟩;grind [gA]
    .have d5:fR es=I y:=en T;refine .same A h (y:=.sl a.size (Ht es l.toNat hh.toNat) (lvS (n+1) (bN hh.toNat (I y)))) ?_ ?_
     .simp_all [aC,bN,pos]
     .have a0:∃q,lvS (n+1) (bN hh.toNat (I y))=q+1:=by unfold lvS;split<;>exact⟨_,rfl⟩
      obtain⟨q,hq⟩:=a0;rw[hq];refine⟨?_,qV (aL _)⟩;show fU _ _ (.sl _ _ (q+1))=_;simp only[fU,ek,bN,kQ];exact wW _ (zd _ T)
   .rename_i G F;rw[F]at B;split at h<;>try cases h
    rename_i hh a4;split at h<;>try cases h
    rename_i l an;obtain⟨c1,h⟩:=jZ h;obtain⟨c2,h⟩:=jZ h;have b1:=rF A (d:=0) a4 (al _) c1;have b2:=rF A (d:=0) an (aL _) c2;exact .same A h (y:=.v (.slice U 0 0)) (by simp only[aC,D,G,show aev tm x=_ from B,b1,b2]) rfl
   .rename_i _ _ _ _ _ k _ _ id ab G F;rw[F]at B;split at h<;>try cases h
    rename_i R hR;split at h<;>try cases h
    rename_i bv;rw[aK]at bv;have M:R.ver=ab:=cg bv.1;have hk:=bH bv.2;split at h<;>try cases h
    rename_i l an;obtain⟨c1,h⟩:=jZ h;obtain⟨R',H,L,g3,g4⟩:=B;rw[A.rw,hR]at H;cases H;have eo:m.rw[id]?=Z R:=by rw[A.rw];exact hR
    have gy:=g4 M;subst M;rcases rU A.rows eo gy with⟨rr,Q,bb,P,k1,k2,kv,k3,k4,kf,ks⟩|⟨bb,hq,P,a0⟩
    .have et:=en k4;have bz:rr<I σ.rw:=getElem?_lt k1;have b2:=rF A (d:=0) an (aL _) c1
     have b7:l.toNat<=I R.l:=by
      grind [inb]
     have e6:G7 Q k 0 (I Q.c) Q.ver l.toNat=Z {Q with c:=Q.c.drop l.toNat,ver:=Q.ver+1,fz:=Q.fz-l.toNat,off:=O}:=by
      grind [G7]
     obtain⟨m',z1,z2,z3⟩:=A.rowUpd (R2:=⟨R.τ,R.l.drop l.toNat,R.ver+1,R.sv,O⟩) hR (Z rr) (Q.ver+1) (Q.c.drop l.toNat) (eO _) (al _) (λ h=>by have:R.ver+1=R.ver:=h;omega)
      (σ':={σ with rw:=σ.rw.set rr {Q with c:=Q.c.drop l.toNat,ver:=Q.ver+1,fz:=Q.fz-l.toNat,off:=O},wrr:=rr::σ.wrr}) rfl
      ⟨{Q with c:=Q.c.drop l.toNat,ver:=Q.ver+1,fz:=Q.fz-l.toNat,off:=O},by show(σ.rw.set rr _)[rr]?=_;rw[gh bz],rfl,rfl,k3,wW _ k4,by show Q.fz-l.toNat<=I (Q.c.drop l.toNat);rw[je];omega,λ h=>by cases h⟩ λ cd a7 aE b6 bl=>by
       have c7:=A.others hR bb aE b6 bl;exact⟨λ b8=>c7 (kO b8).symm,λ Q' cb=>by show(σ.rw.set rr _)[a7]?=_;rw[jA (oO c7)];exact cb⟩
     refine .to h (y:=.rs rr 0 (I Q.c-l.toNat) (Q.ver+1) Y) ?_ z1 z2 (z3 _ ?_)
     .simp_all [aC,iK,bN]
     .show _=AV.rs rr 0 (I (R.l.drop l.toNat)) (Q.ver+1) Y;rw[je,et]
    .have b2:=rF A (d:=0) an (aL _) c1
     have b7:l.toNat<=I R.l:=by
      grind [inb]
     obtain⟨m',z1,z2,z3⟩:=A.rowUpd (R2:=⟨R.τ,R.l.drop l.toNat,R.ver+1,R.sv,O⟩) hR U 0 [] (eO _) (al _) (λ h=>by have:R.ver+1=R.ver:=h;omega) (σ':=σ) rfl
      (λ hs=>by cases hs) λ cd a7 aE b6 bl=>⟨λ b8=>(by cases b8),λ _ h=>h⟩
     rcases fL P with⟨cf,eg⟩|⟨es,n,cf,dr⟩<;>rw[cf]at P a0
     .have ez:l.toNat=0:=by rw[eg]at b7;simpa using b7
      refine⟨_,Z _,.v (.slice U 0 0),U,m',h,?_,z1,z2,z3 _ ⟨?_,a0⟩,λ h=>by cases h⟩
      .simp_all [aC,iK]
      .grind
     .have d5:fR es=I R.l:=en dr;have ex:1<=n:=by have:2<=n+1:=a0;omega
      refine⟨_,Z _,.sl R.τ.size (Ht es l.toNat (I R.l)) (lvS (n+1) (bN (I R.l) (I R.l))),U,m',h,?_,z1,z2,z3 _ ⟨?_,?_⟩,λ h=>by cases h⟩
      .simp_all [aC,bN,iK,pos]
      .have c9:lvS (n+1) (bN (I R.l) (I R.l))=2:=by
         grind [lvS,bN]
       rw[c9];show fU _ _ (.sl _ _ 2)=_;simp only[fU,bN,kQ];have:=wW l.toNat (zd (I R.l) dr);rw[cV]at this;exact this
      .show 2<=lvS _ _;grind [lvS,bN]
 |fieldAddr t x i=>
   simp only[eT]at h;split at h<;>try cases h
   rename_i G;split at h<;>try cases h
   rename_i off size g hf;split at h<;>try cases h
   have B:=A.ev x;split at h<;>try cases h
   .rename_i b o F;rw[F]at B;exact .same A h (by simp only[aC,D,G,hf,B.2]) ⟨B.1,rfl⟩
   .rename_i cs o F;rw[F]at B;obtain⟨ds,B,hg⟩:=B;exact .same A h (by simp only[aC,D,G,hf,B]) ⟨ds,rfl,hg⟩
   .rename_i id ab sv j cs o F;rw[F]at B;obtain⟨R,k1,k2,k3,P,k4⟩:=B;rcases P with⟨r',q,ep,P⟩|⟨ds,P⟩
    .refine .same A h (y:=.rpt r' q (o+off) ep) (by simp only[aC,D,G,hf,P]) ⟨R,k1,k2,k3,.inl ⟨_,_,_,rfl⟩,λ e1=>?_⟩;simp_all
    .refine .same A h (y:=.ept ds (o+off)) (by simp only[aC,D,G,hf,P]) ⟨R,k1,k2,k3,.inr ⟨_,rfl⟩,λ e1=>?_⟩;grind
 |field t x i=>
   simp only[eT]at h;have B:=A.ev x;split at h<;>try cases h
   rename_i cs G F;split at h<;>try cases h
   rename_i off size g hf;split at h<;>try cases h
   rename_i y P;rw[F]at B;obtain⟨ds,B,hg⟩:=B;obtain⟨z,H,L⟩:=uV hg P;exact .same A h (by simp only[aC,D,G,B,hf,H]) L
 |indexAddr t x i=>
   simp only[eT]at h;have B:=A.ev x;have hi:=A.ev i;split at h<;>try cases h
   .rename_i _ _ _ _ _ k _ _ ik j G hj;rw[hj]at hi;have hi:aev tm i=.v (.int ik j):=hi;split at h<;>try cases h
    .rename_i a l lv F;rw[F]at B;split at h<;>try cases h
     rename_i hk;have hk:=bH hk;obtain⟨v,M,h⟩:=oR h;obtain⟨j0,M⟩:=zG M;obtain⟨a5,_⟩:=B;rcases fL a5 with⟨S,rfl⟩|⟨es,n,S,T⟩
     .simp at M
     .obtain⟨e,H,L⟩:=xd T M;refine .same A h (y:=.ept e 0) ?_ ⟨e,rfl,lV L⟩;simp_all [Hv,aC,bN]
    .rename_i id ab F;rw[F]at B;split at h<;>try cases h
     rename_i R hR;split at h<;>try cases h
     rename_i M;rw[aK]at M;have a9:=cg M.1;have hk:=bH M.2;obtain⟨v,M,h⟩:=oR h;obtain⟨j0,M⟩:=zG M;obtain⟨R',H,L,g3,g4⟩:=B;rw[A.rw,hR]at H;cases H;have g4:=g4 a9;rcases rU A.rows (by rw[A.rw];exact hR) g4 with⟨rr,Q,bb,P,q1,q2,q3,q4,q5,_⟩|⟨b4,_,hq,_⟩
     .obtain⟨e,z1,z2⟩:=xd q5 M;have hl:=en q5;have e5:j.toNat<I Q.c:=getElem?_lt z1;refine .same A h (y:=.rpt rr (0+j.toNat) 0 Q.ver) ?_ ?_
      .simp_all [MP,aC]
      .refine⟨R,by rw[A.rw];exact hR,by omega,al _,.inl ⟨_,_,_,rfl⟩,λ _=>.inl ⟨rr,j.toNat,bb,by rw[cI,q3],by omega,by omega,λ _=>⟨e,by rw[<-q2];exact z1,lV z2⟩⟩⟩
     .rcases fL hq with⟨_,hl⟩|⟨es,n,S,T⟩
      .rw[hl]at M;simp at M
      .obtain⟨e,H,eu⟩:=xd T M;refine .same A h (y:=.ept e 0) ?_ ⟨R,by rw[A.rw];exact hR,by omega,al _,.inr ⟨_,rfl⟩,λ _=>.inr ⟨b4,Zz (aL _) (getElem?_lt M),λ _=>⟨e,rfl,lV eu⟩⟩⟩;simp_all [Hv,aC,bN]
   .rename_i n _ ik j G hj;rw[hj]at hi;have hi:aev tm i=.v (.int ik j):=hi;split at h<;>try cases h
    rename_i b F;rw[F]at B;obtain⟨hb,B⟩:=B;obtain⟨W,h⟩:=jZ h;have W:=bH W;refine .same A h (y:=.ptr (m.b b) (0+j.toNat*1)) (by simp only[aC,D,G,hi,B,cO W]) ⟨hb,W.1,by rw[cI,Nat.mul_one]⟩
 |index t x i=>
   simp only[eT]at h;have B:=A.ev x;have hi:=A.ev i;split at h<;>try cases h
   rename_i y ik j G F hj;rw[F]at B;rw[hj]at hi;obtain⟨v,M,h⟩:=oR h;obtain⟨j0,M⟩:=zG M;refine .same A h (y:=.v (.int .u8 v.toNat)) ?_ rfl
   have:Hq ⟨y.toArray⟩ j=Z (v.toNat:Int):=by
    grind [Hq]
   simp only[aC,D,G,show aev tm x=_ from B,show aev tm i=_ from hi,this]
 |extract x i=>
   simp only[eT]at h;have B:=A.ev x;split at h<;>try cases h
   rename_i vs F;rw[F]at B;obtain⟨ds,B,hg⟩:=B;split at h<;>try cases h
   rename_i y P;obtain⟨z,H,L⟩:=hg.get P;exact .same A h (by simp only[aC,B,H]) L
 |makeMap t q=>
   cases q with
   |some q=>simp[eT]at h
   |none=>
     simp only[eT]at h;split at h<;>try cases h
     rename_i κ a hm;obtain⟨_,_,_,_,vz,G,_⟩:=Fa hm;obtain⟨m',S,T,X⟩:=A.alloc (cs:=[.mc κ a []]) (ds:=[.mc (kcT κ) κ.agg a.agg [] []]) ⟨_,_,rfl,MN,rfl⟩;exact .to h (by simp only[aC,D,G]) S T (x:=.mp (I τ.bx)) (y:=.mp (I σ.bx)) ⟨X.1,by have e:=X.2;simp only[AV.ptr.injEq]at e;rw[e.1]⟩
 |lookup t mm k q=>
   simp only[eT]at h;split at h<;>try cases h
   rename_i κ a hm;split at h<;>try cases h
   rename_i b l z kv ed hz hk;obtain⟨_,_,_,_,vz,G,bn⟩:=Fa hm;obtain⟨e4,ks,vs,da,ef⟩:=J6 A (A.ev mm) ed;obtain⟨e1,e2⟩:=Wy bn A.rows (by rw[A.rw];exact hk) (A.ev k);obtain⟨z1,z2⟩:=qlT G hz
   have d0:∃y,yb (kcT κ) a.agg vz ks vs (cellsOf (aev tm k))=Z (y,lE (veq κ) l kv)/\OK m (oL a (cX (veq κ) z l kv)) y:=by
    rw[e2];rcases VJ bn ef kv 0 with⟨f1,f2⟩|⟨j,v,p,f1,f2,f3,f4⟩
    .exact⟨fy a.agg (vz.map .v),by simp only[yb,f1,lE,f2,xZ],by simp only[cX,f2,xZ];exact VY z2⟩
    .rw[cI]at f1;exact⟨fy a.agg v,by simp only[yb,f1,f2,lE,f4,xZ],by simp only[cX,f4,xZ];exact VY f3⟩
   obtain⟨y,y1,y2⟩:=d0
   have hc:(vm (kcT κ) κ.agg (aev tm k)&&(vz.all bQ&&J (I vz=a.size)&&(a.agg||J (a.size=1))))=O:=by
    rw[e1,z1.1,z1.2];simp only[kQ,ei];cases ca:a.agg with
    |true=>rfl
    |false=>rw[Vb ca];rfl
   cases q with
   |true=>exact .same A h (by simp only[aC,D,G,da,hc,y1]) ⟨_,rfl,⟨_,_,rfl,y2,_,_,rfl,rfl,rfl⟩⟩
   |false=>exact .same A h (by simp only[aC,D,G,da,hc,y1]) y2
 |mapUpdate t mm k y=>
   have hs:aC C tm σ (.mapUpdate t mm k y)=ma C tm σ t mm k y:=rfl;rw[hs];exact R4 D A (show xP c E τ t mm k y K=Z r from h)
 |insert t mm k y=>
   have hs:aC C tm σ (.insert t mm k y)=ma C tm σ t mm k y:=rfl;rw[hs];exact R4 D A (show xP c E τ t mm k y K=Z r from h)
 |_=>simp only[eT]at h;cases h
end
end
end Go.AmZ
