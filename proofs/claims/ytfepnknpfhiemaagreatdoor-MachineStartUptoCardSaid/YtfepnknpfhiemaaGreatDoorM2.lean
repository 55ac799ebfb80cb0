/- Part 2 of what the proofs stand on: plain functions of the program, and that they are its functions. -/
import Derived.Test.YtfepnknpfhiemaaGreatDoorM1
set_option linter.unusedVariables false
set_option linter.unusedSimpArgs false
set_option linter.defProp false
noncomputable section
open Option renaming some->Z,none->U
open Bool renaming true->O,false->Y
open Decidable renaming decide->J
open List renaming length->X
open Array renaming toList->V
open Go renaming Value->aj,World->aA,TypeId->aQ,Program->aZ,Operand->bw,FuncId->cI,BinOp->mJ
namespace Go.AmZ
open GxZ
section
open RowKit
theorem Xl(ops:aa Oper):∀l:aa Oper,I4 ops l<=X l
 |[]=>ak _
 |o::r=>by
   unfold I4;split
   .exact aG _
   .simpa using Xl ops r
theorem AZ(lo:Nat->Bool)(l:aa Oper):ia lo l<=X l:=Xl l l
theorem LZ(o:Oper):(ey o).dst=o.dst:=by unfold ey;split<;>rfl
theorem qk1(o:Oper):(ey o).guard=o.guard:=by unfold ey;split<;>rfl
theorem LD(o:Oper):cY (ey o)=cY o:=by unfold ey;split<;>rfl
theorem Hp{lo:Nat->Bool}{l:aa Oper}:X (bk lo l)=ia lo l:=by simp[bk,jR (AZ lo l)]
theorem AI{lo:Nat->Bool}{l:aa Oper}{j:Nat}(a:j<ia lo l:=by omega):(bk lo l)[j]?=l[j]?.map ey:=by
 grind [bk]
theorem MP{lo:Nat->Bool}{l:aa Oper}{j:Nat}{o:Oper}(h:(bk lo l)[j]?=Z o):j<ia lo l/\∃q,l[j]?=Z q/\ey q=o:=by
 have a:j<ia lo l:=by rw[<-Hp (lo:=lo) (l:=l)];exact getElem?_lt h
 rw[AI a]at h;grind
theorem Hn{lo:Nat->Bool}{ops:aL Oper}{tm:aa AV}{o:Oper}{b:Bool}(h:cT ⟨bk lo (V ops)⟩ tm (ey o)=Z b):cT ops tm o=Z b:=by
 unfold cT at h |-
 rw[qk1]at h;cases d:o.guard with
 |none=>rw[d]at h;exact h
 |some p=>
   let⟨j,a⟩:=p;rw[d]at h;simp only at h |-
   cases c:(bk lo (V ops))[j]? with
   |none=>
     grind
   |some q=>
     let⟨k,e,g,f⟩:=MP c;have e1:(⟨bk lo (V ops)⟩:aL Oper)[j]?=Z q:=by simpa using c
     have i:ops[j]?=Z e:=by simpa using g
     rw[e1]at h;rw[i];subst f;simp only[Option.bind_some,LZ]at h |-
     exact h
section
variable {P:aZ}{C:Cfg}{Γ:Gh}{I:St}{w:aA}{ops:aL Oper}{ex:dL}{l:aa (AV×ab St)}{s0:S}
theorem UG{a:aL Bool}(h:a.toList.countP (λ b => !b)=0):∀i,i<a.size->a.getD i Y=O:=by
 intro i c;rw[List.countP_eq_zero]at h;have:=h a[i] (by simp);simp only[eD,Bool.not_eq_false]at this;rw[kM,gz c];simpa using this
theorem Yy(hC:cZ P C)(hx:lU P ex){G:(Nat->Bool)->S}{iV:(Nat->Bool)->Prop}(z:∀L j,iV L->iV (λ i=>J (i=j)||L i))(H:∀(j:Nat) (o:Oper),ops[j]?=Z o->∀e∈cY o,e<j)(I:∀L,(∀i,i<ops.size->L i=O)->G L=G aP)
  (t:∀(L:Nat->Bool) (j:Nat) (o:Oper),gp ops L->iV L->ops[j]?=Z o->L j=Y->(∀e∈cY o,L e=O)->∃y,mZ C ex ops o (G L) y/\G (λ i=>J (i=j)||L i)=bX (G L) o y) {Q:Exit->Act->aA->Prop}:∀(d:Nat) (c:aL Bool) (Γ:Gh) (w:aA) (a:Act),c.size=ops.size->c.toList.countP (λ b => !b)=d->gp ops (λ i=>c.getD i Y)->iV (λ i=>c.getD i Y)->
  Inv Γ (G (λ i=>c.getD i Y)).I w->ck Γ (G (λ i=>c.getD i Y)).tm a->
  (∀Γ' w' a',Ext Γ w Γ' w'->Inv Γ' (G aP).I w'->ck Γ' (G aP).tm a'->bN (G (λ i=>c.getD i Y)).I (G aP).I->a'.defers=a.defers->Q .normal a' w')->
  wpAny P .any ops Q d c a w:=by
 intro d
 induction d with
 |zero=>
   intro c Γ w a g p N l D s hq;have r:=UG p
   have n:Region.ready .any ops c=[]:=by
    apply List.eq_nil_iff_forall_not_mem.2;intro j hj;let⟨h1,o,v,_⟩:=mem_ready.1 hj;grind
   have hF:G (λ i=>c.getD i Y)=G aP:=I _ λ i D=>r i (by rw[g];exact D);rw[hF]at D s;exact⟨n,hq Γ w a (.refl _ _) D s (by rw[hF];exact .refl _) rfl⟩
 |succ d ih=>
   intro c Γ w a g p N l D s hq;refine⟨λ n=>?_,λ j hj=>?_⟩
   .exfalso
    have aE:∃i,i<c.size/\c.getD i Y=Y:=by
     apply yO;intro ar
     have:c.toList.countP (λ b => !b)=0:=by
      rw[List.countP_eq_zero];intro b hb;obtain⟨i,f,rfl⟩:=List.getElem_of_mem hb;intro a3;refine ar ⟨i,by simpa using f,?_⟩;rw[kM,gz (by simpa using f)];simpa using a3
     rw[p]at this;cases this
    let⟨i0,h0,h1⟩:=aE
    have T:∀i,i<c.size->c.getD i Y=Y->False:=by
     intro i
     induction i using Nat.strongRecOn with
     |_ i W=>
       intro f hf;let⟨o,v⟩:=gD (ops:=ops) (k:=i) (by rw[<-g];exact f)
       have hr:i∈Region.ready .any ops c:=by
        refine mem_ready.2 ⟨?_,o,v,λ e K hb=>?_⟩
        .rw[kM,gz f]at hf |-
         simpa using hf
        .have a0:e.on∈cY o:=bF.2 ⟨e,kJ.2 ⟨by simpa using K,hb⟩,rfl⟩;have ax:=H i o v e.on a0;cases hc:c.getD e.on Y with
         |true=>rfl
         |false=>exact(W e.on ax (by omega) hc).elim
       rw[n]at hr;cases hr
    exact T i0 h0 h1
   .let⟨h1,o,v,r⟩:=mem_ready.1 hj;have A:j<ops.size:=(eC.1 v).1
    have hL:c.getD j Y=Y:=by
     grind
    have hp:∀e∈cY o,c.getD e Y=O:=λ e K=>by
     obtain⟨ed,a5,rfl⟩:=bF.1 K;grind
    let⟨y,hy,a4⟩:=t _ j o N l v hL hp
    have m:(λ i=>(c.setIfInBounds j O).getD i Y)=λ i=>J (i=j)||c.getD i Y:=by
     funext i;by_cases B:i=j
     .subst B;rw[kM,qsh (by rw[g];exact A)];simp
     .rw[getD_set_ne Y (mC B)];simp[B]
    have F:(c.setIfInBounds j O).size=ops.size:=by rw[qbT,g]
    have M:(c.setIfInBounds j O).toList.countP (λ b => !b)=d:=by
     have az:j<X (V c):=by simp[g,A]
     rw[Jy,List.countP_set (h:=az),p]
     have:c.toList[j]=Y:=by
      rw[kM,gz (by rw[g];exact A)]at hL;simpa using hL
     rw[this];simp
    have a1:gp ops (λ i=>(c.setIfInBounds j O).getD i Y):=by
     rw[m];intro i q ad f e K;simp only[gO,cH]at f |-
     obtain rfl|f:=f
     .grind
     .exact .inr (N i q ad f e K)
    unfold wpOp;rw[v];simp only
    have next:∀Γ' w' u,Ext Γ w Γ' w'->Inv Γ' (turn (G (λ i=>c.getD i Y)).I y.2) w'->Rep Γ' y.1 u->bN (G (λ i=>c.getD i Y)).I (turn (G (λ i=>c.getD i Y)).I y.2)->
      wpAny P .any ops Q d (c.setIfInBounds j O) (a.put o.dst u) w':=by
     intro Γ' w' u e1 e2 e3 e4;have E:G (λ i=>(c.setIfInBounds j O).getD i Y)=bX (G (λ i=>c.getD i Y)) o y:=by rw[m];exact a4
     refine ih (c.setIfInBounds j O) Γ' w' (a.put o.dst u) F M a1 (by rw[m];exact z _ j l) ?_ ?_ ?_
     .rw[E];exact e2
     .rw[E];exact ck.put (JI e1.le s) o.dst e3
     .intro R w2 a2 g1 g2 g3 g4 g5;rw[E]at g4;exact hq R w2 a2 (e1.trans g1) g2 g3 (e4.trans g4) (by rw[g5];cases N:o.dst<;>rfl)
    obtain⟨hw,an⟩|⟨hw,rfl⟩:=hy
    .rw[af (uO s hw)];left;apply Ow hC hx D s an _ _;grind
    .rw[ae (by rw[uO s hw];exact lD)];exact next Γ w undef (.refl _ _) D (.tup [] [] rfl λ i x u h=>by simp at h) (.refl _)
theorem YR(p:cZ P C)(n:lU P ex){iV:(Nat->Bool)->Prop}(g:∀L j,iV L->iV (λ i=>J (i=j)||L i))(k:∀(j:Nat) (o:Oper),ops[j]?=Z o->∀e∈cY o,e<j)
  (f:∀(L:Nat->Bool) (j:Nat) (o:Oper),gp ops L->iV L->ops[j]?=Z o->L j=Y->(∀e∈cY o,L e=O)->∃y,mZ C ex ops o (F (V ops) l s0 L ops.size) y/\F (V ops) l s0 (λ i=>J (i=j)||L i) ops.size=bX (F (V ops) l s0 L ops.size) o y) {Q:Exit->Act->aA->Prop}:∀(d:Nat) (c:aL Bool) (Γ:Gh) (w:aA) (a:Act),c.size=ops.size->c.toList.countP (λ b => !b)=d->gp ops (λ i=>c.getD i Y)->iV (λ i=>c.getD i Y)->
  Inv Γ (F (V ops) l s0 (λ i=>c.getD i Y) ops.size).I w->ck Γ (F (V ops) l s0 (λ i=>c.getD i Y) ops.size).tm a->
  (∀Γ' w' m,Ext Γ w Γ' w'->Inv Γ' (F (V ops) l s0 aP ops.size).I w'->ck Γ' (F (V ops) l s0 aP ops.size).tm m->bN (F (V ops) l s0 (λ i=>c.getD i Y) ops.size).I (F (V ops) l s0 aP ops.size).I->m.defers=a.defers->Q .normal m w')->
  wpAny P .any ops Q d c a w:=
 Yy (G:=λ L=>F (V ops) l s0 L ops.size) p n g k (λ _ h=>vg _ h) f
theorem Vp{lo:Nat->Bool}(h:rz lo (V ops)=O):
  (∀(j:Nat) (o:Oper),ops[j]?=Z o->∀e∈cY o,e<j)/\
  (∀(j:Nat) (o:Oper),ops[j]?=Z o->ia lo (V ops)<=j->∀i,i<j->((fH (V ops) []).getD j 0).testBit i=O\/(i<ia lo (V ops)/\∃q,ops[i]?=Z q/\(pS (V ops) q=O\/yh (V ops) q=O/\A8 (V ops) o=O)))/\
  ∀(j:Nat) (o:Oper),ops[j]?=Z o->bQ o=O->o.guard=U/\∃d,o.dst=Z d/\∀(k:Nat) (q:Oper),ops[k]?=Z q->k≠j->q.dst≠Z d:=by
 have a:∀(i:Nat) (o:Oper),ops[i]?=Z o->(o,i)∈ops.toList.zipIdx:=λ i o c=>by
  grind
 simp only[rz,bz,aJ,gO,cH,eD]at h;refine⟨λ j o c=>(h _ (a j o c)).1,λ j o c y i s=>?_,λ j o c t=>?_⟩
 .obtain b|b:=(h _ (a j o c)).2.1
  .rw[QC]at b;omega
  .obtain b|⟨l,f⟩:=b i (jS.2 s)
   .exact .inl b
   .rw[QC]at l;grind
 .obtain b|⟨l,f⟩:=(h _ (a j o c)).2.2
  .rw[t]at b;cases b
  .refine⟨Option.isNone_iff_eq_none.1 l,?_⟩;simp only at f;split at f
   .next d m=>refine⟨d,m,λ k q n p g=>?_⟩;have r:=cm f;let⟨x,w⟩:=qsi.1 r;have v:(o,j)∈oI (V ops) d:=kJ.2 ⟨a j o c,by simp[rH,m]⟩;have u:(q,k)∈oI (V ops) d:=kJ.2 ⟨a k q n,by simp[rH,g]⟩;grind
   .cases f
theorem qW{o:Oper}(a:bQ o=O):∃e,o.op=.alloc e:=by
 grind [bQ]
structure ol (P:aZ) (Γ:Gh) (w0 w:aA) (ops:Array Oper) (L:Nat->Prop) (a:Act) (ad:Nat->Nat):Prop where
 blk:∀k o e d,L k->ops[k]?=Z o->o.op=.alloc e->cz P e=Z d->d.zero.all cj=O->
  w0.heap.size<=ad k/\w.heap[ad k]?=Z (.cells d.zero.toArray e (0,0))/\¬ gY Γ (ad k)/\∀i,Γ.mem (ad k) i=U
 tmp:∀k o e d u,L k->ops[k]?=Z o->o.op=.alloc e->o.dst=Z d->a.tmps[d]?=Z u->u=.pointer (Z ⟨ad k,0,U⟩)
 inj:∀k k' o o',L k->L k'->ops[k]?=Z o->ops[k']?=Z o'->bQ o=O->bQ o'=O->ad k=ad k'->k=k'
theorem qmt{a:Act}{d:ab Tmp}{u:aj}{t:Tmp}(h:d≠Z t):(a.put d u).tmps[t]?=a.tmps[t]?:=by
 cases d with
 |none=>rfl
 |some d=>
   show(a.tmps.setIfInBounds d u)[t]?=_;grind
theorem ol.step{L:Nat->Prop}{w0 w':aA}{Γ':Gh}{a:Act}{ad:Nat->Nat}{d:ab Tmp}{u:aj}(h:ol P Γ w0 w ops L a ad)(p:Ext Γ w Γ' w')
  (s:∀k o t,L k->ops[k]?=Z o->bQ o=O->o.dst=Z t->d≠Z t):ol P Γ' w0 w' ops L (a.put d u) ad where
 blk:=λ k o e d m l j g f=>by
  let⟨y,r,q,x⟩:=h.blk k o e d m l j g f;have n:ad k<w.heap.size:=(eC.1 r).1;refine⟨y,by rw[p.block _ n q];exact r,λ c=>?_,λ i=>?_⟩
  .obtain c|c:=p.own _ c
   .exact q c
   .omega
  .cases b:Γ'.mem (ad k) i with
   |none=>rfl
   |some v=>
     obtain b|b|b:=p.memg _ _ _ b
     .rw[x]at b;cases b
     .exact absurd b q
     .omega
 tmp:=λ k o e t v m l j g f=>by
  rw[qmt (s k o t m l (by simp[bQ,j]) g)]at f;exact h.tmp k o e t v m l j g f
 inj:=h.inj
theorem qnL{o:Oper}{ρ:bw->aj}{e:aQ}{d:TD}(a:o.op=.alloc e)(b:cz P e=Z d)(w:aA):(execOp ρ o).run P w=.ok (.value (.pointer (Z ⟨w.heap.size,0,U⟩))) (w.alloc (.cells d.zero.toArray e)):=by
 let⟨i,u,z,g,m,f,l,k,j,c,h⟩:=en b;rw[<-c];simp[execOp,a,Instr.alloc,zeroValue,typeInfo,g,f,newVar,zP]
theorem Inv.free(a:Inv Γ I w){b:Nat}(f:w.heap.size<=b):¬ gY Γ b/\∀i,Γ.mem b i=U:=by
 refine⟨?_,λ i=>?_⟩
 .rintro(⟨i,c,d⟩|⟨r,c,d,g⟩)
  .have:=a.box_lt c;omega
  .have:=a.cur_lt c d;omega
 .cases e:Γ.mem b i with
  |none=>rfl
  |some u=>have:=a.mem_lt e;omega
theorem qrz(hC:cZ P C)(hx:lU P ex)(hT:mW C ex ⟨bk C.lo (V ops)⟩ l s0)(hk:lc C.lo s0.tm ⟨bk C.lo (V ops)⟩=O)(aE:rz C.lo (V ops)=O)
  (hz:∀k o e,k<ia C.lo (V ops)->ops[k]?=Z o->o.op=.alloc e->∃d,cz P e=Z d/\d.zero.all cj=O) {w0:aA}{Q:Exit->Act->aA->Prop}{n:Nat} (hn:n=ia C.lo (V ops)):
  ∀(g:Nat) (c:aL Bool) (Γ:Gh) (w:aA) (a:Act) (ad:Nat->Nat),c.size=ops.size->c.toList.countP (λ b => !b)=g->(∀i,n<=i->c.getD i Y=Y)->gp ops (λ i=>c.getD i Y)->
  Inv Γ (F (bk C.lo (V ops)) l s0 (λ i=>c.getD i Y) n).I w->ck Γ (F (bk C.lo (V ops)) l s0 (λ i=>c.getD i Y) n).tm a->ol P Γ w0 w ops (λ i=>c.getD i Y=O) a ad->w0.heap.size<=w.heap.size->
  (∀s f Γ' w' a' N,f.size=ops.size->f.toList.countP (λ b => !b)=s->(∀i,n<=i->f.getD i Y=Y)->(∀(i:Nat) (o:Oper),i<n->ops[i]?=Z o->iR (V ops) o=Y->f.getD i Y=O)->gp ops (λ i=>f.getD i Y)->Ext Γ w Γ' w'->Inv Γ' (F (bk C.lo (V ops)) l s0 (λ i=>f.getD i Y) n).I w'->ck Γ' (F (bk C.lo (V ops)) l s0 (λ i=>f.getD i Y) n).tm a'->ol P Γ' w0 w' ops (λ i=>f.getD i Y=O) a' N->
   bN (F (bk C.lo (V ops)) l s0 (λ i=>c.getD i Y) n).I (F (bk C.lo (V ops)) l s0 (λ i=>f.getD i Y) n).I->a'.defers=a.defers->wpAny P .any ops Q s f a' w')->
  wpAny P .any ops Q g c a w:=by
 let⟨c0,c1,bn⟩:=Vp aE
 have a9:∀(j:Nat) (o:Oper),j<n->ops[j]?=Z o->(⟨bk C.lo (V ops)⟩:aL Oper)[j]?=Z (ey o):=λ j o hj D=>by
  have:(bk C.lo (V ops))[j]?=Z (ey o):=by
   rw[AI];grind
  simpa using this
 have a7:(⟨bk C.lo (V ops)⟩:aL Oper).size=n:=by show(bk C.lo (V ops)).length=n;rw[Hp,hn]
 have dr:n<=ops.size:=by rw[hn];simpa using AZ C.lo (V ops)
 intro g
 induction g with
 |zero=>
   intro c Γ w a ad B M S hd hi ht hs ar hq;have E:=UG M;exact hq 0 c Γ w a ad B M S (λ i o m _ _=>E i (by omega)) hd (.refl _ _) hi ht hs (.refl _) rfl
 |succ g ih=>
   intro c Γ w a ad B M S hd hi ht hs ar hq;by_cases E:∀(i:Nat) (o:Oper),i<n->ops[i]?=Z o->iR (V ops) o=Y->c.getD i Y=O
   .exact hq (g+1) c Γ w a ad B M S E hd (.refl _ _) hi ht hs (.refl _) rfl
   have c8:gp ⟨bk C.lo (V ops)⟩ (λ i=>c.getD i Y):=by
    intro i o D hL e R;obtain⟨m,q,h1,rfl⟩:=MP (lo:=C.lo) (l:=V ops) (j:=i) (o:=o) (by simpa using D);rw[LD]at R;exact hd i q (by simpa using h1) hL e R
   have b2:∃(i0:Nat) (o0:Oper),i0<n/\ops[i0]?=Z o0/\iR (V ops) o0=Y/\c.getD i0 Y=Y:=by
    apply yO;intro bb;refine E λ i o m ct bx=>?_;cases hc:c.getD i Y with
    |true=>rfl
    |false=>exact(bb ⟨i,o,m,ct,bx,hc⟩).elim
   refine⟨λ bl=>?_,λ j hj=>?_⟩
   .exfalso;let⟨i0,o0,W,_,_,h1⟩:=b2
    have b8:∀i,i<n->c.getD i Y=Y->False:=by
     intro i
     induction i using Nat.strongRecOn with
     |_ i b9=>
       intro m hf;let⟨o,D⟩:=gD (ops:=ops) (k:=i)
       have hr:i∈Region.ready .any ops c:=by
        refine mem_ready.2 ⟨?_,o,D,λ e R hb=>?_⟩
        .rw[kM,gz (by omega)]at hf |-
         simpa using hf
        .have c6:e.on∈cY o:=bF.2 ⟨e,kJ.2 ⟨by simpa using R,hb⟩,rfl⟩;have bm:=c0 i o D e.on c6;cases hc:c.getD e.on Y with
         |true=>rfl
         |false=>exact(b9 e.on bm (by omega) hc).elim
       rw[bl]at hr;cases hr
    exact b8 i0 W h1
   .let⟨h1,o,D,b5⟩:=mem_ready.1 hj;have a1:j<ops.size:=(eC.1 D).1
    have hL:c.getD j Y=Y:=by
     grind
    have hp:∀e∈cY o,c.getD e Y=O:=λ e R=>by
     obtain⟨ed,d2,rfl⟩:=bF.1 R;grind
    have c2:j<n:=by
     apply yO;intro bb;let⟨i0,o0,W,cs,c5,h2⟩:=b2;obtain hb|⟨_,q,A,bx⟩:=c1 j o D (by omega) i0 (by omega)
     .have:=oR hd j o D hp hb;rw[h2]at this;cases this
     .rw[cs]at A;cases A;unfold iR at c5;grind
    have co:∀e∈cY (ey o),c.getD e Y=O:=by rw[LD];exact hp
    let⟨y,hy,b3⟩:=Hv hT hk c8 (a9 j o c2 D) hL co;rw[a7]at hy b3
    have L:(λ i=>(c.setIfInBounds j O).getD i Y)=λ i=>J (i=j)||c.getD i Y:=by
     funext i;by_cases a3:i=j
     .subst a3;rw[kM,qsh (by rw[B];exact a1)];simp
     .rw[getD_set_ne Y (mC a3)];simp[a3]
    have a8:(c.setIfInBounds j O).size=ops.size:=by rw[qbT,B]
    have b1:(c.setIfInBounds j O).toList.countP (λ b => !b)=g:=by
     have c3:j<X (V c):=by simp[B,a1]
     rw[Jy,List.countP_set (h:=c3),M]
     have:c.toList[j]=Y:=by
      rw[kM,gz (by rw[B];exact a1)]at hL;simpa using hL
     rw[this];simp
    have bp:∀i,n<=i->(c.setIfInBounds j O).getD i Y=Y:=λ i m=>by
     rw[getD_set_ne Y (by omega)];exact S i m
    have c9:gp ops (λ i=>(c.setIfInBounds j O).getD i Y):=by
     rw[L];intro i q A m e R;simp only[gO,cH]at m |-
     obtain rfl|m:=m
     .grind
     .exact .inr (hd i q A m e R)
    have dJ:∀k,(c.setIfInBounds j O).getD k Y=O->k=j\/c.getD k Y=O:=λ k a0=>by
     have:(λ i=>(c.setIfInBounds j O).getD i Y) k=O:=a0;rw[L]at this;simpa using this
    have a4:F (bk C.lo (V ops)) l s0 (λ i=>(c.setIfInBounds j O).getD i Y) n=bX (F (bk C.lo (V ops)) l s0 (λ i=>c.getD i Y) n) (ey o) y:=by rw[L];exact b3
    unfold wpOp;rw[D];simp only
    have next:∀Γ' w' u N,Ext Γ w Γ' w'->Inv Γ' (turn (F (bk C.lo (V ops)) l s0 (λ i=>c.getD i Y) n).I y.2) w'->Rep Γ' y.1 u->bN (F (bk C.lo (V ops)) l s0 (λ i=>c.getD i Y) n).I (turn (F (bk C.lo (V ops)) l s0 (λ i=>c.getD i Y) n).I y.2)->
      ol P Γ' w0 w' ops (λ i=>(c.setIfInBounds j O).getD i Y=O) (a.put o.dst u) N->wpAny P .any ops Q g (c.setIfInBounds j O) (a.put o.dst u) w':=by
     intro Γ' w' u N e1 e2 e3 e4 e5;refine ih (c.setIfInBounds j O) Γ' w' (a.put o.dst u) N a8 b1 bp c9 ?_ ?_ e5 (bL ar e1.size) ?_
     .rw[a4];exact e2
     .rw[a4];show RepL Γ' (hS _ (ey o).dst y.1) _;rw[LZ];exact ck.put (JI e1.le ht) o.dst e3
     .intro s f b6 w2 a2 dn g0 dm b4 q1 q2 K r z dk G I;rw[a4]at G;exact hq s f b6 w2 a2 dn g0 dm b4 q1 q2 (e1.trans K) r z dk (e4.trans G) (by rw[I];cases hd:o.dst<;>rfl)
    cases T:bQ o with
    |false=>
      have c7:ey o=o:=by unfold ey;rw[T]
      have a5:∀Γ' w' u,Ext Γ w Γ' w'->ol P Γ' w0 w' ops (λ i=>(c.setIfInBounds j O).getD i Y=O) (a.put o.dst u) ad:=λ Γ' w' u R=>by
       have W:=hs.step (d:=o.dst) (u:=u) R λ k q t a0 A ax cl=>by
        let⟨_,d,d4,d3⟩:=bn k q A ax;grind
       have conv:∀k q,(c.setIfInBounds j O).getD k Y=O->ops[k]?=Z q->bQ q=O->c.getD k Y=O:=λ k q h2 A ax=>by
        grind
       exact⟨λ k q e d K r z=>W.blk k q e d (conv k q K r (by simp[bQ,z])) r z,λ k q e d v K r z=>W.tmp k q e d v (conv k q K r (by simp[bQ,z])) r z,λ k k' q q' K r z G I g6=>W.inj k k' q q' (conv k q K z I) (conv k' q' r G g6) z G I g6⟩
      obtain⟨hw,H⟩|⟨hw,rfl⟩:=hy
      .rw[af (uO ht (Hn hw))];left;rw[c7]at H;apply Ow hC hx hi ht H _ _;grind
      .rw[ae (by rw[uO ht (Hn hw)];exact lD)];exact next Γ w undef ad (.refl _ _) hi (.tup [] [] rfl λ i x u h=>by simp at h) (.refl _) (a5 Γ w undef (.refl _ _))
    |true=>
      let⟨e,az⟩:=qW T;let⟨c4,d,ds,d0⟩:=bn j o D T
      have ca:y=(.dead,U):=by
       obtain⟨hw,H⟩|⟨hw,rfl⟩:=hy
       .have:(ey o).op=.move (.global 0):=by unfold ey;rw[T]
        rw[this]at H;simp only[opA,aF,aev,dQ]at H;exact H.symm
       .have hw:=Hn hw;grind [cT]
      subst ca;have cb:cT ops (F (bk C.lo (V ops)) l s0 (λ i=>c.getD i Y) n).tm o=Z O:=by unfold cT;rw[c4]
      rw[af (uO ht cb)];left;let⟨td,a6,dT⟩:=hz j o e (by omega) D az;have hb:Below w.heap.size w (w.alloc (.cells td.zero.toArray e)):=(Below.refl _ _).alloc (ak _) _;unfold Oper.wp;rw[qnL az a6];apply next Γ _ (.pointer (Z ⟨w.heap.size,0,U⟩)) (λ k=>if k=j then w.heap.size else ad k) (xa hb (ak _)) (hi.later hb) (.dead _) (.refl _)
      have W:=hs.step (d:=o.dst) (u:=.pointer (Z ⟨w.heap.size,0,U⟩)) (xa (Γ:=Γ) hb (ak _)) λ k q t a0 A ax cl=>by
       grind
      have bs:=hi.free (ak w.heap.size);have conv:∀k,(c.setIfInBounds j O).getD k Y=O->k≠j->c.getD k Y=O:=λ k h2 cP=>(dJ k h2).resolve_left cP
      have bm:∀k q,c.getD k Y=O->ops[k]?=Z q->bQ q=O->ad k<w.heap.size:=λ k q h2 h3 h4=>by
       let⟨e',b0⟩:=qW h4
       have d1:k<n:=by
        grind
       let⟨b7,cf,cd⟩:=hz k q e' (by omega) h3 b0;exact(eC.1 (hs.blk k q e' b7 h2 h3 b0 cf cd).2.1).1
      refine⟨λ k q e' d' K r z G I=>?_,λ k q e' d' v K r z G I=>?_,λ k k' q q' K r z G I g6 g7=>?_⟩
      .by_cases p:k=j
       .subst p;rw[D]at r;cases r;rw[az]at z;cases z;rw[a6]at G;cases G;simp only[yK];exact⟨ar,heap_alloc_new w _,bs.1,bs.2⟩
       .simp only[ae p];exact W.blk k q e' d' (conv k K p) r z G I
      .by_cases p:k=j
       .subst p;rw[D]at r;cases r;simp only[yK];rw[G]at I;have I:(a.tmps.setIfInBounds d' (.pointer (Z ⟨w.heap.size,0,U⟩)))[d']?=Z v:=I;grind
       .simp only[ae p];exact W.tmp k q e' d' v (conv k K p) r z G I
      .by_cases p:k=j
       .grind
       .by_cases an:k'=j
        .grind
        .simp only[ae p,ae an]at g7;exact hs.inj k k' q q' (conv k K p) (conv k' r an) z G I g6 g7
end
end
section
open RowKit
section
variable {P:aZ}{C:Cfg}{Γ:Gh}{I:St}{w:aA}{ops:aL Oper}{ex:dL}{l:aa (AV×ab St)}{s0:S}
theorem qn0(h:Inv Γ I w){cs:aa AV}{vs:aa aj}{b:Nat}{e:aQ}(E:w.heap[b]?=Z (.cells vs.toArray e (0,0)))(m:¬ gY Γ b)(x:∀i,Γ.mem b i=U)(B:RepL Γ cs vs)(F:∀u∈vs,u.oneCell'=O):
  ∃Γ',Le Γ Γ'/\(∀c,gY Γ' c->gY Γ c\/c=b)/\Γ'.mem=Γ.mem/\Inv Γ' {I with bx:=I.bx++[cs]} w/\Rep Γ' (.ptr (X I.bx) 0) (.pointer (Z ⟨b,0,U⟩)):=by
 let Γ':Gh:={Γ with nb:=Γ.nb+1,β:=λ i=>if i=Γ.nb then b else Γ.β i}
 have g:∀i,i<Γ.nb->Γ'.β i=Γ.β i:=λ i f=>ifN;have a:Γ'.β Γ.nb=b:=af rfl;have k:Le Γ Γ':=⟨λ _ _ _ h=>h,eB _,g,ak _,λ _ _=>rfl,λ _ _=>ak _,λ _ _ _=>⟨rfl,rfl,rfl⟩⟩
 refine⟨Γ',k,?_,rfl,⟨?_,h.nr,h.mem,?_,?_,?_,?_,h.apart⟩,?_⟩
 .rintro c (⟨i,f,rfl⟩|q)
  .have f:i<Γ.nb+1:=f;by_cases d:i=Γ.nb
   .right;rw[d,a]
   .left;left;exact⟨i,by omega,(g i (by omega)).symm⟩
  .exact .inl (.inr q)
 .show Γ.nb+1=X (I.bx++[cs]);simp[h.nb]
 .intro i cs' f;rw[Jv]at f;split at f
  .next s=>exact(h.box i cs' f).lift (by rw[h.nb];exact s) k λ o q=>q
  .rename_i s
   have z:i-X I.bx=0:=by
    grind
   rw[z]at f;simp at f;subst f;have y:i=Γ.nb:=by rw[h.nb];omega
   refine .of ⟨vs.toArray,e,?_,by simpa using B.mono k,by simpa using F⟩;rw[y,a];exact E
 .intro i j f D l;have v:i<Γ.nb+1:=f;have C:j<Γ.nb+1:=D;by_cases d:i=Γ.nb<;>by_cases t:j=Γ.nb
  .rw[d,t]
  .rw[d,a,g j (by omega)]at l;exact(m (.inl ⟨j,by omega,l.symm⟩)).elim
  .rw[t,a,g i (by omega)]at l;exact(m (.inl ⟨i,by omega,l⟩)).elim
  .rw[g i (by omega),g j (by omega)]at l;exact h.inj i j (by omega) (by omega) l
 .intro i f o;have v:i<Γ.nb+1:=f;by_cases d:i=Γ.nb
  .rw[d,a];exact x o
  .rw[g i (by omega)];exact h.boxmem i (by omega) o
 .intro r R p;have n:r<Γ.nr:=by rw[h.nr];exact getElem?_lt p
  refine(h.row r R p).lift n k rfl (λ _ G q=>q) (λ _ _ x=>x) λ A i f H l=>?_;have v:i<Γ.nb+1:=f;have d:i=Γ.nb:=by omega
  rw[d,a]at l;exact m (.inr ⟨r,n,A,l.symm⟩)
 .rw[<-a,h.nb];exact .ptr _ _ (by show X I.bx<Γ.nb+1;rw[h.nb];omega)
theorem LM{lo:Nat->Bool}{l:aa Oper}{o:Oper}(h:iR l o=O):cw lo o.op=Y:=by
 cases a:cw lo o.op with
 |false=>rfl
 |true=>
   exfalso
   have c:gS o.op=O\/rV o.op=O:=by
    unfold cw at a;split at a<;>first|(cases a;done)|(rename_i e;rw[e];first|exact .inl rfl|exact .inr rfl)
   unfold iR pS yh at h;simp only[gO,aJ,eD]at h;obtain⟨⟨b,d⟩,_⟩|⟨b,_⟩:=h
   .grind
   .unfold vD at b;split at b
    .next e=>rw[e]at a;cases a
    .next e=>rw[e]at a;cases a
    .cases b
theorem X5{l:aa Oper}{o:Oper}(h:iR l o=O):bQ o=Y/\∀q∈l,bQ q=O->∀d,q.dst=Z d->d ∉ looks ⟨l⟩ o:=by
 unfold iR at h;rw[gO]at h;obtain h|h:=h
 .grind [pS]
 .unfold yh at h;rw[aJ]at h
  have a:bQ o=Y:=by
   have:=h.1;unfold vD at this;grind [bQ]
  refine⟨a,λ q c g d f e=>?_⟩;have b:=h.2;unfold PT at b;grind
def idA(nb:Nat)(ops:aL Oper)(k:Nat):Nat:=nb+(ops.toList.take k).countP bQ
theorem G5{nb k:Nat}{o:Oper}(a:ops[k]?=Z o):idA nb ops (k+1)=idA nb ops k+(if bQ o then 1 else 0):=by
 grind [idA,Array.getElem?_eq_some_iff,List.take_add_one,List.countP_singleton]
def Oh(ops:aL Oper)(P:Nat->Prop)(nb:Nat)(tm tm':aa AV):Prop:=
 X tm'=X tm/\∀t,(∀(k:Nat) (o:Oper),P k->ops[k]?=Z o->bQ o=O->o.dst=Z t->tm'.getD t .dead=if t<X tm then .ptr (idA nb ops k) 0 else .dead)/\
  ((∀(k:Nat) (o:Oper),P k->ops[k]?=Z o->bQ o=O->o.dst≠Z t)->tm'.getD t .dead=tm.getD t .dead)
theorem xS(tm:aa AV)(d t:Nat)(x:AV):(tm.set d x).getD t .dead=if d=t then(if t<X tm then x else .dead)else tm.getD t .dead:=by
 grind
theorem LI{n nb:Nat}(f:∀(j:Nat) (o:Oper),ops[j]?=Z o->bQ o=O->o.guard=U/\∃d,o.dst=Z d/\∀(k:Nat) (q:Oper),ops[k]?=Z q->k≠j->q.dst≠Z d):∀(a:aa Oper) (i:Nat) (s g:S),(∀(j:Nat) (o:Oper),a[j]?=Z o->i+j<n/\ops[i+j]?=Z o)->i+X a=n->cS C ex ops Y (a.filter bQ) s=Z g->X s.I.bx=idA nb ops i->
  Oh ops (λ k=>i<=k/\k<n) nb s.tm g.tm
 |[],i,s,g,_,B,h,_=>by
   simp only[qb1,cS,dQ]at h;subst h;simp at B;exact⟨rfl,λ t=>⟨λ k o u=>by omega,λ _=>rfl⟩⟩
 |o::a,i,s,g,F,B,h,H=>by
   obtain⟨P,c⟩:=F 0 o rfl;have c:ops[i]?=Z o:=by simpa using c
   have l:∀(j:Nat) (q:Oper),a[j]?=Z q->i+1+j<n/\ops[i+1+j]?=Z q:=λ j q w=>by
    have:=F (j+1) q w;grind
   have p:i+1+X a=n:=by rw[<-B];simp;omega
   cases b:bQ o with
   |false=>
     rw[QD (by rw[b];exact lD)]at h;obtain⟨z,y⟩:=LI f a (i+1) s g l p h (by rw[G5 c,b];exact H);refine⟨z,λ t=>⟨λ k q u w I x=>(y t).1 k q ⟨?_,u.2⟩ w I x,λ m=>(y t).2 λ k q u=>m k q ⟨by omega,u.2⟩⟩⟩;grind
   |true=>
     rw[QE b]at h;obtain⟨e,A⟩:=qW b;obtain⟨D,d,v,M⟩:=f i o c b;simp only[cS]at h;have L:cT ops s.tm o=Z O:=by unfold cT;rw[D]
     rw[L]at h;simp only[A,opA,aF]at h;cases x:C.ty e with
     |none=>rw[x]at h;cases h
     |some K=>
       rw[x]at h;simp only at h;cases E:K.zero.all cj with
       |false=>rw[E]at h;cases h
       |true=>
         rw[E]at h;simp only[mE]at h;obtain⟨z,y⟩:=LI f a (i+1) _ g l p h (by show(s.I.bx++[_]).length=_;rw[G5 c,b,aM,H];rfl);rw[v]at z y;have r:X (hS s.tm (Z d) (.ptr (X s.I.bx) 0))=X s.tm:=fw ..;have G:∀t,(hS s.tm (Z d) (.ptr (X s.I.bx) 0)).getD t .dead=if d=t then(if t<X s.tm then .ptr (X s.I.bx) 0 else .dead)else s.tm.getD t .dead:=λ t=>xS s.tm d t _;refine⟨z.trans r,λ t=>⟨λ k q u w I N=>?_,λ m=>?_⟩⟩
         .grind
         .grind
theorem Mj(hC:cZ P C){n nb:Nat}{y:Gh}{w0:aA}{a:Act}{ad:Nat->Nat}:∀(f:aa Oper) (i:Nat) (s z:S) (I:St) (Γ:Gh),(∀(j:Nat) (o:Oper),f[j]?=Z o->i+j<n/\ops[i+j]?=Z o)->i+X f=n->cS C ex ops Y (f.filter bQ) s=Z z->
  (∀(j:Nat) (o:Oper),ops[j]?=Z o->bQ o=O->o.guard=U)->s.I=I->X s.I.bx=idA nb ops i->Inv Γ I w->ol P Γ w0 w ops (λ k=>i<=k/\k<n) a ad->Ext y w0 Γ w->
  ∃Γ',Le Γ Γ'/\Ext y w0 Γ' w/\Inv Γ' z.I w/\bN I z.I/\∀(k:Nat) (o:Oper),i<=k->k<n->ops[k]?=Z o->bQ o=O->Rep Γ' (.ptr (idA nb ops k) 0) (.pointer (Z ⟨ad k,0,U⟩))
 |[],i,s,z,I,Γ,_,R,h,_,m,_,K,B,p=>by
   simp only[qb1,cS,dQ]at h;subst h;simp at R;exact⟨Γ,.refl Γ,p,by rw[m];exact K,by rw[m];exact .refl _,λ k o r A=>by omega⟩
 |o::f,i,s,z,I,Γ,hr,R,h,hg,m,hb,K,B,p=>by
   obtain⟨ar,g⟩:=hr 0 o rfl;have g:ops[i]?=Z o:=by simpa using g
   have D:∀(j:Nat) (q:Oper),f[j]?=Z q->i+1+j<n/\ops[i+1+j]?=Z q:=λ j q Q=>by
    have:=hr (j+1) q Q;grind
   have G:i+1+X f=n:=by rw[<-R];simp;omega
   have t:ol P Γ w0 w ops (λ k=>i+1<=k/\k<n) a ad:=⟨λ k o e d r=>B.blk k o e d ⟨by omega,r.2⟩,λ k o e d u r=>B.tmp k o e d u ⟨by omega,r.2⟩,λ k k' o o' r A=>B.inj k k' o o' ⟨by omega,r.2⟩ ⟨by omega,A.2⟩⟩
   cases l:bQ o with
   |false=>
     rw[QD (by rw[l];exact lD)]at h;obtain⟨Γ',g0,g1,g2,g3,g4⟩:=Mj hC f (i+1) s z I Γ D G h hg m (by rw[G5 g,l];exact hb) K t p;grind
   |true=>
     rw[QE l]at h;obtain⟨e,E⟩:=qW l;simp only[cS]at h;have hw:cT ops s.tm o=Z O:=by unfold cT;rw[hg i o g l]
     rw[hw]at h;simp only[E,opA,aF]at h;cases hd:C.ty e with
     |none=>rw[hd]at h;cases h
     |some d=>
       rw[hd]at h;simp only at h;cases H:d.zero.all cj with
       |false=>rw[H]at h;cases h
       |true=>
         rw[H]at h;simp only[mE]at h;have M:=hC.ty e d hd;obtain⟨g1,g2,g3,g4⟩:=B.blk i o e d ⟨ak _,by omega⟩ g E M H;obtain⟨b1,b2⟩:=uz (Γ:=Γ) H;obtain⟨x,a1,a2,a3,a4,a5⟩:=qn0 K g2 g3 g4 b1 b2
         have an:Ext y w0 x w:=⟨p.le.trans a1,p.os,p.tape,p.output,p.size,p.block,λ c hc=>by
          rcases a2 c hc with hc|rfl
          .exact p.own c hc
          .grind,λ b o u hm=>by rw[a3]at hm;exact p.memg b o u hm,p.drawn⟩
         have N:ol P x w0 w ops (λ k=>i+1<=k/\k<n) a ad:=⟨λ k q e' d' r A h3 h4 h5=>by
          obtain⟨q1,q2,q3,q4⟩:=t.blk k q e' d' r A h3 h4 h5;refine⟨q1,q2,λ F=>?_,λ j=>by rw[a3];exact q4 j⟩;rcases a2 _ F with F|F
          .exact q3 F
          .have:=B.inj k i q o ⟨by omega,r.2⟩ ⟨ak _,by omega⟩ A g (by simp[bQ,h3]) l F;omega,t.tmp,t.inj⟩
         obtain⟨L,c0,c1,c2,c3,c4⟩:=Mj hC f (i+1) _ z {I with bx:=I.bx++[d.zero.map .v]} x D G h hg (by simp only;rw[m]) (by show(s.I.bx++[_]).length=_;rw[G5 g,l,aM,hb];rfl) a4 N an;have W:bN I {I with bx:=I.bx++[d.zero.map .v]}:=⟨by simp,ak _,λ j hj _=>by simp only[dq hj],λ _ _ _=>rfl,λ _ h=>h,λ _ h=>h⟩
         refine⟨L,a1.trans c0,c1,c2,W.trans c3,λ k q r A Q ha=>?_⟩;by_cases T:k=i
         .subst T;rw[<-hb,m];exact a5.mono c0
         .exact c4 k q (by omega) A Q ha
theorem ME{l:S}:∀(a:aa Oper) (s:S),cS C ex ops Y (a.filter bQ) s=Z l->(∀o∈a,bQ o=O->o.guard=U)->∀o∈a,∀e,o.op=.alloc e->∃d,C.ty e=Z d/\d.zero.all cj=O
 |[],_,_,_,o,b,_,_=>by cases b
 |q::a,s,h,i,o,b,e,f=>by
   cases c:bQ q with
   |false=>
     rw[QD (by rw[c];exact lD)]at h;obtain rfl|b:=bi.1 b
     .simp[bQ,f]at c
     .exact ME a s h (λ o b=>i o (aT _ b)) o b e f
   |true=>
     rw[QE c]at h;let⟨n,g⟩:=qW c;simp only[cS]at h;have m:cT ops s.tm q=Z O:=by unfold cT;rw[i q (aX ..) c]
     rw[m]at h;simp only[g,opA,aF]at h;cases k:C.ty n with
     |none=>rw[k]at h;cases h
     |some d=>
       rw[k]at h;simp only at h;cases j:d.zero.all cj with
       |false=>rw[j]at h;cases h
       |true=>
         rw[j]at h;simp only[mE]at h;obtain rfl|b:=bi.1 b
         .grind
         .exact ME a _ h (λ o b=>i o (aT _ b)) o b e f
theorem Y2{b:aa (AV×ab St)}{a:S}{L:Nat->Bool}{n:Nat}(h:∀i,n<=i->L i=Y):∀m,F (V ops) b a L (n+m)=F (V ops) b a L n
 |0=>rfl
 |m+1=>by
   show F (V ops) b a L (n+m+1)=_;simp only[F];rw[h (n+m) (by omega)];split
   .next c=>cases c
   .exact Y2 h m
def sb(ops:aL Oper)(n nb:Nat)(lA lS:aa (AV×ab St)):aa (AV×ab St):=
 (List.range n).map (λ k=>match ops[k]? with
  |Z o=>match bQ o with
    |O=>(AV.ptr (idA nb ops k) 0,U)
    |Y=>((lA.getD k (.dead,U)).1,U)
  |U=>(.dead,U))++lS
theorem HG{n nb k:Nat}{lA lS:aa (AV×ab St)}{o:Oper}(a:k<n)(b:ops[k]?=Z o):(sb ops n nb lA lS)[k]?=Z (match bQ o with
  |O=>(AV.ptr (idA nb ops k) 0,U)
  |Y=>((lA.getD k (.dead,U)).1,U)):=by
 unfold sb;rw[dq (by simpa using a),df,qb2 a];simp only[ny,b]
theorem GZ{n nb k:Nat}{lA lS:aa (AV×ab St)}:(sb ops n nb lA lS)[n+k]?=lS[k]?:=by
 grind [sb]
theorem Xq{n nb:Nat}{lA lS:aa (AV×ab St)}{s0 b:S}(g:b.tm=s0.tm)(M:n=ia C.lo (V ops))(K:vA C ⟨bk C.lo (V ops)⟩ lA)(h:∀(j:Nat) (o:Oper),ops[j]?=Z o->bQ o=O->o.guard=U/\∃d,o.dst=Z d/\∀(k:Nat) (q:Oper),ops[k]?=Z q->k≠j->q.dst≠Z d)
  (L:Nat->Bool):∀k,k<=n->Oh ops (λ i=>i<k/\L i=O) nb (F (bk C.lo (V ops)) lA s0 L k).tm (F (V ops) (sb ops n nb lA lS) b L k).tm
 |0,_=>⟨by show X b.tm=X s0.tm;rw[g],λ t=>⟨λ k o N=>by omega,λ _=>by show b.tm.getD t _=s0.tm.getD t _;rw[g]⟩⟩
 |k+1,N=>by
   obtain⟨B,A⟩:=Xq (lS:=lS) g M K h L k (by omega);have I:ia C.lo (V ops)<=ops.size:=by simpa using AZ C.lo (V ops)
   obtain⟨o,p⟩:=gD (ops:=ops) (k:=k) (by omega);have v:ops.toList[k]?=Z o:=by simpa using p
   have u:(bk C.lo (V ops))[k]?=Z (ey o):=by rw[AI (by omega),v];rfl
   obtain⟨y,H,_⟩:=K k (ey o) (by simpa using u);have P:=HG (n:=n) (nb:=nb) (lA:=lA) (lS:=lS) (k:=k) (by omega) p;simp only[F,u,H,v,P];cases G:L k with
   |false=>
     refine⟨B,λ t=>⟨λ i q e=>(A t).1 i q ⟨?_,e.2⟩,λ a=>(A t).2 λ i q e=>a i q ⟨by omega,e.2⟩⟩⟩;grind
   |true=>
     simp only[bX,LZ];cases l:bQ o with
     |true=>
       obtain⟨_,d,z,s⟩:=h k o p l;simp only[z,hS];refine⟨by rw[fw,fw,B],λ t=>⟨λ i q e m r c=>?_,λ a=>?_⟩⟩
       .rw[xS,fw];grind
       .have f:d≠t:=λ w=>a k o ⟨by omega,G⟩ p l (by rw[z,w]);rw[xS,ae f,xS,ae f];grind
     |false=>
       have D:(lA.getD k (.dead,U)).1=y.1:=by rw[dz,H];rfl
       rw[D];cases z:o.dst with
       |none=>
         refine⟨B,λ t=>⟨λ i q e m r c=>(A t).1 i q ⟨?_,e.2⟩ m r c,λ a=>(A t).2 λ i q e=>a i q ⟨by omega,e.2⟩⟩⟩;grind
       |some d=>
         simp only[hS];refine⟨by rw[fw,fw,B],λ t=>⟨λ i q e m r c=>?_,λ a=>?_⟩⟩
         .have E:i≠k:=λ w=>by subst w;rw[p]at m;cases m;rw[l]at r;cases r
          obtain⟨_,Q,x,s⟩:=h i q m r;rw[c]at x;cases x;have f:d≠t:=λ w=>s k o p (mC E) (by rw[z,w]);rw[xS,ae f,fw];grind
         .grind [xS]
theorem ri{n:Nat}{b:aa (AV×ab St)}{a:S}{L:Nat->Bool}(h:∀k y,k<n->b[k]?=Z y->y.2=U):∀k,k<=n->(F (V ops) b a L k).I=a.I
 |0,_=>rfl
 |k+1,d=>by
   simp only[F];split
   .next o y _ c _=>rw[putS_σ _ _ _ (h k y (by omega) c)];exact ri h k (by omega)
   .exact ri h k (by omega)
theorem recB_σ{n nb:Nat}{lA lS:aa (AV×ab St)}(c:n<=ops.size):∀k y,k<n->(sb ops n nb lA lS)[k]?=Z y->y.2=U:=by
 intro k y d a;let⟨o,b⟩:=gD (ops:=ops) (k:=k);grind [HG]
theorem qnd{lo:Nat->Bool}{o:Oper}(h:cw lo (ey o).op=O):ey o=o:=by
 unfold ey at h |-
 split at h
 .cases h
 .rfl
theorem ZA{n:Nat}{lA:aa (AV×ab St)}(s:n=ia C.lo (V ops))(l:vA C ⟨bk C.lo (V ops)⟩ lA){L:Nat->Bool}(v:∀(i:Nat) (q:Oper),i<n->ops[i]?=Z q->iR (V ops) q=Y->L i=O):∀k,k<=n->(F (bk C.lo (V ops)) lA s0 L k).I=(F (bk C.lo (V ops)) lA s0 aP k).I
 |0,_=>rfl
 |k+1,w=>by
   have h:ia C.lo (V ops)<=ops.size:=by simpa using AZ C.lo (V ops)
   let⟨o,p⟩:=gD (ops:=ops) (k:=k);have m:ops.toList[k]?=Z o:=by simpa using p
   have c:(⟨bk C.lo (V ops)⟩:aL Oper)[k]?=Z (ey o):=by
    grind [AI]
   let⟨y,_,t,j⟩:=iA (ops:=⟨bk C.lo (V ops)⟩) (s0:=s0) l c;have g:=ZA s l v k (by omega);have f:=j L;have e:=j aP;show(F (V (⟨bk C.lo (V ops)⟩:aL Oper)) lA s0 L (k+1)).I=(F (V (⟨bk C.lo (V ops)⟩:aL Oper)) lA s0 aP (k+1)).I;rw[f,e,af (show aP k=O from rfl)];cases b:y.2 with
   |none=>
     rw[putS_σ _ _ _ b];split
     .rw[putS_σ _ _ _ b];exact g
     .exact g
   |some σ'=>
     have a:=t (by rw[b];rfl);have d:=qnd a
     have r:iR (V ops) o=Y:=by
      cases u:iR (V ops) o with
      |false=>rfl
      |true=>rw[d,LM u]at a;cases a
     grind [bX,turn]
def qf(n:Nat)(I σ':St):Prop:=σ'.rw=I.rw/\∀b,b<n->σ'.bx[b]?=I.bx[b]?
theorem qoF{tm:aa AV}{I σ':St}{op:Op}{x:AV}(f:vD op=O)(g:qf (X I.bx) I σ')(h:opA C ex tm I op=Z (x,U)):opA C ex tm σ' op=Z (x,U):=by
 unfold vD at f;split at f<;>try cases f
 .rename_i t a;simp only[opA,aF]at h |-
  split at h<;>try cases h
  rename_i d l
  have k:∀y,dF d I (aev tm a)=Z y->dF d σ' (aev tm a)=Z y:=λ y c=>by
   cases e:aev tm a with
   |ptr b o=>
     rw[e]at c;simp only[dF]at c |-
     cases j:I.bx[b]? with
     |none=>rw[j]at c;cases c
     |some cs=>rw[g.2 b (getElem?_lt j)];exact c
   |rpt r i o m=>
     rw[e]at c;simp only[dF,g.1]at c |-;exact c
   |_=>rw[e]at c;exact c
  grind
 .next t a i=>have h:aF C tm I (.indexAddr t a i)=Z (x,U):=h;show aF C tm σ' (.indexAddr t a i)=Z (x,U);rw[Xt g.1];exact h
theorem zG{n:Nat}:∀(a:aa Oper) (s c:S),cS C ex ops Y (a.filter bQ) s=Z c->n<=X s.I.bx->qf n s.I c.I
 |[],s,c,h,_=>by
   simp only[qb1,cS,dQ]at h;subst h;exact⟨rfl,λ _ _=>rfl⟩
 |o::a,s,c,h,i=>by
   cases d:bQ o with
   |false=>
     rw[QD (by rw[d];exact lD)]at h;exact zG a s c h i
   |true=>
     rw[QE d]at h;let⟨e,f⟩:=qW d;simp only[cS]at h;split at h
     .simp only[f,opA,aF]at h;cases j:C.ty e with
      |none=>rw[j]at h;cases h
      |some k=>
        rw[j]at h;simp only at h;cases g:k.zero.all cj with
        |false=>rw[g]at h;cases h
        |true=>
          rw[g]at h;simp only[mE]at h;let⟨p,m⟩:=zG (n:=n) a _ c h (by show n<=X (s.I.bx++[_]);rw[aM];omega);exact⟨p,λ b l=>by rw[m b l];show(s.I.bx++[_])[b]?=_;rw[dq (by omega)]⟩
     .exact zG (n:=n) a ⟨hS s.tm o.dst xK,s.I⟩ c h i
     .cases h
theorem qll(hC:cZ P C)(hx:lU P ex){id:Nat}{s N s2 s':S}(b4:rz C.lo (V ops)=O)(ef:nO C.lo ops=O)(hk:ma C.lo s.tm ⟨bk C.lo (V ops)⟩ O=O)(h:cS C ex ⟨bk C.lo (V ops)⟩ O (bk C.lo (V ops)) s=Z N)(hm:cS C ex ops Y (alL C.lo (V ops)) N=Z s2)(h':cS C ex ops O (sd C.lo (V ops)) s2=Z s'){a:Act}{Q:Exit->Act->aA->Prop}(hi:Inv Γ s.I w)(ht:ck Γ s.tm a)
  (B:∀Γ' w' a',Ext Γ w Γ' w'->Inv Γ' s'.I w'->ck Γ' s'.tm a'->bN s.I s'.I->a'.defers=a.defers->Q .normal a' w'):(Code.region id ops O).wp P Q a w:=by
 let⟨lA,h1,h2,h3,h4⟩:=Au (bk C.lo (V ops)) s N h;let⟨lS,e1,e2,e3,_⟩:=Au (sd C.lo (V ops)) s2 s' h';have hT:mW C ex ⟨bk C.lo (V ops)⟩ lA s:=L7 h3 h4;rw[Hp]at h2;have hk:lc C.lo s.tm ⟨bk C.lo (V ops)⟩=O:=hk;let⟨fu,b0,b5⟩:=Vp b4;generalize hn:ia C.lo (V ops)=n at h2 b0;have ev:n<=ops.size:=by rw[<-hn];simpa using AZ C.lo (V ops)
 have hg:∀(j:Nat) (o:Oper),ops[j]?=Z o->bQ o=O->o.guard=U:=λ j o R ha=>(b5 j o R ha).1
 have c7:∀(j:Nat) (o:Oper),(ops.toList.take n)[j]?=Z o->0+j<n/\ops[0+j]?=Z o:=λ j o R=>by
  grind
 have bb:0+X (ops.toList.take n)=n:=by simp;omega
 have hm:cS C ex ops Y ((ops.toList.take n).filter bQ) N=Z s2:=by rw[<-hn];exact hm
 have d5:sd C.lo (V ops)=ops.toList.drop n:=by unfold sd;rw[hn]
 rw[d5]at e1 e2 e3
 have hz:∀k o e,k<ia C.lo (V ops)->ops[k]?=Z o->o.op=.alloc e->∃d,cz P e=Z d/\d.zero.all cj=O:=λ k o e hk R dk=>by
  rw[hn]at hk;have d9:o∈ops.toList.take n:=aK (i:=k) (by rw[fM,af hk];simpa using R)
  let⟨d,D,G⟩:=ME _ N hm (λ q B H=>by
   let⟨j,hj⟩:=mD B;exact hg (0+j) q (c7 j q hj).2 H) o d9 e dk
  exact⟨d,hC.ty e d D,G⟩
 have a5:∀L:Nat->Bool,(∀(i:Nat) (q:Oper),i<n->ops[i]?=Z q->iR (V ops) q=Y->L i=O)->(F (bk C.lo (V ops)) lA s L n).I=N.I:=λ L hL=>by
  rw[ZA hn.symm hT.recd hL n (ak _),h2]
 have dr:∀k,F (bk C.lo (V ops)) lA s (λ i=>(Array.replicate ops.size Y).getD i Y) k=s:=by
  intro k
  induction k with
  |zero=>rfl
  |succ k ih=>
    simp only[F]
    have:(Array.replicate ops.size Y).getD k Y=Y:=by
     rw[kM,JB];split<;>rfl
    rw[this];split
    .next hf=>cases hf
    .exact ih
 have ar:∀i,(Array.replicate ops.size Y).getD i Y=Y:=λ i=>by
  rw[kM,JB];split<;>rfl
 let nb:=X N.I.bx;have cs:X N.I.bx=idA nb ops 0:=rfl;let A:=sb ops n nb lA lS;let f:S:=⟨s.tm,s2.I⟩
 have W:∀k y,k<n->A[k]?=Z y->y.2=U:=recB_σ ev;have cf:∀L k,k<=n->Oh ops (λ i=>i<k/\L i=O) nb (F (bk C.lo (V ops)) lA s L k).tm (F (V ops) A f L k).tm:=Xq rfl hn.symm hT.recd b5
 have fa:F (V ops) A f aP n=s2:=by
  have hr:=LI (nb:=nb) b5 (ops.toList.take n) 0 N s2 c7 bb hm cs;have T:=cf aP n (ak _);rw[h2]at T;have d1:(F (V ops) A f aP n).I=s2.I:=ri W n (ak _)
  have f8:(F (V ops) A f aP n).tm=s2.tm:=by
   have b3:(F (V ops) A f aP n).tm.length=X s2.tm:=by rw[T.1,hr.1]
   have ek:∀t,(F (V ops) A f aP n).tm.getD t .dead=s2.tm.getD t .dead:=λ t=>by
    by_cases a8:∃(k:Nat) (o:Oper),k<n/\ops[k]?=Z o/\bQ o=O/\o.dst=Z t
    .let⟨k,o,q1,q2,q3,q4⟩:=a8;rw[(T.2 t).1 k o ⟨q1,rfl⟩ q2 q3 q4,(hr.2 t).1 k o ⟨aG _,q1⟩ q2 q3 q4]
    .rw[(T.2 t).2 λ k o hk q2 q3 q4=>a8 ⟨k,o,hk.1,q2,q3,q4⟩,(hr.2 t).2 λ k o hk q2 q3 q4=>a8 ⟨k,o,hk.2,q2,q3,q4⟩]
   apply List.ext_getElem b3;intro i D G;have:=ek i;grind
  show F (V ops) A f aP n=s2;generalize F (V ops) A f aP n=z at *;let⟨z1,z2⟩:=z;simp_all
 have a0:∀i,i<=X (ops.toList.drop n)->F (V ops) A f aP (n+i)=F (ops.toList.drop n) lS s2 aP i:=by
  intro i
  induction i with
  |zero=>intro _;exact fa
  |succ i ih=>
    intro a7;show F (V ops) A f aP (n+i+1)=_;have hl:A[n+i]?=lS[i]?:=GZ;simp only[F,iJ,hl,ih (by omega)];rfl
 have b3:n+X (ops.toList.drop n)=ops.size:=by simp;omega
 have el:F (V ops) A f aP ops.size=s':=by rw[<-b3,a0 _ (ak _)];exact e2
 have E:vA C ops A:=by
  intro i o R;have ge:i<ops.size:=(eC.1 R).1;by_cases fB:i<n
  .have hy:=HG (nb:=nb) (lA:=lA) (lS:=lS) fB R;grind
  .obtain⟨j,rfl⟩:∃j,i=n+j:=⟨i-n,by omega⟩
   let⟨y,D,_,g3⟩:=e3 j o (by rw[iJ];simpa using R);grind [GZ]
 have c8:∀(L:Nat->Bool) (j:Nat) (o:Oper),gp ops L->(∀(i:Nat) (q:Oper),i<n->ops[i]?=Z q->iR (V ops) q=Y->L i=O)->ops[j]?=Z o->L j=Y->(∀e∈cY o,L e=O)->
   ∃y,mZ C ex ops o (F (V ops) A f L ops.size) y/\F (V ops) A f (λ i=>J (i=j)||L i) ops.size=bX (F (V ops) A f L ops.size) o y:=by
  intro L j o hd b6 R hL hp;have gb:j<ops.size:=(eC.1 R).1;let⟨y,hy,fs⟩:=E j o R;refine⟨y,?_,YW (s0:=f) E ef hd R hL hp hy fs⟩;have a4:∀t∈looks ops o,(F (V ops) A f L ops.size).tm.getD t .dead=(F (V ops) A f aP j).tm.getD t .dead:=λ t ht=>GI (s0:=f) E ef hd R hL hp ht;by_cases eg:j<n
  .-- it looks at no memory
   have hf:iR (V ops) o=O:=by
    cases hf:iR (V ops) o with
    |true=>rfl
    |false=>rw[b6 j o eg R hf]at hL;cases hL
   let⟨f2,f3⟩:=X5 hf;have fn:ops.toList[j]?=Z o:=by simpa using R
   have eo:ey o=o:=by unfold ey;rw[f2]
   have fk:(bk C.lo (V ops))[j]?=Z o:=by
    rw[AI,fn];show Z (ey o)=_;rw[eo]
   have c9:(⟨bk C.lo (V ops)⟩:aL Oper)[j]?=Z o:=by simpa using fk
   have es:gp ⟨bk C.lo (V ops)⟩ L:=by
    intro i q B f5 e he;obtain⟨fF,q',D,rfl⟩:=MP (lo:=C.lo) (l:=V ops) (j:=i) (o:=q) (by simpa using B);rw[LD]at he;exact hd i q' (by simpa using D) f5 e he
   have co:(⟨bk C.lo (V ops)⟩:aL Oper).size=n:=by show(bk C.lo (V ops)).length=n;rw[Hp,hn]
   let⟨z,z1,zs,_⟩:=VP hT hk es c9 hL hp;rw[co]at zs;let⟨z',q1,_,q3⟩:=hT.st j o c9;rw[z1]at q1;cases q1
   have b8:z.2=U:=by
    cases hc:z.2 with
    |none=>rfl
    |some τ=>have:=q3 (by rw[hc];rfl);rw[LM hf]at this;cases this
   have c6:y=z:=by
    have h0:=HG (nb:=nb) (lA:=lA) (lS:=lS) eg R;rw[f2]at h0;have hz:lA.getD j (.dead,U)=z:=by rw[dz,z1];rfl
    simp only[hz]at h0;have hy:(sb ops n nb lA lS)[j]?=Z y:=hy;rw[h0]at hy;cases hy;rw[<-b8]
   subst c6
   have bm:∀t∈looks ops o,(F (V ops) A f L ops.size).tm.getD t .dead=(F (bk C.lo (V ops)) lA s aP j).tm.getD t .dead:=λ t ht=>by
    rw[a4 t ht];refine((cf aP j (by omega)).2 t).2 λ k q ed B H cb=>?_;exact f3 q (aK (i:=k) (by simpa using B)) H t cb ht
   have a6:∀t∈looks ⟨bk C.lo (V ops)⟩ o,(F (bk C.lo (V ops)) lA s L n).tm.getD t .dead=(F (bk C.lo (V ops)) lA s aP j).tm.getD t .dead:=λ t ht=>by
    have:=GI (s0:=s) hT.recd (F9 hk) es c9 hL hp ht;rw[co]at this;exact this
   have e8:=Gj (ops:=⟨bk C.lo (V ops)⟩) (o:=o) a6
   have hw:∀b,cT ⟨bk C.lo (V ops)⟩ (F (bk C.lo (V ops)) lA s L n).tm o=Z b->cT ops (F (V ops) A f L ops.size).tm o=Z b:=λ b T=>by
    rw[Gj bm];rw[e8]at T;exact Hn (by rw[eo];exact T)
   obtain⟨D,G⟩|⟨D,G⟩:=zs
   .refine .inl ⟨hw _ D,?_⟩
    have bp:∀τ,opA C ex (F (V ops) A f L ops.size).tm τ o.op=opA C ex (F (bk C.lo (V ops)) lA s L n).tm τ o.op:=λ τ=>xq (C:=C) (ex:=ex) (op:=o.op) (I:=τ) (L4 (xs:=V o.op.operands) λ t ht=>(bm t (by
     simp only[looks,aR];exact .inl (.inr ht))).trans (a6 t (by
     simp only[looks,aR];exact .inl (.inr ht))).symm)
    have G:opA C ex (F (bk C.lo (V ops)) lA s L n).tm (F (bk C.lo (V ops)) lA s L n).I o.op=Z y:=G;rw[a5 L b6]at G;rw[bp];let⟨x,zz⟩:=y;have b8:zz=U:=b8;subst b8;have K:=hf;unfold iR at K;rw[gO]at K;obtain K|K:=K
    .unfold pS at K;simp only[aJ,eD]at K;exact Mz K.1.1 (LM hf) G
    .-- it lies behind stores into the region's boxes alone
     have cd:vD o.op=O:=by
      unfold yh at K;rw[aJ]at K;exact K.1
     refine qoF cd ?_ G
     have fr:pS (V ops) o=Y:=by
      cases hc:pS (V ops) o with
      |false=>rfl
      |true=>
        unfold pS at hc;simp only[aJ,eD]at hc;have:=hc.1.1;unfold vD at cd;split at cd
        .next e=>rw[e]at this;cases this
        .next e=>rw[e]at this;cases this
        .cases cd
     have d8:∀(m:Nat) (q:Oper),ops[n+m]?=Z q->L (n+m)=O->A8 (V ops) q=O:=λ m q B aE=>by
      obtain T|⟨_,q',bn,h'⟩:=b0 (n+m) q B (by omega) j (by omega)
      .have:=oR hd (n+m) q B (hd (n+m) q B aE) T;rw[hL]at this;cases this
      .rw[R]at bn;cases bn;obtain h'|⟨_,h'⟩:=h'
       .rw[fr]at h';cases h'
       .exact h'
     have cl:∀(m:Nat) (q:Oper),ops[n+m]?=Z q->L (n+m)=O->∀p,p<m->L (n+p)=O:=λ m q B aE p d7=>by
      obtain T|⟨T,_⟩:=b0 (n+m) q B (by omega) (n+p) (by omega)
      .exact oR hd (n+m) q B (hd (n+m) q B aE) T
      .omega
     have ca:∀(k:Nat) (q:Oper) (d:Tmp),k<n->ops[k]?=Z q->bQ q=O->q.dst=Z d->∀m,n+m<=ops.size->(F (V ops) A f aP (n+m)).tm.getD d .dead=.dead\/∃b,nb<=b/\(F (V ops) A f aP (n+m)).tm.getD d .dead=.ptr b 0:=λ k q d az B H cb m=>by
      induction m with
      |zero=>
        intro _;have:=((cf aP n (ak _)).2 d).1 k q ⟨az,rfl⟩ B H cb;rw[dP,this];split
        .exact .inr ⟨_,by unfold idA;omega,rfl⟩
        .exact .inl rfl
      |succ m ih=>
        intro a7;let⟨q2,d6⟩:=gD (ops:=ops) (k:=n+m);let⟨y2,_,_,hF⟩:=iA (s0:=f) E d6;show(F (V ops) A f aP (n+m+1)).tm.getD d .dead=_\/∃b,nb<=b/\(F (V ops) A f aP (n+m+1)).tm.getD d .dead=_;let⟨_,d',et,e9⟩:=b5 k q B H;rw[cb]at et;cases et;rw[hF aP,af (show aP (n+m)=O from rfl),qY _ _ _ _ (e9 (n+m) q2 d6 (by omega))];exact ih (by omega)
     have d0:∀m,n+m<=ops.size->(∀(p:Nat) (q:Oper),p<m->ops[n+p]?=Z q->A8 (V ops) q=O)->qf nb N.I (F (V ops) A f aP (n+m)).I:=by
      intro m
      induction m with
      |zero=>
        intro _ _;rw[dP,ri W n (ak _)];exact(zG (ops.toList.take n) N s2 hm (ak _):qf nb N.I s2.I)
      |succ m ih=>
        intro a7 ct;let⟨q,B⟩:=gD (ops:=ops) (k:=n+m);let⟨z,w1,w2,w3⟩:=e3 m q (by rw[iJ];simpa using B);let⟨y2,u1,_,hF⟩:=iA (s0:=f) E B;have:A[n+m]?=lS[m]?:=GZ;rw[this,w1]at u1;cases u1;rw[<-a0 m (by omega)]at w2;have ih:=ih (by omega) λ p q d7=>ct p q (by omega);show qf nb N.I (F (V ops) A f aP (n+m+1)).I;rw[hF aP,af (show aP (n+m)=O from rfl)];cases ax:z.2 with
        |none=>rw[putS_σ _ _ _ ax];exact ih
        |some b7=>
          have e:(bX (F (V ops) A f aP (n+m)) q z).I=b7:=by simp[bX,ax,turn]
          rw[e];have bs:=ct m q (by omega) B;unfold A8 at bs;split at bs<;>try cases bs
          rename_i t c v fl;rw[QF]at bs;let⟨qa,fb,H⟩:=bs;rw[aJ]at H;let⟨k,az⟩:=mD fb;have az:ops[k]?=Z qa:=by simpa using az
          let⟨f0,d,ep,_⟩:=b5 k qa az H.1
          have f1:d=c:=by
           have:=H.2;unfold rH at this;rw[ep]at this;exact cm this
          subst f1;let⟨x2,e5⟩:=z;have ax:e5=Z b7:=ax;subst ax
          have fz:k<n:=by
           apply yO;intro ga;obtain⟨r,rfl⟩:∃r,k=n+r:=⟨k-n,by omega⟩
           have f9:n+r<ops.size:=(eC.1 az).1;let⟨za,a1,a2,a3⟩:=e3 r qa (by rw[iJ];simpa using az);let⟨ea,em⟩:=qW H.1;have fv:cw C.lo qa.op=Y:=by rw[em];rfl
           obtain⟨_,a2⟩|⟨a2,_⟩:=a2
           .rw[em]at a2;simp only[opA,aF]at a2;split at a2<;>try cases a2
            split at a2<;>cases a2;have:=a3 rfl;rw[fv]at this;cases this
           .unfold cT at a2;rw[f0]at a2;cases a2
          have an:=ca k qa d fz az H.1 ep m (by omega);obtain⟨_,w2⟩|⟨_,w2⟩:=w2
          .obtain⟨b,off,D,f6,g3⟩|⟨r',i',o',go,D⟩:=KN fl w2
           .obtain an|⟨b',f4,an⟩:=an
            .rw[an]at D;cases D
            .rw[an]at D;cases D;exact⟨f6.trans ih.1,λ b T=>by rw[g3 b (by omega)];exact ih.2 b T⟩
           .obtain an|⟨b',f4,an⟩:=an<;>(rw[an]at D;cases D)
          .cases w2
     have f7:∀m,n+m<=ops.size->qf nb N.I (F (V ops) A f L (n+m)).I:=by
      intro m
      induction m with
      |zero=>
        intro _;rw[dP,ri W n (ak _)];exact(zG (ops.toList.take n) N s2 hm (ak _):qf nb N.I s2.I)
      |succ m ih=>
        intro a7;let⟨q,B⟩:=gD (ops:=ops) (k:=n+m);let⟨z,_,_,hF⟩:=iA (s0:=f) E B;show qf nb N.I (F (V ops) A f L (n+m+1)).I;rw[hF L];split
        .rename_i aE;cases ax:z.2 with
         |none=>rw[putS_σ _ _ _ ax];exact ih (by omega)
         |some b7=>
           have ht:=d0 (m+1) a7 λ p q' d7 bn=>d8 p q' bn (by
            by_cases fg:p=m
            .subst fg;exact aE
            .exact cl m q B aE p (by omega))
           have e0:=hF aP;rw[af (show aP (n+m)=O from rfl)]at e0;have e:∀s:S,(bX s q z).I=b7:=λ s=>by simp[bX,ax,turn]
           have ht:qf nb N.I (F (V ops) A f aP (n+m+1)).I:=ht;rw[e0,e]at ht;rw[e];exact ht
        .exact ih (by omega)
     have:=f7 (ops.size-n) (by omega);rw[show n+(ops.size-n)=ops.size by omega]at this;exact this
   .exact .inr ⟨hw _ D,G⟩
  .obtain⟨i,rfl⟩:∃i,j=n+i:=⟨j-n,by omega⟩
   have gl:i<X (ops.toList.drop n):=by omega
   let⟨z,z1,z2,z3⟩:=e3 i o (by rw[iJ];simpa using R)
   have c6:y=z:=by
    have:A[n+i]?=lS[i]?:=GZ;rw[this,z1]at hy;cases hy;rfl
   subst c6;rw[<-a0 i (by omega)]at z2
   have d1:(F (V ops) A f L ops.size).I=(F (V ops) A f aP (n+i)).I:=by
    have ec:∀m,n<=m->m<n+i->L m=O:=λ m eb dm=>by
     obtain T|⟨T,_⟩:=b0 (n+i) o R (by omega) m dm
     .exact oR hd (n+i) o R hp T
     .omega
    have dn:∀m,n+i<m->m<ops.size->L m=Y:=λ m eb dm=>by
     let⟨q,B⟩:=gD (ops:=ops) (k:=m) dm;cases aE:L m with
     |false=>rfl
     |true=>
       obtain T|⟨T,_⟩:=b0 m q B (by omega) (n+i) eb
       .have:=oR hd m q B (hd m q B aE) T;rw[hL]at this;cases this
       .omega
    have k1:∀m,m<=i->(F (V ops) A f L (n+m)).I=(F (V ops) A f aP (n+m)).I:=by
     intro m
     induction m with
     |zero=>intro _;rw[dP,ri W n (ak _),ri W n (ak _)]
     |succ m ih=>
       intro a7;let⟨q,B⟩:=gD (ops:=ops) (k:=n+m);let⟨y',_,_,hF⟩:=iA (s0:=f) E B;show(F (V ops) A f L (n+m+1)).I=(F (V ops) A f aP (n+m+1)).I;rw[hF L,hF aP,af (ec (n+m) (by omega) (by omega)),af (show aP (n+m)=O from rfl)];show turn _ _=turn _ _;rw[ih (by omega)]
    have k2:∀m,n+i+m<=ops.size->(F (V ops) A f L (n+i+m)).I=(F (V ops) A f L (n+i)).I:=by
     intro m
     induction m with
     |zero=>intro _;rfl
     |succ m ih=>
       intro a7;let⟨q,B⟩:=gD (ops:=ops) (k:=n+i+m);let⟨y',_,_,hF⟩:=iA (s0:=f) E B;show(F (V ops) A f L (n+i+m+1)).I=_
       have hf:L (n+i+m)=Y:=by
        cases m with
        |zero=>exact hL
        |succ m=>exact dn _ (by omega) (by omega)
       rw[hF L,hf];simp only[yI,yJ];exact ih (by omega)
    have:=k2 (ops.size-(n+i)) (by omega);rw[show n+i+(ops.size-(n+i))=ops.size by omega]at this;rw[this,k1 i (ak _)]
   have d2:=Gj (ops:=ops) (o:=o) a4
   have bp:=xq (C:=C) (ex:=ex) (op:=o.op) (I:=(F (V ops) A f L ops.size).I) (L4 (xs:=V o.op.operands) λ t ht=>a4 t (by
    simp only[looks,aR];exact .inl (.inr ht)))
   obtain⟨D,G⟩|⟨D,G⟩:=z2
   .refine .inl ⟨by rw[d2];exact D,?_⟩;rw[bp,d1];exact G
   .exact .inr ⟨by rw[d2];exact D,G⟩
 apply wp_region_any hC.mixed;refine qrz hC hx hT hk b4 hz (w0:=w) hn.symm ops.size _ Γ _ a (λ _=>0) (by simp) (by rw[yM,qb3];simp) (λ i _=>ar i) ?_ ?_ ?_ ?_ (ak _) ?_
 .intro i q bn fF;grind
 .rw[dr];exact hi.drew
 .rw[dr];exact ht
 .exact⟨λ k o e d h=>(by rw[ar]at h;cases h),λ k o e d u h=>(by rw[ar]at h;cases h),λ k k' o o' h=>(by rw[ar]at h;cases h)⟩
 .intro ds g c5 w1 a1 e4 x1 x2 x3 x4 x5 x6 x7 x8 x9 a9 e7;have e6:Ext Γ w c5 w1:=(Ext.drew Γ w).trans x6
  have M:∀(k:Nat) (o:Oper),k<n->ops[k]?=Z o->bQ o=O->g.getD k Y=O:=λ k o q1 q2 q3=>x4 k o q1 q2 (by
   cases hc:iR (V ops) o with
   |false=>rfl
   |true=>rw[(X5 hc).1]at q3;cases q3)
  have bl:ol P c5 w w1 ops (λ k=>0<=k/\k<n) a1 e4:=⟨λ k o e d hh D G=>x9.blk k o e d (M k o hh.2 D (by simp[bQ,G])) D G,λ k o e d u hh D G=>x9.tmp k o e d u (M k o hh.2 D (by simp[bQ,G])) D G,λ k k' o o' hh fP D G g3 g4=>x9.inj k k' o o' (M k o hh.2 D g3) (M k' o' fP.2 G g4) D G g3 g4⟩
  rw[a5 _ x4]at x7;rw[a5 _ x4]at a9;have a9:bN s.I N.I:=by rw[dr]at a9;exact a9
  let⟨dT,c0,c1,c2,c3,c4⟩:=Mj hC (n:=n) (nb:=nb) (ad:=e4) (ops.toList.take n) 0 N s2 N.I c5 c7 bb hm hg rfl cs x7 bl e6
  have ez:F (V ops) A f (λ i=>g.getD i Y) ops.size=F (V ops) A f (λ i=>g.getD i Y) n:=by
   grind [Y2]
  have cP:(F (V ops) A f (λ i=>g.getD i Y) ops.size).I=s2.I:=by rw[ez];exact ri W n (ak _)
  refine YR hC hx (l:=A) (s0:=f) (iV:=λ L=>∀(i:Nat) (q:Oper),i<n->ops[i]?=Z q->iR (V ops) q=Y->L i=O) (λ L j hg i q q1 q2 q3=>by simp[hg i q q1 q2 q3]) fu c8 ds g dT w1 a1 x1 x2 x5 x4 (by rw[cP];exact c2) ?_ ?_
  .-- the slots
   rw[ez];let⟨b1,b2⟩:=cf (λ i=>g.getD i Y) n (ak _);have d4:RepL dT (F (bk C.lo (V ops)) lA s (λ i=>g.getD i Y) n).tm (V a1.tmps):=JI c0 x8;refine⟨by rw[b1];exact d4.len,λ t x u hx hu=>?_⟩;have bb:=getElem?_lt hx;have b9:(F (V ops) A f (λ i=>g.getD i Y) n).tm.getD t .dead=x:=by rw[dz,hx];rfl
   by_cases a8:∃(k:Nat) (o:Oper),k<n/\ops[k]?=Z o/\bQ o=O/\o.dst=Z t
   .let⟨k,o,q1,q2,q3,q4⟩:=a8;rw[(b2 t).1 k o ⟨q1,M k o q1 q2 q3⟩ q2 q3 q4,af (by rw[<-b1];exact bb)]at b9;let⟨e,dk⟩:=qW q3;have hp:=bl.tmp k o e t u ⟨aG _,q1⟩ q2 dk q4 (by simpa using hu);grind
   .rw[(b2 t).2 λ k o ed q2 q3 q4=>a8 ⟨k,o,ed.1,q2,q3,q4⟩]at b9;have d3:t<(F (bk C.lo (V ops)) lA s (λ i=>g.getD i Y) n).tm.length:=by rw[<-b1];exact bb
    rw[dz,aS d3]at b9;exact d4.rep t x u (by rw[aS d3];exact bB Z b9) hu
  .intro Γ' w' a' D G g3 g4 g5;rw[el]at G g3 g4;rw[cP]at g4;exact B Γ' w' a' (c1.trans D) G g3 (a9.trans (c3.trans g4)) (by rw[g5,e7])
end
end
section
open RowKit
def Pq:AV->Bool
 |.rpt _ _ _ _|.ept _ _=>O
 |_=>Y
theorem ZF{o:Oper}{a:Tmp×bw}(h:stP o=Z a):(∃t,o.op=.store t (.tmp a.1) a.2)/\o.guard=U/\o.dst=U:=by
 grind [stP]
theorem qrw{o:Oper}{d:Tmp}(h:ixP o=Z d):(∃t x i,o.op=.indexAddr t x i)/\o.guard=U/\o.dst=Z d:=by
 grind [ixP]
theorem VI:∀{m b:Nat},ym m b=O->∀i,i<m->b.testBit i=O
 |0,_,_,i,a=>absurd a (eY _)
 |m+1,b,h,i,a=>by
   simp only[ym,aJ]at h;obtain a|rfl:=Nat.lt_succ_iff_lt_or_eq.1 a
   .exact VI h.2 i a
   .exact h.1
theorem Yl{ops:aL Oper}{i:Bool}{b:Tmp}(h:qz ops i=Z b):i=O/\∃p o q d e c,oP ops=[p,o,q]/\ixP p=Z d/\stP o=Z (d,e)/\stP q=Z (b,c)/\b≠d/\ln d c=O/\jK ops+3<=X (V ops)/\Oo (fH (V ops) []) (jK ops) (X (V ops)-1) p o q=O/\(∀r∈Io ops,Bb (jK ops) d p e r=O)/\∀r∈ops.toList.take (jK ops),Jh (jK ops) r=O:=by
 unfold qz at h;split at h
 .refine⟨rfl,?_⟩;unfold qbg at h;split at h
  .rename_i p o q t;split at h
   .rename_i d a y x w v;split at h
    .next g=>cases h;simp only[aJ,eD]at g;let⟨⟨s,f,n⟩,m,l,k,j⟩:=g;have e1:a.1=d:=cm s;refine⟨p,o,q,d,a.2,y.2,t,x,by rw[w,<-e1],v,?_,n,gP m,l,bz.1 k,bz.1 j⟩;intro u;rw[u,JC]at f;cases f
    .cases h
   .cases h
  .cases h
 .cases h
section
variable {P:aZ}{C:Cfg}{Γ:Gh}{I:St}{w:aA}{ops pre:aL Oper}{ex:dL}{l:aa (AV×ab St)}{s0:S}
theorem qbI{tm:aa AV}{σ':St}{t:aQ}{a:Tmp}{v:bw}{b off:Nat}{x:AV}{z:ab St}(h:opA C ex tm I (.store t (.tmp a) v)=Z (x,z))(k:tm.getD a .dead=.ptr b off):
  ∃cs,z=Z {I with bx:=I.bx.set b cs,wr:=b::I.wr}/\∀(tm':aa AV) (τ:St),aev tm' (.tmp a)=aev tm (.tmp a)->aev tm' v=aev tm v->τ.bx=I.bx->opA C ex tm' τ (.store t (.tmp a) v)=Z (x,Z {τ with bx:=τ.bx.set b cs,wr:=b::τ.wr}):=by
 have i:aev tm (.tmp a)=.ptr b off:=k;simp only[opA,aF,i]at h;cases g:C.ty t with
 |none=>rw[g]at h;cases h
 |some d=>
   rw[g]at h;simp only at h;cases c:I.bx[b]? with
   |none=>rw[c]at h;cases h
   |some cs=>
     rw[c]at h;simp only at h;split at h<;>cases h;rename_i j;refine⟨_,rfl,λ tm' τ m l f=>?_⟩;have e:τ.bx[b]?=Z cs:=by rw[f];exact c
     simp only[opA,aF,m,l,i,g,e,j]
theorem Pd{tm:aa AV}{t:aQ}{u i:bw}{x:AV}{z:ab St}(a:yw (aev tm u)=Y)(h:opA C ex tm I (.indexAddr t u i)=Z (x,z)):
  z=U/\Pq x=O/\∀τ:St,τ.rw=I.rw->opA C ex tm τ (.indexAddr t u i)=Z (x,U):=by
 have b:∀τ:St,τ.rw=I.rw->opA C ex tm τ (.indexAddr t u i)=Z (x,z):=λ τ c=>by
  simp_all [opA,aF]
 have e:z=U/\Pq x=O:=by
  simp only[opA,aF]at h
  repeat' split at h
  all_goals first|(cases h;done)|(cases h;exact⟨rfl,rfl⟩)|(rename_i d _ _;rw[d]at a;cases a)|(exfalso;simp_all [yw];done)
 grind
theorem qbc{tm:aa AV}{t:aQ}{a:Tmp}{v:bw}{y:AV}{x:AV}{z:ab St}(h:opA C ex tm I (.store t (.tmp a) v)=Z (x,z))(n:tm.getD a .dead=y)(l:Pq y=O):
  ∃r R,z=Z {I with rw:=I.rw.set r R,wrr:=r::I.wrr}/\∀τ:St,τ.rw=I.rw->opA C ex tm τ (.store t (.tmp a) v)=Z (x,Z {τ with rw:=τ.rw.set r R,wrr:=r::τ.wrr}):=by
 have m:aev tm (.tmp a)=y:=n;cases y with
 |rpt i j e c=>
   simp only[opA,aF,m]at h;cases f:C.ty t with
   |none=>rw[f]at h;cases h
   |some d=>
     rw[f]at h;simp only at h;cases g:I.rw[i]? with
     |none=>rw[g]at h;cases h
     |some R=>
       rw[g]at h;simp only at h;cases b:xW R j e c d.size (cellsOf (aev tm v))with
       |none=>rw[b]at h;cases h
       |some R'=>
         rw[b]at h;cases h;refine⟨_,_,rfl,λ τ k=>?_⟩;simp_all [opA,aF]
 |ept o e=>
   simp_all [opA,aF]
 |_=>cases l
theorem Un{tm:aa AV}{t:aQ}{a:Tmp}{v:bw}{y:AV×ab St}(h:opA C ex tm I (.store t (.tmp a) v)=Z y):a<X tm:=by
 apply qb4;intro b
 have c:aev tm (.tmp a)=.dead:=by
  show tm.getD a .dead=.dead;grind
 simp_all [opA,aF]
theorem YI{tm:aa AV}{d:Tmp}{x:AV}{v:bw}(h:ln d v=O):aev (tm.set d x) v=aev tm v:=by
 cases v with
 |tmp t=>
   have a:d≠t:=λ b=>by rw[b]at h;simp[ln]at h
   show(tm.set d x).getD t .dead=tm.getD t .dead;grind
 |_=>rfl
theorem Lz(m:Nat)(o:Oper):cY (pW m o)=(cY o).map (shI m):=by
 unfold cY pW;simp only[BN,List.filter_map,jQ];rfl
theorem qos{o:Oper}{tm tm':aa AV}{τ:St}{x:AV}{z:ab St}(h:uY o=O)(a:opA C ex tm I o.op=Z (x,z))(f:∀y∈V o.op.operands,aev tm y=aev tm' y):z=U/\opA C ex tm' τ o.op=Z (x,U):=by
 have c:gS o.op=Y/\cw C.lo o.op=Y/\z=U:=by
  unfold uY at h;split at h
  .rename_i b _ _;rw[b]at a |-
   refine⟨rfl,rfl,?_⟩;simp only[opA,aF]at a
   repeat' split at a
   all_goals first|(cases a;done)|(cases a;rfl)
  .rename_i b _ _;rw[b]at a |-
   refine⟨rfl,rfl,?_⟩;simp only[opA,aF]at a
   repeat' split at a
   all_goals first|(cases a;done)|(cases a;rfl)
  .rename_i b _ _;rw[b]at a |-
   refine⟨rfl,rfl,?_⟩;cases a;rfl
  .cases h
 obtain⟨e,d,rfl⟩:=c;refine⟨rfl,?_⟩;rw[<-xq f];exact Mz e d a
def T3(d:Tmp)(e:AV)(f g:St->St)(s:S)(b c a:Bool):S:=⟨cond b (s.tm.set d e) s.tm,cond a (g (cond c (f s.I) s.I)) (cond c (f s.I) s.I)⟩
theorem qlW(hC:cZ P C)(hx:lU P ex){id:Nat}{s u s':S}{b:Tmp}(ez:qz ops O=Z b)(hk:ma C.lo s.tm (jg ops) O=O)(h1:cS C ex (jg ops) O (V (jg ops)) s=Z u)(a4:vu u.tm ops b=O)
  (T:cS C ex ops O (oP ops) u=Z s') {a:Act}{Q:Exit->Act->aA->Prop} (f:Inv Γ s.I w) (ht:ck Γ s.tm a)
  (hq:∀Γ' w' a',Ext Γ w Γ' w'->Inv Γ' s'.I w'->ck Γ' s'.tm a'->bN s.I s'.I->a'.defers=a.defers->Q .normal a' w'):(Code.region id ops O).wp P Q a w:=by
 obtain⟨_,p,o,q,d,v6,v7,az,e8,e9,e4,fr,ef,eg,ed,c9,el⟩:=Yl ez;obtain⟨⟨t5,u5,i5,ax⟩,fn,ep⟩:=qrw e8;obtain⟨⟨t6,a2⟩,fl,eo⟩:=ZF e9;obtain⟨⟨t7,bs⟩,fk,em⟩:=ZF e4;unfold vu at a4;rw[aJ]at a4;obtain⟨a4,z⟩:=a4
 have z:yw (aev u.tm u5)=Y:=by
  unfold OS at z;rw[az]at z;simp only[ax]at z;simpa using z
 simp only[Oo,aJ,bz]at ed;obtain⟨k1,k2,k3,k4,k5,k6⟩:=ed;obtain⟨m,hm⟩:∃m,m=jK ops:=⟨_,rfl⟩
 obtain⟨n,hn⟩:∃n,X (V ops)=n+1:=⟨X (V ops)-1,by omega⟩
 obtain⟨pre,N⟩:∃pre,pre=jg ops:=⟨_,rfl⟩
 rw[<-N]at hk h1;have d9:=az;unfold oP at az;unfold jg at N;unfold Io at N c9;rw[<-hm]at N c9 el eg k1 k2 k3 k4 k5 k6 az;rw[hn,qb5]at k3 k6;rw[hn]at eg;have aE:X (V ops)-3-m=n-2-m:=by omega
 have ct:ops.size=n+1:=by rw[<-ig,hn]
 have e3:X ((ops.toList.drop m).take 2)=2:=by rw[bj,fZ];omega
 have b0:ops[m]?=Z p:=by
  have:=bB (·[0]?) az;simp only[JD]at this;rw[dq (by omega),vR (by omega),iJ]at this;simpa using this
 have b1:ops[m+1]?=Z o:=by
  have:=bB (·[1]?) az;simp only[qb0,JD]at this;rw[dq (by omega),vR (by omega),iJ]at this;simpa using this
 have cd:ops[n]?=Z q:=by
  have:=bB (·[2]?) az;simp only[qb0,JD]at this;rw[ej (by omega),e3,iJ,hn]at this;simpa using this
 have f1:pre.size=n-2:=by
  rw[N];simp only[ic,aM,bO,bj,fZ];omega
 have hA:∀i,i<m->pre[i]?=ops[i]?:=λ i f=>by
  rw[N,BM,dq (by rw[bj];omega),vR f,gA]
 have hB:∀i,m<=i->i<n-2->pre[i]?=(ops[i+2]?).map (pW m):=λ i f ca=>by
  rw[N,BM,ej (by rw[bj];omega),df,bj,jR (by omega),vR (by omega),iJ,gA,show m+2+(i-m)=i+2 by omega]
 have cP:∀i r,m<=i->i<n-2->ops[i+2]?=Z r->Bb m d p v6 r=O:=λ i r f ca K=>by
  refine c9 r (aK (i:=i-m) ?_);rw[vR (by omega),iJ,gA,show m+2+(i-m)=i+2 by omega];exact K
 obtain⟨l,l1,l2,l3,l4⟩:=Au (V pre) s u h1;have hT:mW C ex pre l s:=L7 l3 l4;rw[ig]at l2;have dk:lc C.lo s.tm pre=O:=hk;have b8:=(FS dk).1;have a7:∀tm,cT ops tm p=Z O:=λ tm=>by unfold cT;rw[fn]
 have a8:∀tm,cT ops tm o=Z O:=λ tm=>by unfold cT;rw[fl]
 have a6:∀tm,cT ops tm q=Z O:=λ tm=>by unfold cT;rw[fk]
 cases c7:u.tm.getD b .dead with
 |ptr bb off=>
   have d3:∀x,(u.tm.set d x).getD b .dead=.ptr bb off:=λ x=>by
    rw[<-c7,dz,kK (mC fr),<-dz]
   rw[d9]at T
   obtain⟨v,x6,a3,x7,a5,y5,y6,y7,rfl⟩:∃v x6 a3 x7 a5,opA C ex u.tm u.I p.op=Z (v,U)/\opA C ex (u.tm.set d v) u.I o.op=Z (x6,Z a3)/\opA C ex (u.tm.set d v) a3 q.op=Z (x7,Z a5)/\s'=⟨u.tm.set d v,a5⟩:=by
    simp only[cS,a7,a8,a6]at T;split at T<;>try cases T
    .rename_i v e5;rw[ep]at T;simp only[hS]at T;have c5:=(Pd z (by rw[ax]at e5;exact e5)).2.1;split at T<;>try cases T
     .rename_i x6 e6;have e6:=e6;rw[a2]at e6;have aE:=Un e6;rw[fw]at aE;have hv:(u.tm.set d v).getD d .dead=v:=by rw[dz,gx aE];rfl
      obtain⟨_,_,h,_⟩:=qbc e6 hv c5;cases h
     .rename_i x6 a3 e6;split at T<;>try cases T
      rw[eo]at T;simp only at T;split at T<;>try cases T
      .next x7 e7=>obtain⟨_,h,_⟩:=qbI (σ':=a3) (by rw[bs]at e7;exact e7) (d3 v);cases h
      .rename_i x7 a5 e7;split at T<;>try cases T
       exact⟨v,x6,a3,x7,a5,e5,e6,e7,by rw[em]⟩
    .next v f0 e5=>have:=(Pd z (by rw[ax]at e5;exact e5)).1;cases this
   rw[ax]at y5;rw[a2]at y6;rw[bs]at y7;obtain⟨_,c5,g5⟩:=Pd z y5;have aE:=Un y6;rw[fw]at aE;have d8:(u.tm.set d v).getD d .dead=v:=by rw[dz,gx aE];rfl
   obtain⟨r,R,z6,g6⟩:=qbc y6 d8 c5;cases z6;obtain⟨cs,z7,g7⟩:=qbI (σ':=u.I) y7 (d3 v);cases z7;have d2:d<X u.tm:=aE
   have part:∀L':Nat->Bool,(∀i,i<m->L' i=O)->∀k,m<=k->k<=pre.size->(F (V pre) l s L' k).I=(F (V pre) l s aP k).I/\∀t:Nat,(∀i r,m<=i->pre[i]?=Z r->r.dst≠Z t)->(F (V pre) l s L' k).tm.getD t .dead=(F (V pre) l s aP k).tm.getD t .dead:=λ L' a0 k fa f3=>by
    induction k with
    |zero=>
      have:m=0:=Nat.le_zero.1 fa;exact⟨rfl,λ _ _=>rfl⟩
    |succ k ih=>
      by_cases I:m=k+1
      .have e:F (V pre) l s L' (k+1)=F (V pre) l s aP (k+1):=vg _ λ i f=>a0 i (by omega);rw[e];exact⟨rfl,λ _ _=>rfl⟩
      .obtain⟨z1,z2⟩:=ih (by omega) (by omega);obtain⟨r,K⟩:=gD (ops:=pre) (k:=k) (by omega);obtain⟨y,g1,g2,hF⟩:=iA hT.recd K
       have hy:y.2=U:=by
        rw[hB k (by omega) (by omega)]at K;obtain⟨r0,b7,rfl⟩:=qb6.1 K;have an:=cP k r0 (by omega) (by omega) b7;simp only[Bb,aJ]at an;cases hy:y.2 with
        |none=>rfl
        |some σ'=>
          have g2:cw C.lo r0.op=O:=g2 (by rw[hy];rfl);have an:=an.1;unfold uY at an;split at an<;>first|(cases an;done)|(rename_i c8 _ _;rw[c8]at g2;cases g2)
       rw[hF,hF,af (show aP k=O from rfl)];split
       .exact⟨by rw[putS_σ _ _ _ hy,putS_σ _ _ _ hy];exact z1,λ t ht=>by rw[qY _ _ _ _ (ht k r (by omega) K),qY _ _ _ _ (ht k r (by omega) K)];exact z2 t ht⟩
       .exact⟨by rw[putS_σ _ _ _ hy];exact z1,λ t ht=>by rw[qY _ _ _ _ (ht k r (by omega) K)];exact z2 t ht⟩
   obtain⟨A,d7⟩:∃A:Nat->Nat,A=λ i=>if i<m then i else i+2:=⟨_,rfl⟩
   have D:∀i,i<m->A i=i:=λ i f=>by rw[d7];exact af f
   have M:∀i,m<=i->A i=i+2:=λ i f=>by rw[d7];exact ae (by omega)
   obtain⟨W,hW⟩:∃W:(Nat->Bool)->S,W=λ L=>F (V pre) l s (λ i=>L (A i)) pre.size:=⟨_,rfl⟩
   have Wp:∀L:Nat->Bool,(∀i,i<m->L i=O)->(W L).I=u.I/\∀t:Nat,(∀i r,m<=i->pre[i]?=Z r->r.dst≠Z t)->(W L).tm.getD t .dead=u.tm.getD t .dead:=λ L B=>by
    have:=part (λ i=>L (A i)) (λ i f=>by show L (A i)=O;rw[D i f];exact B i f) pre.size (by omega) (ak _);rw[hW,<-l2];exact this
   have b4:∀L:Nat->Bool,(∀i,i<n->i≠m->i≠m+1->L i=O)->W L=u:=λ L B=>by
    rw[hW,<-l2];refine vg _ λ i f=>?_;show L (A i)=O;by_cases h:i<m
    .rw[D i h];exact B i (by omega) (by omega) (by omega)
    .rw[M i (by omega)];exact B _ (by omega) (by omega) (by omega)
   have c2:∀L,(W L).tm.length=X u.tm:=λ L=>by rw[hW,<-l2];show(F _ _ _ _ _).tm.length=_;rw[yd,yd]
   have E:∀i r,m<=i->pre[i]?=Z r->∃r0 e,ops[i+2]?=Z r0/\r=pW m r0/\r0.dst=Z e/\e≠d/\uY r0=O/\(∀y∈V r0.op.operands,ln d y=O)/\(∀x∈cY r0,x<m\/m+2<=x)/\(∀y∈V p.op.operands,ln e y=O)/\ln e v6=O:=λ i r f K=>by
    have ca:i<n-2:=by have:=(eC.1 K).1;omega
    rw[hB i f ca]at K;obtain⟨r0,b7,rfl⟩:=qb6.1 K;have an:=cP i r0 f ca b7;simp only[Bb,aJ,bz,gO]at an;obtain⟨q1,q2,q3,q4⟩:=an;split at q4
    .next e I=>simp only[aJ,eD,bz]at q4;exact⟨r0,e,b7,rfl,I,(λ h=>by rw[h,JC]at q4;exact absurd q4.1 (by decide)),q1,q2,λ x hx=>(q3 x hx).imp gP gP,q4.2.1,q4.2.2⟩
    .cases q4
   have d6:∀y:bw,(∀e,ln e y=O\/∀i r,m<=i->pre[i]?=Z r->r.dst≠Z e)->∀L:Nat->Bool,(∀i,i<m->L i=O)->aev (W L).tm y=aev u.tm y:=λ y hy L B=>by
    cases y with
    |tmp t=>
      apply (Wp L B).2 t;rcases hy t with h|h
      .simp[ln]at h
      .exact h
    |_=>rfl
   have co:∀y:bw,(∀i r e,m<=i->pre[i]?=Z r->r.dst=Z e->ln e y=O)->∀L:Nat->Bool,(∀i,i<m->L i=O)->aev (W L).tm y=aev u.tm y:=λ y hy=>d6 y λ e=>by
    by_cases h:ln e y=O
    .exact .inl h
    .exact .inr λ i r f K I=>h (hy i r e f K I)
   have fF:∀y∈V p.op.operands,∀L:Nat->Bool,(∀i,i<m->L i=O)->aev (W L).tm y=aev u.tm y:=λ y hy=>co y λ i r e f K I=>by
    obtain⟨r0,e',_,rfl,h3,_,_,_,_,h8,_⟩:=E i r f K;have:e'=e:=jp (h3.symm.trans I);rw[<-this];exact h8 y hy
   have fB:∀L:Nat->Bool,(∀i,i<m->L i=O)->aev ((W L).tm.set d v) v6=aev (u.tm.set d v) v6:=λ L B=>by
    have:=co v6 (λ i r e f K I=>by
     obtain⟨r0,e',_,rfl,h3,_,_,_,_,_,h9⟩:=E i r f K;have:e'=e:=jp (h3.symm.trans I);rw[<-this];exact h9) L B
    cases v6 with
    |tmp t=>
      show((W L).tm.set d v).getD t .dead=(u.tm.set d v).getD t .dead;have this:(W L).tm.getD t .dead=u.tm.getD t .dead:=this;rw[dz]at this |-
      rw[dz]at this |-
      rw[oq,oq,c2];split
      .rfl
      .exact this
    |_=>rfl
   let rm:St->St:=λ τ=>{τ with rw:=τ.rw.set r R,wrr:=r::τ.wrr};let bm:St->St:=λ τ=>{τ with bx:=τ.bx.set bb cs,wr:=bb::τ.wr}
   have eb:aev u.tm (.tmp b)=aev (u.tm.set d v) (.tmp b):=by
    show u.tm.getD b .dead=(u.tm.set d v).getD b .dead;rw[d3,c7]
   have ev:aev u.tm v7=aev (u.tm.set d v) v7:=(YI ef).symm;have cl:∀{L:Nat->Bool}{j:Nat}{o':Oper}{n:Nat},gp ops L->ops[j]?=Z o'->(∀e∈cY o',L e=O)->ym n ((fH (V ops) []).getD j 0)=O->∀i,i<n->L i=O:=λ hd ho hp hb i f=>oR hd _ _ ho hp (VI hb i f)
   have c0:∀{L:Nat->Bool},gp ops L->(∀e∈cY q,L e=O)->∀i,i<n->i≠m->i≠m+1->L i=O:=λ hd hp i f h1 T=>by
    apply oR hd _ _ cd hp;have:=k6 i (jS.2 f);simp only[gO]at this;rcases this with h|h|h
    .exact absurd (cm h) h1
    .exact absurd (cm h) T
    .exact h
   let G:(Nat->Bool)->S:=λ L=>T3 d v rm bm (W L) (L m) (L (m+1)) (L n)
   have ar:∀i,(Array.replicate ops.size Y).getD i Y=Y:=λ i=>by
    rw[kM,JB];split<;>rfl
   have d5:G (λ i=>(Array.replicate ops.size Y).getD i Y)=s:=by
    have fu:∀k,F (V pre) l s (λ i=>(Array.replicate ops.size Y).getD (A i) Y) k=s:=by
     intro k
     induction k with
     |zero=>rfl
     |succ k ih=>
       simp only[F];rw[ar];split
       .next hf=>cases hf
       .exact ih
    show T3 d v rm bm (W _) ((Array.replicate ops.size Y).getD m Y) ((Array.replicate ops.size Y).getD (m+1) Y) ((Array.replicate ops.size Y).getD n Y)=s;rw[ar m,ar (m+1),ar n,hW];exact fu _
   have et:G aP=⟨u.tm.set d v,bm (rm u.I)⟩:=by
    show T3 d v rm bm (W aP) O O O=_;rw[b4 aP λ _ _ _ _=>rfl];rfl
   have H:∀(L:Nat->Bool) (j i:Nat),i≠j->(J (i=j)||L i)=L i:=λ L j i h=>by rw[bv h,pi]
   have a9:∀(L:Nat->Bool) (j:Nat),(J (j=j)||L j)=O:=λ L j=>by rw[bg rfl,vP]
   have a1:∀(L:Nat->Bool) (j:Nat),(∀i,i<pre.size->A i≠j)->W (λ i=>J (i=j)||L i)=W L:=λ L j h=>by
    rw[hW];exact vg _ λ i f=>H L j _ (h i f)
   have c3:∀i,i<pre.size->A i≠m/\A i≠m+1/\A i≠n:=λ i f=>by
    by_cases h:i<m
    .rw[D i h];omega
    .rw[M i (by omega)];omega
   have c4:∀i j,A i=A j->i=j:=λ i j h=>by
    by_cases h1:i<m<;>by_cases T:j<m
    .rw[D i h1,D j T]at h;exact h
    .rw[D i h1,M j (by omega)]at h;omega
    .rw[M i (by omega),D j T]at h;omega
    .rw[M i (by omega),M j (by omega)]at h;omega
   have c1:∀(L:Nat->Bool) (j:Nat),W (λ i=>J (i=A j)||L i)=F (V pre) l s (λ i=>J (i=j)||L (A i)) pre.size:=λ L j=>by
    rw[hW];refine vg _ λ i f=>?_;show(J (A i=A j)||L (A i))=(J (i=j)||L (A i));by_cases h:i=j
    .rw[h,bg rfl,bg rfl]
    .rw[bv h,bv λ e=>h (c4 _ _ e)]
   have b3:∀L,gp ops L->gp pre (λ i=>L (A i)):=λ L hd i r K f e I=>by
    have f2:=b8 i r K e I;by_cases h:i<m
    .rw[hA i h]at K;have f:L (A i)=O:=f;rw[D i h]at f;show L (A e)=O;rw[D e (by omega)];exact hd i r K f e I
    .obtain⟨r0,e0,g1,rfl,_,_,_,_,g7,_⟩:=E i r (by omega) K;rw[Lz]at I;obtain⟨x,bn,rfl⟩:=bF.1 I;have f:L (A i)=O:=f;rw[M i (by omega)]at f;have:=hd _ _ g1 f x bn;show L (A (shI m x))=O
     have e:A (shI m x)=x:=by
      unfold shI;rcases g7 x bn with h|h
      .rw[show Nat.blt x m=O from pj h];exact D x h
      .rw[show Nat.blt x m=Y from by rw[oy];intro h';have:=gP h';omega];rw[JE,M _ (by omega)];omega
     rw[e];exact this
   apply wp_region_any hC.mixed;refine Yy (G:=G) (iV:=λ _=>True) hC hx (λ _ _ _=>trivial) (λ j o' c e I=>?_) (λ L B=>?_) (λ L j o' hd _ c B hp=>?_) ops.size _ Γ _ a (by simp) (by rw[yM,qb3];simp) ?_ trivial ?_ ?_ ?_
   .have fb:j<n+1:=by rw[<-ct];exact(eC.1 c).1
    by_cases hj:j<m
    .exact b8 j o' (by rw[hA j hj];exact c) e I
    .by_cases ds:j=m
     .subst ds;rw[b0]at c;cases c;exact gP (k1 e I)
     .by_cases dT:j=m+1
      .subst dT;rw[b1]at c;cases c;exact gP (k2 e I)
      .by_cases dr:j=n
       .subst dr;rw[cd]at c;cases c;have:=k3 e I;simp only[gO,aJ]at this;rcases this with h|h
        .have:=gP h;omega
        .exact gP h.2
       .obtain⟨i,rfl⟩:∃i,j=i+2:=⟨j-2,by omega⟩
        have ad:=hB i (by omega) (by omega);rw[c]at ad;obtain⟨r0,e0,g1,g2,_,_,_,_,g7,_⟩:=E i _ (by omega) ad;rw[c]at g1;cases g1;have:=b8 i _ ad (shI m e) (by rw[Lz];exact iY I);rcases g7 e I with h|h
        .omega
        .unfold shI at this;rw[show Nat.blt e m=Y from by rw[oy];intro h';have:=gP h';omega]at this;have this:e-2<i:=this;omega
   .rw[et];show T3 d v rm bm (W L) (L m) (L (m+1)) (L n)=_;rw[B m (by omega),B (m+1) (by omega),B n (by omega),b4 L λ i f _ _=>B i (by omega)];rfl
   .have fb:j<n+1:=by rw[<-ct];exact(eC.1 c).1
    have d1:L (m+1)=O->L m=O:=λ h=>cl hd b1 (hd (m+1) o b1 h) k5 m (vS m);have dm:L m=O->∀i,i<m->L i=O:=λ h=>cl hd b0 (hd m p b0 h) k4;have dn:L n=O->∀i,i<n->i≠m->i≠m+1->L i=O:=λ h=>c0 hd (hd n q cd h);by_cases hj:j<m
    .have n5:L m=Y:=by
       cases d4:L m with
       |false=>rfl
       |true=>rw[dm d4 j hj]at B;cases B
     have n6:L (m+1)=Y:=by
      cases h:L (m+1)with
      |false=>rfl
      |true=>rw[d1 h]at n5;cases n5
     have n7:L n=Y:=by
      cases h:L n with
      |false=>rfl
      |true=>rw[dn h j (by omega) (by omega) (by omega)]at B;cases B
     obtain⟨y,bl,b6⟩:=Hv hT dk (b3 L hd) (j:=j) (o:=o') (by rw[hA j hj];exact c) (by show L (A j)=Y;rw[D j hj];exact B) (λ e I=>by
      have:=b8 j o' (by rw[hA j hj];exact c) e I;show L (A e)=O;rw[D e (by omega)];exact hp e I)
     have b2:=c1 L j;rw[D j hj]at b2;have e1:G L=W L:=by show T3 d v rm bm (W L) (L m) (L (m+1)) (L n)=_;rw[n5,n6,n7];rfl
     have e2:G (λ i=>J (i=j)||L i)=W (λ i=>J (i=j)||L i):=by
      show T3 d v rm bm (W _) (J (m=j)||L m) (J (m+1=j)||L (m+1)) (J (n=j)||L n)=_;rw[H L j m (by omega),H L j (m+1) (by omega),H L j n (by omega),n5,n6,n7];rfl
     rw[e1,e2,b2];rw[hW];refine⟨y,?_,b6⟩;have d0:Jh m o'=O:=el o' (aK (i:=j) (by rw[vR hj,gA];exact c))
     have c6:∀tm,cT ops tm o'=cT pre tm o':=λ tm=>by
      unfold cT;unfold Jh at d0;cases hg:o'.guard with
      |none=>rfl
      |some gw=>
        obtain⟨g,fP⟩:=gw;rw[hg]at d0;simp only;rw[hA g (gP d0)]
     unfold mZ at bl |-
     rw[c6];exact bl
    .by_cases ds:j=m
     .subst ds;rw[b0]at c;cases c;have a0:=cl hd b0 hp k4
      have n6:L (j+1)=Y:=by
       cases h:L (j+1)with
       |false=>rfl
       |true=>rw[d1 h]at B;cases B
      have bp:=a1 L j λ i f=>(c3 i f).1;have b5:=(Wp L a0).1;refine⟨(v,U),.inl ⟨a7 _,?_⟩,?_⟩
      .show opA C ex (cond (L j) _ _) _ p.op=_;rw[B,JE,<-xq λ y hy=>(fF y hy L a0).symm,ax];apply g5 _;show(cond (L n) (bm (cond (L (j+1)) _ _)) (cond (L (j+1)) _ _)).rw=_;rw[n6];cases L n<;>exact(bB St.rw b5:(W L).I.rw=u.I.rw)
      .show T3 d v rm bm (W _) (J (j=j)||L j) (J (j+1=j)||L (j+1)) (J (n=j)||L n)=bX (T3 d v rm bm (W L) (L j) (L (j+1)) (L n)) p (v,U);rw[a9 L j,H L j (j+1) (by omega),H L j n (by omega),bp,B];unfold bX;rw[ep];rfl
     .by_cases dT:j=m+1
      .subst dT;rw[b1]at c;cases c;have h5:=cl hd b1 hp k5;have d4:=h5 m (vS m);have a0:∀i,i<m->L i=O:=λ i f=>h5 i (by omega);have bp:=a1 L (m+1) λ i f=>(c3 i f).2.1;have b5:=(Wp L a0).1;refine⟨(x6,Z (cond (L n) (bm (rm u.I)) (rm u.I))),.inl ⟨a8 _,?_⟩,?_⟩
       .show opA C ex (cond (L m) _ _) (cond (L n) (bm (cond (L (m+1)) _ _)) (cond (L (m+1)) _ _)) o.op=_;rw[d4,cond_true,B,JE,b5];rw[<-xq (tm:=u.tm.set d v) λ y hy=>?_,a2]
        .cases L n
         .exact g6 _ rfl
         .exact g6 (bm u.I) rfl
        .rw[a2]at hy;simp only[Op.operands,bi,sq,or_false]at hy;rcases hy with rfl|rfl
         .show(u.tm.set d v).getD d .dead=((W L).tm.set d v).getD d .dead;rw[d8,dz,gx (by rw[c2];exact d2)];rfl
         .exact(fB L a0).symm
       .show T3 d v rm bm (W _) (J (m=m+1)||L m) (J (m+1=m+1)||L (m+1)) (J (n=m+1)||L n)=bX (T3 d v rm bm (W L) (L m) (L (m+1)) (L n)) o _;rw[a9 L (m+1),H L (m+1) m (by omega),H L (m+1) n (by omega),bp,B];unfold bX T3;rw[eo,b5];cases L n<;>rfl
      .by_cases dr:j=n
       .subst dr;rw[cd]at c;cases c;have es:=c0 hd hp;have bp:=a1 L j λ i f=>(c3 i f).2.2;have ea:=b4 L es;refine⟨(x7,Z (bm (cond (L (m+1)) (rm u.I) u.I))),.inl ⟨a6 _,?_⟩,?_⟩
        .show opA C ex (cond (L m) ((W L).tm.set d v) (W L).tm) (cond (L j) (bm (cond (L (m+1)) (rm (W L).I) (W L).I)) (cond (L (m+1)) (rm (W L).I) (W L).I)) q.op=_;rw[B,JE,ea,bs];cases L m
         .apply g7 u.tm _ eb ev;cases L (m+1)<;>rfl
         .apply g7 (u.tm.set d v) _ rfl rfl;cases L (m+1)<;>rfl
        .show T3 d v rm bm (W _) (J (m=j)||L m) (J (m+1=j)||L (m+1)) (J (j=j)||L j)=bX (T3 d v rm bm (W L) (L m) (L (m+1)) (L j)) q _;rw[a9 L j,H L j m (by omega),H L j (m+1) (by omega),bp,B,ea];unfold bX T3;rw[em];rfl
       .obtain⟨i,rfl⟩:∃i,j=i+2:=⟨j-2,by omega⟩
        have b9:m<=i:=by omega
        have fg:i<n-2:=by omega
        have ad:=hB i b9 fg;rw[c]at ad;have ad:pre[i]?=Z (pW m o'):=ad;obtain⟨r0,e0,g1,g2,g3,g4,cf,fz,fv,_⟩:=E i _ b9 ad;rw[c]at g1;cases g1
        have n7:L n=Y:=by
         cases h:L n with
         |false=>rfl
         |true=>rw[dn h (i+2) (by omega) (by omega) (by omega)]at B;cases B
        obtain⟨y,bl,b6⟩:=Hv hT dk (b3 L hd) (j:=i) (o:=pW m o') ad (by show L (A i)=Y;rw[M i b9];exact B) (λ e I=>by
         rw[Lz]at I;obtain⟨x,bn,rfl⟩:=bF.1 I
         have e:A (shI m x)=x:=by
          unfold shI;rcases fv x bn with h|h
          .rw[show Nat.blt x m=O from pj h];exact D x h
          .rw[show Nat.blt x m=Y from by rw[oy];intro h';have:=gP h';omega];rw[JE,M _ (by omega)];omega
         show L (A (shI m x))=O;rw[e];exact hp x bn)
        have b2:=c1 L i;rw[M i b9]at b2
        have ek:o'.guard=U:=by
         unfold uY at cf;split at cf<;>first|(cases cf;done)|assumption
        have fs:W L=F (V pre) l s (λ i=>L (A i)) pre.size:=by rw[hW]
        rw[<-fs]at bl b6
        have c8:opA C ex (W L).tm (W L).I o'.op=Z y:=by
         rcases bl with⟨_,h⟩|⟨h,_⟩
         .exact h
         .unfold cT at h;rw[show(pW m o').guard=U from ek]at h;cases h
        obtain⟨yx,yz⟩:=y
        obtain⟨rfl,ec⟩:=qos (tm':=cond (L m) ((W L).tm.set d v) (W L).tm) (τ:=(G L).I) cf c8 λ y hy=>by
         cases L m
         .rfl
         .exact(YI (fz y hy)).symm
        refine⟨(yx,U),.inl ⟨by unfold cT;rw[ek],ec⟩,?_⟩;show T3 d v rm bm (W _) (J (m=i+2)||L m) (J (m+1=i+2)||L (m+1)) (J (n=i+2)||L n)=bX (T3 d v rm bm (W L) (L m) (L (m+1)) (L n)) o' (yx,U);rw[H L (i+2) m (by omega),H L (i+2) (m+1) (by omega),H L (i+2) n (by omega),b2,b6];unfold bX T3;rw[g3,show(pW m o').dst=Z e0 from g3];simp only[turn];congr 1;cases L m
        .rfl
        .exact List.set_comm _ _ g4
   .intro i r K cb;exfalso;have cb:(Array.replicate ops.size Y).getD i Y=O:=cb;rw[ar]at cb;cases cb
   .rw[d5];exact f.drew
   .rw[d5];exact ht
   .intro Γ' w' a' g1 g2 g3 g4 g5;rw[d5]at g4;rw[et]at g2 g3 g4;exact hq Γ' w' a' ((Ext.drew Γ w).trans g1) g2 g3 g4 g5
 |_=>rw[c7]at a4;cases a4
end
end
section
open RowKit
section
variable {P:aZ}{C:Cfg}{Γ:Gh}{I:St}{w:aA}{ops:aL Oper}{ex:dL}{l:aa (AV×ab St)}{s0:S}
theorem qrC(q:cZ P C)(k:lU P ex)(o:mW C ex ops l s0)(j:lc C.lo s0.tm ops=O){Q:Exit->Act->aA->Prop}:∀(d:Nat) (c:aL Bool) (Γ:Gh) (w:aA) (a:Act),c.size=ops.size->c.toList.countP (λ b => !b)=d->gp ops (λ i=>c.getD i Y)->
  Inv Γ (F (V ops) l s0 (λ i=>c.getD i Y) ops.size).I w->ck Γ (F (V ops) l s0 (λ i=>c.getD i Y) ops.size).tm a->
  (∀Γ' w' h,Ext Γ w Γ' w'->Inv Γ' (F (V ops) l s0 aP ops.size).I w'->ck Γ' (F (V ops) l s0 aP ops.size).tm h->bN (F (V ops) l s0 (λ i=>c.getD i Y) ops.size).I (F (V ops) l s0 aP ops.size).I->h.defers=a.defers->Q .normal h w')->
  wpAny P .any ops Q d c a w:=
 λ d c Γ w a e g f=>YR q k (iV:=λ _=>True) (λ _ _ _=>trivial) (FS j).1 (λ _ _ _ f _ n p m=>Hv o j f n p m) d c Γ w a e g f trivial
theorem qmr(g:cZ P C)(m:lU P ex){id:Nat}{b:Bool}{s d:S}(f:ma C.lo s.tm ops b=O)(h:cS C ex ops b (V ops) s=Z d){a:Act}{Q:Exit->Act->aA->Prop}(p:Inv Γ s.I w)(n:ck Γ s.tm a)
  (o:∀Γ' w' e,Ext Γ w Γ' w'->Inv Γ' d.I w'->ck Γ' d.tm e->bN s.I d.I->e.defers=a.defers->Q .normal e w'):(Code.region id ops b).wp P Q a w:=by
 cases b with
 |false=>
   apply wp_region;have:=NZ g m (ops:=ops) (V ops) 0 s Γ w a (by simp) h p n o;rw[ig,<-List.range_eq_range']at this;exact this
 |true=>
   let⟨l,H,r,D,B⟩:=Au (V ops) s d h;have A:mW C ex ops l s:=L7 D B;rw[ig]at r;have f:lc C.lo s.tm ops=O:=f
   have c:∀k,F (V ops) l s (λ i=>(Array.replicate ops.size Y).getD i Y) k=s:=by
    intro k
    induction k with
    |zero=>rfl
    |succ k v=>
      simp only[F]
      have:(Array.replicate ops.size Y).getD k Y=Y:=by
       rw[kM,JB];split<;>rfl
      rw[this];split
      .next z=>cases z
      .exact v
   apply wp_region_any g.mixed;refine qrC g m A f ops.size _ Γ _ a (by simp) (by rw[yM,qb3];simp) ?_ ?_ ?_ ?_
   .intro i q x y;exfalso
    have:(Array.replicate ops.size Y).getD i Y=Y:=by
     rw[kM,JB];split<;>rfl
    grind
   .rw[c];exact p.drew
   .rw[c];exact n
   .intro Γ' w' e G u t j E;rw[c]at j;rw[r]at u t j;exact o Γ' w' e ((Ext.drew Γ w).trans G) u t j E
def COk(P:aZ)(ex:dL)(c:Code):Prop:=
 ∀s e b,iy c=O->ex c s=Z (e,b)->∀Γ w a,Inv Γ s.I w->ck Γ s.tm a->a.defers=[]->
  c.wp P (λ f d w'=>f=e.toExit/\d.defers=[]/\∃Γ',Ext Γ w Γ' w'/\Inv Γ' b.I w'/\ck Γ' b.tm d/\bN s.I b.I) a w
theorem qqJ{s:S}{a:Act}(g:Inv Γ s.I w)(f:ck Γ s.tm a)(t:Nat):
  ∃Γ',Ext Γ w Γ' w/\Inv Γ' (hZ s t).I w/\ck Γ' (hZ s t).tm a/\bN s.I (hZ s t).I:=by
 unfold hZ;cases v:rsA (s.tm.getD t .dead)with
 |nil=>exact⟨Γ,.refl _ _,g,f,.refl _⟩
 |cons r l=>
   let⟨m,h,p,o⟩:=pD (r::l) g ((r::l)++s.I.wrr);refine⟨_,AS h w,p,?_,Me (r::l)⟩;have n:Le Γ {Γ with mem:=m}:=(AS h w).le;have k:=NQ g n (λ q y=>o q (by rw[<-v];exact y)) (f.get t);have c:RepL {Γ with mem:=m} s.tm (V a.tmps):=JI n f;refine⟨by rw[fw];exact c.len,λ i x u b j=>?_⟩;by_cases d:t=i
   .subst d;rw[gx (by have:=getElem?_lt b;simpa using this)]at b;cases b
    have:a.tmps.getD t undef=u:=by
     rw[kM,<-gA,j];rfl
    rw[this]at k;exact k
   .rw[kK d]at b;exact c.rep i x u b j
theorem Yc{a:Act}:∀(ts:aa Nat) {s:S}{Γ:Gh},Inv Γ s.I w->ck Γ s.tm a->
  ∃Γ',Ext Γ w Γ' w/\Inv Γ' (kF ts s).I w/\ck Γ' (kF ts s).tm a/\bN s.I (kF ts s).I
 |[],s,Γ,d,c=>⟨Γ,.refl _ _,d,c,.refl _⟩
 |t::ts,s,Γ,d,c=>by
   let⟨e,m,l,k,j⟩:=qqJ d c t;let⟨b,i,h,g,f⟩:=Yc ts l k;exact⟨b,m.trans i,h,g,j.trans f⟩
theorem qrk{b:Code}{n:Nat}(o:∀m,m<n->COk P (ee C m) b){s:S}{e:Ex}{g:S}(z:iy b=O)(h:ee C n (.loop b) s=Z (e,g)){a:Act}(hi:Inv Γ s.I w)(ht:ck Γ s.tm a)(I:a.defers=[]):
  (Code.loop b).wp P (λ A f w'=>A=e.toExit/\f.defers=[]/\∃Γ',Ext Γ w Γ' w'/\Inv Γ' g.I w'/\ck Γ' g.tm f/\bN s.I g.I) a w:=by
 let W:Nat->Act->aA->Prop:=λ m d c=>m<=n/\∃r i,ee C m (.loop b) r=Z (e,g)/\Ext Γ w i c/\Inv i r.I c/\ck i r.tm d/\d.defers=[]/\bN s.I r.I
 have j:∀d c,(∃m,W m d c)->∃m,W m d c/\∀k,W k d c->m<=k:=by
  rintro d c ⟨m,hm⟩
  induction m using Nat.strongRecOn with
  |_ m ih=>
    by_cases z:∃k,k<m/\W k d c
    .let⟨k,H,G⟩:=z;exact ih k H G
    .exact⟨m,hm,λ k L=>Nat.le_of_not_lt λ F=>z ⟨k,F,L⟩⟩
 classical
 let t:Act->aA->Nat:=λ d c=>if h:∃m,W m d c then Classical.choose (j d c h)else 0
 have u:∀d c,(h:∃m,W m d c)->W (t d c) d c/\∀k,W k d c->t d c<=k:=by
  intro d c h;grind
 apply wp_loop (λ d c=>∃m,W m d c) t ⟨n,ak _,s,Γ,h,.refl _ _,hi,ht,I,.refl _⟩;intro d c L;let⟨K,_⟩:=u d c L;let⟨v,r,i,h1,N,h3,h4,h5,M⟩:=K;generalize hm:t d c=m at *;cases m with
 |zero=>simp[ee]at h1
 |succ m=>
   simp only[ee,jG]at h1;let⟨B,p1,p2,p3,p4⟩:=Yc (C.pur b) h3 h4
   have ad:∀e1 q,ee C m b (kF (C.pur b) r)=Z (e1,q)->(e1=.normal/\ee C m (.loop b) q=Z (e,g)\/(e1≠.normal/\e1=e/\q=g))->
     b.wp P (Exit.then (λ f w'=>(∃m,W m f w')/\t f w'<m+1) (λ A f w'=>A=e.toExit/\f.defers=[]/\∃Γ',Ext Γ w Γ' w'/\Inv Γ' g.I w'/\ck Γ' g.tm f/\bN s.I g.I)) d c:=by
    intro e1 q hb D;apply wp_mono (o m v _ e1 q z hb B c d p2 p3 h5);rintro A f w' ⟨rfl,T,l,y,R,Q,x⟩;have y:=p1.trans y;have x:=p4.trans x;obtain⟨rfl,hl⟩|⟨E,rfl,rfl⟩:=D
    .have p:W m f w':=⟨Nat.le_of_succ_le v,q,l,hl,N.trans y,R,Q,T,M.trans x⟩
     exact⟨⟨m,p⟩,Nat.lt_succ_of_le ((u f w' ⟨m,p⟩).2 m p)⟩
    .cases e1 with
     |normal=>exact absurd rfl E
     |exit id|ret=>exact⟨rfl,T,l,N.trans y,R,Q,M.trans x⟩
   grind
theorem Nv(hC:cZ P C):∀n,lU P (ee C n):=by
 intro n
 induction n using Nat.strongRecOn with
 |_ n ih=>
   cases n with
   |zero=>intro c s e L _ h;simp[ee]at h
   |succ n=>
     have j:=ih n (vS n);intro c s e L B h Γ w a A z f;cases c with
     |skip=>
       simp only[ee,jG,dQ,fc]at h;obtain⟨rfl,rfl⟩:=h;exact wp_skip ⟨rfl,f,Γ,.refl _ _,A,z,.refl _⟩
     |label k=>
       simp only[ee,jG,dQ,fc]at h;obtain⟨rfl,rfl⟩:=h;exact wp_label ⟨rfl,f,Γ,.refl _ _,A,z,.refl _⟩
     |exit id=>
       simp only[ee,jG,dQ,fc]at h;obtain⟨rfl,rfl⟩:=h;exact wp_exit ⟨rfl,f,Γ,.refl _ _,A,z,.refl _⟩
     |ret=>
       simp only[ee,jG,dQ,fc]at h;obtain⟨rfl,rfl⟩:=h;exact wp_ret ⟨rfl,f,Γ,.refl _ _,A,z,.refl _⟩
     |region id ops Q=>
       simp only[ee,jG]at h;split at h
       .rename_i F;have I:Q=O:=by unfold ry at F;rw[aJ]at F;exact F.1
        subst I;split at h<;>try cases h
        rename_i d l;rw[aJ,aJ]at d;split at h<;>try cases h
        next o=>split at h<;>cases h;next G=>apply qll hC j d.1 d.2.1 d.2.2 l o G A z;intro Γ' w' R v u t q N;exact⟨rfl,by rw[N,f],Γ',v,u,t,q⟩
       .split at h
        .rename_i p M;let⟨I,_⟩:=Yl M;subst I;split at h<;>try cases h
         next d l=>split at h<;>cases h;next an o=>apply qlW hC j M d l an o A z;intro Γ' w' R v u t q N;exact⟨rfl,by rw[N,f],Γ',v,u,t,q⟩
        .split at h<;>cases h;next d l=>apply qmr hC j d l A z;intro Γ' w' R v u t q N;exact⟨rfl,by rw[N,f],Γ',v,u,t,q⟩
     |seq x y=>
       simp only[ee,jG]at h;simp only[iy,aJ]at B;apply wp_seq;cases E:ee C n x s with
       |none=>rw[E]at h;cases h
       |some r=>
         let⟨e1,S⟩:=r;rw[E]at h;apply wp_mono (j x s e1 S B.1 E Γ w a A z f);rintro e' R w' ⟨rfl,D,g,v,u,t,q⟩;cases e1 with
         |normal=>
           apply wp_mono (j y S e L B.2 h g w' R u t D);rintro ax az ar ⟨rfl,q0,ad,q1,q2,q3,q4⟩;exact⟨rfl,q0,ad,v.trans q1,q2,q3,q.trans q4⟩
         |exit id|ret=>cases h;exact⟨rfl,D,g,v,u,t,q⟩
     |cond c x y=>
       simp only[ee,jG]at h;simp only[iy,aJ]at B;have T:=ck.ev z c;split at h
       .next K=>rw[K]at T;exact wp_cond_true (ce T) (j x s e L B.1 h Γ w a A z f)
       .next K=>rw[K]at T;exact wp_cond_false (ce T) (j y s e L B.2 h Γ w a A z f)
       .cases h
     |block id b=>
       simp only[ee,jG]at h;simp only[iy]at B;apply wp_block;cases E:ee C n b s with
       |none=>rw[E]at h;cases h
       |some r=>
         let⟨e1,S⟩:=r;rw[E]at h;apply wp_mono (j b s e1 S B E Γ w a A z f);rintro e' R w' ⟨rfl,D,g,v,u,t,q⟩;cases e1 with
         |normal|ret=>cases h;exact⟨rfl,D,g,v,u,t,q⟩
         |exit i=>
           simp only[dQ,fc]at h;obtain⟨W,rfl⟩:=h;show if i=id then _ else _;split
           .next H=>rw[af H]at W;subst W;exact⟨rfl,D,g,v,u,t,q⟩
           .next H=>rw[ae H]at W;subst W;exact⟨rfl,D,g,v,u,t,q⟩
     |loop b=>
       exact qrk (n:=n+1) (λ m hm=>λ s e L B h=>ih m hm b s e L B h) B h A z f
     |_=>simp only[ee,jG]at h;cases h
end
end
section
open RowKit
structure PC where
 ty:Nat->Option TD
 pf:Nat->Option (List AV->Option AV)
 sp:Nat->Option (St->List AV->Option (AV×Option St))
 pur:Code->List Nat
 ld:Nat->Bool
 inl:Nat->Option Func
def emp:St:=⟨[],[],[],[]⟩
def gg(p:aa AV->ab AV):St->aa AV->ab (AV×ab St):=λ I a=>
 match I with
 |⟨[],[],[],[]⟩=>match p a with
   |Z v=>Z (v,U)
   |U=>U
 |_=>U
def PC.prim(c:PC)(f:Nat):ab (St->aa AV->ab (AV×ab St)):=match c.pf f with|Z p=>Z (gg p)|U=>c.sp f
def PC.raw(c:PC)(f:Nat):Bool:=match c.pf f with|Z _=>Y|U=>(c.sp f).isSome
def PC.cfg(c:PC):Cfg:=⟨c.ty,λ _=>U,c.prim,c.raw,c.pur,λ f=>c.raw f||(c.ld f||(c.inl f).isSome),c.inl⟩
def iQ(c:PC)(f:Nat)(I:St)(a:aa AV):ab (AV×ab St):=
 match c.pf f with
 |Z p=>match noRefs (a.map (cE I.rw))with
   |O=>match p (a.map (cE I.rw))with
     |Z v=>match dG v with
       |O=>match rD v,a.flatMap rsA with
         |O,_|_,[]=>Z (v,U)
         |_,r::l=>Z (v,Z {I with rw:=frz I.rw (r::l),wrr:=(r::l)++I.wrr})
       |Y=>U
     |U=>U
   |Y=>U
 |U=>match c.sp f with
   |Z p=>fJ I a p
   |U=>U
def kE(c:PC)(tm:aa AV)(I:St)(op:Op):ab (AV×ab St):=
 match op with
 |.call ⟨.builtin b,a,ts⟩=>iv c.cfg I b ts (a.toList.map (aev tm))
 |.call ⟨.value g,a,_⟩=>match aev tm g with
   |.fn f d=>match c.inl f with
     |U=>iQ c f I (a.toList.map (aev tm)++d)
     |Z _=>U
   |_=>U
 |.call _=>U
 |op=>aF c.cfg tm I op
def iz(d:aa AV->St->Op->ab (AV×ab St))(c:PC)(ops:aL Oper)(b:Bool):aa Oper->S->ab S
 |[],s=>Z s
 |o::a,s=>match cT ops s.tm o with
   |Z O=>match d s.tm s.I o.op with
     |Z (x,U)=>iz d c ops b a ⟨hS s.tm o.dst x,s.I⟩
     |Z (x,Z σ')=>match b && !(cw c.cfg.lo o.op&&lR c.cfg ops (ops.size-(X a+1)) s.tm s.I o.op)with
       |O=>U
       |Y=>iz d c ops b a ⟨hS s.tm o.dst x,σ'⟩
     |U=>U
   |Z Y=>iz d c ops b a ⟨hS s.tm o.dst xK,s.I⟩
   |U=>U
def dp(f:aa AV->St->Op->ab (AV×ab St))(c:PC)(ex:dL):dL
 |.skip,s|.label _,s=>Z (.normal,s)
 |.region _ ops d,s=>match ry ops d with
   |O=>match rz c.cfg.lo (V ops)&&(nO c.cfg.lo ops&&ma c.cfg.lo s.tm ⟨bk c.cfg.lo (V ops)⟩ O),iz f c ⟨bk c.cfg.lo (V ops)⟩ O (bk c.cfg.lo (V ops)) s with
     |O,Z g=>match iz f c ops Y (alL c.cfg.lo (V ops)) g with
       |Z h=>match iz f c ops O (sd c.cfg.lo (V ops)) h with
         |Z e=>Z (.normal,e)
         |U=>U
       |U=>U
     |_,_=>U
   |Y=>match qz ops d with
     |Z p=>match ma c.cfg.lo s.tm (jg ops) O,iz f c (jg ops) O (V (jg ops)) s with
       |O,Z g=>match vu g.tm ops p,iz f c ops O (oP ops) g with
         |O,Z e=>Z (.normal,e)
         |_,_=>U
       |_,_=>U
     |U=>match ma c.cfg.lo s.tm ops d,iz f c ops d (V ops) s with
       |O,Z e=>Z (.normal,e)
       |_,_=>U
 |.seq a b,s=>match ex a s with
   |Z (.normal,e)=>ex b e
   |r=>r
 |.cond t x y,s=>match aev s.tm t with
   |.v (.bool O)=>ex x s
   |.v (.bool Y)=>ex y s
   |_=>U
 |.block id b,s=>match ex b s with
   |Z (.exit i,e)=>Z (if i=id then .normal else .exit i,e)
   |r=>r
 |.loop b,s=>match ex b (kF (c.pur b) s)with
   |Z (.normal,e)=>ex (.loop b) e
   |r=>r
 |.exit id,s=>Z (.exit id,s)
 |.ret,s=>Z (.ret,s)
 |_,_=>U
def bV(a:aa AV->St->Op->ab (AV×ab St))(c:PC):Nat->dL
 |0=>λ _ _=>U
 |n+1=>dp a c (bV a c n)
def yA(c:PC)(I:St)(fn:Func)(a:aa AV):ab (AV×ab St):=match fn.body with
 |U=>U
 |Z d=>match bV (kE c) c 12 d ⟨a++List.replicate (fn.ntmps-X a) .dead,I⟩with
   |Z (.exit _,_)=>U
   |Z (_,b)=>match nI c.cfg fn b with
     |Z r=>Z (r,Z b.I)
     |U=>U
   |U=>U
def jk(c:PC)(tm:aa AV)(I:St)(op:Op):ab (AV×ab St):=
 match op with
 |.call ⟨.value g,b,_⟩=>match aev tm g with
   |.fn f a=>match c.inl f with
     |Z fn=>yA c I fn (b.toList.map (aev tm)++a)
     |U=>iQ c f I (b.toList.map (aev tm)++a)
   |_=>U
 |op=>kE c tm I op
theorem VN{fb fr}(x)(h:rb x=[])(g:rr x=[]):ren fb fr x=x:=A0 fb fr x h g
def Md{fb fr}(xs)(h:rbL xs=[])(g:rrL xs=[]):bt fb fr xs=xs:=AR fb fr xs h g
theorem wL{x}(h:dG x=O):rb x=[]/\rr x=[]:=by
 grind [dG]
def FH: ∀{xs},noRefs xs=O->rbL xs=[]/\rrL xs=[]
 |[],_=>⟨rfl,rfl⟩
 |x::xs,h=>by
   simp only[noRefs,dy,aJ]at h;let⟨d,c⟩:=wL h.1;let⟨b,a⟩:=FH h.2;grind [rbL,rrL]
def T0{I a p v}(g:noRefs a=O)(i:p a=Z v)(f:dG v=O):fJ I a (λ I a=>gg p I a)=Z (v,U):=by
 let⟨d,c⟩:=FH g;let⟨k,j⟩:=wL f
 have b:dY I a=[]:=by
  unfold dY;rw[d];cases X I.bx with
  |zero|succ n=>rfl
 have e:hU I a=[]:=by
  unfold hU;rw[b,c];rfl
 unfold fJ
 have h:nX I a=O:=by
  unfold nX;rw[b,e,d,c];rfl
 rw[b,e,Md a d c];have:bM I [] []=⟨[],[],[],[]⟩:=rfl;grind [gg,oS,VN]
def qmq{c ex f I a r}(h:iQ c f I a=Z r):mS c.cfg ex I f a=Z r:=by
 unfold iQ at h;split at h
 rotate_left
 .rename_i g;split at h<;>try cases h
  rename_i p e;have b:c.cfg.raw f=O:=by show c.raw f=O;unfold PC.raw;rw[g,e];rfl
  have d:(λ(I:St) a=>jf c.cfg ex I f a)=p:=by
   simp_all [jf,PC.cfg,PC.prim]
  unfold mS oO;grind
 rename_i p g;split at h<;>try cases h
 rename_i i;split at h<;>try cases h
 rename_i v j;split at h<;>try cases h
 rename_i k
 have d:∀I:St,(λ(I:St) a=>jf c.cfg ex I f a)=λ I a=>gg p I a:=λ _=>by
  simp_all [jf,PC.cfg,PC.prim]
 have b:c.cfg.raw f=Y:=by show c.raw f=Y;unfold PC.raw;rw[g]
 unfold mS oO;rw[b];let⟨o,n⟩:=FH i;cases m:a.flatMap rsA with
 |nil=>
   have:r=(v,U):=by
    grind
   subst this;rw[d I];exact T0 i j k
 |cons q l=>
   simp only;rw[d I,T0 i j k];grind [xQ]
def qqF{C ex I f args r}(a:C.inl f=U)(h:mS C ex I f args=Z r)(b:C.lo f=Y->C.raw f=Y/\noRefs (args.map (cE I.rw))=O/\dG r.1=O):mU C ex I f args=Z r:=by
 grind [mU]
theorem Wh{c ex f I args r}(e:c.inl f=U)(h:iQ c f I args=Z r):mU c.cfg ex I f args=Z r:=by
 refine qqF e (qmq h) λ d=>?_;unfold iQ at h;split at h
 rotate_left
 .rename_i b;split at h<;>try cases h
  rename_i p a;have:c.cfg.lo f=O:=by show(c.raw f||(c.ld f||(c.inl f).isSome))=O;unfold PC.raw;rw[b,a];rfl
  rw[d]at this;cases this
 rename_i p b;have g:c.cfg.raw f=Y:=by show c.raw f=Y;unfold PC.raw;rw[b]
 grind
def XW{c ex tm I op r}(h:kE c tm I op=Z r):opA c.cfg ex tm I op=Z r:=by
 unfold kE at h;grind [opA,rf,Wh]
theorem Ad{pp c ex}(a:∀tm I op r,pp tm I op=Z r->opA c.cfg ex tm I op=Z r){ops draw}:∀{l s d},iz pp c ops draw l s=Z d->cS c.cfg ex ops draw l s=Z d
 |[],s,d,h=>h
 |o::f,s,d,h=>by
   simp only[iz]at h;simp only[cS];split at h
   .rename_i e;rw[e];split at h
    .next x b=>rw[a _ _ _ _ b];exact Ad a h
    .rename_i x σ' b;rw[a _ _ _ _ b];split at h
     .cases h
     .next g=>rw[g];exact Ad a h
    .cases h
   .next e=>rw[e];exact Ad a h
   .cases h
def MN{f c d}(k:∀n tm I op r,f tm I op=Z r->opA c.cfg (ee c.cfg (n+d)) tm I op=Z r):∀{n e s r},bV f c n e s=Z r->ee c.cfg (n+d) e s=Z r:=by
 intro n
 induction n with
 |zero=>intro e s r h;simp[bV]at h
 |succ n j=>
   intro e s r h;simp[bV]at h;rw[show n+1+d=(n+d)+1 by omega];simp[ee];cases e with
   |region id ops i=>
     simp[dp]at h;simp[jG];split at h
     .grind [Ad]
     .grind [Ad]
   |seq a b=>
     grind [dp,jG]
   |cond t x y=>
     grind [dp,jG]
   |block id b=>
     grind [dp,jG]
   |loop b=>
     simp[dp]at h;simp[jG];cases g:bV f c n b (kF (c.pur b) s)with
     |none=>rw[g]at h;cases h
     |some q=>
       rw[g]at h;rw[show ee c.cfg (n+d) b (kF (c.cfg.pur b) s)=_ from j g];grind
   |_=>exact h
def qlG{pp c}:∀{n d s r},bV pp c n d s=Z r->bV pp c (n+1) d s=Z r:=by
 intro n
 induction n with
 |zero=>intro d s r h;simp[bV]at h
 |succ n e=>
   intro d s r h;rw[bV]at h |-
   cases d with
   |seq a b=>
     grind [dp]
   |cond t x y=>
     grind [dp]
   |block id b=>
     grind [dp]
   |loop b=>
     grind [dp]
   |_=>exact h
theorem ra{pp c n m}(a:n<=m){cd s r}(h:bV pp c n cd s=Z r):bV pp c m cd s=Z r:=by
 induction a with
 |refl=>exact h
 |step _ b=>exact qlG b
def qpv{c I fn args r}(h:yA c I fn args=Z r):∃b e a x,fn.body=Z b/\bV (kE c) c 12 b ⟨args++List.replicate (fn.ntmps-X args) .dead,I⟩=Z (e,a)/\(e=.ret\/e=.normal)/\nI c.cfg fn a=Z x/\r=(x,Z a.I):=by
 unfold yA at h;split at h<;>try cases h
 rename_i b j;split at h<;>try cases h
 rename_i e a d g;split at h<;>cases h;rename_i x f;refine⟨b,e,a,x,j,g,?_,f,rfl⟩;cases e with
 |normal=>exact .inr rfl
 |ret=>exact .inl rfl
 |exit i=>exact(d i rfl).elim
def qqB{c}(n){tm I op r}(h:jk c tm I op=Z r):opA c.cfg (ee c.cfg (n+12)) tm I op=Z r:=by
 unfold jk at h;split at h
 .rename_i g i ts;split at h<;>try cases h
  rename_i f b o;simp[opA,rf,o];split at h
  .rename_i fn a;obtain⟨w,e,q,x,v,p,u,t,rfl⟩:=qpv h;have s:=MN (d:=0) (λ n tm I op r h=>XW h) (ra (m:=n+12) (by omega) p);have k:c.cfg.lo f=O:=by show(c.raw f||(c.ld f||(c.inl f).isSome))=O;rw[a];simp
   have l:c.cfg.inl f=Z fn:=a;unfold mU;unfold yr;grind
  .next a=>exact Wh a h
 .next op j=>exact XW h
def WV{c}:∀n tm I op r,jk c tm I op=Z r->opA c.cfg (ee c.cfg (n+12)) tm I op=Z r:=λ n _ _ _ _ h=>qqB n h
def Run(c:PC)(b:Code)(s:S)(K:Ex->S->Prop):Prop:=∃n e a,bV (jk c) c n b s=Z (e,a)/\K e a
inductive It where
 |code (c:Code)|blk (id:Nat)|ops (os:Array Oper) (draw:Bool) (rest:List Oper)
def Go(c:PC)(Q:Ex->S->Prop):aa It->Ex->S->Prop
 |[],e,s=>Q e s
 |.code g::k,.normal,s=>Run c g s λ e b=>Go c Q k e b
 |.code _::k,e,s=>Go c Q k e s
 |.blk id::k,.exit i,s=>Go c Q k (if i=id then .normal else .exit i) s
 |.blk _::k,e,s=>Go c Q k e s
 |.ops f d a::k,.normal,s=>∃b,iz (jk c) c f d a s=Z b/\Go c Q k .normal b
 |.ops _ _ _::k,e,s=>Go c Q k e s
section
variable {c:PC}{Q:Ex->S->Prop}{k:aa It}{tm:aa AV}{I:St}{s:S}
def ZB{cd K}(h:∀n,∀r,dp (jk c) c (bV (jk c) c n) cd s=Z r↔r=(.normal,s)):Run c cd s K↔K .normal s:=by
 constructor
 .rintro⟨n,e,f,a,d⟩;cases n with
  |zero=>simp[bV]at a
  |succ n=>have:=(h n _).1 a;cases this;exact d
 .intro b;exact⟨1,_,_,(h 0 _).2 rfl,b⟩
def qoc: Go c Q (.code .skip::k) .normal s=Go c Q k .normal s:=
 propext (ZB λ n r=>⟨λ h=>by cases h;rfl,λ h=>by rw[h];rfl⟩)
def qpo(l):Go c Q (.code (.label l)::k) .normal s=Go c Q k .normal s:=
 propext (ZB λ n r=>⟨λ h=>by cases h;rfl,λ h=>by rw[h];rfl⟩)
def qqa(id):Go c Q (.code (.exit id)::k) .normal s=Go c Q k (.exit id) s:=by
 apply propext;constructor
 .rintro⟨n,e,d,a,b⟩;cases n with
  |zero=>simp[bV]at a
  |succ n=>simp only[bV,dp,fc]at a;obtain⟨rfl,rfl⟩:=a;exact b
 .intro h;exact⟨1,_,_,rfl,h⟩
def qq4: Go c Q (.code .ret::k) .normal s=Go c Q k .ret s:=by
 apply propext;constructor
 .rintro⟨n,e,d,a,b⟩;cases n with
  |zero=>simp[bV]at a
  |succ n=>simp only[bV,dp,fc]at a;obtain⟨rfl,rfl⟩:=a;exact b
 .intro h;exact⟨1,_,_,rfl,h⟩
def qky(cd):Go c Q (.code cd::k) .ret s=Go c Q k .ret s:=rfl
def qjW(cd i):Go c Q (.code cd::k) (.exit i) s=Go c Q k (.exit i) s:=rfl
def qjf(id):Go c Q (.blk id::k) .normal s=Go c Q k .normal s:=rfl
def ql2(id):Go c Q (.blk id::k) .ret s=Go c Q k .ret s:=rfl
def qkK(id i):Go c Q (.blk id::k) (.exit i) s=Go c Q k (if i=id then .normal else .exit i) s:=rfl
def qrO(a b):Go c Q (.code (.seq a b)::k) .normal s=Go c Q (.code a::.code b::k) .normal s:=by
 apply propext;constructor
 .rintro⟨n,e,g,d,f⟩;cases n with
  |zero=>simp[bV]at d
  |succ n=>
    simp[bV,dp]at d;split at d
    .next h l=>exact⟨n,_,h,l,n,e,g,d,f⟩
    .rename_i j;refine⟨n,e,g,d,?_⟩;cases e with
     |normal=>exact absurd d (j g)
     |exit i|ret=>exact f
 .rintro⟨n,e,h,d,f⟩;cases e with
  |normal=>
    let⟨m,e,g,p,o⟩:=f;refine⟨n+m+1,e,g,?_,o⟩;simp[bV,dp];rw[ra (by omega) d];exact ra (by omega) p
  |exit i|ret=>exact⟨n+1,_,h,by simp[bV,dp];rw[d],f⟩
def qph(id b):Go c Q (.code (.block id b)::k) .normal s=Go c Q (.code b::.blk id::k) .normal s:=by
 apply propext;constructor
 .rintro⟨n,e,h,a,f⟩;cases n with
  |zero=>simp[bV]at a
  |succ n=>
    simp[bV,dp]at a;cases g:bV (jk c) c n b s with
    |none=>rw[g]at a;cases a
    |some q=>
      rw[g]at a;let⟨e1,d⟩:=q;refine⟨n,e1,d,g,?_⟩;cases e1<;>(simp at a;obtain⟨rfl,rfl⟩:=a;exact f)
 .rintro⟨n,e,d,a,f⟩;cases e with
  |normal|exit i|ret=>exact⟨n+1,_,d,by simp[bV,dp];rw[a],f⟩
def go_loop(b):Go c Q (.code (.loop b)::k) .normal s=Go c Q (.code b::.code (.loop b)::k) .normal (kF (c.pur b) s):=by
 apply propext;constructor
 .rintro⟨n,e,f,a,d⟩;cases n with
  |zero=>simp[bV]at a
  |succ n=>
    simp[bV,dp]at a;split at a
    .next g j=>exact⟨n,_,g,j,n,e,f,a,d⟩
    .rename_i h;refine⟨n,e,f,a,?_⟩;cases e with
     |normal=>exact absurd a (h f)
     |exit i|ret=>exact d
 .rintro⟨n,e,g,a,d⟩;cases e with
  |normal=>
    let⟨m,e,f,o,l⟩:=d;refine⟨n+m+1,e,f,?_,l⟩;simp[bV,dp];rw[ra (by omega) a];exact ra (by omega) o
  |exit i|ret=>exact⟨n+1,_,g,by simp[bV,dp];rw[a],d⟩
theorem qnM (rw y):rsA (cE rw y)=[]:=by
 have b:∀ x,rsC (bC rw x)=[]:=by
  intro x;cases x with
  | rs r lo n a f =>
    simp [bC];split
    ·split<;>rfl
    ·rfl
  | _=>rfl
 cases y with
 | agg cs =>
   show (cs.map (bC rw)).flatMap rsC=[];grind [List.flatMap_map,List.flatMap_eq_nil_iff]
 | rs r lo n a f =>
   show rsA (bC rw (.rs r lo n a f))=[];simp [bC];split
   ·split<;>rfl
   ·rfl
 | _=>rfl
def OF(ts:aa Nat)(s:S):Prop:=∀t∈ts,rsA (s.tm.getD t .dead)=[]
def qlJ(s t u)(h:u=t\/rsA (s.tm.getD u .dead)=[]):rsA ((hZ s t).tm.getD u .dead)=[]:=by
 unfold hZ;cases b:rsA (s.tm.getD t .dead)with
 |nil=>
   grind
 |cons r l=>
   by_cases c:t=u
   .subst c
    have d:t<X s.tm:=by
     apply qb4;intro a;rw[dz,ox a]at b;cases b
    grind [List.getElem?_set_self,qnM]
   .grind
def UB: ∀ts s us,OF us s->OF (us++ts) (kF ts s)
 |[],s,us,h=>by rw[bK];exact h
 |t::ts,s,us,h=>by
   have:=UB ts (hZ s t) (us++[t]) (λ u a=>qlJ s t u (by
    obtain a|a:=aR.1 a
    .exact .inr (h u a)
    .exact .inl (by grind)))
   rw[bA]at this;exact this
def XH: ∀ts s,OF ts s->kF ts s=s
 |[],s,h=>rfl
 |t::ts,s,h=>by
   have e:hZ s t=s:=by unfold hZ;rw[h t (aX ..)]
   show kF ts (hZ s t)=s;rw[e];exact XH ts s λ u a=>h u (aT _ a)
def qrt(b):Go c Q (.code (.loop b)::k) .normal (kF (c.pur b) s)=Go c Q (.code (.loop b)::k) .normal s:=by
 rw[go_loop,go_loop,XH _ _ (by have:=UB (c.pur b) s [] (λ _ h=>by cases h);simpa using this)]
def Jr(c:PC)(Q:Ex->S->Prop)(k:aa It)(s:S)(x y:Code):AV->Prop
 |.v (.bool O)=>Go c Q (.code x::k) .normal s
 |.v (.bool Y)=>Go c Q (.code y::k) .normal s
 |_=>False
def qqM(t x y):Go c Q (.code (.cond t x y)::k) .normal ⟨tm,I⟩=Jr c Q k ⟨tm,I⟩ x y (aev tm t):=by
 apply propext;constructor
 .rintro⟨n,e,d,a,f⟩;cases n with
  |zero=>simp[bV]at a
  |succ n=>
    simp[bV,dp]at a;split at a
    .next b=>rw[b];exact⟨n,e,d,a,f⟩
    .next b=>rw[b];exact⟨n,e,d,a,f⟩
    .cases a
 .intro h;unfold Jr at h;split at h
  .next b=>let⟨n,e,d,a,f⟩:=h;exact⟨n+1,e,d,by simp[bV,dp,b];exact a,f⟩
  .next b=>let⟨n,e,d,a,f⟩:=h;exact⟨n+1,e,d,by simp[bV,dp,b];exact a,f⟩
  .exact h.elim
def qnE(x y):Jr c Q k s x y (.v (.bool O))=Go c Q (.code x::k) .normal s:=rfl
def qlH(x y):Jr c Q k s x y (.v (.bool Y))=Go c Q (.code y::k) .normal s:=rfl
def qlI(id l d){p}(g:ry ⟨l⟩ d=Y)(f:qz ⟨l⟩ d=Z p)(m:ma c.cfg.lo s.tm (jg ⟨l⟩) O=O)(h:Go c (λ e a=>vu a.tm ⟨l⟩ p=O/\Go c Q (.ops ⟨l⟩ O (oP ⟨l⟩)::k) .normal a) (.ops (jg ⟨l⟩) O (V (jg ⟨l⟩))::[]) .normal s):Go c Q (.code (.region id ⟨l⟩ d)::k) .normal s:=by
 let⟨a,o,j,b,n,i⟩:=h;refine⟨1,.normal,b,?_,i⟩;simp_all [bV,dp]
theorem go_region(id l d)(f:ry ⟨l⟩ d=Y)(b:qz ⟨l⟩ d=U):Go c Q (.code (.region id ⟨l⟩ d)::k) .normal s=(ma c.cfg.lo s.tm ⟨l⟩ d=O/\Go c Q (.ops ⟨l⟩ d l::k) .normal s):=by
 apply propext;constructor
 .rintro⟨n,e,i,a,h⟩;cases n with
  |zero=>simp[bV]at a
  |succ n=>
    simp[bV,dp,f,b]at a;split at a<;>cases a;next g j=>exact⟨g,_,j,h⟩
 .rintro⟨g,i,a,h⟩;exact⟨1,.normal,i,by simp[bV,dp,f,b];rw[g,a],h⟩
theorem qlg(id l d)(b:ry ⟨l⟩ d=O)(j:rz c.cfg.lo l=O)(e:nO c.cfg.lo ⟨l⟩=O)(m:ma c.cfg.lo s.tm ⟨bk c.cfg.lo l⟩ O=O)(h:Go c Q (.ops ⟨bk c.cfg.lo l⟩ O (bk c.cfg.lo l)::.ops ⟨l⟩ Y (alL c.cfg.lo l)::.ops ⟨l⟩ O (sd c.cfg.lo l)::k) .normal s):Go c Q (.code (.region id ⟨l⟩ d)::k) .normal s:=by
 let⟨i,p,g,o,a,n,f⟩:=h;refine⟨1,.normal,a,?_,f⟩;simp_all [bV,dp]
def qlM(os d):Go c Q (.ops os d []::k) .normal s=Go c Q k .normal s:=by
 apply propext;constructor
 .rintro⟨e,a,b⟩;simp[iz,dQ]at a;subst a;exact b
 .intro h;exact⟨s,rfl,h⟩
def IR(c:PC)(Q:Ex->S->Prop)(k:aa It)(e:aL Oper)(d l:Bool)(a:aa Oper)(b:ab Tmp)(tm:aa AV)(I:St):ab (AV×ab St)->Prop
 |Z (x,U)=>Go c Q (.ops e d a::k) .normal ⟨hS tm b x,I⟩
 |Z (x,Z σ')=>(d && !l)=Y/\Go c Q (.ops e d a::k) .normal ⟨hS tm b x,σ'⟩
 |U=>False
def Ik(c:PC)(Q:Ex->S->Prop)(k:aa It)(b:aL Oper)(d:Bool)(a:aa Oper)(o:Oper)(tm:aa AV)(I:St):ab Bool->Prop
 |Z O=>IR c Q k b d (cw c.cfg.lo o.op&&lR c.cfg b (b.size-(X a+1)) tm I o.op) a o.dst tm I (jk c tm I o.op)
 |Z Y=>Go c Q (.ops b d a::k) .normal ⟨hS tm o.dst xK,I⟩
 |U=>False
def qrS(os d o rest):Go c Q (.ops os d (o::rest)::k) .normal ⟨tm,I⟩=Ik c Q k os d rest o tm I (cT os tm o):=by
 apply propext;constructor
 .rintro⟨b,a,e⟩;simp only[iz]at a;unfold Ik;split at a
  .rename_i f;unfold IR;split at a
   .next x g=>exact⟨b,a,e⟩
   .rename_i x σ' g;split at a
    .cases a
    .next i=>exact⟨i,b,a,e⟩
   .cases a
  .next f=>exact⟨b,a,e⟩
  .cases a
 .intro h;unfold Ik at h;split at h
  .rename_i f;unfold IR at h;split at h
   .next x g=>let⟨b,a,e⟩:=h;exact⟨b,by simp[iz,f,g];exact a,e⟩
   .next x σ' g=>let⟨i,b,a,e⟩:=h;exact⟨b,by simp only[iz,f,g,i];exact a,e⟩
   .exact h.elim
  .next f=>let⟨b,a,e⟩:=h;exact⟨b,by simp[iz,f];exact a,e⟩
  .exact h.elim
end
end
section
open RowKit
def Sub(x y:AV):Prop:=∀Γ u,Rep Γ x u->Rep Γ y u
def Sub.refl(x:AV):Sub x x:=λ _ _ h=>h
inductive dK:List AV->List AV->Prop
 |nil:dK [] []
 |cons {x y:AV}{xs ys:List AV}:Sub x y->dK xs ys->dK (x::xs) (y::ys)
def dK.refl:∀xs,dK xs xs
 |[]=>.nil
 |x::xs=>.cons (.refl x) (.refl xs)
def dK.rep{Γ:Gh}:∀{xs ys:aa AV}{us:aa aj},dK xs ys->RepL Γ xs us->RepL Γ ys us
 |_,_,_,.nil,h=>h
 |_,_,us,.cons h t,g=>by
   obtain⟨u,r,rfl,b,a⟩:=g.uncons;exact .cons (h Γ u b) (t.rep a)
def dK.tup{xs ys:aa AV}(h:dK xs ys):Sub (.tup xs) (.tup ys):=by
 intro Γ u a;cases a with
 |tup cs us c b=>
   have:=h.rep (RepL.mk c b);exact .tup _ _ this.len this.rep
def qpR{P:aZ}{C:Cfg}{Γ:Gh}{I:St}{w:aA}(t:cZ P C){f:cI}{fn:Func}{c:Code}(F:P.funcs[f]?=Z fn)(E:fn.body=Z c)(o:iy c=O){b:aa AV}{a:aa aj}{r:AV×ab St}(s:Inv Γ I w)(q:RepL Γ b a)
  {n:Nat}{e:Ex}{d:S} (D:ee C n c (pZ fn I b)=Z (e,d)) (m:e=.ret\/e=.normal) (k:rt C fn I d=Z r):jB P Γ I w f a r:=by
 unfold jB;apply calls_of_wp F E;have l:Inv Γ (pZ fn I b).I w:=s.wr rfl rfl
 have B:ck Γ (pZ fn I b).tm {tmps:=a.toArray++Array.replicate (fn.ntmps-a.toArray.size) undef,defers:=[]}:=by
  show RepL Γ (b++List.replicate (fn.ntmps-X b) .dead) (V (a.toArray++Array.replicate (fn.ntmps-a.toArray.size) undef));rw[yL,yM];have:a.toArray.size=X b:=by simpa using q.len
  rw[this];exact q.append (zx Γ _)
 apply wp_mono (Nv t n c _ e d o D Γ w _ l B rfl);rintro L x w' ⟨rfl,o,Γ',K,u,H,G⟩;unfold rt at k;split at k<;>cases k;rename_i i j;let⟨v,A,z⟩:=F5 t.ty u H j;let⟨⟨h,u1,u2,u3⟩,u4⟩:=Za s K u G z
 have:x.defers=[]/\∃v,(results fn x.tmps).run P w'=.ok v w'/\∃g Γ',Ending.returned v=.returned g/\Ext Γ w Γ' w'/\Inv Γ' (turn I (mT I i d.I).2) w'/\Rep Γ' (mT I i d.I).1 g/\bN {I with wr:=[],wrr:=[]} (turn {I with wr:=[],wrr:=[]} (mT I i d.I).2):=
  ⟨o,v,A,v,h,rfl,u1,u2,u3,u4⟩
 obtain rfl|rfl:=m
 .exact this
 .exact this
def Ret(c:PC)(a:aa ResultVar)(b:AV->Prop)(e:Ex)(s:S):Prop:=
 (e=.ret\/e=.normal)/\match jz c.cfg s.tm s.I a with
  |Z l=>refs 0 0 (ne 0 s.I.rw (cy l))=Y/\b (ne 0 s.I.rw (cy l))
  |U=>False
def GoB(c:PC)(d:AV->Prop)(fn:Func)(a:aa AV):Prop:=
 match fn.body with
 |Z b=>Go c (Ret c (V fn.results) d) [.code b] .normal ⟨a++List.replicate (fn.ntmps-X a) .dead,emp⟩
 |U=>False
def je(fn:Func):Bool:=match fn.body with
 |Z a=>iy a && !(fn.name=="runtime.NumGoroutine")
 |U=>Y
def cZ.pur{P:aZ}{C:Cfg}(h:cZ P C)(p:Code->aa Nat)(q:Nat->Bool):cZ P {C with pur:=p,lo:=q}:=⟨h.mixed,h.ty,h.fn,h.prim,h.inl⟩
def qmz{P:aZ}{c:PC}(z:cZ P c.cfg){f:cI}{fn:Func}(E:P.funcs[f]?=Z fn)(m:je fn=O)(p:aa AV->ab AV)
  (h:∀d r,p d=Z r->∃a B p q,dK d a/\(∀v,B v->Sub v r)/\GoB {c with pur:=p,ld:=q} B fn a):cp P f (gg p):=by
 unfold je at m;cases s:fn.body with
 |none=>rw[s]at m;cases m
 |some cd=>
 rw[s]at m;simp only[aJ,eD]at m;let⟨hd,W⟩:=m;refine⟨⟨fn,E,by rw[s];rfl,W⟩,λ Γ I w d C r hi T o=>?_⟩;unfold gg at o;split at o<;>try cases o
 split at o<;>cases o;rename_i v S;let⟨a,B,t,x,g1,g2,j⟩:=h d v S;have z:cZ P (PC.cfg {c with pur:=t,ld:=x}):=z.pur t _;unfold GoB at j;rw[s]at j;let⟨n,e,g,g3,g4,A⟩:=j;split at A
 case h_2=>exact A.elim
 rename_i l y;let⟨G,F⟩:=A
 have H:nI (PC.cfg {c with pur:=t,ld:=x}) fn g=Z (cy l):=by
  unfold nI;rw[y]
 generalize cy l=u at H G F
 have y:rt (PC.cfg {c with pur:=t,ld:=x}) fn emp g=Z (ne 0 g.I.rw u,U):=by
  unfold rt;rw[H];simp only[mT];have K:(g.I.wr.filter λ b=>J (b<X emp.bx))=[]:=qsj.2 λ b _=>by simp[emp]
  have f2:(g.I.wrr.filter λ b=>J (b<X emp.rw))=[]:=qsj.2 λ b _=>by simp[emp]
  have hk:vm emp u g.I=Y:=by
   unfold vm;rw[K];show(refs 0 0 (ne 0 g.I.rw u)||false)=Y;rw[G];rfl
  rw[hk,K,f2];rfl
 have k:=qpR (f:=f) (I:=emp) z E s hd hi (g1.rep T) (MN WV g3) g4 y;apply Calls.mono k;rintro e' w' ⟨D,Γ',R,Q,N,M,L⟩;exact⟨D,Γ',R,Q,N,g2 _ F Γ' D M,L⟩
section
variable {c:PC}{Q:Ex->S->Prop}{k:aa It}{tm:aa AV}{I:St}{os:aL Oper}{d:Bool}{rest:aa Oper}{dst:ab Tmp}
def qmQ(o:Oper):Ik c Q k os d rest o tm I (Z O)=IR c Q k os d (cw c.cfg.lo o.op&&lR c.cfg os (os.size-(X rest+1)) tm I o.op) rest o.dst tm I (jk c tm I o.op):=rfl
end
end
end Go.AmZ
namespace Go.GxZ
open Go.RowKit
inductive T where
 |mk (kind:Int) (name:List UInt8) (sort:Int) (kids:List T)
namespace T
def kind:T->Int|mk k _ _ _=>k
def name:T->aa aN|mk _ n _ _=>n
def sort:T->Int|mk _ _ s _=>s
def kids:T->aa T|mk _ _ _ l=>l
def para{α:Type}(f:T->aa α->α)(t:T):α:=
 T.rec (motive_1:=λ _=>α) (motive_2:=λ _=>aa α) (λ k n s l c=>f (mk k n s l) c) [] (λ _ _ a b=>a::b) t
theorem para_eq{α : Type}(f:T->List α -> α)(t:T):para f t=f t (t.kids.map (para f)):=by
 obtain⟨k,n,s,l⟩:=t;show f (mk k n s l) _=f (mk k n s l) _;congr 1;show T.rec_1 (motive_1 := λ _ => α) (motive_2 := λ _=>List α) _ _ _ l=l.map (para f)
 induction l with
 | nil=>rfl
 | cons a l ih=>exact bB (para f a :: ·) ih
def ind{P:T->Prop}(h:∀t,(∀k∈t.kids,P k)->P t)(t:T):P t:=
 T.rec (motive_1:=P) (motive_2:=λ l=>∀k∈l,P k) (λ _ _ _ _ c=>h _ c) (λ k b=>by cases b)
  (λ a l e d k b=>by obtain rfl|b:=bi.1 b;exact e;exact d k b) t
end T
def nT{α:Type}(k:Nat)(R:α->aa aj->Prop)(Q:Nat->Prop)(w:aA)(a:ab Addr)(xs:aa α):Prop:=
 ∀(j:Nat) (x:α),xs[j]?=Z x->∃b off cs,a=Z ⟨b,off,U⟩/\Q b/\X cs=k/\(∀(i:Nat) (c:aj),cs[i]?=Z c->w.cell? ⟨b,off+j*k+i,U⟩=Z c)/\R x cs
def gh(Q:Nat->Prop)(w:aA):T->aa aj->Prop:=
 T.para λ t b cs=>∃a c,cs=[.int .i64 t.kind,.string ⟨t.name.toArray⟩,.int .i64 t.sort,.slice a (X b) c]/\nT 4 (λ r cs=>r cs) Q w a b
theorem GR{Q:Nat->Prop}{w:aA}{t:T}{cs:List aj}:
  gh Q w t cs↔∃a c,cs=[.int .i64 t.kind,.string ⟨t.name.toArray⟩,.int .i64 t.sort,.slice a t.kids.length c]/\nT 4 (gh Q w) Q w a t.kids:=by
 unfold gh;rw[T.para_eq];simp only[bO];refine exists_congr λ a=>exists_congr λ c=>and_congr Iff.rfl ?_;constructor
 .intro h j x d;obtain⟨b,off,cs,l,k,i,g,f⟩:=h j _ (by rw[df,d];rfl);grind
 .intro h j r d;rw[df,qb6]at d;obtain⟨x,e,rfl⟩:=d;exact h j x e
def nT.mono{α:Type}{k:Nat}{R R':α->aa aj->Prop}{Q d:Nat->Prop}{w:aA}{a:ab Addr}{xs:aa α}(h:nT k R Q w a xs)(f:∀b,Q b->d b)(e:∀x∈xs,∀cs,R x cs->R' x cs):nT k R' d w a xs:=
 λ j x c=>let⟨b,off,cs,h1,h2,h3,h4,h5⟩:=h j x c;⟨b,off,cs,h1,f b h2,h3,h4,e x (aK c) cs h5⟩
def nT.below{α:Type}{k:Nat}{R R':α->aa aj->Prop}{Q:Nat->Prop}{w w':aA}{a:ab Addr}{xs:aa α}(h:nT k R Q w a xs)(f:∀b,Q b->w'.heap[b]?=w.heap[b]?)(g:∀x∈xs,∀cs,R x cs->R' x cs):nT k R' Q w' a xs:=
 λ j x d=>let⟨b,off,cs,h1,h2,h3,h4,h5⟩:=h j x d;⟨b,off,cs,h1,h2,h3,λ i c e=>(World.cell?_of_block (w:=w) (a:=⟨b,off+j*k+i,U⟩) (f b h2)).trans (h4 i c e),g x (aK d) cs h5⟩
def gh.mono{Q d:Nat->Prop}{w:aA}(g:∀b,Q b->d b)(t:T):∀{cs:aa aj},gh Q w t cs->gh d w t cs:=by
 refine T.ind (P:=λ t=>∀{cs:aa aj},gh Q w t cs->gh d w t cs) ?_ t;intro t e cs h;rw[GR]at h |-
 let⟨a,c,j,i⟩:=h;exact⟨a,c,j,i.mono g λ x f cs h=>e x f h⟩
def gh.keep{Q:Nat->Prop}{w w':aA}(f:∀b,Q b->w'.heap[b]?=w.heap[b]?)(t:T):∀{cs:aa aj},gh Q w t cs->gh Q w' t cs:=by
 refine T.ind (P:=λ t=>∀{cs:aa aj},gh Q w t cs->gh Q w' t cs) ?_ t;intro t d cs h;rw[GR]at h |-
 let⟨a,c,i,g⟩:=h;exact⟨a,c,i,g.below f λ x e cs h=>d x e h⟩
def ZP(t:T)(a:ab Addr)(c:Nat):aa aj:=[.int .i64 t.kind,.string ⟨t.name.toArray⟩,.int .i64 t.sort,.slice a (X t.kids) c]
def kx(Q:Nat->Prop)(w:aA)(a:ab Addr)(l:aa T):Prop:=nT 4 (gh Q w) Q w a l
def gh.mk{Q:Nat->Prop}{w:aA}{t:T}{a:ab Addr}{c:Nat}(h:kx Q w a t.kids):gh Q w t (ZP t a c):=GR.2 ⟨a,c,rfl,h⟩
def gh.out{Q:Nat->Prop}{w:aA}{t:T}{cs:aa aj}(h:gh Q w t cs):∃a c,cs=ZP t a c/\kx Q w a t.kids:=GR.1 h
def kx.mono{Q d:Nat->Prop}{w:aA}{a:ab Addr}{l:aa T}(c:∀b,Q b->d b)(h:kx Q w a l):kx d w a l:=nT.mono h c λ _ _ _ h=>h.mono c
def kx.keep{Q:Nat->Prop}{w w':aA}{a:ab Addr}{l:aa T}(c:∀b,Q b->w'.heap[b]?=w.heap[b]?)(h:kx Q w a l):kx Q w' a l:=nT.below h c λ x _ _ h=>h.keep c x
def kx.at{Q:Nat->Prop}{w:aA}{a:ab Addr}{l:aa T}(h:kx Q w a l){j:Nat}{x:T}(f:l[j]?=Z x):
  ∃b off d e,a=Z ⟨b,off,U⟩/\Q b/\w.cell? ⟨b,off+j*4,U⟩=Z (.int .i64 x.kind)/\w.cell? ⟨b,off+j*4+1,U⟩=Z (.string ⟨x.name.toArray⟩)/\
   w.cell? ⟨b,off+j*4+2,U⟩=Z (.int .i64 x.sort)/\w.cell? ⟨b,off+j*4+3,U⟩=Z (.slice d (X x.kids) e)/\kx Q w d x.kids:=by
 let⟨b,off,cs,m,k,n,c,i⟩:=h j x f;obtain⟨d,e,rfl,g⟩:=i.out;exact⟨b,off,d,e,m,k,c 0 _ rfl,c 1 _ rfl,c 2 _ rfl,c 3 _ rfl,g⟩
def InW(Q:Nat->Prop)(w:aA):Prop:=∀b,Q b->b<w.heap.size
def InW.below{Q:Nat->Prop}{w w':aA}(h:InW Q w)(c:Below w.heap.size w w'):InW Q w':=λ b a=>dl (h b a) c.size
def kx.later{Q:Nat->Prop}{w w':aA}{a:ab Addr}{l:aa T}(h:kx Q w a l)(e:InW Q w)(d:Below w.heap.size w w'):kx Q w' a l:=h.keep λ b c=>d.block b (e b c)
def gh.later{Q:Nat->Prop}{w w':aA}{t:T}{cs:aa aj}(h:gh Q w t cs)(d:InW Q w)(c:Below w.heap.size w w'):gh Q w' t cs:=h.keep (λ b a=>c.block b (d b a)) t
end Go.GxZ
namespace Go.AmZ
open GxZ
section
def re(t:T):T:=.mk t.kind t.name t.sort t.kids
def ay(t:T):re t=t:=by let⟨k,n,s,l⟩:=t;rfl
inductive Ty where
 |int (k:IntKind)|bool|str|term|list (a:Ty)|pair (a b:Ty)|one (a:Ty)|map (a b:Ty)
 deriving DecidableEq
@[reducible] def Val:Ty->Type
  |.int _=>Int
  |.bool=>Bool
  |.str=>aa aN
  |.term=>T
  |.list a=>aa (Val a)
  |.pair a b=>Val a×Val b
  |.one a=>Val a
  |.map a b=>aa (Val a×Val b)
def Ty.size:Ty->Nat
 |.term=>4
 |.pair a b=>a.size+b.size
 |.one a=>a.size
 |_=>1
inductive TV where
 |i (k:IntKind) (n:Int)
 |b (x:Bool)
 |s (x:List UInt8)
 |c (x:aj)
 |nil
 |sl (τ:Ty) (l:List (Val τ)) (lv:Nat)
 |row (id ver:Nat)
 |ptr (b o:Nat)
 |pti (b:Nat) (i:Int)
 |rpt (id ver sv:Nat) (i:Int) (cs:List TV) (o:Nat)
 |ept (cs:List TV) (o:Nat)
 |fn (f:cI) (caps:List TV)
 |agg (cs:List TV)
 |tup (vs:List TV)
 |dead
 |mp (b:Nat)
 |mc (κ τ:Ty) (l:List (Val κ×Val τ))
structure cc where
 τ:Ty
 l:List (Val τ)
 ver:Nat
 sv:Nat
 sh:Bool
structure TS where
 bx:List (List TV)
 rw:List cc
abbrev Env:=aa (Nat×TV)
def get:Env->Nat->TV
 |[],_=>.dead
 |p::E,t=>match Nat.beq p.1 t with
   |O=>p.2
   |Y=>get E t
def lT:aj->TV
 |.bool b=>.b b
 |.int k n=>.i k n
 |.string s=>.s (V s.data)
 |.slice U 0 0=>.nil
 |x=>match cj x with
   |O=>.c x
   |Y=>.dead
def V2:aj->TV
 |.agg cs=>match cs.toList.all cj with
   |O=>.agg (cs.toList.map lT)
   |Y=>.dead
 |.tuple vs=>match V vs with
   |[]=>.tup []
   |_=>.dead
 |x=>lT x
def evT(E:Env):bw->TV
 |.tmp t=>get E t
 |.const x=>V2 x
 |.func f=>.fn f []
 |.global _=>.dead
def fd:TV->aa TV
 |.agg cs=>cs
 |x=>[x]
def mv:TV->Bool
 |.agg _|.tup _|.dead=>Y
 |_=>O
def jd:(τ:Ty)->Val τ->aa TV
 |.int k,n=>[.i k n]
 |.bool,b=>[.b b]
 |.str,s=>[.s s]
 |.term,t=>[.i .i64 t.kind,.s t.name,.i .i64 t.sort,.sl .term t.kids 1]
 |.list a,l=>[.sl a l 1]
 |.pair a b,p=>jd a p.1++jd b p.2
 |.one a,v=>jd a v
 |.map a b,l=>[.mc a b l]
def om:(τ:Ty)->Val τ->TV
 |.int k,n=>.i k n
 |.bool,b=>.b b
 |.str,s=>.s s
 |.list a,l=>.sl a l 1
 |.term,t=>.agg (jd .term t)
 |.pair a b,p=>.agg (jd (.pair a b) p)
 |.one a,v=>.agg (jd (.one a) v)
 |.map a b,l=>.mc a b l
def IS{c τ:Ty}(l:aa (Val c×Val τ))(a b:Ty):ab (aa (Val a×Val b)):=if h:c=a/\τ=b then Z (h.1▸h.2▸l)else U
def me{τ:Ty}(l:aa (Val τ))(a:Ty):ab (aa (Val a)):=if h:τ=a then Z (h▸l)else U
def rK(rw:aa cc)(a:Ty):TV->ab (aa (Val a))
 |.nil=>Z []
 |.sl _ l _=>me l a
 |.row id b=>match rw[id]? with
   |Z R=>match Nat.beq R.ver b with
     |O=>me R.l a
     |Y=>U
   |U=>U
 |_=>U
def O0(k:IntKind):aa TV->ab (Int×aa TV)
 |.i a n::r=>match J (a=k)with
   |O=>Z (n,r)
   |Y=>U
 |_=>U
def OD:aa TV->ab (Bool×aa TV)
 |.b x::r=>Z (x,r)
 |_=>U
def OY:aa TV->ab (aa aN×aa TV)
 |.s x::r=>Z (x,r)
 |_=>U
def OQ(a:TV->ab (aa T)):aa TV->ab (T×aa TV)
 |.i .i64 k::.s n::.i .i64 s::x::r=>match a x with
   |Z l=>Z (.mk k n s l,r)
   |U=>U
 |_=>U
def OB{a:Type}(b:TV->ab a):aa TV->ab (a×aa TV)
 |x::r=>match b x with
   |Z l=>Z (l,r)
   |U=>U
 |_=>U
def IK{I b a:Type}(p:aa I->ab (b×aa I))(q:aa I->ab (a×aa I))(cs:aa I):ab ((b×a)×aa I):=match p cs with
 |Z (x,r)=>match q r with
   |Z (y,r)=>Z ((x,y),r)
   |U=>U
 |U=>U
def O9(a b:Ty):aa TV->ab (aa (Val a×Val b)×aa TV)
 |.mc c τ l::r=>match IS l a b with
   |Z l=>Z (l,r)
   |U=>U
 |_=>U
def oQ(rw:aa cc):(τ:Ty)->aa TV->ab (Val τ×aa TV)
 |.int k=>O0 k
 |.bool=>OD
 |.str=>OY
 |.term=>OQ (rK rw .term)
 |.list a=>OB (rK rw a)
 |.pair a b=>IK (oQ rw a) (oQ rw b)
 |.one a=>oQ rw a
 |.map a b=>O9 a b
def Ty.agg:Ty->Bool
 |.term|.pair _ _|.one _=>O
 |_=>Y
def rP{a:Type}:ab (a×aa TV)->ab a
 |Z (v,[])=>Z v
 |_=>U
def Iu:TV->Bool
 |.agg _=>O
 |_=>Y
def jD(rw:aa cc)(τ:Ty)(x:TV):ab (Val τ):=match dj τ.agg (Iu x)with
 |O=>rP (oQ rw τ (fd x))
 |Y=>U
def xU(rw:aa cc)(τ:Ty):aa TV->ab (aa (Val τ))
 |[]=>Z []
 |x::l=>match jD rw τ x with
   |Z v=>match xU rw τ l with
     |Z vs=>Z (v::vs)
     |U=>U
   |U=>U
def rO:TV->Bool
 |.i .. |.b _|.s _|.c _|.nil|.sl .. |.fn .. |.mc .. => O
 |_=>Y
def oX:TV->Bool
 |.agg cs=>cs.all rO
 |x=>rO x
inductive ATy where
 |val (τ:Ty)|fn
@[reducible] def lf:aa ATy->Type
  |[]=>Unit
  |.val τ::r=>Val τ×lf r
  |.fn::r=>lf r
@[reducible] def kz:aa Ty->Type
  |[]=>Unit
  |[a]=>Val a
  |a::b::r=>Val a×kz (b::r)
def Z0{I:Type}:aa I->ab Unit
 |[]=>Z ()
 |_=>U
def oZ{I b a:Type}(p:I->ab b)(q:aa I->ab a):aa I->ab (b×a)
 |x::xs=>match p x with
   |Z v=>match q xs with
     |Z vs=>Z (v,vs)
     |U=>U
   |U=>U
 |[]=>U
def pFn{a:Type}(q:aa TV->ab a):aa TV->ab a
 |.fn _ []::xs=>q xs
 |_=>U
def Im(rw:aa cc):(ts:aa ATy)->aa TV->ab (lf ts)
 |[]=>Z0
 |.val τ::r=>oZ (jD rw τ) (Im rw r)
 |.fn::r=>pFn (Im rw r)
def qc:aa TV->aa Nat
 |[]=>[]
 |.fn f _::l=>f::qc l
 |_::l=>qc l
def unL:(ts:aa Ty)->kz ts->aa TV
 |[],_=>[]
 |[a],v=>[om a v]
 |a::b::r,v=>om a v.1::unL (b::r) v.2
def AX:aa TV->TV
 |[x]=>x
 |l=>.tup l
structure Sig where
 args:List ATy
 res:List Ty
 fn:lf args->Option (kz res)
inductive RA where
 |val (τ:Ty)|row (τ:Ty)
@[reducible] def RA.T:RA->Type
  |.val τ=>Val τ
  |.row τ=>aa (Val τ)
@[reducible] def CV:aa RA->Type
  |[]=>Unit
  |a::r=>a.T×CV r
@[reducible] def BV:aa RA->Type
  |[]=>Unit
  |[a]=>a.T
  |a::b::r=>CV (a::b::r)
def toC:(l:aa RA)->BV l->CV l
 |[],_=>()
 |[_],v=>(v,())
 |_::_::_,v=>v
def toB:(l:aa RA)->CV l->BV l
 |[],_=>()
 |[_],v=>v.1
 |_::_::_,v=>v
def nR:aa RA->Nat
 |[]=>0
 |.val _::r=>nR r
 |.row _::r=>nR r+1
inductive SA where
 |val (τ:Ty)|row (τ:Ty)|box (l:List RA)|nil|clo (g k:Nat)
inductive RE where
 |one (a:RA)|agg (l:List RA)
@[reducible] def iP:aa SA->Type
  |[]=>Unit
  |.val τ::r=>Val τ×iP r
  |.row τ::r=>aa (Val τ)×iP r
  |.box l::r=>BV l×iP r
  |.nil::r|.clo _ _::r=>iP r
@[reducible] def eV:aa SA->Type
  |[]=>Unit
  |.box l::r=>BV l×eV r
  |.nil::r|.val _::r|.row _::r|.clo _ _::r=>eV r
@[reducible] def RV:aa RE->Type
  |[]=>Unit
  |.one a::r=>a.T×RV r
  |.agg l::r=>CV l×RV r
def nrB:aa SA->Nat
 |[]=>0
 |.box l::r=>nR l+nrB r
 |.nil::r|.val _::r|.row _::r|.clo _ _::r=>nrB r
def nBx:aa SA->Nat
 |[]=>0
 |.box _::r=>nBx r+1
 |.nil::r|.val _::r|.row _::r|.clo _ _::r=>nBx r
def rI:aa SA->Bool
 |[]=>O
 |.row _::_=>Y
 |.box _::r|.nil::r|.val _::r|.clo _ _::r=>rI r
def oi:aa SA->Bool
 |[]=>O
 |.box _::r=>rI r&&oi r
 |.nil::r|.val _::r|.row _::r|.clo _ _::r=>oi r
structure vp where
 args:List SA
 res:List RE
 fn:iP args->Option (eV args×RV res)
structure vG where
 τ:Ty
 args:List SA
 fn:iP (.row τ::args)->Option (List (Val τ))
structure yu where
 args:List SA
 fn:iP args->Option Int
inductive Co where
 |keep|row (τ:Ty) (sh:Bool)|list (τ:Ty)|plist (τ:Ty)|box (cs:List Co)|fn (cs:List Co)
structure TC where
 ty:Nat->Option TD
 el:Nat->Option Ty
 has:Nat->Bool
 pf:Nat->List Nat->Option Sig
 sf:Nat->List Nat->Option vp
 loop:Nat->Option (List (Tmp×Co))
 join:Nat->Option (List (Tmp×Co))
 nt:Nat
 np:Nat
 ld:Nat->Bool
 mf:Nat->Option vG
 xf:Nat->Option yu
 inl:Nat->Option Func
def TC.rawT(c:TC)(f:Nat):Bool:=match c.has f with
 |O=>Y
 |Y=>match c.mf f with
   |Z _=>O
   |U=>match c.xf f with
     |Z _=>O
     |U=>match c.sf f []with
       |Z _=>O
       |U=>Y
def TC.loT(c:TC)(f:Nat):Bool:=c.rawT f||(c.ld f||(c.inl f).isSome)
abbrev TC.n2(c:TC):Nat×Nat:=(c.nt,c.np)
def ac{α b:Type}(x:ab α)(k:α->ab b):ab b:=match x with
 |Z a=>k a
 |U=>U
def yf{α c:Type}(x:ab c)(a:α)(f:c->α):α:=match x with
 |U=>a
 |Z b=>f b
def jE{α b:Type}(l:aa b)(a:α)(f:b->aa b->α):α:=match l with
 |[]=>a
 |x::r=>f x r
def ao{α:Type}(l:aa α)(j:Int):ab α:=if 0<=j then l[j.toNat]? else U
def ixb(j:Int)(n:Nat):Bool:=J (0<=j/\j<(n:Int))
def xN:aa TV->ab (aa Bool)
 |[]=>Z []
 |.b x::l=>match xN l with
   |Z r=>Z (x::r)
   |U=>U
 |_=>U
def qy:aa Bool->Int->Bool->Nat->aa Bool
 |[],_,_,_=>[]
 |e::l,i,v,j=>cond (ieq i (j:Int)) v e::qy l i v (j+1)
def inb(i:Int)(y:Nat):Bool:=J (0<=i/\i<=y)
def dJ{α:Type}(l:aa α)(j:Int)(v:α):aa α:=if 0<=j then l.set j.toNat v else l
def Ol(n:Int)(bytes:Nat):Bool:=J (0<=n/\n.toNat*bytes<=2^47/\n.toNat<2^62)
def Px:bw->bw->Bool
 |.tmp a,.tmp b=>Nat.beq a b
 |.const (.int k a),.const (.int c b)=>J (k=c)&&J (a=b)
 |_,_=>Y
def shA(I:TS):TS:=⟨I.bx,I.rw.map λ R=>⟨R.τ,R.l,R.ver,R.sv,O⟩⟩
def Be:Ty->Bool
 |.int _|.bool|.str=>O
 |_=>Y
def gq{α:Type}(l:aa α)(a b:Int):aa α:=(l.take b.toNat).drop a.toNat
def lg(a b:aa aN):Bool:=J (((X a+X b:Nat):Int)<=IntKind.i64.max)
def bD(n bytes:Nat):Bool:=J (n*bytes<=2^47/\n<2^62)
def bq(a b:aa aN):Bool:=a==b
def slt(a b:aa aN):Bool:=Op.bytesLess a b
def Od(l:aa Int):aa aN:=l.map λ n=>UInt8.ofNat n.toNat
def Ij(s:aa aN):aa Int:=s.map λ b=>((b.toNat:Nat):Int)
def NU:ab TD->Bool
 |Z ⟨_,_,_,_,.ptr⟩=>O
 |_=>Y
def OO:TV->TV->ab Bool
 |.c (.pointer U),.c (.pointer U)=>Z O
 |.ptr _ _,.c (.pointer U)|.rpt _ _ _ _ _ _,.c (.pointer U)|.ept _ _,.c (.pointer U)=>Z Y
 |_,_=>U
section
variable {α:Type}
abbrev KT(α:Type):=TV->ab TS->ab α
def Pe(op:mJ)(k:IntKind)(a b:Int)(K:TV->ab α):ab α:=
 match op with
 |.add=>K (.i k (iw k (aw a b)))
 |.sub=>K (.i k (iw k (eT a b)))
 |.mul=>K (.i k (iw k (qs a b)))
 |.quo=>cond (ieq b 0) U (K (.i k (iw k (Jf a b))))
 |.rem=>cond (ieq b 0) U (K (.i k (Jq a b)))
 |.and=>K (.i k (qx .and k a b))
 |.or=>K (.i k (qx .or k a b))
 |.xor=>K (.i k (qx .xor k a b))
 |.andNot=>K (.i k (qx .andNot k a b))
 |.eql=>K (.b (ieq a b))
 |.neq=>K (.b (ap (ieq a b)))
 |.lss=>K (.b (ilt a b))
 |.leq=>K (.b (ile a b))
 |.gtr=>K (.b (ilt b a))
 |.geq=>K (.b (ile b a))
 |_=>U
def Pz(op:mJ)(x y:aa aN)(K:TV->ab α):ab α:=
 match op with
 |.add=>cond (lg x y) (K (.s (x++y))) U
 |.eql=>K (.b (bq x y))
 |.neq=>K (.b (ap (bq x y)))
 |.lss=>K (.b (slt x y))
 |.leq=>K (.b (rY (slt x y) (bq x y)))
 |.gtr=>K (.b (ap (rY (slt x y) (bq x y))))
 |.geq=>K (.b (ap (slt x y)))
 |_=>U
def Il:ab TD->Bool
 |Z ⟨_,_,_,_,.bool⟩=>O
 |_=>Y
def PF(d:ab TD)(op:mJ)(x y:TV)(K:TV->ab α):ab α:=
 match x,y with
 |.i k a,.i c b=>match op with
   |.shl=>cond (ilt b 0) U (K (.i k (PZ k a b)))
   |.shr=>cond (ilt b 0) U (K (.i k (nh k a b)))
   |op=>match J (k=c)with
     |O=>Pe op k a b K
     |Y=>U
 |.s a,.s b=>Pz op a b K
 |.b a,.b b=>match op,Il d with
   |.eql,O=>K (.b (dj a b))
   |.neq,O=>K (.b (ap (dj a b)))
   |_,_=>U
 |_,_=>U
def IH(place:Nat->ab (Nat×Nat))(cells:aa TV):aa (Nat×TV)->ab (aa TV)
 |[]=>Z cells
 |(i,x)::a=>match place i with
   |U=>U
   |Z (off,size)=>match J (X (fd x)=size)&&J (off+size<=X cells)&&(fd x).all mv with
     |O=>IH place (cells.take off++(fd x++cells.drop (off+size))) a
     |Y=>U
def rN(a:Bool)(size:Nat)(cs:aa TV)(o:Nat):ab TV:=
 match a with
 |O=>match J (o+size<=X cs)with
   |O=>Z (.agg ((cs.drop o).take size))
   |Y=>U
 |Y=>cs[o]?
def oM(d:Int)(E:Env):ab bw->ab Int
 |U=>Z d
 |Z x=>match evT E x with
   |.i _ n=>Z n
   |_=>U
def veq:(c:Ty)->Val c->Val c->Bool
 |.int _,a,b=>ieq a b
 |.str,a,b=>bq a b
 |.bool,a,b=>dj a b
 |.pair c τ,a,b=>veq c a.1 b.1&&veq τ a.2 b.2
 |.one c,a,b=>veq c a b
 |_,_,_=>Y
def kcT:Ty->aa KC
 |.int k=>[.int k]
 |.str=>[.str]
 |.bool=>[.bool]
 |.pair a b=>kcT a++kcT b
 |.one a=>kcT a
 |_=>[]
def kr:Ty->Bool
 |.int _|.str|.bool=>O
 |.pair a b=>kr a&&kr b
 |.one a=>kr a
 |_=>Y
def dC{K W:Type}(eq:K->K->Bool):aa (K×W)->K->ab W
 |[],_=>U
 |p::l,k=>cond (eq k p.1) (Z p.2) (dC eq l k)
def lw{K W:Type}(eq:K->K->Bool)(z:W)(l:aa (K×W))(k:K):W:=yf (dC eq l k) z id
def oU{K W:Type}(eq:K->K->Bool)(l:aa (K×W))(k:K):Bool:=yf (dC eq l k) Y λ _=>O
def iW{K W:Type}(eq:K->K->Bool):aa (K×W)->K->W->aa (K×W)
 |[],k,v=>[(k,v)]
 |p::l,k,v=>cond (eq k p.1) ((p.1,v)::l) (p::iW eq l k v)
def Bh:aa TV->Bool
 |[.dead]|[.mc ..]=>Y
 |_=>O
def Bl(I:TS)(a τ:Ty):TV->ab (Nat×aa (Val a×Val τ))
 |.mp b=>match I.bx[b]? with
   |Z [.mc _ _ l]=>match IS l a τ with
     |Z l=>Z (b,l)
     |U=>U
   |_=>U
 |_=>U
def xY(c:TC)(t:Nat):ab (Ty×Ty):=match c.ty t,c.el t with
 |Z ⟨_,_,_,_,.map e f d b _⟩,Z (.map a τ)=>match J (e=kcT a)&&(dj f a.agg&&(dj d τ.agg&&(J (b=τ.size)&&kr a)))with
   |O=>Z (a,τ)
   |Y=>U
 |_,_=>U
def PO(c:TC)(t:Nat)(τ:Ty):ab (Val τ):=match c.ty t with
 |Z ⟨_,_,_,_,.map _ _ _ b a⟩=>match a.all cj&&J (X a=b)with
   |O=>rP (oQ [] τ (a.map lT))
   |Y=>U
 |_=>U
def yc(c:TC)(E:Env)(I:TS)(t:Nat)(m k v:bw)(K:KT α):ab α:=match xY c t with
 |Z (a,τ)=>match Bl I a τ (evT E m),oX (evT E v)with
   |Z (b,l),O=>match jD I.rw a (evT E k),jD I.rw τ (evT E v)with
     |Z k,Z v=>K (.tup []) (Z {I with bx:=I.bx.set b [.mc a τ (iW (veq a) l k v)]})
     |_,_=>U
   |_,_=>U
 |U=>U
def eG(c:TC)(E:Env)(I:TS)(op:Op)(K:KT α):ab α:=
 match op with
 |.move x|.assign x=>K (evT E x) U
 |.pick x a b=>match evT E x with
   |.b y=>cond y (K (evT E a) U) (K (evT E b) U)
   |_=>U
 |.alloc e=>match c.ty e with
   |Z d=>match d.zero.all cj with
     |O=>K (.ptr (X I.bx) 0) (Z {I with bx:=I.bx++[d.zero.map lT]})
     |Y=>U
   |U=>U
 |.box e x=>match c.ty e with
   |Z _=>match(fd (evT E x)).all mv with
     |O=>K (.ptr (X I.bx) 0) (Z {I with bx:=I.bx++[fd (evT E x)]})
     |Y=>U
   |U=>U
 |.build t parts=>match c.ty t with
   |Z ⟨_,_,_,z,.struct w⟩=>match z.all cj with
     |O=>match IH (λ i=>match w[i]? with|Z f=>Z (f.1,f.2.1)|U=>U) (z.map lT) (parts.toList.map λ p=>(p.1,evT E p.2))with
       |Z cs=>K (.agg cs) U
       |U=>U
     |Y=>U
   |_=>U
 |.buildSlice t n parts=>match c.ty t,c.el t with
   |Z ⟨_,_,_,_,.slice _ k _ _⟩,Z τ=>match J (k=τ.size)&&J (parts.size=n)&&J (n*k<=2^24)&&J (0<k)&&(parts.toList.zipIdx.all λ p=>J (p.1.1=p.2))with
     |O=>match xU I.rw τ (parts.toList.map λ p=>evT E p.2)with
       |Z vs=>K (.sl τ vs 2) (match(parts.toList.all λ p=>oX (evT E p.2))with|O=>U|Y=>Z (shA I))
       |U=>U
     |Y=>U
   |_,_=>U
 |.load t a=>match c.ty t with
   |Z d=>match evT E a with
     |.ptr b o=>match I.bx[b]? with
       |Z cs=>match Bh cs with
         |O=>match rN d.agg d.size cs o with
           |Z x=>K x U
           |U=>U
         |Y=>U
       |U=>U
     |.ept cs o=>match rN d.agg d.size cs o with
       |Z x=>K x U
       |U=>U
     |.pti b i=>match I.bx[b]? with
       |Z cs=>match d.agg,xN cs with
         |Y,Z l=>ac (ao l i) λ v=>K (.b v) U
         |_,_=>U
       |U=>U
     |.rpt id q u i cs o=>match I.rw[id]? with
       |Z R=>match Nat.beq R.ver q with
         |O=>match Nat.beq R.sv u with
           |O=>match rN d.agg d.size cs o with
             |Z x=>K x U
             |U=>U
           |Y=>match R.sh with
             |O=>U
             |Y=>ac (ao R.l i) λ v=>match rN d.agg d.size (jd R.τ v) o with
               |Z x=>K x U
               |U=>U
         |Y=>U
       |U=>U
     |_=>U
   |U=>U
 |.store t a x=>match c.ty t,evT E a with
   |Z d,.ptr b o=>match I.bx[b]? with
     |Z cs=>match Bh cs&&J (X (fd (evT E x))=d.size)&&J (o+d.size<=X cs)&&(fd (evT E x)).all mv with
       |O=>K (.tup []) (Z {I with bx:=I.bx.set b (cs.take o++(fd (evT E x)++cs.drop (o+d.size)))})
       |Y=>U
     |U=>U
   |Z d,.pti b i=>match I.bx[b]?,evT E x with
     |Z cs,.b v=>match xN cs,Nat.beq d.size 1 with
       |Z l,O=>cond (ixb i (X l)) (K (.tup []) (Z {I with bx:=I.bx.set b ((qy l i v 0).map .b)})) U
       |_,_=>U
     |_,_=>U
   |Z d,.rpt id q u i cs o=>match I.rw[id]? with
     |Z R=>match Nat.beq R.ver q&&Nat.beq R.sv u && !R.sh&&J (X (fd (evT E x))=d.size)&&J (o+d.size<=X cs)&&(fd (evT E x)).all rO with
       |O=>match rP (oQ I.rw R.τ (cs.take o++(fd (evT E x)++cs.drop (o+d.size))))with
         |Z v=>K (.tup []) (Z {I with rw:=I.rw.set id ⟨R.τ,dJ R.l i v,R.ver,R.sv+1,R.sh⟩})
         |U=>U
       |Y=>U
     |U=>U
   |_,_=>U
 |.makeSlice t n m=>match c.ty t,c.el t,evT E n with
   |Z ⟨_,_,_,_,.slice _ k bytes z⟩,Z τ,.i _ a=>match Px n m&&J (k=τ.size)&&J (0<k)&&J (X z=k)&&z.all cj with
     |O=>match rP (oQ [] τ (z.map lT))with
       |Z v=>cond (Ol a bytes) (K (.row (X I.rw) 0) (Z {I with rw:=I.rw++[⟨τ,List.replicate a.toNat v,0,0,Y⟩]})) U
       |U=>U
     |Y=>U
   |_,_,_=>U
 |.nilCheck x=>match evT E x with
   |.ptr b o=>K (.ptr b o) U
   |.ept cs o=>K (.ept cs o) U
   |.rpt id q u i cs o=>K (.rpt id q u i cs o) U
   |_=>U
 |.binOp op t x y _=>match OO (evT E x) (evT E y)with
   |Z b=>match op,NU (c.ty t)with
     |.eql,O=>K (.b b) U
     |.neq,O=>K (.b (!b)) U
     |_,_=>U
   |U=>PF (c.ty t) op (evT E x) (evT E y) λ v=>K v U
 |.unOp op _ x=>match op,evT E x with
   |.neg,.i k n=>K (.i k (iw k (eT 0 n))) U
   |.not,.b y=>K (.b (ap y)) U
   |_,_=>U
 |.convert s d x=>match c.ty s,c.ty d,evT E x with
   |Z _,Z ⟨_,_,_,_,.int k⟩,.i _ n=>K (.i k (iw k n)) U
   |Z _,Z ⟨_,_,_,_,.string⟩,.s y=>K (.s y) U
   |Z ⟨_,_,_,_,.slice e 1 _ _⟩,Z ⟨_,_,_,_,.string⟩,y=>match yD (c.ty e),rK I.rw (.int .u8) y with
     |O,Z l=>K (.s (Od l)) U
     |_,_=>U
   |_,_,_=>U
 |.makeFunc (.func f) w cs=>match V w with
   |[]=>K (.fn f (cs.toList.map (evT E))) U
   |_=>U
 |.slice t x lo A U=>match c.ty t,evT E x with
   |Z ⟨_,_,_,_,.string⟩,.s y=>match oM (X y) E A with
     |Z h=>match oM 0 E lo with
       |Z l=>cond (inb h (X y)) (cond (inb l h.toNat) (K (.s (gq y l h)) U) U) U
       |U=>U
     |U=>U
   |Z ⟨_,_,_,_,.slice _ k _ _⟩,.sl τ y D=>match J (τ.size=k)&&pos D with
     |O=>match oM (X y) E A with
       |Z h=>match oM 0 E lo with
         |Z l=>cond (inb h (X y)) (cond (inb l h.toNat) (K (.sl τ (gq y l h) 1) U) U) U
         |U=>U
       |U=>U
     |Y=>U
   |Z ⟨_,_,_,_,.slice _ _ _ _⟩,.nil=>match oM 0 E A with
     |Z h=>match oM 0 E lo with
       |Z l=>cond (inb h 0) (cond (inb l h.toNat) (K .nil U) U) U
       |U=>U
     |U=>U
   |Z ⟨_,_,_,_,.slice _ k _ _⟩,.row id q=>match A,I.rw[id]? with
     |U,Z R=>match Nat.beq R.ver q&&J (R.τ.size=k)with
       |O=>match oM 0 E lo with
         |Z l=>cond (inb l (X R.l)) (K (.row id (q+1)) (Z {I with rw:=I.rw.set id ⟨R.τ,R.l.drop l.toNat,q+1,R.sv,O⟩})) U
         |U=>U
       |Y=>U
     |_,_=>U
   |_,_=>U
 |.fieldAddr t x i=>match c.ty t with
   |Z ⟨_,_,_,_,.struct w⟩=>match w[i]? with
     |Z (off,size,_)=>match size with
       |0=>U
       |_+1=>match evT E x with
         |.ptr b o=>K (.ptr b (o+off)) U
         |.ept cs o=>K (.ept cs (o+off)) U
         |.rpt id q u i cs o=>K (.rpt id q u i cs (o+off)) U
         |_=>U
     |U=>U
   |_=>U
 |.field t x i=>match c.ty t,evT E x with
   |Z ⟨_,_,_,_,.struct w⟩,.agg cs=>match w[i]? with
     |Z (off,size,g)=>match rN g size cs off with
       |Z y=>K y U
       |U=>U
     |U=>U
   |_,_=>U
 |.indexAddr t x i=>match c.ty t,evT E i with
   |Z ⟨_,_,_,_,.slice _ k _ _⟩,.i _ j=>match evT E x with
     |.sl τ l _=>match J (τ.size=k)with
       |O=>ac (ao l j) λ v=>K (.ept (jd τ v) 0) U
       |Y=>U
     |.row id q=>match I.rw[id]? with
       |Z R=>match Nat.beq R.ver q&&J (R.τ.size=k)with
         |O=>ac (ao R.l j) λ v=>K (.rpt id q R.sv j (jd R.τ v) 0) U
         |Y=>U
       |U=>U
     |_=>U
   |Z ⟨_,_,_,_,.array n _ 1⟩,.i _ j=>match evT E x with
     |.ptr b 0=>cond (ixb j n) (K (.pti b j) U) U
     |_=>U
   |_,_=>U
 |.index t x i=>match c.ty t,evT E x,evT E i with
   |Z ⟨_,_,_,_,.string⟩,.s y,.i _ j=>ac (ao y j) λ v=>K (.i .u8 v.toNat) U
   |_,_,_=>U
 |.extract x i=>match evT E x with
   |.tup vs=>match vs[i]? with
     |Z y=>K y U
     |U=>U
   |_=>U
 |.makeMap t U=>match xY c t with
   |Z (r,τ)=>K (.mp (X I.bx)) (Z {I with bx:=I.bx++[[.mc r τ []]]})
   |U=>U
 |.lookup t m k C=>match xY c t with
   |Z (r,τ)=>match Bl I r τ (evT E m),PO c t τ,jD I.rw r (evT E k)with
     |Z (_,l),Z z,Z k=>match C with
       |O=>K (.tup [om τ (lw (veq r) z l k),.b (oU (veq r) l k)]) U
       |Y=>K (om τ (lw (veq r) z l k)) U
     |_,_,_=>U
   |U=>U
 |.mapUpdate t m k v|.insert t m k v=>yc c E I t m k v K
 |_=>U
def I0(k bytes:Nat)(I:TS)(τ:Ty)(s:TV)(xs:aa (Val τ))(K:KT α):ab α:=
 match s with
 |.nil=>jE xs (K .nil U) λ x r=>cond (bD (X r+1) bytes) (K (.row (X I.rw) 0) (Z {I with rw:=I.rw++[⟨τ,x::r,0,0,Y⟩]})) U
 |.sl b l c=>match J (1<c)with
   |O=>match me l τ with
     |Z l=>cond (bD (X l+X xs) bytes) (jE xs (K s U) λ x r=>K (.row (X I.rw) 0) (Z {I with rw:=I.rw++[⟨τ,l++(x::r),0,0,Y⟩]})) U
     |U=>U
   |Y=>U
 |.row id a=>match I.rw[id]? with
   |Z R=>match Nat.beq R.ver a with
     |O=>match me R.l τ with
       |Z l=>cond (bD (X l+X xs) bytes) (K (.row id (a+1)) (Z {I with rw:=I.rw.set id ⟨τ,l++xs,a+1,R.sv,R.sh⟩})) U
       |U=>U
     |Y=>U
   |U=>U
 |_=>U
def MS(c:TC)(I:TS)(b:Builtin)(ts:aL aQ)(f:aa TV)(K:KT α):ab α:=
 match b,f with
 |.len,[x]=>match ts[0]? with
   |Z t=>match c.ty t with
     |Z d=>match d.k,x with
       |.string,.s y=>K (.i .i64 (X y)) U
       |.slice ..,.nil=>K (.i .i64 0) U
       |.slice ..,.sl _ l _=>K (.i .i64 (X l)) U
       |.slice ..,.row id g=>match I.rw[id]? with
         |Z R=>match Nat.beq R.ver g with
           |O=>K (.i .i64 (X R.l)) U
           |Y=>U
         |U=>U
       |.map ..,.mp b=>match xY c t with
         |Z (j,τ)=>match Bl I j τ (.mp b)with
           |Z (_,l)=>K (.i .i64 (X l)) U
           |U=>U
         |U=>U
       |_,_=>U
     |U=>U
   |U=>U
 |.append,[s,x]=>match ts[0]?,ts[1]? with
   |Z t,Z u=>match c.ty t,c.ty u,c.el t with
     |Z ⟨_,_,_,_,.slice _ k bytes z⟩,Z ⟨_,_,_,_,.slice _ _ _ _⟩,Z τ=>match J (0<k)&&J (X z=k)&&J (k=τ.size)with
       |O=>match rK I.rw τ x with
         |Z xs=>I0 k bytes I τ s xs K
         |U=>U
       |Y=>U
     |Z ⟨_,_,_,_,.slice e 1 bytes z⟩,Z ⟨_,_,_,_,.string⟩,Z (.int .u8)=>match J (X z=1)&&yD (c.ty e),x with
       |O,.s y=>I0 1 bytes I (.int .u8) s (Ij y) K
       |_,_=>U
     |_,_,_=>U
   |_,_=>U
 |.max,[.i k a,.i h b]=>match J (k=h)with|O=>K (.i k (pb a b)) U|Y=>U
 |.min,[.i k a,.i h b]=>match J (k=h)with|O=>K (.i k (OT a b)) U|Y=>U
 |_,_=>U
def ms(rw:aa cc)(τ:Ty):TV->ab (aa (Val τ)×aa Nat)
 |.nil=>Z ([],[])
 |.sl a l c=>match me l τ,J (1<c)with
   |Z [],O=>Z ([],[])
   |_,_=>U
 |.row id b=>match rw[id]? with
   |Z R=>match Nat.beq R.ver b && !R.sh with
     |O=>match me R.l τ with
       |Z l=>Z (l,[id])
       |U=>U
     |Y=>U
   |U=>U
 |_=>U
def fo(rw:aa cc):(l:aa RA)->aa TV->ab (CV l×aa Nat×Bool)
 |[],[]=>Z ((),[],O)
 |[],_::_=>U
 |.val τ::r,cs=>match rP (oQ rw τ (cs.take τ.size)),fo rw r (cs.drop τ.size)with
   |Z v,Z (vs,a,q)=>Z ((v,vs),a,(cs.take τ.size).all rO&&q)
   |_,_=>U
 |.row τ::r,c::cs=>match ms rw τ c,fo rw r cs with
   |Z (v,i),Z (vs,a,q)=>Z ((v,vs),i++a,q)
   |_,_=>U
 |.row _::_,[]=>U
def uT:aa RA->Bool
 |[.val (.map _ _)]=>O
 |_=>Y
def bxT(l:aa RA)(b:Nat):TV:=match uT l with
 |O=>.mp b
 |Y=>.ptr b 0
def Jt(l:aa RA)(x:TV):ab Nat:=match uT l,x with
 |O,.mp b|Y,.ptr b 0=>Z b
 |_,_=>U
def P7(rw:aa cc)(c:aa (aa TV))(l:aa RA)(x:TV):ab (CV l×aa Nat×Nat):=match Jt l x with
 |Z b=>match c[b]? with
   |Z cs=>match fo rw l cs with
     |Z (v,a,O)=>Z (v,a,b)
     |_=>U
   |U=>U
 |U=>U
def cD(I:TS):(sas:aa SA)->aa TV->ab (iP sas×aa Nat×aa Nat)
 |[],[]=>Z ((),[],[])
 |.val τ::r,x::xs=>match oX x,jD I.rw τ x with
   |O,Z v=>match cD I r xs with
     |Z (vs,q)=>Z ((v,vs),q)
     |U=>U
   |_,_=>U
 |.row τ::r,x::xs=>match ms I.rw τ x with
   |Z (l,a)=>match cD I r xs with
     |Z (vs,d,c)=>Z ((l,vs),d,a++c)
     |U=>U
   |U=>U
 |.box l::r,x::xs=>match P7 I.rw I.bx l x with
   |Z (v,a,b)=>match cD I r xs with
     |Z (vs,d,c)=>Z ((toB l v,vs),b::d,a++c)
     |U=>U
   |U=>U
 |.nil::r,.nil::xs=>cD I r xs
 |.clo g k::r,.fn e cs::xs=>match Nat.beq g e&&Nat.beq (X cs) k with
   |O=>cD I r (cs++xs)
   |Y=>U
 |_,_=>U
def ndN:aa Nat->Bool
 |[]=>O
 |b::l=>(l.all λ c => !Nat.beq b c)&&ndN l
def md(rw:aa cc)(a:aa Nat):aa cc:=a.foldl (λ l i=>l.modify i λ R=>⟨R.τ,[],R.ver+1,R.sv,Y⟩) rw
def pX:(l:aa RA)->Nat->CV l->aa TV
 |[],_,_=>[]
 |.val τ::r,L,v=>jd τ v.1++pX r L v.2
 |.row _::r,L,v=>.row L 0::pX r (L+1) v.2
def lk:(l:aa RA)->CV l->aa cc
 |[],_=>[]
 |.val _::r,v=>lk r v.2
 |.row τ::r,v=>⟨τ,v.1,0,0,Y⟩::lk r v.2
def jJ:(sas:aa SA)->Nat->eV sas->aa (aa TV)
 |[],_,_=>[]
 |.box l::r,L,o=>pX l L (toC l o.1)::jJ r (L+nR l) o.2
 |.nil::r,L,o|.val _::r,L,o|.row _::r,L,o|.clo _ _::r,L,o=>jJ r L o
def fT:(sas:aa SA)->eV sas->aa cc
 |[],_=>[]
 |.box l::r,o=>lk l (toC l o.1)++fT r o.2
 |.nil::r,o|.val _::r,o|.row _::r,o|.clo _ _::r,o=>fT r o
def rM(a:aa (aa TV)):aa Nat->aa (aa TV)->aa (aa TV)
 |b::c,x::xs=>rM (a.set b x) c xs
 |_,_=>a
def yt(nb NB:Nat):(a:aa RE)->Nat->RV a->aa TV
 |[],_,_=>[]
 |.one (.val τ)::r,L,v=>om τ v.1::yt nb NB r L v.2
 |.one (.row _)::r,L,v=>.row L 0::yt nb NB r (L+1) v.2
 |.agg l::r,L,v=>.agg (pX l L v.1)::yt nb NB r (L+nR l) v.2
def yv:(a:aa RE)->RV a->aa cc
 |[],_=>[]
 |.one (.val _)::r,v=>yv r v.2
 |.one (.row τ)::r,v=>⟨τ,v.1,0,0,Y⟩::yv r v.2
 |.agg l::r,v=>lk l v.1++yv r v.2
def yl:(a:aa RE)->Nat->RV a->aa (aa TV)
 |[],_,_=>[]
 |.one (.val _)::r,L,v=>yl r L v.2
 |.one (.row _)::r,L,v=>yl r (L+1) v.2
 |.agg l::r,L,v=>yl r (L+nR l) v.2
def nRA:RA->Nat
 |.val _=>0
 |.row _=>1
def uW(rws:aa cc):(f:aa RE)->Nat->Nat->RV f->((c:aa RE)->RV c->ab α)->ab α
 |[],_,_,_,k=>k [] ()
 |.one a::r,nb,d,v,k=>uW rws r nb (d+nRA a) v.2 λ e b=>k (.one a::e) (v.1,b)
 |.agg l::r,nb,d,v,k=>uW rws r nb (d+nR l) v.2 λ e b=>k (.agg l::e) (v.1,b)
def NW(I:TS)(g:vG)(b:aa TV)(K:KT α):ab α:=match b with
 |x::xs=>match ms I.rw g.τ x,cD I g.args xs with
   |Z (l,c),Z (a,[],[])=>match oi g.args with
     |O=>match c with
       |[id]=>ac (g.fn (l,a)) λ v=>cond (Nat.beq (X v) (X l)) (K (.tup []) (Z ⟨I.bx,I.rw.modify id λ R=>⟨g.τ,v,R.ver,R.sv+1,Y⟩⟩)) U
       |[]=>ac (g.fn (l,a)) λ v=>cond (Nat.beq (X v) (X l)) (K (.tup []) U) U
       |_=>U
     |Y=>U
   |_,_=>U
 |[]=>U
def NT(I:TS)(g:yu)(b:aa TV)(K:KT α):ab α:=match cD I g.args b with
 |Z (a,d,c)=>match ndN d&&(ndN c&&oi g.args)with
   |O=>ac (g.fn a) λ v=>K (.i .i64 v) U
   |Y=>U
 |U=>U
def Iq(c:TC)(I:TS)(f:Nat)(b:aa TV)(K:KT α):ab α:=match c.mf f with
 |Z g=>NW I g b K
 |U=>match c.xf f with
   |Z g=>NT I g b K
   |U=>match c.sf f [],c.sf f (qc b)with
     |Z _,Z g=>match cD I g.args b with
       |Z (a,i,h)=>match ndN i&&(ndN h&&oi g.args)with
         |O=>ac (g.fn a) λ v=>uW (fT g.args v.1) g.res (nBx g.args) (nrB g.args) v.2 λ d e=>K (AX (yt (X I.bx) (nBx g.args) d (X I.rw+nrB g.args) e)) (Z ⟨rM I.bx i (jJ g.args (X I.rw) v.1)++yl d (X I.rw+nrB g.args) e,md I.rw h++(fT g.args v.1++yv d e)⟩)
         |Y=>U
       |U=>U
     |_,_=>U
def OP(c:TC)(I:TS)(f:Nat)(a:aa TV)(K:KT α):ab α:=
 match c.has f,c.pf f (qc a)with
 |O,Z g=>match Im I.rw g.args a with
   |Z sas=>ac (g.fn sas) λ v=>K (AX (unL g.res v)) (match a.all oX||g.res.all Be with|O=>U|Y=>Z (shA I))
   |U=>U
 |O,U=>U
 |Y,_=>Iq c I f a K
def opT(c:TC)(E:Env)(I:TS)(op:Op)(K:KT α):ab α:=
 match op with
 |.call ⟨.builtin b,a,ts⟩=>MS c I b ts (a.toList.map (evT E)) K
 |.call ⟨.value g,a,_⟩=>match evT E g with
   |.fn f cs=>match c.inl f with
     |Z _=>U
     |U=>match cs with
       |[]=>OP c I f (a.toList.map (evT E)) K
       |x::cs=>match c.has f with
         |O=>U
         |Y=>Iq c I f (a.toList.map (evT E)++(x::cs)) K
   |_=>U
 |.call _=>U
 |op=>eG c E I op K
def Bx(c:TC)(E:Env)(d:ab Tmp)(x:TV)(K:Env->ab α):ab α:=match d with
 |U=>K E
 |Z d=>match Nat.blt d c.nt with
   |O=>K ((d,x)::E)
   |Y=>U
def OL(ops:aL Oper)(E:Env)(o:Oper)(K:Bool->Env->ab α):ab α:=
 match o.guard with
 |U=>K O E
 |Z (j,a)=>match(ops[j]?).bind (·.dst)with
   |U=>U
   |Z d=>match get E d with
     |.b x=>match a with
       |O=>cond x (K O ((d,.b O)::E)) (K Y ((d,.b Y)::E))
       |Y=>cond x (K Y ((d,.b O)::E)) (K O ((d,.b Y)::E))
     |.tup []=>K Y E
     |_=>U
end
def qn(E:Env)(ops:aL Oper)(k:Nat)(t:Tmp):ab Nat:=match IZ ops k t with
 |Z u=>match get E u with
   |.ptr b _=>Z b
   |_=>U
 |U=>U
def Qi(E:Env)(ops:aL Oper)(k:Nat)(t:Tmp):Bool:=match IZ ops k t with
 |Z u=>match get E u with
   |.rpt .. => O
   |_=>Y
 |U=>Y
mutual
def rbT:TV->ab (aa Nat)
 |.ptr b _|.mp b|.pti b _=>Z [b]
 |.fn _ cs|.agg cs|.tup cs=>rX cs
 |.dead=>U
 |_=>Z []
def rX:aa TV->ab (aa Nat)
 |[]=>Z []
 |x::l=>match rbT x,rX l with
   |Z a,Z b=>Z (a++b)
   |_,_=>U
end
def PJ(I:TS)(b:Nat):Bool:=match I.bx[b]? with
 |Z cs=>match rX cs with
   |Z []=>O
   |_=>Y
 |U=>Y
def Zm(c:TC)(E:Env)(I:TS):Op->ab (aa Nat)
 |.call ⟨.value g,as,_⟩=>match evT E g with
   |.fn f cs=>match(c.inl f).isSome,rX (as.toList.map (evT E)++cs)with
     |Y,Z l=>match l.all (PJ I)with
       |O=>Z l
       |Y=>U
     |_,_=>U
   |_=>U
 |_=>U
def IA(c:TC)(ops:aL Oper)(j:Nat)(E:Env)(I:TS)(op:Op):Bool := !NM op||ops.toList.zipIdx.all λ(q,i)=>match q.op with
 |.load _ (.tmp a)=>((fH (V ops) []).getD (max i j) 0).testBit (min i j)||match qn E ops i a,Zm c E I op with
   |Z y,Z l=>Nat.blt y (X I.bx)&&l.all λ c => !Nat.beq c y
   |_,_=>Y
 |_=>O
section
variable {α:Type}
def nf(d:Env->TS->Op->KT α->ab α)(c:TC)(ops:aL Oper)(b:Bool):aa Oper->Env->TS->(Env->TS->ab α)->ab α
 |[],E,I,K=>K E I
 |o::a,E,I,K=>OL ops E o λ w E=>match w with
   |O=>d E I o.op λ x σ'=>match σ' with
     |U=>Bx c E o.dst x λ E=>nf d c ops b a E I K
     |Z σ'=>match b && !(cw c.loT o.op&&IA c ops (ops.size-(X a+1)) E I o.op)with
       |O=>U
       |Y=>Bx c E o.dst x λ E=>nf d c ops b a E σ' K
   |Y=>Bx c E o.dst (.tup []) λ E=>nf d c ops b a E I K
structure Mv where
 E:Env
 bx:List (List TV)
 rw:List cc
 mb:List (Nat×Nat)
 mr:List (Nat×Nat)
def ew(l:aa (Nat×Nat))(b:Nat):ab Nat:=match l with
 |[]=>U
 |p::r=>match Nat.beq p.1 b with
   |O=>Z p.2
   |Y=>ew r b
def Og:TV->Bool
 |.i .. |.b _|.s _|.c _|.nil|.sl .. => O
 |.fn _ cs=>cs.isEmpty
 |.agg cs=>cs.all λ|.i .. |.b _|.s _|.c _|.nil|.sl .. => O|_=>Y
 |_=>Y
mutual
def mvT(I:TS)(k:Co)(x:TV)(m:Mv)(K:TV->Mv->ab α):ab α:=
 match k with
 |.keep=>match Og x with
   |O=>K x m
   |Y=>K .dead m
 |.list τ=>match x with
   |.nil=>K (.sl τ [] 1) m
   |.sl a l _=>match me l τ with
     |Z l=>K (.sl τ l 1) m
     |U=>U
   |_=>K .dead m
 |.plist τ=>match x with
   |.nil=>K (.sl τ [] 1) m
   |.sl a l _=>match me l τ with
     |Z l=>K (.sl τ l 1) m
     |U=>U
   |_=>K .dead m
 |.row τ d=>match x with
   |.nil=>K (.row (X m.rw) 0) {m with rw:=m.rw++[⟨τ,[],0,0,d⟩]}
   |.sl a l j=>match me l τ,J (1<j)with
     |Z l,O=>match d with
       |O=>K (.row (X m.rw) 0) {m with rw:=m.rw++[⟨τ,l,0,0,O⟩]}
       |Y=>match l with
         |[]=>K (.row (X m.rw) 0) {m with rw:=m.rw++[⟨τ,[],0,0,Y⟩]}
         |_=>U
     |_,_=>U
   |.row id e=>match I.rw[id]? with
     |Z R=>match Nat.beq R.ver e&&(d || !R.sh)with
       |O=>match me R.l τ with
         |Z l=>match ew m.mr id with
           |Z g=>K (.row g 0) m
           |U=>K (.row (X m.rw) 0) {m with rw:=m.rw++[⟨τ,l,0,0,d⟩],mr:=(id,X m.rw)::m.mr}
         |U=>U
       |Y=>U
     |U=>U
   |_=>U
 |.fn cs=>match x with
   |.fn f xs=>mvL I cs xs m λ ys m=>K (.fn f ys) m
   |_=>U
 |.box cs=>match x with
   |.ptr b 0=>match ew m.mb b with
     |Z h=>K (.ptr h 0) m
     |U=>match I.bx[b]? with
       |Z xs=>mvL I cs xs m λ ys m=>match ew m.mb b with
         |U=>K (.ptr (X m.bx) 0) {m with bx:=m.bx++[ys],mb:=(b,X m.bx)::m.mb}
         |Z _=>U
       |U=>U
   |.c v=>K (.c v) m
   |.mp b=>match ew m.mb b with
     |Z h=>K (.mp h) m
     |U=>match I.bx[b]? with
       |Z [.mc i τ l]=>K (.mp (X m.bx)) {m with bx:=m.bx++[[.mc i τ l]],mb:=(b,X m.bx)::m.mb}
       |_=>U
   |_=>U
def mvL(I:TS)(cs:aa Co)(xs:aa TV)(m:Mv)(K:aa TV->Mv->ab α):ab α:=
 match cs,xs with
 |[],[]=>K [] m
 |co::cs,x::xs=>mvT I co x m λ y m=>mvL I cs xs m λ ys m=>K (y::ys) m
 |_,_=>U
end
def Bz(a:aa (Nat×Nat)):Nat->Bool
 |0=>O
 |n+1=>(match ew a n with|Z j=>Nat.beq n j|U=>Y)&&Bz a n
def mvE(a:Nat)(I:TS)(E:Env):aa (Tmp×Co)->Mv->(Env->TS->ab α)->ab α
 |[],m,K=>match Bz m.mb a with
   |O=>K m.E ⟨m.bx,m.rw⟩
   |Y=>U
 |(t,b)::r,m,K=>mvT I b (get E t) m λ y m=>mvE a I E r {m with E:=m.E++[(t,y)]} K
def Oy(E:Env)(I:TS)(t:Tmp)(τ:Ty)(K:Env->TS->ab α):ab α:=match get E t with
 |.i .. => K E I
 |.b _|.s _|.c _|.nil=>K E I
 |.sl .. => K E I
 |.row id a=>match I.rw[id]? with
   |Z R=>match Nat.beq R.ver a with
     |O=>match me R.l τ with
       |Z l=>K ((t,.sl τ l 1)::E) (shA I)
       |U=>U
     |Y=>U
   |U=>U
 |.dead=>K E (shA I)
 |_=>U
def vq:aa (Tmp×Co)->Env->TS->(Env->TS->ab α)->ab α
 |[],E,I,K=>K E I
 |(t,a)::r,E,I,K=>match a with
   |.plist τ=>Oy E I t τ λ E I=>vq r E I K
   |_=>vq r E I K
def H5(E:Env)(ops:aL Oper)(j:Nat)(o:Oper)(i:Nat)(q:Oper):Bool:=match o.op,q.op with
 |.store _ (.tmp a) _,.load _ (.tmp b)=>match qn E ops j a,qn E ops i b with
   |Z x,Z y => !Nat.beq x y
   |Z _,U=>Qi E ops i b
   |_,_=>Y
 |.call ⟨.builtin .append,_,_⟩,.load _ (.tmp b)|.call ⟨.value _,_,_⟩,.load _ (.tmp b)=>(qn E ops i b).isSome
 |_,_=>Y
def ZN(a:Nat->Bool)(E:Env)(ops:aL Oper)(j:Nat)(o:Oper)(i:Nat)(q:Oper):Bool:=
 (match q.dst with|Z d=>(looks ops o).contains d|U=>Y)||(uZ a o q && !(H5 E ops j o i q||H5 E ops i q j o))
def xX(c:Nat->Bool)(E:Env)(ops:aL Oper)(a:Bool):Bool:=match a with
 |O=>
   let b:=fH (V ops) []
   ops.toList.zipIdx.all λ(o,j)=>((cY o).all λ e=>J (e<j))&&ops.toList.zipIdx.all λ(q,i)=>
    decide (i=j) || !ZN c E ops j o i q||(b.getD (max i j) 0).testBit (min i j)
 |Y=>O
def lX:Nat->aa TV->Env
 |_,[]=>[]
 |n,x::l=>(n,x)::lX (n+1) l
def qm(c:TC)(E:Env)(I:TS):ResultVar->ab TV
 |.tmp t=>Z (get E t)
 |.cell a t=>match c.ty t,get E a with
   |Z d,.ptr b o=>match I.bx[b]? with
     |Z cs=>match Bh cs with
       |O=>rN d.agg d.size cs o
       |Y=>U
     |U=>U
   |_,_=>U
def vJ:Code->Nat
 |.seq a b=>max (vJ a) (vJ b)+1
 |_=>1
section
variable {α:Type}
def rJ(c:TC):Code->Env->TS->(Env->TS->ab α)->ab α
 |.skip,E,I,K=>K E I
 |.seq a b,E,I,K=>rJ c a E I λ E I=>rJ c b E I K
 |.region _ ops d,E,I,K=>match ry ops d,qz ops d with
   |Y,U=>match xX c.loT E ops d with
     |O=>nf (opT c) c ops d (V ops) E I K
     |Y=>U
   |_,_=>U
 |_,_,_,_=>U
def BF(c:TC)(E:Env)(I:TS):aa ResultVar->ab (aa TV)
 |[]=>Z []
 |r::l=>match qm c E I r with
   |Z x=>match BF c E I l with
     |Z xs=>Z (x::xs)
     |U=>U
   |U=>U
def Pg(c:TC)(fn:Func)(I:TS)(xs:aa TV)(K:KT α):ab α:=match fn.body with
 |Z a=>match Nat.ble (X xs) fn.ntmps&&Nat.ble (vJ a) 12 with
   |O=>rJ {c with nt:=fn.ntmps} a (lX 0 xs) I λ E I=>match BF {c with nt:=fn.ntmps} E I (V fn.results) with
     |Z ys=>K (AX ys) (Z I)
     |U=>U
   |Y=>U
 |U=>U
def opI(c:TC)(E:Env)(I:TS)(op:Op)(K:KT α):ab α:=
 match op with
 |.call ⟨.value g,a,ts⟩=>match evT E g with
   |.fn f cs=>match c.inl f with
     |Z fn=>Pg c fn I (a.toList.map (evT E)++cs) K
     |U=>opT c E I (.call ⟨.value g,a,ts⟩) K
   |_=>U
 |op=>opT c E I op K
end
def slT:TV->Bool
 |.sl ..|.row .. => O
 |_=>Y
def Ox(E:Env)(ops:aL Oper):Bool:=match oP ops with
 |p::_=>match p.op with
   |.indexAddr _ u _=>slT (evT E u)
   |_=>Y
 |[]=>Y
def Po:TV->Bool
 |.ptr _ _=>O
 |_=>Y
def qZ:Code->Nat
 |.region id _ _=>id
 |.seq a _=>qZ a
 |.block _ b|.loop b=>qZ b
 |.cond _ a _=>qZ a
 |_=>0
def uE:aa (Tmp×Co)->aa Nat
 |[]=>[]
 |(t,a)::r=>match a with
   |.plist _=>t::uE r
   |_=>uE r
def TC.pur(c:TC)(b:Code):aa Nat:=match c.loop (qZ b)with
 |Z l=>uE l
 |U=>[]
def I7(E:Env)(x:bw)(b:Bool):Env:=match x with
 |.tmp t=>(t,.b b)::E
 |_=>E
def eX(c:TC)(f:Env->TS->ab α)(L:aa It->Env->TS->ab α):Nat->aa It->Ex->Env->TS->ab α
 |0,_,_,_,_=>U
 |_+1,[],e,E,I=>match e with
   |.exit _=>U
   |_=>f E I
 |N+1,.code g::k,e,E,I=>match e with
   |.normal=>match g with
     |.skip|.label _=>eX c f L N k .normal E I
     |.region _ ops d=>match ry ops d with
       |O=>match rz c.loT (V ops)&&(nO c.loT ops&&xX c.loT E ⟨bk c.loT (V ops)⟩ O)with
         |O=>nf (opI c) c ⟨bk c.loT (V ops)⟩ O (bk c.loT (V ops)) E I λ E I=>nf (opI c) c ops Y (alL c.loT (V ops)) E I λ E I=>nf (opI c) c ops O (sd c.loT (V ops)) E I λ E I=>eX c f L N k .normal E I
         |Y=>U
       |Y=>match qz ops d with
         |Z p=>match xX c.loT E (jg ops) O with
           |O=>nf (opI c) c (jg ops) O (V (jg ops)) E I λ E I=>match Po (get E p)&&Ox E ops with
             |O=>nf (opI c) c ops O (oP ops) E I λ E I=>eX c f L N k .normal E I
             |Y=>U
           |Y=>U
         |U=>match xX c.loT E ops d with
           |O=>nf (opI c) c ops d (V ops) E I λ E I=>eX c f L N k .normal E I
           |Y=>U
     |.seq a b=>eX c f L N (.code a::.code b::k) .normal E I
     |.cond x a b=>match evT E x with
       |.b y=>cond y (eX c f L N (.code a::k) .normal (I7 E x O) I) (eX c f L N (.code b::k) .normal (I7 E x Y) I)
       |_=>U
     |.block id b=>eX c f L N (.code b::.blk id::k) .normal E I
     |.loop b=>match c.loop (qZ b)with
       |Z l=>vq l E I λ E I=>mvE c.np I E l ⟨[],[],[],[],[]⟩ λ E I=>L (.code (.loop b)::k) E I
       |U=>U
     |.exit id=>eX c f L N k (.exit id) E I
     |.ret=>eX c f L N k .ret E I
     |_=>U
   |e=>eX c f L N k e E I
 |N+1,.blk id::k,e,E,I=>match e with
   |.exit i=>match Nat.beq i id with
     |O=>match c.join id with
       |Z l=>mvE c.np I E l ⟨[],[],[],[],[]⟩ λ E I=>L k E I
       |U=>eX c f L N k .normal E I
     |Y=>eX c f L N k (.exit i) E I
   |.normal=>match c.join id with
     |Z l=>mvE c.np I E l ⟨[],[],[],[],[]⟩ λ E I=>L k E I
     |U=>eX c f L N k .normal E I
   |.ret=>eX c f L N k .ret E I
 |_+1,.ops .. :: _,_,_,_=>U
def N3(c:TC)(a:Env->TS->ab α)(L:aa It->Env->TS->ab α)(N:Nat)(d:aa It)(E:Env)(I:TS):ab α:=
 match d with
 |.code (.loop b)::k=>match c.loop (qZ b)with
   |Z l=>vq l E I λ E I=>eX c a L N (.code b::.code (.loop b)::k) .normal E I
   |U=>eX c a L N (.code b::.code (.loop b)::k) .normal E I
 |d=>eX c a L N d .normal E I
def qi(c:TC)(a:Env->TS->ab α)(N:Nat):Nat->aa It->Env->TS->ab α
 |0=>λ _ _ _=>U
 |n+1=>N3 c a (qi c a N n) N
end
def ng(c:TC):(ts:aa Ty)->aa ResultVar->Env->TS->ab (kz ts)
 |[],[],_,_=>Z ()
 |[a],[r],E,I=>match qm c E I r with
   |Z x=>jD I.rw a x
   |U=>U
 |a::b::ts,r::d,E,I=>match qm c E I r with
   |Z x=>match jD I.rw a x with
     |Z v=>match ng c (b::ts) d E I with
       |Z vs=>Z (v,vs)
       |U=>U
     |U=>U
   |U=>U
 |_,_,_,_=>U
def oh:(sas:aa SA)->Nat->Nat->iP sas->aa TV
 |[],_,_,_=>[]
 |.val τ::r,nb,b,a=>om τ a.1::oh r nb b a.2
 |.row _::r,nb,b,a=>.row b 0::oh r nb (b+1) a.2
 |.box l::r,nb,b,a=>bxT l nb::oh r (nb+1) (b+nR l) a.2
 |.nil::r,nb,b,a=>.nil::oh r nb b a
 |.clo g k::r,nb,b,a=>.fn g ((oh r nb b a).take k)::(oh r nb b a).drop k
def sBx:(sas:aa SA)->Nat->iP sas->aa (aa TV)
 |[],_,_=>[]
 |.nil::r,b,a|.clo _ _::r,b,a=>sBx r b a
 |.val _::r,b,a=>sBx r b a.2
 |.row _::r,b,a=>sBx r (b+1) a.2
 |.box l::r,b,a=>pX l b (toC l a.1)::sBx r (b+nR l) a.2
def sRw:(sas:aa SA)->iP sas->aa cc
 |[],_=>[]
 |.nil::r,a|.clo _ _::r,a=>sRw r a
 |.val _::r,a=>sRw r a.2
 |.row τ::r,a=>⟨τ,a.1,0,0,Y⟩::sRw r a.2
 |.box l::r,a=>lk l (toC l a.1)++sRw r a.2
def lz(I:TS):(sas:aa SA)->Nat->ab (eV sas×aa Nat×Bool)
 |[],_=>Z ((),[],O)
 |.nil::r,n|.clo _ _::r,n|.val _::r,n|.row _::r,n=>lz I r n
 |.box l::r,n=>match I.bx[n]? with
   |Z cs=>match fo I.rw l cs,lz I r (n+1)with
     |Z (v,i,q),Z (o,a,b)=>Z ((toB l v,o),i++a,q&&b)
     |_,_=>U
   |U=>U
def mo(c:TC)(E:Env)(I:TS)(f:aa Nat):(d:aa RE)->aa ResultVar->ab (RV d×aa Nat×aa Nat×Bool)
 |[],[]=>Z ((),[],[],O)
 |.one (.val a)::d,r::l=>match qm c E I r with
   |Z x=>match jD I.rw a x,mo c E I f d l with
     |Z v,Z (vs,b,e,q)=>Z ((v,vs),b,e,oX x&&q)
     |_,_=>U
   |U=>U
 |.one (.row a)::d,r::l=>match qm c E I r with
   |Z x=>match ms I.rw a x,mo c E I f d l with
     |Z (v,i),Z (vs,b,e,q)=>Z ((v,vs),i++b,e,q)
     |_,_=>U
   |U=>U
 |.agg p::d,r::l=>match qm c E I r with
   |Z (.agg cs)=>match fo I.rw p cs,mo c E I f d l with
     |Z (v,i,g),Z (vs,b,e,q)=>Z ((v,vs),i++b,e,g&&q)
     |_,_=>U
   |_=>U
 |_,_=>U
def qav(rw:aa cc):TV->ab (aa Nat)
 |.row id a=>match rw[id]? with
   |Z R=>match Nat.beq R.ver a with
     |O=>Z [id]
     |Y=>U
   |U=>U
 |x=>match rO x with
   |O=>Z []
   |Y=>U
def Je(rw:aa cc):aa TV->ab (aa Nat)
 |[]=>Z []
 |x::l=>match qav rw x,Je rw l with
   |Z a,Z b=>Z (a++b)
   |_,_=>U
def BE (rw:List cc):List RA->List TV->Option (List Nat)
 | [],_=>some []
 | .val τ :: r,cs=>match Je rw (cs.take τ.size),BE rw r (cs.drop τ.size) with
   | some a,some b=>some (a++b)
   | _,_=>none
 | .row _::r,cs=>BE rw r (cs.drop 1)
def se(I:TS):aa SA->Nat->ab (aa Nat)
 |[],_=>Z []
 |.box l::r,n=>match I.bx[n]? with
   |Z cs=>match BE I.rw l cs,se I r (n+1)with
     |Z a,Z b=>Z (a++b)
     |_,_=>U
   |U=>U
 |.nil::r,n|.clo _ _::r,n|.val _::r,n|.row _::r,n=>se I r n
def ZU(vs:ab (aa Nat))(l:aa Nat):Bool:=match vs with
 |Z vs=>vs.all λ a=>l.all λ b => !Nat.beq a b
 |U=>Y
def Oq(n:Nat)(l:aa Nat):aa Nat:=match Nat.beq (X l) n with
 |O=>l
 |Y=>[]
def yn(c:TC)(sas:aa SA)(d:aa RE)(l:aa ResultVar)(E:Env)(I:TS):ab (eV sas×RV d):=match lz I sas 0 with
 |Z (o,i,q)=>match mo c E I (Oq (nrB sas) i) d l with
   |Z (v,a,e,f)=>match ndN (i++a)&&(((i++a).isEmpty||(f&&(q||ZU (se I sas 0) (i++a))))&&(ndN e&&e.all λ b=>Nat.ble (nBx sas) b))with
     |O=>Z (o,v)
     |Y=>U
   |U=>U
 |U=>U
end
section
open RowKit
mutual
def Qk:T->aa AV
 |.mk k n s l=>[.v (.int .i64 k),.v (.string ⟨n.toArray⟩),.v (.int .i64 s),.sl 4 (BI l) 0]
def BI:aa T->aa (aa AV)
 |[]=>[]
 |t::l=>Qk t::BI l
end
mutual
def qa8:AV->ab (aa T)
 |.v (.slice U 0 0)=>Z []
 |.sl 4 a _=>Bq a
 |_=>U
def Bq:aa (aa AV)->ab (aa T)
 |[]=>Z []
 |e::a=>match PA e with
   |Z t=>match Bq a with
     |Z l=>Z (t::l)
     |U=>U
   |U=>U
def PA:aa AV->ab T
 |[.v (.int .i64 k),.v (.string n),.v (.int .i64 s),x]=>match qa8 x with
   |Z l=>Z (.mk k (V n.data) s l)
   |U=>U
 |_=>U
end
mutual
theorem qor:∀t:T,PA (Qk t)=Z t
 |.mk k n s l=>by
   rw[Qk,PA,qa8,Wi l]
theorem Wi:∀l:aa T,Bq (BI l)=Z l
 |[]=>by rw[BI,Bq]
 |t::l=>by rw[BI,Bq,qor t,Wi l]
end
def dK.len:∀{xs ys:aa AV},dK xs ys->X xs=X ys
 |_,_,.nil=>rfl
 |_,_,.cons _ t=>by simp[t.len]
theorem dK.get:∀{xs ys:aa AV},dK xs ys->∀(i:Nat) (y:AV),ys[i]?=Z y->∃x,xs[i]?=Z x/\Sub x y
 |_,_,.nil,i,y,h=>by simp at h
 |_,_,.cons a t,0,y,h=>by simp at h;subst h;exact⟨_,rfl,a⟩
 |_,_,.cons a t,i+1,y,h=>by simpa using t.get i y (by simpa using h)
def Xh{xs ys:aa AV}(h:dK xs ys):Sub (.agg xs) (.agg ys):=by
 intro Γ u a;cases a with
 |agg cs us c d b=>
   have:=h.rep (RepL.mk c b);exact .agg _ _ this.len d this.rep
def fG(R:Row):Row:=⟨R.k,[],0,1,Y⟩
def G2{Γ Γ':Gh}{x:AV}{u:aj}(a:∀b o u,Γ.mem b o=Z u->Γ'.mem b o=Z u)(h:Rep Γ x u)(d:rb x=[])(c:rr x=[]):Rep Γ' x u:=by
 have:=Ia (Γ':=Γ') (fb:=λ b=>b) (fr:=λ r=>r) a h (by rw[d];intro b hb;cases hb) (by rw[c];intro b hb;cases hb)
 rwa [N4]at this
def YY:∀{cs:aa AV},rbL cs=[]->∀x∈cs,rb x=[]
 |[],_,x,a=>by cases a
 |y::cs,h,x,a=>by
   simp only[rbL,nz]at h;obtain rfl|a:=bi.1 a
   .exact h.1
   .exact YY h.2 x a
def XM:∀{cs:aa AV},rrL cs=[]->∀x∈cs,rr x=[]
 |[],_,x,a=>by cases a
 |y::cs,h,x,a=>by
   simp only[rrL,nz]at h;obtain rfl|a:=bi.1 a
   .exact h.1
   .exact XM h.2 x a
def qnk{Γ Γ':Gh}{cs:aa AV}{us:aa aj}(d:∀b o u,Γ.mem b o=Z u->Γ'.mem b o=Z u)(h:RepL Γ cs us)(f:rbL cs=[])(e:rrL cs=[]):RepL Γ' cs us:=
 ⟨h.len,λ i x u a c=>G2 d (h.rep i x u a c) (YY f x (aK a)) (XM e x (aK a))⟩
def TX{x:AV}(h:br x=O):rb x=[]/\rr x=[]:=(wV (fb:=λ b=>b) (fr:=λ r=>r) h).2
def qbO(ds cs:aa AV):Prop:=∃d e a c vs vs',ds=[.mc d e a c vs]/\cs=[.mc d e a c vs']/\X vs'=X vs/\∀(j:Nat) (v b:aa AV),vs[j]?=Z v->vs'[j]?=Z b->Sub (fh a v) (fh a b)/\b.all br=O
def ky.sub{Γ:Gh}{w:aA}{b:Nat}{n:aa KC}{o f:Bool}{m vs vs':aa (aa AV)}(h:ky Γ w b n o f m vs)(t:X vs'=X vs)(s:∀(j:Nat) (v g:aa AV),vs[j]?=Z v->vs'[j]?=Z g->Sub (fh f v) (fh f g)/\g.all br=O):ky Γ w b n o f m vs':=by
 let⟨z,D,d,y,x,u⟩:=h;refine⟨t.trans z,D,d,y,x,λ j k v e a b c=>?_⟩;have E:=(ft.1 b).1;have p:=aS (l:=vs) (i:=j) (by omega);let⟨C,B,A,F⟩:=u j k _ e a p c;let⟨r,q⟩:=s j _ _ p b;exact⟨C,r _ _ B,A,q⟩
structure Oi (σ1:St) (fs:List Nat) (so:Option Nat) (R:Row):Prop where
 fz:R.fz=0
 ver:R.ver=0
 pos:0<R.k
 len:∀e∈R.c,e.length=R.k
 plain:∀e∈R.c,∀x∈e,br x=O
 src:match so with
  |U=>R.c=[]
  |Z j=>∃Q,σ1.rw[j]?=Z Q/\Q.k=R.k/\Q.fz=0/\Q.c.length=R.c.length/\(∀(i:Nat) (e e':List AV),Q.c[i]?=Z e->R.c[i]?=Z e'->dK e e')/\j ∉ fs/\Q.off=Y
def od(nb:Nat)(kb:aa Nat)(i:Nat):Nat:=if i<nb then i else kb.getD (i-nb) 0
def eR(a:Gh)(m:Nat->Nat->ab aj)(nb:Nat)(kb:aa Nat)(L:Nat)(aH:aa (ab Nat×Row)):Gh:=
 {mem:=m,nb:=nb+X kb,β:=λ i=>a.β (od nb kb i),nr:=L+X aH,ver:=λ r=>if r<L then a.ver r+1 else 0,
   k:=λ r=>if r<L then a.k r else match aH[r-L]? with|Z p=>p.2.k|U=>1,
   cur:=λ r=>if r<L then a.cur r else match aH[r-L]? with|Z (Z j,_)=>a.cur j|_=>0,
   sz:=λ r=>if r<L then 0 else match aH[r-L]? with|Z (Z j,_)=>a.sz j|_=>0,of:=λ _=>0}
def Ix{y d:Gh}{σ0 σ1:St}{w0 L:aA}(K:Inv y σ0 w0)(t:Ext y w0 d L)(I:Inv d σ1 L)(a9:X σ0.bx<=X σ1.bx)
  (z:aa (aa AV)) (kb:aa Nat) (a3:X z=X σ0.bx+X kb) (T:∀b∈kb,X σ0.bx<=b/\b<X σ1.bx) (a8:kb.Nodup) (N:aa Nat) (aH:aa (ab Nat×Row)) (a6:∀(i:Nat) (cs:aa AV),z[i]?=Z cs->∃ds,σ1.bx[od (X σ0.bx) kb i]?=Z ds/\(noMc ds=Y->qbO ds cs)/\∀m,Fz d m->(∀r∈N,∀R,σ1.rw[r]?=Z R->gF {d with mem:=m} r R)->∀us,RepL d ds us->RepL (eR d m (X σ0.bx) kb (X σ0.rw) aH) cs us)
  (hn:∀(a:Nat) (so:ab Nat) (R:Row),aH[a]?=Z (so,R)->Oi σ1 N so R) (hd:∀(a b j:Nat) (R R':Row),aH[a]?=Z (Z j,R)->aH[b]?=Z (Z j,R')->a=b) (wl az:aa Nat):
  ∃m,Fz d m/\(∀r∈N,∀R,σ1.rw[r]?=Z R->gF {d with mem:=m} r R)/\Ext y w0 (eR d m (X σ0.bx) kb (X σ0.rw) aH) L/\Inv (eR d m (X σ0.bx) kb (X σ0.rw) aH) ⟨z,σ0.rw.map fG++aH.map (·.2),wl,az⟩ L:=by
 let⟨m,m1,m2,m3⟩:=pD N I σ1.wrr;have a7:X σ0.bx<=d.nb:=by rw[I.nb];exact a9
 have an:∀b o u,d.mem b o=Z u->m b o=Z u:=m1.le.mem
 have C:∀{i:Nat},i<X σ0.bx+X kb->od (X σ0.bx) kb i<d.nb:=λ{i} f=>by
  unfold od;split
  .exact dl ‹_› a7
  .rw[dz,aS (show i-X σ0.bx<X kb by omega),I.nb];exact(T _ (fX _)).2
 have bb:∀{i j:Nat},i<X σ0.bx+X kb->j<X σ0.bx+X kb->od (X σ0.bx) kb i=od (X σ0.bx) kb j->i=j:=λ{i j} f W g=>by
  unfold od at g;split at g<;>split at g
  .exact g
  .rw[dz,aS (show j-X σ0.bx<X kb by omega)]at g;have g:i=kb[j-X σ0.bx]:=g;have:=(T _ (fX (show j-X σ0.bx<X kb by omega))).1;omega
  .rw[dz,aS (show i-X σ0.bx<X kb by omega)]at g;have g:kb[i-X σ0.bx]=j:=g;have:=(T _ (fX (show i-X σ0.bx<X kb by omega))).1;omega
  .rw[dz,dz,aS (show i-X σ0.bx<X kb by omega),aS (show j-X σ0.bx<X kb by omega)]at g;have g:kb[i-X σ0.bx]=kb[j-X σ0.bx]:=g;have:=(List.getElem_inj (h₀:=by omega) (h₁:=by omega) a8).1 g;omega
 have B:∀{r:Nat},¬ r<X σ0.rw->(eR d m (X σ0.bx) kb (X σ0.rw) aH).sz r≠0->∃j R Q,aH[r-X σ0.rw]?=Z (Z j,R)/\σ1.rw[j]?=Z Q/\mY {d with mem:=m} L j Q/\(eR d m (X σ0.bx) kb (X σ0.rw) aH).cur r=d.cur j/\(eR d m (X σ0.bx) kb (X σ0.rw) aH).sz r=d.sz j:=by
  intro r s q;have P:(if r<X σ0.rw then 0 else match aH[r-X σ0.rw]? with|some (Z j,_)=>d.sz j|_=>0)≠0:=q;rw[ae s]at P;split at P
  .rename_i j R F;let⟨Q,q1,_,_,_,_,q6,_⟩:=(hn _ _ _ F).src;refine⟨j,R,Q,F,q1,m2.row j Q (by show(frz σ1.rw N)[j]?=_;rw[AT N _ j q6];exact q1),?_,?_⟩
   .show(if r<X σ0.rw then _ else match aH[r-X σ0.rw]? with|some (Z j,_)=>d.cur j|_=>0)=_;rw[ae s,F]
   .show(if r<X σ0.rw then _ else match aH[r-X σ0.rw]? with|some (Z j,_)=>d.sz j|_=>0)=_;rw[ae s,F]
  .exact absurd rfl P
 have v:∀{r:Nat},r<X σ0.rw->(eR d m (X σ0.bx) kb (X σ0.rw) aH).sz r=0:=λ s=>af s;refine⟨m,m1,m3,⟨⟨λ b o u h=>an _ _ _ (t.le.mem b o u h),by rw[K.nb];exact kH _ _,λ i f=>by rw[<-t.le.β i f];show d.β (od _ _ _)=_;unfold od;rw[af (by rw[<-K.nb];exact f)],by rw[K.nr];exact kH _ _,λ r s=>?_,λ r s=>?_,λ r s g=>?_⟩,t.os,t.tape,t.output,t.size,t.block,?_,?_,t.drawn⟩,?_⟩
 .rw[K.nr]at s;exact(af s).trans (t.le.k r (by rw[K.nr];exact s))
 .have:=t.le.ver r s;rw[K.nr]at s;show y.ver r<=(if r<X σ0.rw then d.ver r+1 else 0);rw[af s];omega
 .have:=t.le.ver r s;rw[K.nr]at s;have g:(if r<X σ0.rw then d.ver r+1 else 0)=y.ver r:=g;rw[af s]at g;omega
 .rintro b (⟨i,f,hb⟩|⟨r,s,q,hb⟩)
  .exact t.own b (.inl ⟨_,C f,hb⟩)
  .by_cases l:r<X σ0.rw
   .exact absurd (v l) q
   .let⟨j,R,Q,_,q2,_,q4,q5⟩:=B l q;exact t.own b (.inr ⟨j,by rw[I.nr];exact getElem?_lt q2,by rw[<-q5];exact q,by rw[<-q4];exact hb⟩)
 .intro b o u hm;obtain h|h:=m1.own b o u hm
  .exact t.memg b o u h
  .exact .inr (t.own b h)
 .refine⟨a3.symm,by show X σ0.rw+X aH=_;simp,λ b o u h=>m2.mem b o u h,?_,λ i j f W g=>bb f W (I.inj _ _ (C f) (C W) g),λ i f o=>m2.boxmem _ (C f) o,?_,?_⟩
  .intro i cs f;let⟨ds,d1,d3,d2⟩:=a6 i cs f;obtain⟨vs,e,v1,v2,v3⟩|⟨kc,ka,va,ks,vs,rfl,hm⟩:=(I.box _ ds d1).split
   .exact .of ⟨vs,e,v1,d2 m m1 m3 _ v2,v3⟩
   .obtain⟨_,_,_,_,_,vs',e1,rfl,l1,l2⟩:=d3 rfl;cases e1;exact(hm.sub l1 l2).to (λ _ h=>h) λ x u t g1 g2=>G2 an t g1 g2
  .intro r R w;have w:(σ0.rw.map fG++aH.map (·.2))[r]?=Z R:=w;by_cases l:r<X σ0.rw
   .rw[dq (by rw[bO];exact l),df]at w;cases n:σ0.rw[r]? with
    |none=>rw[n]at w;cases w
    |some R0=>
      rw[n]at w;cases w;have H:=K.row r R0 n;have q:=v l;refine⟨?_,λ h=>absurd h (by show ¬ 1<=0;omega),H.pos,(by intro e g;cases g),(by intro e g;cases g),.inl rfl,λ h=>absurd q h,by show 0+0*_<=_;rw[kG];exact aG _,λ h=>absurd q h,(by intro i e j x f;cases f),λ h=>absurd q h,λ _=>rfl⟩;show R0.k=(if r<X σ0.rw then d.k r else _);rw[af l,H.k];exact(t.le.k r (by rw[K.nr];exact l)).symm
   .rw[ej (by rw[bO];omega),bO,df]at w;cases n:aH[r-X σ0.rw]? with
    |none=>rw[n]at w;cases w
    |some p=>
      rw[n]at w;cases w;let⟨so,R⟩:=p;have D:=hn _ _ _ n
      have hk:R.k=(eR d m (X σ0.bx) kb (X σ0.rw) aH).k r:=by
       show _=(if r<X σ0.rw then _ else match aH[r-X σ0.rw]? with|some p=>p.2.k|none=>1);rw[ae l,n]
      have M:R.ver=(eR d m (X σ0.bx) kb (X σ0.rw) aH).ver r:=by
       show _=(if r<X σ0.rw then _ else 0);rw[ae l];exact D.ver
      cases so with
      |none=>
        have hc:R.c=[]:=D.src
        have q:(eR d m (X σ0.bx) kb (X σ0.rw) aH).sz r=0:=by
         show(if r<X σ0.rw then 0 else match aH[r-X σ0.rw]? with|some (Z j,_)=>d.sz j|_=>0)=0;rw[ae l,n]
        exact⟨hk,λ _=>M,D.pos,D.len,D.plain,.inl hc,λ h=>absurd q h,by show 0+X R.c*_<=_;rw[hc];simp,λ h=>absurd q h,(by intro i e j x f;change R.c[i]?=_ at f;rw[hc]at f;cases f),λ h=>absurd q h,λ _=>rfl⟩
      |some j=>
        let⟨Q,q1,q2,q3,q4,q5,q6,q7⟩:=D.src;have H:mY {d with mem:=m} L j Q:=m2.row j Q (by show(frz σ1.rw N)[j]?=_;rw[AT N _ j q6];exact q1)
        have G:(eR d m (X σ0.bx) kb (X σ0.rw) aH).cur r=d.cur j:=by
         show(if r<X σ0.rw then _ else match aH[r-X σ0.rw]? with|some (Z j,_)=>d.cur j|_=>0)=_;rw[ae l,n]
        have A:(eR d m (X σ0.bx) kb (X σ0.rw) aH).sz r=d.sz j:=by
         show(if r<X σ0.rw then _ else match aH[r-X σ0.rw]? with|some (Z j,_)=>d.sz j|_=>0)=_;rw[ae l,n]
        have S:d.of j=0:=H.off q7;refine⟨hk,λ _=>M,D.pos,D.len,D.plain,.inr (by show R.fz<=_;rw[D.fz];exact aG _),λ q=>?_,?_,λ q off ho=>?_,?_,λ q i f=>?_,λ _=>rfl⟩
        .rw[A]at q;let⟨vs,e,fr,b1,b2,b3,b4⟩:=H.blk q;exact⟨vs,e,fr,by rw[G];exact b1,by rw[A];exact b2,b3,b4⟩
        .show 0+X R.c*R.k<=_;have ax:d.of j+X Q.c*Q.k<=d.sz j:=H.fit;rw[S]at ax;rw[A,<-q4,<-q2];exact ax
        .rw[A]at q;rw[G];apply H.un q off;show d.of j+_<=_;rw[q3,kG,S];exact aG _
        .intro i e' jj x' f W;have f:R.c[i]?=Z e':=f;have ar:i<X Q.c:=by rw[q4];exact getElem?_lt f
         let⟨x,a0,ad⟩:=(q5 i _ e' (aS ar) f).get jj x' W;let⟨u,u1,u2,u3⟩:=H.cells i _ jj x (aS ar) a0;let⟨p1,p2⟩:=TX (D.plain e' (aK f) x' (aK W));refine⟨u,?_,G2 (Γ:={d with mem:=m}) (λ _ _ _ h=>h) (ad _ _ u2) p1 p2,u3⟩;have aE:L.cell? ⟨d.cur j,d.of j+(i*Q.k+jj),U⟩=Z u:=u1;show L.cell? ⟨_,0+(i*R.k+jj),U⟩=_;rw[G,<-q2,<-S];exact aE
        .rw[A]at q;rw[G];exact H.nbx q _ (C f)
  .intro r r' s bl bm z1 z2;by_cases e1:r<X σ0.rw
   .exact absurd (v e1) z1
   by_cases e2:r'<X σ0.rw
   .exact absurd (v e2) z2
   let⟨j,R,Q,a1,a2,_,a4,a5⟩:=B e1 z1;let⟨j',R',Q',b1,b2,_,b4,b5⟩:=B e2 z2;rw[a4,b4];refine I.apart j j' (by rw[I.nr];exact getElem?_lt a2) (by rw[I.nr];exact getElem?_lt b2) (λ g=>?_) (by rw[<-a5];exact z1) (by rw[<-b5];exact z2);subst g;have:=hd _ _ _ _ _ a1 b1;omega
def bU{a:Type}(f:aa AV->ab a):aa (aa AV)->ab (aa a)
 |[]=>Z []
 |e::b=>match f e with
   |Z v=>match bU f b with
     |Z vs=>Z (v::vs)
     |U=>U
   |U=>U
mutual
def qd:AV->ab (aa T)
 |.v (.slice U 0 0)=>Z []
 |.sl 4 a (_+1)=>Ba a
 |_=>U
def Ba:aa (aa AV)->ab (aa T)
 |[]=>Z []
 |e::a=>match fO e with
   |Z t=>match Ba a with
     |Z l=>Z (t::l)
     |U=>U
   |U=>U
def fO:aa AV->ab T
 |[.v (.int .i64 k),.v (.string n),.v (.int .i64 s),x]=>match qd x with
   |Z l=>Z (.mk k (V n.data) s l)
   |U=>U
 |_=>U
end
def full{a:Type}:ab (a×aa AV)->ab a
 |Z (v,[])=>Z v
 |_=>U
def fD(k:Nat){a:Type}(f:aa AV->ab a):AV->ab (aa a)
 |.v (.slice U 0 0)=>Z []
 |.sl b c (_+1)=>match bJ b k with
   |O=>bU f c
   |Y=>U
 |_=>U
def fq(k:IntKind):aa AV->ab (Int×aa AV)
 |.v (.int a n)::r=>match J (a=k)with
   |O=>Z (n,r)
   |Y=>U
 |_=>U
def lZ:aa AV->ab (Bool×aa AV)
 |.v (.bool b)::r=>Z (b,r)
 |_=>U
def jo:aa AV->ab (aa aN×aa AV)
 |.v (.string s)::r=>Z (V s.data,r)
 |_=>U
def gJ:aa AV->ab (T×aa AV)
 |a::b::c::d::r=>match fO [a,b,c,d]with
   |Z t=>Z (t,r)
   |U=>U
 |_=>U
def cu{a:Type}(b:AV->ab a):aa AV->ab (a×aa AV)
 |x::r=>match b x with
   |Z l=>Z (l,r)
   |U=>U
 |_=>U
def gj{d c:Type}(f:aa AV->ab d)(g:aa AV->ab c):aa (aa AV)->aa (aa AV)->ab (aa (d×c))
 |[],[]=>Z []
 |k::e,v::vs=>match f k,g v with
   |Z a,Z b=>match gj f g e vs with
     |Z l=>Z ((a,b)::l)
     |U=>U
   |_,_=>U
 |_,_=>U
def dMc{d c:Type}(a b:Ty)(f:aa AV->ab d)(g:aa AV->ab c):AV->ab (aa (d×c))
 |.mc i j e h vs=>match J (i=kcT a)&&(dj j a.agg&&dj e b.agg)with
   |O=>gj f g h vs
   |Y=>U
 |_=>U
def eN:(τ:Ty)->aa AV->ab (Val τ×aa AV)
 |.int k=>fq k
 |.bool=>lZ
 |.str=>jo
 |.term=>gJ
 |.list a=>cu (fD a.size (λ e=>full (eN a e)))
 |.pair a b=>IK (eN a) (eN b)
 |.one a=>eN a
 |.map a b=>cu (dMc a b (λ e=>full (eN a e)) (λ e=>full (eN b e)))
def bu(τ:Ty)(e:aa AV):ab (Val τ):=full (eN τ e)
def dlist(τ:Ty)(x:AV):ab (aa (Val τ)):=fD τ.size (bu τ) x
mutual
def iD:T->aa AV
 |.mk k n s l=>[.v (.int .i64 k),.v (.string ⟨n.toArray⟩),.v (.int .i64 s),.sl 4 (vl l) 1]
def vl:aa T->aa (aa AV)
 |[]=>[]
 |t::l=>iD t::vl l
end
def aI:(τ:Ty)->Val τ->aa AV
 |.int k,n=>[.v (.int k n)]
 |.bool,b=>[.v (.bool b)]
 |.str,s=>[.v (.string ⟨s.toArray⟩)]
 |.term,t=>iD t
 |.list a,l=>[.sl a.size (l.map (aI a)) 1]
 |.pair a b,p=>aI a p.1++aI b p.2
 |.one a,v=>aI a v
 |.map a b,l=>[.mc (kcT a) a.agg b.agg (l.map λ p=>aI a p.1) (l.map λ p=>aI b p.2)]
def cx:(τ:Ty)->Val τ->AV
 |.int k,n=>.v (.int k n)
 |.bool,b=>.v (.bool b)
 |.str,s=>.v (.string ⟨s.toArray⟩)
 |.list a,l=>.sl a.size (l.map (aI a)) 1
 |.term,t=>.agg (aI .term t)
 |.pair a b,p=>.agg (aI (.pair a b) p)
 |.one a,v=>.agg (aI (.one a) v)
 |.map a b,l=>.mc (kcT a) a.agg b.agg (l.map λ p=>aI a p.1) (l.map λ p=>aI b p.2)
def jw{a:Type}{f:aa AV->ab a}{e:aa AV}{b:aa (aa AV)}{l:aa a}:bU f (e::b)=Z l↔∃v vs,f e=Z v/\bU f b=Z vs/\l=v::vs:=by
 grind [bU]
theorem dU{b:Type}{f:aa AV->ab b}:∀{a:aa (aa AV)}{l:aa b},bU f a=Z l->X a=X l
 |[],l,h=>by cases h;rfl
 |e::a,l,h=>by
   obtain⟨v,vs,_,c,rfl⟩:=jw.1 h;simp[dU c]
def xc{b:Type}{f:aa AV->ab b}:∀{c:aa (aa AV)}{l:aa b},bU f c=Z l->∀{i:Nat}{v:b},l[i]?=Z v->∃e,c[i]?=Z e/\f e=Z v
 |[],l,h,i,v,a=>by cases h;simp at a
 |e::c,l,h,i,v,a=>by
   obtain⟨w,vs,g,d,rfl⟩:=jw.1 h;cases i with
   |zero=>simp at a;subst a;exact⟨e,rfl,g⟩
   |succ i=>exact xc d (by simpa using a)
def oC{c:Type}{f:aa AV->ab c}:∀{b:aa (aa AV)}{l:aa c},bU f b=Z l->∀{i:Nat}{e:aa AV},b[i]?=Z e->∃v,l[i]?=Z v/\f e=Z v
 |[],l,h,i,v,a=>by simp at a
 |e::b,l,h,i,v,a=>by
   obtain⟨w,vs,g,d,rfl⟩:=jw.1 h;cases i with
   |zero=>simp at a;subst a;exact⟨w,rfl,g⟩
   |succ i=>exact oC d (by simpa using a)
def qR{c:Type}{f:aa AV->ab c}:∀{b a:aa (aa AV)}{l m:aa c},bU f b=Z l->bU f a=Z m->bU f (b++a)=Z (l++m)
 |[],a,l,m,h,g=>by cases h;exact g
 |e::b,a,l,m,h,g=>by
   obtain⟨v,vs,i,d,rfl⟩:=jw.1 h;exact jw.2 ⟨v,vs++m,i,qR d g,rfl⟩
def Ab{b:Type}{f:aa AV->ab b}:∀(n:Nat) {a:aa (aa AV)}{l:aa b},bU f a=Z l->bU f (a.take n)=Z (l.take n)
 |0,a,l,h=>by simp;rfl
 |n+1,[],l,h=>by cases h;rfl
 |n+1,e::a,l,h=>by
   obtain⟨v,vs,d,c,rfl⟩:=jw.1 h;exact jw.2 ⟨v,vs.take n,d,Ab n c,rfl⟩
def wS{b:Type}{f:aa AV->ab b}:∀(n:Nat) {a:aa (aa AV)}{l:aa b},bU f a=Z l->bU f (a.drop n)=Z (l.drop n)
 |0,a,l,h=>by simpa using h
 |n+1,[],l,h=>by cases h;rfl
 |n+1,e::a,l,h=>by
   obtain⟨v,vs,d,c,rfl⟩:=jw.1 h;simpa using wS n c
theorem pE{a:Type}{f:aa AV->ab a}{g:a->aa AV}(h:∀v,f (g v)=Z v):∀l:aa a,bU f (l.map g)=Z l
 |[]=>rfl
 |v::l=>jw.2 ⟨v,l,h v,pE h l,rfl⟩
theorem G6:∀a:aa (aa AV),Ba a=bU fO a
 |[]=>rfl
 |e::a=>by
   rw[Ba,bU,G6 a];grind
def dO{a:Type}{x:ab (a×aa AV)}{v:a}:full x=Z v↔x=Z (v,[]):=by
 unfold full;grind
theorem Al{cs:aa AV}{t:T}(h:fO cs=Z t):∃k n s x l,cs=[.v (.int .i64 k),.v (.string n),.v (.int .i64 s),x]/\qd x=Z l/\t=.mk k (V n.data) s l:=by
 unfold fO at h;grind
def U7(e:aa AV):bu .term e=fO e:=by
 show full (gJ e)=fO e;unfold gJ;split
 .rename_i a b c d r;cases r with
  |nil=>
    cases f:fO [a,b,c,d]with
    |none|some t=>rfl
  |cons x r=>
    have g:fO (a::b::c::d::x::r)=U:=by
     grind [fO]
    rw[g];cases f:fO [a,b,c,d]with
    |none|some t=>rfl
 .rename_i h;cases f:fO e with
  |none=>rfl
  |some t=>
    grind [Al]
def FZ(x:AV):dlist .term x=qd x:=by
 have a:(bu .term:aa AV->ab T)=fO:=funext U7;unfold dlist fD qd;grind [bJ,Ty.size,G6]
def Xp{g c:aa (aa AV)}{k f:Nat}(E:0<f)(r:X g=X c)(D:∀e∈c,X e=k)(C:∀e∈c,∀x∈e,br x=O)
  (B:∀(i:Nat) (e d:aa AV),g[i]?=Z e->c[i]?=Z d->dK e d):Sub (.sl k g f) (.sl k c 1):=by
 intro Γ u A;cases A with
 |sl k g f a n cap b o us I H P N M G L K F=>
   have get:∀(i:Nat) (d:aa AV) (j:Nat) (y:AV),c[i]?=Z d->d[j]?=Z y->∃e x,g[i]?=Z e/\e[j]?=Z x/\Sub x y:=by
    intro i d j y m q;have p:i<X g:=by rw[r];exact getElem?_lt m
    have s:=aS p;let⟨x,z,l⟩:=(B i _ d s m).get j y q;exact⟨_,x,s,z,l⟩
   refine .sl k c 1 a n cap b o us (by rw[I,r]) (λ _=>H E) (λ h=>absurd h (by decide)) D C G ?_ ?_ ?_
   .grind
   .grind
   .intro i d j y m q;let⟨e,x,w,v,t⟩:=get i d j y m q;exact t Γ _ (F i e j x w v)
theorem Wb(k:Nat)(b:0<k):Sub (.v (.slice U 0 0)) (.sl k [] 1):=by
 intro Γ u a;have:=ce a;subst this;exact .sl k [] 1 U 0 0 0 0 (λ _ _=>undef) rfl (λ _=>ak _) (λ h=>absurd h (by decide)) (by simp) (by simp) b (.inl rfl) (by simp) (by simp)
def He:∀l:aa T,vl l=l.map iD
 |[]=>rfl
 |t::l=>by rw[vl,He l];rfl
theorem UY(t:T):X (iD t)=4:=by let⟨k,n,s,l⟩:=t;rw[iD];rfl
theorem TF(t:T):∀x∈iD t,br x=O:=by
 let⟨k,n,s,l⟩:=t;intro x a;rw[iD]at a;simp at a;obtain rfl|rfl|rfl|rfl:=a<;>rfl
theorem gR:∀(τ:Ty) (v:Val τ),X (aI τ v)=τ.size
 |.int _,_|.bool,_|.str,_=>rfl
 |.term,t=>UY t
 |.list _,_=>rfl
 |.pair a b,p=>by rw[aI,aM,gR a,gR b];rfl
 |.one a,v=>by rw[aI,gR a];rfl
 |.map _ _,_=>rfl
theorem ir:∀(τ:Ty) (v:Val τ),∀x∈aI τ v,br x=O
 |.int _,_,x,h|.bool,_,x,h|.str,_,x,h=>by simp[aI]at h;subst h;rfl
 |.term,t,x,h=>TF t x h
 |.list _,_,x,h=>by simp[aI]at h;subst h;rfl
 |.pair a b,p,x,h=>by
   rw[aI]at h;obtain h|h:=aR.1 h
   .exact ir a _ x h
   .exact ir b _ x h
 |.one a,v,x,h=>ir a v x h
 |.map _ _,_,x,h=>by simp[aI]at h;subst h;rfl
def qr5(t:T):∀cs,fO cs=Z t->dK cs (iD t)/\∀x∈cs,br x=O:=by
 refine T.ind (P:=λ t=>∀cs,fO cs=Z t->dK cs (iD t)/\∀x∈cs,br x=O) ?_ t;intro t m cs h;obtain⟨k,n,s,x,l,rfl,b,rfl⟩:=Al h;have o:(⟨n.data.toList.toArray⟩:io)=n:=by cases n;simp
 have c:Sub x (.sl 4 (vl l) 1)/\br x=O:=by
  unfold qd at b;split at b
  .cases b;rw[vl];exact⟨Wb 4 (by decide),rfl⟩
  .rename_i r q;refine⟨?_,rfl⟩;rw[G6]at b;rw[He];apply Xp (sj _) (by rw[dU b,bO])
   .grind [UY]
   .grind [TF]
   .intro i e u p a;let⟨g,d,j⟩:=oC b p;rw[df,d]at a;simp at a;subst a;exact(m g (aK d) e j).1
  .cases b
 refine⟨?_,?_⟩
 .rw[iD,o];exact .cons (.refl _) (.cons (.refl _) (.cons (.refl _) (.cons c.1 .nil)))
 .intro y f;simp at f;obtain rfl|rfl|rfl|rfl:=f
  .rfl
  .rfl
  .rfl
  .exact c.2
def dK.append:∀{a b c d:aa AV},dK a b->dK c d->dK (a++c) (b++d)
 |_,_,_,_,.nil,g=>g
 |_,_,_,_,.cons h t,g=>.cons h (t.append g)
theorem Ty.size_pos:∀τ:Ty,0<τ.size
 |.int _|.bool|.str=>Nat.one_pos
 |.term=>by decide
 |.list _=>Nat.one_pos
 |.pair a b=>dl (Ty.size_pos a) (kH _ _)
 |.one a=>Ty.size_pos a
 |.map _ _=>Nat.one_pos
def mN{I b a:Type}{p:aa I->ab (b×aa I)}{q:aa I->ab (a×aa I)}{cs:aa I}{v:b×a}{r:aa I}:IK p q cs=Z (v,r)↔∃c,p cs=Z (v.1,c)/\q c=Z (v.2,r):=by
 grind [IK]
def zV:∀(τ:Ty) {cs:aa AV}{v:Val τ}{r:aa AV} (s:aa AV),eN τ cs=Z (v,r)->eN τ (cs++s)=Z (v,r++s)
 |.int k,cs,v,r,s,h=>by
   change fq k cs=_ at h;show fq k (cs++s)=_;unfold fq at h;grind [fq]
 |.bool,cs,v,r,s,h=>by
   change lZ cs=_ at h;unfold lZ at h;split at h<;>cases h;rfl
 |.str,cs,v,r,s,h=>by
   change jo cs=_ at h;unfold jo at h;split at h<;>cases h;rfl
 |.term,cs,v,r,s,h=>by
   change gJ cs=_ at h;unfold gJ at h;split at h<;>try cases h
   split at h<;>cases h;next c=>show gJ _=_;grind [gJ]
 |.list a,cs,v,r,s,h=>by
   change cu _ cs=_ at h;unfold cu at h;split at h<;>try cases h
   split at h<;>cases h;next c=>show cu _ _=_;grind [cu]
 |.pair a b,cs,v,r,s,h=>by
   let⟨f,e,d⟩:=mN.1 h;exact mN.2 ⟨_,zV a s e,zV b s d⟩
 |.one a,cs,v,r,s,h=>zV a s h
 |.map a b,cs,v,r,s,h=>by
   change cu _ cs=_ at h;unfold cu at h;split at h<;>try cases h
   split at h<;>cases h;next c=>show cu _ _=_;grind [cu]
theorem nM{e d:Type}{a b:Ty}{f:aa AV->ab e}{g:aa AV->ab d}{x:AV}{l:aa (e×d)}(h:dMc a b f g x=Z l):∃i vs,x=.mc (kcT a) a.agg b.agg i vs/\gj f g i vs=Z l:=by
 unfold dMc at h;split at h<;>try cases h
 split at h<;>try cases h
 next c=>rw[aJ,aJ]at c;rw[bG c.1,pP c.2.1,pP c.2.2];exact⟨_,_,rfl,h⟩
def Ob{e d:Type}{a b:Ty}{f:aa AV->ab e}{g:aa AV->ab d}{c vs:aa (aa AV)}:dMc a b f g (.mc (kcT a) a.agg b.agg c vs)=gj f g c vs:=by
 have h:∀x,dj x x=O:=λ x=>by cases x<;>rfl
 simp only[dMc,ij,h,lE]
def qrA{c:aa KC}{d a:Bool}{b vs:aa (aa AV)}(y:AV):Sub (.mc c d a b vs) y:=λ Γ u h=>(Zf h).elim
def iM:∀(τ:Ty) {cs:aa AV}{v:Val τ}{r:aa AV},eN τ cs=Z (v,r)->∃pre,cs=pre++r/\X pre=τ.size/\(∀x∈pre,br x=O)/\dK pre (aI τ v)/\eN τ pre=Z (v,[])
 |.int k,cs,v,r,h=>by
   change fq k cs=_ at h;unfold fq at h;split at h<;>try cases h
   split at h<;>cases h;next g=>have l:=bG g;subst l;exact⟨[_],rfl,rfl,by simp[br],.refl _,by show fq _ _=_;simp[fq]⟩
 |.bool,cs,v,r,h=>by
   change lZ cs=_ at h;unfold lZ at h;split at h<;>cases h;exact⟨[_],rfl,rfl,by simp[br],.refl _,rfl⟩
 |.str,cs,v,r,h=>by
   change jo cs=_ at h;unfold jo at h;split at h<;>cases h;rename_i s;have E:(⟨s.data.toList.toArray⟩:io)=s:=by cases s;simp
   exact⟨[_],rfl,rfl,by simp[br],by rw[aI,E];exact .refl _,rfl⟩
 |.term,cs,v,r,h=>by
   change gJ cs=_ at h;unfold gJ at h;split at h<;>try cases h
   split at h<;>cases h;next c=>let⟨o,m⟩:=qr5 _ _ c;exact⟨_,rfl,rfl,m,o,by show gJ _=_;simp only[gJ,c]⟩
 |.list a,cs,v,r,h=>by
   change cu _ cs=_ at h;unfold cu at h;split at h<;>try cases h
   rename_i x A;split at h<;>cases h;rename_i c;refine⟨[x],rfl,rfl,?_,?_,by show cu _ _=_;simp only[cu,c]⟩
   .intro y f;simp at f;subst f;unfold fD at c;split at c
    .rfl
    .rfl
    .cases c
   .rw[aI];refine .cons ?_ .nil;unfold fD at c;split at c
    .grind [Wb,Ty.size_pos]
    .rename_i N P n;split at c
     .rename_i g;have g:=bG g;subst g;apply Xp (sj _) (by rw[dU c,bO])
      .grind [gR]
      .grind [ir]
      .intro i e Q F d;let⟨w,t,q⟩:=oC c F;rw[df,t]at d;simp at d;subst d;let⟨pre,M,_,_,L,_⟩:=iM a (dO.1 q);grind
     .cases c
    .cases c
 |.pair a b,cs,v,r,h=>by
   let⟨K,o,m⟩:=mN.1 h;let⟨p,e1,C,t,z,I⟩:=iM a o;let⟨j,G,B,q,u,H⟩:=iM b m;refine⟨p++j,by rw[e1,G,bA],by rw[aM,C,B];rfl,?_,by rw[aI];exact z.append u,?_⟩
   .grind
   .exact mN.2 ⟨j,by have:=zV a j I;simpa using this,H⟩
 |.one a,cs,v,r,h=>iM a h
 |.map a b,cs,v,r,h=>by
   change cu _ cs=_ at h;unfold cu at h;split at h<;>try cases h
   rename_i x A;split at h<;>cases h;rename_i c;refine⟨[x],rfl,rfl,?_,?_,by show cu _ _=_;simp only[cu,c]⟩
   .obtain⟨D,vs,rfl,_⟩:=nM c;intro y f;simp at f;subst f;rfl
   .obtain⟨D,vs,rfl,_⟩:=nM c;rw[aI];exact .cons (qrA _) .nil
def qnl(t:T):fO (iD t)=Z t:=by
 refine T.ind (P:=λ t=>fO (iD t)=Z t) ?_ t;intro t c;let⟨k,n,s,l⟩:=t
 have:Ba (vl l)=Z l:=by
  rw[G6,He];have c:∀x∈l,fO (iD x)=Z x:=c
  have a:∀m:aa T,(∀x∈m,fO (iD x)=Z x)->bU fO (m.map iD)=Z m:=by
   intro m
   induction m with
   |nil=>intro _;rfl
   |cons x m b=>intro h;exact jw.2 ⟨x,m,h x (aX ..),b λ y d=>h y (aT _ d),rfl⟩
  exact a l c
 rw[iD,fO,qd,this]
def uj:∀(τ:Ty) (v:Val τ),eN τ (aI τ v)=Z (v,[])
 |.int k,v=>by show fq k [_]=_;simp[fq]
 |.bool,v=>rfl
 |.str,v=>by show jo _=_;simp[jo,aI]
 |.term,t=>by
   have:=U7 (iD t);rw[qnl]at this;exact dO.1 this
 |.list a,l=>by
   have c:bU (λ e=>full (eN a e)) (l.map (aI a))=Z l:=pE (λ v=>by rw[uj a v];rfl) l;show cu _ [_]=_;grind [cu,fD,bJ]
 |.pair a b,v=>mN.2 ⟨_,zV a _ (uj a v.1),by rw[eZ];exact uj b v.2⟩
 |.one a,v=>uj a v
 |.map a b,l=>by
   have c:∀l:aa (Val a×Val b),gj (λ e=>full (eN a e)) (λ e=>full (eN b e)) (l.map λ p=>aI a p.1) (l.map λ p=>aI b p.2)=Z l:=by
    intro l
    induction l with
    |nil=>rfl
    |cons p l d=>
      have e1:full (eN a (aI a p.1))=Z p.1:=by rw[uj a p.1];rfl
      have f:full (eN b (aI b p.2))=Z p.2:=by rw[uj b p.2];rfl
      simp only[aU,gj,e1,f,d]
   show cu _ [_]=_;simp only[cu,Ob,c]
def HQ:∀(j:Ty) {cs:aa AV}{v:Val j}{r:aa AV},eN j cs=Z (v,r)->∃pre,cs=pre++r/\((∀x∈pre,∃c,ci [c] [x]=O)->pre=aI j v)
 |.int k,cs,v,r,h=>by
   change fq k cs=_ at h;unfold fq at h;split at h<;>try cases h
   split at h<;>cases h;next y=>exact⟨[_],rfl,λ _=>by rw[bG y];rfl⟩
 |.bool,cs,v,r,h=>by
   change lZ cs=_ at h;unfold lZ at h;split at h<;>cases h;exact⟨[_],rfl,λ _=>rfl⟩
 |.str,cs,v,r,h=>by
   change jo cs=_ at h;unfold jo at h;split at h<;>cases h;rename_i s;have w:(⟨s.data.toList.toArray⟩:io)=s:=by cases s;simp
   exact⟨[_],rfl,λ _=>by rw[aI,w]⟩
 |.term,cs,v,r,h=>by
   change gJ cs=_ at h;unfold gJ at h;split at h<;>try cases h
   split at h<;>cases h;next f=>obtain⟨k,n,s,x,l,e,i,rfl⟩:=Al f;cases e;refine⟨[_,_,_,_],rfl,λ d=>?_⟩;let⟨c,g⟩:=d _ (aT _ (aT _ (aT _ (aX ..))));unfold qd at i;split at i<;>(try cases i)<;>cases c<;>cases g
 |.list a,cs,v,r,h=>by
   change cu _ cs=_ at h;unfold cu at h;split at h<;>try cases h
   next x o=>split at h<;>cases h;next f=>refine⟨[x],rfl,λ d=>?_⟩;let⟨c,g⟩:=d x (by simp);unfold fD at f;split at f<;>(try cases f)<;>cases c<;>cases g
 |.pair a b,cs,v,r,h=>by
   let⟨B,i,z⟩:=mN.1 h;let⟨p,e1,u⟩:=HQ a i;let⟨q,A,t⟩:=HQ b z;exact⟨p++q,by rw[e1,A,bA],λ d=>by rw[aI,u λ x m=>d x (aR.2 (.inl m)),t λ x m=>d x (aR.2 (.inr m))]⟩
 |.one a,cs,v,r,h=>HQ a h
 |.map a b,cs,v,r,h=>by
   change cu _ cs=_ at h;unfold cu at h;split at h<;>try cases h
   next x o=>split at h<;>cases h;next f=>refine⟨[x],rfl,λ d=>?_⟩;let⟨c,g⟩:=d x (by simp);obtain⟨C,vs,rfl,_⟩:=nM f;cases c<;>cases g
theorem W9:∀{b:aa KC}{k:aa AV},ci b k=O->∀x∈k,∃c,ci [c] [x]=O
 |[],[],_,x,a=>by cases a
 |[],_::_,h,_,_=>by cases h
 |c::b,k,h,x,a=>by
   obtain⟨y,r,rfl,e,d⟩:=uw h;obtain rfl|a:=bi.1 a
   .exact⟨c,e⟩
   .exact W9 d x a
def qpW{a:Ty}{b:aa KC}{k:aa AV}{v:Val a}(h:bu a k=Z v)(c:ci b k=O):k=aI a v:=by
 let⟨pre,e,o⟩:=HQ a (dO.1 h);grind [W9]
def AF{e d:Type}{f:aa AV->ab e}{g:aa AV->ab d}:∀{c vs:aa (aa AV)}{l:aa (e×d)},gj f g c vs=Z l->X c=X l/\X vs=X l
 |[],[],l,h=>by cases h;exact⟨rfl,rfl⟩
 |[],_::_,l,h|_::_,[],l,h=>by cases h
 |k::c,v::vs,l,h=>by
   simp only[gj]at h;split at h<;>try cases h
   split at h<;>cases h;next i=>let⟨a,b⟩:=AF i;simp[a,b]
def M3{m i:Type}{f:aa AV->ab m}{g:aa AV->ab i}:∀{e vs:aa (aa AV)}{l:aa (m×i)},gj f g e vs=Z l->∀{j:Nat}{k v:aa AV},e[j]?=Z k->vs[j]?=Z v->∃p,l[j]?=Z p/\f k=Z p.1/\g v=Z p.2
 |[],[],l,h,j,k,v,c,d=>by simp at c
 |[],_::_,l,h,_,_,_,_,_|_::_,[],l,h,_,_,_,_,_=>by cases h
 |k::e,v::vs,l,h,j,s,r,c,d=>by
   simp only[gj]at h;split at h<;>try cases h
   rename_i a b q o;split at h<;>cases h;rename_i n;cases j with
   |zero=>simp at c d;subst c;subst d;exact⟨_,rfl,q,o⟩
   |succ j=>exact M3 n (by simpa using c) (by simpa using d)
abbrev iZ:=@Ty.size_pos
structure Mp where
 b:Nat->Nat
 nb:Nat
 r:Nat->Option Nat
 v:Nat->Nat
 q:Nat->List (List AV)
 rw:List cc
def mp0:Mp:=⟨λ _=>0,0,λ _=>U,λ _=>0,λ _=>[],[]⟩
def lvl:AV->Nat
 |.v _=>2
 |.sl _ _ n=>n
 |_=>0
def gW(r:ab Nat)(v:Nat)(τ:Ty)(l:aa (Val τ))(y:AV):Prop:=match r with
 |Z r=>y=.rs r 0 (X l) v Y
 |U=>dlist τ y=Z l/\2<=lvl y
def GY(y:AV):Prop:=y=.v (.slice U 0 0)\/(∃k a n,y=.sl k a n)\/∃r lo n b f,y=.rs r lo n b f
def qng{τ:Ty}{y:AV}{l:aa (Val τ)}(h:dlist τ y=Z l):GY y:=by
 unfold dlist fD at h;split at h
 .exact .inl rfl
 .exact .inr (.inl ⟨_,_,_,rfl⟩)
 .cases h
def gW.ish{r:ab Nat}{v:Nat}{τ:Ty}{l:aa (Val τ)}{y:AV}(h:gW r v τ l y):GY y:=by
 cases r with
 |some r=>exact .inr (.inr ⟨_,_,_,_,_,h⟩)
 |none=>exact qng h.1
def ye(m:Mp)(id a:Nat)(y:AV):Prop:=
 ∃R,m.rw[id]?=Z R/\a<=R.ver/\GY y/\(R.ver=a->gW (m.r id) (m.v id) R.τ R.l y)
mutual
def OK(m:Mp):TV->AV->Prop
 |.i k n,y=>y=.v (.int k n)
 |.b x,y=>y=.v (.bool x)
 |.s x,y=>y=.v (.string ⟨x.toArray⟩)
 |.c v,y=>cj v=O/\y=.v v
 |.nil,y=>y=.v (.slice U 0 0)
 |.sl τ l g,y=>dlist τ y=Z l/\g<=lvl y
 |.row id a,y=>ye m id a y
 |.ptr b o,y=>b<m.nb/\y=.ptr (m.b b) o
 |.pti b i,y=>b<m.nb/\0<=i/\y=.ptr (m.b b) i.toNat
 |.rpt id a d i cs o,y=>∃R,m.rw[id]?=Z R/\a<=R.ver/\d<=R.sv/\((∃r j h,y=.rpt r j o h)\/∃ds,y=.ept ds o)/\(R.ver=a->(∃r j,m.r id=Z r/\y=.rpt r j o (m.v id)/\i=((j:Nat):Int)/\j<X R.l/\(R.sv=d->∃ds,(m.q id)[j]?=Z ds/\OKL m cs ds))\/(m.r id=U/\0<X R.l/\(R.sv=d->∃ds,y=.ept ds o/\OKL m cs ds)))
 |.ept cs o,y=>∃ds,y=.ept ds o/\OKL m cs ds
 |.fn f cs,y=>∃ds,y=.fn f ds/\OKL m cs ds
 |.agg cs,y=>∃ds,y=.agg ds/\OKL m cs ds
 |.tup cs,y=>∃ds,y=.tup ds/\OKL m cs ds
 |.dead,_=>True
 |.mp b,y=>b<m.nb/\y=.mp (m.b b)
 |.mc e τ l,y=>dMc e τ (bu e) (bu τ) y=Z l
def OKL(m:Mp):aa TV->aa AV->Prop
 |[],ys=>ys=[]
 |x::xs,ys=>∃y r,ys=y::r/\OK m x y/\OKL m xs r
end
structure MLe (m m':Mp):Prop where
 nb:m.nb<=m'.nb
 b:∀i,i<m.nb->m'.b i=m.b i
 row:∀id R,m.rw[id]?=Z R->∃R',m'.rw[id]?=Z R'/\R.ver<=R'.ver/\R.sv<=R'.sv/\(R'.ver=R.ver->R'.l.length=R.l.length/\m'.r id=m.r id/\m'.v id=m.v id/\R'.τ=R.τ/\(R'.sv=R.sv->m'.q id=m.q id)/\(m.r id=U->∀y,dlist R.τ y=Z R.l->dlist R'.τ y=Z R'.l))
def MLe.refl(m:Mp):MLe m m:=⟨ak _,λ _ _=>rfl,λ _ R h=>⟨R,h,ak _,ak _,λ _=>⟨rfl,rfl,rfl,rfl,λ _=>rfl,λ _ _ h=>h⟩⟩⟩
def MLe.trans{a b c:Mp}(h:MLe a b)(g:MLe b c):MLe a c where
 nb:=bL h.nb g.nb
 b:=λ i f=>(g.b i (dl f h.nb)).trans (h.b i f)
 row:=λ id R l=>by
  let⟨d,p,o,n,m⟩:=h.row id R l;let⟨R2,t,s,r,q⟩:=g.row id d p;refine⟨R2,t,bL o s,bL n r,λ I=>?_⟩;have e1:d.ver=R.ver:=by omega
  have u:R2.ver=d.ver:=by omega
  let⟨G,j,F,E,D,C⟩:=m e1;let⟨B,A,z,x,w,v⟩:=q u;exact⟨B.trans G,A.trans j,z.trans F,x.trans E,λ H=>(w (by omega)).trans (D (by omega)),λ e y k=>v (j.trans e) y (C e y k)⟩
def ye.mono{m m':Mp}(g:MLe m m'){id f:Nat}{y:AV}(h:ye m id f y):ye m' id f y:=by
 let⟨R,n,j,i,e⟩:=h;let⟨R',q,p,_,o⟩:=g.row id R n;refine⟨R',q,bL j p,i,λ s=>?_⟩;have e1:R'.ver=R.ver:=by omega
 let⟨a,b,c,d,_,k⟩:=o e1;have e:=e (by omega);rw[b,c];revert e k;cases m.r id with
 |some r=>
   intro _ e;show y=.rs r 0 (X R'.l) (m.v id) Y;rw[a];exact e
 |none=>intro k e;exact⟨k rfl y e.1,e.2⟩
mutual
theorem OK.mono{m m':Mp}(e:MLe m m'):∀{x:TV}{y:AV},OK m x y->OK m' x y
 |.i ..,y,h|.b ..,y,h|.s ..,y,h|.c ..,y,h|.nil,y,h|.sl ..,y,h=>h
 |.row ..,y,h=>ye.mono e h
 |.ptr b o,y,h=>⟨dl h.1 e.nb,by rw[e.b _ h.1];exact h.2⟩
 |.pti b i,y,h=>⟨dl h.1 e.nb,h.2.1,by rw[e.b _ h.1];exact h.2.2⟩
 |.rpt id w H _ cs o,y,h=>by
   let⟨R,k,g,u,D,C⟩:=h;let⟨R',G,F,v,E⟩:=e.row id R k;refine⟨R',G,bL g F,bL u v,D,λ I=>?_⟩;have e1:R'.ver=R.ver:=by omega
   let⟨a,b,c,_,d,_⟩:=E e1;obtain⟨r,j,t,z,A,q,p⟩|⟨t,q,p⟩:=C (by omega)
   .refine .inl ⟨r,j,b.trans t,by rw[c];exact z,A,by rw[a];exact q,λ B=>?_⟩;let⟨ds,n,l⟩:=p (by omega);exact⟨ds,by rw[d (by omega)];exact n,OKL.mono e l⟩
   .refine .inr ⟨b.trans t,by rw[a];exact q,λ B=>?_⟩;let⟨ds,n,l⟩:=p (by omega);exact⟨ds,n,OKL.mono e l⟩
 |.ept cs o,y,⟨ds,k,g⟩|.fn f cs,y,⟨ds,k,g⟩|.agg cs,y,⟨ds,k,g⟩|.tup cs,y,⟨ds,k,g⟩=>⟨ds,k,OKL.mono e g⟩
 |.dead,y,h=>trivial
 |.mp b,y,h=>⟨dl h.1 e.nb,by rw[e.b _ h.1];exact h.2⟩
 |.mc ..,y,h=>h
theorem OKL.mono{m m':Mp}(a:MLe m m'):∀{xs:aa TV}{ys:aa AV},OKL m xs ys->OKL m' xs ys
 |[],ys,h=>h
 |x::xs,ys,⟨y,r,d,c,b⟩=>⟨y,r,d,OK.mono a c,OKL.mono a b⟩
end
def qqe{m:Mp}{R:cc}{id a o:Nat}{i:Int}{cs:aa TV}{y:AV}(h:(∃r j,m.r id=Z r/\y=.rpt r j o (m.v id)/\i=((j:Nat):Int)/\j<X R.l/\(R.sv=a->∃ds,(m.q id)[j]?=Z ds/\OKL m cs ds))\/(m.r id=U/\0<X R.l/\(R.sv=a->∃ds,y=.ept ds o/\OKL m cs ds)))(b:R.sv=a):
  (∃r j ds,m.r id=Z r/\y=.rpt r j o (m.v id)/\i=((j:Nat):Int)/\j<X R.l/\(m.q id)[j]?=Z ds/\OKL m cs ds)\/∃ds,m.r id=U/\y=.ept ds o/\0<X R.l/\OKL m cs ds:=by
 grind
def OKL.nil(m:Mp):OKL m [] []:=rfl
def OKL.cons{m:Mp}{x:TV}{y:AV}{xs:aa TV}{ys:aa AV}(h:OK m x y)(g:OKL m xs ys):OKL m (x::xs) (y::ys):=⟨y,ys,rfl,h,g⟩
def OKL.len{m:Mp}:∀{xs:aa TV}{ys:aa AV},OKL m xs ys->X ys=X xs
 |[],_,h=>by cases h;rfl
 |_::_,_,⟨_,_,rfl,_,h⟩=>by simp[h.len]
theorem OKL.get{m:Mp}:∀{xs:aa TV}{ys:aa AV},OKL m xs ys->∀{i:Nat}{x:TV},xs[i]?=Z x->∃y,ys[i]?=Z y/\OK m x y
 |[],_,_,i,x,a=>by simp at a
 |_::_,_,⟨y,r,rfl,c,b⟩,0,x,a=>by simp at a;subst a;exact⟨y,rfl,c⟩
 |_::_,_,⟨y,r,rfl,c,b⟩,i+1,x,a=>by simpa using b.get (by simpa using a)
def OKL.append{m:Mp}:∀{xs:aa TV}{ys:aa AV}{b:aa TV}{a:aa AV},OKL m xs ys->OKL m b a->OKL m (xs++b) (ys++a)
 |[],_,_,_,h,g=>by cases h;exact g
 |_::_,_,_,_,⟨y,r,rfl,d,c⟩,g=>⟨y,_,rfl,d,c.append g⟩
def OKL.take{m:Mp}(n:Nat):∀{xs:aa TV}{ys:aa AV},OKL m xs ys->OKL m (xs.take n) (ys.take n):=by
 induction n with
 |zero=>intro xs ys _;simp;exact rfl
 |succ n a=>
   intro xs ys h;cases xs with
   |nil=>cases h;exact rfl
   |cons x xs=>obtain⟨y,r,rfl,c,b⟩:=h;exact⟨y,_,rfl,c,a b⟩
def OKL.drop{m:Mp}(n:Nat):∀{xs:aa TV}{ys:aa AV},OKL m xs ys->OKL m (xs.drop n) (ys.drop n):=by
 induction n with
 |zero=>intro xs ys h;simpa using h
 |succ n a=>
   intro xs ys h;cases xs with
   |nil=>cases h;exact rfl
   |cons x xs=>obtain⟨y,r,rfl,c,b⟩:=h;simpa using a b
def OKL.split{m:Mp}:∀{xs c:aa TV}{ys:aa AV},OKL m (xs++c) ys->∃a b,ys=a++b/\OKL m xs a/\OKL m c b
 |[],_,ys,h=>⟨[],ys,rfl,rfl,h⟩
 |_::_,_,_,⟨y,r,rfl,g,f⟩=>by
   obtain⟨a,b,rfl,e,d⟩:=f.split;exact⟨y::a,b,rfl,⟨y,a,rfl,g,e⟩,d⟩
def UQ{m:Mp}{v:aj}(h:cj v=O):OK m (lT v) (.v v):=by
 unfold lT;split
 .exact rfl
 .exact rfl
 .next s=>show AV.v (.string s)=.v (.string ⟨s.data.toList.toArray⟩);cases s;simp
 .exact rfl
 .rw[h];exact⟨h,rfl⟩
def wP{m:Mp}:∀{l:aa aj},l.all cj=O->OKL m (l.map lT) (l.map .v)
 |[],_=>rfl
 |x::l,h=>by
   rw[dy,aJ]at h;exact⟨_,_,rfl,UQ h.1,wP h.2⟩
def lO{m:Mp}(v:aj):OK m (lT v) (ofC v):=by
 unfold ofC;cases h:cj v with
 |true=>exact UQ h
 |false=>
   have:lT v=.dead:=by
    unfold lT;grind [cj]
   rw[this];trivial
def ql0{m:Mp}(v:aj):OK m (V2 v) (Ie v):=by
 cases v with
 |agg cs=>
   show OK m (match cs.toList.all cj with|true=>TV.agg (cs.toList.map lT)|false=>.dead) (match cs.toList.all cj with|true=>.agg (cs.toList.map .v)|false=>.dead);cases h:cs.toList.all cj with
   |true=>exact⟨_,rfl,wP h⟩
   |false=>trivial
 |tuple vs=>
   show OK m (match V vs with|[]=>TV.tup []|_=>.dead) (match V vs with|[]=>.tup []|_=>.dead);cases V vs with
   |nil=>exact⟨_,rfl,rfl⟩
   |cons a l=>trivial
 |bool b=>exact lO (.bool b)
 |int k n=>exact lO (.int k n)
 |float k n=>exact lO (.float k n)
 |complex k a b=>exact lO (.complex k a b)
 |string s=>exact lO (.string s)
 |pointer a=>exact lO (.pointer a)
 |slice a n c=>exact lO (.slice a n c)
 |map r=>exact lO (.map r)
 |chan r=>exact lO (.chan r)
 |func f a b=>exact lO (.func f a b)
 |nilFunc=>exact lO (.nilFunc)
 |iface t v=>exact lO (.iface t v)
 |nilIface=>exact lO (.nilIface)
def kn(I:St)(R:cc)(b:ab Nat)(a:Nat)(d:aa (aa AV)):Prop:=match b with
 |Z r=>∃Q,I.rw[r]?=Z Q/\Q.c=d/\Q.ver=a/\Q.k=R.τ.size/\bU (bu R.τ) Q.c=Z R.l/\Q.fz<=X Q.c/\(R.sh=Y->Q.fz=0/\Q.off=Y)
 |U=>R.sh=Y->R.l=[]
def eu(m:Mp)(I:St):Prop:=∀id R,m.rw[id]?=Z R->kn I R (m.r id) (m.v id) (m.q id)
structure Rel (N:Nat×Nat) (m:Mp) (E:Env) (τ:TS) (tm:List AV) (I:St):Prop where
 len:tm.length=N.1
 env:∀t,OK m (get E t) (tm.getD t .dead)
 rw:m.rw=τ.rw
 nb:m.nb=τ.bx.length
 box:∀b cs,τ.bx[b]?=Z cs->∃ds,I.bx[m.b b]?=Z ds/\OKL m cs ds
 inj:∀b b',b<m.nb->b'<m.nb->m.b b=m.b b'->b=b'
 rows:eu m I
 rinj:∀id id' r,id<m.rw.length->id'<m.rw.length->m.r id=Z r->m.r id'=Z r->id=id'
 pin:∀i,i<N.2->i<m.nb/\m.b i=i
def MW{m m':Mp}{n:Nat}(c:MLe m m')(h:∀i,i<n->i<m.nb/\m.b i=i):∀i,i<n->i<m'.nb/\m'.b i=i:=λ i a=>
 ⟨dl (h i a).1 c.nb,(c.b i (h i a).1).trans (h i a).2⟩
def Rel.ev{N:Nat×Nat}{m:Mp}{E:Env}{τ:TS}{tm:aa AV}{I:St}(h:Rel N m E τ tm I)(x:bw):OK m (evT E x) (aev tm x):=by
 cases x with
 |tmp t=>exact h.env t
 |const v=>exact ql0 v
 |func f=>exact⟨_,rfl,rfl⟩
 |global g=>trivial
def Rel.evs{N:Nat×Nat}{m:Mp}{E:Env}{τ:TS}{tm:aa AV}{I:St}(h:Rel N m E τ tm I):∀l:aa bw,OKL m (l.map (evT E)) (l.map (aev tm))
 |[]=>rfl
 |x::l=>⟨_,_,rfl,h.ev x,h.evs l⟩
theorem fC{τ:Ty}{y:AV}{l:aa (Val τ)}(h:dlist τ y=Z l):y=.v (.slice U 0 0)/\l=[]\/∃a n,y=.sl τ.size a (n+1)/\bU (bu τ) a=Z l:=by
 unfold dlist fD at h;split at h
 .grind
 .rename_i k a n;split at h
  .next b=>have:=bG b;simp_all
  .cases h
 .cases h
def OK.one{m:Mp}{x:TV}{y:AV}(h:OK m x y)(d:mv x=O):isC y=O/\fd x=[x]/\cellsOf y=[y]:=by
 cases x with
 |i|b|s=>cases h;exact⟨rfl,rfl,rfl⟩
 |c=>obtain⟨_,rfl⟩:=h;exact⟨rfl,rfl,rfl⟩
 |nil=>cases h;exact⟨rfl,rfl,rfl⟩
 |sl τ l q=>
   let⟨h,_⟩:=h;obtain⟨rfl,_⟩|⟨e,n,rfl,_⟩:=fC h<;>exact⟨rfl,rfl,rfl⟩
 |row id a=>
   let⟨R,_,_,h,_⟩:=h;obtain rfl|⟨k,e,j,rfl⟩|⟨r,lo,n,g,f,rfl⟩:=h<;>exact⟨rfl,rfl,rfl⟩
 |ptr b o=>obtain⟨_,rfl⟩:=h;exact⟨rfl,rfl,rfl⟩
 |pti b i=>obtain⟨_,_,rfl⟩:=h;exact⟨rfl,rfl,rfl⟩
 |rpt id a p i cs o=>let⟨R,_,_,_,h,_⟩:=h;obtain⟨r,i,g,rfl⟩|⟨ds,rfl⟩:=h<;>exact⟨rfl,rfl,rfl⟩
 |ept cs o|fn f cs=>obtain⟨ds,rfl,_⟩:=h;exact⟨rfl,rfl,rfl⟩
 |agg cs|tup cs|dead=>simp[mv]at d
 |mp b=>obtain⟨_,rfl⟩:=h;exact⟨rfl,rfl,rfl⟩
 |mc=>obtain⟨t,vs,rfl,_⟩:=nM h;exact⟨rfl,rfl,rfl⟩
def OKL.allC{m:Mp}:∀{xs:aa TV}{ys:aa AV},OKL m xs ys->xs.all mv=O->ys.all isC=O
 |[],_,h,_=>by cases h;rfl
 |x::xs,_,⟨y,r,rfl,b,a⟩,h=>by
   rw[dy,aJ]at h;rw[dy,(b.one h.1).1,a.allC h.2];rfl
def OK.cells{m:Mp}{x:TV}{y:AV}(h:OK m x y)(e:(fd x).all mv=O):OKL m (fd x) (cellsOf y)/\(cellsOf y).all isC=O:=by
 have d:mv x=O->OKL m (fd x) (cellsOf y)/\(cellsOf y).all isC=O:=by
  intro g;let⟨a,b,c⟩:=h.one g;rw[b,c];exact⟨⟨y,[],rfl,h,rfl⟩,by simp[a]⟩
 cases x with
 |agg cs=>
   obtain⟨ds,rfl,f⟩:=h;exact⟨f,f.allC e⟩
 |tup cs|dead=>simp[fd,mv]at e
 |_=>exact d rfl
def qnO{x:AV}{l:aa T}(h:qd x=Z l):1<=lvl x:=by
 unfold qd at h;split at h
 .exact eB _
 .exact vU (aG _)
 .cases h
def Gv{τ:Ty}{y:AV}{l:aa (Val τ)}(h:dlist τ y=Z l):1<=lvl y:=by
 obtain⟨rfl,_⟩|⟨a,n,rfl,_⟩:=fC h
 .exact eB _
 .exact vU (aG _)
def Hc{m:Mp}:∀(τ:Ty) {cs:aa AV}{v:Val τ}{r:aa AV},eN τ cs=Z (v,r)->∃pre,cs=pre++r/\OKL m (jd τ v) pre
 |.int k,cs,v,r,h=>by
   change fq k cs=_ at h;unfold fq at h;split at h<;>try cases h
   split at h<;>cases h;next o=>have e:=bG o;subst e;exact⟨[_],rfl,⟨_,_,rfl,rfl,rfl⟩⟩
 |.bool,cs,v,r,h=>by
   change lZ cs=_ at h;unfold lZ at h;split at h<;>cases h;exact⟨[_],rfl,⟨_,_,rfl,rfl,rfl⟩⟩
 |.str,cs,v,r,h=>by
   change jo cs=_ at h;unfold jo at h;split at h<;>cases h;next s=>exact⟨[_],rfl,⟨_,_,rfl,by show AV.v (.string s)=.v (.string ⟨s.data.toList.toArray⟩);cases s;simp,rfl⟩⟩
 |.term,cs,v,r,h=>by
   change gJ cs=_ at h;unfold gJ at h;split at h<;>try cases h
   split at h<;>cases h;rename_i c;obtain⟨k,n,s,x,l,j,d,rfl⟩:=Al c;cases j;refine⟨_,rfl,⟨_,_,rfl,rfl,_,_,rfl,?_,_,_,rfl,rfl,_,_,rfl,⟨?_,qnO d⟩,rfl⟩⟩
   .show AV.v (.string n)=.v (.string ⟨n.data.toList.toArray⟩);cases n;simp
   .rw[FZ];exact d
 |.list a,cs,v,r,h=>by
   change cu _ cs=_ at h;unfold cu at h;split at h<;>try cases h
   split at h<;>cases h;next c=>have c:dlist a _=Z v:=c;exact⟨[_],rfl,⟨_,_,rfl,⟨c,Gv c⟩,rfl⟩⟩
 |.pair a b,cs,v,r,h=>by
   let⟨u,d,q⟩:=mN.1 h;let⟨p,e1,i⟩:=Hc (m:=m) a d;let⟨f,t,g⟩:=Hc (m:=m) b q;exact⟨p++f,by rw[e1,t,bA],i.append g⟩
 |.one a,cs,v,r,h=>Hc (m:=m) a h
 |.map a b,cs,v,r,h=>by
   change cu _ cs=_ at h;unfold cu at h;split at h<;>try cases h
   split at h<;>cases h;next c=>exact⟨[_],rfl,⟨_,_,rfl,c,rfl⟩⟩
def lN{m:Mp}{τ:Ty}{e:aa AV}{v:Val τ}(h:bu τ e=Z v):OKL m (jd τ v) e:=by
 let⟨pre,b,a⟩:=Hc (m:=m) τ (dO.1 h);grind
theorem jA(τ:Ty)(v:Val τ):bu τ (aI τ v)=Z v:=dO.2 (uj τ v)
def Ib{m:Mp}:∀(τ:Ty) (v:Val τ),OK m (om τ v) (cx τ v)
 |.int k,v|.bool,v|.str,v=>rfl
 |.list a,v=>by
   have h:OKL m (jd (.list a) v) (aI (.list a) v):=lN (jA (.list a) v);let⟨y,r,d,c,_⟩:=h;cases d;exact c
 |.term,v=>⟨_,rfl,lN (jA .term v)⟩
 |.pair a b,v=>⟨_,rfl,lN (jA (.pair a b) v)⟩
 |.one a,v=>⟨_,rfl,lN (jA (.one a) v)⟩
 |.map a b,v=>by
   have h:OKL m (jd (.map a b) v) (aI (.map a b) v):=lN (jA (.map a b) v);let⟨y,r,d,c,_⟩:=h;cases d;exact c
end
section
open RowKit
def qr2(τ:TS):ab TS->TS
 |U=>τ
 |Z a=>a
def Sim{α:Type}(N:Nat×Nat)(m:Mp)(E:Env)(τ:TS)(tm:aa AV)(I:St)(K:KT α)(r:α)(p:ab (AV×ab St)):Prop:=
 ∃x a y σ' m',K x a=Z r/\p=Z (y,σ')/\MLe m m'/\Rel N m' E (qr2 τ a) tm (turn I σ')/\OK m' x y/\(a=U->σ'=U)
section
variable {α:Type}{N:Nat×Nat}{m:Mp}{E:Env}{τ:TS}{tm:aa AV}{I:St}{K:KT α}{r:α}{p:ab (AV×ab St)}
theorem Sim.same{x:TV}{y:AV}(a:Rel N m E τ tm I)(h:K x U=Z r)(b:p=Z (y,U))(c:OK m x y):Sim N m E τ tm I K r p:=
 ⟨x,U,y,U,m,h,b,.refl m,a,c,λ _=>rfl⟩
theorem Sim.to{x:TV}{y:AV}{a:TS}{σ':St}{m':Mp}(h:K x (Z a)=Z r)(b:p=Z (y,Z σ'))(e:MLe m m')(d:Rel N m' E a tm σ')(c:OK m' x y):Sim N m E τ tm I K r p:=
 ⟨x,Z a,y,Z σ',m',h,b,e,d,c,λ h=>by cases h⟩
theorem Rel.box_lt(a:Rel N m E τ tm I){b:Nat}(h:b<m.nb):m.b b<X I.bx:=by
 rw[a.nb]at h;let⟨ds,c,_⟩:=a.box b _ (aS h);exact getElem?_lt c
theorem Rel.alloc(a:Rel N m E τ tm I){cs:aa TV}{ds:aa AV}(q:OKL m cs ds):
  ∃m',MLe m m'/\Rel N m' E {τ with bx:=τ.bx++[cs]} tm {I with bx:=I.bx++[ds]}/\OK m' (.ptr (X τ.bx) 0) (.ptr (X I.bx) 0):=by
 have c:MLe m {m with b:=λ i=>if i=m.nb then X I.bx else m.b i,nb:=m.nb+1}:=
  ⟨eB _,λ i p=>ae (BT p),λ id R h=>⟨R,h,ak _,ak _,λ _=>⟨rfl,rfl,rfl,rfl,λ _=>rfl,λ _ _ h=>h⟩⟩⟩
 refine⟨_,c,?_,?_⟩
 .refine⟨a.len,λ t=>(a.env t).mono c,a.rw,by show m.nb+1=_;rw[a.nb];simp,?_,?_,a.rows,a.rinj,MW c a.pin⟩
  .intro b cs' d;show ∃e,(I.bx++[ds])[if b=m.nb then X I.bx else m.b b]?=Z e/\_;by_cases j:b<X τ.bx
   .rw[dq j]at d;let⟨e,o,r⟩:=a.box b cs' d;rw[ae (by rw[a.nb];omega),dq (getElem?_lt o)];exact⟨e,o,r.mono c⟩
   .have k:b<X (τ.bx++[cs]):=getElem?_lt d;simp at k;have l:b=X τ.bx:=by omega
    subst l;simp at d;subst d;rw[af a.nb.symm];exact⟨ds,by simp,q.mono c⟩
  .intro b f d n g;change b<m.nb+1 at d;change f<m.nb+1 at n;change (if b=m.nb then X I.bx else m.b b)=(if f=m.nb then X I.bx else m.b f)at g;split at g<;>split at g
   .omega
   .have:=a.box_lt (b:=f) (by omega);omega
   .have:=a.box_lt (b:=b) (by omega);omega
   .exact a.inj b f (by omega) (by omega) g
 .refine⟨?_,?_⟩
  .show (X τ.bx)<m.nb+1;rw[a.nb];exact vS _
  .show AV.ptr (X I.bx) 0=.ptr (if X τ.bx=m.nb then X I.bx else m.b (X τ.bx)) 0;rw[af a.nb.symm]
theorem Rel.setBox(a:Rel N m E τ tm I){b:Nat}{cs:aa TV}{ds:aa AV}(g:b<m.nb)(k:OKL m cs ds)(w:aa Nat):Rel N m E {τ with bx:=τ.bx.set b cs} tm {I with bx:=I.bx.set (m.b b) ds,wr:=w}:=by
 refine⟨a.len,a.env,a.rw,by rw[a.nb];simp,?_,a.inj,a.rows,a.rinj,a.pin⟩;intro i cs' d;have c:i<m.nb:=by rw[a.nb];have:=getElem?_lt d;simpa using this
 by_cases f:i=b
 .subst f;have e:i<X τ.bx:=by rw[<-a.nb];exact c
  simp only[gx e,dQ]at d;subst d;exact⟨ds,by simp only[gx (a.box_lt g)],k⟩
 .simp only[kK (mC f)]at d;let⟨l,p,o⟩:=a.box i cs' d;have j:m.b b≠m.b i:=λ h=>f (a.inj _ _ c g h.symm);grind
theorem Rel.rowsTo(a:Rel N m E τ tm I){σ':St}(c:σ'.bx=I.bx)(b:eu m σ'):Rel N m E τ tm σ':=
 ⟨a.len,a.env,a.rw,a.nb,by rw[c];exact a.box,a.inj,b,a.rinj,a.pin⟩
theorem qod{r:Nat}{Q:Row}(f:Q.fz<=X Q.c):∀(e:aa Nat) {rw:aa Row},rw[r]?=Z Q->∃d,(frz rw e)[r]?=Z d/\d.c=Q.c/\d.k=Q.k/\d.ver=Q.ver/\d.fz<=X d.c:=by
 intro e
 induction e generalizing Q with
 |nil=>intro rw h;exact⟨Q,h,rfl,rfl,rfl,f⟩
 |cons a e n=>
   intro rw h
   have:∃b,(rw.modify a qv)[r]?=Z b/\b.c=Q.c/\b.k=Q.k/\b.ver=Q.ver/\b.fz<=X b.c:=by
    rw[qbX,h];by_cases o:a=r
    .exact⟨qv Q,by simp[o],rfl,rfl,rfl,Nat.max_le.2 ⟨f,ak _⟩⟩
    .grind
   let⟨b,u,t,s,q,p⟩:=this;let⟨v,m,l,j,i,g⟩:=n (Q:=b) p u;exact⟨v,m,l.trans t,j.trans s,i.trans q,g⟩
def shM(m:Mp):Mp:={m with rw:=m.rw.map λ R=>⟨R.τ,R.l,R.ver,R.sv,O⟩}
theorem X0{id:Nat}{R:cc}(h:(shM m).rw[id]?=Z R):∃a,m.rw[id]?=Z a/\R=⟨a.τ,a.l,a.ver,a.sv,O⟩:=by
 change (m.rw.map _)[id]?=Z R at h;grind
theorem oL(m:Mp):MLe m (shM m):=by
 refine⟨ak _,λ _ _=>rfl,λ id R h=>⟨⟨R.τ,R.l,R.ver,R.sv,O⟩,?_,ak _,ak _,λ _=>⟨rfl,rfl,rfl,rfl,λ _=>rfl,λ _ _ h=>h⟩⟩⟩;show(m.rw.map _)[id]?=_;rw[df,h];rfl
theorem eu.frz(h:eu m I)(b w:aa Nat):eu (shM m) {I with rw:=frz I.rw b,wrr:=w}:=by
 intro id R e;obtain⟨a,i,rfl⟩:=X0 e;have:=h id a i;show match m.r id with|some r=>∃Q,(Go.AmZ.frz I.rw b)[r]?=Z Q/\Q.c=m.q id/\Q.ver=m.v id/\Q.k=a.τ.size/\bU (bu a.τ) Q.c=Z a.l/\Q.fz<=X Q.c/\(O=Y->Q.fz=0/\Q.off=Y)|none=>O=Y->a.l=[]
 cases d:m.r id with
 |some r=>
   rw[d]at this;let⟨Q,g,p,o,n,j,f,_⟩:=this;let⟨z,y,x,u,t,s⟩:=qod f (rw:=I.rw) b g;grind
 |none=>intro h;cases h
theorem eu.sh(h:eu m I):eu (shM m) I:=by
 intro id R d;obtain⟨a,e,rfl⟩:=X0 d;have:=h id a e;show match m.r id with|some r=>∃Q,I.rw[r]?=Z Q/\Q.c=m.q id/\Q.ver=m.v id/\Q.k=a.τ.size/\bU (bu a.τ) Q.c=Z a.l/\Q.fz<=X Q.c/\(O=Y->Q.fz=0/\Q.off=Y)|none=>O=Y->a.l=[]
 cases b:m.r id with
 |some r=>
   rw[b]at this;let⟨Q,o,n,j,i,g,f,_⟩:=this;grind
 |none=>intro h;cases h
theorem Rel.share(a:Rel N m E τ tm I){σ':St}(f:σ'.bx=I.bx)(e:eu (shM m) σ'):Rel N (shM m) E (shA τ) tm σ':=by
 refine⟨a.len,λ t=>(a.env t).mono (oL m),by show m.rw.map _=τ.rw.map _;rw[a.rw],a.nb,?_,a.inj,e,?_,a.pin⟩
 .intro b cs d;let⟨ds,h,g⟩:=a.box b cs d;exact⟨ds,by rw[f];exact h,g.mono (oL m)⟩
 .intro id c r e1 k j i;have l:(shM m).rw.length=X m.rw:=bO ..;exact a.rinj id c r (l▸e1) (l▸k) j i
theorem qqs{op:mJ}{k:IntKind}{a b:Int}{d:TV->ab α}{r:α}(h:Pe op k a b d=Z r):∃x z,d x=Z r/\Bu op k a b=Z z/\OK m x (.v z):=by
 cases op<;>simp only[Pe]at h<;>first
  |(cases h;done)
  |exact⟨_,_,h,rfl,rfl⟩
  |skip
 all_goals (
  cases c:ieq b 0 with
  |true=>rw[c]at h;cases h
  |false=>rw[c]at h;exact⟨_,_,h,by simp only[Bu,c],rfl⟩)
theorem qo7{a b:aa aN}(h:lg a b=O):Jo ⟨a.toArray⟩ ⟨b.toArray⟩=Z ⟨(a++b).toArray⟩:=by
 have h:=bG h;unfold Jo;have e1:(⟨a.toArray⟩:io).size=X a:=by simp[ByteArray.size]
 have c:(⟨b.toArray⟩:io).size=X b:=by simp[ByteArray.size]
 rw[ae (by rw[e1,c];omega)];congr 1
theorem YH(a b:aa aN):xeq ⟨a.toArray⟩ ⟨b.toArray⟩=bq a b:=by
 simp[xeq,bq]
theorem qqi(a b:aa aN):xlt ⟨a.toArray⟩ ⟨b.toArray⟩=slt a b:=by
 simp[xlt,slt]
theorem qra{op:mJ}{a b:aa aN}{d:TV->ab α}{r:α}(h:Pz op a b d=Z r):∃x z,d x=Z r/\BK op ⟨a.toArray⟩ ⟨b.toArray⟩=Z z/\OK m x (.v z):=by
 cases op<;>simp only[Pz]at h<;>first
  |(cases h;done)
  |(refine⟨_,_,h,rfl,?_⟩;simp only[YH,qqi];exact rfl)
  |skip
 cases c:lg a b with
 |false=>rw[c]at h;cases h
 |true=>rw[c]at h;exact⟨_,_,h,by simp only[BK,qo7 c],rfl⟩
theorem WH{place:Nat->ab (Nat×Nat)}:∀{l:aa (Nat×TV)}{l':aa (Nat×AV)}{cells:aa TV}{cells':aa AV}{cs:aa TV},
  (l.map (·.1)=l'.map (·.1)/\OKL m (l.map (·.2)) (l'.map (·.2)))->OKL m cells cells'->IH place cells l=Z cs->∃ds,rL place cells' l'=Z ds/\OKL m cs ds
 |[],l',cells,cells',cs,c,d,h=>by
   have:l'=[]:=by cases l' with|nil=>rfl|cons a b=>simp at c
   subst this;cases h;exact⟨cells',rfl,d⟩
 |(i,x)::l,l',cells,cells',cs,c,d,h=>by
   cases l' with
   |nil=>simp at c
   |cons q l'=>
     let⟨j,y⟩:=q;simp only[aU,List.cons.injEq]at c;obtain⟨⟨rfl,f⟩,w,z,p,n,e⟩:=c;cases p;simp only[IH]at h;simp only[rL];split at h<;>try cases h
     rename_i off size o;split at h<;>try cases h
     rename_i g;simp only[aJ,cH]at g;let⟨⟨t,s⟩,r⟩:=g;let⟨k,u⟩:=n.cells r;rw[o];have e1:X (cellsOf y)=size:=by rw[k.len];exact t
     have v:off+size<=X cells':=by rw[d.len];exact s
     simp only[e1,v,u,ij,lE];exact WH ⟨f,e⟩ ((d.take off).append (k.append (d.drop (off+size)))) h
theorem uJ{a:Bool}{size o:Nat}{cs:aa TV}{ds:aa AV}{x:TV}(b:OKL m cs ds)(h:rN a size cs o=Z x):∃y,lW a size ds o=Z y/\OK m x y:=by
 unfold rN at h;unfold lW;cases a with
 |true=>
   simp only at h |-
   split at h<;>cases h;next c=>rw[<-b.len]at c;rw[c];exact⟨_,rfl,_,rfl,(b.drop o).take size⟩
 |false=>exact b.get h
theorem qV(e:Rel N m E τ tm I){y:Nat}{d:Nat}{a:ab bw}{n:Int}(h:oM d E a=Z n)(f:d<=y)(b:inb n y=O):iH d y (a.map (aev tm))=Z n.toNat:=by
 have b:=bG b;cases a with
 |none=>
   grind [oM,iH]
 |some x=>
   simp only[oM]at h;split at h<;>cases h;next k c=>have:=e.ev x;rw[c]at this;show IF y (aev tm x)=_;rw[this];show bnd y n=_;unfold bnd;rw[af b]
theorem Ai{a:Type}{l:aa a}{j:Int}{v:a}(h:ao l j=Z v):0<=j/\l[j.toNat]?=Z v:=by
 grind [ao]
theorem oB{b a:Type}{x:ab b}{k:b->ab a}{r:a}(h:ac x k=Z r):∃v,x=Z v/\k v=Z r:=by
 unfold ac at h;grind
theorem kh{b:Bool}{x:ab α}{r:α}(h:cond b x U=Z r):b=O/\x=Z r:=by
 grind
theorem Uj{b:Bool}{x:ab α}{r:α}(h:cond b U x=Z r):b=Y/\x=Z r:=by
 grind
end
end
section
open RowKit
def gf(τ:Ty)(y:AV):ab (Val τ):=match dj τ.agg (gU y)with
 |O=>bu τ (cellsOf y)
 |Y=>U
section
variable {α:Type}{N:Nat×Nat}{m:Mp}{E:Env}{τ:TS}{tm:aa AV}{I:St}{K:KT α}{r:α}{p:ab (AV×ab St)}
theorem kg{a b l l'}(h:me l b=Z l'):∃e:a=b,e▸l=l':=by
 grind [me]
theorem qmJ(Q):vk Q Q.k 0 (X Q.c) Q.ver=Z Q.c:=by
 grind [vk]
theorem rp(a:eu m I){id R y}(f:m.rw[id]?=Z R)(h:gW (m.r id) (m.v id) R.τ R.l y):
  (∃r Q,m.r id=Z r/\y=.rs r 0 (X Q.c) Q.ver Y/\I.rw[r]?=Z Q/\Q.c=m.q id/\Q.ver=m.v id/\Q.k=R.τ.size/\bU (bu R.τ) Q.c=Z R.l/\Q.fz<=X Q.c/\(R.sh=Y->Q.fz=0/\Q.off=Y))\/
  (m.r id=U/\(R.sh=Y->R.l=[])/\dlist R.τ y=Z R.l/\2<=lvl y):=by
 have a:=a id R f;cases b:m.r id with
 |some r=>
   rw[b]at a h;let⟨Q,n,j,e,i,d,g⟩:=a;refine .inl ⟨r,Q,rfl,?_,n,j,e,i,d,g⟩;rw[dU d,e];exact h
 |none=>
   rw[b]at a h;exact .inr ⟨rfl,a,h.1,h.2⟩
theorem Vq{a y l}(rw')(h:dlist a y=Z l):∃b,elems rw' a.size y=Z b/\bU (bu a) b=Z l/\dlist a (bC rw' y)=Z l:=by
 obtain⟨rfl,c⟩|⟨b,n,rfl,c⟩:=fC h
 .rw[c];exact⟨[],rfl,rfl,rfl⟩
 .refine⟨b,by simp[elems,bJ,ij],c,?_⟩;show dlist _ (.sl _ b 1)=_;grind [dlist,fD,bJ]
theorem AK(j:eu m I){a x y l}(h:rK m.rw a x=Z l)(c:OK m x y):
  ∃g,elems I.rw a.size y=Z g/\bU (bu a) g=Z l/\dlist a (bC I.rw y)=Z l:=by
 unfold rK at h;split at h
 .cases h;cases c;exact⟨[],rfl,rfl,rfl⟩
 .obtain⟨e,rfl⟩:=kg h;subst e;exact Vq _ c.1
 .rename_i id i;split at h<;>try cases h
  rename_i R d;split at h<;>try cases h
  rename_i b;have b:=cm b;obtain⟨e,rfl⟩:=kg h;subst e;let⟨R',f,_,_,k⟩:=c;rw[d]at f;cases f;obtain⟨r,Q,_,rfl,q,_,_,p,o,_⟩|⟨_,_,n,_⟩:=rp j d (k b)
  .grind [elems,bC,dlist,fD,bJ,qmJ,decide_true]
  .exact Vq _ n
 .cases h
theorem pM(j:eu m I):∀a {cs v r ds},oQ m.rw a cs=Z (v,r)->OKL m cs ds->∃d,eN a (ds.map (bC I.rw))=Z (v,d.map (bC I.rw))/\OKL m r d
 |.int k,cs,v,r,ds,h,c=>by
   change O0 k cs=_ at h;unfold O0 at h;split at h<;>try cases h
   split at h<;>cases h;next A=>obtain⟨y,d,rfl,f,g⟩:=c;cases f;exact⟨d,by show fq _ _=_;simp only[aU,bC,fq,A],g⟩
 |.bool,cs,v,r,ds,h,c=>by
   change OD cs=_ at h;unfold OD at h;split at h<;>cases h;obtain⟨y,d,rfl,f,g⟩:=c;cases f;exact⟨d,rfl,g⟩
 |.str,cs,v,r,ds,h,c=>by
   change OY cs=_ at h;unfold OY at h;split at h<;>cases h;obtain⟨y,d,rfl,f,g⟩:=c;cases f;exact⟨d,by show jo _=_;simp only[aU,bC,jo],g⟩
 |.term,cs,v,r,ds,h,c=>by
   change OQ _ cs=_ at h;unfold OQ at h;split at h<;>try cases h
   split at h<;>cases h;next i=>obtain⟨y1,w,rfl,s,y2,H,rfl,q,y3,G,rfl,p,y4,t,rfl,o,g⟩:=c;cases s;cases q;cases p;let⟨F,_,_,l⟩:=AK j i o;rw[FZ]at l;refine⟨t,?_,g⟩;show gJ (.v (.int .i64 _)::.v (.string ⟨_⟩)::.v (.int .i64 _)::bC I.rw y4::t.map (bC I.rw))=_;grind [gJ,fO]
 |.list a,cs,v,r,ds,h,c=>by
   change OB _ cs=_ at h;unfold OB at h;split at h<;>try cases h
   split at h<;>cases h;next i=>obtain⟨y,d,rfl,f,g⟩:=c;let⟨F,_,_,l⟩:=AK j i f;have l:fD a.size (λ e=>full (eN a e)) (bC I.rw y)=Z v:=l;exact⟨d,by show cu _ _=_;simp only[aU,cu,l],g⟩
 |.pair a b,cs,v,r,ds,h,c=>by
   let⟨w,C,B⟩:=mN.1 h;let⟨u,E,D⟩:=pM j a C c;let⟨n,z,x⟩:=pM j b B D;exact⟨n,mN.2 ⟨_,E,z⟩,x⟩
 |.one a,cs,v,r,ds,h,c=>pM j a h c
 |.map a b,cs,v,r,ds,h,c=>by
   change O9 a b cs=_ at h;unfold O9 at h;split at h<;>try cases h
   split at h<;>cases h;next i=>obtain⟨y,d,rfl,f,g⟩:=c;unfold IS at i;split at i<;>cases i;next e=>obtain⟨rfl,rfl⟩:=e;have f:dMc _ _ _ _ y=Z _:=f;obtain⟨K,vs,rfl,_⟩:=nM f;exact⟨d,by show cu (dMc _ _ (bu _) (bu _)) _=_;simp only[aU,bC,cu,f],g⟩
theorem wM{β x}{v:β}(h:rP x=Z v):x=Z (v,[]):=by
 unfold rP at h;grind
theorem LH(rw){y}(h:gU y=Y):gU (cE rw y)=Y/\cellsOf (cE rw y)=[bC rw y]/\cellsOf y=[y]:=by
 cases y with
 |agg cs=>cases h
 |rs r lo n a f=>
   grind [cE,bC,gU,cellsOf]
 |_=>exact⟨rfl,rfl,rfl⟩
theorem rk(B:eu m I){a:Ty}{x:TV}{y:AV}{v:Val a}(h:jD m.rw a x=Z v)(d:OK m x y):
  gf a (cE I.rw y)=Z v/\bu a ((cellsOf y).map (bC I.rw))=Z v:=by
 unfold jD at h;split at h
 case h_2=>cases h
 rename_i t;have t:a.agg=Iu x:=by simpa[dj]using t
 have h:=wM h
 have g:OKL m (fd x) (cellsOf y)->bu a ((cellsOf y).map (bC I.rw))=Z v:=by
  intro z;let⟨K,D,C⟩:=pM B a h z;cases C;exact dO.2 D
 by_cases p:Iu x=O
 .cases x with
  |agg cs=>
    obtain⟨ds,rfl,w⟩:=d;refine⟨?_,g w⟩;unfold gf;rw[t];exact g w
  |_=>cases p
 .have p:Iu x=Y:=by simpa using p
  have q:fd x=[x]:=by cases x<;>first|rfl|(cases p)
  have A:gU y=Y:=by
   cases x with
   |agg cs=>cases p
   |i|b|s=>cases d;rfl
   |c=>obtain⟨_,rfl⟩:=d;rfl
   |nil=>cases d;rfl
   |sl τ l L=>
     let⟨d,_⟩:=d;obtain⟨rfl,_⟩|⟨E,n,rfl,_⟩:=fC d<;>rfl
   |row id u=>
     let⟨R,_,_,d,_⟩:=d;obtain rfl|⟨k,E,j,rfl⟩|⟨r,lo,n,F,f,rfl⟩:=d<;>rfl
   |ptr b o=>obtain⟨_,rfl⟩:=d;rfl
   |pti b i=>obtain⟨_,_,rfl⟩:=d;rfl
   |rpt id u H i cs o=>let⟨R,_,_,_,d,_⟩:=d;obtain⟨r,i,F,rfl⟩|⟨ds,rfl⟩:=d<;>rfl
   |ept cs o|fn f cs|tup cs=>obtain⟨ds,rfl,_⟩:=d;rfl
   |mp b=>obtain⟨_,rfl⟩:=d;rfl
   |mc=>obtain⟨M,vs,rfl,_⟩:=nM d;rfl
   |dead=>
     exfalso;rw[q]at h;have e:a.agg=Y:=by rw[t];rfl
     cases a with
     |int k|bool|str|list a|map a b=>cases h
     |term|pair a b|one a=>cases e
  let⟨e1,N,G⟩:=LH I.rw A;have z:OKL m (fd x) (cellsOf y):=by rw[q,G];exact⟨y,[],rfl,d,rfl⟩
  grind [gf]
theorem Nd{x y}(a:OK m x y)(h:rO x=O):rsC y=[]/\gU y=Y:=by
 cases x with
 |i|b|s=>cases a;exact⟨rfl,rfl⟩
 |c=>obtain⟨_,rfl⟩:=a;exact⟨rfl,rfl⟩
 |nil=>cases a;exact⟨rfl,rfl⟩
 |sl τ l d=>
   let⟨a,_⟩:=a;obtain⟨rfl,_⟩|⟨g,n,rfl,_⟩:=fC a<;>exact⟨rfl,rfl⟩
 |fn f cs=>obtain⟨ds,rfl,_⟩:=a;exact⟨rfl,rfl⟩
 |mc=>obtain⟨e,vs,rfl,_⟩:=nM a;exact⟨rfl,rfl⟩
 |_=>cases h
theorem Ah: ∀{xs ys},OKL m xs ys->xs.all rO=O->ys.flatMap rsC=[]
 |[],_,h,_=>by cases h;rfl
 |x::xs,_,⟨y,r,rfl,b,a⟩,h=>by
   rw[dy,aJ]at h;rw[sn,(Nd b h.1).1,Ah a h.2];rfl
theorem qqo{y}(b:rsC y=[])(a:gU y=Y):rsA y=[]:=by
 cases y<;>first|(cases a;done)|exact b
theorem H3{x y}(h:oX x=O)(c:OK m x y):rsA y=[]:=by
 cases x with
 |agg cs=>
   obtain⟨ds,rfl,d⟩:=c;exact Ah d h
 |_=>let⟨a,b⟩:=Nd c h;exact qqo a b
theorem M7: ∀{xs ys},xs.all oX=O->OKL m xs ys->ys.flatMap rsA=[]
 |[],_,_,h=>by cases h;rfl
 |x::xs,_,h,⟨y,r,rfl,b,a⟩=>by
   rw[dy,aJ]at h;rw[sn,H3 h.1 b,M7 h.2 a];rfl
theorem Wx(c:eu m I){a:Ty}:∀{xs ys vs},xU m.rw a xs=Z vs->OKL m xs ys->
  bU (bu a) (ys.map λ y=>(cellsOf y).map (bC I.rw))=Z vs
 |[],ys,vs,h,e=>by cases e;cases h;rfl
 |x::xs,ys,vs,h,⟨y,r,f,i,g⟩=>by
   subst f;simp only[xU]at h;split at h<;>try cases h
   next v d=>split at h<;>cases h;next vs b=>exact jw.2 ⟨v,vs,(rk c d i).2,Wx c b g,rfl⟩
end
end
section
open RowKit
def Mp.add(m:Mp)(R:cc)(ro:ab Nat)(vo:Nat)(qo:aa (aa AV)):Mp:=
 ⟨m.b,m.nb,λ i=>if i=X m.rw then ro else m.r i,λ i=>if i=X m.rw then vo else m.v i,λ i=>if i=X m.rw then qo else m.q i,m.rw++[R]⟩
def Mp.upd(m:Mp)(id:Nat)(R:cc)(ro:ab Nat)(vo:Nat)(qo:aa (aa AV)):Mp:=
 ⟨m.b,m.nb,λ i=>if i=id then ro else m.r i,λ i=>if i=id then vo else m.v i,λ i=>if i=id then qo else m.q i,m.rw.set id R⟩
section
variable {α:Type}{N:Nat×Nat}{m:Mp}{E:Env}{τ:TS}{tm:aa AV}{I:St}{K:KT α}{r:α}{p:ab (AV×ab St)}{c:TC}{C:Cfg}{R R2:cc}{ro:ab Nat}{vo:Nat}{qo:aa (aa AV)}{id:Nat}
theorem AU(m R ro vo qo):MLe m (m.add R ro vo qo):=by
 refine⟨ak _,λ i _=>rfl,λ id R' h=>?_⟩;have b:=getElem?_lt h;have a:=BT b;exact⟨R',by show(m.rw++_)[id]?=_;rw[dq b];exact h,ak _,ak _,λ _=>⟨rfl,ae a,ae a,rfl,λ _=>ae a,λ _ _ h=>h⟩⟩
theorem kn.later{σ'}(h:kn I R ro vo qo)(a:∀r Q,ro=Z r->I.rw[r]?=Z Q->σ'.rw[r]?=Z Q):kn σ' R ro vo qo:=by
 cases ro with
 |none=>exact h
 |some r=>
   let⟨Q,c,b⟩:=h;exact⟨Q,a r Q rfl c,b⟩
theorem G3{σ'}(d:eu m I)(f:kn σ' R ro vo qo)(e:∀(r:Nat) (Q:Row),I.rw[r]?=Z Q->σ'.rw[r]?=Z Q):eu (m.add R ro vo qo) σ':=by
 intro id R' c;change (m.rw++[R])[id]?=Z R' at c;show kn σ' R' (if id=X m.rw then ro else m.r id) (if id=X m.rw then vo else m.v id) (if id=X m.rw then qo else m.q id);by_cases b:id=X m.rw
 .grind
 .rw[ae b,ae b,ae b];have a:id<X m.rw:=by grind
  rw[dq a]at c;exact(d id R' c).later λ r Q _ h=>e r Q h
theorem Y3(k:m.rw[id]?=Z R)(n:R.ver<=R2.ver)(o:R.sv<=R2.sv)(p:R2.ver=R.ver->X R2.l=X R.l/\ro=m.r id/\vo=m.v id/\R2.τ=R.τ/\(R2.sv=R.sv->qo=m.q id)/\(m.r id=U->∀y,dlist R.τ y=Z R.l->dlist R2.τ y=Z R2.l)):MLe m (m.upd id R2 ro vo qo):=by
 have j:=getElem?_lt k;refine⟨ak _,λ i _=>rfl,λ i R' h=>?_⟩;by_cases g:i=id
 .subst g;rw[k]at h;cases h;refine⟨R2,by show(m.rw.set i R2)[i]?=_;rw[gx j],n,o,λ h=>?_⟩;let⟨a,b,c,d,e,f⟩:=p h;exact⟨a,(af rfl).trans b,(af rfl).trans c,d,λ h=>(af rfl).trans (e h),f⟩
 .exact⟨R',by show(m.rw.set id R2)[i]?=_;rw[kK (mC g)];exact h,ak _,ak _,λ _=>⟨rfl,ae g,ae g,rfl,λ _=>ae g,λ _ _ h=>h⟩⟩
theorem WO{σ'}(j:m.rw[id]?=Z R)(d:eu m I)(h:kn σ' R2 ro vo qo)(e:∀a r Q,a≠id->a<X m.rw->m.r a=Z r->I.rw[r]?=Z Q->σ'.rw[r]?=Z Q):eu (m.upd id R2 ro vo qo) σ':=by
 intro i R' c;change (m.rw.set id R2)[i]?=Z R' at c;show kn σ' R' (if i=id then ro else m.r i) (if i=id then vo else m.v i) (if i=id then qo else m.q i);by_cases b:i=id
 .grind
 .rw[ae b,ae b,ae b];rw[kK (mC b)]at c;exact(d i R' c).later λ r Q g f=>e i r Q b (getElem?_lt c) g f
theorem Rel.to{m' rw' σ'}(c:Rel N m E τ tm I)(a:MLe m m')(l:m'.rw=rw')(g:m'.nb=m.nb)(f:m'.b=m.b)(k:σ'.bx=I.bx)(h:eu m' σ')
  (j:∀i d r,i<X m'.rw->d<X m'.rw->m'.r i=Z r->m'.r d=Z r->i=d):Rel N m' E {τ with rw:=rw'} tm σ':=by
 refine⟨c.len,λ t=>(c.env t).mono a,l,by rw[g];exact c.nb,?_,by rw[g,f];exact c.inj,h,j,MW a c.pin⟩;intro b cs e;let⟨ds,o,n⟩:=c.box b cs e;exact⟨ds,by rw[k,f];exact o,n.mono a⟩
theorem Rel.row_lt(a:Rel N m E τ tm I){id r}(h:id<X m.rw)(b:m.r id=Z r):r<X I.rw:=by
 have:=a.rows id _ (aS h);rw[b]at this;let⟨Q,c,_⟩:=this;exact getElem?_lt c
theorem Rel.rowAdd{σ'}(b:Rel N m E τ tm I)(R ro vo qo)(j:σ'.bx=I.bx)(h:kn σ' R ro vo qo)(i:∀(r:Nat) (Q:Row),I.rw[r]?=Z Q->σ'.rw[r]?=Z Q)(e:∀r,ro=Z r->X I.rw<=r){y}(d:gW ro vo R.τ R.l y)(k:R.ver=0):
  ∃m',MLe m m'/\Rel N m' E {τ with rw:=τ.rw++[R]} tm σ'/\OK m' (.row (X τ.rw) 0) y:=by
 refine⟨m.add R ro vo qo,AU _ _ _ _ _,b.to (AU _ _ _ _ _) (by show m.rw++_=_;rw[b.rw]) rfl rfl j (G3 b.rows h i) ?_,?_⟩
 .intro id a r g f e1 c;change id<X (m.rw++[_]) at g;change a<X (m.rw++[_]) at f;change (if id=X m.rw then ro else m.r id)=Z r at e1;change (if a=X m.rw then ro else m.r a)=Z r at c;simp at g f;split at e1<;>split at c
  .omega
  .have:=b.row_lt (by omega) c;have:=e r e1;omega
  .have:=b.row_lt (by omega) e1;have:=e r c;omega
  .exact b.rinj id a r (by omega) (by omega) e1 c
 .refine⟨R,?_,aG _,d.ish,λ _=>?_⟩
  .show(m.rw++_)[X τ.rw]?=_;rw[b.rw];simp
  .show gW (if X τ.rw=X m.rw then ro else m.r (X τ.rw)) (if X τ.rw=X m.rw then vo else m.v (X τ.rw)) _ _ y;rw[af (by rw[b.rw]),af (by rw[b.rw])];exact d
theorem Rel.rowNew(b:Rel N m E τ tm I){a es l}(c:bU (bu a) es=Z l):
  ∃m',MLe m m'/\Rel N m' E {τ with rw:=τ.rw++[⟨a,l,0,0,Y⟩]} tm {I with rw:=I.rw++[⟨a.size,es,0,0,Y⟩]}/\OK m' (.row (X τ.rw) 0) (.rs (X I.rw) 0 (X l) 0 Y):=
 b.rowAdd (σ':={I with rw:=I.rw++[⟨a.size,es,0,0,Y⟩]}) ⟨a,l,0,0,Y⟩ (Z (X I.rw)) 0 es rfl ⟨⟨a.size,es,0,0,Y⟩,by show(I.rw++[_])[X I.rw]?=_;simp,rfl,rfl,rfl,c,aG _,λ _=>⟨rfl,rfl⟩⟩
  (λ r Q h=>by show(I.rw++_)[r]?=_;rw[dq (getElem?_lt h)];exact h) (λ r h=>by cases h;exact ak _) rfl rfl
theorem Rel.rowUpd(c:Rel N m E τ tm I)(B:τ.rw[id]?=Z R)(ro:ab Nat)(vo:Nat)(qo:aa (aa AV))(n:R.ver<=R2.ver)(o:R.sv<=R2.sv)(t:R2.ver=R.ver->X R2.l=X R.l/\ro=m.r id/\vo=m.v id/\R2.τ=R.τ/\(R2.sv=R.sv->qo=m.q id)/\(m.r id=U->∀y,dlist R.τ y=Z R.l->dlist R2.τ y=Z R2.l)){σ'}(u:σ'.bx=I.bx)(p:kn σ' R2 ro vo qo)
  (s:∀a r,a≠id->a<X m.rw->m.r a=Z r->ro≠Z r/\∀Q,I.rw[r]?=Z Q->σ'.rw[r]?=Z Q):
  ∃m',MLe m m'/\Rel N m' E {τ with rw:=τ.rw.set id R2} tm σ'/\(∀y,gW ro vo R2.τ R2.l y->OK m' (.row id R2.ver) y):=by
 have b:m.rw[id]?=Z R:=by rw[c.rw];exact B
 have f:=getElem?_lt b;have d:=Y3 b n o t;refine⟨m.upd id R2 ro vo qo,d,c.to d (by show m.rw.set id R2=_;rw[c.rw]) rfl rfl u (WO b c.rows p λ a r Q A z x w=>(s a r A z x).2 Q w) ?_,λ y k=>?_⟩
 .intro i e r h g e1 j;change i<X (m.rw.set id R2) at h;change e<X (m.rw.set id R2) at g;change (if i=id then ro else m.r i)=Z r at e1;change (if e=id then ro else m.r e)=Z r at j;simp at h g;split at e1<;>split at j
  .omega
  .grind
  .grind
  .exact c.rinj i e r h g e1 j
 .refine⟨R2,?_,ak _,k.ish,λ _=>?_⟩
  .show(m.rw.set id R2)[id]?=_;rw[gx f]
  .show gW (if id=id then ro else m.r id) (if id=id then vo else m.v id) _ _ y;grind
theorem Rel.others(b:Rel N m E τ tm I)(g:τ.rw[id]?=Z R){rr}(a:m.r id=Z rr){id' r}(f:id'≠id)(e:id'<X m.rw)(d:m.r id'=Z r):r≠rr:=λ c=>
 f (b.rinj id' id rr e (by rw[b.rw];exact getElem?_lt g) (c▸d) a)
theorem U2{β f}:∀{b} {l},bU f b=Z l->∀(j:Nat) {e:aa AV}{v:β},f e=Z v->bU f (b.set j e)=Z (l.set j v)
 |[],l,h,j,e,v,a=>by cases h;rfl
 |g::b,l,h,j,e,v,a=>by
   obtain⟨w,vs,d,c,rfl⟩:=jw.1 h;cases j with
   |zero=>exact jw.2 ⟨v,vs,a,c,rfl⟩
   |succ j=>exact jw.2 ⟨w,vs.set j v,d,U2 c j a,rfl⟩
theorem VH{β f e}{v:β}(h:f e=Z v):∀n,bU f (List.replicate n e)=Z (List.replicate n v)
 |0=>rfl
 |n+1=>jw.2 ⟨v,_,h,VH h n,rfl⟩
end
end
section
open RowKit
section
variable {α:Type}{N:Nat×Nat}{m:Mp}{E:Env}{τ:TS}{tm:aa AV}{I:St}{K:KT α}{r:α}{p:ab (AV×ab St)}{c:TC}{C:Cfg}
theorem qqh{d:ab TD}{op:mJ}{x y:TV}{x' f:AV}{n:TV->ab α}(i:OK m x x')(g:OK m y f)(h:PF d op x y n=Z r):
  ∃z v,n z=Z r/\OK m z (.v v)/\((∃a b,x'=.v (.bool a)/\f=.v (.bool b)/\Il d=O/\((op=.eql/\v=.bool (dj a b))\/(op=.neq/\v=.bool (ap (dj a b)))))\/∃a b,x'=.v a/\f=.v b/\(∀p q,¬ (a=.bool p/\b=.bool q))/\rS op a b=Z v):=by
 unfold PF at h;split at h
 .rename_i k a t b;cases i;cases g;split at h
  .let⟨e,c⟩:=Uj h;exact⟨_,_,c,rfl,.inr ⟨_,_,rfl,rfl,by simp,by simp only[rS,e]⟩⟩
  .let⟨e,c⟩:=Uj h;exact⟨_,_,c,rfl,.inr ⟨_,_,rfl,rfl,by simp,by simp only[rS,e]⟩⟩
  .rename_i s o;split at h<;>try cases h
   next u=>let⟨z,v,e,c,l⟩:=qqs (m:=m) h;grind [rS]
 .cases i;cases g;let⟨z,v,e,c,l⟩:=qra (m:=m) h;exact⟨z,v,e,l,.inr ⟨_,_,rfl,rfl,by simp,c⟩⟩
 .cases i;cases g;split at h<;>try cases h
  .next j=>exact⟨_,_,h,rfl,.inl ⟨_,_,rfl,rfl,j,.inl ⟨rfl,rfl⟩⟩⟩
  .next j=>exact⟨_,_,h,rfl,.inl ⟨_,_,rfl,rfl,j,.inr ⟨rfl,rfl⟩⟩⟩
 .cases h
theorem TH{d:ab TD}(h:NU d=O):∃a b c z,d=Z ⟨a,b,c,z,.ptr⟩:=by
 unfold NU at h;grind
theorem qnT{x y:TV}{x' d:AV}(c:OK m x x')(a:OK m y d){b:Bool}(h:OO x y=Z b):
  (b=O/\x'=.v (.pointer U)/\d=.v (.pointer U))\/(b=Y/\A6 x'=O/\d=.v (.pointer U)):=by
 unfold OO at h;split at h<;>cases h
 .exact .inl ⟨rfl,c.2,a.2⟩
 .obtain⟨_,rfl⟩:=c;exact .inr ⟨rfl,rfl,a.2⟩
 .let⟨R,_,_,_,e,_⟩:=c;obtain⟨r,j,f,rfl⟩|⟨ds,rfl⟩:=e<;>exact .inr ⟨rfl,rfl,a.2⟩
 .obtain⟨ds,rfl,_⟩:=c;exact .inr ⟨rfl,rfl,a.2⟩
theorem Ws:∀(a:aa (aa AV)) (l:aa Int),bU (bu (.int .u8)) a=Z l->xV a=Z (Od l)
 |[],l,h=>by cases h;rfl
 |e::a,l,h=>by
   simp only[bU]at h;split at h<;>try cases h
   rename_i v c;split at h<;>cases h;rename_i vs b;have:=Ws a vs b
   have d:e=[.v (.int .u8 v)]:=by
    have c:fq .u8 e=Z (v,[]):=dO.1 c;unfold fq at c;grind
   subst d;simp only[xV,OC,this];rfl
theorem qkJ{d:ab TD}(h:Il d=O):∃a b c z,d=Z ⟨a,b,c,z,.bool⟩:=by
 unfold Il at h;grind
theorem Wk(E:Env)(tm:aa AV)(a:Rel N m E τ tm I):∀l:aa (Nat×bw),(l.map λ p=>(p.1,evT E p.2)).map (·.1)=(l.map λ p=>(p.1,aev tm p.2)).map (·.1)/\OKL m ((l.map λ p=>(p.1,evT E p.2)).map (·.2)) ((l.map λ p=>(p.1,aev tm p.2)).map (·.2))
 |[]=>⟨rfl,rfl⟩
 |x::l=>⟨by simp,⟨_,_,rfl,a.ev x.2,(Wk E tm a l).2⟩⟩
theorem V1(d:Rel N m E τ tm I){id a e:Nat}{i:Int}{cs:aa TV}{o:Nat}{y:AV}{R:cc}(s:OK m (.rpt id a e i cs o) y)(h:τ.rw[id]?=Z R)(u:R.ver=a)(t:R.sv=e):
  (∃r j ds Q,y=.rpt r j o Q.ver/\m.r id=Z r/\i=((j:Nat):Int)/\I.rw[r]?=Z Q/\Q.c[j]?=Z ds/\OKL m cs ds/\j<X R.l/\Q.ver=m.v id/\Q.k=R.τ.size/\bU (bu R.τ) Q.c=Z R.l/\Q.fz<=X Q.c/\(R.sh=Y->Q.fz=0/\Q.off=Y))\/
  ∃ds,y=.ept ds o/\OKL m cs ds/\R.sh=O:=by
 let⟨R',n,_,_,_,w⟩:=s;rw[d.rw,h]at n;cases n;have:=d.rows id R (by rw[d.rw];exact h);obtain⟨r,j,ds,b,g,H,p,f,G⟩|⟨ds,b,g,p,f⟩:=qqe (w u) t
 .rw[b]at this;let⟨Q,F,D,C,B,A,z,x⟩:=this;grind
 .rw[b]at this;refine .inr ⟨ds,g,f,?_⟩;cases q:R.sh with
  |true=>rfl
  |false=>
    have K:=this q;grind
theorem Xk{b:Type}(f:b->AV):∀(l:aa (Nat×b)) (n:Nat),((l.zipIdx n).all λ p=>J (p.1.1=p.2))=O->(∀q∈l,True)->∀P:AV->Bool,(∀q∈l,P (f q.2)=O)->
  (((l.map λ p=>(p.1,f p.2)).zipIdx n).all λ p=>J (p.1.1=p.2)&&P p.1.2)=O
 |[],n,_,_,P,_=>rfl
 |a::l,n,h,_,P,c=>by
   simp only[Qz,dy,aJ,aU]at h |-
   exact⟨⟨h.1,c a (aX ..)⟩,Xk f l (n+1) h.2 (λ _ _=>trivial) P λ q d=>c q (aT _ d)⟩
theorem TP(e:eu m I){a:Ty}{E:Env}{tm:aa AV}(d:Rel N m E τ tm I):∀{l:aa (Nat×bw)}{vs:aa (Val a)},xU m.rw a (l.map λ p=>evT E p.2)=Z vs->
  ∀p∈l,X (cellsOf (aev tm p.2))=a.size/\((cellsOf (aev tm p.2)).all λ x=>br (bC I.rw x))=O
 |[],vs,h,p,b=>by cases b
 |q::l,vs,h,p,b=>by
   simp only[aU,xU]at h;split at h<;>try cases h
   rename_i v f;split at h<;>cases h;rename_i c;obtain rfl|b:=bi.1 b
   .have:=(rk e f (d.ev p.2)).2;let⟨pre,j,i,g,_⟩:=iM a (dO.1 this);grind
   .exact TP e d c p b
theorem qoz(y:aa aN)(l h:Int):(⟨(gq y l h).toArray⟩:io)=Br ⟨y.toArray⟩ l.toNat h.toNat:=by
 unfold gq Br;rw[ByteArray.ext_iff];simp[ByteArray.data_extract,List.drop_take]
theorem qkS{x:TV}{y:AV}(h:OK m x y)(b:(fd x).all rO=O):OKL m (fd x) (cellsOf y)/\(cellsOf y).all isC=O/\∀z∈cellsOf y,rsC z=[]:=by
 have a:(fd x).all mv=O:=by
  rw[bz]at b |-
  intro z c;have:=b z c;cases z<;>first|rfl|(cases this)
 let⟨d,e⟩:=h.cells a;refine⟨d,e,λ z c=>?_⟩;have:=Ah d b;grind [List.flatMap_eq_nil_iff]
theorem Gn{y:AV}(h:rsC y=[])(a:br (bC I.rw y)=O):br y=O:=by
 cases y<;>first|rfl|exact a|(simp[rsC]at h)
theorem qpP{tm:aa AV}{a b:bw}(h:Px a b=O):aev tm a=aev tm b:=by
 unfold Px at h;grind [Nat.eq_of_beq_eq_true]
def LvE(x y:AV):Prop:=x=y\/∃k a n b,x=.sl k a (n+1)/\y=.sl k a (b+1)
inductive LvL:List AV->List AV->Prop
 |nil:LvL [] []
 |cons {x y:AV}{xs ys:List AV}:LvE x y->LvL xs ys->LvL (x::xs) (y::ys)
theorem LvE.v{x:aj}{y:AV}(h:LvE (.v x) y):y=.v x:=by
 obtain rfl|⟨_,_,_,_,h,_⟩:=h
 .rfl
 .cases h
theorem LvE.dlist{a:Ty}{x y:AV}(h:LvE x y){l:aa (Val a)}(b:dlist a x=Z l):dlist a y=Z l:=by
 obtain rfl|⟨_,_,_,_,rfl,rfl⟩:=h
 .exact b
 .exact b
theorem GB:∀(a:Ty) {cs cs':aa AV}{v:Val a}{r:aa AV},LvL cs cs'->eN a cs=Z (v,r)->∃j,LvL r j/\eN a cs'=Z (v,j)
 |.int k,cs,cs',v,r,c,h=>by
   change fq k cs=_ at h;unfold fq at h;split at h<;>try cases h
   split at h<;>cases h;rename_i o;cases c with
   |cons d f=>
     have:=d.v;subst this;exact⟨_,f,by show fq _ _=_;simp only[fq,o]⟩
 |.bool,cs,cs',v,r,c,h=>by
   change lZ cs=_ at h;unfold lZ at h;split at h<;>cases h;cases c with
   |cons d f=>
     have:=d.v;subst this;exact⟨_,f,rfl⟩
 |.str,cs,cs',v,r,c,h=>by
   change jo cs=_ at h;unfold jo at h;split at h<;>cases h;cases c with
   |cons d f=>
     have:=d.v;subst this;exact⟨_,f,rfl⟩
 |.term,cs,cs',v,r,c,h=>by
   change gJ cs=_ at h;unfold gJ at h;split at h<;>try cases h
   split at h<;>cases h;rename_i g;obtain⟨k,n,s,x,l,p,d,rfl⟩:=Al g;cases p;cases c with
   |cons B c=>cases c with
     |cons A c=>cases c with
       |cons z c=>cases c with
         |cons y c=>
           have:=B.v;subst this;have:=A.v;subst this;have:=z.v;subst this;rw[<-FZ]at d;have d:=y.dlist d;rw[FZ]at d;exact⟨_,c,by show gJ _=_;simp only[gJ,fO,d]⟩
 |.list a,cs,cs',v,r,c,h=>by
   change cu _ cs=_ at h;unfold cu at h;split at h<;>try cases h
   split at h<;>cases h;rename_i g;cases c with
   |cons d f=>
     have g:dlist a _=Z v:=g;have g:fD a.size (λ e=>full (eN a e)) _=Z v:=d.dlist g;exact⟨_,f,by show cu _ _=_;simp only[cu,g]⟩
 |.pair a b,cs,cs',v,r,c,h=>by
   let⟨C,d,f⟩:=mN.1 h;let⟨m,w,u⟩:=GB a c d;let⟨i,t,q⟩:=GB b w f;exact⟨i,t,mN.2 ⟨_,u,q⟩⟩
 |.one a,cs,cs',v,r,c,h=>GB a c h
 |.map a b,cs,cs',v,r,c,h=>by
   change cu _ cs=_ at h;unfold cu at h;split at h<;>try cases h
   split at h<;>cases h;rename_i g;cases c with
   |cons d f=>
     have E:=d;obtain rfl|⟨k,F,n,D,rfl,rfl⟩:=d
     .exact⟨_,f,by show cu _ _=_;simp only[cu,g]⟩
     .grind [nM]
theorem Y9:∀{cs:aa AV},(∀y∈cs,br y=O)->LvL (cs.map (bC I.rw)) cs
 |[],_=>.nil
 |y::cs,h=>by
   refine .cons ?_ (Y9 λ z a=>h z (aT _ a));have:=h y (aX ..);cases y with
   |v x=>exact .inl rfl
   |sl k b f=>
     cases f with
     |zero=>exact .inl rfl
     |succ f=>exact .inr ⟨k,b,0,f,rfl,rfl⟩
   |mc=>exact .inl rfl
   |_=>cases this
theorem GV{a:Ty}{cs:aa AV}{v:Val a}(b:∀y∈cs,br y=O)(h:bu a (cs.map (bC I.rw))=Z v):bu a cs=Z v:=by
 let⟨e,d,c⟩:=GB a (Y9 b) (dO.1 h);cases d;exact dO.2 c
theorem MU{m:Mp}:∀{cs:aa TV}{l:aa Bool}{ds:aa AV},xN cs=Z l->OKL m cs ds->ds=l.map λ b=>AV.v (.bool b)
 |[],l,ds,h,c=>by cases h;cases c;rfl
 |x::cs,l,ds,h,⟨y,r,f,e,d⟩=>by
   subst f;cases x<;>simp only[xN]at h<;>try (cases h;done)
   next b=>split at h<;>cases h;next g a=>cases e;rw[MU a d];rfl
theorem Vt{m:Mp}:∀(l:aa Bool),OKL m (l.map .b) (l.map λ b=>AV.v (.bool b))
 |[]=>rfl
 |b::l=>⟨_,_,rfl,rfl,Vt l⟩
theorem Wz:∀(l:aa Bool) (i:Nat) (v:Bool) (j:Nat),qy l ((i+j:Nat):Int) v j=l.set i v
 |[],_,_,_=>rfl
 |e::l,0,v,j=>by
   have h:∀(l:aa Bool) (i j:Nat),i<j->qy l ((i:Nat):Int) v j=l:=by
    intro l
    induction l with
    |nil=>intro _ _ _;rfl
    |cons e l a=>
      intro i j b;rw[qy,a i (j+1) (by omega)];have:ieq ((i:Nat):Int) ((j:Nat):Int)=Y:=by unfold ieq;rw[jq];omega
      rw[this];rfl
   grind [qy,ieq]
 |e::l,i+1,v,j=>by
   rw[qy,show((i+1+j:Nat):Int)=((i+(j+1):Nat):Int) by omega,Wz l i v (j+1)];grind [ieq]
theorem qmT(s:aa aN):bU (bu (.int .u8)) (oK ⟨s.toArray⟩)=Z (Ij s):=by
 have:oK ⟨s.toArray⟩=(Ij s).map (aI (.int .u8)):=by
  unfold oK Ij;rw[jQ];rfl
 grind [pE,jA]
theorem AP{m:Mp}{cs:aa TV}{ds:aa AV}(h:OKL m cs ds)(g:Bh cs=O):noMc ds=O:=by
 match cs,h with
 |[],h=>cases h;rfl
 |[x],⟨y,r,e,d,j⟩=>
   cases j;subst e;cases y with
   |mc z A t w vs=>
     exfalso;cases x with
     |i|b|s=>cases d
     |c=>cases d.2
     |nil=>cases d
     |sl a l v=>cases d.1
     |row=>obtain⟨R,_,_,e|⟨k,B,n,e⟩|⟨r,lo,n,o,f,e⟩,_⟩:=d<;>cases e
     |ptr=>cases d.2
     |pti=>cases d.2.2
     |rpt=>obtain⟨R,_,_,_,⟨r,i,o,e⟩|⟨ds,e⟩,_⟩:=d<;>cases e
     |ept|fn|agg|tup=>let⟨ds,e,_⟩:=d;cases e
     |dead=>cases g
     |mp=>cases d.2
     |mc=>cases g
   |_=>rfl
 |x::x'::xs,⟨y,r,e,_,⟨q,u,p,_,_⟩⟩=>subst e;subst p;cases y<;>rfl
theorem Uq{cs:aa TV}{l:aa Bool}(h:xN cs=Z l):Bh cs=O:=by
 match cs with
 |[]=>rfl
 |[x]=>cases x<;>first|rfl|cases h
 |x::x'::xs=>cases x<;>rfl
theorem V7:∀{a:Ty},a.agg=Y->a.size=1
 |.int _,_|.bool,_|.str,_|.list _,_|.map _ _,_=>rfl
 |.term,h|.pair _ _,h|.one _,h=>by cases h
theorem GJ{c:TC}{t:Nat}{d a:Ty}(h:xY c t=Z (d,a)):∃s b g z e,c.ty t=Z ⟨s,b,g,z,.map (kcT d) d.agg a.agg a.size e⟩/\kr d=O:=by
 unfold xY at h;split at h<;>try cases h
 next s b g z l m k j e f p o n=>split at h<;>cases h;next i=>simp only[aJ,cH]at i;grind [pP]
theorem qpp{c:TC}{t:Nat}{a:Ty}{z:Val a}{s b:Nat}{g:Bool}{l:aa aj}{p:aa KC}{q n:Bool}{k:Nat}{d:aa aj}(r:c.ty t=Z ⟨s,b,g,l,.map p q n k d⟩)(h:PO c t a=Z z):(d.all cj=O/\X d=k)/\bu a (d.map .v)=Z z:=by
 unfold PO at h;rw[r]at h;simp only at h;split at h<;>try cases h
 rename_i j;simp only[aJ,cH]at j;refine⟨j,?_⟩;have i:eu mp0 ⟨[],[],[],[]⟩:=λ id R h=>by cases h
 let⟨u,e,o⟩:=pM (m:=mp0) i a (wM h) (wP j.1);cases o;have f:(d.map AV.v).map (bC [])=d.map AV.v:=by rw[jQ];exact ss λ _ _=>rfl
 have e:eN a ((d.map AV.v).map (bC []))=_:=e;rw[f]at e;exact dO.2 e
theorem LW(o:Rel N m E τ tm I){c a:Ty}{x:TV}{y:AV}(p:OK m x y){b:Nat}{l:aa (Val c×Val a)}(h:Bl τ c a x=Z (b,l)):b<m.nb/\∃d vs,vd I (kcT c) c.agg a.agg y=Z (m.b b,d,vs)/\gj (bu c) (bu a) d vs=Z l:=by
 unfold Bl at h;split at h<;>try cases h
 rename_i u;split at h<;>try cases h
 rename_i j v l' i;split at h<;>cases h;rename_i g;unfold IS at g;split at g<;>cases g;rename_i e;obtain⟨rfl,rfl⟩:=e;let⟨t,s⟩:=p;obtain⟨ds,q,y,r,rfl,n,f⟩:=o.box _ _ i;cases f;obtain⟨d,vs,rfl,k⟩:=nM n;have i:∀x,dj x x=O:=λ x=>by cases x<;>rfl
 exact⟨t,d,vs,by rw[s];simp only[vd,q,ij,i,lE],k⟩
theorem Yb{m:Mp}{a:Ty}{v:Val a}{ds:aa AV}(h:bu a ds=Z v):OK m (om a v) (fh a.agg ds):=by
 have d:=lN (m:=m) h
 have one:∀x,jd a v=[x]->∃y,ds=[y]/\OK m x y:=λ x f=>by
  rw[f]at d;let⟨y,r,e,i,g⟩:=d;cases g;exact⟨y,e,i⟩
 cases a with
 |term|pair a b|one a=>exact⟨ds,rfl,d⟩
 |int k|bool|str|list a|map a b=>obtain⟨y,rfl,c⟩:=one _ rfl;exact c
theorem F8:∀(d:Ty),kr d=O->∀(v:Val d) (c:aa KC) (r:aa AV),ci (kcT d++c) (aI d v++r)=ci c r
 |.int k,_,v,c,r=>by simp[kcT,aI,ci]
 |.bool,_,v,c,r|.str,_,v,c,r=>rfl
 |.pair a b,h,v,c,r=>by
   simp only[kr,aJ]at h;rw[kcT,aI,bA,bA,F8 a h.1,F8 b h.2]
 |.one a,h,v,c,r=>F8 a h v c r
 |.term,h,_,_,_|.list _,h,_,_,_|.map _ _,h,_,_,_=>by cases h
theorem US{a:Ty}(h:kr a=O)(v:Val a):ci (kcT a) (aI a v)=O:=by
 have:=F8 a h v [] []
 rwa [bK,bK]at this
theorem xz:∀(d:Ty),kr d=O->∀{cs:aa AV}{v:Val d}{r:aa AV},eN d cs=Z (v,r)->cs=aI d v++r
 |.int k,_,cs,v,r,h=>by
   change fq k cs=_ at h;unfold fq at h;split at h<;>try cases h
   split at h<;>cases h;next c=>rw[bG c];rfl
 |.bool,_,cs,v,r,h=>by
   change lZ cs=_ at h;unfold lZ at h;split at h<;>cases h;rfl
 |.str,_,cs,v,r,h=>by
   change jo cs=_ at h;unfold jo at h;split at h<;>cases h;simp_all [aI]
 |.pair a b,c,cs,v,r,h=>by
   simp only[kr,aJ]at c;let⟨g,f,e⟩:=mN.1 h;rw[xz a c.1 f,xz b c.2 e,aI,bA]
 |.one a,c,cs,v,r,h=>xz a c h
 |.term,h,_,_,_,_|.list _,h,_,_,_,_|.map _ _,h,_,_,_,_=>by cases h
theorem XX{a:Ty}(d:kr a=O)(q:eu m I){x:TV}{y:AV}{v:Val a}(h:jD m.rw a x=Z v)(s:OK m x y):vj (kcT a) a.agg y=O/\cellsOf y=aI a v:=by
 let⟨j,A⟩:=rk q h s;have i:=xz a d (dO.1 A);rw[bK]at i;have w:=Ii _ _ (US d v)
 have p:cellsOf y=aI a v:=by
  rw[<-i]
  have b:∀c∈cellsOf y,bC I.rw c=c:=λ c u=>by
   have t:bC I.rw c∈aI a v:=by rw[<-i];exact bF.2 ⟨c,u,rfl⟩
   have e:=w _ t;cases c with
   |sl k D f=>cases e
   |rs r lo n B f=>
     exfalso;simp only[bC]at e;cases o:I.rw[r]? with
     |none=>rw[o]at e;cases e
     |some R=>
       rw[o]at e;simp only at e;cases z:vk R R.k lo n B<;>rw[z]at e<;>cases e
   |_=>rfl
  exact((ss (g:=id) b).trans (List.map_id _)).symm
 refine⟨?_,p⟩;unfold vj;rw[p,US d v,ow];unfold gf at j;split at j
 .rename_i C
  have e:gU (cE I.rw y)=gU y:=by
   cases l:gU y with
   |false=>exact(LH I.rw l).1
   |true=>cases y<;>first|rfl|cases l
  grind [pP]
 .cases j
theorem TB:∀(a b c d:aa AV),X a=X b->gd (a++c) (b++d)=(gd a b&&gd c d)
 |[],[],c,d,_=>rfl
 |x::a,y::b,c,d,h=>by
   show(nW x y&&gd (a++c) (b++d))=(nW x y&&gd a b&&gd c d);rw[TB a b c d (by simpa using h),Bool.and_assoc]
 |[],_::_,_,_,h|_::_,[],_,_,h=>by cases h
theorem AJ:∀(c:Ty),kr c=O->∀(a b:Val c),gd (aI c a) (aI c b)=veq c a b
 |.int k,_,a,b|.bool,_,a,b=>ow _
 |.str,_,a,b=>(ow _).trans (YH a b)
 |.pair c τ,h,a,b=>by
   simp only[kr,aJ]at h;rw[aI,aI,TB _ _ _ _ (by rw[gR,gR]),AJ c h.1,AJ τ h.2];rfl
 |.one c,h,a,b=>AJ c h a b
 |.term,h,_,_|.list _,h,_,_|.map _ _,h,_,_=>by cases h
theorem Ak{c b:Type}{f:aa AV->ab c}{g:aa AV->ab b}{d vs:aa (aa AV)}{p:c×b}{l:aa (c×b)}:gj f g d vs=Z (p::l)↔∃k a v vs',d=k::a/\vs=v::vs'/\f k=Z p.1/\g v=Z p.2/\gj f g a vs'=Z l:=by
 constructor
 .intro h;cases d<;>cases vs<;>try (cases h;done)
  simp only[gj]at h;grind
 .rintro⟨k,a,v,vs',rfl,rfl,j,i,e⟩;simp only[gj,j,i,e]
theorem Wc{b a:Ty}(d:kr b=O):∀{l:aa (Val b×Val a)}{c vs:aa (aa AV)},gj (bu b) (bu a) c vs=Z l->∀(k:Val b) (i:Nat),
  (gI (aI b k) c i=U/\dC (veq b) l k=U)\/∃j v p,gI (aI b k) c i=Z (i+j)/\vs[j]?=Z v/\bu a v=Z p/\dC (veq b) l k=Z p
 |[],c,vs,h,k,i=>by
   let⟨f,_⟩:=AF h;have:c=[]:=cR f;subst this;exact .inl ⟨rfl,rfl⟩
 |p::l,c,vs,h,k,i=>by
   obtain⟨u,n,v,vs',rfl,rfl,f,r,o⟩:=Ak.1 h;have e:=xz b d (dO.1 f);rw[bK]at e;subst e;simp only[gI,AJ b d,dC];cases x:veq b k p.1 with
   |true=>exact .inr ⟨0,v,p.2,rfl,rfl,r,rfl⟩
   |false=>
     obtain⟨m,g⟩|⟨j,w,q,m,g,t,s⟩:=Wc d o k (i+1)
     .exact .inl ⟨m,g⟩
     .exact .inr ⟨j+1,w,q,by show gI _ _ _=_;rw[m];congr 1;omega,g,t,s⟩
theorem XT{b a:Ty}(s:kr b=O)(k:Val b){p:Val a}{n:aa AV}(d:bu a n=Z p):∀{l:aa (Val b×Val a)}{c vs:aa (aa AV)},gj (bu b) (bu a) c vs=Z l->∀(i:Nat),
  match gI (aI b k) c i with
  |none=>gj (bu b) (bu a) (c++[aI b k]) (vs++[n])=Z (iW (veq b) l k p)
  |some j=>∃q,j=i+q/\gj (bu b) (bu a) c (vs.set q n)=Z (iW (veq b) l k p)
 |[],c,vs,h,i=>by
   let⟨f,m⟩:=AF h;have:c=[]:=cR f;subst this;have:vs=[]:=cR m;subst this;show gj _ _ [_] [_]=Z [(k,p)];simp only[gj,jA,d]
 |r::l,c,vs,h,i=>by
   obtain⟨y,o,v,vs',rfl,rfl,f,m,u⟩:=Ak.1 h;have e:=xz b s (dO.1 f);rw[bK]at e;have g:=XT s k d u (i+1);subst e;simp only[gI,AJ b s,iW];cases z:veq b k r.1 with
   |true=>exact⟨0,rfl,Ak.2 ⟨_,_,_,_,rfl,rfl,f,d,u⟩⟩
   |false=>
     simp only;cases t:gI (aI b k) o (i+1)with
     |none=>
       rw[t]at g;exact Ak.2 ⟨_,_,_,_,rfl,rfl,f,m,g⟩
     |some j=>
       rw[t]at g;let⟨q,x,w⟩:=g;exact⟨q+1,by omega,Ak.2 ⟨_,_,_,_,rfl,rfl,f,m,w⟩⟩
theorem Uc{t:Nat}{w k y:bw}(ad:C.ty=c.ty)(i:Rel N m E τ tm I)(h:yc c E τ t w k y K=some r):Sim N m E τ tm I K r (lQ C tm I t w k y):=by
 unfold yc at h;split at h<;>try cases h
 rename_i d a hm;split at h<;>try cases h
 rename_i b l H G;split at h<;>try cases h
 rename_i g v hk W;obtain⟨_,_,_,_,vz,hd,n⟩:=GJ hm;obtain⟨M,o,vs,an,L⟩:=LW i (i.ev w) H;obtain⟨e1,e2⟩:=XX n i.rows (by rw[i.rw];exact hk) (i.ev k);obtain⟨x,Q⟩:=rk i.rows (by rw[i.rw];exact W) (i.ev y);have B:=H3 G (i.ev y);have ar:∀z∈cellsOf (aev tm y),rsC z=[]:=LF B
 have D:∀z∈cellsOf (aev tm y),br z=true:=λ z hz=>by
  obtain⟨pre,p,_,q3,_⟩:=iM a (dO.1 Q);grind [Gn]
 have u:=GV D Q
 have T:Bi a.agg a.size (aev tm y)=true:=by
  unfold Bi;obtain⟨pre,p,P,_⟩:=iM a (dO.1 u);rw[bK]at p
  have hg:gU (aev tm y)=a.agg:=by
   unfold gf at x;split at x
   .rename_i hg
    have e:gU (cE I.rw (aev tm y))=gU (aev tm y):=by
     cases A:gU (aev tm y)with
     |false=>exact(LH I.rw A).1
     |true=>cases S:aev tm y<;>rw[S]at A<;>first|rfl|cases A
    grind [pP]
   .cases x
  grind [dj]
 have f:=XT n g u L 0
 have s:gj (bu d) (bu a) (lu o vs (aI d g) (cellsOf (aev tm y))).1 (lu o vs (aI d g) (cellsOf (aev tm y))).2=some (iW (veq d) l g v):=by
  unfold lu;cases R:gI (aI d g) o 0 with
  |none=>rw[R]at f;exact f
  |some j=>
    rw[R]at f;obtain⟨q,p,P⟩:=f;rw[bS]at p;subst p;exact P
 have F:lQ C tm I t w k y=some (.tup [],some {I with bx:=I.bx.set (m.b b) [.mc (kcT d) d.agg a.agg (lu o vs (aI d g) (cellsOf (aev tm y))).1 (lu o vs (aI d g) (cellsOf (aev tm y))).2],wr:=m.b b::I.wr}):=by
  unfold lQ;grind
 exact .to h F (.refl m) (i.setBox M (cs:=[.mc d a (iW (veq d) l g v)]) (ds:=[.mc (kcT d) d.agg a.agg (lu o vs (aI d g) (cellsOf (aev tm y))).1 (lu o vs (aI d g) (cellsOf (aev tm y))).2]) ⟨_,_,rfl,Ob.trans s,rfl⟩ _) ⟨_,rfl,rfl⟩
theorem qoQ{op:Op}(D:C.ty=c.ty)(A:Rel N m E τ tm I)(h:eG c E τ op K=some r):Sim N m E τ tm I K r (aF C tm I op):=by
 cases op with
 |move x=>exact .same A h rfl (A.ev x)
 |assign x=>exact .same A h rfl (A.ev x)
 |pick x a b=>
   simp only[eG]at h;split at h<;>try cases h
   rename_i y H;have T:=A.ev x;rw[H]at T;cases y with
   |true=>exact .same A h (by simp only[aF,show aev tm x=_ from T]) (A.ev a)
   |false=>exact .same A h (by simp only[aF,show aev tm x=_ from T]) (A.ev b)
 |alloc e=>
   simp only[eG]at h;split at h<;>try cases h
   rename_i d F;split at h<;>try cases h
   rename_i hz;obtain⟨m',L,W,h3⟩:=A.alloc (wP (m:=m) hz);exact .to h (by simp only[aF,D,F,hz]) L W h3
 |box e x=>
   simp only[eG]at h;split at h<;>try cases h
   rename_i d F;split at h<;>try cases h
   rename_i hz;obtain⟨M,S⟩:=(A.ev x).cells hz;obtain⟨m',L,W,h3⟩:=A.alloc M;exact .to h (by simp only[aF,D,F,S]) L W h3
 |build t parts=>
   simp only[eG]at h;split at h<;>try cases h
   rename_i _ _ _ z fs F;split at h<;>try cases h
   rename_i hz;split at h<;>try cases h
   rename_i cs an;obtain⟨ds,L,W⟩:=WH (Wk E tm A parts.toList) (wP (m:=m) hz) an;exact .same A h (by simp only[aF,D,F,hz];erw [L]) ⟨ds,rfl,W⟩
 |buildSlice t n parts=>
   simp only[eG]at h;split at h<;>try cases h
   rename_i _ _ _ _ _ k _ _ a F G;split at h<;>try cases h
   rename_i hb;simp only[aJ,cH]at hb;obtain⟨⟨⟨⟨hk,hn⟩,ez⟩,e6⟩,hz⟩:=hb;split at h<;>try cases h
   rename_i vs b7;rw[<-A.rw]at b7;have hq:=A.rows;have b3:=TP hq A b7;have a7:=Wx hq b7 (by have:=A.evs (parts.toList.map (·.2));simpa[jQ,BU]using this)
   have et:uQ k n I.rw (parts.toList.map λ p=>(p.1,aev tm p.2))=true:=by
    unfold uQ;have L:(parts.toList.map λ p=>(p.1,aev tm p.2)).length=n:=by simpa using hn
    simp only[L,ij,ez,e6,cv,ow]
    have:=Xk (aev tm) parts.toList 0 hz (λ _ _=>trivial) (λ x=>decide ((cellsOf x).length=k)&&((cellsOf x).all λ y=>br (bC I.rw y)))
     λ q eo=>by obtain⟨a1,a2⟩:=b3 q eo;rw[a1,a2,hk];simp
    rw[bz]at this |-
    intro p hp;have:=this p hp;simpa[Bool.and_assoc]using this
   have cf:∀m':Mp,OK m' (.sl a vs 2) (.sl k (parts.toList.map λ p=>(cellsOf (aev tm p.2)).map (bC I.rw)) 2):=by
    intro m';refine⟨?_,ak _⟩;subst hk;show fD _ _ (.sl _ _ 2)=_;simp only[fD,bJ,ij];simpa[jQ,BU]using a7
   have bp:aF C tm I (.buildSlice t n parts)=match parts.toList.flatMap λ p=>rsA (aev tm p.2)with
     |[]=>some (.sl k (parts.toList.map λ p=>(cellsOf (aev tm p.2)).map (bC I.rw)) 2,none)
     |r::l=>some (.sl k (parts.toList.map λ p=>(cellsOf (aev tm p.2)).map (bC I.rw)) 2,some {I with rw:=frz I.rw (r::l),wrr:=(r::l)++I.wrr}):=by
    simp only[aF,D,F,et];rfl
   rw[bp];split at h
   .rename_i cl
    have d1:parts.toList.flatMap (λ p=>rsA (aev tm p.2))=[]:=by
     have:=M7 (xs:=parts.toList.map λ p=>evT E p.2) (ys:=parts.toList.map λ p=>aev tm p.2) (by rw[QG];exact cl) (by have:=A.evs (parts.toList.map (·.2));simpa[jQ,BU]using this)
     rwa [JA]at this
    rw[d1];exact .same A h rfl (cf m)
   .split
    .exact⟨_,some (shA τ),_,none,shM m,h,rfl,oL m,A.share rfl hq.sh,cf _,λ h=>by cases h⟩
    .exact .to h rfl (oL m) (A.share (σ':={I with rw:=frz I.rw _,wrr:=_}) rfl (hq.frz _ _)) (cf _)
 |load t a=>
   simp only[eG]at h;split at h<;>try cases h
   rename_i d F;have B:=A.ev a;split at h<;>try cases h
   .rename_i b o G;rw[G]at B;obtain⟨_,B⟩:=B;split at h<;>try cases h
    rename_i cs an;split at h<;>try cases h
    rename_i co;split at h<;>try cases h
    rename_i x T;obtain⟨ds,M,S⟩:=A.box b cs an;obtain⟨y,g3,g4⟩:=uJ S T;exact .same A h (by simp only[aF,D,F,B,dF,M,AP S co,g3]) g4
   .rename_i cs o G;rw[G]at B;obtain⟨ds,B,S⟩:=B;split at h<;>try cases h
    rename_i x T;obtain⟨y,g3,g4⟩:=uJ S T;exact .same A h (by simp only[aF,D,F,B,dF,g3]) g4
   .rename_i b i G;rw[G]at B;obtain⟨_,i0,B⟩:=B;split at h<;>try cases h
    rename_i cs an;split at h<;>try cases h
    rename_i l c7 hl;obtain⟨v,P,h⟩:=oB h;obtain⟨_,P⟩:=Ai P;obtain⟨ds,M,S⟩:=A.box b cs an;have g3:ds[i.toNat]?=some (.v (.bool v)):=by rw[MU hl S,df,P];rfl
    exact .same A h (y:=.v (.bool v)) (by simp only[aF,D,F,B,dF,M,AP S (Uq hl),c7,lW,g3]) rfl
   .rename_i id ad sv i cs o G;rw[G]at B;split at h<;>try cases h
    rename_i R hR;split at h<;>try cases h
    rename_i bm;split at h
    rotate_left
    .split at h<;>try cases h
     rename_i ek;obtain⟨v,P,h⟩:=oB h;split at h<;>try cases h
     rename_i x T;obtain⟨j0,P⟩:=Ai P;obtain⟨R',M,_,_,_,S⟩:=B;rw[A.rw,hR]at M;cases M;have hg:=A.rows id R (by rw[A.rw];exact hR);rcases S (cm bm)with⟨r',j,z1,z2,z0,z3,_⟩|⟨z1,z3,_⟩
     .rw[z1]at hg;obtain⟨Q,q1,q2,q3,q4,q5,q6,q7⟩:=hg;rw[z0,jT]at P;obtain⟨e,e1,e2⟩:=xc q5 P;obtain⟨y,g3,g4⟩:=uJ (lN e2) T;have kl:yb Q j (m.v id)=some e:=by unfold yb;rw[af q3];exact e1
      exact .same A h (by simp only[aF,D,F,z2,dF,q1,kl,g3]) g4
     .rw[z1]at hg;have:=hg ek;rw[this]at z3;exact absurd z3 (qbV _)
    rename_i eg;split at h<;>try cases h
    rename_i x T;rcases V1 A B hR (cm bm) (cm eg)with⟨r',j,ds,Q,k1,_,_,k2,k3,k4,_⟩|⟨ds,k1,k4,_⟩
    .obtain⟨y,g3,g4⟩:=uJ k4 T;have kl:yb Q j Q.ver=some ds:=by unfold yb;rw[af rfl];exact k3
     exact .same A h (by simp only[aF,D,F,k1,dF,k2,kl,g3]) g4
    .obtain⟨y,g3,g4⟩:=uJ k4 T;exact .same A h (by simp only[aF,D,F,k1,dF,g3]) g4
 |store t a x=>
   simp only[eG]at h;split at h<;>try cases h
   rotate_left
   .rename_i d b i F G;have B:=A.ev a;rw[G]at B;obtain⟨hb,i0,B⟩:=B;split at h<;>try cases h
    rename_i cs v an T;split at h<;>try cases h
    rename_i l hl bn;obtain⟨d7,h⟩:=kh h;have d7:=bG d7;have bn:=cm bn;obtain⟨ds,M,S⟩:=A.box b cs an;have az:=A.ev x;rw[T]at az;have az:aev tm x=.v (.bool v):=az;have d8:=MU hl S;have ct:i.toNat<l.length:=by omega
    have aE:ds.length=l.length:=by rw[d8,bO]
    have dn:qy l i v 0=l.set i.toNat v:=by
     have:=Wz l i.toNat v 0
     rwa [show((i.toNat+0:Nat):Int)=i by omega]at this
    have a8:ds.take i.toNat++(cellsOf (aev tm x)++ds.drop (i.toNat+d.size))=(qy l i v 0).map λ b=>AV.v (.bool b):=by
     rw[az,bn,dn,List.map_set,<-d8,qsk,af (by omega)];rfl
    have e1:(cellsOf (aev tm x)).length=d.size:=by rw[az,bn];rfl
    have e2:i.toNat+d.size<=ds.length:=by omega
    have k2:(cellsOf (aev tm x)).all isC=true:=by rw[az];rfl
    exact .to h (by simp only[aF,D,F,B,M,AP S (Uq hl),e1,e2,k2,ij,lE];rfl) (.refl m) (A.setBox hb (ds:=ds.take i.toNat++(cellsOf (aev tm x)++ds.drop (i.toNat+d.size))) (by rw[a8];exact Vt _) _) ⟨_,rfl,rfl⟩
   .rename_i d id ad sv i cs o F G;have B:=A.ev a;rw[G]at B;split at h<;>try cases h
    rename_i R hR;split at h<;>try cases h
    rename_i hc;simp only[aJ,cH,eD]at hc;obtain⟨⟨⟨⟨⟨c1,c2⟩,c3⟩,c4⟩,c5⟩,c6⟩:=hc;split at h<;>try cases h
    rename_i v P;rcases V1 A B hR (cm c1) (cm c2)with⟨r',j,ds,Q,k1,bb,ki,k2,k3,k4,kj,kv,kk,kd,kf,ks⟩|⟨ds,k1,k4,ks⟩
    rotate_left
    .rw[c3]at ks;cases ks
    obtain⟨z1,z2,z3⟩:=qkS (A.ev x) c6;have ax:=wM P;have a8:OKL m (cs.take o++(fd (evT E x)++cs.drop (o+d.size))) (ds.take o++(cellsOf (aev tm x)++ds.drop (o+d.size))):=(k4.take o).append (z1.append (k4.drop _));rw[<-A.rw]at ax;obtain⟨rs,p1,p2⟩:=pM A.rows R.τ ax a8;cases p2
    have dT:∀y∈ds,br y=true:=by
     obtain⟨w,_,hw⟩:=oC kd k3;obtain⟨pre,L,_,h3,_⟩:=iM R.τ (dO.1 hw);rw[bK]at L;rw[L];exact h3
    have aE:ds.length=R.τ.size:=by
     obtain⟨w,_,hw⟩:=oC kd k3;obtain⟨pre,L,W,_⟩:=iM R.τ (dO.1 hw);rw[bK]at L;rw[L];exact W
    have dk:∀y∈cellsOf (aev tm x),br y=true:=by
     obtain⟨pre,L,_,h3,_⟩:=iM R.τ p1;rw[Ju,bK]at L;intro y H;have:=h3 (bC I.rw y) (by rw[<-L];exact iY (aR.2 (.inr (aR.2 (.inl H)))));exact Gn (z3 y H) this
    have a7:bu R.τ (ds.take o++(cellsOf (aev tm x)++ds.drop (o+d.size)))=some v:=by
     have:bu R.τ ((ds.take o++(cellsOf (aev tm x)++ds.drop (o+d.size))).map (bC I.rw))=some v:=dO.2 p1
     exact GV (λ y H=>by
      rcases aR.1 H with H|H
      .exact dT y (fY H)
      .rcases aR.1 H with H|H
       .exact dk y H
       .exact dT y (ib H)) this
    have dm:=U2 kd j a7;have cb:r'<I.rw.length:=getElem?_lt k2;have e8:(cellsOf (aev tm x)).length=d.size:=by rw[z1.len];exact c4
    have ex:o+d.size<=ds.length:=by rw[k4.len];exact c5
    have el:xW Q j o Q.ver d.size (cellsOf (aev tm x))=some {Q with c:=Q.c.set j (ds.take o++(cellsOf (aev tm x)++ds.drop (o+d.size)))}:=by
     unfold xW
     have e1:(decide (Q.ver=Q.ver/\Q.fz<=j/\o+d.size<=Q.k/\(cellsOf (aev tm x)).length=d.size/\Q.off=false)&&(cellsOf (aev tm x)).all br)=true:=by
      rw[aJ,cH,bz];exact⟨⟨rfl,by rw[(ks c3).1];exact aG _,by rw[kk,<-aE];exact ex,e8,(ks c3).2⟩,dk⟩
     rw[e1,k3]
    have a5:dJ R.l i v=R.l.set j v:=by
     unfold dJ;rw[af (by rw[ki];exact Int.natCast_nonneg j),ki];rfl
    obtain⟨m',M,S,_⟩:=A.rowUpd (R2:=⟨R.τ,dJ R.l i v,R.ver,R.sv+1,R.sh⟩) hR (m.r id) (m.v id) (Q.c.set j (ds.take o++(cellsOf (aev tm x)++ds.drop (o+d.size)))) (ak _) (eB _)
     (λ _=>⟨by show(dJ R.l i v).length=_;rw[a5,fw],rfl,rfl,rfl,(λ h=>by have:R.sv+1=R.sv:=h;omega),(λ h=>by rw[bb]at h;cases h)⟩) (σ':={I with rw:=I.rw.set r' {Q with c:=Q.c.set j (ds.take o++(cellsOf (aev tm x)++ds.drop (o+d.size)))},wrr:=r'::I.wrr}) rfl
     (by
      rw[bb];refine⟨{Q with c:=Q.c.set j (ds.take o++(cellsOf (aev tm x)++ds.drop (o+d.size)))},by show(I.rw.set r' _)[r']?=_;rw[gx cb],rfl,kv,kk,?_,?_,ks⟩
      .show bU (bu R.τ) (Q.c.set j _)=some (dJ R.l i v);rw[a5];exact dm
      .show Q.fz<=(Q.c.set j _).length;rw[fw];exact kf)
     (λ c9 a9 L W h3=>by
      have a3:=A.others hR bb L W h3;refine⟨λ G=>by rw[bb]at G;exact a3 (jp G).symm,λ Q' c8=>?_⟩;show(I.rw.set r' _)[a9]?=_;rw[kK (mC a3)];exact c8)
    exact .to h (by simp only[aF,D,F,k1,k2,el];rfl) M S ⟨_,rfl,rfl⟩
   rename_i d b o F G;have B:=A.ev a;rw[G]at B;obtain⟨hb,B⟩:=B;split at h<;>try cases h
   rename_i cs an;split at h<;>try cases h
   rename_i hc;simp only[aJ,cH]at hc;obtain⟨⟨⟨co,L⟩,W⟩,h3⟩:=hc;obtain⟨ds,M,S⟩:=A.box b cs an;obtain⟨k1,k2⟩:=(A.ev x).cells h3;have e1:(cellsOf (aev tm x)).length=d.size:=by rw[k1.len];exact L
   have e2:o+d.size<=ds.length:=by rw[S.len];exact W
   exact .to h (by simp only[aF,D,F,B,M,AP S co,e1,e2,k2,ij,lE];rfl) (.refl m) (A.setBox hb ((S.take o).append (k1.append (S.drop (o+d.size)))) _) ⟨_,rfl,rfl⟩
 |makeSlice t n mm=>
   simp only[eG]at h;split at h<;>try cases h
   rename_i _ _ _ _ _ k bytes z a' ik a F G hn;split at h<;>try cases h
   rename_i hc;simp only[aJ,cH]at hc;obtain⟨⟨⟨⟨c1,c2⟩,c3⟩,c4⟩,c5⟩:=hc;split at h<;>try cases h
   rename_i v P;obtain⟨hm,h⟩:=kh h;obtain⟨m1,m2,m3⟩:=bG hm;have a0:=A.ev n;rw[hn]at a0;have a0:aev tm n=.v (.int ik a):=a0;have e0:aev tm mm=.v (.int ik a):=by rw[<-qpP c1];exact a0
   have em:eu mp0 I:=λ id R h=>by cases h
   have ax:=wM P;obtain⟨rs,p1,p2⟩:=pM (m:=mp0) em a' ax (wP c5);cases p2;have ed:(z.map AV.v).map (bC I.rw)=z.map AV.v:=by rw[jQ];exact ss λ _ _=>rfl
   rw[ed]at p1;have e7:bu a' (z.map AV.v)=some v:=dO.2 p1;have dr:(z.map AV.v).all br=true:=by rw[QG,bz];intro _ _;rfl
   have c0:decide (0<=a/\a.toNat*bytes<=2^47/\a.toNat<2^62/\0<k/\z.length=k)=true:=bg ⟨m1,m2,m3,c3,c4⟩
   have bp:aF C tm I (.makeSlice t n mm)=match bJ a.toNat 0 with
     |true=>some (.sl k [] 2,none)
     |false=>some (.rs I.rw.length 0 a.toNat 0 false,some {I with rw:=I.rw++[⟨k,List.replicate a.toNat (z.map .v),0,0,false⟩]}):=by
    simp only[aF,D,F,a0,e0,true_and,c0,c5,dr,lE];cases bJ a.toNat 0<;>rfl
   have cd:=VH e7 a.toNat;by_cases B:a.toNat=0
   .obtain⟨m',M,S,g3⟩:=A.rowAdd (σ':=I) ⟨a',List.replicate a.toNat v,0,0,false⟩ none 0 [] rfl (λ _=>by show List.replicate a.toNat v=[];rw[B];rfl) (λ r Q h=>h) (λ r h=>by cases h) (y:=.sl k [] 2) ⟨by show fD a'.size (bu a') (.sl k [] 2)=some (List.replicate a.toNat v);rw[B,c2];simp only[fD,bJ,ij];rfl,ak _⟩ rfl;refine⟨_,some _,.sl k [] 2,none,m',h,?_,M,S,g3,λ h=>by cases h⟩;have:bJ a.toNat 0=true:=by simp[bJ,B]
    rw[bp,this]
   .obtain⟨m',M,S,g3⟩:=A.rowNew cd;rw[sk]at g3;refine .to h (y:=.rs I.rw.length 0 a.toNat 0 false) ?_ M S g3;have:bJ a.toNat 0=false:=by simp[bJ,B]
    rw[bp,this,c2]
 |nilCheck x=>
   simp only[eG]at h;have B:=A.ev x;split at h<;>try cases h
   .rename_i b o G;rw[G]at B;exact .same A h (by simp only[aF,B.2]) ⟨B.1,rfl⟩
   .rename_i cs o G;rw[G]at B;obtain⟨ds,B,g⟩:=B;exact .same A h (by simp only[aF,B]) ⟨ds,rfl,g⟩
   .rename_i id ad sv i cs o G;rw[G]at B;have eb:=B;obtain⟨R,_,_,_,H,_⟩:=B;rcases H with⟨r',j,ep,H⟩|⟨ds,H⟩
    .exact .same A h (y:=.rpt r' j o ep) (by simp only[aF,H]) (by rw[<-H];exact eb)
    .exact .same A h (y:=.ept ds o) (by simp only[aF,H]) (by rw[<-H];exact eb)
 |binOp op t x y u=>
   simp only[eG]at h;split at h
   .rename_i b hb
    obtain⟨e1,F⟩:((op=.eql/\K (.b b) none=some r)\/(op=.neq/\K (.b (!b)) none=some r))/\∃p1 p2 p3 p4,c.ty t=some ⟨p1,p2,p3,p4,.ptr⟩:=by
     split at h<;>try (cases h;done)
     .rename_i hp;exact⟨.inl ⟨rfl,h⟩,TH hp⟩
     .rename_i hp;exact⟨.inr ⟨rfl,h⟩,TH hp⟩
    obtain⟨p1,p2,p3,p4,F⟩:=F;rcases qnT (A.ev x) (A.ev y) hb with⟨rfl,q1,q2⟩|⟨rfl,q1,q2⟩
    .rcases e1 with⟨rfl,e1⟩|⟨rfl,e1⟩<;>exact .same A e1 (by simp only[aF,q1,q2,D,F,qbY]) rfl
    .rcases e1 with⟨rfl,e1⟩|⟨rfl,e1⟩
     .refine .same A e1 (y:=.v (.bool false)) ?_ rfl;cases T:aev tm x<;>rw[T]at q1<;>first|(cases q1;done)|(simp only[aF,T,q2,D,F,A6,BL,lE])
     .refine .same A e1 (y:=.v (.bool true)) ?_ rfl;cases T:aev tm x<;>rw[T]at q1<;>first|(cases q1;done)|(simp only[aF,T,q2,D,F,A6,BL,lE])
   obtain⟨z,v,L,W,h3⟩:=qqh (A.ev x) (A.ev y) h;refine .same A L ?_ W;rcases h3 with⟨a,b,e1,e2,e3,h4⟩|⟨a,b,e1,e2,e3,h4⟩
   .obtain⟨p1,p2,p3,p4,F⟩:=qkJ e3;rcases h4 with⟨rfl,rfl⟩|⟨rfl,rfl⟩<;>simp only[aF,e1,e2,D,F]
   .simp only[aF,e1,e2];split
    .rename_i p q hp hq;cases hp;cases hq;exact absurd ⟨rfl,rfl⟩ (e3 p q)
    .rename_i hp hq;cases hp;cases hq;simp[rS]at h4
    .rename_i hp hq;cases hp;cases hq;rw[h4]
    .rename_i n1 n2 n3;exact absurd rfl (n3 _ _ rfl)
 |unOp op t x=>
   simp only[eG]at h;have B:=A.ev x;split at h<;>try cases h
   .rename_i k n G;rw[G]at B;exact .same A h (by simp only[aF,show aev tm x=_ from B,unA]) rfl
   .rename_i b G;rw[G]at B;exact .same A h (by simp only[aF,show aev tm x=_ from B,unA]) rfl
 |convert s d x=>
   simp only[eG]at h;have B:=A.ev x;split at h<;>try cases h
   .rename_i L W h3;rw[h3]at B;exact .same A h (by simp only[aF,D,L,W,show aev tm x=_ from B]) rfl
   .rename_i L W h3;rw[h3]at B;exact .same A h (by simp only[aF,D,L,W,show aev tm x=_ from B]) rfl
   .rename_i e _ _ _ _ _ _ _ _ _ _ L W hn;split at h<;>try cases h
    rename_i l hu hl;rw[<-A.rw]at hl;obtain⟨es,M,S,g3⟩:=AK A.rows hl B;have M:elems I.rw 1 (aev tm x)=some es:=M;refine .same A h (y:=.v (.string ⟨(Od l).toArray⟩)) ?_ rfl;have hs:=Ws es l S
    cases T:aev tm x<;>rw[T]at M<;>first
     |(simp[elems]at M;done)
     |(simp only[aF,D,L,W,T,hu,M,hs];done)
     |skip
    rename_i v
    cases v<;>first
     |(simp[elems]at M;done)
     |(simp only[aF,D,L,W,T,hu,M,hs])
 |makeFunc f fs cs=>
   cases f with
   |func f=>
     simp only[eG]at h;split at h<;>try cases h
     rename_i hf;exact .same A h (by simp only[aF,hf]) ⟨_,rfl,A.evs _⟩
   |_=>simp only[eG]at h;cases h
 |slice t x lo hi mx=>
   cases mx with
   |some q=>simp only[eG]at h;cases h
   |none=>
   simp only[eG]at h;have B:=A.ev x;split at h<;>try cases h
   .rename_i y F G;rw[G]at B;split at h<;>try cases h
    rename_i hh a6;split at h<;>try cases h
    rename_i l ar;obtain⟨c1,h⟩:=kh h;obtain⟨c2,h⟩:=kh h;have ef:ql ⟨y.toArray⟩=y.length:=by simp[ql,ByteArray.size]
    have b1:=qV A (d:=y.length) a6 (ak _) c1;have b2:=qV A (d:=0) ar (aG _) c2;refine .same A h (y:=.v (.string (Br ⟨y.toArray⟩ l.toNat hh.toNat))) ?_ ?_
    .simp only[aF,D,F,show aev tm x=_ from B,ef,b1,b2]
    .show AV.v _=AV.v _;rw[<-qoz]
   .rename_i a y lv F G;rw[G]at B;split at h<;>try cases h
    rename_i hk;rw[aJ]at hk;have d6:=bG hk.1;split at h<;>try cases h
    rename_i hh a6;split at h<;>try cases h
    rename_i l ar;obtain⟨c1,h⟩:=kh h;obtain⟨c2,h⟩:=kh h;have b1:=qV A (d:=y.length) a6 (ak _) c1;have b2:=qV A (d:=0) ar (aG _) c2;obtain⟨aE,_⟩:=B;rcases fC aE with⟨L,rfl⟩|⟨es,n,L,W⟩
    .refine .same A h (y:=.v (.slice none 0 0)) ?_ ?_
     .simp only[eJ]at b1;simp only[aF,D,F,L,b1,b2]
     .refine⟨?_,by decide⟩;show some []=some (gq [] l hh);simp[gq]
    .have b9:fS es=y.length:=dU W;refine .same A h (y:=.sl a.size (Ja es l.toNat hh.toNat) (lvS (n+1) (bJ hh.toNat y.length))) ?_ ?_
     .simp only[aF,D,F,L,d6,bJ,ij,b9,b1,b2,show pos (n+1)=true from by simp[pos],lE]
     .have a4:∃q,lvS (n+1) (bJ hh.toNat y.length)=q+1:=by unfold lvS;split<;>exact⟨_,rfl⟩
      obtain⟨q,hq⟩:=a4;rw[hq];refine⟨?_,vU (aG _)⟩;show fD _ _ (.sl _ _ (q+1))=_;simp only[fD,d6,bJ,ij];exact wS _ (Ab _ W)
   .rename_i F G;rw[G]at B;split at h<;>try cases h
    rename_i hh a6;split at h<;>try cases h
    rename_i l ar;obtain⟨c1,h⟩:=kh h;obtain⟨c2,h⟩:=kh h;have b1:=qV A (d:=0) a6 (ak _) c1;have b2:=qV A (d:=0) ar (aG _) c2;exact .same A h (y:=.v (.slice none 0 0)) (by simp only[aF,D,F,show aev tm x=_ from B,b1,b2]) rfl
   .rename_i _ _ _ _ _ k _ _ id ad F G;rw[G]at B;split at h<;>try cases h
    rename_i R hR;split at h<;>try cases h
    rename_i b8;rw[aJ]at b8;have P:R.ver=ad:=cm b8.1;have hk:=bG b8.2;split at h<;>try cases h
    rename_i l ar;obtain⟨c1,h⟩:=kh h;obtain⟨R',M,S,g3,g4⟩:=B;rw[A.rw,hR]at M;cases M;have e9:m.rw[id]?=some R:=by rw[A.rw];exact hR
    have gy:=g4 P;subst P;rcases rp A.rows e9 gy with⟨rr,Q,bs,H,k1,k2,kv,k3,k4,kf,ks⟩|⟨bs,hq,H,a4⟩
    .have b4:=dU k4;have cb:rr<I.rw.length:=getElem?_lt k1;have b2:=qV A (d:=0) ar (aG _) c1
     have b0:l.toNat<=R.l.length:=by
      unfold inb at c1;have:=bG c1;omega
     have d9:IJ Q k 0 Q.c.length Q.ver l.toNat=some {Q with c:=Q.c.drop l.toNat,ver:=Q.ver+1,fz:=Q.fz-l.toNat,off:=true}:=by
      unfold IJ;rw[af ⟨k3.trans hk,rfl,rfl,rfl,by rw[b4];exact b0,kf⟩]
     obtain⟨m',z1,z2,z3⟩:=A.rowUpd (R2:=⟨R.τ,R.l.drop l.toNat,R.ver+1,R.sv,true⟩) hR (some rr) (Q.ver+1) (Q.c.drop l.toNat) (eB _) (ak _) (λ h=>by have:R.ver+1=R.ver:=h;omega)
      (σ':={I with rw:=I.rw.set rr {Q with c:=Q.c.drop l.toNat,ver:=Q.ver+1,fz:=Q.fz-l.toNat,off:=true},wrr:=rr::I.wrr}) rfl
      ⟨{Q with c:=Q.c.drop l.toNat,ver:=Q.ver+1,fz:=Q.fz-l.toNat,off:=true},by show(I.rw.set rr _)[rr]?=_;rw[gx cb],rfl,rfl,k3,wS _ k4,by show Q.fz-l.toNat<=(Q.c.drop l.toNat).length;rw[fZ];omega,λ h=>by cases h⟩ λ c9 a9 a3 ct b5=>by
       have d0:=A.others hR bs a3 ct b5;exact⟨λ cP=>d0 (jp cP).symm,λ Q' c8=>by show(I.rw.set rr _)[a9]?=_;rw[kK (mC d0)];exact c8⟩
     refine .to h (y:=.rs rr 0 (Q.c.length-l.toNat) (Q.ver+1) false) ?_ z1 z2 (z3 _ ?_)
     .simp only[aF,D,F,H,vN,show ∀n,iH n n none=some n from λ _=>rfl,k1,b4,b2,bJ,ij];rw[b4]at d9;rw[d9]
     .show _=AV.rs rr 0 (R.l.drop l.toNat).length (Q.ver+1) false;rw[fZ,b4]
    .have b2:=qV A (d:=0) ar (aG _) c1
     have b0:l.toNat<=R.l.length:=by
      unfold inb at c1;have:=bG c1;omega
     obtain⟨m',z1,z2,z3⟩:=A.rowUpd (R2:=⟨R.τ,R.l.drop l.toNat,R.ver+1,R.sv,true⟩) hR none 0 [] (eB _) (ak _) (λ h=>by have:R.ver+1=R.ver:=h;omega) (σ':=I) rfl
      (λ hs=>by cases hs) λ c9 a9 a3 ct b5=>⟨λ cP=>(by cases cP),λ _ h=>h⟩
     rcases fC H with⟨bl,d5⟩|⟨es,n,bl,ea⟩<;>rw[bl]at H a4
     .have d4:l.toNat=0:=by rw[d5]at b0;simpa using b0
      refine⟨_,some _,.v (.slice none 0 0),none,m',h,?_,z1,z2,z3 _ ⟨?_,a4⟩,λ h=>by cases h⟩
      .rw[d5]at b2;simp only[eJ]at b2;simp only[aF,D,F,bl,vN,show ∀n,iH n n none=some n from λ _=>rfl,b2]
      .show dlist R.τ _=some (R.l.drop l.toNat);rw[d4,bH];exact H
     .have b9:fS es=R.l.length:=dU ea;have fb:1<=n:=by have:2<=n+1:=a4;omega
      refine⟨_,some _,.sl R.τ.size (Ja es l.toNat R.l.length) (lvS (n+1) (bJ R.l.length R.l.length)),none,m',h,?_,z1,z2,z3 _ ⟨?_,?_⟩,λ h=>by cases h⟩
      .simp only[aF,D,F,bl,hk,bJ,ij,vN,show ∀n,iH n n none=some n from λ _=>rfl,b9,b2,show pos (n+1)=true from by simp[pos],lE]
      .have d2:lvS (n+1) (bJ R.l.length R.l.length)=2:=by
         unfold lvS;rw[show(decide (1<n+1)&&bJ R.l.length R.l.length)=true by simp[bJ];omega]
       rw[d2];show fD _ _ (.sl _ _ 2)=_;simp only[fD,bJ,ij];have:=wS l.toNat (Ab R.l.length ea);rw[dg]at this;exact this
      .show 2<=lvS _ _;unfold lvS;rw[show(decide (1<n+1)&&bJ R.l.length R.l.length)=true by simp[bJ];omega];exact ak _
 |fieldAddr t x i=>
   simp only[eG]at h;split at h<;>try cases h
   rename_i F;split at h<;>try cases h
   rename_i off size g hf;split at h<;>try cases h
   have B:=A.ev x;split at h<;>try cases h
   .rename_i b o G;rw[G]at B;exact .same A h (by simp only[aF,D,F,hf,B.2]) ⟨B.1,rfl⟩
   .rename_i cs o G;rw[G]at B;obtain⟨ds,B,hg⟩:=B;exact .same A h (by simp only[aF,D,F,hf,B]) ⟨ds,rfl,hg⟩
   .rename_i id ad sv j cs o G;rw[G]at B;obtain⟨R,k1,k2,k3,H,k4⟩:=B;rcases H with⟨r',q,ep,H⟩|⟨ds,H⟩
    .refine .same A h (y:=.rpt r' q (o+off) ep) (by simp only[aF,D,F,hf,H]) ⟨R,k1,k2,k3,.inl ⟨_,_,_,rfl⟩,λ e1=>?_⟩;rcases k4 e1 with⟨r2,i2,z1,z2,z0,z3,z4⟩|⟨z1,z3,z4⟩
     .rw[H]at z2;cases z2;exact .inl ⟨_,_,z1,rfl,z0,z3,z4⟩
     .exact .inr ⟨z1,z3,λ hs=>by obtain⟨ds,z,_⟩:=z4 hs;rw[H]at z;cases z⟩
    .refine .same A h (y:=.ept ds (o+off)) (by simp only[aF,D,F,hf,H]) ⟨R,k1,k2,k3,.inr ⟨_,rfl⟩,λ e1=>?_⟩;rcases k4 e1 with⟨r2,i2,z1,z2,_⟩|⟨z1,z3,z4⟩
     .rw[H]at z2;cases z2
     .exact .inr ⟨z1,z3,λ hs=>by obtain⟨ds',z,zz⟩:=z4 hs;rw[H]at z;cases z;exact⟨ds,rfl,zz⟩⟩
 |field t x i=>
   simp only[eG]at h;have B:=A.ev x;split at h<;>try cases h
   rename_i cs F G;split at h<;>try cases h
   rename_i off size g hf;split at h<;>try cases h
   rename_i y H;rw[G]at B;obtain⟨ds,B,hg⟩:=B;obtain⟨z,M,S⟩:=uJ hg H;exact .same A h (by simp only[aF,D,F,B,hf,M]) S
 |indexAddr t x i=>
   simp only[eG]at h;have B:=A.ev x;have hi:=A.ev i;split at h<;>try cases h
   .rename_i _ _ _ _ _ k _ _ ik j F hj;rw[hj]at hi;have hi:aev tm i=.v (.int ik j):=hi;split at h<;>try cases h
    .rename_i a l lv G;rw[G]at B;split at h<;>try cases h
     rename_i hk;have hk:=bG hk;obtain⟨v,P,h⟩:=oB h;obtain⟨j0,P⟩:=Ai P;obtain⟨aE,_⟩:=B;rcases fC aE with⟨L,rfl⟩|⟨es,n,L,W⟩
     .simp at P
     .obtain⟨e,M,S⟩:=xc W P;refine .same A h (y:=.ept e 0) ?_ ⟨e,rfl,lN S⟩;have ca:yE es j=some e:=by unfold yE;rw[af j0];exact M
      simp only[aF,D,F,hi,L,hk,bJ,ij,ca]
    .rename_i id ad G;rw[G]at B;split at h<;>try cases h
     rename_i R hR;split at h<;>try cases h
     rename_i P;rw[aJ]at P;have bm:=cm P.1;have hk:=bG P.2;obtain⟨v,P,h⟩:=oB h;obtain⟨j0,P⟩:=Ai P;obtain⟨R',M,S,g3,g4⟩:=B;rw[A.rw,hR]at M;cases M;have g4:=g4 bm;rcases rp A.rows (by rw[A.rw];exact hR) g4 with⟨rr,Q,bs,H,q1,q2,q3,q4,q5,_⟩|⟨cl,_,hq,_⟩
     .obtain⟨e,z1,z2⟩:=xc q5 P;have hl:=dU q5;have fk:j.toNat<Q.c.length:=getElem?_lt z1;refine .same A h (y:=.rpt rr (0+j.toNat) 0 Q.ver) ?_ ?_
      .have:IP Q k 0 Q.c.length Q.ver j=some (0+j.toNat):=by
         unfold IP;rw[af ⟨q4.trans hk,j0,by omega,rfl,by omega⟩]
       simp only[aF,D,F,hi,H,q1,this]
      .refine⟨R,by rw[A.rw];exact hR,by omega,ak _,.inl ⟨_,_,_,rfl⟩,λ _=>.inl ⟨rr,j.toNat,bs,by rw[bS,q3],by omega,by omega,λ _=>⟨e,by rw[<-q2];exact z1,lN z2⟩⟩⟩
     .rcases fC hq with⟨_,hl⟩|⟨es,n,L,W⟩
      .rw[hl]at P;simp at P
      .obtain⟨e,M,fa⟩:=xc W P;refine .same A h (y:=.ept e 0) ?_ ⟨R,by rw[A.rw];exact hR,by omega,ak _,.inr ⟨_,rfl⟩,λ _=>.inr ⟨cl,Qs (aG _) (getElem?_lt P),λ _=>⟨e,rfl,lN fa⟩⟩⟩;have ca:yE es j=some e:=by unfold yE;rw[af j0];exact M
       simp only[aF,D,F,hi,L,hk,bJ,ij,ca]
   .rename_i n _ ik j F hj;rw[hj]at hi;have hi:aev tm i=.v (.int ik j):=hi;split at h<;>try cases h
    rename_i b G;rw[G]at B;obtain⟨hb,B⟩:=B;obtain⟨T,h⟩:=kh h;have T:=bG T;refine .same A h (y:=.ptr (m.b b) (0+j.toNat*1)) (by simp only[aF,D,F,hi,B,bg T]) ⟨hb,T.1,by rw[bS,BO]⟩
 |index t x i=>
   simp only[eG]at h;have B:=A.ev x;have hi:=A.ev i;split at h<;>try cases h
   rename_i y ik j F G hj;rw[G]at B;rw[hj]at hi;obtain⟨v,P,h⟩:=oB h;obtain⟨j0,P⟩:=Ai P;refine .same A h (y:=.v (.int .u8 v.toNat)) ?_ rfl
   have:Ji ⟨y.toArray⟩ j=some (v.toNat:Int):=by
    unfold Ji;rw[af j0];show(match y[j.toNat]? with|some b=>some ((b.toNat:Nat):Int)|none=>none)=_;rw[P]
   simp only[aF,D,F,show aev tm x=_ from B,show aev tm i=_ from hi,this]
 |extract x i=>
   simp only[eG]at h;have B:=A.ev x;split at h<;>try cases h
   rename_i vs G;rw[G]at B;obtain⟨ds,B,hg⟩:=B;split at h<;>try cases h
   rename_i y H;obtain⟨z,M,S⟩:=hg.get H;exact .same A h (by simp only[aF,B,M]) S
 |makeMap t q=>
   cases q with
   |some q=>simp[eG]at h
   |none=>
     simp only[eG]at h;split at h<;>try cases h
     rename_i κ a hm;obtain⟨_,_,_,_,vz,F,_⟩:=GJ hm;obtain⟨m',L,W,h3⟩:=A.alloc (cs:=[.mc κ a []]) (ds:=[.mc (kcT κ) κ.agg a.agg [] []]) ⟨_,_,rfl,Ob,rfl⟩;exact .to h (by simp only[aF,D,F]) L W (x:=.mp τ.bx.length) (y:=.mp I.bx.length) ⟨h3.1,by have e:=h3.2;simp only[AV.ptr.injEq]at e;rw[e.1]⟩
 |lookup t mm k q=>
   simp only[eG]at h;split at h<;>try cases h
   rename_i κ a hm;split at h<;>try cases h
   rename_i b l z kv e4 hz hk;obtain⟨_,_,_,_,vz,F,b6⟩:=GJ hm;obtain⟨fg,ks,vs,d3,e5⟩:=LW A (A.ev mm) e4;obtain⟨e1,e2⟩:=XX b6 A.rows (by rw[A.rw];exact hk) (A.ev k);obtain⟨z1,z2⟩:=qpp F hz
   have ec:∃y,xT (kcT κ) a.agg vz ks vs (cellsOf (aev tm k))=some (y,oU (veq κ) l kv)/\OK m (om a (lw (veq κ) z l kv)) y:=by
    rw[e2];rcases Wc b6 e5 kv 0 with⟨f1,f2⟩|⟨j,v,p,f1,f2,f3,f4⟩
    .exact⟨fh a.agg (vz.map .v),by simp only[xT,f1,oU,f2,yf],by simp only[lw,f2,yf];exact Yb z2⟩
    .rw[bS]at f1;exact⟨fh a.agg v,by simp only[xT,f1,f2,oU,f4,yf],by simp only[lw,f4,yf];exact Yb f3⟩
   obtain⟨y,y1,y2⟩:=ec
   have hc:(vj (kcT κ) κ.agg (aev tm k)&&(vz.all cj&&decide (vz.length=a.size)&&(a.agg||decide (a.size=1))))=true:=by
    rw[e1,z1.1,z1.2];simp only[ij,cv];cases c7:a.agg with
    |true=>rfl
    |false=>rw[V7 c7];rfl
   cases q with
   |true=>exact .same A h (by simp only[aF,D,F,d3,hc,y1]) ⟨_,rfl,⟨_,_,rfl,y2,_,_,rfl,rfl,rfl⟩⟩
   |false=>exact .same A h (by simp only[aF,D,F,d3,hc,y1]) y2
 |mapUpdate t mm k y=>
   have hs:aF C tm I (.mapUpdate t mm k y)=lQ C tm I t mm k y:=rfl;rw[hs];exact Uc D A (show yc c E τ t mm k y K=some r from h)
 |insert t mm k y=>
   have hs:aF C tm I (.insert t mm k y)=lQ C tm I t mm k y:=rfl;rw[hs];exact Uc D A (show yc c E τ t mm k y K=some r from h)
 |_=>simp only[eG]at h;cases h
end
end
end Go.AmZ
