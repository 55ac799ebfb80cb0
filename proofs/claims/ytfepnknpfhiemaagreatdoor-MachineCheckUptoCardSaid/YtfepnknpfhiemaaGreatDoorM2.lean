/- Part 2 of what the proofs stand on: plain functions of the program, and that they are its functions. -/
import Derived.Test.YtfepnknpfhiemaaGreatDoorM1
set_option linter.unusedVariables false
set_option linter.unusedSimpArgs false
set_option linter.defProp false
noncomputable section
open Option renaming some->Z,none->U
open Bool renaming true->O,false->Y
open Decidable renaming decide->X
open List renaming length->J
open Array renaming toList->V
open Go renaming Value->aj,World->aC,TypeId->aQ,Program->ba,Operand->bv,FuncId->cJ,BinOp->mM
namespace Go.AmZ
open GxZ
section
open RowKit
theorem YI(ops:aa Oper):∀l:aa Oper,I5 ops l<=J l
 |[]=>au _
 |o::r=>by
   unfold I5;split
   .exact aG _
   .simpa using YI ops r
theorem AR(lo:Nat->Bool)(l:aa Oper):ij lo l<=J l:=YI l l
theorem Mk(o:Oper):(eC o).dst=o.dst:=by unfold eC;split<;>rfl
theorem qmI(o:Oper):(eC o).guard=o.guard:=by unfold eC;split<;>rfl
theorem LJ(o:Oper):dc (eC o)=dc o:=by unfold eC;split<;>rfl
theorem Hk{lo:Nat->Bool}{l:aa Oper}:J (bi lo l)=ij lo l:=by simp[bi,jS (AR lo l)]
theorem Am{lo:Nat->Bool}{l:aa Oper}{j:Nat}(a:j<ij lo l:=by omega):(bi lo l)[j]?=l[j]?.map eC:=by
 grind [bi]
theorem Nr{lo:Nat->Bool}{l:aa Oper}{j:Nat}{o:Oper}(h:(bi lo l)[j]?=Z o):j<ij lo l/\∃q,l[j]?=Z q/\eC q=o:=by
 have a:j<ij lo l:=by rw[<-Hk (lo:=lo) (l:=l)];exact getElem?_lt h
 rw[Am a]at h;grind
theorem G7{lo:Nat->Bool}{ops:aL Oper}{tm:aa AV}{o:Oper}{b:Bool}(h:cV ⟨bi lo (V ops)⟩ tm (eC o)=Z b):cV ops tm o=Z b:=by
 unfold cV at h |-
 rw[qmI]at h;cases d:o.guard with
 |none=>rw[d]at h;exact h
 |some p=>
   let⟨j,a⟩:=p;rw[d]at h;simp only at h |-
   cases c:(bi lo (V ops))[j]? with
   |none=>
     grind
   |some q=>
     let⟨k,e,g,f⟩:=Nr c;have e1:(⟨bi lo (V ops)⟩:aL Oper)[j]?=Z q:=by simpa using c
     have i:ops[j]?=Z e:=by simpa using g
     rw[e1]at h;rw[i];subst f;simp only[Option.bind_some,Mk]at h |-
     exact h
section
variable {P:ba}{C:Cfg}{Γ:Gh}{I:St}{w:aC}{ops:aL Oper}{ex:dJ}{l:aa (AV×ac St)}{s0:S}
theorem UZ{a:aL Bool}(h:a.toList.countP (λ b => !b)=0):∀i,i<a.size->a.getD i Y=O:=by
 intro i c;rw[List.countP_eq_zero]at h;have:=h a[i] (by simp);simp only[ew,Bool.not_eq_false]at this;rw[kS,gE c];simpa using this
theorem ZB(hC:db P C)(hx:mg P ex){G:(Nat->Bool)->S}{ji:(Nat->Bool)->Prop}(z:∀L j,ji L->ji (λ i=>X (i=j)||L i))(H:∀(j:Nat) (o:Oper),ops[j]?=Z o->∀e∈dc o,e<j)(I:∀L,(∀i,i<ops.size->L i=O)->G L=G aP)
  (t:∀(L:Nat->Bool) (j:Nat) (o:Oper),gq ops L->ji L->ops[j]?=Z o->L j=Y->(∀e∈dc o,L e=O)->∃y,nc C ex ops o (G L) y/\G (λ i=>X (i=j)||L i)=bX (G L) o y) {Q:Exit->Act->aC->Prop}:∀(d:Nat) (c:aL Bool) (Γ:Gh) (w:aC) (a:Act),c.size=ops.size->c.toList.countP (λ b => !b)=d->gq ops (λ i=>c.getD i Y)->ji (λ i=>c.getD i Y)->
  Inv Γ (G (λ i=>c.getD i Y)).I w->ck Γ (G (λ i=>c.getD i Y)).tm a->
  (∀Γ' w' a',Ext Γ w Γ' w'->Inv Γ' (G aP).I w'->ck Γ' (G aP).tm a'->bN (G (λ i=>c.getD i Y)).I (G aP).I->a'.defers=a.defers->Q .normal a' w')->
  wpAny P .any ops Q d c a w:=by
 intro d
 induction d with
 |zero=>
   intro c Γ w a g p N l D s hq;have r:=UZ p
   have n:Region.ready .any ops c=[]:=by
    apply List.eq_nil_iff_forall_not_mem.2;intro j hj;let⟨h1,o,v,_⟩:=mem_ready.1 hj;grind
   have hF:G (λ i=>c.getD i Y)=G aP:=I _ λ i D=>r i (by rw[g];exact D);rw[hF]at D s;exact⟨n,hq Γ w a (.refl _ _) D s (by rw[hF];exact .refl _) rfl⟩
 |succ d ih=>
   intro c Γ w a g p N l D s hq;refine⟨λ n=>?_,λ j hj=>?_⟩
   .exfalso
    have aE:∃i,i<c.size/\c.getD i Y=Y:=by
     apply QU;intro ar
     have:c.toList.countP (λ b => !b)=0:=by
      rw[List.countP_eq_zero];intro b hb;obtain⟨i,f,rfl⟩:=List.getElem_of_mem hb;intro a3;refine ar ⟨i,by simpa using f,?_⟩;rw[kS,gE (by simpa using f)];simpa using a3
     rw[p]at this;cases this
    let⟨i0,h0,h1⟩:=aE
    have T:∀i,i<c.size->c.getD i Y=Y->False:=by
     intro i
     induction i using Nat.strongRecOn with
     |_ i W=>
       intro f hf;let⟨o,v⟩:=gJ (ops:=ops) (k:=i) (by rw[<-g];exact f)
       have hr:i∈Region.ready .any ops c:=by
        refine mem_ready.2 ⟨?_,o,v,λ e K hb=>?_⟩
        .rw[kS,gE f]at hf |-
         simpa using hf
        .have a0:e.on∈dc o:=bE.2 ⟨e,kO.2 ⟨by simpa using K,hb⟩,rfl⟩;have ax:=H i o v e.on a0;cases hc:c.getD e.on Y with
         |true=>rfl
         |false=>exact(W e.on ax (by omega) hc).elim
       rw[n]at hr;cases hr
    exact T i0 h0 h1
   .let⟨h1,o,v,r⟩:=mem_ready.1 hj;have A:j<ops.size:=(eH.1 v).1
    have hL:c.getD j Y=Y:=by
     grind
    have hp:∀e∈dc o,c.getD e Y=O:=λ e K=>by
     obtain⟨ed,a5,rfl⟩:=bE.1 K;grind
    let⟨y,hy,a4⟩:=t _ j o N l v hL hp
    have m:(λ i=>(c.setIfInBounds j O).getD i Y)=λ i=>X (i=j)||c.getD i Y:=by
     funext i;by_cases B:i=j
     .subst B;rw[kS,qtr (by rw[g];exact A)];simp
     .rw[getD_set_ne Y (mH B)];simp[B]
    have F:(c.setIfInBounds j O).size=ops.size:=by rw[qcO,g]
    have M:(c.setIfInBounds j O).toList.countP (λ b => !b)=d:=by
     have az:j<J (V c):=by simp[g,A]
     rw[Jr,List.countP_set (h:=az),p]
     have:c.toList[j]=Y:=by
      rw[kS,gE (by rw[g];exact A)]at hL;simpa using hL
     rw[this];simp
    have a1:gq ops (λ i=>(c.setIfInBounds j O).getD i Y):=by
     rw[m];intro i q ad f e K;simp only[gg,cR]at f |-
     obtain rfl|f:=f
     .grind
     .exact .inr (N i q ad f e K)
    unfold wpOp;rw[v];simp only
    have next:∀Γ' w' u,Ext Γ w Γ' w'->Inv Γ' (turn (G (λ i=>c.getD i Y)).I y.2) w'->Rep Γ' y.1 u->bN (G (λ i=>c.getD i Y)).I (turn (G (λ i=>c.getD i Y)).I y.2)->
      wpAny P .any ops Q d (c.setIfInBounds j O) (a.put o.dst u) w':=by
     intro Γ' w' u e1 e2 e3 e4;have E:G (λ i=>(c.setIfInBounds j O).getD i Y)=bX (G (λ i=>c.getD i Y)) o y:=by rw[m];exact a4
     refine ih (c.setIfInBounds j O) Γ' w' (a.put o.dst u) F M a1 (by rw[m];exact z _ j l) ?_ ?_ ?_
     .rw[E];exact e2
     .rw[E];exact ck.put (JE e1.le s) o.dst e3
     .intro R w2 a2 g1 g2 g3 g4 g5;rw[E]at g4;exact hq R w2 a2 (e1.trans g1) g2 g3 (e4.trans g4) (by rw[g5];cases N:o.dst<;>rfl)
    obtain⟨hw,an⟩|⟨hw,rfl⟩:=hy
    .rw[af (vf s hw)];left;apply OC hC hx D s an _ _;grind
    .rw[ae (by rw[vf s hw];exact we)];exact next Γ w undef (.refl _ _) D (.tup [] [] rfl λ i x u h=>by simp at h) (.refl _)
theorem Zd(p:db P C)(n:mg P ex){ji:(Nat->Bool)->Prop}(g:∀L j,ji L->ji (λ i=>X (i=j)||L i))(k:∀(j:Nat) (o:Oper),ops[j]?=Z o->∀e∈dc o,e<j)
  (f:∀(L:Nat->Bool) (j:Nat) (o:Oper),gq ops L->ji L->ops[j]?=Z o->L j=Y->(∀e∈dc o,L e=O)->∃y,nc C ex ops o (F (V ops) l s0 L ops.size) y/\F (V ops) l s0 (λ i=>X (i=j)||L i) ops.size=bX (F (V ops) l s0 L ops.size) o y) {Q:Exit->Act->aC->Prop}:∀(d:Nat) (c:aL Bool) (Γ:Gh) (w:aC) (a:Act),c.size=ops.size->c.toList.countP (λ b => !b)=d->gq ops (λ i=>c.getD i Y)->ji (λ i=>c.getD i Y)->
  Inv Γ (F (V ops) l s0 (λ i=>c.getD i Y) ops.size).I w->ck Γ (F (V ops) l s0 (λ i=>c.getD i Y) ops.size).tm a->
  (∀Γ' w' m,Ext Γ w Γ' w'->Inv Γ' (F (V ops) l s0 aP ops.size).I w'->ck Γ' (F (V ops) l s0 aP ops.size).tm m->bN (F (V ops) l s0 (λ i=>c.getD i Y) ops.size).I (F (V ops) l s0 aP ops.size).I->m.defers=a.defers->Q .normal m w')->
  wpAny P .any ops Q d c a w:=
 ZB (G:=λ L=>F (V ops) l s0 L ops.size) p n g k (λ _ h=>vu _ h) f
theorem Wx{lo:Nat->Bool}(h:rP lo (V ops)=O):
  (∀(j:Nat) (o:Oper),ops[j]?=Z o->∀e∈dc o,e<j)/\
  (∀(j:Nat) (o:Oper),ops[j]?=Z o->ij lo (V ops)<=j->∀i,i<j->((fQ (V ops) []).getD j 0).testBit i=O\/(i<ij lo (V ops)/\∃q,ops[i]?=Z q/\(qc (V ops) q=O\/ya (V ops) q=O/\A9 (V ops) o=O)))/\
  ∀(j:Nat) (o:Oper),ops[j]?=Z o->bP o=O->o.guard=U/\∃d,o.dst=Z d/\∀(k:Nat) (q:Oper),ops[k]?=Z q->k≠j->q.dst≠Z d:=by
 have a:∀(i:Nat) (o:Oper),ops[i]?=Z o->(o,i)∈ops.toList.zipIdx:=λ i o c=>by
  grind
 simp only[rP,bB,aJ,gg,cR,ew]at h;refine⟨λ j o c=>(h _ (a j o c)).1,λ j o c y i s=>?_,λ j o c t=>?_⟩
 .obtain b|b:=(h _ (a j o c)).2.1
  .rw[QV]at b;omega
  .obtain b|⟨l,f⟩:=b i (jT.2 s)
   .exact .inl b
   .rw[QV]at l;grind
 .obtain b|⟨l,f⟩:=(h _ (a j o c)).2.2
  .rw[t]at b;cases b
  .refine⟨Option.isNone_iff_eq_none.1 l,?_⟩;simp only at f;split at f
   .next d m=>refine⟨d,m,λ k q n p g=>?_⟩;have r:=cn f;let⟨x,w⟩:=qts.1 r;have v:(o,j)∈oT (V ops) d:=kO.2 ⟨a j o c,by simp[sc,m]⟩;have u:(q,k)∈oT (V ops) d:=kO.2 ⟨a k q n,by simp[sc,g]⟩;grind
   .cases f
theorem rE{o:Oper}(a:bP o=O):∃e,o.op=.alloc e:=by
 grind [bP]
structure ot (P:ba) (Γ:Gh) (w0 w:aC) (ops:Array Oper) (L:Nat->Prop) (a:Act) (ad:Nat->Nat):Prop where
 blk:∀k o e d,L k->ops[k]?=Z o->o.op=.alloc e->cD P e=Z d->d.zero.all ci=O->
  w0.heap.size<=ad k/\w.heap[ad k]?=Z (.cells d.zero.toArray e (0,0))/\¬ hY Γ (ad k)/\∀i,Γ.mem (ad k) i=U
 tmp:∀k o e d u,L k->ops[k]?=Z o->o.op=.alloc e->o.dst=Z d->a.tmps[d]?=Z u->u=.pointer (Z ⟨ad k,0,U⟩)
 inj:∀k k' o o',L k->L k'->ops[k]?=Z o->ops[k']?=Z o'->bP o=O->bP o'=O->ad k=ad k'->k=k'
theorem qpm{a:Act}{d:ac Tmp}{u:aj}{t:Tmp}(h:d≠Z t):(a.put d u).tmps[t]?=a.tmps[t]?:=by
 cases d with
 |none=>rfl
 |some d=>
   show(a.tmps.setIfInBounds d u)[t]?=_;grind
theorem ot.step{L:Nat->Prop}{w0 w':aC}{Γ':Gh}{a:Act}{ad:Nat->Nat}{d:ac Tmp}{u:aj}(h:ot P Γ w0 w ops L a ad)(p:Ext Γ w Γ' w')
  (s:∀k o t,L k->ops[k]?=Z o->bP o=O->o.dst=Z t->d≠Z t):ot P Γ' w0 w' ops L (a.put d u) ad where
 blk:=λ k o e d m l j g f=>by
  let⟨y,r,q,x⟩:=h.blk k o e d m l j g f;have n:ad k<w.heap.size:=(eH.1 r).1;refine⟨y,by rw[p.block _ n q];exact r,λ c=>?_,λ i=>?_⟩
  .obtain c|c:=p.own _ c
   .exact q c
   .omega
  .cases b:Γ'.mem (ad k) i with
   |none=>rfl
   |some v=>
     obtain b|b|b:=p.memg _ _ _ b
     .rw[x]at b;cases b
     .exact absurd b q
     .omega
 tmp:=λ k o e t v m l j g f=>by
  rw[qpm (s k o t m l (by simp[bP,j]) g)]at f;exact h.tmp k o e t v m l j g f
 inj:=h.inj
theorem qod{o:Oper}{ρ:bv->aj}{e:aQ}{d:TD}(a:o.op=.alloc e)(b:cD P e=Z d)(w:aC):(execOp ρ o).run P w=.ok (.value (.pointer (Z ⟨w.heap.size,0,U⟩))) (w.alloc (.cells d.zero.toArray e)):=by
 let⟨i,u,z,g,m,f,l,k,j,c,h⟩:=ey b;rw[<-c];simp[execOp,a,Instr.alloc,zeroValue,typeInfo,g,f,newVar,zF]
theorem Inv.free(a:Inv Γ I w){b:Nat}(f:w.heap.size<=b):¬ hY Γ b/\∀i,Γ.mem b i=U:=by
 refine⟨?_,λ i=>?_⟩
 .rintro(⟨i,c,d⟩|⟨r,c,d,g⟩)
  .have:=a.box_lt c;omega
  .have:=a.cur_lt c d;omega
 .cases e:Γ.mem b i with
  |none=>rfl
  |some u=>have:=a.mem_lt e;omega
theorem qs1(hC:db P C)(hx:mg P ex)(hT:mY C ex ⟨bi C.lo (V ops)⟩ l s0)(hk:lk C.lo s0.tm ⟨bi C.lo (V ops)⟩=O)(aE:rP C.lo (V ops)=O)
  (hz:∀k o e,k<ij C.lo (V ops)->ops[k]?=Z o->o.op=.alloc e->∃d,cD P e=Z d/\d.zero.all ci=O) {w0:aC}{Q:Exit->Act->aC->Prop}{n:Nat} (hn:n=ij C.lo (V ops)):
  ∀(g:Nat) (c:aL Bool) (Γ:Gh) (w:aC) (a:Act) (ad:Nat->Nat),c.size=ops.size->c.toList.countP (λ b => !b)=g->(∀i,n<=i->c.getD i Y=Y)->gq ops (λ i=>c.getD i Y)->
  Inv Γ (F (bi C.lo (V ops)) l s0 (λ i=>c.getD i Y) n).I w->ck Γ (F (bi C.lo (V ops)) l s0 (λ i=>c.getD i Y) n).tm a->ot P Γ w0 w ops (λ i=>c.getD i Y=O) a ad->w0.heap.size<=w.heap.size->
  (∀s f Γ' w' a' N,f.size=ops.size->f.toList.countP (λ b => !b)=s->(∀i,n<=i->f.getD i Y=Y)->(∀(i:Nat) (o:Oper),i<n->ops[i]?=Z o->jc (V ops) o=Y->f.getD i Y=O)->gq ops (λ i=>f.getD i Y)->Ext Γ w Γ' w'->Inv Γ' (F (bi C.lo (V ops)) l s0 (λ i=>f.getD i Y) n).I w'->ck Γ' (F (bi C.lo (V ops)) l s0 (λ i=>f.getD i Y) n).tm a'->ot P Γ' w0 w' ops (λ i=>f.getD i Y=O) a' N->
   bN (F (bi C.lo (V ops)) l s0 (λ i=>c.getD i Y) n).I (F (bi C.lo (V ops)) l s0 (λ i=>f.getD i Y) n).I->a'.defers=a.defers->wpAny P .any ops Q s f a' w')->
  wpAny P .any ops Q g c a w:=by
 let⟨c0,c1,bn⟩:=Wx aE
 have a9:∀(j:Nat) (o:Oper),j<n->ops[j]?=Z o->(⟨bi C.lo (V ops)⟩:aL Oper)[j]?=Z (eC o):=λ j o hj D=>by
  have:(bi C.lo (V ops))[j]?=Z (eC o):=by
   rw[Am];grind
  simpa using this
 have a7:(⟨bi C.lo (V ops)⟩:aL Oper).size=n:=by show(bi C.lo (V ops)).length=n;rw[Hk,hn]
 have dr:n<=ops.size:=by rw[hn];simpa using AR C.lo (V ops)
 intro g
 induction g with
 |zero=>
   intro c Γ w a ad B M S hd hi ht hs ar hq;have E:=UZ M;exact hq 0 c Γ w a ad B M S (λ i o m _ _=>E i (by omega)) hd (.refl _ _) hi ht hs (.refl _) rfl
 |succ g ih=>
   intro c Γ w a ad B M S hd hi ht hs ar hq;by_cases E:∀(i:Nat) (o:Oper),i<n->ops[i]?=Z o->jc (V ops) o=Y->c.getD i Y=O
   .exact hq (g+1) c Γ w a ad B M S E hd (.refl _ _) hi ht hs (.refl _) rfl
   have c8:gq ⟨bi C.lo (V ops)⟩ (λ i=>c.getD i Y):=by
    intro i o D hL e R;obtain⟨m,q,h1,rfl⟩:=Nr (lo:=C.lo) (l:=V ops) (j:=i) (o:=o) (by simpa using D);rw[LJ]at R;exact hd i q (by simpa using h1) hL e R
   have b2:∃(i0:Nat) (o0:Oper),i0<n/\ops[i0]?=Z o0/\jc (V ops) o0=Y/\c.getD i0 Y=Y:=by
    apply QU;intro bb;refine E λ i o m ct bx=>?_;cases hc:c.getD i Y with
    |true=>rfl
    |false=>exact(bb ⟨i,o,m,ct,bx,hc⟩).elim
   refine⟨λ bl=>?_,λ j hj=>?_⟩
   .exfalso;let⟨i0,o0,W,_,_,h1⟩:=b2
    have b8:∀i,i<n->c.getD i Y=Y->False:=by
     intro i
     induction i using Nat.strongRecOn with
     |_ i b9=>
       intro m hf;let⟨o,D⟩:=gJ (ops:=ops) (k:=i)
       have hr:i∈Region.ready .any ops c:=by
        refine mem_ready.2 ⟨?_,o,D,λ e R hb=>?_⟩
        .rw[kS,gE (by omega)]at hf |-
         simpa using hf
        .have c6:e.on∈dc o:=bE.2 ⟨e,kO.2 ⟨by simpa using R,hb⟩,rfl⟩;have bm:=c0 i o D e.on c6;cases hc:c.getD e.on Y with
         |true=>rfl
         |false=>exact(b9 e.on bm (by omega) hc).elim
       rw[bl]at hr;cases hr
    exact b8 i0 W h1
   .let⟨h1,o,D,b5⟩:=mem_ready.1 hj;have a1:j<ops.size:=(eH.1 D).1
    have hL:c.getD j Y=Y:=by
     grind
    have hp:∀e∈dc o,c.getD e Y=O:=λ e R=>by
     obtain⟨ed,d2,rfl⟩:=bE.1 R;grind
    have c2:j<n:=by
     apply QU;intro bb;let⟨i0,o0,W,cs,c5,h2⟩:=b2;obtain hb|⟨_,q,A,bx⟩:=c1 j o D (by omega) i0 (by omega)
     .have:=pa hd j o D hp hb;rw[h2]at this;cases this
     .rw[cs]at A;cases A;unfold jc at c5;grind
    have co:∀e∈dc (eC o),c.getD e Y=O:=by rw[LJ];exact hp
    let⟨y,hy,b3⟩:=Hx hT hk c8 (a9 j o c2 D) hL co;rw[a7]at hy b3
    have L:(λ i=>(c.setIfInBounds j O).getD i Y)=λ i=>X (i=j)||c.getD i Y:=by
     funext i;by_cases a3:i=j
     .subst a3;rw[kS,qtr (by rw[B];exact a1)];simp
     .rw[getD_set_ne Y (mH a3)];simp[a3]
    have a8:(c.setIfInBounds j O).size=ops.size:=by rw[qcO,B]
    have b1:(c.setIfInBounds j O).toList.countP (λ b => !b)=g:=by
     have c3:j<J (V c):=by simp[B,a1]
     rw[Jr,List.countP_set (h:=c3),M]
     have:c.toList[j]=Y:=by
      rw[kS,gE (by rw[B];exact a1)]at hL;simpa using hL
     rw[this];simp
    have bp:∀i,n<=i->(c.setIfInBounds j O).getD i Y=Y:=λ i m=>by
     rw[getD_set_ne Y (by omega)];exact S i m
    have c9:gq ops (λ i=>(c.setIfInBounds j O).getD i Y):=by
     rw[L];intro i q A m e R;simp only[gg,cR]at m |-
     obtain rfl|m:=m
     .grind
     .exact .inr (hd i q A m e R)
    have dK:∀k,(c.setIfInBounds j O).getD k Y=O->k=j\/c.getD k Y=O:=λ k a0=>by
     have:(λ i=>(c.setIfInBounds j O).getD i Y) k=O:=a0;rw[L]at this;simpa using this
    have a4:F (bi C.lo (V ops)) l s0 (λ i=>(c.setIfInBounds j O).getD i Y) n=bX (F (bi C.lo (V ops)) l s0 (λ i=>c.getD i Y) n) (eC o) y:=by rw[L];exact b3
    unfold wpOp;rw[D];simp only
    have next:∀Γ' w' u N,Ext Γ w Γ' w'->Inv Γ' (turn (F (bi C.lo (V ops)) l s0 (λ i=>c.getD i Y) n).I y.2) w'->Rep Γ' y.1 u->bN (F (bi C.lo (V ops)) l s0 (λ i=>c.getD i Y) n).I (turn (F (bi C.lo (V ops)) l s0 (λ i=>c.getD i Y) n).I y.2)->
      ot P Γ' w0 w' ops (λ i=>(c.setIfInBounds j O).getD i Y=O) (a.put o.dst u) N->wpAny P .any ops Q g (c.setIfInBounds j O) (a.put o.dst u) w':=by
     intro Γ' w' u N e1 e2 e3 e4 e5;refine ih (c.setIfInBounds j O) Γ' w' (a.put o.dst u) N a8 b1 bp c9 ?_ ?_ e5 (bT ar e1.size) ?_
     .rw[a4];exact e2
     .rw[a4];show RepL Γ' (ia _ (eC o).dst y.1) _;rw[Mk];exact ck.put (JE e1.le ht) o.dst e3
     .intro s f b6 w2 a2 dn g0 dm b4 q1 q2 K r z dk G I;rw[a4]at G;exact hq s f b6 w2 a2 dn g0 dm b4 q1 q2 (e1.trans K) r z dk (e4.trans G) (by rw[I];cases hd:o.dst<;>rfl)
    cases T:bP o with
    |false=>
      have c7:eC o=o:=by unfold eC;rw[T]
      have a5:∀Γ' w' u,Ext Γ w Γ' w'->ot P Γ' w0 w' ops (λ i=>(c.setIfInBounds j O).getD i Y=O) (a.put o.dst u) ad:=λ Γ' w' u R=>by
       have W:=hs.step (d:=o.dst) (u:=u) R λ k q t a0 A ax cl=>by
        let⟨_,d,d4,d3⟩:=bn k q A ax;grind
       have conv:∀k q,(c.setIfInBounds j O).getD k Y=O->ops[k]?=Z q->bP q=O->c.getD k Y=O:=λ k q h2 A ax=>by
        grind
       exact⟨λ k q e d K r z=>W.blk k q e d (conv k q K r (by simp[bP,z])) r z,λ k q e d v K r z=>W.tmp k q e d v (conv k q K r (by simp[bP,z])) r z,λ k k' q q' K r z G I g6=>W.inj k k' q q' (conv k q K z I) (conv k' q' r G g6) z G I g6⟩
      obtain⟨hw,H⟩|⟨hw,rfl⟩:=hy
      .rw[af (vf ht (G7 hw))];left;rw[c7]at H;apply OC hC hx hi ht H _ _;grind
      .rw[ae (by rw[vf ht (G7 hw)];exact we)];exact next Γ w undef ad (.refl _ _) hi (.tup [] [] rfl λ i x u h=>by simp at h) (.refl _) (a5 Γ w undef (.refl _ _))
    |true=>
      let⟨e,az⟩:=rE T;let⟨c4,d,ds,d0⟩:=bn j o D T
      have ca:y=(.dead,U):=by
       obtain⟨hw,H⟩|⟨hw,rfl⟩:=hy
       .have:(eC o).op=.move (.global 0):=by unfold eC;rw[T]
        rw[this]at H;simp only[opA,aD,aev,dV]at H;exact H.symm
       .have hw:=G7 hw;grind [cV]
      subst ca;have cb:cV ops (F (bi C.lo (V ops)) l s0 (λ i=>c.getD i Y) n).tm o=Z O:=by unfold cV;rw[c4]
      rw[af (vf ht cb)];left;let⟨td,a6,dT⟩:=hz j o e (by omega) D az;have hb:Below w.heap.size w (w.alloc (.cells td.zero.toArray e)):=(Below.refl _ _).alloc (au _) _;unfold Oper.wp;rw[qod az a6];apply next Γ _ (.pointer (Z ⟨w.heap.size,0,U⟩)) (λ k=>if k=j then w.heap.size else ad k) (xk hb (au _)) (hi.later hb) (.dead _) (.refl _)
      have W:=hs.step (d:=o.dst) (u:=.pointer (Z ⟨w.heap.size,0,U⟩)) (xk (Γ:=Γ) hb (au _)) λ k q t a0 A ax cl=>by
       grind
      have bs:=hi.free (au w.heap.size);have conv:∀k,(c.setIfInBounds j O).getD k Y=O->k≠j->c.getD k Y=O:=λ k h2 cP=>(dK k h2).resolve_left cP
      have bm:∀k q,c.getD k Y=O->ops[k]?=Z q->bP q=O->ad k<w.heap.size:=λ k q h2 h3 h4=>by
       let⟨e',b0⟩:=rE h4
       have d1:k<n:=by
        grind
       let⟨b7,cf,cd⟩:=hz k q e' (by omega) h3 b0;exact(eH.1 (hs.blk k q e' b7 h2 h3 b0 cf cd).2.1).1
      refine⟨λ k q e' d' K r z G I=>?_,λ k q e' d' v K r z G I=>?_,λ k k' q q' K r z G I g6 g7=>?_⟩
      .by_cases p:k=j
       .subst p;rw[D]at r;cases r;rw[az]at z;cases z;rw[a6]at G;cases G;simp only[yN];exact⟨ar,heap_alloc_new w _,bs.1,bs.2⟩
       .simp only[ae p];exact W.blk k q e' d' (conv k K p) r z G I
      .by_cases p:k=j
       .subst p;rw[D]at r;cases r;simp only[yN];rw[G]at I;have I:(a.tmps.setIfInBounds d' (.pointer (Z ⟨w.heap.size,0,U⟩)))[d']?=Z v:=I;grind
       .simp only[ae p];exact W.tmp k q e' d' v (conv k K p) r z G I
      .by_cases p:k=j
       .grind
       .by_cases an:k'=j
        .grind
        .simp only[ae p,ae an]at g7;exact hs.inj k k' q q' (conv k K p) (conv k' r an) z G I g6 g7
end
end
section
open RowKit
section
variable {P:ba}{C:Cfg}{Γ:Gh}{I:St}{w:aC}{ops:aL Oper}{ex:dJ}{l:aa (AV×ac St)}{s0:S}
theorem qoe(h:Inv Γ I w){cs:aa AV}{vs:aa aj}{b:Nat}{e:aQ}(E:w.heap[b]?=Z (.cells vs.toArray e (0,0)))(m:¬ hY Γ b)(x:∀i,Γ.mem b i=U)(B:RepL Γ cs vs)(F:∀u∈vs,u.oneCell'=O):
  ∃Γ',Le Γ Γ'/\(∀c,hY Γ' c->hY Γ c\/c=b)/\Γ'.mem=Γ.mem/\Inv Γ' {I with bx:=I.bx++[cs]} w/\Rep Γ' (.ptr (J I.bx) 0) (.pointer (Z ⟨b,0,U⟩)):=by
 let Γ':Gh:={Γ with nb:=Γ.nb+1,β:=λ i=>if i=Γ.nb then b else Γ.β i}
 have g:∀i,i<Γ.nb->Γ'.β i=Γ.β i:=λ i f=>ifN;have a:Γ'.β Γ.nb=b:=af rfl;have k:Le Γ Γ':=⟨λ _ _ _ h=>h,eG _,g,au _,λ _ _=>rfl,λ _ _=>au _,λ _ _ _=>⟨rfl,rfl,rfl⟩⟩
 refine⟨Γ',k,?_,rfl,⟨?_,h.nr,h.mem,?_,?_,?_,?_,h.apart⟩,?_⟩
 .rintro c (⟨i,f,rfl⟩|q)
  .have f:i<Γ.nb+1:=f;by_cases d:i=Γ.nb
   .right;rw[d,a]
   .left;left;exact⟨i,by omega,(g i (by omega)).symm⟩
  .exact .inl (.inr q)
 .show Γ.nb+1=J (I.bx++[cs]);simp[h.nb]
 .intro i cs' f;rw[Jo]at f;split at f
  .next s=>exact(h.box i cs' f).lift (by rw[h.nb];exact s) k λ o q=>q
  .rename_i s
   have z:i-J I.bx=0:=by
    grind
   rw[z]at f;simp at f;subst f;have y:i=Γ.nb:=by rw[h.nb];omega
   refine .of ⟨vs.toArray,e,?_,by simpa using B.mono k,by simpa using F⟩;rw[y,a];exact E
 .intro i j f D l;have v:i<Γ.nb+1:=f;have C:j<Γ.nb+1:=D;by_cases d:i=Γ.nb<;>by_cases t:j=Γ.nb
  .rw[d,t]
  .rw[d,a,g j (by omega)]at l;exact(m (.inl ⟨j,by omega,l.symm⟩)).elim
  .rw[t,a,g i (by omega)]at l;exact(m (.inl ⟨i,by omega,l⟩)).elim
  .rw[g i (by omega),g j (by omega)]at l;exact h.inj i j (by omega) (by omega) l
 .intro i f o;have v:i<Γ.nb+1:=f;by_cases d:i=Γ.nb
  .rw[d,a];exact x o
  .rw[g i (by omega)];exact h.boxmem i (by omega) o
 .intro r R p;have n:r<Γ.nr:=by rw[h.nr];exact getElem?_lt p
  refine(h.row r R p).lift n k rfl (λ _ G q=>q) (λ _ _ x=>x) λ A i f H l=>?_;have v:i<Γ.nb+1:=f;have d:i=Γ.nb:=by omega
  rw[d,a]at l;exact m (.inr ⟨r,n,A,l.symm⟩)
 .rw[<-a,h.nb];exact .ptr _ _ (by show J I.bx<Γ.nb+1;rw[h.nb];omega)
theorem LR{lo:Nat->Bool}{l:aa Oper}{o:Oper}(h:jc l o=O):cx lo o.op=Y:=by
 cases a:cx lo o.op with
 |false=>rfl
 |true=>
   exfalso
   have c:gZ o.op=O\/sG o.op=O:=by
    unfold cx at a;split at a<;>first|(cases a;done)|(rename_i e;rw[e];first|exact .inl rfl|exact .inr rfl)
   unfold jc qc ya at h;simp only[gg,aJ,ew]at h;obtain⟨⟨b,d⟩,_⟩|⟨b,_⟩:=h
   .grind
   .unfold vV at b;split at b
    .next e=>rw[e]at a;cases a
    .next e=>rw[e]at a;cases a
    .cases b
theorem ZK{l:aa Oper}{o:Oper}(h:jc l o=O):bP o=Y/\∀q∈l,bP q=O->∀d,q.dst=Z d->d ∉ looks ⟨l⟩ o:=by
 unfold jc at h;rw[gg]at h;obtain h|h:=h
 .grind [qc]
 .unfold ya at h;rw[aJ]at h
  have a:bP o=Y:=by
   have:=h.1;unfold vV at this;grind [bP]
  refine⟨a,λ q c g d f e=>?_⟩;have b:=h.2;unfold Ql at b;grind
def idA(nb:Nat)(ops:aL Oper)(k:Nat):Nat:=nb+(ops.toList.take k).countP bP
theorem Hz{nb k:Nat}{o:Oper}(a:ops[k]?=Z o):idA nb ops (k+1)=idA nb ops k+(if bP o then 1 else 0):=by
 grind [idA,Array.getElem?_eq_some_iff,List.take_add_one,List.countP_singleton]
def Ox(ops:aL Oper)(P:Nat->Prop)(nb:Nat)(tm tm':aa AV):Prop:=
 J tm'=J tm/\∀t,(∀(k:Nat) (o:Oper),P k->ops[k]?=Z o->bP o=O->o.dst=Z t->tm'.getD t .dead=if t<J tm then .ptr (idA nb ops k) 0 else .dead)/\
  ((∀(k:Nat) (o:Oper),P k->ops[k]?=Z o->bP o=O->o.dst≠Z t)->tm'.getD t .dead=tm.getD t .dead)
theorem xT(tm:aa AV)(d t:Nat)(x:AV):(tm.set d x).getD t .dead=if d=t then(if t<J tm then x else .dead)else tm.getD t .dead:=by
 grind
theorem LP{n nb:Nat}(f:∀(j:Nat) (o:Oper),ops[j]?=Z o->bP o=O->o.guard=U/\∃d,o.dst=Z d/\∀(k:Nat) (q:Oper),ops[k]?=Z q->k≠j->q.dst≠Z d):∀(a:aa Oper) (i:Nat) (s g:S),(∀(j:Nat) (o:Oper),a[j]?=Z o->i+j<n/\ops[i+j]?=Z o)->i+J a=n->cU C ex ops Y (a.filter bP) s=Z g->J s.I.bx=idA nb ops i->
  Ox ops (λ k=>i<=k/\k<n) nb s.tm g.tm
 |[],i,s,g,_,B,h,_=>by
   simp only[qcW,cU,dV]at h;subst h;simp at B;exact⟨rfl,λ t=>⟨λ k o u=>by omega,λ _=>rfl⟩⟩
 |o::a,i,s,g,F,B,h,H=>by
   obtain⟨P,c⟩:=F 0 o rfl;have c:ops[i]?=Z o:=by simpa using c
   have l:∀(j:Nat) (q:Oper),a[j]?=Z q->i+1+j<n/\ops[i+1+j]?=Z q:=λ j q w=>by
    have:=F (j+1) q w;grind
   have p:i+1+J a=n:=by rw[<-B];simp;omega
   cases b:bP o with
   |false=>
     rw[QW (by rw[b];exact we)]at h;obtain⟨z,y⟩:=LP f a (i+1) s g l p h (by rw[Hz c,b];exact H);refine⟨z,λ t=>⟨λ k q u w I x=>(y t).1 k q ⟨?_,u.2⟩ w I x,λ m=>(y t).2 λ k q u=>m k q ⟨by omega,u.2⟩⟩⟩;grind
   |true=>
     rw[QX b]at h;obtain⟨e,A⟩:=rE b;obtain⟨D,d,v,M⟩:=f i o c b;simp only[cU]at h;have L:cV ops s.tm o=Z O:=by unfold cV;rw[D]
     rw[L]at h;simp only[A,opA,aD]at h;cases x:C.ty e with
     |none=>rw[x]at h;cases h
     |some K=>
       rw[x]at h;simp only at h;cases E:K.zero.all ci with
       |false=>rw[E]at h;cases h
       |true=>
         rw[E]at h;simp only[kP]at h;obtain⟨z,y⟩:=LP f a (i+1) _ g l p h (by show(s.I.bx++[_]).length=_;rw[Hz c,b,aO,H];rfl);rw[v]at z y;have r:J (ia s.tm (Z d) (.ptr (J s.I.bx) 0))=J s.tm:=fD ..;have G:∀t,(ia s.tm (Z d) (.ptr (J s.I.bx) 0)).getD t .dead=if d=t then(if t<J s.tm then .ptr (J s.I.bx) 0 else .dead)else s.tm.getD t .dead:=λ t=>xT s.tm d t _;refine⟨z.trans r,λ t=>⟨λ k q u w I N=>?_,λ m=>?_⟩⟩
         .grind
         .grind
theorem Mb(hC:db P C){n nb:Nat}{y:Gh}{w0:aC}{a:Act}{ad:Nat->Nat}:∀(f:aa Oper) (i:Nat) (s z:S) (I:St) (Γ:Gh),(∀(j:Nat) (o:Oper),f[j]?=Z o->i+j<n/\ops[i+j]?=Z o)->i+J f=n->cU C ex ops Y (f.filter bP) s=Z z->
  (∀(j:Nat) (o:Oper),ops[j]?=Z o->bP o=O->o.guard=U)->s.I=I->J s.I.bx=idA nb ops i->Inv Γ I w->ot P Γ w0 w ops (λ k=>i<=k/\k<n) a ad->Ext y w0 Γ w->
  ∃Γ',Le Γ Γ'/\Ext y w0 Γ' w/\Inv Γ' z.I w/\bN I z.I/\∀(k:Nat) (o:Oper),i<=k->k<n->ops[k]?=Z o->bP o=O->Rep Γ' (.ptr (idA nb ops k) 0) (.pointer (Z ⟨ad k,0,U⟩))
 |[],i,s,z,I,Γ,_,R,h,_,m,_,K,B,p=>by
   simp only[qcW,cU,dV]at h;subst h;simp at R;exact⟨Γ,.refl Γ,p,by rw[m];exact K,by rw[m];exact .refl _,λ k o r A=>by omega⟩
 |o::f,i,s,z,I,Γ,hr,R,h,hg,m,hb,K,B,p=>by
   obtain⟨ar,g⟩:=hr 0 o rfl;have g:ops[i]?=Z o:=by simpa using g
   have D:∀(j:Nat) (q:Oper),f[j]?=Z q->i+1+j<n/\ops[i+1+j]?=Z q:=λ j q Q=>by
    have:=hr (j+1) q Q;grind
   have G:i+1+J f=n:=by rw[<-R];simp;omega
   have t:ot P Γ w0 w ops (λ k=>i+1<=k/\k<n) a ad:=⟨λ k o e d r=>B.blk k o e d ⟨by omega,r.2⟩,λ k o e d u r=>B.tmp k o e d u ⟨by omega,r.2⟩,λ k k' o o' r A=>B.inj k k' o o' ⟨by omega,r.2⟩ ⟨by omega,A.2⟩⟩
   cases l:bP o with
   |false=>
     rw[QW (by rw[l];exact we)]at h;obtain⟨Γ',g0,g1,g2,g3,g4⟩:=Mb hC f (i+1) s z I Γ D G h hg m (by rw[Hz g,l];exact hb) K t p;grind
   |true=>
     rw[QX l]at h;obtain⟨e,E⟩:=rE l;simp only[cU]at h;have hw:cV ops s.tm o=Z O:=by unfold cV;rw[hg i o g l]
     rw[hw]at h;simp only[E,opA,aD]at h;cases hd:C.ty e with
     |none=>rw[hd]at h;cases h
     |some d=>
       rw[hd]at h;simp only at h;cases H:d.zero.all ci with
       |false=>rw[H]at h;cases h
       |true=>
         rw[H]at h;simp only[kP]at h;have M:=hC.ty e d hd;obtain⟨g1,g2,g3,g4⟩:=B.blk i o e d ⟨au _,by omega⟩ g E M H;obtain⟨b1,b2⟩:=uP (Γ:=Γ) H;obtain⟨x,a1,a2,a3,a4,a5⟩:=qoe K g2 g3 g4 b1 b2
         have an:Ext y w0 x w:=⟨p.le.trans a1,p.os,p.tape,p.output,p.size,p.block,λ c hc=>by
          rcases a2 c hc with hc|rfl
          .exact p.own c hc
          .grind,λ b o u hm=>by rw[a3]at hm;exact p.memg b o u hm,p.drawn⟩
         have N:ot P x w0 w ops (λ k=>i+1<=k/\k<n) a ad:=⟨λ k q e' d' r A h3 h4 h5=>by
          obtain⟨q1,q2,q3,q4⟩:=t.blk k q e' d' r A h3 h4 h5;refine⟨q1,q2,λ F=>?_,λ j=>by rw[a3];exact q4 j⟩;rcases a2 _ F with F|F
          .exact q3 F
          .have:=B.inj k i q o ⟨by omega,r.2⟩ ⟨au _,by omega⟩ A g (by simp[bP,h3]) l F;omega,t.tmp,t.inj⟩
         obtain⟨L,c0,c1,c2,c3,c4⟩:=Mb hC f (i+1) _ z {I with bx:=I.bx++[d.zero.map .v]} x D G h hg (by simp only;rw[m]) (by show(s.I.bx++[_]).length=_;rw[Hz g,l,aO,hb];rfl) a4 N an;have W:bN I {I with bx:=I.bx++[d.zero.map .v]}:=⟨by simp,au _,λ j hj _=>by simp only[dy hj],λ _ _ _=>rfl,λ _ h=>h,λ _ h=>h⟩
         refine⟨L,a1.trans c0,c1,c2,W.trans c3,λ k q r A Q ha=>?_⟩;by_cases T:k=i
         .subst T;rw[<-hb,m];exact a5.mono c0
         .exact c4 k q (by omega) A Q ha
theorem MH{l:S}:∀(a:aa Oper) (s:S),cU C ex ops Y (a.filter bP) s=Z l->(∀o∈a,bP o=O->o.guard=U)->∀o∈a,∀e,o.op=.alloc e->∃d,C.ty e=Z d/\d.zero.all ci=O
 |[],_,_,_,o,b,_,_=>by cases b
 |q::a,s,h,i,o,b,e,f=>by
   cases c:bP q with
   |false=>
     rw[QW (by rw[c];exact we)]at h;obtain rfl|b:=be.1 b
     .simp[bP,f]at c
     .exact MH a s h (λ o b=>i o (bk _ b)) o b e f
   |true=>
     rw[QX c]at h;let⟨n,g⟩:=rE c;simp only[cU]at h;have m:cV ops s.tm q=Z O:=by unfold cV;rw[i q (bj ..) c]
     rw[m]at h;simp only[g,opA,aD]at h;cases k:C.ty n with
     |none=>rw[k]at h;cases h
     |some d=>
       rw[k]at h;simp only at h;cases j:d.zero.all ci with
       |false=>rw[j]at h;cases h
       |true=>
         rw[j]at h;simp only[kP]at h;obtain rfl|b:=be.1 b
         .grind
         .exact MH a _ h (λ o b=>i o (bk _ b)) o b e f
theorem qav{b:aa (AV×ac St)}{a:S}{L:Nat->Bool}{n:Nat}(h:∀i,n<=i->L i=Y):∀m,F (V ops) b a L (n+m)=F (V ops) b a L n
 |0=>rfl
 |m+1=>by
   show F (V ops) b a L (n+m+1)=_;simp only[F];rw[h (n+m) (by omega)];split
   .next c=>cases c
   .exact qav h m
def sC(ops:aL Oper)(n nb:Nat)(lA lS:aa (AV×ac St)):aa (AV×ac St):=
 (List.range n).map (λ k=>match ops[k]? with
  |Z o=>match bP o with
    |O=>(AV.ptr (idA nb ops k) 0,U)
    |Y=>((lA.getD k (.dead,U)).1,U)
  |U=>(.dead,U))++lS
theorem Hs{n nb k:Nat}{lA lS:aa (AV×ac St)}{o:Oper}(a:k<n)(b:ops[k]?=Z o):(sC ops n nb lA lS)[k]?=Z (match bP o with
  |O=>(AV.ptr (idA nb ops k) 0,U)
  |Y=>((lA.getD k (.dead,U)).1,U)):=by
 unfold sC;rw[dy (by simpa using a),di,qcX a];simp only[nF,b]
theorem Hd{n nb k:Nat}{lA lS:aa (AV×ac St)}:(sC ops n nb lA lS)[n+k]?=lS[k]?:=by
 grind [sC]
theorem Y4{n nb:Nat}{lA lS:aa (AV×ac St)}{s0 b:S}(g:b.tm=s0.tm)(M:n=ij C.lo (V ops))(K:vL C ⟨bi C.lo (V ops)⟩ lA)(h:∀(j:Nat) (o:Oper),ops[j]?=Z o->bP o=O->o.guard=U/\∃d,o.dst=Z d/\∀(k:Nat) (q:Oper),ops[k]?=Z q->k≠j->q.dst≠Z d)
  (L:Nat->Bool):∀k,k<=n->Ox ops (λ i=>i<k/\L i=O) nb (F (bi C.lo (V ops)) lA s0 L k).tm (F (V ops) (sC ops n nb lA lS) b L k).tm
 |0,_=>⟨by show J b.tm=J s0.tm;rw[g],λ t=>⟨λ k o N=>by omega,λ _=>by show b.tm.getD t _=s0.tm.getD t _;rw[g]⟩⟩
 |k+1,N=>by
   obtain⟨B,A⟩:=Y4 (lS:=lS) g M K h L k (by omega);have I:ij C.lo (V ops)<=ops.size:=by simpa using AR C.lo (V ops)
   obtain⟨o,p⟩:=gJ (ops:=ops) (k:=k) (by omega);have v:ops.toList[k]?=Z o:=by simpa using p
   have u:(bi C.lo (V ops))[k]?=Z (eC o):=by rw[Am (by omega),v];rfl
   obtain⟨y,H,_⟩:=K k (eC o) (by simpa using u);have P:=Hs (n:=n) (nb:=nb) (lA:=lA) (lS:=lS) (k:=k) (by omega) p;simp only[F,u,H,v,P];cases G:L k with
   |false=>
     refine⟨B,λ t=>⟨λ i q e=>(A t).1 i q ⟨?_,e.2⟩,λ a=>(A t).2 λ i q e=>a i q ⟨by omega,e.2⟩⟩⟩;grind
   |true=>
     simp only[bX,Mk];cases l:bP o with
     |true=>
       obtain⟨_,d,z,s⟩:=h k o p l;simp only[z,ia];refine⟨by rw[fD,fD,B],λ t=>⟨λ i q e m r c=>?_,λ a=>?_⟩⟩
       .rw[xT,fD];grind
       .have f:d≠t:=λ w=>a k o ⟨by omega,G⟩ p l (by rw[z,w]);rw[xT,ae f,xT,ae f];grind
     |false=>
       have D:(lA.getD k (.dead,U)).1=y.1:=by rw[dO,H];rfl
       rw[D];cases z:o.dst with
       |none=>
         refine⟨B,λ t=>⟨λ i q e m r c=>(A t).1 i q ⟨?_,e.2⟩ m r c,λ a=>(A t).2 λ i q e=>a i q ⟨by omega,e.2⟩⟩⟩;grind
       |some d=>
         simp only[ia];refine⟨by rw[fD,fD,B],λ t=>⟨λ i q e m r c=>?_,λ a=>?_⟩⟩
         .have E:i≠k:=λ w=>by subst w;rw[p]at m;cases m;rw[l]at r;cases r
          obtain⟨_,Q,x,s⟩:=h i q m r;rw[c]at x;cases x;have f:d≠t:=λ w=>s k o p (mH E) (by rw[z,w]);rw[xT,ae f,fD];grind
         .grind [xT]
theorem rK{n:Nat}{b:aa (AV×ac St)}{a:S}{L:Nat->Bool}(h:∀k y,k<n->b[k]?=Z y->y.2=U):∀k,k<=n->(F (V ops) b a L k).I=a.I
 |0,_=>rfl
 |k+1,d=>by
   simp only[F];split
   .next o y _ c _=>rw[putS_σ _ _ _ (h k y (by omega) c)];exact rK h k (by omega)
   .exact rK h k (by omega)
theorem recB_σ{n nb:Nat}{lA lS:aa (AV×ac St)}(c:n<=ops.size):∀k y,k<n->(sC ops n nb lA lS)[k]?=Z y->y.2=U:=by
 intro k y d a;let⟨o,b⟩:=gJ (ops:=ops) (k:=k);grind [Hs]
theorem qpq{lo:Nat->Bool}{o:Oper}(h:cx lo (eC o).op=O):eC o=o:=by
 unfold eC at h |-
 split at h
 .cases h
 .rfl
theorem qax{n:Nat}{lA:aa (AV×ac St)}(s:n=ij C.lo (V ops))(l:vL C ⟨bi C.lo (V ops)⟩ lA){L:Nat->Bool}(v:∀(i:Nat) (q:Oper),i<n->ops[i]?=Z q->jc (V ops) q=Y->L i=O):∀k,k<=n->(F (bi C.lo (V ops)) lA s0 L k).I=(F (bi C.lo (V ops)) lA s0 aP k).I
 |0,_=>rfl
 |k+1,w=>by
   have h:ij C.lo (V ops)<=ops.size:=by simpa using AR C.lo (V ops)
   let⟨o,p⟩:=gJ (ops:=ops) (k:=k);have m:ops.toList[k]?=Z o:=by simpa using p
   have c:(⟨bi C.lo (V ops)⟩:aL Oper)[k]?=Z (eC o):=by
    grind [Am]
   let⟨y,_,t,j⟩:=iH (ops:=⟨bi C.lo (V ops)⟩) (s0:=s0) l c;have g:=qax s l v k (by omega);have f:=j L;have e:=j aP;show(F (V (⟨bi C.lo (V ops)⟩:aL Oper)) lA s0 L (k+1)).I=(F (V (⟨bi C.lo (V ops)⟩:aL Oper)) lA s0 aP (k+1)).I;rw[f,e,af (show aP k=O from rfl)];cases b:y.2 with
   |none=>
     rw[putS_σ _ _ _ b];split
     .rw[putS_σ _ _ _ b];exact g
     .exact g
   |some σ'=>
     have a:=t (by rw[b];rfl);have d:=qpq a
     have r:jc (V ops) o=Y:=by
      cases u:jc (V ops) o with
      |false=>rfl
      |true=>rw[d,LR u]at a;cases a
     grind [bX,turn]
def ql(n:Nat)(I σ':St):Prop:=σ'.rw=I.rw/\∀b,b<n->σ'.bx[b]?=I.bx[b]?
theorem qql{tm:aa AV}{I σ':St}{op:Op}{x:AV}(f:vV op=O)(g:ql (J I.bx) I σ')(h:opA C ex tm I op=Z (x,U)):opA C ex tm σ' op=Z (x,U):=by
 unfold vV at f;split at f<;>try cases f
 .rename_i t a;simp only[opA,aD]at h |-
  split at h<;>try cases h
  rename_i d l
  have k:∀y,dF d I (aev tm a)=Z y->dF d σ' (aev tm a)=Z y:=λ y c=>by
   cases e:aev tm a with
   |ptr b o=>
     rw[e]at c;simp only[dF]at c |-
     cases j:I.bx[b]? with
     |none=>rw[j]at c;cases c
     |some cs=>rw[g.2 b (getElem?_lt j)];exact c
   |rpt r i o m=>
     rw[e]at c;simp only[dF,g.1]at c |-;exact c
   |_=>rw[e]at c;exact c
  grind
 .next t a i=>have h:aD C tm I (.indexAddr t a i)=Z (x,U):=h;show aD C tm σ' (.indexAddr t a i)=Z (x,U);rw[Zs g.1];exact h
theorem zy{n:Nat}:∀(a:aa Oper) (s c:S),cU C ex ops Y (a.filter bP) s=Z c->n<=J s.I.bx->ql n s.I c.I
 |[],s,c,h,_=>by
   simp only[qcW,cU,dV]at h;subst h;exact⟨rfl,λ _ _=>rfl⟩
 |o::a,s,c,h,i=>by
   cases d:bP o with
   |false=>
     rw[QW (by rw[d];exact we)]at h;exact zy a s c h i
   |true=>
     rw[QX d]at h;let⟨e,f⟩:=rE d;simp only[cU]at h;split at h
     .simp only[f,opA,aD]at h;cases j:C.ty e with
      |none=>rw[j]at h;cases h
      |some k=>
        rw[j]at h;simp only at h;cases g:k.zero.all ci with
        |false=>rw[g]at h;cases h
        |true=>
          rw[g]at h;simp only[kP]at h;let⟨p,m⟩:=zy (n:=n) a _ c h (by show n<=J (s.I.bx++[_]);rw[aO];omega);exact⟨p,λ b l=>by rw[m b l];show(s.I.bx++[_])[b]?=_;rw[dy (by omega)]⟩
     .exact zy (n:=n) a ⟨ia s.tm o.dst xR,s.I⟩ c h i
     .cases h
theorem qnE(hC:db P C)(hx:mg P ex){id:Nat}{s N s2 s':S}(b4:rP C.lo (V ops)=O)(ef:nZ C.lo ops=O)(hk:mi C.lo s.tm ⟨bi C.lo (V ops)⟩ O=O)(h:cU C ex ⟨bi C.lo (V ops)⟩ O (bi C.lo (V ops)) s=Z N)(hm:cU C ex ops Y (alL C.lo (V ops)) N=Z s2)(h':cU C ex ops O (sL C.lo (V ops)) s2=Z s'){a:Act}{Q:Exit->Act->aC->Prop}(hi:Inv Γ s.I w)(ht:ck Γ s.tm a)
  (B:∀Γ' w' a',Ext Γ w Γ' w'->Inv Γ' s'.I w'->ck Γ' s'.tm a'->bN s.I s'.I->a'.defers=a.defers->Q .normal a' w'):(Code.region id ops O).wp P Q a w:=by
 let⟨lA,h1,h2,h3,h4⟩:=Af (bi C.lo (V ops)) s N h;let⟨lS,e1,e2,e3,_⟩:=Af (sL C.lo (V ops)) s2 s' h';have hT:mY C ex ⟨bi C.lo (V ops)⟩ lA s:=L5 h3 h4;rw[Hk]at h2;have hk:lk C.lo s.tm ⟨bi C.lo (V ops)⟩=O:=hk;let⟨fu,b0,b5⟩:=Wx b4;generalize hn:ij C.lo (V ops)=n at h2 b0;have ev:n<=ops.size:=by rw[<-hn];simpa using AR C.lo (V ops)
 have hg:∀(j:Nat) (o:Oper),ops[j]?=Z o->bP o=O->o.guard=U:=λ j o R ha=>(b5 j o R ha).1
 have c7:∀(j:Nat) (o:Oper),(ops.toList.take n)[j]?=Z o->0+j<n/\ops[0+j]?=Z o:=λ j o R=>by
  grind
 have bb:0+J (ops.toList.take n)=n:=by simp;omega
 have hm:cU C ex ops Y ((ops.toList.take n).filter bP) N=Z s2:=by rw[<-hn];exact hm
 have d5:sL C.lo (V ops)=ops.toList.drop n:=by unfold sL;rw[hn]
 rw[d5]at e1 e2 e3
 have hz:∀k o e,k<ij C.lo (V ops)->ops[k]?=Z o->o.op=.alloc e->∃d,cD P e=Z d/\d.zero.all ci=O:=λ k o e hk R dk=>by
  rw[hn]at hk;have d9:o∈ops.toList.take n:=aK (i:=k) (by rw[fR,af hk];simpa using R)
  let⟨d,D,G⟩:=MH _ N hm (λ q B H=>by
   let⟨j,hj⟩:=mI B;exact hg (0+j) q (c7 j q hj).2 H) o d9 e dk
  exact⟨d,hC.ty e d D,G⟩
 have a5:∀L:Nat->Bool,(∀(i:Nat) (q:Oper),i<n->ops[i]?=Z q->jc (V ops) q=Y->L i=O)->(F (bi C.lo (V ops)) lA s L n).I=N.I:=λ L hL=>by
  rw[qax hn.symm hT.recd hL n (au _),h2]
 have dr:∀k,F (bi C.lo (V ops)) lA s (λ i=>(Array.replicate ops.size Y).getD i Y) k=s:=by
  intro k
  induction k with
  |zero=>rfl
  |succ k ih=>
    simp only[F]
    have:(Array.replicate ops.size Y).getD k Y=Y:=by
     rw[kS,Ju];split<;>rfl
    rw[this];split
    .next hf=>cases hf
    .exact ih
 have ar:∀i,(Array.replicate ops.size Y).getD i Y=Y:=λ i=>by
  rw[kS,Ju];split<;>rfl
 let nb:=J N.I.bx;have cs:J N.I.bx=idA nb ops 0:=rfl;let A:=sC ops n nb lA lS;let f:S:=⟨s.tm,s2.I⟩
 have W:∀k y,k<n->A[k]?=Z y->y.2=U:=recB_σ ev;have cf:∀L k,k<=n->Ox ops (λ i=>i<k/\L i=O) nb (F (bi C.lo (V ops)) lA s L k).tm (F (V ops) A f L k).tm:=Y4 rfl hn.symm hT.recd b5
 have fa:F (V ops) A f aP n=s2:=by
  have hr:=LP (nb:=nb) b5 (ops.toList.take n) 0 N s2 c7 bb hm cs;have T:=cf aP n (au _);rw[h2]at T;have d1:(F (V ops) A f aP n).I=s2.I:=rK W n (au _)
  have f8:(F (V ops) A f aP n).tm=s2.tm:=by
   have b3:(F (V ops) A f aP n).tm.length=J s2.tm:=by rw[T.1,hr.1]
   have ek:∀t,(F (V ops) A f aP n).tm.getD t .dead=s2.tm.getD t .dead:=λ t=>by
    by_cases a8:∃(k:Nat) (o:Oper),k<n/\ops[k]?=Z o/\bP o=O/\o.dst=Z t
    .let⟨k,o,q1,q2,q3,q4⟩:=a8;rw[(T.2 t).1 k o ⟨q1,rfl⟩ q2 q3 q4,(hr.2 t).1 k o ⟨aG _,q1⟩ q2 q3 q4]
    .rw[(T.2 t).2 λ k o hk q2 q3 q4=>a8 ⟨k,o,hk.1,q2,q3,q4⟩,(hr.2 t).2 λ k o hk q2 q3 q4=>a8 ⟨k,o,hk.2,q2,q3,q4⟩]
   apply List.ext_getElem b3;intro i D G;have:=ek i;grind
  show F (V ops) A f aP n=s2;generalize F (V ops) A f aP n=z at *;let⟨z1,z2⟩:=z;simp_all
 have a0:∀i,i<=J (ops.toList.drop n)->F (V ops) A f aP (n+i)=F (ops.toList.drop n) lS s2 aP i:=by
  intro i
  induction i with
  |zero=>intro _;exact fa
  |succ i ih=>
    intro a7;show F (V ops) A f aP (n+i+1)=_;have hl:A[n+i]?=lS[i]?:=Hd;simp only[F,iQ,hl,ih (by omega)];rfl
 have b3:n+J (ops.toList.drop n)=ops.size:=by simp;omega
 have el:F (V ops) A f aP ops.size=s':=by rw[<-b3,a0 _ (au _)];exact e2
 have E:vL C ops A:=by
  intro i o R;have ge:i<ops.size:=(eH.1 R).1;by_cases fB:i<n
  .have hy:=Hs (nb:=nb) (lA:=lA) (lS:=lS) fB R;grind
  .obtain⟨j,rfl⟩:∃j,i=n+j:=⟨i-n,by omega⟩
   let⟨y,D,_,g3⟩:=e3 j o (by rw[iQ];simpa using R);grind [Hd]
 have c8:∀(L:Nat->Bool) (j:Nat) (o:Oper),gq ops L->(∀(i:Nat) (q:Oper),i<n->ops[i]?=Z q->jc (V ops) q=Y->L i=O)->ops[j]?=Z o->L j=Y->(∀e∈dc o,L e=O)->
   ∃y,nc C ex ops o (F (V ops) A f L ops.size) y/\F (V ops) A f (λ i=>X (i=j)||L i) ops.size=bX (F (V ops) A f L ops.size) o y:=by
  intro L j o hd b6 R hL hp;have gb:j<ops.size:=(eH.1 R).1;let⟨y,hy,fs⟩:=E j o R;refine⟨y,?_,Y1 (s0:=f) E ef hd R hL hp hy fs⟩;have a4:∀t∈looks ops o,(F (V ops) A f L ops.size).tm.getD t .dead=(F (V ops) A f aP j).tm.getD t .dead:=λ t ht=>GI (s0:=f) E ef hd R hL hp ht;by_cases eg:j<n
  .-- it looks at no memory
   have hf:jc (V ops) o=O:=by
    cases hf:jc (V ops) o with
    |true=>rfl
    |false=>rw[b6 j o eg R hf]at hL;cases hL
   let⟨f2,f3⟩:=ZK hf;have fn:ops.toList[j]?=Z o:=by simpa using R
   have eo:eC o=o:=by unfold eC;rw[f2]
   have fk:(bi C.lo (V ops))[j]?=Z o:=by
    rw[Am,fn];show Z (eC o)=_;rw[eo]
   have c9:(⟨bi C.lo (V ops)⟩:aL Oper)[j]?=Z o:=by simpa using fk
   have es:gq ⟨bi C.lo (V ops)⟩ L:=by
    intro i q B f5 e he;obtain⟨fF,q',D,rfl⟩:=Nr (lo:=C.lo) (l:=V ops) (j:=i) (o:=q) (by simpa using B);rw[LJ]at he;exact hd i q' (by simpa using D) f5 e he
   have co:(⟨bi C.lo (V ops)⟩:aL Oper).size=n:=by show(bi C.lo (V ops)).length=n;rw[Hk,hn]
   let⟨z,z1,zs,_⟩:=XQ hT hk es c9 hL hp;rw[co]at zs;let⟨z',q1,_,q3⟩:=hT.st j o c9;rw[z1]at q1;cases q1
   have b8:z.2=U:=by
    cases hc:z.2 with
    |none=>rfl
    |some τ=>have:=q3 (by rw[hc];rfl);rw[LR hf]at this;cases this
   have c6:y=z:=by
    have h0:=Hs (nb:=nb) (lA:=lA) (lS:=lS) eg R;rw[f2]at h0;have hz:lA.getD j (.dead,U)=z:=by rw[dO,z1];rfl
    simp only[hz]at h0;have hy:(sC ops n nb lA lS)[j]?=Z y:=hy;rw[h0]at hy;cases hy;rw[<-b8]
   subst c6
   have bm:∀t∈looks ops o,(F (V ops) A f L ops.size).tm.getD t .dead=(F (bi C.lo (V ops)) lA s aP j).tm.getD t .dead:=λ t ht=>by
    rw[a4 t ht];refine((cf aP j (by omega)).2 t).2 λ k q ed B H cb=>?_;exact f3 q (aK (i:=k) (by simpa using B)) H t cb ht
   have a6:∀t∈looks ⟨bi C.lo (V ops)⟩ o,(F (bi C.lo (V ops)) lA s L n).tm.getD t .dead=(F (bi C.lo (V ops)) lA s aP j).tm.getD t .dead:=λ t ht=>by
    have:=GI (s0:=s) hT.recd (Gc hk) es c9 hL hp ht;rw[co]at this;exact this
   have e8:=Ga (ops:=⟨bi C.lo (V ops)⟩) (o:=o) a6
   have hw:∀b,cV ⟨bi C.lo (V ops)⟩ (F (bi C.lo (V ops)) lA s L n).tm o=Z b->cV ops (F (V ops) A f L ops.size).tm o=Z b:=λ b T=>by
    rw[Ga bm];rw[e8]at T;exact G7 (by rw[eo];exact T)
   obtain⟨D,G⟩|⟨D,G⟩:=zs
   .refine .inl ⟨hw _ D,?_⟩
    have bp:∀τ,opA C ex (F (V ops) A f L ops.size).tm τ o.op=opA C ex (F (bi C.lo (V ops)) lA s L n).tm τ o.op:=λ τ=>xo (C:=C) (ex:=ex) (op:=o.op) (I:=τ) (L9 (xs:=V o.op.operands) λ t ht=>(bm t (by
     simp only[looks,aR];exact .inl (.inr ht))).trans (a6 t (by
     simp only[looks,aR];exact .inl (.inr ht))).symm)
    have G:opA C ex (F (bi C.lo (V ops)) lA s L n).tm (F (bi C.lo (V ops)) lA s L n).I o.op=Z y:=G;rw[a5 L b6]at G;rw[bp];let⟨x,zz⟩:=y;have b8:zz=U:=b8;subst b8;have K:=hf;unfold jc at K;rw[gg]at K;obtain K|K:=K
    .unfold qc at K;simp only[aJ,ew]at K;exact Ni K.1.1 (LR hf) G
    .-- it lies behind stores into the region's boxes alone
     have cd:vV o.op=O:=by
      unfold ya at K;rw[aJ]at K;exact K.1
     refine qql cd ?_ G
     have fr:qc (V ops) o=Y:=by
      cases hc:qc (V ops) o with
      |false=>rfl
      |true=>
        unfold qc at hc;simp only[aJ,ew]at hc;have:=hc.1.1;unfold vV at cd;split at cd
        .next e=>rw[e]at this;cases this
        .next e=>rw[e]at this;cases this
        .cases cd
     have d8:∀(m:Nat) (q:Oper),ops[n+m]?=Z q->L (n+m)=O->A9 (V ops) q=O:=λ m q B aE=>by
      obtain T|⟨_,q',bn,h'⟩:=b0 (n+m) q B (by omega) j (by omega)
      .have:=pa hd (n+m) q B (hd (n+m) q B aE) T;rw[hL]at this;cases this
      .rw[R]at bn;cases bn;obtain h'|⟨_,h'⟩:=h'
       .rw[fr]at h';cases h'
       .exact h'
     have cl:∀(m:Nat) (q:Oper),ops[n+m]?=Z q->L (n+m)=O->∀p,p<m->L (n+p)=O:=λ m q B aE p d7=>by
      obtain T|⟨T,_⟩:=b0 (n+m) q B (by omega) (n+p) (by omega)
      .exact pa hd (n+m) q B (hd (n+m) q B aE) T
      .omega
     have ca:∀(k:Nat) (q:Oper) (d:Tmp),k<n->ops[k]?=Z q->bP q=O->q.dst=Z d->∀m,n+m<=ops.size->(F (V ops) A f aP (n+m)).tm.getD d .dead=.dead\/∃b,nb<=b/\(F (V ops) A f aP (n+m)).tm.getD d .dead=.ptr b 0:=λ k q d az B H cb m=>by
      induction m with
      |zero=>
        intro _;have:=((cf aP n (au _)).2 d).1 k q ⟨az,rfl⟩ B H cb;rw[dU,this];split
        .exact .inr ⟨_,by unfold idA;omega,rfl⟩
        .exact .inl rfl
      |succ m ih=>
        intro a7;let⟨q2,d6⟩:=gJ (ops:=ops) (k:=n+m);let⟨y2,_,_,hF⟩:=iH (s0:=f) E d6;show(F (V ops) A f aP (n+m+1)).tm.getD d .dead=_\/∃b,nb<=b/\(F (V ops) A f aP (n+m+1)).tm.getD d .dead=_;let⟨_,d',et,e9⟩:=b5 k q B H;rw[cb]at et;cases et;rw[hF aP,af (show aP (n+m)=O from rfl),rz _ _ _ _ (e9 (n+m) q2 d6 (by omega))];exact ih (by omega)
     have d0:∀m,n+m<=ops.size->(∀(p:Nat) (q:Oper),p<m->ops[n+p]?=Z q->A9 (V ops) q=O)->ql nb N.I (F (V ops) A f aP (n+m)).I:=by
      intro m
      induction m with
      |zero=>
        intro _ _;rw[dU,rK W n (au _)];exact(zy (ops.toList.take n) N s2 hm (au _):ql nb N.I s2.I)
      |succ m ih=>
        intro a7 ct;let⟨q,B⟩:=gJ (ops:=ops) (k:=n+m);let⟨z,w1,w2,w3⟩:=e3 m q (by rw[iQ];simpa using B);let⟨y2,u1,_,hF⟩:=iH (s0:=f) E B;have:A[n+m]?=lS[m]?:=Hd;rw[this,w1]at u1;cases u1;rw[<-a0 m (by omega)]at w2;have ih:=ih (by omega) λ p q d7=>ct p q (by omega);show ql nb N.I (F (V ops) A f aP (n+m+1)).I;rw[hF aP,af (show aP (n+m)=O from rfl)];cases ax:z.2 with
        |none=>rw[putS_σ _ _ _ ax];exact ih
        |some b7=>
          have e:(bX (F (V ops) A f aP (n+m)) q z).I=b7:=by simp[bX,ax,turn]
          rw[e];have bs:=ct m q (by omega) B;unfold A9 at bs;split at bs<;>try cases bs
          rename_i t c v fl;rw[Jv]at bs;let⟨qa,fb,H⟩:=bs;rw[aJ]at H;let⟨k,az⟩:=mI fb;have az:ops[k]?=Z qa:=by simpa using az
          let⟨f0,d,ep,_⟩:=b5 k qa az H.1
          have f1:d=c:=by
           have:=H.2;unfold sc at this;rw[ep]at this;exact cn this
          subst f1;let⟨x2,e5⟩:=z;have ax:e5=Z b7:=ax;subst ax
          have fz:k<n:=by
           apply QU;intro ga;obtain⟨r,rfl⟩:∃r,k=n+r:=⟨k-n,by omega⟩
           have f9:n+r<ops.size:=(eH.1 az).1;let⟨za,a1,a2,a3⟩:=e3 r qa (by rw[iQ];simpa using az);let⟨ea,em⟩:=rE H.1;have fv:cx C.lo qa.op=Y:=by rw[em];rfl
           obtain⟨_,a2⟩|⟨a2,_⟩:=a2
           .rw[em]at a2;simp only[opA,aD]at a2;split at a2<;>try cases a2
            split at a2<;>cases a2;have:=a3 rfl;rw[fv]at this;cases this
           .unfold cV at a2;rw[f0]at a2;cases a2
          have an:=ca k qa d fz az H.1 ep m (by omega);obtain⟨_,w2⟩|⟨_,w2⟩:=w2
          .obtain⟨b,off,D,f6,g3⟩|⟨r',i',o',go,D⟩:=K7 fl w2
           .obtain an|⟨b',f4,an⟩:=an
            .rw[an]at D;cases D
            .rw[an]at D;cases D;exact⟨f6.trans ih.1,λ b T=>by rw[g3 b (by omega)];exact ih.2 b T⟩
           .obtain an|⟨b',f4,an⟩:=an<;>(rw[an]at D;cases D)
          .cases w2
     have f7:∀m,n+m<=ops.size->ql nb N.I (F (V ops) A f L (n+m)).I:=by
      intro m
      induction m with
      |zero=>
        intro _;rw[dU,rK W n (au _)];exact(zy (ops.toList.take n) N s2 hm (au _):ql nb N.I s2.I)
      |succ m ih=>
        intro a7;let⟨q,B⟩:=gJ (ops:=ops) (k:=n+m);let⟨z,_,_,hF⟩:=iH (s0:=f) E B;show ql nb N.I (F (V ops) A f L (n+m+1)).I;rw[hF L];split
        .rename_i aE;cases ax:z.2 with
         |none=>rw[putS_σ _ _ _ ax];exact ih (by omega)
         |some b7=>
           have ht:=d0 (m+1) a7 λ p q' d7 bn=>d8 p q' bn (by
            by_cases fg:p=m
            .subst fg;exact aE
            .exact cl m q B aE p (by omega))
           have e0:=hF aP;rw[af (show aP (n+m)=O from rfl)]at e0;have e:∀s:S,(bX s q z).I=b7:=λ s=>by simp[bX,ax,turn]
           have ht:ql nb N.I (F (V ops) A f aP (n+m+1)).I:=ht;rw[e0,e]at ht;rw[e];exact ht
        .exact ih (by omega)
     have:=f7 (ops.size-n) (by omega);rw[show n+(ops.size-n)=ops.size by omega]at this;exact this
   .exact .inr ⟨hw _ D,G⟩
  .obtain⟨i,rfl⟩:∃i,j=n+i:=⟨j-n,by omega⟩
   have gl:i<J (ops.toList.drop n):=by omega
   let⟨z,z1,z2,z3⟩:=e3 i o (by rw[iQ];simpa using R)
   have c6:y=z:=by
    have:A[n+i]?=lS[i]?:=Hd;rw[this,z1]at hy;cases hy;rfl
   subst c6;rw[<-a0 i (by omega)]at z2
   have d1:(F (V ops) A f L ops.size).I=(F (V ops) A f aP (n+i)).I:=by
    have ec:∀m,n<=m->m<n+i->L m=O:=λ m eb dm=>by
     obtain T|⟨T,_⟩:=b0 (n+i) o R (by omega) m dm
     .exact pa hd (n+i) o R hp T
     .omega
    have dn:∀m,n+i<m->m<ops.size->L m=Y:=λ m eb dm=>by
     let⟨q,B⟩:=gJ (ops:=ops) (k:=m) dm;cases aE:L m with
     |false=>rfl
     |true=>
       obtain T|⟨T,_⟩:=b0 m q B (by omega) (n+i) eb
       .have:=pa hd m q B (hd m q B aE) T;rw[hL]at this;cases this
       .omega
    have k1:∀m,m<=i->(F (V ops) A f L (n+m)).I=(F (V ops) A f aP (n+m)).I:=by
     intro m
     induction m with
     |zero=>intro _;rw[dU,rK W n (au _),rK W n (au _)]
     |succ m ih=>
       intro a7;let⟨q,B⟩:=gJ (ops:=ops) (k:=n+m);let⟨y',_,_,hF⟩:=iH (s0:=f) E B;show(F (V ops) A f L (n+m+1)).I=(F (V ops) A f aP (n+m+1)).I;rw[hF L,hF aP,af (ec (n+m) (by omega) (by omega)),af (show aP (n+m)=O from rfl)];show turn _ _=turn _ _;rw[ih (by omega)]
    have k2:∀m,n+i+m<=ops.size->(F (V ops) A f L (n+i+m)).I=(F (V ops) A f L (n+i)).I:=by
     intro m
     induction m with
     |zero=>intro _;rfl
     |succ m ih=>
       intro a7;let⟨q,B⟩:=gJ (ops:=ops) (k:=n+i+m);let⟨y',_,_,hF⟩:=iH (s0:=f) E B;show(F (V ops) A f L (n+i+m+1)).I=_
       have hf:L (n+i+m)=Y:=by
        cases m with
        |zero=>exact hL
        |succ m=>exact dn _ (by omega) (by omega)
       rw[hF L,hf];simp only[yL,yM];exact ih (by omega)
    have:=k2 (ops.size-(n+i)) (by omega);rw[show n+i+(ops.size-(n+i))=ops.size by omega]at this;rw[this,k1 i (au _)]
   have d2:=Ga (ops:=ops) (o:=o) a4
   have bp:=xo (C:=C) (ex:=ex) (op:=o.op) (I:=(F (V ops) A f L ops.size).I) (L9 (xs:=V o.op.operands) λ t ht=>a4 t (by
    simp only[looks,aR];exact .inl (.inr ht)))
   obtain⟨D,G⟩|⟨D,G⟩:=z2
   .refine .inl ⟨by rw[d2];exact D,?_⟩;rw[bp,d1];exact G
   .exact .inr ⟨by rw[d2];exact D,G⟩
 apply wp_region_any hC.mixed;refine qs1 hC hx hT hk b4 hz (w0:=w) hn.symm ops.size _ Γ _ a (λ _=>0) (by simp) (by rw[yP,qcY];simp) (λ i _=>ar i) ?_ ?_ ?_ ?_ (au _) ?_
 .intro i q bn fF;grind
 .rw[dr];exact hi.drew
 .rw[dr];exact ht
 .exact⟨λ k o e d h=>(by rw[ar]at h;cases h),λ k o e d u h=>(by rw[ar]at h;cases h),λ k k' o o' h=>(by rw[ar]at h;cases h)⟩
 .intro ds g c5 w1 a1 e4 x1 x2 x3 x4 x5 x6 x7 x8 x9 a9 e7;have e6:Ext Γ w c5 w1:=(Ext.drew Γ w).trans x6
  have M:∀(k:Nat) (o:Oper),k<n->ops[k]?=Z o->bP o=O->g.getD k Y=O:=λ k o q1 q2 q3=>x4 k o q1 q2 (by
   cases hc:jc (V ops) o with
   |false=>rfl
   |true=>rw[(ZK hc).1]at q3;cases q3)
  have bl:ot P c5 w w1 ops (λ k=>0<=k/\k<n) a1 e4:=⟨λ k o e d hh D G=>x9.blk k o e d (M k o hh.2 D (by simp[bP,G])) D G,λ k o e d u hh D G=>x9.tmp k o e d u (M k o hh.2 D (by simp[bP,G])) D G,λ k k' o o' hh fP D G g3 g4=>x9.inj k k' o o' (M k o hh.2 D g3) (M k' o' fP.2 G g4) D G g3 g4⟩
  rw[a5 _ x4]at x7;rw[a5 _ x4]at a9;have a9:bN s.I N.I:=by rw[dr]at a9;exact a9
  let⟨dT,c0,c1,c2,c3,c4⟩:=Mb hC (n:=n) (nb:=nb) (ad:=e4) (ops.toList.take n) 0 N s2 N.I c5 c7 bb hm hg rfl cs x7 bl e6
  have ez:F (V ops) A f (λ i=>g.getD i Y) ops.size=F (V ops) A f (λ i=>g.getD i Y) n:=by
   grind [qav]
  have cP:(F (V ops) A f (λ i=>g.getD i Y) ops.size).I=s2.I:=by rw[ez];exact rK W n (au _)
  refine Zd hC hx (l:=A) (s0:=f) (ji:=λ L=>∀(i:Nat) (q:Oper),i<n->ops[i]?=Z q->jc (V ops) q=Y->L i=O) (λ L j hg i q q1 q2 q3=>by simp[hg i q q1 q2 q3]) fu c8 ds g dT w1 a1 x1 x2 x5 x4 (by rw[cP];exact c2) ?_ ?_
  .-- the slots
   rw[ez];let⟨b1,b2⟩:=cf (λ i=>g.getD i Y) n (au _);have d4:RepL dT (F (bi C.lo (V ops)) lA s (λ i=>g.getD i Y) n).tm (V a1.tmps):=JE c0 x8;refine⟨by rw[b1];exact d4.len,λ t x u hx hu=>?_⟩;have bb:=getElem?_lt hx;have b9:(F (V ops) A f (λ i=>g.getD i Y) n).tm.getD t .dead=x:=by rw[dO,hx];rfl
   by_cases a8:∃(k:Nat) (o:Oper),k<n/\ops[k]?=Z o/\bP o=O/\o.dst=Z t
   .let⟨k,o,q1,q2,q3,q4⟩:=a8;rw[(b2 t).1 k o ⟨q1,M k o q1 q2 q3⟩ q2 q3 q4,af (by rw[<-b1];exact bb)]at b9;let⟨e,dk⟩:=rE q3;have hp:=bl.tmp k o e t u ⟨aG _,q1⟩ q2 dk q4 (by simpa using hu);grind
   .rw[(b2 t).2 λ k o ed q2 q3 q4=>a8 ⟨k,o,ed.1,q2,q3,q4⟩]at b9;have d3:t<(F (bi C.lo (V ops)) lA s (λ i=>g.getD i Y) n).tm.length:=by rw[<-b1];exact bb
    rw[dO,aU d3]at b9;exact d4.rep t x u (by rw[aU d3];exact bz Z b9) hu
  .intro Γ' w' a' D G g3 g4 g5;rw[el]at G g3 g4;rw[cP]at g4;exact B Γ' w' a' (c1.trans D) G g3 (a9.trans (c3.trans g4)) (by rw[g5,e7])
end
end
section
open RowKit
def PH:AV->Bool
 |.rpt _ _ _ _|.ept _ _=>O
 |_=>Y
theorem ZT{o:Oper}{a:Tmp×bv}(h:stP o=Z a):(∃t,o.op=.store t (.tmp a.1) a.2)/\o.guard=U/\o.dst=U:=by
 grind [stP]
theorem qsH{o:Oper}{d:Tmp}(h:ixP o=Z d):(∃t x i,o.op=.indexAddr t x i)/\o.guard=U/\o.dst=Z d:=by
 grind [ixP]
theorem VD:∀{m b:Nat},yI m b=O->∀i,i<m->b.testBit i=O
 |0,_,_,i,a=>absurd a (fe _)
 |m+1,b,h,i,a=>by
   simp only[yI,aJ]at h;obtain a|rfl:=Nat.lt_succ_iff_lt_or_eq.1 a
   .exact VD h.2 i a
   .exact h.1
theorem Zv{ops:aL Oper}{i:Bool}{b:Tmp}(h:qx ops i=Z b):i=O/\∃p o q d e c,ph ops=[p,o,q]/\ixP p=Z d/\stP o=Z (d,e)/\stP q=Z (b,c)/\b≠d/\lu d c=O/\jP ops+3<=J (V ops)/\OI (fQ (V ops) []) (jP ops) (J (V ops)-1) p o q=O/\(∀r∈Iy ops,A3 (jP ops) d p e r=O)/\∀r∈ops.toList.take (jP ops),Jc (jP ops) r=O:=by
 unfold qx at h;split at h
 .refine⟨rfl,?_⟩;unfold qce at h;split at h
  .rename_i p o q t;split at h
   .rename_i d a y x w v;split at h
    .next g=>cases h;simp only[aJ,ew]at g;let⟨⟨s,f,n⟩,m,l,k,j⟩:=g;have e1:a.1=d:=cn s;refine⟨p,o,q,d,a.2,y.2,t,x,by rw[w,<-e1],v,?_,n,gV m,l,bB.1 k,bB.1 j⟩;intro u;rw[u,Jw]at f;cases f
    .cases h
   .cases h
  .cases h
 .cases h
section
variable {P:ba}{C:Cfg}{Γ:Gh}{I:St}{w:aC}{ops pre:aL Oper}{ex:dJ}{l:aa (AV×ac St)}{s0:S}
theorem qbz{tm:aa AV}{σ':St}{t:aQ}{a:Tmp}{v:bv}{b off:Nat}{x:AV}{z:ac St}(h:opA C ex tm I (.store t (.tmp a) v)=Z (x,z))(k:tm.getD a .dead=.ptr b off):
  ∃cs,z=Z {I with bx:=I.bx.set b cs,wr:=b::I.wr}/\∀(tm':aa AV) (τ:St),aev tm' (.tmp a)=aev tm (.tmp a)->aev tm' v=aev tm v->τ.bx=I.bx->opA C ex tm' τ (.store t (.tmp a) v)=Z (x,Z {τ with bx:=τ.bx.set b cs,wr:=b::τ.wr}):=by
 have i:aev tm (.tmp a)=.ptr b off:=k;simp only[opA,aD,i]at h;cases g:C.ty t with
 |none=>rw[g]at h;cases h
 |some d=>
   rw[g]at h;simp only at h;cases c:I.bx[b]? with
   |none=>rw[c]at h;cases h
   |some cs=>
     rw[c]at h;simp only at h;split at h<;>cases h;rename_i j;refine⟨_,rfl,λ tm' τ m l f=>?_⟩;have e:τ.bx[b]?=Z cs:=by rw[f];exact c
     simp only[opA,aD,m,l,i,g,e,j]
theorem Qj{tm:aa AV}{t:aQ}{u i:bv}{x:AV}{z:ac St}(a:yG (aev tm u)=Y)(h:opA C ex tm I (.indexAddr t u i)=Z (x,z)):
  z=U/\PH x=O/\∀τ:St,τ.rw=I.rw->opA C ex tm τ (.indexAddr t u i)=Z (x,U):=by
 have b:∀τ:St,τ.rw=I.rw->opA C ex tm τ (.indexAddr t u i)=Z (x,z):=λ τ c=>by
  simp_all [opA,aD]
 have e:z=U/\PH x=O:=by
  simp only[opA,aD]at h
  repeat' split at h
  all_goals first|(cases h;done)|(cases h;exact⟨rfl,rfl⟩)|(rename_i d _ _;rw[d]at a;cases a)|(exfalso;simp_all [yG];done)
 grind
theorem qa0{tm:aa AV}{t:aQ}{a:Tmp}{v:bv}{y:AV}{x:AV}{z:ac St}(h:opA C ex tm I (.store t (.tmp a) v)=Z (x,z))(n:tm.getD a .dead=y)(l:PH y=O):
  ∃r R,z=Z {I with rw:=I.rw.set r R,wrr:=r::I.wrr}/\∀τ:St,τ.rw=I.rw->opA C ex tm τ (.store t (.tmp a) v)=Z (x,Z {τ with rw:=τ.rw.set r R,wrr:=r::τ.wrr}):=by
 have m:aev tm (.tmp a)=y:=n;cases y with
 |rpt i j e c=>
   simp only[opA,aD,m]at h;cases f:C.ty t with
   |none=>rw[f]at h;cases h
   |some d=>
     rw[f]at h;simp only at h;cases g:I.rw[i]? with
     |none=>rw[g]at h;cases h
     |some R=>
       rw[g]at h;simp only at h;cases b:yl R j e c d.size (cellsOf (aev tm v))with
       |none=>rw[b]at h;cases h
       |some R'=>
         rw[b]at h;cases h;refine⟨_,_,rfl,λ τ k=>?_⟩;simp_all [opA,aD]
 |ept o e=>
   simp_all [opA,aD]
 |_=>cases l
theorem Vp{tm:aa AV}{t:aQ}{a:Tmp}{v:bv}{y:AV×ac St}(h:opA C ex tm I (.store t (.tmp a) v)=Z y):a<J tm:=by
 apply qcZ;intro b
 have c:aev tm (.tmp a)=.dead:=by
  show tm.getD a .dead=.dead;grind
 simp_all [opA,aD]
theorem Zm{tm:aa AV}{d:Tmp}{x:AV}{v:bv}(h:lu d v=O):aev (tm.set d x) v=aev tm v:=by
 cases v with
 |tmp t=>
   have a:d≠t:=λ b=>by rw[b]at h;simp[lu]at h
   show(tm.set d x).getD t .dead=tm.getD t .dead;grind
 |_=>rfl
theorem LH(m:Nat)(o:Oper):dc (qe m o)=(dc o).map (shI m):=by
 unfold dc qe;simp only[BC,List.filter_map,kN];rfl
theorem qpO{o:Oper}{tm tm':aa AV}{τ:St}{x:AV}{z:ac St}(h:vl o=O)(a:opA C ex tm I o.op=Z (x,z))(f:∀y∈V o.op.operands,aev tm y=aev tm' y):z=U/\opA C ex tm' τ o.op=Z (x,U):=by
 have c:gZ o.op=Y/\cx C.lo o.op=Y/\z=U:=by
  unfold vl at h;split at h
  .rename_i b _ _;rw[b]at a |-
   refine⟨rfl,rfl,?_⟩;simp only[opA,aD]at a
   repeat' split at a
   all_goals first|(cases a;done)|(cases a;rfl)
  .rename_i b _ _;rw[b]at a |-
   refine⟨rfl,rfl,?_⟩;simp only[opA,aD]at a
   repeat' split at a
   all_goals first|(cases a;done)|(cases a;rfl)
  .rename_i b _ _;rw[b]at a |-
   refine⟨rfl,rfl,?_⟩;cases a;rfl
  .cases h
 obtain⟨e,d,rfl⟩:=c;refine⟨rfl,?_⟩;rw[<-xo f];exact Ni e d a
def T3(d:Tmp)(e:AV)(f g:St->St)(s:S)(b c a:Bool):S:=⟨cond b (s.tm.set d e) s.tm,cond a (g (cond c (f s.I) s.I)) (cond c (f s.I) s.I)⟩
theorem qnx(hC:db P C)(hx:mg P ex){id:Nat}{s u s':S}{b:Tmp}(ez:qx ops O=Z b)(hk:mi C.lo s.tm (jq ops) O=O)(h1:cU C ex (jq ops) O (V (jq ops)) s=Z u)(a4:vO u.tm ops b=O)
  (T:cU C ex ops O (ph ops) u=Z s') {a:Act}{Q:Exit->Act->aC->Prop} (f:Inv Γ s.I w) (ht:ck Γ s.tm a)
  (hq:∀Γ' w' a',Ext Γ w Γ' w'->Inv Γ' s'.I w'->ck Γ' s'.tm a'->bN s.I s'.I->a'.defers=a.defers->Q .normal a' w'):(Code.region id ops O).wp P Q a w:=by
 obtain⟨_,p,o,q,d,v6,v7,az,e8,e9,e4,fr,ef,eg,ed,c9,el⟩:=Zv ez;obtain⟨⟨t5,u5,i5,ax⟩,fn,ep⟩:=qsH e8;obtain⟨⟨t6,a2⟩,fl,eo⟩:=ZT e9;obtain⟨⟨t7,bs⟩,fk,em⟩:=ZT e4;unfold vO at a4;rw[aJ]at a4;obtain⟨a4,z⟩:=a4
 have z:yG (aev u.tm u5)=Y:=by
  unfold OS at z;rw[az]at z;simp only[ax]at z;simpa using z
 simp only[OI,aJ,bB]at ed;obtain⟨k1,k2,k3,k4,k5,k6⟩:=ed;obtain⟨m,hm⟩:∃m,m=jP ops:=⟨_,rfl⟩
 obtain⟨n,hn⟩:∃n,J (V ops)=n+1:=⟨J (V ops)-1,by omega⟩
 obtain⟨pre,N⟩:∃pre,pre=jq ops:=⟨_,rfl⟩
 rw[<-N]at hk h1;have d9:=az;unfold ph at az;unfold jq at N;unfold Iy at N c9;rw[<-hm]at N c9 el eg k1 k2 k3 k4 k5 k6 az;rw[hn,qc0]at k3 k6;rw[hn]at eg;have aE:J (V ops)-3-m=n-2-m:=by omega
 have ct:ops.size=n+1:=by rw[<-ir,hn]
 have e3:J ((ops.toList.drop m).take 2)=2:=by rw[bg,gf];omega
 have b0:ops[m]?=Z p:=by
  have:=bz (·[0]?) az;simp only[Jx]at this;rw[dy (by omega),wi (by omega),iQ]at this;simpa using this
 have b1:ops[m+1]?=Z o:=by
  have:=bz (·[1]?) az;simp only[qcV,Jx]at this;rw[dy (by omega),wi (by omega),iQ]at this;simpa using this
 have cd:ops[n]?=Z q:=by
  have:=bz (·[2]?) az;simp only[qcV,Jx]at this;rw[eu (by omega),e3,iQ,hn]at this;simpa using this
 have f1:pre.size=n-2:=by
  rw[N];simp only[iq,aO,cj,bg,gf];omega
 have hA:∀i,i<m->pre[i]?=ops[i]?:=λ i f=>by
  rw[N,BB,dy (by rw[bg];omega),wi f,gF]
 have hB:∀i,m<=i->i<n-2->pre[i]?=(ops[i+2]?).map (qe m):=λ i f ca=>by
  rw[N,BB,eu (by rw[bg];omega),di,bg,jS (by omega),wi (by omega),iQ,gF,show m+2+(i-m)=i+2 by omega]
 have cP:∀i r,m<=i->i<n-2->ops[i+2]?=Z r->A3 m d p v6 r=O:=λ i r f ca K=>by
  refine c9 r (aK (i:=i-m) ?_);rw[wi (by omega),iQ,gF,show m+2+(i-m)=i+2 by omega];exact K
 obtain⟨l,l1,l2,l3,l4⟩:=Af (V pre) s u h1;have hT:mY C ex pre l s:=L5 l3 l4;rw[ir]at l2;have dk:lk C.lo s.tm pre=O:=hk;have b8:=(FH dk).1;have a7:∀tm,cV ops tm p=Z O:=λ tm=>by unfold cV;rw[fn]
 have a8:∀tm,cV ops tm o=Z O:=λ tm=>by unfold cV;rw[fl]
 have a6:∀tm,cV ops tm q=Z O:=λ tm=>by unfold cV;rw[fk]
 cases c7:u.tm.getD b .dead with
 |ptr bb off=>
   have d3:∀x,(u.tm.set d x).getD b .dead=.ptr bb off:=λ x=>by
    rw[<-c7,dO,kQ (mH fr),<-dO]
   rw[d9]at T
   obtain⟨v,x6,a3,x7,a5,y5,y6,y7,rfl⟩:∃v x6 a3 x7 a5,opA C ex u.tm u.I p.op=Z (v,U)/\opA C ex (u.tm.set d v) u.I o.op=Z (x6,Z a3)/\opA C ex (u.tm.set d v) a3 q.op=Z (x7,Z a5)/\s'=⟨u.tm.set d v,a5⟩:=by
    simp only[cU,a7,a8,a6]at T;split at T<;>try cases T
    .rename_i v e5;rw[ep]at T;simp only[ia]at T;have c5:=(Qj z (by rw[ax]at e5;exact e5)).2.1;split at T<;>try cases T
     .rename_i x6 e6;have e6:=e6;rw[a2]at e6;have aE:=Vp e6;rw[fD]at aE;have hv:(u.tm.set d v).getD d .dead=v:=by rw[dO,gD aE];rfl
      obtain⟨_,_,h,_⟩:=qa0 e6 hv c5;cases h
     .rename_i x6 a3 e6;split at T<;>try cases T
      rw[eo]at T;simp only at T;split at T<;>try cases T
      .next x7 e7=>obtain⟨_,h,_⟩:=qbz (σ':=a3) (by rw[bs]at e7;exact e7) (d3 v);cases h
      .rename_i x7 a5 e7;split at T<;>try cases T
       exact⟨v,x6,a3,x7,a5,e5,e6,e7,by rw[em]⟩
    .next v f0 e5=>have:=(Qj z (by rw[ax]at e5;exact e5)).1;cases this
   rw[ax]at y5;rw[a2]at y6;rw[bs]at y7;obtain⟨_,c5,g5⟩:=Qj z y5;have aE:=Vp y6;rw[fD]at aE;have d8:(u.tm.set d v).getD d .dead=v:=by rw[dO,gD aE];rfl
   obtain⟨r,R,z6,g6⟩:=qa0 y6 d8 c5;cases z6;obtain⟨cs,z7,g7⟩:=qbz (σ':=u.I) y7 (d3 v);cases z7;have d2:d<J u.tm:=aE
   have part:∀L':Nat->Bool,(∀i,i<m->L' i=O)->∀k,m<=k->k<=pre.size->(F (V pre) l s L' k).I=(F (V pre) l s aP k).I/\∀t:Nat,(∀i r,m<=i->pre[i]?=Z r->r.dst≠Z t)->(F (V pre) l s L' k).tm.getD t .dead=(F (V pre) l s aP k).tm.getD t .dead:=λ L' a0 k fa f3=>by
    induction k with
    |zero=>
      have:m=0:=Nat.le_zero.1 fa;exact⟨rfl,λ _ _=>rfl⟩
    |succ k ih=>
      by_cases I:m=k+1
      .have e:F (V pre) l s L' (k+1)=F (V pre) l s aP (k+1):=vu _ λ i f=>a0 i (by omega);rw[e];exact⟨rfl,λ _ _=>rfl⟩
      .obtain⟨z1,z2⟩:=ih (by omega) (by omega);obtain⟨r,K⟩:=gJ (ops:=pre) (k:=k) (by omega);obtain⟨y,g1,g2,hF⟩:=iH hT.recd K
       have hy:y.2=U:=by
        rw[hB k (by omega) (by omega)]at K;obtain⟨r0,b7,rfl⟩:=qc1.1 K;have an:=cP k r0 (by omega) (by omega) b7;simp only[A3,aJ]at an;cases hy:y.2 with
        |none=>rfl
        |some σ'=>
          have g2:cx C.lo r0.op=O:=g2 (by rw[hy];rfl);have an:=an.1;unfold vl at an;split at an<;>first|(cases an;done)|(rename_i c8 _ _;rw[c8]at g2;cases g2)
       rw[hF,hF,af (show aP k=O from rfl)];split
       .exact⟨by rw[putS_σ _ _ _ hy,putS_σ _ _ _ hy];exact z1,λ t ht=>by rw[rz _ _ _ _ (ht k r (by omega) K),rz _ _ _ _ (ht k r (by omega) K)];exact z2 t ht⟩
       .exact⟨by rw[putS_σ _ _ _ hy];exact z1,λ t ht=>by rw[rz _ _ _ _ (ht k r (by omega) K)];exact z2 t ht⟩
   obtain⟨A,d7⟩:∃A:Nat->Nat,A=λ i=>if i<m then i else i+2:=⟨_,rfl⟩
   have D:∀i,i<m->A i=i:=λ i f=>by rw[d7];exact af f
   have M:∀i,m<=i->A i=i+2:=λ i f=>by rw[d7];exact ae (by omega)
   obtain⟨W,hW⟩:∃W:(Nat->Bool)->S,W=λ L=>F (V pre) l s (λ i=>L (A i)) pre.size:=⟨_,rfl⟩
   have Wp:∀L:Nat->Bool,(∀i,i<m->L i=O)->(W L).I=u.I/\∀t:Nat,(∀i r,m<=i->pre[i]?=Z r->r.dst≠Z t)->(W L).tm.getD t .dead=u.tm.getD t .dead:=λ L B=>by
    have:=part (λ i=>L (A i)) (λ i f=>by show L (A i)=O;rw[D i f];exact B i f) pre.size (by omega) (au _);rw[hW,<-l2];exact this
   have b4:∀L:Nat->Bool,(∀i,i<n->i≠m->i≠m+1->L i=O)->W L=u:=λ L B=>by
    rw[hW,<-l2];refine vu _ λ i f=>?_;show L (A i)=O;by_cases h:i<m
    .rw[D i h];exact B i (by omega) (by omega) (by omega)
    .rw[M i (by omega)];exact B _ (by omega) (by omega) (by omega)
   have c2:∀L,(W L).tm.length=J u.tm:=λ L=>by rw[hW,<-l2];show(F _ _ _ _ _).tm.length=_;rw[yg,yg]
   have E:∀i r,m<=i->pre[i]?=Z r->∃r0 e,ops[i+2]?=Z r0/\r=qe m r0/\r0.dst=Z e/\e≠d/\vl r0=O/\(∀y∈V r0.op.operands,lu d y=O)/\(∀x∈dc r0,x<m\/m+2<=x)/\(∀y∈V p.op.operands,lu e y=O)/\lu e v6=O:=λ i r f K=>by
    have ca:i<n-2:=by have:=(eH.1 K).1;omega
    rw[hB i f ca]at K;obtain⟨r0,b7,rfl⟩:=qc1.1 K;have an:=cP i r0 f ca b7;simp only[A3,aJ,bB,gg]at an;obtain⟨q1,q2,q3,q4⟩:=an;split at q4
    .next e I=>simp only[aJ,ew,bB]at q4;exact⟨r0,e,b7,rfl,I,(λ h=>by rw[h,Jw]at q4;exact absurd q4.1 (by decide)),q1,q2,λ x hx=>(q3 x hx).imp gV gV,q4.2.1,q4.2.2⟩
    .cases q4
   have d6:∀y:bv,(∀e,lu e y=O\/∀i r,m<=i->pre[i]?=Z r->r.dst≠Z e)->∀L:Nat->Bool,(∀i,i<m->L i=O)->aev (W L).tm y=aev u.tm y:=λ y hy L B=>by
    cases y with
    |tmp t=>
      apply (Wp L B).2 t;rcases hy t with h|h
      .simp[lu]at h
      .exact h
    |_=>rfl
   have co:∀y:bv,(∀i r e,m<=i->pre[i]?=Z r->r.dst=Z e->lu e y=O)->∀L:Nat->Bool,(∀i,i<m->L i=O)->aev (W L).tm y=aev u.tm y:=λ y hy=>d6 y λ e=>by
    by_cases h:lu e y=O
    .exact .inl h
    .exact .inr λ i r f K I=>h (hy i r e f K I)
   have fF:∀y∈V p.op.operands,∀L:Nat->Bool,(∀i,i<m->L i=O)->aev (W L).tm y=aev u.tm y:=λ y hy=>co y λ i r e f K I=>by
    obtain⟨r0,e',_,rfl,h3,_,_,_,_,h8,_⟩:=E i r f K;have:e'=e:=kR (h3.symm.trans I);rw[<-this];exact h8 y hy
   have fB:∀L:Nat->Bool,(∀i,i<m->L i=O)->aev ((W L).tm.set d v) v6=aev (u.tm.set d v) v6:=λ L B=>by
    have:=co v6 (λ i r e f K I=>by
     obtain⟨r0,e',_,rfl,h3,_,_,_,_,_,h9⟩:=E i r f K;have:e'=e:=kR (h3.symm.trans I);rw[<-this];exact h9) L B
    cases v6 with
    |tmp t=>
      show((W L).tm.set d v).getD t .dead=(u.tm.set d v).getD t .dead;have this:(W L).tm.getD t .dead=u.tm.getD t .dead:=this;rw[dO]at this |-
      rw[dO]at this |-
      rw[oE,oE,c2];split
      .rfl
      .exact this
    |_=>rfl
   let rm:St->St:=λ τ=>{τ with rw:=τ.rw.set r R,wrr:=r::τ.wrr};let bm:St->St:=λ τ=>{τ with bx:=τ.bx.set bb cs,wr:=bb::τ.wr}
   have eb:aev u.tm (.tmp b)=aev (u.tm.set d v) (.tmp b):=by
    show u.tm.getD b .dead=(u.tm.set d v).getD b .dead;rw[d3,c7]
   have ev:aev u.tm v7=aev (u.tm.set d v) v7:=(Zm ef).symm;have cl:∀{L:Nat->Bool}{j:Nat}{o':Oper}{n:Nat},gq ops L->ops[j]?=Z o'->(∀e∈dc o',L e=O)->yI n ((fQ (V ops) []).getD j 0)=O->∀i,i<n->L i=O:=λ hd ho hp hb i f=>pa hd _ _ ho hp (VD hb i f)
   have c0:∀{L:Nat->Bool},gq ops L->(∀e∈dc q,L e=O)->∀i,i<n->i≠m->i≠m+1->L i=O:=λ hd hp i f h1 T=>by
    apply pa hd _ _ cd hp;have:=k6 i (jT.2 f);simp only[gg]at this;rcases this with h|h|h
    .exact absurd (cn h) h1
    .exact absurd (cn h) T
    .exact h
   let G:(Nat->Bool)->S:=λ L=>T3 d v rm bm (W L) (L m) (L (m+1)) (L n)
   have ar:∀i,(Array.replicate ops.size Y).getD i Y=Y:=λ i=>by
    rw[kS,Ju];split<;>rfl
   have d5:G (λ i=>(Array.replicate ops.size Y).getD i Y)=s:=by
    have fu:∀k,F (V pre) l s (λ i=>(Array.replicate ops.size Y).getD (A i) Y) k=s:=by
     intro k
     induction k with
     |zero=>rfl
     |succ k ih=>
       simp only[F];rw[ar];split
       .next hf=>cases hf
       .exact ih
    show T3 d v rm bm (W _) ((Array.replicate ops.size Y).getD m Y) ((Array.replicate ops.size Y).getD (m+1) Y) ((Array.replicate ops.size Y).getD n Y)=s;rw[ar m,ar (m+1),ar n,hW];exact fu _
   have et:G aP=⟨u.tm.set d v,bm (rm u.I)⟩:=by
    show T3 d v rm bm (W aP) O O O=_;rw[b4 aP λ _ _ _ _=>rfl];rfl
   have H:∀(L:Nat->Bool) (j i:Nat),i≠j->(X (i=j)||L i)=L i:=λ L j i h=>by rw[bo h,mK]
   have a9:∀(L:Nat->Bool) (j:Nat),(X (j=j)||L j)=O:=λ L j=>by rw[bf rfl,nI]
   have a1:∀(L:Nat->Bool) (j:Nat),(∀i,i<pre.size->A i≠j)->W (λ i=>X (i=j)||L i)=W L:=λ L j h=>by
    rw[hW];exact vu _ λ i f=>H L j _ (h i f)
   have c3:∀i,i<pre.size->A i≠m/\A i≠m+1/\A i≠n:=λ i f=>by
    by_cases h:i<m
    .rw[D i h];omega
    .rw[M i (by omega)];omega
   have c4:∀i j,A i=A j->i=j:=λ i j h=>by
    by_cases h1:i<m<;>by_cases T:j<m
    .rw[D i h1,D j T]at h;exact h
    .rw[D i h1,M j (by omega)]at h;omega
    .rw[M i (by omega),D j T]at h;omega
    .rw[M i (by omega),M j (by omega)]at h;omega
   have c1:∀(L:Nat->Bool) (j:Nat),W (λ i=>X (i=A j)||L i)=F (V pre) l s (λ i=>X (i=j)||L (A i)) pre.size:=λ L j=>by
    rw[hW];refine vu _ λ i f=>?_;show(X (A i=A j)||L (A i))=(X (i=j)||L (A i));by_cases h:i=j
    .rw[h,bf rfl,bf rfl]
    .rw[bo h,bo λ e=>h (c4 _ _ e)]
   have b3:∀L,gq ops L->gq pre (λ i=>L (A i)):=λ L hd i r K f e I=>by
    have f2:=b8 i r K e I;by_cases h:i<m
    .rw[hA i h]at K;have f:L (A i)=O:=f;rw[D i h]at f;show L (A e)=O;rw[D e (by omega)];exact hd i r K f e I
    .obtain⟨r0,e0,g1,rfl,_,_,_,_,g7,_⟩:=E i r (by omega) K;rw[LH]at I;obtain⟨x,bn,rfl⟩:=bE.1 I;have f:L (A i)=O:=f;rw[M i (by omega)]at f;have:=hd _ _ g1 f x bn;show L (A (shI m x))=O
     have e:A (shI m x)=x:=by
      unfold shI;rcases g7 x bn with h|h
      .rw[show Nat.blt x m=O from qM h];exact D x h
      .rw[show Nat.blt x m=Y from by rw[ta];intro h';have:=gV h';omega];rw[Jy,M _ (by omega)];omega
     rw[e];exact this
   apply wp_region_any hC.mixed;refine ZB (G:=G) (ji:=λ _=>True) hC hx (λ _ _ _=>trivial) (λ j o' c e I=>?_) (λ L B=>?_) (λ L j o' hd _ c B hp=>?_) ops.size _ Γ _ a (by simp) (by rw[yP,qcY];simp) ?_ trivial ?_ ?_ ?_
   .have fb:j<n+1:=by rw[<-ct];exact(eH.1 c).1
    by_cases hj:j<m
    .exact b8 j o' (by rw[hA j hj];exact c) e I
    .by_cases ds:j=m
     .subst ds;rw[b0]at c;cases c;exact gV (k1 e I)
     .by_cases dT:j=m+1
      .subst dT;rw[b1]at c;cases c;exact gV (k2 e I)
      .by_cases dr:j=n
       .subst dr;rw[cd]at c;cases c;have:=k3 e I;simp only[gg,aJ]at this;rcases this with h|h
        .have:=gV h;omega
        .exact gV h.2
       .obtain⟨i,rfl⟩:∃i,j=i+2:=⟨j-2,by omega⟩
        have ad:=hB i (by omega) (by omega);rw[c]at ad;obtain⟨r0,e0,g1,g2,_,_,_,_,g7,_⟩:=E i _ (by omega) ad;rw[c]at g1;cases g1;have:=b8 i _ ad (shI m e) (by rw[LH];exact nK I);rcases g7 e I with h|h
        .omega
        .unfold shI at this;rw[show Nat.blt e m=Y from by rw[ta];intro h';have:=gV h';omega]at this;have this:e-2<i:=this;omega
   .rw[et];show T3 d v rm bm (W L) (L m) (L (m+1)) (L n)=_;rw[B m (by omega),B (m+1) (by omega),B n (by omega),b4 L λ i f _ _=>B i (by omega)];rfl
   .have fb:j<n+1:=by rw[<-ct];exact(eH.1 c).1
    have d1:L (m+1)=O->L m=O:=λ h=>cl hd b1 (hd (m+1) o b1 h) k5 m (wj m);have dm:L m=O->∀i,i<m->L i=O:=λ h=>cl hd b0 (hd m p b0 h) k4;have dn:L n=O->∀i,i<n->i≠m->i≠m+1->L i=O:=λ h=>c0 hd (hd n q cd h);by_cases hj:j<m
    .have n5:L m=Y:=by
       cases d4:L m with
       |false=>rfl
       |true=>rw[dm d4 j hj]at B;cases B
     have n6:L (m+1)=Y:=by
      cases h:L (m+1)with
      |false=>rfl
      |true=>rw[d1 h]at n5;cases n5
     have n7:L n=Y:=by
      cases h:L n with
      |false=>rfl
      |true=>rw[dn h j (by omega) (by omega) (by omega)]at B;cases B
     obtain⟨y,bl,b6⟩:=Hx hT dk (b3 L hd) (j:=j) (o:=o') (by rw[hA j hj];exact c) (by show L (A j)=Y;rw[D j hj];exact B) (λ e I=>by
      have:=b8 j o' (by rw[hA j hj];exact c) e I;show L (A e)=O;rw[D e (by omega)];exact hp e I)
     have b2:=c1 L j;rw[D j hj]at b2;have e1:G L=W L:=by show T3 d v rm bm (W L) (L m) (L (m+1)) (L n)=_;rw[n5,n6,n7];rfl
     have e2:G (λ i=>X (i=j)||L i)=W (λ i=>X (i=j)||L i):=by
      show T3 d v rm bm (W _) (X (m=j)||L m) (X (m+1=j)||L (m+1)) (X (n=j)||L n)=_;rw[H L j m (by omega),H L j (m+1) (by omega),H L j n (by omega),n5,n6,n7];rfl
     rw[e1,e2,b2];rw[hW];refine⟨y,?_,b6⟩;have d0:Jc m o'=O:=el o' (aK (i:=j) (by rw[wi hj,gF];exact c))
     have c6:∀tm,cV ops tm o'=cV pre tm o':=λ tm=>by
      unfold cV;unfold Jc at d0;cases hg:o'.guard with
      |none=>rfl
      |some gw=>
        obtain⟨g,fP⟩:=gw;rw[hg]at d0;simp only;rw[hA g (gV d0)]
     unfold nc at bl |-
     rw[c6];exact bl
    .by_cases ds:j=m
     .subst ds;rw[b0]at c;cases c;have a0:=cl hd b0 hp k4
      have n6:L (j+1)=Y:=by
       cases h:L (j+1)with
       |false=>rfl
       |true=>rw[d1 h]at B;cases B
      have bp:=a1 L j λ i f=>(c3 i f).1;have b5:=(Wp L a0).1;refine⟨(v,U),.inl ⟨a7 _,?_⟩,?_⟩
      .show opA C ex (cond (L j) _ _) _ p.op=_;rw[B,Jy,<-xo λ y hy=>(fF y hy L a0).symm,ax];apply g5 _;show(cond (L n) (bm (cond (L (j+1)) _ _)) (cond (L (j+1)) _ _)).rw=_;rw[n6];cases L n<;>exact(bz St.rw b5:(W L).I.rw=u.I.rw)
      .show T3 d v rm bm (W _) (X (j=j)||L j) (X (j+1=j)||L (j+1)) (X (n=j)||L n)=bX (T3 d v rm bm (W L) (L j) (L (j+1)) (L n)) p (v,U);rw[a9 L j,H L j (j+1) (by omega),H L j n (by omega),bp,B];unfold bX;rw[ep];rfl
     .by_cases dT:j=m+1
      .subst dT;rw[b1]at c;cases c;have h5:=cl hd b1 hp k5;have d4:=h5 m (wj m);have a0:∀i,i<m->L i=O:=λ i f=>h5 i (by omega);have bp:=a1 L (m+1) λ i f=>(c3 i f).2.1;have b5:=(Wp L a0).1;refine⟨(x6,Z (cond (L n) (bm (rm u.I)) (rm u.I))),.inl ⟨a8 _,?_⟩,?_⟩
       .show opA C ex (cond (L m) _ _) (cond (L n) (bm (cond (L (m+1)) _ _)) (cond (L (m+1)) _ _)) o.op=_;rw[d4,cond_true,B,Jy,b5];rw[<-xo (tm:=u.tm.set d v) λ y hy=>?_,a2]
        .cases L n
         .exact g6 _ rfl
         .exact g6 (bm u.I) rfl
        .rw[a2]at hy;simp only[Op.operands,be,sX,or_false]at hy;rcases hy with rfl|rfl
         .show(u.tm.set d v).getD d .dead=((W L).tm.set d v).getD d .dead;rw[d8,dO,gD (by rw[c2];exact d2)];rfl
         .exact(fB L a0).symm
       .show T3 d v rm bm (W _) (X (m=m+1)||L m) (X (m+1=m+1)||L (m+1)) (X (n=m+1)||L n)=bX (T3 d v rm bm (W L) (L m) (L (m+1)) (L n)) o _;rw[a9 L (m+1),H L (m+1) m (by omega),H L (m+1) n (by omega),bp,B];unfold bX T3;rw[eo,b5];cases L n<;>rfl
      .by_cases dr:j=n
       .subst dr;rw[cd]at c;cases c;have es:=c0 hd hp;have bp:=a1 L j λ i f=>(c3 i f).2.2;have ea:=b4 L es;refine⟨(x7,Z (bm (cond (L (m+1)) (rm u.I) u.I))),.inl ⟨a6 _,?_⟩,?_⟩
        .show opA C ex (cond (L m) ((W L).tm.set d v) (W L).tm) (cond (L j) (bm (cond (L (m+1)) (rm (W L).I) (W L).I)) (cond (L (m+1)) (rm (W L).I) (W L).I)) q.op=_;rw[B,Jy,ea,bs];cases L m
         .apply g7 u.tm _ eb ev;cases L (m+1)<;>rfl
         .apply g7 (u.tm.set d v) _ rfl rfl;cases L (m+1)<;>rfl
        .show T3 d v rm bm (W _) (X (m=j)||L m) (X (m+1=j)||L (m+1)) (X (j=j)||L j)=bX (T3 d v rm bm (W L) (L m) (L (m+1)) (L j)) q _;rw[a9 L j,H L j m (by omega),H L j (m+1) (by omega),bp,B,ea];unfold bX T3;rw[em];rfl
       .obtain⟨i,rfl⟩:∃i,j=i+2:=⟨j-2,by omega⟩
        have b9:m<=i:=by omega
        have fg:i<n-2:=by omega
        have ad:=hB i b9 fg;rw[c]at ad;have ad:pre[i]?=Z (qe m o'):=ad;obtain⟨r0,e0,g1,g2,g3,g4,cf,fz,fv,_⟩:=E i _ b9 ad;rw[c]at g1;cases g1
        have n7:L n=Y:=by
         cases h:L n with
         |false=>rfl
         |true=>rw[dn h (i+2) (by omega) (by omega) (by omega)]at B;cases B
        obtain⟨y,bl,b6⟩:=Hx hT dk (b3 L hd) (j:=i) (o:=qe m o') ad (by show L (A i)=Y;rw[M i b9];exact B) (λ e I=>by
         rw[LH]at I;obtain⟨x,bn,rfl⟩:=bE.1 I
         have e:A (shI m x)=x:=by
          unfold shI;rcases fv x bn with h|h
          .rw[show Nat.blt x m=O from qM h];exact D x h
          .rw[show Nat.blt x m=Y from by rw[ta];intro h';have:=gV h';omega];rw[Jy,M _ (by omega)];omega
         show L (A (shI m x))=O;rw[e];exact hp x bn)
        have b2:=c1 L i;rw[M i b9]at b2
        have ek:o'.guard=U:=by
         unfold vl at cf;split at cf<;>first|(cases cf;done)|assumption
        have fs:W L=F (V pre) l s (λ i=>L (A i)) pre.size:=by rw[hW]
        rw[<-fs]at bl b6
        have c8:opA C ex (W L).tm (W L).I o'.op=Z y:=by
         rcases bl with⟨_,h⟩|⟨h,_⟩
         .exact h
         .unfold cV at h;rw[show(qe m o').guard=U from ek]at h;cases h
        obtain⟨yx,yz⟩:=y
        obtain⟨rfl,ec⟩:=qpO (tm':=cond (L m) ((W L).tm.set d v) (W L).tm) (τ:=(G L).I) cf c8 λ y hy=>by
         cases L m
         .rfl
         .exact(Zm (fz y hy)).symm
        refine⟨(yx,U),.inl ⟨by unfold cV;rw[ek],ec⟩,?_⟩;show T3 d v rm bm (W _) (X (m=i+2)||L m) (X (m+1=i+2)||L (m+1)) (X (n=i+2)||L n)=bX (T3 d v rm bm (W L) (L m) (L (m+1)) (L n)) o' (yx,U);rw[H L (i+2) m (by omega),H L (i+2) (m+1) (by omega),H L (i+2) n (by omega),b2,b6];unfold bX T3;rw[g3,show(qe m o').dst=Z e0 from g3];simp only[turn];congr 1;cases L m
        .rfl
        .exact List.set_comm _ _ g4
   .intro i r K cb;exfalso;have cb:(Array.replicate ops.size Y).getD i Y=O:=cb;rw[ar]at cb;cases cb
   .rw[d5];exact f.drew
   .rw[d5];exact ht
   .intro Γ' w' a' g1 g2 g3 g4 g5;rw[d5]at g4;rw[et]at g2 g3 g4;exact hq Γ' w' a' ((Ext.drew Γ w).trans g1) g2 g3 g4 g5
 |_=>rw[c7]at a4;cases a4
end
end
section
open RowKit
section
variable {P:ba}{C:Cfg}{Γ:Gh}{I:St}{w:aC}{ops:aL Oper}{ex:dJ}{l:aa (AV×ac St)}{s0:S}
theorem qsS(q:db P C)(k:mg P ex)(o:mY C ex ops l s0)(j:lk C.lo s0.tm ops=O){Q:Exit->Act->aC->Prop}:∀(d:Nat) (c:aL Bool) (Γ:Gh) (w:aC) (a:Act),c.size=ops.size->c.toList.countP (λ b => !b)=d->gq ops (λ i=>c.getD i Y)->
  Inv Γ (F (V ops) l s0 (λ i=>c.getD i Y) ops.size).I w->ck Γ (F (V ops) l s0 (λ i=>c.getD i Y) ops.size).tm a->
  (∀Γ' w' h,Ext Γ w Γ' w'->Inv Γ' (F (V ops) l s0 aP ops.size).I w'->ck Γ' (F (V ops) l s0 aP ops.size).tm h->bN (F (V ops) l s0 (λ i=>c.getD i Y) ops.size).I (F (V ops) l s0 aP ops.size).I->h.defers=a.defers->Q .normal h w')->
  wpAny P .any ops Q d c a w:=
 λ d c Γ w a e g f=>Zd q k (ji:=λ _=>True) (λ _ _ _=>trivial) (FH j).1 (λ _ _ _ f _ n p m=>Hx o j f n p m) d c Γ w a e g f trivial
theorem qo0(g:db P C)(m:mg P ex){id:Nat}{b:Bool}{s d:S}(f:mi C.lo s.tm ops b=O)(h:cU C ex ops b (V ops) s=Z d){a:Act}{Q:Exit->Act->aC->Prop}(p:Inv Γ s.I w)(n:ck Γ s.tm a)
  (o:∀Γ' w' e,Ext Γ w Γ' w'->Inv Γ' d.I w'->ck Γ' d.tm e->bN s.I d.I->e.defers=a.defers->Q .normal e w'):(Code.region id ops b).wp P Q a w:=by
 cases b with
 |false=>
   apply wp_region;have:=Ol g m (ops:=ops) (V ops) 0 s Γ w a (by simp) h p n o;rw[ir,<-List.range_eq_range']at this;exact this
 |true=>
   let⟨l,H,r,D,B⟩:=Af (V ops) s d h;have A:mY C ex ops l s:=L5 D B;rw[ir]at r;have f:lk C.lo s.tm ops=O:=f
   have c:∀k,F (V ops) l s (λ i=>(Array.replicate ops.size Y).getD i Y) k=s:=by
    intro k
    induction k with
    |zero=>rfl
    |succ k v=>
      simp only[F]
      have:(Array.replicate ops.size Y).getD k Y=Y:=by
       rw[kS,Ju];split<;>rfl
      rw[this];split
      .next z=>cases z
      .exact v
   apply wp_region_any g.mixed;refine qsS g m A f ops.size _ Γ _ a (by simp) (by rw[yP,qcY];simp) ?_ ?_ ?_ ?_
   .intro i q x y;exfalso
    have:(Array.replicate ops.size Y).getD i Y=Y:=by
     rw[kS,Ju];split<;>rfl
    grind
   .rw[c];exact p.drew
   .rw[c];exact n
   .intro Γ' w' e G u t j E;rw[c]at j;rw[r]at u t j;exact o Γ' w' e ((Ext.drew Γ w).trans G) u t j E
def COk(P:ba)(ex:dJ)(c:Code):Prop:=
 ∀s e b,iF c=O->ex c s=Z (e,b)->∀Γ w a,Inv Γ s.I w->ck Γ s.tm a->a.defers=[]->
  c.wp P (λ f d w'=>f=e.toExit/\d.defers=[]/\∃Γ',Ext Γ w Γ' w'/\Inv Γ' b.I w'/\ck Γ' b.tm d/\bN s.I b.I) a w
theorem qrt{s:S}{a:Act}(g:Inv Γ s.I w)(f:ck Γ s.tm a)(t:Nat):
  ∃Γ',Ext Γ w Γ' w/\Inv Γ' (ib s t).I w/\ck Γ' (ib s t).tm a/\bN s.I (ib s t).I:=by
 unfold ib;cases v:rsA (s.tm.getD t .dead)with
 |nil=>exact⟨Γ,.refl _ _,g,f,.refl _⟩
 |cons r l=>
   let⟨m,h,p,o⟩:=pL (r::l) g ((r::l)++s.I.wrr);refine⟨_,AG h w,p,?_,Mj (r::l)⟩;have n:Le Γ {Γ with mem:=m}:=(AG h w).le;have k:=NG g n (λ q y=>o q (by rw[<-v];exact y)) (f.get t);have c:RepL {Γ with mem:=m} s.tm (V a.tmps):=JE n f;refine⟨by rw[fD];exact c.len,λ i x u b j=>?_⟩;by_cases d:t=i
   .subst d;rw[gD (by have:=getElem?_lt b;simpa using this)]at b;cases b
    have:a.tmps.getD t undef=u:=by
     rw[kS,<-gF,j];rfl
    rw[this]at k;exact k
   .rw[kQ d]at b;exact c.rep i x u b j
theorem Y0{a:Act}:∀(ts:aa Nat) {s:S}{Γ:Gh},Inv Γ s.I w->ck Γ s.tm a->
  ∃Γ',Ext Γ w Γ' w/\Inv Γ' (kE ts s).I w/\ck Γ' (kE ts s).tm a/\bN s.I (kE ts s).I
 |[],s,Γ,d,c=>⟨Γ,.refl _ _,d,c,.refl _⟩
 |t::ts,s,Γ,d,c=>by
   let⟨e,m,l,k,j⟩:=qrt d c t;let⟨b,i,h,g,f⟩:=Y0 ts l k;exact⟨b,m.trans i,h,g,j.trans f⟩
theorem qrY{b:Code}{n:Nat}(o:∀m,m<n->COk P (dZ C m) b){s:S}{e:Ex}{g:S}(z:iF b=O)(h:dZ C n (.loop b) s=Z (e,g)){a:Act}(hi:Inv Γ s.I w)(ht:ck Γ s.tm a)(I:a.defers=[]):
  (Code.loop b).wp P (λ A f w'=>A=e.toExit/\f.defers=[]/\∃Γ',Ext Γ w Γ' w'/\Inv Γ' g.I w'/\ck Γ' g.tm f/\bN s.I g.I) a w:=by
 let W:Nat->Act->aC->Prop:=λ m d c=>m<=n/\∃r i,dZ C m (.loop b) r=Z (e,g)/\Ext Γ w i c/\Inv i r.I c/\ck i r.tm d/\d.defers=[]/\bN s.I r.I
 have j:∀d c,(∃m,W m d c)->∃m,W m d c/\∀k,W k d c->m<=k:=by
  rintro d c ⟨m,hm⟩
  induction m using Nat.strongRecOn with
  |_ m ih=>
    by_cases z:∃k,k<m/\W k d c
    .let⟨k,H,G⟩:=z;exact ih k H G
    .exact⟨m,hm,λ k L=>Nat.le_of_not_lt λ F=>z ⟨k,F,L⟩⟩
 classical
 let t:Act->aC->Nat:=λ d c=>if h:∃m,W m d c then Classical.choose (j d c h)else 0
 have u:∀d c,(h:∃m,W m d c)->W (t d c) d c/\∀k,W k d c->t d c<=k:=by
  intro d c h;grind
 apply wp_loop (λ d c=>∃m,W m d c) t ⟨n,au _,s,Γ,h,.refl _ _,hi,ht,I,.refl _⟩;intro d c L;let⟨K,_⟩:=u d c L;let⟨v,r,i,h1,N,h3,h4,h5,M⟩:=K;generalize hm:t d c=m at *;cases m with
 |zero=>simp[dZ]at h1
 |succ m=>
   simp only[dZ,jJ]at h1;let⟨B,p1,p2,p3,p4⟩:=Y0 (C.pur b) h3 h4
   have ad:∀e1 q,dZ C m b (kE (C.pur b) r)=Z (e1,q)->(e1=.normal/\dZ C m (.loop b) q=Z (e,g)\/(e1≠.normal/\e1=e/\q=g))->
     b.wp P (Exit.then (λ f w'=>(∃m,W m f w')/\t f w'<m+1) (λ A f w'=>A=e.toExit/\f.defers=[]/\∃Γ',Ext Γ w Γ' w'/\Inv Γ' g.I w'/\ck Γ' g.tm f/\bN s.I g.I)) d c:=by
    intro e1 q hb D;apply wp_mono (o m v _ e1 q z hb B c d p2 p3 h5);rintro A f w' ⟨rfl,T,l,y,R,Q,x⟩;have y:=p1.trans y;have x:=p4.trans x;obtain⟨rfl,hl⟩|⟨E,rfl,rfl⟩:=D
    .have p:W m f w':=⟨Nat.le_of_succ_le v,q,l,hl,N.trans y,R,Q,T,M.trans x⟩
     exact⟨⟨m,p⟩,Nat.lt_succ_of_le ((u f w' ⟨m,p⟩).2 m p)⟩
    .cases e1 with
     |normal=>exact absurd rfl E
     |exit id|ret=>exact⟨rfl,T,l,N.trans y,R,Q,M.trans x⟩
   grind
theorem NO(hC:db P C):∀n,mg P (dZ C n):=by
 intro n
 induction n using Nat.strongRecOn with
 |_ n ih=>
   cases n with
   |zero=>intro c s e L _ h;simp[dZ]at h
   |succ n=>
     have j:=ih n (wj n);intro c s e L B h Γ w a A z f;cases c with
     |skip=>
       simp only[dZ,jJ,dV,fh]at h;obtain⟨rfl,rfl⟩:=h;exact wp_skip ⟨rfl,f,Γ,.refl _ _,A,z,.refl _⟩
     |label k=>
       simp only[dZ,jJ,dV,fh]at h;obtain⟨rfl,rfl⟩:=h;exact wp_label ⟨rfl,f,Γ,.refl _ _,A,z,.refl _⟩
     |exit id=>
       simp only[dZ,jJ,dV,fh]at h;obtain⟨rfl,rfl⟩:=h;exact wp_exit ⟨rfl,f,Γ,.refl _ _,A,z,.refl _⟩
     |ret=>
       simp only[dZ,jJ,dV,fh]at h;obtain⟨rfl,rfl⟩:=h;exact wp_ret ⟨rfl,f,Γ,.refl _ _,A,z,.refl _⟩
     |region id ops Q=>
       simp only[dZ,jJ]at h;split at h
       .rename_i F;have I:Q=O:=by unfold rM at F;rw[aJ]at F;exact F.1
        subst I;split at h<;>try cases h
        rename_i d l;rw[aJ,aJ]at d;split at h<;>try cases h
        next o=>split at h<;>cases h;next G=>apply qnE hC j d.1 d.2.1 d.2.2 l o G A z;intro Γ' w' R v u t q N;exact⟨rfl,by rw[N,f],Γ',v,u,t,q⟩
       .split at h
        .rename_i p M;let⟨I,_⟩:=Zv M;subst I;split at h<;>try cases h
         next d l=>split at h<;>cases h;next an o=>apply qnx hC j M d l an o A z;intro Γ' w' R v u t q N;exact⟨rfl,by rw[N,f],Γ',v,u,t,q⟩
        .split at h<;>cases h;next d l=>apply qo0 hC j d l A z;intro Γ' w' R v u t q N;exact⟨rfl,by rw[N,f],Γ',v,u,t,q⟩
     |seq x y=>
       simp only[dZ,jJ]at h;simp only[iF,aJ]at B;apply wp_seq;cases E:dZ C n x s with
       |none=>rw[E]at h;cases h
       |some r=>
         let⟨e1,S⟩:=r;rw[E]at h;apply wp_mono (j x s e1 S B.1 E Γ w a A z f);rintro e' R w' ⟨rfl,D,g,v,u,t,q⟩;cases e1 with
         |normal=>
           apply wp_mono (j y S e L B.2 h g w' R u t D);rintro ax az ar ⟨rfl,q0,ad,q1,q2,q3,q4⟩;exact⟨rfl,q0,ad,v.trans q1,q2,q3,q.trans q4⟩
         |exit id|ret=>cases h;exact⟨rfl,D,g,v,u,t,q⟩
     |cond c x y=>
       simp only[dZ,jJ]at h;simp only[iF,aJ]at B;have T:=ck.ev z c;split at h
       .next K=>rw[K]at T;exact wp_cond_true (ce T) (j x s e L B.1 h Γ w a A z f)
       .next K=>rw[K]at T;exact wp_cond_false (ce T) (j y s e L B.2 h Γ w a A z f)
       .cases h
     |block id b=>
       simp only[dZ,jJ]at h;simp only[iF]at B;apply wp_block;cases E:dZ C n b s with
       |none=>rw[E]at h;cases h
       |some r=>
         let⟨e1,S⟩:=r;rw[E]at h;apply wp_mono (j b s e1 S B E Γ w a A z f);rintro e' R w' ⟨rfl,D,g,v,u,t,q⟩;cases e1 with
         |normal|ret=>cases h;exact⟨rfl,D,g,v,u,t,q⟩
         |exit i=>
           simp only[dV,fh]at h;obtain⟨W,rfl⟩:=h;show if i=id then _ else _;split
           .next H=>rw[af H]at W;subst W;exact⟨rfl,D,g,v,u,t,q⟩
           .next H=>rw[ae H]at W;subst W;exact⟨rfl,D,g,v,u,t,q⟩
     |loop b=>
       exact qrY (n:=n+1) (λ m hm=>λ s e L B h=>ih m hm b s e L B h) B h A z f
     |_=>simp only[dZ,jJ]at h;cases h
end
end
section
open RowKit
structure PC where
 ty:Nat->Option TD
 pf:Nat->Option (List AV->Option AV)
 sp:Nat->Option (St->List AV->Option (AV×Option St))
 pur:Code->List Nat
 ld:Nat->Bool
 inl:Nat->Option Func
def emp:St:=⟨[],[],[],[]⟩
def gk(p:aa AV->ac AV):St->aa AV->ac (AV×ac St):=λ I a=>
 match I with
 |⟨[],[],[],[]⟩=>match p a with
   |Z v=>Z (v,U)
   |U=>U
 |_=>U
def PC.prim(c:PC)(f:Nat):ac (St->aa AV->ac (AV×ac St)):=match c.pf f with|Z p=>Z (gk p)|U=>c.sp f
def PC.raw(c:PC)(f:Nat):Bool:=match c.pf f with|Z _=>Y|U=>(c.sp f).isSome
def PC.cfg(c:PC):Cfg:=⟨c.ty,λ _=>U,c.prim,c.raw,c.pur,λ f=>c.raw f||(c.ld f||(c.inl f).isSome),c.inl⟩
def jb(c:PC)(f:Nat)(I:St)(a:aa AV):ac (AV×ac St):=
 match c.pf f with
 |Z p=>match noRefs (a.map (cH I.rw))with
   |O=>match p (a.map (cH I.rw))with
     |Z v=>match dE v with
       |O=>match rR v,a.flatMap rsA with
         |O,_|_,[]=>Z (v,U)
         |_,r::l=>Z (v,Z {I with rw:=frz I.rw (r::l),wrr:=(r::l)++I.wrr})
       |Y=>U
     |U=>U
   |Y=>U
 |U=>match c.sp f with
   |Z p=>fO I a p
   |U=>U
def kJ(c:PC)(tm:aa AV)(I:St)(op:Op):ac (AV×ac St):=
 match op with
 |.call ⟨.builtin b,a,ts⟩=>iE c.cfg I b ts (a.toList.map (aev tm))
 |.call ⟨.value g,a,_⟩=>match aev tm g with
   |.fn f d=>match c.inl f with
     |U=>jb c f I (a.toList.map (aev tm)++d)
     |Z _=>U
   |_=>U
 |.call _=>U
 |op=>aD c.cfg tm I op
def iG(d:aa AV->St->Op->ac (AV×ac St))(c:PC)(ops:aL Oper)(b:Bool):aa Oper->S->ac S
 |[],s=>Z s
 |o::a,s=>match cV ops s.tm o with
   |Z O=>match d s.tm s.I o.op with
     |Z (x,U)=>iG d c ops b a ⟨ia s.tm o.dst x,s.I⟩
     |Z (x,Z σ')=>match b && !(cx c.cfg.lo o.op&&ma c.cfg ops (ops.size-(J a+1)) s.tm s.I o.op)with
       |O=>U
       |Y=>iG d c ops b a ⟨ia s.tm o.dst x,σ'⟩
     |U=>U
   |Z Y=>iG d c ops b a ⟨ia s.tm o.dst xR,s.I⟩
   |U=>U
def dv(f:aa AV->St->Op->ac (AV×ac St))(c:PC)(ex:dJ):dJ
 |.skip,s|.label _,s=>Z (.normal,s)
 |.region _ ops d,s=>match rM ops d with
   |O=>match rP c.cfg.lo (V ops)&&(nZ c.cfg.lo ops&&mi c.cfg.lo s.tm ⟨bi c.cfg.lo (V ops)⟩ O),iG f c ⟨bi c.cfg.lo (V ops)⟩ O (bi c.cfg.lo (V ops)) s with
     |O,Z g=>match iG f c ops Y (alL c.cfg.lo (V ops)) g with
       |Z h=>match iG f c ops O (sL c.cfg.lo (V ops)) h with
         |Z e=>Z (.normal,e)
         |U=>U
       |U=>U
     |_,_=>U
   |Y=>match qx ops d with
     |Z p=>match mi c.cfg.lo s.tm (jq ops) O,iG f c (jq ops) O (V (jq ops)) s with
       |O,Z g=>match vO g.tm ops p,iG f c ops O (ph ops) g with
         |O,Z e=>Z (.normal,e)
         |_,_=>U
       |_,_=>U
     |U=>match mi c.cfg.lo s.tm ops d,iG f c ops d (V ops) s with
       |O,Z e=>Z (.normal,e)
       |_,_=>U
 |.seq a b,s=>match ex a s with
   |Z (.normal,e)=>ex b e
   |r=>r
 |.cond t x y,s=>match aev s.tm t with
   |.v (.bool O)=>ex x s
   |.v (.bool Y)=>ex y s
   |_=>U
 |.block id b,s=>match ex b s with
   |Z (.exit i,e)=>Z (if i=id then .normal else .exit i,e)
   |r=>r
 |.loop b,s=>match ex b (kE (c.pur b) s)with
   |Z (.normal,e)=>ex (.loop b) e
   |r=>r
 |.exit id,s=>Z (.exit id,s)
 |.ret,s=>Z (.ret,s)
 |_,_=>U
def bW(a:aa AV->St->Op->ac (AV×ac St))(c:PC):Nat->dJ
 |0=>λ _ _=>U
 |n+1=>dv a c (bW a c n)
def yt(c:PC)(I:St)(fn:Func)(a:aa AV):ac (AV×ac St):=match fn.body with
 |U=>U
 |Z d=>match bW (kJ c) c 12 d ⟨a++List.replicate (fn.ntmps-J a) .dead,I⟩with
   |Z (.exit _,_)=>U
   |Z (_,b)=>match nU c.cfg fn b with
     |Z r=>Z (r,Z b.I)
     |U=>U
   |U=>U
def ju(c:PC)(tm:aa AV)(I:St)(op:Op):ac (AV×ac St):=
 match op with
 |.call ⟨.value g,b,_⟩=>match aev tm g with
   |.fn f a=>match c.inl f with
     |Z fn=>yt c I fn (b.toList.map (aev tm)++a)
     |U=>jb c f I (b.toList.map (aev tm)++a)
   |_=>U
 |op=>kJ c tm I op
theorem Xd{fb fr}(x)(h:rb x=[])(g:rr x=[]):ren fb fr x=x:=AU fb fr x h g
def Ma{fb fr}(xs)(h:rbL xs=[])(g:rrL xs=[]):bu fb fr xs=xs:=AQ fb fr xs h g
theorem xb{x}(h:dE x=O):rb x=[]/\rr x=[]:=by
 grind [dE]
def FU: ∀{xs},noRefs xs=O->rbL xs=[]/\rrL xs=[]
 |[],_=>⟨rfl,rfl⟩
 |x::xs,h=>by
   simp only[noRefs,dt,aJ]at h;let⟨d,c⟩:=xb h.1;let⟨b,a⟩:=FU h.2;grind [rbL,rrL]
def Ux{I a p v}(g:noRefs a=O)(i:p a=Z v)(f:dE v=O):fO I a (λ I a=>gk p I a)=Z (v,U):=by
 let⟨d,c⟩:=FU g;let⟨k,j⟩:=xb f
 have b:ee I a=[]:=by
  unfold ee;rw[d];cases J I.bx with
  |zero|succ n=>rfl
 have e:im I a=[]:=by
  unfold im;rw[b,c];rfl
 unfold fO
 have h:oi I a=O:=by
  unfold oi;rw[b,e,d,c];rfl
 rw[b,e,Ma a d c];have:bM I [] []=⟨[],[],[],[]⟩:=rfl;grind [gk,oY,Xd]
def qoV{c ex f I a r}(h:jb c f I a=Z r):mR c.cfg ex I f a=Z r:=by
 unfold jb at h;split at h
 rotate_left
 .rename_i g;split at h<;>try cases h
  rename_i p e;have b:c.cfg.raw f=O:=by show c.raw f=O;unfold PC.raw;rw[g,e];rfl
  have d:(λ(I:St) a=>jr c.cfg ex I f a)=p:=by
   simp_all [jr,PC.cfg,PC.prim]
  unfold mR oZ;grind
 rename_i p g;split at h<;>try cases h
 rename_i i;split at h<;>try cases h
 rename_i v j;split at h<;>try cases h
 rename_i k
 have d:∀I:St,(λ(I:St) a=>jr c.cfg ex I f a)=λ I a=>gk p I a:=λ _=>by
  simp_all [jr,PC.cfg,PC.prim]
 have b:c.cfg.raw f=Y:=by show c.raw f=Y;unfold PC.raw;rw[g]
 unfold mR oZ;rw[b];let⟨o,n⟩:=FU i;cases m:a.flatMap rsA with
 |nil=>
   have:r=(v,U):=by
    grind
   subst this;rw[d I];exact Ux i j k
 |cons q l=>
   simp only;rw[d I,Ux i j k];grind [xM]
def qr9{C ex I f args r}(a:C.inl f=U)(h:mR C ex I f args=Z r)(b:C.lo f=Y->C.raw f=Y/\noRefs (args.map (cH I.rw))=O/\dE r.1=O):mX C ex I f args=Z r:=by
 grind [mX]
theorem X3{c ex f I args r}(e:c.inl f=U)(h:jb c f I args=Z r):mX c.cfg ex I f args=Z r:=by
 refine qr9 e (qoV h) λ d=>?_;unfold jb at h;split at h
 rotate_left
 .rename_i b;split at h<;>try cases h
  rename_i p a;have:c.cfg.lo f=O:=by show(c.raw f||(c.ld f||(c.inl f).isSome))=O;unfold PC.raw;rw[b,a];rfl
  rw[d]at this;cases this
 rename_i p b;have g:c.cfg.raw f=Y:=by show c.raw f=Y;unfold PC.raw;rw[b]
 grind
def Zi{c ex tm I op r}(h:kJ c tm I op=Z r):opA c.cfg ex tm I op=Z r:=by
 unfold kJ at h;grind [opA,rG,X3]
theorem zO{pp c ex}(a:∀tm I op r,pp tm I op=Z r->opA c.cfg ex tm I op=Z r){ops draw}:∀{l s d},iG pp c ops draw l s=Z d->cU c.cfg ex ops draw l s=Z d
 |[],s,d,h=>h
 |o::f,s,d,h=>by
   simp only[iG]at h;simp only[cU];split at h
   .rename_i e;rw[e];split at h
    .next x b=>rw[a _ _ _ _ b];exact zO a h
    .rename_i x σ' b;rw[a _ _ _ _ b];split at h
     .cases h
     .next g=>rw[g];exact zO a h
    .cases h
   .next e=>rw[e];exact zO a h
   .cases h
def Nj{f c d}(k:∀n tm I op r,f tm I op=Z r->opA c.cfg (dZ c.cfg (n+d)) tm I op=Z r):∀{n e s r},bW f c n e s=Z r->dZ c.cfg (n+d) e s=Z r:=by
 intro n
 induction n with
 |zero=>intro e s r h;simp[bW]at h
 |succ n j=>
   intro e s r h;simp[bW]at h;rw[show n+1+d=(n+d)+1 by omega];simp[dZ];cases e with
   |region id ops i=>
     simp[dv]at h;simp[jJ];split at h
     .grind [zO]
     .grind [zO]
   |seq a b=>
     grind [dv,jJ]
   |cond t x y=>
     grind [dv,jJ]
   |block id b=>
     grind [dv,jJ]
   |loop b=>
     simp[dv]at h;simp[jJ];cases g:bW f c n b (kE (c.pur b) s)with
     |none=>rw[g]at h;cases h
     |some q=>
       rw[g]at h;rw[show dZ c.cfg (n+d) b (kE (c.cfg.pur b) s)=_ from j g];grind
   |_=>exact h
def qnw{pp c}:∀{n d s r},bW pp c n d s=Z r->bW pp c (n+1) d s=Z r:=by
 intro n
 induction n with
 |zero=>intro d s r h;simp[bW]at h
 |succ n e=>
   intro d s r h;rw[bW]at h |-
   cases d with
   |seq a b=>
     grind [dv]
   |cond t x y=>
     grind [dv]
   |block id b=>
     grind [dv]
   |loop b=>
     grind [dv]
   |_=>exact h
theorem rA{pp c n m}(a:n<=m){cd s r}(h:bW pp c n cd s=Z r):bW pp c m cd s=Z r:=by
 induction a with
 |refl=>exact h
 |step _ b=>exact qnw b
def qpC{c I fn args r}(h:yt c I fn args=Z r):∃b e a x,fn.body=Z b/\bW (kJ c) c 12 b ⟨args++List.replicate (fn.ntmps-J args) .dead,I⟩=Z (e,a)/\(e=.ret\/e=.normal)/\nU c.cfg fn a=Z x/\r=(x,Z a.I):=by
 unfold yt at h;split at h<;>try cases h
 rename_i b j;split at h<;>try cases h
 rename_i e a d g;split at h<;>cases h;rename_i x f;refine⟨b,e,a,x,j,g,?_,f,rfl⟩;cases e with
 |normal=>exact .inr rfl
 |ret=>exact .inl rfl
 |exit i=>exact(d i rfl).elim
def qsh{c}(n){tm I op r}(h:ju c tm I op=Z r):opA c.cfg (dZ c.cfg (n+12)) tm I op=Z r:=by
 unfold ju at h;split at h
 .rename_i g i ts;split at h<;>try cases h
  rename_i f b o;simp[opA,rG,o];split at h
  .rename_i fn a;obtain⟨w,e,q,x,v,p,u,t,rfl⟩:=qpC h;have s:=Nj (d:=0) (λ n tm I op r h=>Zi h) (rA (m:=n+12) (by omega) p);have k:c.cfg.lo f=O:=by show(c.raw f||(c.ld f||(c.inl f).isSome))=O;rw[a];simp
   have l:c.cfg.inl f=Z fn:=a;unfold mX;unfold yF;grind
  .next a=>exact X3 a h
 .next op j=>exact Zi h
def WG{c}:∀n tm I op r,ju c tm I op=Z r->opA c.cfg (dZ c.cfg (n+12)) tm I op=Z r:=λ n _ _ _ _ h=>qsh n h
def Run(c:PC)(b:Code)(s:S)(K:Ex->S->Prop):Prop:=∃n e a,bW (ju c) c n b s=Z (e,a)/\K e a
inductive It where
 |code (c:Code)|blk (id:Nat)|ops (os:Array Oper) (draw:Bool) (rest:List Oper)
def Go(c:PC)(Q:Ex->S->Prop):aa It->Ex->S->Prop
 |[],e,s=>Q e s
 |.code g::k,.normal,s=>Run c g s λ e b=>Go c Q k e b
 |.code _::k,e,s=>Go c Q k e s
 |.blk id::k,.exit i,s=>Go c Q k (if i=id then .normal else .exit i) s
 |.blk _::k,e,s=>Go c Q k e s
 |.ops f d a::k,.normal,s=>∃b,iG (ju c) c f d a s=Z b/\Go c Q k .normal b
 |.ops _ _ _::k,e,s=>Go c Q k e s
section
variable {c:PC}{Q:Ex->S->Prop}{k:aa It}{tm:aa AV}{I:St}{s:S}
def qaf{cd K}(h:∀n,∀r,dv (ju c) c (bW (ju c) c n) cd s=Z r↔r=(.normal,s)):Run c cd s K↔K .normal s:=by
 constructor
 .rintro⟨n,e,f,a,d⟩;cases n with
  |zero=>simp[bW]at a
  |succ n=>have:=(h n _).1 a;cases this;exact d
 .intro b;exact⟨1,_,_,(h 0 _).2 rfl,b⟩
def qqo: Go c Q (.code .skip::k) .normal s=Go c Q k .normal s:=
 propext (qaf λ n r=>⟨λ h=>by cases h;rfl,λ h=>by rw[h];rfl⟩)
def qqE(l):Go c Q (.code (.label l)::k) .normal s=Go c Q k .normal s:=
 propext (qaf λ n r=>⟨λ h=>by cases h;rfl,λ h=>by rw[h];rfl⟩)
def qrD(id):Go c Q (.code (.exit id)::k) .normal s=Go c Q k (.exit id) s:=by
 apply propext;constructor
 .rintro⟨n,e,d,a,b⟩;cases n with
  |zero=>simp[bW]at a
  |succ n=>simp only[bW,dv,fh]at a;obtain⟨rfl,rfl⟩:=a;exact b
 .intro h;exact⟨1,_,_,rfl,h⟩
def qsc: Go c Q (.code .ret::k) .normal s=Go c Q k .ret s:=by
 apply propext;constructor
 .rintro⟨n,e,d,a,b⟩;cases n with
  |zero=>simp[bW]at a
  |succ n=>simp only[bW,dv,fh]at a;obtain⟨rfl,rfl⟩:=a;exact b
 .intro h;exact⟨1,_,_,rfl,h⟩
def qmD(cd):Go c Q (.code cd::k) .ret s=Go c Q k .ret s:=rfl
def qk8(cd i):Go c Q (.code cd::k) (.exit i) s=Go c Q k (.exit i) s:=rfl
def qkz(id):Go c Q (.blk id::k) .normal s=Go c Q k .normal s:=rfl
def qnU(id):Go c Q (.blk id::k) .ret s=Go c Q k .ret s:=rfl
def qmX(id i):Go c Q (.blk id::k) (.exit i) s=Go c Q k (if i=id then .normal else .exit i) s:=rfl
def qsR(a b):Go c Q (.code (.seq a b)::k) .normal s=Go c Q (.code a::.code b::k) .normal s:=by
 apply propext;constructor
 .rintro⟨n,e,g,d,f⟩;cases n with
  |zero=>simp[bW]at d
  |succ n=>
    simp[bW,dv]at d;split at d
    .next h l=>exact⟨n,_,h,l,n,e,g,d,f⟩
    .rename_i j;refine⟨n,e,g,d,?_⟩;cases e with
     |normal=>exact absurd d (j g)
     |exit i|ret=>exact f
 .rintro⟨n,e,h,d,f⟩;cases e with
  |normal=>
    let⟨m,e,g,p,o⟩:=f;refine⟨n+m+1,e,g,?_,o⟩;simp[bW,dv];rw[rA (by omega) d];exact rA (by omega) p
  |exit i|ret=>exact⟨n+1,_,h,by simp[bW,dv];rw[d],f⟩
def qqz(id b):Go c Q (.code (.block id b)::k) .normal s=Go c Q (.code b::.blk id::k) .normal s:=by
 apply propext;constructor
 .rintro⟨n,e,h,a,f⟩;cases n with
  |zero=>simp[bW]at a
  |succ n=>
    simp[bW,dv]at a;cases g:bW (ju c) c n b s with
    |none=>rw[g]at a;cases a
    |some q=>
      rw[g]at a;let⟨e1,d⟩:=q;refine⟨n,e1,d,g,?_⟩;cases e1<;>(simp at a;obtain⟨rfl,rfl⟩:=a;exact f)
 .rintro⟨n,e,d,a,f⟩;cases e with
  |normal|exit i|ret=>exact⟨n+1,_,d,by simp[bW,dv];rw[a],f⟩
def go_loop(b):Go c Q (.code (.loop b)::k) .normal s=Go c Q (.code b::.code (.loop b)::k) .normal (kE (c.pur b) s):=by
 apply propext;constructor
 .rintro⟨n,e,f,a,d⟩;cases n with
  |zero=>simp[bW]at a
  |succ n=>
    simp[bW,dv]at a;split at a
    .next g j=>exact⟨n,_,g,j,n,e,f,a,d⟩
    .rename_i h;refine⟨n,e,f,a,?_⟩;cases e with
     |normal=>exact absurd a (h f)
     |exit i|ret=>exact d
 .rintro⟨n,e,g,a,d⟩;cases e with
  |normal=>
    let⟨m,e,f,o,l⟩:=d;refine⟨n+m+1,e,f,?_,l⟩;simp[bW,dv];rw[rA (by omega) a];exact rA (by omega) o
  |exit i|ret=>exact⟨n+1,_,g,by simp[bW,dv];rw[a],d⟩
theorem qoH (rw y):rsA (cH rw y)=[]:=by
 have b:∀ x,rsC (bA rw x)=[]:=by
  intro x;cases x with
  | rs r lo n a f =>
    simp [bA];split
    ·split<;>rfl
    ·rfl
  | _=>rfl
 cases y with
 | agg cs =>
   show (cs.map (bA rw)).flatMap rsC=[];grind [List.flatMap_map,List.flatMap_eq_nil_iff]
 | rs r lo n a f =>
   show rsA (bA rw (.rs r lo n a f))=[];simp [bA];split
   ·split<;>rfl
   ·rfl
 | _=>rfl
def Oy(ts:aa Nat)(s:S):Prop:=∀t∈ts,rsA (s.tm.getD t .dead)=[]
def qnC(s t u)(h:u=t\/rsA (s.tm.getD u .dead)=[]):rsA ((ib s t).tm.getD u .dead)=[]:=by
 unfold ib;cases b:rsA (s.tm.getD t .dead)with
 |nil=>
   grind
 |cons r l=>
   by_cases c:t=u
   .subst c
    have d:t<J s.tm:=by
     apply qcZ;intro a;rw[dO,oI a]at b;cases b
    grind [List.getElem?_set_self,qoH]
   .grind
def Vb: ∀ts s us,Oy us s->Oy (us++ts) (kE ts s)
 |[],s,us,h=>by rw[bJ];exact h
 |t::ts,s,us,h=>by
   have:=Vb ts (ib s t) (us++[t]) (λ u a=>qnC s t u (by
    obtain a|a:=aR.1 a
    .exact .inr (h u a)
    .exact .inl (by grind)))
   rw[bC]at this;exact this
def YO: ∀ts s,Oy ts s->kE ts s=s
 |[],s,h=>rfl
 |t::ts,s,h=>by
   have e:ib s t=s:=by unfold ib;rw[h t (bj ..)]
   show kE ts (ib s t)=s;rw[e];exact YO ts s λ u a=>h u (bk _ a)
def qsV(b):Go c Q (.code (.loop b)::k) .normal (kE (c.pur b) s)=Go c Q (.code (.loop b)::k) .normal s:=by
 rw[go_loop,go_loop,YO _ _ (by have:=Vb (c.pur b) s [] (λ _ h=>by cases h);simpa using this)]
def Jb(c:PC)(Q:Ex->S->Prop)(k:aa It)(s:S)(x y:Code):AV->Prop
 |.v (.bool O)=>Go c Q (.code x::k) .normal s
 |.v (.bool Y)=>Go c Q (.code y::k) .normal s
 |_=>False
def qsd(t x y):Go c Q (.code (.cond t x y)::k) .normal ⟨tm,I⟩=Jb c Q k ⟨tm,I⟩ x y (aev tm t):=by
 apply propext;constructor
 .rintro⟨n,e,d,a,f⟩;cases n with
  |zero=>simp[bW]at a
  |succ n=>
    simp[bW,dv]at a;split at a
    .next b=>rw[b];exact⟨n,e,d,a,f⟩
    .next b=>rw[b];exact⟨n,e,d,a,f⟩
    .cases a
 .intro h;unfold Jb at h;split at h
  .next b=>let⟨n,e,d,a,f⟩:=h;exact⟨n+1,e,d,by simp[bW,dv,b];exact a,f⟩
  .next b=>let⟨n,e,d,a,f⟩:=h;exact⟨n+1,e,d,by simp[bW,dv,b];exact a,f⟩
  .exact h.elim
def qoD(x y):Jb c Q k s x y (.v (.bool O))=Go c Q (.code x::k) .normal s:=rfl
def qnM(x y):Jb c Q k s x y (.v (.bool Y))=Go c Q (.code y::k) .normal s:=rfl
def qnA(id l d){p}(g:rM ⟨l⟩ d=Y)(f:qx ⟨l⟩ d=Z p)(m:mi c.cfg.lo s.tm (jq ⟨l⟩) O=O)(h:Go c (λ e a=>vO a.tm ⟨l⟩ p=O/\Go c Q (.ops ⟨l⟩ O (ph ⟨l⟩)::k) .normal a) (.ops (jq ⟨l⟩) O (V (jq ⟨l⟩))::[]) .normal s):Go c Q (.code (.region id ⟨l⟩ d)::k) .normal s:=by
 let⟨a,o,j,b,n,i⟩:=h;refine⟨1,.normal,b,?_,i⟩;simp_all [bW,dv]
theorem go_region(id l d)(f:rM ⟨l⟩ d=Y)(b:qx ⟨l⟩ d=U):Go c Q (.code (.region id ⟨l⟩ d)::k) .normal s=(mi c.cfg.lo s.tm ⟨l⟩ d=O/\Go c Q (.ops ⟨l⟩ d l::k) .normal s):=by
 apply propext;constructor
 .rintro⟨n,e,i,a,h⟩;cases n with
  |zero=>simp[bW]at a
  |succ n=>
    simp[bW,dv,f,b]at a;split at a<;>cases a;next g j=>exact⟨g,_,j,h⟩
 .rintro⟨g,i,a,h⟩;exact⟨1,.normal,i,by simp[bW,dv,f,b];rw[g,a],h⟩
theorem qnL(id l d)(b:rM ⟨l⟩ d=O)(j:rP c.cfg.lo l=O)(e:nZ c.cfg.lo ⟨l⟩=O)(m:mi c.cfg.lo s.tm ⟨bi c.cfg.lo l⟩ O=O)(h:Go c Q (.ops ⟨bi c.cfg.lo l⟩ O (bi c.cfg.lo l)::.ops ⟨l⟩ Y (alL c.cfg.lo l)::.ops ⟨l⟩ O (sL c.cfg.lo l)::k) .normal s):Go c Q (.code (.region id ⟨l⟩ d)::k) .normal s:=by
 let⟨i,p,g,o,a,n,f⟩:=h;refine⟨1,.normal,a,?_,f⟩;simp_all [bW,dv]
def qm4(os d):Go c Q (.ops os d []::k) .normal s=Go c Q k .normal s:=by
 apply propext;constructor
 .rintro⟨e,a,b⟩;simp[iG,dV]at a;subst a;exact b
 .intro h;exact⟨s,rfl,h⟩
def IK(c:PC)(Q:Ex->S->Prop)(k:aa It)(e:aL Oper)(d l:Bool)(a:aa Oper)(b:ac Tmp)(tm:aa AV)(I:St):ac (AV×ac St)->Prop
 |Z (x,U)=>Go c Q (.ops e d a::k) .normal ⟨ia tm b x,I⟩
 |Z (x,Z σ')=>(d && !l)=Y/\Go c Q (.ops e d a::k) .normal ⟨ia tm b x,σ'⟩
 |U=>False
def IF(c:PC)(Q:Ex->S->Prop)(k:aa It)(b:aL Oper)(d:Bool)(a:aa Oper)(o:Oper)(tm:aa AV)(I:St):ac Bool->Prop
 |Z O=>IK c Q k b d (cx c.cfg.lo o.op&&ma c.cfg b (b.size-(J a+1)) tm I o.op) a o.dst tm I (ju c tm I o.op)
 |Z Y=>Go c Q (.ops b d a::k) .normal ⟨ia tm o.dst xR,I⟩
 |U=>False
def qsG(os d o rest):Go c Q (.ops os d (o::rest)::k) .normal ⟨tm,I⟩=IF c Q k os d rest o tm I (cV os tm o):=by
 apply propext;constructor
 .rintro⟨b,a,e⟩;simp only[iG]at a;unfold IF;split at a
  .rename_i f;unfold IK;split at a
   .next x g=>exact⟨b,a,e⟩
   .rename_i x σ' g;split at a
    .cases a
    .next i=>exact⟨i,b,a,e⟩
   .cases a
  .next f=>exact⟨b,a,e⟩
  .cases a
 .intro h;unfold IF at h;split at h
  .rename_i f;unfold IK at h;split at h
   .next x g=>let⟨b,a,e⟩:=h;exact⟨b,by simp[iG,f,g];exact a,e⟩
   .next x σ' g=>let⟨i,b,a,e⟩:=h;exact⟨b,by simp only[iG,f,g,i];exact a,e⟩
   .exact h.elim
  .next f=>let⟨b,a,e⟩:=h;exact⟨b,by simp[iG,f];exact a,e⟩
  .exact h.elim
end
end
section
open RowKit
def Sub(x y:AV):Prop:=∀Γ u,Rep Γ x u->Rep Γ y u
def Sub.refl(x:AV):Sub x x:=λ _ _ h=>h
inductive dH:List AV->List AV->Prop
 |nil:dH [] []
 |cons {x y:AV}{xs ys:List AV}:Sub x y->dH xs ys->dH (x::xs) (y::ys)
def dH.refl:∀xs,dH xs xs
 |[]=>.nil
 |x::xs=>.cons (.refl x) (.refl xs)
def dH.rep{Γ:Gh}:∀{xs ys:aa AV}{us:aa aj},dH xs ys->RepL Γ xs us->RepL Γ ys us
 |_,_,_,.nil,h=>h
 |_,_,us,.cons h t,g=>by
   obtain⟨u,r,rfl,b,a⟩:=g.uncons;exact .cons (h Γ u b) (t.rep a)
def dH.tup{xs ys:aa AV}(h:dH xs ys):Sub (.tup xs) (.tup ys):=by
 intro Γ u a;cases a with
 |tup cs us c b=>
   have:=h.rep (RepL.mk c b);exact .tup _ _ this.len this.rep
def qsm{P:ba}{C:Cfg}{Γ:Gh}{I:St}{w:aC}(t:db P C){f:cJ}{fn:Func}{c:Code}(F:P.funcs[f]?=Z fn)(E:fn.body=Z c)(o:iF c=O){b:aa AV}{a:aa aj}{r:AV×ac St}(s:Inv Γ I w)(q:RepL Γ b a)
  {n:Nat}{e:Ex}{d:S} (D:dZ C n c (qg fn I b)=Z (e,d)) (m:e=.ret\/e=.normal) (k:rN C fn I d=Z r):jF P Γ I w f a r:=by
 unfold jF;apply calls_of_wp F E;have l:Inv Γ (qg fn I b).I w:=s.wr rfl rfl
 have B:ck Γ (qg fn I b).tm {tmps:=a.toArray++Array.replicate (fn.ntmps-a.toArray.size) undef,defers:=[]}:=by
  show RepL Γ (b++List.replicate (fn.ntmps-J b) .dead) (V (a.toArray++Array.replicate (fn.ntmps-a.toArray.size) undef));rw[yO,yP];have:a.toArray.size=J b:=by simpa using q.len
  rw[this];exact q.append (zo Γ _)
 apply wp_mono (NO t n c _ e d o D Γ w _ l B rfl);rintro L x w' ⟨rfl,o,Γ',K,u,H,G⟩;unfold rN at k;split at k<;>cases k;rename_i i j;let⟨v,A,z⟩:=F3 t.ty u H j;let⟨⟨h,u1,u2,u3⟩,u4⟩:=qan s K u G z
 have:x.defers=[]/\∃v,(results fn x.tmps).run P w'=.ok v w'/\∃g Γ',Ending.returned v=.returned g/\Ext Γ w Γ' w'/\Inv Γ' (turn I (mT I i d.I).2) w'/\Rep Γ' (mT I i d.I).1 g/\bN {I with wr:=[],wrr:=[]} (turn {I with wr:=[],wrr:=[]} (mT I i d.I).2):=
  ⟨o,v,A,v,h,rfl,u1,u2,u3,u4⟩
 obtain rfl|rfl:=m
 .exact this
 .exact this
def Ret(c:PC)(a:aa ResultVar)(b:AV->Prop)(e:Ex)(s:S):Prop:=
 (e=.ret\/e=.normal)/\match jD c.cfg s.tm s.I a with
  |Z l=>refs 0 0 (nC 0 s.I.rw (cz l))=Y/\b (nC 0 s.I.rw (cz l))
  |U=>False
def GoB(c:PC)(d:AV->Prop)(fn:Func)(a:aa AV):Prop:=
 match fn.body with
 |Z b=>Go c (Ret c (V fn.results) d) [.code b] .normal ⟨a++List.replicate (fn.ntmps-J a) .dead,emp⟩
 |U=>False
def jo(fn:Func):Bool:=match fn.body with
 |Z a=>iF a && !(fn.name=="runtime.NumGoroutine")
 |U=>Y
def db.pur{P:ba}{C:Cfg}(h:db P C)(p:Code->aa Nat)(q:Nat->Bool):db P {C with pur:=p,lo:=q}:=⟨h.mixed,h.ty,h.fn,h.prim,h.inl⟩
def qpj{P:ba}{c:PC}(z:db P c.cfg){f:cJ}{fn:Func}(E:P.funcs[f]?=Z fn)(m:jo fn=O)(p:aa AV->ac AV)
  (h:∀d r,p d=Z r->∃a B p q,dH d a/\(∀v,B v->Sub v r)/\GoB {c with pur:=p,ld:=q} B fn a):cq P f (gk p):=by
 unfold jo at m;cases s:fn.body with
 |none=>rw[s]at m;cases m
 |some cd=>
 rw[s]at m;simp only[aJ,ew]at m;let⟨hd,W⟩:=m;refine⟨⟨fn,E,by rw[s];rfl,W⟩,λ Γ I w d C r hi T o=>?_⟩;unfold gk at o;split at o<;>try cases o
 split at o<;>cases o;rename_i v S;let⟨a,B,t,x,g1,g2,j⟩:=h d v S;have z:db P (PC.cfg {c with pur:=t,ld:=x}):=z.pur t _;unfold GoB at j;rw[s]at j;let⟨n,e,g,g3,g4,A⟩:=j;split at A
 case h_2=>exact A.elim
 rename_i l y;let⟨G,F⟩:=A
 have H:nU (PC.cfg {c with pur:=t,ld:=x}) fn g=Z (cz l):=by
  unfold nU;rw[y]
 generalize cz l=u at H G F
 have y:rN (PC.cfg {c with pur:=t,ld:=x}) fn emp g=Z (nC 0 g.I.rw u,U):=by
  unfold rN;rw[H];simp only[mT];have K:(g.I.wr.filter λ b=>X (b<J emp.bx))=[]:=qtt.2 λ b _=>by simp[emp]
  have f2:(g.I.wrr.filter λ b=>X (b<J emp.rw))=[]:=qtt.2 λ b _=>by simp[emp]
  have hk:vq emp u g.I=Y:=by
   unfold vq;rw[K];show(refs 0 0 (nC 0 g.I.rw u)||false)=Y;rw[G];rfl
  rw[hk,K,f2];rfl
 have k:=qsm (f:=f) (I:=emp) z E s hd hi (g1.rep T) (Nj WG g3) g4 y;apply Calls.mono k;rintro e' w' ⟨D,Γ',R,Q,N,M,L⟩;exact⟨D,Γ',R,Q,N,g2 _ F Γ' D M,L⟩
section
variable {c:PC}{Q:Ex->S->Prop}{k:aa It}{tm:aa AV}{I:St}{os:aL Oper}{d:Bool}{rest:aa Oper}{dst:ac Tmp}
def qoW(o:Oper):IF c Q k os d rest o tm I (Z O)=IK c Q k os d (cx c.cfg.lo o.op&&ma c.cfg os (os.size-(J rest+1)) tm I o.op) rest o.dst tm I (ju c tm I o.op):=rfl
end
end
end Go.AmZ
namespace Go.GxZ
open Go.RowKit
inductive T where
 |mk (kind:Int) (name:List UInt8) (sort:Int) (kids:List T)
namespace T
def kind:T->Int|mk k _ _ _=>k
def name:T->aa aN|mk _ n _ _=>n
def sort:T->Int|mk _ _ s _=>s
def kids:T->aa T|mk _ _ _ l=>l
def para{α:Type}(f:T->aa α->α)(t:T):α:=
 T.rec (motive_1:=λ _=>α) (motive_2:=λ _=>aa α) (λ k n s l c=>f (mk k n s l) c) [] (λ _ _ a b=>a::b) t
theorem para_eq{α : Type}(f:T->List α -> α)(t:T):para f t=f t (t.kids.map (para f)):=by
 obtain⟨k,n,s,l⟩:=t;show f (mk k n s l) _=f (mk k n s l) _;congr 1;show T.rec_1 (motive_1 := λ _ => α) (motive_2 := λ _=>List α) _ _ _ l=l.map (para f)
 induction l with
 | nil=>rfl
 | cons a l ih=>exact bz (para f a :: ·) ih
def ind{P:T->Prop}(h:∀t,(∀k∈t.kids,P k)->P t)(t:T):P t:=
 T.rec (motive_1:=P) (motive_2:=λ l=>∀k∈l,P k) (λ _ _ _ _ c=>h _ c) (λ k b=>by cases b)
  (λ a l e d k b=>by obtain rfl|b:=be.1 b;exact e;exact d k b) t
end T
def oh{α:Type}(k:Nat)(R:α->aa aj->Prop)(Q:Nat->Prop)(w:aC)(a:ac Addr)(xs:aa α):Prop:=
 ∀(j:Nat) (x:α),xs[j]?=Z x->∃b off cs,a=Z ⟨b,off,U⟩/\Q b/\J cs=k/\(∀(i:Nat) (c:aj),cs[i]?=Z c->w.cell? ⟨b,off+j*k+i,U⟩=Z c)/\R x cs
def gj(Q:Nat->Prop)(w:aC):T->aa aj->Prop:=
 T.para λ t b cs=>∃a c,cs=[.int .i64 t.kind,.string ⟨t.name.toArray⟩,.int .i64 t.sort,.slice a (J b) c]/\oh 4 (λ r cs=>r cs) Q w a b
theorem Gm{Q:Nat->Prop}{w:aC}{t:T}{cs:List aj}:
  gj Q w t cs↔∃a c,cs=[.int .i64 t.kind,.string ⟨t.name.toArray⟩,.int .i64 t.sort,.slice a t.kids.length c]/\oh 4 (gj Q w) Q w a t.kids:=by
 unfold gj;rw[T.para_eq];simp only[cj];refine exists_congr λ a=>exists_congr λ c=>and_congr Iff.rfl ?_;constructor
 .intro h j x d;obtain⟨b,off,cs,l,k,i,g,f⟩:=h j _ (by rw[di,d];rfl);grind
 .intro h j r d;rw[di,qc1]at d;obtain⟨x,e,rfl⟩:=d;exact h j x e
def oh.mono{α:Type}{k:Nat}{R R':α->aa aj->Prop}{Q d:Nat->Prop}{w:aC}{a:ac Addr}{xs:aa α}(h:oh k R Q w a xs)(f:∀b,Q b->d b)(e:∀x∈xs,∀cs,R x cs->R' x cs):oh k R' d w a xs:=
 λ j x c=>let⟨b,off,cs,h1,h2,h3,h4,h5⟩:=h j x c;⟨b,off,cs,h1,f b h2,h3,h4,e x (aK c) cs h5⟩
def oh.below{α:Type}{k:Nat}{R R':α->aa aj->Prop}{Q:Nat->Prop}{w w':aC}{a:ac Addr}{xs:aa α}(h:oh k R Q w a xs)(f:∀b,Q b->w'.heap[b]?=w.heap[b]?)(g:∀x∈xs,∀cs,R x cs->R' x cs):oh k R' Q w' a xs:=
 λ j x d=>let⟨b,off,cs,h1,h2,h3,h4,h5⟩:=h j x d;⟨b,off,cs,h1,h2,h3,λ i c e=>(World.cell?_of_block (w:=w) (a:=⟨b,off+j*k+i,U⟩) (f b h2)).trans (h4 i c e),g x (aK d) cs h5⟩
def gj.mono{Q d:Nat->Prop}{w:aC}(g:∀b,Q b->d b)(t:T):∀{cs:aa aj},gj Q w t cs->gj d w t cs:=by
 refine T.ind (P:=λ t=>∀{cs:aa aj},gj Q w t cs->gj d w t cs) ?_ t;intro t e cs h;rw[Gm]at h |-
 let⟨a,c,j,i⟩:=h;exact⟨a,c,j,i.mono g λ x f cs h=>e x f h⟩
def gj.keep{Q:Nat->Prop}{w w':aC}(f:∀b,Q b->w'.heap[b]?=w.heap[b]?)(t:T):∀{cs:aa aj},gj Q w t cs->gj Q w' t cs:=by
 refine T.ind (P:=λ t=>∀{cs:aa aj},gj Q w t cs->gj Q w' t cs) ?_ t;intro t d cs h;rw[Gm]at h |-
 let⟨a,c,i,g⟩:=h;exact⟨a,c,i,g.below f λ x e cs h=>d x e h⟩
def qaK(t:T)(a:ac Addr)(c:Nat):aa aj:=[.int .i64 t.kind,.string ⟨t.name.toArray⟩,.int .i64 t.sort,.slice a (J t.kids) c]
def kD(Q:Nat->Prop)(w:aC)(a:ac Addr)(l:aa T):Prop:=oh 4 (gj Q w) Q w a l
def gj.mk{Q:Nat->Prop}{w:aC}{t:T}{a:ac Addr}{c:Nat}(h:kD Q w a t.kids):gj Q w t (qaK t a c):=Gm.2 ⟨a,c,rfl,h⟩
def gj.out{Q:Nat->Prop}{w:aC}{t:T}{cs:aa aj}(h:gj Q w t cs):∃a c,cs=qaK t a c/\kD Q w a t.kids:=Gm.1 h
def kD.mono{Q d:Nat->Prop}{w:aC}{a:ac Addr}{l:aa T}(c:∀b,Q b->d b)(h:kD Q w a l):kD d w a l:=oh.mono h c λ _ _ _ h=>h.mono c
def kD.keep{Q:Nat->Prop}{w w':aC}{a:ac Addr}{l:aa T}(c:∀b,Q b->w'.heap[b]?=w.heap[b]?)(h:kD Q w a l):kD Q w' a l:=oh.below h c λ x _ _ h=>h.keep c x
def kD.at{Q:Nat->Prop}{w:aC}{a:ac Addr}{l:aa T}(h:kD Q w a l){j:Nat}{x:T}(f:l[j]?=Z x):
  ∃b off d e,a=Z ⟨b,off,U⟩/\Q b/\w.cell? ⟨b,off+j*4,U⟩=Z (.int .i64 x.kind)/\w.cell? ⟨b,off+j*4+1,U⟩=Z (.string ⟨x.name.toArray⟩)/\
   w.cell? ⟨b,off+j*4+2,U⟩=Z (.int .i64 x.sort)/\w.cell? ⟨b,off+j*4+3,U⟩=Z (.slice d (J x.kids) e)/\kD Q w d x.kids:=by
 let⟨b,off,cs,m,k,n,c,i⟩:=h j x f;obtain⟨d,e,rfl,g⟩:=i.out;exact⟨b,off,d,e,m,k,c 0 _ rfl,c 1 _ rfl,c 2 _ rfl,c 3 _ rfl,g⟩
def InW(Q:Nat->Prop)(w:aC):Prop:=∀b,Q b->b<w.heap.size
def InW.below{Q:Nat->Prop}{w w':aC}(h:InW Q w)(c:Below w.heap.size w w'):InW Q w':=λ b a=>dq (h b a) c.size
def kD.later{Q:Nat->Prop}{w w':aC}{a:ac Addr}{l:aa T}(h:kD Q w a l)(e:InW Q w)(d:Below w.heap.size w w'):kD Q w' a l:=h.keep λ b c=>d.block b (e b c)
def gj.later{Q:Nat->Prop}{w w':aC}{t:T}{cs:aa aj}(h:gj Q w t cs)(d:InW Q w)(c:Below w.heap.size w w'):gj Q w' t cs:=h.keep (λ b a=>c.block b (d b a)) t
end Go.GxZ
namespace Go.AmZ
open GxZ
section
def re(t:T):T:=.mk t.kind t.name t.sort t.kids
def aA(t:T):re t=t:=by let⟨k,n,s,l⟩:=t;rfl
inductive Ty where
 |int (k:IntKind)|bool|str|term|list (a:Ty)|pair (a b:Ty)|one (a:Ty)|map (a b:Ty)
 deriving DecidableEq
@[reducible] def Val:Ty->Type
  |.int _=>Int
  |.bool=>Bool
  |.str=>aa aN
  |.term=>T
  |.list a=>aa (Val a)
  |.pair a b=>Val a×Val b
  |.one a=>Val a
  |.map a b=>aa (Val a×Val b)
def Ty.size:Ty->Nat
 |.term=>4
 |.pair a b=>a.size+b.size
 |.one a=>a.size
 |_=>1
inductive TV where
 |i (k:IntKind) (n:Int)
 |b (x:Bool)
 |s (x:List UInt8)
 |c (x:aj)
 |nil
 |sl (τ:Ty) (l:List (Val τ)) (lv:Nat)
 |row (id ver:Nat)
 |ptr (b o:Nat)
 |pti (b:Nat) (i:Int)
 |rpt (id ver sv:Nat) (i:Int) (cs:List TV) (o:Nat)
 |ept (cs:List TV) (o:Nat)
 |fn (f:cJ) (caps:List TV)
 |agg (cs:List TV)
 |tup (vs:List TV)
 |dead
 |mp (b:Nat)
 |mc (κ τ:Ty) (l:List (Val κ×Val τ))
structure bZ where
 τ:Ty
 l:List (Val τ)
 ver:Nat
 sv:Nat
 sh:Bool
structure TS where
 bx:List (List TV)
 rw:List bZ
abbrev Env:=aa (Nat×TV)
def get:Env->Nat->TV
 |[],_=>.dead
 |p::E,t=>match Nat.beq p.1 t with
   |O=>p.2
   |Y=>get E t
def lY:aj->TV
 |.bool b=>.b b
 |.int k n=>.i k n
 |.string s=>.s (V s.data)
 |.slice U 0 0=>.nil
 |x=>match ci x with
   |O=>.c x
   |Y=>.dead
def XJ:aj->TV
 |.agg cs=>match cs.toList.all ci with
   |O=>.agg (cs.toList.map lY)
   |Y=>.dead
 |.tuple vs=>match V vs with
   |[]=>.tup []
   |_=>.dead
 |x=>lY x
def evT(E:Env):bv->TV
 |.tmp t=>get E t
 |.const x=>XJ x
 |.func f=>.fn f []
 |.global _=>.dead
def fj:TV->aa TV
 |.agg cs=>cs
 |x=>[x]
def mG:TV->Bool
 |.agg _|.tup _|.dead=>Y
 |_=>O
def jp:(τ:Ty)->Val τ->aa TV
 |.int k,n=>[.i k n]
 |.bool,b=>[.b b]
 |.str,s=>[.s s]
 |.term,t=>[.i .i64 t.kind,.s t.name,.i .i64 t.sort,.sl .term t.kids 1]
 |.list a,l=>[.sl a l 1]
 |.pair a b,p=>jp a p.1++jp b p.2
 |.one a,v=>jp a v
 |.map a b,l=>[.mc a b l]
def oA:(τ:Ty)->Val τ->TV
 |.int k,n=>.i k n
 |.bool,b=>.b b
 |.str,s=>.s s
 |.list a,l=>.sl a l 1
 |.term,t=>.agg (jp .term t)
 |.pair a b,p=>.agg (jp (.pair a b) p)
 |.one a,v=>.agg (jp (.one a) v)
 |.map a b,l=>.mc a b l
def IN{c τ:Ty}(l:aa (Val c×Val τ))(a b:Ty):ac (aa (Val a×Val b)):=if h:c=a/\τ=b then Z (h.1▸h.2▸l)else U
def mn{τ:Ty}(l:aa (Val τ))(a:Ty):ac (aa (Val a)):=if h:τ=a then Z (h▸l)else U
def sk(rw:aa bZ)(a:Ty):TV->ac (aa (Val a))
 |.nil=>Z []
 |.sl _ l _=>mn l a
 |.row id b=>match rw[id]? with
   |Z R=>match Nat.beq R.ver b with
     |O=>mn R.l a
     |Y=>U
   |U=>U
 |_=>U
def PN(k:IntKind):aa TV->ac (Int×aa TV)
 |.i a n::r=>match X (a=k)with
   |O=>Z (n,r)
   |Y=>U
 |_=>U
def OP:aa TV->ac (Bool×aa TV)
 |.b x::r=>Z (x,r)
 |_=>U
def PZ:aa TV->ac (aa aN×aa TV)
 |.s x::r=>Z (x,r)
 |_=>U
def OD(a:TV->ac (aa T)):aa TV->ac (T×aa TV)
 |.i .i64 k::.s n::.i .i64 s::x::r=>match a x with
   |Z l=>Z (.mk k n s l,r)
   |U=>U
 |_=>U
def OW{a:Type}(b:TV->ac a):aa TV->ac (a×aa TV)
 |x::r=>match b x with
   |Z l=>Z (l,r)
   |U=>U
 |_=>U
def IV{I b a:Type}(p:aa I->ac (b×aa I))(q:aa I->ac (a×aa I))(cs:aa I):ac ((b×a)×aa I):=match p cs with
 |Z (x,r)=>match q r with
   |Z (y,r)=>Z ((x,y),r)
   |U=>U
 |U=>U
def Pk(a b:Ty):aa TV->ac (aa (Val a×Val b)×aa TV)
 |.mc c τ l::r=>match IN l a b with
   |Z l=>Z (l,r)
   |U=>U
 |_=>U
def pb(rw:aa bZ):(τ:Ty)->aa TV->ac (Val τ×aa TV)
 |.int k=>PN k
 |.bool=>OP
 |.str=>PZ
 |.term=>OD (sk rw .term)
 |.list a=>OW (sk rw a)
 |.pair a b=>IV (pb rw a) (pb rw b)
 |.one a=>pb rw a
 |.map a b=>Pk a b
def Ty.agg:Ty->Bool
 |.term|.pair _ _|.one _=>O
 |_=>Y
def se{a:Type}:ac (a×aa TV)->ac a
 |Z (v,[])=>Z v
 |_=>U
def Iw:TV->Bool
 |.agg _=>O
 |_=>Y
def jH(rw:aa bZ)(τ:Ty)(x:TV):ac (Val τ):=match cQ τ.agg (Iw x)with
 |O=>se (pb rw τ (fj x))
 |Y=>U
def yd(rw:aa bZ)(τ:Ty):aa TV->ac (aa (Val τ))
 |[]=>Z []
 |x::l=>match jH rw τ x with
   |Z v=>match yd rw τ l with
     |Z vs=>Z (v::vs)
     |U=>U
   |U=>U
def rZ:TV->Bool
 |.i .. |.b _|.s _|.c _|.nil|.sl .. |.fn .. |.mc .. => O
 |_=>Y
def pw:TV->Bool
 |.agg cs=>cs.all rZ
 |x=>rZ x
inductive ATy where
 |val (τ:Ty)|fn
@[reducible] def ll:aa ATy->Type
  |[]=>Unit
  |.val τ::r=>Val τ×ll r
  |.fn::r=>ll r
@[reducible] def kG:aa Ty->Type
  |[]=>Unit
  |[a]=>Val a
  |a::b::r=>Val a×kG (b::r)
def qca{I:Type}:aa I->ac Unit
 |[]=>Z ()
 |_=>U
def pu{I b a:Type}(p:I->ac b)(q:aa I->ac a):aa I->ac (b×a)
 |x::xs=>match p x with
   |Z v=>match q xs with
     |Z vs=>Z (v,vs)
     |U=>U
   |U=>U
 |[]=>U
def pFn{a:Type}(q:aa TV->ac a):aa TV->ac a
 |.fn _ []::xs=>q xs
 |_=>U
def IB(rw:aa bZ):(ts:aa ATy)->aa TV->ac (ll ts)
 |[]=>qca
 |.val τ::r=>pu (jH rw τ) (IB rw r)
 |.fn::r=>pFn (IB rw r)
def qn:aa TV->aa Nat
 |[]=>[]
 |.fn f _::l=>f::qn l
 |_::l=>qn l
def unL:(ts:aa Ty)->kG ts->aa TV
 |[],_=>[]
 |[a],v=>[oA a v]
 |a::b::r,v=>oA a v.1::unL (b::r) v.2
def AT:aa TV->TV
 |[x]=>x
 |l=>.tup l
structure Sig where
 args:List ATy
 res:List Ty
 fn:ll args->Option (kG res)
inductive RA where
 |val (τ:Ty)|row (τ:Ty)
@[reducible] def RA.T:RA->Type
  |.val τ=>Val τ
  |.row τ=>aa (Val τ)
@[reducible] def CV:aa RA->Type
  |[]=>Unit
  |a::r=>a.T×CV r
@[reducible] def BV:aa RA->Type
  |[]=>Unit
  |[a]=>a.T
  |a::b::r=>CV (a::b::r)
def toC:(l:aa RA)->BV l->CV l
 |[],_=>()
 |[_],v=>(v,())
 |_::_::_,v=>v
def toB:(l:aa RA)->CV l->BV l
 |[],_=>()
 |[_],v=>v.1
 |_::_::_,v=>v
def nR:aa RA->Nat
 |[]=>0
 |.val _::r=>nR r
 |.row _::r=>nR r+1
inductive SA where
 |val (τ:Ty)|row (τ:Ty)|box (l:List RA)|nil|clo (g k:Nat)
inductive RE where
 |one (a:RA)|agg (l:List RA)
@[reducible] def jd:aa SA->Type
  |[]=>Unit
  |.val τ::r=>Val τ×jd r
  |.row τ::r=>aa (Val τ)×jd r
  |.box l::r=>BV l×jd r
  |.nil::r|.clo _ _::r=>jd r
@[reducible] def eY:aa SA->Type
  |[]=>Unit
  |.box l::r=>BV l×eY r
  |.nil::r|.val _::r|.row _::r|.clo _ _::r=>eY r
@[reducible] def RV:aa RE->Type
  |[]=>Unit
  |.one a::r=>a.T×RV r
  |.agg l::r=>CV l×RV r
def nrB:aa SA->Nat
 |[]=>0
 |.box l::r=>nR l+nrB r
 |.nil::r|.val _::r|.row _::r|.clo _ _::r=>nrB r
def nBx:aa SA->Nat
 |[]=>0
 |.box _::r=>nBx r+1
 |.nil::r|.val _::r|.row _::r|.clo _ _::r=>nBx r
def si:aa SA->Bool
 |[]=>O
 |.row _::_=>Y
 |.box _::r|.nil::r|.val _::r|.clo _ _::r=>si r
def oD:aa SA->Bool
 |[]=>O
 |.box _::r=>si r&&oD r
 |.nil::r|.val _::r|.row _::r|.clo _ _::r=>oD r
structure vJ where
 args:List SA
 res:List RE
 fn:jd args->Option (eY args×RV res)
structure vW where
 τ:Ty
 args:List SA
 fn:jd (.row τ::args)->Option (List (Val τ))
structure yu where
 args:List SA
 fn:jd args->Option Int
inductive Co where
 |keep|row (τ:Ty) (sh:Bool)|list (τ:Ty)|plist (τ:Ty)|box (cs:List Co)|fn (cs:List Co)
structure TC where
 ty:Nat->Option TD
 el:Nat->Option Ty
 has:Nat->Bool
 pf:Nat->List Nat->Option Sig
 sf:Nat->List Nat->Option vJ
 loop:Nat->Option (List (Tmp×Co))
 join:Nat->Option (List (Tmp×Co))
 nt:Nat
 np:Nat
 ld:Nat->Bool
 mf:Nat->Option vW
 xf:Nat->Option yu
 inl:Nat->Option Func
def TC.rawT(c:TC)(f:Nat):Bool:=match c.has f with
 |O=>Y
 |Y=>match c.mf f with
   |Z _=>O
   |U=>match c.xf f with
     |Z _=>O
     |U=>match c.sf f []with
       |Z _=>O
       |U=>Y
def TC.loT(c:TC)(f:Nat):Bool:=c.rawT f||(c.ld f||(c.inl f).isSome)
abbrev TC.n2(c:TC):Nat×Nat:=(c.nt,c.np)
def ab{α b:Type}(x:ac α)(k:α->ac b):ac b:=match x with
 |Z a=>k a
 |U=>U
def ye{α c:Type}(x:ac c)(a:α)(f:c->α):α:=match x with
 |U=>a
 |Z b=>f b
def iK{α b:Type}(l:aa b)(a:α)(f:b->aa b->α):α:=match l with
 |[]=>a
 |x::r=>f x r
def ap{α:Type}(l:aa α)(j:Int):ac α:=if 0<=j then l[j.toNat]? else U
def ixb(j:Int)(n:Nat):Bool:=X (0<=j/\j<(n:Int))
def xS:aa TV->ac (aa Bool)
 |[]=>Z []
 |.b x::l=>match xS l with
   |Z r=>Z (x::r)
   |U=>U
 |_=>U
def qs:aa Bool->Int->Bool->Nat->aa Bool
 |[],_,_,_=>[]
 |e::l,i,v,j=>cond (ieq i (j:Int)) v e::qs l i v (j+1)
def inb(i:Int)(y:Nat):Bool:=X (0<=i/\i<=y)
def dK{α:Type}(l:aa α)(j:Int)(v:α):aa α:=if 0<=j then l.set j.toNat v else l
def OB(n:Int)(bytes:Nat):Bool:=X (0<=n/\n.toNat*bytes<=2^47/\n.toNat<2^62)
def Qv:bv->bv->Bool
 |.tmp a,.tmp b=>Nat.beq a b
 |.const (.int k a),.const (.int c b)=>X (k=c)&&X (a=b)
 |_,_=>Y
def shA(I:TS):TS:=⟨I.bx,I.rw.map λ R=>⟨R.τ,R.l,R.ver,R.sv,O⟩⟩
def Bb:Ty->Bool
 |.int _|.bool|.str=>O
 |_=>Y
def gA{α:Type}(l:aa α)(a b:Int):aa α:=(l.take b.toNat).drop a.toNat
def ln(a b:aa aN):Bool:=X (((J a+J b:Nat):Int)<=IntKind.i64.max)
def br(n bytes:Nat):Bool:=X (n*bytes<=2^47/\n<2^62)
def bc(a b:aa aN):Bool:=a==b
def slt(a b:aa aN):Bool:=Op.bytesLess a b
def N7(l:aa Int):aa aN:=l.map λ n=>UInt8.ofNat n.toNat
def Iz(s:aa aN):aa Int:=s.map λ b=>((b.toNat:Nat):Int)
def Oq:ac TD->Bool
 |Z ⟨_,_,_,_,.ptr⟩=>O
 |_=>Y
def Oz:TV->TV->ac Bool
 |.c (.pointer U),.c (.pointer U)=>Z O
 |.ptr _ _,.c (.pointer U)|.rpt _ _ _ _ _ _,.c (.pointer U)|.ept _ _,.c (.pointer U)=>Z Y
 |_,_=>U
section
variable {α:Type}
abbrev KT(α:Type):=TV->ac TS->ac α
def Pf(op:mM)(k:IntKind)(a b:Int)(K:TV->ac α):ac α:=
 match op with
 |.add=>K (.i k (iw k (av a b)))
 |.sub=>K (.i k (iw k (cX a b)))
 |.mul=>K (.i k (iw k (qI a b)))
 |.quo=>cond (ieq b 0) U (K (.i k (iw k (IZ a b))))
 |.rem=>cond (ieq b 0) U (K (.i k (Je a b)))
 |.and=>K (.i k (qD .and k a b))
 |.or=>K (.i k (qD .or k a b))
 |.xor=>K (.i k (qD .xor k a b))
 |.andNot=>K (.i k (qD .andNot k a b))
 |.eql=>K (.b (ieq a b))
 |.neq=>K (.b (am (ieq a b)))
 |.lss=>K (.b (ilt a b))
 |.leq=>K (.b (ile a b))
 |.gtr=>K (.b (ilt b a))
 |.geq=>K (.b (ile b a))
 |_=>U
def Qm(op:mM)(x y:aa aN)(K:TV->ac α):ac α:=
 match op with
 |.add=>cond (ln x y) (K (.s (x++y))) U
 |.eql=>K (.b (bc x y))
 |.neq=>K (.b (am (bc x y)))
 |.lss=>K (.b (slt x y))
 |.leq=>K (.b (sy (slt x y) (bc x y)))
 |.gtr=>K (.b (am (sy (slt x y) (bc x y))))
 |.geq=>K (.b (am (slt x y)))
 |_=>U
def ID:ac TD->Bool
 |Z ⟨_,_,_,_,.bool⟩=>O
 |_=>Y
def Qc(d:ac TD)(op:mM)(x y:TV)(K:TV->ac α):ac α:=
 match x,y with
 |.i k a,.i c b=>match op with
   |.shl=>cond (ilt b 0) U (K (.i k (Pc k a b)))
   |.shr=>cond (ilt b 0) U (K (.i k (nz k a b)))
   |op=>match X (k=c)with
     |O=>Pf op k a b K
     |Y=>U
 |.s a,.s b=>Qm op a b K
 |.b a,.b b=>match op,ID d with
   |.eql,O=>K (.b (cQ a b))
   |.neq,O=>K (.b (am (cQ a b)))
   |_,_=>U
 |_,_=>U
def IH(place:Nat->ac (Nat×Nat))(cells:aa TV):aa (Nat×TV)->ac (aa TV)
 |[]=>Z cells
 |(i,x)::a=>match place i with
   |U=>U
   |Z (off,size)=>match X (J (fj x)=size)&&X (off+size<=J cells)&&(fj x).all mG with
     |O=>IH place (cells.take off++(fj x++cells.drop (off+size))) a
     |Y=>U
def rY(a:Bool)(size:Nat)(cs:aa TV)(o:Nat):ac TV:=
 match a with
 |O=>match X (o+size<=J cs)with
   |O=>Z (.agg ((cs.drop o).take size))
   |Y=>U
 |Y=>cs[o]?
def oU(d:Int)(E:Env):ac bv->ac Int
 |U=>Z d
 |Z x=>match evT E x with
   |.i _ n=>Z n
   |_=>U
def veq:(c:Ty)->Val c->Val c->Bool
 |.int _,a,b=>ieq a b
 |.str,a,b=>bc a b
 |.bool,a,b=>cQ a b
 |.pair c τ,a,b=>veq c a.1 b.1&&veq τ a.2 b.2
 |.one c,a,b=>veq c a b
 |_,_,_=>Y
def kcT:Ty->aa KC
 |.int k=>[.int k]
 |.str=>[.str]
 |.bool=>[.bool]
 |.pair a b=>kcT a++kcT b
 |.one a=>kcT a
 |_=>[]
def kw:Ty->Bool
 |.int _|.str|.bool=>O
 |.pair a b=>kw a&&kw b
 |.one a=>kw a
 |_=>Y
def kH{K W:Type}(eq:K->K->Bool):aa (K×W)->K->ac W
 |[],_=>U
 |p::l,k=>cond (eq k p.1) (Z p.2) (kH eq l k)
def sx{K W:Type}(eq:K->K->Bool)(z:W)(l:aa (K×W))(k:K):W:=ye (kH eq l k) z id
def Bs{K W:Type}(eq:K->K->Bool)(l:aa (K×W))(k:K):Bool:=ye (kH eq l k) Y λ _=>O
def mA{K W:Type}(eq:K->K->Bool):aa (K×W)->K->W->aa (K×W)
 |[],k,v=>[(k,v)]
 |p::l,k,v=>cond (eq k p.1) ((p.1,v)::l) (p::mA eq l k v)
def Ba:aa TV->Bool
 |[.dead]|[.mc ..]=>Y
 |_=>O
def Bg(I:TS)(a τ:Ty):TV->ac (Nat×aa (Val a×Val τ))
 |.mp b=>match I.bx[b]? with
   |Z [.mc _ _ l]=>match IN l a τ with
     |Z l=>Z (b,l)
     |U=>U
   |_=>U
 |_=>U
def xZ(c:TC)(t:Nat):ac (Ty×Ty):=match c.ty t,c.el t with
 |Z ⟨_,_,_,_,.map e f d b _⟩,Z (.map a τ)=>match X (e=kcT a)&&(cQ f a.agg&&(cQ d τ.agg&&(X (b=τ.size)&&kw a)))with
   |O=>Z (a,τ)
   |Y=>U
 |_,_=>U
def PV(c:TC)(t:Nat)(τ:Ty):ac (Val τ):=match c.ty t with
 |Z ⟨_,_,_,_,.map _ _ _ b a⟩=>match a.all ci&&X (J a=b)with
   |O=>se (pb [] τ (a.map lY))
   |Y=>U
 |_=>U
def yj(c:TC)(E:Env)(I:TS)(t:Nat)(m k v:bv)(K:KT α):ac α:=match xZ c t with
 |Z (a,τ)=>match Bg I a τ (evT E m),pw (evT E v)with
   |Z (b,l),O=>match jH I.rw a (evT E k),jH I.rw τ (evT E v)with
     |Z k,Z v=>K (.tup []) (Z {I with bx:=I.bx.set b [.mc a τ (mA (veq a) l k v)]})
     |_,_=>U
   |_,_=>U
 |U=>U
def eK(c:TC)(E:Env)(I:TS)(op:Op)(K:KT α):ac α:=
 match op with
 |.move x|.assign x=>K (evT E x) U
 |.pick x a b=>match evT E x with
   |.b y=>cond y (K (evT E a) U) (K (evT E b) U)
   |_=>U
 |.alloc e=>match c.ty e with
   |Z d=>match d.zero.all ci with
     |O=>K (.ptr (J I.bx) 0) (Z {I with bx:=I.bx++[d.zero.map lY]})
     |Y=>U
   |U=>U
 |.box e x=>match c.ty e with
   |Z _=>match(fj (evT E x)).all mG with
     |O=>K (.ptr (J I.bx) 0) (Z {I with bx:=I.bx++[fj (evT E x)]})
     |Y=>U
   |U=>U
 |.build t parts=>match c.ty t with
   |Z ⟨_,_,_,z,.struct w⟩=>match z.all ci with
     |O=>match IH (λ i=>match w[i]? with|Z f=>Z (f.1,f.2.1)|U=>U) (z.map lY) (parts.toList.map λ p=>(p.1,evT E p.2))with
       |Z cs=>K (.agg cs) U
       |U=>U
     |Y=>U
   |_=>U
 |.buildSlice t n parts=>match c.ty t,c.el t with
   |Z ⟨_,_,_,_,.slice _ k _ _⟩,Z τ=>match X (k=τ.size)&&X (parts.size=n)&&X (n*k<=2^24)&&X (0<k)&&(parts.toList.zipIdx.all λ p=>X (p.1.1=p.2))with
     |O=>match yd I.rw τ (parts.toList.map λ p=>evT E p.2)with
       |Z vs=>K (.sl τ vs 2) (match(parts.toList.all λ p=>pw (evT E p.2))with|O=>U|Y=>Z (shA I))
       |U=>U
     |Y=>U
   |_,_=>U
 |.load t a=>match c.ty t with
   |Z d=>match evT E a with
     |.ptr b o=>match I.bx[b]? with
       |Z cs=>match Ba cs with
         |O=>match rY d.agg d.size cs o with
           |Z x=>K x U
           |U=>U
         |Y=>U
       |U=>U
     |.ept cs o=>match rY d.agg d.size cs o with
       |Z x=>K x U
       |U=>U
     |.pti b i=>match I.bx[b]? with
       |Z cs=>match d.agg,xS cs with
         |Y,Z l=>ab (ap l i) λ v=>K (.b v) U
         |_,_=>U
       |U=>U
     |.rpt id q u i cs o=>match I.rw[id]? with
       |Z R=>match Nat.beq R.ver q with
         |O=>match Nat.beq R.sv u with
           |O=>match rY d.agg d.size cs o with
             |Z x=>K x U
             |U=>U
           |Y=>match R.sh with
             |O=>U
             |Y=>ab (ap R.l i) λ v=>match rY d.agg d.size (jp R.τ v) o with
               |Z x=>K x U
               |U=>U
         |Y=>U
       |U=>U
     |_=>U
   |U=>U
 |.store t a x=>match c.ty t,evT E a with
   |Z d,.ptr b o=>match I.bx[b]? with
     |Z cs=>match Ba cs&&X (J (fj (evT E x))=d.size)&&X (o+d.size<=J cs)&&(fj (evT E x)).all mG with
       |O=>K (.tup []) (Z {I with bx:=I.bx.set b (cs.take o++(fj (evT E x)++cs.drop (o+d.size)))})
       |Y=>U
     |U=>U
   |Z d,.pti b i=>match I.bx[b]?,evT E x with
     |Z cs,.b v=>match xS cs,Nat.beq d.size 1 with
       |Z l,O=>cond (ixb i (J l)) (K (.tup []) (Z {I with bx:=I.bx.set b ((qs l i v 0).map .b)})) U
       |_,_=>U
     |_,_=>U
   |Z d,.rpt id q u i cs o=>match I.rw[id]? with
     |Z R=>match Nat.beq R.ver q&&Nat.beq R.sv u && !R.sh&&X (J (fj (evT E x))=d.size)&&X (o+d.size<=J cs)&&(fj (evT E x)).all rZ with
       |O=>match se (pb I.rw R.τ (cs.take o++(fj (evT E x)++cs.drop (o+d.size))))with
         |Z v=>K (.tup []) (Z {I with rw:=I.rw.set id ⟨R.τ,dK R.l i v,R.ver,R.sv+1,R.sh⟩})
         |U=>U
       |Y=>U
     |U=>U
   |_,_=>U
 |.makeSlice t n m=>match c.ty t,c.el t,evT E n with
   |Z ⟨_,_,_,_,.slice _ k bytes z⟩,Z τ,.i _ a=>match Qv n m&&X (k=τ.size)&&X (0<k)&&X (J z=k)&&z.all ci with
     |O=>match se (pb [] τ (z.map lY))with
       |Z v=>cond (OB a bytes) (K (.row (J I.rw) 0) (Z {I with rw:=I.rw++[⟨τ,List.replicate a.toNat v,0,0,Y⟩]})) U
       |U=>U
     |Y=>U
   |_,_,_=>U
 |.nilCheck x=>match evT E x with
   |.ptr b o=>K (.ptr b o) U
   |.ept cs o=>K (.ept cs o) U
   |.rpt id q u i cs o=>K (.rpt id q u i cs o) U
   |_=>U
 |.binOp op t x y _=>match Oz (evT E x) (evT E y)with
   |Z b=>match op,Oq (c.ty t)with
     |.eql,O=>K (.b b) U
     |.neq,O=>K (.b (!b)) U
     |_,_=>U
   |U=>Qc (c.ty t) op (evT E x) (evT E y) λ v=>K v U
 |.unOp op _ x=>match op,evT E x with
   |.neg,.i k n=>K (.i k (iw k (cX 0 n))) U
   |.not,.b y=>K (.b (am y)) U
   |_,_=>U
 |.convert s d x=>match c.ty s,c.ty d,evT E x with
   |Z _,Z ⟨_,_,_,_,.int k⟩,.i _ n=>K (.i k (iw k n)) U
   |Z _,Z ⟨_,_,_,_,.string⟩,.s y=>K (.s y) U
   |Z ⟨_,_,_,_,.slice e 1 _ _⟩,Z ⟨_,_,_,_,.string⟩,y=>match yy (c.ty e),sk I.rw (.int .u8) y with
     |O,Z l=>K (.s (N7 l)) U
     |_,_=>U
   |_,_,_=>U
 |.makeFunc (.func f) w cs=>match V w with
   |[]=>K (.fn f (cs.toList.map (evT E))) U
   |_=>U
 |.slice t x lo A U=>match c.ty t,evT E x with
   |Z ⟨_,_,_,_,.string⟩,.s y=>match oU (J y) E A with
     |Z h=>match oU 0 E lo with
       |Z l=>cond (inb h (J y)) (cond (inb l h.toNat) (K (.s (gA y l h)) U) U) U
       |U=>U
     |U=>U
   |Z ⟨_,_,_,_,.slice _ k _ _⟩,.sl τ y D=>match X (τ.size=k)&&pos D with
     |O=>match oU (J y) E A with
       |Z h=>match oU 0 E lo with
         |Z l=>cond (inb h (J y)) (cond (inb l h.toNat) (K (.sl τ (gA y l h) 1) U) U) U
         |U=>U
       |U=>U
     |Y=>U
   |Z ⟨_,_,_,_,.slice _ _ _ _⟩,.nil=>match oU 0 E A with
     |Z h=>match oU 0 E lo with
       |Z l=>cond (inb h 0) (cond (inb l h.toNat) (K .nil U) U) U
       |U=>U
     |U=>U
   |Z ⟨_,_,_,_,.slice _ k _ _⟩,.row id q=>match A,I.rw[id]? with
     |U,Z R=>match Nat.beq R.ver q&&X (R.τ.size=k)with
       |O=>match oU 0 E lo with
         |Z l=>cond (inb l (J R.l)) (K (.row id (q+1)) (Z {I with rw:=I.rw.set id ⟨R.τ,R.l.drop l.toNat,q+1,R.sv,O⟩})) U
         |U=>U
       |Y=>U
     |_,_=>U
   |_,_=>U
 |.fieldAddr t x i=>match c.ty t with
   |Z ⟨_,_,_,_,.struct w⟩=>match w[i]? with
     |Z (off,size,_)=>match size with
       |0=>U
       |_+1=>match evT E x with
         |.ptr b o=>K (.ptr b (o+off)) U
         |.ept cs o=>K (.ept cs (o+off)) U
         |.rpt id q u i cs o=>K (.rpt id q u i cs (o+off)) U
         |_=>U
     |U=>U
   |_=>U
 |.field t x i=>match c.ty t,evT E x with
   |Z ⟨_,_,_,_,.struct w⟩,.agg cs=>match w[i]? with
     |Z (off,size,g)=>match rY g size cs off with
       |Z y=>K y U
       |U=>U
     |U=>U
   |_,_=>U
 |.indexAddr t x i=>match c.ty t,evT E i with
   |Z ⟨_,_,_,_,.slice _ k _ _⟩,.i _ j=>match evT E x with
     |.sl τ l _=>match X (τ.size=k)with
       |O=>ab (ap l j) λ v=>K (.ept (jp τ v) 0) U
       |Y=>U
     |.row id q=>match I.rw[id]? with
       |Z R=>match Nat.beq R.ver q&&X (R.τ.size=k)with
         |O=>ab (ap R.l j) λ v=>K (.rpt id q R.sv j (jp R.τ v) 0) U
         |Y=>U
       |U=>U
     |_=>U
   |Z ⟨_,_,_,_,.array n _ 1⟩,.i _ j=>match evT E x with
     |.ptr b 0=>cond (ixb j n) (K (.pti b j) U) U
     |_=>U
   |_,_=>U
 |.index t x i=>match c.ty t,evT E x,evT E i with
   |Z ⟨_,_,_,_,.string⟩,.s y,.i _ j=>ab (ap y j) λ v=>K (.i .u8 v.toNat) U
   |_,_,_=>U
 |.extract x i=>match evT E x with
   |.tup vs=>match vs[i]? with
     |Z y=>K y U
     |U=>U
   |_=>U
 |.makeMap t U=>match xZ c t with
   |Z (r,τ)=>K (.mp (J I.bx)) (Z {I with bx:=I.bx++[[.mc r τ []]]})
   |U=>U
 |.lookup t m k C=>match xZ c t with
   |Z (r,τ)=>match Bg I r τ (evT E m),PV c t τ,jH I.rw r (evT E k)with
     |Z (_,l),Z z,Z k=>match C with
       |O=>K (.tup [oA τ (sx (veq r) z l k),.b (Bs (veq r) l k)]) U
       |Y=>K (oA τ (sx (veq r) z l k)) U
     |_,_,_=>U
   |U=>U
 |.mapUpdate t m k v|.insert t m k v=>yj c E I t m k v K
 |_=>U
def IX(k bytes:Nat)(I:TS)(τ:Ty)(s:TV)(xs:aa (Val τ))(K:KT α):ac α:=
 match s with
 |.nil=>iK xs (K .nil U) λ x r=>cond (br (J r+1) bytes) (K (.row (J I.rw) 0) (Z {I with rw:=I.rw++[⟨τ,x::r,0,0,Y⟩]})) U
 |.sl b l c=>match X (1<c)with
   |O=>match mn l τ with
     |Z l=>cond (br (J l+J xs) bytes) (iK xs (K s U) λ x r=>K (.row (J I.rw) 0) (Z {I with rw:=I.rw++[⟨τ,l++(x::r),0,0,Y⟩]})) U
     |U=>U
   |Y=>U
 |.row id a=>match I.rw[id]? with
   |Z R=>match Nat.beq R.ver a with
     |O=>match mn R.l τ with
       |Z l=>cond (br (J l+J xs) bytes) (K (.row id (a+1)) (Z {I with rw:=I.rw.set id ⟨τ,l++xs,a+1,R.sv,R.sh⟩})) U
       |U=>U
     |Y=>U
   |U=>U
 |_=>U
def Nf(c:TC)(I:TS)(b:Builtin)(ts:aL aQ)(f:aa TV)(K:KT α):ac α:=
 match b,f with
 |.len,[x]=>match ts[0]? with
   |Z t=>match c.ty t with
     |Z d=>match d.k,x with
       |.string,.s y=>K (.i .i64 (J y)) U
       |.slice ..,.nil=>K (.i .i64 0) U
       |.slice ..,.sl _ l _=>K (.i .i64 (J l)) U
       |.slice ..,.row id g=>match I.rw[id]? with
         |Z R=>match Nat.beq R.ver g with
           |O=>K (.i .i64 (J R.l)) U
           |Y=>U
         |U=>U
       |.map ..,.mp b=>match xZ c t with
         |Z (j,τ)=>match Bg I j τ (.mp b)with
           |Z (_,l)=>K (.i .i64 (J l)) U
           |U=>U
         |U=>U
       |_,_=>U
     |U=>U
   |U=>U
 |.append,[s,x]=>match ts[0]?,ts[1]? with
   |Z t,Z u=>match c.ty t,c.ty u,c.el t with
     |Z ⟨_,_,_,_,.slice _ k bytes z⟩,Z ⟨_,_,_,_,.slice _ _ _ _⟩,Z τ=>match X (0<k)&&X (J z=k)&&X (k=τ.size)with
       |O=>match sk I.rw τ x with
         |Z xs=>IX k bytes I τ s xs K
         |U=>U
       |Y=>U
     |Z ⟨_,_,_,_,.slice e 1 bytes z⟩,Z ⟨_,_,_,_,.string⟩,Z (.int .u8)=>match X (J z=1)&&yy (c.ty e),x with
       |O,.s y=>IX 1 bytes I (.int .u8) s (Iz y) K
       |_,_=>U
     |_,_,_=>U
   |_,_=>U
 |.max,[.i k a,.i h b]=>match X (k=h)with|O=>K (.i k (pn a b)) U|Y=>U
 |.min,[.i k a,.i h b]=>match X (k=h)with|O=>K (.i k (Ps a b)) U|Y=>U
 |_,_=>U
def mD(rw:aa bZ)(τ:Ty):TV->ac (aa (Val τ)×aa Nat)
 |.nil=>Z ([],[])
 |.sl a l c=>match mn l τ,X (1<c)with
   |Z [],O=>Z ([],[])
   |_,_=>U
 |.row id b=>match rw[id]? with
   |Z R=>match Nat.beq R.ver b && !R.sh with
     |O=>match mn R.l τ with
       |Z l=>Z (l,[id])
       |U=>U
     |Y=>U
   |U=>U
 |_=>U
def fC(rw:aa bZ):(l:aa RA)->aa TV->ac (CV l×aa Nat×Bool)
 |[],[]=>Z ((),[],O)
 |[],_::_=>U
 |.val τ::r,cs=>match se (pb rw τ (cs.take τ.size)),fC rw r (cs.drop τ.size)with
   |Z v,Z (vs,a,q)=>Z ((v,vs),a,(cs.take τ.size).all rZ&&q)
   |_,_=>U
 |.row τ::r,c::cs=>match mD rw τ c,fC rw r cs with
   |Z (v,i),Z (vs,a,q)=>Z ((v,vs),i++a,q)
   |_,_=>U
 |.row _::_,[]=>U
def vk:aa RA->Bool
 |[.val (.map _ _)]=>O
 |_=>Y
def bxT(l:aa RA)(b:Nat):TV:=match vk l with
 |O=>.mp b
 |Y=>.ptr b 0
def I6(l:aa RA)(x:TV):ac Nat:=match vk l,x with
 |O,.mp b|Y,.ptr b 0=>Z b
 |_,_=>U
def P7(rw:aa bZ)(c:aa (aa TV))(l:aa RA)(x:TV):ac (CV l×aa Nat×Nat):=match I6 l x with
 |Z b=>match c[b]? with
   |Z cs=>match fC rw l cs with
     |Z (v,a,O)=>Z (v,a,b)
     |_=>U
   |U=>U
 |U=>U
def cF(I:TS):(sas:aa SA)->aa TV->ac (jd sas×aa Nat×aa Nat)
 |[],[]=>Z ((),[],[])
 |.val τ::r,x::xs=>match pw x,jH I.rw τ x with
   |O,Z v=>match cF I r xs with
     |Z (vs,q)=>Z ((v,vs),q)
     |U=>U
   |_,_=>U
 |.row τ::r,x::xs=>match mD I.rw τ x with
   |Z (l,a)=>match cF I r xs with
     |Z (vs,d,c)=>Z ((l,vs),d,a++c)
     |U=>U
   |U=>U
 |.box l::r,x::xs=>match P7 I.rw I.bx l x with
   |Z (v,a,b)=>match cF I r xs with
     |Z (vs,d,c)=>Z ((toB l v,vs),b::d,a++c)
     |U=>U
   |U=>U
 |.nil::r,.nil::xs=>cF I r xs
 |.clo g k::r,.fn e cs::xs=>match Nat.beq g e&&Nat.beq (J cs) k with
   |O=>cF I r (cs++xs)
   |Y=>U
 |_,_=>U
def ndN:aa Nat->Bool
 |[]=>O
 |b::l=>(l.all λ c => !Nat.beq b c)&&ndN l
def mo(rw:aa bZ)(a:aa Nat):aa bZ:=a.foldl (λ l i=>l.modify i λ R=>⟨R.τ,[],R.ver+1,R.sv,Y⟩) rw
def qi:(l:aa RA)->Nat->CV l->aa TV
 |[],_,_=>[]
 |.val τ::r,L,v=>jp τ v.1++qi r L v.2
 |.row _::r,L,v=>.row L 0::qi r (L+1) v.2
def lr:(l:aa RA)->CV l->aa bZ
 |[],_=>[]
 |.val _::r,v=>lr r v.2
 |.row τ::r,v=>⟨τ,v.1,0,0,Y⟩::lr r v.2
def jN:(sas:aa SA)->Nat->eY sas->aa (aa TV)
 |[],_,_=>[]
 |.box l::r,L,o=>qi l L (toC l o.1)::jN r (L+nR l) o.2
 |.nil::r,L,o|.val _::r,L,o|.row _::r,L,o|.clo _ _::r,L,o=>jN r L o
def gc:(sas:aa SA)->eY sas->aa bZ
 |[],_=>[]
 |.box l::r,o=>lr l (toC l o.1)++gc r o.2
 |.nil::r,o|.val _::r,o|.row _::r,o|.clo _ _::r,o=>gc r o
def sj(a:aa (aa TV)):aa Nat->aa (aa TV)->aa (aa TV)
 |b::c,x::xs=>sj (a.set b x) c xs
 |_,_=>a
def yC(nb NB:Nat):(a:aa RE)->Nat->RV a->aa TV
 |[],_,_=>[]
 |.one (.val τ)::r,L,v=>oA τ v.1::yC nb NB r L v.2
 |.one (.row _)::r,L,v=>.row L 0::yC nb NB r (L+1) v.2
 |.agg l::r,L,v=>.agg (qi l L v.1)::yC nb NB r (L+nR l) v.2
def yr:(a:aa RE)->RV a->aa bZ
 |[],_=>[]
 |.one (.val _)::r,v=>yr r v.2
 |.one (.row τ)::r,v=>⟨τ,v.1,0,0,Y⟩::yr r v.2
 |.agg l::r,v=>lr l v.1++yr r v.2
def yn:(a:aa RE)->Nat->RV a->aa (aa TV)
 |[],_,_=>[]
 |.one (.val _)::r,L,v=>yn r L v.2
 |.one (.row _)::r,L,v=>yn r (L+1) v.2
 |.agg l::r,L,v=>yn r (L+nR l) v.2
def nRA:RA->Nat
 |.val _=>0
 |.row _=>1
def vp(rws:aa bZ):(f:aa RE)->Nat->Nat->RV f->((c:aa RE)->RV c->ac α)->ac α
 |[],_,_,_,k=>k [] ()
 |.one a::r,nb,d,v,k=>vp rws r nb (d+nRA a) v.2 λ e b=>k (.one a::e) (v.1,b)
 |.agg l::r,nb,d,v,k=>vp rws r nb (d+nR l) v.2 λ e b=>k (.agg l::e) (v.1,b)
def N4(I:TS)(g:vW)(b:aa TV)(K:KT α):ac α:=match b with
 |x::xs=>match mD I.rw g.τ x,cF I g.args xs with
   |Z (l,c),Z (a,[],[])=>match oD g.args with
     |O=>match c with
       |[id]=>ab (g.fn (l,a)) λ v=>cond (Nat.beq (J v) (J l)) (K (.tup []) (Z ⟨I.bx,I.rw.modify id λ R=>⟨g.τ,v,R.ver,R.sv+1,Y⟩⟩)) U
       |[]=>ab (g.fn (l,a)) λ v=>cond (Nat.beq (J v) (J l)) (K (.tup []) U) U
       |_=>U
     |Y=>U
   |_,_=>U
 |[]=>U
def Og(I:TS)(g:yu)(b:aa TV)(K:KT α):ac α:=match cF I g.args b with
 |Z (a,d,c)=>match ndN d&&(ndN c&&oD g.args)with
   |O=>ab (g.fn a) λ v=>K (.i .i64 v) U
   |Y=>U
 |U=>U
def Ip(c:TC)(I:TS)(f:Nat)(b:aa TV)(K:KT α):ac α:=match c.mf f with
 |Z g=>N4 I g b K
 |U=>match c.xf f with
   |Z g=>Og I g b K
   |U=>match c.sf f [],c.sf f (qn b)with
     |Z _,Z g=>match cF I g.args b with
       |Z (a,i,h)=>match ndN i&&(ndN h&&oD g.args)with
         |O=>ab (g.fn a) λ v=>vp (gc g.args v.1) g.res (nBx g.args) (nrB g.args) v.2 λ d e=>K (AT (yC (J I.bx) (nBx g.args) d (J I.rw+nrB g.args) e)) (Z ⟨sj I.bx i (jN g.args (J I.rw) v.1)++yn d (J I.rw+nrB g.args) e,mo I.rw h++(gc g.args v.1++yr d e)⟩)
         |Y=>U
       |U=>U
     |_,_=>U
def OQ(c:TC)(I:TS)(f:Nat)(a:aa TV)(K:KT α):ac α:=
 match c.has f,c.pf f (qn a)with
 |O,Z g=>match IB I.rw g.args a with
   |Z sas=>ab (g.fn sas) λ v=>K (AT (unL g.res v)) (match a.all pw||g.res.all Bb with|O=>U|Y=>Z (shA I))
   |U=>U
 |O,U=>U
 |Y,_=>Ip c I f a K
def opT(c:TC)(E:Env)(I:TS)(op:Op)(K:KT α):ac α:=
 match op with
 |.call ⟨.builtin b,a,ts⟩=>Nf c I b ts (a.toList.map (evT E)) K
 |.call ⟨.value g,a,_⟩=>match evT E g with
   |.fn f cs=>match c.inl f with
     |Z _=>U
     |U=>match cs with
       |[]=>OQ c I f (a.toList.map (evT E)) K
       |x::cs=>match c.has f with
         |O=>U
         |Y=>Ip c I f (a.toList.map (evT E)++(x::cs)) K
   |_=>U
 |.call _=>U
 |op=>eK c E I op K
def Bt(c:TC)(E:Env)(d:ac Tmp)(x:TV)(K:Env->ac α):ac α:=match d with
 |U=>K E
 |Z d=>match Nat.blt d c.nt with
   |O=>K ((d,x)::E)
   |Y=>U
def OV(ops:aL Oper)(E:Env)(o:Oper)(K:Bool->Env->ac α):ac α:=
 match o.guard with
 |U=>K O E
 |Z (j,a)=>match(ops[j]?).bind (·.dst)with
   |U=>U
   |Z d=>match get E d with
     |.b x=>match a with
       |O=>cond x (K O ((d,.b O)::E)) (K Y ((d,.b Y)::E))
       |Y=>cond x (K Y ((d,.b O)::E)) (K O ((d,.b Y)::E))
     |.tup []=>K Y E
     |_=>U
end
def qB(E:Env)(ops:aL Oper)(k:Nat)(t:Tmp):ac Nat:=match IG ops k t with
 |Z u=>match get E u with
   |.ptr b _=>Z b
   |_=>U
 |U=>U
def QI(E:Env)(ops:aL Oper)(k:Nat)(t:Tmp):Bool:=match IG ops k t with
 |Z u=>match get E u with
   |.rpt .. => O
   |_=>Y
 |U=>Y
mutual
def rbT:TV->ac (aa Nat)
 |.ptr b _|.mp b|.pti b _=>Z [b]
 |.fn _ cs|.agg cs|.tup cs=>sM cs
 |.dead=>U
 |_=>Z []
def sM:aa TV->ac (aa Nat)
 |[]=>Z []
 |x::l=>match rbT x,sM l with
   |Z a,Z b=>Z (a++b)
   |_,_=>U
end
def P5(I:TS)(b:Nat):Bool:=match I.bx[b]? with
 |Z cs=>match sM cs with
   |Z []=>O
   |_=>Y
 |U=>Y
def qab(c:TC)(E:Env)(I:TS):Op->ac (aa Nat)
 |.call ⟨.value g,as,_⟩=>match evT E g with
   |.fn f cs=>match(c.inl f).isSome,sM (as.toList.map (evT E)++cs)with
     |Y,Z l=>match l.all (P5 I)with
       |O=>Z l
       |Y=>U
     |_,_=>U
   |_=>U
 |_=>U
def In(c:TC)(ops:aL Oper)(j:Nat)(E:Env)(I:TS)(op:Op):Bool := !NK op||ops.toList.zipIdx.all λ(q,i)=>match q.op with
 |.load _ (.tmp a)=>((fQ (V ops) []).getD (max i j) 0).testBit (min i j)||match qB E ops i a,qab c E I op with
   |Z y,Z l=>Nat.blt y (J I.bx)&&l.all λ c => !Nat.beq c y
   |_,_=>Y
 |_=>O
section
variable {α:Type}
def ni(d:Env->TS->Op->KT α->ac α)(c:TC)(ops:aL Oper)(b:Bool):aa Oper->Env->TS->(Env->TS->ac α)->ac α
 |[],E,I,K=>K E I
 |o::a,E,I,K=>OV ops E o λ w E=>match w with
   |O=>d E I o.op λ x σ'=>match σ' with
     |U=>Bt c E o.dst x λ E=>ni d c ops b a E I K
     |Z σ'=>match b && !(cx c.loT o.op&&In c ops (ops.size-(J a+1)) E I o.op)with
       |O=>U
       |Y=>Bt c E o.dst x λ E=>ni d c ops b a E σ' K
   |Y=>Bt c E o.dst (.tup []) λ E=>ni d c ops b a E I K
structure Mv where
 E:Env
 bx:List (List TV)
 rw:List bZ
 mb:List (Nat×Nat)
 mr:List (Nat×Nat)
def eD(l:aa (Nat×Nat))(b:Nat):ac Nat:=match l with
 |[]=>U
 |p::r=>match Nat.beq p.1 b with
   |O=>Z p.2
   |Y=>eD r b
def Oi:TV->Bool
 |.i .. |.b _|.s _|.c _|.nil|.sl .. => O
 |.fn _ cs=>cs.isEmpty
 |.agg cs=>cs.all λ|.i .. |.b _|.s _|.c _|.nil|.sl .. => O|_=>Y
 |_=>Y
mutual
def mvT(I:TS)(k:Co)(x:TV)(m:Mv)(K:TV->Mv->ac α):ac α:=
 match k with
 |.keep=>match Oi x with
   |O=>K x m
   |Y=>K .dead m
 |.list τ=>match x with
   |.nil=>K (.sl τ [] 1) m
   |.sl a l _=>match mn l τ with
     |Z l=>K (.sl τ l 1) m
     |U=>U
   |_=>K .dead m
 |.plist τ=>match x with
   |.nil=>K (.sl τ [] 1) m
   |.sl a l _=>match mn l τ with
     |Z l=>K (.sl τ l 1) m
     |U=>U
   |_=>K .dead m
 |.row τ d=>match x with
   |.nil=>K (.row (J m.rw) 0) {m with rw:=m.rw++[⟨τ,[],0,0,d⟩]}
   |.sl a l j=>match mn l τ,X (1<j)with
     |Z l,O=>match d with
       |O=>K (.row (J m.rw) 0) {m with rw:=m.rw++[⟨τ,l,0,0,O⟩]}
       |Y=>match l with
         |[]=>K (.row (J m.rw) 0) {m with rw:=m.rw++[⟨τ,[],0,0,Y⟩]}
         |_=>U
     |_,_=>U
   |.row id e=>match I.rw[id]? with
     |Z R=>match Nat.beq R.ver e&&(d || !R.sh)with
       |O=>match mn R.l τ with
         |Z l=>match eD m.mr id with
           |Z g=>K (.row g 0) m
           |U=>K (.row (J m.rw) 0) {m with rw:=m.rw++[⟨τ,l,0,0,d⟩],mr:=(id,J m.rw)::m.mr}
         |U=>U
       |Y=>U
     |U=>U
   |_=>U
 |.fn cs=>match x with
   |.fn f xs=>mvL I cs xs m λ ys m=>K (.fn f ys) m
   |_=>U
 |.box cs=>match x with
   |.ptr b 0=>match eD m.mb b with
     |Z h=>K (.ptr h 0) m
     |U=>match I.bx[b]? with
       |Z xs=>mvL I cs xs m λ ys m=>match eD m.mb b with
         |U=>K (.ptr (J m.bx) 0) {m with bx:=m.bx++[ys],mb:=(b,J m.bx)::m.mb}
         |Z _=>U
       |U=>U
   |.c v=>K (.c v) m
   |.mp b=>match eD m.mb b with
     |Z h=>K (.mp h) m
     |U=>match I.bx[b]? with
       |Z [.mc i τ l]=>K (.mp (J m.bx)) {m with bx:=m.bx++[[.mc i τ l]],mb:=(b,J m.bx)::m.mb}
       |_=>U
   |_=>U
def mvL(I:TS)(cs:aa Co)(xs:aa TV)(m:Mv)(K:aa TV->Mv->ac α):ac α:=
 match cs,xs with
 |[],[]=>K [] m
 |co::cs,x::xs=>mvT I co x m λ y m=>mvL I cs xs m λ ys m=>K (y::ys) m
 |_,_=>U
end
def Bx(a:aa (Nat×Nat)):Nat->Bool
 |0=>O
 |n+1=>(match eD a n with|Z j=>Nat.beq n j|U=>Y)&&Bx a n
def mvE(a:Nat)(I:TS)(E:Env):aa (Tmp×Co)->Mv->(Env->TS->ac α)->ac α
 |[],m,K=>match Bx m.mb a with
   |O=>K m.E ⟨m.bx,m.rw⟩
   |Y=>U
 |(t,b)::r,m,K=>mvT I b (get E t) m λ y m=>mvE a I E r {m with E:=m.E++[(t,y)]} K
def OU(E:Env)(I:TS)(t:Tmp)(τ:Ty)(K:Env->TS->ac α):ac α:=match get E t with
 |.i .. => K E I
 |.b _|.s _|.c _|.nil=>K E I
 |.sl .. => K E I
 |.row id a=>match I.rw[id]? with
   |Z R=>match Nat.beq R.ver a with
     |O=>match mn R.l τ with
       |Z l=>K ((t,.sl τ l 1)::E) (shA I)
       |U=>U
     |Y=>U
   |U=>U
 |.dead=>K E (shA I)
 |_=>U
def vN:aa (Tmp×Co)->Env->TS->(Env->TS->ac α)->ac α
 |[],E,I,K=>K E I
 |(t,a)::r,E,I,K=>match a with
   |.plist τ=>OU E I t τ λ E I=>vN r E I K
   |_=>vN r E I K
def Ig(E:Env)(ops:aL Oper)(j:Nat)(o:Oper)(i:Nat)(q:Oper):Bool:=match o.op,q.op with
 |.store _ (.tmp a) _,.load _ (.tmp b)=>match qB E ops j a,qB E ops i b with
   |Z x,Z y => !Nat.beq x y
   |Z _,U=>QI E ops i b
   |_,_=>Y
 |.call ⟨.builtin .append,_,_⟩,.load _ (.tmp b)|.call ⟨.value _,_,_⟩,.load _ (.tmp b)=>(qB E ops i b).isSome
 |_,_=>Y
def qaL(a:Nat->Bool)(E:Env)(ops:aL Oper)(j:Nat)(o:Oper)(i:Nat)(q:Oper):Bool:=
 (match q.dst with|Z d=>(looks ops o).contains d|U=>Y)||(vw a o q && !(Ig E ops j o i q||Ig E ops i q j o))
def ym(c:Nat->Bool)(E:Env)(ops:aL Oper)(a:Bool):Bool:=match a with
 |O=>
   let b:=fQ (V ops) []
   ops.toList.zipIdx.all λ(o,j)=>((dc o).all λ e=>X (e<j))&&ops.toList.zipIdx.all λ(q,i)=>
    decide (i=j) || !qaL c E ops j o i q||(b.getD (max i j) 0).testBit (min i j)
 |Y=>O
def mq:Nat->aa TV->Env
 |_,[]=>[]
 |n,x::l=>(n,x)::mq (n+1) l
def qw(c:TC)(E:Env)(I:TS):ResultVar->ac TV
 |.tmp t=>Z (get E t)
 |.cell a t=>match c.ty t,get E a with
   |Z d,.ptr b o=>match I.bx[b]? with
     |Z cs=>match Ba cs with
       |O=>rY d.agg d.size cs o
       |Y=>U
     |U=>U
   |_,_=>U
def vM:Code->Nat
 |.seq a b=>max (vM a) (vM b)+1
 |_=>1
section
variable {α:Type}
def sd(c:TC):Code->Env->TS->(Env->TS->ac α)->ac α
 |.skip,E,I,K=>K E I
 |.seq a b,E,I,K=>sd c a E I λ E I=>sd c b E I K
 |.region _ ops d,E,I,K=>match rM ops d,qx ops d with
   |Y,U=>match ym c.loT E ops d with
     |O=>ni (opT c) c ops d (V ops) E I K
     |Y=>U
   |_,_=>U
 |_,_,_,_=>U
def Bn(c:TC)(E:Env)(I:TS):aa ResultVar->ac (aa TV)
 |[]=>Z []
 |r::l=>match qw c E I r with
   |Z x=>match Bn c E I l with
     |Z xs=>Z (x::xs)
     |U=>U
   |U=>U
def Py(c:TC)(fn:Func)(I:TS)(xs:aa TV)(K:KT α):ac α:=match fn.body with
 |Z a=>match Nat.ble (J xs) fn.ntmps&&Nat.ble (vM a) 12 with
   |O=>sd {c with nt:=fn.ntmps} a (mq 0 xs) I λ E I=>match Bn {c with nt:=fn.ntmps} E I (V fn.results) with
     |Z ys=>K (AT ys) (Z I)
     |U=>U
   |Y=>U
 |U=>U
def opI(c:TC)(E:Env)(I:TS)(op:Op)(K:KT α):ac α:=
 match op with
 |.call ⟨.value g,a,ts⟩=>match evT E g with
   |.fn f cs=>match c.inl f with
     |Z fn=>Py c fn I (a.toList.map (evT E)++cs) K
     |U=>opT c E I (.call ⟨.value g,a,ts⟩) K
   |_=>U
 |op=>opT c E I op K
end
def slT:TV->Bool
 |.sl ..|.row .. => O
 |_=>Y
def OH(E:Env)(ops:aL Oper):Bool:=match ph ops with
 |p::_=>match p.op with
   |.indexAddr _ u _=>slT (evT E u)
   |_=>Y
 |[]=>Y
def O9:TV->Bool
 |.ptr _ _=>O
 |_=>Y
def rC:Code->Nat
 |.region id _ _=>id
 |.seq a _=>rC a
 |.block _ b|.loop b=>rC b
 |.cond _ a _=>rC a
 |_=>0
def uT:aa (Tmp×Co)->aa Nat
 |[]=>[]
 |(t,a)::r=>match a with
   |.plist _=>t::uT r
   |_=>uT r
def TC.pur(c:TC)(b:Code):aa Nat:=match c.loop (rC b)with
 |Z l=>uT l
 |U=>[]
def Ji(E:Env)(x:bv)(b:Bool):Env:=match x with
 |.tmp t=>(t,.b b)::E
 |_=>E
def eZ(c:TC)(f:Env->TS->ac α)(L:aa It->Env->TS->ac α):Nat->aa It->Ex->Env->TS->ac α
 |0,_,_,_,_=>U
 |_+1,[],e,E,I=>match e with
   |.exit _=>U
   |_=>f E I
 |N+1,.code g::k,e,E,I=>match e with
   |.normal=>match g with
     |.skip|.label _=>eZ c f L N k .normal E I
     |.region _ ops d=>match rM ops d with
       |O=>match rP c.loT (V ops)&&(nZ c.loT ops&&ym c.loT E ⟨bi c.loT (V ops)⟩ O)with
         |O=>ni (opI c) c ⟨bi c.loT (V ops)⟩ O (bi c.loT (V ops)) E I λ E I=>ni (opI c) c ops Y (alL c.loT (V ops)) E I λ E I=>ni (opI c) c ops O (sL c.loT (V ops)) E I λ E I=>eZ c f L N k .normal E I
         |Y=>U
       |Y=>match qx ops d with
         |Z p=>match ym c.loT E (jq ops) O with
           |O=>ni (opI c) c (jq ops) O (V (jq ops)) E I λ E I=>match O9 (get E p)&&OH E ops with
             |O=>ni (opI c) c ops O (ph ops) E I λ E I=>eZ c f L N k .normal E I
             |Y=>U
           |Y=>U
         |U=>match ym c.loT E ops d with
           |O=>ni (opI c) c ops d (V ops) E I λ E I=>eZ c f L N k .normal E I
           |Y=>U
     |.seq a b=>eZ c f L N (.code a::.code b::k) .normal E I
     |.cond x a b=>match evT E x with
       |.b y=>cond y (eZ c f L N (.code a::k) .normal (Ji E x O) I) (eZ c f L N (.code b::k) .normal (Ji E x Y) I)
       |_=>U
     |.block id b=>eZ c f L N (.code b::.blk id::k) .normal E I
     |.loop b=>match c.loop (rC b)with
       |Z l=>vN l E I λ E I=>mvE c.np I E l ⟨[],[],[],[],[]⟩ λ E I=>L (.code (.loop b)::k) E I
       |U=>U
     |.exit id=>eZ c f L N k (.exit id) E I
     |.ret=>eZ c f L N k .ret E I
     |_=>U
   |e=>eZ c f L N k e E I
 |N+1,.blk id::k,e,E,I=>match e with
   |.exit i=>match Nat.beq i id with
     |O=>match c.join id with
       |Z l=>mvE c.np I E l ⟨[],[],[],[],[]⟩ λ E I=>L k E I
       |U=>eZ c f L N k .normal E I
     |Y=>eZ c f L N k (.exit i) E I
   |.normal=>match c.join id with
     |Z l=>mvE c.np I E l ⟨[],[],[],[],[]⟩ λ E I=>L k E I
     |U=>eZ c f L N k .normal E I
   |.ret=>eZ c f L N k .ret E I
 |_+1,.ops .. :: _,_,_,_=>U
def Ok(c:TC)(a:Env->TS->ac α)(L:aa It->Env->TS->ac α)(N:Nat)(d:aa It)(E:Env)(I:TS):ac α:=
 match d with
 |.code (.loop b)::k=>match c.loop (rC b)with
   |Z l=>vN l E I λ E I=>eZ c a L N (.code b::.code (.loop b)::k) .normal E I
   |U=>eZ c a L N (.code b::.code (.loop b)::k) .normal E I
 |d=>eZ c a L N d .normal E I
def qH(c:TC)(a:Env->TS->ac α)(N:Nat):Nat->aa It->Env->TS->ac α
 |0=>λ _ _ _=>U
 |n+1=>Ok c a (qH c a N n) N
end
def nn(c:TC):(ts:aa Ty)->aa ResultVar->Env->TS->ac (kG ts)
 |[],[],_,_=>Z ()
 |[a],[r],E,I=>match qw c E I r with
   |Z x=>jH I.rw a x
   |U=>U
 |a::b::ts,r::d,E,I=>match qw c E I r with
   |Z x=>match jH I.rw a x with
     |Z v=>match nn c (b::ts) d E I with
       |Z vs=>Z (v,vs)
       |U=>U
     |U=>U
   |U=>U
 |_,_,_,_=>U
def oC:(sas:aa SA)->Nat->Nat->jd sas->aa TV
 |[],_,_,_=>[]
 |.val τ::r,nb,b,a=>oA τ a.1::oC r nb b a.2
 |.row _::r,nb,b,a=>.row b 0::oC r nb (b+1) a.2
 |.box l::r,nb,b,a=>bxT l nb::oC r (nb+1) (b+nR l) a.2
 |.nil::r,nb,b,a=>.nil::oC r nb b a
 |.clo g k::r,nb,b,a=>.fn g ((oC r nb b a).take k)::(oC r nb b a).drop k
def sBx:(sas:aa SA)->Nat->jd sas->aa (aa TV)
 |[],_,_=>[]
 |.nil::r,b,a|.clo _ _::r,b,a=>sBx r b a
 |.val _::r,b,a=>sBx r b a.2
 |.row _::r,b,a=>sBx r (b+1) a.2
 |.box l::r,b,a=>qi l b (toC l a.1)::sBx r (b+nR l) a.2
def sRw:(sas:aa SA)->jd sas->aa bZ
 |[],_=>[]
 |.nil::r,a|.clo _ _::r,a=>sRw r a
 |.val _::r,a=>sRw r a.2
 |.row τ::r,a=>⟨τ,a.1,0,0,Y⟩::sRw r a.2
 |.box l::r,a=>lr l (toC l a.1)++sRw r a.2
def lC(I:TS):(sas:aa SA)->Nat->ac (eY sas×aa Nat×Bool)
 |[],_=>Z ((),[],O)
 |.nil::r,n|.clo _ _::r,n|.val _::r,n|.row _::r,n=>lC I r n
 |.box l::r,n=>match I.bx[n]? with
   |Z cs=>match fC I.rw l cs,lC I r (n+1)with
     |Z (v,i,q),Z (o,a,b)=>Z ((toB l v,o),i++a,q&&b)
     |_,_=>U
   |U=>U
def mF(c:TC)(E:Env)(I:TS)(f:aa Nat):(d:aa RE)->aa ResultVar->ac (RV d×aa Nat×aa Nat×Bool)
 |[],[]=>Z ((),[],[],O)
 |.one (.val a)::d,r::l=>match qw c E I r with
   |Z x=>match jH I.rw a x,mF c E I f d l with
     |Z v,Z (vs,b,e,q)=>Z ((v,vs),b,e,pw x&&q)
     |_,_=>U
   |U=>U
 |.one (.row a)::d,r::l=>match qw c E I r with
   |Z x=>match mD I.rw a x,mF c E I f d l with
     |Z (v,i),Z (vs,b,e,q)=>Z ((v,vs),i++b,e,q)
     |_,_=>U
   |U=>U
 |.agg p::d,r::l=>match qw c E I r with
   |Z (.agg cs)=>match fC I.rw p cs,mF c E I f d l with
     |Z (v,i,g),Z (vs,b,e,q)=>Z ((v,vs),i++b,e,g&&q)
     |_,_=>U
   |_=>U
 |_,_=>U
def qbG(rw:aa bZ):TV->ac (aa Nat)
 |.row id a=>match rw[id]? with
   |Z R=>match Nat.beq R.ver a with
     |O=>Z [id]
     |Y=>U
   |U=>U
 |x=>match rZ x with
   |O=>Z []
   |Y=>U
def I3(rw:aa bZ):aa TV->ac (aa Nat)
 |[]=>Z []
 |x::l=>match qbG rw x,I3 rw l with
   |Z a,Z b=>Z (a++b)
   |_,_=>U
def Bv (rw:List bZ):List RA->List TV->Option (List Nat)
 | [],_=>some []
 | .val τ :: r,cs=>match I3 rw (cs.take τ.size),Bv rw r (cs.drop τ.size) with
   | some a,some b=>some (a++b)
   | _,_=>none
 | .row _::r,cs=>Bv rw r (cs.drop 1)
def sB(I:TS):aa SA->Nat->ac (aa Nat)
 |[],_=>Z []
 |.box l::r,n=>match I.bx[n]? with
   |Z cs=>match Bv I.rw l cs,sB I r (n+1)with
     |Z a,Z b=>Z (a++b)
     |_,_=>U
   |U=>U
 |.nil::r,n|.clo _ _::r,n|.val _::r,n|.row _::r,n=>sB I r n
def qa1(vs:ac (aa Nat))(l:aa Nat):Bool:=match vs with
 |Z vs=>vs.all λ a=>l.all λ b => !Nat.beq a b
 |U=>Y
def OJ(n:Nat)(l:aa Nat):aa Nat:=match Nat.beq (J l) n with
 |O=>l
 |Y=>[]
def yp(c:TC)(sas:aa SA)(d:aa RE)(l:aa ResultVar)(E:Env)(I:TS):ac (eY sas×RV d):=match lC I sas 0 with
 |Z (o,i,q)=>match mF c E I (OJ (nrB sas) i) d l with
   |Z (v,a,e,f)=>match ndN (i++a)&&(((i++a).isEmpty||(f&&(q||qa1 (sB I sas 0) (i++a))))&&(ndN e&&e.all λ b=>Nat.ble (nBx sas) b))with
     |O=>Z (o,v)
     |Y=>U
   |U=>U
 |U=>U
end
section
open RowKit
mutual
def Qy:T->aa AV
 |.mk k n s l=>[.v (.int .i64 k),.v (.string ⟨n.toArray⟩),.v (.int .i64 s),.sl 4 (Bl l) 0]
def Bl:aa T->aa (aa AV)
 |[]=>[]
 |t::l=>Qy t::Bl l
end
mutual
def qbv:AV->ac (aa T)
 |.v (.slice U 0 0)=>Z []
 |.sl 4 a _=>By a
 |_=>U
def By:aa (aa AV)->ac (aa T)
 |[]=>Z []
 |e::a=>match Pt e with
   |Z t=>match By a with
     |Z l=>Z (t::l)
     |U=>U
   |U=>U
def Pt:aa AV->ac T
 |[.v (.int .i64 k),.v (.string n),.v (.int .i64 s),x]=>match qbv x with
   |Z l=>Z (.mk k (V n.data) s l)
   |U=>U
 |_=>U
end
mutual
theorem qp2:∀t:T,Pt (Qy t)=Z t
 |.mk k n s l=>by
   rw[Qy,Pt,qbv,W0 l]
theorem W0:∀l:aa T,By (Bl l)=Z l
 |[]=>by rw[Bl,By]
 |t::l=>by rw[Bl,By,qp2 t,W0 l]
end
def dH.len:∀{xs ys:aa AV},dH xs ys->J xs=J ys
 |_,_,.nil=>rfl
 |_,_,.cons _ t=>by simp[t.len]
theorem dH.get:∀{xs ys:aa AV},dH xs ys->∀(i:Nat) (y:AV),ys[i]?=Z y->∃x,xs[i]?=Z x/\Sub x y
 |_,_,.nil,i,y,h=>by simp at h
 |_,_,.cons a t,0,y,h=>by simp at h;subst h;exact⟨_,rfl,a⟩
 |_,_,.cons a t,i+1,y,h=>by simpa using t.get i y (by simpa using h)
def W4{xs ys:aa AV}(h:dH xs ys):Sub (.agg xs) (.agg ys):=by
 intro Γ u a;cases a with
 |agg cs us c d b=>
   have:=h.rep (RepL.mk c b);exact .agg _ _ this.len d this.rep
def fN(R:Row):Row:=⟨R.k,[],0,1,Y⟩
def G6{Γ Γ':Gh}{x:AV}{u:aj}(a:∀b o u,Γ.mem b o=Z u->Γ'.mem b o=Z u)(h:Rep Γ x u)(d:rb x=[])(c:rr x=[]):Rep Γ' x u:=by
 have:=HZ (Γ':=Γ') (fb:=λ b=>b) (fr:=λ r=>r) a h (by rw[d];intro b hb;cases hb) (by rw[c];intro b hb;cases hb)
 rwa [Oc]at this
def ZO:∀{cs:aa AV},rbL cs=[]->∀x∈cs,rb x=[]
 |[],_,x,a=>by cases a
 |y::cs,h,x,a=>by
   simp only[rbL,nG]at h;obtain rfl|a:=be.1 a
   .exact h.1
   .exact ZO h.2 x a
def YD:∀{cs:aa AV},rrL cs=[]->∀x∈cs,rr x=[]
 |[],_,x,a=>by cases a
 |y::cs,h,x,a=>by
   simp only[rrL,nG]at h;obtain rfl|a:=be.1 a
   .exact h.1
   .exact YD h.2 x a
def qoh{Γ Γ':Gh}{cs:aa AV}{us:aa aj}(d:∀b o u,Γ.mem b o=Z u->Γ'.mem b o=Z u)(h:RepL Γ cs us)(f:rbL cs=[])(e:rrL cs=[]):RepL Γ' cs us:=
 ⟨h.len,λ i x u a c=>G6 d (h.rep i x u a c) (ZO f x (aK a)) (YD e x (aK a))⟩
def Vd{x:AV}(h:bq x=O):rb x=[]/\rr x=[]:=(xj (fb:=λ b=>b) (fr:=λ r=>r) h).2
def qbh(ds cs:aa AV):Prop:=∃d e a c vs vs',ds=[.mc d e a c vs]/\cs=[.mc d e a c vs']/\J vs'=J vs/\∀(j:Nat) (v b:aa AV),vs[j]?=Z v->vs'[j]?=Z b->Sub (ft a v) (ft a b)/\b.all bq=O
def kC.sub{Γ:Gh}{w:aC}{b:Nat}{n:aa KC}{o f:Bool}{m vs vs':aa (aa AV)}(h:kC Γ w b n o f m vs)(t:J vs'=J vs)(s:∀(j:Nat) (v g:aa AV),vs[j]?=Z v->vs'[j]?=Z g->Sub (ft f v) (ft f g)/\g.all bq=O):kC Γ w b n o f m vs':=by
 let⟨z,D,d,y,x,u⟩:=h;refine⟨t.trans z,D,d,y,x,λ j k v e a b c=>?_⟩;have E:=(fd.1 b).1;have p:=aU (l:=vs) (i:=j) (by omega);let⟨C,B,A,F⟩:=u j k _ e a p c;let⟨r,q⟩:=s j _ _ p b;exact⟨C,r _ _ B,A,q⟩
structure OZ (σ1:St) (fs:List Nat) (so:Option Nat) (R:Row):Prop where
 fz:R.fz=0
 ver:R.ver=0
 pos:0<R.k
 len:∀e∈R.c,e.length=R.k
 plain:∀e∈R.c,∀x∈e,bq x=O
 src:match so with
  |U=>R.c=[]
  |Z j=>∃Q,σ1.rw[j]?=Z Q/\Q.k=R.k/\Q.fz=0/\Q.c.length=R.c.length/\(∀(i:Nat) (e e':List AV),Q.c[i]?=Z e->R.c[i]?=Z e'->dH e e')/\j ∉ fs/\Q.off=Y
def oy(nb:Nat)(kb:aa Nat)(i:Nat):Nat:=if i<nb then i else kb.getD (i-nb) 0
def eU(a:Gh)(m:Nat->Nat->ac aj)(nb:Nat)(kb:aa Nat)(L:Nat)(aI:aa (ac Nat×Row)):Gh:=
 {mem:=m,nb:=nb+J kb,β:=λ i=>a.β (oy nb kb i),nr:=L+J aI,ver:=λ r=>if r<L then a.ver r+1 else 0,
   k:=λ r=>if r<L then a.k r else match aI[r-L]? with|Z p=>p.2.k|U=>1,
   cur:=λ r=>if r<L then a.cur r else match aI[r-L]? with|Z (Z j,_)=>a.cur j|_=>0,
   sz:=λ r=>if r<L then 0 else match aI[r-L]? with|Z (Z j,_)=>a.sz j|_=>0,of:=λ _=>0}
def Ix{y d:Gh}{σ0 σ1:St}{w0 L:aC}(K:Inv y σ0 w0)(t:Ext y w0 d L)(I:Inv d σ1 L)(a9:J σ0.bx<=J σ1.bx)
  (z:aa (aa AV)) (kb:aa Nat) (a3:J z=J σ0.bx+J kb) (T:∀b∈kb,J σ0.bx<=b/\b<J σ1.bx) (a8:kb.Nodup) (N:aa Nat) (aI:aa (ac Nat×Row)) (a6:∀(i:Nat) (cs:aa AV),z[i]?=Z cs->∃ds,σ1.bx[oy (J σ0.bx) kb i]?=Z ds/\(noMc ds=Y->qbh ds cs)/\∀m,Fz d m->(∀r∈N,∀R,σ1.rw[r]?=Z R->gO {d with mem:=m} r R)->∀us,RepL d ds us->RepL (eU d m (J σ0.bx) kb (J σ0.rw) aI) cs us)
  (hn:∀(a:Nat) (so:ac Nat) (R:Row),aI[a]?=Z (so,R)->OZ σ1 N so R) (hd:∀(a b j:Nat) (R R':Row),aI[a]?=Z (Z j,R)->aI[b]?=Z (Z j,R')->a=b) (wl az:aa Nat):
  ∃m,Fz d m/\(∀r∈N,∀R,σ1.rw[r]?=Z R->gO {d with mem:=m} r R)/\Ext y w0 (eU d m (J σ0.bx) kb (J σ0.rw) aI) L/\Inv (eU d m (J σ0.bx) kb (J σ0.rw) aI) ⟨z,σ0.rw.map fN++aI.map (·.2),wl,az⟩ L:=by
 let⟨m,m1,m2,m3⟩:=pL N I σ1.wrr;have a7:J σ0.bx<=d.nb:=by rw[I.nb];exact a9
 have an:∀b o u,d.mem b o=Z u->m b o=Z u:=m1.le.mem
 have C:∀{i:Nat},i<J σ0.bx+J kb->oy (J σ0.bx) kb i<d.nb:=λ{i} f=>by
  unfold oy;split
  .exact dq ‹_› a7
  .rw[dO,aU (show i-J σ0.bx<J kb by omega),I.nb];exact(T _ (gC _)).2
 have bb:∀{i j:Nat},i<J σ0.bx+J kb->j<J σ0.bx+J kb->oy (J σ0.bx) kb i=oy (J σ0.bx) kb j->i=j:=λ{i j} f W g=>by
  unfold oy at g;split at g<;>split at g
  .exact g
  .rw[dO,aU (show j-J σ0.bx<J kb by omega)]at g;have g:i=kb[j-J σ0.bx]:=g;have:=(T _ (gC (show j-J σ0.bx<J kb by omega))).1;omega
  .rw[dO,aU (show i-J σ0.bx<J kb by omega)]at g;have g:kb[i-J σ0.bx]=j:=g;have:=(T _ (gC (show i-J σ0.bx<J kb by omega))).1;omega
  .rw[dO,dO,aU (show i-J σ0.bx<J kb by omega),aU (show j-J σ0.bx<J kb by omega)]at g;have g:kb[i-J σ0.bx]=kb[j-J σ0.bx]:=g;have:=(List.getElem_inj (h₀:=by omega) (h₁:=by omega) a8).1 g;omega
 have B:∀{r:Nat},¬ r<J σ0.rw->(eU d m (J σ0.bx) kb (J σ0.rw) aI).sz r≠0->∃j R Q,aI[r-J σ0.rw]?=Z (Z j,R)/\σ1.rw[j]?=Z Q/\mZ {d with mem:=m} L j Q/\(eU d m (J σ0.bx) kb (J σ0.rw) aI).cur r=d.cur j/\(eU d m (J σ0.bx) kb (J σ0.rw) aI).sz r=d.sz j:=by
  intro r s q;have P:(if r<J σ0.rw then 0 else match aI[r-J σ0.rw]? with|some (Z j,_)=>d.sz j|_=>0)≠0:=q;rw[ae s]at P;split at P
  .rename_i j R F;let⟨Q,q1,_,_,_,_,q6,_⟩:=(hn _ _ _ F).src;refine⟨j,R,Q,F,q1,m2.row j Q (by show(frz σ1.rw N)[j]?=_;rw[AH N _ j q6];exact q1),?_,?_⟩
   .show(if r<J σ0.rw then _ else match aI[r-J σ0.rw]? with|some (Z j,_)=>d.cur j|_=>0)=_;rw[ae s,F]
   .show(if r<J σ0.rw then _ else match aI[r-J σ0.rw]? with|some (Z j,_)=>d.sz j|_=>0)=_;rw[ae s,F]
  .exact absurd rfl P
 have v:∀{r:Nat},r<J σ0.rw->(eU d m (J σ0.bx) kb (J σ0.rw) aI).sz r=0:=λ s=>af s;refine⟨m,m1,m3,⟨⟨λ b o u h=>an _ _ _ (t.le.mem b o u h),by rw[K.nb];exact kM _ _,λ i f=>by rw[<-t.le.β i f];show d.β (oy _ _ _)=_;unfold oy;rw[af (by rw[<-K.nb];exact f)],by rw[K.nr];exact kM _ _,λ r s=>?_,λ r s=>?_,λ r s g=>?_⟩,t.os,t.tape,t.output,t.size,t.block,?_,?_,t.drawn⟩,?_⟩
 .rw[K.nr]at s;exact(af s).trans (t.le.k r (by rw[K.nr];exact s))
 .have:=t.le.ver r s;rw[K.nr]at s;show y.ver r<=(if r<J σ0.rw then d.ver r+1 else 0);rw[af s];omega
 .have:=t.le.ver r s;rw[K.nr]at s;have g:(if r<J σ0.rw then d.ver r+1 else 0)=y.ver r:=g;rw[af s]at g;omega
 .rintro b (⟨i,f,hb⟩|⟨r,s,q,hb⟩)
  .exact t.own b (.inl ⟨_,C f,hb⟩)
  .by_cases l:r<J σ0.rw
   .exact absurd (v l) q
   .let⟨j,R,Q,_,q2,_,q4,q5⟩:=B l q;exact t.own b (.inr ⟨j,by rw[I.nr];exact getElem?_lt q2,by rw[<-q5];exact q,by rw[<-q4];exact hb⟩)
 .intro b o u hm;obtain h|h:=m1.own b o u hm
  .exact t.memg b o u h
  .exact .inr (t.own b h)
 .refine⟨a3.symm,by show J σ0.rw+J aI=_;simp,λ b o u h=>m2.mem b o u h,?_,λ i j f W g=>bb f W (I.inj _ _ (C f) (C W) g),λ i f o=>m2.boxmem _ (C f) o,?_,?_⟩
  .intro i cs f;let⟨ds,d1,d3,d2⟩:=a6 i cs f;obtain⟨vs,e,v1,v2,v3⟩|⟨kc,ka,va,ks,vs,rfl,hm⟩:=(I.box _ ds d1).split
   .exact .of ⟨vs,e,v1,d2 m m1 m3 _ v2,v3⟩
   .obtain⟨_,_,_,_,_,vs',e1,rfl,l1,l2⟩:=d3 rfl;cases e1;exact(hm.sub l1 l2).to (λ _ h=>h) λ x u t g1 g2=>G6 an t g1 g2
  .intro r R w;have w:(σ0.rw.map fN++aI.map (·.2))[r]?=Z R:=w;by_cases l:r<J σ0.rw
   .rw[dy (by rw[cj];exact l),di]at w;cases n:σ0.rw[r]? with
    |none=>rw[n]at w;cases w
    |some R0=>
      rw[n]at w;cases w;have H:=K.row r R0 n;have q:=v l;refine⟨?_,λ h=>absurd h (by show ¬ 1<=0;omega),H.pos,(by intro e g;cases g),(by intro e g;cases g),.inl rfl,λ h=>absurd q h,by show 0+0*_<=_;rw[kL];exact aG _,λ h=>absurd q h,(by intro i e j x f;cases f),λ h=>absurd q h,λ _=>rfl⟩;show R0.k=(if r<J σ0.rw then d.k r else _);rw[af l,H.k];exact(t.le.k r (by rw[K.nr];exact l)).symm
   .rw[eu (by rw[cj];omega),cj,di]at w;cases n:aI[r-J σ0.rw]? with
    |none=>rw[n]at w;cases w
    |some p=>
      rw[n]at w;cases w;let⟨so,R⟩:=p;have D:=hn _ _ _ n
      have hk:R.k=(eU d m (J σ0.bx) kb (J σ0.rw) aI).k r:=by
       show _=(if r<J σ0.rw then _ else match aI[r-J σ0.rw]? with|some p=>p.2.k|none=>1);rw[ae l,n]
      have M:R.ver=(eU d m (J σ0.bx) kb (J σ0.rw) aI).ver r:=by
       show _=(if r<J σ0.rw then _ else 0);rw[ae l];exact D.ver
      cases so with
      |none=>
        have hc:R.c=[]:=D.src
        have q:(eU d m (J σ0.bx) kb (J σ0.rw) aI).sz r=0:=by
         show(if r<J σ0.rw then 0 else match aI[r-J σ0.rw]? with|some (Z j,_)=>d.sz j|_=>0)=0;rw[ae l,n]
        exact⟨hk,λ _=>M,D.pos,D.len,D.plain,.inl hc,λ h=>absurd q h,by show 0+J R.c*_<=_;rw[hc];simp,λ h=>absurd q h,(by intro i e j x f;change R.c[i]?=_ at f;rw[hc]at f;cases f),λ h=>absurd q h,λ _=>rfl⟩
      |some j=>
        let⟨Q,q1,q2,q3,q4,q5,q6,q7⟩:=D.src;have H:mZ {d with mem:=m} L j Q:=m2.row j Q (by show(frz σ1.rw N)[j]?=_;rw[AH N _ j q6];exact q1)
        have G:(eU d m (J σ0.bx) kb (J σ0.rw) aI).cur r=d.cur j:=by
         show(if r<J σ0.rw then _ else match aI[r-J σ0.rw]? with|some (Z j,_)=>d.cur j|_=>0)=_;rw[ae l,n]
        have A:(eU d m (J σ0.bx) kb (J σ0.rw) aI).sz r=d.sz j:=by
         show(if r<J σ0.rw then _ else match aI[r-J σ0.rw]? with|some (Z j,_)=>d.sz j|_=>0)=_;rw[ae l,n]
        have S:d.of j=0:=H.off q7;refine⟨hk,λ _=>M,D.pos,D.len,D.plain,.inr (by show R.fz<=_;rw[D.fz];exact aG _),λ q=>?_,?_,λ q off ho=>?_,?_,λ q i f=>?_,λ _=>rfl⟩
        .rw[A]at q;let⟨vs,e,fr,b1,b2,b3,b4⟩:=H.blk q;exact⟨vs,e,fr,by rw[G];exact b1,by rw[A];exact b2,b3,b4⟩
        .show 0+J R.c*R.k<=_;have ax:d.of j+J Q.c*Q.k<=d.sz j:=H.fit;rw[S]at ax;rw[A,<-q4,<-q2];exact ax
        .rw[A]at q;rw[G];apply H.un q off;show d.of j+_<=_;rw[q3,kL,S];exact aG _
        .intro i e' jj x' f W;have f:R.c[i]?=Z e':=f;have ar:i<J Q.c:=by rw[q4];exact getElem?_lt f
         let⟨x,a0,ad⟩:=(q5 i _ e' (aU ar) f).get jj x' W;let⟨u,u1,u2,u3⟩:=H.cells i _ jj x (aU ar) a0;let⟨p1,p2⟩:=Vd (D.plain e' (aK f) x' (aK W));refine⟨u,?_,G6 (Γ:={d with mem:=m}) (λ _ _ _ h=>h) (ad _ _ u2) p1 p2,u3⟩;have aE:L.cell? ⟨d.cur j,d.of j+(i*Q.k+jj),U⟩=Z u:=u1;show L.cell? ⟨_,0+(i*R.k+jj),U⟩=_;rw[G,<-q2,<-S];exact aE
        .rw[A]at q;rw[G];exact H.nbx q _ (C f)
  .intro r r' s bl bm z1 z2;by_cases e1:r<J σ0.rw
   .exact absurd (v e1) z1
   by_cases e2:r'<J σ0.rw
   .exact absurd (v e2) z2
   let⟨j,R,Q,a1,a2,_,a4,a5⟩:=B e1 z1;let⟨j',R',Q',b1,b2,_,b4,b5⟩:=B e2 z2;rw[a4,b4];refine I.apart j j' (by rw[I.nr];exact getElem?_lt a2) (by rw[I.nr];exact getElem?_lt b2) (λ g=>?_) (by rw[<-a5];exact z1) (by rw[<-b5];exact z2);subst g;have:=hd _ _ _ _ _ a1 b1;omega
def bV{a:Type}(f:aa AV->ac a):aa (aa AV)->ac (aa a)
 |[]=>Z []
 |e::b=>match f e with
   |Z v=>match bV f b with
     |Z vs=>Z (v::vs)
     |U=>U
   |U=>U
mutual
def qk:AV->ac (aa T)
 |.v (.slice U 0 0)=>Z []
 |.sl 4 a (_+1)=>A8 a
 |_=>U
def A8:aa (aa AV)->ac (aa T)
 |[]=>Z []
 |e::a=>match fT e with
   |Z t=>match A8 a with
     |Z l=>Z (t::l)
     |U=>U
   |U=>U
def fT:aa AV->ac T
 |[.v (.int .i64 k),.v (.string n),.v (.int .i64 s),x]=>match qk x with
   |Z l=>Z (.mk k (V n.data) s l)
   |U=>U
 |_=>U
end
def full{a:Type}:ac (a×aa AV)->ac a
 |Z (v,[])=>Z v
 |_=>U
def fK(k:Nat){a:Type}(f:aa AV->ac a):AV->ac (aa a)
 |.v (.slice U 0 0)=>Z []
 |.sl b c (_+1)=>match bG b k with
   |O=>bV f c
   |Y=>U
 |_=>U
def fx(k:IntKind):aa AV->ac (Int×aa AV)
 |.v (.int a n)::r=>match X (a=k)with
   |O=>Z (n,r)
   |Y=>U
 |_=>U
def mu:aa AV->ac (Bool×aa AV)
 |.v (.bool b)::r=>Z (b,r)
 |_=>U
def js:aa AV->ac (aa aN×aa AV)
 |.v (.string s)::r=>Z (V s.data,r)
 |_=>U
def gP:aa AV->ac (T×aa AV)
 |a::b::c::d::r=>match fT [a,b,c,d]with
   |Z t=>Z (t,r)
   |U=>U
 |_=>U
def cw{a:Type}(b:AV->ac a):aa AV->ac (a×aa AV)
 |x::r=>match b x with
   |Z l=>Z (l,r)
   |U=>U
 |_=>U
def gn{d c:Type}(f:aa AV->ac d)(g:aa AV->ac c):aa (aa AV)->aa (aa AV)->ac (aa (d×c))
 |[],[]=>Z []
 |k::e,v::vs=>match f k,g v with
   |Z a,Z b=>match gn f g e vs with
     |Z l=>Z ((a,b)::l)
     |U=>U
   |_,_=>U
 |_,_=>U
def dMc{d c:Type}(a b:Ty)(f:aa AV->ac d)(g:aa AV->ac c):AV->ac (aa (d×c))
 |.mc i j e h vs=>match X (i=kcT a)&&(cQ j a.agg&&cQ e b.agg)with
   |O=>gn f g h vs
   |Y=>U
 |_=>U
def eR:(τ:Ty)->aa AV->ac (Val τ×aa AV)
 |.int k=>fx k
 |.bool=>mu
 |.str=>js
 |.term=>gP
 |.list a=>cw (fK a.size (λ e=>full (eR a e)))
 |.pair a b=>IV (eR a) (eR b)
 |.one a=>eR a
 |.map a b=>cw (dMc a b (λ e=>full (eR a e)) (λ e=>full (eR b e)))
def bt(τ:Ty)(e:aa AV):ac (Val τ):=full (eR τ e)
def dlist(τ:Ty)(x:AV):ac (aa (Val τ)):=fK τ.size (bt τ) x
mutual
def iL:T->aa AV
 |.mk k n s l=>[.v (.int .i64 k),.v (.string ⟨n.toArray⟩),.v (.int .i64 s),.sl 4 (vt l) 1]
def vt:aa T->aa (aa AV)
 |[]=>[]
 |t::l=>iL t::vt l
end
def aH:(τ:Ty)->Val τ->aa AV
 |.int k,n=>[.v (.int k n)]
 |.bool,b=>[.v (.bool b)]
 |.str,s=>[.v (.string ⟨s.toArray⟩)]
 |.term,t=>iL t
 |.list a,l=>[.sl a.size (l.map (aH a)) 1]
 |.pair a b,p=>aH a p.1++aH b p.2
 |.one a,v=>aH a v
 |.map a b,l=>[.mc (kcT a) a.agg b.agg (l.map λ p=>aH a p.1) (l.map λ p=>aH b p.2)]
def cy:(τ:Ty)->Val τ->AV
 |.int k,n=>.v (.int k n)
 |.bool,b=>.v (.bool b)
 |.str,s=>.v (.string ⟨s.toArray⟩)
 |.list a,l=>.sl a.size (l.map (aH a)) 1
 |.term,t=>.agg (aH .term t)
 |.pair a b,p=>.agg (aH (.pair a b) p)
 |.one a,v=>.agg (aH (.one a) v)
 |.map a b,l=>.mc (kcT a) a.agg b.agg (l.map λ p=>aH a p.1) (l.map λ p=>aH b p.2)
def jC{a:Type}{f:aa AV->ac a}{e:aa AV}{b:aa (aa AV)}{l:aa a}:bV f (e::b)=Z l↔∃v vs,f e=Z v/\bV f b=Z vs/\l=v::vs:=by
 grind [bV]
theorem dX{b:Type}{f:aa AV->ac b}:∀{a:aa (aa AV)}{l:aa b},bV f a=Z l->J a=J l
 |[],l,h=>by cases h;rfl
 |e::a,l,h=>by
   obtain⟨v,vs,_,c,rfl⟩:=jC.1 h;simp[dX c]
def xg{b:Type}{f:aa AV->ac b}:∀{c:aa (aa AV)}{l:aa b},bV f c=Z l->∀{i:Nat}{v:b},l[i]?=Z v->∃e,c[i]?=Z e/\f e=Z v
 |[],l,h,i,v,a=>by cases h;simp at a
 |e::c,l,h,i,v,a=>by
   obtain⟨w,vs,g,d,rfl⟩:=jC.1 h;cases i with
   |zero=>simp at a;subst a;exact⟨e,rfl,g⟩
   |succ i=>exact xg d (by simpa using a)
def oN{c:Type}{f:aa AV->ac c}:∀{b:aa (aa AV)}{l:aa c},bV f b=Z l->∀{i:Nat}{e:aa AV},b[i]?=Z e->∃v,l[i]?=Z v/\f e=Z v
 |[],l,h,i,v,a=>by simp at a
 |e::b,l,h,i,v,a=>by
   obtain⟨w,vs,g,d,rfl⟩:=jC.1 h;cases i with
   |zero=>simp at a;subst a;exact⟨w,rfl,g⟩
   |succ i=>exact oN d (by simpa using a)
def ri{c:Type}{f:aa AV->ac c}:∀{b a:aa (aa AV)}{l m:aa c},bV f b=Z l->bV f a=Z m->bV f (b++a)=Z (l++m)
 |[],a,l,m,h,g=>by cases h;exact g
 |e::b,a,l,m,h,g=>by
   obtain⟨v,vs,i,d,rfl⟩:=jC.1 h;exact jC.2 ⟨v,vs++m,i,ri d g,rfl⟩
def zR{b:Type}{f:aa AV->ac b}:∀(n:Nat) {a:aa (aa AV)}{l:aa b},bV f a=Z l->bV f (a.take n)=Z (l.take n)
 |0,a,l,h=>by simp;rfl
 |n+1,[],l,h=>by cases h;rfl
 |n+1,e::a,l,h=>by
   obtain⟨v,vs,d,c,rfl⟩:=jC.1 h;exact jC.2 ⟨v,vs.take n,d,zR n c,rfl⟩
def xd{b:Type}{f:aa AV->ac b}:∀(n:Nat) {a:aa (aa AV)}{l:aa b},bV f a=Z l->bV f (a.drop n)=Z (l.drop n)
 |0,a,l,h=>by simpa using h
 |n+1,[],l,h=>by cases h;rfl
 |n+1,e::a,l,h=>by
   obtain⟨v,vs,d,c,rfl⟩:=jC.1 h;simpa using xd n c
theorem pQ{a:Type}{f:aa AV->ac a}{g:a->aa AV}(h:∀v,f (g v)=Z v):∀l:aa a,bV f (l.map g)=Z l
 |[]=>rfl
 |v::l=>jC.2 ⟨v,l,h v,pQ h l,rfl⟩
theorem Hu:∀a:aa (aa AV),A8 a=bV fT a
 |[]=>rfl
 |e::a=>by
   rw[A8,bV,Hu a];grind
def dP{a:Type}{x:ac (a×aa AV)}{v:a}:full x=Z v↔x=Z (v,[]):=by
 unfold full;grind
theorem zZ{cs:aa AV}{t:T}(h:fT cs=Z t):∃k n s x l,cs=[.v (.int .i64 k),.v (.string n),.v (.int .i64 s),x]/\qk x=Z l/\t=.mk k (V n.data) s l:=by
 unfold fT at h;grind
def Vt(e:aa AV):bt .term e=fT e:=by
 show full (gP e)=fT e;unfold gP;split
 .rename_i a b c d r;cases r with
  |nil=>
    cases f:fT [a,b,c,d]with
    |none|some t=>rfl
  |cons x r=>
    have g:fT (a::b::c::d::x::r)=U:=by
     grind [fT]
    rw[g];cases f:fT [a,b,c,d]with
    |none|some t=>rfl
 .rename_i h;cases f:fT e with
  |none=>rfl
  |some t=>
    grind [zZ]
def Ge(x:AV):dlist .term x=qk x:=by
 have a:(bt .term:aa AV->ac T)=fT:=funext Vt;unfold dlist fK qk;grind [bG,Ty.size,Hu]
def YP{g c:aa (aa AV)}{k f:Nat}(E:0<f)(r:J g=J c)(D:∀e∈c,J e=k)(C:∀e∈c,∀x∈e,bq x=O)
  (B:∀(i:Nat) (e d:aa AV),g[i]?=Z e->c[i]?=Z d->dH e d):Sub (.sl k g f) (.sl k c 1):=by
 intro Γ u A;cases A with
 |sl k g f a n cap b o us I H P N M G L K F=>
   have get:∀(i:Nat) (d:aa AV) (j:Nat) (y:AV),c[i]?=Z d->d[j]?=Z y->∃e x,g[i]?=Z e/\e[j]?=Z x/\Sub x y:=by
    intro i d j y m q;have p:i<J g:=by rw[r];exact getElem?_lt m
    have s:=aU p;let⟨x,z,l⟩:=(B i _ d s m).get j y q;exact⟨_,x,s,z,l⟩
   refine .sl k c 1 a n cap b o us (by rw[I,r]) (λ _=>H E) (λ h=>absurd h (by decide)) D C G ?_ ?_ ?_
   .grind
   .grind
   .intro i d j y m q;let⟨e,x,w,v,t⟩:=get i d j y m q;exact t Γ _ (F i e j x w v)
theorem Xs(k:Nat)(b:0<k):Sub (.v (.slice U 0 0)) (.sl k [] 1):=by
 intro Γ u a;have:=ce a;subst this;exact .sl k [] 1 U 0 0 0 0 (λ _ _=>undef) rfl (λ _=>au _) (λ h=>absurd h (by decide)) (by simp) (by simp) b (.inl rfl) (by simp) (by simp)
def Hg:∀l:aa T,vt l=l.map iL
 |[]=>rfl
 |t::l=>by rw[vt,Hg l];rfl
theorem Wq(t:T):J (iL t)=4:=by let⟨k,n,s,l⟩:=t;rw[iL];rfl
theorem Ug(t:T):∀x∈iL t,bq x=O:=by
 let⟨k,n,s,l⟩:=t;intro x a;rw[iL]at a;simp at a;obtain rfl|rfl|rfl|rfl:=a<;>rfl
theorem gY:∀(τ:Ty) (v:Val τ),J (aH τ v)=τ.size
 |.int _,_|.bool,_|.str,_=>rfl
 |.term,t=>Wq t
 |.list _,_=>rfl
 |.pair a b,p=>by rw[aH,aO,gY a,gY b];rfl
 |.one a,v=>by rw[aH,gY a];rfl
 |.map _ _,_=>rfl
theorem iC:∀(τ:Ty) (v:Val τ),∀x∈aH τ v,bq x=O
 |.int _,_,x,h|.bool,_,x,h|.str,_,x,h=>by simp[aH]at h;subst h;rfl
 |.term,t,x,h=>Ug t x h
 |.list _,_,x,h=>by simp[aH]at h;subst h;rfl
 |.pair a b,p,x,h=>by
   rw[aH]at h;obtain h|h:=aR.1 h
   .exact iC a _ x h
   .exact iC b _ x h
 |.one a,v,x,h=>iC a v x h
 |.map _ _,_,x,h=>by simp[aH]at h;subst h;rfl
def qtc(t:T):∀cs,fT cs=Z t->dH cs (iL t)/\∀x∈cs,bq x=O:=by
 refine T.ind (P:=λ t=>∀cs,fT cs=Z t->dH cs (iL t)/\∀x∈cs,bq x=O) ?_ t;intro t m cs h;obtain⟨k,n,s,x,l,rfl,b,rfl⟩:=zZ h;have o:(⟨n.data.toList.toArray⟩:iy)=n:=by cases n;simp
 have c:Sub x (.sl 4 (vt l) 1)/\bq x=O:=by
  unfold qk at b;split at b
  .cases b;rw[vt];exact⟨Xs 4 (by decide),rfl⟩
  .rename_i r q;refine⟨?_,rfl⟩;rw[Hu]at b;rw[Hg];apply YP (sU _) (by rw[dX b,cj])
   .grind [Wq]
   .grind [Ug]
   .intro i e u p a;let⟨g,d,j⟩:=oN b p;rw[di,d]at a;simp at a;subst a;exact(m g (aK d) e j).1
  .cases b
 refine⟨?_,?_⟩
 .rw[iL,o];exact .cons (.refl _) (.cons (.refl _) (.cons (.refl _) (.cons c.1 .nil)))
 .intro y f;simp at f;obtain rfl|rfl|rfl|rfl:=f
  .rfl
  .rfl
  .rfl
  .exact c.2
def dH.append:∀{a b c d:aa AV},dH a b->dH c d->dH (a++c) (b++d)
 |_,_,_,_,.nil,g=>g
 |_,_,_,_,.cons h t,g=>.cons h (t.append g)
theorem Ty.size_pos:∀τ:Ty,0<τ.size
 |.int _|.bool|.str=>Nat.one_pos
 |.term=>by decide
 |.list _=>Nat.one_pos
 |.pair a b=>dq (Ty.size_pos a) (kM _ _)
 |.one a=>Ty.size_pos a
 |.map _ _=>Nat.one_pos
def mO{I b a:Type}{p:aa I->ac (b×aa I)}{q:aa I->ac (a×aa I)}{cs:aa I}{v:b×a}{r:aa I}:IV p q cs=Z (v,r)↔∃c,p cs=Z (v.1,c)/\q c=Z (v.2,r):=by
 grind [IV]
def zJ:∀(τ:Ty) {cs:aa AV}{v:Val τ}{r:aa AV} (s:aa AV),eR τ cs=Z (v,r)->eR τ (cs++s)=Z (v,r++s)
 |.int k,cs,v,r,s,h=>by
   change fx k cs=_ at h;show fx k (cs++s)=_;unfold fx at h;grind [fx]
 |.bool,cs,v,r,s,h=>by
   change mu cs=_ at h;unfold mu at h;split at h<;>cases h;rfl
 |.str,cs,v,r,s,h=>by
   change js cs=_ at h;unfold js at h;split at h<;>cases h;rfl
 |.term,cs,v,r,s,h=>by
   change gP cs=_ at h;unfold gP at h;split at h<;>try cases h
   split at h<;>cases h;next c=>show gP _=_;grind [gP]
 |.list a,cs,v,r,s,h=>by
   change cw _ cs=_ at h;unfold cw at h;split at h<;>try cases h
   split at h<;>cases h;next c=>show cw _ _=_;grind [cw]
 |.pair a b,cs,v,r,s,h=>by
   let⟨f,e,d⟩:=mO.1 h;exact mO.2 ⟨_,zJ a s e,zJ b s d⟩
 |.one a,cs,v,r,s,h=>zJ a s h
 |.map a b,cs,v,r,s,h=>by
   change cw _ cs=_ at h;unfold cw at h;split at h<;>try cases h
   split at h<;>cases h;next c=>show cw _ _=_;grind [cw]
theorem oa{e d:Type}{a b:Ty}{f:aa AV->ac e}{g:aa AV->ac d}{x:AV}{l:aa (e×d)}(h:dMc a b f g x=Z l):∃i vs,x=.mc (kcT a) a.agg b.agg i vs/\gn f g i vs=Z l:=by
 unfold dMc at h;split at h<;>try cases h
 split at h<;>try cases h
 next c=>rw[aJ,aJ]at c;rw[bI c.1,qb c.2.1,qb c.2.2];exact⟨_,_,rfl,h⟩
def N1{e d:Type}{a b:Ty}{f:aa AV->ac e}{g:aa AV->ac d}{c vs:aa (aa AV)}:dMc a b f g (.mc (kcT a) a.agg b.agg c vs)=gn f g c vs:=by
 have h:∀x,cQ x x=O:=λ x=>by cases x<;>rfl
 simp only[dMc,iu,h,lF]
def qs4{c:aa KC}{d a:Bool}{b vs:aa (aa AV)}(y:AV):Sub (.mc c d a b vs) y:=λ Γ u h=>(qaA h).elim
def iX:∀(τ:Ty) {cs:aa AV}{v:Val τ}{r:aa AV},eR τ cs=Z (v,r)->∃pre,cs=pre++r/\J pre=τ.size/\(∀x∈pre,bq x=O)/\dH pre (aH τ v)/\eR τ pre=Z (v,[])
 |.int k,cs,v,r,h=>by
   change fx k cs=_ at h;unfold fx at h;split at h<;>try cases h
   split at h<;>cases h;next g=>have l:=bI g;subst l;exact⟨[_],rfl,rfl,by simp[bq],.refl _,by show fx _ _=_;simp[fx]⟩
 |.bool,cs,v,r,h=>by
   change mu cs=_ at h;unfold mu at h;split at h<;>cases h;exact⟨[_],rfl,rfl,by simp[bq],.refl _,rfl⟩
 |.str,cs,v,r,h=>by
   change js cs=_ at h;unfold js at h;split at h<;>cases h;rename_i s;have E:(⟨s.data.toList.toArray⟩:iy)=s:=by cases s;simp
   exact⟨[_],rfl,rfl,by simp[bq],by rw[aH,E];exact .refl _,rfl⟩
 |.term,cs,v,r,h=>by
   change gP cs=_ at h;unfold gP at h;split at h<;>try cases h
   split at h<;>cases h;next c=>let⟨o,m⟩:=qtc _ _ c;exact⟨_,rfl,rfl,m,o,by show gP _=_;simp only[gP,c]⟩
 |.list a,cs,v,r,h=>by
   change cw _ cs=_ at h;unfold cw at h;split at h<;>try cases h
   rename_i x A;split at h<;>cases h;rename_i c;refine⟨[x],rfl,rfl,?_,?_,by show cw _ _=_;simp only[cw,c]⟩
   .intro y f;simp at f;subst f;unfold fK at c;split at c
    .rfl
    .rfl
    .cases c
   .rw[aH];refine .cons ?_ .nil;unfold fK at c;split at c
    .grind [Xs,Ty.size_pos]
    .rename_i N P n;split at c
     .rename_i g;have g:=bI g;subst g;apply YP (sU _) (by rw[dX c,cj])
      .grind [gY]
      .grind [iC]
      .intro i e Q F d;let⟨w,t,q⟩:=oN c F;rw[di,t]at d;simp at d;subst d;let⟨pre,M,_,_,L,_⟩:=iX a (dP.1 q);grind
     .cases c
    .cases c
 |.pair a b,cs,v,r,h=>by
   let⟨K,o,m⟩:=mO.1 h;let⟨p,e1,C,t,z,I⟩:=iX a o;let⟨j,G,B,q,u,H⟩:=iX b m;refine⟨p++j,by rw[e1,G,bC],by rw[aO,C,B];rfl,?_,by rw[aH];exact z.append u,?_⟩
   .grind
   .exact mO.2 ⟨j,by have:=zJ a j I;simpa using this,H⟩
 |.one a,cs,v,r,h=>iX a h
 |.map a b,cs,v,r,h=>by
   change cw _ cs=_ at h;unfold cw at h;split at h<;>try cases h
   rename_i x A;split at h<;>cases h;rename_i c;refine⟨[x],rfl,rfl,?_,?_,by show cw _ _=_;simp only[cw,c]⟩
   .obtain⟨D,vs,rfl,_⟩:=oa c;intro y f;simp at f;subst f;rfl
   .obtain⟨D,vs,rfl,_⟩:=oa c;rw[aH];exact .cons (qs4 _) .nil
def qn5(t:T):fT (iL t)=Z t:=by
 refine T.ind (P:=λ t=>fT (iL t)=Z t) ?_ t;intro t c;let⟨k,n,s,l⟩:=t
 have:A8 (vt l)=Z l:=by
  rw[Hu,Hg];have c:∀x∈l,fT (iL x)=Z x:=c
  have a:∀m:aa T,(∀x∈m,fT (iL x)=Z x)->bV fT (m.map iL)=Z m:=by
   intro m
   induction m with
   |nil=>intro _;rfl
   |cons x m b=>intro h;exact jC.2 ⟨x,m,h x (bj ..),b λ y d=>h y (bk _ d),rfl⟩
  exact a l c
 rw[iL,fT,qk,this]
def uL:∀(τ:Ty) (v:Val τ),eR τ (aH τ v)=Z (v,[])
 |.int k,v=>by show fx k [_]=_;simp[fx]
 |.bool,v=>rfl
 |.str,v=>by show js _=_;simp[js,aH]
 |.term,t=>by
   have:=Vt (iL t);rw[qn5]at this;exact dP.1 this
 |.list a,l=>by
   have c:bV (λ e=>full (eR a e)) (l.map (aH a))=Z l:=pQ (λ v=>by rw[uL a v];rfl) l;show cw _ [_]=_;grind [cw,fK,bG]
 |.pair a b,v=>mO.2 ⟨_,zJ a _ (uL a v.1),by rw[iR];exact uL b v.2⟩
 |.one a,v=>uL a v
 |.map a b,l=>by
   have c:∀l:aa (Val a×Val b),gn (λ e=>full (eR a e)) (λ e=>full (eR b e)) (l.map λ p=>aH a p.1) (l.map λ p=>aH b p.2)=Z l:=by
    intro l
    induction l with
    |nil=>rfl
    |cons p l d=>
      have e1:full (eR a (aH a p.1))=Z p.1:=by rw[uL a p.1];rfl
      have f:full (eR b (aH b p.2))=Z p.2:=by rw[uL b p.2];rfl
      simp only[bh,gn,e1,f,d]
   show cw _ [_]=_;simp only[cw,N1,c]
def H2:∀(j:Ty) {cs:aa AV}{v:Val j}{r:aa AV},eR j cs=Z (v,r)->∃pre,cs=pre++r/\((∀x∈pre,∃c,ch [c] [x]=O)->pre=aH j v)
 |.int k,cs,v,r,h=>by
   change fx k cs=_ at h;unfold fx at h;split at h<;>try cases h
   split at h<;>cases h;next y=>exact⟨[_],rfl,λ _=>by rw[bI y];rfl⟩
 |.bool,cs,v,r,h=>by
   change mu cs=_ at h;unfold mu at h;split at h<;>cases h;exact⟨[_],rfl,λ _=>rfl⟩
 |.str,cs,v,r,h=>by
   change js cs=_ at h;unfold js at h;split at h<;>cases h;rename_i s;have w:(⟨s.data.toList.toArray⟩:iy)=s:=by cases s;simp
   exact⟨[_],rfl,λ _=>by rw[aH,w]⟩
 |.term,cs,v,r,h=>by
   change gP cs=_ at h;unfold gP at h;split at h<;>try cases h
   split at h<;>cases h;next f=>obtain⟨k,n,s,x,l,e,i,rfl⟩:=zZ f;cases e;refine⟨[_,_,_,_],rfl,λ d=>?_⟩;let⟨c,g⟩:=d _ (bk _ (bk _ (bk _ (bj ..))));unfold qk at i;split at i<;>(try cases i)<;>cases c<;>cases g
 |.list a,cs,v,r,h=>by
   change cw _ cs=_ at h;unfold cw at h;split at h<;>try cases h
   next x o=>split at h<;>cases h;next f=>refine⟨[x],rfl,λ d=>?_⟩;let⟨c,g⟩:=d x (by simp);unfold fK at f;split at f<;>(try cases f)<;>cases c<;>cases g
 |.pair a b,cs,v,r,h=>by
   let⟨B,i,z⟩:=mO.1 h;let⟨p,e1,u⟩:=H2 a i;let⟨q,A,t⟩:=H2 b z;exact⟨p++q,by rw[e1,A,bC],λ d=>by rw[aH,u λ x m=>d x (aR.2 (.inl m)),t λ x m=>d x (aR.2 (.inr m))]⟩
 |.one a,cs,v,r,h=>H2 a h
 |.map a b,cs,v,r,h=>by
   change cw _ cs=_ at h;unfold cw at h;split at h<;>try cases h
   next x o=>split at h<;>cases h;next f=>refine⟨[x],rfl,λ d=>?_⟩;let⟨c,g⟩:=d x (by simp);obtain⟨C,vs,rfl,_⟩:=oa f;cases c<;>cases g
theorem XF:∀{b:aa KC}{k:aa AV},ch b k=O->∀x∈k,∃c,ch [c] [x]=O
 |[],[],_,x,a=>by cases a
 |[],_::_,h,_,_=>by cases h
 |c::b,k,h,x,a=>by
   obtain⟨y,r,rfl,e,d⟩:=uN h;obtain rfl|a:=be.1 a
   .exact⟨c,e⟩
   .exact XF d x a
def qsy{a:Ty}{b:aa KC}{k:aa AV}{v:Val a}(h:bt a k=Z v)(c:ch b k=O):k=aH a v:=by
 let⟨pre,e,o⟩:=H2 a (dP.1 h);grind [XF]
def Ap{e d:Type}{f:aa AV->ac e}{g:aa AV->ac d}:∀{c vs:aa (aa AV)}{l:aa (e×d)},gn f g c vs=Z l->J c=J l/\J vs=J l
 |[],[],l,h=>by cases h;exact⟨rfl,rfl⟩
 |[],_::_,l,h|_::_,[],l,h=>by cases h
 |k::c,v::vs,l,h=>by
   simp only[gn]at h;split at h<;>try cases h
   split at h<;>cases h;next i=>let⟨a,b⟩:=Ap i;simp[a,b]
def MZ{m i:Type}{f:aa AV->ac m}{g:aa AV->ac i}:∀{e vs:aa (aa AV)}{l:aa (m×i)},gn f g e vs=Z l->∀{j:Nat}{k v:aa AV},e[j]?=Z k->vs[j]?=Z v->∃p,l[j]?=Z p/\f k=Z p.1/\g v=Z p.2
 |[],[],l,h,j,k,v,c,d=>by simp at c
 |[],_::_,l,h,_,_,_,_,_|_::_,[],l,h,_,_,_,_,_=>by cases h
 |k::e,v::vs,l,h,j,s,r,c,d=>by
   simp only[gn]at h;split at h<;>try cases h
   rename_i a b q o;split at h<;>cases h;rename_i n;cases j with
   |zero=>simp at c d;subst c;subst d;exact⟨_,rfl,q,o⟩
   |succ j=>exact MZ n (by simpa using c) (by simpa using d)
abbrev jk:=@Ty.size_pos
structure Mp where
 b:Nat->Nat
 nb:Nat
 r:Nat->Option Nat
 v:Nat->Nat
 q:Nat->List (List AV)
 rw:List bZ
def mp0:Mp:=⟨λ _=>0,0,λ _=>U,λ _=>0,λ _=>[],[]⟩
def lvl:AV->Nat
 |.v _=>2
 |.sl _ _ n=>n
 |_=>0
def hZ(r:ac Nat)(v:Nat)(τ:Ty)(l:aa (Val τ))(y:AV):Prop:=match r with
 |Z r=>y=.rs r 0 (J l) v Y
 |U=>dlist τ y=Z l/\2<=lvl y
def G5(y:AV):Prop:=y=.v (.slice U 0 0)\/(∃k a n,y=.sl k a n)\/∃r lo n b f,y=.rs r lo n b f
def qou{τ:Ty}{y:AV}{l:aa (Val τ)}(h:dlist τ y=Z l):G5 y:=by
 unfold dlist fK at h;split at h
 .exact .inl rfl
 .exact .inr (.inl ⟨_,_,_,rfl⟩)
 .cases h
def hZ.ish{r:ac Nat}{v:Nat}{τ:Ty}{l:aa (Val τ)}{y:AV}(h:hZ r v τ l y):G5 y:=by
 cases r with
 |some r=>exact .inr (.inr ⟨_,_,_,_,_,h⟩)
 |none=>exact qou h.1
def yb(m:Mp)(id a:Nat)(y:AV):Prop:=
 ∃R,m.rw[id]?=Z R/\a<=R.ver/\G5 y/\(R.ver=a->hZ (m.r id) (m.v id) R.τ R.l y)
mutual
def OK(m:Mp):TV->AV->Prop
 |.i k n,y=>y=.v (.int k n)
 |.b x,y=>y=.v (.bool x)
 |.s x,y=>y=.v (.string ⟨x.toArray⟩)
 |.c v,y=>ci v=O/\y=.v v
 |.nil,y=>y=.v (.slice U 0 0)
 |.sl τ l g,y=>dlist τ y=Z l/\g<=lvl y
 |.row id a,y=>yb m id a y
 |.ptr b o,y=>b<m.nb/\y=.ptr (m.b b) o
 |.pti b i,y=>b<m.nb/\0<=i/\y=.ptr (m.b b) i.toNat
 |.rpt id a d i cs o,y=>∃R,m.rw[id]?=Z R/\a<=R.ver/\d<=R.sv/\((∃r j h,y=.rpt r j o h)\/∃ds,y=.ept ds o)/\(R.ver=a->(∃r j,m.r id=Z r/\y=.rpt r j o (m.v id)/\i=((j:Nat):Int)/\j<J R.l/\(R.sv=d->∃ds,(m.q id)[j]?=Z ds/\OKL m cs ds))\/(m.r id=U/\0<J R.l/\(R.sv=d->∃ds,y=.ept ds o/\OKL m cs ds)))
 |.ept cs o,y=>∃ds,y=.ept ds o/\OKL m cs ds
 |.fn f cs,y=>∃ds,y=.fn f ds/\OKL m cs ds
 |.agg cs,y=>∃ds,y=.agg ds/\OKL m cs ds
 |.tup cs,y=>∃ds,y=.tup ds/\OKL m cs ds
 |.dead,_=>True
 |.mp b,y=>b<m.nb/\y=.mp (m.b b)
 |.mc e τ l,y=>dMc e τ (bt e) (bt τ) y=Z l
def OKL(m:Mp):aa TV->aa AV->Prop
 |[],ys=>ys=[]
 |x::xs,ys=>∃y r,ys=y::r/\OK m x y/\OKL m xs r
end
structure MLe (m m':Mp):Prop where
 nb:m.nb<=m'.nb
 b:∀i,i<m.nb->m'.b i=m.b i
 row:∀id R,m.rw[id]?=Z R->∃R',m'.rw[id]?=Z R'/\R.ver<=R'.ver/\R.sv<=R'.sv/\(R'.ver=R.ver->R'.l.length=R.l.length/\m'.r id=m.r id/\m'.v id=m.v id/\R'.τ=R.τ/\(R'.sv=R.sv->m'.q id=m.q id)/\(m.r id=U->∀y,dlist R.τ y=Z R.l->dlist R'.τ y=Z R'.l))
def MLe.refl(m:Mp):MLe m m:=⟨au _,λ _ _=>rfl,λ _ R h=>⟨R,h,au _,au _,λ _=>⟨rfl,rfl,rfl,rfl,λ _=>rfl,λ _ _ h=>h⟩⟩⟩
def MLe.trans{a b c:Mp}(h:MLe a b)(g:MLe b c):MLe a c where
 nb:=bT h.nb g.nb
 b:=λ i f=>(g.b i (dq f h.nb)).trans (h.b i f)
 row:=λ id R l=>by
  let⟨d,p,o,n,m⟩:=h.row id R l;let⟨R2,t,s,r,q⟩:=g.row id d p;refine⟨R2,t,bT o s,bT n r,λ I=>?_⟩;have e1:d.ver=R.ver:=by omega
  have u:R2.ver=d.ver:=by omega
  let⟨G,j,F,E,D,C⟩:=m e1;let⟨B,A,z,x,w,v⟩:=q u;exact⟨B.trans G,A.trans j,z.trans F,x.trans E,λ H=>(w (by omega)).trans (D (by omega)),λ e y k=>v (j.trans e) y (C e y k)⟩
def yb.mono{m m':Mp}(g:MLe m m'){id f:Nat}{y:AV}(h:yb m id f y):yb m' id f y:=by
 let⟨R,n,j,i,e⟩:=h;let⟨R',q,p,_,o⟩:=g.row id R n;refine⟨R',q,bT j p,i,λ s=>?_⟩;have e1:R'.ver=R.ver:=by omega
 let⟨a,b,c,d,_,k⟩:=o e1;have e:=e (by omega);rw[b,c];revert e k;cases m.r id with
 |some r=>
   intro _ e;show y=.rs r 0 (J R'.l) (m.v id) Y;rw[a];exact e
 |none=>intro k e;exact⟨k rfl y e.1,e.2⟩
mutual
theorem OK.mono{m m':Mp}(e:MLe m m'):∀{x:TV}{y:AV},OK m x y->OK m' x y
 |.i ..,y,h|.b ..,y,h|.s ..,y,h|.c ..,y,h|.nil,y,h|.sl ..,y,h=>h
 |.row ..,y,h=>yb.mono e h
 |.ptr b o,y,h=>⟨dq h.1 e.nb,by rw[e.b _ h.1];exact h.2⟩
 |.pti b i,y,h=>⟨dq h.1 e.nb,h.2.1,by rw[e.b _ h.1];exact h.2.2⟩
 |.rpt id w H _ cs o,y,h=>by
   let⟨R,k,g,u,D,C⟩:=h;let⟨R',G,F,v,E⟩:=e.row id R k;refine⟨R',G,bT g F,bT u v,D,λ I=>?_⟩;have e1:R'.ver=R.ver:=by omega
   let⟨a,b,c,_,d,_⟩:=E e1;obtain⟨r,j,t,z,A,q,p⟩|⟨t,q,p⟩:=C (by omega)
   .refine .inl ⟨r,j,b.trans t,by rw[c];exact z,A,by rw[a];exact q,λ B=>?_⟩;let⟨ds,n,l⟩:=p (by omega);exact⟨ds,by rw[d (by omega)];exact n,OKL.mono e l⟩
   .refine .inr ⟨b.trans t,by rw[a];exact q,λ B=>?_⟩;let⟨ds,n,l⟩:=p (by omega);exact⟨ds,n,OKL.mono e l⟩
 |.ept cs o,y,⟨ds,k,g⟩|.fn f cs,y,⟨ds,k,g⟩|.agg cs,y,⟨ds,k,g⟩|.tup cs,y,⟨ds,k,g⟩=>⟨ds,k,OKL.mono e g⟩
 |.dead,y,h=>trivial
 |.mp b,y,h=>⟨dq h.1 e.nb,by rw[e.b _ h.1];exact h.2⟩
 |.mc ..,y,h=>h
theorem OKL.mono{m m':Mp}(a:MLe m m'):∀{xs:aa TV}{ys:aa AV},OKL m xs ys->OKL m' xs ys
 |[],ys,h=>h
 |x::xs,ys,⟨y,r,d,c,b⟩=>⟨y,r,d,OK.mono a c,OKL.mono a b⟩
end
def qsz{m:Mp}{R:bZ}{id a o:Nat}{i:Int}{cs:aa TV}{y:AV}(h:(∃r j,m.r id=Z r/\y=.rpt r j o (m.v id)/\i=((j:Nat):Int)/\j<J R.l/\(R.sv=a->∃ds,(m.q id)[j]?=Z ds/\OKL m cs ds))\/(m.r id=U/\0<J R.l/\(R.sv=a->∃ds,y=.ept ds o/\OKL m cs ds)))(b:R.sv=a):
  (∃r j ds,m.r id=Z r/\y=.rpt r j o (m.v id)/\i=((j:Nat):Int)/\j<J R.l/\(m.q id)[j]?=Z ds/\OKL m cs ds)\/∃ds,m.r id=U/\y=.ept ds o/\0<J R.l/\OKL m cs ds:=by
 grind
def OKL.nil(m:Mp):OKL m [] []:=rfl
def OKL.cons{m:Mp}{x:TV}{y:AV}{xs:aa TV}{ys:aa AV}(h:OK m x y)(g:OKL m xs ys):OKL m (x::xs) (y::ys):=⟨y,ys,rfl,h,g⟩
def OKL.len{m:Mp}:∀{xs:aa TV}{ys:aa AV},OKL m xs ys->J ys=J xs
 |[],_,h=>by cases h;rfl
 |_::_,_,⟨_,_,rfl,_,h⟩=>by simp[h.len]
theorem OKL.get{m:Mp}:∀{xs:aa TV}{ys:aa AV},OKL m xs ys->∀{i:Nat}{x:TV},xs[i]?=Z x->∃y,ys[i]?=Z y/\OK m x y
 |[],_,_,i,x,a=>by simp at a
 |_::_,_,⟨y,r,rfl,c,b⟩,0,x,a=>by simp at a;subst a;exact⟨y,rfl,c⟩
 |_::_,_,⟨y,r,rfl,c,b⟩,i+1,x,a=>by simpa using b.get (by simpa using a)
def OKL.append{m:Mp}:∀{xs:aa TV}{ys:aa AV}{b:aa TV}{a:aa AV},OKL m xs ys->OKL m b a->OKL m (xs++b) (ys++a)
 |[],_,_,_,h,g=>by cases h;exact g
 |_::_,_,_,_,⟨y,r,rfl,d,c⟩,g=>⟨y,_,rfl,d,c.append g⟩
def OKL.take{m:Mp}(n:Nat):∀{xs:aa TV}{ys:aa AV},OKL m xs ys->OKL m (xs.take n) (ys.take n):=by
 induction n with
 |zero=>intro xs ys _;simp;exact rfl
 |succ n a=>
   intro xs ys h;cases xs with
   |nil=>cases h;exact rfl
   |cons x xs=>obtain⟨y,r,rfl,c,b⟩:=h;exact⟨y,_,rfl,c,a b⟩
def OKL.drop{m:Mp}(n:Nat):∀{xs:aa TV}{ys:aa AV},OKL m xs ys->OKL m (xs.drop n) (ys.drop n):=by
 induction n with
 |zero=>intro xs ys h;simpa using h
 |succ n a=>
   intro xs ys h;cases xs with
   |nil=>cases h;exact rfl
   |cons x xs=>obtain⟨y,r,rfl,c,b⟩:=h;simpa using a b
def OKL.split{m:Mp}:∀{xs c:aa TV}{ys:aa AV},OKL m (xs++c) ys->∃a b,ys=a++b/\OKL m xs a/\OKL m c b
 |[],_,ys,h=>⟨[],ys,rfl,rfl,h⟩
 |_::_,_,_,⟨y,r,rfl,g,f⟩=>by
   obtain⟨a,b,rfl,e,d⟩:=f.split;exact⟨y::a,b,rfl,⟨y,a,rfl,g,e⟩,d⟩
def We{m:Mp}{v:aj}(h:ci v=O):OK m (lY v) (.v v):=by
 unfold lY;split
 .exact rfl
 .exact rfl
 .next s=>show AV.v (.string s)=.v (.string ⟨s.data.toList.toArray⟩);cases s;simp
 .exact rfl
 .rw[h];exact⟨h,rfl⟩
def xc{m:Mp}:∀{l:aa aj},l.all ci=O->OKL m (l.map lY) (l.map .v)
 |[],_=>rfl
 |x::l,h=>by
   rw[dt,aJ]at h;exact⟨_,_,rfl,We h.1,xc h.2⟩
def lR{m:Mp}(v:aj):OK m (lY v) (ofC v):=by
 unfold ofC;cases h:ci v with
 |true=>exact We h
 |false=>
   have:lY v=.dead:=by
    unfold lY;grind [ci]
   rw[this];trivial
def qnc{m:Mp}(v:aj):OK m (XJ v) (HP v):=by
 cases v with
 |agg cs=>
   show OK m (match cs.toList.all ci with|true=>TV.agg (cs.toList.map lY)|false=>.dead) (match cs.toList.all ci with|true=>.agg (cs.toList.map .v)|false=>.dead);cases h:cs.toList.all ci with
   |true=>exact⟨_,rfl,xc h⟩
   |false=>trivial
 |tuple vs=>
   show OK m (match V vs with|[]=>TV.tup []|_=>.dead) (match V vs with|[]=>.tup []|_=>.dead);cases V vs with
   |nil=>exact⟨_,rfl,rfl⟩
   |cons a l=>trivial
 |bool b=>exact lR (.bool b)
 |int k n=>exact lR (.int k n)
 |float k n=>exact lR (.float k n)
 |complex k a b=>exact lR (.complex k a b)
 |string s=>exact lR (.string s)
 |pointer a=>exact lR (.pointer a)
 |slice a n c=>exact lR (.slice a n c)
 |map r=>exact lR (.map r)
 |chan r=>exact lR (.chan r)
 |func f a b=>exact lR (.func f a b)
 |nilFunc=>exact lR (.nilFunc)
 |iface t v=>exact lR (.iface t v)
 |nilIface=>exact lR (.nilIface)
def kq(I:St)(R:bZ)(b:ac Nat)(a:Nat)(d:aa (aa AV)):Prop:=match b with
 |Z r=>∃Q,I.rw[r]?=Z Q/\Q.c=d/\Q.ver=a/\Q.k=R.τ.size/\bV (bt R.τ) Q.c=Z R.l/\Q.fz<=J Q.c/\(R.sh=Y->Q.fz=0/\Q.off=Y)
 |U=>R.sh=Y->R.l=[]
def eB(m:Mp)(I:St):Prop:=∀id R,m.rw[id]?=Z R->kq I R (m.r id) (m.v id) (m.q id)
structure Rel (N:Nat×Nat) (m:Mp) (E:Env) (τ:TS) (tm:List AV) (I:St):Prop where
 len:tm.length=N.1
 env:∀t,OK m (get E t) (tm.getD t .dead)
 rw:m.rw=τ.rw
 nb:m.nb=τ.bx.length
 box:∀b cs,τ.bx[b]?=Z cs->∃ds,I.bx[m.b b]?=Z ds/\OKL m cs ds
 inj:∀b b',b<m.nb->b'<m.nb->m.b b=m.b b'->b=b'
 rows:eB m I
 rinj:∀id id' r,id<m.rw.length->id'<m.rw.length->m.r id=Z r->m.r id'=Z r->id=id'
 pin:∀i,i<N.2->i<m.nb/\m.b i=i
def MN{m m':Mp}{n:Nat}(c:MLe m m')(h:∀i,i<n->i<m.nb/\m.b i=i):∀i,i<n->i<m'.nb/\m'.b i=i:=λ i a=>
 ⟨dq (h i a).1 c.nb,(c.b i (h i a).1).trans (h i a).2⟩
def Rel.ev{N:Nat×Nat}{m:Mp}{E:Env}{τ:TS}{tm:aa AV}{I:St}(h:Rel N m E τ tm I)(x:bv):OK m (evT E x) (aev tm x):=by
 cases x with
 |tmp t=>exact h.env t
 |const v=>exact qnc v
 |func f=>exact⟨_,rfl,rfl⟩
 |global g=>trivial
def Rel.evs{N:Nat×Nat}{m:Mp}{E:Env}{τ:TS}{tm:aa AV}{I:St}(h:Rel N m E τ tm I):∀l:aa bv,OKL m (l.map (evT E)) (l.map (aev tm))
 |[]=>rfl
 |x::l=>⟨_,_,rfl,h.ev x,h.evs l⟩
theorem fJ{τ:Ty}{y:AV}{l:aa (Val τ)}(h:dlist τ y=Z l):y=.v (.slice U 0 0)/\l=[]\/∃a n,y=.sl τ.size a (n+1)/\bV (bt τ) a=Z l:=by
 unfold dlist fK at h;split at h
 .grind
 .rename_i k a n;split at h
  .next b=>have:=bI b;simp_all
  .cases h
 .cases h
def OK.one{m:Mp}{x:TV}{y:AV}(h:OK m x y)(d:mG x=O):isC y=O/\fj x=[x]/\cellsOf y=[y]:=by
 cases x with
 |i|b|s=>cases h;exact⟨rfl,rfl,rfl⟩
 |c=>obtain⟨_,rfl⟩:=h;exact⟨rfl,rfl,rfl⟩
 |nil=>cases h;exact⟨rfl,rfl,rfl⟩
 |sl τ l q=>
   let⟨h,_⟩:=h;obtain⟨rfl,_⟩|⟨e,n,rfl,_⟩:=fJ h<;>exact⟨rfl,rfl,rfl⟩
 |row id a=>
   let⟨R,_,_,h,_⟩:=h;obtain rfl|⟨k,e,j,rfl⟩|⟨r,lo,n,g,f,rfl⟩:=h<;>exact⟨rfl,rfl,rfl⟩
 |ptr b o=>obtain⟨_,rfl⟩:=h;exact⟨rfl,rfl,rfl⟩
 |pti b i=>obtain⟨_,_,rfl⟩:=h;exact⟨rfl,rfl,rfl⟩
 |rpt id a p i cs o=>let⟨R,_,_,_,h,_⟩:=h;obtain⟨r,i,g,rfl⟩|⟨ds,rfl⟩:=h<;>exact⟨rfl,rfl,rfl⟩
 |ept cs o|fn f cs=>obtain⟨ds,rfl,_⟩:=h;exact⟨rfl,rfl,rfl⟩
 |agg cs|tup cs|dead=>simp[mG]at d
 |mp b=>obtain⟨_,rfl⟩:=h;exact⟨rfl,rfl,rfl⟩
 |mc=>obtain⟨t,vs,rfl,_⟩:=oa h;exact⟨rfl,rfl,rfl⟩
def OKL.allC{m:Mp}:∀{xs:aa TV}{ys:aa AV},OKL m xs ys->xs.all mG=O->ys.all isC=O
 |[],_,h,_=>by cases h;rfl
 |x::xs,_,⟨y,r,rfl,b,a⟩,h=>by
   rw[dt,aJ]at h;rw[dt,(b.one h.1).1,a.allC h.2];rfl
def OK.cells{m:Mp}{x:TV}{y:AV}(h:OK m x y)(e:(fj x).all mG=O):OKL m (fj x) (cellsOf y)/\(cellsOf y).all isC=O:=by
 have d:mG x=O->OKL m (fj x) (cellsOf y)/\(cellsOf y).all isC=O:=by
  intro g;let⟨a,b,c⟩:=h.one g;rw[b,c];exact⟨⟨y,[],rfl,h,rfl⟩,by simp[a]⟩
 cases x with
 |agg cs=>
   obtain⟨ds,rfl,f⟩:=h;exact⟨f,f.allC e⟩
 |tup cs|dead=>simp[fj,mG]at e
 |_=>exact d rfl
def qoQ{x:AV}{l:aa T}(h:qk x=Z l):1<=lvl x:=by
 unfold qk at h;split at h
 .exact eG _
 .exact wk (aG _)
 .cases h
def GB{τ:Ty}{y:AV}{l:aa (Val τ)}(h:dlist τ y=Z l):1<=lvl y:=by
 obtain⟨rfl,_⟩|⟨a,n,rfl,_⟩:=fJ h
 .exact eG _
 .exact wk (aG _)
def GY{m:Mp}:∀(τ:Ty) {cs:aa AV}{v:Val τ}{r:aa AV},eR τ cs=Z (v,r)->∃pre,cs=pre++r/\OKL m (jp τ v) pre
 |.int k,cs,v,r,h=>by
   change fx k cs=_ at h;unfold fx at h;split at h<;>try cases h
   split at h<;>cases h;next o=>have e:=bI o;subst e;exact⟨[_],rfl,⟨_,_,rfl,rfl,rfl⟩⟩
 |.bool,cs,v,r,h=>by
   change mu cs=_ at h;unfold mu at h;split at h<;>cases h;exact⟨[_],rfl,⟨_,_,rfl,rfl,rfl⟩⟩
 |.str,cs,v,r,h=>by
   change js cs=_ at h;unfold js at h;split at h<;>cases h;next s=>exact⟨[_],rfl,⟨_,_,rfl,by show AV.v (.string s)=.v (.string ⟨s.data.toList.toArray⟩);cases s;simp,rfl⟩⟩
 |.term,cs,v,r,h=>by
   change gP cs=_ at h;unfold gP at h;split at h<;>try cases h
   split at h<;>cases h;rename_i c;obtain⟨k,n,s,x,l,j,d,rfl⟩:=zZ c;cases j;refine⟨_,rfl,⟨_,_,rfl,rfl,_,_,rfl,?_,_,_,rfl,rfl,_,_,rfl,⟨?_,qoQ d⟩,rfl⟩⟩
   .show AV.v (.string n)=.v (.string ⟨n.data.toList.toArray⟩);cases n;simp
   .rw[Ge];exact d
 |.list a,cs,v,r,h=>by
   change cw _ cs=_ at h;unfold cw at h;split at h<;>try cases h
   split at h<;>cases h;next c=>have c:dlist a _=Z v:=c;exact⟨[_],rfl,⟨_,_,rfl,⟨c,GB c⟩,rfl⟩⟩
 |.pair a b,cs,v,r,h=>by
   let⟨u,d,q⟩:=mO.1 h;let⟨p,e1,i⟩:=GY (m:=m) a d;let⟨f,t,g⟩:=GY (m:=m) b q;exact⟨p++f,by rw[e1,t,bC],i.append g⟩
 |.one a,cs,v,r,h=>GY (m:=m) a h
 |.map a b,cs,v,r,h=>by
   change cw _ cs=_ at h;unfold cw at h;split at h<;>try cases h
   split at h<;>cases h;next c=>exact⟨[_],rfl,⟨_,_,rfl,c,rfl⟩⟩
def lQ{m:Mp}{τ:Ty}{e:aa AV}{v:Val τ}(h:bt τ e=Z v):OKL m (jp τ v) e:=by
 let⟨pre,b,a⟩:=GY (m:=m) τ (dP.1 h);grind
theorem jE(τ:Ty)(v:Val τ):bt τ (aH τ v)=Z v:=dP.2 (uL τ v)
def H6{m:Mp}:∀(τ:Ty) (v:Val τ),OK m (oA τ v) (cy τ v)
 |.int k,v|.bool,v|.str,v=>rfl
 |.list a,v=>by
   have h:OKL m (jp (.list a) v) (aH (.list a) v):=lQ (jE (.list a) v);let⟨y,r,d,c,_⟩:=h;cases d;exact c
 |.term,v=>⟨_,rfl,lQ (jE .term v)⟩
 |.pair a b,v=>⟨_,rfl,lQ (jE (.pair a b) v)⟩
 |.one a,v=>⟨_,rfl,lQ (jE (.one a) v)⟩
 |.map a b,v=>by
   have h:OKL m (jp (.map a b) v) (aH (.map a b) v):=lQ (jE (.map a b) v);let⟨y,r,d,c,_⟩:=h;cases d;exact c
end
section
open RowKit
def qs9(τ:TS):ac TS->TS
 |U=>τ
 |Z a=>a
def Sim{α:Type}(N:Nat×Nat)(m:Mp)(E:Env)(τ:TS)(tm:aa AV)(I:St)(K:KT α)(r:α)(p:ac (AV×ac St)):Prop:=
 ∃x a y σ' m',K x a=Z r/\p=Z (y,σ')/\MLe m m'/\Rel N m' E (qs9 τ a) tm (turn I σ')/\OK m' x y/\(a=U->σ'=U)
section
variable {α:Type}{N:Nat×Nat}{m:Mp}{E:Env}{τ:TS}{tm:aa AV}{I:St}{K:KT α}{r:α}{p:ac (AV×ac St)}
theorem Sim.same{x:TV}{y:AV}(a:Rel N m E τ tm I)(h:K x U=Z r)(b:p=Z (y,U))(c:OK m x y):Sim N m E τ tm I K r p:=
 ⟨x,U,y,U,m,h,b,.refl m,a,c,λ _=>rfl⟩
theorem Sim.to{x:TV}{y:AV}{a:TS}{σ':St}{m':Mp}(h:K x (Z a)=Z r)(b:p=Z (y,Z σ'))(e:MLe m m')(d:Rel N m' E a tm σ')(c:OK m' x y):Sim N m E τ tm I K r p:=
 ⟨x,Z a,y,Z σ',m',h,b,e,d,c,λ h=>by cases h⟩
theorem Rel.box_lt(a:Rel N m E τ tm I){b:Nat}(h:b<m.nb):m.b b<J I.bx:=by
 rw[a.nb]at h;let⟨ds,c,_⟩:=a.box b _ (aU h);exact getElem?_lt c
theorem Rel.alloc(a:Rel N m E τ tm I){cs:aa TV}{ds:aa AV}(q:OKL m cs ds):
  ∃m',MLe m m'/\Rel N m' E {τ with bx:=τ.bx++[cs]} tm {I with bx:=I.bx++[ds]}/\OK m' (.ptr (J τ.bx) 0) (.ptr (J I.bx) 0):=by
 have c:MLe m {m with b:=λ i=>if i=m.nb then J I.bx else m.b i,nb:=m.nb+1}:=
  ⟨eG _,λ i p=>ae (BG p),λ id R h=>⟨R,h,au _,au _,λ _=>⟨rfl,rfl,rfl,rfl,λ _=>rfl,λ _ _ h=>h⟩⟩⟩
 refine⟨_,c,?_,?_⟩
 .refine⟨a.len,λ t=>(a.env t).mono c,a.rw,by show m.nb+1=_;rw[a.nb];simp,?_,?_,a.rows,a.rinj,MN c a.pin⟩
  .intro b cs' d;show ∃e,(I.bx++[ds])[if b=m.nb then J I.bx else m.b b]?=Z e/\_;by_cases j:b<J τ.bx
   .rw[dy j]at d;let⟨e,o,r⟩:=a.box b cs' d;rw[ae (by rw[a.nb];omega),dy (getElem?_lt o)];exact⟨e,o,r.mono c⟩
   .have k:b<J (τ.bx++[cs]):=getElem?_lt d;simp at k;have l:b=J τ.bx:=by omega
    subst l;simp at d;subst d;rw[af a.nb.symm];exact⟨ds,by simp,q.mono c⟩
  .intro b f d n g;change b<m.nb+1 at d;change f<m.nb+1 at n;change (if b=m.nb then J I.bx else m.b b)=(if f=m.nb then J I.bx else m.b f)at g;split at g<;>split at g
   .omega
   .have:=a.box_lt (b:=f) (by omega);omega
   .have:=a.box_lt (b:=b) (by omega);omega
   .exact a.inj b f (by omega) (by omega) g
 .refine⟨?_,?_⟩
  .show (J τ.bx)<m.nb+1;rw[a.nb];exact wj _
  .show AV.ptr (J I.bx) 0=.ptr (if J τ.bx=m.nb then J I.bx else m.b (J τ.bx)) 0;rw[af a.nb.symm]
theorem Rel.setBox(a:Rel N m E τ tm I){b:Nat}{cs:aa TV}{ds:aa AV}(g:b<m.nb)(k:OKL m cs ds)(w:aa Nat):Rel N m E {τ with bx:=τ.bx.set b cs} tm {I with bx:=I.bx.set (m.b b) ds,wr:=w}:=by
 refine⟨a.len,a.env,a.rw,by rw[a.nb];simp,?_,a.inj,a.rows,a.rinj,a.pin⟩;intro i cs' d;have c:i<m.nb:=by rw[a.nb];have:=getElem?_lt d;simpa using this
 by_cases f:i=b
 .subst f;have e:i<J τ.bx:=by rw[<-a.nb];exact c
  simp only[gD e,dV]at d;subst d;exact⟨ds,by simp only[gD (a.box_lt g)],k⟩
 .simp only[kQ (mH f)]at d;let⟨l,p,o⟩:=a.box i cs' d;have j:m.b b≠m.b i:=λ h=>f (a.inj _ _ c g h.symm);grind
theorem Rel.rowsTo(a:Rel N m E τ tm I){σ':St}(c:σ'.bx=I.bx)(b:eB m σ'):Rel N m E τ tm σ':=
 ⟨a.len,a.env,a.rw,a.nb,by rw[c];exact a.box,a.inj,b,a.rinj,a.pin⟩
theorem qpZ{r:Nat}{Q:Row}(f:Q.fz<=J Q.c):∀(e:aa Nat) {rw:aa Row},rw[r]?=Z Q->∃d,(frz rw e)[r]?=Z d/\d.c=Q.c/\d.k=Q.k/\d.ver=Q.ver/\d.fz<=J d.c:=by
 intro e
 induction e generalizing Q with
 |nil=>intro rw h;exact⟨Q,h,rfl,rfl,rfl,f⟩
 |cons a e n=>
   intro rw h
   have:∃b,(rw.modify a qv)[r]?=Z b/\b.c=Q.c/\b.k=Q.k/\b.ver=Q.ver/\b.fz<=J b.c:=by
    rw[qcS,h];by_cases o:a=r
    .exact⟨qv Q,by simp[o],rfl,rfl,rfl,Nat.max_le.2 ⟨f,au _⟩⟩
    .grind
   let⟨b,u,t,s,q,p⟩:=this;let⟨v,m,l,j,i,g⟩:=n (Q:=b) p u;exact⟨v,m,l.trans t,j.trans s,i.trans q,g⟩
def shM(m:Mp):Mp:={m with rw:=m.rw.map λ R=>⟨R.τ,R.l,R.ver,R.sv,O⟩}
theorem Zg{id:Nat}{R:bZ}(h:(shM m).rw[id]?=Z R):∃a,m.rw[id]?=Z a/\R=⟨a.τ,a.l,a.ver,a.sv,O⟩:=by
 change (m.rw.map _)[id]?=Z R at h;grind
theorem oV(m:Mp):MLe m (shM m):=by
 refine⟨au _,λ _ _=>rfl,λ id R h=>⟨⟨R.τ,R.l,R.ver,R.sv,O⟩,?_,au _,au _,λ _=>⟨rfl,rfl,rfl,rfl,λ _=>rfl,λ _ _ h=>h⟩⟩⟩;show(m.rw.map _)[id]?=_;rw[di,h];rfl
theorem eB.frz(h:eB m I)(b w:aa Nat):eB (shM m) {I with rw:=frz I.rw b,wrr:=w}:=by
 intro id R e;obtain⟨a,i,rfl⟩:=Zg e;have:=h id a i;show match m.r id with|some r=>∃Q,(Go.AmZ.frz I.rw b)[r]?=Z Q/\Q.c=m.q id/\Q.ver=m.v id/\Q.k=a.τ.size/\bV (bt a.τ) Q.c=Z a.l/\Q.fz<=J Q.c/\(O=Y->Q.fz=0/\Q.off=Y)|none=>O=Y->a.l=[]
 cases d:m.r id with
 |some r=>
   rw[d]at this;let⟨Q,g,p,o,n,j,f,_⟩:=this;let⟨z,y,x,u,t,s⟩:=qpZ f (rw:=I.rw) b g;grind
 |none=>intro h;cases h
theorem eB.sh(h:eB m I):eB (shM m) I:=by
 intro id R d;obtain⟨a,e,rfl⟩:=Zg d;have:=h id a e;show match m.r id with|some r=>∃Q,I.rw[r]?=Z Q/\Q.c=m.q id/\Q.ver=m.v id/\Q.k=a.τ.size/\bV (bt a.τ) Q.c=Z a.l/\Q.fz<=J Q.c/\(O=Y->Q.fz=0/\Q.off=Y)|none=>O=Y->a.l=[]
 cases b:m.r id with
 |some r=>
   rw[b]at this;let⟨Q,o,n,j,i,g,f,_⟩:=this;grind
 |none=>intro h;cases h
theorem Rel.share(a:Rel N m E τ tm I){σ':St}(f:σ'.bx=I.bx)(e:eB (shM m) σ'):Rel N (shM m) E (shA τ) tm σ':=by
 refine⟨a.len,λ t=>(a.env t).mono (oV m),by show m.rw.map _=τ.rw.map _;rw[a.rw],a.nb,?_,a.inj,e,?_,a.pin⟩
 .intro b cs d;let⟨ds,h,g⟩:=a.box b cs d;exact⟨ds,by rw[f];exact h,g.mono (oV m)⟩
 .intro id c r e1 k j i;have l:(shM m).rw.length=J m.rw:=cj ..;exact a.rinj id c r (l▸e1) (l▸k) j i
theorem qso{op:mM}{k:IntKind}{a b:Int}{d:TV->ac α}{r:α}(h:Pf op k a b d=Z r):∃x z,d x=Z r/\Bq op k a b=Z z/\OK m x (.v z):=by
 cases op<;>simp only[Pf]at h<;>first
  |(cases h;done)
  |exact⟨_,_,h,rfl,rfl⟩
  |skip
 all_goals (
  cases c:ieq b 0 with
  |true=>rw[c]at h;cases h
  |false=>rw[c]at h;exact⟨_,_,h,by simp only[Bq,c],rfl⟩)
theorem qpD{a b:aa aN}(h:ln a b=O):I0 ⟨a.toArray⟩ ⟨b.toArray⟩=Z ⟨(a++b).toArray⟩:=by
 have h:=bI h;unfold I0;have e1:(⟨a.toArray⟩:iy).size=J a:=by simp[ByteArray.size]
 have c:(⟨b.toArray⟩:iy).size=J b:=by simp[ByteArray.size]
 rw[ae (by rw[e1,c];omega)];congr 1
theorem ZF(a b:aa aN):xeq ⟨a.toArray⟩ ⟨b.toArray⟩=bc a b:=by
 simp[xeq,bc]
theorem qre(a b:aa aN):xlt ⟨a.toArray⟩ ⟨b.toArray⟩=slt a b:=by
 simp[xlt,slt]
theorem qr1{op:mM}{a b:aa aN}{d:TV->ac α}{r:α}(h:Qm op a b d=Z r):∃x z,d x=Z r/\Bp op ⟨a.toArray⟩ ⟨b.toArray⟩=Z z/\OK m x (.v z):=by
 cases op<;>simp only[Qm]at h<;>first
  |(cases h;done)
  |(refine⟨_,_,h,rfl,?_⟩;simp only[ZF,qre];exact rfl)
  |skip
 cases c:ln a b with
 |false=>rw[c]at h;cases h
 |true=>rw[c]at h;exact⟨_,_,h,by simp only[Bp,qpD c],rfl⟩
theorem Xx{place:Nat->ac (Nat×Nat)}:∀{l:aa (Nat×TV)}{l':aa (Nat×AV)}{cells:aa TV}{cells':aa AV}{cs:aa TV},
  (l.map (·.1)=l'.map (·.1)/\OKL m (l.map (·.2)) (l'.map (·.2)))->OKL m cells cells'->IH place cells l=Z cs->∃ds,rX place cells' l'=Z ds/\OKL m cs ds
 |[],l',cells,cells',cs,c,d,h=>by
   have:l'=[]:=by cases l' with|nil=>rfl|cons a b=>simp at c
   subst this;cases h;exact⟨cells',rfl,d⟩
 |(i,x)::l,l',cells,cells',cs,c,d,h=>by
   cases l' with
   |nil=>simp at c
   |cons q l'=>
     let⟨j,y⟩:=q;simp only[bh,List.cons.injEq]at c;obtain⟨⟨rfl,f⟩,w,z,p,n,e⟩:=c;cases p;simp only[IH]at h;simp only[rX];split at h<;>try cases h
     rename_i off size o;split at h<;>try cases h
     rename_i g;simp only[aJ,cR]at g;let⟨⟨t,s⟩,r⟩:=g;let⟨k,u⟩:=n.cells r;rw[o];have e1:J (cellsOf y)=size:=by rw[k.len];exact t
     have v:off+size<=J cells':=by rw[d.len];exact s
     simp only[e1,v,u,iu,lF];exact Xx ⟨f,e⟩ ((d.take off).append (k.append (d.drop (off+size)))) h
theorem uU{a:Bool}{size o:Nat}{cs:aa TV}{ds:aa AV}{x:TV}(b:OKL m cs ds)(h:rY a size cs o=Z x):∃y,mh a size ds o=Z y/\OK m x y:=by
 unfold rY at h;unfold mh;cases a with
 |true=>
   simp only at h |-
   split at h<;>cases h;next c=>rw[<-b.len]at c;rw[c];exact⟨_,rfl,_,rfl,(b.drop o).take size⟩
 |false=>exact b.get h
theorem rx(e:Rel N m E τ tm I){y:Nat}{d:Nat}{a:ac bv}{n:Int}(h:oU d E a=Z n)(f:d<=y)(b:inb n y=O):iO d y (a.map (aev tm))=Z n.toNat:=by
 have b:=bI b;cases a with
 |none=>
   grind [oU,iO]
 |some x=>
   simp only[oU]at h;split at h<;>cases h;next k c=>have:=e.ev x;rw[c]at this;show IA y (aev tm x)=_;rw[this];show bnd y n=_;unfold bnd;rw[af b]
theorem Aa{a:Type}{l:aa a}{j:Int}{v:a}(h:ap l j=Z v):0<=j/\l[j.toNat]?=Z v:=by
 grind [ap]
theorem oM{b a:Type}{x:ac b}{k:b->ac a}{r:a}(h:ab x k=Z r):∃v,x=Z v/\k v=Z r:=by
 unfold ab at h;grind
theorem kn{b:Bool}{x:ac α}{r:α}(h:cond b x U=Z r):b=O/\x=Z r:=by
 grind
theorem Va{b:Bool}{x:ac α}{r:α}(h:cond b U x=Z r):b=Y/\x=Z r:=by
 grind
end
end
section
open RowKit
def gi(τ:Ty)(y:AV):ac (Val τ):=match cQ τ.agg (hU y)with
 |O=>bt τ (cellsOf y)
 |Y=>U
section
variable {α:Type}{N:Nat×Nat}{m:Mp}{E:Env}{τ:TS}{tm:aa AV}{I:St}{K:KT α}{r:α}{p:ac (AV×ac St)}
theorem kh{a b l l'}(h:mn l b=Z l'):∃e:a=b,e▸l=l':=by
 grind [mn]
theorem qoZ(Q):vy Q Q.k 0 (J Q.c) Q.ver=Z Q.c:=by
 grind [vy]
theorem rI(a:eB m I){id R y}(f:m.rw[id]?=Z R)(h:hZ (m.r id) (m.v id) R.τ R.l y):
  (∃r Q,m.r id=Z r/\y=.rs r 0 (J Q.c) Q.ver Y/\I.rw[r]?=Z Q/\Q.c=m.q id/\Q.ver=m.v id/\Q.k=R.τ.size/\bV (bt R.τ) Q.c=Z R.l/\Q.fz<=J Q.c/\(R.sh=Y->Q.fz=0/\Q.off=Y))\/
  (m.r id=U/\(R.sh=Y->R.l=[])/\dlist R.τ y=Z R.l/\2<=lvl y):=by
 have a:=a id R f;cases b:m.r id with
 |some r=>
   rw[b]at a h;let⟨Q,n,j,e,i,d,g⟩:=a;refine .inl ⟨r,Q,rfl,?_,n,j,e,i,d,g⟩;rw[dX d,e];exact h
 |none=>
   rw[b]at a h;exact .inr ⟨rfl,a,h.1,h.2⟩
theorem VL{a y l}(rw')(h:dlist a y=Z l):∃b,elems rw' a.size y=Z b/\bV (bt a) b=Z l/\dlist a (bA rw' y)=Z l:=by
 obtain⟨rfl,c⟩|⟨b,n,rfl,c⟩:=fJ h
 .rw[c];exact⟨[],rfl,rfl,rfl⟩
 .refine⟨b,by simp[elems,bG,iu],c,?_⟩;show dlist _ (.sl _ b 1)=_;grind [dlist,fK,bG]
theorem AO(j:eB m I){a x y l}(h:sk m.rw a x=Z l)(c:OK m x y):
  ∃g,elems I.rw a.size y=Z g/\bV (bt a) g=Z l/\dlist a (bA I.rw y)=Z l:=by
 unfold sk at h;split at h
 .cases h;cases c;exact⟨[],rfl,rfl,rfl⟩
 .obtain⟨e,rfl⟩:=kh h;subst e;exact VL _ c.1
 .rename_i id i;split at h<;>try cases h
  rename_i R d;split at h<;>try cases h
  rename_i b;have b:=cn b;obtain⟨e,rfl⟩:=kh h;subst e;let⟨R',f,_,_,k⟩:=c;rw[d]at f;cases f;obtain⟨r,Q,_,rfl,q,_,_,p,o,_⟩|⟨_,_,n,_⟩:=rI j d (k b)
  .grind [elems,bA,dlist,fK,bG,qoZ,decide_true]
  .exact VL _ n
 .cases h
theorem pU(j:eB m I):∀a {cs v r ds},pb m.rw a cs=Z (v,r)->OKL m cs ds->∃d,eR a (ds.map (bA I.rw))=Z (v,d.map (bA I.rw))/\OKL m r d
 |.int k,cs,v,r,ds,h,c=>by
   change PN k cs=_ at h;unfold PN at h;split at h<;>try cases h
   split at h<;>cases h;next A=>obtain⟨y,d,rfl,f,g⟩:=c;cases f;exact⟨d,by show fx _ _=_;simp only[bh,bA,fx,A],g⟩
 |.bool,cs,v,r,ds,h,c=>by
   change OP cs=_ at h;unfold OP at h;split at h<;>cases h;obtain⟨y,d,rfl,f,g⟩:=c;cases f;exact⟨d,rfl,g⟩
 |.str,cs,v,r,ds,h,c=>by
   change PZ cs=_ at h;unfold PZ at h;split at h<;>cases h;obtain⟨y,d,rfl,f,g⟩:=c;cases f;exact⟨d,by show js _=_;simp only[bh,bA,js],g⟩
 |.term,cs,v,r,ds,h,c=>by
   change OD _ cs=_ at h;unfold OD at h;split at h<;>try cases h
   split at h<;>cases h;next i=>obtain⟨y1,w,rfl,s,y2,H,rfl,q,y3,G,rfl,p,y4,t,rfl,o,g⟩:=c;cases s;cases q;cases p;let⟨F,_,_,l⟩:=AO j i o;rw[Ge]at l;refine⟨t,?_,g⟩;show gP (.v (.int .i64 _)::.v (.string ⟨_⟩)::.v (.int .i64 _)::bA I.rw y4::t.map (bA I.rw))=_;grind [gP,fT]
 |.list a,cs,v,r,ds,h,c=>by
   change OW _ cs=_ at h;unfold OW at h;split at h<;>try cases h
   split at h<;>cases h;next i=>obtain⟨y,d,rfl,f,g⟩:=c;let⟨F,_,_,l⟩:=AO j i f;have l:fK a.size (λ e=>full (eR a e)) (bA I.rw y)=Z v:=l;exact⟨d,by show cw _ _=_;simp only[bh,cw,l],g⟩
 |.pair a b,cs,v,r,ds,h,c=>by
   let⟨w,C,B⟩:=mO.1 h;let⟨u,E,D⟩:=pU j a C c;let⟨n,z,x⟩:=pU j b B D;exact⟨n,mO.2 ⟨_,E,z⟩,x⟩
 |.one a,cs,v,r,ds,h,c=>pU j a h c
 |.map a b,cs,v,r,ds,h,c=>by
   change Pk a b cs=_ at h;unfold Pk at h;split at h<;>try cases h
   split at h<;>cases h;next i=>obtain⟨y,d,rfl,f,g⟩:=c;unfold IN at i;split at i<;>cases i;next e=>obtain⟨rfl,rfl⟩:=e;have f:dMc _ _ _ _ y=Z _:=f;obtain⟨K,vs,rfl,_⟩:=oa f;exact⟨d,by show cw (dMc _ _ (bt _) (bt _)) _=_;simp only[bh,bA,cw,f],g⟩
theorem xe{β x}{v:β}(h:se x=Z v):x=Z (v,[]):=by
 unfold se at h;grind
theorem LU(rw){y}(h:hU y=Y):hU (cH rw y)=Y/\cellsOf (cH rw y)=[bA rw y]/\cellsOf y=[y]:=by
 cases y with
 |agg cs=>cases h
 |rs r lo n a f=>
   grind [cH,bA,hU,cellsOf]
 |_=>exact⟨rfl,rfl,rfl⟩
theorem rF(B:eB m I){a:Ty}{x:TV}{y:AV}{v:Val a}(h:jH m.rw a x=Z v)(d:OK m x y):
  gi a (cH I.rw y)=Z v/\bt a ((cellsOf y).map (bA I.rw))=Z v:=by
 unfold jH at h;split at h
 case h_2=>cases h
 rename_i t;have t:a.agg=Iw x:=by simpa[cQ]using t
 have h:=xe h
 have g:OKL m (fj x) (cellsOf y)->bt a ((cellsOf y).map (bA I.rw))=Z v:=by
  intro z;let⟨K,D,C⟩:=pU B a h z;cases C;exact dP.2 D
 by_cases p:Iw x=O
 .cases x with
  |agg cs=>
    obtain⟨ds,rfl,w⟩:=d;refine⟨?_,g w⟩;unfold gi;rw[t];exact g w
  |_=>cases p
 .have p:Iw x=Y:=by simpa using p
  have q:fj x=[x]:=by cases x<;>first|rfl|(cases p)
  have A:hU y=Y:=by
   cases x with
   |agg cs=>cases p
   |i|b|s=>cases d;rfl
   |c=>obtain⟨_,rfl⟩:=d;rfl
   |nil=>cases d;rfl
   |sl τ l L=>
     let⟨d,_⟩:=d;obtain⟨rfl,_⟩|⟨E,n,rfl,_⟩:=fJ d<;>rfl
   |row id u=>
     let⟨R,_,_,d,_⟩:=d;obtain rfl|⟨k,E,j,rfl⟩|⟨r,lo,n,F,f,rfl⟩:=d<;>rfl
   |ptr b o=>obtain⟨_,rfl⟩:=d;rfl
   |pti b i=>obtain⟨_,_,rfl⟩:=d;rfl
   |rpt id u H i cs o=>let⟨R,_,_,_,d,_⟩:=d;obtain⟨r,i,F,rfl⟩|⟨ds,rfl⟩:=d<;>rfl
   |ept cs o|fn f cs|tup cs=>obtain⟨ds,rfl,_⟩:=d;rfl
   |mp b=>obtain⟨_,rfl⟩:=d;rfl
   |mc=>obtain⟨M,vs,rfl,_⟩:=oa d;rfl
   |dead=>
     exfalso;rw[q]at h;have e:a.agg=Y:=by rw[t];rfl
     cases a with
     |int k|bool|str|list a|map a b=>cases h
     |term|pair a b|one a=>cases e
  let⟨e1,N,G⟩:=LU I.rw A;have z:OKL m (fj x) (cellsOf y):=by rw[q,G];exact⟨y,[],rfl,d,rfl⟩
  grind [gi]
theorem Nc{x y}(a:OK m x y)(h:rZ x=O):rsC y=[]/\hU y=Y:=by
 cases x with
 |i|b|s=>cases a;exact⟨rfl,rfl⟩
 |c=>obtain⟨_,rfl⟩:=a;exact⟨rfl,rfl⟩
 |nil=>cases a;exact⟨rfl,rfl⟩
 |sl τ l d=>
   let⟨a,_⟩:=a;obtain⟨rfl,_⟩|⟨g,n,rfl,_⟩:=fJ a<;>exact⟨rfl,rfl⟩
 |fn f cs=>obtain⟨ds,rfl,_⟩:=a;exact⟨rfl,rfl⟩
 |mc=>obtain⟨e,vs,rfl,_⟩:=oa a;exact⟨rfl,rfl⟩
 |_=>cases h
theorem Ag: ∀{xs ys},OKL m xs ys->xs.all rZ=O->ys.flatMap rsC=[]
 |[],_,h,_=>by cases h;rfl
 |x::xs,_,⟨y,r,rfl,b,a⟩,h=>by
   rw[dt,aJ]at h;rw[sW,(Nc b h.1).1,Ag a h.2];rfl
theorem qrh{y}(b:rsC y=[])(a:hU y=Y):rsA y=[]:=by
 cases y<;>first|(cases a;done)|exact b
theorem Ii{x y}(h:pw x=O)(c:OK m x y):rsA y=[]:=by
 cases x with
 |agg cs=>
   obtain⟨ds,rfl,d⟩:=c;exact Ag d h
 |_=>let⟨a,b⟩:=Nc c h;exact qrh a b
theorem M7: ∀{xs ys},xs.all pw=O->OKL m xs ys->ys.flatMap rsA=[]
 |[],_,_,h=>by cases h;rfl
 |x::xs,_,h,⟨y,r,rfl,b,a⟩=>by
   rw[dt,aJ]at h;rw[sW,Ii h.1 b,M7 h.2 a];rfl
theorem Yd(c:eB m I){a:Ty}:∀{xs ys vs},yd m.rw a xs=Z vs->OKL m xs ys->
  bV (bt a) (ys.map λ y=>(cellsOf y).map (bA I.rw))=Z vs
 |[],ys,vs,h,e=>by cases e;cases h;rfl
 |x::xs,ys,vs,h,⟨y,r,f,i,g⟩=>by
   subst f;simp only[yd]at h;split at h<;>try cases h
   next v d=>split at h<;>cases h;next vs b=>exact jC.2 ⟨v,vs,(rF c d i).2,Yd c b g,rfl⟩
end
end
section
open RowKit
def Mp.add(m:Mp)(R:bZ)(ro:ac Nat)(vo:Nat)(qo:aa (aa AV)):Mp:=
 ⟨m.b,m.nb,λ i=>if i=J m.rw then ro else m.r i,λ i=>if i=J m.rw then vo else m.v i,λ i=>if i=J m.rw then qo else m.q i,m.rw++[R]⟩
def Mp.upd(m:Mp)(id:Nat)(R:bZ)(ro:ac Nat)(vo:Nat)(qo:aa (aa AV)):Mp:=
 ⟨m.b,m.nb,λ i=>if i=id then ro else m.r i,λ i=>if i=id then vo else m.v i,λ i=>if i=id then qo else m.q i,m.rw.set id R⟩
section
variable {α:Type}{N:Nat×Nat}{m:Mp}{E:Env}{τ:TS}{tm:aa AV}{I:St}{K:KT α}{r:α}{p:ac (AV×ac St)}{c:TC}{C:Cfg}{R R2:bZ}{ro:ac Nat}{vo:Nat}{qo:aa (aa AV)}{id:Nat}
theorem AY(m R ro vo qo):MLe m (m.add R ro vo qo):=by
 refine⟨au _,λ i _=>rfl,λ id R' h=>?_⟩;have b:=getElem?_lt h;have a:=BG b;exact⟨R',by show(m.rw++_)[id]?=_;rw[dy b];exact h,au _,au _,λ _=>⟨rfl,ae a,ae a,rfl,λ _=>ae a,λ _ _ h=>h⟩⟩
theorem kq.later{σ'}(h:kq I R ro vo qo)(a:∀r Q,ro=Z r->I.rw[r]?=Z Q->σ'.rw[r]?=Z Q):kq σ' R ro vo qo:=by
 cases ro with
 |none=>exact h
 |some r=>
   let⟨Q,c,b⟩:=h;exact⟨Q,a r Q rfl c,b⟩
theorem G9{σ'}(d:eB m I)(f:kq σ' R ro vo qo)(e:∀(r:Nat) (Q:Row),I.rw[r]?=Z Q->σ'.rw[r]?=Z Q):eB (m.add R ro vo qo) σ':=by
 intro id R' c;change (m.rw++[R])[id]?=Z R' at c;show kq σ' R' (if id=J m.rw then ro else m.r id) (if id=J m.rw then vo else m.v id) (if id=J m.rw then qo else m.q id);by_cases b:id=J m.rw
 .grind
 .rw[ae b,ae b,ae b];have a:id<J m.rw:=by grind
  rw[dy a]at c;exact(d id R' c).later λ r Q _ h=>e r Q h
theorem qar(k:m.rw[id]?=Z R)(n:R.ver<=R2.ver)(o:R.sv<=R2.sv)(p:R2.ver=R.ver->J R2.l=J R.l/\ro=m.r id/\vo=m.v id/\R2.τ=R.τ/\(R2.sv=R.sv->qo=m.q id)/\(m.r id=U->∀y,dlist R.τ y=Z R.l->dlist R2.τ y=Z R2.l)):MLe m (m.upd id R2 ro vo qo):=by
 have j:=getElem?_lt k;refine⟨au _,λ i _=>rfl,λ i R' h=>?_⟩;by_cases g:i=id
 .subst g;rw[k]at h;cases h;refine⟨R2,by show(m.rw.set i R2)[i]?=_;rw[gD j],n,o,λ h=>?_⟩;let⟨a,b,c,d,e,f⟩:=p h;exact⟨a,(af rfl).trans b,(af rfl).trans c,d,λ h=>(af rfl).trans (e h),f⟩
 .exact⟨R',by show(m.rw.set id R2)[i]?=_;rw[kQ (mH g)];exact h,au _,au _,λ _=>⟨rfl,ae g,ae g,rfl,λ _=>ae g,λ _ _ h=>h⟩⟩
theorem XS{σ'}(j:m.rw[id]?=Z R)(d:eB m I)(h:kq σ' R2 ro vo qo)(e:∀a r Q,a≠id->a<J m.rw->m.r a=Z r->I.rw[r]?=Z Q->σ'.rw[r]?=Z Q):eB (m.upd id R2 ro vo qo) σ':=by
 intro i R' c;change (m.rw.set id R2)[i]?=Z R' at c;show kq σ' R' (if i=id then ro else m.r i) (if i=id then vo else m.v i) (if i=id then qo else m.q i);by_cases b:i=id
 .grind
 .rw[ae b,ae b,ae b];rw[kQ (mH b)]at c;exact(d i R' c).later λ r Q g f=>e i r Q b (getElem?_lt c) g f
theorem Rel.to{m' rw' σ'}(c:Rel N m E τ tm I)(a:MLe m m')(l:m'.rw=rw')(g:m'.nb=m.nb)(f:m'.b=m.b)(k:σ'.bx=I.bx)(h:eB m' σ')
  (j:∀i d r,i<J m'.rw->d<J m'.rw->m'.r i=Z r->m'.r d=Z r->i=d):Rel N m' E {τ with rw:=rw'} tm σ':=by
 refine⟨c.len,λ t=>(c.env t).mono a,l,by rw[g];exact c.nb,?_,by rw[g,f];exact c.inj,h,j,MN a c.pin⟩;intro b cs e;let⟨ds,o,n⟩:=c.box b cs e;exact⟨ds,by rw[k,f];exact o,n.mono a⟩
theorem Rel.row_lt(a:Rel N m E τ tm I){id r}(h:id<J m.rw)(b:m.r id=Z r):r<J I.rw:=by
 have:=a.rows id _ (aU h);rw[b]at this;let⟨Q,c,_⟩:=this;exact getElem?_lt c
theorem Rel.rowAdd{σ'}(b:Rel N m E τ tm I)(R ro vo qo)(j:σ'.bx=I.bx)(h:kq σ' R ro vo qo)(i:∀(r:Nat) (Q:Row),I.rw[r]?=Z Q->σ'.rw[r]?=Z Q)(e:∀r,ro=Z r->J I.rw<=r){y}(d:hZ ro vo R.τ R.l y)(k:R.ver=0):
  ∃m',MLe m m'/\Rel N m' E {τ with rw:=τ.rw++[R]} tm σ'/\OK m' (.row (J τ.rw) 0) y:=by
 refine⟨m.add R ro vo qo,AY _ _ _ _ _,b.to (AY _ _ _ _ _) (by show m.rw++_=_;rw[b.rw]) rfl rfl j (G9 b.rows h i) ?_,?_⟩
 .intro id a r g f e1 c;change id<J (m.rw++[_]) at g;change a<J (m.rw++[_]) at f;change (if id=J m.rw then ro else m.r id)=Z r at e1;change (if a=J m.rw then ro else m.r a)=Z r at c;simp at g f;split at e1<;>split at c
  .omega
  .have:=b.row_lt (by omega) c;have:=e r e1;omega
  .have:=b.row_lt (by omega) e1;have:=e r c;omega
  .exact b.rinj id a r (by omega) (by omega) e1 c
 .refine⟨R,?_,aG _,d.ish,λ _=>?_⟩
  .show(m.rw++_)[J τ.rw]?=_;rw[b.rw];simp
  .show hZ (if J τ.rw=J m.rw then ro else m.r (J τ.rw)) (if J τ.rw=J m.rw then vo else m.v (J τ.rw)) _ _ y;rw[af (by rw[b.rw]),af (by rw[b.rw])];exact d
theorem Rel.rowNew(b:Rel N m E τ tm I){a es l}(c:bV (bt a) es=Z l):
  ∃m',MLe m m'/\Rel N m' E {τ with rw:=τ.rw++[⟨a,l,0,0,Y⟩]} tm {I with rw:=I.rw++[⟨a.size,es,0,0,Y⟩]}/\OK m' (.row (J τ.rw) 0) (.rs (J I.rw) 0 (J l) 0 Y):=
 b.rowAdd (σ':={I with rw:=I.rw++[⟨a.size,es,0,0,Y⟩]}) ⟨a,l,0,0,Y⟩ (Z (J I.rw)) 0 es rfl ⟨⟨a.size,es,0,0,Y⟩,by show(I.rw++[_])[J I.rw]?=_;simp,rfl,rfl,rfl,c,aG _,λ _=>⟨rfl,rfl⟩⟩
  (λ r Q h=>by show(I.rw++_)[r]?=_;rw[dy (getElem?_lt h)];exact h) (λ r h=>by cases h;exact au _) rfl rfl
theorem Rel.rowUpd(c:Rel N m E τ tm I)(B:τ.rw[id]?=Z R)(ro:ac Nat)(vo:Nat)(qo:aa (aa AV))(n:R.ver<=R2.ver)(o:R.sv<=R2.sv)(t:R2.ver=R.ver->J R2.l=J R.l/\ro=m.r id/\vo=m.v id/\R2.τ=R.τ/\(R2.sv=R.sv->qo=m.q id)/\(m.r id=U->∀y,dlist R.τ y=Z R.l->dlist R2.τ y=Z R2.l)){σ'}(u:σ'.bx=I.bx)(p:kq σ' R2 ro vo qo)
  (s:∀a r,a≠id->a<J m.rw->m.r a=Z r->ro≠Z r/\∀Q,I.rw[r]?=Z Q->σ'.rw[r]?=Z Q):
  ∃m',MLe m m'/\Rel N m' E {τ with rw:=τ.rw.set id R2} tm σ'/\(∀y,hZ ro vo R2.τ R2.l y->OK m' (.row id R2.ver) y):=by
 have b:m.rw[id]?=Z R:=by rw[c.rw];exact B
 have f:=getElem?_lt b;have d:=qar b n o t;refine⟨m.upd id R2 ro vo qo,d,c.to d (by show m.rw.set id R2=_;rw[c.rw]) rfl rfl u (XS b c.rows p λ a r Q A z x w=>(s a r A z x).2 Q w) ?_,λ y k=>?_⟩
 .intro i e r h g e1 j;change i<J (m.rw.set id R2) at h;change e<J (m.rw.set id R2) at g;change (if i=id then ro else m.r i)=Z r at e1;change (if e=id then ro else m.r e)=Z r at j;simp at h g;split at e1<;>split at j
  .omega
  .grind
  .grind
  .exact c.rinj i e r h g e1 j
 .refine⟨R2,?_,au _,k.ish,λ _=>?_⟩
  .show(m.rw.set id R2)[id]?=_;rw[gD f]
  .show hZ (if id=id then ro else m.r id) (if id=id then vo else m.v id) _ _ y;grind
theorem Rel.others(b:Rel N m E τ tm I)(g:τ.rw[id]?=Z R){rr}(a:m.r id=Z rr){id' r}(f:id'≠id)(e:id'<J m.rw)(d:m.r id'=Z r):r≠rr:=λ c=>
 f (b.rinj id' id rr e (by rw[b.rw];exact getElem?_lt g) (c▸d) a)
theorem Wh{β f}:∀{b} {l},bV f b=Z l->∀(j:Nat) {e:aa AV}{v:β},f e=Z v->bV f (b.set j e)=Z (l.set j v)
 |[],l,h,j,e,v,a=>by cases h;rfl
 |g::b,l,h,j,e,v,a=>by
   obtain⟨w,vs,d,c,rfl⟩:=jC.1 h;cases j with
   |zero=>exact jC.2 ⟨v,vs,a,c,rfl⟩
   |succ j=>exact jC.2 ⟨w,vs.set j v,d,Wh c j a,rfl⟩
theorem VW{β f e}{v:β}(h:f e=Z v):∀n,bV f (List.replicate n e)=Z (List.replicate n v)
 |0=>rfl
 |n+1=>jC.2 ⟨v,_,h,VW h n,rfl⟩
end
end
section
open RowKit
section
variable {α:Type}{N:Nat×Nat}{m:Mp}{E:Env}{τ:TS}{tm:aa AV}{I:St}{K:KT α}{r:α}{p:ac (AV×ac St)}{c:TC}{C:Cfg}
theorem qsr{d:ac TD}{op:mM}{x y:TV}{x' f:AV}{n:TV->ac α}(i:OK m x x')(g:OK m y f)(h:Qc d op x y n=Z r):
  ∃z v,n z=Z r/\OK m z (.v v)/\((∃a b,x'=.v (.bool a)/\f=.v (.bool b)/\ID d=O/\((op=.eql/\v=.bool (cQ a b))\/(op=.neq/\v=.bool (am (cQ a b)))))\/∃a b,x'=.v a/\f=.v b/\(∀p q,¬ (a=.bool p/\b=.bool q))/\sO op a b=Z v):=by
 unfold Qc at h;split at h
 .rename_i k a t b;cases i;cases g;split at h
  .let⟨e,c⟩:=Va h;exact⟨_,_,c,rfl,.inr ⟨_,_,rfl,rfl,by simp,by simp only[sO,e]⟩⟩
  .let⟨e,c⟩:=Va h;exact⟨_,_,c,rfl,.inr ⟨_,_,rfl,rfl,by simp,by simp only[sO,e]⟩⟩
  .rename_i s o;split at h<;>try cases h
   next u=>let⟨z,v,e,c,l⟩:=qso (m:=m) h;grind [sO]
 .cases i;cases g;let⟨z,v,e,c,l⟩:=qr1 (m:=m) h;exact⟨z,v,e,l,.inr ⟨_,_,rfl,rfl,by simp,c⟩⟩
 .cases i;cases g;split at h<;>try cases h
  .next j=>exact⟨_,_,h,rfl,.inl ⟨_,_,rfl,rfl,j,.inl ⟨rfl,rfl⟩⟩⟩
  .next j=>exact⟨_,_,h,rfl,.inl ⟨_,_,rfl,rfl,j,.inr ⟨rfl,rfl⟩⟩⟩
 .cases h
theorem Uu{d:ac TD}(h:Oq d=O):∃a b c z,d=Z ⟨a,b,c,z,.ptr⟩:=by
 unfold Oq at h;grind
theorem qom{x y:TV}{x' d:AV}(c:OK m x x')(a:OK m y d){b:Bool}(h:Oz x y=Z b):
  (b=O/\x'=.v (.pointer U)/\d=.v (.pointer U))\/(b=Y/\A1 x'=O/\d=.v (.pointer U)):=by
 unfold Oz at h;split at h<;>cases h
 .exact .inl ⟨rfl,c.2,a.2⟩
 .obtain⟨_,rfl⟩:=c;exact .inr ⟨rfl,rfl,a.2⟩
 .let⟨R,_,_,_,e,_⟩:=c;obtain⟨r,j,f,rfl⟩|⟨ds,rfl⟩:=e<;>exact .inr ⟨rfl,rfl,a.2⟩
 .obtain⟨ds,rfl,_⟩:=c;exact .inr ⟨rfl,rfl,a.2⟩
theorem WT:∀(a:aa (aa AV)) (l:aa Int),bV (bt (.int .u8)) a=Z l->yi a=Z (N7 l)
 |[],l,h=>by cases h;rfl
 |e::a,l,h=>by
   simp only[bV]at h;split at h<;>try cases h
   rename_i v c;split at h<;>cases h;rename_i vs b;have:=WT a vs b
   have d:e=[.v (.int .u8 v)]:=by
    have c:fx .u8 e=Z (v,[]):=dP.1 c;unfold fx at c;grind
   subst d;simp only[yi,OF,this];rfl
theorem qmw{d:ac TD}(h:ID d=O):∃a b c z,d=Z ⟨a,b,c,z,.bool⟩:=by
 unfold ID at h;grind
theorem XH(E:Env)(tm:aa AV)(a:Rel N m E τ tm I):∀l:aa (Nat×bv),(l.map λ p=>(p.1,evT E p.2)).map (·.1)=(l.map λ p=>(p.1,aev tm p.2)).map (·.1)/\OKL m ((l.map λ p=>(p.1,evT E p.2)).map (·.2)) ((l.map λ p=>(p.1,aev tm p.2)).map (·.2))
 |[]=>⟨rfl,rfl⟩
 |x::l=>⟨by simp,⟨_,_,rfl,a.ev x.2,(XH E tm a l).2⟩⟩
theorem Xt(d:Rel N m E τ tm I){id a e:Nat}{i:Int}{cs:aa TV}{o:Nat}{y:AV}{R:bZ}(s:OK m (.rpt id a e i cs o) y)(h:τ.rw[id]?=Z R)(u:R.ver=a)(t:R.sv=e):
  (∃r j ds Q,y=.rpt r j o Q.ver/\m.r id=Z r/\i=((j:Nat):Int)/\I.rw[r]?=Z Q/\Q.c[j]?=Z ds/\OKL m cs ds/\j<J R.l/\Q.ver=m.v id/\Q.k=R.τ.size/\bV (bt R.τ) Q.c=Z R.l/\Q.fz<=J Q.c/\(R.sh=Y->Q.fz=0/\Q.off=Y))\/
  ∃ds,y=.ept ds o/\OKL m cs ds/\R.sh=O:=by
 let⟨R',n,_,_,_,w⟩:=s;rw[d.rw,h]at n;cases n;have:=d.rows id R (by rw[d.rw];exact h);obtain⟨r,j,ds,b,g,H,p,f,G⟩|⟨ds,b,g,p,f⟩:=qsz (w u) t
 .rw[b]at this;let⟨Q,F,D,C,B,A,z,x⟩:=this;grind
 .rw[b]at this;refine .inr ⟨ds,g,f,?_⟩;cases q:R.sh with
  |true=>rfl
  |false=>
    have K:=this q;grind
theorem Zq{b:Type}(f:b->AV):∀(l:aa (Nat×b)) (n:Nat),((l.zipIdx n).all λ p=>X (p.1.1=p.2))=O->(∀q∈l,True)->∀P:AV->Bool,(∀q∈l,P (f q.2)=O)->
  (((l.map λ p=>(p.1,f p.2)).zipIdx n).all λ p=>X (p.1.1=p.2)&&P p.1.2)=O
 |[],n,_,_,P,_=>rfl
 |a::l,n,h,_,P,c=>by
   simp only[QR,dt,aJ,bh]at h |-
   exact⟨⟨h.1,c a (bj ..)⟩,Zq f l (n+1) h.2 (λ _ _=>trivial) P λ q d=>c q (bk _ d)⟩
theorem Ue(e:eB m I){a:Ty}{E:Env}{tm:aa AV}(d:Rel N m E τ tm I):∀{l:aa (Nat×bv)}{vs:aa (Val a)},yd m.rw a (l.map λ p=>evT E p.2)=Z vs->
  ∀p∈l,J (cellsOf (aev tm p.2))=a.size/\((cellsOf (aev tm p.2)).all λ x=>bq (bA I.rw x))=O
 |[],vs,h,p,b=>by cases b
 |q::l,vs,h,p,b=>by
   simp only[bh,yd]at h;split at h<;>try cases h
   rename_i v f;split at h<;>cases h;rename_i c;obtain rfl|b:=be.1 b
   .have:=(rF e f (d.ev p.2)).2;let⟨pre,j,i,g,_⟩:=iX a (dP.1 this);grind
   .exact Ue e d c p b
theorem qqP(y:aa aN)(l h:Int):(⟨(gA y l h).toArray⟩:iy)=Bw ⟨y.toArray⟩ l.toNat h.toNat:=by
 unfold gA Bw;rw[ByteArray.ext_iff];simp[ByteArray.data_extract,List.drop_take]
theorem qmQ{x:TV}{y:AV}(h:OK m x y)(b:(fj x).all rZ=O):OKL m (fj x) (cellsOf y)/\(cellsOf y).all isC=O/\∀z∈cellsOf y,rsC z=[]:=by
 have a:(fj x).all mG=O:=by
  rw[bB]at b |-
  intro z c;have:=b z c;cases z<;>first|rfl|(cases this)
 let⟨d,e⟩:=h.cells a;refine⟨d,e,λ z c=>?_⟩;have:=Ag d b;grind [List.flatMap_eq_nil_iff]
theorem GP{y:AV}(h:rsC y=[])(a:bq (bA I.rw y)=O):bq y=O:=by
 cases y<;>first|rfl|exact a|(simp[rsC]at h)
theorem qrJ{tm:aa AV}{a b:bv}(h:Qv a b=O):aev tm a=aev tm b:=by
 unfold Qv at h;grind [Nat.eq_of_beq_eq_true]
def LvE(x y:AV):Prop:=x=y\/∃k a n b,x=.sl k a (n+1)/\y=.sl k a (b+1)
inductive LvL:List AV->List AV->Prop
 |nil:LvL [] []
 |cons {x y:AV}{xs ys:List AV}:LvE x y->LvL xs ys->LvL (x::xs) (y::ys)
theorem LvE.v{x:aj}{y:AV}(h:LvE (.v x) y):y=.v x:=by
 obtain rfl|⟨_,_,_,_,h,_⟩:=h
 .rfl
 .cases h
theorem LvE.dlist{a:Ty}{x y:AV}(h:LvE x y){l:aa (Val a)}(b:dlist a x=Z l):dlist a y=Z l:=by
 obtain rfl|⟨_,_,_,_,rfl,rfl⟩:=h
 .exact b
 .exact b
theorem Gq:∀(a:Ty) {cs cs':aa AV}{v:Val a}{r:aa AV},LvL cs cs'->eR a cs=Z (v,r)->∃j,LvL r j/\eR a cs'=Z (v,j)
 |.int k,cs,cs',v,r,c,h=>by
   change fx k cs=_ at h;unfold fx at h;split at h<;>try cases h
   split at h<;>cases h;rename_i o;cases c with
   |cons d f=>
     have:=d.v;subst this;exact⟨_,f,by show fx _ _=_;simp only[fx,o]⟩
 |.bool,cs,cs',v,r,c,h=>by
   change mu cs=_ at h;unfold mu at h;split at h<;>cases h;cases c with
   |cons d f=>
     have:=d.v;subst this;exact⟨_,f,rfl⟩
 |.str,cs,cs',v,r,c,h=>by
   change js cs=_ at h;unfold js at h;split at h<;>cases h;cases c with
   |cons d f=>
     have:=d.v;subst this;exact⟨_,f,rfl⟩
 |.term,cs,cs',v,r,c,h=>by
   change gP cs=_ at h;unfold gP at h;split at h<;>try cases h
   split at h<;>cases h;rename_i g;obtain⟨k,n,s,x,l,p,d,rfl⟩:=zZ g;cases p;cases c with
   |cons B c=>cases c with
     |cons A c=>cases c with
       |cons z c=>cases c with
         |cons y c=>
           have:=B.v;subst this;have:=A.v;subst this;have:=z.v;subst this;rw[<-Ge]at d;have d:=y.dlist d;rw[Ge]at d;exact⟨_,c,by show gP _=_;simp only[gP,fT,d]⟩
 |.list a,cs,cs',v,r,c,h=>by
   change cw _ cs=_ at h;unfold cw at h;split at h<;>try cases h
   split at h<;>cases h;rename_i g;cases c with
   |cons d f=>
     have g:dlist a _=Z v:=g;have g:fK a.size (λ e=>full (eR a e)) _=Z v:=d.dlist g;exact⟨_,f,by show cw _ _=_;simp only[cw,g]⟩
 |.pair a b,cs,cs',v,r,c,h=>by
   let⟨C,d,f⟩:=mO.1 h;let⟨m,w,u⟩:=Gq a c d;let⟨i,t,q⟩:=Gq b w f;exact⟨i,t,mO.2 ⟨_,u,q⟩⟩
 |.one a,cs,cs',v,r,c,h=>Gq a c h
 |.map a b,cs,cs',v,r,c,h=>by
   change cw _ cs=_ at h;unfold cw at h;split at h<;>try cases h
   split at h<;>cases h;rename_i g;cases c with
   |cons d f=>
     have E:=d;obtain rfl|⟨k,F,n,D,rfl,rfl⟩:=d
     .exact⟨_,f,by show cw _ _=_;simp only[cw,g]⟩
     .grind [oa]
theorem ZW:∀{cs:aa AV},(∀y∈cs,bq y=O)->LvL (cs.map (bA I.rw)) cs
 |[],_=>.nil
 |y::cs,h=>by
   refine .cons ?_ (ZW λ z a=>h z (bk _ a));have:=h y (bj ..);cases y with
   |v x=>exact .inl rfl
   |sl k b f=>
     cases f with
     |zero=>exact .inl rfl
     |succ f=>exact .inr ⟨k,b,0,f,rfl,rfl⟩
   |mc=>exact .inl rfl
   |_=>cases this
theorem Hh{a:Ty}{cs:aa AV}{v:Val a}(b:∀y∈cs,bq y=O)(h:bt a (cs.map (bA I.rw))=Z v):bt a cs=Z v:=by
 let⟨e,d,c⟩:=Gq a (ZW b) (dP.1 h);cases d;exact dP.2 c
theorem ME{m:Mp}:∀{cs:aa TV}{l:aa Bool}{ds:aa AV},xS cs=Z l->OKL m cs ds->ds=l.map λ b=>AV.v (.bool b)
 |[],l,ds,h,c=>by cases h;cases c;rfl
 |x::cs,l,ds,h,⟨y,r,f,e,d⟩=>by
   subst f;cases x<;>simp only[xS]at h<;>try (cases h;done)
   next b=>split at h<;>cases h;next g a=>cases e;rw[ME a d];rfl
theorem VX{m:Mp}:∀(l:aa Bool),OKL m (l.map .b) (l.map λ b=>AV.v (.bool b))
 |[]=>rfl
 |b::l=>⟨_,_,rfl,rfl,VX l⟩
theorem Xh:∀(l:aa Bool) (i:Nat) (v:Bool) (j:Nat),qs l ((i+j:Nat):Int) v j=l.set i v
 |[],_,_,_=>rfl
 |e::l,0,v,j=>by
   have h:∀(l:aa Bool) (i j:Nat),i<j->qs l ((i:Nat):Int) v j=l:=by
    intro l
    induction l with
    |nil=>intro _ _ _;rfl
    |cons e l a=>
      intro i j b;rw[qs,a i (j+1) (by omega)];have:ieq ((i:Nat):Int) ((j:Nat):Int)=Y:=by unfold ieq;rw[gH];omega
      rw[this];rfl
   grind [qs,ieq]
 |e::l,i+1,v,j=>by
   rw[qs,show((i+1+j:Nat):Int)=((i+(j+1):Nat):Int) by omega,Xh l i v (j+1)];grind [ieq]
theorem qor(s:aa aN):bV (bt (.int .u8)) (oX ⟨s.toArray⟩)=Z (Iz s):=by
 have:oX ⟨s.toArray⟩=(Iz s).map (aH (.int .u8)):=by
  unfold oX Iz;rw[kN];rfl
 grind [pQ,jE]
theorem AM{m:Mp}{cs:aa TV}{ds:aa AV}(h:OKL m cs ds)(g:Ba cs=O):noMc ds=O:=by
 match cs,h with
 |[],h=>cases h;rfl
 |[x],⟨y,r,e,d,j⟩=>
   cases j;subst e;cases y with
   |mc z A t w vs=>
     exfalso;cases x with
     |i|b|s=>cases d
     |c=>cases d.2
     |nil=>cases d
     |sl a l v=>cases d.1
     |row=>obtain⟨R,_,_,e|⟨k,B,n,e⟩|⟨r,lo,n,o,f,e⟩,_⟩:=d<;>cases e
     |ptr=>cases d.2
     |pti=>cases d.2.2
     |rpt=>obtain⟨R,_,_,_,⟨r,i,o,e⟩|⟨ds,e⟩,_⟩:=d<;>cases e
     |ept|fn|agg|tup=>let⟨ds,e,_⟩:=d;cases e
     |dead=>cases g
     |mp=>cases d.2
     |mc=>cases g
   |_=>rfl
 |x::x'::xs,⟨y,r,e,_,⟨q,u,p,_,_⟩⟩=>subst e;subst p;cases y<;>rfl
theorem U5{cs:aa TV}{l:aa Bool}(h:xS cs=Z l):Ba cs=O:=by
 match cs with
 |[]=>rfl
 |[x]=>cases x<;>first|rfl|cases h
 |x::x'::xs=>cases x<;>rfl
theorem Yf:∀{a:Ty},a.agg=Y->a.size=1
 |.int _,_|.bool,_|.str,_|.list _,_|.map _ _,_=>rfl
 |.term,h|.pair _ _,h|.one _,h=>by cases h
theorem Gx{c:TC}{t:Nat}{d a:Ty}(h:xZ c t=Z (d,a)):∃s b g z e,c.ty t=Z ⟨s,b,g,z,.map (kcT d) d.agg a.agg a.size e⟩/\kw d=O:=by
 unfold xZ at h;split at h<;>try cases h
 next s b g z l m k j e f p o n=>split at h<;>cases h;next i=>simp only[aJ,cR]at i;grind [qb]
theorem qqY{c:TC}{t:Nat}{a:Ty}{z:Val a}{s b:Nat}{g:Bool}{l:aa aj}{p:aa KC}{q n:Bool}{k:Nat}{d:aa aj}(r:c.ty t=Z ⟨s,b,g,l,.map p q n k d⟩)(h:PV c t a=Z z):(d.all ci=O/\J d=k)/\bt a (d.map .v)=Z z:=by
 unfold PV at h;rw[r]at h;simp only at h;split at h<;>try cases h
 rename_i j;simp only[aJ,cR]at j;refine⟨j,?_⟩;have i:eB mp0 ⟨[],[],[],[]⟩:=λ id R h=>by cases h
 let⟨u,e,o⟩:=pU (m:=mp0) i a (xe h) (xc j.1);cases o;have f:(d.map AV.v).map (bA [])=d.map AV.v:=by rw[kN];exact sY λ _ _=>rfl
 have e:eR a ((d.map AV.v).map (bA []))=_:=e;rw[f]at e;exact dP.2 e
theorem L4(o:Rel N m E τ tm I){c a:Ty}{x:TV}{y:AV}(p:OK m x y){b:Nat}{l:aa (Val c×Val a)}(h:Bg τ c a x=Z (b,l)):b<m.nb/\∃d vs,vD I (kcT c) c.agg a.agg y=Z (m.b b,d,vs)/\gn (bt c) (bt a) d vs=Z l:=by
 unfold Bg at h;split at h<;>try cases h
 rename_i u;split at h<;>try cases h
 rename_i j v l' i;split at h<;>cases h;rename_i g;unfold IN at g;split at g<;>cases g;rename_i e;obtain⟨rfl,rfl⟩:=e;let⟨t,s⟩:=p;obtain⟨ds,q,y,r,rfl,n,f⟩:=o.box _ _ i;cases f;obtain⟨d,vs,rfl,k⟩:=oa n;have i:∀x,cQ x x=O:=λ x=>by cases x<;>rfl
 exact⟨t,d,vs,by rw[s];simp only[vD,q,iu,i,lF],k⟩
theorem ZJ{m:Mp}{a:Ty}{v:Val a}{ds:aa AV}(h:bt a ds=Z v):OK m (oA a v) (ft a.agg ds):=by
 have d:=lQ (m:=m) h
 have one:∀x,jp a v=[x]->∃y,ds=[y]/\OK m x y:=λ x f=>by
  rw[f]at d;let⟨y,r,e,i,g⟩:=d;cases g;exact⟨y,e,i⟩
 cases a with
 |term|pair a b|one a=>exact⟨ds,rfl,d⟩
 |int k|bool|str|list a|map a b=>obtain⟨y,rfl,c⟩:=one _ rfl;exact c
theorem F4:∀(d:Ty),kw d=O->∀(v:Val d) (c:aa KC) (r:aa AV),ch (kcT d++c) (aH d v++r)=ch c r
 |.int k,_,v,c,r=>by simp[kcT,aH,ch]
 |.bool,_,v,c,r|.str,_,v,c,r=>rfl
 |.pair a b,h,v,c,r=>by
   simp only[kw,aJ]at h;rw[kcT,aH,bC,bC,F4 a h.1,F4 b h.2]
 |.one a,h,v,c,r=>F4 a h v c r
 |.term,h,_,_,_|.list _,h,_,_,_|.map _ _,h,_,_,_=>by cases h
theorem Vs{a:Ty}(h:kw a=O)(v:Val a):ch (kcT a) (aH a v)=O:=by
 have:=F4 a h v [] []
 rwa [bJ,bJ]at this
theorem xH:∀(d:Ty),kw d=O->∀{cs:aa AV}{v:Val d}{r:aa AV},eR d cs=Z (v,r)->cs=aH d v++r
 |.int k,_,cs,v,r,h=>by
   change fx k cs=_ at h;unfold fx at h;split at h<;>try cases h
   split at h<;>cases h;next c=>rw[bI c];rfl
 |.bool,_,cs,v,r,h=>by
   change mu cs=_ at h;unfold mu at h;split at h<;>cases h;rfl
 |.str,_,cs,v,r,h=>by
   change js cs=_ at h;unfold js at h;split at h<;>cases h;simp_all [aH]
 |.pair a b,c,cs,v,r,h=>by
   simp only[kw,aJ]at c;let⟨g,f,e⟩:=mO.1 h;rw[xH a c.1 f,xH b c.2 e,aH,bC]
 |.one a,c,cs,v,r,h=>xH a c h
 |.term,h,_,_,_,_|.list _,h,_,_,_,_|.map _ _,h,_,_,_,_=>by cases h
theorem ZD{a:Ty}(d:kw a=O)(q:eB m I){x:TV}{y:AV}{v:Val a}(h:jH m.rw a x=Z v)(s:OK m x y):vB (kcT a) a.agg y=O/\cellsOf y=aH a v:=by
 let⟨j,A⟩:=rF q h s;have i:=xH a d (dP.1 A);rw[bJ]at i;have w:=Iv _ _ (Vs d v)
 have p:cellsOf y=aH a v:=by
  rw[<-i]
  have b:∀c∈cellsOf y,bA I.rw c=c:=λ c u=>by
   have t:bA I.rw c∈aH a v:=by rw[<-i];exact bE.2 ⟨c,u,rfl⟩
   have e:=w _ t;cases c with
   |sl k D f=>cases e
   |rs r lo n B f=>
     exfalso;simp only[bA]at e;cases o:I.rw[r]? with
     |none=>rw[o]at e;cases e
     |some R=>
       rw[o]at e;simp only at e;cases z:vy R R.k lo n B<;>rw[z]at e<;>cases e
   |_=>rfl
  exact((sY (g:=id) b).trans (List.map_id _)).symm
 refine⟨?_,p⟩;unfold vB;rw[p,Vs d v,oH];unfold gi at j;split at j
 .rename_i C
  have e:hU (cH I.rw y)=hU y:=by
   cases l:hU y with
   |false=>exact(LU I.rw l).1
   |true=>cases y<;>first|rfl|cases l
  grind [qb]
 .cases j
theorem Uh:∀(a b c d:aa AV),J a=J b->gh (a++c) (b++d)=(gh a b&&gh c d)
 |[],[],c,d,_=>rfl
 |x::a,y::b,c,d,h=>by
   show(og x y&&gh (a++c) (b++d))=(og x y&&gh a b&&gh c d);rw[Uh a b c d (by simpa using h),Bool.and_assoc]
 |[],_::_,_,_,h|_::_,[],_,_,h=>by cases h
theorem AC:∀(c:Ty),kw c=O->∀(a b:Val c),gh (aH c a) (aH c b)=veq c a b
 |.int k,_,a,b|.bool,_,a,b=>oH _
 |.str,_,a,b=>(oH _).trans (ZF a b)
 |.pair c τ,h,a,b=>by
   simp only[kw,aJ]at h;rw[aH,aH,Uh _ _ _ _ (by rw[gY,gY]),AC c h.1,AC τ h.2];rfl
 |.one c,h,a,b=>AC c h a b
 |.term,h,_,_|.list _,h,_,_|.map _ _,h,_,_=>by cases h
theorem Ai{c b:Type}{f:aa AV->ac c}{g:aa AV->ac b}{d vs:aa (aa AV)}{p:c×b}{l:aa (c×b)}:gn f g d vs=Z (p::l)↔∃k a v vs',d=k::a/\vs=v::vs'/\f k=Z p.1/\g v=Z p.2/\gn f g a vs'=Z l:=by
 constructor
 .intro h;cases d<;>cases vs<;>try (cases h;done)
  simp only[gn]at h;grind
 .rintro⟨k,a,v,vs',rfl,rfl,j,i,e⟩;simp only[gn,j,i,e]
theorem Xj{b a:Ty}(d:kw b=O):∀{l:aa (Val b×Val a)}{c vs:aa (aa AV)},gn (bt b) (bt a) c vs=Z l->∀(k:Val b) (i:Nat),
  (gT (aH b k) c i=U/\kH (veq b) l k=U)\/∃j v p,gT (aH b k) c i=Z (i+j)/\vs[j]?=Z v/\bt a v=Z p/\kH (veq b) l k=Z p
 |[],c,vs,h,k,i=>by
   let⟨f,_⟩:=Ap h;have:c=[]:=cT f;subst this;exact .inl ⟨rfl,rfl⟩
 |p::l,c,vs,h,k,i=>by
   obtain⟨u,n,v,vs',rfl,rfl,f,r,o⟩:=Ai.1 h;have e:=xH b d (dP.1 f);rw[bJ]at e;subst e;simp only[gT,AC b d,kH];cases x:veq b k p.1 with
   |true=>exact .inr ⟨0,v,p.2,rfl,rfl,r,rfl⟩
   |false=>
     obtain⟨m,g⟩|⟨j,w,q,m,g,t,s⟩:=Xj d o k (i+1)
     .exact .inl ⟨m,g⟩
     .exact .inr ⟨j+1,w,q,by show gT _ _ _=_;rw[m];congr 1;omega,g,t,s⟩
theorem Zz{b a:Ty}(s:kw b=O)(k:Val b){p:Val a}{n:aa AV}(d:bt a n=Z p):∀{l:aa (Val b×Val a)}{c vs:aa (aa AV)},gn (bt b) (bt a) c vs=Z l->∀(i:Nat),
  match gT (aH b k) c i with
  |none=>gn (bt b) (bt a) (c++[aH b k]) (vs++[n])=Z (mA (veq b) l k p)
  |some j=>∃q,j=i+q/\gn (bt b) (bt a) c (vs.set q n)=Z (mA (veq b) l k p)
 |[],c,vs,h,i=>by
   let⟨f,m⟩:=Ap h;have:c=[]:=cT f;subst this;have:vs=[]:=cT m;subst this;show gn _ _ [_] [_]=Z [(k,p)];simp only[gn,jE,d]
 |r::l,c,vs,h,i=>by
   obtain⟨y,o,v,vs',rfl,rfl,f,m,u⟩:=Ai.1 h;have e:=xH b s (dP.1 f);rw[bJ]at e;have g:=Zz s k d u (i+1);subst e;simp only[gT,AC b s,mA];cases z:veq b k r.1 with
   |true=>exact⟨0,rfl,Ai.2 ⟨_,_,_,_,rfl,rfl,f,d,u⟩⟩
   |false=>
     simp only;cases t:gT (aH b k) o (i+1)with
     |none=>
       rw[t]at g;exact Ai.2 ⟨_,_,_,_,rfl,rfl,f,m,g⟩
     |some j=>
       rw[t]at g;let⟨q,x,w⟩:=g;exact⟨q+1,by omega,Ai.2 ⟨_,_,_,_,rfl,rfl,f,m,w⟩⟩
theorem U8{t:Nat}{w k y:bv}(ad:C.ty=c.ty)(i:Rel N m E τ tm I)(h:yj c E τ t w k y K=some r):Sim N m E τ tm I K r (me C tm I t w k y):=by
 unfold yj at h;split at h<;>try cases h
 rename_i d a hm;split at h<;>try cases h
 rename_i b l H G;split at h<;>try cases h
 rename_i g v hk W;obtain⟨_,_,_,_,vz,hd,n⟩:=Gx hm;obtain⟨M,o,vs,an,L⟩:=L4 i (i.ev w) H;obtain⟨e1,e2⟩:=ZD n i.rows (by rw[i.rw];exact hk) (i.ev k);obtain⟨x,Q⟩:=rF i.rows (by rw[i.rw];exact W) (i.ev y);have B:=Ii G (i.ev y);have ar:∀z∈cellsOf (aev tm y),rsC z=[]:=LG B
 have D:∀z∈cellsOf (aev tm y),bq z=true:=λ z hz=>by
  obtain⟨pre,p,_,q3,_⟩:=iX a (dP.1 Q);grind [GP]
 have u:=Hh D Q
 have T:A5 a.agg a.size (aev tm y)=true:=by
  unfold A5;obtain⟨pre,p,P,_⟩:=iX a (dP.1 u);rw[bJ]at p
  have hg:hU (aev tm y)=a.agg:=by
   unfold gi at x;split at x
   .rename_i hg
    have e:hU (cH I.rw (aev tm y))=hU (aev tm y):=by
     cases A:hU (aev tm y)with
     |false=>exact(LU I.rw A).1
     |true=>cases S:aev tm y<;>rw[S]at A<;>first|rfl|cases A
    grind [qb]
   .cases x
  grind [cQ]
 have f:=Zz n g u L 0
 have s:gn (bt d) (bt a) (lz o vs (aH d g) (cellsOf (aev tm y))).1 (lz o vs (aH d g) (cellsOf (aev tm y))).2=some (mA (veq d) l g v):=by
  unfold lz;cases R:gT (aH d g) o 0 with
  |none=>rw[R]at f;exact f
  |some j=>
    rw[R]at f;obtain⟨q,p,P⟩:=f;rw[bS]at p;subst p;exact P
 have F:me C tm I t w k y=some (.tup [],some {I with bx:=I.bx.set (m.b b) [.mc (kcT d) d.agg a.agg (lz o vs (aH d g) (cellsOf (aev tm y))).1 (lz o vs (aH d g) (cellsOf (aev tm y))).2],wr:=m.b b::I.wr}):=by
  unfold me;grind
 exact .to h F (.refl m) (i.setBox M (cs:=[.mc d a (mA (veq d) l g v)]) (ds:=[.mc (kcT d) d.agg a.agg (lz o vs (aH d g) (cellsOf (aev tm y))).1 (lz o vs (aH d g) (cellsOf (aev tm y))).2]) ⟨_,_,rfl,N1.trans s,rfl⟩ _) ⟨_,rfl,rfl⟩
theorem qpy{op:Op}(D:C.ty=c.ty)(A:Rel N m E τ tm I)(h:eK c E τ op K=some r):Sim N m E τ tm I K r (aD C tm I op):=by
 cases op with
 |move x=>exact .same A h rfl (A.ev x)
 |assign x=>exact .same A h rfl (A.ev x)
 |pick x a b=>
   simp only[eK]at h;split at h<;>try cases h
   rename_i y H;have T:=A.ev x;rw[H]at T;cases y with
   |true=>exact .same A h (by simp only[aD,show aev tm x=_ from T]) (A.ev a)
   |false=>exact .same A h (by simp only[aD,show aev tm x=_ from T]) (A.ev b)
 |alloc e=>
   simp only[eK]at h;split at h<;>try cases h
   rename_i d F;split at h<;>try cases h
   rename_i hz;obtain⟨m',L,W,h3⟩:=A.alloc (xc (m:=m) hz);exact .to h (by simp only[aD,D,F,hz]) L W h3
 |box e x=>
   simp only[eK]at h;split at h<;>try cases h
   rename_i d F;split at h<;>try cases h
   rename_i hz;obtain⟨M,S⟩:=(A.ev x).cells hz;obtain⟨m',L,W,h3⟩:=A.alloc M;exact .to h (by simp only[aD,D,F,S]) L W h3
 |build t parts=>
   simp only[eK]at h;split at h<;>try cases h
   rename_i _ _ _ z fs F;split at h<;>try cases h
   rename_i hz;split at h<;>try cases h
   rename_i cs an;obtain⟨ds,L,W⟩:=Xx (XH E tm A parts.toList) (xc (m:=m) hz) an;exact .same A h (by simp only[aD,D,F,hz];erw [L]) ⟨ds,rfl,W⟩
 |buildSlice t n parts=>
   simp only[eK]at h;split at h<;>try cases h
   rename_i _ _ _ _ _ k _ _ a F G;split at h<;>try cases h
   rename_i hb;simp only[aJ,cR]at hb;obtain⟨⟨⟨⟨hk,hn⟩,ez⟩,e6⟩,hz⟩:=hb;split at h<;>try cases h
   rename_i vs b7;rw[<-A.rw]at b7;have hq:=A.rows;have b3:=Ue hq A b7;have a7:=Yd hq b7 (by have:=A.evs (parts.toList.map (·.2));simpa[kN,BH]using this)
   have et:vd k n I.rw (parts.toList.map λ p=>(p.1,aev tm p.2))=true:=by
    unfold vd;have L:(parts.toList.map λ p=>(p.1,aev tm p.2)).length=n:=by simpa using hn
    simp only[L,iu,ez,e6,bU,oH]
    have:=Zq (aev tm) parts.toList 0 hz (λ _ _=>trivial) (λ x=>decide ((cellsOf x).length=k)&&((cellsOf x).all λ y=>bq (bA I.rw y)))
     λ q eo=>by obtain⟨a1,a2⟩:=b3 q eo;rw[a1,a2,hk];simp
    rw[bB]at this |-
    intro p hp;have:=this p hp;simpa[Bool.and_assoc]using this
   have cf:∀m':Mp,OK m' (.sl a vs 2) (.sl k (parts.toList.map λ p=>(cellsOf (aev tm p.2)).map (bA I.rw)) 2):=by
    intro m';refine⟨?_,au _⟩;subst hk;show fK _ _ (.sl _ _ 2)=_;simp only[fK,bG,iu];simpa[kN,BH]using a7
   have bp:aD C tm I (.buildSlice t n parts)=match parts.toList.flatMap λ p=>rsA (aev tm p.2)with
     |[]=>some (.sl k (parts.toList.map λ p=>(cellsOf (aev tm p.2)).map (bA I.rw)) 2,none)
     |r::l=>some (.sl k (parts.toList.map λ p=>(cellsOf (aev tm p.2)).map (bA I.rw)) 2,some {I with rw:=frz I.rw (r::l),wrr:=(r::l)++I.wrr}):=by
    simp only[aD,D,F,et];rfl
   rw[bp];split at h
   .rename_i cl
    have d1:parts.toList.flatMap (λ p=>rsA (aev tm p.2))=[]:=by
     have:=M7 (xs:=parts.toList.map λ p=>evT E p.2) (ys:=parts.toList.map λ p=>aev tm p.2) (by rw[QY];exact cl) (by have:=A.evs (parts.toList.map (·.2));simpa[kN,BH]using this)
     rwa [Jt]at this
    rw[d1];exact .same A h rfl (cf m)
   .split
    .exact⟨_,some (shA τ),_,none,shM m,h,rfl,oV m,A.share rfl hq.sh,cf _,λ h=>by cases h⟩
    .exact .to h rfl (oV m) (A.share (σ':={I with rw:=frz I.rw _,wrr:=_}) rfl (hq.frz _ _)) (cf _)
 |load t a=>
   simp only[eK]at h;split at h<;>try cases h
   rename_i d F;have B:=A.ev a;split at h<;>try cases h
   .rename_i b o G;rw[G]at B;obtain⟨_,B⟩:=B;split at h<;>try cases h
    rename_i cs an;split at h<;>try cases h
    rename_i co;split at h<;>try cases h
    rename_i x T;obtain⟨ds,M,S⟩:=A.box b cs an;obtain⟨y,g3,g4⟩:=uU S T;exact .same A h (by simp only[aD,D,F,B,dF,M,AM S co,g3]) g4
   .rename_i cs o G;rw[G]at B;obtain⟨ds,B,S⟩:=B;split at h<;>try cases h
    rename_i x T;obtain⟨y,g3,g4⟩:=uU S T;exact .same A h (by simp only[aD,D,F,B,dF,g3]) g4
   .rename_i b i G;rw[G]at B;obtain⟨_,i0,B⟩:=B;split at h<;>try cases h
    rename_i cs an;split at h<;>try cases h
    rename_i l c7 hl;obtain⟨v,P,h⟩:=oM h;obtain⟨_,P⟩:=Aa P;obtain⟨ds,M,S⟩:=A.box b cs an;have g3:ds[i.toNat]?=some (.v (.bool v)):=by rw[ME hl S,di,P];rfl
    exact .same A h (y:=.v (.bool v)) (by simp only[aD,D,F,B,dF,M,AM S (U5 hl),c7,mh,g3]) rfl
   .rename_i id ad sv i cs o G;rw[G]at B;split at h<;>try cases h
    rename_i R hR;split at h<;>try cases h
    rename_i bm;split at h
    rotate_left
    .split at h<;>try cases h
     rename_i ek;obtain⟨v,P,h⟩:=oM h;split at h<;>try cases h
     rename_i x T;obtain⟨j0,P⟩:=Aa P;obtain⟨R',M,_,_,_,S⟩:=B;rw[A.rw,hR]at M;cases M;have hg:=A.rows id R (by rw[A.rw];exact hR);rcases S (cn bm)with⟨r',j,z1,z2,z0,z3,_⟩|⟨z1,z3,_⟩
     .rw[z1]at hg;obtain⟨Q,q1,q2,q3,q4,q5,q6,q7⟩:=hg;rw[z0,lG]at P;obtain⟨e,e1,e2⟩:=xg q5 P;obtain⟨y,g3,g4⟩:=uU (lQ e2) T;have kl:yh Q j (m.v id)=some e:=by unfold yh;rw[af q3];exact e1
      exact .same A h (by simp only[aD,D,F,z2,dF,q1,kl,g3]) g4
     .rw[z1]at hg;have:=hg ek;rw[this]at z3;exact absurd z3 (qcQ _)
    rename_i eg;split at h<;>try cases h
    rename_i x T;rcases Xt A B hR (cn bm) (cn eg)with⟨r',j,ds,Q,k1,_,_,k2,k3,k4,_⟩|⟨ds,k1,k4,_⟩
    .obtain⟨y,g3,g4⟩:=uU k4 T;have kl:yh Q j Q.ver=some ds:=by unfold yh;rw[af rfl];exact k3
     exact .same A h (by simp only[aD,D,F,k1,dF,k2,kl,g3]) g4
    .obtain⟨y,g3,g4⟩:=uU k4 T;exact .same A h (by simp only[aD,D,F,k1,dF,g3]) g4
 |store t a x=>
   simp only[eK]at h;split at h<;>try cases h
   rotate_left
   .rename_i d b i F G;have B:=A.ev a;rw[G]at B;obtain⟨hb,i0,B⟩:=B;split at h<;>try cases h
    rename_i cs v an T;split at h<;>try cases h
    rename_i l hl bn;obtain⟨d7,h⟩:=kn h;have d7:=bI d7;have bn:=cn bn;obtain⟨ds,M,S⟩:=A.box b cs an;have az:=A.ev x;rw[T]at az;have az:aev tm x=.v (.bool v):=az;have d8:=ME hl S;have ct:i.toNat<l.length:=by omega
    have aE:ds.length=l.length:=by rw[d8,cj]
    have dn:qs l i v 0=l.set i.toNat v:=by
     have:=Xh l i.toNat v 0
     rwa [show((i.toNat+0:Nat):Int)=i by omega]at this
    have a8:ds.take i.toNat++(cellsOf (aev tm x)++ds.drop (i.toNat+d.size))=(qs l i v 0).map λ b=>AV.v (.bool b):=by
     rw[az,bn,dn,List.map_set,<-d8,qtu,af (by omega)];rfl
    have e1:(cellsOf (aev tm x)).length=d.size:=by rw[az,bn];rfl
    have e2:i.toNat+d.size<=ds.length:=by omega
    have k2:(cellsOf (aev tm x)).all isC=true:=by rw[az];rfl
    exact .to h (by simp only[aD,D,F,B,M,AM S (U5 hl),e1,e2,k2,iu,lF];rfl) (.refl m) (A.setBox hb (ds:=ds.take i.toNat++(cellsOf (aev tm x)++ds.drop (i.toNat+d.size))) (by rw[a8];exact VX _) _) ⟨_,rfl,rfl⟩
   .rename_i d id ad sv i cs o F G;have B:=A.ev a;rw[G]at B;split at h<;>try cases h
    rename_i R hR;split at h<;>try cases h
    rename_i hc;simp only[aJ,cR,ew]at hc;obtain⟨⟨⟨⟨⟨c1,c2⟩,c3⟩,c4⟩,c5⟩,c6⟩:=hc;split at h<;>try cases h
    rename_i v P;rcases Xt A B hR (cn c1) (cn c2)with⟨r',j,ds,Q,k1,bb,ki,k2,k3,k4,kj,kv,kk,kd,kf,ks⟩|⟨ds,k1,k4,ks⟩
    rotate_left
    .rw[c3]at ks;cases ks
    obtain⟨z1,z2,z3⟩:=qmQ (A.ev x) c6;have ax:=xe P;have a8:OKL m (cs.take o++(fj (evT E x)++cs.drop (o+d.size))) (ds.take o++(cellsOf (aev tm x)++ds.drop (o+d.size))):=(k4.take o).append (z1.append (k4.drop _));rw[<-A.rw]at ax;obtain⟨rs,p1,p2⟩:=pU A.rows R.τ ax a8;cases p2
    have dT:∀y∈ds,bq y=true:=by
     obtain⟨w,_,hw⟩:=oN kd k3;obtain⟨pre,L,_,h3,_⟩:=iX R.τ (dP.1 hw);rw[bJ]at L;rw[L];exact h3
    have aE:ds.length=R.τ.size:=by
     obtain⟨w,_,hw⟩:=oN kd k3;obtain⟨pre,L,W,_⟩:=iX R.τ (dP.1 hw);rw[bJ]at L;rw[L];exact W
    have dk:∀y∈cellsOf (aev tm x),bq y=true:=by
     obtain⟨pre,L,_,h3,_⟩:=iX R.τ p1;rw[Jn,bJ]at L;intro y H;have:=h3 (bA I.rw y) (by rw[<-L];exact nK (aR.2 (.inr (aR.2 (.inl H)))));exact GP (z3 y H) this
    have a7:bt R.τ (ds.take o++(cellsOf (aev tm x)++ds.drop (o+d.size)))=some v:=by
     have:bt R.τ ((ds.take o++(cellsOf (aev tm x)++ds.drop (o+d.size))).map (bA I.rw))=some v:=dP.2 p1
     exact Hh (λ y H=>by
      rcases aR.1 H with H|H
      .exact dT y (gd H)
      .rcases aR.1 H with H|H
       .exact dk y H
       .exact dT y (io H)) this
    have dm:=Wh kd j a7;have cb:r'<I.rw.length:=getElem?_lt k2;have e8:(cellsOf (aev tm x)).length=d.size:=by rw[z1.len];exact c4
    have ex:o+d.size<=ds.length:=by rw[k4.len];exact c5
    have el:yl Q j o Q.ver d.size (cellsOf (aev tm x))=some {Q with c:=Q.c.set j (ds.take o++(cellsOf (aev tm x)++ds.drop (o+d.size)))}:=by
     unfold yl
     have e1:(decide (Q.ver=Q.ver/\Q.fz<=j/\o+d.size<=Q.k/\(cellsOf (aev tm x)).length=d.size/\Q.off=false)&&(cellsOf (aev tm x)).all bq)=true:=by
      rw[aJ,cR,bB];exact⟨⟨rfl,by rw[(ks c3).1];exact aG _,by rw[kk,<-aE];exact ex,e8,(ks c3).2⟩,dk⟩
     rw[e1,k3]
    have a5:dK R.l i v=R.l.set j v:=by
     unfold dK;rw[af (by rw[ki];exact Int.natCast_nonneg j),ki];rfl
    obtain⟨m',M,S,_⟩:=A.rowUpd (R2:=⟨R.τ,dK R.l i v,R.ver,R.sv+1,R.sh⟩) hR (m.r id) (m.v id) (Q.c.set j (ds.take o++(cellsOf (aev tm x)++ds.drop (o+d.size)))) (au _) (eG _)
     (λ _=>⟨by show(dK R.l i v).length=_;rw[a5,fD],rfl,rfl,rfl,(λ h=>by have:R.sv+1=R.sv:=h;omega),(λ h=>by rw[bb]at h;cases h)⟩) (σ':={I with rw:=I.rw.set r' {Q with c:=Q.c.set j (ds.take o++(cellsOf (aev tm x)++ds.drop (o+d.size)))},wrr:=r'::I.wrr}) rfl
     (by
      rw[bb];refine⟨{Q with c:=Q.c.set j (ds.take o++(cellsOf (aev tm x)++ds.drop (o+d.size)))},by show(I.rw.set r' _)[r']?=_;rw[gD cb],rfl,kv,kk,?_,?_,ks⟩
      .show bV (bt R.τ) (Q.c.set j _)=some (dK R.l i v);rw[a5];exact dm
      .show Q.fz<=(Q.c.set j _).length;rw[fD];exact kf)
     (λ c9 a9 L W h3=>by
      have a3:=A.others hR bb L W h3;refine⟨λ G=>by rw[bb]at G;exact a3 (kR G).symm,λ Q' c8=>?_⟩;show(I.rw.set r' _)[a9]?=_;rw[kQ (mH a3)];exact c8)
    exact .to h (by simp only[aD,D,F,k1,k2,el];rfl) M S ⟨_,rfl,rfl⟩
   rename_i d b o F G;have B:=A.ev a;rw[G]at B;obtain⟨hb,B⟩:=B;split at h<;>try cases h
   rename_i cs an;split at h<;>try cases h
   rename_i hc;simp only[aJ,cR]at hc;obtain⟨⟨⟨co,L⟩,W⟩,h3⟩:=hc;obtain⟨ds,M,S⟩:=A.box b cs an;obtain⟨k1,k2⟩:=(A.ev x).cells h3;have e1:(cellsOf (aev tm x)).length=d.size:=by rw[k1.len];exact L
   have e2:o+d.size<=ds.length:=by rw[S.len];exact W
   exact .to h (by simp only[aD,D,F,B,M,AM S co,e1,e2,k2,iu,lF];rfl) (.refl m) (A.setBox hb ((S.take o).append (k1.append (S.drop (o+d.size)))) _) ⟨_,rfl,rfl⟩
 |makeSlice t n mm=>
   simp only[eK]at h;split at h<;>try cases h
   rename_i _ _ _ _ _ k bytes z a' ik a F G hn;split at h<;>try cases h
   rename_i hc;simp only[aJ,cR]at hc;obtain⟨⟨⟨⟨c1,c2⟩,c3⟩,c4⟩,c5⟩:=hc;split at h<;>try cases h
   rename_i v P;obtain⟨hm,h⟩:=kn h;obtain⟨m1,m2,m3⟩:=bI hm;have a0:=A.ev n;rw[hn]at a0;have a0:aev tm n=.v (.int ik a):=a0;have e0:aev tm mm=.v (.int ik a):=by rw[<-qrJ c1];exact a0
   have em:eB mp0 I:=λ id R h=>by cases h
   have ax:=xe P;obtain⟨rs,p1,p2⟩:=pU (m:=mp0) em a' ax (xc c5);cases p2;have ed:(z.map AV.v).map (bA I.rw)=z.map AV.v:=by rw[kN];exact sY λ _ _=>rfl
   rw[ed]at p1;have e7:bt a' (z.map AV.v)=some v:=dP.2 p1;have dr:(z.map AV.v).all bq=true:=by rw[QY,bB];intro _ _;rfl
   have c0:decide (0<=a/\a.toNat*bytes<=2^47/\a.toNat<2^62/\0<k/\z.length=k)=true:=bf ⟨m1,m2,m3,c3,c4⟩
   have bp:aD C tm I (.makeSlice t n mm)=match bG a.toNat 0 with
     |true=>some (.sl k [] 2,none)
     |false=>some (.rs I.rw.length 0 a.toNat 0 false,some {I with rw:=I.rw++[⟨k,List.replicate a.toNat (z.map .v),0,0,false⟩]}):=by
    simp only[aD,D,F,a0,e0,true_and,c0,c5,dr,lF];cases bG a.toNat 0<;>rfl
   have cd:=VW e7 a.toNat;by_cases B:a.toNat=0
   .obtain⟨m',M,S,g3⟩:=A.rowAdd (σ':=I) ⟨a',List.replicate a.toNat v,0,0,false⟩ none 0 [] rfl (λ _=>by show List.replicate a.toNat v=[];rw[B];rfl) (λ r Q h=>h) (λ r h=>by cases h) (y:=.sl k [] 2) ⟨by show fK a'.size (bt a') (.sl k [] 2)=some (List.replicate a.toNat v);rw[B,c2];simp only[fK,bG,iu];rfl,au _⟩ rfl;refine⟨_,some _,.sl k [] 2,none,m',h,?_,M,S,g3,λ h=>by cases h⟩;have:bG a.toNat 0=true:=by simp[bG,B]
    rw[bp,this]
   .obtain⟨m',M,S,g3⟩:=A.rowNew cd;rw[sV]at g3;refine .to h (y:=.rs I.rw.length 0 a.toNat 0 false) ?_ M S g3;have:bG a.toNat 0=false:=by simp[bG,B]
    rw[bp,this,c2]
 |nilCheck x=>
   simp only[eK]at h;have B:=A.ev x;split at h<;>try cases h
   .rename_i b o G;rw[G]at B;exact .same A h (by simp only[aD,B.2]) ⟨B.1,rfl⟩
   .rename_i cs o G;rw[G]at B;obtain⟨ds,B,g⟩:=B;exact .same A h (by simp only[aD,B]) ⟨ds,rfl,g⟩
   .rename_i id ad sv i cs o G;rw[G]at B;have eb:=B;obtain⟨R,_,_,_,H,_⟩:=B;rcases H with⟨r',j,ep,H⟩|⟨ds,H⟩
    .exact .same A h (y:=.rpt r' j o ep) (by simp only[aD,H]) (by rw[<-H];exact eb)
    .exact .same A h (y:=.ept ds o) (by simp only[aD,H]) (by rw[<-H];exact eb)
 |binOp op t x y u=>
   simp only[eK]at h;split at h
   .rename_i b hb
    obtain⟨e1,F⟩:((op=.eql/\K (.b b) none=some r)\/(op=.neq/\K (.b (!b)) none=some r))/\∃p1 p2 p3 p4,c.ty t=some ⟨p1,p2,p3,p4,.ptr⟩:=by
     split at h<;>try (cases h;done)
     .rename_i hp;exact⟨.inl ⟨rfl,h⟩,Uu hp⟩
     .rename_i hp;exact⟨.inr ⟨rfl,h⟩,Uu hp⟩
    obtain⟨p1,p2,p3,p4,F⟩:=F;rcases qom (A.ev x) (A.ev y) hb with⟨rfl,q1,q2⟩|⟨rfl,q1,q2⟩
    .rcases e1 with⟨rfl,e1⟩|⟨rfl,e1⟩<;>exact .same A e1 (by simp only[aD,q1,q2,D,F,qcT]) rfl
    .rcases e1 with⟨rfl,e1⟩|⟨rfl,e1⟩
     .refine .same A e1 (y:=.v (.bool false)) ?_ rfl;cases T:aev tm x<;>rw[T]at q1<;>first|(cases q1;done)|(simp only[aD,T,q2,D,F,A1,Br,lF])
     .refine .same A e1 (y:=.v (.bool true)) ?_ rfl;cases T:aev tm x<;>rw[T]at q1<;>first|(cases q1;done)|(simp only[aD,T,q2,D,F,A1,Br,lF])
   obtain⟨z,v,L,W,h3⟩:=qsr (A.ev x) (A.ev y) h;refine .same A L ?_ W;rcases h3 with⟨a,b,e1,e2,e3,h4⟩|⟨a,b,e1,e2,e3,h4⟩
   .obtain⟨p1,p2,p3,p4,F⟩:=qmw e3;rcases h4 with⟨rfl,rfl⟩|⟨rfl,rfl⟩<;>simp only[aD,e1,e2,D,F]
   .simp only[aD,e1,e2];split
    .rename_i p q hp hq;cases hp;cases hq;exact absurd ⟨rfl,rfl⟩ (e3 p q)
    .rename_i hp hq;cases hp;cases hq;simp[sO]at h4
    .rename_i hp hq;cases hp;cases hq;rw[h4]
    .rename_i n1 n2 n3;exact absurd rfl (n3 _ _ rfl)
 |unOp op t x=>
   simp only[eK]at h;have B:=A.ev x;split at h<;>try cases h
   .rename_i k n G;rw[G]at B;exact .same A h (by simp only[aD,show aev tm x=_ from B,unA]) rfl
   .rename_i b G;rw[G]at B;exact .same A h (by simp only[aD,show aev tm x=_ from B,unA]) rfl
 |convert s d x=>
   simp only[eK]at h;have B:=A.ev x;split at h<;>try cases h
   .rename_i L W h3;rw[h3]at B;exact .same A h (by simp only[aD,D,L,W,show aev tm x=_ from B]) rfl
   .rename_i L W h3;rw[h3]at B;exact .same A h (by simp only[aD,D,L,W,show aev tm x=_ from B]) rfl
   .rename_i e _ _ _ _ _ _ _ _ _ _ L W hn;split at h<;>try cases h
    rename_i l hu hl;rw[<-A.rw]at hl;obtain⟨es,M,S,g3⟩:=AO A.rows hl B;have M:elems I.rw 1 (aev tm x)=some es:=M;refine .same A h (y:=.v (.string ⟨(N7 l).toArray⟩)) ?_ rfl;have hs:=WT es l S
    cases T:aev tm x<;>rw[T]at M<;>first
     |(simp[elems]at M;done)
     |(simp only[aD,D,L,W,T,hu,M,hs];done)
     |skip
    rename_i v
    cases v<;>first
     |(simp[elems]at M;done)
     |(simp only[aD,D,L,W,T,hu,M,hs])
 |makeFunc f fs cs=>
   cases f with
   |func f=>
     simp only[eK]at h;split at h<;>try cases h
     rename_i hf;exact .same A h (by simp only[aD,hf]) ⟨_,rfl,A.evs _⟩
   |_=>simp only[eK]at h;cases h
 |slice t x lo hi mx=>
   cases mx with
   |some q=>simp only[eK]at h;cases h
   |none=>
   simp only[eK]at h;have B:=A.ev x;split at h<;>try cases h
   .rename_i y F G;rw[G]at B;split at h<;>try cases h
    rename_i hh a6;split at h<;>try cases h
    rename_i l ar;obtain⟨c1,h⟩:=kn h;obtain⟨c2,h⟩:=kn h;have ef:qy ⟨y.toArray⟩=y.length:=by simp[qy,ByteArray.size]
    have b1:=rx A (d:=y.length) a6 (au _) c1;have b2:=rx A (d:=0) ar (aG _) c2;refine .same A h (y:=.v (.string (Bw ⟨y.toArray⟩ l.toNat hh.toNat))) ?_ ?_
    .simp only[aD,D,F,show aev tm x=_ from B,ef,b1,b2]
    .show AV.v _=AV.v _;rw[<-qqP]
   .rename_i a y lv F G;rw[G]at B;split at h<;>try cases h
    rename_i hk;rw[aJ]at hk;have d6:=bI hk.1;split at h<;>try cases h
    rename_i hh a6;split at h<;>try cases h
    rename_i l ar;obtain⟨c1,h⟩:=kn h;obtain⟨c2,h⟩:=kn h;have b1:=rx A (d:=y.length) a6 (au _) c1;have b2:=rx A (d:=0) ar (aG _) c2;obtain⟨aE,_⟩:=B;rcases fJ aE with⟨L,rfl⟩|⟨es,n,L,W⟩
    .refine .same A h (y:=.v (.slice none 0 0)) ?_ ?_
     .simp only[fE]at b1;simp only[aD,D,F,L,b1,b2]
     .refine⟨?_,by decide⟩;show some []=some (gA [] l hh);simp[gA]
    .have b9:fV es=y.length:=dX W;refine .same A h (y:=.sl a.size (I8 es l.toNat hh.toNat) (lvS (n+1) (bG hh.toNat y.length))) ?_ ?_
     .simp only[aD,D,F,L,d6,bG,iu,b9,b1,b2,show pos (n+1)=true from by simp[pos],lF]
     .have a4:∃q,lvS (n+1) (bG hh.toNat y.length)=q+1:=by unfold lvS;split<;>exact⟨_,rfl⟩
      obtain⟨q,hq⟩:=a4;rw[hq];refine⟨?_,wk (aG _)⟩;show fK _ _ (.sl _ _ (q+1))=_;simp only[fK,d6,bG,iu];exact xd _ (zR _ W)
   .rename_i F G;rw[G]at B;split at h<;>try cases h
    rename_i hh a6;split at h<;>try cases h
    rename_i l ar;obtain⟨c1,h⟩:=kn h;obtain⟨c2,h⟩:=kn h;have b1:=rx A (d:=0) a6 (au _) c1;have b2:=rx A (d:=0) ar (aG _) c2;exact .same A h (y:=.v (.slice none 0 0)) (by simp only[aD,D,F,show aev tm x=_ from B,b1,b2]) rfl
   .rename_i _ _ _ _ _ k _ _ id ad F G;rw[G]at B;split at h<;>try cases h
    rename_i R hR;split at h<;>try cases h
    rename_i b8;rw[aJ]at b8;have P:R.ver=ad:=cn b8.1;have hk:=bI b8.2;split at h<;>try cases h
    rename_i l ar;obtain⟨c1,h⟩:=kn h;obtain⟨R',M,S,g3,g4⟩:=B;rw[A.rw,hR]at M;cases M;have e9:m.rw[id]?=some R:=by rw[A.rw];exact hR
    have gy:=g4 P;subst P;rcases rI A.rows e9 gy with⟨rr,Q,bs,H,k1,k2,kv,k3,k4,kf,ks⟩|⟨bs,hq,H,a4⟩
    .have b4:=dX k4;have cb:rr<I.rw.length:=getElem?_lt k1;have b2:=rx A (d:=0) ar (aG _) c1
     have b0:l.toNat<=R.l.length:=by
      unfold inb at c1;have:=bI c1;omega
     have d9:IL Q k 0 Q.c.length Q.ver l.toNat=some {Q with c:=Q.c.drop l.toNat,ver:=Q.ver+1,fz:=Q.fz-l.toNat,off:=true}:=by
      unfold IL;rw[af ⟨k3.trans hk,rfl,rfl,rfl,by rw[b4];exact b0,kf⟩]
     obtain⟨m',z1,z2,z3⟩:=A.rowUpd (R2:=⟨R.τ,R.l.drop l.toNat,R.ver+1,R.sv,true⟩) hR (some rr) (Q.ver+1) (Q.c.drop l.toNat) (eG _) (au _) (λ h=>by have:R.ver+1=R.ver:=h;omega)
      (σ':={I with rw:=I.rw.set rr {Q with c:=Q.c.drop l.toNat,ver:=Q.ver+1,fz:=Q.fz-l.toNat,off:=true},wrr:=rr::I.wrr}) rfl
      ⟨{Q with c:=Q.c.drop l.toNat,ver:=Q.ver+1,fz:=Q.fz-l.toNat,off:=true},by show(I.rw.set rr _)[rr]?=_;rw[gD cb],rfl,rfl,k3,xd _ k4,by show Q.fz-l.toNat<=(Q.c.drop l.toNat).length;rw[gf];omega,λ h=>by cases h⟩ λ c9 a9 a3 ct b5=>by
       have d0:=A.others hR bs a3 ct b5;exact⟨λ cP=>d0 (kR cP).symm,λ Q' c8=>by show(I.rw.set rr _)[a9]?=_;rw[kQ (mH d0)];exact c8⟩
     refine .to h (y:=.rs rr 0 (Q.c.length-l.toNat) (Q.ver+1) false) ?_ z1 z2 (z3 _ ?_)
     .simp only[aD,D,F,H,wa,show ∀n,iO n n none=some n from λ _=>rfl,k1,b4,b2,bG,iu];rw[b4]at d9;rw[d9]
     .show _=AV.rs rr 0 (R.l.drop l.toNat).length (Q.ver+1) false;rw[gf,b4]
    .have b2:=rx A (d:=0) ar (aG _) c1
     have b0:l.toNat<=R.l.length:=by
      unfold inb at c1;have:=bI c1;omega
     obtain⟨m',z1,z2,z3⟩:=A.rowUpd (R2:=⟨R.τ,R.l.drop l.toNat,R.ver+1,R.sv,true⟩) hR none 0 [] (eG _) (au _) (λ h=>by have:R.ver+1=R.ver:=h;omega) (σ':=I) rfl
      (λ hs=>by cases hs) λ c9 a9 a3 ct b5=>⟨λ cP=>(by cases cP),λ _ h=>h⟩
     rcases fJ H with⟨bl,d5⟩|⟨es,n,bl,ea⟩<;>rw[bl]at H a4
     .have d4:l.toNat=0:=by rw[d5]at b0;simpa using b0
      refine⟨_,some _,.v (.slice none 0 0),none,m',h,?_,z1,z2,z3 _ ⟨?_,a4⟩,λ h=>by cases h⟩
      .rw[d5]at b2;simp only[fE]at b2;simp only[aD,D,F,bl,wa,show ∀n,iO n n none=some n from λ _=>rfl,b2]
      .show dlist R.τ _=some (R.l.drop l.toNat);rw[d4,bF];exact H
     .have b9:fV es=R.l.length:=dX ea;have fb:1<=n:=by have:2<=n+1:=a4;omega
      refine⟨_,some _,.sl R.τ.size (I8 es l.toNat R.l.length) (lvS (n+1) (bG R.l.length R.l.length)),none,m',h,?_,z1,z2,z3 _ ⟨?_,?_⟩,λ h=>by cases h⟩
      .simp only[aD,D,F,bl,hk,bG,iu,wa,show ∀n,iO n n none=some n from λ _=>rfl,b9,b2,show pos (n+1)=true from by simp[pos],lF]
      .have d2:lvS (n+1) (bG R.l.length R.l.length)=2:=by
         unfold lvS;rw[show(decide (1<n+1)&&bG R.l.length R.l.length)=true by simp[bG];omega]
       rw[d2];show fK _ _ (.sl _ _ 2)=_;simp only[fK,bG,iu];have:=xd l.toNat (zR R.l.length ea);rw[cI]at this;exact this
      .show 2<=lvS _ _;unfold lvS;rw[show(decide (1<n+1)&&bG R.l.length R.l.length)=true by simp[bG];omega];exact au _
 |fieldAddr t x i=>
   simp only[eK]at h;split at h<;>try cases h
   rename_i F;split at h<;>try cases h
   rename_i off size g hf;split at h<;>try cases h
   have B:=A.ev x;split at h<;>try cases h
   .rename_i b o G;rw[G]at B;exact .same A h (by simp only[aD,D,F,hf,B.2]) ⟨B.1,rfl⟩
   .rename_i cs o G;rw[G]at B;obtain⟨ds,B,hg⟩:=B;exact .same A h (by simp only[aD,D,F,hf,B]) ⟨ds,rfl,hg⟩
   .rename_i id ad sv j cs o G;rw[G]at B;obtain⟨R,k1,k2,k3,H,k4⟩:=B;rcases H with⟨r',q,ep,H⟩|⟨ds,H⟩
    .refine .same A h (y:=.rpt r' q (o+off) ep) (by simp only[aD,D,F,hf,H]) ⟨R,k1,k2,k3,.inl ⟨_,_,_,rfl⟩,λ e1=>?_⟩;rcases k4 e1 with⟨r2,i2,z1,z2,z0,z3,z4⟩|⟨z1,z3,z4⟩
     .rw[H]at z2;cases z2;exact .inl ⟨_,_,z1,rfl,z0,z3,z4⟩
     .exact .inr ⟨z1,z3,λ hs=>by obtain⟨ds,z,_⟩:=z4 hs;rw[H]at z;cases z⟩
    .refine .same A h (y:=.ept ds (o+off)) (by simp only[aD,D,F,hf,H]) ⟨R,k1,k2,k3,.inr ⟨_,rfl⟩,λ e1=>?_⟩;rcases k4 e1 with⟨r2,i2,z1,z2,_⟩|⟨z1,z3,z4⟩
     .rw[H]at z2;cases z2
     .exact .inr ⟨z1,z3,λ hs=>by obtain⟨ds',z,zz⟩:=z4 hs;rw[H]at z;cases z;exact⟨ds,rfl,zz⟩⟩
 |field t x i=>
   simp only[eK]at h;have B:=A.ev x;split at h<;>try cases h
   rename_i cs F G;split at h<;>try cases h
   rename_i off size g hf;split at h<;>try cases h
   rename_i y H;rw[G]at B;obtain⟨ds,B,hg⟩:=B;obtain⟨z,M,S⟩:=uU hg H;exact .same A h (by simp only[aD,D,F,B,hf,M]) S
 |indexAddr t x i=>
   simp only[eK]at h;have B:=A.ev x;have hi:=A.ev i;split at h<;>try cases h
   .rename_i _ _ _ _ _ k _ _ ik j F hj;rw[hj]at hi;have hi:aev tm i=.v (.int ik j):=hi;split at h<;>try cases h
    .rename_i a l lv G;rw[G]at B;split at h<;>try cases h
     rename_i hk;have hk:=bI hk;obtain⟨v,P,h⟩:=oM h;obtain⟨j0,P⟩:=Aa P;obtain⟨aE,_⟩:=B;rcases fJ aE with⟨L,rfl⟩|⟨es,n,L,W⟩
     .simp at P
     .obtain⟨e,M,S⟩:=xg W P;refine .same A h (y:=.ept e 0) ?_ ⟨e,rfl,lQ S⟩;have ca:yH es j=some e:=by unfold yH;rw[af j0];exact M
      simp only[aD,D,F,hi,L,hk,bG,iu,ca]
    .rename_i id ad G;rw[G]at B;split at h<;>try cases h
     rename_i R hR;split at h<;>try cases h
     rename_i P;rw[aJ]at P;have bm:=cn P.1;have hk:=bI P.2;obtain⟨v,P,h⟩:=oM h;obtain⟨j0,P⟩:=Aa P;obtain⟨R',M,S,g3,g4⟩:=B;rw[A.rw,hR]at M;cases M;have g4:=g4 bm;rcases rI A.rows (by rw[A.rw];exact hR) g4 with⟨rr,Q,bs,H,q1,q2,q3,q4,q5,_⟩|⟨cl,_,hq,_⟩
     .obtain⟨e,z1,z2⟩:=xg q5 P;have hl:=dX q5;have fk:j.toNat<Q.c.length:=getElem?_lt z1;refine .same A h (y:=.rpt rr (0+j.toNat) 0 Q.ver) ?_ ?_
      .have:IP Q k 0 Q.c.length Q.ver j=some (0+j.toNat):=by
         unfold IP;rw[af ⟨q4.trans hk,j0,by omega,rfl,by omega⟩]
       simp only[aD,D,F,hi,H,q1,this]
      .refine⟨R,by rw[A.rw];exact hR,by omega,au _,.inl ⟨_,_,_,rfl⟩,λ _=>.inl ⟨rr,j.toNat,bs,by rw[bS,q3],by omega,by omega,λ _=>⟨e,by rw[<-q2];exact z1,lQ z2⟩⟩⟩
     .rcases fJ hq with⟨_,hl⟩|⟨es,n,L,W⟩
      .rw[hl]at P;simp at P
      .obtain⟨e,M,fa⟩:=xg W P;refine .same A h (y:=.ept e 0) ?_ ⟨R,by rw[A.rw];exact hR,by omega,au _,.inr ⟨_,rfl⟩,λ _=>.inr ⟨cl,QM (aG _) (getElem?_lt P),λ _=>⟨e,rfl,lQ fa⟩⟩⟩;have ca:yH es j=some e:=by unfold yH;rw[af j0];exact M
       simp only[aD,D,F,hi,L,hk,bG,iu,ca]
   .rename_i n _ ik j F hj;rw[hj]at hi;have hi:aev tm i=.v (.int ik j):=hi;split at h<;>try cases h
    rename_i b G;rw[G]at B;obtain⟨hb,B⟩:=B;obtain⟨T,h⟩:=kn h;have T:=bI T;refine .same A h (y:=.ptr (m.b b) (0+j.toNat*1)) (by simp only[aD,D,F,hi,B,bf T]) ⟨hb,T.1,by rw[bS,BD]⟩
 |index t x i=>
   simp only[eK]at h;have B:=A.ev x;have hi:=A.ev i;split at h<;>try cases h
   rename_i y ik j F G hj;rw[G]at B;rw[hj]at hi;obtain⟨v,P,h⟩:=oM h;obtain⟨j0,P⟩:=Aa P;refine .same A h (y:=.v (.int .u8 v.toNat)) ?_ rfl
   have:Jf ⟨y.toArray⟩ j=some (v.toNat:Int):=by
    unfold Jf;rw[af j0];show(match y[j.toNat]? with|some b=>some ((b.toNat:Nat):Int)|none=>none)=_;rw[P]
   simp only[aD,D,F,show aev tm x=_ from B,show aev tm i=_ from hi,this]
 |extract x i=>
   simp only[eK]at h;have B:=A.ev x;split at h<;>try cases h
   rename_i vs G;rw[G]at B;obtain⟨ds,B,hg⟩:=B;split at h<;>try cases h
   rename_i y H;obtain⟨z,M,S⟩:=hg.get H;exact .same A h (by simp only[aD,B,M]) S
 |makeMap t q=>
   cases q with
   |some q=>simp[eK]at h
   |none=>
     simp only[eK]at h;split at h<;>try cases h
     rename_i κ a hm;obtain⟨_,_,_,_,vz,F,_⟩:=Gx hm;obtain⟨m',L,W,h3⟩:=A.alloc (cs:=[.mc κ a []]) (ds:=[.mc (kcT κ) κ.agg a.agg [] []]) ⟨_,_,rfl,N1,rfl⟩;exact .to h (by simp only[aD,D,F]) L W (x:=.mp τ.bx.length) (y:=.mp I.bx.length) ⟨h3.1,by have e:=h3.2;simp only[AV.ptr.injEq]at e;rw[e.1]⟩
 |lookup t mm k q=>
   simp only[eK]at h;split at h<;>try cases h
   rename_i κ a hm;split at h<;>try cases h
   rename_i b l z kv e4 hz hk;obtain⟨_,_,_,_,vz,F,b6⟩:=Gx hm;obtain⟨fg,ks,vs,d3,e5⟩:=L4 A (A.ev mm) e4;obtain⟨e1,e2⟩:=ZD b6 A.rows (by rw[A.rw];exact hk) (A.ev k);obtain⟨z1,z2⟩:=qqY F hz
   have ec:∃y,xY (kcT κ) a.agg vz ks vs (cellsOf (aev tm k))=some (y,Bs (veq κ) l kv)/\OK m (oA a (sx (veq κ) z l kv)) y:=by
    rw[e2];rcases Xj b6 e5 kv 0 with⟨f1,f2⟩|⟨j,v,p,f1,f2,f3,f4⟩
    .exact⟨ft a.agg (vz.map .v),by simp only[xY,f1,Bs,f2,ye],by simp only[sx,f2,ye];exact ZJ z2⟩
    .rw[bS]at f1;exact⟨ft a.agg v,by simp only[xY,f1,f2,Bs,f4,ye],by simp only[sx,f4,ye];exact ZJ f3⟩
   obtain⟨y,y1,y2⟩:=ec
   have hc:(vB (kcT κ) κ.agg (aev tm k)&&(vz.all ci&&decide (vz.length=a.size)&&(a.agg||decide (a.size=1))))=true:=by
    rw[e1,z1.1,z1.2];simp only[iu,bU];cases c7:a.agg with
    |true=>rfl
    |false=>rw[Yf c7];rfl
   cases q with
   |true=>exact .same A h (by simp only[aD,D,F,d3,hc,y1]) ⟨_,rfl,⟨_,_,rfl,y2,_,_,rfl,rfl,rfl⟩⟩
   |false=>exact .same A h (by simp only[aD,D,F,d3,hc,y1]) y2
 |mapUpdate t mm k y=>
   have hs:aD C tm I (.mapUpdate t mm k y)=me C tm I t mm k y:=rfl;rw[hs];exact U8 D A (show yj c E τ t mm k y K=some r from h)
 |insert t mm k y=>
   have hs:aD C tm I (.insert t mm k y)=me C tm I t mm k y:=rfl;rw[hs];exact U8 D A (show yj c E τ t mm k y K=some r from h)
 |_=>simp only[eK]at h;cases h
end
end
end Go.AmZ
