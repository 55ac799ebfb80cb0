/- Part 2 of what the proofs stand on: plain functions of the program, and that they are its functions. -/
import Derived.Test.YtbpnmbmdbblehaaGreatM1
set_option linter.unusedVariables false
set_option linter.unusedSimpArgs false
namespace Go.AmYtbpnmbmdbblehaaGreat
open Go Go.RowKit
theorem qji (lo:Nat→Bool):∀ l:List Oper,Jf lo l≤l.length
 | []=>Nat.le_refl _
 | o::r=>by
   unfold Jf
   split
   ·exact Nat.zero_le _
   ·simpa using qji lo r
theorem qow (o:Oper):(yG o).dst=o.dst:=by unfold yG;split<;>rfl
theorem qBa (o:Oper):(yG o).guard=o.guard:=by unfold yG;split<;>rfl
theorem qql (o:Oper):jk (yG o)=jk o:=by unfold yG;split<;>rfl
theorem qrL {lo:Nat→Bool} {l:List Oper}:(qW lo l).length=Jf lo l:=by simp [qW,Nat.min_eq_left (qji lo l)]
theorem qhu {lo:Nat→Bool} {l:List Oper} {j:Nat} (hj:j<Jf lo l):(qW lo l)[j]? = l[j]?.map yG:=by
 unfold qW;rw [List.getElem?_map,List.getElem?_take,if_pos hj]
theorem qzS {lo:Nat→Bool} {l:List Oper} {j:Nat} {o:Oper} (h:(qW lo l)[j]? = some o):j<Jf lo l∧∃ q,l[j]? = some q∧yG q=o:=by
 have hj:j<Jf lo l:=by rw [← qrL (lo:=lo) (l:=l)];exact getElem?_lt h
 rw [qhu hj] at h
 cases hq:l[j]? with
 | none=>rw [hq] at h;cases h
 | some q=>rw [hq] at h;cases h;exact ⟨hj,q,rfl,rfl⟩
theorem qmc {lo:Nat→Bool} {ops:Array Oper} {tm:List AV} {o:Oper} {b:Bool} (h:yq ⟨qW lo ops.toList⟩ tm (yG o)=some b):yq ops tm o=some b:=by
 unfold yq at h ⊢
 rw [qBa] at h
 cases hg:o.guard with
 | none=>rw [hg] at h;exact h
 | some p =>
   obtain ⟨j,want⟩:=p
   rw [hg] at h
   simp only at h ⊢
   cases hq:(qW lo ops.toList)[j]? with
   | none =>
     have:(⟨qW lo ops.toList⟩:Array Oper)[j]? = none:=by simpa using hq
     rw [this] at h;cases h
   | some q =>
     obtain ⟨hj,q',h1,h2⟩:=qzS hq
     have e1:(⟨qW lo ops.toList⟩:Array Oper)[j]? = some q:=by simpa using hq
     have e2:ops[j]? = some q':=by simpa using h1
     rw [e1] at h
     rw [e2]
     subst h2
     simp only [Option.bind_some,qow] at h ⊢
     exact h
section
variable {P:Program} {C:Cfg} {Γ : Gh} {σ : St} {w:World} {ops:Array Oper} {ex:QA} {l:List (AV × Option St)} {s0:S}
theorem qtI {listed:Array Bool} (h:listed.toList.countP (λ b => !b)=0):∀ i,i<listed.size→listed.getD i false=true:=by
 intro i hi
 rw [List.countP_eq_zero] at h
 have:=h listed[i] (by simp)
 simp only [Bool.not_eq_true',Bool.not_eq_false] at this
 rw [Array.getD_eq_getD_getElem?,Array.getElem?_eq_getElem hi]
 simpa using this
theorem qBe (hC:yr P C) (hx:qcK P ex) {G:(Nat→Bool)→S} {Good:(Nat→Bool)→Prop} (hmono:∀ L j,Good L→Good (λ i=>decide (i=j)||L i)) (hpre:∀ (j:Nat) (o:Oper),ops[j]? = some o→∀ e∈jk o,e<j) (hext:∀ L,(∀ i,i<ops.size→L i=true)→G L=G qM)
  (hstep:∀ (L:Nat→Bool) (j:Nat) (o:Oper),qdV ops L→Good L→ops[j]? = some o→L j=false→(∀ e∈jk o,L e=true)→∃ y,qcl C ex ops o (G L) y∧G (λ i=>decide (i=j)||L i)=yj (G L) o y) {Q:Exit→Act→World→Prop}:∀ (fuel:Nat) (listed:Array Bool) (Γ : Gh) (w:World) (a:Act),listed.size=ops.size→listed.toList.countP (λ b => !b)=fuel→qdV ops (λ i=>listed.getD i false)→Good (λ i=>listed.getD i false) →
  Inv Γ (G (λ i=>listed.getD i false)).σ w→zk Γ (G (λ i=>listed.getD i false)).tm a →
  (∀ Γ' w' a',Ext Γ w Γ' w'→Inv Γ' (G qM).σ w'→zk Γ' (G qM).tm a'→qU (G (λ i=>listed.getD i false)).σ (G qM).σ → a'.defers=a.defers→Q .normal a' w') →
  wpAny P .any ops Q fuel listed a w:=by
 intro fuel
 induction fuel with
 | zero =>
   intro listed Γ w a hsz hct hd hgood hi ht hq
   have hall:=qtI hct
   have hnil:Region.ready .any ops listed=[]:=by
    apply List.eq_nil_iff_forall_not_mem.2
    intro j hj
    obtain ⟨h1,o,ho,_⟩:=mem_ready.1 hj
    have hlt:j<listed.size:=by rw [hsz];exact (Array.getElem?_eq_some_iff.1 ho).1
    have h2:=hall j hlt
    rw [Array.getD_eq_getD_getElem?,Array.getElem?_eq_getElem hlt] at h1 h2
    simp at h1 h2
    rw [h1] at h2;cases h2
   have hF:G (λ i=>listed.getD i false)=G qM:=hext _ λ i hi=>hall i (by rw [hsz];exact hi)
   rw [hF] at hi ht
   exact ⟨hnil,hq Γ w a (.refl _ _) hi ht (by rw [hF];exact .refl _) rfl⟩
 | succ fuel ih =>
   intro listed Γ w a hsz hct hd hgood hi ht hq
   refine ⟨λ hnil=>?_,λ j hj=>?_⟩
   ·exfalso
    have hex:∃ i,i<listed.size∧listed.getD i false=false:=by
     apply Classical.byContradiction
     intro hno
     have:listed.toList.countP (λ b => !b)=0:=by
      rw [List.countP_eq_zero]
      intro b hb
      obtain ⟨i,hi',rfl⟩:=List.getElem_of_mem hb
      intro hb'
      refine hno ⟨i,by simpa using hi',?_⟩
      rw [Array.getD_eq_getD_getElem?,Array.getElem?_eq_getElem (by simpa using hi')]
      simpa using hb'
     rw [hct] at this;cases this
    obtain ⟨i0,h0,h1⟩:=hex
    have key:∀ i,i<listed.size→listed.getD i false=false→False:=by
     intro i
     induction i using Nat.strongRecOn with
     | _ i ih' =>
       intro hi' hf
       obtain ⟨o,ho⟩:=jq (ops:=ops) (k:=i) (by rw [← hsz];exact hi')
       have hr:i∈Region.ready .any ops listed:=by
        refine mem_ready.2 ⟨?_,o,ho,λ e he hb=>?_⟩
        ·rw [Array.getD_eq_getD_getElem?,Array.getElem?_eq_getElem hi'] at hf ⊢
         simpa using hf
        ·have hep:e.on∈jk o:=List.mem_map.2 ⟨e,List.mem_filter.2 ⟨by simpa using he,hb⟩,rfl⟩
         have hlt:=hpre i o ho e.on hep
         cases hc:listed.getD e.on false with
         | true=>rfl
         | false=>exact (ih' e.on hlt (by omega) hc).elim
       rw [hnil] at hr;cases hr
    exact key i0 h0 h1
   ·obtain ⟨h1,o,ho,hall⟩:=mem_ready.1 hj
    have hjn:j<ops.size:=(Array.getElem?_eq_some_iff.1 ho).1
    have hL:listed.getD j false=false:=by
     rw [Array.getD_eq_getD_getElem?,Array.getElem?_eq_getElem (by rw [hsz];exact hjn)] at h1 ⊢
     simpa using h1
    have hp:∀ e∈jk o,listed.getD e false=true := λ e he=>by
     obtain ⟨ed,hed,rfl⟩:=List.mem_map.1 he
     have:=List.mem_filter.1 hed
     exact hall ed (by simpa using this.1) this.2
    obtain ⟨y,hy,hFn⟩:=hstep _ j o hd hgood ho hL hp
    have hset:(λ i=>(listed.setIfInBounds j true).getD i false) = λ i=>decide (i=j)||listed.getD i false:=by
     funext i
     by_cases hij:i=j
     ·subst hij
      rw [Array.getD_eq_getD_getElem?,Array.getElem?_setIfInBounds_self_of_lt (by rw [hsz];exact hjn)]
      simp
     ·rw [getD_set_ne false (Ne.symm hij)]
      simp [hij]
    have hsz':(listed.setIfInBounds j true).size=ops.size:=by rw [Array.size_setIfInBounds,hsz]
    have hct':(listed.setIfInBounds j true).toList.countP (λ b => !b)=fuel:=by
     have hjl:j<listed.toList.length:=by simp [hsz,hjn]
     rw [Array.toList_setIfInBounds,List.countP_set (h:=hjl),hct]
     have:listed.toList[j]=false:=by
      rw [Array.getD_eq_getD_getElem?,Array.getElem?_eq_getElem (by rw [hsz];exact hjn)] at hL
      simpa using hL
     rw [this];simp
    have hd':qdV ops (λ i=>(listed.setIfInBounds j true).getD i false):=by
     rw [hset]
     intro i q hq' hi' e he
     simp only [Bool.or_eq_true,decide_eq_true_eq] at hi' ⊢
     rcases hi' with rfl | hi'
     ·rw [ho] at hq';cases hq';exact .inr (hp e he)
     ·exact .inr (hd i q hq' hi' e he)
    unfold wpOp
    rw [ho]
    simp only
    have next:∀ Γ' w' u,Ext Γ w Γ' w'→Inv Γ' (turn (G (λ i=>listed.getD i false)).σ y.2) w'→Rep Γ' y.1 u→qU (G (λ i=>listed.getD i false)).σ (turn (G (λ i=>listed.getD i false)).σ y.2) →
      wpAny P .any ops Q fuel (listed.setIfInBounds j true) (a.put o.dst u) w':=by
     intro Γ' w' u e1 e2 e3 e4
     have hF':G (λ i=>(listed.setIfInBounds j true).getD i false)=yj (G (λ i=>listed.getD i false)) o y:=by rw [hset];exact hFn
     refine ih (listed.setIfInBounds j true) Γ' w' (a.put o.dst u) hsz' hct' hd' (by rw [hset];exact hmono _ j hgood) ?_ ?_ ?_
     ·rw [hF'];exact e2
     ·rw [hF'];exact zk.put (RepL.mono e1.le ht) o.dst e3
     ·intro Γ2 w2 a2 g1 g2 g3 g4 g5
      rw [hF'] at g4
      exact hq Γ2 w2 a2 (e1.trans g1) g2 g3 (e4.trans g4) (by rw [g5];cases hd:o.dst<;>rfl)
    rcases hy with ⟨hw,hop⟩ | ⟨hw,rfl⟩
    ·rw [if_pos (qhA ht hw)]
     left
     refine qDy hC hx hi ht hop _ _ ?_
     intro u w' Γ' e1 e2 e3 e4
     exact next Γ' w' u e1 e2 e3 e4
    ·rw [if_neg (by rw [qhA ht hw];exact Bool.false_ne_true)]
     exact next Γ w undef (.refl _ _) hi (.tup [] [] rfl λ i x u h=>by simp at h) (.refl _)
theorem qBy (hC:yr P C) (hx:qcK P ex) {Good:(Nat→Bool)→Prop} (hmono:∀ L j,Good L→Good (λ i=>decide (i=j)||L i)) (hpre:∀ (j:Nat) (o:Oper),ops[j]? = some o→∀ e∈jk o,e<j)
  (hstep:∀ (L:Nat→Bool) (j:Nat) (o:Oper),qdV ops L→Good L→ops[j]? = some o→L j=false→(∀ e∈jk o,L e=true)→∃ y,qcl C ex ops o (F ops.toList l s0 L ops.size) y∧F ops.toList l s0 (λ i=>decide (i=j)||L i) ops.size=yj (F ops.toList l s0 L ops.size) o y) {Q:Exit→Act→World→Prop}:∀ (fuel:Nat) (listed:Array Bool) (Γ : Gh) (w:World) (a:Act),listed.size=ops.size→listed.toList.countP (λ b => !b)=fuel→qdV ops (λ i=>listed.getD i false)→Good (λ i=>listed.getD i false) →
  Inv Γ (F ops.toList l s0 (λ i=>listed.getD i false) ops.size).σ w→zk Γ (F ops.toList l s0 (λ i=>listed.getD i false) ops.size).tm a →
  (∀ Γ' w' a',Ext Γ w Γ' w'→Inv Γ' (F ops.toList l s0 qM ops.size).σ w'→zk Γ' (F ops.toList l s0 qM ops.size).tm a'→qU (F ops.toList l s0 (λ i=>listed.getD i false) ops.size).σ (F ops.toList l s0 qM ops.size).σ → a'.defers=a.defers→Q .normal a' w') →
  wpAny P .any ops Q fuel listed a w :=
 qBe (G := λ L=>F ops.toList l s0 L ops.size) hC hx hmono hpre (λ _ h=>qxF _ h) hstep
theorem qvX {lo:Nat→Bool} (h:qhU lo ops.toList=true) :
  (∀ (j:Nat) (o:Oper),ops[j]? = some o→∀ e∈jk o,e<j) ∧
  (∀ (j:Nat) (o:Oper),ops[j]? = some o→Jf lo ops.toList≤j→∀ i,i<j→((J2 ops.toList []).getD j 0).testBit i=true∨(i<Jf lo ops.toList∧∃ q,ops[i]? = some q∧qds ops.toList q=true)) ∧
  ∀ (j:Nat) (o:Oper),ops[j]? = some o→ya o=true→o.guard=none∧∃ d,o.dst=some d∧∀ (k:Nat) (q:Oper),ops[k]? = some q→k≠j→q.dst≠some d:=by
 have mem:∀ (i:Nat) (o:Oper),ops[i]? = some o→(o,i)∈ops.toList.zipIdx := λ i o ho=>by
  rw [List.mem_zipIdx_iff_getElem?];simpa using ho
 simp only [qhU,List.all_eq_true,Bool.and_eq_true,Bool.or_eq_true,decide_eq_true_eq,Bool.not_eq_true'] at h
 refine ⟨λ j o ho=>(h _ (mem j o ho)).1,λ j o ho hj i hi=>?_,λ j o ho ha=>?_⟩
 ·rcases (h _ (mem j o ho)).2.1 with h' | h'
  ·rw [Nat.blt_eq] at h';omega
  ·rcases h' i (List.mem_range.2 hi) with h' | ⟨h1,h2⟩
   ·exact .inl h'
   ·rw [Nat.blt_eq] at h1
    right
    refine ⟨h1,?_⟩
    split at h2
    ·rename_i q hq
     exact ⟨q,by simpa using hq,h2⟩
    ·cases h2
 ·rcases (h _ (mem j o ho)).2.2 with h' | ⟨h1,h2⟩
  ·rw [ha] at h';cases h'
  ·refine ⟨Option.isNone_iff_eq_none.1 h1,?_⟩
   simp only at h2
   split at h2
   ·rename_i d hd
    refine ⟨d,hd,λ k q hq hne hqd=>?_⟩
    have hl:=Nat.eq_of_beq_eq_true h2
    obtain ⟨x,hx⟩:=List.length_eq_one_iff.1 hl
    have m1:(o,j)∈qcP ops.toList d:=List.mem_filter.2 ⟨mem j o ho,by simp [qpm,hd]⟩
    have m2:(q,k)∈qcP ops.toList d:=List.mem_filter.2 ⟨mem k q hq,by simp [qpm,hqd]⟩
    rw [hx] at m1 m2
    have e1:=List.mem_singleton.1 m1
    have e2:=List.mem_singleton.1 m2
    have:=e2.trans e1.symm
    simp only [Prod.mk.injEq] at this
    exact hne this.2
   ·cases h2
theorem qhz {o:Oper} (ho:ya o=true):∃ e,o.op = .alloc e:=by
 unfold ya at ho
 split at ho
 ·exact ⟨_,‹_›⟩
 ·cases ho
structure qkc (P:Program) (Γ : Gh) (w0 w:World) (ops:Array Oper) (L:Nat→Prop) (a:Act) (ad:Nat→Nat):Prop where
 blk:∀ k o e d,L k→ops[k]? = some o→o.op = .alloc e→jn P e=some d→d.zero.all z8=true →
  w0.heap.size≤ad k∧w.heap[ad k]? = some (.cells d.zero.toArray e (0,0))∧¬ QP Γ (ad k)∧∀ i,Γ.mem (ad k) i=none
 tmp:∀ k o e d u,L k→ops[k]? = some o→o.op = .alloc e→o.dst=some d→a.tmps[d]? = some u→u = .pointer (some ⟨ad k,0,none⟩)
 inj:∀ k k' o o',L k→L k'→ops[k]? = some o→ops[k']? = some o'→ya o=true→ya o'=true→ad k=ad k'→k=k'
theorem qE4 {a:Act} {d:Option Tmp} {u:Value} {t:Tmp} (h:d≠some t):(a.put d u).tmps[t]? = a.tmps[t]? := by
 cases d with
 | none=>rfl
 | some d =>
   show (a.tmps.setIfInBounds d u)[t]? = _
   rw [Array.getElem?_setIfInBounds_ne]
   intro e;subst e;exact h rfl
theorem qkc.step {L:Nat→Prop} {w0 w':World} {Γ':Gh} {a:Act} {ad:Nat→Nat} {d:Option Tmp} {u:Value} (h:qkc P Γ w0 w ops L a ad) (he:Ext Γ w Γ' w')
  (hd:∀ k o t,L k→ops[k]? = some o→ya o=true→o.dst=some t→d≠some t):qkc P Γ' w0 w' ops L (a.put d u) ad where
 blk := λ k o e d h1 h2 h3 h4 h5=>by
  obtain ⟨g1,g2,g3,g4⟩:=h.blk k o e d h1 h2 h3 h4 h5
  have hlt:ad k<w.heap.size:=(Array.getElem?_eq_some_iff.1 g2).1
  refine ⟨g1,by rw [he.block _ hlt g3];exact g2,λ ho=>?_,λ i=>?_⟩
  ·rcases he.own _ ho with ho | ho
   ·exact g3 ho
   ·omega
  ·cases hm : Γ'.mem (ad k) i with
   | none=>rfl
   | some v =>
     rcases he.memg _ _ _ hm with hm | hm | hm
     ·rw [g4] at hm;cases hm
     ·exact absurd hm g3
     ·omega
 tmp := λ k o e t v h1 h2 h3 h4 h5=>by
  rw [qE4 (hd k o t h1 h2 (by simp [ya,h3]) h4)] at h5
  exact h.tmp k o e t v h1 h2 h3 h4 h5
 inj:=h.inj
theorem qDY {o:Oper} {ρ : Operand→Value} {e:TypeId} {d:TD} (ho:o.op = .alloc e) (hd:jn P e=some d) (w:World):(execOp ρ o).run P w = .ok (.value (.pointer (some ⟨w.heap.size,0,none⟩))) (w.alloc (.cells d.zero.toArray e)):=by
 obtain ⟨i,u,z,h1,h2,h3,h4,h5,h6,h7,h8⟩:=TD.inv hd
 rw [← h7]
 simp [execOp,ho,Instr.alloc,zeroValue,typeInfo,h1,h3,newVar,qeS]
theorem Inv.free (hi:Inv Γ σ w) {b:Nat} (hb:w.heap.size≤b):¬ QP Γ b∧∀ i,Γ.mem b i=none:=by
 refine ⟨?_,λ i=>?_⟩
 ·rintro (⟨i,h1,h2⟩ | ⟨r,h1,h2,h3⟩)
  ·have:=hi.box_lt h1;omega
  ·have:=hi.cur_lt h1 h2;omega
 ·cases hm : Γ.mem b i with
  | none=>rfl
  | some u=>have:=hi.mem_lt hm;omega
theorem qJ0 (hC:yr P C) (hx:qcK P ex) (hT:qgY C ex ⟨qW C.lo ops.toList⟩ l s0) (hk:qaY C.lo s0.tm ⟨qW C.lo ops.toList⟩=true) (hlate:qhU C.lo ops.toList=true)
  (hz:∀ k o e,k<Jf C.lo ops.toList→ops[k]? = some o→o.op = .alloc e→∃ d,jn P e=some d∧d.zero.all z8=true) {w0:World} {Q:Exit→Act→World→Prop} {n:Nat} (hn:n=Jf C.lo ops.toList) :
  ∀ (fuel:Nat) (listed:Array Bool) (Γ : Gh) (w:World) (a:Act) (ad:Nat→Nat),listed.size=ops.size→listed.toList.countP (λ b => !b)=fuel→(∀ i,n≤i→listed.getD i false=false)→qdV ops (λ i=>listed.getD i false) →
  Inv Γ (F (qW C.lo ops.toList) l s0 (λ i=>listed.getD i false) n).σ w→zk Γ (F (qW C.lo ops.toList) l s0 (λ i=>listed.getD i false) n).tm a→qkc P Γ w0 w ops (λ i=>listed.getD i false=true) a ad→w0.heap.size≤w.heap.size →
  (∀ fuel' listed' Γ' w' a' ad',listed'.size=ops.size→listed'.toList.countP (λ b => !b)=fuel'→(∀ i,n≤i→listed'.getD i false=false)→(∀ (i:Nat) (o:Oper),i<n→ops[i]? = some o→qds ops.toList o=false→listed'.getD i false=true)→qdV ops (λ i=>listed'.getD i false)→Ext Γ w Γ' w'→Inv Γ' (F (qW C.lo ops.toList) l s0 (λ i=>listed'.getD i false) n).σ w'→zk Γ' (F (qW C.lo ops.toList) l s0 (λ i=>listed'.getD i false) n).tm a'→qkc P Γ' w0 w' ops (λ i=>listed'.getD i false=true) a' ad' →
   qU (F (qW C.lo ops.toList) l s0 (λ i=>listed.getD i false) n).σ (F (qW C.lo ops.toList) l s0 (λ i=>listed'.getD i false) n).σ → a'.defers=a.defers→wpAny P .any ops Q fuel' listed' a' w') →
  wpAny P .any ops Q fuel listed a w:=by
 obtain ⟨hlp,hlm,hla⟩:=qvX hlate
 have hpre:∀ (j:Nat) (o:Oper),j<n→ops[j]? = some o→(⟨qW C.lo ops.toList⟩:Array Oper)[j]? = some (yG o) := λ j o hj ho=>by
  have:(qW C.lo ops.toList)[j]? = some (yG o):=by
   rw [qhu (by omega)]
   have:ops.toList[j]? = some o:=by simpa using ho
   rw [this];rfl
  simpa using this
 have hsz1:(⟨qW C.lo ops.toList⟩:Array Oper).size=n:=by show (qW C.lo ops.toList).length=n;rw [qrL,hn]
 have hnle:n≤ops.size:=by rw [hn];simpa using qji C.lo ops.toList
 intro fuel
 induction fuel with
 | zero =>
   intro listed Γ w a ad hsz hct hge hd hi ht hs hw0 hq
   have hall:=qtI hct
   exact hq 0 listed Γ w a ad hsz hct hge (λ i o hi' _ _=>hall i (by omega)) hd (.refl _ _) hi ht hs (.refl _) rfl
 | succ fuel ih =>
   intro listed Γ w a ad hsz hct hge hd hi ht hs hw0 hq
   by_cases hall:∀ (i:Nat) (o:Oper),i<n→ops[i]? = some o→qds ops.toList o=false→listed.getD i false=true
   ·exact hq (fuel+1) listed Γ w a ad hsz hct hge hall hd (.refl _ _) hi ht hs (.refl _) rfl
   have hdP:qdV ⟨qW C.lo ops.toList⟩ (λ i=>listed.getD i false):=by
    intro i o ho hL e he
    obtain ⟨hi',q,h1,rfl⟩:=qzS (lo:=C.lo) (l:=ops.toList) (j:=i) (o:=o) (by simpa using ho)
    rw [qql] at he
    exact hd i q (by simpa using h1) hL e he
   have hL0:∃ (i0:Nat) (o0:Oper),i0<n∧ops[i0]? = some o0∧qds ops.toList o0=false∧listed.getD i0 false=false:=by
    apply Classical.byContradiction
    intro hno
    refine hall λ i o hi' ho' hf'=>?_
    cases hc:listed.getD i false with
    | true=>rfl
    | false=>exact (hno ⟨i,o,hi',ho',hf',hc⟩).elim
   refine ⟨λ hnil=>?_,λ j hj=>?_⟩
   ·exfalso
    obtain ⟨i0,o0,h0,_,_,h1⟩:=hL0
    have key:∀ i,i<n→listed.getD i false=false→False:=by
     intro i
     induction i using Nat.strongRecOn with
     | _ i ih' =>
       intro hi' hf
       obtain ⟨o,ho⟩:=jq (ops:=ops) (k:=i) (by omega)
       have hr:i∈Region.ready .any ops listed:=by
        refine mem_ready.2 ⟨?_,o,ho,λ e he hb=>?_⟩
        ·rw [Array.getD_eq_getD_getElem?,Array.getElem?_eq_getElem (by omega)] at hf ⊢
         simpa using hf
        ·have hep:e.on∈jk o:=List.mem_map.2 ⟨e,List.mem_filter.2 ⟨by simpa using he,hb⟩,rfl⟩
         have hlt:=hlp i o ho e.on hep
         cases hc:listed.getD e.on false with
         | true=>rfl
         | false=>exact (ih' e.on hlt (by omega) hc).elim
       rw [hnil] at hr;cases hr
    exact key i0 h0 h1
   ·obtain ⟨h1,o,ho,hready⟩:=mem_ready.1 hj
    have hjs:j<ops.size:=(Array.getElem?_eq_some_iff.1 ho).1
    have hL:listed.getD j false=false:=by
     rw [Array.getD_eq_getD_getElem?,Array.getElem?_eq_getElem (by rw [hsz];exact hjs)] at h1 ⊢
     simpa using h1
    have hp:∀ e∈jk o,listed.getD e false=true := λ e he=>by
     obtain ⟨ed,hed,rfl⟩:=List.mem_map.1 he
     have:=List.mem_filter.1 hed
     exact hready ed (by simpa using this.1) this.2
    have hjn:j<n:=by
     apply Classical.byContradiction
     intro hno
     obtain ⟨i0,o0,h0,ho0,hf0,h2⟩:=hL0
     rcases hlm j o ho (by omega) i0 (by omega) with hb | ⟨_,q,hq',hf'⟩
     ·have:=qmC hd j o ho hp hb
      rw [h2] at this;cases this
     ·rw [ho0] at hq';cases hq'
      rw [hf0] at hf';cases hf'
    have hp':∀ e∈jk (yG o),listed.getD e false=true:=by rw [qql];exact hp
    obtain ⟨y,hy,hFn⟩:=qrH hT hk hdP (hpre j o hjn ho) hL hp'
    rw [hsz1] at hy hFn
    have hset:(λ i=>(listed.setIfInBounds j true).getD i false) = λ i=>decide (i=j)||listed.getD i false:=by
     funext i
     by_cases hij:i=j
     ·subst hij
      rw [Array.getD_eq_getD_getElem?,Array.getElem?_setIfInBounds_self_of_lt (by rw [hsz];exact hjs)]
      simp
     ·rw [getD_set_ne false (Ne.symm hij)]
      simp [hij]
    have hsz':(listed.setIfInBounds j true).size=ops.size:=by rw [Array.size_setIfInBounds,hsz]
    have hct':(listed.setIfInBounds j true).toList.countP (λ b => !b)=fuel:=by
     have hjl:j<listed.toList.length:=by simp [hsz,hjs]
     rw [Array.toList_setIfInBounds,List.countP_set (h:=hjl),hct]
     have:listed.toList[j]=false:=by
      rw [Array.getD_eq_getD_getElem?,Array.getElem?_eq_getElem (by rw [hsz];exact hjs)] at hL
      simpa using hL
     rw [this];simp
    have hge':∀ i,n≤i→(listed.setIfInBounds j true).getD i false=false := λ i hi'=>by
     rw [getD_set_ne false (by omega)];exact hge i hi'
    have hd':qdV ops (λ i=>(listed.setIfInBounds j true).getD i false):=by
     rw [hset]
     intro i q hq' hi' e he
     simp only [Bool.or_eq_true,decide_eq_true_eq] at hi' ⊢
     rcases hi' with rfl | hi'
     ·rw [ho] at hq';cases hq';exact .inr (hp e he)
     ·exact .inr (hd i q hq' hi' e he)
    have jW:∀ k,(listed.setIfInBounds j true).getD k false=true→k=j∨listed.getD k false=true := λ k hk'=>by
     have:(λ i=>(listed.setIfInBounds j true).getD i false) k=true:=hk'
     rw [hset] at this
     simpa using this
    have hF':F (qW C.lo ops.toList) l s0 (λ i=>(listed.setIfInBounds j true).getD i false) n=yj (F (qW C.lo ops.toList) l s0 (λ i=>listed.getD i false) n) (yG o) y:=by rw [hset];exact hFn
    unfold wpOp
    rw [ho]
    simp only
    have next:∀ Γ' w' u ad',Ext Γ w Γ' w'→Inv Γ' (turn (F (qW C.lo ops.toList) l s0 (λ i=>listed.getD i false) n).σ y.2) w'→Rep Γ' y.1 u→qU (F (qW C.lo ops.toList) l s0 (λ i=>listed.getD i false) n).σ (turn (F (qW C.lo ops.toList) l s0 (λ i=>listed.getD i false) n).σ y.2) →
      qkc P Γ' w0 w' ops (λ i=>(listed.setIfInBounds j true).getD i false=true) (a.put o.dst u) ad'→wpAny P .any ops Q fuel (listed.setIfInBounds j true) (a.put o.dst u) w':=by
     intro Γ' w' u ad' e1 e2 e3 e4 e5
     refine ih (listed.setIfInBounds j true) Γ' w' (a.put o.dst u) ad' hsz' hct' hge' hd' ?_ ?_ e5 (Nat.le_trans hw0 e1.size) ?_
     ·rw [hF'];exact e2
     ·rw [hF']
      show RepL Γ' (qa8 _ (yG o).dst y.1) _
      rw [qow]
      exact zk.put (RepL.mono e1.le ht) o.dst e3
     ·intro fuel' listed' Γ2 w2 a2 ad2 g0 g0' g0'' q1 q2 g1 g2 g3 g3' g4 g5
      rw [hF'] at g4
      exact hq fuel' listed' Γ2 w2 a2 ad2 g0 g0' g0'' q1 q2 (e1.trans g1) g2 g3 g3' (e4.trans g4) (by rw [g5];cases hd:o.dst<;>rfl)
    cases hal:ya o with
    | false =>
      have hdo:yG o=o:=by unfold yG;rw [hal]
      have side:∀ Γ' w' u,Ext Γ w Γ' w'→qkc P Γ' w0 w' ops (λ i=>(listed.setIfInBounds j true).getD i false=true) (a.put o.dst u) ad := λ Γ' w' u he=>by
       have h0:=hs.step (d:=o.dst) (u:=u) he λ k q t hk' hq' hqa hqt=>by
        obtain ⟨_,d,hd1,hd2⟩:=hla k q hq' hqa
        rw [hqt] at hd1;cases hd1
        exact hd2 j o ho (by intro e;subst e;rw [ho] at hq';cases hq';rw [hal] at hqa;cases hqa)
       have conv:∀ k q,(listed.setIfInBounds j true).getD k false=true→ops[k]? = some q→ya q=true→listed.getD k false=true := λ k q h2 hq' hqa=>by
        rcases jW k h2 with rfl | h3
        ·rw [ho] at hq';cases hq';rw [hal] at hqa;cases hqa
        ·exact h3
       exact ⟨λ k q e d g1 g2 g3=>h0.blk k q e d (conv k q g1 g2 (by simp [ya,g3])) g2 g3,λ k q e d v g1 g2 g3=>h0.tmp k q e d v (conv k q g1 g2 (by simp [ya,g3])) g2 g3,λ k k' q q' g1 g2 g3 g4 g5 g6=>h0.inj k k' q q' (conv k q g1 g3 g5) (conv k' q' g2 g4 g6) g3 g4 g5 g6⟩
      rcases hy with ⟨hw,hop⟩ | ⟨hw,rfl⟩
      ·rw [if_pos (qhA ht (qmc hw))]
       left
       rw [hdo] at hop
       refine qDy hC hx hi ht hop _ _ ?_
       intro u w' Γ' e1 e2 e3 e4
       exact next Γ' w' u ad e1 e2 e3 e4 (side Γ' w' u e1)
      ·rw [if_neg (by rw [qhA ht (qmc hw)];exact Bool.false_ne_true)]
       exact next Γ w undef ad (.refl _ _) hi (.tup [] [] rfl λ i x u h=>by simp at h) (.refl _) (side Γ w undef (.refl _ _))
    | true =>
      obtain ⟨e,hoe⟩:=qhz hal
      obtain ⟨hgd,d,hdst,hun⟩:=hla j o ho hal
      have hy2:y=(.dead,none):=by
       rcases hy with ⟨hw,hop⟩ | ⟨hw,rfl⟩
       ·have:(yG o).op = .move (.global 0):=by unfold yG;rw [hal]
        rw [this] at hop
        simp only [opA,qb,aev,Option.some.injEq] at hop
        exact hop.symm
       ·have hw:=qmc hw
        unfold yq at hw
        rw [hgd] at hw;cases hw
      subst hy2
      have hwt:yq ops (F (qW C.lo ops.toList) l s0 (λ i=>listed.getD i false) n).tm o=some true:=by unfold yq;rw [hgd]
      rw [if_pos (qhA ht hwt)]
      left
      obtain ⟨td,htd,hzb⟩:=hz j o e (by omega) ho hoe
      have hb:Below w.heap.size w (w.alloc (.cells td.zero.toArray e)):=(Below.refl _ _).alloc (Nat.le_refl _) _
      unfold Oper.wp
      rw [qDY hoe htd]
      refine next Γ _ (.pointer (some ⟨w.heap.size,0,none⟩)) (λ k=>if k=j then w.heap.size else ad k) (qdS hb (Nat.le_refl _)) (hi.later hb) (.dead _) (.refl _) ?_
      have h0:=hs.step (d:=o.dst) (u := .pointer (some ⟨w.heap.size,0,none⟩)) (qdS (Γ := Γ) hb (Nat.le_refl _)) λ k q t hk' hq' hqa hqt=>by
       obtain ⟨_,d',hd1,hd2⟩:=hla k q hq' hqa
       rw [hqt] at hd1;cases hd1
       exact hd2 j o ho (by intro e;subst e;rw [hL] at hk';cases hk')
      have hfr:=hi.free (Nat.le_refl w.heap.size)
      have conv:∀ k,(listed.setIfInBounds j true).getD k false=true→k≠j→listed.getD k false=true := λ k h2 hne=>(jW k h2).resolve_left hne
      have hlt:∀ k q,listed.getD k false=true→ops[k]? = some q→ya q=true→ad k<w.heap.size := λ k q h2 h3 h4=>by
       obtain ⟨e',he'⟩:=qhz h4
       have hkn:k<n:=by
        apply Classical.byContradiction
        intro hno
        rw [hge k (by omega)] at h2;cases h2
       obtain ⟨td',ht1,ht2⟩:=hz k q e' (by omega) h3 he'
       exact (Array.getElem?_eq_some_iff.1 (hs.blk k q e' td' h2 h3 he' ht1 ht2).2.1).1
      refine ⟨λ k q e' d' g1 g2 g3 g4 g5=>?_,λ k q e' d' v g1 g2 g3 g4 g5=>?_,λ k k' q q' g1 g2 g3 g4 g5 g6 g7=>?_⟩
      ·by_cases hkj:k=j
       ·subst hkj
        rw [ho] at g2;cases g2
        rw [hoe] at g3;cases g3
        rw [htd] at g4;cases g4
        simp only [if_true]
        exact ⟨hw0,heap_alloc_new w _,hfr.1,hfr.2⟩
       ·simp only [if_neg hkj]
        exact h0.blk k q e' d' (conv k g1 hkj) g2 g3 g4 g5
      ·by_cases hkj:k=j
       ·subst hkj
        rw [ho] at g2;cases g2
        simp only [if_true]
        rw [g4] at g5
        have g5:(a.tmps.setIfInBounds d' (.pointer (some ⟨w.heap.size,0,none⟩)))[d']? = some v:=g5
        rw [Array.getElem?_setIfInBounds] at g5
        simp only [if_true] at g5
        split at g5<;>cases g5
        rfl
       ·simp only [if_neg hkj]
        exact h0.tmp k q e' d' v (conv k g1 hkj) g2 g3 g4 g5
      ·by_cases hkj:k=j
       ·by_cases hkj':k'=j
        ·rw [hkj,hkj']
        ·simp only [if_pos hkj,if_neg hkj'] at g7
         have:=hlt k' q' (conv k' g2 hkj') g4 g6
         omega
       ·by_cases hkj':k'=j
        ·simp only [if_neg hkj,if_pos hkj'] at g7
         have:=hlt k q (conv k g1 hkj) g3 g5
         omega
        ·simp only [if_neg hkj,if_neg hkj'] at g7
         exact hs.inj k k' q q' (conv k g1 hkj) (conv k' g2 hkj') g3 g4 g5 g6 g7
end
end Go.AmYtbpnmbmdbblehaaGreat
namespace Go.AmYtbpnmbmdbblehaaGreat
open Go Go.RowKit
section
variable {P:Program} {C:Cfg} {Γ : Gh} {σ : St} {w:World} {ops:Array Oper} {ex:QA} {l:List (AV × Option St)} {s0:S}
theorem qEH (h:Inv Γ σ w) {cs:List AV} {vs:List Value} {b:Nat} {e:TypeId} (hb:w.heap[b]? = some (.cells vs.toArray e (0,0))) (hno:¬ QP Γ b) (hm:∀ i,Γ.mem b i=none) (hr:RepL Γ cs vs) (h1:∀ u∈vs,u.oneCell'=true) :
  ∃ Γ',Le Γ Γ'∧(∀ c,QP Γ' c→QP Γ c∨c=b) ∧ Γ'.mem = Γ.mem∧Inv Γ' { σ with bx := σ.bx++[cs] } w∧Rep Γ' (.ptr σ.bx.length 0) (.pointer (some ⟨b,0,none⟩)):=by
 let Γ':Gh:={ Γ with nb := Γ.nb+1,β := λ i=>if i = Γ.nb then b else Γ.β i }
 have hβ : ∀ i,i < Γ.nb → Γ'.β i = Γ.β i := λ i hi=>if_neg (by omega)
 have hβn : Γ'.β Γ.nb=b:=if_pos rfl
 have hle:Le Γ Γ':=⟨λ _ _ _ h=>h,Nat.le_succ _,hβ,Nat.le_refl _,λ _ _=>rfl,λ _ _=>Nat.le_refl _,λ _ _ _=>⟨rfl,rfl,rfl⟩⟩
 refine ⟨Γ',hle,?_,rfl,⟨?_,h.nr,h.mem,?_,?_,?_,?_,h.apart⟩,?_⟩
 ·rintro c (⟨i,hi,rfl⟩ | ho)
  ·have hi:i < Γ.nb+1:=hi
   by_cases hin:i = Γ.nb
   ·right;rw [hin,hβn]
   ·left;left;exact ⟨i,by omega,(hβ i (by omega)).symm⟩
  ·exact .inl (.inr ho)
 ·show Γ.nb+1=(σ.bx++[cs]).length
  simp [h.nb]
 ·intro i cs' hi
  rw [List.getElem?_append] at hi
  split at hi
  ·rename_i hlt
   exact (h.box i cs' hi).lift (by rw [h.nb];exact hlt) hle λ o ho=>ho
  ·rename_i hlt
   have hi0:i - σ.bx.length=0:=by
    have:=getElem?_lt hi
    simp at this;omega
   rw [hi0] at hi
   simp at hi
   subst hi
   have hie:i = Γ.nb:=by rw [h.nb];omega
   refine ⟨vs.toArray,e,?_,by simpa using hr.mono hle,by simpa using h1⟩
   rw [hie,hβn]
   exact hb
 ·intro i j hi hj he
  have hi':i < Γ.nb+1:=hi
  have hj':j < Γ.nb+1:=hj
  by_cases hin:i = Γ.nb<;>by_cases hjn:j = Γ.nb
  ·rw [hin,hjn]
  ·rw [hin,hβn,hβ j (by omega)] at he
   exact (hno (.inl ⟨j,by omega,he.symm⟩)).elim
  ·rw [hjn,hβn,hβ i (by omega)] at he
   exact (hno (.inl ⟨i,by omega,he⟩)).elim
  ·rw [hβ i (by omega),hβ j (by omega)] at he
   exact h.inj i j (by omega) (by omega) he
 ·intro i hi o
  have hi':i < Γ.nb+1:=hi
  by_cases hin:i = Γ.nb
  ·rw [hin,hβn];exact hm o
  ·rw [hβ i (by omega)];exact h.boxmem i (by omega) o
 ·intro r R hr'
  have hrn:r < Γ.nr:=by rw [h.nr];exact getElem?_lt hr'
  refine (h.row r R hr').lift hrn hle rfl (λ _ ob ho=>ho) (λ _ _ hm=>hm) λ hz i hi hn he=>?_
  have hi':i < Γ.nb+1:=hi
  have hin:i = Γ.nb:=by omega
  rw [hin,hβn] at he
  exact hno (.inr ⟨r,hrn,hz,he.symm⟩)
 ·rw [← hβn,h.nb]
  exact .ptr _ _ (by show σ.bx.length < Γ.nb+1;rw [h.nb];omega)
theorem qkO {lo:Nat→Bool}:∀ {l:List Oper} {k:Nat} {o:Oper},k<Jf lo l→l[k]? = some o→yX lo o.op=false
 | [],k,o,h,_=>by simp [Jf] at h
 | q::l,k,o,h,ho=>by
   unfold Jf at h
   split at h
   ·omega
   ·rename_i hq
    cases k with
    | zero=>cases ho;exact hq
    | succ k=>exact qkO (l:=l) (k:=k) (by omega) (by simpa using ho)
def idA (nb:Nat) (ops:Array Oper) (k:Nat):Nat:=nb+(ops.toList.take k).countP ya
theorem qmS {nb k:Nat} {o:Oper} (ho:ops[k]? = some o):idA nb ops (k+1)=idA nb ops k+(if ya o then 1 else 0):=by
 unfold idA
 have hk:k<ops.toList.length:=by have:=(Array.getElem?_eq_some_iff.1 ho).1;simpa using this
 have:ops.toList.take (k+1)=ops.toList.take k++[o]:=by
  rw [List.take_add_one,show ops.toList[k]? = some o by simpa using ho];rfl
 rw [this,List.countP_append,List.countP_singleton]
 omega
def qCq (ops:Array Oper) (P:Nat→Prop) (nb:Nat) (tm tm':List AV):Prop :=
 tm'.length=tm.length∧∀ t,(∀ (k:Nat) (o:Oper),P k→ops[k]? = some o→ya o=true→o.dst=some t→tm'.getD t .dead=if t<tm.length then .ptr (idA nb ops k) 0 else .dead) ∧
  ((∀ (k:Nat) (o:Oper),P k→ops[k]? = some o→ya o=true→o.dst≠some t)→tm'.getD t .dead=tm.getD t .dead)
theorem qj3 (tm:List AV) (d t:Nat) (x:AV):(tm.set d x).getD t .dead=if d=t then (if t<tm.length then x else .dead) else tm.getD t .dead:=by
 rw [List.getD_eq_getElem?_getD,List.getElem?_set]
 by_cases h:d=t
 ·rw [if_pos h,if_pos h];subst h;split<;>rfl
 ·rw [if_neg h,if_neg h,List.getD_eq_getElem?_getD]
theorem qmg {n nb:Nat} (hla:∀ (j:Nat) (o:Oper),ops[j]? = some o→ya o=true→o.guard=none∧∃ d,o.dst=some d∧∀ (k:Nat) (q:Oper),ops[k]? = some q→k≠j→q.dst≠some d):∀ (rest:List Oper) (i:Nat) (s s':S),(∀ (j:Nat) (o:Oper),rest[j]? = some o→i+j<n∧ops[i+j]? = some o)→i+rest.length=n→zB C ex ops false (rest.filter ya) s=some s'→s.σ.bx.length=idA nb ops i →
  qCq ops (λ k=>i≤k∧k<n) nb s.tm s'.tm
 | [],i,s,s',_,hn,h,_=>by
   simp only [List.filter_nil,zB,Option.some.injEq] at h
   subst h
   simp at hn
   exact ⟨rfl,λ t=>⟨λ k o hk=>by omega,λ _=>rfl⟩⟩
 | o::rest,i,s,s',hr,hn,h,hb=>by
   obtain ⟨hin,hoi⟩:=hr 0 o rfl
   have hoi:ops[i]? = some o:=by simpa using hoi
   have hr':∀ (j:Nat) (q:Oper),rest[j]? = some q→i+1+j<n∧ops[i+1+j]? = some q := λ j q hq=>by
    have:=hr (j+1) q hq
    rw [show i+1+j=i+(j+1) by omega];exact this
   have hn':i+1+rest.length=n:=by rw [← hn];simp;omega
   cases hal:ya o with
   | false =>
     rw [List.filter_cons_of_neg (by rw [hal];exact Bool.false_ne_true)] at h
     obtain ⟨h1,h2⟩:=qmg hla rest (i+1) s s' hr' hn' h (by rw [qmS hoi,hal];exact hb)
     refine ⟨h1,λ t=>⟨λ k q hk hq ha hd=>(h2 t).1 k q ⟨?_,hk.2⟩ hq ha hd,λ hno=>(h2 t).2 λ k q hk=>hno k q ⟨by omega,hk.2⟩⟩⟩
     apply Classical.byContradiction
     intro hlt
     have:k=i:=by omega
     subst this
     rw [hoi] at hq;cases hq
     rw [hal] at ha;cases ha
   | true =>
     rw [List.filter_cons_of_pos hal] at h
     obtain ⟨e,hoe⟩:=qhz hal
     obtain ⟨hgd,d,hdst,hun⟩:=hla i o hoi hal
     simp only [zB] at h
     have hw:yq ops s.tm o=some true:=by unfold yq;rw [hgd]
     rw [hw] at h
     simp only [hoe,opA,qb] at h
     cases hd:C.ty e with
     | none=>rw [hd] at h;cases h
     | some td =>
       rw [hd] at h
       simp only at h
       cases hz:td.zero.all z8 with
       | false=>rw [hz] at h;cases h
       | true =>
         rw [hz] at h
         simp only [Bool.false_and] at h
         obtain ⟨h1,h2⟩:=qmg hla rest (i+1) _ s' hr' hn' h (by show (s.σ.bx++[_]).length=_;rw [qmS hoi,hal,List.length_append,hb];rfl)
         rw [hdst] at h1 h2
         have hlen:(qa8 s.tm (some d) (.ptr s.σ.bx.length 0)).length=s.tm.length:=List.length_set ..
         have hget:∀ t,(qa8 s.tm (some d) (.ptr s.σ.bx.length 0)).getD t .dead=if d=t then (if t<s.tm.length then .ptr s.σ.bx.length 0 else .dead) else s.tm.getD t .dead := λ t=>qj3 s.tm d t _
         refine ⟨h1.trans hlen,λ t=>⟨λ k q hk hq ha hqd=>?_,λ hno=>?_⟩⟩
         ·by_cases hki:k=i
          ·subst hki
           rw [hoi] at hq;cases hq
           rw [hdst] at hqd;cases hqd
           rw [(h2 d).2 λ k' q' hk' hq' _=>hun k' q' hq' (by omega),hget,if_pos rfl,hb]
          ·rw [(h2 t).1 k q ⟨by omega,hk.2⟩ hq ha hqd,hlen]
         ·have hdt:d≠t := λ he=>hno i o ⟨Nat.le_refl _,by omega⟩ hoi hal (by rw [hdst,he])
          rw [(h2 t).2 λ k q hk=>hno k q ⟨by omega,hk.2⟩,hget,if_neg hdt]
theorem qoi (hC:yr P C) {n nb:Nat} {Γ0:Gh} {w0:World} {a:Act} {ad:Nat→Nat}:∀ (rest:List Oper) (i:Nat) (s s':S) (σ : St) (Γ : Gh),(∀ (j:Nat) (o:Oper),rest[j]? = some o→i+j<n∧ops[i+j]? = some o)→i+rest.length=n→zB C ex ops false (rest.filter ya) s=some s' →
  (∀ (j:Nat) (o:Oper),ops[j]? = some o→ya o=true→o.guard=none)→s.σ = σ → s.σ.bx.length=idA nb ops i→Inv Γ σ w→qkc P Γ w0 w ops (λ k=>i≤k∧k<n) a ad→Ext Γ0 w0 Γ w →
  ∃ Γ',Le Γ Γ'∧Ext Γ0 w0 Γ' w∧Inv Γ' s'.σ w∧qU σ s'.σ ∧ ∀ (k:Nat) (o:Oper),i≤k→k<n→ops[k]? = some o→ya o=true→Rep Γ' (.ptr (idA nb ops k) 0) (.pointer (some ⟨ad k,0,none⟩))
 | [],i,s,s',σ,Γ,_,hn,h,_,hσ,_,hi,hs,he=>by
   simp only [List.filter_nil,zB,Option.some.injEq] at h
   subst h
   simp at hn
   exact ⟨Γ,.refl Γ,he,by rw [hσ];exact hi,by rw [hσ];exact .refl _,λ k o h1 h2=>by omega⟩
 | o::rest,i,s,s',σ,Γ,hr,hn,h,hg,hσ,hb,hi,hs,he=>by
   obtain ⟨hin,hoi⟩:=hr 0 o rfl
   have hoi:ops[i]? = some o:=by simpa using hoi
   have hr':∀ (j:Nat) (q:Oper),rest[j]? = some q→i+1+j<n∧ops[i+1+j]? = some q := λ j q hq=>by
    have:=hr (j+1) q hq
    rw [show i+1+j=i+(j+1) by omega];exact this
   have hn':i+1+rest.length=n:=by rw [← hn];simp;omega
   have hs':qkc P Γ w0 w ops (λ k=>i+1≤k∧k<n) a ad:=⟨λ k o e d h1=>hs.blk k o e d ⟨by omega,h1.2⟩,λ k o e d u h1=>hs.tmp k o e d u ⟨by omega,h1.2⟩,λ k k' o o' h1 h2=>hs.inj k k' o o' ⟨by omega,h1.2⟩ ⟨by omega,h2.2⟩⟩
   cases hal:ya o with
   | false =>
     rw [List.filter_cons_of_neg (by rw [hal];exact Bool.false_ne_true)] at h
     obtain ⟨Γ',g0,g1,g2,g3,g4⟩:=qoi hC rest (i+1) s s' σ Γ hr' hn' h hg hσ (by rw [qmS hoi,hal];exact hb) hi hs' he
     refine ⟨Γ',g0,g1,g2,g3,λ k q h1 h2 hq ha=>g4 k q ?_ h2 hq ha⟩
     apply Classical.byContradiction
     intro hlt
     have:k=i:=by omega
     subst this
     rw [hoi] at hq;cases hq
     rw [hal] at ha;cases ha
   | true =>
     rw [List.filter_cons_of_pos hal] at h
     obtain ⟨e,hoe⟩:=qhz hal
     simp only [zB] at h
     have hw:yq ops s.tm o=some true:=by unfold yq;rw [hg i o hoi hal]
     rw [hw] at h
     simp only [hoe,opA,qb] at h
     cases hd:C.ty e with
     | none=>rw [hd] at h;cases h
     | some d =>
       rw [hd] at h
       simp only at h
       cases hz:d.zero.all z8 with
       | false=>rw [hz] at h;cases h
       | true =>
         rw [hz] at h
         simp only [Bool.false_and] at h
         have htd:=hC.ty e d hd
         obtain ⟨g1,g2,g3,g4⟩:=hs.blk i o e d ⟨Nat.le_refl _,by omega⟩ hoi hoe htd hz
         obtain ⟨b1,b2⟩:=qfS (Γ := Γ) hz
         obtain ⟨Γ1,a1,a2,a3,a4,a5⟩:=qEH hi g2 g3 g4 b1 b2
         have he1:Ext Γ0 w0 Γ1 w:=⟨he.le.trans a1,he.os,he.tape,he.output,he.size,he.block,λ c hc=>by
          rcases a2 c hc with hc | rfl
          ·exact he.own c hc
          ·exact .inr g1,λ b o u hm=>by rw [a3] at hm;exact he.memg b o u hm,he.drawn⟩
         have hs1:qkc P Γ1 w0 w ops (λ k=>i+1≤k∧k<n) a ad:=⟨λ k q e' d' h1 h2 h3 h4 h5=>by
          obtain ⟨q1,q2,q3,q4⟩:=hs'.blk k q e' d' h1 h2 h3 h4 h5
          refine ⟨q1,q2,λ ho=>?_,λ j=>by rw [a3];exact q4 j⟩
          rcases a2 _ ho with ho | ho
          ·exact q3 ho
          ·have:=hs.inj k i q o ⟨by omega,h1.2⟩ ⟨Nat.le_refl _,by omega⟩ h2 hoi (by simp [ya,h3]) hal ho
           omega,hs'.tmp,hs'.inj⟩
         obtain ⟨Γ2,c0,c1,c2,c3,c4⟩:=qoi hC rest (i+1) _ s' { σ with bx := σ.bx++[d.zero.map .v] } Γ1 hr' hn' h hg (by simp only;rw [hσ]) (by show (s.σ.bx++[_]).length=_;rw [qmS hoi,hal,List.length_append,hb];rfl) a4 hs1 he1
         have hk0:qU σ { σ with bx := σ.bx++[d.zero.map .v] }:=⟨by simp,Nat.le_refl _,λ j hj _=>by simp only [List.getElem?_append_left hj],λ _ _ _=>rfl,λ _ h=>h,λ _ h=>h⟩
         refine ⟨Γ2,a1.trans c0,c1,c2,hk0.trans c3,λ k q h1 h2 hq ha=>?_⟩
         by_cases hki:k=i
         ·subst hki
          rw [← hb,hσ]
          exact a5.mono c0
         ·exact c4 k q (by omega) h2 hq ha
theorem qqu {s':S}:∀ (rest:List Oper) (s:S),zB C ex ops false (rest.filter ya) s=some s'→(∀ o∈rest,ya o=true→o.guard=none)→∀ o∈rest,∀ e,o.op = .alloc e→∃ d,C.ty e=some d∧d.zero.all z8=true
 | [],_,_,_,o,ho,_,_=>by cases ho
 | q::rest,s,h,hg,o,ho,e,hoe=>by
   cases hal:ya q with
   | false =>
     rw [List.filter_cons_of_neg (by rw [hal];exact Bool.false_ne_true)] at h
     rcases List.mem_cons.1 ho with rfl | ho
     ·simp [ya,hoe] at hal
     ·exact qqu rest s h (λ o ho=>hg o (List.mem_cons_of_mem _ ho)) o ho e hoe
   | true =>
     rw [List.filter_cons_of_pos hal] at h
     obtain ⟨e',hqe⟩:=qhz hal
     simp only [zB] at h
     have hw:yq ops s.tm q=some true:=by unfold yq;rw [hg q (List.mem_cons_self ..) hal]
     rw [hw] at h
     simp only [hqe,opA,qb] at h
     cases hd:C.ty e' with
     | none=>rw [hd] at h;cases h
     | some d =>
       rw [hd] at h
       simp only at h
       cases hz:d.zero.all z8 with
       | false=>rw [hz] at h;cases h
       | true =>
         rw [hz] at h
         simp only [Bool.false_and] at h
         rcases List.mem_cons.1 ho with rfl | ho
         ·rw [hqe] at hoe;cases hoe;exact ⟨d,hd,hz⟩
         ·exact qqu rest _ h (λ o ho=>hg o (List.mem_cons_of_mem _ ho)) o ho e hoe
theorem qEW {lB:List (AV × Option St)} {s0B:S} {L:Nat→Bool} {n:Nat} (h:∀ i,n≤i→L i=false):∀ m,F ops.toList lB s0B L (n+m)=F ops.toList lB s0B L n
 | 0=>rfl
 | m+1=>by
   show F ops.toList lB s0B L (n+m+1)=_
   simp only [F]
   rw [h (n+m) (by omega)]
   split
   ·rename_i hf;cases hf
   ·exact qEW h m
def qoT (ops:Array Oper) (n nb:Nat) (lA lS:List (AV × Option St)):List (AV × Option St) :=
 (List.range n).map (λ k=>match ops[k]? with
  | some o=>match ya o with
    | true=>(AV.ptr (idA nb ops k) 0,none)
    | false=>lA.getD k (.dead,none)
  | none=>(.dead,none))++lS
theorem qmF {n nb k:Nat} {lA lS:List (AV × Option St)} {o:Oper} (hk:k<n) (ho:ops[k]? = some o):(qoT ops n nb lA lS)[k]? = some (match ya o with
  | true=>(AV.ptr (idA nb ops k) 0,none)
  | false=>lA.getD k (.dead,none)):=by
 unfold qoT
 rw [List.getElem?_append_left (by simpa using hk),List.getElem?_map,List.getElem?_range hk]
 simp only [Option.map_some,ho]
theorem qrb {n nb k:Nat} {lA lS:List (AV × Option St)}:(qoT ops n nb lA lS)[n+k]? = lS[k]? := by
 unfold qoT
 rw [List.getElem?_append_right (by simp)]
 simp
theorem qBx {n nb:Nat} {lA lS:List (AV × Option St)} {s0 s0B:S} (htm:s0B.tm=s0.tm) (hn:n=Jf C.lo ops.toList) (hA:qo0 C ⟨qW C.lo ops.toList⟩ lA) (hla:∀ (j:Nat) (o:Oper),ops[j]? = some o→ya o=true→o.guard=none∧∃ d,o.dst=some d∧∀ (k:Nat) (q:Oper),ops[k]? = some q→k≠j→q.dst≠some d)
  (L:Nat→Bool):∀ k,k≤n→qCq ops (λ i=>i<k∧L i=true) nb (F (qW C.lo ops.toList) lA s0 L k).tm (F ops.toList (qoT ops n nb lA lS) s0B L k).tm
 | 0,_=>⟨by show s0B.tm.length=s0.tm.length;rw [htm],λ t=>⟨λ k o hk=>by omega,λ _=>by show s0B.tm.getD t _=s0.tm.getD t _;rw [htm]⟩⟩
 | k+1,hk=>by
   obtain ⟨h1,h2⟩:=qBx (lS:=lS) htm hn hA hla L k (by omega)
   have hcut:Jf C.lo ops.toList≤ops.size:=by simpa using qji C.lo ops.toList
   obtain ⟨o,ho⟩:=jq (ops:=ops) (k:=k) (by omega)
   have hoL:ops.toList[k]? = some o:=by simpa using ho
   have hpk:(qW C.lo ops.toList)[k]? = some (yG o):=by rw [qhu (by omega),hoL];rfl
   obtain ⟨y,hy,_⟩:=hA k (yG o) (by simpa using hpk)
   have hB:=qmF (n:=n) (nb:=nb) (lA:=lA) (lS:=lS) (k:=k) (by omega) ho
   simp only [F,hpk,hy,hoL,hB]
   cases hLk:L k with
   | false =>
     refine ⟨h1,λ t=>⟨λ i q hi=>(h2 t).1 i q ⟨?_,hi.2⟩,λ hno=>(h2 t).2 λ i q hi=>hno i q ⟨by omega,hi.2⟩⟩⟩
     apply Classical.byContradiction
     intro hlt
     have:i=k:=by omega
     subst this
     rw [hLk] at hi;exact Bool.false_ne_true hi.2
   | true =>
     simp only [yj,qow]
     cases hal:ya o with
     | true =>
       obtain ⟨_,d,hd,hun⟩:=hla k o ho hal
       simp only [hd,qa8]
       refine ⟨by rw [List.length_set,List.length_set,h1],λ t=>⟨λ i q hi hq ha hqd=>?_,λ hno=>?_⟩⟩
       ·rw [qj3,List.length_set]
        by_cases hik:i=k
        ·subst hik
         rw [ho] at hq;cases hq
         rw [hd] at hqd;cases hqd
         rw [if_pos rfl,h1]
        ·have hdt:d≠t := λ he=>hun i q hq hik (by rw [hqd,he])
         rw [if_neg hdt]
         exact (h2 t).1 i q ⟨by omega,hi.2⟩ hq ha hqd
       ·have hdt:d≠t := λ he=>hno k o ⟨by omega,hLk⟩ ho hal (by rw [hd,he])
        rw [qj3,if_neg hdt,qj3,if_neg hdt]
        exact (h2 t).2 λ i q hi=>hno i q ⟨by omega,hi.2⟩
     | false =>
       have hyB:lA.getD k (.dead,none)=y:=by rw [List.getD_eq_getElem?_getD,hy];rfl
       rw [hyB]
       cases hd:o.dst with
       | none =>
         refine ⟨h1,λ t=>⟨λ i q hi hq ha hqd=>(h2 t).1 i q ⟨?_,hi.2⟩ hq ha hqd,λ hno=>(h2 t).2 λ i q hi=>hno i q ⟨by omega,hi.2⟩⟩⟩
         apply Classical.byContradiction
         intro hlt
         have:i=k:=by omega
         subst this
         rw [ho] at hq;cases hq
         rw [hal] at ha;cases ha
       | some d =>
         simp only [qa8]
         refine ⟨by rw [List.length_set,List.length_set,h1],λ t=>⟨λ i q hi hq ha hqd=>?_,λ hno=>?_⟩⟩
         ·have hik:i≠k := λ he=>by subst he;rw [ho] at hq;cases hq;rw [hal] at ha;cases ha
          obtain ⟨_,d',hd',hun⟩:=hla i q hq ha
          rw [hqd] at hd';cases hd'
          have hdt:d≠t := λ he=>hun k o ho (Ne.symm hik) (by rw [hd,he])
          rw [qj3,if_neg hdt,List.length_set]
          exact (h2 t).1 i q ⟨by omega,hi.2⟩ hq ha hqd
         ·rw [qj3,qj3,h1]
          split
          ·rfl
          ·exact (h2 t).2 λ i q hi=>hno i q ⟨by omega,hi.2⟩
theorem qho {n:Nat} {lB:List (AV × Option St)} {s0B:S} {L:Nat→Bool} (h:∀ k y,k<n→lB[k]? = some y→y.2=none):∀ k,k≤n→(F ops.toList lB s0B L k).σ = s0B.σ
 | 0,_=>rfl
 | k+1,hk=>by
   simp only [F]
   split
   ·rename_i o y _ hy _
    rw [putS_σ _ _ _ (h k y (by omega) hy)]
    exact qho h k (by omega)
   ·exact qho h k (by omega)
theorem recB_σ {n nb:Nat} {lA lS:List (AV × Option St)} (hn:n=Jf C.lo ops.toList) (hA:qo0 C ⟨qW C.lo ops.toList⟩ lA):∀ k y,k<n→(qoT ops n nb lA lS)[k]? = some y→y.2=none:=by
 intro k y hk hy
 have hcut:Jf C.lo ops.toList≤ops.size:=by simpa using qji C.lo ops.toList
 obtain ⟨o,ho⟩:=jq (ops:=ops) (k:=k) (by omega)
 have hoL:ops.toList[k]? = some o:=by simpa using ho
 rw [qmF hk ho] at hy
 cases hal:ya o with
 | true=>rw [hal] at hy;cases hy;rfl
 | false =>
   rw [hal] at hy
   have hpk:(qW C.lo ops.toList)[k]? = some (yG o):=by rw [qhu (by omega),hoL];rfl
   obtain ⟨z,hz,hlz⟩:=hA k (yG o) (by simpa using hpk)
   simp only [List.getD_eq_getElem?_getD,hz,Option.getD_some,Option.some.injEq] at hy
   subst hy
   have hdo:yG o=o:=by unfold yG;rw [hal]
   rw [hdo,qkO (by omega) hoL] at hlz
   cases hz2:z.2 with
   | none=>rfl
   | some σ'=>rw [hz2] at hlz;exact absurd (hlz rfl) Bool.false_ne_true
theorem lA_σ {n:Nat} {lA:List (AV × Option St)} (hn:n=Jf C.lo ops.toList) (hA:qo0 C ⟨qW C.lo ops.toList⟩ lA):∀ k y,k<n→lA[k]? = some y→y.2=none:=by
 intro k y hk hy
 have hcut:Jf C.lo ops.toList≤ops.size:=by simpa using qji C.lo ops.toList
 obtain ⟨o,ho⟩:=jq (ops:=ops) (k:=k) (by omega)
 have hoL:ops.toList[k]? = some o:=by simpa using ho
 have hpk:(qW C.lo ops.toList)[k]? = some (yG o):=by rw [qhu (by omega),hoL];rfl
 obtain ⟨z,hz,hlz⟩:=hA k (yG o) (by simpa using hpk)
 rw [hy] at hz;cases hz
 have hq:yX C.lo (yG o).op=false:=by
  unfold yG
  split
  ·rfl
  ·exact qkO (by omega) hoL
 rw [hq] at hlz
 cases hz2:y.2 with
 | none=>rfl
 | some σ'=>rw [hz2] at hlz;exact absurd (hlz rfl) Bool.false_ne_true
theorem qCD (hC:yr P C) (hx:qcK P ex) {id:Nat} {s s1 s2 s':S} (hlate:qhU C.lo ops.toList=true) (hk0:qaZ C.lo s.tm ops true=true) (hk:qaZ C.lo s.tm ⟨qW C.lo ops.toList⟩ true=true) (h:zB C ex ⟨qW C.lo ops.toList⟩ true (qW C.lo ops.toList) s=some s1) (hm:zB C ex ops false (alL C.lo ops.toList) s1=some s2) (h':zB C ex ops true (qnR C.lo ops.toList) s2=some s') {a:Act} {Q:Exit→Act→World→Prop} (hi:Inv Γ s.σ w) (ht:zk Γ s.tm a)
  (hq:∀ Γ' w' a',Ext Γ w Γ' w'→Inv Γ' s'.σ w'→zk Γ' s'.tm a'→qU s.σ s'.σ → a'.defers=a.defers→Q .normal a' w'):(Code.region id ops true).wp P Q a w:=by
 obtain ⟨lA,h1,h2,h3⟩:=qhZ (qW C.lo ops.toList) s s1 h
 obtain ⟨lS,e1,e2,e3⟩:=qhZ (qnR C.lo ops.toList) s2 s' h'
 have hT:qgY C ex ⟨qW C.lo ops.toList⟩ lA s := λ i o ho=>h3 i o (by simpa using ho)
 rw [qrL] at h2
 have hk:qaY C.lo s.tm ⟨qW C.lo ops.toList⟩=true:=hk
 have hk0:qaY C.lo s.tm ops=true:=hk0
 obtain ⟨hlp,hlm,hla⟩:=qvX hlate
 generalize hn:Jf C.lo ops.toList=n at h2 hlm
 have hcut:n≤ops.size:=by rw [← hn];simpa using qji C.lo ops.toList
 have hg:∀ (j:Nat) (o:Oper),ops[j]? = some o→ya o=true→o.guard=none := λ j o ho ha=>(hla j o ho ha).1
 have htk:∀ (j:Nat) (o:Oper),(ops.toList.take n)[j]? = some o→0+j<n∧ops[0+j]? = some o := λ j o ho=>by
  rw [Nat.zero_add]
  rw [List.getElem?_take] at ho
  split at ho
  ·exact ⟨‹_›,by simpa using ho⟩
  ·cases ho
 have htl:0+(ops.toList.take n).length=n:=by simp;omega
 have hm:zB C ex ops false ((ops.toList.take n).filter ya) s1=some s2:=by rw [← hn];exact hm
 have hsuf:qnR C.lo ops.toList=ops.toList.drop n:=by unfold qnR;rw [hn]
 rw [hsuf] at e1 e2 e3
 have hz:∀ k o e,k<Jf C.lo ops.toList→ops[k]? = some o→o.op = .alloc e→∃ d,jn P e=some d∧d.zero.all z8=true := λ k o e hk ho hoe=>by
  rw [hn] at hk
  have hmem:o∈ops.toList.take n:=List.mem_of_getElem? (i:=k) (by rw [List.getElem?_take,if_pos hk];simpa using ho)
  obtain ⟨d,g1,g2⟩:=qqu _ s1 hm (λ q hq hqa=>by
   obtain ⟨j,hj⟩:=List.getElem?_of_mem hq
   exact hg (0+j) q (htk j q hj).2 hqa) o hmem e hoe
  exact ⟨d,hC.ty e d g1,g2⟩
 have hs1σ : ∀ L k,k≤n→(F (qW C.lo ops.toList) lA s L k).σ = s.σ := λ L k hkn=>qho (ops:=⟨qW C.lo ops.toList⟩) (lA_σ hn.symm hT.recd) k hkn
 have hF0:∀ k,F (qW C.lo ops.toList) lA s (λ i=>(Array.replicate ops.size false).getD i false) k=s:=by
  intro k
  induction k with
  | zero=>rfl
  | succ k ih =>
    simp only [F]
    have:(Array.replicate ops.size false).getD k false=false:=by
     rw [Array.getD_eq_getD_getElem?,Array.getElem?_replicate];split<;>rfl
    rw [this]
    split
    ·rename_i hf;cases hf
    ·exact ih
 have hnone:∀ i,(Array.replicate ops.size false).getD i false=false := λ i=>by
  rw [Array.getD_eq_getD_getElem?,Array.getElem?_replicate];split<;>rfl
 have hs1:s1.σ = s.σ := by rw [← h2];exact hs1σ _ _ (Nat.le_refl _)
 let nb:=s.σ.bx.length
 have hid0:s1.σ.bx.length=idA nb ops 0:=by rw [hs1];rfl
 let lB:=qoT ops n nb lA lS
 let s0B:S:=⟨s.tm,s2.σ⟩
 have hBσ : ∀ k y,k<n→lB[k]? = some y→y.2=none:=recB_σ hn.symm hT.recd
 have hbx:∀ L k,k≤n→qCq ops (λ i=>i<k∧L i=true) nb (F (qW C.lo ops.toList) lA s L k).tm (F ops.toList lB s0B L k).tm:=qBx rfl hn.symm hT.recd hla
 have hs2:F ops.toList lB s0B qM n=s2:=by
  have hr:=qmg (nb:=nb) hla (ops.toList.take n) 0 s1 s2 htk htl hm hid0
  have hb:=hbx qM n (Nat.le_refl _)
  rw [h2] at hb
  have hσ : (F ops.toList lB s0B qM n).σ = s2.σ := qho hBσ n (Nat.le_refl _)
  have htm:(F ops.toList lB s0B qM n).tm=s2.tm:=by
   have hlen:(F ops.toList lB s0B qM n).tm.length=s2.tm.length:=by rw [hb.1,hr.1]
   have hget:∀ t,(F ops.toList lB s0B qM n).tm.getD t .dead=s2.tm.getD t .dead := λ t=>by
    by_cases hex:∃ (k:Nat) (o:Oper),k<n∧ops[k]? = some o∧ya o=true∧o.dst=some t
    ·obtain ⟨k,o,q1,q2,q3,q4⟩:=hex
     rw [(hb.2 t).1 k o ⟨q1,rfl⟩ q2 q3 q4,(hr.2 t).1 k o ⟨Nat.zero_le _,q1⟩ q2 q3 q4]
    ·rw [(hb.2 t).2 λ k o hk q2 q3 q4=>hex ⟨k,o,hk.1,q2,q3,q4⟩,(hr.2 t).2 λ k o hk q2 q3 q4=>hex ⟨k,o,hk.2,q2,q3,q4⟩]
   apply List.ext_getElem hlen
   intro i g1 g2
   have:=hget i
   rw [List.getD_eq_getElem?_getD,List.getD_eq_getElem?_getD,List.getElem?_eq_getElem g1,List.getElem?_eq_getElem g2] at this
   exact this
  show F ops.toList lB s0B qM n=s2
  generalize F ops.toList lB s0B qM n=z at *
  obtain ⟨z1,z2⟩:=z
  obtain ⟨q1,q2⟩:=s2
  simp only at hσ htm
  rw [hσ,htm]
 have hsufF:∀ i,i≤(ops.toList.drop n).length→F ops.toList lB s0B qM (n+i)=F (ops.toList.drop n) lS s2 qM i:=by
  intro i
  induction i with
  | zero=>intro _;exact hs2
  | succ i ih =>
    intro hle
    show F ops.toList lB s0B qM (n+i+1)=_
    have hl:lB[n+i]? = lS[i]? := qrb
    simp only [F,List.getElem?_drop,hl,ih (by omega)]
    rfl
 have hlen:n+(ops.toList.drop n).length=ops.size:=by simp;omega
 have hend:F ops.toList lB s0B qM ops.size=s':=by rw [← hlen,hsufF _ (Nat.le_refl _)];exact e2
 have hRec:qo0 C ops lB:=by
  intro i o ho
  have his:i<ops.size:=(Array.getElem?_eq_some_iff.1 ho).1
  by_cases hin:i<n
  ·have hy:=qmF (nb:=nb) (lA:=lA) (lS:=lS) hin ho
   exact ⟨_,hy,λ hs=>by rw [hBσ i _ hin hy] at hs;cases hs⟩
  ·obtain ⟨j,rfl⟩:∃ j,i=n+j:=⟨i-n,by omega⟩
   obtain ⟨y,g1,_,g3⟩:=e3 j o (by rw [List.getElem?_drop];simpa using ho)
   exact ⟨y,by rw [← g1];exact qrb,g3⟩
 have hstep:∀ (L:Nat→Bool) (j:Nat) (o:Oper),qdV ops L→(∀ (i:Nat) (q:Oper),i<n→ops[i]? = some q→qds ops.toList q=false→L i=true)→ops[j]? = some o→L j=false→(∀ e∈jk o,L e=true) →
   ∃ y,qcl C ex ops o (F ops.toList lB s0B L ops.size) y∧F ops.toList lB s0B (λ i=>decide (i=j)||L i) ops.size=yj (F ops.toList lB s0B L ops.size) o y:=by
  intro L j o hd hgood ho hL hp
  have hjs:j<ops.size:=(Array.getElem?_eq_some_iff.1 ho).1
  obtain ⟨y,hy,hly⟩:=hRec j o ho
  refine ⟨y,?_,qCo (s0:=s0B) hRec hk0 hd ho hL hp hy hly⟩
  have hslot:∀ t∈qei ops o,(F ops.toList lB s0B L ops.size).tm.getD t .dead=(F ops.toList lB s0B qM j).tm.getD t .dead := λ t ht=>qnW (s0:=s0B) hRec hk0 hd ho hL hp ht
  by_cases hjn:j<n
  ·-- it qei at no memory
   have hf:qds ops.toList o=true:=by
    cases hf:qds ops.toList o with
    | true=>rfl
    | false=>rw [hgood j o hjn ho hf] at hL;cases hL
   unfold qds at hf
   simp only [Bool.and_eq_true,Bool.not_eq_true',List.all_eq_true,Bool.or_eq_true] at hf
   obtain ⟨f1,f2,f3⟩:=hf
   have hoL:ops.toList[j]? = some o:=by simpa using ho
   have hpk:(qW C.lo ops.toList)[j]? = some o:=by
    rw [qhu (by omega),hoL]
    show some (yG o)=_
    unfold yG;rw [f2]
   have hpA:(⟨qW C.lo ops.toList⟩:Array Oper)[j]? = some o:=by simpa using hpk
   obtain ⟨z,z1,z2,z3⟩:=hT j o hpA
   have hyz:y=z:=by
    have:=qmF (nb:=nb) (lA:=lA) (lS:=lS) hjn ho
    rw [f2] at this
    have hz:lA.getD j (.dead,none)=z:=by rw [List.getD_eq_getElem?_getD,z1];rfl
    simp only [hz] at this
    have hy:(qoT ops n nb lA lS)[j]? = some y:=hy
    rw [this] at hy;cases hy;rfl
   subst hyz
   have hsame:∀ t∈qei ops o,(F ops.toList lB s0B L ops.size).tm.getD t .dead=(F (qW C.lo ops.toList) lA s qM j).tm.getD t .dead := λ t ht=>by
    rw [hslot t ht]
    refine ((hbx qM j (by omega)).2 t).2 λ k q hkk hq hqa hqd=>?_
    have hqm:q∈ops.toList:=List.mem_of_getElem? (i:=k) (by simpa using hq)
    rcases f3 q hqm with h0 | h0
    ·rw [hqa] at h0;cases h0
    ·rw [hqd] at h0
     simp only [Bool.not_eq_true',List.contains_eq_mem,decide_eq_false_iff_not] at h0
     exact h0 ht
   have hw:∀ b,yq ⟨qW C.lo ops.toList⟩ (F (qW C.lo ops.toList) lA s qM j).tm o=some b→yq ops (F ops.toList lB s0B L ops.size).tm o=some b := λ b hb=>by
    rw [qmZ hsame]
    have hdo:yG o=o:=by unfold yG;rw [f2]
    exact qmc (by rw [hdo];exact hb)
   rcases z2 with ⟨g1,g2⟩ | ⟨g1,g2⟩
   ·refine .inl ⟨hw _ g1,?_⟩
    have hops:=qqv (C:=C) (ex:=ex) (op:=o.op) (σ := (F ops.toList lB s0B L ops.size).σ) (qo3 (xs:=o.op.operands.toList) λ t ht=>hsame t (by
     simp only [qei,List.mem_append];exact .inl (.inr ht)))
    rw [hops]
    obtain ⟨x,zz⟩:=y
    cases zz with
    | none=>exact qAi f1 (qkO (by omega) hoL) g2
    | some σ'=>have:=lA_σ hn.symm hT.recd j _ hjn z1;cases this
   ·exact .inr ⟨hw _ g1,g2⟩
  ·obtain ⟨i,rfl⟩:∃ i,j=n+i:=⟨j-n,by omega⟩
   have hdl:i<(ops.toList.drop n).length:=by omega
   obtain ⟨z,z1,z2,z3⟩:=e3 i o (by rw [List.getElem?_drop];simpa using ho)
   have hyz:y=z:=by
    have:lB[n+i]? = lS[i]? := qrb
    rw [this,z1] at hy;cases hy;rfl
   subst hyz
   rw [← hsufF i (by omega)] at z2
   have hσ : (F ops.toList lB s0B L ops.size).σ = (F ops.toList lB s0B qM (n+i)).σ := by
    have hlow:∀ m,n≤m→m<n+i→L m=true := λ m hm1 hm2=>by
     rcases hlm (n+i) o ho (by omega) m hm2 with hb | ⟨hb,_⟩
     ·exact qmC hd (n+i) o ho hp hb
     ·omega
    have hhigh:∀ m,n+i<m→m<ops.size→L m=false := λ m hm1 hm2=>by
     obtain ⟨q,hq⟩:=jq (ops:=ops) (k:=m) hm2
     cases hLm:L m with
     | false=>rfl
     | true =>
       rcases hlm m q hq (by omega) (n+i) hm1 with hb | ⟨hb,_⟩
       ·have:=qmC hd m q hq (hd m q hq hLm) hb
        rw [hL] at this;cases this
       ·omega
    have k1:∀ m,m≤i→(F ops.toList lB s0B L (n+m)).σ = (F ops.toList lB s0B qM (n+m)).σ := by
     intro m
     induction m with
     | zero=>intro _;rw [Nat.add_zero,qho hBσ n (Nat.le_refl _),qho hBσ n (Nat.le_refl _)]
     | succ m ih =>
       intro hle
       obtain ⟨q,hq⟩:=jq (ops:=ops) (k:=n+m) (by omega)
       obtain ⟨y',_,_,hF⟩:=qbU (s0:=s0B) hRec hq
       show (F ops.toList lB s0B L (n+m+1)).σ = (F ops.toList lB s0B qM (n+m+1)).σ
       rw [hF L,hF qM,if_pos (hlow (n+m) (by omega) (by omega)),if_pos (show qM (n+m)=true from rfl)]
       show turn _ _=turn _ _
       rw [ih (by omega)]
    have k2:∀ m,n+i+m≤ops.size→(F ops.toList lB s0B L (n+i+m)).σ = (F ops.toList lB s0B L (n+i)).σ := by
     intro m
     induction m with
     | zero=>intro _;rfl
     | succ m ih =>
       intro hle
       obtain ⟨q,hq⟩:=jq (ops:=ops) (k:=n+i+m) (by omega)
       obtain ⟨y',_,_,hF⟩:=qbU (s0:=s0B) hRec hq
       show (F ops.toList lB s0B L (n+i+m+1)).σ = _
       have hf:L (n+i+m)=false:=by
        cases m with
        | zero=>exact hL
        | succ m=>exact hhigh _ (by omega) (by omega)
       rw [hF L,hf]
       simp only [Bool.false_eq_true,if_false]
       exact ih (by omega)
    have:=k2 (ops.size-(n+i)) (by omega)
    rw [show n+i+(ops.size-(n+i))=ops.size by omega] at this
    rw [this,k1 i (Nat.le_refl _)]
   have hwc:=qmZ (ops:=ops) (o:=o) hslot
   have hops:=qqv (C:=C) (ex:=ex) (op:=o.op) (σ := (F ops.toList lB s0B L ops.size).σ) (qo3 (xs:=o.op.operands.toList) λ t ht=>hslot t (by
    simp only [qei,List.mem_append];exact .inl (.inr ht)))
   rcases z2 with ⟨g1,g2⟩ | ⟨g1,g2⟩
   ·refine .inl ⟨by rw [hwc];exact g1,?_⟩
    rw [hops,hσ];exact g2
   ·exact .inr ⟨by rw [hwc];exact g1,g2⟩
 refine wp_region_any hC.mixed ?_
 refine qJ0 hC hx hT hk hlate hz (w0:=w) hn.symm ops.size _ Γ _ a (λ _=>0) (by simp) (by rw [Array.toList_replicate,List.countP_replicate];simp) (λ i _=>hnone i) ?_ ?_ ?_ ?_ (Nat.le_refl _) ?_
 ·intro i q hq' hi'
  exfalso
  have hi':(Array.replicate ops.size false).getD i false=true:=hi'
  rw [hnone] at hi';cases hi'
 ·rw [hF0];exact hi.drew
 ·rw [hF0];exact ht
 ·exact ⟨λ k o e d h=>(by rw [hnone] at h;cases h),λ k o e d u h=>(by rw [hnone] at h;cases h),λ k k' o o' h=>(by rw [hnone] at h;cases h)⟩
 ·intro fuel' listed' Γ1 w1 a1 ad1 x1 x2 x3 x4 x5 x6 x7 x8 x9 x10 x11
  have x6':Ext Γ w Γ1 w1:=(Ext.drew Γ w).trans x6
  have hborn:∀ (k:Nat) (o:Oper),k<n→ops[k]? = some o→ya o=true→listed'.getD k false=true := λ k o q1 q2 q3=>x4 k o q1 q2 (by unfold qds;rw [q3];simp)
  have hside:qkc P Γ1 w w1 ops (λ k=>0≤k∧k<n) a1 ad1:=⟨λ k o e d hh g1 g2=>x9.blk k o e d (hborn k o hh.2 g1 (by simp [ya,g2])) g1 g2,λ k o e d u hh g1 g2=>x9.tmp k o e d u (hborn k o hh.2 g1 (by simp [ya,g2])) g1 g2,λ k k' o o' hh hh' g1 g2 g3 g4=>x9.inj k k' o o' (hborn k o hh.2 g1 g3) (hborn k' o' hh'.2 g2 g4) g1 g2 g3 g4⟩
  rw [hs1σ _ _ (Nat.le_refl _)] at x7
  obtain ⟨Γ2,c0,c1,c2,c3,c4⟩:=qoi hC (n:=n) (nb:=nb) (ad:=ad1) (ops.toList.take n) 0 s1 s2 s.σ Γ1 htk htl hm hg hs1 hid0 x7 hside x6'
  have hFB:F ops.toList lB s0B (λ i=>listed'.getD i false) ops.size=F ops.toList lB s0B (λ i=>listed'.getD i false) n:=by
   have:=qEW (ops:=ops) (lB:=lB) (s0B:=s0B) (L := λ i=>listed'.getD i false) (n:=n) x3 (ops.size-n)
   rw [show n+(ops.size-n)=ops.size by omega] at this
   exact this
  have hFσ : (F ops.toList lB s0B (λ i=>listed'.getD i false) ops.size).σ = s2.σ := by rw [hFB];exact qho hBσ n (Nat.le_refl _)
  refine qBy hC hx (l:=lB) (s0:=s0B) (Good := λ L=>∀ (i:Nat) (q:Oper),i<n→ops[i]? = some q→qds ops.toList q=false→L i=true) (λ L j hg i q q1 q2 q3=>by simp [hg i q q1 q2 q3]) hlp hstep fuel' listed' Γ2 w1 a1 x1 x2 x5 x4 (by rw [hFσ];exact c2) ?_ ?_
  ·-- the slots
   rw [hFB]
   obtain ⟨b1,b2⟩:=hbx (λ i=>listed'.getD i false) n (Nat.le_refl _)
   have ht':RepL Γ2 (F (qW C.lo ops.toList) lA s (λ i=>listed'.getD i false) n).tm a1.tmps.toList:=RepL.mono c0 x8
   refine ⟨by rw [b1];exact ht'.len,λ t x u hx hu=>?_⟩
   have htl:=getElem?_lt hx
   have hxd:(F ops.toList lB s0B (λ i=>listed'.getD i false) n).tm.getD t .dead=x:=by rw [List.getD_eq_getElem?_getD,hx];rfl
   by_cases hex:∃ (k:Nat) (o:Oper),k<n∧ops[k]? = some o∧ya o=true∧o.dst=some t
   ·obtain ⟨k,o,q1,q2,q3,q4⟩:=hex
    rw [(b2 t).1 k o ⟨q1,hborn k o q1 q2 q3⟩ q2 q3 q4,if_pos (by rw [← b1];exact htl)] at hxd
    obtain ⟨e,hoe⟩:=qhz q3
    have hp:=hside.tmp k o e t u ⟨Nat.zero_le _,q1⟩ q2 hoe q4 (by simpa using hu)
    rw [← hxd,hp]
    exact c4 k o (Nat.zero_le _) q1 q2 q3
   ·rw [(b2 t).2 λ k o hkk q2 q3 q4=>hex ⟨k,o,hkk.1,q2,q3,q4⟩] at hxd
    have hta:t<(F (qW C.lo ops.toList) lA s (λ i=>listed'.getD i false) n).tm.length:=by rw [← b1];exact htl
    rw [List.getD_eq_getElem?_getD,List.getElem?_eq_getElem hta] at hxd
    exact ht'.rep t x u (by rw [List.getElem?_eq_getElem hta];exact congrArg some hxd) hu
  ·intro Γ' w' a' g1 g2 g3 g4 g5
   rw [hend] at g2 g3 g4
   rw [hFσ] at g4
   exact hq Γ' w' a' (c1.trans g1) g2 g3 (c3.trans g4) (by rw [g5,x11])
end
end Go.AmYtbpnmbmdbblehaaGreat
namespace Go.AmYtbpnmbmdbblehaaGreat
open Go Go.RowKit
def qGY:AV→Bool
 | .rpt _ _ _ _=>true
 | .ept _ _=>true
 | _=>false
theorem qEV {o:Oper} {a:Tmp × Operand} (h:stP o=some a):(∃ t,o.op = .store t (.tmp a.1) a.2)∧o.guard=none∧o.dst=none:=by
 unfold stP at h
 split at h
 ·rename_i hop
  split at h
  ·rename_i h1 h2
   cases h
   exact ⟨⟨_,hop⟩,h1,h2⟩
  ·cases h
 ·cases h
theorem qJ1 {o:Oper} {d:Tmp} (h:ixP o=some d):(∃ t x i,o.op = .indexAddr t x i)∧o.guard=none∧o.dst=some d:=by
 unfold ixP at h
 split at h
 ·rename_i hop
  split at h
  ·rename_i h1 h2
   cases h
   exact ⟨⟨_,_,_,hop⟩,h1,h2⟩
  ·cases h
 ·cases h
theorem qvN:∀ {m b:Nat},qq2 m b=true→∀ i,i<m→b.testBit i=true
 | 0,_,_,i,hi=>absurd hi (Nat.not_lt_zero _)
 | m+1,b,h,i,hi=>by
   simp only [qq2,Bool.and_eq_true] at h
   rcases Nat.lt_succ_iff_lt_or_eq.1 hi with hi | rfl
   ·exact qvN h.2 i hi
   ·exact h.1
theorem qB5 {ops:Array Oper} {dr:Bool} {b:Tmp} (h:qog ops dr=some b):dr=true∧∃ p o q d v6 v7,qi6 ops=[p,o,q]∧ixP p=some d∧stP o=some (d,v6)∧stP q=some (b,v7)∧b≠d∧qDs d v7=true∧qDo (J2 ops.toList []) (ops.toList.length-3) p o q=true:=by
 unfold qog at h
 split at h
 ·refine ⟨rfl,?_⟩
  unfold qJr at h
  split at h
  ·rename_i p o q hl
   split at h
   ·rename_i d a b' h0 h1 h2
    split at h
    ·rename_i hk
     cases h
     simp only [Bool.and_eq_true,Bool.not_eq_true'] at hk
     obtain ⟨⟨k1,k2,k3⟩,k4⟩:=hk
     have e1:a.1=d:=Nat.eq_of_beq_eq_true k1
     refine ⟨p,o,q,d,a.2,b'.2,hl,h0,by rw [h1,← e1],h2,?_,k3,k4⟩
     intro he
     rw [he,Nat.beq_refl] at k2
     cases k2
    ·cases h
   ·cases h
  ·cases h
 ·cases h
section
variable {P:Program} {C:Cfg} {Γ : Gh} {σ : St} {w:World} {ops pre:Array Oper} {ex:QA} {l:List (AV × Option St)} {s0:S}
theorem qJt {tm:List AV} {σ':St} {t:TypeId} {a:Tmp} {v:Operand} {b off:Nat} {x:AV} {z:Option St} (h:opA C ex tm σ (.store t (.tmp a) v)=some (x,z)) (ha:tm.getD a .dead = .ptr b off) :
  ∃ cs,z=some { σ with bx := σ.bx.set b cs,wr:=b :: σ.wr }∧∀ (tm':List AV) (τ : St),aev tm' (.tmp a)=aev tm (.tmp a)→aev tm' v=aev tm v → τ.bx = σ.bx→opA C ex tm' τ (.store t (.tmp a) v)=some (x,some { τ with bx := τ.bx.set b cs,wr:=b :: τ.wr }):=by
 have hv:aev tm (.tmp a) = .ptr b off:=ha
 simp only [opA,qb,hv] at h
 cases hd:C.ty t with
 | none=>rw [hd] at h;cases h
 | some d =>
   rw [hd] at h
   simp only at h
   cases hcs : σ.bx[b]? with
   | none=>rw [hcs] at h;cases h
   | some cs =>
     rw [hcs] at h
     simp only at h
     split at h<;>cases h
     rename_i hg
     refine ⟨_,rfl,λ tm' τ h1 h2 hτ => ?_⟩
     have e : τ.bx[b]? = some cs:=by rw [hτ];exact hcs
     simp only [opA,qb,h1,h2,hv,hd,e,hg]
theorem qF4 {tm:List AV} {t:TypeId} {u i:Operand} {x:AV} {z:Option St} (h:opA C ex tm σ (.indexAddr t u i)=some (x,z)) :
  z=none∧qGY x=true∧∀ τ : St,τ.rw = σ.rw→opA C ex tm τ (.indexAddr t u i)=some (x,none):=by
 have key:∀ τ : St,τ.rw = σ.rw→opA C ex tm τ (.indexAddr t u i)=some (x,z) := λ τ hτ => by
  rw [← h]
  simp only [opA,qb,hτ]
 have hz:z=none∧qGY x=true:=by
  simp only [opA,qb] at h
  repeat' split at h
  all_goals first | (cases h;done) | (cases h;exact ⟨rfl,rfl⟩)
 obtain ⟨rfl,h2⟩:=hz
 exact ⟨rfl,h2,key⟩
theorem qJ4 {tm:List AV} {t:TypeId} {a:Tmp} {v:Operand} {y:AV} {x:AV} {z:Option St} (h:opA C ex tm σ (.store t (.tmp a) v)=some (x,z)) (ha:tm.getD a .dead=y) (hy:qGY y=true) :
  ∃ r R,z=some { σ with rw := σ.rw.set r R,wrr:=r :: σ.wrr }∧∀ τ : St,τ.rw = σ.rw→opA C ex tm τ (.store t (.tmp a) v)=some (x,some { τ with rw := τ.rw.set r R,wrr:=r :: τ.wrr }):=by
 have hv:aev tm (.tmp a)=y:=ha
 cases y with
 | rpt r0 i0 o0 ep0 =>
   simp only [opA,qb,hv] at h
   cases hd:C.ty t with
   | none=>rw [hd] at h;cases h
   | some d =>
     rw [hd] at h
     simp only at h
     cases hR : σ.rw[r0]? with
     | none=>rw [hR] at h;cases h
     | some R =>
       rw [hR] at h
       simp only at h
       cases hR':qpk R i0 o0 ep0 d.size (cellsOf (aev tm v)) with
       | none=>rw [hR'] at h;cases h
       | some R' =>
         rw [hR'] at h
         cases h
         refine ⟨_,_,rfl,λ τ hτ => ?_⟩
         have e : τ.rw[r0]? = some R:=by rw [hτ];exact hR
         simp only [opA,qb,hv,hd,e,hR']
 | ept cs0 o0 =>
   simp only [opA,qb,hv] at h
   cases hd:C.ty t with
   | none=>rw [hd] at h;cases h
   | some d=>rw [hd] at h;cases h
 | _=>cases hy
theorem qy0 {tm:List AV} {o:Oper} {b:Bool} (hsub:∀ (i:Nat) (q:Oper),pre[i]? = some q→ops[i]? = some q) (h:yq pre tm o=some b):yq ops tm o=some b:=by
 unfold yq at h ⊢
 cases hg:o.guard with
 | none=>rw [hg] at h;exact h
 | some p =>
   obtain ⟨g,want⟩:=p
   rw [hg] at h
   simp only at h ⊢
   cases hq:pre[g]? with
   | none =>
     rw [hq] at h
     simp only [Option.bind_none] at h
     cases h
   | some q=>rw [hsub g q hq];rw [hq] at h;exact h
def g3 (s1 s5 s56 s7 s57 s567:S):Bool→Bool→Bool→S
 | true,true,true=>s567
 | true,true,false=>s57
 | true,false,_=>s7
 | false,true,true=>s56
 | false,true,false=>s5
 | false,false,_=>s1
def G3 (pre:Array Oper) (l:List (AV × Option St)) (s0 s5 s56 s7 s57 s567:S) (L:Nat→Bool):S:=g3 (F pre.toList l s0 L pre.size) s5 s56 s7 s57 s567 (L (pre.size+2)) (L pre.size) (L (pre.size+1))
theorem JZ {s5 s56 s7 s57 s567:S} {L:Nat→Bool} {a b c:Bool} (h1:L (pre.size+2)=a) (h2:L pre.size=b) (h3:L (pre.size+1)=c):G3 pre l s0 s5 s56 s7 s57 s567 L=g3 (F pre.toList l s0 L pre.size) s5 s56 s7 s57 s567 a b c:=by
 unfold G3
 rw [h1,h2,h3]
theorem qtc {tm:List AV} {t:TypeId} {a:Tmp} {v:Operand} {y:AV × Option St} (h:opA C ex tm σ (.store t (.tmp a) v)=some y):a<tm.length:=by
 apply Nat.lt_of_not_le
 intro hge
 have hv:aev tm (.tmp a) = .dead:=by
  show tm.getD a .dead = .dead
  rw [List.getD_eq_getElem?_getD,List.getElem?_eq_none hge];rfl
 have:opA C ex tm σ (.store t (.tmp a) v)=none:=by
  simp only [opA,qb,hv]
  cases C.ty t<;>rfl
 rw [this] at h
 cases h
theorem qI5 {tm:List AV} {d:Tmp} {x:AV} {v:Operand} (h:qDs d v=true):aev (tm.set d x) v=aev tm v:=by
 cases v with
 | tmp t =>
   have hne:d≠t := λ he=>by rw [he] at h;simp [qDs] at h
   show (tm.set d x).getD t .dead=tm.getD t .dead
   rw [List.getD_eq_getElem?_getD,List.getElem?_set_ne hne,← List.getD_eq_getElem?_getD]
 | _=>rfl
theorem qDw (hC:yr P C) (hx:qcK P ex) {id:Nat} {s s1 s':S} {b:Tmp} (htw:qog ops true=some b) (hk:qaZ C.lo s.tm (qby ops) true=true) (h1:zB C ex (qby ops) true (qby ops).toList s=some s1) (hp2:qAo (s1.tm.getD b .dead)=true)
  (h2:zB C ex ops true (qi6 ops) s1=some s') {a:Act} {Q:Exit→Act→World→Prop} (hi:Inv Γ s.σ w) (ht:zk Γ s.tm a)
  (hq:∀ Γ' w' a',Ext Γ w Γ' w'→Inv Γ' s'.σ w'→zk Γ' s'.tm a'→qU s.σ s'.σ → a'.defers=a.defers→Q .normal a' w'):(Code.region id ops true).wp P Q a w:=by
 obtain ⟨_,p,o,q,d,v6,v7,htl,hp1,ho1,hq1,hbd,hoff,hok⟩:=qB5 htw
 obtain ⟨⟨t5,u5,i5,hop5⟩,hg5,hd5⟩:=qJ1 hp1
 obtain ⟨⟨t6,hop6⟩,hg6,hd6⟩:=qEV ho1
 obtain ⟨⟨t7,hop7⟩,hg7,hd7⟩:=qEV hq1
 simp only [qDo,Bool.and_eq_true,List.all_eq_true] at hok
 obtain ⟨k1,k2,k3,k4,k5,k6⟩:=hok
 obtain ⟨pre,hpre⟩:∃ pre,pre=qby ops:=⟨_,rfl⟩
 rw [← hpre] at hk h1
 have hlen:ops.toList.length=(ops.toList.length-3)+3:=by
  have:(qi6 ops).length=3:=by rw [htl];rfl
  unfold qi6 at this
  rw [List.length_drop] at this
  omega
 have hps:pre.size=ops.toList.length-3:=by
  rw [hpre]
  show (ops.toList.take (ops.toList.length-3)).toArray.size=_
  rw [List.size_toArray,List.length_take];omega
 have hsplit:ops.toList=pre.toList++[p,o,q]:=by
  rw [hpre,← htl]
  exact (List.take_append_drop _ _).symm
 rw [← hps] at k1 k2 k3 k4 k5 k6
 obtain ⟨m,hm⟩:∃ m,m=pre.size:=⟨_,rfl⟩
 have hml:m=pre.toList.length:=by rw [hm,Array.length_toList]
 rw [← hm] at k1 k2 k3 k4 k5 k6
 have hosz:ops.size=m+3:=by rw [← Array.length_toList,hlen,hm,hps]
 have hsub:∀ i r,pre[i]? = some r→ops[i]? = some r := λ i r hr=>by
  have hi:i<pre.toList.length:=by rw [Array.length_toList];exact (Array.getElem?_eq_some_iff.1 hr).1
  rw [← Array.getElem?_toList,hsplit,List.getElem?_append_left hi,Array.getElem?_toList]
  exact hr
 have hinv:∀ i r,i<m→ops[i]? = some r→pre[i]? = some r := λ i r hi hr=>by
  rw [← Array.getElem?_toList,hsplit,List.getElem?_append_left (by rw [← hml];exact hi),Array.getElem?_toList] at hr
  exact hr
 have hat:∀ n,ops[m+n]? = [p,o,q][n]? := λ n=>by
  rw [← Array.getElem?_toList,hsplit,List.getElem?_append_right (by rw [← hml];exact Nat.le_add_right _ _),← hml,Nat.add_sub_cancel_left]
 have hgp:ops[m]? = some p:=hat 0
 have hgo:ops[m+1]? = some o:=hat 1
 have hgq:ops[m+2]? = some q:=hat 2
 obtain ⟨l,l1,l2,l3⟩:=qhZ pre.toList s s1 h1
 have hT:qgY C ex pre l s := λ i r hr=>l3 i r (by simpa using hr)
 rw [Array.length_toList] at l2
 have hkd:qaY C.lo s.tm pre=true:=hk
 have wantP:∀ tm,yq ops tm p=some true := λ tm=>by unfold yq;rw [hg5]
 have wantO:∀ tm,yq ops tm o=some true := λ tm=>by unfold yq;rw [hg6]
 have wantQ:∀ tm,yq ops tm q=some true := λ tm=>by unfold yq;rw [hg7]
 cases hpp:s1.tm.getD b .dead with
 | ptr bb off =>
   have hbv:∀ x,(s1.tm.set d x).getD b .dead = .ptr bb off := λ x=>by
    rw [← hpp,List.getD_eq_getElem?_getD,List.getElem?_set_ne (Ne.symm hbd),← List.getD_eq_getElem?_getD]
   rw [htl] at h2
   obtain ⟨x5,x6,σ6,x7,σ7,y5,y6,y7,rfl⟩:∃ x5 x6 σ6 x7 σ7,opA C ex s1.tm s1.σ p.op=some (x5,none)∧opA C ex (s1.tm.set d x5) s1.σ o.op=some (x6,some σ6)∧opA C ex (s1.tm.set d x5) σ6 q.op=some (x7,some σ7)∧s'=⟨s1.tm.set d x5,σ7⟩:=by
    simp only [zB,wantP,wantO,wantQ] at h2
    split at h2<;>try cases h2
    ·rename_i x5 e5
     rw [hd5] at h2
     simp only [qa8] at h2
     have hx5:=(qF4 (by rw [hop5] at e5;exact e5)).2.1
     split at h2<;>try cases h2
     ·rename_i x6 e6
      have e6:=e6
      rw [hop6] at e6
      have hlt:=qtc e6
      rw [List.length_set] at hlt
      have hv:(s1.tm.set d x5).getD d .dead=x5:=by rw [List.getD_eq_getElem?_getD,List.getElem?_set_self hlt];rfl
      obtain ⟨_,_,h,_⟩:=qJ4 e6 hv hx5
      cases h
     ·rename_i x6 σ6 e6
      split at h2<;>try cases h2
      rw [hd6] at h2
      simp only at h2
      split at h2<;>try cases h2
      ·rename_i x7 e7
       obtain ⟨_,h,_⟩:=qJt (σ' := σ6) (by rw [hop7] at e7;exact e7) (hbv x5)
       cases h
      ·rename_i x7 σ7 e7
       split at h2<;>try cases h2
       exact ⟨x5,x6,σ6,x7,σ7,e5,e6,e7,by rw [hd7]⟩
    ·rename_i x5 σ5 e5
     have:=(qF4 (by rw [hop5] at e5;exact e5)).1
     cases this
   rw [hop5] at y5
   rw [hop6] at y6
   rw [hop7] at y7
   obtain ⟨_,hx5,g5⟩:=qF4 y5
   have hlt:=qtc y6
   rw [List.length_set] at hlt
   have hvd:(s1.tm.set d x5).getD d .dead=x5:=by rw [List.getD_eq_getElem?_getD,List.getElem?_set_self hlt];rfl
   obtain ⟨r,R,z6,g6⟩:=qJ4 y6 hvd hx5
   cases z6
   obtain ⟨cs,z7,g7⟩:=qJt (σ':=s1.σ) y7 (hbv x5)
   cases z7
   have eb:aev s1.tm (.tmp b)=aev (s1.tm.set d x5) (.tmp b):=by
    show s1.tm.getD b .dead=(s1.tm.set d x5).getD b .dead
    rw [hbv,hpp]
   have ev:aev s1.tm v7=aev (s1.tm.set d x5) v7:=(qI5 hoff).symm
   obtain ⟨S5,hS5⟩:∃ S5:S,S5=⟨s1.tm.set d x5,s1.σ⟩:=⟨_,rfl⟩
   obtain ⟨S56,hS56⟩:∃ S56:S,S56=⟨s1.tm.set d x5,{ s1.σ with rw:=s1.σ.rw.set r R,wrr:=r::s1.σ.wrr }⟩:=⟨_,rfl⟩
   obtain ⟨S7,hS7⟩:∃ S7:S,S7=⟨s1.tm,{ s1.σ with bx:=s1.σ.bx.set bb cs,wr:=bb::s1.σ.wr }⟩:=⟨_,rfl⟩
   obtain ⟨S57,hS57⟩:∃ S57:S,S57=⟨s1.tm.set d x5,{ s1.σ with bx:=s1.σ.bx.set bb cs,wr:=bb::s1.σ.wr }⟩:=⟨_,rfl⟩
   obtain ⟨S567,hS567⟩:∃ S567:S,S567=⟨s1.tm.set d x5,{ s1.σ with rw:=s1.σ.rw.set r R,wrr:=r::s1.σ.wrr,bx:=s1.σ.bx.set bb cs,wr:=bb::s1.σ.wr }⟩:=⟨_,rfl⟩
   have a5:qcl C ex ops p s1 (x5,none) := .inl ⟨wantP _,by rw [hop5];exact y5⟩
   have a5':qcl C ex ops p S7 (x5,none) := .inl ⟨wantP _,by rw [hop5,hS7];exact g5 _ rfl⟩
   have a6:qcl C ex ops o S5 (x6,some { s1.σ with rw:=s1.σ.rw.set r R,wrr:=r::s1.σ.wrr }) := .inl ⟨wantO _,by rw [hop6,hS5];exact y6⟩
   have a6':qcl C ex ops o S57 (x6,some { s1.σ with rw:=s1.σ.rw.set r R,wrr:=r::s1.σ.wrr,bx:=s1.σ.bx.set bb cs,wr:=bb::s1.σ.wr }) := .inl ⟨wantO _,by rw [hop6,hS57];exact g6 _ rfl⟩
   have a7:qcl C ex ops q s1 (x7,some { s1.σ with bx:=s1.σ.bx.set bb cs,wr:=bb::s1.σ.wr }) := .inl ⟨wantQ _,by rw [hop7];exact g7 _ _ eb ev rfl⟩
   have a7':qcl C ex ops q S5 (x7,some { s1.σ with bx:=s1.σ.bx.set bb cs,wr:=bb::s1.σ.wr }) := .inl ⟨wantQ _,by rw [hop7,hS5];exact g7 _ _ rfl rfl rfl⟩
   have a7'':qcl C ex ops q S56 (x7,some { s1.σ with rw:=s1.σ.rw.set r R,wrr:=r::s1.σ.wrr,bx:=s1.σ.bx.set bb cs,wr:=bb::s1.σ.wr }) := .inl ⟨wantQ _,by rw [hop7,hS56];exact y7⟩
   have bit:∀ {L:Nat→Bool} {n j:Nat} {o':Oper},qdV ops L→ops[j]? = some o'→(∀ e∈jk o',L e=true)→qq2 n ((J2 ops.toList []).getD j 0)=true→∀ i,i<n→L i=true := λ hd ho hp hb i hi=>qmC hd _ _ ho hp (qvN hb i hi)
   have hall:∀ {L:Nat→Bool},(∀ i,i<m→L i=true)→F pre.toList l s L pre.size=s1 := λ h=>by rw [← l2];exact qxF _ λ i hi=>h i (by rw [hm];exact hi)
   have hF0:∀ k,F pre.toList l s (λ i=>(Array.replicate ops.size false).getD i false) k=s:=by
    intro k
    induction k with
    | zero=>rfl
    | succ k ih =>
      simp only [F]
      have:(Array.replicate ops.size false).getD k false=false:=by
       rw [Array.getD_eq_getD_getElem?,Array.getElem?_replicate];split<;>rfl
      rw [this]
      split
      ·rename_i hf;cases hf
      ·exact ih
   have rep0:∀ i,(Array.replicate ops.size false).getD i false=false := λ i=>by
    rw [Array.getD_eq_getD_getElem?,Array.getElem?_replicate];split<;>rfl
   have hG0:G3 pre l s S5 S56 S7 S57 S567 (λ i=>(Array.replicate ops.size false).getD i false)=s:=by
    rw [JZ (rep0 _) (rep0 _) (rep0 _)]
    exact hF0 _
   have hGa:G3 pre l s S5 S56 S7 S57 S567 qM=S567:=JZ (a:=true) (b:=true) (c:=true) rfl rfl rfl
   have ins:∀ (L:Nat→Bool) (j i:Nat),i≠j→(decide (i=j)||L i)=L i := λ L j i h=>by rw [decide_eq_false h,Bool.false_or]
   have ins':∀ (L:Nat→Bool) (j:Nat),(decide (j=j)||L j)=true := λ L j=>by rw [decide_eq_true rfl,Bool.true_or]
   refine wp_region_any hC.mixed ?_
   refine qBe (G:=G3 pre l s S5 S56 S7 S57 S567) (Good := λ _=>True) hC hx (λ _ _ _=>trivial) (λ j o' ho' e he=>?_) (λ L hL=>?_) (λ L j o' hd _ ho' hL hp=>?_) ops.size _ Γ _ a (by simp) (by rw [Array.toList_replicate,List.countP_replicate];simp) ?_ trivial ?_ ?_ ?_
   ·have hj3:j<m+3:=by rw [← hosz];exact (Array.getElem?_eq_some_iff.1 ho').1
    by_cases hj:j<m
    ·exact (qhF hkd).1 j o' (hinv j o' hj ho') e he
    ·obtain rfl | rfl | rfl:j=m∨j=m+1∨j=m+2:=by omega
     ·rw [hgp] at ho';cases ho'
      exact Nat.le_of_ble_eq_true (k1 e he)
     ·rw [hgo] at ho';cases ho'
      exact Nat.le_of_ble_eq_true (k2 e he)
     ·rw [hgq] at ho';cases ho'
      have:=Nat.le_of_ble_eq_true (k3 e he)
      omega
   ·rw [hGa]
    exact JZ (a:=true) (b:=true) (c:=true) (hL _ (by omega)) (hL _ (by omega)) (hL _ (by omega))
   ·have hj3:j<m+3:=by rw [← hosz];exact (Array.getElem?_eq_some_iff.1 ho').1
    have d1:L (m+1)=true→L m=true := λ h=>bit hd hgo (hd (m+1) o hgo h) k5 m (Nat.lt_succ_self m)
    by_cases hj:j<m
    ·have ho'':=hinv j o' hj ho'
     have n5:L m=false:=by
      cases hLm:L m with
      | false=>rfl
      | true=>rw [bit hd hgp (hd m p hgp hLm) k4 j hj] at hL;cases hL
     have n7:L (m+2)=false:=by
      cases hLm:L (m+2) with
      | false=>rfl
      | true=>rw [bit hd hgq (hd (m+2) q hgq hLm) k6 j hj] at hL;cases hL
     have hdp:qdV pre L := λ i r hr hi e he=>hd i r (hsub i r hr) hi e he
     obtain ⟨y,hy1,hy2⟩:=qrH hT hkd hdp ho'' hL hp
     have e1:G3 pre l s S5 S56 S7 S57 S567 L=F pre.toList l s L pre.size:=by
      exact JZ (a:=false) (b:=false) (c:=L (pre.size+1)) (by rw [← hm];exact n7) (by rw [← hm];exact n5) rfl
     have e2:G3 pre l s S5 S56 S7 S57 S567 (λ i=>decide (i=j)||L i)=F pre.toList l s (λ i=>decide (i=j)||L i) pre.size:=by
      exact JZ (L := λ i=>decide (i=j)||L i) (a:=false) (b:=false) (c:=_) (by show (decide (_=j)||L _)=false;rw [ins _ _ _ (by omega),← hm];exact n7) (by show (decide (_=j)||L _)=false;rw [ins _ _ _ (by omega),← hm];exact n5) rfl
     rw [e1,e2]
     refine ⟨y,?_,hy2⟩
     rcases hy1 with ⟨w1,w2⟩ | ⟨w1,w2⟩
     ·exact .inl ⟨qy0 hsub w1,w2⟩
     ·exact .inr ⟨qy0 hsub w1,w2⟩
    ·obtain rfl | rfl | rfl:j=m∨j=m+1∨j=m+2:=by omega
     ·rw [hgp] at ho';cases ho'
      have hL':=bit hd hgp hp k4
      have n6:L (j+1)=false:=by
       cases h:L (j+1) with
       | false=>rfl
       | true=>rw [d1 h] at hL;cases hL
      cases hn:L (j+2) with
      | false =>
        have e1:G3 pre l s S5 S56 S7 S57 S567 L=s1:=by
         exact (JZ (a:=false) (b:=false) (c:=false) (by rw [← hm];exact hn) (by rw [← hm];exact hL) (by rw [← hm];exact n6)).trans (hall hL')
        have e2:G3 pre l s S5 S56 S7 S57 S567 (λ i=>decide (i=j)||L i)=S5 :=
         JZ (L := λ i=>decide (i=j)||L i) (a:=false) (b:=true) (c:=false) (by rw [← hm];show (decide (_=j)||L _)=false;rw [ins _ _ _ (by omega)];exact hn) (by rw [← hm];exact ins' L j) (by rw [← hm];show (decide (_=j)||L _)=false;rw [ins _ _ _ (by omega)];exact n6)
        rw [e1,e2]
        refine ⟨_,a5,?_⟩
        rw [hS5,yj,hd5];rfl
      | true =>
        have e1:G3 pre l s S5 S56 S7 S57 S567 L=S7 :=
         JZ (a:=true) (b:=false) (c:=false) (by rw [← hm];exact hn) (by rw [← hm];exact hL) (by rw [← hm];exact n6)
        have e2:G3 pre l s S5 S56 S7 S57 S567 (λ i=>decide (i=j)||L i)=S57 :=
         JZ (L := λ i=>decide (i=j)||L i) (a:=true) (b:=true) (c:=false) (by rw [← hm];show (decide (_=j)||L _)=true;rw [ins _ _ _ (by omega)];exact hn) (by rw [← hm];exact ins' L j) (by rw [← hm];show (decide (_=j)||L _)=false;rw [ins _ _ _ (by omega)];exact n6)
        rw [e1,e2]
        refine ⟨_,a5',?_⟩
        rw [hS57,hS7,yj,hd5];rfl
     ·rw [hgo] at ho';cases ho'
      have h5:=bit hd hgo hp k5 m (Nat.lt_succ_self m)
      cases hn:L (m+2) with
      | false =>
        have e1:G3 pre l s S5 S56 S7 S57 S567 L=S5 :=
         JZ (a:=false) (b:=true) (c:=false) (by rw [← hm];exact hn) (by rw [← hm];exact h5) (by rw [← hm];exact hL)
        have e2:G3 pre l s S5 S56 S7 S57 S567 (λ i=>decide (i=m+1)||L i)=S56 :=
         JZ (L := λ i=>decide (i=m+1)||L i) (a:=false) (b:=true) (c:=true) (by rw [← hm];show (decide (_=m+1)||L _)=false;rw [ins _ _ _ (by omega)];exact hn) (by rw [← hm];show (decide (_=m+1)||L _)=true;rw [ins _ _ _ (by omega)];exact h5) (by rw [← hm];exact ins' L (m+1))
        rw [e1,e2]
        refine ⟨_,a6,?_⟩
        rw [hS56,hS5,yj,hd6];rfl
      | true =>
        have e1:G3 pre l s S5 S56 S7 S57 S567 L=S57 :=
         JZ (a:=true) (b:=true) (c:=false) (by rw [← hm];exact hn) (by rw [← hm];exact h5) (by rw [← hm];exact hL)
        have e2:G3 pre l s S5 S56 S7 S57 S567 (λ i=>decide (i=m+1)||L i)=S567 :=
         JZ (L := λ i=>decide (i=m+1)||L i) (a:=true) (b:=true) (c:=true) (by rw [← hm];show (decide (_=m+1)||L _)=true;rw [ins _ _ _ (by omega)];exact hn) (by rw [← hm];show (decide (_=m+1)||L _)=true;rw [ins _ _ _ (by omega)];exact h5) (by rw [← hm];exact ins' L (m+1))
        rw [e1,e2]
        refine ⟨_,a6',?_⟩
        rw [hS567,hS57,yj,hd6];rfl
     ·rw [hgq] at ho';cases ho'
      have hL':=bit hd hgq hp k6
      cases h5:L m with
      | false =>
        have n6:L (m+1)=false:=by
         cases h:L (m+1) with
         | false=>rfl
         | true=>rw [d1 h] at h5;cases h5
        have e1:G3 pre l s S5 S56 S7 S57 S567 L=s1:=by
         exact (JZ (a:=false) (b:=false) (c:=false) (by rw [← hm];exact hL) (by rw [← hm];exact h5) (by rw [← hm];exact n6)).trans (hall hL')
        have e2:G3 pre l s S5 S56 S7 S57 S567 (λ i=>decide (i=m+2)||L i)=S7 :=
         JZ (L := λ i=>decide (i=m+2)||L i) (a:=true) (b:=false) (c:=false) (by rw [← hm];exact ins' L (m+2)) (by rw [← hm];show (decide (_=m+2)||L _)=false;rw [ins _ _ _ (by omega)];exact h5) (by rw [← hm];show (decide (_=m+2)||L _)=false;rw [ins _ _ _ (by omega)];exact n6)
        rw [e1,e2]
        refine ⟨_,a7,?_⟩
        rw [hS7,yj,hd7];rfl
      | true =>
        cases h6:L (m+1) with
        | false =>
          have e1:G3 pre l s S5 S56 S7 S57 S567 L=S5 :=
           JZ (a:=false) (b:=true) (c:=false) (by rw [← hm];exact hL) (by rw [← hm];exact h5) (by rw [← hm];exact h6)
          have e2:G3 pre l s S5 S56 S7 S57 S567 (λ i=>decide (i=m+2)||L i)=S57 :=
           JZ (L := λ i=>decide (i=m+2)||L i) (a:=true) (b:=true) (c:=false) (by rw [← hm];exact ins' L (m+2)) (by rw [← hm];show (decide (_=m+2)||L _)=true;rw [ins _ _ _ (by omega)];exact h5) (by rw [← hm];show (decide (_=m+2)||L _)=false;rw [ins _ _ _ (by omega)];exact h6)
          rw [e1,e2]
          refine ⟨_,a7',?_⟩
          rw [hS57,hS5,yj,hd7];rfl
        | true =>
          have e1:G3 pre l s S5 S56 S7 S57 S567 L=S56 :=
           JZ (a:=false) (b:=true) (c:=true) (by rw [← hm];exact hL) (by rw [← hm];exact h5) (by rw [← hm];exact h6)
          have e2:G3 pre l s S5 S56 S7 S57 S567 (λ i=>decide (i=m+2)||L i)=S567 :=
           JZ (L := λ i=>decide (i=m+2)||L i) (a:=true) (b:=true) (c:=true) (by rw [← hm];exact ins' L (m+2)) (by rw [← hm];show (decide (_=m+2)||L _)=true;rw [ins _ _ _ (by omega)];exact h5) (by rw [← hm];show (decide (_=m+2)||L _)=true;rw [ins _ _ _ (by omega)];exact h6)
          rw [e1,e2]
          refine ⟨_,a7'',?_⟩
          rw [hS567,hS56,yj,hd7];rfl
   ·intro i r hr hi'
    exfalso
    have hi':(Array.replicate ops.size false).getD i false=true:=hi'
    rw [rep0] at hi';cases hi'
   ·rw [hG0];exact hi.drew
   ·rw [hG0];exact ht
   ·intro Γ' w' a' g1 g2 g3 g4 g5
    rw [hG0] at g4
    rw [hGa,hS567] at g2 g3 g4
    exact hq Γ' w' a' ((Ext.drew Γ w).trans g1) g2 g3 g4 g5
 | _=>rw [hpp] at hp2;cases hp2
end
end Go.AmYtbpnmbmdbblehaaGreat
namespace Go.AmYtbpnmbmdbblehaaGreat
open Go Go.RowKit
section
variable {P:Program} {C:Cfg} {Γ : Gh} {σ : St} {w:World} {ops:Array Oper} {ex:QA} {l:List (AV × Option St)} {s0:S}
theorem qJ3 (hC:yr P C) (hx:qcK P ex) (hT:qgY C ex ops l s0) (hk:qaY C.lo s0.tm ops=true) {Q:Exit→Act→World→Prop}:∀ (fuel:Nat) (listed:Array Bool) (Γ : Gh) (w:World) (a:Act),listed.size=ops.size→listed.toList.countP (λ b => !b)=fuel→qdV ops (λ i=>listed.getD i false) →
  Inv Γ (F ops.toList l s0 (λ i=>listed.getD i false) ops.size).σ w→zk Γ (F ops.toList l s0 (λ i=>listed.getD i false) ops.size).tm a →
  (∀ Γ' w' a',Ext Γ w Γ' w'→Inv Γ' (F ops.toList l s0 qM ops.size).σ w'→zk Γ' (F ops.toList l s0 qM ops.size).tm a'→qU (F ops.toList l s0 (λ i=>listed.getD i false) ops.size).σ (F ops.toList l s0 qM ops.size).σ → a'.defers=a.defers→Q .normal a' w') →
  wpAny P .any ops Q fuel listed a w :=
 λ fuel listed Γ w a hsz hct hd=>qBy hC hx (Good := λ _=>True) (λ _ _ _=>trivial) (qhF hk).1 (λ _ _ _ hd _ ho hL hp=>qrH hT hk hd ho hL hp) fuel listed Γ w a hsz hct hd trivial
theorem qEX (hC:yr P C) (hx:qcK P ex) {id:Nat} {draw:Bool} {s s':S} (hk:qaZ C.lo s.tm ops draw=true) (h:zB C ex ops draw ops.toList s=some s') {a:Act} {Q:Exit→Act→World→Prop} (hi:Inv Γ s.σ w) (ht:zk Γ s.tm a)
  (hq:∀ Γ' w' a',Ext Γ w Γ' w'→Inv Γ' s'.σ w'→zk Γ' s'.tm a'→qU s.σ s'.σ → a'.defers=a.defers→Q .normal a' w'):(Code.region id ops draw).wp P Q a w:=by
 cases draw with
 | false =>
   refine wp_region ?_
   have:=qyf hC hx (ops:=ops) ops.toList 0 s Γ w a (by simp) h hi ht hq
   rw [Array.length_toList,← List.range_eq_range'] at this
   exact this
 | true =>
   obtain ⟨l,h1,h2,h3⟩:=qhZ ops.toList s s' h
   have hT:qgY C ex ops l s := λ i o ho=>h3 i o (by simpa using ho)
   rw [Array.length_toList] at h2
   have hk:qaY C.lo s.tm ops=true:=hk
   have hF0:∀ k,F ops.toList l s (λ i=>(Array.replicate ops.size false).getD i false) k=s:=by
    intro k
    induction k with
    | zero=>rfl
    | succ k ih =>
      simp only [F]
      have:(Array.replicate ops.size false).getD k false=false:=by
       rw [Array.getD_eq_getD_getElem?,Array.getElem?_replicate];split<;>rfl
      rw [this]
      split
      ·rename_i hf;cases hf
      ·exact ih
   refine wp_region_any hC.mixed ?_
   refine qJ3 hC hx hT hk ops.size _ Γ _ a (by simp) (by rw [Array.toList_replicate,List.countP_replicate];simp) ?_ ?_ ?_ ?_
   ·intro i q hq' hi'
    exfalso
    have:(Array.replicate ops.size false).getD i false=false:=by
     rw [Array.getD_eq_getD_getElem?,Array.getElem?_replicate];split<;>rfl
    have hi':(Array.replicate ops.size false).getD i false=true:=hi'
    rw [this] at hi';cases hi'
   ·rw [hF0];exact hi.drew
   ·rw [hF0];exact ht
   ·intro Γ' w' a' g1 g2 g3 g4 g5
    rw [hF0] at g4
    rw [h2] at g2 g3 g4
    exact hq Γ' w' a' ((Ext.drew Γ w).trans g1) g2 g3 g4 g5
def COk (P:Program) (ex:QA) (c:Code):Prop :=
 ∀ s e s',jK c=true→ex c s=some (e,s')→∀ Γ w a,Inv Γ s.σ w→zk Γ s.tm a→a.defers=[] →
  c.wp P (λ e' a' w'=>e'=e.toExit∧a'.defers=[]∧∃ Γ',Ext Γ w Γ' w'∧Inv Γ' s'.σ w'∧zk Γ' s'.tm a'∧qU s.σ s'.σ) a w
theorem qIz {s:S} {a:Act} (hi:Inv Γ s.σ w) (ht:zk Γ s.tm a) (t:Nat) :
  ∃ Γ',Ext Γ w Γ' w∧Inv Γ' (qbC s t).σ w∧zk Γ' (qbC s t).tm a∧qU s.σ (qbC s t).σ := by
 unfold qbC
 cases hr:rsA (s.tm.getD t .dead) with
 | nil=>exact ⟨Γ,.refl _ _,hi,ht,.refl _⟩
 | cons r l =>
   obtain ⟨m,m1,m2,m3⟩:=qcr (r::l) hi ((r::l)++s.σ.wrr)
   refine ⟨_,qlP m1 w,m2,?_,qoo (r::l)⟩
   have hl:Le Γ { Γ with mem:=m }:=(qlP m1 w).le
   have hp:=qup hi hl (λ q hq=>m3 q (by rw [← hr];exact hq)) (ht.get t)
   have ht':RepL { Γ with mem:=m } s.tm a.tmps.toList:=RepL.mono hl ht
   refine ⟨by rw [List.length_set];exact ht'.len,λ i x u hx hu=>?_⟩
   by_cases hit:t=i
   ·subst hit
    rw [List.getElem?_set_self (by have:=getElem?_lt hx;simpa using this)] at hx
    cases hx
    have:a.tmps.getD t undef=u:=by
     rw [Array.getD_eq_getD_getElem?,← Array.getElem?_toList,hu];rfl
    rw [this] at hp
    exact hp
   ·rw [List.getElem?_set_ne hit] at hx
    exact ht'.rep i x u hx hu
theorem qBn {a:Act}:∀ (ts:List Nat) {s:S} {Γ : Gh},Inv Γ s.σ w→zk Γ s.tm a →
  ∃ Γ',Ext Γ w Γ' w∧Inv Γ' (qcR ts s).σ w∧zk Γ' (qcR ts s).tm a∧qU s.σ (qcR ts s).σ
 | [],s,Γ,hi,ht=>⟨Γ,.refl _ _,hi,ht,.refl _⟩
 | t::ts,s,Γ,hi,ht=>by
   obtain ⟨Γ1,a1,a2,a3,a4⟩:=qIz hi ht t
   obtain ⟨Γ2,b1,b2,b3,b4⟩:=qBn ts a2 a3
   exact ⟨Γ2,a1.trans b1,b2,b3,a4.trans b4⟩
theorem qIR {b:Code} {n:Nat} (hbody:∀ m,m<n→COk P (Jd C m) b) {s:S} {e:Ex} {s':S} (hk:jK b=true) (h:Jd C n (.loop b) s=some (e,s')) {a:Act} (hi:Inv Γ s.σ w) (ht:zk Γ s.tm a) (hdf:a.defers=[]) :
  (Code.loop b).wp P (λ e' a' w'=>e'=e.toExit∧a'.defers=[]∧∃ Γ',Ext Γ w Γ' w'∧Inv Γ' s'.σ w'∧zk Γ' s'.tm a'∧qU s.σ s'.σ) a w:=by
 let J:Nat→Act→World→Prop := λ m a1 w1=>m≤n∧∃ s1 Γ1,Jd C m (.loop b) s1=some (e,s')∧Ext Γ w Γ1 w1∧Inv Γ1 s1.σ w1∧zk Γ1 s1.tm a1∧a1.defers=[]∧qU s.σ s1.σ
 have hleast:∀ a1 w1,(∃ m,J m a1 w1)→∃ m,J m a1 w1∧∀ k,J k a1 w1→m≤k:=by
  rintro a1 w1 ⟨m,hm⟩
  induction m using Nat.strongRecOn with
  | _ m ih =>
    by_cases hk:∃ k,k<m∧J k a1 w1
    ·obtain ⟨k,hk1,hk2⟩:=hk
     exact ih k hk1 hk2
    ·exact ⟨m,hm,λ k hJ=>Nat.le_of_not_lt λ hlt=>hk ⟨k,hlt,hJ⟩⟩
 classical
 let μ : Act→World→Nat := λ a1 w1=>if h:∃ m,J m a1 w1 then Classical.choose (hleast a1 w1 h) else 0
 have hμ : ∀ a1 w1,(h:∃ m,J m a1 w1)→J (μ a1 w1) a1 w1∧∀ k,J k a1 w1 → μ a1 w1≤k:=by
  intro a1 w1 h
  have : μ a1 w1=Classical.choose (hleast a1 w1 h):=dif_pos h
  rw [this]
  exact Classical.choose_spec (hleast a1 w1 h)
 refine wp_loop (λ a1 w1=>∃ m,J m a1 w1) μ ⟨n,Nat.le_refl _,s,Γ,h,.refl _ _,hi,ht,hdf,.refl _⟩ ?_
 intro a1 w1 hJ
 obtain ⟨hJ1,_⟩:=hμ a1 w1 hJ
 obtain ⟨hmn,s1,Γ1,h1,h2,h3,h4,h5,h6⟩:=hJ1
 generalize hm : μ a1 w1=m at *
 cases m with
 | zero=>simp [Jd] at h1
 | succ m =>
   simp only [Jd,qbo] at h1
   obtain ⟨Γp,p1,p2,p3,p4⟩:=qBn (C.pur b) h3 h4
   have run:∀ e1 s2,Jd C m b (qcR (C.pur b) s1)=some (e1,s2)→(e1 = .normal∧Jd C m (.loop b) s2=some (e,s')∨(e1 ≠ .normal∧e1=e∧s2=s')) →
     b.wp P (Exit.then (λ a' w'=>(∃ m,J m a' w') ∧ μ a' w'<m+1) (λ e' a' w'=>e'=e.toExit∧a'.defers=[]∧∃ Γ',Ext Γ w Γ' w'∧Inv Γ' s'.σ w'∧zk Γ' s'.tm a'∧qU s.σ s'.σ)) a1 w1:=by
    intro e1 s2 hb hor
    refine wp_mono (hbody m hmn _ e1 s2 hk hb Γp w1 a1 p2 p3 h5) ?_
    rintro e' a' w' ⟨rfl,g0,Γ2,g1,g2,g3,g4⟩
    have g1:=p1.trans g1
    have g4:=p4.trans g4
    rcases hor with ⟨rfl,hl⟩ | ⟨hne,rfl,rfl⟩
    ·have hJ':J m a' w':=⟨Nat.le_of_succ_le hmn,s2,Γ2,hl,h2.trans g1,g2,g3,g0,h6.trans g4⟩
     exact ⟨⟨m,hJ'⟩,Nat.lt_succ_of_le ((hμ a' w' ⟨m,hJ'⟩).2 m hJ')⟩
    ·cases e1 with
     | normal=>exact absurd rfl hne
     | exit id=>exact ⟨rfl,g0,Γ2,h2.trans g1,g2,g3,h6.trans g4⟩
     | ret=>exact ⟨rfl,g0,Γ2,h2.trans g1,g2,g3,h6.trans g4⟩
   cases hb:Jd C m b (qcR (C.pur b) s1) with
   | none=>rw [hb] at h1;cases h1
   | some r =>
     obtain ⟨e1,s2⟩:=r
     rw [hb] at h1
     cases e1 with
     | normal=>exact run _ _ hb (.inl ⟨rfl,h1⟩)
     | exit id=>simp only [Option.some.injEq,Prod.mk.injEq] at h1;exact run _ _ hb (.inr ⟨by simp,h1.1,h1.2⟩)
     | ret=>simp only [Option.some.injEq,Prod.mk.injEq] at h1;exact run _ _ hb (.inr ⟨by simp,h1.1,h1.2⟩)
theorem qve (hC:yr P C):∀ n,qcK P (Jd C n):=by
 intro n
 induction n using Nat.strongRecOn with
 | _ n ih =>
   cases n with
   | zero=>intro c s e s' _ h;simp [Jd] at h
   | succ n =>
     have ihn:=ih n (Nat.lt_succ_self n)
     intro c s e s' hk h Γ w a hi ht hdf
     cases c with
     | skip =>
       simp only [Jd,qbo,Option.some.injEq,Prod.mk.injEq] at h
       obtain ⟨rfl,rfl⟩:=h
       exact wp_skip ⟨rfl,hdf,Γ,.refl _ _,hi,ht,.refl _⟩
     | label k =>
       simp only [Jd,qbo,Option.some.injEq,Prod.mk.injEq] at h
       obtain ⟨rfl,rfl⟩:=h
       exact wp_label ⟨rfl,hdf,Γ,.refl _ _,hi,ht,.refl _⟩
     | exit id =>
       simp only [Jd,qbo,Option.some.injEq,Prod.mk.injEq] at h
       obtain ⟨rfl,rfl⟩:=h
       exact wp_exit ⟨rfl,hdf,Γ,.refl _ _,hi,ht,.refl _⟩
     | ret =>
       simp only [Jd,qbo,Option.some.injEq,Prod.mk.injEq] at h
       obtain ⟨rfl,rfl⟩:=h
       exact wp_ret ⟨rfl,hdf,Γ,.refl _ _,hi,ht,.refl _⟩
     | region id ops draw =>
       simp only [Jd,qbo] at h
       split at h
       ·rename_i hsp
        have hdr:draw=true:=by unfold qjm at hsp;rw [Bool.and_eq_true] at hsp;exact hsp.1
        subst hdr
        split at h<;>try cases h
        rename_i hgate hrun
        rw [Bool.and_eq_true,Bool.and_eq_true] at hgate
        split at h<;>try cases h
        rename_i hrun2
        split at h<;>cases h
        rename_i hrun3
        refine qCD hC ihn hgate.1 hgate.2.1 hgate.2.2 hrun hrun2 hrun3 hi ht ?_
        intro Γ' w' a' g1 g2 g3 g4 g5
        exact ⟨rfl,by rw [g5,hdf],Γ',g1,g2,g3,g4⟩
       ·split at h
        ·rename_i p htw
         obtain ⟨hdr,_⟩:=qB5 htw
         subst hdr
         split at h<;>try cases h
         rename_i hgate hrun
         split at h<;>cases h
         rename_i hpt hrun2
         refine qDw hC ihn htw hgate hrun hpt hrun2 hi ht ?_
         intro Γ' w' a' g1 g2 g3 g4 g5
         exact ⟨rfl,by rw [g5,hdf],Γ',g1,g2,g3,g4⟩
        ·split at h<;>cases h
         rename_i hgate hrun
         refine qEX hC ihn hgate hrun hi ht ?_
         intro Γ' w' a' g1 g2 g3 g4 g5
         exact ⟨rfl,by rw [g5,hdf],Γ',g1,g2,g3,g4⟩
     | seq x y =>
       simp only [Jd,qbo] at h
       simp only [jK,Bool.and_eq_true] at hk
       refine wp_seq ?_
       cases hx:Jd C n x s with
       | none=>rw [hx] at h;cases h
       | some r =>
         obtain ⟨e1,s1⟩:=r
         rw [hx] at h
         refine wp_mono (ihn x s e1 s1 hk.1 hx Γ w a hi ht hdf) ?_
         rintro e' a' w' ⟨rfl,g0,Γ2,g1,g2,g3,g4⟩
         cases e1 with
         | normal =>
           refine wp_mono (ihn y s1 e s' hk.2 h Γ2 w' a' g2 g3 g0) ?_
           rintro e'' a'' w'' ⟨rfl,q0,Γ3,q1,q2,q3,q4⟩
           exact ⟨rfl,q0,Γ3,g1.trans q1,q2,q3,g4.trans q4⟩
         | exit id=>cases h;exact ⟨rfl,g0,Γ2,g1,g2,g3,g4⟩
         | ret=>cases h;exact ⟨rfl,g0,Γ2,g1,g2,g3,g4⟩
     | cond c x y =>
       simp only [Jd,qbo] at h
       simp only [jK,Bool.and_eq_true] at hk
       have hc:=zk.ev ht c
       split at h
       ·rename_i hcv
        rw [hcv] at hc
        exact wp_cond_true (zw hc) (ihn x s e s' hk.1 h Γ w a hi ht hdf)
       ·rename_i hcv
        rw [hcv] at hc
        exact wp_cond_false (zw hc) (ihn y s e s' hk.2 h Γ w a hi ht hdf)
       ·cases h
     | block id b =>
       simp only [Jd,qbo] at h
       simp only [jK] at hk
       refine wp_block ?_
       cases hx:Jd C n b s with
       | none=>rw [hx] at h;cases h
       | some r =>
         obtain ⟨e1,s1⟩:=r
         rw [hx] at h
         refine wp_mono (ihn b s e1 s1 hk hx Γ w a hi ht hdf) ?_
         rintro e' a' w' ⟨rfl,g0,Γ2,g1,g2,g3,g4⟩
         cases e1 with
         | normal=>cases h;exact ⟨rfl,g0,Γ2,g1,g2,g3,g4⟩
         | ret=>cases h;exact ⟨rfl,g0,Γ2,g1,g2,g3,g4⟩
         | exit i =>
           simp only [Option.some.injEq,Prod.mk.injEq] at h
           obtain ⟨h1,rfl⟩:=h
           show if i=id then _ else _
           split
           ·rename_i hid
            rw [if_pos hid] at h1
            subst h1
            exact ⟨rfl,g0,Γ2,g1,g2,g3,g4⟩
           ·rename_i hid
            rw [if_neg hid] at h1
            subst h1
            exact ⟨rfl,g0,Γ2,g1,g2,g3,g4⟩
     | loop b =>
       exact qIR (n:=n+1) (λ m hm => λ s e s' hk h=>ih m hm b s e s' hk h) hk h hi ht hdf
     | _=>simp only [Jd,qbo] at h;cases h
end
end Go.AmYtbpnmbmdbblehaaGreat
namespace Go.AmYtbpnmbmdbblehaaGreat
open Go Go.RowKit
structure PC where
 ty:Nat→Option TD
 pf:Nat→Option (List AV→Option AV)
 sp:Nat→Option (St→List AV→Option (AV × Option St))
 pur:Code→List Nat
 ld:Nat→Bool
def emp:St:=⟨[],[],[],[]⟩
def Qg (x:AV):Bool:=(rb x).isEmpty&&(rr x).isEmpty
def noRefs (xs:List AV):Bool:=xs.all Qg
def QQ (p:List AV→Option AV):St→List AV→Option (AV × Option St) := λ σ args =>
 match σ with
 | ⟨[],[],[],[]⟩=>match p args with
   | some v=>some (v,none)
   | none=>none
 | _=>none
def PC.prim (c:PC) (f:Nat):Option (St→List AV→Option (AV × Option St)):=match c.pf f with | some p=>some (QQ p) | none=>c.sp f
def PC.raw (c:PC) (f:Nat):Bool:=match c.pf f with | some _=>false | none=>(c.sp f).isSome
def PC.cfg (c:PC):Cfg:=⟨c.ty,λ _=>none,c.prim,c.raw,c.pur,λ f=>c.raw f||c.ld f⟩
def qaK (c:PC) (f:Nat) (σ : St) (args:List AV):Option (AV × Option St) :=
 match c.pf f with
 | some p=>match noRefs (args.map (Qx σ.rw)) with
   | true=>match p (args.map (Qx σ.rw)) with
     | some v=>match Qg v with
       | true=>match qeW v,args.flatMap rsA with
         | true,_=>some (v,none)
         | _,[]=>some (v,none)
         | _,r::l=>some (v,some { σ with rw:=frz σ.rw (r::l),wrr:=(r::l) ++ σ.wrr })
       | false=>none
     | none=>none
   | false=>none
 | none=>match c.sp f with
   | some p=>qbA σ args p
   | none=>none
def qif (c:PC) (tm:List AV) (σ : St) (op:Op):Option (AV × Option St) :=
 match op with
 | .call ⟨.builtin b,args,ts⟩=>je c.cfg σ b ts (args.toList.map (aev tm))
 | .call ⟨.value g,args,_⟩=>match aev tm g with
   | .fn f caps=>qaK c f σ (args.toList.map (aev tm)++caps)
   | _=>none
 | .call _=>none
 | op=>qb c.cfg tm σ op
def jZ (c:PC) (ops:Array Oper) (draw:Bool):List Oper→S→Option S
 | [],s=>some s
 | o::rest,s=>match yq ops s.tm o with
   | some true=>match qif c s.tm s.σ o.op with
     | some (x,none)=>jZ c ops draw rest ⟨qa8 s.tm o.dst x,s.σ⟩
     | some (x,some σ')=>match draw && !yX c.cfg.lo o.op with
       | true=>none
       | false=>jZ c ops draw rest ⟨qa8 s.tm o.dst x,σ'⟩
     | none=>none
   | some false=>jZ c ops draw rest ⟨qa8 s.tm o.dst qjp,s.σ⟩
   | none=>none
def yS (c:PC) (ex:QA):QA
 | .skip,s=>some (.normal,s)
 | .label _,s=>some (.normal,s)
 | .region _ ops draw,s=>match qjm ops draw with
   | true=>match qhU c.cfg.lo ops.toList&&(qaZ c.cfg.lo s.tm ops true&&qaZ c.cfg.lo s.tm ⟨qW c.cfg.lo ops.toList⟩ true),jZ c ⟨qW c.cfg.lo ops.toList⟩ true (qW c.cfg.lo ops.toList) s with
     | true,some s1=>match jZ c ops false (alL c.cfg.lo ops.toList) s1 with
       | some s2=>match jZ c ops true (qnR c.cfg.lo ops.toList) s2 with
         | some s'=>some (.normal,s')
         | none=>none
       | none=>none
     | _,_=>none
   | false=>match qog ops draw with
     | some p=>match qaZ c.cfg.lo s.tm (qby ops) true,jZ c (qby ops) true (qby ops).toList s with
       | true,some s1=>match qAo (s1.tm.getD p .dead),jZ c ops true (qi6 ops) s1 with
         | true,some s'=>some (.normal,s')
         | _,_=>none
       | _,_=>none
     | none=>match qaZ c.cfg.lo s.tm ops draw,jZ c ops draw ops.toList s with
       | true,some s'=>some (.normal,s')
       | _,_=>none
 | .seq a b,s=>match ex a s with
   | some (.normal,s')=>ex b s'
   | r=>r
 | .cond t x y,s=>match aev s.tm t with
   | .v (.bool true)=>ex x s
   | .v (.bool false)=>ex y s
   | _=>none
 | .block id b,s=>match ex b s with
   | some (.exit i,s')=>some (if i=id then .normal else .exit i,s')
   | r=>r
 | .loop b,s=>match ex b (qcR (c.pur b) s) with
   | some (.normal,s')=>ex (.loop b) s'
   | r=>r
 | .exit id,s=>some (.exit id,s)
 | .ret,s=>some (.ret,s)
 | _,_=>none
def zh (c:PC):Nat→QA
 | 0 => λ _ _=>none
 | n+1=>yS c (zh c n)
mutual
theorem qqJ {fb fr:Nat→Nat}:∀ x:AV,rb x=[]→rr x=[]→ren fb fr x=x
 | .v _,_,_=>rfl
 | .dead,_,_=>rfl
 | .sl ..,_,_=>rfl
 | .rs ..,_,h=>by simp [rr] at h
 | .ptr ..,h,_=>by simp [rb] at h
 | .rpt ..,_,h=>by simp [rr] at h
 | .ept ..,_,_=>rfl
 | .fn f cs,h,g=>by rw [ren,qdt cs (by simpa [rb] using h) (by simpa [rr] using g)]
 | .agg cs,h,g=>by rw [ren,qdt cs (by simpa [rb] using h) (by simpa [rr] using g)]
 | .tup cs,h,g=>by rw [ren,qdt cs (by simpa [rb] using h) (by simpa [rr] using g)]
theorem qdt {fb fr:Nat→Nat}:∀ xs:List AV,rbL xs=[]→rrL xs=[]→zd fb fr xs=xs
 | [],_,_=>rfl
 | x::xs,h,g=>by
   simp only [rbL,rrL,List.append_eq_nil_iff] at h g
   rw [zd,qqJ x h.1 g.1,qdt xs h.2 g.2]
end
theorem qgn {x:AV} (h:Qg x=true):rb x=[]∧rr x=[]:=by
 simpa [Qg,List.isEmpty_iff] using h
theorem qhM:∀ {xs:List AV},noRefs xs=true→rbL xs=[]∧rrL xs=[]
 | [],_=>⟨rfl,rfl⟩
 | x::xs,h=>by
   simp only [noRefs,List.all_cons,Bool.and_eq_true] at h
   obtain ⟨h1,h2⟩:=qgn h.1
   obtain ⟨h3,h4⟩:=qhM (xs:=xs) h.2
   exact ⟨by rw [rbL,h1,h3];rfl,by rw [rrL,h2,h4];rfl⟩
theorem qtm {σ : St} {args:List AV} {p:List AV→Option AV} {v:AV} (ha:noRefs args=true) (hp:p args=some v) (hv:Qg v=true):qbA σ args (λ σ args=>QQ p σ args)=some (v,none):=by
 obtain ⟨h1,h2⟩:=qhM ha
 obtain ⟨h3,h4⟩:=qgn hv
 have hb:qbF σ args=[]:=by
  unfold qbF
  rw [h1]
  show qoB σ.bx σ.bx.length []=[]
  cases σ.bx.length with
  | zero=>rfl
  | succ n=>rfl
 have hr:qcT σ args=[]:=by
  unfold qcT
  rw [hb,h2]
  rfl
 unfold qbA
 have hs:qi0 σ args=true:=by
  unfold qi0
  rw [hb,hr,h1,h2];rfl
 rw [hs]
 simp only
 rw [hb,hr,qdt args h1 h2]
 have:qL σ [] []=⟨[],[],[],[]⟩:=rfl
 rw [this]
 simp only [QQ,hp,qm7]
 rw [qqJ v h3 h4]
theorem qFT {c:PC} {ex:QA} {f:Nat} {σ : St} {args:List AV} {r:AV × Option St} (h:qaK c f σ args=some r):qh4 c.cfg ex σ f args=some r:=by
 unfold qaK at h
 split at h
 rotate_left
 ·rename_i hp
  split at h<;>try cases h
  rename_i p hsp
  have hraw:c.cfg.raw f=true:=by show c.raw f=true;unfold PC.raw;rw [hp,hsp];rfl
  have hcf:(λ (σ : St) args=>qdh c.cfg ex σ f args)=p:=by
   funext σ args
   unfold qdh
   simp only [PC.cfg,PC.prim,hp,hsp]
  unfold qh4 qxA
  rw [hraw]
  simp only
  rw [hcf]
  exact h
 rename_i p hp
 split at h<;>try cases h
 rename_i ha
 split at h<;>try cases h
 rename_i v hv
 split at h<;>try cases h
 rename_i hn
 have hcf:∀ σ : St,(λ (σ : St) args=>qdh c.cfg ex σ f args) = λ σ args=>QQ p σ args := λ _=>by
  funext σ args
  unfold qdh
  simp only [PC.cfg,PC.prim,hp]
 have hraw:c.cfg.raw f=false:=by show c.raw f=false;unfold PC.raw;rw [hp]
 unfold qh4 qxA
 rw [hraw]
 obtain ⟨z1,z2⟩:=qhM ha
 cases hrs:args.flatMap rsA with
 | nil =>
   have:r=(v,none):=by
    rw [hrs] at h
    cases hs:qeW v<;>rw [hs] at h<;>cases h<;>rfl
   subst this
   simp only
   rw [hcf σ]
   exact qtm ha hv hn
 | cons q l =>
   simp only
   rw [hcf σ,qtm ha hv hn]
   simp only [qAk,z1,z2,List.isEmpty_nil,Bool.and_true]
   rw [hrs] at h
   cases hs:qeW v with
   | true=>rw [hs] at h;exact h
   | false=>rw [hs] at h;exact h
theorem qBU {c:PC} {ex:QA} {tm:List AV} {σ : St} {op:Op} {r:AV × Option St} (h:qif c tm σ op=some r):opA c.cfg ex tm σ op=some r:=by
 unfold qif at h
 split at h
 ·exact h
 ·rename_i g args ts
  split at h<;>try cases h
  rename_i f caps hf
  simp only [opA,qpi,hf]
  exact qFT h
 ·cases h
 ·rename_i op h1 h2 h3
  unfold opA
  split
  ·rename_i cl
   obtain ⟨cl,ar,ts⟩:=cl
   cases cl with
   | builtin b=>exact absurd rfl (h1 b ar ts)
   | value g=>exact absurd rfl (h2 g ar ts)
   | invoke r n=>exact absurd rfl (h3 _)
  ·exact h
theorem JU {c:PC} {ex:QA} {ops:Array Oper} {draw:Bool}:∀ {l:List Oper} {s s':S},jZ c ops draw l s=some s'→zB c.cfg ex ops draw l s=some s'
 | [],s,s',h=>h
 | o::rest,s,s',h=>by
   simp only [jZ] at h
   simp only [zB]
   split at h
   ·rename_i hw
    rw [hw]
    simp only
    split at h
    ·rename_i x hop
     rw [qBU hop]
     exact JU h
    ·rename_i x σ' hop
     rw [qBU hop]
     simp only
     split at h
     ·cases h
     ·rename_i hd
      rw [hd]
      exact JU h
    ·cases h
   ·rename_i hw
    rw [hw]
    exact JU h
   ·cases h
theorem qzV {c:PC}:∀ {n:Nat} {cd:Code} {s:S} {r:Ex × S},zh c n cd s=some r→Jd c.cfg n cd s=some r:=by
 intro n
 induction n with
 | zero=>intro cd s r h;simp [zh] at h
 | succ n ih =>
   intro cd s r h
   simp only [zh] at h
   simp only [Jd]
   cases cd with
   | region id ops draw =>
     simp only [yS] at h
     simp only [qbo]
     split at h
     ·rename_i hsp
      rw [hsp]
      simp only
      split at h<;>try cases h
      rename_i hg hr
      rw [JU hr,hg]
      simp only
      split at h<;>try cases h
      rename_i hr2
      rw [JU hr2]
      simp only
      split at h<;>cases h
      rename_i hr3
      rw [JU hr3]
     ·rename_i hsp
      rw [hsp]
      simp only
      split at h
      ·rename_i p htw
       rw [htw]
       simp only
       split at h<;>try cases h
       rename_i hg hr
       rw [JU hr,hg]
       simp only
       split at h<;>cases h
       rename_i hg2 hr2
       rw [JU hr2,hg2]
      ·rename_i htw
       rw [htw]
       simp only
       split at h<;>cases h
       rename_i hg hr
       rw [JU hr,hg]
   | seq a b =>
     simp only [yS] at h
     simp only [qbo]
     split at h
     ·rename_i s' ha;rw [ih ha];exact ih h
     ·rename_i r' ha
      cases hx:zh c n a s with
      | none=>rw [hx] at h;cases h
      | some q =>
        rw [hx] at h;cases h
        rw [ih hx]
        obtain ⟨e,s'⟩:=r
        cases e with
        | normal=>exact absurd hx (ha s')
        | exit i=>rfl
        | ret=>rfl
   | cond t x y =>
     simp only [yS] at h
     simp only [qbo]
     split at h
     ·rename_i ht;rw [ht];exact ih h
     ·rename_i ht;rw [ht];exact ih h
     ·cases h
   | block id b =>
     simp only [yS] at h
     simp only [qbo]
     cases hx:zh c n b s with
     | none=>rw [hx] at h;cases h
     | some q=>rw [hx] at h;rw [ih hx];exact h
   | loop b =>
     simp only [yS] at h
     simp only [qbo]
     cases hx:zh c n b (qcR (c.pur b) s) with
     | none=>rw [hx] at h;cases h
     | some q =>
       rw [hx] at h;rw [show Jd c.cfg n b (qcR (c.cfg.pur b) s)=_ from ih hx]
       obtain ⟨e,s'⟩:=q
       cases e with
       | normal=>exact ih h
       | exit i=>exact h
       | ret=>exact h
   | _=>exact h
theorem qCF {c:PC}:∀ {n:Nat} {cd:Code} {s:S} {r:Ex × S},zh c n cd s=some r→zh c (n+1) cd s=some r:=by
 intro n
 induction n with
 | zero=>intro cd s r h;simp [zh] at h
 | succ n ih =>
   intro cd s r h
   rw [zh] at h ⊢
   cases cd with
   | seq a b =>
     simp only [yS] at h ⊢
     split at h
     ·rename_i s' ha;rw [ih ha];exact ih h
     ·rename_i r' ha
      cases hx:zh c n a s with
      | none=>rw [hx] at h;cases h
      | some q =>
        rw [hx] at h;cases h
        rw [ih hx]
        obtain ⟨e,s'⟩:=r
        cases e with
        | normal=>exact absurd hx (ha s')
        | exit i=>rfl
        | ret=>rfl
   | cond t x y =>
     simp only [yS] at h ⊢
     split at h
     ·rename_i ht;exact ih h
     ·rename_i ht;exact ih h
     ·cases h
   | block id b =>
     simp only [yS] at h ⊢
     cases hx:zh c n b s with
     | none=>rw [hx] at h;cases h
     | some q=>rw [hx] at h;rw [ih hx];exact h
   | loop b =>
     simp only [yS] at h ⊢
     cases hx:zh c n b (qcR (c.pur b) s) with
     | none=>rw [hx] at h;cases h
     | some q =>
       rw [hx] at h;rw [ih hx]
       obtain ⟨e,s'⟩:=q
       cases e with
       | normal=>exact ih h
       | exit i=>exact h
       | ret=>exact h
   | _=>exact h
theorem qnd {c:PC} {n m:Nat} (hle:n≤m) {cd:Code} {s:S} {r:Ex × S} (h:zh c n cd s=some r):zh c m cd s=some r:=by
 induction hle with
 | refl=>exact h
 | step _ ih=>exact qCF ih
def Run (c:PC) (cd:Code) (s:S) (K:Ex→S→Prop):Prop:=∃ n e s',zh c n cd s=some (e,s')∧K e s'
inductive It where
 | code (c:Code) | blk (id:Nat) | ops (os:Array Oper) (draw:Bool) (rest:List Oper)
def Go (c:PC) (Q:Ex→S→Prop):List It→Ex→S→Prop
 | [],e,s=>Q e s
 | .code cd::k,.normal,s=>Run c cd s λ e s'=>Go c Q k e s'
 | .code _::k,e,s=>Go c Q k e s
 | .blk id::k,.exit i,s=>Go c Q k (if i=id then .normal else .exit i) s
 | .blk _::k,e,s=>Go c Q k e s
 | .ops os d rest::k,.normal,s=>∃ s',jZ c os d rest s=some s'∧Go c Q k .normal s'
 | .ops _ _ _::k,e,s=>Go c Q k e s
section
variable {c:PC} {Q:Ex→S→Prop} {k:List It} {tm:List AV} {σ : St} {s:S}
theorem qD8 {cd:Code} {K:Ex→S→Prop} (h:∀ n,∀ r,yS c (zh c n) cd s=some r↔r=(.normal,s)):Run c cd s K↔K .normal s:=by
 constructor
 ·rintro ⟨n,e,s',h1,h2⟩
  cases n with
  | zero=>simp [zh] at h1
  | succ n=>have:=(h n _).1 h1;cases this;exact h2
 ·intro hk;exact ⟨1,_,_,(h 0 _).2 rfl,hk⟩
theorem qJY (e:Ex):Go c Q [] e s=Q e s:=rfl
theorem qHC:Go c Q (.code .skip::k) .normal s=Go c Q k .normal s :=
 propext (qD8 (c:=c) (s:=s) (cd := .skip) (K := λ e s'=>Go c Q k e s') λ n r=>⟨λ h=>by cases h;rfl,λ h=>by rw [h];rfl⟩)
theorem qFV (l:Nat):Go c Q (.code (.label l)::k) .normal s=Go c Q k .normal s :=
 propext (qD8 (c:=c) (s:=s) (cd := .label l) (K := λ e s'=>Go c Q k e s') λ n r=>⟨λ h=>by cases h;rfl,λ h=>by rw [h];rfl⟩)
theorem qIH (id:Nat):Go c Q (.code (.exit id)::k) .normal s=Go c Q k (.exit id) s:=by
 apply propext
 constructor
 ·rintro ⟨n,e,s',h1,h2⟩
  cases n with
  | zero=>simp [zh] at h1
  | succ n=>simp only [zh,yS,Option.some.injEq,Prod.mk.injEq] at h1;obtain ⟨rfl,rfl⟩:=h1;exact h2
 ·intro h;exact ⟨1,_,_,rfl,h⟩
theorem qIF:Go c Q (.code .ret::k) .normal s=Go c Q k .ret s:=by
 apply propext
 constructor
 ·rintro ⟨n,e,s',h1,h2⟩
  cases n with
  | zero=>simp [zh] at h1
  | succ n=>simp only [zh,yS,Option.some.injEq,Prod.mk.injEq] at h1;obtain ⟨rfl,rfl⟩:=h1;exact h2
 ·intro h;exact ⟨1,_,_,rfl,h⟩
theorem qAu (cd:Code):Go c Q (.code cd::k) .ret s=Go c Q k .ret s:=rfl
theorem qAl (cd:Code) (i:Nat):Go c Q (.code cd::k) (.exit i) s=Go c Q k (.exit i) s:=rfl
theorem qwV (id:Nat):Go c Q (.blk id::k) .normal s=Go c Q k .normal s:=rfl
theorem qC5 (id:Nat):Go c Q (.blk id::k) .ret s=Go c Q k .ret s:=rfl
theorem qAB (id i:Nat):Go c Q (.blk id::k) (.exit i) s=Go c Q k (if i=id then .normal else .exit i) s:=rfl
theorem qJJ (a b:Code):Go c Q (.code (.seq a b)::k) .normal s=Go c Q (.code a :: .code b::k) .normal s:=by
 apply propext
 show Run c (.seq a b) s (λ e s'=>Go c Q k e s')↔Run c a s λ e s'=>Go c Q (.code b::k) e s'
 constructor
 ·rintro ⟨n,e,s',h1,h2⟩
  cases n with
  | zero=>simp [zh] at h1
  | succ n =>
    simp only [zh,yS] at h1
    split at h1
    ·rename_i s1 ha;exact ⟨n,_,s1,ha,n,e,s',h1,h2⟩
    ·rename_i hne
     refine ⟨n,e,s',h1,?_⟩
     cases e with
     | normal=>exact absurd h1 (hne s')
     | exit i=>exact h2
     | ret=>exact h2
 ·rintro ⟨n,e,s1,h1,h2⟩
  cases e with
  | normal =>
    obtain ⟨m,e,s',h3,h4⟩:=h2
    refine ⟨n+m+1,e,s',?_,h4⟩
    simp only [zh,yS]
    rw [qnd (by omega) h1]
    exact qnd (by omega) h3
  | exit i=>exact ⟨n+1,_,s1,by simp only [zh,yS];rw [h1],h2⟩
  | ret=>exact ⟨n+1,_,s1,by simp only [zh,yS];rw [h1],h2⟩
theorem qHy (id:Nat) (b:Code):Go c Q (.code (.block id b)::k) .normal s=Go c Q (.code b :: .blk id::k) .normal s:=by
 apply propext
 show Run c (.block id b) s (λ e s'=>Go c Q k e s')↔Run c b s λ e s'=>Go c Q (.blk id::k) e s'
 constructor
 ·rintro ⟨n,e,s',h1,h2⟩
  cases n with
  | zero=>simp [zh] at h1
  | succ n =>
    simp only [zh,yS] at h1
    cases hx:zh c n b s with
    | none=>rw [hx] at h1;cases h1
    | some q =>
      rw [hx] at h1
      obtain ⟨e1,s1⟩:=q
      refine ⟨n,e1,s1,hx,?_⟩
      cases e1<;>(simp only [Option.some.injEq,Prod.mk.injEq] at h1;obtain ⟨rfl,rfl⟩:=h1;exact h2)
 ·rintro ⟨n,e,s1,h1,h2⟩
  cases e with
  | normal=>exact ⟨n+1,_,s1,by simp only [zh,yS];rw [h1],h2⟩
  | exit i=>exact ⟨n+1,_,s1,by simp only [zh,yS];rw [h1],h2⟩
  | ret=>exact ⟨n+1,_,s1,by simp only [zh,yS];rw [h1],h2⟩
theorem qt9 (b:Code):Go c Q (.code (.loop b)::k) .normal s=Go c Q (.code b :: .code (.loop b)::k) .normal (qcR (c.pur b) s):=by
 apply propext
 show Run c (.loop b) s (λ e s'=>Go c Q k e s')↔Run c b (qcR (c.pur b) s) λ e s'=>Go c Q (.code (.loop b)::k) e s'
 constructor
 ·rintro ⟨n,e,s',h1,h2⟩
  cases n with
  | zero=>simp [zh] at h1
  | succ n =>
    simp only [zh,yS] at h1
    split at h1
    ·rename_i s1 ha;exact ⟨n,_,s1,ha,n,e,s',h1,h2⟩
    ·rename_i hne
     refine ⟨n,e,s',h1,?_⟩
     cases e with
     | normal=>exact absurd h1 (hne s')
     | exit i=>exact h2
     | ret=>exact h2
 ·rintro ⟨n,e,s1,h1,h2⟩
  cases e with
  | normal =>
    obtain ⟨m,e,s',h3,h4⟩:=h2
    refine ⟨n+m+1,e,s',?_,h4⟩
    simp only [zh,yS]
    rw [qnd (by omega) h1]
    exact qnd (by omega) h3
  | exit i=>exact ⟨n+1,_,s1,by simp only [zh,yS];rw [h1],h2⟩
  | ret=>exact ⟨n+1,_,s1,by simp only [zh,yS];rw [h1],h2⟩
theorem qFB (rw:List Row) (y:AV):rsA (Qx rw y)=[]:=by
 have h1:∀ x,rsC (zr rw x)=[]:=by
  intro x
  cases x with
  | rs r lo n ep f =>
    simp only [zr]
    split
    ·split<;>rfl
    ·rfl
  | _=>rfl
 cases y with
 | agg cs =>
   show (cs.map (zr rw)).flatMap rsC=[]
   rw [List.flatMap_map]
   exact List.flatMap_eq_nil_iff.2 λ x _=>h1 x
 | rs r lo n ep f =>
   show rsA (zr rw (.rs r lo n ep f))=[]
   simp only [zr]
   split
   ·split<;>rfl
   ·rfl
 | _=>rfl
def qCN (ts:List Nat) (s:S):Prop:=∀ t∈ts,rsA (s.tm.getD t .dead)=[]
theorem qDi (s:S) (t u:Nat) (h:u=t∨rsA (s.tm.getD u .dead)=[]):rsA ((qbC s t).tm.getD u .dead)=[]:=by
 unfold qbC
 cases hr:rsA (s.tm.getD t .dead) with
 | nil =>
   rcases h with rfl | h
   ·exact hr
   ·exact h
 | cons r l =>
   show rsA ((s.tm.set t _).getD u .dead)=[]
   by_cases hu:t=u
   ·subst hu
    have hlt:t<s.tm.length:=by
     apply Nat.lt_of_not_le
     intro hle
     rw [List.getD_eq_getElem?_getD,List.getElem?_eq_none hle] at hr
     cases hr
    rw [List.getD_eq_getElem?_getD,List.getElem?_set_self hlt]
    exact qFB _ _
   ·rw [List.getD_eq_getElem?_getD,List.getElem?_set_ne hu,← List.getD_eq_getElem?_getD]
    rcases h with rfl | h
    ·exact absurd rfl hu
    ·exact h
theorem qsX:∀ (ts:List Nat) (s:S) (us:List Nat),qCN us s→qCN (us++ts) (qcR ts s)
 | [],s,us,h=>by rw [List.append_nil];exact h
 | t::ts,s,us,h=>by
   have:=qsX ts (qbC s t) (us++[t]) (λ u hu=>qDi s t u (by
    rcases List.mem_append.1 hu with hu | hu
    ·exact .inr (h u hu)
    ·exact .inl (by simpa using hu)))
   rw [List.append_assoc] at this
   exact this
theorem qCd:∀ (ts:List Nat) (s:S),qCN ts s→qcR ts s=s
 | [],s,h=>rfl
 | t::ts,s,h=>by
   have e:qbC s t=s:=by unfold qbC;rw [h t (List.mem_cons_self ..)]
   show qcR ts (qbC s t)=s
   rw [e]
   exact qCd ts s λ u hu=>h u (List.mem_cons_of_mem _ hu)
theorem qJT (b:Code):Go c Q (.code (.loop b)::k) .normal (qcR (c.pur b) s)=Go c Q (.code (.loop b)::k) .normal s:=by
 rw [qt9,qt9,qCd _ _ (by have:=qsX (c.pur b) s [] (λ _ h=>by cases h);simpa using this)]
def qCX (c:PC) (Q:Ex→S→Prop) (k:List It) (s:S) (x y:Code):AV→Prop
 | .v (.bool true)=>Go c Q (.code x::k) .normal s
 | .v (.bool false)=>Go c Q (.code y::k) .normal s
 | _=>False
theorem qH8 (t:Operand) (x y:Code):Go c Q (.code (.cond t x y)::k) .normal ⟨tm,σ⟩=qCX c Q k ⟨tm,σ⟩ x y (aev tm t):=by
 apply propext
 show Run c (.cond t x y) ⟨tm,σ⟩ (λ e s'=>Go c Q k e s')↔_
 constructor
 ·rintro ⟨n,e,s',h1,h2⟩
  cases n with
  | zero=>simp [zh] at h1
  | succ n =>
    simp only [zh,yS] at h1
    split at h1
    ·rename_i ht;rw [ht];exact ⟨n,e,s',h1,h2⟩
    ·rename_i ht;rw [ht];exact ⟨n,e,s',h1,h2⟩
    ·cases h1
 ·intro h
  unfold qCX at h
  split at h
  ·rename_i ht;obtain ⟨n,e,s',h1,h2⟩:=h;exact ⟨n+1,e,s',by simp only [zh,yS,ht];exact h1,h2⟩
  ·rename_i ht;obtain ⟨n,e,s',h1,h2⟩:=h;exact ⟨n+1,e,s',by simp only [zh,yS,ht];exact h1,h2⟩
  ·exact h.elim
theorem qDX (x y:Code):qCX c Q k s x y (.v (.bool true))=Go c Q (.code x::k) .normal s:=rfl
theorem qDa (x y:Code):qCX c Q k s x y (.v (.bool false))=Go c Q (.code y::k) .normal s:=rfl
theorem qCV (id:Nat) (l:List Oper) (d:Bool) {p:Tmp} (hsp:qjm ⟨l⟩ d=false) (htw:qog ⟨l⟩ d=some p) (hg:qaZ c.cfg.lo s.tm (qby ⟨l⟩) true=true) (h:Go c (λ e s1=>qAo (s1.tm.getD p .dead)=true∧Go c Q (.ops ⟨l⟩ true (qi6 ⟨l⟩)::k) .normal s1) (.ops (qby ⟨l⟩) true (qby ⟨l⟩).toList::[]) .normal s):Go c Q (.code (.region id ⟨l⟩ d)::k) .normal s:=by
 obtain ⟨s1,h1,hp,s2,h2,h3⟩:=h
 refine ⟨1,.normal,s2,?_,h3⟩
 simp only [zh,yS,hsp,htw]
 rw [hg,h1]
 simp only
 rw [hp,h2]
theorem qD9 (id:Nat) (l:List Oper) (d:Bool) (hsp:qjm ⟨l⟩ d=false) (htw:qog ⟨l⟩ d=none):Go c Q (.code (.region id ⟨l⟩ d)::k) .normal s=(qaZ c.cfg.lo s.tm ⟨l⟩ d=true∧Go c Q (.ops ⟨l⟩ d l::k) .normal s):=by
 apply propext
 constructor
 ·rintro ⟨n,e,s',h1,h2⟩
  cases n with
  | zero=>simp [zh] at h1
  | succ n =>
    simp only [zh,yS,hsp,htw] at h1
    split at h1<;>cases h1
    rename_i hg hr
    exact ⟨hg,_,hr,h2⟩
 ·rintro ⟨hg,s',h1,h2⟩
  exact ⟨1,.normal,s',by simp only [zh,yS,hsp,htw];rw [hg,h1],h2⟩
theorem qDc (id:Nat) (l:List Oper) (d:Bool) (hsp:qjm ⟨l⟩ d=true) (hl:qhU c.cfg.lo l=true) (hg0:qaZ c.cfg.lo s.tm ⟨l⟩ true=true) (hg:qaZ c.cfg.lo s.tm ⟨qW c.cfg.lo l⟩ true=true) (h:Go c Q (.ops ⟨qW c.cfg.lo l⟩ true (qW c.cfg.lo l) :: .ops ⟨l⟩ false (alL c.cfg.lo l) :: .ops ⟨l⟩ true (qnR c.cfg.lo l)::k) .normal s):Go c Q (.code (.region id ⟨l⟩ d)::k) .normal s:=by
 obtain ⟨s1,h1,s2,h2,s3,h3,h4⟩:=h
 refine ⟨1,.normal,s3,?_,h4⟩
 simp only [zh,yS,hsp]
 rw [hl,hg0,hg,h1]
 simp only [Bool.and_self]
 rw [h2]
 simp only
 rw [h3]
theorem qCU (os:Array Oper) (d:Bool):Go c Q (.ops os d []::k) .normal s=Go c Q k .normal s:=by
 apply propext
 constructor
 ·rintro ⟨s',h1,h2⟩;simp only [jZ,Option.some.injEq] at h1;subst h1;exact h2
 ·intro h;exact ⟨s,rfl,h⟩
def qpA (c:PC) (Q:Ex→S→Prop) (k:List It) (os:Array Oper) (d l:Bool) (rest:List Oper) (dst:Option Tmp) (tm:List AV) (σ : St):Option (AV × Option St)→Prop
 | some (x,none)=>Go c Q (.ops os d rest::k) .normal ⟨qa8 tm dst x,σ⟩
 | some (x,some σ')=>(d && !l)=false∧Go c Q (.ops os d rest::k) .normal ⟨qa8 tm dst x,σ'⟩
 | none=>False
def qoC (c:PC) (Q:Ex→S→Prop) (k:List It) (os:Array Oper) (d:Bool) (rest:List Oper) (o:Oper) (tm:List AV) (σ : St):Option Bool→Prop
 | some true=>qpA c Q k os d (yX c.cfg.lo o.op) rest o.dst tm σ (qif c tm σ o.op)
 | some false=>Go c Q (.ops os d rest::k) .normal ⟨qa8 tm o.dst qjp,σ⟩
 | none=>False
theorem qJD (os:Array Oper) (d:Bool) (o:Oper) (rest:List Oper):Go c Q (.ops os d (o::rest)::k) .normal ⟨tm,σ⟩=qoC c Q k os d rest o tm σ (yq os tm o):=by
 apply propext
 constructor
 ·rintro ⟨s',h1,h2⟩
  simp only [jZ] at h1
  unfold qoC
  split at h1
  ·rename_i hw
   unfold qpA
   split at h1
   ·rename_i x hp;exact ⟨s',h1,h2⟩
   ·rename_i x σ' hp
    split at h1
    ·cases h1
    ·rename_i hd;exact ⟨hd,s',h1,h2⟩
   ·cases h1
  ·rename_i hw;exact ⟨s',h1,h2⟩
  ·cases h1
 ·intro h
  unfold qoC at h
  split at h
  ·rename_i hw
   unfold qpA at h
   split at h
   ·rename_i x hp
    obtain ⟨s',h1,h2⟩:=h
    exact ⟨s',by simp only [jZ,hw,hp];exact h1,h2⟩
   ·rename_i x σ' hp
    obtain ⟨hd,s',h1,h2⟩:=h
    exact ⟨s',by simp only [jZ,hw,hp,hd];exact h1,h2⟩
   ·exact h.elim
  ·rename_i hw
   obtain ⟨s',h1,h2⟩:=h
   exact ⟨s',by simp only [jZ,hw];exact h1,h2⟩
  ·exact h.elim
end
end Go.AmYtbpnmbmdbblehaaGreat
namespace Go.AmYtbpnmbmdbblehaaGreat
open Go Go.RowKit
def Sub (x y:AV):Prop:=∀ Γ u,Rep Γ x u→Rep Γ y u
theorem Sub.refl (x:AV):Sub x x := λ _ _ h=>h
inductive jU:List AV→List AV→Prop
 | nil:jU [] []
 | cons {x y:AV} {xs ys:List AV}:Sub x y→jU xs ys→jU (x::xs) (y::ys)
theorem jU.refl:∀ xs,jU xs xs
 | [] => .nil
 | x::xs => .cons (.refl x) (.refl xs)
theorem jU.rep {Γ : Gh}:∀ {xs ys:List AV} {us:List Value},jU xs ys→RepL Γ xs us→RepL Γ ys us
 | _,_,_,.nil,h=>h
 | _,_,us,.cons h t,g=>by
   obtain ⟨u,r,rfl,h1,h2⟩:=g.uncons
   exact .cons (h Γ u h1) (t.rep h2)
theorem jU.tup {xs ys:List AV} (h:jU xs ys):Sub (.tup xs) (.tup ys):=by
 intro Γ u hu
 cases hu with
 | tup cs us hn hr =>
   have:=h.rep (RepL.mk hn hr)
   exact .tup _ _ this.len this.rep
theorem qII {P:Program} {C:Cfg} {Γ : Gh} {σ : St} {w:World} (hC:yr P C) {f:FuncId} {fn:Func} {c:Code} (h1:P.funcs[f]? = some fn) (hc:fn.body=some c) (hd:jK c=true) {args:List AV} {vals:List Value} {r:AV × Option St} (hi:Inv Γ σ w) (hr:RepL Γ args vals)
  {n:Nat} {e:Ex} {s':S} (he:Jd C n c (qgx fn σ args)=some (e,s')) (hee:e = .ret∨e = .normal) (hl:qh8 C fn σ s'=some r):jJ P Γ σ w f vals r:=by
 unfold jJ
 refine calls_of_wp h1 hc ?_
 have hi':Inv Γ (qgx fn σ args).σ w:=hi.wr rfl rfl
 have ht:zk Γ (qgx fn σ args).tm { tmps:=vals.toArray++Array.replicate (fn.ntmps-vals.toArray.size) undef,defers:=[] }:=by
  show RepL Γ (args++List.replicate (fn.ntmps-args.length) .dead) (vals.toArray++Array.replicate (fn.ntmps-vals.toArray.size) undef).toList
  rw [Array.toList_append,Array.toList_replicate]
  have:vals.toArray.size=args.length:=by simpa using hr.len
  rw [this]
  exact hr.append (qfi Γ _)
 refine wp_mono (qve hC n c _ e s' hd he Γ w _ hi' ht rfl) ?_
 rintro e' a' w' ⟨rfl,hd,Γ',g1,g2,g3,g4⟩
 unfold qh8 at hl
 split at hl<;>cases hl
 rename_i rv hrv
 obtain ⟨v,q1,q2⟩:=qme hC.ty g2 g3 hrv
 obtain ⟨⟨Γ2,u1,u2,u3⟩,u4⟩:=qEO hi g1 g2 g4 q2
 have:a'.defers=[]∧∃ v,(results fn a'.tmps).run P w' = .ok v w'∧∃ v_1 Γ',Ending.returned v = .returned v_1∧Ext Γ w Γ' w'∧Inv Γ' (turn σ (qaE σ rv s'.σ).2) w'∧Rep Γ' (qaE σ rv s'.σ).1 v_1∧qU { σ with wr:=[],wrr:=[] } (turn { σ with wr:=[],wrr:=[] } (qaE σ rv s'.σ).2) :=
  ⟨hd,v,q1,v,Γ2,rfl,u1,u2,u3,u4⟩
 rcases hee with rfl | rfl
 ·exact this
 ·exact this
def Ret (c:PC) (rs:List ResultVar) (Pr:AV→Prop) (e:Ex) (s:S):Prop :=
 (e = .ret∨e = .normal)∧match QZ c.cfg s.tm s.σ rs with
  | some l=>refs 0 0 (qhe 0 s.σ.rw (zF l))=false∧Pr (qhe 0 s.σ.rw (zF l))
  | none=>False
def GoB (c:PC) (Pr:AV→Prop) (fn:Func) (args:List AV):Prop :=
 match fn.body with
 | some cd=>Go c (Ret c fn.results.toList Pr) [.code cd] .normal ⟨args++List.replicate (fn.ntmps-args.length) .dead,emp⟩
 | none=>False
def qbL (fn:Func):Bool:=match fn.body with
 | some cd=>jK cd && !(fn.name == "runtime.NumGoroutine")
 | none=>false
theorem yr.pur {P:Program} {C:Cfg} (h:yr P C) (p:Code→List Nat) (q:Nat→Bool):yr P { C with pur:=p,lo:=q }:=⟨h.mixed,h.ty,h.fn,h.prim⟩
theorem qFy {P:Program} {c:PC} (hC:yr P c.cfg) {f:FuncId} {fn:Func} (hf:P.funcs[f]? = some fn) (hb:qbL fn=true) (p:List AV→Option AV)
  (h:∀ args r,p args=some r→∃ args' Pr p q,jU args args'∧(∀ v,Pr v→Sub v r)∧GoB { c with pur:=p,ld:=q } Pr fn args'):qY P f (QQ p):=by
 unfold qbL at hb
 cases hc:fn.body with
 | none=>rw [hc] at hb;cases hb
 | some cd =>
 rw [hc] at hb
 simp only [Bool.and_eq_true,Bool.not_eq_true'] at hb
 obtain ⟨hd,hn⟩:=hb
 refine ⟨⟨fn,hf,by rw [hc];rfl,hn⟩,λ Γ σ w args vals r hi hr hp=>?_⟩
 unfold QQ at hp
 split at hp<;>try cases hp
 split at hp<;>cases hp
 rename_i v hv
 obtain ⟨args',Pr,pp,qq,g1,g2,hgo⟩:=h args v hv
 have hC:yr P (PC.cfg { c with pur:=pp,ld:=qq }):=hC.pur pp _
 unfold GoB at hgo
 rw [hc] at hgo
 obtain ⟨n,e,s',g3,g4,g0⟩:=hgo
 split at g0
 case h_2=>exact g0.elim
 rename_i l hl
 obtain ⟨g6,g7⟩:=g0
 have g5:qg9 (PC.cfg { c with pur:=pp,ld:=qq }) fn s'=some (zF l):=by
  unfold qg9
  rw [hl]
 generalize zF l=rv at g5 g6 g7
 have hl:qh8 (PC.cfg { c with pur:=pp,ld:=qq }) fn emp s'=some (qhe 0 s'.σ.rw rv,none):=by
  unfold qh8
  rw [g5]
  simp only [qaE]
  have f1:(s'.σ.wr.filter λ b=>decide (b<emp.bx.length))=[]:=List.filter_eq_nil_iff.2 λ b _=>by simp [emp]
  have f2:(s'.σ.wrr.filter λ b=>decide (b<emp.rw.length))=[]:=List.filter_eq_nil_iff.2 λ b _=>by simp [emp]
  have hk:qm6 emp rv s'.σ = false:=by
   unfold qm6
   rw [f1]
   show (refs 0 0 (qhe 0 s'.σ.rw rv)||false)=false
   rw [g6];rfl
  rw [hk,f1,f2]
  rfl
 have hcall:=qII (f:=f) (σ := emp) hC hf hc hd hi (g1.rep hr) (qzV g3) g4 hl
 refine Calls.mono hcall ?_
 rintro e' w' ⟨v',Γ',q1,q2,q3,q4,q5⟩
 exact ⟨v',Γ',q1,q2,q3,g2 _ g7 Γ' v' q4,q5⟩
section
variable {c:PC} {Q:Ex→S→Prop} {k:List It} {tm:List AV} {σ : St} {os:Array Oper} {d:Bool} {rest:List Oper} {dst:Option Tmp}
def qH0 (c:PC) (Q:Ex→S→Prop) (k:List It) (os:Array Oper) (d:Bool) (rest:List Oper) (dst:Option Tmp) (tm:List AV) (σ : St) (x:AV):Prop:=Go c Q (.ops os d rest::k) .normal ⟨qa8 tm dst x,σ⟩
theorem qCn (l:Bool) (x:AV):qpA c Q k os d l rest dst tm σ (some (x,none))=qH0 c Q k os d rest dst tm σ x:=rfl
theorem qIX (l:Bool) (x:AV) (σ':St):qpA c Q k os d l rest dst tm σ (some (x,some σ'))=((d && !l)=false∧qH0 c Q k os d rest dst tm σ' x):=rfl
theorem qFv (o:Oper):qoC c Q k os d rest o tm σ (some true)=qpA c Q k os d (yX c.cfg.lo o.op) rest o.dst tm σ (qif c tm σ o.op):=rfl
theorem qDU (o:Oper):qoC c Q k os d rest o tm σ (some false)=Go c Q (.ops os d rest::k) .normal ⟨qa8 tm o.dst qjp,σ⟩:=rfl
end
end Go.AmYtbpnmbmdbblehaaGreat
namespace Go.GxYtbpnmbmdbblehaaGreat
open Go.RowKit
inductive T where
 | mk (kind:Int) (name:List UInt8) (sort:Int) (kids:List T)
namespace T
def kind:T→Int | mk k _ _ _=>k
def name:T→List UInt8 | mk _ n _ _=>n
def sort:T→Int | mk _ _ s _=>s
def kids:T→List T | mk _ _ _ l=>l
noncomputable def para {α : Type} (f:T→List α → α) (t:T) : α :=
 T.rec (motive_1 := λ _ => α) (motive_2 := λ _=>List α) (λ k n s l ih=>f (mk k n s l) ih) [] (λ _ _ a b=>a::b) t
theorem para_eq {α : Type} (f:T→List α → α) (t:T):para f t=f t (t.kids.map (para f)):=by
 obtain ⟨k,n,s,l⟩:=t
 show f (mk k n s l) _=f (mk k n s l) _
 congr 1
 show T.rec_1 (motive_1 := λ _ => α) (motive_2 := λ _=>List α) _ _ _ l=l.map (para f)
 induction l with
 | nil=>rfl
 | cons a l ih=>exact congrArg (para f a :: ·) ih
theorem ind {P:T→Prop} (h:∀ t,(∀ k∈t.kids,P k)→P t) (t:T):P t :=
 T.rec (motive_1:=P) (motive_2 := λ l=>∀ k∈l,P k) (λ _ _ _ _ ih=>h _ ih) (λ k hk=>by cases hk)
  (λ a l ha hl k hk=>by rcases List.mem_cons.1 hk with rfl | hk;exact ha;exact hl k hk) t
end T
def qdN {α : Type} (k:Nat) (R : α → List Value→Prop) (Q:Nat→Prop) (w:World) (a:Option Addr) (xs:List α):Prop :=
 ∀ (j:Nat) (x : α),xs[j]? = some x→∃ b off cs,a=some ⟨b,off,none⟩∧Q b∧cs.length=k∧(∀ (i:Nat) (c:Value),cs[i]? = some c→w.cell? ⟨b,off+j*k+i,none⟩=some c)∧R x cs
noncomputable def QO (Q:Nat→Prop) (w:World):T→List Value→Prop :=
 T.para λ t rs cs=>∃ a c,cs=[.int .i64 t.kind,.string ⟨t.name.toArray⟩,.int .i64 t.sort,.slice a rs.length c]∧qdN 4 (λ r cs=>r cs) Q w a rs
theorem qk2 {Q:Nat→Prop} {w:World} {t:T} {cs:List Value} :
  QO Q w t cs↔∃ a c,cs=[.int .i64 t.kind,.string ⟨t.name.toArray⟩,.int .i64 t.sort,.slice a t.kids.length c]∧qdN 4 (QO Q w) Q w a t.kids:=by
 unfold QO
 rw [T.para_eq]
 simp only [List.length_map]
 refine exists_congr λ a=>exists_congr λ c=>and_congr Iff.rfl ?_
 constructor
 ·intro h j x hj
  obtain ⟨b,off,cs,h1,h2,h3,h4,h5⟩:=h j _ (by rw [List.getElem?_map,hj];rfl)
  exact ⟨b,off,cs,h1,h2,h3,h4,h5⟩
 ·intro h j r hj
  rw [List.getElem?_map,Option.map_eq_some_iff] at hj
  obtain ⟨x,hx,rfl⟩:=hj
  exact h j x hx
theorem qdN.mono {α : Type} {k:Nat} {R R' : α → List Value→Prop} {Q Q':Nat→Prop} {w:World} {a:Option Addr} {xs:List α} (h:qdN k R Q w a xs) (hQ:∀ b,Q b→Q' b) (hR:∀ x∈xs,∀ cs,R x cs→R' x cs):qdN k R' Q' w a xs :=
 λ j x hj=>let ⟨b,off,cs,h1,h2,h3,h4,h5⟩:=h j x hj;⟨b,off,cs,h1,hQ b h2,h3,h4,hR x (List.mem_of_getElem? hj) cs h5⟩
theorem qdN.below {α : Type} {k:Nat} {R R' : α → List Value→Prop} {Q:Nat→Prop} {w w':World} {a:Option Addr} {xs:List α} (h:qdN k R Q w a xs) (hb:∀ b,Q b→w'.heap[b]? = w.heap[b]?) (hR:∀ x∈xs,∀ cs,R x cs→R' x cs):qdN k R' Q w' a xs :=
 λ j x hj=>let ⟨b,off,cs,h1,h2,h3,h4,h5⟩:=h j x hj;⟨b,off,cs,h1,h2,h3,λ i c hc=>(World.cell?_of_block (w:=w) (a:=⟨b,off+j*k+i,none⟩) (hb b h2)).trans (h4 i c hc),hR x (List.mem_of_getElem? hj) cs h5⟩
theorem QO.mono {Q Q':Nat→Prop} {w:World} (hQ:∀ b,Q b→Q' b) (t:T):∀ {cs:List Value},QO Q w t cs→QO Q' w t cs:=by
 refine T.ind (P := λ t=>∀ {cs:List Value},QO Q w t cs→QO Q' w t cs) ?_ t
 intro t ih cs h
 rw [qk2] at h ⊢
 obtain ⟨a,c,h1,h2⟩:=h
 exact ⟨a,c,h1,h2.mono hQ λ x hx cs h=>ih x hx h⟩
theorem QO.keep {Q:Nat→Prop} {w w':World} (hb:∀ b,Q b→w'.heap[b]? = w.heap[b]?) (t:T):∀ {cs:List Value},QO Q w t cs→QO Q w' t cs:=by
 refine T.ind (P := λ t=>∀ {cs:List Value},QO Q w t cs→QO Q w' t cs) ?_ t
 intro t ih cs h
 rw [qk2] at h ⊢
 obtain ⟨a,c,h1,h2⟩:=h
 exact ⟨a,c,h1,h2.below hb λ x hx cs h=>ih x hx h⟩
def qHX (t:T) (a:Option Addr) (c:Nat):List Value:=[.int .i64 t.kind,.string ⟨t.name.toArray⟩,.int .i64 t.sort,.slice a t.kids.length c]
def qcm (Q:Nat→Prop) (w:World) (a:Option Addr) (l:List T):Prop:=qdN 4 (QO Q w) Q w a l
theorem QO.mk {Q:Nat→Prop} {w:World} {t:T} {a:Option Addr} {c:Nat} (h:qcm Q w a t.kids):QO Q w t (qHX t a c):=qk2.2 ⟨a,c,rfl,h⟩
theorem QO.out {Q:Nat→Prop} {w:World} {t:T} {cs:List Value} (h:QO Q w t cs):∃ a c,cs=qHX t a c∧qcm Q w a t.kids:=qk2.1 h
theorem qcm.mono {Q Q':Nat→Prop} {w:World} {a:Option Addr} {l:List T} (hQ:∀ b,Q b→Q' b) (h:qcm Q w a l):qcm Q' w a l:=qdN.mono h hQ λ _ _ _ h=>h.mono hQ
theorem qcm.keep {Q:Nat→Prop} {w w':World} {a:Option Addr} {l:List T} (hb:∀ b,Q b→w'.heap[b]? = w.heap[b]?) (h:qcm Q w a l):qcm Q w' a l:=qdN.below h hb λ x _ _ h=>h.keep hb x
theorem qcm.at {Q:Nat→Prop} {w:World} {a:Option Addr} {l:List T} (h:qcm Q w a l) {j:Nat} {x:T} (hj:l[j]? = some x) :
  ∃ b off a' c',a=some ⟨b,off,none⟩∧Q b∧w.cell? ⟨b,off+j*4,none⟩=some (.int .i64 x.kind)∧w.cell? ⟨b,off+j*4+1,none⟩=some (.string ⟨x.name.toArray⟩) ∧
   w.cell? ⟨b,off+j*4+2,none⟩=some (.int .i64 x.sort)∧w.cell? ⟨b,off+j*4+3,none⟩=some (.slice a' x.kids.length c')∧qcm Q w a' x.kids:=by
 obtain ⟨b,off,cs,h1,h2,h3,h4,h5⟩:=h j x hj
 obtain ⟨a',c',rfl,h6⟩:=h5.out
 exact ⟨b,off,a',c',h1,h2,h4 0 _ rfl,h4 1 _ rfl,h4 2 _ rfl,h4 3 _ rfl,h6⟩
def InW (Q:Nat→Prop) (w:World):Prop:=∀ b,Q b→b<w.heap.size
theorem InW.below {Q:Nat→Prop} {w w':World} (h:InW Q w) (hb:Below w.heap.size w w'):InW Q w' := λ b hq=>Nat.lt_of_lt_of_le (h b hq) hb.size
theorem qcm.later {Q:Nat→Prop} {w w':World} {a:Option Addr} {l:List T} (h:qcm Q w a l) (hQ:InW Q w) (hb:Below w.heap.size w w'):qcm Q w' a l:=h.keep λ b hq=>hb.block b (hQ b hq)
theorem QO.later {Q:Nat→Prop} {w w':World} {t:T} {cs:List Value} (h:QO Q w t cs) (hQ:InW Q w) (hb:Below w.heap.size w w'):QO Q w' t cs:=h.keep (λ b hq=>hb.block b (hQ b hq)) t
end Go.GxYtbpnmbmdbblehaaGreat
namespace Go.AmYtbpnmbmdbblehaaGreat
open Go Go.GxYtbpnmbmdbblehaaGreat
def re (t:T):T := .mk t.kind t.name t.sort t.kids
theorem qe (t:T):re t=t:=by obtain ⟨k,n,s,l⟩:=t;rfl
inductive Ty where
 | int (k:IntKind) | bool | str | term | list (a:Ty) | pair (a b:Ty) | one (a:Ty)
 deriving DecidableEq
@[reducible] def Val:Ty→Type
  | .int _=>Int
  | .bool=>Bool
  | .str=>List UInt8
  | .term=>T
  | .list a=>List (Val a)
  | .pair a b=>Val a × Val b
  | .one a=>Val a
def Ty.size:Ty→Nat
 | .term=>4
 | .pair a b=>a.size+b.size
 | .one a=>a.size
 | _=>1
inductive TV where
 | i (k:IntKind) (n:Int)
 | b (x:Bool)
 | s (x:List UInt8)
 | c (x:Value)
 | nil
 | sl (τ : Ty) (l:List (Val τ)) (lv:Nat)
 | row (id ver:Nat)
 | ptr (b o:Nat)
 | rpt (id ver sv:Nat) (i:Int) (cs:List TV) (o:Nat)
 | ept (cs:List TV) (o:Nat)
 | fn (f:FuncId) (caps:List TV)
 | agg (cs:List TV)
 | tup (vs:List TV)
 | dead
structure js where
 τ : Ty
 l:List (Val τ)
 ver:Nat
 sv:Nat
 sh:Bool
structure TS where
 bx:List (List TV)
 rw:List js
abbrev Env:=List (Nat × TV)
def get:Env→Nat→TV
 | [],_ => .dead
 | p::E,t=>match Nat.beq p.1 t with
   | true=>p.2
   | false=>get E t
def qcD:Value→TV
 | .bool b => .b b
 | .int k n => .i k n
 | .string s => .s s.data.toList
 | .slice none 0 0 => .nil
 | x=>match z8 x with
   | true => .c x
   | false => .dead
def qx9:Value→TV
 | .agg cs=>match cs.toList.all z8 with
   | true => .agg (cs.toList.map qcD)
   | false => .dead
 | .tuple vs=>match vs.toList with
   | [] => .tup []
   | _ => .dead
 | x=>qcD x
def evT (E:Env):Operand→TV
 | .tmp t=>get E t
 | .const x=>qx9 x
 | .func f => .fn f []
 | .global _ => .dead
def ja:TV→List TV
 | .agg cs=>cs
 | x=>[x]
def qhf:TV→Bool
 | .agg _ | .tup _ | .dead=>false
 | _=>true
def qaO:(τ : Ty)→Val τ → List TV
 | .int k,n=>[.i k n]
 | .bool,b=>[.b b]
 | .str,s=>[.s s]
 | .term,t=>[.i .i64 t.kind,.s t.name,.i .i64 t.sort,.sl .term t.kids 1]
 | .list a,l=>[.sl a l 1]
 | .pair a b,p=>qaO a p.1++qaO b p.2
 | .one a,v=>qaO a v
def qrt:(τ : Ty)→Val τ → TV
 | .int k,n => .i k n
 | .bool,b => .b b
 | .str,s => .s s
 | .list a,l => .sl a l 1
 | .term,t => .agg (qaO .term t)
 | .pair a b,p => .agg (qaO (.pair a b) p)
 | .one a,v => .agg (qaO (.one a) v)
def qd7 {τ : Ty} (l:List (Val τ)) (a:Ty):Option (List (Val a)):=if h : τ = a then some (h▸l) else none
def qmk (rw:List js) (a:Ty):TV→Option (List (Val a))
 | .nil=>some []
 | .sl _ l _=>qd7 l a
 | .row id ver=>match rw[id]? with
   | some R=>match Nat.beq R.ver ver with
     | true=>qd7 R.l a
     | false=>none
   | none=>none
 | _=>none
def qFN (k:IntKind):List TV→Option (Int × List TV)
 | .i k' n::r=>match decide (k'=k) with
   | true=>some (n,r)
   | false=>none
 | _=>none
def qDn:List TV→Option (Bool × List TV)
 | .b x::r=>some (x,r)
 | _=>none
def qG4:List TV→Option (List UInt8 × List TV)
 | .s x::r=>some (x,r)
 | _=>none
def qCu (ls:TV→Option (List T)):List TV→Option (T × List TV)
 | .i .i64 k :: .s n :: .i .i64 s::x::r=>match ls x with
   | some l=>some (.mk k n s l,r)
   | none=>none
 | _=>none
def qCz {β : Type} (ls:TV→Option β):List TV→Option (β × List TV)
 | x::r=>match ls x with
   | some l=>some (l,r)
   | none=>none
 | _=>none
def qxw {σ β γ : Type} (p:List σ → Option (β × List σ)) (q:List σ → Option (γ × List σ)) (cs:List σ):Option ((β × γ) × List σ):=match p cs with
 | some (x,r)=>match q r with
   | some (y,r)=>some ((x,y),r)
   | none=>none
 | none=>none
def qi7 (rw:List js):(τ : Ty)→List TV→Option (Val τ × List TV)
 | .int k=>qFN k
 | .bool=>qDn
 | .str=>qG4
 | .term=>qCu (qmk rw .term)
 | .list a=>qCz (qmk rw a)
 | .pair a b=>qxw (qi7 rw a) (qi7 rw b)
 | .one a=>qi7 rw a
def Ty.agg:Ty→Bool
 | .term | .pair _ _ | .one _=>true
 | _=>false
def qm1 {β : Type}:Option (β × List TV)→Option β
 | some (v,[])=>some v
 | _=>none
def qtu:TV→Bool
 | .agg _=>true
 | _=>false
def qfe (rw:List js) (τ : Ty) (x:TV):Option (Val τ):=match qgU τ.agg (qtu x) with
 | true=>qm1 (qi7 rw τ (ja x))
 | false=>none
def qpj (rw:List js) (τ : Ty):List TV→Option (List (Val τ))
 | []=>some []
 | x::l=>match qfe rw τ x with
   | some v=>match qpj rw τ l with
     | some vs=>some (v::vs)
     | none=>none
   | none=>none
def qiK:TV→Bool
 | .i .. | .b _ | .s _ | .c _ | .nil | .sl .. | .fn .. => true
 | _=>false
def qm3:TV→Bool
 | .agg cs=>cs.all qiK
 | x=>qiK x
inductive ATy where
 | val (τ : Ty) | fn
@[reducible] def qa5:List ATy→Type
  | []=>Unit
  | .val τ :: r=>Val τ × qa5 r
  | .fn::r=>qa5 r
@[reducible] def qdE:List Ty→Type
  | []=>Unit
  | [a]=>Val a
  | a::b::r=>Val a × qdE (b::r)
def qJN {σ : Type}:List σ → Option Unit
 | []=>some ()
 | _=>none
def qlb {σ β γ : Type} (p : σ → Option β) (q:List σ → Option γ):List σ → Option (β × γ)
 | x::xs=>match p x with
   | some v=>match q xs with
     | some vs=>some (v,vs)
     | none=>none
   | none=>none
 | []=>none
def pFn {γ : Type} (q:List TV→Option γ):List TV→Option γ
 | .fn _ []::xs=>q xs
 | _=>none
def qsr (rw:List js):(ts:List ATy)→List TV→Option (qa5 ts)
 | []=>qJN
 | .val τ :: r=>qlb (qfe rw τ) (qsr rw r)
 | .fn::r=>pFn (qsr rw r)
def qmI:List TV→List Nat
 | []=>[]
 | .fn f _::l=>f::qmI l
 | _::l=>qmI l
def unL:(ts:List Ty)→qdE ts→List TV
 | [],_=>[]
 | [a],v=>[qrt a v]
 | a::b::r,v=>qrt a v.1::unL (b::r) v.2
def qto:List TV→TV
 | [x]=>x
 | l => .tup l
structure Sig where
 args:List ATy
 res:List Ty
 fn:qa5 args→Option (qdE res)
inductive RA where
 | val (τ : Ty) | row (τ : Ty)
@[reducible] def RA.T:RA→Type
  | .val τ => Val τ
  | .row τ => List (Val τ)
@[reducible] def CV:List RA→Type
  | []=>Unit
  | a::r=>a.T × CV r
@[reducible] def BV:List RA→Type
  | []=>Unit
  | [a]=>a.T
  | a::b::r=>CV (a::b::r)
def toC:(l:List RA)→BV l→CV l
 | [],_=>()
 | [_],v=>(v,())
 | _::_::_,v=>v
def toB:(l:List RA)→CV l→BV l
 | [],_=>()
 | [_],v=>v.1
 | _::_::_,v=>v
def nR:List RA→Nat
 | []=>0
 | .val _::r=>nR r
 | .row _::r=>nR r+1
inductive SA where
 | val (τ : Ty) | row (τ : Ty) | box (l:List RA) | nil | clo (g k:Nat)
inductive RE where
 | one (a:RA) | agg (l:List RA)
@[reducible] def jE:List SA→Type
  | []=>Unit
  | .val τ :: r=>Val τ × jE r
  | .row τ :: r=>List (Val τ) × jE r
  | .box l::r=>BV l × jE r
  | .nil::r=>jE r
  | .clo _ _::r=>jE r
@[reducible] def jV:List SA→Type
  | []=>Unit
  | .box l::r=>BV l × jV r
  | .nil::r=>jV r
  | .val _::r=>jV r
  | .row _::r=>jV r
  | .clo _ _::r=>jV r
@[reducible] def RV:List RE→Type
  | []=>Unit
  | .one a::r=>a.T × RV r
  | .agg l::r=>CV l × RV r
def nrB:List SA→Nat
 | []=>0
 | .box l::r=>nR l+nrB r
 | .nil::r=>nrB r
 | .val _::r=>nrB r
 | .row _::r=>nrB r
 | .clo _ _::r=>nrB r
def qkF:List SA→Bool
 | []=>true
 | .row _::_=>false
 | .box _::r=>qkF r
 | .nil::r=>qkF r
 | .val _::r=>qkF r
 | .clo _ _::r=>qkF r
def qjP:List SA→Bool
 | []=>true
 | .box _::r=>qkF r&&qjP r
 | .nil::r=>qjP r
 | .val _::r=>qjP r
 | .row _::r=>qjP r
 | .clo _ _::r=>qjP r
structure qmY where
 args:List SA
 res:List RE
 fn:jE args→Option (jV args × RV res)
structure qnU where
 τ : Ty
 args:List SA
 fn:jE (.row τ :: args)→Option (List (Val τ))
structure qrE where
 args:List SA
 fn:jE args→Option Int
inductive Co where
 | keep | row (τ : Ty) (sh:Bool) | list (τ : Ty) | plist (τ : Ty) | box (cs:List Co) | fn (cs:List Co)
structure TC where
 ty:Nat→Option TD
 el:Nat→Option Ty
 has:Nat→Bool
 pf:Nat→List Nat→Option Sig
 sf:Nat→Option qmY
 loop:Nat→Option (List (Tmp × Co))
 join:Nat→Option (List (Tmp × Co))
 nt:Nat
 np:Nat
 ld:Nat→Bool
 mf:Nat→Option qnU
 xf:Nat→Option qrE
def TC.rawT (c:TC) (f:Nat):Bool:=match c.has f with
 | true=>false
 | false=>match c.mf f with
   | some _=>true
   | none=>match c.xf f with
     | some _=>true
     | none=>match c.sf f with
       | some _=>true
       | none=>false
def TC.loT (c:TC) (f:Nat):Bool:=c.rawT f||c.ld f
abbrev TC.n2 (c:TC):Nat × Nat:=(c.nt,c.np)
def qa {α β : Type} (x:Option α) (k : α → Option β):Option β := match x with
 | some a=>k a
 | none=>none
def qe8 {α β : Type} (l:List β) (a : α) (f : β → List β → α) : α := match l with
 | []=>a
 | x::r=>f x r
def qd {α : Type} (l:List α) (j:Int):Option α := if 0≤j then l[j.toNat]? else none
def inb (i:Int) (y:Nat):Bool:=decide (0≤i∧i≤y)
def jW {α : Type} (l:List α) (j:Int) (v : α):List α := if 0≤j then l.set j.toNat v else l
def qCI (n:Int) (bytes:Nat):Bool:=decide (0≤n∧n.toNat*bytes≤2 ^ 47∧n.toNat<2 ^ 62)
def qHP:Operand→Operand→Bool
 | .tmp a,.tmp b=>Nat.beq a b
 | .const (.int k a),.const (.int k' b)=>decide (k=k')&&decide (a=b)
 | _,_=>false
def shA (σ : TS):TS:=⟨σ.bx,σ.rw.map λ R=>⟨R.τ,R.l,R.ver,R.sv,true⟩⟩
def qsJ:Ty→Bool
 | .int _ | .bool | .str=>true
 | _=>false
def zS {α : Type} (l:List α) (a b:Int):List α := (l.take b.toNat).drop a.toNat
def qDW (a b:List UInt8):Bool:=decide (((a.length+b.length:Nat):Int)≤IntKind.i64.max)
def zD (n bytes:Nat):Bool:=decide (n*bytes≤2 ^ 47∧n<2 ^ 62)
def qC (a b:List UInt8):Bool:=a==b
def slt (a b:List UInt8):Bool:=Op.bytesLess a b
section
variable {α : Type}
abbrev KT (α : Type):=TV→Option TS→Option α
def qHr (op:BinOp) (k:IntKind) (a b:Int) (K:TV→Option α):Option α :=
 match op with
 | .add=>K (.i k (iw k (qf a b)))
 | .sub=>K (.i k (iw k (QK a b)))
 | .mul=>K (.i k (iw k (qF0 a b)))
 | .quo=>cond (ieq b 0) none (K (.i k (iw k (qFQ a b))))
 | .rem=>cond (ieq b 0) none (K (.i k (qCJ a b)))
 | .and=>K (.i k (qmb .and k a b))
 | .or=>K (.i k (qmb .or k a b))
 | .xor=>K (.i k (qmb .xor k a b))
 | .andNot=>K (.i k (qmb .andNot k a b))
 | .eql=>K (.b (ieq a b))
 | .neq=>K (.b (qc (ieq a b)))
 | .lss=>K (.b (ilt a b))
 | .leq=>K (.b (ile a b))
 | .gtr=>K (.b (ilt b a))
 | .geq=>K (.b (ile b a))
 | _=>none
def qFW (op:BinOp) (x y:List UInt8) (K:TV→Option α):Option α :=
 match op with
 | .add=>cond (qDW x y) (K (.s (x++y))) none
 | .eql=>K (.b (qC x y))
 | .neq=>K (.b (qc (qC x y)))
 | .lss=>K (.b (slt x y))
 | .leq=>K (.b (qob (slt x y) (qC x y)))
 | .gtr=>K (.b (qc (qob (slt x y) (qC x y))))
 | .geq=>K (.b (qc (slt x y)))
 | _=>none
def qr6:Option TD→Bool
 | some ⟨_,_,_,_,.bool⟩=>true
 | _=>false
def qGB (d:Option TD) (op:BinOp) (x y:TV) (K:TV→Option α):Option α :=
 match x,y with
 | .i k a,.i k' b=>match op with
   | .shl=>cond (ilt b 0) none (K (.i k (qHx k a b)))
   | .shr=>cond (ilt b 0) none (K (.i k (qmV k a b)))
   | op=>match decide (k=k') with
     | true=>qHr op k a b K
     | false=>none
 | .s a,.s b=>qFW op a b K
 | .b a,.b b=>match op,qr6 d with
   | .eql,true=>K (.b (qgU a b))
   | .neq,true=>K (.b (qc (qgU a b)))
   | _,_=>none
 | _,_=>none
def qxD (place:Nat→Option (Nat × Nat)) (cells:List TV):List (Nat × TV)→Option (List TV)
 | []=>some cells
 | (i,x)::rest=>match place i with
   | none=>none
   | some (off,size)=>match decide ((ja x).length=size)&&decide (off+size≤cells.length)&&(ja x).all qhf with
     | true=>qxD place (cells.take off++(ja x++cells.drop (off+size))) rest
     | false=>none
def ql3 (agg:Bool) (size:Nat) (cs:List TV) (o:Nat):Option TV :=
 match agg with
 | true=>match decide (o+size≤cs.length) with
   | true=>some (.agg ((cs.drop o).take size))
   | false=>none
 | false=>cs[o]?
def qe6 (d:Int) (E:Env):Option Operand→Option Int
 | none=>some d
 | some x=>match evT E x with
   | .i _ n=>some n
   | _=>none
def Qf (c:TC) (E:Env) (σ : TS) (op:Op) (K:KT α):Option α :=
 match op with
 | .move x | .assign x=>K (evT E x) none
 | .pick x a b=>match evT E x with
   | .b y=>cond y (K (evT E a) none) (K (evT E b) none)
   | _=>none
 | .alloc e=>match c.ty e with
   | some d=>match d.zero.all z8 with
     | true=>K (.ptr σ.bx.length 0) (some { σ with bx := σ.bx++[d.zero.map qcD] })
     | false=>none
   | none=>none
 | .box e x=>match c.ty e with
   | some _=>match (ja (evT E x)).all qhf with
     | true=>K (.ptr σ.bx.length 0) (some { σ with bx := σ.bx++[ja (evT E x)] })
     | false=>none
   | none=>none
 | .build t parts=>match c.ty t with
   | some ⟨_,_,_,z,.struct fs⟩=>match z.all z8 with
     | true=>match qxD (λ i=>match fs[i]? with | some f=>some (f.1,f.2.1) | none=>none) (z.map qcD) (parts.toList.map λ p=>(p.1,evT E p.2)) with
       | some cs=>K (.agg cs) none
       | none=>none
     | false=>none
   | _=>none
 | .buildSlice t n parts=>match c.ty t,c.el t with
   | some ⟨_,_,_,_,.slice _ k _ _⟩,some τ => match decide (k = τ.size)&&decide (parts.size=n)&&decide (n*k≤2 ^ 24)&&decide (0<k)&&(parts.toList.zipIdx.all λ p=>decide (p.1.1=p.2)) with
     | true=>match qpj σ.rw τ (parts.toList.map λ p=>evT E p.2) with
       | some vs=>K (.sl τ vs 2) (match (parts.toList.all λ p=>qm3 (evT E p.2)) with | true=>none | false=>some (shA σ))
       | none=>none
     | false=>none
   | _,_=>none
 | .load t a=>match c.ty t with
   | some d=>match evT E a with
     | .ptr b o=>match σ.bx[b]? with
       | some cs=>match ql3 d.agg d.size cs o with
         | some x=>K x none
         | none=>none
       | none=>none
     | .ept cs o=>match ql3 d.agg d.size cs o with
       | some x=>K x none
       | none=>none
     | .rpt id ver sv _ cs o=>match σ.rw[id]? with
       | some R=>match Nat.beq R.ver ver&&Nat.beq R.sv sv with
         | true=>match ql3 d.agg d.size cs o with
           | some x=>K x none
           | none=>none
         | false=>none
       | none=>none
     | _=>none
   | none=>none
 | .store t a x=>match c.ty t,evT E a with
   | some d,.ptr b o=>match σ.bx[b]? with
     | some cs=>match decide ((ja (evT E x)).length=d.size)&&decide (o+d.size≤cs.length)&&(ja (evT E x)).all qhf with
       | true=>K (.tup []) (some { σ with bx := σ.bx.set b (cs.take o++(ja (evT E x)++cs.drop (o+d.size))) })
       | false=>none
     | none=>none
   | some d,.rpt id ver sv i cs o=>match σ.rw[id]? with
     | some R=>match Nat.beq R.ver ver&&Nat.beq R.sv sv && !R.sh&&decide ((ja (evT E x)).length=d.size)&&decide (o+d.size≤cs.length)&&(ja (evT E x)).all qiK with
       | true=>match qm1 (qi7 σ.rw R.τ (cs.take o++(ja (evT E x)++cs.drop (o+d.size)))) with
         | some v=>K (.tup []) (some { σ with rw := σ.rw.set id ⟨R.τ,jW R.l i v,R.ver,R.sv+1,R.sh⟩ })
         | none=>none
       | false=>none
     | none=>none
   | _,_=>none
 | .makeSlice t n m=>match c.ty t,c.el t,evT E n with
   | some ⟨_,_,_,_,.slice _ k bytes z⟩,some τ,.i _ a=>match qHP n m&&decide (k = τ.size)&&decide (0<k)&&decide (z.length=k)&&z.all z8 with
     | true=>match qm1 (qi7 [] τ (z.map qcD)) with
       | some v=>cond (qCI a bytes) (K (.row σ.rw.length 0) (some { σ with rw := σ.rw++[⟨τ,List.replicate a.toNat v,0,0,false⟩] })) none
       | none=>none
     | false=>none
   | _,_,_=>none
 | .nilCheck x=>match evT E x with
   | .ptr b o=>K (.ptr b o) none
   | .ept cs o=>K (.ept cs o) none
   | .rpt id ver sv i cs o=>K (.rpt id ver sv i cs o) none
   | _=>none
 | .binOp op t x y _=>qGB (c.ty t) op (evT E x) (evT E y) λ v=>K v none
 | .unOp op _ x=>match op,evT E x with
   | .neg,.i k n=>K (.i k (iw k (QK 0 n))) none
   | .not,.b y=>K (.b (qc y)) none
   | _,_=>none
 | .convert s d x=>match c.ty s,c.ty d,evT E x with
   | some _,some ⟨_,_,_,_,.int k⟩,.i _ n=>K (.i k (iw k n)) none
   | some _,some ⟨_,_,_,_,.string⟩,.s y=>K (.s y) none
   | _,_,_=>none
 | .makeFunc (.func f) fs cs=>match fs.toList with
   | []=>K (.fn f (cs.toList.map (evT E))) none
   | _=>none
 | .slice t x lo hi none=>match c.ty t,evT E x with
   | some ⟨_,_,_,_,.string⟩,.s y=>match qe6 y.length E hi with
     | some h=>match qe6 0 E lo with
       | some l=>cond (inb h y.length) (cond (inb l h.toNat) (K (.s (zS y l h)) none) none) none
       | none=>none
     | none=>none
   | some ⟨_,_,_,_,.slice _ k _ _⟩,.sl τ y lv=>match decide (τ.size=k)&&pos lv with
     | true=>match qe6 y.length E hi with
       | some h=>match qe6 0 E lo with
         | some l=>cond (inb h y.length) (cond (inb l h.toNat) (K (.sl τ (zS y l h) 1) none) none) none
         | none=>none
       | none=>none
     | false=>none
   | some ⟨_,_,_,_,.slice _ _ _ _⟩,.nil=>match qe6 0 E hi with
     | some h=>match qe6 0 E lo with
       | some l=>cond (inb h 0) (cond (inb l h.toNat) (K .nil none) none) none
       | none=>none
     | none=>none
   | some ⟨_,_,_,_,.slice _ k _ _⟩,.row id ver=>match hi,σ.rw[id]? with
     | none,some R=>match Nat.beq R.ver ver&&decide (R.τ.size=k) with
       | true=>match qe6 0 E lo with
         | some l=>cond (inb l R.l.length) (K (.row id (ver+1)) (some { σ with rw := σ.rw.set id ⟨R.τ,R.l.drop l.toNat,ver+1,R.sv,true⟩ })) none
         | none=>none
       | false=>none
     | _,_=>none
   | _,_=>none
 | .fieldAddr t x i=>match c.ty t with
   | some ⟨_,_,_,_,.struct fs⟩=>match fs[i]? with
     | some (off,size,_)=>match size with
       | 0=>none
       | _+1=>match evT E x with
         | .ptr b o=>K (.ptr b (o+off)) none
         | .ept cs o=>K (.ept cs (o+off)) none
         | .rpt id ver sv i cs o=>K (.rpt id ver sv i cs (o+off)) none
         | _=>none
     | none=>none
   | _=>none
 | .field t x i=>match c.ty t,evT E x with
   | some ⟨_,_,_,_,.struct fs⟩,.agg cs=>match fs[i]? with
     | some (off,size,g)=>match ql3 g size cs off with
       | some y=>K y none
       | none=>none
     | none=>none
   | _,_=>none
 | .indexAddr t x i=>match c.ty t,evT E i with
   | some ⟨_,_,_,_,.slice _ k _ _⟩,.i _ j=>match evT E x with
     | .sl τ l _=>match decide (τ.size=k) with
       | true=>qa (qd l j) λ v=>K (.ept (qaO τ v) 0) none
       | false=>none
     | .row id ver=>match σ.rw[id]? with
       | some R=>match Nat.beq R.ver ver&&decide (R.τ.size=k) with
         | true=>qa (qd R.l j) λ v=>K (.rpt id ver R.sv j (qaO R.τ v) 0) none
         | false=>none
       | none=>none
     | _=>none
   | _,_=>none
 | .index t x i=>match c.ty t,evT E x,evT E i with
   | some ⟨_,_,_,_,.string⟩,.s y,.i _ j=>qa (qd y j) λ v=>K (.i .u8 v.toNat) none
   | _,_,_=>none
 | .extract x i=>match evT E x with
   | .tup vs=>match vs[i]? with
     | some y=>K y none
     | none=>none
   | _=>none
 | _=>none
def qHz (k bytes:Nat) (σ : TS) (τ : Ty) (s:TV) (xs:List (Val τ)) (K:KT α):Option α :=
 match s with
 | .nil=>qe8 xs (K .nil none) λ x r=>cond (zD (r.length+1) bytes) (K (.row σ.rw.length 0) (some { σ with rw := σ.rw++[⟨τ,x::r,0,0,false⟩] })) none
 | .sl τ' l lv=>match decide (1<lv) with
   | true=>match qd7 l τ with
     | some l=>cond (zD (l.length+xs.length) bytes) (qe8 xs (K s none) λ x r=>K (.row σ.rw.length 0) (some { σ with rw := σ.rw++[⟨τ,l++(x::r),0,0,false⟩] })) none
     | none=>none
   | false=>none
 | .row id ver=>match σ.rw[id]? with
   | some R=>match Nat.beq R.ver ver with
     | true=>match qd7 R.l τ with
       | some l=>cond (zD (l.length+xs.length) bytes) (K (.row id (ver+1)) (some { σ with rw := σ.rw.set id ⟨τ,l++xs,ver+1,R.sv,R.sh⟩ })) none
       | none=>none
     | false=>none
   | none=>none
 | _=>none
def qqR (c:TC) (σ : TS) (b:Builtin) (ts:Array TypeId) (args:List TV) (K:KT α):Option α :=
 match b,args with
 | .len,[x]=>match ts[0]? with
   | some t=>match c.ty t with
     | some d=>match d.k,x with
       | .string,.s y=>K (.i .i64 y.length) none
       | .slice ..,.nil=>K (.i .i64 0) none
       | .slice ..,.sl _ l _=>K (.i .i64 l.length) none
       | .slice ..,.row id ver=>match σ.rw[id]? with
         | some R=>match Nat.beq R.ver ver with
           | true=>K (.i .i64 R.l.length) none
           | false=>none
         | none=>none
       | _,_=>none
     | none=>none
   | none=>none
 | .append,[s,x]=>match ts[0]?,ts[1]? with
   | some t,some u=>match c.ty t,c.ty u,c.el t with
     | some ⟨_,_,_,_,.slice _ k bytes z⟩,some ⟨_,_,_,_,.slice _ _ _ _⟩,some τ => match decide (0<k)&&decide (z.length=k)&&decide (k = τ.size) with
       | true=>match qmk σ.rw τ x with
         | some xs=>qHz k bytes σ τ s xs K
         | none=>none
       | false=>none
     | _,_,_=>none
   | _,_=>none
 | .max,[.i k a,.i k' b]=>match decide (k=k') with | true=>K (.i k (qlf a b)) none | false=>none
 | .min,[.i k a,.i k' b]=>match decide (k=k') with | true=>K (.i k (qGQ a b)) none | false=>none
 | _,_=>none
def qjo (rw:List js) (τ : Ty):TV→Option (List (Val τ) × List Nat)
 | .nil=>some ([],[])
 | .sl a l lv=>match qd7 l τ,decide (1<lv) with
   | some [],true=>some ([],[])
   | _,_=>none
 | .row id ver=>match rw[id]? with
   | some R=>match Nat.beq R.ver ver && !R.sh with
     | true=>match qd7 R.l τ with
       | some l=>some (l,[id])
       | none=>none
     | false=>none
   | none=>none
 | _=>none
def qd1 (rw:List js):(l:List RA)→List TV→Option (CV l × List Nat × Bool)
 | [],[]=>some ((),[],true)
 | [],_::_=>none
 | .val τ :: r,cs=>match qm1 (qi7 rw τ (cs.take τ.size)),qd1 rw r (cs.drop τ.size) with
   | some v,some (vs,ids,q)=>some ((v,vs),ids,(cs.take τ.size).all qiK&&q)
   | _,_=>none
 | .row τ :: r,c::cs=>match qjo rw τ c,qd1 rw r cs with
   | some (v,i),some (vs,ids,q)=>some ((v,vs),i++ids,q)
   | _,_=>none
 | .row _::_,[]=>none
def qJX (rw:List js) (bx:List (List TV)) (l:List RA):TV→Option (CV l × List Nat × Nat)
 | .ptr b 0=>match bx[b]? with
   | some cs=>match qd1 rw l cs with
     | some (v,ids,true)=>some (v,ids,b)
     | _=>none
   | none=>none
 | _=>none
def yi (σ : TS):(sas:List SA)→List TV→Option (jE sas × List Nat × List Nat)
 | [],[]=>some ((),[],[])
 | .val τ :: r,x::xs=>match qm3 x,qfe σ.rw τ x with
   | true,some v=>match yi σ r xs with
     | some (vs,q)=>some ((v,vs),q)
     | none=>none
   | _,_=>none
 | .row τ :: r,x::xs=>match qjo σ.rw τ x with
   | some (l,ids)=>match yi σ r xs with
     | some (vs,bs,rs)=>some ((l,vs),bs,ids++rs)
     | none=>none
   | none=>none
 | .box l::r,x::xs=>match qJX σ.rw σ.bx l x with
   | some (v,ids,b)=>match yi σ r xs with
     | some (vs,bs,rs)=>some ((toB l v,vs),b::bs,ids++rs)
     | none=>none
   | none=>none
 | .nil::r,.nil::xs=>yi σ r xs
 | .clo g k::r,.fn g' cs::xs=>match Nat.beq g g'&&Nat.beq cs.length k with
   | true=>yi σ r (cs++xs)
   | false=>none
 | _,_=>none
def ndN:List Nat→Bool
 | []=>true
 | b::l=>(l.all λ c => !Nat.beq b c)&&ndN l
def qiQ (rw:List js) (ids:List Nat):List js:=ids.foldl (λ l i=>l.modify i λ R=>⟨R.τ,[],R.ver+1,R.sv,false⟩) rw
def qe4:(l:List RA)→Nat→CV l→List TV
 | [],_,_=>[]
 | .val τ :: r,L,v=>qaO τ v.1++qe4 r L v.2
 | .row _::r,L,v => .row L 0::qe4 r (L+1) v.2
def qcA:(l:List RA)→CV l→List js
 | [],_=>[]
 | .val _::r,v=>qcA r v.2
 | .row τ :: r,v=>⟨τ,v.1,0,0,false⟩::qcA r v.2
def qil:(sas:List SA)→Nat→jV sas→List (List TV)
 | [],_,_=>[]
 | .box l::r,L,o=>qe4 l L (toC l o.1)::qil r (L+nR l) o.2
 | .nil::r,L,o=>qil r L o
 | .val _::r,L,o=>qil r L o
 | .row _::r,L,o=>qil r L o
 | .clo _ _::r,L,o=>qil r L o
def qid:(sas:List SA)→jV sas→List js
 | [],_=>[]
 | .box l::r,o=>qcA l (toC l o.1)++qid r o.2
 | .nil::r,o=>qid r o
 | .val _::r,o=>qid r o
 | .row _::r,o=>qid r o
 | .clo _ _::r,o=>qid r o
def qDr (bx:List (List TV)):List Nat→List (List TV)→List (List TV)
 | b::bs,x::xs=>qDr (bx.set b x) bs xs
 | _,_=>bx
def qoG:(rs:List RE)→Nat→RV rs→List TV
 | [],_,_=>[]
 | .one (.val τ)::r,L,v=>qrt τ v.1::qoG r L v.2
 | .one (.row _)::r,L,v => .row L 0::qoG r (L+1) v.2
 | .agg l::r,L,v => .agg (qe4 l L v.1)::qoG r (L+nR l) v.2
def qnZ:(rs:List RE)→RV rs→List js
 | [],_=>[]
 | .one (.val _)::r,v=>qnZ r v.2
 | .one (.row τ)::r,v=>⟨τ,v.1,0,0,false⟩::qnZ r v.2
 | .agg l::r,v=>qcA l v.1++qnZ r v.2
def qyw (σ : TS) (g:qnU) (args:List TV) (K:KT α):Option α := match args with
 | x::xs=>match qjo σ.rw g.τ x,yi σ g.args xs with
   | some (l,ids),some (a,[],[])=>match qjP g.args with
     | true=>match ids with
       | [id]=>qa (g.fn (l,a)) λ v=>cond (Nat.beq v.length l.length) (K (.tup []) (some ⟨σ.bx,σ.rw.modify id λ R=>⟨g.τ,v,R.ver,R.sv+1,false⟩⟩)) none
       | []=>qa (g.fn (l,a)) λ v=>cond (Nat.beq v.length l.length) (K (.tup []) none) none
       | _=>none
     | false=>none
   | _,_=>none
 | []=>none
def qzK (σ : TS) (g:qrE) (args:List TV) (K:KT α):Option α := match yi σ g.args args with
 | some (a,bs,rs)=>match ndN bs&&(ndN rs&&qjP g.args) with
   | true=>qa (g.fn a) λ v=>K (.i .i64 v) none
   | false=>none
 | none=>none
def qtj (c:TC) (σ : TS) (f:Nat) (args:List TV) (K:KT α):Option α := match c.mf f with
 | some g=>qyw σ g args K
 | none=>match c.xf f with
   | some g=>qzK σ g args K
   | none=>match c.sf f with
     | some g=>match yi σ g.args args with
       | some (a,bs,rs)=>match ndN bs&&(ndN rs&&qjP g.args) with
         | true=>qa (g.fn a) λ v=>K (qto (qoG g.res (σ.rw.length+nrB g.args) v.2)) (some ⟨qDr σ.bx bs (qil g.args σ.rw.length v.1),qiQ σ.rw rs++(qid g.args v.1++qnZ g.res v.2)⟩)
         | false=>none
       | none=>none
     | none=>none
def qCS (c:TC) (σ : TS) (f:Nat) (args:List TV) (K:KT α):Option α :=
 match c.has f,c.pf f (qmI args) with
 | true,some g=>match qsr σ.rw g.args args with
   | some sas=>qa (g.fn sas) λ v=>K (qto (unL g.res v)) (match args.all qm3||g.res.all qsJ with | true=>none | false=>some (shA σ))
   | none=>none
 | true,none=>none
 | false,_=>qtj c σ f args K
def opT (c:TC) (E:Env) (σ : TS) (op:Op) (K:KT α):Option α :=
 match op with
 | .call ⟨.builtin b,args,ts⟩=>qqR c σ b ts (args.toList.map (evT E)) K
 | .call ⟨.value g,args,_⟩=>match evT E g with
   | .fn f []=>qCS c σ f (args.toList.map (evT E)) K
   | .fn f (x::cs)=>match c.has f with
     | true=>none
     | false=>qtj c σ f (args.toList.map (evT E)++(x::cs)) K
   | _=>none
 | .call _=>none
 | op=>Qf c E σ op K
def qyZ (c:TC) (E:Env) (d:Option Tmp) (x:TV) (K:Env→Option α):Option α := match d with
 | none=>K E
 | some d=>match Nat.blt d c.nt with
   | true=>K ((d,x)::E)
   | false=>none
def qC9 (ops:Array Oper) (E:Env) (o:Oper) (K:Bool→Env→Option α):Option α :=
 match o.guard with
 | none=>K true E
 | some (j,want)=>match (ops[j]?).bind (·.dst) with
   | none=>none
   | some d=>match get E d with
     | .b x=>match want with
       | true=>cond x (K true ((d,.b true)::E)) (K false ((d,.b false)::E))
       | false=>cond x (K false ((d,.b true)::E)) (K true ((d,.b false)::E))
     | .tup []=>K false E
     | _=>none
def qjW (c:TC) (ops:Array Oper) (draw:Bool):List Oper→Env→TS→(Env→TS→Option α)→Option α
 | [],E,σ,K=>K E σ
 | o::rest,E,σ,K=>qC9 ops E o λ w E=>match w with
   | true=>opT c E σ o.op λ x σ'=>match σ' with
     | none=>qyZ c E o.dst x λ E=>qjW c ops draw rest E σ K
     | some σ'=>match draw && !yX c.loT o.op with
       | true=>none
       | false=>qyZ c E o.dst x λ E=>qjW c ops draw rest E σ' K
   | false=>qyZ c E o.dst (.tup []) λ E=>qjW c ops draw rest E σ K
structure Mv where
 E:Env
 bx:List (List TV)
 rw:List js
 mb:List (Nat × Nat)
 mr:List (Nat × Nat)
def jm (l:List (Nat × Nat)) (b:Nat):Option Nat:=match l with
 | []=>none
 | p::r=>match Nat.beq p.1 b with
   | true=>some p.2
   | false=>jm r b
def qyn:TV→Bool
 | .i .. | .b _ | .s _ | .c _ | .nil | .sl .. => true
 | .fn _ cs=>cs.isEmpty
 | .agg cs=>cs.all λ | .i .. | .b _ | .s _ | .c _ | .nil | .sl .. => true | _=>false
 | _=>false
mutual
def mvT (σ : TS) (co:Co) (x:TV) (m:Mv) (K:TV→Mv→Option α):Option α :=
 match co with
 | .keep=>match qyn x with
   | true=>K x m
   | false=>K .dead m
 | .list τ => match x with
   | .nil=>K (.sl τ [] 1) m
   | .sl a l _=>match qd7 l τ with
     | some l=>K (.sl τ l 1) m
     | none=>none
   | _=>K .dead m
 | .plist τ => match x with
   | .nil=>K (.sl τ [] 1) m
   | .sl a l _=>match qd7 l τ with
     | some l=>K (.sl τ l 1) m
     | none=>none
   | _=>K .dead m
 | .row τ sh=>match x with
   | .nil=>K (.row m.rw.length 0) { m with rw:=m.rw++[⟨τ,[],0,0,sh⟩] }
   | .sl a l lv=>match qd7 l τ,decide (1<lv) with
     | some l,true=>match sh with
       | true=>K (.row m.rw.length 0) { m with rw:=m.rw++[⟨τ,l,0,0,true⟩] }
       | false=>match l with
         | []=>K (.row m.rw.length 0) { m with rw:=m.rw++[⟨τ,[],0,0,false⟩] }
         | _=>none
     | _,_=>none
   | .row id ver=>match σ.rw[id]? with
     | some R=>match Nat.beq R.ver ver&&(sh || !R.sh) with
       | true=>match qd7 R.l τ with
         | some l=>match jm m.mr id with
           | some id'=>K (.row id' 0) m
           | none=>K (.row m.rw.length 0) { m with rw:=m.rw++[⟨τ,l,0,0,sh⟩],mr:=(id,m.rw.length)::m.mr }
         | none=>none
       | false=>none
     | none=>none
   | _=>none
 | .fn cs=>match x with
   | .fn f xs=>mvL σ cs xs m λ ys m=>K (.fn f ys) m
   | _=>none
 | .box cs=>match x with
   | .ptr b 0=>match jm m.mb b with
     | some b'=>K (.ptr b' 0) m
     | none=>match σ.bx[b]? with
       | some xs=>mvL σ cs xs m λ ys m=>match jm m.mb b with
         | none=>K (.ptr m.bx.length 0) { m with bx:=m.bx++[ys],mb:=(b,m.bx.length)::m.mb }
         | some _=>none
       | none=>none
   | _=>none
def mvL (σ : TS) (cs:List Co) (xs:List TV) (m:Mv) (K:List TV→Mv→Option α):Option α :=
 match cs,xs with
 | [],[]=>K [] m
 | co::cs,x::xs=>mvT σ co x m λ y m=>mvL σ cs xs m λ ys m=>K (y::ys) m
 | _,_=>none
end
def qyu (mb:List (Nat × Nat)):Nat→Bool
 | 0=>true
 | n+1=>(match jm mb n with | some j=>Nat.beq n j | none=>false)&&qyu mb n
def mvE (np:Nat) (σ : TS) (E:Env):List (Tmp × Co)→Mv→(Env→TS→Option α)→Option α
 | [],m,K=>match qyu m.mb np with
   | true=>K m.E ⟨m.bx,m.rw⟩
   | false=>none
 | (t,co)::r,m,K=>mvT σ co (get E t) m λ y m=>mvE np σ E r { m with E:=m.E++[(t,y)] } K
def qC0 (E:Env) (σ : TS) (t:Tmp) (τ : Ty) (K:Env→TS→Option α):Option α := match get E t with
 | .i .. => K E σ
 | .b _=>K E σ
 | .s _=>K E σ
 | .c _=>K E σ
 | .nil=>K E σ
 | .sl .. => K E σ
 | .row id ver=>match σ.rw[id]? with
   | some R=>match Nat.beq R.ver ver with
     | true=>match qd7 R.l τ with
       | some l=>K ((t,.sl τ l 1)::E) (shA σ)
       | none=>none
     | false=>none
   | none=>none
 | .dead=>K E (shA σ)
 | _=>none
def qqE:List (Tmp × Co)→Env→TS→(Env→TS→Option α)→Option α
 | [],E,σ,K=>K E σ
 | (t,co)::r,E,σ,K=>match co with
   | .plist τ => qC0 E σ t τ λ E σ => qqE r E σ K
   | _=>qqE r E σ K
def quD (E:Env) (ops:Array Oper) (k:Nat) (t:Tmp):Option Nat:=match qDh ops k t with
 | some u=>match get E u with
   | .ptr b _=>some b
   | _=>none
 | none=>none
def qpv (E:Env) (ops:Array Oper) (j:Nat) (o:Oper) (i:Nat) (q:Oper):Bool:=match o.op,q.op with
 | .store _ (.tmp a) _,.load _ (.tmp b)=>match quD E ops j a,quD E ops i b with
   | some x,some y => !Nat.beq x y
   | _,_=>false
 | .call ⟨.builtin .append,_,_⟩,.load _ (.tmp b)=>(quD E ops i b).isSome
 | _,_=>false
def qHV (raw:Nat→Bool) (E:Env) (ops:Array Oper) (j:Nat) (o:Oper) (i:Nat) (q:Oper):Bool :=
 (match q.dst with | some d=>(qei ops o).contains d | none=>false)||(qpr raw o q && !(qpv E ops j o i q||qpv E ops i q j o))
def qpD (raw:Nat→Bool) (E:Env) (ops:Array Oper) (draw:Bool):Bool:=match draw with
 | true =>
   let b:=J2 ops.toList []
   ops.toList.zipIdx.all λ (o,j)=>((jk o).all λ e=>decide (e<j))&&ops.toList.zipIdx.all λ (q,i) =>
    decide (i=j) || !qHV raw E ops j o i q||(b.getD (max i j) 0).testBit (min i j)
 | false=>true
def qJG:TV→Bool
 | .ptr _ _=>true
 | _=>false
def qdU:Code→Nat
 | .region id _ _=>id
 | .seq a _=>qdU a
 | .block _ b=>qdU b
 | .loop b=>qdU b
 | .cond _ a _=>qdU a
 | _=>0
def qfJ:List (Tmp × Co)→List Nat
 | []=>[]
 | (t,co)::r=>match co with
   | .plist _=>t::qfJ r
   | _=>qfJ r
def TC.pur (c:TC) (b:Code):List Nat:=match c.loop (qdU b) with
 | some l=>qfJ l
 | none=>[]
def qDN (E:Env) (x:Operand) (b:Bool):Env:=match x with
 | .tmp t=>(t,.b b)::E
 | _=>E
def QU (c:TC) (fin:Env→TS→Option α) (L:List It→Env→TS→Option α):Nat→List It→Ex→Env→TS→Option α
 | 0,_,_,_,_=>none
 | _+1,[],e,E,σ => match e with
   | .exit _=>none
   | _=>fin E σ
 | N+1,.code cd::k,e,E,σ => match e with
   | .normal=>match cd with
     | .skip=>QU c fin L N k .normal E σ
     | .label _=>QU c fin L N k .normal E σ
     | .region _ ops d=>match qjm ops d with
       | true=>match qhU c.loT ops.toList&&(qpD c.loT E ops true&&qpD c.loT E ⟨qW c.loT ops.toList⟩ true) with
         | true=>qjW c ⟨qW c.loT ops.toList⟩ true (qW c.loT ops.toList) E σ λ E σ => qjW c ops false (alL c.loT ops.toList) E σ λ E σ => qjW c ops true (qnR c.loT ops.toList) E σ λ E σ => QU c fin L N k .normal E σ
         | false=>none
       | false=>match qog ops d with
         | some p=>match qpD c.loT E (qby ops) true with
           | true=>qjW c (qby ops) true (qby ops).toList E σ λ E σ => match qJG (get E p) with
             | true=>qjW c ops true (qi6 ops) E σ λ E σ => QU c fin L N k .normal E σ
             | false=>none
           | false=>none
         | none=>match qpD c.loT E ops d with
           | true=>qjW c ops d ops.toList E σ λ E σ => QU c fin L N k .normal E σ
           | false=>none
     | .seq a b=>QU c fin L N (.code a :: .code b::k) .normal E σ
     | .cond x a b=>match evT E x with
       | .b y=>cond y (QU c fin L N (.code a::k) .normal (qDN E x true) σ) (QU c fin L N (.code b::k) .normal (qDN E x false) σ)
       | _=>none
     | .block id b=>QU c fin L N (.code b :: .blk id::k) .normal E σ
     | .loop b=>match c.loop (qdU b) with
       | some l=>qqE l E σ λ E σ => mvE c.np σ E l ⟨[],[],[],[],[]⟩ λ E σ => L (.code (.loop b)::k) E σ
       | none=>none
     | .exit id=>QU c fin L N k (.exit id) E σ
     | .ret=>QU c fin L N k .ret E σ
     | _=>none
   | e=>QU c fin L N k e E σ
 | N+1,.blk id::k,e,E,σ => match e with
   | .exit i=>match Nat.beq i id with
     | true=>match c.join id with
       | some l=>mvE c.np σ E l ⟨[],[],[],[],[]⟩ λ E σ => L k E σ
       | none=>QU c fin L N k .normal E σ
     | false=>QU c fin L N k (.exit i) E σ
   | .normal=>match c.join id with
     | some l=>mvE c.np σ E l ⟨[],[],[],[],[]⟩ λ E σ => L k E σ
     | none=>QU c fin L N k .normal E σ
   | .ret=>QU c fin L N k .ret E σ
 | _+1,.ops .. :: _,_,_,_=>none
def qxR (c:TC) (fin:Env→TS→Option α) (L:List It→Env→TS→Option α) (N:Nat) (st:List It) (E:Env) (σ : TS):Option α :=
 match st with
 | .code (.loop b)::k=>match c.loop (qdU b) with
   | some l=>qqE l E σ λ E σ => QU c fin L N (.code b :: .code (.loop b)::k) .normal E σ
   | none=>QU c fin L N (.code b :: .code (.loop b)::k) .normal E σ
 | st=>QU c fin L N st .normal E σ
def qmX (c:TC) (fin:Env→TS→Option α) (N:Nat):Nat→List It→Env→TS→Option α
 | 0 => λ _ _ _=>none
 | n+1=>qxR c fin (qmX c fin N n) N
end
def qn5 (c:TC) (E:Env) (σ : TS):ResultVar→Option TV
 | .tmp t=>some (get E t)
 | .cell a t=>match c.ty t,get E a with
   | some d,.ptr b o=>match σ.bx[b]? with
     | some cs=>ql3 d.agg d.size cs o
     | none=>none
   | _,_=>none
def qis (c:TC):(ts:List Ty)→List ResultVar→Env→TS→Option (qdE ts)
 | [],[],_,_=>some ()
 | [a],[r],E,σ => match qn5 c E σ r with
   | some x=>qfe σ.rw a x
   | none=>none
 | a::b::ts,r::rs,E,σ => match qn5 c E σ r with
   | some x=>match qfe σ.rw a x with
     | some v=>match qis c (b::ts) rs E σ with
       | some vs=>some (v,vs)
       | none=>none
     | none=>none
   | none=>none
 | _,_,_,_=>none
def qkb:(sas:List SA)→Nat→Nat→jE sas→List TV
 | [],_,_,_=>[]
 | .val τ :: r,nb,nr,a=>qrt τ a.1::qkb r nb nr a.2
 | .row _::r,nb,nr,a => .row nr 0::qkb r nb (nr+1) a.2
 | .box l::r,nb,nr,a => .ptr nb 0::qkb r (nb+1) (nr+nR l) a.2
 | .nil::r,nb,nr,a => .nil::qkb r nb nr a
 | .clo g k::r,nb,nr,a => .fn g ((qkb r nb nr a).take k)::(qkb r nb nr a).drop k
def sBx:(sas:List SA)→Nat→jE sas→List (List TV)
 | [],_,_=>[]
 | .nil::r,nr,a=>sBx r nr a
 | .clo _ _::r,nr,a=>sBx r nr a
 | .val _::r,nr,a=>sBx r nr a.2
 | .row _::r,nr,a=>sBx r (nr+1) a.2
 | .box l::r,nr,a=>qe4 l nr (toC l a.1)::sBx r (nr+nR l) a.2
def sRw:(sas:List SA)→jE sas→List js
 | [],_=>[]
 | .nil::r,a=>sRw r a
 | .clo _ _::r,a=>sRw r a
 | .val _::r,a=>sRw r a.2
 | .row τ :: r,a=>⟨τ,a.1,0,0,false⟩::sRw r a.2
 | .box l::r,a=>qcA l (toC l a.1)++sRw r a.2
def qmL (σ : TS):(sas:List SA)→Nat→Option (jV sas × List Nat × Bool)
 | [],_=>some ((),[],true)
 | .nil::r,n=>qmL σ r n
 | .clo _ _::r,n=>qmL σ r n
 | .val _::r,n=>qmL σ r n
 | .row _::r,n=>qmL σ r n
 | .box l::r,n=>match σ.bx[n]? with
   | some cs=>match qd1 σ.rw l cs,qmL σ r (n+1) with
     | some (v,i,q),some (o,ids,q')=>some ((toB l v,o),i++ids,q&&q')
     | _,_=>none
   | none=>none
def qhm (c:TC) (E:Env) (σ : TS):(rs:List RE)→List ResultVar→Option (RV rs × List Nat × Bool)
 | [],[]=>some ((),[],true)
 | .one (.val a)::rs,r::l=>match qn5 c E σ r with
   | some x=>match qfe σ.rw a x,qhm c E σ rs l with
     | some v,some (vs,ids,q)=>some ((v,vs),ids,qm3 x&&q)
     | _,_=>none
   | none=>none
 | .one (.row a)::rs,r::l=>match qn5 c E σ r with
   | some x=>match qjo σ.rw a x,qhm c E σ rs l with
     | some (v,i),some (vs,ids,q)=>some ((v,vs),i++ids,q)
     | _,_=>none
   | none=>none
 | .agg p::rs,r::l=>match qn5 c E σ r with
   | some (.agg cs)=>match qd1 σ.rw p cs,qhm c E σ rs l with
     | some (v,i,q'),some (vs,ids,q)=>some ((v,vs),i++ids,q'&&q)
     | _,_=>none
   | _=>none
 | _,_=>none
def qus (c:TC) (sas:List SA) (rs:List RE) (l:List ResultVar) (E:Env) (σ : TS):Option (jV sas × RV rs):=match qmL σ sas 0,qhm c E σ rs l with
 | some (o,i,q),some (v,ids,q')=>match ndN (i++ids)&&((i++ids).isEmpty||(q&&q')) with
   | true=>some (o,v)
   | false=>none
 | _,_=>none
def qf5:Nat→List TV→Env
 | _,[]=>[]
 | n,x::l=>(n,x)::qf5 (n+1) l
end Go.AmYtbpnmbmdbblehaaGreat
namespace Go.AmYtbpnmbmdbblehaaGreat
open Go Go.RowKit Go.GxYtbpnmbmdbblehaaGreat
mutual
def qHH:T→List AV
 | .mk k n s l=>[.v (.int .i64 k),.v (.string ⟨n.toArray⟩),.v (.int .i64 s),.sl 4 (qye l) 0]
def qye:List T→List (List AV)
 | []=>[]
 | t::l=>qHH t::qye l
end
mutual
def qJZ:AV→Option (List T)
 | .v (.slice none 0 0)=>some []
 | .sl 4 es _=>qz1 es
 | _=>none
def qz1:List (List AV)→Option (List T)
 | []=>some []
 | e::es=>match qFY e with
   | some t=>match qz1 es with
     | some l=>some (t::l)
     | none=>none
   | none=>none
def qFY:List AV→Option T
 | [.v (.int .i64 k),.v (.string n),.v (.int .i64 s),x]=>match qJZ x with
   | some l=>some (.mk k n.data.toList s l)
   | none=>none
 | _=>none
end
mutual
theorem qGK:∀ t:T,qFY (qHH t)=some t
 | .mk k n s l=>by
   rw [qHH,qFY,qJZ,qys l]
theorem qys:∀ l:List T,qz1 (qye l)=some l
 | []=>by rw [qye,qz1]
 | t::l=>by rw [qye,qz1,qGK t,qys l]
end
theorem jU.len:∀ {xs ys:List AV},jU xs ys→xs.length=ys.length
 | _,_,.nil=>rfl
 | _,_,.cons _ t=>by simp [t.len]
theorem jU.get:∀ {xs ys:List AV},jU xs ys→∀ (i:Nat) (y:AV),ys[i]? = some y→∃ x,xs[i]? = some x∧Sub x y
 | _,_,.nil,i,y,h=>by simp at h
 | _,_,.cons a t,0,y,h=>by simp at h;subst h;exact ⟨_,rfl,a⟩
 | _,_,.cons a t,i+1,y,h=>by simpa using t.get i y (by simpa using h)
theorem qGj {xs ys:List AV} (h:jU xs ys):Sub (.agg xs) (.agg ys):=by
 intro Γ u hu
 cases hu with
 | agg cs us hn h1 hr =>
   have:=h.rep (RepL.mk hn hr)
   exact .agg _ _ this.len h1 this.rep
end Go.AmYtbpnmbmdbblehaaGreat
namespace Go.AmYtbpnmbmdbblehaaGreat
open Go Go.RowKit
def Qe (R:Row):Row:=⟨R.k,[],0,1,false⟩
theorem qqN {Γ Γ':Gh} {x:AV} {u:Value} (hm:∀ b o u,Γ.mem b o=some u → Γ'.mem b o=some u) (h:Rep Γ x u) (h1:rb x=[]) (h2:rr x=[]):Rep Γ' x u:=by
 have:=qpd (Γ' := Γ') (fb := λ b=>b) (fr := λ r=>r) hm h (by rw [h1];intro b hb;cases hb) (by rw [h2];intro b hb;cases hb)
 rwa [qyW] at this
theorem qBA:∀ {cs:List AV},rbL cs=[]→∀ x∈cs,rb x=[]
 | [],_,x,hx=>by cases hx
 | y::cs,h,x,hx=>by
   simp only [rbL,List.append_eq_nil_iff] at h
   rcases List.mem_cons.1 hx with rfl | hx
   ·exact h.1
   ·exact qBA h.2 x hx
theorem qBk:∀ {cs:List AV},rrL cs=[]→∀ x∈cs,rr x=[]
 | [],_,x,hx=>by cases hx
 | y::cs,h,x,hx=>by
   simp only [rrL,List.append_eq_nil_iff] at h
   rcases List.mem_cons.1 hx with rfl | hx
   ·exact h.1
   ·exact qBk h.2 x hx
theorem qD2 {Γ Γ':Gh} {cs:List AV} {us:List Value} (hm:∀ b o u,Γ.mem b o=some u → Γ'.mem b o=some u) (h:RepL Γ cs us) (h1:rbL cs=[]) (h2:rrL cs=[]):RepL Γ' cs us :=
 ⟨h.len,λ i x u hx hu=>qqN hm (h.rep i x u hx hu) (qBA h1 x (List.mem_of_getElem? hx)) (qBk h2 x (List.mem_of_getElem? hx))⟩
theorem qtF {x:AV} (h:qz x=true):rb x=[]∧rr x=[]:=(qf2 (fb := λ b=>b) (fr := λ r=>r) h).2
structure qC8 (σ1:St) (fs:List Nat) (so:Option Nat) (R:Row):Prop where
 fz:R.fz=0
 ver:R.ver=0
 pos:0<R.k
 len:∀ e∈R.c,e.length=R.k
 plain:∀ e∈R.c,∀ x∈e,qz x=true
 src:match so with
  | none=>R.c=[]
  | some j=>∃ Q,σ1.rw[j]? = some Q∧Q.k=R.k∧Q.fz=0∧Q.c.length=R.c.length∧(∀ (i:Nat) (e e':List AV),Q.c[i]? = some e→R.c[i]? = some e'→jU e e')∧j ∉ fs∧Q.off=false
def jP (Γ1:Gh) (m:Nat→Nat→Option Value) (nb L:Nat) (qi:List (Option Nat × Row)):Gh :=
 { mem:=m,nb:=nb,β := Γ1.β,nr:=L+qi.length,ver := λ r=>if r<L then Γ1.ver r+1 else 0,
   k := λ r=>if r<L then Γ1.k r else match qi[r-L]? with | some p=>p.2.k | none=>1,
   cur := λ r=>if r<L then Γ1.cur r else match qi[r-L]? with | some (some j,_) => Γ1.cur j | _=>0,
   sz := λ r=>if r<L then 0 else match qi[r-L]? with | some (some j,_) => Γ1.sz j | _=>0,of := λ _=>0 }
theorem qsK {Γ0 Γ1:Gh} {σ0 σ1:St} {w0 w1:World} (h0:Inv Γ0 σ0 w0) (hx:Ext Γ0 w0 Γ1 w1) (h1:Inv Γ1 σ1 w1) (hbl : σ0.bx.length ≤ σ1.bx.length)
  (outs:List (List AV)) (hol:outs.length = σ0.bx.length) (fs:List Nat) (qi:List (Option Nat × Row)) (hob:∀ (i:Nat) (cs:List AV),outs[i]? = some cs→∃ ds,σ1.bx[i]? = some ds∧∀ m,Fz Γ1 m→(∀ r∈fs,∀ R,σ1.rw[r]? = some R→Qc { Γ1 with mem:=m } r R)→∀ us,RepL Γ1 ds us→RepL (jP Γ1 m σ0.bx.length σ0.rw.length qi) cs us)
  (hn:∀ (a:Nat) (so:Option Nat) (R:Row),qi[a]? = some (so,R)→qC8 σ1 fs so R) (hd:∀ (a b j:Nat) (R R':Row),qi[a]? = some (some j,R)→qi[b]? = some (some j,R')→a=b) (wl wrl:List Nat) :
  ∃ m,Fz Γ1 m∧(∀ r∈fs,∀ R,σ1.rw[r]? = some R→Qc { Γ1 with mem:=m } r R)∧Ext Γ0 w0 (jP Γ1 m σ0.bx.length σ0.rw.length qi) w1∧Inv (jP Γ1 m σ0.bx.length σ0.rw.length qi) ⟨outs,σ0.rw.map Qe++qi.map (·.2),wl,wrl⟩ w1:=by
 obtain ⟨m,m1,m2,m3⟩:=qcr fs h1 σ1.wrr
 have hnb : σ0.bx.length ≤ Γ1.nb:=by rw [h1.nb];exact hbl
 have hm1:∀ b o u,Γ1.mem b o=some u→m b o=some u:=m1.le.mem
 have hsrc:∀ {r:Nat},¬ r < σ0.rw.length→(jP Γ1 m σ0.bx.length σ0.rw.length qi).sz r≠0→∃ j R Q,qi[r - σ0.rw.length]? = some (some j,R) ∧ σ1.rw[j]? = some Q∧qfc { Γ1 with mem:=m } w1 j Q∧(jP Γ1 m σ0.bx.length σ0.rw.length qi).cur r = Γ1.cur j∧(jP Γ1 m σ0.bx.length σ0.rw.length qi).sz r = Γ1.sz j:=by
  intro r hr hz
  have hz':(if r < σ0.rw.length then 0 else match qi[r - σ0.rw.length]? with | some (some j,_) => Γ1.sz j | _=>0)≠0:=hz
  rw [if_neg hr] at hz'
  split at hz'
  ·rename_i j R hnj
   obtain ⟨Q,q1,_,_,_,_,q6,_⟩:=(hn _ _ _ hnj).src
   refine ⟨j,R,Q,hnj,q1,m2.row j Q (by show (frz σ1.rw fs)[j]? = _;rw [qlq fs _ j q6];exact q1),?_,?_⟩
   ·show (if r < σ0.rw.length then _ else match qi[r - σ0.rw.length]? with | some (some j,_) => Γ1.cur j | _=>0)=_
    rw [if_neg hr,hnj]
   ·show (if r < σ0.rw.length then _ else match qi[r - σ0.rw.length]? with | some (some j,_) => Γ1.sz j | _=>0)=_
    rw [if_neg hr,hnj]
  ·exact absurd rfl hz'
 have hold:∀ {r:Nat},r < σ0.rw.length→(jP Γ1 m σ0.bx.length σ0.rw.length qi).sz r=0 := λ hr=>if_pos hr
 refine ⟨m,m1,m3,⟨⟨λ b o u h=>hm1 _ _ _ (hx.le.mem b o u h),by rw [h0.nb];exact Nat.le_refl _,λ i hi=>hx.le.β i hi,by rw [h0.nr];exact Nat.le_add_right _ _,λ r hr=>?_,λ r hr=>?_,λ r hr he=>?_⟩,hx.os,hx.tape,hx.output,hx.size,hx.block,?_,?_,hx.drawn⟩,?_⟩
 ·rw [h0.nr] at hr
  exact (if_pos hr).trans (hx.le.k r (by rw [h0.nr];exact hr))
 ·have:=hx.le.ver r hr
  rw [h0.nr] at hr
  show Γ0.ver r≤(if r < σ0.rw.length then Γ1.ver r+1 else 0)
  rw [if_pos hr];omega
 ·have:=hx.le.ver r hr
  rw [h0.nr] at hr
  have he:(if r < σ0.rw.length then Γ1.ver r+1 else 0) = Γ0.ver r:=he
  rw [if_pos hr] at he;omega
 ·rintro b (⟨i,hi,hb⟩ | ⟨r,hr,hz,hb⟩)
  ·exact hx.own b (.inl ⟨i,Nat.lt_of_lt_of_le hi hnb,hb⟩)
  ·by_cases hlt:r < σ0.rw.length
   ·exact absurd (hold hlt) hz
   ·obtain ⟨j,R,Q,_,q2,_,q4,q5⟩:=hsrc hlt hz
    exact hx.own b (.inr ⟨j,by rw [h1.nr];exact getElem?_lt q2,by rw [← q5];exact hz,by rw [← q4];exact hb⟩)
 ·intro b o u hm
  rcases m1.own b o u hm with h | h
  ·exact hx.memg b o u h
  ·exact .inr (hx.own b h)
 ·refine ⟨hol.symm,by show σ0.rw.length+qi.length=_;simp,λ b o u h=>m2.mem b o u h,?_,λ i j hi hj he=>h1.inj i j (Nat.lt_of_lt_of_le hi hnb) (Nat.lt_of_lt_of_le hj hnb) he,λ i hi o=>m2.boxmem i (Nat.lt_of_lt_of_le hi hnb) o,?_,?_⟩
  ·intro i cs hi
   obtain ⟨ds,d1,d2⟩:=hob i cs hi
   obtain ⟨vs,e,v1,v2,v3⟩:=h1.box i ds d1
   exact ⟨vs,e,v1,d2 m m1 m3 _ v2,v3⟩
  ·intro r R hR
   have hR:(σ0.rw.map Qe++qi.map (·.2))[r]? = some R:=hR
   by_cases hlt:r < σ0.rw.length
   ·rw [List.getElem?_append_left (by rw [List.length_map];exact hlt),List.getElem?_map] at hR
    cases hr0 : σ0.rw[r]? with
    | none=>rw [hr0] at hR;cases hR
    | some R0 =>
      rw [hr0] at hR;cases hR
      have H:=h0.row r R0 hr0
      have hz:=hold hlt
      refine ⟨?_,λ h=>absurd h (by show ¬ 1≤0;omega),H.pos,(by intro e he;cases he),(by intro e he;cases he),.inl rfl,λ h=>absurd hz h,by show 0+0*_≤_;rw [Nat.zero_mul];exact Nat.zero_le _,λ h=>absurd hz h,(by intro i e j x hi;cases hi),λ h=>absurd hz h,λ _=>rfl⟩
      show R0.k=(if r < σ0.rw.length then Γ1.k r else _)
      rw [if_pos hlt,H.k]
      exact (hx.le.k r (by rw [h0.nr];exact hlt)).symm
   ·rw [List.getElem?_append_right (by rw [List.length_map];omega),List.length_map,List.getElem?_map] at hR
    cases hr0:qi[r - σ0.rw.length]? with
    | none=>rw [hr0] at hR;cases hR
    | some p =>
      rw [hr0] at hR;cases hR
      obtain ⟨so,R⟩:=p
      have hN:=hn _ _ _ hr0
      have hk:R.k=(jP Γ1 m σ0.bx.length σ0.rw.length qi).k r:=by
       show _=(if r < σ0.rw.length then _ else match qi[r - σ0.rw.length]? with | some p=>p.2.k | none=>1)
       rw [if_neg hlt,hr0]
      have hver:R.ver=(jP Γ1 m σ0.bx.length σ0.rw.length qi).ver r:=by
       show _=(if r < σ0.rw.length then _ else 0)
       rw [if_neg hlt];exact hN.ver
      cases so with
      | none =>
        have hc:R.c=[]:=hN.src
        have hz:(jP Γ1 m σ0.bx.length σ0.rw.length qi).sz r=0:=by
         show (if r < σ0.rw.length then 0 else match qi[r - σ0.rw.length]? with | some (some j,_) => Γ1.sz j | _=>0)=0
         rw [if_neg hlt,hr0]
        exact ⟨hk,λ _=>hver,hN.pos,hN.len,hN.plain,.inl hc,λ h=>absurd hz h,by show 0+R.c.length*_≤_;rw [hc];simp,λ h=>absurd hz h,(by intro i e j x hi;change R.c[i]? = _ at hi;rw [hc] at hi;cases hi),λ h=>absurd hz h,λ _=>rfl⟩
      | some j =>
        obtain ⟨Q,q1,q2,q3,q4,q5,q6,q7⟩:=hN.src
        have H:qfc { Γ1 with mem:=m } w1 j Q:=m2.row j Q (by show (frz σ1.rw fs)[j]? = _;rw [qlq fs _ j q6];exact q1)
        have hcu:(jP Γ1 m σ0.bx.length σ0.rw.length qi).cur r = Γ1.cur j:=by
         show (if r < σ0.rw.length then _ else match qi[r - σ0.rw.length]? with | some (some j,_) => Γ1.cur j | _=>0)=_
         rw [if_neg hlt,hr0]
        have hsz:(jP Γ1 m σ0.bx.length σ0.rw.length qi).sz r = Γ1.sz j:=by
         show (if r < σ0.rw.length then _ else match qi[r - σ0.rw.length]? with | some (some j,_) => Γ1.sz j | _=>0)=_
         rw [if_neg hlt,hr0]
        have hof : Γ1.of j=0:=H.off q7
        refine ⟨hk,λ _=>hver,hN.pos,hN.len,hN.plain,.inr (by show R.fz≤_;rw [hN.fz];exact Nat.zero_le _),λ hz=>?_,?_,λ hz off ho=>?_,?_,λ hz i hi=>?_,λ _=>rfl⟩
        ·rw [hsz] at hz
         obtain ⟨vs,e,b1,b2⟩:=H.blk hz
         exact ⟨vs,e,by rw [hcu];exact b1,by rw [hsz];exact b2⟩
        ·show 0+R.c.length*R.k≤_
         have hft : Γ1.of j+Q.c.length*Q.k ≤ Γ1.sz j:=H.fit
         rw [hof] at hft
         rw [hsz,← q4,← q2];exact hft
        ·rw [hsz] at hz
         rw [hcu]
         refine H.un hz off ?_
         show Γ1.of j+_≤_
         rw [q3,Nat.zero_mul,hof];exact Nat.zero_le _
        ·intro i e' jj x' hi hj
         have hi:R.c[i]? = some e':=hi
         have hil:i<Q.c.length:=by rw [q4];exact getElem?_lt hi
         obtain ⟨x,hx',hsub⟩:=(q5 i _ e' (List.getElem?_eq_getElem hil) hi).get jj x' hj
         obtain ⟨u,u1,u2,u3⟩:=H.cells i _ jj x (List.getElem?_eq_getElem hil) hx'
         obtain ⟨p1,p2⟩:=qtF (hN.plain e' (List.mem_of_getElem? hi) x' (List.mem_of_getElem? hj))
         refine ⟨u,?_,qqN (Γ := { Γ1 with mem:=m }) (λ _ _ _ h=>h) (hsub _ _ u2) p1 p2,u3⟩
         have u1':w1.cell? ⟨Γ1.cur j,Γ1.of j+(i*Q.k+jj),none⟩=some u:=u1
         show w1.cell? ⟨_,0+(i*R.k+jj),none⟩=_
         rw [hcu,← q2,← hof];exact u1'
        ·rw [hsz] at hz
         rw [hcu]
         exact H.nbx hz i (Nat.lt_of_lt_of_le hi hnb)
  ·intro r r' hr hr' hne z1 z2
   by_cases e1:r < σ0.rw.length
   ·exact absurd (hold e1) z1
   by_cases e2:r' < σ0.rw.length
   ·exact absurd (hold e2) z2
   obtain ⟨j,R,Q,a1,a2,_,a4,a5⟩:=hsrc e1 z1
   obtain ⟨j',R',Q',b1,b2,_,b4,b5⟩:=hsrc e2 z2
   rw [a4,b4]
   refine h1.apart j j' (by rw [h1.nr];exact getElem?_lt a2) (by rw [h1.nr];exact getElem?_lt b2) (λ he=>?_) (by rw [← a5];exact z1) (by rw [← b5];exact z2)
   subst he
   have:=hd _ _ _ _ _ a1 b1
   omega
end Go.AmYtbpnmbmdbblehaaGreat
namespace Go.AmYtbpnmbmdbblehaaGreat
open Go Go.RowKit Go.GxYtbpnmbmdbblehaaGreat
def qX {β : Type} (f:List AV→Option β):List (List AV)→Option (List β)
 | []=>some []
 | e::es=>match f e with
   | some v=>match qX f es with
     | some vs=>some (v::vs)
     | none=>none
   | none=>none
mutual
def qkD:AV→Option (List T)
 | .v (.slice none 0 0)=>some []
 | .sl 4 es (_+1)=>qpe es
 | _=>none
def qpe:List (List AV)→Option (List T)
 | []=>some []
 | e::es=>match jL e with
   | some t=>match qpe es with
     | some l=>some (t::l)
     | none=>none
   | none=>none
def jL:List AV→Option T
 | [.v (.int .i64 k),.v (.string n),.v (.int .i64 s),x]=>match qkD x with
   | some l=>some (.mk k n.data.toList s l)
   | none=>none
 | _=>none
end
def full {β : Type}:Option (β × List AV)→Option β
 | some (v,[])=>some v
 | _=>none
def yZ (k:Nat) {β : Type} (f:List AV→Option β):AV→Option (List β)
 | .v (.slice none 0 0)=>some []
 | .sl k' es (_+1)=>match q9 k' k with
   | true=>qX f es
   | false=>none
 | _=>none
def qcu (k:IntKind):List AV→Option (Int × List AV)
 | .v (.int k' n)::r=>match decide (k'=k) with
   | true=>some (n,r)
   | false=>none
 | _=>none
def qiZ:List AV→Option (Bool × List AV)
 | .v (.bool b)::r=>some (b,r)
 | _=>none
def qht:List AV→Option (List UInt8 × List AV)
 | .v (.string s)::r=>some (s.data.toList,r)
 | _=>none
def J3:List AV→Option (T × List AV)
 | a::b::c::d::r=>match jL [a,b,c,d] with
   | some t=>some (t,r)
   | none=>none
 | _=>none
def qcq {β : Type} (ls:AV→Option β):List AV→Option (β × List AV)
 | x::r=>match ls x with
   | some l=>some (l,r)
   | none=>none
 | _=>none
def Jw:(τ : Ty)→List AV→Option (Val τ × List AV)
 | .int k=>qcu k
 | .bool=>qiZ
 | .str=>qht
 | .term=>J3
 | .list a=>qcq (yZ a.size (λ e=>full (Jw a e)))
 | .pair a b=>qxw (Jw a) (Jw b)
 | .one a=>Jw a
def ym (τ : Ty) (e:List AV):Option (Val τ):=full (Jw τ e)
def dlist (τ : Ty) (x:AV):Option (List (Val τ)):=yZ τ.size (ym τ) x
mutual
def Jj:T→List AV
 | .mk k n s l=>[.v (.int .i64 k),.v (.string ⟨n.toArray⟩),.v (.int .i64 s),.sl 4 (qmm l) 1]
def qmm:List T→List (List AV)
 | []=>[]
 | t::l=>Jj t::qmm l
end
def qm:(τ : Ty)→Val τ → List AV
 | .int k,n=>[.v (.int k n)]
 | .bool,b=>[.v (.bool b)]
 | .str,s=>[.v (.string ⟨s.toArray⟩)]
 | .term,t=>Jj t
 | .list a,l=>[.sl a.size (l.map (qm a)) 1]
 | .pair a b,p=>qm a p.1++qm b p.2
 | .one a,v=>qm a v
def yN:(τ : Ty)→Val τ → AV
 | .int k,n => .v (.int k n)
 | .bool,b => .v (.bool b)
 | .str,s => .v (.string ⟨s.toArray⟩)
 | .list a,l => .sl a.size (l.map (qm a)) 1
 | .term,t => .agg (qm .term t)
 | .pair a b,p => .agg (qm (.pair a b) p)
 | .one a,v => .agg (qm (.one a) v)
theorem yH {β : Type} {f:List AV→Option β} {e:List AV} {es:List (List AV)} {l:List β}:qX f (e::es)=some l↔∃ v vs,f e=some v∧qX f es=some vs∧l=v::vs:=by
 constructor
 ·intro h
  simp only [qX] at h
  split at h<;>try cases h
  split at h<;>cases h
  exact ⟨_,_,by assumption,by assumption,rfl⟩
 ·rintro ⟨v,vs,h1,h2,rfl⟩
  simp only [qX,h1,h2]
theorem qQ {β : Type} {f:List AV→Option β}:∀ {es:List (List AV)} {l:List β},qX f es=some l→es.length=l.length
 | [],l,h=>by cases h;rfl
 | e::es,l,h=>by
   obtain ⟨v,vs,_,h2,rfl⟩:=yH.1 h
   simp [qQ h2]
theorem qhQ {β : Type} {f:List AV→Option β}:∀ {es:List (List AV)} {l:List β},qX f es=some l→∀ {i:Nat} {v : β},l[i]? = some v→∃ e,es[i]? = some e∧f e=some v
 | [],l,h,i,v,hv=>by cases h;simp at hv
 | e::es,l,h,i,v,hv=>by
   obtain ⟨w,vs,h1,h2,rfl⟩:=yH.1 h
   cases i with
   | zero=>simp at hv;subst hv;exact ⟨e,rfl,h1⟩
   | succ i=>exact qhQ h2 (by simpa using hv)
theorem Ji {β : Type} {f:List AV→Option β}:∀ {es:List (List AV)} {l:List β},qX f es=some l→∀ {i:Nat} {e:List AV},es[i]? = some e→∃ v,l[i]? = some v∧f e=some v
 | [],l,h,i,v,hv=>by simp at hv
 | e::es,l,h,i,v,hv=>by
   obtain ⟨w,vs,h1,h2,rfl⟩:=yH.1 h
   cases i with
   | zero=>simp at hv;subst hv;exact ⟨w,rfl,h1⟩
   | succ i=>exact Ji h2 (by simpa using hv)
theorem Jq {β : Type} {f:List AV→Option β}:∀ {es fs:List (List AV)} {l m:List β},qX f es=some l→qX f fs=some m→qX f (es++fs)=some (l++m)
 | [],fs,l,m,h,g=>by cases h;exact g
 | e::es,fs,l,m,h,g=>by
   obtain ⟨v,vs,h1,h2,rfl⟩:=yH.1 h
   exact yH.2 ⟨v,vs++m,h1,Jq h2 g,rfl⟩
theorem qgw {β : Type} {f:List AV→Option β}:∀ (n:Nat) {es:List (List AV)} {l:List β},qX f es=some l→qX f (es.take n)=some (l.take n)
 | 0,es,l,h=>by simp;rfl
 | n+1,[],l,h=>by cases h;rfl
 | n+1,e::es,l,h=>by
   obtain ⟨v,vs,h1,h2,rfl⟩:=yH.1 h
   exact yH.2 ⟨v,vs.take n,h1,qgw n h2,rfl⟩
theorem qes {β : Type} {f:List AV→Option β}:∀ (n:Nat) {es:List (List AV)} {l:List β},qX f es=some l→qX f (es.drop n)=some (l.drop n)
 | 0,es,l,h=>by simpa using h
 | n+1,[],l,h=>by cases h;rfl
 | n+1,e::es,l,h=>by
   obtain ⟨v,vs,h1,h2,rfl⟩:=yH.1 h
   simpa using qes n h2
theorem qbX {β : Type} {f:List AV→Option β} {g : β → List AV} (h:∀ v,f (g v)=some v):∀ l:List β,qX f (l.map g)=some l
 | []=>rfl
 | v::l=>yH.2 ⟨v,l,h v,qbX h l,rfl⟩
theorem qmM:∀ es:List (List AV),qpe es=qX jL es
 | []=>rfl
 | e::es=>by
   rw [qpe,qX,qmM es]
   cases jL e with
   | none=>rfl
   | some t=>cases qX jL es<;>rfl
theorem zZ {β : Type} {x:Option (β × List AV)} {v : β}:full x=some v↔x=some (v,[]):=by
 unfold full
 split
 ·simp
 ·rename_i h
  constructor
  ·intro h;cases h
  ·intro e;exact absurd e (h v)
theorem qkC {cs:List AV} {t:T} (h:jL cs=some t):∃ k n s x l,cs=[.v (.int .i64 k),.v (.string n),.v (.int .i64 s),x]∧qkD x=some l∧t = .mk k n.data.toList s l:=by
 unfold jL at h
 split at h
 ·split at h<;>cases h
  exact ⟨_,_,_,_,_,rfl,by assumption,rfl⟩
 ·cases h
theorem qv5 (e:List AV):ym .term e=jL e:=by
 show full (J3 e)=jL e
 unfold J3
 split
 ·rename_i a b c d r
  cases r with
  | nil =>
    cases hd:jL [a,b,c,d] with
    | none=>rfl
    | some t=>rfl
  | cons x r =>
    have hn:jL (a::b::c::d::x::r)=none:=by
     unfold jL
     split
     ·rename_i h;simp at h
     ·rfl
    rw [hn]
    cases hd:jL [a,b,c,d] with
    | none=>rfl
    | some t=>rfl
 ·rename_i h
  cases hd:jL e with
  | none=>rfl
  | some t =>
    obtain ⟨k,n,s,x,l,rfl,_,_⟩:=qkC hd
    exact absurd rfl (h _ _ _ _ _)
theorem qiS (x:AV):dlist .term x=qkD x:=by
 have hf:(ym .term:List AV→Option T)=jL:=funext qv5
 unfold dlist yZ qkD
 split
 ·rfl
 ·rename_i k' es n
  by_cases hk:k'=4
  ·subst hk
   show qX (ym .term) es=qpe es
   rw [hf,qmM]
  ·have:q9 k' Ty.term.size=false:=by simp [q9,hk,Ty.size]
   rw [this]
   simp only
   split
   ·rename_i h;cases h
   ·rename_i h;cases h;exact absurd rfl hk
   ·rfl
 ·rename_i h1 h2
  split
  ·rename_i h;exact absurd rfl h1
  ·rename_i es n h;exact absurd rfl (h2 _ _ _)
  ·rfl
theorem qBm {es es':List (List AV)} {k f:Nat} (hf:0<f) (hn:es.length=es'.length) (hk:∀ e∈es',e.length=k) (hp:∀ e∈es',∀ x∈e,qz x=true)
  (hs:∀ (i:Nat) (e e':List AV),es[i]? = some e→es'[i]? = some e'→jU e e'):Sub (.sl k es f) (.sl k es' 1):=by
 intro Γ u hu
 cases hu with
 | sl k es f a n cap b o us h1 h2 h3 h4 h5 h6 h7 h8 h9 =>
   have get:∀ (i:Nat) (e':List AV) (j:Nat) (y:AV),es'[i]? = some e'→e'[j]? = some y→∃ e x,es[i]? = some e∧e[j]? = some x∧Sub x y:=by
    intro i e' j y hi hj
    have hlt:i<es.length:=by rw [hn];exact getElem?_lt hi
    have he:=List.getElem?_eq_getElem hlt
    obtain ⟨x,hx,hsub⟩:=(hs i _ e' he hi).get j y hj
    exact ⟨_,x,he,hx,hsub⟩
   refine .sl k es' 1 a n cap b o us (by rw [h1,hn]) (λ _=>h2 hf) (λ h=>absurd h (by decide)) hk hp h6 ?_ ?_ ?_
   ·rcases h7 with h7 | h7
    ·left
     subst h7
     exact List.length_eq_zero_iff.1 hn.symm
    ·exact .inr h7
   ·intro i e' j y hi hj
    obtain ⟨e,x,q1,q2,_⟩:=get i e' j y hi hj
    exact h8 i e j x q1 q2
   ·intro i e' j y hi hj
    obtain ⟨e,x,q1,q2,q3⟩:=get i e' j y hi hj
    exact q3 Γ _ (h9 i e j x q1 q2)
theorem qzh (k:Nat) (hk:0<k):Sub (.v (.slice none 0 0)) (.sl k [] 1):=by
 intro Γ u hu
 have:=zw hu
 subst this
 exact .sl k [] 1 none 0 0 0 0 (λ _ _=>undef) rfl (λ _=>Nat.le_refl _) (λ h=>absurd h (by decide)) (by simp) (by simp) hk (.inl rfl) (by simp) (by simp)
theorem qmU:∀ l:List T,qmm l=l.map Jj
 | []=>rfl
 | t::l=>by rw [qmm,qmU l];rfl
theorem qvL (t:T):(Jj t).length=4:=by obtain ⟨k,n,s,l⟩:=t;rw [Jj];rfl
theorem qqb (t:T):∀ x∈Jj t,qz x=true:=by
 obtain ⟨k,n,s,l⟩:=t
 intro x hx
 rw [Jj] at hx
 simp at hx
 rcases hx with rfl | rfl | rfl | rfl<;>rfl
theorem jS:∀ (τ : Ty) (v:Val τ),(qm τ v).length = τ.size
 | .int _,_=>rfl
 | .bool,_=>rfl
 | .str,_=>rfl
 | .term,t=>qvL t
 | .list _,_=>rfl
 | .pair a b,p=>by rw [qm,List.length_append,jS a,jS b];rfl
 | .one a,v=>by rw [qm,jS a];rfl
theorem zY:∀ (τ : Ty) (v:Val τ),∀ x∈qm τ v,qz x=true
 | .int _,_,x,h=>by simp [qm] at h;subst h;rfl
 | .bool,_,x,h=>by simp [qm] at h;subst h;rfl
 | .str,_,x,h=>by simp [qm] at h;subst h;rfl
 | .term,t,x,h=>qqb t x h
 | .list _,_,x,h=>by simp [qm] at h;subst h;rfl
 | .pair a b,p,x,h=>by
   rw [qm] at h
   rcases List.mem_append.1 h with h | h
   ·exact zY a _ x h
   ·exact zY b _ x h
 | .one a,v,x,h=>zY a v x h
theorem qKH (t:T):∀ cs,jL cs=some t→jU cs (Jj t)∧∀ x∈cs,qz x=true:=by
 refine T.ind (P := λ t=>∀ cs,jL cs=some t→jU cs (Jj t)∧∀ x∈cs,qz x=true) ?_ t
 intro t ih cs h
 obtain ⟨k,n,s,x,l,rfl,h1,rfl⟩:=qkC h
 have hn:(⟨n.data.toList.toArray⟩:ByteArray)=n:=by cases n;simp
 have key:Sub x (.sl 4 (qmm l) 1)∧qz x=true:=by
  unfold qkD at h1
  split at h1
  ·cases h1;rw [qmm];exact ⟨qzh 4 (by decide),rfl⟩
  ·rename_i es lv
   refine ⟨?_,rfl⟩
   rw [qmM] at h1
   rw [qmU]
   refine qBm (Nat.succ_pos _) (by rw [qQ h1,List.length_map]) ?_ ?_ ?_
   ·intro e he
    obtain ⟨t',_,rfl⟩:=List.mem_map.1 he
    exact qvL t'
   ·intro e he
    obtain ⟨t',_,rfl⟩:=List.mem_map.1 he
    exact qqb t'
   ·intro i e e' hi hi'
    obtain ⟨t',q1,q2⟩:=Ji h1 hi
    rw [List.getElem?_map,q1] at hi'
    simp at hi'
    subst hi'
    exact (ih t' (List.mem_of_getElem? q1) e q2).1
  ·cases h1
 refine ⟨?_,?_⟩
 ·rw [Jj,hn]
  exact .cons (.refl _) (.cons (.refl _) (.cons (.refl _) (.cons key.1 .nil)))
 ·intro y hy
  simp at hy
  rcases hy with rfl | rfl | rfl | rfl
  ·rfl
  ·rfl
  ·rfl
  ·exact key.2
theorem jU.append:∀ {a b c d:List AV},jU a b→jU c d→jU (a++c) (b++d)
 | _,_,_,_,.nil,g=>g
 | _,_,_,_,.cons h t,g => .cons h (t.append g)
theorem Ty.size_pos:∀ τ : Ty,0 < τ.size
 | .int _=>Nat.one_pos
 | .bool=>Nat.one_pos
 | .str=>Nat.one_pos
 | .term=>by decide
 | .list _=>Nat.one_pos
 | .pair a b=>Nat.lt_of_lt_of_le (Ty.size_pos a) (Nat.le_add_right _ _)
 | .one a=>Ty.size_pos a
theorem Jh {σ β γ : Type} {p:List σ → Option (β × List σ)} {q:List σ → Option (γ × List σ)} {cs:List σ} {v : β × γ} {r:List σ}:qxw p q cs=some (v,r)↔∃ r1,p cs=some (v.1,r1)∧q r1=some (v.2,r):=by
 unfold qxw
 constructor
 ·intro h
  split at h<;>try cases h
  split at h<;>cases h
  exact ⟨_,by assumption,by assumption⟩
 ·rintro ⟨r1,h1,h2⟩
  rw [h1]
  simp only [h2]
theorem qe7:∀ (τ : Ty) {cs:List AV} {v:Val τ} {r:List AV} (s:List AV),Jw τ cs=some (v,r)→Jw τ (cs++s)=some (v,r++s)
 | .int k,cs,v,r,s,h=>by
   change qcu k cs=_ at h
   show qcu k (cs++s)=_
   unfold qcu at h
   split at h<;>try cases h
   split at h<;>cases h
   rename_i hk
   simp only [List.cons_append,qcu,hk]
 | .bool,cs,v,r,s,h=>by
   change qiZ cs=_ at h
   unfold qiZ at h
   split at h<;>cases h
   rfl
 | .str,cs,v,r,s,h=>by
   change qht cs=_ at h
   unfold qht at h
   split at h<;>cases h
   rfl
 | .term,cs,v,r,s,h=>by
   change J3 cs=_ at h
   unfold J3 at h
   split at h<;>try cases h
   split at h<;>cases h
   rename_i hd
   show J3 _=_
   simp only [List.cons_append,J3,hd]
 | .list a,cs,v,r,s,h=>by
   change qcq _ cs=_ at h
   unfold qcq at h
   split at h<;>try cases h
   split at h<;>cases h
   rename_i hd
   show qcq _ _=_
   simp only [List.cons_append,qcq,hd]
 | .pair a b,cs,v,r,s,h=>by
   obtain ⟨r1,h1,h2⟩:=Jh.1 h
   exact Jh.2 ⟨_,qe7 a s h1,qe7 b s h2⟩
 | .one a,cs,v,r,s,h=>qe7 a s h
theorem yv:∀ (τ : Ty) {cs:List AV} {v:Val τ} {r:List AV},Jw τ cs=some (v,r)→∃ pre,cs=pre++r∧pre.length = τ.size∧(∀ x∈pre,qz x=true)∧jU pre (qm τ v)∧Jw τ pre=some (v,[])
 | .int k,cs,v,r,h=>by
   change qcu k cs=_ at h
   unfold qcu at h
   split at h<;>try cases h
   split at h<;>cases h
   rename_i hk
   have hk':=of_decide_eq_true hk
   subst hk'
   exact ⟨[_],rfl,rfl,by simp [qz],.refl _,by show qcu _ _=_;simp [qcu]⟩
 | .bool,cs,v,r,h=>by
   change qiZ cs=_ at h
   unfold qiZ at h
   split at h<;>cases h
   exact ⟨[_],rfl,rfl,by simp [qz],.refl _,rfl⟩
 | .str,cs,v,r,h=>by
   change qht cs=_ at h
   unfold qht at h
   split at h<;>cases h
   rename_i s
   have hn:(⟨s.data.toList.toArray⟩:ByteArray)=s:=by cases s;simp
   exact ⟨[_],rfl,rfl,by simp [qz],by rw [qm,hn];exact .refl _,rfl⟩
 | .term,cs,v,r,h=>by
   change J3 cs=_ at h
   unfold J3 at h
   split at h<;>try cases h
   split at h<;>cases h
   rename_i hd
   obtain ⟨h1,h2⟩:=qKH _ _ hd
   exact ⟨_,rfl,rfl,h2,h1,by show J3 _=_;simp only [J3,hd]⟩
 | .list a,cs,v,r,h=>by
   change qcq _ cs=_ at h
   unfold qcq at h
   split at h<;>try cases h
   rename_i x r'
   split at h<;>cases h
   rename_i hd
   refine ⟨[x],rfl,rfl,?_,?_,by show qcq _ _=_;simp only [qcq,hd]⟩
   ·intro y hy
    simp at hy;subst hy
    unfold yZ at hd
    split at hd
    ·rfl
    ·rfl
    ·cases hd
   ·rw [qm]
    refine .cons ?_ .nil
    unfold yZ at hd
    split at hd
    ·cases hd;exact qzh _ (Ty.size_pos a)
    ·rename_i k' es n
     split at hd
     ·rename_i hk
      have hk:=of_decide_eq_true hk
      subst hk
      refine qBm (Nat.succ_pos _) (by rw [qQ hd,List.length_map]) ?_ ?_ ?_
      ·intro e he
       obtain ⟨w,_,rfl⟩:=List.mem_map.1 he
       exact jS a w
      ·intro e he
       obtain ⟨w,_,rfl⟩:=List.mem_map.1 he
       exact zY a w
      ·intro i e e' hi hi'
       obtain ⟨w,q1,q2⟩:=Ji hd hi
       rw [List.getElem?_map,q1] at hi'
       simp at hi'
       subst hi'
       obtain ⟨pre,p1,_,_,p4,_⟩:=yv a (zZ.1 q2)
       rw [List.append_nil] at p1
       rw [p1];exact p4
     ·cases hd
    ·cases hd
 | .pair a b,cs,v,r,h=>by
   obtain ⟨r1,h1,h2⟩:=Jh.1 h
   obtain ⟨p,e1,l1,q1,s1,d1⟩:=yv a h1
   obtain ⟨p',e2,l2,q2,s2,d2⟩:=yv b h2
   refine ⟨p++p',by rw [e1,e2,List.append_assoc],by rw [List.length_append,l1,l2];rfl,?_,by rw [qm];exact s1.append s2,?_⟩
   ·intro x hx
    rcases List.mem_append.1 hx with hx | hx
    ·exact q1 x hx
    ·exact q2 x hx
   ·exact Jh.2 ⟨p',by have:=qe7 a p' d1;simpa using this,d2⟩
 | .one a,cs,v,r,h=>yv a h
theorem qFc (t:T):jL (Jj t)=some t:=by
 refine T.ind (P := λ t=>jL (Jj t)=some t) ?_ t
 intro t ih
 obtain ⟨k,n,s,l⟩:=t
 have:qpe (qmm l)=some l:=by
  rw [qmM,qmU]
  have ih:∀ x∈l,jL (Jj x)=some x:=ih
  have key:∀ m:List T,(∀ x∈m,jL (Jj x)=some x)→qX jL (m.map Jj)=some m:=by
   intro m
   induction m with
   | nil=>intro _;rfl
   | cons x m ih2=>intro h;exact yH.2 ⟨x,m,h x (List.mem_cons_self ..),ih2 λ y hy=>h y (List.mem_cons_of_mem _ hy),rfl⟩
  exact key l ih
 rw [Jj,jL,qkD,this]
theorem qgp:∀ (τ : Ty) (v:Val τ),Jw τ (qm τ v)=some (v,[])
 | .int k,v=>by show qcu k [_]=_;simp [qcu]
 | .bool,v=>rfl
 | .str,v=>by show qht _=_;simp [qht,qm]
 | .term,t=>by
   have:=qv5 (Jj t)
   rw [qFc] at this
   exact zZ.1 this
 | .list a,l=>by
   have hl:qX (λ e=>full (Jw a e)) (l.map (qm a))=some l:=qbX (λ v=>by rw [qgp a v];rfl) l
   show qcq _ [_]=_
   simp only [qcq,yZ,q9,decide_true,hl]
 | .pair a b,v=>Jh.2 ⟨_,qe7 a _ (qgp a v.1),by rw [List.nil_append];exact qgp b v.2⟩
 | .one a,v=>qgp a v
end Go.AmYtbpnmbmdbblehaaGreat
namespace Go.AmYtbpnmbmdbblehaaGreat
open Go Go.RowKit Go.GxYtbpnmbmdbblehaaGreat
structure Mp where
 b:Nat→Nat
 nb:Nat
 r:Nat→Option Nat
 v:Nat→Nat
 q:Nat→List (List AV)
 rw:List js
def mp0:Mp:=⟨λ _=>0,0,λ _=>none,λ _=>0,λ _=>[],[]⟩
def lvl:AV→Nat
 | .v _=>2
 | .sl _ _ n=>n
 | _=>0
def Jg (r:Option Nat) (v:Nat) (τ : Ty) (l:List (Val τ)) (y:AV):Prop:=match r with
 | some r=>y = .rs r 0 l.length v false
 | none=>dlist τ y=some l∧2≤lvl y
def qrf (y:AV):Prop:=y = .v (.slice none 0 0)∨(∃ k es n,y = .sl k es n)∨∃ r lo n ep f,y = .rs r lo n ep f
theorem qFF {τ : Ty} {y:AV} {l:List (Val τ)} (h:dlist τ y=some l):qrf y:=by
 unfold dlist yZ at h
 split at h
 ·exact .inl rfl
 ·exact .inr (.inl ⟨_,_,_,rfl⟩)
 ·cases h
theorem Jg.ish {r:Option Nat} {v:Nat} {τ : Ty} {l:List (Val τ)} {y:AV} (h:Jg r v τ l y):qrf y:=by
 cases r with
 | some r=>exact .inr (.inr ⟨_,_,_,_,_,h⟩)
 | none=>exact qFF h.1
def qsd (m:Mp) (id ver:Nat) (y:AV):Prop :=
 ∃ R,m.rw[id]? = some R∧ver≤R.ver∧qrf y∧(R.ver=ver→Jg (m.r id) (m.v id) R.τ R.l y)
mutual
def OK (m:Mp):TV→AV→Prop
 | .i k n,y=>y = .v (.int k n)
 | .b x,y=>y = .v (.bool x)
 | .s x,y=>y = .v (.string ⟨x.toArray⟩)
 | .c v,y=>z8 v=true∧y = .v v
 | .nil,y=>y = .v (.slice none 0 0)
 | .sl τ l lv,y=>dlist τ y=some l∧lv≤lvl y
 | .row id ver,y=>qsd m id ver y
 | .ptr b o,y=>b<m.nb∧y = .ptr (m.b b) o
 | .rpt id ver sv i cs o,y=>∃ R,m.rw[id]? = some R∧ver≤R.ver∧sv≤R.sv∧((∃ r j ep,y = .rpt r j o ep)∨∃ ds,y = .ept ds o)∧(R.ver=ver→R.sv=sv→(∃ r j ds,m.r id=some r∧y = .rpt r j o (m.v id)∧i=((j:Nat):Int)∧j<R.l.length∧(m.q id)[j]? = some ds∧OKL m cs ds)∨∃ ds,m.r id=none∧y = .ept ds o∧0<R.l.length∧OKL m cs ds)
 | .ept cs o,y=>∃ ds,y = .ept ds o∧OKL m cs ds
 | .fn f cs,y=>∃ ds,y = .fn f ds∧OKL m cs ds
 | .agg cs,y=>∃ ds,y = .agg ds∧OKL m cs ds
 | .tup cs,y=>∃ ds,y = .tup ds∧OKL m cs ds
 | .dead,_=>True
def OKL (m:Mp):List TV→List AV→Prop
 | [],ys=>ys=[]
 | x::xs,ys=>∃ y r,ys=y::r∧OK m x y∧OKL m xs r
end
structure MLe (m m':Mp):Prop where
 nb:m.nb≤m'.nb
 b:∀ i,i<m.nb→m'.b i=m.b i
 row:∀ id R,m.rw[id]? = some R→∃ R',m'.rw[id]? = some R'∧R.ver≤R'.ver∧R.sv≤R'.sv∧(R'.ver=R.ver→R'.l.length=R.l.length∧m'.r id=m.r id∧m'.v id=m.v id∧R'.τ = R.τ ∧ (R'.sv=R.sv→m'.q id=m.q id)∧(m.r id=none→∀ y,dlist R.τ y=some R.l→dlist R'.τ y=some R'.l))
theorem MLe.refl (m:Mp):MLe m m:=⟨Nat.le_refl _,λ _ _=>rfl,λ _ R h=>⟨R,h,Nat.le_refl _,Nat.le_refl _,λ _=>⟨rfl,rfl,rfl,rfl,λ _=>rfl,λ _ _ h=>h⟩⟩⟩
theorem MLe.trans {a b c:Mp} (h:MLe a b) (g:MLe b c):MLe a c where
 nb:=Nat.le_trans h.nb g.nb
 b := λ i hi=>(g.b i (Nat.lt_of_lt_of_le hi h.nb)).trans (h.b i hi)
 row := λ id R hR=>by
  obtain ⟨R1,h1,h2,h3,h4⟩:=h.row id R hR
  obtain ⟨R2,g1,g2,g3,g4⟩:=g.row id R1 h1
  refine ⟨R2,g1,Nat.le_trans h2 g2,Nat.le_trans h3 g3,λ he=>?_⟩
  have e1:R1.ver=R.ver:=by omega
  have e2:R2.ver=R1.ver:=by omega
  obtain ⟨a1,a2,a3,a4,a5,a6⟩:=h4 e1
  obtain ⟨b1,b2,b3,b4,b5,b6⟩:=g4 e2
  exact ⟨b1.trans a1,b2.trans a2,b3.trans a3,b4.trans a4,λ hs=>(b5 (by omega)).trans (a5 (by omega)),λ hn y hy=>b6 (a2.trans hn) y (a6 hn y hy)⟩
theorem qsd.mono {m m':Mp} (hm:MLe m m') {id ver:Nat} {y:AV} (h:qsd m id ver y):qsd m' id ver y:=by
 obtain ⟨R,h1,h2,h3,h4⟩:=h
 obtain ⟨R',g1,g2,_,g3⟩:=hm.row id R h1
 refine ⟨R',g1,Nat.le_trans h2 g2,h3,λ he=>?_⟩
 have e1:R'.ver=R.ver:=by omega
 obtain ⟨a,b,c,d,_,k⟩:=g3 e1
 have h4:=h4 (by omega)
 rw [b,c]
 revert h4 k
 cases m.r id with
 | some r =>
   intro _ h4
   show y = .rs r 0 R'.l.length (m.v id) false
   rw [a];exact h4
 | none=>intro k h4;exact ⟨k rfl y h4.1,h4.2⟩
mutual
theorem OK.mono {m m':Mp} (hm:MLe m m'):∀ {x:TV} {y:AV},OK m x y→OK m' x y
 | .i ..,y,h=>h
 | .b ..,y,h=>h
 | .s ..,y,h=>h
 | .c ..,y,h=>h
 | .nil,y,h=>h
 | .sl ..,y,h=>h
 | .row ..,y,h=>qsd.mono hm h
 | .ptr b o,y,h=>⟨Nat.lt_of_lt_of_le h.1 hm.nb,by rw [hm.b _ h.1];exact h.2⟩
 | .rpt id ver sv _ cs o,y,h=>by
   obtain ⟨R,h1,h2,h2',h3,h4⟩:=h
   obtain ⟨R',g1,g2,g2',g3⟩:=hm.row id R h1
   refine ⟨R',g1,Nat.le_trans h2 g2,Nat.le_trans h2' g2',h3,λ he hs=>?_⟩
   have e1:R'.ver=R.ver:=by omega
   have e2:R'.sv=R.sv:=by omega
   obtain ⟨a,b,c,_,d,_⟩:=g3 e1
   rcases h4 (by omega) (by omega) with ⟨r,j,ds,k1,k2,k0,k3,k4,k5⟩ | ⟨ds,k1,k2,k3,k4⟩
   ·exact .inl ⟨r,j,ds,b.trans k1,by rw [c];exact k2,k0,by rw [a];exact k3,by rw [d e2];exact k4,OKL.mono hm k5⟩
   ·exact .inr ⟨ds,b.trans k1,k2,by rw [a];exact k3,OKL.mono hm k4⟩
 | .ept cs o,y,⟨ds,h1,h2⟩=>⟨ds,h1,OKL.mono hm h2⟩
 | .fn f cs,y,⟨ds,h1,h2⟩=>⟨ds,h1,OKL.mono hm h2⟩
 | .agg cs,y,⟨ds,h1,h2⟩=>⟨ds,h1,OKL.mono hm h2⟩
 | .tup cs,y,⟨ds,h1,h2⟩=>⟨ds,h1,OKL.mono hm h2⟩
 | .dead,y,h=>trivial
theorem OKL.mono {m m':Mp} (hm:MLe m m'):∀ {xs:List TV} {ys:List AV},OKL m xs ys→OKL m' xs ys
 | [],ys,h=>h
 | x::xs,ys,⟨y,r,h1,h2,h3⟩=>⟨y,r,h1,OK.mono hm h2,OKL.mono hm h3⟩
end
theorem OKL.nil (m:Mp):OKL m [] []:=rfl
theorem OKL.cons {m:Mp} {x:TV} {y:AV} {xs:List TV} {ys:List AV} (h:OK m x y) (g:OKL m xs ys):OKL m (x::xs) (y::ys):=⟨y,ys,rfl,h,g⟩
theorem OKL.len {m:Mp}:∀ {xs:List TV} {ys:List AV},OKL m xs ys→ys.length=xs.length
 | [],_,h=>by cases h;rfl
 | _::_,_,⟨_,_,rfl,_,h⟩=>by simp [h.len]
theorem OKL.get {m:Mp}:∀ {xs:List TV} {ys:List AV},OKL m xs ys→∀ {i:Nat} {x:TV},xs[i]? = some x→∃ y,ys[i]? = some y∧OK m x y
 | [],_,_,i,x,hx=>by simp at hx
 | _::_,_,⟨y,r,rfl,h1,h2⟩,0,x,hx=>by simp at hx;subst hx;exact ⟨y,rfl,h1⟩
 | _::_,_,⟨y,r,rfl,h1,h2⟩,i+1,x,hx=>by simpa using h2.get (by simpa using hx)
theorem OKL.append {m:Mp}:∀ {xs:List TV} {ys:List AV} {xs':List TV} {ys':List AV},OKL m xs ys→OKL m xs' ys'→OKL m (xs++xs') (ys++ys')
 | [],_,_,_,h,g=>by cases h;exact g
 | _::_,_,_,_,⟨y,r,rfl,h1,h2⟩,g=>⟨y,_,rfl,h1,h2.append g⟩
theorem OKL.take {m:Mp} (n:Nat):∀ {xs:List TV} {ys:List AV},OKL m xs ys→OKL m (xs.take n) (ys.take n):=by
 induction n with
 | zero=>intro xs ys _;simp;exact rfl
 | succ n ih =>
   intro xs ys h
   cases xs with
   | nil=>cases h;exact rfl
   | cons x xs=>obtain ⟨y,r,rfl,h1,h2⟩:=h;exact ⟨y,_,rfl,h1,ih h2⟩
theorem OKL.drop {m:Mp} (n:Nat):∀ {xs:List TV} {ys:List AV},OKL m xs ys→OKL m (xs.drop n) (ys.drop n):=by
 induction n with
 | zero=>intro xs ys h;simpa using h
 | succ n ih =>
   intro xs ys h
   cases xs with
   | nil=>cases h;exact rfl
   | cons x xs=>obtain ⟨y,r,rfl,h1,h2⟩:=h;simpa using ih h2
theorem OKL.split {m:Mp}:∀ {xs xs':List TV} {ys:List AV},OKL m (xs++xs') ys→∃ a b,ys=a++b∧OKL m xs a∧OKL m xs' b
 | [],_,ys,h=>⟨[],ys,rfl,rfl,h⟩
 | _::_,_,_,⟨y,r,rfl,h1,h2⟩=>by
   obtain ⟨a,b,rfl,h3,h4⟩:=h2.split
   exact ⟨y::a,b,rfl,⟨y,a,rfl,h1,h3⟩,h4⟩
theorem qwh {m:Mp} {v:Value} (h:z8 v=true):OK m (qcD v) (.v v):=by
 unfold qcD
 split
 ·exact rfl
 ·exact rfl
 ·rename_i s
  show AV.v (.string s) = .v (.string ⟨s.data.toList.toArray⟩)
  cases s;simp
 ·exact rfl
 ·rw [h];exact ⟨h,rfl⟩
theorem qgt {m:Mp}:∀ {l:List Value},l.all z8=true→OKL m (l.map qcD) (l.map .v)
 | [],_=>rfl
 | x::l,h=>by
   rw [List.all_cons,Bool.and_eq_true] at h
   exact ⟨_,_,rfl,qwh h.1,qgt h.2⟩
theorem jz {m:Mp} (v:Value):OK m (qcD v) (ofC v):=by
 unfold ofC
 cases h:z8 v with
 | true=>exact qwh h
 | false =>
   have:qcD v = .dead:=by
    unfold qcD
    split
    ·simp [z8] at h
    ·simp [z8] at h
    ·simp [z8] at h
    ·simp [z8] at h
    ·rw [h]
   rw [this];trivial
theorem qCY {m:Mp} (v:Value):OK m (qx9 v) (qpx v):=by
 cases v with
 | agg cs =>
   show OK m (match cs.toList.all z8 with | true=>TV.agg (cs.toList.map qcD) | false => .dead) (match cs.toList.all z8 with | true => .agg (cs.toList.map .v) | false => .dead)
   cases h:cs.toList.all z8 with
   | true=>exact ⟨_,rfl,qgt h⟩
   | false=>trivial
 | tuple vs =>
   show OK m (match vs.toList with | []=>TV.tup [] | _ => .dead) (match vs.toList with | [] => .tup [] | _ => .dead)
   cases vs.toList with
   | nil=>exact ⟨_,rfl,rfl⟩
   | cons a l=>trivial
 | bool b=>exact jz (.bool b)
 | int k n=>exact jz (.int k n)
 | float k n=>exact jz (.float k n)
 | complex k a b=>exact jz (.complex k a b)
 | string s=>exact jz (.string s)
 | pointer a=>exact jz (.pointer a)
 | slice a n c=>exact jz (.slice a n c)
 | map r=>exact jz (.map r)
 | chan r=>exact jz (.chan r)
 | func f a b=>exact jz (.func f a b)
 | nilFunc=>exact jz (.nilFunc)
 | iface t v=>exact jz (.iface t v)
 | nilIface=>exact jz (.nilIface)
def Q3 (σ : St) (R:js) (ro:Option Nat) (vo:Nat) (qo:List (List AV)):Prop:=match ro with
 | some r=>∃ Q,σ.rw[r]? = some Q∧Q.c=qo∧Q.ver=vo∧Q.k=R.τ.size∧qX (ym R.τ) Q.c=some R.l∧Q.fz≤Q.c.length∧(R.sh=false→Q.fz=0∧Q.off=false)
 | none=>R.sh=false→R.l=[]
def yY (m:Mp) (σ : St):Prop:=∀ id R,m.rw[id]? = some R→Q3 σ R (m.r id) (m.v id) (m.q id)
structure Rel (N:Nat × Nat) (m:Mp) (E:Env) (τ : TS) (tm:List AV) (σ : St):Prop where
 len:tm.length=N.1
 env:∀ t,OK m (get E t) (tm.getD t .dead)
 rw:m.rw = τ.rw
 nb:m.nb = τ.bx.length
 box:∀ b cs,τ.bx[b]? = some cs→∃ ds,σ.bx[m.b b]? = some ds∧OKL m cs ds
 inj:∀ b b',b<m.nb→b'<m.nb→m.b b=m.b b'→b=b'
 rows:yY m σ
 rinj:∀ id id' r,id<m.rw.length→id'<m.rw.length→m.r id=some r→m.r id'=some r→id=id'
 pin:∀ i,i<N.2→i<m.nb∧m.b i=i
theorem qyF {m m':Mp} {n:Nat} (hl:MLe m m') (h:∀ i,i<n→i<m.nb∧m.b i=i):∀ i,i<n→i<m'.nb∧m'.b i=i := λ i hi =>
 ⟨Nat.lt_of_lt_of_le (h i hi).1 hl.nb,(hl.b i (h i hi).1).trans (h i hi).2⟩
theorem Rel.ev {N:Nat × Nat} {m:Mp} {E:Env} {τ : TS} {tm:List AV} {σ : St} (h:Rel N m E τ tm σ) (x:Operand):OK m (evT E x) (aev tm x):=by
 cases x with
 | tmp t=>exact h.env t
 | const v=>exact qCY v
 | func f=>exact ⟨_,rfl,rfl⟩
 | global g=>trivial
theorem Rel.evs {N:Nat × Nat} {m:Mp} {E:Env} {τ : TS} {tm:List AV} {σ : St} (h:Rel N m E τ tm σ):∀ l:List Operand,OKL m (l.map (evT E)) (l.map (aev tm))
 | []=>rfl
 | x::l=>⟨_,_,rfl,h.ev x,h.evs l⟩
theorem jc {τ : Ty} {y:AV} {l:List (Val τ)} (h:dlist τ y=some l):y = .v (.slice none 0 0)∧l=[]∨∃ es n,y = .sl τ.size es (n+1)∧qX (ym τ) es=some l:=by
 unfold dlist yZ at h
 split at h
 ·cases h;exact .inl ⟨rfl,rfl⟩
 ·rename_i k es n
  split at h
  ·rename_i hk
   have:=of_decide_eq_true hk
   subst this
   exact .inr ⟨es,n,rfl,h⟩
  ·cases h
 ·cases h
theorem OK.one {m:Mp} {x:TV} {y:AV} (h:OK m x y) (hc:qhf x=true):isC y=true∧ja x=[x]∧cellsOf y=[y]:=by
 cases x with
 | i=>cases h;exact ⟨rfl,rfl,rfl⟩
 | b=>cases h;exact ⟨rfl,rfl,rfl⟩
 | s=>cases h;exact ⟨rfl,rfl,rfl⟩
 | c=>obtain ⟨_,rfl⟩:=h;exact ⟨rfl,rfl,rfl⟩
 | nil=>cases h;exact ⟨rfl,rfl,rfl⟩
 | sl τ l lv =>
   obtain ⟨h,_⟩:=h
   rcases jc h with ⟨rfl,_⟩ | ⟨es,n,rfl,_⟩<;>exact ⟨rfl,rfl,rfl⟩
 | row id ver =>
   obtain ⟨R,_,_,h,_⟩:=h
   rcases h with rfl | ⟨k,es,j,rfl⟩ | ⟨r,lo,n,ep,f,rfl⟩<;>exact ⟨rfl,rfl,rfl⟩
 | ptr b o=>obtain ⟨_,rfl⟩:=h;exact ⟨rfl,rfl,rfl⟩
 | rpt id ver sv i cs o=>obtain ⟨R,_,_,_,h,_⟩:=h;rcases h with ⟨r,i,ep,rfl⟩ | ⟨ds,rfl⟩<;>exact ⟨rfl,rfl,rfl⟩
 | ept cs o=>obtain ⟨ds,rfl,_⟩:=h;exact ⟨rfl,rfl,rfl⟩
 | fn f cs=>obtain ⟨ds,rfl,_⟩:=h;exact ⟨rfl,rfl,rfl⟩
 | agg cs=>simp [qhf] at hc
 | tup cs=>simp [qhf] at hc
 | dead=>simp [qhf] at hc
theorem OKL.allC {m:Mp}:∀ {xs:List TV} {ys:List AV},OKL m xs ys→xs.all qhf=true→ys.all isC=true
 | [],_,h,_=>by cases h;rfl
 | x::xs,_,⟨y,r,rfl,h1,h2⟩,h=>by
   rw [List.all_cons,Bool.and_eq_true] at h
   rw [List.all_cons,(h1.one h.1).1,h2.allC h.2];rfl
theorem OK.cells {m:Mp} {x:TV} {y:AV} (h:OK m x y) (hc:(ja x).all qhf=true):OKL m (ja x) (cellsOf y)∧(cellsOf y).all isC=true:=by
 have one:qhf x=true→OKL m (ja x) (cellsOf y)∧(cellsOf y).all isC=true:=by
  intro h1
  obtain ⟨a,b,c⟩:=h.one h1
  rw [b,c]
  exact ⟨⟨y,[],rfl,h,rfl⟩,by simp [a]⟩
 cases x with
 | agg cs =>
   obtain ⟨ds,rfl,hd⟩:=h
   exact ⟨hd,hd.allC hc⟩
 | tup cs=>simp [ja,qhf] at hc
 | dead=>simp [ja,qhf] at hc
 | _=>exact one rfl
theorem qEp {x:AV} {l:List T} (h:qkD x=some l):1≤lvl x:=by
 unfold qkD at h
 split at h
 ·exact Nat.le_succ _
 ·exact Nat.succ_le_succ (Nat.zero_le _)
 ·cases h
theorem qkA {τ : Ty} {y:AV} {l:List (Val τ)} (h:dlist τ y=some l):1≤lvl y:=by
 rcases jc h with ⟨rfl,_⟩ | ⟨es,n,rfl,_⟩
 ·exact Nat.le_succ _
 ·exact Nat.succ_le_succ (Nat.zero_le _)
theorem qmw {m:Mp}:∀ (τ : Ty) {cs:List AV} {v:Val τ} {r:List AV},Jw τ cs=some (v,r)→∃ pre,cs=pre++r∧OKL m (qaO τ v) pre
 | .int k,cs,v,r,h=>by
   change qcu k cs=_ at h
   unfold qcu at h
   split at h<;>try cases h
   split at h<;>cases h
   rename_i hk
   have hk':=of_decide_eq_true hk
   subst hk'
   exact ⟨[_],rfl,⟨_,_,rfl,rfl,rfl⟩⟩
 | .bool,cs,v,r,h=>by
   change qiZ cs=_ at h
   unfold qiZ at h
   split at h<;>cases h
   exact ⟨[_],rfl,⟨_,_,rfl,rfl,rfl⟩⟩
 | .str,cs,v,r,h=>by
   change qht cs=_ at h
   unfold qht at h
   split at h<;>cases h
   rename_i s
   exact ⟨[_],rfl,⟨_,_,rfl,by show AV.v (.string s) = .v (.string ⟨s.data.toList.toArray⟩);cases s;simp,rfl⟩⟩
 | .term,cs,v,r,h=>by
   change J3 cs=_ at h
   unfold J3 at h
   split at h<;>try cases h
   split at h<;>cases h
   rename_i hd
   obtain ⟨k,n,s,x,l,hl,h1,rfl⟩:=qkC hd
   cases hl
   refine ⟨_,rfl,⟨_,_,rfl,rfl,_,_,rfl,?_,_,_,rfl,rfl,_,_,rfl,⟨?_,qEp h1⟩,rfl⟩⟩
   ·show AV.v (.string n) = .v (.string ⟨n.data.toList.toArray⟩);cases n;simp
   ·rw [qiS];exact h1
 | .list a,cs,v,r,h=>by
   change qcq _ cs=_ at h
   unfold qcq at h
   split at h<;>try cases h
   split at h<;>cases h
   rename_i hd
   have hd:dlist a _=some v:=hd
   exact ⟨[_],rfl,⟨_,_,rfl,⟨hd,qkA hd⟩,rfl⟩⟩
 | .pair a b,cs,v,r,h=>by
   obtain ⟨r1,h1,h2⟩:=Jh.1 h
   obtain ⟨p,e1,o1⟩:=qmw (m:=m) a h1
   obtain ⟨p',e2,o2⟩:=qmw (m:=m) b h2
   exact ⟨p++p',by rw [e1,e2,List.append_assoc],o1.append o2⟩
 | .one a,cs,v,r,h=>qmw (m:=m) a h
theorem Jk {m:Mp} {τ : Ty} {e:List AV} {v:Val τ} (h:ym τ e=some v):OKL m (qaO τ v) e:=by
 obtain ⟨pre,h1,h2⟩:=qmw (m:=m) τ (zZ.1 h)
 rw [List.append_nil] at h1
 rw [h1];exact h2
theorem Q4 (τ : Ty) (v:Val τ):ym τ (qm τ v)=some v:=zZ.2 (qgp τ v)
theorem qpf {m:Mp}:∀ (τ : Ty) (v:Val τ),OK m (qrt τ v) (yN τ v)
 | .int k,v=>rfl
 | .bool,v=>rfl
 | .str,v=>rfl
 | .list a,v=>by
   have h:OKL m (qaO (.list a) v) (qm (.list a) v):=Jk (Q4 (.list a) v)
   obtain ⟨y,r,h1,h2,_⟩:=h
   cases h1
   exact h2
 | .term,v=>⟨_,rfl,Jk (Q4 .term v)⟩
 | .pair a b,v=>⟨_,rfl,Jk (Q4 (.pair a b) v)⟩
 | .one a,v=>⟨_,rfl,Jk (Q4 (.one a) v)⟩
end Go.AmYtbpnmbmdbblehaaGreat
namespace Go.AmYtbpnmbmdbblehaaGreat
open Go Go.RowKit Go.GxYtbpnmbmdbblehaaGreat
def qKz (τ : TS):Option TS→TS
 | none => τ
 | some τ' => τ'
def Sim {α : Type} (N:Nat × Nat) (m:Mp) (E:Env) (τ : TS) (tm:List AV) (σ : St) (K:KT α) (r : α) (p:Option (AV × Option St)):Prop :=
 ∃ x τ' y σ' m',K x τ'=some r∧p=some (y,σ')∧MLe m m'∧Rel N m' E (qKz τ τ') tm (turn σ σ')∧OK m' x y∧(τ'=none → σ'=none)
section
variable {α : Type} {N:Nat × Nat} {m:Mp} {E:Env} {τ : TS} {tm:List AV} {σ : St} {K:KT α} {r : α} {p:Option (AV × Option St)}
theorem Sim.same {x:TV} {y:AV} (hr:Rel N m E τ tm σ) (h:K x none=some r) (hp:p=some (y,none)) (ho:OK m x y):Sim N m E τ tm σ K r p :=
 ⟨x,none,y,none,m,h,hp,.refl m,hr,ho,λ _=>rfl⟩
theorem Sim.to {x:TV} {y:AV} {τ':TS} {σ':St} {m':Mp} (h:K x (some τ')=some r) (hp:p=some (y,some σ')) (h1:MLe m m') (h2:Rel N m' E τ' tm σ') (h3:OK m' x y):Sim N m E τ tm σ K r p :=
 ⟨x,some τ',y,some σ',m',h,hp,h1,h2,h3,λ h=>by cases h⟩
theorem Rel.box_lt (hr:Rel N m E τ tm σ) {b:Nat} (h:b<m.nb):m.b b < σ.bx.length:=by
 rw [hr.nb] at h
 obtain ⟨ds,h1,_⟩:=hr.box b _ (List.getElem?_eq_getElem h)
 exact getElem?_lt h1
theorem Rel.alloc (hr:Rel N m E τ tm σ) {cs:List TV} {ds:List AV} (hc:OKL m cs ds) :
  ∃ m',MLe m m'∧Rel N m' E { τ with bx := τ.bx++[cs] } tm { σ with bx := σ.bx++[ds] }∧OK m' (.ptr τ.bx.length 0) (.ptr σ.bx.length 0):=by
 have hle:MLe m { m with b := λ i=>if i=m.nb then σ.bx.length else m.b i,nb:=m.nb+1 } :=
  ⟨Nat.le_succ _,λ i hi=>if_neg (Nat.ne_of_lt hi),λ id R h=>⟨R,h,Nat.le_refl _,Nat.le_refl _,λ _=>⟨rfl,rfl,rfl,rfl,λ _=>rfl,λ _ _ h=>h⟩⟩⟩
 refine ⟨_,hle,?_,?_⟩
 ·refine ⟨hr.len,λ t=>(hr.env t).mono hle,hr.rw,by show m.nb+1=_;rw [hr.nb];simp,?_,?_,hr.rows,hr.rinj,qyF hle hr.pin⟩
  ·intro b cs' hb
   show ∃ ds',(σ.bx++[ds])[if b=m.nb then σ.bx.length else m.b b]? = some ds'∧_
   by_cases hlt:b < τ.bx.length
   ·rw [List.getElem?_append_left hlt] at hb
    obtain ⟨ds',h1,h2⟩:=hr.box b cs' hb
    rw [if_neg (by rw [hr.nb];omega),List.getElem?_append_left (getElem?_lt h1)]
    exact ⟨ds',h1,h2.mono hle⟩
   ·have hbl:b<(τ.bx++[cs]).length:=getElem?_lt hb
    simp at hbl
    have hbe:b = τ.bx.length:=by omega
    subst hbe
    simp at hb
    subst hb
    rw [if_pos hr.nb.symm]
    exact ⟨ds,by simp,hc.mono hle⟩
  ·intro b b' hb hb' he
   change b<m.nb+1 at hb
   change b'<m.nb+1 at hb'
   change (if b=m.nb then σ.bx.length else m.b b)=(if b'=m.nb then σ.bx.length else m.b b') at he
   split at he<;>split at he
   ·omega
   ·have:=hr.box_lt (b:=b') (by omega);omega
   ·have:=hr.box_lt (b:=b) (by omega);omega
   ·exact hr.inj b b' (by omega) (by omega) he
 ·refine ⟨?_,?_⟩
  ·show τ.bx.length<m.nb+1
   rw [hr.nb];exact Nat.lt_succ_self _
  ·show AV.ptr σ.bx.length 0 = .ptr (if τ.bx.length=m.nb then σ.bx.length else m.b τ.bx.length) 0
   rw [if_pos hr.nb.symm]
theorem Rel.setBox (hr:Rel N m E τ tm σ) {b:Nat} {cs:List TV} {ds:List AV} (hb:b<m.nb) (hc:OKL m cs ds) (w:List Nat):Rel N m E { τ with bx := τ.bx.set b cs } tm { σ with bx := σ.bx.set (m.b b) ds,wr:=w }:=by
 refine ⟨hr.len,hr.env,hr.rw,by rw [hr.nb];simp,?_,hr.inj,hr.rows,hr.rinj,hr.pin⟩
 intro i cs' hi
 have hil:i<m.nb:=by rw [hr.nb];have:=getElem?_lt hi;simpa using this
 by_cases he:i=b
 ·subst he
  have hlt:i < τ.bx.length:=by rw [← hr.nb];exact hil
  simp only [List.getElem?_set_self hlt,Option.some.injEq] at hi
  subst hi
  exact ⟨ds,by simp only [List.getElem?_set_self (hr.box_lt hb)],hc⟩
 ·simp only [List.getElem?_set_ne (Ne.symm he)] at hi
  obtain ⟨ds',h1,h2⟩:=hr.box i cs' hi
  have hne:m.b b≠m.b i := λ h=>he (hr.inj _ _ hil hb h.symm)
  exact ⟨ds',by simp only [List.getElem?_set_ne hne];exact h1,h2⟩
theorem Rel.rowsTo (hr:Rel N m E τ tm σ) {σ':St} (h1 : σ'.bx = σ.bx) (h2:yY m σ'):Rel N m E τ tm σ' :=
 ⟨hr.len,hr.env,hr.rw,hr.nb,by rw [h1];exact hr.box,hr.inj,h2,hr.rinj,hr.pin⟩
theorem qHG {r:Nat} {Q:Row} (hl:Q.fz≤Q.c.length):∀ (rs:List Nat) {rw:List Row},rw[r]? = some Q→∃ Q',(frz rw rs)[r]? = some Q'∧Q'.c=Q.c∧Q'.k=Q.k∧Q'.ver=Q.ver∧Q'.fz≤Q'.c.length:=by
 intro rs
 induction rs generalizing Q with
 | nil=>intro rw h;exact ⟨Q,h,rfl,rfl,rfl,hl⟩
 | cons a rs ih =>
   intro rw h
   have:∃ Q1,(rw.modify a qip)[r]? = some Q1∧Q1.c=Q.c∧Q1.k=Q.k∧Q1.ver=Q.ver∧Q1.fz≤Q1.c.length:=by
    rw [List.getElem?_modify,h]
    by_cases he:a=r
    ·exact ⟨qip Q,by simp [he],rfl,rfl,rfl,Nat.max_le.2 ⟨hl,Nat.le_refl _⟩⟩
    ·exact ⟨Q,by simp [he],rfl,rfl,rfl,hl⟩
   obtain ⟨Q1,g1,g2,g3,g4,g5⟩:=this
   obtain ⟨Q2,k1,k2,k3,k4,k5⟩:=ih (Q:=Q1) g5 g1
   exact ⟨Q2,k1,k2.trans g2,k3.trans g3,k4.trans g4,k5⟩
def shM (m:Mp):Mp:={ m with rw:=m.rw.map λ R=>⟨R.τ,R.l,R.ver,R.sv,true⟩ }
theorem qCb {id:Nat} {R:js} (h:(shM m).rw[id]? = some R):∃ R0,m.rw[id]? = some R0∧R=⟨R0.τ,R0.l,R0.ver,R0.sv,true⟩:=by
 change (m.rw.map _)[id]? = some R at h
 rw [List.getElem?_map] at h
 cases h0:m.rw[id]? with
 | none=>rw [h0] at h;cases h
 | some R0=>rw [h0] at h;cases h;exact ⟨R0,rfl,rfl⟩
theorem qe1 (m:Mp):MLe m (shM m):=by
 refine ⟨Nat.le_refl _,λ _ _=>rfl,λ id R h=>⟨⟨R.τ,R.l,R.ver,R.sv,true⟩,?_,Nat.le_refl _,Nat.le_refl _,λ _=>⟨rfl,rfl,rfl,rfl,λ _=>rfl,λ _ _ h=>h⟩⟩⟩
 show (m.rw.map _)[id]? = _
 rw [List.getElem?_map,h];rfl
theorem yY.frz (h:yY m σ) (rs w:List Nat):yY (shM m) { σ with rw:=frz σ.rw rs,wrr:=w }:=by
 intro id R hR
 obtain ⟨R0,h0,rfl⟩:=qCb hR
 have:=h id R0 h0
 show match m.r id with | some r=>∃ Q,(Go.AmYtbpnmbmdbblehaaGreat.frz σ.rw rs)[r]? = some Q∧Q.c=m.q id∧Q.ver=m.v id∧Q.k=R0.τ.size∧qX (ym R0.τ) Q.c=some R0.l∧Q.fz≤Q.c.length∧(true=false→Q.fz=0∧Q.off=false) | none=>true=false→R0.l=[]
 cases hr:m.r id with
 | some r =>
   rw [hr] at this
   obtain ⟨Q,h1,h2,h3,h4,h5,h6,_⟩:=this
   obtain ⟨Q',g1,g2,g3,g4,g5⟩:=qHG h6 (rw := σ.rw) rs h1
   exact ⟨Q',g1,g2.trans h2,g4.trans h3,g3.trans h4,by rw [g2];exact h5,g5,λ h=>by cases h⟩
 | none=>intro h;cases h
theorem yY.sh (h:yY m σ):yY (shM m) σ := by
 intro id R hR
 obtain ⟨R0,h0,rfl⟩:=qCb hR
 have:=h id R0 h0
 show match m.r id with | some r=>∃ Q,σ.rw[r]? = some Q∧Q.c=m.q id∧Q.ver=m.v id∧Q.k=R0.τ.size∧qX (ym R0.τ) Q.c=some R0.l∧Q.fz≤Q.c.length∧(true=false→Q.fz=0∧Q.off=false) | none=>true=false→R0.l=[]
 cases hr:m.r id with
 | some r =>
   rw [hr] at this
   obtain ⟨Q,h1,h2,h3,h4,h5,h6,_⟩:=this
   exact ⟨Q,h1,h2,h3,h4,h5,h6,λ h=>by cases h⟩
 | none=>intro h;cases h
theorem Rel.share (hr:Rel N m E τ tm σ) {σ':St} (h1 : σ'.bx = σ.bx) (h2:yY (shM m) σ'):Rel N (shM m) E (shA τ) tm σ':=by
 refine ⟨hr.len,λ t=>(hr.env t).mono (qe1 m),by show m.rw.map _ = τ.rw.map _;rw [hr.rw],hr.nb,?_,hr.inj,h2,?_,hr.pin⟩
 ·intro b cs hb
  obtain ⟨ds,g1,g2⟩:=hr.box b cs hb
  exact ⟨ds,by rw [h1];exact g1,g2.mono (qe1 m)⟩
 ·intro id id' r e1 e2 e3 e4
  have l:(shM m).rw.length=m.rw.length:=List.length_map ..
  exact hr.rinj id id' r (l▸e1) (l▸e2) e3 e4
theorem qIp {op:BinOp} {k:IntKind} {a b:Int} {K':TV→Option α} {r : α} (h:qHr op k a b K'=some r):∃ x z,K' x=some r∧qyd op k a b=some z∧OK m x (.v z):=by
 cases op<;>simp only [qHr] at h<;>first
  | (cases h;done)
  | exact ⟨_,_,h,rfl,rfl⟩
  | skip
 all_goals (
  cases hb:ieq b 0 with
  | true=>rw [hb] at h;cases h
  | false=>rw [hb] at h;exact ⟨_,_,h,by simp only [qyd,hb],rfl⟩)
theorem qF7 {a b:List UInt8} (h:qDW a b=true):qDm ⟨a.toArray⟩ ⟨b.toArray⟩=some ⟨(a++b).toArray⟩:=by
 have h:=of_decide_eq_true h
 unfold qDm
 have e1:(⟨a.toArray⟩:ByteArray).size=a.length:=by simp [ByteArray.size]
 have e2:(⟨b.toArray⟩:ByteArray).size=b.length:=by simp [ByteArray.size]
 rw [if_neg (by rw [e1,e2];omega)]
 congr 1
theorem qJg (a b:List UInt8):xeq ⟨a.toArray⟩ ⟨b.toArray⟩=qC a b:=by
 simp [xeq,qC]
theorem qIm (a b:List UInt8):xlt ⟨a.toArray⟩ ⟨b.toArray⟩=slt a b:=by
 simp [xlt,slt]
theorem qIP {op:BinOp} {a b:List UInt8} {K':TV→Option α} {r : α} (h:qFW op a b K'=some r):∃ x z,K' x=some r∧qAc op ⟨a.toArray⟩ ⟨b.toArray⟩=some z∧OK m x (.v z):=by
 cases op<;>simp only [qFW] at h<;>first
  | (cases h;done)
  | (refine ⟨_,_,h,rfl,?_⟩;simp only [qJg,qIm];exact rfl)
  | skip
 cases hb:qDW a b with
 | false=>rw [hb] at h;cases h
 | true=>rw [hb] at h;exact ⟨_,_,h,by simp only [qAc,qF7 hb],rfl⟩
theorem qzo {place:Nat→Option (Nat × Nat)}:∀ {l:List (Nat × TV)} {l':List (Nat × AV)} {cells:List TV} {cells':List AV} {cs:List TV},
  (l.map (·.1)=l'.map (·.1)∧OKL m (l.map (·.2)) (l'.map (·.2)))→OKL m cells cells'→qxD place cells l=some cs→∃ ds,qky place cells' l'=some ds∧OKL m cs ds
 | [],l',cells,cells',cs,hl,hc,h=>by
   have:l'=[]:=by cases l' with | nil=>rfl | cons a b=>simp at hl
   subst this
   cases h
   exact ⟨cells',rfl,hc⟩
 | (i,x)::l,l',cells,cells',cs,hl,hc,h=>by
   cases l' with
   | nil=>simp at hl
   | cons q l' =>
     obtain ⟨j,y⟩:=q
     simp only [List.map_cons,List.cons.injEq] at hl
     obtain ⟨⟨rfl,hl1⟩,y',r',he,hx,hl2⟩:=hl
     cases he
     simp only [qxD] at h
     simp only [qky]
     split at h<;>try cases h
     rename_i off size hp
     split at h<;>try cases h
     rename_i hb
     simp only [Bool.and_eq_true,decide_eq_true_eq] at hb
     obtain ⟨⟨h1,h2⟩,h3⟩:=hb
     obtain ⟨g1,g2⟩:=hx.cells h3
     rw [hp]
     have e1:(cellsOf y).length=size:=by rw [g1.len];exact h1
     have e2:off+size≤cells'.length:=by rw [hc.len];exact h2
     simp only [e1,e2,g2,decide_true,Bool.and_self]
     exact qzo ⟨hl1,hl2⟩ ((hc.take off).append (g1.append (hc.drop (off+size)))) h
theorem qhb {agg:Bool} {size o:Nat} {cs:List TV} {ds:List AV} {x:TV} (hc:OKL m cs ds) (h:ql3 agg size cs o=some x):∃ y,qdW agg size ds o=some y∧OK m x y:=by
 unfold ql3 at h
 unfold qdW
 cases agg with
 | true =>
   simp only at h ⊢
   split at h<;>cases h
   rename_i hb
   rw [← hc.len] at hb
   rw [hb]
   exact ⟨_,rfl,_,rfl,(hc.drop o).take size⟩
 | false=>exact hc.get h
theorem qb0 (hr:Rel N m E τ tm σ) {y:Nat} {d:Nat} {hi:Option Operand} {n:Int} (h:qe6 d E hi=some n) (hd:d≤y) (hb:inb n y=true):qb5 d y (hi.map (aev tm))=some n.toNat:=by
 have hb:=of_decide_eq_true hb
 cases hi with
 | none =>
   simp only [qe6,Option.some.injEq] at h
   subst h
   simp [qb5]
 | some x =>
   simp only [qe6] at h
   split at h<;>cases h
   rename_i k hx
   have:=hr.ev x
   rw [hx] at this
   show qsw y (aev tm x)=_
   rw [this]
   show bnd y n=_
   unfold bnd
   rw [if_pos hb]
theorem qoL {β : Type} {l:List β} {j:Int} {v : β} (h:qd l j=some v):0≤j∧l[j.toNat]? = some v:=by
 unfold qd at h
 split at h
 ·exact ⟨by assumption,h⟩
 ·cases h
theorem qa4 {β γ : Type} {x:Option β} {k : β → Option γ} {r : γ} (h:qa x k=some r):∃ v,x=some v∧k v=some r:=by
 unfold qa at h
 split at h
 ·exact ⟨_,rfl,h⟩
 ·cases h
theorem j9 {b:Bool} {x:Option α} {r : α} (h:cond b x none=some r):b=true∧x=some r:=by
 cases b with
 | true=>exact ⟨rfl,h⟩
 | false=>cases h
theorem qr0 {b:Bool} {x:Option α} {r : α} (h:cond b none x=some r):b=false∧x=some r:=by
 cases b with
 | true=>cases h
 | false=>exact ⟨rfl,h⟩
end
end Go.AmYtbpnmbmdbblehaaGreat
namespace Go.AmYtbpnmbmdbblehaaGreat
open Go Go.RowKit Go.GxYtbpnmbmdbblehaaGreat
def qcH:AV→Bool
 | .agg _=>true
 | _=>false
def jX (τ : Ty) (y:AV):Option (Val τ):=match qgU τ.agg (qcH y) with
 | true=>ym τ (cellsOf y)
 | false=>none
section
variable {α : Type} {N:Nat × Nat} {m:Mp} {E:Env} {τ : TS} {tm:List AV} {σ : St} {K:KT α} {r : α} {p:Option (AV × Option St)}
theorem jf {a b:Ty} {l:List (Val a)} {l':List (Val b)} (h:qd7 l b=some l'):∃ e:a=b,e▸l=l':=by
 unfold qd7 at h
 split at h
 ·rename_i e;cases h;exact ⟨e,rfl⟩
 ·cases h
theorem qvA (Q:Row):qmx Q Q.k 0 Q.c.length Q.ver=some Q.c:=by
 unfold qmx
 rw [if_pos ⟨rfl,rfl,by omega⟩]
 simp
theorem qhB (hq:yY m σ) {id:Nat} {R:js} {y:AV} (hR:m.rw[id]? = some R) (h:Jg (m.r id) (m.v id) R.τ R.l y) :
  (∃ r Q,m.r id=some r∧y = .rs r 0 Q.c.length Q.ver false ∧ σ.rw[r]? = some Q∧Q.c=m.q id∧Q.ver=m.v id∧Q.k=R.τ.size∧qX (ym R.τ) Q.c=some R.l∧Q.fz≤Q.c.length∧(R.sh=false→Q.fz=0∧Q.off=false)) ∨
  (m.r id=none∧(R.sh=false→R.l=[])∧dlist R.τ y=some R.l∧2≤lvl y):=by
 have hq:=hq id R hR
 cases hr:m.r id with
 | some r =>
   rw [hr] at hq h
   obtain ⟨Q,g1,g2,g3,g4,g5,g6⟩:=hq
   refine .inl ⟨r,Q,rfl,?_,g1,g2,g3,g4,g5,g6⟩
   rw [qQ g5,g3]
   exact h
 | none =>
   rw [hr] at hq h
   exact .inr ⟨rfl,hq,h.1,h.2⟩
theorem qv4 {a:Ty} {y:AV} {l:List (Val a)} (rw':List Row) (h:dlist a y=some l):∃ es,elems rw' a.size y=some es∧qX (ym a) es=some l∧dlist a (zr rw' y)=some l:=by
 rcases jc h with ⟨rfl,h2⟩ | ⟨es,n,rfl,h2⟩
 ·rw [h2];exact ⟨[],rfl,rfl,rfl⟩
 ·refine ⟨es,by simp only [elems,q9,decide_true],h2,?_⟩
  show dlist _ (.sl _ es 1)=_
  simp only [dlist,yZ,q9,decide_true]
  exact h2
theorem qpI (hq:yY m σ) {a:Ty} {x:TV} {y:AV} {l:List (Val a)} (h:qmk m.rw a x=some l) (ho:OK m x y) :
  ∃ es,elems σ.rw a.size y=some es∧qX (ym a) es=some l∧dlist a (zr σ.rw y)=some l:=by
 unfold qmk at h
 split at h
 ·cases h
  cases ho
  exact ⟨[],rfl,rfl,rfl⟩
 ·obtain ⟨e,rfl⟩:=jf h
  subst e
  exact qv4 _ ho.1
 ·rename_i id ver
  split at h<;>try cases h
  rename_i R hR
  split at h<;>try cases h
  rename_i hv
  have hv:R.ver=ver:=Nat.eq_of_beq_eq_true hv
  obtain ⟨e,rfl⟩:=jf h
  subst e
  obtain ⟨R',h1,_,_,h3⟩:=ho
  rw [hR] at h1;cases h1
  rcases qhB hq hR (h3 hv) with ⟨r,Q,_,rfl,g1,_,_,g4,g5,_⟩ | ⟨_,_,g2,_⟩
  ·refine ⟨Q.c,?_,g5,?_⟩
   ·simp only [elems,g1]
    rw [← g4]
    exact qvA Q
   ·simp only [zr,g1,qvA Q,dlist,yZ]
    rw [← g4]
    simp only [q9,decide_true]
    exact g5
  ·exact qv4 _ g2
 ·cases h
theorem qdx (hq:yY m σ):∀ (a:Ty) {cs:List TV} {v:Val a} {r:List TV} {ds:List AV},qi7 m.rw a cs=some (v,r)→OKL m cs ds→∃ rs,Jw a (ds.map (zr σ.rw))=some (v,rs.map (zr σ.rw))∧OKL m r rs
 | .int k,cs,v,r,ds,h,ho=>by
   change qFN k cs=_ at h
   unfold qFN at h
   split at h<;>try cases h
   split at h<;>cases h
   rename_i hk
   obtain ⟨y,rs,rfl,hy,hr⟩:=ho
   cases hy
   exact ⟨rs,by show qcu _ _=_;simp only [List.map_cons,zr,qcu,hk],hr⟩
 | .bool,cs,v,r,ds,h,ho=>by
   change qDn cs=_ at h
   unfold qDn at h
   split at h<;>cases h
   obtain ⟨y,rs,rfl,hy,hr⟩:=ho
   cases hy
   exact ⟨rs,rfl,hr⟩
 | .str,cs,v,r,ds,h,ho=>by
   change qG4 cs=_ at h
   unfold qG4 at h
   split at h<;>cases h
   obtain ⟨y,rs,rfl,hy,hr⟩:=ho
   cases hy
   exact ⟨rs,by show qht _=_;simp only [List.map_cons,zr,qht],hr⟩
 | .term,cs,v,r,ds,h,ho=>by
   change qCu _ cs=_ at h
   unfold qCu at h
   split at h<;>try cases h
   split at h<;>cases h
   rename_i hl
   obtain ⟨y1,r1,rfl,hy1,y2,r2,rfl,hy2,y3,r3,rfl,hy3,y4,r4,rfl,hy4,hr⟩:=ho
   cases hy1;cases hy2;cases hy3
   obtain ⟨es,_,_,hd⟩:=qpI hq hl hy4
   rw [qiS] at hd
   refine ⟨r4,?_,hr⟩
   show J3 (.v (.int .i64 _) :: .v (.string ⟨_⟩) :: .v (.int .i64 _)::zr σ.rw y4::r4.map (zr σ.rw))=_
   generalize zr σ.rw y4=z at hd
   simp only [J3,jL,hd]
 | .list a,cs,v,r,ds,h,ho=>by
   change qCz _ cs=_ at h
   unfold qCz at h
   split at h<;>try cases h
   split at h<;>cases h
   rename_i hl
   obtain ⟨y,rs,rfl,hy,hr⟩:=ho
   obtain ⟨es,_,_,hd⟩:=qpI hq hl hy
   have hd:yZ a.size (λ e=>full (Jw a e)) (zr σ.rw y)=some v:=hd
   exact ⟨rs,by show qcq _ _=_;simp only [List.map_cons,qcq,hd],hr⟩
 | .pair a b,cs,v,r,ds,h,ho=>by
   obtain ⟨r1,h1,h2⟩:=Jh.1 h
   obtain ⟨rs1,g1,g2⟩:=qdx hq a h1 ho
   obtain ⟨rs2,k1,k2⟩:=qdx hq b h2 g2
   exact ⟨rs2,Jh.2 ⟨_,g1,k1⟩,k2⟩
 | .one a,cs,v,r,ds,h,ho=>qdx hq a h ho
theorem qgB {β : Type} {x:Option (β × List TV)} {v : β} (h:qm1 x=some v):x=some (v,[]):=by
 unfold qm1 at h
 split at h
 ·cases h;rfl
 ·cases h
theorem qDM (rw:List Row) {y:AV} (h:qcH y=false):qcH (Qx rw y)=false∧cellsOf (Qx rw y)=[zr rw y]∧cellsOf y=[y]:=by
 cases y with
 | agg cs=>cases h
 | rs r lo n ep f =>
   cases hR:rw[r]? with
   | none=>simp [Qx,zr,hR,qcH,cellsOf]
   | some R=>cases hE:qmx R R.k lo n ep<;>simp [Qx,zr,hR,hE,qcH,cellsOf]
 | _=>exact ⟨rfl,rfl,rfl⟩
theorem qjg (hq:yY m σ) {a:Ty} {x:TV} {y:AV} {v:Val a} (h:qfe m.rw a x=some v) (ho:OK m x y) :
  jX a (Qx σ.rw y)=some v∧ym a ((cellsOf y).map (zr σ.rw))=some v:=by
 unfold qfe at h
 split at h
 case h_2=>cases h
 rename_i hb
 have hb:a.agg=qtu x:=by simpa [qgU] using hb
 have h:=qgB h
 have key:OKL m (ja x) (cellsOf y)→ym a ((cellsOf y).map (zr σ.rw))=some v:=by
  intro hc
  obtain ⟨rs,g1,g2⟩:=qdx hq a h hc
  cases g2
  exact zZ.2 g1
 by_cases hx:qtu x=true
 ·cases x with
  | agg cs =>
    obtain ⟨ds,rfl,hd⟩:=ho
    refine ⟨?_,key hd⟩
    unfold jX
    rw [hb]
    exact key hd
  | _=>cases hx
 ·have hx:qtu x=false:=by simpa using hx
  have hct:ja x=[x]:=by cases x<;>first | rfl | (cases hx)
  have hy:qcH y=false:=by
   cases x with
   | agg cs=>cases hx
   | i=>cases ho;rfl
   | b=>cases ho;rfl
   | s=>cases ho;rfl
   | c=>obtain ⟨_,rfl⟩:=ho;rfl
   | nil=>cases ho;rfl
   | sl τ l lv =>
     obtain ⟨ho,_⟩:=ho
     rcases jc ho with ⟨rfl,_⟩ | ⟨es,n,rfl,_⟩<;>rfl
   | row id ver =>
     obtain ⟨R,_,_,ho,_⟩:=ho
     rcases ho with rfl | ⟨k,es,j,rfl⟩ | ⟨r,lo,n,ep,f,rfl⟩<;>rfl
   | ptr b o=>obtain ⟨_,rfl⟩:=ho;rfl
   | rpt id ver sv i cs o=>obtain ⟨R,_,_,_,ho,_⟩:=ho;rcases ho with ⟨r,i,ep,rfl⟩ | ⟨ds,rfl⟩<;>rfl
   | ept cs o=>obtain ⟨ds,rfl,_⟩:=ho;rfl
   | fn f cs=>obtain ⟨ds,rfl,_⟩:=ho;rfl
   | tup cs=>obtain ⟨ds,rfl,_⟩:=ho;rfl
   | dead =>
     exfalso
     rw [hct] at h
     have hag:a.agg=false:=by rw [hb];rfl
     cases a with
     | int k=>cases h
     | bool=>cases h
     | str=>cases h
     | list a=>cases h
     | term=>cases hag
     | pair a b=>cases hag
     | one a=>cases hag
  obtain ⟨e1,e2,e3⟩:=qDM σ.rw hy
  have hc:OKL m (ja x) (cellsOf y):=by rw [hct,e3];exact ⟨y,[],rfl,ho,rfl⟩
  refine ⟨?_,key hc⟩
  unfold jX
  rw [e1,hb,hx,e2]
  have:=key hc
  rw [e3] at this
  exact this
theorem qzl {x:TV} {y:AV} (ho:OK m x y) (h:qiK x=true):rsC y=[]∧qcH y=false:=by
 cases x with
 | i=>cases ho;exact ⟨rfl,rfl⟩
 | b=>cases ho;exact ⟨rfl,rfl⟩
 | s=>cases ho;exact ⟨rfl,rfl⟩
 | c=>obtain ⟨_,rfl⟩:=ho;exact ⟨rfl,rfl⟩
 | nil=>cases ho;exact ⟨rfl,rfl⟩
 | sl τ l lv =>
   obtain ⟨ho,_⟩:=ho
   rcases jc ho with ⟨rfl,_⟩ | ⟨es,n,rfl,_⟩<;>exact ⟨rfl,rfl⟩
 | fn f cs=>obtain ⟨ds,rfl,_⟩:=ho;exact ⟨rfl,rfl⟩
 | _=>cases h
theorem qh7:∀ {xs:List TV} {ys:List AV},OKL m xs ys→xs.all qiK=true→ys.flatMap rsC=[]
 | [],_,h,_=>by cases h;rfl
 | x::xs,_,⟨y,r,rfl,h1,h2⟩,h=>by
   rw [List.all_cons,Bool.and_eq_true] at h
   rw [List.flatMap_cons,(qzl h1 h.1).1,qh7 h2 h.2];rfl
theorem qIA {y:AV} (h1:rsC y=[]) (h2:qcH y=false):rsA y=[]:=by
 cases y<;>first | (cases h2;done) | exact h1
theorem qvl {x:TV} {y:AV} (h:qm3 x=true) (ho:OK m x y):rsA y=[]:=by
 cases x with
 | agg cs =>
   obtain ⟨ds,rfl,hd⟩:=ho
   exact qh7 hd h
 | _=>obtain ⟨a,b⟩:=qzl ho h;exact qIA a b
theorem qqF:∀ {xs:List TV} {ys:List AV},xs.all qm3=true→OKL m xs ys→ys.flatMap rsA=[]
 | [],_,_,h=>by cases h;rfl
 | x::xs,_,h,⟨y,r,rfl,h1,h2⟩=>by
   rw [List.all_cons,Bool.and_eq_true] at h
   rw [List.flatMap_cons,qvl h.1 h1,qqF h.2 h2];rfl
theorem qyB (hq:yY m σ) {a:Ty}:∀ {xs:List TV} {ys:List AV} {vs:List (Val a)},qpj m.rw a xs=some vs→OKL m xs ys →
  qX (ym a) (ys.map λ y=>(cellsOf y).map (zr σ.rw))=some vs
 | [],ys,vs,h,ho=>by cases ho;cases h;rfl
 | x::xs,ys,vs,h,⟨y,r,he,h1,h2⟩=>by
   subst he
   simp only [qpj] at h
   split at h<;>try cases h
   rename_i v hv
   split at h<;>cases h
   rename_i vs hvs
   exact yH.2 ⟨v,vs,(qjg hq hv h1).2,qyB hq hvs h2,rfl⟩
end
end Go.AmYtbpnmbmdbblehaaGreat
namespace Go.AmYtbpnmbmdbblehaaGreat
open Go Go.RowKit Go.GxYtbpnmbmdbblehaaGreat
def Mp.add (m:Mp) (R:js) (ro:Option Nat) (vo:Nat) (qo:List (List AV)):Mp :=
 ⟨m.b,m.nb,λ i=>if i=m.rw.length then ro else m.r i,λ i=>if i=m.rw.length then vo else m.v i,λ i=>if i=m.rw.length then qo else m.q i,m.rw++[R]⟩
def Mp.upd (m:Mp) (id:Nat) (R:js) (ro:Option Nat) (vo:Nat) (qo:List (List AV)):Mp :=
 ⟨m.b,m.nb,λ i=>if i=id then ro else m.r i,λ i=>if i=id then vo else m.v i,λ i=>if i=id then qo else m.q i,m.rw.set id R⟩
section
variable {α : Type} {N:Nat × Nat} {m:Mp} {E:Env} {τ : TS} {tm:List AV} {σ : St} {K:KT α} {r : α} {p:Option (AV × Option St)} {c:TC} {C:Cfg} {R R2:js} {ro:Option Nat} {vo:Nat} {qo:List (List AV)} {id:Nat}
theorem qos (m:Mp) (R:js) (ro:Option Nat) (vo:Nat) (qo:List (List AV)):MLe m (m.add R ro vo qo):=by
 refine ⟨Nat.le_refl _,λ i _=>rfl,λ id R' h=>?_⟩
 have hlt:=getElem?_lt h
 have hne:¬ id=m.rw.length:=Nat.ne_of_lt hlt
 exact ⟨R',by show (m.rw++_)[id]? = _;rw [List.getElem?_append_left hlt];exact h,Nat.le_refl _,Nat.le_refl _,λ _=>⟨rfl,if_neg hne,if_neg hne,rfl,λ _=>if_neg hne,λ _ _ h=>h⟩⟩
theorem Q3.later {σ':St} (h:Q3 σ R ro vo qo) (hk:∀ r Q,ro=some r → σ.rw[r]? = some Q → σ'.rw[r]? = some Q):Q3 σ' R ro vo qo:=by
 cases ro with
 | none=>exact h
 | some r =>
   obtain ⟨Q,h1,h2⟩:=h
   exact ⟨Q,hk r Q rfl h1,h2⟩
theorem qmv {σ':St} (hq:yY m σ) (hn:Q3 σ' R ro vo qo) (hk:∀ (r:Nat) (Q:Row),σ.rw[r]? = some Q → σ'.rw[r]? = some Q):yY (m.add R ro vo qo) σ':=by
 intro id R' hR
 change (m.rw++[R])[id]? = some R' at hR
 show Q3 σ' R' (if id=m.rw.length then ro else m.r id) (if id=m.rw.length then vo else m.v id) (if id=m.rw.length then qo else m.q id)
 by_cases he:id=m.rw.length
 ·subst he
  rw [if_pos rfl,if_pos rfl,if_pos rfl]
  simp at hR
  subst hR
  exact hn
 ·rw [if_neg he,if_neg he,if_neg he]
  have hlt:id<m.rw.length:=by have:=getElem?_lt hR;simp at this;omega
  rw [List.getElem?_append_left hlt] at hR
  exact (hq id R' hR).later λ r Q _ h=>hk r Q h
theorem qER (h0:m.rw[id]? = some R) (hv:R.ver≤R2.ver) (hs:R.sv≤R2.sv) (hc:R2.ver=R.ver→R2.l.length=R.l.length∧ro=m.r id∧vo=m.v id∧R2.τ = R.τ ∧ (R2.sv=R.sv→qo=m.q id)∧(m.r id=none→∀ y,dlist R.τ y=some R.l→dlist R2.τ y=some R2.l)):MLe m (m.upd id R2 ro vo qo):=by
 have hid:=getElem?_lt h0
 refine ⟨Nat.le_refl _,λ i _=>rfl,λ i R' h=>?_⟩
 by_cases he:i=id
 ·subst he
  rw [h0] at h;cases h
  refine ⟨R2,by show (m.rw.set i R2)[i]? = _;rw [List.getElem?_set_self hid],hv,hs,λ h=>?_⟩
  obtain ⟨a,b,c,d,e,f⟩:=hc h
  exact ⟨a,(if_pos rfl).trans b,(if_pos rfl).trans c,d,λ h=>(if_pos rfl).trans (e h),f⟩
 ·exact ⟨R',by show (m.rw.set id R2)[i]? = _;rw [List.getElem?_set_ne (Ne.symm he)];exact h,Nat.le_refl _,Nat.le_refl _,λ _=>⟨rfl,if_neg he,if_neg he,rfl,λ _=>if_neg he,λ _ _ h=>h⟩⟩
theorem qAb {σ':St} (h0:m.rw[id]? = some R) (hq:yY m σ) (hn:Q3 σ' R2 ro vo qo) (hk:∀ id' r Q,id'≠id→id'<m.rw.length→m.r id'=some r → σ.rw[r]? = some Q → σ'.rw[r]? = some Q):yY (m.upd id R2 ro vo qo) σ':=by
 have hid:=getElem?_lt h0
 intro i R' hR
 change (m.rw.set id R2)[i]? = some R' at hR
 show Q3 σ' R' (if i=id then ro else m.r i) (if i=id then vo else m.v i) (if i=id then qo else m.q i)
 by_cases he:i=id
 ·subst he
  rw [if_pos rfl,if_pos rfl,if_pos rfl]
  rw [List.getElem?_set_self hid] at hR
  cases hR
  exact hn
 ·rw [if_neg he,if_neg he,if_neg he]
  rw [List.getElem?_set_ne (Ne.symm he)] at hR
  exact (hq i R' hR).later λ r Q h1 h2=>hk i r Q he (getElem?_lt hR) h1 h2
theorem Rel.to {m':Mp} {rw':List js} {σ':St} (hr:Rel N m E τ tm σ) (hle:MLe m m') (h1:m'.rw=rw') (h2:m'.nb=m.nb) (h3:m'.b=m.b) (hb : σ'.bx = σ.bx) (hq:yY m' σ')
  (hi:∀ i i' r,i<m'.rw.length→i'<m'.rw.length→m'.r i=some r→m'.r i'=some r→i=i'):Rel N m' E { τ with rw:=rw' } tm σ':=by
 refine ⟨hr.len,λ t=>(hr.env t).mono hle,h1,by rw [h2];exact hr.nb,?_,by rw [h2,h3];exact hr.inj,hq,hi,qyF hle hr.pin⟩
 intro b cs hbb
 obtain ⟨ds,g1,g2⟩:=hr.box b cs hbb
 exact ⟨ds,by rw [hb,h3];exact g1,g2.mono hle⟩
theorem Rel.row_lt (hr:Rel N m E τ tm σ) {id r:Nat} (h:id<m.rw.length) (he:m.r id=some r):r < σ.rw.length:=by
 have:=hr.rows id _ (List.getElem?_eq_getElem h)
 rw [he] at this
 obtain ⟨Q,h1,_⟩:=this
 exact getElem?_lt h1
theorem Rel.rowAdd {σ':St} (hr:Rel N m E τ tm σ) (R:js) (ro:Option Nat) (vo:Nat) (qo:List (List AV)) (hb : σ'.bx = σ.bx) (hn:Q3 σ' R ro vo qo) (hk:∀ (r:Nat) (Q:Row),σ.rw[r]? = some Q → σ'.rw[r]? = some Q) (hf:∀ r,ro=some r → σ.rw.length≤r) {y:AV} (hy:Jg ro vo R.τ R.l y) (h0:R.ver=0) :
  ∃ m',MLe m m'∧Rel N m' E { τ with rw := τ.rw++[R] } tm σ'∧OK m' (.row τ.rw.length 0) y:=by
 refine ⟨m.add R ro vo qo,qos _ _ _ _ _,hr.to (qos _ _ _ _ _) (by show m.rw++_=_;rw [hr.rw]) rfl rfl hb (qmv hr.rows hn hk) ?_,?_⟩
 ·intro id id' r h1 h2 e1 e2
  change id<(m.rw++[_]).length at h1
  change id'<(m.rw++[_]).length at h2
  change (if id=m.rw.length then ro else m.r id)=some r at e1
  change (if id'=m.rw.length then ro else m.r id')=some r at e2
  simp at h1 h2
  split at e1<;>split at e2
  ·omega
  ·have:=hr.row_lt (by omega) e2
   have:=hf r e1
   omega
  ·have:=hr.row_lt (by omega) e1
   have:=hf r e2
   omega
  ·exact hr.rinj id id' r (by omega) (by omega) e1 e2
 ·refine ⟨R,?_,Nat.zero_le _,hy.ish,λ _=>?_⟩
  ·show (m.rw++_)[τ.rw.length]? = _
   rw [hr.rw];simp
  ·show Jg (if τ.rw.length=m.rw.length then ro else m.r τ.rw.length) (if τ.rw.length=m.rw.length then vo else m.v τ.rw.length) _ _ y
   rw [if_pos (by rw [hr.rw]),if_pos (by rw [hr.rw])];exact hy
theorem Rel.rowNew (hr:Rel N m E τ tm σ) {a:Ty} {es:List (List AV)} {l:List (Val a)} (hd:qX (ym a) es=some l) :
  ∃ m',MLe m m'∧Rel N m' E { τ with rw := τ.rw++[⟨a,l,0,0,false⟩] } tm { σ with rw := σ.rw++[⟨a.size,es,0,0,false⟩] }∧OK m' (.row τ.rw.length 0) (.rs σ.rw.length 0 l.length 0 false) :=
 hr.rowAdd (σ':={ σ with rw := σ.rw++[⟨a.size,es,0,0,false⟩] }) ⟨a,l,0,0,false⟩ (some σ.rw.length) 0 es rfl ⟨⟨a.size,es,0,0,false⟩,by show (σ.rw++[_])[σ.rw.length]? = _;simp,rfl,rfl,rfl,hd,Nat.zero_le _,λ _=>⟨rfl,rfl⟩⟩
  (λ r Q h=>by show (σ.rw++_)[r]? = _;rw [List.getElem?_append_left (getElem?_lt h)];exact h) (λ r h=>by cases h;exact Nat.le_refl _) rfl rfl
theorem Rel.rowUpd (hr:Rel N m E τ tm σ) (h0 : τ.rw[id]? = some R) (ro:Option Nat) (vo:Nat) (qo:List (List AV)) (hv:R.ver≤R2.ver) (hs:R.sv≤R2.sv) (hc:R2.ver=R.ver→R2.l.length=R.l.length∧ro=m.r id∧vo=m.v id∧R2.τ = R.τ ∧ (R2.sv=R.sv→qo=m.q id)∧(m.r id=none→∀ y,dlist R.τ y=some R.l→dlist R2.τ y=some R2.l)) {σ':St} (hb : σ'.bx = σ.bx) (hn:Q3 σ' R2 ro vo qo)
  (hk:∀ id' r,id'≠id→id'<m.rw.length→m.r id'=some r→ro≠some r∧∀ Q,σ.rw[r]? = some Q → σ'.rw[r]? = some Q) :
  ∃ m',MLe m m'∧Rel N m' E { τ with rw := τ.rw.set id R2 } tm σ'∧(∀ y,Jg ro vo R2.τ R2.l y→OK m' (.row id R2.ver) y):=by
 have h0':m.rw[id]? = some R:=by rw [hr.rw];exact h0
 have hid:=getElem?_lt h0'
 have hle:MLe m (m.upd id R2 ro vo qo):=qER h0' hv hs hc
 refine ⟨m.upd id R2 ro vo qo,hle,hr.to hle (by show m.rw.set id R2=_;rw [hr.rw]) rfl rfl hb (qAb h0' hr.rows hn λ id' r Q h1 h2 h3 h4=>(hk id' r h1 h2 h3).2 Q h4) ?_,λ y hy=>?_⟩
 ·intro i i' r g1 g2 e1 e2
  change i<(m.rw.set id R2).length at g1
  change i'<(m.rw.set id R2).length at g2
  change (if i=id then ro else m.r i)=some r at e1
  change (if i'=id then ro else m.r i')=some r at e2
  simp at g1 g2
  split at e1<;>split at e2
  ·omega
  ·rename_i a b
   exact absurd e1 (hk i' r b g2 e2).1
  ·rename_i a b
   exact absurd e2 (hk i r a g1 e1).1
  ·exact hr.rinj i i' r g1 g2 e1 e2
 ·refine ⟨R2,?_,Nat.le_refl _,hy.ish,λ _=>?_⟩
  ·show (m.rw.set id R2)[id]? = _
   rw [List.getElem?_set_self hid]
  ·show Jg (if id=id then ro else m.r id) (if id=id then vo else m.v id) _ _ y
   rw [if_pos rfl,if_pos rfl];exact hy
theorem Rel.others (hr:Rel N m E τ tm σ) (h0 : τ.rw[id]? = some R) {rr:Nat} (hrr:m.r id=some rr) {id' r:Nat} (h1:id'≠id) (h2:id'<m.rw.length) (h3:m.r id'=some r):r≠rr := λ he =>
 h1 (hr.rinj id' id rr h2 (by rw [hr.rw];exact getElem?_lt h0) (he▸h3) hrr)
theorem qwl {β : Type} {f:List AV→Option β}:∀ {es:List (List AV)} {l:List β},qX f es=some l→∀ (j:Nat) {e:List AV} {v : β},f e=some v→qX f (es.set j e)=some (l.set j v)
 | [],l,h,j,e,v,hv=>by cases h;rfl
 | e'::es,l,h,j,e,v,hv=>by
   obtain ⟨w,vs,h1,h2,rfl⟩:=yH.1 h
   cases j with
   | zero=>exact yH.2 ⟨v,vs,hv,h2,rfl⟩
   | succ j=>exact yH.2 ⟨w,vs.set j v,h1,qwl h2 j hv,rfl⟩
theorem qwq {β : Type} {f:List AV→Option β} {e:List AV} {v : β} (h:f e=some v):∀ n:Nat,qX f (List.replicate n e)=some (List.replicate n v)
 | 0=>rfl
 | n+1=>yH.2 ⟨v,_,h,qwq h n,rfl⟩
end
end Go.AmYtbpnmbmdbblehaaGreat
namespace Go.AmYtbpnmbmdbblehaaGreat
open Go Go.RowKit Go.GxYtbpnmbmdbblehaaGreat
section
variable {α : Type} {N:Nat × Nat} {m:Mp} {E:Env} {τ : TS} {tm:List AV} {σ : St} {K:KT α} {r : α} {p:Option (AV × Option St)} {c:TC} {C:Cfg}
theorem qIe {d:Option TD} {op:BinOp} {x y:TV} {x' y':AV} {K':TV→Option α} (hx:OK m x x') (hy:OK m y y') (h:qGB d op x y K'=some r) :
  ∃ z v,K' z=some r∧OK m z (.v v)∧((∃ a b,x' = .v (.bool a)∧y' = .v (.bool b)∧qr6 d=true∧((op = .eql∧v = .bool (qgU a b))∨(op = .neq∧v = .bool (qc (qgU a b)))))∨∃ a b,x' = .v a∧y' = .v b∧(∀ p q,¬ (a = .bool p∧b = .bool q))∧qrd op a b=some v):=by
 unfold qGB at h
 split at h
 ·rename_i k a k' b
  cases hx;cases hy
  split at h
  ·obtain ⟨h1,h2⟩:=qr0 h
   exact ⟨_,_,h2,rfl,.inr ⟨_,_,rfl,rfl,by simp,by simp only [qrd,h1]⟩⟩
  ·obtain ⟨h1,h2⟩:=qr0 h
   exact ⟨_,_,h2,rfl,.inr ⟨_,_,rfl,rfl,by simp,by simp only [qrd,h1]⟩⟩
  ·rename_i n1 n2
   split at h<;>try cases h
   rename_i hk
   obtain ⟨z,v,h1,h2,h3⟩:=qIp (m:=m) h
   refine ⟨z,v,h1,h3,.inr ⟨_,_,rfl,rfl,by simp,?_⟩⟩
   unfold qrd
   cases op<;>first | (exact absurd rfl n1) | (exact absurd rfl n2) | (simp only [hk];exact h2)
 ·cases hx;cases hy
  obtain ⟨z,v,h1,h2,h3⟩:=qIP (m:=m) h
  exact ⟨z,v,h1,h3,.inr ⟨_,_,rfl,rfl,by simp,h2⟩⟩
 ·cases hx;cases hy
  split at h<;>try cases h
  ·rename_i hb
   exact ⟨_,_,h,rfl,.inl ⟨_,_,rfl,rfl,hb,.inl ⟨rfl,rfl⟩⟩⟩
  ·rename_i hb
   exact ⟨_,_,h,rfl,.inl ⟨_,_,rfl,rfl,hb,.inr ⟨rfl,rfl⟩⟩⟩
 ·cases h
theorem qAz {d:Option TD} (h:qr6 d=true):∃ a b c z,d=some ⟨a,b,c,z,.bool⟩:=by
 unfold qr6 at h
 split at h
 ·exact ⟨_,_,_,_,rfl⟩
 ·cases h
theorem qzQ (E:Env) (tm:List AV) (hr:Rel N m E τ tm σ):∀ l:List (Nat × Operand),(l.map λ p=>(p.1,evT E p.2)).map (·.1)=(l.map λ p=>(p.1,aev tm p.2)).map (·.1)∧OKL m ((l.map λ p=>(p.1,evT E p.2)).map (·.2)) ((l.map λ p=>(p.1,aev tm p.2)).map (·.2))
 | []=>⟨rfl,rfl⟩
 | x::l=>⟨by simp,⟨_,_,rfl,hr.ev x.2,(qzQ E tm hr l).2⟩⟩
theorem qzp (hr:Rel N m E τ tm σ) {id ver sv:Nat} {i:Int} {cs:List TV} {o:Nat} {y:AV} {R:js} (ho:OK m (.rpt id ver sv i cs o) y) (hR : τ.rw[id]? = some R) (h1:R.ver=ver) (h2:R.sv=sv) :
  (∃ r j ds Q,y = .rpt r j o Q.ver∧m.r id=some r∧i=((j:Nat):Int) ∧ σ.rw[r]? = some Q∧Q.c[j]? = some ds∧OKL m cs ds∧j<R.l.length∧Q.ver=m.v id∧Q.k=R.τ.size∧qX (ym R.τ) Q.c=some R.l∧Q.fz≤Q.c.length∧(R.sh=false→Q.fz=0∧Q.off=false)) ∨
  ∃ ds,y = .ept ds o∧OKL m cs ds∧R.sh=true:=by
 obtain ⟨R',g1,_,_,_,g2⟩:=ho
 rw [hr.rw,hR] at g1;cases g1
 have:=hr.rows id R (by rw [hr.rw];exact hR)
 rcases g2 h1 h2 with ⟨r,j,ds,k1,k2,k0,k3,k4,k5⟩ | ⟨ds,k1,k2,k3,k4⟩
 ·rw [k1] at this
  obtain ⟨Q,q1,q2,q3,q4,q5,q6,q7⟩:=this
  exact .inl ⟨r,j,ds,Q,by rw [q3];exact k2,k1,k0,q1,by rw [q2];exact k4,k5,k3,q3,q4,q5,q6,q7⟩
 ·rw [k1] at this
  refine .inr ⟨ds,k2,k4,?_⟩
  cases hs:R.sh with
  | true=>rfl
  | false =>
    have hl:=this hs
    rw [hl] at k3
    exact absurd k3 (Nat.lt_irrefl 0)
theorem qBB {β : Type} (f : β → AV):∀ (l:List (Nat × β)) (n:Nat),((l.zipIdx n).all λ p=>decide (p.1.1=p.2))=true→(∀ q∈l,True)→∀ P:AV→Bool,(∀ q∈l,P (f q.2)=true) →
  (((l.map λ p=>(p.1,f p.2)).zipIdx n).all λ p=>decide (p.1.1=p.2)&&P p.1.2)=true
 | [],n,_,_,P,_=>rfl
 | a::l,n,h,_,P,hP=>by
   simp only [List.zipIdx_cons,List.all_cons,Bool.and_eq_true,List.map_cons] at h ⊢
   exact ⟨⟨h.1,hP a (List.mem_cons_self ..)⟩,qBB f l (n+1) h.2 (λ _ _=>trivial) P λ q hq=>hP q (List.mem_cons_of_mem _ hq)⟩
theorem qqd (hq:yY m σ) {a:Ty} {E:Env} {tm:List AV} (hr:Rel N m E τ tm σ):∀ {l:List (Nat × Operand)} {vs:List (Val a)},qpj m.rw a (l.map λ p=>evT E p.2)=some vs →
  ∀ p∈l,(cellsOf (aev tm p.2)).length=a.size∧((cellsOf (aev tm p.2)).all λ x=>qz (zr σ.rw x))=true
 | [],vs,h,p,hp=>by cases hp
 | q::l,vs,h,p,hp=>by
   simp only [List.map_cons,qpj] at h
   split at h<;>try cases h
   rename_i v hv
   split at h<;>cases h
   rename_i hvs
   rcases List.mem_cons.1 hp with rfl | hp
   ·have:=(qjg hq hv (hr.ev p.2)).2
    obtain ⟨pre,h1,h2,h3,_⟩:=yv a (zZ.1 this)
    rw [List.append_nil] at h1
    refine ⟨by rw [← h2,← h1,List.length_map],?_⟩
    rw [List.all_eq_true]
    intro x hx
    exact h3 _ (by rw [← h1];exact List.mem_map_of_mem hx)
   ·exact qqd hq hr hvs p hp
theorem qGu (y:List UInt8) (l h:Int):(⟨(zS y l h).toArray⟩:ByteArray)=qz9 ⟨y.toArray⟩ l.toNat h.toNat:=by
 unfold zS qz9
 rw [ByteArray.ext_iff]
 simp [ByteArray.data_extract,List.drop_take]
theorem qAt {x:TV} {y:AV} (h:OK m x y) (hc:(ja x).all qiK=true):OKL m (ja x) (cellsOf y)∧(cellsOf y).all isC=true∧∀ z∈cellsOf y,rsC z=[]:=by
 have hct:(ja x).all qhf=true:=by
  rw [List.all_eq_true] at hc ⊢
  intro z hz
  have:=hc z hz
  cases z<;>first | rfl | (cases this)
 obtain ⟨g1,g2⟩:=h.cells hct
 refine ⟨g1,g2,λ z hz=>?_⟩
 have:=qh7 g1 hc
 rw [List.flatMap_eq_nil_iff] at this
 exact this z hz
theorem qnX {y:AV} (h:rsC y=[]) (hp:qz (zr σ.rw y)=true):qz y=true:=by
 cases y<;>first | rfl | exact hp | (simp [rsC] at h)
theorem qIL {tm:List AV} {a b:Operand} (h:qHP a b=true):aev tm a=aev tm b:=by
 unfold qHP at h
 split at h
 ·rw [Nat.eq_of_beq_eq_true h]
 ·simp only [Bool.and_eq_true,decide_eq_true_eq] at h
  rw [h.1,h.2]
 ·cases h
def LvE (x y:AV):Prop:=x=y∨∃ k es n n',x = .sl k es (n+1)∧y = .sl k es (n'+1)
inductive LvL:List AV→List AV→Prop
 | nil:LvL [] []
 | cons {x y:AV} {xs ys:List AV}:LvE x y→LvL xs ys→LvL (x::xs) (y::ys)
theorem LvE.v {x:Value} {y:AV} (h:LvE (.v x) y):y = .v x:=by
 rcases h with rfl | ⟨_,_,_,_,h,_⟩
 ·rfl
 ·cases h
theorem LvE.dlist {a:Ty} {x y:AV} (h:LvE x y) {l:List (Val a)} (hl:dlist a x=some l):dlist a y=some l:=by
 rcases h with rfl | ⟨_,_,_,_,rfl,rfl⟩
 ·exact hl
 ·exact hl
theorem qkU:∀ (a:Ty) {cs cs':List AV} {v:Val a} {r:List AV},LvL cs cs'→Jw a cs=some (v,r)→∃ r',LvL r r'∧Jw a cs'=some (v,r')
 | .int k,cs,cs',v,r,hL,h=>by
   change qcu k cs=_ at h
   unfold qcu at h
   split at h<;>try cases h
   split at h<;>cases h
   rename_i hk
   cases hL with
   | cons h1 h2 =>
     have:=h1.v
     subst this
     exact ⟨_,h2,by show qcu _ _=_;simp only [qcu,hk]⟩
 | .bool,cs,cs',v,r,hL,h=>by
   change qiZ cs=_ at h
   unfold qiZ at h
   split at h<;>cases h
   cases hL with
   | cons h1 h2 =>
     have:=h1.v
     subst this
     exact ⟨_,h2,rfl⟩
 | .str,cs,cs',v,r,hL,h=>by
   change qht cs=_ at h
   unfold qht at h
   split at h<;>cases h
   cases hL with
   | cons h1 h2 =>
     have:=h1.v
     subst this
     exact ⟨_,h2,rfl⟩
 | .term,cs,cs',v,r,hL,h=>by
   change J3 cs=_ at h
   unfold J3 at h
   split at h<;>try cases h
   split at h<;>cases h
   rename_i hd
   obtain ⟨k,n,s,x,l,he,h1,rfl⟩:=qkC hd
   cases he
   cases hL with
   | cons a1 hL=>cases hL with
     | cons a2 hL=>cases hL with
       | cons a3 hL=>cases hL with
         | cons a4 hL =>
           have:=a1.v;subst this
           have:=a2.v;subst this
           have:=a3.v;subst this
           rw [← qiS] at h1
           have h1:=a4.dlist h1
           rw [qiS] at h1
           exact ⟨_,hL,by show J3 _=_;simp only [J3,jL,h1]⟩
 | .list a,cs,cs',v,r,hL,h=>by
   change qcq _ cs=_ at h
   unfold qcq at h
   split at h<;>try cases h
   split at h<;>cases h
   rename_i hd
   cases hL with
   | cons h1 h2 =>
     have hd:dlist a _=some v:=hd
     have hd:yZ a.size (λ e=>full (Jw a e)) _=some v:=h1.dlist hd
     exact ⟨_,h2,by show qcq _ _=_;simp only [qcq,hd]⟩
 | .pair a b,cs,cs',v,r,hL,h=>by
   obtain ⟨r1,h1,h2⟩:=Jh.1 h
   obtain ⟨r1',g1,g2⟩:=qkU a hL h1
   obtain ⟨r2',g3,g4⟩:=qkU b g1 h2
   exact ⟨r2',g3,Jh.2 ⟨_,g2,g4⟩⟩
 | .one a,cs,cs',v,r,hL,h=>qkU a hL h
theorem qE3:∀ {cs:List AV},(∀ y∈cs,qz y=true)→LvL (cs.map (zr σ.rw)) cs
 | [],_ => .nil
 | y::cs,h=>by
   refine .cons ?_ (qE3 λ z hz=>h z (List.mem_cons_of_mem _ hz))
   have:=h y (List.mem_cons_self ..)
   cases y with
   | v x=>exact .inl rfl
   | sl k es f =>
     cases f with
     | zero=>exact .inl rfl
     | succ f=>exact .inr ⟨k,es,0,f,rfl,rfl⟩
   | _=>cases this
theorem qq9 {a:Ty} {cs:List AV} {v:Val a} (hp:∀ y∈cs,qz y=true) (h:ym a (cs.map (zr σ.rw))=some v):ym a cs=some v:=by
 obtain ⟨rs,h1,h3⟩:=qkU a (qE3 hp) (zZ.1 h)
 cases h1
 exact zZ.2 h3
theorem qGW {op:Op} (hty:C.ty=c.ty) (hr:Rel N m E τ tm σ) (h:Qf c E τ op K=some r):Sim N m E τ tm σ K r (qb C tm σ op):=by
 cases op with
 | move x=>exact .same hr h rfl (hr.ev x)
 | assign x=>exact .same hr h rfl (hr.ev x)
 | pick x a b =>
   simp only [Qf] at h
   split at h<;>try cases h
   rename_i y hy
   have hx:=hr.ev x
   rw [hy] at hx
   cases y with
   | true=>exact .same hr h (by simp only [qb,show aev tm x=_ from hx]) (hr.ev a)
   | false=>exact .same hr h (by simp only [qb,show aev tm x=_ from hx]) (hr.ev b)
 | alloc e =>
   simp only [Qf] at h
   split at h<;>try cases h
   rename_i d hd
   split at h<;>try cases h
   rename_i hz
   obtain ⟨m',h1,h2,h3⟩:=hr.alloc (qgt (m:=m) hz)
   exact .to h (by simp only [qb,hty,hd,hz]) h1 h2 h3
 | box e x =>
   simp only [Qf] at h
   split at h<;>try cases h
   rename_i d hd
   split at h<;>try cases h
   rename_i hz
   obtain ⟨g1,g2⟩:=(hr.ev x).cells hz
   obtain ⟨m',h1,h2,h3⟩:=hr.alloc g1
   exact .to h (by simp only [qb,hty,hd,g2]) h1 h2 h3
 | build t parts =>
   simp only [Qf] at h
   split at h<;>try cases h
   rename_i _ _ _ z fs hd
   split at h<;>try cases h
   rename_i hz
   split at h<;>try cases h
   rename_i cs hcs
   obtain ⟨ds,h1,h2⟩:=qzo (qzQ E tm hr parts.toList) (qgt (m:=m) hz) hcs
   exact .same hr h (by simp only [qb,hty,hd,hz];erw [h1]) ⟨ds,rfl,h2⟩
 | buildSlice t n parts =>
   simp only [Qf] at h
   split at h<;>try cases h
   rename_i _ _ _ _ _ k _ _ a hd he
   split at h<;>try cases h
   rename_i hb
   simp only [Bool.and_eq_true,decide_eq_true_eq] at hb
   obtain ⟨⟨⟨⟨hk,hn⟩,hnk⟩,hk0⟩,hz⟩:=hb
   split at h<;>try cases h
   rename_i vs hvs
   rw [← hr.rw] at hvs
   have hq:=hr.rows
   have hcells:=qqd hq hr hvs
   have hdec:=qyB hq hvs (by have:=hr.evs (parts.toList.map (·.2));simpa [List.map_map,Function.comp_def] using this)
   have hpo:qpq k n σ.rw (parts.toList.map λ p=>(p.1,aev tm p.2))=true:=by
    unfold qpq
    have h1:(parts.toList.map λ p=>(p.1,aev tm p.2)).length=n:=by simpa using hn
    simp only [h1,decide_true,hnk,hk0,Bool.true_and,Bool.and_true]
    have:=qBB (aev tm) parts.toList 0 hz (λ _ _=>trivial) (λ x=>decide ((cellsOf x).length=k)&&((cellsOf x).all λ y=>qz (zr σ.rw y)))
     λ q hq'=>by obtain ⟨a1,a2⟩:=hcells q hq';rw [a1,a2,hk];simp
    rw [List.all_eq_true] at this ⊢
    intro p hp
    have:=this p hp
    simpa [Bool.and_assoc] using this
   have hok:∀ m':Mp,OK m' (.sl a vs 2) (.sl k (parts.toList.map λ p=>(cellsOf (aev tm p.2)).map (zr σ.rw)) 2):=by
    intro m'
    refine ⟨?_,Nat.le_refl _⟩
    subst hk
    show yZ _ _ (.sl _ _ 2)=_
    simp only [yZ,q9,decide_true]
    simpa [List.map_map,Function.comp_def] using hdec
   have hst:qb C tm σ (.buildSlice t n parts)=match parts.toList.flatMap λ p=>rsA (aev tm p.2) with
     | []=>some (.sl k (parts.toList.map λ p=>(cellsOf (aev tm p.2)).map (zr σ.rw)) 2,none)
     | r::l=>some (.sl k (parts.toList.map λ p=>(cellsOf (aev tm p.2)).map (zr σ.rw)) 2,some { σ with rw:=frz σ.rw (r::l),wrr:=(r::l) ++ σ.wrr }):=by
    simp only [qb,hty,hd,hpo]
    rfl
   rw [hst]
   split at h
   ·rename_i hno
    have hno':parts.toList.flatMap (λ p=>rsA (aev tm p.2))=[]:=by
     have:=qqF (xs:=parts.toList.map λ p=>evT E p.2) (ys:=parts.toList.map λ p=>aev tm p.2) (by rw [List.all_map];exact hno) (by have:=hr.evs (parts.toList.map (·.2));simpa [List.map_map,Function.comp_def] using this)
     rwa [List.flatMap_map] at this
    rw [hno']
    exact .same hr h rfl (hok m)
   ·split
    ·exact ⟨_,some (shA τ),_,none,shM m,h,rfl,qe1 m,hr.share rfl hq.sh,hok _,λ h=>by cases h⟩
    ·exact .to h rfl (qe1 m) (hr.share (σ':={ σ with rw:=frz σ.rw _,wrr:=_ }) rfl (hq.frz _ _)) (hok _)
 | load t a =>
   simp only [Qf] at h
   split at h<;>try cases h
   rename_i d hd
   have ha:=hr.ev a
   split at h<;>try cases h
   ·rename_i b o he
    rw [he] at ha
    obtain ⟨_,ha⟩:=ha
    split at h<;>try cases h
    rename_i cs hcs
    split at h<;>try cases h
    rename_i x hx
    obtain ⟨ds,g1,g2⟩:=hr.box b cs hcs
    obtain ⟨y,g3,g4⟩:=qhb g2 hx
    exact .same hr h (by simp only [qb,hty,hd,ha,JX,g1,g3]) g4
   ·rename_i cs o he
    rw [he] at ha
    obtain ⟨ds,ha,g2⟩:=ha
    split at h<;>try cases h
    rename_i x hx
    obtain ⟨y,g3,g4⟩:=qhb g2 hx
    exact .same hr h (by simp only [qb,hty,hd,ha,JX,g3]) g4
   ·rename_i id ver sv i cs o he
    rw [he] at ha
    split at h<;>try cases h
    rename_i R hR
    split at h<;>try cases h
    rename_i hv
    rw [Bool.and_eq_true] at hv
    split at h<;>try cases h
    rename_i x hx
    rcases qzp hr ha hR (Nat.eq_of_beq_eq_true hv.1) (Nat.eq_of_beq_eq_true hv.2) with ⟨r',j,ds,Q,k1,_,_,k2,k3,k4,_⟩ | ⟨ds,k1,k4,_⟩
    ·obtain ⟨y,g3,g4⟩:=qhb k4 hx
     have kl:qxI Q j Q.ver=some ds:=by unfold qxI;rw [if_pos rfl];exact k3
     exact .same hr h (by simp only [qb,hty,hd,k1,JX,k2,kl,g3]) g4
    ·obtain ⟨y,g3,g4⟩:=qhb k4 hx
     exact .same hr h (by simp only [qb,hty,hd,k1,JX,g3]) g4
 | store t a x =>
   simp only [Qf] at h
   split at h<;>try cases h
   rotate_left
   ·rename_i d id ver sv i cs o hd he
    have ha:=hr.ev a
    rw [he] at ha
    split at h<;>try cases h
    rename_i R hR
    split at h<;>try cases h
    rename_i hc
    simp only [Bool.and_eq_true,decide_eq_true_eq,Bool.not_eq_true'] at hc
    obtain ⟨⟨⟨⟨⟨c1,c2⟩,c3⟩,c4⟩,c5⟩,c6⟩:=hc
    split at h<;>try cases h
    rename_i v hv
    rcases qzp hr ha hR (Nat.eq_of_beq_eq_true c1) (Nat.eq_of_beq_eq_true c2) with ⟨r',j,ds,Q,k1,krr,ki,k2,k3,k4,kj,kv,kk,kd,kf,ks⟩ | ⟨ds,k1,k4,ks⟩
    rotate_left
    ·rw [c3] at ks;cases ks
    obtain ⟨z1,z2,z3⟩:=qAt (hr.ev x) c6
    have hpar:=qgB hv
    have hcat:OKL m (cs.take o++(ja (evT E x)++cs.drop (o+d.size))) (ds.take o++(cellsOf (aev tm x)++ds.drop (o+d.size))):=(k4.take o).append (z1.append (k4.drop _))
    rw [← hr.rw] at hpar
    obtain ⟨rs,p1,p2⟩:=qdx hr.rows R.τ hpar hcat
    cases p2
    have hpl:∀ y∈ds,qz y=true:=by
     obtain ⟨w,_,hw⟩:=Ji kd k3
     obtain ⟨pre,h1,_,h3,_⟩:=yv R.τ (zZ.1 hw)
     rw [List.append_nil] at h1
     rw [h1];exact h3
    have hdl:ds.length=R.τ.size:=by
     obtain ⟨w,_,hw⟩:=Ji kd k3
     obtain ⟨pre,h1,h2,_⟩:=yv R.τ (zZ.1 hw)
     rw [List.append_nil] at h1
     rw [h1];exact h2
    have hxp:∀ y∈cellsOf (aev tm x),qz y=true:=by
     obtain ⟨pre,h1,_,h3,_⟩:=yv R.τ p1
     rw [List.map_nil,List.append_nil] at h1
     intro y hy
     have:=h3 (zr σ.rw y) (by rw [← h1];exact List.mem_map_of_mem (List.mem_append.2 (.inr (List.mem_append.2 (.inl hy)))))
     exact qnX (z3 y hy) this
    have hdec:ym R.τ (ds.take o++(cellsOf (aev tm x)++ds.drop (o+d.size)))=some v:=by
     have:ym R.τ ((ds.take o++(cellsOf (aev tm x)++ds.drop (o+d.size))).map (zr σ.rw))=some v:=zZ.2 p1
     exact qq9 (λ y hy=>by
      rcases List.mem_append.1 hy with hy | hy
      ·exact hpl y (List.mem_of_mem_take hy)
      ·rcases List.mem_append.1 hy with hy | hy
       ·exact hxp y hy
       ·exact hpl y (List.mem_of_mem_drop hy)) this
    have hset:=qwl kd j hdec
    have hrl:r' < σ.rw.length:=getElem?_lt k2
    have hcl:(cellsOf (aev tm x)).length=d.size:=by rw [z1.len];exact c4
    have hol:o+d.size≤ds.length:=by rw [k4.len];exact c5
    have hro:qpk Q j o Q.ver d.size (cellsOf (aev tm x))=some { Q with c:=Q.c.set j (ds.take o++(cellsOf (aev tm x)++ds.drop (o+d.size))) }:=by
     unfold qpk
     have e1:(decide (Q.ver=Q.ver∧Q.fz≤j∧o+d.size≤Q.k∧(cellsOf (aev tm x)).length=d.size∧Q.off=false)&&(cellsOf (aev tm x)).all qz)=true:=by
      rw [Bool.and_eq_true,decide_eq_true_eq,List.all_eq_true]
      exact ⟨⟨rfl,by rw [(ks c3).1];exact Nat.zero_le _,by rw [kk,← hdl];exact hol,hcl,(ks c3).2⟩,hxp⟩
     rw [e1,k3]
    have hlset:jW R.l i v=R.l.set j v:=by
     unfold jW
     rw [if_pos (by rw [ki];exact Int.natCast_nonneg j),ki];rfl
    obtain ⟨m',g1,g2,_⟩:=hr.rowUpd (R2:=⟨R.τ,jW R.l i v,R.ver,R.sv+1,R.sh⟩) hR (m.r id) (m.v id) (Q.c.set j (ds.take o++(cellsOf (aev tm x)++ds.drop (o+d.size)))) (Nat.le_refl _) (Nat.le_succ _)
     (λ _=>⟨by show (jW R.l i v).length=_;rw [hlset,List.length_set],rfl,rfl,rfl,(λ h=>by have:R.sv+1=R.sv:=h;omega),(λ h=>by rw [krr] at h;cases h)⟩) (σ':={ σ with rw := σ.rw.set r' { Q with c:=Q.c.set j (ds.take o++(cellsOf (aev tm x)++ds.drop (o+d.size))) },wrr:=r' :: σ.wrr }) rfl
     (by
      rw [krr]
      refine ⟨{ Q with c:=Q.c.set j (ds.take o++(cellsOf (aev tm x)++ds.drop (o+d.size))) },by show (σ.rw.set r' _)[r']? = _;rw [List.getElem?_set_self hrl],rfl,kv,kk,?_,?_,ks⟩
      ·show qX (ym R.τ) (Q.c.set j _)=some (jW R.l i v)
       rw [hlset];exact hset
      ·show Q.fz≤(Q.c.set j _).length
       rw [List.length_set];exact kf)
     (λ id' r'' h1 h2 h3=>by
      have hne:=hr.others hR krr h1 h2 h3
      refine ⟨λ he=>by rw [krr] at he;exact hne (Option.some.inj he).symm,λ Q' hQ'=>?_⟩
      show (σ.rw.set r' _)[r'']? = _
      rw [List.getElem?_set_ne (Ne.symm hne)];exact hQ')
    exact .to h (by simp only [qb,hty,hd,k1,k2,hro];rfl) g1 g2 ⟨_,rfl,rfl⟩
   rename_i d b o hd he
   have ha:=hr.ev a
   rw [he] at ha
   obtain ⟨hb,ha⟩:=ha
   split at h<;>try cases h
   rename_i cs hcs
   split at h<;>try cases h
   rename_i hc
   simp only [Bool.and_eq_true,decide_eq_true_eq] at hc
   obtain ⟨⟨h1,h2⟩,h3⟩:=hc
   obtain ⟨ds,g1,g2⟩:=hr.box b cs hcs
   obtain ⟨k1,k2⟩:=(hr.ev x).cells h3
   have e1:(cellsOf (aev tm x)).length=d.size:=by rw [k1.len];exact h1
   have e2:o+d.size≤ds.length:=by rw [g2.len];exact h2
   exact .to h (by simp only [qb,hty,hd,ha,g1,e1,e2,k2,decide_true,Bool.and_self];rfl) (.refl m) (hr.setBox hb ((g2.take o).append (k1.append (g2.drop (o+d.size)))) _) ⟨_,rfl,rfl⟩
 | makeSlice t n mm =>
   simp only [Qf] at h
   split at h<;>try cases h
   rename_i _ _ _ _ _ k bytes z a' ik a hd he hn
   split at h<;>try cases h
   rename_i hc
   simp only [Bool.and_eq_true,decide_eq_true_eq] at hc
   obtain ⟨⟨⟨⟨c1,c2⟩,c3⟩,c4⟩,c5⟩:=hc
   split at h<;>try cases h
   rename_i v hv
   obtain ⟨hm,h⟩:=j9 h
   obtain ⟨m1,m2,m3⟩:=of_decide_eq_true hm
   have hnv:=hr.ev n
   rw [hn] at hnv
   have hnv:aev tm n = .v (.int ik a):=hnv
   have hmv:aev tm mm = .v (.int ik a):=by rw [← qIL c1];exact hnv
   have hq0:yY mp0 σ := λ id R h=>by cases h
   have hpar:=qgB hv
   obtain ⟨rs,p1,p2⟩:=qdx (m:=mp0) hq0 a' hpar (qgt c5)
   cases p2
   have hzv:(z.map AV.v).map (zr σ.rw)=z.map AV.v:=by rw [List.map_map];exact List.map_congr_left λ _ _=>rfl
   rw [hzv] at p1
   have hd1:ym a' (z.map AV.v)=some v:=zZ.2 p1
   have hplz:(z.map AV.v).all qz=true:=by rw [List.all_map,List.all_eq_true];intro _ _;rfl
   have hcond:decide (0≤a∧a.toNat*bytes≤2 ^ 47∧a.toNat<2 ^ 62∧0<k∧z.length=k)=true:=decide_eq_true ⟨m1,m2,m3,c3,c4⟩
   have hst:qb C tm σ (.makeSlice t n mm)=match q9 a.toNat 0 with
     | true=>some (.sl k [] 2,none)
     | false=>some (.rs σ.rw.length 0 a.toNat 0 false,some { σ with rw := σ.rw++[⟨k,List.replicate a.toNat (z.map .v),0,0,false⟩] }):=by
    simp only [qb,hty,hd,hnv,hmv,true_and,hcond,c5,hplz,Bool.and_self]
    cases q9 a.toNat 0<;>rfl
   have hreps:=qwq hd1 a.toNat
   by_cases ha:a.toNat=0
   ·obtain ⟨m',g1,g2,g3⟩:=hr.rowAdd (σ' := σ) ⟨a',List.replicate a.toNat v,0,0,false⟩ none 0 [] rfl (λ _=>by show List.replicate a.toNat v=[];rw [ha];rfl) (λ r Q h=>h) (λ r h=>by cases h) (y := .sl k [] 2) ⟨by show yZ a'.size (ym a') (.sl k [] 2)=some (List.replicate a.toNat v);rw [ha,c2];simp only [yZ,q9,decide_true];rfl,Nat.le_refl _⟩ rfl
    refine ⟨_,some _,.sl k [] 2,none,m',h,?_,g1,g2,g3,λ h=>by cases h⟩
    have:q9 a.toNat 0=true:=by simp [q9,ha]
    rw [hst,this]
   ·obtain ⟨m',g1,g2,g3⟩:=hr.rowNew hreps
    rw [List.length_replicate] at g3
    refine .to h (y := .rs σ.rw.length 0 a.toNat 0 false) ?_ g1 g2 g3
    have:q9 a.toNat 0=false:=by simp [q9,ha]
    rw [hst,this,c2]
 | nilCheck x =>
   simp only [Qf] at h
   have ha:=hr.ev x
   split at h<;>try cases h
   ·rename_i b o he
    rw [he] at ha
    exact .same hr h (by simp only [qb,ha.2]) ⟨ha.1,rfl⟩
   ·rename_i cs o he
    rw [he] at ha
    obtain ⟨ds,ha,g⟩:=ha
    exact .same hr h (by simp only [qb,ha]) ⟨ds,rfl,g⟩
   ·rename_i id ver sv i cs o he
    rw [he] at ha
    have ha':=ha
    obtain ⟨R,_,_,_,hy,_⟩:=ha
    rcases hy with ⟨r',j,ep,hy⟩ | ⟨ds,hy⟩
    ·exact .same hr h (y := .rpt r' j o ep) (by simp only [qb,hy]) (by rw [← hy];exact ha')
    ·exact .same hr h (y := .ept ds o) (by simp only [qb,hy]) (by rw [← hy];exact ha')
 | binOp op t x y u =>
   simp only [Qf] at h
   obtain ⟨z,v,h1,h2,h3⟩:=qIe (hr.ev x) (hr.ev y) h
   refine .same hr h1 ?_ h2
   rcases h3 with ⟨a,b,e1,e2,e3,h4⟩ | ⟨a,b,e1,e2,e3,h4⟩
   ·obtain ⟨p1,p2,p3,p4,hd⟩:=qAz e3
    rcases h4 with ⟨rfl,rfl⟩ | ⟨rfl,rfl⟩<;>simp only [qb,e1,e2,hty,hd]
   ·simp only [qb,e1,e2]
    split
    ·rename_i p q hp hq
     cases hp;cases hq
     exact absurd ⟨rfl,rfl⟩ (e3 p q)
    ·rename_i hp hq
     cases hp;cases hq
     rw [h4]
    ·rename_i n1 n2
     exact absurd rfl (n2 _ _ rfl)
 | unOp op t x =>
   simp only [Qf] at h
   have ha:=hr.ev x
   split at h<;>try cases h
   ·rename_i k n he
    rw [he] at ha
    exact .same hr h (by simp only [qb,show aev tm x=_ from ha,unA]) rfl
   ·rename_i b he
    rw [he] at ha
    exact .same hr h (by simp only [qb,show aev tm x=_ from ha,unA]) rfl
 | convert s d x =>
   simp only [Qf] at h
   have ha:=hr.ev x
   split at h<;>try cases h
   ·rename_i h1 h2 h3
    rw [h3] at ha
    exact .same hr h (by simp only [qb,hty,h1,h2,show aev tm x=_ from ha]) rfl
   ·rename_i h1 h2 h3
    rw [h3] at ha
    exact .same hr h (by simp only [qb,hty,h1,h2,show aev tm x=_ from ha]) rfl
 | makeFunc f fs cs =>
   cases f with
   | func f =>
     simp only [Qf] at h
     split at h<;>try cases h
     rename_i hf
     exact .same hr h (by simp only [qb,hf]) ⟨_,rfl,hr.evs _⟩
   | _=>simp only [Qf] at h;cases h
 | slice t x lo hi mx =>
   cases mx with
   | some q=>simp only [Qf] at h;cases h
   | none =>
   simp only [Qf] at h
   have ha:=hr.ev x
   split at h<;>try cases h
   ·rename_i y hd he
    rw [he] at ha
    split at h<;>try cases h
    rename_i hh hhe
    split at h<;>try cases h
    rename_i l hle
    obtain ⟨c1,h⟩:=j9 h
    obtain ⟨c2,h⟩:=j9 h
    have hxl:qml ⟨y.toArray⟩=y.length:=by simp [qml,ByteArray.size]
    have b1:=qb0 hr (d:=y.length) hhe (Nat.le_refl _) c1
    have b2:=qb0 hr (d:=0) hle (Nat.zero_le _) c2
    refine .same hr h (y := .v (.string (qz9 ⟨y.toArray⟩ l.toNat hh.toNat))) ?_ ?_
    ·simp only [qb,hty,hd,show aev tm x=_ from ha,hxl,b1,b2]
    ·show AV.v _=AV.v _
     rw [← qGu]
   ·rename_i a y lv hd he
    rw [he] at ha
    split at h<;>try cases h
    rename_i hk
    rw [Bool.and_eq_true] at hk
    have hk1:=of_decide_eq_true hk.1
    split at h<;>try cases h
    rename_i hh hhe
    split at h<;>try cases h
    rename_i l hle
    obtain ⟨c1,h⟩:=j9 h
    obtain ⟨c2,h⟩:=j9 h
    have b1:=qb0 hr (d:=y.length) hhe (Nat.le_refl _) c1
    have b2:=qb0 hr (d:=0) hle (Nat.zero_le _) c2
    obtain ⟨hdl,_⟩:=ha
    rcases jc hdl with ⟨h1,rfl⟩ | ⟨es,n,h1,h2⟩
    ·refine .same hr h (y := .v (.slice none 0 0)) ?_ ?_
     ·simp only [List.length_nil] at b1
      simp only [qb,hty,hd,h1,b1,b2]
     ·refine ⟨?_,by decide⟩
      show some []=some (zS [] l hh)
      simp [zS]
    ·have hsl:qag es=y.length:=qQ h2
     refine .same hr h (y := .sl a.size (qDd es l.toNat hh.toNat) (lvS (n+1) (q9 hh.toNat y.length))) ?_ ?_
     ·simp only [qb,hty,hd,h1,hk1,q9,decide_true,hsl,b1,b2,show pos (n+1)=true from by simp [pos],Bool.and_self]
     ·have hlv:∃ q,lvS (n+1) (q9 hh.toNat y.length)=q+1:=by unfold lvS;split<;>exact ⟨_,rfl⟩
      obtain ⟨q,hq⟩:=hlv
      rw [hq]
      refine ⟨?_,Nat.succ_le_succ (Nat.zero_le _)⟩
      show yZ _ _ (.sl _ _ (q+1))=_
      simp only [yZ,hk1,q9,decide_true]
      exact qes _ (qgw _ h2)
   ·rename_i hd he
    rw [he] at ha
    split at h<;>try cases h
    rename_i hh hhe
    split at h<;>try cases h
    rename_i l hle
    obtain ⟨c1,h⟩:=j9 h
    obtain ⟨c2,h⟩:=j9 h
    have b1:=qb0 hr (d:=0) hhe (Nat.le_refl _) c1
    have b2:=qb0 hr (d:=0) hle (Nat.zero_le _) c2
    exact .same hr h (y := .v (.slice none 0 0)) (by simp only [qb,hty,hd,show aev tm x=_ from ha,b1,b2]) rfl
   ·rename_i _ _ _ _ _ k _ _ id ver hd he
    rw [he] at ha
    split at h<;>try cases h
    rename_i R hR
    split at h<;>try cases h
    rename_i hvk
    rw [Bool.and_eq_true] at hvk
    have hv:R.ver=ver:=Nat.eq_of_beq_eq_true hvk.1
    have hk:=of_decide_eq_true hvk.2
    split at h<;>try cases h
    rename_i l hle
    obtain ⟨c1,h⟩:=j9 h
    obtain ⟨R',g1,g2,g3,g4⟩:=ha
    rw [hr.rw,hR] at g1;cases g1
    have hR':m.rw[id]? = some R:=by rw [hr.rw];exact hR
    have gy:=g4 hv
    subst hv
    rcases qhB hr.rows hR' gy with ⟨rr,Q,hrr,hy,k1,k2,kv,k3,k4,kf,ks⟩ | ⟨hrr,hq,hy,hlv⟩
    ·have hQl:=qQ k4
     have hrl:rr < σ.rw.length:=getElem?_lt k1
     have b2:=qb0 hr (d:=0) hle (Nat.zero_le _) c1
     have hll:l.toNat≤R.l.length:=by
      unfold inb at c1
      have:=of_decide_eq_true c1
      omega
     have hdr:qxx Q k 0 Q.c.length Q.ver l.toNat=some { Q with c:=Q.c.drop l.toNat,ver:=Q.ver+1,fz:=Q.fz-l.toNat,off:=true }:=by
      unfold qxx
      rw [if_pos ⟨k3.trans hk,rfl,rfl,rfl,by rw [hQl];exact hll,kf⟩]
     obtain ⟨m',z1,z2,z3⟩:=hr.rowUpd (R2:=⟨R.τ,R.l.drop l.toNat,R.ver+1,R.sv,true⟩) hR (some rr) (Q.ver+1) (Q.c.drop l.toNat) (Nat.le_succ _) (Nat.le_refl _) (λ h=>by have:R.ver+1=R.ver:=h;omega)
      (σ':={ σ with rw := σ.rw.set rr { Q with c:=Q.c.drop l.toNat,ver:=Q.ver+1,fz:=Q.fz-l.toNat,off:=true },wrr:=rr :: σ.wrr }) rfl
      ⟨{ Q with c:=Q.c.drop l.toNat,ver:=Q.ver+1,fz:=Q.fz-l.toNat,off:=true },by show (σ.rw.set rr _)[rr]? = _;rw [List.getElem?_set_self hrl],rfl,rfl,k3,qes _ k4,by show Q.fz-l.toNat≤(Q.c.drop l.toNat).length;rw [List.length_drop];omega,λ h=>by cases h⟩ λ id' r'' hne hlt hr''=>by
       have hnr:=hr.others hR hrr hne hlt hr''
       exact ⟨λ hee=>hnr (Option.some.inj hee).symm,λ Q' hQ'=>by show (σ.rw.set rr _)[r'']? = _;rw [List.getElem?_set_ne (Ne.symm hnr)];exact hQ'⟩
     refine .to h (y := .rs rr 0 (Q.c.length-l.toNat) (Q.ver+1) false) ?_ z1 z2 (z3 _ ?_)
     ·simp only [qb,hty,hd,hy,Option.map_none,show ∀ n,qb5 n n none=some n from λ _=>rfl,k1,hQl,b2,q9,decide_true]
      rw [hQl] at hdr
      rw [hdr]
     ·show _=AV.rs rr 0 (R.l.drop l.toNat).length (Q.ver+1) false
      rw [List.length_drop,hQl]
    ·have b2:=qb0 hr (d:=0) hle (Nat.zero_le _) c1
     have hll:l.toNat≤R.l.length:=by
      unfold inb at c1
      have:=of_decide_eq_true c1
      omega
     obtain ⟨m',z1,z2,z3⟩:=hr.rowUpd (R2:=⟨R.τ,R.l.drop l.toNat,R.ver+1,R.sv,true⟩) hR none 0 [] (Nat.le_succ _) (Nat.le_refl _) (λ h=>by have:R.ver+1=R.ver:=h;omega) (σ' := σ) rfl
      (λ hs=>by cases hs) λ id' r'' hne hlt hr''=>⟨λ hee=>(by cases hee),λ _ h=>h⟩
     rcases jc hy with ⟨hyv,hl0⟩ | ⟨es,n,hyv,hd2⟩<;>rw [hyv] at hy hlv
     ·have hl00:l.toNat=0:=by rw [hl0] at hll;simpa using hll
      refine ⟨_,some _,.v (.slice none 0 0),none,m',h,?_,z1,z2,z3 _ ⟨?_,hlv⟩,λ h=>by cases h⟩
      ·rw [hl0] at b2
       simp only [List.length_nil] at b2
       simp only [qb,hty,hd,hyv,Option.map_none,show ∀ n,qb5 n n none=some n from λ _=>rfl,b2]
      ·show dlist R.τ _=some (R.l.drop l.toNat)
       rw [hl00,List.drop_zero];exact hy
     ·have hsl:qag es=R.l.length:=qQ hd2
      have hpos:1≤n:=by have:2≤n+1:=hlv;omega
      refine ⟨_,some _,.sl R.τ.size (qDd es l.toNat R.l.length) (lvS (n+1) (q9 R.l.length R.l.length)),none,m',h,?_,z1,z2,z3 _ ⟨?_,?_⟩,λ h=>by cases h⟩
      ·simp only [qb,hty,hd,hyv,hk,q9,decide_true,Option.map_none,show ∀ n,qb5 n n none=some n from λ _=>rfl,hsl,b2,show pos (n+1)=true from by simp [pos],Bool.and_self]
      ·have hlvS:lvS (n+1) (q9 R.l.length R.l.length)=2:=by
         unfold lvS
         rw [show (decide (1<n+1)&&q9 R.l.length R.l.length)=true by simp [q9];omega]
       rw [hlvS]
       show yZ _ _ (.sl _ _ 2)=_
       simp only [yZ,q9,decide_true]
       have:=qes l.toNat (qgw R.l.length hd2)
       rw [List.take_length] at this
       exact this
      ·show 2≤lvS _ _
       unfold lvS
       rw [show (decide (1<n+1)&&q9 R.l.length R.l.length)=true by simp [q9];omega]
       exact Nat.le_refl _
 | fieldAddr t x i =>
   simp only [Qf] at h
   split at h<;>try cases h
   rename_i hd
   split at h<;>try cases h
   rename_i off size g hf
   split at h<;>try cases h
   have ha:=hr.ev x
   split at h<;>try cases h
   ·rename_i b o he
    rw [he] at ha
    exact .same hr h (by simp only [qb,hty,hd,hf,ha.2]) ⟨ha.1,rfl⟩
   ·rename_i cs o he
    rw [he] at ha
    obtain ⟨ds,ha,hg⟩:=ha
    exact .same hr h (by simp only [qb,hty,hd,hf,ha]) ⟨ds,rfl,hg⟩
   ·rename_i id ver sv j cs o he
    rw [he] at ha
    obtain ⟨R,k1,k2,k3,hy,k4⟩:=ha
    rcases hy with ⟨r',q,ep,hy⟩ | ⟨ds,hy⟩
    ·refine .same hr h (y := .rpt r' q (o+off) ep) (by simp only [qb,hty,hd,hf,hy]) ⟨R,k1,k2,k3,.inl ⟨_,_,_,rfl⟩,λ e1 e2=>?_⟩
     rcases k4 e1 e2 with ⟨r2,i2,ds,z1,z2,z0,z3,z4,z5⟩ | ⟨ds,z1,z2,_⟩
     ·rw [hy] at z2
      cases z2
      exact .inl ⟨_,_,ds,z1,rfl,z0,z3,z4,z5⟩
     ·rw [hy] at z2;cases z2
    ·refine .same hr h (y := .ept ds (o+off)) (by simp only [qb,hty,hd,hf,hy]) ⟨R,k1,k2,k3,.inr ⟨_,rfl⟩,λ e1 e2=>?_⟩
     rcases k4 e1 e2 with ⟨r2,i2,ds,z1,z2,_⟩ | ⟨ds',z1,z2,z3,z4⟩
     ·rw [hy] at z2;cases z2
     ·rw [hy] at z2
      cases z2
      exact .inr ⟨ds,z1,rfl,z3,z4⟩
 | field t x i =>
   simp only [Qf] at h
   have ha:=hr.ev x
   split at h<;>try cases h
   rename_i cs hd he
   split at h<;>try cases h
   rename_i off size g hf
   split at h<;>try cases h
   rename_i y hy
   rw [he] at ha
   obtain ⟨ds,ha,hg⟩:=ha
   obtain ⟨z,g1,g2⟩:=qhb hg hy
   exact .same hr h (by simp only [qb,hty,hd,ha,hf,g1]) g2
 | indexAddr t x i =>
   simp only [Qf] at h
   have ha:=hr.ev x
   have hi:=hr.ev i
   split at h<;>try cases h
   rename_i _ _ _ _ _ k _ _ ik j hd hj
   rw [hj] at hi
   have hi:aev tm i = .v (.int ik j):=hi
   split at h<;>try cases h
   ·rename_i a l lv he
    rw [he] at ha
    split at h<;>try cases h
    rename_i hk
    have hk:=of_decide_eq_true hk
    obtain ⟨v,hv,h⟩:=qa4 h
    obtain ⟨j0,hv⟩:=qoL hv
    obtain ⟨hdl,_⟩:=ha
    rcases jc hdl with ⟨h1,rfl⟩ | ⟨es,n,h1,h2⟩
    ·simp at hv
    ·obtain ⟨e,g1,g2⟩:=qhQ h2 hv
     refine .same hr h (y := .ept e 0) ?_ ⟨e,rfl,Jk g2⟩
     have hsg:qt7 es j=some e:=by unfold qt7;rw [if_pos j0];exact g1
     simp only [qb,hty,hd,hi,h1,hk,q9,decide_true,hsg]
   ·rename_i id ver he
    rw [he] at ha
    split at h<;>try cases h
    rename_i R hR
    split at h<;>try cases h
    rename_i hv
    rw [Bool.and_eq_true] at hv
    have hv1:=Nat.eq_of_beq_eq_true hv.1
    have hk:=of_decide_eq_true hv.2
    obtain ⟨v,hv,h⟩:=qa4 h
    obtain ⟨j0,hv⟩:=qoL hv
    obtain ⟨R',g1,g2,g3,g4⟩:=ha
    rw [hr.rw,hR] at g1;cases g1
    have g4:=g4 hv1
    rcases qhB hr.rows (by rw [hr.rw];exact hR) g4 with ⟨rr,Q,hrr,hy,q1,q2,q3,q4,q5,_⟩ | ⟨hno,_,hq,_⟩
    ·obtain ⟨e,z1,z2⟩:=qhQ q5 hv
     have hl:=qQ q5
     have hjl:j.toNat<Q.c.length:=getElem?_lt z1
     refine .same hr h (y := .rpt rr (0+j.toNat) 0 Q.ver) ?_ ?_
     ·have:qxJ Q k 0 Q.c.length Q.ver j=some (0+j.toNat):=by
        unfold qxJ
        rw [if_pos ⟨q4.trans hk,j0,by omega,rfl,by omega⟩]
      simp only [qb,hty,hd,hi,hy,q1,this]
     ·refine ⟨R,by rw [hr.rw];exact hR,by omega,Nat.le_refl _,.inl ⟨_,_,_,rfl⟩,λ _ _ => .inl ⟨rr,j.toNat,e,hrr,by rw [Nat.zero_add,q3],by omega,by omega,by rw [← q2];exact z1,Jk z2⟩⟩
    ·rcases jc hq with ⟨_,hl⟩ | ⟨es,n,h1,h2⟩
     ·rw [hl] at hv
      simp at hv
     ·obtain ⟨e,g1,g2'⟩:=qhQ h2 hv
      refine .same hr h (y := .ept e 0) ?_ ⟨R,by rw [hr.rw];exact hR,by omega,Nat.le_refl _,.inr ⟨_,rfl⟩,λ _ _ => .inr ⟨e,hno,rfl,Nat.lt_of_le_of_lt (Nat.zero_le _) (getElem?_lt hv),Jk g2'⟩⟩
      have hsg:qt7 es j=some e:=by unfold qt7;rw [if_pos j0];exact g1
      simp only [qb,hty,hd,hi,h1,hk,q9,decide_true,hsg]
 | index t x i =>
   simp only [Qf] at h
   have ha:=hr.ev x
   have hi:=hr.ev i
   split at h<;>try cases h
   rename_i y ik j hd he hj
   rw [he] at ha
   rw [hj] at hi
   obtain ⟨v,hv,h⟩:=qa4 h
   obtain ⟨j0,hv⟩:=qoL hv
   refine .same hr h (y := .v (.int .u8 v.toNat)) ?_ rfl
   have:qC3 ⟨y.toArray⟩ j=some (v.toNat:Int):=by
    unfold qC3
    rw [if_pos j0]
    show (match y[j.toNat]? with | some b=>some ((b.toNat:Nat):Int) | none=>none)=_
    rw [hv]
   simp only [qb,hty,hd,show aev tm x=_ from ha,show aev tm i=_ from hi,this]
 | extract x i =>
   simp only [Qf] at h
   have ha:=hr.ev x
   split at h<;>try cases h
   rename_i vs he
   rw [he] at ha
   obtain ⟨ds,ha,hg⟩:=ha
   split at h<;>try cases h
   rename_i y hy
   obtain ⟨z,g1,g2⟩:=hg.get hy
   exact .same hr h (by simp only [qb,ha,g1]) g2
 | _=>simp only [Qf] at h;cases h
end
end Go.AmYtbpnmbmdbblehaaGreat
