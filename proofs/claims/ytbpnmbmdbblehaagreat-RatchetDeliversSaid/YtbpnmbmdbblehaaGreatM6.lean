/- Part 6 of what the proofs stand on: plain functions of the program, and that they are its functions. -/
import Derived.Test.YtbpnmbmdbblehaaGreatM5
import Derived.Test.YtbpnmbmdbblehaaGreatM3
import Derived.SliceStrings
import Derived.SizedLaws
import Derived.Test.YtbpnmbmdbblehaaGreatM1
import Derived.ProofKit
import Derived.Test.YtbpnmbmdbblehaaGreatRows
set_option linter.unusedVariables false
set_option linter.unusedSimpArgs false
namespace Go.AmZ
open Go Go.GxZ Go.RowKit
open Go.ChangeShapes Go.WideShapes Go.ChangeAt Go.WideMaps Go.WideElems
theorem quc (b o j:Nat):(⟨b,o,none⟩:Addr).add j=⟨b,o+j,none⟩:=by unfold Addr.add;split<;>simp_all
mutual
def tyM (P:Program):Nat->Ty->TypeId->Bool
 | 0,_,_=>false
 | _+1,.int k,t=>match P.underlying t with
   | some (.int k')=>decide (k'=k)&&decide (P.cellsOf t=1)
   | _=>false
 | _+1,.bool,t=>match P.underlying t with
   | some .bool=>decide (P.cellsOf t=1)
   | _=>false
 | _+1,.str,t=>match P.underlying t with
   | some .string=>decide (P.cellsOf t=1)
   | _=>false
 | n+1,.list a,t=>match P.underlying t with
   | some (.slice e)=>decide (P.cellsOf t=1)&&decide (P.cellsOf e=a.size)&&decide (0<P.bytesOf e)&&tyM P n a e
   | _=>false
 | n+1,.term,t=>qAZ P n t
 | n+1,.pair a b,t=>match P.underlying t with
   | some (.struct fs)=>decide (P.cellsOf t=a.size+b.size)&&fsM P n (.pair a b) 0 fs.toList
   | _=>false
 | n+1,.one a,t=>match P.underlying t with
   | some (.struct fs)=>decide (P.cellsOf t=a.size)&&fsM P n a 0 fs.toList
   | _=>false
def fsM (P:Program):Nat->Ty->Nat->List Field->Bool
 | 0,_,_,_=>false
 | n+1,τ,off,[f]=>decide (f.offset=off)&&decide (P.cellsOf f.type = τ.size)&&tyM P n τ f.type
 | n+1,.pair a b,off,f::g::r=>decide (f.offset=off)&&decide (P.cellsOf f.type=a.size)&&tyM P n a f.type&&fsM P n b (off+a.size) (g::r)
 | _+1,_,_,_=>false
def qAZ (P:Program):Nat->TypeId->Bool
 | 0,_=>false
 | n+1,t=>match P.underlying t with
   | some (.struct fs)=>match fs.toList with
     | [f0,f1,f2,f3]=>decide (P.cellsOf t=4)&&decide (f0.offset=0)&&decide (f1.offset=1)&&decide (f2.offset=2)&&decide (f3.offset=3)&&decide (P.cellsOf f3.type=1) &&
      tyM P n (.int .i64) f0.type&&tyM P n .str f1.type&&tyM P n (.int .i64) f2.type&&(match P.underlying f3.type with
      | some (.slice e)=>decide (e=t)&&decide (0<P.bytesOf t)
      | _=>false)
     | _=>false
   | _=>false
end
def qiO:(τ : Ty)->Val τ -> Prop
 | .int k,n=>k.min<=n/\n<=k.max
 | .bool,_=>True
 | .str,s=>s.length<2 ^ 62
 | .term,t=>qoX t
 | .list a,l=>l.length<2 ^ 62/\∀ x∈l,qiO a x
 | .pair a b,p=>qiO a p.1/\qiO b p.2
 | .one a,v=>qiO a v
def ghW (W:World):Gh:=⟨λ b o=>match W.cell? ⟨b,o,none⟩ with | some u=>if u.oneCell'=true then some u else none | none=>none,0,λ _=>0,0,λ _=>0,λ _=>0,λ _=>0,λ _=>0,λ _=>0⟩
theorem qzu {W:World} {b o:Nat} {u:Value}:(ghW W).mem b o=some u↔W.cell? ⟨b,o,none⟩=some u/\u.oneCell'=true:=by
 show (match W.cell? ⟨b,o,none⟩ with | some u=>if u.oneCell'=true then some u else none | none=>none)=some u↔_
 cases W.cell? ⟨b,o,none⟩ with
 | none=>simp
 | some v =>
   simp only [Option.some.injEq]
   constructor
   ·intro h
    split at h
    ·cases h;exact ⟨rfl,‹_›⟩
    ·cases h
   ·rintro ⟨rfl,h⟩
    rw [if_pos h]
theorem qGz (W:World):Inv (ghW W) emp W :=
 ⟨rfl,rfl,λ b o u h=>qzu.1 h,λ i cs h=>(by cases h),λ i j h=>absurd h (Nat.not_lt_zero _),λ i h=>absurd h (Nat.not_lt_zero _),λ r R h=>(by cases h),λ r r' h=>absurd h (Nat.not_lt_zero _)⟩
theorem cells_len {W:World} {zO:Nat} {a:Addr}:∀ {n:Nat} {cs:List Value},W.cells? zO a n=some cs->cs.length=n/\∀ j u,cs[j]? = some u->W.cell? (a.add j)=some u:=by
 intro n cs h
 unfold World.cells? at h
 split at h
 case isFalse=>cases h
 have h1:=mapM_some_length h
 rw [List.length_range] at h1
 refine ⟨h1,λ j u hj=>?_⟩
 have hlt:=getElem?_lt hj
 have:=mapM_some_get h j j (by rw [List.getElem?_range (by omega)])
 rw [this];exact hj
section
variable {H:Type} {enc:TypeId × Value->H} {P:Program} {W:World}
def qzT (enc:TypeId × Value->H) (P:Program) (W:World) (fuel:Nat):Prop:=∀ (n:Nat) (τ : Ty) (t:TypeId) (cs:List Value) (x:DataW H × List MemPlace),tyM P n τ t=true->DataW.trod enc P W 0 (λ _=>true) true fuel t cs=some x->(∀ k∈x.1.weights P t,k<=reachBytes) ->
 ∃ v:Val τ,RepL (ghW W) (qh τ v) cs/\(∀ u∈cs,u.oneCell'=true)/\qiO τ v
theorem qiZ {e:TypeId}:∀ {ds:List (DataW H)} {d:DataW H},d∈ds->∀ n∈d.weights P e,n∈DataW.weightsAll P e ds
 | d0::ds,d,h,n,hn=>by
   simp only [DataW.weightsAll,List.mem_append]
   rcases List.mem_cons.1 h with rfl | h
   ·exact Or.inl hn
   ·exact Or.inr (qiZ h n hn)
theorem qwy {n k:Nat} (h:n*k<=reachBytes) (hk:0<k):n<2 ^ 62:=by
 have:n*1<=n*k:=Nat.mul_le_mul_left _ hk
 have h2:reachBytes=140737488351232:=rfl
 omega
theorem qBC {α β : Type} {n:Nat} {Q:Nat -> α -> β -> Prop} (h0:0<n) (h:∀ i,i<n->∃ a b,Q i a b):∃ (f:Nat -> α) (g:Nat -> β),∀ i,i<n->Q i (f i) (g i):=by
 obtain ⟨a0,b0,_⟩:=h 0 h0
 refine ⟨λ i=>if hi:i<n then (h i hi).choose else a0,λ i=>if hi:i<n then (h i hi).choose_spec.choose else b0,λ i hi=>?_⟩
 simp only [dif_pos hi]
 exact (h i hi).choose_spec.choose_spec
theorem qwt {Γ : Gh} {x:AV} {u:Value} (h:Rep Γ x u):RepL Γ [x] [u]:=RepL.cons h RepL.nil
theorem qtC {fuel:Nat} (hA:∀ f,f<fuel->qzT enc P W f) {a:Ty} {t e:TypeId} {m:Nat} {cs:List Value} {x:DataW H × List MemPlace} (ht:P.underlying t=some (.slice e)) (hc:P.cellsOf e=a.size) (hb:0<P.bytesOf e) (hm:tyM P m a e=true)
  (h:DataW.trod enc P W 0 (λ _=>true) true fuel t cs=some x) (hw:∀ k∈x.1.weights P t,k<=reachBytes) :
  ∃ (l:List (Val a)) (u:Value),cs=[u]/\u.oneCell'=true/\Rep (ghW W) (.sl a.size (l.map (qh a)) 1) u/\l.length<2 ^ 62/\∀ v∈l,qiO a v:=by
 rcases DataW.trod_slice ht h with ⟨rfl,rfl⟩ | ⟨ad,len,cap,elems,rest,n,rfl,rfl,rfl,_,hl,_,hlen,hel,_,_⟩
 ·refine ⟨[],_,rfl,rfl,?_,by simp,(by intro v hv;cases hv)⟩
  exact .sl _ _ _ none 0 0 0 0 (λ _ _=>undef) rfl (λ _=>Nat.le_refl _) (λ h=>by omega) (by intro e he;cases he) (by intro e he;cases he) (Ty.size_pos a) (.inl rfl) (by intro i e j x hi;cases hi) (by intro i e j x hi;cases hi)
 ·have hwt:(elems.length+rest.length)*P.bytesOf e<=reachBytes/\∀ k∈DataW.weightsAll P e (elems.map (·.1)),k<=reachBytes:=by
    simp only [DataW.weights,ht,List.length_map,List.mem_cons,List.mem_append] at hw
    exact ⟨hw _ (.inl rfl),λ k hk=>hw k (.inr (.inl hk))⟩
  have each:∀ i,i<len->∃ (v:Val a) (us:List Value),RepL (ghW W) (qh a v) us/\(∀ u∈us,u.oneCell'=true)/\qiO a v/\(∀ j u,us[j]? = some u->W.cell? ((ad.add (i*a.size)).add j)=some u):=by
   intro i hi
   have h1:=hel i hi
   rw [List.getElem?_eq_getElem (by omega),hc,Option.bind_eq_some_iff] at h1
   obtain ⟨us,h2,h3⟩:=h1
   obtain ⟨q1,q2⟩:=cells_len h2
   obtain ⟨v,g1,g2,g3⟩:=hA n (Nat.lt_succ_self _) m a e us _ hm h3 λ k hk=>hwt.2 k (qiZ (List.mem_map_of_mem (List.getElem_mem _)) k hk)
   exact ⟨v,us,g1,g2,g3,q2⟩
  by_cases h0:len=0
  ·subst h0
   refine ⟨[],_,rfl,rfl,?_,by simp,(by intro v hv;cases hv)⟩
   exact .sl _ _ _ _ 0 cap 0 0 (λ _ _=>undef) rfl (λ _=>hl) (λ h=>by omega) (by intro e he;cases he) (by intro e he;cases he) (Ty.size_pos a) (.inl rfl) (by intro i e j x hi;cases hi) (by intro i e j x hi;cases hi)
  obtain ⟨b,o,rfl⟩:∃ b o,ad=⟨b,o,none⟩:=by
   obtain ⟨v,us,g1,_,_,g4⟩:=each 0 (by omega)
   have hl1:us.length=a.size:=by rw [g1.len];exact jG a v
   have hp:=Ty.size_pos a
   have h1:=g4 0 _ (List.getElem?_eq_getElem (by omega))
   rw [Nat.zero_mul] at h1
   have e1:(ad.add 0).add 0=ad:=rfl
   rw [e1] at h1
   obtain ⟨b,o,sp⟩:=ad
   unfold World.cell? at h1
   split at h1
   ·split at h1
    ·cases h1
    ·rename_i hs
     cases sp with
     | none=>exact ⟨b,o,rfl⟩
     | some s=>simp at hs
   ·cases h1
  obtain ⟨vv,uu,hvu⟩:=qBC (by omega:0<len) each
  have w1 := λ i hi=>(hvu i hi).1
  have w2 := λ i hi=>(hvu i hi).2.1
  have w3 := λ i hi=>(hvu i hi).2.2.1
  have w4 := λ i hi=>(hvu i hi).2.2.2
  have hget:∀ i,i<len->((List.range len).map vv)[i]? = some (vv i) := λ i hi=>by rw [List.getElem?_map,List.getElem?_range hi];rfl
  have hcell:∀ (i:Nat) (e':List AV) (j:Nat) (y:AV),(((List.range len).map vv).map (qh a))[i]? = some e'->e'[j]? = some y->i<len/\∃ u,(uu i)[j]? = some u/\Rep (ghW W) y u/\(ghW W).mem b (o+i*a.size+j)=some u:=by
   intro i e' j y h1 h2
   have hi:i<len:=by have:=getElem?_lt h1;simpa using this
   rw [List.getElem?_map,hget i hi] at h1
   cases h1
   obtain ⟨u,q1,q2⟩:=(w1 i hi).get h2
   refine ⟨hi,u,q1,q2,qzu.2 ⟨?_,w2 i hi u (List.mem_of_getElem? q1)⟩⟩
   have:=w4 i hi j u q1
   rw [quc,quc] at this
   exact this
  refine ⟨(List.range len).map vv,_,rfl,rfl,?_,?_,?_⟩
  ·refine .sl _ _ _ _ len cap b o (λ i j=>(uu i).getD j undef) (by simp) (λ _=>hl) (λ h=>by omega) ?_ ?_ (Ty.size_pos a) (.inr rfl) ?_ ?_
   ·intro e' he
    obtain ⟨v,_,rfl⟩:=List.mem_map.1 he
    exact jG a v
   ·intro e' he
    obtain ⟨v,_,rfl⟩:=List.mem_map.1 he
    exact zN a v
   ·intro i e' j y h1 h2
    obtain ⟨_,u,q1,q2,q3⟩:=hcell i e' j y h1 h2
    rw [List.getD_eq_getElem?_getD,q1];exact q3
   ·intro i e' j y h1 h2
    obtain ⟨_,u,q1,q2,q3⟩:=hcell i e' j y h1 h2
    rw [List.getD_eq_getElem?_getD,q1];exact q2
  ·rw [List.length_map,List.length_range,<- hlen]
   refine qwy (k:=P.bytesOf e) (Nat.le_trans (Nat.mul_le_mul_right _ ?_) hwt.1) hb
   omega
  ·intro v hv
   obtain ⟨i,hi,rfl⟩:=List.mem_map.1 hv
   exact w3 i (List.mem_range.1 hi)
theorem qqG {fuel:Nat} (hA:qzT enc P W fuel):∀ (n:Nat) (τ : Ty) (off:Nat) (fs:List Field) (cs:List Value) (xs:List (DataW H × List MemPlace)),fsM P n τ off fs=true->xs.length=fs.length ->
  (∀ (i:Nat) (f:Field),fs[i]? = some f->DataW.trod enc P W 0 (λ _=>true) true fuel f.type ((cs.drop f.offset).take (P.cellsOf f.type))=xs[i]?)->(∀ k∈DataW.weightsEach P (fs.map (·.type)) (xs.map (·.1)),k<=reachBytes)->off + τ.size<=cs.length ->
  ∃ v:Val τ,RepL (ghW W) (qh τ v) ((cs.drop off).take τ.size)/\(∀ u∈(cs.drop off).take τ.size,u.oneCell'=true)/\qiO τ v:=by
 intro n
 induction n with
 | zero=>intro τ off fs cs xs h;simp [fsM] at h
 | succ n ih =>
   intro τ off fs cs xs h hl hx hw hlen
   have one:∀ f x,fs=[f]->xs=[x]->(decide (f.offset=off)&&decide (P.cellsOf f.type = τ.size)&&tyM P n τ f.type)=true->∃ v:Val τ,RepL (ghW W) (qh τ v) ((cs.drop off).take τ.size)/\(∀ u∈(cs.drop off).take τ.size,u.oneCell'=true)/\qiO τ v:=by
    intro f x hf hxs h
    simp only [Bool.and_eq_true,decide_eq_true_eq] at h
    obtain ⟨⟨h1,h2⟩,h3⟩:=h
    subst hf;subst hxs
    have h4:=hx 0 f rfl
    rw [h1,h2] at h4
    exact hA n τ f.type _ x h3 h4 λ k hk=>hw k (by simp only [List.map_cons,List.map_nil,DataW.weightsEach,List.append_nil];exact hk)
   cases fs with
   | nil=>cases τ <;> simp [fsM] at h
   | cons f r =>
     cases xs with
     | nil=>simp at hl
     | cons x xs =>
       cases r with
       | nil =>
         have hxn:xs=[]:=List.eq_nil_of_length_eq_zero (by simpa using hl)
         subst hxn
         refine one f x rfl rfl ?_
         cases τ <;> exact h
       | cons g r =>
         cases τ with
         | pair a b =>
           simp only [fsM,Bool.and_eq_true,decide_eq_true_eq] at h
           obtain ⟨⟨⟨h1,h2⟩,h3⟩,h4⟩:=h
           have h5:=hx 0 f rfl
           rw [h1,h2] at h5
           have hsz:off+(a.size+b.size)<=cs.length:=hlen
           simp only [List.map_cons,DataW.weightsEach,List.mem_append] at hw
           obtain ⟨v,v1,v2,v3⟩:=hA n a f.type _ x h3 h5 λ k hk=>hw k (.inl hk)
           obtain ⟨v',v1',v2',v3'⟩:=ih b (off+a.size) (g::r) cs xs h4 (by simpa using hl) (λ i f' hf'=>hx (i+1) f' hf') (λ k hk=>hw k (.inr hk)) (by omega)
           have e:(cs.drop off).take (a.size+b.size)=(cs.drop off).take a.size++(cs.drop (off+a.size)).take b.size:=by
            rw [List.take_add,List.drop_drop]
           refine ⟨(v,v'),?_,?_,v3,v3'⟩
           ·show RepL _ (qh a v++qh b v') ((cs.drop off).take (a.size+b.size))
            rw [e];exact v1.append v1'
           ·show ∀ u∈(cs.drop off).take (a.size+b.size),_
            rw [e]
            intro u hu
            exact (List.mem_append.1 hu).elim (v2 u) (v2' u)
         | _=>simp [fsM] at h
theorem qGB {Γ : Gh} (k:IntKind) (n:Int):RepL Γ (qh (.int k) n) [.int k n]:=qwt (.v _ rfl)
theorem qEf:∀ fuel,qzT enc P W fuel:=by
 intro fuel
 induction fuel using Nat.strongRecOn with
 | ind fuel ihA =>
   have ints:∀ {k:IntKind} {t:TypeId} {cs:List Value} {x:DataW H × List MemPlace} {f:Nat},P.underlying t=some (.int k)->DataW.trod enc P W 0 (λ _=>true) true f t cs=some x->∃ n:Int,cs=[.int k n]/\k.min<=n/\n<=k.max:=by
    intro k t cs x f ht h
    obtain ⟨n,rfl,_,hwf⟩:=DataW.trod_int ht h
    simp only [Lit.wf,Bool.and_eq_true,decide_eq_true_eq] at hwf
    exact ⟨n,rfl,hwf⟩
   have strs:∀ {t:TypeId} {cs:List Value} {x:DataW H × List MemPlace} {f:Nat},P.underlying t=some .string->DataW.trod enc P W 0 (λ _=>true) true f t cs=some x->(∀ k∈x.1.weights P t,k<=reachBytes)->∃ s:ByteArray,cs=[.string s]/\s.data.toList.length<2 ^ 62:=by
    intro t cs x f ht h hw
    obtain ⟨s,rfl,rfl,_⟩:=DataW.trod_string ht h
    refine ⟨s,rfl,?_⟩
    have:=hw s.data.toList.length (by simp [DataW.weights])
    exact qwy (k:=1) (by omega) (by decide)
   intro n τ t cs x hm h hw
   cases n with
   | zero=>cases τ <;> simp [tyM] at hm
   | succ n =>
   cases τ with
   | int k =>
     simp only [tyM] at hm
     split at hm
     ·rename_i k' ht
      simp only [Bool.and_eq_true,decide_eq_true_eq] at hm
      obtain ⟨rfl,_⟩:=hm
      obtain ⟨i,rfl,h1,h2⟩:=ints ht h
      exact ⟨i,qGB _ _,by intro u hu;rw [List.mem_singleton.1 hu];rfl,h1,h2⟩
     ·cases hm
   | bool =>
     simp only [tyM] at hm
     split at hm
     ·rename_i ht
      obtain ⟨b,rfl,_⟩:=DataW.trod_bool ht h
      exact ⟨b,qwt (.v _ rfl),by intro u hu;rw [List.mem_singleton.1 hu];rfl,trivial⟩
     ·cases hm
   | str =>
     simp only [tyM] at hm
     split at hm
     ·rename_i ht
      obtain ⟨s,rfl,h1⟩:=strs ht h hw
      refine ⟨s.data.toList,?_,by intro u hu;rw [List.mem_singleton.1 hu];rfl,h1⟩
      exact qwt (.v _ rfl)
     ·cases hm
   | list a =>
     simp only [tyM] at hm
     split at hm
     ·rename_i e ht
      simp only [Bool.and_eq_true,decide_eq_true_eq] at hm
      obtain ⟨⟨⟨_,hc⟩,hb⟩,hm⟩:=hm
      obtain ⟨l,u,rfl,h1,h2,h3,h4⟩:=qtC (λ f hf=>ihA f hf) ht hc hb hm h hw
      exact ⟨l,qwt h2,by intro u' hu;rw [List.mem_singleton.1 hu];exact h1,h3,h4⟩
     ·cases hm
   | pair a b =>
     simp only [tyM] at hm
     split at hm
     ·rename_i fs ht
      simp only [Bool.and_eq_true,decide_eq_true_eq] at hm
      obtain ⟨hc,hm⟩:=hm
      obtain ⟨xs,f,rfl,rfl,h1,h2,h3⟩:=DataW.trod_struct ht h
      have hsz:(Ty.pair a b).size=a.size+b.size:=rfl
      obtain ⟨v,v1,v2,v3⟩:=qqG (ihA f (Nat.lt_succ_self _)) n (.pair a b) 0 fs.toList cs xs hm (by simpa using h2) (λ i g hg=>h3 i g (by simpa using hg)) (by simpa [DataW.weights,ht] using hw) (by rw [h1,hc,hsz];omega)
      rw [List.drop_zero,List.take_of_length_le (by rw [h1,hc,hsz];exact Nat.le_refl _)] at v1 v2
      exact ⟨v,v1,v2,v3⟩
     ·cases hm
   | one a =>
     simp only [tyM] at hm
     split at hm
     ·rename_i fs ht
      simp only [Bool.and_eq_true,decide_eq_true_eq] at hm
      obtain ⟨hc,hm⟩:=hm
      obtain ⟨xs,f,rfl,rfl,h1,h2,h3⟩:=DataW.trod_struct ht h
      obtain ⟨v,v1,v2,v3⟩:=qqG (ihA f (Nat.lt_succ_self _)) n a 0 fs.toList cs xs hm (by simpa using h2) (λ i g hg=>h3 i g (by simpa using hg)) (by simpa [DataW.weights,ht] using hw) (by rw [h1,hc];omega)
      rw [List.drop_zero,List.take_of_length_le (by rw [h1,hc];exact Nat.le_refl _)] at v1 v2
      exact ⟨v,v1,v2,v3⟩
     ·cases hm
   | term =>
     have hm0:=hm
     simp only [tyM] at hm
     cases n with
     | zero=>simp [qAZ] at hm
     | succ n =>
     simp only [qAZ] at hm
     split at hm
     case h_2=>cases hm
     rename_i fs ht
     split at hm
     case h_2=>cases hm
     rename_i f0 f1 f2 f3 hfs
     simp only [Bool.and_eq_true,decide_eq_true_eq] at hm
     obtain ⟨⟨⟨⟨⟨⟨⟨⟨⟨hc,o0⟩,o1⟩,o2⟩,o3⟩,hc3⟩,m0⟩,m1⟩,m2⟩,m3⟩:=hm
     split at m3
     case h_2=>cases m3
     rename_i e ht3
     simp only [Bool.and_eq_true,decide_eq_true_eq] at m3
     obtain ⟨rfl,hb⟩:=m3
     obtain ⟨xs,f,rfl,rfl,h1,h2,h3⟩:=DataW.trod_struct ht h
     have hsz:fs.size=4:=by rw [<- Array.length_toList,hfs];rfl
     rw [hsz] at h2
     rw [hc] at h1
     obtain ⟨c0,c1,c2,c3,rfl⟩:∃ c0 c1 c2 c3,cs=[c0,c1,c2,c3]:=by
      match cs,h1 with
      | [a,b,c,d],_=>exact ⟨a,b,c,d,rfl⟩
     obtain ⟨x0,x1,x2,x3,rfl⟩:∃ x0 x1 x2 x3,xs=[x0,x1,x2,x3]:=by
      match xs,h2 with
      | [a,b,c,d],_=>exact ⟨a,b,c,d,rfl⟩
     have fg:∀ i g,[f0,f1,f2,f3][i]? = some g->fs[i]? = some g := λ i g hg=>by rw [<- hfs,Array.getElem?_toList] at hg;exact hg
     have s0:=h3 0 f0 (fg 0 _ rfl)
     have s1:=h3 1 f1 (fg 1 _ rfl)
     have s2:=h3 2 f2 (fg 2 _ rfl)
     have s3:=h3 3 f3 (fg 3 _ rfl)
     have cOf:∀ {τ : Ty} {t:TypeId},(∃ k,τ = .int k) \/ τ = .str->tyM P n τ t=true->P.cellsOf t=1:=by
      intro τ t hτ hm
      cases n with
      | zero=>cases τ <;> simp [tyM] at hm
      | succ n =>
        rcases hτ with ⟨k,rfl⟩ | rfl
        ·simp only [tyM] at hm
         split at hm
         ·simp only [Bool.and_eq_true,decide_eq_true_eq] at hm;exact hm.2
         ·cases hm
        ·simp only [tyM] at hm
         split at hm
         ·exact of_decide_eq_true hm
         ·cases hm
     have uInt:∀ {k:IntKind} {t:TypeId},tyM P n (.int k) t=true->P.underlying t=some (.int k):=by
      intro k t hm
      cases n with
      | zero=>simp [tyM] at hm
      | succ n =>
        simp only [tyM] at hm
        split at hm
        ·rename_i k' ht
         simp only [Bool.and_eq_true,decide_eq_true_eq] at hm
         rw [ht,hm.1]
        ·cases hm
     have uStr:∀ {t:TypeId},tyM P n .str t=true->P.underlying t=some .string:=by
      intro t hm
      cases n with
      | zero=>simp [tyM] at hm
      | succ n =>
        simp only [tyM] at hm
        split at hm
        ·assumption
        ·cases hm
     rw [o0,cOf (.inl ⟨_,rfl⟩) m0] at s0
     rw [o1,cOf (.inr rfl) m1] at s1
     rw [o2,cOf (.inl ⟨_,rfl⟩) m2] at s2
     rw [o3,hc3] at s3
     have hwE:∀ k∈DataW.weightsEach P [f0.type,f1.type,f2.type,f3.type] [x0.1,x1.1,x2.1,x3.1],k<=reachBytes:=by
      intro k hk
      refine hw k ?_
      simp only [DataW.weights,ht,hfs]
      exact hk
     simp only [DataW.weightsEach,List.mem_append] at hwE
     obtain ⟨i0,e0,_,_⟩:=ints (uInt m0) (f:=f) (x:=x0) s0
     obtain ⟨i1,e1,b1⟩:=strs (uStr m1) (f:=f) (x:=x1) s1 λ k hk=>hwE k (.inr (.inl hk))
     obtain ⟨i2,e2,_,_⟩:=ints (uInt m2) (f:=f) (x:=x2) s2
     obtain ⟨l,u,e3,b3,r3,l3,v3⟩:=qtC (a := .term) (λ g hg=>ihA g (Nat.lt_succ_of_lt hg)) ht3 hc hb hm0 s3 λ k hk=>hwE k (.inr (.inr (.inr (.inl hk))))
     have g0:c0 = .int .i64 i0:=by simpa using e0
     have g1:c1 = .string i1:=by simpa using e1
     have g2:c2 = .int .i64 i2:=by simpa using e2
     have g3:c3=u:=by simpa using e3
     subst g0;subst g1;subst g2;subst g3
     refine ⟨.mk i0 i1.data.toList i2 l,?_,?_,(qF8 _).2 ⟨l3,b1,v3⟩⟩
     ·show RepL _ (QK _) _
      rw [QK,qj3]
      exact RepL.cons (.v _ rfl) (RepL.cons (.v _ rfl) (RepL.cons (.v _ rfl) (qwt r3)))
     ·intro u hu
      simp only [List.mem_cons,List.not_mem_nil,or_false] at hu
      rcases hu with rfl | rfl | rfl | rfl
      ·rfl
      ·rfl
      ·rfl
      ·exact b3
end
end Go.AmZ
namespace Go.GxZ
open Go.RowKit Go.ChangeShapes Go.WideShapes Go.ChangeAt
open Go.WideMaps Go.WideElems
section
variable {H:Type} {enc:TypeId × Value->H} {P:Program}
theorem qlc (hl:laidOutB P=true) {W W':World} (hb:Below W.heap.size W W'):∀ {ts:List TypeId} {vs:List Value} {ds:List (DataW H)} {ps:List MemPlace},
  (∀ t∈ts,P.readableRec t=true/\t<P.types.size)->DataW.TrodAll enc P W 0 (λ _=>true) true ts vs ds ps->(∀ x∈ps,x.block<W.heap.size) ->
  DataW.TrodAll enc P W' 0 (λ b=>decide (b<W.heap.size)) true ts vs ds ps
 | [],[],[],_,_,h,_=>h
 | t::ts,v::vs,d::ds,_,hr,⟨p,q,h1,h2,he⟩,hlt=>by
   subst he
   refine ⟨p,q,?_,?_,rfl⟩
   ·exact Below.trod hl (hr t (List.mem_cons_self ..)).1 (hr t (List.mem_cons_self ..)).2 h1 hb λ x hx=>hlt x (List.mem_append_left _ hx)
   ·exact qlc hl hb (λ t ht=>hr t (List.mem_cons_of_mem _ ht)) h2 λ x hx=>hlt x (List.mem_append_right _ hx)
 | [],[],_::_,_,_,h,_=>h.elim
 | [],_::_,_,_,_,h,_=>h.elim
 | _::_,[],_,_,_,h,_=>h.elim
 | _::_,_::_,[],_,_,h,_=>h.elim
theorem qEw {f:Func} {s:ChangeSpec} {apart fresh handsOn:Bool} {W W':World} {args:Array Value} {ds gs:List (DataW H)} {before:List MemPlace} {ts:List TypeId} {T:TypeId}
  (hl:laidOutB P=true) (hts:f.params.toList=ts) (hr:ts.all (λ t=>P.readableRec t&&decide (t<P.types.size))=true) (hv:s.vars=[])
  (hrt:f.resultTypes = #[T]) (hT:P.underlying T=some .bool)
  (hW:DataW.Whole enc P f.params.toList s.vars apart W args.toList ds gs before)
  (hres:(s.fn H (ds++gs)).results=[.lit (.bool true)]) (hargs:(s.fn H (ds++gs)).args=ds) (hvs:(s.fn H (ds++gs)).vars=[])
  (hb:Below W.heap.size W W'):s.post enc P f apart fresh handsOn false W args (.bool true) W':=by
 have hW':=hW
 have hlt := λ x hx=>hW'.lt x hx
 obtain ⟨p,q,hA,hV,rfl,hfz,hnd⟩:=hW
 rw [hv] at hV
 have hgs:gs=[]/\q=[]:=trodVars_none hV
 obtain ⟨rfl,rfl⟩:=hgs
 rw [List.append_nil] at *
 refine ⟨ds,[],p,[],p,[],?_,?_,?_,?_,?_,λ h=>by cases h⟩
 ·exact hW'
 ·rw [hrt,List.append_nil,hres]
  exact trodAll_mk1 (shut_bool hT _)
 ·rw [List.append_nil,hargs]
  refine qlc hl hb (ts:=f.params.toList) ?_ hA hlt
  intro t ht
  rw [hts] at ht
  have:=List.all_eq_true.1 hr t ht
  simpa using this
 ·rw [List.append_nil,hvs,hv]
  rfl
 ·exact hb.frame _
end
end Go.GxZ
namespace Go.Proofs.YtbpnmbmdbblehaaGreat
theorem Tryz.own:ownKnob Tryz.prog.godebug=none:=by kernel_rfl
theorem Tryz.laidOut:laidOutB Tryz.prog=true:=by kernel_rfl
end Go.Proofs.YtbpnmbmdbblehaaGreat
namespace Go.AmZ
open Go Go.GxZ Go.RowKit
theorem qtt:∀ (τ : Ty) (v:Val τ),jM τ (yi τ v)=some v:=by
 intro τ v
 have h:=jF τ v
 cases τ <;> exact h
def qvM:List ATy->Bool
 | []=>true
 | .val _::r=>qvM r
 | .fn::_=>false
theorem qmo:∀ (ts:List ATy) (a:qab ts),qvM ts=true->qbw ts (jp ts a [])=some a/\qc2 (jp ts a [])=[]
 | [],_,_=>⟨rfl,rfl⟩
 | .val τ :: r,a,h=>by
   obtain ⟨h1,h2⟩:=qmo r a.2 h
   constructor
   ·show qiT (jM τ) (qbw r) (yi τ a.1::jp r a.2 [])=_
    simp only [qiT,qtt,h1]
   ·show qc2 (yi τ a.1::jp r a.2 [])=[]
    have:=(qaM (qtt τ a.1)).2
    cases hx:yi τ a.1<;>first | exact h2 | exact absurd hx (this _ _)
 | .fn::_,_,h=>by cases h
theorem law_calls {P:Program} {f:FuncId} {c:TC} (hp:qT P f (Qs (yz c f))) {ts:List ATy} {fn:qab ts->Option (qb5 [.bool])} (hg:c.pf f []=some ⟨ts,[.bool],fn⟩) (ht:qvM ts=true) {a:qab ts} (hv:fn a=some true)
  {W:World} {vals:List Value} (hr:RepL (ghW W) (jp ts a []) vals):Calls P f vals.toArray W λ e w'=>e = .returned (.bool true)/\Below W.heap.size W w':=by
 obtain ⟨h1,h2⟩:=qmo ts a ht
 have hs:yz c f (jp ts a [])=some (.v (.bool true)):=by
  unfold yz
  rw [h2,hg]
  simp only
  rw [h1]
  simp only
  rw [hv]
  rfl
 have hpp:Qs (yz c f) emp (jp ts a [])=some (.v (.bool true),none):=by
  show (match yz c f (jp ts a []) with | some v=>some (v,none) | none=>none)=_
  rw [hs]
 have:=hp.2 (ghW W) emp W (jp ts a []) vals _ (qGz W) hr hpp
 refine Calls.mono this ?_
 rintro e w' ⟨v,Γ',rfl,hx,_,hrv,_⟩
 have hv:=qS hrv
 subst hv
 refine ⟨rfl,hx.os,hx.tape,hx.output,hx.size,λ b hb=>hx.block b hb ?_⟩
 rintro (⟨i,hi,_⟩ | ⟨r,hr,_⟩)
 ·exact absurd hi (Nat.not_lt_zero _)
 ·exact absurd hr (Nat.not_lt_zero _)
theorem qxD {Γ : Gh} {τ : Ty} {x:Val τ} {v:Value} (h:RepL Γ (qh τ x) v.cells.toList) (h1:∀ u∈v.cells.toList,u.oneCell'=true) (hs : τ.agg=true -> τ.size≠1) (hna : τ.agg=false->∀ cs,v ≠ .agg cs):Rep Γ (yi τ x) v:=by
 have hlen:=h.len
 rw [jG] at hlen
 have agg:yi τ x = .agg (qh τ x) -> τ.agg=true->Rep Γ (yi τ x) v:=by
  intro he ha
  rw [he]
  have hne:=hs ha
  cases v with
  | agg cs=>exact .agg _ _ h.len h1 h.rep
  | _=>exact absurd (show τ.size=1 by rw [<- hlen];rfl) hne
 have one:∀ {y:AV},qh τ x=[y]->yi τ x=y -> τ.agg=false->Rep Γ (yi τ x) v:=by
  intro y he hy ha
  have hc:v.cells = #[v]:=by
   cases v with
   | agg cs=>exact absurd rfl (hna ha cs)
   | _=>rfl
  rw [he,hc] at h
  rw [hy]
  exact h.rep 0 y v rfl rfl
 cases τ with
 | term=>exact agg rfl rfl
 | pair a b=>exact agg rfl rfl
 | one a=>exact agg rfl rfl
 | _=>exact one rfl rfl rfl
open Go.ChangeShapes Go.WideShapes Go.ChangeAt Go.WideMaps Go.WideElems
theorem qGq {P:Program} {n:Nat} {τ : Ty} {t:TypeId} {W:World} {zO:Nat} {v:Value} (hm:tyM P n τ t=true) (hv:Value.okWide P W .any zO t v) : τ.agg=false->∀ cs,v ≠ .agg cs:=by
 intro ha cs
 cases n with
 | zero=>cases τ <;> simp [tyM] at hm
 | succ n =>
 cases τ with
 | int k =>
   simp only [tyM] at hm
   split at hm
   ·rename_i ht;obtain ⟨_,rfl⟩:=okWide_int ht hv;intro h;cases h
   ·cases hm
 | bool =>
   simp only [tyM] at hm
   split at hm
   ·rename_i ht;obtain ⟨_,rfl⟩:=okWide_bool ht hv;intro h;cases h
   ·cases hm
 | str =>
   simp only [tyM] at hm
   split at hm
   ·rename_i ht;obtain ⟨_,rfl⟩:=okWide_string ht hv;intro h;cases h
   ·cases hm
 | list a =>
   simp only [tyM] at hm
   split at hm
   ·rename_i e ht;obtain ⟨_,_,_,rfl⟩:=okWide_slice ht hv;intro h;cases h
   ·cases hm
 | _=>cases ha
theorem arg_val {H:Type} {enc:TypeId × Value->H} {P:Program} {W:World} {n:Nat} {τ : Ty} {t:TypeId} {v:Value} {d:DataW H} {ps:List MemPlace} {zO:Nat} (hm:tyM P n τ t=true) (hs : τ.agg=true -> τ.size≠1) (hv:Value.okWide P W .any zO t v)
  (h:DataW.Trod enc P W 0 (λ _=>true) true t v d ps) (hw:∀ k∈d.weights P t,k<=reachBytes):∃ x:Val τ,Rep (ghW W) (yi τ x) v/\qiO τ x:=by
 obtain ⟨fuel,hf⟩:=h
 obtain ⟨x,h1,h2,h3⟩:=qEf fuel n τ t v.cells.toList (d,ps) hm hf hw
 exact ⟨x,qxD h1 h2 hs (qGq hm hv),h3⟩
end Go.AmZ
