/- Part 2 of what the proofs stand on: plain functions of the program, and that they are its functions. -/
import Derived.Test.YtbpnmbmdbblehaaGreatM1
set_option linter.unusedVariables false
set_option linter.unusedSimpArgs false
namespace Go.AmZ
open Go Go.RowKit
theorem quf:∀ (r:List Oper) (bs:List Nat),∃ t,Qq r bs=bs++t
 | [],bs=>⟨[],by simp [Qq]⟩
 | o::r,bs=>by
   obtain ⟨t,ht⟩:=quf r (bs++[qiX bs o])
   exact ⟨qiX bs o::t,by rw [Qq,ht];simp⟩
theorem qui:∀ (r:List Oper) (bs:List Nat) (k:Nat) (o:Oper),r[k]? = some o->(Qq r bs).getD (bs.length+k) 0=qiX ((Qq r bs).take (bs.length+k)) o
 | [],bs,k,o,h=>by simp at h
 | q::r,bs,0,o,h=>by
   simp at h;subst h
   obtain ⟨t,ht⟩:=quf r (bs++[qiX bs q])
   rw [Qq,ht]
   simp [List.getD_eq_getElem?_getD]
 | q::r,bs,k+1,o,h=>by
   rw [Qq]
   have:=qui r (bs++[qiX bs q]) k o (by simpa using h)
   rw [List.length_append,List.length_singleton,Nat.add_assoc,Nat.add_comm 1 k] at this
   exact this
theorem qv9 (bs:List Nat) (j:Nat):∀ (xs:List Nat) (m:Nat),(xs.foldl (λ m e=>m ||| (2 ^ e ||| bs.getD e 0)) m).testBit j=true->m.testBit j=true\/∃ e∈xs,e=j\/(bs.getD e 0).testBit j=true
 | [],m,h => .inl h
 | e::xs,m,h=>by
   rw [List.foldl_cons] at h
   rcases qv9 bs j xs _ h with h | ⟨e',he,h⟩
   ·rw [Nat.testBit_or,Nat.testBit_or,Nat.testBit_two_pow] at h
    simp only [Bool.or_eq_true,decide_eq_true_eq] at h
    rcases h with h | h | h
    ·exact .inl h
    ·exact .inr ⟨e,List.mem_cons_self ..,.inl h⟩
    ·exact .inr ⟨e,List.mem_cons_self ..,.inr h⟩
   ·exact .inr ⟨e',List.mem_cons_of_mem _ he,h⟩
theorem qDZ {ops:List Oper} {i j:Nat} {o:Oper} (ho:ops[i]? = some o) (h:((Qq ops []).getD i 0).testBit j=true):∃ e∈yO o,e=j\/(e<i/\((Qq ops []).getD e 0).testBit j=true):=by
 have hg:=qui ops [] i o ho
 simp only [List.length_nil,Nat.zero_add] at hg
 rw [hg] at h
 rcases qv9 _ _ _ _ h with h | ⟨e,he,h⟩
 ·simp at h
 ·refine ⟨e,he,h.imp_right λ h=>?_⟩
  rw [List.getD_eq_getElem?_getD,List.getElem?_take] at h
  split at h
  ·rename_i hlt
   exact ⟨hlt,by rw [List.getD_eq_getElem?_getD];exact h⟩
  ·simp at h
section
variable {P:Program} {C:Cfg} {Γ : Gh} {σ : St} {w:World} {ops:Array Oper} {ex:Qd} {l:List (AV × Option St)} {s0:S} {L:Nat->Bool}
def qbA (ops:Array Oper) (L:Nat->Bool):Prop:=∀ i o,ops[i]? = some o->L i=true->∀ e∈yO o,L e=true
theorem qkL (hd:qbA ops L) {j:Nat}:∀ (i:Nat) (o:Oper),ops[i]? = some o->(∀ e∈yO o,L e=true)->((Qq ops.toList []).getD i 0).testBit j=true->L j=true:=by
 intro i
 induction i using Nat.strongRecOn with
 | _ i ih =>
   intro o ho hp hb
   obtain ⟨e,he,h⟩:=qDZ (by simpa using ho) hb
   rcases h with rfl | ⟨hlt,hb'⟩
   ·exact hp _ he
   ·have hsz:e<ops.size:=Nat.lt_trans hlt (Array.getElem?_eq_some_iff.1 ho).1
    exact ih e hlt ops[e] (Array.getElem?_eq_getElem hsz) (hd e _ (Array.getElem?_eq_getElem hsz) (hp e he)) hb'
theorem qfm {raw:Nat->Bool} {tm:List AV} (h:J1 raw tm ops=true):(∀ (j:Nat) (o:Oper),ops[j]? = some o->∀ e∈yO o,e<j) /\
  ∀ (i j:Nat) (o q:Oper),ops[j]? = some o->ops[i]? = some q->i≠j->qfL raw tm ops j o i q=true->((Qq ops.toList []).getD (max i j) 0).testBit (min i j)=true:=by
 have mem:∀ (i:Nat) (o:Oper),ops[i]? = some o->(o,i)∈ops.toList.zipIdx := λ i o ho=>by
  rw [List.mem_zipIdx_iff_getElem?];simpa using ho
 simp only [J1,List.all_eq_true,Bool.and_eq_true,decide_eq_true_eq,Bool.or_eq_true,Bool.not_eq_true'] at h
 refine ⟨λ j o ho=>(h (o,j) (mem j o ho)).1,λ i j o q ho hq hne hb=>?_⟩
 rcases (h (o,j) (mem j o ho)).2 (q,i) (mem i q hq) with (h' | h') | h'
 ·exact absurd h' hne
 ·rw [hb] at h';cases h'
 ·exact h'
theorem qzK (hd:qbA ops L) {i j:Nat} {o q:Oper} (ho:ops[j]? = some o) (hq:ops[i]? = some q) (hne:i≠j) (hbit:((Qq ops.toList []).getD (max i j) 0).testBit (min i j)=true) (hL:L j=false) (hp:∀ e∈yO o,L e=true):(i<j->L i=true)/\(j<i->L i=false):=by
 constructor
 ·intro hlt
  rw [Nat.max_eq_right (Nat.le_of_lt hlt),Nat.min_eq_left (Nat.le_of_lt hlt)] at hbit
  exact qkL hd j o ho hp hbit
 ·intro hlt
  rw [Nat.max_eq_left (Nat.le_of_lt hlt),Nat.min_eq_right (Nat.le_of_lt hlt)] at hbit
  cases hLi:L i with
  | false=>rfl
  | true =>
    have:=qkL hd i q hq (hd i q hq hLi) hbit
    rw [hL] at this;cases this
theorem ord {raw:Nat->Bool} {tm:List AV} (hk:J1 raw tm ops=true) (hd:qbA ops L) {i j:Nat} {o q:Oper} (ho:ops[j]? = some o) (hq:ops[i]? = some q) (hne:i≠j) (hb:qfL raw tm ops j o i q=true) (hL:L j=false) (hp:∀ e∈yO o,L e=true):(i<j->L i=true)/\(j<i->L i=false):=by
 exact qzK hd ho hq hne ((qfm hk).2 i j o q ho hq hne hb) hL hp
structure qbp (C:Cfg) (ex:Qd) (ops:Array Oper) (l:List (AV × Option St)) (s0:S):Prop where
 st:∀ (i:Nat) (o:Oper),ops[i]? = some o->∃ y,l[i]? = some y/\JW C ex ops o (F ops.toList l s0 ql i) y/\(y.2.isSome=true->zK C.lo o.op=true)
 sp:∀ (i:Nat) (o:Oper) (y:AV × Option St),ops[i]? = some o->l[i]? = some y->y.2.isSome=true->qaI C ops i (F ops.toList l s0 ql i).tm (F ops.toList l s0 ql i).σ o.op=true
theorem qm1 (h3:∀ (i:Nat) (o:Oper),ops.toList[i]? = some o->∃ y,l[i]? = some y/\JW C ex ops o (F ops.toList l s0 ql i) y/\(y.2.isSome=true->zK C.lo o.op=true))
  (h4:∀ (i:Nat) (o:Oper) (y:AV × Option St),ops.toList[i]? = some o->l[i]? = some y->y.2.isSome=true->qaI C ops (ops.size-(ops.toList.length-i)) (F ops.toList l s0 ql i).tm (F ops.toList l s0 ql i).σ o.op=true):qbp C ex ops l s0 :=
 ⟨λ i o ho=>h3 i o (by simpa using ho),λ i o y ho hy hs=>by
  have:=h4 i o y (by simpa using ho) hy hs
  have hi:i<ops.size:=(Array.getElem?_eq_some_iff.1 ho).1
  rwa [Array.length_toList,show ops.size-(ops.size-i)=i by omega] at this⟩
def qmN (C:Cfg) (ops:Array Oper) (l:List (AV × Option St)):Prop :=
 ∀ (i:Nat) (o:Oper),ops[i]? = some o->∃ y,l[i]? = some y/\(y.2.isSome=true->zK C.lo o.op=true)
theorem qbp.recd (h:qbp C ex ops l s0):qmN C ops l := λ i o ho=>let ⟨y,h1,_,h3⟩:=h.st i o ho;⟨y,h1,h3⟩
theorem qjX (s:S) (o:Oper) (y:AV × Option St) (t:Nat) (h:o.dst≠some t):(z8 s o y).tm.getD t .dead=s.tm.getD t .dead:=by
 unfold z8
 cases hd:o.dst with
 | none=>rfl
 | some d =>
   show (s.tm.set d y.1).getD t .dead=_
   rw [List.getD_eq_getElem?_getD,List.getD_eq_getElem?_getD,List.getElem?_set_ne]
   intro e;rw [hd,e] at h;exact h rfl
theorem qDx (s:S) (o:Oper) (y:AV × Option St):(z8 s o y).tm.length=s.tm.length:=by
 unfold z8
 cases hd:o.dst with
 | none=>rfl
 | some d=>exact List.length_set ..
theorem qns (s:S) (o:Oper) (y:AV × Option St) (t:Nat) (h:o.dst=some t):(z8 s o y).tm.getD t .dead=if t<s.tm.length then y.1 else .dead:=by
 unfold z8
 rw [h]
 show (s.tm.set t y.1).getD t .dead=_
 rw [List.getD_eq_getElem?_getD,List.getElem?_set]
 simp only [if_true]
 split<;>rfl
theorem putS_σ (s:S) (o:Oper) (y:AV × Option St) (h:y.2=none):(z8 s o y).σ = s.σ := by
 unfold z8
 rw [h];rfl
theorem qCB (s:S) (o q:Oper) (y z:AV × Option St) (hd:∀ d,q.dst=some d->o.dst≠some d) (hs:y.2=none\/z.2=none):z8 (z8 s o y) q z=z8 (z8 s q z) o y:=by
 unfold z8
 simp only
 congr 1
 ·cases ho:o.dst with
  | none=>rfl
  | some d =>
    cases hq:q.dst with
    | none=>rfl
    | some e =>
      show (s.tm.set d y.1).set e z.1=(s.tm.set e z.1).set d y.1
      exact List.set_comm _ _ λ h=>hd e hq (by rw [ho,h])
 ·rcases hs with h | h
  ·rw [h];rfl
  ·rw [h];rfl
theorem JV (hT:qmN C ops l) {k:Nat} {q:Oper} (hq:ops[k]? = some q):∃ y,l[k]? = some y/\(y.2.isSome=true->zK C.lo q.op=true)/\∀ L,F ops.toList l s0 L (k+1)=if L k=true then z8 (F ops.toList l s0 L k) q y else F ops.toList l s0 L k:=by
 obtain ⟨y,h1,h3⟩:=hT k q hq
 refine ⟨y,h1,h3,λ L=>?_⟩
 have hq':ops.toList[k]? = some q:=by simpa using hq
 simp only [F,hq',h1]
 cases L k<;>rfl
theorem qvy (L:Nat->Bool):∀ k,(F ops.toList l s0 L k).tm.length=s0.tm.length
 | 0=>rfl
 | k+1=>by
   simp only [F]
   split
   ·rw [qDx];exact qvy L k
   ·exact qvy L k
theorem qvD {L':Nat->Bool}:∀ k,(∀ i,i<k->L i=L' i)->F ops.toList l s0 L k=F ops.toList l s0 L' k
 | 0,_=>rfl
 | k+1,h=>by
   simp only [F]
   rw [qvD k λ i hi=>h i (by omega),h k (by omega)]
theorem y8 {k:Nat} (h:k<ops.size):∃ q,ops[k]? = some q:=⟨ops[k],Array.getElem?_eq_getElem h⟩
theorem qgX {t:Tmp} (h:qbu ops.toList t=[]) {k:Nat} {q:Oper} (hq:ops[k]? = some q):q.dst≠some t:=by
 intro hd
 have hm:(q,k)∈ops.toList.zipIdx:=by rw [List.mem_zipIdx_iff_getElem?];simpa using hq
 have:(q,k)∈qbu ops.toList t:=List.mem_filter.2 ⟨hm,by simp [qnv,hd]⟩
 rw [h] at this
 cases this
theorem qoh {t:Tmp} {o:Oper} {i:Nat} (h:qbu ops.toList t=[(o,i)]):ops[i]? = some o/\o.dst=some t/\∀ (k:Nat) (q:Oper),ops[k]? = some q->k≠i->q.dst≠some t:=by
 have h0:(o,i)∈qbu ops.toList t:=by rw [h];exact List.mem_singleton.2 rfl
 obtain ⟨h1,h2⟩:=List.mem_filter.1 h0
 rw [List.mem_zipIdx_iff_getElem?] at h1
 refine ⟨by simpa using h1,?_,λ k q hq hne hd=>?_⟩
 ·unfold qnv at h2
  cases hd:o.dst with
  | none=>rw [hd] at h2;cases h2
  | some d=>rw [hd] at h2;rw [Nat.eq_of_beq_eq_true h2]
 ·have hm:(q,k)∈ops.toList.zipIdx:=by rw [List.mem_zipIdx_iff_getElem?];simpa using hq
  have:(q,k)∈qbu ops.toList t:=List.mem_filter.2 ⟨hm,by simp [qnv,hd]⟩
  rw [h] at this
  have:=List.mem_singleton.1 this
  cases this
  exact hne rfl
theorem qfB (hT:qmN C ops l) {t:Tmp} {a b:Nat} (h:∀ k q,a<=k->ops[k]? = some q->q.dst≠some t):a<=b->b<=ops.size->(F ops.toList l s0 L b).tm.getD t .dead=(F ops.toList l s0 L a).tm.getD t .dead:=by
 intro hab
 induction b with
 | zero =>
   intro _
   have h0:a=0:=Nat.le_zero.1 hab
   rw [h0]
 | succ b ih =>
   intro hle
   by_cases he:a=b+1
   ·rw [he]
   ·obtain ⟨q,hq⟩:=y8 (ops:=ops) (k:=b) (by omega)
    obtain ⟨y,_,_,hF⟩:=JV hT hq
    rw [hF]
    split
    ·rw [qjX _ _ _ _ (h b q (by omega) hq)];exact ih (by omega) (by omega)
    ·exact ih (by omega) (by omega)
theorem qjO (hT:qbp C ex ops l s0) {k:Nat} {t:Tmp} {b:Nat} (hk:k<=ops.size) (h:yt s0.tm ops k t=some b):(∃ o,(F ops.toList l s0 ql k).tm.getD t .dead = .ptr b o)\/(F ops.toList l s0 ql k).tm.getD t .dead = .tup []\/(F ops.toList l s0 ql k).tm.getD t .dead = .dead:=by
 unfold yt at h
 split at h
 case h_2=>cases h
 rename_i u hu
 split at h<;>cases h
 rename_i off hb
 have key:∀ (n k:Nat) (t:Tmp),k<=ops.size->qip ops n k t=some u->(∃ o,(F ops.toList l s0 ql k).tm.getD t .dead = .ptr b o)\/(F ops.toList l s0 ql k).tm.getD t .dead = .tup []\/(F ops.toList l s0 ql k).tm.getD t .dead = .dead:=by
  intro n
  induction n with
  | zero=>intro k t _ h;cases h
  | succ n ih =>
    intro k t hk hu
    rw [qip] at hu
    split at hu
    ·rename_i hw
     cases hu
     left
     refine ⟨off,?_⟩
     rw [qfB hT.recd (a:=0) (λ k q _ hq=>qgX hw hq) (Nat.zero_le _) hk]
     exact hb
    ·rename_i o i hw
     obtain ⟨ho,hd,hother⟩:=qoh hw
     split at hu
     case h_2=>cases hu
     rename_i u' hop hik
     have hik:=of_decide_eq_true hik
     have hsz:i<ops.size:=(Array.getElem?_eq_some_iff.1 ho).1
     have hv:=ih i u' (by omega) hu
     rw [qfB hT.recd (a:=i+1) (λ k q hle hq=>hother k q hq (by omega)) (by omega) hk]
     obtain ⟨y,h1,h2,_⟩:=hT.st i o ho
     obtain ⟨z,h3,_,hF⟩:=JV hT.recd ho
     rw [h1] at h3;cases h3
     rw [hF,if_pos (show ql i=true from rfl),qns _ _ _ _ hd]
     split
     ·rcases h2 with ⟨_,h2⟩ | ⟨_,h2⟩
      ·unfold qDI at hop
       split at hop<;>cases hop
       ·rename_i e
        rw [e] at h2
        simp only [opA,qb] at h2
        split at h2<;>try cases h2
        split at h2<;>try cases h2
        split at h2<;>try cases h2
        have hav:aev (F ops.toList l s0 ql i).tm (.tmp u')=(F ops.toList l s0 ql i).tm.getD u' .dead:=rfl
        rw [hav] at h2
        rcases hv with ⟨o',hv⟩ | hv | hv<;>rw [hv] at h2<;>cases h2
        exact .inl ⟨_,rfl⟩
       ·rename_i e
        rw [e] at h2
        cases h2
        exact hv
       ·rename_i e
        rw [e] at h2
        cases h2
        exact hv
       ·rename_i e
        rw [e] at h2
        simp only [opA,qb] at h2
        have hav:aev (F ops.toList l s0 ql i).tm (.tmp u')=(F ops.toList l s0 ql i).tm.getD u' .dead:=rfl
        rw [hav] at h2
        rcases hv with ⟨o',hv⟩ | hv | hv<;>rw [hv] at h2<;>cases h2
        exact .inl ⟨_,rfl⟩
      ·rw [h2];exact .inr (.inl rfl)
     ·exact .inr (.inr rfl)
    ·cases hu
 exact key 6 k t hk hu
theorem qEZ (hT:qbp C ex ops l s0) {k i:Nat} {t:Tmp} {b:Nat} (hk:k<=ops.size) (h:yt s0.tm ops i t=some b):yt (F ops.toList l s0 ql k).tm ops i t=some b:=by
 unfold yt at h |-
 split at h
 case h_2=>cases h
 rename_i u hu
 have key:∀ (n i:Nat) (t:Tmp),qip ops n i t=some u->qbu ops.toList u=[]:=by
  intro n
  induction n with
  | zero=>intro i t h;cases h
  | succ n ih =>
    intro i t h
    rw [qip] at h
    split at h
    ·rename_i hw;cases h;exact hw
    ·split at h
     ·exact ih _ _ h
     ·cases h
    ·cases h
 rw [qfB hT.recd (a:=0) (λ k q _ hq=>qgX (key 6 i t hu) hq) (Nat.zero_le _) hk]
 exact h
theorem qC8 (hT:qbp C ex ops l s0) {k:Nat} {t:Tmp} (hk:k<=ops.size) (h:qca s0.tm ops k t=true):qDi ((F ops.toList l s0 ql k).tm.getD t .dead)=true\/(F ops.toList l s0 ql k).tm.getD t .dead = .tup []\/(F ops.toList l s0 ql k).tm.getD t .dead = .dead:=by
 unfold qca at h
 split at h
 case h_2=>cases h
 rename_i u hu
 have key:∀ (n k:Nat) (t:Tmp),k<=ops.size->qip ops n k t=some u->qDi ((F ops.toList l s0 ql k).tm.getD t .dead)=true\/(F ops.toList l s0 ql k).tm.getD t .dead = .tup []\/(F ops.toList l s0 ql k).tm.getD t .dead = .dead:=by
  intro n
  induction n with
  | zero=>intro k t _ h;cases h
  | succ n ih =>
    intro k t hk hu
    rw [qip] at hu
    split at hu
    ·rename_i hw
     cases hu
     left
     rw [qfB hT.recd (a:=0) (λ k q _ hq=>qgX hw hq) (Nat.zero_le _) hk]
     exact h
    ·rename_i o i hw
     obtain ⟨ho,hd,hother⟩:=qoh hw
     split at hu
     case h_2=>cases hu
     rename_i u' hop hik
     have hik:=of_decide_eq_true hik
     have hsz:i<ops.size:=(Array.getElem?_eq_some_iff.1 ho).1
     have hv:=ih i u' (by omega) hu
     rw [qfB hT.recd (a:=i+1) (λ k q hle hq=>hother k q hq (by omega)) (by omega) hk]
     obtain ⟨y,h1,h2,_⟩:=hT.st i o ho
     obtain ⟨z,h3,_,hF⟩:=JV hT.recd ho
     rw [h1] at h3;cases h3
     rw [hF,if_pos (show ql i=true from rfl),qns _ _ _ _ hd]
     split
     ·rcases h2 with ⟨_,h2⟩ | ⟨_,h2⟩
      ·unfold qDI at hop
       split at hop<;>cases hop
       ·rename_i e
        rw [e] at h2
        simp only [opA,qb] at h2
        split at h2<;>try cases h2
        split at h2<;>try cases h2
        split at h2<;>try cases h2
        have hav:aev (F ops.toList l s0 ql i).tm (.tmp u')=(F ops.toList l s0 ql i).tm.getD u' .dead:=rfl
        rw [hav] at h2
        rcases hv with hv | hv | hv
        ·cases hg:(F ops.toList l s0 ql i).tm.getD u' .dead<;>rw [hg] at hv h2<;>first | (cases hv;done) | (cases h2;exact .inl rfl)
        ·rw [hv] at h2;cases h2
        ·rw [hv] at h2;cases h2
       ·rename_i e
        rw [e] at h2
        cases h2
        exact hv
       ·rename_i e
        rw [e] at h2
        cases h2
        exact hv
       ·rename_i e
        rw [e] at h2
        simp only [opA,qb] at h2
        have hav:aev (F ops.toList l s0 ql i).tm (.tmp u')=(F ops.toList l s0 ql i).tm.getD u' .dead:=rfl
        rw [hav] at h2
        rcases hv with hv | hv | hv
        ·cases hg:(F ops.toList l s0 ql i).tm.getD u' .dead<;>rw [hg] at hv h2<;>first | (cases hv;done) | (cases h2;exact .inl rfl)
        ·rw [hv] at h2;cases h2
        ·rw [hv] at h2;cases h2
      ·rw [h2];exact .inr (.inl rfl)
     ·exact .inr (.inr rfl)
    ·cases hu
 exact key 6 k t hk hu
theorem qfZ {raw:Nat->Bool} {o:Oper} {t:TypeId} {a:Operand} (h:o.op = .load t a):zK raw o.op=false:=by rw [h];rfl
theorem qkX {tm:List AV} {j i:Nat} {o q:Oper} (hq:zK C.lo q.op=true) (ho:∀ t a,o.op = .load t (.tmp a)->yt tm ops j a=none/\qca tm ops j a=false):qfH tm ops j o i q=false:=by
 unfold qfH
 rw [Bool.or_eq_false_iff]
 constructor
 ·unfold qfu
  split
  ·rename_i h1 h2
   rw [qfZ h2] at hq;cases hq
  ·rename_i h1 h2
   rw [qfZ h2] at hq;cases hq
  ·rename_i h1 h2
   rw [qfZ h2] at hq;cases hq
  ·rfl
 ·unfold qfu
  split
  ·rename_i t a v t' b h1 h2
   split
   ·rename_i x y hx hy
    rw [(ho _ _ h2).1] at hy;cases hy
   ·exact (ho _ _ h2).2
   ·rfl
  ·rename_i h2
   rw [(ho _ _ h2).1];rfl
  ·rename_i h2
   rw [(ho _ _ h2).1];rfl
  ·rfl
theorem qqt {tm:List AV} {j i:Nat} {o q:Oper} {t:TypeId} {a:Tmp} (ho:o.op = .load t (.tmp a)) (h:qfH tm ops j o i q=true):(∃ t' c v x,q.op = .store t' (.tmp c) v/\yt tm ops i c=some x/\((∃ y,yt tm ops j a=some y/\x≠y)\/yt tm ops j a=none/\qca tm ops j a=true))\/yt tm ops j a≠none/\(∃ as ts,q.op = .call ⟨.builtin .append,as,ts⟩)\/yt tm ops j a≠none/\∃ g as ts,q.op = .call ⟨.value g,as,ts⟩:=by
 unfold qfH at h
 rw [Bool.or_eq_true] at h
 rcases h with h | h
 ·unfold qfu at h
  split at h
  ·rename_i h1 _
   rw [ho] at h1;cases h1
  ·rename_i h1 _
   rw [ho] at h1;cases h1
  ·rename_i h1 _
   rw [ho] at h1;cases h1
  ·cases h
 ·unfold qfu at h
  split at h
  ·rename_i t1 a1 v1 t2 b2 h1 h2
   rw [ho] at h2;cases h2
   split at h
   ·rename_i x y hx hy
    exact .inl ⟨_,_,_,x,h1,hx,.inl ⟨y,hy,λ he=>by rw [he] at h;simp at h⟩⟩
   ·rename_i x hx hy
    exact .inl ⟨_,_,_,x,h1,hx,.inr ⟨hy,h⟩⟩
   ·cases h
  ·rename_i h1 h2
   rw [ho] at h2;cases h2
   exact .inr (.inl ⟨λ he=>(by rw [he] at h;cases h),_,_,h1⟩)
  ·rename_i h1 h2
   rw [ho] at h2;cases h2
   exact .inr (.inr ⟨λ he=>(by rw [he] at h;cases h),_,_,_,h1⟩)
  ·cases h
theorem qqX {β : Type}:∀ (bs:List Nat) (l xs:List β) (b:Nat),b<l.length->b ∉ bs->(zu l bs xs)[b]? = l[b]?
 | [],l,xs,b,hb,_=>by rw [zu,List.getElem?_append_left hb]
 | c::bs,l,[],b,hb,_=>rfl
 | c::bs,l,x::xs,b,hb,hn=>by
   rw [zu,qqX bs _ xs b (by rw [List.length_set];exact hb) λ h=>hn (List.mem_cons_of_mem _ h),List.getElem?_set_ne λ h=>hn (by rw [h];exact List.mem_cons_self ..)]
theorem qEi {tm:List AV} {σ σ':St} {g:Operand} {as:Array Operand} {ts:Array TypeId} {x:AV} (h:opA C ex tm σ (.call ⟨.value g,as,ts⟩)=some (x,some σ')) {b:Nat} (hb:b < σ.bx.length) (hn:b ∉ qrG C tm σ (.call ⟨.value g,as,ts⟩)) : σ'.bx[b]? = σ.bx[b]? := by
 simp only [opA] at h
 simp only [qrG] at hn
 split at h<;>try cases h
 rename_i f caps hc
 rw [hc] at hn
 have hn:b ∉ (match qfj C σ f (as.toList.map (aev tm)++caps) with | (args,none)=>Qk σ args | (args,some σ')=>Qk σ' args):=hn
 have hcb:∀ {τ τ':St} {args:List AV} {call:St->List AV->Option (AV × Option St)} {z:AV},JH τ args call=some (z,some τ')->b < τ.bx.length->b ∉ Qk τ args -> τ'.bx[b]? = τ.bx[b]? := by
  intro τ τ' args call z h hb hn
  unfold JH at h
  split at h<;>try cases h
  split at h<;>try cases h
  rename_i r hr
  obtain ⟨z2,r2⟩:=r
  cases r2 with
  | none=>simp [qgi] at h
  | some τ2 =>
    simp only [qgi,Option.some.injEq,Prod.mk.injEq] at h
    rw [<- h.2]
    exact qqX _ _ _ _ hb hn
 unfold qev at h
 generalize hh:qfj C σ f (as.toList.map (aev tm)++caps)=p at h hn
 obtain ⟨args,o⟩:=p
 cases o with
 | none=>exact hcb h hb hn
 | some σ1 =>
   have hbx : σ1.bx = σ.bx:=by
    unfold qfj at hh
    split at hh
    ·cases hh
    ·split at hh<;>cases hh
     rfl
   have hn:b ∉ Qk σ1 args:=hn
   simp only at h
   unfold qqr at h
   split at h
   ·split at h<;>cases h
    rw [hbx]
   ·have:=hcb h (by rw [hbx];exact hb) hn
    rw [this,hbx]
theorem qCN {s:S} {q:Oper} {as:Array Operand} {ts:Array TypeId} {x:AV} {σ':St} (hq:q.op = .call ⟨.builtin .append,as,ts⟩) (h:opA C ex s.tm s.σ q.op=some (x,some σ')) : σ'.bx=s.σ.bx:=by
 rw [hq] at h
 simp only [opA] at h
 generalize as.toList.map (aev s.tm)=args at h
 have key:∀ k bytes p xs,zF k bytes s.σ p xs=some (x,some σ') -> σ'.bx=s.σ.bx:=by
  intro k bytes p xs h
  unfold zF at h
  repeat' (first | (cases h;done) | (cases h;rfl) | split at h)
 unfold yu at h
 split at h<;>try cases h
 all_goals repeat' (first | (cases h;done) | exact key _ _ _ _ h | split at h)
theorem qjw {s:S} {q:Oper} {t:TypeId} {c:Tmp} {v:Operand} {x:AV} {σ':St} (hq:q.op = .store t (.tmp c) v) (h:opA C ex s.tm s.σ q.op=some (x,some σ')):(∃ b o,s.tm.getD c .dead = .ptr b o /\ σ'.rw=s.σ.rw/\∀ b',b'≠b -> σ'.bx[b']? = s.σ.bx[b']?)\/∃ r i o ep,s.tm.getD c .dead = .rpt r i o ep:=by
 rw [hq] at h
 simp only [opA,qb] at h
 split at h<;>try cases h
 ·rename_i d b o hd hc
  split at h<;>try cases h
  split at h<;>cases h
  exact .inl ⟨b,o,hc,rfl,λ b' hne=>by simp only [List.getElem?_set_ne (Ne.symm hne)]⟩
 ·rename_i d r i o ep hd hc
  exact .inr ⟨r,i,o,ep,hc⟩
section
variable (hR:qmN C ops l) (hk:J1 C.lo s0.tm ops=true) (hd:qbA ops L) {j:Nat} {o:Oper} (ho:ops[j]? = some o) (hL:L j=false) (hp:∀ e∈yO o,L e=true)
include hR hk hd ho hL hp
theorem qm3 {t:Nat} (ht:t∈qcG ops o):(F ops.toList l s0 L ops.size).tm.getD t .dead=(F ops.toList l s0 ql j).tm.getD t .dead:=by
 have hj:j<ops.size:=(Array.getElem?_eq_some_iff.1 ho).1
 have bar:∀ {k:Nat} {q:Oper},ops[k]? = some q->k≠j->q.dst=some t->(k<j->L k=true)/\(j<k->L k=false) := λ hq hne hdst =>
  ord hk hd ho hq hne (by simp [qfL,hdst,ht]) hL hp
 have low:∀ k,k<=j->(F ops.toList l s0 L k).tm.getD t .dead=(F ops.toList l s0 ql k).tm.getD t .dead:=by
  intro k
  induction k with
  | zero=>intro _;rfl
  | succ k ih =>
    intro hle
    obtain ⟨q,hq⟩:=y8 (ops:=ops) (k:=k) (by omega)
    obtain ⟨y,_,_,hF⟩:=JV hR hq
    rw [hF L,hF ql,if_pos (show ql k=true from rfl)]
    by_cases hdst:q.dst=some t
    ·rw [if_pos ((bar hq (by omega) hdst).1 (by omega)),qns _ _ _ _ hdst,qns _ _ _ _ hdst,qvy,qvy]
    ·rw [qjX _ _ _ _ hdst]
     split
     ·rw [qjX _ _ _ _ hdst];exact ih (by omega)
     ·exact ih (by omega)
 have high:∀ m,j+m<=ops.size->(F ops.toList l s0 L (j+m)).tm.getD t .dead=(F ops.toList l s0 L j).tm.getD t .dead:=by
  intro m
  induction m with
  | zero=>intro _;rfl
  | succ m ih =>
    intro hle
    obtain ⟨q,hq⟩:=y8 (ops:=ops) (k:=j+m) (by omega)
    obtain ⟨y,_,_,hF⟩:=JV hR hq
    show (F ops.toList l s0 L (j+m+1)).tm.getD t .dead=_
    rw [hF L]
    split
    ·rename_i hLm
     have hm:m≠0 := λ h=>by subst h;rw [Nat.add_zero,hL] at hLm;cases hLm
     rw [qjX _ _ _ _ λ hdst=>by have:=(bar hq (by omega) hdst).2 (by omega);rw [this] at hLm;cases hLm]
     exact ih (by omega)
    ·exact ih (by omega)
 have:=high (ops.size-j) (by omega)
 rw [show j+(ops.size-j)=ops.size by omega] at this
 rw [this,low j (Nat.le_refl _)]
theorem qyH {y:AV × Option St} (hy1:l[j]? = some y) (hy3:y.2.isSome=true->zK C.lo o.op=true):F ops.toList l s0 (λ i=>decide (i=j)||L i) ops.size=z8 (F ops.toList l s0 L ops.size) o y:=by
 have hj:j<ops.size:=(Array.getElem?_eq_some_iff.1 ho).1
 have eqj:∀ k,k≠j->(decide (k=j)||L k)=L k := λ k hk=>by simp [hk]
 have low:F ops.toList l s0 (λ i=>decide (i=j)||L i) j=F ops.toList l s0 L j:=qvD j λ i hi=>eqj i (by omega)
 have high:∀ m,j+1+m<=ops.size->F ops.toList l s0 (λ i=>decide (i=j)||L i) (j+1+m)=z8 (F ops.toList l s0 L (j+1+m)) o y:=by
  intro m
  induction m with
  | zero =>
    intro _
    obtain ⟨z,hz,_,hF⟩:=JV hR ho
    rw [hy1] at hz;cases hz
    show F _ _ _ _ (j+1)=z8 (F _ _ _ _ (j+1)) o y
    rw [hF,hF,if_pos (by simp),low,hL]
    simp
  | succ m ih =>
    intro hle
    obtain ⟨q,hq⟩:=y8 (ops:=ops) (k:=j+1+m) (by omega)
    obtain ⟨z,_,hl,hF⟩:=JV hR hq
    show F _ _ _ _ (j+1+m+1)=z8 (F _ _ _ _ (j+1+m+1)) o y
    rw [hF,hF]
    have e:=eqj (j+1+m) (by omega)
    rw [e,ih (by omega)]
    split
    ·rename_i hLm
     refine qCB _ _ _ _ _ (λ d hqd hod=>?_) ?_
     ·have:=(ord hk hd ho hq (by omega) (by simp [qfL,hqd,qcG,hod]) hL hp).2 (by omega)
      rw [this] at hLm;cases hLm
     ·cases hy:y.2 with
      | none=>exact .inl rfl
      | some σ1 =>
        cases hz:z.2 with
        | none=>exact .inr rfl
        | some σ2 =>
          have:=(ord hk hd ho hq (by omega) (by
           have hlo:=hy3 (by rw [hy];rfl)
           have hlq:=hl (by rw [hz];rfl)
           simp only [qfL,qkp,hlq,hlo,qkX (tm:=s0.tm) (ops:=ops) (j:=j) (i:=j+1+m) (o:=o) hlq (λ t a hh=>by rw [hh] at hlo;cases hlo),Bool.or_true,Bool.and_true,Bool.not_false]) hL hp).2 (by omega)
          rw [this] at hLm;cases hLm
    ·rfl
 have:=high (ops.size-(j+1)) (by omega)
 rw [show j+1+(ops.size-(j+1))=ops.size by omega] at this
 exact this
end
variable (hT:qbp C ex ops l s0) (hk:J1 C.lo s0.tm ops=true) (hd:qbA ops L) {j:Nat} {o:Oper} (ho:ops[j]? = some o) (hL:L j=false) (hp:∀ e∈yO o,L e=true)
include hT hk hd ho hL hp
theorem qAf (hr:(Qz o.op||zK C.lo o.op)=true) (hna:∀ t a,o.op = .load t (.tmp a)->yt s0.tm ops j a=none/\qca s0.tm ops j a=false):(F ops.toList l s0 L ops.size).σ = (F ops.toList l s0 ql j).σ := by
 have hj:j<ops.size:=(Array.getElem?_eq_some_iff.1 ho).1
 have bar:∀ {k:Nat} {q:Oper},ops[k]? = some q->k≠j->zK C.lo q.op=true->(k<j->L k=true)/\(j<k->L k=false) := λ hq hne hl =>
  ord hk hd ho hq hne (by simp only [qfL,qkp,hl,hr,qkX hl hna,Bool.and_true,Bool.or_true,Bool.not_false]) hL hp
 have low:∀ k,k<=j->(F ops.toList l s0 L k).σ = (F ops.toList l s0 ql k).σ := by
  intro k
  induction k with
  | zero=>intro _;rfl
  | succ k ih =>
    intro hle
    obtain ⟨q,hq⟩:=y8 (ops:=ops) (k:=k) (by omega)
    obtain ⟨y,_,hl,hF⟩:=JV hT.recd hq
    rw [hF L,hF ql,if_pos (show ql k=true from rfl)]
    cases hy:y.2 with
    | none =>
      rw [putS_σ _ _ _ hy]
      split
      ·rw [putS_σ _ _ _ hy];exact ih (by omega)
      ·exact ih (by omega)
    | some σ' =>
      rw [if_pos ((bar hq (by omega) (hl (by rw [hy];rfl))).1 (by omega))]
      simp [z8,hy,turn]
 have high:∀ m,j+m<=ops.size->(F ops.toList l s0 L (j+m)).σ = (F ops.toList l s0 L j).σ := by
  intro m
  induction m with
  | zero=>intro _;rfl
  | succ m ih =>
    intro hle
    obtain ⟨q,hq⟩:=y8 (ops:=ops) (k:=j+m) (by omega)
    obtain ⟨y,_,hl,hF⟩:=JV hT.recd hq
    show (F ops.toList l s0 L (j+m+1)).σ = _
    rw [hF L]
    split
    ·rename_i hLm
     have hm:m≠0 := λ h=>by subst h;rw [Nat.add_zero,hL] at hLm;cases hLm
     cases hy:y.2 with
     | none=>rw [putS_σ _ _ _ hy];exact ih (by omega)
     | some σ' =>
       have:=(bar hq (by omega) (hl (by rw [hy];rfl))).2 (by omega)
       rw [this] at hLm;cases hLm
    ·exact ih (by omega)
 have:=high (ops.size-j) (by omega)
 rw [show j+(ops.size-j)=ops.size by omega] at this
 rw [this,low j (Nat.le_refl _)]
omit hp in
theorem qt9 {β : Type} (pr:St -> β) (hnl:zK C.lo o.op=false)
  (dich:∀ {k:Nat} {q:Oper} {y:AV × Option St} {σ':St},ops[k]? = some q->l[k]? = some y->k≠j->y.2=some σ'->zK C.lo q.op=true ->
   ((k<j->L k=true)/\(j<k->L k=false))\/pr σ'=pr (F ops.toList l s0 ql k).σ):pr (F ops.toList l s0 L ops.size).σ = pr (F ops.toList l s0 ql j).σ := by
 have hj:j<ops.size:=(Array.getElem?_eq_some_iff.1 ho).1
 have low:∀ k,k<=j->pr (F ops.toList l s0 L k).σ = pr (F ops.toList l s0 ql k).σ := by
  intro k
  induction k with
  | zero=>intro _;rfl
  | succ k ih =>
    intro hle
    obtain ⟨q,hq⟩:=y8 (ops:=ops) (k:=k) (by omega)
    obtain ⟨y,hyl,hl,hF⟩:=JV hT.recd hq
    rw [hF L,hF ql,if_pos (show ql k=true from rfl)]
    cases hy:y.2 with
    | none =>
      rw [putS_σ _ _ _ hy]
      split
      ·rw [putS_σ _ _ _ hy];exact ih (by omega)
      ·exact ih (by omega)
    | some σ' =>
      rcases dich hq hyl (by omega) hy (hl (by rw [hy];rfl)) with h | h
      ·rw [if_pos (h.1 (by omega))]
       simp [z8,hy,turn]
      ·have e:∀ s:S,(z8 s q y).σ = σ' := λ s=>by simp [z8,hy,turn]
       rw [e,h]
       split
       ·rw [e,h]
       ·exact ih (by omega)
 have high:∀ m,j+m<=ops.size->pr (F ops.toList l s0 L (j+m)).σ = pr (F ops.toList l s0 L j).σ := by
  intro m
  induction m with
  | zero=>intro _;rfl
  | succ m ih =>
    intro hle
    obtain ⟨q,hq⟩:=y8 (ops:=ops) (k:=j+m) (by omega)
    obtain ⟨y,hyl,hl,hF⟩:=JV hT.recd hq
    show pr (F ops.toList l s0 L (j+m+1)).σ = _
    rw [hF L]
    split
    ·rename_i hLm
     have hm:m≠0 := λ h=>by subst h;rw [Nat.add_zero,hL] at hLm;cases hLm
     cases hy:y.2 with
     | none=>rw [putS_σ _ _ _ hy];exact ih (by omega)
     | some σ' =>
       have hlq:=hl (by rw [hy];rfl)
       rcases dich hq hyl (by omega) hy hlq with h | h
       ·have:=h.2 (by omega)
        rw [this] at hLm;cases hLm
       ·have e:(z8 (F ops.toList l s0 L (j+m)) q y).σ = σ':=by simp [z8,hy,turn]
        rw [e,h]
        have hq':∀ n,j+n<=j+m->pr (F ops.toList l s0 ql (j+n)).σ = pr (F ops.toList l s0 ql j).σ := by
         intro n
         induction n with
         | zero=>intro _;rfl
         | succ n ihn =>
           intro hn
           obtain ⟨q2,hq2⟩:=y8 (ops:=ops) (k:=j+n) (by omega)
           obtain ⟨y2,hy2l,hl2,hF2⟩:=JV hT.recd hq2
           show pr (F ops.toList l s0 ql (j+n+1)).σ = _
           rw [hF2 ql,if_pos (show ql (j+n)=true from rfl)]
           cases hy2:y2.2 with
           | none=>rw [putS_σ _ _ _ hy2];exact ihn (by omega)
           | some σ2 =>
             have hl2q:=hl2 (by rw [hy2];rfl)
             by_cases hn0:n=0
             ·subst hn0
              rw [Nat.add_zero] at hq2
              rw [ho] at hq2;cases hq2
              rw [hnl] at hl2q;cases hl2q
             rcases dich hq2 hy2l (by omega) hy2 hl2q with h' | h'
             ·-- it lies ahead of the other loud one,which has come up
              exfalso
              have hno:=h'.2 (by omega)
              have hna2:∀ t a,q.op = .load t (.tmp a)->yt s0.tm ops (j+m) a=none/\qca s0.tm ops (j+m) a=false := λ t a hh=>by rw [hh] at hlq;cases hlq
              have hb:qfL C.lo s0.tm ops (j+m) q (j+n) q2=true:=by
               simp only [qfL,qkp,hlq,hl2q,qkX hl2q hna2,Bool.and_true,Bool.or_true,Bool.not_false]
              have hbit:=(qfm hk).2 (j+n) (j+m) q q2 hq hq2 (by omega) hb
              rw [Nat.max_eq_right (by omega),Nat.min_eq_left (by omega)] at hbit
              have:=qkL hd (j+m) q hq (hd (j+m) q hq hLm) hbit
              rw [hno] at this;cases this
             ·have e2:(z8 (F ops.toList l s0 ql (j+n)) q2 y2).σ = σ2:=by simp [z8,hy2,turn]
              rw [e2,h']
              exact ihn (by omega)
        rw [hq' m (Nat.le_refl _),low j (Nat.le_refl _)]
    ·exact ih (by omega)
 have:=high (ops.size-j) (by omega)
 rw [show j+(ops.size-j)=ops.size by omega] at this
 rw [this,low j (Nat.le_refl _)]
theorem qBQ {t:TypeId} {a:Tmp} {b':Nat} (hop:o.op = .load t (.tmp a)) (hbx:yt s0.tm ops j a=some b'):(F ops.toList l s0 L ops.size).σ.bx[b']? = (F ops.toList l s0 ql j).σ.bx[b']? := by
 have hj:j<ops.size:=(Array.getElem?_eq_some_iff.1 ho).1
 have hrd:Qz o.op=true:=by rw [hop];rfl
 refine qt9 hT hk hd ho hL (λ σ => σ.bx[b']?) (by rw [hop];rfl) ?_
 show ∀ {k:Nat} {q:Oper} {y:AV × Option St} {σ':St},ops[k]? = some q->l[k]? = some y->k≠j->y.2=some σ'->zK C.lo q.op=true ->
  ((k<j->L k=true)/\(j<k->L k=false)) \/ σ'.bx[b']? = (F ops.toList l s0 ql k).σ.bx[b']?
 ·intro k q y σ' hq hy hne hy2 hl
  cases hap:qfH s0.tm ops j o k q with
  | false=>exact .inl (ord hk hd ho hq hne (by simp only [qfL,qkp,hl,hrd,hap,Bool.and_true,Bool.true_or,Bool.or_true,Bool.not_false]) hL hp)
  | true =>
    obtain ⟨z,hz,hstep,_⟩:=hT.st k q hq
    rw [hy] at hz;cases hz
    obtain ⟨y1,y2⟩:=y
    simp only at hy2
    subst hy2
    rcases qqt hop hap with ⟨t',c,v,x,h1,h2,h3⟩ | ⟨_,as,ts,h1⟩ | ⟨_,g,as,ts,h1⟩
    case inr.inr =>
     have hsp:=hT.sp k q _ hq hy rfl
     have hks:k<=ops.size:=Nat.le_of_lt (Array.getElem?_eq_some_iff.1 hq).1
     rw [h1] at hsp
     unfold JW at hstep
     rw [h1] at hstep
     unfold qaI at hsp
     rw [show qsc (.call ⟨.value g,as,ts⟩)=true from rfl,Bool.not_true,Bool.false_or,List.all_eq_true] at hsp
     have hsj:=hsp (o,j) (by rw [List.mem_zipIdx_iff_getElem?];simpa using ho)
     simp only [hop] at hsj
     rw [qEZ hT hks hbx] at hsj
     simp only [Bool.or_eq_true,Bool.and_eq_true,decide_eq_true_eq,Bool.not_eq_true'] at hsj
     rcases hsj with hbit | ⟨hlt,hnt⟩
     ·exact .inl (qzK hd ho hq hne (by rw [Nat.max_comm,Nat.min_comm];exact hbit) hL hp)
     ·right
      rcases hstep with ⟨_,hs⟩ | ⟨_,hs⟩
      ·exact qEi hs hlt (by simpa using hnt)
      ·cases hs
    all_goals right
    case inr.inl =>
     rcases hstep with ⟨_,hs⟩ | ⟨_,hs⟩
     ·rw [qCN h1 hs]
     ·cases hs
    rcases h3 with ⟨y',h3,h4⟩ | ⟨h3,_⟩
    case inr=>rw [hbx] at h3;cases h3
    rw [hbx] at h3;cases h3
    rcases hstep with ⟨_,hs⟩ | ⟨_,hs⟩
    ·have hks:k<=ops.size:=Nat.le_of_lt (Array.getElem?_eq_some_iff.1 hq).1
     rcases qjw h1 hs with ⟨b,off,g1,_,g2⟩ | ⟨r',i',o',ep',g1⟩
     ·rcases qjO hT hks h2 with ⟨off',g3⟩ | g3 | g3
      ·rw [g3] at g1;cases g1
       exact g2 b' (Ne.symm h4)
      ·rw [g3] at g1;cases g1
      ·rw [g3] at g1;cases g1
     ·rcases qjO hT hks h2 with ⟨off',g3⟩ | g3 | g3
      ·rw [g3] at g1;cases g1
      ·rw [g3] at g1;cases g1
      ·rw [g3] at g1;cases g1
    ·cases hs
theorem qDt {t:TypeId} {a:Tmp} (hop:o.op = .load t (.tmp a)) (hbx:yt s0.tm ops j a=none):(F ops.toList l s0 L ops.size).σ.rw=(F ops.toList l s0 ql j).σ.rw:=by
 have hrd:Qz o.op=true:=by rw [hop];rfl
 refine qt9 hT hk hd ho hL (λ σ => σ.rw) (by rw [hop];rfl) ?_
 intro k q y σ' hq hy hne hy2 hl
 cases hap:qfH s0.tm ops j o k q with
 | false=>exact .inl (ord hk hd ho hq hne (by simp only [qfL,qkp,hl,hrd,hap,Bool.and_true,Bool.true_or,Bool.or_true,Bool.not_false]) hL hp)
 | true =>
   obtain ⟨z,hz,hstep,_⟩:=hT.st k q hq
   rw [hy] at hz;cases hz
   obtain ⟨y1,y2⟩:=y
   simp only at hy2
   subst hy2
   rcases qqt hop hap with ⟨t',c,v,x,h1,h2,_⟩ | ⟨h,_⟩ | ⟨h,_⟩
   case inr.inl=>exact absurd hbx h
   case inr.inr=>exact absurd hbx h
   right
   have hks:k<=ops.size:=Nat.le_of_lt (Array.getElem?_eq_some_iff.1 hq).1
   rcases hstep with ⟨_,hs⟩ | ⟨_,hs⟩
   ·rcases qjw h1 hs with ⟨b,off,g1,g2,_⟩ | ⟨r',i',o',ep',g1⟩
    ·exact g2
    ·rcases qjO hT hks h2 with ⟨off',g3⟩ | g3 | g3<;>rw [g3] at g1<;>cases g1
   ·cases hs
theorem qpz:∃ y,JW C ex ops o (F ops.toList l s0 L ops.size) y/\F ops.toList l s0 (λ i=>decide (i=j)||L i) ops.size=z8 (F ops.toList l s0 L ops.size) o y:=by
 have hj:j<ops.size:=(Array.getElem?_eq_some_iff.1 ho).1
 obtain ⟨y,hy1,hy2,hy3⟩:=hT.st j o ho
 refine ⟨y,?_,?_⟩
 ·have hw:=qj9 (ops:=ops) (o:=o) λ t ht=>qm3 hT.recd hk hd ho hL hp ht
  have hops:=qoI (C:=C) (ex:=ex) (op:=o.op) (σ := (F ops.toList l s0 L ops.size).σ) (qlQ (xs:=o.op.operands.toList) λ t ht=>qm3 hT.recd hk hd ho hL hp (t:=t) (by
   simp only [qcG,List.mem_append];exact .inl (.inr ht)))
  rcases hy2 with ⟨h1,h2⟩ | ⟨h1,h2⟩
  ·refine .inl ⟨hw.trans h1,?_⟩
   rw [hops]
   by_cases hr:(Qz o.op||zK C.lo o.op)=true
   ·by_cases hld:∃ t a b,o.op = .load t (.tmp a)/\yt s0.tm ops j a=some b
    ·obtain ⟨t,a,b,e1,e2⟩:=hld
     have hb:=qBQ hT hk hd ho hL hp e1 e2
     rw [e1] at h2 |-
     have hjs:j<=ops.size:=Nat.le_of_lt hj
     simp only [opA,qb] at h2 |-
     split at h2<;>try cases h2
     rename_i d hd'
     have hv:aev (F ops.toList l s0 ql j).tm (.tmp a)=(F ops.toList l s0 ql j).tm.getD a .dead:=rfl
     rw [hv] at h2 |-
     rcases qjO hT hjs e2 with ⟨off,g⟩ | g | g
     ·rw [g] at h2 |-
      simp only [Qo] at h2 |-
      rw [hb];exact h2
     ·rw [g] at h2;cases h2
     ·rw [g] at h2;cases h2
    ·by_cases hlr:∃ t a,o.op = .load t (.tmp a)/\qca s0.tm ops j a=true
     ·obtain ⟨t,a,e1,e2⟩:=hlr
      have hrw:=qDt hT hk hd ho hL hp e1 (by
       cases hb:yt s0.tm ops j a with
       | none=>rfl
       | some b=>exact absurd ⟨t,a,b,e1,hb⟩ hld)
      rw [e1] at h2 |-
      simp only [opA,qb] at h2 |-
      split at h2<;>try cases h2
      rename_i d hd'
      have hv:aev (F ops.toList l s0 ql j).tm (.tmp a)=(F ops.toList l s0 ql j).tm.getD a .dead:=rfl
      rw [hv] at h2 |-
      rcases qC8 hT (Nat.le_of_lt hj) e2 with g | g | g
      ·cases hg:(F ops.toList l s0 ql j).tm.getD a .dead<;>rw [hg] at g h2<;>first | (cases g;done) | skip
       ·simp only [Qo] at h2 |-
        rw [hrw];exact h2
       ·exact h2
      ·rw [g] at h2;cases h2
      ·rw [g] at h2;cases h2
     ·rw [qAf hT hk hd ho hL hp hr (λ t a h1=>⟨by
       cases hb:yt s0.tm ops j a with
       | none=>rfl
       | some b=>exact absurd ⟨t,a,b,h1,hb⟩ hld,by
       cases hb:qca s0.tm ops j a with
       | false=>rfl
       | true=>exact absurd ⟨t,a,h1,hb⟩ hlr⟩)];exact h2
   ·simp only [Bool.not_eq_true,Bool.or_eq_false_iff] at hr
    obtain ⟨x,z⟩:=y
    cases z with
    | none=>exact qx0 hr.1 hr.2 h2
    | some σ'=>have:=hy3 rfl;rw [hr.2] at this;cases this
  ·exact .inr ⟨hw.trans h1,h2⟩
 ·exact qyH hT.recd hk hd ho hL hp hy1 hy3
end
end Go.AmZ
namespace Go.AmZ
open Go Go.RowKit
theorem qhH (lo:Nat->Bool):∀ l:List Oper,QH lo l<=l.length
 | []=>Nat.le_refl _
 | o::r=>by
   unfold QH
   split
   ·exact Nat.zero_le _
   ·simpa using qhH lo r
theorem qlP (o:Oper):(yq o).dst=o.dst:=by unfold yq;split<;>rfl
theorem qyl (o:Oper):(yq o).guard=o.guard:=by unfold yq;split<;>rfl
theorem qn7 (o:Oper):yO (yq o)=yO o:=by unfold yq;split<;>rfl
theorem qor {lo:Nat->Bool} {l:List Oper}:(qR lo l).length=QH lo l:=by simp [qR,Nat.min_eq_left (qhH lo l)]
theorem qeL {lo:Nat->Bool} {l:List Oper} {j:Nat} (hj:j<QH lo l):(qR lo l)[j]? = l[j]?.map yq:=by
 unfold qR;rw [List.getElem?_map,List.getElem?_take,if_pos hj]
theorem qxS {lo:Nat->Bool} {l:List Oper} {j:Nat} {o:Oper} (h:(qR lo l)[j]? = some o):j<QH lo l/\∃ q,l[j]? = some q/\yq q=o:=by
 have hj:j<QH lo l:=by rw [<- qor (lo:=lo) (l:=l)];exact getElem?_lt h
 rw [qeL hj] at h
 cases hq:l[j]? with
 | none=>rw [hq] at h;cases h
 | some q=>rw [hq] at h;cases h;exact ⟨hj,q,rfl,rfl⟩
theorem qku {lo:Nat->Bool} {ops:Array Oper} {tm:List AV} {o:Oper} {b:Bool} (h:ya ⟨qR lo ops.toList⟩ tm (yq o)=some b):ya ops tm o=some b:=by
 unfold ya at h |-
 rw [qyl] at h
 cases hg:o.guard with
 | none=>rw [hg] at h;exact h
 | some p =>
   obtain ⟨j,want⟩:=p
   rw [hg] at h
   simp only at h |-
   cases hq:(qR lo ops.toList)[j]? with
   | none =>
     have:(⟨qR lo ops.toList⟩:Array Oper)[j]? = none:=by simpa using hq
     rw [this] at h;cases h
   | some q =>
     obtain ⟨hj,q',h1,h2⟩:=qxS hq
     have e1:(⟨qR lo ops.toList⟩:Array Oper)[j]? = some q:=by simpa using hq
     have e2:ops[j]? = some q':=by simpa using h1
     rw [e1] at h
     rw [e2]
     subst h2
     simp only [Option.bind_some,qlP] at h |-
     exact h
section
variable {P:Program} {C:Cfg} {Γ : Gh} {σ : St} {w:World} {ops:Array Oper} {ex:Qd} {l:List (AV × Option St)} {s0:S}
theorem qrC {listed:Array Bool} (h:listed.toList.countP (λ b => !b)=0):∀ i,i<listed.size->listed.getD i false=true:=by
 intro i hi
 rw [List.countP_eq_zero] at h
 have:=h listed[i] (by simp)
 simp only [Bool.not_eq_true',Bool.not_eq_false] at this
 rw [Array.getD_eq_getD_getElem?,Array.getElem?_eq_getElem hi]
 simpa using this
theorem qzL (hC:yc P C) (hx:qbj P ex) {G:(Nat->Bool)->S} {Good:(Nat->Bool)->Prop} (hmono:∀ L j,Good L->Good (λ i=>decide (i=j)||L i)) (hpre:∀ (j:Nat) (o:Oper),ops[j]? = some o->∀ e∈yO o,e<j) (hext:∀ L,(∀ i,i<ops.size->L i=true)->G L=G ql)
  (hstep:∀ (L:Nat->Bool) (j:Nat) (o:Oper),qbA ops L->Good L->ops[j]? = some o->L j=false->(∀ e∈yO o,L e=true)->∃ y,JW C ex ops o (G L) y/\G (λ i=>decide (i=j)||L i)=z8 (G L) o y) {Q:Exit->Act->World->Prop}:∀ (fuel:Nat) (listed:Array Bool) (Γ : Gh) (w:World) (a:Act),listed.size=ops.size->listed.toList.countP (λ b => !b)=fuel->qbA ops (λ i=>listed.getD i false)->Good (λ i=>listed.getD i false) ->
  Inv Γ (G (λ i=>listed.getD i false)).σ w->zg Γ (G (λ i=>listed.getD i false)).tm a ->
  (∀ Γ' w' a',Ext Γ w Γ' w'->Inv Γ' (G ql).σ w'->zg Γ' (G ql).tm a'->qM (G (λ i=>listed.getD i false)).σ (G ql).σ -> a'.defers=a.defers->Q .normal a' w') ->
  wpAny P .any ops Q fuel listed a w:=by
 intro fuel
 induction fuel with
 | zero =>
   intro listed Γ w a hsz hct hd hgood hi ht hq
   have hall:=qrC hct
   have hnil:Region.ready .any ops listed=[]:=by
    apply List.eq_nil_iff_forall_not_mem.2
    intro j hj
    obtain ⟨h1,o,ho,_⟩:=mem_ready.1 hj
    have hlt:j<listed.size:=by rw [hsz];exact (Array.getElem?_eq_some_iff.1 ho).1
    have h2:=hall j hlt
    rw [Array.getD_eq_getD_getElem?,Array.getElem?_eq_getElem hlt] at h1 h2
    simp at h1 h2
    rw [h1] at h2;cases h2
   have hF:G (λ i=>listed.getD i false)=G ql:=hext _ λ i hi=>hall i (by rw [hsz];exact hi)
   rw [hF] at hi ht
   exact ⟨hnil,hq Γ w a (.refl _ _) hi ht (by rw [hF];exact .refl _) rfl⟩
 | succ fuel ih =>
   intro listed Γ w a hsz hct hd hgood hi ht hq
   refine ⟨λ hnil=>?_,λ j hj=>?_⟩
   ·exfalso
    have hex:∃ i,i<listed.size/\listed.getD i false=false:=by
     apply Classical.byContradiction
     intro hno
     have:listed.toList.countP (λ b => !b)=0:=by
      rw [List.countP_eq_zero]
      intro b hb
      obtain ⟨i,hi',rfl⟩:=List.getElem_of_mem hb
      intro hb'
      refine hno ⟨i,by simpa using hi',?_⟩
      rw [Array.getD_eq_getD_getElem?,Array.getElem?_eq_getElem (by simpa using hi')]
      simpa using hb'
     rw [hct] at this;cases this
    obtain ⟨i0,h0,h1⟩:=hex
    have key:∀ i,i<listed.size->listed.getD i false=false->False:=by
     intro i
     induction i using Nat.strongRecOn with
     | _ i ih' =>
       intro hi' hf
       obtain ⟨o,ho⟩:=y8 (ops:=ops) (k:=i) (by rw [<- hsz];exact hi')
       have hr:i∈Region.ready .any ops listed:=by
        refine mem_ready.2 ⟨?_,o,ho,λ e he hb=>?_⟩
        ·rw [Array.getD_eq_getD_getElem?,Array.getElem?_eq_getElem hi'] at hf |-
         simpa using hf
        ·have hep:e.on∈yO o:=List.mem_map.2 ⟨e,List.mem_filter.2 ⟨by simpa using he,hb⟩,rfl⟩
         have hlt:=hpre i o ho e.on hep
         cases hc:listed.getD e.on false with
         | true=>rfl
         | false=>exact (ih' e.on hlt (by omega) hc).elim
       rw [hnil] at hr;cases hr
    exact key i0 h0 h1
   ·obtain ⟨h1,o,ho,hall⟩:=mem_ready.1 hj
    have hjn:j<ops.size:=(Array.getElem?_eq_some_iff.1 ho).1
    have hL:listed.getD j false=false:=by
     rw [Array.getD_eq_getD_getElem?,Array.getElem?_eq_getElem (by rw [hsz];exact hjn)] at h1 |-
     simpa using h1
    have hp:∀ e∈yO o,listed.getD e false=true := λ e he=>by
     obtain ⟨ed,hed,rfl⟩:=List.mem_map.1 he
     have:=List.mem_filter.1 hed
     exact hall ed (by simpa using this.1) this.2
    obtain ⟨y,hy,hFn⟩:=hstep _ j o hd hgood ho hL hp
    have hset:(λ i=>(listed.setIfInBounds j true).getD i false) = λ i=>decide (i=j)||listed.getD i false:=by
     funext i
     by_cases hij:i=j
     ·subst hij
      rw [Array.getD_eq_getD_getElem?,Array.getElem?_setIfInBounds_self_of_lt (by rw [hsz];exact hjn)]
      simp
     ·rw [getD_set_ne false (Ne.symm hij)]
      simp [hij]
    have hsz':(listed.setIfInBounds j true).size=ops.size:=by rw [Array.size_setIfInBounds,hsz]
    have hct':(listed.setIfInBounds j true).toList.countP (λ b => !b)=fuel:=by
     have hjl:j<listed.toList.length:=by simp [hsz,hjn]
     rw [Array.toList_setIfInBounds,List.countP_set (h:=hjl),hct]
     have:listed.toList[j]=false:=by
      rw [Array.getD_eq_getD_getElem?,Array.getElem?_eq_getElem (by rw [hsz];exact hjn)] at hL
      simpa using hL
     rw [this];simp
    have hd':qbA ops (λ i=>(listed.setIfInBounds j true).getD i false):=by
     rw [hset]
     intro i q hq' hi' e he
     simp only [Bool.or_eq_true,decide_eq_true_eq] at hi' |-
     rcases hi' with rfl | hi'
     ·rw [ho] at hq';cases hq';exact .inr (hp e he)
     ·exact .inr (hd i q hq' hi' e he)
    unfold wpOp
    rw [ho]
    simp only
    have next:∀ Γ' w' u,Ext Γ w Γ' w'->Inv Γ' (turn (G (λ i=>listed.getD i false)).σ y.2) w'->Rep Γ' y.1 u->qM (G (λ i=>listed.getD i false)).σ (turn (G (λ i=>listed.getD i false)).σ y.2) ->
      wpAny P .any ops Q fuel (listed.setIfInBounds j true) (a.put o.dst u) w':=by
     intro Γ' w' u e1 e2 e3 e4
     have hF':G (λ i=>(listed.setIfInBounds j true).getD i false)=z8 (G (λ i=>listed.getD i false)) o y:=by rw [hset];exact hFn
     refine ih (listed.setIfInBounds j true) Γ' w' (a.put o.dst u) hsz' hct' hd' (by rw [hset];exact hmono _ j hgood) ?_ ?_ ?_
     ·rw [hF'];exact e2
     ·rw [hF'];exact zg.put (RepL.mono e1.le ht) o.dst e3
     ·intro Γ2 w2 a2 g1 g2 g3 g4 g5
      rw [hF'] at g4
      exact hq Γ2 w2 a2 (e1.trans g1) g2 g3 (e4.trans g4) (by rw [g5];cases hd:o.dst<;>rfl)
    rcases hy with ⟨hw,hop⟩ | ⟨hw,rfl⟩
    ·rw [if_pos (qeH ht hw)]
     left
     refine qAU hC hx hi ht hop _ _ ?_
     intro u w' Γ' e1 e2 e3 e4
     exact next Γ' w' u e1 e2 e3 e4
    ·rw [if_neg (by rw [qeH ht hw];exact Bool.false_ne_true)]
     exact next Γ w undef (.refl _ _) hi (.tup [] [] rfl λ i x u h=>by simp at h) (.refl _)
theorem qyJ (hC:yc P C) (hx:qbj P ex) {Good:(Nat->Bool)->Prop} (hmono:∀ L j,Good L->Good (λ i=>decide (i=j)||L i)) (hpre:∀ (j:Nat) (o:Oper),ops[j]? = some o->∀ e∈yO o,e<j)
  (hstep:∀ (L:Nat->Bool) (j:Nat) (o:Oper),qbA ops L->Good L->ops[j]? = some o->L j=false->(∀ e∈yO o,L e=true)->∃ y,JW C ex ops o (F ops.toList l s0 L ops.size) y/\F ops.toList l s0 (λ i=>decide (i=j)||L i) ops.size=z8 (F ops.toList l s0 L ops.size) o y) {Q:Exit->Act->World->Prop}:∀ (fuel:Nat) (listed:Array Bool) (Γ : Gh) (w:World) (a:Act),listed.size=ops.size->listed.toList.countP (λ b => !b)=fuel->qbA ops (λ i=>listed.getD i false)->Good (λ i=>listed.getD i false) ->
  Inv Γ (F ops.toList l s0 (λ i=>listed.getD i false) ops.size).σ w->zg Γ (F ops.toList l s0 (λ i=>listed.getD i false) ops.size).tm a ->
  (∀ Γ' w' a',Ext Γ w Γ' w'->Inv Γ' (F ops.toList l s0 ql ops.size).σ w'->zg Γ' (F ops.toList l s0 ql ops.size).tm a'->qM (F ops.toList l s0 (λ i=>listed.getD i false) ops.size).σ (F ops.toList l s0 ql ops.size).σ -> a'.defers=a.defers->Q .normal a' w') ->
  wpAny P .any ops Q fuel listed a w :=
 qzL (G := λ L=>F ops.toList l s0 L ops.size) hC hx hmono hpre (λ _ h=>qvD _ h) hstep
theorem qtN {lo:Nat->Bool} (h:qfz lo ops.toList=true) :
  (∀ (j:Nat) (o:Oper),ops[j]? = some o->∀ e∈yO o,e<j) /\
  (∀ (j:Nat) (o:Oper),ops[j]? = some o->QH lo ops.toList<=j->∀ i,i<j->((Qq ops.toList []).getD j 0).testBit i=true\/(i<QH lo ops.toList/\∃ q,ops[i]? = some q/\qcz ops.toList q=true)) /\
  ∀ (j:Nat) (o:Oper),ops[j]? = some o->zP o=true->o.guard=none/\∃ d,o.dst=some d/\∀ (k:Nat) (q:Oper),ops[k]? = some q->k≠j->q.dst≠some d:=by
 have mem:∀ (i:Nat) (o:Oper),ops[i]? = some o->(o,i)∈ops.toList.zipIdx := λ i o ho=>by
  rw [List.mem_zipIdx_iff_getElem?];simpa using ho
 simp only [qfz,List.all_eq_true,Bool.and_eq_true,Bool.or_eq_true,decide_eq_true_eq,Bool.not_eq_true'] at h
 refine ⟨λ j o ho=>(h _ (mem j o ho)).1,λ j o ho hj i hi=>?_,λ j o ho ha=>?_⟩
 ·rcases (h _ (mem j o ho)).2.1 with h' | h'
  ·rw [Nat.blt_eq] at h';omega
  ·rcases h' i (List.mem_range.2 hi) with h' | ⟨h1,h2⟩
   ·exact .inl h'
   ·rw [Nat.blt_eq] at h1
    right
    refine ⟨h1,?_⟩
    split at h2
    ·rename_i q hq
     exact ⟨q,by simpa using hq,h2⟩
    ·cases h2
 ·rcases (h _ (mem j o ho)).2.2 with h' | ⟨h1,h2⟩
  ·rw [ha] at h';cases h'
  ·refine ⟨Option.isNone_iff_eq_none.1 h1,?_⟩
   simp only at h2
   split at h2
   ·rename_i d hd
    refine ⟨d,hd,λ k q hq hne hqd=>?_⟩
    have hl:=Nat.eq_of_beq_eq_true h2
    obtain ⟨x,hx⟩:=List.length_eq_one_iff.1 hl
    have m1:(o,j)∈qbu ops.toList d:=List.mem_filter.2 ⟨mem j o ho,by simp [qnv,hd]⟩
    have m2:(q,k)∈qbu ops.toList d:=List.mem_filter.2 ⟨mem k q hq,by simp [qnv,hqd]⟩
    rw [hx] at m1 m2
    have e1:=List.mem_singleton.1 m1
    have e2:=List.mem_singleton.1 m2
    have:=e2.trans e1.symm
    simp only [Prod.mk.injEq] at this
    exact hne this.2
   ·cases h2
theorem qe6 {o:Oper} (ho:zP o=true):∃ e,o.op = .alloc e:=by
 unfold zP at ho
 split at ho
 ·exact ⟨_,‹_›⟩
 ·cases ho
structure qhE (P:Program) (Γ : Gh) (w0 w:World) (ops:Array Oper) (L:Nat->Prop) (a:Act) (ad:Nat->Nat):Prop where
 blk:∀ k o e d,L k->ops[k]? = some o->o.op = .alloc e->yM P e=some d->d.zero.all zO=true ->
  w0.heap.size<=ad k/\w.heap[ad k]? = some (.cells d.zero.toArray e (0,0))/\¬ Qn Γ (ad k)/\∀ i,Γ.mem (ad k) i=none
 tmp:∀ k o e d u,L k->ops[k]? = some o->o.op = .alloc e->o.dst=some d->a.tmps[d]? = some u->u = .pointer (some ⟨ad k,0,none⟩)
 inj:∀ k k' o o',L k->L k'->ops[k]? = some o->ops[k']? = some o'->zP o=true->zP o'=true->ad k=ad k'->k=k'
theorem qCQ {a:Act} {d:Option Tmp} {u:Value} {t:Tmp} (h:d≠some t):(a.put d u).tmps[t]? = a.tmps[t]? := by
 cases d with
 | none=>rfl
 | some d =>
   show (a.tmps.setIfInBounds d u)[t]? = _
   rw [Array.getElem?_setIfInBounds_ne]
   intro e;subst e;exact h rfl
theorem qhE.step {L:Nat->Prop} {w0 w':World} {Γ':Gh} {a:Act} {ad:Nat->Nat} {d:Option Tmp} {u:Value} (h:qhE P Γ w0 w ops L a ad) (he:Ext Γ w Γ' w')
  (hd:∀ k o t,L k->ops[k]? = some o->zP o=true->o.dst=some t->d≠some t):qhE P Γ' w0 w' ops L (a.put d u) ad where
 blk := λ k o e d h1 h2 h3 h4 h5=>by
  obtain ⟨g1,g2,g3,g4⟩:=h.blk k o e d h1 h2 h3 h4 h5
  have hlt:ad k<w.heap.size:=(Array.getElem?_eq_some_iff.1 g2).1
  refine ⟨g1,by rw [he.block _ hlt g3];exact g2,λ ho=>?_,λ i=>?_⟩
  ·rcases he.own _ ho with ho | ho
   ·exact g3 ho
   ·omega
  ·cases hm : Γ'.mem (ad k) i with
   | none=>rfl
   | some v =>
     rcases he.memg _ _ _ hm with hm | hm | hm
     ·rw [g4] at hm;cases hm
     ·exact absurd hm g3
     ·omega
 tmp := λ k o e t v h1 h2 h3 h4 h5=>by
  rw [qCQ (hd k o t h1 h2 (by simp [zP,h3]) h4)] at h5
  exact h.tmp k o e t v h1 h2 h3 h4 h5
 inj:=h.inj
theorem qB9 {o:Oper} {ρ : Operand->Value} {e:TypeId} {d:TD} (ho:o.op = .alloc e) (hd:yM P e=some d) (w:World):(execOp ρ o).run P w = .ok (.value (.pointer (some ⟨w.heap.size,0,none⟩))) (w.alloc (.cells d.zero.toArray e)):=by
 obtain ⟨i,u,z,h1,h2,h3,h4,h5,h6,h7,h8⟩:=TD.inv hd
 rw [<- h7]
 simp [execOp,ho,Instr.alloc,zeroValue,typeInfo,h1,h3,newVar,qc9]
theorem Inv.free (hi:Inv Γ σ w) {b:Nat} (hb:w.heap.size<=b):¬ Qn Γ b/\∀ i,Γ.mem b i=none:=by
 refine ⟨?_,λ i=>?_⟩
 ·rintro (⟨i,h1,h2⟩ | ⟨r,h1,h2,h3⟩)
  ·have:=hi.box_lt h1;omega
  ·have:=hi.cur_lt h1 h2;omega
 ·cases hm : Γ.mem b i with
  | none=>rfl
  | some u=>have:=hi.mem_lt hm;omega
theorem qHe (hC:yc P C) (hx:qbj P ex) (hT:qbp C ex ⟨qR C.lo ops.toList⟩ l s0) (hk:J1 C.lo s0.tm ⟨qR C.lo ops.toList⟩=true) (hlate:qfz C.lo ops.toList=true)
  (hz:∀ k o e,k<QH C.lo ops.toList->ops[k]? = some o->o.op = .alloc e->∃ d,yM P e=some d/\d.zero.all zO=true) {w0:World} {Q:Exit->Act->World->Prop} {n:Nat} (hn:n=QH C.lo ops.toList) :
  ∀ (fuel:Nat) (listed:Array Bool) (Γ : Gh) (w:World) (a:Act) (ad:Nat->Nat),listed.size=ops.size->listed.toList.countP (λ b => !b)=fuel->(∀ i,n<=i->listed.getD i false=false)->qbA ops (λ i=>listed.getD i false) ->
  Inv Γ (F (qR C.lo ops.toList) l s0 (λ i=>listed.getD i false) n).σ w->zg Γ (F (qR C.lo ops.toList) l s0 (λ i=>listed.getD i false) n).tm a->qhE P Γ w0 w ops (λ i=>listed.getD i false=true) a ad->w0.heap.size<=w.heap.size ->
  (∀ fuel' listed' Γ' w' a' ad',listed'.size=ops.size->listed'.toList.countP (λ b => !b)=fuel'->(∀ i,n<=i->listed'.getD i false=false)->(∀ (i:Nat) (o:Oper),i<n->ops[i]? = some o->qcz ops.toList o=false->listed'.getD i false=true)->qbA ops (λ i=>listed'.getD i false)->Ext Γ w Γ' w'->Inv Γ' (F (qR C.lo ops.toList) l s0 (λ i=>listed'.getD i false) n).σ w'->zg Γ' (F (qR C.lo ops.toList) l s0 (λ i=>listed'.getD i false) n).tm a'->qhE P Γ' w0 w' ops (λ i=>listed'.getD i false=true) a' ad' ->
   qM (F (qR C.lo ops.toList) l s0 (λ i=>listed.getD i false) n).σ (F (qR C.lo ops.toList) l s0 (λ i=>listed'.getD i false) n).σ -> a'.defers=a.defers->wpAny P .any ops Q fuel' listed' a' w') ->
  wpAny P .any ops Q fuel listed a w:=by
 obtain ⟨hlp,hlm,hla⟩:=qtN hlate
 have hpre:∀ (j:Nat) (o:Oper),j<n->ops[j]? = some o->(⟨qR C.lo ops.toList⟩:Array Oper)[j]? = some (yq o) := λ j o hj ho=>by
  have:(qR C.lo ops.toList)[j]? = some (yq o):=by
   rw [qeL (by omega)]
   have:ops.toList[j]? = some o:=by simpa using ho
   rw [this];rfl
  simpa using this
 have hsz1:(⟨qR C.lo ops.toList⟩:Array Oper).size=n:=by show (qR C.lo ops.toList).length=n;rw [qor,hn]
 have hnle:n<=ops.size:=by rw [hn];simpa using qhH C.lo ops.toList
 intro fuel
 induction fuel with
 | zero =>
   intro listed Γ w a ad hsz hct hge hd hi ht hs hw0 hq
   have hall:=qrC hct
   exact hq 0 listed Γ w a ad hsz hct hge (λ i o hi' _ _=>hall i (by omega)) hd (.refl _ _) hi ht hs (.refl _) rfl
 | succ fuel ih =>
   intro listed Γ w a ad hsz hct hge hd hi ht hs hw0 hq
   by_cases hall:∀ (i:Nat) (o:Oper),i<n->ops[i]? = some o->qcz ops.toList o=false->listed.getD i false=true
   ·exact hq (fuel+1) listed Γ w a ad hsz hct hge hall hd (.refl _ _) hi ht hs (.refl _) rfl
   have hdP:qbA ⟨qR C.lo ops.toList⟩ (λ i=>listed.getD i false):=by
    intro i o ho hL e he
    obtain ⟨hi',q,h1,rfl⟩:=qxS (lo:=C.lo) (l:=ops.toList) (j:=i) (o:=o) (by simpa using ho)
    rw [qn7] at he
    exact hd i q (by simpa using h1) hL e he
   have hL0:∃ (i0:Nat) (o0:Oper),i0<n/\ops[i0]? = some o0/\qcz ops.toList o0=false/\listed.getD i0 false=false:=by
    apply Classical.byContradiction
    intro hno
    refine hall λ i o hi' ho' hf'=>?_
    cases hc:listed.getD i false with
    | true=>rfl
    | false=>exact (hno ⟨i,o,hi',ho',hf',hc⟩).elim
   refine ⟨λ hnil=>?_,λ j hj=>?_⟩
   ·exfalso
    obtain ⟨i0,o0,h0,_,_,h1⟩:=hL0
    have key:∀ i,i<n->listed.getD i false=false->False:=by
     intro i
     induction i using Nat.strongRecOn with
     | _ i ih' =>
       intro hi' hf
       obtain ⟨o,ho⟩:=y8 (ops:=ops) (k:=i) (by omega)
       have hr:i∈Region.ready .any ops listed:=by
        refine mem_ready.2 ⟨?_,o,ho,λ e he hb=>?_⟩
        ·rw [Array.getD_eq_getD_getElem?,Array.getElem?_eq_getElem (by omega)] at hf |-
         simpa using hf
        ·have hep:e.on∈yO o:=List.mem_map.2 ⟨e,List.mem_filter.2 ⟨by simpa using he,hb⟩,rfl⟩
         have hlt:=hlp i o ho e.on hep
         cases hc:listed.getD e.on false with
         | true=>rfl
         | false=>exact (ih' e.on hlt (by omega) hc).elim
       rw [hnil] at hr;cases hr
    exact key i0 h0 h1
   ·obtain ⟨h1,o,ho,hready⟩:=mem_ready.1 hj
    have hjs:j<ops.size:=(Array.getElem?_eq_some_iff.1 ho).1
    have hL:listed.getD j false=false:=by
     rw [Array.getD_eq_getD_getElem?,Array.getElem?_eq_getElem (by rw [hsz];exact hjs)] at h1 |-
     simpa using h1
    have hp:∀ e∈yO o,listed.getD e false=true := λ e he=>by
     obtain ⟨ed,hed,rfl⟩:=List.mem_map.1 he
     have:=List.mem_filter.1 hed
     exact hready ed (by simpa using this.1) this.2
    have hjn:j<n:=by
     apply Classical.byContradiction
     intro hno
     obtain ⟨i0,o0,h0,ho0,hf0,h2⟩:=hL0
     rcases hlm j o ho (by omega) i0 (by omega) with hb | ⟨_,q,hq',hf'⟩
     ·have:=qkL hd j o ho hp hb
      rw [h2] at this;cases this
     ·rw [ho0] at hq';cases hq'
      rw [hf0] at hf';cases hf'
    have hp':∀ e∈yO (yq o),listed.getD e false=true:=by rw [qn7];exact hp
    obtain ⟨y,hy,hFn⟩:=qpz hT hk hdP (hpre j o hjn ho) hL hp'
    rw [hsz1] at hy hFn
    have hset:(λ i=>(listed.setIfInBounds j true).getD i false) = λ i=>decide (i=j)||listed.getD i false:=by
     funext i
     by_cases hij:i=j
     ·subst hij
      rw [Array.getD_eq_getD_getElem?,Array.getElem?_setIfInBounds_self_of_lt (by rw [hsz];exact hjs)]
      simp
     ·rw [getD_set_ne false (Ne.symm hij)]
      simp [hij]
    have hsz':(listed.setIfInBounds j true).size=ops.size:=by rw [Array.size_setIfInBounds,hsz]
    have hct':(listed.setIfInBounds j true).toList.countP (λ b => !b)=fuel:=by
     have hjl:j<listed.toList.length:=by simp [hsz,hjs]
     rw [Array.toList_setIfInBounds,List.countP_set (h:=hjl),hct]
     have:listed.toList[j]=false:=by
      rw [Array.getD_eq_getD_getElem?,Array.getElem?_eq_getElem (by rw [hsz];exact hjs)] at hL
      simpa using hL
     rw [this];simp
    have hge':∀ i,n<=i->(listed.setIfInBounds j true).getD i false=false := λ i hi'=>by
     rw [getD_set_ne false (by omega)];exact hge i hi'
    have hd':qbA ops (λ i=>(listed.setIfInBounds j true).getD i false):=by
     rw [hset]
     intro i q hq' hi' e he
     simp only [Bool.or_eq_true,decide_eq_true_eq] at hi' |-
     rcases hi' with rfl | hi'
     ·rw [ho] at hq';cases hq';exact .inr (hp e he)
     ·exact .inr (hd i q hq' hi' e he)
    have jD:∀ k,(listed.setIfInBounds j true).getD k false=true->k=j\/listed.getD k false=true := λ k hk'=>by
     have:(λ i=>(listed.setIfInBounds j true).getD i false) k=true:=hk'
     rw [hset] at this
     simpa using this
    have hF':F (qR C.lo ops.toList) l s0 (λ i=>(listed.setIfInBounds j true).getD i false) n=z8 (F (qR C.lo ops.toList) l s0 (λ i=>listed.getD i false) n) (yq o) y:=by rw [hset];exact hFn
    unfold wpOp
    rw [ho]
    simp only
    have next:∀ Γ' w' u ad',Ext Γ w Γ' w'->Inv Γ' (turn (F (qR C.lo ops.toList) l s0 (λ i=>listed.getD i false) n).σ y.2) w'->Rep Γ' y.1 u->qM (F (qR C.lo ops.toList) l s0 (λ i=>listed.getD i false) n).σ (turn (F (qR C.lo ops.toList) l s0 (λ i=>listed.getD i false) n).σ y.2) ->
      qhE P Γ' w0 w' ops (λ i=>(listed.setIfInBounds j true).getD i false=true) (a.put o.dst u) ad'->wpAny P .any ops Q fuel (listed.setIfInBounds j true) (a.put o.dst u) w':=by
     intro Γ' w' u ad' e1 e2 e3 e4 e5
     refine ih (listed.setIfInBounds j true) Γ' w' (a.put o.dst u) ad' hsz' hct' hge' hd' ?_ ?_ e5 (Nat.le_trans hw0 e1.size) ?_
     ·rw [hF'];exact e2
     ·rw [hF']
      show RepL Γ' (qaj _ (yq o).dst y.1) _
      rw [qlP]
      exact zg.put (RepL.mono e1.le ht) o.dst e3
     ·intro fuel' listed' Γ2 w2 a2 ad2 g0 g0' g0'' q1 q2 g1 g2 g3 g3' g4 g5
      rw [hF'] at g4
      exact hq fuel' listed' Γ2 w2 a2 ad2 g0 g0' g0'' q1 q2 (e1.trans g1) g2 g3 g3' (e4.trans g4) (by rw [g5];cases hd:o.dst<;>rfl)
    cases hal:zP o with
    | false =>
      have hdo:yq o=o:=by unfold yq;rw [hal]
      have side:∀ Γ' w' u,Ext Γ w Γ' w'->qhE P Γ' w0 w' ops (λ i=>(listed.setIfInBounds j true).getD i false=true) (a.put o.dst u) ad := λ Γ' w' u he=>by
       have h0:=hs.step (d:=o.dst) (u:=u) he λ k q t hk' hq' hqa hqt=>by
        obtain ⟨_,d,hd1,hd2⟩:=hla k q hq' hqa
        rw [hqt] at hd1;cases hd1
        exact hd2 j o ho (by intro e;subst e;rw [ho] at hq';cases hq';rw [hal] at hqa;cases hqa)
       have conv:∀ k q,(listed.setIfInBounds j true).getD k false=true->ops[k]? = some q->zP q=true->listed.getD k false=true := λ k q h2 hq' hqa=>by
        rcases jD k h2 with rfl | h3
        ·rw [ho] at hq';cases hq';rw [hal] at hqa;cases hqa
        ·exact h3
       exact ⟨λ k q e d g1 g2 g3=>h0.blk k q e d (conv k q g1 g2 (by simp [zP,g3])) g2 g3,λ k q e d v g1 g2 g3=>h0.tmp k q e d v (conv k q g1 g2 (by simp [zP,g3])) g2 g3,λ k k' q q' g1 g2 g3 g4 g5 g6=>h0.inj k k' q q' (conv k q g1 g3 g5) (conv k' q' g2 g4 g6) g3 g4 g5 g6⟩
      rcases hy with ⟨hw,hop⟩ | ⟨hw,rfl⟩
      ·rw [if_pos (qeH ht (qku hw))]
       left
       rw [hdo] at hop
       refine qAU hC hx hi ht hop _ _ ?_
       intro u w' Γ' e1 e2 e3 e4
       exact next Γ' w' u ad e1 e2 e3 e4 (side Γ' w' u e1)
      ·rw [if_neg (by rw [qeH ht (qku hw)];exact Bool.false_ne_true)]
       exact next Γ w undef ad (.refl _ _) hi (.tup [] [] rfl λ i x u h=>by simp at h) (.refl _) (side Γ w undef (.refl _ _))
    | true =>
      obtain ⟨e,hoe⟩:=qe6 hal
      obtain ⟨hgd,d,hdst,hun⟩:=hla j o ho hal
      have hy2:y=(.dead,none):=by
       rcases hy with ⟨hw,hop⟩ | ⟨hw,rfl⟩
       ·have:(yq o).op = .move (.global 0):=by unfold yq;rw [hal]
        rw [this] at hop
        simp only [opA,qb,aev,Option.some.injEq] at hop
        exact hop.symm
       ·have hw:=qku hw
        unfold ya at hw
        rw [hgd] at hw;cases hw
      subst hy2
      have hwt:ya ops (F (qR C.lo ops.toList) l s0 (λ i=>listed.getD i false) n).tm o=some true:=by unfold ya;rw [hgd]
      rw [if_pos (qeH ht hwt)]
      left
      obtain ⟨td,htd,hzb⟩:=hz j o e (by omega) ho hoe
      have hb:Below w.heap.size w (w.alloc (.cells td.zero.toArray e)):=(Below.refl _ _).alloc (Nat.le_refl _) _
      unfold Oper.wp
      rw [qB9 hoe htd]
      refine next Γ _ (.pointer (some ⟨w.heap.size,0,none⟩)) (λ k=>if k=j then w.heap.size else ad k) (qcr hb (Nat.le_refl _)) (hi.later hb) (.dead _) (.refl _) ?_
      have h0:=hs.step (d:=o.dst) (u := .pointer (some ⟨w.heap.size,0,none⟩)) (qcr (Γ := Γ) hb (Nat.le_refl _)) λ k q t hk' hq' hqa hqt=>by
       obtain ⟨_,d',hd1,hd2⟩:=hla k q hq' hqa
       rw [hqt] at hd1;cases hd1
       exact hd2 j o ho (by intro e;subst e;rw [hL] at hk';cases hk')
      have hfr:=hi.free (Nat.le_refl w.heap.size)
      have conv:∀ k,(listed.setIfInBounds j true).getD k false=true->k≠j->listed.getD k false=true := λ k h2 hne=>(jD k h2).resolve_left hne
      have hlt:∀ k q,listed.getD k false=true->ops[k]? = some q->zP q=true->ad k<w.heap.size := λ k q h2 h3 h4=>by
       obtain ⟨e',he'⟩:=qe6 h4
       have hkn:k<n:=by
        apply Classical.byContradiction
        intro hno
        rw [hge k (by omega)] at h2;cases h2
       obtain ⟨td',ht1,ht2⟩:=hz k q e' (by omega) h3 he'
       exact (Array.getElem?_eq_some_iff.1 (hs.blk k q e' td' h2 h3 he' ht1 ht2).2.1).1
      refine ⟨λ k q e' d' g1 g2 g3 g4 g5=>?_,λ k q e' d' v g1 g2 g3 g4 g5=>?_,λ k k' q q' g1 g2 g3 g4 g5 g6 g7=>?_⟩
      ·by_cases hkj:k=j
       ·subst hkj
        rw [ho] at g2;cases g2
        rw [hoe] at g3;cases g3
        rw [htd] at g4;cases g4
        simp only [if_true]
        exact ⟨hw0,heap_alloc_new w _,hfr.1,hfr.2⟩
       ·simp only [if_neg hkj]
        exact h0.blk k q e' d' (conv k g1 hkj) g2 g3 g4 g5
      ·by_cases hkj:k=j
       ·subst hkj
        rw [ho] at g2;cases g2
        simp only [if_true]
        rw [g4] at g5
        have g5:(a.tmps.setIfInBounds d' (.pointer (some ⟨w.heap.size,0,none⟩)))[d']? = some v:=g5
        rw [Array.getElem?_setIfInBounds] at g5
        simp only [if_true] at g5
        split at g5<;>cases g5
        rfl
       ·simp only [if_neg hkj]
        exact h0.tmp k q e' d' v (conv k g1 hkj) g2 g3 g4 g5
      ·by_cases hkj:k=j
       ·by_cases hkj':k'=j
        ·rw [hkj,hkj']
        ·simp only [if_pos hkj,if_neg hkj'] at g7
         have:=hlt k' q' (conv k' g2 hkj') g4 g6
         omega
       ·by_cases hkj':k'=j
        ·simp only [if_neg hkj,if_pos hkj'] at g7
         have:=hlt k q (conv k g1 hkj) g3 g5
         omega
        ·simp only [if_neg hkj,if_neg hkj'] at g7
         exact hs.inj k k' q q' (conv k g1 hkj) (conv k' g2 hkj') g3 g4 g5 g6 g7
end
end Go.AmZ
namespace Go.AmZ
open Go Go.RowKit
section
variable {P:Program} {C:Cfg} {Γ : Gh} {σ : St} {w:World} {ops:Array Oper} {ex:Qd} {l:List (AV × Option St)} {s0:S}
theorem qBP (h:Inv Γ σ w) {cs:List AV} {vs:List Value} {b:Nat} {e:TypeId} (hb:w.heap[b]? = some (.cells vs.toArray e (0,0))) (hno:¬ Qn Γ b) (hm:∀ i,Γ.mem b i=none) (hr:RepL Γ cs vs) (h1:∀ u∈vs,u.oneCell'=true) :
  ∃ Γ',Le Γ Γ'/\(∀ c,Qn Γ' c->Qn Γ c\/c=b) /\ Γ'.mem = Γ.mem/\Inv Γ' { σ with bx := σ.bx++[cs] } w/\Rep Γ' (.ptr σ.bx.length 0) (.pointer (some ⟨b,0,none⟩)):=by
 let Γ':Gh:={ Γ with nb := Γ.nb+1,β := λ i=>if i = Γ.nb then b else Γ.β i }
 have hβ : ∀ i,i < Γ.nb -> Γ'.β i = Γ.β i := λ i hi=>if_neg (by omega)
 have hβn : Γ'.β Γ.nb=b:=if_pos rfl
 have hle:Le Γ Γ':=⟨λ _ _ _ h=>h,Nat.le_succ _,hβ,Nat.le_refl _,λ _ _=>rfl,λ _ _=>Nat.le_refl _,λ _ _ _=>⟨rfl,rfl,rfl⟩⟩
 refine ⟨Γ',hle,?_,rfl,⟨?_,h.nr,h.mem,?_,?_,?_,?_,h.apart⟩,?_⟩
 ·rintro c (⟨i,hi,rfl⟩ | ho)
  ·have hi:i < Γ.nb+1:=hi
   by_cases hin:i = Γ.nb
   ·right;rw [hin,hβn]
   ·left;left;exact ⟨i,by omega,(hβ i (by omega)).symm⟩
  ·exact .inl (.inr ho)
 ·show Γ.nb+1=(σ.bx++[cs]).length
  simp [h.nb]
 ·intro i cs' hi
  rw [List.getElem?_append] at hi
  split at hi
  ·rename_i hlt
   exact (h.box i cs' hi).lift (by rw [h.nb];exact hlt) hle λ o ho=>ho
  ·rename_i hlt
   have hi0:i - σ.bx.length=0:=by
    have:=getElem?_lt hi
    simp at this;omega
   rw [hi0] at hi
   simp at hi
   subst hi
   have hie:i = Γ.nb:=by rw [h.nb];omega
   refine ⟨vs.toArray,e,?_,by simpa using hr.mono hle,by simpa using h1⟩
   rw [hie,hβn]
   exact hb
 ·intro i j hi hj he
  have hi':i < Γ.nb+1:=hi
  have hj':j < Γ.nb+1:=hj
  by_cases hin:i = Γ.nb<;>by_cases hjn:j = Γ.nb
  ·rw [hin,hjn]
  ·rw [hin,hβn,hβ j (by omega)] at he
   exact (hno (.inl ⟨j,by omega,he.symm⟩)).elim
  ·rw [hjn,hβn,hβ i (by omega)] at he
   exact (hno (.inl ⟨i,by omega,he⟩)).elim
  ·rw [hβ i (by omega),hβ j (by omega)] at he
   exact h.inj i j (by omega) (by omega) he
 ·intro i hi o
  have hi':i < Γ.nb+1:=hi
  by_cases hin:i = Γ.nb
  ·rw [hin,hβn];exact hm o
  ·rw [hβ i (by omega)];exact h.boxmem i (by omega) o
 ·intro r R hr'
  have hrn:r < Γ.nr:=by rw [h.nr];exact getElem?_lt hr'
  refine (h.row r R hr').lift hrn hle rfl (λ _ ob ho=>ho) (λ _ _ hm=>hm) λ hz i hi hn he=>?_
  have hi':i < Γ.nb+1:=hi
  have hin:i = Γ.nb:=by omega
  rw [hin,hβn] at he
  exact hno (.inr ⟨r,hrn,hz,he.symm⟩)
 ·rw [<- hβn,h.nb]
  exact .ptr _ _ (by show σ.bx.length < Γ.nb+1;rw [h.nb];omega)
theorem qiu {lo:Nat->Bool}:∀ {l:List Oper} {k:Nat} {o:Oper},k<QH lo l->l[k]? = some o->zK lo o.op=false
 | [],k,o,h,_=>by simp [QH] at h
 | q::l,k,o,h,ho=>by
   unfold QH at h
   split at h
   ·omega
   ·rename_i hq
    cases k with
    | zero=>cases ho;exact hq
    | succ k=>exact qiu (l:=l) (k:=k) (by omega) (by simpa using ho)
def idA (nb:Nat) (ops:Array Oper) (k:Nat):Nat:=nb+(ops.toList.take k).countP zP
theorem qkN {nb k:Nat} {o:Oper} (ho:ops[k]? = some o):idA nb ops (k+1)=idA nb ops k+(if zP o then 1 else 0):=by
 unfold idA
 have hk:k<ops.toList.length:=by have:=(Array.getElem?_eq_some_iff.1 ho).1;simpa using this
 have:ops.toList.take (k+1)=ops.toList.take k++[o]:=by
  rw [List.take_add_one,show ops.toList[k]? = some o by simpa using ho];rfl
 rw [this,List.countP_append,List.countP_singleton]
 omega
def qzR (ops:Array Oper) (P:Nat->Prop) (nb:Nat) (tm tm':List AV):Prop :=
 tm'.length=tm.length/\∀ t,(∀ (k:Nat) (o:Oper),P k->ops[k]? = some o->zP o=true->o.dst=some t->tm'.getD t .dead=if t<tm.length then .ptr (idA nb ops k) 0 else .dead) /\
  ((∀ (k:Nat) (o:Oper),P k->ops[k]? = some o->zP o=true->o.dst≠some t)->tm'.getD t .dead=tm.getD t .dead)
theorem qhw (tm:List AV) (d t:Nat) (x:AV):(tm.set d x).getD t .dead=if d=t then (if t<tm.length then x else .dead) else tm.getD t .dead:=by
 rw [List.getD_eq_getElem?_getD,List.getElem?_set]
 by_cases h:d=t
 ·rw [if_pos h,if_pos h];subst h;split<;>rfl
 ·rw [if_neg h,if_neg h,List.getD_eq_getElem?_getD]
theorem qks {n nb:Nat} (hla:∀ (j:Nat) (o:Oper),ops[j]? = some o->zP o=true->o.guard=none/\∃ d,o.dst=some d/\∀ (k:Nat) (q:Oper),ops[k]? = some q->k≠j->q.dst≠some d):∀ (rest:List Oper) (i:Nat) (s s':S),(∀ (j:Nat) (o:Oper),rest[j]? = some o->i+j<n/\ops[i+j]? = some o)->i+rest.length=n->zr C ex ops false (rest.filter zP) s=some s'->s.σ.bx.length=idA nb ops i ->
  qzR ops (λ k=>i<=k/\k<n) nb s.tm s'.tm
 | [],i,s,s',_,hn,h,_=>by
   simp only [List.filter_nil,zr,Option.some.injEq] at h
   subst h
   simp at hn
   exact ⟨rfl,λ t=>⟨λ k o hk=>by omega,λ _=>rfl⟩⟩
 | o::rest,i,s,s',hr,hn,h,hb=>by
   obtain ⟨hin,hoi⟩:=hr 0 o rfl
   have hoi:ops[i]? = some o:=by simpa using hoi
   have hr':∀ (j:Nat) (q:Oper),rest[j]? = some q->i+1+j<n/\ops[i+1+j]? = some q := λ j q hq=>by
    have:=hr (j+1) q hq
    rw [show i+1+j=i+(j+1) by omega];exact this
   have hn':i+1+rest.length=n:=by rw [<- hn];simp;omega
   cases hal:zP o with
   | false =>
     rw [List.filter_cons_of_neg (by rw [hal];exact Bool.false_ne_true)] at h
     obtain ⟨h1,h2⟩:=qks hla rest (i+1) s s' hr' hn' h (by rw [qkN hoi,hal];exact hb)
     refine ⟨h1,λ t=>⟨λ k q hk hq ha hd=>(h2 t).1 k q ⟨?_,hk.2⟩ hq ha hd,λ hno=>(h2 t).2 λ k q hk=>hno k q ⟨by omega,hk.2⟩⟩⟩
     apply Classical.byContradiction
     intro hlt
     have:k=i:=by omega
     subst this
     rw [hoi] at hq;cases hq
     rw [hal] at ha;cases ha
   | true =>
     rw [List.filter_cons_of_pos hal] at h
     obtain ⟨e,hoe⟩:=qe6 hal
     obtain ⟨hgd,d,hdst,hun⟩:=hla i o hoi hal
     simp only [zr] at h
     have hw:ya ops s.tm o=some true:=by unfold ya;rw [hgd]
     rw [hw] at h
     simp only [hoe,opA,qb] at h
     cases hd:C.ty e with
     | none=>rw [hd] at h;cases h
     | some td =>
       rw [hd] at h
       simp only at h
       cases hz:td.zero.all zO with
       | false=>rw [hz] at h;cases h
       | true =>
         rw [hz] at h
         simp only [Bool.false_and] at h
         obtain ⟨h1,h2⟩:=qks hla rest (i+1) _ s' hr' hn' h (by show (s.σ.bx++[_]).length=_;rw [qkN hoi,hal,List.length_append,hb];rfl)
         rw [hdst] at h1 h2
         have hlen:(qaj s.tm (some d) (.ptr s.σ.bx.length 0)).length=s.tm.length:=List.length_set ..
         have hget:∀ t,(qaj s.tm (some d) (.ptr s.σ.bx.length 0)).getD t .dead=if d=t then (if t<s.tm.length then .ptr s.σ.bx.length 0 else .dead) else s.tm.getD t .dead := λ t=>qhw s.tm d t _
         refine ⟨h1.trans hlen,λ t=>⟨λ k q hk hq ha hqd=>?_,λ hno=>?_⟩⟩
         ·by_cases hki:k=i
          ·subst hki
           rw [hoi] at hq;cases hq
           rw [hdst] at hqd;cases hqd
           rw [(h2 d).2 λ k' q' hk' hq' _=>hun k' q' hq' (by omega),hget,if_pos rfl,hb]
          ·rw [(h2 t).1 k q ⟨by omega,hk.2⟩ hq ha hqd,hlen]
         ·have hdt:d≠t := λ he=>hno i o ⟨Nat.le_refl _,by omega⟩ hoi hal (by rw [hdst,he])
          rw [(h2 t).2 λ k q hk=>hno k q ⟨by omega,hk.2⟩,hget,if_neg hdt]
theorem ql2 (hC:yc P C) {n nb:Nat} {Γ0:Gh} {w0:World} {a:Act} {ad:Nat->Nat}:∀ (rest:List Oper) (i:Nat) (s s':S) (σ : St) (Γ : Gh),(∀ (j:Nat) (o:Oper),rest[j]? = some o->i+j<n/\ops[i+j]? = some o)->i+rest.length=n->zr C ex ops false (rest.filter zP) s=some s' ->
  (∀ (j:Nat) (o:Oper),ops[j]? = some o->zP o=true->o.guard=none)->s.σ = σ -> s.σ.bx.length=idA nb ops i->Inv Γ σ w->qhE P Γ w0 w ops (λ k=>i<=k/\k<n) a ad->Ext Γ0 w0 Γ w ->
  ∃ Γ',Le Γ Γ'/\Ext Γ0 w0 Γ' w/\Inv Γ' s'.σ w/\qM σ s'.σ /\ ∀ (k:Nat) (o:Oper),i<=k->k<n->ops[k]? = some o->zP o=true->Rep Γ' (.ptr (idA nb ops k) 0) (.pointer (some ⟨ad k,0,none⟩))
 | [],i,s,s',σ,Γ,_,hn,h,_,hσ,_,hi,hs,he=>by
   simp only [List.filter_nil,zr,Option.some.injEq] at h
   subst h
   simp at hn
   exact ⟨Γ,.refl Γ,he,by rw [hσ];exact hi,by rw [hσ];exact .refl _,λ k o h1 h2=>by omega⟩
 | o::rest,i,s,s',σ,Γ,hr,hn,h,hg,hσ,hb,hi,hs,he=>by
   obtain ⟨hin,hoi⟩:=hr 0 o rfl
   have hoi:ops[i]? = some o:=by simpa using hoi
   have hr':∀ (j:Nat) (q:Oper),rest[j]? = some q->i+1+j<n/\ops[i+1+j]? = some q := λ j q hq=>by
    have:=hr (j+1) q hq
    rw [show i+1+j=i+(j+1) by omega];exact this
   have hn':i+1+rest.length=n:=by rw [<- hn];simp;omega
   have hs':qhE P Γ w0 w ops (λ k=>i+1<=k/\k<n) a ad:=⟨λ k o e d h1=>hs.blk k o e d ⟨by omega,h1.2⟩,λ k o e d u h1=>hs.tmp k o e d u ⟨by omega,h1.2⟩,λ k k' o o' h1 h2=>hs.inj k k' o o' ⟨by omega,h1.2⟩ ⟨by omega,h2.2⟩⟩
   cases hal:zP o with
   | false =>
     rw [List.filter_cons_of_neg (by rw [hal];exact Bool.false_ne_true)] at h
     obtain ⟨Γ',g0,g1,g2,g3,g4⟩:=ql2 hC rest (i+1) s s' σ Γ hr' hn' h hg hσ (by rw [qkN hoi,hal];exact hb) hi hs' he
     refine ⟨Γ',g0,g1,g2,g3,λ k q h1 h2 hq ha=>g4 k q ?_ h2 hq ha⟩
     apply Classical.byContradiction
     intro hlt
     have:k=i:=by omega
     subst this
     rw [hoi] at hq;cases hq
     rw [hal] at ha;cases ha
   | true =>
     rw [List.filter_cons_of_pos hal] at h
     obtain ⟨e,hoe⟩:=qe6 hal
     simp only [zr] at h
     have hw:ya ops s.tm o=some true:=by unfold ya;rw [hg i o hoi hal]
     rw [hw] at h
     simp only [hoe,opA,qb] at h
     cases hd:C.ty e with
     | none=>rw [hd] at h;cases h
     | some d =>
       rw [hd] at h
       simp only at h
       cases hz:d.zero.all zO with
       | false=>rw [hz] at h;cases h
       | true =>
         rw [hz] at h
         simp only [Bool.false_and] at h
         have htd:=hC.ty e d hd
         obtain ⟨g1,g2,g3,g4⟩:=hs.blk i o e d ⟨Nat.le_refl _,by omega⟩ hoi hoe htd hz
         obtain ⟨b1,b2⟩:=qdR (Γ := Γ) hz
         obtain ⟨Γ1,a1,a2,a3,a4,a5⟩:=qBP hi g2 g3 g4 b1 b2
         have he1:Ext Γ0 w0 Γ1 w:=⟨he.le.trans a1,he.os,he.tape,he.output,he.size,he.block,λ c hc=>by
          rcases a2 c hc with hc | rfl
          ·exact he.own c hc
          ·exact .inr g1,λ b o u hm=>by rw [a3] at hm;exact he.memg b o u hm,he.drawn⟩
         have hs1:qhE P Γ1 w0 w ops (λ k=>i+1<=k/\k<n) a ad:=⟨λ k q e' d' h1 h2 h3 h4 h5=>by
          obtain ⟨q1,q2,q3,q4⟩:=hs'.blk k q e' d' h1 h2 h3 h4 h5
          refine ⟨q1,q2,λ ho=>?_,λ j=>by rw [a3];exact q4 j⟩
          rcases a2 _ ho with ho | ho
          ·exact q3 ho
          ·have:=hs.inj k i q o ⟨by omega,h1.2⟩ ⟨Nat.le_refl _,by omega⟩ h2 hoi (by simp [zP,h3]) hal ho
           omega,hs'.tmp,hs'.inj⟩
         obtain ⟨Γ2,c0,c1,c2,c3,c4⟩:=ql2 hC rest (i+1) _ s' { σ with bx := σ.bx++[d.zero.map .v] } Γ1 hr' hn' h hg (by simp only;rw [hσ]) (by show (s.σ.bx++[_]).length=_;rw [qkN hoi,hal,List.length_append,hb];rfl) a4 hs1 he1
         have hk0:qM σ { σ with bx := σ.bx++[d.zero.map .v] }:=⟨by simp,Nat.le_refl _,λ j hj _=>by simp only [List.getElem?_append_left hj],λ _ _ _=>rfl,λ _ h=>h,λ _ h=>h⟩
         refine ⟨Γ2,a1.trans c0,c1,c2,hk0.trans c3,λ k q h1 h2 hq ha=>?_⟩
         by_cases hki:k=i
         ·subst hki
          rw [<- hb,hσ]
          exact a5.mono c0
         ·exact c4 k q (by omega) h2 hq ha
theorem qpj {s':S}:∀ (rest:List Oper) (s:S),zr C ex ops false (rest.filter zP) s=some s'->(∀ o∈rest,zP o=true->o.guard=none)->∀ o∈rest,∀ e,o.op = .alloc e->∃ d,C.ty e=some d/\d.zero.all zO=true
 | [],_,_,_,o,ho,_,_=>by cases ho
 | q::rest,s,h,hg,o,ho,e,hoe=>by
   cases hal:zP q with
   | false =>
     rw [List.filter_cons_of_neg (by rw [hal];exact Bool.false_ne_true)] at h
     rcases List.mem_cons.1 ho with rfl | ho
     ·simp [zP,hoe] at hal
     ·exact qpj rest s h (λ o ho=>hg o (List.mem_cons_of_mem _ ho)) o ho e hoe
   | true =>
     rw [List.filter_cons_of_pos hal] at h
     obtain ⟨e',hqe⟩:=qe6 hal
     simp only [zr] at h
     have hw:ya ops s.tm q=some true:=by unfold ya;rw [hg q (List.mem_cons_self ..) hal]
     rw [hw] at h
     simp only [hqe,opA,qb] at h
     cases hd:C.ty e' with
     | none=>rw [hd] at h;cases h
     | some d =>
       rw [hd] at h
       simp only at h
       cases hz:d.zero.all zO with
       | false=>rw [hz] at h;cases h
       | true =>
         rw [hz] at h
         simp only [Bool.false_and] at h
         rcases List.mem_cons.1 ho with rfl | ho
         ·rw [hqe] at hoe;cases hoe;exact ⟨d,hd,hz⟩
         ·exact qpj rest _ h (λ o ho=>hg o (List.mem_cons_of_mem _ ho)) o ho e hoe
theorem qCD {lB:List (AV × Option St)} {s0B:S} {L:Nat->Bool} {n:Nat} (h:∀ i,n<=i->L i=false):∀ m,F ops.toList lB s0B L (n+m)=F ops.toList lB s0B L n
 | 0=>rfl
 | m+1=>by
   show F ops.toList lB s0B L (n+m+1)=_
   simp only [F]
   rw [h (n+m) (by omega)]
   split
   ·rename_i hf;cases hf
   ·exact qCD h m
def qmY (ops:Array Oper) (n nb:Nat) (lA lS:List (AV × Option St)):List (AV × Option St) :=
 (List.range n).map (λ k=>match ops[k]? with
  | some o=>match zP o with
    | true=>(AV.ptr (idA nb ops k) 0,none)
    | false=>lA.getD k (.dead,none)
  | none=>(.dead,none))++lS
theorem qjP {n nb k:Nat} {lA lS:List (AV × Option St)} {o:Oper} (hk:k<n) (ho:ops[k]? = some o):(qmY ops n nb lA lS)[k]? = some (match zP o with
  | true=>(AV.ptr (idA nb ops k) 0,none)
  | false=>lA.getD k (.dead,none)):=by
 unfold qmY
 rw [List.getElem?_append_left (by simpa using hk),List.getElem?_map,List.getElem?_range hk]
 simp only [Option.map_some,ho]
theorem qpo {n nb k:Nat} {lA lS:List (AV × Option St)}:(qmY ops n nb lA lS)[n+k]? = lS[k]? := by
 unfold qmY
 rw [List.getElem?_append_right (by simp)]
 simp
theorem qzt {n nb:Nat} {lA lS:List (AV × Option St)} {s0 s0B:S} (htm:s0B.tm=s0.tm) (hn:n=QH C.lo ops.toList) (hA:qmN C ⟨qR C.lo ops.toList⟩ lA) (hla:∀ (j:Nat) (o:Oper),ops[j]? = some o->zP o=true->o.guard=none/\∃ d,o.dst=some d/\∀ (k:Nat) (q:Oper),ops[k]? = some q->k≠j->q.dst≠some d)
  (L:Nat->Bool):∀ k,k<=n->qzR ops (λ i=>i<k/\L i=true) nb (F (qR C.lo ops.toList) lA s0 L k).tm (F ops.toList (qmY ops n nb lA lS) s0B L k).tm
 | 0,_=>⟨by show s0B.tm.length=s0.tm.length;rw [htm],λ t=>⟨λ k o hk=>by omega,λ _=>by show s0B.tm.getD t _=s0.tm.getD t _;rw [htm]⟩⟩
 | k+1,hk=>by
   obtain ⟨h1,h2⟩:=qzt (lS:=lS) htm hn hA hla L k (by omega)
   have hcut:QH C.lo ops.toList<=ops.size:=by simpa using qhH C.lo ops.toList
   obtain ⟨o,ho⟩:=y8 (ops:=ops) (k:=k) (by omega)
   have hoL:ops.toList[k]? = some o:=by simpa using ho
   have hpk:(qR C.lo ops.toList)[k]? = some (yq o):=by rw [qeL (by omega),hoL];rfl
   obtain ⟨y,hy,_⟩:=hA k (yq o) (by simpa using hpk)
   have hB:=qjP (n:=n) (nb:=nb) (lA:=lA) (lS:=lS) (k:=k) (by omega) ho
   simp only [F,hpk,hy,hoL,hB]
   cases hLk:L k with
   | false =>
     refine ⟨h1,λ t=>⟨λ i q hi=>(h2 t).1 i q ⟨?_,hi.2⟩,λ hno=>(h2 t).2 λ i q hi=>hno i q ⟨by omega,hi.2⟩⟩⟩
     apply Classical.byContradiction
     intro hlt
     have:i=k:=by omega
     subst this
     rw [hLk] at hi;exact Bool.false_ne_true hi.2
   | true =>
     simp only [z8,qlP]
     cases hal:zP o with
     | true =>
       obtain ⟨_,d,hd,hun⟩:=hla k o ho hal
       simp only [hd,qaj]
       refine ⟨by rw [List.length_set,List.length_set,h1],λ t=>⟨λ i q hi hq ha hqd=>?_,λ hno=>?_⟩⟩
       ·rw [qhw,List.length_set]
        by_cases hik:i=k
        ·subst hik
         rw [ho] at hq;cases hq
         rw [hd] at hqd;cases hqd
         rw [if_pos rfl,h1]
        ·have hdt:d≠t := λ he=>hun i q hq hik (by rw [hqd,he])
         rw [if_neg hdt]
         exact (h2 t).1 i q ⟨by omega,hi.2⟩ hq ha hqd
       ·have hdt:d≠t := λ he=>hno k o ⟨by omega,hLk⟩ ho hal (by rw [hd,he])
        rw [qhw,if_neg hdt,qhw,if_neg hdt]
        exact (h2 t).2 λ i q hi=>hno i q ⟨by omega,hi.2⟩
     | false =>
       have hyB:lA.getD k (.dead,none)=y:=by rw [List.getD_eq_getElem?_getD,hy];rfl
       rw [hyB]
       cases hd:o.dst with
       | none =>
         refine ⟨h1,λ t=>⟨λ i q hi hq ha hqd=>(h2 t).1 i q ⟨?_,hi.2⟩ hq ha hqd,λ hno=>(h2 t).2 λ i q hi=>hno i q ⟨by omega,hi.2⟩⟩⟩
         apply Classical.byContradiction
         intro hlt
         have:i=k:=by omega
         subst this
         rw [ho] at hq;cases hq
         rw [hal] at ha;cases ha
       | some d =>
         simp only [qaj]
         refine ⟨by rw [List.length_set,List.length_set,h1],λ t=>⟨λ i q hi hq ha hqd=>?_,λ hno=>?_⟩⟩
         ·have hik:i≠k := λ he=>by subst he;rw [ho] at hq;cases hq;rw [hal] at ha;cases ha
          obtain ⟨_,d',hd',hun⟩:=hla i q hq ha
          rw [hqd] at hd';cases hd'
          have hdt:d≠t := λ he=>hun k o ho (Ne.symm hik) (by rw [hd,he])
          rw [qhw,if_neg hdt,List.length_set]
          exact (h2 t).1 i q ⟨by omega,hi.2⟩ hq ha hqd
         ·rw [qhw,qhw,h1]
          split
          ·rfl
          ·exact (h2 t).2 λ i q hi=>hno i q ⟨by omega,hi.2⟩
theorem qeB {n:Nat} {lB:List (AV × Option St)} {s0B:S} {L:Nat->Bool} (h:∀ k y,k<n->lB[k]? = some y->y.2=none):∀ k,k<=n->(F ops.toList lB s0B L k).σ = s0B.σ
 | 0,_=>rfl
 | k+1,hk=>by
   simp only [F]
   split
   ·rename_i o y _ hy _
    rw [putS_σ _ _ _ (h k y (by omega) hy)]
    exact qeB h k (by omega)
   ·exact qeB h k (by omega)
theorem recB_σ {n nb:Nat} {lA lS:List (AV × Option St)} (hn:n=QH C.lo ops.toList) (hA:qmN C ⟨qR C.lo ops.toList⟩ lA):∀ k y,k<n->(qmY ops n nb lA lS)[k]? = some y->y.2=none:=by
 intro k y hk hy
 have hcut:QH C.lo ops.toList<=ops.size:=by simpa using qhH C.lo ops.toList
 obtain ⟨o,ho⟩:=y8 (ops:=ops) (k:=k) (by omega)
 have hoL:ops.toList[k]? = some o:=by simpa using ho
 rw [qjP hk ho] at hy
 cases hal:zP o with
 | true=>rw [hal] at hy;cases hy;rfl
 | false =>
   rw [hal] at hy
   have hpk:(qR C.lo ops.toList)[k]? = some (yq o):=by rw [qeL (by omega),hoL];rfl
   obtain ⟨z,hz,hlz⟩:=hA k (yq o) (by simpa using hpk)
   simp only [List.getD_eq_getElem?_getD,hz,Option.getD_some,Option.some.injEq] at hy
   subst hy
   have hdo:yq o=o:=by unfold yq;rw [hal]
   rw [hdo,qiu (by omega) hoL] at hlz
   cases hz2:z.2 with
   | none=>rfl
   | some σ'=>rw [hz2] at hlz;exact absurd (hlz rfl) Bool.false_ne_true
theorem lA_σ {n:Nat} {lA:List (AV × Option St)} (hn:n=QH C.lo ops.toList) (hA:qmN C ⟨qR C.lo ops.toList⟩ lA):∀ k y,k<n->lA[k]? = some y->y.2=none:=by
 intro k y hk hy
 have hcut:QH C.lo ops.toList<=ops.size:=by simpa using qhH C.lo ops.toList
 obtain ⟨o,ho⟩:=y8 (ops:=ops) (k:=k) (by omega)
 have hoL:ops.toList[k]? = some o:=by simpa using ho
 have hpk:(qR C.lo ops.toList)[k]? = some (yq o):=by rw [qeL (by omega),hoL];rfl
 obtain ⟨z,hz,hlz⟩:=hA k (yq o) (by simpa using hpk)
 rw [hy] at hz;cases hz
 have hq:zK C.lo (yq o).op=false:=by
  unfold yq
  split
  ·rfl
  ·exact qiu (by omega) hoL
 rw [hq] at hlz
 cases hz2:y.2 with
 | none=>rfl
 | some σ'=>rw [hz2] at hlz;exact absurd (hlz rfl) Bool.false_ne_true
theorem qAq (hC:yc P C) (hx:qbj P ex) {id:Nat} {s s1 s2 s':S} (hlate:qfz C.lo ops.toList=true) (hk0:JZ C.lo s.tm ops true=true) (hk:JZ C.lo s.tm ⟨qR C.lo ops.toList⟩ true=true) (h:zr C ex ⟨qR C.lo ops.toList⟩ true (qR C.lo ops.toList) s=some s1) (hm:zr C ex ops false (alL C.lo ops.toList) s1=some s2) (h':zr C ex ops true (qmC C.lo ops.toList) s2=some s') {a:Act} {Q:Exit->Act->World->Prop} (hi:Inv Γ s.σ w) (ht:zg Γ s.tm a)
  (hq:∀ Γ' w' a',Ext Γ w Γ' w'->Inv Γ' s'.σ w'->zg Γ' s'.tm a'->qM s.σ s'.σ -> a'.defers=a.defers->Q .normal a' w'):(Code.region id ops true).wp P Q a w:=by
 obtain ⟨lA,h1,h2,h3,h4⟩:=qfA (qR C.lo ops.toList) s s1 h
 obtain ⟨lS,e1,e2,e3,_⟩:=qfA (qmC C.lo ops.toList) s2 s' h'
 have hT:qbp C ex ⟨qR C.lo ops.toList⟩ lA s:=qm1 h3 h4
 rw [qor] at h2
 have hk:J1 C.lo s.tm ⟨qR C.lo ops.toList⟩=true:=hk
 have hk0:J1 C.lo s.tm ops=true:=hk0
 obtain ⟨hlp,hlm,hla⟩:=qtN hlate
 generalize hn:QH C.lo ops.toList=n at h2 hlm
 have hcut:n<=ops.size:=by rw [<- hn];simpa using qhH C.lo ops.toList
 have hg:∀ (j:Nat) (o:Oper),ops[j]? = some o->zP o=true->o.guard=none := λ j o ho ha=>(hla j o ho ha).1
 have htk:∀ (j:Nat) (o:Oper),(ops.toList.take n)[j]? = some o->0+j<n/\ops[0+j]? = some o := λ j o ho=>by
  rw [Nat.zero_add]
  rw [List.getElem?_take] at ho
  split at ho
  ·exact ⟨‹_›,by simpa using ho⟩
  ·cases ho
 have htl:0+(ops.toList.take n).length=n:=by simp;omega
 have hm:zr C ex ops false ((ops.toList.take n).filter zP) s1=some s2:=by rw [<- hn];exact hm
 have hsuf:qmC C.lo ops.toList=ops.toList.drop n:=by unfold qmC;rw [hn]
 rw [hsuf] at e1 e2 e3
 have hz:∀ k o e,k<QH C.lo ops.toList->ops[k]? = some o->o.op = .alloc e->∃ d,yM P e=some d/\d.zero.all zO=true := λ k o e hk ho hoe=>by
  rw [hn] at hk
  have hmem:o∈ops.toList.take n:=List.mem_of_getElem? (i:=k) (by rw [List.getElem?_take,if_pos hk];simpa using ho)
  obtain ⟨d,g1,g2⟩:=qpj _ s1 hm (λ q hq hqa=>by
   obtain ⟨j,hj⟩:=List.getElem?_of_mem hq
   exact hg (0+j) q (htk j q hj).2 hqa) o hmem e hoe
  exact ⟨d,hC.ty e d g1,g2⟩
 have hs1σ : ∀ L k,k<=n->(F (qR C.lo ops.toList) lA s L k).σ = s.σ := λ L k hkn=>qeB (ops:=⟨qR C.lo ops.toList⟩) (lA_σ hn.symm hT.recd) k hkn
 have hF0:∀ k,F (qR C.lo ops.toList) lA s (λ i=>(Array.replicate ops.size false).getD i false) k=s:=by
  intro k
  induction k with
  | zero=>rfl
  | succ k ih =>
    simp only [F]
    have:(Array.replicate ops.size false).getD k false=false:=by
     rw [Array.getD_eq_getD_getElem?,Array.getElem?_replicate];split<;>rfl
    rw [this]
    split
    ·rename_i hf;cases hf
    ·exact ih
 have hnone:∀ i,(Array.replicate ops.size false).getD i false=false := λ i=>by
  rw [Array.getD_eq_getD_getElem?,Array.getElem?_replicate];split<;>rfl
 have hs1:s1.σ = s.σ := by rw [<- h2];exact hs1σ _ _ (Nat.le_refl _)
 let nb:=s.σ.bx.length
 have hid0:s1.σ.bx.length=idA nb ops 0:=by rw [hs1];rfl
 let lB:=qmY ops n nb lA lS
 let s0B:S:=⟨s.tm,s2.σ⟩
 have hBσ : ∀ k y,k<n->lB[k]? = some y->y.2=none:=recB_σ hn.symm hT.recd
 have hbx:∀ L k,k<=n->qzR ops (λ i=>i<k/\L i=true) nb (F (qR C.lo ops.toList) lA s L k).tm (F ops.toList lB s0B L k).tm:=qzt rfl hn.symm hT.recd hla
 have hs2:F ops.toList lB s0B ql n=s2:=by
  have hr:=qks (nb:=nb) hla (ops.toList.take n) 0 s1 s2 htk htl hm hid0
  have hb:=hbx ql n (Nat.le_refl _)
  rw [h2] at hb
  have hσ : (F ops.toList lB s0B ql n).σ = s2.σ := qeB hBσ n (Nat.le_refl _)
  have htm:(F ops.toList lB s0B ql n).tm=s2.tm:=by
   have hlen:(F ops.toList lB s0B ql n).tm.length=s2.tm.length:=by rw [hb.1,hr.1]
   have hget:∀ t,(F ops.toList lB s0B ql n).tm.getD t .dead=s2.tm.getD t .dead := λ t=>by
    by_cases hex:∃ (k:Nat) (o:Oper),k<n/\ops[k]? = some o/\zP o=true/\o.dst=some t
    ·obtain ⟨k,o,q1,q2,q3,q4⟩:=hex
     rw [(hb.2 t).1 k o ⟨q1,rfl⟩ q2 q3 q4,(hr.2 t).1 k o ⟨Nat.zero_le _,q1⟩ q2 q3 q4]
    ·rw [(hb.2 t).2 λ k o hk q2 q3 q4=>hex ⟨k,o,hk.1,q2,q3,q4⟩,(hr.2 t).2 λ k o hk q2 q3 q4=>hex ⟨k,o,hk.2,q2,q3,q4⟩]
   apply List.ext_getElem hlen
   intro i g1 g2
   have:=hget i
   rw [List.getD_eq_getElem?_getD,List.getD_eq_getElem?_getD,List.getElem?_eq_getElem g1,List.getElem?_eq_getElem g2] at this
   exact this
  show F ops.toList lB s0B ql n=s2
  generalize F ops.toList lB s0B ql n=z at *
  obtain ⟨z1,z2⟩:=z
  obtain ⟨q1,q2⟩:=s2
  simp only at hσ htm
  rw [hσ,htm]
 have hsufF:∀ i,i<=(ops.toList.drop n).length->F ops.toList lB s0B ql (n+i)=F (ops.toList.drop n) lS s2 ql i:=by
  intro i
  induction i with
  | zero=>intro _;exact hs2
  | succ i ih =>
    intro hle
    show F ops.toList lB s0B ql (n+i+1)=_
    have hl:lB[n+i]? = lS[i]? := qpo
    simp only [F,List.getElem?_drop,hl,ih (by omega)]
    rfl
 have hlen:n+(ops.toList.drop n).length=ops.size:=by simp;omega
 have hend:F ops.toList lB s0B ql ops.size=s':=by rw [<- hlen,hsufF _ (Nat.le_refl _)];exact e2
 have hRec:qmN C ops lB:=by
  intro i o ho
  have his:i<ops.size:=(Array.getElem?_eq_some_iff.1 ho).1
  by_cases hin:i<n
  ·have hy:=qjP (nb:=nb) (lA:=lA) (lS:=lS) hin ho
   exact ⟨_,hy,λ hs=>by rw [hBσ i _ hin hy] at hs;cases hs⟩
  ·obtain ⟨j,rfl⟩:∃ j,i=n+j:=⟨i-n,by omega⟩
   obtain ⟨y,g1,_,g3⟩:=e3 j o (by rw [List.getElem?_drop];simpa using ho)
   exact ⟨y,by rw [<- g1];exact qpo,g3⟩
 have hstep:∀ (L:Nat->Bool) (j:Nat) (o:Oper),qbA ops L->(∀ (i:Nat) (q:Oper),i<n->ops[i]? = some q->qcz ops.toList q=false->L i=true)->ops[j]? = some o->L j=false->(∀ e∈yO o,L e=true) ->
   ∃ y,JW C ex ops o (F ops.toList lB s0B L ops.size) y/\F ops.toList lB s0B (λ i=>decide (i=j)||L i) ops.size=z8 (F ops.toList lB s0B L ops.size) o y:=by
  intro L j o hd hgood ho hL hp
  have hjs:j<ops.size:=(Array.getElem?_eq_some_iff.1 ho).1
  obtain ⟨y,hy,hly⟩:=hRec j o ho
  refine ⟨y,?_,qyH (s0:=s0B) hRec hk0 hd ho hL hp hy hly⟩
  have hslot:∀ t∈qcG ops o,(F ops.toList lB s0B L ops.size).tm.getD t .dead=(F ops.toList lB s0B ql j).tm.getD t .dead := λ t ht=>qm3 (s0:=s0B) hRec hk0 hd ho hL hp ht
  by_cases hjn:j<n
  ·-- it qcG at no memory
   have hf:qcz ops.toList o=true:=by
    cases hf:qcz ops.toList o with
    | true=>rfl
    | false=>rw [hgood j o hjn ho hf] at hL;cases hL
   unfold qcz at hf
   simp only [Bool.and_eq_true,Bool.not_eq_true',List.all_eq_true,Bool.or_eq_true] at hf
   obtain ⟨f1,f2,f3⟩:=hf
   have hoL:ops.toList[j]? = some o:=by simpa using ho
   have hpk:(qR C.lo ops.toList)[j]? = some o:=by
    rw [qeL (by omega),hoL]
    show some (yq o)=_
    unfold yq;rw [f2]
   have hpA:(⟨qR C.lo ops.toList⟩:Array Oper)[j]? = some o:=by simpa using hpk
   obtain ⟨z,z1,z2,z3⟩:=hT.st j o hpA
   have hyz:y=z:=by
    have:=qjP (nb:=nb) (lA:=lA) (lS:=lS) hjn ho
    rw [f2] at this
    have hz:lA.getD j (.dead,none)=z:=by rw [List.getD_eq_getElem?_getD,z1];rfl
    simp only [hz] at this
    have hy:(qmY ops n nb lA lS)[j]? = some y:=hy
    rw [this] at hy;cases hy;rfl
   subst hyz
   have hsame:∀ t∈qcG ops o,(F ops.toList lB s0B L ops.size).tm.getD t .dead=(F (qR C.lo ops.toList) lA s ql j).tm.getD t .dead := λ t ht=>by
    rw [hslot t ht]
    refine ((hbx ql j (by omega)).2 t).2 λ k q hkk hq hqa hqd=>?_
    have hqm:q∈ops.toList:=List.mem_of_getElem? (i:=k) (by simpa using hq)
    rcases f3 q hqm with h0 | h0
    ·rw [hqa] at h0;cases h0
    ·rw [hqd] at h0
     simp only [Bool.not_eq_true',List.contains_eq_mem,decide_eq_false_iff_not] at h0
     exact h0 ht
   have hw:∀ b,ya ⟨qR C.lo ops.toList⟩ (F (qR C.lo ops.toList) lA s ql j).tm o=some b->ya ops (F ops.toList lB s0B L ops.size).tm o=some b := λ b hb=>by
    rw [qj9 hsame]
    have hdo:yq o=o:=by unfold yq;rw [f2]
    exact qku (by rw [hdo];exact hb)
   rcases z2 with ⟨g1,g2⟩ | ⟨g1,g2⟩
   ·refine .inl ⟨hw _ g1,?_⟩
    have hops:=qoI (C:=C) (ex:=ex) (op:=o.op) (σ := (F ops.toList lB s0B L ops.size).σ) (qlQ (xs:=o.op.operands.toList) λ t ht=>hsame t (by
     simp only [qcG,List.mem_append];exact .inl (.inr ht)))
    rw [hops]
    obtain ⟨x,zz⟩:=y
    cases zz with
    | none=>exact qx0 f1 (qiu (by omega) hoL) g2
    | some σ'=>have:=lA_σ hn.symm hT.recd j _ hjn z1;cases this
   ·exact .inr ⟨hw _ g1,g2⟩
  ·obtain ⟨i,rfl⟩:∃ i,j=n+i:=⟨j-n,by omega⟩
   have hdl:i<(ops.toList.drop n).length:=by omega
   obtain ⟨z,z1,z2,z3⟩:=e3 i o (by rw [List.getElem?_drop];simpa using ho)
   have hyz:y=z:=by
    have:lB[n+i]? = lS[i]? := qpo
    rw [this,z1] at hy;cases hy;rfl
   subst hyz
   rw [<- hsufF i (by omega)] at z2
   have hσ : (F ops.toList lB s0B L ops.size).σ = (F ops.toList lB s0B ql (n+i)).σ := by
    have hlow:∀ m,n<=m->m<n+i->L m=true := λ m hm1 hm2=>by
     rcases hlm (n+i) o ho (by omega) m hm2 with hb | ⟨hb,_⟩
     ·exact qkL hd (n+i) o ho hp hb
     ·omega
    have hhigh:∀ m,n+i<m->m<ops.size->L m=false := λ m hm1 hm2=>by
     obtain ⟨q,hq⟩:=y8 (ops:=ops) (k:=m) hm2
     cases hLm:L m with
     | false=>rfl
     | true =>
       rcases hlm m q hq (by omega) (n+i) hm1 with hb | ⟨hb,_⟩
       ·have:=qkL hd m q hq (hd m q hq hLm) hb
        rw [hL] at this;cases this
       ·omega
    have k1:∀ m,m<=i->(F ops.toList lB s0B L (n+m)).σ = (F ops.toList lB s0B ql (n+m)).σ := by
     intro m
     induction m with
     | zero=>intro _;rw [Nat.add_zero,qeB hBσ n (Nat.le_refl _),qeB hBσ n (Nat.le_refl _)]
     | succ m ih =>
       intro hle
       obtain ⟨q,hq⟩:=y8 (ops:=ops) (k:=n+m) (by omega)
       obtain ⟨y',_,_,hF⟩:=JV (s0:=s0B) hRec hq
       show (F ops.toList lB s0B L (n+m+1)).σ = (F ops.toList lB s0B ql (n+m+1)).σ
       rw [hF L,hF ql,if_pos (hlow (n+m) (by omega) (by omega)),if_pos (show ql (n+m)=true from rfl)]
       show turn _ _=turn _ _
       rw [ih (by omega)]
    have k2:∀ m,n+i+m<=ops.size->(F ops.toList lB s0B L (n+i+m)).σ = (F ops.toList lB s0B L (n+i)).σ := by
     intro m
     induction m with
     | zero=>intro _;rfl
     | succ m ih =>
       intro hle
       obtain ⟨q,hq⟩:=y8 (ops:=ops) (k:=n+i+m) (by omega)
       obtain ⟨y',_,_,hF⟩:=JV (s0:=s0B) hRec hq
       show (F ops.toList lB s0B L (n+i+m+1)).σ = _
       have hf:L (n+i+m)=false:=by
        cases m with
        | zero=>exact hL
        | succ m=>exact hhigh _ (by omega) (by omega)
       rw [hF L,hf]
       simp only [Bool.false_eq_true,if_false]
       exact ih (by omega)
    have:=k2 (ops.size-(n+i)) (by omega)
    rw [show n+i+(ops.size-(n+i))=ops.size by omega] at this
    rw [this,k1 i (Nat.le_refl _)]
   have hwc:=qj9 (ops:=ops) (o:=o) hslot
   have hops:=qoI (C:=C) (ex:=ex) (op:=o.op) (σ := (F ops.toList lB s0B L ops.size).σ) (qlQ (xs:=o.op.operands.toList) λ t ht=>hslot t (by
    simp only [qcG,List.mem_append];exact .inl (.inr ht)))
   rcases z2 with ⟨g1,g2⟩ | ⟨g1,g2⟩
   ·refine .inl ⟨by rw [hwc];exact g1,?_⟩
    rw [hops,hσ];exact g2
   ·exact .inr ⟨by rw [hwc];exact g1,g2⟩
 refine wp_region_any hC.mixed ?_
 refine qHe hC hx hT hk hlate hz (w0:=w) hn.symm ops.size _ Γ _ a (λ _=>0) (by simp) (by rw [Array.toList_replicate,List.countP_replicate];simp) (λ i _=>hnone i) ?_ ?_ ?_ ?_ (Nat.le_refl _) ?_
 ·intro i q hq' hi'
  exfalso
  have hi':(Array.replicate ops.size false).getD i false=true:=hi'
  rw [hnone] at hi';cases hi'
 ·rw [hF0];exact hi.drew
 ·rw [hF0];exact ht
 ·exact ⟨λ k o e d h=>(by rw [hnone] at h;cases h),λ k o e d u h=>(by rw [hnone] at h;cases h),λ k k' o o' h=>(by rw [hnone] at h;cases h)⟩
 ·intro fuel' listed' Γ1 w1 a1 ad1 x1 x2 x3 x4 x5 x6 x7 x8 x9 x10 x11
  have x6':Ext Γ w Γ1 w1:=(Ext.drew Γ w).trans x6
  have hborn:∀ (k:Nat) (o:Oper),k<n->ops[k]? = some o->zP o=true->listed'.getD k false=true := λ k o q1 q2 q3=>x4 k o q1 q2 (by unfold qcz;rw [q3];simp)
  have hside:qhE P Γ1 w w1 ops (λ k=>0<=k/\k<n) a1 ad1:=⟨λ k o e d hh g1 g2=>x9.blk k o e d (hborn k o hh.2 g1 (by simp [zP,g2])) g1 g2,λ k o e d u hh g1 g2=>x9.tmp k o e d u (hborn k o hh.2 g1 (by simp [zP,g2])) g1 g2,λ k k' o o' hh hh' g1 g2 g3 g4=>x9.inj k k' o o' (hborn k o hh.2 g1 g3) (hborn k' o' hh'.2 g2 g4) g1 g2 g3 g4⟩
  rw [hs1σ _ _ (Nat.le_refl _)] at x7
  obtain ⟨Γ2,c0,c1,c2,c3,c4⟩:=ql2 hC (n:=n) (nb:=nb) (ad:=ad1) (ops.toList.take n) 0 s1 s2 s.σ Γ1 htk htl hm hg hs1 hid0 x7 hside x6'
  have hFB:F ops.toList lB s0B (λ i=>listed'.getD i false) ops.size=F ops.toList lB s0B (λ i=>listed'.getD i false) n:=by
   have:=qCD (ops:=ops) (lB:=lB) (s0B:=s0B) (L := λ i=>listed'.getD i false) (n:=n) x3 (ops.size-n)
   rw [show n+(ops.size-n)=ops.size by omega] at this
   exact this
  have hFσ : (F ops.toList lB s0B (λ i=>listed'.getD i false) ops.size).σ = s2.σ := by rw [hFB];exact qeB hBσ n (Nat.le_refl _)
  refine qyJ hC hx (l:=lB) (s0:=s0B) (Good := λ L=>∀ (i:Nat) (q:Oper),i<n->ops[i]? = some q->qcz ops.toList q=false->L i=true) (λ L j hg i q q1 q2 q3=>by simp [hg i q q1 q2 q3]) hlp hstep fuel' listed' Γ2 w1 a1 x1 x2 x5 x4 (by rw [hFσ];exact c2) ?_ ?_
  ·-- the slots
   rw [hFB]
   obtain ⟨b1,b2⟩:=hbx (λ i=>listed'.getD i false) n (Nat.le_refl _)
   have ht':RepL Γ2 (F (qR C.lo ops.toList) lA s (λ i=>listed'.getD i false) n).tm a1.tmps.toList:=RepL.mono c0 x8
   refine ⟨by rw [b1];exact ht'.len,λ t x u hx hu=>?_⟩
   have htl:=getElem?_lt hx
   have hxd:(F ops.toList lB s0B (λ i=>listed'.getD i false) n).tm.getD t .dead=x:=by rw [List.getD_eq_getElem?_getD,hx];rfl
   by_cases hex:∃ (k:Nat) (o:Oper),k<n/\ops[k]? = some o/\zP o=true/\o.dst=some t
   ·obtain ⟨k,o,q1,q2,q3,q4⟩:=hex
    rw [(b2 t).1 k o ⟨q1,hborn k o q1 q2 q3⟩ q2 q3 q4,if_pos (by rw [<- b1];exact htl)] at hxd
    obtain ⟨e,hoe⟩:=qe6 q3
    have hp:=hside.tmp k o e t u ⟨Nat.zero_le _,q1⟩ q2 hoe q4 (by simpa using hu)
    rw [<- hxd,hp]
    exact c4 k o (Nat.zero_le _) q1 q2 q3
   ·rw [(b2 t).2 λ k o hkk q2 q3 q4=>hex ⟨k,o,hkk.1,q2,q3,q4⟩] at hxd
    have hta:t<(F (qR C.lo ops.toList) lA s (λ i=>listed'.getD i false) n).tm.length:=by rw [<- b1];exact htl
    rw [List.getD_eq_getElem?_getD,List.getElem?_eq_getElem hta] at hxd
    exact ht'.rep t x u (by rw [List.getElem?_eq_getElem hta];exact congrArg some hxd) hu
  ·intro Γ' w' a' g1 g2 g3 g4 g5
   rw [hend] at g2 g3 g4
   rw [hFσ] at g4
   exact hq Γ' w' a' (c1.trans g1) g2 g3 (c3.trans g4) (by rw [g5,x11])
end
end Go.AmZ
namespace Go.AmZ
open Go Go.RowKit
def qDV:AV->Bool
 | .rpt _ _ _ _=>true
 | .ept _ _=>true
 | _=>false
theorem qBB {o:Oper} {a:Tmp × Operand} (h:stP o=some a):(∃ t,o.op = .store t (.tmp a.1) a.2)/\o.guard=none/\o.dst=none:=by
 unfold stP at h
 split at h
 ·rename_i hop
  split at h
  ·rename_i h1 h2
   cases h
   exact ⟨⟨_,hop⟩,h1,h2⟩
  ·cases h
 ·cases h
theorem qHv {o:Oper} {d:Tmp} (h:ixP o=some d):(∃ t x i,o.op = .indexAddr t x i)/\o.guard=none/\o.dst=some d:=by
 unfold ixP at h
 split at h
 ·rename_i hop
  split at h
  ·rename_i h1 h2
   cases h
   exact ⟨⟨_,_,_,hop⟩,h1,h2⟩
  ·cases h
 ·cases h
theorem qtH:∀ {m b:Nat},qoV m b=true->∀ i,i<m->b.testBit i=true
 | 0,_,_,i,hi=>absurd hi (Nat.not_lt_zero _)
 | m+1,b,h,i,hi=>by
   simp only [qoV,Bool.and_eq_true] at h
   rcases Nat.lt_succ_iff_lt_or_eq.1 hi with hi | rfl
   ·exact qtH h.2 i hi
   ·exact h.1
theorem qzv {ops:Array Oper} {dr:Bool} {b:Tmp} (h:qmR ops dr=some b):dr=true/\∃ p o q d v6 v7,qd3 ops=[p,o,q]/\ixP p=some d/\stP o=some (d,v6)/\stP q=some (b,v7)/\b≠d/\qAR d v7=true/\qzO (Qq ops.toList []) (ops.toList.length-3) p o q=true:=by
 unfold qmR at h
 split at h
 ·refine ⟨rfl,?_⟩
  unfold qH6 at h
  split at h
  ·rename_i p o q hl
   split at h
   ·rename_i d a b' h0 h1 h2
    split at h
    ·rename_i hk
     cases h
     simp only [Bool.and_eq_true,Bool.not_eq_true'] at hk
     obtain ⟨⟨k1,k2,k3⟩,k4⟩:=hk
     have e1:a.1=d:=Nat.eq_of_beq_eq_true k1
     refine ⟨p,o,q,d,a.2,b'.2,hl,h0,by rw [h1,<- e1],h2,?_,k3,k4⟩
     intro he
     rw [he,Nat.beq_refl] at k2
     cases k2
    ·cases h
   ·cases h
  ·cases h
 ·cases h
section
variable {P:Program} {C:Cfg} {Γ : Gh} {σ : St} {w:World} {ops pre:Array Oper} {ex:Qd} {l:List (AV × Option St)} {s0:S}
theorem qHp {tm:List AV} {σ':St} {t:TypeId} {a:Tmp} {v:Operand} {b off:Nat} {x:AV} {z:Option St} (h:opA C ex tm σ (.store t (.tmp a) v)=some (x,z)) (ha:tm.getD a .dead = .ptr b off) :
  ∃ cs,z=some { σ with bx := σ.bx.set b cs,wr:=b :: σ.wr }/\∀ (tm':List AV) (τ : St),aev tm' (.tmp a)=aev tm (.tmp a)->aev tm' v=aev tm v -> τ.bx = σ.bx->opA C ex tm' τ (.store t (.tmp a) v)=some (x,some { τ with bx := τ.bx.set b cs,wr:=b :: τ.wr }):=by
 have hv:aev tm (.tmp a) = .ptr b off:=ha
 simp only [opA,qb,hv] at h
 cases hd:C.ty t with
 | none=>rw [hd] at h;cases h
 | some d =>
   rw [hd] at h
   simp only at h
   cases hcs : σ.bx[b]? with
   | none=>rw [hcs] at h;cases h
   | some cs =>
     rw [hcs] at h
     simp only at h
     split at h<;>cases h
     rename_i hg
     refine ⟨_,rfl,λ tm' τ h1 h2 hτ => ?_⟩
     have e : τ.bx[b]? = some cs:=by rw [hτ];exact hcs
     simp only [opA,qb,h1,h2,hv,hd,e,hg]
theorem qE3 {tm:List AV} {t:TypeId} {u i:Operand} {x:AV} {z:Option St} (hu:qsZ (aev tm u)=false) (h:opA C ex tm σ (.indexAddr t u i)=some (x,z)) :
  z=none/\qDV x=true/\∀ τ : St,τ.rw = σ.rw->opA C ex tm τ (.indexAddr t u i)=some (x,none):=by
 have key:∀ τ : St,τ.rw = σ.rw->opA C ex tm τ (.indexAddr t u i)=some (x,z) := λ τ hτ => by
  rw [<- h]
  simp only [opA,qb,hτ]
 have hz:z=none/\qDV x=true:=by
  simp only [opA,qb] at h
  repeat' split at h
  all_goals first | (cases h;done) | (cases h;exact ⟨rfl,rfl⟩) | (rename_i hp _ _;rw [hp] at hu;cases hu) | (exfalso;simp_all [qsZ];done)
 obtain ⟨rfl,h2⟩:=hz
 exact ⟨rfl,h2,key⟩
theorem qG6 {tm:List AV} {t:TypeId} {a:Tmp} {v:Operand} {y:AV} {x:AV} {z:Option St} (h:opA C ex tm σ (.store t (.tmp a) v)=some (x,z)) (ha:tm.getD a .dead=y) (hy:qDV y=true) :
  ∃ r R,z=some { σ with rw := σ.rw.set r R,wrr:=r :: σ.wrr }/\∀ τ : St,τ.rw = σ.rw->opA C ex tm τ (.store t (.tmp a) v)=some (x,some { τ with rw := τ.rw.set r R,wrr:=r :: τ.wrr }):=by
 have hv:aev tm (.tmp a)=y:=ha
 cases y with
 | rpt r0 i0 o0 ep0 =>
   simp only [opA,qb,hv] at h
   cases hd:C.ty t with
   | none=>rw [hd] at h;cases h
   | some d =>
     rw [hd] at h
     simp only at h
     cases hR : σ.rw[r0]? with
     | none=>rw [hR] at h;cases h
     | some R =>
       rw [hR] at h
       simp only at h
       cases hR':qnp R i0 o0 ep0 d.size (cellsOf (aev tm v)) with
       | none=>rw [hR'] at h;cases h
       | some R' =>
         rw [hR'] at h
         cases h
         refine ⟨_,_,rfl,λ τ hτ => ?_⟩
         have e : τ.rw[r0]? = some R:=by rw [hτ];exact hR
         simp only [opA,qb,hv,hd,e,hR']
 | ept cs0 o0 =>
   simp only [opA,qb,hv] at h
   cases hd:C.ty t with
   | none=>rw [hd] at h;cases h
   | some d=>rw [hd] at h;cases h
 | _=>cases hy
theorem qx1 {tm:List AV} {o:Oper} {b:Bool} (hsub:∀ (i:Nat) (q:Oper),pre[i]? = some q->ops[i]? = some q) (h:ya pre tm o=some b):ya ops tm o=some b:=by
 unfold ya at h |-
 cases hg:o.guard with
 | none=>rw [hg] at h;exact h
 | some p =>
   obtain ⟨g,want⟩:=p
   rw [hg] at h
   simp only at h |-
   cases hq:pre[g]? with
   | none =>
     rw [hq] at h
     simp only [Option.bind_none] at h
     cases h
   | some q=>rw [hsub g q hq];rw [hq] at h;exact h
def g3 (s1 s5 s56 s7 s57 s567:S):Bool->Bool->Bool->S
 | true,true,true=>s567
 | true,true,false=>s57
 | true,false,_=>s7
 | false,true,true=>s56
 | false,true,false=>s5
 | false,false,_=>s1
def G3 (pre:Array Oper) (l:List (AV × Option St)) (s0 s5 s56 s7 s57 s567:S) (L:Nat->Bool):S:=g3 (F pre.toList l s0 L pre.size) s5 s56 s7 s57 s567 (L (pre.size+2)) (L pre.size) (L (pre.size+1))
theorem Jf {s5 s56 s7 s57 s567:S} {L:Nat->Bool} {a b c:Bool} (h1:L (pre.size+2)=a) (h2:L pre.size=b) (h3:L (pre.size+1)=c):G3 pre l s0 s5 s56 s7 s57 s567 L=g3 (F pre.toList l s0 L pre.size) s5 s56 s7 s57 s567 a b c:=by
 unfold G3
 rw [h1,h2,h3]
theorem qqd {tm:List AV} {t:TypeId} {a:Tmp} {v:Operand} {y:AV × Option St} (h:opA C ex tm σ (.store t (.tmp a) v)=some y):a<tm.length:=by
 apply Nat.lt_of_not_le
 intro hge
 have hv:aev tm (.tmp a) = .dead:=by
  show tm.getD a .dead = .dead
  rw [List.getD_eq_getElem?_getD,List.getElem?_eq_none hge];rfl
 have:opA C ex tm σ (.store t (.tmp a) v)=none:=by
  simp only [opA,qb,hv]
  cases C.ty t<;>rfl
 rw [this] at h
 cases h
theorem qFX {tm:List AV} {d:Tmp} {x:AV} {v:Operand} (h:qAR d v=true):aev (tm.set d x) v=aev tm v:=by
 cases v with
 | tmp t =>
   have hne:d≠t := λ he=>by rw [he] at h;simp [qAR] at h
   show (tm.set d x).getD t .dead=tm.getD t .dead
   rw [List.getD_eq_getElem?_getD,List.getElem?_set_ne hne,<- List.getD_eq_getElem?_getD]
 | _=>rfl
theorem qAN (hC:yc P C) (hx:qbj P ex) {id:Nat} {s s1 s':S} {b:Tmp} (htw:qmR ops true=some b) (hk:JZ C.lo s.tm (qaw ops) true=true) (h1:zr C ex (qaw ops) true (qaw ops).toList s=some s1) (hp2:qpk s1.tm ops b=true)
  (h2:zr C ex ops true (qd3 ops) s1=some s') {a:Act} {Q:Exit->Act->World->Prop} (hi:Inv Γ s.σ w) (ht:zg Γ s.tm a)
  (hq:∀ Γ' w' a',Ext Γ w Γ' w'->Inv Γ' s'.σ w'->zg Γ' s'.tm a'->qM s.σ s'.σ -> a'.defers=a.defers->Q .normal a' w'):(Code.region id ops true).wp P Q a w:=by
 obtain ⟨_,p,o,q,d,v6,v7,htl,hp1,ho1,hq1,hbd,hoff,hok⟩:=qzv htw
 obtain ⟨⟨t5,u5,i5,hop5⟩,hg5,hd5⟩:=qHv hp1
 obtain ⟨⟨t6,hop6⟩,hg6,hd6⟩:=qBB ho1
 obtain ⟨⟨t7,hop7⟩,hg7,hd7⟩:=qBB hq1
 unfold qpk at hp2
 rw [Bool.and_eq_true] at hp2
 obtain ⟨hp2,hbase⟩:=hp2
 have hbase:qsZ (aev s1.tm u5)=false:=by
  unfold qAt at hbase
  rw [htl] at hbase
  simp only [hop5] at hbase
  simpa using hbase
 simp only [qzO,Bool.and_eq_true,List.all_eq_true] at hok
 obtain ⟨k1,k2,k3,k4,k5,k6⟩:=hok
 obtain ⟨pre,hpre⟩:∃ pre,pre=qaw ops:=⟨_,rfl⟩
 rw [<- hpre] at hk h1
 have hlen:ops.toList.length=(ops.toList.length-3)+3:=by
  have:(qd3 ops).length=3:=by rw [htl];rfl
  unfold qd3 at this
  rw [List.length_drop] at this
  omega
 have hps:pre.size=ops.toList.length-3:=by
  rw [hpre]
  show (ops.toList.take (ops.toList.length-3)).toArray.size=_
  rw [List.size_toArray,List.length_take];omega
 have hsplit:ops.toList=pre.toList++[p,o,q]:=by
  rw [hpre,<- htl]
  exact (List.take_append_drop _ _).symm
 rw [<- hps] at k1 k2 k3 k4 k5 k6
 obtain ⟨m,hm⟩:∃ m,m=pre.size:=⟨_,rfl⟩
 have hml:m=pre.toList.length:=by rw [hm,Array.length_toList]
 rw [<- hm] at k1 k2 k3 k4 k5 k6
 have hosz:ops.size=m+3:=by rw [<- Array.length_toList,hlen,hm,hps]
 have hsub:∀ i r,pre[i]? = some r->ops[i]? = some r := λ i r hr=>by
  have hi:i<pre.toList.length:=by rw [Array.length_toList];exact (Array.getElem?_eq_some_iff.1 hr).1
  rw [<- Array.getElem?_toList,hsplit,List.getElem?_append_left hi,Array.getElem?_toList]
  exact hr
 have hinv:∀ i r,i<m->ops[i]? = some r->pre[i]? = some r := λ i r hi hr=>by
  rw [<- Array.getElem?_toList,hsplit,List.getElem?_append_left (by rw [<- hml];exact hi),Array.getElem?_toList] at hr
  exact hr
 have hat:∀ n,ops[m+n]? = [p,o,q][n]? := λ n=>by
  rw [<- Array.getElem?_toList,hsplit,List.getElem?_append_right (by rw [<- hml];exact Nat.le_add_right _ _),<- hml,Nat.add_sub_cancel_left]
 have hgp:ops[m]? = some p:=hat 0
 have hgo:ops[m+1]? = some o:=hat 1
 have hgq:ops[m+2]? = some q:=hat 2
 obtain ⟨l,l1,l2,l3,l4⟩:=qfA pre.toList s s1 h1
 have hT:qbp C ex pre l s:=qm1 l3 l4
 rw [Array.length_toList] at l2
 have hkd:J1 C.lo s.tm pre=true:=hk
 have wantP:∀ tm,ya ops tm p=some true := λ tm=>by unfold ya;rw [hg5]
 have wantO:∀ tm,ya ops tm o=some true := λ tm=>by unfold ya;rw [hg6]
 have wantQ:∀ tm,ya ops tm q=some true := λ tm=>by unfold ya;rw [hg7]
 cases hpp:s1.tm.getD b .dead with
 | ptr bb off =>
   have hbv:∀ x,(s1.tm.set d x).getD b .dead = .ptr bb off := λ x=>by
    rw [<- hpp,List.getD_eq_getElem?_getD,List.getElem?_set_ne (Ne.symm hbd),<- List.getD_eq_getElem?_getD]
   rw [htl] at h2
   obtain ⟨x5,x6,σ6,x7,σ7,y5,y6,y7,rfl⟩:∃ x5 x6 σ6 x7 σ7,opA C ex s1.tm s1.σ p.op=some (x5,none)/\opA C ex (s1.tm.set d x5) s1.σ o.op=some (x6,some σ6)/\opA C ex (s1.tm.set d x5) σ6 q.op=some (x7,some σ7)/\s'=⟨s1.tm.set d x5,σ7⟩:=by
    simp only [zr,wantP,wantO,wantQ] at h2
    split at h2<;>try cases h2
    ·rename_i x5 e5
     rw [hd5] at h2
     simp only [qaj] at h2
     have hx5:=(qE3 hbase (by rw [hop5] at e5;exact e5)).2.1
     split at h2<;>try cases h2
     ·rename_i x6 e6
      have e6:=e6
      rw [hop6] at e6
      have hlt:=qqd e6
      rw [List.length_set] at hlt
      have hv:(s1.tm.set d x5).getD d .dead=x5:=by rw [List.getD_eq_getElem?_getD,List.getElem?_set_self hlt];rfl
      obtain ⟨_,_,h,_⟩:=qG6 e6 hv hx5
      cases h
     ·rename_i x6 σ6 e6
      split at h2<;>try cases h2
      rw [hd6] at h2
      simp only at h2
      split at h2<;>try cases h2
      ·rename_i x7 e7
       obtain ⟨_,h,_⟩:=qHp (σ' := σ6) (by rw [hop7] at e7;exact e7) (hbv x5)
       cases h
      ·rename_i x7 σ7 e7
       split at h2<;>try cases h2
       exact ⟨x5,x6,σ6,x7,σ7,e5,e6,e7,by rw [hd7]⟩
    ·rename_i x5 σ5 e5
     have:=(qE3 hbase (by rw [hop5] at e5;exact e5)).1
     cases this
   rw [hop5] at y5
   rw [hop6] at y6
   rw [hop7] at y7
   obtain ⟨_,hx5,g5⟩:=qE3 hbase y5
   have hlt:=qqd y6
   rw [List.length_set] at hlt
   have hvd:(s1.tm.set d x5).getD d .dead=x5:=by rw [List.getD_eq_getElem?_getD,List.getElem?_set_self hlt];rfl
   obtain ⟨r,R,z6,g6⟩:=qG6 y6 hvd hx5
   cases z6
   obtain ⟨cs,z7,g7⟩:=qHp (σ':=s1.σ) y7 (hbv x5)
   cases z7
   have eb:aev s1.tm (.tmp b)=aev (s1.tm.set d x5) (.tmp b):=by
    show s1.tm.getD b .dead=(s1.tm.set d x5).getD b .dead
    rw [hbv,hpp]
   have ev:aev s1.tm v7=aev (s1.tm.set d x5) v7:=(qFX hoff).symm
   obtain ⟨S5,hS5⟩:∃ S5:S,S5=⟨s1.tm.set d x5,s1.σ⟩:=⟨_,rfl⟩
   obtain ⟨S56,hS56⟩:∃ S56:S,S56=⟨s1.tm.set d x5,{ s1.σ with rw:=s1.σ.rw.set r R,wrr:=r::s1.σ.wrr }⟩:=⟨_,rfl⟩
   obtain ⟨S7,hS7⟩:∃ S7:S,S7=⟨s1.tm,{ s1.σ with bx:=s1.σ.bx.set bb cs,wr:=bb::s1.σ.wr }⟩:=⟨_,rfl⟩
   obtain ⟨S57,hS57⟩:∃ S57:S,S57=⟨s1.tm.set d x5,{ s1.σ with bx:=s1.σ.bx.set bb cs,wr:=bb::s1.σ.wr }⟩:=⟨_,rfl⟩
   obtain ⟨S567,hS567⟩:∃ S567:S,S567=⟨s1.tm.set d x5,{ s1.σ with rw:=s1.σ.rw.set r R,wrr:=r::s1.σ.wrr,bx:=s1.σ.bx.set bb cs,wr:=bb::s1.σ.wr }⟩:=⟨_,rfl⟩
   have a5:JW C ex ops p s1 (x5,none) := .inl ⟨wantP _,by rw [hop5];exact y5⟩
   have a5':JW C ex ops p S7 (x5,none) := .inl ⟨wantP _,by rw [hop5,hS7];exact g5 _ rfl⟩
   have a6:JW C ex ops o S5 (x6,some { s1.σ with rw:=s1.σ.rw.set r R,wrr:=r::s1.σ.wrr }) := .inl ⟨wantO _,by rw [hop6,hS5];exact y6⟩
   have a6':JW C ex ops o S57 (x6,some { s1.σ with rw:=s1.σ.rw.set r R,wrr:=r::s1.σ.wrr,bx:=s1.σ.bx.set bb cs,wr:=bb::s1.σ.wr }) := .inl ⟨wantO _,by rw [hop6,hS57];exact g6 _ rfl⟩
   have a7:JW C ex ops q s1 (x7,some { s1.σ with bx:=s1.σ.bx.set bb cs,wr:=bb::s1.σ.wr }) := .inl ⟨wantQ _,by rw [hop7];exact g7 _ _ eb ev rfl⟩
   have a7':JW C ex ops q S5 (x7,some { s1.σ with bx:=s1.σ.bx.set bb cs,wr:=bb::s1.σ.wr }) := .inl ⟨wantQ _,by rw [hop7,hS5];exact g7 _ _ rfl rfl rfl⟩
   have a7'':JW C ex ops q S56 (x7,some { s1.σ with rw:=s1.σ.rw.set r R,wrr:=r::s1.σ.wrr,bx:=s1.σ.bx.set bb cs,wr:=bb::s1.σ.wr }) := .inl ⟨wantQ _,by rw [hop7,hS56];exact y7⟩
   have bit:∀ {L:Nat->Bool} {n j:Nat} {o':Oper},qbA ops L->ops[j]? = some o'->(∀ e∈yO o',L e=true)->qoV n ((Qq ops.toList []).getD j 0)=true->∀ i,i<n->L i=true := λ hd ho hp hb i hi=>qkL hd _ _ ho hp (qtH hb i hi)
   have hall:∀ {L:Nat->Bool},(∀ i,i<m->L i=true)->F pre.toList l s L pre.size=s1 := λ h=>by rw [<- l2];exact qvD _ λ i hi=>h i (by rw [hm];exact hi)
   have hF0:∀ k,F pre.toList l s (λ i=>(Array.replicate ops.size false).getD i false) k=s:=by
    intro k
    induction k with
    | zero=>rfl
    | succ k ih =>
      simp only [F]
      have:(Array.replicate ops.size false).getD k false=false:=by
       rw [Array.getD_eq_getD_getElem?,Array.getElem?_replicate];split<;>rfl
      rw [this]
      split
      ·rename_i hf;cases hf
      ·exact ih
   have rep0:∀ i,(Array.replicate ops.size false).getD i false=false := λ i=>by
    rw [Array.getD_eq_getD_getElem?,Array.getElem?_replicate];split<;>rfl
   have hG0:G3 pre l s S5 S56 S7 S57 S567 (λ i=>(Array.replicate ops.size false).getD i false)=s:=by
    rw [Jf (rep0 _) (rep0 _) (rep0 _)]
    exact hF0 _
   have hGa:G3 pre l s S5 S56 S7 S57 S567 ql=S567:=Jf (a:=true) (b:=true) (c:=true) rfl rfl rfl
   have ins:∀ (L:Nat->Bool) (j i:Nat),i≠j->(decide (i=j)||L i)=L i := λ L j i h=>by rw [decide_eq_false h,Bool.false_or]
   have ins':∀ (L:Nat->Bool) (j:Nat),(decide (j=j)||L j)=true := λ L j=>by rw [decide_eq_true rfl,Bool.true_or]
   refine wp_region_any hC.mixed ?_
   refine qzL (G:=G3 pre l s S5 S56 S7 S57 S567) (Good := λ _=>True) hC hx (λ _ _ _=>trivial) (λ j o' ho' e he=>?_) (λ L hL=>?_) (λ L j o' hd _ ho' hL hp=>?_) ops.size _ Γ _ a (by simp) (by rw [Array.toList_replicate,List.countP_replicate];simp) ?_ trivial ?_ ?_ ?_
   ·have hj3:j<m+3:=by rw [<- hosz];exact (Array.getElem?_eq_some_iff.1 ho').1
    by_cases hj:j<m
    ·exact (qfm hkd).1 j o' (hinv j o' hj ho') e he
    ·obtain rfl | rfl | rfl:j=m\/j=m+1\/j=m+2:=by omega
     ·rw [hgp] at ho';cases ho'
      exact Nat.le_of_ble_eq_true (k1 e he)
     ·rw [hgo] at ho';cases ho'
      exact Nat.le_of_ble_eq_true (k2 e he)
     ·rw [hgq] at ho';cases ho'
      have:=Nat.le_of_ble_eq_true (k3 e he)
      omega
   ·rw [hGa]
    exact Jf (a:=true) (b:=true) (c:=true) (hL _ (by omega)) (hL _ (by omega)) (hL _ (by omega))
   ·have hj3:j<m+3:=by rw [<- hosz];exact (Array.getElem?_eq_some_iff.1 ho').1
    have d1:L (m+1)=true->L m=true := λ h=>bit hd hgo (hd (m+1) o hgo h) k5 m (Nat.lt_succ_self m)
    by_cases hj:j<m
    ·have ho'':=hinv j o' hj ho'
     have n5:L m=false:=by
      cases hLm:L m with
      | false=>rfl
      | true=>rw [bit hd hgp (hd m p hgp hLm) k4 j hj] at hL;cases hL
     have n7:L (m+2)=false:=by
      cases hLm:L (m+2) with
      | false=>rfl
      | true=>rw [bit hd hgq (hd (m+2) q hgq hLm) k6 j hj] at hL;cases hL
     have hdp:qbA pre L := λ i r hr hi e he=>hd i r (hsub i r hr) hi e he
     obtain ⟨y,hy1,hy2⟩:=qpz hT hkd hdp ho'' hL hp
     have e1:G3 pre l s S5 S56 S7 S57 S567 L=F pre.toList l s L pre.size:=by
      exact Jf (a:=false) (b:=false) (c:=L (pre.size+1)) (by rw [<- hm];exact n7) (by rw [<- hm];exact n5) rfl
     have e2:G3 pre l s S5 S56 S7 S57 S567 (λ i=>decide (i=j)||L i)=F pre.toList l s (λ i=>decide (i=j)||L i) pre.size:=by
      exact Jf (L := λ i=>decide (i=j)||L i) (a:=false) (b:=false) (c:=_) (by show (decide (_=j)||L _)=false;rw [ins _ _ _ (by omega),<- hm];exact n7) (by show (decide (_=j)||L _)=false;rw [ins _ _ _ (by omega),<- hm];exact n5) rfl
     rw [e1,e2]
     refine ⟨y,?_,hy2⟩
     rcases hy1 with ⟨w1,w2⟩ | ⟨w1,w2⟩
     ·exact .inl ⟨qx1 hsub w1,w2⟩
     ·exact .inr ⟨qx1 hsub w1,w2⟩
    ·obtain rfl | rfl | rfl:j=m\/j=m+1\/j=m+2:=by omega
     ·rw [hgp] at ho';cases ho'
      have hL':=bit hd hgp hp k4
      have n6:L (j+1)=false:=by
       cases h:L (j+1) with
       | false=>rfl
       | true=>rw [d1 h] at hL;cases hL
      cases hn:L (j+2) with
      | false =>
        have e1:G3 pre l s S5 S56 S7 S57 S567 L=s1:=by
         exact (Jf (a:=false) (b:=false) (c:=false) (by rw [<- hm];exact hn) (by rw [<- hm];exact hL) (by rw [<- hm];exact n6)).trans (hall hL')
        have e2:G3 pre l s S5 S56 S7 S57 S567 (λ i=>decide (i=j)||L i)=S5 :=
         Jf (L := λ i=>decide (i=j)||L i) (a:=false) (b:=true) (c:=false) (by rw [<- hm];show (decide (_=j)||L _)=false;rw [ins _ _ _ (by omega)];exact hn) (by rw [<- hm];exact ins' L j) (by rw [<- hm];show (decide (_=j)||L _)=false;rw [ins _ _ _ (by omega)];exact n6)
        rw [e1,e2]
        refine ⟨_,a5,?_⟩
        rw [hS5,z8,hd5];rfl
      | true =>
        have e1:G3 pre l s S5 S56 S7 S57 S567 L=S7 :=
         Jf (a:=true) (b:=false) (c:=false) (by rw [<- hm];exact hn) (by rw [<- hm];exact hL) (by rw [<- hm];exact n6)
        have e2:G3 pre l s S5 S56 S7 S57 S567 (λ i=>decide (i=j)||L i)=S57 :=
         Jf (L := λ i=>decide (i=j)||L i) (a:=true) (b:=true) (c:=false) (by rw [<- hm];show (decide (_=j)||L _)=true;rw [ins _ _ _ (by omega)];exact hn) (by rw [<- hm];exact ins' L j) (by rw [<- hm];show (decide (_=j)||L _)=false;rw [ins _ _ _ (by omega)];exact n6)
        rw [e1,e2]
        refine ⟨_,a5',?_⟩
        rw [hS57,hS7,z8,hd5];rfl
     ·rw [hgo] at ho';cases ho'
      have h5:=bit hd hgo hp k5 m (Nat.lt_succ_self m)
      cases hn:L (m+2) with
      | false =>
        have e1:G3 pre l s S5 S56 S7 S57 S567 L=S5 :=
         Jf (a:=false) (b:=true) (c:=false) (by rw [<- hm];exact hn) (by rw [<- hm];exact h5) (by rw [<- hm];exact hL)
        have e2:G3 pre l s S5 S56 S7 S57 S567 (λ i=>decide (i=m+1)||L i)=S56 :=
         Jf (L := λ i=>decide (i=m+1)||L i) (a:=false) (b:=true) (c:=true) (by rw [<- hm];show (decide (_=m+1)||L _)=false;rw [ins _ _ _ (by omega)];exact hn) (by rw [<- hm];show (decide (_=m+1)||L _)=true;rw [ins _ _ _ (by omega)];exact h5) (by rw [<- hm];exact ins' L (m+1))
        rw [e1,e2]
        refine ⟨_,a6,?_⟩
        rw [hS56,hS5,z8,hd6];rfl
      | true =>
        have e1:G3 pre l s S5 S56 S7 S57 S567 L=S57 :=
         Jf (a:=true) (b:=true) (c:=false) (by rw [<- hm];exact hn) (by rw [<- hm];exact h5) (by rw [<- hm];exact hL)
        have e2:G3 pre l s S5 S56 S7 S57 S567 (λ i=>decide (i=m+1)||L i)=S567 :=
         Jf (L := λ i=>decide (i=m+1)||L i) (a:=true) (b:=true) (c:=true) (by rw [<- hm];show (decide (_=m+1)||L _)=true;rw [ins _ _ _ (by omega)];exact hn) (by rw [<- hm];show (decide (_=m+1)||L _)=true;rw [ins _ _ _ (by omega)];exact h5) (by rw [<- hm];exact ins' L (m+1))
        rw [e1,e2]
        refine ⟨_,a6',?_⟩
        rw [hS567,hS57,z8,hd6];rfl
     ·rw [hgq] at ho';cases ho'
      have hL':=bit hd hgq hp k6
      cases h5:L m with
      | false =>
        have n6:L (m+1)=false:=by
         cases h:L (m+1) with
         | false=>rfl
         | true=>rw [d1 h] at h5;cases h5
        have e1:G3 pre l s S5 S56 S7 S57 S567 L=s1:=by
         exact (Jf (a:=false) (b:=false) (c:=false) (by rw [<- hm];exact hL) (by rw [<- hm];exact h5) (by rw [<- hm];exact n6)).trans (hall hL')
        have e2:G3 pre l s S5 S56 S7 S57 S567 (λ i=>decide (i=m+2)||L i)=S7 :=
         Jf (L := λ i=>decide (i=m+2)||L i) (a:=true) (b:=false) (c:=false) (by rw [<- hm];exact ins' L (m+2)) (by rw [<- hm];show (decide (_=m+2)||L _)=false;rw [ins _ _ _ (by omega)];exact h5) (by rw [<- hm];show (decide (_=m+2)||L _)=false;rw [ins _ _ _ (by omega)];exact n6)
        rw [e1,e2]
        refine ⟨_,a7,?_⟩
        rw [hS7,z8,hd7];rfl
      | true =>
        cases h6:L (m+1) with
        | false =>
          have e1:G3 pre l s S5 S56 S7 S57 S567 L=S5 :=
           Jf (a:=false) (b:=true) (c:=false) (by rw [<- hm];exact hL) (by rw [<- hm];exact h5) (by rw [<- hm];exact h6)
          have e2:G3 pre l s S5 S56 S7 S57 S567 (λ i=>decide (i=m+2)||L i)=S57 :=
           Jf (L := λ i=>decide (i=m+2)||L i) (a:=true) (b:=true) (c:=false) (by rw [<- hm];exact ins' L (m+2)) (by rw [<- hm];show (decide (_=m+2)||L _)=true;rw [ins _ _ _ (by omega)];exact h5) (by rw [<- hm];show (decide (_=m+2)||L _)=false;rw [ins _ _ _ (by omega)];exact h6)
          rw [e1,e2]
          refine ⟨_,a7',?_⟩
          rw [hS57,hS5,z8,hd7];rfl
        | true =>
          have e1:G3 pre l s S5 S56 S7 S57 S567 L=S56 :=
           Jf (a:=false) (b:=true) (c:=true) (by rw [<- hm];exact hL) (by rw [<- hm];exact h5) (by rw [<- hm];exact h6)
          have e2:G3 pre l s S5 S56 S7 S57 S567 (λ i=>decide (i=m+2)||L i)=S567 :=
           Jf (L := λ i=>decide (i=m+2)||L i) (a:=true) (b:=true) (c:=true) (by rw [<- hm];exact ins' L (m+2)) (by rw [<- hm];show (decide (_=m+2)||L _)=true;rw [ins _ _ _ (by omega)];exact h5) (by rw [<- hm];show (decide (_=m+2)||L _)=true;rw [ins _ _ _ (by omega)];exact h6)
          rw [e1,e2]
          refine ⟨_,a7'',?_⟩
          rw [hS567,hS56,z8,hd7];rfl
   ·intro i r hr hi'
    exfalso
    have hi':(Array.replicate ops.size false).getD i false=true:=hi'
    rw [rep0] at hi';cases hi'
   ·rw [hG0];exact hi.drew
   ·rw [hG0];exact ht
   ·intro Γ' w' a' g1 g2 g3 g4 g5
    rw [hG0] at g4
    rw [hGa,hS567] at g2 g3 g4
    exact hq Γ' w' a' ((Ext.drew Γ w).trans g1) g2 g3 g4 g5
 | _=>rw [hpp] at hp2;cases hp2
end
end Go.AmZ
namespace Go.AmZ
open Go Go.RowKit
section
variable {P:Program} {C:Cfg} {Γ : Gh} {σ : St} {w:World} {ops:Array Oper} {ex:Qd} {l:List (AV × Option St)} {s0:S}
theorem qHj (hC:yc P C) (hx:qbj P ex) (hT:qbp C ex ops l s0) (hk:J1 C.lo s0.tm ops=true) {Q:Exit->Act->World->Prop}:∀ (fuel:Nat) (listed:Array Bool) (Γ : Gh) (w:World) (a:Act),listed.size=ops.size->listed.toList.countP (λ b => !b)=fuel->qbA ops (λ i=>listed.getD i false) ->
  Inv Γ (F ops.toList l s0 (λ i=>listed.getD i false) ops.size).σ w->zg Γ (F ops.toList l s0 (λ i=>listed.getD i false) ops.size).tm a ->
  (∀ Γ' w' a',Ext Γ w Γ' w'->Inv Γ' (F ops.toList l s0 ql ops.size).σ w'->zg Γ' (F ops.toList l s0 ql ops.size).tm a'->qM (F ops.toList l s0 (λ i=>listed.getD i false) ops.size).σ (F ops.toList l s0 ql ops.size).σ -> a'.defers=a.defers->Q .normal a' w') ->
  wpAny P .any ops Q fuel listed a w :=
 λ fuel listed Γ w a hsz hct hd=>qyJ hC hx (Good := λ _=>True) (λ _ _ _=>trivial) (qfm hk).1 (λ _ _ _ hd _ ho hL hp=>qpz hT hk hd ho hL hp) fuel listed Γ w a hsz hct hd trivial
theorem qCE (hC:yc P C) (hx:qbj P ex) {id:Nat} {draw:Bool} {s s':S} (hk:JZ C.lo s.tm ops draw=true) (h:zr C ex ops draw ops.toList s=some s') {a:Act} {Q:Exit->Act->World->Prop} (hi:Inv Γ s.σ w) (ht:zg Γ s.tm a)
  (hq:∀ Γ' w' a',Ext Γ w Γ' w'->Inv Γ' s'.σ w'->zg Γ' s'.tm a'->qM s.σ s'.σ -> a'.defers=a.defers->Q .normal a' w'):(Code.region id ops draw).wp P Q a w:=by
 cases draw with
 | false =>
   refine wp_region ?_
   have:=qwJ hC hx (ops:=ops) ops.toList 0 s Γ w a (by simp) h hi ht hq
   rw [Array.length_toList,<- List.range_eq_range'] at this
   exact this
 | true =>
   obtain ⟨l,h1,h2,h3,h4⟩:=qfA ops.toList s s' h
   have hT:qbp C ex ops l s:=qm1 h3 h4
   rw [Array.length_toList] at h2
   have hk:J1 C.lo s.tm ops=true:=hk
   have hF0:∀ k,F ops.toList l s (λ i=>(Array.replicate ops.size false).getD i false) k=s:=by
    intro k
    induction k with
    | zero=>rfl
    | succ k ih =>
      simp only [F]
      have:(Array.replicate ops.size false).getD k false=false:=by
       rw [Array.getD_eq_getD_getElem?,Array.getElem?_replicate];split<;>rfl
      rw [this]
      split
      ·rename_i hf;cases hf
      ·exact ih
   refine wp_region_any hC.mixed ?_
   refine qHj hC hx hT hk ops.size _ Γ _ a (by simp) (by rw [Array.toList_replicate,List.countP_replicate];simp) ?_ ?_ ?_ ?_
   ·intro i q hq' hi'
    exfalso
    have:(Array.replicate ops.size false).getD i false=false:=by
     rw [Array.getD_eq_getD_getElem?,Array.getElem?_replicate];split<;>rfl
    have hi':(Array.replicate ops.size false).getD i false=true:=hi'
    rw [this] at hi';cases hi'
   ·rw [hF0];exact hi.drew
   ·rw [hF0];exact ht
   ·intro Γ' w' a' g1 g2 g3 g4 g5
    rw [hF0] at g4
    rw [h2] at g2 g3 g4
    exact hq Γ' w' a' ((Ext.drew Γ w).trans g1) g2 g3 g4 g5
def COk (P:Program) (ex:Qd) (c:Code):Prop :=
 ∀ s e s',jq c=true->ex c s=some (e,s')->∀ Γ w a,Inv Γ s.σ w->zg Γ s.tm a->a.defers=[] ->
  c.wp P (λ e' a' w'=>e'=e.toExit/\a'.defers=[]/\∃ Γ',Ext Γ w Γ' w'/\Inv Γ' s'.σ w'/\zg Γ' s'.tm a'/\qM s.σ s'.σ) a w
theorem qGU {s:S} {a:Act} (hi:Inv Γ s.σ w) (ht:zg Γ s.tm a) (t:Nat) :
  ∃ Γ',Ext Γ w Γ' w/\Inv Γ' (qaD s t).σ w/\zg Γ' (qaD s t).tm a/\qM s.σ (qaD s t).σ := by
 unfold qaD
 cases hr:rsA (s.tm.getD t .dead) with
 | nil=>exact ⟨Γ,.refl _ _,hi,ht,.refl _⟩
 | cons r l =>
   obtain ⟨m,m1,m2,m3⟩:=qa0 (r::l) hi ((r::l)++s.σ.wrr)
   refine ⟨_,qja m1 w,m2,?_,qmr (r::l)⟩
   have hl:Le Γ { Γ with mem:=m }:=(qja m1 w).le
   have hp:=qtn hi hl (λ q hq=>m3 q (by rw [<- hr];exact hq)) (ht.get t)
   have ht':RepL { Γ with mem:=m } s.tm a.tmps.toList:=RepL.mono hl ht
   refine ⟨by rw [List.length_set];exact ht'.len,λ i x u hx hu=>?_⟩
   by_cases hit:t=i
   ·subst hit
    rw [List.getElem?_set_self (by have:=getElem?_lt hx;simpa using this)] at hx
    cases hx
    have:a.tmps.getD t undef=u:=by
     rw [Array.getD_eq_getD_getElem?,<- Array.getElem?_toList,hu];rfl
    rw [this] at hp
    exact hp
   ·rw [List.getElem?_set_ne hit] at hx
    exact ht'.rep i x u hx hu
theorem qzk {a:Act}:∀ (ts:List Nat) {s:S} {Γ : Gh},Inv Γ s.σ w->zg Γ s.tm a ->
  ∃ Γ',Ext Γ w Γ' w/\Inv Γ' (qbF ts s).σ w/\zg Γ' (qbF ts s).tm a/\qM s.σ (qbF ts s).σ
 | [],s,Γ,hi,ht=>⟨Γ,.refl _ _,hi,ht,.refl _⟩
 | t::ts,s,Γ,hi,ht=>by
   obtain ⟨Γ1,a1,a2,a3,a4⟩:=qGU hi ht t
   obtain ⟨Γ2,b1,b2,b3,b4⟩:=qzk ts a2 a3
   exact ⟨Γ2,a1.trans b1,b2,b3,a4.trans b4⟩
theorem qFO {b:Code} {n:Nat} (hbody:∀ m,m<n->COk P (QD C m) b) {s:S} {e:Ex} {s':S} (hk:jq b=true) (h:QD C n (.loop b) s=some (e,s')) {a:Act} (hi:Inv Γ s.σ w) (ht:zg Γ s.tm a) (hdf:a.defers=[]) :
  (Code.loop b).wp P (λ e' a' w'=>e'=e.toExit/\a'.defers=[]/\∃ Γ',Ext Γ w Γ' w'/\Inv Γ' s'.σ w'/\zg Γ' s'.tm a'/\qM s.σ s'.σ) a w:=by
 let J:Nat->Act->World->Prop := λ m a1 w1=>m<=n/\∃ s1 Γ1,QD C m (.loop b) s1=some (e,s')/\Ext Γ w Γ1 w1/\Inv Γ1 s1.σ w1/\zg Γ1 s1.tm a1/\a1.defers=[]/\qM s.σ s1.σ
 have hleast:∀ a1 w1,(∃ m,J m a1 w1)->∃ m,J m a1 w1/\∀ k,J k a1 w1->m<=k:=by
  rintro a1 w1 ⟨m,hm⟩
  induction m using Nat.strongRecOn with
  | _ m ih =>
    by_cases hk:∃ k,k<m/\J k a1 w1
    ·obtain ⟨k,hk1,hk2⟩:=hk
     exact ih k hk1 hk2
    ·exact ⟨m,hm,λ k hJ=>Nat.le_of_not_lt λ hlt=>hk ⟨k,hlt,hJ⟩⟩
 classical
 let μ : Act->World->Nat := λ a1 w1=>if h:∃ m,J m a1 w1 then Classical.choose (hleast a1 w1 h) else 0
 have hμ : ∀ a1 w1,(h:∃ m,J m a1 w1)->J (μ a1 w1) a1 w1/\∀ k,J k a1 w1 -> μ a1 w1<=k:=by
  intro a1 w1 h
  have : μ a1 w1=Classical.choose (hleast a1 w1 h):=dif_pos h
  rw [this]
  exact Classical.choose_spec (hleast a1 w1 h)
 refine wp_loop (λ a1 w1=>∃ m,J m a1 w1) μ ⟨n,Nat.le_refl _,s,Γ,h,.refl _ _,hi,ht,hdf,.refl _⟩ ?_
 intro a1 w1 hJ
 obtain ⟨hJ1,_⟩:=hμ a1 w1 hJ
 obtain ⟨hmn,s1,Γ1,h1,h2,h3,h4,h5,h6⟩:=hJ1
 generalize hm : μ a1 w1=m at *
 cases m with
 | zero=>simp [QD] at h1
 | succ m =>
   simp only [QD,qat] at h1
   obtain ⟨Γp,p1,p2,p3,p4⟩:=qzk (C.pur b) h3 h4
   have run:∀ e1 s2,QD C m b (qbF (C.pur b) s1)=some (e1,s2)->(e1 = .normal/\QD C m (.loop b) s2=some (e,s')\/(e1 ≠ .normal/\e1=e/\s2=s')) ->
     b.wp P (Exit.then (λ a' w'=>(∃ m,J m a' w') /\ μ a' w'<m+1) (λ e' a' w'=>e'=e.toExit/\a'.defers=[]/\∃ Γ',Ext Γ w Γ' w'/\Inv Γ' s'.σ w'/\zg Γ' s'.tm a'/\qM s.σ s'.σ)) a1 w1:=by
    intro e1 s2 hb hor
    refine wp_mono (hbody m hmn _ e1 s2 hk hb Γp w1 a1 p2 p3 h5) ?_
    rintro e' a' w' ⟨rfl,g0,Γ2,g1,g2,g3,g4⟩
    have g1:=p1.trans g1
    have g4:=p4.trans g4
    rcases hor with ⟨rfl,hl⟩ | ⟨hne,rfl,rfl⟩
    ·have hJ':J m a' w':=⟨Nat.le_of_succ_le hmn,s2,Γ2,hl,h2.trans g1,g2,g3,g0,h6.trans g4⟩
     exact ⟨⟨m,hJ'⟩,Nat.lt_succ_of_le ((hμ a' w' ⟨m,hJ'⟩).2 m hJ')⟩
    ·cases e1 with
     | normal=>exact absurd rfl hne
     | exit id=>exact ⟨rfl,g0,Γ2,h2.trans g1,g2,g3,h6.trans g4⟩
     | ret=>exact ⟨rfl,g0,Γ2,h2.trans g1,g2,g3,h6.trans g4⟩
   cases hb:QD C m b (qbF (C.pur b) s1) with
   | none=>rw [hb] at h1;cases h1
   | some r =>
     obtain ⟨e1,s2⟩:=r
     rw [hb] at h1
     cases e1 with
     | normal=>exact run _ _ hb (.inl ⟨rfl,h1⟩)
     | exit id=>simp only [Option.some.injEq,Prod.mk.injEq] at h1;exact run _ _ hb (.inr ⟨by simp,h1.1,h1.2⟩)
     | ret=>simp only [Option.some.injEq,Prod.mk.injEq] at h1;exact run _ _ hb (.inr ⟨by simp,h1.1,h1.2⟩)
theorem qsC (hC:yc P C):∀ n,qbj P (QD C n):=by
 intro n
 induction n using Nat.strongRecOn with
 | _ n ih =>
   cases n with
   | zero=>intro c s e s' _ h;simp [QD] at h
   | succ n =>
     have ihn:=ih n (Nat.lt_succ_self n)
     intro c s e s' hk h Γ w a hi ht hdf
     cases c with
     | skip =>
       simp only [QD,qat,Option.some.injEq,Prod.mk.injEq] at h
       obtain ⟨rfl,rfl⟩:=h
       exact wp_skip ⟨rfl,hdf,Γ,.refl _ _,hi,ht,.refl _⟩
     | label k =>
       simp only [QD,qat,Option.some.injEq,Prod.mk.injEq] at h
       obtain ⟨rfl,rfl⟩:=h
       exact wp_label ⟨rfl,hdf,Γ,.refl _ _,hi,ht,.refl _⟩
     | exit id =>
       simp only [QD,qat,Option.some.injEq,Prod.mk.injEq] at h
       obtain ⟨rfl,rfl⟩:=h
       exact wp_exit ⟨rfl,hdf,Γ,.refl _ _,hi,ht,.refl _⟩
     | ret =>
       simp only [QD,qat,Option.some.injEq,Prod.mk.injEq] at h
       obtain ⟨rfl,rfl⟩:=h
       exact wp_ret ⟨rfl,hdf,Γ,.refl _ _,hi,ht,.refl _⟩
     | region id ops draw =>
       simp only [QD,qat] at h
       split at h
       ·rename_i hsp
        have hdr:draw=true:=by unfold qhK at hsp;rw [Bool.and_eq_true] at hsp;exact hsp.1
        subst hdr
        split at h<;>try cases h
        rename_i hgate hrun
        rw [Bool.and_eq_true,Bool.and_eq_true] at hgate
        split at h<;>try cases h
        rename_i hrun2
        split at h<;>cases h
        rename_i hrun3
        refine qAq hC ihn hgate.1 hgate.2.1 hgate.2.2 hrun hrun2 hrun3 hi ht ?_
        intro Γ' w' a' g1 g2 g3 g4 g5
        exact ⟨rfl,by rw [g5,hdf],Γ',g1,g2,g3,g4⟩
       ·split at h
        ·rename_i p htw
         obtain ⟨hdr,_⟩:=qzv htw
         subst hdr
         split at h<;>try cases h
         rename_i hgate hrun
         split at h<;>cases h
         rename_i hpt hrun2
         refine qAN hC ihn htw hgate hrun hpt hrun2 hi ht ?_
         intro Γ' w' a' g1 g2 g3 g4 g5
         exact ⟨rfl,by rw [g5,hdf],Γ',g1,g2,g3,g4⟩
        ·split at h<;>cases h
         rename_i hgate hrun
         refine qCE hC ihn hgate hrun hi ht ?_
         intro Γ' w' a' g1 g2 g3 g4 g5
         exact ⟨rfl,by rw [g5,hdf],Γ',g1,g2,g3,g4⟩
     | seq x y =>
       simp only [QD,qat] at h
       simp only [jq,Bool.and_eq_true] at hk
       refine wp_seq ?_
       cases hx:QD C n x s with
       | none=>rw [hx] at h;cases h
       | some r =>
         obtain ⟨e1,s1⟩:=r
         rw [hx] at h
         refine wp_mono (ihn x s e1 s1 hk.1 hx Γ w a hi ht hdf) ?_
         rintro e' a' w' ⟨rfl,g0,Γ2,g1,g2,g3,g4⟩
         cases e1 with
         | normal =>
           refine wp_mono (ihn y s1 e s' hk.2 h Γ2 w' a' g2 g3 g0) ?_
           rintro e'' a'' w'' ⟨rfl,q0,Γ3,q1,q2,q3,q4⟩
           exact ⟨rfl,q0,Γ3,g1.trans q1,q2,q3,g4.trans q4⟩
         | exit id=>cases h;exact ⟨rfl,g0,Γ2,g1,g2,g3,g4⟩
         | ret=>cases h;exact ⟨rfl,g0,Γ2,g1,g2,g3,g4⟩
     | cond c x y =>
       simp only [QD,qat] at h
       simp only [jq,Bool.and_eq_true] at hk
       have hc:=zg.ev ht c
       split at h
       ·rename_i hcv
        rw [hcv] at hc
        exact wp_cond_true (qS hc) (ihn x s e s' hk.1 h Γ w a hi ht hdf)
       ·rename_i hcv
        rw [hcv] at hc
        exact wp_cond_false (qS hc) (ihn y s e s' hk.2 h Γ w a hi ht hdf)
       ·cases h
     | block id b =>
       simp only [QD,qat] at h
       simp only [jq] at hk
       refine wp_block ?_
       cases hx:QD C n b s with
       | none=>rw [hx] at h;cases h
       | some r =>
         obtain ⟨e1,s1⟩:=r
         rw [hx] at h
         refine wp_mono (ihn b s e1 s1 hk hx Γ w a hi ht hdf) ?_
         rintro e' a' w' ⟨rfl,g0,Γ2,g1,g2,g3,g4⟩
         cases e1 with
         | normal=>cases h;exact ⟨rfl,g0,Γ2,g1,g2,g3,g4⟩
         | ret=>cases h;exact ⟨rfl,g0,Γ2,g1,g2,g3,g4⟩
         | exit i =>
           simp only [Option.some.injEq,Prod.mk.injEq] at h
           obtain ⟨h1,rfl⟩:=h
           show if i=id then _ else _
           split
           ·rename_i hid
            rw [if_pos hid] at h1
            subst h1
            exact ⟨rfl,g0,Γ2,g1,g2,g3,g4⟩
           ·rename_i hid
            rw [if_neg hid] at h1
            subst h1
            exact ⟨rfl,g0,Γ2,g1,g2,g3,g4⟩
     | loop b =>
       exact qFO (n:=n+1) (λ m hm => λ s e s' hk h=>ih m hm b s e s' hk h) hk h hi ht hdf
     | _=>simp only [QD,qat] at h;cases h
end
end Go.AmZ
namespace Go.AmZ
open Go Go.RowKit
structure PC where
 ty:Nat->Option TD
 pf:Nat->Option (List AV->Option AV)
 sp:Nat->Option (St->List AV->Option (AV × Option St))
 pur:Code->List Nat
 ld:Nat->Bool
def emp:St:=⟨[],[],[],[]⟩
def jP (x:AV):Bool:=(rb x).isEmpty&&(rr x).isEmpty
def noRefs (xs:List AV):Bool:=xs.all jP
def Qs (p:List AV->Option AV):St->List AV->Option (AV × Option St) := λ σ args =>
 match σ with
 | ⟨[],[],[],[]⟩=>match p args with
   | some v=>some (v,none)
   | none=>none
 | _=>none
def PC.prim (c:PC) (f:Nat):Option (St->List AV->Option (AV × Option St)):=match c.pf f with | some p=>some (Qs p) | none=>c.sp f
def PC.raw (c:PC) (f:Nat):Bool:=match c.pf f with | some _=>false | none=>(c.sp f).isSome
def PC.cfg (c:PC):Cfg:=⟨c.ty,λ _=>none,c.prim,c.raw,c.pur,λ f=>c.raw f||c.ld f⟩
def qac (c:PC) (f:Nat) (σ : St) (args:List AV):Option (AV × Option St) :=
 match c.pf f with
 | some p=>match noRefs (args.map (ju σ.rw)) with
   | true=>match p (args.map (ju σ.rw)) with
     | some v=>match jP v with
       | true=>match qc8 v,args.flatMap rsA with
         | true,_=>some (v,none)
         | _,[]=>some (v,none)
         | _,r::l=>some (v,some { σ with rw:=frz σ.rw (r::l),wrr:=(r::l) ++ σ.wrr })
       | false=>none
     | none=>none
   | false=>none
 | none=>match c.sp f with
   | some p=>JH σ args p
   | none=>none
def qfK (c:PC) (tm:List AV) (σ : St) (op:Op):Option (AV × Option St) :=
 match op with
 | .call ⟨.builtin b,args,ts⟩=>yu c.cfg σ b ts (args.toList.map (aev tm))
 | .call ⟨.value g,args,_⟩=>match aev tm g with
   | .fn f caps=>qac c f σ (args.toList.map (aev tm)++caps)
   | _=>none
 | .call _=>none
 | op=>qb c.cfg tm σ op
def jJ (c:PC) (ops:Array Oper) (draw:Bool):List Oper->S->Option S
 | [],s=>some s
 | o::rest,s=>match ya ops s.tm o with
   | some true=>match qfK c s.tm s.σ o.op with
     | some (x,none)=>jJ c ops draw rest ⟨qaj s.tm o.dst x,s.σ⟩
     | some (x,some σ')=>match draw && !(zK c.cfg.lo o.op&&qaI c.cfg ops (ops.size-(rest.length+1)) s.tm s.σ o.op) with
       | true=>none
       | false=>jJ c ops draw rest ⟨qaj s.tm o.dst x,σ'⟩
     | none=>none
   | some false=>jJ c ops draw rest ⟨qaj s.tm o.dst qgU,s.σ⟩
   | none=>none
def yy (c:PC) (ex:Qd):Qd
 | .skip,s=>some (.normal,s)
 | .label _,s=>some (.normal,s)
 | .region _ ops draw,s=>match qhK ops draw with
   | true=>match qfz c.cfg.lo ops.toList&&(JZ c.cfg.lo s.tm ops true&&JZ c.cfg.lo s.tm ⟨qR c.cfg.lo ops.toList⟩ true),jJ c ⟨qR c.cfg.lo ops.toList⟩ true (qR c.cfg.lo ops.toList) s with
     | true,some s1=>match jJ c ops false (alL c.cfg.lo ops.toList) s1 with
       | some s2=>match jJ c ops true (qmC c.cfg.lo ops.toList) s2 with
         | some s'=>some (.normal,s')
         | none=>none
       | none=>none
     | _,_=>none
   | false=>match qmR ops draw with
     | some p=>match JZ c.cfg.lo s.tm (qaw ops) true,jJ c (qaw ops) true (qaw ops).toList s with
       | true,some s1=>match qpk s1.tm ops p,jJ c ops true (qd3 ops) s1 with
         | true,some s'=>some (.normal,s')
         | _,_=>none
       | _,_=>none
     | none=>match JZ c.cfg.lo s.tm ops draw,jJ c ops draw ops.toList s with
       | true,some s'=>some (.normal,s')
       | _,_=>none
 | .seq a b,s=>match ex a s with
   | some (.normal,s')=>ex b s'
   | r=>r
 | .cond t x y,s=>match aev s.tm t with
   | .v (.bool true)=>ex x s
   | .v (.bool false)=>ex y s
   | _=>none
 | .block id b,s=>match ex b s with
   | some (.exit i,s')=>some (if i=id then .normal else .exit i,s')
   | r=>r
 | .loop b,s=>match ex b (qbF (c.pur b) s) with
   | some (.normal,s')=>ex (.loop b) s'
   | r=>r
 | .exit id,s=>some (.exit id,s)
 | .ret,s=>some (.ret,s)
 | _,_=>none
def zd (c:PC):Nat->Qd
 | 0 => λ _ _=>none
 | n+1=>yy c (zd c n)
mutual
theorem qpO {fb fr:Nat->Nat}:∀ x:AV,rb x=[]->rr x=[]->ren fb fr x=x
 | .v _,_,_=>rfl
 | .dead,_,_=>rfl
 | .sl ..,_,_=>rfl
 | .rs ..,_,h=>by simp [rr] at h
 | .ptr ..,h,_=>by simp [rb] at h
 | .rpt ..,_,h=>by simp [rr] at h
 | .ept ..,_,_=>rfl
 | .fn f cs,h,g=>by rw [ren,qcp cs (by simpa [rb] using h) (by simpa [rr] using g)]
 | .agg cs,h,g=>by rw [ren,qcp cs (by simpa [rb] using h) (by simpa [rr] using g)]
 | .tup cs,h,g=>by rw [ren,qcp cs (by simpa [rb] using h) (by simpa [rr] using g)]
theorem qcp {fb fr:Nat->Nat}:∀ xs:List AV,rbL xs=[]->rrL xs=[]->qO fb fr xs=xs
 | [],_,_=>rfl
 | x::xs,h,g=>by
   simp only [rbL,rrL,List.append_eq_nil_iff] at h g
   rw [qO,qpO x h.1 g.1,qcp xs h.2 g.2]
end
theorem qcK {x:AV} (h:jP x=true):rb x=[]/\rr x=[]:=by
 simpa [jP,List.isEmpty_iff] using h
theorem qfn:∀ {xs:List AV},noRefs xs=true->rbL xs=[]/\rrL xs=[]
 | [],_=>⟨rfl,rfl⟩
 | x::xs,h=>by
   simp only [noRefs,List.all_cons,Bool.and_eq_true] at h
   obtain ⟨h1,h2⟩:=qcK h.1
   obtain ⟨h3,h4⟩:=qfn (xs:=xs) h.2
   exact ⟨by rw [rbL,h1,h3];rfl,by rw [rrL,h2,h4];rfl⟩
theorem qq4 {σ : St} {args:List AV} {p:List AV->Option AV} {v:AV} (ha:noRefs args=true) (hp:p args=some v) (hv:jP v=true):JH σ args (λ σ args=>Qs p σ args)=some (v,none):=by
 obtain ⟨h1,h2⟩:=qfn ha
 obtain ⟨h3,h4⟩:=qcK hv
 have hb:Qk σ args=[]:=by
  unfold Qk
  rw [h1]
  show qiV σ.bx σ.bx.length []=[]
  cases σ.bx.length with
  | zero=>rfl
  | succ n=>rfl
 have hr:qbE σ args=[]:=by
  unfold qbE
  rw [hb,h2]
  rfl
 unfold JH
 have hs:qgg σ args=true:=by
  unfold qgg
  rw [hb,hr,h1,h2];rfl
 rw [hs]
 simp only
 rw [hb,hr,qcp args h1 h2]
 have:qG σ [] []=⟨[],[],[],[]⟩:=rfl
 rw [this]
 simp only [Qs,hp,qgi]
 rw [qpO v h3 h4]
theorem qE6 {c:PC} {ex:Qd} {f:Nat} {σ : St} {args:List AV} {r:AV × Option St} (h:qac c f σ args=some r):qev c.cfg ex σ f args=some r:=by
 unfold qac at h
 split at h
 rotate_left
 ·rename_i hp
  split at h<;>try cases h
  rename_i p hsp
  have hraw:c.cfg.raw f=true:=by show c.raw f=true;unfold PC.raw;rw [hp,hsp];rfl
  have hcf:(λ (σ : St) args=>qbJ c.cfg ex σ f args)=p:=by
   funext σ args
   unfold qbJ
   simp only [PC.cfg,PC.prim,hp,hsp]
  unfold qev qfj
  rw [hraw]
  simp only
  rw [hcf]
  exact h
 rename_i p hp
 split at h<;>try cases h
 rename_i ha
 split at h<;>try cases h
 rename_i v hv
 split at h<;>try cases h
 rename_i hn
 have hcf:∀ σ : St,(λ (σ : St) args=>qbJ c.cfg ex σ f args) = λ σ args=>Qs p σ args := λ _=>by
  funext σ args
  unfold qbJ
  simp only [PC.cfg,PC.prim,hp]
 have hraw:c.cfg.raw f=false:=by show c.raw f=false;unfold PC.raw;rw [hp]
 unfold qev qfj
 rw [hraw]
 obtain ⟨z1,z2⟩:=qfn ha
 cases hrs:args.flatMap rsA with
 | nil =>
   have:r=(v,none):=by
    rw [hrs] at h
    cases hs:qc8 v<;>rw [hs] at h<;>cases h<;>rfl
   subst this
   simp only
   rw [hcf σ]
   exact qq4 ha hv hn
 | cons q l =>
   simp only
   rw [hcf σ,qq4 ha hv hn]
   simp only [qqr,z1,z2,List.isEmpty_nil,Bool.and_true]
   rw [hrs] at h
   cases hs:qc8 v with
   | true=>rw [hs] at h;exact h
   | false=>rw [hs] at h;exact h
theorem qza {c:PC} {ex:Qd} {tm:List AV} {σ : St} {op:Op} {r:AV × Option St} (h:qfK c tm σ op=some r):opA c.cfg ex tm σ op=some r:=by
 unfold qfK at h
 split at h
 ·exact h
 ·rename_i g args ts
  split at h<;>try cases h
  rename_i f caps hf
  simp only [opA,qgM,hf]
  exact qE6 h
 ·cases h
 ·rename_i op h1 h2 h3
  unfold opA
  split
  ·rename_i cl
   obtain ⟨cl,ar,ts⟩:=cl
   cases cl with
   | builtin b=>exact absurd rfl (h1 b ar ts)
   | value g=>exact absurd rfl (h2 g ar ts)
   | invoke r n=>exact absurd rfl (h3 _)
  ·exact h
theorem Jc {c:PC} {ex:Qd} {ops:Array Oper} {draw:Bool}:∀ {l:List Oper} {s s':S},jJ c ops draw l s=some s'->zr c.cfg ex ops draw l s=some s'
 | [],s,s',h=>h
 | o::rest,s,s',h=>by
   simp only [jJ] at h
   simp only [zr]
   split at h
   ·rename_i hw
    rw [hw]
    simp only
    split at h
    ·rename_i x hop
     rw [qza hop]
     exact Jc h
    ·rename_i x σ' hop
     rw [qza hop]
     simp only
     split at h
     ·cases h
     ·rename_i hd
      rw [hd]
      exact Jc h
    ·cases h
   ·rename_i hw
    rw [hw]
    exact Jc h
   ·cases h
theorem qvK {c:PC}:∀ {n:Nat} {cd:Code} {s:S} {r:Ex × S},zd c n cd s=some r->QD c.cfg n cd s=some r:=by
 intro n
 induction n with
 | zero=>intro cd s r h;simp [zd] at h
 | succ n ih =>
   intro cd s r h
   simp only [zd] at h
   simp only [QD]
   cases cd with
   | region id ops draw =>
     simp only [yy] at h
     simp only [qat]
     split at h
     ·rename_i hsp
      rw [hsp]
      simp only
      split at h<;>try cases h
      rename_i hg hr
      rw [Jc hr,hg]
      simp only
      split at h<;>try cases h
      rename_i hr2
      rw [Jc hr2]
      simp only
      split at h<;>cases h
      rename_i hr3
      rw [Jc hr3]
     ·rename_i hsp
      rw [hsp]
      simp only
      split at h
      ·rename_i p htw
       rw [htw]
       simp only
       split at h<;>try cases h
       rename_i hg hr
       rw [Jc hr,hg]
       simp only
       split at h<;>cases h
       rename_i hg2 hr2
       rw [Jc hr2,hg2]
      ·rename_i htw
       rw [htw]
       simp only
       split at h<;>cases h
       rename_i hg hr
       rw [Jc hr,hg]
   | seq a b =>
     simp only [yy] at h
     simp only [qat]
     split at h
     ·rename_i s' ha;rw [ih ha];exact ih h
     ·rename_i r' ha
      cases hx:zd c n a s with
      | none=>rw [hx] at h;cases h
      | some q =>
        rw [hx] at h;cases h
        rw [ih hx]
        obtain ⟨e,s'⟩:=r
        cases e with
        | normal=>exact absurd hx (ha s')
        | exit i=>rfl
        | ret=>rfl
   | cond t x y =>
     simp only [yy] at h
     simp only [qat]
     split at h
     ·rename_i ht;rw [ht];exact ih h
     ·rename_i ht;rw [ht];exact ih h
     ·cases h
   | block id b =>
     simp only [yy] at h
     simp only [qat]
     cases hx:zd c n b s with
     | none=>rw [hx] at h;cases h
     | some q=>rw [hx] at h;rw [ih hx];exact h
   | loop b =>
     simp only [yy] at h
     simp only [qat]
     cases hx:zd c n b (qbF (c.pur b) s) with
     | none=>rw [hx] at h;cases h
     | some q =>
       rw [hx] at h;rw [show QD c.cfg n b (qbF (c.cfg.pur b) s)=_ from ih hx]
       obtain ⟨e,s'⟩:=q
       cases e with
       | normal=>exact ih h
       | exit i=>exact h
       | ret=>exact h
   | _=>exact h
theorem qAy {c:PC}:∀ {n:Nat} {cd:Code} {s:S} {r:Ex × S},zd c n cd s=some r->zd c (n+1) cd s=some r:=by
 intro n
 induction n with
 | zero=>intro cd s r h;simp [zd] at h
 | succ n ih =>
   intro cd s r h
   rw [zd] at h |-
   cases cd with
   | seq a b =>
     simp only [yy] at h |-
     split at h
     ·rename_i s' ha;rw [ih ha];exact ih h
     ·rename_i r' ha
      cases hx:zd c n a s with
      | none=>rw [hx] at h;cases h
      | some q =>
        rw [hx] at h;cases h
        rw [ih hx]
        obtain ⟨e,s'⟩:=r
        cases e with
        | normal=>exact absurd hx (ha s')
        | exit i=>rfl
        | ret=>rfl
   | cond t x y =>
     simp only [yy] at h |-
     split at h
     ·rename_i ht;exact ih h
     ·rename_i ht;exact ih h
     ·cases h
   | block id b =>
     simp only [yy] at h |-
     cases hx:zd c n b s with
     | none=>rw [hx] at h;cases h
     | some q=>rw [hx] at h;rw [ih hx];exact h
   | loop b =>
     simp only [yy] at h |-
     cases hx:zd c n b (qbF (c.pur b) s) with
     | none=>rw [hx] at h;cases h
     | some q =>
       rw [hx] at h;rw [ih hx]
       obtain ⟨e,s'⟩:=q
       cases e with
       | normal=>exact ih h
       | exit i=>exact h
       | ret=>exact h
   | _=>exact h
theorem qj5 {c:PC} {n m:Nat} (hle:n<=m) {cd:Code} {s:S} {r:Ex × S} (h:zd c n cd s=some r):zd c m cd s=some r:=by
 induction hle with
 | refl=>exact h
 | step _ ih=>exact qAy ih
def Run (c:PC) (cd:Code) (s:S) (K:Ex->S->Prop):Prop:=∃ n e s',zd c n cd s=some (e,s')/\K e s'
inductive It where
 | code (c:Code) | blk (id:Nat) | ops (os:Array Oper) (draw:Bool) (rest:List Oper)
def Go (c:PC) (Q:Ex->S->Prop):List It->Ex->S->Prop
 | [],e,s=>Q e s
 | .code cd::k,.normal,s=>Run c cd s λ e s'=>Go c Q k e s'
 | .code _::k,e,s=>Go c Q k e s
 | .blk id::k,.exit i,s=>Go c Q k (if i=id then .normal else .exit i) s
 | .blk _::k,e,s=>Go c Q k e s
 | .ops os d rest::k,.normal,s=>∃ s',jJ c os d rest s=some s'/\Go c Q k .normal s'
 | .ops _ _ _::k,e,s=>Go c Q k e s
section
variable {c:PC} {Q:Ex->S->Prop} {k:List It} {tm:List AV} {σ : St} {s:S}
theorem qCb {cd:Code} {K:Ex->S->Prop} (h:∀ n,∀ r,yy c (zd c n) cd s=some r↔r=(.normal,s)):Run c cd s K↔K .normal s:=by
 constructor
 ·rintro ⟨n,e,s',h1,h2⟩
  cases n with
  | zero=>simp [zd] at h1
  | succ n=>have:=(h n _).1 h1;cases this;exact h2
 ·intro hk;exact ⟨1,_,_,(h 0 _).2 rfl,hk⟩
theorem qH7 (e:Ex):Go c Q [] e s=Q e s:=rfl
theorem qD4:Go c Q (.code .skip::k) .normal s=Go c Q k .normal s :=
 propext (qCb (c:=c) (s:=s) (cd := .skip) (K := λ e s'=>Go c Q k e s') λ n r=>⟨λ h=>by cases h;rfl,λ h=>by rw [h];rfl⟩)
theorem qCZ (l:Nat):Go c Q (.code (.label l)::k) .normal s=Go c Q k .normal s :=
 propext (qCb (c:=c) (s:=s) (cd := .label l) (K := λ e s'=>Go c Q k e s') λ n r=>⟨λ h=>by cases h;rfl,λ h=>by rw [h];rfl⟩)
theorem qGk (id:Nat):Go c Q (.code (.exit id)::k) .normal s=Go c Q k (.exit id) s:=by
 apply propext
 constructor
 ·rintro ⟨n,e,s',h1,h2⟩
  cases n with
  | zero=>simp [zd] at h1
  | succ n=>simp only [zd,yy,Option.some.injEq,Prod.mk.injEq] at h1;obtain ⟨rfl,rfl⟩:=h1;exact h2
 ·intro h;exact ⟨1,_,_,rfl,h⟩
theorem qF0:Go c Q (.code .ret::k) .normal s=Go c Q k .ret s:=by
 apply propext
 constructor
 ·rintro ⟨n,e,s',h1,h2⟩
  cases n with
  | zero=>simp [zd] at h1
  | succ n=>simp only [zd,yy,Option.some.injEq,Prod.mk.injEq] at h1;obtain ⟨rfl,rfl⟩:=h1;exact h2
 ·intro h;exact ⟨1,_,_,rfl,h⟩
theorem qye (cd:Code):Go c Q (.code cd::k) .ret s=Go c Q k .ret s:=rfl
theorem qwg (cd:Code) (i:Nat):Go c Q (.code cd::k) (.exit i) s=Go c Q k (.exit i) s:=rfl
theorem quS (id:Nat):Go c Q (.blk id::k) .normal s=Go c Q k .normal s:=rfl
theorem qA0 (id:Nat):Go c Q (.blk id::k) .ret s=Go c Q k .ret s:=rfl
theorem qx7 (id i:Nat):Go c Q (.blk id::k) (.exit i) s=Go c Q k (if i=id then .normal else .exit i) s:=rfl
theorem qGX (a b:Code):Go c Q (.code (.seq a b)::k) .normal s=Go c Q (.code a :: .code b::k) .normal s:=by
 apply propext
 show Run c (.seq a b) s (λ e s'=>Go c Q k e s')↔Run c a s λ e s'=>Go c Q (.code b::k) e s'
 constructor
 ·rintro ⟨n,e,s',h1,h2⟩
  cases n with
  | zero=>simp [zd] at h1
  | succ n =>
    simp only [zd,yy] at h1
    split at h1
    ·rename_i s1 ha;exact ⟨n,_,s1,ha,n,e,s',h1,h2⟩
    ·rename_i hne
     refine ⟨n,e,s',h1,?_⟩
     cases e with
     | normal=>exact absurd h1 (hne s')
     | exit i=>exact h2
     | ret=>exact h2
 ·rintro ⟨n,e,s1,h1,h2⟩
  cases e with
  | normal =>
    obtain ⟨m,e,s',h3,h4⟩:=h2
    refine ⟨n+m+1,e,s',?_,h4⟩
    simp only [zd,yy]
    rw [qj5 (by omega) h1]
    exact qj5 (by omega) h3
  | exit i=>exact ⟨n+1,_,s1,by simp only [zd,yy];rw [h1],h2⟩
  | ret=>exact ⟨n+1,_,s1,by simp only [zd,yy];rw [h1],h2⟩
theorem qES (id:Nat) (b:Code):Go c Q (.code (.block id b)::k) .normal s=Go c Q (.code b :: .blk id::k) .normal s:=by
 apply propext
 show Run c (.block id b) s (λ e s'=>Go c Q k e s')↔Run c b s λ e s'=>Go c Q (.blk id::k) e s'
 constructor
 ·rintro ⟨n,e,s',h1,h2⟩
  cases n with
  | zero=>simp [zd] at h1
  | succ n =>
    simp only [zd,yy] at h1
    cases hx:zd c n b s with
    | none=>rw [hx] at h1;cases h1
    | some q =>
      rw [hx] at h1
      obtain ⟨e1,s1⟩:=q
      refine ⟨n,e1,s1,hx,?_⟩
      cases e1<;>(simp only [Option.some.injEq,Prod.mk.injEq] at h1;obtain ⟨rfl,rfl⟩:=h1;exact h2)
 ·rintro ⟨n,e,s1,h1,h2⟩
  cases e with
  | normal=>exact ⟨n+1,_,s1,by simp only [zd,yy];rw [h1],h2⟩
  | exit i=>exact ⟨n+1,_,s1,by simp only [zd,yy];rw [h1],h2⟩
  | ret=>exact ⟨n+1,_,s1,by simp only [zd,yy];rw [h1],h2⟩
theorem qr1 (b:Code):Go c Q (.code (.loop b)::k) .normal s=Go c Q (.code b :: .code (.loop b)::k) .normal (qbF (c.pur b) s):=by
 apply propext
 show Run c (.loop b) s (λ e s'=>Go c Q k e s')↔Run c b (qbF (c.pur b) s) λ e s'=>Go c Q (.code (.loop b)::k) e s'
 constructor
 ·rintro ⟨n,e,s',h1,h2⟩
  cases n with
  | zero=>simp [zd] at h1
  | succ n =>
    simp only [zd,yy] at h1
    split at h1
    ·rename_i s1 ha;exact ⟨n,_,s1,ha,n,e,s',h1,h2⟩
    ·rename_i hne
     refine ⟨n,e,s',h1,?_⟩
     cases e with
     | normal=>exact absurd h1 (hne s')
     | exit i=>exact h2
     | ret=>exact h2
 ·rintro ⟨n,e,s1,h1,h2⟩
  cases e with
  | normal =>
    obtain ⟨m,e,s',h3,h4⟩:=h2
    refine ⟨n+m+1,e,s',?_,h4⟩
    simp only [zd,yy]
    rw [qj5 (by omega) h1]
    exact qj5 (by omega) h3
  | exit i=>exact ⟨n+1,_,s1,by simp only [zd,yy];rw [h1],h2⟩
  | ret=>exact ⟨n+1,_,s1,by simp only [zd,yy];rw [h1],h2⟩
theorem qBA (rw:List Row) (y:AV):rsA (ju rw y)=[]:=by
 have h1:∀ x,rsC (qW rw x)=[]:=by
  intro x
  cases x with
  | rs r lo n ep f =>
    simp only [qW]
    split
    ·split<;>rfl
    ·rfl
  | _=>rfl
 cases y with
 | agg cs =>
   show (cs.map (qW rw)).flatMap rsC=[]
   rw [List.flatMap_map]
   exact List.flatMap_eq_nil_iff.2 λ x _=>h1 x
 | rs r lo n ep f =>
   show rsA (qW rw (.rs r lo n ep f))=[]
   simp only [qW]
   split
   ·split<;>rfl
   ·rfl
 | _=>rfl
def qAr (ts:List Nat) (s:S):Prop:=∀ t∈ts,rsA (s.tm.getD t .dead)=[]
theorem qA4 (s:S) (t u:Nat) (h:u=t\/rsA (s.tm.getD u .dead)=[]):rsA ((qaD s t).tm.getD u .dead)=[]:=by
 unfold qaD
 cases hr:rsA (s.tm.getD t .dead) with
 | nil =>
   rcases h with rfl | h
   ·exact hr
   ·exact h
 | cons r l =>
   show rsA ((s.tm.set t _).getD u .dead)=[]
   by_cases hu:t=u
   ·subst hu
    have hlt:t<s.tm.length:=by
     apply Nat.lt_of_not_le
     intro hle
     rw [List.getD_eq_getElem?_getD,List.getElem?_eq_none hle] at hr
     cases hr
    rw [List.getD_eq_getElem?_getD,List.getElem?_set_self hlt]
    exact qBA _ _
   ·rw [List.getD_eq_getElem?_getD,List.getElem?_set_ne hu,<- List.getD_eq_getElem?_getD]
    rcases h with rfl | h
    ·exact absurd rfl hu
    ·exact h
theorem qrU:∀ (ts:List Nat) (s:S) (us:List Nat),qAr us s->qAr (us++ts) (qbF ts s)
 | [],s,us,h=>by rw [List.append_nil];exact h
 | t::ts,s,us,h=>by
   have:=qrU ts (qaD s t) (us++[t]) (λ u hu=>qA4 s t u (by
    rcases List.mem_append.1 hu with hu | hu
    ·exact .inr (h u hu)
    ·exact .inl (by simpa using hu)))
   rw [List.append_assoc] at this
   exact this
theorem qy8:∀ (ts:List Nat) (s:S),qAr ts s->qbF ts s=s
 | [],s,h=>rfl
 | t::ts,s,h=>by
   have e:qaD s t=s:=by unfold qaD;rw [h t (List.mem_cons_self ..)]
   show qbF ts (qaD s t)=s
   rw [e]
   exact qy8 ts s λ u hu=>h u (List.mem_cons_of_mem _ hu)
theorem qH2 (b:Code):Go c Q (.code (.loop b)::k) .normal (qbF (c.pur b) s)=Go c Q (.code (.loop b)::k) .normal s:=by
 rw [qr1,qr1,qy8 _ _ (by have:=qrU (c.pur b) s [] (λ _ h=>by cases h);simpa using this)]
def qAs (c:PC) (Q:Ex->S->Prop) (k:List It) (s:S) (x y:Code):AV->Prop
 | .v (.bool true)=>Go c Q (.code x::k) .normal s
 | .v (.bool false)=>Go c Q (.code y::k) .normal s
 | _=>False
theorem qF9 (t:Operand) (x y:Code):Go c Q (.code (.cond t x y)::k) .normal ⟨tm,σ⟩=qAs c Q k ⟨tm,σ⟩ x y (aev tm t):=by
 apply propext
 show Run c (.cond t x y) ⟨tm,σ⟩ (λ e s'=>Go c Q k e s')↔_
 constructor
 ·rintro ⟨n,e,s',h1,h2⟩
  cases n with
  | zero=>simp [zd] at h1
  | succ n =>
    simp only [zd,yy] at h1
    split at h1
    ·rename_i ht;rw [ht];exact ⟨n,e,s',h1,h2⟩
    ·rename_i ht;rw [ht];exact ⟨n,e,s',h1,h2⟩
    ·cases h1
 ·intro h
  unfold qAs at h
  split at h
  ·rename_i ht;obtain ⟨n,e,s',h1,h2⟩:=h;exact ⟨n+1,e,s',by simp only [zd,yy,ht];exact h1,h2⟩
  ·rename_i ht;obtain ⟨n,e,s',h1,h2⟩:=h;exact ⟨n+1,e,s',by simp only [zd,yy,ht];exact h1,h2⟩
  ·exact h.elim
theorem qCk (x y:Code):qAs c Q k s x y (.v (.bool true))=Go c Q (.code x::k) .normal s:=rfl
theorem qAI (x y:Code):qAs c Q k s x y (.v (.bool false))=Go c Q (.code y::k) .normal s:=rfl
theorem qAA (id:Nat) (l:List Oper) (d:Bool) {p:Tmp} (hsp:qhK ⟨l⟩ d=false) (htw:qmR ⟨l⟩ d=some p) (hg:JZ c.cfg.lo s.tm (qaw ⟨l⟩) true=true) (h:Go c (λ e s1=>qpk s1.tm ⟨l⟩ p=true/\Go c Q (.ops ⟨l⟩ true (qd3 ⟨l⟩)::k) .normal s1) (.ops (qaw ⟨l⟩) true (qaw ⟨l⟩).toList::[]) .normal s):Go c Q (.code (.region id ⟨l⟩ d)::k) .normal s:=by
 obtain ⟨s1,h1,hp,s2,h2,h3⟩:=h
 refine ⟨1,.normal,s2,?_,h3⟩
 simp only [zd,yy,hsp,htw]
 rw [hg,h1]
 simp only
 rw [hp,h2]
theorem qA9 (id:Nat) (l:List Oper) (d:Bool) (hsp:qhK ⟨l⟩ d=false) (htw:qmR ⟨l⟩ d=none):Go c Q (.code (.region id ⟨l⟩ d)::k) .normal s=(JZ c.cfg.lo s.tm ⟨l⟩ d=true/\Go c Q (.ops ⟨l⟩ d l::k) .normal s):=by
 apply propext
 constructor
 ·rintro ⟨n,e,s',h1,h2⟩
  cases n with
  | zero=>simp [zd] at h1
  | succ n =>
    simp only [zd,yy,hsp,htw] at h1
    split at h1<;>cases h1
    rename_i hg hr
    exact ⟨hg,_,hr,h2⟩
 ·rintro ⟨hg,s',h1,h2⟩
  exact ⟨1,.normal,s',by simp only [zd,yy,hsp,htw];rw [hg,h1],h2⟩
theorem qAT (id:Nat) (l:List Oper) (d:Bool) (hsp:qhK ⟨l⟩ d=true) (hl:qfz c.cfg.lo l=true) (hg0:JZ c.cfg.lo s.tm ⟨l⟩ true=true) (hg:JZ c.cfg.lo s.tm ⟨qR c.cfg.lo l⟩ true=true) (h:Go c Q (.ops ⟨qR c.cfg.lo l⟩ true (qR c.cfg.lo l) :: .ops ⟨l⟩ false (alL c.cfg.lo l) :: .ops ⟨l⟩ true (qmC c.cfg.lo l)::k) .normal s):Go c Q (.code (.region id ⟨l⟩ d)::k) .normal s:=by
 obtain ⟨s1,h1,s2,h2,s3,h3,h4⟩:=h
 refine ⟨1,.normal,s3,?_,h4⟩
 simp only [zd,yy,hsp]
 rw [hl,hg0,hg,h1]
 simp only [Bool.and_self]
 rw [h2]
 simp only
 rw [h3]
theorem qAL (os:Array Oper) (d:Bool):Go c Q (.ops os d []::k) .normal s=Go c Q k .normal s:=by
 apply propext
 constructor
 ·rintro ⟨s',h1,h2⟩;simp only [jJ,Option.some.injEq] at h1;subst h1;exact h2
 ·intro h;exact ⟨s,rfl,h⟩
def qny (c:PC) (Q:Ex->S->Prop) (k:List It) (os:Array Oper) (d l:Bool) (rest:List Oper) (dst:Option Tmp) (tm:List AV) (σ : St):Option (AV × Option St)->Prop
 | some (x,none)=>Go c Q (.ops os d rest::k) .normal ⟨qaj tm dst x,σ⟩
 | some (x,some σ')=>(d && !l)=false/\Go c Q (.ops os d rest::k) .normal ⟨qaj tm dst x,σ'⟩
 | none=>False
def qmW (c:PC) (Q:Ex->S->Prop) (k:List It) (os:Array Oper) (d:Bool) (rest:List Oper) (o:Oper) (tm:List AV) (σ : St):Option Bool->Prop
 | some true=>qny c Q k os d (zK c.cfg.lo o.op&&qaI c.cfg os (os.size-(rest.length+1)) tm σ o.op) rest o.dst tm σ (qfK c tm σ o.op)
 | some false=>Go c Q (.ops os d rest::k) .normal ⟨qaj tm o.dst qgU,σ⟩
 | none=>False
theorem qHX (os:Array Oper) (d:Bool) (o:Oper) (rest:List Oper):Go c Q (.ops os d (o::rest)::k) .normal ⟨tm,σ⟩=qmW c Q k os d rest o tm σ (ya os tm o):=by
 apply propext
 constructor
 ·rintro ⟨s',h1,h2⟩
  simp only [jJ] at h1
  unfold qmW
  split at h1
  ·rename_i hw
   unfold qny
   split at h1
   ·rename_i x hp;exact ⟨s',h1,h2⟩
   ·rename_i x σ' hp
    split at h1
    ·cases h1
    ·rename_i hd;exact ⟨hd,s',h1,h2⟩
   ·cases h1
  ·rename_i hw;exact ⟨s',h1,h2⟩
  ·cases h1
 ·intro h
  unfold qmW at h
  split at h
  ·rename_i hw
   unfold qny at h
   split at h
   ·rename_i x hp
    obtain ⟨s',h1,h2⟩:=h
    exact ⟨s',by simp only [jJ,hw,hp];exact h1,h2⟩
   ·rename_i x σ' hp
    obtain ⟨hd,s',h1,h2⟩:=h
    exact ⟨s',by simp only [jJ,hw,hp,hd];exact h1,h2⟩
   ·exact h.elim
  ·rename_i hw
   obtain ⟨s',h1,h2⟩:=h
   exact ⟨s',by simp only [jJ,hw];exact h1,h2⟩
  ·exact h.elim
end
end Go.AmZ
namespace Go.AmZ
open Go Go.RowKit
def Sub (x y:AV):Prop:=∀ Γ u,Rep Γ x u->Rep Γ y u
theorem Sub.refl (x:AV):Sub x x := λ _ _ h=>h
inductive jC:List AV->List AV->Prop
 | nil:jC [] []
 | cons {x y:AV} {xs ys:List AV}:Sub x y->jC xs ys->jC (x::xs) (y::ys)
theorem jC.refl:∀ xs,jC xs xs
 | [] => .nil
 | x::xs => .cons (.refl x) (.refl xs)
theorem jC.rep {Γ : Gh}:∀ {xs ys:List AV} {us:List Value},jC xs ys->RepL Γ xs us->RepL Γ ys us
 | _,_,_,.nil,h=>h
 | _,_,us,.cons h t,g=>by
   obtain ⟨u,r,rfl,h1,h2⟩:=g.uncons
   exact .cons (h Γ u h1) (t.rep h2)
theorem jC.tup {xs ys:List AV} (h:jC xs ys):Sub (.tup xs) (.tup ys):=by
 intro Γ u hu
 cases hu with
 | tup cs us hn hr =>
   have:=h.rep (RepL.mk hn hr)
   exact .tup _ _ this.len this.rep
theorem qFY {P:Program} {C:Cfg} {Γ : Gh} {σ : St} {w:World} (hC:yc P C) {f:FuncId} {fn:Func} {c:Code} (h1:P.funcs[f]? = some fn) (hc:fn.body=some c) (hd:jq c=true) {args:List AV} {vals:List Value} {r:AV × Option St} (hi:Inv Γ σ w) (hr:RepL Γ args vals)
  {n:Nat} {e:Ex} {s':S} (he:QD C n c (qea fn σ args)=some (e,s')) (hee:e = .ret\/e = .normal) (hl:qfp C fn σ s'=some r):jr P Γ σ w f vals r:=by
 unfold jr
 refine calls_of_wp h1 hc ?_
 have hi':Inv Γ (qea fn σ args).σ w:=hi.wr rfl rfl
 have ht:zg Γ (qea fn σ args).tm { tmps:=vals.toArray++Array.replicate (fn.ntmps-vals.toArray.size) undef,defers:=[] }:=by
  show RepL Γ (args++List.replicate (fn.ntmps-args.length) .dead) (vals.toArray++Array.replicate (fn.ntmps-vals.toArray.size) undef).toList
  rw [Array.toList_append,Array.toList_replicate]
  have:vals.toArray.size=args.length:=by simpa using hr.len
  rw [this]
  exact hr.append (qdu Γ _)
 refine wp_mono (qsC hC n c _ e s' hd he Γ w _ hi' ht rfl) ?_
 rintro e' a' w' ⟨rfl,hd,Γ',g1,g2,g3,g4⟩
 unfold qfp at hl
 split at hl<;>cases hl
 rename_i rv hrv
 obtain ⟨v,q1,q2⟩:=qjL hC.ty g2 g3 hrv
 obtain ⟨⟨Γ2,u1,u2,u3⟩,u4⟩:=qBe hi g1 g2 g4 q2
 have:a'.defers=[]/\∃ v,(results fn a'.tmps).run P w' = .ok v w'/\∃ v_1 Γ',Ending.returned v = .returned v_1/\Ext Γ w Γ' w'/\Inv Γ' (turn σ (JS σ rv s'.σ).2) w'/\Rep Γ' (JS σ rv s'.σ).1 v_1/\qM { σ with wr:=[],wrr:=[] } (turn { σ with wr:=[],wrr:=[] } (JS σ rv s'.σ).2) :=
  ⟨hd,v,q1,v,Γ2,rfl,u1,u2,u3,u4⟩
 rcases hee with rfl | rfl
 ·exact this
 ·exact this
def Ret (c:PC) (rs:List ResultVar) (Pr:AV->Prop) (e:Ex) (s:S):Prop :=
 (e = .ret\/e = .normal)/\match yZ c.cfg s.tm s.σ rs with
  | some l=>refs 0 0 (qeY 0 s.σ.rw (zw l))=false/\Pr (qeY 0 s.σ.rw (zw l))
  | none=>False
def GoB (c:PC) (Pr:AV->Prop) (fn:Func) (args:List AV):Prop :=
 match fn.body with
 | some cd=>Go c (Ret c fn.results.toList Pr) [.code cd] .normal ⟨args++List.replicate (fn.ntmps-args.length) .dead,emp⟩
 | none=>False
def qaN (fn:Func):Bool:=match fn.body with
 | some cd=>jq cd && !(fn.name == "runtime.NumGoroutine")
 | none=>false
theorem yc.pur {P:Program} {C:Cfg} (h:yc P C) (p:Code->List Nat) (q:Nat->Bool):yc P { C with pur:=p,lo:=q }:=⟨h.mixed,h.ty,h.fn,h.prim⟩
theorem qCO {P:Program} {c:PC} (hC:yc P c.cfg) {f:FuncId} {fn:Func} (hf:P.funcs[f]? = some fn) (hb:qaN fn=true) (p:List AV->Option AV)
  (h:∀ args r,p args=some r->∃ args' Pr p q,jC args args'/\(∀ v,Pr v->Sub v r)/\GoB { c with pur:=p,ld:=q } Pr fn args'):qT P f (Qs p):=by
 unfold qaN at hb
 cases hc:fn.body with
 | none=>rw [hc] at hb;cases hb
 | some cd =>
 rw [hc] at hb
 simp only [Bool.and_eq_true,Bool.not_eq_true'] at hb
 obtain ⟨hd,hn⟩:=hb
 refine ⟨⟨fn,hf,by rw [hc];rfl,hn⟩,λ Γ σ w args vals r hi hr hp=>?_⟩
 unfold Qs at hp
 split at hp<;>try cases hp
 split at hp<;>cases hp
 rename_i v hv
 obtain ⟨args',Pr,pp,qq,g1,g2,hgo⟩:=h args v hv
 have hC:yc P (PC.cfg { c with pur:=pp,ld:=qq }):=hC.pur pp _
 unfold GoB at hgo
 rw [hc] at hgo
 obtain ⟨n,e,s',g3,g4,g0⟩:=hgo
 split at g0
 case h_2=>exact g0.elim
 rename_i l hl
 obtain ⟨g6,g7⟩:=g0
 have g5:qeI (PC.cfg { c with pur:=pp,ld:=qq }) fn s'=some (zw l):=by
  unfold qeI
  rw [hl]
 generalize zw l=rv at g5 g6 g7
 have hl:qfp (PC.cfg { c with pur:=pp,ld:=qq }) fn emp s'=some (qeY 0 s'.σ.rw rv,none):=by
  unfold qfp
  rw [g5]
  simp only [JS]
  have f1:(s'.σ.wr.filter λ b=>decide (b<emp.bx.length))=[]:=List.filter_eq_nil_iff.2 λ b _=>by simp [emp]
  have f2:(s'.σ.wrr.filter λ b=>decide (b<emp.rw.length))=[]:=List.filter_eq_nil_iff.2 λ b _=>by simp [emp]
  have hk:qj4 emp rv s'.σ = false:=by
   unfold qj4
   rw [f1]
   show (refs 0 0 (qeY 0 s'.σ.rw rv)||false)=false
   rw [g6];rfl
  rw [hk,f1,f2]
  rfl
 have hcall:=qFY (f:=f) (σ := emp) hC hf hc hd hi (g1.rep hr) (qvK g3) g4 hl
 refine Calls.mono hcall ?_
 rintro e' w' ⟨v',Γ',q1,q2,q3,q4,q5⟩
 exact ⟨v',Γ',q1,q2,q3,g2 _ g7 Γ' v' q4,q5⟩
section
variable {c:PC} {Q:Ex->S->Prop} {k:List It} {tm:List AV} {σ : St} {os:Array Oper} {d:Bool} {rest:List Oper} {dst:Option Tmp}
def qFp (c:PC) (Q:Ex->S->Prop) (k:List It) (os:Array Oper) (d:Bool) (rest:List Oper) (dst:Option Tmp) (tm:List AV) (σ : St) (x:AV):Prop:=Go c Q (.ops os d rest::k) .normal ⟨qaj tm dst x,σ⟩
theorem qzs (l:Bool) (x:AV):qny c Q k os d l rest dst tm σ (some (x,none))=qFp c Q k os d rest dst tm σ x:=rfl
theorem qF6 (l:Bool) (x:AV) (σ':St):qny c Q k os d l rest dst tm σ (some (x,some σ'))=((d && !l)=false/\qFp c Q k os d rest dst tm σ' x):=rfl
theorem qBu (o:Oper):qmW c Q k os d rest o tm σ (some true)=qny c Q k os d (zK c.cfg.lo o.op&&qaI c.cfg os (os.size-(rest.length+1)) tm σ o.op) rest o.dst tm σ (qfK c tm σ o.op):=rfl
theorem qAC (o:Oper):qmW c Q k os d rest o tm σ (some false)=Go c Q (.ops os d rest::k) .normal ⟨qaj tm o.dst qgU,σ⟩:=rfl
end
end Go.AmZ
namespace Go.GxZ
open Go.RowKit
inductive T where
 | mk (kind:Int) (name:List UInt8) (sort:Int) (kids:List T)
namespace T
def kind:T->Int | mk k _ _ _=>k
def name:T->List UInt8 | mk _ n _ _=>n
def sort:T->Int | mk _ _ s _=>s
def kids:T->List T | mk _ _ _ l=>l
noncomputable def para {α : Type} (f:T->List α -> α) (t:T) : α :=
 T.rec (motive_1 := λ _ => α) (motive_2 := λ _=>List α) (λ k n s l ih=>f (mk k n s l) ih) [] (λ _ _ a b=>a::b) t
theorem para_eq {α : Type} (f:T->List α -> α) (t:T):para f t=f t (t.kids.map (para f)):=by
 obtain ⟨k,n,s,l⟩:=t
 show f (mk k n s l) _=f (mk k n s l) _
 congr 1
 show T.rec_1 (motive_1 := λ _ => α) (motive_2 := λ _=>List α) _ _ _ l=l.map (para f)
 induction l with
 | nil=>rfl
 | cons a l ih=>exact congrArg (para f a :: ·) ih
theorem ind {P:T->Prop} (h:∀ t,(∀ k∈t.kids,P k)->P t) (t:T):P t :=
 T.rec (motive_1:=P) (motive_2 := λ l=>∀ k∈l,P k) (λ _ _ _ _ ih=>h _ ih) (λ k hk=>by cases hk)
  (λ a l ha hl k hk=>by rcases List.mem_cons.1 hk with rfl | hk;exact ha;exact hl k hk) t
end T
def qbX {α : Type} (k:Nat) (R : α -> List Value->Prop) (Q:Nat->Prop) (w:World) (a:Option Addr) (xs:List α):Prop :=
 ∀ (j:Nat) (x : α),xs[j]? = some x->∃ b off cs,a=some ⟨b,off,none⟩/\Q b/\cs.length=k/\(∀ (i:Nat) (c:Value),cs[i]? = some c->w.cell? ⟨b,off+j*k+i,none⟩=some c)/\R x cs
noncomputable def Qp (Q:Nat->Prop) (w:World):T->List Value->Prop :=
 T.para λ t rs cs=>∃ a c,cs=[.int .i64 t.kind,.string ⟨t.name.toArray⟩,.int .i64 t.sort,.slice a rs.length c]/\qbX 4 (λ r cs=>r cs) Q w a rs
theorem qih {Q:Nat->Prop} {w:World} {t:T} {cs:List Value} :
  Qp Q w t cs↔∃ a c,cs=[.int .i64 t.kind,.string ⟨t.name.toArray⟩,.int .i64 t.sort,.slice a t.kids.length c]/\qbX 4 (Qp Q w) Q w a t.kids:=by
 unfold Qp
 rw [T.para_eq]
 simp only [List.length_map]
 refine exists_congr λ a=>exists_congr λ c=>and_congr Iff.rfl ?_
 constructor
 ·intro h j x hj
  obtain ⟨b,off,cs,h1,h2,h3,h4,h5⟩:=h j _ (by rw [List.getElem?_map,hj];rfl)
  exact ⟨b,off,cs,h1,h2,h3,h4,h5⟩
 ·intro h j r hj
  rw [List.getElem?_map,Option.map_eq_some_iff] at hj
  obtain ⟨x,hx,rfl⟩:=hj
  exact h j x hx
theorem qbX.mono {α : Type} {k:Nat} {R R' : α -> List Value->Prop} {Q Q':Nat->Prop} {w:World} {a:Option Addr} {xs:List α} (h:qbX k R Q w a xs) (hQ:∀ b,Q b->Q' b) (hR:∀ x∈xs,∀ cs,R x cs->R' x cs):qbX k R' Q' w a xs :=
 λ j x hj=>let ⟨b,off,cs,h1,h2,h3,h4,h5⟩:=h j x hj;⟨b,off,cs,h1,hQ b h2,h3,h4,hR x (List.mem_of_getElem? hj) cs h5⟩
theorem qbX.below {α : Type} {k:Nat} {R R' : α -> List Value->Prop} {Q:Nat->Prop} {w w':World} {a:Option Addr} {xs:List α} (h:qbX k R Q w a xs) (hb:∀ b,Q b->w'.heap[b]? = w.heap[b]?) (hR:∀ x∈xs,∀ cs,R x cs->R' x cs):qbX k R' Q w' a xs :=
 λ j x hj=>let ⟨b,off,cs,h1,h2,h3,h4,h5⟩:=h j x hj;⟨b,off,cs,h1,h2,h3,λ i c hc=>(World.cell?_of_block (w:=w) (a:=⟨b,off+j*k+i,none⟩) (hb b h2)).trans (h4 i c hc),hR x (List.mem_of_getElem? hj) cs h5⟩
theorem Qp.mono {Q Q':Nat->Prop} {w:World} (hQ:∀ b,Q b->Q' b) (t:T):∀ {cs:List Value},Qp Q w t cs->Qp Q' w t cs:=by
 refine T.ind (P := λ t=>∀ {cs:List Value},Qp Q w t cs->Qp Q' w t cs) ?_ t
 intro t ih cs h
 rw [qih] at h |-
 obtain ⟨a,c,h1,h2⟩:=h
 exact ⟨a,c,h1,h2.mono hQ λ x hx cs h=>ih x hx h⟩
theorem Qp.keep {Q:Nat->Prop} {w w':World} (hb:∀ b,Q b->w'.heap[b]? = w.heap[b]?) (t:T):∀ {cs:List Value},Qp Q w t cs->Qp Q w' t cs:=by
 refine T.ind (P := λ t=>∀ {cs:List Value},Qp Q w t cs->Qp Q w' t cs) ?_ t
 intro t ih cs h
 rw [qih] at h |-
 obtain ⟨a,c,h1,h2⟩:=h
 exact ⟨a,c,h1,h2.below hb λ x hx cs h=>ih x hx h⟩
def qFv (t:T) (a:Option Addr) (c:Nat):List Value:=[.int .i64 t.kind,.string ⟨t.name.toArray⟩,.int .i64 t.sort,.slice a t.kids.length c]
def qaU (Q:Nat->Prop) (w:World) (a:Option Addr) (l:List T):Prop:=qbX 4 (Qp Q w) Q w a l
theorem Qp.mk {Q:Nat->Prop} {w:World} {t:T} {a:Option Addr} {c:Nat} (h:qaU Q w a t.kids):Qp Q w t (qFv t a c):=qih.2 ⟨a,c,rfl,h⟩
theorem Qp.out {Q:Nat->Prop} {w:World} {t:T} {cs:List Value} (h:Qp Q w t cs):∃ a c,cs=qFv t a c/\qaU Q w a t.kids:=qih.1 h
theorem qaU.mono {Q Q':Nat->Prop} {w:World} {a:Option Addr} {l:List T} (hQ:∀ b,Q b->Q' b) (h:qaU Q w a l):qaU Q' w a l:=qbX.mono h hQ λ _ _ _ h=>h.mono hQ
theorem qaU.keep {Q:Nat->Prop} {w w':World} {a:Option Addr} {l:List T} (hb:∀ b,Q b->w'.heap[b]? = w.heap[b]?) (h:qaU Q w a l):qaU Q w' a l:=qbX.below h hb λ x _ _ h=>h.keep hb x
theorem qaU.at {Q:Nat->Prop} {w:World} {a:Option Addr} {l:List T} (h:qaU Q w a l) {j:Nat} {x:T} (hj:l[j]? = some x) :
  ∃ b off a' c',a=some ⟨b,off,none⟩/\Q b/\w.cell? ⟨b,off+j*4,none⟩=some (.int .i64 x.kind)/\w.cell? ⟨b,off+j*4+1,none⟩=some (.string ⟨x.name.toArray⟩) /\
   w.cell? ⟨b,off+j*4+2,none⟩=some (.int .i64 x.sort)/\w.cell? ⟨b,off+j*4+3,none⟩=some (.slice a' x.kids.length c')/\qaU Q w a' x.kids:=by
 obtain ⟨b,off,cs,h1,h2,h3,h4,h5⟩:=h j x hj
 obtain ⟨a',c',rfl,h6⟩:=h5.out
 exact ⟨b,off,a',c',h1,h2,h4 0 _ rfl,h4 1 _ rfl,h4 2 _ rfl,h4 3 _ rfl,h6⟩
def InW (Q:Nat->Prop) (w:World):Prop:=∀ b,Q b->b<w.heap.size
theorem InW.below {Q:Nat->Prop} {w w':World} (h:InW Q w) (hb:Below w.heap.size w w'):InW Q w' := λ b hq=>Nat.lt_of_lt_of_le (h b hq) hb.size
theorem qaU.later {Q:Nat->Prop} {w w':World} {a:Option Addr} {l:List T} (h:qaU Q w a l) (hQ:InW Q w) (hb:Below w.heap.size w w'):qaU Q w' a l:=h.keep λ b hq=>hb.block b (hQ b hq)
theorem Qp.later {Q:Nat->Prop} {w w':World} {t:T} {cs:List Value} (h:Qp Q w t cs) (hQ:InW Q w) (hb:Below w.heap.size w w'):Qp Q w' t cs:=h.keep (λ b hq=>hb.block b (hQ b hq)) t
end Go.GxZ
namespace Go.AmZ
open Go Go.GxZ
def re (t:T):T := .mk t.kind t.name t.sort t.kids
theorem qk (t:T):re t=t:=by obtain ⟨k,n,s,l⟩:=t;rfl
inductive Ty where
 | int (k:IntKind) | bool | str | term | list (a:Ty) | pair (a b:Ty) | one (a:Ty)
 deriving DecidableEq
@[reducible] def Val:Ty->Type
  | .int _=>Int
  | .bool=>Bool
  | .str=>List UInt8
  | .term=>T
  | .list a=>List (Val a)
  | .pair a b=>Val a × Val b
  | .one a=>Val a
def Ty.size:Ty->Nat
 | .term=>4
 | .pair a b=>a.size+b.size
 | .one a=>a.size
 | _=>1
inductive TV where
 | i (k:IntKind) (n:Int)
 | b (x:Bool)
 | s (x:List UInt8)
 | c (x:Value)
 | nil
 | sl (τ : Ty) (l:List (Val τ)) (lv:Nat)
 | row (id ver:Nat)
 | ptr (b o:Nat)
 | pti (b:Nat) (i:Int)
 | rpt (id ver sv:Nat) (i:Int) (cs:List TV) (o:Nat)
 | ept (cs:List TV) (o:Nat)
 | fn (f:FuncId) (caps:List TV)
 | agg (cs:List TV)
 | tup (vs:List TV)
 | dead
structure qD where
 τ : Ty
 l:List (Val τ)
 ver:Nat
 sv:Nat
 sh:Bool
structure TS where
 bx:List (List TV)
 rw:List qD
abbrev Env:=List (Nat × TV)
def get:Env->Nat->TV
 | [],_ => .dead
 | p::E,t=>match Nat.beq p.1 t with
   | true=>p.2
   | false=>get E t
def qbs:Value->TV
 | .bool b => .b b
 | .int k n => .i k n
 | .string s => .s s.data.toList
 | .slice none 0 0 => .nil
 | x=>match zO x with
   | true => .c x
   | false => .dead
def qxh:Value->TV
 | .agg cs=>match cs.toList.all zO with
   | true => .agg (cs.toList.map qbs)
   | false => .dead
 | .tuple vs=>match vs.toList with
   | [] => .tup []
   | _ => .dead
 | x=>qbs x
def evT (E:Env):Operand->TV
 | .tmp t=>get E t
 | .const x=>qxh x
 | .func f => .fn f []
 | .global _ => .dead
def yJ:TV->List TV
 | .agg cs=>cs
 | x=>[x]
def qeG:TV->Bool
 | .agg _ | .tup _ | .dead=>false
 | _=>true
def j8:(τ : Ty)->Val τ -> List TV
 | .int k,n=>[.i k n]
 | .bool,b=>[.b b]
 | .str,s=>[.s s]
 | .term,t=>[.i .i64 t.kind,.s t.name,.i .i64 t.sort,.sl .term t.kids 1]
 | .list a,l=>[.sl a l 1]
 | .pair a b,p=>j8 a p.1++j8 b p.2
 | .one a,v=>j8 a v
def qph:(τ : Ty)->Val τ -> TV
 | .int k,n => .i k n
 | .bool,b => .b b
 | .str,s => .s s
 | .list a,l => .sl a l 1
 | .term,t => .agg (j8 .term t)
 | .pair a b,p => .agg (j8 (.pair a b) p)
 | .one a,v => .agg (j8 (.one a) v)
def qcM {τ : Ty} (l:List (Val τ)) (a:Ty):Option (List (Val a)):=if h : τ = a then some (h▸l) else none
def qhU (rw:List qD) (a:Ty):TV->Option (List (Val a))
 | .nil=>some []
 | .sl _ l _=>qcM l a
 | .row id ver=>match rw[id]? with
   | some R=>match Nat.beq R.ver ver with
     | true=>qcM R.l a
     | false=>none
   | none=>none
 | _=>none
def qDp (k:IntKind):List TV->Option (Int × List TV)
 | .i k' n::r=>match decide (k'=k) with
   | true=>some (n,r)
   | false=>none
 | _=>none
def qz0:List TV->Option (Bool × List TV)
 | .b x::r=>some (x,r)
 | _=>none
def qDu:List TV->Option (List UInt8 × List TV)
 | .s x::r=>some (x,r)
 | _=>none
def qzY (ls:TV->Option (List T)):List TV->Option (T × List TV)
 | .i .i64 k :: .s n :: .i .i64 s::x::r=>match ls x with
   | some l=>some (.mk k n s l,r)
   | none=>none
 | _=>none
def qAp {β : Type} (ls:TV->Option β):List TV->Option (β × List TV)
 | x::r=>match ls x with
   | some l=>some (l,r)
   | none=>none
 | _=>none
def qvw {σ β γ : Type} (p:List σ -> Option (β × List σ)) (q:List σ -> Option (γ × List σ)) (cs:List σ):Option ((β × γ) × List σ):=match p cs with
 | some (x,r)=>match q r with
   | some (y,r)=>some ((x,y),r)
   | none=>none
 | none=>none
def qgp (rw:List qD):(τ : Ty)->List TV->Option (Val τ × List TV)
 | .int k=>qDp k
 | .bool=>qz0
 | .str=>qDu
 | .term=>qzY (qhU rw .term)
 | .list a=>qAp (qhU rw a)
 | .pair a b=>qvw (qgp rw a) (qgp rw b)
 | .one a=>qgp rw a
def Ty.agg:Ty->Bool
 | .term | .pair _ _ | .one _=>true
 | _=>false
def qkW {β : Type}:Option (β × List TV)->Option β
 | some (v,[])=>some v
 | _=>none
def qqq:TV->Bool
 | .agg _=>true
 | _=>false
def qdo (rw:List qD) (τ : Ty) (x:TV):Option (Val τ):=match qd2 τ.agg (qqq x) with
 | true=>qkW (qgp rw τ (yJ x))
 | false=>none
def qnc (rw:List qD) (τ : Ty):List TV->Option (List (Val τ))
 | []=>some []
 | x::l=>match qdo rw τ x with
   | some v=>match qnc rw τ l with
     | some vs=>some (v::vs)
     | none=>none
   | none=>none
def qgc:TV->Bool
 | .i .. | .b _ | .s _ | .c _ | .nil | .sl .. | .fn .. => true
 | _=>false
def qkt:TV->Bool
 | .agg cs=>cs.all qgc
 | x=>qgc x
inductive ATy where
 | val (τ : Ty) | fn
@[reducible] def qab:List ATy->Type
  | []=>Unit
  | .val τ :: r=>Val τ × qab r
  | .fn::r=>qab r
@[reducible] def qb5:List Ty->Type
  | []=>Unit
  | [a]=>Val a
  | a::b::r=>Val a × qb5 (b::r)
def qHb {σ : Type}:List σ -> Option Unit
 | []=>some ()
 | _=>none
def qiT {σ β γ : Type} (p : σ -> Option β) (q:List σ -> Option γ):List σ -> Option (β × γ)
 | x::xs=>match p x with
   | some v=>match q xs with
     | some vs=>some (v,vs)
     | none=>none
   | none=>none
 | []=>none
def pFn {γ : Type} (q:List TV->Option γ):List TV->Option γ
 | .fn _ []::xs=>q xs
 | _=>none
def qqS (rw:List qD):(ts:List ATy)->List TV->Option (qab ts)
 | []=>qHb
 | .val τ :: r=>qiT (qdo rw τ) (qqS rw r)
 | .fn::r=>pFn (qqS rw r)
def qjQ:List TV->List Nat
 | []=>[]
 | .fn f _::l=>f::qjQ l
 | _::l=>qjQ l
def unL:(ts:List Ty)->qb5 ts->List TV
 | [],_=>[]
 | [a],v=>[qph a v]
 | a::b::r,v=>qph a v.1::unL (b::r) v.2
def qrj:List TV->TV
 | [x]=>x
 | l => .tup l
structure Sig where
 args:List ATy
 res:List Ty
 fn:qab args->Option (qb5 res)
inductive RA where
 | val (τ : Ty) | row (τ : Ty)
@[reducible] def RA.T:RA->Type
  | .val τ => Val τ
  | .row τ => List (Val τ)
@[reducible] def CV:List RA->Type
  | []=>Unit
  | a::r=>a.T × CV r
@[reducible] def BV:List RA->Type
  | []=>Unit
  | [a]=>a.T
  | a::b::r=>CV (a::b::r)
def toC:(l:List RA)->BV l->CV l
 | [],_=>()
 | [_],v=>(v,())
 | _::_::_,v=>v
def toB:(l:List RA)->CV l->BV l
 | [],_=>()
 | [_],v=>v.1
 | _::_::_,v=>v
def nR:List RA->Nat
 | []=>0
 | .val _::r=>nR r
 | .row _::r=>nR r+1
inductive SA where
 | val (τ : Ty) | row (τ : Ty) | box (l:List RA) | nil | clo (g k:Nat)
inductive RE where
 | one (a:RA) | agg (l:List RA) | opt (l:List RA) | elt (p:Nat) | nilp | box (n:Nat) (l:List RA) | eltI (d:Nat) (τ : Ty)
@[reducible] def jo:List SA->Type
  | []=>Unit
  | .val τ :: r=>Val τ × jo r
  | .row τ :: r=>List (Val τ) × jo r
  | .box l::r=>BV l × jo r
  | .nil::r=>jo r
  | .clo _ _::r=>jo r
@[reducible] def yS:List SA->Type
  | []=>Unit
  | .box l::r=>BV l × yS r
  | .nil::r=>yS r
  | .val _::r=>yS r
  | .row _::r=>yS r
  | .clo _ _::r=>yS r
@[reducible] def RV:List RE->Type
  | []=>Unit
  | .one a::r=>a.T × RV r
  | .agg l::r=>CV l × RV r
  | .opt l::r=>Option (BV l) × RV r
  | .elt _::r=>Option Int × RV r
  | .nilp::r=>RV r
  | .box _ l::r=>BV l × RV r
  | .eltI _ τ :: r=>(Int × Val τ) × RV r
def nrB:List SA->Nat
 | []=>0
 | .box l::r=>nR l+nrB r
 | .nil::r=>nrB r
 | .val _::r=>nrB r
 | .row _::r=>nrB r
 | .clo _ _::r=>nrB r
def nBx:List SA->Nat
 | []=>0
 | .box _::r=>nBx r+1
 | .nil::r=>nBx r
 | .val _::r=>nBx r
 | .row _::r=>nBx r
 | .clo _ _::r=>nBx r
def qie:List SA->Bool
 | []=>true
 | .row _::_=>false
 | .box _::r=>qie r
 | .nil::r=>qie r
 | .val _::r=>qie r
 | .clo _ _::r=>qie r
def qhh:List SA->Bool
 | []=>true
 | .box _::r=>qie r&&qhh r
 | .nil::r=>qhh r
 | .val _::r=>qhh r
 | .row _::r=>qhh r
 | .clo _ _::r=>qhh r
structure qkE where
 args:List SA
 res:List RE
 fn:jo args->Option (yS args × RV res)
structure qlX where
 τ : Ty
 args:List SA
 fn:jo (.row τ :: args)->Option (List (Val τ))
structure qpE where
 args:List SA
 fn:jo args->Option Int
inductive Co where
 | keep | row (τ : Ty) (sh:Bool) | list (τ : Ty) | plist (τ : Ty) | box (cs:List Co) | fn (cs:List Co)
structure TC where
 ty:Nat->Option TD
 el:Nat->Option Ty
 has:Nat->Bool
 pf:Nat->List Nat->Option Sig
 sf:Nat->Option qkE
 loop:Nat->Option (List (Tmp × Co))
 join:Nat->Option (List (Tmp × Co))
 nt:Nat
 np:Nat
 ld:Nat->Bool
 mf:Nat->Option qlX
 xf:Nat->Option qpE
def TC.rawT (c:TC) (f:Nat):Bool:=match c.has f with
 | true=>false
 | false=>match c.mf f with
   | some _=>true
   | none=>match c.xf f with
     | some _=>true
     | none=>match c.sf f with
       | some _=>true
       | none=>false
def TC.loT (c:TC) (f:Nat):Bool:=c.rawT f||c.ld f
abbrev TC.n2 (c:TC):Nat × Nat:=(c.nt,c.np)
def qa {α β : Type} (x:Option α) (k : α -> Option β):Option β := match x with
 | some a=>k a
 | none=>none
def qFr {α β : Type} (x:Option β) (a : α) (f : β -> α) : α := match x with
 | none=>a
 | some b=>f b
def qgr {α β : Type} (l:List β) (a : α) (f : β -> List β -> α) : α := match l with
 | []=>a
 | x::r=>f x r
def qc {α : Type} (l:List α) (j:Int):Option α := if 0<=j then l[j.toNat]? else none
def ixb (j:Int) (n:Nat):Bool:=decide (0<=j/\j<(n:Int))
def qm0:List TV->Option (List Bool)
 | []=>some []
 | .b x::l=>match qm0 l with
   | some r=>some (x::r)
   | none=>none
 | _=>none
def qjE:List Bool->Int->Bool->Nat->List Bool
 | [],_,_,_=>[]
 | e::l,i,v,j=>cond (ieq i (j:Int)) v e::qjE l i v (j+1)
def inb (i:Int) (y:Nat):Bool:=decide (0<=i/\i<=y)
def jD {α : Type} (l:List α) (j:Int) (v : α):List α := if 0<=j then l.set j.toNat v else l
def qz4 (n:Int) (bytes:Nat):Bool:=decide (0<=n/\n.toNat*bytes<=2 ^ 47/\n.toNat<2 ^ 62)
def qEF:Operand->Operand->Bool
 | .tmp a,.tmp b=>Nat.beq a b
 | .const (.int k a),.const (.int k' b)=>decide (k=k')&&decide (a=b)
 | _,_=>false
def shA (σ : TS):TS:=⟨σ.bx,σ.rw.map λ R=>⟨R.τ,R.l,R.ver,R.sv,true⟩⟩
def qqQ:Ty->Bool
 | .int _ | .bool | .str=>true
 | _=>false
def yL {α : Type} (l:List α) (a b:Int):List α := (l.take b.toNat).drop a.toNat
def qAY (a b:List UInt8):Bool:=decide (((a.length+b.length:Nat):Int)<=IntKind.i64.max)
def zJ (n bytes:Nat):Bool:=decide (n*bytes<=2 ^ 47/\n<2 ^ 62)
def qz (a b:List UInt8):Bool:=a==b
def slt (a b:List UInt8):Bool:=Op.bytesLess a b
def qw9 (l:List Int):List UInt8:=l.map λ n=>UInt8.ofNat n.toNat
def qeo (s:List UInt8):List Int:=s.map λ b=>((b.toNat:Nat):Int)
def qxV:Option TD->Bool
 | some ⟨_,_,_,_,.ptr⟩=>true
 | _=>false
def qzZ:TV->TV->Option Bool
 | .c (.pointer none),.c (.pointer none)=>some true
 | .ptr _ _,.c (.pointer none)=>some false
 | .rpt _ _ _ _ _ _,.c (.pointer none)=>some false
 | .ept _ _,.c (.pointer none)=>some false
 | _,_=>none
section
variable {α : Type}
abbrev KT (α : Type):=TV->Option TS->Option α
def qEY (op:BinOp) (k:IntKind) (a b:Int) (K:TV->Option α):Option α :=
 match op with
 | .add=>K (.i k (iw k (qf a b)))
 | .sub=>K (.i k (iw k (qaC a b)))
 | .mul=>K (.i k (iw k (qC6 a b)))
 | .quo=>cond (ieq b 0) none (K (.i k (iw k (qE5 a b))))
 | .rem=>cond (ieq b 0) none (K (.i k (Ql a b)))
 | .and=>K (.i k (qjV .and k a b))
 | .or=>K (.i k (qjV .or k a b))
 | .xor=>K (.i k (qjV .xor k a b))
 | .andNot=>K (.i k (qjV .andNot k a b))
 | .eql=>K (.b (ieq a b))
 | .neq=>K (.b (qd (ieq a b)))
 | .lss=>K (.b (ilt a b))
 | .leq=>K (.b (ile a b))
 | .gtr=>K (.b (ilt b a))
 | .geq=>K (.b (ile b a))
 | _=>none
def qEE (op:BinOp) (x y:List UInt8) (K:TV->Option α):Option α :=
 match op with
 | .add=>cond (qAY x y) (K (.s (x++y))) none
 | .eql=>K (.b (qz x y))
 | .neq=>K (.b (qd (qz x y)))
 | .lss=>K (.b (slt x y))
 | .leq=>K (.b (qmg (slt x y) (qz x y)))
 | .gtr=>K (.b (qd (qmg (slt x y) (qz x y))))
 | .geq=>K (.b (qd (slt x y)))
 | _=>none
def qq5:Option TD->Bool
 | some ⟨_,_,_,_,.bool⟩=>true
 | _=>false
def qDP (d:Option TD) (op:BinOp) (x y:TV) (K:TV->Option α):Option α :=
 match x,y with
 | .i k a,.i k' b=>match op with
   | .shl=>cond (ilt b 0) none (K (.i k (qEt k a b)))
   | .shr=>cond (ilt b 0) none (K (.i k (qkI k a b)))
   | op=>match decide (k=k') with
     | true=>qEY op k a b K
     | false=>none
 | .s a,.s b=>qEE op a b K
 | .b a,.b b=>match op,qq5 d with
   | .eql,true=>K (.b (qd2 a b))
   | .neq,true=>K (.b (qd (qd2 a b)))
   | _,_=>none
 | _,_=>none
def qvz (place:Nat->Option (Nat × Nat)) (cells:List TV):List (Nat × TV)->Option (List TV)
 | []=>some cells
 | (i,x)::rest=>match place i with
   | none=>none
   | some (off,size)=>match decide ((yJ x).length=size)&&decide (off+size<=cells.length)&&(yJ x).all qeG with
     | true=>qvz place (cells.take off++(yJ x++cells.drop (off+size))) rest
     | false=>none
def qic (agg:Bool) (size:Nat) (cs:List TV) (o:Nat):Option TV :=
 match agg with
 | true=>match decide (o+size<=cs.length) with
   | true=>some (.agg ((cs.drop o).take size))
   | false=>none
 | false=>cs[o]?
def qdc (d:Int) (E:Env):Option Operand->Option Int
 | none=>some d
 | some x=>match evT E x with
   | .i _ n=>some n
   | _=>none
def jO (c:TC) (E:Env) (σ : TS) (op:Op) (K:KT α):Option α :=
 match op with
 | .move x | .assign x=>K (evT E x) none
 | .pick x a b=>match evT E x with
   | .b y=>cond y (K (evT E a) none) (K (evT E b) none)
   | _=>none
 | .alloc e=>match c.ty e with
   | some d=>match d.zero.all zO with
     | true=>K (.ptr σ.bx.length 0) (some { σ with bx := σ.bx++[d.zero.map qbs] })
     | false=>none
   | none=>none
 | .box e x=>match c.ty e with
   | some _=>match (yJ (evT E x)).all qeG with
     | true=>K (.ptr σ.bx.length 0) (some { σ with bx := σ.bx++[yJ (evT E x)] })
     | false=>none
   | none=>none
 | .build t parts=>match c.ty t with
   | some ⟨_,_,_,z,.struct fs⟩=>match z.all zO with
     | true=>match qvz (λ i=>match fs[i]? with | some f=>some (f.1,f.2.1) | none=>none) (z.map qbs) (parts.toList.map λ p=>(p.1,evT E p.2)) with
       | some cs=>K (.agg cs) none
       | none=>none
     | false=>none
   | _=>none
 | .buildSlice t n parts=>match c.ty t,c.el t with
   | some ⟨_,_,_,_,.slice _ k _ _⟩,some τ => match decide (k = τ.size)&&decide (parts.size=n)&&decide (n*k<=2 ^ 24)&&decide (0<k)&&(parts.toList.zipIdx.all λ p=>decide (p.1.1=p.2)) with
     | true=>match qnc σ.rw τ (parts.toList.map λ p=>evT E p.2) with
       | some vs=>K (.sl τ vs 2) (match (parts.toList.all λ p=>qkt (evT E p.2)) with | true=>none | false=>some (shA σ))
       | none=>none
     | false=>none
   | _,_=>none
 | .load t a=>match c.ty t with
   | some d=>match evT E a with
     | .ptr b o=>match σ.bx[b]? with
       | some cs=>match qic d.agg d.size cs o with
         | some x=>K x none
         | none=>none
       | none=>none
     | .ept cs o=>match qic d.agg d.size cs o with
       | some x=>K x none
       | none=>none
     | .pti b i=>match σ.bx[b]? with
       | some cs=>match d.agg,qm0 cs with
         | false,some l=>qa (qc l i) λ v=>K (.b v) none
         | _,_=>none
       | none=>none
     | .rpt id ver sv i cs o=>match σ.rw[id]? with
       | some R=>match Nat.beq R.ver ver with
         | true=>match Nat.beq R.sv sv with
           | true=>match qic d.agg d.size cs o with
             | some x=>K x none
             | none=>none
           | false=>match R.sh with
             | true=>none
             | false=>qa (qc R.l i) λ v=>match qic d.agg d.size (j8 R.τ v) o with
               | some x=>K x none
               | none=>none
         | false=>none
       | none=>none
     | _=>none
   | none=>none
 | .store t a x=>match c.ty t,evT E a with
   | some d,.ptr b o=>match σ.bx[b]? with
     | some cs=>match decide ((yJ (evT E x)).length=d.size)&&decide (o+d.size<=cs.length)&&(yJ (evT E x)).all qeG with
       | true=>K (.tup []) (some { σ with bx := σ.bx.set b (cs.take o++(yJ (evT E x)++cs.drop (o+d.size))) })
       | false=>none
     | none=>none
   | some d,.pti b i=>match σ.bx[b]?,evT E x with
     | some cs,.b v=>match qm0 cs,Nat.beq d.size 1 with
       | some l,true=>cond (ixb i l.length) (K (.tup []) (some { σ with bx := σ.bx.set b ((qjE l i v 0).map .b) })) none
       | _,_=>none
     | _,_=>none
   | some d,.rpt id ver sv i cs o=>match σ.rw[id]? with
     | some R=>match Nat.beq R.ver ver&&Nat.beq R.sv sv && !R.sh&&decide ((yJ (evT E x)).length=d.size)&&decide (o+d.size<=cs.length)&&(yJ (evT E x)).all qgc with
       | true=>match qkW (qgp σ.rw R.τ (cs.take o++(yJ (evT E x)++cs.drop (o+d.size)))) with
         | some v=>K (.tup []) (some { σ with rw := σ.rw.set id ⟨R.τ,jD R.l i v,R.ver,R.sv+1,R.sh⟩ })
         | none=>none
       | false=>none
     | none=>none
   | _,_=>none
 | .makeSlice t n m=>match c.ty t,c.el t,evT E n with
   | some ⟨_,_,_,_,.slice _ k bytes z⟩,some τ,.i _ a=>match qEF n m&&decide (k = τ.size)&&decide (0<k)&&decide (z.length=k)&&z.all zO with
     | true=>match qkW (qgp [] τ (z.map qbs)) with
       | some v=>cond (qz4 a bytes) (K (.row σ.rw.length 0) (some { σ with rw := σ.rw++[⟨τ,List.replicate a.toNat v,0,0,false⟩] })) none
       | none=>none
     | false=>none
   | _,_,_=>none
 | .nilCheck x=>match evT E x with
   | .ptr b o=>K (.ptr b o) none
   | .ept cs o=>K (.ept cs o) none
   | .rpt id ver sv i cs o=>K (.rpt id ver sv i cs o) none
   | _=>none
 | .binOp op t x y _=>match qzZ (evT E x) (evT E y) with
   | some b=>match op,qxV (c.ty t) with
     | .eql,true=>K (.b b) none
     | .neq,true=>K (.b (!b)) none
     | _,_=>none
   | none=>qDP (c.ty t) op (evT E x) (evT E y) λ v=>K v none
 | .unOp op _ x=>match op,evT E x with
   | .neg,.i k n=>K (.i k (iw k (qaC 0 n))) none
   | .not,.b y=>K (.b (qd y)) none
   | _,_=>none
 | .convert s d x=>match c.ty s,c.ty d,evT E x with
   | some _,some ⟨_,_,_,_,.int k⟩,.i _ n=>K (.i k (iw k n)) none
   | some _,some ⟨_,_,_,_,.string⟩,.s y=>K (.s y) none
   | some ⟨_,_,_,_,.string⟩,some ⟨_,_,_,_,.slice e 1 _ _⟩,.s y=>match qm4 (c.ty e) with
     | true=>K (.row σ.rw.length 0) (some { σ with rw := σ.rw++[⟨.int .u8,qeo y,0,0,false⟩] })
     | false=>none
   | some ⟨_,_,_,_,.slice e 1 _ _⟩,some ⟨_,_,_,_,.string⟩,y=>match qm4 (c.ty e),qhU σ.rw (.int .u8) y with
     | true,some l=>K (.s (qw9 l)) none
     | _,_=>none
   | _,_,_=>none
 | .makeFunc (.func f) fs cs=>match fs.toList with
   | []=>K (.fn f (cs.toList.map (evT E))) none
   | _=>none
 | .slice t x lo hi none=>match c.ty t,evT E x with
   | some ⟨_,_,_,_,.string⟩,.s y=>match qdc y.length E hi with
     | some h=>match qdc 0 E lo with
       | some l=>cond (inb h y.length) (cond (inb l h.toNat) (K (.s (yL y l h)) none) none) none
       | none=>none
     | none=>none
   | some ⟨_,_,_,_,.slice _ k _ _⟩,.sl τ y lv=>match decide (τ.size=k)&&pos lv with
     | true=>match qdc y.length E hi with
       | some h=>match qdc 0 E lo with
         | some l=>cond (inb h y.length) (cond (inb l h.toNat) (K (.sl τ (yL y l h) 1) none) none) none
         | none=>none
       | none=>none
     | false=>none
   | some ⟨_,_,_,_,.slice _ _ _ _⟩,.nil=>match qdc 0 E hi with
     | some h=>match qdc 0 E lo with
       | some l=>cond (inb h 0) (cond (inb l h.toNat) (K .nil none) none) none
       | none=>none
     | none=>none
   | some ⟨_,_,_,_,.slice _ k _ _⟩,.row id ver=>match hi,σ.rw[id]? with
     | none,some R=>match Nat.beq R.ver ver&&decide (R.τ.size=k) with
       | true=>match qdc 0 E lo with
         | some l=>cond (inb l R.l.length) (K (.row id (ver+1)) (some { σ with rw := σ.rw.set id ⟨R.τ,R.l.drop l.toNat,ver+1,R.sv,true⟩ })) none
         | none=>none
       | false=>none
     | _,_=>none
   | _,_=>none
 | .fieldAddr t x i=>match c.ty t with
   | some ⟨_,_,_,_,.struct fs⟩=>match fs[i]? with
     | some (off,size,_)=>match size with
       | 0=>none
       | _+1=>match evT E x with
         | .ptr b o=>K (.ptr b (o+off)) none
         | .ept cs o=>K (.ept cs (o+off)) none
         | .rpt id ver sv i cs o=>K (.rpt id ver sv i cs (o+off)) none
         | _=>none
     | none=>none
   | _=>none
 | .field t x i=>match c.ty t,evT E x with
   | some ⟨_,_,_,_,.struct fs⟩,.agg cs=>match fs[i]? with
     | some (off,size,g)=>match qic g size cs off with
       | some y=>K y none
       | none=>none
     | none=>none
   | _,_=>none
 | .indexAddr t x i=>match c.ty t,evT E i with
   | some ⟨_,_,_,_,.slice _ k _ _⟩,.i _ j=>match evT E x with
     | .sl τ l _=>match decide (τ.size=k) with
       | true=>qa (qc l j) λ v=>K (.ept (j8 τ v) 0) none
       | false=>none
     | .row id ver=>match σ.rw[id]? with
       | some R=>match Nat.beq R.ver ver&&decide (R.τ.size=k) with
         | true=>qa (qc R.l j) λ v=>K (.rpt id ver R.sv j (j8 R.τ v) 0) none
         | false=>none
       | none=>none
     | _=>none
   | some ⟨_,_,_,_,.array n _ 1⟩,.i _ j=>match evT E x with
     | .ptr b 0=>cond (ixb j n) (K (.pti b j) none) none
     | _=>none
   | _,_=>none
 | .index t x i=>match c.ty t,evT E x,evT E i with
   | some ⟨_,_,_,_,.string⟩,.s y,.i _ j=>qa (qc y j) λ v=>K (.i .u8 v.toNat) none
   | _,_,_=>none
 | .extract x i=>match evT E x with
   | .tup vs=>match vs[i]? with
     | some y=>K y none
     | none=>none
   | _=>none
 | _=>none
def qzN (k bytes:Nat) (σ : TS) (τ : Ty) (s:TV) (xs:List (Val τ)) (K:KT α):Option α :=
 match s with
 | .nil=>qgr xs (K .nil none) λ x r=>cond (zJ (r.length+1) bytes) (K (.row σ.rw.length 0) (some { σ with rw := σ.rw++[⟨τ,x::r,0,0,false⟩] })) none
 | .sl τ' l lv=>match decide (1<lv) with
   | true=>match qcM l τ with
     | some l=>cond (zJ (l.length+xs.length) bytes) (qgr xs (K s none) λ x r=>K (.row σ.rw.length 0) (some { σ with rw := σ.rw++[⟨τ,l++(x::r),0,0,false⟩] })) none
     | none=>none
   | false=>none
 | .row id ver=>match σ.rw[id]? with
   | some R=>match Nat.beq R.ver ver with
     | true=>match qcM R.l τ with
       | some l=>cond (zJ (l.length+xs.length) bytes) (K (.row id (ver+1)) (some { σ with rw := σ.rw.set id ⟨τ,l++xs,ver+1,R.sv,R.sh⟩ })) none
       | none=>none
     | false=>none
   | none=>none
 | _=>none
def qoM (c:TC) (σ : TS) (b:Builtin) (ts:Array TypeId) (args:List TV) (K:KT α):Option α :=
 match b,args with
 | .len,[x]=>match ts[0]? with
   | some t=>match c.ty t with
     | some d=>match d.k,x with
       | .string,.s y=>K (.i .i64 y.length) none
       | .slice ..,.nil=>K (.i .i64 0) none
       | .slice ..,.sl _ l _=>K (.i .i64 l.length) none
       | .slice ..,.row id ver=>match σ.rw[id]? with
         | some R=>match Nat.beq R.ver ver with
           | true=>K (.i .i64 R.l.length) none
           | false=>none
         | none=>none
       | _,_=>none
     | none=>none
   | none=>none
 | .append,[s,x]=>match ts[0]?,ts[1]? with
   | some t,some u=>match c.ty t,c.ty u,c.el t with
     | some ⟨_,_,_,_,.slice _ k bytes z⟩,some ⟨_,_,_,_,.slice _ _ _ _⟩,some τ => match decide (0<k)&&decide (z.length=k)&&decide (k = τ.size) with
       | true=>match qhU σ.rw τ x with
         | some xs=>qzN k bytes σ τ s xs K
         | none=>none
       | false=>none
     | some ⟨_,_,_,_,.slice e 1 bytes z⟩,some ⟨_,_,_,_,.string⟩,some (.int .u8)=>match decide (z.length=1)&&qm4 (c.ty e),x with
       | true,.s y=>qzN 1 bytes σ (.int .u8) s (qeo y) K
       | _,_=>none
     | _,_,_=>none
   | _,_=>none
 | .max,[.i k a,.i k' b]=>match decide (k=k') with | true=>K (.i k (qdD a b)) none | false=>none
 | .min,[.i k a,.i k' b]=>match decide (k=k') with | true=>K (.i k (qDn a b)) none | false=>none
 | _,_=>none
def qeM (rw:List qD) (τ : Ty):TV->Option (List (Val τ) × List Nat)
 | .nil=>some ([],[])
 | .sl a l lv=>match qcM l τ,decide (1<lv) with
   | some [],true=>some ([],[])
   | _,_=>none
 | .row id ver=>match rw[id]? with
   | some R=>match Nat.beq R.ver ver && !R.sh with
     | true=>match qcM R.l τ with
       | some l=>some (l,[id])
       | none=>none
     | false=>none
   | none=>none
 | _=>none
def Jd (rw:List qD):(l:List RA)->List TV->Option (CV l × List Nat × Bool)
 | [],[]=>some ((),[],true)
 | [],_::_=>none
 | .val τ :: r,cs=>match qkW (qgp rw τ (cs.take τ.size)),Jd rw r (cs.drop τ.size) with
   | some v,some (vs,ids,q)=>some ((v,vs),ids,(cs.take τ.size).all qgc&&q)
   | _,_=>none
 | .row τ :: r,c::cs=>match qeM rw τ c,Jd rw r cs with
   | some (v,i),some (vs,ids,q)=>some ((v,vs),i++ids,q)
   | _,_=>none
 | .row _::_,[]=>none
def qGZ (rw:List qD) (bx:List (List TV)) (l:List RA):TV->Option (CV l × List Nat × Nat)
 | .ptr b 0=>match bx[b]? with
   | some cs=>match Jd rw l cs with
     | some (v,ids,true)=>some (v,ids,b)
     | _=>none
   | none=>none
 | _=>none
def yb (σ : TS):(sas:List SA)->List TV->Option (jo sas × List Nat × List Nat)
 | [],[]=>some ((),[],[])
 | .val τ :: r,x::xs=>match qkt x,qdo σ.rw τ x with
   | true,some v=>match yb σ r xs with
     | some (vs,q)=>some ((v,vs),q)
     | none=>none
   | _,_=>none
 | .row τ :: r,x::xs=>match qeM σ.rw τ x with
   | some (l,ids)=>match yb σ r xs with
     | some (vs,bs,rs)=>some ((l,vs),bs,ids++rs)
     | none=>none
   | none=>none
 | .box l::r,x::xs=>match qGZ σ.rw σ.bx l x with
   | some (v,ids,b)=>match yb σ r xs with
     | some (vs,bs,rs)=>some ((toB l v,vs),b::bs,ids++rs)
     | none=>none
   | none=>none
 | .nil::r,.nil::xs=>yb σ r xs
 | .clo g k::r,.fn g' cs::xs=>match Nat.beq g g'&&Nat.beq cs.length k with
   | true=>yb σ r (cs++xs)
   | false=>none
 | _,_=>none
def ndN:List Nat->Bool
 | []=>true
 | b::l=>(l.all λ c => !Nat.beq b c)&&ndN l
def qcH (rw:List qD) (ids:List Nat):List qD:=ids.foldl (λ l i=>l.modify i λ R=>⟨R.τ,[],R.ver+1,R.sv,false⟩) rw
def qaO:(l:List RA)->Nat->CV l->List TV
 | [],_,_=>[]
 | .val τ :: r,L,v=>j8 τ v.1++qaO r L v.2
 | .row _::r,L,v => .row L 0::qaO r (L+1) v.2
def jx:(l:List RA)->CV l->List qD
 | [],_=>[]
 | .val _::r,v=>jx r v.2
 | .row τ :: r,v=>⟨τ,v.1,0,0,false⟩::jx r v.2
def qck:(sas:List SA)->Nat->yS sas->List (List TV)
 | [],_,_=>[]
 | .box l::r,L,o=>qaO l L (toC l o.1)::qck r (L+nR l) o.2
 | .nil::r,L,o=>qck r L o
 | .val _::r,L,o=>qck r L o
 | .row _::r,L,o=>qck r L o
 | .clo _ _::r,L,o=>qck r L o
def Q9:(sas:List SA)->yS sas->List qD
 | [],_=>[]
 | .box l::r,o=>jx l (toC l o.1)++Q9 r o.2
 | .nil::r,o=>Q9 r o
 | .val _::r,o=>Q9 r o
 | .row _::r,o=>Q9 r o
 | .clo _ _::r,o=>Q9 r o
def qid (bx:List (List TV)):List Nat->List (List TV)->List (List TV)
 | b::bs,x::xs=>qid (bx.set b x) bs xs
 | _,_=>bx
def qd0 (nb NB:Nat):(rs:List RE)->Nat->RV rs->List TV
 | [],_,_=>[]
 | .one (.val τ)::r,L,v=>qph τ v.1::qd0 nb NB r L v.2
 | .one (.row _)::r,L,v => .row L 0::qd0 nb NB r (L+1) v.2
 | .agg l::r,L,v => .agg (qaO l L v.1)::qd0 nb NB r (L+nR l) v.2
 | .opt _::r,L,v => .dead::qd0 nb NB r L v.2
 | .elt _::r,L,v => .dead::qd0 nb NB r L v.2
 | .nilp::r,L,v => .c (.pointer none)::qd0 nb NB r L v
 | .box n l::r,L,v => .ptr (nb+(n-NB)) 0::qd0 nb NB r (L+nR l) v.2
 | .eltI d τ :: r,L,v => .rpt (L-d) 0 0 v.1.1 (j8 τ v.1.2) 0::qd0 nb NB r L v.2
def qee:(rs:List RE)->RV rs->List qD
 | [],_=>[]
 | .one (.val _)::r,v=>qee r v.2
 | .one (.row τ)::r,v=>⟨τ,v.1,0,0,false⟩::qee r v.2
 | .agg l::r,v=>jx l v.1++qee r v.2
 | .opt _::r,v=>qee r v.2
 | .elt _::r,v=>qee r v.2
 | .nilp::r,v=>qee r v
 | .box _ l::r,v=>jx l (toC l v.1)++qee r v.2
 | .eltI _ _::r,v=>qee r v.2
def qed:(rs:List RE)->Nat->RV rs->List (List TV)
 | [],_,_=>[]
 | .one (.val _)::r,L,v=>qed r L v.2
 | .one (.row _)::r,L,v=>qed r (L+1) v.2
 | .agg l::r,L,v=>qed r (L+nR l) v.2
 | .opt _::r,L,v=>qed r L v.2
 | .elt _::r,L,v=>qed r L v.2
 | .nilp::r,L,v=>qed r L v
 | .box _ l::r,L,v=>qaO l L (toC l v.1)::qed r (L+nR l) v.2
 | .eltI _ _::r,L,v=>qed r L v.2
def nRA:RA->Nat
 | .val _=>0
 | .row _=>1
def J7 (rws:List qD):(rs:List RE)->Nat->Nat->RV rs->((rs':List RE)->RV rs'->Option α)->Option α
 | [],_,_,_,k=>k [] ()
 | .one a::r,nb,d,v,k=>J7 rws r nb (d+nRA a) v.2 λ r' v'=>k (.one a::r') (v.1,v')
 | .agg l::r,nb,d,v,k=>J7 rws r nb (d+nR l) v.2 λ r' v'=>k (.agg l::r') (v.1,v')
 | .opt l::r,nb,d,v,k=>qFr v.1 (J7 rws r nb d v.2 λ r' v'=>k (.nilp::r') v') λ b=>J7 rws r (nb+1) (d+nR l) v.2 λ r' v'=>k (.box nb l::r') (b,v')
 | .elt p::r,nb,d,v,k=>qFr v.1 (J7 rws r nb d v.2 λ r' v'=>k (.nilp::r') v') λ i=>match rws[p]? with
   | some R=>qa (qc R.l i) λ e=>J7 rws r nb d v.2 λ r' v'=>k (.eltI (d-p) R.τ :: r') ((i,e),v')
   | none=>none
 | .nilp::_,_,_,_,_=>none
 | .box _ _::_,_,_,_,_=>none
 | .eltI _ _::_,_,_,_,_=>none
def qxe (σ : TS) (g:qlX) (args:List TV) (K:KT α):Option α := match args with
 | x::xs=>match qeM σ.rw g.τ x,yb σ g.args xs with
   | some (l,ids),some (a,[],[])=>match qhh g.args with
     | true=>match ids with
       | [id]=>qa (g.fn (l,a)) λ v=>cond (Nat.beq v.length l.length) (K (.tup []) (some ⟨σ.bx,σ.rw.modify id λ R=>⟨g.τ,v,R.ver,R.sv+1,false⟩⟩)) none
       | []=>qa (g.fn (l,a)) λ v=>cond (Nat.beq v.length l.length) (K (.tup []) none) none
       | _=>none
     | false=>none
   | _,_=>none
 | []=>none
def qvO (σ : TS) (g:qpE) (args:List TV) (K:KT α):Option α := match yb σ g.args args with
 | some (a,bs,rs)=>match ndN bs&&(ndN rs&&qhh g.args) with
   | true=>qa (g.fn a) λ v=>K (.i .i64 v) none
   | false=>none
 | none=>none
def qra (c:TC) (σ : TS) (f:Nat) (args:List TV) (K:KT α):Option α := match c.mf f with
 | some g=>qxe σ g args K
 | none=>match c.xf f with
   | some g=>qvO σ g args K
   | none=>match c.sf f with
     | some g=>match yb σ g.args args with
       | some (a,bs,rs)=>match ndN bs&&(ndN rs&&qhh g.args) with
         | true=>qa (g.fn a) λ v=>J7 (Q9 g.args v.1) g.res (nBx g.args) (nrB g.args) v.2 λ rs' v'=>K (qrj (qd0 σ.bx.length (nBx g.args) rs' (σ.rw.length+nrB g.args) v')) (some ⟨qid σ.bx bs (qck g.args σ.rw.length v.1)++qed rs' (σ.rw.length+nrB g.args) v',qcH σ.rw rs++(Q9 g.args v.1++qee rs' v')⟩)
         | false=>none
       | none=>none
     | none=>none
def qAw (c:TC) (σ : TS) (f:Nat) (args:List TV) (K:KT α):Option α :=
 match c.has f,c.pf f (qjQ args) with
 | true,some g=>match qqS σ.rw g.args args with
   | some sas=>qa (g.fn sas) λ v=>K (qrj (unL g.res v)) (match args.all qkt||g.res.all qqQ with | true=>none | false=>some (shA σ))
   | none=>none
 | true,none=>none
 | false,_=>qra c σ f args K
def opT (c:TC) (E:Env) (σ : TS) (op:Op) (K:KT α):Option α :=
 match op with
 | .call ⟨.builtin b,args,ts⟩=>qoM c σ b ts (args.toList.map (evT E)) K
 | .call ⟨.value g,args,_⟩=>match evT E g with
   | .fn f []=>qAw c σ f (args.toList.map (evT E)) K
   | .fn f (x::cs)=>match c.has f with
     | true=>none
     | false=>qra c σ f (args.toList.map (evT E)++(x::cs)) K
   | _=>none
 | .call _=>none
 | op=>jO c E σ op K
def qvG (c:TC) (E:Env) (d:Option Tmp) (x:TV) (K:Env->Option α):Option α := match d with
 | none=>K E
 | some d=>match Nat.blt d c.nt with
   | true=>K ((d,x)::E)
   | false=>none
def qAd (ops:Array Oper) (E:Env) (o:Oper) (K:Bool->Env->Option α):Option α :=
 match o.guard with
 | none=>K true E
 | some (j,want)=>match (ops[j]?).bind (·.dst) with
   | none=>none
   | some d=>match get E d with
     | .b x=>match want with
       | true=>cond x (K true ((d,.b true)::E)) (K false ((d,.b false)::E))
       | false=>cond x (K false ((d,.b true)::E)) (K true ((d,.b false)::E))
     | .tup []=>K false E
     | _=>none
end
def qkB (E:Env) (ops:Array Oper) (k:Nat) (t:Tmp):Option Nat:=match qvp ops k t with
 | some u=>match get E u with
   | .ptr b _=>some b
   | _=>none
 | none=>none
def qEl (E:Env) (ops:Array Oper) (k:Nat) (t:Tmp):Bool:=match qvp ops k t with
 | some u=>match get E u with
   | .rpt .. => true
   | _=>false
 | none=>false
mutual
def rbT:TV->Option (List Nat)
 | .ptr b _=>some [b]
 | .pti b _=>some [b]
 | .fn _ cs=>qmk cs
 | .agg cs=>qmk cs
 | .tup cs=>qmk cs
 | .dead=>none
 | _=>some []
def qmk:List TV->Option (List Nat)
 | []=>some []
 | x::l=>match rbT x,qmk l with
   | some a,some b=>some (a++b)
   | _,_=>none
end
def qEr (σ : TS) (b:Nat):Bool:=match σ.bx[b]? with
 | some cs=>match qmk cs with
   | some []=>true
   | _=>false
 | none=>false
def qCt (E:Env) (σ : TS):Op->Option (List Nat)
 | .call ⟨.value g,as,_⟩=>match evT E g with
   | .fn _ cs=>match qmk (as.toList.map (evT E)++cs) with
     | some l=>match l.all (qEr σ) with
       | true=>some l
       | false=>none
     | none=>none
   | _=>none
 | _=>none
def qqH (ops:Array Oper) (j:Nat) (E:Env) (σ : TS) (op:Op):Bool := !qsc op||ops.toList.zipIdx.all λ (q,i)=>match q.op with
 | .load _ (.tmp a)=>((Qq ops.toList []).getD (max i j) 0).testBit (min i j)||match qkB E ops i a,qCt E σ op with
   | some y,some l=>Nat.blt y σ.bx.length&&l.all λ c => !Nat.beq c y
   | _,_=>false
 | _=>true
section
variable {α : Type}
def qgS (c:TC) (ops:Array Oper) (draw:Bool):List Oper->Env->TS->(Env->TS->Option α)->Option α
 | [],E,σ,K=>K E σ
 | o::rest,E,σ,K=>qAd ops E o λ w E=>match w with
   | true=>opT c E σ o.op λ x σ'=>match σ' with
     | none=>qvG c E o.dst x λ E=>qgS c ops draw rest E σ K
     | some σ'=>match draw && !(zK c.loT o.op&&qqH ops (ops.size-(rest.length+1)) E σ o.op) with
       | true=>none
       | false=>qvG c E o.dst x λ E=>qgS c ops draw rest E σ' K
   | false=>qvG c E o.dst (.tup []) λ E=>qgS c ops draw rest E σ K
structure Mv where
 E:Env
 bx:List (List TV)
 rw:List qD
 mb:List (Nat × Nat)
 mr:List (Nat × Nat)
def yR (l:List (Nat × Nat)) (b:Nat):Option Nat:=match l with
 | []=>none
 | p::r=>match Nat.beq p.1 b with
   | true=>some p.2
   | false=>yR r b
def qxo:TV->Bool
 | .i .. | .b _ | .s _ | .c _ | .nil | .sl .. => true
 | .fn _ cs=>cs.isEmpty
 | .agg cs=>cs.all λ | .i .. | .b _ | .s _ | .c _ | .nil | .sl .. => true | _=>false
 | _=>false
mutual
def mvT (σ : TS) (co:Co) (x:TV) (m:Mv) (K:TV->Mv->Option α):Option α :=
 match co with
 | .keep=>match qxo x with
   | true=>K x m
   | false=>K .dead m
 | .list τ => match x with
   | .nil=>K (.sl τ [] 1) m
   | .sl a l _=>match qcM l τ with
     | some l=>K (.sl τ l 1) m
     | none=>none
   | _=>K .dead m
 | .plist τ => match x with
   | .nil=>K (.sl τ [] 1) m
   | .sl a l _=>match qcM l τ with
     | some l=>K (.sl τ l 1) m
     | none=>none
   | _=>K .dead m
 | .row τ sh=>match x with
   | .nil=>K (.row m.rw.length 0) { m with rw:=m.rw++[⟨τ,[],0,0,sh⟩] }
   | .sl a l lv=>match qcM l τ,decide (1<lv) with
     | some l,true=>match sh with
       | true=>K (.row m.rw.length 0) { m with rw:=m.rw++[⟨τ,l,0,0,true⟩] }
       | false=>match l with
         | []=>K (.row m.rw.length 0) { m with rw:=m.rw++[⟨τ,[],0,0,false⟩] }
         | _=>none
     | _,_=>none
   | .row id ver=>match σ.rw[id]? with
     | some R=>match Nat.beq R.ver ver&&(sh || !R.sh) with
       | true=>match qcM R.l τ with
         | some l=>match yR m.mr id with
           | some id'=>K (.row id' 0) m
           | none=>K (.row m.rw.length 0) { m with rw:=m.rw++[⟨τ,l,0,0,sh⟩],mr:=(id,m.rw.length)::m.mr }
         | none=>none
       | false=>none
     | none=>none
   | _=>none
 | .fn cs=>match x with
   | .fn f xs=>mvL σ cs xs m λ ys m=>K (.fn f ys) m
   | _=>none
 | .box cs=>match x with
   | .ptr b 0=>match yR m.mb b with
     | some b'=>K (.ptr b' 0) m
     | none=>match σ.bx[b]? with
       | some xs=>mvL σ cs xs m λ ys m=>match yR m.mb b with
         | none=>K (.ptr m.bx.length 0) { m with bx:=m.bx++[ys],mb:=(b,m.bx.length)::m.mb }
         | some _=>none
       | none=>none
   | _=>none
def mvL (σ : TS) (cs:List Co) (xs:List TV) (m:Mv) (K:List TV->Mv->Option α):Option α :=
 match cs,xs with
 | [],[]=>K [] m
 | co::cs,x::xs=>mvT σ co x m λ y m=>mvL σ cs xs m λ ys m=>K (y::ys) m
 | _,_=>none
end
def qwa (mb:List (Nat × Nat)):Nat->Bool
 | 0=>true
 | n+1=>(match yR mb n with | some j=>Nat.beq n j | none=>false)&&qwa mb n
def mvE (np:Nat) (σ : TS) (E:Env):List (Tmp × Co)->Mv->(Env->TS->Option α)->Option α
 | [],m,K=>match qwa m.mb np with
   | true=>K m.E ⟨m.bx,m.rw⟩
   | false=>none
 | (t,co)::r,m,K=>mvT σ co (get E t) m λ y m=>mvE np σ E r { m with E:=m.E++[(t,y)] } K
def qz1 (E:Env) (σ : TS) (t:Tmp) (τ : Ty) (K:Env->TS->Option α):Option α := match get E t with
 | .i .. => K E σ
 | .b _=>K E σ
 | .s _=>K E σ
 | .c _=>K E σ
 | .nil=>K E σ
 | .sl .. => K E σ
 | .row id ver=>match σ.rw[id]? with
   | some R=>match Nat.beq R.ver ver with
     | true=>match qcM R.l τ with
       | some l=>K ((t,.sl τ l 1)::E) (shA σ)
       | none=>none
     | false=>none
   | none=>none
 | .dead=>K E (shA σ)
 | _=>none
def qpS:List (Tmp × Co)->Env->TS->(Env->TS->Option α)->Option α
 | [],E,σ,K=>K E σ
 | (t,co)::r,E,σ,K=>match co with
   | .plist τ => qz1 E σ t τ λ E σ => qpS r E σ K
   | _=>qpS r E σ K
def qnk (E:Env) (ops:Array Oper) (j:Nat) (o:Oper) (i:Nat) (q:Oper):Bool:=match o.op,q.op with
 | .store _ (.tmp a) _,.load _ (.tmp b)=>match qkB E ops j a,qkB E ops i b with
   | some x,some y => !Nat.beq x y
   | some _,none=>qEl E ops i b
   | _,_=>false
 | .call ⟨.builtin .append,_,_⟩,.load _ (.tmp b)=>(qkB E ops i b).isSome
 | .call ⟨.value _,_,_⟩,.load _ (.tmp b)=>(qkB E ops i b).isSome
 | _,_=>false
def qFu (raw:Nat->Bool) (E:Env) (ops:Array Oper) (j:Nat) (o:Oper) (i:Nat) (q:Oper):Bool :=
 (match q.dst with | some d=>(qcG ops o).contains d | none=>false)||(qkp raw o q && !(qnk E ops j o i q||qnk E ops i q j o))
def qnf (raw:Nat->Bool) (E:Env) (ops:Array Oper) (draw:Bool):Bool:=match draw with
 | true =>
   let b:=Qq ops.toList []
   ops.toList.zipIdx.all λ (o,j)=>((yO o).all λ e=>decide (e<j))&&ops.toList.zipIdx.all λ (q,i) =>
    decide (i=j) || !qFu raw E ops j o i q||(b.getD (max i j) 0).testBit (min i j)
 | false=>true
def slT:TV->Bool
 | .sl .. => true
 | .row .. => true
 | _=>false
def qAh (E:Env) (ops:Array Oper):Bool:=match qd3 ops with
 | p::_=>match p.op with
   | .indexAddr _ u _=>slT (evT E u)
   | _=>false
 | []=>false
def qDs:TV->Bool
 | .ptr _ _=>true
 | _=>false
def qci:Code->Nat
 | .region id _ _=>id
 | .seq a _=>qci a
 | .block _ b=>qci b
 | .loop b=>qci b
 | .cond _ a _=>qci a
 | _=>0
def qdx:List (Tmp × Co)->List Nat
 | []=>[]
 | (t,co)::r=>match co with
   | .plist _=>t::qdx r
   | _=>qdx r
def TC.pur (c:TC) (b:Code):List Nat:=match c.loop (qci b) with
 | some l=>qdx l
 | none=>[]
def qAa (E:Env) (x:Operand) (b:Bool):Env:=match x with
 | .tmp t=>(t,.b b)::E
 | _=>E
def QI (c:TC) (fin:Env->TS->Option α) (L:List It->Env->TS->Option α):Nat->List It->Ex->Env->TS->Option α
 | 0,_,_,_,_=>none
 | _+1,[],e,E,σ => match e with
   | .exit _=>none
   | _=>fin E σ
 | N+1,.code cd::k,e,E,σ => match e with
   | .normal=>match cd with
     | .skip=>QI c fin L N k .normal E σ
     | .label _=>QI c fin L N k .normal E σ
     | .region _ ops d=>match qhK ops d with
       | true=>match qfz c.loT ops.toList&&(qnf c.loT E ops true&&qnf c.loT E ⟨qR c.loT ops.toList⟩ true) with
         | true=>qgS c ⟨qR c.loT ops.toList⟩ true (qR c.loT ops.toList) E σ λ E σ => qgS c ops false (alL c.loT ops.toList) E σ λ E σ => qgS c ops true (qmC c.loT ops.toList) E σ λ E σ => QI c fin L N k .normal E σ
         | false=>none
       | false=>match qmR ops d with
         | some p=>match qnf c.loT E (qaw ops) true with
           | true=>qgS c (qaw ops) true (qaw ops).toList E σ λ E σ => match qDs (get E p)&&qAh E ops with
             | true=>qgS c ops true (qd3 ops) E σ λ E σ => QI c fin L N k .normal E σ
             | false=>none
           | false=>none
         | none=>match qnf c.loT E ops d with
           | true=>qgS c ops d ops.toList E σ λ E σ => QI c fin L N k .normal E σ
           | false=>none
     | .seq a b=>QI c fin L N (.code a :: .code b::k) .normal E σ
     | .cond x a b=>match evT E x with
       | .b y=>cond y (QI c fin L N (.code a::k) .normal (qAa E x true) σ) (QI c fin L N (.code b::k) .normal (qAa E x false) σ)
       | _=>none
     | .block id b=>QI c fin L N (.code b :: .blk id::k) .normal E σ
     | .loop b=>match c.loop (qci b) with
       | some l=>qpS l E σ λ E σ => mvE c.np σ E l ⟨[],[],[],[],[]⟩ λ E σ => L (.code (.loop b)::k) E σ
       | none=>none
     | .exit id=>QI c fin L N k (.exit id) E σ
     | .ret=>QI c fin L N k .ret E σ
     | _=>none
   | e=>QI c fin L N k e E σ
 | N+1,.blk id::k,e,E,σ => match e with
   | .exit i=>match Nat.beq i id with
     | true=>match c.join id with
       | some l=>mvE c.np σ E l ⟨[],[],[],[],[]⟩ λ E σ => L k E σ
       | none=>QI c fin L N k .normal E σ
     | false=>QI c fin L N k (.exit i) E σ
   | .normal=>match c.join id with
     | some l=>mvE c.np σ E l ⟨[],[],[],[],[]⟩ λ E σ => L k E σ
     | none=>QI c fin L N k .normal E σ
   | .ret=>QI c fin L N k .ret E σ
 | _+1,.ops .. :: _,_,_,_=>none
def qvP (c:TC) (fin:Env->TS->Option α) (L:List It->Env->TS->Option α) (N:Nat) (st:List It) (E:Env) (σ : TS):Option α :=
 match st with
 | .code (.loop b)::k=>match c.loop (qci b) with
   | some l=>qpS l E σ λ E σ => QI c fin L N (.code b :: .code (.loop b)::k) .normal E σ
   | none=>QI c fin L N (.code b :: .code (.loop b)::k) .normal E σ
 | st=>QI c fin L N st .normal E σ
def qkR (c:TC) (fin:Env->TS->Option α) (N:Nat):Nat->List It->Env->TS->Option α
 | 0 => λ _ _ _=>none
 | n+1=>qvP c fin (qkR c fin N n) N
end
def qiP (c:TC) (E:Env) (σ : TS):ResultVar->Option TV
 | .tmp t=>some (get E t)
 | .cell a t=>match c.ty t,get E a with
   | some d,.ptr b o=>match σ.bx[b]? with
     | some cs=>qic d.agg d.size cs o
     | none=>none
   | _,_=>none
def qfO (c:TC):(ts:List Ty)->List ResultVar->Env->TS->Option (qb5 ts)
 | [],[],_,_=>some ()
 | [a],[r],E,σ => match qiP c E σ r with
   | some x=>qdo σ.rw a x
   | none=>none
 | a::b::ts,r::rs,E,σ => match qiP c E σ r with
   | some x=>match qdo σ.rw a x with
     | some v=>match qfO c (b::ts) rs E σ with
       | some vs=>some (v,vs)
       | none=>none
     | none=>none
   | none=>none
 | _,_,_,_=>none
def qhv:(sas:List SA)->Nat->Nat->jo sas->List TV
 | [],_,_,_=>[]
 | .val τ :: r,nb,nr,a=>qph τ a.1::qhv r nb nr a.2
 | .row _::r,nb,nr,a => .row nr 0::qhv r nb (nr+1) a.2
 | .box l::r,nb,nr,a => .ptr nb 0::qhv r (nb+1) (nr+nR l) a.2
 | .nil::r,nb,nr,a => .nil::qhv r nb nr a
 | .clo g k::r,nb,nr,a => .fn g ((qhv r nb nr a).take k)::(qhv r nb nr a).drop k
def sBx:(sas:List SA)->Nat->jo sas->List (List TV)
 | [],_,_=>[]
 | .nil::r,nr,a=>sBx r nr a
 | .clo _ _::r,nr,a=>sBx r nr a
 | .val _::r,nr,a=>sBx r nr a.2
 | .row _::r,nr,a=>sBx r (nr+1) a.2
 | .box l::r,nr,a=>qaO l nr (toC l a.1)::sBx r (nr+nR l) a.2
def sRw:(sas:List SA)->jo sas->List qD
 | [],_=>[]
 | .nil::r,a=>sRw r a
 | .clo _ _::r,a=>sRw r a
 | .val _::r,a=>sRw r a.2
 | .row τ :: r,a=>⟨τ,a.1,0,0,false⟩::sRw r a.2
 | .box l::r,a=>jx l (toC l a.1)++sRw r a.2
def qeD (σ : TS):(sas:List SA)->Nat->Option (yS sas × List Nat × Bool)
 | [],_=>some ((),[],true)
 | .nil::r,n=>qeD σ r n
 | .clo _ _::r,n=>qeD σ r n
 | .val _::r,n=>qeD σ r n
 | .row _::r,n=>qeD σ r n
 | .box l::r,n=>match σ.bx[n]? with
   | some cs=>match Jd σ.rw l cs,qeD σ r (n+1) with
     | some (v,i,q),some (o,ids,q')=>some ((toB l v,o),i++ids,q&&q')
     | _,_=>none
   | none=>none
def qan (c:TC) (E:Env) (σ : TS) (iB:List Nat):(rs:List RE)->List ResultVar->Option (RV rs × List Nat × List Nat × Bool)
 | [],[]=>some ((),[],[],true)
 | .one (.val a)::rs,r::l=>match qiP c E σ r with
   | some x=>match qdo σ.rw a x,qan c E σ iB rs l with
     | some v,some (vs,ids,bs,q)=>some ((v,vs),ids,bs,qkt x&&q)
     | _,_=>none
   | none=>none
 | .one (.row a)::rs,r::l=>match qiP c E σ r with
   | some x=>match qeM σ.rw a x,qan c E σ iB rs l with
     | some (v,i),some (vs,ids,bs,q)=>some ((v,vs),i++ids,bs,q)
     | _,_=>none
   | none=>none
 | .agg p::rs,r::l=>match qiP c E σ r with
   | some (.agg cs)=>match Jd σ.rw p cs,qan c E σ iB rs l with
     | some (v,i,q'),some (vs,ids,bs,q)=>some ((v,vs),i++ids,bs,q'&&q)
     | _,_=>none
   | _=>none
 | .opt p::rs,r::l=>match qiP c E σ r with
   | some (.c (.pointer none))=>match qan c E σ iB rs l with
     | some (vs,ids,bs,q)=>some ((none,vs),ids,bs,q)
     | none=>none
   | some (.ptr b 0)=>match σ.bx[b]? with
     | some cs=>match Jd σ.rw p cs,qan c E σ iB rs l with
       | some (v,i,q'),some (vs,ids,bs,q)=>some ((some (toB p v),vs),i++ids,b::bs,q'&&q)
       | _,_=>none
     | none=>none
   | _=>none
 | .elt p::rs,r::l=>match qiP c E σ r with
   | some (.c (.pointer none))=>match qan c E σ iB rs l with
     | some (vs,ids,bs,q)=>some ((none,vs),ids,bs,q)
     | none=>none
   | some (.rpt id ver sv i _ 0)=>match σ.rw[id]?,iB[p]?,qan c E σ iB rs l with
     | some R,some id',some (vs,ids,bs,q)=>match Nat.beq R.ver ver&&(Nat.beq R.sv sv&&Nat.beq id id') with
       | true=>some ((some i,vs),ids,bs,q)
       | false=>none
     | _,_,_=>none
   | _=>none
 | _,_=>none
def qz9 (n:Nat) (l:List Nat):List Nat:=match Nat.beq l.length n with
 | true=>l
 | false=>[]
def qsf (c:TC) (sas:List SA) (rs:List RE) (l:List ResultVar) (E:Env) (σ : TS):Option (yS sas × RV rs):=match qeD σ sas 0 with
 | some (o,i,q)=>match qan c E σ (qz9 (nrB sas) i) rs l with
   | some (v,ids,bs,q')=>match ndN (i++ids)&&(((i++ids).isEmpty||(q&&q'))&&(ndN bs&&bs.all λ b=>Nat.ble (nBx sas) b)) with
     | true=>some (o,v)
     | false=>none
   | none=>none
 | none=>none
def qdW:Nat->List TV->Env
 | _,[]=>[]
 | n,x::l=>(n,x)::qdW (n+1) l
end Go.AmZ
namespace Go.AmZ
open Go Go.RowKit Go.GxZ
mutual
def qD9:T->List AV
 | .mk k n s l=>[.v (.int .i64 k),.v (.string ⟨n.toArray⟩),.v (.int .i64 s),.sl 4 (qxt l) 0]
def qxt:List T->List (List AV)
 | []=>[]
 | t::l=>qD9 t::qxt l
end
mutual
def qHf:AV->Option (List T)
 | .v (.slice none 0 0)=>some []
 | .sl 4 es _=>qv1 es
 | _=>none
def qv1:List (List AV)->Option (List T)
 | []=>some []
 | e::es=>match qDT e with
   | some t=>match qv1 es with
     | some l=>some (t::l)
     | none=>none
   | none=>none
def qDT:List AV->Option T
 | [.v (.int .i64 k),.v (.string n),.v (.int .i64 s),x]=>match qHf x with
   | some l=>some (.mk k n.data.toList s l)
   | none=>none
 | _=>none
end
mutual
theorem qEb:∀ t:T,qDT (qD9 t)=some t
 | .mk k n s l=>by
   rw [qD9,qDT,qHf,qwD l]
theorem qwD:∀ l:List T,qv1 (qxt l)=some l
 | []=>by rw [qxt,qv1]
 | t::l=>by rw [qxt,qv1,qEb t,qwD l]
end
theorem jC.len:∀ {xs ys:List AV},jC xs ys->xs.length=ys.length
 | _,_,.nil=>rfl
 | _,_,.cons _ t=>by simp [t.len]
theorem jC.get:∀ {xs ys:List AV},jC xs ys->∀ (i:Nat) (y:AV),ys[i]? = some y->∃ x,xs[i]? = some x/\Sub x y
 | _,_,.nil,i,y,h=>by simp at h
 | _,_,.cons a t,0,y,h=>by simp at h;subst h;exact ⟨_,rfl,a⟩
 | _,_,.cons a t,i+1,y,h=>by simpa using t.get i y (by simpa using h)
theorem qEp {xs ys:List AV} (h:jC xs ys):Sub (.agg xs) (.agg ys):=by
 intro Γ u hu
 cases hu with
 | agg cs us hn h1 hr =>
   have:=h.rep (RepL.mk hn hr)
   exact .agg _ _ this.len h1 this.rep
end Go.AmZ
namespace Go.AmZ
open Go Go.RowKit
def jN (R:Row):Row:=⟨R.k,[],0,1,false⟩
theorem qkw {Γ Γ':Gh} {x:AV} {u:Value} (hm:∀ b o u,Γ.mem b o=some u -> Γ'.mem b o=some u) (h:Rep Γ x u) (h1:rb x=[]) (h2:rr x=[]):Rep Γ' x u:=by
 have:=qnq (Γ' := Γ') (fb := λ b=>b) (fr := λ r=>r) hm h (by rw [h1];intro b hb;cases hb) (by rw [h2];intro b hb;cases hb)
 rwa [qwU] at this
theorem qzG:∀ {cs:List AV},rbL cs=[]->∀ x∈cs,rb x=[]
 | [],_,x,hx=>by cases hx
 | y::cs,h,x,hx=>by
   simp only [rbL,List.append_eq_nil_iff] at h
   rcases List.mem_cons.1 hx with rfl | hx
   ·exact h.1
   ·exact qzG h.2 x hx
theorem qyD:∀ {cs:List AV},rrL cs=[]->∀ x∈cs,rr x=[]
 | [],_,x,hx=>by cases hx
 | y::cs,h,x,hx=>by
   simp only [rrL,List.append_eq_nil_iff] at h
   rcases List.mem_cons.1 hx with rfl | hx
   ·exact h.1
   ·exact qyD h.2 x hx
theorem qCC {Γ Γ':Gh} {cs:List AV} {us:List Value} (hm:∀ b o u,Γ.mem b o=some u -> Γ'.mem b o=some u) (h:RepL Γ cs us) (h1:rbL cs=[]) (h2:rrL cs=[]):RepL Γ' cs us :=
 ⟨h.len,λ i x u hx hu=>qkw hm (h.rep i x u hx hu) (qzG h1 x (List.mem_of_getElem? hx)) (qyD h2 x (List.mem_of_getElem? hx))⟩
theorem qp9 {x:AV} (h:qt x=true):rb x=[]/\rr x=[]:=(qdS (fb := λ b=>b) (fr := λ r=>r) h).2
structure qA3 (σ1:St) (fs:List Nat) (so:Option Nat) (R:Row):Prop where
 fz:R.fz=0
 ver:R.ver=0
 pos:0<R.k
 len:∀ e∈R.c,e.length=R.k
 plain:∀ e∈R.c,∀ x∈e,qt x=true
 src:match so with
  | none=>R.c=[]
  | some j=>∃ Q,σ1.rw[j]? = some Q/\Q.k=R.k/\Q.fz=0/\Q.c.length=R.c.length/\(∀ (i:Nat) (e e':List AV),Q.c[i]? = some e->R.c[i]? = some e'->jC e e')/\j ∉ fs/\Q.off=false
def qeZ (nb:Nat) (kb:List Nat) (i:Nat):Nat:=if i<nb then i else kb.getD (i-nb) 0
def yv (Γ1:Gh) (m:Nat->Nat->Option Value) (nb:Nat) (kb:List Nat) (L:Nat) (qe:List (Option Nat × Row)):Gh :=
 { mem:=m,nb:=nb+kb.length,β := λ i => Γ1.β (qeZ nb kb i),nr:=L+qe.length,ver := λ r=>if r<L then Γ1.ver r+1 else 0,
   k := λ r=>if r<L then Γ1.k r else match qe[r-L]? with | some p=>p.2.k | none=>1,
   cur := λ r=>if r<L then Γ1.cur r else match qe[r-L]? with | some (some j,_) => Γ1.cur j | _=>0,
   sz := λ r=>if r<L then 0 else match qe[r-L]? with | some (some j,_) => Γ1.sz j | _=>0,of := λ _=>0 }
theorem qqB {Γ0 Γ1:Gh} {σ0 σ1:St} {w0 w1:World} (h0:Inv Γ0 σ0 w0) (hx:Ext Γ0 w0 Γ1 w1) (h1:Inv Γ1 σ1 w1) (hbl : σ0.bx.length <= σ1.bx.length)
  (outs:List (List AV)) (kb:List Nat) (hol:outs.length = σ0.bx.length+kb.length) (hkb:∀ b∈kb,σ0.bx.length<=b/\b < σ1.bx.length) (hkn:kb.Nodup) (fs:List Nat) (qe:List (Option Nat × Row)) (hob:∀ (i:Nat) (cs:List AV),outs[i]? = some cs->∃ ds,σ1.bx[qeZ σ0.bx.length kb i]? = some ds/\∀ m,Fz Γ1 m->(∀ r∈fs,∀ R,σ1.rw[r]? = some R->js { Γ1 with mem:=m } r R)->∀ us,RepL Γ1 ds us->RepL (yv Γ1 m σ0.bx.length kb σ0.rw.length qe) cs us)
  (hn:∀ (a:Nat) (so:Option Nat) (R:Row),qe[a]? = some (so,R)->qA3 σ1 fs so R) (hd:∀ (a b j:Nat) (R R':Row),qe[a]? = some (some j,R)->qe[b]? = some (some j,R')->a=b) (wl wrl:List Nat) :
  ∃ m,Fz Γ1 m/\(∀ r∈fs,∀ R,σ1.rw[r]? = some R->js { Γ1 with mem:=m } r R)/\Ext Γ0 w0 (yv Γ1 m σ0.bx.length kb σ0.rw.length qe) w1/\Inv (yv Γ1 m σ0.bx.length kb σ0.rw.length qe) ⟨outs,σ0.rw.map jN++qe.map (·.2),wl,wrl⟩ w1:=by
 obtain ⟨m,m1,m2,m3⟩:=qa0 fs h1 σ1.wrr
 have hnb : σ0.bx.length <= Γ1.nb:=by rw [h1.nb];exact hbl
 have hm1:∀ b o u,Γ1.mem b o=some u->m b o=some u:=m1.le.mem
 have hbi:∀ {i:Nat},i < σ0.bx.length+kb.length->qeZ σ0.bx.length kb i < Γ1.nb := λ {i} hi=>by
  unfold qeZ
  split
  ·exact Nat.lt_of_lt_of_le ‹_› hnb
  ·rw [List.getD_eq_getElem?_getD,List.getElem?_eq_getElem (show i - σ0.bx.length<kb.length by omega),h1.nb]
   exact (hkb _ (List.getElem_mem _)).2
 have hbj:∀ {i j:Nat},i < σ0.bx.length+kb.length->j < σ0.bx.length+kb.length->qeZ σ0.bx.length kb i=qeZ σ0.bx.length kb j->i=j := λ {i j} hi hj he=>by
  unfold qeZ at he
  split at he<;>split at he
  ·exact he
  ·rw [List.getD_eq_getElem?_getD,List.getElem?_eq_getElem (show j - σ0.bx.length<kb.length by omega)] at he
   have he:i=kb[j - σ0.bx.length]:=he
   have:=(hkb _ (List.getElem_mem (show j - σ0.bx.length<kb.length by omega))).1
   omega
  ·rw [List.getD_eq_getElem?_getD,List.getElem?_eq_getElem (show i - σ0.bx.length<kb.length by omega)] at he
   have he:kb[i - σ0.bx.length]=j:=he
   have:=(hkb _ (List.getElem_mem (show i - σ0.bx.length<kb.length by omega))).1
   omega
  ·rw [List.getD_eq_getElem?_getD,List.getD_eq_getElem?_getD,List.getElem?_eq_getElem (show i - σ0.bx.length<kb.length by omega),List.getElem?_eq_getElem (show j - σ0.bx.length<kb.length by omega)] at he
   have he:kb[i - σ0.bx.length]=kb[j - σ0.bx.length]:=he
   have:=(List.getElem_inj (h₀ := by omega) (h₁ := by omega) hkn).1 he
   omega
 have hsrc:∀ {r:Nat},¬ r < σ0.rw.length->(yv Γ1 m σ0.bx.length kb σ0.rw.length qe).sz r≠0->∃ j R Q,qe[r - σ0.rw.length]? = some (some j,R) /\ σ1.rw[j]? = some Q/\qdm { Γ1 with mem:=m } w1 j Q/\(yv Γ1 m σ0.bx.length kb σ0.rw.length qe).cur r = Γ1.cur j/\(yv Γ1 m σ0.bx.length kb σ0.rw.length qe).sz r = Γ1.sz j:=by
  intro r hr hz
  have hz':(if r < σ0.rw.length then 0 else match qe[r - σ0.rw.length]? with | some (some j,_) => Γ1.sz j | _=>0)≠0:=hz
  rw [if_neg hr] at hz'
  split at hz'
  ·rename_i j R hnj
   obtain ⟨Q,q1,_,_,_,_,q6,_⟩:=(hn _ _ _ hnj).src
   refine ⟨j,R,Q,hnj,q1,m2.row j Q (by show (frz σ1.rw fs)[j]? = _;rw [qi8 fs _ j q6];exact q1),?_,?_⟩
   ·show (if r < σ0.rw.length then _ else match qe[r - σ0.rw.length]? with | some (some j,_) => Γ1.cur j | _=>0)=_
    rw [if_neg hr,hnj]
   ·show (if r < σ0.rw.length then _ else match qe[r - σ0.rw.length]? with | some (some j,_) => Γ1.sz j | _=>0)=_
    rw [if_neg hr,hnj]
  ·exact absurd rfl hz'
 have hold:∀ {r:Nat},r < σ0.rw.length->(yv Γ1 m σ0.bx.length kb σ0.rw.length qe).sz r=0 := λ hr=>if_pos hr
 refine ⟨m,m1,m3,⟨⟨λ b o u h=>hm1 _ _ _ (hx.le.mem b o u h),by rw [h0.nb];exact Nat.le_add_right _ _,λ i hi=>by rw [<- hx.le.β i hi];show Γ1.β (qeZ _ _ _)=_;unfold qeZ;rw [if_pos (by rw [<- h0.nb];exact hi)],by rw [h0.nr];exact Nat.le_add_right _ _,λ r hr=>?_,λ r hr=>?_,λ r hr he=>?_⟩,hx.os,hx.tape,hx.output,hx.size,hx.block,?_,?_,hx.drawn⟩,?_⟩
 ·rw [h0.nr] at hr
  exact (if_pos hr).trans (hx.le.k r (by rw [h0.nr];exact hr))
 ·have:=hx.le.ver r hr
  rw [h0.nr] at hr
  show Γ0.ver r<=(if r < σ0.rw.length then Γ1.ver r+1 else 0)
  rw [if_pos hr];omega
 ·have:=hx.le.ver r hr
  rw [h0.nr] at hr
  have he:(if r < σ0.rw.length then Γ1.ver r+1 else 0) = Γ0.ver r:=he
  rw [if_pos hr] at he;omega
 ·rintro b (⟨i,hi,hb⟩ | ⟨r,hr,hz,hb⟩)
  ·exact hx.own b (.inl ⟨_,hbi hi,hb⟩)
  ·by_cases hlt:r < σ0.rw.length
   ·exact absurd (hold hlt) hz
   ·obtain ⟨j,R,Q,_,q2,_,q4,q5⟩:=hsrc hlt hz
    exact hx.own b (.inr ⟨j,by rw [h1.nr];exact getElem?_lt q2,by rw [<- q5];exact hz,by rw [<- q4];exact hb⟩)
 ·intro b o u hm
  rcases m1.own b o u hm with h | h
  ·exact hx.memg b o u h
  ·exact .inr (hx.own b h)
 ·refine ⟨hol.symm,by show σ0.rw.length+qe.length=_;simp,λ b o u h=>m2.mem b o u h,?_,λ i j hi hj he=>hbj hi hj (h1.inj _ _ (hbi hi) (hbi hj) he),λ i hi o=>m2.boxmem _ (hbi hi) o,?_,?_⟩
  ·intro i cs hi
   obtain ⟨ds,d1,d2⟩:=hob i cs hi
   obtain ⟨vs,e,v1,v2,v3⟩:=h1.box _ ds d1
   exact ⟨vs,e,v1,d2 m m1 m3 _ v2,v3⟩
  ·intro r R hR
   have hR:(σ0.rw.map jN++qe.map (·.2))[r]? = some R:=hR
   by_cases hlt:r < σ0.rw.length
   ·rw [List.getElem?_append_left (by rw [List.length_map];exact hlt),List.getElem?_map] at hR
    cases hr0 : σ0.rw[r]? with
    | none=>rw [hr0] at hR;cases hR
    | some R0 =>
      rw [hr0] at hR;cases hR
      have H:=h0.row r R0 hr0
      have hz:=hold hlt
      refine ⟨?_,λ h=>absurd h (by show ¬ 1<=0;omega),H.pos,(by intro e he;cases he),(by intro e he;cases he),.inl rfl,λ h=>absurd hz h,by show 0+0*_<=_;rw [Nat.zero_mul];exact Nat.zero_le _,λ h=>absurd hz h,(by intro i e j x hi;cases hi),λ h=>absurd hz h,λ _=>rfl⟩
      show R0.k=(if r < σ0.rw.length then Γ1.k r else _)
      rw [if_pos hlt,H.k]
      exact (hx.le.k r (by rw [h0.nr];exact hlt)).symm
   ·rw [List.getElem?_append_right (by rw [List.length_map];omega),List.length_map,List.getElem?_map] at hR
    cases hr0:qe[r - σ0.rw.length]? with
    | none=>rw [hr0] at hR;cases hR
    | some p =>
      rw [hr0] at hR;cases hR
      obtain ⟨so,R⟩:=p
      have hN:=hn _ _ _ hr0
      have hk:R.k=(yv Γ1 m σ0.bx.length kb σ0.rw.length qe).k r:=by
       show _=(if r < σ0.rw.length then _ else match qe[r - σ0.rw.length]? with | some p=>p.2.k | none=>1)
       rw [if_neg hlt,hr0]
      have hver:R.ver=(yv Γ1 m σ0.bx.length kb σ0.rw.length qe).ver r:=by
       show _=(if r < σ0.rw.length then _ else 0)
       rw [if_neg hlt];exact hN.ver
      cases so with
      | none =>
        have hc:R.c=[]:=hN.src
        have hz:(yv Γ1 m σ0.bx.length kb σ0.rw.length qe).sz r=0:=by
         show (if r < σ0.rw.length then 0 else match qe[r - σ0.rw.length]? with | some (some j,_) => Γ1.sz j | _=>0)=0
         rw [if_neg hlt,hr0]
        exact ⟨hk,λ _=>hver,hN.pos,hN.len,hN.plain,.inl hc,λ h=>absurd hz h,by show 0+R.c.length*_<=_;rw [hc];simp,λ h=>absurd hz h,(by intro i e j x hi;change R.c[i]? = _ at hi;rw [hc] at hi;cases hi),λ h=>absurd hz h,λ _=>rfl⟩
      | some j =>
        obtain ⟨Q,q1,q2,q3,q4,q5,q6,q7⟩:=hN.src
        have H:qdm { Γ1 with mem:=m } w1 j Q:=m2.row j Q (by show (frz σ1.rw fs)[j]? = _;rw [qi8 fs _ j q6];exact q1)
        have hcu:(yv Γ1 m σ0.bx.length kb σ0.rw.length qe).cur r = Γ1.cur j:=by
         show (if r < σ0.rw.length then _ else match qe[r - σ0.rw.length]? with | some (some j,_) => Γ1.cur j | _=>0)=_
         rw [if_neg hlt,hr0]
        have hsz:(yv Γ1 m σ0.bx.length kb σ0.rw.length qe).sz r = Γ1.sz j:=by
         show (if r < σ0.rw.length then _ else match qe[r - σ0.rw.length]? with | some (some j,_) => Γ1.sz j | _=>0)=_
         rw [if_neg hlt,hr0]
        have hof : Γ1.of j=0:=H.off q7
        refine ⟨hk,λ _=>hver,hN.pos,hN.len,hN.plain,.inr (by show R.fz<=_;rw [hN.fz];exact Nat.zero_le _),λ hz=>?_,?_,λ hz off ho=>?_,?_,λ hz i hi=>?_,λ _=>rfl⟩
        ·rw [hsz] at hz
         obtain ⟨vs,e,fr,b1,b2,b3,b4⟩:=H.blk hz
         exact ⟨vs,e,fr,by rw [hcu];exact b1,by rw [hsz];exact b2,b3,by rw [<- q2];exact b4⟩
        ·show 0+R.c.length*R.k<=_
         have hft : Γ1.of j+Q.c.length*Q.k <= Γ1.sz j:=H.fit
         rw [hof] at hft
         rw [hsz,<- q4,<- q2];exact hft
        ·rw [hsz] at hz
         rw [hcu]
         refine H.un hz off ?_
         show Γ1.of j+_<=_
         rw [q3,Nat.zero_mul,hof];exact Nat.zero_le _
        ·intro i e' jj x' hi hj
         have hi:R.c[i]? = some e':=hi
         have hil:i<Q.c.length:=by rw [q4];exact getElem?_lt hi
         obtain ⟨x,hx',hsub⟩:=(q5 i _ e' (List.getElem?_eq_getElem hil) hi).get jj x' hj
         obtain ⟨u,u1,u2,u3⟩:=H.cells i _ jj x (List.getElem?_eq_getElem hil) hx'
         obtain ⟨p1,p2⟩:=qp9 (hN.plain e' (List.mem_of_getElem? hi) x' (List.mem_of_getElem? hj))
         refine ⟨u,?_,qkw (Γ := { Γ1 with mem:=m }) (λ _ _ _ h=>h) (hsub _ _ u2) p1 p2,u3⟩
         have u1':w1.cell? ⟨Γ1.cur j,Γ1.of j+(i*Q.k+jj),none⟩=some u:=u1
         show w1.cell? ⟨_,0+(i*R.k+jj),none⟩=_
         rw [hcu,<- q2,<- hof];exact u1'
        ·rw [hsz] at hz
         rw [hcu]
         exact H.nbx hz _ (hbi hi)
  ·intro r r' hr hr' hne z1 z2
   by_cases e1:r < σ0.rw.length
   ·exact absurd (hold e1) z1
   by_cases e2:r' < σ0.rw.length
   ·exact absurd (hold e2) z2
   obtain ⟨j,R,Q,a1,a2,_,a4,a5⟩:=hsrc e1 z1
   obtain ⟨j',R',Q',b1,b2,_,b4,b5⟩:=hsrc e2 z2
   rw [a4,b4]
   refine h1.apart j j' (by rw [h1.nr];exact getElem?_lt a2) (by rw [h1.nr];exact getElem?_lt b2) (λ he=>?_) (by rw [<- a5];exact z1) (by rw [<- b5];exact z2)
   subst he
   have:=hd _ _ _ _ _ a1 b1
   omega
end Go.AmZ
namespace Go.AmZ
open Go Go.RowKit Go.GxZ
def qL {β : Type} (f:List AV->Option β):List (List AV)->Option (List β)
 | []=>some []
 | e::es=>match f e with
   | some v=>match qL f es with
     | some vs=>some (v::vs)
     | none=>none
   | none=>none
mutual
def qiy:AV->Option (List T)
 | .v (.slice none 0 0)=>some []
 | .sl 4 es (_+1)=>qnn es
 | _=>none
def qnn:List (List AV)->Option (List T)
 | []=>some []
 | e::es=>match jy e with
   | some t=>match qnn es with
     | some l=>some (t::l)
     | none=>none
   | none=>none
def jy:List AV->Option T
 | [.v (.int .i64 k),.v (.string n),.v (.int .i64 s),x]=>match qiy x with
   | some l=>some (.mk k n.data.toList s l)
   | none=>none
 | _=>none
end
def full {β : Type}:Option (β × List AV)->Option β
 | some (v,[])=>some v
 | _=>none
def yD (k:Nat) {β : Type} (f:List AV->Option β):AV->Option (List β)
 | .v (.slice none 0 0)=>some []
 | .sl k' es (_+1)=>match qV k' k with
   | true=>qL f es
   | false=>none
 | _=>none
def qap (k:IntKind):List AV->Option (Int × List AV)
 | .v (.int k' n)::r=>match decide (k'=k) with
   | true=>some (n,r)
   | false=>none
 | _=>none
def qgu:List AV->Option (Bool × List AV)
 | .v (.bool b)::r=>some (b,r)
 | _=>none
def qeN:List AV->Option (List UInt8 × List AV)
 | .v (.string s)::r=>some (s.data.toList,r)
 | _=>none
def Jh:List AV->Option (T × List AV)
 | a::b::c::d::r=>match jy [a,b,c,d] with
   | some t=>some (t,r)
   | none=>none
 | _=>none
def qa2 {β : Type} (ls:AV->Option β):List AV->Option (β × List AV)
 | x::r=>match ls x with
   | some l=>some (l,r)
   | none=>none
 | _=>none
def QS:(τ : Ty)->List AV->Option (Val τ × List AV)
 | .int k=>qap k
 | .bool=>qgu
 | .str=>qeN
 | .term=>Jh
 | .list a=>qa2 (yD a.size (λ e=>full (QS a e)))
 | .pair a b=>qvw (QS a) (QS b)
 | .one a=>QS a
def zQ (τ : Ty) (e:List AV):Option (Val τ):=full (QS τ e)
def dlist (τ : Ty) (x:AV):Option (List (Val τ)):=yD τ.size (zQ τ) x
mutual
def QK:T->List AV
 | .mk k n s l=>[.v (.int .i64 k),.v (.string ⟨n.toArray⟩),.v (.int .i64 s),.sl 4 (qkD l) 1]
def qkD:List T->List (List AV)
 | []=>[]
 | t::l=>QK t::qkD l
end
def qh:(τ : Ty)->Val τ -> List AV
 | .int k,n=>[.v (.int k n)]
 | .bool,b=>[.v (.bool b)]
 | .str,s=>[.v (.string ⟨s.toArray⟩)]
 | .term,t=>QK t
 | .list a,l=>[.sl a.size (l.map (qh a)) 1]
 | .pair a b,p=>qh a p.1++qh b p.2
 | .one a,v=>qh a v
def yi:(τ : Ty)->Val τ -> AV
 | .int k,n => .v (.int k n)
 | .bool,b => .v (.bool b)
 | .str,s => .v (.string ⟨s.toArray⟩)
 | .list a,l => .sl a.size (l.map (qh a)) 1
 | .term,t => .agg (qh .term t)
 | .pair a b,p => .agg (qh (.pair a b) p)
 | .one a,v => .agg (qh (.one a) v)
theorem yk {β : Type} {f:List AV->Option β} {e:List AV} {es:List (List AV)} {l:List β}:qL f (e::es)=some l↔∃ v vs,f e=some v/\qL f es=some vs/\l=v::vs:=by
 constructor
 ·intro h
  simp only [qL] at h
  split at h<;>try cases h
  split at h<;>cases h
  exact ⟨_,_,by assumption,by assumption,rfl⟩
 ·rintro ⟨v,vs,h1,h2,rfl⟩
  simp only [qL,h1,h2]
theorem qF {β : Type} {f:List AV->Option β}:∀ {es:List (List AV)} {l:List β},qL f es=some l->es.length=l.length
 | [],l,h=>by cases h;rfl
 | e::es,l,h=>by
   obtain ⟨v,vs,_,h2,rfl⟩:=yk.1 h
   simp [qF h2]
theorem qdL {β : Type} {f:List AV->Option β}:∀ {es:List (List AV)} {l:List β},qL f es=some l->∀ {i:Nat} {v : β},l[i]? = some v->∃ e,es[i]? = some e/\f e=some v
 | [],l,h,i,v,hv=>by cases h;simp at hv
 | e::es,l,h,i,v,hv=>by
   obtain ⟨w,vs,h1,h2,rfl⟩:=yk.1 h
   cases i with
   | zero=>simp at hv;subst hv;exact ⟨e,rfl,h1⟩
   | succ i=>exact qdL h2 (by simpa using hv)
theorem QP {β : Type} {f:List AV->Option β}:∀ {es:List (List AV)} {l:List β},qL f es=some l->∀ {i:Nat} {e:List AV},es[i]? = some e->∃ v,l[i]? = some v/\f e=some v
 | [],l,h,i,v,hv=>by simp at hv
 | e::es,l,h,i,v,hv=>by
   obtain ⟨w,vs,h1,h2,rfl⟩:=yk.1 h
   cases i with
   | zero=>simp at hv;subst hv;exact ⟨w,rfl,h1⟩
   | succ i=>exact QP h2 (by simpa using hv)
theorem QR {β : Type} {f:List AV->Option β}:∀ {es fs:List (List AV)} {l m:List β},qL f es=some l->qL f fs=some m->qL f (es++fs)=some (l++m)
 | [],fs,l,m,h,g=>by cases h;exact g
 | e::es,fs,l,m,h,g=>by
   obtain ⟨v,vs,h1,h2,rfl⟩:=yk.1 h
   exact yk.2 ⟨v,vs++m,h1,QR h2 g,rfl⟩
theorem qem {β : Type} {f:List AV->Option β}:∀ (n:Nat) {es:List (List AV)} {l:List β},qL f es=some l->qL f (es.take n)=some (l.take n)
 | 0,es,l,h=>by simp;rfl
 | n+1,[],l,h=>by cases h;rfl
 | n+1,e::es,l,h=>by
   obtain ⟨v,vs,h1,h2,rfl⟩:=yk.1 h
   exact yk.2 ⟨v,vs.take n,h1,qem n h2,rfl⟩
theorem qcP {β : Type} {f:List AV->Option β}:∀ (n:Nat) {es:List (List AV)} {l:List β},qL f es=some l->qL f (es.drop n)=some (l.drop n)
 | 0,es,l,h=>by simpa using h
 | n+1,[],l,h=>by cases h;rfl
 | n+1,e::es,l,h=>by
   obtain ⟨v,vs,h1,h2,rfl⟩:=yk.1 h
   simpa using qcP n h2
theorem J2 {β : Type} {f:List AV->Option β} {g : β -> List AV} (h:∀ v,f (g v)=some v):∀ l:List β,qL f (l.map g)=some l
 | []=>rfl
 | v::l=>yk.2 ⟨v,l,h v,J2 h l,rfl⟩
theorem qkJ:∀ es:List (List AV),qnn es=qL jy es
 | []=>rfl
 | e::es=>by
   rw [qnn,qL,qkJ es]
   cases jy e with
   | none=>rfl
   | some t=>cases qL jy es<;>rfl
theorem zD {β : Type} {x:Option (β × List AV)} {v : β}:full x=some v↔x=some (v,[]):=by
 unfold full
 split
 ·simp
 ·rename_i h
  constructor
  ·intro h;cases h
  ·intro e;exact absurd e (h v)
theorem qhQ {cs:List AV} {t:T} (h:jy cs=some t):∃ k n s x l,cs=[.v (.int .i64 k),.v (.string n),.v (.int .i64 s),x]/\qiy x=some l/\t = .mk k n.data.toList s l:=by
 unfold jy at h
 split at h
 ·split at h<;>cases h
  exact ⟨_,_,_,_,_,rfl,by assumption,rfl⟩
 ·cases h
theorem qtv (e:List AV):zQ .term e=jy e:=by
 show full (Jh e)=jy e
 unfold Jh
 split
 ·rename_i a b c d r
  cases r with
  | nil =>
    cases hd:jy [a,b,c,d] with
    | none=>rfl
    | some t=>rfl
  | cons x r =>
    have hn:jy (a::b::c::d::x::r)=none:=by
     unfold jy
     split
     ·rename_i h;simp at h
     ·rfl
    rw [hn]
    cases hd:jy [a,b,c,d] with
    | none=>rfl
    | some t=>rfl
 ·rename_i h
  cases hd:jy e with
  | none=>rfl
  | some t =>
    obtain ⟨k,n,s,x,l,rfl,_,_⟩:=qhQ hd
    exact absurd rfl (h _ _ _ _ _)
theorem qgf (x:AV):dlist .term x=qiy x:=by
 have hf:(zQ .term:List AV->Option T)=jy:=funext qtv
 unfold dlist yD qiy
 split
 ·rfl
 ·rename_i k' es n
  by_cases hk:k'=4
  ·subst hk
   show qL (zQ .term) es=qnn es
   rw [hf,qkJ]
  ·have:qV k' Ty.term.size=false:=by simp [qV,hk,Ty.size]
   rw [this]
   simp only
   split
   ·rename_i h;cases h
   ·rename_i h;cases h;exact absurd rfl hk
   ·rfl
 ·rename_i h1 h2
  split
  ·rename_i h;exact absurd rfl h1
  ·rename_i es n h;exact absurd rfl (h2 _ _ _)
  ·rfl
theorem qzp {es es':List (List AV)} {k f:Nat} (hf:0<f) (hn:es.length=es'.length) (hk:∀ e∈es',e.length=k) (hp:∀ e∈es',∀ x∈e,qt x=true)
  (hs:∀ (i:Nat) (e e':List AV),es[i]? = some e->es'[i]? = some e'->jC e e'):Sub (.sl k es f) (.sl k es' 1):=by
 intro Γ u hu
 cases hu with
 | sl k es f a n cap b o us h1 h2 h3 h4 h5 h6 h7 h8 h9 =>
   have get:∀ (i:Nat) (e':List AV) (j:Nat) (y:AV),es'[i]? = some e'->e'[j]? = some y->∃ e x,es[i]? = some e/\e[j]? = some x/\Sub x y:=by
    intro i e' j y hi hj
    have hlt:i<es.length:=by rw [hn];exact getElem?_lt hi
    have he:=List.getElem?_eq_getElem hlt
    obtain ⟨x,hx,hsub⟩:=(hs i _ e' he hi).get j y hj
    exact ⟨_,x,he,hx,hsub⟩
   refine .sl k es' 1 a n cap b o us (by rw [h1,hn]) (λ _=>h2 hf) (λ h=>absurd h (by decide)) hk hp h6 ?_ ?_ ?_
   ·rcases h7 with h7 | h7
    ·left
     subst h7
     exact List.length_eq_zero_iff.1 hn.symm
    ·exact .inr h7
   ·intro i e' j y hi hj
    obtain ⟨e,x,q1,q2,_⟩:=get i e' j y hi hj
    exact h8 i e j x q1 q2
   ·intro i e' j y hi hj
    obtain ⟨e,x,q1,q2,q3⟩:=get i e' j y hi hj
    exact q3 Γ _ (h9 i e j x q1 q2)
theorem qww (k:Nat) (hk:0<k):Sub (.v (.slice none 0 0)) (.sl k [] 1):=by
 intro Γ u hu
 have:=qS hu
 subst this
 exact .sl k [] 1 none 0 0 0 0 (λ _ _=>undef) rfl (λ _=>Nat.le_refl _) (λ h=>absurd h (by decide)) (by simp) (by simp) hk (.inl rfl) (by simp) (by simp)
theorem qj3:∀ l:List T,qkD l=l.map QK
 | []=>rfl
 | t::l=>by rw [qkD,qj3 l];rfl
theorem qt8 (t:T):(QK t).length=4:=by obtain ⟨k,n,s,l⟩:=t;rw [QK];rfl
theorem qol (t:T):∀ x∈QK t,qt x=true:=by
 obtain ⟨k,n,s,l⟩:=t
 intro x hx
 rw [QK] at hx
 simp at hx
 rcases hx with rfl | rfl | rfl | rfl<;>rfl
theorem jG:∀ (τ : Ty) (v:Val τ),(qh τ v).length = τ.size
 | .int _,_=>rfl
 | .bool,_=>rfl
 | .str,_=>rfl
 | .term,t=>qt8 t
 | .list _,_=>rfl
 | .pair a b,p=>by rw [qh,List.length_append,jG a,jG b];rfl
 | .one a,v=>by rw [qh,jG a];rfl
theorem zN:∀ (τ : Ty) (v:Val τ),∀ x∈qh τ v,qt x=true
 | .int _,_,x,h=>by simp [qh] at h;subst h;rfl
 | .bool,_,x,h=>by simp [qh] at h;subst h;rfl
 | .str,_,x,h=>by simp [qh] at h;subst h;rfl
 | .term,t,x,h=>qol t x h
 | .list _,_,x,h=>by simp [qh] at h;subst h;rfl
 | .pair a b,p,x,h=>by
   rw [qh] at h
   rcases List.mem_append.1 h with h | h
   ·exact zN a _ x h
   ·exact zN b _ x h
 | .one a,v,x,h=>zN a v x h
theorem qIc (t:T):∀ cs,jy cs=some t->jC cs (QK t)/\∀ x∈cs,qt x=true:=by
 refine T.ind (P := λ t=>∀ cs,jy cs=some t->jC cs (QK t)/\∀ x∈cs,qt x=true) ?_ t
 intro t ih cs h
 obtain ⟨k,n,s,x,l,rfl,h1,rfl⟩:=qhQ h
 have hn:(⟨n.data.toList.toArray⟩:ByteArray)=n:=by cases n;simp
 have key:Sub x (.sl 4 (qkD l) 1)/\qt x=true:=by
  unfold qiy at h1
  split at h1
  ·cases h1;rw [qkD];exact ⟨qww 4 (by decide),rfl⟩
  ·rename_i es lv
   refine ⟨?_,rfl⟩
   rw [qkJ] at h1
   rw [qj3]
   refine qzp (Nat.succ_pos _) (by rw [qF h1,List.length_map]) ?_ ?_ ?_
   ·intro e he
    obtain ⟨t',_,rfl⟩:=List.mem_map.1 he
    exact qt8 t'
   ·intro e he
    obtain ⟨t',_,rfl⟩:=List.mem_map.1 he
    exact qol t'
   ·intro i e e' hi hi'
    obtain ⟨t',q1,q2⟩:=QP h1 hi
    rw [List.getElem?_map,q1] at hi'
    simp at hi'
    subst hi'
    exact (ih t' (List.mem_of_getElem? q1) e q2).1
  ·cases h1
 refine ⟨?_,?_⟩
 ·rw [QK,hn]
  exact .cons (.refl _) (.cons (.refl _) (.cons (.refl _) (.cons key.1 .nil)))
 ·intro y hy
  simp at hy
  rcases hy with rfl | rfl | rfl | rfl
  ·rfl
  ·rfl
  ·rfl
  ·exact key.2
theorem jC.append:∀ {a b c d:List AV},jC a b->jC c d->jC (a++c) (b++d)
 | _,_,_,_,.nil,g=>g
 | _,_,_,_,.cons h t,g => .cons h (t.append g)
theorem Ty.size_pos:∀ τ : Ty,0 < τ.size
 | .int _=>Nat.one_pos
 | .bool=>Nat.one_pos
 | .str=>Nat.one_pos
 | .term=>by decide
 | .list _=>Nat.one_pos
 | .pair a b=>Nat.lt_of_lt_of_le (Ty.size_pos a) (Nat.le_add_right _ _)
 | .one a=>Ty.size_pos a
theorem QO {σ β γ : Type} {p:List σ -> Option (β × List σ)} {q:List σ -> Option (γ × List σ)} {cs:List σ} {v : β × γ} {r:List σ}:qvw p q cs=some (v,r)↔∃ r1,p cs=some (v.1,r1)/\q r1=some (v.2,r):=by
 unfold qvw
 constructor
 ·intro h
  split at h<;>try cases h
  split at h<;>cases h
  exact ⟨_,by assumption,by assumption⟩
 ·rintro ⟨r1,h1,h2⟩
  rw [h1]
  simp only [h2]
theorem qde:∀ (τ : Ty) {cs:List AV} {v:Val τ} {r:List AV} (s:List AV),QS τ cs=some (v,r)->QS τ (cs++s)=some (v,r++s)
 | .int k,cs,v,r,s,h=>by
   change qap k cs=_ at h
   show qap k (cs++s)=_
   unfold qap at h
   split at h<;>try cases h
   split at h<;>cases h
   rename_i hk
   simp only [List.cons_append,qap,hk]
 | .bool,cs,v,r,s,h=>by
   change qgu cs=_ at h
   unfold qgu at h
   split at h<;>cases h
   rfl
 | .str,cs,v,r,s,h=>by
   change qeN cs=_ at h
   unfold qeN at h
   split at h<;>cases h
   rfl
 | .term,cs,v,r,s,h=>by
   change Jh cs=_ at h
   unfold Jh at h
   split at h<;>try cases h
   split at h<;>cases h
   rename_i hd
   show Jh _=_
   simp only [List.cons_append,Jh,hd]
 | .list a,cs,v,r,s,h=>by
   change qa2 _ cs=_ at h
   unfold qa2 at h
   split at h<;>try cases h
   split at h<;>cases h
   rename_i hd
   show qa2 _ _=_
   simp only [List.cons_append,qa2,hd]
 | .pair a b,cs,v,r,s,h=>by
   obtain ⟨r1,h1,h2⟩:=QO.1 h
   exact QO.2 ⟨_,qde a s h1,qde b s h2⟩
 | .one a,cs,v,r,s,h=>qde a s h
theorem ye:∀ (τ : Ty) {cs:List AV} {v:Val τ} {r:List AV},QS τ cs=some (v,r)->∃ pre,cs=pre++r/\pre.length = τ.size/\(∀ x∈pre,qt x=true)/\jC pre (qh τ v)/\QS τ pre=some (v,[])
 | .int k,cs,v,r,h=>by
   change qap k cs=_ at h
   unfold qap at h
   split at h<;>try cases h
   split at h<;>cases h
   rename_i hk
   have hk':=of_decide_eq_true hk
   subst hk'
   exact ⟨[_],rfl,rfl,by simp [qt],.refl _,by show qap _ _=_;simp [qap]⟩
 | .bool,cs,v,r,h=>by
   change qgu cs=_ at h
   unfold qgu at h
   split at h<;>cases h
   exact ⟨[_],rfl,rfl,by simp [qt],.refl _,rfl⟩
 | .str,cs,v,r,h=>by
   change qeN cs=_ at h
   unfold qeN at h
   split at h<;>cases h
   rename_i s
   have hn:(⟨s.data.toList.toArray⟩:ByteArray)=s:=by cases s;simp
   exact ⟨[_],rfl,rfl,by simp [qt],by rw [qh,hn];exact .refl _,rfl⟩
 | .term,cs,v,r,h=>by
   change Jh cs=_ at h
   unfold Jh at h
   split at h<;>try cases h
   split at h<;>cases h
   rename_i hd
   obtain ⟨h1,h2⟩:=qIc _ _ hd
   exact ⟨_,rfl,rfl,h2,h1,by show Jh _=_;simp only [Jh,hd]⟩
 | .list a,cs,v,r,h=>by
   change qa2 _ cs=_ at h
   unfold qa2 at h
   split at h<;>try cases h
   rename_i x r'
   split at h<;>cases h
   rename_i hd
   refine ⟨[x],rfl,rfl,?_,?_,by show qa2 _ _=_;simp only [qa2,hd]⟩
   ·intro y hy
    simp at hy;subst hy
    unfold yD at hd
    split at hd
    ·rfl
    ·rfl
    ·cases hd
   ·rw [qh]
    refine .cons ?_ .nil
    unfold yD at hd
    split at hd
    ·cases hd;exact qww _ (Ty.size_pos a)
    ·rename_i k' es n
     split at hd
     ·rename_i hk
      have hk:=of_decide_eq_true hk
      subst hk
      refine qzp (Nat.succ_pos _) (by rw [qF hd,List.length_map]) ?_ ?_ ?_
      ·intro e he
       obtain ⟨w,_,rfl⟩:=List.mem_map.1 he
       exact jG a w
      ·intro e he
       obtain ⟨w,_,rfl⟩:=List.mem_map.1 he
       exact zN a w
      ·intro i e e' hi hi'
       obtain ⟨w,q1,q2⟩:=QP hd hi
       rw [List.getElem?_map,q1] at hi'
       simp at hi'
       subst hi'
       obtain ⟨pre,p1,_,_,p4,_⟩:=ye a (zD.1 q2)
       rw [List.append_nil] at p1
       rw [p1];exact p4
     ·cases hd
    ·cases hd
 | .pair a b,cs,v,r,h=>by
   obtain ⟨r1,h1,h2⟩:=QO.1 h
   obtain ⟨p,e1,l1,q1,s1,d1⟩:=ye a h1
   obtain ⟨p',e2,l2,q2,s2,d2⟩:=ye b h2
   refine ⟨p++p',by rw [e1,e2,List.append_assoc],by rw [List.length_append,l1,l2];rfl,?_,by rw [qh];exact s1.append s2,?_⟩
   ·intro x hx
    rcases List.mem_append.1 hx with hx | hx
    ·exact q1 x hx
    ·exact q2 x hx
   ·exact QO.2 ⟨p',by have:=qde a p' d1;simpa using this,d2⟩
 | .one a,cs,v,r,h=>ye a h
theorem qCK (t:T):jy (QK t)=some t:=by
 refine T.ind (P := λ t=>jy (QK t)=some t) ?_ t
 intro t ih
 obtain ⟨k,n,s,l⟩:=t
 have:qnn (qkD l)=some l:=by
  rw [qkJ,qj3]
  have ih:∀ x∈l,jy (QK x)=some x:=ih
  have key:∀ m:List T,(∀ x∈m,jy (QK x)=some x)->qL jy (m.map QK)=some m:=by
   intro m
   induction m with
   | nil=>intro _;rfl
   | cons x m ih2=>intro h;exact yk.2 ⟨x,m,h x (List.mem_cons_self ..),ih2 λ y hy=>h y (List.mem_cons_of_mem _ hy),rfl⟩
  exact key l ih
 rw [QK,jy,qiy,this]
theorem qep:∀ (τ : Ty) (v:Val τ),QS τ (qh τ v)=some (v,[])
 | .int k,v=>by show qap k [_]=_;simp [qap]
 | .bool,v=>rfl
 | .str,v=>by show qeN _=_;simp [qeN,qh]
 | .term,t=>by
   have:=qtv (QK t)
   rw [qCK] at this
   exact zD.1 this
 | .list a,l=>by
   have hl:qL (λ e=>full (QS a e)) (l.map (qh a))=some l:=J2 (λ v=>by rw [qep a v];rfl) l
   show qa2 _ [_]=_
   simp only [qa2,yD,qV,decide_true,hl]
 | .pair a b,v=>QO.2 ⟨_,qde a _ (qep a v.1),by rw [List.nil_append];exact qep b v.2⟩
 | .one a,v=>qep a v
end Go.AmZ
namespace Go.AmZ
open Go Go.RowKit Go.GxZ
structure Mp where
 b:Nat->Nat
 nb:Nat
 r:Nat->Option Nat
 v:Nat->Nat
 q:Nat->List (List AV)
 rw:List qD
def mp0:Mp:=⟨λ _=>0,0,λ _=>none,λ _=>0,λ _=>[],[]⟩
def lvl:AV->Nat
 | .v _=>2
 | .sl _ _ n=>n
 | _=>0
def QM (r:Option Nat) (v:Nat) (τ : Ty) (l:List (Val τ)) (y:AV):Prop:=match r with
 | some r=>y = .rs r 0 l.length v false
 | none=>dlist τ y=some l/\2<=lvl y
def qoT (y:AV):Prop:=y = .v (.slice none 0 0)\/(∃ k es n,y = .sl k es n)\/∃ r lo n ep f,y = .rs r lo n ep f
theorem qCu {τ : Ty} {y:AV} {l:List (Val τ)} (h:dlist τ y=some l):qoT y:=by
 unfold dlist yD at h
 split at h
 ·exact .inl rfl
 ·exact .inr (.inl ⟨_,_,_,rfl⟩)
 ·cases h
theorem QM.ish {r:Option Nat} {v:Nat} {τ : Ty} {l:List (Val τ)} {y:AV} (h:QM r v τ l y):qoT y:=by
 cases r with
 | some r=>exact .inr (.inr ⟨_,_,_,_,_,h⟩)
 | none=>exact qCu h.1
def qrv (m:Mp) (id ver:Nat) (y:AV):Prop :=
 ∃ R,m.rw[id]? = some R/\ver<=R.ver/\qoT y/\(R.ver=ver->QM (m.r id) (m.v id) R.τ R.l y)
mutual
def OK (m:Mp):TV->AV->Prop
 | .i k n,y=>y = .v (.int k n)
 | .b x,y=>y = .v (.bool x)
 | .s x,y=>y = .v (.string ⟨x.toArray⟩)
 | .c v,y=>zO v=true/\y = .v v
 | .nil,y=>y = .v (.slice none 0 0)
 | .sl τ l lv,y=>dlist τ y=some l/\lv<=lvl y
 | .row id ver,y=>qrv m id ver y
 | .ptr b o,y=>b<m.nb/\y = .ptr (m.b b) o
 | .pti b i,y=>b<m.nb/\0<=i/\y = .ptr (m.b b) i.toNat
 | .rpt id ver sv i cs o,y=>∃ R,m.rw[id]? = some R/\ver<=R.ver/\sv<=R.sv/\((∃ r j ep,y = .rpt r j o ep)\/∃ ds,y = .ept ds o)/\(R.ver=ver->(∃ r j,m.r id=some r/\y = .rpt r j o (m.v id)/\i=((j:Nat):Int)/\j<R.l.length/\(R.sv=sv->∃ ds,(m.q id)[j]? = some ds/\OKL m cs ds))\/(m.r id=none/\0<R.l.length/\(R.sv=sv->∃ ds,y = .ept ds o/\OKL m cs ds)))
 | .ept cs o,y=>∃ ds,y = .ept ds o/\OKL m cs ds
 | .fn f cs,y=>∃ ds,y = .fn f ds/\OKL m cs ds
 | .agg cs,y=>∃ ds,y = .agg ds/\OKL m cs ds
 | .tup cs,y=>∃ ds,y = .tup ds/\OKL m cs ds
 | .dead,_=>True
def OKL (m:Mp):List TV->List AV->Prop
 | [],ys=>ys=[]
 | x::xs,ys=>∃ y r,ys=y::r/\OK m x y/\OKL m xs r
end
structure MLe (m m':Mp):Prop where
 nb:m.nb<=m'.nb
 b:∀ i,i<m.nb->m'.b i=m.b i
 row:∀ id R,m.rw[id]? = some R->∃ R',m'.rw[id]? = some R'/\R.ver<=R'.ver/\R.sv<=R'.sv/\(R'.ver=R.ver->R'.l.length=R.l.length/\m'.r id=m.r id/\m'.v id=m.v id/\R'.τ = R.τ /\ (R'.sv=R.sv->m'.q id=m.q id)/\(m.r id=none->∀ y,dlist R.τ y=some R.l->dlist R'.τ y=some R'.l))
theorem MLe.refl (m:Mp):MLe m m:=⟨Nat.le_refl _,λ _ _=>rfl,λ _ R h=>⟨R,h,Nat.le_refl _,Nat.le_refl _,λ _=>⟨rfl,rfl,rfl,rfl,λ _=>rfl,λ _ _ h=>h⟩⟩⟩
theorem MLe.trans {a b c:Mp} (h:MLe a b) (g:MLe b c):MLe a c where
 nb:=Nat.le_trans h.nb g.nb
 b := λ i hi=>(g.b i (Nat.lt_of_lt_of_le hi h.nb)).trans (h.b i hi)
 row := λ id R hR=>by
  obtain ⟨R1,h1,h2,h3,h4⟩:=h.row id R hR
  obtain ⟨R2,g1,g2,g3,g4⟩:=g.row id R1 h1
  refine ⟨R2,g1,Nat.le_trans h2 g2,Nat.le_trans h3 g3,λ he=>?_⟩
  have e1:R1.ver=R.ver:=by omega
  have e2:R2.ver=R1.ver:=by omega
  obtain ⟨a1,a2,a3,a4,a5,a6⟩:=h4 e1
  obtain ⟨b1,b2,b3,b4,b5,b6⟩:=g4 e2
  exact ⟨b1.trans a1,b2.trans a2,b3.trans a3,b4.trans a4,λ hs=>(b5 (by omega)).trans (a5 (by omega)),λ hn y hy=>b6 (a2.trans hn) y (a6 hn y hy)⟩
theorem qrv.mono {m m':Mp} (hm:MLe m m') {id ver:Nat} {y:AV} (h:qrv m id ver y):qrv m' id ver y:=by
 obtain ⟨R,h1,h2,h3,h4⟩:=h
 obtain ⟨R',g1,g2,_,g3⟩:=hm.row id R h1
 refine ⟨R',g1,Nat.le_trans h2 g2,h3,λ he=>?_⟩
 have e1:R'.ver=R.ver:=by omega
 obtain ⟨a,b,c,d,_,k⟩:=g3 e1
 have h4:=h4 (by omega)
 rw [b,c]
 revert h4 k
 cases m.r id with
 | some r =>
   intro _ h4
   show y = .rs r 0 R'.l.length (m.v id) false
   rw [a];exact h4
 | none=>intro k h4;exact ⟨k rfl y h4.1,h4.2⟩
mutual
theorem OK.mono {m m':Mp} (hm:MLe m m'):∀ {x:TV} {y:AV},OK m x y->OK m' x y
 | .i ..,y,h=>h
 | .b ..,y,h=>h
 | .s ..,y,h=>h
 | .c ..,y,h=>h
 | .nil,y,h=>h
 | .sl ..,y,h=>h
 | .row ..,y,h=>qrv.mono hm h
 | .ptr b o,y,h=>⟨Nat.lt_of_lt_of_le h.1 hm.nb,by rw [hm.b _ h.1];exact h.2⟩
 | .pti b i,y,h=>⟨Nat.lt_of_lt_of_le h.1 hm.nb,h.2.1,by rw [hm.b _ h.1];exact h.2.2⟩
 | .rpt id ver sv _ cs o,y,h=>by
   obtain ⟨R,h1,h2,h2',h3,h4⟩:=h
   obtain ⟨R',g1,g2,g2',g3⟩:=hm.row id R h1
   refine ⟨R',g1,Nat.le_trans h2 g2,Nat.le_trans h2' g2',h3,λ he=>?_⟩
   have e1:R'.ver=R.ver:=by omega
   obtain ⟨a,b,c,_,d,_⟩:=g3 e1
   rcases h4 (by omega) with ⟨r,j,k1,k2,k0,k3,k4⟩ | ⟨k1,k3,k4⟩
   ·refine .inl ⟨r,j,b.trans k1,by rw [c];exact k2,k0,by rw [a];exact k3,λ hs=>?_⟩
    obtain ⟨ds,k5,k6⟩:=k4 (by omega)
    exact ⟨ds,by rw [d (by omega)];exact k5,OKL.mono hm k6⟩
   ·refine .inr ⟨b.trans k1,by rw [a];exact k3,λ hs=>?_⟩
    obtain ⟨ds,k5,k6⟩:=k4 (by omega)
    exact ⟨ds,k5,OKL.mono hm k6⟩
 | .ept cs o,y,⟨ds,h1,h2⟩=>⟨ds,h1,OKL.mono hm h2⟩
 | .fn f cs,y,⟨ds,h1,h2⟩=>⟨ds,h1,OKL.mono hm h2⟩
 | .agg cs,y,⟨ds,h1,h2⟩=>⟨ds,h1,OKL.mono hm h2⟩
 | .tup cs,y,⟨ds,h1,h2⟩=>⟨ds,h1,OKL.mono hm h2⟩
 | .dead,y,h=>trivial
theorem OKL.mono {m m':Mp} (hm:MLe m m'):∀ {xs:List TV} {ys:List AV},OKL m xs ys->OKL m' xs ys
 | [],ys,h=>h
 | x::xs,ys,⟨y,r,h1,h2,h3⟩=>⟨y,r,h1,OK.mono hm h2,OKL.mono hm h3⟩
end
theorem qy5 {m:Mp} {R:qD} {id sv o:Nat} {i:Int} {cs:List TV} {y:AV} (h:(∃ r j,m.r id=some r/\y = .rpt r j o (m.v id)/\i=((j:Nat):Int)/\j<R.l.length/\(R.sv=sv->∃ ds,(m.q id)[j]? = some ds/\OKL m cs ds))\/(m.r id=none/\0<R.l.length/\(R.sv=sv->∃ ds,y = .ept ds o/\OKL m cs ds))) (hs:R.sv=sv) :
  (∃ r j ds,m.r id=some r/\y = .rpt r j o (m.v id)/\i=((j:Nat):Int)/\j<R.l.length/\(m.q id)[j]? = some ds/\OKL m cs ds)\/∃ ds,m.r id=none/\y = .ept ds o/\0<R.l.length/\OKL m cs ds:=by
 rcases h with ⟨r,j,k1,k2,k0,k3,k4⟩ | ⟨k1,k3,k4⟩
 ·obtain ⟨ds,k5,k6⟩:=k4 hs
  exact .inl ⟨r,j,ds,k1,k2,k0,k3,k5,k6⟩
 ·obtain ⟨ds,k5,k6⟩:=k4 hs
  exact .inr ⟨ds,k1,k5,k3,k6⟩
theorem OKL.nil (m:Mp):OKL m [] []:=rfl
theorem OKL.cons {m:Mp} {x:TV} {y:AV} {xs:List TV} {ys:List AV} (h:OK m x y) (g:OKL m xs ys):OKL m (x::xs) (y::ys):=⟨y,ys,rfl,h,g⟩
theorem OKL.len {m:Mp}:∀ {xs:List TV} {ys:List AV},OKL m xs ys->ys.length=xs.length
 | [],_,h=>by cases h;rfl
 | _::_,_,⟨_,_,rfl,_,h⟩=>by simp [h.len]
theorem OKL.get {m:Mp}:∀ {xs:List TV} {ys:List AV},OKL m xs ys->∀ {i:Nat} {x:TV},xs[i]? = some x->∃ y,ys[i]? = some y/\OK m x y
 | [],_,_,i,x,hx=>by simp at hx
 | _::_,_,⟨y,r,rfl,h1,h2⟩,0,x,hx=>by simp at hx;subst hx;exact ⟨y,rfl,h1⟩
 | _::_,_,⟨y,r,rfl,h1,h2⟩,i+1,x,hx=>by simpa using h2.get (by simpa using hx)
theorem OKL.append {m:Mp}:∀ {xs:List TV} {ys:List AV} {xs':List TV} {ys':List AV},OKL m xs ys->OKL m xs' ys'->OKL m (xs++xs') (ys++ys')
 | [],_,_,_,h,g=>by cases h;exact g
 | _::_,_,_,_,⟨y,r,rfl,h1,h2⟩,g=>⟨y,_,rfl,h1,h2.append g⟩
theorem OKL.take {m:Mp} (n:Nat):∀ {xs:List TV} {ys:List AV},OKL m xs ys->OKL m (xs.take n) (ys.take n):=by
 induction n with
 | zero=>intro xs ys _;simp;exact rfl
 | succ n ih =>
   intro xs ys h
   cases xs with
   | nil=>cases h;exact rfl
   | cons x xs=>obtain ⟨y,r,rfl,h1,h2⟩:=h;exact ⟨y,_,rfl,h1,ih h2⟩
theorem OKL.drop {m:Mp} (n:Nat):∀ {xs:List TV} {ys:List AV},OKL m xs ys->OKL m (xs.drop n) (ys.drop n):=by
 induction n with
 | zero=>intro xs ys h;simpa using h
 | succ n ih =>
   intro xs ys h
   cases xs with
   | nil=>cases h;exact rfl
   | cons x xs=>obtain ⟨y,r,rfl,h1,h2⟩:=h;simpa using ih h2
theorem OKL.split {m:Mp}:∀ {xs xs':List TV} {ys:List AV},OKL m (xs++xs') ys->∃ a b,ys=a++b/\OKL m xs a/\OKL m xs' b
 | [],_,ys,h=>⟨[],ys,rfl,rfl,h⟩
 | _::_,_,_,⟨y,r,rfl,h1,h2⟩=>by
   obtain ⟨a,b,rfl,h3,h4⟩:=h2.split
   exact ⟨y::a,b,rfl,⟨y,a,rfl,h1,h3⟩,h4⟩
theorem qtR {m:Mp} {v:Value} (h:zO v=true):OK m (qbs v) (.v v):=by
 unfold qbs
 split
 ·exact rfl
 ·exact rfl
 ·rename_i s
  show AV.v (.string s) = .v (.string ⟨s.data.toList.toArray⟩)
  cases s;simp
 ·exact rfl
 ·rw [h];exact ⟨h,rfl⟩
theorem qdX {m:Mp}:∀ {l:List Value},l.all zO=true->OKL m (l.map qbs) (l.map .v)
 | [],_=>rfl
 | x::l,h=>by
   rw [List.all_cons,Bool.and_eq_true] at h
   exact ⟨_,_,rfl,qtR h.1,qdX h.2⟩
theorem jc {m:Mp} (v:Value):OK m (qbs v) (ofC v):=by
 unfold ofC
 cases h:zO v with
 | true=>exact qtR h
 | false =>
   have:qbs v = .dead:=by
    unfold qbs
    split
    ·simp [zO] at h
    ·simp [zO] at h
    ·simp [zO] at h
    ·simp [zO] at h
    ·rw [h]
   rw [this];trivial
theorem qAO {m:Mp} (v:Value):OK m (qxh v) (qnx v):=by
 cases v with
 | agg cs =>
   show OK m (match cs.toList.all zO with | true=>TV.agg (cs.toList.map qbs) | false => .dead) (match cs.toList.all zO with | true => .agg (cs.toList.map .v) | false => .dead)
   cases h:cs.toList.all zO with
   | true=>exact ⟨_,rfl,qdX h⟩
   | false=>trivial
 | tuple vs =>
   show OK m (match vs.toList with | []=>TV.tup [] | _ => .dead) (match vs.toList with | [] => .tup [] | _ => .dead)
   cases vs.toList with
   | nil=>exact ⟨_,rfl,rfl⟩
   | cons a l=>trivial
 | bool b=>exact jc (.bool b)
 | int k n=>exact jc (.int k n)
 | float k n=>exact jc (.float k n)
 | complex k a b=>exact jc (.complex k a b)
 | string s=>exact jc (.string s)
 | pointer a=>exact jc (.pointer a)
 | slice a n c=>exact jc (.slice a n c)
 | map r=>exact jc (.map r)
 | chan r=>exact jc (.chan r)
 | func f a b=>exact jc (.func f a b)
 | nilFunc=>exact jc (.nilFunc)
 | iface t v=>exact jc (.iface t v)
 | nilIface=>exact jc (.nilIface)
def QC (σ : St) (R:qD) (ro:Option Nat) (vo:Nat) (qo:List (List AV)):Prop:=match ro with
 | some r=>∃ Q,σ.rw[r]? = some Q/\Q.c=qo/\Q.ver=vo/\Q.k=R.τ.size/\qL (zQ R.τ) Q.c=some R.l/\Q.fz<=Q.c.length/\(R.sh=false->Q.fz=0/\Q.off=false)
 | none=>R.sh=false->R.l=[]
def yC (m:Mp) (σ : St):Prop:=∀ id R,m.rw[id]? = some R->QC σ R (m.r id) (m.v id) (m.q id)
structure Rel (N:Nat × Nat) (m:Mp) (E:Env) (τ : TS) (tm:List AV) (σ : St):Prop where
 len:tm.length=N.1
 env:∀ t,OK m (get E t) (tm.getD t .dead)
 rw:m.rw = τ.rw
 nb:m.nb = τ.bx.length
 box:∀ b cs,τ.bx[b]? = some cs->∃ ds,σ.bx[m.b b]? = some ds/\OKL m cs ds
 inj:∀ b b',b<m.nb->b'<m.nb->m.b b=m.b b'->b=b'
 rows:yC m σ
 rinj:∀ id id' r,id<m.rw.length->id'<m.rw.length->m.r id=some r->m.r id'=some r->id=id'
 pin:∀ i,i<N.2->i<m.nb/\m.b i=i
theorem qoq {m m':Mp} {n:Nat} (hl:MLe m m') (h:∀ i,i<n->i<m.nb/\m.b i=i):∀ i,i<n->i<m'.nb/\m'.b i=i := λ i hi =>
 ⟨Nat.lt_of_lt_of_le (h i hi).1 hl.nb,(hl.b i (h i hi).1).trans (h i hi).2⟩
theorem Rel.ev {N:Nat × Nat} {m:Mp} {E:Env} {τ : TS} {tm:List AV} {σ : St} (h:Rel N m E τ tm σ) (x:Operand):OK m (evT E x) (aev tm x):=by
 cases x with
 | tmp t=>exact h.env t
 | const v=>exact qAO v
 | func f=>exact ⟨_,rfl,rfl⟩
 | global g=>trivial
theorem Rel.evs {N:Nat × Nat} {m:Mp} {E:Env} {τ : TS} {tm:List AV} {σ : St} (h:Rel N m E τ tm σ):∀ l:List Operand,OKL m (l.map (evT E)) (l.map (aev tm))
 | []=>rfl
 | x::l=>⟨_,_,rfl,h.ev x,h.evs l⟩
theorem yr {τ : Ty} {y:AV} {l:List (Val τ)} (h:dlist τ y=some l):y = .v (.slice none 0 0)/\l=[]\/∃ es n,y = .sl τ.size es (n+1)/\qL (zQ τ) es=some l:=by
 unfold dlist yD at h
 split at h
 ·cases h;exact .inl ⟨rfl,rfl⟩
 ·rename_i k es n
  split at h
  ·rename_i hk
   have:=of_decide_eq_true hk
   subst this
   exact .inr ⟨es,n,rfl,h⟩
  ·cases h
 ·cases h
theorem OK.one {m:Mp} {x:TV} {y:AV} (h:OK m x y) (hc:qeG x=true):isC y=true/\yJ x=[x]/\cellsOf y=[y]:=by
 cases x with
 | i=>cases h;exact ⟨rfl,rfl,rfl⟩
 | b=>cases h;exact ⟨rfl,rfl,rfl⟩
 | s=>cases h;exact ⟨rfl,rfl,rfl⟩
 | c=>obtain ⟨_,rfl⟩:=h;exact ⟨rfl,rfl,rfl⟩
 | nil=>cases h;exact ⟨rfl,rfl,rfl⟩
 | sl τ l lv =>
   obtain ⟨h,_⟩:=h
   rcases yr h with ⟨rfl,_⟩ | ⟨es,n,rfl,_⟩<;>exact ⟨rfl,rfl,rfl⟩
 | row id ver =>
   obtain ⟨R,_,_,h,_⟩:=h
   rcases h with rfl | ⟨k,es,j,rfl⟩ | ⟨r,lo,n,ep,f,rfl⟩<;>exact ⟨rfl,rfl,rfl⟩
 | ptr b o=>obtain ⟨_,rfl⟩:=h;exact ⟨rfl,rfl,rfl⟩
 | pti b i=>obtain ⟨_,_,rfl⟩:=h;exact ⟨rfl,rfl,rfl⟩
 | rpt id ver sv i cs o=>obtain ⟨R,_,_,_,h,_⟩:=h;rcases h with ⟨r,i,ep,rfl⟩ | ⟨ds,rfl⟩<;>exact ⟨rfl,rfl,rfl⟩
 | ept cs o=>obtain ⟨ds,rfl,_⟩:=h;exact ⟨rfl,rfl,rfl⟩
 | fn f cs=>obtain ⟨ds,rfl,_⟩:=h;exact ⟨rfl,rfl,rfl⟩
 | agg cs=>simp [qeG] at hc
 | tup cs=>simp [qeG] at hc
 | dead=>simp [qeG] at hc
theorem OKL.allC {m:Mp}:∀ {xs:List TV} {ys:List AV},OKL m xs ys->xs.all qeG=true->ys.all isC=true
 | [],_,h,_=>by cases h;rfl
 | x::xs,_,⟨y,r,rfl,h1,h2⟩,h=>by
   rw [List.all_cons,Bool.and_eq_true] at h
   rw [List.all_cons,(h1.one h.1).1,h2.allC h.2];rfl
theorem OK.cells {m:Mp} {x:TV} {y:AV} (h:OK m x y) (hc:(yJ x).all qeG=true):OKL m (yJ x) (cellsOf y)/\(cellsOf y).all isC=true:=by
 have one:qeG x=true->OKL m (yJ x) (cellsOf y)/\(cellsOf y).all isC=true:=by
  intro h1
  obtain ⟨a,b,c⟩:=h.one h1
  rw [b,c]
  exact ⟨⟨y,[],rfl,h,rfl⟩,by simp [a]⟩
 cases x with
 | agg cs =>
   obtain ⟨ds,rfl,hd⟩:=h
   exact ⟨hd,hd.allC hc⟩
 | tup cs=>simp [yJ,qeG] at hc
 | dead=>simp [yJ,qeG] at hc
 | _=>exact one rfl
theorem qBY {x:AV} {l:List T} (h:qiy x=some l):1<=lvl x:=by
 unfold qiy at h
 split at h
 ·exact Nat.le_succ _
 ·exact Nat.succ_le_succ (Nat.zero_le _)
 ·cases h
theorem qit {τ : Ty} {y:AV} {l:List (Val τ)} (h:dlist τ y=some l):1<=lvl y:=by
 rcases yr h with ⟨rfl,_⟩ | ⟨es,n,rfl,_⟩
 ·exact Nat.le_succ _
 ·exact Nat.succ_le_succ (Nat.zero_le _)
theorem qjK {m:Mp}:∀ (τ : Ty) {cs:List AV} {v:Val τ} {r:List AV},QS τ cs=some (v,r)->∃ pre,cs=pre++r/\OKL m (j8 τ v) pre
 | .int k,cs,v,r,h=>by
   change qap k cs=_ at h
   unfold qap at h
   split at h<;>try cases h
   split at h<;>cases h
   rename_i hk
   have hk':=of_decide_eq_true hk
   subst hk'
   exact ⟨[_],rfl,⟨_,_,rfl,rfl,rfl⟩⟩
 | .bool,cs,v,r,h=>by
   change qgu cs=_ at h
   unfold qgu at h
   split at h<;>cases h
   exact ⟨[_],rfl,⟨_,_,rfl,rfl,rfl⟩⟩
 | .str,cs,v,r,h=>by
   change qeN cs=_ at h
   unfold qeN at h
   split at h<;>cases h
   rename_i s
   exact ⟨[_],rfl,⟨_,_,rfl,by show AV.v (.string s) = .v (.string ⟨s.data.toList.toArray⟩);cases s;simp,rfl⟩⟩
 | .term,cs,v,r,h=>by
   change Jh cs=_ at h
   unfold Jh at h
   split at h<;>try cases h
   split at h<;>cases h
   rename_i hd
   obtain ⟨k,n,s,x,l,hl,h1,rfl⟩:=qhQ hd
   cases hl
   refine ⟨_,rfl,⟨_,_,rfl,rfl,_,_,rfl,?_,_,_,rfl,rfl,_,_,rfl,⟨?_,qBY h1⟩,rfl⟩⟩
   ·show AV.v (.string n) = .v (.string ⟨n.data.toList.toArray⟩);cases n;simp
   ·rw [qgf];exact h1
 | .list a,cs,v,r,h=>by
   change qa2 _ cs=_ at h
   unfold qa2 at h
   split at h<;>try cases h
   split at h<;>cases h
   rename_i hd
   have hd:dlist a _=some v:=hd
   exact ⟨[_],rfl,⟨_,_,rfl,⟨hd,qit hd⟩,rfl⟩⟩
 | .pair a b,cs,v,r,h=>by
   obtain ⟨r1,h1,h2⟩:=QO.1 h
   obtain ⟨p,e1,o1⟩:=qjK (m:=m) a h1
   obtain ⟨p',e2,o2⟩:=qjK (m:=m) b h2
   exact ⟨p++p',by rw [e1,e2,List.append_assoc],o1.append o2⟩
 | .one a,cs,v,r,h=>qjK (m:=m) a h
theorem jz {m:Mp} {τ : Ty} {e:List AV} {v:Val τ} (h:zQ τ e=some v):OKL m (j8 τ v) e:=by
 obtain ⟨pre,h1,h2⟩:=qjK (m:=m) τ (zD.1 h)
 rw [List.append_nil] at h1
 rw [h1];exact h2
theorem jF (τ : Ty) (v:Val τ):zQ τ (qh τ v)=some v:=zD.2 (qep τ v)
theorem qnw {m:Mp}:∀ (τ : Ty) (v:Val τ),OK m (qph τ v) (yi τ v)
 | .int k,v=>rfl
 | .bool,v=>rfl
 | .str,v=>rfl
 | .list a,v=>by
   have h:OKL m (j8 (.list a) v) (qh (.list a) v):=jz (jF (.list a) v)
   obtain ⟨y,r,h1,h2,_⟩:=h
   cases h1
   exact h2
 | .term,v=>⟨_,rfl,jz (jF .term v)⟩
 | .pair a b,v=>⟨_,rfl,jz (jF (.pair a b) v)⟩
 | .one a,v=>⟨_,rfl,jz (jF (.one a) v)⟩
end Go.AmZ
namespace Go.AmZ
open Go Go.RowKit Go.GxZ
def qIg (τ : TS):Option TS->TS
 | none => τ
 | some τ' => τ'
def Sim {α : Type} (N:Nat × Nat) (m:Mp) (E:Env) (τ : TS) (tm:List AV) (σ : St) (K:KT α) (r : α) (p:Option (AV × Option St)):Prop :=
 ∃ x τ' y σ' m',K x τ'=some r/\p=some (y,σ')/\MLe m m'/\Rel N m' E (qIg τ τ') tm (turn σ σ')/\OK m' x y/\(τ'=none -> σ'=none)
section
variable {α : Type} {N:Nat × Nat} {m:Mp} {E:Env} {τ : TS} {tm:List AV} {σ : St} {K:KT α} {r : α} {p:Option (AV × Option St)}
theorem Sim.same {x:TV} {y:AV} (hr:Rel N m E τ tm σ) (h:K x none=some r) (hp:p=some (y,none)) (ho:OK m x y):Sim N m E τ tm σ K r p :=
 ⟨x,none,y,none,m,h,hp,.refl m,hr,ho,λ _=>rfl⟩
theorem Sim.to {x:TV} {y:AV} {τ':TS} {σ':St} {m':Mp} (h:K x (some τ')=some r) (hp:p=some (y,some σ')) (h1:MLe m m') (h2:Rel N m' E τ' tm σ') (h3:OK m' x y):Sim N m E τ tm σ K r p :=
 ⟨x,some τ',y,some σ',m',h,hp,h1,h2,h3,λ h=>by cases h⟩
theorem Rel.box_lt (hr:Rel N m E τ tm σ) {b:Nat} (h:b<m.nb):m.b b < σ.bx.length:=by
 rw [hr.nb] at h
 obtain ⟨ds,h1,_⟩:=hr.box b _ (List.getElem?_eq_getElem h)
 exact getElem?_lt h1
theorem Rel.alloc (hr:Rel N m E τ tm σ) {cs:List TV} {ds:List AV} (hc:OKL m cs ds) :
  ∃ m',MLe m m'/\Rel N m' E { τ with bx := τ.bx++[cs] } tm { σ with bx := σ.bx++[ds] }/\OK m' (.ptr τ.bx.length 0) (.ptr σ.bx.length 0):=by
 have hle:MLe m { m with b := λ i=>if i=m.nb then σ.bx.length else m.b i,nb:=m.nb+1 } :=
  ⟨Nat.le_succ _,λ i hi=>if_neg (Nat.ne_of_lt hi),λ id R h=>⟨R,h,Nat.le_refl _,Nat.le_refl _,λ _=>⟨rfl,rfl,rfl,rfl,λ _=>rfl,λ _ _ h=>h⟩⟩⟩
 refine ⟨_,hle,?_,?_⟩
 ·refine ⟨hr.len,λ t=>(hr.env t).mono hle,hr.rw,by show m.nb+1=_;rw [hr.nb];simp,?_,?_,hr.rows,hr.rinj,qoq hle hr.pin⟩
  ·intro b cs' hb
   show ∃ ds',(σ.bx++[ds])[if b=m.nb then σ.bx.length else m.b b]? = some ds'/\_
   by_cases hlt:b < τ.bx.length
   ·rw [List.getElem?_append_left hlt] at hb
    obtain ⟨ds',h1,h2⟩:=hr.box b cs' hb
    rw [if_neg (by rw [hr.nb];omega),List.getElem?_append_left (getElem?_lt h1)]
    exact ⟨ds',h1,h2.mono hle⟩
   ·have hbl:b<(τ.bx++[cs]).length:=getElem?_lt hb
    simp at hbl
    have hbe:b = τ.bx.length:=by omega
    subst hbe
    simp at hb
    subst hb
    rw [if_pos hr.nb.symm]
    exact ⟨ds,by simp,hc.mono hle⟩
  ·intro b b' hb hb' he
   change b<m.nb+1 at hb
   change b'<m.nb+1 at hb'
   change (if b=m.nb then σ.bx.length else m.b b)=(if b'=m.nb then σ.bx.length else m.b b') at he
   split at he<;>split at he
   ·omega
   ·have:=hr.box_lt (b:=b') (by omega);omega
   ·have:=hr.box_lt (b:=b) (by omega);omega
   ·exact hr.inj b b' (by omega) (by omega) he
 ·refine ⟨?_,?_⟩
  ·show τ.bx.length<m.nb+1
   rw [hr.nb];exact Nat.lt_succ_self _
  ·show AV.ptr σ.bx.length 0 = .ptr (if τ.bx.length=m.nb then σ.bx.length else m.b τ.bx.length) 0
   rw [if_pos hr.nb.symm]
theorem Rel.setBox (hr:Rel N m E τ tm σ) {b:Nat} {cs:List TV} {ds:List AV} (hb:b<m.nb) (hc:OKL m cs ds) (w:List Nat):Rel N m E { τ with bx := τ.bx.set b cs } tm { σ with bx := σ.bx.set (m.b b) ds,wr:=w }:=by
 refine ⟨hr.len,hr.env,hr.rw,by rw [hr.nb];simp,?_,hr.inj,hr.rows,hr.rinj,hr.pin⟩
 intro i cs' hi
 have hil:i<m.nb:=by rw [hr.nb];have:=getElem?_lt hi;simpa using this
 by_cases he:i=b
 ·subst he
  have hlt:i < τ.bx.length:=by rw [<- hr.nb];exact hil
  simp only [List.getElem?_set_self hlt,Option.some.injEq] at hi
  subst hi
  exact ⟨ds,by simp only [List.getElem?_set_self (hr.box_lt hb)],hc⟩
 ·simp only [List.getElem?_set_ne (Ne.symm he)] at hi
  obtain ⟨ds',h1,h2⟩:=hr.box i cs' hi
  have hne:m.b b≠m.b i := λ h=>he (hr.inj _ _ hil hb h.symm)
  exact ⟨ds',by simp only [List.getElem?_set_ne hne];exact h1,h2⟩
theorem Rel.rowsTo (hr:Rel N m E τ tm σ) {σ':St} (h1 : σ'.bx = σ.bx) (h2:yC m σ'):Rel N m E τ tm σ' :=
 ⟨hr.len,hr.env,hr.rw,hr.nb,by rw [h1];exact hr.box,hr.inj,h2,hr.rinj,hr.pin⟩
theorem qDm {r:Nat} {Q:Row} (hl:Q.fz<=Q.c.length):∀ (rs:List Nat) {rw:List Row},rw[r]? = some Q->∃ Q',(frz rw rs)[r]? = some Q'/\Q'.c=Q.c/\Q'.k=Q.k/\Q'.ver=Q.ver/\Q'.fz<=Q'.c.length:=by
 intro rs
 induction rs generalizing Q with
 | nil=>intro rw h;exact ⟨Q,h,rfl,rfl,rfl,hl⟩
 | cons a rs ih =>
   intro rw h
   have:∃ Q1,(rw.modify a qfN)[r]? = some Q1/\Q1.c=Q.c/\Q1.k=Q.k/\Q1.ver=Q.ver/\Q1.fz<=Q1.c.length:=by
    rw [List.getElem?_modify,h]
    by_cases he:a=r
    ·exact ⟨qfN Q,by simp [he],rfl,rfl,rfl,Nat.max_le.2 ⟨hl,Nat.le_refl _⟩⟩
    ·exact ⟨Q,by simp [he],rfl,rfl,rfl,hl⟩
   obtain ⟨Q1,g1,g2,g3,g4,g5⟩:=this
   obtain ⟨Q2,k1,k2,k3,k4,k5⟩:=ih (Q:=Q1) g5 g1
   exact ⟨Q2,k1,k2.trans g2,k3.trans g3,k4.trans g4,k5⟩
def shM (m:Mp):Mp:={ m with rw:=m.rw.map λ R=>⟨R.τ,R.l,R.ver,R.sv,true⟩ }
theorem qy3 {id:Nat} {R:qD} (h:(shM m).rw[id]? = some R):∃ R0,m.rw[id]? = some R0/\R=⟨R0.τ,R0.l,R0.ver,R0.sv,true⟩:=by
 change (m.rw.map _)[id]? = some R at h
 rw [List.getElem?_map] at h
 cases h0:m.rw[id]? with
 | none=>rw [h0] at h;cases h
 | some R0=>rw [h0] at h;cases h;exact ⟨R0,rfl,rfl⟩
theorem qc7 (m:Mp):MLe m (shM m):=by
 refine ⟨Nat.le_refl _,λ _ _=>rfl,λ id R h=>⟨⟨R.τ,R.l,R.ver,R.sv,true⟩,?_,Nat.le_refl _,Nat.le_refl _,λ _=>⟨rfl,rfl,rfl,rfl,λ _=>rfl,λ _ _ h=>h⟩⟩⟩
 show (m.rw.map _)[id]? = _
 rw [List.getElem?_map,h];rfl
theorem yC.frz (h:yC m σ) (rs w:List Nat):yC (shM m) { σ with rw:=frz σ.rw rs,wrr:=w }:=by
 intro id R hR
 obtain ⟨R0,h0,rfl⟩:=qy3 hR
 have:=h id R0 h0
 show match m.r id with | some r=>∃ Q,(Go.AmZ.frz σ.rw rs)[r]? = some Q/\Q.c=m.q id/\Q.ver=m.v id/\Q.k=R0.τ.size/\qL (zQ R0.τ) Q.c=some R0.l/\Q.fz<=Q.c.length/\(true=false->Q.fz=0/\Q.off=false) | none=>true=false->R0.l=[]
 cases hr:m.r id with
 | some r =>
   rw [hr] at this
   obtain ⟨Q,h1,h2,h3,h4,h5,h6,_⟩:=this
   obtain ⟨Q',g1,g2,g3,g4,g5⟩:=qDm h6 (rw := σ.rw) rs h1
   exact ⟨Q',g1,g2.trans h2,g4.trans h3,g3.trans h4,by rw [g2];exact h5,g5,λ h=>by cases h⟩
 | none=>intro h;cases h
theorem yC.sh (h:yC m σ):yC (shM m) σ := by
 intro id R hR
 obtain ⟨R0,h0,rfl⟩:=qy3 hR
 have:=h id R0 h0
 show match m.r id with | some r=>∃ Q,σ.rw[r]? = some Q/\Q.c=m.q id/\Q.ver=m.v id/\Q.k=R0.τ.size/\qL (zQ R0.τ) Q.c=some R0.l/\Q.fz<=Q.c.length/\(true=false->Q.fz=0/\Q.off=false) | none=>true=false->R0.l=[]
 cases hr:m.r id with
 | some r =>
   rw [hr] at this
   obtain ⟨Q,h1,h2,h3,h4,h5,h6,_⟩:=this
   exact ⟨Q,h1,h2,h3,h4,h5,h6,λ h=>by cases h⟩
 | none=>intro h;cases h
theorem Rel.share (hr:Rel N m E τ tm σ) {σ':St} (h1 : σ'.bx = σ.bx) (h2:yC (shM m) σ'):Rel N (shM m) E (shA τ) tm σ':=by
 refine ⟨hr.len,λ t=>(hr.env t).mono (qc7 m),by show m.rw.map _ = τ.rw.map _;rw [hr.rw],hr.nb,?_,hr.inj,h2,?_,hr.pin⟩
 ·intro b cs hb
  obtain ⟨ds,g1,g2⟩:=hr.box b cs hb
  exact ⟨ds,by rw [h1];exact g1,g2.mono (qc7 m)⟩
 ·intro id id' r e1 e2 e3 e4
  have l:(shM m).rw.length=m.rw.length:=List.length_map ..
  exact hr.rinj id id' r (l▸e1) (l▸e2) e3 e4
theorem qGG {op:BinOp} {k:IntKind} {a b:Int} {K':TV->Option α} {r : α} (h:qEY op k a b K'=some r):∃ x z,K' x=some r/\qxl op k a b=some z/\OK m x (.v z):=by
 cases op<;>simp only [qEY] at h<;>first
  | (cases h;done)
  | exact ⟨_,_,h,rfl,rfl⟩
  | skip
 all_goals (
  cases hb:ieq b 0 with
  | true=>rw [hb] at h;cases h
  | false=>rw [hb] at h;exact ⟨_,_,h,by simp only [qxl,hb],rfl⟩)
theorem qDC {a b:List UInt8} (h:qAY a b=true):qzP ⟨a.toArray⟩ ⟨b.toArray⟩=some ⟨(a++b).toArray⟩:=by
 have h:=of_decide_eq_true h
 unfold qzP
 have e1:(⟨a.toArray⟩:ByteArray).size=a.length:=by simp [ByteArray.size]
 have e2:(⟨b.toArray⟩:ByteArray).size=b.length:=by simp [ByteArray.size]
 rw [if_neg (by rw [e1,e2];omega)]
 congr 1
theorem qF1 (a b:List UInt8):xeq ⟨a.toArray⟩ ⟨b.toArray⟩=qz a b:=by
 simp [xeq,qz]
theorem qGi (a b:List UInt8):xlt ⟨a.toArray⟩ ⟨b.toArray⟩=slt a b:=by
 simp [xlt,slt]
theorem qFV {op:BinOp} {a b:List UInt8} {K':TV->Option α} {r : α} (h:qEE op a b K'=some r):∃ x z,K' x=some r/\qwv op ⟨a.toArray⟩ ⟨b.toArray⟩=some z/\OK m x (.v z):=by
 cases op<;>simp only [qEE] at h<;>first
  | (cases h;done)
  | (refine ⟨_,_,h,rfl,?_⟩;simp only [qF1,qGi];exact rfl)
  | skip
 cases hb:qAY a b with
 | false=>rw [hb] at h;cases h
 | true=>rw [hb] at h;exact ⟨_,_,h,by simp only [qwv,qDC hb],rfl⟩
theorem qwS {place:Nat->Option (Nat × Nat)}:∀ {l:List (Nat × TV)} {l':List (Nat × AV)} {cells:List TV} {cells':List AV} {cs:List TV},
  (l.map (·.1)=l'.map (·.1)/\OKL m (l.map (·.2)) (l'.map (·.2)))->OKL m cells cells'->qvz place cells l=some cs->∃ ds,qix place cells' l'=some ds/\OKL m cs ds
 | [],l',cells,cells',cs,hl,hc,h=>by
   have:l'=[]:=by cases l' with | nil=>rfl | cons a b=>simp at hl
   subst this
   cases h
   exact ⟨cells',rfl,hc⟩
 | (i,x)::l,l',cells,cells',cs,hl,hc,h=>by
   cases l' with
   | nil=>simp at hl
   | cons q l' =>
     obtain ⟨j,y⟩:=q
     simp only [List.map_cons,List.cons.injEq] at hl
     obtain ⟨⟨rfl,hl1⟩,y',r',he,hx,hl2⟩:=hl
     cases he
     simp only [qvz] at h
     simp only [qix]
     split at h<;>try cases h
     rename_i off size hp
     split at h<;>try cases h
     rename_i hb
     simp only [Bool.and_eq_true,decide_eq_true_eq] at hb
     obtain ⟨⟨h1,h2⟩,h3⟩:=hb
     obtain ⟨g1,g2⟩:=hx.cells h3
     rw [hp]
     have e1:(cellsOf y).length=size:=by rw [g1.len];exact h1
     have e2:off+size<=cells'.length:=by rw [hc.len];exact h2
     simp only [e1,e2,g2,decide_true,Bool.and_self]
     exact qwS ⟨hl1,hl2⟩ ((hc.take off).append (g1.append (hc.drop (off+size)))) h
theorem qdv {agg:Bool} {size o:Nat} {cs:List TV} {ds:List AV} {x:TV} (hc:OKL m cs ds) (h:qic agg size cs o=some x):∃ y,qbn agg size ds o=some y/\OK m x y:=by
 unfold qic at h
 unfold qbn
 cases agg with
 | true =>
   simp only at h |-
   split at h<;>cases h
   rename_i hb
   rw [<- hc.len] at hb
   rw [hb]
   exact ⟨_,rfl,_,rfl,(hc.drop o).take size⟩
 | false=>exact hc.get h
theorem qaR (hr:Rel N m E τ tm σ) {y:Nat} {d:Nat} {hi:Option Operand} {n:Int} (h:qdc d E hi=some n) (hd:d<=y) (hb:inb n y=true):qaX d y (hi.map (aev tm))=some n.toNat:=by
 have hb:=of_decide_eq_true hb
 cases hi with
 | none =>
   simp only [qdc,Option.some.injEq] at h
   subst h
   simp [qaX]
 | some x =>
   simp only [qdc] at h
   split at h<;>cases h
   rename_i k hx
   have:=hr.ev x
   rw [hx] at this
   show qrF y (aev tm x)=_
   rw [this]
   show bnd y n=_
   unfold bnd
   rw [if_pos hb]
theorem qfC {β : Type} {l:List β} {j:Int} {v : β} (h:qc l j=some v):0<=j/\l[j.toNat]? = some v:=by
 unfold qc at h
 split at h
 ·exact ⟨by assumption,h⟩
 ·cases h
theorem jX {β γ : Type} {x:Option β} {k : β -> Option γ} {r : γ} (h:qa x k=some r):∃ v,x=some v/\k v=some r:=by
 unfold qa at h
 split at h
 ·exact ⟨_,rfl,h⟩
 ·cases h
theorem yT {b:Bool} {x:Option α} {r : α} (h:cond b x none=some r):b=true/\x=some r:=by
 cases b with
 | true=>exact ⟨rfl,h⟩
 | false=>cases h
theorem qqI {b:Bool} {x:Option α} {r : α} (h:cond b none x=some r):b=false/\x=some r:=by
 cases b with
 | true=>cases h
 | false=>exact ⟨rfl,h⟩
end
end Go.AmZ
namespace Go.AmZ
open Go Go.RowKit Go.GxZ
def qbt:AV->Bool
 | .agg _=>true
 | _=>false
def jM (τ : Ty) (y:AV):Option (Val τ):=match qd2 τ.agg (qbt y) with
 | true=>zQ τ (cellsOf y)
 | false=>none
section
variable {α : Type} {N:Nat × Nat} {m:Mp} {E:Env} {τ : TS} {tm:List AV} {σ : St} {K:KT α} {r : α} {p:Option (AV × Option St)}
theorem yE {a b:Ty} {l:List (Val a)} {l':List (Val b)} (h:qcM l b=some l'):∃ e:a=b,e▸l=l':=by
 unfold qcM at h
 split at h
 ·rename_i e;cases h;exact ⟨e,rfl⟩
 ·cases h
theorem quj (Q:Row):qkz Q Q.k 0 Q.c.length Q.ver=some Q.c:=by
 unfold qkz
 rw [if_pos ⟨rfl,rfl,by omega⟩]
 simp
theorem qe0 (hq:yC m σ) {id:Nat} {R:qD} {y:AV} (hR:m.rw[id]? = some R) (h:QM (m.r id) (m.v id) R.τ R.l y) :
  (∃ r Q,m.r id=some r/\y = .rs r 0 Q.c.length Q.ver false /\ σ.rw[r]? = some Q/\Q.c=m.q id/\Q.ver=m.v id/\Q.k=R.τ.size/\qL (zQ R.τ) Q.c=some R.l/\Q.fz<=Q.c.length/\(R.sh=false->Q.fz=0/\Q.off=false)) \/
  (m.r id=none/\(R.sh=false->R.l=[])/\dlist R.τ y=some R.l/\2<=lvl y):=by
 have hq:=hq id R hR
 cases hr:m.r id with
 | some r =>
   rw [hr] at hq h
   obtain ⟨Q,g1,g2,g3,g4,g5,g6⟩:=hq
   refine .inl ⟨r,Q,rfl,?_,g1,g2,g3,g4,g5,g6⟩
   rw [qF g5,g3]
   exact h
 | none =>
   rw [hr] at hq h
   exact .inr ⟨rfl,hq,h.1,h.2⟩
theorem qty {a:Ty} {y:AV} {l:List (Val a)} (rw':List Row) (h:dlist a y=some l):∃ es,elems rw' a.size y=some es/\qL (zQ a) es=some l/\dlist a (qW rw' y)=some l:=by
 rcases yr h with ⟨rfl,h2⟩ | ⟨es,n,rfl,h2⟩
 ·rw [h2];exact ⟨[],rfl,rfl,rfl⟩
 ·refine ⟨es,by simp only [elems,qV,decide_true],h2,?_⟩
  show dlist _ (.sl _ es 1)=_
  simp only [dlist,yD,qV,decide_true]
  exact h2
theorem qju (hq:yC m σ) {a:Ty} {x:TV} {y:AV} {l:List (Val a)} (h:qhU m.rw a x=some l) (ho:OK m x y) :
  ∃ es,elems σ.rw a.size y=some es/\qL (zQ a) es=some l/\dlist a (qW σ.rw y)=some l:=by
 unfold qhU at h
 split at h
 ·cases h
  cases ho
  exact ⟨[],rfl,rfl,rfl⟩
 ·obtain ⟨e,rfl⟩:=yE h
  subst e
  exact qty _ ho.1
 ·rename_i id ver
  split at h<;>try cases h
  rename_i R hR
  split at h<;>try cases h
  rename_i hv
  have hv:R.ver=ver:=Nat.eq_of_beq_eq_true hv
  obtain ⟨e,rfl⟩:=yE h
  subst e
  obtain ⟨R',h1,_,_,h3⟩:=ho
  rw [hR] at h1;cases h1
  rcases qe0 hq hR (h3 hv) with ⟨r,Q,_,rfl,g1,_,_,g4,g5,_⟩ | ⟨_,_,g2,_⟩
  ·refine ⟨Q.c,?_,g5,?_⟩
   ·simp only [elems,g1]
    rw [<- g4]
    exact quj Q
   ·simp only [qW,g1,quj Q,dlist,yD]
    rw [<- g4]
    simp only [qV,decide_true]
    exact g5
  ·exact qty _ g2
 ·cases h
theorem qcc (hq:yC m σ):∀ (a:Ty) {cs:List TV} {v:Val a} {r:List TV} {ds:List AV},qgp m.rw a cs=some (v,r)->OKL m cs ds->∃ rs,QS a (ds.map (qW σ.rw))=some (v,rs.map (qW σ.rw))/\OKL m r rs
 | .int k,cs,v,r,ds,h,ho=>by
   change qDp k cs=_ at h
   unfold qDp at h
   split at h<;>try cases h
   split at h<;>cases h
   rename_i hk
   obtain ⟨y,rs,rfl,hy,hr⟩:=ho
   cases hy
   exact ⟨rs,by show qap _ _=_;simp only [List.map_cons,qW,qap,hk],hr⟩
 | .bool,cs,v,r,ds,h,ho=>by
   change qz0 cs=_ at h
   unfold qz0 at h
   split at h<;>cases h
   obtain ⟨y,rs,rfl,hy,hr⟩:=ho
   cases hy
   exact ⟨rs,rfl,hr⟩
 | .str,cs,v,r,ds,h,ho=>by
   change qDu cs=_ at h
   unfold qDu at h
   split at h<;>cases h
   obtain ⟨y,rs,rfl,hy,hr⟩:=ho
   cases hy
   exact ⟨rs,by show qeN _=_;simp only [List.map_cons,qW,qeN],hr⟩
 | .term,cs,v,r,ds,h,ho=>by
   change qzY _ cs=_ at h
   unfold qzY at h
   split at h<;>try cases h
   split at h<;>cases h
   rename_i hl
   obtain ⟨y1,r1,rfl,hy1,y2,r2,rfl,hy2,y3,r3,rfl,hy3,y4,r4,rfl,hy4,hr⟩:=ho
   cases hy1;cases hy2;cases hy3
   obtain ⟨es,_,_,hd⟩:=qju hq hl hy4
   rw [qgf] at hd
   refine ⟨r4,?_,hr⟩
   show Jh (.v (.int .i64 _) :: .v (.string ⟨_⟩) :: .v (.int .i64 _)::qW σ.rw y4::r4.map (qW σ.rw))=_
   generalize qW σ.rw y4=z at hd
   simp only [Jh,jy,hd]
 | .list a,cs,v,r,ds,h,ho=>by
   change qAp _ cs=_ at h
   unfold qAp at h
   split at h<;>try cases h
   split at h<;>cases h
   rename_i hl
   obtain ⟨y,rs,rfl,hy,hr⟩:=ho
   obtain ⟨es,_,_,hd⟩:=qju hq hl hy
   have hd:yD a.size (λ e=>full (QS a e)) (qW σ.rw y)=some v:=hd
   exact ⟨rs,by show qa2 _ _=_;simp only [List.map_cons,qa2,hd],hr⟩
 | .pair a b,cs,v,r,ds,h,ho=>by
   obtain ⟨r1,h1,h2⟩:=QO.1 h
   obtain ⟨rs1,g1,g2⟩:=qcc hq a h1 ho
   obtain ⟨rs2,k1,k2⟩:=qcc hq b h2 g2
   exact ⟨rs2,QO.2 ⟨_,g1,k1⟩,k2⟩
 | .one a,cs,v,r,ds,h,ho=>qcc hq a h ho
theorem qer {β : Type} {x:Option (β × List TV)} {v : β} (h:qkW x=some v):x=some (v,[]):=by
 unfold qkW at h
 split at h
 ·cases h;rfl
 ·cases h
theorem qzS (rw:List Row) {y:AV} (h:qbt y=false):qbt (ju rw y)=false/\cellsOf (ju rw y)=[qW rw y]/\cellsOf y=[y]:=by
 cases y with
 | agg cs=>cases h
 | rs r lo n ep f =>
   cases hR:rw[r]? with
   | none=>simp [ju,qW,hR,qbt,cellsOf]
   | some R=>cases hE:qkz R R.k lo n ep<;>simp [ju,qW,hR,hE,qbt,cellsOf]
 | _=>exact ⟨rfl,rfl,rfl⟩
theorem qgK (hq:yC m σ) {a:Ty} {x:TV} {y:AV} {v:Val a} (h:qdo m.rw a x=some v) (ho:OK m x y) :
  jM a (ju σ.rw y)=some v/\zQ a ((cellsOf y).map (qW σ.rw))=some v:=by
 unfold qdo at h
 split at h
 case h_2=>cases h
 rename_i hb
 have hb:a.agg=qqq x:=by simpa [qd2] using hb
 have h:=qer h
 have key:OKL m (yJ x) (cellsOf y)->zQ a ((cellsOf y).map (qW σ.rw))=some v:=by
  intro hc
  obtain ⟨rs,g1,g2⟩:=qcc hq a h hc
  cases g2
  exact zD.2 g1
 by_cases hx:qqq x=true
 ·cases x with
  | agg cs =>
    obtain ⟨ds,rfl,hd⟩:=ho
    refine ⟨?_,key hd⟩
    unfold jM
    rw [hb]
    exact key hd
  | _=>cases hx
 ·have hx:qqq x=false:=by simpa using hx
  have hct:yJ x=[x]:=by cases x<;>first | rfl | (cases hx)
  have hy:qbt y=false:=by
   cases x with
   | agg cs=>cases hx
   | i=>cases ho;rfl
   | b=>cases ho;rfl
   | s=>cases ho;rfl
   | c=>obtain ⟨_,rfl⟩:=ho;rfl
   | nil=>cases ho;rfl
   | sl τ l lv =>
     obtain ⟨ho,_⟩:=ho
     rcases yr ho with ⟨rfl,_⟩ | ⟨es,n,rfl,_⟩<;>rfl
   | row id ver =>
     obtain ⟨R,_,_,ho,_⟩:=ho
     rcases ho with rfl | ⟨k,es,j,rfl⟩ | ⟨r,lo,n,ep,f,rfl⟩<;>rfl
   | ptr b o=>obtain ⟨_,rfl⟩:=ho;rfl
   | pti b i=>obtain ⟨_,_,rfl⟩:=ho;rfl
   | rpt id ver sv i cs o=>obtain ⟨R,_,_,_,ho,_⟩:=ho;rcases ho with ⟨r,i,ep,rfl⟩ | ⟨ds,rfl⟩<;>rfl
   | ept cs o=>obtain ⟨ds,rfl,_⟩:=ho;rfl
   | fn f cs=>obtain ⟨ds,rfl,_⟩:=ho;rfl
   | tup cs=>obtain ⟨ds,rfl,_⟩:=ho;rfl
   | dead =>
     exfalso
     rw [hct] at h
     have hag:a.agg=false:=by rw [hb];rfl
     cases a with
     | int k=>cases h
     | bool=>cases h
     | str=>cases h
     | list a=>cases h
     | term=>cases hag
     | pair a b=>cases hag
     | one a=>cases hag
  obtain ⟨e1,e2,e3⟩:=qzS σ.rw hy
  have hc:OKL m (yJ x) (cellsOf y):=by rw [hct,e3];exact ⟨y,[],rfl,ho,rfl⟩
  refine ⟨?_,key hc⟩
  unfold jM
  rw [e1,hb,hx,e2]
  have:=key hc
  rw [e3] at this
  exact this
theorem qxN {x:TV} {y:AV} (ho:OK m x y) (h:qgc x=true):rsC y=[]/\qbt y=false:=by
 cases x with
 | i=>cases ho;exact ⟨rfl,rfl⟩
 | b=>cases ho;exact ⟨rfl,rfl⟩
 | s=>cases ho;exact ⟨rfl,rfl⟩
 | c=>obtain ⟨_,rfl⟩:=ho;exact ⟨rfl,rfl⟩
 | nil=>cases ho;exact ⟨rfl,rfl⟩
 | sl τ l lv =>
   obtain ⟨ho,_⟩:=ho
   rcases yr ho with ⟨rfl,_⟩ | ⟨es,n,rfl,_⟩<;>exact ⟨rfl,rfl⟩
 | fn f cs=>obtain ⟨ds,rfl,_⟩:=ho;exact ⟨rfl,rfl⟩
 | _=>cases h
theorem qfo:∀ {xs:List TV} {ys:List AV},OKL m xs ys->xs.all qgc=true->ys.flatMap rsC=[]
 | [],_,h,_=>by cases h;rfl
 | x::xs,_,⟨y,r,rfl,h1,h2⟩,h=>by
   rw [List.all_cons,Bool.and_eq_true] at h
   rw [List.flatMap_cons,(qxN h1 h.1).1,qfo h2 h.2];rfl
theorem qFF {y:AV} (h1:rsC y=[]) (h2:qbt y=false):rsA y=[]:=by
 cases y<;>first | (cases h2;done) | exact h1
theorem qsk {x:TV} {y:AV} (h:qkt x=true) (ho:OK m x y):rsA y=[]:=by
 cases x with
 | agg cs =>
   obtain ⟨ds,rfl,hd⟩:=ho
   exact qfo hd h
 | _=>obtain ⟨a,b⟩:=qxN ho h;exact qFF a b
theorem qo5:∀ {xs:List TV} {ys:List AV},xs.all qkt=true->OKL m xs ys->ys.flatMap rsA=[]
 | [],_,_,h=>by cases h;rfl
 | x::xs,_,h,⟨y,r,rfl,h1,h2⟩=>by
   rw [List.all_cons,Bool.and_eq_true] at h
   rw [List.flatMap_cons,qsk h.1 h1,qo5 h.2 h2];rfl
theorem qxj (hq:yC m σ) {a:Ty}:∀ {xs:List TV} {ys:List AV} {vs:List (Val a)},qnc m.rw a xs=some vs->OKL m xs ys ->
  qL (zQ a) (ys.map λ y=>(cellsOf y).map (qW σ.rw))=some vs
 | [],ys,vs,h,ho=>by cases ho;cases h;rfl
 | x::xs,ys,vs,h,⟨y,r,he,h1,h2⟩=>by
   subst he
   simp only [qnc] at h
   split at h<;>try cases h
   rename_i v hv
   split at h<;>cases h
   rename_i vs hvs
   exact yk.2 ⟨v,vs,(qgK hq hv h1).2,qxj hq hvs h2,rfl⟩
end
end Go.AmZ
namespace Go.AmZ
open Go Go.RowKit Go.GxZ
def Mp.add (m:Mp) (R:qD) (ro:Option Nat) (vo:Nat) (qo:List (List AV)):Mp :=
 ⟨m.b,m.nb,λ i=>if i=m.rw.length then ro else m.r i,λ i=>if i=m.rw.length then vo else m.v i,λ i=>if i=m.rw.length then qo else m.q i,m.rw++[R]⟩
def Mp.upd (m:Mp) (id:Nat) (R:qD) (ro:Option Nat) (vo:Nat) (qo:List (List AV)):Mp :=
 ⟨m.b,m.nb,λ i=>if i=id then ro else m.r i,λ i=>if i=id then vo else m.v i,λ i=>if i=id then qo else m.q i,m.rw.set id R⟩
section
variable {α : Type} {N:Nat × Nat} {m:Mp} {E:Env} {τ : TS} {tm:List AV} {σ : St} {K:KT α} {r : α} {p:Option (AV × Option St)} {c:TC} {C:Cfg} {R R2:qD} {ro:Option Nat} {vo:Nat} {qo:List (List AV)} {id:Nat}
theorem qmM (m:Mp) (R:qD) (ro:Option Nat) (vo:Nat) (qo:List (List AV)):MLe m (m.add R ro vo qo):=by
 refine ⟨Nat.le_refl _,λ i _=>rfl,λ id R' h=>?_⟩
 have hlt:=getElem?_lt h
 have hne:¬ id=m.rw.length:=Nat.ne_of_lt hlt
 exact ⟨R',by show (m.rw++_)[id]? = _;rw [List.getElem?_append_left hlt];exact h,Nat.le_refl _,Nat.le_refl _,λ _=>⟨rfl,if_neg hne,if_neg hne,rfl,λ _=>if_neg hne,λ _ _ h=>h⟩⟩
theorem QC.later {σ':St} (h:QC σ R ro vo qo) (hk:∀ r Q,ro=some r -> σ.rw[r]? = some Q -> σ'.rw[r]? = some Q):QC σ' R ro vo qo:=by
 cases ro with
 | none=>exact h
 | some r =>
   obtain ⟨Q,h1,h2⟩:=h
   exact ⟨Q,hk r Q rfl h1,h2⟩
theorem qkY {σ':St} (hq:yC m σ) (hn:QC σ' R ro vo qo) (hk:∀ (r:Nat) (Q:Row),σ.rw[r]? = some Q -> σ'.rw[r]? = some Q):yC (m.add R ro vo qo) σ':=by
 intro id R' hR
 change (m.rw++[R])[id]? = some R' at hR
 show QC σ' R' (if id=m.rw.length then ro else m.r id) (if id=m.rw.length then vo else m.v id) (if id=m.rw.length then qo else m.q id)
 by_cases he:id=m.rw.length
 ·subst he
  rw [if_pos rfl,if_pos rfl,if_pos rfl]
  simp at hR
  subst hR
  exact hn
 ·rw [if_neg he,if_neg he,if_neg he]
  have hlt:id<m.rw.length:=by have:=getElem?_lt hR;simp at this;omega
  rw [List.getElem?_append_left hlt] at hR
  exact (hq id R' hR).later λ r Q _ h=>hk r Q h
theorem qBd (h0:m.rw[id]? = some R) (hv:R.ver<=R2.ver) (hs:R.sv<=R2.sv) (hc:R2.ver=R.ver->R2.l.length=R.l.length/\ro=m.r id/\vo=m.v id/\R2.τ = R.τ /\ (R2.sv=R.sv->qo=m.q id)/\(m.r id=none->∀ y,dlist R.τ y=some R.l->dlist R2.τ y=some R2.l)):MLe m (m.upd id R2 ro vo qo):=by
 have hid:=getElem?_lt h0
 refine ⟨Nat.le_refl _,λ i _=>rfl,λ i R' h=>?_⟩
 by_cases he:i=id
 ·subst he
  rw [h0] at h;cases h
  refine ⟨R2,by show (m.rw.set i R2)[i]? = _;rw [List.getElem?_set_self hid],hv,hs,λ h=>?_⟩
  obtain ⟨a,b,c,d,e,f⟩:=hc h
  exact ⟨a,(if_pos rfl).trans b,(if_pos rfl).trans c,d,λ h=>(if_pos rfl).trans (e h),f⟩
 ·exact ⟨R',by show (m.rw.set id R2)[i]? = _;rw [List.getElem?_set_ne (Ne.symm he)];exact h,Nat.le_refl _,Nat.le_refl _,λ _=>⟨rfl,if_neg he,if_neg he,rfl,λ _=>if_neg he,λ _ _ h=>h⟩⟩
theorem qwZ {σ':St} (h0:m.rw[id]? = some R) (hq:yC m σ) (hn:QC σ' R2 ro vo qo) (hk:∀ id' r Q,id'≠id->id'<m.rw.length->m.r id'=some r -> σ.rw[r]? = some Q -> σ'.rw[r]? = some Q):yC (m.upd id R2 ro vo qo) σ':=by
 have hid:=getElem?_lt h0
 intro i R' hR
 change (m.rw.set id R2)[i]? = some R' at hR
 show QC σ' R' (if i=id then ro else m.r i) (if i=id then vo else m.v i) (if i=id then qo else m.q i)
 by_cases he:i=id
 ·subst he
  rw [if_pos rfl,if_pos rfl,if_pos rfl]
  rw [List.getElem?_set_self hid] at hR
  cases hR
  exact hn
 ·rw [if_neg he,if_neg he,if_neg he]
  rw [List.getElem?_set_ne (Ne.symm he)] at hR
  exact (hq i R' hR).later λ r Q h1 h2=>hk i r Q he (getElem?_lt hR) h1 h2
theorem Rel.to {m':Mp} {rw':List qD} {σ':St} (hr:Rel N m E τ tm σ) (hle:MLe m m') (h1:m'.rw=rw') (h2:m'.nb=m.nb) (h3:m'.b=m.b) (hb : σ'.bx = σ.bx) (hq:yC m' σ')
  (hi:∀ i i' r,i<m'.rw.length->i'<m'.rw.length->m'.r i=some r->m'.r i'=some r->i=i'):Rel N m' E { τ with rw:=rw' } tm σ':=by
 refine ⟨hr.len,λ t=>(hr.env t).mono hle,h1,by rw [h2];exact hr.nb,?_,by rw [h2,h3];exact hr.inj,hq,hi,qoq hle hr.pin⟩
 intro b cs hbb
 obtain ⟨ds,g1,g2⟩:=hr.box b cs hbb
 exact ⟨ds,by rw [hb,h3];exact g1,g2.mono hle⟩
theorem Rel.row_lt (hr:Rel N m E τ tm σ) {id r:Nat} (h:id<m.rw.length) (he:m.r id=some r):r < σ.rw.length:=by
 have:=hr.rows id _ (List.getElem?_eq_getElem h)
 rw [he] at this
 obtain ⟨Q,h1,_⟩:=this
 exact getElem?_lt h1
theorem Rel.rowAdd {σ':St} (hr:Rel N m E τ tm σ) (R:qD) (ro:Option Nat) (vo:Nat) (qo:List (List AV)) (hb : σ'.bx = σ.bx) (hn:QC σ' R ro vo qo) (hk:∀ (r:Nat) (Q:Row),σ.rw[r]? = some Q -> σ'.rw[r]? = some Q) (hf:∀ r,ro=some r -> σ.rw.length<=r) {y:AV} (hy:QM ro vo R.τ R.l y) (h0:R.ver=0) :
  ∃ m',MLe m m'/\Rel N m' E { τ with rw := τ.rw++[R] } tm σ'/\OK m' (.row τ.rw.length 0) y:=by
 refine ⟨m.add R ro vo qo,qmM _ _ _ _ _,hr.to (qmM _ _ _ _ _) (by show m.rw++_=_;rw [hr.rw]) rfl rfl hb (qkY hr.rows hn hk) ?_,?_⟩
 ·intro id id' r h1 h2 e1 e2
  change id<(m.rw++[_]).length at h1
  change id'<(m.rw++[_]).length at h2
  change (if id=m.rw.length then ro else m.r id)=some r at e1
  change (if id'=m.rw.length then ro else m.r id')=some r at e2
  simp at h1 h2
  split at e1<;>split at e2
  ·omega
  ·have:=hr.row_lt (by omega) e2
   have:=hf r e1
   omega
  ·have:=hr.row_lt (by omega) e1
   have:=hf r e2
   omega
  ·exact hr.rinj id id' r (by omega) (by omega) e1 e2
 ·refine ⟨R,?_,Nat.zero_le _,hy.ish,λ _=>?_⟩
  ·show (m.rw++_)[τ.rw.length]? = _
   rw [hr.rw];simp
  ·show QM (if τ.rw.length=m.rw.length then ro else m.r τ.rw.length) (if τ.rw.length=m.rw.length then vo else m.v τ.rw.length) _ _ y
   rw [if_pos (by rw [hr.rw]),if_pos (by rw [hr.rw])];exact hy
theorem Rel.rowNew (hr:Rel N m E τ tm σ) {a:Ty} {es:List (List AV)} {l:List (Val a)} (hd:qL (zQ a) es=some l) :
  ∃ m',MLe m m'/\Rel N m' E { τ with rw := τ.rw++[⟨a,l,0,0,false⟩] } tm { σ with rw := σ.rw++[⟨a.size,es,0,0,false⟩] }/\OK m' (.row τ.rw.length 0) (.rs σ.rw.length 0 l.length 0 false) :=
 hr.rowAdd (σ':={ σ with rw := σ.rw++[⟨a.size,es,0,0,false⟩] }) ⟨a,l,0,0,false⟩ (some σ.rw.length) 0 es rfl ⟨⟨a.size,es,0,0,false⟩,by show (σ.rw++[_])[σ.rw.length]? = _;simp,rfl,rfl,rfl,hd,Nat.zero_le _,λ _=>⟨rfl,rfl⟩⟩
  (λ r Q h=>by show (σ.rw++_)[r]? = _;rw [List.getElem?_append_left (getElem?_lt h)];exact h) (λ r h=>by cases h;exact Nat.le_refl _) rfl rfl
theorem Rel.rowUpd (hr:Rel N m E τ tm σ) (h0 : τ.rw[id]? = some R) (ro:Option Nat) (vo:Nat) (qo:List (List AV)) (hv:R.ver<=R2.ver) (hs:R.sv<=R2.sv) (hc:R2.ver=R.ver->R2.l.length=R.l.length/\ro=m.r id/\vo=m.v id/\R2.τ = R.τ /\ (R2.sv=R.sv->qo=m.q id)/\(m.r id=none->∀ y,dlist R.τ y=some R.l->dlist R2.τ y=some R2.l)) {σ':St} (hb : σ'.bx = σ.bx) (hn:QC σ' R2 ro vo qo)
  (hk:∀ id' r,id'≠id->id'<m.rw.length->m.r id'=some r->ro≠some r/\∀ Q,σ.rw[r]? = some Q -> σ'.rw[r]? = some Q) :
  ∃ m',MLe m m'/\Rel N m' E { τ with rw := τ.rw.set id R2 } tm σ'/\(∀ y,QM ro vo R2.τ R2.l y->OK m' (.row id R2.ver) y):=by
 have h0':m.rw[id]? = some R:=by rw [hr.rw];exact h0
 have hid:=getElem?_lt h0'
 have hle:MLe m (m.upd id R2 ro vo qo):=qBd h0' hv hs hc
 refine ⟨m.upd id R2 ro vo qo,hle,hr.to hle (by show m.rw.set id R2=_;rw [hr.rw]) rfl rfl hb (qwZ h0' hr.rows hn λ id' r Q h1 h2 h3 h4=>(hk id' r h1 h2 h3).2 Q h4) ?_,λ y hy=>?_⟩
 ·intro i i' r g1 g2 e1 e2
  change i<(m.rw.set id R2).length at g1
  change i'<(m.rw.set id R2).length at g2
  change (if i=id then ro else m.r i)=some r at e1
  change (if i'=id then ro else m.r i')=some r at e2
  simp at g1 g2
  split at e1<;>split at e2
  ·omega
  ·rename_i a b
   exact absurd e1 (hk i' r b g2 e2).1
  ·rename_i a b
   exact absurd e2 (hk i r a g1 e1).1
  ·exact hr.rinj i i' r g1 g2 e1 e2
 ·refine ⟨R2,?_,Nat.le_refl _,hy.ish,λ _=>?_⟩
  ·show (m.rw.set id R2)[id]? = _
   rw [List.getElem?_set_self hid]
  ·show QM (if id=id then ro else m.r id) (if id=id then vo else m.v id) _ _ y
   rw [if_pos rfl,if_pos rfl];exact hy
theorem Rel.others (hr:Rel N m E τ tm σ) (h0 : τ.rw[id]? = some R) {rr:Nat} (hrr:m.r id=some rr) {id' r:Nat} (h1:id'≠id) (h2:id'<m.rw.length) (h3:m.r id'=some r):r≠rr := λ he =>
 h1 (hr.rinj id' id rr h2 (by rw [hr.rw];exact getElem?_lt h0) (he▸h3) hrr)
theorem qtK {β : Type} {f:List AV->Option β}:∀ {es:List (List AV)} {l:List β},qL f es=some l->∀ (j:Nat) {e:List AV} {v : β},f e=some v->qL f (es.set j e)=some (l.set j v)
 | [],l,h,j,e,v,hv=>by cases h;rfl
 | e'::es,l,h,j,e,v,hv=>by
   obtain ⟨w,vs,h1,h2,rfl⟩:=yk.1 h
   cases j with
   | zero=>exact yk.2 ⟨v,vs,hv,h2,rfl⟩
   | succ j=>exact yk.2 ⟨w,vs.set j v,h1,qtK h2 j hv,rfl⟩
theorem qud {β : Type} {f:List AV->Option β} {e:List AV} {v : β} (h:f e=some v):∀ n:Nat,qL f (List.replicate n e)=some (List.replicate n v)
 | 0=>rfl
 | n+1=>yk.2 ⟨v,_,h,qud h n,rfl⟩
end
end Go.AmZ
