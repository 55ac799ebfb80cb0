/- Part 2 of what the proofs stand on: plain functions of the program, and that they are its functions. -/
import Derived.Test.YtinbdcelmgfniaaGreatDoorM1
set_option linter.unusedVariables false
set_option linter.unusedSimpArgs false
noncomputable section
namespace Go.AmZ
open Go Go.RowKit
theorem qzE:∀(r:List Oper) (a:List Nat),∃t,QP r a=a++t
 |[],a=>⟨[],by simp[QP]⟩
 |o::r,a=>by
   let⟨t,b⟩:=qzE r (a++[qqx a o]);grind [QP]
theorem qzz:∀(r:List Oper) (a:List Nat) (k:Nat) (o:Oper),r[k]?=some o->(QP r a).getD (a.length+k) 0=qqx ((QP r a).take (a.length+k)) o
 |[],a,k,o,h=>by simp at h
 |q::r,a,0,o,h=>by
   simp at h;subst h;let⟨t,b⟩:=qzE r (a++[qqx a q]);grind [QP]
 |q::r,a,k+1,o,h=>by
   rw[QP];have:=qzz r (a++[qqx a q]) k o (by simpa using h);grind
theorem qCM(a:List Nat)(j:Nat):∀(xs:List Nat) (m:Nat),(xs.foldl (λ m e=>m|||(2^e|||a.getD e 0)) m).testBit j=true->m.testBit j=true\/∃e∈xs,e=j\/(a.getD e 0).testBit j=true
 |[],m,h=>.inl h
 |e::xs,m,h=>by
   rw[kh]at h;obtain h|⟨c,b,h⟩:=qCM a j xs _ h
   .grind
   .grind
theorem qKX{ops:List Oper}{i j:Nat}{o:Oper}(ho:ops[i]?=some o)(h:((QP ops []).getD i 0).testBit j=true):∃e∈jw o,e=j\/(e<i/\((QP ops []).getD e 0).testBit j=true):=by
 have a:=qzz ops [] i o ho;simp only[w7,wE]at a;rw[a]at h;obtain h|⟨e,b,h⟩:=qCM _ _ _ _ h
 .simp at h
 .grind
section
variable {P:Program}{C:Cfg}{Γ:Gh}{σ:St}{w:World}{ops:Array Oper}{ex:jJ}{l:List (AV×Option St)}{s0:S}{L:Nat->Bool}
def qcg(ops:Array Oper)(L:Nat->Bool):Prop:=∀i o,ops[i]?=some o->L i=true->∀e∈jw o,L e=true
theorem qjL(hd:qcg ops L){j:Nat}:∀(i:Nat) (o:Oper),ops[i]?=some o->(∀e∈jw o,L e=true)->((QP ops.toList []).getD i 0).testBit j=true->L j=true:=by
 intro i
 induction i using Nat.strongRecOn with
 |_ i f=>
   intro o ho hp g;obtain⟨e,d,h⟩:=qKX (by simpa using ho) g;rcases h with rfl|⟨b,c⟩
   .exact hp _ d
   .have a:e<ops.size:=Nat.lt_trans b (Array.getElem?_eq_some_iff.1 ho).1;exact f e b ops[e] (Array.getElem?_eq_getElem a) (hd e _ (Array.getElem?_eq_getElem a) (hp e d)) c
theorem qih{a:Nat->Bool}{b:List AV}(h:qbw a b ops=true):(∀(j:Nat) (o:Oper),ops[j]?=some o->∀e∈jw o,e<j)/\
  ∀(i j:Nat) (o q:Oper),ops[j]?=some o->ops[i]?=some q->i≠j->qiW a b ops j o i q=true->((QP ops.toList []).getD (max i j) 0).testBit (min i j)=true:=by
 have c:∀(i:Nat) (o:Oper),ops[i]?=some o->(o,i)∈ops.toList.zipIdx:=λ i o ho=>by
  grind
 grind [qbw]
theorem qx7(hd:qcg ops L){i j:Nat}{o q:Oper}(ho:ops[j]?=some o)(d:ops[i]?=some q)(f:i≠j)(a:((QP ops.toList []).getD (max i j) 0).testBit (min i j)=true)(hL:L j=false)(hp:∀e∈jw o,L e=true):(i<j->L i=true)/\(j<i->L i=false):=by
 constructor
 .grind [Nat.max_eq_right,Nat.le_of_lt,Nat.min_eq_left,qjL]
 .intro b;rw[Nat.max_eq_left (xI b),Nat.min_eq_right (xI b)]at a;cases c:L i with
  |false=>rfl
  |true=>
    have:=qjL hd i q d (hd i q d c) a;rw[hL]at this;cases this
theorem ord{a:Nat->Bool}{c:List AV}(hk:qbw a c ops=true)(hd:qcg ops L){i j:Nat}{o q:Oper}(ho:ops[j]?=some o)(d:ops[i]?=some q)(b:i≠j)(f:qiW a c ops j o i q=true)(hL:L j=false)(hp:∀e∈jw o,L e=true):(i<j->L i=true)/\(j<i->L i=false):=by
 exact qx7 hd ho d b ((qih hk).2 i j o q ho d b f) hL hp
structure qdb (C:Cfg) (ex:jJ) (ops:Array Oper) (l:List (AV×Option St)) (s0:S):Prop where
 st:∀(i:Nat) (o:Oper),ops[i]?=some o->∃y,l[i]?=some y/\qa9 C ex ops o (F ops.toList l s0 qp i) y/\(y.2.isSome=true->zm C.lo o.op=true)
 sp:∀(i:Nat) (o:Oper) (y:AV×Option St),ops[i]?=some o->l[i]?=some y->y.2.isSome=true->qcv C ops i (F ops.toList l s0 qp i).tm (F ops.toList l s0 qp i).σ o.op=true
theorem qqq(d:∀(i:Nat) (o:Oper),ops.toList[i]?=some o->∃y,l[i]?=some y/\qa9 C ex ops o (F ops.toList l s0 qp i) y/\(y.2.isSome=true->zm C.lo o.op=true))
  (c:∀(i:Nat) (o:Oper) (y:AV×Option St),ops.toList[i]?=some o->l[i]?=some y->y.2.isSome=true->qcv C ops (ops.size-(ops.toList.length-i)) (F ops.toList l s0 qp i).tm (F ops.toList l s0 qp i).σ o.op=true):qdb C ex ops l s0:=
 ⟨λ i o ho=>d i o (by simpa using ho),λ i o y ho a b=>by
  have:=c i o y (by simpa using ho) a b;have e:i<ops.size:=(Array.getElem?_eq_some_iff.1 ho).1
  rwa [wM,show ops.size-(ops.size-i)=i by omega]at this⟩
def qtM(C:Cfg)(ops:Array Oper)(l:List (AV×Option St)):Prop:=
 ∀(i:Nat) (o:Oper),ops[i]?=some o->∃y,l[i]?=some y/\(y.2.isSome=true->zm C.lo o.op=true)
theorem qdb.recd(h:qdb C ex ops l s0):qtM C ops l:=λ i o ho=>let⟨y,h1,_,h3⟩:=h.st i o ho;⟨y,h1,h3⟩
theorem qlh(s:S)(o:Oper)(y:AV×Option St)(t:Nat)(h:o.dst≠some t):(yb s o y).tm.getD t .dead=s.tm.getD t .dead:=by
 unfold yb;cases hd:o.dst with
 |none=>rfl
 |some d=>
   show(s.tm.set d y.1).getD t .dead=_;grind
theorem qKk(s:S)(o:Oper)(y:AV×Option St):(yb s o y).tm.length=s.tm.length:=by
 unfold yb;cases hd:o.dst with
 |none=>rfl
 |some d=>exact wH ..
theorem qrS(s:S)(o:Oper)(y:AV×Option St)(t:Nat)(h:o.dst=some t):(yb s o y).tm.getD t .dead=if t<s.tm.length then y.1 else .dead:=by
 unfold yb;rw[h];show(s.tm.set t y.1).getD t .dead=_;grind
theorem putS_σ(s:S)(o:Oper)(y:AV×Option St)(h:y.2=none):(yb s o y).σ=s.σ:=by
 unfold yb;rw[h];rfl
theorem qHO(s:S)(o q:Oper)(y z:AV×Option St)(hd:∀d,q.dst=some d->o.dst≠some d)(a:y.2=none\/z.2=none):yb (yb s o y) q z=yb (yb s q z) o y:=by
 unfold yb;simp only;congr 1
 .cases ho:o.dst with
  |none=>rfl
  |some d=>
    cases b:q.dst with
    |none=>rfl
    |some e=>
      show(s.tm.set d y.1).set e z.1=(s.tm.set e z.1).set d y.1;grind [List.set_comm]
 .obtain h|h:=a
  .rw[h];rfl
  .rw[h];rfl
theorem Jq(hT:qtM C ops l){k:Nat}{q:Oper}(a:ops[k]?=some q):∃y,l[k]?=some y/\(y.2.isSome=true->zm C.lo q.op=true)/\∀L,F ops.toList l s0 L (k+1)=if L k=true then yb (F ops.toList l s0 L k) q y else F ops.toList l s0 L k:=by
 let⟨y,c,b⟩:=hT k q a;grind [F]
theorem qAF(L:Nat->Bool):∀k,(F ops.toList l s0 L k).tm.length=s0.tm.length
 |0=>rfl
 |k+1=>by
   simp only[F];split
   .rw[qKk];exact qAF L k
   .exact qAF L k
theorem qAv{a:Nat->Bool}:∀k,(∀i,i<k->L i=a i)->F ops.toList l s0 L k=F ops.toList l s0 a k
 |0,_=>rfl
 |k+1,h=>by
   simp only[F];rw[qAv k λ i b=>h i (by omega),h k (by omega)]
theorem jf{k:Nat}(h:k<ops.size):∃q,ops[k]?=some q:=⟨ops[k],Array.getElem?_eq_getElem h⟩
theorem qle{t:Tmp}(h:qdo ops.toList t=[]){k:Nat}{q:Oper}(a:ops[k]?=some q):q.dst≠some t:=by
 intro hd;have b:(q,k)∈ops.toList.zipIdx:=by rw[xd];simpa using a
 have:(q,k)∈qdo ops.toList t:=kN.2 ⟨b,by simp[ql8,hd]⟩;rw[h]at this;cases this
theorem qs4{t:Tmp}{o:Oper}{i:Nat}(h:qdo ops.toList t=[(o,i)]):ops[i]?=some o/\o.dst=some t/\∀(k:Nat) (q:Oper),ops[k]?=some q->k≠i->q.dst≠some t:=by
 have e:(o,i)∈qdo ops.toList t:=by rw[h];exact wF.2 rfl
 let⟨a,f⟩:=kN.1 e;rw[xd]at a;refine⟨by simpa using a,?_,λ k q b c hd=>?_⟩
 .grind [ql8,Nat.eq_of_beq_eq_true]
 .have d:(q,k)∈ops.toList.zipIdx:=by rw[xd];simpa using b
  have:(q,k)∈qdo ops.toList t:=kN.2 ⟨d,by simp[ql8,hd]⟩;grind
theorem qiK(hT:qtM C ops l){t:Tmp}{a b:Nat}(h:∀k q,a<=k->ops[k]?=some q->q.dst≠some t):a<=b->b<=ops.size->(F ops.toList l s0 L b).tm.getD t .dead=(F ops.toList l s0 L a).tm.getD t .dead:=by
 intro f
 induction b with
 |zero=>
   grind
 |succ b i=>
   intro d;by_cases e:a=b+1
   .rw[e]
   .obtain⟨q,c⟩:=jf (ops:=ops) (k:=b) (by omega);obtain⟨y,_,_,g⟩:=Jq hT c;rw[g];grind [qlh]
theorem qoG(hT:qdb C ex ops l s0){k:Nat}{t:Tmp}{b:Nat}(hk:k<=ops.size)(h:yS s0.tm ops k t=some b):(∃ o,(F ops.toList l s0 qp k).tm.getD t .dead = .ptr b o)\/(F ops.toList l s0 qp k).tm.getD t .dead = .tup []\/(F ops.toList l s0 qp k).tm.getD t .dead = .dead:=by
 unfold yS at h;split at h
 case h_2=>cases h
 rename_i u hu;split at h<;>cases h;rename_i off hb
 have key:∀(n k:Nat) (t:Tmp),k<=ops.size->qlF ops n k t=some u->(∃ o,(F ops.toList l s0 qp k).tm.getD t .dead = .ptr b o)\/(F ops.toList l s0 qp k).tm.getD t .dead = .tup []\/(F ops.toList l s0 qp k).tm.getD t .dead = .dead:=by
  intro n
  induction n with
  | zero=>intro k t _ h;cases h
  | succ n ih =>
    intro k t hk hu;rw[qlF]at hu;split at hu
    ·rename_i hw;cases hu;left;refine⟨off,?_⟩;rw[qiK hT.recd (a:=0) (λ k q _ hq=>qle hw hq) (we _) hk];exact hb
    ·rename_i o i hw;obtain⟨ho,hd,hother⟩:=qs4 hw;split at hu
     case h_2=>cases hu
     rename_i u' hop hik;have hik:=of_decide_eq_true hik;have hsz:i<ops.size:=(Array.getElem?_eq_some_iff.1 ho).1;have hv:=ih i u' (by omega) hu;rw[qiK hT.recd (a:=i+1) (λ k q hle hq=>hother k q hq (by omega)) (by omega) hk];obtain⟨y,h1,h2,_⟩:=hT.st i o ho;obtain⟨z,h3,_,hF⟩:=Jq hT.recd ho;rw[h1]at h3;cases h3;rw[hF,if_pos (show qp i=true from rfl),qrS _ _ _ _ hd];split
     ·rcases h2 with⟨_,h2⟩ | ⟨_,h2⟩
      ·unfold qLv at hop;split at hop<;>cases hop
       ·rename_i e;rw[e]at h2;simp only[opA,qc]at h2;split at h2<;>try cases h2
        split at h2<;>try cases h2
        split at h2<;>try cases h2
        have hav:aev (F ops.toList l s0 qp i).tm (.tmp u')=(F ops.toList l s0 qp i).tm.getD u' .dead:=rfl;rw[hav]at h2;rcases hv with⟨o',hv⟩ | hv | hv<;>rw[hv]at h2<;>cases h2
        exact .inl ⟨_,rfl⟩
       ·rename_i e;rw[e]at h2;cases h2;exact hv
       ·rename_i e;rw[e]at h2;cases h2;exact hv
       ·rename_i e;rw[e]at h2;simp only[opA,qc]at h2;have hav:aev (F ops.toList l s0 qp i).tm (.tmp u')=(F ops.toList l s0 qp i).tm.getD u' .dead:=rfl;rw[hav]at h2;rcases hv with⟨o',hv⟩ | hv | hv<;>rw[hv]at h2<;>cases h2
        exact .inl ⟨_,rfl⟩
      ·rw[h2];exact .inr (.inl rfl)
     ·exact .inr (.inr rfl)
    ·cases hu
 exact key 6 k t hk hu
theorem qL1(hT:qdb C ex ops l s0){k i:Nat}{t:Tmp}{b:Nat}(hk:k<=ops.size)(h:yS s0.tm ops i t=some b):yS (F ops.toList l s0 qp k).tm ops i t=some b:=by
 unfold yS at h |-
 split at h
 case h_2=>cases h
 rename_i u hu
 have key:∀(n i:Nat) (t:Tmp),qlF ops n i t=some u->qdo ops.toList u=[]:=by
  intro n
  induction n with
  | zero=>intro i t h;cases h
  | succ n ih =>
    intro i t h;rw[qlF]at h;split at h
    ·rename_i hw;cases h;exact hw
    ·split at h
     ·exact ih _ _ h
     ·cases h
    ·cases h
 rw[qiK hT.recd (a:=0) (λ k q _ hq=>qle (key 6 i t hu) hq) (we _) hk];exact h
theorem qJU(hT:qdb C ex ops l s0){k:Nat}{t:Tmp}(hk:k<=ops.size)(h:qdc s0.tm ops k t=true):qKe ((F ops.toList l s0 qp k).tm.getD t .dead)=true\/(F ops.toList l s0 qp k).tm.getD t .dead = .tup []\/(F ops.toList l s0 qp k).tm.getD t .dead = .dead:=by
 unfold qdc at h;split at h
 case h_2=>cases h
 rename_i u hu
 have key:∀(n k:Nat) (t:Tmp),k<=ops.size->qlF ops n k t=some u->qKe ((F ops.toList l s0 qp k).tm.getD t .dead)=true\/(F ops.toList l s0 qp k).tm.getD t .dead = .tup []\/(F ops.toList l s0 qp k).tm.getD t .dead = .dead:=by
  intro n
  induction n with
  | zero=>intro k t _ h;cases h
  | succ n ih =>
    intro k t hk hu;rw[qlF]at hu;split at hu
    ·rename_i hw;cases hu;left;rw[qiK hT.recd (a:=0) (λ k q _ hq=>qle hw hq) (we _) hk];exact h
    ·rename_i o i hw;obtain⟨ho,hd,hother⟩:=qs4 hw;split at hu
     case h_2=>cases hu
     rename_i u' hop hik;have hik:=of_decide_eq_true hik;have hsz:i<ops.size:=(Array.getElem?_eq_some_iff.1 ho).1;have hv:=ih i u' (by omega) hu;rw[qiK hT.recd (a:=i+1) (λ k q hle hq=>hother k q hq (by omega)) (by omega) hk];obtain⟨y,h1,h2,_⟩:=hT.st i o ho;obtain⟨z,h3,_,hF⟩:=Jq hT.recd ho;rw[h1]at h3;cases h3;rw[hF,if_pos (show qp i=true from rfl),qrS _ _ _ _ hd];split
     ·rcases h2 with⟨_,h2⟩ | ⟨_,h2⟩
      ·unfold qLv at hop;split at hop<;>cases hop
       ·rename_i e;rw[e]at h2;simp only[opA,qc]at h2;split at h2<;>try cases h2
        split at h2<;>try cases h2
        split at h2<;>try cases h2
        have hav:aev (F ops.toList l s0 qp i).tm (.tmp u')=(F ops.toList l s0 qp i).tm.getD u' .dead:=rfl;rw[hav]at h2;rcases hv with hv | hv | hv
        ·cases hg:(F ops.toList l s0 qp i).tm.getD u' .dead<;>rw[hg]at hv h2<;>first | (cases hv;done) | (cases h2;exact .inl rfl)
        ·rw[hv]at h2;cases h2
        ·rw[hv]at h2;cases h2
       ·rename_i e;rw[e]at h2;cases h2;exact hv
       ·rename_i e;rw[e]at h2;cases h2;exact hv
       ·rename_i e;rw[e]at h2;simp only[opA,qc]at h2;have hav:aev (F ops.toList l s0 qp i).tm (.tmp u')=(F ops.toList l s0 qp i).tm.getD u' .dead:=rfl;rw[hav]at h2;rcases hv with hv | hv | hv
        ·cases hg:(F ops.toList l s0 qp i).tm.getD u' .dead<;>rw[hg]at hv h2<;>first | (cases hv;done) | (cases h2;exact .inl rfl)
        ·rw[hv]at h2;cases h2
        ·rw[hv]at h2;cases h2
      ·rw[h2];exact .inr (.inl rfl)
     ·exact .inr (.inr rfl)
    ·cases hu
 exact key 6 k t hk hu
theorem qpB{b:Nat->Bool}{o:Oper}{t:TypeId}{a:Operand}(h:o.op=.load t a):zm b o.op=false:=by rw[h];rfl
theorem qwD{b:List AV}{j i:Nat}{o q:Oper}(c:zm C.lo q.op=true)(ho:∀t a,o.op=.load t (.tmp a)->yS b ops j a=none/\qdc b ops j a=false):qfz b ops j o i q=false:=by
 grind [qfz,qiC,Bool.or_eq_false_iff,qpB]
theorem quE{b:List AV}{j i:Nat}{o q:Oper}{t:TypeId}{a:Tmp}(ho:o.op=.load t (.tmp a))(h:qfz b ops j o i q=true):(∃e c v x,q.op=.store e (.tmp c) v/\yS b ops i c=some x/\((∃y,yS b ops j a=some y/\x≠y)\/yS b ops j a=none/\qdc b ops j a=true))\/yS b ops j a≠none/\(∃as ts,q.op=.call ⟨.builtin .append,as,ts⟩)\/yS b ops j a≠none/\∃g as ts,q.op=.call ⟨.value g,as,ts⟩:=by
 unfold qfz at h;rw[wS]at h;obtain h|h:=h
 .grind [qiC]
 .unfold qiC at h;split at h
  .rename_i r u n p s m d;rw[ho]at d;cases d;split at h
   .rename_i x y k f;exact .inl ⟨_,_,_,x,m,k,.inl ⟨y,f,λ l=>by rw[l]at h;simp at h⟩⟩
   .grind
   .cases h
  .grind
  .grind
  .cases h
theorem qlP{a:Nat->Bool}{op:Op}(h:zm a op=true):qlL a op=false:=by
 unfold zm at h;unfold qlL;grind
theorem qzd{a:Nat->Bool}{b:List AV}{j i:Nat}{o q:Oper}(d:zm a o.op=true)(c:zm a q.op=true):qiW a b ops j o i q=true:=by
 have e:qfz b ops j o i q=false:=by
  grind [qfz,qiC,qpB,Bool.or_eq_false_iff]
 simp only[qiW,qoE,qk5,d,c,qlP d,qlP c,e,xH,xu,xi,xL]
theorem qAW{a:Nat->Bool}(h:qce a ops=true):∀(i j:Nat) (o q:Oper),ops[j]?=some o->ops[i]?=some q->i≠j->qoQ a ops o q=true->((QP ops.toList []).getD (max i j) 0).testBit (min i j)=true:=by
 have b:∀(i:Nat) (o:Oper),ops[i]?=some o->(o,i)∈ops.toList.zipIdx:=λ i o ho=>by
  grind
 simp only[qce,wo,wb,decide_eq_true_eq,wS,wL]at h;grind
theorem qj0{a:Nat->Bool}{b:List AV}(h:qbw a b ops=true):qce a ops=true:=by
 simp only[qbw,wo,wb,decide_eq_true_eq,wS,wL]at h;simp only[qce,wo,wb,decide_eq_true_eq,wS,wL];intro p hp;let⟨e,d⟩:=h p hp;refine⟨e,λ q c=>?_⟩;obtain (g|g)|g:=d q c
 .exact .inl (.inl g)
 .refine .inl (.inr ?_);unfold qoQ;grind [qiW,Bool.or_eq_false_iff,qzd]
 .exact .inr g
theorem qJE{a:Nat->Bool}(hk:qce a ops=true)(hd:qcg ops L){i j:Nat}{o q:Oper}(ho:ops[j]?=some o)(c:ops[i]?=some q)(b:i≠j)(d:qoQ a ops o q=true)(hL:L j=false)(hp:∀e∈jw o,L e=true):(i<j->L i=true)/\(j<i->L i=false):=
 qx7 hd ho c b (qAW hk i j o q ho c b d) hL hp
def qff(σ:St)(b:Nat):Option (List AV):=match σ.bx[b]? with
 |some cs=>match noMc cs with
   |true=>some cs
   |false=>none
 |none=>none
def qou(σ:St):List Row×(Nat->Option (List AV)):=(σ.rw,qff σ)
theorem qxF{s:S}{op:Op}{x:AV}{σ':St}(a:qrC op=true)(h:opA C ex s.tm s.σ op=some (x,some σ')):qou σ'=qou s.σ:=by
 unfold qrC at a;split at a<;>try cases a
 rename_i t q;cases q with
 |some q=>simp only[opA,qc]at h;cases h
 |none=>
   simp only[opA,qc]at h;split at h<;>cases h;refine Prod.ext rfl (funext λ b=>?_);rename_i d e c i g _;show qff {s.σ with bx:=s.σ.bx++[[.mc d e c [] []]]} b=qff s.σ b;unfold qff;by_cases f:b<s.σ.bx.length
   .grind
   .rw[List.getElem?_append_right (by omega),List.getElem?_eq_none (l:=s.σ.bx) (by omega)];cases b-s.σ.bx.length<;>rfl
theorem qtz{d:TD}{σ:St}{b o:Nat}:ju d σ (.ptr b o)=match qff σ b with|some cs=>qcu d.agg d.size cs o|none=>none:=by
 simp only[ju,qff];grind
theorem qI6{d:TD}{σ σ':St}{p:AV}(h:qou σ'=qou σ):ju d σ' p=ju d σ p:=by
 have c:σ'.rw=σ.rw:=congrArg Prod.fst h;have a:qff σ'=qff σ:=congrArg Prod.snd h;cases p with
 |ptr b o=>rw[qtz,qtz,a]
 |rpt r i o e=>simp only[ju,c]
 |_=>rfl
theorem qEW{a:List AV}{σ σ':St}{t:TypeId}{x i:Operand}(h:σ'.rw=σ.rw):qc C a σ' (.indexAddr t x i)=qc C a σ (.indexAddr t x i):=by
 simp only[qc,h]
mutual
theorem qIX(fb fr:Nat->Nat):∀x:AV,rb (ren fb fr x)=[]->rr (ren fb fr x)=[]->rb x=[]/\rr x=[]
 |.ptr b o,h,_|.mp b,h,_=>by simp[ren,rb]at h
 |.rs ..,_,h|.rpt ..,_,h=>by simp[ren,rr]at h
 |.fn f cs,h,g|.agg cs,h,g|.tup cs,h,g=>qr1 fb fr cs h g
 |.v _,_,_|.dead,_,_|.sl ..,_,_|.ept ..,_,_|.mc ..,_,_=>⟨rfl,rfl⟩
theorem qr1(fb fr:Nat->Nat):∀cs:List AV,rbL (qX fb fr cs)=[]->rrL (qX fb fr cs)=[]->rbL cs=[]/\rrL cs=[]
 |[],_,_=>⟨rfl,rfl⟩
 |x::cs,h,g=>by
   rw[qX,rbL,wY]at h;rw[qX,rrL,wY]at g;let⟨d,c⟩:=qIX fb fr x h.1 g.1;let⟨b,a⟩:=qr1 fb fr cs h.2 g.2;grind [rbL,rrL]
end
theorem qv8{σ σ':St}{a:List AV}{c:St->List AV->Option (AV×Option St)}{r:AV}(m:rbL a=[])(l:rrL a=[])(s:js r=true)(h:Qk σ a c=some (r,none)):Qk σ' a c=some (r,none):=by
 have i:∀τ:St,jZ τ a=[]:=λ τ=>by
  unfold jZ;rw[m];show qlr τ.bx τ.bx.length []=[];cases τ.bx.length<;>rfl
 have j:∀τ:St,qbf τ a=[]:=λ τ=>by
  unfold qbf;rw[i,l];rfl
 have p:∀τ:St,qfA τ a=true:=λ τ=>by
  unfold qfA;rw[i,j,m,l];rfl
 unfold Qk at h |-
 rw[p]at h |-
 rw[i,j]at h |-
 simp only at h |-
 have e:qI σ' [] []=qI σ [] []:=rfl;rw[e];cases k:c (qI σ [] []) (qX (λ b=>List.idxOf b []) (λ r=>List.idxOf r []) a)with
 |none=>rw[k]at h;cases h
 |some n=>
 rw[k]at h;let⟨x,o⟩:=n;cases o with
 |some τ=>cases h
 |none=>
   simp only[qfR,wz,wI,and_true]at h
   have q:∀(fb fr f d:Nat->Nat),js (ren fb fr x)=true->ren fb fr x=ren f d x:=λ fb fr f d g=>by
    have g:=g;unfold js at g;rw[wb,xg,xg]at g;grind [qIX,qqa]
   grind [qfR]
theorem qIc{σ σ':St}{f:Nat}{b:List AV}{x:AV}(y:C.lo f=false)(h:σ'.rw=σ.rw)(e:qdf C ex σ f b=some (x,none)):qdf C ex σ' f b=some (x,none):=by
 unfold qdf at e |-
 rw[y]at e |-
 simp only at e |-
 rw[h];split at e<;>try cases e
 rename_i m d;split at e<;>try cases e
 rename_i D E c;split at e<;>cases e;rename_i i
 have p:rbL (b.map (jg σ.rw))=[]/\rrL (b.map (jg σ.rw))=[]:=by
  generalize b.map (jg σ.rw)=l at d
  induction l with
  |nil=>exact⟨rfl,rfl⟩
  |cons a l u=>
    simp only[noRefs,km,wb]at d;have g:=d.1;unfold js at g;rw[wb,xg,xg]at g;let⟨w,v⟩:=u d.2;exact⟨by rw[rbL,g.1,w];rfl,by rw[rrL,g.2,v];rfl⟩
 have r:qbp C ex σ' f b=some (x,none):=by
  unfold qbp qgy at c |-
  rw[m]at c |-
  simp only at c |-
  rw[h];cases k:b.flatMap rsA with
  |nil=>
    rw[k]at c;exact qv8 p.1 p.2 i c
  |cons q l=>
    rw[k]at c;simp only at c |-
    have n:∀o,Qk {σ with rw:=frz σ.rw (q::l),wrr:=(q::l)++σ.wrr} (b.map (jg σ.rw)) (λ σ b=>qby C ex σ f b)=some (o,none)->js o=true->Qk {σ' with rw:=frz σ.rw (q::l),wrr:=(q::l)++σ'.wrr} (b.map (jg σ.rw)) (λ σ b=>qby C ex σ f b)=some (o,none):=λ o e1 A=>qv8 p.1 p.2 A e1;cases j:Qk {σ with rw:=frz σ.rw (q::l),wrr:=(q::l)++σ.wrr} (b.map (jg σ.rw)) (λ σ b=>qby C ex σ f b)with
    |none=>rw[j]at c;cases c
    |some z=>
      rw[j]at c;let⟨B,t⟩:=z;cases t with
      |some τ=>cases c
      |none=>
        simp only[qnE]at c;split at c<;>cases c;rename_i s;rw[n _ j i];simp only[qnE,s]
 rw[r];simp only[i]
theorem qIg{b:List AV}{σ σ':St}{op:Op}{x:AV}(c:qlL C.lo op=true)(e:qou σ'=qou σ)(h:opA C ex b σ op=some (x,none)):opA C ex b σ' op=some (x,none):=by
 have d:σ'.rw=σ.rw:=congrArg Prod.fst e;unfold qlL at c;split at c<;>try cases c
 .rename_i t a;simp only[opA,qc]at h |-
  grind [qI6]
 .rename_i t a i;have h:qc C b σ (.indexAddr t a i)=some (x,none):=h;show qc C b σ' (.indexAddr t a i)=some (x,none);rw[qEW d];exact h
 .grind [opA,qgs,aev,Bool.not_eq_true',qIc]
theorem qv4{f:Type}:∀(a:List Nat) (l xs:List f) (b:Nat),b<l.length->b ∉ a->(zU l a xs)[b]?=l[b]?
 |[],l,xs,b,d,_=>by rw[zU,List.getElem?_append_left d]
 |c::a,l,[],b,d,_=>rfl
 |c::a,l,x::xs,b,d,e=>by
   rw[zU,qv4 a _ xs b (by rw[wH];exact d) λ h=>e (wg _ h),List.getElem?_set_ne λ h=>e (by rw[h];exact wi ..)]
theorem qLT{j:List AV}{σ σ':St}{g:Operand}{as:Array Operand}{ts:Array TypeId}{x:AV}(h:opA C ex j σ (.call ⟨.value g,as,ts⟩)=some (x,some σ')){b:Nat}(l:b<σ.bx.length)(c:b ∉ qvM C j σ (.call ⟨.value g,as,ts⟩)):σ'.bx[b]?=σ.bx[b]?:=by
 simp only[opA]at h;simp only[qvM]at c;split at h<;>try cases h
 rename_i f d s;rw[s]at c;have c:b ∉ (match C.inl f with|some _=>List.range σ.bx.length|none=>match qgy C σ f (as.toList.map (aev j)++d)with|(a,none)=>jZ σ a|(a,some σ')=>jZ σ' a):=c;obtain⟨fn,y,_⟩|h:=qo7 h
 .grind
 cases k:C.inl f with
 |some fn=>rw[k]at c;exact absurd (kP.2 l) c
 |none=>
 rw[k]at c;have c:b ∉ (match qgy C σ f (as.toList.map (aev j)++d)with|(a,none)=>jZ σ a|(a,some σ')=>jZ σ' a):=c
 have m:∀{τ i:St}{a:List AV}{e:St->List AV->Option (AV×Option St)}{z:AV},Qk τ a e=some (z,some i)->b<τ.bx.length->b ∉ jZ τ a->i.bx[b]?=τ.bx[b]?:=by
  intro τ i a e z h l c;unfold Qk at h;split at h<;>try cases h
  split at h<;>try cases h
  rename_i r v;let⟨u,q⟩:=r;cases q with
  |none=>simp[qfR]at h
  |some n=>
    simp only[qfR,wz,wI]at h;rw[<-h.2];exact qv4 _ _ _ _ l c
 unfold qbp at h;generalize w:qgy C σ f (as.toList.map (aev j)++d)=p at h c;let⟨a,o⟩:=p;cases o with
 |none=>exact m h l c
 |some σ1=>
   have t:σ1.bx=σ.bx:=by
    grind [qgy]
   have c:b ∉ jZ σ1 a:=c;simp only at h;unfold qnE at h;grind
theorem qII{s:S}{q:Oper}{as:Array Operand}{ts:Array TypeId}{x:AV}{σ':St}(c:q.op=.call ⟨.builtin .append,as,ts⟩)(h:opA C ex s.tm s.σ q.op=some (x,some σ')):σ'.bx=s.σ.bx:=by
 rw[c]at h;simp only[opA]at h;generalize as.toList.map (aev s.tm)=b at h
 have a:∀k bytes p xs,yc k bytes s.σ p xs=some (x,some σ')->σ'.bx=s.σ.bx:=by
  intro k bytes p xs h;unfold yc at h;grind
 unfold jo at h;split at h<;>try cases h
 all_goals repeat' (first|(cases h;done)|exact a _ _ _ _ h|split at h)
theorem qhU{s:S}{q:Oper}{t:TypeId}{c:Tmp}{v:Operand}{x:AV}{σ':St}(j:q.op=.store t (.tmp c) v)(h:opA C ex s.tm s.σ q.op=some (x,some σ')):(∃b o,s.tm.getD c .dead=.ptr b o/\σ'.rw=s.σ.rw/\∀a,a≠b->σ'.bx[a]?=s.σ.bx[a]?)\/∃r i o g,s.tm.getD c .dead=.rpt r i o g:=by
 rw[j]at h;simp only[opA,qc]at h;split at h<;>try cases h
 .rename_i d b o hd f;split at h<;>try cases h
  split at h<;>cases h;exact .inl ⟨b,o,f,rfl,λ a e=>by simp only[List.getElem?_set_ne (xU e)]⟩
 .rename_i d r i o g hd f;exact .inr ⟨r,i,o,g,f⟩
section
variable (hR:qtM C ops l) (hk:qce C.lo ops=true) (hd:qcg ops L) {j:Nat}{o:Oper} (ho:ops[j]?=some o) (hL:L j=false) (hp:∀e∈jw o,L e=true)
include hR hk hd ho hL hp
theorem qlE{t:Nat}(r:t∈qa5 ops o):(F ops.toList l s0 L ops.size).tm.getD t .dead=(F ops.toList l s0 qp j).tm.getD t .dead:=by
 have u:j<ops.size:=(Array.getElem?_eq_some_iff.1 ho).1
 have f:∀{k:Nat}{q:Oper},ops[k]?=some q->k≠j->q.dst=some t->(k<j->L k=true)/\(j<k->L k=false):=λ c n a=>
  qJE hk hd ho c n (by simp[qoQ,a,r]) hL hp
 have i:∀k,k<=j->(F ops.toList l s0 L k).tm.getD t .dead=(F ops.toList l s0 qp k).tm.getD t .dead:=by
  intro k
  induction k with
  |zero=>intro _;rfl
  |succ k d=>
    intro p;obtain⟨q,c⟩:=jf (ops:=ops) (k:=k) (by omega);obtain⟨y,_,_,g⟩:=Jq hR c;rw[g L,g qp,if_pos (show qp k=true from rfl)];by_cases a:q.dst=some t
    .rw[if_pos ((f c (by omega) a).1 (by omega)),qrS _ _ _ _ a,qrS _ _ _ _ a,qAF,qAF]
    .rw[qlh _ _ _ _ a];split
     .rw[qlh _ _ _ _ a];exact d (by omega)
     .exact d (by omega)
 have e:∀m,j+m<=ops.size->(F ops.toList l s0 L (j+m)).tm.getD t .dead=(F ops.toList l s0 L j).tm.getD t .dead:=by
  intro m
  induction m with
  |zero=>intro _;rfl
  |succ m d=>
    intro p;obtain⟨q,c⟩:=jf (ops:=ops) (k:=j+m) (by omega);obtain⟨y,_,_,g⟩:=Jq hR c;show(F ops.toList l s0 L (j+m+1)).tm.getD t .dead=_;rw[g L];split
    .rename_i b;have s:m≠0:=λ h=>by subst h;rw[wQ,hL]at b;cases b
     rw[qlh _ _ _ _ λ a=>by have:=(f c (by omega) a).2 (by omega);rw[this]at b;cases b];exact d (by omega)
    .exact d (by omega)
 have:=e (ops.size-j) (by omega);rw[show j+(ops.size-j)=ops.size by omega]at this;rw[this,i j (wa _)]
theorem qFK{y:AV×Option St}(p:l[j]?=some y)(n:y.2.isSome=true->zm C.lo o.op=true):F ops.toList l s0 (λ i=>decide (i=j)||L i) ops.size=yb (F ops.toList l s0 L ops.size) o y:=by
 have E:j<ops.size:=(Array.getElem?_eq_some_iff.1 ho).1;have f:∀k,k≠j->(decide (k=j)||L k)=L k:=λ k hk=>by simp[hk]
 have h:F ops.toList l s0 (λ i=>decide (i=j)||L i) j=F ops.toList l s0 L j:=qAv j λ i G=>f i (by omega)
 have b:∀m,j+1+m<=ops.size->F ops.toList l s0 (λ i=>decide (i=j)||L i) (j+1+m)=yb (F ops.toList l s0 L (j+1+m)) o y:=by
  intro m
  induction m with
  |zero=>
    intro _;obtain⟨z,g,_,c⟩:=Jq hR ho;rw[p]at g;cases g;show F _ _ _ _ (j+1)=yb (F _ _ _ _ (j+1)) o y;rw[c,c,if_pos (by simp),h,hL];simp
  |succ m x=>
    intro B;obtain⟨q,s⟩:=jf (ops:=ops) (k:=j+1+m) (by omega);obtain⟨z,_,D,c⟩:=Jq hR s;show F _ _ _ _ (j+1+m+1)=yb (F _ _ _ _ (j+1+m+1)) o y;rw[c,c];have e:=f (j+1+m) (by omega);rw[e,x (by omega)];split
    .rename_i a;refine qHO _ _ _ _ _ (λ d r t=>?_) ?_
     .have:=(qJE hk hd ho s (by omega) (by simp[qoQ,r,qa5,t]) hL hp).2 (by omega);rw[this]at a;cases a
     .cases A:y.2 with
      |none=>exact .inl rfl
      |some σ1=>
        cases g:z.2 with
        |none=>exact .inr rfl
        |some w=>
          have:=(qJE hk hd ho s (by omega) (by
           have v:=n (by rw[A];rfl);have u:=D (by rw[g];rfl);simp only[qoQ,v,u,kS,xu]) hL hp).2 (by omega)
          rw[this]at a;cases a
    .rfl
 have:=b (ops.size-(j+1)) (by omega);grind
end
variable (hT:qdb C ex ops l s0) (hk:qbw C.lo s0.tm ops=true) (hd:qcg ops L) {j:Nat}{o:Oper} (ho:ops[j]?=some o) (hL:L j=false) (hp:∀e∈jw o,L e=true)
include hT hk hd ho hL hp
theorem qGp(w:(jV o.op||zm C.lo o.op)=true)(r:qlL C.lo o.op=false)(u:∀t a,o.op=.load t (.tmp a)->yS s0.tm ops j a=none/\qdc s0.tm ops j a=false):(F ops.toList l s0 L ops.size).σ=(F ops.toList l s0 qp j).σ:=by
 have z:j<ops.size:=(Array.getElem?_eq_some_iff.1 ho).1
 have i:∀{k:Nat}{q:Oper},ops[k]?=some q->k≠j->zm C.lo q.op=true->(k<j->L k=true)/\(j<k->L k=false):=λ d s e=>
  ord hk hd ho d s (by simp only[qiW,qoE,qk5,e,w,r,qwD e u,xH,xi,xu,xL]) hL hp
 have p:∀k,k<=j->(F ops.toList l s0 L k).σ=(F ops.toList l s0 qp k).σ:=by
  intro k
  induction k with
  |zero=>intro _;rfl
  |succ k f=>
    intro v;obtain⟨q,d⟩:=jf (ops:=ops) (k:=k) (by omega);obtain⟨y,_,e,n⟩:=Jq hT.recd d;rw[n L,n qp,if_pos (show qp k=true from rfl)];cases c:y.2 with
    |none=>
      rw[putS_σ _ _ _ c];split
      .rw[putS_σ _ _ _ c];exact f (by omega)
      .exact f (by omega)
    |some σ'=>
      rw[if_pos ((i d (by omega) (e (by rw[c];rfl))).1 (by omega))];simp[yb,c,turn]
 have g:∀m,j+m<=ops.size->(F ops.toList l s0 L (j+m)).σ=(F ops.toList l s0 L j).σ:=by
  intro m
  induction m with
  |zero=>intro _;rfl
  |succ m f=>
    intro v;obtain⟨q,d⟩:=jf (ops:=ops) (k:=j+m) (by omega);obtain⟨y,_,e,n⟩:=Jq hT.recd d;show(F ops.toList l s0 L (j+m+1)).σ=_;rw[n L];split
    .rename_i b;have x:m≠0:=λ h=>by subst h;rw[wQ,hL]at b;cases b
     cases c:y.2 with
     |none=>rw[putS_σ _ _ _ c];exact f (by omega)
     |some σ'=>
       have:=(i d (by omega) (e (by rw[c];rfl))).2 (by omega);rw[this]at b;cases b
    .exact f (by omega)
 have:=g (ops.size-j) (by omega);rw[show j+(ops.size-j)=ops.size by omega]at this;rw[this,p j (wa _)]
omit hp in
theorem qqX{Q:Type}(c:St->Q)(I:zm C.lo o.op=false)
  (g:∀{k:Nat}{q:Oper}{y:AV×Option St}{σ':St},ops[k]?=some q->l[k]?=some y->k≠j->y.2=some σ'->zm C.lo q.op=true->
   ((k<j->L k=true)/\(j<k->L k=false))\/c σ'=c (F ops.toList l s0 qp k).σ):c (F ops.toList l s0 L ops.size).σ=c (F ops.toList l s0 qp j).σ:=by
 have W:j<ops.size:=(Array.getElem?_eq_some_iff.1 ho).1
 have E:∀k,k<=j->c (F ops.toList l s0 L k).σ=c (F ops.toList l s0 qp k).σ:=by
  intro k
  induction k with
  |zero=>intro _;rfl
  |succ k u=>
    intro K;obtain⟨q,p⟩:=jf (ops:=ops) (k:=k) (by omega);obtain⟨y,t,N,A⟩:=Jq hT.recd p;rw[A L,A qp,if_pos (show qp k=true from rfl)];cases d:y.2 with
    |none=>
      rw[putS_σ _ _ _ d];split
      .rw[putS_σ _ _ _ d];exact u (by omega)
      .exact u (by omega)
    |some σ'=>
      rcases g p t (by omega) d (N (by rw[d];rfl))with h|h
      .rw[if_pos (h.1 (by omega))];simp[yb,d,turn]
      .have e:∀s:S,(yb s q y).σ=σ':=λ s=>by simp[yb,d,turn]
       rw[e,h];split
       .rw[e,h]
       .exact u (by omega)
 have z:∀m,j+m<=ops.size->c (F ops.toList l s0 L (j+m)).σ=c (F ops.toList l s0 L j).σ:=by
  intro m
  induction m with
  |zero=>intro _;rfl
  |succ m u=>
    intro K;obtain⟨q,p⟩:=jf (ops:=ops) (k:=j+m) (by omega);obtain⟨y,t,N,A⟩:=Jq hT.recd p;show c (F ops.toList l s0 L (j+m+1)).σ=_;rw[A L];split
    .rename_i f;have V:m≠0:=λ h=>by subst h;rw[wQ,hL]at f;cases f
     cases d:y.2 with
     |none=>rw[putS_σ _ _ _ d];exact u (by omega)
     |some σ'=>
       have x:=N (by rw[d];rfl);rcases g p t (by omega) d x with h|h
       .have:=h.2 (by omega);rw[this]at f;cases f
       .have e:(yb (F ops.toList l s0 L (j+m)) q y).σ=σ':=by simp[yb,d,turn]
        rw[e,h]
        have G:∀n,j+n<=j+m->c (F ops.toList l s0 qp (j+n)).σ=c (F ops.toList l s0 qp j).σ:=by
         intro n
         induction n with
         |zero=>intro _;rfl
         |succ n v=>
           intro U;obtain⟨D,b⟩:=jf (ops:=ops) (k:=j+n) (by omega);obtain⟨y2,w,M,O⟩:=Jq hT.recd b;show c (F ops.toList l s0 qp (j+n+1)).σ=_;rw[O qp,if_pos (show qp (j+n)=true from rfl)];cases i:y2.2 with
           |none=>rw[putS_σ _ _ _ i];exact v (by omega)
           |some B=>
             have a:=M (by rw[i];rfl);by_cases J:n=0
             .subst J;rw[wQ]at b;rw[ho]at b;cases b;rw[I]at a;cases a
             rcases g b w (by omega) i a with P|P
             .-- it lies ahead of the other loud one,which has come up
              exfalso;have H:=P.2 (by omega);have R:qiW C.lo s0.tm ops (j+m) q (j+n) D=true:=qzd x a;have r:=(qih hk).2 (j+n) (j+m) q D p b (by omega) R;rw[Nat.max_eq_right (by omega),kw (by omega)]at r;have:=qjL hd (j+m) q p (hd (j+m) q p f) r;rw[H]at this;cases this
             .have T:(yb (F ops.toList l s0 qp (j+n)) D y2).σ=B:=by simp[yb,i,turn]
              rw[T,P];exact v (by omega)
        rw[G m (wa _),E j (wa _)]
    .exact u (by omega)
 have:=z (ops.size-j) (by omega);grind
theorem qHz{t:TypeId}{a:Tmp}{b':Nat}(hop:o.op = .load t (.tmp a))(hbx:yS s0.tm ops j a=some b'):qff (F ops.toList l s0 L ops.size).σ b'=qff (F ops.toList l s0 qp j).σ b':=by
 have see:∀{σ σ':St},σ'.bx[b']? = σ.bx[b']? -> qff σ' b'=qff σ b' := λ h=>by unfold qff;rw[h]
 have hj:j<ops.size:=(Array.getElem?_eq_some_iff.1 ho).1;have hrd:jV o.op=true:=by rw[hop];rfl
 refine qqX hT hk hd ho hL (λ σ => qff σ b') (by rw[hop];rfl) ?_
 show ∀{k:Nat} {q:Oper} {y:AV × Option St} {σ':St},ops[k]?=some q->l[k]?=some y->k≠j->y.2=some σ'->zm C.lo q.op=true ->
  ((k<j->L k=true)/\(j<k->L k=false))\/qff σ' b'=qff (F ops.toList l s0 qp k).σ b'
 ·intro k q y σ' hq hy hne hy2 hl;by_cases hmk:qrC q.op=true
  ·obtain⟨z,hz,hstep,_⟩:=hT.st k q hq;rw[hy]at hz;cases hz;obtain⟨y1,y2⟩:=y;simp only at hy2;subst hy2;rcases hstep with⟨_,hs⟩ | ⟨_,hs⟩
   ·exact .inr (congrFun (congrArg Prod.snd (qxF hmk hs)) b')
   ·cases hs
  rw[kD]at hmk;cases hap:qfz s0.tm ops j o k q with
  | false=>exact .inl (ord hk hd ho hq hne (by simp only[qiW,qoE,qk5,hl,hrd,hmk,hap,kQ,xi,xw,xu,xL]) hL hp)
  | true =>
    obtain⟨z,hz,hstep,_⟩:=hT.st k q hq;rw[hy]at hz;cases hz;obtain⟨y1,y2⟩:=y;simp only at hy2;subst hy2;rcases quE hop hap with⟨t',c,v,x,h1,h2,h3⟩ | ⟨_,as,ts,h1⟩ | ⟨_,g,as,ts,h1⟩
    case inr.inr =>
     have hsp:=hT.sp k q _ hq hy rfl;have hks:k<=ops.size:=xI (Array.getElem?_eq_some_iff.1 hq).1;rw[h1]at hsp;unfold qa9 at hstep;rw[h1]at hstep;unfold qcv at hsp;rw[show qxX (.call ⟨.value g,as,ts⟩)=true from rfl,way,xV,wo]at hsp;have hsj:=hsp (o,j) (by rw[xd];simpa using ho);simp only[hop]at hsj;rw[qL1 hT hks hbx]at hsj;simp only[wS,wb,decide_eq_true_eq,wL]at hsj;grind [qx7,Nat.max_comm,Nat.min_comm,qLT]
    all_goals right
    case inr.inl =>
     rcases hstep with⟨_,hs⟩ | ⟨_,hs⟩
     ·grind [qII]
     ·cases hs
    rcases h3 with⟨y',h3,h4⟩ | ⟨h3,_⟩
    case inr=>rw[hbx]at h3;cases h3
    rw[hbx]at h3;cases h3;rcases hstep with⟨_,hs⟩ | ⟨_,hs⟩
    ·have hks:k<=ops.size:=xI (Array.getElem?_eq_some_iff.1 hq).1;rcases qhU h1 hs with⟨b,off,g1,_,g2⟩ | ⟨r',i',o',ep',g1⟩
     ·rcases qoG hT hks h2 with⟨off',g3⟩ | g3 | g3
      ·grind
      ·rw[g3]at g1;cases g1
      ·rw[g3]at g1;cases g1
     ·rcases qoG hT hks h2 with⟨off',g3⟩ | g3 | g3
      ·rw[g3]at g1;cases g1
      ·rw[g3]at g1;cases g1
      ·rw[g3]at g1;cases g1
    ·cases hs
theorem qJS{t:TypeId}{a:Tmp}(hop:o.op = .load t (.tmp a))(hbx:yS s0.tm ops j a=none):(F ops.toList l s0 L ops.size).σ.rw=(F ops.toList l s0 qp j).σ.rw:=by
 have hrd:jV o.op=true:=by rw[hop];rfl
 refine qqX hT hk hd ho hL (λ σ => σ.rw) (by rw[hop];rfl) ?_;intro k q y σ' hq hy hne hy2 hl;by_cases hmk:qrC q.op=true
 ·obtain⟨z,hz,hstep,_⟩:=hT.st k q hq;rw[hy]at hz;cases hz;obtain⟨y1,y2⟩:=y;simp only at hy2;subst hy2;rcases hstep with⟨_,hs⟩ | ⟨_,hs⟩
  ·exact .inr (congrArg Prod.fst (qxF hmk hs))
  ·cases hs
 rw[kD]at hmk;cases hap:qfz s0.tm ops j o k q with
 | false=>exact .inl (ord hk hd ho hq hne (by simp only[qiW,qoE,qk5,hl,hrd,hmk,hap,kQ,xi,xw,xu,xL]) hL hp)
 | true =>
   obtain⟨z,hz,hstep,_⟩:=hT.st k q hq;rw[hy]at hz;cases hz;obtain⟨y1,y2⟩:=y;simp only at hy2;subst hy2;rcases quE hop hap with⟨t',c,v,x,h1,h2,_⟩ | ⟨h,_⟩ | ⟨h,_⟩
   case inr.inl=>exact absurd hbx h
   case inr.inr=>exact absurd hbx h
   right;have hks:k<=ops.size:=xI (Array.getElem?_eq_some_iff.1 hq).1;rcases hstep with⟨_,hs⟩ | ⟨_,hs⟩
   ·rcases qhU h1 hs with⟨b,off,g1,g2,_⟩ | ⟨r',i',o',ep',g1⟩
    ·exact g2
    ·rcases qoG hT hks h2 with⟨off',g3⟩ | g3 | g3<;>rw[g3]at g1<;>cases g1
   ·cases hs
theorem qJp(e:qlL C.lo o.op=true)(g:jV o.op=true)(i:∀t a,o.op=.load t (.tmp a)->yS s0.tm ops j a=none/\qdc s0.tm ops j a=false):qou (F ops.toList l s0 L ops.size).σ=qou (F ops.toList l s0 qp j).σ:=by
 refine qqX hT hk hd ho hL qou (by
  cases m:zm C.lo o.op with
  |false=>rfl
  |true=>rw[qlP m]at e;cases e) ?_
 intro k q y σ' p s h d r;by_cases c:qrC q.op=true
 .let⟨z,n,b,_⟩:=hT.st k q p;rw[s]at n;cases n;let⟨y1,y2⟩:=y;simp only at d;subst d;obtain⟨_,f⟩|⟨_,f⟩:=b
  .exact .inr (qxF c f)
  .cases f
 .rw[kD]at c;exact .inl (ord hk hd ho p h (by simp only[qiW,qoE,qk5,r,g,c,qwD r i,kQ,xi,xw,xu,xL]) hL hp)
theorem qB7:∃y,l[j]?=some y/\qa9 C ex ops o (F ops.toList l s0 L ops.size) y/\F ops.toList l s0 (λ i=>decide (i=j)||L i) ops.size=yb (F ops.toList l s0 L ops.size) o y:=by
 have H:j<ops.size:=(Array.getElem?_eq_some_iff.1 ho).1;let⟨y,q,A,h⟩:=hT.st j o ho;refine⟨y,q,?_,?_⟩
 .have E:=qj5 (ops:=ops) (o:=o) λ t G=>qlE (s0:=s0) hT.recd (qj0 hk) hd ho hL hp G
  have s:=quk (C:=C) (ex:=ex) (op:=o.op) (σ:=(F ops.toList l s0 L ops.size).σ) (qrl (xs:=o.op.operands.toList) λ t G=>qlE (s0:=s0) hT.recd (qj0 hk) hd ho hL hp (t:=t) (by
   grind [qa5]))
  obtain⟨p,c⟩|⟨p,c⟩:=A
  .refine .inl ⟨E.trans p,?_⟩;rw[s];by_cases k:(jV o.op||zm C.lo o.op)=true
   .by_cases m:∃t a b,o.op=.load t (.tmp a)/\yS s0.tm ops j a=some b
    .let⟨t,a,b,e1,w⟩:=m;have n:=qHz hT hk hd ho hL hp e1 w;rw[e1]at c |-
     have B:j<=ops.size:=xI H;simp only[opA,qc]at c |-
     split at c<;>try cases c
     rename_i d D;have r:aev (F ops.toList l s0 qp j).tm (.tmp a)=(F ops.toList l s0 qp j).tm.getD a .dead:=rfl;rw[r]at c |-
     obtain⟨off,g⟩|g|g:=qoG hT B w
     .grind [qtz]
     .rw[g]at c;cases c
     .rw[g]at c;cases c
    .by_cases v:∃t a,o.op=.load t (.tmp a)/\qdc s0.tm ops j a=true
     .let⟨t,a,e1,w⟩:=v
      have I:=qJS hT hk hd ho hL hp e1 (by
       cases n:yS s0.tm ops j a with
       |none=>rfl
       |some b=>exact absurd ⟨t,a,b,e1,n⟩ m)
      rw[e1]at c |-
      simp only[opA,qc]at c |-
      split at c<;>try cases c
      rename_i d D;have r:aev (F ops.toList l s0 qp j).tm (.tmp a)=(F ops.toList l s0 qp j).tm.getD a .dead:=rfl;rw[r]at c |-
      obtain g|g|g:=qJU hT (xI H) w
      .cases J:(F ops.toList l s0 qp j).tm.getD a .dead<;>rw[J]at g c<;>first|(cases g;done)|skip
       .grind [ju]
       .exact c
      .rw[g]at c;cases c
      .rw[g]at c;cases c
     .have u:∀t a,o.op=.load t (.tmp a)->yS s0.tm ops j a=none/\qdc s0.tm ops j a=false:=λ t a p=>⟨by
        cases n:yS s0.tm ops j a with
        |none=>rfl
        |some b=>exact absurd ⟨t,a,b,p,n⟩ m,by
        cases n:qdc s0.tm ops j a with
        |false=>rfl
        |true=>exact absurd ⟨t,a,p,n⟩ v⟩
      cases e:qlL C.lo o.op with
      |false=>rw[qGp hT hk hd ho hL hp k e u];exact c
      |true=>
        have f:zm C.lo o.op=false:=by
         cases f:zm C.lo o.op with
         |false=>rfl
         |true=>rw[qlP f]at e;cases e
        rw[f,Bool.or_false]at k;have r:=qJp hT hk hd ho hL hp e k u;let⟨x,z⟩:=y;cases z with
        |some σ'=>have:=h rfl;rw[f]at this;cases this
        |none=>exact qIg e r c
   .simp only[kD,xr]at k;let⟨x,z⟩:=y;cases z with
    |none=>exact qBH k.1 k.2 c
    |some σ'=>have:=h rfl;rw[k.2]at this;cases this
  .exact .inr ⟨E.trans p,c⟩
 .exact qFK (s0:=s0) hT.recd (qj0 hk) hd ho hL hp q h
theorem quj:∃y,qa9 C ex ops o (F ops.toList l s0 L ops.size) y/\F ops.toList l s0 (λ i=>decide (i=j)||L i) ops.size=yb (F ops.toList l s0 L ops.size) o y:=by
 grind [qB7]
end
end Go.AmZ
namespace Go.AmZ
open Go Go.RowKit
theorem qFS(ops:List Oper):∀l:List Oper,qHc ops l<=l.length
 |[]=>wa _
 |o::r=>by
   unfold qHc;split
   .exact we _
   .simpa using qFS ops r
theorem qq3(lo:Nat->Bool)(l:List Oper):qcj lo l<=l.length:=qFS l l
theorem qrR(o:Oper):(jE o).dst=o.dst:=by unfold jE;split<;>rfl
theorem qDU(o:Oper):(jE o).guard=o.guard:=by unfold jE;split<;>rfl
theorem qmU(o:Oper):jw (jE o)=jw o:=by unfold jE;split<;>rfl
theorem qo9{lo:Nat->Bool}{l:List Oper}:(qH lo l).length=qcj lo l:=by simp[qH,kw (qq3 lo l)]
theorem qlk{lo:Nat->Bool}{l:List Oper}{j:Nat}(a:j<qcj lo l):(qH lo l)[j]?=l[j]?.map jE:=by
 grind [qH]
theorem qup{lo:Nat->Bool}{l:List Oper}{j:Nat}{o:Oper}(h:(qH lo l)[j]?=some o):j<qcj lo l/\∃q,l[j]?=some q/\jE q=o:=by
 have a:j<qcj lo l:=by rw[<-qo9 (lo:=lo) (l:=l)];exact getElem?_lt h
 rw[qlk a]at h;grind
theorem qnZ{lo:Nat->Bool}{ops:Array Oper}{c:List AV}{o:Oper}{b:Bool}(h:yq ⟨qH lo ops.toList⟩ c (jE o)=some b):yq ops c o=some b:=by
 unfold yq at h |-
 rw[qDU]at h;cases e:o.guard with
 |none=>rw[e]at h;exact h
 |some p=>
   let⟨j,a⟩:=p;rw[e]at h;simp only at h |-
   cases d:(qH lo ops.toList)[j]? with
   |none=>
     grind
   |some q=>
     let⟨l,f,i,g⟩:=qup d;have e1:(⟨qH lo ops.toList⟩:Array Oper)[j]?=some q:=by simpa using d
     have k:ops[j]?=some f:=by simpa using i
     rw[e1]at h;rw[k];subst g;simp only[Option.bind_some,qrR]at h |-
     exact h
section
variable {P:Program}{C:Cfg}{Γ:Gh}{σ:St}{w:World}{ops:Array Oper}{ex:jJ}{l:List (AV×Option St)}{s0:S}
theorem qwz{a:Array Bool}(h:a.toList.countP (λ b => !b)=0):∀i,i<a.size->a.getD i false=true:=by
 intro i c;rw[List.countP_eq_zero]at h;have:=h a[i] (by simp);simp only[wL,Bool.not_eq_false]at this;rw[wJ,Array.getElem?_eq_getElem c];simpa using this
theorem qEs(hC:ym P C)(hx:qch P ex){G:(Nat->Bool)->S}{Good:(Nat->Bool)->Prop}(z:∀L j,Good L->Good (λ i=>decide (i=j)||L i))(H:∀(j:Nat) (o:Oper),ops[j]?=some o->∀e∈jw o,e<j)(I:∀L,(∀i,i<ops.size->L i=true)->G L=G qp)
  (t:∀(L:Nat->Bool) (j:Nat) (o:Oper),qcg ops L->Good L->ops[j]?=some o->L j=false->(∀e∈jw o,L e=true)->∃y,qa9 C ex ops o (G L) y/\G (λ i=>decide (i=j)||L i)=yb (G L) o y) {Q:Exit->Act->World->Prop}:∀(d:Nat) (c:Array Bool) (Γ:Gh) (w:World) (a:Act),c.size=ops.size->c.toList.countP (λ b => !b)=d->qcg ops (λ i=>c.getD i false)->Good (λ i=>c.getD i false)->
  Inv Γ (G (λ i=>c.getD i false)).σ w->zt Γ (G (λ i=>c.getD i false)).tm a->
  (∀Γ' w' a',Ext Γ w Γ' w'->Inv Γ' (G qp).σ w'->zt Γ' (G qp).tm a'->qL (G (λ i=>c.getD i false)).σ (G qp).σ->a'.defers=a.defers->Q .normal a' w')->
  wpAny P .any ops Q d c a w:=by
 intro d
 induction d with
 |zero=>
   intro c Γ w a g p M l D s V;have r:=qwz p
   have n:Region.ready .any ops c=[]:=by
    apply List.eq_nil_iff_forall_not_mem.2;intro j hj;let⟨h1,o,v,_⟩:=mem_ready.1 hj;grind
   have hF:G (λ i=>c.getD i false)=G qp:=I _ λ i D=>r i (by rw[g];exact D);rw[hF]at D s;exact⟨n,V Γ w a (.refl _ _) D s (by rw[hF];exact .refl _) rfl⟩
 |succ d ih=>
   intro c Γ w a g p M l D s V;refine⟨λ n=>?_,λ j hj=>?_⟩
   .exfalso
    have aa:∃i,i<c.size/\c.getD i false=false:=by
     apply kV;intro X
     have:c.toList.countP (λ b => !b)=0:=by
      rw[List.countP_eq_zero];intro b hb;obtain⟨i,f,rfl⟩:=List.getElem_of_mem hb;intro ad;refine X ⟨i,by simpa using f,?_⟩;rw[wJ,Array.getElem?_eq_getElem (by simpa using f)];simpa using ad
     rw[p]at this;cases this
    let⟨i0,h0,h1⟩:=aa
    have O:∀i,i<c.size->c.getD i false=false->False:=by
     intro i
     induction i using Nat.strongRecOn with
     |_ i R=>
       intro f hf;let⟨o,v⟩:=jf (ops:=ops) (k:=i) (by rw[<-g];exact f)
       have hr:i∈Region.ready .any ops c:=by
        refine mem_ready.2 ⟨?_,o,v,λ e J hb=>?_⟩
        .rw[wJ,Array.getElem?_eq_getElem f]at hf |-
         simpa using hf
        .have ab:e.on∈jw o:=wA.2 ⟨e,kN.2 ⟨by simpa using J,hb⟩,rfl⟩;have Y:=H i o v e.on ab;cases hc:c.getD e.on false with
         |true=>rfl
         |false=>exact(R e.on Y (by omega) hc).elim
       rw[n]at hr;cases hr
    exact O i0 h0 h1
   .let⟨h1,o,v,r⟩:=mem_ready.1 hj;have A:j<ops.size:=(Array.getElem?_eq_some_iff.1 v).1
    have hL:c.getD j false=false:=by
     grind
    have hp:∀e∈jw o,c.getD e false=true:=λ e J=>by
     obtain⟨ed,af,rfl⟩:=wA.1 J;grind
    let⟨y,hy,ae⟩:=t _ j o M l v hL hp
    have m:(λ i=>(c.setIfInBounds j true).getD i false)=λ i=>decide (i=j)||c.getD i false:=by
     funext i;by_cases B:i=j
     .subst B;rw[wJ,Array.getElem?_setIfInBounds_self_of_lt (by rw[g];exact A)];simp
     .rw[getD_set_ne false (xU B)];simp[B]
    have F:(c.setIfInBounds j true).size=ops.size:=by rw[xP,g]
    have K:(c.setIfInBounds j true).toList.countP (λ b => !b)=d:=by
     have Z:j<c.toList.length:=by simp[g,A]
     rw[xx,List.countP_set (h:=Z),p]
     have:c.toList[j]=false:=by
      rw[wJ,Array.getElem?_eq_getElem (by rw[g];exact A)]at hL;simpa using hL
     rw[this];simp
    have ac:qcg ops (λ i=>(c.setIfInBounds j true).getD i false):=by
     rw[m];intro i q U f e J;simp only[wS,decide_eq_true_eq]at f |-
     obtain rfl|f:=f
     .grind
     .exact .inr (M i q U f e J)
    unfold wpOp;rw[v];simp only
    have next:∀Γ' w' u,Ext Γ w Γ' w'->Inv Γ' (turn (G (λ i=>c.getD i false)).σ y.2) w'->Rep Γ' y.1 u->qL (G (λ i=>c.getD i false)).σ (turn (G (λ i=>c.getD i false)).σ y.2)->
      wpAny P .any ops Q d (c.setIfInBounds j true) (a.put o.dst u) w':=by
     intro Γ' w' u e1 e2 e3 e4;have E:G (λ i=>(c.setIfInBounds j true).getD i false)=yb (G (λ i=>c.getD i false)) o y:=by rw[m];exact ae
     refine ih (c.setIfInBounds j true) Γ' w' (a.put o.dst u) F K ac (by rw[m];exact z _ j l) ?_ ?_ ?_
     .rw[E];exact e2
     .rw[E];exact zt.put (waN e1.le s) o.dst e3
     .intro N w2 a2 g1 g2 g3 g4 g5;rw[E]at g4;exact V N w2 a2 (e1.trans g1) g2 g3 (e4.trans g4) (by rw[g5];cases M:o.dst<;>rfl)
    obtain⟨T,W⟩|⟨T,rfl⟩:=hy
    .rw[if_pos (qh3 s T)];left;refine qGw hC hx D s W _ _ ?_;grind
    .rw[if_neg (by rw[qh3 s T];exact xp)];exact next Γ w undef (.refl _ _) D (.tup [] [] rfl λ i x u h=>by simp at h) (.refl _)
theorem qET(p:ym P C)(n:qch P ex){Good:(Nat->Bool)->Prop}(g:∀L j,Good L->Good (λ i=>decide (i=j)||L i))(k:∀(j:Nat) (o:Oper),ops[j]?=some o->∀e∈jw o,e<j)
  (f:∀(L:Nat->Bool) (j:Nat) (o:Oper),qcg ops L->Good L->ops[j]?=some o->L j=false->(∀e∈jw o,L e=true)->∃y,qa9 C ex ops o (F ops.toList l s0 L ops.size) y/\F ops.toList l s0 (λ i=>decide (i=j)||L i) ops.size=yb (F ops.toList l s0 L ops.size) o y) {Q:Exit->Act->World->Prop}:∀(d:Nat) (c:Array Bool) (Γ:Gh) (w:World) (a:Act),c.size=ops.size->c.toList.countP (λ b => !b)=d->qcg ops (λ i=>c.getD i false)->Good (λ i=>c.getD i false)->
  Inv Γ (F ops.toList l s0 (λ i=>c.getD i false) ops.size).σ w->zt Γ (F ops.toList l s0 (λ i=>c.getD i false) ops.size).tm a->
  (∀Γ' w' m,Ext Γ w Γ' w'->Inv Γ' (F ops.toList l s0 qp ops.size).σ w'->zt Γ' (F ops.toList l s0 qp ops.size).tm m->qL (F ops.toList l s0 (λ i=>c.getD i false) ops.size).σ (F ops.toList l s0 qp ops.size).σ->m.defers=a.defers->Q .normal m w')->
  wpAny P .any ops Q d c a w:=
 qEs (G:=λ L=>F ops.toList l s0 L ops.size) p n g k (λ _ h=>qAv _ h) f
theorem qyY{lo:Nat->Bool}(h:qiz lo ops.toList=true):
  (∀(j:Nat) (o:Oper),ops[j]?=some o->∀e∈jw o,e<j)/\
  (∀(j:Nat) (o:Oper),ops[j]?=some o->qcj lo ops.toList<=j->∀i,i<j->((QP ops.toList []).getD j 0).testBit i=true\/(i<qcj lo ops.toList/\∃q,ops[i]?=some q/\(qgW ops.toList q=true\/qrW ops.toList q=true/\qvb ops.toList o=true)))/\
  ∀(j:Nat) (o:Oper),ops[j]?=some o->zK o=true->o.guard=none/\∃d,o.dst=some d/\∀(k:Nat) (q:Oper),ops[k]?=some q->k≠j->q.dst≠some d:=by
 have a:∀(i:Nat) (o:Oper),ops[i]?=some o->(o,i)∈ops.toList.zipIdx:=λ i o c=>by
  grind
 simp only[qiz,wo,wb,wS,decide_eq_true_eq,wL]at h;refine⟨λ j o c=>(h _ (a j o c)).1,λ j o c y i s=>?_,λ j o c t=>?_⟩
 .obtain b|b:=(h _ (a j o c)).2.1
  .rw[wax]at b;omega
  .obtain b|⟨l,f⟩:=b i (kP.2 s)
   .exact .inl b
   .rw[wax]at l;grind
 .obtain b|⟨l,f⟩:=(h _ (a j o c)).2.2
  .rw[t]at b;cases b
  .refine⟨Option.isNone_iff_eq_none.1 l,?_⟩;simp only at f;split at f
   .rename_i d m;refine⟨d,m,λ k q n p g=>?_⟩;have r:=wn f;let⟨x,w⟩:=xX.1 r;have v:(o,j)∈qdo ops.toList d:=kN.2 ⟨a j o c,by simp[ql8,m]⟩;have u:(q,k)∈qdo ops.toList d:=kN.2 ⟨a k q n,by simp[ql8,g]⟩;grind
   .cases f
theorem qek{o:Oper}(a:zK o=true):∃e,o.op=.alloc e:=by
 grind [zK]
structure qko (P:Program) (Γ:Gh) (w0 w:World) (ops:Array Oper) (L:Nat->Prop) (a:Act) (ad:Nat->Nat):Prop where
 blk:∀k o e d,L k->ops[k]?=some o->o.op=.alloc e->yG P e=some d->d.zero.all zx=true->
  w0.heap.size<=ad k/\w.heap[ad k]?=some (.cells d.zero.toArray e (0,0))/\¬ QB Γ (ad k)/\∀i,Γ.mem (ad k) i=none
 tmp:∀k o e d u,L k->ops[k]?=some o->o.op=.alloc e->o.dst=some d->a.tmps[d]?=some u->u=.pointer (some ⟨ad k,0,none⟩)
 inj:∀k k' o o',L k->L k'->ops[k]?=some o->ops[k']?=some o'->zK o=true->zK o'=true->ad k=ad k'->k=k'
theorem qJt{a:Act}{d:Option Tmp}{u:Value}{t:Tmp}(h:d≠some t):(a.put d u).tmps[t]?=a.tmps[t]?:=by
 cases d with
 |none=>rfl
 |some d=>
   show(a.tmps.setIfInBounds d u)[t]?=_;grind
theorem qko.step{L:Nat->Prop}{w0 w':World}{Γ':Gh}{a:Act}{ad:Nat->Nat}{d:Option Tmp}{u:Value}(h:qko P Γ w0 w ops L a ad)(p:Ext Γ w Γ' w')
  (r:∀k o t,L k->ops[k]?=some o->zK o=true->o.dst=some t->d≠some t):qko P Γ' w0 w' ops L (a.put d u) ad where
 blk:=λ k o e d m l j g f=>by
  let⟨x,q,g3,s⟩:=h.blk k o e d m l j g f;have n:ad k<w.heap.size:=(Array.getElem?_eq_some_iff.1 q).1;refine⟨x,by rw[p.block _ n g3];exact q,λ c=>?_,λ i=>?_⟩
  .obtain c|c:=p.own _ c
   .exact g3 c
   .omega
  .cases b:Γ'.mem (ad k) i with
   |none=>rfl
   |some v=>
     obtain b|b|b:=p.memg _ _ _ b
     .rw[s]at b;cases b
     .exact absurd b g3
     .omega
 tmp:=λ k o e t v m l j g f=>by
  rw[qJt (r k o t m l (by simp[zK,j]) g)]at f;exact h.tmp k o e t v m l j g f
 inj:=h.inj
theorem qJo{o:Oper}{ρ:Operand->Value}{e:TypeId}{d:TD}(a:o.op=.alloc e)(b:yG P e=some d)(w:World):(execOp ρ o).run P w=.ok (.value (.pointer (some ⟨w.heap.size,0,none⟩))) (w.alloc (.cells d.zero.toArray e)):=by
 let⟨i,u,z,g,m,f,l,k,j,c,h⟩:=waL b;rw[<-c];simp[execOp,a,Instr.alloc,zeroValue,typeInfo,g,f,newVar,qfs]
theorem Inv.free(a:Inv Γ σ w){b:Nat}(f:w.heap.size<=b):¬ QB Γ b/\∀i,Γ.mem b i=none:=by
 refine⟨?_,λ i=>?_⟩
 .rintro(⟨i,c,d⟩|⟨r,c,d,g⟩)
  .have:=a.box_lt c;omega
  .have:=a.cur_lt c d;omega
 .cases e:Γ.mem b i with
  |none=>rfl
  |some u=>have:=a.mem_lt e;omega
theorem qOX(hC:ym P C)(hx:qch P ex)(hT:qdb C ex ⟨qH C.lo ops.toList⟩ l s0)(hk:qbw C.lo s0.tm ⟨qH C.lo ops.toList⟩=true)(aa:qiz C.lo ops.toList=true)
  (hz:∀k o e,k<qcj C.lo ops.toList->ops[k]?=some o->o.op=.alloc e->∃d,yG P e=some d/\d.zero.all zx=true) {w0:World}{Q:Exit->Act->World->Prop}{n:Nat} (hn:n=qcj C.lo ops.toList):
  ∀(g:Nat) (c:Array Bool) (Γ:Gh) (w:World) (a:Act) (ad:Nat->Nat),c.size=ops.size->c.toList.countP (λ b => !b)=g->(∀i,n<=i->c.getD i false=false)->qcg ops (λ i=>c.getD i false)->
  Inv Γ (F (qH C.lo ops.toList) l s0 (λ i=>c.getD i false) n).σ w->zt Γ (F (qH C.lo ops.toList) l s0 (λ i=>c.getD i false) n).tm a->qko P Γ w0 w ops (λ i=>c.getD i false=true) a ad->w0.heap.size<=w.heap.size->
  (∀s f Γ' w' a' L,f.size=ops.size->f.toList.countP (λ b => !b)=s->(∀i,n<=i->f.getD i false=false)->(∀(i:Nat) (o:Oper),i<n->ops[i]?=some o->qbb ops.toList o=false->f.getD i false=true)->qcg ops (λ i=>f.getD i false)->Ext Γ w Γ' w'->Inv Γ' (F (qH C.lo ops.toList) l s0 (λ i=>f.getD i false) n).σ w'->zt Γ' (F (qH C.lo ops.toList) l s0 (λ i=>f.getD i false) n).tm a'->qko P Γ' w0 w' ops (λ i=>f.getD i false=true) a' L->
   qL (F (qH C.lo ops.toList) l s0 (λ i=>c.getD i false) n).σ (F (qH C.lo ops.toList) l s0 (λ i=>f.getD i false) n).σ->a'.defers=a.defers->wpAny P .any ops Q s f a' w')->
  wpAny P .any ops Q g c a w:=by
 let⟨aN,aO,ao⟩:=qyY aa
 have ak:∀(j:Nat) (o:Oper),j<n->ops[j]?=some o->(⟨qH C.lo ops.toList⟩:Array Oper)[j]?=some (jE o):=λ j o hj B=>by
  have:(qH C.lo ops.toList)[j]?=some (jE o):=by
   rw[qlk (by omega)];grind
  simpa using this
 have ai:(⟨qH C.lo ops.toList⟩:Array Oper).size=n:=by show(qH C.lo ops.toList).length=n;rw[qo9,hn]
 have a0:n<=ops.size:=by rw[hn];simpa using qq3 C.lo ops.toList
 intro g
 induction g with
 |zero=>
   intro c Γ w a ad A K N hd hi S X V hq;have D:=qwz K;exact hq 0 c Γ w a ad A K N (λ i o m _ _=>D i (by omega)) hd (.refl _ _) hi S X (.refl _) rfl
 |succ g ih=>
   intro c Γ w a ad A K N hd hi S X V hq;by_cases D:∀(i:Nat) (o:Oper),i<n->ops[i]?=some o->qbb ops.toList o=false->c.getD i false=true
   .exact hq (g+1) c Γ w a ad A K N D hd (.refl _ _) hi S X (.refl _) rfl
   have aV:qcg ⟨qH C.lo ops.toList⟩ (λ i=>c.getD i false):=by
    intro i o B hL e M;obtain⟨m,q,h1,rfl⟩:=qup (lo:=C.lo) (l:=ops.toList) (j:=i) (o:=o) (by simpa using B);rw[qmU]at M;exact hd i q (by simpa using h1) hL e M
   have aw:∃(U:Nat) (o0:Oper),U<n/\ops[U]?=some o0/\qbb ops.toList o0=false/\c.getD U false=false:=by
    apply kV;intro al;refine D λ i o m aL ar=>?_;cases hc:c.getD i false with
    |true=>rfl
    |false=>exact(al ⟨i,o,m,aL,ar,hc⟩).elim
   refine⟨λ am=>?_,λ j hj=>?_⟩
   .exfalso;let⟨U,o0,R,_,_,h1⟩:=aw
    have aC:∀i,i<n->c.getD i false=false->False:=by
     intro i
     induction i using Nat.strongRecOn with
     |_ i aD=>
       intro m hf;let⟨o,B⟩:=jf (ops:=ops) (k:=i) (by omega)
       have hr:i∈Region.ready .any ops c:=by
        refine mem_ready.2 ⟨?_,o,B,λ e M hb=>?_⟩
        .rw[wJ,Array.getElem?_eq_getElem (by omega)]at hf |-
         simpa using hf
        .have aT:e.on∈jw o:=wA.2 ⟨e,kN.2 ⟨by simpa using M,hb⟩,rfl⟩;have an:=aN i o B e.on aT;cases hc:c.getD e.on false with
         |true=>rfl
         |false=>exact(aD e.on an (by omega) hc).elim
       rw[am]at hr;cases hr
    exact aC U R h1
   .let⟨h1,o,B,az⟩:=mem_ready.1 hj;have ac:j<ops.size:=(Array.getElem?_eq_some_iff.1 B).1
    have hL:c.getD j false=false:=by
     grind
    have hp:∀e∈jw o,c.getD e false=true:=λ e M=>by
     obtain⟨ed,a6,rfl⟩:=wA.1 M;grind
    have aP:j<n:=by
     apply kV;intro al;let⟨U,o0,R,aK,aS,h2⟩:=aw;obtain hb|⟨_,q,z,ar⟩:=aO j o B (by omega) U (by omega)
     .have:=qjL hd j o B hp hb;rw[h2]at this;cases this
     .rw[aK]at z;cases z;unfold qbb at aS;grind
    have aJ:∀e∈jw (jE o),c.getD e false=true:=by rw[qmU];exact hp
    let⟨y,hy,ax⟩:=quj hT hk aV (ak j o aP B) hL aJ;rw[ai]at hy ax
    have J:(λ i=>(c.setIfInBounds j true).getD i false)=λ i=>decide (i=j)||c.getD i false:=by
     funext i;by_cases ae:i=j
     .subst ae;rw[wJ,Array.getElem?_setIfInBounds_self_of_lt (by rw[A];exact ac)];simp
     .rw[getD_set_ne false (xU ae)];simp[ae]
    have aj:(c.setIfInBounds j true).size=ops.size:=by rw[xP,A]
    have av:(c.setIfInBounds j true).toList.countP (λ b => !b)=g:=by
     have aQ:j<c.toList.length:=by simp[A,ac]
     rw[xx,List.countP_set (h:=aQ),K]
     have:c.toList[j]=false:=by
      rw[wJ,Array.getElem?_eq_getElem (by rw[A];exact ac)]at hL;simpa using hL
     rw[this];simp
    have ap:∀i,n<=i->(c.setIfInBounds j true).getD i false=false:=λ i m=>by
     rw[getD_set_ne false (by omega)];exact N i m
    have aW:qcg ops (λ i=>(c.setIfInBounds j true).getD i false):=by
     rw[J];intro i q z m e M;simp only[wS,decide_eq_true_eq]at m |-
     obtain rfl|m:=m
     .grind
     .exact .inr (hd i q z m e M)
    have yr:∀k,(c.setIfInBounds j true).getD k false=true->k=j\/c.getD k false=true:=λ k ab=>by
     have:(λ i=>(c.setIfInBounds j true).getD i false) k=true:=ab;rw[J]at this;simpa using this
    have af:F (qH C.lo ops.toList) l s0 (λ i=>(c.setIfInBounds j true).getD i false) n=yb (F (qH C.lo ops.toList) l s0 (λ i=>c.getD i false) n) (jE o) y:=by rw[J];exact ax
    unfold wpOp;rw[B];simp only
    have next:∀Γ' w' u L,Ext Γ w Γ' w'->Inv Γ' (turn (F (qH C.lo ops.toList) l s0 (λ i=>c.getD i false) n).σ y.2) w'->Rep Γ' y.1 u->qL (F (qH C.lo ops.toList) l s0 (λ i=>c.getD i false) n).σ (turn (F (qH C.lo ops.toList) l s0 (λ i=>c.getD i false) n).σ y.2)->
      qko P Γ' w0 w' ops (λ i=>(c.setIfInBounds j true).getD i false=true) (a.put o.dst u) L->wpAny P .any ops Q g (c.setIfInBounds j true) (a.put o.dst u) w':=by
     intro Γ' w' u L e1 e2 e3 e4 e5;refine ih (c.setIfInBounds j true) Γ' w' (a.put o.dst u) L aj av ap aW ?_ ?_ e5 (wD V e1.size) ?_
     .rw[af];exact e2
     .rw[af];show RepL Γ' (qbh _ (jE o).dst y.1) _;rw[qrR];exact zt.put (waN e1.le S) o.dst e3
     .intro s f aA w2 a2 aZ g0 aY ay q1 q2 I r g3 aX E H;rw[af]at E;exact hq s f aA w2 a2 aZ g0 aY ay q1 q2 (e1.trans I) r g3 aX (e4.trans E) (by rw[H];cases hd:o.dst<;>rfl)
    cases O:zK o with
    |false=>
      have aU:jE o=o:=by unfold jE;rw[O]
      have ag:∀Γ' w' u,Ext Γ w Γ' w'->qko P Γ' w0 w' ops (λ i=>(c.setIfInBounds j true).getD i false=true) (a.put o.dst u) ad:=λ Γ' w' u M=>by
       have R:=X.step (d:=o.dst) (u:=u) M λ k q t ab z Y aI=>by
        let⟨_,d,a8,a7⟩:=ao k q z Y;grind
       have conv:∀k q,(c.setIfInBounds j true).getD k false=true->ops[k]?=some q->zK q=true->c.getD k false=true:=λ k q h2 z Y=>by
        grind
       exact⟨λ k q e d I r g3=>R.blk k q e d (conv k q I r (by simp[zK,g3])) r g3,λ k q e d v I r g3=>R.tmp k q e d v (conv k q I r (by simp[zK,g3])) r g3,λ k k' q q' I r g3 E H g6=>R.inj k k' q q' (conv k q I g3 H) (conv k' q' r E g6) g3 E H g6⟩
      obtain⟨W,G⟩|⟨W,rfl⟩:=hy
      .rw[if_pos (qh3 S (qnZ W))];left;rw[aU]at G;refine qGw hC hx hi S G _ _ ?_;grind
      .rw[if_neg (by rw[qh3 S (qnZ W)];exact xp)];exact next Γ w undef ad (.refl _ _) hi (.tup [] [] rfl λ i x u h=>by simp at h) (.refl _) (ag Γ w undef (.refl _ _))
    |true=>
      let⟨e,Z⟩:=qek O;let⟨aR,d,a1,a4⟩:=ao j o B O
      have aE:y=(.dead,none):=by
       obtain⟨W,G⟩|⟨W,rfl⟩:=hy
       .have:(jE o).op=.move (.global 0):=by unfold jE;rw[O]
        rw[this]at G;simp only[opA,qc,aev,wz]at G;exact G.symm
       .have W:=qnZ W;grind [yq]
      subst aE;have aF:yq ops (F (qH C.lo ops.toList) l s0 (λ i=>c.getD i false) n).tm o=some true:=by unfold yq;rw[aR]
      rw[if_pos (qh3 S aF)];left;let⟨td,ah,a3⟩:=hz j o e (by omega) B Z;have hb:Below w.heap.size w (w.alloc (.cells td.zero.toArray e)):=(Below.refl _ _).alloc (wa _) _;unfold Oper.wp;rw[qJo Z ah];refine next Γ _ (.pointer (some ⟨w.heap.size,0,none⟩)) (λ k=>if k=j then w.heap.size else ad k) (qgu hb (wa _)) (hi.later hb) (.dead _) (.refl _) ?_
      have R:=X.step (d:=o.dst) (u:=.pointer (some ⟨w.heap.size,0,none⟩)) (qgu (Γ:=Γ) hb (wa _)) λ k q t ab z Y aI=>by
       grind
      have aq:=hi.free (wa w.heap.size);have conv:∀k,(c.setIfInBounds j true).getD k false=true->k≠j->c.getD k false=true:=λ k h2 aM=>(yr k h2).resolve_left aM
      have an:∀k q,c.getD k false=true->ops[k]?=some q->zK q=true->ad k<w.heap.size:=λ k q h2 h3 h4=>by
       let⟨e',au⟩:=qek h4
       have a5:k<n:=by
        grind
       let⟨aB,aH,aG⟩:=hz k q e' (by omega) h3 au;exact(Array.getElem?_eq_some_iff.1 (X.blk k q e' aB h2 h3 au aH aG).2.1).1
      refine⟨λ k q e' d' I r g3 E H=>?_,λ k q e' d' v I r g3 E H=>?_,λ k k' q q' I r g3 E H g6 g7=>?_⟩
      .by_cases p:k=j
       .subst p;rw[B]at r;cases r;rw[Z]at g3;cases g3;rw[ah]at E;cases E;simp only[if_true];exact⟨V,heap_alloc_new w _,aq.1,aq.2⟩
       .simp only[if_neg p];exact R.blk k q e' d' (conv k I p) r g3 E H
      .by_cases p:k=j
       .subst p;rw[B]at r;cases r;simp only[if_true];rw[E]at H;have H:(a.tmps.setIfInBounds d' (.pointer (some ⟨w.heap.size,0,none⟩)))[d']?=some v:=H;grind
       .simp only[if_neg p];exact R.tmp k q e' d' v (conv k I p) r g3 E H
      .by_cases p:k=j
       .grind
       .by_cases T:k'=j
        .grind
        .simp only[if_neg p,if_neg T]at g7;exact X.inj k k' q q' (conv k I p) (conv k' r T) g3 E H g6 g7
end
end Go.AmZ
namespace Go.AmZ
open Go Go.RowKit
section
variable {P:Program}{C:Cfg}{Γ:Gh}{σ:St}{w:World}{ops:Array Oper}{ex:jJ}{l:List (AV×Option St)}{s0:S}
theorem qHH(h:Inv Γ σ w){cs:List AV}{vs:List Value}{b:Nat}{e:TypeId}(E:w.heap[b]?=some (.cells vs.toArray e (0,0)))(m:¬ QB Γ b)(x:∀i,Γ.mem b i=none)(B:RepL Γ cs vs)(F:∀u∈vs,u.oneCell'=true):
  ∃Γ',Le Γ Γ'/\(∀c,QB Γ' c->QB Γ c\/c=b)/\Γ'.mem=Γ.mem/\Inv Γ' {σ with bx:=σ.bx++[cs]} w/\Rep Γ' (.ptr σ.bx.length 0) (.pointer (some ⟨b,0,none⟩)):=by
 let Γ':Gh:={Γ with nb:=Γ.nb+1,β:=λ i=>if i=Γ.nb then b else Γ.β i}
 have g:∀i,i<Γ.nb->Γ'.β i=Γ.β i:=λ i f=>if_neg (by omega);have a:Γ'.β Γ.nb=b:=if_pos rfl;have k:Le Γ Γ':=⟨λ _ _ _ h=>h,ko _,g,wa _,λ _ _=>rfl,λ _ _=>wa _,λ _ _ _=>⟨rfl,rfl,rfl⟩⟩
 refine⟨Γ',k,?_,rfl,⟨?_,h.nr,h.mem,?_,?_,?_,?_,h.apart⟩,?_⟩
 .rintro c (⟨i,f,rfl⟩|q)
  .have f:i<Γ.nb+1:=f;by_cases d:i=Γ.nb
   .right;rw[d,a]
   .left;left;exact⟨i,by omega,(g i (by omega)).symm⟩
  .exact .inl (.inr q)
 .show Γ.nb+1=(σ.bx++[cs]).length;simp[h.nb]
 .intro i cs' f;rw[List.getElem?_append]at f;split at f
  .rename_i s;exact(h.box i cs' f).lift (by rw[h.nb];exact s) k λ o q=>q
  .rename_i s
   have z:i-σ.bx.length=0:=by
    have:=getElem?_lt f;simp at this;omega
   rw[z]at f;simp at f;subst f;have y:i=Γ.nb:=by rw[h.nb];omega
   refine .of ⟨vs.toArray,e,?_,by simpa using B.mono k,by simpa using F⟩;rw[y,a];exact E
 .intro i j f D l;have v:i<Γ.nb+1:=f;have C:j<Γ.nb+1:=D;by_cases d:i=Γ.nb<;>by_cases t:j=Γ.nb
  .rw[d,t]
  .rw[d,a,g j (by omega)]at l;exact(m (.inl ⟨j,by omega,l.symm⟩)).elim
  .rw[t,a,g i (by omega)]at l;exact(m (.inl ⟨i,by omega,l⟩)).elim
  .rw[g i (by omega),g j (by omega)]at l;exact h.inj i j (by omega) (by omega) l
 .intro i f o;have v:i<Γ.nb+1:=f;by_cases d:i=Γ.nb
  .rw[d,a];exact x o
  .rw[g i (by omega)];exact h.boxmem i (by omega) o
 .intro r R p;have n:r<Γ.nr:=by rw[h.nr];exact getElem?_lt p
  refine(h.row r R p).lift n k rfl (λ _ ob q=>q) (λ _ _ x=>x) λ A i f G l=>?_;have v:i<Γ.nb+1:=f;have d:i=Γ.nb:=by omega
  rw[d,a]at l;exact m (.inr ⟨r,n,A,l.symm⟩)
 .rw[<-a,h.nb];exact .ptr _ _ (by show σ.bx.length<Γ.nb+1;rw[h.nb];omega)
theorem qpa{lo:Nat->Bool}{l:List Oper}{o:Oper}(h:qbb l o=true):zm lo o.op=false:=by
 cases b:zm lo o.op with
 |false=>rfl
 |true=>
   exfalso
   have a:jV o.op=true\/qrC o.op=true:=by
    unfold zm at b;split at b<;>first|(cases b;done)|(rename_i e;rw[e];first|exact .inl rfl|exact .inr rfl)
   unfold qbb qgW qrW at h;simp only[wS,wb,wL]at h;obtain⟨⟨c,d⟩,_⟩|⟨c,_⟩:=h
   .obtain a|a:=a
    .rw[c]at a;cases a
    .rw[d]at a;cases a
   .unfold qtf at c;split at c
    .rename_i e;rw[e]at b;cases b
    .rename_i e;rw[e]at b;cases b
    .cases c
theorem qFn{l:List Oper}{o:Oper}(h:qbb l o=true):zK o=false/\∀q∈l,zK q=true->∀d,q.dst=some d->d ∉ qa5 ⟨l⟩ o:=by
 unfold qbb at h;rw[wS]at h;obtain h|h:=h
 .unfold qgW at h;simp only[wb,wL,wo,wS]at h;refine⟨h.2.1,λ q f i d g=>?_⟩;obtain b|b:=h.2.2 q f
  .rw[i]at b;cases b
  .rw[g]at b;simpa using b
 .unfold qrW at h;rw[wb]at h
  have a:zK o=false:=by
   have:=h.1;unfold qtf at this;unfold zK;split at this
   .rename_i e;rw[e]
   .rename_i e;rw[e]
   .cases this
  refine⟨a,λ q f i d g j=>?_⟩;have c:=h.2;unfold qJM at c;rw[a]at c;simp only[xL,ke,wL,List.any_eq_false,wb,not_and,kD]at c;have:=c q f i;rw[g]at this;simp only[vQ,decide_eq_false_iff_not]at this;exact this j
def idA(nb:Nat)(ops:Array Oper)(k:Nat):Nat:=nb+(ops.toList.take k).countP zK
theorem qoV{nb k:Nat}{o:Oper}(a:ops[k]?=some o):idA nb ops (k+1)=idA nb ops k+(if zK o then 1 else 0):=by
 unfold idA;have b:k<ops.toList.length:=by have:=(Array.getElem?_eq_some_iff.1 a).1;simpa using this
 have:ops.toList.take (k+1)=ops.toList.take k++[o]:=by
  rw[kE,show ops.toList[k]?=some o by simpa using a];rfl
 rw[this,List.countP_append,List.countP_singleton];omega
def qGu(ops:Array Oper)(P:Nat->Prop)(nb:Nat)(b a:List AV):Prop:=
 a.length=b.length/\∀t,(∀(k:Nat) (o:Oper),P k->ops[k]?=some o->zK o=true->o.dst=some t->a.getD t .dead=if t<b.length then .ptr (idA nb ops k) 0 else .dead)/\
  ((∀(k:Nat) (o:Oper),P k->ops[k]?=some o->zK o=true->o.dst≠some t)->a.getD t .dead=b.getD t .dead)
theorem qkG(a:List AV)(d t:Nat)(x:AV):(a.set d x).getD t .dead=if d=t then(if t<a.length then x else .dead)else a.getD t .dead:=by
 rw[List.getD_eq_getElem?_getD,List.getElem?_set];by_cases h:d=t
 .rw[if_pos h,if_pos h];subst h;split<;>rfl
 .rw[if_neg h,if_neg h,List.getD_eq_getElem?_getD]
theorem qoh{n nb:Nat}(v:∀(j:Nat) (o:Oper),ops[j]?=some o->zK o=true->o.guard=none/\∃d,o.dst=some d/\∀(k:Nat) (q:Oper),ops[k]?=some q->k≠j->q.dst≠some d):∀(a:List Oper) (i:Nat) (s x:S),(∀(j:Nat) (o:Oper),a[j]?=some o->i+j<n/\ops[i+j]?=some o)->i+a.length=n->zA C ex ops false (a.filter zK) s=some x->s.σ.bx.length=idA nb ops i->
  qGu ops (λ k=>i<=k/\k<n) nb s.tm x.tm
 |[],i,s,x,_,H,h,_=>by
   simp only[wam,zA,wz]at h;subst h;simp at H;exact⟨rfl,λ t=>⟨λ k o p=>by omega,λ _=>rfl⟩⟩
 |o::a,i,s,x,N,H,h,L=>by
   obtain⟨V,b⟩:=N 0 o rfl;have b:ops[i]?=some o:=by simpa using b
   have y:∀(j:Nat) (q:Oper),a[j]?=some q->i+1+j<n/\ops[i+1+j]?=some q:=λ j q g=>by
    have:=N (j+1) q g;rw[show i+1+j=i+(j+1) by omega];exact this
   have z:i+1+a.length=n:=by rw[<-H];simp;omega
   cases c:zK o with
   |false=>
     rw[xR (by rw[c];exact xp)]at h;obtain⟨D,w⟩:=qoh v a (i+1) s x y z h (by rw[qoV b,c];exact L);refine⟨D,λ t=>⟨λ k q p g A B=>(w t).1 k q ⟨?_,p.2⟩ g A B,λ l=>(w t).2 λ k q p=>l k q ⟨by omega,p.2⟩⟩⟩;apply kV;intro T;have:k=i:=by omega
     subst this;rw[b]at g;cases g;rw[c]at A;cases A
   |true=>
     rw[xS c]at h;obtain⟨e,G⟩:=qek c;obtain⟨J,d,f,E⟩:=v i o b c;simp only[zA]at h;have R:yq ops s.tm o=some true:=by unfold yq;rw[J]
     rw[R]at h;simp only[G,opA,qc]at h;cases B:C.ty e with
     |none=>rw[B]at h;cases h
     |some O=>
       rw[B]at h;simp only at h;cases M:O.zero.all zx with
       |false=>rw[M]at h;cases h
       |true=>
         rw[M]at h;simp only[kQ]at h;obtain⟨D,w⟩:=qoh v a (i+1) _ x y z h (by show(s.σ.bx++[_]).length=_;rw[qoV b,c,wd,L];rfl);rw[f]at D w;have m:(qbh s.tm (some d) (.ptr s.σ.bx.length 0)).length=s.tm.length:=wH ..;have r:∀t,(qbh s.tm (some d) (.ptr s.σ.bx.length 0)).getD t .dead=if d=t then(if t<s.tm.length then .ptr s.σ.bx.length 0 else .dead)else s.tm.getD t .dead:=λ t=>qkG s.tm d t _;refine⟨D.trans m,λ t=>⟨λ k q p g A u=>?_,λ l=>?_⟩⟩
         .by_cases I:k=i
          .subst I;rw[b]at g;cases g;rw[f]at u;cases u;rw[(w d).2 λ Q P U F _=>E Q P F (by omega),r,if_pos rfl,L]
          .rw[(w t).1 k q ⟨by omega,p.2⟩ g A u,m]
         .have K:d≠t:=λ W=>l i o ⟨wa _,by omega⟩ b c (by rw[f,W]);rw[(w t).2 λ k q p=>l k q ⟨by omega,p.2⟩,r,if_neg K]
theorem qro(Y:ym P C){n nb:Nat}{z:Gh}{w0:World}{a:Act}{ad:Nat->Nat}:∀(f:List Oper) (i:Nat) (s A:S) (σ:St) (Γ:Gh),(∀(j:Nat) (o:Oper),f[j]?=some o->i+j<n/\ops[i+j]?=some o)->i+f.length=n->zA C ex ops false (f.filter zK) s=some A->
  (∀(j:Nat) (o:Oper),ops[j]?=some o->zK o=true->o.guard=none)->s.σ=σ->s.σ.bx.length=idA nb ops i->Inv Γ σ w->qko P Γ w0 w ops (λ k=>i<=k/\k<n) a ad->Ext z w0 Γ w->
  ∃Γ',Le Γ Γ'/\Ext z w0 Γ' w/\Inv Γ' A.σ w/\qL σ A.σ/\∀(k:Nat) (o:Oper),i<=k->k<n->ops[k]?=some o->zK o=true->Rep Γ' (.ptr (idA nb ops k) 0) (.pointer (some ⟨ad k,0,none⟩))
 |[],i,s,A,σ,Γ,_,O,h,_,m,_,K,D,p=>by
   simp only[wam,zA,wz]at h;subst h;simp at O;exact⟨Γ,.refl Γ,p,by rw[m];exact K,by rw[m];exact .refl _,λ k o r x=>by omega⟩
 |o::f,i,s,A,σ,Γ,hr,O,h,T,m,X,K,D,p=>by
   obtain⟨ab,g⟩:=hr 0 o rfl;have g:ops[i]?=some o:=by simpa using g
   have E:∀(j:Nat) (q:Oper),f[j]?=some q->i+1+j<n/\ops[i+1+j]?=some q:=λ j q B=>by
    have:=hr (j+1) q B;rw[show i+1+j=i+(j+1) by omega];exact this
   have H:i+1+f.length=n:=by rw[<-O];simp;omega
   have t:qko P Γ w0 w ops (λ k=>i+1<=k/\k<n) a ad:=⟨λ k o e d r=>D.blk k o e d ⟨by omega,r.2⟩,λ k o e d u r=>D.tmp k o e d u ⟨by omega,r.2⟩,λ k k' o o' r x=>D.inj k k' o o' ⟨by omega,r.2⟩ ⟨by omega,x.2⟩⟩
   cases l:zK o with
   |false=>
     rw[xR (by rw[l];exact xp)]at h;obtain⟨Γ',g0,g1,g2,g3,Z⟩:=qro Y f (i+1) s A σ Γ E H h T m (by rw[qoV g,l];exact X) K t p;refine⟨Γ',g0,g1,g2,g3,λ k q r x B I=>Z k q ?_ x B I⟩;apply kV;intro aa;have:k=i:=by omega
     subst this;rw[g]at B;cases B;rw[l]at I;cases I
   |true=>
     rw[xS l]at h;obtain⟨e,F⟩:=qek l;simp only[zA]at h;have hw:yq ops s.tm o=some true:=by unfold yq;rw[T i o g l]
     rw[hw]at h;simp only[F,opA,qc]at h;cases V:C.ty e with
     |none=>rw[V]at h;cases h
     |some d=>
       rw[V]at h;simp only at h;cases J:d.zero.all zx with
       |false=>rw[J]at h;cases h
       |true=>
         rw[J]at h;simp only[kQ]at h;have M:=Y.ty e d V;obtain⟨g1,g2,g3,Z⟩:=D.blk i o e d ⟨wa _,by omega⟩ g F M J;obtain⟨b1,b2⟩:=qer (Γ:=Γ) J;obtain⟨y,a1,a2,a3,a4,a5⟩:=qHH K g2 g3 Z b1 b2
         have U:Ext z w0 y w:=⟨p.le.trans a1,p.os,p.tape,p.output,p.size,p.block,λ c W=>by
          rcases a2 c W with W|rfl
          .exact p.own c W
          .exact .inr g1,λ b o u hm=>by rw[a3]at hm;exact p.memg b o u hm,p.drawn⟩
         have N:qko P y w0 w ops (λ k=>i+1<=k/\k<n) a ad:=⟨λ k q e' d' r x h3 h4 h5=>by
          obtain⟨q1,q2,q3,q4⟩:=t.blk k q e' d' r x h3 h4 h5;refine⟨q1,q2,λ G=>?_,λ j=>by rw[a3];exact q4 j⟩;rcases a2 _ G with G|G
          .exact q3 G
          .have:=D.inj k i q o ⟨by omega,r.2⟩ ⟨wa _,by omega⟩ x g (by simp[zK,h3]) l G;omega,t.tmp,t.inj⟩
         obtain⟨L,c0,c1,c2,c3,c4⟩:=qro Y f (i+1) _ A {σ with bx:=σ.bx++[d.zero.map .v]} y E H h T (by simp only;rw[m]) (by show(s.σ.bx++[_]).length=_;rw[qoV g,l,wd,X];rfl) a4 N U;have R:qL σ {σ with bx:=σ.bx++[d.zero.map .v]}:=⟨by simp,wa _,λ j hj _=>by simp only[List.getElem?_append_left hj],λ _ _ _=>rfl,λ _ h=>h,λ _ h=>h⟩
         refine⟨L,a1.trans c0,c1,c2,R.trans c3,λ k q r x B I=>?_⟩;by_cases Q:k=i
         .subst Q;rw[<-X,m];exact a5.mono c0
         .exact c4 k q (by omega) x B I
theorem qui{l:S}:∀(a:List Oper) (s:S),zA C ex ops false (a.filter zK) s=some l->(∀o∈a,zK o=true->o.guard=none)->∀o∈a,∀e,o.op=.alloc e->∃d,C.ty e=some d/\d.zero.all zx=true
 |[],_,_,_,o,b,_,_=>by cases b
 |q::a,s,h,j,o,b,e,c=>by
   cases f:zK q with
   |false=>
     rw[xR (by rw[f];exact xp)]at h;obtain rfl|b:=ww.1 b
     .simp[zK,c]at f
     .exact qui a s h (λ o b=>j o (wg _ b)) o b e c
   |true=>
     rw[xS f]at h;let⟨n,g⟩:=qek f;simp only[zA]at h;have m:yq ops s.tm q=some true:=by unfold yq;rw[j q (wi ..) f]
     rw[m]at h;simp only[g,opA,qc]at h;cases k:C.ty n with
     |none=>rw[k]at h;cases h
     |some d=>
       rw[k]at h;simp only at h;cases i:d.zero.all zx with
       |false=>rw[i]at h;cases h
       |true=>
         rw[i]at h;simp only[kQ]at h;obtain rfl|b:=ww.1 b
         .rw[g]at c;cases c;exact⟨d,k,i⟩
         .exact qui a _ h (λ o b=>j o (wg _ b)) o b e c
theorem qJg{lB:List (AV×Option St)}{s0B:S}{L:Nat->Bool}{n:Nat}(h:∀i,n<=i->L i=false):∀m,F ops.toList lB s0B L (n+m)=F ops.toList lB s0B L n
 |0=>rfl
 |m+1=>by
   show F ops.toList lB s0B L (n+m+1)=_;simp only[F];rw[h (n+m) (by omega)];split
   .rename_i a;cases a
   .exact qJg h m
def qrM(ops:Array Oper)(n nb:Nat)(lA lS:List (AV×Option St)):List (AV×Option St):=
 (List.range n).map (λ k=>match ops[k]? with
  |some o=>match zK o with
    |true=>(AV.ptr (idA nb ops k) 0,none)
    |false=>((lA.getD k (.dead,none)).1,none)
  |none=>(.dead,none))++lS
theorem qoi{n nb k:Nat}{lA lS:List (AV×Option St)}{o:Oper}(a:k<n)(b:ops[k]?=some o):(qrM ops n nb lA lS)[k]?=some (match zK o with
  |true=>(AV.ptr (idA nb ops k) 0,none)
  |false=>((lA.getD k (.dead,none)).1,none)):=by
 unfold qrM;rw[List.getElem?_append_left (by simpa using a),List.getElem?_map,List.getElem?_range a];simp only[kO,b]
theorem qov{n nb k:Nat}{lA lS:List (AV×Option St)}:(qrM ops n nb lA lS)[n+k]?=lS[k]?:=by
 unfold qrM;rw[List.getElem?_append_right (by simp)];simp
theorem qFt{n nb:Nat}{lA lS:List (AV×Option St)}{s0 s0B:S}(s:s0B.tm=s0.tm)(K:n=qcj C.lo ops.toList)(J:qtM C ⟨qH C.lo ops.toList⟩ lA)(u:∀(j:Nat) (o:Oper),ops[j]?=some o->zK o=true->o.guard=none/\∃d,o.dst=some d/\∀(k:Nat) (q:Oper),ops[k]?=some q->k≠j->q.dst≠some d)
  (L:Nat->Bool):∀k,k<=n->qGu ops (λ i=>i<k/\L i=true) nb (F (qH C.lo ops.toList) lA s0 L k).tm (F ops.toList (qrM ops n nb lA lS) s0B L k).tm
 |0,_=>⟨by show s0B.tm.length=s0.tm.length;rw[s],λ t=>⟨λ k o M=>by omega,λ _=>by show s0B.tm.getD t _=s0.tm.getD t _;rw[s]⟩⟩
 |k+1,M=>by
   obtain⟨w,p⟩:=qFt (lS:=lS) s K J u L k (by omega);have I:qcj C.lo ops.toList<=ops.size:=by simpa using qq3 C.lo ops.toList
   obtain⟨o,m⟩:=jf (ops:=ops) (k:=k) (by omega);have z:ops.toList[k]?=some o:=by simpa using m
   have x:(qH C.lo ops.toList)[k]?=some (jE o):=by rw[qlk (by omega),z];rfl
   obtain⟨y,H,_⟩:=J k (jE o) (by simpa using x);have N:=qoi (n:=n) (nb:=nb) (lA:=lA) (lS:=lS) (k:=k) (by omega) m;simp only[F,x,H,z,N];cases D:L k with
   |false=>
     refine⟨w,λ t=>⟨λ i q c=>(p t).1 i q ⟨?_,c.2⟩,λ b=>(p t).2 λ i q c=>b i q ⟨by omega,c.2⟩⟩⟩;apply kV;intro G;have:i=k:=by omega
     subst this;rw[D]at c;exact xp c.2
   |true=>
     simp only[yb,qrR];cases l:zK o with
     |true=>
       obtain⟨_,d,B,r⟩:=u k o m l;simp only[B,qbh];refine⟨by rw[wH,wH,w],λ t=>⟨λ i q c e g a=>?_,λ b=>?_⟩⟩
       .rw[qkG,wH];by_cases h:i=k
        .subst h;rw[m]at e;cases e;rw[B]at a;cases a;rw[if_pos rfl,w]
        .have f:d≠t:=λ v=>r i q e h (by rw[a,v]);rw[if_neg f];exact(p t).1 i q ⟨by omega,c.2⟩ e g a
       .have f:d≠t:=λ v=>b k o ⟨by omega,D⟩ m l (by rw[B,v]);rw[qkG,if_neg f,qkG,if_neg f];exact(p t).2 λ i q c=>b i q ⟨by omega,c.2⟩
     |false=>
       have E:(lA.getD k (.dead,none)).1=y.1:=by rw[List.getD_eq_getElem?_getD,H];rfl
       rw[E];cases B:o.dst with
       |none=>
         refine⟨w,λ t=>⟨λ i q c e g a=>(p t).1 i q ⟨?_,c.2⟩ e g a,λ b=>(p t).2 λ i q c=>b i q ⟨by omega,c.2⟩⟩⟩;apply kV;intro G;have:i=k:=by omega
         subst this;rw[m]at e;cases e;rw[l]at g;cases g
       |some d=>
         simp only[qbh];refine⟨by rw[wH,wH,w],λ t=>⟨λ i q c e g a=>?_,λ b=>?_⟩⟩
         .have h:i≠k:=λ v=>by subst v;rw[m]at e;cases e;rw[l]at g;cases g
          obtain⟨_,O,A,r⟩:=u i q e g;rw[a]at A;cases A;have f:d≠t:=λ v=>r k o m (xU h) (by rw[B,v]);rw[qkG,if_neg f,wH];exact(p t).1 i q ⟨by omega,c.2⟩ e g a
         .rw[qkG,qkG,w];split
          .rfl
          .exact(p t).2 λ i q c=>b i q ⟨by omega,c.2⟩
theorem qgd{n:Nat}{lB:List (AV×Option St)}{s0B:S}{L:Nat->Bool}(h:∀k y,k<n->lB[k]?=some y->y.2=none):∀k,k<=n->(F ops.toList lB s0B L k).σ=s0B.σ
 |0,_=>rfl
 |k+1,b=>by
   simp only[F];split
   .rename_i o y _ a _;rw[putS_σ _ _ _ (h k y (by omega) a)];exact qgd h k (by omega)
   .exact qgd h k (by omega)
theorem recB_σ{n nb:Nat}{lA lS:List (AV×Option St)}(e:n<=ops.size):∀k y,k<n->(qrM ops n nb lA lS)[k]?=some y->y.2=none:=by
 intro k y d a;let⟨o,c⟩:=jf (ops:=ops) (k:=k) (by omega);rw[qoi d c]at a;cases b:zK o<;>(rw[b]at a;cases a;rfl)
theorem qH1{lo:Nat->Bool}{o:Oper}(h:zm lo (jE o).op=true):jE o=o:=by
 unfold jE at h |-
 split at h
 .cases h
 .rfl
theorem qJd{n:Nat}{lA:List (AV×Option St)}(t:n=qcj C.lo ops.toList)(s:qtM C ⟨qH C.lo ops.toList⟩ lA){L:Nat->Bool}(p:∀(i:Nat) (q:Oper),i<n->ops[i]?=some q->qbb ops.toList q=false->L i=true):∀k,k<=n->(F (qH C.lo ops.toList) lA s0 L k).σ=(F (qH C.lo ops.toList) lA s0 qp k).σ
 |0,_=>rfl
 |k+1,w=>by
   have m:qcj C.lo ops.toList<=ops.size:=by simpa using qq3 C.lo ops.toList
   let⟨o,l⟩:=jf (ops:=ops) (k:=k) (by omega);have d:ops.toList[k]?=some o:=by simpa using l
   have c:(⟨qH C.lo ops.toList⟩:Array Oper)[k]?=some (jE o):=by
    have:(qH C.lo ops.toList)[k]?=some (jE o):=by rw[qlk (by omega),d];rfl
    simpa using this
   let⟨y,_,u,r⟩:=Jq (ops:=⟨qH C.lo ops.toList⟩) (s0:=s0) s c;have j:=qJd t s p k (by omega);have h:=r L;have g:=r qp;show(F (⟨qH C.lo ops.toList⟩:Array Oper).toList lA s0 L (k+1)).σ=(F (⟨qH C.lo ops.toList⟩:Array Oper).toList lA s0 qp (k+1)).σ;rw[h,g,if_pos (show qp k=true from rfl)];cases b:y.2 with
   |none=>
     rw[putS_σ _ _ _ b];split
     .rw[putS_σ _ _ _ b];exact j
     .exact j
   |some σ'=>
     have a:=u (by rw[b];rfl);have f:=qH1 a
     have e:qbb ops.toList o=false:=by
      cases v:qbb ops.toList o with
      |false=>rfl
      |true=>rw[f,qpa v]at a;cases a
     rw[if_pos (p k o (by omega) l e)];simp[yb,b,turn]
def qjX(n:Nat)(σ σ':St):Prop:=σ'.rw=σ.rw/\∀b,b<n->σ'.bx[b]?=σ.bx[b]?
theorem qJG{e:List AV}{σ σ':St}{op:Op}{x:AV}(j:qtf op=true)(k:qjX σ.bx.length σ σ')(h:opA C ex e σ op=some (x,none)):opA C ex e σ' op=some (x,none):=by
 unfold qtf at j;split at j<;>try cases j
 .rename_i t a;simp only[opA,qc]at h |-
  split at h<;>try cases h
  rename_i d m
  have f:∀y,ju d σ (aev e a)=some y->ju d σ' (aev e a)=some y:=λ y c=>by
   cases g:aev e a with
   |ptr b o=>
     rw[g]at c;simp only[ju]at c |-
     cases l:σ.bx[b]? with
     |none=>rw[l]at c;cases c
     |some cs=>rw[k.2 b (getElem?_lt l)];exact c
   |rpt r i o n=>
     rw[g]at c;simp only[ju,k.1]at c |-;exact c
   |_=>rw[g]at c;exact c
  split at h<;>cases h;rename_i c;rw[f _ c]
 .rename_i t a i;have h:qc C e σ (.indexAddr t a i)=some (x,none):=h;show qc C e σ' (.indexAddr t a i)=some (x,none);rw[qEW k.1];exact h
theorem qen{n:Nat}:∀(a:List Oper) (s c:S),zA C ex ops false (a.filter zK) s=some c->n<=s.σ.bx.length->qjX n s.σ c.σ
 |[],s,c,h,_=>by
   simp only[wam,zA,wz]at h;subst h;exact⟨rfl,λ _ _=>rfl⟩
 |o::a,s,c,h,i=>by
   cases d:zK o with
   |false=>
     rw[xR (by rw[d];exact xp)]at h;exact qen a s c h i
   |true=>
     rw[xS d]at h;let⟨e,f⟩:=qek d;simp only[zA]at h;split at h
     .simp only[f,opA,qc]at h;cases j:C.ty e with
      |none=>rw[j]at h;cases h
      |some k=>
        rw[j]at h;simp only at h;cases g:k.zero.all zx with
        |false=>rw[g]at h;cases h
        |true=>
          rw[g]at h;simp only[kQ]at h;let⟨p,m⟩:=qen (n:=n) a _ c h (by show n<=(s.σ.bx++[_]).length;rw[wd];omega);exact⟨p,λ b l=>by rw[m b l];show(s.σ.bx++[_])[b]?=_;rw[List.getElem?_append_left (by omega)]⟩
     .exact qen (n:=n) a ⟨qbh s.tm o.dst qg0,s.σ⟩ c h i
     .cases h
theorem qFZ(hC:ym P C)(hx:qch P ex){id:Nat}{s M N s':S}(ar:qiz C.lo ops.toList=true)(ba:qce C.lo ops=true)(hk:qeL C.lo s.tm ⟨qH C.lo ops.toList⟩ true=true)(h:zA C ex ⟨qH C.lo ops.toList⟩ true (qH C.lo ops.toList) s=some M)(hm:zA C ex ops false (alL C.lo ops.toList) M=some N)(h':zA C ex ops true (qqW C.lo ops.toList) N=some s'){a:Act}{Q:Exit->Act->World->Prop}(hi:Inv Γ s.σ w)(W:zt Γ s.tm a)
  (A:∀Γ' w' a',Ext Γ w Γ' w'->Inv Γ' s'.σ w'->zt Γ' s'.tm a'->qL s.σ s'.σ->a'.defers=a.defers->Q .normal a' w'):(Code.region id ops true).wp P Q a w:=by
 let⟨lA,h1,h2,h3,h4⟩:=qiv (qH C.lo ops.toList) s M h;let⟨lS,e1,e2,e3,_⟩:=qiv (qqW C.lo ops.toList) N s' h';have hT:qdb C ex ⟨qH C.lo ops.toList⟩ lA s:=qqq h3 h4;rw[qo9]at h2;have hk:qbw C.lo s.tm ⟨qH C.lo ops.toList⟩=true:=hk;let⟨bD,ap,au⟩:=qyY ar;generalize hn:qcj C.lo ops.toList=n at h2 ap;have bk:n<=ops.size:=by rw[<-hn];simpa using qq3 C.lo ops.toList
 have hg:∀(j:Nat) (o:Oper),ops[j]?=some o->zK o=true->o.guard=none:=λ j o G ha=>(au j o G ha).1
 have aL:∀(j:Nat) (o:Oper),(ops.toList.take n)[j]?=some o->0+j<n/\ops[0+j]?=some o:=λ j o G=>by
  rw[wE];rw[List.getElem?_take]at G;split at G
  .exact⟨‹_›,by simpa using G⟩
  .cases G
 have aj:0+(ops.toList.take n).length=n:=by simp;omega
 have hm:zA C ex ops false ((ops.toList.take n).filter zK) M=some N:=by rw[<-hn];exact hm
 have aZ:qqW C.lo ops.toList=ops.toList.drop n:=by unfold qqW;rw[hn]
 rw[aZ]at e1 e2 e3
 have hz:∀k o e,k<qcj C.lo ops.toList->ops[k]?=some o->o.op=.alloc e->∃d,yG P e=some d/\d.zero.all zx=true:=λ k o e hk G aO=>by
  rw[hn]at hk;have a6:o∈ops.toList.take n:=wc (i:=k) (by rw[List.getElem?_take,if_pos hk];simpa using G)
  let⟨d,g,B⟩:=qui _ M hm (λ q A E=>by
   let⟨j,hj⟩:=List.getElem?_of_mem A;exact hg (0+j) q (aL j q hj).2 E) o a6 e aO
  exact⟨d,hC.ty e d g,B⟩
 have ac:∀L:Nat->Bool,(∀(i:Nat) (q:Oper),i<n->ops[i]?=some q->qbb ops.toList q=false->L i=true)->(F (qH C.lo ops.toList) lA s L n).σ=M.σ:=λ L hL=>by
  rw[qJd hn.symm hT.recd hL n (wa _),h2]
 have aR:∀k,F (qH C.lo ops.toList) lA s (λ i=>(Array.replicate ops.size false).getD i false) k=s:=by
  intro k
  induction k with
  |zero=>rfl
  |succ k V=>
    simp only[F]
    have:(Array.replicate ops.size false).getD k false=false:=by
     rw[wJ,Array.getElem?_replicate];split<;>rfl
    rw[this];split
    .rename_i hf;cases hf
    .exact V
 have H:∀i,(Array.replicate ops.size false).getD i false=false:=λ i=>by
  rw[wJ,Array.getElem?_replicate];split<;>rfl
 let nb:=M.σ.bx.length;have aG:M.σ.bx.length=idA nb ops 0:=rfl;let lB:=qrM ops n nb lA lS;let s0B:S:=⟨s.tm,N.σ⟩
 have K:∀k y,k<n->lB[k]?=some y->y.2=none:=recB_σ bk;have aD:∀L k,k<=n->qGu ops (λ i=>i<k/\L i=true) nb (F (qH C.lo ops.toList) lA s L k).tm (F ops.toList lB s0B L k).tm:=qFt rfl hn.symm hT.recd au
 have bt:F ops.toList lB s0B qp n=N:=by
  have hr:=qoh (nb:=nb) au (ops.toList.take n) 0 M N aL aj hm aG;have T:=aD qp n (wa _);rw[h2]at T;have ay:(F ops.toList lB s0B qp n).σ=N.σ:=qgd K n (wa _)
  have aW:(F ops.toList lB s0B qp n).tm=N.tm:=by
   have aq:(F ops.toList lB s0B qp n).tm.length=N.tm.length:=by rw[T.1,hr.1]
   have bd:∀t,(F ops.toList lB s0B qp n).tm.getD t .dead=N.tm.getD t .dead:=λ t=>by
    by_cases ag:∃(k:Nat) (o:Oper),k<n/\ops[k]?=some o/\zK o=true/\o.dst=some t
    .let⟨k,o,q1,R,O,q4⟩:=ag;rw[(T.2 t).1 k o ⟨q1,rfl⟩ R O q4,(hr.2 t).1 k o ⟨we _,q1⟩ R O q4]
    .rw[(T.2 t).2 λ k o hk R O q4=>ag ⟨k,o,hk.1,R,O,q4⟩,(hr.2 t).2 λ k o hk R O q4=>ag ⟨k,o,hk.2,R,O,q4⟩]
   apply List.ext_getElem aq;intro i g B;have:=bd i;rw[List.getD_eq_getElem?_getD,List.getD_eq_getElem?_getD,List.getElem?_eq_getElem g,List.getElem?_eq_getElem B]at this;exact this
  show F ops.toList lB s0B qp n=N;generalize F ops.toList lB s0B qp n=z at *;let⟨z1,z2⟩:=z;let⟨q1,R⟩:=N;simp only at ay aW;rw[ay,aW]
 have aa:∀i,i<=(ops.toList.drop n).length->F ops.toList lB s0B qp (n+i)=F (ops.toList.drop n) lS N qp i:=by
  intro i
  induction i with
  |zero=>intro _;exact bt
  |succ i V=>
    intro af;show F ops.toList lB s0B qp (n+i+1)=_;have hl:lB[n+i]?=lS[i]?:=qov;simp only[F,List.getElem?_drop,hl,V (by omega)];rfl
 have aq:n+(ops.toList.drop n).length=ops.size:=by simp;omega
 have be:F ops.toList lB s0B qp ops.size=s':=by rw[<-aq,aa _ (wa _)];exact e2
 have D:qtM C ops lB:=by
  intro i o G;have bR:i<ops.size:=(Array.getElem?_eq_some_iff.1 G).1;by_cases bc:i<n
  .have hy:=qoi (nb:=nb) (lA:=lA) (lS:=lS) bc G;exact⟨_,hy,λ hs=>by rw[K i _ bc hy]at hs;cases hs⟩
  .obtain⟨j,rfl⟩:∃j,i=n+j:=⟨i-n,by omega⟩
   let⟨y,g,_,g3⟩:=e3 j o (by rw[List.getElem?_drop];simpa using G);exact⟨y,by rw[<-g];exact qov,g3⟩
 have aM:∀(L:Nat->Bool) (j:Nat) (o:Oper),qcg ops L->(∀(i:Nat) (q:Oper),i<n->ops[i]?=some q->qbb ops.toList q=false->L i=true)->ops[j]?=some o->L j=false->(∀e∈jw o,L e=true)->
   ∃y,qa9 C ex ops o (F ops.toList lB s0B L ops.size) y/\F ops.toList lB s0B (λ i=>decide (i=j)||L i) ops.size=yb (F ops.toList lB s0B L ops.size) o y:=by
  intro L j o hd aw G hL hp;have bQ:j<ops.size:=(Array.getElem?_eq_some_iff.1 G).1;let⟨y,hy,bC⟩:=D j o G;refine⟨y,?_,qFK (s0:=s0B) D ba hd G hL hp hy bC⟩;have ab:∀t∈qa5 ops o,(F ops.toList lB s0B L ops.size).tm.getD t .dead=(F ops.toList lB s0B qp j).tm.getD t .dead:=λ t W=>qlE (s0:=s0B) D ba hd G hL hp W;by_cases bb:j<n
  .-- it qa5 at no memory
   have hf:qbb ops.toList o=true:=by
    cases hf:qbb ops.toList o with
    |true=>rfl
    |false=>rw[aw j o bb G hf]at hL;cases hL
   let⟨f2,f3⟩:=qFn hf;have bA:ops.toList[j]?=some o:=by simpa using G
   have bg:jE o=o:=by unfold jE;rw[f2]
   have bw:(qH C.lo ops.toList)[j]?=some o:=by
    rw[qlk (by omega),bA];show some (jE o)=_;rw[bg]
   have aN:(⟨qH C.lo ops.toList⟩:Array Oper)[j]?=some o:=by simpa using bw
   have bi:qcg ⟨qH C.lo ops.toList⟩ L:=by
    intro i q A bL e he;obtain⟨av,q',g,rfl⟩:=qup (lo:=C.lo) (l:=ops.toList) (j:=i) (o:=q) (by simpa using A);rw[qmU]at he;exact hd i q' (by simpa using g) bL e he
   have aF:(⟨qH C.lo ops.toList⟩:Array Oper).size=n:=by show(qH C.lo ops.toList).length=n;rw[qo9,hn]
   let⟨z,z1,zs,_⟩:=qB7 hT hk bi aN hL hp;rw[aF]at zs;let⟨z',q1,_,O⟩:=hT.st j o aN;rw[z1]at q1;cases q1
   have az:z.2=none:=by
    cases hc:z.2 with
    |none=>rfl
    |some τ=>have:=O (by rw[hc];rfl);rw[qpa hf]at this;cases this
   have aK:y=z:=by
    have h0:=qoi (nb:=nb) (lA:=lA) (lS:=lS) bb G;rw[f2]at h0;have hz:lA.getD j (.dead,none)=z:=by rw[List.getD_eq_getElem?_getD,z1];rfl
    simp only[hz]at h0;have hy:(qrM ops n nb lA lS)[j]?=some y:=hy;rw[h0]at hy;cases hy;rw[<-az]
   subst aK
   have al:∀t∈qa5 ops o,(F ops.toList lB s0B L ops.size).tm.getD t .dead=(F (qH C.lo ops.toList) lA s qp j).tm.getD t .dead:=λ t W=>by
    rw[ab t W];refine((aD qp j (by omega)).2 t).2 λ k q a9 A E aB=>?_;exact f3 q (wc (i:=k) (by simpa using A)) E t aB W
   have ae:∀t∈qa5 ⟨qH C.lo ops.toList⟩ o,(F (qH C.lo ops.toList) lA s L n).tm.getD t .dead=(F (qH C.lo ops.toList) lA s qp j).tm.getD t .dead:=λ t W=>by
    have:=qlE (s0:=s) hT.recd (qj0 hk) bi aN hL hp W;rw[aF]at this;exact this
   have br:=qj5 (ops:=⟨qH C.lo ops.toList⟩) (o:=o) ae
   have hw:∀b,yq ⟨qH C.lo ops.toList⟩ (F (qH C.lo ops.toList) lA s L n).tm o=some b->yq ops (F ops.toList lB s0B L ops.size).tm o=some b:=λ b T=>by
    rw[qj5 al];rw[br]at T;exact qnZ (by rw[bg];exact T)
   obtain⟨g,B⟩|⟨g,B⟩:=zs
   .refine .inl ⟨hw _ g,?_⟩
    have an:∀τ,opA C ex (F ops.toList lB s0B L ops.size).tm τ o.op=opA C ex (F (qH C.lo ops.toList) lA s L n).tm τ o.op:=λ τ=>quk (C:=C) (ex:=ex) (op:=o.op) (σ:=τ) (qrl (xs:=o.op.operands.toList) λ t W=>(al t (by
     simp only[qa5,wk];exact .inl (.inr W))).trans (ae t (by
     simp only[qa5,wk];exact .inl (.inr W))).symm)
    have B:opA C ex (F (qH C.lo ops.toList) lA s L n).tm (F (qH C.lo ops.toList) lA s L n).σ o.op=some y:=B;rw[ac L aw]at B;rw[an];let⟨x,zz⟩:=y;have az:zz=none:=az;subst az;have I:=hf;unfold qbb at I;rw[wS]at I;obtain I|I:=I
    .unfold qgW at I;simp only[wb,wL]at I;exact qBH I.1.1 (qpa hf) B
    .-- it lies behind stores into the region's boxes alone
     have aC:qtf o.op=true:=by
      unfold qrW at I;rw[wb]at I;exact I.1
     refine qJG aC ?_ B
     have bB:qgW ops.toList o=false:=by
      cases hc:qgW ops.toList o with
      |false=>rfl
      |true=>
        unfold qgW at hc;simp only[wb,wL]at hc;have:=hc.1.1;unfold qtf at aC;split at aC
        .rename_i e;rw[e]at this;cases this
        .rename_i e;rw[e]at this;cases this
        .cases aC
     have a5:∀(m:Nat) (q:Oper),ops[n+m]?=some q->L (n+m)=true->qvb ops.toList q=true:=λ m q A Z=>by
      obtain T|⟨_,q',am,h'⟩:=ap (n+m) q A (by omega) j (by omega)
      .have:=qjL hd (n+m) q A (hd (n+m) q A Z) T;rw[hL]at this;cases this
      .rw[G]at am;cases am;obtain h'|⟨_,h'⟩:=h'
       .rw[bB]at h';cases h'
       .exact h'
     have aE:∀(m:Nat) (q:Oper),ops[n+m]?=some q->L (n+m)=true->∀p,p<m->L (n+p)=true:=λ m q A Z p a4=>by
      obtain T|⟨T,_⟩:=ap (n+m) q A (by omega) (n+p) (by omega)
      .exact qjL hd (n+m) q A (hd (n+m) q A Z) T
      .omega
     have aA:∀(k:Nat) (q:Oper) (d:Tmp),k<n->ops[k]?=some q->zK q=true->q.dst=some d->∀m,n+m<=ops.size->(F ops.toList lB s0B qp (n+m)).tm.getD d .dead=.dead\/∃b,nb<=b/\(F ops.toList lB s0B qp (n+m)).tm.getD d .dead=.ptr b 0:=λ k q d Y A E aB m=>by
      induction m with
      |zero=>
        intro _;have:=((aD qp n (wa _)).2 d).1 k q ⟨Y,rfl⟩ A E aB;rw[wQ,this];split
        .exact .inr ⟨_,by unfold idA;omega,rfl⟩
        .exact .inl rfl
      |succ m V=>
        intro af;let⟨R,a0⟩:=jf (ops:=ops) (k:=n+m) (by omega);let⟨y2,_,_,hF⟩:=Jq (s0:=s0B) D a0;show(F ops.toList lB s0B qp (n+m+1)).tm.getD d .dead=_\/∃b,nb<=b/\(F ops.toList lB s0B qp (n+m+1)).tm.getD d .dead=_;let⟨_,d',bj,bs⟩:=au k q A E;rw[aB]at bj;cases bj;rw[hF qp,if_pos (show qp (n+m)=true from rfl),qlh _ _ _ _ (bs (n+m) R a0 (by omega))];exact V (by omega)
     have aU:∀m,n+m<=ops.size->(∀(p:Nat) (q:Oper),p<m->ops[n+p]?=some q->qvb ops.toList q=true)->qjX nb M.σ (F ops.toList lB s0B qp (n+m)).σ:=by
      intro m
      induction m with
      |zero=>
        intro _ _;rw[wQ,qgd K n (wa _)];exact(qen (ops.toList.take n) M N hm (wa _):qjX nb M.σ N.σ)
      |succ m V=>
        intro af aH;let⟨q,A⟩:=jf (ops:=ops) (k:=n+m) (by omega);let⟨z,w1,w2,w3⟩:=e3 m q (by rw[List.getElem?_drop];simpa using A);let⟨y2,u1,_,hF⟩:=Jq (s0:=s0B) D A;have:lB[n+m]?=lS[m]?:=qov;rw[this,w1]at u1;cases u1;rw[<-aa m (by omega)]at w2;have V:=V (by omega) λ p q a4=>aH p q (by omega);show qjX nb M.σ (F ops.toList lB s0B qp (n+m+1)).σ;rw[hF qp,if_pos (show qp (n+m)=true from rfl)];cases X:z.2 with
        |none=>rw[putS_σ _ _ _ X];exact V
        |some ax=>
          have e:(yb (F ops.toList lB s0B qp (n+m)) q z).σ=ax:=by simp[yb,X,turn]
          rw[e];have ao:=aH m q (by omega) A;unfold qvb at ao;split at ao<;>try cases ao
          rename_i t c v bz;rw[vM]at ao;let⟨qa,bu,E⟩:=ao;rw[wb]at E;let⟨k,Y⟩:=List.getElem?_of_mem bu;have Y:ops[k]?=some qa:=by simpa using Y
          let⟨bH,d,bh,_⟩:=au k qa Y E.1
          have bJ:d=c:=by
           have:=E.2;unfold ql8 at this;rw[bh]at this;exact wn this
          subst bJ;let⟨x2,bo⟩:=z;have X:bo=some ax:=X;subst X
          have bF:k<n:=by
           apply kV;intro bP;obtain⟨r,rfl⟩:∃r,k=n+r:=⟨k-n,by omega⟩
           have bO:n+r<ops.size:=(Array.getElem?_eq_some_iff.1 Y).1;let⟨za,a1,a2,a3⟩:=e3 r qa (by rw[List.getElem?_drop];simpa using Y);let⟨ea,bf⟩:=qek E.1;have bE:zm C.lo qa.op=false:=by rw[bf];rfl
           obtain⟨_,a2⟩|⟨a2,_⟩:=a2
           .rw[bf]at a2;simp only[opA,qc]at a2;split at a2<;>try cases a2
            split at a2<;>cases a2;have:=a3 rfl;rw[bE]at this;cases this
           .unfold yq at a2;rw[bH]at a2;cases a2
          have U:=aA k qa d bF Y E.1 bh m (by omega);obtain⟨_,w2⟩|⟨_,w2⟩:=w2
          .obtain⟨b,off,g,bM,g3⟩|⟨r',i',o',bT,g⟩:=qhU bz w2
           .obtain U|⟨b',bK,U⟩:=U
            .rw[U]at g;cases g
            .rw[U]at g;cases g;exact⟨bM.trans V.1,λ b T=>by rw[g3 b (by omega)];exact V.2 b T⟩
           .obtain U|⟨b',bK,U⟩:=U<;>(rw[U]at g;cases g)
          .cases w2
     have bN:∀m,n+m<=ops.size->qjX nb M.σ (F ops.toList lB s0B L (n+m)).σ:=by
      intro m
      induction m with
      |zero=>
        intro _;rw[wQ,qgd K n (wa _)];exact(qen (ops.toList.take n) M N hm (wa _):qjX nb M.σ N.σ)
      |succ m V=>
        intro af;let⟨q,A⟩:=jf (ops:=ops) (k:=n+m) (by omega);let⟨z,_,_,hF⟩:=Jq (s0:=s0B) D A;show qjX nb M.σ (F ops.toList lB s0B L (n+m+1)).σ;rw[hF L];split
        .rename_i Z;cases X:z.2 with
         |none=>rw[putS_σ _ _ _ X];exact V (by omega)
         |some ax=>
           have W:=aU (m+1) af λ p q' a4 am=>a5 p q' am (by
            by_cases bv:p=m
            .subst bv;exact Z
            .exact aE m q A Z p (by omega))
           have bm:=hF qp;rw[if_pos (show qp (n+m)=true from rfl)]at bm;have e:∀s:S,(yb s q z).σ=ax:=λ s=>by simp[yb,X,turn]
           have W:qjX nb M.σ (F ops.toList lB s0B qp (n+m+1)).σ:=W;rw[bm,e]at W;rw[e];exact W
        .exact V (by omega)
     have:=bN (ops.size-n) (by omega);rw[show n+(ops.size-n)=ops.size by omega]at this;exact this
   .exact .inr ⟨hw _ g,B⟩
  .obtain⟨i,rfl⟩:∃i,j=n+i:=⟨j-n,by omega⟩
   have bS:i<(ops.toList.drop n).length:=by omega
   let⟨z,z1,z2,z3⟩:=e3 i o (by rw[List.getElem?_drop];simpa using G)
   have aK:y=z:=by
    have:lB[n+i]?=lS[i]?:=qov;rw[this,z1]at hy;cases hy;rfl
   subst aK;rw[<-aa i (by omega)]at z2
   have ay:(F ops.toList lB s0B L ops.size).σ=(F ops.toList lB s0B qp (n+i)).σ:=by
    have a8:∀m,n<=m->m<n+i->L m=true:=λ m a7 aP=>by
     obtain T|⟨T,_⟩:=ap (n+i) o G (by omega) m aP
     .exact qjL hd (n+i) o G hp T
     .omega
    have aQ:∀m,n+i<m->m<ops.size->L m=false:=λ m a7 aP=>by
     let⟨q,A⟩:=jf (ops:=ops) (k:=m) aP;cases Z:L m with
     |false=>rfl
     |true=>
       obtain T|⟨T,_⟩:=ap m q A (by omega) (n+i) a7
       .have:=qjL hd m q A (hd m q A Z) T;rw[hL]at this;cases this
       .omega
    have k1:∀m,m<=i->(F ops.toList lB s0B L (n+m)).σ=(F ops.toList lB s0B qp (n+m)).σ:=by
     intro m
     induction m with
     |zero=>intro _;rw[wQ,qgd K n (wa _),qgd K n (wa _)]
     |succ m V=>
       intro af;let⟨q,A⟩:=jf (ops:=ops) (k:=n+m) (by omega);let⟨y',_,_,hF⟩:=Jq (s0:=s0B) D A;show(F ops.toList lB s0B L (n+m+1)).σ=(F ops.toList lB s0B qp (n+m+1)).σ;rw[hF L,hF qp,if_pos (a8 (n+m) (by omega) (by omega)),if_pos (show qp (n+m)=true from rfl)];show turn _ _=turn _ _;rw[V (by omega)]
    have k2:∀m,n+i+m<=ops.size->(F ops.toList lB s0B L (n+i+m)).σ=(F ops.toList lB s0B L (n+i)).σ:=by
     intro m
     induction m with
     |zero=>intro _;rfl
     |succ m V=>
       intro af;let⟨q,A⟩:=jf (ops:=ops) (k:=n+i+m) (by omega);let⟨y',_,_,hF⟩:=Jq (s0:=s0B) D A;show(F ops.toList lB s0B L (n+i+m+1)).σ=_
       have hf:L (n+i+m)=false:=by
        cases m with
        |zero=>exact hL
        |succ m=>exact aQ _ (by omega) (by omega)
       rw[hF L,hf];simp only[xo,if_false];exact V (by omega)
    have:=k2 (ops.size-(n+i)) (by omega);rw[show n+i+(ops.size-(n+i))=ops.size by omega]at this;rw[this,k1 i (wa _)]
   have aV:=qj5 (ops:=ops) (o:=o) ab
   have an:=quk (C:=C) (ex:=ex) (op:=o.op) (σ:=(F ops.toList lB s0B L ops.size).σ) (qrl (xs:=o.op.operands.toList) λ t W=>ab t (by
    simp only[qa5,wk];exact .inl (.inr W)))
   obtain⟨g,B⟩|⟨g,B⟩:=z2
   .refine .inl ⟨by rw[aV];exact g,?_⟩;rw[an,ay];exact B
   .exact .inr ⟨by rw[aV];exact g,B⟩
 refine wp_region_any hC.mixed ?_;refine qOX hC hx hT hk ar hz (w0:=w) hn.symm ops.size _ Γ _ a (λ _=>0) (by simp) (by rw[xj,vO];simp) (λ i _=>H i) ?_ ?_ ?_ ?_ (wa _) ?_
 .intro i q am av;exfalso;have av:(Array.replicate ops.size false).getD i false=true:=av;rw[H]at av;cases av
 .rw[aR];exact hi.drew
 .rw[aR];exact W
 .exact⟨λ k o e d h=>(by rw[H]at h;cases h),λ k o e d u h=>(by rw[H]at h;cases h),λ k k' o o' h=>(by rw[H]at h;cases h)⟩
 .intro aS f aJ w1 a1 bn x1 x2 x3 x4 x5 x6 x7 x8 x9 ah bq;have bp:Ext Γ w aJ w1:=(Ext.drew Γ w).trans x6
  have J:∀(k:Nat) (o:Oper),k<n->ops[k]?=some o->zK o=true->f.getD k false=true:=λ k o q1 R O=>x4 k o q1 R (by
   cases hc:qbb ops.toList o with
   |false=>rfl
   |true=>rw[(qFn hc).1]at O;cases O)
  have ak:qko P aJ w w1 ops (λ k=>0<=k/\k<n) a1 bn:=⟨λ k o e d hh g B=>x9.blk k o e d (J k o hh.2 g (by simp[zK,B])) g B,λ k o e d u hh g B=>x9.tmp k o e d u (J k o hh.2 g (by simp[zK,B])) g B,λ k k' o o' hh bG g B g3 g4=>x9.inj k k' o o' (J k o hh.2 g g3) (J k' o' bG.2 B g4) g B g3 g4⟩
  rw[ac _ x4]at x7;rw[ac _ x4]at ah;have ah:qL s.σ M.σ:=by rw[aR]at ah;exact ah
  let⟨aT,c0,c1,c2,c3,c4⟩:=qro hC (n:=n) (nb:=nb) (ad:=bn) (ops.toList.take n) 0 M N M.σ aJ aL aj hm hg rfl aG x7 ak bp
  have bl:F ops.toList lB s0B (λ i=>f.getD i false) ops.size=F ops.toList lB s0B (λ i=>f.getD i false) n:=by
   have:=qJg (ops:=ops) (lB:=lB) (s0B:=s0B) (L:=λ i=>f.getD i false) (n:=n) x3 (ops.size-n);rw[show n+(ops.size-n)=ops.size by omega]at this;exact this
  have aI:(F ops.toList lB s0B (λ i=>f.getD i false) ops.size).σ=N.σ:=by rw[bl];exact qgd K n (wa _)
  refine qET hC hx (l:=lB) (s0:=s0B) (Good:=λ L=>∀(i:Nat) (q:Oper),i<n->ops[i]?=some q->qbb ops.toList q=false->L i=true) (λ L j hg i q q1 R O=>by simp[hg i q q1 R O]) bD aM aS f aT w1 a1 x1 x2 x5 x4 (by rw[aI];exact c2) ?_ ?_
  .-- the slots
   rw[bl];let⟨b1,b2⟩:=aD (λ i=>f.getD i false) n (wa _);have aY:RepL aT (F (qH C.lo ops.toList) lA s (λ i=>f.getD i false) n).tm a1.tmps.toList:=waN c0 x8;refine⟨by rw[b1];exact aY.len,λ t x u hx hu=>?_⟩;have aj:=getElem?_lt hx;have ai:(F ops.toList lB s0B (λ i=>f.getD i false) n).tm.getD t .dead=x:=by rw[List.getD_eq_getElem?_getD,hx];rfl
   by_cases ag:∃(k:Nat) (o:Oper),k<n/\ops[k]?=some o/\zK o=true/\o.dst=some t
   .let⟨k,o,q1,R,O,q4⟩:=ag;rw[(b2 t).1 k o ⟨q1,J k o q1 R O⟩ R O q4,if_pos (by rw[<-b1];exact aj)]at ai;let⟨e,aO⟩:=qek O;have hp:=ak.tmp k o e t u ⟨we _,q1⟩ R aO q4 (by simpa using hu);rw[<-ai,hp];exact c4 k o (we _) q1 R O
   .rw[(b2 t).2 λ k o a9 R O q4=>ag ⟨k,o,a9.1,R,O,q4⟩]at ai;have aX:t<(F (qH C.lo ops.toList) lA s (λ i=>f.getD i false) n).tm.length:=by rw[<-b1];exact aj
    rw[List.getD_eq_getElem?_getD,List.getElem?_eq_getElem aX]at ai;exact aY.rep t x u (by rw[List.getElem?_eq_getElem aX];exact congrArg some ai) hu
  .intro Γ' w' a' g B g3 g4 g5;rw[be]at B g3 g4;rw[aI]at g4;exact A Γ' w' a' (c1.trans g) B g3 (ah.trans (c3.trans g4)) (by rw[g5,bq])
end
end Go.AmZ
namespace Go.AmZ
open Go Go.RowKit
def qKs:AV->Bool
 |.rpt _ _ _ _|.ept _ _=>true
 |_=>false
theorem qJs{o:Oper}{a:Tmp×Operand}(h:stP o=some a):(∃t,o.op=.store t (.tmp a.1) a.2)/\o.guard=none/\o.dst=none:=by
 grind [stP]
theorem qOV{o:Oper}{d:Tmp}(h:ixP o=some d):(∃t x i,o.op=.indexAddr t x i)/\o.guard=none/\o.dst=some d:=by
 grind [ixP]
theorem qzq:∀{m b:Nat},qtq m b=true->∀i,i<m->b.testBit i=true
 |0,_,_,i,a=>absurd a (wK _)
 |m+1,b,h,i,a=>by
   simp only[qtq,wb]at h;obtain a|rfl:=Nat.lt_succ_iff_lt_or_eq.1 a
   .exact qzq h.2 i a
   .exact h.1
theorem qFu{ops:Array Oper}{e:Bool}{b:Tmp}(h:qoj ops e=some b):e=true/\∃p o q d f c,qg3 ops=[p,o,q]/\ixP p=some d/\stP o=some (d,f)/\stP q=some (b,c)/\b≠d/\qGR d c=true/\qGG (QP ops.toList []) (ops.toList.length-3) p o q=true:=by
 unfold qoj at h;split at h
 .refine⟨rfl,?_⟩;unfold qOK at h;split at h
  .rename_i p o q i;split at h
   .rename_i d a m l k j;split at h
    .rename_i g;cases h;simp only[wb,wL]at g;grind [Nat.eq_of_beq_eq_true]
    .cases h
   .cases h
  .cases h
 .cases h
section
variable {P:Program}{C:Cfg}{Γ:Gh}{σ:St}{w:World}{ops pre:Array Oper}{ex:jJ}{l:List (AV×Option St)}{s0:S}
theorem qKl{g:List AV}{σ':St}{t:TypeId}{a:Tmp}{v:Operand}{b off:Nat}{x:AV}{z:Option St}(h:opA C ex g σ (.store t (.tmp a) v)=some (x,z))(m:g.getD a .dead=.ptr b off):
  ∃cs,z=some {σ with bx:=σ.bx.set b cs,wr:=b::σ.wr}/\∀(c:List AV) (τ:St),aev c (.tmp a)=aev g (.tmp a)->aev c v=aev g v->τ.bx=σ.bx->opA C ex c τ (.store t (.tmp a) v)=some (x,some {τ with bx:=τ.bx.set b cs,wr:=b::τ.wr}):=by
 have k:aev g (.tmp a)=.ptr b off:=m;simp only[opA,qc,k]at h;cases j:C.ty t with
 |none=>rw[j]at h;cases h
 |some d=>
   rw[j]at h;simp only at h;cases f:σ.bx[b]? with
   |none=>rw[f]at h;cases h
   |some cs=>
     rw[f]at h;simp only at h;split at h<;>cases h;rename_i l;refine⟨_,rfl,λ c τ o n i=>?_⟩;have e:τ.bx[b]?=some cs:=by rw[i];exact f
     simp only[opA,qc,o,n,k,j,e,l]
theorem qKO{a:List AV}{t:TypeId}{u i:Operand}{x:AV}{z:Option St}(b:qyo (aev a u)=false)(h:opA C ex a σ (.indexAddr t u i)=some (x,z)):
  z=none/\qKs x=true/\∀τ:St,τ.rw=σ.rw->opA C ex a τ (.indexAddr t u i)=some (x,none):=by
 have c:∀τ:St,τ.rw=σ.rw->opA C ex a τ (.indexAddr t u i)=some (x,z):=λ τ d=>by
  simp_all [opA,qc]
 have f:z=none/\qKs x=true:=by
  simp only[opA,qc]at h
  repeat' split at h
  all_goals first|(cases h;done)|(cases h;exact⟨rfl,rfl⟩)|(rename_i e _ _;rw[e]at b;cases b)|(exfalso;simp_all [qyo];done)
 grind
theorem qPx{b:List AV}{t:TypeId}{a:Tmp}{v:Operand}{y:AV}{x:AV}{z:Option St}(h:opA C ex b σ (.store t (.tmp a) v)=some (x,z))(o:b.getD a .dead=y)(m:qKs y=true):
  ∃r R,z=some {σ with rw:=σ.rw.set r R,wrr:=r::σ.wrr}/\∀τ:St,τ.rw=σ.rw->opA C ex b τ (.store t (.tmp a) v)=some (x,some {τ with rw:=τ.rw.set r R,wrr:=r::τ.wrr}):=by
 have n:aev b (.tmp a)=y:=o;cases y with
 |rpt j k f e=>
   simp only[opA,qc,n]at h;cases g:C.ty t with
   |none=>rw[g]at h;cases h
   |some d=>
     rw[g]at h;simp only at h;cases i:σ.rw[j]? with
     |none=>rw[i]at h;cases h
     |some R=>
       rw[i]at h;simp only at h;cases c:qsj R k f e d.size (cellsOf (aev b v))with
       |none=>rw[c]at h;cases h
       |some R'=>
         rw[c]at h;cases h;refine⟨_,_,rfl,λ τ l=>?_⟩;simp_all [opA,qc]
 |ept p f=>
   simp_all [opA,qc]
 |_=>cases m
theorem qDr{a:List AV}{o:Oper}{b:Bool}(c:∀(i:Nat) (q:Oper),pre[i]?=some q->ops[i]?=some q)(h:yq pre a o=some b):yq ops a o=some b:=by
 grind [yq]
def g3(f e c d b a:S):Bool->Bool->Bool->S
 |true,true,true=>a
 |true,true,false=>b
 |true,false,_=>d
 |false,true,true=>c
 |false,true,false=>e
 |false,false,_=>f
def G3(pre:Array Oper)(l:List (AV×Option St))(s0 e c d b a:S)(L:Nat->Bool):S:=g3 (F pre.toList l s0 L pre.size) e c d b a (L (pre.size+2)) (L pre.size) (L (pre.size+1))
theorem qao{h f g e d:S}{L:Nat->Bool}{a b c:Bool}(k:L (pre.size+2)=a)(j:L pre.size=b)(i:L (pre.size+1)=c):G3 pre l s0 h f g e d L=g3 (F pre.toList l s0 L pre.size) h f g e d a b c:=by
 unfold G3;rw[k,j,i]
theorem qvX{b:List AV}{t:TypeId}{a:Tmp}{v:Operand}{y:AV×Option St}(h:opA C ex b σ (.store t (.tmp a) v)=some y):a<b.length:=by
 apply waf;intro c
 have d:aev b (.tmp a)=.dead:=by
  show b.getD a .dead=.dead;grind
 simp_all [opA,qc]
theorem qMr{a:List AV}{d:Tmp}{x:AV}{v:Operand}(h:qGR d v=true):aev (a.set d x) v=aev a v:=by
 cases v with
 |tmp t=>
   have b:d≠t:=λ c=>by rw[c]at h;simp[qGR]at h
   show(a.set d x).getD t .dead=a.getD t .dead;grind
 |_=>rfl
theorem qGK(hC:ym P C)(hx:qch P ex){id:Nat}{s g s':S}{b:Tmp}(aQ:qoj ops true=some b)(hk:qeL C.lo s.tm (qb4 ops) true=true)(h1:zA C ex (qb4 ops) true (qb4 ops).toList s=some g)(aa:qtJ g.tm ops b=true)
  (h2:zA C ex ops true (qg3 ops) g=some s') {a:Act}{Q:Exit->Act->World->Prop} (hi:Inv Γ s.σ w) (ht:zt Γ s.tm a)
  (hq:∀Γ' w' a',Ext Γ w Γ' w'->Inv Γ' s'.σ w'->zt Γ' s'.tm a'->qL s.σ s'.σ->a'.defers=a.defers->Q .normal a' w'):(Code.region id ops true).wp P Q a w:=by
 obtain⟨_,p,o,q,d,v6,v7,ar,aS,aT,aR,a8,aG,aF⟩:=qFu aQ;obtain⟨⟨t5,u5,i5,N⟩,aX,aw⟩:=qOV aS;obtain⟨⟨t6,Y⟩,aW,av⟩:=qJs aT;obtain⟨⟨t7,M⟩,aV,au⟩:=qJs aR;unfold qtJ at aa;rw[wb]at aa;obtain⟨aa,J⟩:=aa
 have J:qyo (aev g.tm u5)=false:=by
  grind [qF9]
 simp only[qGG,wb,wo]at aF;obtain⟨k1,k2,k3,k4,k5,k6⟩:=aF;obtain⟨pre,af⟩:∃pre,pre=qb4 ops:=⟨_,rfl⟩
 rw[<-af]at hk h1
 have aJ:ops.toList.length=(ops.toList.length-3)+3:=by
  have:(qg3 ops).length=3:=by rw[ar];rfl
  grind [qg3]
 have aD:pre.size=ops.toList.length-3:=by
  rw[af];show(ops.toList.take (ops.toList.length-3)).toArray.size=_;grind
 have X:ops.toList=pre.toList++[p,o,q]:=by
  rw[af,<-ar];exact(kz _ _).symm
 rw[<-aD]at k1 k2 k3 k4 k5 k6;obtain⟨m,u⟩:∃m,m=pre.size:=⟨_,rfl⟩
 have aI:m=pre.toList.length:=by rw[u,wM]
 rw[<-u]at k1 k2 k3 k4 k5 k6;have am:ops.size=m+3:=by rw[<-wM,aJ,u,aD]
 have ae:∀i r,pre[i]?=some r->ops[i]?=some r:=λ i r hr=>by
  have hi:i<pre.toList.length:=by rw[wM];exact(Array.getElem?_eq_some_iff.1 hr).1
  rw[<-Array.getElem?_toList,X,List.getElem?_append_left hi,Array.getElem?_toList];exact hr
 have an:∀i r,i<m->ops[i]?=some r->pre[i]?=some r:=λ i r hi hr=>by
  grind
 have ay:∀n,ops[m+n]?=[p,o,q][n]?:=λ n=>by
  rw[<-Array.getElem?_toList,X,List.getElem?_append_right (by rw[<-aI];exact kJ _ _),<-aI,kT]
 have ai:ops[m]?=some p:=ay 0;have aj:ops[m+1]?=some o:=ay 1;have ah:ops[m+2]?=some q:=ay 2;obtain⟨l,l1,l2,l3,l4⟩:=qiv pre.toList s g h1;have hT:qdb C ex pre l s:=qqq l3 l4;rw[wM]at l2;have aK:qbw C.lo s.tm pre=true:=hk;have O:∀tm,yq ops tm p=some true:=λ tm=>by unfold yq;rw[aX]
 have T:∀tm,yq ops tm o=some true:=λ tm=>by unfold yq;rw[aW]
 have I:∀tm,yq ops tm q=some true:=λ tm=>by unfold yq;rw[aV]
 cases aE:g.tm.getD b .dead with
 |ptr W off=>
   have ax:∀x,(g.tm.set d x).getD b .dead=.ptr W off:=λ x=>by
    grind
   rw[ar]at h2
   obtain⟨H,x6,ac,x7,ap,y5,y6,y7,rfl⟩:∃H x6 ac x7 ap,opA C ex g.tm g.σ p.op=some (H,none)/\opA C ex (g.tm.set d H) g.σ o.op=some (x6,some ac)/\opA C ex (g.tm.set d H) ac q.op=some (x7,some ap)/\s'=⟨g.tm.set d H,ap⟩:=by
    simp only[zA,O,T,I]at h2;split at h2<;>try cases h2
    .rename_i H e5;rw[aw]at h2;simp only[qbh]at h2;have aq:=(qKO J (by rw[N]at e5;exact e5)).2.1;split at h2<;>try cases h2
     .rename_i x6 e6;have e6:=e6;rw[Y]at e6;have ag:=qvX e6;rw[wH]at ag;have hv:(g.tm.set d H).getD d .dead=H:=by rw[List.getD_eq_getElem?_getD,List.getElem?_set_self ag];rfl
      obtain⟨_,_,h,_⟩:=qPx e6 hv aq;cases h
     .rename_i x6 ac e6;split at h2<;>try cases h2
      rw[av]at h2;simp only at h2;split at h2<;>try cases h2
      .rename_i x7 e7;obtain⟨_,h,_⟩:=qKl (σ':=ac) (by rw[M]at e7;exact e7) (ax H);cases h
      .grind
    .rename_i H a3 e5;have:=(qKO J (by rw[N]at e5;exact e5)).1;cases this
   rw[N]at y5;rw[Y]at y6;rw[M]at y7;obtain⟨_,aq,g5⟩:=qKO J y5;have ag:=qvX y6;rw[wH]at ag;have aP:(g.tm.set d H).getD d .dead=H:=by rw[List.getD_eq_getElem?_getD,List.getElem?_set_self ag];rfl
   obtain⟨r,R,z6,g6⟩:=qPx y6 aP aq;cases z6;obtain⟨cs,z7,g7⟩:=qKl (σ':=g.σ) y7 (ax H);cases z7
   have eb:aev g.tm (.tmp b)=aev (g.tm.set d H) (.tmp b):=by
    show g.tm.getD b .dead=(g.tm.set d H).getD b .dead;rw[ax,aE]
   have ev:aev g.tm v7=aev (g.tm.set d H) v7:=(qMr aG).symm;obtain⟨B,al⟩:∃B:S,B=⟨g.tm.set d H,g.σ⟩:=⟨_,rfl⟩
   obtain⟨v,ak⟩:∃v:S,v=⟨g.tm.set d H,{g.σ with rw:=g.σ.rw.set r R,wrr:=r::g.σ.wrr}⟩:=⟨_,rfl⟩
   obtain⟨D,az⟩:∃D:S,D=⟨g.tm,{g.σ with bx:=g.σ.bx.set W cs,wr:=W::g.σ.wr}⟩:=⟨_,rfl⟩
   obtain⟨t,Z⟩:∃t:S,t=⟨g.tm.set d H,{g.σ with bx:=g.σ.bx.set W cs,wr:=W::g.σ.wr}⟩:=⟨_,rfl⟩
   obtain⟨f,U⟩:∃f:S,f=⟨g.tm.set d H,{g.σ with rw:=g.σ.rw.set r R,wrr:=r::g.σ.wrr,bx:=g.σ.bx.set W cs,wr:=W::g.σ.wr}⟩:=⟨_,rfl⟩
   have a5:qa9 C ex ops p g (H,none):=.inl ⟨O _,by rw[N];exact y5⟩;have a2:qa9 C ex ops p D (H,none):=.inl ⟨O _,by rw[N,az];exact g5 _ rfl⟩;have a6:qa9 C ex ops o B (x6,some {g.σ with rw:=g.σ.rw.set r R,wrr:=r::g.σ.wrr}):=.inl ⟨T _,by rw[Y,al];exact y6⟩;have a1:qa9 C ex ops o t (x6,some {g.σ with rw:=g.σ.rw.set r R,wrr:=r::g.σ.wrr,bx:=g.σ.bx.set W cs,wr:=W::g.σ.wr}):=.inl ⟨T _,by rw[Y,Z];exact g6 _ rfl⟩;have a7:qa9 C ex ops q g (x7,some {g.σ with bx:=g.σ.bx.set W cs,wr:=W::g.σ.wr}):=.inl ⟨I _,by rw[M];exact g7 _ _ eb ev rfl⟩;have a0:qa9 C ex ops q B (x7,some {g.σ with bx:=g.σ.bx.set W cs,wr:=W::g.σ.wr}):=.inl ⟨I _,by rw[M,al];exact g7 _ _ rfl rfl rfl⟩;have aM:qa9 C ex ops q v (x7,some {g.σ with rw:=g.σ.rw.set r R,wrr:=r::g.σ.wrr,bx:=g.σ.bx.set W cs,wr:=W::g.σ.wr}):=.inl ⟨I _,by rw[M,ak];exact y7⟩;have ab:∀{L:Nat->Bool}{n j:Nat}{o':Oper},qcg ops L->ops[j]?=some o'->(∀e∈jw o',L e=true)->qtq n ((QP ops.toList []).getD j 0)=true->∀i,i<n->L i=true:=λ hd ho hp hb i hi=>qjL hd _ _ ho hp (qzq hb i hi);have ao:∀{L:Nat->Bool},(∀i,i<m->L i=true)->F pre.toList l s L pre.size=g:=λ h=>by rw[<-l2];exact qAv _ λ i hi=>h i (by rw[u];exact hi)
   have aZ:∀k,F pre.toList l s (λ i=>(Array.replicate ops.size false).getD i false) k=s:=by
    intro k
    induction k with
    |zero=>rfl
    |succ k ih=>
      simp only[F]
      have:(Array.replicate ops.size false).getD k false=false:=by
       rw[wJ,Array.getElem?_replicate];split<;>rfl
      rw[this];split
      .rename_i hf;cases hf
      .exact ih
   have ad:∀i,(Array.replicate ops.size false).getD i false=false:=λ i=>by
    rw[wJ,Array.getElem?_replicate];split<;>rfl
   have aC:G3 pre l s B v D t f (λ i=>(Array.replicate ops.size false).getD i false)=s:=by
    rw[qao (ad _) (ad _) (ad _)];exact aZ _
   have aL:G3 pre l s B v D t f qp=f:=qao (a:=true) (b:=true) (c:=true) rfl rfl rfl;have A:∀(L:Nat->Bool) (j i:Nat),i≠j->(decide (i=j)||L i)=L i:=λ L j i h=>by rw[decide_eq_false h,xV]
   have E:∀(L:Nat->Bool) (j:Nat),(decide (j=j)||L j)=true:=λ L j=>by rw[decide_eq_true rfl,xw]
   refine wp_region_any hC.mixed ?_;refine qEs (G:=G3 pre l s B v D t f) (Good:=λ _=>True) hC hx (λ _ _ _=>trivial) (λ j o' z e he=>?_) (λ L K=>?_) (λ L j o' hd _ z K hp=>?_) ops.size _ Γ _ a (by simp) (by rw[xj,vO];simp) ?_ trivial ?_ ?_ ?_
   .have aU:j<m+3:=by rw[<-am];exact(Array.getElem?_eq_some_iff.1 z).1
    by_cases hj:j<m
    .exact(qih aK).1 j o' (an j o' hj z) e he
    .obtain rfl|rfl|rfl:j=m\/j=m+1\/j=m+2:=by omega
     .rw[ai]at z;cases z;exact kC (k1 e he)
     .rw[aj]at z;cases z;exact kC (k2 e he)
     .rw[ah]at z;cases z;have:=kC (k3 e he);omega
   .rw[aL];exact qao (a:=true) (b:=true) (c:=true) (K _ (by omega)) (K _ (by omega)) (K _ (by omega))
   .have aU:j<m+3:=by rw[<-am];exact(Array.getElem?_eq_some_iff.1 z).1
    have d1:L (m+1)=true->L m=true:=λ h=>ab hd aj (hd (m+1) o aj h) k5 m (xy m);by_cases hj:j<m
    .have aH:=an j o' hj z
     have n5:L m=false:=by
      cases aA:L m with
      |false=>rfl
      |true=>rw[ab hd ai (hd m p ai aA) k4 j hj]at K;cases K
     have n7:L (m+2)=false:=by
      cases aA:L (m+2)with
      |false=>rfl
      |true=>rw[ab hd ah (hd (m+2) q ah aA) k6 j hj]at K;cases K
     have aY:qcg pre L:=λ i r hr hi e he=>hd i r (ae i r hr) hi e he;obtain⟨y,aO,aN⟩:=quj hT aK aY aH K hp
     have e1:G3 pre l s B v D t f L=F pre.toList l s L pre.size:=by
      exact qao (a:=false) (b:=false) (c:=L (pre.size+1)) (by rw[<-u];exact n7) (by rw[<-u];exact n5) rfl
     have V:G3 pre l s B v D t f (λ i=>decide (i=j)||L i)=F pre.toList l s (λ i=>decide (i=j)||L i) pre.size:=by
      exact qao (L:=λ i=>decide (i=j)||L i) (a:=false) (b:=false) (c:=_) (by show(decide (_=j)||L _)=false;rw[A _ _ _ (by omega),<-u];exact n7) (by show(decide (_=j)||L _)=false;rw[A _ _ _ (by omega),<-u];exact n5) rfl
     rw[e1,V];refine⟨y,?_,aN⟩;rcases aO with⟨w1,w2⟩|⟨w1,w2⟩
     .exact .inl ⟨qDr ae w1,w2⟩
     .exact .inr ⟨qDr ae w1,w2⟩
    .obtain rfl|rfl|rfl:j=m\/j=m+1\/j=m+2:=by omega
     .rw[ai]at z;cases z;have aB:=ab hd ai hp k4
      have n6:L (j+1)=false:=by
       cases h:L (j+1)with
       |false=>rfl
       |true=>rw[d1 h]at K;cases K
      cases hn:L (j+2)with
      |false=>
        have e1:G3 pre l s B v D t f L=g:=by
         exact(qao (a:=false) (b:=false) (c:=false) (by rw[<-u];exact hn) (by rw[<-u];exact K) (by rw[<-u];exact n6)).trans (ao aB)
        have V:G3 pre l s B v D t f (λ i=>decide (i=j)||L i)=B:=
         qao (L:=λ i=>decide (i=j)||L i) (a:=false) (b:=true) (c:=false) (by rw[<-u];show(decide (_=j)||L _)=false;rw[A _ _ _ (by omega)];exact hn) (by rw[<-u];exact E L j) (by rw[<-u];show(decide (_=j)||L _)=false;rw[A _ _ _ (by omega)];exact n6)
        rw[e1,V];refine⟨_,a5,?_⟩;rw[al,yb,aw];rfl
      |true=>
        have e1:G3 pre l s B v D t f L=D:=
         qao (a:=true) (b:=false) (c:=false) (by rw[<-u];exact hn) (by rw[<-u];exact K) (by rw[<-u];exact n6)
        have V:G3 pre l s B v D t f (λ i=>decide (i=j)||L i)=t:=
         qao (L:=λ i=>decide (i=j)||L i) (a:=true) (b:=true) (c:=false) (by rw[<-u];show(decide (_=j)||L _)=true;rw[A _ _ _ (by omega)];exact hn) (by rw[<-u];exact E L j) (by rw[<-u];show(decide (_=j)||L _)=false;rw[A _ _ _ (by omega)];exact n6)
        rw[e1,V];refine⟨_,a2,?_⟩;rw[Z,az,yb,aw];rfl
     .rw[aj]at z;cases z;have h5:=ab hd aj hp k5 m (xy m);cases hn:L (m+2)with
      |false=>
        have e1:G3 pre l s B v D t f L=B:=
         qao (a:=false) (b:=true) (c:=false) (by rw[<-u];exact hn) (by rw[<-u];exact h5) (by rw[<-u];exact K)
        have V:G3 pre l s B v D t f (λ i=>decide (i=m+1)||L i)=v:=
         qao (L:=λ i=>decide (i=m+1)||L i) (a:=false) (b:=true) (c:=true) (by rw[<-u];show(decide (_=m+1)||L _)=false;rw[A _ _ _ (by omega)];exact hn) (by rw[<-u];show(decide (_=m+1)||L _)=true;rw[A _ _ _ (by omega)];exact h5) (by rw[<-u];exact E L (m+1))
        rw[e1,V];refine⟨_,a6,?_⟩;rw[ak,al,yb,av];rfl
      |true=>
        have e1:G3 pre l s B v D t f L=t:=
         qao (a:=true) (b:=true) (c:=false) (by rw[<-u];exact hn) (by rw[<-u];exact h5) (by rw[<-u];exact K)
        have V:G3 pre l s B v D t f (λ i=>decide (i=m+1)||L i)=f:=
         qao (L:=λ i=>decide (i=m+1)||L i) (a:=true) (b:=true) (c:=true) (by rw[<-u];show(decide (_=m+1)||L _)=true;rw[A _ _ _ (by omega)];exact hn) (by rw[<-u];show(decide (_=m+1)||L _)=true;rw[A _ _ _ (by omega)];exact h5) (by rw[<-u];exact E L (m+1))
        rw[e1,V];refine⟨_,a1,?_⟩;rw[U,Z,yb,av];rfl
     .rw[ah]at z;cases z;have aB:=ab hd ah hp k6;cases h5:L m with
      |false=>
        have n6:L (m+1)=false:=by
         cases h:L (m+1)with
         |false=>rfl
         |true=>rw[d1 h]at h5;cases h5
        have e1:G3 pre l s B v D t f L=g:=by
         exact(qao (a:=false) (b:=false) (c:=false) (by rw[<-u];exact K) (by rw[<-u];exact h5) (by rw[<-u];exact n6)).trans (ao aB)
        have V:G3 pre l s B v D t f (λ i=>decide (i=m+2)||L i)=D:=
         qao (L:=λ i=>decide (i=m+2)||L i) (a:=true) (b:=false) (c:=false) (by rw[<-u];exact E L (m+2)) (by rw[<-u];show(decide (_=m+2)||L _)=false;rw[A _ _ _ (by omega)];exact h5) (by rw[<-u];show(decide (_=m+2)||L _)=false;rw[A _ _ _ (by omega)];exact n6)
        rw[e1,V];refine⟨_,a7,?_⟩;rw[az,yb,au];rfl
      |true=>
        cases h6:L (m+1)with
        |false=>
          have e1:G3 pre l s B v D t f L=B:=
           qao (a:=false) (b:=true) (c:=false) (by rw[<-u];exact K) (by rw[<-u];exact h5) (by rw[<-u];exact h6)
          have V:G3 pre l s B v D t f (λ i=>decide (i=m+2)||L i)=t:=
           qao (L:=λ i=>decide (i=m+2)||L i) (a:=true) (b:=true) (c:=false) (by rw[<-u];exact E L (m+2)) (by rw[<-u];show(decide (_=m+2)||L _)=true;rw[A _ _ _ (by omega)];exact h5) (by rw[<-u];show(decide (_=m+2)||L _)=false;rw[A _ _ _ (by omega)];exact h6)
          rw[e1,V];refine⟨_,a0,?_⟩;rw[Z,al,yb,au];rfl
        |true=>
          have e1:G3 pre l s B v D t f L=v:=
           qao (a:=false) (b:=true) (c:=true) (by rw[<-u];exact K) (by rw[<-u];exact h5) (by rw[<-u];exact h6)
          have V:G3 pre l s B v D t f (λ i=>decide (i=m+2)||L i)=f:=
           qao (L:=λ i=>decide (i=m+2)||L i) (a:=true) (b:=true) (c:=true) (by rw[<-u];exact E L (m+2)) (by rw[<-u];show(decide (_=m+2)||L _)=true;rw[A _ _ _ (by omega)];exact h5) (by rw[<-u];show(decide (_=m+2)||L _)=true;rw[A _ _ _ (by omega)];exact h6)
          rw[e1,V];refine⟨_,aM,?_⟩;rw[U,ak,yb,au];rfl
   .intro i r hr a4;grind
   .rw[aC];exact hi.drew
   .rw[aC];exact ht
   .intro Γ' w' a' g1 g2 g3 g4 g5;rw[aC]at g4;rw[aL,U]at g2 g3 g4;exact hq Γ' w' a' ((Ext.drew Γ w).trans g1) g2 g3 g4 g5
 |_=>rw[aE]at aa;cases aa
end
end Go.AmZ
namespace Go.AmZ
open Go Go.RowKit
section
variable {P:Program}{C:Cfg}{Γ:Gh}{σ:St}{w:World}{ops:Array Oper}{ex:jJ}{l:List (AV×Option St)}{s0:S}
theorem qOi(q:ym P C)(k:qch P ex)(o:qdb C ex ops l s0)(j:qbw C.lo s0.tm ops=true){Q:Exit->Act->World->Prop}:∀(d:Nat) (c:Array Bool) (Γ:Gh) (w:World) (a:Act),c.size=ops.size->c.toList.countP (λ b => !b)=d->qcg ops (λ i=>c.getD i false)->
  Inv Γ (F ops.toList l s0 (λ i=>c.getD i false) ops.size).σ w->zt Γ (F ops.toList l s0 (λ i=>c.getD i false) ops.size).tm a->
  (∀Γ' w' h,Ext Γ w Γ' w'->Inv Γ' (F ops.toList l s0 qp ops.size).σ w'->zt Γ' (F ops.toList l s0 qp ops.size).tm h->qL (F ops.toList l s0 (λ i=>c.getD i false) ops.size).σ (F ops.toList l s0 qp ops.size).σ->h.defers=a.defers->Q .normal h w')->
  wpAny P .any ops Q d c a w:=
 λ d c Γ w a e g f=>qET q k (Good:=λ _=>True) (λ _ _ _=>trivial) (qih j).1 (λ _ _ _ f _ n p m=>quj o j f n p m) d c Γ w a e g f trivial
theorem qI8(g:ym P C)(m:qch P ex){id:Nat}{b:Bool}{s d:S}(f:qeL C.lo s.tm ops b=true)(h:zA C ex ops b ops.toList s=some d){a:Act}{Q:Exit->Act->World->Prop}(p:Inv Γ s.σ w)(n:zt Γ s.tm a)
  (o:∀Γ' w' e,Ext Γ w Γ' w'->Inv Γ' d.σ w'->zt Γ' d.tm e->qL s.σ d.σ->e.defers=a.defers->Q .normal e w'):(Code.region id ops b).wp P Q a w:=by
 cases b with
 |false=>
   refine wp_region ?_;have:=qB0 g m (ops:=ops) ops.toList 0 s Γ w a (by simp) h p n o;rw[wM,<-List.range_eq_range']at this;exact this
 |true=>
   let⟨l,G,r,B,A⟩:=qiv ops.toList s d h;have z:qdb C ex ops l s:=qqq B A;rw[wM]at r;have f:qbw C.lo s.tm ops=true:=f
   have c:∀k,F ops.toList l s (λ i=>(Array.replicate ops.size false).getD i false) k=s:=by
    intro k
    induction k with
    |zero=>rfl
    |succ k u=>
      simp only[F]
      have:(Array.replicate ops.size false).getD k false=false:=by
       rw[wJ,Array.getElem?_replicate];split<;>rfl
      rw[this];split
      .rename_i y;cases y
      .exact u
   refine wp_region_any g.mixed ?_;refine qOi g m z f ops.size _ Γ _ a (by simp) (by rw[xj,vO];simp) ?_ ?_ ?_ ?_
   .intro i q v x;exfalso
    have:(Array.replicate ops.size false).getD i false=false:=by
     rw[wJ,Array.getElem?_replicate];split<;>rfl
    grind
   .rw[c];exact p.drew
   .rw[c];exact n
   .intro Γ' w' e E t g3 j D;rw[c]at j;rw[r]at t g3 j;exact o Γ' w' e ((Ext.drew Γ w).trans E) t g3 j D
def COk(P:Program)(ex:jJ)(c:Code):Prop:=
 ∀s e b,jW c=true->ex c s=some (e,b)->∀Γ w a,Inv Γ s.σ w->zt Γ s.tm a->a.defers=[]->
  c.wp P (λ f d w'=>f=e.toExit/\d.defers=[]/\∃Γ',Ext Γ w Γ' w'/\Inv Γ' b.σ w'/\zt Γ' b.tm d/\qL s.σ b.σ) a w
theorem qMP{s:S}{a:Act}(g:Inv Γ s.σ w)(f:zt Γ s.tm a)(t:Nat):
  ∃Γ',Ext Γ w Γ' w/\Inv Γ' (qcp s t).σ w/\zt Γ' (qcp s t).tm a/\qL s.σ (qcp s t).σ:=by
 unfold qcp;cases v:rsA (s.tm.getD t .dead)with
 |nil=>exact⟨Γ,.refl _ _,g,f,.refl _⟩
 |cons r l=>
   let⟨m,h,p,o⟩:=qas (r::l) g ((r::l)++s.σ.wrr);refine⟨_,qkb h w,p,?_,qqs (r::l)⟩;have n:Le Γ {Γ with mem:=m}:=(qkb h w).le;have k:=qyp g n (λ q y=>o q (by rw[<-v];exact y)) (f.get t);have c:RepL {Γ with mem:=m} s.tm a.tmps.toList:=waN n f;refine⟨by rw[wH];exact c.len,λ i x u b j=>?_⟩;by_cases d:t=i
   .subst d;rw[List.getElem?_set_self (by have:=getElem?_lt b;simpa using this)]at b;cases b
    have:a.tmps.getD t undef=u:=by
     rw[wJ,<-Array.getElem?_toList,j];rfl
    rw[this]at k;exact k
   .rw[List.getElem?_set_ne d]at b;exact c.rep i x u b j
theorem qEM{a:Act}:∀(ts:List Nat) {s:S}{Γ:Gh},Inv Γ s.σ w->zt Γ s.tm a->
  ∃Γ',Ext Γ w Γ' w/\Inv Γ' (qfd ts s).σ w/\zt Γ' (qfd ts s).tm a/\qL s.σ (qfd ts s).σ
 |[],s,Γ,d,c=>⟨Γ,.refl _ _,d,c,.refl _⟩
 |t::ts,s,Γ,d,c=>by
   let⟨e,m,l,k,j⟩:=qMP d c t;let⟨b,i,h,g,f⟩:=qEM ts l k;exact⟨b,m.trans i,h,g,j.trans f⟩
theorem qM6{b:Code}{n:Nat}(o:∀m,m<n->COk P (Q5 C m) b){s:S}{e:Ex}{g:S}(z:jW b=true)(h:Q5 C n (.loop b) s=some (e,g)){a:Act}(hi:Inv Γ s.σ w)(ht:zt Γ s.tm a)(I:a.defers=[]):
  (Code.loop b).wp P (λ A f w'=>A=e.toExit/\f.defers=[]/\∃Γ',Ext Γ w Γ' w'/\Inv Γ' g.σ w'/\zt Γ' g.tm f/\qL s.σ g.σ) a w:=by
 let J:Nat->Act->World->Prop:=λ m d c=>m<=n/\∃r i,Q5 C m (.loop b) r=some (e,g)/\Ext Γ w i c/\Inv i r.σ c/\zt i r.tm d/\d.defers=[]/\qL s.σ r.σ
 have j:∀d c,(∃m,J m d c)->∃m,J m d c/\∀k,J k d c->m<=k:=by
  rintro d c ⟨m,R⟩
  induction m using Nat.strongRecOn with
  |_ m Z=>
    by_cases z:∃k,k<m/\J k d c
    .let⟨k,H,G⟩:=z;exact Z k H G
    .exact⟨m,R,λ k L=>Nat.le_of_not_lt λ F=>z ⟨k,F,L⟩⟩
 classical
 let t:Act->World->Nat:=λ d c=>if h:∃m,J m d c then Classical.choose (j d c h)else 0
 have u:∀d c,(h:∃m,J m d c)->J (t d c) d c/\∀k,J k d c->t d c<=k:=by
  intro d c h;grind
 refine wp_loop (λ d c=>∃m,J m d c) t ⟨n,wa _,s,Γ,h,.refl _ _,hi,ht,I,.refl _⟩ ?_;intro d c L;let⟨K,_⟩:=u d c L;let⟨v,r,i,T,N,h3,h4,h5,M⟩:=K;generalize R:t d c=m at *;cases m with
 |zero=>simp[Q5]at T
 |succ m=>
   simp only[Q5,qb6]at T;let⟨B,Y,X,W,V⟩:=qEM (C.pur b) h3 h4
   have U:∀e1 q,Q5 C m b (qfd (C.pur b) r)=some (e1,q)->(e1=.normal/\Q5 C m (.loop b) q=some (e,g)\/(e1≠.normal/\e1=e/\q=g))->
     b.wp P (Exit.then (λ f w'=>(∃m,J m f w')/\t f w'<m+1) (λ A f w'=>A=e.toExit/\f.defers=[]/\∃Γ',Ext Γ w Γ' w'/\Inv Γ' g.σ w'/\zt Γ' g.tm f/\qL s.σ g.σ)) d c:=by
    intro e1 q hb D;refine wp_mono (o m v _ e1 q z hb B c d X W h5) ?_;rintro A f w' ⟨rfl,Q,l,y,O,g3,x⟩;have y:=Y.trans y;have x:=V.trans x;obtain⟨rfl,hl⟩|⟨E,rfl,rfl⟩:=D
    .have p:J m f w':=⟨Nat.le_of_succ_le v,q,l,hl,N.trans y,O,g3,Q,M.trans x⟩
     exact⟨⟨m,p⟩,Nat.lt_succ_of_le ((u f w' ⟨m,p⟩).2 m p)⟩
    .cases e1 with
     |normal=>exact absurd rfl E
     |exit id|ret=>exact⟨rfl,Q,l,N.trans y,O,g3,M.trans x⟩
   grind
theorem qxy(U:ym P C):∀n,qch P (Q5 C n):=by
 intro n
 induction n using Nat.strongRecOn with
 |_ n V=>
   cases n with
   |zero=>intro c s e J _ h;simp[Q5]at h
   |succ n=>
     have j:=V n (xy n);intro c s e J A h Γ w a z v f;cases c with
     |skip=>
       simp only[Q5,qb6,wz,wI]at h;obtain⟨rfl,rfl⟩:=h;exact wp_skip ⟨rfl,f,Γ,.refl _ _,z,v,.refl _⟩
     |label k=>
       simp only[Q5,qb6,wz,wI]at h;obtain⟨rfl,rfl⟩:=h;exact wp_label ⟨rfl,f,Γ,.refl _ _,z,v,.refl _⟩
     |exit id=>
       simp only[Q5,qb6,wz,wI]at h;obtain⟨rfl,rfl⟩:=h;exact wp_exit ⟨rfl,f,Γ,.refl _ _,z,v,.refl _⟩
     |ret=>
       simp only[Q5,qb6,wz,wI]at h;obtain⟨rfl,rfl⟩:=h;exact wp_ret ⟨rfl,f,Γ,.refl _ _,z,v,.refl _⟩
     |region id ops M=>
       simp only[Q5,qb6]at h;split at h
       .rename_i E;have H:M=true:=by unfold qiR at E;rw[wb]at E;exact E.1
        subst H;split at h<;>try cases h
        rename_i d l;rw[wb,wb]at d;split at h<;>try cases h
        rename_i o;split at h<;>cases h;rename_i F;refine qFZ U j d.1 d.2.1 d.2.2 l o F z v ?_;intro Γ' w' N u t g3 q L;exact⟨rfl,by rw[L,f],Γ',u,t,g3,q⟩
       .split at h
        .rename_i p K;let⟨H,_⟩:=qFu K;subst H;split at h<;>try cases h
         rename_i d l;split at h<;>cases h;rename_i T o;refine qGK U j K d l T o z v ?_;intro Γ' w' N u t g3 q L;exact⟨rfl,by rw[L,f],Γ',u,t,g3,q⟩
        .split at h<;>cases h;rename_i d l;refine qI8 U j d l z v ?_;intro Γ' w' N u t g3 q L;exact⟨rfl,by rw[L,f],Γ',u,t,g3,q⟩
     |seq x y=>
       simp only[Q5,qb6]at h;simp only[jW,wb]at A;refine wp_seq ?_;cases D:Q5 C n x s with
       |none=>rw[D]at h;cases h
       |some r=>
         let⟨e1,O⟩:=r;rw[D]at h;refine wp_mono (j x s e1 O A.1 D Γ w a z v f) ?_;rintro e' N w' ⟨rfl,B,g,u,t,g3,q⟩;cases e1 with
         |normal=>
           refine wp_mono (j y O e J A.2 h g w' N t g3 B) ?_;rintro aa ab W ⟨rfl,q0,S,q1,Z,Y,X⟩;exact⟨rfl,q0,S,u.trans q1,Z,Y,q.trans X⟩
         |exit id|ret=>cases h;exact⟨rfl,B,g,u,t,g3,q⟩
     |cond c x y=>
       simp only[Q5,qb6]at h;simp only[jW,wb]at A;have Q:=zt.ev v c;split at h
       .rename_i I;rw[I]at Q;exact wp_cond_true (zp Q) (j x s e J A.1 h Γ w a z v f)
       .rename_i I;rw[I]at Q;exact wp_cond_false (zp Q) (j y s e J A.2 h Γ w a z v f)
       .cases h
     |block id b=>
       simp only[Q5,qb6]at h;simp only[jW]at A;refine wp_block ?_;cases D:Q5 C n b s with
       |none=>rw[D]at h;cases h
       |some r=>
         let⟨e1,O⟩:=r;rw[D]at h;refine wp_mono (j b s e1 O A D Γ w a z v f) ?_;rintro e' N w' ⟨rfl,B,g,u,t,g3,q⟩;cases e1 with
         |normal|ret=>cases h;exact⟨rfl,B,g,u,t,g3,q⟩
         |exit i=>
           simp only[wz,wI]at h;obtain⟨R,rfl⟩:=h;show if i=id then _ else _;split
           .rename_i G;rw[if_pos G]at R;subst R;exact⟨rfl,B,g,u,t,g3,q⟩
           .rename_i G;rw[if_neg G]at R;subst R;exact⟨rfl,B,g,u,t,g3,q⟩
     |loop b=>
       exact qM6 (n:=n+1) (λ m hm=>λ s e J A h=>V m hm b s e J A h) A h z v f
     |_=>simp only[Q5,qb6]at h;cases h
end
end Go.AmZ
namespace Go.AmZ
open Go Go.RowKit
structure PC where
 ty:Nat->Option TD
 pf:Nat->Option (List AV->Option AV)
 sp:Nat->Option (St->List AV->Option (AV×Option St))
 pur:Code->List Nat
 ld:Nat->Bool
 inl:Nat->Option Func
def emp:St:=⟨[],[],[],[]⟩
def Jm(p:List AV->Option AV):St->List AV->Option (AV×Option St):=λ σ a=>
 match σ with
 |⟨[],[],[],[]⟩=>match p a with
   |some v=>some (v,none)
   |none=>none
 |_=>none
def PC.prim(c:PC)(f:Nat):Option (St->List AV->Option (AV×Option St)):=match c.pf f with|some p=>some (Jm p)|none=>c.sp f
def PC.raw(c:PC)(f:Nat):Bool:=match c.pf f with|some _=>false|none=>(c.sp f).isSome
def PC.cfg(c:PC):Cfg:=⟨c.ty,λ _=>none,c.prim,c.raw,c.pur,λ f=>c.raw f||(c.ld f||(c.inl f).isSome),c.inl⟩
def qa7(c:PC)(f:Nat)(σ:St)(a:List AV):Option (AV×Option St):=
 match c.pf f with
 |some p=>match noRefs (a.map (jg σ.rw))with
   |true=>match p (a.map (jg σ.rw))with
     |some v=>match js v with
       |true=>match qiE v,a.flatMap rsA with
         |true,_|_,[]=>some (v,none)
         |_,r::l=>some (v,some {σ with rw:=frz σ.rw (r::l),wrr:=(r::l)++σ.wrr})
       |false=>none
     |none=>none
   |false=>none
 |none=>match c.sp f with
   |some p=>Qk σ a p
   |none=>none
def qfW(c:PC)(tm:List AV)(σ:St)(op:Op):Option (AV×Option St):=
 match op with
 |.call ⟨.builtin b,a,ts⟩=>jo c.cfg σ b ts (a.toList.map (aev tm))
 |.call ⟨.value g,a,_⟩=>match aev tm g with
   |.fn f d=>match c.inl f with
     |none=>qa7 c f σ (a.toList.map (aev tm)++d)
     |some _=>none
   |_=>none
 |.call _=>none
 |op=>qc c.cfg tm σ op
def jY(d:List AV->St->Op->Option (AV×Option St))(c:PC)(ops:Array Oper)(b:Bool):List Oper->S->Option S
 |[],s=>some s
 |o::a,s=>match yq ops s.tm o with
   |some true=>match d s.tm s.σ o.op with
     |some (x,none)=>jY d c ops b a ⟨qbh s.tm o.dst x,s.σ⟩
     |some (x,some σ')=>match b && !(zm c.cfg.lo o.op&&qcv c.cfg ops (ops.size-(a.length+1)) s.tm s.σ o.op)with
       |true=>none
       |false=>jY d c ops b a ⟨qbh s.tm o.dst x,σ'⟩
     |none=>none
   |some false=>jY d c ops b a ⟨qbh s.tm o.dst qg0,s.σ⟩
   |none=>none
def yK(f:List AV->St->Op->Option (AV×Option St))(c:PC)(ex:jJ):jJ
 |.skip,s|.label _,s=>some (.normal,s)
 |.region _ ops d,s=>match qiR ops d with
   |true=>match qiz c.cfg.lo ops.toList&&(qce c.cfg.lo ops&&qeL c.cfg.lo s.tm ⟨qH c.cfg.lo ops.toList⟩ true),jY f c ⟨qH c.cfg.lo ops.toList⟩ true (qH c.cfg.lo ops.toList) s with
     |true,some g=>match jY f c ops false (alL c.cfg.lo ops.toList) g with
       |some h=>match jY f c ops true (qqW c.cfg.lo ops.toList) h with
         |some e=>some (.normal,e)
         |none=>none
       |none=>none
     |_,_=>none
   |false=>match qoj ops d with
     |some p=>match qeL c.cfg.lo s.tm (qb4 ops) true,jY f c (qb4 ops) true (qb4 ops).toList s with
       |true,some g=>match qtJ g.tm ops p,jY f c ops true (qg3 ops) g with
         |true,some e=>some (.normal,e)
         |_,_=>none
       |_,_=>none
     |none=>match qeL c.cfg.lo s.tm ops d,jY f c ops d ops.toList s with
       |true,some e=>some (.normal,e)
       |_,_=>none
 |.seq a b,s=>match ex a s with
   |some (.normal,e)=>ex b e
   |r=>r
 |.cond t x y,s=>match aev s.tm t with
   |.v (.bool true)=>ex x s
   |.v (.bool false)=>ex y s
   |_=>none
 |.block id b,s=>match ex b s with
   |some (.exit i,e)=>some (if i=id then .normal else .exit i,e)
   |r=>r
 |.loop b,s=>match ex b (qfd (c.pur b) s)with
   |some (.normal,e)=>ex (.loop b) e
   |r=>r
 |.exit id,s=>some (.exit id,s)
 |.ret,s=>some (.ret,s)
 |_,_=>none
def zi(a:List AV->St->Op->Option (AV×Option St))(c:PC):Nat->jJ
 |0=>λ _ _=>none
 |n+1=>yK a c (zi a c n)
def qxh(c:PC)(σ:St)(fn:Func)(a:List AV):Option (AV×Option St):=match fn.body with
 |none=>none
 |some cd=>match zi (qfW c) c 12 cd ⟨a++List.replicate (fn.ntmps-a.length) .dead,σ⟩with
   |some (.exit _,_)=>none
   |some (_,b)=>match qa3 c.cfg fn b with
     |some r=>some (r,some b.σ)
     |none=>none
   |none=>none
def qd9(c:PC)(tm:List AV)(σ:St)(op:Op):Option (AV×Option St):=
 match op with
 |.call ⟨.value g,b,_⟩=>match aev tm g with
   |.fn f a=>match c.inl f with
     |some fn=>qxh c σ fn (b.toList.map (aev tm)++a)
     |none=>qa7 c f σ (b.toList.map (aev tm)++a)
   |_=>none
 |op=>qfW c tm σ op
theorem qBc{fb fr:Nat->Nat}(x:AV)(h:rb x=[])(g:rr x=[]):ren fb fr x=x:=qqa fb fr x h g
theorem qrc{fb fr:Nat->Nat}(xs:List AV)(h:rbL xs=[])(g:rrL xs=[]):qX fb fr xs=xs:=qnM fb fr xs h g
theorem qeG{x:AV}(h:js x=true):rb x=[]/\rr x=[]:=by
 grind [js]
theorem qij:∀{xs:List AV},noRefs xs=true->rbL xs=[]/\rrL xs=[]
 |[],_=>⟨rfl,rfl⟩
 |x::xs,h=>by
   simp only[noRefs,km,wb]at h;let⟨d,c⟩:=qeG h.1;let⟨b,a⟩:=qij (xs:=xs) h.2;grind [rbL,rrL]
theorem qvy{σ:St}{a:List AV}{p:List AV->Option AV}{v:AV}(h:noRefs a=true)(i:p a=some v)(f:js v=true):Qk σ a (λ σ a=>Jm p σ a)=some (v,none):=by
 let⟨d,c⟩:=qij h;let⟨k,j⟩:=qeG f
 have b:jZ σ a=[]:=by
  unfold jZ;rw[d];show qlr σ.bx σ.bx.length []=[];cases σ.bx.length with
  |zero|succ n=>rfl
 have e:qbf σ a=[]:=by
  unfold qbf;rw[b,c];rfl
 unfold Qk
 have g:qfA σ a=true:=by
  unfold qfA;rw[b,e,d,c];rfl
 rw[g];simp only;rw[b,e,qrc a d c];have:qI σ [] []=⟨[],[],[],[]⟩:=rfl;grind [Jm,qfR,qBc]
theorem qJa{c:PC}{ex:jJ}{f:Nat}{σ:St}{a:List AV}{r:AV×Option St}(h:qa7 c f σ a=some r):qbp c.cfg ex σ f a=some r:=by
 unfold qa7 at h;split at h
 rotate_left
 .rename_i g;split at h<;>try cases h
  rename_i p e;have b:c.cfg.raw f=true:=by show c.raw f=true;unfold PC.raw;rw[g,e];rfl
  have d:(λ(σ:St) a=>qby c.cfg ex σ f a)=p:=by
   simp_all [qby,PC.cfg,PC.prim]
  unfold qbp qgy;grind
 rename_i p g;split at h<;>try cases h
 rename_i i;split at h<;>try cases h
 rename_i v j;split at h<;>try cases h
 rename_i k
 have d:∀σ:St,(λ(σ:St) a=>qby c.cfg ex σ f a)=λ σ a=>Jm p σ a:=λ _=>by
  simp_all [qby,PC.cfg,PC.prim]
 have b:c.cfg.raw f=false:=by show c.raw f=false;unfold PC.raw;rw[g]
 unfold qbp qgy;rw[b];let⟨o,n⟩:=qij i;cases m:a.flatMap rsA with
 |nil=>
   have:r=(v,none):=by
    grind
   subst this;simp only;rw[d σ];exact qvy i j k
 |cons q l=>
   simp only;rw[d σ,qvy i j k];grind [qnE]
theorem qNg{C:Cfg}{ex:jJ}{σ:St}{f:Nat}{a:List AV}{r:AV×Option St}(b:C.inl f=none)(h:qbp C ex σ f a=some r)(c:C.lo f=false->C.raw f=false/\noRefs (a.map (jg σ.rw))=true/\js r.1=true):qdf C ex σ f a=some r:=by
 grind [qdf]
theorem qBQ{c:PC}{ex:jJ}{f:Nat}{σ:St}{a:List AV}{r:AV×Option St}(g:c.inl f=none)(h:qa7 c f σ a=some r):qdf c.cfg ex σ f a=some r:=by
 refine qNg g (qJa h) λ e=>?_;unfold qa7 at h;split at h
 rotate_left
 .rename_i d;split at h<;>try cases h
  rename_i p b;have:c.cfg.lo f=true:=by show(c.raw f||(c.ld f||(c.inl f).isSome))=true;unfold PC.raw;rw[d,b];rfl
  rw[e]at this;cases this
 rename_i p d;have i:c.cfg.raw f=false:=by show c.raw f=false;unfold PC.raw;rw[d]
 grind
theorem qFw{c:PC}{ex:jJ}{tm:List AV}{σ:St}{op:Op}{r:AV×Option St}(h:qfW c tm σ op=some r):opA c.cfg ex tm σ op=some r:=by
 unfold qfW at h;grind [opA,qgs,qBQ]
theorem qgM{i:List AV->St->Op->Option (AV×Option St)}{c:PC}{ex:jJ}(a:∀tm σ op r,i tm σ op=some r->opA c.cfg ex tm σ op=some r){ops:Array Oper}{b:Bool}:∀{l:List Oper}{s e:S},jY i c ops b l s=some e->zA c.cfg ex ops b l s=some e
 |[],s,e,h=>h
 |o::g,s,e,h=>by
   simp only[jY]at h;simp only[zA];split at h
   .rename_i f;rw[f];simp only;split at h
    .rename_i x d;rw[a _ _ _ _ d];exact qgM a h
    .rename_i x σ' d;rw[a _ _ _ _ d];simp only;split at h
     .cases h
     .rename_i j;rw[j];exact qgM a h
    .cases h
   .rename_i f;rw[f];exact qgM a h
   .cases h
theorem qtg{e:List AV->St->Op->Option (AV×Option St)}{c:PC}{d:Nat}(j:∀n tm σ op r,e tm σ op=some r->opA c.cfg (Q5 c.cfg (n+d)) tm σ op=some r):∀{n:Nat}{cd:Code}{s:S}{r:Ex×S},zi e c n cd s=some r->Q5 c.cfg (n+d) cd s=some r:=by
 intro n
 induction n with
 |zero=>intro cd s r h;simp[zi]at h
 |succ n i=>
   intro cd s r h;simp only[zi]at h;rw[show n+1+d=(n+d)+1 by omega];simp only[Q5];cases cd with
   |region id ops g=>
     simp only[yK]at h;simp only[qb6];split at h
     .grind [qgM]
     .grind [qgM]
   |seq a b=>
     grind [yK,qb6]
   |cond t x y=>
     grind [yK,qb6]
   |block id b=>
     grind [yK,qb6]
   |loop b=>
     simp only[yK]at h;simp only[qb6];cases f:zi e c n b (qfd (c.pur b) s)with
     |none=>rw[f]at h;cases h
     |some q=>
       rw[f]at h;rw[show Q5 c.cfg (n+d) b (qfd (c.cfg.pur b) s)=_ from i f];grind
   |_=>exact h
theorem qF6{d:List AV->St->Op->Option (AV×Option St)}{c:PC}:∀{n:Nat}{cd:Code}{s:S}{r:Ex×S},zi d c n cd s=some r->zi d c (n+1) cd s=some r:=by
 intro n
 induction n with
 |zero=>intro cd s r h;simp[zi]at h
 |succ n e=>
   intro cd s r h;rw[zi]at h |-
   cases cd with
   |seq a b=>
     grind [yK]
   |cond t x y=>
     grind [yK]
   |block id b=>
     grind [yK]
   |loop b=>
     grind [yK]
   |_=>exact h
theorem qdZ{b:List AV->St->Op->Option (AV×Option St)}{c:PC}{n m:Nat}(a:n<=m){cd:Code}{s:S}{r:Ex×S}(h:zi b c n cd s=some r):zi b c m cd s=some r:=by
 induction a with
 |refl=>exact h
 |step _ d=>exact qF6 d
theorem qKu{c:PC}{σ:St}{fn:Func}{a:List AV}{r:AV×Option St}(h:qxh c σ fn a=some r):∃cd e b x,fn.body=some cd/\zi (qfW c) c 12 cd ⟨a++List.replicate (fn.ntmps-a.length) .dead,σ⟩=some (e,b)/\(e=.ret\/e=.normal)/\qa3 c.cfg fn b=some x/\r=(x,some b.σ):=by
 unfold qxh at h;split at h<;>try cases h
 rename_i cd j;split at h<;>try cases h
 rename_i e b d g;split at h<;>cases h;rename_i x f;refine⟨cd,e,b,x,j,g,?_,f,rfl⟩;cases e with
 |normal=>exact .inr rfl
 |ret=>exact .inl rfl
 |exit i=>exact(d i rfl).elim
theorem qMU{c:PC}(n:Nat){tm:List AV}{σ:St}{op:Op}{r:AV×Option St}(h:qd9 c tm σ op=some r):opA c.cfg (Q5 c.cfg (n+12)) tm σ op=some r:=by
 unfold qd9 at h;split at h
 .rename_i g k ts;split at h<;>try cases h
  rename_i f j o;simp only[opA,qgs,o];split at h
  .rename_i fn a;obtain⟨cd,e,q,x,v,p,u,t,rfl⟩:=qKu h;have s:=qtg (d:=0) (λ n tm σ op r h=>qFw h) (qdZ (m:=n+12) (by omega) p);have b:c.cfg.lo f=true:=by show(c.raw f||(c.ld f||(c.inl f).isSome))=true;rw[a];simp
   have i:c.cfg.inl f=some fn:=a;unfold qdf;rw[b];simp only[i];unfold qxg;grind
  .rename_i a;exact qBQ a h
 .rename_i op l;exact qFw h
theorem qAZ{c:PC}:∀n tm σ op r,qd9 c tm σ op=some r->opA c.cfg (Q5 c.cfg (n+12)) tm σ op=some r:=λ n _ _ _ _ h=>qMU n h
def Run(c:PC)(cd:Code)(s:S)(K:Ex->S->Prop):Prop:=∃n e a,zi (qd9 c) c n cd s=some (e,a)/\K e a
inductive It where
 |code (c:Code)|blk (id:Nat)|ops (os:Array Oper) (draw:Bool) (rest:List Oper)
def Go(c:PC)(Q:Ex->S->Prop):List It->Ex->S->Prop
 |[],e,s=>Q e s
 |.code cd::k,.normal,s=>Run c cd s λ e b=>Go c Q k e b
 |.code _::k,e,s=>Go c Q k e s
 |.blk id::k,.exit i,s=>Go c Q k (if i=id then .normal else .exit i) s
 |.blk _::k,e,s=>Go c Q k e s
 |.ops os d a::k,.normal,s=>∃b,jY (qd9 c) c os d a s=some b/\Go c Q k .normal b
 |.ops _ _ _::k,e,s=>Go c Q k e s
section
variable {c:PC}{Q:Ex->S->Prop}{k:List It}{tm:List AV}{σ:St}{s:S}
theorem qIO{cd:Code}{K:Ex->S->Prop}(h:∀n,∀r,yK (qd9 c) c (zi (qd9 c) c n) cd s=some r↔r=(.normal,s)):Run c cd s K↔K .normal s:=by
 constructor
 .rintro⟨n,e,f,a,d⟩;cases n with
  |zero=>simp[zi]at a
  |succ n=>have:=(h n _).1 a;cases this;exact d
 .intro b;exact⟨1,_,_,(h 0 _).2 rfl,b⟩
theorem qNW(e:Ex):Go c Q [] e s=Q e s:=rfl
theorem qJY:Go c Q (.code .skip::k) .normal s=Go c Q k .normal s:=
 propext (qIO (c:=c) (s:=s) (cd:=.skip) (K:=λ e a=>Go c Q k e a) λ n r=>⟨λ h=>by cases h;rfl,λ h=>by rw[h];rfl⟩)
theorem qJ5(l:Nat):Go c Q (.code (.label l)::k) .normal s=Go c Q k .normal s:=
 propext (qIO (c:=c) (s:=s) (cd:=.label l) (K:=λ e a=>Go c Q k e a) λ n r=>⟨λ h=>by cases h;rfl,λ h=>by rw[h];rfl⟩)
theorem qNr(id:Nat):Go c Q (.code (.exit id)::k) .normal s=Go c Q k (.exit id) s:=by
 apply propext;constructor
 .rintro⟨n,e,d,a,b⟩;cases n with
  |zero=>simp[zi]at a
  |succ n=>simp only[zi,yK,wz,wI]at a;obtain⟨rfl,rfl⟩:=a;exact b
 .intro h;exact⟨1,_,_,rfl,h⟩
theorem qMN:Go c Q (.code .ret::k) .normal s=Go c Q k .ret s:=by
 apply propext;constructor
 .rintro⟨n,e,d,a,b⟩;cases n with
  |zero=>simp[zi]at a
  |succ n=>simp only[zi,yK,wz,wI]at a;obtain⟨rfl,rfl⟩:=a;exact b
 .intro h;exact⟨1,_,_,rfl,h⟩
theorem qD2(cd:Code):Go c Q (.code cd::k) .ret s=Go c Q k .ret s:=rfl
theorem qAT(cd:Code)(i:Nat):Go c Q (.code cd::k) (.exit i) s=Go c Q k (.exit i) s:=rfl
theorem qz5(id:Nat):Go c Q (.blk id::k) .normal s=Go c Q k .normal s:=rfl
theorem qGO(id:Nat):Go c Q (.blk id::k) .ret s=Go c Q k .ret s:=rfl
theorem qD6(id i:Nat):Go c Q (.blk id::k) (.exit i) s=Go c Q k (if i=id then .normal else .exit i) s:=rfl
theorem qOp(a b:Code):Go c Q (.code (.seq a b)::k) .normal s=Go c Q (.code a::.code b::k) .normal s:=by
 apply propext;show Run c (.seq a b) s (λ e f=>Go c Q k e f)↔Run c a s λ e f=>Go c Q (.code b::k) e f;constructor
 .rintro⟨n,e,f,d,g⟩;cases n with
  |zero=>simp[zi]at d
  |succ n=>
    simp only[zi,yK]at d;split at d
    .rename_i h l;exact⟨n,_,h,l,n,e,f,d,g⟩
    .rename_i j;refine⟨n,e,f,d,?_⟩;cases e with
     |normal=>exact absurd d (j f)
     |exit i|ret=>exact g
 .rintro⟨n,e,h,d,g⟩;cases e with
  |normal=>
    let⟨m,e,f,p,o⟩:=g;refine⟨n+m+1,e,f,?_,o⟩;simp only[zi,yK];rw[qdZ (by omega) d];exact qdZ (by omega) p
  |exit i|ret=>exact⟨n+1,_,h,by simp only[zi,yK];rw[d],g⟩
theorem qJy(id:Nat)(b:Code):Go c Q (.code (.block id b)::k) .normal s=Go c Q (.code b::.blk id::k) .normal s:=by
 apply propext;show Run c (.block id b) s (λ e g=>Go c Q k e g)↔Run c b s λ e g=>Go c Q (.blk id::k) e g;constructor
 .rintro⟨n,e,g,a,f⟩;cases n with
  |zero=>simp[zi]at a
  |succ n=>
    simp only[zi,yK]at a;cases h:zi (qd9 c) c n b s with
    |none=>rw[h]at a;cases a
    |some q=>
      rw[h]at a;let⟨e1,d⟩:=q;refine⟨n,e1,d,h,?_⟩;cases e1<;>(simp only[wz,wI]at a;obtain⟨rfl,rfl⟩:=a;exact f)
 .rintro⟨n,e,d,a,f⟩;cases e with
  |normal|exit i|ret=>exact⟨n+1,_,d,by simp only[zi,yK];rw[a],f⟩
theorem go_loop(b:Code):Go c Q (.code (.loop b)::k) .normal s=Go c Q (.code b::.code (.loop b)::k) .normal (qfd (c.pur b) s):=by
 apply propext;show Run c (.loop b) s (λ e d=>Go c Q k e d)↔Run c b (qfd (c.pur b) s) λ e d=>Go c Q (.code (.loop b)::k) e d;constructor
 .rintro⟨n,e,d,a,f⟩;cases n with
  |zero=>simp[zi]at a
  |succ n=>
    simp only[zi,yK]at a;split at a
    .rename_i g j;exact⟨n,_,g,j,n,e,d,a,f⟩
    .rename_i h;refine⟨n,e,d,a,?_⟩;cases e with
     |normal=>exact absurd a (h d)
     |exit i|ret=>exact f
 .rintro⟨n,e,g,a,f⟩;cases e with
  |normal=>
    let⟨m,e,d,o,l⟩:=f;refine⟨n+m+1,e,d,?_,l⟩;simp only[zi,yK];rw[qdZ (by omega) a];exact qdZ (by omega) o
  |exit i|ret=>exact⟨n+1,_,g,by simp only[zi,yK];rw[a],f⟩
theorem qIa (rw:List Row) (y:AV):rsA (jg rw y)=[]:=by
 have b:∀ x,rsC (qU rw x)=[]:=by
  intro x;cases x with
  | rs r lo n a f =>
    simp only [qU];split
    ·split<;>rfl
    ·rfl
  | _=>rfl
 cases y with
 | agg cs =>
   show (cs.map (qU rw)).flatMap rsC=[];grind [List.flatMap_map,List.flatMap_eq_nil_iff]
 | rs r lo n a f =>
   show rsA (qU rw (.rs r lo n a f))=[];simp only [qU];split
   ·split<;>rfl
   ·rfl
 | _=>rfl
def qGi(ts:List Nat)(s:S):Prop:=∀t∈ts,rsA (s.tm.getD t .dead)=[]
theorem qF4(s:S)(t u:Nat)(h:u=t\/rsA (s.tm.getD u .dead)=[]):rsA ((qcp s t).tm.getD u .dead)=[]:=by
 unfold qcp;cases b:rsA (s.tm.getD t .dead)with
 |nil=>
   grind
 |cons r l=>
   show rsA ((s.tm.set t _).getD u .dead)=[];by_cases c:t=u
   .subst c
    have d:t<s.tm.length:=by
     apply waf;intro a;rw[List.getD_eq_getElem?_getD,List.getElem?_eq_none a]at b;cases b
    grind [List.getElem?_set_self,qIa]
   .grind
theorem qvi:∀(ts:List Nat) (s:S) (us:List Nat),qGi us s->qGi (us++ts) (qfd ts s)
 |[],s,us,h=>by rw[wy];exact h
 |t::ts,s,us,h=>by
   have:=qvi ts (qcp s t) (us++[t]) (λ u a=>qF4 s t u (by
    obtain a|a:=wk.1 a
    .exact .inr (h u a)
    .exact .inl (by simpa using a)))
   rw[wj]at this;exact this
theorem qE8:∀(ts:List Nat) (s:S),qGi ts s->qfd ts s=s
 |[],s,h=>rfl
 |t::ts,s,h=>by
   have e:qcp s t=s:=by unfold qcp;rw[h t (wi ..)]
   show qfd ts (qcp s t)=s;rw[e];exact qE8 ts s λ u a=>h u (wg _ a)
theorem qOC(b:Code):Go c Q (.code (.loop b)::k) .normal (qfd (c.pur b) s)=Go c Q (.code (.loop b)::k) .normal s:=by
 rw[go_loop,go_loop,qE8 _ _ (by have:=qvi (c.pur b) s [] (λ _ h=>by cases h);simpa using this)]
def qF7(c:PC)(Q:Ex->S->Prop)(k:List It)(s:S)(x y:Code):AV->Prop
 |.v (.bool true)=>Go c Q (.code x::k) .normal s
 |.v (.bool false)=>Go c Q (.code y::k) .normal s
 |_=>False
theorem qMZ(t:Operand)(x y:Code):Go c Q (.code (.cond t x y)::k) .normal ⟨tm,σ⟩=qF7 c Q k ⟨tm,σ⟩ x y (aev tm t):=by
 apply propext;show Run c (.cond t x y) ⟨tm,σ⟩ (λ e b=>Go c Q k e b)↔_;constructor
 .rintro⟨n,e,b,a,f⟩;cases n with
  |zero=>simp[zi]at a
  |succ n=>
    simp only[zi,yK]at a;split at a
    .rename_i d;rw[d];exact⟨n,e,b,a,f⟩
    .rename_i d;rw[d];exact⟨n,e,b,a,f⟩
    .cases a
 .intro h;unfold qF7 at h;split at h
  .rename_i d;let⟨n,e,b,a,f⟩:=h;exact⟨n+1,e,b,by simp only[zi,yK,d];exact a,f⟩
  .rename_i d;let⟨n,e,b,a,f⟩:=h;exact⟨n+1,e,b,by simp only[zi,yK,d];exact a,f⟩
  .exact h.elim
theorem qJu(x y:Code):qF7 c Q k s x y (.v (.bool true))=Go c Q (.code x::k) .normal s:=rfl
theorem qGM(x y:Code):qF7 c Q k s x y (.v (.bool false))=Go c Q (.code y::k) .normal s:=rfl
theorem qHj(id:Nat)(l:List Oper)(d:Bool){p:Tmp}(g:qiR ⟨l⟩ d=false)(f:qoj ⟨l⟩ d=some p)(m:qeL c.cfg.lo s.tm (qb4 ⟨l⟩) true=true)(h:Go c (λ e a=>qtJ a.tm ⟨l⟩ p=true/\Go c Q (.ops ⟨l⟩ true (qg3 ⟨l⟩)::k) .normal a) (.ops (qb4 ⟨l⟩) true (qb4 ⟨l⟩).toList::[]) .normal s):Go c Q (.code (.region id ⟨l⟩ d)::k) .normal s:=by
 let⟨a,o,j,b,n,i⟩:=h;refine⟨1,.normal,b,?_,i⟩;simp_all [zi,yK]
theorem go_region(id:Nat)(l:List Oper)(d:Bool)(f:qiR ⟨l⟩ d=false)(b:qoj ⟨l⟩ d=none):Go c Q (.code (.region id ⟨l⟩ d)::k) .normal s=(qeL c.cfg.lo s.tm ⟨l⟩ d=true/\Go c Q (.ops ⟨l⟩ d l::k) .normal s):=by
 apply propext;constructor
 .rintro⟨n,e,i,a,h⟩;cases n with
  |zero=>simp[zi]at a
  |succ n=>
    simp only[zi,yK,f,b]at a;split at a<;>cases a;rename_i g j;exact⟨g,_,j,h⟩
 .rintro⟨g,i,a,h⟩;exact⟨1,.normal,i,by simp only[zi,yK,f,b];rw[g,a],h⟩
theorem qGo(id:Nat)(l:List Oper)(d:Bool)(b:qiR ⟨l⟩ d=true)(j:qiz c.cfg.lo l=true)(e:qce c.cfg.lo ⟨l⟩=true)(m:qeL c.cfg.lo s.tm ⟨qH c.cfg.lo l⟩ true=true)(h:Go c Q (.ops ⟨qH c.cfg.lo l⟩ true (qH c.cfg.lo l)::.ops ⟨l⟩ false (alL c.cfg.lo l)::.ops ⟨l⟩ true (qqW c.cfg.lo l)::k) .normal s):Go c Q (.code (.region id ⟨l⟩ d)::k) .normal s:=by
 let⟨i,p,g,o,a,n,f⟩:=h;refine⟨1,.normal,a,?_,f⟩;simp_all [zi,yK]
theorem qF8(os:Array Oper)(d:Bool):Go c Q (.ops os d []::k) .normal s=Go c Q k .normal s:=by
 apply propext;constructor
 .rintro⟨e,a,b⟩;simp only[jY,wz]at a;subst a;exact b
 .intro h;exact⟨s,rfl,h⟩
def qsl(c:PC)(Q:Ex->S->Prop)(k:List It)(os:Array Oper)(d l:Bool)(a:List Oper)(b:Option Tmp)(tm:List AV)(σ:St):Option (AV×Option St)->Prop
 |some (x,none)=>Go c Q (.ops os d a::k) .normal ⟨qbh tm b x,σ⟩
 |some (x,some σ')=>(d && !l)=false/\Go c Q (.ops os d a::k) .normal ⟨qbh tm b x,σ'⟩
 |none=>False
def qqP(c:PC)(Q:Ex->S->Prop)(k:List It)(os:Array Oper)(d:Bool)(a:List Oper)(o:Oper)(tm:List AV)(σ:St):Option Bool->Prop
 |some true=>qsl c Q k os d (zm c.cfg.lo o.op&&qcv c.cfg os (os.size-(a.length+1)) tm σ o.op) a o.dst tm σ (qd9 c tm σ o.op)
 |some false=>Go c Q (.ops os d a::k) .normal ⟨qbh tm o.dst qg0,σ⟩
 |none=>False
theorem qNZ(os:Array Oper)(d:Bool)(o:Oper)(f:List Oper):Go c Q (.ops os d (o::f)::k) .normal ⟨tm,σ⟩=qqP c Q k os d f o tm σ (yq os tm o):=by
 apply propext;constructor
 .rintro⟨b,a,e⟩;simp only[jY]at a;unfold qqP;split at a
  .rename_i g;unfold qsl;split at a
   .rename_i x i;exact⟨b,a,e⟩
   .rename_i x σ' i;split at a
    .cases a
    .rename_i j;exact⟨j,b,a,e⟩
   .cases a
  .rename_i g;exact⟨b,a,e⟩
  .cases a
 .intro h;unfold qqP at h;split at h
  .rename_i g;unfold qsl at h;split at h
   .rename_i x i;let⟨b,a,e⟩:=h;exact⟨b,by simp only[jY,g,i];exact a,e⟩
   .rename_i x σ' i;let⟨j,b,a,e⟩:=h;exact⟨b,by simp only[jY,g,i,j];exact a,e⟩
   .exact h.elim
  .rename_i g;let⟨b,a,e⟩:=h;exact⟨b,by simp only[jY,g];exact a,e⟩
  .exact h.elim
end
end Go.AmZ
namespace Go.AmZ
open Go Go.RowKit
def Sub(x y:AV):Prop:=∀Γ u,Rep Γ x u->Rep Γ y u
theorem Sub.refl(x:AV):Sub x x:=λ _ _ h=>h
inductive QF:List AV->List AV->Prop
 |nil:QF [] []
 |cons {x y:AV}{xs ys:List AV}:Sub x y->QF xs ys->QF (x::xs) (y::ys)
theorem QF.refl:∀xs,QF xs xs
 |[]=>.nil
 |x::xs=>.cons (.refl x) (.refl xs)
theorem QF.rep{Γ:Gh}:∀{xs ys:List AV}{us:List Value},QF xs ys->RepL Γ xs us->RepL Γ ys us
 |_,_,_,.nil,h=>h
 |_,_,us,.cons h t,g=>by
   obtain⟨u,r,rfl,b,a⟩:=g.uncons;exact .cons (h Γ u b) (t.rep a)
theorem QF.tup{xs ys:List AV}(h:QF xs ys):Sub (.tup xs) (.tup ys):=by
 intro Γ u a;cases a with
 |tup cs us c b=>
   have:=h.rep (RepL.mk c b);exact .tup _ _ this.len this.rep
theorem qMw{P:Program}{C:Cfg}{Γ:Gh}{σ:St}{w:World}(t:ym P C){f:FuncId}{fn:Func}{c:Code}(F:P.funcs[f]?=some fn)(E:fn.body=some c)(o:jW c=true){b:List AV}{a:List Value}{r:AV×Option St}(s:Inv Γ σ w)(q:RepL Γ b a)
  {n:Nat}{e:Ex}{d:S} (D:Q5 C n c (qhq fn σ b)=some (e,d)) (m:e=.ret\/e=.normal) (k:qiG C fn σ d=some r):Ja P Γ σ w f a r:=by
 unfold Ja;refine calls_of_wp F E ?_;have l:Inv Γ (qhq fn σ b).σ w:=s.wr rfl rfl
 have B:zt Γ (qhq fn σ b).tm {tmps:=a.toArray++Array.replicate (fn.ntmps-a.toArray.size) undef,defers:=[]}:=by
  show RepL Γ (b++List.replicate (fn.ntmps-b.length) .dead) (a.toArray++Array.replicate (fn.ntmps-a.toArray.size) undef).toList;rw[xl,xj];have:a.toArray.size=b.length:=by simpa using q.len
  rw[this];exact q.append (qde Γ _)
 refine wp_mono (qxy t n c _ e d o D Γ w _ l B rfl) ?_;rintro I x w' ⟨rfl,o,Γ',H,u,g3,G⟩;unfold qiG at k;split at k<;>cases k;rename_i i j;let⟨v,A,z⟩:=qjD t.ty u g3 j;let⟨⟨h,u1,u2,u3⟩,u4⟩:=qHJ s H u G z
 have:x.defers=[]/\∃v,(results fn x.tmps).run P w'=.ok v w'/\∃g Γ',Ending.returned v=.returned g/\Ext Γ w Γ' w'/\Inv Γ' (turn σ (qbm σ i d.σ).2) w'/\Rep Γ' (qbm σ i d.σ).1 g/\qL {σ with wr:=[],wrr:=[]} (turn {σ with wr:=[],wrr:=[]} (qbm σ i d.σ).2):=
  ⟨o,v,A,v,h,rfl,u1,u2,u3,u4⟩
 obtain rfl|rfl:=m
 .exact this
 .exact this
def Ret(c:PC)(a:List ResultVar)(b:AV->Prop)(e:Ex)(s:S):Prop:=
 (e=.ret\/e=.normal)/\match Qc c.cfg s.tm s.σ a with
  |some l=>refs 0 0 (qh6 0 s.σ.rw (zP l))=false/\b (qh6 0 s.σ.rw (zP l))
  |none=>False
def GoB(c:PC)(b:AV->Prop)(fn:Func)(a:List AV):Prop:=
 match fn.body with
 |some cd=>Go c (Ret c fn.results.toList b) [.code cd] .normal ⟨a++List.replicate (fn.ntmps-a.length) .dead,emp⟩
 |none=>False
def JW(fn:Func):Bool:=match fn.body with
 |some cd=>jW cd && !(fn.name=="runtime.NumGoroutine")
 |none=>false
theorem ym.pur{P:Program}{C:Cfg}(h:ym P C)(p:Code->List Nat)(q:Nat->Bool):ym P {C with pur:=p,lo:=q}:=⟨h.mixed,h.ty,h.fn,h.prim,h.inl⟩
theorem qId{P:Program}{c:PC}(hC:ym P c.cfg){f:FuncId}{fn:Func}(hf:P.funcs[f]?=some fn)(hb:JW fn=true)(p:List AV->Option AV)
  (h:∀ args r,p args=some r->∃ args' Pr p q,QF args args'/\(∀ v,Pr v->Sub v r)/\GoB { c with pur:=p,ld:=q } Pr fn args'):qS P f (Jm p):=by
 unfold JW at hb;cases hc:fn.body with
 | none=>rw[hc]at hb;cases hb
 | some cd =>
 rw[hc]at hb;simp only[wb,wL]at hb;obtain⟨hd,hn⟩:=hb;refine⟨⟨fn,hf,by rw[hc];rfl,hn⟩,λ Γ σ w args vals r hi hr hp=>?_⟩;unfold Jm at hp;split at hp<;>try cases hp
 split at hp<;>cases hp;rename_i v hv;obtain⟨args',Pr,pp,qq,g1,g2,hgo⟩:=h args v hv;have hC:ym P (PC.cfg { c with pur:=pp,ld:=qq }):=hC.pur pp _;unfold GoB at hgo;rw[hc]at hgo;obtain⟨n,e,s',g3,g4,g0⟩:=hgo;split at g0
 case h_2=>exact g0.elim
 rename_i l hl;obtain⟨g6,g7⟩:=g0
 have g5:qa3 (PC.cfg { c with pur:=pp,ld:=qq }) fn s'=some (zP l):=by
  unfold qa3;rw[hl]
 generalize zP l=rv at g5 g6 g7
 have hl:qiG (PC.cfg { c with pur:=pp,ld:=qq }) fn emp s'=some (qh6 0 s'.σ.rw rv,none):=by
  unfold qiG;rw[g5];simp only[qbm];have f1:(s'.σ.wr.filter λ b=>decide (b<emp.bx.length))=[]:=waq.2 λ b _=>by simp[emp]
  have f2:(s'.σ.wrr.filter λ b=>decide (b<emp.rw.length))=[]:=waq.2 λ b _=>by simp[emp]
  have hk:qn0 emp rv s'.σ = false:=by
   unfold qn0;rw[f1];show(refs 0 0 (qh6 0 s'.σ.rw rv)||false)=false;rw[g6];rfl
  rw[hk,f1,f2];rfl
 have hcall:=qMw (f:=f) (σ := emp) hC hf hc hd hi (g1.rep hr) (qtg qAZ g3) g4 hl;refine Calls.mono hcall ?_;rintro e' w' ⟨v',Γ',q1,q2,q3,q4,q5⟩;exact⟨v',Γ',q1,q2,q3,g2 _ g7 Γ' v' q4,q5⟩
section
variable {c:PC}{Q:Ex->S->Prop}{k:List It}{tm:List AV}{σ:St}{os:Array Oper}{d:Bool}{rest:List Oper}{dst:Option Tmp}
def qMh(c:PC)(Q:Ex->S->Prop)(k:List It)(os:Array Oper)(d:Bool)(rest:List Oper)(dst:Option Tmp)(tm:List AV)(σ:St)(x:AV):Prop:=Go c Q (.ops os d rest::k) .normal ⟨qbh tm dst x,σ⟩
theorem qFr(l:Bool)(x:AV):qsl c Q k os d l rest dst tm σ (some (x,none))=qMh c Q k os d rest dst tm σ x:=rfl
theorem qMV(l:Bool)(x:AV)(σ':St):qsl c Q k os d l rest dst tm σ (some (x,some σ'))=((d && !l)=false/\qMh c Q k os d rest dst tm σ' x):=rfl
theorem qJi(o:Oper):qqP c Q k os d rest o tm σ (some true)=qsl c Q k os d (zm c.cfg.lo o.op&&qcv c.cfg os (os.size-(rest.length+1)) tm σ o.op) rest o.dst tm σ (qd9 c tm σ o.op):=rfl
theorem qG9(o:Oper):qqP c Q k os d rest o tm σ (some false)=Go c Q (.ops os d rest::k) .normal ⟨qbh tm o.dst qg0,σ⟩:=rfl
end
end Go.AmZ
namespace Go.GxZ
open Go.RowKit
inductive T where
 |mk (kind:Int) (name:List UInt8) (sort:Int) (kids:List T)
namespace T
def kind:T->Int|mk k _ _ _=>k
def name:T->List UInt8|mk _ n _ _=>n
def sort:T->Int|mk _ _ s _=>s
def kids:T->List T|mk _ _ _ l=>l
def para{α:Type}(f:T->List α->α)(t:T):α:=
 T.rec (motive_1:=λ _=>α) (motive_2:=λ _=>List α) (λ k n s l c=>f (mk k n s l) c) [] (λ _ _ a b=>a::b) t
theorem para_eq{α : Type}(f:T->List α -> α)(t:T):para f t=f t (t.kids.map (para f)):=by
 obtain⟨k,n,s,l⟩:=t;show f (mk k n s l) _=f (mk k n s l) _;congr 1;show T.rec_1 (motive_1 := λ _ => α) (motive_2 := λ _=>List α) _ _ _ l=l.map (para f)
 induction l with
 | nil=>rfl
 | cons a l ih=>exact congrArg (para f a :: ·) ih
theorem ind{P:T->Prop}(h:∀t,(∀k∈t.kids,P k)->P t)(t:T):P t:=
 T.rec (motive_1:=P) (motive_2:=λ l=>∀k∈l,P k) (λ _ _ _ _ c=>h _ c) (λ k b=>by cases b)
  (λ a l e d k b=>by obtain rfl|b:=ww.1 b;exact e;exact d k b) t
end T
def qd5{α:Type}(k:Nat)(R:α->List Value->Prop)(Q:Nat->Prop)(w:World)(a:Option Addr)(xs:List α):Prop:=
 ∀(j:Nat) (x:α),xs[j]?=some x->∃b off cs,a=some ⟨b,off,none⟩/\Q b/\cs.length=k/\(∀(i:Nat) (c:Value),cs[i]?=some c->w.cell? ⟨b,off+j*k+i,none⟩=some c)/\R x cs
def Jk(Q:Nat->Prop)(w:World):T->List Value->Prop:=
 T.para λ t b cs=>∃a c,cs=[.int .i64 t.kind,.string ⟨t.name.toArray⟩,.int .i64 t.sort,.slice a b.length c]/\qd5 4 (λ r cs=>r cs) Q w a b
theorem qmk{Q:Nat->Prop}{w:World}{t:T}{cs:List Value}:
  Jk Q w t cs↔∃a c,cs=[.int .i64 t.kind,.string ⟨t.name.toArray⟩,.int .i64 t.sort,.slice a t.kids.length c]/\qd5 4 (Jk Q w) Q w a t.kids:=by
 unfold Jk;rw[T.para_eq];simp only[wB];refine exists_congr λ a=>exists_congr λ c=>and_congr Iff.rfl ?_;constructor
 .intro h j x d;obtain⟨b,off,cs,l,k,i,g,f⟩:=h j _ (by rw[List.getElem?_map,d];rfl);grind
 .intro h j r d;rw[List.getElem?_map,Option.map_eq_some_iff]at d;obtain⟨x,e,rfl⟩:=d;exact h j x e
theorem qd5.mono{α:Type}{k:Nat}{R R':α->List Value->Prop}{Q d:Nat->Prop}{w:World}{a:Option Addr}{xs:List α}(h:qd5 k R Q w a xs)(f:∀b,Q b->d b)(e:∀x∈xs,∀cs,R x cs->R' x cs):qd5 k R' d w a xs:=
 λ j x c=>let⟨b,off,cs,h1,h2,h3,h4,h5⟩:=h j x c;⟨b,off,cs,h1,f b h2,h3,h4,e x (wc c) cs h5⟩
theorem qd5.below{α:Type}{k:Nat}{R R':α->List Value->Prop}{Q:Nat->Prop}{w w':World}{a:Option Addr}{xs:List α}(h:qd5 k R Q w a xs)(f:∀b,Q b->w'.heap[b]?=w.heap[b]?)(g:∀x∈xs,∀cs,R x cs->R' x cs):qd5 k R' Q w' a xs:=
 λ j x d=>let⟨b,off,cs,h1,h2,h3,h4,h5⟩:=h j x d;⟨b,off,cs,h1,h2,h3,λ i c e=>(World.cell?_of_block (w:=w) (a:=⟨b,off+j*k+i,none⟩) (f b h2)).trans (h4 i c e),g x (wc d) cs h5⟩
theorem Jk.mono{Q d:Nat->Prop}{w:World}(g:∀b,Q b->d b)(t:T):∀{cs:List Value},Jk Q w t cs->Jk d w t cs:=by
 refine T.ind (P:=λ t=>∀{cs:List Value},Jk Q w t cs->Jk d w t cs) ?_ t;intro t e cs h;rw[qmk]at h |-
 let⟨a,c,j,i⟩:=h;exact⟨a,c,j,i.mono g λ x f cs h=>e x f h⟩
theorem Jk.keep{Q:Nat->Prop}{w w':World}(f:∀b,Q b->w'.heap[b]?=w.heap[b]?)(t:T):∀{cs:List Value},Jk Q w t cs->Jk Q w' t cs:=by
 refine T.ind (P:=λ t=>∀{cs:List Value},Jk Q w t cs->Jk Q w' t cs) ?_ t;intro t d cs h;rw[qmk]at h |-
 let⟨a,c,i,g⟩:=h;exact⟨a,c,i,g.below f λ x e cs h=>d x e h⟩
def qMk(t:T)(a:Option Addr)(c:Nat):List Value:=[.int .i64 t.kind,.string ⟨t.name.toArray⟩,.int .i64 t.sort,.slice a t.kids.length c]
def qcL(Q:Nat->Prop)(w:World)(a:Option Addr)(l:List T):Prop:=qd5 4 (Jk Q w) Q w a l
theorem Jk.mk{Q:Nat->Prop}{w:World}{t:T}{a:Option Addr}{c:Nat}(h:qcL Q w a t.kids):Jk Q w t (qMk t a c):=qmk.2 ⟨a,c,rfl,h⟩
theorem Jk.out{Q:Nat->Prop}{w:World}{t:T}{cs:List Value}(h:Jk Q w t cs):∃a c,cs=qMk t a c/\qcL Q w a t.kids:=qmk.1 h
theorem qcL.mono{Q d:Nat->Prop}{w:World}{a:Option Addr}{l:List T}(c:∀b,Q b->d b)(h:qcL Q w a l):qcL d w a l:=qd5.mono h c λ _ _ _ h=>h.mono c
theorem qcL.keep{Q:Nat->Prop}{w w':World}{a:Option Addr}{l:List T}(c:∀b,Q b->w'.heap[b]?=w.heap[b]?)(h:qcL Q w a l):qcL Q w' a l:=qd5.below h c λ x _ _ h=>h.keep c x
theorem qcL.at{Q:Nat->Prop}{w:World}{a:Option Addr}{l:List T}(h:qcL Q w a l){j:Nat}{x:T}(f:l[j]?=some x):
  ∃b off d e,a=some ⟨b,off,none⟩/\Q b/\w.cell? ⟨b,off+j*4,none⟩=some (.int .i64 x.kind)/\w.cell? ⟨b,off+j*4+1,none⟩=some (.string ⟨x.name.toArray⟩)/\
   w.cell? ⟨b,off+j*4+2,none⟩=some (.int .i64 x.sort)/\w.cell? ⟨b,off+j*4+3,none⟩=some (.slice d x.kids.length e)/\qcL Q w d x.kids:=by
 let⟨b,off,cs,m,k,n,c,i⟩:=h j x f;obtain⟨d,e,rfl,g⟩:=i.out;exact⟨b,off,d,e,m,k,c 0 _ rfl,c 1 _ rfl,c 2 _ rfl,c 3 _ rfl,g⟩
def InW(Q:Nat->Prop)(w:World):Prop:=∀b,Q b->b<w.heap.size
theorem InW.below{Q:Nat->Prop}{w w':World}(h:InW Q w)(c:Below w.heap.size w w'):InW Q w':=λ b a=>wC (h b a) c.size
theorem qcL.later{Q:Nat->Prop}{w w':World}{a:Option Addr}{l:List T}(h:qcL Q w a l)(e:InW Q w)(d:Below w.heap.size w w'):qcL Q w' a l:=h.keep λ b c=>d.block b (e b c)
theorem Jk.later{Q:Nat->Prop}{w w':World}{t:T}{cs:List Value}(h:Jk Q w t cs)(d:InW Q w)(c:Below w.heap.size w w'):Jk Q w' t cs:=h.keep (λ b a=>c.block b (d b a)) t
end Go.GxZ
namespace Go.AmZ
open Go Go.GxZ
def re(t:T):T:=.mk t.kind t.name t.sort t.kids
theorem qk(t:T):re t=t:=by let⟨k,n,s,l⟩:=t;rfl
inductive Ty where
 |int (k:IntKind)|bool|str|term|list (a:Ty)|pair (a b:Ty)|one (a:Ty)|map (a b:Ty)
 deriving DecidableEq
@[reducible] def Val:Ty->Type
  |.int _=>Int
  |.bool=>Bool
  |.str=>List UInt8
  |.term=>T
  |.list a=>List (Val a)
  |.pair a b=>Val a×Val b
  |.one a=>Val a
  |.map a b=>List (Val a×Val b)
def Ty.size:Ty->Nat
 |.term=>4
 |.pair a b=>a.size+b.size
 |.one a=>a.size
 |_=>1
inductive TV where
 |i (k:IntKind) (n:Int)
 |b (x:Bool)
 |s (x:List UInt8)
 |c (x:Value)
 |nil
 |sl (τ:Ty) (l:List (Val τ)) (lv:Nat)
 |row (id ver:Nat)
 |ptr (b o:Nat)
 |pti (b:Nat) (i:Int)
 |rpt (id ver sv:Nat) (i:Int) (cs:List TV) (o:Nat)
 |ept (cs:List TV) (o:Nat)
 |fn (f:FuncId) (caps:List TV)
 |agg (cs:List TV)
 |tup (vs:List TV)
 |dead
 |mp (b:Nat)
 |mc (κ τ:Ty) (l:List (Val κ×Val τ))
structure qK where
 τ:Ty
 l:List (Val τ)
 ver:Nat
 sv:Nat
 sh:Bool
structure TS where
 bx:List (List TV)
 rw:List qK
abbrev Env:=List (Nat×TV)
def get:Env->Nat->TV
 |[],_=>.dead
 |p::E,t=>match Nat.beq p.1 t with
   |true=>p.2
   |false=>get E t
def qck:Value->TV
 |.bool b=>.b b
 |.int k n=>.i k n
 |.string s=>.s s.data.toList
 |.slice none 0 0=>.nil
 |x=>match zx x with
   |true=>.c x
   |false=>.dead
def qA1:Value->TV
 |.agg cs=>match cs.toList.all zx with
   |true=>.agg (cs.toList.map qck)
   |false=>.dead
 |.tuple vs=>match vs.toList with
   |[]=>.tup []
   |_=>.dead
 |x=>qck x
def evT(E:Env):Operand->TV
 |.tmp t=>get E t
 |.const x=>qA1 x
 |.func f=>.fn f []
 |.global _=>.dead
def jz:TV->List TV
 |.agg cs=>cs
 |x=>[x]
def qhN:TV->Bool
 |.agg _|.tup _|.dead=>false
 |_=>true
def JR:(τ:Ty)->Val τ->List TV
 |.int k,n=>[.i k n]
 |.bool,b=>[.b b]
 |.str,s=>[.s s]
 |.term,t=>[.i .i64 t.kind,.s t.name,.i .i64 t.sort,.sl .term t.kids 1]
 |.list a,l=>[.sl a l 1]
 |.pair a b,p=>JR a p.1++JR b p.2
 |.one a,v=>JR a v
 |.map a b,l=>[.mc a b l]
def qkT:(τ:Ty)->Val τ->TV
 |.int k,n=>.i k n
 |.bool,b=>.b b
 |.str,s=>.s s
 |.list a,l=>.sl a l 1
 |.term,t=>.agg (JR .term t)
 |.pair a b,p=>.agg (JR (.pair a b) p)
 |.one a,v=>.agg (JR (.one a) v)
 |.map a b,l=>.mc a b l
def qAz{c τ:Ty}(l:List (Val c×Val τ))(a b:Ty):Option (List (Val a×Val b)):=if h:c=a/\τ=b then some (h.1▸h.2▸l)else none
def qeE{τ:Ty}(l:List (Val τ))(a:Ty):Option (List (Val a)):=if h:τ=a then some (h▸l)else none
def qmt(rw:List qK)(a:Ty):TV->Option (List (Val a))
 |.nil=>some []
 |.sl _ l _=>qeE l a
 |.row id b=>match rw[id]? with
   |some R=>match Nat.beq R.ver b with
     |true=>qeE R.l a
     |false=>none
   |none=>none
 |_=>none
def qKF(k:IntKind):List TV->Option (Int×List TV)
 |.i a n::r=>match decide (a=k)with
   |true=>some (n,r)
   |false=>none
 |_=>none
def qHq:List TV->Option (Bool×List TV)
 |.b x::r=>some (x,r)
 |_=>none
def qKy:List TV->Option (List UInt8×List TV)
 |.s x::r=>some (x,r)
 |_=>none
def qGv(a:TV->Option (List T)):List TV->Option (T×List TV)
 |.i .i64 k::.s n::.i .i64 s::x::r=>match a x with
   |some l=>some (.mk k n s l,r)
   |none=>none
 |_=>none
def qGA{a:Type}(b:TV->Option a):List TV->Option (a×List TV)
 |x::r=>match b x with
   |some l=>some (l,r)
   |none=>none
 |_=>none
def qoL{σ b a:Type}(p:List σ->Option (b×List σ))(q:List σ->Option (a×List σ))(cs:List σ):Option ((b×a)×List σ):=match p cs with
 |some (x,r)=>match q r with
   |some (y,r)=>some ((x,y),r)
   |none=>none
 |none=>none
def qJL(a b:Ty):List TV->Option (List (Val a×Val b)×List TV)
 |.mc c τ l::r=>match qAz l a b with
   |some l=>some (l,r)
   |none=>none
 |_=>none
def qit(rw:List qK):(τ:Ty)->List TV->Option (Val τ×List TV)
 |.int k=>qKF k
 |.bool=>qHq
 |.str=>qKy
 |.term=>qGv (qmt rw .term)
 |.list a=>qGA (qmt rw a)
 |.pair a b=>qoL (qit rw a) (qit rw b)
 |.one a=>qit rw a
 |.map a b=>qJL a b
def Ty.agg:Ty->Bool
 |.term|.pair _ _|.one _=>true
 |_=>false
def ql0{a:Type}:Option (a×List TV)->Option a
 |some (v,[])=>some v
 |_=>none
def qu1:TV->Bool
 |.agg _=>true
 |_=>false
def qb0(rw:List qK)(τ:Ty)(x:TV):Option (Val τ):=match Qn τ.agg (qu1 x)with
 |true=>ql0 (qit rw τ (jz x))
 |false=>none
def qrZ(rw:List qK)(τ:Ty):List TV->Option (List (Val τ))
 |[]=>some []
 |x::l=>match qb0 rw τ x with
   |some v=>match qrZ rw τ l with
     |some vs=>some (v::vs)
     |none=>none
   |none=>none
def qmH:TV->Bool
 |.i .. |.b _|.s _|.c _|.nil|.sl .. |.fn .. |.mc .. => true
 |_=>false
def qmY:TV->Bool
 |.agg cs=>cs.all qmH
 |x=>qmH x
inductive ATy where
 |val (τ:Ty)|fn
@[reducible] def qbr:List ATy->Type
  |[]=>Unit
  |.val τ::r=>Val τ×qbr r
  |.fn::r=>qbr r
@[reducible] def qd7:List Ty->Type
  |[]=>Unit
  |[a]=>Val a
  |a::b::r=>Val a×qd7 (b::r)
def qPB{σ:Type}:List σ->Option Unit
 |[]=>some ()
 |_=>none
def qm2{σ b a:Type}(p:σ->Option b)(q:List σ->Option a):List σ->Option (b×a)
 |x::xs=>match p x with
   |some v=>match q xs with
     |some vs=>some (v,vs)
     |none=>none
   |none=>none
 |[]=>none
def pFn{a:Type}(q:List TV->Option a):List TV->Option a
 |.fn _ []::xs=>q xs
 |_=>none
def qwr(rw:List qK):(ts:List ATy)->List TV->Option (qbr ts)
 |[]=>qPB
 |.val τ::r=>qm2 (qb0 rw τ) (qwr rw r)
 |.fn::r=>pFn (qwr rw r)
def qoa:List TV->List Nat
 |[]=>[]
 |.fn f _::l=>f::qoa l
 |_::l=>qoa l
def unL:(ts:List Ty)->qd7 ts->List TV
 |[],_=>[]
 |[a],v=>[qkT a v]
 |a::b::r,v=>qkT a v.1::unL (b::r) v.2
def qqd:List TV->TV
 |[x]=>x
 |l=>.tup l
structure Sig where
 args:List ATy
 res:List Ty
 fn:qbr args->Option (qd7 res)
inductive RA where
 |val (τ:Ty)|row (τ:Ty)
@[reducible] def RA.T:RA->Type
  |.val τ=>Val τ
  |.row τ=>List (Val τ)
@[reducible] def CV:List RA->Type
  |[]=>Unit
  |a::r=>a.T×CV r
@[reducible] def BV:List RA->Type
  |[]=>Unit
  |[a]=>a.T
  |a::b::r=>CV (a::b::r)
def toC:(l:List RA)->BV l->CV l
 |[],_=>()
 |[_],v=>(v,())
 |_::_::_,v=>v
def toB:(l:List RA)->CV l->BV l
 |[],_=>()
 |[_],v=>v.1
 |_::_::_,v=>v
def nR:List RA->Nat
 |[]=>0
 |.val _::r=>nR r
 |.row _::r=>nR r+1
inductive SA where
 |val (τ:Ty)|row (τ:Ty)|box (l:List RA)|nil|clo (g k:Nat)
inductive RE where
 |one (a:RA)|agg (l:List RA)
@[reducible] def QC:List SA->Type
  |[]=>Unit
  |.val τ::r=>Val τ×QC r
  |.row τ::r=>List (Val τ)×QC r
  |.box l::r=>BV l×QC r
  |.nil::r|.clo _ _::r=>QC r
@[reducible] def jI:List SA->Type
  |[]=>Unit
  |.box l::r=>BV l×jI r
  |.nil::r|.val _::r|.row _::r|.clo _ _::r=>jI r
@[reducible] def RV:List RE->Type
  |[]=>Unit
  |.one a::r=>a.T×RV r
  |.agg l::r=>CV l×RV r
def nrB:List SA->Nat
 |[]=>0
 |.box l::r=>nR l+nrB r
 |.nil::r|.val _::r|.row _::r|.clo _ _::r=>nrB r
def nBx:List SA->Nat
 |[]=>0
 |.box _::r=>nBx r+1
 |.nil::r|.val _::r|.row _::r|.clo _ _::r=>nBx r
def qmb:List SA->Bool
 |[]=>true
 |.row _::_=>false
 |.box _::r|.nil::r|.val _::r|.clo _ _::r=>qmb r
def qkv:List SA->Bool
 |[]=>true
 |.box _::r=>qmb r&&qkv r
 |.nil::r|.val _::r|.row _::r|.clo _ _::r=>qkv r
structure qnc where
 args:List SA
 res:List RE
 fn:QC args->Option (jI args×RV res)
structure qrD where
 τ:Ty
 args:List SA
 fn:QC (.row τ::args)->Option (List (Val τ))
structure quh where
 args:List SA
 fn:QC args->Option Int
inductive Co where
 |keep|row (τ:Ty) (sh:Bool)|list (τ:Ty)|plist (τ:Ty)|box (cs:List Co)|fn (cs:List Co)
structure TC where
 ty:Nat->Option TD
 el:Nat->Option Ty
 has:Nat->Bool
 pf:Nat->List Nat->Option Sig
 sf:Nat->Option qnc
 loop:Nat->Option (List (Tmp×Co))
 join:Nat->Option (List (Tmp×Co))
 nt:Nat
 np:Nat
 ld:Nat->Bool
 mf:Nat->Option qrD
 xf:Nat->Option quh
 inl:Nat->Option Func
def TC.rawT(c:TC)(f:Nat):Bool:=match c.has f with
 |true=>false
 |false=>match c.mf f with
   |some _=>true
   |none=>match c.xf f with
     |some _=>true
     |none=>match c.sf f with
       |some _=>true
       |none=>false
def TC.loT(c:TC)(f:Nat):Bool:=c.rawT f||(c.ld f||(c.inl f).isSome)
abbrev TC.n2(c:TC):Nat×Nat:=(c.nt,c.np)
def qb{α b:Type}(x:Option α)(k:α->Option b):Option b:=match x with
 |some a=>k a
 |none=>none
def qss{α c:Type}(x:Option c)(a:α)(f:c->α):α:=match x with
 |none=>a
 |some b=>f b
def qjz{α b:Type}(l:List b)(a:α)(f:b->List b->α):α:=match l with
 |[]=>a
 |x::r=>f x r
def qf{α:Type}(l:List α)(j:Int):Option α:=if 0<=j then l[j.toNat]? else none
def ixb(j:Int)(n:Nat):Bool:=decide (0<=j/\j<(n:Int))
def qnA:List TV->Option (List Bool)
 |[]=>some []
 |.b x::l=>match qnA l with
   |some r=>some (x::r)
   |none=>none
 |_=>none
def qpf:List Bool->Int->Bool->Nat->List Bool
 |[],_,_,_=>[]
 |e::l,i,v,j=>cond (ieq i (j:Int)) v e::qpf l i v (j+1)
def inb(i:Int)(y:Nat):Bool:=decide (0<=i/\i<=y)
def yr{α:Type}(l:List α)(j:Int)(v:α):List α:=if 0<=j then l.set j.toNat v else l
def qAG(n:Int)(bytes:Nat):Bool:=decide (0<=n/\n.toNat*bytes<=2^47/\n.toNat<2^62)
def qLZ:Operand->Operand->Bool
 |.tmp a,.tmp b=>Nat.beq a b
 |.const (.int k a),.const (.int c b)=>decide (k=c)&&decide (a=b)
 |_,_=>false
def shA(σ:TS):TS:=⟨σ.bx,σ.rw.map λ R=>⟨R.τ,R.l,R.ver,R.sv,true⟩⟩
def qvw:Ty->Bool
 |.int _|.bool|.str=>true
 |_=>false
def JZ{α:Type}(l:List α)(a b:Int):List α:=(l.take b.toNat).drop a.toNat
def qwk(a b:List UInt8):Bool:=decide (((a.length+b.length:Nat):Int)<=IntKind.i64.max)
def zy(n bytes:Nat):Bool:=decide (n*bytes<=2^47/\n<2^62)
def qx(a b:List UInt8):Bool:=a==b
def slt(a b:List UInt8):Bool:=Op.bytesLess a b
def yN(l:List Int):List UInt8:=l.map λ n=>UInt8.ofNat n.toNat
def qad(s:List UInt8):List Int:=s.map λ b=>((b.toNat:Nat):Int)
def qAX:Option TD->Bool
 |some ⟨_,_,_,_,.ptr⟩=>true
 |_=>false
def qG0:TV->TV->Option Bool
 |.c (.pointer none),.c (.pointer none)=>some true
 |.ptr _ _,.c (.pointer none)|.rpt _ _ _ _ _ _,.c (.pointer none)|.ept _ _,.c (.pointer none)=>some false
 |_,_=>none
section
variable {α:Type}
abbrev KT(α:Type):=TV->Option TS->Option α
def qKd(op:BinOp)(k:IntKind)(a b:Int)(K:TV->Option α):Option α:=
 match op with
 |.add=>K (.i k (iw k (qj a b)))
 |.sub=>K (.i k (iw k (Qo a b)))
 |.mul=>K (.i k (iw k (qp9 a b)))
 |.quo=>cond (ieq b 0) none (K (.i k (iw k (qJC a b))))
 |.rem=>cond (ieq b 0) none (K (.i k (qL8 a b)))
 |.and=>K (.i k (qph .and k a b))
 |.or=>K (.i k (qph .or k a b))
 |.xor=>K (.i k (qph .xor k a b))
 |.andNot=>K (.i k (qph .andNot k a b))
 |.eql=>K (.b (ieq a b))
 |.neq=>K (.b (qh (ieq a b)))
 |.lss=>K (.b (ilt a b))
 |.leq=>K (.b (ile a b))
 |.gtr=>K (.b (ilt b a))
 |.geq=>K (.b (ile b a))
 |_=>none
def qJR(op:BinOp)(x y:List UInt8)(K:TV->Option α):Option α:=
 match op with
 |.add=>cond (qwk x y) (K (.s (x++y))) none
 |.eql=>K (.b (qx x y))
 |.neq=>K (.b (qh (qx x y)))
 |.lss=>K (.b (slt x y))
 |.leq=>K (.b (qra (slt x y) (qx x y)))
 |.gtr=>K (.b (qh (qra (slt x y) (qx x y))))
 |.geq=>K (.b (qh (slt x y)))
 |_=>none
def qvm:Option TD->Bool
 |some ⟨_,_,_,_,.bool⟩=>true
 |_=>false
def qLw(d:Option TD)(op:BinOp)(x y:TV)(K:TV->Option α):Option α:=
 match x,y with
 |.i k a,.i c b=>match op with
   |.shl=>cond (ilt b 0) none (K (.i k (qJN k a b)))
   |.shr=>cond (ilt b 0) none (K (.i k (qo6 k a b)))
   |op=>match decide (k=c)with
     |true=>qKd op k a b K
     |false=>none
 |.s a,.s b=>qJR op a b K
 |.b a,.b b=>match op,qvm d with
   |.eql,true=>K (.b (Qn a b))
   |.neq,true=>K (.b (qh (Qn a b)))
   |_,_=>none
 |_,_=>none
def qAw(place:Nat->Option (Nat×Nat))(cells:List TV):List (Nat×TV)->Option (List TV)
 |[]=>some cells
 |(i,x)::a=>match place i with
   |none=>none
   |some (off,size)=>match decide ((jz x).length=size)&&decide (off+size<=cells.length)&&(jz x).all qhN with
     |true=>qAw place (cells.take off++(jz x++cells.drop (off+size))) a
     |false=>none
def qmQ(a:Bool)(size:Nat)(cs:List TV)(o:Nat):Option TV:=
 match a with
 |true=>match decide (o+size<=cs.length)with
   |true=>some (.agg ((cs.drop o).take size))
   |false=>none
 |false=>cs[o]?
def qfl(d:Int)(E:Env):Option Operand->Option Int
 |none=>some d
 |some x=>match evT E x with
   |.i _ n=>some n
   |_=>none
def veq:(c:Ty)->Val c->Val c->Bool
 |.int _,a,b=>ieq a b
 |.str,a,b=>qx a b
 |.bool,a,b=>Qn a b
 |.pair c τ,a,b=>veq c a.1 b.1&&veq τ a.2 b.2
 |.one c,a,b=>veq c a b
 |_,_,_=>false
def kcT:Ty->List KC
 |.int k=>[.int k]
 |.str=>[.str]
 |.bool=>[.bool]
 |.pair a b=>kcT a++kcT b
 |.one a=>kcT a
 |_=>[]
def qaO:Ty->Bool
 |.int _|.str|.bool=>true
 |.pair a b=>qaO a&&qaO b
 |.one a=>qaO a
 |_=>false
def qxJ{K V:Type}(eq:K->K->Bool):List (K×V)->K->Option V
 |[],_=>none
 |p::l,k=>cond (eq k p.1) (some p.2) (qxJ eq l k)
def qpt{K V:Type}(eq:K->K->Bool)(z:V)(l:List (K×V))(k:K):V:=qss (qxJ eq l k) z id
def qBd{K V:Type}(eq:K->K->Bool)(l:List (K×V))(k:K):Bool:=qss (qxJ eq l k) false λ _=>true
def qm1{K V:Type}(eq:K->K->Bool):List (K×V)->K->V->List (K×V)
 |[],k,v=>[(k,v)]
 |p::l,k,v=>cond (eq k p.1) ((p.1,v)::l) (p::qm1 eq l k v)
def qwh:List TV->Bool
 |[.dead]|[.mc ..]=>false
 |_=>true
def qvW(σ:TS)(a τ:Ty):TV->Option (Nat×List (Val a×Val τ))
 |.mp b=>match σ.bx[b]? with
   |some [.mc _ _ l]=>match qAz l a τ with
     |some l=>some (b,l)
     |none=>none
   |_=>none
 |_=>none
def qsk(c:TC)(t:Nat):Option (Ty×Ty):=match c.ty t,c.el t with
 |some ⟨_,_,_,_,.map e f d b _⟩,some (.map a τ)=>match decide (e=kcT a)&&(Qn f a.agg&&(Qn d τ.agg&&(decide (b=τ.size)&&qaO a)))with
   |true=>some (a,τ)
   |false=>none
 |_,_=>none
def qKG(c:TC)(t:Nat)(τ:Ty):Option (Val τ):=match c.ty t with
 |some ⟨_,_,_,_,.map _ _ _ b a⟩=>match a.all zx&&decide (a.length=b)with
   |true=>ql0 (qit [] τ (a.map qck))
   |false=>none
 |_=>none
def qsd(c:TC)(E:Env)(σ:TS)(t:Nat)(m k v:Operand)(K:KT α):Option α:=match qsk c t with
 |some (a,τ)=>match qvW σ a τ (evT E m),qmY (evT E v)with
   |some (b,l),true=>match qb0 σ.rw a (evT E k),qb0 σ.rw τ (evT E v)with
     |some k,some v=>K (.tup []) (some {σ with bx:=σ.bx.set b [.mc a τ (qm1 (veq a) l k v)]})
     |_,_=>none
   |_,_=>none
 |none=>none
def jT(c:TC)(E:Env)(σ:TS)(op:Op)(K:KT α):Option α:=
 match op with
 |.move x|.assign x=>K (evT E x) none
 |.pick x a b=>match evT E x with
   |.b y=>cond y (K (evT E a) none) (K (evT E b) none)
   |_=>none
 |.alloc e=>match c.ty e with
   |some d=>match d.zero.all zx with
     |true=>K (.ptr σ.bx.length 0) (some {σ with bx:=σ.bx++[d.zero.map qck]})
     |false=>none
   |none=>none
 |.box e x=>match c.ty e with
   |some _=>match(jz (evT E x)).all qhN with
     |true=>K (.ptr σ.bx.length 0) (some {σ with bx:=σ.bx++[jz (evT E x)]})
     |false=>none
   |none=>none
 |.build t parts=>match c.ty t with
   |some ⟨_,_,_,z,.struct w⟩=>match z.all zx with
     |true=>match qAw (λ i=>match w[i]? with|some f=>some (f.1,f.2.1)|none=>none) (z.map qck) (parts.toList.map λ p=>(p.1,evT E p.2))with
       |some cs=>K (.agg cs) none
       |none=>none
     |false=>none
   |_=>none
 |.buildSlice t n parts=>match c.ty t,c.el t with
   |some ⟨_,_,_,_,.slice _ k _ _⟩,some τ=>match decide (k=τ.size)&&decide (parts.size=n)&&decide (n*k<=2^24)&&decide (0<k)&&(parts.toList.zipIdx.all λ p=>decide (p.1.1=p.2))with
     |true=>match qrZ σ.rw τ (parts.toList.map λ p=>evT E p.2)with
       |some vs=>K (.sl τ vs 2) (match(parts.toList.all λ p=>qmY (evT E p.2))with|true=>none|false=>some (shA σ))
       |none=>none
     |false=>none
   |_,_=>none
 |.load t a=>match c.ty t with
   |some d=>match evT E a with
     |.ptr b o=>match σ.bx[b]? with
       |some cs=>match qwh cs with
         |true=>match qmQ d.agg d.size cs o with
           |some x=>K x none
           |none=>none
         |false=>none
       |none=>none
     |.ept cs o=>match qmQ d.agg d.size cs o with
       |some x=>K x none
       |none=>none
     |.pti b i=>match σ.bx[b]? with
       |some cs=>match d.agg,qnA cs with
         |false,some l=>qb (qf l i) λ v=>K (.b v) none
         |_,_=>none
       |none=>none
     |.rpt id q u i cs o=>match σ.rw[id]? with
       |some R=>match Nat.beq R.ver q with
         |true=>match Nat.beq R.sv u with
           |true=>match qmQ d.agg d.size cs o with
             |some x=>K x none
             |none=>none
           |false=>match R.sh with
             |true=>none
             |false=>qb (qf R.l i) λ v=>match qmQ d.agg d.size (JR R.τ v) o with
               |some x=>K x none
               |none=>none
         |false=>none
       |none=>none
     |_=>none
   |none=>none
 |.store t a x=>match c.ty t,evT E a with
   |some d,.ptr b o=>match σ.bx[b]? with
     |some cs=>match qwh cs&&decide ((jz (evT E x)).length=d.size)&&decide (o+d.size<=cs.length)&&(jz (evT E x)).all qhN with
       |true=>K (.tup []) (some {σ with bx:=σ.bx.set b (cs.take o++(jz (evT E x)++cs.drop (o+d.size)))})
       |false=>none
     |none=>none
   |some d,.pti b i=>match σ.bx[b]?,evT E x with
     |some cs,.b v=>match qnA cs,Nat.beq d.size 1 with
       |some l,true=>cond (ixb i l.length) (K (.tup []) (some {σ with bx:=σ.bx.set b ((qpf l i v 0).map .b)})) none
       |_,_=>none
     |_,_=>none
   |some d,.rpt id q u i cs o=>match σ.rw[id]? with
     |some R=>match Nat.beq R.ver q&&Nat.beq R.sv u && !R.sh&&decide ((jz (evT E x)).length=d.size)&&decide (o+d.size<=cs.length)&&(jz (evT E x)).all qmH with
       |true=>match ql0 (qit σ.rw R.τ (cs.take o++(jz (evT E x)++cs.drop (o+d.size))))with
         |some v=>K (.tup []) (some {σ with rw:=σ.rw.set id ⟨R.τ,yr R.l i v,R.ver,R.sv+1,R.sh⟩})
         |none=>none
       |false=>none
     |none=>none
   |_,_=>none
 |.makeSlice t n m=>match c.ty t,c.el t,evT E n with
   |some ⟨_,_,_,_,.slice _ k bytes z⟩,some τ,.i _ a=>match qLZ n m&&decide (k=τ.size)&&decide (0<k)&&decide (z.length=k)&&z.all zx with
     |true=>match ql0 (qit [] τ (z.map qck))with
       |some v=>cond (qAG a bytes) (K (.row σ.rw.length 0) (some {σ with rw:=σ.rw++[⟨τ,List.replicate a.toNat v,0,0,false⟩]})) none
       |none=>none
     |false=>none
   |_,_,_=>none
 |.nilCheck x=>match evT E x with
   |.ptr b o=>K (.ptr b o) none
   |.ept cs o=>K (.ept cs o) none
   |.rpt id q u i cs o=>K (.rpt id q u i cs o) none
   |_=>none
 |.binOp op t x y _=>match qG0 (evT E x) (evT E y)with
   |some b=>match op,qAX (c.ty t)with
     |.eql,true=>K (.b b) none
     |.neq,true=>K (.b (!b)) none
     |_,_=>none
   |none=>qLw (c.ty t) op (evT E x) (evT E y) λ v=>K v none
 |.unOp op _ x=>match op,evT E x with
   |.neg,.i k n=>K (.i k (iw k (Qo 0 n))) none
   |.not,.b y=>K (.b (qh y)) none
   |_,_=>none
 |.convert s d x=>match c.ty s,c.ty d,evT E x with
   |some _,some ⟨_,_,_,_,.int k⟩,.i _ n=>K (.i k (iw k n)) none
   |some _,some ⟨_,_,_,_,.string⟩,.s y=>K (.s y) none
   |some ⟨_,_,_,_,.string⟩,some ⟨_,_,_,_,.slice e 1 _ _⟩,.s y=>match qrw (c.ty e)with
     |true=>K (.row σ.rw.length 0) (some {σ with rw:=σ.rw++[⟨.int .u8,qad y,0,0,false⟩]})
     |false=>none
   |some ⟨_,_,_,_,.slice e 1 _ _⟩,some ⟨_,_,_,_,.string⟩,y=>match qrw (c.ty e),qmt σ.rw (.int .u8) y with
     |true,some l=>K (.s (yN l)) none
     |_,_=>none
   |_,_,_=>none
 |.makeFunc (.func f) w cs=>match w.toList with
   |[]=>K (.fn f (cs.toList.map (evT E))) none
   |_=>none
 |.slice t x lo A none=>match c.ty t,evT E x with
   |some ⟨_,_,_,_,.string⟩,.s y=>match qfl y.length E A with
     |some h=>match qfl 0 E lo with
       |some l=>cond (inb h y.length) (cond (inb l h.toNat) (K (.s (JZ y l h)) none) none) none
       |none=>none
     |none=>none
   |some ⟨_,_,_,_,.slice _ k _ _⟩,.sl τ y D=>match decide (τ.size=k)&&pos D with
     |true=>match qfl y.length E A with
       |some h=>match qfl 0 E lo with
         |some l=>cond (inb h y.length) (cond (inb l h.toNat) (K (.sl τ (JZ y l h) 1) none) none) none
         |none=>none
       |none=>none
     |false=>none
   |some ⟨_,_,_,_,.slice _ _ _ _⟩,.nil=>match qfl 0 E A with
     |some h=>match qfl 0 E lo with
       |some l=>cond (inb h 0) (cond (inb l h.toNat) (K .nil none) none) none
       |none=>none
     |none=>none
   |some ⟨_,_,_,_,.slice _ k _ _⟩,.row id q=>match A,σ.rw[id]? with
     |none,some R=>match Nat.beq R.ver q&&decide (R.τ.size=k)with
       |true=>match qfl 0 E lo with
         |some l=>cond (inb l R.l.length) (K (.row id (q+1)) (some {σ with rw:=σ.rw.set id ⟨R.τ,R.l.drop l.toNat,q+1,R.sv,true⟩})) none
         |none=>none
       |false=>none
     |_,_=>none
   |_,_=>none
 |.fieldAddr t x i=>match c.ty t with
   |some ⟨_,_,_,_,.struct w⟩=>match w[i]? with
     |some (off,size,_)=>match size with
       |0=>none
       |_+1=>match evT E x with
         |.ptr b o=>K (.ptr b (o+off)) none
         |.ept cs o=>K (.ept cs (o+off)) none
         |.rpt id q u i cs o=>K (.rpt id q u i cs (o+off)) none
         |_=>none
     |none=>none
   |_=>none
 |.field t x i=>match c.ty t,evT E x with
   |some ⟨_,_,_,_,.struct w⟩,.agg cs=>match w[i]? with
     |some (off,size,g)=>match qmQ g size cs off with
       |some y=>K y none
       |none=>none
     |none=>none
   |_,_=>none
 |.indexAddr t x i=>match c.ty t,evT E i with
   |some ⟨_,_,_,_,.slice _ k _ _⟩,.i _ j=>match evT E x with
     |.sl τ l _=>match decide (τ.size=k)with
       |true=>qb (qf l j) λ v=>K (.ept (JR τ v) 0) none
       |false=>none
     |.row id q=>match σ.rw[id]? with
       |some R=>match Nat.beq R.ver q&&decide (R.τ.size=k)with
         |true=>qb (qf R.l j) λ v=>K (.rpt id q R.sv j (JR R.τ v) 0) none
         |false=>none
       |none=>none
     |_=>none
   |some ⟨_,_,_,_,.array n _ 1⟩,.i _ j=>match evT E x with
     |.ptr b 0=>cond (ixb j n) (K (.pti b j) none) none
     |_=>none
   |_,_=>none
 |.index t x i=>match c.ty t,evT E x,evT E i with
   |some ⟨_,_,_,_,.string⟩,.s y,.i _ j=>qb (qf y j) λ v=>K (.i .u8 v.toNat) none
   |_,_,_=>none
 |.extract x i=>match evT E x with
   |.tup vs=>match vs[i]? with
     |some y=>K y none
     |none=>none
   |_=>none
 |.makeMap t none=>match qsk c t with
   |some (r,τ)=>K (.mp σ.bx.length) (some {σ with bx:=σ.bx++[[.mc r τ []]]})
   |none=>none
 |.lookup t m k C=>match qsk c t with
   |some (r,τ)=>match qvW σ r τ (evT E m),qKG c t τ,qb0 σ.rw r (evT E k)with
     |some (_,l),some z,some k=>match C with
       |true=>K (.tup [qkT τ (qpt (veq r) z l k),.b (qBd (veq r) l k)]) none
       |false=>K (qkT τ (qpt (veq r) z l k)) none
     |_,_,_=>none
   |none=>none
 |.mapUpdate t m k v|.insert t m k v=>qsd c E σ t m k v K
 |_=>none
def qF2(k bytes:Nat)(σ:TS)(τ:Ty)(s:TV)(xs:List (Val τ))(K:KT α):Option α:=
 match s with
 |.nil=>qjz xs (K .nil none) λ x r=>cond (zy (r.length+1) bytes) (K (.row σ.rw.length 0) (some {σ with rw:=σ.rw++[⟨τ,x::r,0,0,false⟩]})) none
 |.sl b l c=>match decide (1<c)with
   |true=>match qeE l τ with
     |some l=>cond (zy (l.length+xs.length) bytes) (qjz xs (K s none) λ x r=>K (.row σ.rw.length 0) (some {σ with rw:=σ.rw++[⟨τ,l++(x::r),0,0,false⟩]})) none
     |none=>none
   |false=>none
 |.row id a=>match σ.rw[id]? with
   |some R=>match Nat.beq R.ver a with
     |true=>match qeE R.l τ with
       |some l=>cond (zy (l.length+xs.length) bytes) (K (.row id (a+1)) (some {σ with rw:=σ.rw.set id ⟨τ,l++xs,a+1,R.sv,R.sh⟩})) none
       |none=>none
     |false=>none
   |none=>none
 |_=>none
def qt5(c:TC)(σ:TS)(b:Builtin)(ts:Array TypeId)(f:List TV)(K:KT α):Option α:=
 match b,f with
 |.len,[x]=>match ts[0]? with
   |some t=>match c.ty t with
     |some d=>match d.k,x with
       |.string,.s y=>K (.i .i64 y.length) none
       |.slice ..,.nil=>K (.i .i64 0) none
       |.slice ..,.sl _ l _=>K (.i .i64 l.length) none
       |.slice ..,.row id g=>match σ.rw[id]? with
         |some R=>match Nat.beq R.ver g with
           |true=>K (.i .i64 R.l.length) none
           |false=>none
         |none=>none
       |.map ..,.mp b=>match qsk c t with
         |some (j,τ)=>match qvW σ j τ (.mp b)with
           |some (_,l)=>K (.i .i64 l.length) none
           |none=>none
         |none=>none
       |_,_=>none
     |none=>none
   |none=>none
 |.append,[s,x]=>match ts[0]?,ts[1]? with
   |some t,some u=>match c.ty t,c.ty u,c.el t with
     |some ⟨_,_,_,_,.slice _ k bytes z⟩,some ⟨_,_,_,_,.slice _ _ _ _⟩,some τ=>match decide (0<k)&&decide (z.length=k)&&decide (k=τ.size)with
       |true=>match qmt σ.rw τ x with
         |some xs=>qF2 k bytes σ τ s xs K
         |none=>none
       |false=>none
     |some ⟨_,_,_,_,.slice e 1 bytes z⟩,some ⟨_,_,_,_,.string⟩,some (.int .u8)=>match decide (z.length=1)&&qrw (c.ty e),x with
       |true,.s y=>qF2 1 bytes σ (.int .u8) s (qad y) K
       |_,_=>none
     |_,_,_=>none
   |_,_=>none
 |.max,[.i k a,.i h b]=>match decide (k=h)with|true=>K (.i k (qm4 a b)) none|false=>none
 |.min,[.i k a,.i h b]=>match decide (k=h)with|true=>K (.i k (qKt a b)) none|false=>none
 |_,_=>none
def qh4(rw:List qK)(τ:Ty):TV->Option (List (Val τ)×List Nat)
 |.nil=>some ([],[])
 |.sl a l c=>match qeE l τ,decide (1<c)with
   |some [],true=>some ([],[])
   |_,_=>none
 |.row id b=>match rw[id]? with
   |some R=>match Nat.beq R.ver b && !R.sh with
     |true=>match qeE R.l τ with
       |some l=>some (l,[id])
       |none=>none
     |false=>none
   |none=>none
 |_=>none
def JC(rw:List qK):(l:List RA)->List TV->Option (CV l×List Nat×Bool)
 |[],[]=>some ((),[],true)
 |[],_::_=>none
 |.val τ::r,cs=>match ql0 (qit rw τ (cs.take τ.size)),JC rw r (cs.drop τ.size)with
   |some v,some (vs,a,q)=>some ((v,vs),a,(cs.take τ.size).all qmH&&q)
   |_,_=>none
 |.row τ::r,c::cs=>match qh4 rw τ c,JC rw r cs with
   |some (v,i),some (vs,a,q)=>some ((v,vs),i++a,q)
   |_,_=>none
 |.row _::_,[]=>none
def qkL:List RA->Bool
 |[.val (.map _ _)]=>true
 |_=>false
def bxT(l:List RA)(b:Nat):TV:=match qkL l with
 |true=>.mp b
 |false=>.ptr b 0
def qKJ(l:List RA)(x:TV):Option Nat:=match qkL l,x with
 |true,.mp b|false,.ptr b 0=>some b
 |_,_=>none
def qOS(rw:List qK)(c:List (List TV))(l:List RA)(x:TV):Option (CV l×List Nat×Nat):=match qKJ l x with
 |some b=>match c[b]? with
   |some cs=>match JC rw l cs with
     |some (v,a,true)=>some (v,a,b)
     |_=>none
   |none=>none
 |none=>none
def yA(σ:TS):(sas:List SA)->List TV->Option (QC sas×List Nat×List Nat)
 |[],[]=>some ((),[],[])
 |.val τ::r,x::xs=>match qmY x,qb0 σ.rw τ x with
   |true,some v=>match yA σ r xs with
     |some (vs,q)=>some ((v,vs),q)
     |none=>none
   |_,_=>none
 |.row τ::r,x::xs=>match qh4 σ.rw τ x with
   |some (l,a)=>match yA σ r xs with
     |some (vs,d,c)=>some ((l,vs),d,a++c)
     |none=>none
   |none=>none
 |.box l::r,x::xs=>match qOS σ.rw σ.bx l x with
   |some (v,a,b)=>match yA σ r xs with
     |some (vs,d,c)=>some ((toB l v,vs),b::d,a++c)
     |none=>none
   |none=>none
 |.nil::r,.nil::xs=>yA σ r xs
 |.clo g k::r,.fn e cs::xs=>match Nat.beq g e&&Nat.beq cs.length k with
   |true=>yA σ r (cs++xs)
   |false=>none
 |_,_=>none
def ndN:List Nat->Bool
 |[]=>true
 |b::l=>(l.all λ c => !Nat.beq b c)&&ndN l
def qeO(rw:List qK)(a:List Nat):List qK:=a.foldl (λ l i=>l.modify i λ R=>⟨R.τ,[],R.ver+1,R.sv,false⟩) rw
def qfm:(l:List RA)->Nat->CV l->List TV
 |[],_,_=>[]
 |.val τ::r,L,v=>JR τ v.1++qfm r L v.2
 |.row _::r,L,v=>.row L 0::qfm r (L+1) v.2
def JO:(l:List RA)->CV l->List qK
 |[],_=>[]
 |.val _::r,v=>JO r v.2
 |.row τ::r,v=>⟨τ,v.1,0,0,false⟩::JO r v.2
def qdV:(sas:List SA)->Nat->jI sas->List (List TV)
 |[],_,_=>[]
 |.box l::r,L,o=>qfm l L (toC l o.1)::qdV r (L+nR l) o.2
 |.nil::r,L,o|.val _::r,L,o|.row _::r,L,o|.clo _ _::r,L,o=>qdV r L o
def qat:(sas:List SA)->jI sas->List qK
 |[],_=>[]
 |.box l::r,o=>JO l (toC l o.1)++qat r o.2
 |.nil::r,o|.val _::r,o|.row _::r,o|.clo _ _::r,o=>qat r o
def qlW(a:List (List TV)):List Nat->List (List TV)->List (List TV)
 |b::c,x::xs=>qlW (a.set b x) c xs
 |_,_=>a
def qqB(nb NB:Nat):(a:List RE)->Nat->RV a->List TV
 |[],_,_=>[]
 |.one (.val τ)::r,L,v=>qkT τ v.1::qqB nb NB r L v.2
 |.one (.row _)::r,L,v=>.row L 0::qqB nb NB r (L+1) v.2
 |.agg l::r,L,v=>.agg (qfm l L v.1)::qqB nb NB r (L+nR l) v.2
def qq4:(a:List RE)->RV a->List qK
 |[],_=>[]
 |.one (.val _)::r,v=>qq4 r v.2
 |.one (.row τ)::r,v=>⟨τ,v.1,0,0,false⟩::qq4 r v.2
 |.agg l::r,v=>JO l v.1++qq4 r v.2
def qqe:(a:List RE)->Nat->RV a->List (List TV)
 |[],_,_=>[]
 |.one (.val _)::r,L,v=>qqe r L v.2
 |.one (.row _)::r,L,v=>qqe r (L+1) v.2
 |.agg l::r,L,v=>qqe r (L+nR l) v.2
def nRA:RA->Nat
 |.val _=>0
 |.row _=>1
def qkD(rws:List qK):(f:List RE)->Nat->Nat->RV f->((c:List RE)->RV c->Option α)->Option α
 |[],_,_,_,k=>k [] ()
 |.one a::r,nb,d,v,k=>qkD rws r nb (d+nRA a) v.2 λ e b=>k (.one a::e) (v.1,b)
 |.agg l::r,nb,d,v,k=>qkD rws r nb (d+nR l) v.2 λ e b=>k (.agg l::e) (v.1,b)
def qAU(σ:TS)(g:qrD)(b:List TV)(K:KT α):Option α:=match b with
 |x::xs=>match qh4 σ.rw g.τ x,yA σ g.args xs with
   |some (l,c),some (a,[],[])=>match qkv g.args with
     |true=>match c with
       |[id]=>qb (g.fn (l,a)) λ v=>cond (Nat.beq v.length l.length) (K (.tup []) (some ⟨σ.bx,σ.rw.modify id λ R=>⟨g.τ,v,R.ver,R.sv+1,false⟩⟩)) none
       |[]=>qb (g.fn (l,a)) λ v=>cond (Nat.beq v.length l.length) (K (.tup []) none) none
       |_=>none
     |false=>none
   |_,_=>none
 |[]=>none
def qCc(σ:TS)(g:quh)(b:List TV)(K:KT α):Option α:=match yA σ g.args b with
 |some (a,d,c)=>match ndN d&&(ndN c&&qkv g.args)with
   |true=>qb (g.fn a) λ v=>K (.i .i64 v) none
   |false=>none
 |none=>none
def qvU(c:TC)(σ:TS)(f:Nat)(b:List TV)(K:KT α):Option α:=match c.mf f with
 |some g=>qAU σ g b K
 |none=>match c.xf f with
   |some g=>qCc σ g b K
   |none=>match c.sf f with
     |some g=>match yA σ g.args b with
       |some (a,i,h)=>match ndN i&&(ndN h&&qkv g.args)with
         |true=>qb (g.fn a) λ v=>qkD (qat g.args v.1) g.res (nBx g.args) (nrB g.args) v.2 λ d e=>K (qqd (qqB σ.bx.length (nBx g.args) d (σ.rw.length+nrB g.args) e)) (some ⟨qlW σ.bx i (qdV g.args σ.rw.length v.1)++qqe d (σ.rw.length+nrB g.args) e,qeO σ.rw h++(qat g.args v.1++qq4 d e)⟩)
         |false=>none
       |none=>none
     |none=>none
def qHf(c:TC)(σ:TS)(f:Nat)(a:List TV)(K:KT α):Option α:=
 match c.has f,c.pf f (qoa a)with
 |true,some g=>match qwr σ.rw g.args a with
   |some sas=>qb (g.fn sas) λ v=>K (qqd (unL g.res v)) (match a.all qmY||g.res.all qvw with|true=>none|false=>some (shA σ))
   |none=>none
 |true,none=>none
 |false,_=>qvU c σ f a K
def opT(c:TC)(E:Env)(σ:TS)(op:Op)(K:KT α):Option α:=
 match op with
 |.call ⟨.builtin b,a,ts⟩=>qt5 c σ b ts (a.toList.map (evT E)) K
 |.call ⟨.value g,a,_⟩=>match evT E g with
   |.fn f cs=>match c.inl f with
     |some _=>none
     |none=>match cs with
       |[]=>qHf c σ f (a.toList.map (evT E)) K
       |x::cs=>match c.has f with
         |true=>none
         |false=>qvU c σ f (a.toList.map (evT E)++(x::cs)) K
   |_=>none
 |.call _=>none
 |op=>jT c E σ op K
def qDa(c:TC)(E:Env)(d:Option Tmp)(x:TV)(K:Env->Option α):Option α:=match d with
 |none=>K E
 |some d=>match Nat.blt d c.nt with
   |true=>K ((d,x)::E)
   |false=>none
def qGC(ops:Array Oper)(E:Env)(o:Oper)(K:Bool->Env->Option α):Option α:=
 match o.guard with
 |none=>K true E
 |some (j,a)=>match(ops[j]?).bind (·.dst)with
   |none=>none
   |some d=>match get E d with
     |.b x=>match a with
       |true=>cond x (K true ((d,.b true)::E)) (K false ((d,.b false)::E))
       |false=>cond x (K false ((d,.b true)::E)) (K true ((d,.b false)::E))
     |.tup []=>K false E
     |_=>none
end
def qob(E:Env)(ops:Array Oper)(k:Nat)(t:Tmp):Option Nat:=match qAD ops k t with
 |some u=>match get E u with
   |.ptr b _=>some b
   |_=>none
 |none=>none
def qKc(E:Env)(ops:Array Oper)(k:Nat)(t:Tmp):Bool:=match qAD ops k t with
 |some u=>match get E u with
   |.rpt .. => true
   |_=>false
 |none=>false
mutual
def rbT:TV->Option (List Nat)
 |.ptr b _|.mp b|.pti b _=>some [b]
 |.fn _ cs|.agg cs|.tup cs=>qqi cs
 |.dead=>none
 |_=>some []
def qqi:List TV->Option (List Nat)
 |[]=>some []
 |x::l=>match rbT x,qqi l with
   |some a,some b=>some (a++b)
   |_,_=>none
end
def qLD(σ:TS)(b:Nat):Bool:=match σ.bx[b]? with
 |some cs=>match qqi cs with
   |some []=>true
   |_=>false
 |none=>false
def qH0(c:TC)(E:Env)(σ:TS):Op->Option (List Nat)
 |.call ⟨.value g,as,_⟩=>match evT E g with
   |.fn f cs=>match(c.inl f).isSome,qqi (as.toList.map (evT E)++cs)with
     |false,some l=>match l.all (qLD σ)with
       |true=>some l
       |false=>none
     |_,_=>none
   |_=>none
 |_=>none
def qwM(c:TC)(ops:Array Oper)(j:Nat)(E:Env)(σ:TS)(op:Op):Bool := !qxX op||ops.toList.zipIdx.all λ(q,i)=>match q.op with
 |.load _ (.tmp a)=>((QP ops.toList []).getD (max i j) 0).testBit (min i j)||match qob E ops i a,qH0 c E σ op with
   |some y,some l=>Nat.blt y σ.bx.length&&l.all λ c => !Nat.beq c y
   |_,_=>false
 |_=>true
section
variable {α:Type}
def qhy(d:Env->TS->Op->KT α->Option α)(c:TC)(ops:Array Oper)(b:Bool):List Oper->Env->TS->(Env->TS->Option α)->Option α
 |[],E,σ,K=>K E σ
 |o::a,E,σ,K=>qGC ops E o λ w E=>match w with
   |true=>d E σ o.op λ x σ'=>match σ' with
     |none=>qDa c E o.dst x λ E=>qhy d c ops b a E σ K
     |some σ'=>match b && !(zm c.loT o.op&&qwM c ops (ops.size-(a.length+1)) E σ o.op)with
       |true=>none
       |false=>qDa c E o.dst x λ E=>qhy d c ops b a E σ' K
   |false=>qDa c E o.dst (.tup []) λ E=>qhy d c ops b a E σ K
structure Mv where
 E:Env
 bx:List (List TV)
 rw:List qK
 mb:List (Nat×Nat)
 mr:List (Nat×Nat)
def jL(l:List (Nat×Nat))(b:Nat):Option Nat:=match l with
 |[]=>none
 |p::r=>match Nat.beq p.1 b with
   |true=>some p.2
   |false=>jL r b
def qA9:TV->Bool
 |.i .. |.b _|.s _|.c _|.nil|.sl .. => true
 |.fn _ cs=>cs.isEmpty
 |.agg cs=>cs.all λ|.i .. |.b _|.s _|.c _|.nil|.sl .. => true|_=>false
 |_=>false
mutual
def mvT(σ:TS)(k:Co)(x:TV)(m:Mv)(K:TV->Mv->Option α):Option α:=
 match k with
 |.keep=>match qA9 x with
   |true=>K x m
   |false=>K .dead m
 |.list τ=>match x with
   |.nil=>K (.sl τ [] 1) m
   |.sl a l _=>match qeE l τ with
     |some l=>K (.sl τ l 1) m
     |none=>none
   |_=>K .dead m
 |.plist τ=>match x with
   |.nil=>K (.sl τ [] 1) m
   |.sl a l _=>match qeE l τ with
     |some l=>K (.sl τ l 1) m
     |none=>none
   |_=>K .dead m
 |.row τ d=>match x with
   |.nil=>K (.row m.rw.length 0) {m with rw:=m.rw++[⟨τ,[],0,0,d⟩]}
   |.sl a l j=>match qeE l τ,decide (1<j)with
     |some l,true=>match d with
       |true=>K (.row m.rw.length 0) {m with rw:=m.rw++[⟨τ,l,0,0,true⟩]}
       |false=>match l with
         |[]=>K (.row m.rw.length 0) {m with rw:=m.rw++[⟨τ,[],0,0,false⟩]}
         |_=>none
     |_,_=>none
   |.row id e=>match σ.rw[id]? with
     |some R=>match Nat.beq R.ver e&&(d || !R.sh)with
       |true=>match qeE R.l τ with
         |some l=>match jL m.mr id with
           |some g=>K (.row g 0) m
           |none=>K (.row m.rw.length 0) {m with rw:=m.rw++[⟨τ,l,0,0,d⟩],mr:=(id,m.rw.length)::m.mr}
         |none=>none
       |false=>none
     |none=>none
   |_=>none
 |.fn cs=>match x with
   |.fn f xs=>mvL σ cs xs m λ ys m=>K (.fn f ys) m
   |_=>none
 |.box cs=>match x with
   |.ptr b 0=>match jL m.mb b with
     |some h=>K (.ptr h 0) m
     |none=>match σ.bx[b]? with
       |some xs=>mvL σ cs xs m λ ys m=>match jL m.mb b with
         |none=>K (.ptr m.bx.length 0) {m with bx:=m.bx++[ys],mb:=(b,m.bx.length)::m.mb}
         |some _=>none
       |none=>none
   |.c v=>K (.c v) m
   |.mp b=>match jL m.mb b with
     |some h=>K (.mp h) m
     |none=>match σ.bx[b]? with
       |some [.mc i τ l]=>K (.mp m.bx.length) {m with bx:=m.bx++[[.mc i τ l]],mb:=(b,m.bx.length)::m.mb}
       |_=>none
   |_=>none
def mvL(σ:TS)(cs:List Co)(xs:List TV)(m:Mv)(K:List TV->Mv->Option α):Option α:=
 match cs,xs with
 |[],[]=>K [] m
 |co::cs,x::xs=>mvT σ co x m λ y m=>mvL σ cs xs m λ ys m=>K (y::ys) m
 |_,_=>none
end
def qCS(a:List (Nat×Nat)):Nat->Bool
 |0=>true
 |n+1=>(match jL a n with|some j=>Nat.beq n j|none=>false)&&qCS a n
def mvE(a:Nat)(σ:TS)(E:Env):List (Tmp×Co)->Mv->(Env->TS->Option α)->Option α
 |[],m,K=>match qCS m.mb a with
   |true=>K m.E ⟨m.bx,m.rw⟩
   |false=>none
 |(t,b)::r,m,K=>mvT σ b (get E t) m λ y m=>mvE a σ E r {m with E:=m.E++[(t,y)]} K
def qHs(E:Env)(σ:TS)(t:Tmp)(τ:Ty)(K:Env->TS->Option α):Option α:=match get E t with
 |.i .. => K E σ
 |.b _|.s _|.c _|.nil=>K E σ
 |.sl .. => K E σ
 |.row id a=>match σ.rw[id]? with
   |some R=>match Nat.beq R.ver a with
     |true=>match qeE R.l τ with
       |some l=>K ((t,.sl τ l 1)::E) (shA σ)
       |none=>none
     |false=>none
   |none=>none
 |.dead=>K E (shA σ)
 |_=>none
def qtj:List (Tmp×Co)->Env->TS->(Env->TS->Option α)->Option α
 |[],E,σ,K=>K E σ
 |(t,a)::r,E,σ,K=>match a with
   |.plist τ=>qHs E σ t τ λ E σ=>qtj r E σ K
   |_=>qtj r E σ K
def qsr(E:Env)(ops:Array Oper)(j:Nat)(o:Oper)(i:Nat)(q:Oper):Bool:=match o.op,q.op with
 |.store _ (.tmp a) _,.load _ (.tmp b)=>match qob E ops j a,qob E ops i b with
   |some x,some y => !Nat.beq x y
   |some _,none=>qKc E ops i b
   |_,_=>false
 |.call ⟨.builtin .append,_,_⟩,.load _ (.tmp b)|.call ⟨.value _,_,_⟩,.load _ (.tmp b)=>(qob E ops i b).isSome
 |_,_=>false
def qMj(a:Nat->Bool)(E:Env)(ops:Array Oper)(j:Nat)(o:Oper)(i:Nat)(q:Oper):Bool:=
 (match q.dst with|some d=>(qa5 ops o).contains d|none=>false)||(qoE a o q && !(qsr E ops j o i q||qsr E ops i q j o))
def qr6(c:Nat->Bool)(E:Env)(ops:Array Oper)(a:Bool):Bool:=match a with
 |true=>
   let b:=QP ops.toList []
   ops.toList.zipIdx.all λ(o,j)=>((jw o).all λ e=>decide (e<j))&&ops.toList.zipIdx.all λ(q,i)=>
    decide (i=j) || !qMj c E ops j o i q||(b.getD (max i j) 0).testBit (min i j)
 |false=>true
def qeN:Nat->List TV->Env
 |_,[]=>[]
 |n,x::l=>(n,x)::qeN (n+1) l
def qn3(c:TC)(E:Env)(σ:TS):ResultVar->Option TV
 |.tmp t=>some (get E t)
 |.cell a t=>match c.ty t,get E a with
   |some d,.ptr b o=>match σ.bx[b]? with
     |some cs=>match qwh cs with
       |true=>qmQ d.agg d.size cs o
       |false=>none
     |none=>none
   |_,_=>none
def qta:Code->Nat
 |.seq a b=>max (qta a) (qta b)+1
 |_=>1
section
variable {α:Type}
def qmL(c:TC):Code->Env->TS->(Env->TS->Option α)->Option α
 |.skip,E,σ,K=>K E σ
 |.seq a b,E,σ,K=>qmL c a E σ λ E σ=>qmL c b E σ K
 |.region _ ops d,E,σ,K=>match qiR ops d,qoj ops d with
   |false,none=>match qr6 c.loT E ops d with
     |true=>qhy (opT c) c ops d ops.toList E σ K
     |false=>none
   |_,_=>none
 |_,_,_,_=>none
def qBn(c:TC)(E:Env)(σ:TS):List ResultVar->Option (List TV)
 |[]=>some []
 |r::l=>match qn3 c E σ r with
   |some x=>match qBn c E σ l with
     |some xs=>some (x::xs)
     |none=>none
   |none=>none
def qLd(c:TC)(fn:Func)(σ:TS)(xs:List TV)(K:KT α):Option α:=match fn.body with
 |some cd=>match Nat.ble xs.length fn.ntmps&&Nat.ble (qta cd) 12 with
   |true=>qmL {c with nt:=fn.ntmps} cd (qeN 0 xs) σ λ E σ=>match qBn {c with nt:=fn.ntmps} E σ fn.results.toList with
     |some ys=>K (qqd ys) (some σ)
     |none=>none
   |false=>none
 |none=>none
def opI(c:TC)(E:Env)(σ:TS)(op:Op)(K:KT α):Option α:=
 match op with
 |.call ⟨.value g,a,ts⟩=>match evT E g with
   |.fn f cs=>match c.inl f with
     |some fn=>qLd c fn σ (a.toList.map (evT E)++cs) K
     |none=>opT c E σ (.call ⟨.value g,a,ts⟩) K
   |_=>none
 |op=>opT c E σ op K
end
def slT:TV->Bool
 |.sl ..|.row .. => true
 |_=>false
def qG7(E:Env)(ops:Array Oper):Bool:=match qg3 ops with
 |p::_=>match p.op with
   |.indexAddr _ u _=>slT (evT E u)
   |_=>false
 |[]=>false
def qLO:TV->Bool
 |.ptr _ _=>true
 |_=>false
def qej:Code->Nat
 |.region id _ _=>id
 |.seq a _=>qej a
 |.block _ b|.loop b=>qej b
 |.cond _ a _=>qej a
 |_=>0
def qfV:List (Tmp×Co)->List Nat
 |[]=>[]
 |(t,a)::r=>match a with
   |.plist _=>t::qfV r
   |_=>qfV r
def TC.pur(c:TC)(b:Code):List Nat:=match c.loop (qej b)with
 |some l=>qfV l
 |none=>[]
def qG5(E:Env)(x:Operand)(b:Bool):Env:=match x with
 |.tmp t=>(t,.b b)::E
 |_=>E
def Jt(c:TC)(f:Env->TS->Option α)(L:List It->Env->TS->Option α):Nat->List It->Ex->Env->TS->Option α
 |0,_,_,_,_=>none
 |_+1,[],e,E,σ=>match e with
   |.exit _=>none
   |_=>f E σ
 |N+1,.code cd::k,e,E,σ=>match e with
   |.normal=>match cd with
     |.skip|.label _=>Jt c f L N k .normal E σ
     |.region _ ops d=>match qiR ops d with
       |true=>match qiz c.loT ops.toList&&(qce c.loT ops&&qr6 c.loT E ⟨qH c.loT ops.toList⟩ true)with
         |true=>qhy (opI c) c ⟨qH c.loT ops.toList⟩ true (qH c.loT ops.toList) E σ λ E σ=>qhy (opI c) c ops false (alL c.loT ops.toList) E σ λ E σ=>qhy (opI c) c ops true (qqW c.loT ops.toList) E σ λ E σ=>Jt c f L N k .normal E σ
         |false=>none
       |false=>match qoj ops d with
         |some p=>match qr6 c.loT E (qb4 ops) true with
           |true=>qhy (opI c) c (qb4 ops) true (qb4 ops).toList E σ λ E σ=>match qLO (get E p)&&qG7 E ops with
             |true=>qhy (opI c) c ops true (qg3 ops) E σ λ E σ=>Jt c f L N k .normal E σ
             |false=>none
           |false=>none
         |none=>match qr6 c.loT E ops d with
           |true=>qhy (opI c) c ops d ops.toList E σ λ E σ=>Jt c f L N k .normal E σ
           |false=>none
     |.seq a b=>Jt c f L N (.code a::.code b::k) .normal E σ
     |.cond x a b=>match evT E x with
       |.b y=>cond y (Jt c f L N (.code a::k) .normal (qG5 E x true) σ) (Jt c f L N (.code b::k) .normal (qG5 E x false) σ)
       |_=>none
     |.block id b=>Jt c f L N (.code b::.blk id::k) .normal E σ
     |.loop b=>match c.loop (qej b)with
       |some l=>qtj l E σ λ E σ=>mvE c.np σ E l ⟨[],[],[],[],[]⟩ λ E σ=>L (.code (.loop b)::k) E σ
       |none=>none
     |.exit id=>Jt c f L N k (.exit id) E σ
     |.ret=>Jt c f L N k .ret E σ
     |_=>none
   |e=>Jt c f L N k e E σ
 |N+1,.blk id::k,e,E,σ=>match e with
   |.exit i=>match Nat.beq i id with
     |true=>match c.join id with
       |some l=>mvE c.np σ E l ⟨[],[],[],[],[]⟩ λ E σ=>L k E σ
       |none=>Jt c f L N k .normal E σ
     |false=>Jt c f L N k (.exit i) E σ
   |.normal=>match c.join id with
     |some l=>mvE c.np σ E l ⟨[],[],[],[],[]⟩ λ E σ=>L k E σ
     |none=>Jt c f L N k .normal E σ
   |.ret=>Jt c f L N k .ret E σ
 |_+1,.ops .. :: _,_,_,_=>none
def qA3(c:TC)(a:Env->TS->Option α)(L:List It->Env->TS->Option α)(N:Nat)(d:List It)(E:Env)(σ:TS):Option α:=
 match d with
 |.code (.loop b)::k=>match c.loop (qej b)with
   |some l=>qtj l E σ λ E σ=>Jt c a L N (.code b::.code (.loop b)::k) .normal E σ
   |none=>Jt c a L N (.code b::.code (.loop b)::k) .normal E σ
 |d=>Jt c a L N d .normal E σ
def qpg(c:TC)(a:Env->TS->Option α)(N:Nat):Nat->List It->Env->TS->Option α
 |0=>λ _ _ _=>none
 |n+1=>qA3 c a (qpg c a N n) N
end
def qi2(c:TC):(ts:List Ty)->List ResultVar->Env->TS->Option (qd7 ts)
 |[],[],_,_=>some ()
 |[a],[r],E,σ=>match qn3 c E σ r with
   |some x=>qb0 σ.rw a x
   |none=>none
 |a::b::ts,r::d,E,σ=>match qn3 c E σ r with
   |some x=>match qb0 σ.rw a x with
     |some v=>match qi2 c (b::ts) d E σ with
       |some vs=>some (v,vs)
       |none=>none
     |none=>none
   |none=>none
 |_,_,_,_=>none
def qkI:(sas:List SA)->Nat->Nat->QC sas->List TV
 |[],_,_,_=>[]
 |.val τ::r,nb,b,a=>qkT τ a.1::qkI r nb b a.2
 |.row _::r,nb,b,a=>.row b 0::qkI r nb (b+1) a.2
 |.box l::r,nb,b,a=>bxT l nb::qkI r (nb+1) (b+nR l) a.2
 |.nil::r,nb,b,a=>.nil::qkI r nb b a
 |.clo g k::r,nb,b,a=>.fn g ((qkI r nb b a).take k)::(qkI r nb b a).drop k
def sBx:(sas:List SA)->Nat->QC sas->List (List TV)
 |[],_,_=>[]
 |.nil::r,b,a|.clo _ _::r,b,a=>sBx r b a
 |.val _::r,b,a=>sBx r b a.2
 |.row _::r,b,a=>sBx r (b+1) a.2
 |.box l::r,b,a=>qfm l b (toC l a.1)::sBx r (b+nR l) a.2
def sRw:(sas:List SA)->QC sas->List qK
 |[],_=>[]
 |.nil::r,a|.clo _ _::r,a=>sRw r a
 |.val _::r,a=>sRw r a.2
 |.row τ::r,a=>⟨τ,a.1,0,0,false⟩::sRw r a.2
 |.box l::r,a=>JO l (toC l a.1)++sRw r a.2
def qf1(σ:TS):(sas:List SA)->Nat->Option (jI sas×List Nat×Bool)
 |[],_=>some ((),[],true)
 |.nil::r,n|.clo _ _::r,n|.val _::r,n|.row _::r,n=>qf1 σ r n
 |.box l::r,n=>match σ.bx[n]? with
   |some cs=>match JC σ.rw l cs,qf1 σ r (n+1)with
     |some (v,i,q),some (o,a,b)=>some ((toB l v,o),i++a,q&&b)
     |_,_=>none
   |none=>none
def qif(c:TC)(E:Env)(σ:TS)(f:List Nat):(d:List RE)->List ResultVar->Option (RV d×List Nat×List Nat×Bool)
 |[],[]=>some ((),[],[],true)
 |.one (.val a)::d,r::l=>match qn3 c E σ r with
   |some x=>match qb0 σ.rw a x,qif c E σ f d l with
     |some v,some (vs,b,e,q)=>some ((v,vs),b,e,qmY x&&q)
     |_,_=>none
   |none=>none
 |.one (.row a)::d,r::l=>match qn3 c E σ r with
   |some x=>match qh4 σ.rw a x,qif c E σ f d l with
     |some (v,i),some (vs,b,e,q)=>some ((v,vs),i++b,e,q)
     |_,_=>none
   |none=>none
 |.agg p::d,r::l=>match qn3 c E σ r with
   |some (.agg cs)=>match JC σ.rw p cs,qif c E σ f d l with
     |some (v,i,g),some (vs,b,e,q)=>some ((v,vs),i++b,e,g&&q)
     |_,_=>none
   |_=>none
 |_,_=>none
def qPA(rw:List qK):TV->Option (List Nat)
 |.row id a=>match rw[id]? with
   |some R=>match Nat.beq R.ver a with
     |true=>some [id]
     |false=>none
   |none=>none
 |x=>match qmH x with
   |true=>some []
   |false=>none
def qGz(rw:List qK):List TV->Option (List Nat)
 |[]=>some []
 |x::l=>match qPA rw x,qGz rw l with
   |some a,some b=>some (a++b)
   |_,_=>none
def qDp (rw:List qK):List RA->List TV->Option (List Nat)
 | [],_=>some []
 | .val τ :: r,cs=>match qGz rw (cs.take τ.size),qDp rw r (cs.drop τ.size) with
   | some a,some b=>some (a++b)
   | _,_=>none
 | .row _::r,cs=>qDp rw r (cs.drop 1)
def qq1(σ:TS):List SA->Nat->Option (List Nat)
 |[],_=>some []
 |.box l::r,n=>match σ.bx[n]? with
   |some cs=>match qDp σ.rw l cs,qq1 σ r (n+1)with
     |some a,some b=>some (a++b)
     |_,_=>none
   |none=>none
 |.nil::r,n|.clo _ _::r,n|.val _::r,n|.row _::r,n=>qq1 σ r n
def qNV(vs:Option (List Nat))(l:List Nat):Bool:=match vs with
 |some vs=>vs.all λ a=>l.all λ b => !Nat.beq a b
 |none=>false
def qHb(n:Nat)(l:List Nat):List Nat:=match Nat.beq l.length n with
 |true=>l
 |false=>[]
def qxS(c:TC)(sas:List SA)(d:List RE)(l:List ResultVar)(E:Env)(σ:TS):Option (jI sas×RV d):=match qf1 σ sas 0 with
 |some (o,i,q)=>match qif c E σ (qHb (nrB sas) i) d l with
   |some (v,a,e,f)=>match ndN (i++a)&&(((i++a).isEmpty||(f&&(q||qNV (qq1 σ sas 0) (i++a))))&&(ndN e&&e.all λ b=>Nat.ble (nBx sas) b))with
     |true=>some (o,v)
     |false=>none
   |none=>none
 |none=>none
end Go.AmZ
namespace Go.AmZ
open Go Go.RowKit Go.GxZ
mutual
def qK8:T->List AV
 |.mk k n s l=>[.v (.int .i64 k),.v (.string ⟨n.toArray⟩),.v (.int .i64 s),.sl 4 (qDF l) 0]
def qDF:List T->List (List AV)
 |[]=>[]
 |t::l=>qK8 t::qDF l
end
mutual
def qOa:AV->Option (List T)
 |.v (.slice none 0 0)=>some []
 |.sl 4 es _=>qDm es
 |_=>none
def qDm:List (List AV)->Option (List T)
 |[]=>some []
 |e::es=>match qK0 e with
   |some t=>match qDm es with
     |some l=>some (t::l)
     |none=>none
   |none=>none
def qK0:List AV->Option T
 |[.v (.int .i64 k),.v (.string n),.v (.int .i64 s),x]=>match qOa x with
   |some l=>some (.mk k n.data.toList s l)
   |none=>none
 |_=>none
end
mutual
theorem qJQ:∀t:T,qK0 (qK8 t)=some t
 |.mk k n s l=>by
   rw[qK8,qK0,qOa,qAR l]
theorem qAR:∀l:List T,qDm (qDF l)=some l
 |[]=>by rw[qDF,qDm]
 |t::l=>by rw[qDF,qDm,qJQ t,qAR l]
end
theorem QF.len:∀{xs ys:List AV},QF xs ys->xs.length=ys.length
 |_,_,.nil=>rfl
 |_,_,.cons _ t=>by simp[t.len]
theorem QF.get:∀{xs ys:List AV},QF xs ys->∀(i:Nat) (y:AV),ys[i]?=some y->∃x,xs[i]?=some x/\Sub x y
 |_,_,.nil,i,y,h=>by simp at h
 |_,_,.cons a t,0,y,h=>by simp at h;subst h;exact⟨_,rfl,a⟩
 |_,_,.cons a t,i+1,y,h=>by simpa using t.get i y (by simpa using h)
theorem qCk{xs ys:List AV}(h:QF xs ys):Sub (.agg xs) (.agg ys):=by
 intro Γ u a;cases a with
 |agg cs us c d b=>
   have:=h.rep (RepL.mk c b);exact .agg _ _ this.len d this.rep
end Go.AmZ
namespace Go.AmZ
open Go Go.RowKit
def QQ(R:Row):Row:=⟨R.k,[],0,1,false⟩
theorem qpp{Γ Γ':Gh}{x:AV}{u:Value}(a:∀b o u,Γ.mem b o=some u->Γ'.mem b o=some u)(h:Rep Γ x u)(d:rb x=[])(c:rr x=[]):Rep Γ' x u:=by
 have:=qr0 (Γ':=Γ') (fb:=λ b=>b) (fr:=λ r=>r) a h (by rw[d];intro b hb;cases hb) (by rw[c];intro b hb;cases hb)
 rwa [qAN]at this
theorem qFI:∀{cs:List AV},rbL cs=[]->∀x∈cs,rb x=[]
 |[],_,x,a=>by cases a
 |y::cs,h,x,a=>by
   simp only[rbL,wY]at h;obtain rfl|a:=ww.1 a
   .exact h.1
   .exact qFI h.2 x a
theorem qEz:∀{cs:List AV},rrL cs=[]->∀x∈cs,rr x=[]
 |[],_,x,a=>by cases a
 |y::cs,h,x,a=>by
   simp only[rrL,wY]at h;obtain rfl|a:=ww.1 a
   .exact h.1
   .exact qEz h.2 x a
theorem qHy{Γ Γ':Gh}{cs:List AV}{us:List Value}(d:∀b o u,Γ.mem b o=some u->Γ'.mem b o=some u)(h:RepL Γ cs us)(f:rbL cs=[])(e:rrL cs=[]):RepL Γ' cs us:=
 ⟨h.len,λ i x u a c=>qpp d (h.rep i x u a c) (qFI f x (wc a)) (qEz e x (wc a))⟩
theorem qwF{x:AV}(h:qu x=true):rb x=[]/\rr x=[]:=(qgi (fb:=λ b=>b) (fr:=λ r=>r) h).2
def qNN(ds cs:List AV):Prop:=∃c d a ks vs vs',ds=[.mc c d a ks vs]/\cs=[.mc c d a ks vs']/\vs'.length=vs.length/\∀(j:Nat) (v b:List AV),vs[j]?=some v->vs'[j]?=some b->Sub (Qw a v) (Qw a b)/\b.all qu=true
theorem qcK.sub{Γ:Gh}{w:World}{b:Nat}{m:List KC}{n f:Bool}{ks vs vs':List (List AV)}(h:qcK Γ w b m n f ks vs)(s:vs'.length=vs.length)(r:∀(j:Nat) (v g:List AV),vs[j]?=some v->vs'[j]?=some g->Sub (Qw f v) (Qw f g)/\g.all qu=true):qcK Γ w b m n f ks vs':=by
 let⟨y,es,d,x,u,t⟩:=h;refine⟨s.trans y,es,d,x,u,λ j k v e a b c=>?_⟩;have B:=(List.getElem?_eq_some_iff.1 b).1;have o:=List.getElem?_eq_getElem (l:=vs) (i:=j) (by omega);let⟨A,z,g3,C⟩:=t j k _ e a o c;let⟨q,p⟩:=r j _ _ o b;exact⟨A,q _ _ z,g3,p⟩
structure qGs (σ1:St) (fs:List Nat) (so:Option Nat) (R:Row):Prop where
 fz:R.fz=0
 ver:R.ver=0
 pos:0<R.k
 len:∀e∈R.c,e.length=R.k
 plain:∀e∈R.c,∀x∈e,qu x=true
 src:match so with
  |none=>R.c=[]
  |some j=>∃Q,σ1.rw[j]?=some Q/\Q.k=R.k/\Q.fz=0/\Q.c.length=R.c.length/\(∀(i:Nat) (e e':List AV),Q.c[i]?=some e->R.c[i]?=some e'->QF e e')/\j ∉ fs/\Q.off=false
def qkP(nb:Nat)(kb:List Nat)(i:Nat):Nat:=if i<nb then i else kb.getD (i-nb) 0
def jM(a:Gh)(m:Nat->Nat->Option Value)(nb:Nat)(kb:List Nat)(L:Nat)(qe:List (Option Nat×Row)):Gh:=
 {mem:=m,nb:=nb+kb.length,β:=λ i=>a.β (qkP nb kb i),nr:=L+qe.length,ver:=λ r=>if r<L then a.ver r+1 else 0,
   k:=λ r=>if r<L then a.k r else match qe[r-L]? with|some p=>p.2.k|none=>1,
   cur:=λ r=>if r<L then a.cur r else match qe[r-L]? with|some (some j,_)=>a.cur j|_=>0,
   sz:=λ r=>if r<L then 0 else match qe[r-L]? with|some (some j,_)=>a.sz j|_=>0,of:=λ _=>0}
theorem qrh{y d:Gh}{σ0 σ1:St}{w0 K:World}(J:Inv y σ0 w0)(t:Ext y w0 d K)(I:Inv d σ1 K)(ah:σ0.bx.length<=σ1.bx.length)
  (z:List (List AV)) (kb:List Nat) (ad:z.length=σ0.bx.length+kb.length) (P:∀b∈kb,σ0.bx.length<=b/\b<σ1.bx.length) (ag:kb.Nodup) (M:List Nat) (qe:List (Option Nat×Row)) (ae:∀(i:Nat) (cs:List AV),z[i]?=some cs->∃ds,σ1.bx[qkP σ0.bx.length kb i]?=some ds/\(noMc ds=false->qNN ds cs)/\∀m,Fz d m->(∀r∈M,∀R,σ1.rw[r]?=some R->Qp {d with mem:=m} r R)->∀us,RepL d ds us->RepL (jM d m σ0.bx.length kb σ0.rw.length qe) cs us)
  (hn:∀(a:Nat) (so:Option Nat) (R:Row),qe[a]?=some (so,R)->qGs σ1 M so R) (hd:∀(a b j:Nat) (R R':Row),qe[a]?=some (some j,R)->qe[b]?=some (some j,R')->a=b) (wl aa:List Nat):
  ∃m,Fz d m/\(∀r∈M,∀R,σ1.rw[r]?=some R->Qp {d with mem:=m} r R)/\Ext y w0 (jM d m σ0.bx.length kb σ0.rw.length qe) K/\Inv (jM d m σ0.bx.length kb σ0.rw.length qe) ⟨z,σ0.rw.map QQ++qe.map (·.2),wl,aa⟩ K:=by
 let⟨m,m1,m2,m3⟩:=qas M I σ1.wrr;have af:σ0.bx.length<=d.nb:=by rw[I.nb];exact ah
 have V:∀b o u,d.mem b o=some u->m b o=some u:=m1.le.mem
 have C:∀{i:Nat},i<σ0.bx.length+kb.length->qkP σ0.bx.length kb i<d.nb:=λ{i} f=>by
  unfold qkP;split
  .exact wC ‹_› af
  .rw[List.getD_eq_getElem?_getD,List.getElem?_eq_getElem (show i-σ0.bx.length<kb.length by omega),I.nb];exact(P _ (wV _)).2
 have ai:∀{i j:Nat},i<σ0.bx.length+kb.length->j<σ0.bx.length+kb.length->qkP σ0.bx.length kb i=qkP σ0.bx.length kb j->i=j:=λ{i j} f S g=>by
  unfold qkP at g;split at g<;>split at g
  .exact g
  .rw[List.getD_eq_getElem?_getD,List.getElem?_eq_getElem (show j-σ0.bx.length<kb.length by omega)]at g;have g:i=kb[j-σ0.bx.length]:=g;have:=(P _ (wV (show j-σ0.bx.length<kb.length by omega))).1;omega
  .rw[List.getD_eq_getElem?_getD,List.getElem?_eq_getElem (show i-σ0.bx.length<kb.length by omega)]at g;have g:kb[i-σ0.bx.length]=j:=g;have:=(P _ (wV (show i-σ0.bx.length<kb.length by omega))).1;omega
  .rw[List.getD_eq_getElem?_getD,List.getD_eq_getElem?_getD,List.getElem?_eq_getElem (show i-σ0.bx.length<kb.length by omega),List.getElem?_eq_getElem (show j-σ0.bx.length<kb.length by omega)]at g;have g:kb[i-σ0.bx.length]=kb[j-σ0.bx.length]:=g;have:=(List.getElem_inj (h₀:=by omega) (h₁:=by omega) ag).1 g;omega
 have B:∀{r:Nat},¬ r<σ0.rw.length->(jM d m σ0.bx.length kb σ0.rw.length qe).sz r≠0->∃j R Q,qe[r-σ0.rw.length]?=some (some j,R)/\σ1.rw[j]?=some Q/\qfU {d with mem:=m} K j Q/\(jM d m σ0.bx.length kb σ0.rw.length qe).cur r=d.cur j/\(jM d m σ0.bx.length kb σ0.rw.length qe).sz r=d.sz j:=by
  intro r s q;have N:(if r<σ0.rw.length then 0 else match qe[r-σ0.rw.length]? with|some (some j,_)=>d.sz j|_=>0)≠0:=q;rw[if_neg s]at N;split at N
  .rename_i j R F;let⟨Q,Z,_,_,_,_,q6,_⟩:=(hn _ _ _ F).src;refine⟨j,R,Q,F,Z,m2.row j Q (by show(frz σ1.rw M)[j]?=_;rw[qng M _ j q6];exact Z),?_,?_⟩
   .show(if r<σ0.rw.length then _ else match qe[r-σ0.rw.length]? with|some (some j,_)=>d.cur j|_=>0)=_;rw[if_neg s,F]
   .show(if r<σ0.rw.length then _ else match qe[r-σ0.rw.length]? with|some (some j,_)=>d.sz j|_=>0)=_;rw[if_neg s,F]
  .exact absurd rfl N
 have v:∀{r:Nat},r<σ0.rw.length->(jM d m σ0.bx.length kb σ0.rw.length qe).sz r=0:=λ s=>if_pos s;refine⟨m,m1,m3,⟨⟨λ b o u h=>V _ _ _ (t.le.mem b o u h),by rw[J.nb];exact kJ _ _,λ i f=>by rw[<-t.le.β i f];show d.β (qkP _ _ _)=_;unfold qkP;rw[if_pos (by rw[<-J.nb];exact f)],by rw[J.nr];exact kJ _ _,λ r s=>?_,λ r s=>?_,λ r s g=>?_⟩,t.os,t.tape,t.output,t.size,t.block,?_,?_,t.drawn⟩,?_⟩
 .rw[J.nr]at s;exact(if_pos s).trans (t.le.k r (by rw[J.nr];exact s))
 .have:=t.le.ver r s;rw[J.nr]at s;show y.ver r<=(if r<σ0.rw.length then d.ver r+1 else 0);rw[if_pos s];omega
 .have:=t.le.ver r s;rw[J.nr]at s;have g:(if r<σ0.rw.length then d.ver r+1 else 0)=y.ver r:=g;rw[if_pos s]at g;omega
 .rintro b (⟨i,f,hb⟩|⟨r,s,q,hb⟩)
  .exact t.own b (.inl ⟨_,C f,hb⟩)
  .by_cases l:r<σ0.rw.length
   .exact absurd (v l) q
   .let⟨j,R,Q,_,T,_,Y,q5⟩:=B l q;exact t.own b (.inr ⟨j,by rw[I.nr];exact getElem?_lt T,by rw[<-q5];exact q,by rw[<-Y];exact hb⟩)
 .intro b o u hm;obtain h|h:=m1.own b o u hm
  .exact t.memg b o u h
  .exact .inr (t.own b h)
 .refine⟨ad.symm,by show σ0.rw.length+qe.length=_;simp,λ b o u h=>m2.mem b o u h,?_,λ i j f S g=>ai f S (I.inj _ _ (C f) (C S) g),λ i f o=>m2.boxmem _ (C f) o,?_,?_⟩
  .intro i cs f;let⟨ds,d1,d3,d2⟩:=ae i cs f;obtain⟨vs,e,v1,v2,v3⟩|⟨kc,ka,va,ks,vs,rfl,hm⟩:=(I.box _ ds d1).split
   .exact .of ⟨vs,e,v1,d2 m m1 m3 _ v2,v3⟩
   .obtain⟨_,_,_,_,_,vs',e1,rfl,l1,l2⟩:=d3 rfl;cases e1;exact(hm.sub l1 l2).to (λ _ h=>h) λ x u t g1 g2=>qpp V t g1 g2
  .intro r R w;have w:(σ0.rw.map QQ++qe.map (·.2))[r]?=some R:=w;by_cases l:r<σ0.rw.length
   .rw[List.getElem?_append_left (by rw[wB];exact l),List.getElem?_map]at w;cases n:σ0.rw[r]? with
    |none=>rw[n]at w;cases w
    |some R0=>
      rw[n]at w;cases w;have H:=J.row r R0 n;have q:=v l;refine⟨?_,λ h=>absurd h (by show ¬ 1<=0;omega),H.pos,(by intro e g;cases g),(by intro e g;cases g),.inl rfl,λ h=>absurd q h,by show 0+0*_<=_;rw[kI];exact we _,λ h=>absurd q h,(by intro i e j x f;cases f),λ h=>absurd q h,λ _=>rfl⟩;show R0.k=(if r<σ0.rw.length then d.k r else _);rw[if_pos l,H.k];exact(t.le.k r (by rw[J.nr];exact l)).symm
   .rw[List.getElem?_append_right (by rw[wB];omega),wB,List.getElem?_map]at w;cases n:qe[r-σ0.rw.length]? with
    |none=>rw[n]at w;cases w
    |some p=>
      rw[n]at w;cases w;let⟨so,R⟩:=p;have D:=hn _ _ _ n
      have hk:R.k=(jM d m σ0.bx.length kb σ0.rw.length qe).k r:=by
       show _=(if r<σ0.rw.length then _ else match qe[r-σ0.rw.length]? with|some p=>p.2.k|none=>1);rw[if_neg l,n]
      have L:R.ver=(jM d m σ0.bx.length kb σ0.rw.length qe).ver r:=by
       show _=(if r<σ0.rw.length then _ else 0);rw[if_neg l];exact D.ver
      cases so with
      |none=>
        have hc:R.c=[]:=D.src
        have q:(jM d m σ0.bx.length kb σ0.rw.length qe).sz r=0:=by
         show(if r<σ0.rw.length then 0 else match qe[r-σ0.rw.length]? with|some (some j,_)=>d.sz j|_=>0)=0;rw[if_neg l,n]
        exact⟨hk,λ _=>L,D.pos,D.len,D.plain,.inl hc,λ h=>absurd q h,by show 0+R.c.length*_<=_;rw[hc];simp,λ h=>absurd q h,(by intro i e j x f;change R.c[i]?=_ at f;rw[hc]at f;cases f),λ h=>absurd q h,λ _=>rfl⟩
      |some j=>
        let⟨Q,Z,T,q3,Y,q5,q6,q7⟩:=D.src;have H:qfU {d with mem:=m} K j Q:=m2.row j Q (by show(frz σ1.rw M)[j]?=_;rw[qng M _ j q6];exact Z)
        have G:(jM d m σ0.bx.length kb σ0.rw.length qe).cur r=d.cur j:=by
         show(if r<σ0.rw.length then _ else match qe[r-σ0.rw.length]? with|some (some j,_)=>d.cur j|_=>0)=_;rw[if_neg l,n]
        have A:(jM d m σ0.bx.length kb σ0.rw.length qe).sz r=d.sz j:=by
         show(if r<σ0.rw.length then _ else match qe[r-σ0.rw.length]? with|some (some j,_)=>d.sz j|_=>0)=_;rw[if_neg l,n]
        have O:d.of j=0:=H.off q7;refine⟨hk,λ _=>L,D.pos,D.len,D.plain,.inr (by show R.fz<=_;rw[D.fz];exact we _),λ q=>?_,?_,λ q off ho=>?_,?_,λ q i f=>?_,λ _=>rfl⟩
        .rw[A]at q;let⟨vs,e,fr,b1,b2,b3,b4⟩:=H.blk q;exact⟨vs,e,fr,by rw[G];exact b1,by rw[A];exact b2,b3,by rw[<-T];exact b4⟩
        .show 0+R.c.length*R.k<=_;have X:d.of j+Q.c.length*Q.k<=d.sz j:=H.fit;rw[O]at X;rw[A,<-Y,<-T];exact X
        .rw[A]at q;rw[G];refine H.un q off ?_;show d.of j+_<=_;rw[q3,kI,O];exact we _
        .intro i e' jj x' f S;have f:R.c[i]?=some e':=f;have W:i<Q.c.length:=by rw[Y];exact getElem?_lt f
         let⟨x,ac,U⟩:=(q5 i _ e' (List.getElem?_eq_getElem W) f).get jj x' S;let⟨u,u1,u2,u3⟩:=H.cells i _ jj x (List.getElem?_eq_getElem W) ac;let⟨p1,p2⟩:=qwF (D.plain e' (wc f) x' (wc S));refine⟨u,?_,qpp (Γ:={d with mem:=m}) (λ _ _ _ h=>h) (U _ _ u2) p1 p2,u3⟩;have ab:K.cell? ⟨d.cur j,d.of j+(i*Q.k+jj),none⟩=some u:=u1;show K.cell? ⟨_,0+(i*R.k+jj),none⟩=_;rw[G,<-T,<-O];exact ab
        .rw[A]at q;rw[G];exact H.nbx q _ (C f)
  .intro r r' s aj ak z1 z2;by_cases e1:r<σ0.rw.length
   .exact absurd (v e1) z1
   by_cases e2:r'<σ0.rw.length
   .exact absurd (v e2) z2
   let⟨j,R,Q,a1,a2,_,a4,a5⟩:=B e1 z1;let⟨j',R',Q',b1,b2,_,b4,b5⟩:=B e2 z2;rw[a4,b4];refine I.apart j j' (by rw[I.nr];exact getElem?_lt a2) (by rw[I.nr];exact getElem?_lt b2) (λ g=>?_) (by rw[<-a5];exact z1) (by rw[<-b5];exact z2);subst g;have:=hd _ _ _ _ _ a1 b1;omega
end Go.AmZ
namespace Go.AmZ
open Go Go.RowKit Go.GxZ
def zg{a:Type}(f:List AV->Option a):List (List AV)->Option (List a)
 |[]=>some []
 |e::es=>match f e with
   |some v=>match zg f es with
     |some vs=>some (v::vs)
     |none=>none
   |none=>none
mutual
def qjA:AV->Option (List T)
 |.v (.slice none 0 0)=>some []
 |.sl 4 es (_+1)=>qv6 es
 |_=>none
def qv6:List (List AV)->Option (List T)
 |[]=>some []
 |e::es=>match Q3 e with
   |some t=>match qv6 es with
     |some l=>some (t::l)
     |none=>none
   |none=>none
def Q3:List AV->Option T
 |[.v (.int .i64 k),.v (.string n),.v (.int .i64 s),x]=>match qjA x with
   |some l=>some (.mk k n.data.toList s l)
   |none=>none
 |_=>none
end
def full{a:Type}:Option (a×List AV)->Option a
 |some (v,[])=>some v
 |_=>none
def je(k:Nat){a:Type}(f:List AV->Option a):AV->Option (List a)
 |.v (.slice none 0 0)=>some []
 |.sl b es (_+1)=>match zk b k with
   |true=>zg f es
   |false=>none
 |_=>none
def JD(k:IntKind):List AV->Option (Int×List AV)
 |.v (.int a n)::r=>match decide (a=k)with
   |true=>some (n,r)
   |false=>none
 |_=>none
def qcH:List AV->Option (Bool×List AV)
 |.v (.bool b)::r=>some (b,r)
 |_=>none
def qcY:List AV->Option (List UInt8×List AV)
 |.v (.string s)::r=>some (s.data.toList,r)
 |_=>none
def JF:List AV->Option (T×List AV)
 |a::b::c::d::r=>match Q3 [a,b,c,d]with
   |some t=>some (t,r)
   |none=>none
 |_=>none
def yD{a:Type}(b:AV->Option a):List AV->Option (a×List AV)
 |x::r=>match b x with
   |some l=>some (l,r)
   |none=>none
 |_=>none
def qbg{d c:Type}(f:List AV->Option d)(g:List AV->Option c):List (List AV)->List (List AV)->Option (List (d×c))
 |[],[]=>some []
 |k::ks,v::vs=>match f k,g v with
   |some a,some b=>match qbg f g ks vs with
     |some l=>some ((a,b)::l)
     |none=>none
   |_,_=>none
 |_,_=>none
def dMc{d c:Type}(a b:Ty)(f:List AV->Option d)(g:List AV->Option c):AV->Option (List (d×c))
 |.mc h i e ks vs=>match decide (h=kcT a)&&(Qn i a.agg&&Qn e b.agg)with
   |true=>qbg f g ks vs
   |false=>none
 |_=>none
def yy:(τ:Ty)->List AV->Option (Val τ×List AV)
 |.int k=>JD k
 |.bool=>qcH
 |.str=>qcY
 |.term=>JF
 |.list a=>yD (je a.size (λ e=>full (yy a e)))
 |.pair a b=>qoL (yy a) (yy b)
 |.one a=>yy a
 |.map a b=>yD (dMc a b (λ e=>full (yy a e)) (λ e=>full (yy b e)))
def qD(τ:Ty)(e:List AV):Option (Val τ):=full (yy τ e)
def dlist(τ:Ty)(x:AV):Option (List (Val τ)):=je τ.size (qD τ) x
mutual
def JQ:T->List AV
 |.mk k n s l=>[.v (.int .i64 k),.v (.string ⟨n.toArray⟩),.v (.int .i64 s),.sl 4 (qpm l) 1]
def qpm:List T->List (List AV)
 |[]=>[]
 |t::l=>JQ t::qpm l
end
def qd:(τ:Ty)->Val τ->List AV
 |.int k,n=>[.v (.int k n)]
 |.bool,b=>[.v (.bool b)]
 |.str,s=>[.v (.string ⟨s.toArray⟩)]
 |.term,t=>JQ t
 |.list a,l=>[.sl a.size (l.map (qd a)) 1]
 |.pair a b,p=>qd a p.1++qd b p.2
 |.one a,v=>qd a v
 |.map a b,l=>[.mc (kcT a) a.agg b.agg (l.map λ p=>qd a p.1) (l.map λ p=>qd b p.2)]
def yH:(τ:Ty)->Val τ->AV
 |.int k,n=>.v (.int k n)
 |.bool,b=>.v (.bool b)
 |.str,s=>.v (.string ⟨s.toArray⟩)
 |.list a,l=>.sl a.size (l.map (qd a)) 1
 |.term,t=>.agg (qd .term t)
 |.pair a b,p=>.agg (qd (.pair a b) p)
 |.one a,v=>.agg (qd (.one a) v)
 |.map a b,l=>.mc (kcT a) a.agg b.agg (l.map λ p=>qd a p.1) (l.map λ p=>qd b p.2)
theorem yW{a:Type}{f:List AV->Option a}{e:List AV}{es:List (List AV)}{l:List a}:zg f (e::es)=some l↔∃v vs,f e=some v/\zg f es=some vs/\l=v::vs:=by
 grind [zg]
theorem zd{a:Type}{f:List AV->Option a}:∀{es:List (List AV)}{l:List a},zg f es=some l->es.length=l.length
 |[],l,h=>by cases h;rfl
 |e::es,l,h=>by
   obtain⟨v,vs,_,b,rfl⟩:=yW.1 h;simp[zd b]
theorem qgj{b:Type}{f:List AV->Option b}:∀{es:List (List AV)}{l:List b},zg f es=some l->∀{i:Nat}{v:b},l[i]?=some v->∃e,es[i]?=some e/\f e=some v
 |[],l,h,i,v,a=>by cases h;simp at a
 |e::es,l,h,i,v,a=>by
   obtain⟨w,vs,d,c,rfl⟩:=yW.1 h;cases i with
   |zero=>simp at a;subst a;exact⟨e,rfl,d⟩
   |succ i=>exact qgj c (by simpa using a)
theorem JN{b:Type}{f:List AV->Option b}:∀{es:List (List AV)}{l:List b},zg f es=some l->∀{i:Nat}{e:List AV},es[i]?=some e->∃v,l[i]?=some v/\f e=some v
 |[],l,h,i,v,a=>by simp at a
 |e::es,l,h,i,v,a=>by
   obtain⟨w,vs,d,c,rfl⟩:=yW.1 h;cases i with
   |zero=>simp at a;subst a;exact⟨w,rfl,d⟩
   |succ i=>exact JN c (by simpa using a)
theorem JV{b:Type}{f:List AV->Option b}:∀{es a:List (List AV)}{l m:List b},zg f es=some l->zg f a=some m->zg f (es++a)=some (l++m)
 |[],a,l,m,h,g=>by cases h;exact g
 |e::es,a,l,m,h,g=>by
   obtain⟨v,vs,d,c,rfl⟩:=yW.1 h;exact yW.2 ⟨v,vs++m,d,JV c g,rfl⟩
theorem qgD{a:Type}{f:List AV->Option a}:∀(n:Nat) {es:List (List AV)}{l:List a},zg f es=some l->zg f (es.take n)=some (l.take n)
 |0,es,l,h=>by simp;rfl
 |n+1,[],l,h=>by cases h;rfl
 |n+1,e::es,l,h=>by
   obtain⟨v,vs,c,b,rfl⟩:=yW.1 h;exact yW.2 ⟨v,vs.take n,c,qgD n b,rfl⟩
theorem qeM{a:Type}{f:List AV->Option a}:∀(n:Nat) {es:List (List AV)}{l:List a},zg f es=some l->zg f (es.drop n)=some (l.drop n)
 |0,es,l,h=>by simpa using h
 |n+1,[],l,h=>by cases h;rfl
 |n+1,e::es,l,h=>by
   obtain⟨v,vs,c,b,rfl⟩:=yW.1 h;simpa using qeM n b
theorem qbA{a:Type}{f:List AV->Option a}{g:a->List AV}(h:∀v,f (g v)=some v):∀l:List a,zg f (l.map g)=some l
 |[]=>rfl
 |v::l=>yW.2 ⟨v,l,h v,qbA h l,rfl⟩
theorem qoF:∀es:List (List AV),qv6 es=zg Q3 es
 |[]=>rfl
 |e::es=>by
   rw[qv6,zg,qoF es];grind
theorem qP{a:Type}{x:Option (a×List AV)}{v:a}:full x=some v↔x=some (v,[]):=by
 unfold full;grind
theorem qiH{cs:List AV}{t:T}(h:Q3 cs=some t):∃k n s x l,cs=[.v (.int .i64 k),.v (.string n),.v (.int .i64 s),x]/\qjA x=some l/\t=.mk k n.data.toList s l:=by
 unfold Q3 at h;grind
theorem qy5(e:List AV):qD .term e=Q3 e:=by
 show full (JF e)=Q3 e;unfold JF;split
 .rename_i a b c d r;cases r with
  |nil=>
    cases f:Q3 [a,b,c,d]with
    |none|some t=>rfl
  |cons x r=>
    have g:Q3 (a::b::c::d::x::r)=none:=by
     grind [Q3]
    rw[g];cases f:Q3 [a,b,c,d]with
    |none|some t=>rfl
 .rename_i h;cases f:Q3 e with
  |none=>rfl
  |some t=>
    grind [qiH]
theorem qjZ(x:AV):dlist .term x=qjA x:=by
 have a:(qD .term:List AV->Option T)=Q3:=funext qy5;unfold dlist je qjA;grind [zk,Ty.size,qoF]
theorem qEx{es c:List (List AV)}{k f:Nat}(D:0<f)(q:es.length=c.length)(C:∀e∈c,e.length=k)(B:∀e∈c,∀x∈e,qu x=true)
  (A:∀(i:Nat) (e d:List AV),es[i]?=some e->c[i]?=some d->QF e d):Sub (.sl k es f) (.sl k c 1):=by
 intro Γ u z;cases z with
 |sl k es f a n cap b o us H G M L K F J I E=>
   have get:∀(i:Nat) (d:List AV) (j:Nat) (y:AV),c[i]?=some d->d[j]?=some y->∃e x,es[i]?=some e/\e[j]?=some x/\Sub x y:=by
    intro i d j y l p;have m:i<es.length:=by rw[q];exact getElem?_lt l
    have r:=List.getElem?_eq_getElem m;let⟨x,w,g⟩:=(A i _ d r l).get j y p;exact⟨_,x,r,w,g⟩
   refine .sl k c 1 a n cap b o us (by rw[H,q]) (λ _=>G D) (λ h=>absurd h (by decide)) C B F ?_ ?_ ?_
   .grind
   .grind
   .intro i d j y l p;let⟨e,x,v,t,s⟩:=get i d j y l p;exact s Γ _ (E i e j x v t)
theorem qBx(k:Nat)(b:0<k):Sub (.v (.slice none 0 0)) (.sl k [] 1):=by
 intro Γ u a;have:=zp a;subst this;exact .sl k [] 1 none 0 0 0 0 (λ _ _=>undef) rfl (λ _=>wa _) (λ h=>absurd h (by decide)) (by simp) (by simp) b (.inl rfl) (by simp) (by simp)
theorem qks:∀l:List T,qpm l=l.map JQ
 |[]=>rfl
 |t::l=>by rw[qpm,qks l];rfl
theorem qyB(t:T):(JQ t).length=4:=by let⟨k,n,s,l⟩:=t;rw[JQ];rfl
theorem qs5(t:T):∀x∈JQ t,qu x=true:=by
 let⟨k,n,s,l⟩:=t;intro x a;rw[JQ]at a;simp at a;obtain rfl|rfl|rfl|rfl:=a<;>rfl
theorem ye:∀(τ:Ty) (v:Val τ),(qd τ v).length=τ.size
 |.int _,_|.bool,_|.str,_=>rfl
 |.term,t=>qyB t
 |.list _,_=>rfl
 |.pair a b,p=>by rw[qd,wd,ye a,ye b];rfl
 |.one a,v=>by rw[qd,ye a];rfl
 |.map _ _,_=>rfl
theorem zo:∀(τ:Ty) (v:Val τ),∀x∈qd τ v,qu x=true
 |.int _,_,x,h|.bool,_,x,h|.str,_,x,h=>by simp[qd]at h;subst h;rfl
 |.term,t,x,h=>qs5 t x h
 |.list _,_,x,h=>by simp[qd]at h;subst h;rfl
 |.pair a b,p,x,h=>by
   rw[qd]at h;obtain h|h:=wk.1 h
   .exact zo a _ x h
   .exact zo b _ x h
 |.one a,v,x,h=>zo a v x h
 |.map _ _,_,x,h=>by simp[qd]at h;subst h;rfl
theorem qPE(t:T):∀cs,Q3 cs=some t->QF cs (JQ t)/\∀x∈cs,qu x=true:=by
 refine T.ind (P:=λ t=>∀cs,Q3 cs=some t->QF cs (JQ t)/\∀x∈cs,qu x=true) ?_ t;intro t m cs h;obtain⟨k,n,s,x,l,rfl,b,rfl⟩:=qiH h;have o:(⟨n.data.toList.toArray⟩:ByteArray)=n:=by cases n;simp
 have c:Sub x (.sl 4 (qpm l) 1)/\qu x=true:=by
  unfold qjA at b;split at b
  .cases b;rw[qpm];exact⟨qBx 4 (by decide),rfl⟩
  .rename_i es q;refine⟨?_,rfl⟩;rw[qoF]at b;rw[qks];refine qEx (xC _) (by rw[zd b,wB]) ?_ ?_ ?_
   .grind [qyB]
   .grind [qs5]
   .intro i e r p a;let⟨g,d,j⟩:=JN b p;rw[List.getElem?_map,d]at a;simp at a;subst a;exact(m g (wc d) e j).1
  .cases b
 refine⟨?_,?_⟩
 .rw[JQ,o];exact .cons (.refl _) (.cons (.refl _) (.cons (.refl _) (.cons c.1 .nil)))
 .intro y f;simp at f;obtain rfl|rfl|rfl|rfl:=f
  .rfl
  .rfl
  .rfl
  .exact c.2
theorem QF.append:∀{a b c d:List AV},QF a b->QF c d->QF (a++c) (b++d)
 |_,_,_,_,.nil,g=>g
 |_,_,_,_,.cons h t,g=>.cons h (t.append g)
theorem Ty.size_pos:∀τ:Ty,0<τ.size
 |.int _|.bool|.str=>Nat.one_pos
 |.term=>by decide
 |.list _=>Nat.one_pos
 |.pair a b=>wC (Ty.size_pos a) (kJ _ _)
 |.one a=>Ty.size_pos a
 |.map _ _=>Nat.one_pos
theorem Qz{σ b a:Type}{p:List σ->Option (b×List σ)}{q:List σ->Option (a×List σ)}{cs:List σ}{v:b×a}{r:List σ}:qoL p q cs=some (v,r)↔∃c,p cs=some (v.1,c)/\q c=some (v.2,r):=by
 grind [qoL]
theorem qfy:∀(τ:Ty) {cs:List AV}{v:Val τ}{r:List AV} (s:List AV),yy τ cs=some (v,r)->yy τ (cs++s)=some (v,r++s)
 |.int k,cs,v,r,s,h=>by
   change JD k cs=_ at h;show JD k (cs++s)=_;unfold JD at h;grind [JD]
 |.bool,cs,v,r,s,h=>by
   change qcH cs=_ at h;unfold qcH at h;split at h<;>cases h;rfl
 |.str,cs,v,r,s,h=>by
   change qcY cs=_ at h;unfold qcY at h;split at h<;>cases h;rfl
 |.term,cs,v,r,s,h=>by
   change JF cs=_ at h;unfold JF at h;split at h<;>try cases h
   split at h<;>cases h;rename_i c;show JF _=_;grind [JF]
 |.list a,cs,v,r,s,h=>by
   change yD _ cs=_ at h;unfold yD at h;split at h<;>try cases h
   split at h<;>cases h;rename_i c;show yD _ _=_;grind [yD]
 |.pair a b,cs,v,r,s,h=>by
   let⟨f,e,d⟩:=Qz.1 h;exact Qz.2 ⟨_,qfy a s e,qfy b s d⟩
 |.one a,cs,v,r,s,h=>qfy a s h
 |.map a b,cs,v,r,s,h=>by
   change yD _ cs=_ at h;unfold yD at h;split at h<;>try cases h
   split at h<;>cases h;rename_i c;show yD _ _=_;grind [yD]
theorem qct{e d:Type}{a b:Ty}{f:List AV->Option e}{g:List AV->Option d}{x:AV}{l:List (e×d)}(h:dMc a b f g x=some l):∃ks vs,x=.mc (kcT a) a.agg b.agg ks vs/\qbg f g ks vs=some l:=by
 unfold dMc at h;split at h<;>try cases h
 split at h<;>try cases h
 rename_i c;rw[wb,wb]at c;rw[of_decide_eq_true c.1,qdr c.2.1,qdr c.2.2];exact⟨_,_,rfl,h⟩
theorem qDC{d c:Type}{a b:Ty}{f:List AV->Option d}{g:List AV->Option c}{ks vs:List (List AV)}:dMc a b f g (.mc (kcT a) a.agg b.agg ks vs)=qbg f g ks vs:=by
 have e:∀x,Qn x x=true:=λ x=>by cases x<;>rfl
 simp only[dMc,decide_true,e,kS]
theorem qPn{b:List KC}{c a:Bool}{ks vs:List (List AV)}(y:AV):Sub (.mc b c a ks vs) y:=λ Γ u h=>(qID h).elim
theorem z8:∀(τ:Ty) {cs:List AV}{v:Val τ}{r:List AV},yy τ cs=some (v,r)->∃pre,cs=pre++r/\pre.length=τ.size/\(∀x∈pre,qu x=true)/\QF pre (qd τ v)/\yy τ pre=some (v,[])
 |.int k,cs,v,r,h=>by
   change JD k cs=_ at h;unfold JD at h;split at h<;>try cases h
   split at h<;>cases h;rename_i g;have l:=of_decide_eq_true g;subst l;exact⟨[_],rfl,rfl,by simp[qu],.refl _,by show JD _ _=_;simp[JD]⟩
 |.bool,cs,v,r,h=>by
   change qcH cs=_ at h;unfold qcH at h;split at h<;>cases h;exact⟨[_],rfl,rfl,by simp[qu],.refl _,rfl⟩
 |.str,cs,v,r,h=>by
   change qcY cs=_ at h;unfold qcY at h;split at h<;>cases h;rename_i s;have D:(⟨s.data.toList.toArray⟩:ByteArray)=s:=by cases s;simp
   exact⟨[_],rfl,rfl,by simp[qu],by rw[qd,D];exact .refl _,rfl⟩
 |.term,cs,v,r,h=>by
   change JF cs=_ at h;unfold JF at h;split at h<;>try cases h
   split at h<;>cases h;rename_i c;let⟨o,m⟩:=qPE _ _ c;exact⟨_,rfl,rfl,m,o,by show JF _=_;simp only[JF,c]⟩
 |.list a,cs,v,r,h=>by
   change yD _ cs=_ at h;unfold yD at h;split at h<;>try cases h
   rename_i x A;split at h<;>cases h;rename_i c;refine⟨[x],rfl,rfl,?_,?_,by show yD _ _=_;simp only[yD,c]⟩
   .intro y f;simp at f;subst f;unfold je at c;split at c
    .rfl
    .rfl
    .cases c
   .rw[qd];refine .cons ?_ .nil;unfold je at c;split at c
    .grind [qBx,Ty.size_pos]
    .rename_i L es n;split at c
     .rename_i g;have g:=of_decide_eq_true g;subst g;refine qEx (xC _) (by rw[zd c,wB]) ?_ ?_ ?_
      .grind [ye]
      .grind [zo]
      .intro i e M E d;let⟨w,t,q⟩:=JN c E;rw[List.getElem?_map,t]at d;simp at d;subst d;let⟨pre,K,_,_,J,_⟩:=z8 a (qP.1 q);grind
     .cases c
    .cases c
 |.pair a b,cs,v,r,h=>by
   let⟨I,o,m⟩:=Qz.1 h;let⟨p,e1,C,t,z,H⟩:=z8 a o;let⟨j,F,B,q,u,G⟩:=z8 b m;refine⟨p++j,by rw[e1,F,wj],by rw[wd,C,B];rfl,?_,by rw[qd];exact z.append u,?_⟩
   .grind
   .exact Qz.2 ⟨j,by have:=qfy a j H;simpa using this,G⟩
 |.one a,cs,v,r,h=>z8 a h
 |.map a b,cs,v,r,h=>by
   change yD _ cs=_ at h;unfold yD at h;split at h<;>try cases h
   rename_i x A;split at h<;>cases h;rename_i c;refine⟨[x],rfl,rfl,?_,?_,by show yD _ _=_;simp only[yD,c]⟩
   .obtain⟨ks,vs,rfl,_⟩:=qct c;intro y f;simp at f;subst f;rfl
   .obtain⟨ks,vs,rfl,_⟩:=qct c;rw[qd];exact .cons (qPn _) .nil
theorem qIG(t:T):Q3 (JQ t)=some t:=by
 refine T.ind (P:=λ t=>Q3 (JQ t)=some t) ?_ t;intro t c;let⟨k,n,s,l⟩:=t
 have:qv6 (qpm l)=some l:=by
  rw[qoF,qks];have c:∀x∈l,Q3 (JQ x)=some x:=c
  have a:∀m:List T,(∀x∈m,Q3 (JQ x)=some x)->zg Q3 (m.map JQ)=some m:=by
   intro m
   induction m with
   |nil=>intro _;rfl
   |cons x m b=>intro h;exact yW.2 ⟨x,m,h x (wi ..),b λ y d=>h y (wg _ d),rfl⟩
  exact a l c
 rw[JQ,Q3,qjA,this]
theorem qc2:∀(τ:Ty) (v:Val τ),yy τ (qd τ v)=some (v,[])
 |.int k,v=>by show JD k [_]=_;simp[JD]
 |.bool,v=>rfl
 |.str,v=>by show qcY _=_;simp[qcY,qd]
 |.term,t=>by
   have:=qy5 (JQ t);rw[qIG]at this;exact qP.1 this
 |.list a,l=>by
   have c:zg (λ e=>full (yy a e)) (l.map (qd a))=some l:=qbA (λ v=>by rw[qc2 a v];rfl) l;show yD _ [_]=_;grind [yD,je,zk]
 |.pair a b,v=>Qz.2 ⟨_,qfy a _ (qc2 a v.1),by rw[kX];exact qc2 b v.2⟩
 |.one a,v=>qc2 a v
 |.map a b,l=>by
   have c:∀l:List (Val a×Val b),qbg (λ e=>full (yy a e)) (λ e=>full (yy b e)) (l.map λ p=>qd a p.1) (l.map λ p=>qd b p.2)=some l:=by
    intro l
    induction l with
    |nil=>rfl
    |cons p l d=>
      have e1:full (yy a (qd a p.1))=some p.1:=by rw[qc2 a p.1];rfl
      have f:full (yy b (qd b p.2))=some p.2:=by rw[qc2 b p.2];rfl
      simp only[wv,qbg,e1,f,d]
   show yD _ [_]=_;simp only[yD,qDC,c]
theorem qsq:∀(j:Ty) {cs:List AV}{v:Val j}{r:List AV},yy j cs=some (v,r)->∃pre,cs=pre++r/\((∀x∈pre,∃c,yh [c] [x]=true)->pre=qd j v)
 |.int k,cs,v,r,h=>by
   change JD k cs=_ at h;unfold JD at h;split at h<;>try cases h
   split at h<;>cases h;rename_i y;exact⟨[_],rfl,λ _=>by rw[of_decide_eq_true y];rfl⟩
 |.bool,cs,v,r,h=>by
   change qcH cs=_ at h;unfold qcH at h;split at h<;>cases h;exact⟨[_],rfl,λ _=>rfl⟩
 |.str,cs,v,r,h=>by
   change qcY cs=_ at h;unfold qcY at h;split at h<;>cases h;rename_i s;have w:(⟨s.data.toList.toArray⟩:ByteArray)=s:=by cases s;simp
   exact⟨[_],rfl,λ _=>by rw[qd,w]⟩
 |.term,cs,v,r,h=>by
   change JF cs=_ at h;unfold JF at h;split at h<;>try cases h
   split at h<;>cases h;rename_i f;obtain⟨k,n,s,x,l,e,i,rfl⟩:=qiH f;cases e;refine⟨[_,_,_,_],rfl,λ d=>?_⟩;let⟨c,g⟩:=d _ (wg _ (wg _ (wg _ (wi ..))));unfold qjA at i;split at i<;>(try cases i)<;>cases c<;>cases g
 |.list a,cs,v,r,h=>by
   change yD _ cs=_ at h;unfold yD at h;split at h<;>try cases h
   rename_i x o;split at h<;>cases h;rename_i f;refine⟨[x],rfl,λ d=>?_⟩;let⟨c,g⟩:=d x (by simp);unfold je at f;split at f<;>(try cases f)<;>cases c<;>cases g
 |.pair a b,cs,v,r,h=>by
   let⟨B,i,z⟩:=Qz.1 h;let⟨p,e1,u⟩:=qsq a i;let⟨q,A,t⟩:=qsq b z;exact⟨p++q,by rw[e1,A,wj],λ d=>by rw[qd,u λ x m=>d x (wk.2 (.inl m)),t λ x m=>d x (wk.2 (.inr m))]⟩
 |.one a,cs,v,r,h=>qsq a h
 |.map a b,cs,v,r,h=>by
   change yD _ cs=_ at h;unfold yD at h;split at h<;>try cases h
   rename_i x o;split at h<;>cases h;rename_i f;refine⟨[x],rfl,λ d=>?_⟩;let⟨c,g⟩:=d x (by simp);obtain⟨ks,vs,rfl,_⟩:=qct f;cases c<;>cases g
theorem qCO:∀{b:List KC}{k:List AV},yh b k=true->∀x∈k,∃c,yh [c] [x]=true
 |[],[],_,x,a=>by cases a
 |[],_::_,h,_,_=>by cases h
 |c::b,k,h,x,a=>by
   obtain⟨y,r,rfl,e,d⟩:=qes h;obtain rfl|a:=ww.1 a
   .exact⟨c,e⟩
   .exact qCO d x a
theorem qNe{a:Ty}{b:List KC}{k:List AV}{v:Val a}(h:qD a k=some v)(c:yh b k=true):k=qd a v:=by
 let⟨pre,e,o⟩:=qsq a (qP.1 h);grind [qCO]
theorem qk1{d c:Type}{f:List AV->Option d}{g:List AV->Option c}:∀{ks vs:List (List AV)}{l:List (d×c)},qbg f g ks vs=some l->ks.length=l.length/\vs.length=l.length
 |[],[],l,h=>by cases h;exact⟨rfl,rfl⟩
 |[],_::_,l,h|_::_,[],l,h=>by cases h
 |k::ks,v::vs,l,h=>by
   simp only[qbg]at h;split at h<;>try cases h
   split at h<;>cases h;rename_i e;let⟨a,b⟩:=qk1 e;simp[a,b]
theorem quq{i e:Type}{f:List AV->Option i}{g:List AV->Option e}:∀{ks vs:List (List AV)}{l:List (i×e)},qbg f g ks vs=some l->∀{j:Nat}{k v:List AV},ks[j]?=some k->vs[j]?=some v->∃p,l[j]?=some p/\f k=some p.1/\g v=some p.2
 |[],[],l,h,j,k,v,c,d=>by simp at c
 |[],_::_,l,h,_,_,_,_,_|_::_,[],l,h,_,_,_,_,_=>by cases h
 |k::ks,v::vs,l,h,j,r,q,c,d=>by
   simp only[qbg]at h;split at h<;>try cases h
   rename_i a b o n;split at h<;>cases h;rename_i m;cases j with
   |zero=>simp at c d;subst c;subst d;exact⟨_,rfl,o,n⟩
   |succ j=>exact quq m (by simpa using c) (by simpa using d)
abbrev waK:=@Ty.size_pos
end Go.AmZ
namespace Go.AmZ
open Go Go.RowKit Go.GxZ
structure Mp where
 b:Nat->Nat
 nb:Nat
 r:Nat->Option Nat
 v:Nat->Nat
 q:Nat->List (List AV)
 rw:List qK
def mp0:Mp:=⟨λ _=>0,0,λ _=>none,λ _=>0,λ _=>[],[]⟩
def lvl:AV->Nat
 |.v _=>2
 |.sl _ _ n=>n
 |_=>0
def JI(r:Option Nat)(v:Nat)(τ:Ty)(l:List (Val τ))(y:AV):Prop:=match r with
 |some r=>y=.rs r 0 l.length v false
 |none=>dlist τ y=some l/\2<=lvl y
def qul(y:AV):Prop:=y=.v (.slice none 0 0)\/(∃k es n,y=.sl k es n)\/∃r lo n a f,y=.rs r lo n a f
theorem qJk{τ:Ty}{y:AV}{l:List (Val τ)}(h:dlist τ y=some l):qul y:=by
 unfold dlist je at h;split at h
 .exact .inl rfl
 .exact .inr (.inl ⟨_,_,_,rfl⟩)
 .cases h
theorem JI.ish{r:Option Nat}{v:Nat}{τ:Ty}{l:List (Val τ)}{y:AV}(h:JI r v τ l y):qul y:=by
 cases r with
 |some r=>exact .inr (.inr ⟨_,_,_,_,_,h⟩)
 |none=>exact qJk h.1
def quK(m:Mp)(id a:Nat)(y:AV):Prop:=
 ∃R,m.rw[id]?=some R/\a<=R.ver/\qul y/\(R.ver=a->JI (m.r id) (m.v id) R.τ R.l y)
mutual
def OK(m:Mp):TV->AV->Prop
 |.i k n,y=>y=.v (.int k n)
 |.b x,y=>y=.v (.bool x)
 |.s x,y=>y=.v (.string ⟨x.toArray⟩)
 |.c v,y=>zx v=true/\y=.v v
 |.nil,y=>y=.v (.slice none 0 0)
 |.sl τ l g,y=>dlist τ y=some l/\g<=lvl y
 |.row id a,y=>quK m id a y
 |.ptr b o,y=>b<m.nb/\y=.ptr (m.b b) o
 |.pti b i,y=>b<m.nb/\0<=i/\y=.ptr (m.b b) i.toNat
 |.rpt id a d i cs o,y=>∃R,m.rw[id]?=some R/\a<=R.ver/\d<=R.sv/\((∃r j h,y=.rpt r j o h)\/∃ds,y=.ept ds o)/\(R.ver=a->(∃r j,m.r id=some r/\y=.rpt r j o (m.v id)/\i=((j:Nat):Int)/\j<R.l.length/\(R.sv=d->∃ds,(m.q id)[j]?=some ds/\OKL m cs ds))\/(m.r id=none/\0<R.l.length/\(R.sv=d->∃ds,y=.ept ds o/\OKL m cs ds)))
 |.ept cs o,y=>∃ds,y=.ept ds o/\OKL m cs ds
 |.fn f cs,y=>∃ds,y=.fn f ds/\OKL m cs ds
 |.agg cs,y=>∃ds,y=.agg ds/\OKL m cs ds
 |.tup cs,y=>∃ds,y=.tup ds/\OKL m cs ds
 |.dead,_=>True
 |.mp b,y=>b<m.nb/\y=.mp (m.b b)
 |.mc e τ l,y=>dMc e τ (qD e) (qD τ) y=some l
def OKL(m:Mp):List TV->List AV->Prop
 |[],ys=>ys=[]
 |x::xs,ys=>∃y r,ys=y::r/\OK m x y/\OKL m xs r
end
structure MLe (m m':Mp):Prop where
 nb:m.nb<=m'.nb
 b:∀i,i<m.nb->m'.b i=m.b i
 row:∀id R,m.rw[id]?=some R->∃R',m'.rw[id]?=some R'/\R.ver<=R'.ver/\R.sv<=R'.sv/\(R'.ver=R.ver->R'.l.length=R.l.length/\m'.r id=m.r id/\m'.v id=m.v id/\R'.τ=R.τ/\(R'.sv=R.sv->m'.q id=m.q id)/\(m.r id=none->∀y,dlist R.τ y=some R.l->dlist R'.τ y=some R'.l))
theorem MLe.refl(m:Mp):MLe m m:=⟨wa _,λ _ _=>rfl,λ _ R h=>⟨R,h,wa _,wa _,λ _=>⟨rfl,rfl,rfl,rfl,λ _=>rfl,λ _ _ h=>h⟩⟩⟩
theorem MLe.trans{a b c:Mp}(h:MLe a b)(g:MLe b c):MLe a c where
 nb:=wD h.nb g.nb
 b:=λ i f=>(g.b i (wC f h.nb)).trans (h.b i f)
 row:=λ id R l=>by
  let⟨d,p,o,n,m⟩:=h.row id R l;let⟨R2,s,r,g3,q⟩:=g.row id d p;refine⟨R2,s,wD o r,wD n g3,λ H=>?_⟩;have e1:d.ver=R.ver:=by omega
  have t:R2.ver=d.ver:=by omega
  let⟨F,j,E,D,C,B⟩:=m e1;let⟨A,z,x,w,v,u⟩:=q t;exact⟨A.trans F,z.trans j,x.trans E,w.trans D,λ G=>(v (by omega)).trans (C (by omega)),λ e y k=>u (j.trans e) y (B e y k)⟩
theorem quK.mono{m m':Mp}(g:MLe m m'){id f:Nat}{y:AV}(h:quK m id f y):quK m' id f y:=by
 let⟨R,n,j,i,e⟩:=h;let⟨R',p,o,_,g3⟩:=g.row id R n;refine⟨R',p,wD j o,i,λ q=>?_⟩;have e1:R'.ver=R.ver:=by omega
 let⟨a,b,c,d,_,k⟩:=g3 e1;have e:=e (by omega);rw[b,c];revert e k;cases m.r id with
 |some r=>
   intro _ e;show y=.rs r 0 R'.l.length (m.v id) false;rw[a];exact e
 |none=>intro k e;exact⟨k rfl y e.1,e.2⟩
mutual
theorem OK.mono{m m':Mp}(e:MLe m m'):∀{x:TV}{y:AV},OK m x y->OK m' x y
 |.i ..,y,h|.b ..,y,h|.s ..,y,h|.c ..,y,h|.nil,y,h|.sl ..,y,h=>h
 |.row ..,y,h=>quK.mono e h
 |.ptr b o,y,h=>⟨wC h.1 e.nb,by rw[e.b _ h.1];exact h.2⟩
 |.pti b i,y,h=>⟨wC h.1 e.nb,h.2.1,by rw[e.b _ h.1];exact h.2.2⟩
 |.rpt id w G _ cs o,y,h=>by
   let⟨R,k,g,u,D,C⟩:=h;let⟨R',F,E,v,g3⟩:=e.row id R k;refine⟨R',F,wD g E,wD u v,D,λ H=>?_⟩;have e1:R'.ver=R.ver:=by omega
   let⟨a,b,c,_,d,_⟩:=g3 e1;obtain⟨r,j,t,z,A,q,p⟩|⟨t,q,p⟩:=C (by omega)
   .refine .inl ⟨r,j,b.trans t,by rw[c];exact z,A,by rw[a];exact q,λ B=>?_⟩;let⟨ds,n,l⟩:=p (by omega);exact⟨ds,by rw[d (by omega)];exact n,OKL.mono e l⟩
   .refine .inr ⟨b.trans t,by rw[a];exact q,λ B=>?_⟩;let⟨ds,n,l⟩:=p (by omega);exact⟨ds,n,OKL.mono e l⟩
 |.ept cs o,y,⟨ds,k,g⟩|.fn f cs,y,⟨ds,k,g⟩|.agg cs,y,⟨ds,k,g⟩|.tup cs,y,⟨ds,k,g⟩=>⟨ds,k,OKL.mono e g⟩
 |.dead,y,h=>trivial
 |.mp b,y,h=>⟨wC h.1 e.nb,by rw[e.b _ h.1];exact h.2⟩
 |.mc ..,y,h=>h
theorem OKL.mono{m m':Mp}(a:MLe m m'):∀{xs:List TV}{ys:List AV},OKL m xs ys->OKL m' xs ys
 |[],ys,h=>h
 |x::xs,ys,⟨y,r,d,c,b⟩=>⟨y,r,d,OK.mono a c,OKL.mono a b⟩
end
theorem qM8{m:Mp}{R:qK}{id a o:Nat}{i:Int}{cs:List TV}{y:AV}(h:(∃r j,m.r id=some r/\y=.rpt r j o (m.v id)/\i=((j:Nat):Int)/\j<R.l.length/\(R.sv=a->∃ds,(m.q id)[j]?=some ds/\OKL m cs ds))\/(m.r id=none/\0<R.l.length/\(R.sv=a->∃ds,y=.ept ds o/\OKL m cs ds)))(b:R.sv=a):
  (∃r j ds,m.r id=some r/\y=.rpt r j o (m.v id)/\i=((j:Nat):Int)/\j<R.l.length/\(m.q id)[j]?=some ds/\OKL m cs ds)\/∃ds,m.r id=none/\y=.ept ds o/\0<R.l.length/\OKL m cs ds:=by
 grind
theorem OKL.nil(m:Mp):OKL m [] []:=rfl
theorem OKL.cons{m:Mp}{x:TV}{y:AV}{xs:List TV}{ys:List AV}(h:OK m x y)(g:OKL m xs ys):OKL m (x::xs) (y::ys):=⟨y,ys,rfl,h,g⟩
theorem OKL.len{m:Mp}:∀{xs:List TV}{ys:List AV},OKL m xs ys->ys.length=xs.length
 |[],_,h=>by cases h;rfl
 |_::_,_,⟨_,_,rfl,_,h⟩=>by simp[h.len]
theorem OKL.get{m:Mp}:∀{xs:List TV}{ys:List AV},OKL m xs ys->∀{i:Nat}{x:TV},xs[i]?=some x->∃y,ys[i]?=some y/\OK m x y
 |[],_,_,i,x,a=>by simp at a
 |_::_,_,⟨y,r,rfl,c,b⟩,0,x,a=>by simp at a;subst a;exact⟨y,rfl,c⟩
 |_::_,_,⟨y,r,rfl,c,b⟩,i+1,x,a=>by simpa using b.get (by simpa using a)
theorem OKL.append{m:Mp}:∀{xs:List TV}{ys:List AV}{b:List TV}{a:List AV},OKL m xs ys->OKL m b a->OKL m (xs++b) (ys++a)
 |[],_,_,_,h,g=>by cases h;exact g
 |_::_,_,_,_,⟨y,r,rfl,d,c⟩,g=>⟨y,_,rfl,d,c.append g⟩
theorem OKL.take{m:Mp}(n:Nat):∀{xs:List TV}{ys:List AV},OKL m xs ys->OKL m (xs.take n) (ys.take n):=by
 induction n with
 |zero=>intro xs ys _;simp;exact rfl
 |succ n a=>
   intro xs ys h;cases xs with
   |nil=>cases h;exact rfl
   |cons x xs=>obtain⟨y,r,rfl,c,b⟩:=h;exact⟨y,_,rfl,c,a b⟩
theorem OKL.drop{m:Mp}(n:Nat):∀{xs:List TV}{ys:List AV},OKL m xs ys->OKL m (xs.drop n) (ys.drop n):=by
 induction n with
 |zero=>intro xs ys h;simpa using h
 |succ n a=>
   intro xs ys h;cases xs with
   |nil=>cases h;exact rfl
   |cons x xs=>obtain⟨y,r,rfl,c,b⟩:=h;simpa using a b
theorem OKL.split{m:Mp}:∀{xs c:List TV}{ys:List AV},OKL m (xs++c) ys->∃a b,ys=a++b/\OKL m xs a/\OKL m c b
 |[],_,ys,h=>⟨[],ys,rfl,rfl,h⟩
 |_::_,_,_,⟨y,r,rfl,g,f⟩=>by
   obtain⟨a,b,rfl,e,d⟩:=f.split;exact⟨y::a,b,rfl,⟨y,a,rfl,g,e⟩,d⟩
theorem qy6{m:Mp}{v:Value}(h:zx v=true):OK m (qck v) (.v v):=by
 unfold qck;split
 .exact rfl
 .exact rfl
 .rename_i s;show AV.v (.string s)=.v (.string ⟨s.data.toList.toArray⟩);cases s;simp
 .exact rfl
 .rw[h];exact⟨h,rfl⟩
theorem qeB{m:Mp}:∀{l:List Value},l.all zx=true->OKL m (l.map qck) (l.map .v)
 |[],_=>rfl
 |x::l,h=>by
   rw[km,wb]at h;exact⟨_,_,rfl,qy6 h.1,qeB h.2⟩
theorem jS{m:Mp}(v:Value):OK m (qck v) (ofC v):=by
 unfold ofC;cases h:zx v with
 |true=>exact qy6 h
 |false=>
   have:qck v=.dead:=by
    unfold qck;grind [zx]
   rw[this];trivial
theorem qGJ{m:Mp}(v:Value):OK m (qA1 v) (qsp v):=by
 cases v with
 |agg cs=>
   show OK m (match cs.toList.all zx with|true=>TV.agg (cs.toList.map qck)|false=>.dead) (match cs.toList.all zx with|true=>.agg (cs.toList.map .v)|false=>.dead);cases h:cs.toList.all zx with
   |true=>exact⟨_,rfl,qeB h⟩
   |false=>trivial
 |tuple vs=>
   show OK m (match vs.toList with|[]=>TV.tup []|_=>.dead) (match vs.toList with|[]=>.tup []|_=>.dead);cases vs.toList with
   |nil=>exact⟨_,rfl,rfl⟩
   |cons a l=>trivial
 |bool b=>exact jS (.bool b)
 |int k n=>exact jS (.int k n)
 |float k n=>exact jS (.float k n)
 |complex k a b=>exact jS (.complex k a b)
 |string s=>exact jS (.string s)
 |pointer a=>exact jS (.pointer a)
 |slice a n c=>exact jS (.slice a n c)
 |map r=>exact jS (.map r)
 |chan r=>exact jS (.chan r)
 |func f a b=>exact jS (.func f a b)
 |nilFunc=>exact jS (.nilFunc)
 |iface t v=>exact jS (.iface t v)
 |nilIface=>exact jS (.nilIface)
def JB(σ:St)(R:qK)(b:Option Nat)(a:Nat)(d:List (List AV)):Prop:=match b with
 |some r=>∃Q,σ.rw[r]?=some Q/\Q.c=d/\Q.ver=a/\Q.k=R.τ.size/\zg (qD R.τ) Q.c=some R.l/\Q.fz<=Q.c.length/\(R.sh=false->Q.fz=0/\Q.off=false)
 |none=>R.sh=false->R.l=[]
def yR(m:Mp)(σ:St):Prop:=∀id R,m.rw[id]?=some R->JB σ R (m.r id) (m.v id) (m.q id)
structure Rel (N:Nat×Nat) (m:Mp) (E:Env) (τ:TS) (tm:List AV) (σ:St):Prop where
 len:tm.length=N.1
 env:∀t,OK m (get E t) (tm.getD t .dead)
 rw:m.rw=τ.rw
 nb:m.nb=τ.bx.length
 box:∀b cs,τ.bx[b]?=some cs->∃ds,σ.bx[m.b b]?=some ds/\OKL m cs ds
 inj:∀b b',b<m.nb->b'<m.nb->m.b b=m.b b'->b=b'
 rows:yR m σ
 rinj:∀id id' r,id<m.rw.length->id'<m.rw.length->m.r id=some r->m.r id'=some r->id=id'
 pin:∀i,i<N.2->i<m.nb/\m.b i=i
theorem qud{m m':Mp}{n:Nat}(c:MLe m m')(h:∀i,i<n->i<m.nb/\m.b i=i):∀i,i<n->i<m'.nb/\m'.b i=i:=λ i a=>
 ⟨wC (h i a).1 c.nb,(c.b i (h i a).1).trans (h i a).2⟩
theorem Rel.ev{N:Nat×Nat}{m:Mp}{E:Env}{τ:TS}{a:List AV}{σ:St}(h:Rel N m E τ a σ)(x:Operand):OK m (evT E x) (aev a x):=by
 cases x with
 |tmp t=>exact h.env t
 |const v=>exact qGJ v
 |func f=>exact⟨_,rfl,rfl⟩
 |global g=>trivial
theorem Rel.evs{N:Nat×Nat}{m:Mp}{E:Env}{τ:TS}{a:List AV}{σ:St}(h:Rel N m E τ a σ):∀l:List Operand,OKL m (l.map (evT E)) (l.map (aev a))
 |[]=>rfl
 |x::l=>⟨_,_,rfl,h.ev x,h.evs l⟩
theorem yL{τ:Ty}{y:AV}{l:List (Val τ)}(h:dlist τ y=some l):y=.v (.slice none 0 0)/\l=[]\/∃es n,y=.sl τ.size es (n+1)/\zg (qD τ) es=some l:=by
 unfold dlist je at h;split at h
 .grind
 .rename_i k es n;split at h
  .rename_i a;have:=of_decide_eq_true a;simp_all
  .cases h
 .cases h
theorem OK.one{m:Mp}{x:TV}{y:AV}(h:OK m x y)(d:qhN x=true):isC y=true/\jz x=[x]/\cellsOf y=[y]:=by
 cases x with
 |i|b|s=>cases h;exact⟨rfl,rfl,rfl⟩
 |c=>obtain⟨_,rfl⟩:=h;exact⟨rfl,rfl,rfl⟩
 |nil=>cases h;exact⟨rfl,rfl,rfl⟩
 |sl τ l p=>
   let⟨h,_⟩:=h;obtain⟨rfl,_⟩|⟨es,n,rfl,_⟩:=yL h<;>exact⟨rfl,rfl,rfl⟩
 |row id a=>
   let⟨R,_,_,h,_⟩:=h;obtain rfl|⟨k,es,j,rfl⟩|⟨r,lo,n,e,f,rfl⟩:=h<;>exact⟨rfl,rfl,rfl⟩
 |ptr b o=>obtain⟨_,rfl⟩:=h;exact⟨rfl,rfl,rfl⟩
 |pti b i=>obtain⟨_,_,rfl⟩:=h;exact⟨rfl,rfl,rfl⟩
 |rpt id a g i cs o=>let⟨R,_,_,_,h,_⟩:=h;obtain⟨r,i,e,rfl⟩|⟨ds,rfl⟩:=h<;>exact⟨rfl,rfl,rfl⟩
 |ept cs o|fn f cs=>obtain⟨ds,rfl,_⟩:=h;exact⟨rfl,rfl,rfl⟩
 |agg cs|tup cs|dead=>simp[qhN]at d
 |mp b=>obtain⟨_,rfl⟩:=h;exact⟨rfl,rfl,rfl⟩
 |mc=>obtain⟨ks,vs,rfl,_⟩:=qct h;exact⟨rfl,rfl,rfl⟩
theorem OKL.allC{m:Mp}:∀{xs:List TV}{ys:List AV},OKL m xs ys->xs.all qhN=true->ys.all isC=true
 |[],_,h,_=>by cases h;rfl
 |x::xs,_,⟨y,r,rfl,b,a⟩,h=>by
   rw[km,wb]at h;rw[km,(b.one h.1).1,a.allC h.2];rfl
theorem OK.cells{m:Mp}{x:TV}{y:AV}(h:OK m x y)(e:(jz x).all qhN=true):OKL m (jz x) (cellsOf y)/\(cellsOf y).all isC=true:=by
 have d:qhN x=true->OKL m (jz x) (cellsOf y)/\(cellsOf y).all isC=true:=by
  intro g;let⟨a,b,c⟩:=h.one g;rw[b,c];exact⟨⟨y,[],rfl,h,rfl⟩,by simp[a]⟩
 cases x with
 |agg cs=>
   obtain⟨ds,rfl,f⟩:=h;exact⟨f,f.allC e⟩
 |tup cs|dead=>simp[jz,qhN]at e
 |_=>exact d rfl
theorem qIJ{x:AV}{l:List T}(h:qjA x=some l):1<=lvl x:=by
 unfold qjA at h;split at h
 .exact ko _
 .exact xz (we _)
 .cases h
theorem qmf{τ:Ty}{y:AV}{l:List (Val τ)}(h:dlist τ y=some l):1<=lvl y:=by
 obtain⟨rfl,_⟩|⟨es,n,rfl,_⟩:=yL h
 .exact ko _
 .exact xz (we _)
theorem qoT{m:Mp}:∀(τ:Ty) {cs:List AV}{v:Val τ}{r:List AV},yy τ cs=some (v,r)->∃pre,cs=pre++r/\OKL m (JR τ v) pre
 |.int k,cs,v,r,h=>by
   change JD k cs=_ at h;unfold JD at h;split at h<;>try cases h
   split at h<;>cases h;rename_i o;have e:=of_decide_eq_true o;subst e;exact⟨[_],rfl,⟨_,_,rfl,rfl,rfl⟩⟩
 |.bool,cs,v,r,h=>by
   change qcH cs=_ at h;unfold qcH at h;split at h<;>cases h;exact⟨[_],rfl,⟨_,_,rfl,rfl,rfl⟩⟩
 |.str,cs,v,r,h=>by
   change qcY cs=_ at h;unfold qcY at h;split at h<;>cases h;rename_i s;exact⟨[_],rfl,⟨_,_,rfl,by show AV.v (.string s)=.v (.string ⟨s.data.toList.toArray⟩);cases s;simp,rfl⟩⟩
 |.term,cs,v,r,h=>by
   change JF cs=_ at h;unfold JF at h;split at h<;>try cases h
   split at h<;>cases h;rename_i c;obtain⟨k,n,s,x,l,j,d,rfl⟩:=qiH c;cases j;refine⟨_,rfl,⟨_,_,rfl,rfl,_,_,rfl,?_,_,_,rfl,rfl,_,_,rfl,⟨?_,qIJ d⟩,rfl⟩⟩
   .show AV.v (.string n)=.v (.string ⟨n.data.toList.toArray⟩);cases n;simp
   .rw[qjZ];exact d
 |.list a,cs,v,r,h=>by
   change yD _ cs=_ at h;unfold yD at h;split at h<;>try cases h
   split at h<;>cases h;rename_i c;have c:dlist a _=some v:=c;exact⟨[_],rfl,⟨_,_,rfl,⟨c,qmf c⟩,rfl⟩⟩
 |.pair a b,cs,v,r,h=>by
   let⟨u,d,q⟩:=Qz.1 h;let⟨p,e1,i⟩:=qoT (m:=m) a d;let⟨f,t,g⟩:=qoT (m:=m) b q;exact⟨p++f,by rw[e1,t,wj],i.append g⟩
 |.one a,cs,v,r,h=>qoT (m:=m) a h
 |.map a b,cs,v,r,h=>by
   change yD _ cs=_ at h;unfold yD at h;split at h<;>try cases h
   split at h<;>cases h;rename_i c;exact⟨[_],rfl,⟨_,_,rfl,c,rfl⟩⟩
theorem j7{m:Mp}{τ:Ty}{e:List AV}{v:Val τ}(h:qD τ e=some v):OKL m (JR τ v) e:=by
 let⟨pre,b,a⟩:=qoT (m:=m) τ (qP.1 h);grind
theorem jR(τ:Ty)(v:Val τ):qD τ (qd τ v)=some v:=qP.2 (qc2 τ v)
theorem qrT{m:Mp}:∀(τ:Ty) (v:Val τ),OK m (qkT τ v) (yH τ v)
 |.int k,v|.bool,v|.str,v=>rfl
 |.list a,v=>by
   have h:OKL m (JR (.list a) v) (qd (.list a) v):=j7 (jR (.list a) v);let⟨y,r,d,c,_⟩:=h;cases d;exact c
 |.term,v=>⟨_,rfl,j7 (jR .term v)⟩
 |.pair a b,v=>⟨_,rfl,j7 (jR (.pair a b) v)⟩
 |.one a,v=>⟨_,rfl,j7 (jR (.one a) v)⟩
 |.map a b,v=>by
   have h:OKL m (JR (.map a b) v) (qd (.map a b) v):=j7 (jR (.map a b) v);let⟨y,r,d,c,_⟩:=h;cases d;exact c
end Go.AmZ
namespace Go.AmZ
open Go Go.RowKit Go.GxZ
def qPJ(τ:TS):Option TS->TS
 |none=>τ
 |some a=>a
def Sim{α:Type}(N:Nat×Nat)(m:Mp)(E:Env)(τ:TS)(tm:List AV)(σ:St)(K:KT α)(r:α)(p:Option (AV×Option St)):Prop:=
 ∃x a y σ' m',K x a=some r/\p=some (y,σ')/\MLe m m'/\Rel N m' E (qPJ τ a) tm (turn σ σ')/\OK m' x y/\(a=none->σ'=none)
section
variable {α:Type}{N:Nat×Nat}{m:Mp}{E:Env}{τ:TS}{tm:List AV}{σ:St}{K:KT α}{r:α}{p:Option (AV×Option St)}
theorem Sim.same{x:TV}{y:AV}(a:Rel N m E τ tm σ)(h:K x none=some r)(b:p=some (y,none))(c:OK m x y):Sim N m E τ tm σ K r p:=
 ⟨x,none,y,none,m,h,b,.refl m,a,c,λ _=>rfl⟩
theorem Sim.to{x:TV}{y:AV}{a:TS}{σ':St}{m':Mp}(h:K x (some a)=some r)(b:p=some (y,some σ'))(e:MLe m m')(d:Rel N m' E a tm σ')(c:OK m' x y):Sim N m E τ tm σ K r p:=
 ⟨x,some a,y,some σ',m',h,b,e,d,c,λ h=>by cases h⟩
theorem Rel.box_lt(a:Rel N m E τ tm σ){b:Nat}(h:b<m.nb):m.b b<σ.bx.length:=by
 rw[a.nb]at h;let⟨ds,c,_⟩:=a.box b _ (List.getElem?_eq_getElem h);exact getElem?_lt c
theorem Rel.alloc(a:Rel N m E τ tm σ){cs:List TV}{ds:List AV}(q:OKL m cs ds):
  ∃m',MLe m m'/\Rel N m' E {τ with bx:=τ.bx++[cs]} tm {σ with bx:=σ.bx++[ds]}/\OK m' (.ptr τ.bx.length 0) (.ptr σ.bx.length 0):=by
 have c:MLe m {m with b:=λ i=>if i=m.nb then σ.bx.length else m.b i,nb:=m.nb+1}:=
  ⟨ko _,λ i p=>if_neg (vB p),λ id R h=>⟨R,h,wa _,wa _,λ _=>⟨rfl,rfl,rfl,rfl,λ _=>rfl,λ _ _ h=>h⟩⟩⟩
 refine⟨_,c,?_,?_⟩
 .refine⟨a.len,λ t=>(a.env t).mono c,a.rw,by show m.nb+1=_;rw[a.nb];simp,?_,?_,a.rows,a.rinj,qud c a.pin⟩
  .intro b cs' d;show ∃e,(σ.bx++[ds])[if b=m.nb then σ.bx.length else m.b b]?=some e/\_;by_cases j:b<τ.bx.length
   .rw[List.getElem?_append_left j]at d;let⟨e,o,r⟩:=a.box b cs' d;rw[if_neg (by rw[a.nb];omega),List.getElem?_append_left (getElem?_lt o)];exact⟨e,o,r.mono c⟩
   .have k:b<(τ.bx++[cs]).length:=getElem?_lt d;simp at k;have l:b=τ.bx.length:=by omega
    subst l;simp at d;subst d;rw[if_pos a.nb.symm];exact⟨ds,by simp,q.mono c⟩
  .intro b f d n g;change b<m.nb+1 at d;change f<m.nb+1 at n;change (if b=m.nb then σ.bx.length else m.b b)=(if f=m.nb then σ.bx.length else m.b f)at g;split at g<;>split at g
   .omega
   .have:=a.box_lt (b:=f) (by omega);omega
   .have:=a.box_lt (b:=b) (by omega);omega
   .exact a.inj b f (by omega) (by omega) g
 .refine⟨?_,?_⟩
  .show τ.bx.length<m.nb+1;rw[a.nb];exact xy _
  .show AV.ptr σ.bx.length 0=.ptr (if τ.bx.length=m.nb then σ.bx.length else m.b τ.bx.length) 0;rw[if_pos a.nb.symm]
theorem Rel.setBox(a:Rel N m E τ tm σ){b:Nat}{cs:List TV}{ds:List AV}(g:b<m.nb)(k:OKL m cs ds)(w:List Nat):Rel N m E {τ with bx:=τ.bx.set b cs} tm {σ with bx:=σ.bx.set (m.b b) ds,wr:=w}:=by
 refine⟨a.len,a.env,a.rw,by rw[a.nb];simp,?_,a.inj,a.rows,a.rinj,a.pin⟩;intro i cs' d;have c:i<m.nb:=by rw[a.nb];have:=getElem?_lt d;simpa using this
 by_cases f:i=b
 .subst f;have e:i<τ.bx.length:=by rw[<-a.nb];exact c
  simp only[List.getElem?_set_self e,wz]at d;subst d;exact⟨ds,by simp only[List.getElem?_set_self (a.box_lt g)],k⟩
 .simp only[List.getElem?_set_ne (xU f)]at d;let⟨l,p,o⟩:=a.box i cs' d;have j:m.b b≠m.b i:=λ h=>f (a.inj _ _ c g h.symm);grind
theorem Rel.rowsTo(a:Rel N m E τ tm σ){σ':St}(c:σ'.bx=σ.bx)(b:yR m σ'):Rel N m E τ tm σ':=
 ⟨a.len,a.env,a.rw,a.nb,by rw[c];exact a.box,a.inj,b,a.rinj,a.pin⟩
theorem qKU{r:Nat}{Q:Row}(f:Q.fz<=Q.c.length):∀(e:List Nat) {rw:List Row},rw[r]?=some Q->∃d,(frz rw e)[r]?=some d/\d.c=Q.c/\d.k=Q.k/\d.ver=Q.ver/\d.fz<=d.c.length:=by
 intro e
 induction e generalizing Q with
 |nil=>intro rw h;exact⟨Q,h,rfl,rfl,rfl,f⟩
 |cons a e n=>
   intro rw h
   have:∃b,(rw.modify a qk8)[r]?=some b/\b.c=Q.c/\b.k=Q.k/\b.ver=Q.ver/\b.fz<=b.c.length:=by
    rw[List.getElem?_modify,h];by_cases o:a=r
    .exact⟨qk8 Q,by simp[o],rfl,rfl,rfl,Nat.max_le.2 ⟨f,wa _⟩⟩
    .grind
   let⟨b,t,s,g3,q,p⟩:=this;let⟨u,m,l,j,i,g⟩:=n (Q:=b) p t;exact⟨u,m,l.trans s,j.trans g3,i.trans q,g⟩
def shM(m:Mp):Mp:={m with rw:=m.rw.map λ R=>⟨R.τ,R.l,R.ver,R.sv,true⟩}
theorem qEO{id:Nat}{R:qK}(h:(shM m).rw[id]?=some R):∃a,m.rw[id]?=some a/\R=⟨a.τ,a.l,a.ver,a.sv,true⟩:=by
 change (m.rw.map _)[id]?=some R at h;grind
theorem qft(m:Mp):MLe m (shM m):=by
 refine⟨wa _,λ _ _=>rfl,λ id R h=>⟨⟨R.τ,R.l,R.ver,R.sv,true⟩,?_,wa _,wa _,λ _=>⟨rfl,rfl,rfl,rfl,λ _=>rfl,λ _ _ h=>h⟩⟩⟩;show(m.rw.map _)[id]?=_;rw[List.getElem?_map,h];rfl
theorem yR.frz(h:yR m σ)(b w:List Nat):yR (shM m) {σ with rw:=frz σ.rw b,wrr:=w}:=by
 intro id R e;obtain⟨a,i,rfl⟩:=qEO e;have:=h id a i;show match m.r id with|some r=>∃Q,(Go.AmZ.frz σ.rw b)[r]?=some Q/\Q.c=m.q id/\Q.ver=m.v id/\Q.k=a.τ.size/\zg (qD a.τ) Q.c=some a.l/\Q.fz<=Q.c.length/\(true=false->Q.fz=0/\Q.off=false)|none=>true=false->a.l=[]
 cases d:m.r id with
 |some r=>
   rw[d]at this;let⟨Q,g,p,o,n,j,f,_⟩:=this;let⟨y,x,u,g3,t,s⟩:=qKU f (rw:=σ.rw) b g;grind
 |none=>intro h;cases h
theorem yR.sh(h:yR m σ):yR (shM m) σ:=by
 intro id R d;obtain⟨a,e,rfl⟩:=qEO d;have:=h id a e;show match m.r id with|some r=>∃Q,σ.rw[r]?=some Q/\Q.c=m.q id/\Q.ver=m.v id/\Q.k=a.τ.size/\zg (qD a.τ) Q.c=some a.l/\Q.fz<=Q.c.length/\(true=false->Q.fz=0/\Q.off=false)|none=>true=false->a.l=[]
 cases b:m.r id with
 |some r=>
   rw[b]at this;let⟨Q,o,n,j,i,g,f,_⟩:=this;grind
 |none=>intro h;cases h
theorem Rel.share(a:Rel N m E τ tm σ){σ':St}(f:σ'.bx=σ.bx)(e:yR (shM m) σ'):Rel N (shM m) E (shA τ) tm σ':=by
 refine⟨a.len,λ t=>(a.env t).mono (qft m),by show m.rw.map _=τ.rw.map _;rw[a.rw],a.nb,?_,a.inj,e,?_,a.pin⟩
 .intro b cs d;let⟨ds,h,g⟩:=a.box b cs d;exact⟨ds,by rw[f];exact h,g.mono (qft m)⟩
 .intro id c r e1 k j i;have l:(shM m).rw.length=m.rw.length:=wB ..;exact a.rinj id c r (l▸e1) (l▸k) j i
theorem qNy{op:BinOp}{k:IntKind}{a b:Int}{d:TV->Option α}{r:α}(h:qKd op k a b d=some r):∃x z,d x=some r/\qB5 op k a b=some z/\OK m x (.v z):=by
 cases op<;>simp only[qKd]at h<;>first
  |(cases h;done)
  |exact⟨_,_,h,rfl,rfl⟩
  |skip
 all_goals (
  cases c:ieq b 0 with
  |true=>rw[c]at h;cases h
  |false=>rw[c]at h;exact⟨_,_,h,by simp only[qB5,c],rfl⟩)
theorem qJ8{a b:List UInt8}(h:qwk a b=true):qGI ⟨a.toArray⟩ ⟨b.toArray⟩=some ⟨(a++b).toArray⟩:=by
 have h:=of_decide_eq_true h;unfold qGI;have e1:(⟨a.toArray⟩:ByteArray).size=a.length:=by simp[ByteArray.size]
 have c:(⟨b.toArray⟩:ByteArray).size=b.length:=by simp[ByteArray.size]
 rw[if_neg (by rw[e1,c];omega)];congr 1
theorem qFv(a b:List UInt8):xeq ⟨a.toArray⟩ ⟨b.toArray⟩=qx a b:=by
 simp[xeq,qx]
theorem qMo(a b:List UInt8):xlt ⟨a.toArray⟩ ⟨b.toArray⟩=slt a b:=by
 simp[xlt,slt]
theorem qMF{op:BinOp}{a b:List UInt8}{d:TV->Option α}{r:α}(h:qJR op a b d=some r):∃x z,d x=some r/\qBL op ⟨a.toArray⟩ ⟨b.toArray⟩=some z/\OK m x (.v z):=by
 cases op<;>simp only[qJR]at h<;>first
  |(cases h;done)
  |(refine⟨_,_,h,rfl,?_⟩;simp only[qFv,qMo];exact rfl)
  |skip
 cases c:qwk a b with
 |false=>rw[c]at h;cases h
 |true=>rw[c]at h;exact⟨_,_,h,by simp only[qBL,qJ8 c],rfl⟩
theorem qCV{place:Nat->Option (Nat×Nat)}:∀{l:List (Nat×TV)}{c:List (Nat×AV)}{cells:List TV}{cells':List AV}{cs:List TV},
  (l.map (·.1)=c.map (·.1)/\OKL m (l.map (·.2)) (c.map (·.2)))->OKL m cells cells'->qAw place cells l=some cs->∃ds,qlG place cells' c=some ds/\OKL m cs ds
 |[],c,cells,cells',cs,d,e,h=>by
   have:c=[]:=by cases c with|nil=>rfl|cons a b=>simp at d
   subst this;cases h;exact⟨cells',rfl,e⟩
 |(i,x)::l,c,cells,cells',cs,d,e,h=>by
   cases c with
   |nil=>simp at d
   |cons q c=>
     let⟨j,y⟩:=q;simp only[wv,List.cons.injEq]at d;obtain⟨⟨rfl,g⟩,z,A,r,o,f⟩:=d;cases r;simp only[qAw]at h;simp only[qlG];split at h<;>try cases h
     rename_i off size p;split at h<;>try cases h
     rename_i k;simp only[wb,decide_eq_true_eq]at k;let⟨⟨u,t⟩,s⟩:=k;let⟨n,v⟩:=o.cells s;rw[p];have e1:(cellsOf y).length=size:=by rw[n.len];exact u
     have w:off+size<=cells'.length:=by rw[e.len];exact t
     simp only[e1,w,v,decide_true,kS];exact qCV ⟨g,f⟩ ((e.take off).append (n.append (e.drop (off+size)))) h
theorem qf0{a:Bool}{size o:Nat}{cs:List TV}{ds:List AV}{x:TV}(b:OKL m cs ds)(h:qmQ a size cs o=some x):∃y,qcu a size ds o=some y/\OK m x y:=by
 unfold qmQ at h;unfold qcu;cases a with
 |true=>
   simp only at h |-
   split at h<;>cases h;rename_i c;rw[<-b.len]at c;rw[c];exact⟨_,rfl,_,rfl,(b.drop o).take size⟩
 |false=>exact b.get h
theorem qcE(e:Rel N m E τ tm σ){y:Nat}{d:Nat}{a:Option Operand}{n:Int}(h:qfl d E a=some n)(f:d<=y)(b:inb n y=true):qcO d y (a.map (aev tm))=some n.toNat:=by
 have b:=of_decide_eq_true b;cases a with
 |none=>
   grind [qfl,qcO]
 |some x=>
   simp only[qfl]at h;split at h<;>cases h;rename_i k c;have:=e.ev x;rw[c]at this;show qu9 y (aev tm x)=_;rw[this];show bnd y n=_;unfold bnd;rw[if_pos b]
theorem qiS{a:Type}{l:List a}{j:Int}{v:a}(h:qf l j=some v):0<=j/\l[j.toNat]?=some v:=by
 grind [qf]
theorem JG{b a:Type}{x:Option b}{k:b->Option a}{r:a}(h:qb x k=some r):∃v,x=some v/\k v=some r:=by
 unfold qb at h;grind
theorem jP{b:Bool}{x:Option α}{r:α}(h:cond b x none=some r):b=true/\x=some r:=by
 grind
theorem qwB{b:Bool}{x:Option α}{r:α}(h:cond b none x=some r):b=false/\x=some r:=by
 grind
end
end Go.AmZ
namespace Go.AmZ
open Go Go.RowKit Go.GxZ
def j9(τ:Ty)(y:AV):Option (Val τ):=match Qn τ.agg (Qt y)with
 |true=>qD τ (cellsOf y)
 |false=>none
section
variable {α:Type}{N:Nat×Nat}{m:Mp}{E:Env}{τ:TS}{tm:List AV}{σ:St}{K:KT α}{r:α}{p:Option (AV×Option St)}
theorem jr{a b:Ty}{l:List (Val a)}{c:List (Val b)}(h:qeE l b=some c):∃e:a=b,e▸l=c:=by
 grind [qeE]
theorem qHB(Q:Row):qjO Q Q.k 0 Q.c.length Q.ver=some Q.c:=by
 grind [qjO]
theorem qgk(a:yR m σ){id:Nat}{R:qK}{y:AV}(e:m.rw[id]?=some R)(h:JI (m.r id) (m.v id) R.τ R.l y):
  (∃r Q,m.r id=some r/\y=.rs r 0 Q.c.length Q.ver false/\σ.rw[r]?=some Q/\Q.c=m.q id/\Q.ver=m.v id/\Q.k=R.τ.size/\zg (qD R.τ) Q.c=some R.l/\Q.fz<=Q.c.length/\(R.sh=false->Q.fz=0/\Q.off=false))\/
  (m.r id=none/\(R.sh=false->R.l=[])/\dlist R.τ y=some R.l/\2<=lvl y):=by
 have a:=a id R e;cases b:m.r id with
 |some r=>
   rw[b]at a h;let⟨Q,j,i,g3,g,d,f⟩:=a;refine .inl ⟨r,Q,rfl,?_,j,i,g3,g,d,f⟩;rw[zd d,g3];exact h
 |none=>
   rw[b]at a h;exact .inr ⟨rfl,a,h.1,h.2⟩
theorem qzc{a:Ty}{y:AV}{l:List (Val a)}(b:List Row)(h:dlist a y=some l):∃es,elems b a.size y=some es/\zg (qD a) es=some l/\dlist a (qU b y)=some l:=by
 obtain⟨rfl,c⟩|⟨es,n,rfl,c⟩:=yL h
 .rw[c];exact⟨[],rfl,rfl,rfl⟩
 .refine⟨es,by simp only[elems,zk,decide_true],c,?_⟩;show dlist _ (.sl _ es 1)=_;grind [dlist,je,zk]
theorem qnK(i:yR m σ){a:Ty}{x:TV}{y:AV}{l:List (Val a)}(h:qmt m.rw a x=some l)(d:OK m x y):
  ∃es,elems σ.rw a.size y=some es/\zg (qD a) es=some l/\dlist a (qU σ.rw y)=some l:=by
 unfold qmt at h;split at h
 .cases h;cases d;exact⟨[],rfl,rfl,rfl⟩
 .obtain⟨e,rfl⟩:=jr h;subst e;exact qzc _ d.1
 .rename_i id b;split at h<;>try cases h
  rename_i R f;split at h<;>try cases h
  rename_i c;have c:R.ver=b:=wn c;obtain⟨e,rfl⟩:=jr h;subst e;let⟨R',g,_,_,j⟩:=d;rw[f]at g;cases g;obtain⟨r,Q,_,rfl,p,_,_,o,n,_⟩|⟨_,_,k,_⟩:=qgk i f (j c)
  .grind [elems,qU,dlist,je,zk,qHB,decide_true]
  .exact qzc _ k
 .cases h
theorem qc8(j:yR m σ):∀(a:Ty) {cs:List TV}{v:Val a}{r:List TV}{ds:List AV},qit m.rw a cs=some (v,r)->OKL m cs ds->∃d,yy a (ds.map (qU σ.rw))=some (v,d.map (qU σ.rw))/\OKL m r d
 |.int k,cs,v,r,ds,h,c=>by
   change qKF k cs=_ at h;unfold qKF at h;split at h<;>try cases h
   split at h<;>cases h;rename_i A;obtain⟨y,d,rfl,f,g⟩:=c;cases f;exact⟨d,by show JD _ _=_;simp only[wv,qU,JD,A],g⟩
 |.bool,cs,v,r,ds,h,c=>by
   change qHq cs=_ at h;unfold qHq at h;split at h<;>cases h;obtain⟨y,d,rfl,f,g⟩:=c;cases f;exact⟨d,rfl,g⟩
 |.str,cs,v,r,ds,h,c=>by
   change qKy cs=_ at h;unfold qKy at h;split at h<;>cases h;obtain⟨y,d,rfl,f,g⟩:=c;cases f;exact⟨d,by show qcY _=_;simp only[wv,qU,qcY],g⟩
 |.term,cs,v,r,ds,h,c=>by
   change qGv _ cs=_ at h;unfold qGv at h;split at h<;>try cases h
   split at h<;>cases h;rename_i i;obtain⟨y1,w,rfl,s,y2,G,rfl,q,y3,F,rfl,p,y4,t,rfl,o,g⟩:=c;cases s;cases q;cases p;let⟨es,_,_,l⟩:=qnK j i o;rw[qjZ]at l;refine⟨t,?_,g⟩;show JF (.v (.int .i64 _)::.v (.string ⟨_⟩)::.v (.int .i64 _)::qU σ.rw y4::t.map (qU σ.rw))=_;grind [JF,Q3]
 |.list a,cs,v,r,ds,h,c=>by
   change qGA _ cs=_ at h;unfold qGA at h;split at h<;>try cases h
   split at h<;>cases h;rename_i i;obtain⟨y,d,rfl,f,g⟩:=c;let⟨es,_,_,l⟩:=qnK j i f;have l:je a.size (λ e=>full (yy a e)) (qU σ.rw y)=some v:=l;exact⟨d,by show yD _ _=_;simp only[wv,yD,l],g⟩
 |.pair a b,cs,v,r,ds,h,c=>by
   let⟨w,C,B⟩:=Qz.1 h;let⟨u,E,D⟩:=qc8 j a C c;let⟨n,z,x⟩:=qc8 j b B D;exact⟨n,Qz.2 ⟨_,E,z⟩,x⟩
 |.one a,cs,v,r,ds,h,c=>qc8 j a h c
 |.map a b,cs,v,r,ds,h,c=>by
   change qJL a b cs=_ at h;unfold qJL at h;split at h<;>try cases h
   split at h<;>cases h;rename_i i;obtain⟨y,d,rfl,f,g⟩:=c;unfold qAz at i;split at i<;>cases i;rename_i e;obtain⟨rfl,rfl⟩:=e;have f:dMc _ _ _ _ y=some _:=f;obtain⟨ks,vs,rfl,_⟩:=qct f;exact⟨d,by show yD (dMc _ _ (qD _) (qD _)) _=_;simp only[wv,qU,yD,f],g⟩
theorem qeH{a:Type}{x:Option (a×List TV)}{v:a}(h:ql0 x=some v):x=some (v,[]):=by
 unfold ql0 at h;grind
theorem qpu(rw:List Row){y:AV}(h:Qt y=false):Qt (jg rw y)=false/\cellsOf (jg rw y)=[qU rw y]/\cellsOf y=[y]:=by
 cases y with
 |agg cs=>cases h
 |rs r lo n a f=>
   grind [jg,qU,Qt,cellsOf]
 |_=>exact⟨rfl,rfl,rfl⟩
theorem qgg(hq:yR m σ){a:Ty}{x:TV}{y:AV}{v:Val a}(h:qb0 m.rw a x=some v)(ho:OK m x y) :
  j9 a (jg σ.rw y)=some v/\qD a ((cellsOf y).map (qU σ.rw))=some v:=by
 unfold qb0 at h;split at h
 case h_2=>cases h
 rename_i hb;have hb:a.agg=qu1 x:=by simpa[Qn]using hb
 have h:=qeH h
 have key:OKL m (jz x) (cellsOf y)->qD a ((cellsOf y).map (qU σ.rw))=some v:=by
  intro hc;obtain⟨rs,g1,g2⟩:=qc8 hq a h hc;cases g2;exact qP.2 g1
 by_cases hx:qu1 x=true
 ·cases x with
  | agg cs =>
    obtain⟨ds,rfl,hd⟩:=ho;refine⟨?_,key hd⟩;unfold j9;rw[hb];exact key hd
  | _=>cases hx
 ·have hx:qu1 x=false:=by simpa using hx
  have hct:jz x=[x]:=by cases x<;>first | rfl | (cases hx)
  have hy:Qt y=false:=by
   cases x with
   | agg cs=>cases hx
   | i=>cases ho;rfl
   | b=>cases ho;rfl
   | s=>cases ho;rfl
   | c=>obtain⟨_,rfl⟩:=ho;rfl
   | nil=>cases ho;rfl
   | sl τ l lv =>
     obtain⟨ho,_⟩:=ho;rcases yL ho with⟨rfl,_⟩ | ⟨es,n,rfl,_⟩<;>rfl
   | row id ver =>
     obtain⟨R,_,_,ho,_⟩:=ho;rcases ho with rfl | ⟨k,es,j,rfl⟩ | ⟨r,lo,n,ep,f,rfl⟩<;>rfl
   | ptr b o=>obtain⟨_,rfl⟩:=ho;rfl
   | pti b i=>obtain⟨_,_,rfl⟩:=ho;rfl
   | rpt id ver sv i cs o=>obtain⟨R,_,_,_,ho,_⟩:=ho;rcases ho with⟨r,i,ep,rfl⟩ | ⟨ds,rfl⟩<;>rfl
   | ept cs o=>obtain⟨ds,rfl,_⟩:=ho;rfl
   | fn f cs=>obtain⟨ds,rfl,_⟩:=ho;rfl
   | tup cs=>obtain⟨ds,rfl,_⟩:=ho;rfl
   | mp b=>obtain⟨_,rfl⟩:=ho;rfl
   | mc=>obtain⟨ks,vs,rfl,_⟩:=qct ho;rfl
   | dead =>
     exfalso;rw[hct]at h;have hag:a.agg=false:=by rw[hb];rfl
     cases a with
     | int k=>cases h
     | bool=>cases h
     | str=>cases h
     | list a=>cases h
     | map a b=>cases h
     | term=>cases hag
     | pair a b=>cases hag
     | one a=>cases hag
  obtain⟨e1,e2,e3⟩:=qpu σ.rw hy;have hc:OKL m (jz x) (cellsOf y):=by rw[hct,e3];exact⟨y,[],rfl,ho,rfl⟩
  grind [j9]
theorem qtu{x:TV}{y:AV}(a:OK m x y)(h:qmH x=true):rsC y=[]/\Qt y=false:=by
 cases x with
 |i|b|s=>cases a;exact⟨rfl,rfl⟩
 |c=>obtain⟨_,rfl⟩:=a;exact⟨rfl,rfl⟩
 |nil=>cases a;exact⟨rfl,rfl⟩
 |sl τ l d=>
   let⟨a,_⟩:=a;obtain⟨rfl,_⟩|⟨es,n,rfl,_⟩:=yL a<;>exact⟨rfl,rfl⟩
 |fn f cs=>obtain⟨ds,rfl,_⟩:=a;exact⟨rfl,rfl⟩
 |mc=>obtain⟨ks,vs,rfl,_⟩:=qct a;exact⟨rfl,rfl⟩
 |_=>cases h
theorem qiU:∀{xs:List TV}{ys:List AV},OKL m xs ys->xs.all qmH=true->ys.flatMap rsC=[]
 |[],_,h,_=>by cases h;rfl
 |x::xs,_,⟨y,r,rfl,b,a⟩,h=>by
   rw[km,wb]at h;rw[xk,(qtu b h.1).1,qiU a h.2];rfl
theorem qMT{y:AV}(b:rsC y=[])(a:Qt y=false):rsA y=[]:=by
 cases y<;>first|(cases a;done)|exact b
theorem qsf{x:TV}{y:AV}(h:qmY x=true)(c:OK m x y):rsA y=[]:=by
 cases x with
 |agg cs=>
   obtain⟨ds,rfl,d⟩:=c;exact qiU d h
 |_=>let⟨a,b⟩:=qtu c h;exact qMT a b
theorem quy:∀{xs:List TV}{ys:List AV},xs.all qmY=true->OKL m xs ys->ys.flatMap rsA=[]
 |[],_,_,h=>by cases h;rfl
 |x::xs,_,h,⟨y,r,rfl,b,a⟩=>by
   rw[km,wb]at h;rw[xk,qsf h.1 b,quy h.2 a];rfl
theorem qAO(c:yR m σ){a:Ty}:∀{xs:List TV}{ys:List AV}{vs:List (Val a)},qrZ m.rw a xs=some vs->OKL m xs ys->
  zg (qD a) (ys.map λ y=>(cellsOf y).map (qU σ.rw))=some vs
 |[],ys,vs,h,e=>by cases e;cases h;rfl
 |x::xs,ys,vs,h,⟨y,r,f,i,g⟩=>by
   subst f;simp only[qrZ]at h;split at h<;>try cases h
   rename_i v d;split at h<;>cases h;rename_i vs b;exact yW.2 ⟨v,vs,(qgg c d i).2,qAO c b g,rfl⟩
end
end Go.AmZ
namespace Go.AmZ
open Go Go.RowKit Go.GxZ
def Mp.add(m:Mp)(R:qK)(ro:Option Nat)(vo:Nat)(qo:List (List AV)):Mp:=
 ⟨m.b,m.nb,λ i=>if i=m.rw.length then ro else m.r i,λ i=>if i=m.rw.length then vo else m.v i,λ i=>if i=m.rw.length then qo else m.q i,m.rw++[R]⟩
def Mp.upd(m:Mp)(id:Nat)(R:qK)(ro:Option Nat)(vo:Nat)(qo:List (List AV)):Mp:=
 ⟨m.b,m.nb,λ i=>if i=id then ro else m.r i,λ i=>if i=id then vo else m.v i,λ i=>if i=id then qo else m.q i,m.rw.set id R⟩
section
variable {α:Type}{N:Nat×Nat}{m:Mp}{E:Env}{τ:TS}{tm:List AV}{σ:St}{K:KT α}{r:α}{p:Option (AV×Option St)}{c:TC}{C:Cfg}{R R2:qK}{ro:Option Nat}{vo:Nat}{qo:List (List AV)}{id:Nat}
theorem qrz(m:Mp)(R:qK)(ro:Option Nat)(vo:Nat)(qo:List (List AV)):MLe m (m.add R ro vo qo):=by
 refine⟨wa _,λ i _=>rfl,λ id R' h=>?_⟩;have b:=getElem?_lt h;have a:¬ id=m.rw.length:=vB b;exact⟨R',by show(m.rw++_)[id]?=_;rw[List.getElem?_append_left b];exact h,wa _,wa _,λ _=>⟨rfl,if_neg a,if_neg a,rfl,λ _=>if_neg a,λ _ _ h=>h⟩⟩
theorem JB.later{σ':St}(h:JB σ R ro vo qo)(a:∀r Q,ro=some r->σ.rw[r]?=some Q->σ'.rw[r]?=some Q):JB σ' R ro vo qo:=by
 cases ro with
 |none=>exact h
 |some r=>
   let⟨Q,c,b⟩:=h;exact⟨Q,a r Q rfl c,b⟩
theorem qn4{σ':St}(d:yR m σ)(f:JB σ' R ro vo qo)(e:∀(r:Nat) (Q:Row),σ.rw[r]?=some Q->σ'.rw[r]?=some Q):yR (m.add R ro vo qo) σ':=by
 intro id R' a;change (m.rw++[R])[id]?=some R' at a;show JB σ' R' (if id=m.rw.length then ro else m.r id) (if id=m.rw.length then vo else m.v id) (if id=m.rw.length then qo else m.q id);by_cases c:id=m.rw.length
 .grind
 .rw[if_neg c,if_neg c,if_neg c];have b:id<m.rw.length:=by have:=getElem?_lt a;simp at this;omega
  rw[List.getElem?_append_left b]at a;exact(d id R' a).later λ r Q _ h=>e r Q h
theorem qJh(k:m.rw[id]?=some R)(n:R.ver<=R2.ver)(o:R.sv<=R2.sv)(p:R2.ver=R.ver->R2.l.length=R.l.length/\ro=m.r id/\vo=m.v id/\R2.τ=R.τ/\(R2.sv=R.sv->qo=m.q id)/\(m.r id=none->∀y,dlist R.τ y=some R.l->dlist R2.τ y=some R2.l)):MLe m (m.upd id R2 ro vo qo):=by
 have j:=getElem?_lt k;refine⟨wa _,λ i _=>rfl,λ i R' h=>?_⟩;by_cases g:i=id
 .subst g;rw[k]at h;cases h;refine⟨R2,by show(m.rw.set i R2)[i]?=_;rw[List.getElem?_set_self j],n,o,λ h=>?_⟩;let⟨a,b,c,d,e,f⟩:=p h;exact⟨a,(if_pos rfl).trans b,(if_pos rfl).trans c,d,λ h=>(if_pos rfl).trans (e h),f⟩
 .exact⟨R',by show(m.rw.set id R2)[i]?=_;rw[List.getElem?_set_ne (xU g)];exact h,wa _,wa _,λ _=>⟨rfl,if_neg g,if_neg g,rfl,λ _=>if_neg g,λ _ _ h=>h⟩⟩
theorem qCh{σ':St}(j:m.rw[id]?=some R)(d:yR m σ)(k:JB σ' R2 ro vo qo)(e:∀a r Q,a≠id->a<m.rw.length->m.r a=some r->σ.rw[r]?=some Q->σ'.rw[r]?=some Q):yR (m.upd id R2 ro vo qo) σ':=by
 have f:=getElem?_lt j;intro i R' c;change (m.rw.set id R2)[i]?=some R' at c;show JB σ' R' (if i=id then ro else m.r i) (if i=id then vo else m.v i) (if i=id then qo else m.q i);by_cases b:i=id
 .grind
 .rw[if_neg b,if_neg b,if_neg b];rw[List.getElem?_set_ne (xU b)]at c;exact(d i R' c).later λ r Q h g=>e i r Q b (getElem?_lt c) h g
theorem Rel.to{m':Mp}{d:List qK}{σ':St}(c:Rel N m E τ tm σ)(a:MLe m m')(n:m'.rw=d)(h:m'.nb=m.nb)(g:m'.b=m.b)(l:σ'.bx=σ.bx)(j:yR m' σ')
  (k:∀i e r,i<m'.rw.length->e<m'.rw.length->m'.r i=some r->m'.r e=some r->i=e):Rel N m' E {τ with rw:=d} tm σ':=by
 refine⟨c.len,λ t=>(c.env t).mono a,n,by rw[h];exact c.nb,?_,by rw[h,g];exact c.inj,j,k,qud a c.pin⟩;intro b cs f;let⟨ds,p,o⟩:=c.box b cs f;exact⟨ds,by rw[l,g];exact p,o.mono a⟩
theorem Rel.row_lt(a:Rel N m E τ tm σ){id r:Nat}(h:id<m.rw.length)(b:m.r id=some r):r<σ.rw.length:=by
 have:=a.rows id _ (List.getElem?_eq_getElem h);rw[b]at this;let⟨Q,c,_⟩:=this;exact getElem?_lt c
theorem Rel.rowAdd{σ':St}(b:Rel N m E τ tm σ)(R:qK)(ro:Option Nat)(vo:Nat)(qo:List (List AV))(j:σ'.bx=σ.bx)(h:JB σ' R ro vo qo)(i:∀(r:Nat) (Q:Row),σ.rw[r]?=some Q->σ'.rw[r]?=some Q)(e:∀r,ro=some r->σ.rw.length<=r){y:AV}(d:JI ro vo R.τ R.l y)(k:R.ver=0):
  ∃m',MLe m m'/\Rel N m' E {τ with rw:=τ.rw++[R]} tm σ'/\OK m' (.row τ.rw.length 0) y:=by
 refine⟨m.add R ro vo qo,qrz _ _ _ _ _,b.to (qrz _ _ _ _ _) (by show m.rw++_=_;rw[b.rw]) rfl rfl j (qn4 b.rows h i) ?_,?_⟩
 .intro id a r g f e1 c;change id<(m.rw++[_]).length at g;change a<(m.rw++[_]).length at f;change (if id=m.rw.length then ro else m.r id)=some r at e1;change (if a=m.rw.length then ro else m.r a)=some r at c;simp at g f;split at e1<;>split at c
  .omega
  .have:=b.row_lt (by omega) c;have:=e r e1;omega
  .have:=b.row_lt (by omega) e1;have:=e r c;omega
  .exact b.rinj id a r (by omega) (by omega) e1 c
 .refine⟨R,?_,we _,d.ish,λ _=>?_⟩
  .show(m.rw++_)[τ.rw.length]?=_;rw[b.rw];simp
  .show JI (if τ.rw.length=m.rw.length then ro else m.r τ.rw.length) (if τ.rw.length=m.rw.length then vo else m.v τ.rw.length) _ _ y;rw[if_pos (by rw[b.rw]),if_pos (by rw[b.rw])];exact d
theorem Rel.rowNew(b:Rel N m E τ tm σ){a:Ty}{es:List (List AV)}{l:List (Val a)}(c:zg (qD a) es=some l):
  ∃m',MLe m m'/\Rel N m' E {τ with rw:=τ.rw++[⟨a,l,0,0,false⟩]} tm {σ with rw:=σ.rw++[⟨a.size,es,0,0,false⟩]}/\OK m' (.row τ.rw.length 0) (.rs σ.rw.length 0 l.length 0 false):=
 b.rowAdd (σ':={σ with rw:=σ.rw++[⟨a.size,es,0,0,false⟩]}) ⟨a,l,0,0,false⟩ (some σ.rw.length) 0 es rfl ⟨⟨a.size,es,0,0,false⟩,by show(σ.rw++[_])[σ.rw.length]?=_;simp,rfl,rfl,rfl,c,we _,λ _=>⟨rfl,rfl⟩⟩
  (λ r Q h=>by show(σ.rw++_)[r]?=_;rw[List.getElem?_append_left (getElem?_lt h)];exact h) (λ r h=>by cases h;exact wa _) rfl rfl
theorem Rel.rowUpd(c:Rel N m E τ tm σ)(B:τ.rw[id]?=some R)(ro:Option Nat)(vo:Nat)(qo:List (List AV))(n:R.ver<=R2.ver)(o:R.sv<=R2.sv)(t:R2.ver=R.ver->R2.l.length=R.l.length/\ro=m.r id/\vo=m.v id/\R2.τ=R.τ/\(R2.sv=R.sv->qo=m.q id)/\(m.r id=none->∀y,dlist R.τ y=some R.l->dlist R2.τ y=some R2.l)){σ':St}(u:σ'.bx=σ.bx)(p:JB σ' R2 ro vo qo)
  (s:∀a r,a≠id->a<m.rw.length->m.r a=some r->ro≠some r/\∀Q,σ.rw[r]?=some Q->σ'.rw[r]?=some Q):
  ∃m',MLe m m'/\Rel N m' E {τ with rw:=τ.rw.set id R2} tm σ'/\(∀y,JI ro vo R2.τ R2.l y->OK m' (.row id R2.ver) y):=by
 have b:m.rw[id]?=some R:=by rw[c.rw];exact B
 have f:=getElem?_lt b;have d:MLe m (m.upd id R2 ro vo qo):=qJh b n o t;refine⟨m.upd id R2 ro vo qo,d,c.to d (by show m.rw.set id R2=_;rw[c.rw]) rfl rfl u (qCh b c.rows p λ a r Q A z x w=>(s a r A z x).2 Q w) ?_,λ y k=>?_⟩
 .intro i e r h g e1 j;change i<(m.rw.set id R2).length at h;change e<(m.rw.set id R2).length at g;change (if i=id then ro else m.r i)=some r at e1;change (if e=id then ro else m.r e)=some r at j;simp at h g;split at e1<;>split at j
  .omega
  .grind
  .grind
  .exact c.rinj i e r h g e1 j
 .refine⟨R2,?_,wa _,k.ish,λ _=>?_⟩
  .show(m.rw.set id R2)[id]?=_;rw[List.getElem?_set_self f]
  .show JI (if id=id then ro else m.r id) (if id=id then vo else m.v id) _ _ y;grind
theorem Rel.others(c:Rel N m E τ tm σ)(h:τ.rw[id]?=some R){rr:Nat}(b:m.r id=some rr){a r:Nat}(g:a≠id)(f:a<m.rw.length)(e:m.r a=some r):r≠rr:=λ d=>
 g (c.rinj a id rr f (by rw[c.rw];exact getElem?_lt h) (d▸e) b)
theorem qy3{a:Type}{f:List AV->Option a}:∀{es:List (List AV)}{l:List a},zg f es=some l->∀(j:Nat) {e:List AV}{v:a},f e=some v->zg f (es.set j e)=some (l.set j v)
 |[],l,h,j,e,v,b=>by cases h;rfl
 |g::es,l,h,j,e,v,b=>by
   obtain⟨w,vs,d,c,rfl⟩:=yW.1 h;cases j with
   |zero=>exact yW.2 ⟨v,vs,b,c,rfl⟩
   |succ j=>exact yW.2 ⟨w,vs.set j v,d,qy3 c j b,rfl⟩
theorem qyJ{a:Type}{f:List AV->Option a}{e:List AV}{v:a}(h:f e=some v):∀n:Nat,zg f (List.replicate n e)=some (List.replicate n v)
 |0=>rfl
 |n+1=>yW.2 ⟨v,_,h,qyJ h n,rfl⟩
end
end Go.AmZ
