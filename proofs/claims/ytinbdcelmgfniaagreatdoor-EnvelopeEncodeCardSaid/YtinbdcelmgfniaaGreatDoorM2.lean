/- Part 2 of what the proofs stand on: plain functions of the program, and that they are its functions. -/
import Derived.Test.YtinbdcelmgfniaaGreatDoorM1
set_option linter.unusedVariables false
set_option linter.unusedSimpArgs false
noncomputable section
namespace Go.AmZ
open Go Go.RowKit
theorem qAk:∀(r:List Oper) (a:List Nat),∃t,QX r a=a++t
 |[],a=>⟨[],by simp[QX]⟩
 |o::r,a=>by
   let⟨t,b⟩:=qAk r (a++[qr6 a o]);grind [QX]
theorem qAl:∀(r:List Oper) (a:List Nat) (k:Nat) (o:Oper),r[k]?=some o->(QX r a).getD (a.length+k) 0=qr6 ((QX r a).take (a.length+k)) o
 |[],a,k,o,h=>by simp at h
 |q::r,a,0,o,h=>by
   simp at h;subst h;let⟨t,b⟩:=qAk r (a++[qr6 a q]);grind [QX]
 |q::r,a,k+1,o,h=>by
   rw[QX];have:=qAl r (a++[qr6 a q]) k o (by simpa using h);grind
theorem qCl(a:List Nat)(j:Nat):∀(xs:List Nat) (m:Nat),(xs.foldl (λ m e=>m|||(2^e|||a.getD e 0)) m).testBit j=true->m.testBit j=true\/∃e∈xs,e=j\/(a.getD e 0).testBit j=true
 |[],m,h=>.inl h
 |e::xs,m,h=>by
   rw[ke]at h;obtain h|⟨c,b,h⟩:=qCl a j xs _ h
   .grind
   .grind
theorem qK4{ops:List Oper}{i j:Nat}{o:Oper}(ho:ops[i]?=some o)(h:((QX ops []).getD i 0).testBit j=true):∃e∈jG o,e=j\/(e<i/\((QX ops []).getD e 0).testBit j=true):=by
 have a:=qAl ops [] i o ho;simp only[wY,wD]at a;rw[a]at h;obtain h|⟨e,b,h⟩:=qCl _ _ _ _ h
 .simp at h
 .grind
section
variable {P:Program}{C:Cfg}{Γ:Gh}{σ:St}{w:World}{ops:Array Oper}{ex:jP}{l:List (AV×Option St)}{s0:S}{L:Nat->Bool}
def qcE(ops:Array Oper)(L:Nat->Bool):Prop:=∀i o,ops[i]?=some o->L i=true->∀e∈jG o,L e=true
theorem qj3(hd:qcE ops L){j:Nat}:∀(i:Nat) (o:Oper),ops[i]?=some o->(∀e∈jG o,L e=true)->((QX ops.toList []).getD i 0).testBit j=true->L j=true:=by
 intro i
 induction i using Nat.strongRecOn with
 |_ i f=>
   intro o ho hp g;obtain⟨e,d,h⟩:=qK4 (by simpa using ho) g;rcases h with rfl|⟨b,c⟩
   .exact hp _ d
   .have a:e<ops.size:=Nat.lt_trans b (Array.getElem?_eq_some_iff.1 ho).1;exact f e b ops[e] (Array.getElem?_eq_getElem a) (hd e _ (Array.getElem?_eq_getElem a) (hp e d)) c
theorem qiQ{a:Nat->Bool}{b:List AV}(h:qbP a b ops=true):(∀(j:Nat) (o:Oper),ops[j]?=some o->∀e∈jG o,e<j)/\
  ∀(i j:Nat) (o q:Oper),ops[j]?=some o->ops[i]?=some q->i≠j->qjB a b ops j o i q=true->((QX ops.toList []).getD (max i j) 0).testBit (min i j)=true:=by
 have c:∀(i:Nat) (o:Oper),ops[i]?=some o->(o,i)∈ops.toList.zipIdx:=λ i o ho=>by
  grind
 grind [qbP]
theorem qxI(hd:qcE ops L){i j:Nat}{o q:Oper}(ho:ops[j]?=some o)(d:ops[i]?=some q)(f:i≠j)(a:((QX ops.toList []).getD (max i j) 0).testBit (min i j)=true)(hL:L j=false)(hp:∀e∈jG o,L e=true):(i<j->L i=true)/\(j<i->L i=false):=by
 constructor
 .grind [Nat.max_eq_right,Nat.le_of_lt,Nat.min_eq_left,qj3]
 .intro b;rw[Nat.max_eq_left (xI b),Nat.min_eq_right (xI b)]at a;cases c:L i with
  |false=>rfl
  |true=>
    have:=qj3 hd i q d (hd i q d c) a;rw[hL]at this;cases this
theorem ord{a:Nat->Bool}{c:List AV}(hk:qbP a c ops=true)(hd:qcE ops L){i j:Nat}{o q:Oper}(ho:ops[j]?=some o)(d:ops[i]?=some q)(b:i≠j)(f:qjB a c ops j o i q=true)(hL:L j=false)(hp:∀e∈jG o,L e=true):(i<j->L i=true)/\(j<i->L i=false):=by
 exact qxI hd ho d b ((qiQ hk).2 i j o q ho d b f) hL hp
structure qdw (C:Cfg) (ex:jP) (ops:Array Oper) (l:List (AV×Option St)) (s0:S):Prop where
 st:∀(i:Nat) (o:Oper),ops[i]?=some o->∃y,l[i]?=some y/\qbf C ex ops o (F ops.toList l s0 qp i) y/\(y.2.isSome=true->zp C.lo o.op=true)
 sp:∀(i:Nat) (o:Oper) (y:AV×Option St),ops[i]?=some o->l[i]?=some y->y.2.isSome=true->qcx C ops i (F ops.toList l s0 qp i).tm (F ops.toList l s0 qp i).σ o.op=true
theorem qsa(d:∀(i:Nat) (o:Oper),ops.toList[i]?=some o->∃y,l[i]?=some y/\qbf C ex ops o (F ops.toList l s0 qp i) y/\(y.2.isSome=true->zp C.lo o.op=true))
  (c:∀(i:Nat) (o:Oper) (y:AV×Option St),ops.toList[i]?=some o->l[i]?=some y->y.2.isSome=true->qcx C ops (ops.size-(ops.toList.length-i)) (F ops.toList l s0 qp i).tm (F ops.toList l s0 qp i).σ o.op=true):qdw C ex ops l s0:=
 ⟨λ i o ho=>d i o (by simpa using ho),λ i o y ho a b=>by
  have:=c i o y (by simpa using ho) a b;have e:i<ops.size:=(Array.getElem?_eq_some_iff.1 ho).1
  rwa [wM,show ops.size-(ops.size-i)=i by omega]at this⟩
def qu7(C:Cfg)(ops:Array Oper)(l:List (AV×Option St)):Prop:=
 ∀(i:Nat) (o:Oper),ops[i]?=some o->∃y,l[i]?=some y/\(y.2.isSome=true->zp C.lo o.op=true)
theorem qdw.recd(h:qdw C ex ops l s0):qu7 C ops l:=λ i o ho=>let⟨y,h1,_,h3⟩:=h.st i o ho;⟨y,h1,h3⟩
theorem qkJ(s:S)(o:Oper)(y:AV×Option St)(t:Nat)(h:o.dst≠some t):(yd s o y).tm.getD t .dead=s.tm.getD t .dead:=by
 unfold yd;cases hd:o.dst with
 |none=>rfl
 |some d=>
   show(s.tm.set d y.1).getD t .dead=_;grind
theorem qL2(s:S)(o:Oper)(y:AV×Option St):(yd s o y).tm.length=s.tm.length:=by
 unfold yd;cases hd:o.dst with
 |none=>rfl
 |some d=>exact wH ..
theorem qsJ(s:S)(o:Oper)(y:AV×Option St)(t:Nat)(h:o.dst=some t):(yd s o y).tm.getD t .dead=if t<s.tm.length then y.1 else .dead:=by
 unfold yd;rw[h];show(s.tm.set t y.1).getD t .dead=_;grind
theorem putS_σ(s:S)(o:Oper)(y:AV×Option St)(h:y.2=none):(yd s o y).σ=s.σ:=by
 unfold yd;rw[h];rfl
theorem qIY(s:S)(o q:Oper)(y z:AV×Option St)(hd:∀d,q.dst=some d->o.dst≠some d)(a:y.2=none\/z.2=none):yd (yd s o y) q z=yd (yd s q z) o y:=by
 unfold yd;simp only;congr 1
 .cases ho:o.dst with
  |none=>rfl
  |some d=>
    cases b:q.dst with
    |none=>rfl
    |some e=>
      show(s.tm.set d y.1).set e z.1=(s.tm.set e z.1).set d y.1;grind [List.set_comm]
 .obtain h|h:=a
  .rw[h];rfl
  .rw[h];rfl
theorem Jy(hT:qu7 C ops l){k:Nat}{q:Oper}(a:ops[k]?=some q):∃y,l[k]?=some y/\(y.2.isSome=true->zp C.lo q.op=true)/\∀L,F ops.toList l s0 L (k+1)=if L k=true then yd (F ops.toList l s0 L k) q y else F ops.toList l s0 L k:=by
 let⟨y,c,b⟩:=hT k q a;grind [F]
theorem qBv(L:Nat->Bool):∀k,(F ops.toList l s0 L k).tm.length=s0.tm.length
 |0=>rfl
 |k+1=>by
   simp only[F];split
   .rw[qL2];exact qBv L k
   .exact qBv L k
theorem qBk{a:Nat->Bool}:∀k,(∀i,i<k->L i=a i)->F ops.toList l s0 L k=F ops.toList l s0 a k
 |0,_=>rfl
 |k+1,h=>by
   simp only[F];rw[qBk k λ i b=>h i (by omega),h k (by omega)]
theorem jp{k:Nat}(h:k<ops.size):∃q,ops[k]?=some q:=⟨ops[k],Array.getElem?_eq_getElem h⟩
theorem qlq{t:Tmp}(h:qdA ops.toList t=[]){k:Nat}{q:Oper}(a:ops[k]?=some q):q.dst≠some t:=by
 intro hd;have b:(q,k)∈ops.toList.zipIdx:=by rw[xc];simpa using a
 have:(q,k)∈qdA ops.toList t:=kO.2 ⟨b,by simp[qlX,hd]⟩;rw[h]at this;cases this
theorem qtu{t:Tmp}{o:Oper}{i:Nat}(h:qdA ops.toList t=[(o,i)]):ops[i]?=some o/\o.dst=some t/\∀(k:Nat) (q:Oper),ops[k]?=some q->k≠i->q.dst≠some t:=by
 have e:(o,i)∈qdA ops.toList t:=by rw[h];exact wF.2 rfl
 let⟨a,f⟩:=kO.1 e;rw[xc]at a;refine⟨by simpa using a,?_,λ k q b c hd=>?_⟩
 .grind [qlX,Nat.eq_of_beq_eq_true]
 .have d:(q,k)∈ops.toList.zipIdx:=by rw[xc];simpa using b
  have:(q,k)∈qdA ops.toList t:=kO.2 ⟨d,by simp[qlX,hd]⟩;grind
theorem qjd(hT:qu7 C ops l){t:Tmp}{a b:Nat}(h:∀k q,a<=k->ops[k]?=some q->q.dst≠some t):a<=b->b<=ops.size->(F ops.toList l s0 L b).tm.getD t .dead=(F ops.toList l s0 L a).tm.getD t .dead:=by
 intro f
 induction b with
 |zero=>
   grind
 |succ b i=>
   intro d;by_cases e:a=b+1
   .rw[e]
   .obtain⟨q,c⟩:=jp (ops:=ops) (k:=b) (by omega);obtain⟨y,_,_,g⟩:=Jy hT c;rw[g];grind [qkJ]
theorem qpE(hT:qdw C ex ops l s0){k:Nat}{t:Tmp}{b:Nat}(hk:k<=ops.size)(h:yW s0.tm ops k t=some b):(∃ o,(F ops.toList l s0 qp k).tm.getD t .dead = .ptr b o)\/(F ops.toList l s0 qp k).tm.getD t .dead = .tup []\/(F ops.toList l s0 qp k).tm.getD t .dead = .dead:=by
 unfold yW at h;split at h
 case h_2=>cases h
 rename_i u hu;split at h<;>cases h;rename_i off hb
 have key:∀(n k:Nat) (t:Tmp),k<=ops.size->qme ops n k t=some u->(∃ o,(F ops.toList l s0 qp k).tm.getD t .dead = .ptr b o)\/(F ops.toList l s0 qp k).tm.getD t .dead = .tup []\/(F ops.toList l s0 qp k).tm.getD t .dead = .dead:=by
  intro n
  induction n with
  | zero=>intro k t _ h;cases h
  | succ n ih =>
    intro k t hk hu;rw[qme]at hu;split at hu
    ·rename_i hw;cases hu;left;refine⟨off,?_⟩;rw[qjd hT.recd (a:=0) (λ k q _ hq=>qlq hw hq) (we _) hk];exact hb
    ·rename_i o i hw;obtain⟨ho,hd,hother⟩:=qtu hw;split at hu
     case h_2=>cases hu
     rename_i u' hop hik;have hik:=of_decide_eq_true hik;have hsz:i<ops.size:=(Array.getElem?_eq_some_iff.1 ho).1;have hv:=ih i u' (by omega) hu;rw[qjd hT.recd (a:=i+1) (λ k q hle hq=>hother k q hq (by omega)) (by omega) hk];obtain⟨y,h1,h2,_⟩:=hT.st i o ho;obtain⟨z,h3,_,hF⟩:=Jy hT.recd ho;rw[h1]at h3;cases h3;rw[hF,if_pos (show qp i=true from rfl),qsJ _ _ _ _ hd];split
     ·rcases h2 with⟨_,h2⟩ | ⟨_,h2⟩
      ·unfold qLX at hop;split at hop<;>cases hop
       ·rename_i e;rw[e]at h2;simp only[opA,qc]at h2;split at h2<;>try cases h2
        split at h2<;>try cases h2
        split at h2<;>try cases h2
        have hav:aev (F ops.toList l s0 qp i).tm (.tmp u')=(F ops.toList l s0 qp i).tm.getD u' .dead:=rfl;rw[hav]at h2;rcases hv with⟨o',hv⟩ | hv | hv<;>rw[hv]at h2<;>cases h2
        exact .inl ⟨_,rfl⟩
       ·rename_i e;rw[e]at h2;cases h2;exact hv
       ·rename_i e;rw[e]at h2;cases h2;exact hv
       ·rename_i e;rw[e]at h2;simp only[opA,qc]at h2;have hav:aev (F ops.toList l s0 qp i).tm (.tmp u')=(F ops.toList l s0 qp i).tm.getD u' .dead:=rfl;rw[hav]at h2;rcases hv with⟨o',hv⟩ | hv | hv<;>rw[hv]at h2<;>cases h2
        exact .inl ⟨_,rfl⟩
      ·rw[h2];exact .inr (.inl rfl)
     ·exact .inr (.inr rfl)
    ·cases hu
 exact key 6 k t hk hu
theorem qMZ(hT:qdw C ex ops l s0){k i:Nat}{t:Tmp}{b:Nat}(hk:k<=ops.size)(h:yW s0.tm ops i t=some b):yW (F ops.toList l s0 qp k).tm ops i t=some b:=by
 unfold yW at h |-
 split at h
 case h_2=>cases h
 rename_i u hu
 have key:∀(n i:Nat) (t:Tmp),qme ops n i t=some u->qdA ops.toList u=[]:=by
  intro n
  induction n with
  | zero=>intro i t h;cases h
  | succ n ih =>
    intro i t h;rw[qme]at h;split at h
    ·rename_i hw;cases h;exact hw
    ·split at h
     ·exact ih _ _ h
     ·cases h
    ·cases h
 rw[qjd hT.recd (a:=0) (λ k q _ hq=>qlq (key 6 i t hu) hq) (we _) hk];exact h
theorem qK3(hT:qdw C ex ops l s0){k:Nat}{t:Tmp}(hk:k<=ops.size)(h:qdy s0.tm ops k t=true):qKS ((F ops.toList l s0 qp k).tm.getD t .dead)=true\/(F ops.toList l s0 qp k).tm.getD t .dead = .tup []\/(F ops.toList l s0 qp k).tm.getD t .dead = .dead:=by
 unfold qdy at h;split at h
 case h_2=>cases h
 rename_i u hu
 have key:∀(n k:Nat) (t:Tmp),k<=ops.size->qme ops n k t=some u->qKS ((F ops.toList l s0 qp k).tm.getD t .dead)=true\/(F ops.toList l s0 qp k).tm.getD t .dead = .tup []\/(F ops.toList l s0 qp k).tm.getD t .dead = .dead:=by
  intro n
  induction n with
  | zero=>intro k t _ h;cases h
  | succ n ih =>
    intro k t hk hu;rw[qme]at hu;split at hu
    ·rename_i hw;cases hu;left;rw[qjd hT.recd (a:=0) (λ k q _ hq=>qlq hw hq) (we _) hk];exact h
    ·rename_i o i hw;obtain⟨ho,hd,hother⟩:=qtu hw;split at hu
     case h_2=>cases hu
     rename_i u' hop hik;have hik:=of_decide_eq_true hik;have hsz:i<ops.size:=(Array.getElem?_eq_some_iff.1 ho).1;have hv:=ih i u' (by omega) hu;rw[qjd hT.recd (a:=i+1) (λ k q hle hq=>hother k q hq (by omega)) (by omega) hk];obtain⟨y,h1,h2,_⟩:=hT.st i o ho;obtain⟨z,h3,_,hF⟩:=Jy hT.recd ho;rw[h1]at h3;cases h3;rw[hF,if_pos (show qp i=true from rfl),qsJ _ _ _ _ hd];split
     ·rcases h2 with⟨_,h2⟩ | ⟨_,h2⟩
      ·unfold qLX at hop;split at hop<;>cases hop
       ·rename_i e;rw[e]at h2;simp only[opA,qc]at h2;split at h2<;>try cases h2
        split at h2<;>try cases h2
        split at h2<;>try cases h2
        have hav:aev (F ops.toList l s0 qp i).tm (.tmp u')=(F ops.toList l s0 qp i).tm.getD u' .dead:=rfl;rw[hav]at h2;rcases hv with hv | hv | hv
        ·cases hg:(F ops.toList l s0 qp i).tm.getD u' .dead<;>rw[hg]at hv h2<;>first | (cases hv;done) | (cases h2;exact .inl rfl)
        ·rw[hv]at h2;cases h2
        ·rw[hv]at h2;cases h2
       ·rename_i e;rw[e]at h2;cases h2;exact hv
       ·rename_i e;rw[e]at h2;cases h2;exact hv
       ·rename_i e;rw[e]at h2;simp only[opA,qc]at h2;have hav:aev (F ops.toList l s0 qp i).tm (.tmp u')=(F ops.toList l s0 qp i).tm.getD u' .dead:=rfl;rw[hav]at h2;rcases hv with hv | hv | hv
        ·cases hg:(F ops.toList l s0 qp i).tm.getD u' .dead<;>rw[hg]at hv h2<;>first | (cases hv;done) | (cases h2;exact .inl rfl)
        ·rw[hv]at h2;cases h2
        ·rw[hv]at h2;cases h2
      ·rw[h2];exact .inr (.inl rfl)
     ·exact .inr (.inr rfl)
    ·cases hu
 exact key 6 k t hk hu
theorem qp3{b:Nat->Bool}{o:Oper}{t:TypeId}{a:Operand}(h:o.op=.load t a):zp b o.op=false:=by rw[h];rfl
theorem qxo{b:List AV}{j i:Nat}{o q:Oper}(c:zp C.lo q.op=true)(ho:∀t a,o.op=.load t (.tmp a)->yW b ops j a=none/\qdy b ops j a=false):qfM b ops j o i q=false:=by
 grind [qfM,qi6,Bool.or_eq_false_iff,qp3]
theorem qvQ{b:List AV}{j i:Nat}{o q:Oper}{t:TypeId}{a:Tmp}(ho:o.op=.load t (.tmp a))(h:qfM b ops j o i q=true):(∃e c v x,q.op=.store e (.tmp c) v/\yW b ops i c=some x/\((∃y,yW b ops j a=some y/\x≠y)\/yW b ops j a=none/\qdy b ops j a=true))\/yW b ops j a≠none/\(∃as ts,q.op=.call ⟨.builtin .append,as,ts⟩)\/yW b ops j a≠none/\∃g as ts,q.op=.call ⟨.value g,as,ts⟩:=by
 unfold qfM at h;rw[wU]at h;obtain h|h:=h
 .grind [qi6]
 .unfold qi6 at h;split at h
  .rename_i r u n p s m d;rw[ho]at d;cases d;split at h
   .rename_i x y k f;exact .inl ⟨_,_,_,x,m,k,.inl ⟨y,f,λ l=>by rw[l]at h;simp at h⟩⟩
   .grind
   .cases h
  .grind
  .grind
  .cases h
theorem qm1{a:Nat->Bool}{op:Op}(h:zp a op=true):qmk a op=false:=by
 unfold zp at h;unfold qmk;grind
theorem qzW{a:Nat->Bool}{b:List AV}{j i:Nat}{o q:Oper}(d:zp a o.op=true)(c:zp a q.op=true):qjB a b ops j o i q=true:=by
 have e:qfM b ops j o i q=false:=by
  grind [qfM,qi6,qp3,Bool.or_eq_false_iff]
 simp only[qjB,qo6,qlC,d,c,qm1 d,qm1 c,e,xG,xt,xh,vd]
theorem qDw{a:Nat->Bool}(h:qcG a ops=true):∀(i j:Nat) (o q:Oper),ops[j]?=some o->ops[i]?=some q->i≠j->qpv a ops o q=true->((QX ops.toList []).getD (max i j) 0).testBit (min i j)=true:=by
 have b:∀(i:Nat) (o:Oper),ops[i]?=some o->(o,i)∈ops.toList.zipIdx:=λ i o ho=>by
  grind
 simp only[qcG,wv,wc,decide_eq_true_eq,wU,wQ]at h;grind
theorem qko{a:Nat->Bool}{b:List AV}(h:qbP a b ops=true):qcG a ops=true:=by
 simp only[qbP,wv,wc,decide_eq_true_eq,wU,wQ]at h;simp only[qcG,wv,wc,decide_eq_true_eq,wU,wQ];intro p hp;let⟨e,d⟩:=h p hp;refine⟨e,λ q c=>?_⟩;obtain (g|g)|g:=d q c
 .exact .inl (.inl g)
 .refine .inl (.inr ?_);unfold qpv;grind [qjB,Bool.or_eq_false_iff,qzW]
 .exact .inr g
theorem qLh{a:Nat->Bool}(hk:qcG a ops=true)(hd:qcE ops L){i j:Nat}{o q:Oper}(ho:ops[j]?=some o)(c:ops[i]?=some q)(b:i≠j)(d:qpv a ops o q=true)(hL:L j=false)(hp:∀e∈jG o,L e=true):(i<j->L i=true)/\(j<i->L i=false):=
 qxI hd ho c b (qDw hk i j o q ho c b d) hL hp
def qfv(σ:St)(b:Nat):Option (List AV):=match σ.bx[b]? with
 |some cs=>match noMc cs with
   |true=>some cs
   |false=>none
 |none=>none
def qoL(σ:St):List Row×(Nat->Option (List AV)):=(σ.rw,qfv σ)
theorem qxx{s:S}{op:Op}{x:AV}{σ':St}(a:qqZ op=true)(h:opA C ex s.tm s.σ op=some (x,some σ')):qoL σ'=qoL s.σ:=by
 unfold qqZ at a;split at a<;>try cases a
 rename_i t q;cases q with
 |some q=>simp only[opA,qc]at h;cases h
 |none=>
   simp only[opA,qc]at h;split at h<;>cases h;refine Prod.ext rfl (funext λ b=>?_);rename_i d e c i g _;show qfv {s.σ with bx:=s.σ.bx++[[.mc d e c [] []]]} b=qfv s.σ b;unfold qfv;by_cases f:b<s.σ.bx.length
   .grind
   .rw[List.getElem?_append_right (by omega),List.getElem?_eq_none (l:=s.σ.bx) (by omega)];cases b-s.σ.bx.length<;>rfl
theorem qtO{d:TD}{σ:St}{b o:Nat}:jH d σ (.ptr b o)=match qfv σ b with|some cs=>qcr d.agg d.size cs o|none=>none:=by
 simp only[jH,qfv];grind
theorem qKm{d:TD}{σ σ':St}{p:AV}(h:qoL σ'=qoL σ):jH d σ' p=jH d σ p:=by
 have c:σ'.rw=σ.rw:=congrArg Prod.fst h;have a:qfv σ'=qfv σ:=congrArg Prod.snd h;cases p with
 |ptr b o=>rw[qtO,qtO,a]
 |rpt r i o e=>simp only[jH,c]
 |_=>rfl
theorem qFL{a:List AV}{σ σ':St}{t:TypeId}{x i:Operand}(h:σ'.rw=σ.rw):qc C a σ' (.indexAddr t x i)=qc C a σ (.indexAddr t x i):=by
 simp only[qc,h]
mutual
theorem qIo(fb fr:Nat->Nat):∀x:AV,rb (ren fb fr x)=[]->rr (ren fb fr x)=[]->rb x=[]/\rr x=[]
 |.ptr b o,h,_|.mp b,h,_=>by simp[ren,rb]at h
 |.rs ..,_,h|.rpt ..,_,h=>by simp[ren,rr]at h
 |.fn f cs,h,g|.agg cs,h,g|.tup cs,h,g=>qsy fb fr cs h g
 |.v _,_,_|.dead,_,_|.sl ..,_,_|.ept ..,_,_|.mc ..,_,_=>⟨rfl,rfl⟩
theorem qsy(fb fr:Nat->Nat):∀cs:List AV,rbL (qY fb fr cs)=[]->rrL (qY fb fr cs)=[]->rbL cs=[]/\rrL cs=[]
 |[],_,_=>⟨rfl,rfl⟩
 |x::cs,h,g=>by
   rw[qY,rbL,wZ]at h;rw[qY,rrL,wZ]at g;let⟨d,c⟩:=qIo fb fr x h.1 g.1;let⟨b,a⟩:=qsy fb fr cs h.2 g.2;grind [rbL,rrL]
end
theorem qvH{σ σ':St}{a:List AV}{c:St->List AV->Option (AV×Option St)}{r:AV}(m:rbL a=[])(l:rrL a=[])(s:jI r=true)(h:Qt σ a c=some (r,none)):Qt σ' a c=some (r,none):=by
 have i:∀τ:St,Qi τ a=[]:=λ τ=>by
  unfold Qi;rw[m];show qlF τ.bx τ.bx.length []=[];cases τ.bx.length<;>rfl
 have j:∀τ:St,qbl τ a=[]:=λ τ=>by
  unfold qbl;rw[i,l];rfl
 have p:∀τ:St,qfZ τ a=true:=λ τ=>by
  unfold qfZ;rw[i,j,m,l];rfl
 unfold Qt at h |-
 rw[p]at h |-
 rw[i,j]at h |-
 simp only at h |-
 have e:qI σ' [] []=qI σ [] []:=rfl;rw[e];cases k:c (qI σ [] []) (qY (λ b=>List.idxOf b []) (λ r=>List.idxOf r []) a)with
 |none=>rw[k]at h;cases h
 |some n=>
 rw[k]at h;let⟨x,o⟩:=n;cases o with
 |some τ=>cases h
 |none=>
   simp only[qf6,wz,wI,and_true]at h
   have q:∀(fb fr f d:Nat->Nat),jI (ren fb fr x)=true->ren fb fr x=ren f d x:=λ fb fr f d g=>by
    have g:=g;unfold jI at g;rw[wc,xe,xe]at g;grind [qIo,qr9]
   grind [qf6]
theorem qJG{σ σ':St}{f:Nat}{b:List AV}{x:AV}(y:C.lo f=false)(h:σ'.rw=σ.rw)(e:qds C ex σ f b=some (x,none)):qds C ex σ' f b=some (x,none):=by
 unfold qds at e |-
 rw[y]at e |-
 simp only at e |-
 rw[h];split at e<;>try cases e
 rename_i m d;split at e<;>try cases e
 rename_i D E c;split at e<;>cases e;rename_i i
 have p:rbL (b.map (jm σ.rw))=[]/\rrL (b.map (jm σ.rw))=[]:=by
  generalize b.map (jm σ.rw)=l at d
  induction l with
  |nil=>exact⟨rfl,rfl⟩
  |cons a l u=>
    simp only[noRefs,km,wc]at d;have g:=d.1;unfold jI at g;rw[wc,xe,xe]at g;let⟨w,v⟩:=u d.2;exact⟨by rw[rbL,g.1,w];rfl,by rw[rrL,g.2,v];rfl⟩
 have r:qbv C ex σ' f b=some (x,none):=by
  unfold qbv qhs at c |-
  rw[m]at c |-
  simp only at c |-
  rw[h];cases k:b.flatMap rsA with
  |nil=>
    rw[k]at c;exact qvH p.1 p.2 i c
  |cons q l=>
    rw[k]at c;simp only at c |-
    have n:∀o,Qt {σ with rw:=frz σ.rw (q::l),wrr:=(q::l)++σ.wrr} (b.map (jm σ.rw)) (λ σ b=>qbS C ex σ f b)=some (o,none)->jI o=true->Qt {σ' with rw:=frz σ.rw (q::l),wrr:=(q::l)++σ'.wrr} (b.map (jm σ.rw)) (λ σ b=>qbS C ex σ f b)=some (o,none):=λ o e1 A=>qvH p.1 p.2 A e1;cases j:Qt {σ with rw:=frz σ.rw (q::l),wrr:=(q::l)++σ.wrr} (b.map (jm σ.rw)) (λ σ b=>qbS C ex σ f b)with
    |none=>rw[j]at c;cases c
    |some z=>
      rw[j]at c;let⟨B,t⟩:=z;cases t with
      |some τ=>cases c
      |none=>
        simp only[qoa]at c;split at c<;>cases c;rename_i s;rw[n _ j i];simp only[qoa,s]
 rw[r];simp only[i]
theorem qJW{b:List AV}{σ σ':St}{op:Op}{x:AV}(c:qmk C.lo op=true)(e:qoL σ'=qoL σ)(h:opA C ex b σ op=some (x,none)):opA C ex b σ' op=some (x,none):=by
 have d:σ'.rw=σ.rw:=congrArg Prod.fst e;unfold qmk at c;split at c<;>try cases c
 .rename_i t a;simp only[opA,qc]at h |-
  grind [qKm]
 .rename_i t a i;have h:qc C b σ (.indexAddr t a i)=some (x,none):=h;show qc C b σ' (.indexAddr t a i)=some (x,none);rw[qFL d];exact h
 .grind [opA,qgH,aev,Bool.not_eq_true',qJG]
theorem qwU{f:Type}:∀(a:List Nat) (l xs:List f) (b:Nat),b<l.length->b ∉ a->(zX l a xs)[b]?=l[b]?
 |[],l,xs,b,d,_=>by rw[zX,List.getElem?_append_left d]
 |c::a,l,[],b,d,_=>rfl
 |c::a,l,x::xs,b,d,e=>by
   rw[zX,qwU a _ xs b (by rw[wH];exact d) λ h=>e (wg _ h),List.getElem?_set_ne λ h=>e (by rw[h];exact wh ..)]
theorem qLV{j:List AV}{σ σ':St}{g:Operand}{as:Array Operand}{ts:Array TypeId}{x:AV}(h:opA C ex j σ (.call ⟨.value g,as,ts⟩)=some (x,some σ')){b:Nat}(l:b<σ.bx.length)(c:b ∉ qvD C j σ (.call ⟨.value g,as,ts⟩)):σ'.bx[b]?=σ.bx[b]?:=by
 simp only[opA]at h;simp only[qvD]at c;split at h<;>try cases h
 rename_i f d s;rw[s]at c;have c:b ∉ (match C.inl f with|some _=>List.range σ.bx.length|none=>match qhs C σ f (as.toList.map (aev j)++d)with|(a,none)=>Qi σ a|(a,some σ')=>Qi σ' a):=c;obtain⟨fn,y,_⟩|h:=qpP h
 .grind
 cases k:C.inl f with
 |some fn=>rw[k]at c;exact absurd (k9.2 l) c
 |none=>
 rw[k]at c;have c:b ∉ (match qhs C σ f (as.toList.map (aev j)++d)with|(a,none)=>Qi σ a|(a,some σ')=>Qi σ' a):=c
 have m:∀{τ i:St}{a:List AV}{e:St->List AV->Option (AV×Option St)}{z:AV},Qt τ a e=some (z,some i)->b<τ.bx.length->b ∉ Qi τ a->i.bx[b]?=τ.bx[b]?:=by
  intro τ i a e z h l c;unfold Qt at h;split at h<;>try cases h
  split at h<;>try cases h
  rename_i r v;let⟨u,q⟩:=r;cases q with
  |none=>simp[qf6]at h
  |some n=>
    simp only[qf6,wz,wI]at h;rw[<-h.2];exact qwU _ _ _ _ l c
 unfold qbv at h;generalize w:qhs C σ f (as.toList.map (aev j)++d)=p at h c;let⟨a,o⟩:=p;cases o with
 |none=>exact m h l c
 |some σ1=>
   have t:σ1.bx=σ.bx:=by
    grind [qhs]
   have c:b ∉ Qi σ1 a:=c;simp only at h;unfold qoa at h;grind
theorem qIu{s:S}{q:Oper}{as:Array Operand}{ts:Array TypeId}{x:AV}{σ':St}(c:q.op=.call ⟨.builtin .append,as,ts⟩)(h:opA C ex s.tm s.σ q.op=some (x,some σ')):σ'.bx=s.σ.bx:=by
 rw[c]at h;simp only[opA]at h;generalize as.toList.map (aev s.tm)=b at h
 have a:∀k bytes p xs,yf k bytes s.σ p xs=some (x,some σ')->σ'.bx=s.σ.bx:=by
  intro k bytes p xs h;unfold yf at h;grind
 unfold jz at h;split at h<;>try cases h
 all_goals repeat' (first|(cases h;done)|exact a _ _ _ _ h|split at h)
theorem qic{s:S}{q:Oper}{t:TypeId}{c:Tmp}{v:Operand}{x:AV}{σ':St}(j:q.op=.store t (.tmp c) v)(h:opA C ex s.tm s.σ q.op=some (x,some σ')):(∃b o,s.tm.getD c .dead=.ptr b o/\σ'.rw=s.σ.rw/\∀a,a≠b->σ'.bx[a]?=s.σ.bx[a]?)\/∃r i o g,s.tm.getD c .dead=.rpt r i o g:=by
 rw[j]at h;simp only[opA,qc]at h;split at h<;>try cases h
 .rename_i d b o hd f;split at h<;>try cases h
  split at h<;>cases h;exact .inl ⟨b,o,f,rfl,λ a e=>by simp only[List.getElem?_set_ne (xT e)]⟩
 .rename_i d r i o g hd f;exact .inr ⟨r,i,o,g,f⟩
section
variable (hR:qu7 C ops l) (hk:qcG C.lo ops=true) (hd:qcE ops L) {j:Nat}{o:Oper} (ho:ops[j]?=some o) (hL:L j=false) (hp:∀e∈jG o,L e=true)
include hR hk hd ho hL hp
theorem ql4{t:Nat}(r:t∈qbc ops o):(F ops.toList l s0 L ops.size).tm.getD t .dead=(F ops.toList l s0 qp j).tm.getD t .dead:=by
 have u:j<ops.size:=(Array.getElem?_eq_some_iff.1 ho).1
 have f:∀{k:Nat}{q:Oper},ops[k]?=some q->k≠j->q.dst=some t->(k<j->L k=true)/\(j<k->L k=false):=λ c n a=>
  qLh hk hd ho c n (by simp[qpv,a,r]) hL hp
 have i:∀k,k<=j->(F ops.toList l s0 L k).tm.getD t .dead=(F ops.toList l s0 qp k).tm.getD t .dead:=by
  intro k
  induction k with
  |zero=>intro _;rfl
  |succ k d=>
    intro p;obtain⟨q,c⟩:=jp (ops:=ops) (k:=k) (by omega);obtain⟨y,_,_,g⟩:=Jy hR c;rw[g L,g qp,if_pos (show qp k=true from rfl)];by_cases a:q.dst=some t
    .rw[if_pos ((f c (by omega) a).1 (by omega)),qsJ _ _ _ _ a,qsJ _ _ _ _ a,qBv,qBv]
    .rw[qkJ _ _ _ _ a];split
     .rw[qkJ _ _ _ _ a];exact d (by omega)
     .exact d (by omega)
 have e:∀m,j+m<=ops.size->(F ops.toList l s0 L (j+m)).tm.getD t .dead=(F ops.toList l s0 L j).tm.getD t .dead:=by
  intro m
  induction m with
  |zero=>intro _;rfl
  |succ m d=>
    intro p;obtain⟨q,c⟩:=jp (ops:=ops) (k:=j+m) (by omega);obtain⟨y,_,_,g⟩:=Jy hR c;show(F ops.toList l s0 L (j+m+1)).tm.getD t .dead=_;rw[g L];split
    .rename_i b;have s:m≠0:=λ h=>by subst h;rw[wL,hL]at b;cases b
     rw[qkJ _ _ _ _ λ a=>by have:=(f c (by omega) a).2 (by omega);rw[this]at b;cases b];exact d (by omega)
    .exact d (by omega)
 have:=e (ops.size-j) (by omega);rw[show j+(ops.size-j)=ops.size by omega]at this;rw[this,i j (wa _)]
theorem qFz{y:AV×Option St}(p:l[j]?=some y)(n:y.2.isSome=true->zp C.lo o.op=true):F ops.toList l s0 (λ i=>decide (i=j)||L i) ops.size=yd (F ops.toList l s0 L ops.size) o y:=by
 have E:j<ops.size:=(Array.getElem?_eq_some_iff.1 ho).1;have f:∀k,k≠j->(decide (k=j)||L k)=L k:=λ k hk=>by simp[hk]
 have h:F ops.toList l s0 (λ i=>decide (i=j)||L i) j=F ops.toList l s0 L j:=qBk j λ i G=>f i (by omega)
 have b:∀m,j+1+m<=ops.size->F ops.toList l s0 (λ i=>decide (i=j)||L i) (j+1+m)=yd (F ops.toList l s0 L (j+1+m)) o y:=by
  intro m
  induction m with
  |zero=>
    intro _;obtain⟨z,g,_,c⟩:=Jy hR ho;rw[p]at g;cases g;show F _ _ _ _ (j+1)=yd (F _ _ _ _ (j+1)) o y;rw[c,c,if_pos (by simp),h,hL];simp
  |succ m x=>
    intro B;obtain⟨q,s⟩:=jp (ops:=ops) (k:=j+1+m) (by omega);obtain⟨z,_,D,c⟩:=Jy hR s;show F _ _ _ _ (j+1+m+1)=yd (F _ _ _ _ (j+1+m+1)) o y;rw[c,c];have e:=f (j+1+m) (by omega);rw[e,x (by omega)];split
    .rename_i a;refine qIY _ _ _ _ _ (λ d r t=>?_) ?_
     .have:=(qLh hk hd ho s (by omega) (by simp[qpv,r,qbc,t]) hL hp).2 (by omega);rw[this]at a;cases a
     .cases A:y.2 with
      |none=>exact .inl rfl
      |some σ1=>
        cases g:z.2 with
        |none=>exact .inr rfl
        |some w=>
          have:=(qLh hk hd ho s (by omega) (by
           have v:=n (by rw[A];rfl);have u:=D (by rw[g];rfl);simp only[qpv,v,u,kR,xt]) hL hp).2 (by omega)
          rw[this]at a;cases a
    .rfl
 have:=b (ops.size-(j+1)) (by omega);grind
end
variable (hT:qdw C ex ops l s0) (hk:qbP C.lo s0.tm ops=true) (hd:qcE ops L) {j:Nat}{o:Oper} (ho:ops[j]?=some o) (hL:L j=false) (hp:∀e∈jG o,L e=true)
include hT hk hd ho hL hp
theorem qHb(w:(Qd o.op||zp C.lo o.op)=true)(r:qmk C.lo o.op=false)(u:∀t a,o.op=.load t (.tmp a)->yW s0.tm ops j a=none/\qdy s0.tm ops j a=false):(F ops.toList l s0 L ops.size).σ=(F ops.toList l s0 qp j).σ:=by
 have z:j<ops.size:=(Array.getElem?_eq_some_iff.1 ho).1
 have i:∀{k:Nat}{q:Oper},ops[k]?=some q->k≠j->zp C.lo q.op=true->(k<j->L k=true)/\(j<k->L k=false):=λ d s e=>
  ord hk hd ho d s (by simp only[qjB,qo6,qlC,e,w,r,qxo e u,xG,xh,xt,vd]) hL hp
 have p:∀k,k<=j->(F ops.toList l s0 L k).σ=(F ops.toList l s0 qp k).σ:=by
  intro k
  induction k with
  |zero=>intro _;rfl
  |succ k f=>
    intro v;obtain⟨q,d⟩:=jp (ops:=ops) (k:=k) (by omega);obtain⟨y,_,e,n⟩:=Jy hT.recd d;rw[n L,n qp,if_pos (show qp k=true from rfl)];cases c:y.2 with
    |none=>
      rw[putS_σ _ _ _ c];split
      .rw[putS_σ _ _ _ c];exact f (by omega)
      .exact f (by omega)
    |some σ'=>
      rw[if_pos ((i d (by omega) (e (by rw[c];rfl))).1 (by omega))];simp[yd,c,turn]
 have g:∀m,j+m<=ops.size->(F ops.toList l s0 L (j+m)).σ=(F ops.toList l s0 L j).σ:=by
  intro m
  induction m with
  |zero=>intro _;rfl
  |succ m f=>
    intro v;obtain⟨q,d⟩:=jp (ops:=ops) (k:=j+m) (by omega);obtain⟨y,_,e,n⟩:=Jy hT.recd d;show(F ops.toList l s0 L (j+m+1)).σ=_;rw[n L];split
    .rename_i b;have x:m≠0:=λ h=>by subst h;rw[wL,hL]at b;cases b
     cases c:y.2 with
     |none=>rw[putS_σ _ _ _ c];exact f (by omega)
     |some σ'=>
       have:=(i d (by omega) (e (by rw[c];rfl))).2 (by omega);rw[this]at b;cases b
    .exact f (by omega)
 have:=g (ops.size-j) (by omega);rw[show j+(ops.size-j)=ops.size by omega]at this;rw[this,p j (wa _)]
omit hp in
theorem qqG{Q:Type}(c:St->Q)(I:zp C.lo o.op=false)
  (g:∀{k:Nat}{q:Oper}{y:AV×Option St}{σ':St},ops[k]?=some q->l[k]?=some y->k≠j->y.2=some σ'->zp C.lo q.op=true->
   ((k<j->L k=true)/\(j<k->L k=false))\/c σ'=c (F ops.toList l s0 qp k).σ):c (F ops.toList l s0 L ops.size).σ=c (F ops.toList l s0 qp j).σ:=by
 have W:j<ops.size:=(Array.getElem?_eq_some_iff.1 ho).1
 have E:∀k,k<=j->c (F ops.toList l s0 L k).σ=c (F ops.toList l s0 qp k).σ:=by
  intro k
  induction k with
  |zero=>intro _;rfl
  |succ k u=>
    intro K;obtain⟨q,p⟩:=jp (ops:=ops) (k:=k) (by omega);obtain⟨y,t,N,A⟩:=Jy hT.recd p;rw[A L,A qp,if_pos (show qp k=true from rfl)];cases d:y.2 with
    |none=>
      rw[putS_σ _ _ _ d];split
      .rw[putS_σ _ _ _ d];exact u (by omega)
      .exact u (by omega)
    |some σ'=>
      rcases g p t (by omega) d (N (by rw[d];rfl))with h|h
      .rw[if_pos (h.1 (by omega))];simp[yd,d,turn]
      .have e:∀s:S,(yd s q y).σ=σ':=λ s=>by simp[yd,d,turn]
       rw[e,h];split
       .rw[e,h]
       .exact u (by omega)
 have z:∀m,j+m<=ops.size->c (F ops.toList l s0 L (j+m)).σ=c (F ops.toList l s0 L j).σ:=by
  intro m
  induction m with
  |zero=>intro _;rfl
  |succ m u=>
    intro K;obtain⟨q,p⟩:=jp (ops:=ops) (k:=j+m) (by omega);obtain⟨y,t,N,A⟩:=Jy hT.recd p;show c (F ops.toList l s0 L (j+m+1)).σ=_;rw[A L];split
    .rename_i f;have V:m≠0:=λ h=>by subst h;rw[wL,hL]at f;cases f
     cases d:y.2 with
     |none=>rw[putS_σ _ _ _ d];exact u (by omega)
     |some σ'=>
       have x:=N (by rw[d];rfl);rcases g p t (by omega) d x with h|h
       .have:=h.2 (by omega);rw[this]at f;cases f
       .have e:(yd (F ops.toList l s0 L (j+m)) q y).σ=σ':=by simp[yd,d,turn]
        rw[e,h]
        have G:∀n,j+n<=j+m->c (F ops.toList l s0 qp (j+n)).σ=c (F ops.toList l s0 qp j).σ:=by
         intro n
         induction n with
         |zero=>intro _;rfl
         |succ n v=>
           intro U;obtain⟨D,b⟩:=jp (ops:=ops) (k:=j+n) (by omega);obtain⟨y2,w,M,O⟩:=Jy hT.recd b;show c (F ops.toList l s0 qp (j+n+1)).σ=_;rw[O qp,if_pos (show qp (j+n)=true from rfl)];cases i:y2.2 with
           |none=>rw[putS_σ _ _ _ i];exact v (by omega)
           |some B=>
             have a:=M (by rw[i];rfl);by_cases J:n=0
             .subst J;rw[wL]at b;rw[ho]at b;cases b;rw[I]at a;cases a
             rcases g b w (by omega) i a with P|P
             .-- it lies ahead of the other loud one,which has come up
              exfalso;have H:=P.2 (by omega);have R:qjB C.lo s0.tm ops (j+m) q (j+n) D=true:=qzW x a;have r:=(qiQ hk).2 (j+n) (j+m) q D p b (by omega) R;rw[Nat.max_eq_right (by omega),kw (by omega)]at r;have:=qj3 hd (j+m) q p (hd (j+m) q p f) r;rw[H]at this;cases this
             .have T:(yd (F ops.toList l s0 qp (j+n)) D y2).σ=B:=by simp[yd,i,turn]
              rw[T,P];exact v (by omega)
        rw[G m (wa _),E j (wa _)]
    .exact u (by omega)
 have:=z (ops.size-j) (by omega);grind
theorem qID{t:TypeId}{a:Tmp}{b':Nat}(hop:o.op = .load t (.tmp a))(hbx:yW s0.tm ops j a=some b'):qfv (F ops.toList l s0 L ops.size).σ b'=qfv (F ops.toList l s0 qp j).σ b':=by
 have see:∀{σ σ':St},σ'.bx[b']? = σ.bx[b']? -> qfv σ' b'=qfv σ b' := λ h=>by unfold qfv;rw[h]
 have hj:j<ops.size:=(Array.getElem?_eq_some_iff.1 ho).1;have hrd:Qd o.op=true:=by rw[hop];rfl
 refine qqG hT hk hd ho hL (λ σ => qfv σ b') (by rw[hop];rfl) ?_
 show ∀{k:Nat} {q:Oper} {y:AV × Option St} {σ':St},ops[k]?=some q->l[k]?=some y->k≠j->y.2=some σ'->zp C.lo q.op=true ->
  ((k<j->L k=true)/\(j<k->L k=false))\/qfv σ' b'=qfv (F ops.toList l s0 qp k).σ b'
 ·intro k q y σ' hq hy hne hy2 hl;by_cases hmk:qqZ q.op=true
  ·obtain⟨z,hz,hstep,_⟩:=hT.st k q hq;rw[hy]at hz;cases hz;obtain⟨y1,y2⟩:=y;simp only at hy2;subst hy2;rcases hstep with⟨_,hs⟩ | ⟨_,hs⟩
   ·exact .inr (congrFun (congrArg Prod.snd (qxx hmk hs)) b')
   ·cases hs
  rw[kz]at hmk;cases hap:qfM s0.tm ops j o k q with
  | false=>exact .inl (ord hk hd ho hq hne (by simp only[qjB,qo6,qlC,hl,hrd,hmk,hap,kV,xh,xu,xt,vd]) hL hp)
  | true =>
    obtain⟨z,hz,hstep,_⟩:=hT.st k q hq;rw[hy]at hz;cases hz;obtain⟨y1,y2⟩:=y;simp only at hy2;subst hy2;rcases qvQ hop hap with⟨t',c,v,x,h1,h2,h3⟩ | ⟨_,as,ts,h1⟩ | ⟨_,g,as,ts,h1⟩
    case inr.inr =>
     have hsp:=hT.sp k q _ hq hy rfl;have hks:k<=ops.size:=xI (Array.getElem?_eq_some_iff.1 hq).1;rw[h1]at hsp;unfold qbf at hstep;rw[h1]at hstep;unfold qcx at hsp;rw[show qy0 (.call ⟨.value g,as,ts⟩)=true from rfl,waw,xU,wv]at hsp;have hsj:=hsp (o,j) (by rw[xc];simpa using ho);simp only[hop]at hsj;rw[qMZ hT hks hbx]at hsj;simp only[wU,wc,decide_eq_true_eq,wQ]at hsj;grind [qxI,Nat.max_comm,Nat.min_comm,qLV]
    all_goals right
    case inr.inl =>
     rcases hstep with⟨_,hs⟩ | ⟨_,hs⟩
     ·grind [qIu]
     ·cases hs
    rcases h3 with⟨y',h3,h4⟩ | ⟨h3,_⟩
    case inr=>rw[hbx]at h3;cases h3
    rw[hbx]at h3;cases h3;rcases hstep with⟨_,hs⟩ | ⟨_,hs⟩
    ·have hks:k<=ops.size:=xI (Array.getElem?_eq_some_iff.1 hq).1;rcases qic h1 hs with⟨b,off,g1,_,g2⟩ | ⟨r',i',o',ep',g1⟩
     ·rcases qpE hT hks h2 with⟨off',g3⟩ | g3 | g3
      ·grind
      ·rw[g3]at g1;cases g1
      ·rw[g3]at g1;cases g1
     ·rcases qpE hT hks h2 with⟨off',g3⟩ | g3 | g3
      ·rw[g3]at g1;cases g1
      ·rw[g3]at g1;cases g1
      ·rw[g3]at g1;cases g1
    ·cases hs
theorem qM2{t:TypeId}{a:Tmp}(hop:o.op = .load t (.tmp a))(hbx:yW s0.tm ops j a=none):(F ops.toList l s0 L ops.size).σ.rw=(F ops.toList l s0 qp j).σ.rw:=by
 have hrd:Qd o.op=true:=by rw[hop];rfl
 refine qqG hT hk hd ho hL (λ σ => σ.rw) (by rw[hop];rfl) ?_;intro k q y σ' hq hy hne hy2 hl;by_cases hmk:qqZ q.op=true
 ·obtain⟨z,hz,hstep,_⟩:=hT.st k q hq;rw[hy]at hz;cases hz;obtain⟨y1,y2⟩:=y;simp only at hy2;subst hy2;rcases hstep with⟨_,hs⟩ | ⟨_,hs⟩
  ·exact .inr (congrArg Prod.fst (qxx hmk hs))
  ·cases hs
 rw[kz]at hmk;cases hap:qfM s0.tm ops j o k q with
 | false=>exact .inl (ord hk hd ho hq hne (by simp only[qjB,qo6,qlC,hl,hrd,hmk,hap,kV,xh,xu,xt,vd]) hL hp)
 | true =>
   obtain⟨z,hz,hstep,_⟩:=hT.st k q hq;rw[hy]at hz;cases hz;obtain⟨y1,y2⟩:=y;simp only at hy2;subst hy2;rcases qvQ hop hap with⟨t',c,v,x,h1,h2,_⟩ | ⟨h,_⟩ | ⟨h,_⟩
   case inr.inl=>exact absurd hbx h
   case inr.inr=>exact absurd hbx h
   right;have hks:k<=ops.size:=xI (Array.getElem?_eq_some_iff.1 hq).1;rcases hstep with⟨_,hs⟩ | ⟨_,hs⟩
   ·rcases qic h1 hs with⟨b,off,g1,g2,_⟩ | ⟨r',i',o',ep',g1⟩
    ·exact g2
    ·rcases qpE hT hks h2 with⟨off',g3⟩ | g3 | g3<;>rw[g3]at g1<;>cases g1
   ·cases hs
theorem qJi(e:qmk C.lo o.op=true)(g:Qd o.op=true)(i:∀t a,o.op=.load t (.tmp a)->yW s0.tm ops j a=none/\qdy s0.tm ops j a=false):qoL (F ops.toList l s0 L ops.size).σ=qoL (F ops.toList l s0 qp j).σ:=by
 refine qqG hT hk hd ho hL qoL (by
  cases m:zp C.lo o.op with
  |false=>rfl
  |true=>rw[qm1 m]at e;cases e) ?_
 intro k q y σ' p s h d r;by_cases c:qqZ q.op=true
 .let⟨z,n,b,_⟩:=hT.st k q p;rw[s]at n;cases n;let⟨y1,y2⟩:=y;simp only at d;subst d;obtain⟨_,f⟩|⟨_,f⟩:=b
  .exact .inr (qxx c f)
  .cases f
 .rw[kz]at c;exact .inl (ord hk hd ho p h (by simp only[qjB,qo6,qlC,r,g,c,qxo r i,kV,xh,xu,xt,vd]) hL hp)
theorem qEl:∃y,l[j]?=some y/\qbf C ex ops o (F ops.toList l s0 L ops.size) y/\F ops.toList l s0 (λ i=>decide (i=j)||L i) ops.size=yd (F ops.toList l s0 L ops.size) o y:=by
 have H:j<ops.size:=(Array.getElem?_eq_some_iff.1 ho).1;let⟨y,q,A,h⟩:=hT.st j o ho;refine⟨y,q,?_,?_⟩
 .have E:=qki (ops:=ops) (o:=o) λ t G=>ql4 (s0:=s0) hT.recd (qko hk) hd ho hL hp G
  have s:=qud (C:=C) (ex:=ex) (op:=o.op) (σ:=(F ops.toList l s0 L ops.size).σ) (qr0 (xs:=o.op.operands.toList) λ t G=>ql4 (s0:=s0) hT.recd (qko hk) hd ho hL hp (t:=t) (by
   grind [qbc]))
  obtain⟨p,c⟩|⟨p,c⟩:=A
  .refine .inl ⟨E.trans p,?_⟩;rw[s];by_cases k:(Qd o.op||zp C.lo o.op)=true
   .by_cases m:∃t a b,o.op=.load t (.tmp a)/\yW s0.tm ops j a=some b
    .let⟨t,a,b,e1,w⟩:=m;have n:=qID hT hk hd ho hL hp e1 w;rw[e1]at c |-
     have B:j<=ops.size:=xI H;simp only[opA,qc]at c |-
     split at c<;>try cases c
     rename_i d D;have r:aev (F ops.toList l s0 qp j).tm (.tmp a)=(F ops.toList l s0 qp j).tm.getD a .dead:=rfl;rw[r]at c |-
     obtain⟨off,g⟩|g|g:=qpE hT B w
     .grind [qtO]
     .rw[g]at c;cases c
     .rw[g]at c;cases c
    .by_cases v:∃t a,o.op=.load t (.tmp a)/\qdy s0.tm ops j a=true
     .let⟨t,a,e1,w⟩:=v
      have I:=qM2 hT hk hd ho hL hp e1 (by
       cases n:yW s0.tm ops j a with
       |none=>rfl
       |some b=>exact absurd ⟨t,a,b,e1,n⟩ m)
      rw[e1]at c |-
      simp only[opA,qc]at c |-
      split at c<;>try cases c
      rename_i d D;have r:aev (F ops.toList l s0 qp j).tm (.tmp a)=(F ops.toList l s0 qp j).tm.getD a .dead:=rfl;rw[r]at c |-
      obtain g|g|g:=qK3 hT (xI H) w
      .cases J:(F ops.toList l s0 qp j).tm.getD a .dead<;>rw[J]at g c<;>first|(cases g;done)|skip
       .grind [jH]
       .exact c
      .rw[g]at c;cases c
      .rw[g]at c;cases c
     .have u:∀t a,o.op=.load t (.tmp a)->yW s0.tm ops j a=none/\qdy s0.tm ops j a=false:=λ t a p=>⟨by
        cases n:yW s0.tm ops j a with
        |none=>rfl
        |some b=>exact absurd ⟨t,a,b,p,n⟩ m,by
        cases n:qdy s0.tm ops j a with
        |false=>rfl
        |true=>exact absurd ⟨t,a,p,n⟩ v⟩
      cases e:qmk C.lo o.op with
      |false=>rw[qHb hT hk hd ho hL hp k e u];exact c
      |true=>
        have f:zp C.lo o.op=false:=by
         cases f:zp C.lo o.op with
         |false=>rfl
         |true=>rw[qm1 f]at e;cases e
        rw[f,Bool.or_false]at k;have r:=qJi hT hk hd ho hL hp e k u;let⟨x,z⟩:=y;cases z with
        |some σ'=>have:=h rfl;rw[f]at this;cases this
        |none=>exact qJW e r c
   .simp only[kz,xq]at k;let⟨x,z⟩:=y;cases z with
    |none=>exact qD9 k.1 k.2 c
    |some σ'=>have:=h rfl;rw[k.2]at this;cases this
  .exact .inr ⟨E.trans p,c⟩
 .exact qFz (s0:=s0) hT.recd (qko hk) hd ho hL hp q h
theorem quQ:∃y,qbf C ex ops o (F ops.toList l s0 L ops.size) y/\F ops.toList l s0 (λ i=>decide (i=j)||L i) ops.size=yd (F ops.toList l s0 L ops.size) o y:=by
 grind [qEl]
end
end Go.AmZ
namespace Go.AmZ
open Go Go.RowKit
theorem qFf(ops:List Oper):∀l:List Oper,qHH ops l<=l.length
 |[]=>wa _
 |o::r=>by
   unfold qHH;split
   .exact we _
   .simpa using qFf ops r
theorem qrl(lo:Nat->Bool)(l:List Oper):qcI lo l<=l.length:=qFf l l
theorem qqY(o:Oper):(jV o).dst=o.dst:=by unfold jV;split<;>rfl
theorem qE2(o:Oper):(jV o).guard=o.guard:=by unfold jV;split<;>rfl
theorem qnm(o:Oper):jG (jV o)=jG o:=by unfold jV;split<;>rfl
theorem qpz{lo:Nat->Bool}{l:List Oper}:(qJ lo l).length=qcI lo l:=by simp[qJ,kw (qrl lo l)]
theorem qk0{lo:Nat->Bool}{l:List Oper}{j:Nat}(a:j<qcI lo l):(qJ lo l)[j]?=l[j]?.map jV:=by
 grind [qJ]
theorem quR{lo:Nat->Bool}{l:List Oper}{j:Nat}{o:Oper}(h:(qJ lo l)[j]?=some o):j<qcI lo l/\∃q,l[j]?=some q/\jV q=o:=by
 have a:j<qcI lo l:=by rw[<-qpz (lo:=lo) (l:=l)];exact getElem?_lt h
 rw[qk0 a]at h;grind
theorem qpA{lo:Nat->Bool}{ops:Array Oper}{c:List AV}{o:Oper}{b:Bool}(h:yw ⟨qJ lo ops.toList⟩ c (jV o)=some b):yw ops c o=some b:=by
 unfold yw at h |-
 rw[qE2]at h;cases e:o.guard with
 |none=>rw[e]at h;exact h
 |some p=>
   let⟨j,a⟩:=p;rw[e]at h;simp only at h |-
   cases d:(qJ lo ops.toList)[j]? with
   |none=>
     grind
   |some q=>
     let⟨l,f,i,g⟩:=quR d;have e1:(⟨qJ lo ops.toList⟩:Array Oper)[j]?=some q:=by simpa using d
     have k:ops[j]?=some f:=by simpa using i
     rw[e1]at h;rw[k];subst g;simp only[Option.bind_some,qqY]at h |-
     exact h
section
variable {P:Program}{C:Cfg}{Γ:Gh}{σ:St}{w:World}{ops:Array Oper}{ex:jP}{l:List (AV×Option St)}{s0:S}
theorem qwV{a:Array Bool}(h:a.toList.countP (λ b => !b)=0):∀i,i<a.size->a.getD i false=true:=by
 intro i c;rw[List.countP_eq_zero]at h;have:=h a[i] (by simp);simp only[wQ,Bool.not_eq_false]at this;rw[wJ,Array.getElem?_eq_getElem c];simpa using this
theorem qGk(hC:yq P C)(hx:qcR P ex){G:(Nat->Bool)->S}{Good:(Nat->Bool)->Prop}(z:∀L j,Good L->Good (λ i=>decide (i=j)||L i))(H:∀(j:Nat) (o:Oper),ops[j]?=some o->∀e∈jG o,e<j)(I:∀L,(∀i,i<ops.size->L i=true)->G L=G qp)
  (t:∀(L:Nat->Bool) (j:Nat) (o:Oper),qcE ops L->Good L->ops[j]?=some o->L j=false->(∀e∈jG o,L e=true)->∃y,qbf C ex ops o (G L) y/\G (λ i=>decide (i=j)||L i)=yd (G L) o y) {Q:Exit->Act->World->Prop}:∀(d:Nat) (c:Array Bool) (Γ:Gh) (w:World) (a:Act),c.size=ops.size->c.toList.countP (λ b => !b)=d->qcE ops (λ i=>c.getD i false)->Good (λ i=>c.getD i false)->
  Inv Γ (G (λ i=>c.getD i false)).σ w->zw Γ (G (λ i=>c.getD i false)).tm a->
  (∀Γ' w' a',Ext Γ w Γ' w'->Inv Γ' (G qp).σ w'->zw Γ' (G qp).tm a'->qO (G (λ i=>c.getD i false)).σ (G qp).σ->a'.defers=a.defers->Q .normal a' w')->
  wpAny P .any ops Q d c a w:=by
 intro d
 induction d with
 |zero=>
   intro c Γ w a g p M l D s V;have r:=qwV p
   have n:Region.ready .any ops c=[]:=by
    apply List.eq_nil_iff_forall_not_mem.2;intro j hj;let⟨h1,o,v,_⟩:=mem_ready.1 hj;grind
   have hF:G (λ i=>c.getD i false)=G qp:=I _ λ i D=>r i (by rw[g];exact D);rw[hF]at D s;exact⟨n,V Γ w a (.refl _ _) D s (by rw[hF];exact .refl _) rfl⟩
 |succ d ih=>
   intro c Γ w a g p M l D s V;refine⟨λ n=>?_,λ j hj=>?_⟩
   .exfalso
    have aa:∃i,i<c.size/\c.getD i false=false:=by
     apply xL;intro X
     have:c.toList.countP (λ b => !b)=0:=by
      rw[List.countP_eq_zero];intro b hb;obtain⟨i,f,rfl⟩:=List.getElem_of_mem hb;intro ad;refine X ⟨i,by simpa using f,?_⟩;rw[wJ,Array.getElem?_eq_getElem (by simpa using f)];simpa using ad
     rw[p]at this;cases this
    let⟨i0,h0,h1⟩:=aa
    have O:∀i,i<c.size->c.getD i false=false->False:=by
     intro i
     induction i using Nat.strongRecOn with
     |_ i R=>
       intro f hf;let⟨o,v⟩:=jp (ops:=ops) (k:=i) (by rw[<-g];exact f)
       have hr:i∈Region.ready .any ops c:=by
        refine mem_ready.2 ⟨?_,o,v,λ e J hb=>?_⟩
        .rw[wJ,Array.getElem?_eq_getElem f]at hf |-
         simpa using hf
        .have ab:e.on∈jG o:=wA.2 ⟨e,kO.2 ⟨by simpa using J,hb⟩,rfl⟩;have Y:=H i o v e.on ab;cases hc:c.getD e.on false with
         |true=>rfl
         |false=>exact(R e.on Y (by omega) hc).elim
       rw[n]at hr;cases hr
    exact O i0 h0 h1
   .let⟨h1,o,v,r⟩:=mem_ready.1 hj;have A:j<ops.size:=(Array.getElem?_eq_some_iff.1 v).1
    have hL:c.getD j false=false:=by
     grind
    have hp:∀e∈jG o,c.getD e false=true:=λ e J=>by
     obtain⟨ed,af,rfl⟩:=wA.1 J;grind
    let⟨y,hy,ae⟩:=t _ j o M l v hL hp
    have m:(λ i=>(c.setIfInBounds j true).getD i false)=λ i=>decide (i=j)||c.getD i false:=by
     funext i;by_cases B:i=j
     .subst B;rw[wJ,Array.getElem?_setIfInBounds_self_of_lt (by rw[g];exact A)];simp
     .rw[getD_set_ne false (xT B)];simp[B]
    have F:(c.setIfInBounds j true).size=ops.size:=by rw[xO,g]
    have K:(c.setIfInBounds j true).toList.countP (λ b => !b)=d:=by
     have Z:j<c.toList.length:=by simp[g,A]
     rw[xw,List.countP_set (h:=Z),p]
     have:c.toList[j]=false:=by
      rw[wJ,Array.getElem?_eq_getElem (by rw[g];exact A)]at hL;simpa using hL
     rw[this];simp
    have ac:qcE ops (λ i=>(c.setIfInBounds j true).getD i false):=by
     rw[m];intro i q U f e J;simp only[wU,decide_eq_true_eq]at f |-
     obtain rfl|f:=f
     .grind
     .exact .inr (M i q U f e J)
    unfold wpOp;rw[v];simp only
    have next:∀Γ' w' u,Ext Γ w Γ' w'->Inv Γ' (turn (G (λ i=>c.getD i false)).σ y.2) w'->Rep Γ' y.1 u->qO (G (λ i=>c.getD i false)).σ (turn (G (λ i=>c.getD i false)).σ y.2)->
      wpAny P .any ops Q d (c.setIfInBounds j true) (a.put o.dst u) w':=by
     intro Γ' w' u e1 e2 e3 e4;have E:G (λ i=>(c.setIfInBounds j true).getD i false)=yd (G (λ i=>c.getD i false)) o y:=by rw[m];exact ae
     refine ih (c.setIfInBounds j true) Γ' w' (a.put o.dst u) F K ac (by rw[m];exact z _ j l) ?_ ?_ ?_
     .rw[E];exact e2
     .rw[E];exact zw.put (waL e1.le s) o.dst e3
     .intro N w2 a2 g1 g2 g3 g4 g5;rw[E]at g4;exact V N w2 a2 (e1.trans g1) g2 g3 (e4.trans g4) (by rw[g5];cases M:o.dst<;>rfl)
    obtain⟨T,W⟩|⟨T,rfl⟩:=hy
    .rw[if_pos (qik s T)];left;refine qHv hC hx D s W _ _ ?_;grind
    .rw[if_neg (by rw[qik s T];exact xz)];exact next Γ w undef (.refl _ _) D (.tup [] [] rfl λ i x u h=>by simp at h) (.refl _)
theorem qGF(p:yq P C)(n:qcR P ex){Good:(Nat->Bool)->Prop}(g:∀L j,Good L->Good (λ i=>decide (i=j)||L i))(k:∀(j:Nat) (o:Oper),ops[j]?=some o->∀e∈jG o,e<j)
  (f:∀(L:Nat->Bool) (j:Nat) (o:Oper),qcE ops L->Good L->ops[j]?=some o->L j=false->(∀e∈jG o,L e=true)->∃y,qbf C ex ops o (F ops.toList l s0 L ops.size) y/\F ops.toList l s0 (λ i=>decide (i=j)||L i) ops.size=yd (F ops.toList l s0 L ops.size) o y) {Q:Exit->Act->World->Prop}:∀(d:Nat) (c:Array Bool) (Γ:Gh) (w:World) (a:Act),c.size=ops.size->c.toList.countP (λ b => !b)=d->qcE ops (λ i=>c.getD i false)->Good (λ i=>c.getD i false)->
  Inv Γ (F ops.toList l s0 (λ i=>c.getD i false) ops.size).σ w->zw Γ (F ops.toList l s0 (λ i=>c.getD i false) ops.size).tm a->
  (∀Γ' w' m,Ext Γ w Γ' w'->Inv Γ' (F ops.toList l s0 qp ops.size).σ w'->zw Γ' (F ops.toList l s0 qp ops.size).tm m->qO (F ops.toList l s0 (λ i=>c.getD i false) ops.size).σ (F ops.toList l s0 qp ops.size).σ->m.defers=a.defers->Q .normal m w')->
  wpAny P .any ops Q d c a w:=
 qGk (G:=λ L=>F ops.toList l s0 L ops.size) p n g k (λ _ h=>qBk _ h) f
theorem qAh{lo:Nat->Bool}(h:qi0 lo ops.toList=true):
  (∀(j:Nat) (o:Oper),ops[j]?=some o->∀e∈jG o,e<j)/\
  (∀(j:Nat) (o:Oper),ops[j]?=some o->qcI lo ops.toList<=j->∀i,i<j->((QX ops.toList []).getD j 0).testBit i=true\/(i<qcI lo ops.toList/\∃q,ops[i]?=some q/\(qgZ ops.toList q=true\/qsm ops.toList q=true/\qwv ops.toList o=true)))/\
  ∀(j:Nat) (o:Oper),ops[j]?=some o->zP o=true->o.guard=none/\∃d,o.dst=some d/\∀(k:Nat) (q:Oper),ops[k]?=some q->k≠j->q.dst≠some d:=by
 have a:∀(i:Nat) (o:Oper),ops[i]?=some o->(o,i)∈ops.toList.zipIdx:=λ i o c=>by
  grind
 simp only[qi0,wv,wc,wU,decide_eq_true_eq,wQ]at h;refine⟨λ j o c=>(h _ (a j o c)).1,λ j o c y i s=>?_,λ j o c t=>?_⟩
 .obtain b|b:=(h _ (a j o c)).2.1
  .rw[wav]at b;omega
  .obtain b|⟨l,f⟩:=b i (k9.2 s)
   .exact .inl b
   .rw[wav]at l;grind
 .obtain b|⟨l,f⟩:=(h _ (a j o c)).2.2
  .rw[t]at b;cases b
  .refine⟨Option.isNone_iff_eq_none.1 l,?_⟩;simp only at f;split at f
   .rename_i d m;refine⟨d,m,λ k q n p g=>?_⟩;have r:=wn f;let⟨x,w⟩:=xX.1 r;have v:(o,j)∈qdA ops.toList d:=kO.2 ⟨a j o c,by simp[qlX,m]⟩;have u:(q,k)∈qdA ops.toList d:=kO.2 ⟨a k q n,by simp[qlX,g]⟩;grind
   .cases f
theorem qek{o:Oper}(a:zP o=true):∃e,o.op=.alloc e:=by
 grind [zP]
structure qkI (P:Program) (Γ:Gh) (w0 w:World) (ops:Array Oper) (L:Nat->Prop) (a:Act) (ad:Nat->Nat):Prop where
 blk:∀k o e d,L k->ops[k]?=some o->o.op=.alloc e->yO P e=some d->d.zero.all zF=true->
  w0.heap.size<=ad k/\w.heap[ad k]?=some (.cells d.zero.toArray e (0,0))/\¬ QC Γ (ad k)/\∀i,Γ.mem (ad k) i=none
 tmp:∀k o e d u,L k->ops[k]?=some o->o.op=.alloc e->o.dst=some d->a.tmps[d]?=some u->u=.pointer (some ⟨ad k,0,none⟩)
 inj:∀k k' o o',L k->L k'->ops[k]?=some o->ops[k']?=some o'->zP o=true->zP o'=true->ad k=ad k'->k=k'
theorem qJ6{a:Act}{d:Option Tmp}{u:Value}{t:Tmp}(h:d≠some t):(a.put d u).tmps[t]?=a.tmps[t]?:=by
 cases d with
 |none=>rfl
 |some d=>
   show(a.tmps.setIfInBounds d u)[t]?=_;grind
theorem qkI.step{L:Nat->Prop}{w0 w':World}{Γ':Gh}{a:Act}{ad:Nat->Nat}{d:Option Tmp}{u:Value}(h:qkI P Γ w0 w ops L a ad)(p:Ext Γ w Γ' w')
  (r:∀k o t,L k->ops[k]?=some o->zP o=true->o.dst=some t->d≠some t):qkI P Γ' w0 w' ops L (a.put d u) ad where
 blk:=λ k o e d m l j g f=>by
  let⟨x,q,g3,s⟩:=h.blk k o e d m l j g f;have n:ad k<w.heap.size:=(Array.getElem?_eq_some_iff.1 q).1;refine⟨x,by rw[p.block _ n g3];exact q,λ c=>?_,λ i=>?_⟩
  .obtain c|c:=p.own _ c
   .exact g3 c
   .omega
  .cases b:Γ'.mem (ad k) i with
   |none=>rfl
   |some v=>
     obtain b|b|b:=p.memg _ _ _ b
     .rw[s]at b;cases b
     .exact absurd b g3
     .omega
 tmp:=λ k o e t v m l j g f=>by
  rw[qJ6 (r k o t m l (by simp[zP,j]) g)]at f;exact h.tmp k o e t v m l j g f
 inj:=h.inj
theorem qJp{o:Oper}{ρ:Operand->Value}{e:TypeId}{d:TD}(a:o.op=.alloc e)(b:yO P e=some d)(w:World):(execOp ρ o).run P w=.ok (.value (.pointer (some ⟨w.heap.size,0,none⟩))) (w.alloc (.cells d.zero.toArray e)):=by
 let⟨i,u,z,g,m,f,l,k,j,c,h⟩:=waJ b;rw[<-c];simp[execOp,a,Instr.alloc,zeroValue,typeInfo,g,f,newVar,qfN]
theorem Inv.free(a:Inv Γ σ w){b:Nat}(f:w.heap.size<=b):¬ QC Γ b/\∀i,Γ.mem b i=none:=by
 refine⟨?_,λ i=>?_⟩
 .rintro(⟨i,c,d⟩|⟨r,c,d,g⟩)
  .have:=a.box_lt c;omega
  .have:=a.cur_lt c d;omega
 .cases e:Γ.mem b i with
  |none=>rfl
  |some u=>have:=a.mem_lt e;omega
theorem qPH(hC:yq P C)(hx:qcR P ex)(hT:qdw C ex ⟨qJ C.lo ops.toList⟩ l s0)(hk:qbP C.lo s0.tm ⟨qJ C.lo ops.toList⟩=true)(aa:qi0 C.lo ops.toList=true)
  (hz:∀k o e,k<qcI C.lo ops.toList->ops[k]?=some o->o.op=.alloc e->∃d,yO P e=some d/\d.zero.all zF=true) {w0:World}{Q:Exit->Act->World->Prop}{n:Nat} (hn:n=qcI C.lo ops.toList):
  ∀(g:Nat) (c:Array Bool) (Γ:Gh) (w:World) (a:Act) (ad:Nat->Nat),c.size=ops.size->c.toList.countP (λ b => !b)=g->(∀i,n<=i->c.getD i false=false)->qcE ops (λ i=>c.getD i false)->
  Inv Γ (F (qJ C.lo ops.toList) l s0 (λ i=>c.getD i false) n).σ w->zw Γ (F (qJ C.lo ops.toList) l s0 (λ i=>c.getD i false) n).tm a->qkI P Γ w0 w ops (λ i=>c.getD i false=true) a ad->w0.heap.size<=w.heap.size->
  (∀s f Γ' w' a' L,f.size=ops.size->f.toList.countP (λ b => !b)=s->(∀i,n<=i->f.getD i false=false)->(∀(i:Nat) (o:Oper),i<n->ops[i]?=some o->qbh ops.toList o=false->f.getD i false=true)->qcE ops (λ i=>f.getD i false)->Ext Γ w Γ' w'->Inv Γ' (F (qJ C.lo ops.toList) l s0 (λ i=>f.getD i false) n).σ w'->zw Γ' (F (qJ C.lo ops.toList) l s0 (λ i=>f.getD i false) n).tm a'->qkI P Γ' w0 w' ops (λ i=>f.getD i false=true) a' L->
   qO (F (qJ C.lo ops.toList) l s0 (λ i=>c.getD i false) n).σ (F (qJ C.lo ops.toList) l s0 (λ i=>f.getD i false) n).σ->a'.defers=a.defers->wpAny P .any ops Q s f a' w')->
  wpAny P .any ops Q g c a w:=by
 let⟨aN,aO,ao⟩:=qAh aa
 have ak:∀(j:Nat) (o:Oper),j<n->ops[j]?=some o->(⟨qJ C.lo ops.toList⟩:Array Oper)[j]?=some (jV o):=λ j o hj B=>by
  have:(qJ C.lo ops.toList)[j]?=some (jV o):=by
   rw[qk0 (by omega)];grind
  simpa using this
 have ai:(⟨qJ C.lo ops.toList⟩:Array Oper).size=n:=by show(qJ C.lo ops.toList).length=n;rw[qpz,hn]
 have a0:n<=ops.size:=by rw[hn];simpa using qrl C.lo ops.toList
 intro g
 induction g with
 |zero=>
   intro c Γ w a ad A K N hd hi S X V hq;have D:=qwV K;exact hq 0 c Γ w a ad A K N (λ i o m _ _=>D i (by omega)) hd (.refl _ _) hi S X (.refl _) rfl
 |succ g ih=>
   intro c Γ w a ad A K N hd hi S X V hq;by_cases D:∀(i:Nat) (o:Oper),i<n->ops[i]?=some o->qbh ops.toList o=false->c.getD i false=true
   .exact hq (g+1) c Γ w a ad A K N D hd (.refl _ _) hi S X (.refl _) rfl
   have aV:qcE ⟨qJ C.lo ops.toList⟩ (λ i=>c.getD i false):=by
    intro i o B hL e M;obtain⟨m,q,h1,rfl⟩:=quR (lo:=C.lo) (l:=ops.toList) (j:=i) (o:=o) (by simpa using B);rw[qnm]at M;exact hd i q (by simpa using h1) hL e M
   have aw:∃(U:Nat) (o0:Oper),U<n/\ops[U]?=some o0/\qbh ops.toList o0=false/\c.getD U false=false:=by
    apply xL;intro al;refine D λ i o m aL ar=>?_;cases hc:c.getD i false with
    |true=>rfl
    |false=>exact(al ⟨i,o,m,aL,ar,hc⟩).elim
   refine⟨λ am=>?_,λ j hj=>?_⟩
   .exfalso;let⟨U,o0,R,_,_,h1⟩:=aw
    have aC:∀i,i<n->c.getD i false=false->False:=by
     intro i
     induction i using Nat.strongRecOn with
     |_ i aD=>
       intro m hf;let⟨o,B⟩:=jp (ops:=ops) (k:=i) (by omega)
       have hr:i∈Region.ready .any ops c:=by
        refine mem_ready.2 ⟨?_,o,B,λ e M hb=>?_⟩
        .rw[wJ,Array.getElem?_eq_getElem (by omega)]at hf |-
         simpa using hf
        .have aT:e.on∈jG o:=wA.2 ⟨e,kO.2 ⟨by simpa using M,hb⟩,rfl⟩;have an:=aN i o B e.on aT;cases hc:c.getD e.on false with
         |true=>rfl
         |false=>exact(aD e.on an (by omega) hc).elim
       rw[am]at hr;cases hr
    exact aC U R h1
   .let⟨h1,o,B,az⟩:=mem_ready.1 hj;have ac:j<ops.size:=(Array.getElem?_eq_some_iff.1 B).1
    have hL:c.getD j false=false:=by
     grind
    have hp:∀e∈jG o,c.getD e false=true:=λ e M=>by
     obtain⟨ed,a6,rfl⟩:=wA.1 M;grind
    have aP:j<n:=by
     apply xL;intro al;let⟨U,o0,R,aK,aS,h2⟩:=aw;obtain hb|⟨_,q,z,ar⟩:=aO j o B (by omega) U (by omega)
     .have:=qj3 hd j o B hp hb;rw[h2]at this;cases this
     .rw[aK]at z;cases z;unfold qbh at aS;grind
    have aJ:∀e∈jG (jV o),c.getD e false=true:=by rw[qnm];exact hp
    let⟨y,hy,ax⟩:=quQ hT hk aV (ak j o aP B) hL aJ;rw[ai]at hy ax
    have J:(λ i=>(c.setIfInBounds j true).getD i false)=λ i=>decide (i=j)||c.getD i false:=by
     funext i;by_cases ae:i=j
     .subst ae;rw[wJ,Array.getElem?_setIfInBounds_self_of_lt (by rw[A];exact ac)];simp
     .rw[getD_set_ne false (xT ae)];simp[ae]
    have aj:(c.setIfInBounds j true).size=ops.size:=by rw[xO,A]
    have av:(c.setIfInBounds j true).toList.countP (λ b => !b)=g:=by
     have aQ:j<c.toList.length:=by simp[A,ac]
     rw[xw,List.countP_set (h:=aQ),K]
     have:c.toList[j]=false:=by
      rw[wJ,Array.getElem?_eq_getElem (by rw[A];exact ac)]at hL;simpa using hL
     rw[this];simp
    have ap:∀i,n<=i->(c.setIfInBounds j true).getD i false=false:=λ i m=>by
     rw[getD_set_ne false (by omega)];exact N i m
    have aW:qcE ops (λ i=>(c.setIfInBounds j true).getD i false):=by
     rw[J];intro i q z m e M;simp only[wU,decide_eq_true_eq]at m |-
     obtain rfl|m:=m
     .grind
     .exact .inr (hd i q z m e M)
    have yy:∀k,(c.setIfInBounds j true).getD k false=true->k=j\/c.getD k false=true:=λ k ab=>by
     have:(λ i=>(c.setIfInBounds j true).getD i false) k=true:=ab;rw[J]at this;simpa using this
    have af:F (qJ C.lo ops.toList) l s0 (λ i=>(c.setIfInBounds j true).getD i false) n=yd (F (qJ C.lo ops.toList) l s0 (λ i=>c.getD i false) n) (jV o) y:=by rw[J];exact ax
    unfold wpOp;rw[B];simp only
    have next:∀Γ' w' u L,Ext Γ w Γ' w'->Inv Γ' (turn (F (qJ C.lo ops.toList) l s0 (λ i=>c.getD i false) n).σ y.2) w'->Rep Γ' y.1 u->qO (F (qJ C.lo ops.toList) l s0 (λ i=>c.getD i false) n).σ (turn (F (qJ C.lo ops.toList) l s0 (λ i=>c.getD i false) n).σ y.2)->
      qkI P Γ' w0 w' ops (λ i=>(c.setIfInBounds j true).getD i false=true) (a.put o.dst u) L->wpAny P .any ops Q g (c.setIfInBounds j true) (a.put o.dst u) w':=by
     intro Γ' w' u L e1 e2 e3 e4 e5;refine ih (c.setIfInBounds j true) Γ' w' (a.put o.dst u) L aj av ap aW ?_ ?_ e5 (wE V e1.size) ?_
     .rw[af];exact e2
     .rw[af];show RepL Γ' (qbq _ (jV o).dst y.1) _;rw[qqY];exact zw.put (waL e1.le S) o.dst e3
     .intro s f aA w2 a2 aZ g0 aY ay q1 q2 I r g3 aX E H;rw[af]at E;exact hq s f aA w2 a2 aZ g0 aY ay q1 q2 (e1.trans I) r g3 aX (e4.trans E) (by rw[H];cases hd:o.dst<;>rfl)
    cases O:zP o with
    |false=>
      have aU:jV o=o:=by unfold jV;rw[O]
      have ag:∀Γ' w' u,Ext Γ w Γ' w'->qkI P Γ' w0 w' ops (λ i=>(c.setIfInBounds j true).getD i false=true) (a.put o.dst u) ad:=λ Γ' w' u M=>by
       have R:=X.step (d:=o.dst) (u:=u) M λ k q t ab z Y aI=>by
        let⟨_,d,a8,a7⟩:=ao k q z Y;grind
       have conv:∀k q,(c.setIfInBounds j true).getD k false=true->ops[k]?=some q->zP q=true->c.getD k false=true:=λ k q h2 z Y=>by
        grind
       exact⟨λ k q e d I r g3=>R.blk k q e d (conv k q I r (by simp[zP,g3])) r g3,λ k q e d v I r g3=>R.tmp k q e d v (conv k q I r (by simp[zP,g3])) r g3,λ k k' q q' I r g3 E H g6=>R.inj k k' q q' (conv k q I g3 H) (conv k' q' r E g6) g3 E H g6⟩
      obtain⟨W,G⟩|⟨W,rfl⟩:=hy
      .rw[if_pos (qik S (qpA W))];left;rw[aU]at G;refine qHv hC hx hi S G _ _ ?_;grind
      .rw[if_neg (by rw[qik S (qpA W)];exact xz)];exact next Γ w undef ad (.refl _ _) hi (.tup [] [] rfl λ i x u h=>by simp at h) (.refl _) (ag Γ w undef (.refl _ _))
    |true=>
      let⟨e,Z⟩:=qek O;let⟨aR,d,a1,a4⟩:=ao j o B O
      have aE:y=(.dead,none):=by
       obtain⟨W,G⟩|⟨W,rfl⟩:=hy
       .have:(jV o).op=.move (.global 0):=by unfold jV;rw[O]
        rw[this]at G;simp only[opA,qc,aev,wz]at G;exact G.symm
       .have W:=qpA W;grind [yw]
      subst aE;have aF:yw ops (F (qJ C.lo ops.toList) l s0 (λ i=>c.getD i false) n).tm o=some true:=by unfold yw;rw[aR]
      rw[if_pos (qik S aF)];left;let⟨td,ah,a3⟩:=hz j o e (by omega) B Z;have hb:Below w.heap.size w (w.alloc (.cells td.zero.toArray e)):=(Below.refl _ _).alloc (wa _) _;unfold Oper.wp;rw[qJp Z ah];refine next Γ _ (.pointer (some ⟨w.heap.size,0,none⟩)) (λ k=>if k=j then w.heap.size else ad k) (qgN hb (wa _)) (hi.later hb) (.dead _) (.refl _) ?_
      have R:=X.step (d:=o.dst) (u:=.pointer (some ⟨w.heap.size,0,none⟩)) (qgN (Γ:=Γ) hb (wa _)) λ k q t ab z Y aI=>by
       grind
      have aq:=hi.free (wa w.heap.size);have conv:∀k,(c.setIfInBounds j true).getD k false=true->k≠j->c.getD k false=true:=λ k h2 aM=>(yy k h2).resolve_left aM
      have an:∀k q,c.getD k false=true->ops[k]?=some q->zP q=true->ad k<w.heap.size:=λ k q h2 h3 h4=>by
       let⟨e',au⟩:=qek h4
       have a5:k<n:=by
        grind
       let⟨aB,aH,aG⟩:=hz k q e' (by omega) h3 au;exact(Array.getElem?_eq_some_iff.1 (X.blk k q e' aB h2 h3 au aH aG).2.1).1
      refine⟨λ k q e' d' I r g3 E H=>?_,λ k q e' d' v I r g3 E H=>?_,λ k k' q q' I r g3 E H g6 g7=>?_⟩
      .by_cases p:k=j
       .subst p;rw[B]at r;cases r;rw[Z]at g3;cases g3;rw[ah]at E;cases E;simp only[if_true];exact⟨V,heap_alloc_new w _,aq.1,aq.2⟩
       .simp only[if_neg p];exact R.blk k q e' d' (conv k I p) r g3 E H
      .by_cases p:k=j
       .subst p;rw[B]at r;cases r;simp only[if_true];rw[E]at H;have H:(a.tmps.setIfInBounds d' (.pointer (some ⟨w.heap.size,0,none⟩)))[d']?=some v:=H;grind
       .simp only[if_neg p];exact R.tmp k q e' d' v (conv k I p) r g3 E H
      .by_cases p:k=j
       .grind
       .by_cases T:k'=j
        .grind
        .simp only[if_neg p,if_neg T]at g7;exact X.inj k k' q q' (conv k I p) (conv k' r T) g3 E H g6 g7
end
end Go.AmZ
namespace Go.AmZ
open Go Go.RowKit
section
variable {P:Program}{C:Cfg}{Γ:Gh}{σ:St}{w:World}{ops:Array Oper}{ex:jP}{l:List (AV×Option St)}{s0:S}
theorem qI6(h:Inv Γ σ w){cs:List AV}{vs:List Value}{b:Nat}{e:TypeId}(E:w.heap[b]?=some (.cells vs.toArray e (0,0)))(m:¬ QC Γ b)(x:∀i,Γ.mem b i=none)(B:RepL Γ cs vs)(F:∀u∈vs,u.oneCell'=true):
  ∃Γ',Le Γ Γ'/\(∀c,QC Γ' c->QC Γ c\/c=b)/\Γ'.mem=Γ.mem/\Inv Γ' {σ with bx:=σ.bx++[cs]} w/\Rep Γ' (.ptr σ.bx.length 0) (.pointer (some ⟨b,0,none⟩)):=by
 let Γ':Gh:={Γ with nb:=Γ.nb+1,β:=λ i=>if i=Γ.nb then b else Γ.β i}
 have g:∀i,i<Γ.nb->Γ'.β i=Γ.β i:=λ i f=>if_neg (by omega);have a:Γ'.β Γ.nb=b:=if_pos rfl;have k:Le Γ Γ':=⟨λ _ _ _ h=>h,ko _,g,wa _,λ _ _=>rfl,λ _ _=>wa _,λ _ _ _=>⟨rfl,rfl,rfl⟩⟩
 refine⟨Γ',k,?_,rfl,⟨?_,h.nr,h.mem,?_,?_,?_,?_,h.apart⟩,?_⟩
 .rintro c (⟨i,f,rfl⟩|q)
  .have f:i<Γ.nb+1:=f;by_cases d:i=Γ.nb
   .right;rw[d,a]
   .left;left;exact⟨i,by omega,(g i (by omega)).symm⟩
  .exact .inl (.inr q)
 .show Γ.nb+1=(σ.bx++[cs]).length;simp[h.nb]
 .intro i cs' f;rw[List.getElem?_append]at f;split at f
  .rename_i s;exact(h.box i cs' f).lift (by rw[h.nb];exact s) k λ o q=>q
  .rename_i s
   have z:i-σ.bx.length=0:=by
    grind
   rw[z]at f;simp at f;subst f;have y:i=Γ.nb:=by rw[h.nb];omega
   refine .of ⟨vs.toArray,e,?_,by simpa using B.mono k,by simpa using F⟩;rw[y,a];exact E
 .intro i j f D l;have v:i<Γ.nb+1:=f;have C:j<Γ.nb+1:=D;by_cases d:i=Γ.nb<;>by_cases t:j=Γ.nb
  .rw[d,t]
  .rw[d,a,g j (by omega)]at l;exact(m (.inl ⟨j,by omega,l.symm⟩)).elim
  .rw[t,a,g i (by omega)]at l;exact(m (.inl ⟨i,by omega,l⟩)).elim
  .rw[g i (by omega),g j (by omega)]at l;exact h.inj i j (by omega) (by omega) l
 .intro i f o;have v:i<Γ.nb+1:=f;by_cases d:i=Γ.nb
  .rw[d,a];exact x o
  .rw[g i (by omega)];exact h.boxmem i (by omega) o
 .intro r R p;have n:r<Γ.nr:=by rw[h.nr];exact getElem?_lt p
  refine(h.row r R p).lift n k rfl (λ _ ob q=>q) (λ _ _ x=>x) λ A i f G l=>?_;have v:i<Γ.nb+1:=f;have d:i=Γ.nb:=by omega
  rw[d,a]at l;exact m (.inr ⟨r,n,A,l.symm⟩)
 .rw[<-a,h.nb];exact .ptr _ _ (by show σ.bx.length<Γ.nb+1;rw[h.nb];omega)
theorem qoI{lo:Nat->Bool}{l:List Oper}{o:Oper}(h:qbh l o=true):zp lo o.op=false:=by
 cases a:zp lo o.op with
 |false=>rfl
 |true=>
   exfalso
   have c:Qd o.op=true\/qqZ o.op=true:=by
    unfold zp at a;split at a<;>first|(cases a;done)|(rename_i e;rw[e];first|exact .inl rfl|exact .inr rfl)
   unfold qbh qgZ qsm at h;simp only[wU,wc,wQ]at h;obtain⟨⟨b,d⟩,_⟩|⟨b,_⟩:=h
   .grind
   .unfold qtQ at b;split at b
    .rename_i e;rw[e]at a;cases a
    .rename_i e;rw[e]at a;cases a
    .cases b
theorem qFA{l:List Oper}{o:Oper}(h:qbh l o=true):zP o=false/\∀q∈l,zP q=true->∀d,q.dst=some d->d ∉ qbc ⟨l⟩ o:=by
 unfold qbh at h;rw[wU]at h;obtain h|h:=h
 .grind [qgZ]
 .unfold qsm at h;rw[wc]at h
  have a:zP o=false:=by
   have:=h.1;unfold qtQ at this;grind [zP]
  refine⟨a,λ q c g d f e=>?_⟩;have b:=h.2;unfold qLJ at b;grind
def idA(nb:Nat)(ops:Array Oper)(k:Nat):Nat:=nb+(ops.toList.take k).countP zP
theorem qpy{nb k:Nat}{o:Oper}(a:ops[k]?=some o):idA nb ops (k+1)=idA nb ops k+(if zP o then 1 else 0):=by
 grind [idA,Array.getElem?_eq_some_iff,List.take_add_one,List.countP_singleton]
def qG0(ops:Array Oper)(P:Nat->Prop)(nb:Nat)(b a:List AV):Prop:=
 a.length=b.length/\∀t,(∀(k:Nat) (o:Oper),P k->ops[k]?=some o->zP o=true->o.dst=some t->a.getD t .dead=if t<b.length then .ptr (idA nb ops k) 0 else .dead)/\
  ((∀(k:Nat) (o:Oper),P k->ops[k]?=some o->zP o=true->o.dst≠some t)->a.getD t .dead=b.getD t .dead)
theorem qn0(a:List AV)(d t:Nat)(x:AV):(a.set d x).getD t .dead=if d=t then(if t<a.length then x else .dead)else a.getD t .dead:=by
 grind
theorem qoW{n nb:Nat}(f:∀(j:Nat) (o:Oper),ops[j]?=some o->zP o=true->o.guard=none/\∃d,o.dst=some d/\∀(k:Nat) (q:Oper),ops[k]?=some q->k≠j->q.dst≠some d):∀(a:List Oper) (i:Nat) (s g:S),(∀(j:Nat) (o:Oper),a[j]?=some o->i+j<n/\ops[i+j]?=some o)->i+a.length=n->zD C ex ops false (a.filter zP) s=some g->s.σ.bx.length=idA nb ops i->
  qG0 ops (λ k=>i<=k/\k<n) nb s.tm g.tm
 |[],i,s,g,_,B,h,_=>by
   simp only[wao,zD,wz]at h;subst h;simp at B;exact⟨rfl,λ t=>⟨λ k o u=>by omega,λ _=>rfl⟩⟩
 |o::a,i,s,g,F,B,h,H=>by
   obtain⟨N,c⟩:=F 0 o rfl;have c:ops[i]?=some o:=by simpa using c
   have l:∀(j:Nat) (q:Oper),a[j]?=some q->i+1+j<n/\ops[i+1+j]?=some q:=λ j q w=>by
    have:=F (j+1) q w;grind
   have p:i+1+a.length=n:=by rw[<-B];simp;omega
   cases b:zP o with
   |false=>
     rw[xQ (by rw[b];exact xz)]at h;obtain⟨z,y⟩:=qoW f a (i+1) s g l p h (by rw[qpy c,b];exact H);refine⟨z,λ t=>⟨λ k q u w I x=>(y t).1 k q ⟨?_,u.2⟩ w I x,λ m=>(y t).2 λ k q u=>m k q ⟨by omega,u.2⟩⟩⟩;grind
   |true=>
     rw[xR b]at h;obtain⟨e,A⟩:=qek b;obtain⟨D,d,v,L⟩:=f i o c b;simp only[zD]at h;have K:yw ops s.tm o=some true:=by unfold yw;rw[D]
     rw[K]at h;simp only[A,opA,qc]at h;cases x:C.ty e with
     |none=>rw[x]at h;cases h
     |some J=>
       rw[x]at h;simp only at h;cases E:J.zero.all zF with
       |false=>rw[E]at h;cases h
       |true=>
         rw[E]at h;simp only[kV]at h;obtain⟨z,y⟩:=qoW f a (i+1) _ g l p h (by show(s.σ.bx++[_]).length=_;rw[qpy c,b,wd,H];rfl);rw[v]at z y;have r:(qbq s.tm (some d) (.ptr s.σ.bx.length 0)).length=s.tm.length:=wH ..;have G:∀t,(qbq s.tm (some d) (.ptr s.σ.bx.length 0)).getD t .dead=if d=t then(if t<s.tm.length then .ptr s.σ.bx.length 0 else .dead)else s.tm.getD t .dead:=λ t=>qn0 s.tm d t _;refine⟨z.trans r,λ t=>⟨λ k q u w I M=>?_,λ m=>?_⟩⟩
         .grind
         .grind
theorem qr3(X:yq P C){n nb:Nat}{y:Gh}{w0:World}{a:Act}{ad:Nat->Nat}:∀(f:List Oper) (i:Nat) (s z:S) (σ:St) (Γ:Gh),(∀(j:Nat) (o:Oper),f[j]?=some o->i+j<n/\ops[i+j]?=some o)->i+f.length=n->zD C ex ops false (f.filter zP) s=some z->
  (∀(j:Nat) (o:Oper),ops[j]?=some o->zP o=true->o.guard=none)->s.σ=σ->s.σ.bx.length=idA nb ops i->Inv Γ σ w->qkI P Γ w0 w ops (λ k=>i<=k/\k<n) a ad->Ext y w0 Γ w->
  ∃Γ',Le Γ Γ'/\Ext y w0 Γ' w/\Inv Γ' z.σ w/\qO σ z.σ/\∀(k:Nat) (o:Oper),i<=k->k<n->ops[k]?=some o->zP o=true->Rep Γ' (.ptr (idA nb ops k) 0) (.pointer (some ⟨ad k,0,none⟩))
 |[],i,s,z,σ,Γ,_,N,h,_,m,_,I,B,p=>by
   simp only[wao,zD,wz]at h;subst h;simp at N;exact⟨Γ,.refl Γ,p,by rw[m];exact I,by rw[m];exact .refl _,λ k o r A=>by omega⟩
 |o::f,i,s,z,σ,Γ,Y,N,h,R,m,W,I,B,p=>by
   obtain⟨aa,g⟩:=Y 0 o rfl;have g:ops[i]?=some o:=by simpa using g
   have D:∀(j:Nat) (q:Oper),f[j]?=some q->i+1+j<n/\ops[i+1+j]?=some q:=λ j q M=>by
    have:=Y (j+1) q M;grind
   have G:i+1+f.length=n:=by rw[<-N];simp;omega
   have t:qkI P Γ w0 w ops (λ k=>i+1<=k/\k<n) a ad:=⟨λ k o e d r=>B.blk k o e d ⟨by omega,r.2⟩,λ k o e d u r=>B.tmp k o e d u ⟨by omega,r.2⟩,λ k k' o o' r A=>B.inj k k' o o' ⟨by omega,r.2⟩ ⟨by omega,A.2⟩⟩
   cases l:zP o with
   |false=>
     rw[xQ (by rw[l];exact xz)]at h;obtain⟨Γ',g0,g1,g2,g3,g4⟩:=qr3 X f (i+1) s z σ Γ D G h R m (by rw[qpy g,l];exact W) I t p;grind
   |true=>
     rw[xR l]at h;obtain⟨e,E⟩:=qek l;simp only[zD]at h;have hw:yw ops s.tm o=some true:=by unfold yw;rw[R i o g l]
     rw[hw]at h;simp only[E,opA,qc]at h;cases U:C.ty e with
     |none=>rw[U]at h;cases h
     |some d=>
       rw[U]at h;simp only at h;cases H:d.zero.all zF with
       |false=>rw[H]at h;cases h
       |true=>
         rw[H]at h;simp only[kV]at h;have K:=X.ty e d U;obtain⟨g1,g2,g3,g4⟩:=B.blk i o e d ⟨wa _,by omega⟩ g E K H;obtain⟨b1,b2⟩:=qeo (Γ:=Γ) H;obtain⟨x,a1,a2,a3,a4,a5⟩:=qI6 I g2 g3 g4 b1 b2
         have T:Ext y w0 x w:=⟨p.le.trans a1,p.os,p.tape,p.output,p.size,p.block,λ c V=>by
          rcases a2 c V with V|rfl
          .exact p.own c V
          .grind,λ b o u Z=>by rw[a3]at Z;exact p.memg b o u Z,p.drawn⟩
         have L:qkI P x w0 w ops (λ k=>i+1<=k/\k<n) a ad:=⟨λ k q e' d' r A h3 h4 h5=>by
          obtain⟨q1,q2,q3,q4⟩:=t.blk k q e' d' r A h3 h4 h5;refine⟨q1,q2,λ F=>?_,λ j=>by rw[a3];exact q4 j⟩;rcases a2 _ F with F|F
          .exact q3 F
          .have:=B.inj k i q o ⟨by omega,r.2⟩ ⟨wa _,by omega⟩ A g (by simp[zP,h3]) l F;omega,t.tmp,t.inj⟩
         obtain⟨J,c0,c1,c2,c3,c4⟩:=qr3 X f (i+1) _ z {σ with bx:=σ.bx++[d.zero.map .v]} x D G h R (by simp only;rw[m]) (by show(s.σ.bx++[_]).length=_;rw[qpy g,l,wd,W];rfl) a4 L T;have Q:qO σ {σ with bx:=σ.bx++[d.zero.map .v]}:=⟨by simp,wa _,λ j hj _=>by simp only[List.getElem?_append_left hj],λ _ _ _=>rfl,λ _ h=>h,λ _ h=>h⟩
         refine⟨J,a1.trans c0,c1,c2,Q.trans c3,λ k q r A M ha=>?_⟩;by_cases O:k=i
         .subst O;rw[<-W,m];exact a5.mono c0
         .exact c4 k q (by omega) A M ha
theorem qtZ{l:S}:∀(a:List Oper) (s:S),zD C ex ops false (a.filter zP) s=some l->(∀o∈a,zP o=true->o.guard=none)->∀o∈a,∀e,o.op=.alloc e->∃d,C.ty e=some d/\d.zero.all zF=true
 |[],_,_,_,o,b,_,_=>by cases b
 |q::a,s,h,i,o,b,e,f=>by
   cases c:zP q with
   |false=>
     rw[xQ (by rw[c];exact xz)]at h;obtain rfl|b:=wx.1 b
     .simp[zP,f]at c
     .exact qtZ a s h (λ o b=>i o (wg _ b)) o b e f
   |true=>
     rw[xR c]at h;let⟨n,g⟩:=qek c;simp only[zD]at h;have m:yw ops s.tm q=some true:=by unfold yw;rw[i q (wh ..) c]
     rw[m]at h;simp only[g,opA,qc]at h;cases k:C.ty n with
     |none=>rw[k]at h;cases h
     |some d=>
       rw[k]at h;simp only at h;cases j:d.zero.all zF with
       |false=>rw[j]at h;cases h
       |true=>
         rw[j]at h;simp only[kV]at h;obtain rfl|b:=wx.1 b
         .grind
         .exact qtZ a _ h (λ o b=>i o (wg _ b)) o b e f
theorem qKd{b:List (AV×Option St)}{a:S}{L:Nat->Bool}{n:Nat}(h:∀i,n<=i->L i=false):∀m,F ops.toList b a L (n+m)=F ops.toList b a L n
 |0=>rfl
 |m+1=>by
   show F ops.toList b a L (n+m+1)=_;simp only[F];rw[h (n+m) (by omega)];split
   .rename_i c;cases c
   .exact qKd h m
def qsi(ops:Array Oper)(n nb:Nat)(lA lS:List (AV×Option St)):List (AV×Option St):=
 (List.range n).map (λ k=>match ops[k]? with
  |some o=>match zP o with
    |true=>(AV.ptr (idA nb ops k) 0,none)
    |false=>((lA.getD k (.dead,none)).1,none)
  |none=>(.dead,none))++lS
theorem qo7{n nb k:Nat}{lA lS:List (AV×Option St)}{o:Oper}(a:k<n)(b:ops[k]?=some o):(qsi ops n nb lA lS)[k]?=some (match zP o with
  |true=>(AV.ptr (idA nb ops k) 0,none)
  |false=>((lA.getD k (.dead,none)).1,none)):=by
 unfold qsi;rw[List.getElem?_append_left (by simpa using a),List.getElem?_map,List.getElem?_range a];simp only[kP,b]
theorem qo4{n nb k:Nat}{lA lS:List (AV×Option St)}:(qsi ops n nb lA lS)[n+k]?=lS[k]?:=by
 grind [qsi]
theorem qFl{n nb:Nat}{lA lS:List (AV×Option St)}{s0 b:S}(g:b.tm=s0.tm)(K:n=qcI C.lo ops.toList)(J:qu7 C ⟨qJ C.lo ops.toList⟩ lA)(h:∀(j:Nat) (o:Oper),ops[j]?=some o->zP o=true->o.guard=none/\∃d,o.dst=some d/\∀(k:Nat) (q:Oper),ops[k]?=some q->k≠j->q.dst≠some d)
  (L:Nat->Bool):∀k,k<=n->qG0 ops (λ i=>i<k/\L i=true) nb (F (qJ C.lo ops.toList) lA s0 L k).tm (F ops.toList (qsi ops n nb lA lS) b L k).tm
 |0,_=>⟨by show b.tm.length=s0.tm.length;rw[g],λ t=>⟨λ k o M=>by omega,λ _=>by show b.tm.getD t _=s0.tm.getD t _;rw[g]⟩⟩
 |k+1,M=>by
   obtain⟨B,A⟩:=qFl (lS:=lS) g K J h L k (by omega);have I:qcI C.lo ops.toList<=ops.size:=by simpa using qrl C.lo ops.toList
   obtain⟨o,p⟩:=jp (ops:=ops) (k:=k) (by omega);have v:ops.toList[k]?=some o:=by simpa using p
   have u:(qJ C.lo ops.toList)[k]?=some (jV o):=by rw[qk0 (by omega),v];rfl
   obtain⟨y,H,_⟩:=J k (jV o) (by simpa using u);have N:=qo7 (n:=n) (nb:=nb) (lA:=lA) (lS:=lS) (k:=k) (by omega) p;simp only[F,u,H,v,N];cases G:L k with
   |false=>
     refine⟨B,λ t=>⟨λ i q e=>(A t).1 i q ⟨?_,e.2⟩,λ a=>(A t).2 λ i q e=>a i q ⟨by omega,e.2⟩⟩⟩;grind
   |true=>
     simp only[yd,qqY];cases l:zP o with
     |true=>
       obtain⟨_,d,z,s⟩:=h k o p l;simp only[z,qbq];refine⟨by rw[wH,wH,B],λ t=>⟨λ i q e m r c=>?_,λ a=>?_⟩⟩
       .rw[qn0,wH];grind
       .have f:d≠t:=λ w=>a k o ⟨by omega,G⟩ p l (by rw[z,w]);rw[qn0,if_neg f,qn0,if_neg f];grind
     |false=>
       have D:(lA.getD k (.dead,none)).1=y.1:=by rw[List.getD_eq_getElem?_getD,H];rfl
       rw[D];cases z:o.dst with
       |none=>
         refine⟨B,λ t=>⟨λ i q e m r c=>(A t).1 i q ⟨?_,e.2⟩ m r c,λ a=>(A t).2 λ i q e=>a i q ⟨by omega,e.2⟩⟩⟩;grind
       |some d=>
         simp only[qbq];refine⟨by rw[wH,wH,B],λ t=>⟨λ i q e m r c=>?_,λ a=>?_⟩⟩
         .have E:i≠k:=λ w=>by subst w;rw[p]at m;cases m;rw[l]at r;cases r
          obtain⟨_,O,x,s⟩:=h i q m r;rw[c]at x;cases x;have f:d≠t:=λ w=>s k o p (xT E) (by rw[z,w]);rw[qn0,if_neg f,wH];grind
         .grind [qn0]
theorem qgE{n:Nat}{b:List (AV×Option St)}{a:S}{L:Nat->Bool}(h:∀k y,k<n->b[k]?=some y->y.2=none):∀k,k<=n->(F ops.toList b a L k).σ=a.σ
 |0,_=>rfl
 |k+1,d=>by
   simp only[F];split
   .rename_i o y _ c _;rw[putS_σ _ _ _ (h k y (by omega) c)];exact qgE h k (by omega)
   .exact qgE h k (by omega)
theorem recB_σ{n nb:Nat}{lA lS:List (AV×Option St)}(c:n<=ops.size):∀k y,k<n->(qsi ops n nb lA lS)[k]?=some y->y.2=none:=by
 intro k y d a;let⟨o,b⟩:=jp (ops:=ops) (k:=k) (by omega);grind [qo7]
theorem qIV{lo:Nat->Bool}{o:Oper}(h:zp lo (jV o).op=true):jV o=o:=by
 unfold jV at h |-
 split at h
 .cases h
 .rfl
theorem qJj{n:Nat}{lA:List (AV×Option St)}(s:n=qcI C.lo ops.toList)(l:qu7 C ⟨qJ C.lo ops.toList⟩ lA){L:Nat->Bool}(v:∀(i:Nat) (q:Oper),i<n->ops[i]?=some q->qbh ops.toList q=false->L i=true):∀k,k<=n->(F (qJ C.lo ops.toList) lA s0 L k).σ=(F (qJ C.lo ops.toList) lA s0 qp k).σ
 |0,_=>rfl
 |k+1,w=>by
   have h:qcI C.lo ops.toList<=ops.size:=by simpa using qrl C.lo ops.toList
   let⟨o,p⟩:=jp (ops:=ops) (k:=k) (by omega);have m:ops.toList[k]?=some o:=by simpa using p
   have c:(⟨qJ C.lo ops.toList⟩:Array Oper)[k]?=some (jV o):=by
    grind [qk0]
   let⟨y,_,t,j⟩:=Jy (ops:=⟨qJ C.lo ops.toList⟩) (s0:=s0) l c;have g:=qJj s l v k (by omega);have f:=j L;have e:=j qp;show(F (⟨qJ C.lo ops.toList⟩:Array Oper).toList lA s0 L (k+1)).σ=(F (⟨qJ C.lo ops.toList⟩:Array Oper).toList lA s0 qp (k+1)).σ;rw[f,e,if_pos (show qp k=true from rfl)];cases b:y.2 with
   |none=>
     rw[putS_σ _ _ _ b];split
     .rw[putS_σ _ _ _ b];exact g
     .exact g
   |some σ'=>
     have a:=t (by rw[b];rfl);have d:=qIV a
     have r:qbh ops.toList o=false:=by
      cases u:qbh ops.toList o with
      |false=>rfl
      |true=>rw[d,qoI u]at a;cases a
     grind [yd,turn]
def qjY(n:Nat)(σ σ':St):Prop:=σ'.rw=σ.rw/\∀b,b<n->σ'.bx[b]?=σ.bx[b]?
theorem qK0{e:List AV}{σ σ':St}{op:Op}{x:AV}(g:qtQ op=true)(j:qjY σ.bx.length σ σ')(h:opA C ex e σ op=some (x,none)):opA C ex e σ' op=some (x,none):=by
 unfold qtQ at g;split at g<;>try cases g
 .rename_i t a;simp only[opA,qc]at h |-
  split at h<;>try cases h
  rename_i d m
  have l:∀y,jH d σ (aev e a)=some y->jH d σ' (aev e a)=some y:=λ y c=>by
   cases f:aev e a with
   |ptr b o=>
     rw[f]at c;simp only[jH]at c |-
     cases k:σ.bx[b]? with
     |none=>rw[k]at c;cases c
     |some cs=>rw[j.2 b (getElem?_lt k)];exact c
   |rpt r i o n=>
     rw[f]at c;simp only[jH,j.1]at c |-;exact c
   |_=>rw[f]at c;exact c
  grind
 .rename_i t a i;have h:qc C e σ (.indexAddr t a i)=some (x,none):=h;show qc C e σ' (.indexAddr t a i)=some (x,none);rw[qFL j.1];exact h
theorem qew{n:Nat}:∀(a:List Oper) (s c:S),zD C ex ops false (a.filter zP) s=some c->n<=s.σ.bx.length->qjY n s.σ c.σ
 |[],s,c,h,_=>by
   simp only[wao,zD,wz]at h;subst h;exact⟨rfl,λ _ _=>rfl⟩
 |o::a,s,c,h,i=>by
   cases d:zP o with
   |false=>
     rw[xQ (by rw[d];exact xz)]at h;exact qew a s c h i
   |true=>
     rw[xR d]at h;let⟨e,f⟩:=qek d;simp only[zD]at h;split at h
     .simp only[f,opA,qc]at h;cases j:C.ty e with
      |none=>rw[j]at h;cases h
      |some k=>
        rw[j]at h;simp only at h;cases g:k.zero.all zF with
        |false=>rw[g]at h;cases h
        |true=>
          rw[g]at h;simp only[kV]at h;let⟨p,m⟩:=qew (n:=n) a _ c h (by show n<=(s.σ.bx++[_]).length;rw[wd];omega);exact⟨p,λ b l=>by rw[m b l];show(s.σ.bx++[_])[b]?=_;rw[List.getElem?_append_left (by omega)]⟩
     .exact qew (n:=n) a ⟨qbq s.tm o.dst qht,s.σ⟩ c h i
     .cases h
theorem qHu(hC:yq P C)(hx:qcR P ex){id:Nat}{s K R s':S}(au:qi0 C.lo ops.toList=true)(ba:qcG C.lo ops=true)(hk:qfq C.lo s.tm ⟨qJ C.lo ops.toList⟩ true=true)(h:zD C ex ⟨qJ C.lo ops.toList⟩ true (qJ C.lo ops.toList) s=some K)(hm:zD C ex ops false (alL C.lo ops.toList) K=some R)(h':zD C ex ops true (qqK C.lo ops.toList) R=some s'){a:Act}{Q:Exit->Act->World->Prop}(hi:Inv Γ s.σ w)(Y:zw Γ s.tm a)
  (B:∀Γ' w' a',Ext Γ w Γ' w'->Inv Γ' s'.σ w'->zw Γ' s'.tm a'->qO s.σ s'.σ->a'.defers=a.defers->Q .normal a' w'):(Code.region id ops true).wp P Q a w:=by
 let⟨lA,h1,h2,h3,h4⟩:=qi3 (qJ C.lo ops.toList) s K h;let⟨lS,e1,e2,e3,_⟩:=qi3 (qqK C.lo ops.toList) R s' h';have hT:qdw C ex ⟨qJ C.lo ops.toList⟩ lA s:=qsa h3 h4;rw[qpz]at h2;have hk:qbP C.lo s.tm ⟨qJ C.lo ops.toList⟩=true:=hk;let⟨bC,aq,av⟩:=qAh au;generalize hn:qcI C.lo ops.toList=n at h2 aq;have bj:n<=ops.size:=by rw[<-hn];simpa using qrl C.lo ops.toList
 have hg:∀(j:Nat) (o:Oper),ops[j]?=some o->zP o=true->o.guard=none:=λ j o M ha=>(av j o M ha).1
 have aL:∀(j:Nat) (o:Oper),(ops.toList.take n)[j]?=some o->0+j<n/\ops[0+j]?=some o:=λ j o M=>by
  grind
 have ak:0+(ops.toList.take n).length=n:=by simp;omega
 have hm:zD C ex ops false ((ops.toList.take n).filter zP) K=some R:=by rw[<-hn];exact hm
 have aZ:qqK C.lo ops.toList=ops.toList.drop n:=by unfold qqK;rw[hn]
 rw[aZ]at e1 e2 e3
 have hz:∀k o e,k<qcI C.lo ops.toList->ops[k]?=some o->o.op=.alloc e->∃d,yO P e=some d/\d.zero.all zF=true:=λ k o e hk M aO=>by
  rw[hn]at hk;have a6:o∈ops.toList.take n:=wb (i:=k) (by rw[List.getElem?_take,if_pos hk];simpa using M)
  let⟨d,D,G⟩:=qtZ _ K hm (λ q B H=>by
   let⟨j,hj⟩:=List.getElem?_of_mem B;exact hg (0+j) q (aL j q hj).2 H) o a6 e aO
  exact⟨d,hC.ty e d D,G⟩
 have af:∀L:Nat->Bool,(∀(i:Nat) (q:Oper),i<n->ops[i]?=some q->qbh ops.toList q=false->L i=true)->(F (qJ C.lo ops.toList) lA s L n).σ=K.σ:=λ L hL=>by
  rw[qJj hn.symm hT.recd hL n (wa _),h2]
 have aR:∀k,F (qJ C.lo ops.toList) lA s (λ i=>(Array.replicate ops.size false).getD i false) k=s:=by
  intro k
  induction k with
  |zero=>rfl
  |succ k X=>
    simp only[F]
    have:(Array.replicate ops.size false).getD k false=false:=by
     rw[wJ,Array.getElem?_replicate];split<;>rfl
    rw[this];split
    .rename_i hf;cases hf
    .exact X
 have V:∀i,(Array.replicate ops.size false).getD i false=false:=λ i=>by
  rw[wJ,Array.getElem?_replicate];split<;>rfl
 let nb:=K.σ.bx.length;have aG:K.σ.bx.length=idA nb ops 0:=rfl;let A:=qsi ops n nb lA lS;let f:S:=⟨s.tm,R.σ⟩
 have O:∀k y,k<n->A[k]?=some y->y.2=none:=recB_σ bj;have aD:∀L k,k<=n->qG0 ops (λ i=>i<k/\L i=true) nb (F (qJ C.lo ops.toList) lA s L k).tm (F ops.toList A f L k).tm:=qFl rfl hn.symm hT.recd av
 have bs:F ops.toList A f qp n=R:=by
  have hr:=qoW (nb:=nb) av (ops.toList.take n) 0 K R aL ak hm aG;have N:=aD qp n (wa _);rw[h2]at N;have aV:(F ops.toList A f qp n).σ=R.σ:=qgE O n (wa _)
  have bP:(F ops.toList A f qp n).tm=R.tm:=by
   have ar:(F ops.toList A f qp n).tm.length=R.tm.length:=by rw[N.1,hr.1]
   have bc:∀t,(F ops.toList A f qp n).tm.getD t .dead=R.tm.getD t .dead:=λ t=>by
    by_cases ai:∃(k:Nat) (o:Oper),k<n/\ops[k]?=some o/\zP o=true/\o.dst=some t
    .let⟨k,o,q1,W,T,q4⟩:=ai;rw[(N.2 t).1 k o ⟨q1,rfl⟩ W T q4,(hr.2 t).1 k o ⟨we _,q1⟩ W T q4]
    .rw[(N.2 t).2 λ k o hk W T q4=>ai ⟨k,o,hk.1,W,T,q4⟩,(hr.2 t).2 λ k o hk W T q4=>ai ⟨k,o,hk.2,W,T,q4⟩]
   apply List.ext_getElem ar;intro i D G;have:=bc i;grind
  show F ops.toList A f qp n=R;generalize F ops.toList A f qp n=z at *;let⟨z1,z2⟩:=z;simp_all
 have ac:∀i,i<=(ops.toList.drop n).length->F ops.toList A f qp (n+i)=F (ops.toList.drop n) lS R qp i:=by
  intro i
  induction i with
  |zero=>intro _;exact bs
  |succ i X=>
    intro ah;show F ops.toList A f qp (n+i+1)=_;have hl:A[n+i]?=lS[i]?:=qo4;simp only[F,List.getElem?_drop,hl,X (by omega)];rfl
 have ar:n+(ops.toList.drop n).length=ops.size:=by simp;omega
 have bd:F ops.toList A f qp ops.size=s':=by rw[<-ar,ac _ (wa _)];exact e2
 have E:qu7 C ops A:=by
  intro i o M;have bT:i<ops.size:=(Array.getElem?_eq_some_iff.1 M).1;by_cases bF:i<n
  .have hy:=qo7 (nb:=nb) (lA:=lA) (lS:=lS) bF M;grind
  .obtain⟨j,rfl⟩:∃j,i=n+j:=⟨i-n,by omega⟩
   let⟨y,D,_,g3⟩:=e3 j o (by rw[List.getElem?_drop];simpa using M);grind [qo4]
 have aM:∀(L:Nat->Bool) (j:Nat) (o:Oper),qcE ops L->(∀(i:Nat) (q:Oper),i<n->ops[i]?=some q->qbh ops.toList q=false->L i=true)->ops[j]?=some o->L j=false->(∀e∈jG o,L e=true)->
   ∃y,qbf C ex ops o (F ops.toList A f L ops.size) y/\F ops.toList A f (λ i=>decide (i=j)||L i) ops.size=yd (F ops.toList A f L ops.size) o y:=by
  intro L j o hd aw M hL hp;have bS:j<ops.size:=(Array.getElem?_eq_some_iff.1 M).1;let⟨y,hy,bB⟩:=E j o M;refine⟨y,?_,qFz (s0:=f) E ba hd M hL hp hy bB⟩;have ae:∀t∈qbc ops o,(F ops.toList A f L ops.size).tm.getD t .dead=(F ops.toList A f qp j).tm.getD t .dead:=λ t Y=>ql4 (s0:=f) E ba hd M hL hp Y;by_cases bb:j<n
  .-- it qbc at no memory
   have hf:qbh ops.toList o=true:=by
    cases hf:qbh ops.toList o with
    |true=>rfl
    |false=>rw[aw j o bb M hf]at hL;cases hL
   let⟨f2,f3⟩:=qFA hf;have bz:ops.toList[j]?=some o:=by simpa using M
   have bf:jV o=o:=by unfold jV;rw[f2]
   have bv:(qJ C.lo ops.toList)[j]?=some o:=by
    rw[qk0 (by omega),bz];show some (jV o)=_;rw[bf]
   have aN:(⟨qJ C.lo ops.toList⟩:Array Oper)[j]?=some o:=by simpa using bv
   have bh:qcE ⟨qJ C.lo ops.toList⟩ L:=by
    intro i q B bM e he;obtain⟨bG,q',D,rfl⟩:=quR (lo:=C.lo) (l:=ops.toList) (j:=i) (o:=q) (by simpa using B);rw[qnm]at he;exact hd i q' (by simpa using D) bM e he
   have aF:(⟨qJ C.lo ops.toList⟩:Array Oper).size=n:=by show(qJ C.lo ops.toList).length=n;rw[qpz,hn]
   let⟨z,z1,zs,_⟩:=qEl hT hk bh aN hL hp;rw[aF]at zs;let⟨z',q1,_,T⟩:=hT.st j o aN;rw[z1]at q1;cases q1
   have ay:z.2=none:=by
    cases hc:z.2 with
    |none=>rfl
    |some τ=>have:=T (by rw[hc];rfl);rw[qoI hf]at this;cases this
   have aK:y=z:=by
    have h0:=qo7 (nb:=nb) (lA:=lA) (lS:=lS) bb M;rw[f2]at h0;have hz:lA.getD j (.dead,none)=z:=by rw[List.getD_eq_getElem?_getD,z1];rfl
    simp only[hz]at h0;have hy:(qsi ops n nb lA lS)[j]?=some y:=hy;rw[h0]at hy;cases hy;rw[<-ay]
   subst aK
   have am:∀t∈qbc ops o,(F ops.toList A f L ops.size).tm.getD t .dead=(F (qJ C.lo ops.toList) lA s qp j).tm.getD t .dead:=λ t Y=>by
    rw[ae t Y];refine((aD qp j (by omega)).2 t).2 λ k q a9 B H aB=>?_;exact f3 q (wb (i:=k) (by simpa using B)) H t aB Y
   have ag:∀t∈qbc ⟨qJ C.lo ops.toList⟩ o,(F (qJ C.lo ops.toList) lA s L n).tm.getD t .dead=(F (qJ C.lo ops.toList) lA s qp j).tm.getD t .dead:=λ t Y=>by
    have:=ql4 (s0:=s) hT.recd (qko hk) bh aN hL hp Y;rw[aF]at this;exact this
   have bq:=qki (ops:=⟨qJ C.lo ops.toList⟩) (o:=o) ag
   have hw:∀b,yw ⟨qJ C.lo ops.toList⟩ (F (qJ C.lo ops.toList) lA s L n).tm o=some b->yw ops (F ops.toList A f L ops.size).tm o=some b:=λ b N=>by
    rw[qki am];rw[bq]at N;exact qpA (by rw[bf];exact N)
   obtain⟨D,G⟩|⟨D,G⟩:=zs
   .refine .inl ⟨hw _ D,?_⟩
    have ao:∀τ,opA C ex (F ops.toList A f L ops.size).tm τ o.op=opA C ex (F (qJ C.lo ops.toList) lA s L n).tm τ o.op:=λ τ=>qud (C:=C) (ex:=ex) (op:=o.op) (σ:=τ) (qr0 (xs:=o.op.operands.toList) λ t Y=>(am t (by
     simp only[qbc,wk];exact .inl (.inr Y))).trans (ag t (by
     simp only[qbc,wk];exact .inl (.inr Y))).symm)
    have G:opA C ex (F (qJ C.lo ops.toList) lA s L n).tm (F (qJ C.lo ops.toList) lA s L n).σ o.op=some y:=G;rw[af L aw]at G;rw[ao];let⟨x,zz⟩:=y;have ay:zz=none:=ay;subst ay;have I:=hf;unfold qbh at I;rw[wU]at I;obtain I|I:=I
    .unfold qgZ at I;simp only[wc,wQ]at I;exact qD9 I.1.1 (qoI hf) G
    .-- it lies behind stores into the region's boxes alone
     have aC:qtQ o.op=true:=by
      unfold qsm at I;rw[wc]at I;exact I.1
     refine qK0 aC ?_ G
     have bA:qgZ ops.toList o=false:=by
      cases hc:qgZ ops.toList o with
      |false=>rfl
      |true=>
        unfold qgZ at hc;simp only[wc,wQ]at hc;have:=hc.1.1;unfold qtQ at aC;split at aC
        .rename_i e;rw[e]at this;cases this
        .rename_i e;rw[e]at this;cases this
        .cases aC
     have a5:∀(m:Nat) (q:Oper),ops[n+m]?=some q->L (n+m)=true->qwv ops.toList q=true:=λ m q B ab=>by
      obtain N|⟨_,q',an,h'⟩:=aq (n+m) q B (by omega) j (by omega)
      .have:=qj3 hd (n+m) q B (hd (n+m) q B ab) N;rw[hL]at this;cases this
      .rw[M]at an;cases an;obtain h'|⟨_,h'⟩:=h'
       .rw[bA]at h';cases h'
       .exact h'
     have aE:∀(m:Nat) (q:Oper),ops[n+m]?=some q->L (n+m)=true->∀p,p<m->L (n+p)=true:=λ m q B ab p a4=>by
      obtain N|⟨N,_⟩:=aq (n+m) q B (by omega) (n+p) (by omega)
      .exact qj3 hd (n+m) q B (hd (n+m) q B ab) N
      .omega
     have aA:∀(k:Nat) (q:Oper) (d:Tmp),k<n->ops[k]?=some q->zP q=true->q.dst=some d->∀m,n+m<=ops.size->(F ops.toList A f qp (n+m)).tm.getD d .dead=.dead\/∃b,nb<=b/\(F ops.toList A f qp (n+m)).tm.getD d .dead=.ptr b 0:=λ k q d aa B H aB m=>by
      induction m with
      |zero=>
        intro _;have:=((aD qp n (wa _)).2 d).1 k q ⟨aa,rfl⟩ B H aB;rw[wL,this];split
        .exact .inr ⟨_,by unfold idA;omega,rfl⟩
        .exact .inl rfl
      |succ m X=>
        intro ah;let⟨W,a0⟩:=jp (ops:=ops) (k:=n+m) (by omega);let⟨y2,_,_,hF⟩:=Jy (s0:=f) E a0;show(F ops.toList A f qp (n+m+1)).tm.getD d .dead=_\/∃b,nb<=b/\(F ops.toList A f qp (n+m+1)).tm.getD d .dead=_;let⟨_,d',bi,br⟩:=av k q B H;rw[aB]at bi;cases bi;rw[hF qp,if_pos (show qp (n+m)=true from rfl),qkJ _ _ _ _ (br (n+m) W a0 (by omega))];exact X (by omega)
     have aU:∀m,n+m<=ops.size->(∀(p:Nat) (q:Oper),p<m->ops[n+p]?=some q->qwv ops.toList q=true)->qjY nb K.σ (F ops.toList A f qp (n+m)).σ:=by
      intro m
      induction m with
      |zero=>
        intro _ _;rw[wL,qgE O n (wa _)];exact(qew (ops.toList.take n) K R hm (wa _):qjY nb K.σ R.σ)
      |succ m X=>
        intro ah aH;let⟨q,B⟩:=jp (ops:=ops) (k:=n+m) (by omega);let⟨z,w1,w2,w3⟩:=e3 m q (by rw[List.getElem?_drop];simpa using B);let⟨y2,u1,_,hF⟩:=Jy (s0:=f) E B;have:A[n+m]?=lS[m]?:=qo4;rw[this,w1]at u1;cases u1;rw[<-ac m (by omega)]at w2;have X:=X (by omega) λ p q a4=>aH p q (by omega);show qjY nb K.σ (F ops.toList A f qp (n+m+1)).σ;rw[hF qp,if_pos (show qp (n+m)=true from rfl)];cases Z:z.2 with
        |none=>rw[putS_σ _ _ _ Z];exact X
        |some ax=>
          have e:(yd (F ops.toList A f qp (n+m)) q z).σ=ax:=by simp[yd,Z,turn]
          rw[e];have ap:=aH m q (by omega) B;unfold qwv at ap;split at ap<;>try cases ap
          rename_i t c v bw;rw[vO]at ap;let⟨qa,bt,H⟩:=ap;rw[wc]at H;let⟨k,aa⟩:=List.getElem?_of_mem bt;have aa:ops[k]?=some qa:=by simpa using aa
          let⟨bJ,d,bg,_⟩:=av k qa aa H.1
          have bK:d=c:=by
           have:=H.2;unfold qlX at this;rw[bg]at this;exact wn this
          subst bK;let⟨x2,bn⟩:=z;have Z:bn=some ax:=Z;subst Z
          have bE:k<n:=by
           apply xL;intro bR;obtain⟨r,rfl⟩:∃r,k=n+r:=⟨k-n,by omega⟩
           have bQ:n+r<ops.size:=(Array.getElem?_eq_some_iff.1 aa).1;let⟨za,a1,a2,a3⟩:=e3 r qa (by rw[List.getElem?_drop];simpa using aa);let⟨ea,be⟩:=qek H.1;have bD:zp C.lo qa.op=false:=by rw[be];rfl
           obtain⟨_,a2⟩|⟨a2,_⟩:=a2
           .rw[be]at a2;simp only[opA,qc]at a2;split at a2<;>try cases a2
            split at a2<;>cases a2;have:=a3 rfl;rw[bD]at this;cases this
           .unfold yw at a2;rw[bJ]at a2;cases a2
          have U:=aA k qa d bE aa H.1 bg m (by omega);obtain⟨_,w2⟩|⟨_,w2⟩:=w2
          .obtain⟨b,off,D,bN,g3⟩|⟨r',i',o',bV,D⟩:=qic bw w2
           .obtain U|⟨b',bL,U⟩:=U
            .rw[U]at D;cases D
            .rw[U]at D;cases D;exact⟨bN.trans X.1,λ b N=>by rw[g3 b (by omega)];exact X.2 b N⟩
           .obtain U|⟨b',bL,U⟩:=U<;>(rw[U]at D;cases D)
          .cases w2
     have bO:∀m,n+m<=ops.size->qjY nb K.σ (F ops.toList A f L (n+m)).σ:=by
      intro m
      induction m with
      |zero=>
        intro _;rw[wL,qgE O n (wa _)];exact(qew (ops.toList.take n) K R hm (wa _):qjY nb K.σ R.σ)
      |succ m X=>
        intro ah;let⟨q,B⟩:=jp (ops:=ops) (k:=n+m) (by omega);let⟨z,_,_,hF⟩:=Jy (s0:=f) E B;show qjY nb K.σ (F ops.toList A f L (n+m+1)).σ;rw[hF L];split
        .rename_i ab;cases Z:z.2 with
         |none=>rw[putS_σ _ _ _ Z];exact X (by omega)
         |some ax=>
           have Y:=aU (m+1) ah λ p q' a4 an=>a5 p q' an (by
            by_cases bu:p=m
            .subst bu;exact ab
            .exact aE m q B ab p (by omega))
           have bl:=hF qp;rw[if_pos (show qp (n+m)=true from rfl)]at bl;have e:∀s:S,(yd s q z).σ=ax:=λ s=>by simp[yd,Z,turn]
           have Y:qjY nb K.σ (F ops.toList A f qp (n+m+1)).σ:=Y;rw[bl,e]at Y;rw[e];exact Y
        .exact X (by omega)
     have:=bO (ops.size-n) (by omega);rw[show n+(ops.size-n)=ops.size by omega]at this;exact this
   .exact .inr ⟨hw _ D,G⟩
  .obtain⟨i,rfl⟩:∃i,j=n+i:=⟨j-n,by omega⟩
   have bU:i<(ops.toList.drop n).length:=by omega
   let⟨z,z1,z2,z3⟩:=e3 i o (by rw[List.getElem?_drop];simpa using M)
   have aK:y=z:=by
    have:A[n+i]?=lS[i]?:=qo4;rw[this,z1]at hy;cases hy;rfl
   subst aK;rw[<-ac i (by omega)]at z2
   have aV:(F ops.toList A f L ops.size).σ=(F ops.toList A f qp (n+i)).σ:=by
    have a8:∀m,n<=m->m<n+i->L m=true:=λ m a7 aP=>by
     obtain N|⟨N,_⟩:=aq (n+i) o M (by omega) m aP
     .exact qj3 hd (n+i) o M hp N
     .omega
    have aQ:∀m,n+i<m->m<ops.size->L m=false:=λ m a7 aP=>by
     let⟨q,B⟩:=jp (ops:=ops) (k:=m) aP;cases ab:L m with
     |false=>rfl
     |true=>
       obtain N|⟨N,_⟩:=aq m q B (by omega) (n+i) a7
       .have:=qj3 hd m q B (hd m q B ab) N;rw[hL]at this;cases this
       .omega
    have k1:∀m,m<=i->(F ops.toList A f L (n+m)).σ=(F ops.toList A f qp (n+m)).σ:=by
     intro m
     induction m with
     |zero=>intro _;rw[wL,qgE O n (wa _),qgE O n (wa _)]
     |succ m X=>
       intro ah;let⟨q,B⟩:=jp (ops:=ops) (k:=n+m) (by omega);let⟨y',_,_,hF⟩:=Jy (s0:=f) E B;show(F ops.toList A f L (n+m+1)).σ=(F ops.toList A f qp (n+m+1)).σ;rw[hF L,hF qp,if_pos (a8 (n+m) (by omega) (by omega)),if_pos (show qp (n+m)=true from rfl)];show turn _ _=turn _ _;rw[X (by omega)]
    have k2:∀m,n+i+m<=ops.size->(F ops.toList A f L (n+i+m)).σ=(F ops.toList A f L (n+i)).σ:=by
     intro m
     induction m with
     |zero=>intro _;rfl
     |succ m X=>
       intro ah;let⟨q,B⟩:=jp (ops:=ops) (k:=n+i+m) (by omega);let⟨y',_,_,hF⟩:=Jy (s0:=f) E B;show(F ops.toList A f L (n+i+m+1)).σ=_
       have hf:L (n+i+m)=false:=by
        cases m with
        |zero=>exact hL
        |succ m=>exact aQ _ (by omega) (by omega)
       rw[hF L,hf];simp only[xo,if_false];exact X (by omega)
    have:=k2 (ops.size-(n+i)) (by omega);rw[show n+i+(ops.size-(n+i))=ops.size by omega]at this;rw[this,k1 i (wa _)]
   have aW:=qki (ops:=ops) (o:=o) ae
   have ao:=qud (C:=C) (ex:=ex) (op:=o.op) (σ:=(F ops.toList A f L ops.size).σ) (qr0 (xs:=o.op.operands.toList) λ t Y=>ae t (by
    simp only[qbc,wk];exact .inl (.inr Y)))
   obtain⟨D,G⟩|⟨D,G⟩:=z2
   .refine .inl ⟨by rw[aW];exact D,?_⟩;rw[ao,aV];exact G
   .exact .inr ⟨by rw[aW];exact D,G⟩
 refine wp_region_any hC.mixed ?_;refine qPH hC hx hT hk au hz (w0:=w) hn.symm ops.size _ Γ _ a (λ _=>0) (by simp) (by rw[xi,vQ];simp) (λ i _=>V i) ?_ ?_ ?_ ?_ (wa _) ?_
 .intro i q an bG;grind
 .rw[aR];exact hi.drew
 .rw[aR];exact Y
 .exact⟨λ k o e d h=>(by rw[V]at h;cases h),λ k o e d u h=>(by rw[V]at h;cases h),λ k k' o o' h=>(by rw[V]at h;cases h)⟩
 .intro aS g aJ w1 a1 bm x1 x2 x3 x4 x5 x6 x7 x8 x9 aj bp;have bo:Ext Γ w aJ w1:=(Ext.drew Γ w).trans x6
  have J:∀(k:Nat) (o:Oper),k<n->ops[k]?=some o->zP o=true->g.getD k false=true:=λ k o q1 W T=>x4 k o q1 W (by
   cases hc:qbh ops.toList o with
   |false=>rfl
   |true=>rw[(qFA hc).1]at T;cases T)
  have al:qkI P aJ w w1 ops (λ k=>0<=k/\k<n) a1 bm:=⟨λ k o e d hh D G=>x9.blk k o e d (J k o hh.2 D (by simp[zP,G])) D G,λ k o e d u hh D G=>x9.tmp k o e d u (J k o hh.2 D (by simp[zP,G])) D G,λ k k' o o' hh bH D G g3 g4=>x9.inj k k' o o' (J k o hh.2 D g3) (J k' o' bH.2 G g4) D G g3 g4⟩
  rw[af _ x4]at x7;rw[af _ x4]at aj;have aj:qO s.σ K.σ:=by rw[aR]at aj;exact aj
  let⟨aT,c0,c1,c2,c3,c4⟩:=qr3 hC (n:=n) (nb:=nb) (ad:=bm) (ops.toList.take n) 0 K R K.σ aJ aL ak hm hg rfl aG x7 al bo
  have bk:F ops.toList A f (λ i=>g.getD i false) ops.size=F ops.toList A f (λ i=>g.getD i false) n:=by
   grind [qKd]
  have aI:(F ops.toList A f (λ i=>g.getD i false) ops.size).σ=R.σ:=by rw[bk];exact qgE O n (wa _)
  refine qGF hC hx (l:=A) (s0:=f) (Good:=λ L=>∀(i:Nat) (q:Oper),i<n->ops[i]?=some q->qbh ops.toList q=false->L i=true) (λ L j hg i q q1 W T=>by simp[hg i q q1 W T]) bC aM aS g aT w1 a1 x1 x2 x5 x4 (by rw[aI];exact c2) ?_ ?_
  .-- the slots
   rw[bk];let⟨b1,b2⟩:=aD (λ i=>g.getD i false) n (wa _);have aY:RepL aT (F (qJ C.lo ops.toList) lA s (λ i=>g.getD i false) n).tm a1.tmps.toList:=waL c0 x8;refine⟨by rw[b1];exact aY.len,λ t x u hx hu=>?_⟩;have ak:=getElem?_lt hx;have az:(F ops.toList A f (λ i=>g.getD i false) n).tm.getD t .dead=x:=by rw[List.getD_eq_getElem?_getD,hx];rfl
   by_cases ai:∃(k:Nat) (o:Oper),k<n/\ops[k]?=some o/\zP o=true/\o.dst=some t
   .let⟨k,o,q1,W,T,q4⟩:=ai;rw[(b2 t).1 k o ⟨q1,J k o q1 W T⟩ W T q4,if_pos (by rw[<-b1];exact ak)]at az;let⟨e,aO⟩:=qek T;have hp:=al.tmp k o e t u ⟨we _,q1⟩ W aO q4 (by simpa using hu);grind
   .rw[(b2 t).2 λ k o a9 W T q4=>ai ⟨k,o,a9.1,W,T,q4⟩]at az;have aX:t<(F (qJ C.lo ops.toList) lA s (λ i=>g.getD i false) n).tm.length:=by rw[<-b1];exact ak
    rw[List.getD_eq_getElem?_getD,List.getElem?_eq_getElem aX]at az;exact aY.rep t x u (by rw[List.getElem?_eq_getElem aX];exact congrArg some az) hu
  .intro Γ' w' a' D G g3 g4 g5;rw[bd]at G g3 g4;rw[aI]at g4;exact B Γ' w' a' (c1.trans D) G g3 (aj.trans (c3.trans g4)) (by rw[g5,bp])
end
end Go.AmZ
namespace Go.AmZ
open Go Go.RowKit
def qLi:AV->Bool
 |.rpt _ _ _ _|.ept _ _=>true
 |_=>false
theorem qI0{o:Oper}{a:Tmp×Operand}(h:stP o=some a):(∃t,o.op=.store t (.tmp a.1) a.2)/\o.guard=none/\o.dst=none:=by
 grind [stP]
theorem qP8{o:Oper}{d:Tmp}(h:ixP o=some d):(∃t x i,o.op=.indexAddr t x i)/\o.guard=none/\o.dst=some d:=by
 grind [ixP]
theorem qzZ:∀{m b:Nat},quW m b=true->∀i,i<m->b.testBit i=true
 |0,_,_,i,a=>absurd a (wK _)
 |m+1,b,h,i,a=>by
   simp only[quW,wc]at h;obtain a|rfl:=Nat.lt_succ_iff_lt_or_eq.1 a
   .exact qzZ h.2 i a
   .exact h.1
theorem qFX{ops:Array Oper}{e:Bool}{b:Tmp}(h:qo5 ops e=some b):e=true/\∃p o q d f c,qgV ops=[p,o,q]/\ixP p=some d/\stP o=some (d,f)/\stP q=some (b,c)/\b≠d/\qHJ d c=true/\qHY (QX ops.toList []) (ops.toList.length-3) p o q=true:=by
 unfold qo5 at h;split at h
 .refine⟨rfl,?_⟩;unfold qPz at h;split at h
  .rename_i p o q i;split at h
   .rename_i d a m l k j;split at h
    .rename_i g;cases h;simp only[wc,wQ]at g;grind [Nat.eq_of_beq_eq_true]
    .cases h
   .cases h
  .cases h
 .cases h
section
variable {P:Program}{C:Cfg}{Γ:Gh}{σ:St}{w:World}{ops pre:Array Oper}{ex:jP}{l:List (AV×Option St)}{s0:S}
theorem qKC{g:List AV}{σ':St}{t:TypeId}{a:Tmp}{v:Operand}{b off:Nat}{x:AV}{z:Option St}(h:opA C ex g σ (.store t (.tmp a) v)=some (x,z))(m:g.getD a .dead=.ptr b off):
  ∃cs,z=some {σ with bx:=σ.bx.set b cs,wr:=b::σ.wr}/\∀(c:List AV) (τ:St),aev c (.tmp a)=aev g (.tmp a)->aev c v=aev g v->τ.bx=σ.bx->opA C ex c τ (.store t (.tmp a) v)=some (x,some {τ with bx:=τ.bx.set b cs,wr:=b::τ.wr}):=by
 have k:aev g (.tmp a)=.ptr b off:=m;simp only[opA,qc,k]at h;cases j:C.ty t with
 |none=>rw[j]at h;cases h
 |some d=>
   rw[j]at h;simp only at h;cases f:σ.bx[b]? with
   |none=>rw[f]at h;cases h
   |some cs=>
     rw[f]at h;simp only at h;split at h<;>cases h;rename_i l;refine⟨_,rfl,λ c τ o n i=>?_⟩;have e:τ.bx[b]?=some cs:=by rw[i];exact f
     simp only[opA,qc,o,n,k,j,e,l]
theorem qKz{a:List AV}{t:TypeId}{u i:Operand}{x:AV}{z:Option St}(b:qy8 (aev a u)=false)(h:opA C ex a σ (.indexAddr t u i)=some (x,z)):
  z=none/\qLi x=true/\∀τ:St,τ.rw=σ.rw->opA C ex a τ (.indexAddr t u i)=some (x,none):=by
 have c:∀τ:St,τ.rw=σ.rw->opA C ex a τ (.indexAddr t u i)=some (x,z):=λ τ d=>by
  simp_all [opA,qc]
 have f:z=none/\qLi x=true:=by
  simp only[opA,qc]at h
  repeat' split at h
  all_goals first|(cases h;done)|(cases h;exact⟨rfl,rfl⟩)|(rename_i e _ _;rw[e]at b;cases b)|(exfalso;simp_all [qy8];done)
 grind
theorem qPD{b:List AV}{t:TypeId}{a:Tmp}{v:Operand}{y:AV}{x:AV}{z:Option St}(h:opA C ex b σ (.store t (.tmp a) v)=some (x,z))(o:b.getD a .dead=y)(m:qLi y=true):
  ∃r R,z=some {σ with rw:=σ.rw.set r R,wrr:=r::σ.wrr}/\∀τ:St,τ.rw=σ.rw->opA C ex b τ (.store t (.tmp a) v)=some (x,some {τ with rw:=τ.rw.set r R,wrr:=r::τ.wrr}):=by
 have n:aev b (.tmp a)=y:=o;cases y with
 |rpt j k f e=>
   simp only[opA,qc,n]at h;cases g:C.ty t with
   |none=>rw[g]at h;cases h
   |some d=>
     rw[g]at h;simp only at h;cases i:σ.rw[j]? with
     |none=>rw[i]at h;cases h
     |some R=>
       rw[i]at h;simp only at h;cases c:qsT R k f e d.size (cellsOf (aev b v))with
       |none=>rw[c]at h;cases h
       |some R'=>
         rw[c]at h;cases h;refine⟨_,_,rfl,λ τ l=>?_⟩;simp_all [opA,qc]
 |ept p f=>
   simp_all [opA,qc]
 |_=>cases m
theorem qCC{a:List AV}{o:Oper}{b:Bool}(c:∀(i:Nat) (q:Oper),pre[i]?=some q->ops[i]?=some q)(h:yw pre a o=some b):yw ops a o=some b:=by
 grind [yw]
def g3(f e c d b a:S):Bool->Bool->Bool->S
 |true,true,true=>a
 |true,true,false=>b
 |true,false,_=>d
 |false,true,true=>c
 |false,true,false=>e
 |false,false,_=>f
def G3(pre:Array Oper)(l:List (AV×Option St))(s0 e c d b a:S)(L:Nat->Bool):S:=g3 (F pre.toList l s0 L pre.size) e c d b a (L (pre.size+2)) (L pre.size) (L (pre.size+1))
theorem qaB{h f g e d:S}{L:Nat->Bool}{a b c:Bool}(k:L (pre.size+2)=a)(j:L pre.size=b)(i:L (pre.size+1)=c):G3 pre l s0 h f g e d L=g3 (F pre.toList l s0 L pre.size) h f g e d a b c:=by
 unfold G3;rw[k,j,i]
theorem qxi{b:List AV}{t:TypeId}{a:Tmp}{v:Operand}{y:AV×Option St}(h:opA C ex b σ (.store t (.tmp a) v)=some y):a<b.length:=by
 apply wah;intro c
 have d:aev b (.tmp a)=.dead:=by
  show b.getD a .dead=.dead;grind
 simp_all [opA,qc]
theorem qNG{a:List AV}{d:Tmp}{x:AV}{v:Operand}(h:qHJ d v=true):aev (a.set d x) v=aev a v:=by
 cases v with
 |tmp t=>
   have b:d≠t:=λ c=>by rw[c]at h;simp[qHJ]at h
   show(a.set d x).getD t .dead=a.getD t .dead;grind
 |_=>rfl
theorem qIf(hC:yq P C)(hx:qcR P ex){id:Nat}{s g s':S}{b:Tmp}(aQ:qo5 ops true=some b)(hk:qfq C.lo s.tm (qco ops) true=true)(h1:zD C ex (qco ops) true (qco ops).toList s=some g)(aa:quH g.tm ops b=true)
  (h2:zD C ex ops true (qgV ops) g=some s') {a:Act}{Q:Exit->Act->World->Prop} (hi:Inv Γ s.σ w) (ht:zw Γ s.tm a)
  (hq:∀Γ' w' a',Ext Γ w Γ' w'->Inv Γ' s'.σ w'->zw Γ' s'.tm a'->qO s.σ s'.σ->a'.defers=a.defers->Q .normal a' w'):(Code.region id ops true).wp P Q a w:=by
 obtain⟨_,p,o,q,d,v6,v7,ar,aS,aT,aR,a8,aG,aF⟩:=qFX aQ;obtain⟨⟨t5,u5,i5,N⟩,aX,aw⟩:=qP8 aS;obtain⟨⟨t6,Y⟩,aW,av⟩:=qI0 aT;obtain⟨⟨t7,M⟩,aV,au⟩:=qI0 aR;unfold quH at aa;rw[wc]at aa;obtain⟨aa,J⟩:=aa
 have J:qy8 (aev g.tm u5)=false:=by
  grind [qGO]
 simp only[qHY,wc,wv]at aF;obtain⟨k1,k2,k3,k4,k5,k6⟩:=aF;obtain⟨pre,af⟩:∃pre,pre=qco ops:=⟨_,rfl⟩
 rw[<-af]at hk h1
 have aJ:ops.toList.length=(ops.toList.length-3)+3:=by
  have:(qgV ops).length=3:=by rw[ar];rfl
  grind [qgV]
 have aD:pre.size=ops.toList.length-3:=by
  rw[af];show(ops.toList.take (ops.toList.length-3)).toArray.size=_;grind
 have X:ops.toList=pre.toList++[p,o,q]:=by
  rw[af,<-ar];exact(kF _ _).symm
 rw[<-aD]at k1 k2 k3 k4 k5 k6;obtain⟨m,u⟩:∃m,m=pre.size:=⟨_,rfl⟩
 have aI:m=pre.toList.length:=by rw[u,wM]
 rw[<-u]at k1 k2 k3 k4 k5 k6;have am:ops.size=m+3:=by rw[<-wM,aJ,u,aD]
 have ae:∀i r,pre[i]?=some r->ops[i]?=some r:=λ i r hr=>by
  have hi:i<pre.toList.length:=by rw[wM];exact(Array.getElem?_eq_some_iff.1 hr).1
  rw[<-Array.getElem?_toList,X,List.getElem?_append_left hi,Array.getElem?_toList];exact hr
 have an:∀i r,i<m->ops[i]?=some r->pre[i]?=some r:=λ i r hi hr=>by
  grind
 have ay:∀n,ops[m+n]?=[p,o,q][n]?:=λ n=>by
  rw[<-Array.getElem?_toList,X,List.getElem?_append_right (by rw[<-aI];exact kK _ _),<-aI,kS]
 have ai:ops[m]?=some p:=ay 0;have aj:ops[m+1]?=some o:=ay 1;have ah:ops[m+2]?=some q:=ay 2;obtain⟨l,l1,l2,l3,l4⟩:=qi3 pre.toList s g h1;have hT:qdw C ex pre l s:=qsa l3 l4;rw[wM]at l2;have aK:qbP C.lo s.tm pre=true:=hk;have O:∀tm,yw ops tm p=some true:=λ tm=>by unfold yw;rw[aX]
 have T:∀tm,yw ops tm o=some true:=λ tm=>by unfold yw;rw[aW]
 have I:∀tm,yw ops tm q=some true:=λ tm=>by unfold yw;rw[aV]
 cases aE:g.tm.getD b .dead with
 |ptr W off=>
   have ax:∀x,(g.tm.set d x).getD b .dead=.ptr W off:=λ x=>by
    grind
   rw[ar]at h2
   obtain⟨H,x6,ac,x7,ap,y5,y6,y7,rfl⟩:∃H x6 ac x7 ap,opA C ex g.tm g.σ p.op=some (H,none)/\opA C ex (g.tm.set d H) g.σ o.op=some (x6,some ac)/\opA C ex (g.tm.set d H) ac q.op=some (x7,some ap)/\s'=⟨g.tm.set d H,ap⟩:=by
    simp only[zD,O,T,I]at h2;split at h2<;>try cases h2
    .rename_i H e5;rw[aw]at h2;simp only[qbq]at h2;have aq:=(qKz J (by rw[N]at e5;exact e5)).2.1;split at h2<;>try cases h2
     .rename_i x6 e6;have e6:=e6;rw[Y]at e6;have ag:=qxi e6;rw[wH]at ag;have hv:(g.tm.set d H).getD d .dead=H:=by rw[List.getD_eq_getElem?_getD,List.getElem?_set_self ag];rfl
      obtain⟨_,_,h,_⟩:=qPD e6 hv aq;cases h
     .rename_i x6 ac e6;split at h2<;>try cases h2
      rw[av]at h2;simp only at h2;split at h2<;>try cases h2
      .rename_i x7 e7;obtain⟨_,h,_⟩:=qKC (σ':=ac) (by rw[M]at e7;exact e7) (ax H);cases h
      .grind
    .rename_i H a3 e5;have:=(qKz J (by rw[N]at e5;exact e5)).1;cases this
   rw[N]at y5;rw[Y]at y6;rw[M]at y7;obtain⟨_,aq,g5⟩:=qKz J y5;have ag:=qxi y6;rw[wH]at ag;have aP:(g.tm.set d H).getD d .dead=H:=by rw[List.getD_eq_getElem?_getD,List.getElem?_set_self ag];rfl
   obtain⟨r,R,z6,g6⟩:=qPD y6 aP aq;cases z6;obtain⟨cs,z7,g7⟩:=qKC (σ':=g.σ) y7 (ax H);cases z7
   have eb:aev g.tm (.tmp b)=aev (g.tm.set d H) (.tmp b):=by
    show g.tm.getD b .dead=(g.tm.set d H).getD b .dead;rw[ax,aE]
   have ev:aev g.tm v7=aev (g.tm.set d H) v7:=(qNG aG).symm;obtain⟨B,al⟩:∃B:S,B=⟨g.tm.set d H,g.σ⟩:=⟨_,rfl⟩
   obtain⟨v,ak⟩:∃v:S,v=⟨g.tm.set d H,{g.σ with rw:=g.σ.rw.set r R,wrr:=r::g.σ.wrr}⟩:=⟨_,rfl⟩
   obtain⟨D,az⟩:∃D:S,D=⟨g.tm,{g.σ with bx:=g.σ.bx.set W cs,wr:=W::g.σ.wr}⟩:=⟨_,rfl⟩
   obtain⟨t,Z⟩:∃t:S,t=⟨g.tm.set d H,{g.σ with bx:=g.σ.bx.set W cs,wr:=W::g.σ.wr}⟩:=⟨_,rfl⟩
   obtain⟨f,U⟩:∃f:S,f=⟨g.tm.set d H,{g.σ with rw:=g.σ.rw.set r R,wrr:=r::g.σ.wrr,bx:=g.σ.bx.set W cs,wr:=W::g.σ.wr}⟩:=⟨_,rfl⟩
   have a5:qbf C ex ops p g (H,none):=.inl ⟨O _,by rw[N];exact y5⟩;have a2:qbf C ex ops p D (H,none):=.inl ⟨O _,by rw[N,az];exact g5 _ rfl⟩;have a6:qbf C ex ops o B (x6,some {g.σ with rw:=g.σ.rw.set r R,wrr:=r::g.σ.wrr}):=.inl ⟨T _,by rw[Y,al];exact y6⟩;have a1:qbf C ex ops o t (x6,some {g.σ with rw:=g.σ.rw.set r R,wrr:=r::g.σ.wrr,bx:=g.σ.bx.set W cs,wr:=W::g.σ.wr}):=.inl ⟨T _,by rw[Y,Z];exact g6 _ rfl⟩;have a7:qbf C ex ops q g (x7,some {g.σ with bx:=g.σ.bx.set W cs,wr:=W::g.σ.wr}):=.inl ⟨I _,by rw[M];exact g7 _ _ eb ev rfl⟩;have a0:qbf C ex ops q B (x7,some {g.σ with bx:=g.σ.bx.set W cs,wr:=W::g.σ.wr}):=.inl ⟨I _,by rw[M,al];exact g7 _ _ rfl rfl rfl⟩;have aM:qbf C ex ops q v (x7,some {g.σ with rw:=g.σ.rw.set r R,wrr:=r::g.σ.wrr,bx:=g.σ.bx.set W cs,wr:=W::g.σ.wr}):=.inl ⟨I _,by rw[M,ak];exact y7⟩;have ab:∀{L:Nat->Bool}{n j:Nat}{o':Oper},qcE ops L->ops[j]?=some o'->(∀e∈jG o',L e=true)->quW n ((QX ops.toList []).getD j 0)=true->∀i,i<n->L i=true:=λ hd ho hp hb i hi=>qj3 hd _ _ ho hp (qzZ hb i hi);have ao:∀{L:Nat->Bool},(∀i,i<m->L i=true)->F pre.toList l s L pre.size=g:=λ h=>by rw[<-l2];exact qBk _ λ i hi=>h i (by rw[u];exact hi)
   have aZ:∀k,F pre.toList l s (λ i=>(Array.replicate ops.size false).getD i false) k=s:=by
    intro k
    induction k with
    |zero=>rfl
    |succ k ih=>
      simp only[F]
      have:(Array.replicate ops.size false).getD k false=false:=by
       rw[wJ,Array.getElem?_replicate];split<;>rfl
      rw[this];split
      .rename_i hf;cases hf
      .exact ih
   have ad:∀i,(Array.replicate ops.size false).getD i false=false:=λ i=>by
    rw[wJ,Array.getElem?_replicate];split<;>rfl
   have aC:G3 pre l s B v D t f (λ i=>(Array.replicate ops.size false).getD i false)=s:=by
    rw[qaB (ad _) (ad _) (ad _)];exact aZ _
   have aL:G3 pre l s B v D t f qp=f:=qaB (a:=true) (b:=true) (c:=true) rfl rfl rfl;have A:∀(L:Nat->Bool) (j i:Nat),i≠j->(decide (i=j)||L i)=L i:=λ L j i h=>by rw[decide_eq_false h,xU]
   have E:∀(L:Nat->Bool) (j:Nat),(decide (j=j)||L j)=true:=λ L j=>by rw[decide_eq_true rfl,xu]
   refine wp_region_any hC.mixed ?_;refine qGk (G:=G3 pre l s B v D t f) (Good:=λ _=>True) hC hx (λ _ _ _=>trivial) (λ j o' z e he=>?_) (λ L K=>?_) (λ L j o' hd _ z K hp=>?_) ops.size _ Γ _ a (by simp) (by rw[xi,vQ];simp) ?_ trivial ?_ ?_ ?_
   .have aU:j<m+3:=by rw[<-am];exact(Array.getElem?_eq_some_iff.1 z).1
    by_cases hj:j<m
    .exact(qiQ aK).1 j o' (an j o' hj z) e he
    .obtain rfl|rfl|rfl:j=m\/j=m+1\/j=m+2:=by omega
     .rw[ai]at z;cases z;exact ky (k1 e he)
     .rw[aj]at z;cases z;exact ky (k2 e he)
     .rw[ah]at z;cases z;have:=ky (k3 e he);omega
   .rw[aL];exact qaB (a:=true) (b:=true) (c:=true) (K _ (by omega)) (K _ (by omega)) (K _ (by omega))
   .have aU:j<m+3:=by rw[<-am];exact(Array.getElem?_eq_some_iff.1 z).1
    have d1:L (m+1)=true->L m=true:=λ h=>ab hd aj (hd (m+1) o aj h) k5 m (xx m);by_cases hj:j<m
    .have aH:=an j o' hj z
     have n5:L m=false:=by
      cases aA:L m with
      |false=>rfl
      |true=>rw[ab hd ai (hd m p ai aA) k4 j hj]at K;cases K
     have n7:L (m+2)=false:=by
      cases aA:L (m+2)with
      |false=>rfl
      |true=>rw[ab hd ah (hd (m+2) q ah aA) k6 j hj]at K;cases K
     have aY:qcE pre L:=λ i r hr hi e he=>hd i r (ae i r hr) hi e he;obtain⟨y,aO,aN⟩:=quQ hT aK aY aH K hp
     have e1:G3 pre l s B v D t f L=F pre.toList l s L pre.size:=by
      exact qaB (a:=false) (b:=false) (c:=L (pre.size+1)) (by rw[<-u];exact n7) (by rw[<-u];exact n5) rfl
     have V:G3 pre l s B v D t f (λ i=>decide (i=j)||L i)=F pre.toList l s (λ i=>decide (i=j)||L i) pre.size:=by
      exact qaB (L:=λ i=>decide (i=j)||L i) (a:=false) (b:=false) (c:=_) (by show(decide (_=j)||L _)=false;rw[A _ _ _ (by omega),<-u];exact n7) (by show(decide (_=j)||L _)=false;rw[A _ _ _ (by omega),<-u];exact n5) rfl
     rw[e1,V];refine⟨y,?_,aN⟩;rcases aO with⟨w1,w2⟩|⟨w1,w2⟩
     .exact .inl ⟨qCC ae w1,w2⟩
     .exact .inr ⟨qCC ae w1,w2⟩
    .obtain rfl|rfl|rfl:j=m\/j=m+1\/j=m+2:=by omega
     .rw[ai]at z;cases z;have aB:=ab hd ai hp k4
      have n6:L (j+1)=false:=by
       cases h:L (j+1)with
       |false=>rfl
       |true=>rw[d1 h]at K;cases K
      cases hn:L (j+2)with
      |false=>
        have e1:G3 pre l s B v D t f L=g:=by
         exact(qaB (a:=false) (b:=false) (c:=false) (by rw[<-u];exact hn) (by rw[<-u];exact K) (by rw[<-u];exact n6)).trans (ao aB)
        have V:G3 pre l s B v D t f (λ i=>decide (i=j)||L i)=B:=
         qaB (L:=λ i=>decide (i=j)||L i) (a:=false) (b:=true) (c:=false) (by rw[<-u];show(decide (_=j)||L _)=false;rw[A _ _ _ (by omega)];exact hn) (by rw[<-u];exact E L j) (by rw[<-u];show(decide (_=j)||L _)=false;rw[A _ _ _ (by omega)];exact n6)
        rw[e1,V];refine⟨_,a5,?_⟩;rw[al,yd,aw];rfl
      |true=>
        have e1:G3 pre l s B v D t f L=D:=
         qaB (a:=true) (b:=false) (c:=false) (by rw[<-u];exact hn) (by rw[<-u];exact K) (by rw[<-u];exact n6)
        have V:G3 pre l s B v D t f (λ i=>decide (i=j)||L i)=t:=
         qaB (L:=λ i=>decide (i=j)||L i) (a:=true) (b:=true) (c:=false) (by rw[<-u];show(decide (_=j)||L _)=true;rw[A _ _ _ (by omega)];exact hn) (by rw[<-u];exact E L j) (by rw[<-u];show(decide (_=j)||L _)=false;rw[A _ _ _ (by omega)];exact n6)
        rw[e1,V];refine⟨_,a2,?_⟩;rw[Z,az,yd,aw];rfl
     .rw[aj]at z;cases z;have h5:=ab hd aj hp k5 m (xx m);cases hn:L (m+2)with
      |false=>
        have e1:G3 pre l s B v D t f L=B:=
         qaB (a:=false) (b:=true) (c:=false) (by rw[<-u];exact hn) (by rw[<-u];exact h5) (by rw[<-u];exact K)
        have V:G3 pre l s B v D t f (λ i=>decide (i=m+1)||L i)=v:=
         qaB (L:=λ i=>decide (i=m+1)||L i) (a:=false) (b:=true) (c:=true) (by rw[<-u];show(decide (_=m+1)||L _)=false;rw[A _ _ _ (by omega)];exact hn) (by rw[<-u];show(decide (_=m+1)||L _)=true;rw[A _ _ _ (by omega)];exact h5) (by rw[<-u];exact E L (m+1))
        rw[e1,V];refine⟨_,a6,?_⟩;rw[ak,al,yd,av];rfl
      |true=>
        have e1:G3 pre l s B v D t f L=t:=
         qaB (a:=true) (b:=true) (c:=false) (by rw[<-u];exact hn) (by rw[<-u];exact h5) (by rw[<-u];exact K)
        have V:G3 pre l s B v D t f (λ i=>decide (i=m+1)||L i)=f:=
         qaB (L:=λ i=>decide (i=m+1)||L i) (a:=true) (b:=true) (c:=true) (by rw[<-u];show(decide (_=m+1)||L _)=true;rw[A _ _ _ (by omega)];exact hn) (by rw[<-u];show(decide (_=m+1)||L _)=true;rw[A _ _ _ (by omega)];exact h5) (by rw[<-u];exact E L (m+1))
        rw[e1,V];refine⟨_,a1,?_⟩;rw[U,Z,yd,av];rfl
     .rw[ah]at z;cases z;have aB:=ab hd ah hp k6;cases h5:L m with
      |false=>
        have n6:L (m+1)=false:=by
         cases h:L (m+1)with
         |false=>rfl
         |true=>rw[d1 h]at h5;cases h5
        have e1:G3 pre l s B v D t f L=g:=by
         exact(qaB (a:=false) (b:=false) (c:=false) (by rw[<-u];exact K) (by rw[<-u];exact h5) (by rw[<-u];exact n6)).trans (ao aB)
        have V:G3 pre l s B v D t f (λ i=>decide (i=m+2)||L i)=D:=
         qaB (L:=λ i=>decide (i=m+2)||L i) (a:=true) (b:=false) (c:=false) (by rw[<-u];exact E L (m+2)) (by rw[<-u];show(decide (_=m+2)||L _)=false;rw[A _ _ _ (by omega)];exact h5) (by rw[<-u];show(decide (_=m+2)||L _)=false;rw[A _ _ _ (by omega)];exact n6)
        rw[e1,V];refine⟨_,a7,?_⟩;rw[az,yd,au];rfl
      |true=>
        cases h6:L (m+1)with
        |false=>
          have e1:G3 pre l s B v D t f L=B:=
           qaB (a:=false) (b:=true) (c:=false) (by rw[<-u];exact K) (by rw[<-u];exact h5) (by rw[<-u];exact h6)
          have V:G3 pre l s B v D t f (λ i=>decide (i=m+2)||L i)=t:=
           qaB (L:=λ i=>decide (i=m+2)||L i) (a:=true) (b:=true) (c:=false) (by rw[<-u];exact E L (m+2)) (by rw[<-u];show(decide (_=m+2)||L _)=true;rw[A _ _ _ (by omega)];exact h5) (by rw[<-u];show(decide (_=m+2)||L _)=false;rw[A _ _ _ (by omega)];exact h6)
          rw[e1,V];refine⟨_,a0,?_⟩;rw[Z,al,yd,au];rfl
        |true=>
          have e1:G3 pre l s B v D t f L=v:=
           qaB (a:=false) (b:=true) (c:=true) (by rw[<-u];exact K) (by rw[<-u];exact h5) (by rw[<-u];exact h6)
          have V:G3 pre l s B v D t f (λ i=>decide (i=m+2)||L i)=f:=
           qaB (L:=λ i=>decide (i=m+2)||L i) (a:=true) (b:=true) (c:=true) (by rw[<-u];exact E L (m+2)) (by rw[<-u];show(decide (_=m+2)||L _)=true;rw[A _ _ _ (by omega)];exact h5) (by rw[<-u];show(decide (_=m+2)||L _)=true;rw[A _ _ _ (by omega)];exact h6)
          rw[e1,V];refine⟨_,aM,?_⟩;rw[U,ak,yd,au];rfl
   .intro i r hr a4;grind
   .rw[aC];exact hi.drew
   .rw[aC];exact ht
   .intro Γ' w' a' g1 g2 g3 g4 g5;rw[aC]at g4;rw[aL,U]at g2 g3 g4;exact hq Γ' w' a' ((Ext.drew Γ w).trans g1) g2 g3 g4 g5
 |_=>rw[aE]at aa;cases aa
end
end Go.AmZ
namespace Go.AmZ
open Go Go.RowKit
section
variable {P:Program}{C:Cfg}{Γ:Gh}{σ:St}{w:World}{ops:Array Oper}{ex:jP}{l:List (AV×Option St)}{s0:S}
theorem qPG(q:yq P C)(k:qcR P ex)(o:qdw C ex ops l s0)(j:qbP C.lo s0.tm ops=true){Q:Exit->Act->World->Prop}:∀(d:Nat) (c:Array Bool) (Γ:Gh) (w:World) (a:Act),c.size=ops.size->c.toList.countP (λ b => !b)=d->qcE ops (λ i=>c.getD i false)->
  Inv Γ (F ops.toList l s0 (λ i=>c.getD i false) ops.size).σ w->zw Γ (F ops.toList l s0 (λ i=>c.getD i false) ops.size).tm a->
  (∀Γ' w' h,Ext Γ w Γ' w'->Inv Γ' (F ops.toList l s0 qp ops.size).σ w'->zw Γ' (F ops.toList l s0 qp ops.size).tm h->qO (F ops.toList l s0 (λ i=>c.getD i false) ops.size).σ (F ops.toList l s0 qp ops.size).σ->h.defers=a.defers->Q .normal h w')->
  wpAny P .any ops Q d c a w:=
 λ d c Γ w a e g f=>qGF q k (Good:=λ _=>True) (λ _ _ _=>trivial) (qiQ j).1 (λ _ _ _ f _ n p m=>quQ o j f n p m) d c Γ w a e g f trivial
theorem qII(g:yq P C)(m:qcR P ex){id:Nat}{b:Bool}{s d:S}(f:qfq C.lo s.tm ops b=true)(h:zD C ex ops b ops.toList s=some d){a:Act}{Q:Exit->Act->World->Prop}(p:Inv Γ s.σ w)(n:zw Γ s.tm a)
  (o:∀Γ' w' e,Ext Γ w Γ' w'->Inv Γ' d.σ w'->zw Γ' d.tm e->qO s.σ d.σ->e.defers=a.defers->Q .normal e w'):(Code.region id ops b).wp P Q a w:=by
 cases b with
 |false=>
   refine wp_region ?_;have:=qC3 g m (ops:=ops) ops.toList 0 s Γ w a (by simp) h p n o;rw[wM,<-List.range_eq_range']at this;exact this
 |true=>
   let⟨l,G,r,B,A⟩:=qi3 ops.toList s d h;have z:qdw C ex ops l s:=qsa B A;rw[wM]at r;have f:qbP C.lo s.tm ops=true:=f
   have c:∀k,F ops.toList l s (λ i=>(Array.replicate ops.size false).getD i false) k=s:=by
    intro k
    induction k with
    |zero=>rfl
    |succ k u=>
      simp only[F]
      have:(Array.replicate ops.size false).getD k false=false:=by
       rw[wJ,Array.getElem?_replicate];split<;>rfl
      rw[this];split
      .rename_i y;cases y
      .exact u
   refine wp_region_any g.mixed ?_;refine qPG g m z f ops.size _ Γ _ a (by simp) (by rw[xi,vQ];simp) ?_ ?_ ?_ ?_
   .intro i q v x;exfalso
    have:(Array.replicate ops.size false).getD i false=false:=by
     rw[wJ,Array.getElem?_replicate];split<;>rfl
    grind
   .rw[c];exact p.drew
   .rw[c];exact n
   .intro Γ' w' e E t g3 j D;rw[c]at j;rw[r]at t g3 j;exact o Γ' w' e ((Ext.drew Γ w).trans E) t g3 j D
def COk(P:Program)(ex:jP)(c:Code):Prop:=
 ∀s e b,Qc c=true->ex c s=some (e,b)->∀Γ w a,Inv Γ s.σ w->zw Γ s.tm a->a.defers=[]->
  c.wp P (λ f d w'=>f=e.toExit/\d.defers=[]/\∃Γ',Ext Γ w Γ' w'/\Inv Γ' b.σ w'/\zw Γ' b.tm d/\qO s.σ b.σ) a w
theorem qOC{s:S}{a:Act}(g:Inv Γ s.σ w)(f:zw Γ s.tm a)(t:Nat):
  ∃Γ',Ext Γ w Γ' w/\Inv Γ' (qcq s t).σ w/\zw Γ' (qcq s t).tm a/\qO s.σ (qcq s t).σ:=by
 unfold qcq;cases v:rsA (s.tm.getD t .dead)with
 |nil=>exact⟨Γ,.refl _ _,g,f,.refl _⟩
 |cons r l=>
   let⟨m,h,p,o⟩:=qaw (r::l) g ((r::l)++s.σ.wrr);refine⟨_,qkD h w,p,?_,qrd (r::l)⟩;have n:Le Γ {Γ with mem:=m}:=(qkD h w).le;have k:=qym g n (λ q y=>o q (by rw[<-v];exact y)) (f.get t);have c:RepL {Γ with mem:=m} s.tm a.tmps.toList:=waL n f;refine⟨by rw[wH];exact c.len,λ i x u b j=>?_⟩;by_cases d:t=i
   .subst d;rw[List.getElem?_set_self (by have:=getElem?_lt b;simpa using this)]at b;cases b
    have:a.tmps.getD t undef=u:=by
     rw[wJ,<-Array.getElem?_toList,j];rfl
    rw[this]at k;exact k
   .rw[List.getElem?_set_ne d]at b;exact c.rep i x u b j
theorem qF2{a:Act}:∀(ts:List Nat) {s:S}{Γ:Gh},Inv Γ s.σ w->zw Γ s.tm a->
  ∃Γ',Ext Γ w Γ' w/\Inv Γ' (qfz ts s).σ w/\zw Γ' (qfz ts s).tm a/\qO s.σ (qfz ts s).σ
 |[],s,Γ,d,c=>⟨Γ,.refl _ _,d,c,.refl _⟩
 |t::ts,s,Γ,d,c=>by
   let⟨e,m,l,k,j⟩:=qOC d c t;let⟨b,i,h,g,f⟩:=qF2 ts l k;exact⟨b,m.trans i,h,g,j.trans f⟩
theorem qOL{b:Code}{n:Nat}(o:∀m,m<n->COk P (Q8 C m) b){s:S}{e:Ex}{g:S}(z:Qc b=true)(h:Q8 C n (.loop b) s=some (e,g)){a:Act}(hi:Inv Γ s.σ w)(ht:zw Γ s.tm a)(I:a.defers=[]):
  (Code.loop b).wp P (λ A f w'=>A=e.toExit/\f.defers=[]/\∃Γ',Ext Γ w Γ' w'/\Inv Γ' g.σ w'/\zw Γ' g.tm f/\qO s.σ g.σ) a w:=by
 let J:Nat->Act->World->Prop:=λ m d c=>m<=n/\∃r i,Q8 C m (.loop b) r=some (e,g)/\Ext Γ w i c/\Inv i r.σ c/\zw i r.tm d/\d.defers=[]/\qO s.σ r.σ
 have j:∀d c,(∃m,J m d c)->∃m,J m d c/\∀k,J k d c->m<=k:=by
  rintro d c ⟨m,R⟩
  induction m using Nat.strongRecOn with
  |_ m Z=>
    by_cases z:∃k,k<m/\J k d c
    .let⟨k,H,G⟩:=z;exact Z k H G
    .exact⟨m,R,λ k L=>Nat.le_of_not_lt λ F=>z ⟨k,F,L⟩⟩
 classical
 let t:Act->World->Nat:=λ d c=>if h:∃m,J m d c then Classical.choose (j d c h)else 0
 have u:∀d c,(h:∃m,J m d c)->J (t d c) d c/\∀k,J k d c->t d c<=k:=by
  intro d c h;grind
 refine wp_loop (λ d c=>∃m,J m d c) t ⟨n,wa _,s,Γ,h,.refl _ _,hi,ht,I,.refl _⟩ ?_;intro d c L;let⟨K,_⟩:=u d c L;let⟨v,r,i,T,N,h3,h4,h5,M⟩:=K;generalize R:t d c=m at *;cases m with
 |zero=>simp[Q8]at T
 |succ m=>
   simp only[Q8,qcj]at T;let⟨B,Y,X,W,V⟩:=qF2 (C.pur b) h3 h4
   have U:∀e1 q,Q8 C m b (qfz (C.pur b) r)=some (e1,q)->(e1=.normal/\Q8 C m (.loop b) q=some (e,g)\/(e1≠.normal/\e1=e/\q=g))->
     b.wp P (Exit.then (λ f w'=>(∃m,J m f w')/\t f w'<m+1) (λ A f w'=>A=e.toExit/\f.defers=[]/\∃Γ',Ext Γ w Γ' w'/\Inv Γ' g.σ w'/\zw Γ' g.tm f/\qO s.σ g.σ)) d c:=by
    intro e1 q hb D;refine wp_mono (o m v _ e1 q z hb B c d X W h5) ?_;rintro A f w' ⟨rfl,Q,l,y,O,g3,x⟩;have y:=Y.trans y;have x:=V.trans x;obtain⟨rfl,hl⟩|⟨E,rfl,rfl⟩:=D
    .have p:J m f w':=⟨Nat.le_of_succ_le v,q,l,hl,N.trans y,O,g3,Q,M.trans x⟩
     exact⟨⟨m,p⟩,Nat.lt_succ_of_le ((u f w' ⟨m,p⟩).2 m p)⟩
    .cases e1 with
     |normal=>exact absurd rfl E
     |exit id|ret=>exact⟨rfl,Q,l,N.trans y,O,g3,M.trans x⟩
   grind
theorem qxB(U:yq P C):∀n,qcR P (Q8 C n):=by
 intro n
 induction n using Nat.strongRecOn with
 |_ n V=>
   cases n with
   |zero=>intro c s e J _ h;simp[Q8]at h
   |succ n=>
     have j:=V n (xx n);intro c s e J A h Γ w a z v f;cases c with
     |skip=>
       simp only[Q8,qcj,wz,wI]at h;obtain⟨rfl,rfl⟩:=h;exact wp_skip ⟨rfl,f,Γ,.refl _ _,z,v,.refl _⟩
     |label k=>
       simp only[Q8,qcj,wz,wI]at h;obtain⟨rfl,rfl⟩:=h;exact wp_label ⟨rfl,f,Γ,.refl _ _,z,v,.refl _⟩
     |exit id=>
       simp only[Q8,qcj,wz,wI]at h;obtain⟨rfl,rfl⟩:=h;exact wp_exit ⟨rfl,f,Γ,.refl _ _,z,v,.refl _⟩
     |ret=>
       simp only[Q8,qcj,wz,wI]at h;obtain⟨rfl,rfl⟩:=h;exact wp_ret ⟨rfl,f,Γ,.refl _ _,z,v,.refl _⟩
     |region id ops M=>
       simp only[Q8,qcj]at h;split at h
       .rename_i E;have H:M=true:=by unfold qje at E;rw[wc]at E;exact E.1
        subst H;split at h<;>try cases h
        rename_i d l;rw[wc,wc]at d;split at h<;>try cases h
        rename_i o;split at h<;>cases h;rename_i F;refine qHu U j d.1 d.2.1 d.2.2 l o F z v ?_;intro Γ' w' N u t g3 q L;exact⟨rfl,by rw[L,f],Γ',u,t,g3,q⟩
       .split at h
        .rename_i p K;let⟨H,_⟩:=qFX K;subst H;split at h<;>try cases h
         rename_i d l;split at h<;>cases h;rename_i T o;refine qIf U j K d l T o z v ?_;intro Γ' w' N u t g3 q L;exact⟨rfl,by rw[L,f],Γ',u,t,g3,q⟩
        .split at h<;>cases h;rename_i d l;refine qII U j d l z v ?_;intro Γ' w' N u t g3 q L;exact⟨rfl,by rw[L,f],Γ',u,t,g3,q⟩
     |seq x y=>
       simp only[Q8,qcj]at h;simp only[Qc,wc]at A;refine wp_seq ?_;cases D:Q8 C n x s with
       |none=>rw[D]at h;cases h
       |some r=>
         let⟨e1,O⟩:=r;rw[D]at h;refine wp_mono (j x s e1 O A.1 D Γ w a z v f) ?_;rintro e' N w' ⟨rfl,B,g,u,t,g3,q⟩;cases e1 with
         |normal=>
           refine wp_mono (j y O e J A.2 h g w' N t g3 B) ?_;rintro aa ab W ⟨rfl,q0,S,q1,Z,Y,X⟩;exact⟨rfl,q0,S,u.trans q1,Z,Y,q.trans X⟩
         |exit id|ret=>cases h;exact⟨rfl,B,g,u,t,g3,q⟩
     |cond c x y=>
       simp only[Q8,qcj]at h;simp only[Qc,wc]at A;have Q:=zw.ev v c;split at h
       .rename_i I;rw[I]at Q;exact wp_cond_true (zq Q) (j x s e J A.1 h Γ w a z v f)
       .rename_i I;rw[I]at Q;exact wp_cond_false (zq Q) (j y s e J A.2 h Γ w a z v f)
       .cases h
     |block id b=>
       simp only[Q8,qcj]at h;simp only[Qc]at A;refine wp_block ?_;cases D:Q8 C n b s with
       |none=>rw[D]at h;cases h
       |some r=>
         let⟨e1,O⟩:=r;rw[D]at h;refine wp_mono (j b s e1 O A D Γ w a z v f) ?_;rintro e' N w' ⟨rfl,B,g,u,t,g3,q⟩;cases e1 with
         |normal|ret=>cases h;exact⟨rfl,B,g,u,t,g3,q⟩
         |exit i=>
           simp only[wz,wI]at h;obtain⟨R,rfl⟩:=h;show if i=id then _ else _;split
           .rename_i G;rw[if_pos G]at R;subst R;exact⟨rfl,B,g,u,t,g3,q⟩
           .rename_i G;rw[if_neg G]at R;subst R;exact⟨rfl,B,g,u,t,g3,q⟩
     |loop b=>
       exact qOL (n:=n+1) (λ m hm=>λ s e J A h=>V m hm b s e J A h) A h z v f
     |_=>simp only[Q8,qcj]at h;cases h
end
end Go.AmZ
namespace Go.AmZ
open Go Go.RowKit
structure PC where
 ty:Nat->Option TD
 pf:Nat->Option (List AV->Option AV)
 sp:Nat->Option (St->List AV->Option (AV×Option St))
 pur:Code->List Nat
 ld:Nat->Bool
 inl:Nat->Option Func
def emp:St:=⟨[],[],[],[]⟩
def Jw(p:List AV->Option AV):St->List AV->Option (AV×Option St):=λ σ a=>
 match σ with
 |⟨[],[],[],[]⟩=>match p a with
   |some v=>some (v,none)
   |none=>none
 |_=>none
def PC.prim(c:PC)(f:Nat):Option (St->List AV->Option (AV×Option St)):=match c.pf f with|some p=>some (Jw p)|none=>c.sp f
def PC.raw(c:PC)(f:Nat):Bool:=match c.pf f with|some _=>false|none=>(c.sp f).isSome
def PC.cfg(c:PC):Cfg:=⟨c.ty,λ _=>none,c.prim,c.raw,c.pur,λ f=>c.raw f||(c.ld f||(c.inl f).isSome),c.inl⟩
def qbb(c:PC)(f:Nat)(σ:St)(a:List AV):Option (AV×Option St):=
 match c.pf f with
 |some p=>match noRefs (a.map (jm σ.rw))with
   |true=>match p (a.map (jm σ.rw))with
     |some v=>match jI v with
       |true=>match qjj v,a.flatMap rsA with
         |true,_|_,[]=>some (v,none)
         |_,r::l=>some (v,some {σ with rw:=frz σ.rw (r::l),wrr:=(r::l)++σ.wrr})
       |false=>none
     |none=>none
   |false=>none
 |none=>match c.sp f with
   |some p=>Qt σ a p
   |none=>none
def qgx(c:PC)(tm:List AV)(σ:St)(op:Op):Option (AV×Option St):=
 match op with
 |.call ⟨.builtin b,a,ts⟩=>jz c.cfg σ b ts (a.toList.map (aev tm))
 |.call ⟨.value g,a,_⟩=>match aev tm g with
   |.fn f d=>match c.inl f with
     |none=>qbb c f σ (a.toList.map (aev tm)++d)
     |some _=>none
   |_=>none
 |.call _=>none
 |op=>qc c.cfg tm σ op
def j9(d:List AV->St->Op->Option (AV×Option St))(c:PC)(ops:Array Oper)(b:Bool):List Oper->S->Option S
 |[],s=>some s
 |o::a,s=>match yw ops s.tm o with
   |some true=>match d s.tm s.σ o.op with
     |some (x,none)=>j9 d c ops b a ⟨qbq s.tm o.dst x,s.σ⟩
     |some (x,some σ')=>match b && !(zp c.cfg.lo o.op&&qcx c.cfg ops (ops.size-(a.length+1)) s.tm s.σ o.op)with
       |true=>none
       |false=>j9 d c ops b a ⟨qbq s.tm o.dst x,σ'⟩
     |none=>none
   |some false=>j9 d c ops b a ⟨qbq s.tm o.dst qht,s.σ⟩
   |none=>none
def yT(f:List AV->St->Op->Option (AV×Option St))(c:PC)(ex:jP):jP
 |.skip,s|.label _,s=>some (.normal,s)
 |.region _ ops d,s=>match qje ops d with
   |true=>match qi0 c.cfg.lo ops.toList&&(qcG c.cfg.lo ops&&qfq c.cfg.lo s.tm ⟨qJ c.cfg.lo ops.toList⟩ true),j9 f c ⟨qJ c.cfg.lo ops.toList⟩ true (qJ c.cfg.lo ops.toList) s with
     |true,some g=>match j9 f c ops false (alL c.cfg.lo ops.toList) g with
       |some h=>match j9 f c ops true (qqK c.cfg.lo ops.toList) h with
         |some e=>some (.normal,e)
         |none=>none
       |none=>none
     |_,_=>none
   |false=>match qo5 ops d with
     |some p=>match qfq c.cfg.lo s.tm (qco ops) true,j9 f c (qco ops) true (qco ops).toList s with
       |true,some g=>match quH g.tm ops p,j9 f c ops true (qgV ops) g with
         |true,some e=>some (.normal,e)
         |_,_=>none
       |_,_=>none
     |none=>match qfq c.cfg.lo s.tm ops d,j9 f c ops d ops.toList s with
       |true,some e=>some (.normal,e)
       |_,_=>none
 |.seq a b,s=>match ex a s with
   |some (.normal,e)=>ex b e
   |r=>r
 |.cond t x y,s=>match aev s.tm t with
   |.v (.bool true)=>ex x s
   |.v (.bool false)=>ex y s
   |_=>none
 |.block id b,s=>match ex b s with
   |some (.exit i,e)=>some (if i=id then .normal else .exit i,e)
   |r=>r
 |.loop b,s=>match ex b (qfz (c.pur b) s)with
   |some (.normal,e)=>ex (.loop b) e
   |r=>r
 |.exit id,s=>some (.exit id,s)
 |.ret,s=>some (.ret,s)
 |_,_=>none
def zl(a:List AV->St->Op->Option (AV×Option St))(c:PC):Nat->jP
 |0=>λ _ _=>none
 |n+1=>yT a c (zl a c n)
def qyj(c:PC)(σ:St)(fn:Func)(a:List AV):Option (AV×Option St):=match fn.body with
 |none=>none
 |some cd=>match zl (qgx c) c 12 cd ⟨a++List.replicate (fn.ntmps-a.length) .dead,σ⟩with
   |some (.exit _,_)=>none
   |some (_,b)=>match qaV c.cfg fn b with
     |some r=>some (r,some b.σ)
     |none=>none
   |none=>none
def qen(c:PC)(tm:List AV)(σ:St)(op:Op):Option (AV×Option St):=
 match op with
 |.call ⟨.value g,b,_⟩=>match aev tm g with
   |.fn f a=>match c.inl f with
     |some fn=>qyj c σ fn (b.toList.map (aev tm)++a)
     |none=>qbb c f σ (b.toList.map (aev tm)++a)
   |_=>none
 |op=>qgx c tm σ op
theorem qCD{fb fr:Nat->Nat}(x:AV)(h:rb x=[])(g:rr x=[]):ren fb fr x=x:=qr9 fb fr x h g
theorem qrv{fb fr:Nat->Nat}(xs:List AV)(h:rbL xs=[])(g:rrL xs=[]):qY fb fr xs=xs:=qob fb fr xs h g
theorem qfg{x:AV}(h:jI x=true):rb x=[]/\rr x=[]:=by
 grind [jI]
theorem qiP:∀{xs:List AV},noRefs xs=true->rbL xs=[]/\rrL xs=[]
 |[],_=>⟨rfl,rfl⟩
 |x::xs,h=>by
   simp only[noRefs,km,wc]at h;let⟨d,c⟩:=qfg h.1;let⟨b,a⟩:=qiP (xs:=xs) h.2;grind [rbL,rrL]
theorem qwi{σ:St}{a:List AV}{p:List AV->Option AV}{v:AV}(h:noRefs a=true)(i:p a=some v)(f:jI v=true):Qt σ a (λ σ a=>Jw p σ a)=some (v,none):=by
 let⟨d,c⟩:=qiP h;let⟨k,j⟩:=qfg f
 have b:Qi σ a=[]:=by
  unfold Qi;rw[d];show qlF σ.bx σ.bx.length []=[];cases σ.bx.length with
  |zero|succ n=>rfl
 have e:qbl σ a=[]:=by
  unfold qbl;rw[b,c];rfl
 unfold Qt
 have g:qfZ σ a=true:=by
  unfold qfZ;rw[b,e,d,c];rfl
 rw[g];simp only;rw[b,e,qrv a d c];have:qI σ [] []=⟨[],[],[],[]⟩:=rfl;grind [Jw,qf6,qCD]
theorem qIy{c:PC}{ex:jP}{f:Nat}{σ:St}{a:List AV}{r:AV×Option St}(h:qbb c f σ a=some r):qbv c.cfg ex σ f a=some r:=by
 unfold qbb at h;split at h
 rotate_left
 .rename_i g;split at h<;>try cases h
  rename_i p e;have b:c.cfg.raw f=true:=by show c.raw f=true;unfold PC.raw;rw[g,e];rfl
  have d:(λ(σ:St) a=>qbS c.cfg ex σ f a)=p:=by
   simp_all [qbS,PC.cfg,PC.prim]
  unfold qbv qhs;grind
 rename_i p g;split at h<;>try cases h
 rename_i i;split at h<;>try cases h
 rename_i v j;split at h<;>try cases h
 rename_i k
 have d:∀σ:St,(λ(σ:St) a=>qbS c.cfg ex σ f a)=λ σ a=>Jw p σ a:=λ _=>by
  simp_all [qbS,PC.cfg,PC.prim]
 have b:c.cfg.raw f=false:=by show c.raw f=false;unfold PC.raw;rw[g]
 unfold qbv qhs;rw[b];let⟨o,n⟩:=qiP i;cases m:a.flatMap rsA with
 |nil=>
   have:r=(v,none):=by
    grind
   subst this;simp only;rw[d σ];exact qwi i j k
 |cons q l=>
   simp only;rw[d σ,qwi i j k];grind [qoa]
theorem qNB{C:Cfg}{ex:jP}{σ:St}{f:Nat}{a:List AV}{r:AV×Option St}(b:C.inl f=none)(h:qbv C ex σ f a=some r)(c:C.lo f=false->C.raw f=false/\noRefs (a.map (jm σ.rw))=true/\jI r.1=true):qds C ex σ f a=some r:=by
 grind [qds]
theorem qEj{c:PC}{ex:jP}{f:Nat}{σ:St}{a:List AV}{r:AV×Option St}(g:c.inl f=none)(h:qbb c f σ a=some r):qds c.cfg ex σ f a=some r:=by
 refine qNB g (qIy h) λ e=>?_;unfold qbb at h;split at h
 rotate_left
 .rename_i d;split at h<;>try cases h
  rename_i p b;have:c.cfg.lo f=true:=by show(c.raw f||(c.ld f||(c.inl f).isSome))=true;unfold PC.raw;rw[d,b];rfl
  rw[e]at this;cases this
 rename_i p d;have i:c.cfg.raw f=false:=by show c.raw f=false;unfold PC.raw;rw[d]
 grind
theorem qGc{c:PC}{ex:jP}{tm:List AV}{σ:St}{op:Op}{r:AV×Option St}(h:qgx c tm σ op=some r):opA c.cfg ex tm σ op=some r:=by
 unfold qgx at h;grind [opA,qgH,qEj]
theorem qhU{i:List AV->St->Op->Option (AV×Option St)}{c:PC}{ex:jP}(a:∀tm σ op r,i tm σ op=some r->opA c.cfg ex tm σ op=some r){ops:Array Oper}{b:Bool}:∀{l:List Oper}{s e:S},j9 i c ops b l s=some e->zD c.cfg ex ops b l s=some e
 |[],s,e,h=>h
 |o::g,s,e,h=>by
   simp only[j9]at h;simp only[zD];split at h
   .rename_i f;rw[f];simp only;split at h
    .rename_i x d;rw[a _ _ _ _ d];exact qhU a h
    .rename_i x σ' d;rw[a _ _ _ _ d];simp only;split at h
     .cases h
     .rename_i j;rw[j];exact qhU a h
    .cases h
   .rename_i f;rw[f];exact qhU a h
   .cases h
theorem qtM{e:List AV->St->Op->Option (AV×Option St)}{c:PC}{d:Nat}(j:∀n tm σ op r,e tm σ op=some r->opA c.cfg (Q8 c.cfg (n+d)) tm σ op=some r):∀{n:Nat}{cd:Code}{s:S}{r:Ex×S},zl e c n cd s=some r->Q8 c.cfg (n+d) cd s=some r:=by
 intro n
 induction n with
 |zero=>intro cd s r h;simp[zl]at h
 |succ n i=>
   intro cd s r h;simp only[zl]at h;rw[show n+1+d=(n+d)+1 by omega];simp only[Q8];cases cd with
   |region id ops g=>
     simp only[yT]at h;simp only[qcj];split at h
     .grind [qhU]
     .grind [qhU]
   |seq a b=>
     grind [yT,qcj]
   |cond t x y=>
     grind [yT,qcj]
   |block id b=>
     grind [yT,qcj]
   |loop b=>
     simp only[yT]at h;simp only[qcj];cases f:zl e c n b (qfz (c.pur b) s)with
     |none=>rw[f]at h;cases h
     |some q=>
       rw[f]at h;rw[show Q8 c.cfg (n+d) b (qfz (c.cfg.pur b) s)=_ from i f];grind
   |_=>exact h
theorem qG4{d:List AV->St->Op->Option (AV×Option St)}{c:PC}:∀{n:Nat}{cd:Code}{s:S}{r:Ex×S},zl d c n cd s=some r->zl d c (n+1) cd s=some r:=by
 intro n
 induction n with
 |zero=>intro cd s r h;simp[zl]at h
 |succ n e=>
   intro cd s r h;rw[zl]at h |-
   cases cd with
   |seq a b=>
     grind [yT]
   |cond t x y=>
     grind [yT]
   |block id b=>
     grind [yT]
   |loop b=>
     grind [yT]
   |_=>exact h
theorem qee{b:List AV->St->Op->Option (AV×Option St)}{c:PC}{n m:Nat}(a:n<=m){cd:Code}{s:S}{r:Ex×S}(h:zl b c n cd s=some r):zl b c m cd s=some r:=by
 induction a with
 |refl=>exact h
 |step _ d=>exact qG4 d
theorem qMi{c:PC}{σ:St}{fn:Func}{a:List AV}{r:AV×Option St}(h:qyj c σ fn a=some r):∃cd e b x,fn.body=some cd/\zl (qgx c) c 12 cd ⟨a++List.replicate (fn.ntmps-a.length) .dead,σ⟩=some (e,b)/\(e=.ret\/e=.normal)/\qaV c.cfg fn b=some x/\r=(x,some b.σ):=by
 unfold qyj at h;split at h<;>try cases h
 rename_i cd j;split at h<;>try cases h
 rename_i e b d g;split at h<;>cases h;rename_i x f;refine⟨cd,e,b,x,j,g,?_,f,rfl⟩;cases e with
 |normal=>exact .inr rfl
 |ret=>exact .inl rfl
 |exit i=>exact(d i rfl).elim
theorem qNp{c:PC}(n:Nat){tm:List AV}{σ:St}{op:Op}{r:AV×Option St}(h:qen c tm σ op=some r):opA c.cfg (Q8 c.cfg (n+12)) tm σ op=some r:=by
 unfold qen at h;split at h
 .rename_i g k ts;split at h<;>try cases h
  rename_i f j o;simp only[opA,qgH,o];split at h
  .rename_i fn a;obtain⟨cd,e,q,x,v,p,u,t,rfl⟩:=qMi h;have s:=qtM (d:=0) (λ n tm σ op r h=>qGc h) (qee (m:=n+12) (by omega) p);have b:c.cfg.lo f=true:=by show(c.raw f||(c.ld f||(c.inl f).isSome))=true;rw[a];simp
   have i:c.cfg.inl f=some fn:=a;unfold qds;rw[b];simp only[i];unfold qzb;grind
  .rename_i a;exact qEj a h
 .rename_i op l;exact qGc h
theorem qB5{c:PC}:∀n tm σ op r,qen c tm σ op=some r->opA c.cfg (Q8 c.cfg (n+12)) tm σ op=some r:=λ n _ _ _ _ h=>qNp n h
def Run(c:PC)(cd:Code)(s:S)(K:Ex->S->Prop):Prop:=∃n e a,zl (qen c) c n cd s=some (e,a)/\K e a
inductive It where
 |code (c:Code)|blk (id:Nat)|ops (os:Array Oper) (draw:Bool) (rest:List Oper)
def Go(c:PC)(Q:Ex->S->Prop):List It->Ex->S->Prop
 |[],e,s=>Q e s
 |.code cd::k,.normal,s=>Run c cd s λ e b=>Go c Q k e b
 |.code _::k,e,s=>Go c Q k e s
 |.blk id::k,.exit i,s=>Go c Q k (if i=id then .normal else .exit i) s
 |.blk _::k,e,s=>Go c Q k e s
 |.ops os d a::k,.normal,s=>∃b,j9 (qen c) c os d a s=some b/\Go c Q k .normal b
 |.ops _ _ _::k,e,s=>Go c Q k e s
section
variable {c:PC}{Q:Ex->S->Prop}{k:List It}{tm:List AV}{σ:St}{s:S}
theorem qJA{cd:Code}{K:Ex->S->Prop}(h:∀n,∀r,yT (qen c) c (zl (qen c) c n) cd s=some r↔r=(.normal,s)):Run c cd s K↔K .normal s:=by
 constructor
 .rintro⟨n,e,f,a,d⟩;cases n with
  |zero=>simp[zl]at a
  |succ n=>have:=(h n _).1 a;cases this;exact d
 .intro b;exact⟨1,_,_,(h 0 _).2 rfl,b⟩
theorem qPq(e:Ex):Go c Q [] e s=Q e s:=rfl
theorem qKL:Go c Q (.code .skip::k) .normal s=Go c Q k .normal s:=
 propext (qJA (c:=c) (s:=s) (cd:=.skip) (K:=λ e a=>Go c Q k e a) λ n r=>⟨λ h=>by cases h;rfl,λ h=>by rw[h];rfl⟩)
theorem qMU(l:Nat):Go c Q (.code (.label l)::k) .normal s=Go c Q k .normal s:=
 propext (qJA (c:=c) (s:=s) (cd:=.label l) (K:=λ e a=>Go c Q k e a) λ n r=>⟨λ h=>by cases h;rfl,λ h=>by rw[h];rfl⟩)
theorem qOo(id:Nat):Go c Q (.code (.exit id)::k) .normal s=Go c Q k (.exit id) s:=by
 apply propext;constructor
 .rintro⟨n,e,d,a,b⟩;cases n with
  |zero=>simp[zl]at a
  |succ n=>simp only[zl,yT,wz,wI]at a;obtain⟨rfl,rfl⟩:=a;exact b
 .intro h;exact⟨1,_,_,rfl,h⟩
theorem qN7:Go c Q (.code .ret::k) .normal s=Go c Q k .ret s:=by
 apply propext;constructor
 .rintro⟨n,e,d,a,b⟩;cases n with
  |zero=>simp[zl]at a
  |succ n=>simp only[zl,yT,wz,wI]at a;obtain⟨rfl,rfl⟩:=a;exact b
 .intro h;exact⟨1,_,_,rfl,h⟩
theorem qEF(cd:Code):Go c Q (.code cd::k) .ret s=Go c Q k .ret s:=rfl
theorem qDT(cd:Code)(i:Nat):Go c Q (.code cd::k) (.exit i) s=Go c Q k (.exit i) s:=rfl
theorem qA8(id:Nat):Go c Q (.blk id::k) .normal s=Go c Q k .normal s:=rfl
theorem qHS(id:Nat):Go c Q (.blk id::k) .ret s=Go c Q k .ret s:=rfl
theorem qEY(id i:Nat):Go c Q (.blk id::k) (.exit i) s=Go c Q k (if i=id then .normal else .exit i) s:=rfl
theorem qQE(a b:Code):Go c Q (.code (.seq a b)::k) .normal s=Go c Q (.code a::.code b::k) .normal s:=by
 apply propext;show Run c (.seq a b) s (λ e f=>Go c Q k e f)↔Run c a s λ e f=>Go c Q (.code b::k) e f;constructor
 .rintro⟨n,e,f,d,g⟩;cases n with
  |zero=>simp[zl]at d
  |succ n=>
    simp only[zl,yT]at d;split at d
    .rename_i h l;exact⟨n,_,h,l,n,e,f,d,g⟩
    .rename_i j;refine⟨n,e,f,d,?_⟩;cases e with
     |normal=>exact absurd d (j f)
     |exit i|ret=>exact g
 .rintro⟨n,e,h,d,g⟩;cases e with
  |normal=>
    let⟨m,e,f,p,o⟩:=g;refine⟨n+m+1,e,f,?_,o⟩;simp only[zl,yT];rw[qee (by omega) d];exact qee (by omega) p
  |exit i|ret=>exact⟨n+1,_,h,by simp only[zl,yT];rw[d],g⟩
theorem qLg(id:Nat)(b:Code):Go c Q (.code (.block id b)::k) .normal s=Go c Q (.code b::.blk id::k) .normal s:=by
 apply propext;show Run c (.block id b) s (λ e g=>Go c Q k e g)↔Run c b s λ e g=>Go c Q (.blk id::k) e g;constructor
 .rintro⟨n,e,g,a,f⟩;cases n with
  |zero=>simp[zl]at a
  |succ n=>
    simp only[zl,yT]at a;cases h:zl (qen c) c n b s with
    |none=>rw[h]at a;cases a
    |some q=>
      rw[h]at a;let⟨e1,d⟩:=q;refine⟨n,e1,d,h,?_⟩;cases e1<;>(simp only[wz,wI]at a;obtain⟨rfl,rfl⟩:=a;exact f)
 .rintro⟨n,e,d,a,f⟩;cases e with
  |normal|exit i|ret=>exact⟨n+1,_,d,by simp only[zl,yT];rw[a],f⟩
theorem go_loop(b:Code):Go c Q (.code (.loop b)::k) .normal s=Go c Q (.code b::.code (.loop b)::k) .normal (qfz (c.pur b) s):=by
 apply propext;show Run c (.loop b) s (λ e d=>Go c Q k e d)↔Run c b (qfz (c.pur b) s) λ e d=>Go c Q (.code (.loop b)::k) e d;constructor
 .rintro⟨n,e,d,a,f⟩;cases n with
  |zero=>simp[zl]at a
  |succ n=>
    simp only[zl,yT]at a;split at a
    .rename_i g j;exact⟨n,_,g,j,n,e,d,a,f⟩
    .rename_i h;refine⟨n,e,d,a,?_⟩;cases e with
     |normal=>exact absurd a (h d)
     |exit i|ret=>exact f
 .rintro⟨n,e,g,a,f⟩;cases e with
  |normal=>
    let⟨m,e,d,o,l⟩:=f;refine⟨n+m+1,e,d,?_,l⟩;simp only[zl,yT];rw[qee (by omega) a];exact qee (by omega) o
  |exit i|ret=>exact⟨n+1,_,g,by simp only[zl,yT];rw[a],f⟩
theorem qIq (rw:List Row) (y:AV):rsA (jm rw y)=[]:=by
 have b:∀ x,rsC (qX rw x)=[]:=by
  intro x;cases x with
  | rs r lo n a f =>
    simp only [qX];split
    ·split<;>rfl
    ·rfl
  | _=>rfl
 cases y with
 | agg cs =>
   show (cs.map (qX rw)).flatMap rsC=[];grind [List.flatMap_map,List.flatMap_eq_nil_iff]
 | rs r lo n a f =>
   show rsA (qX rw (.rs r lo n a f))=[];simp only [qX];split
   ·split<;>rfl
   ·rfl
 | _=>rfl
def qGN(ts:List Nat)(s:S):Prop:=∀t∈ts,rsA (s.tm.getD t .dead)=[]
theorem qHR(s:S)(t u:Nat)(h:u=t\/rsA (s.tm.getD u .dead)=[]):rsA ((qcq s t).tm.getD u .dead)=[]:=by
 unfold qcq;cases b:rsA (s.tm.getD t .dead)with
 |nil=>
   grind
 |cons r l=>
   show rsA ((s.tm.set t _).getD u .dead)=[];by_cases c:t=u
   .subst c
    have d:t<s.tm.length:=by
     apply wah;intro a;rw[List.getD_eq_getElem?_getD,List.getElem?_eq_none a]at b;cases b
    grind [List.getElem?_set_self,qIq]
   .grind
theorem qvF:∀(ts:List Nat) (s:S) (us:List Nat),qGN us s->qGN (us++ts) (qfz ts s)
 |[],s,us,h=>by rw[ww];exact h
 |t::ts,s,us,h=>by
   have:=qvF ts (qcq s t) (us++[t]) (λ u a=>qHR s t u (by
    obtain a|a:=wk.1 a
    .exact .inr (h u a)
    .exact .inl (by simpa using a)))
   rw[wj]at this;exact this
theorem qFr:∀(ts:List Nat) (s:S),qGN ts s->qfz ts s=s
 |[],s,h=>rfl
 |t::ts,s,h=>by
   have e:qcq s t=s:=by unfold qcq;rw[h t (wh ..)]
   show qfz ts (qcq s t)=s;rw[e];exact qFr ts s λ u a=>h u (wg _ a)
theorem qQw(b:Code):Go c Q (.code (.loop b)::k) .normal (qfz (c.pur b) s)=Go c Q (.code (.loop b)::k) .normal s:=by
 rw[go_loop,go_loop,qFr _ _ (by have:=qvF (c.pur b) s [] (λ _ h=>by cases h);simpa using this)]
def qHQ(c:PC)(Q:Ex->S->Prop)(k:List It)(s:S)(x y:Code):AV->Prop
 |.v (.bool true)=>Go c Q (.code x::k) .normal s
 |.v (.bool false)=>Go c Q (.code y::k) .normal s
 |_=>False
theorem qNC(t:Operand)(x y:Code):Go c Q (.code (.cond t x y)::k) .normal ⟨tm,σ⟩=qHQ c Q k ⟨tm,σ⟩ x y (aev tm t):=by
 apply propext;show Run c (.cond t x y) ⟨tm,σ⟩ (λ e b=>Go c Q k e b)↔_;constructor
 .rintro⟨n,e,b,a,f⟩;cases n with
  |zero=>simp[zl]at a
  |succ n=>
    simp only[zl,yT]at a;split at a
    .rename_i d;rw[d];exact⟨n,e,b,a,f⟩
    .rename_i d;rw[d];exact⟨n,e,b,a,f⟩
    .cases a
 .intro h;unfold qHQ at h;split at h
  .rename_i d;let⟨n,e,b,a,f⟩:=h;exact⟨n+1,e,b,by simp only[zl,yT,d];exact a,f⟩
  .rename_i d;let⟨n,e,b,a,f⟩:=h;exact⟨n+1,e,b,by simp only[zl,yT,d];exact a,f⟩
  .exact h.elim
theorem qIs(x y:Code):qHQ c Q k s x y (.v (.bool true))=Go c Q (.code x::k) .normal s:=rfl
theorem qHt(x y:Code):qHQ c Q k s x y (.v (.bool false))=Go c Q (.code y::k) .normal s:=rfl
theorem qHC(id:Nat)(l:List Oper)(d:Bool){p:Tmp}(g:qje ⟨l⟩ d=false)(f:qo5 ⟨l⟩ d=some p)(m:qfq c.cfg.lo s.tm (qco ⟨l⟩) true=true)(h:Go c (λ e a=>quH a.tm ⟨l⟩ p=true/\Go c Q (.ops ⟨l⟩ true (qgV ⟨l⟩)::k) .normal a) (.ops (qco ⟨l⟩) true (qco ⟨l⟩).toList::[]) .normal s):Go c Q (.code (.region id ⟨l⟩ d)::k) .normal s:=by
 let⟨a,o,j,b,n,i⟩:=h;refine⟨1,.normal,b,?_,i⟩;simp_all [zl,yT]
theorem go_region(id:Nat)(l:List Oper)(d:Bool)(f:qje ⟨l⟩ d=false)(b:qo5 ⟨l⟩ d=none):Go c Q (.code (.region id ⟨l⟩ d)::k) .normal s=(qfq c.cfg.lo s.tm ⟨l⟩ d=true/\Go c Q (.ops ⟨l⟩ d l::k) .normal s):=by
 apply propext;constructor
 .rintro⟨n,e,i,a,h⟩;cases n with
  |zero=>simp[zl]at a
  |succ n=>
    simp only[zl,yT,f,b]at a;split at a<;>cases a;rename_i g j;exact⟨g,_,j,h⟩
 .rintro⟨g,i,a,h⟩;exact⟨1,.normal,i,by simp only[zl,yT,f,b];rw[g,a],h⟩
theorem qGX(id:Nat)(l:List Oper)(d:Bool)(b:qje ⟨l⟩ d=true)(j:qi0 c.cfg.lo l=true)(e:qcG c.cfg.lo ⟨l⟩=true)(m:qfq c.cfg.lo s.tm ⟨qJ c.cfg.lo l⟩ true=true)(h:Go c Q (.ops ⟨qJ c.cfg.lo l⟩ true (qJ c.cfg.lo l)::.ops ⟨l⟩ false (alL c.cfg.lo l)::.ops ⟨l⟩ true (qqK c.cfg.lo l)::k) .normal s):Go c Q (.code (.region id ⟨l⟩ d)::k) .normal s:=by
 let⟨i,p,g,o,a,n,f⟩:=h;refine⟨1,.normal,a,?_,f⟩;simp_all [zl,yT]
theorem qHB(os:Array Oper)(d:Bool):Go c Q (.ops os d []::k) .normal s=Go c Q k .normal s:=by
 apply propext;constructor
 .rintro⟨e,a,b⟩;simp only[j9,wz]at a;subst a;exact b
 .intro h;exact⟨s,rfl,h⟩
def qsz(c:PC)(Q:Ex->S->Prop)(k:List It)(os:Array Oper)(d l:Bool)(a:List Oper)(b:Option Tmp)(tm:List AV)(σ:St):Option (AV×Option St)->Prop
 |some (x,none)=>Go c Q (.ops os d a::k) .normal ⟨qbq tm b x,σ⟩
 |some (x,some σ')=>(d && !l)=false/\Go c Q (.ops os d a::k) .normal ⟨qbq tm b x,σ'⟩
 |none=>False
def qrU(c:PC)(Q:Ex->S->Prop)(k:List It)(os:Array Oper)(d:Bool)(a:List Oper)(o:Oper)(tm:List AV)(σ:St):Option Bool->Prop
 |some true=>qsz c Q k os d (zp c.cfg.lo o.op&&qcx c.cfg os (os.size-(a.length+1)) tm σ o.op) a o.dst tm σ (qen c tm σ o.op)
 |some false=>Go c Q (.ops os d a::k) .normal ⟨qbq tm o.dst qht,σ⟩
 |none=>False
theorem qPx(os:Array Oper)(d:Bool)(o:Oper)(f:List Oper):Go c Q (.ops os d (o::f)::k) .normal ⟨tm,σ⟩=qrU c Q k os d f o tm σ (yw os tm o):=by
 apply propext;constructor
 .rintro⟨b,a,e⟩;simp only[j9]at a;unfold qrU;split at a
  .rename_i g;unfold qsz;split at a
   .rename_i x i;exact⟨b,a,e⟩
   .rename_i x σ' i;split at a
    .cases a
    .rename_i j;exact⟨j,b,a,e⟩
   .cases a
  .rename_i g;exact⟨b,a,e⟩
  .cases a
 .intro h;unfold qrU at h;split at h
  .rename_i g;unfold qsz at h;split at h
   .rename_i x i;let⟨b,a,e⟩:=h;exact⟨b,by simp only[j9,g,i];exact a,e⟩
   .rename_i x σ' i;let⟨j,b,a,e⟩:=h;exact⟨b,by simp only[j9,g,i,j];exact a,e⟩
   .exact h.elim
  .rename_i g;let⟨b,a,e⟩:=h;exact⟨b,by simp only[j9,g];exact a,e⟩
  .exact h.elim
end
end Go.AmZ
namespace Go.AmZ
open Go Go.RowKit
def Sub(x y:AV):Prop:=∀Γ u,Rep Γ x u->Rep Γ y u
theorem Sub.refl(x:AV):Sub x x:=λ _ _ h=>h
inductive QO:List AV->List AV->Prop
 |nil:QO [] []
 |cons {x y:AV}{xs ys:List AV}:Sub x y->QO xs ys->QO (x::xs) (y::ys)
theorem QO.refl:∀xs,QO xs xs
 |[]=>.nil
 |x::xs=>.cons (.refl x) (.refl xs)
theorem QO.rep{Γ:Gh}:∀{xs ys:List AV}{us:List Value},QO xs ys->RepL Γ xs us->RepL Γ ys us
 |_,_,_,.nil,h=>h
 |_,_,us,.cons h t,g=>by
   obtain⟨u,r,rfl,b,a⟩:=g.uncons;exact .cons (h Γ u b) (t.rep a)
theorem QO.tup{xs ys:List AV}(h:QO xs ys):Sub (.tup xs) (.tup ys):=by
 intro Γ u a;cases a with
 |tup cs us c b=>
   have:=h.rep (RepL.mk c b);exact .tup _ _ this.len this.rep
theorem qOF{P:Program}{C:Cfg}{Γ:Gh}{σ:St}{w:World}(t:yq P C){f:FuncId}{fn:Func}{c:Code}(F:P.funcs[f]?=some fn)(E:fn.body=some c)(o:Qc c=true){b:List AV}{a:List Value}{r:AV×Option St}(s:Inv Γ σ w)(q:RepL Γ b a)
  {n:Nat}{e:Ex}{d:S} (D:Q8 C n c (qg4 fn σ b)=some (e,d)) (m:e=.ret\/e=.normal) (k:qi5 C fn σ d=some r):Ji P Γ σ w f a r:=by
 unfold Ji;refine calls_of_wp F E ?_;have l:Inv Γ (qg4 fn σ b).σ w:=s.wr rfl rfl
 have B:zw Γ (qg4 fn σ b).tm {tmps:=a.toArray++Array.replicate (fn.ntmps-a.toArray.size) undef,defers:=[]}:=by
  show RepL Γ (b++List.replicate (fn.ntmps-b.length) .dead) (a.toArray++Array.replicate (fn.ntmps-a.toArray.size) undef).toList;rw[xk,xi];have:a.toArray.size=b.length:=by simpa using q.len
  rw[this];exact q.append (qdq Γ _)
 refine wp_mono (qxB t n c _ e d o D Γ w _ l B rfl) ?_;rintro I x w' ⟨rfl,o,Γ',H,u,g3,G⟩;unfold qi5 at k;split at k<;>cases k;rename_i i j;let⟨v,A,z⟩:=qj9 t.ty u g3 j;let⟨⟨h,u1,u2,u3⟩,u4⟩:=qJS s H u G z
 have:x.defers=[]/\∃v,(results fn x.tmps).run P w'=.ok v w'/\∃g Γ',Ending.returned v=.returned g/\Ext Γ w Γ' w'/\Inv Γ' (turn σ (qbx σ i d.σ).2) w'/\Rep Γ' (qbx σ i d.σ).1 g/\qO {σ with wr:=[],wrr:=[]} (turn {σ with wr:=[],wrr:=[]} (qbx σ i d.σ).2):=
  ⟨o,v,A,v,h,rfl,u1,u2,u3,u4⟩
 obtain rfl|rfl:=m
 .exact this
 .exact this
def Ret(c:PC)(a:List ResultVar)(b:AV->Prop)(e:Ex)(s:S):Prop:=
 (e=.ret\/e=.normal)/\match Qn c.cfg s.tm s.σ a with
  |some l=>refs 0 0 (qil 0 s.σ.rw (zV l))=false/\b (qil 0 s.σ.rw (zV l))
  |none=>False
def GoB(c:PC)(b:AV->Prop)(fn:Func)(a:List AV):Prop:=
 match fn.body with
 |some cd=>Go c (Ret c fn.results.toList b) [.code cd] .normal ⟨a++List.replicate (fn.ntmps-a.length) .dead,emp⟩
 |none=>False
def J5(fn:Func):Bool:=match fn.body with
 |some cd=>Qc cd && !(fn.name=="runtime.NumGoroutine")
 |none=>false
theorem yq.pur{P:Program}{C:Cfg}(h:yq P C)(p:Code->List Nat)(q:Nat->Bool):yq P {C with pur:=p,lo:=q}:=⟨h.mixed,h.ty,h.fn,h.prim,h.inl⟩
theorem qJu{P:Program}{c:PC}(hC:yq P c.cfg){f:FuncId}{fn:Func}(hf:P.funcs[f]?=some fn)(hb:J5 fn=true)(p:List AV->Option AV)
  (h:∀ args r,p args=some r->∃ args' Pr p q,QO args args'/\(∀ v,Pr v->Sub v r)/\GoB { c with pur:=p,ld:=q } Pr fn args'):qU P f (Jw p):=by
 unfold J5 at hb;cases hc:fn.body with
 | none=>rw[hc]at hb;cases hb
 | some cd =>
 rw[hc]at hb;simp only[wc,wQ]at hb;obtain⟨hd,hn⟩:=hb;refine⟨⟨fn,hf,by rw[hc];rfl,hn⟩,λ Γ σ w args vals r hi hr hp=>?_⟩;unfold Jw at hp;split at hp<;>try cases hp
 split at hp<;>cases hp;rename_i v hv;obtain⟨args',Pr,pp,qq,g1,g2,hgo⟩:=h args v hv;have hC:yq P (PC.cfg { c with pur:=pp,ld:=qq }):=hC.pur pp _;unfold GoB at hgo;rw[hc]at hgo;obtain⟨n,e,s',g3,g4,g0⟩:=hgo;split at g0
 case h_2=>exact g0.elim
 rename_i l hl;obtain⟨g6,g7⟩:=g0
 have g5:qaV (PC.cfg { c with pur:=pp,ld:=qq }) fn s'=some (zV l):=by
  unfold qaV;rw[hl]
 generalize zV l=rv at g5 g6 g7
 have hl:qi5 (PC.cfg { c with pur:=pp,ld:=qq }) fn emp s'=some (qil 0 s'.σ.rw rv,none):=by
  unfold qi5;rw[g5];simp only[qbx];have f1:(s'.σ.wr.filter λ b=>decide (b<emp.bx.length))=[]:=waq.2 λ b _=>by simp[emp]
  have f2:(s'.σ.wrr.filter λ b=>decide (b<emp.rw.length))=[]:=waq.2 λ b _=>by simp[emp]
  have hk:qpx emp rv s'.σ = false:=by
   unfold qpx;rw[f1];show(refs 0 0 (qil 0 s'.σ.rw rv)||false)=false;rw[g6];rfl
  rw[hk,f1,f2];rfl
 have hcall:=qOF (f:=f) (σ := emp) hC hf hc hd hi (g1.rep hr) (qtM qB5 g3) g4 hl;refine Calls.mono hcall ?_;rintro e' w' ⟨v',Γ',q1,q2,q3,q4,q5⟩;exact⟨v',Γ',q1,q2,q3,g2 _ g7 Γ' v' q4,q5⟩
section
variable {c:PC}{Q:Ex->S->Prop}{k:List It}{tm:List AV}{σ:St}{os:Array Oper}{d:Bool}{rest:List Oper}{dst:Option Tmp}
def qNi(c:PC)(Q:Ex->S->Prop)(k:List It)(os:Array Oper)(d:Bool)(rest:List Oper)(dst:Option Tmp)(tm:List AV)(σ:St)(x:AV):Prop:=Go c Q (.ops os d rest::k) .normal ⟨qbq tm dst x,σ⟩
theorem qF8(l:Bool)(x:AV):qsz c Q k os d l rest dst tm σ (some (x,none))=qNi c Q k os d rest dst tm σ x:=rfl
theorem qNW(l:Bool)(x:AV)(σ':St):qsz c Q k os d l rest dst tm σ (some (x,some σ'))=((d && !l)=false/\qNi c Q k os d rest dst tm σ' x):=rfl
theorem qJL(o:Oper):qrU c Q k os d rest o tm σ (some true)=qsz c Q k os d (zp c.cfg.lo o.op&&qcx c.cfg os (os.size-(rest.length+1)) tm σ o.op) rest o.dst tm σ (qen c tm σ o.op):=rfl
theorem qHj(o:Oper):qrU c Q k os d rest o tm σ (some false)=Go c Q (.ops os d rest::k) .normal ⟨qbq tm o.dst qht,σ⟩:=rfl
end
end Go.AmZ
namespace Go.GxZ
open Go.RowKit
inductive T where
 |mk (kind:Int) (name:List UInt8) (sort:Int) (kids:List T)
namespace T
def kind:T->Int|mk k _ _ _=>k
def name:T->List UInt8|mk _ n _ _=>n
def sort:T->Int|mk _ _ s _=>s
def kids:T->List T|mk _ _ _ l=>l
def para{α:Type}(f:T->List α->α)(t:T):α:=
 T.rec (motive_1:=λ _=>α) (motive_2:=λ _=>List α) (λ k n s l c=>f (mk k n s l) c) [] (λ _ _ a b=>a::b) t
theorem para_eq{α : Type}(f:T->List α -> α)(t:T):para f t=f t (t.kids.map (para f)):=by
 obtain⟨k,n,s,l⟩:=t;show f (mk k n s l) _=f (mk k n s l) _;congr 1;show T.rec_1 (motive_1 := λ _ => α) (motive_2 := λ _=>List α) _ _ _ l=l.map (para f)
 induction l with
 | nil=>rfl
 | cons a l ih=>exact congrArg (para f a :: ·) ih
theorem ind{P:T->Prop}(h:∀t,(∀k∈t.kids,P k)->P t)(t:T):P t:=
 T.rec (motive_1:=P) (motive_2:=λ l=>∀k∈l,P k) (λ _ _ _ _ c=>h _ c) (λ k b=>by cases b)
  (λ a l e d k b=>by obtain rfl|b:=wx.1 b;exact e;exact d k b) t
end T
def qez{α:Type}(k:Nat)(R:α->List Value->Prop)(Q:Nat->Prop)(w:World)(a:Option Addr)(xs:List α):Prop:=
 ∀(j:Nat) (x:α),xs[j]?=some x->∃b off cs,a=some ⟨b,off,none⟩/\Q b/\cs.length=k/\(∀(i:Nat) (c:Value),cs[i]?=some c->w.cell? ⟨b,off+j*k+i,none⟩=some c)/\R x cs
def Jv(Q:Nat->Prop)(w:World):T->List Value->Prop:=
 T.para λ t b cs=>∃a c,cs=[.int .i64 t.kind,.string ⟨t.name.toArray⟩,.int .i64 t.sort,.slice a b.length c]/\qez 4 (λ r cs=>r cs) Q w a b
theorem qmQ{Q:Nat->Prop}{w:World}{t:T}{cs:List Value}:
  Jv Q w t cs↔∃a c,cs=[.int .i64 t.kind,.string ⟨t.name.toArray⟩,.int .i64 t.sort,.slice a t.kids.length c]/\qez 4 (Jv Q w) Q w a t.kids:=by
 unfold Jv;rw[T.para_eq];simp only[wB];refine exists_congr λ a=>exists_congr λ c=>and_congr Iff.rfl ?_;constructor
 .intro h j x d;obtain⟨b,off,cs,l,k,i,g,f⟩:=h j _ (by rw[List.getElem?_map,d];rfl);grind
 .intro h j r d;rw[List.getElem?_map,Option.map_eq_some_iff]at d;obtain⟨x,e,rfl⟩:=d;exact h j x e
theorem qez.mono{α:Type}{k:Nat}{R R':α->List Value->Prop}{Q d:Nat->Prop}{w:World}{a:Option Addr}{xs:List α}(h:qez k R Q w a xs)(f:∀b,Q b->d b)(e:∀x∈xs,∀cs,R x cs->R' x cs):qez k R' d w a xs:=
 λ j x c=>let⟨b,off,cs,h1,h2,h3,h4,h5⟩:=h j x c;⟨b,off,cs,h1,f b h2,h3,h4,e x (wb c) cs h5⟩
theorem qez.below{α:Type}{k:Nat}{R R':α->List Value->Prop}{Q:Nat->Prop}{w w':World}{a:Option Addr}{xs:List α}(h:qez k R Q w a xs)(f:∀b,Q b->w'.heap[b]?=w.heap[b]?)(g:∀x∈xs,∀cs,R x cs->R' x cs):qez k R' Q w' a xs:=
 λ j x d=>let⟨b,off,cs,h1,h2,h3,h4,h5⟩:=h j x d;⟨b,off,cs,h1,h2,h3,λ i c e=>(World.cell?_of_block (w:=w) (a:=⟨b,off+j*k+i,none⟩) (f b h2)).trans (h4 i c e),g x (wb d) cs h5⟩
theorem Jv.mono{Q d:Nat->Prop}{w:World}(g:∀b,Q b->d b)(t:T):∀{cs:List Value},Jv Q w t cs->Jv d w t cs:=by
 refine T.ind (P:=λ t=>∀{cs:List Value},Jv Q w t cs->Jv d w t cs) ?_ t;intro t e cs h;rw[qmQ]at h |-
 let⟨a,c,j,i⟩:=h;exact⟨a,c,j,i.mono g λ x f cs h=>e x f h⟩
theorem Jv.keep{Q:Nat->Prop}{w w':World}(f:∀b,Q b->w'.heap[b]?=w.heap[b]?)(t:T):∀{cs:List Value},Jv Q w t cs->Jv Q w' t cs:=by
 refine T.ind (P:=λ t=>∀{cs:List Value},Jv Q w t cs->Jv Q w' t cs) ?_ t;intro t d cs h;rw[qmQ]at h |-
 let⟨a,c,i,g⟩:=h;exact⟨a,c,i,g.below f λ x e cs h=>d x e h⟩
def qNk(t:T)(a:Option Addr)(c:Nat):List Value:=[.int .i64 t.kind,.string ⟨t.name.toArray⟩,.int .i64 t.sort,.slice a t.kids.length c]
def qdk(Q:Nat->Prop)(w:World)(a:Option Addr)(l:List T):Prop:=qez 4 (Jv Q w) Q w a l
theorem Jv.mk{Q:Nat->Prop}{w:World}{t:T}{a:Option Addr}{c:Nat}(h:qdk Q w a t.kids):Jv Q w t (qNk t a c):=qmQ.2 ⟨a,c,rfl,h⟩
theorem Jv.out{Q:Nat->Prop}{w:World}{t:T}{cs:List Value}(h:Jv Q w t cs):∃a c,cs=qNk t a c/\qdk Q w a t.kids:=qmQ.1 h
theorem qdk.mono{Q d:Nat->Prop}{w:World}{a:Option Addr}{l:List T}(c:∀b,Q b->d b)(h:qdk Q w a l):qdk d w a l:=qez.mono h c λ _ _ _ h=>h.mono c
theorem qdk.keep{Q:Nat->Prop}{w w':World}{a:Option Addr}{l:List T}(c:∀b,Q b->w'.heap[b]?=w.heap[b]?)(h:qdk Q w a l):qdk Q w' a l:=qez.below h c λ x _ _ h=>h.keep c x
theorem qdk.at{Q:Nat->Prop}{w:World}{a:Option Addr}{l:List T}(h:qdk Q w a l){j:Nat}{x:T}(f:l[j]?=some x):
  ∃b off d e,a=some ⟨b,off,none⟩/\Q b/\w.cell? ⟨b,off+j*4,none⟩=some (.int .i64 x.kind)/\w.cell? ⟨b,off+j*4+1,none⟩=some (.string ⟨x.name.toArray⟩)/\
   w.cell? ⟨b,off+j*4+2,none⟩=some (.int .i64 x.sort)/\w.cell? ⟨b,off+j*4+3,none⟩=some (.slice d x.kids.length e)/\qdk Q w d x.kids:=by
 let⟨b,off,cs,m,k,n,c,i⟩:=h j x f;obtain⟨d,e,rfl,g⟩:=i.out;exact⟨b,off,d,e,m,k,c 0 _ rfl,c 1 _ rfl,c 2 _ rfl,c 3 _ rfl,g⟩
def InW(Q:Nat->Prop)(w:World):Prop:=∀b,Q b->b<w.heap.size
theorem InW.below{Q:Nat->Prop}{w w':World}(h:InW Q w)(c:Below w.heap.size w w'):InW Q w':=λ b a=>wC (h b a) c.size
theorem qdk.later{Q:Nat->Prop}{w w':World}{a:Option Addr}{l:List T}(h:qdk Q w a l)(e:InW Q w)(d:Below w.heap.size w w'):qdk Q w' a l:=h.keep λ b c=>d.block b (e b c)
theorem Jv.later{Q:Nat->Prop}{w w':World}{t:T}{cs:List Value}(h:Jv Q w t cs)(d:InW Q w)(c:Below w.heap.size w w'):Jv Q w' t cs:=h.keep (λ b a=>c.block b (d b a)) t
end Go.GxZ
namespace Go.AmZ
open Go Go.GxZ
def re(t:T):T:=.mk t.kind t.name t.sort t.kids
theorem qk(t:T):re t=t:=by let⟨k,n,s,l⟩:=t;rfl
inductive Ty where
 |int (k:IntKind)|bool|str|term|list (a:Ty)|pair (a b:Ty)|one (a:Ty)|map (a b:Ty)
 deriving DecidableEq
@[reducible] def Val:Ty->Type
  |.int _=>Int
  |.bool=>Bool
  |.str=>List UInt8
  |.term=>T
  |.list a=>List (Val a)
  |.pair a b=>Val a×Val b
  |.one a=>Val a
  |.map a b=>List (Val a×Val b)
def Ty.size:Ty->Nat
 |.term=>4
 |.pair a b=>a.size+b.size
 |.one a=>a.size
 |_=>1
inductive TV where
 |i (k:IntKind) (n:Int)
 |b (x:Bool)
 |s (x:List UInt8)
 |c (x:Value)
 |nil
 |sl (τ:Ty) (l:List (Val τ)) (lv:Nat)
 |row (id ver:Nat)
 |ptr (b o:Nat)
 |pti (b:Nat) (i:Int)
 |rpt (id ver sv:Nat) (i:Int) (cs:List TV) (o:Nat)
 |ept (cs:List TV) (o:Nat)
 |fn (f:FuncId) (caps:List TV)
 |agg (cs:List TV)
 |tup (vs:List TV)
 |dead
 |mp (b:Nat)
 |mc (κ τ:Ty) (l:List (Val κ×Val τ))
structure qL where
 τ:Ty
 l:List (Val τ)
 ver:Nat
 sv:Nat
 sh:Bool
structure TS where
 bx:List (List TV)
 rw:List qL
abbrev Env:=List (Nat×TV)
def get:Env->Nat->TV
 |[],_=>.dead
 |p::E,t=>match Nat.beq p.1 t with
   |true=>p.2
   |false=>get E t
def qcQ:Value->TV
 |.bool b=>.b b
 |.int k n=>.i k n
 |.string s=>.s s.data.toList
 |.slice none 0 0=>.nil
 |x=>match zF x with
   |true=>.c x
   |false=>.dead
def qDv:Value->TV
 |.agg cs=>match cs.toList.all zF with
   |true=>.agg (cs.toList.map qcQ)
   |false=>.dead
 |.tuple vs=>match vs.toList with
   |[]=>.tup []
   |_=>.dead
 |x=>qcQ x
def evT(E:Env):Operand->TV
 |.tmp t=>get E t
 |.const x=>qDv x
 |.func f=>.fn f []
 |.global _=>.dead
def jL:TV->List TV
 |.agg cs=>cs
 |x=>[x]
def qiy:TV->Bool
 |.agg _|.tup _|.dead=>false
 |_=>true
def JY:(τ:Ty)->Val τ->List TV
 |.int k,n=>[.i k n]
 |.bool,b=>[.b b]
 |.str,s=>[.s s]
 |.term,t=>[.i .i64 t.kind,.s t.name,.i .i64 t.sort,.sl .term t.kids 1]
 |.list a,l=>[.sl a l 1]
 |.pair a b,p=>JY a p.1++JY b p.2
 |.one a,v=>JY a v
 |.map a b,l=>[.mc a b l]
def qlL:(τ:Ty)->Val τ->TV
 |.int k,n=>.i k n
 |.bool,b=>.b b
 |.str,s=>.s s
 |.list a,l=>.sl a l 1
 |.term,t=>.agg (JY .term t)
 |.pair a b,p=>.agg (JY (.pair a b) p)
 |.one a,v=>.agg (JY (.one a) v)
 |.map a b,l=>.mc a b l
def qBi{c τ:Ty}(l:List (Val c×Val τ))(a b:Ty):Option (List (Val a×Val b)):=if h:c=a/\τ=b then some (h.1▸h.2▸l)else none
def qfa{τ:Ty}(l:List (Val τ))(a:Ty):Option (List (Val a)):=if h:τ=a then some (h▸l)else none
def qmx(rw:List qL)(a:Ty):TV->Option (List (Val a))
 |.nil=>some []
 |.sl _ l _=>qfa l a
 |.row id b=>match rw[id]? with
   |some R=>match Nat.beq R.ver b with
     |true=>qfa R.l a
     |false=>none
   |none=>none
 |_=>none
def qKZ(k:IntKind):List TV->Option (Int×List TV)
 |.i a n::r=>match decide (a=k)with
   |true=>some (n,r)
   |false=>none
 |_=>none
def qHM:List TV->Option (Bool×List TV)
 |.b x::r=>some (x,r)
 |_=>none
def qL6:List TV->Option (List UInt8×List TV)
 |.s x::r=>some (x,r)
 |_=>none
def qHa(a:TV->Option (List T)):List TV->Option (T×List TV)
 |.i .i64 k::.s n::.i .i64 s::x::r=>match a x with
   |some l=>some (.mk k n s l,r)
   |none=>none
 |_=>none
def qGV{a:Type}(b:TV->Option a):List TV->Option (a×List TV)
 |x::r=>match b x with
   |some l=>some (l,r)
   |none=>none
 |_=>none
def qpF{σ b a:Type}(p:List σ->Option (b×List σ))(q:List σ->Option (a×List σ))(cs:List σ):Option ((b×a)×List σ):=match p cs with
 |some (x,r)=>match q r with
   |some (y,r)=>some ((x,y),r)
   |none=>none
 |none=>none
def qMA(a b:Ty):List TV->Option (List (Val a×Val b)×List TV)
 |.mc c τ l::r=>match qBi l a b with
   |some l=>some (l,r)
   |none=>none
 |_=>none
def qiN(rw:List qL):(τ:Ty)->List TV->Option (Val τ×List TV)
 |.int k=>qKZ k
 |.bool=>qHM
 |.str=>qL6
 |.term=>qHa (qmx rw .term)
 |.list a=>qGV (qmx rw a)
 |.pair a b=>qpF (qiN rw a) (qiN rw b)
 |.one a=>qiN rw a
 |.map a b=>qMA a b
def Ty.agg:Ty->Bool
 |.term|.pair _ _|.one _=>true
 |_=>false
def qm0{a:Type}:Option (a×List TV)->Option a
 |some (v,[])=>some v
 |_=>none
def qvd:TV->Bool
 |.agg _=>true
 |_=>false
def qb9(rw:List qL)(τ:Ty)(x:TV):Option (Val τ):=match Je τ.agg (qvd x)with
 |true=>qm0 (qiN rw τ (jL x))
 |false=>none
def qsG(rw:List qL)(τ:Ty):List TV->Option (List (Val τ))
 |[]=>some []
 |x::l=>match qb9 rw τ x with
   |some v=>match qsG rw τ l with
     |some vs=>some (v::vs)
     |none=>none
   |none=>none
def qmP:TV->Bool
 |.i .. |.b _|.s _|.c _|.nil|.sl .. |.fn .. |.mc .. => true
 |_=>false
def qns:TV->Bool
 |.agg cs=>cs.all qmP
 |x=>qmP x
inductive ATy where
 |val (τ:Ty)|fn
@[reducible] def qbC:List ATy->Type
  |[]=>Unit
  |.val τ::r=>Val τ×qbC r
  |.fn::r=>qbC r
@[reducible] def qeu:List Ty->Type
  |[]=>Unit
  |[a]=>Val a
  |a::b::r=>Val a×qeu (b::r)
def qPJ{σ:Type}:List σ->Option Unit
 |[]=>some ()
 |_=>none
def qnv{σ b a:Type}(p:σ->Option b)(q:List σ->Option a):List σ->Option (b×a)
 |x::xs=>match p x with
   |some v=>match q xs with
     |some vs=>some (v,vs)
     |none=>none
   |none=>none
 |[]=>none
def pFn{a:Type}(q:List TV->Option a):List TV->Option a
 |.fn _ []::xs=>q xs
 |_=>none
def qxf(rw:List qL):(ts:List ATy)->List TV->Option (qbC ts)
 |[]=>qPJ
 |.val τ::r=>qnv (qb9 rw τ) (qxf rw r)
 |.fn::r=>pFn (qxf rw r)
def qpm:List TV->List Nat
 |[]=>[]
 |.fn f _::l=>f::qpm l
 |_::l=>qpm l
def unL:(ts:List Ty)->qeu ts->List TV
 |[],_=>[]
 |[a],v=>[qlL a v]
 |a::b::r,v=>qlL a v.1::unL (b::r) v.2
def qqH:List TV->TV
 |[x]=>x
 |l=>.tup l
structure Sig where
 args:List ATy
 res:List Ty
 fn:qbC args->Option (qeu res)
inductive RA where
 |val (τ:Ty)|row (τ:Ty)
@[reducible] def RA.T:RA->Type
  |.val τ=>Val τ
  |.row τ=>List (Val τ)
@[reducible] def CV:List RA->Type
  |[]=>Unit
  |a::r=>a.T×CV r
@[reducible] def BV:List RA->Type
  |[]=>Unit
  |[a]=>a.T
  |a::b::r=>CV (a::b::r)
def toC:(l:List RA)->BV l->CV l
 |[],_=>()
 |[_],v=>(v,())
 |_::_::_,v=>v
def toB:(l:List RA)->CV l->BV l
 |[],_=>()
 |[_],v=>v.1
 |_::_::_,v=>v
def nR:List RA->Nat
 |[]=>0
 |.val _::r=>nR r
 |.row _::r=>nR r+1
inductive SA where
 |val (τ:Ty)|row (τ:Ty)|box (l:List RA)|nil|clo (g k:Nat)
inductive RE where
 |one (a:RA)|agg (l:List RA)
@[reducible] def QG:List SA->Type
  |[]=>Unit
  |.val τ::r=>Val τ×QG r
  |.row τ::r=>List (Val τ)×QG r
  |.box l::r=>BV l×QG r
  |.nil::r|.clo _ _::r=>QG r
@[reducible] def jR:List SA->Type
  |[]=>Unit
  |.box l::r=>BV l×jR r
  |.nil::r|.val _::r|.row _::r|.clo _ _::r=>jR r
@[reducible] def RV:List RE->Type
  |[]=>Unit
  |.one a::r=>a.T×RV r
  |.agg l::r=>CV l×RV r
def nrB:List SA->Nat
 |[]=>0
 |.box l::r=>nR l+nrB r
 |.nil::r|.val _::r|.row _::r|.clo _ _::r=>nrB r
def nBx:List SA->Nat
 |[]=>0
 |.box _::r=>nBx r+1
 |.nil::r|.val _::r|.row _::r|.clo _ _::r=>nBx r
def ql5:List SA->Bool
 |[]=>true
 |.row _::_=>false
 |.box _::r|.nil::r|.val _::r|.clo _ _::r=>ql5 r
def qlJ:List SA->Bool
 |[]=>true
 |.box _::r=>ql5 r&&qlJ r
 |.nil::r|.val _::r|.row _::r|.clo _ _::r=>qlJ r
structure qm9 where
 args:List SA
 res:List RE
 fn:QG args->Option (jR args×RV res)
structure qrG where
 τ:Ty
 args:List SA
 fn:QG (.row τ::args)->Option (List (Val τ))
structure qtV where
 args:List SA
 fn:QG args->Option Int
inductive Co where
 |keep|row (τ:Ty) (sh:Bool)|list (τ:Ty)|plist (τ:Ty)|box (cs:List Co)|fn (cs:List Co)
structure TC where
 ty:Nat->Option TD
 el:Nat->Option Ty
 has:Nat->Bool
 pf:Nat->List Nat->Option Sig
 sf:Nat->Option qm9
 loop:Nat->Option (List (Tmp×Co))
 join:Nat->Option (List (Tmp×Co))
 nt:Nat
 np:Nat
 ld:Nat->Bool
 mf:Nat->Option qrG
 xf:Nat->Option qtV
 inl:Nat->Option Func
def TC.rawT(c:TC)(f:Nat):Bool:=match c.has f with
 |true=>false
 |false=>match c.mf f with
   |some _=>true
   |none=>match c.xf f with
     |some _=>true
     |none=>match c.sf f with
       |some _=>true
       |none=>false
def TC.loT(c:TC)(f:Nat):Bool:=c.rawT f||(c.ld f||(c.inl f).isSome)
abbrev TC.n2(c:TC):Nat×Nat:=(c.nt,c.np)
def qb{α b:Type}(x:Option α)(k:α->Option b):Option b:=match x with
 |some a=>k a
 |none=>none
def qsx{α c:Type}(x:Option c)(a:α)(f:c->α):α:=match x with
 |none=>a
 |some b=>f b
def qj7{α b:Type}(l:List b)(a:α)(f:b->List b->α):α:=match l with
 |[]=>a
 |x::r=>f x r
def qf{α:Type}(l:List α)(j:Int):Option α:=if 0<=j then l[j.toNat]? else none
def ixb(j:Int)(n:Nat):Bool:=decide (0<=j/\j<(n:Int))
def qnD:List TV->Option (List Bool)
 |[]=>some []
 |.b x::l=>match qnD l with
   |some r=>some (x::r)
   |none=>none
 |_=>none
def qpG:List Bool->Int->Bool->Nat->List Bool
 |[],_,_,_=>[]
 |e::l,i,v,j=>cond (ieq i (j:Int)) v e::qpG l i v (j+1)
def inb(i:Int)(y:Nat):Bool:=decide (0<=i/\i<=y)
def yy{α:Type}(l:List α)(j:Int)(v:α):List α:=if 0<=j then l.set j.toNat v else l
def qBm(n:Int)(bytes:Nat):Bool:=decide (0<=n/\n.toNat*bytes<=2^47/\n.toNat<2^62)
def qMI:Operand->Operand->Bool
 |.tmp a,.tmp b=>Nat.beq a b
 |.const (.int k a),.const (.int c b)=>decide (k=c)&&decide (a=b)
 |_,_=>false
def shA(σ:TS):TS:=⟨σ.bx,σ.rw.map λ R=>⟨R.τ,R.l,R.ver,R.sv,true⟩⟩
def qvc:Ty->Bool
 |.int _|.bool|.str=>true
 |_=>false
def qa9{α:Type}(l:List α)(a b:Int):List α:=(l.take b.toNat).drop a.toNat
def qiG(a b:List UInt8):Bool:=decide (((a.length+b.length:Nat):Int)<=IntKind.i64.max)
def zC(n bytes:Nat):Bool:=decide (n*bytes<=2^47/\n<2^62)
def qx(a b:List UInt8):Bool:=a==b
def slt(a b:List UInt8):Bool:=Op.bytesLess a b
def zt(l:List Int):List UInt8:=l.map λ n=>UInt8.ofNat n.toNat
def qaj(s:List UInt8):List Int:=s.map λ b=>((b.toNat:Nat):Int)
def qEv:Option TD->Bool
 |some ⟨_,_,_,_,.ptr⟩=>true
 |_=>false
def qHL:TV->TV->Option Bool
 |.c (.pointer none),.c (.pointer none)=>some true
 |.ptr _ _,.c (.pointer none)|.rpt _ _ _ _ _ _,.c (.pointer none)|.ept _ _,.c (.pointer none)=>some false
 |_,_=>none
section
variable {α:Type}
abbrev KT(α:Type):=TV->Option TS->Option α
def qKD(op:BinOp)(k:IntKind)(a b:Int)(K:TV->Option α):Option α:=
 match op with
 |.add=>K (.i k (iw k (qi a b)))
 |.sub=>K (.i k (iw k (yk a b)))
 |.mul=>K (.i k (iw k (qqO a b)))
 |.quo=>cond (ieq b 0) none (K (.i k (iw k (qM0 a b))))
 |.rem=>cond (ieq b 0) none (K (.i k (qKx a b)))
 |.and=>K (.i k (qoR .and k a b))
 |.or=>K (.i k (qoR .or k a b))
 |.xor=>K (.i k (qoR .xor k a b))
 |.andNot=>K (.i k (qoR .andNot k a b))
 |.eql=>K (.b (ieq a b))
 |.neq=>K (.b (qe (ieq a b)))
 |.lss=>K (.b (ilt a b))
 |.leq=>K (.b (ile a b))
 |.gtr=>K (.b (ilt b a))
 |.geq=>K (.b (ile b a))
 |_=>none
def qLy(op:BinOp)(x y:List UInt8)(K:TV->Option α):Option α:=
 match op with
 |.add=>cond (qiG x y) (K (.s (x++y))) none
 |.eql=>K (.b (qx x y))
 |.neq=>K (.b (qe (qx x y)))
 |.lss=>K (.b (slt x y))
 |.leq=>K (.b (qqU (slt x y) (qx x y)))
 |.gtr=>K (.b (qe (qqU (slt x y) (qx x y))))
 |.geq=>K (.b (qe (slt x y)))
 |_=>none
def qwe:Option TD->Bool
 |some ⟨_,_,_,_,.bool⟩=>true
 |_=>false
def qMj(d:Option TD)(op:BinOp)(x y:TV)(K:TV->Option α):Option α:=
 match x,y with
 |.i k a,.i c b=>match op with
   |.shl=>cond (ilt b 0) none (K (.i k (qK9 k a b)))
   |.shr=>cond (ilt b 0) none (K (.i k (qox k a b)))
   |op=>match decide (k=c)with
     |true=>qKD op k a b K
     |false=>none
 |.s a,.s b=>qLy op a b K
 |.b a,.b b=>match op,qwe d with
   |.eql,true=>K (.b (Je a b))
   |.neq,true=>K (.b (qe (Je a b)))
   |_,_=>none
 |_,_=>none
def qBo(place:Nat->Option (Nat×Nat))(cells:List TV):List (Nat×TV)->Option (List TV)
 |[]=>some cells
 |(i,x)::a=>match place i with
   |none=>none
   |some (off,size)=>match decide ((jL x).length=size)&&decide (off+size<=cells.length)&&(jL x).all qiy with
     |true=>qBo place (cells.take off++(jL x++cells.drop (off+size))) a
     |false=>none
def qmZ(a:Bool)(size:Nat)(cs:List TV)(o:Nat):Option TV:=
 match a with
 |true=>match decide (o+size<=cs.length)with
   |true=>some (.agg ((cs.drop o).take size))
   |false=>none
 |false=>cs[o]?
def qfL(d:Int)(E:Env):Option Operand->Option Int
 |none=>some d
 |some x=>match evT E x with
   |.i _ n=>some n
   |_=>none
def veq:(c:Ty)->Val c->Val c->Bool
 |.int _,a,b=>ieq a b
 |.str,a,b=>qx a b
 |.bool,a,b=>Je a b
 |.pair c τ,a,b=>veq c a.1 b.1&&veq τ a.2 b.2
 |.one c,a,b=>veq c a b
 |_,_,_=>false
def kcT:Ty->List KC
 |.int k=>[.int k]
 |.str=>[.str]
 |.bool=>[.bool]
 |.pair a b=>kcT a++kcT b
 |.one a=>kcT a
 |_=>[]
def qaQ:Ty->Bool
 |.int _|.str|.bool=>true
 |.pair a b=>qaQ a&&qaQ b
 |.one a=>qaQ a
 |_=>false
def qyc{K V:Type}(eq:K->K->Bool):List (K×V)->K->Option V
 |[],_=>none
 |p::l,k=>cond (eq k p.1) (some p.2) (qyc eq l k)
def qoA{K V:Type}(eq:K->K->Bool)(z:V)(l:List (K×V))(k:K):V:=qsx (qyc eq l k) z id
def qBM{K V:Type}(eq:K->K->Bool)(l:List (K×V))(k:K):Bool:=qsx (qyc eq l k) false λ _=>true
def qnz{K V:Type}(eq:K->K->Bool):List (K×V)->K->V->List (K×V)
 |[],k,v=>[(k,v)]
 |p::l,k,v=>cond (eq k p.1) ((p.1,v)::l) (p::qnz eq l k v)
def qvN:List TV->Bool
 |[.dead]|[.mc ..]=>false
 |_=>true
def qvT(σ:TS)(a τ:Ty):TV->Option (Nat×List (Val a×Val τ))
 |.mp b=>match σ.bx[b]? with
   |some [.mc _ _ l]=>match qBi l a τ with
     |some l=>some (b,l)
     |none=>none
   |_=>none
 |_=>none
def qsF(c:TC)(t:Nat):Option (Ty×Ty):=match c.ty t,c.el t with
 |some ⟨_,_,_,_,.map e f d b _⟩,some (.map a τ)=>match decide (e=kcT a)&&(Je f a.agg&&(Je d τ.agg&&(decide (b=τ.size)&&qaQ a)))with
   |true=>some (a,τ)
   |false=>none
 |_,_=>none
def qKr(c:TC)(t:Nat)(τ:Ty):Option (Val τ):=match c.ty t with
 |some ⟨_,_,_,_,.map _ _ _ b a⟩=>match a.all zF&&decide (a.length=b)with
   |true=>qm0 (qiN [] τ (a.map qcQ))
   |false=>none
 |_=>none
def qsO(c:TC)(E:Env)(σ:TS)(t:Nat)(m k v:Operand)(K:KT α):Option α:=match qsF c t with
 |some (a,τ)=>match qvT σ a τ (evT E m),qns (evT E v)with
   |some (b,l),true=>match qb9 σ.rw a (evT E k),qb9 σ.rw τ (evT E v)with
     |some k,some v=>K (.tup []) (some {σ with bx:=σ.bx.set b [.mc a τ (qnz (veq a) l k v)]})
     |_,_=>none
   |_,_=>none
 |none=>none
def j8(c:TC)(E:Env)(σ:TS)(op:Op)(K:KT α):Option α:=
 match op with
 |.move x|.assign x=>K (evT E x) none
 |.pick x a b=>match evT E x with
   |.b y=>cond y (K (evT E a) none) (K (evT E b) none)
   |_=>none
 |.alloc e=>match c.ty e with
   |some d=>match d.zero.all zF with
     |true=>K (.ptr σ.bx.length 0) (some {σ with bx:=σ.bx++[d.zero.map qcQ]})
     |false=>none
   |none=>none
 |.box e x=>match c.ty e with
   |some _=>match(jL (evT E x)).all qiy with
     |true=>K (.ptr σ.bx.length 0) (some {σ with bx:=σ.bx++[jL (evT E x)]})
     |false=>none
   |none=>none
 |.build t parts=>match c.ty t with
   |some ⟨_,_,_,z,.struct w⟩=>match z.all zF with
     |true=>match qBo (λ i=>match w[i]? with|some f=>some (f.1,f.2.1)|none=>none) (z.map qcQ) (parts.toList.map λ p=>(p.1,evT E p.2))with
       |some cs=>K (.agg cs) none
       |none=>none
     |false=>none
   |_=>none
 |.buildSlice t n parts=>match c.ty t,c.el t with
   |some ⟨_,_,_,_,.slice _ k _ _⟩,some τ=>match decide (k=τ.size)&&decide (parts.size=n)&&decide (n*k<=2^24)&&decide (0<k)&&(parts.toList.zipIdx.all λ p=>decide (p.1.1=p.2))with
     |true=>match qsG σ.rw τ (parts.toList.map λ p=>evT E p.2)with
       |some vs=>K (.sl τ vs 2) (match(parts.toList.all λ p=>qns (evT E p.2))with|true=>none|false=>some (shA σ))
       |none=>none
     |false=>none
   |_,_=>none
 |.load t a=>match c.ty t with
   |some d=>match evT E a with
     |.ptr b o=>match σ.bx[b]? with
       |some cs=>match qvN cs with
         |true=>match qmZ d.agg d.size cs o with
           |some x=>K x none
           |none=>none
         |false=>none
       |none=>none
     |.ept cs o=>match qmZ d.agg d.size cs o with
       |some x=>K x none
       |none=>none
     |.pti b i=>match σ.bx[b]? with
       |some cs=>match d.agg,qnD cs with
         |false,some l=>qb (qf l i) λ v=>K (.b v) none
         |_,_=>none
       |none=>none
     |.rpt id q u i cs o=>match σ.rw[id]? with
       |some R=>match Nat.beq R.ver q with
         |true=>match Nat.beq R.sv u with
           |true=>match qmZ d.agg d.size cs o with
             |some x=>K x none
             |none=>none
           |false=>match R.sh with
             |true=>none
             |false=>qb (qf R.l i) λ v=>match qmZ d.agg d.size (JY R.τ v) o with
               |some x=>K x none
               |none=>none
         |false=>none
       |none=>none
     |_=>none
   |none=>none
 |.store t a x=>match c.ty t,evT E a with
   |some d,.ptr b o=>match σ.bx[b]? with
     |some cs=>match qvN cs&&decide ((jL (evT E x)).length=d.size)&&decide (o+d.size<=cs.length)&&(jL (evT E x)).all qiy with
       |true=>K (.tup []) (some {σ with bx:=σ.bx.set b (cs.take o++(jL (evT E x)++cs.drop (o+d.size)))})
       |false=>none
     |none=>none
   |some d,.pti b i=>match σ.bx[b]?,evT E x with
     |some cs,.b v=>match qnD cs,Nat.beq d.size 1 with
       |some l,true=>cond (ixb i l.length) (K (.tup []) (some {σ with bx:=σ.bx.set b ((qpG l i v 0).map .b)})) none
       |_,_=>none
     |_,_=>none
   |some d,.rpt id q u i cs o=>match σ.rw[id]? with
     |some R=>match Nat.beq R.ver q&&Nat.beq R.sv u && !R.sh&&decide ((jL (evT E x)).length=d.size)&&decide (o+d.size<=cs.length)&&(jL (evT E x)).all qmP with
       |true=>match qm0 (qiN σ.rw R.τ (cs.take o++(jL (evT E x)++cs.drop (o+d.size))))with
         |some v=>K (.tup []) (some {σ with rw:=σ.rw.set id ⟨R.τ,yy R.l i v,R.ver,R.sv+1,R.sh⟩})
         |none=>none
       |false=>none
     |none=>none
   |_,_=>none
 |.makeSlice t n m=>match c.ty t,c.el t,evT E n with
   |some ⟨_,_,_,_,.slice _ k bytes z⟩,some τ,.i _ a=>match qMI n m&&decide (k=τ.size)&&decide (0<k)&&decide (z.length=k)&&z.all zF with
     |true=>match qm0 (qiN [] τ (z.map qcQ))with
       |some v=>cond (qBm a bytes) (K (.row σ.rw.length 0) (some {σ with rw:=σ.rw++[⟨τ,List.replicate a.toNat v,0,0,false⟩]})) none
       |none=>none
     |false=>none
   |_,_,_=>none
 |.nilCheck x=>match evT E x with
   |.ptr b o=>K (.ptr b o) none
   |.ept cs o=>K (.ept cs o) none
   |.rpt id q u i cs o=>K (.rpt id q u i cs o) none
   |_=>none
 |.binOp op t x y _=>match qHL (evT E x) (evT E y)with
   |some b=>match op,qEv (c.ty t)with
     |.eql,true=>K (.b b) none
     |.neq,true=>K (.b (!b)) none
     |_,_=>none
   |none=>qMj (c.ty t) op (evT E x) (evT E y) λ v=>K v none
 |.unOp op _ x=>match op,evT E x with
   |.neg,.i k n=>K (.i k (iw k (yk 0 n))) none
   |.not,.b y=>K (.b (qe y)) none
   |_,_=>none
 |.convert s d x=>match c.ty s,c.ty d,evT E x with
   |some _,some ⟨_,_,_,_,.int k⟩,.i _ n=>K (.i k (iw k n)) none
   |some _,some ⟨_,_,_,_,.string⟩,.s y=>K (.s y) none
   |some ⟨_,_,_,_,.string⟩,some ⟨_,_,_,_,.slice e 1 _ _⟩,.s y=>match qrQ (c.ty e)with
     |true=>K (.row σ.rw.length 0) (some {σ with rw:=σ.rw++[⟨.int .u8,qaj y,0,0,false⟩]})
     |false=>none
   |some ⟨_,_,_,_,.slice e 1 _ _⟩,some ⟨_,_,_,_,.string⟩,y=>match qrQ (c.ty e),qmx σ.rw (.int .u8) y with
     |true,some l=>K (.s (zt l)) none
     |_,_=>none
   |_,_,_=>none
 |.makeFunc (.func f) w cs=>match w.toList with
   |[]=>K (.fn f (cs.toList.map (evT E))) none
   |_=>none
 |.slice t x lo A none=>match c.ty t,evT E x with
   |some ⟨_,_,_,_,.string⟩,.s y=>match qfL y.length E A with
     |some h=>match qfL 0 E lo with
       |some l=>cond (inb h y.length) (cond (inb l h.toNat) (K (.s (qa9 y l h)) none) none) none
       |none=>none
     |none=>none
   |some ⟨_,_,_,_,.slice _ k _ _⟩,.sl τ y D=>match decide (τ.size=k)&&pos D with
     |true=>match qfL y.length E A with
       |some h=>match qfL 0 E lo with
         |some l=>cond (inb h y.length) (cond (inb l h.toNat) (K (.sl τ (qa9 y l h) 1) none) none) none
         |none=>none
       |none=>none
     |false=>none
   |some ⟨_,_,_,_,.slice _ _ _ _⟩,.nil=>match qfL 0 E A with
     |some h=>match qfL 0 E lo with
       |some l=>cond (inb h 0) (cond (inb l h.toNat) (K .nil none) none) none
       |none=>none
     |none=>none
   |some ⟨_,_,_,_,.slice _ k _ _⟩,.row id q=>match A,σ.rw[id]? with
     |none,some R=>match Nat.beq R.ver q&&decide (R.τ.size=k)with
       |true=>match qfL 0 E lo with
         |some l=>cond (inb l R.l.length) (K (.row id (q+1)) (some {σ with rw:=σ.rw.set id ⟨R.τ,R.l.drop l.toNat,q+1,R.sv,true⟩})) none
         |none=>none
       |false=>none
     |_,_=>none
   |_,_=>none
 |.fieldAddr t x i=>match c.ty t with
   |some ⟨_,_,_,_,.struct w⟩=>match w[i]? with
     |some (off,size,_)=>match size with
       |0=>none
       |_+1=>match evT E x with
         |.ptr b o=>K (.ptr b (o+off)) none
         |.ept cs o=>K (.ept cs (o+off)) none
         |.rpt id q u i cs o=>K (.rpt id q u i cs (o+off)) none
         |_=>none
     |none=>none
   |_=>none
 |.field t x i=>match c.ty t,evT E x with
   |some ⟨_,_,_,_,.struct w⟩,.agg cs=>match w[i]? with
     |some (off,size,g)=>match qmZ g size cs off with
       |some y=>K y none
       |none=>none
     |none=>none
   |_,_=>none
 |.indexAddr t x i=>match c.ty t,evT E i with
   |some ⟨_,_,_,_,.slice _ k _ _⟩,.i _ j=>match evT E x with
     |.sl τ l _=>match decide (τ.size=k)with
       |true=>qb (qf l j) λ v=>K (.ept (JY τ v) 0) none
       |false=>none
     |.row id q=>match σ.rw[id]? with
       |some R=>match Nat.beq R.ver q&&decide (R.τ.size=k)with
         |true=>qb (qf R.l j) λ v=>K (.rpt id q R.sv j (JY R.τ v) 0) none
         |false=>none
       |none=>none
     |_=>none
   |some ⟨_,_,_,_,.array n _ 1⟩,.i _ j=>match evT E x with
     |.ptr b 0=>cond (ixb j n) (K (.pti b j) none) none
     |_=>none
   |_,_=>none
 |.index t x i=>match c.ty t,evT E x,evT E i with
   |some ⟨_,_,_,_,.string⟩,.s y,.i _ j=>qb (qf y j) λ v=>K (.i .u8 v.toNat) none
   |_,_,_=>none
 |.extract x i=>match evT E x with
   |.tup vs=>match vs[i]? with
     |some y=>K y none
     |none=>none
   |_=>none
 |.makeMap t none=>match qsF c t with
   |some (r,τ)=>K (.mp σ.bx.length) (some {σ with bx:=σ.bx++[[.mc r τ []]]})
   |none=>none
 |.lookup t m k C=>match qsF c t with
   |some (r,τ)=>match qvT σ r τ (evT E m),qKr c t τ,qb9 σ.rw r (evT E k)with
     |some (_,l),some z,some k=>match C with
       |true=>K (.tup [qlL τ (qoA (veq r) z l k),.b (qBM (veq r) l k)]) none
       |false=>K (qlL τ (qoA (veq r) z l k)) none
     |_,_,_=>none
   |none=>none
 |.mapUpdate t m k v|.insert t m k v=>qsO c E σ t m k v K
 |_=>none
def qHX(k bytes:Nat)(σ:TS)(τ:Ty)(s:TV)(xs:List (Val τ))(K:KT α):Option α:=
 match s with
 |.nil=>qj7 xs (K .nil none) λ x r=>cond (zC (r.length+1) bytes) (K (.row σ.rw.length 0) (some {σ with rw:=σ.rw++[⟨τ,x::r,0,0,false⟩]})) none
 |.sl b l c=>match decide (1<c)with
   |true=>match qfa l τ with
     |some l=>cond (zC (l.length+xs.length) bytes) (qj7 xs (K s none) λ x r=>K (.row σ.rw.length 0) (some {σ with rw:=σ.rw++[⟨τ,l++(x::r),0,0,false⟩]})) none
     |none=>none
   |false=>none
 |.row id a=>match σ.rw[id]? with
   |some R=>match Nat.beq R.ver a with
     |true=>match qfa R.l τ with
       |some l=>cond (zC (l.length+xs.length) bytes) (K (.row id (a+1)) (some {σ with rw:=σ.rw.set id ⟨τ,l++xs,a+1,R.sv,R.sh⟩})) none
       |none=>none
     |false=>none
   |none=>none
 |_=>none
def quI(c:TC)(σ:TS)(b:Builtin)(ts:Array TypeId)(f:List TV)(K:KT α):Option α:=
 match b,f with
 |.len,[x]=>match ts[0]? with
   |some t=>match c.ty t with
     |some d=>match d.k,x with
       |.string,.s y=>K (.i .i64 y.length) none
       |.slice ..,.nil=>K (.i .i64 0) none
       |.slice ..,.sl _ l _=>K (.i .i64 l.length) none
       |.slice ..,.row id g=>match σ.rw[id]? with
         |some R=>match Nat.beq R.ver g with
           |true=>K (.i .i64 R.l.length) none
           |false=>none
         |none=>none
       |.map ..,.mp b=>match qsF c t with
         |some (j,τ)=>match qvT σ j τ (.mp b)with
           |some (_,l)=>K (.i .i64 l.length) none
           |none=>none
         |none=>none
       |_,_=>none
     |none=>none
   |none=>none
 |.append,[s,x]=>match ts[0]?,ts[1]? with
   |some t,some u=>match c.ty t,c.ty u,c.el t with
     |some ⟨_,_,_,_,.slice _ k bytes z⟩,some ⟨_,_,_,_,.slice _ _ _ _⟩,some τ=>match decide (0<k)&&decide (z.length=k)&&decide (k=τ.size)with
       |true=>match qmx σ.rw τ x with
         |some xs=>qHX k bytes σ τ s xs K
         |none=>none
       |false=>none
     |some ⟨_,_,_,_,.slice e 1 bytes z⟩,some ⟨_,_,_,_,.string⟩,some (.int .u8)=>match decide (z.length=1)&&qrQ (c.ty e),x with
       |true,.s y=>qHX 1 bytes σ (.int .u8) s (qaj y) K
       |_,_=>none
     |_,_,_=>none
   |_,_=>none
 |.max,[.i k a,.i h b]=>match decide (k=h)with|true=>K (.i k (qnw a b)) none|false=>none
 |.min,[.i k a,.i h b]=>match decide (k=h)with|true=>K (.i k (qM7 a b)) none|false=>none
 |_,_=>none
def qiz(rw:List qL)(τ:Ty):TV->Option (List (Val τ)×List Nat)
 |.nil=>some ([],[])
 |.sl a l c=>match qfa l τ,decide (1<c)with
   |some [],true=>some ([],[])
   |_,_=>none
 |.row id b=>match rw[id]? with
   |some R=>match Nat.beq R.ver b && !R.sh with
     |true=>match qfa R.l τ with
       |some l=>some (l,[id])
       |none=>none
     |false=>none
   |none=>none
 |_=>none
def JJ(rw:List qL):(l:List RA)->List TV->Option (CV l×List Nat×Bool)
 |[],[]=>some ((),[],true)
 |[],_::_=>none
 |.val τ::r,cs=>match qm0 (qiN rw τ (cs.take τ.size)),JJ rw r (cs.drop τ.size)with
   |some v,some (vs,a,q)=>some ((v,vs),a,(cs.take τ.size).all qmP&&q)
   |_,_=>none
 |.row τ::r,c::cs=>match qiz rw τ c,JJ rw r cs with
   |some (v,i),some (vs,a,q)=>some ((v,vs),i++a,q)
   |_,_=>none
 |.row _::_,[]=>none
def qly:List RA->Bool
 |[.val (.map _ _)]=>true
 |_=>false
def bxT(l:List RA)(b:Nat):TV:=match qly l with
 |true=>.mp b
 |false=>.ptr b 0
def qMM(l:List RA)(x:TV):Option Nat:=match qly l,x with
 |true,.mp b|false,.ptr b 0=>some b
 |_,_=>none
def qPX(rw:List qL)(c:List (List TV))(l:List RA)(x:TV):Option (CV l×List Nat×Nat):=match qMM l x with
 |some b=>match c[b]? with
   |some cs=>match JJ rw l cs with
     |some (v,a,true)=>some (v,a,b)
     |_=>none
   |none=>none
 |none=>none
def yI(σ:TS):(sas:List SA)->List TV->Option (QG sas×List Nat×List Nat)
 |[],[]=>some ((),[],[])
 |.val τ::r,x::xs=>match qns x,qb9 σ.rw τ x with
   |true,some v=>match yI σ r xs with
     |some (vs,q)=>some ((v,vs),q)
     |none=>none
   |_,_=>none
 |.row τ::r,x::xs=>match qiz σ.rw τ x with
   |some (l,a)=>match yI σ r xs with
     |some (vs,d,c)=>some ((l,vs),d,a++c)
     |none=>none
   |none=>none
 |.box l::r,x::xs=>match qPX σ.rw σ.bx l x with
   |some (v,a,b)=>match yI σ r xs with
     |some (vs,d,c)=>some ((toB l v,vs),b::d,a++c)
     |none=>none
   |none=>none
 |.nil::r,.nil::xs=>yI σ r xs
 |.clo g k::r,.fn e cs::xs=>match Nat.beq g e&&Nat.beq cs.length k with
   |true=>yI σ r (cs++xs)
   |false=>none
 |_,_=>none
def ndN:List Nat->Bool
 |[]=>true
 |b::l=>(l.all λ c => !Nat.beq b c)&&ndN l
def qe0(rw:List qL)(a:List Nat):List qL:=a.foldl (λ l i=>l.modify i λ R=>⟨R.τ,[],R.ver+1,R.sv,false⟩) rw
def qfT:(l:List RA)->Nat->CV l->List TV
 |[],_,_=>[]
 |.val τ::r,L,v=>JY τ v.1++qfT r L v.2
 |.row _::r,L,v=>.row L 0::qfT r (L+1) v.2
def JU:(l:List RA)->CV l->List qL
 |[],_=>[]
 |.val _::r,v=>JU r v.2
 |.row τ::r,v=>⟨τ,v.1,0,0,false⟩::JU r v.2
def qeA:(sas:List SA)->Nat->jR sas->List (List TV)
 |[],_,_=>[]
 |.box l::r,L,o=>qfT l L (toC l o.1)::qeA r (L+nR l) o.2
 |.nil::r,L,o|.val _::r,L,o|.row _::r,L,o|.clo _ _::r,L,o=>qeA r L o
def qay:(sas:List SA)->jR sas->List qL
 |[],_=>[]
 |.box l::r,o=>JU l (toC l o.1)++qay r o.2
 |.nil::r,o|.val _::r,o|.row _::r,o|.clo _ _::r,o=>qay r o
def ql8(a:List (List TV)):List Nat->List (List TV)->List (List TV)
 |b::c,x::xs=>ql8 (a.set b x) c xs
 |_,_=>a
def qqz(nb NB:Nat):(a:List RE)->Nat->RV a->List TV
 |[],_,_=>[]
 |.one (.val τ)::r,L,v=>qlL τ v.1::qqz nb NB r L v.2
 |.one (.row _)::r,L,v=>.row L 0::qqz nb NB r (L+1) v.2
 |.agg l::r,L,v=>.agg (qfT l L v.1)::qqz nb NB r (L+nR l) v.2
def qrk:(a:List RE)->RV a->List qL
 |[],_=>[]
 |.one (.val _)::r,v=>qrk r v.2
 |.one (.row τ)::r,v=>⟨τ,v.1,0,0,false⟩::qrk r v.2
 |.agg l::r,v=>JU l v.1++qrk r v.2
def qrz:(a:List RE)->Nat->RV a->List (List TV)
 |[],_,_=>[]
 |.one (.val _)::r,L,v=>qrz r L v.2
 |.one (.row _)::r,L,v=>qrz r (L+1) v.2
 |.agg l::r,L,v=>qrz r (L+nR l) v.2
def nRA:RA->Nat
 |.val _=>0
 |.row _=>1
def qkK(rws:List qL):(f:List RE)->Nat->Nat->RV f->((c:List RE)->RV c->Option α)->Option α
 |[],_,_,_,k=>k [] ()
 |.one a::r,nb,d,v,k=>qkK rws r nb (d+nRA a) v.2 λ e b=>k (.one a::e) (v.1,b)
 |.agg l::r,nb,d,v,k=>qkK rws r nb (d+nR l) v.2 λ e b=>k (.agg l::e) (v.1,b)
def qCP(σ:TS)(g:qrG)(b:List TV)(K:KT α):Option α:=match b with
 |x::xs=>match qiz σ.rw g.τ x,yI σ g.args xs with
   |some (l,c),some (a,[],[])=>match qlJ g.args with
     |true=>match c with
       |[id]=>qb (g.fn (l,a)) λ v=>cond (Nat.beq v.length l.length) (K (.tup []) (some ⟨σ.bx,σ.rw.modify id λ R=>⟨g.τ,v,R.ver,R.sv+1,false⟩⟩)) none
       |[]=>qb (g.fn (l,a)) λ v=>cond (Nat.beq v.length l.length) (K (.tup []) none) none
       |_=>none
     |false=>none
   |_,_=>none
 |[]=>none
def qDF(σ:TS)(g:qtV)(b:List TV)(K:KT α):Option α:=match yI σ g.args b with
 |some (a,d,c)=>match ndN d&&(ndN c&&qlJ g.args)with
   |true=>qb (g.fn a) λ v=>K (.i .i64 v) none
   |false=>none
 |none=>none
def qwn(c:TC)(σ:TS)(f:Nat)(b:List TV)(K:KT α):Option α:=match c.mf f with
 |some g=>qCP σ g b K
 |none=>match c.xf f with
   |some g=>qDF σ g b K
   |none=>match c.sf f with
     |some g=>match yI σ g.args b with
       |some (a,i,h)=>match ndN i&&(ndN h&&qlJ g.args)with
         |true=>qb (g.fn a) λ v=>qkK (qay g.args v.1) g.res (nBx g.args) (nrB g.args) v.2 λ d e=>K (qqH (qqz σ.bx.length (nBx g.args) d (σ.rw.length+nrB g.args) e)) (some ⟨ql8 σ.bx i (qeA g.args σ.rw.length v.1)++qrz d (σ.rw.length+nrB g.args) e,qe0 σ.rw h++(qay g.args v.1++qrk d e)⟩)
         |false=>none
       |none=>none
     |none=>none
def qH4(c:TC)(σ:TS)(f:Nat)(a:List TV)(K:KT α):Option α:=
 match c.has f,c.pf f (qpm a)with
 |true,some g=>match qxf σ.rw g.args a with
   |some sas=>qb (g.fn sas) λ v=>K (qqH (unL g.res v)) (match a.all qns||g.res.all qvc with|true=>none|false=>some (shA σ))
   |none=>none
 |true,none=>none
 |false,_=>qwn c σ f a K
def opT(c:TC)(E:Env)(σ:TS)(op:Op)(K:KT α):Option α:=
 match op with
 |.call ⟨.builtin b,a,ts⟩=>quI c σ b ts (a.toList.map (evT E)) K
 |.call ⟨.value g,a,_⟩=>match evT E g with
   |.fn f cs=>match c.inl f with
     |some _=>none
     |none=>match cs with
       |[]=>qH4 c σ f (a.toList.map (evT E)) K
       |x::cs=>match c.has f with
         |true=>none
         |false=>qwn c σ f (a.toList.map (evT E)++(x::cs)) K
   |_=>none
 |.call _=>none
 |op=>j8 c E σ op K
def qCa(c:TC)(E:Env)(d:Option Tmp)(x:TV)(K:Env->Option α):Option α:=match d with
 |none=>K E
 |some d=>match Nat.blt d c.nt with
   |true=>K ((d,x)::E)
   |false=>none
def qIk(ops:Array Oper)(E:Env)(o:Oper)(K:Bool->Env->Option α):Option α:=
 match o.guard with
 |none=>K true E
 |some (j,a)=>match(ops[j]?).bind (·.dst)with
   |none=>none
   |some d=>match get E d with
     |.b x=>match a with
       |true=>cond x (K true ((d,.b true)::E)) (K false ((d,.b false)::E))
       |false=>cond x (K false ((d,.b true)::E)) (K true ((d,.b false)::E))
     |.tup []=>K false E
     |_=>none
end
def qoz(E:Env)(ops:Array Oper)(k:Nat)(t:Tmp):Option Nat:=match qBj ops k t with
 |some u=>match get E u with
   |.ptr b _=>some b
   |_=>none
 |none=>none
def qMQ(E:Env)(ops:Array Oper)(k:Nat)(t:Tmp):Bool:=match qBj ops k t with
 |some u=>match get E u with
   |.rpt .. => true
   |_=>false
 |none=>false
mutual
def rbT:TV->Option (List Nat)
 |.ptr b _|.mp b|.pti b _=>some [b]
 |.fn _ cs|.agg cs|.tup cs=>qqD cs
 |.dead=>none
 |_=>some []
def qqD:List TV->Option (List Nat)
 |[]=>some []
 |x::l=>match rbT x,qqD l with
   |some a,some b=>some (a++b)
   |_,_=>none
end
def qL7(σ:TS)(b:Nat):Bool:=match σ.bx[b]? with
 |some cs=>match qqD cs with
   |some []=>true
   |_=>false
 |none=>false
def qKj(c:TC)(E:Env)(σ:TS):Op->Option (List Nat)
 |.call ⟨.value g,as,_⟩=>match evT E g with
   |.fn f cs=>match(c.inl f).isSome,qqD (as.toList.map (evT E)++cs)with
     |false,some l=>match l.all (qL7 σ)with
       |true=>some l
       |false=>none
     |_,_=>none
   |_=>none
 |_=>none
def qvS(c:TC)(ops:Array Oper)(j:Nat)(E:Env)(σ:TS)(op:Op):Bool := !qy0 op||ops.toList.zipIdx.all λ(q,i)=>match q.op with
 |.load _ (.tmp a)=>((QX ops.toList []).getD (max i j) 0).testBit (min i j)||match qoz E ops i a,qKj c E σ op with
   |some y,some l=>Nat.blt y σ.bx.length&&l.all λ c => !Nat.beq c y
   |_,_=>false
 |_=>true
section
variable {α:Type}
def qhQ(d:Env->TS->Op->KT α->Option α)(c:TC)(ops:Array Oper)(b:Bool):List Oper->Env->TS->(Env->TS->Option α)->Option α
 |[],E,σ,K=>K E σ
 |o::a,E,σ,K=>qIk ops E o λ w E=>match w with
   |true=>d E σ o.op λ x σ'=>match σ' with
     |none=>qCa c E o.dst x λ E=>qhQ d c ops b a E σ K
     |some σ'=>match b && !(zp c.loT o.op&&qvS c ops (ops.size-(a.length+1)) E σ o.op)with
       |true=>none
       |false=>qCa c E o.dst x λ E=>qhQ d c ops b a E σ' K
   |false=>qCa c E o.dst (.tup []) λ E=>qhQ d c ops b a E σ K
structure Mv where
 E:Env
 bx:List (List TV)
 rw:List qL
 mb:List (Nat×Nat)
 mr:List (Nat×Nat)
def jU(l:List (Nat×Nat))(b:Nat):Option Nat:=match l with
 |[]=>none
 |p::r=>match Nat.beq p.1 b with
   |true=>some p.2
   |false=>jU r b
def qB3:TV->Bool
 |.i .. |.b _|.s _|.c _|.nil|.sl .. => true
 |.fn _ cs=>cs.isEmpty
 |.agg cs=>cs.all λ|.i .. |.b _|.s _|.c _|.nil|.sl .. => true|_=>false
 |_=>false
mutual
def mvT(σ:TS)(k:Co)(x:TV)(m:Mv)(K:TV->Mv->Option α):Option α:=
 match k with
 |.keep=>match qB3 x with
   |true=>K x m
   |false=>K .dead m
 |.list τ=>match x with
   |.nil=>K (.sl τ [] 1) m
   |.sl a l _=>match qfa l τ with
     |some l=>K (.sl τ l 1) m
     |none=>none
   |_=>K .dead m
 |.plist τ=>match x with
   |.nil=>K (.sl τ [] 1) m
   |.sl a l _=>match qfa l τ with
     |some l=>K (.sl τ l 1) m
     |none=>none
   |_=>K .dead m
 |.row τ d=>match x with
   |.nil=>K (.row m.rw.length 0) {m with rw:=m.rw++[⟨τ,[],0,0,d⟩]}
   |.sl a l j=>match qfa l τ,decide (1<j)with
     |some l,true=>match d with
       |true=>K (.row m.rw.length 0) {m with rw:=m.rw++[⟨τ,l,0,0,true⟩]}
       |false=>match l with
         |[]=>K (.row m.rw.length 0) {m with rw:=m.rw++[⟨τ,[],0,0,false⟩]}
         |_=>none
     |_,_=>none
   |.row id e=>match σ.rw[id]? with
     |some R=>match Nat.beq R.ver e&&(d || !R.sh)with
       |true=>match qfa R.l τ with
         |some l=>match jU m.mr id with
           |some g=>K (.row g 0) m
           |none=>K (.row m.rw.length 0) {m with rw:=m.rw++[⟨τ,l,0,0,d⟩],mr:=(id,m.rw.length)::m.mr}
         |none=>none
       |false=>none
     |none=>none
   |_=>none
 |.fn cs=>match x with
   |.fn f xs=>mvL σ cs xs m λ ys m=>K (.fn f ys) m
   |_=>none
 |.box cs=>match x with
   |.ptr b 0=>match jU m.mb b with
     |some h=>K (.ptr h 0) m
     |none=>match σ.bx[b]? with
       |some xs=>mvL σ cs xs m λ ys m=>match jU m.mb b with
         |none=>K (.ptr m.bx.length 0) {m with bx:=m.bx++[ys],mb:=(b,m.bx.length)::m.mb}
         |some _=>none
       |none=>none
   |.c v=>K (.c v) m
   |.mp b=>match jU m.mb b with
     |some h=>K (.mp h) m
     |none=>match σ.bx[b]? with
       |some [.mc i τ l]=>K (.mp m.bx.length) {m with bx:=m.bx++[[.mc i τ l]],mb:=(b,m.bx.length)::m.mb}
       |_=>none
   |_=>none
def mvL(σ:TS)(cs:List Co)(xs:List TV)(m:Mv)(K:List TV->Mv->Option α):Option α:=
 match cs,xs with
 |[],[]=>K [] m
 |co::cs,x::xs=>mvT σ co x m λ y m=>mvL σ cs xs m λ ys m=>K (y::ys) m
 |_,_=>none
end
def qBV(a:List (Nat×Nat)):Nat->Bool
 |0=>true
 |n+1=>(match jU a n with|some j=>Nat.beq n j|none=>false)&&qBV a n
def mvE(a:Nat)(σ:TS)(E:Env):List (Tmp×Co)->Mv->(Env->TS->Option α)->Option α
 |[],m,K=>match qBV m.mb a with
   |true=>K m.E ⟨m.bx,m.rw⟩
   |false=>none
 |(t,b)::r,m,K=>mvT σ b (get E t) m λ y m=>mvE a σ E r {m with E:=m.E++[(t,y)]} K
def qIh(E:Env)(σ:TS)(t:Tmp)(τ:Ty)(K:Env->TS->Option α):Option α:=match get E t with
 |.i .. => K E σ
 |.b _|.s _|.c _|.nil=>K E σ
 |.sl .. => K E σ
 |.row id a=>match σ.rw[id]? with
   |some R=>match Nat.beq R.ver a with
     |true=>match qfa R.l τ with
       |some l=>K ((t,.sl τ l 1)::E) (shA σ)
       |none=>none
     |false=>none
   |none=>none
 |.dead=>K E (shA σ)
 |_=>none
def qui:List (Tmp×Co)->Env->TS->(Env->TS->Option α)->Option α
 |[],E,σ,K=>K E σ
 |(t,a)::r,E,σ,K=>match a with
   |.plist τ=>qIh E σ t τ λ E σ=>qui r E σ K
   |_=>qui r E σ K
def qsw(E:Env)(ops:Array Oper)(j:Nat)(o:Oper)(i:Nat)(q:Oper):Bool:=match o.op,q.op with
 |.store _ (.tmp a) _,.load _ (.tmp b)=>match qoz E ops j a,qoz E ops i b with
   |some x,some y => !Nat.beq x y
   |some _,none=>qMQ E ops i b
   |_,_=>false
 |.call ⟨.builtin .append,_,_⟩,.load _ (.tmp b)|.call ⟨.value _,_,_⟩,.load _ (.tmp b)=>(qoz E ops i b).isSome
 |_,_=>false
def qNe(a:Nat->Bool)(E:Env)(ops:Array Oper)(j:Nat)(o:Oper)(i:Nat)(q:Oper):Bool:=
 (match q.dst with|some d=>(qbc ops o).contains d|none=>false)||(qo6 a o q && !(qsw E ops j o i q||qsw E ops i q j o))
def qsW(c:Nat->Bool)(E:Env)(ops:Array Oper)(a:Bool):Bool:=match a with
 |true=>
   let b:=QX ops.toList []
   ops.toList.zipIdx.all λ(o,j)=>((jG o).all λ e=>decide (e<j))&&ops.toList.zipIdx.all λ(q,i)=>
    decide (i=j) || !qNe c E ops j o i q||(b.getD (max i j) 0).testBit (min i j)
 |false=>true
def qfr:Nat->List TV->Env
 |_,[]=>[]
 |n,x::l=>(n,x)::qfr (n+1) l
def qop(c:TC)(E:Env)(σ:TS):ResultVar->Option TV
 |.tmp t=>some (get E t)
 |.cell a t=>match c.ty t,get E a with
   |some d,.ptr b o=>match σ.bx[b]? with
     |some cs=>match qvN cs with
       |true=>qmZ d.agg d.size cs o
       |false=>none
     |none=>none
   |_,_=>none
def quX:Code->Nat
 |.seq a b=>max (quX a) (quX b)+1
 |_=>1
section
variable {α:Type}
def qm5(c:TC):Code->Env->TS->(Env->TS->Option α)->Option α
 |.skip,E,σ,K=>K E σ
 |.seq a b,E,σ,K=>qm5 c a E σ λ E σ=>qm5 c b E σ K
 |.region _ ops d,E,σ,K=>match qje ops d,qo5 ops d with
   |false,none=>match qsW c.loT E ops d with
     |true=>qhQ (opT c) c ops d ops.toList E σ K
     |false=>none
   |_,_=>none
 |_,_,_,_=>none
def qDA(c:TC)(E:Env)(σ:TS):List ResultVar->Option (List TV)
 |[]=>some []
 |r::l=>match qop c E σ r with
   |some x=>match qDA c E σ l with
     |some xs=>some (x::xs)
     |none=>none
   |none=>none
def qMn(c:TC)(fn:Func)(σ:TS)(xs:List TV)(K:KT α):Option α:=match fn.body with
 |some cd=>match Nat.ble xs.length fn.ntmps&&Nat.ble (quX cd) 12 with
   |true=>qm5 {c with nt:=fn.ntmps} cd (qfr 0 xs) σ λ E σ=>match qDA {c with nt:=fn.ntmps} E σ fn.results.toList with
     |some ys=>K (qqH ys) (some σ)
     |none=>none
   |false=>none
 |none=>none
def opI(c:TC)(E:Env)(σ:TS)(op:Op)(K:KT α):Option α:=
 match op with
 |.call ⟨.value g,a,ts⟩=>match evT E g with
   |.fn f cs=>match c.inl f with
     |some fn=>qMn c fn σ (a.toList.map (evT E)++cs) K
     |none=>opT c E σ (.call ⟨.value g,a,ts⟩) K
   |_=>none
 |op=>opT c E σ op K
end
def slT:TV->Bool
 |.sl ..|.row .. => true
 |_=>false
def qHy(E:Env)(ops:Array Oper):Bool:=match qgV ops with
 |p::_=>match p.op with
   |.indexAddr _ u _=>slT (evT E u)
   |_=>false
 |[]=>false
def qKO:TV->Bool
 |.ptr _ _=>true
 |_=>false
def qeH:Code->Nat
 |.region id _ _=>id
 |.seq a _=>qeH a
 |.block _ b|.loop b=>qeH b
 |.cond _ a _=>qeH a
 |_=>0
def qgv:List (Tmp×Co)->List Nat
 |[]=>[]
 |(t,a)::r=>match a with
   |.plist _=>t::qgv r
   |_=>qgv r
def TC.pur(c:TC)(b:Code):List Nat:=match c.loop (qeH b)with
 |some l=>qgv l
 |none=>[]
def qHl(E:Env)(x:Operand)(b:Bool):Env:=match x with
 |.tmp t=>(t,.b b)::E
 |_=>E
def JH(c:TC)(f:Env->TS->Option α)(L:List It->Env->TS->Option α):Nat->List It->Ex->Env->TS->Option α
 |0,_,_,_,_=>none
 |_+1,[],e,E,σ=>match e with
   |.exit _=>none
   |_=>f E σ
 |N+1,.code cd::k,e,E,σ=>match e with
   |.normal=>match cd with
     |.skip|.label _=>JH c f L N k .normal E σ
     |.region _ ops d=>match qje ops d with
       |true=>match qi0 c.loT ops.toList&&(qcG c.loT ops&&qsW c.loT E ⟨qJ c.loT ops.toList⟩ true)with
         |true=>qhQ (opI c) c ⟨qJ c.loT ops.toList⟩ true (qJ c.loT ops.toList) E σ λ E σ=>qhQ (opI c) c ops false (alL c.loT ops.toList) E σ λ E σ=>qhQ (opI c) c ops true (qqK c.loT ops.toList) E σ λ E σ=>JH c f L N k .normal E σ
         |false=>none
       |false=>match qo5 ops d with
         |some p=>match qsW c.loT E (qco ops) true with
           |true=>qhQ (opI c) c (qco ops) true (qco ops).toList E σ λ E σ=>match qKO (get E p)&&qHy E ops with
             |true=>qhQ (opI c) c ops true (qgV ops) E σ λ E σ=>JH c f L N k .normal E σ
             |false=>none
           |false=>none
         |none=>match qsW c.loT E ops d with
           |true=>qhQ (opI c) c ops d ops.toList E σ λ E σ=>JH c f L N k .normal E σ
           |false=>none
     |.seq a b=>JH c f L N (.code a::.code b::k) .normal E σ
     |.cond x a b=>match evT E x with
       |.b y=>cond y (JH c f L N (.code a::k) .normal (qHl E x true) σ) (JH c f L N (.code b::k) .normal (qHl E x false) σ)
       |_=>none
     |.block id b=>JH c f L N (.code b::.blk id::k) .normal E σ
     |.loop b=>match c.loop (qeH b)with
       |some l=>qui l E σ λ E σ=>mvE c.np σ E l ⟨[],[],[],[],[]⟩ λ E σ=>L (.code (.loop b)::k) E σ
       |none=>none
     |.exit id=>JH c f L N k (.exit id) E σ
     |.ret=>JH c f L N k .ret E σ
     |_=>none
   |e=>JH c f L N k e E σ
 |N+1,.blk id::k,e,E,σ=>match e with
   |.exit i=>match Nat.beq i id with
     |true=>match c.join id with
       |some l=>mvE c.np σ E l ⟨[],[],[],[],[]⟩ λ E σ=>L k E σ
       |none=>JH c f L N k .normal E σ
     |false=>JH c f L N k (.exit i) E σ
   |.normal=>match c.join id with
     |some l=>mvE c.np σ E l ⟨[],[],[],[],[]⟩ λ E σ=>L k E σ
     |none=>JH c f L N k .normal E σ
   |.ret=>JH c f L N k .ret E σ
 |_+1,.ops .. :: _,_,_,_=>none
def qDb(c:TC)(a:Env->TS->Option α)(L:List It->Env->TS->Option α)(N:Nat)(d:List It)(E:Env)(σ:TS):Option α:=
 match d with
 |.code (.loop b)::k=>match c.loop (qeH b)with
   |some l=>qui l E σ λ E σ=>JH c a L N (.code b::.code (.loop b)::k) .normal E σ
   |none=>JH c a L N (.code b::.code (.loop b)::k) .normal E σ
 |d=>JH c a L N d .normal E σ
def qoy(c:TC)(a:Env->TS->Option α)(N:Nat):Nat->List It->Env->TS->Option α
 |0=>λ _ _ _=>none
 |n+1=>qDb c a (qoy c a N n) N
end
def qjs(c:TC):(ts:List Ty)->List ResultVar->Env->TS->Option (qeu ts)
 |[],[],_,_=>some ()
 |[a],[r],E,σ=>match qop c E σ r with
   |some x=>qb9 σ.rw a x
   |none=>none
 |a::b::ts,r::d,E,σ=>match qop c E σ r with
   |some x=>match qb9 σ.rw a x with
     |some v=>match qjs c (b::ts) d E σ with
       |some vs=>some (v,vs)
       |none=>none
     |none=>none
   |none=>none
 |_,_,_,_=>none
def qk4:(sas:List SA)->Nat->Nat->QG sas->List TV
 |[],_,_,_=>[]
 |.val τ::r,nb,b,a=>qlL τ a.1::qk4 r nb b a.2
 |.row _::r,nb,b,a=>.row b 0::qk4 r nb (b+1) a.2
 |.box l::r,nb,b,a=>bxT l nb::qk4 r (nb+1) (b+nR l) a.2
 |.nil::r,nb,b,a=>.nil::qk4 r nb b a
 |.clo g k::r,nb,b,a=>.fn g ((qk4 r nb b a).take k)::(qk4 r nb b a).drop k
def sBx:(sas:List SA)->Nat->QG sas->List (List TV)
 |[],_,_=>[]
 |.nil::r,b,a|.clo _ _::r,b,a=>sBx r b a
 |.val _::r,b,a=>sBx r b a.2
 |.row _::r,b,a=>sBx r (b+1) a.2
 |.box l::r,b,a=>qfT l b (toC l a.1)::sBx r (b+nR l) a.2
def sRw:(sas:List SA)->QG sas->List qL
 |[],_=>[]
 |.nil::r,a|.clo _ _::r,a=>sRw r a
 |.val _::r,a=>sRw r a.2
 |.row τ::r,a=>⟨τ,a.1,0,0,false⟩::sRw r a.2
 |.box l::r,a=>JU l (toC l a.1)++sRw r a.2
def qgw(σ:TS):(sas:List SA)->Nat->Option (jR sas×List Nat×Bool)
 |[],_=>some ((),[],true)
 |.nil::r,n|.clo _ _::r,n|.val _::r,n|.row _::r,n=>qgw σ r n
 |.box l::r,n=>match σ.bx[n]? with
   |some cs=>match JJ σ.rw l cs,qgw σ r (n+1)with
     |some (v,i,q),some (o,a,b)=>some ((toB l v,o),i++a,q&&b)
     |_,_=>none
   |none=>none
def qiv(c:TC)(E:Env)(σ:TS)(f:List Nat):(d:List RE)->List ResultVar->Option (RV d×List Nat×List Nat×Bool)
 |[],[]=>some ((),[],[],true)
 |.one (.val a)::d,r::l=>match qop c E σ r with
   |some x=>match qb9 σ.rw a x,qiv c E σ f d l with
     |some v,some (vs,b,e,q)=>some ((v,vs),b,e,qns x&&q)
     |_,_=>none
   |none=>none
 |.one (.row a)::d,r::l=>match qop c E σ r with
   |some x=>match qiz σ.rw a x,qiv c E σ f d l with
     |some (v,i),some (vs,b,e,q)=>some ((v,vs),i++b,e,q)
     |_,_=>none
   |none=>none
 |.agg p::d,r::l=>match qop c E σ r with
   |some (.agg cs)=>match JJ σ.rw p cs,qiv c E σ f d l with
     |some (v,i,g),some (vs,b,e,q)=>some ((v,vs),i++b,e,g&&q)
     |_,_=>none
   |_=>none
 |_,_=>none
def qO8(rw:List qL):TV->Option (List Nat)
 |.row id a=>match rw[id]? with
   |some R=>match Nat.beq R.ver a with
     |true=>some [id]
     |false=>none
   |none=>none
 |x=>match qmP x with
   |true=>some []
   |false=>none
def qG3(rw:List qL):List TV->Option (List Nat)
 |[]=>some []
 |x::l=>match qO8 rw x,qG3 rw l with
   |some a,some b=>some (a++b)
   |_,_=>none
def qEu (rw:List qL):List RA->List TV->Option (List Nat)
 | [],_=>some []
 | .val τ :: r,cs=>match qG3 rw (cs.take τ.size),qEu rw r (cs.drop τ.size) with
   | some a,some b=>some (a++b)
   | _,_=>none
 | .row _::r,cs=>qEu rw r (cs.drop 1)
def qrt(σ:TS):List SA->Nat->Option (List Nat)
 |[],_=>some []
 |.box l::r,n=>match σ.bx[n]? with
   |some cs=>match qEu σ.rw l cs,qrt σ r (n+1)with
     |some a,some b=>some (a++b)
     |_,_=>none
   |none=>none
 |.nil::r,n|.clo _ _::r,n|.val _::r,n|.row _::r,n=>qrt σ r n
def qP9(vs:Option (List Nat))(l:List Nat):Bool:=match vs with
 |some vs=>vs.all λ a=>l.all λ b => !Nat.beq a b
 |none=>false
def qG2(n:Nat)(l:List Nat):List Nat:=match Nat.beq l.length n with
 |true=>l
 |false=>[]
def qyT(c:TC)(sas:List SA)(d:List RE)(l:List ResultVar)(E:Env)(σ:TS):Option (jR sas×RV d):=match qgw σ sas 0 with
 |some (o,i,q)=>match qiv c E σ (qG2 (nrB sas) i) d l with
   |some (v,a,e,f)=>match ndN (i++a)&&(((i++a).isEmpty||(f&&(q||qP9 (qrt σ sas 0) (i++a))))&&(ndN e&&e.all λ b=>Nat.ble (nBx sas) b))with
     |true=>some (o,v)
     |false=>none
   |none=>none
 |none=>none
end Go.AmZ
namespace Go.AmZ
open Go Go.RowKit Go.GxZ
mutual
def qMB:T->List AV
 |.mk k n s l=>[.v (.int .i64 k),.v (.string ⟨n.toArray⟩),.v (.int .i64 s),.sl 4 (qDW l) 0]
def qDW:List T->List (List AV)
 |[]=>[]
 |t::l=>qMB t::qDW l
end
mutual
def qPb:AV->Option (List T)
 |.v (.slice none 0 0)=>some []
 |.sl 4 es _=>qDl es
 |_=>none
def qDl:List (List AV)->Option (List T)
 |[]=>some []
 |e::es=>match qMS e with
   |some t=>match qDl es with
     |some l=>some (t::l)
     |none=>none
   |none=>none
def qMS:List AV->Option T
 |[.v (.int .i64 k),.v (.string n),.v (.int .i64 s),x]=>match qPb x with
   |some l=>some (.mk k n.data.toList s l)
   |none=>none
 |_=>none
end
mutual
theorem qKJ:∀t:T,qMS (qMB t)=some t
 |.mk k n s l=>by
   rw[qMB,qMS,qPb,qDq l]
theorem qDq:∀l:List T,qDl (qDW l)=some l
 |[]=>by rw[qDW,qDl]
 |t::l=>by rw[qDW,qDl,qKJ t,qDq l]
end
theorem QO.len:∀{xs ys:List AV},QO xs ys->xs.length=ys.length
 |_,_,.nil=>rfl
 |_,_,.cons _ t=>by simp[t.len]
theorem QO.get:∀{xs ys:List AV},QO xs ys->∀(i:Nat) (y:AV),ys[i]?=some y->∃x,xs[i]?=some x/\Sub x y
 |_,_,.nil,i,y,h=>by simp at h
 |_,_,.cons a t,0,y,h=>by simp at h;subst h;exact⟨_,rfl,a⟩
 |_,_,.cons a t,i+1,y,h=>by simpa using t.get i y (by simpa using h)
theorem qCE{xs ys:List AV}(h:QO xs ys):Sub (.agg xs) (.agg ys):=by
 intro Γ u a;cases a with
 |agg cs us c d b=>
   have:=h.rep (RepL.mk c b);exact .agg _ _ this.len d this.rep
end Go.AmZ
namespace Go.AmZ
open Go Go.RowKit
def QY(R:Row):Row:=⟨R.k,[],0,1,false⟩
theorem qoC{Γ Γ':Gh}{x:AV}{u:Value}(a:∀b o u,Γ.mem b o=some u->Γ'.mem b o=some u)(h:Rep Γ x u)(d:rb x=[])(c:rr x=[]):Rep Γ' x u:=by
 have:=qsB (Γ':=Γ') (fb:=λ b=>b) (fr:=λ r=>r) a h (by rw[d];intro b hb;cases hb) (by rw[c];intro b hb;cases hb)
 rwa [qDd]at this
theorem qFK:∀{cs:List AV},rbL cs=[]->∀x∈cs,rb x=[]
 |[],_,x,a=>by cases a
 |y::cs,h,x,a=>by
   simp only[rbL,wZ]at h;obtain rfl|a:=wx.1 a
   .exact h.1
   .exact qFK h.2 x a
theorem qGd:∀{cs:List AV},rrL cs=[]->∀x∈cs,rr x=[]
 |[],_,x,a=>by cases a
 |y::cs,h,x,a=>by
   simp only[rrL,wZ]at h;obtain rfl|a:=wx.1 a
   .exact h.1
   .exact qGd h.2 x a
theorem qIH{Γ Γ':Gh}{cs:List AV}{us:List Value}(d:∀b o u,Γ.mem b o=some u->Γ'.mem b o=some u)(h:RepL Γ cs us)(f:rbL cs=[])(e:rrL cs=[]):RepL Γ' cs us:=
 ⟨h.len,λ i x u a c=>qoC d (h.rep i x u a c) (qFK f x (wb a)) (qGd e x (wb a))⟩
theorem qxc{x:AV}(h:qu x=true):rb x=[]/\rr x=[]:=(qgF (fb:=λ b=>b) (fr:=λ r=>r) h).2
def qPi(ds cs:List AV):Prop:=∃c d a ks vs vs',ds=[.mc c d a ks vs]/\cs=[.mc c d a ks vs']/\vs'.length=vs.length/\∀(j:Nat) (v b:List AV),vs[j]?=some v->vs'[j]?=some b->Sub (QJ a v) (QJ a b)/\b.all qu=true
theorem qc1.sub{Γ:Gh}{w:World}{b:Nat}{m:List KC}{n f:Bool}{ks vs vs':List (List AV)}(h:qc1 Γ w b m n f ks vs)(s:vs'.length=vs.length)(r:∀(j:Nat) (v g:List AV),vs[j]?=some v->vs'[j]?=some g->Sub (QJ f v) (QJ f g)/\g.all qu=true):qc1 Γ w b m n f ks vs':=by
 let⟨y,es,d,x,u,t⟩:=h;refine⟨s.trans y,es,d,x,u,λ j k v e a b c=>?_⟩;have B:=(List.getElem?_eq_some_iff.1 b).1;have o:=List.getElem?_eq_getElem (l:=vs) (i:=j) (by omega);let⟨A,z,g3,C⟩:=t j k _ e a o c;let⟨q,p⟩:=r j _ _ o b;exact⟨A,q _ _ z,g3,p⟩
structure qHz (σ1:St) (fs:List Nat) (so:Option Nat) (R:Row):Prop where
 fz:R.fz=0
 ver:R.ver=0
 pos:0<R.k
 len:∀e∈R.c,e.length=R.k
 plain:∀e∈R.c,∀x∈e,qu x=true
 src:match so with
  |none=>R.c=[]
  |some j=>∃Q,σ1.rw[j]?=some Q/\Q.k=R.k/\Q.fz=0/\Q.c.length=R.c.length/\(∀(i:Nat) (e e':List AV),Q.c[i]?=some e->R.c[i]?=some e'->QO e e')/\j ∉ fs/\Q.off=false
def qlk(nb:Nat)(kb:List Nat)(i:Nat):Nat:=if i<nb then i else kb.getD (i-nb) 0
def jT(a:Gh)(m:Nat->Nat->Option Value)(nb:Nat)(kb:List Nat)(L:Nat)(qg:List (Option Nat×Row)):Gh:=
 {mem:=m,nb:=nb+kb.length,β:=λ i=>a.β (qlk nb kb i),nr:=L+qg.length,ver:=λ r=>if r<L then a.ver r+1 else 0,
   k:=λ r=>if r<L then a.k r else match qg[r-L]? with|some p=>p.2.k|none=>1,
   cur:=λ r=>if r<L then a.cur r else match qg[r-L]? with|some (some j,_)=>a.cur j|_=>0,
   sz:=λ r=>if r<L then 0 else match qg[r-L]? with|some (some j,_)=>a.sz j|_=>0,of:=λ _=>0}
theorem qri{y d:Gh}{σ0 σ1:St}{w0 K:World}(J:Inv y σ0 w0)(t:Ext y w0 d K)(I:Inv d σ1 K)(ah:σ0.bx.length<=σ1.bx.length)
  (z:List (List AV)) (kb:List Nat) (ad:z.length=σ0.bx.length+kb.length) (P:∀b∈kb,σ0.bx.length<=b/\b<σ1.bx.length) (ag:kb.Nodup) (M:List Nat) (qg:List (Option Nat×Row)) (ae:∀(i:Nat) (cs:List AV),z[i]?=some cs->∃ds,σ1.bx[qlk σ0.bx.length kb i]?=some ds/\(noMc ds=false->qPi ds cs)/\∀m,Fz d m->(∀r∈M,∀R,σ1.rw[r]?=some R->QA {d with mem:=m} r R)->∀us,RepL d ds us->RepL (jT d m σ0.bx.length kb σ0.rw.length qg) cs us)
  (hn:∀(a:Nat) (so:Option Nat) (R:Row),qg[a]?=some (so,R)->qHz σ1 M so R) (hd:∀(a b j:Nat) (R R':Row),qg[a]?=some (some j,R)->qg[b]?=some (some j,R')->a=b) (wl aa:List Nat):
  ∃m,Fz d m/\(∀r∈M,∀R,σ1.rw[r]?=some R->QA {d with mem:=m} r R)/\Ext y w0 (jT d m σ0.bx.length kb σ0.rw.length qg) K/\Inv (jT d m σ0.bx.length kb σ0.rw.length qg) ⟨z,σ0.rw.map QY++qg.map (·.2),wl,aa⟩ K:=by
 let⟨m,m1,m2,m3⟩:=qaw M I σ1.wrr;have af:σ0.bx.length<=d.nb:=by rw[I.nb];exact ah
 have V:∀b o u,d.mem b o=some u->m b o=some u:=m1.le.mem
 have C:∀{i:Nat},i<σ0.bx.length+kb.length->qlk σ0.bx.length kb i<d.nb:=λ{i} f=>by
  unfold qlk;split
  .exact wC ‹_› af
  .rw[List.getD_eq_getElem?_getD,List.getElem?_eq_getElem (show i-σ0.bx.length<kb.length by omega),I.nb];exact(P _ (wX _)).2
 have ai:∀{i j:Nat},i<σ0.bx.length+kb.length->j<σ0.bx.length+kb.length->qlk σ0.bx.length kb i=qlk σ0.bx.length kb j->i=j:=λ{i j} f S g=>by
  unfold qlk at g;split at g<;>split at g
  .exact g
  .rw[List.getD_eq_getElem?_getD,List.getElem?_eq_getElem (show j-σ0.bx.length<kb.length by omega)]at g;have g:i=kb[j-σ0.bx.length]:=g;have:=(P _ (wX (show j-σ0.bx.length<kb.length by omega))).1;omega
  .rw[List.getD_eq_getElem?_getD,List.getElem?_eq_getElem (show i-σ0.bx.length<kb.length by omega)]at g;have g:kb[i-σ0.bx.length]=j:=g;have:=(P _ (wX (show i-σ0.bx.length<kb.length by omega))).1;omega
  .rw[List.getD_eq_getElem?_getD,List.getD_eq_getElem?_getD,List.getElem?_eq_getElem (show i-σ0.bx.length<kb.length by omega),List.getElem?_eq_getElem (show j-σ0.bx.length<kb.length by omega)]at g;have g:kb[i-σ0.bx.length]=kb[j-σ0.bx.length]:=g;have:=(List.getElem_inj (h₀:=by omega) (h₁:=by omega) ag).1 g;omega
 have B:∀{r:Nat},¬ r<σ0.rw.length->(jT d m σ0.bx.length kb σ0.rw.length qg).sz r≠0->∃j R Q,qg[r-σ0.rw.length]?=some (some j,R)/\σ1.rw[j]?=some Q/\qfW {d with mem:=m} K j Q/\(jT d m σ0.bx.length kb σ0.rw.length qg).cur r=d.cur j/\(jT d m σ0.bx.length kb σ0.rw.length qg).sz r=d.sz j:=by
  intro r s q;have N:(if r<σ0.rw.length then 0 else match qg[r-σ0.rw.length]? with|some (some j,_)=>d.sz j|_=>0)≠0:=q;rw[if_neg s]at N;split at N
  .rename_i j R F;let⟨Q,Z,_,_,_,_,q6,_⟩:=(hn _ _ _ F).src;refine⟨j,R,Q,F,Z,m2.row j Q (by show(frz σ1.rw M)[j]?=_;rw[qnY M _ j q6];exact Z),?_,?_⟩
   .show(if r<σ0.rw.length then _ else match qg[r-σ0.rw.length]? with|some (some j,_)=>d.cur j|_=>0)=_;rw[if_neg s,F]
   .show(if r<σ0.rw.length then _ else match qg[r-σ0.rw.length]? with|some (some j,_)=>d.sz j|_=>0)=_;rw[if_neg s,F]
  .exact absurd rfl N
 have v:∀{r:Nat},r<σ0.rw.length->(jT d m σ0.bx.length kb σ0.rw.length qg).sz r=0:=λ s=>if_pos s;refine⟨m,m1,m3,⟨⟨λ b o u h=>V _ _ _ (t.le.mem b o u h),by rw[J.nb];exact kK _ _,λ i f=>by rw[<-t.le.β i f];show d.β (qlk _ _ _)=_;unfold qlk;rw[if_pos (by rw[<-J.nb];exact f)],by rw[J.nr];exact kK _ _,λ r s=>?_,λ r s=>?_,λ r s g=>?_⟩,t.os,t.tape,t.output,t.size,t.block,?_,?_,t.drawn⟩,?_⟩
 .rw[J.nr]at s;exact(if_pos s).trans (t.le.k r (by rw[J.nr];exact s))
 .have:=t.le.ver r s;rw[J.nr]at s;show y.ver r<=(if r<σ0.rw.length then d.ver r+1 else 0);rw[if_pos s];omega
 .have:=t.le.ver r s;rw[J.nr]at s;have g:(if r<σ0.rw.length then d.ver r+1 else 0)=y.ver r:=g;rw[if_pos s]at g;omega
 .rintro b (⟨i,f,hb⟩|⟨r,s,q,hb⟩)
  .exact t.own b (.inl ⟨_,C f,hb⟩)
  .by_cases l:r<σ0.rw.length
   .exact absurd (v l) q
   .let⟨j,R,Q,_,T,_,Y,q5⟩:=B l q;exact t.own b (.inr ⟨j,by rw[I.nr];exact getElem?_lt T,by rw[<-q5];exact q,by rw[<-Y];exact hb⟩)
 .intro b o u hm;obtain h|h:=m1.own b o u hm
  .exact t.memg b o u h
  .exact .inr (t.own b h)
 .refine⟨ad.symm,by show σ0.rw.length+qg.length=_;simp,λ b o u h=>m2.mem b o u h,?_,λ i j f S g=>ai f S (I.inj _ _ (C f) (C S) g),λ i f o=>m2.boxmem _ (C f) o,?_,?_⟩
  .intro i cs f;let⟨ds,d1,d3,d2⟩:=ae i cs f;obtain⟨vs,e,v1,v2,v3⟩|⟨kc,ka,va,ks,vs,rfl,hm⟩:=(I.box _ ds d1).split
   .exact .of ⟨vs,e,v1,d2 m m1 m3 _ v2,v3⟩
   .obtain⟨_,_,_,_,_,vs',e1,rfl,l1,l2⟩:=d3 rfl;cases e1;exact(hm.sub l1 l2).to (λ _ h=>h) λ x u t g1 g2=>qoC V t g1 g2
  .intro r R w;have w:(σ0.rw.map QY++qg.map (·.2))[r]?=some R:=w;by_cases l:r<σ0.rw.length
   .rw[List.getElem?_append_left (by rw[wB];exact l),List.getElem?_map]at w;cases n:σ0.rw[r]? with
    |none=>rw[n]at w;cases w
    |some R0=>
      rw[n]at w;cases w;have H:=J.row r R0 n;have q:=v l;refine⟨?_,λ h=>absurd h (by show ¬ 1<=0;omega),H.pos,(by intro e g;cases g),(by intro e g;cases g),.inl rfl,λ h=>absurd q h,by show 0+0*_<=_;rw[kJ];exact we _,λ h=>absurd q h,(by intro i e j x f;cases f),λ h=>absurd q h,λ _=>rfl⟩;show R0.k=(if r<σ0.rw.length then d.k r else _);rw[if_pos l,H.k];exact(t.le.k r (by rw[J.nr];exact l)).symm
   .rw[List.getElem?_append_right (by rw[wB];omega),wB,List.getElem?_map]at w;cases n:qg[r-σ0.rw.length]? with
    |none=>rw[n]at w;cases w
    |some p=>
      rw[n]at w;cases w;let⟨so,R⟩:=p;have D:=hn _ _ _ n
      have hk:R.k=(jT d m σ0.bx.length kb σ0.rw.length qg).k r:=by
       show _=(if r<σ0.rw.length then _ else match qg[r-σ0.rw.length]? with|some p=>p.2.k|none=>1);rw[if_neg l,n]
      have L:R.ver=(jT d m σ0.bx.length kb σ0.rw.length qg).ver r:=by
       show _=(if r<σ0.rw.length then _ else 0);rw[if_neg l];exact D.ver
      cases so with
      |none=>
        have hc:R.c=[]:=D.src
        have q:(jT d m σ0.bx.length kb σ0.rw.length qg).sz r=0:=by
         show(if r<σ0.rw.length then 0 else match qg[r-σ0.rw.length]? with|some (some j,_)=>d.sz j|_=>0)=0;rw[if_neg l,n]
        exact⟨hk,λ _=>L,D.pos,D.len,D.plain,.inl hc,λ h=>absurd q h,by show 0+R.c.length*_<=_;rw[hc];simp,λ h=>absurd q h,(by intro i e j x f;change R.c[i]?=_ at f;rw[hc]at f;cases f),λ h=>absurd q h,λ _=>rfl⟩
      |some j=>
        let⟨Q,Z,T,q3,Y,q5,q6,q7⟩:=D.src;have H:qfW {d with mem:=m} K j Q:=m2.row j Q (by show(frz σ1.rw M)[j]?=_;rw[qnY M _ j q6];exact Z)
        have G:(jT d m σ0.bx.length kb σ0.rw.length qg).cur r=d.cur j:=by
         show(if r<σ0.rw.length then _ else match qg[r-σ0.rw.length]? with|some (some j,_)=>d.cur j|_=>0)=_;rw[if_neg l,n]
        have A:(jT d m σ0.bx.length kb σ0.rw.length qg).sz r=d.sz j:=by
         show(if r<σ0.rw.length then _ else match qg[r-σ0.rw.length]? with|some (some j,_)=>d.sz j|_=>0)=_;rw[if_neg l,n]
        have O:d.of j=0:=H.off q7;refine⟨hk,λ _=>L,D.pos,D.len,D.plain,.inr (by show R.fz<=_;rw[D.fz];exact we _),λ q=>?_,?_,λ q off ho=>?_,?_,λ q i f=>?_,λ _=>rfl⟩
        .rw[A]at q;let⟨vs,e,fr,b1,b2,b3,b4⟩:=H.blk q;exact⟨vs,e,fr,by rw[G];exact b1,by rw[A];exact b2,b3,by rw[<-T];exact b4⟩
        .show 0+R.c.length*R.k<=_;have X:d.of j+Q.c.length*Q.k<=d.sz j:=H.fit;rw[O]at X;rw[A,<-Y,<-T];exact X
        .rw[A]at q;rw[G];refine H.un q off ?_;show d.of j+_<=_;rw[q3,kJ,O];exact we _
        .intro i e' jj x' f S;have f:R.c[i]?=some e':=f;have W:i<Q.c.length:=by rw[Y];exact getElem?_lt f
         let⟨x,ac,U⟩:=(q5 i _ e' (List.getElem?_eq_getElem W) f).get jj x' S;let⟨u,u1,u2,u3⟩:=H.cells i _ jj x (List.getElem?_eq_getElem W) ac;let⟨p1,p2⟩:=qxc (D.plain e' (wb f) x' (wb S));refine⟨u,?_,qoC (Γ:={d with mem:=m}) (λ _ _ _ h=>h) (U _ _ u2) p1 p2,u3⟩;have ab:K.cell? ⟨d.cur j,d.of j+(i*Q.k+jj),none⟩=some u:=u1;show K.cell? ⟨_,0+(i*R.k+jj),none⟩=_;rw[G,<-T,<-O];exact ab
        .rw[A]at q;rw[G];exact H.nbx q _ (C f)
  .intro r r' s aj ak z1 z2;by_cases e1:r<σ0.rw.length
   .exact absurd (v e1) z1
   by_cases e2:r'<σ0.rw.length
   .exact absurd (v e2) z2
   let⟨j,R,Q,a1,a2,_,a4,a5⟩:=B e1 z1;let⟨j',R',Q',b1,b2,_,b4,b5⟩:=B e2 z2;rw[a4,b4];refine I.apart j j' (by rw[I.nr];exact getElem?_lt a2) (by rw[I.nr];exact getElem?_lt b2) (λ g=>?_) (by rw[<-a5];exact z1) (by rw[<-b5];exact z2);subst g;have:=hd _ _ _ _ _ a1 b1;omega
end Go.AmZ
namespace Go.AmZ
open Go Go.RowKit Go.GxZ
def zj{a:Type}(f:List AV->Option a):List (List AV)->Option (List a)
 |[]=>some []
 |e::es=>match f e with
   |some v=>match zj f es with
     |some vs=>some (v::vs)
     |none=>none
   |none=>none
mutual
def qj1:AV->Option (List T)
 |.v (.slice none 0 0)=>some []
 |.sl 4 es (_+1)=>qw2 es
 |_=>none
def qw2:List (List AV)->Option (List T)
 |[]=>some []
 |e::es=>match Jh e with
   |some t=>match qw2 es with
     |some l=>some (t::l)
     |none=>none
   |none=>none
def Jh:List AV->Option T
 |[.v (.int .i64 k),.v (.string n),.v (.int .i64 s),x]=>match qj1 x with
   |some l=>some (.mk k n.data.toList s l)
   |none=>none
 |_=>none
end
def full{a:Type}:Option (a×List AV)->Option a
 |some (v,[])=>some v
 |_=>none
def jh(k:Nat){a:Type}(f:List AV->Option a):AV->Option (List a)
 |.v (.slice none 0 0)=>some []
 |.sl b es (_+1)=>match zm b k with
   |true=>zj f es
   |false=>none
 |_=>none
def JA(k:IntKind):List AV->Option (Int×List AV)
 |.v (.int a n)::r=>match decide (a=k)with
   |true=>some (n,r)
   |false=>none
 |_=>none
def qc9:List AV->Option (Bool×List AV)
 |.v (.bool b)::r=>some (b,r)
 |_=>none
def qdn:List AV->Option (List UInt8×List AV)
 |.v (.string s)::r=>some (s.data.toList,r)
 |_=>none
def JR:List AV->Option (T×List AV)
 |a::b::c::d::r=>match Jh [a,b,c,d]with
   |some t=>some (t,r)
   |none=>none
 |_=>none
def yG{a:Type}(b:AV->Option a):List AV->Option (a×List AV)
 |x::r=>match b x with
   |some l=>some (l,r)
   |none=>none
 |_=>none
def qbo{d c:Type}(f:List AV->Option d)(g:List AV->Option c):List (List AV)->List (List AV)->Option (List (d×c))
 |[],[]=>some []
 |k::ks,v::vs=>match f k,g v with
   |some a,some b=>match qbo f g ks vs with
     |some l=>some ((a,b)::l)
     |none=>none
   |_,_=>none
 |_,_=>none
def dMc{d c:Type}(a b:Ty)(f:List AV->Option d)(g:List AV->Option c):AV->Option (List (d×c))
 |.mc h i e ks vs=>match decide (h=kcT a)&&(Je i a.agg&&Je e b.agg)with
   |true=>qbo f g ks vs
   |false=>none
 |_=>none
def yM:(τ:Ty)->List AV->Option (Val τ×List AV)
 |.int k=>JA k
 |.bool=>qc9
 |.str=>qdn
 |.term=>JR
 |.list a=>yG (jh a.size (λ e=>full (yM a e)))
 |.pair a b=>qpF (yM a) (yM b)
 |.one a=>yM a
 |.map a b=>yG (dMc a b (λ e=>full (yM a e)) (λ e=>full (yM b e)))
def qE(τ:Ty)(e:List AV):Option (Val τ):=full (yM τ e)
def dlist(τ:Ty)(x:AV):Option (List (Val τ)):=jh τ.size (qE τ) x
mutual
def JX:T->List AV
 |.mk k n s l=>[.v (.int .i64 k),.v (.string ⟨n.toArray⟩),.v (.int .i64 s),.sl 4 (qpo l) 1]
def qpo:List T->List (List AV)
 |[]=>[]
 |t::l=>JX t::qpo l
end
def qd:(τ:Ty)->Val τ->List AV
 |.int k,n=>[.v (.int k n)]
 |.bool,b=>[.v (.bool b)]
 |.str,s=>[.v (.string ⟨s.toArray⟩)]
 |.term,t=>JX t
 |.list a,l=>[.sl a.size (l.map (qd a)) 1]
 |.pair a b,p=>qd a p.1++qd b p.2
 |.one a,v=>qd a v
 |.map a b,l=>[.mc (kcT a) a.agg b.agg (l.map λ p=>qd a p.1) (l.map λ p=>qd b p.2)]
def yQ:(τ:Ty)->Val τ->AV
 |.int k,n=>.v (.int k n)
 |.bool,b=>.v (.bool b)
 |.str,s=>.v (.string ⟨s.toArray⟩)
 |.list a,l=>.sl a.size (l.map (qd a)) 1
 |.term,t=>.agg (qd .term t)
 |.pair a b,p=>.agg (qd (.pair a b) p)
 |.one a,v=>.agg (qd (.one a) v)
 |.map a b,l=>.mc (kcT a) a.agg b.agg (l.map λ p=>qd a p.1) (l.map λ p=>qd b p.2)
theorem jg{a:Type}{f:List AV->Option a}{e:List AV}{es:List (List AV)}{l:List a}:zj f (e::es)=some l↔∃v vs,f e=some v/\zj f es=some vs/\l=v::vs:=by
 grind [zj]
theorem zf{a:Type}{f:List AV->Option a}:∀{es:List (List AV)}{l:List a},zj f es=some l->es.length=l.length
 |[],l,h=>by cases h;rfl
 |e::es,l,h=>by
   obtain⟨v,vs,_,b,rfl⟩:=jg.1 h;simp[zf b]
theorem qgM{b:Type}{f:List AV->Option b}:∀{es:List (List AV)}{l:List b},zj f es=some l->∀{i:Nat}{v:b},l[i]?=some v->∃e,es[i]?=some e/\f e=some v
 |[],l,h,i,v,a=>by cases h;simp at a
 |e::es,l,h,i,v,a=>by
   obtain⟨w,vs,d,c,rfl⟩:=jg.1 h;cases i with
   |zero=>simp at a;subst a;exact⟨e,rfl,d⟩
   |succ i=>exact qgM c (by simpa using a)
theorem JO{b:Type}{f:List AV->Option b}:∀{es:List (List AV)}{l:List b},zj f es=some l->∀{i:Nat}{e:List AV},es[i]?=some e->∃v,l[i]?=some v/\f e=some v
 |[],l,h,i,v,a=>by simp at a
 |e::es,l,h,i,v,a=>by
   obtain⟨w,vs,d,c,rfl⟩:=jg.1 h;cases i with
   |zero=>simp at a;subst a;exact⟨w,rfl,d⟩
   |succ i=>exact JO c (by simpa using a)
theorem J0{b:Type}{f:List AV->Option b}:∀{es a:List (List AV)}{l m:List b},zj f es=some l->zj f a=some m->zj f (es++a)=some (l++m)
 |[],a,l,m,h,g=>by cases h;exact g
 |e::es,a,l,m,h,g=>by
   obtain⟨v,vs,d,c,rfl⟩:=jg.1 h;exact jg.2 ⟨v,vs++m,d,J0 c g,rfl⟩
theorem qg8{a:Type}{f:List AV->Option a}:∀(n:Nat) {es:List (List AV)}{l:List a},zj f es=some l->zj f (es.take n)=some (l.take n)
 |0,es,l,h=>by simp;rfl
 |n+1,[],l,h=>by cases h;rfl
 |n+1,e::es,l,h=>by
   obtain⟨v,vs,c,b,rfl⟩:=jg.1 h;exact jg.2 ⟨v,vs.take n,c,qg8 n b,rfl⟩
theorem qeR{a:Type}{f:List AV->Option a}:∀(n:Nat) {es:List (List AV)}{l:List a},zj f es=some l->zj f (es.drop n)=some (l.drop n)
 |0,es,l,h=>by simpa using h
 |n+1,[],l,h=>by cases h;rfl
 |n+1,e::es,l,h=>by
   obtain⟨v,vs,c,b,rfl⟩:=jg.1 h;simpa using qeR n b
theorem qbQ{a:Type}{f:List AV->Option a}{g:a->List AV}(h:∀v,f (g v)=some v):∀l:List a,zj f (l.map g)=some l
 |[]=>rfl
 |v::l=>jg.2 ⟨v,l,h v,qbQ h l,rfl⟩
theorem qps:∀es:List (List AV),qw2 es=zj Jh es
 |[]=>rfl
 |e::es=>by
   rw[qw2,zj,qps es];grind
theorem qS{a:Type}{x:Option (a×List AV)}{v:a}:full x=some v↔x=some (v,[]):=by
 unfold full;grind
theorem qji{cs:List AV}{t:T}(h:Jh cs=some t):∃k n s x l,cs=[.v (.int .i64 k),.v (.string n),.v (.int .i64 s),x]/\qj1 x=some l/\t=.mk k n.data.toList s l:=by
 unfold Jh at h;grind
theorem qzY(e:List AV):qE .term e=Jh e:=by
 show full (JR e)=Jh e;unfold JR;split
 .rename_i a b c d r;cases r with
  |nil=>
    cases f:Jh [a,b,c,d]with
    |none|some t=>rfl
  |cons x r=>
    have g:Jh (a::b::c::d::x::r)=none:=by
     grind [Jh]
    rw[g];cases f:Jh [a,b,c,d]with
    |none|some t=>rfl
 .rename_i h;cases f:Jh e with
  |none=>rfl
  |some t=>
    grind [qji]
theorem qkt(x:AV):dlist .term x=qj1 x:=by
 have a:(qE .term:List AV->Option T)=Jh:=funext qzY;unfold dlist jh qj1;grind [zm,Ty.size,qps]
theorem qFR{es c:List (List AV)}{k f:Nat}(D:0<f)(q:es.length=c.length)(C:∀e∈c,e.length=k)(B:∀e∈c,∀x∈e,qu x=true)
  (A:∀(i:Nat) (e d:List AV),es[i]?=some e->c[i]?=some d->QO e d):Sub (.sl k es f) (.sl k c 1):=by
 intro Γ u z;cases z with
 |sl k es f a n cap b o us H G M L K F J I E=>
   have get:∀(i:Nat) (d:List AV) (j:Nat) (y:AV),c[i]?=some d->d[j]?=some y->∃e x,es[i]?=some e/\e[j]?=some x/\Sub x y:=by
    intro i d j y l p;have m:i<es.length:=by rw[q];exact getElem?_lt l
    have r:=List.getElem?_eq_getElem m;let⟨x,w,g⟩:=(A i _ d r l).get j y p;exact⟨_,x,r,w,g⟩
   refine .sl k c 1 a n cap b o us (by rw[H,q]) (λ _=>G D) (λ h=>absurd h (by decide)) C B F ?_ ?_ ?_
   .grind
   .grind
   .intro i d j y l p;let⟨e,x,v,t,s⟩:=get i d j y l p;exact s Γ _ (E i e j x v t)
theorem qBH(k:Nat)(b:0<k):Sub (.v (.slice none 0 0)) (.sl k [] 1):=by
 intro Γ u a;have:=zq a;subst this;exact .sl k [] 1 none 0 0 0 0 (λ _ _=>undef) rfl (λ _=>wa _) (λ h=>absurd h (by decide)) (by simp) (by simp) b (.inl rfl) (by simp) (by simp)
theorem qlO:∀l:List T,qpo l=l.map JX
 |[]=>rfl
 |t::l=>by rw[qpo,qlO l];rfl
theorem qzJ(t:T):(JX t).length=4:=by let⟨k,n,s,l⟩:=t;rw[JX];rfl
theorem qtD(t:T):∀x∈JX t,qu x=true:=by
 let⟨k,n,s,l⟩:=t;intro x a;rw[JX]at a;simp at a;obtain rfl|rfl|rfl|rfl:=a<;>rfl
theorem yi:∀(τ:Ty) (v:Val τ),(qd τ v).length=τ.size
 |.int _,_|.bool,_|.str,_=>rfl
 |.term,t=>qzJ t
 |.list _,_=>rfl
 |.pair a b,p=>by rw[qd,wd,yi a,yi b];rfl
 |.one a,v=>by rw[qd,yi a];rfl
 |.map _ _,_=>rfl
theorem zr:∀(τ:Ty) (v:Val τ),∀x∈qd τ v,qu x=true
 |.int _,_,x,h|.bool,_,x,h|.str,_,x,h=>by simp[qd]at h;subst h;rfl
 |.term,t,x,h=>qtD t x h
 |.list _,_,x,h=>by simp[qd]at h;subst h;rfl
 |.pair a b,p,x,h=>by
   rw[qd]at h;obtain h|h:=wk.1 h
   .exact zr a _ x h
   .exact zr b _ x h
 |.one a,v,x,h=>zr a v x h
 |.map _ _,_,x,h=>by simp[qd]at h;subst h;rfl
theorem qQO(t:T):∀cs,Jh cs=some t->QO cs (JX t)/\∀x∈cs,qu x=true:=by
 refine T.ind (P:=λ t=>∀cs,Jh cs=some t->QO cs (JX t)/\∀x∈cs,qu x=true) ?_ t;intro t m cs h;obtain⟨k,n,s,x,l,rfl,b,rfl⟩:=qji h;have o:(⟨n.data.toList.toArray⟩:ByteArray)=n:=by cases n;simp
 have c:Sub x (.sl 4 (qpo l) 1)/\qu x=true:=by
  unfold qj1 at b;split at b
  .cases b;rw[qpo];exact⟨qBH 4 (by decide),rfl⟩
  .rename_i es q;refine⟨?_,rfl⟩;rw[qps]at b;rw[qlO];refine qFR (xC _) (by rw[zf b,wB]) ?_ ?_ ?_
   .grind [qzJ]
   .grind [qtD]
   .intro i e r p a;let⟨g,d,j⟩:=JO b p;rw[List.getElem?_map,d]at a;simp at a;subst a;exact(m g (wb d) e j).1
  .cases b
 refine⟨?_,?_⟩
 .rw[JX,o];exact .cons (.refl _) (.cons (.refl _) (.cons (.refl _) (.cons c.1 .nil)))
 .intro y f;simp at f;obtain rfl|rfl|rfl|rfl:=f
  .rfl
  .rfl
  .rfl
  .exact c.2
theorem QO.append:∀{a b c d:List AV},QO a b->QO c d->QO (a++c) (b++d)
 |_,_,_,_,.nil,g=>g
 |_,_,_,_,.cons h t,g=>.cons h (t.append g)
theorem Ty.size_pos:∀τ:Ty,0<τ.size
 |.int _|.bool|.str=>Nat.one_pos
 |.term=>by decide
 |.list _=>Nat.one_pos
 |.pair a b=>wC (Ty.size_pos a) (kK _ _)
 |.one a=>Ty.size_pos a
 |.map _ _=>Nat.one_pos
theorem QH{σ b a:Type}{p:List σ->Option (b×List σ)}{q:List σ->Option (a×List σ)}{cs:List σ}{v:b×a}{r:List σ}:qpF p q cs=some (v,r)↔∃c,p cs=some (v.1,c)/\q c=some (v.2,r):=by
 grind [qpF]
theorem qfJ:∀(τ:Ty) {cs:List AV}{v:Val τ}{r:List AV} (s:List AV),yM τ cs=some (v,r)->yM τ (cs++s)=some (v,r++s)
 |.int k,cs,v,r,s,h=>by
   change JA k cs=_ at h;show JA k (cs++s)=_;unfold JA at h;grind [JA]
 |.bool,cs,v,r,s,h=>by
   change qc9 cs=_ at h;unfold qc9 at h;split at h<;>cases h;rfl
 |.str,cs,v,r,s,h=>by
   change qdn cs=_ at h;unfold qdn at h;split at h<;>cases h;rfl
 |.term,cs,v,r,s,h=>by
   change JR cs=_ at h;unfold JR at h;split at h<;>try cases h
   split at h<;>cases h;rename_i c;show JR _=_;grind [JR]
 |.list a,cs,v,r,s,h=>by
   change yG _ cs=_ at h;unfold yG at h;split at h<;>try cases h
   split at h<;>cases h;rename_i c;show yG _ _=_;grind [yG]
 |.pair a b,cs,v,r,s,h=>by
   let⟨f,e,d⟩:=QH.1 h;exact QH.2 ⟨_,qfJ a s e,qfJ b s d⟩
 |.one a,cs,v,r,s,h=>qfJ a s h
 |.map a b,cs,v,r,s,h=>by
   change yG _ cs=_ at h;unfold yG at h;split at h<;>try cases h
   split at h<;>cases h;rename_i c;show yG _ _=_;grind [yG]
theorem qcK{e d:Type}{a b:Ty}{f:List AV->Option e}{g:List AV->Option d}{x:AV}{l:List (e×d)}(h:dMc a b f g x=some l):∃ks vs,x=.mc (kcT a) a.agg b.agg ks vs/\qbo f g ks vs=some l:=by
 unfold dMc at h;split at h<;>try cases h
 split at h<;>try cases h
 rename_i c;rw[wc,wc]at c;rw[of_decide_eq_true c.1,qdH c.2.1,qdH c.2.2];exact⟨_,_,rfl,h⟩
theorem qDB{d c:Type}{a b:Ty}{f:List AV->Option d}{g:List AV->Option c}{ks vs:List (List AV)}:dMc a b f g (.mc (kcT a) a.agg b.agg ks vs)=qbo f g ks vs:=by
 have e:∀x,Je x x=true:=λ x=>by cases x<;>rfl
 simp only[dMc,decide_true,e,kR]
theorem qO9{b:List KC}{c a:Bool}{ks vs:List (List AV)}(y:AV):Sub (.mc b c a ks vs) y:=λ Γ u h=>(qJz h).elim
theorem yc:∀(τ:Ty) {cs:List AV}{v:Val τ}{r:List AV},yM τ cs=some (v,r)->∃pre,cs=pre++r/\pre.length=τ.size/\(∀x∈pre,qu x=true)/\QO pre (qd τ v)/\yM τ pre=some (v,[])
 |.int k,cs,v,r,h=>by
   change JA k cs=_ at h;unfold JA at h;split at h<;>try cases h
   split at h<;>cases h;rename_i g;have l:=of_decide_eq_true g;subst l;exact⟨[_],rfl,rfl,by simp[qu],.refl _,by show JA _ _=_;simp[JA]⟩
 |.bool,cs,v,r,h=>by
   change qc9 cs=_ at h;unfold qc9 at h;split at h<;>cases h;exact⟨[_],rfl,rfl,by simp[qu],.refl _,rfl⟩
 |.str,cs,v,r,h=>by
   change qdn cs=_ at h;unfold qdn at h;split at h<;>cases h;rename_i s;have D:(⟨s.data.toList.toArray⟩:ByteArray)=s:=by cases s;simp
   exact⟨[_],rfl,rfl,by simp[qu],by rw[qd,D];exact .refl _,rfl⟩
 |.term,cs,v,r,h=>by
   change JR cs=_ at h;unfold JR at h;split at h<;>try cases h
   split at h<;>cases h;rename_i c;let⟨o,m⟩:=qQO _ _ c;exact⟨_,rfl,rfl,m,o,by show JR _=_;simp only[JR,c]⟩
 |.list a,cs,v,r,h=>by
   change yG _ cs=_ at h;unfold yG at h;split at h<;>try cases h
   rename_i x A;split at h<;>cases h;rename_i c;refine⟨[x],rfl,rfl,?_,?_,by show yG _ _=_;simp only[yG,c]⟩
   .intro y f;simp at f;subst f;unfold jh at c;split at c
    .rfl
    .rfl
    .cases c
   .rw[qd];refine .cons ?_ .nil;unfold jh at c;split at c
    .grind [qBH,Ty.size_pos]
    .rename_i L es n;split at c
     .rename_i g;have g:=of_decide_eq_true g;subst g;refine qFR (xC _) (by rw[zf c,wB]) ?_ ?_ ?_
      .grind [yi]
      .grind [zr]
      .intro i e M E d;let⟨w,t,q⟩:=JO c E;rw[List.getElem?_map,t]at d;simp at d;subst d;let⟨pre,K,_,_,J,_⟩:=yc a (qS.1 q);grind
     .cases c
    .cases c
 |.pair a b,cs,v,r,h=>by
   let⟨I,o,m⟩:=QH.1 h;let⟨p,e1,C,t,z,H⟩:=yc a o;let⟨j,F,B,q,u,G⟩:=yc b m;refine⟨p++j,by rw[e1,F,wj],by rw[wd,C,B];rfl,?_,by rw[qd];exact z.append u,?_⟩
   .grind
   .exact QH.2 ⟨j,by have:=qfJ a j H;simpa using this,G⟩
 |.one a,cs,v,r,h=>yc a h
 |.map a b,cs,v,r,h=>by
   change yG _ cs=_ at h;unfold yG at h;split at h<;>try cases h
   rename_i x A;split at h<;>cases h;rename_i c;refine⟨[x],rfl,rfl,?_,?_,by show yG _ _=_;simp only[yG,c]⟩
   .obtain⟨ks,vs,rfl,_⟩:=qcK c;intro y f;simp at f;subst f;rfl
   .obtain⟨ks,vs,rfl,_⟩:=qcK c;rw[qd];exact .cons (qO9 _) .nil
theorem qI3(t:T):Jh (JX t)=some t:=by
 refine T.ind (P:=λ t=>Jh (JX t)=some t) ?_ t;intro t c;let⟨k,n,s,l⟩:=t
 have:qw2 (qpo l)=some l:=by
  rw[qps,qlO];have c:∀x∈l,Jh (JX x)=some x:=c
  have a:∀m:List T,(∀x∈m,Jh (JX x)=some x)->zj Jh (m.map JX)=some m:=by
   intro m
   induction m with
   |nil=>intro _;rfl
   |cons x m b=>intro h;exact jg.2 ⟨x,m,h x (wh ..),b λ y d=>h y (wg _ d),rfl⟩
  exact a l c
 rw[JX,Jh,qj1,this]
theorem qdc:∀(τ:Ty) (v:Val τ),yM τ (qd τ v)=some (v,[])
 |.int k,v=>by show JA k [_]=_;simp[JA]
 |.bool,v=>rfl
 |.str,v=>by show qdn _=_;simp[qdn,qd]
 |.term,t=>by
   have:=qzY (JX t);rw[qI3]at this;exact qS.1 this
 |.list a,l=>by
   have c:zj (λ e=>full (yM a e)) (l.map (qd a))=some l:=qbQ (λ v=>by rw[qdc a v];rfl) l;show yG _ [_]=_;grind [yG,jh,zm]
 |.pair a b,v=>QH.2 ⟨_,qfJ a _ (qdc a v.1),by rw[kW];exact qdc b v.2⟩
 |.one a,v=>qdc a v
 |.map a b,l=>by
   have c:∀l:List (Val a×Val b),qbo (λ e=>full (yM a e)) (λ e=>full (yM b e)) (l.map λ p=>qd a p.1) (l.map λ p=>qd b p.2)=some l:=by
    intro l
    induction l with
    |nil=>rfl
    |cons p l d=>
      have e1:full (yM a (qd a p.1))=some p.1:=by rw[qdc a p.1];rfl
      have f:full (yM b (qd b p.2))=some p.2:=by rw[qdc b p.2];rfl
      simp only[wo,qbo,e1,f,d]
   show yG _ [_]=_;simp only[yG,qDB,c]
theorem qsI:∀(j:Ty) {cs:List AV}{v:Val j}{r:List AV},yM j cs=some (v,r)->∃pre,cs=pre++r/\((∀x∈pre,∃c,ym [c] [x]=true)->pre=qd j v)
 |.int k,cs,v,r,h=>by
   change JA k cs=_ at h;unfold JA at h;split at h<;>try cases h
   split at h<;>cases h;rename_i y;exact⟨[_],rfl,λ _=>by rw[of_decide_eq_true y];rfl⟩
 |.bool,cs,v,r,h=>by
   change qc9 cs=_ at h;unfold qc9 at h;split at h<;>cases h;exact⟨[_],rfl,λ _=>rfl⟩
 |.str,cs,v,r,h=>by
   change qdn cs=_ at h;unfold qdn at h;split at h<;>cases h;rename_i s;have w:(⟨s.data.toList.toArray⟩:ByteArray)=s:=by cases s;simp
   exact⟨[_],rfl,λ _=>by rw[qd,w]⟩
 |.term,cs,v,r,h=>by
   change JR cs=_ at h;unfold JR at h;split at h<;>try cases h
   split at h<;>cases h;rename_i f;obtain⟨k,n,s,x,l,e,i,rfl⟩:=qji f;cases e;refine⟨[_,_,_,_],rfl,λ d=>?_⟩;let⟨c,g⟩:=d _ (wg _ (wg _ (wg _ (wh ..))));unfold qj1 at i;split at i<;>(try cases i)<;>cases c<;>cases g
 |.list a,cs,v,r,h=>by
   change yG _ cs=_ at h;unfold yG at h;split at h<;>try cases h
   rename_i x o;split at h<;>cases h;rename_i f;refine⟨[x],rfl,λ d=>?_⟩;let⟨c,g⟩:=d x (by simp);unfold jh at f;split at f<;>(try cases f)<;>cases c<;>cases g
 |.pair a b,cs,v,r,h=>by
   let⟨B,i,z⟩:=QH.1 h;let⟨p,e1,u⟩:=qsI a i;let⟨q,A,t⟩:=qsI b z;exact⟨p++q,by rw[e1,A,wj],λ d=>by rw[qd,u λ x m=>d x (wk.2 (.inl m)),t λ x m=>d x (wk.2 (.inr m))]⟩
 |.one a,cs,v,r,h=>qsI a h
 |.map a b,cs,v,r,h=>by
   change yG _ cs=_ at h;unfold yG at h;split at h<;>try cases h
   rename_i x o;split at h<;>cases h;rename_i f;refine⟨[x],rfl,λ d=>?_⟩;let⟨c,g⟩:=d x (by simp);obtain⟨ks,vs,rfl,_⟩:=qcK f;cases c<;>cases g
theorem qEi:∀{b:List KC}{k:List AV},ym b k=true->∀x∈k,∃c,ym [c] [x]=true
 |[],[],_,x,a=>by cases a
 |[],_::_,h,_,_=>by cases h
 |c::b,k,h,x,a=>by
   obtain⟨y,r,rfl,e,d⟩:=qep h;obtain rfl|a:=wx.1 a
   .exact⟨c,e⟩
   .exact qEi d x a
theorem qNU{a:Ty}{b:List KC}{k:List AV}{v:Val a}(h:qE a k=some v)(c:ym b k=true):k=qd a v:=by
 let⟨pre,e,o⟩:=qsI a (qS.1 h);grind [qEi]
theorem qkQ{d c:Type}{f:List AV->Option d}{g:List AV->Option c}:∀{ks vs:List (List AV)}{l:List (d×c)},qbo f g ks vs=some l->ks.length=l.length/\vs.length=l.length
 |[],[],l,h=>by cases h;exact⟨rfl,rfl⟩
 |[],_::_,l,h|_::_,[],l,h=>by cases h
 |k::ks,v::vs,l,h=>by
   simp only[qbo]at h;split at h<;>try cases h
   split at h<;>cases h;rename_i e;let⟨a,b⟩:=qkQ e;simp[a,b]
theorem qt4{i e:Type}{f:List AV->Option i}{g:List AV->Option e}:∀{ks vs:List (List AV)}{l:List (i×e)},qbo f g ks vs=some l->∀{j:Nat}{k v:List AV},ks[j]?=some k->vs[j]?=some v->∃p,l[j]?=some p/\f k=some p.1/\g v=some p.2
 |[],[],l,h,j,k,v,c,d=>by simp at c
 |[],_::_,l,h,_,_,_,_,_|_::_,[],l,h,_,_,_,_,_=>by cases h
 |k::ks,v::vs,l,h,j,r,q,c,d=>by
   simp only[qbo]at h;split at h<;>try cases h
   rename_i a b o n;split at h<;>cases h;rename_i m;cases j with
   |zero=>simp at c d;subst c;subst d;exact⟨_,rfl,o,n⟩
   |succ j=>exact qt4 m (by simpa using c) (by simpa using d)
abbrev waI:=@Ty.size_pos
end Go.AmZ
namespace Go.AmZ
open Go Go.RowKit Go.GxZ
structure Mp where
 b:Nat->Nat
 nb:Nat
 r:Nat->Option Nat
 v:Nat->Nat
 q:Nat->List (List AV)
 rw:List qL
def mp0:Mp:=⟨λ _=>0,0,λ _=>none,λ _=>0,λ _=>[],[]⟩
def lvl:AV->Nat
 |.v _=>2
 |.sl _ _ n=>n
 |_=>0
def JT(r:Option Nat)(v:Nat)(τ:Ty)(l:List (Val τ))(y:AV):Prop:=match r with
 |some r=>y=.rs r 0 l.length v false
 |none=>dlist τ y=some l/\2<=lvl y
def qtX(y:AV):Prop:=y=.v (.slice none 0 0)\/(∃k es n,y=.sl k es n)\/∃r lo n a f,y=.rs r lo n a f
theorem qJn{τ:Ty}{y:AV}{l:List (Val τ)}(h:dlist τ y=some l):qtX y:=by
 unfold dlist jh at h;split at h
 .exact .inl rfl
 .exact .inr (.inl ⟨_,_,_,rfl⟩)
 .cases h
theorem JT.ish{r:Option Nat}{v:Nat}{τ:Ty}{l:List (Val τ)}{y:AV}(h:JT r v τ l y):qtX y:=by
 cases r with
 |some r=>exact .inr (.inr ⟨_,_,_,_,_,h⟩)
 |none=>exact qJn h.1
def qwk(m:Mp)(id a:Nat)(y:AV):Prop:=
 ∃R,m.rw[id]?=some R/\a<=R.ver/\qtX y/\(R.ver=a->JT (m.r id) (m.v id) R.τ R.l y)
mutual
def OK(m:Mp):TV->AV->Prop
 |.i k n,y=>y=.v (.int k n)
 |.b x,y=>y=.v (.bool x)
 |.s x,y=>y=.v (.string ⟨x.toArray⟩)
 |.c v,y=>zF v=true/\y=.v v
 |.nil,y=>y=.v (.slice none 0 0)
 |.sl τ l g,y=>dlist τ y=some l/\g<=lvl y
 |.row id a,y=>qwk m id a y
 |.ptr b o,y=>b<m.nb/\y=.ptr (m.b b) o
 |.pti b i,y=>b<m.nb/\0<=i/\y=.ptr (m.b b) i.toNat
 |.rpt id a d i cs o,y=>∃R,m.rw[id]?=some R/\a<=R.ver/\d<=R.sv/\((∃r j h,y=.rpt r j o h)\/∃ds,y=.ept ds o)/\(R.ver=a->(∃r j,m.r id=some r/\y=.rpt r j o (m.v id)/\i=((j:Nat):Int)/\j<R.l.length/\(R.sv=d->∃ds,(m.q id)[j]?=some ds/\OKL m cs ds))\/(m.r id=none/\0<R.l.length/\(R.sv=d->∃ds,y=.ept ds o/\OKL m cs ds)))
 |.ept cs o,y=>∃ds,y=.ept ds o/\OKL m cs ds
 |.fn f cs,y=>∃ds,y=.fn f ds/\OKL m cs ds
 |.agg cs,y=>∃ds,y=.agg ds/\OKL m cs ds
 |.tup cs,y=>∃ds,y=.tup ds/\OKL m cs ds
 |.dead,_=>True
 |.mp b,y=>b<m.nb/\y=.mp (m.b b)
 |.mc e τ l,y=>dMc e τ (qE e) (qE τ) y=some l
def OKL(m:Mp):List TV->List AV->Prop
 |[],ys=>ys=[]
 |x::xs,ys=>∃y r,ys=y::r/\OK m x y/\OKL m xs r
end
structure MLe (m m':Mp):Prop where
 nb:m.nb<=m'.nb
 b:∀i,i<m.nb->m'.b i=m.b i
 row:∀id R,m.rw[id]?=some R->∃R',m'.rw[id]?=some R'/\R.ver<=R'.ver/\R.sv<=R'.sv/\(R'.ver=R.ver->R'.l.length=R.l.length/\m'.r id=m.r id/\m'.v id=m.v id/\R'.τ=R.τ/\(R'.sv=R.sv->m'.q id=m.q id)/\(m.r id=none->∀y,dlist R.τ y=some R.l->dlist R'.τ y=some R'.l))
theorem MLe.refl(m:Mp):MLe m m:=⟨wa _,λ _ _=>rfl,λ _ R h=>⟨R,h,wa _,wa _,λ _=>⟨rfl,rfl,rfl,rfl,λ _=>rfl,λ _ _ h=>h⟩⟩⟩
theorem MLe.trans{a b c:Mp}(h:MLe a b)(g:MLe b c):MLe a c where
 nb:=wE h.nb g.nb
 b:=λ i f=>(g.b i (wC f h.nb)).trans (h.b i f)
 row:=λ id R l=>by
  let⟨d,p,o,n,m⟩:=h.row id R l;let⟨R2,s,r,g3,q⟩:=g.row id d p;refine⟨R2,s,wE o r,wE n g3,λ H=>?_⟩;have e1:d.ver=R.ver:=by omega
  have t:R2.ver=d.ver:=by omega
  let⟨F,j,E,D,C,B⟩:=m e1;let⟨A,z,x,w,v,u⟩:=q t;exact⟨A.trans F,z.trans j,x.trans E,w.trans D,λ G=>(v (by omega)).trans (C (by omega)),λ e y k=>u (j.trans e) y (B e y k)⟩
theorem qwk.mono{m m':Mp}(g:MLe m m'){id f:Nat}{y:AV}(h:qwk m id f y):qwk m' id f y:=by
 let⟨R,n,j,i,e⟩:=h;let⟨R',p,o,_,g3⟩:=g.row id R n;refine⟨R',p,wE j o,i,λ q=>?_⟩;have e1:R'.ver=R.ver:=by omega
 let⟨a,b,c,d,_,k⟩:=g3 e1;have e:=e (by omega);rw[b,c];revert e k;cases m.r id with
 |some r=>
   intro _ e;show y=.rs r 0 R'.l.length (m.v id) false;rw[a];exact e
 |none=>intro k e;exact⟨k rfl y e.1,e.2⟩
mutual
theorem OK.mono{m m':Mp}(e:MLe m m'):∀{x:TV}{y:AV},OK m x y->OK m' x y
 |.i ..,y,h|.b ..,y,h|.s ..,y,h|.c ..,y,h|.nil,y,h|.sl ..,y,h=>h
 |.row ..,y,h=>qwk.mono e h
 |.ptr b o,y,h=>⟨wC h.1 e.nb,by rw[e.b _ h.1];exact h.2⟩
 |.pti b i,y,h=>⟨wC h.1 e.nb,h.2.1,by rw[e.b _ h.1];exact h.2.2⟩
 |.rpt id w G _ cs o,y,h=>by
   let⟨R,k,g,u,D,C⟩:=h;let⟨R',F,E,v,g3⟩:=e.row id R k;refine⟨R',F,wE g E,wE u v,D,λ H=>?_⟩;have e1:R'.ver=R.ver:=by omega
   let⟨a,b,c,_,d,_⟩:=g3 e1;obtain⟨r,j,t,z,A,q,p⟩|⟨t,q,p⟩:=C (by omega)
   .refine .inl ⟨r,j,b.trans t,by rw[c];exact z,A,by rw[a];exact q,λ B=>?_⟩;let⟨ds,n,l⟩:=p (by omega);exact⟨ds,by rw[d (by omega)];exact n,OKL.mono e l⟩
   .refine .inr ⟨b.trans t,by rw[a];exact q,λ B=>?_⟩;let⟨ds,n,l⟩:=p (by omega);exact⟨ds,n,OKL.mono e l⟩
 |.ept cs o,y,⟨ds,k,g⟩|.fn f cs,y,⟨ds,k,g⟩|.agg cs,y,⟨ds,k,g⟩|.tup cs,y,⟨ds,k,g⟩=>⟨ds,k,OKL.mono e g⟩
 |.dead,y,h=>trivial
 |.mp b,y,h=>⟨wC h.1 e.nb,by rw[e.b _ h.1];exact h.2⟩
 |.mc ..,y,h=>h
theorem OKL.mono{m m':Mp}(a:MLe m m'):∀{xs:List TV}{ys:List AV},OKL m xs ys->OKL m' xs ys
 |[],ys,h=>h
 |x::xs,ys,⟨y,r,d,c,b⟩=>⟨y,r,d,OK.mono a c,OKL.mono a b⟩
end
theorem qNx{m:Mp}{R:qL}{id a o:Nat}{i:Int}{cs:List TV}{y:AV}(h:(∃r j,m.r id=some r/\y=.rpt r j o (m.v id)/\i=((j:Nat):Int)/\j<R.l.length/\(R.sv=a->∃ds,(m.q id)[j]?=some ds/\OKL m cs ds))\/(m.r id=none/\0<R.l.length/\(R.sv=a->∃ds,y=.ept ds o/\OKL m cs ds)))(b:R.sv=a):
  (∃r j ds,m.r id=some r/\y=.rpt r j o (m.v id)/\i=((j:Nat):Int)/\j<R.l.length/\(m.q id)[j]?=some ds/\OKL m cs ds)\/∃ds,m.r id=none/\y=.ept ds o/\0<R.l.length/\OKL m cs ds:=by
 grind
theorem OKL.nil(m:Mp):OKL m [] []:=rfl
theorem OKL.cons{m:Mp}{x:TV}{y:AV}{xs:List TV}{ys:List AV}(h:OK m x y)(g:OKL m xs ys):OKL m (x::xs) (y::ys):=⟨y,ys,rfl,h,g⟩
theorem OKL.len{m:Mp}:∀{xs:List TV}{ys:List AV},OKL m xs ys->ys.length=xs.length
 |[],_,h=>by cases h;rfl
 |_::_,_,⟨_,_,rfl,_,h⟩=>by simp[h.len]
theorem OKL.get{m:Mp}:∀{xs:List TV}{ys:List AV},OKL m xs ys->∀{i:Nat}{x:TV},xs[i]?=some x->∃y,ys[i]?=some y/\OK m x y
 |[],_,_,i,x,a=>by simp at a
 |_::_,_,⟨y,r,rfl,c,b⟩,0,x,a=>by simp at a;subst a;exact⟨y,rfl,c⟩
 |_::_,_,⟨y,r,rfl,c,b⟩,i+1,x,a=>by simpa using b.get (by simpa using a)
theorem OKL.append{m:Mp}:∀{xs:List TV}{ys:List AV}{b:List TV}{a:List AV},OKL m xs ys->OKL m b a->OKL m (xs++b) (ys++a)
 |[],_,_,_,h,g=>by cases h;exact g
 |_::_,_,_,_,⟨y,r,rfl,d,c⟩,g=>⟨y,_,rfl,d,c.append g⟩
theorem OKL.take{m:Mp}(n:Nat):∀{xs:List TV}{ys:List AV},OKL m xs ys->OKL m (xs.take n) (ys.take n):=by
 induction n with
 |zero=>intro xs ys _;simp;exact rfl
 |succ n a=>
   intro xs ys h;cases xs with
   |nil=>cases h;exact rfl
   |cons x xs=>obtain⟨y,r,rfl,c,b⟩:=h;exact⟨y,_,rfl,c,a b⟩
theorem OKL.drop{m:Mp}(n:Nat):∀{xs:List TV}{ys:List AV},OKL m xs ys->OKL m (xs.drop n) (ys.drop n):=by
 induction n with
 |zero=>intro xs ys h;simpa using h
 |succ n a=>
   intro xs ys h;cases xs with
   |nil=>cases h;exact rfl
   |cons x xs=>obtain⟨y,r,rfl,c,b⟩:=h;simpa using a b
theorem OKL.split{m:Mp}:∀{xs c:List TV}{ys:List AV},OKL m (xs++c) ys->∃a b,ys=a++b/\OKL m xs a/\OKL m c b
 |[],_,ys,h=>⟨[],ys,rfl,rfl,h⟩
 |_::_,_,_,⟨y,r,rfl,g,f⟩=>by
   obtain⟨a,b,rfl,e,d⟩:=f.split;exact⟨y::a,b,rfl,⟨y,a,rfl,g,e⟩,d⟩
theorem qzn{m:Mp}{v:Value}(h:zF v=true):OK m (qcQ v) (.v v):=by
 unfold qcQ;split
 .exact rfl
 .exact rfl
 .rename_i s;show AV.v (.string s)=.v (.string ⟨s.data.toList.toArray⟩);cases s;simp
 .exact rfl
 .rw[h];exact⟨h,rfl⟩
theorem qfd{m:Mp}:∀{l:List Value},l.all zF=true->OKL m (l.map qcQ) (l.map .v)
 |[],_=>rfl
 |x::l,h=>by
   rw[km,wc]at h;exact⟨_,_,rfl,qzn h.1,qfd h.2⟩
theorem Qe{m:Mp}(v:Value):OK m (qcQ v) (ofC v):=by
 unfold ofC;cases h:zF v with
 |true=>exact qzn h
 |false=>
   have:qcQ v=.dead:=by
    unfold qcQ;grind [zF]
   rw[this];trivial
theorem qHr{m:Mp}(v:Value):OK m (qDv v) (qsn v):=by
 cases v with
 |agg cs=>
   show OK m (match cs.toList.all zF with|true=>TV.agg (cs.toList.map qcQ)|false=>.dead) (match cs.toList.all zF with|true=>.agg (cs.toList.map .v)|false=>.dead);cases h:cs.toList.all zF with
   |true=>exact⟨_,rfl,qfd h⟩
   |false=>trivial
 |tuple vs=>
   show OK m (match vs.toList with|[]=>TV.tup []|_=>.dead) (match vs.toList with|[]=>.tup []|_=>.dead);cases vs.toList with
   |nil=>exact⟨_,rfl,rfl⟩
   |cons a l=>trivial
 |bool b=>exact Qe (.bool b)
 |int k n=>exact Qe (.int k n)
 |float k n=>exact Qe (.float k n)
 |complex k a b=>exact Qe (.complex k a b)
 |string s=>exact Qe (.string s)
 |pointer a=>exact Qe (.pointer a)
 |slice a n c=>exact Qe (.slice a n c)
 |map r=>exact Qe (.map r)
 |chan r=>exact Qe (.chan r)
 |func f a b=>exact Qe (.func f a b)
 |nilFunc=>exact Qe (.nilFunc)
 |iface t v=>exact Qe (.iface t v)
 |nilIface=>exact Qe (.nilIface)
def JF(σ:St)(R:qL)(b:Option Nat)(a:Nat)(d:List (List AV)):Prop:=match b with
 |some r=>∃Q,σ.rw[r]?=some Q/\Q.c=d/\Q.ver=a/\Q.k=R.τ.size/\zj (qE R.τ) Q.c=some R.l/\Q.fz<=Q.c.length/\(R.sh=false->Q.fz=0/\Q.off=false)
 |none=>R.sh=false->R.l=[]
def yX(m:Mp)(σ:St):Prop:=∀id R,m.rw[id]?=some R->JF σ R (m.r id) (m.v id) (m.q id)
structure Rel (N:Nat×Nat) (m:Mp) (E:Env) (τ:TS) (tm:List AV) (σ:St):Prop where
 len:tm.length=N.1
 env:∀t,OK m (get E t) (tm.getD t .dead)
 rw:m.rw=τ.rw
 nb:m.nb=τ.bx.length
 box:∀b cs,τ.bx[b]?=some cs->∃ds,σ.bx[m.b b]?=some ds/\OKL m cs ds
 inj:∀b b',b<m.nb->b'<m.nb->m.b b=m.b b'->b=b'
 rows:yX m σ
 rinj:∀id id' r,id<m.rw.length->id'<m.rw.length->m.r id=some r->m.r id'=some r->id=id'
 pin:∀i,i<N.2->i<m.nb/\m.b i=i
theorem qu8{m m':Mp}{n:Nat}(c:MLe m m')(h:∀i,i<n->i<m.nb/\m.b i=i):∀i,i<n->i<m'.nb/\m'.b i=i:=λ i a=>
 ⟨wC (h i a).1 c.nb,(c.b i (h i a).1).trans (h i a).2⟩
theorem Rel.ev{N:Nat×Nat}{m:Mp}{E:Env}{τ:TS}{a:List AV}{σ:St}(h:Rel N m E τ a σ)(x:Operand):OK m (evT E x) (aev a x):=by
 cases x with
 |tmp t=>exact h.env t
 |const v=>exact qHr v
 |func f=>exact⟨_,rfl,rfl⟩
 |global g=>trivial
theorem Rel.evs{N:Nat×Nat}{m:Mp}{E:Env}{τ:TS}{a:List AV}{σ:St}(h:Rel N m E τ a σ):∀l:List Operand,OKL m (l.map (evT E)) (l.map (aev a))
 |[]=>rfl
 |x::l=>⟨_,_,rfl,h.ev x,h.evs l⟩
theorem yR{τ:Ty}{y:AV}{l:List (Val τ)}(h:dlist τ y=some l):y=.v (.slice none 0 0)/\l=[]\/∃es n,y=.sl τ.size es (n+1)/\zj (qE τ) es=some l:=by
 unfold dlist jh at h;split at h
 .grind
 .rename_i k es n;split at h
  .rename_i a;have:=of_decide_eq_true a;simp_all
  .cases h
 .cases h
theorem OK.one{m:Mp}{x:TV}{y:AV}(h:OK m x y)(d:qiy x=true):isC y=true/\jL x=[x]/\cellsOf y=[y]:=by
 cases x with
 |i|b|s=>cases h;exact⟨rfl,rfl,rfl⟩
 |c=>obtain⟨_,rfl⟩:=h;exact⟨rfl,rfl,rfl⟩
 |nil=>cases h;exact⟨rfl,rfl,rfl⟩
 |sl τ l p=>
   let⟨h,_⟩:=h;obtain⟨rfl,_⟩|⟨es,n,rfl,_⟩:=yR h<;>exact⟨rfl,rfl,rfl⟩
 |row id a=>
   let⟨R,_,_,h,_⟩:=h;obtain rfl|⟨k,es,j,rfl⟩|⟨r,lo,n,e,f,rfl⟩:=h<;>exact⟨rfl,rfl,rfl⟩
 |ptr b o=>obtain⟨_,rfl⟩:=h;exact⟨rfl,rfl,rfl⟩
 |pti b i=>obtain⟨_,_,rfl⟩:=h;exact⟨rfl,rfl,rfl⟩
 |rpt id a g i cs o=>let⟨R,_,_,_,h,_⟩:=h;obtain⟨r,i,e,rfl⟩|⟨ds,rfl⟩:=h<;>exact⟨rfl,rfl,rfl⟩
 |ept cs o|fn f cs=>obtain⟨ds,rfl,_⟩:=h;exact⟨rfl,rfl,rfl⟩
 |agg cs|tup cs|dead=>simp[qiy]at d
 |mp b=>obtain⟨_,rfl⟩:=h;exact⟨rfl,rfl,rfl⟩
 |mc=>obtain⟨ks,vs,rfl,_⟩:=qcK h;exact⟨rfl,rfl,rfl⟩
theorem OKL.allC{m:Mp}:∀{xs:List TV}{ys:List AV},OKL m xs ys->xs.all qiy=true->ys.all isC=true
 |[],_,h,_=>by cases h;rfl
 |x::xs,_,⟨y,r,rfl,b,a⟩,h=>by
   rw[km,wc]at h;rw[km,(b.one h.1).1,a.allC h.2];rfl
theorem OK.cells{m:Mp}{x:TV}{y:AV}(h:OK m x y)(e:(jL x).all qiy=true):OKL m (jL x) (cellsOf y)/\(cellsOf y).all isC=true:=by
 have d:qiy x=true->OKL m (jL x) (cellsOf y)/\(cellsOf y).all isC=true:=by
  intro g;let⟨a,b,c⟩:=h.one g;rw[b,c];exact⟨⟨y,[],rfl,h,rfl⟩,by simp[a]⟩
 cases x with
 |agg cs=>
   obtain⟨ds,rfl,f⟩:=h;exact⟨f,f.allC e⟩
 |tup cs|dead=>simp[jL,qiy]at e
 |_=>exact d rfl
theorem qIm{x:AV}{l:List T}(h:qj1 x=some l):1<=lvl x:=by
 unfold qj1 at h;split at h
 .exact ko _
 .exact xy (we _)
 .cases h
theorem qml{τ:Ty}{y:AV}{l:List (Val τ)}(h:dlist τ y=some l):1<=lvl y:=by
 obtain⟨rfl,_⟩|⟨es,n,rfl,_⟩:=yR h
 .exact ko _
 .exact xy (we _)
theorem qoH{m:Mp}:∀(τ:Ty) {cs:List AV}{v:Val τ}{r:List AV},yM τ cs=some (v,r)->∃pre,cs=pre++r/\OKL m (JY τ v) pre
 |.int k,cs,v,r,h=>by
   change JA k cs=_ at h;unfold JA at h;split at h<;>try cases h
   split at h<;>cases h;rename_i o;have e:=of_decide_eq_true o;subst e;exact⟨[_],rfl,⟨_,_,rfl,rfl,rfl⟩⟩
 |.bool,cs,v,r,h=>by
   change qc9 cs=_ at h;unfold qc9 at h;split at h<;>cases h;exact⟨[_],rfl,⟨_,_,rfl,rfl,rfl⟩⟩
 |.str,cs,v,r,h=>by
   change qdn cs=_ at h;unfold qdn at h;split at h<;>cases h;rename_i s;exact⟨[_],rfl,⟨_,_,rfl,by show AV.v (.string s)=.v (.string ⟨s.data.toList.toArray⟩);cases s;simp,rfl⟩⟩
 |.term,cs,v,r,h=>by
   change JR cs=_ at h;unfold JR at h;split at h<;>try cases h
   split at h<;>cases h;rename_i c;obtain⟨k,n,s,x,l,j,d,rfl⟩:=qji c;cases j;refine⟨_,rfl,⟨_,_,rfl,rfl,_,_,rfl,?_,_,_,rfl,rfl,_,_,rfl,⟨?_,qIm d⟩,rfl⟩⟩
   .show AV.v (.string n)=.v (.string ⟨n.data.toList.toArray⟩);cases n;simp
   .rw[qkt];exact d
 |.list a,cs,v,r,h=>by
   change yG _ cs=_ at h;unfold yG at h;split at h<;>try cases h
   split at h<;>cases h;rename_i c;have c:dlist a _=some v:=c;exact⟨[_],rfl,⟨_,_,rfl,⟨c,qml c⟩,rfl⟩⟩
 |.pair a b,cs,v,r,h=>by
   let⟨u,d,q⟩:=QH.1 h;let⟨p,e1,i⟩:=qoH (m:=m) a d;let⟨f,t,g⟩:=qoH (m:=m) b q;exact⟨p++f,by rw[e1,t,wj],i.append g⟩
 |.one a,cs,v,r,h=>qoH (m:=m) a h
 |.map a b,cs,v,r,h=>by
   change yG _ cs=_ at h;unfold yG at h;split at h<;>try cases h
   split at h<;>cases h;rename_i c;exact⟨[_],rfl,⟨_,_,rfl,c,rfl⟩⟩
theorem Qb{m:Mp}{τ:Ty}{e:List AV}{v:Val τ}(h:qE τ e=some v):OKL m (JY τ v) e:=by
 let⟨pre,b,a⟩:=qoH (m:=m) τ (qS.1 h);grind
theorem jY(τ:Ty)(v:Val τ):qE τ (qd τ v)=some v:=qS.2 (qdc τ v)
theorem qsr{m:Mp}:∀(τ:Ty) (v:Val τ),OK m (qlL τ v) (yQ τ v)
 |.int k,v|.bool,v|.str,v=>rfl
 |.list a,v=>by
   have h:OKL m (JY (.list a) v) (qd (.list a) v):=Qb (jY (.list a) v);let⟨y,r,d,c,_⟩:=h;cases d;exact c
 |.term,v=>⟨_,rfl,Qb (jY .term v)⟩
 |.pair a b,v=>⟨_,rfl,Qb (jY (.pair a b) v)⟩
 |.one a,v=>⟨_,rfl,Qb (jY (.one a) v)⟩
 |.map a b,v=>by
   have h:OKL m (JY (.map a b) v) (qd (.map a b) v):=Qb (jY (.map a b) v);let⟨y,r,d,c,_⟩:=h;cases d;exact c
end Go.AmZ
namespace Go.AmZ
open Go Go.RowKit Go.GxZ
def qQG(τ:TS):Option TS->TS
 |none=>τ
 |some a=>a
def Sim{α:Type}(N:Nat×Nat)(m:Mp)(E:Env)(τ:TS)(tm:List AV)(σ:St)(K:KT α)(r:α)(p:Option (AV×Option St)):Prop:=
 ∃x a y σ' m',K x a=some r/\p=some (y,σ')/\MLe m m'/\Rel N m' E (qQG τ a) tm (turn σ σ')/\OK m' x y/\(a=none->σ'=none)
section
variable {α:Type}{N:Nat×Nat}{m:Mp}{E:Env}{τ:TS}{tm:List AV}{σ:St}{K:KT α}{r:α}{p:Option (AV×Option St)}
theorem Sim.same{x:TV}{y:AV}(a:Rel N m E τ tm σ)(h:K x none=some r)(b:p=some (y,none))(c:OK m x y):Sim N m E τ tm σ K r p:=
 ⟨x,none,y,none,m,h,b,.refl m,a,c,λ _=>rfl⟩
theorem Sim.to{x:TV}{y:AV}{a:TS}{σ':St}{m':Mp}(h:K x (some a)=some r)(b:p=some (y,some σ'))(e:MLe m m')(d:Rel N m' E a tm σ')(c:OK m' x y):Sim N m E τ tm σ K r p:=
 ⟨x,some a,y,some σ',m',h,b,e,d,c,λ h=>by cases h⟩
theorem Rel.box_lt(a:Rel N m E τ tm σ){b:Nat}(h:b<m.nb):m.b b<σ.bx.length:=by
 rw[a.nb]at h;let⟨ds,c,_⟩:=a.box b _ (List.getElem?_eq_getElem h);exact getElem?_lt c
theorem Rel.alloc(a:Rel N m E τ tm σ){cs:List TV}{ds:List AV}(q:OKL m cs ds):
  ∃m',MLe m m'/\Rel N m' E {τ with bx:=τ.bx++[cs]} tm {σ with bx:=σ.bx++[ds]}/\OK m' (.ptr τ.bx.length 0) (.ptr σ.bx.length 0):=by
 have c:MLe m {m with b:=λ i=>if i=m.nb then σ.bx.length else m.b i,nb:=m.nb+1}:=
  ⟨ko _,λ i p=>if_neg (vC p),λ id R h=>⟨R,h,wa _,wa _,λ _=>⟨rfl,rfl,rfl,rfl,λ _=>rfl,λ _ _ h=>h⟩⟩⟩
 refine⟨_,c,?_,?_⟩
 .refine⟨a.len,λ t=>(a.env t).mono c,a.rw,by show m.nb+1=_;rw[a.nb];simp,?_,?_,a.rows,a.rinj,qu8 c a.pin⟩
  .intro b cs' d;show ∃e,(σ.bx++[ds])[if b=m.nb then σ.bx.length else m.b b]?=some e/\_;by_cases j:b<τ.bx.length
   .rw[List.getElem?_append_left j]at d;let⟨e,o,r⟩:=a.box b cs' d;rw[if_neg (by rw[a.nb];omega),List.getElem?_append_left (getElem?_lt o)];exact⟨e,o,r.mono c⟩
   .have k:b<(τ.bx++[cs]).length:=getElem?_lt d;simp at k;have l:b=τ.bx.length:=by omega
    subst l;simp at d;subst d;rw[if_pos a.nb.symm];exact⟨ds,by simp,q.mono c⟩
  .intro b f d n g;change b<m.nb+1 at d;change f<m.nb+1 at n;change (if b=m.nb then σ.bx.length else m.b b)=(if f=m.nb then σ.bx.length else m.b f)at g;split at g<;>split at g
   .omega
   .have:=a.box_lt (b:=f) (by omega);omega
   .have:=a.box_lt (b:=b) (by omega);omega
   .exact a.inj b f (by omega) (by omega) g
 .refine⟨?_,?_⟩
  .show τ.bx.length<m.nb+1;rw[a.nb];exact xx _
  .show AV.ptr σ.bx.length 0=.ptr (if τ.bx.length=m.nb then σ.bx.length else m.b τ.bx.length) 0;rw[if_pos a.nb.symm]
theorem Rel.setBox(a:Rel N m E τ tm σ){b:Nat}{cs:List TV}{ds:List AV}(g:b<m.nb)(k:OKL m cs ds)(w:List Nat):Rel N m E {τ with bx:=τ.bx.set b cs} tm {σ with bx:=σ.bx.set (m.b b) ds,wr:=w}:=by
 refine⟨a.len,a.env,a.rw,by rw[a.nb];simp,?_,a.inj,a.rows,a.rinj,a.pin⟩;intro i cs' d;have c:i<m.nb:=by rw[a.nb];have:=getElem?_lt d;simpa using this
 by_cases f:i=b
 .subst f;have e:i<τ.bx.length:=by rw[<-a.nb];exact c
  simp only[List.getElem?_set_self e,wz]at d;subst d;exact⟨ds,by simp only[List.getElem?_set_self (a.box_lt g)],k⟩
 .simp only[List.getElem?_set_ne (xT f)]at d;let⟨l,p,o⟩:=a.box i cs' d;have j:m.b b≠m.b i:=λ h=>f (a.inj _ _ c g h.symm);grind
theorem Rel.rowsTo(a:Rel N m E τ tm σ){σ':St}(c:σ'.bx=σ.bx)(b:yX m σ'):Rel N m E τ tm σ':=
 ⟨a.len,a.env,a.rw,a.nb,by rw[c];exact a.box,a.inj,b,a.rinj,a.pin⟩
theorem qMo{r:Nat}{Q:Row}(f:Q.fz<=Q.c.length):∀(e:List Nat) {rw:List Row},rw[r]?=some Q->∃d,(frz rw e)[r]?=some d/\d.c=Q.c/\d.k=Q.k/\d.ver=Q.ver/\d.fz<=d.c.length:=by
 intro e
 induction e generalizing Q with
 |nil=>intro rw h;exact⟨Q,h,rfl,rfl,rfl,f⟩
 |cons a e n=>
   intro rw h
   have:∃b,(rw.modify a qlz)[r]?=some b/\b.c=Q.c/\b.k=Q.k/\b.ver=Q.ver/\b.fz<=b.c.length:=by
    rw[List.getElem?_modify,h];by_cases o:a=r
    .exact⟨qlz Q,by simp[o],rfl,rfl,rfl,Nat.max_le.2 ⟨f,wa _⟩⟩
    .grind
   let⟨b,t,s,g3,q,p⟩:=this;let⟨u,m,l,j,i,g⟩:=n (Q:=b) p t;exact⟨u,m,l.trans s,j.trans g3,i.trans q,g⟩
def shM(m:Mp):Mp:={m with rw:=m.rw.map λ R=>⟨R.τ,R.l,R.ver,R.sv,true⟩}
theorem qF0{id:Nat}{R:qL}(h:(shM m).rw[id]?=some R):∃a,m.rw[id]?=some a/\R=⟨a.τ,a.l,a.ver,a.sv,true⟩:=by
 change (m.rw.map _)[id]?=some R at h;grind
theorem qfI(m:Mp):MLe m (shM m):=by
 refine⟨wa _,λ _ _=>rfl,λ id R h=>⟨⟨R.τ,R.l,R.ver,R.sv,true⟩,?_,wa _,wa _,λ _=>⟨rfl,rfl,rfl,rfl,λ _=>rfl,λ _ _ h=>h⟩⟩⟩;show(m.rw.map _)[id]?=_;rw[List.getElem?_map,h];rfl
theorem yX.frz(h:yX m σ)(b w:List Nat):yX (shM m) {σ with rw:=frz σ.rw b,wrr:=w}:=by
 intro id R e;obtain⟨a,i,rfl⟩:=qF0 e;have:=h id a i;show match m.r id with|some r=>∃Q,(Go.AmZ.frz σ.rw b)[r]?=some Q/\Q.c=m.q id/\Q.ver=m.v id/\Q.k=a.τ.size/\zj (qE a.τ) Q.c=some a.l/\Q.fz<=Q.c.length/\(true=false->Q.fz=0/\Q.off=false)|none=>true=false->a.l=[]
 cases d:m.r id with
 |some r=>
   rw[d]at this;let⟨Q,g,p,o,n,j,f,_⟩:=this;let⟨y,x,u,g3,t,s⟩:=qMo f (rw:=σ.rw) b g;grind
 |none=>intro h;cases h
theorem yX.sh(h:yX m σ):yX (shM m) σ:=by
 intro id R d;obtain⟨a,e,rfl⟩:=qF0 d;have:=h id a e;show match m.r id with|some r=>∃Q,σ.rw[r]?=some Q/\Q.c=m.q id/\Q.ver=m.v id/\Q.k=a.τ.size/\zj (qE a.τ) Q.c=some a.l/\Q.fz<=Q.c.length/\(true=false->Q.fz=0/\Q.off=false)|none=>true=false->a.l=[]
 cases b:m.r id with
 |some r=>
   rw[b]at this;let⟨Q,o,n,j,i,g,f,_⟩:=this;grind
 |none=>intro h;cases h
theorem Rel.share(a:Rel N m E τ tm σ){σ':St}(f:σ'.bx=σ.bx)(e:yX (shM m) σ'):Rel N (shM m) E (shA τ) tm σ':=by
 refine⟨a.len,λ t=>(a.env t).mono (qfI m),by show m.rw.map _=τ.rw.map _;rw[a.rw],a.nb,?_,a.inj,e,?_,a.pin⟩
 .intro b cs d;let⟨ds,h,g⟩:=a.box b cs d;exact⟨ds,by rw[f];exact h,g.mono (qfI m)⟩
 .intro id c r e1 k j i;have l:(shM m).rw.length=m.rw.length:=wB ..;exact a.rinj id c r (l▸e1) (l▸k) j i
theorem qOM{op:BinOp}{k:IntKind}{a b:Int}{d:TV->Option α}{r:α}(h:qKD op k a b d=some r):∃x z,d x=some r/\qC9 op k a b=some z/\OK m x (.v z):=by
 cases op<;>simp only[qKD]at h<;>first
  |(cases h;done)
  |exact⟨_,_,h,rfl,rfl⟩
  |skip
 all_goals (
  cases c:ieq b 0 with
  |true=>rw[c]at h;cases h
  |false=>rw[c]at h;exact⟨_,_,h,by simp only[qC9,c],rfl⟩)
theorem qLN{a b:List UInt8}(h:qiG a b=true):qHo ⟨a.toArray⟩ ⟨b.toArray⟩=some ⟨(a++b).toArray⟩:=by
 have h:=of_decide_eq_true h;unfold qHo;have e1:(⟨a.toArray⟩:ByteArray).size=a.length:=by simp[ByteArray.size]
 have c:(⟨b.toArray⟩:ByteArray).size=b.length:=by simp[ByteArray.size]
 rw[if_neg (by rw[e1,c];omega)];congr 1
theorem qGh(a b:List UInt8):xeq ⟨a.toArray⟩ ⟨b.toArray⟩=qx a b:=by
 simp[xeq,qx]
theorem qNZ(a b:List UInt8):xlt ⟨a.toArray⟩ ⟨b.toArray⟩=slt a b:=by
 simp[xlt,slt]
theorem qNX{op:BinOp}{a b:List UInt8}{d:TV->Option α}{r:α}(h:qLy op a b d=some r):∃x z,d x=some r/\qBZ op ⟨a.toArray⟩ ⟨b.toArray⟩=some z/\OK m x (.v z):=by
 cases op<;>simp only[qLy]at h<;>first
  |(cases h;done)
  |(refine⟨_,_,h,rfl,?_⟩;simp only[qGh,qNZ];exact rfl)
  |skip
 cases c:qiG a b with
 |false=>rw[c]at h;cases h
 |true=>rw[c]at h;exact⟨_,_,h,by simp only[qBZ,qLN c],rfl⟩
theorem qC1{place:Nat->Option (Nat×Nat)}:∀{l:List (Nat×TV)}{c:List (Nat×AV)}{cells:List TV}{cells':List AV}{cs:List TV},
  (l.map (·.1)=c.map (·.1)/\OKL m (l.map (·.2)) (c.map (·.2)))->OKL m cells cells'->qBo place cells l=some cs->∃ds,qmo place cells' c=some ds/\OKL m cs ds
 |[],c,cells,cells',cs,d,e,h=>by
   have:c=[]:=by cases c with|nil=>rfl|cons a b=>simp at d
   subst this;cases h;exact⟨cells',rfl,e⟩
 |(i,x)::l,c,cells,cells',cs,d,e,h=>by
   cases c with
   |nil=>simp at d
   |cons q c=>
     let⟨j,y⟩:=q;simp only[wo,List.cons.injEq]at d;obtain⟨⟨rfl,g⟩,z,A,r,o,f⟩:=d;cases r;simp only[qBo]at h;simp only[qmo];split at h<;>try cases h
     rename_i off size p;split at h<;>try cases h
     rename_i k;simp only[wc,decide_eq_true_eq]at k;let⟨⟨u,t⟩,s⟩:=k;let⟨n,v⟩:=o.cells s;rw[p];have e1:(cellsOf y).length=size:=by rw[n.len];exact u
     have w:off+size<=cells'.length:=by rw[e.len];exact t
     simp only[e1,w,v,decide_true,kR];exact qC1 ⟨g,f⟩ ((e.take off).append (n.append (e.drop (off+size)))) h
theorem qgj{a:Bool}{size o:Nat}{cs:List TV}{ds:List AV}{x:TV}(b:OKL m cs ds)(h:qmZ a size cs o=some x):∃y,qcr a size ds o=some y/\OK m x y:=by
 unfold qmZ at h;unfold qcr;cases a with
 |true=>
   simp only at h |-
   split at h<;>cases h;rename_i c;rw[<-b.len]at c;rw[c];exact⟨_,rfl,_,rfl,(b.drop o).take size⟩
 |false=>exact b.get h
theorem qcW(e:Rel N m E τ tm σ){y:Nat}{d:Nat}{a:Option Operand}{n:Int}(h:qfL d E a=some n)(f:d<=y)(b:inb n y=true):qdm d y (a.map (aev tm))=some n.toNat:=by
 have b:=of_decide_eq_true b;cases a with
 |none=>
   grind [qfL,qdm]
 |some x=>
   simp only[qfL]at h;split at h<;>cases h;rename_i k c;have:=e.ev x;rw[c]at this;show qvC y (aev tm x)=_;rw[this];show bnd y n=_;unfold bnd;rw[if_pos b]
theorem qiW{a:Type}{l:List a}{j:Int}{v:a}(h:qf l j=some v):0<=j/\l[j.toNat]?=some v:=by
 grind [qf]
theorem JQ{b a:Type}{x:Option b}{k:b->Option a}{r:a}(h:qb x k=some r):∃v,x=some v/\k v=some r:=by
 unfold qb at h;grind
theorem jZ{b:Bool}{x:Option α}{r:α}(h:cond b x none=some r):b=true/\x=some r:=by
 grind
theorem qvq{b:Bool}{x:Option α}{r:α}(h:cond b none x=some r):b=false/\x=some r:=by
 grind
end
end Go.AmZ
namespace Go.AmZ
open Go Go.RowKit Go.GxZ
def Qm(τ:Ty)(y:AV):Option (Val τ):=match Je τ.agg (Qz y)with
 |true=>qE τ (cellsOf y)
 |false=>none
section
variable {α:Type}{N:Nat×Nat}{m:Mp}{E:Env}{τ:TS}{tm:List AV}{σ:St}{K:KT α}{r:α}{p:Option (AV×Option St)}
theorem jB{a b:Ty}{l:List (Val a)}{c:List (Val b)}(h:qfa l b=some c):∃e:a=b,e▸l=c:=by
 grind [qfa]
theorem qIl(Q:Row):qjX Q Q.k 0 Q.c.length Q.ver=some Q.c:=by
 grind [qjX]
theorem qgC(a:yX m σ){id:Nat}{R:qL}{y:AV}(e:m.rw[id]?=some R)(h:JT (m.r id) (m.v id) R.τ R.l y):
  (∃r Q,m.r id=some r/\y=.rs r 0 Q.c.length Q.ver false/\σ.rw[r]?=some Q/\Q.c=m.q id/\Q.ver=m.v id/\Q.k=R.τ.size/\zj (qE R.τ) Q.c=some R.l/\Q.fz<=Q.c.length/\(R.sh=false->Q.fz=0/\Q.off=false))\/
  (m.r id=none/\(R.sh=false->R.l=[])/\dlist R.τ y=some R.l/\2<=lvl y):=by
 have a:=a id R e;cases b:m.r id with
 |some r=>
   rw[b]at a h;let⟨Q,j,i,g3,g,d,f⟩:=a;refine .inl ⟨r,Q,rfl,?_,j,i,g3,g,d,f⟩;rw[zf d,g3];exact h
 |none=>
   rw[b]at a h;exact .inr ⟨rfl,a,h.1,h.2⟩
theorem qAb{a:Ty}{y:AV}{l:List (Val a)}(b:List Row)(h:dlist a y=some l):∃es,elems b a.size y=some es/\zj (qE a) es=some l/\dlist a (qX b y)=some l:=by
 obtain⟨rfl,c⟩|⟨es,n,rfl,c⟩:=yR h
 .rw[c];exact⟨[],rfl,rfl,rfl⟩
 .refine⟨es,by simp only[elems,zm,decide_true],c,?_⟩;show dlist _ (.sl _ es 1)=_;grind [dlist,jh,zm]
theorem qnN(i:yX m σ){a:Ty}{x:TV}{y:AV}{l:List (Val a)}(h:qmx m.rw a x=some l)(d:OK m x y):
  ∃es,elems σ.rw a.size y=some es/\zj (qE a) es=some l/\dlist a (qX σ.rw y)=some l:=by
 unfold qmx at h;split at h
 .cases h;cases d;exact⟨[],rfl,rfl,rfl⟩
 .obtain⟨e,rfl⟩:=jB h;subst e;exact qAb _ d.1
 .rename_i id b;split at h<;>try cases h
  rename_i R f;split at h<;>try cases h
  rename_i c;have c:R.ver=b:=wn c;obtain⟨e,rfl⟩:=jB h;subst e;let⟨R',g,_,_,j⟩:=d;rw[f]at g;cases g;obtain⟨r,Q,_,rfl,p,_,_,o,n,_⟩|⟨_,_,k,_⟩:=qgC i f (j c)
  .grind [elems,qX,dlist,jh,zm,qIl,decide_true]
  .exact qAb _ k
 .cases h
theorem qdb(j:yX m σ):∀(a:Ty) {cs:List TV}{v:Val a}{r:List TV}{ds:List AV},qiN m.rw a cs=some (v,r)->OKL m cs ds->∃d,yM a (ds.map (qX σ.rw))=some (v,d.map (qX σ.rw))/\OKL m r d
 |.int k,cs,v,r,ds,h,c=>by
   change qKZ k cs=_ at h;unfold qKZ at h;split at h<;>try cases h
   split at h<;>cases h;rename_i A;obtain⟨y,d,rfl,f,g⟩:=c;cases f;exact⟨d,by show JA _ _=_;simp only[wo,qX,JA,A],g⟩
 |.bool,cs,v,r,ds,h,c=>by
   change qHM cs=_ at h;unfold qHM at h;split at h<;>cases h;obtain⟨y,d,rfl,f,g⟩:=c;cases f;exact⟨d,rfl,g⟩
 |.str,cs,v,r,ds,h,c=>by
   change qL6 cs=_ at h;unfold qL6 at h;split at h<;>cases h;obtain⟨y,d,rfl,f,g⟩:=c;cases f;exact⟨d,by show qdn _=_;simp only[wo,qX,qdn],g⟩
 |.term,cs,v,r,ds,h,c=>by
   change qHa _ cs=_ at h;unfold qHa at h;split at h<;>try cases h
   split at h<;>cases h;rename_i i;obtain⟨y1,w,rfl,s,y2,G,rfl,q,y3,F,rfl,p,y4,t,rfl,o,g⟩:=c;cases s;cases q;cases p;let⟨es,_,_,l⟩:=qnN j i o;rw[qkt]at l;refine⟨t,?_,g⟩;show JR (.v (.int .i64 _)::.v (.string ⟨_⟩)::.v (.int .i64 _)::qX σ.rw y4::t.map (qX σ.rw))=_;grind [JR,Jh]
 |.list a,cs,v,r,ds,h,c=>by
   change qGV _ cs=_ at h;unfold qGV at h;split at h<;>try cases h
   split at h<;>cases h;rename_i i;obtain⟨y,d,rfl,f,g⟩:=c;let⟨es,_,_,l⟩:=qnN j i f;have l:jh a.size (λ e=>full (yM a e)) (qX σ.rw y)=some v:=l;exact⟨d,by show yG _ _=_;simp only[wo,yG,l],g⟩
 |.pair a b,cs,v,r,ds,h,c=>by
   let⟨w,C,B⟩:=QH.1 h;let⟨u,E,D⟩:=qdb j a C c;let⟨n,z,x⟩:=qdb j b B D;exact⟨n,QH.2 ⟨_,E,z⟩,x⟩
 |.one a,cs,v,r,ds,h,c=>qdb j a h c
 |.map a b,cs,v,r,ds,h,c=>by
   change qMA a b cs=_ at h;unfold qMA at h;split at h<;>try cases h
   split at h<;>cases h;rename_i i;obtain⟨y,d,rfl,f,g⟩:=c;unfold qBi at i;split at i<;>cases i;rename_i e;obtain⟨rfl,rfl⟩:=e;have f:dMc _ _ _ _ y=some _:=f;obtain⟨ks,vs,rfl,_⟩:=qcK f;exact⟨d,by show yG (dMc _ _ (qE _) (qE _)) _=_;simp only[wo,qX,yG,f],g⟩
theorem qfi{a:Type}{x:Option (a×List TV)}{v:a}(h:qm0 x=some v):x=some (v,[]):=by
 unfold qm0 at h;grind
theorem qow(rw:List Row){y:AV}(h:Qz y=false):Qz (jm rw y)=false/\cellsOf (jm rw y)=[qX rw y]/\cellsOf y=[y]:=by
 cases y with
 |agg cs=>cases h
 |rs r lo n a f=>
   grind [jm,qX,Qz,cellsOf]
 |_=>exact⟨rfl,rfl,rfl⟩
theorem qgG(hq:yX m σ){a:Ty}{x:TV}{y:AV}{v:Val a}(h:qb9 m.rw a x=some v)(ho:OK m x y) :
  Qm a (jm σ.rw y)=some v/\qE a ((cellsOf y).map (qX σ.rw))=some v:=by
 unfold qb9 at h;split at h
 case h_2=>cases h
 rename_i hb;have hb:a.agg=qvd x:=by simpa[Je]using hb
 have h:=qfi h
 have key:OKL m (jL x) (cellsOf y)->qE a ((cellsOf y).map (qX σ.rw))=some v:=by
  intro hc;obtain⟨rs,g1,g2⟩:=qdb hq a h hc;cases g2;exact qS.2 g1
 by_cases hx:qvd x=true
 ·cases x with
  | agg cs =>
    obtain⟨ds,rfl,hd⟩:=ho;refine⟨?_,key hd⟩;unfold Qm;rw[hb];exact key hd
  | _=>cases hx
 ·have hx:qvd x=false:=by simpa using hx
  have hct:jL x=[x]:=by cases x<;>first | rfl | (cases hx)
  have hy:Qz y=false:=by
   cases x with
   | agg cs=>cases hx
   | i=>cases ho;rfl
   | b=>cases ho;rfl
   | s=>cases ho;rfl
   | c=>obtain⟨_,rfl⟩:=ho;rfl
   | nil=>cases ho;rfl
   | sl τ l lv =>
     obtain⟨ho,_⟩:=ho;rcases yR ho with⟨rfl,_⟩ | ⟨es,n,rfl,_⟩<;>rfl
   | row id ver =>
     obtain⟨R,_,_,ho,_⟩:=ho;rcases ho with rfl | ⟨k,es,j,rfl⟩ | ⟨r,lo,n,ep,f,rfl⟩<;>rfl
   | ptr b o=>obtain⟨_,rfl⟩:=ho;rfl
   | pti b i=>obtain⟨_,_,rfl⟩:=ho;rfl
   | rpt id ver sv i cs o=>obtain⟨R,_,_,_,ho,_⟩:=ho;rcases ho with⟨r,i,ep,rfl⟩ | ⟨ds,rfl⟩<;>rfl
   | ept cs o=>obtain⟨ds,rfl,_⟩:=ho;rfl
   | fn f cs=>obtain⟨ds,rfl,_⟩:=ho;rfl
   | tup cs=>obtain⟨ds,rfl,_⟩:=ho;rfl
   | mp b=>obtain⟨_,rfl⟩:=ho;rfl
   | mc=>obtain⟨ks,vs,rfl,_⟩:=qcK ho;rfl
   | dead =>
     exfalso;rw[hct]at h;have hag:a.agg=false:=by rw[hb];rfl
     cases a with
     | int k=>cases h
     | bool=>cases h
     | str=>cases h
     | list a=>cases h
     | map a b=>cases h
     | term=>cases hag
     | pair a b=>cases hag
     | one a=>cases hag
  obtain⟨e1,e2,e3⟩:=qow σ.rw hy;have hc:OKL m (jL x) (cellsOf y):=by rw[hct,e3];exact⟨y,[],rfl,ho,rfl⟩
  grind [Qm]
theorem qtS{x:TV}{y:AV}(a:OK m x y)(h:qmP x=true):rsC y=[]/\Qz y=false:=by
 cases x with
 |i|b|s=>cases a;exact⟨rfl,rfl⟩
 |c=>obtain⟨_,rfl⟩:=a;exact⟨rfl,rfl⟩
 |nil=>cases a;exact⟨rfl,rfl⟩
 |sl τ l d=>
   let⟨a,_⟩:=a;obtain⟨rfl,_⟩|⟨es,n,rfl,_⟩:=yR a<;>exact⟨rfl,rfl⟩
 |fn f cs=>obtain⟨ds,rfl,_⟩:=a;exact⟨rfl,rfl⟩
 |mc=>obtain⟨ks,vs,rfl,_⟩:=qcK a;exact⟨rfl,rfl⟩
 |_=>cases h
theorem qiU:∀{xs:List TV}{ys:List AV},OKL m xs ys->xs.all qmP=true->ys.flatMap rsC=[]
 |[],_,h,_=>by cases h;rfl
 |x::xs,_,⟨y,r,rfl,b,a⟩,h=>by
   rw[km,wc]at h;rw[xj,(qtS b h.1).1,qiU a h.2];rfl
theorem qNo{y:AV}(b:rsC y=[])(a:Qz y=false):rsA y=[]:=by
 cases y<;>first|(cases a;done)|exact b
theorem qsE{x:TV}{y:AV}(h:qns x=true)(c:OK m x y):rsA y=[]:=by
 cases x with
 |agg cs=>
   obtain⟨ds,rfl,d⟩:=c;exact qiU d h
 |_=>let⟨a,b⟩:=qtS c h;exact qNo a b
theorem qu0:∀{xs:List TV}{ys:List AV},xs.all qns=true->OKL m xs ys->ys.flatMap rsA=[]
 |[],_,_,h=>by cases h;rfl
 |x::xs,_,h,⟨y,r,rfl,b,a⟩=>by
   rw[km,wc]at h;rw[xj,qsE h.1 b,qu0 h.2 a];rfl
theorem qEe(c:yX m σ){a:Ty}:∀{xs:List TV}{ys:List AV}{vs:List (Val a)},qsG m.rw a xs=some vs->OKL m xs ys->
  zj (qE a) (ys.map λ y=>(cellsOf y).map (qX σ.rw))=some vs
 |[],ys,vs,h,e=>by cases e;cases h;rfl
 |x::xs,ys,vs,h,⟨y,r,f,i,g⟩=>by
   subst f;simp only[qsG]at h;split at h<;>try cases h
   rename_i v d;split at h<;>cases h;rename_i vs b;exact jg.2 ⟨v,vs,(qgG c d i).2,qEe c b g,rfl⟩
end
end Go.AmZ
namespace Go.AmZ
open Go Go.RowKit Go.GxZ
def Mp.add(m:Mp)(R:qL)(ro:Option Nat)(vo:Nat)(qo:List (List AV)):Mp:=
 ⟨m.b,m.nb,λ i=>if i=m.rw.length then ro else m.r i,λ i=>if i=m.rw.length then vo else m.v i,λ i=>if i=m.rw.length then qo else m.q i,m.rw++[R]⟩
def Mp.upd(m:Mp)(id:Nat)(R:qL)(ro:Option Nat)(vo:Nat)(qo:List (List AV)):Mp:=
 ⟨m.b,m.nb,λ i=>if i=id then ro else m.r i,λ i=>if i=id then vo else m.v i,λ i=>if i=id then qo else m.q i,m.rw.set id R⟩
section
variable {α:Type}{N:Nat×Nat}{m:Mp}{E:Env}{τ:TS}{tm:List AV}{σ:St}{K:KT α}{r:α}{p:Option (AV×Option St)}{c:TC}{C:Cfg}{R R2:qL}{ro:Option Nat}{vo:Nat}{qo:List (List AV)}{id:Nat}
theorem qr8(m:Mp)(R:qL)(ro:Option Nat)(vo:Nat)(qo:List (List AV)):MLe m (m.add R ro vo qo):=by
 refine⟨wa _,λ i _=>rfl,λ id R' h=>?_⟩;have b:=getElem?_lt h;have a:¬ id=m.rw.length:=vC b;exact⟨R',by show(m.rw++_)[id]?=_;rw[List.getElem?_append_left b];exact h,wa _,wa _,λ _=>⟨rfl,if_neg a,if_neg a,rfl,λ _=>if_neg a,λ _ _ h=>h⟩⟩
theorem JF.later{σ':St}(h:JF σ R ro vo qo)(a:∀r Q,ro=some r->σ.rw[r]?=some Q->σ'.rw[r]?=some Q):JF σ' R ro vo qo:=by
 cases ro with
 |none=>exact h
 |some r=>
   let⟨Q,c,b⟩:=h;exact⟨Q,a r Q rfl c,b⟩
theorem qpj{σ':St}(d:yX m σ)(f:JF σ' R ro vo qo)(e:∀(r:Nat) (Q:Row),σ.rw[r]?=some Q->σ'.rw[r]?=some Q):yX (m.add R ro vo qo) σ':=by
 intro id R' a;change (m.rw++[R])[id]?=some R' at a;show JF σ' R' (if id=m.rw.length then ro else m.r id) (if id=m.rw.length then vo else m.v id) (if id=m.rw.length then qo else m.q id);by_cases c:id=m.rw.length
 .grind
 .rw[if_neg c,if_neg c,if_neg c];have b:id<m.rw.length:=by have:=getElem?_lt a;simp at this;omega
  rw[List.getElem?_append_left b]at a;exact(d id R' a).later λ r Q _ h=>e r Q h
theorem qKg(k:m.rw[id]?=some R)(n:R.ver<=R2.ver)(o:R.sv<=R2.sv)(p:R2.ver=R.ver->R2.l.length=R.l.length/\ro=m.r id/\vo=m.v id/\R2.τ=R.τ/\(R2.sv=R.sv->qo=m.q id)/\(m.r id=none->∀y,dlist R.τ y=some R.l->dlist R2.τ y=some R2.l)):MLe m (m.upd id R2 ro vo qo):=by
 have j:=getElem?_lt k;refine⟨wa _,λ i _=>rfl,λ i R' h=>?_⟩;by_cases g:i=id
 .subst g;rw[k]at h;cases h;refine⟨R2,by show(m.rw.set i R2)[i]?=_;rw[List.getElem?_set_self j],n,o,λ h=>?_⟩;let⟨a,b,c,d,e,f⟩:=p h;exact⟨a,(if_pos rfl).trans b,(if_pos rfl).trans c,d,λ h=>(if_pos rfl).trans (e h),f⟩
 .exact⟨R',by show(m.rw.set id R2)[i]?=_;rw[List.getElem?_set_ne (xT g)];exact h,wa _,wa _,λ _=>⟨rfl,if_neg g,if_neg g,rfl,λ _=>if_neg g,λ _ _ h=>h⟩⟩
theorem qDg{σ':St}(j:m.rw[id]?=some R)(d:yX m σ)(k:JF σ' R2 ro vo qo)(e:∀a r Q,a≠id->a<m.rw.length->m.r a=some r->σ.rw[r]?=some Q->σ'.rw[r]?=some Q):yX (m.upd id R2 ro vo qo) σ':=by
 have f:=getElem?_lt j;intro i R' c;change (m.rw.set id R2)[i]?=some R' at c;show JF σ' R' (if i=id then ro else m.r i) (if i=id then vo else m.v i) (if i=id then qo else m.q i);by_cases b:i=id
 .grind
 .rw[if_neg b,if_neg b,if_neg b];rw[List.getElem?_set_ne (xT b)]at c;exact(d i R' c).later λ r Q h g=>e i r Q b (getElem?_lt c) h g
theorem Rel.to{m':Mp}{d:List qL}{σ':St}(c:Rel N m E τ tm σ)(a:MLe m m')(n:m'.rw=d)(h:m'.nb=m.nb)(g:m'.b=m.b)(l:σ'.bx=σ.bx)(j:yX m' σ')
  (k:∀i e r,i<m'.rw.length->e<m'.rw.length->m'.r i=some r->m'.r e=some r->i=e):Rel N m' E {τ with rw:=d} tm σ':=by
 refine⟨c.len,λ t=>(c.env t).mono a,n,by rw[h];exact c.nb,?_,by rw[h,g];exact c.inj,j,k,qu8 a c.pin⟩;intro b cs f;let⟨ds,p,o⟩:=c.box b cs f;exact⟨ds,by rw[l,g];exact p,o.mono a⟩
theorem Rel.row_lt(a:Rel N m E τ tm σ){id r:Nat}(h:id<m.rw.length)(b:m.r id=some r):r<σ.rw.length:=by
 have:=a.rows id _ (List.getElem?_eq_getElem h);rw[b]at this;let⟨Q,c,_⟩:=this;exact getElem?_lt c
theorem Rel.rowAdd{σ':St}(b:Rel N m E τ tm σ)(R:qL)(ro:Option Nat)(vo:Nat)(qo:List (List AV))(j:σ'.bx=σ.bx)(h:JF σ' R ro vo qo)(i:∀(r:Nat) (Q:Row),σ.rw[r]?=some Q->σ'.rw[r]?=some Q)(e:∀r,ro=some r->σ.rw.length<=r){y:AV}(d:JT ro vo R.τ R.l y)(k:R.ver=0):
  ∃m',MLe m m'/\Rel N m' E {τ with rw:=τ.rw++[R]} tm σ'/\OK m' (.row τ.rw.length 0) y:=by
 refine⟨m.add R ro vo qo,qr8 _ _ _ _ _,b.to (qr8 _ _ _ _ _) (by show m.rw++_=_;rw[b.rw]) rfl rfl j (qpj b.rows h i) ?_,?_⟩
 .intro id a r g f e1 c;change id<(m.rw++[_]).length at g;change a<(m.rw++[_]).length at f;change (if id=m.rw.length then ro else m.r id)=some r at e1;change (if a=m.rw.length then ro else m.r a)=some r at c;simp at g f;split at e1<;>split at c
  .omega
  .have:=b.row_lt (by omega) c;have:=e r e1;omega
  .have:=b.row_lt (by omega) e1;have:=e r c;omega
  .exact b.rinj id a r (by omega) (by omega) e1 c
 .refine⟨R,?_,we _,d.ish,λ _=>?_⟩
  .show(m.rw++_)[τ.rw.length]?=_;rw[b.rw];simp
  .show JT (if τ.rw.length=m.rw.length then ro else m.r τ.rw.length) (if τ.rw.length=m.rw.length then vo else m.v τ.rw.length) _ _ y;rw[if_pos (by rw[b.rw]),if_pos (by rw[b.rw])];exact d
theorem Rel.rowNew(b:Rel N m E τ tm σ){a:Ty}{es:List (List AV)}{l:List (Val a)}(c:zj (qE a) es=some l):
  ∃m',MLe m m'/\Rel N m' E {τ with rw:=τ.rw++[⟨a,l,0,0,false⟩]} tm {σ with rw:=σ.rw++[⟨a.size,es,0,0,false⟩]}/\OK m' (.row τ.rw.length 0) (.rs σ.rw.length 0 l.length 0 false):=
 b.rowAdd (σ':={σ with rw:=σ.rw++[⟨a.size,es,0,0,false⟩]}) ⟨a,l,0,0,false⟩ (some σ.rw.length) 0 es rfl ⟨⟨a.size,es,0,0,false⟩,by show(σ.rw++[_])[σ.rw.length]?=_;simp,rfl,rfl,rfl,c,we _,λ _=>⟨rfl,rfl⟩⟩
  (λ r Q h=>by show(σ.rw++_)[r]?=_;rw[List.getElem?_append_left (getElem?_lt h)];exact h) (λ r h=>by cases h;exact wa _) rfl rfl
theorem Rel.rowUpd(c:Rel N m E τ tm σ)(B:τ.rw[id]?=some R)(ro:Option Nat)(vo:Nat)(qo:List (List AV))(n:R.ver<=R2.ver)(o:R.sv<=R2.sv)(t:R2.ver=R.ver->R2.l.length=R.l.length/\ro=m.r id/\vo=m.v id/\R2.τ=R.τ/\(R2.sv=R.sv->qo=m.q id)/\(m.r id=none->∀y,dlist R.τ y=some R.l->dlist R2.τ y=some R2.l)){σ':St}(u:σ'.bx=σ.bx)(p:JF σ' R2 ro vo qo)
  (s:∀a r,a≠id->a<m.rw.length->m.r a=some r->ro≠some r/\∀Q,σ.rw[r]?=some Q->σ'.rw[r]?=some Q):
  ∃m',MLe m m'/\Rel N m' E {τ with rw:=τ.rw.set id R2} tm σ'/\(∀y,JT ro vo R2.τ R2.l y->OK m' (.row id R2.ver) y):=by
 have b:m.rw[id]?=some R:=by rw[c.rw];exact B
 have f:=getElem?_lt b;have d:MLe m (m.upd id R2 ro vo qo):=qKg b n o t;refine⟨m.upd id R2 ro vo qo,d,c.to d (by show m.rw.set id R2=_;rw[c.rw]) rfl rfl u (qDg b c.rows p λ a r Q A z x w=>(s a r A z x).2 Q w) ?_,λ y k=>?_⟩
 .intro i e r h g e1 j;change i<(m.rw.set id R2).length at h;change e<(m.rw.set id R2).length at g;change (if i=id then ro else m.r i)=some r at e1;change (if e=id then ro else m.r e)=some r at j;simp at h g;split at e1<;>split at j
  .omega
  .grind
  .grind
  .exact c.rinj i e r h g e1 j
 .refine⟨R2,?_,wa _,k.ish,λ _=>?_⟩
  .show(m.rw.set id R2)[id]?=_;rw[List.getElem?_set_self f]
  .show JT (if id=id then ro else m.r id) (if id=id then vo else m.v id) _ _ y;grind
theorem Rel.others(c:Rel N m E τ tm σ)(h:τ.rw[id]?=some R){rr:Nat}(b:m.r id=some rr){a r:Nat}(g:a≠id)(f:a<m.rw.length)(e:m.r a=some r):r≠rr:=λ d=>
 g (c.rinj a id rr f (by rw[c.rw];exact getElem?_lt h) (d▸e) b)
theorem qzl{a:Type}{f:List AV->Option a}:∀{es:List (List AV)}{l:List a},zj f es=some l->∀(j:Nat) {e:List AV}{v:a},f e=some v->zj f (es.set j e)=some (l.set j v)
 |[],l,h,j,e,v,b=>by cases h;rfl
 |g::es,l,h,j,e,v,b=>by
   obtain⟨w,vs,d,c,rfl⟩:=jg.1 h;cases j with
   |zero=>exact jg.2 ⟨v,vs,b,c,rfl⟩
   |succ j=>exact jg.2 ⟨w,vs.set j v,d,qzl c j b,rfl⟩
theorem qzA{a:Type}{f:List AV->Option a}{e:List AV}{v:a}(h:f e=some v):∀n:Nat,zj f (List.replicate n e)=some (List.replicate n v)
 |0=>rfl
 |n+1=>jg.2 ⟨v,_,h,qzA h n,rfl⟩
end
end Go.AmZ
