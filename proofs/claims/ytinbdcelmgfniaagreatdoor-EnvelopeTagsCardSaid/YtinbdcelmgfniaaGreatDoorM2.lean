/- Part 2 of what the proofs stand on: plain functions of the program, and that they are its functions. -/
import Derived.Test.YtinbdcelmgfniaaGreatDoorM1
set_option linter.unusedVariables false
set_option linter.unusedSimpArgs false
noncomputable section
namespace Go.AmZ
open Go Go.RowKit
theorem qsT:∀(r:List Oper) (a:List Nat),∃t,jF r a=a++t
 |[],a=>⟨[],by simp[jF]⟩
 |o::r,a=>by
   let⟨t,b⟩:=qsT r (a++[qlH a o]);grind [jF]
theorem qtl:∀(r:List Oper) (a:List Nat) (k:Nat) (o:Oper),r[k]?=some o->(jF r a).getD (a.length+k) 0=qlH ((jF r a).take (a.length+k)) o
 |[],a,k,o,h=>by simp at h
 |q::r,a,0,o,h=>by
   simp at h;subst h;let⟨t,b⟩:=qsT r (a++[qlH a q]);grind [jF]
 |q::r,a,k+1,o,h=>by
   rw[jF];have:=qtl r (a++[qlH a q]) k o (by simpa using h);grind
theorem qvO(a:List Nat)(j:Nat):∀(xs:List Nat) (m:Nat),(xs.foldl (λ m e=>m|||(2^e|||a.getD e 0)) m).testBit j=true->m.testBit j=true\/∃e∈xs,e=j\/(a.getD e 0).testBit j=true
 |[],m,h=>.inl h
 |e::xs,m,h=>by
   rw[xt]at h;obtain h|⟨c,b,h⟩:=qvO a j xs _ h
   .grind
   .grind
theorem qBP{ops:List Oper}{i j:Nat}{o:Oper}(ho:ops[i]?=some o)(h:((jF ops []).getD i 0).testBit j=true):∃e∈yt o,e=j\/(e<i/\((jF ops []).getD e 0).testBit j=true):=by
 have a:=qtl ops [] i o ho;simp only[kC,wy]at a;rw[a]at h;obtain h|⟨e,b,h⟩:=qvO _ _ _ _ h
 .simp at h
 .grind
section
variable {P:Program}{C:Cfg}{Γ:Gh}{σ:St}{w:World}{ops:Array Oper}{ex:yE}{l:List (AV×Option St)}{s0:S}{L:Nat->Bool}
def qag(ops:Array Oper)(L:Nat->Bool):Prop:=∀i o,ops[i]?=some o->L i=true->∀e∈yt o,L e=true
theorem qf3(hd:qag ops L){j:Nat}:∀(i:Nat) (o:Oper),ops[i]?=some o->(∀e∈yt o,L e=true)->((jF ops.toList []).getD i 0).testBit j=true->L j=true:=by
 intro i
 induction i using Nat.strongRecOn with
 |_ i f=>
   intro o ho hp g;obtain⟨e,d,h⟩:=qBP (by simpa using ho) g;rcases h with rfl|⟨b,c⟩
   .exact hp _ d
   .have a:e<ops.size:=Nat.lt_trans b (Array.getElem?_eq_some_iff.1 ho).1;exact f e b ops[e] (Array.getElem?_eq_getElem a) (hd e _ (Array.getElem?_eq_getElem a) (hp e d)) c
theorem qeT{a:Nat->Bool}{b:List AV}(h:JK a b ops=true):(∀(j:Nat) (o:Oper),ops[j]?=some o->∀e∈yt o,e<j)/\
  ∀(i j:Nat) (o q:Oper),ops[j]?=some o->ops[i]?=some q->i≠j->qfy a b ops j o i q=true->((jF ops.toList []).getD (max i j) 0).testBit (min i j)=true:=by
 have c:∀(i:Nat) (o:Oper),ops[i]?=some o->(o,i)∈ops.toList.zipIdx:=λ i o ho=>by
  grind
 grind [JK]
theorem qsr(hd:qag ops L){i j:Nat}{o q:Oper}(ho:ops[j]?=some o)(d:ops[i]?=some q)(f:i≠j)(a:((jF ops.toList []).getD (max i j) 0).testBit (min i j)=true)(hL:L j=false)(hp:∀e∈yt o,L e=true):(i<j->L i=true)/\(j<i->L i=false):=by
 constructor
 .grind [Nat.max_eq_right,Nat.le_of_lt,Nat.min_eq_left,qf3]
 .intro b;rw[Nat.max_eq_left (xr b),Nat.min_eq_right (xr b)]at a;cases c:L i with
  |false=>rfl
  |true=>
    have:=qf3 hd i q d (hd i q d c) a;rw[hL]at this;cases this
theorem ord{a:Nat->Bool}{c:List AV}(hk:JK a c ops=true)(hd:qag ops L){i j:Nat}{o q:Oper}(ho:ops[j]?=some o)(d:ops[i]?=some q)(b:i≠j)(f:qfy a c ops j o i q=true)(hL:L j=false)(hp:∀e∈yt o,L e=true):(i<j->L i=true)/\(j<i->L i=false):=by
 exact qsr hd ho d b ((qeT hk).2 i j o q ho d b f) hL hp
structure qaS (C:Cfg) (ex:yE) (ops:Array Oper) (l:List (AV×Option St)) (s0:S):Prop where
 st:∀(i:Nat) (o:Oper),ops[i]?=some o->∃y,l[i]?=some y/\Js C ex ops o (F ops.toList l s0 qi i) y/\(y.2.isSome=true->qM C.lo o.op=true)
 sp:∀(i:Nat) (o:Oper) (y:AV×Option St),ops[i]?=some o->l[i]?=some y->y.2.isSome=true->qar C ops i (F ops.toList l s0 qi i).tm (F ops.toList l s0 qi i).σ o.op=true
theorem qmy(d:∀(i:Nat) (o:Oper),ops.toList[i]?=some o->∃y,l[i]?=some y/\Js C ex ops o (F ops.toList l s0 qi i) y/\(y.2.isSome=true->qM C.lo o.op=true))
  (c:∀(i:Nat) (o:Oper) (y:AV×Option St),ops.toList[i]?=some o->l[i]?=some y->y.2.isSome=true->qar C ops (ops.size-(ops.toList.length-i)) (F ops.toList l s0 qi i).tm (F ops.toList l s0 qi i).σ o.op=true):qaS C ex ops l s0:=
 ⟨λ i o ho=>d i o (by simpa using ho),λ i o y ho a b=>by
  have:=c i o y (by simpa using ho) a b;have e:i<ops.size:=(Array.getElem?_eq_some_iff.1 ho).1
  rwa [wK,show ops.size-(ops.size-i)=i by omega]at this⟩
def qoS(C:Cfg)(ops:Array Oper)(l:List (AV×Option St)):Prop:=
 ∀(i:Nat) (o:Oper),ops[i]?=some o->∃y,l[i]?=some y/\(y.2.isSome=true->qM C.lo o.op=true)
theorem qaS.recd(h:qaS C ex ops l s0):qoS C ops l:=λ i o ho=>let⟨y,h1,_,h3⟩:=h.st i o ho;⟨y,h1,h3⟩
theorem qgC(s:S)(o:Oper)(y:AV×Option St)(t:Nat)(h:o.dst≠some t):(zd s o y).tm.getD t .dead=s.tm.getD t .dead:=by
 unfold zd;cases hd:o.dst with
 |none=>rfl
 |some d=>
   show(s.tm.set d y.1).getD t .dead=_;grind
theorem qCD(s:S)(o:Oper)(y:AV×Option St):(zd s o y).tm.length=s.tm.length:=by
 unfold zd;cases hd:o.dst with
 |none=>rfl
 |some d=>exact wE ..
theorem qnc(s:S)(o:Oper)(y:AV×Option St)(t:Nat)(h:o.dst=some t):(zd s o y).tm.getD t .dead=if t<s.tm.length then y.1 else .dead:=by
 unfold zd;rw[h];show(s.tm.set t y.1).getD t .dead=_;grind
theorem putS_σ(s:S)(o:Oper)(y:AV×Option St)(h:y.2=none):(zd s o y).σ=s.σ:=by
 unfold zd;rw[h];rfl
theorem qAy(s:S)(o q:Oper)(y z:AV×Option St)(hd:∀d,q.dst=some d->o.dst≠some d)(a:y.2=none\/z.2=none):zd (zd s o y) q z=zd (zd s q z) o y:=by
 unfold zd;simp only;congr 1
 .cases ho:o.dst with
  |none=>rfl
  |some d=>
    cases b:q.dst with
    |none=>rfl
    |some e=>
      show(s.tm.set d y.1).set e z.1=(s.tm.set e z.1).set d y.1;grind [List.set_comm]
 .obtain h|h:=a
  .rw[h];rfl
  .rw[h];rfl
theorem j9(hT:qoS C ops l){k:Nat}{q:Oper}(a:ops[k]?=some q):∃y,l[k]?=some y/\(y.2.isSome=true->qM C.lo q.op=true)/\∀L,F ops.toList l s0 L (k+1)=if L k=true then zd (F ops.toList l s0 L k) q y else F ops.toList l s0 L k:=by
 let⟨y,c,b⟩:=hT k q a;grind [F]
theorem qua(L:Nat->Bool):∀k,(F ops.toList l s0 L k).tm.length=s0.tm.length
 |0=>rfl
 |k+1=>by
   simp only[F];split
   .rw[qCD];exact qua L k
   .exact qua L k
theorem qud{a:Nat->Bool}:∀k,(∀i,i<k->L i=a i)->F ops.toList l s0 L k=F ops.toList l s0 a k
 |0,_=>rfl
 |k+1,h=>by
   simp only[F];rw[qud k λ i b=>h i (by omega),h k (by omega)]
theorem yg{k:Nat}(h:k<ops.size):∃q,ops[k]?=some q:=⟨ops[k],Array.getElem?_eq_getElem h⟩
theorem qgx{t:Tmp}(h:qaY ops.toList t=[]){k:Nat}{q:Oper}(a:ops[k]?=some q):q.dst≠some t:=by
 intro hd;have b:(q,k)∈ops.toList.zipIdx:=by rw[kU];simpa using a
 have:(q,k)∈qaY ops.toList t:=kE.2 ⟨b,by simp[qhK,hd]⟩;rw[h]at this;cases this
theorem qnS{t:Tmp}{o:Oper}{i:Nat}(h:qaY ops.toList t=[(o,i)]):ops[i]?=some o/\o.dst=some t/\∀(k:Nat) (q:Oper),ops[k]?=some q->k≠i->q.dst≠some t:=by
 have e:(o,i)∈qaY ops.toList t:=by rw[h];exact wF.2 rfl
 let⟨a,f⟩:=kE.1 e;rw[kU]at a;refine⟨by simpa using a,?_,λ k q b c hd=>?_⟩
 .grind [qhK,Nat.eq_of_beq_eq_true]
 .have d:(q,k)∈ops.toList.zipIdx:=by rw[kU];simpa using b
  have:(q,k)∈qaY ops.toList t:=kE.2 ⟨d,by simp[qhK,hd]⟩;grind
theorem qfc(hT:qoS C ops l){t:Tmp}{a b:Nat}(h:∀k q,a<=k->ops[k]?=some q->q.dst≠some t):a<=b->b<=ops.size->(F ops.toList l s0 L b).tm.getD t .dead=(F ops.toList l s0 L a).tm.getD t .dead:=by
 intro f
 induction b with
 |zero=>
   grind
 |succ b i=>
   intro d;by_cases e:a=b+1
   .rw[e]
   .obtain⟨q,c⟩:=yg (ops:=ops) (k:=b) (by omega);obtain⟨y,_,_,g⟩:=j9 hT c;rw[g];grind [qgC]
theorem qjQ(hT:qaS C ex ops l s0){k:Nat}{t:Tmp}{b:Nat}(hk:k<=ops.size)(h:zR s0.tm ops k t=some b):(∃ o,(F ops.toList l s0 qi k).tm.getD t .dead = .ptr b o)\/(F ops.toList l s0 qi k).tm.getD t .dead = .tup []\/(F ops.toList l s0 qi k).tm.getD t .dead = .dead:=by
 unfold zR at h;split at h
 case h_2=>cases h
 rename_i u hu;split at h<;>cases h;rename_i off hb
 have key:∀(n k:Nat) (t:Tmp),k<=ops.size->qhH ops n k t=some u->(∃ o,(F ops.toList l s0 qi k).tm.getD t .dead = .ptr b o)\/(F ops.toList l s0 qi k).tm.getD t .dead = .tup []\/(F ops.toList l s0 qi k).tm.getD t .dead = .dead:=by
  intro n
  induction n with
  | zero=>intro k t _ h;cases h
  | succ n ih =>
    intro k t hk hu;rw[qhH]at hu;split at hu
    ·rename_i hw;cases hu;left;refine⟨off,?_⟩;rw[qfc hT.recd (a:=0) (λ k q _ hq=>qgx hw hq) (wh _) hk];exact hb
    ·rename_i o i hw;obtain⟨ho,hd,hother⟩:=qnS hw;split at hu
     case h_2=>cases hu
     rename_i u' hop hik;have hik:=of_decide_eq_true hik;have hsz:i<ops.size:=(Array.getElem?_eq_some_iff.1 ho).1;have hv:=ih i u' (by omega) hu;rw[qfc hT.recd (a:=i+1) (λ k q hle hq=>hother k q hq (by omega)) (by omega) hk];obtain⟨y,h1,h2,_⟩:=hT.st i o ho;obtain⟨z,h3,_,hF⟩:=j9 hT.recd ho;rw[h1]at h3;cases h3;rw[hF,if_pos (show qi i=true from rfl),qnc _ _ _ _ hd];split
     ·rcases h2 with⟨_,h2⟩ | ⟨_,h2⟩
      ·unfold qCF at hop;split at hop<;>cases hop
       ·rename_i e;rw[e]at h2;simp only[opA,qc]at h2;split at h2<;>try cases h2
        split at h2<;>try cases h2
        split at h2<;>try cases h2
        have hav:aev (F ops.toList l s0 qi i).tm (.tmp u')=(F ops.toList l s0 qi i).tm.getD u' .dead:=rfl;rw[hav]at h2;rcases hv with⟨o',hv⟩ | hv | hv<;>rw[hv]at h2<;>cases h2
        exact .inl ⟨_,rfl⟩
       ·rename_i e;rw[e]at h2;cases h2;exact hv
       ·rename_i e;rw[e]at h2;cases h2;exact hv
       ·rename_i e;rw[e]at h2;simp only[opA,qc]at h2;have hav:aev (F ops.toList l s0 qi i).tm (.tmp u')=(F ops.toList l s0 qi i).tm.getD u' .dead:=rfl;rw[hav]at h2;rcases hv with⟨o',hv⟩ | hv | hv<;>rw[hv]at h2<;>cases h2
        exact .inl ⟨_,rfl⟩
      ·rw[h2];exact .inr (.inl rfl)
     ·exact .inr (.inr rfl)
    ·cases hu
 exact key 6 k t hk hu
theorem qCB(hT:qaS C ex ops l s0){k i:Nat}{t:Tmp}{b:Nat}(hk:k<=ops.size)(h:zR s0.tm ops i t=some b):zR (F ops.toList l s0 qi k).tm ops i t=some b:=by
 unfold zR at h |-
 split at h
 case h_2=>cases h
 rename_i u hu
 have key:∀(n i:Nat) (t:Tmp),qhH ops n i t=some u->qaY ops.toList u=[]:=by
  intro n
  induction n with
  | zero=>intro i t h;cases h
  | succ n ih =>
    intro i t h;rw[qhH]at h;split at h
    ·rename_i hw;cases h;exact hw
    ·split at h
     ·exact ih _ _ h
     ·cases h
    ·cases h
 rw[qfc hT.recd (a:=0) (λ k q _ hq=>qgx (key 6 i t hu) hq) (wh _) hk];exact h
theorem qCX(hT:qaS C ex ops l s0){k:Nat}{t:Tmp}(hk:k<=ops.size)(h:qaU s0.tm ops k t=true):qCP ((F ops.toList l s0 qi k).tm.getD t .dead)=true\/(F ops.toList l s0 qi k).tm.getD t .dead = .tup []\/(F ops.toList l s0 qi k).tm.getD t .dead = .dead:=by
 unfold qaU at h;split at h
 case h_2=>cases h
 rename_i u hu
 have key:∀(n k:Nat) (t:Tmp),k<=ops.size->qhH ops n k t=some u->qCP ((F ops.toList l s0 qi k).tm.getD t .dead)=true\/(F ops.toList l s0 qi k).tm.getD t .dead = .tup []\/(F ops.toList l s0 qi k).tm.getD t .dead = .dead:=by
  intro n
  induction n with
  | zero=>intro k t _ h;cases h
  | succ n ih =>
    intro k t hk hu;rw[qhH]at hu;split at hu
    ·rename_i hw;cases hu;left;rw[qfc hT.recd (a:=0) (λ k q _ hq=>qgx hw hq) (wh _) hk];exact h
    ·rename_i o i hw;obtain⟨ho,hd,hother⟩:=qnS hw;split at hu
     case h_2=>cases hu
     rename_i u' hop hik;have hik:=of_decide_eq_true hik;have hsz:i<ops.size:=(Array.getElem?_eq_some_iff.1 ho).1;have hv:=ih i u' (by omega) hu;rw[qfc hT.recd (a:=i+1) (λ k q hle hq=>hother k q hq (by omega)) (by omega) hk];obtain⟨y,h1,h2,_⟩:=hT.st i o ho;obtain⟨z,h3,_,hF⟩:=j9 hT.recd ho;rw[h1]at h3;cases h3;rw[hF,if_pos (show qi i=true from rfl),qnc _ _ _ _ hd];split
     ·rcases h2 with⟨_,h2⟩ | ⟨_,h2⟩
      ·unfold qCF at hop;split at hop<;>cases hop
       ·rename_i e;rw[e]at h2;simp only[opA,qc]at h2;split at h2<;>try cases h2
        split at h2<;>try cases h2
        split at h2<;>try cases h2
        have hav:aev (F ops.toList l s0 qi i).tm (.tmp u')=(F ops.toList l s0 qi i).tm.getD u' .dead:=rfl;rw[hav]at h2;rcases hv with hv | hv | hv
        ·cases hg:(F ops.toList l s0 qi i).tm.getD u' .dead<;>rw[hg]at hv h2<;>first | (cases hv;done) | (cases h2;exact .inl rfl)
        ·rw[hv]at h2;cases h2
        ·rw[hv]at h2;cases h2
       ·rename_i e;rw[e]at h2;cases h2;exact hv
       ·rename_i e;rw[e]at h2;cases h2;exact hv
       ·rename_i e;rw[e]at h2;simp only[opA,qc]at h2;have hav:aev (F ops.toList l s0 qi i).tm (.tmp u')=(F ops.toList l s0 qi i).tm.getD u' .dead:=rfl;rw[hav]at h2;rcases hv with hv | hv | hv
        ·cases hg:(F ops.toList l s0 qi i).tm.getD u' .dead<;>rw[hg]at hv h2<;>first | (cases hv;done) | (cases h2;exact .inl rfl)
        ·rw[hv]at h2;cases h2
        ·rw[hv]at h2;cases h2
      ·rw[h2];exact .inr (.inl rfl)
     ·exact .inr (.inr rfl)
    ·cases hu
 exact key 6 k t hk hu
theorem qkJ{b:Nat->Bool}{o:Oper}{t:TypeId}{a:Operand}(h:o.op=.load t a):qM b o.op=false:=by rw[h];rfl
theorem qpW{b:List AV}{j i:Nat}{o q:Oper}(c:qM C.lo q.op=true)(ho:∀t a,o.op=.load t (.tmp a)->zR b ops j a=none/\qaU b ops j a=false):qcF b ops j o i q=false:=by
 grind [qcF,qff,Bool.or_eq_false_iff,qkJ]
theorem qre{b:List AV}{j i:Nat}{o q:Oper}{t:TypeId}{a:Tmp}(ho:o.op=.load t (.tmp a))(h:qcF b ops j o i q=true):(∃e c v x,q.op=.store e (.tmp c) v/\zR b ops i c=some x/\((∃y,zR b ops j a=some y/\x≠y)\/zR b ops j a=none/\qaU b ops j a=true))\/zR b ops j a≠none/\(∃as ts,q.op=.call ⟨.builtin .append,as,ts⟩)\/zR b ops j a≠none/\∃g as ts,q.op=.call ⟨.value g,as,ts⟩:=by
 unfold qcF at h;rw[wW]at h;obtain h|h:=h
 .grind [qff]
 .unfold qff at h;split at h
  .rename_i r u n p s m d;rw[ho]at d;cases d;split at h
   .rename_i x y k f;exact .inl ⟨_,_,_,x,m,k,.inl ⟨y,f,λ l=>by rw[l]at h;simp at h⟩⟩
   .grind
   .cases h
  .grind
  .grind
  .cases h
theorem qht{a:Nat->Bool}{op:Op}(h:qM a op=true):qh1 a op=false:=by
 unfold qM at h;unfold qh1;grind
theorem qtr{a:Nat->Bool}{b:List AV}{j i:Nat}{o q:Oper}(d:qM a o.op=true)(c:qM a q.op=true):qfy a b ops j o i q=true:=by
 have e:qcF b ops j o i q=false:=by
  grind [qcF,qff,qkJ,Bool.or_eq_false_iff]
 simp only[qfy,qkn,qgR,d,c,qht d,qht c,e,Bool.and_false,vc,kY,xx]
theorem qwr{a:Nat->Bool}(h:qam a ops=true):∀(i j:Nat) (o q:Oper),ops[j]?=some o->ops[i]?=some q->i≠j->qkj a ops o q=true->((jF ops.toList []).getD (max i j) 0).testBit (min i j)=true:=by
 have b:∀(i:Nat) (o:Oper),ops[i]?=some o->(o,i)∈ops.toList.zipIdx:=λ i o ho=>by
  grind
 simp only[qam,wo,wb,decide_eq_true_eq,wW,wJ]at h;grind
theorem qfT{a:Nat->Bool}{b:List AV}(h:JK a b ops=true):qam a ops=true:=by
 simp only[JK,wo,wb,decide_eq_true_eq,wW,wJ]at h;simp only[qam,wo,wb,decide_eq_true_eq,wW,wJ];intro p hp;let⟨e,d⟩:=h p hp;refine⟨e,λ q c=>?_⟩;obtain (g|g)|g:=d q c
 .exact .inl (.inl g)
 .refine .inl (.inr ?_);unfold qkj;grind [qfy,Bool.or_eq_false_iff,qtr]
 .exact .inr g
theorem qBx{a:Nat->Bool}(hk:qam a ops=true)(hd:qag ops L){i j:Nat}{o q:Oper}(ho:ops[j]?=some o)(c:ops[i]?=some q)(b:i≠j)(d:qkj a ops o q=true)(hL:L j=false)(hp:∀e∈yt o,L e=true):(i<j->L i=true)/\(j<i->L i=false):=
 qsr hd ho c b (qwr hk i j o q ho c b d) hL hp
def qcw(σ:St)(b:Nat):Option (List AV):=match σ.bx[b]? with
 |some cs=>match noMc cs with
   |true=>some cs
   |false=>none
 |none=>none
def qj1(σ:St):List Row×(Nat->Option (List AV)):=(σ.rw,qcw σ)
theorem qrl{s:S}{op:Op}{x:AV}{σ':St}(a:qmc op=true)(h:opA C ex s.tm s.σ op=some (x,some σ')):qj1 σ'=qj1 s.σ:=by
 unfold qmc at a;split at a<;>try cases a
 rename_i t q;cases q with
 |some q=>simp only[opA,qc]at h;cases h
 |none=>
   simp only[opA,qc]at h;split at h<;>cases h;refine Prod.ext rfl (funext λ b=>?_);rename_i d e c i g _;show qcw {s.σ with bx:=s.σ.bx++[[.mc d e c [] []]]} b=qcw s.σ b;unfold qcw;by_cases f:b<s.σ.bx.length
   .grind
   .rw[List.getElem?_append_right (by omega),List.getElem?_eq_none (l:=s.σ.bx) (by omega)];cases b-s.σ.bx.length<;>rfl
theorem qor{d:TD}{σ:St}{b o:Nat}:yu d σ (.ptr b o)=match qcw σ b with|some cs=>qap d.agg d.size cs o|none=>none:=by
 simp only[yu,qcw];grind
theorem qz6{d:TD}{σ σ':St}{p:AV}(h:qj1 σ'=qj1 σ):yu d σ' p=yu d σ p:=by
 have c:σ'.rw=σ.rw:=congrArg Prod.fst h;have a:qcw σ'=qcw σ:=congrArg Prod.snd h;cases p with
 |ptr b o=>rw[qor,qor,a]
 |rpt r i o e=>simp only[yu,c]
 |_=>rfl
theorem qxb{a:List AV}{σ σ':St}{t:TypeId}{x i:Operand}(h:σ'.rw=σ.rw):qc C a σ' (.indexAddr t x i)=qc C a σ (.indexAddr t x i):=by
 simp only[qc,h]
mutual
theorem qzV(fb fr:Nat->Nat):∀x:AV,rb (ren fb fr x)=[]->rr (ren fb fr x)=[]->rb x=[]/\rr x=[]
 |.ptr b o,h,_|.mp b,h,_=>by simp[ren,rb]at h
 |.rs ..,_,h|.rpt ..,_,h=>by simp[ren,rr]at h
 |.fn f cs,h,g|.agg cs,h,g|.tup cs,h,g=>qnk fb fr cs h g
 |.v _,_,_|.dead,_,_|.sl ..,_,_|.ept ..,_,_|.mc ..,_,_=>⟨rfl,rfl⟩
theorem qnk(fb fr:Nat->Nat):∀cs:List AV,rbL (qD fb fr cs)=[]->rrL (qD fb fr cs)=[]->rbL cs=[]/\rrL cs=[]
 |[],_,_=>⟨rfl,rfl⟩
 |x::cs,h,g=>by
   rw[qD,rbL,kg]at h;rw[qD,rrL,kg]at g;let⟨d,c⟩:=qzV fb fr x h.1 g.1;let⟨b,a⟩:=qnk fb fr cs h.2 g.2;grind [rbL,rrL]
end
theorem qpH{σ σ':St}{a:List AV}{c:St->List AV->Option (AV×Option St)}{r:AV}(m:rbL a=[])(l:rrL a=[])(s:yo r=true)(h:jh σ a c=some (r,none)):jh σ' a c=some (r,none):=by
 have i:∀τ:St,yR τ a=[]:=λ τ=>by
  unfold yR;rw[m];show qg0 τ.bx τ.bx.length []=[];cases τ.bx.length<;>rfl
 have j:∀τ:St,JB τ a=[]:=λ τ=>by
  unfold JB;rw[i,l];rfl
 have p:∀τ:St,qcY τ a=true:=λ τ=>by
  unfold qcY;rw[i,j,m,l];rfl
 unfold jh at h |-
 rw[p]at h |-
 rw[i,j]at h |-
 simp only at h |-
 have e:qr σ' [] []=qr σ [] []:=rfl;rw[e];cases k:c (qr σ [] []) (qD (λ b=>List.idxOf b []) (λ r=>List.idxOf r []) a)with
 |none=>rw[k]at h;cases h
 |some n=>
 rw[k]at h;let⟨x,o⟩:=n;cases o with
 |some τ=>cases h
 |none=>
   simp only[qcU,wn,wG,and_true]at h
   have q:∀(fb fr f d:Nat->Nat),yo (ren fb fr x)=true->ren fb fr x=ren f d x:=λ fb fr f d g=>by
    have g:=g;unfold yo at g;rw[wb,xq,xq]at g;grind [qzV,ql1]
   grind [qcU]
theorem qzE{σ σ':St}{f:Nat}{b:List AV}{x:AV}(y:C.lo f=false)(h:σ'.rw=σ.rw)(e:qaW C ex σ f b=some (x,none)):qaW C ex σ' f b=some (x,none):=by
 unfold qaW at e |-
 rw[y]at e |-
 simp only at e |-
 rw[h];split at e<;>try cases e
 rename_i m d;split at e<;>try cases e
 rename_i D E c;split at e<;>cases e;rename_i i
 have p:rbL (b.map (yb σ.rw))=[]/\rrL (b.map (yb σ.rw))=[]:=by
  generalize b.map (yb σ.rw)=l at d
  induction l with
  |nil=>exact⟨rfl,rfl⟩
  |cons a l u=>
    simp only[noRefs,ke,wb]at d;have g:=d.1;unfold yo at g;rw[wb,xq,xq]at g;let⟨w,v⟩:=u d.2;exact⟨by rw[rbL,g.1,w];rfl,by rw[rrL,g.2,v];rfl⟩
 have r:JC C ex σ' f b=some (x,none):=by
  unfold JC qdM at c |-
  rw[m]at c |-
  simp only at c |-
  rw[h];cases k:b.flatMap rsA with
  |nil=>
    rw[k]at c;exact qpH p.1 p.2 i c
  |cons q l=>
    rw[k]at c;simp only at c |-
    have n:∀o,jh {σ with rw:=frz σ.rw (q::l),wrr:=(q::l)++σ.wrr} (b.map (yb σ.rw)) (λ σ b=>JP C ex σ f b)=some (o,none)->yo o=true->jh {σ' with rw:=frz σ.rw (q::l),wrr:=(q::l)++σ'.wrr} (b.map (yb σ.rw)) (λ σ b=>JP C ex σ f b)=some (o,none):=λ o e1 A=>qpH p.1 p.2 A e1;cases j:jh {σ with rw:=frz σ.rw (q::l),wrr:=(q::l)++σ.wrr} (b.map (yb σ.rw)) (λ σ b=>JP C ex σ f b)with
    |none=>rw[j]at c;cases c
    |some z=>
      rw[j]at c;let⟨B,t⟩:=z;cases t with
      |some τ=>cases c
      |none=>
        simp only[qjs]at c;split at c<;>cases c;rename_i s;rw[n _ j i];simp only[qjs,s]
 rw[r];simp only[i]
theorem qzW{b:List AV}{σ σ':St}{op:Op}{x:AV}(c:qh1 C.lo op=true)(e:qj1 σ'=qj1 σ)(h:opA C ex b σ op=some (x,none)):opA C ex b σ' op=some (x,none):=by
 have d:σ'.rw=σ.rw:=congrArg Prod.fst e;unfold qh1 at c;split at c<;>try cases c
 .rename_i t a;simp only[opA,qc]at h |-
  grind [qz6]
 .rename_i t a i;have h:qc C b σ (.indexAddr t a i)=some (x,none):=h;show qc C b σ' (.indexAddr t a i)=some (x,none);rw[qxb d];exact h
 .grind [opA,qdo,aev,Bool.not_eq_true',qzE]
theorem qq1{f:Type}:∀(a:List Nat) (l xs:List f) (b:Nat),b<l.length->b ∉ a->(qY l a xs)[b]?=l[b]?
 |[],l,xs,b,d,_=>by rw[qY,List.getElem?_append_left d]
 |c::a,l,[],b,d,_=>rfl
 |c::a,l,x::xs,b,d,e=>by
   rw[qY,qq1 a _ xs b (by rw[wE];exact d) λ h=>e (wj _ h),List.getElem?_set_ne λ h=>e (by rw[h];exact ww ..)]
theorem qCb{j:List AV}{σ σ':St}{g:Operand}{as:Array Operand}{ts:Array TypeId}{x:AV}(h:opA C ex j σ (.call ⟨.value g,as,ts⟩)=some (x,some σ')){b:Nat}(l:b<σ.bx.length)(c:b ∉ qqR C j σ (.call ⟨.value g,as,ts⟩)):σ'.bx[b]?=σ.bx[b]?:=by
 simp only[opA]at h;simp only[qqR]at c;split at h<;>try cases h
 rename_i f d s;rw[s]at c;have c:b ∉ (match C.inl f with|some _=>List.range σ.bx.length|none=>match qdM C σ f (as.toList.map (aev j)++d)with|(a,none)=>yR σ a|(a,some σ')=>yR σ' a):=c;obtain⟨fn,y,_⟩|h:=qju h
 .grind
 cases k:C.inl f with
 |some fn=>rw[k]at c;exact absurd (kM.2 l) c
 |none=>
 rw[k]at c;have c:b ∉ (match qdM C σ f (as.toList.map (aev j)++d)with|(a,none)=>yR σ a|(a,some σ')=>yR σ' a):=c
 have m:∀{τ i:St}{a:List AV}{e:St->List AV->Option (AV×Option St)}{z:AV},jh τ a e=some (z,some i)->b<τ.bx.length->b ∉ yR τ a->i.bx[b]?=τ.bx[b]?:=by
  intro τ i a e z h l c;unfold jh at h;split at h<;>try cases h
  split at h<;>try cases h
  rename_i r v;let⟨u,q⟩:=r;cases q with
  |none=>simp[qcU]at h
  |some n=>
    simp only[qcU,wn,wG]at h;rw[<-h.2];exact qq1 _ _ _ _ l c
 unfold JC at h;generalize w:qdM C σ f (as.toList.map (aev j)++d)=p at h c;let⟨a,o⟩:=p;cases o with
 |none=>exact m h l c
 |some σ1=>
   have t:σ1.bx=σ.bx:=by
    grind [qdM]
   have c:b ∉ yR σ1 a:=c;simp only at h;unfold qjs at h;grind
theorem qAG{s:S}{q:Oper}{as:Array Operand}{ts:Array TypeId}{x:AV}{σ':St}(c:q.op=.call ⟨.builtin .append,as,ts⟩)(h:opA C ex s.tm s.σ q.op=some (x,some σ')):σ'.bx=s.σ.bx:=by
 rw[c]at h;simp only[opA]at h;generalize as.toList.map (aev s.tm)=b at h
 have a:∀k bytes p xs,zh k bytes s.σ p xs=some (x,some σ')->σ'.bx=s.σ.bx:=by
  intro k bytes p xs h;unfold zh at h;grind
 unfold yq at h;split at h<;>try cases h
 all_goals repeat' (first|(cases h;done)|exact a _ _ _ _ h|split at h)
theorem qeA{s:S}{q:Oper}{t:TypeId}{c:Tmp}{v:Operand}{x:AV}{σ':St}(j:q.op=.store t (.tmp c) v)(h:opA C ex s.tm s.σ q.op=some (x,some σ')):(∃b o,s.tm.getD c .dead=.ptr b o/\σ'.rw=s.σ.rw/\∀a,a≠b->σ'.bx[a]?=s.σ.bx[a]?)\/∃r i o g,s.tm.getD c .dead=.rpt r i o g:=by
 rw[j]at h;simp only[opA,qc]at h;split at h<;>try cases h
 .rename_i d b o hd f;split at h<;>try cases h
  split at h<;>cases h;exact .inl ⟨b,o,f,rfl,λ a e=>by simp only[List.getElem?_set_ne (xw e)]⟩
 .rename_i d r i o g hd f;exact .inr ⟨r,i,o,g,f⟩
section
variable (hR:qoS C ops l) (hk:qam C.lo ops=true) (hd:qag ops L) {j:Nat}{o:Oper} (ho:ops[j]?=some o) (hL:L j=false) (hp:∀e∈yt o,L e=true)
include hR hk hd ho hL hp
theorem qhJ{t:Nat}(r:t∈Jp ops o):(F ops.toList l s0 L ops.size).tm.getD t .dead=(F ops.toList l s0 qi j).tm.getD t .dead:=by
 have u:j<ops.size:=(Array.getElem?_eq_some_iff.1 ho).1
 have f:∀{k:Nat}{q:Oper},ops[k]?=some q->k≠j->q.dst=some t->(k<j->L k=true)/\(j<k->L k=false):=λ c n a=>
  qBx hk hd ho c n (by simp[qkj,a,r]) hL hp
 have i:∀k,k<=j->(F ops.toList l s0 L k).tm.getD t .dead=(F ops.toList l s0 qi k).tm.getD t .dead:=by
  intro k
  induction k with
  |zero=>intro _;rfl
  |succ k d=>
    intro p;obtain⟨q,c⟩:=yg (ops:=ops) (k:=k) (by omega);obtain⟨y,_,_,g⟩:=j9 hR c;rw[g L,g qi,if_pos (show qi k=true from rfl)];by_cases a:q.dst=some t
    .rw[if_pos ((f c (by omega) a).1 (by omega)),qnc _ _ _ _ a,qnc _ _ _ _ a,qua,qua]
    .rw[qgC _ _ _ _ a];split
     .rw[qgC _ _ _ _ a];exact d (by omega)
     .exact d (by omega)
 have e:∀m,j+m<=ops.size->(F ops.toList l s0 L (j+m)).tm.getD t .dead=(F ops.toList l s0 L j).tm.getD t .dead:=by
  intro m
  induction m with
  |zero=>intro _;rfl
  |succ m d=>
    intro p;obtain⟨q,c⟩:=yg (ops:=ops) (k:=j+m) (by omega);obtain⟨y,_,_,g⟩:=j9 hR c;show(F ops.toList l s0 L (j+m+1)).tm.getD t .dead=_;rw[g L];split
    .rename_i b;have s:m≠0:=λ h=>by subst h;rw[wL,hL]at b;cases b
     rw[qgC _ _ _ _ λ a=>by have:=(f c (by omega) a).2 (by omega);rw[this]at b;cases b];exact d (by omega)
    .exact d (by omega)
 have:=e (ops.size-j) (by omega);rw[show j+(ops.size-j)=ops.size by omega]at this;rw[this,i j (wa _)]
theorem qyc{y:AV×Option St}(p:l[j]?=some y)(n:y.2.isSome=true->qM C.lo o.op=true):F ops.toList l s0 (λ i=>decide (i=j)||L i) ops.size=zd (F ops.toList l s0 L ops.size) o y:=by
 have E:j<ops.size:=(Array.getElem?_eq_some_iff.1 ho).1;have f:∀k,k≠j->(decide (k=j)||L k)=L k:=λ k hk=>by simp[hk]
 have h:F ops.toList l s0 (λ i=>decide (i=j)||L i) j=F ops.toList l s0 L j:=qud j λ i G=>f i (by omega)
 have b:∀m,j+1+m<=ops.size->F ops.toList l s0 (λ i=>decide (i=j)||L i) (j+1+m)=zd (F ops.toList l s0 L (j+1+m)) o y:=by
  intro m
  induction m with
  |zero=>
    intro _;obtain⟨z,g,_,c⟩:=j9 hR ho;rw[p]at g;cases g;show F _ _ _ _ (j+1)=zd (F _ _ _ _ (j+1)) o y;rw[c,c,if_pos (by simp),h,hL];simp
  |succ m x=>
    intro B;obtain⟨q,s⟩:=yg (ops:=ops) (k:=j+1+m) (by omega);obtain⟨z,_,D,c⟩:=j9 hR s;show F _ _ _ _ (j+1+m+1)=zd (F _ _ _ _ (j+1+m+1)) o y;rw[c,c];have e:=f (j+1+m) (by omega);rw[e,x (by omega)];split
    .rename_i a;refine qAy _ _ _ _ _ (λ d r t=>?_) ?_
     .have:=(qBx hk hd ho s (by omega) (by simp[qkj,r,Jp,t]) hL hp).2 (by omega);rw[this]at a;cases a
     .cases A:y.2 with
      |none=>exact .inl rfl
      |some σ1=>
        cases g:z.2 with
        |none=>exact .inr rfl
        |some w=>
          have:=(qBx hk hd ho s (by omega) (by
           have v:=n (by rw[A];rfl);have u:=D (by rw[g];rfl);simp only[qkj,v,u,kF,vc]) hL hp).2 (by omega)
          rw[this]at a;cases a
    .rfl
 have:=b (ops.size-(j+1)) (by omega);grind
end
variable (hT:qaS C ex ops l s0) (hk:JK C.lo s0.tm ops=true) (hd:qag ops L) {j:Nat}{o:Oper} (ho:ops[j]?=some o) (hL:L j=false) (hp:∀e∈yt o,L e=true)
include hT hk hd ho hL hp
theorem qyw(w:(yQ o.op||qM C.lo o.op)=true)(r:qh1 C.lo o.op=false)(u:∀t a,o.op=.load t (.tmp a)->zR s0.tm ops j a=none/\qaU s0.tm ops j a=false):(F ops.toList l s0 L ops.size).σ=(F ops.toList l s0 qi j).σ:=by
 have z:j<ops.size:=(Array.getElem?_eq_some_iff.1 ho).1
 have i:∀{k:Nat}{q:Oper},ops[k]?=some q->k≠j->qM C.lo q.op=true->(k<j->L k=true)/\(j<k->L k=false):=λ d s e=>
  ord hk hd ho d s (by simp only[qfy,qkn,qgR,e,w,r,qpW e u,Bool.and_false,kY,vc,xx]) hL hp
 have p:∀k,k<=j->(F ops.toList l s0 L k).σ=(F ops.toList l s0 qi k).σ:=by
  intro k
  induction k with
  |zero=>intro _;rfl
  |succ k f=>
    intro v;obtain⟨q,d⟩:=yg (ops:=ops) (k:=k) (by omega);obtain⟨y,_,e,n⟩:=j9 hT.recd d;rw[n L,n qi,if_pos (show qi k=true from rfl)];cases c:y.2 with
    |none=>
      rw[putS_σ _ _ _ c];split
      .rw[putS_σ _ _ _ c];exact f (by omega)
      .exact f (by omega)
    |some σ'=>
      rw[if_pos ((i d (by omega) (e (by rw[c];rfl))).1 (by omega))];simp[zd,c,turn]
 have g:∀m,j+m<=ops.size->(F ops.toList l s0 L (j+m)).σ=(F ops.toList l s0 L j).σ:=by
  intro m
  induction m with
  |zero=>intro _;rfl
  |succ m f=>
    intro v;obtain⟨q,d⟩:=yg (ops:=ops) (k:=j+m) (by omega);obtain⟨y,_,e,n⟩:=j9 hT.recd d;show(F ops.toList l s0 L (j+m+1)).σ=_;rw[n L];split
    .rename_i b;have x:m≠0:=λ h=>by subst h;rw[wL,hL]at b;cases b
     cases c:y.2 with
     |none=>rw[putS_σ _ _ _ c];exact f (by omega)
     |some σ'=>
       have:=(i d (by omega) (e (by rw[c];rfl))).2 (by omega);rw[this]at b;cases b
    .exact f (by omega)
 have:=g (ops.size-j) (by omega);rw[show j+(ops.size-j)=ops.size by omega]at this;rw[this,p j (wa _)]
omit hp in
theorem qlW{Q:Type}(c:St->Q)(I:qM C.lo o.op=false)
  (g:∀{k:Nat}{q:Oper}{y:AV×Option St}{σ':St},ops[k]?=some q->l[k]?=some y->k≠j->y.2=some σ'->qM C.lo q.op=true->
   ((k<j->L k=true)/\(j<k->L k=false))\/c σ'=c (F ops.toList l s0 qi k).σ):c (F ops.toList l s0 L ops.size).σ=c (F ops.toList l s0 qi j).σ:=by
 have W:j<ops.size:=(Array.getElem?_eq_some_iff.1 ho).1
 have E:∀k,k<=j->c (F ops.toList l s0 L k).σ=c (F ops.toList l s0 qi k).σ:=by
  intro k
  induction k with
  |zero=>intro _;rfl
  |succ k u=>
    intro K;obtain⟨q,p⟩:=yg (ops:=ops) (k:=k) (by omega);obtain⟨y,t,N,A⟩:=j9 hT.recd p;rw[A L,A qi,if_pos (show qi k=true from rfl)];cases d:y.2 with
    |none=>
      rw[putS_σ _ _ _ d];split
      .rw[putS_σ _ _ _ d];exact u (by omega)
      .exact u (by omega)
    |some σ'=>
      rcases g p t (by omega) d (N (by rw[d];rfl))with h|h
      .rw[if_pos (h.1 (by omega))];simp[zd,d,turn]
      .have e:∀s:S,(zd s q y).σ=σ':=λ s=>by simp[zd,d,turn]
       rw[e,h];split
       .rw[e,h]
       .exact u (by omega)
 have z:∀m,j+m<=ops.size->c (F ops.toList l s0 L (j+m)).σ=c (F ops.toList l s0 L j).σ:=by
  intro m
  induction m with
  |zero=>intro _;rfl
  |succ m u=>
    intro K;obtain⟨q,p⟩:=yg (ops:=ops) (k:=j+m) (by omega);obtain⟨y,t,N,A⟩:=j9 hT.recd p;show c (F ops.toList l s0 L (j+m+1)).σ=_;rw[A L];split
    .rename_i f;have V:m≠0:=λ h=>by subst h;rw[wL,hL]at f;cases f
     cases d:y.2 with
     |none=>rw[putS_σ _ _ _ d];exact u (by omega)
     |some σ'=>
       have x:=N (by rw[d];rfl);rcases g p t (by omega) d x with h|h
       .have:=h.2 (by omega);rw[this]at f;cases f
       .have e:(zd (F ops.toList l s0 L (j+m)) q y).σ=σ':=by simp[zd,d,turn]
        rw[e,h]
        have G:∀n,j+n<=j+m->c (F ops.toList l s0 qi (j+n)).σ=c (F ops.toList l s0 qi j).σ:=by
         intro n
         induction n with
         |zero=>intro _;rfl
         |succ n v=>
           intro U;obtain⟨D,b⟩:=yg (ops:=ops) (k:=j+n) (by omega);obtain⟨y2,w,M,O⟩:=j9 hT.recd b;show c (F ops.toList l s0 qi (j+n+1)).σ=_;rw[O qi,if_pos (show qi (j+n)=true from rfl)];cases i:y2.2 with
           |none=>rw[putS_σ _ _ _ i];exact v (by omega)
           |some B=>
             have a:=M (by rw[i];rfl);by_cases J:n=0
             .subst J;rw[wL]at b;rw[ho]at b;cases b;rw[I]at a;cases a
             rcases g b w (by omega) i a with P|P
             .-- it lies ahead of the other loud one,which has come up
              exfalso;have H:=P.2 (by omega);have R:qfy C.lo s0.tm ops (j+m) q (j+n) D=true:=qtr x a;have r:=(qeT hk).2 (j+n) (j+m) q D p b (by omega) R;rw[Nat.max_eq_right (by omega),kh (by omega)]at r;have:=qf3 hd (j+m) q p (hd (j+m) q p f) r;rw[H]at this;cases this
             .have T:(zd (F ops.toList l s0 qi (j+n)) D y2).σ=B:=by simp[zd,i,turn]
              rw[T,P];exact v (by omega)
        rw[G m (wa _),E j (wa _)]
    .exact u (by omega)
 have:=z (ops.size-j) (by omega);grind
theorem qA4{t:TypeId}{a:Tmp}{b':Nat}(hop:o.op = .load t (.tmp a))(hbx:zR s0.tm ops j a=some b'):qcw (F ops.toList l s0 L ops.size).σ b'=qcw (F ops.toList l s0 qi j).σ b':=by
 have see:∀{σ σ':St},σ'.bx[b']? = σ.bx[b']? -> qcw σ' b'=qcw σ b' := λ h=>by unfold qcw;rw[h]
 have hj:j<ops.size:=(Array.getElem?_eq_some_iff.1 ho).1;have hrd:yQ o.op=true:=by rw[hop];rfl
 refine qlW hT hk hd ho hL (λ σ => qcw σ b') (by rw[hop];rfl) ?_
 show ∀{k:Nat} {q:Oper} {y:AV × Option St} {σ':St},ops[k]?=some q->l[k]?=some y->k≠j->y.2=some σ'->qM C.lo q.op=true ->
  ((k<j->L k=true)/\(j<k->L k=false))\/qcw σ' b'=qcw (F ops.toList l s0 qi k).σ b'
 ·intro k q y σ' hq hy hne hy2 hl;by_cases hmk:qmc q.op=true
  ·obtain⟨z,hz,hstep,_⟩:=hT.st k q hq;rw[hy]at hz;cases hz;obtain⟨y1,y2⟩:=y;simp only at hy2;subst hy2;rcases hstep with⟨_,hs⟩ | ⟨_,hs⟩
   ·exact .inr (congrFun (congrArg Prod.snd (qrl hmk hs)) b')
   ·cases hs
  rw[xC]at hmk;cases hap:qcF s0.tm ops j o k q with
  | false=>exact .inl (ord hk hd ho hq hne (by simp only[qfy,qkn,qgR,hl,hrd,hmk,hap,xh,kY,vd,vc,xx]) hL hp)
  | true =>
    obtain⟨z,hz,hstep,_⟩:=hT.st k q hq;rw[hy]at hz;cases hz;obtain⟨y1,y2⟩:=y;simp only at hy2;subst hy2;rcases qre hop hap with⟨t',c,v,x,h1,h2,h3⟩ | ⟨_,as,ts,h1⟩ | ⟨_,g,as,ts,h1⟩
    case inr.inr =>
     have hsp:=hT.sp k q _ hq hy rfl;have hks:k<=ops.size:=xr (Array.getElem?_eq_some_iff.1 hq).1;rw[h1]at hsp;unfold Js at hstep;rw[h1]at hstep;unfold qar at hsp;rw[show qr8 (.call ⟨.value g,as,ts⟩)=true from rfl,wab,vA,wo]at hsp;have hsj:=hsp (o,j) (by rw[kU];simpa using ho);simp only[hop]at hsj;rw[qCB hT hks hbx]at hsj;simp only[wW,wb,decide_eq_true_eq,wJ]at hsj;grind [qsr,Nat.max_comm,Nat.min_comm,qCb]
    all_goals right
    case inr.inl =>
     rcases hstep with⟨_,hs⟩ | ⟨_,hs⟩
     ·grind [qAG]
     ·cases hs
    rcases h3 with⟨y',h3,h4⟩ | ⟨h3,_⟩
    case inr=>rw[hbx]at h3;cases h3
    rw[hbx]at h3;cases h3;rcases hstep with⟨_,hs⟩ | ⟨_,hs⟩
    ·have hks:k<=ops.size:=xr (Array.getElem?_eq_some_iff.1 hq).1;rcases qeA h1 hs with⟨b,off,g1,_,g2⟩ | ⟨r',i',o',ep',g1⟩
     ·rcases qjQ hT hks h2 with⟨off',g3⟩ | g3 | g3
      ·grind
      ·rw[g3]at g1;cases g1
      ·rw[g3]at g1;cases g1
     ·rcases qjQ hT hks h2 with⟨off',g3⟩ | g3 | g3
      ·rw[g3]at g1;cases g1
      ·rw[g3]at g1;cases g1
      ·rw[g3]at g1;cases g1
    ·cases hs
theorem qBv{t:TypeId}{a:Tmp}(hop:o.op = .load t (.tmp a))(hbx:zR s0.tm ops j a=none):(F ops.toList l s0 L ops.size).σ.rw=(F ops.toList l s0 qi j).σ.rw:=by
 have hrd:yQ o.op=true:=by rw[hop];rfl
 refine qlW hT hk hd ho hL (λ σ => σ.rw) (by rw[hop];rfl) ?_;intro k q y σ' hq hy hne hy2 hl;by_cases hmk:qmc q.op=true
 ·obtain⟨z,hz,hstep,_⟩:=hT.st k q hq;rw[hy]at hz;cases hz;obtain⟨y1,y2⟩:=y;simp only at hy2;subst hy2;rcases hstep with⟨_,hs⟩ | ⟨_,hs⟩
  ·exact .inr (congrArg Prod.fst (qrl hmk hs))
  ·cases hs
 rw[xC]at hmk;cases hap:qcF s0.tm ops j o k q with
 | false=>exact .inl (ord hk hd ho hq hne (by simp only[qfy,qkn,qgR,hl,hrd,hmk,hap,xh,kY,vd,vc,xx]) hL hp)
 | true =>
   obtain⟨z,hz,hstep,_⟩:=hT.st k q hq;rw[hy]at hz;cases hz;obtain⟨y1,y2⟩:=y;simp only at hy2;subst hy2;rcases qre hop hap with⟨t',c,v,x,h1,h2,_⟩ | ⟨h,_⟩ | ⟨h,_⟩
   case inr.inl=>exact absurd hbx h
   case inr.inr=>exact absurd hbx h
   right;have hks:k<=ops.size:=xr (Array.getElem?_eq_some_iff.1 hq).1;rcases hstep with⟨_,hs⟩ | ⟨_,hs⟩
   ·rcases qeA h1 hs with⟨b,off,g1,g2,_⟩ | ⟨r',i',o',ep',g1⟩
    ·exact g2
    ·rcases qjQ hT hks h2 with⟨off',g3⟩ | g3 | g3<;>rw[g3]at g1<;>cases g1
   ·cases hs
theorem qAw(e:qh1 C.lo o.op=true)(g:yQ o.op=true)(i:∀t a,o.op=.load t (.tmp a)->zR s0.tm ops j a=none/\qaU s0.tm ops j a=false):qj1 (F ops.toList l s0 L ops.size).σ=qj1 (F ops.toList l s0 qi j).σ:=by
 refine qlW hT hk hd ho hL qj1 (by
  cases m:qM C.lo o.op with
  |false=>rfl
  |true=>rw[qht m]at e;cases e) ?_
 intro k q y σ' p s h d r;by_cases c:qmc q.op=true
 .let⟨z,n,b,_⟩:=hT.st k q p;rw[s]at n;cases n;let⟨y1,y2⟩:=y;simp only at d;subst d;obtain⟨_,f⟩|⟨_,f⟩:=b
  .exact .inr (qrl c f)
  .cases f
 .rw[xC]at c;exact .inl (ord hk hd ho p h (by simp only[qfy,qkn,qgR,r,g,c,qpW r i,xh,kY,vd,vc,xx]) hL hp)
theorem quz:∃y,l[j]?=some y/\Js C ex ops o (F ops.toList l s0 L ops.size) y/\F ops.toList l s0 (λ i=>decide (i=j)||L i) ops.size=zd (F ops.toList l s0 L ops.size) o y:=by
 have H:j<ops.size:=(Array.getElem?_eq_some_iff.1 ho).1;let⟨y,q,A,h⟩:=hT.st j o ho;refine⟨y,q,?_,?_⟩
 .have E:=qfS (ops:=ops) (o:=o) λ t G=>qhJ (s0:=s0) hT.recd (qfT hk) hd ho hL hp G
  have s:=qo8 (C:=C) (ex:=ex) (op:=o.op) (σ:=(F ops.toList l s0 L ops.size).σ) (qlZ (xs:=o.op.operands.toList) λ t G=>qhJ (s0:=s0) hT.recd (qfT hk) hd ho hL hp (t:=t) (by
   grind [Jp]))
  obtain⟨p,c⟩|⟨p,c⟩:=A
  .refine .inl ⟨E.trans p,?_⟩;rw[s];by_cases k:(yQ o.op||qM C.lo o.op)=true
   .by_cases m:∃t a b,o.op=.load t (.tmp a)/\zR s0.tm ops j a=some b
    .let⟨t,a,b,e1,w⟩:=m;have n:=qA4 hT hk hd ho hL hp e1 w;rw[e1]at c |-
     have B:j<=ops.size:=xr H;simp only[opA,qc]at c |-
     split at c<;>try cases c
     rename_i d D;have r:aev (F ops.toList l s0 qi j).tm (.tmp a)=(F ops.toList l s0 qi j).tm.getD a .dead:=rfl;rw[r]at c |-
     obtain⟨off,g⟩|g|g:=qjQ hT B w
     .grind [qor]
     .rw[g]at c;cases c
     .rw[g]at c;cases c
    .by_cases v:∃t a,o.op=.load t (.tmp a)/\qaU s0.tm ops j a=true
     .let⟨t,a,e1,w⟩:=v
      have I:=qBv hT hk hd ho hL hp e1 (by
       cases n:zR s0.tm ops j a with
       |none=>rfl
       |some b=>exact absurd ⟨t,a,b,e1,n⟩ m)
      rw[e1]at c |-
      simp only[opA,qc]at c |-
      split at c<;>try cases c
      rename_i d D;have r:aev (F ops.toList l s0 qi j).tm (.tmp a)=(F ops.toList l s0 qi j).tm.getD a .dead:=rfl;rw[r]at c |-
      obtain g|g|g:=qCX hT (xr H) w
      .cases J:(F ops.toList l s0 qi j).tm.getD a .dead<;>rw[J]at g c<;>first|(cases g;done)|skip
       .grind [yu]
       .exact c
      .rw[g]at c;cases c
      .rw[g]at c;cases c
     .have u:∀t a,o.op=.load t (.tmp a)->zR s0.tm ops j a=none/\qaU s0.tm ops j a=false:=λ t a p=>⟨by
        cases n:zR s0.tm ops j a with
        |none=>rfl
        |some b=>exact absurd ⟨t,a,b,p,n⟩ m,by
        cases n:qaU s0.tm ops j a with
        |false=>rfl
        |true=>exact absurd ⟨t,a,p,n⟩ v⟩
      cases e:qh1 C.lo o.op with
      |false=>rw[qyw hT hk hd ho hL hp k e u];exact c
      |true=>
        have f:qM C.lo o.op=false:=by
         cases f:qM C.lo o.op with
         |false=>rfl
         |true=>rw[qht f]at e;cases e
        rw[f,Bool.or_false]at k;have r:=qAw hT hk hd ho hL hp e k u;let⟨x,z⟩:=y;cases z with
        |some σ'=>have:=h rfl;rw[f]at this;cases this
        |none=>exact qzW e r c
   .simp only[xC,xg]at k;let⟨x,z⟩:=y;cases z with
    |none=>exact quC k.1 k.2 c
    |some σ'=>have:=h rfl;rw[k.2]at this;cases this
  .exact .inr ⟨E.trans p,c⟩
 .exact qyc (s0:=s0) hT.recd (qfT hk) hd ho hL hp q h
theorem qoO:∃y,Js C ex ops o (F ops.toList l s0 L ops.size) y/\F ops.toList l s0 (λ i=>decide (i=j)||L i) ops.size=zd (F ops.toList l s0 L ops.size) o y:=by
 grind [quz]
end
end Go.AmZ
namespace Go.AmZ
open Go Go.RowKit
theorem qyh(ops:List Oper):∀l:List Oper,qzw ops l<=l.length
 |[]=>wa _
 |o::r=>by
   unfold qzw;split
   .exact wh _
   .simpa using qyh ops r
theorem qmo(lo:Nat->Bool)(l:List Oper):qad lo l<=l.length:=qyh l l
theorem qmG(o:Oper):(yC o).dst=o.dst:=by unfold yC;split<;>rfl
theorem qw4(o:Oper):(yC o).guard=o.guard:=by unfold yC;split<;>rfl
theorem qiB(o:Oper):yt (yC o)=yt o:=by unfold yC;split<;>rfl
theorem qjP{lo:Nat->Bool}{l:List Oper}:(qs lo l).length=qad lo l:=by simp[qs,kh (qmo lo l)]
theorem qgY{lo:Nat->Bool}{l:List Oper}{j:Nat}(a:j<qad lo l):(qs lo l)[j]?=l[j]?.map yC:=by
 grind [qs]
theorem qpe{lo:Nat->Bool}{l:List Oper}{j:Nat}{o:Oper}(h:(qs lo l)[j]?=some o):j<qad lo l/\∃q,l[j]?=some q/\yC q=o:=by
 have a:j<qad lo l:=by rw[<-qjP (lo:=lo) (l:=l)];exact getElem?_lt h
 rw[qgY a]at h;grind
theorem qjU{lo:Nat->Bool}{ops:Array Oper}{c:List AV}{o:Oper}{b:Bool}(h:zw ⟨qs lo ops.toList⟩ c (yC o)=some b):zw ops c o=some b:=by
 unfold zw at h |-
 rw[qw4]at h;cases e:o.guard with
 |none=>rw[e]at h;exact h
 |some p=>
   let⟨j,a⟩:=p;rw[e]at h;simp only at h |-
   cases d:(qs lo ops.toList)[j]? with
   |none=>
     grind
   |some q=>
     let⟨l,f,i,g⟩:=qpe d;have e1:(⟨qs lo ops.toList⟩:Array Oper)[j]?=some q:=by simpa using d
     have k:ops[j]?=some f:=by simpa using i
     rw[e1]at h;rw[k];subst g;simp only[Option.bind_some,qmG]at h |-
     exact h
section
variable {P:Program}{C:Cfg}{Γ:Gh}{σ:St}{w:World}{ops:Array Oper}{ex:yE}{l:List (AV×Option St)}{s0:S}
theorem qqe{a:Array Bool}(h:a.toList.countP (λ b => !b)=0):∀i,i<a.size->a.getD i false=true:=by
 intro i c;rw[List.countP_eq_zero]at h;have:=h a[i] (by simp);simp only[wJ,Bool.not_eq_false]at this;rw[wH,Array.getElem?_eq_getElem c];simpa using this
theorem qxQ(hC:zp P C)(hx:qai P ex){G:(Nat->Bool)->S}{Good:(Nat->Bool)->Prop}(z:∀L j,Good L->Good (λ i=>decide (i=j)||L i))(H:∀(j:Nat) (o:Oper),ops[j]?=some o->∀e∈yt o,e<j)(I:∀L,(∀i,i<ops.size->L i=true)->G L=G qi)
  (t:∀(L:Nat->Bool) (j:Nat) (o:Oper),qag ops L->Good L->ops[j]?=some o->L j=false->(∀e∈yt o,L e=true)->∃y,Js C ex ops o (G L) y/\G (λ i=>decide (i=j)||L i)=zd (G L) o y) {Q:Exit->Act->World->Prop}:∀(d:Nat) (c:Array Bool) (Γ:Gh) (w:World) (a:Act),c.size=ops.size->c.toList.countP (λ b => !b)=d->qag ops (λ i=>c.getD i false)->Good (λ i=>c.getD i false)->
  Inv Γ (G (λ i=>c.getD i false)).σ w->qQ Γ (G (λ i=>c.getD i false)).tm a->
  (∀Γ' w' a',Ext Γ w Γ' w'->Inv Γ' (G qi).σ w'->qQ Γ' (G qi).tm a'->qv (G (λ i=>c.getD i false)).σ (G qi).σ->a'.defers=a.defers->Q .normal a' w')->
  wpAny P .any ops Q d c a w:=by
 intro d
 induction d with
 |zero=>
   intro c Γ w a g p M l D s V;have r:=qqe p
   have n:Region.ready .any ops c=[]:=by
    apply List.eq_nil_iff_forall_not_mem.2;intro j hj;let⟨h1,o,v,_⟩:=mem_ready.1 hj;grind
   have hF:G (λ i=>c.getD i false)=G qi:=I _ λ i D=>r i (by rw[g];exact D);rw[hF]at D s;exact⟨n,V Γ w a (.refl _ _) D s (by rw[hF];exact .refl _) rfl⟩
 |succ d ih=>
   intro c Γ w a g p M l D s V;refine⟨λ n=>?_,λ j hj=>?_⟩
   .exfalso
    have aa:∃i,i<c.size/\c.getD i false=false:=by
     apply kI;intro X
     have:c.toList.countP (λ b => !b)=0:=by
      rw[List.countP_eq_zero];intro b hb;obtain⟨i,f,rfl⟩:=List.getElem_of_mem hb;intro ad;refine X ⟨i,by simpa using f,?_⟩;rw[wH,Array.getElem?_eq_getElem (by simpa using f)];simpa using ad
     rw[p]at this;cases this
    let⟨i0,h0,h1⟩:=aa
    have O:∀i,i<c.size->c.getD i false=false->False:=by
     intro i
     induction i using Nat.strongRecOn with
     |_ i R=>
       intro f hf;let⟨o,v⟩:=yg (ops:=ops) (k:=i) (by rw[<-g];exact f)
       have hr:i∈Region.ready .any ops c:=by
        refine mem_ready.2 ⟨?_,o,v,λ e J hb=>?_⟩
        .rw[wH,Array.getElem?_eq_getElem f]at hf |-
         simpa using hf
        .have ab:e.on∈yt o:=wI.2 ⟨e,kE.2 ⟨by simpa using J,hb⟩,rfl⟩;have Y:=H i o v e.on ab;cases hc:c.getD e.on false with
         |true=>rfl
         |false=>exact(R e.on Y (by omega) hc).elim
       rw[n]at hr;cases hr
    exact O i0 h0 h1
   .let⟨h1,o,v,r⟩:=mem_ready.1 hj;have A:j<ops.size:=(Array.getElem?_eq_some_iff.1 v).1
    have hL:c.getD j false=false:=by
     grind
    have hp:∀e∈yt o,c.getD e false=true:=λ e J=>by
     obtain⟨ed,af,rfl⟩:=wI.1 J;grind
    let⟨y,hy,ae⟩:=t _ j o M l v hL hp
    have m:(λ i=>(c.setIfInBounds j true).getD i false)=λ i=>decide (i=j)||c.getD i false:=by
     funext i;by_cases B:i=j
     .subst B;rw[wH,Array.getElem?_setIfInBounds_self_of_lt (by rw[g];exact A)];simp
     .rw[getD_set_ne false (xw B)];simp[B]
    have F:(c.setIfInBounds j true).size=ops.size:=by rw[xA,g]
    have K:(c.setIfInBounds j true).toList.countP (λ b => !b)=d:=by
     have Z:j<c.toList.length:=by simp[g,A]
     rw[xi,List.countP_set (h:=Z),p]
     have:c.toList[j]=false:=by
      rw[wH,Array.getElem?_eq_getElem (by rw[g];exact A)]at hL;simpa using hL
     rw[this];simp
    have ac:qag ops (λ i=>(c.setIfInBounds j true).getD i false):=by
     rw[m];intro i q U f e J;simp only[wW,decide_eq_true_eq]at f |-
     obtain rfl|f:=f
     .grind
     .exact .inr (M i q U f e J)
    unfold wpOp;rw[v];simp only
    have next:∀Γ' w' u,Ext Γ w Γ' w'->Inv Γ' (turn (G (λ i=>c.getD i false)).σ y.2) w'->Rep Γ' y.1 u->qv (G (λ i=>c.getD i false)).σ (turn (G (λ i=>c.getD i false)).σ y.2)->
      wpAny P .any ops Q d (c.setIfInBounds j true) (a.put o.dst u) w':=by
     intro Γ' w' u e1 e2 e3 e4;have E:G (λ i=>(c.setIfInBounds j true).getD i false)=zd (G (λ i=>c.getD i false)) o y:=by rw[m];exact ae
     refine ih (c.setIfInBounds j true) Γ' w' (a.put o.dst u) F K ac (by rw[m];exact z _ j l) ?_ ?_ ?_
     .rw[E];exact e2
     .rw[E];exact qQ.put (war e1.le s) o.dst e3
     .intro N w2 a2 g1 g2 g3 g4 g5;rw[E]at g4;exact V N w2 a2 (e1.trans g1) g2 g3 (e4.trans g4) (by rw[g5];cases M:o.dst<;>rfl)
    obtain⟨T,W⟩|⟨T,rfl⟩:=hy
    .rw[if_pos (qex s T)];left;refine qzg hC hx D s W _ _ ?_;grind
    .rw[if_neg (by rw[qex s T];exact xd)];exact next Γ w undef (.refl _ _) D (.tup [] [] rfl λ i x u h=>by simp at h) (.refl _)
theorem qxl(p:zp P C)(n:qai P ex){Good:(Nat->Bool)->Prop}(g:∀L j,Good L->Good (λ i=>decide (i=j)||L i))(k:∀(j:Nat) (o:Oper),ops[j]?=some o->∀e∈yt o,e<j)
  (f:∀(L:Nat->Bool) (j:Nat) (o:Oper),qag ops L->Good L->ops[j]?=some o->L j=false->(∀e∈yt o,L e=true)->∃y,Js C ex ops o (F ops.toList l s0 L ops.size) y/\F ops.toList l s0 (λ i=>decide (i=j)||L i) ops.size=zd (F ops.toList l s0 L ops.size) o y) {Q:Exit->Act->World->Prop}:∀(d:Nat) (c:Array Bool) (Γ:Gh) (w:World) (a:Act),c.size=ops.size->c.toList.countP (λ b => !b)=d->qag ops (λ i=>c.getD i false)->Good (λ i=>c.getD i false)->
  Inv Γ (F ops.toList l s0 (λ i=>c.getD i false) ops.size).σ w->qQ Γ (F ops.toList l s0 (λ i=>c.getD i false) ops.size).tm a->
  (∀Γ' w' m,Ext Γ w Γ' w'->Inv Γ' (F ops.toList l s0 qi ops.size).σ w'->qQ Γ' (F ops.toList l s0 qi ops.size).tm m->qv (F ops.toList l s0 (λ i=>c.getD i false) ops.size).σ (F ops.toList l s0 qi ops.size).σ->m.defers=a.defers->Q .normal m w')->
  wpAny P .any ops Q d c a w:=
 qxQ (G:=λ L=>F ops.toList l s0 L ops.size) p n g k (λ _ h=>qud _ h) f
theorem qs9{lo:Nat->Bool}(h:qe4 lo ops.toList=true):
  (∀(j:Nat) (o:Oper),ops[j]?=some o->∀e∈yt o,e<j)/\
  (∀(j:Nat) (o:Oper),ops[j]?=some o->qad lo ops.toList<=j->∀i,i<j->((jF ops.toList []).getD j 0).testBit i=true\/(i<qad lo ops.toList/\∃q,ops[i]?=some q/\(qdY ops.toList q=true\/qnt ops.toList q=true/\qpq ops.toList o=true)))/\
  ∀(j:Nat) (o:Oper),ops[j]?=some o->qU o=true->o.guard=none/\∃d,o.dst=some d/\∀(k:Nat) (q:Oper),ops[k]?=some q->k≠j->q.dst≠some d:=by
 have a:∀(i:Nat) (o:Oper),ops[i]?=some o->(o,i)∈ops.toList.zipIdx:=λ i o c=>by
  grind
 simp only[qe4,wo,wb,wW,decide_eq_true_eq,wJ]at h;refine⟨λ j o c=>(h _ (a j o c)).1,λ j o c y i s=>?_,λ j o c t=>?_⟩
 .obtain b|b:=(h _ (a j o c)).2.1
  .rw[waa]at b;omega
  .obtain b|⟨l,f⟩:=b i (kM.2 s)
   .exact .inl b
   .rw[waa]at l;grind
 .obtain b|⟨l,f⟩:=(h _ (a j o c)).2.2
  .rw[t]at b;cases b
  .refine⟨Option.isNone_iff_eq_none.1 l,?_⟩;simp only at f;split at f
   .rename_i d m;refine⟨d,m,λ k q n p g=>?_⟩;have r:=wg f;let⟨x,w⟩:=xI.1 r;have v:(o,j)∈qaY ops.toList d:=kE.2 ⟨a j o c,by simp[qhK,m]⟩;have u:(q,k)∈qaY ops.toList d:=kE.2 ⟨a k q n,by simp[qhK,g]⟩;grind
   .cases f
theorem qbB{o:Oper}(a:qU o=true):∃e,o.op=.alloc e:=by
 grind [qU]
structure qgO (P:Program) (Γ:Gh) (w0 w:World) (ops:Array Oper) (L:Nat->Prop) (a:Act) (ad:Nat->Nat):Prop where
 blk:∀k o e d,L k->ops[k]?=some o->o.op=.alloc e->zJ P e=some d->d.zero.all qS=true->
  w0.heap.size<=ad k/\w.heap[ad k]?=some (.cells d.zero.toArray e (0,0))/\¬ jf Γ (ad k)/\∀i,Γ.mem (ad k) i=none
 tmp:∀k o e d u,L k->ops[k]?=some o->o.op=.alloc e->o.dst=some d->a.tmps[d]?=some u->u=.pointer (some ⟨ad k,0,none⟩)
 inj:∀k k' o o',L k->L k'->ops[k]?=some o->ops[k']?=some o'->qU o=true->qU o'=true->ad k=ad k'->k=k'
theorem qA8{a:Act}{d:Option Tmp}{u:Value}{t:Tmp}(h:d≠some t):(a.put d u).tmps[t]?=a.tmps[t]?:=by
 cases d with
 |none=>rfl
 |some d=>
   show(a.tmps.setIfInBounds d u)[t]?=_;grind
theorem qgO.step{L:Nat->Prop}{w0 w':World}{Γ':Gh}{a:Act}{ad:Nat->Nat}{d:Option Tmp}{u:Value}(h:qgO P Γ w0 w ops L a ad)(p:Ext Γ w Γ' w')
  (r:∀k o t,L k->ops[k]?=some o->qU o=true->o.dst=some t->d≠some t):qgO P Γ' w0 w' ops L (a.put d u) ad where
 blk:=λ k o e d m l j g f=>by
  let⟨x,q,g3,s⟩:=h.blk k o e d m l j g f;have n:ad k<w.heap.size:=(Array.getElem?_eq_some_iff.1 q).1;refine⟨x,by rw[p.block _ n g3];exact q,λ c=>?_,λ i=>?_⟩
  .obtain c|c:=p.own _ c
   .exact g3 c
   .omega
  .cases b:Γ'.mem (ad k) i with
   |none=>rfl
   |some v=>
     obtain b|b|b:=p.memg _ _ _ b
     .rw[s]at b;cases b
     .exact absurd b g3
     .omega
 tmp:=λ k o e t v m l j g f=>by
  rw[qA8 (r k o t m l (by simp[qU,j]) g)]at f;exact h.tmp k o e t v m l j g f
 inj:=h.inj
theorem qzP{o:Oper}{ρ:Operand->Value}{e:TypeId}{d:TD}(a:o.op=.alloc e)(b:zJ P e=some d)(w:World):(execOp ρ o).run P w=.ok (.value (.pointer (some ⟨w.heap.size,0,none⟩))) (w.alloc (.cells d.zero.toArray e)):=by
 let⟨i,u,z,g,m,f,l,k,j,c,h⟩:=wap b;rw[<-c];simp[execOp,a,Instr.alloc,zeroValue,typeInfo,g,f,newVar,qcG]
theorem Inv.free(a:Inv Γ σ w){b:Nat}(f:w.heap.size<=b):¬ jf Γ b/\∀i,Γ.mem b i=none:=by
 refine⟨?_,λ i=>?_⟩
 .rintro(⟨i,c,d⟩|⟨r,c,d,g⟩)
  .have:=a.box_lt c;omega
  .have:=a.cur_lt c d;omega
 .cases e:Γ.mem b i with
  |none=>rfl
  |some u=>have:=a.mem_lt e;omega
theorem qFh(hC:zp P C)(hx:qai P ex)(hT:qaS C ex ⟨qs C.lo ops.toList⟩ l s0)(hk:JK C.lo s0.tm ⟨qs C.lo ops.toList⟩=true)(aa:qe4 C.lo ops.toList=true)
  (hz:∀k o e,k<qad C.lo ops.toList->ops[k]?=some o->o.op=.alloc e->∃d,zJ P e=some d/\d.zero.all qS=true) {w0:World}{Q:Exit->Act->World->Prop}{n:Nat} (hn:n=qad C.lo ops.toList):
  ∀(g:Nat) (c:Array Bool) (Γ:Gh) (w:World) (a:Act) (ad:Nat->Nat),c.size=ops.size->c.toList.countP (λ b => !b)=g->(∀i,n<=i->c.getD i false=false)->qag ops (λ i=>c.getD i false)->
  Inv Γ (F (qs C.lo ops.toList) l s0 (λ i=>c.getD i false) n).σ w->qQ Γ (F (qs C.lo ops.toList) l s0 (λ i=>c.getD i false) n).tm a->qgO P Γ w0 w ops (λ i=>c.getD i false=true) a ad->w0.heap.size<=w.heap.size->
  (∀s f Γ' w' a' L,f.size=ops.size->f.toList.countP (λ b => !b)=s->(∀i,n<=i->f.getD i false=false)->(∀(i:Nat) (o:Oper),i<n->ops[i]?=some o->Jq ops.toList o=false->f.getD i false=true)->qag ops (λ i=>f.getD i false)->Ext Γ w Γ' w'->Inv Γ' (F (qs C.lo ops.toList) l s0 (λ i=>f.getD i false) n).σ w'->qQ Γ' (F (qs C.lo ops.toList) l s0 (λ i=>f.getD i false) n).tm a'->qgO P Γ' w0 w' ops (λ i=>f.getD i false=true) a' L->
   qv (F (qs C.lo ops.toList) l s0 (λ i=>c.getD i false) n).σ (F (qs C.lo ops.toList) l s0 (λ i=>f.getD i false) n).σ->a'.defers=a.defers->wpAny P .any ops Q s f a' w')->
  wpAny P .any ops Q g c a w:=by
 let⟨aN,aO,ao⟩:=qs9 aa
 have ak:∀(j:Nat) (o:Oper),j<n->ops[j]?=some o->(⟨qs C.lo ops.toList⟩:Array Oper)[j]?=some (yC o):=λ j o hj B=>by
  have:(qs C.lo ops.toList)[j]?=some (yC o):=by
   rw[qgY (by omega)];grind
  simpa using this
 have ai:(⟨qs C.lo ops.toList⟩:Array Oper).size=n:=by show(qs C.lo ops.toList).length=n;rw[qjP,hn]
 have a0:n<=ops.size:=by rw[hn];simpa using qmo C.lo ops.toList
 intro g
 induction g with
 |zero=>
   intro c Γ w a ad A K N hd hi S X V hq;have D:=qqe K;exact hq 0 c Γ w a ad A K N (λ i o m _ _=>D i (by omega)) hd (.refl _ _) hi S X (.refl _) rfl
 |succ g ih=>
   intro c Γ w a ad A K N hd hi S X V hq;by_cases D:∀(i:Nat) (o:Oper),i<n->ops[i]?=some o->Jq ops.toList o=false->c.getD i false=true
   .exact hq (g+1) c Γ w a ad A K N D hd (.refl _ _) hi S X (.refl _) rfl
   have aV:qag ⟨qs C.lo ops.toList⟩ (λ i=>c.getD i false):=by
    intro i o B hL e M;obtain⟨m,q,h1,rfl⟩:=qpe (lo:=C.lo) (l:=ops.toList) (j:=i) (o:=o) (by simpa using B);rw[qiB]at M;exact hd i q (by simpa using h1) hL e M
   have aw:∃(U:Nat) (o0:Oper),U<n/\ops[U]?=some o0/\Jq ops.toList o0=false/\c.getD U false=false:=by
    apply kI;intro al;refine D λ i o m aL ar=>?_;cases hc:c.getD i false with
    |true=>rfl
    |false=>exact(al ⟨i,o,m,aL,ar,hc⟩).elim
   refine⟨λ am=>?_,λ j hj=>?_⟩
   .exfalso;let⟨U,o0,R,_,_,h1⟩:=aw
    have aC:∀i,i<n->c.getD i false=false->False:=by
     intro i
     induction i using Nat.strongRecOn with
     |_ i aD=>
       intro m hf;let⟨o,B⟩:=yg (ops:=ops) (k:=i) (by omega)
       have hr:i∈Region.ready .any ops c:=by
        refine mem_ready.2 ⟨?_,o,B,λ e M hb=>?_⟩
        .rw[wH,Array.getElem?_eq_getElem (by omega)]at hf |-
         simpa using hf
        .have aT:e.on∈yt o:=wI.2 ⟨e,kE.2 ⟨by simpa using M,hb⟩,rfl⟩;have an:=aN i o B e.on aT;cases hc:c.getD e.on false with
         |true=>rfl
         |false=>exact(aD e.on an (by omega) hc).elim
       rw[am]at hr;cases hr
    exact aC U R h1
   .let⟨h1,o,B,az⟩:=mem_ready.1 hj;have ac:j<ops.size:=(Array.getElem?_eq_some_iff.1 B).1
    have hL:c.getD j false=false:=by
     grind
    have hp:∀e∈yt o,c.getD e false=true:=λ e M=>by
     obtain⟨ed,a6,rfl⟩:=wI.1 M;grind
    have aP:j<n:=by
     apply kI;intro al;let⟨U,o0,R,aK,aS,h2⟩:=aw;obtain hb|⟨_,q,z,ar⟩:=aO j o B (by omega) U (by omega)
     .have:=qf3 hd j o B hp hb;rw[h2]at this;cases this
     .rw[aK]at z;cases z;unfold Jq at aS;grind
    have aJ:∀e∈yt (yC o),c.getD e false=true:=by rw[qiB];exact hp
    let⟨y,hy,ax⟩:=qoO hT hk aV (ak j o aP B) hL aJ;rw[ai]at hy ax
    have J:(λ i=>(c.setIfInBounds j true).getD i false)=λ i=>decide (i=j)||c.getD i false:=by
     funext i;by_cases ae:i=j
     .subst ae;rw[wH,Array.getElem?_setIfInBounds_self_of_lt (by rw[A];exact ac)];simp
     .rw[getD_set_ne false (xw ae)];simp[ae]
    have aj:(c.setIfInBounds j true).size=ops.size:=by rw[xA,A]
    have av:(c.setIfInBounds j true).toList.countP (λ b => !b)=g:=by
     have aQ:j<c.toList.length:=by simp[A,ac]
     rw[xi,List.countP_set (h:=aQ),K]
     have:c.toList[j]=false:=by
      rw[wH,Array.getElem?_eq_getElem (by rw[A];exact ac)]at hL;simpa using hL
     rw[this];simp
    have ap:∀i,n<=i->(c.setIfInBounds j true).getD i false=false:=λ i m=>by
     rw[getD_set_ne false (by omega)];exact N i m
    have aW:qag ops (λ i=>(c.setIfInBounds j true).getD i false):=by
     rw[J];intro i q z m e M;simp only[wW,decide_eq_true_eq]at m |-
     obtain rfl|m:=m
     .grind
     .exact .inr (hd i q z m e M)
    have yB:∀k,(c.setIfInBounds j true).getD k false=true->k=j\/c.getD k false=true:=λ k ab=>by
     have:(λ i=>(c.setIfInBounds j true).getD i false) k=true:=ab;rw[J]at this;simpa using this
    have af:F (qs C.lo ops.toList) l s0 (λ i=>(c.setIfInBounds j true).getD i false) n=zd (F (qs C.lo ops.toList) l s0 (λ i=>c.getD i false) n) (yC o) y:=by rw[J];exact ax
    unfold wpOp;rw[B];simp only
    have next:∀Γ' w' u L,Ext Γ w Γ' w'->Inv Γ' (turn (F (qs C.lo ops.toList) l s0 (λ i=>c.getD i false) n).σ y.2) w'->Rep Γ' y.1 u->qv (F (qs C.lo ops.toList) l s0 (λ i=>c.getD i false) n).σ (turn (F (qs C.lo ops.toList) l s0 (λ i=>c.getD i false) n).σ y.2)->
      qgO P Γ' w0 w' ops (λ i=>(c.setIfInBounds j true).getD i false=true) (a.put o.dst u) L->wpAny P .any ops Q g (c.setIfInBounds j true) (a.put o.dst u) w':=by
     intro Γ' w' u L e1 e2 e3 e4 e5;refine ih (c.setIfInBounds j true) Γ' w' (a.put o.dst u) L aj av ap aW ?_ ?_ e5 (wC V e1.size) ?_
     .rw[af];exact e2
     .rw[af];show RepL Γ' (Jx _ (yC o).dst y.1) _;rw[qmG];exact qQ.put (war e1.le S) o.dst e3
     .intro s f aA w2 a2 aZ g0 aY ay q1 q2 I r g3 aX E H;rw[af]at E;exact hq s f aA w2 a2 aZ g0 aY ay q1 q2 (e1.trans I) r g3 aX (e4.trans E) (by rw[H];cases hd:o.dst<;>rfl)
    cases O:qU o with
    |false=>
      have aU:yC o=o:=by unfold yC;rw[O]
      have ag:∀Γ' w' u,Ext Γ w Γ' w'->qgO P Γ' w0 w' ops (λ i=>(c.setIfInBounds j true).getD i false=true) (a.put o.dst u) ad:=λ Γ' w' u M=>by
       have R:=X.step (d:=o.dst) (u:=u) M λ k q t ab z Y aI=>by
        let⟨_,d,a8,a7⟩:=ao k q z Y;grind
       have conv:∀k q,(c.setIfInBounds j true).getD k false=true->ops[k]?=some q->qU q=true->c.getD k false=true:=λ k q h2 z Y=>by
        grind
       exact⟨λ k q e d I r g3=>R.blk k q e d (conv k q I r (by simp[qU,g3])) r g3,λ k q e d v I r g3=>R.tmp k q e d v (conv k q I r (by simp[qU,g3])) r g3,λ k k' q q' I r g3 E H g6=>R.inj k k' q q' (conv k q I g3 H) (conv k' q' r E g6) g3 E H g6⟩
      obtain⟨W,G⟩|⟨W,rfl⟩:=hy
      .rw[if_pos (qex S (qjU W))];left;rw[aU]at G;refine qzg hC hx hi S G _ _ ?_;grind
      .rw[if_neg (by rw[qex S (qjU W)];exact xd)];exact next Γ w undef ad (.refl _ _) hi (.tup [] [] rfl λ i x u h=>by simp at h) (.refl _) (ag Γ w undef (.refl _ _))
    |true=>
      let⟨e,Z⟩:=qbB O;let⟨aR,d,a1,a4⟩:=ao j o B O
      have aE:y=(.dead,none):=by
       obtain⟨W,G⟩|⟨W,rfl⟩:=hy
       .have:(yC o).op=.move (.global 0):=by unfold yC;rw[O]
        rw[this]at G;simp only[opA,qc,aev,wn]at G;exact G.symm
       .have W:=qjU W;grind [zw]
      subst aE;have aF:zw ops (F (qs C.lo ops.toList) l s0 (λ i=>c.getD i false) n).tm o=some true:=by unfold zw;rw[aR]
      rw[if_pos (qex S aF)];left;let⟨td,ah,a3⟩:=hz j o e (by omega) B Z;have hb:Below w.heap.size w (w.alloc (.cells td.zero.toArray e)):=(Below.refl _ _).alloc (wa _) _;unfold Oper.wp;rw[qzP Z ah];refine next Γ _ (.pointer (some ⟨w.heap.size,0,none⟩)) (λ k=>if k=j then w.heap.size else ad k) (qds hb (wa _)) (hi.later hb) (.dead _) (.refl _) ?_
      have R:=X.step (d:=o.dst) (u:=.pointer (some ⟨w.heap.size,0,none⟩)) (qds (Γ:=Γ) hb (wa _)) λ k q t ab z Y aI=>by
       grind
      have aq:=hi.free (wa w.heap.size);have conv:∀k,(c.setIfInBounds j true).getD k false=true->k≠j->c.getD k false=true:=λ k h2 aM=>(yB k h2).resolve_left aM
      have an:∀k q,c.getD k false=true->ops[k]?=some q->qU q=true->ad k<w.heap.size:=λ k q h2 h3 h4=>by
       let⟨e',au⟩:=qbB h4
       have a5:k<n:=by
        grind
       let⟨aB,aH,aG⟩:=hz k q e' (by omega) h3 au;exact(Array.getElem?_eq_some_iff.1 (X.blk k q e' aB h2 h3 au aH aG).2.1).1
      refine⟨λ k q e' d' I r g3 E H=>?_,λ k q e' d' v I r g3 E H=>?_,λ k k' q q' I r g3 E H g6 g7=>?_⟩
      .by_cases p:k=j
       .subst p;rw[B]at r;cases r;rw[Z]at g3;cases g3;rw[ah]at E;cases E;simp only[if_true];exact⟨V,heap_alloc_new w _,aq.1,aq.2⟩
       .simp only[if_neg p];exact R.blk k q e' d' (conv k I p) r g3 E H
      .by_cases p:k=j
       .subst p;rw[B]at r;cases r;simp only[if_true];rw[E]at H;have H:(a.tmps.setIfInBounds d' (.pointer (some ⟨w.heap.size,0,none⟩)))[d']?=some v:=H;grind
       .simp only[if_neg p];exact R.tmp k q e' d' v (conv k I p) r g3 E H
      .by_cases p:k=j
       .grind
       .by_cases T:k'=j
        .grind
        .simp only[if_neg p,if_neg T]at g7;exact X.inj k k' q q' (conv k I p) (conv k' r T) g3 E H g6 g7
end
end Go.AmZ
namespace Go.AmZ
open Go Go.RowKit
section
variable {P:Program}{C:Cfg}{Γ:Gh}{σ:St}{w:World}{ops:Array Oper}{ex:yE}{l:List (AV×Option St)}{s0:S}
theorem qA3(h:Inv Γ σ w){cs:List AV}{vs:List Value}{b:Nat}{e:TypeId}(x:w.heap[b]?=some (.cells vs.toArray e (0,0)))(n:¬ jf Γ b)(y:∀i,Γ.mem b i=none)(C:RepL Γ cs vs)(F:∀u∈vs,u.oneCell'=true):
  ∃Γ',Le Γ Γ'/\(∀c,jf Γ' c->jf Γ c\/c=b)/\Γ'.mem=Γ.mem/\Inv Γ' {σ with bx:=σ.bx++[cs]} w/\Rep Γ' (.ptr σ.bx.length 0) (.pointer (some ⟨b,0,none⟩)):=by
 let Γ':Gh:={Γ with nb:=Γ.nb+1,β:=λ i=>if i=Γ.nb then b else Γ.β i}
 have g:∀i,i<Γ.nb->Γ'.β i=Γ.β i:=λ i f=>if_neg (by omega);have a:Γ'.β Γ.nb=b:=if_pos rfl;have k:Le Γ Γ':=⟨λ _ _ _ h=>h,wU _,g,wa _,λ _ _=>rfl,λ _ _=>wa _,λ _ _ _=>⟨rfl,rfl,rfl⟩⟩
 refine⟨Γ',k,?_,rfl,⟨?_,h.nr,h.mem,?_,?_,?_,?_,h.apart,h.tab.1,λ m=>h.tab.2.1 (m.elim (λ⟨i,f,x⟩=>by
  have f:i<Γ.nb+1:=f;by_cases d:i=Γ.nb
  .rw[d,a]at x;exact absurd (y 0) (by rw[x];exact h.tab.2.2)
  .exact .inl ⟨i,by omega,by rw[<-g i (by omega)];exact x⟩) .inr),h.tab.2.2⟩,?_⟩
 .rintro c (⟨i,f,rfl⟩|m)
  .have f:i<Γ.nb+1:=f;by_cases d:i=Γ.nb
   .right;rw[d,a]
   .left;left;exact⟨i,by omega,(g i (by omega)).symm⟩
  .exact .inl (.inr m)
 .show Γ.nb+1=(σ.bx++[cs]).length;simp[h.nb]
 .intro i cs' f;rw[List.getElem?_append]at f;split at f
  .rename_i s;exact(h.box i cs' f).lift (by rw[h.nb];exact s) k λ o m=>m
  .rename_i s
   have A:i-σ.bx.length=0:=by
    have:=getElem?_lt f;simp at this;omega
   rw[A]at f;simp at f;subst f;have z:i=Γ.nb:=by rw[h.nb];omega
   refine .of ⟨vs.toArray,e,?_,by simpa using C.mono k,by simpa using F⟩;rw[z,a];exact x
 .intro i j f E l;have v:i<Γ.nb+1:=f;have D:j<Γ.nb+1:=E;by_cases d:i=Γ.nb<;>by_cases t:j=Γ.nb
  .rw[d,t]
  .rw[d,a,g j (by omega)]at l;exact(n (.inl ⟨j,by omega,l.symm⟩)).elim
  .rw[t,a,g i (by omega)]at l;exact(n (.inl ⟨i,by omega,l⟩)).elim
  .rw[g i (by omega),g j (by omega)]at l;exact h.inj i j (by omega) (by omega) l
 .intro i f o;have v:i<Γ.nb+1:=f;by_cases d:i=Γ.nb
  .rw[d,a];exact y o
  .rw[g i (by omega)];exact h.boxmem i (by omega) o
 .intro r R q;have p:r<Γ.nr:=by rw[h.nr];exact getElem?_lt q
  refine(h.row r R q).lift p k rfl (λ _ ob m=>m) (λ _ _ y=>y) λ B i f G l=>?_;have v:i<Γ.nb+1:=f;have d:i=Γ.nb:=by omega
  rw[d,a]at l;exact n (.inr ⟨r,p,B,l.symm⟩)
 .rw[<-a,h.nb];exact .ptr _ _ (by show σ.bx.length<Γ.nb+1;rw[h.nb];omega)
theorem qkz{lo:Nat->Bool}{l:List Oper}{o:Oper}(h:Jq l o=true):qM lo o.op=false:=by
 cases b:qM lo o.op with
 |false=>rfl
 |true=>
   exfalso
   have a:yQ o.op=true\/qmc o.op=true:=by
    unfold qM at b;split at b<;>first|(cases b;done)|(rename_i e;rw[e];first|exact .inl rfl|exact .inr rfl)
   unfold Jq qdY qnt at h;simp only[wW,wb,wJ]at h;obtain⟨⟨c,d⟩,_⟩|⟨c,_⟩:=h
   .obtain a|a:=a
    .rw[c]at a;cases a
    .rw[d]at a;cases a
   .unfold qoN at c;split at c
    .rename_i e;rw[e]at b;cases b
    .rename_i e;rw[e]at b;cases b
    .cases c
theorem qye{l:List Oper}{o:Oper}(h:Jq l o=true):qU o=false/\∀q∈l,qU q=true->∀d,q.dst=some d->d ∉ Jp ⟨l⟩ o:=by
 unfold Jq at h;rw[wW]at h;obtain h|h:=h
 .unfold qdY at h;simp only[wb,wJ,wo,wW]at h;refine⟨h.2.1,λ q f i d g=>?_⟩;obtain b|b:=h.2.2 q f
  .rw[i]at b;cases b
  .rw[g]at b;simpa using b
 .unfold qnt at h;rw[wb]at h
  have a:qU o=false:=by
   have:=h.1;unfold qoN at this;unfold qU;split at this
   .rename_i e;rw[e]
   .rename_i e;rw[e]
   .cases this
  refine⟨a,λ q f i d g j=>?_⟩;have c:=h.2;unfold qB8 at c;rw[a]at c;simp only[xx,kJ,wJ,vB,wb,not_and,xC]at c;have:=c q f i;rw[g]at this;simp only[vm,decide_eq_false_iff_not]at this;exact this j
def idA(nb:Nat)(ops:Array Oper)(k:Nat):Nat:=nb+(ops.toList.take k).countP qU
theorem qko{nb k:Nat}{o:Oper}(a:ops[k]?=some o):idA nb ops (k+1)=idA nb ops k+(if qU o then 1 else 0):=by
 unfold idA;have b:k<ops.toList.length:=by have:=(Array.getElem?_eq_some_iff.1 a).1;simpa using this
 have:ops.toList.take (k+1)=ops.toList.take k++[o]:=by
  rw[xJ,show ops.toList[k]?=some o by simpa using a];rfl
 rw[this,List.countP_append,List.countP_singleton];omega
def qyH(ops:Array Oper)(P:Nat->Prop)(nb:Nat)(b a:List AV):Prop:=
 a.length=b.length/\∀t,(∀(k:Nat) (o:Oper),P k->ops[k]?=some o->qU o=true->o.dst=some t->a.getD t .dead=if t<b.length then .ptr (idA nb ops k) 0 else .dead)/\
  ((∀(k:Nat) (o:Oper),P k->ops[k]?=some o->qU o=true->o.dst≠some t)->a.getD t .dead=b.getD t .dead)
theorem qgQ(a:List AV)(d t:Nat)(x:AV):(a.set d x).getD t .dead=if d=t then(if t<a.length then x else .dead)else a.getD t .dead:=by
 rw[List.getD_eq_getElem?_getD,List.getElem?_set];by_cases h:d=t
 .rw[if_pos h,if_pos h];subst h;split<;>rfl
 .rw[if_neg h,if_neg h,List.getD_eq_getElem?_getD]
theorem qj5{n nb:Nat}(v:∀(j:Nat) (o:Oper),ops[j]?=some o->qU o=true->o.guard=none/\∃d,o.dst=some d/\∀(k:Nat) (q:Oper),ops[k]?=some q->k≠j->q.dst≠some d):∀(a:List Oper) (i:Nat) (s x:S),(∀(j:Nat) (o:Oper),a[j]?=some o->i+j<n/\ops[i+j]?=some o)->i+a.length=n->qT C ex ops false (a.filter qU) s=some x->s.σ.bx.length=idA nb ops i->
  qyH ops (λ k=>i<=k/\k<n) nb s.tm x.tm
 |[],i,s,x,_,H,h,_=>by
   simp only[vP,qT,wn]at h;subst h;simp at H;exact⟨rfl,λ t=>⟨λ k o p=>by omega,λ _=>rfl⟩⟩
 |o::a,i,s,x,N,H,h,L=>by
   obtain⟨V,b⟩:=N 0 o rfl;have b:ops[i]?=some o:=by simpa using b
   have y:∀(j:Nat) (q:Oper),a[j]?=some q->i+1+j<n/\ops[i+1+j]?=some q:=λ j q g=>by
    have:=N (j+1) q g;rw[show i+1+j=i+(j+1) by omega];exact this
   have z:i+1+a.length=n:=by rw[<-H];simp;omega
   cases c:qU o with
   |false=>
     rw[xF (by rw[c];exact xd)]at h;obtain⟨D,w⟩:=qj5 v a (i+1) s x y z h (by rw[qko b,c];exact L);refine⟨D,λ t=>⟨λ k q p g A B=>(w t).1 k q ⟨?_,p.2⟩ g A B,λ l=>(w t).2 λ k q p=>l k q ⟨by omega,p.2⟩⟩⟩;apply kI;intro T;have:k=i:=by omega
     subst this;rw[b]at g;cases g;rw[c]at A;cases A
   |true=>
     rw[xG c]at h;obtain⟨e,G⟩:=qbB c;obtain⟨J,d,f,E⟩:=v i o b c;simp only[qT]at h;have R:zw ops s.tm o=some true:=by unfold zw;rw[J]
     rw[R]at h;simp only[G,opA,qc]at h;cases B:C.ty e with
     |none=>rw[B]at h;cases h
     |some O=>
       rw[B]at h;simp only at h;cases M:O.zero.all qS with
       |false=>rw[M]at h;cases h
       |true=>
         rw[M]at h;simp only[xh]at h;obtain⟨D,w⟩:=qj5 v a (i+1) _ x y z h (by show(s.σ.bx++[_]).length=_;rw[qko b,c,wd,L];rfl);rw[f]at D w;have m:(Jx s.tm (some d) (.ptr s.σ.bx.length 0)).length=s.tm.length:=wE ..;have r:∀t,(Jx s.tm (some d) (.ptr s.σ.bx.length 0)).getD t .dead=if d=t then(if t<s.tm.length then .ptr s.σ.bx.length 0 else .dead)else s.tm.getD t .dead:=λ t=>qgQ s.tm d t _;refine⟨D.trans m,λ t=>⟨λ k q p g A u=>?_,λ l=>?_⟩⟩
         .by_cases I:k=i
          .subst I;rw[b]at g;cases g;rw[f]at u;cases u;rw[(w d).2 λ Q P U F _=>E Q P F (by omega),r,if_pos rfl,L]
          .rw[(w t).1 k q ⟨by omega,p.2⟩ g A u,m]
         .have K:d≠t:=λ W=>l i o ⟨wa _,by omega⟩ b c (by rw[f,W]);rw[(w t).2 λ k q p=>l k q ⟨by omega,p.2⟩,r,if_neg K]
theorem ql2(Y:zp P C){n nb:Nat}{z:Gh}{w0:World}{a:Act}{ad:Nat->Nat}:∀(f:List Oper) (i:Nat) (s A:S) (σ:St) (Γ:Gh),(∀(j:Nat) (o:Oper),f[j]?=some o->i+j<n/\ops[i+j]?=some o)->i+f.length=n->qT C ex ops false (f.filter qU) s=some A->
  (∀(j:Nat) (o:Oper),ops[j]?=some o->qU o=true->o.guard=none)->s.σ=σ->s.σ.bx.length=idA nb ops i->Inv Γ σ w->qgO P Γ w0 w ops (λ k=>i<=k/\k<n) a ad->Ext z w0 Γ w->
  ∃Γ',Le Γ Γ'/\Ext z w0 Γ' w/\Inv Γ' A.σ w/\qv σ A.σ/\∀(k:Nat) (o:Oper),i<=k->k<n->ops[k]?=some o->qU o=true->Rep Γ' (.ptr (idA nb ops k) 0) (.pointer (some ⟨ad k,0,none⟩))
 |[],i,s,A,σ,Γ,_,O,h,_,m,_,K,D,p=>by
   simp only[vP,qT,wn]at h;subst h;simp at O;exact⟨Γ,.refl Γ,p,by rw[m];exact K,by rw[m];exact .refl _,λ k o r x=>by omega⟩
 |o::f,i,s,A,σ,Γ,hr,O,h,T,m,X,K,D,p=>by
   obtain⟨ab,g⟩:=hr 0 o rfl;have g:ops[i]?=some o:=by simpa using g
   have E:∀(j:Nat) (q:Oper),f[j]?=some q->i+1+j<n/\ops[i+1+j]?=some q:=λ j q B=>by
    have:=hr (j+1) q B;rw[show i+1+j=i+(j+1) by omega];exact this
   have H:i+1+f.length=n:=by rw[<-O];simp;omega
   have t:qgO P Γ w0 w ops (λ k=>i+1<=k/\k<n) a ad:=⟨λ k o e d r=>D.blk k o e d ⟨by omega,r.2⟩,λ k o e d u r=>D.tmp k o e d u ⟨by omega,r.2⟩,λ k k' o o' r x=>D.inj k k' o o' ⟨by omega,r.2⟩ ⟨by omega,x.2⟩⟩
   cases l:qU o with
   |false=>
     rw[xF (by rw[l];exact xd)]at h;obtain⟨Γ',g0,g1,g2,g3,Z⟩:=ql2 Y f (i+1) s A σ Γ E H h T m (by rw[qko g,l];exact X) K t p;refine⟨Γ',g0,g1,g2,g3,λ k q r x B I=>Z k q ?_ x B I⟩;apply kI;intro aa;have:k=i:=by omega
     subst this;rw[g]at B;cases B;rw[l]at I;cases I
   |true=>
     rw[xG l]at h;obtain⟨e,F⟩:=qbB l;simp only[qT]at h;have hw:zw ops s.tm o=some true:=by unfold zw;rw[T i o g l]
     rw[hw]at h;simp only[F,opA,qc]at h;cases V:C.ty e with
     |none=>rw[V]at h;cases h
     |some d=>
       rw[V]at h;simp only at h;cases J:d.zero.all qS with
       |false=>rw[J]at h;cases h
       |true=>
         rw[J]at h;simp only[xh]at h;have M:=Y.ty e d V;obtain⟨g1,g2,g3,Z⟩:=D.blk i o e d ⟨wa _,by omega⟩ g F M J;obtain⟨b1,b2⟩:=qbu (Γ:=Γ) J;obtain⟨y,a1,a2,a3,a4,a5⟩:=qA3 K g2 g3 Z b1 b2
         have U:Ext z w0 y w:=⟨p.le.trans a1,p.os,p.tape,p.output,p.size,p.block,λ c W=>by
          rcases a2 c W with W|rfl
          .exact p.own c W
          .exact .inr g1,λ b o u hm=>by rw[a3]at hm;exact p.memg b o u hm,p.drawn⟩
         have N:qgO P y w0 w ops (λ k=>i+1<=k/\k<n) a ad:=⟨λ k q e' d' r x h3 h4 h5=>by
          obtain⟨q1,q2,q3,q4⟩:=t.blk k q e' d' r x h3 h4 h5;refine⟨q1,q2,λ G=>?_,λ j=>by rw[a3];exact q4 j⟩;rcases a2 _ G with G|G
          .exact q3 G
          .have:=D.inj k i q o ⟨by omega,r.2⟩ ⟨wa _,by omega⟩ x g (by simp[qU,h3]) l G;omega,t.tmp,t.inj⟩
         obtain⟨L,c0,c1,c2,c3,c4⟩:=ql2 Y f (i+1) _ A {σ with bx:=σ.bx++[d.zero.map .v]} y E H h T (by simp only;rw[m]) (by show(s.σ.bx++[_]).length=_;rw[qko g,l,wd,X];rfl) a4 N U;have R:qv σ {σ with bx:=σ.bx++[d.zero.map .v]}:=⟨by simp,wa _,λ j hj _=>by simp only[List.getElem?_append_left hj],λ _ _ _=>rfl,λ _ h=>h,λ _ h=>h⟩
         refine⟨L,a1.trans c0,c1,c2,R.trans c3,λ k q r x B I=>?_⟩;by_cases Q:k=i
         .subst Q;rw[<-X,m];exact a5.mono c0
         .exact c4 k q (by omega) x B I
theorem qpc{l:S}:∀(a:List Oper) (s:S),qT C ex ops false (a.filter qU) s=some l->(∀o∈a,qU o=true->o.guard=none)->∀o∈a,∀e,o.op=.alloc e->∃d,C.ty e=some d/\d.zero.all qS=true
 |[],_,_,_,o,b,_,_=>by cases b
 |q::a,s,h,j,o,b,e,c=>by
   cases f:qU q with
   |false=>
     rw[xF (by rw[f];exact xd)]at h;obtain rfl|b:=wM.1 b
     .simp[qU,c]at f
     .exact qpc a s h (λ o b=>j o (wj _ b)) o b e c
   |true=>
     rw[xG f]at h;let⟨n,g⟩:=qbB f;simp only[qT]at h;have m:zw ops s.tm q=some true:=by unfold zw;rw[j q (ww ..) f]
     rw[m]at h;simp only[g,opA,qc]at h;cases k:C.ty n with
     |none=>rw[k]at h;cases h
     |some d=>
       rw[k]at h;simp only at h;cases i:d.zero.all qS with
       |false=>rw[i]at h;cases h
       |true=>
         rw[i]at h;simp only[xh]at h;obtain rfl|b:=wM.1 b
         .rw[g]at c;cases c;exact⟨d,k,i⟩
         .exact qpc a _ h (λ o b=>j o (wj _ b)) o b e c
theorem qA6{lB:List (AV×Option St)}{s0B:S}{L:Nat->Bool}{n:Nat}(h:∀i,n<=i->L i=false):∀m,F ops.toList lB s0B L (n+m)=F ops.toList lB s0B L n
 |0=>rfl
 |m+1=>by
   show F ops.toList lB s0B L (n+m+1)=_;simp only[F];rw[h (n+m) (by omega)];split
   .rename_i a;cases a
   .exact qA6 h m
def qmK(ops:Array Oper)(n nb:Nat)(lA lS:List (AV×Option St)):List (AV×Option St):=
 (List.range n).map (λ k=>match ops[k]? with
  |some o=>match qU o with
    |true=>(AV.ptr (idA nb ops k) 0,none)
    |false=>((lA.getD k (.dead,none)).1,none)
  |none=>(.dead,none))++lS
theorem qjw{n nb k:Nat}{lA lS:List (AV×Option St)}{o:Oper}(a:k<n)(b:ops[k]?=some o):(qmK ops n nb lA lS)[k]?=some (match qU o with
  |true=>(AV.ptr (idA nb ops k) 0,none)
  |false=>((lA.getD k (.dead,none)).1,none)):=by
 unfold qmK;rw[List.getElem?_append_left (by simpa using a),List.getElem?_map,List.getElem?_range a];simp only[kr,b]
theorem qjA{n nb k:Nat}{lA lS:List (AV×Option St)}:(qmK ops n nb lA lS)[n+k]?=lS[k]?:=by
 unfold qmK;rw[List.getElem?_append_right (by simp)];simp
theorem qx7{n nb:Nat}{lA lS:List (AV×Option St)}{s0 s0B:S}(s:s0B.tm=s0.tm)(K:n=qad C.lo ops.toList)(J:qoS C ⟨qs C.lo ops.toList⟩ lA)(u:∀(j:Nat) (o:Oper),ops[j]?=some o->qU o=true->o.guard=none/\∃d,o.dst=some d/\∀(k:Nat) (q:Oper),ops[k]?=some q->k≠j->q.dst≠some d)
  (L:Nat->Bool):∀k,k<=n->qyH ops (λ i=>i<k/\L i=true) nb (F (qs C.lo ops.toList) lA s0 L k).tm (F ops.toList (qmK ops n nb lA lS) s0B L k).tm
 |0,_=>⟨by show s0B.tm.length=s0.tm.length;rw[s],λ t=>⟨λ k o M=>by omega,λ _=>by show s0B.tm.getD t _=s0.tm.getD t _;rw[s]⟩⟩
 |k+1,M=>by
   obtain⟨w,p⟩:=qx7 (lS:=lS) s K J u L k (by omega);have I:qad C.lo ops.toList<=ops.size:=by simpa using qmo C.lo ops.toList
   obtain⟨o,m⟩:=yg (ops:=ops) (k:=k) (by omega);have z:ops.toList[k]?=some o:=by simpa using m
   have x:(qs C.lo ops.toList)[k]?=some (yC o):=by rw[qgY (by omega),z];rfl
   obtain⟨y,H,_⟩:=J k (yC o) (by simpa using x);have N:=qjw (n:=n) (nb:=nb) (lA:=lA) (lS:=lS) (k:=k) (by omega) m;simp only[F,x,H,z,N];cases D:L k with
   |false=>
     refine⟨w,λ t=>⟨λ i q c=>(p t).1 i q ⟨?_,c.2⟩,λ b=>(p t).2 λ i q c=>b i q ⟨by omega,c.2⟩⟩⟩;apply kI;intro G;have:i=k:=by omega
     subst this;rw[D]at c;exact xd c.2
   |true=>
     simp only[zd,qmG];cases l:qU o with
     |true=>
       obtain⟨_,d,B,r⟩:=u k o m l;simp only[B,Jx];refine⟨by rw[wE,wE,w],λ t=>⟨λ i q c e g a=>?_,λ b=>?_⟩⟩
       .rw[qgQ,wE];by_cases h:i=k
        .subst h;rw[m]at e;cases e;rw[B]at a;cases a;rw[if_pos rfl,w]
        .have f:d≠t:=λ v=>r i q e h (by rw[a,v]);rw[if_neg f];exact(p t).1 i q ⟨by omega,c.2⟩ e g a
       .have f:d≠t:=λ v=>b k o ⟨by omega,D⟩ m l (by rw[B,v]);rw[qgQ,if_neg f,qgQ,if_neg f];exact(p t).2 λ i q c=>b i q ⟨by omega,c.2⟩
     |false=>
       have E:(lA.getD k (.dead,none)).1=y.1:=by rw[List.getD_eq_getElem?_getD,H];rfl
       rw[E];cases B:o.dst with
       |none=>
         refine⟨w,λ t=>⟨λ i q c e g a=>(p t).1 i q ⟨?_,c.2⟩ e g a,λ b=>(p t).2 λ i q c=>b i q ⟨by omega,c.2⟩⟩⟩;apply kI;intro G;have:i=k:=by omega
         subst this;rw[m]at e;cases e;rw[l]at g;cases g
       |some d=>
         simp only[Jx];refine⟨by rw[wE,wE,w],λ t=>⟨λ i q c e g a=>?_,λ b=>?_⟩⟩
         .have h:i≠k:=λ v=>by subst v;rw[m]at e;cases e;rw[l]at g;cases g
          obtain⟨_,O,A,r⟩:=u i q e g;rw[a]at A;cases A;have f:d≠t:=λ v=>r k o m (xw h) (by rw[B,v]);rw[qgQ,if_neg f,wE];exact(p t).1 i q ⟨by omega,c.2⟩ e g a
         .rw[qgQ,qgQ,w];split
          .rfl
          .exact(p t).2 λ i q c=>b i q ⟨by omega,c.2⟩
theorem qdi{n:Nat}{lB:List (AV×Option St)}{s0B:S}{L:Nat->Bool}(h:∀k y,k<n->lB[k]?=some y->y.2=none):∀k,k<=n->(F ops.toList lB s0B L k).σ=s0B.σ
 |0,_=>rfl
 |k+1,b=>by
   simp only[F];split
   .rename_i o y _ a _;rw[putS_σ _ _ _ (h k y (by omega) a)];exact qdi h k (by omega)
   .exact qdi h k (by omega)
theorem recB_σ{n nb:Nat}{lA lS:List (AV×Option St)}(e:n<=ops.size):∀k y,k<n->(qmK ops n nb lA lS)[k]?=some y->y.2=none:=by
 intro k y d a;let⟨o,c⟩:=yg (ops:=ops) (k:=k) (by omega);rw[qjw d c]at a;cases b:qU o<;>(rw[b]at a;cases a;rfl)
theorem qz3{lo:Nat->Bool}{o:Oper}(h:qM lo (yC o).op=true):yC o=o:=by
 unfold yC at h |-
 split at h
 .cases h
 .rfl
theorem qzX{n:Nat}{lA:List (AV×Option St)}(t:n=qad C.lo ops.toList)(s:qoS C ⟨qs C.lo ops.toList⟩ lA){L:Nat->Bool}(p:∀(i:Nat) (q:Oper),i<n->ops[i]?=some q->Jq ops.toList q=false->L i=true):∀k,k<=n->(F (qs C.lo ops.toList) lA s0 L k).σ=(F (qs C.lo ops.toList) lA s0 qi k).σ
 |0,_=>rfl
 |k+1,w=>by
   have m:qad C.lo ops.toList<=ops.size:=by simpa using qmo C.lo ops.toList
   let⟨o,l⟩:=yg (ops:=ops) (k:=k) (by omega);have d:ops.toList[k]?=some o:=by simpa using l
   have c:(⟨qs C.lo ops.toList⟩:Array Oper)[k]?=some (yC o):=by
    have:(qs C.lo ops.toList)[k]?=some (yC o):=by rw[qgY (by omega),d];rfl
    simpa using this
   let⟨y,_,u,r⟩:=j9 (ops:=⟨qs C.lo ops.toList⟩) (s0:=s0) s c;have j:=qzX t s p k (by omega);have h:=r L;have g:=r qi;show(F (⟨qs C.lo ops.toList⟩:Array Oper).toList lA s0 L (k+1)).σ=(F (⟨qs C.lo ops.toList⟩:Array Oper).toList lA s0 qi (k+1)).σ;rw[h,g,if_pos (show qi k=true from rfl)];cases b:y.2 with
   |none=>
     rw[putS_σ _ _ _ b];split
     .rw[putS_σ _ _ _ b];exact j
     .exact j
   |some σ'=>
     have a:=u (by rw[b];rfl);have f:=qz3 a
     have e:Jq ops.toList o=false:=by
      cases v:Jq ops.toList o with
      |false=>rfl
      |true=>rw[f,qkz v]at a;cases a
     rw[if_pos (p k o (by omega) l e)];simp[zd,b,turn]
def qf2(n:Nat)(σ σ':St):Prop:=σ'.rw=σ.rw/\∀b,b<n->σ'.bx[b]?=σ.bx[b]?
theorem qBX{e:List AV}{σ σ':St}{op:Op}{x:AV}(j:qoN op=true)(k:qf2 σ.bx.length σ σ')(h:opA C ex e σ op=some (x,none)):opA C ex e σ' op=some (x,none):=by
 unfold qoN at j;split at j<;>try cases j
 .rename_i t a;simp only[opA,qc]at h |-
  split at h<;>try cases h
  rename_i d m
  have f:∀y,yu d σ (aev e a)=some y->yu d σ' (aev e a)=some y:=λ y c=>by
   cases g:aev e a with
   |ptr b o=>
     rw[g]at c;simp only[yu]at c |-
     cases l:σ.bx[b]? with
     |none=>rw[l]at c;cases c
     |some cs=>rw[k.2 b (getElem?_lt l)];exact c
   |rpt r i o n=>
     rw[g]at c;simp only[yu,k.1]at c |-;exact c
   |_=>rw[g]at c;exact c
  split at h<;>cases h;rename_i c;rw[f _ c]
 .rename_i t a i;have h:qc C e σ (.indexAddr t a i)=some (x,none):=h;show qc C e σ' (.indexAddr t a i)=some (x,none);rw[qxb k.1];exact h
theorem qbG{n:Nat}:∀(a:List Oper) (s c:S),qT C ex ops false (a.filter qU) s=some c->n<=s.σ.bx.length->qf2 n s.σ c.σ
 |[],s,c,h,_=>by
   simp only[vP,qT,wn]at h;subst h;exact⟨rfl,λ _ _=>rfl⟩
 |o::a,s,c,h,i=>by
   cases d:qU o with
   |false=>
     rw[xF (by rw[d];exact xd)]at h;exact qbG a s c h i
   |true=>
     rw[xG d]at h;let⟨e,f⟩:=qbB d;simp only[qT]at h;split at h
     .simp only[f,opA,qc]at h;cases j:C.ty e with
      |none=>rw[j]at h;cases h
      |some k=>
        rw[j]at h;simp only at h;cases g:k.zero.all qS with
        |false=>rw[g]at h;cases h
        |true=>
          rw[g]at h;simp only[xh]at h;let⟨p,m⟩:=qbG (n:=n) a _ c h (by show n<=(s.σ.bx++[_]).length;rw[wd];omega);exact⟨p,λ b l=>by rw[m b l];show(s.σ.bx++[_])[b]?=_;rw[List.getElem?_append_left (by omega)]⟩
     .exact qbG (n:=n) a ⟨Jx s.tm o.dst qdE,s.σ⟩ c h i
     .cases h
theorem qyY(hC:zp P C)(hx:qai P ex){id:Nat}{s M N s':S}(ar:qe4 C.lo ops.toList=true)(ba:qam C.lo ops=true)(hk:qbZ C.lo s.tm ⟨qs C.lo ops.toList⟩ true=true)(h:qT C ex ⟨qs C.lo ops.toList⟩ true (qs C.lo ops.toList) s=some M)(hm:qT C ex ops false (alL C.lo ops.toList) M=some N)(h':qT C ex ops true (qmp C.lo ops.toList) N=some s'){a:Act}{Q:Exit->Act->World->Prop}(hi:Inv Γ s.σ w)(W:qQ Γ s.tm a)
  (A:∀Γ' w' a',Ext Γ w Γ' w'->Inv Γ' s'.σ w'->qQ Γ' s'.tm a'->qv s.σ s'.σ->a'.defers=a.defers->Q .normal a' w'):(Code.region id ops true).wp P Q a w:=by
 let⟨lA,h1,h2,h3,h4⟩:=qe5 (qs C.lo ops.toList) s M h;let⟨lS,e1,e2,e3,_⟩:=qe5 (qmp C.lo ops.toList) N s' h';have hT:qaS C ex ⟨qs C.lo ops.toList⟩ lA s:=qmy h3 h4;rw[qjP]at h2;have hk:JK C.lo s.tm ⟨qs C.lo ops.toList⟩=true:=hk;let⟨bD,ap,au⟩:=qs9 ar;generalize hn:qad C.lo ops.toList=n at h2 ap;have bk:n<=ops.size:=by rw[<-hn];simpa using qmo C.lo ops.toList
 have hg:∀(j:Nat) (o:Oper),ops[j]?=some o->qU o=true->o.guard=none:=λ j o G ha=>(au j o G ha).1
 have aL:∀(j:Nat) (o:Oper),(ops.toList.take n)[j]?=some o->0+j<n/\ops[0+j]?=some o:=λ j o G=>by
  rw[wy];rw[List.getElem?_take]at G;split at G
  .exact⟨‹_›,by simpa using G⟩
  .cases G
 have aj:0+(ops.toList.take n).length=n:=by simp;omega
 have hm:qT C ex ops false ((ops.toList.take n).filter qU) M=some N:=by rw[<-hn];exact hm
 have aZ:qmp C.lo ops.toList=ops.toList.drop n:=by unfold qmp;rw[hn]
 rw[aZ]at e1 e2 e3
 have hz:∀k o e,k<qad C.lo ops.toList->ops[k]?=some o->o.op=.alloc e->∃d,zJ P e=some d/\d.zero.all qS=true:=λ k o e hk G aO=>by
  rw[hn]at hk;have a6:o∈ops.toList.take n:=wc (i:=k) (by rw[List.getElem?_take,if_pos hk];simpa using G)
  let⟨d,g,B⟩:=qpc _ M hm (λ q A E=>by
   let⟨j,hj⟩:=List.getElem?_of_mem A;exact hg (0+j) q (aL j q hj).2 E) o a6 e aO
  exact⟨d,hC.ty e d g,B⟩
 have ac:∀L:Nat->Bool,(∀(i:Nat) (q:Oper),i<n->ops[i]?=some q->Jq ops.toList q=false->L i=true)->(F (qs C.lo ops.toList) lA s L n).σ=M.σ:=λ L hL=>by
  rw[qzX hn.symm hT.recd hL n (wa _),h2]
 have aR:∀k,F (qs C.lo ops.toList) lA s (λ i=>(Array.replicate ops.size false).getD i false) k=s:=by
  intro k
  induction k with
  |zero=>rfl
  |succ k V=>
    simp only[F]
    have:(Array.replicate ops.size false).getD k false=false:=by
     rw[wH,Array.getElem?_replicate];split<;>rfl
    rw[this];split
    .rename_i hf;cases hf
    .exact V
 have H:∀i,(Array.replicate ops.size false).getD i false=false:=λ i=>by
  rw[wH,Array.getElem?_replicate];split<;>rfl
 let nb:=M.σ.bx.length;have aG:M.σ.bx.length=idA nb ops 0:=rfl;let lB:=qmK ops n nb lA lS;let s0B:S:=⟨s.tm,N.σ⟩
 have K:∀k y,k<n->lB[k]?=some y->y.2=none:=recB_σ bk;have aD:∀L k,k<=n->qyH ops (λ i=>i<k/\L i=true) nb (F (qs C.lo ops.toList) lA s L k).tm (F ops.toList lB s0B L k).tm:=qx7 rfl hn.symm hT.recd au
 have bt:F ops.toList lB s0B qi n=N:=by
  have hr:=qj5 (nb:=nb) au (ops.toList.take n) 0 M N aL aj hm aG;have T:=aD qi n (wa _);rw[h2]at T;have ay:(F ops.toList lB s0B qi n).σ=N.σ:=qdi K n (wa _)
  have aW:(F ops.toList lB s0B qi n).tm=N.tm:=by
   have aq:(F ops.toList lB s0B qi n).tm.length=N.tm.length:=by rw[T.1,hr.1]
   have bd:∀t,(F ops.toList lB s0B qi n).tm.getD t .dead=N.tm.getD t .dead:=λ t=>by
    by_cases ag:∃(k:Nat) (o:Oper),k<n/\ops[k]?=some o/\qU o=true/\o.dst=some t
    .let⟨k,o,q1,R,O,q4⟩:=ag;rw[(T.2 t).1 k o ⟨q1,rfl⟩ R O q4,(hr.2 t).1 k o ⟨wh _,q1⟩ R O q4]
    .rw[(T.2 t).2 λ k o hk R O q4=>ag ⟨k,o,hk.1,R,O,q4⟩,(hr.2 t).2 λ k o hk R O q4=>ag ⟨k,o,hk.2,R,O,q4⟩]
   apply List.ext_getElem aq;intro i g B;have:=bd i;rw[List.getD_eq_getElem?_getD,List.getD_eq_getElem?_getD,List.getElem?_eq_getElem g,List.getElem?_eq_getElem B]at this;exact this
  show F ops.toList lB s0B qi n=N;generalize F ops.toList lB s0B qi n=z at *;let⟨z1,z2⟩:=z;let⟨q1,R⟩:=N;simp only at ay aW;rw[ay,aW]
 have aa:∀i,i<=(ops.toList.drop n).length->F ops.toList lB s0B qi (n+i)=F (ops.toList.drop n) lS N qi i:=by
  intro i
  induction i with
  |zero=>intro _;exact bt
  |succ i V=>
    intro af;show F ops.toList lB s0B qi (n+i+1)=_;have hl:lB[n+i]?=lS[i]?:=qjA;simp only[F,List.getElem?_drop,hl,V (by omega)];rfl
 have aq:n+(ops.toList.drop n).length=ops.size:=by simp;omega
 have be:F ops.toList lB s0B qi ops.size=s':=by rw[<-aq,aa _ (wa _)];exact e2
 have D:qoS C ops lB:=by
  intro i o G;have bQ:i<ops.size:=(Array.getElem?_eq_some_iff.1 G).1;by_cases bc:i<n
  .have hy:=qjw (nb:=nb) (lA:=lA) (lS:=lS) bc G;exact⟨_,hy,λ hs=>by rw[K i _ bc hy]at hs;cases hs⟩
  .obtain⟨j,rfl⟩:∃j,i=n+j:=⟨i-n,by omega⟩
   let⟨y,g,_,g3⟩:=e3 j o (by rw[List.getElem?_drop];simpa using G);exact⟨y,by rw[<-g];exact qjA,g3⟩
 have aM:∀(L:Nat->Bool) (j:Nat) (o:Oper),qag ops L->(∀(i:Nat) (q:Oper),i<n->ops[i]?=some q->Jq ops.toList q=false->L i=true)->ops[j]?=some o->L j=false->(∀e∈yt o,L e=true)->
   ∃y,Js C ex ops o (F ops.toList lB s0B L ops.size) y/\F ops.toList lB s0B (λ i=>decide (i=j)||L i) ops.size=zd (F ops.toList lB s0B L ops.size) o y:=by
  intro L j o hd aw G hL hp;have bP:j<ops.size:=(Array.getElem?_eq_some_iff.1 G).1;let⟨y,hy,bC⟩:=D j o G;refine⟨y,?_,qyc (s0:=s0B) D ba hd G hL hp hy bC⟩;have ab:∀t∈Jp ops o,(F ops.toList lB s0B L ops.size).tm.getD t .dead=(F ops.toList lB s0B qi j).tm.getD t .dead:=λ t W=>qhJ (s0:=s0B) D ba hd G hL hp W;by_cases bb:j<n
  .-- it Jp at no memory
   have hf:Jq ops.toList o=true:=by
    cases hf:Jq ops.toList o with
    |true=>rfl
    |false=>rw[aw j o bb G hf]at hL;cases hL
   let⟨f2,f3⟩:=qye hf;have bA:ops.toList[j]?=some o:=by simpa using G
   have bg:yC o=o:=by unfold yC;rw[f2]
   have bw:(qs C.lo ops.toList)[j]?=some o:=by
    rw[qgY (by omega),bA];show some (yC o)=_;rw[bg]
   have aN:(⟨qs C.lo ops.toList⟩:Array Oper)[j]?=some o:=by simpa using bw
   have bi:qag ⟨qs C.lo ops.toList⟩ L:=by
    intro i q A bK e he;obtain⟨av,q',g,rfl⟩:=qpe (lo:=C.lo) (l:=ops.toList) (j:=i) (o:=q) (by simpa using A);rw[qiB]at he;exact hd i q' (by simpa using g) bK e he
   have aF:(⟨qs C.lo ops.toList⟩:Array Oper).size=n:=by show(qs C.lo ops.toList).length=n;rw[qjP,hn]
   let⟨z,z1,zs,_⟩:=quz hT hk bi aN hL hp;rw[aF]at zs;let⟨z',q1,_,O⟩:=hT.st j o aN;rw[z1]at q1;cases q1
   have az:z.2=none:=by
    cases hc:z.2 with
    |none=>rfl
    |some τ=>have:=O (by rw[hc];rfl);rw[qkz hf]at this;cases this
   have aK:y=z:=by
    have h0:=qjw (nb:=nb) (lA:=lA) (lS:=lS) bb G;rw[f2]at h0;have hz:lA.getD j (.dead,none)=z:=by rw[List.getD_eq_getElem?_getD,z1];rfl
    simp only[hz]at h0;have hy:(qmK ops n nb lA lS)[j]?=some y:=hy;rw[h0]at hy;cases hy;rw[<-az]
   subst aK
   have al:∀t∈Jp ops o,(F ops.toList lB s0B L ops.size).tm.getD t .dead=(F (qs C.lo ops.toList) lA s qi j).tm.getD t .dead:=λ t W=>by
    rw[ab t W];refine((aD qi j (by omega)).2 t).2 λ k q a9 A E aB=>?_;exact f3 q (wc (i:=k) (by simpa using A)) E t aB W
   have ae:∀t∈Jp ⟨qs C.lo ops.toList⟩ o,(F (qs C.lo ops.toList) lA s L n).tm.getD t .dead=(F (qs C.lo ops.toList) lA s qi j).tm.getD t .dead:=λ t W=>by
    have:=qhJ (s0:=s) hT.recd (qfT hk) bi aN hL hp W;rw[aF]at this;exact this
   have br:=qfS (ops:=⟨qs C.lo ops.toList⟩) (o:=o) ae
   have hw:∀b,zw ⟨qs C.lo ops.toList⟩ (F (qs C.lo ops.toList) lA s L n).tm o=some b->zw ops (F ops.toList lB s0B L ops.size).tm o=some b:=λ b T=>by
    rw[qfS al];rw[br]at T;exact qjU (by rw[bg];exact T)
   obtain⟨g,B⟩|⟨g,B⟩:=zs
   .refine .inl ⟨hw _ g,?_⟩
    have an:∀τ,opA C ex (F ops.toList lB s0B L ops.size).tm τ o.op=opA C ex (F (qs C.lo ops.toList) lA s L n).tm τ o.op:=λ τ=>qo8 (C:=C) (ex:=ex) (op:=o.op) (σ:=τ) (qlZ (xs:=o.op.operands.toList) λ t W=>(al t (by
     simp only[Jp,wi];exact .inl (.inr W))).trans (ae t (by
     simp only[Jp,wi];exact .inl (.inr W))).symm)
    have B:opA C ex (F (qs C.lo ops.toList) lA s L n).tm (F (qs C.lo ops.toList) lA s L n).σ o.op=some y:=B;rw[ac L aw]at B;rw[an];let⟨x,zz⟩:=y;have az:zz=none:=az;subst az;have I:=hf;unfold Jq at I;rw[wW]at I;obtain I|I:=I
    .unfold qdY at I;simp only[wb,wJ]at I;exact quC I.1.1 (qkz hf) B
    .-- it lies behind stores into the region's boxes alone
     have aC:qoN o.op=true:=by
      unfold qnt at I;rw[wb]at I;exact I.1
     refine qBX aC ?_ B
     have bB:qdY ops.toList o=false:=by
      cases hc:qdY ops.toList o with
      |false=>rfl
      |true=>
        unfold qdY at hc;simp only[wb,wJ]at hc;have:=hc.1.1;unfold qoN at aC;split at aC
        .rename_i e;rw[e]at this;cases this
        .rename_i e;rw[e]at this;cases this
        .cases aC
     have a5:∀(m:Nat) (q:Oper),ops[n+m]?=some q->L (n+m)=true->qpq ops.toList q=true:=λ m q A Z=>by
      obtain T|⟨_,q',am,h'⟩:=ap (n+m) q A (by omega) j (by omega)
      .have:=qf3 hd (n+m) q A (hd (n+m) q A Z) T;rw[hL]at this;cases this
      .rw[G]at am;cases am;obtain h'|⟨_,h'⟩:=h'
       .rw[bB]at h';cases h'
       .exact h'
     have aE:∀(m:Nat) (q:Oper),ops[n+m]?=some q->L (n+m)=true->∀p,p<m->L (n+p)=true:=λ m q A Z p a4=>by
      obtain T|⟨T,_⟩:=ap (n+m) q A (by omega) (n+p) (by omega)
      .exact qf3 hd (n+m) q A (hd (n+m) q A Z) T
      .omega
     have aA:∀(k:Nat) (q:Oper) (d:Tmp),k<n->ops[k]?=some q->qU q=true->q.dst=some d->∀m,n+m<=ops.size->(F ops.toList lB s0B qi (n+m)).tm.getD d .dead=.dead\/∃b,nb<=b/\(F ops.toList lB s0B qi (n+m)).tm.getD d .dead=.ptr b 0:=λ k q d Y A E aB m=>by
      induction m with
      |zero=>
        intro _;have:=((aD qi n (wa _)).2 d).1 k q ⟨Y,rfl⟩ A E aB;rw[wL,this];split
        .exact .inr ⟨_,by unfold idA;omega,rfl⟩
        .exact .inl rfl
      |succ m V=>
        intro af;let⟨R,a0⟩:=yg (ops:=ops) (k:=n+m) (by omega);let⟨y2,_,_,hF⟩:=j9 (s0:=s0B) D a0;show(F ops.toList lB s0B qi (n+m+1)).tm.getD d .dead=_\/∃b,nb<=b/\(F ops.toList lB s0B qi (n+m+1)).tm.getD d .dead=_;let⟨_,d',bj,bs⟩:=au k q A E;rw[aB]at bj;cases bj;rw[hF qi,if_pos (show qi (n+m)=true from rfl),qgC _ _ _ _ (bs (n+m) R a0 (by omega))];exact V (by omega)
     have aU:∀m,n+m<=ops.size->(∀(p:Nat) (q:Oper),p<m->ops[n+p]?=some q->qpq ops.toList q=true)->qf2 nb M.σ (F ops.toList lB s0B qi (n+m)).σ:=by
      intro m
      induction m with
      |zero=>
        intro _ _;rw[wL,qdi K n (wa _)];exact(qbG (ops.toList.take n) M N hm (wa _):qf2 nb M.σ N.σ)
      |succ m V=>
        intro af aH;let⟨q,A⟩:=yg (ops:=ops) (k:=n+m) (by omega);let⟨z,w1,w2,w3⟩:=e3 m q (by rw[List.getElem?_drop];simpa using A);let⟨y2,u1,_,hF⟩:=j9 (s0:=s0B) D A;have:lB[n+m]?=lS[m]?:=qjA;rw[this,w1]at u1;cases u1;rw[<-aa m (by omega)]at w2;have V:=V (by omega) λ p q a4=>aH p q (by omega);show qf2 nb M.σ (F ops.toList lB s0B qi (n+m+1)).σ;rw[hF qi,if_pos (show qi (n+m)=true from rfl)];cases X:z.2 with
        |none=>rw[putS_σ _ _ _ X];exact V
        |some ax=>
          have e:(zd (F ops.toList lB s0B qi (n+m)) q z).σ=ax:=by simp[zd,X,turn]
          rw[e];have ao:=aH m q (by omega) A;unfold qpq at ao;split at ao<;>try cases ao
          rename_i t c v bz;rw[List.any_eq_true]at ao;let⟨qa,bu,E⟩:=ao;rw[wb]at E;let⟨k,Y⟩:=List.getElem?_of_mem bu;have Y:ops[k]?=some qa:=by simpa using Y
          let⟨bH,d,bh,_⟩:=au k qa Y E.1
          have bI:d=c:=by
           have:=E.2;unfold qhK at this;rw[bh]at this;exact wg this
          subst bI;let⟨x2,bo⟩:=z;have X:bo=some ax:=X;subst X
          have bF:k<n:=by
           apply kI;intro bO;obtain⟨r,rfl⟩:∃r,k=n+r:=⟨k-n,by omega⟩
           have bN:n+r<ops.size:=(Array.getElem?_eq_some_iff.1 Y).1;let⟨za,a1,a2,a3⟩:=e3 r qa (by rw[List.getElem?_drop];simpa using Y);let⟨ea,bf⟩:=qbB E.1;have bE:qM C.lo qa.op=false:=by rw[bf];rfl
           obtain⟨_,a2⟩|⟨a2,_⟩:=a2
           .rw[bf]at a2;simp only[opA,qc]at a2;split at a2<;>try cases a2
            split at a2<;>cases a2;have:=a3 rfl;rw[bE]at this;cases this
           .unfold zw at a2;rw[bH]at a2;cases a2
          have U:=aA k qa d bF Y E.1 bh m (by omega);obtain⟨_,w2⟩|⟨_,w2⟩:=w2
          .obtain⟨b,off,g,bL,g3⟩|⟨r',i',o',bS,g⟩:=qeA bz w2
           .obtain U|⟨b',bJ,U⟩:=U
            .rw[U]at g;cases g
            .rw[U]at g;cases g;exact⟨bL.trans V.1,λ b T=>by rw[g3 b (by omega)];exact V.2 b T⟩
           .obtain U|⟨b',bJ,U⟩:=U<;>(rw[U]at g;cases g)
          .cases w2
     have bM:∀m,n+m<=ops.size->qf2 nb M.σ (F ops.toList lB s0B L (n+m)).σ:=by
      intro m
      induction m with
      |zero=>
        intro _;rw[wL,qdi K n (wa _)];exact(qbG (ops.toList.take n) M N hm (wa _):qf2 nb M.σ N.σ)
      |succ m V=>
        intro af;let⟨q,A⟩:=yg (ops:=ops) (k:=n+m) (by omega);let⟨z,_,_,hF⟩:=j9 (s0:=s0B) D A;show qf2 nb M.σ (F ops.toList lB s0B L (n+m+1)).σ;rw[hF L];split
        .rename_i Z;cases X:z.2 with
         |none=>rw[putS_σ _ _ _ X];exact V (by omega)
         |some ax=>
           have W:=aU (m+1) af λ p q' a4 am=>a5 p q' am (by
            by_cases bv:p=m
            .subst bv;exact Z
            .exact aE m q A Z p (by omega))
           have bm:=hF qi;rw[if_pos (show qi (n+m)=true from rfl)]at bm;have e:∀s:S,(zd s q z).σ=ax:=λ s=>by simp[zd,X,turn]
           have W:qf2 nb M.σ (F ops.toList lB s0B qi (n+m+1)).σ:=W;rw[bm,e]at W;rw[e];exact W
        .exact V (by omega)
     have:=bM (ops.size-n) (by omega);rw[show n+(ops.size-n)=ops.size by omega]at this;exact this
   .exact .inr ⟨hw _ g,B⟩
  .obtain⟨i,rfl⟩:∃i,j=n+i:=⟨j-n,by omega⟩
   have bR:i<(ops.toList.drop n).length:=by omega
   let⟨z,z1,z2,z3⟩:=e3 i o (by rw[List.getElem?_drop];simpa using G)
   have aK:y=z:=by
    have:lB[n+i]?=lS[i]?:=qjA;rw[this,z1]at hy;cases hy;rfl
   subst aK;rw[<-aa i (by omega)]at z2
   have ay:(F ops.toList lB s0B L ops.size).σ=(F ops.toList lB s0B qi (n+i)).σ:=by
    have a8:∀m,n<=m->m<n+i->L m=true:=λ m a7 aP=>by
     obtain T|⟨T,_⟩:=ap (n+i) o G (by omega) m aP
     .exact qf3 hd (n+i) o G hp T
     .omega
    have aQ:∀m,n+i<m->m<ops.size->L m=false:=λ m a7 aP=>by
     let⟨q,A⟩:=yg (ops:=ops) (k:=m) aP;cases Z:L m with
     |false=>rfl
     |true=>
       obtain T|⟨T,_⟩:=ap m q A (by omega) (n+i) a7
       .have:=qf3 hd m q A (hd m q A Z) T;rw[hL]at this;cases this
       .omega
    have k1:∀m,m<=i->(F ops.toList lB s0B L (n+m)).σ=(F ops.toList lB s0B qi (n+m)).σ:=by
     intro m
     induction m with
     |zero=>intro _;rw[wL,qdi K n (wa _),qdi K n (wa _)]
     |succ m V=>
       intro af;let⟨q,A⟩:=yg (ops:=ops) (k:=n+m) (by omega);let⟨y',_,_,hF⟩:=j9 (s0:=s0B) D A;show(F ops.toList lB s0B L (n+m+1)).σ=(F ops.toList lB s0B qi (n+m+1)).σ;rw[hF L,hF qi,if_pos (a8 (n+m) (by omega) (by omega)),if_pos (show qi (n+m)=true from rfl)];show turn _ _=turn _ _;rw[V (by omega)]
    have k2:∀m,n+i+m<=ops.size->(F ops.toList lB s0B L (n+i+m)).σ=(F ops.toList lB s0B L (n+i)).σ:=by
     intro m
     induction m with
     |zero=>intro _;rfl
     |succ m V=>
       intro af;let⟨q,A⟩:=yg (ops:=ops) (k:=n+i+m) (by omega);let⟨y',_,_,hF⟩:=j9 (s0:=s0B) D A;show(F ops.toList lB s0B L (n+i+m+1)).σ=_
       have hf:L (n+i+m)=false:=by
        cases m with
        |zero=>exact hL
        |succ m=>exact aQ _ (by omega) (by omega)
       rw[hF L,hf];simp only[xk,if_false];exact V (by omega)
    have:=k2 (ops.size-(n+i)) (by omega);rw[show n+i+(ops.size-(n+i))=ops.size by omega]at this;rw[this,k1 i (wa _)]
   have aV:=qfS (ops:=ops) (o:=o) ab
   have an:=qo8 (C:=C) (ex:=ex) (op:=o.op) (σ:=(F ops.toList lB s0B L ops.size).σ) (qlZ (xs:=o.op.operands.toList) λ t W=>ab t (by
    simp only[Jp,wi];exact .inl (.inr W)))
   obtain⟨g,B⟩|⟨g,B⟩:=z2
   .refine .inl ⟨by rw[aV];exact g,?_⟩;rw[an,ay];exact B
   .exact .inr ⟨by rw[aV];exact g,B⟩
 refine wp_region_any hC.mixed ?_;refine qFh hC hx hT hk ar hz (w0:=w) hn.symm ops.size _ Γ _ a (λ _=>0) (by simp) (by rw[kZ,vk];simp) (λ i _=>H i) ?_ ?_ ?_ ?_ (wa _) ?_
 .intro i q am av;exfalso;have av:(Array.replicate ops.size false).getD i false=true:=av;rw[H]at av;cases av
 .rw[aR];exact hi.drew
 .rw[aR];exact W
 .exact⟨λ k o e d h=>(by rw[H]at h;cases h),λ k o e d u h=>(by rw[H]at h;cases h),λ k k' o o' h=>(by rw[H]at h;cases h)⟩
 .intro aS f aJ w1 a1 bn x1 x2 x3 x4 x5 x6 x7 x8 x9 ah bq;have bp:Ext Γ w aJ w1:=(Ext.drew Γ w).trans x6
  have J:∀(k:Nat) (o:Oper),k<n->ops[k]?=some o->qU o=true->f.getD k false=true:=λ k o q1 R O=>x4 k o q1 R (by
   cases hc:Jq ops.toList o with
   |false=>rfl
   |true=>rw[(qye hc).1]at O;cases O)
  have ak:qgO P aJ w w1 ops (λ k=>0<=k/\k<n) a1 bn:=⟨λ k o e d hh g B=>x9.blk k o e d (J k o hh.2 g (by simp[qU,B])) g B,λ k o e d u hh g B=>x9.tmp k o e d u (J k o hh.2 g (by simp[qU,B])) g B,λ k k' o o' hh bG g B g3 g4=>x9.inj k k' o o' (J k o hh.2 g g3) (J k' o' bG.2 B g4) g B g3 g4⟩
  rw[ac _ x4]at x7;rw[ac _ x4]at ah;have ah:qv s.σ M.σ:=by rw[aR]at ah;exact ah
  let⟨aT,c0,c1,c2,c3,c4⟩:=ql2 hC (n:=n) (nb:=nb) (ad:=bn) (ops.toList.take n) 0 M N M.σ aJ aL aj hm hg rfl aG x7 ak bp
  have bl:F ops.toList lB s0B (λ i=>f.getD i false) ops.size=F ops.toList lB s0B (λ i=>f.getD i false) n:=by
   have:=qA6 (ops:=ops) (lB:=lB) (s0B:=s0B) (L:=λ i=>f.getD i false) (n:=n) x3 (ops.size-n);rw[show n+(ops.size-n)=ops.size by omega]at this;exact this
  have aI:(F ops.toList lB s0B (λ i=>f.getD i false) ops.size).σ=N.σ:=by rw[bl];exact qdi K n (wa _)
  refine qxl hC hx (l:=lB) (s0:=s0B) (Good:=λ L=>∀(i:Nat) (q:Oper),i<n->ops[i]?=some q->Jq ops.toList q=false->L i=true) (λ L j hg i q q1 R O=>by simp[hg i q q1 R O]) bD aM aS f aT w1 a1 x1 x2 x5 x4 (by rw[aI];exact c2) ?_ ?_
  .-- the slots
   rw[bl];let⟨b1,b2⟩:=aD (λ i=>f.getD i false) n (wa _);have aY:RepL aT (F (qs C.lo ops.toList) lA s (λ i=>f.getD i false) n).tm a1.tmps.toList:=war c0 x8;refine⟨by rw[b1];exact aY.len,λ t x u hx hu=>?_⟩;have aj:=getElem?_lt hx;have ai:(F ops.toList lB s0B (λ i=>f.getD i false) n).tm.getD t .dead=x:=by rw[List.getD_eq_getElem?_getD,hx];rfl
   by_cases ag:∃(k:Nat) (o:Oper),k<n/\ops[k]?=some o/\qU o=true/\o.dst=some t
   .let⟨k,o,q1,R,O,q4⟩:=ag;rw[(b2 t).1 k o ⟨q1,J k o q1 R O⟩ R O q4,if_pos (by rw[<-b1];exact aj)]at ai;let⟨e,aO⟩:=qbB O;have hp:=ak.tmp k o e t u ⟨wh _,q1⟩ R aO q4 (by simpa using hu);rw[<-ai,hp];exact c4 k o (wh _) q1 R O
   .rw[(b2 t).2 λ k o a9 R O q4=>ag ⟨k,o,a9.1,R,O,q4⟩]at ai;have aX:t<(F (qs C.lo ops.toList) lA s (λ i=>f.getD i false) n).tm.length:=by rw[<-b1];exact aj
    rw[List.getD_eq_getElem?_getD,List.getElem?_eq_getElem aX]at ai;exact aY.rep t x u (by rw[List.getElem?_eq_getElem aX];exact congrArg some ai) hu
  .intro Γ' w' a' g B g3 g4 g5;rw[be]at B g3 g4;rw[aI]at g4;exact A Γ' w' a' (c1.trans g) B g3 (ah.trans (c3.trans g4)) (by rw[g5,bq])
end
end Go.AmZ
namespace Go.AmZ
open Go Go.RowKit
def qBK:AV->Bool
 |.rpt _ _ _ _|.ept _ _=>true
 |_=>false
theorem qAu{o:Oper}{a:Tmp×Operand}(h:stP o=some a):(∃t,o.op=.store t (.tmp a.1) a.2)/\o.guard=none/\o.dst=none:=by
 grind [stP]
theorem qFw{o:Oper}{d:Tmp}(h:ixP o=some d):(∃t x i,o.op=.indexAddr t x i)/\o.guard=none/\o.dst=some d:=by
 grind [ixP]
theorem qs2:∀{m b:Nat},qoa m b=true->∀i,i<m->b.testBit i=true
 |0,_,_,i,a=>absurd a (wD _)
 |m+1,b,h,i,a=>by
   simp only[qoa,wb]at h;obtain a|rfl:=Nat.lt_succ_iff_lt_or_eq.1 a
   .exact qs2 h.2 i a
   .exact h.1
theorem qxR{ops:Array Oper}{e:Bool}{b:Tmp}(h:qkh ops e=some b):e=true/\∃p o q d f c,qeb ops=[p,o,q]/\ixP p=some d/\stP o=some (d,f)/\stP q=some (b,c)/\b≠d/\qzj d c=true/\qy7 (jF ops.toList []) (ops.toList.length-3) p o q=true:=by
 unfold qkh at h;split at h
 .refine⟨rfl,?_⟩;unfold qFM at h;split at h
  .rename_i p o q i;split at h
   .rename_i d a m l k j;split at h
    .rename_i g;cases h;simp only[wb,wJ]at g;grind [Nat.eq_of_beq_eq_true]
    .cases h
   .cases h
  .cases h
 .cases h
section
variable {P:Program}{C:Cfg}{Γ:Gh}{σ:St}{w:World}{ops pre:Array Oper}{ex:yE}{l:List (AV×Option St)}{s0:S}
theorem qC8{g:List AV}{σ':St}{t:TypeId}{a:Tmp}{v:Operand}{b off:Nat}{x:AV}{z:Option St}(h:opA C ex g σ (.store t (.tmp a) v)=some (x,z))(m:g.getD a .dead=.ptr b off):
  ∃cs,z=some {σ with bx:=σ.bx.set b cs,wr:=b::σ.wr}/\∀(c:List AV) (τ:St),aev c (.tmp a)=aev g (.tmp a)->aev c v=aev g v->τ.bx=σ.bx->opA C ex c τ (.store t (.tmp a) v)=some (x,some {τ with bx:=τ.bx.set b cs,wr:=b::τ.wr}):=by
 have k:aev g (.tmp a)=.ptr b off:=m;simp only[opA,qc,k]at h;cases j:C.ty t with
 |none=>rw[j]at h;cases h
 |some d=>
   rw[j]at h;simp only at h;cases f:σ.bx[b]? with
   |none=>rw[f]at h;cases h
   |some cs=>
     rw[f]at h;simp only at h;split at h<;>cases h;rename_i l;refine⟨_,rfl,λ c τ o n i=>?_⟩;have e:τ.bx[b]?=some cs:=by rw[i];exact f
     simp only[opA,qc,o,n,k,j,e,l]
theorem qCG{a:List AV}{t:TypeId}{u i:Operand}{x:AV}{z:Option St}(b:qrn (aev a u)=false)(h:opA C ex a σ (.indexAddr t u i)=some (x,z)):
  z=none/\qBK x=true/\∀τ:St,τ.rw=σ.rw->opA C ex a τ (.indexAddr t u i)=some (x,none):=by
 have c:∀τ:St,τ.rw=σ.rw->opA C ex a τ (.indexAddr t u i)=some (x,z):=λ τ d=>by
  simp_all [opA,qc]
 have f:z=none/\qBK x=true:=by
  simp only[opA,qc]at h
  repeat' split at h
  all_goals first|(cases h;done)|(cases h;exact⟨rfl,rfl⟩)|(rename_i e _ _;rw[e]at b;cases b)|(exfalso;simp_all [qrn];done)
 grind
theorem qFv{b:List AV}{t:TypeId}{a:Tmp}{v:Operand}{y:AV}{x:AV}{z:Option St}(h:opA C ex b σ (.store t (.tmp a) v)=some (x,z))(o:b.getD a .dead=y)(m:qBK y=true):
  ∃r R,z=some {σ with rw:=σ.rw.set r R,wrr:=r::σ.wrr}/\∀τ:St,τ.rw=σ.rw->opA C ex b τ (.store t (.tmp a) v)=some (x,some {τ with rw:=τ.rw.set r R,wrr:=r::τ.wrr}):=by
 have n:aev b (.tmp a)=y:=o;cases y with
 |rpt j k f e=>
   simp only[opA,qc,n]at h;cases g:C.ty t with
   |none=>rw[g]at h;cases h
   |some d=>
     rw[g]at h;simp only at h;cases i:σ.rw[j]? with
     |none=>rw[i]at h;cases h
     |some R=>
       rw[i]at h;simp only at h;cases c:qne R k f e d.size (cellsOf (aev b v))with
       |none=>rw[c]at h;cases h
       |some R'=>
         rw[c]at h;cases h;refine⟨_,_,rfl,λ τ l=>?_⟩;simp_all [opA,qc]
 |ept p f=>
   simp_all [opA,qc]
 |_=>cases m
theorem qwE{a:List AV}{o:Oper}{b:Bool}(c:∀(i:Nat) (q:Oper),pre[i]?=some q->ops[i]?=some q)(h:zw pre a o=some b):zw ops a o=some b:=by
 grind [zw]
def g3(f e c d b a:S):Bool->Bool->Bool->S
 |true,true,true=>a
 |true,true,false=>b
 |true,false,_=>d
 |false,true,true=>c
 |false,true,false=>e
 |false,false,_=>f
def G3(pre:Array Oper)(l:List (AV×Option St))(s0 e c d b a:S)(L:Nat->Bool):S:=g3 (F pre.toList l s0 L pre.size) e c d b a (L (pre.size+2)) (L pre.size) (L (pre.size+1))
theorem QX{h f g e d:S}{L:Nat->Bool}{a b c:Bool}(k:L (pre.size+2)=a)(j:L pre.size=b)(i:L (pre.size+1)=c):G3 pre l s0 h f g e d L=g3 (F pre.toList l s0 L pre.size) h f g e d a b c:=by
 unfold G3;rw[k,j,i]
theorem qqN{b:List AV}{t:TypeId}{a:Tmp}{v:Operand}{y:AV×Option St}(h:opA C ex b σ (.store t (.tmp a) v)=some y):a<b.length:=by
 apply vK;intro c
 have d:aev b (.tmp a)=.dead:=by
  show b.getD a .dead=.dead;grind
 simp_all [opA,qc]
theorem qEt{a:List AV}{d:Tmp}{x:AV}{v:Operand}(h:qzj d v=true):aev (a.set d x) v=aev a v:=by
 cases v with
 |tmp t=>
   have b:d≠t:=λ c=>by rw[c]at h;simp[qzj]at h
   show(a.set d x).getD t .dead=a.getD t .dead;grind
 |_=>rfl
theorem qyF(hC:zp P C)(hx:qai P ex){id:Nat}{s g s':S}{b:Tmp}(aQ:qkh ops true=some b)(hk:qbZ C.lo s.tm (J9 ops) true=true)(h1:qT C ex (J9 ops) true (J9 ops).toList s=some g)(aa:qpd g.tm ops b=true)
  (h2:qT C ex ops true (qeb ops) g=some s') {a:Act}{Q:Exit->Act->World->Prop} (hi:Inv Γ s.σ w) (ht:qQ Γ s.tm a)
  (hq:∀Γ' w' a',Ext Γ w Γ' w'->Inv Γ' s'.σ w'->qQ Γ' s'.tm a'->qv s.σ s'.σ->a'.defers=a.defers->Q .normal a' w'):(Code.region id ops true).wp P Q a w:=by
 obtain⟨_,p,o,q,d,v6,v7,ar,aS,aT,aR,a8,aG,aF⟩:=qxR aQ;obtain⟨⟨t5,u5,i5,N⟩,aX,aw⟩:=qFw aS;obtain⟨⟨t6,Y⟩,aW,av⟩:=qAu aT;obtain⟨⟨t7,M⟩,aV,au⟩:=qAu aR;unfold qpd at aa;rw[wb]at aa;obtain⟨aa,J⟩:=aa
 have J:qrn (aev g.tm u5)=false:=by
  grind [qyS]
 simp only[qy7,wb,wo]at aF;obtain⟨k1,k2,k3,k4,k5,k6⟩:=aF;obtain⟨pre,af⟩:∃pre,pre=J9 ops:=⟨_,rfl⟩
 rw[<-af]at hk h1
 have aJ:ops.toList.length=(ops.toList.length-3)+3:=by
  have:(qeb ops).length=3:=by rw[ar];rfl
  grind [qeb]
 have aD:pre.size=ops.toList.length-3:=by
  rw[af];show(ops.toList.take (ops.toList.length-3)).toArray.size=_;grind
 have X:ops.toList=pre.toList++[p,o,q]:=by
  rw[af,<-ar];exact(kT _ _).symm
 rw[<-aD]at k1 k2 k3 k4 k5 k6;obtain⟨m,u⟩:∃m,m=pre.size:=⟨_,rfl⟩
 have aI:m=pre.toList.length:=by rw[u,wK]
 rw[<-u]at k1 k2 k3 k4 k5 k6;have am:ops.size=m+3:=by rw[<-wK,aJ,u,aD]
 have ae:∀i r,pre[i]?=some r->ops[i]?=some r:=λ i r hr=>by
  have hi:i<pre.toList.length:=by rw[wK];exact(Array.getElem?_eq_some_iff.1 hr).1
  rw[<-Array.getElem?_toList,X,List.getElem?_append_left hi,Array.getElem?_toList];exact hr
 have an:∀i r,i<m->ops[i]?=some r->pre[i]?=some r:=λ i r hi hr=>by
  grind
 have ay:∀n,ops[m+n]?=[p,o,q][n]?:=λ n=>by
  rw[<-Array.getElem?_toList,X,List.getElem?_append_right (by rw[<-aI];exact w7 _ _),<-aI,kG]
 have ai:ops[m]?=some p:=ay 0;have aj:ops[m+1]?=some o:=ay 1;have ah:ops[m+2]?=some q:=ay 2;obtain⟨l,l1,l2,l3,l4⟩:=qe5 pre.toList s g h1;have hT:qaS C ex pre l s:=qmy l3 l4;rw[wK]at l2;have aK:JK C.lo s.tm pre=true:=hk;have O:∀tm,zw ops tm p=some true:=λ tm=>by unfold zw;rw[aX]
 have T:∀tm,zw ops tm o=some true:=λ tm=>by unfold zw;rw[aW]
 have I:∀tm,zw ops tm q=some true:=λ tm=>by unfold zw;rw[aV]
 cases aE:g.tm.getD b .dead with
 |ptr W off=>
   have ax:∀x,(g.tm.set d x).getD b .dead=.ptr W off:=λ x=>by
    grind
   rw[ar]at h2
   obtain⟨H,x6,ac,x7,ap,y5,y6,y7,rfl⟩:∃H x6 ac x7 ap,opA C ex g.tm g.σ p.op=some (H,none)/\opA C ex (g.tm.set d H) g.σ o.op=some (x6,some ac)/\opA C ex (g.tm.set d H) ac q.op=some (x7,some ap)/\s'=⟨g.tm.set d H,ap⟩:=by
    simp only[qT,O,T,I]at h2;split at h2<;>try cases h2
    .rename_i H e5;rw[aw]at h2;simp only[Jx]at h2;have aq:=(qCG J (by rw[N]at e5;exact e5)).2.1;split at h2<;>try cases h2
     .rename_i x6 e6;have e6:=e6;rw[Y]at e6;have ag:=qqN e6;rw[wE]at ag;have hv:(g.tm.set d H).getD d .dead=H:=by rw[List.getD_eq_getElem?_getD,List.getElem?_set_self ag];rfl
      obtain⟨_,_,h,_⟩:=qFv e6 hv aq;cases h
     .rename_i x6 ac e6;split at h2<;>try cases h2
      rw[av]at h2;simp only at h2;split at h2<;>try cases h2
      .rename_i x7 e7;obtain⟨_,h,_⟩:=qC8 (σ':=ac) (by rw[M]at e7;exact e7) (ax H);cases h
      .grind
    .rename_i H a3 e5;have:=(qCG J (by rw[N]at e5;exact e5)).1;cases this
   rw[N]at y5;rw[Y]at y6;rw[M]at y7;obtain⟨_,aq,g5⟩:=qCG J y5;have ag:=qqN y6;rw[wE]at ag;have aP:(g.tm.set d H).getD d .dead=H:=by rw[List.getD_eq_getElem?_getD,List.getElem?_set_self ag];rfl
   obtain⟨r,R,z6,g6⟩:=qFv y6 aP aq;cases z6;obtain⟨cs,z7,g7⟩:=qC8 (σ':=g.σ) y7 (ax H);cases z7
   have eb:aev g.tm (.tmp b)=aev (g.tm.set d H) (.tmp b):=by
    show g.tm.getD b .dead=(g.tm.set d H).getD b .dead;rw[ax,aE]
   have ev:aev g.tm v7=aev (g.tm.set d H) v7:=(qEt aG).symm;obtain⟨B,al⟩:∃B:S,B=⟨g.tm.set d H,g.σ⟩:=⟨_,rfl⟩
   obtain⟨v,ak⟩:∃v:S,v=⟨g.tm.set d H,{g.σ with rw:=g.σ.rw.set r R,wrr:=r::g.σ.wrr}⟩:=⟨_,rfl⟩
   obtain⟨D,az⟩:∃D:S,D=⟨g.tm,{g.σ with bx:=g.σ.bx.set W cs,wr:=W::g.σ.wr}⟩:=⟨_,rfl⟩
   obtain⟨t,Z⟩:∃t:S,t=⟨g.tm.set d H,{g.σ with bx:=g.σ.bx.set W cs,wr:=W::g.σ.wr}⟩:=⟨_,rfl⟩
   obtain⟨f,U⟩:∃f:S,f=⟨g.tm.set d H,{g.σ with rw:=g.σ.rw.set r R,wrr:=r::g.σ.wrr,bx:=g.σ.bx.set W cs,wr:=W::g.σ.wr}⟩:=⟨_,rfl⟩
   have a5:Js C ex ops p g (H,none):=.inl ⟨O _,by rw[N];exact y5⟩;have a2:Js C ex ops p D (H,none):=.inl ⟨O _,by rw[N,az];exact g5 _ rfl⟩;have a6:Js C ex ops o B (x6,some {g.σ with rw:=g.σ.rw.set r R,wrr:=r::g.σ.wrr}):=.inl ⟨T _,by rw[Y,al];exact y6⟩;have a1:Js C ex ops o t (x6,some {g.σ with rw:=g.σ.rw.set r R,wrr:=r::g.σ.wrr,bx:=g.σ.bx.set W cs,wr:=W::g.σ.wr}):=.inl ⟨T _,by rw[Y,Z];exact g6 _ rfl⟩;have a7:Js C ex ops q g (x7,some {g.σ with bx:=g.σ.bx.set W cs,wr:=W::g.σ.wr}):=.inl ⟨I _,by rw[M];exact g7 _ _ eb ev rfl⟩;have a0:Js C ex ops q B (x7,some {g.σ with bx:=g.σ.bx.set W cs,wr:=W::g.σ.wr}):=.inl ⟨I _,by rw[M,al];exact g7 _ _ rfl rfl rfl⟩;have aM:Js C ex ops q v (x7,some {g.σ with rw:=g.σ.rw.set r R,wrr:=r::g.σ.wrr,bx:=g.σ.bx.set W cs,wr:=W::g.σ.wr}):=.inl ⟨I _,by rw[M,ak];exact y7⟩;have ab:∀{L:Nat->Bool}{n j:Nat}{o':Oper},qag ops L->ops[j]?=some o'->(∀e∈yt o',L e=true)->qoa n ((jF ops.toList []).getD j 0)=true->∀i,i<n->L i=true:=λ hd ho hp hb i hi=>qf3 hd _ _ ho hp (qs2 hb i hi);have ao:∀{L:Nat->Bool},(∀i,i<m->L i=true)->F pre.toList l s L pre.size=g:=λ h=>by rw[<-l2];exact qud _ λ i hi=>h i (by rw[u];exact hi)
   have aZ:∀k,F pre.toList l s (λ i=>(Array.replicate ops.size false).getD i false) k=s:=by
    intro k
    induction k with
    |zero=>rfl
    |succ k ih=>
      simp only[F]
      have:(Array.replicate ops.size false).getD k false=false:=by
       rw[wH,Array.getElem?_replicate];split<;>rfl
      rw[this];split
      .rename_i hf;cases hf
      .exact ih
   have ad:∀i,(Array.replicate ops.size false).getD i false=false:=λ i=>by
    rw[wH,Array.getElem?_replicate];split<;>rfl
   have aC:G3 pre l s B v D t f (λ i=>(Array.replicate ops.size false).getD i false)=s:=by
    rw[QX (ad _) (ad _) (ad _)];exact aZ _
   have aL:G3 pre l s B v D t f qi=f:=QX (a:=true) (b:=true) (c:=true) rfl rfl rfl;have A:∀(L:Nat->Bool) (j i:Nat),i≠j->(decide (i=j)||L i)=L i:=λ L j i h=>by rw[decide_eq_false h,vA]
   have E:∀(L:Nat->Bool) (j:Nat),(decide (j=j)||L j)=true:=λ L j=>by rw[decide_eq_true rfl,vd]
   refine wp_region_any hC.mixed ?_;refine qxQ (G:=G3 pre l s B v D t f) (Good:=λ _=>True) hC hx (λ _ _ _=>trivial) (λ j o' z e he=>?_) (λ L K=>?_) (λ L j o' hd _ z K hp=>?_) ops.size _ Γ _ a (by simp) (by rw[kZ,vk];simp) ?_ trivial ?_ ?_ ?_
   .have aU:j<m+3:=by rw[<-am];exact(Array.getElem?_eq_some_iff.1 z).1
    by_cases hj:j<m
    .exact(qeT aK).1 j o' (an j o' hj z) e he
    .obtain rfl|rfl|rfl:j=m\/j=m+1\/j=m+2:=by omega
     .rw[ai]at z;cases z;exact wY (k1 e he)
     .rw[aj]at z;cases z;exact wY (k2 e he)
     .rw[ah]at z;cases z;have:=wY (k3 e he);omega
   .rw[aL];exact QX (a:=true) (b:=true) (c:=true) (K _ (by omega)) (K _ (by omega)) (K _ (by omega))
   .have aU:j<m+3:=by rw[<-am];exact(Array.getElem?_eq_some_iff.1 z).1
    have d1:L (m+1)=true->L m=true:=λ h=>ab hd aj (hd (m+1) o aj h) k5 m (kV m);by_cases hj:j<m
    .have aH:=an j o' hj z
     have n5:L m=false:=by
      cases aA:L m with
      |false=>rfl
      |true=>rw[ab hd ai (hd m p ai aA) k4 j hj]at K;cases K
     have n7:L (m+2)=false:=by
      cases aA:L (m+2)with
      |false=>rfl
      |true=>rw[ab hd ah (hd (m+2) q ah aA) k6 j hj]at K;cases K
     have aY:qag pre L:=λ i r hr hi e he=>hd i r (ae i r hr) hi e he;obtain⟨y,aO,aN⟩:=qoO hT aK aY aH K hp
     have e1:G3 pre l s B v D t f L=F pre.toList l s L pre.size:=by
      exact QX (a:=false) (b:=false) (c:=L (pre.size+1)) (by rw[<-u];exact n7) (by rw[<-u];exact n5) rfl
     have V:G3 pre l s B v D t f (λ i=>decide (i=j)||L i)=F pre.toList l s (λ i=>decide (i=j)||L i) pre.size:=by
      exact QX (L:=λ i=>decide (i=j)||L i) (a:=false) (b:=false) (c:=_) (by show(decide (_=j)||L _)=false;rw[A _ _ _ (by omega),<-u];exact n7) (by show(decide (_=j)||L _)=false;rw[A _ _ _ (by omega),<-u];exact n5) rfl
     rw[e1,V];refine⟨y,?_,aN⟩;rcases aO with⟨w1,w2⟩|⟨w1,w2⟩
     .exact .inl ⟨qwE ae w1,w2⟩
     .exact .inr ⟨qwE ae w1,w2⟩
    .obtain rfl|rfl|rfl:j=m\/j=m+1\/j=m+2:=by omega
     .rw[ai]at z;cases z;have aB:=ab hd ai hp k4
      have n6:L (j+1)=false:=by
       cases h:L (j+1)with
       |false=>rfl
       |true=>rw[d1 h]at K;cases K
      cases hn:L (j+2)with
      |false=>
        have e1:G3 pre l s B v D t f L=g:=by
         exact(QX (a:=false) (b:=false) (c:=false) (by rw[<-u];exact hn) (by rw[<-u];exact K) (by rw[<-u];exact n6)).trans (ao aB)
        have V:G3 pre l s B v D t f (λ i=>decide (i=j)||L i)=B:=
         QX (L:=λ i=>decide (i=j)||L i) (a:=false) (b:=true) (c:=false) (by rw[<-u];show(decide (_=j)||L _)=false;rw[A _ _ _ (by omega)];exact hn) (by rw[<-u];exact E L j) (by rw[<-u];show(decide (_=j)||L _)=false;rw[A _ _ _ (by omega)];exact n6)
        rw[e1,V];refine⟨_,a5,?_⟩;rw[al,zd,aw];rfl
      |true=>
        have e1:G3 pre l s B v D t f L=D:=
         QX (a:=true) (b:=false) (c:=false) (by rw[<-u];exact hn) (by rw[<-u];exact K) (by rw[<-u];exact n6)
        have V:G3 pre l s B v D t f (λ i=>decide (i=j)||L i)=t:=
         QX (L:=λ i=>decide (i=j)||L i) (a:=true) (b:=true) (c:=false) (by rw[<-u];show(decide (_=j)||L _)=true;rw[A _ _ _ (by omega)];exact hn) (by rw[<-u];exact E L j) (by rw[<-u];show(decide (_=j)||L _)=false;rw[A _ _ _ (by omega)];exact n6)
        rw[e1,V];refine⟨_,a2,?_⟩;rw[Z,az,zd,aw];rfl
     .rw[aj]at z;cases z;have h5:=ab hd aj hp k5 m (kV m);cases hn:L (m+2)with
      |false=>
        have e1:G3 pre l s B v D t f L=B:=
         QX (a:=false) (b:=true) (c:=false) (by rw[<-u];exact hn) (by rw[<-u];exact h5) (by rw[<-u];exact K)
        have V:G3 pre l s B v D t f (λ i=>decide (i=m+1)||L i)=v:=
         QX (L:=λ i=>decide (i=m+1)||L i) (a:=false) (b:=true) (c:=true) (by rw[<-u];show(decide (_=m+1)||L _)=false;rw[A _ _ _ (by omega)];exact hn) (by rw[<-u];show(decide (_=m+1)||L _)=true;rw[A _ _ _ (by omega)];exact h5) (by rw[<-u];exact E L (m+1))
        rw[e1,V];refine⟨_,a6,?_⟩;rw[ak,al,zd,av];rfl
      |true=>
        have e1:G3 pre l s B v D t f L=t:=
         QX (a:=true) (b:=true) (c:=false) (by rw[<-u];exact hn) (by rw[<-u];exact h5) (by rw[<-u];exact K)
        have V:G3 pre l s B v D t f (λ i=>decide (i=m+1)||L i)=f:=
         QX (L:=λ i=>decide (i=m+1)||L i) (a:=true) (b:=true) (c:=true) (by rw[<-u];show(decide (_=m+1)||L _)=true;rw[A _ _ _ (by omega)];exact hn) (by rw[<-u];show(decide (_=m+1)||L _)=true;rw[A _ _ _ (by omega)];exact h5) (by rw[<-u];exact E L (m+1))
        rw[e1,V];refine⟨_,a1,?_⟩;rw[U,Z,zd,av];rfl
     .rw[ah]at z;cases z;have aB:=ab hd ah hp k6;cases h5:L m with
      |false=>
        have n6:L (m+1)=false:=by
         cases h:L (m+1)with
         |false=>rfl
         |true=>rw[d1 h]at h5;cases h5
        have e1:G3 pre l s B v D t f L=g:=by
         exact(QX (a:=false) (b:=false) (c:=false) (by rw[<-u];exact K) (by rw[<-u];exact h5) (by rw[<-u];exact n6)).trans (ao aB)
        have V:G3 pre l s B v D t f (λ i=>decide (i=m+2)||L i)=D:=
         QX (L:=λ i=>decide (i=m+2)||L i) (a:=true) (b:=false) (c:=false) (by rw[<-u];exact E L (m+2)) (by rw[<-u];show(decide (_=m+2)||L _)=false;rw[A _ _ _ (by omega)];exact h5) (by rw[<-u];show(decide (_=m+2)||L _)=false;rw[A _ _ _ (by omega)];exact n6)
        rw[e1,V];refine⟨_,a7,?_⟩;rw[az,zd,au];rfl
      |true=>
        cases h6:L (m+1)with
        |false=>
          have e1:G3 pre l s B v D t f L=B:=
           QX (a:=false) (b:=true) (c:=false) (by rw[<-u];exact K) (by rw[<-u];exact h5) (by rw[<-u];exact h6)
          have V:G3 pre l s B v D t f (λ i=>decide (i=m+2)||L i)=t:=
           QX (L:=λ i=>decide (i=m+2)||L i) (a:=true) (b:=true) (c:=false) (by rw[<-u];exact E L (m+2)) (by rw[<-u];show(decide (_=m+2)||L _)=true;rw[A _ _ _ (by omega)];exact h5) (by rw[<-u];show(decide (_=m+2)||L _)=false;rw[A _ _ _ (by omega)];exact h6)
          rw[e1,V];refine⟨_,a0,?_⟩;rw[Z,al,zd,au];rfl
        |true=>
          have e1:G3 pre l s B v D t f L=v:=
           QX (a:=false) (b:=true) (c:=true) (by rw[<-u];exact K) (by rw[<-u];exact h5) (by rw[<-u];exact h6)
          have V:G3 pre l s B v D t f (λ i=>decide (i=m+2)||L i)=f:=
           QX (L:=λ i=>decide (i=m+2)||L i) (a:=true) (b:=true) (c:=true) (by rw[<-u];exact E L (m+2)) (by rw[<-u];show(decide (_=m+2)||L _)=true;rw[A _ _ _ (by omega)];exact h5) (by rw[<-u];show(decide (_=m+2)||L _)=true;rw[A _ _ _ (by omega)];exact h6)
          rw[e1,V];refine⟨_,aM,?_⟩;rw[U,ak,zd,au];rfl
   .intro i r hr a4;grind
   .rw[aC];exact hi.drew
   .rw[aC];exact ht
   .intro Γ' w' a' g1 g2 g3 g4 g5;rw[aC]at g4;rw[aL,U]at g2 g3 g4;exact hq Γ' w' a' ((Ext.drew Γ w).trans g1) g2 g3 g4 g5
 |_=>rw[aE]at aa;cases aa
end
end Go.AmZ
namespace Go.AmZ
open Go Go.RowKit
section
variable {P:Program}{C:Cfg}{Γ:Gh}{σ:St}{w:World}{ops:Array Oper}{ex:yE}{l:List (AV×Option St)}{s0:S}
theorem qFQ(q:zp P C)(k:qai P ex)(o:qaS C ex ops l s0)(j:JK C.lo s0.tm ops=true){Q:Exit->Act->World->Prop}:∀(d:Nat) (c:Array Bool) (Γ:Gh) (w:World) (a:Act),c.size=ops.size->c.toList.countP (λ b => !b)=d->qag ops (λ i=>c.getD i false)->
  Inv Γ (F ops.toList l s0 (λ i=>c.getD i false) ops.size).σ w->qQ Γ (F ops.toList l s0 (λ i=>c.getD i false) ops.size).tm a->
  (∀Γ' w' h,Ext Γ w Γ' w'->Inv Γ' (F ops.toList l s0 qi ops.size).σ w'->qQ Γ' (F ops.toList l s0 qi ops.size).tm h->qv (F ops.toList l s0 (λ i=>c.getD i false) ops.size).σ (F ops.toList l s0 qi ops.size).σ->h.defers=a.defers->Q .normal h w')->
  wpAny P .any ops Q d c a w:=
 λ d c Γ w a e g f=>qxl q k (Good:=λ _=>True) (λ _ _ _=>trivial) (qeT j).1 (λ _ _ _ f _ n p m=>qoO o j f n p m) d c Γ w a e g f trivial
theorem qAF(g:zp P C)(m:qai P ex){id:Nat}{b:Bool}{s d:S}(f:qbZ C.lo s.tm ops b=true)(h:qT C ex ops b ops.toList s=some d){a:Act}{Q:Exit->Act->World->Prop}(p:Inv Γ s.σ w)(n:qQ Γ s.tm a)
  (o:∀Γ' w' e,Ext Γ w Γ' w'->Inv Γ' d.σ w'->qQ Γ' d.tm e->qv s.σ d.σ->e.defers=a.defers->Q .normal e w'):(Code.region id ops b).wp P Q a w:=by
 cases b with
 |false=>
   refine wp_region ?_;have:=qv3 g m (ops:=ops) ops.toList 0 s Γ w a (by simp) h p n o;rw[wK,<-List.range_eq_range']at this;exact this
 |true=>
   let⟨l,G,r,B,A⟩:=qe5 ops.toList s d h;have z:qaS C ex ops l s:=qmy B A;rw[wK]at r;have f:JK C.lo s.tm ops=true:=f
   have c:∀k,F ops.toList l s (λ i=>(Array.replicate ops.size false).getD i false) k=s:=by
    intro k
    induction k with
    |zero=>rfl
    |succ k u=>
      simp only[F]
      have:(Array.replicate ops.size false).getD k false=false:=by
       rw[wH,Array.getElem?_replicate];split<;>rfl
      rw[this];split
      .rename_i y;cases y
      .exact u
   refine wp_region_any g.mixed ?_;refine qFQ g m z f ops.size _ Γ _ a (by simp) (by rw[kZ,vk];simp) ?_ ?_ ?_ ?_
   .intro i q v x;exfalso
    have:(Array.replicate ops.size false).getD i false=false:=by
     rw[wH,Array.getElem?_replicate];split<;>rfl
    grind
   .rw[c];exact p.drew
   .rw[c];exact n
   .intro Γ' w' e E t g3 j D;rw[c]at j;rw[r]at t g3 j;exact o Γ' w' e ((Ext.drew Γ w).trans E) t g3 j D
def COk(P:Program)(ex:yE)(c:Code):Prop:=
 ∀s e b,yN c=true->ex c s=some (e,b)->∀Γ w a,Inv Γ s.σ w->qQ Γ s.tm a->a.defers=[]->
  c.wp P (λ f d w'=>f=e.toExit/\d.defers=[]/\∃Γ',Ext Γ w Γ' w'/\Inv Γ' b.σ w'/\qQ Γ' b.tm d/\qv s.σ b.σ) a w
theorem qEr{s:S}{a:Act}(g:Inv Γ s.σ w)(f:qQ Γ s.tm a)(t:Nat):
  ∃Γ',Ext Γ w Γ' w/\Inv Γ' (qao s t).σ w/\qQ Γ' (qao s t).tm a/\qv s.σ (qao s t).σ:=by
 unfold qao;cases v:rsA (s.tm.getD t .dead)with
 |nil=>exact⟨Γ,.refl _ _,g,f,.refl _⟩
 |cons r l=>
   let⟨m,h,p,o⟩:=QW (r::l) g ((r::l)++s.σ.wrr);refine⟨_,qgk h w,p,?_,qln (r::l)⟩;have n:Le Γ {Γ with mem:=m}:=(qgk h w).le;have k:=qrD g n (λ q y=>o q (by rw[<-v];exact y)) (f.get t);have c:RepL {Γ with mem:=m} s.tm a.tmps.toList:=war n f;refine⟨by rw[wE];exact c.len,λ i x u b j=>?_⟩;by_cases d:t=i
   .subst d;rw[List.getElem?_set_self (by have:=getElem?_lt b;simpa using this)]at b;cases b
    have:a.tmps.getD t undef=u:=by
     rw[wH,<-Array.getElem?_toList,j];rfl
    rw[this]at k;exact k
   .rw[List.getElem?_set_ne d]at b;exact c.rep i x u b j
theorem qyb{a:Act}:∀(ts:List Nat) {s:S}{Γ:Gh},Inv Γ s.σ w->qQ Γ s.tm a->
  ∃Γ',Ext Γ w Γ' w/\Inv Γ' (qcu ts s).σ w/\qQ Γ' (qcu ts s).tm a/\qv s.σ (qcu ts s).σ
 |[],s,Γ,d,c=>⟨Γ,.refl _ _,d,c,.refl _⟩
 |t::ts,s,Γ,d,c=>by
   let⟨e,m,l,k,j⟩:=qEr d c t;let⟨b,i,h,g,f⟩:=qyb ts l k;exact⟨b,m.trans i,h,g,j.trans f⟩
theorem qD6{b:Code}{n:Nat}(o:∀m,m<n->COk P (jN C m) b){s:S}{e:Ex}{g:S}(z:yN b=true)(h:jN C n (.loop b) s=some (e,g)){a:Act}(hi:Inv Γ s.σ w)(ht:qQ Γ s.tm a)(I:a.defers=[]):
  (Code.loop b).wp P (λ A f w'=>A=e.toExit/\f.defers=[]/\∃Γ',Ext Γ w Γ' w'/\Inv Γ' g.σ w'/\qQ Γ' g.tm f/\qv s.σ g.σ) a w:=by
 let J:Nat->Act->World->Prop:=λ m d c=>m<=n/\∃r i,jN C m (.loop b) r=some (e,g)/\Ext Γ w i c/\Inv i r.σ c/\qQ i r.tm d/\d.defers=[]/\qv s.σ r.σ
 have j:∀d c,(∃m,J m d c)->∃m,J m d c/\∀k,J k d c->m<=k:=by
  rintro d c ⟨m,R⟩
  induction m using Nat.strongRecOn with
  |_ m Z=>
    by_cases z:∃k,k<m/\J k d c
    .let⟨k,H,G⟩:=z;exact Z k H G
    .exact⟨m,R,λ k L=>Nat.le_of_not_lt λ F=>z ⟨k,F,L⟩⟩
 classical
 let t:Act->World->Nat:=λ d c=>if h:∃m,J m d c then Classical.choose (j d c h)else 0
 have u:∀d c,(h:∃m,J m d c)->J (t d c) d c/\∀k,J k d c->t d c<=k:=by
  intro d c h;grind
 refine wp_loop (λ d c=>∃m,J m d c) t ⟨n,wa _,s,Γ,h,.refl _ _,hi,ht,I,.refl _⟩ ?_;intro d c L;let⟨K,_⟩:=u d c L;let⟨v,r,i,T,N,h3,h4,h5,M⟩:=K;generalize R:t d c=m at *;cases m with
 |zero=>simp[jN]at T
 |succ m=>
   simp only[jN,J6]at T;let⟨B,Y,X,W,V⟩:=qyb (C.pur b) h3 h4
   have U:∀e1 q,jN C m b (qcu (C.pur b) r)=some (e1,q)->(e1=.normal/\jN C m (.loop b) q=some (e,g)\/(e1≠.normal/\e1=e/\q=g))->
     b.wp P (Exit.then (λ f w'=>(∃m,J m f w')/\t f w'<m+1) (λ A f w'=>A=e.toExit/\f.defers=[]/\∃Γ',Ext Γ w Γ' w'/\Inv Γ' g.σ w'/\qQ Γ' g.tm f/\qv s.σ g.σ)) d c:=by
    intro e1 q hb D;refine wp_mono (o m v _ e1 q z hb B c d X W h5) ?_;rintro A f w' ⟨rfl,Q,l,y,O,g3,x⟩;have y:=Y.trans y;have x:=V.trans x;obtain⟨rfl,hl⟩|⟨E,rfl,rfl⟩:=D
    .have p:J m f w':=⟨Nat.le_of_succ_le v,q,l,hl,N.trans y,O,g3,Q,M.trans x⟩
     exact⟨⟨m,p⟩,Nat.lt_succ_of_le ((u f w' ⟨m,p⟩).2 m p)⟩
    .cases e1 with
     |normal=>exact absurd rfl E
     |exit id|ret=>exact⟨rfl,Q,l,N.trans y,O,g3,M.trans x⟩
   grind
theorem qrp(U:zp P C):∀n,qai P (jN C n):=by
 intro n
 induction n using Nat.strongRecOn with
 |_ n V=>
   cases n with
   |zero=>intro c s e J _ h;simp[jN]at h
   |succ n=>
     have j:=V n (kV n);intro c s e J A h Γ w a z v f;cases c with
     |skip=>
       simp only[jN,J6,wn,wG]at h;obtain⟨rfl,rfl⟩:=h;exact wp_skip ⟨rfl,f,Γ,.refl _ _,z,v,.refl _⟩
     |label k=>
       simp only[jN,J6,wn,wG]at h;obtain⟨rfl,rfl⟩:=h;exact wp_label ⟨rfl,f,Γ,.refl _ _,z,v,.refl _⟩
     |exit id=>
       simp only[jN,J6,wn,wG]at h;obtain⟨rfl,rfl⟩:=h;exact wp_exit ⟨rfl,f,Γ,.refl _ _,z,v,.refl _⟩
     |ret=>
       simp only[jN,J6,wn,wG]at h;obtain⟨rfl,rfl⟩:=h;exact wp_ret ⟨rfl,f,Γ,.refl _ _,z,v,.refl _⟩
     |region id ops M=>
       simp only[jN,J6]at h;split at h
       .rename_i E;have H:M=true:=by unfold qfl at E;rw[wb]at E;exact E.1
        subst H;split at h<;>try cases h
        rename_i d l;rw[wb,wb]at d;split at h<;>try cases h
        rename_i o;split at h<;>cases h;rename_i F;refine qyY U j d.1 d.2.1 d.2.2 l o F z v ?_;intro Γ' w' N u t g3 q L;exact⟨rfl,by rw[L,f],Γ',u,t,g3,q⟩
       .split at h
        .rename_i p K;let⟨H,_⟩:=qxR K;subst H;split at h<;>try cases h
         rename_i d l;split at h<;>cases h;rename_i T o;refine qyF U j K d l T o z v ?_;intro Γ' w' N u t g3 q L;exact⟨rfl,by rw[L,f],Γ',u,t,g3,q⟩
        .split at h<;>cases h;rename_i d l;refine qAF U j d l z v ?_;intro Γ' w' N u t g3 q L;exact⟨rfl,by rw[L,f],Γ',u,t,g3,q⟩
     |seq x y=>
       simp only[jN,J6]at h;simp only[yN,wb]at A;refine wp_seq ?_;cases D:jN C n x s with
       |none=>rw[D]at h;cases h
       |some r=>
         let⟨e1,O⟩:=r;rw[D]at h;refine wp_mono (j x s e1 O A.1 D Γ w a z v f) ?_;rintro e' N w' ⟨rfl,B,g,u,t,g3,q⟩;cases e1 with
         |normal=>
           refine wp_mono (j y O e J A.2 h g w' N t g3 B) ?_;rintro aa ab W ⟨rfl,q0,S,q1,Z,Y,X⟩;exact⟨rfl,q0,S,u.trans q1,Z,Y,q.trans X⟩
         |exit id|ret=>cases h;exact⟨rfl,B,g,u,t,g3,q⟩
     |cond c x y=>
       simp only[jN,J6]at h;simp only[yN,wb]at A;have Q:=qQ.ev v c;split at h
       .rename_i I;rw[I]at Q;exact wp_cond_true (qK Q) (j x s e J A.1 h Γ w a z v f)
       .rename_i I;rw[I]at Q;exact wp_cond_false (qK Q) (j y s e J A.2 h Γ w a z v f)
       .cases h
     |block id b=>
       simp only[jN,J6]at h;simp only[yN]at A;refine wp_block ?_;cases D:jN C n b s with
       |none=>rw[D]at h;cases h
       |some r=>
         let⟨e1,O⟩:=r;rw[D]at h;refine wp_mono (j b s e1 O A D Γ w a z v f) ?_;rintro e' N w' ⟨rfl,B,g,u,t,g3,q⟩;cases e1 with
         |normal|ret=>cases h;exact⟨rfl,B,g,u,t,g3,q⟩
         |exit i=>
           simp only[wn,wG]at h;obtain⟨R,rfl⟩:=h;show if i=id then _ else _;split
           .rename_i G;rw[if_pos G]at R;subst R;exact⟨rfl,B,g,u,t,g3,q⟩
           .rename_i G;rw[if_neg G]at R;subst R;exact⟨rfl,B,g,u,t,g3,q⟩
     |loop b=>
       exact qD6 (n:=n+1) (λ m hm=>λ s e J A h=>V m hm b s e J A h) A h z v f
     |_=>simp only[jN,J6]at h;cases h
end
end Go.AmZ
namespace Go.AmZ
open Go Go.RowKit
structure PC where
 ty:Nat->Option TD
 pf:Nat->Option (List AV->Option AV)
 sp:Nat->Option (St->List AV->Option (AV×Option St))
 pur:Code->List Nat
 ld:Nat->Bool
 inl:Nat->Option Func
def emp:St:=⟨[],[],[],[]⟩
def jL(p:List AV->Option AV):St->List AV->Option (AV×Option St):=λ σ a=>
 match σ with
 |⟨[],[],[],[]⟩=>match p a with
   |some v=>some (v,none)
   |none=>none
 |_=>none
def PC.prim(c:PC)(f:Nat):Option (St->List AV->Option (AV×Option St)):=match c.pf f with|some p=>some (jL p)|none=>c.sp f
def PC.raw(c:PC)(f:Nat):Bool:=match c.pf f with|some _=>false|none=>(c.sp f).isSome
def PC.cfg(c:PC):Cfg:=⟨c.ty,λ _=>none,c.prim,c.raw,c.pur,λ f=>c.raw f||(c.ld f||(c.inl f).isSome),c.inl⟩
def Jr(c:PC)(f:Nat)(σ:St)(a:List AV):Option (AV×Option St):=
 match c.pf f with
 |some p=>match noRefs (a.map (yb σ.rw))with
   |true=>match p (a.map (yb σ.rw))with
     |some v=>match yo v with
       |true=>match qfq v,a.flatMap rsA with
         |true,_|_,[]=>some (v,none)
         |_,r::l=>some (v,some {σ with rw:=frz σ.rw (r::l),wrr:=(r::l)++σ.wrr})
       |false=>none
     |none=>none
   |false=>none
 |none=>match c.sp f with
   |some p=>jh σ a p
   |none=>none
def qc5(c:PC)(tm:List AV)(σ:St)(op:Op):Option (AV×Option St):=
 match op with
 |.call ⟨.builtin b,a,ts⟩=>yq c.cfg σ b ts (a.toList.map (aev tm))
 |.call ⟨.value g,a,_⟩=>match aev tm g with
   |.fn f d=>match c.inl f with
     |none=>Jr c f σ (a.toList.map (aev tm)++d)
     |some _=>none
   |_=>none
 |.call _=>none
 |op=>qc c.cfg tm σ op
def yS(d:List AV->St->Op->Option (AV×Option St))(c:PC)(ops:Array Oper)(b:Bool):List Oper->S->Option S
 |[],s=>some s
 |o::a,s=>match zw ops s.tm o with
   |some true=>match d s.tm s.σ o.op with
     |some (x,none)=>yS d c ops b a ⟨Jx s.tm o.dst x,s.σ⟩
     |some (x,some σ')=>match b && !(qM c.cfg.lo o.op&&qar c.cfg ops (ops.size-(a.length+1)) s.tm s.σ o.op)with
       |true=>none
       |false=>yS d c ops b a ⟨Jx s.tm o.dst x,σ'⟩
     |none=>none
   |some false=>yS d c ops b a ⟨Jx s.tm o.dst qdE,s.σ⟩
   |none=>none
def zO(f:List AV->St->Op->Option (AV×Option St))(c:PC)(ex:yE):yE
 |.skip,s|.label _,s=>some (.normal,s)
 |.region _ ops d,s=>match qfl ops d with
   |true=>match qe4 c.cfg.lo ops.toList&&(qam c.cfg.lo ops&&qbZ c.cfg.lo s.tm ⟨qs c.cfg.lo ops.toList⟩ true),yS f c ⟨qs c.cfg.lo ops.toList⟩ true (qs c.cfg.lo ops.toList) s with
     |true,some g=>match yS f c ops false (alL c.cfg.lo ops.toList) g with
       |some h=>match yS f c ops true (qmp c.cfg.lo ops.toList) h with
         |some e=>some (.normal,e)
         |none=>none
       |none=>none
     |_,_=>none
   |false=>match qkh ops d with
     |some p=>match qbZ c.cfg.lo s.tm (J9 ops) true,yS f c (J9 ops) true (J9 ops).toList s with
       |true,some g=>match qpd g.tm ops p,yS f c ops true (qeb ops) g with
         |true,some e=>some (.normal,e)
         |_,_=>none
       |_,_=>none
     |none=>match qbZ c.cfg.lo s.tm ops d,yS f c ops d ops.toList s with
       |true,some e=>some (.normal,e)
       |_,_=>none
 |.seq a b,s=>match ex a s with
   |some (.normal,e)=>ex b e
   |r=>r
 |.cond t x y,s=>match aev s.tm t with
   |.v (.bool true)=>ex x s
   |.v (.bool false)=>ex y s
   |_=>none
 |.block id b,s=>match ex b s with
   |some (.exit i,e)=>some (if i=id then .normal else .exit i,e)
   |r=>r
 |.loop b,s=>match ex b (qcu (c.pur b) s)with
   |some (.normal,e)=>ex (.loop b) e
   |r=>r
 |.exit id,s=>some (.exit id,s)
 |.ret,s=>some (.ret,s)
 |_,_=>none
def qI(a:List AV->St->Op->Option (AV×Option St))(c:PC):Nat->yE
 |0=>λ _ _=>none
 |n+1=>zO a c (qI a c n)
def qss(c:PC)(σ:St)(fn:Func)(a:List AV):Option (AV×Option St):=match fn.body with
 |none=>none
 |some cd=>match qI (qc5 c) c 12 cd ⟨a++List.replicate (fn.ntmps-a.length) .dead,σ⟩with
   |some (.exit _,_)=>none
   |some (_,b)=>match Jf c.cfg fn b with
     |some r=>some (r,some b.σ)
     |none=>none
   |none=>none
def qbE(c:PC)(tm:List AV)(σ:St)(op:Op):Option (AV×Option St):=
 match op with
 |.call ⟨.value g,b,_⟩=>match aev tm g with
   |.fn f a=>match c.inl f with
     |some fn=>qss c σ fn (b.toList.map (aev tm)++a)
     |none=>Jr c f σ (b.toList.map (aev tm)++a)
   |_=>none
 |op=>qc5 c tm σ op
theorem qvf{fb fr:Nat->Nat}(x:AV)(h:rb x=[])(g:rr x=[]):ren fb fr x=x:=ql1 fb fr x h g
theorem qlh{fb fr:Nat->Nat}(xs:List AV)(h:rbL xs=[])(g:rrL xs=[]):qD fb fr xs=xs:=qi4 fb fr xs h g
theorem qbW{x:AV}(h:yo x=true):rb x=[]/\rr x=[]:=by
 grind [yo]
theorem qeW:∀{xs:List AV},noRefs xs=true->rbL xs=[]/\rrL xs=[]
 |[],_=>⟨rfl,rfl⟩
 |x::xs,h=>by
   simp only[noRefs,ke,wb]at h;let⟨d,c⟩:=qbW h.1;let⟨b,a⟩:=qeW (xs:=xs) h.2;grind [rbL,rrL]
theorem qp2{σ:St}{a:List AV}{p:List AV->Option AV}{v:AV}(h:noRefs a=true)(i:p a=some v)(f:yo v=true):jh σ a (λ σ a=>jL p σ a)=some (v,none):=by
 let⟨d,c⟩:=qeW h;let⟨k,j⟩:=qbW f
 have b:yR σ a=[]:=by
  unfold yR;rw[d];show qg0 σ.bx σ.bx.length []=[];cases σ.bx.length with
  |zero|succ n=>rfl
 have e:JB σ a=[]:=by
  unfold JB;rw[b,c];rfl
 unfold jh
 have g:qcY σ a=true:=by
  unfold qcY;rw[b,e,d,c];rfl
 rw[g];simp only;rw[b,e,qlh a d c];have:qr σ [] []=⟨[],[],[],[]⟩:=rfl;grind [jL,qcU,qvf]
theorem qAn{c:PC}{ex:yE}{f:Nat}{σ:St}{a:List AV}{r:AV×Option St}(h:Jr c f σ a=some r):JC c.cfg ex σ f a=some r:=by
 unfold Jr at h;split at h
 rotate_left
 .rename_i g;split at h<;>try cases h
  rename_i p e;have b:c.cfg.raw f=true:=by show c.raw f=true;unfold PC.raw;rw[g,e];rfl
  have d:(λ(σ:St) a=>JP c.cfg ex σ f a)=p:=by
   simp_all [JP,PC.cfg,PC.prim]
  unfold JC qdM;grind
 rename_i p g;split at h<;>try cases h
 rename_i i;split at h<;>try cases h
 rename_i v j;split at h<;>try cases h
 rename_i k
 have d:∀σ:St,(λ(σ:St) a=>JP c.cfg ex σ f a)=λ σ a=>jL p σ a:=λ _=>by
  simp_all [JP,PC.cfg,PC.prim]
 have b:c.cfg.raw f=false:=by show c.raw f=false;unfold PC.raw;rw[g]
 unfold JC qdM;rw[b];let⟨o,n⟩:=qeW i;cases m:a.flatMap rsA with
 |nil=>
   have:r=(v,none):=by
    grind
   subst this;simp only;rw[d σ];exact qp2 i j k
 |cons q l=>
   simp only;rw[d σ,qp2 i j k];grind [qjs]
theorem qEH{C:Cfg}{ex:yE}{σ:St}{f:Nat}{a:List AV}{r:AV×Option St}(b:C.inl f=none)(h:JC C ex σ f a=some r)(c:C.lo f=false->C.raw f=false/\noRefs (a.map (yb σ.rw))=true/\yo r.1=true):qaW C ex σ f a=some r:=by
 grind [qaW]
theorem qvB{c:PC}{ex:yE}{f:Nat}{σ:St}{a:List AV}{r:AV×Option St}(g:c.inl f=none)(h:Jr c f σ a=some r):qaW c.cfg ex σ f a=some r:=by
 refine qEH g (qAn h) λ e=>?_;unfold Jr at h;split at h
 rotate_left
 .rename_i d;split at h<;>try cases h
  rename_i p b;have:c.cfg.lo f=true:=by show(c.raw f||(c.ld f||(c.inl f).isSome))=true;unfold PC.raw;rw[d,b];rfl
  rw[e]at this;cases this
 rename_i p d;have i:c.cfg.raw f=false:=by show c.raw f=false;unfold PC.raw;rw[d]
 grind
theorem qxk{c:PC}{ex:yE}{tm:List AV}{σ:St}{op:Op}{r:AV×Option St}(h:qc5 c tm σ op=some r):opA c.cfg ex tm σ op=some r:=by
 unfold qc5 at h;grind [opA,qdo,qvB]
theorem qec{i:List AV->St->Op->Option (AV×Option St)}{c:PC}{ex:yE}(a:∀tm σ op r,i tm σ op=some r->opA c.cfg ex tm σ op=some r){ops:Array Oper}{b:Bool}:∀{l:List Oper}{s e:S},yS i c ops b l s=some e->qT c.cfg ex ops b l s=some e
 |[],s,e,h=>h
 |o::g,s,e,h=>by
   simp only[yS]at h;simp only[qT];split at h
   .rename_i f;rw[f];simp only;split at h
    .rename_i x d;rw[a _ _ _ _ d];exact qec a h
    .rename_i x σ' d;rw[a _ _ _ _ d];simp only;split at h
     .cases h
     .rename_i j;rw[j];exact qec a h
    .cases h
   .rename_i f;rw[f];exact qec a h
   .cases h
theorem qoj{e:List AV->St->Op->Option (AV×Option St)}{c:PC}{d:Nat}(j:∀n tm σ op r,e tm σ op=some r->opA c.cfg (jN c.cfg (n+d)) tm σ op=some r):∀{n:Nat}{cd:Code}{s:S}{r:Ex×S},qI e c n cd s=some r->jN c.cfg (n+d) cd s=some r:=by
 intro n
 induction n with
 |zero=>intro cd s r h;simp[qI]at h
 |succ n i=>
   intro cd s r h;simp only[qI]at h;rw[show n+1+d=(n+d)+1 by omega];simp only[jN];cases cd with
   |region id ops g=>
     simp only[zO]at h;simp only[J6];split at h
     .grind [qec]
     .grind [qec]
   |seq a b=>
     grind [zO,J6]
   |cond t x y=>
     grind [zO,J6]
   |block id b=>
     grind [zO,J6]
   |loop b=>
     simp only[zO]at h;simp only[J6];cases f:qI e c n b (qcu (c.pur b) s)with
     |none=>rw[f]at h;cases h
     |some q=>
       rw[f]at h;rw[show jN c.cfg (n+d) b (qcu (c.cfg.pur b) s)=_ from i f];grind
   |_=>exact h
theorem qy0{d:List AV->St->Op->Option (AV×Option St)}{c:PC}:∀{n:Nat}{cd:Code}{s:S}{r:Ex×S},qI d c n cd s=some r->qI d c (n+1) cd s=some r:=by
 intro n
 induction n with
 |zero=>intro cd s r h;simp[qI]at h
 |succ n e=>
   intro cd s r h;rw[qI]at h |-
   cases cd with
   |seq a b=>
     grind [zO]
   |cond t x y=>
     grind [zO]
   |block id b=>
     grind [zO]
   |loop b=>
     grind [zO]
   |_=>exact h
theorem qbp{b:List AV->St->Op->Option (AV×Option St)}{c:PC}{n m:Nat}(a:n<=m){cd:Code}{s:S}{r:Ex×S}(h:qI b c n cd s=some r):qI b c m cd s=some r:=by
 induction a with
 |refl=>exact h
 |step _ d=>exact qy0 d
theorem qCo{c:PC}{σ:St}{fn:Func}{a:List AV}{r:AV×Option St}(h:qss c σ fn a=some r):∃cd e b x,fn.body=some cd/\qI (qc5 c) c 12 cd ⟨a++List.replicate (fn.ntmps-a.length) .dead,σ⟩=some (e,b)/\(e=.ret\/e=.normal)/\Jf c.cfg fn b=some x/\r=(x,some b.σ):=by
 unfold qss at h;split at h<;>try cases h
 rename_i cd j;split at h<;>try cases h
 rename_i e b d g;split at h<;>cases h;rename_i x f;refine⟨cd,e,b,x,j,g,?_,f,rfl⟩;cases e with
 |normal=>exact .inr rfl
 |ret=>exact .inl rfl
 |exit i=>exact(d i rfl).elim
theorem qD3{c:PC}(n:Nat){tm:List AV}{σ:St}{op:Op}{r:AV×Option St}(h:qbE c tm σ op=some r):opA c.cfg (jN c.cfg (n+12)) tm σ op=some r:=by
 unfold qbE at h;split at h
 .rename_i g k ts;split at h<;>try cases h
  rename_i f j o;simp only[opA,qdo,o];split at h
  .rename_i fn a;obtain⟨cd,e,q,x,v,p,u,t,rfl⟩:=qCo h;have s:=qoj (d:=0) (λ n tm σ op r h=>qxk h) (qbp (m:=n+12) (by omega) p);have b:c.cfg.lo f=true:=by show(c.raw f||(c.ld f||(c.inl f).isSome))=true;rw[a];simp
   have i:c.cfg.inl f=some fn:=a;unfold qaW;rw[b];simp only[i];unfold qrk;grind
  .rename_i a;exact qvB a h
 .rename_i op l;exact qxk h
theorem qwB{c:PC}:∀n tm σ op r,qbE c tm σ op=some r->opA c.cfg (jN c.cfg (n+12)) tm σ op=some r:=λ n _ _ _ _ h=>qD3 n h
def Run(c:PC)(cd:Code)(s:S)(K:Ex->S->Prop):Prop:=∃n e a,qI (qbE c) c n cd s=some (e,a)/\K e a
inductive It where
 |code (c:Code)|blk (id:Nat)|ops (os:Array Oper) (draw:Bool) (rest:List Oper)
def Go(c:PC)(Q:Ex->S->Prop):List It->Ex->S->Prop
 |[],e,s=>Q e s
 |.code cd::k,.normal,s=>Run c cd s λ e b=>Go c Q k e b
 |.code _::k,e,s=>Go c Q k e s
 |.blk id::k,.exit i,s=>Go c Q k (if i=id then .normal else .exit i) s
 |.blk _::k,e,s=>Go c Q k e s
 |.ops os d a::k,.normal,s=>∃b,yS (qbE c) c os d a s=some b/\Go c Q k .normal b
 |.ops _ _ _::k,e,s=>Go c Q k e s
section
variable {c:PC}{Q:Ex->S->Prop}{k:List It}{tm:List AV}{σ:St}{s:S}
theorem qAT{cd:Code}{K:Ex->S->Prop}(h:∀n,∀r,zO (qbE c) c (qI (qbE c) c n) cd s=some r↔r=(.normal,s)):Run c cd s K↔K .normal s:=by
 constructor
 .rintro⟨n,e,f,a,d⟩;cases n with
  |zero=>simp[qI]at a
  |succ n=>have:=(h n _).1 a;cases this;exact d
 .intro b;exact⟨1,_,_,(h 0 _).2 rfl,b⟩
theorem qE1(e:Ex):Go c Q [] e s=Q e s:=rfl
theorem qCf:Go c Q (.code .skip::k) .normal s=Go c Q k .normal s:=
 propext (qAT (c:=c) (s:=s) (cd:=.skip) (K:=λ e a=>Go c Q k e a) λ n r=>⟨λ h=>by cases h;rfl,λ h=>by rw[h];rfl⟩)
theorem qCi(l:Nat):Go c Q (.code (.label l)::k) .normal s=Go c Q k .normal s:=
 propext (qAT (c:=c) (s:=s) (cd:=.label l) (K:=λ e a=>Go c Q k e a) λ n r=>⟨λ h=>by cases h;rfl,λ h=>by rw[h];rfl⟩)
theorem qDY(id:Nat):Go c Q (.code (.exit id)::k) .normal s=Go c Q k (.exit id) s:=by
 apply propext;constructor
 .rintro⟨n,e,d,a,b⟩;cases n with
  |zero=>simp[qI]at a
  |succ n=>simp only[qI,zO,wn,wG]at a;obtain⟨rfl,rfl⟩:=a;exact b
 .intro h;exact⟨1,_,_,rfl,h⟩
theorem qEg:Go c Q (.code .ret::k) .normal s=Go c Q k .ret s:=by
 apply propext;constructor
 .rintro⟨n,e,d,a,b⟩;cases n with
  |zero=>simp[qI]at a
  |succ n=>simp only[qI,zO,wn,wG]at a;obtain⟨rfl,rfl⟩:=a;exact b
 .intro h;exact⟨1,_,_,rfl,h⟩
theorem qwZ(cd:Code):Go c Q (.code cd::k) .ret s=Go c Q k .ret s:=rfl
theorem qvj(cd:Code)(i:Nat):Go c Q (.code cd::k) (.exit i) s=Go c Q k (.exit i) s:=rfl
theorem qtL(id:Nat):Go c Q (.blk id::k) .normal s=Go c Q k .normal s:=rfl
theorem qyN(id:Nat):Go c Q (.blk id::k) .ret s=Go c Q k .ret s:=rfl
theorem qwY(id i:Nat):Go c Q (.blk id::k) (.exit i) s=Go c Q k (if i=id then .normal else .exit i) s:=rfl
theorem qGf(a b:Code):Go c Q (.code (.seq a b)::k) .normal s=Go c Q (.code a::.code b::k) .normal s:=by
 apply propext;show Run c (.seq a b) s (λ e f=>Go c Q k e f)↔Run c a s λ e f=>Go c Q (.code b::k) e f;constructor
 .rintro⟨n,e,f,d,g⟩;cases n with
  |zero=>simp[qI]at d
  |succ n=>
    simp only[qI,zO]at d;split at d
    .rename_i h l;exact⟨n,_,h,l,n,e,f,d,g⟩
    .rename_i j;refine⟨n,e,f,d,?_⟩;cases e with
     |normal=>exact absurd d (j f)
     |exit i|ret=>exact g
 .rintro⟨n,e,h,d,g⟩;cases e with
  |normal=>
    let⟨m,e,f,p,o⟩:=g;refine⟨n+m+1,e,f,?_,o⟩;simp only[qI,zO];rw[qbp (by omega) d];exact qbp (by omega) p
  |exit i|ret=>exact⟨n+1,_,h,by simp only[qI,zO];rw[d],g⟩
theorem qCm(id:Nat)(b:Code):Go c Q (.code (.block id b)::k) .normal s=Go c Q (.code b::.blk id::k) .normal s:=by
 apply propext;show Run c (.block id b) s (λ e g=>Go c Q k e g)↔Run c b s λ e g=>Go c Q (.blk id::k) e g;constructor
 .rintro⟨n,e,g,a,f⟩;cases n with
  |zero=>simp[qI]at a
  |succ n=>
    simp only[qI,zO]at a;cases h:qI (qbE c) c n b s with
    |none=>rw[h]at a;cases a
    |some q=>
      rw[h]at a;let⟨e1,d⟩:=q;refine⟨n,e1,d,h,?_⟩;cases e1<;>(simp only[wn,wG]at a;obtain⟨rfl,rfl⟩:=a;exact f)
 .rintro⟨n,e,d,a,f⟩;cases e with
  |normal|exit i|ret=>exact⟨n+1,_,d,by simp only[qI,zO];rw[a],f⟩
theorem go_loop(b:Code):Go c Q (.code (.loop b)::k) .normal s=Go c Q (.code b::.code (.loop b)::k) .normal (qcu (c.pur b) s):=by
 apply propext;show Run c (.loop b) s (λ e d=>Go c Q k e d)↔Run c b (qcu (c.pur b) s) λ e d=>Go c Q (.code (.loop b)::k) e d;constructor
 .rintro⟨n,e,d,a,f⟩;cases n with
  |zero=>simp[qI]at a
  |succ n=>
    simp only[qI,zO]at a;split at a
    .rename_i g j;exact⟨n,_,g,j,n,e,d,a,f⟩
    .rename_i h;refine⟨n,e,d,a,?_⟩;cases e with
     |normal=>exact absurd a (h d)
     |exit i|ret=>exact f
 .rintro⟨n,e,g,a,f⟩;cases e with
  |normal=>
    let⟨m,e,d,o,l⟩:=f;refine⟨n+m+1,e,d,?_,l⟩;simp only[qI,zO];rw[qbp (by omega) a];exact qbp (by omega) o
  |exit i|ret=>exact⟨n+1,_,g,by simp only[qI,zO];rw[a],f⟩
theorem qz9 (rw:List Row) (y:AV):rsA (yb rw y)=[]:=by
 have b:∀ x,rsC (qB rw x)=[]:=by
  intro x;cases x with
  | rs r lo n a f =>
    simp only [qB];split
    ·split<;>rfl
    ·rfl
  | _=>rfl
 cases y with
 | agg cs =>
   show (cs.map (qB rw)).flatMap rsC=[];grind [List.flatMap_map,List.flatMap_eq_nil_iff]
 | rs r lo n a f =>
   show rsA (qB rw (.rs r lo n a f))=[];simp only [qB];split
   ·split<;>rfl
   ·rfl
 | _=>rfl
def qzh(ts:List Nat)(s:S):Prop:=∀t∈ts,rsA (s.tm.getD t .dead)=[]
theorem qyl(s:S)(t u:Nat)(h:u=t\/rsA (s.tm.getD u .dead)=[]):rsA ((qao s t).tm.getD u .dead)=[]:=by
 unfold qao;cases b:rsA (s.tm.getD t .dead)with
 |nil=>
   grind
 |cons r l=>
   show rsA ((s.tm.set t _).getD u .dead)=[];by_cases c:t=u
   .subst c
    have d:t<s.tm.length:=by
     apply vK;intro a;rw[List.getD_eq_getElem?_getD,List.getElem?_eq_none a]at b;cases b
    grind [List.getElem?_set_self,qz9]
   .grind
theorem qpV:∀(ts:List Nat) (s:S) (us:List Nat),qzh us s->qzh (us++ts) (qcu ts s)
 |[],s,us,h=>by rw[wA];exact h
 |t::ts,s,us,h=>by
   have:=qpV ts (qao s t) (us++[t]) (λ u a=>qyl s t u (by
    obtain a|a:=wi.1 a
    .exact .inr (h u a)
    .exact .inl (by simpa using a)))
   rw[wk]at this;exact this
theorem qxV:∀(ts:List Nat) (s:S),qzh ts s->qcu ts s=s
 |[],s,h=>rfl
 |t::ts,s,h=>by
   have e:qao s t=s:=by unfold qao;rw[h t (ww ..)]
   show qcu ts (qao s t)=s;rw[e];exact qxV ts s λ u a=>h u (wj _ a)
theorem qFf(b:Code):Go c Q (.code (.loop b)::k) .normal (qcu (c.pur b) s)=Go c Q (.code (.loop b)::k) .normal s:=by
 rw[go_loop,go_loop,qxV _ _ (by have:=qpV (c.pur b) s [] (λ _ h=>by cases h);simpa using this)]
def qy2(c:PC)(Q:Ex->S->Prop)(k:List It)(s:S)(x y:Code):AV->Prop
 |.v (.bool true)=>Go c Q (.code x::k) .normal s
 |.v (.bool false)=>Go c Q (.code y::k) .normal s
 |_=>False
theorem qDK(t:Operand)(x y:Code):Go c Q (.code (.cond t x y)::k) .normal ⟨tm,σ⟩=qy2 c Q k ⟨tm,σ⟩ x y (aev tm t):=by
 apply propext;show Run c (.cond t x y) ⟨tm,σ⟩ (λ e b=>Go c Q k e b)↔_;constructor
 .rintro⟨n,e,b,a,f⟩;cases n with
  |zero=>simp[qI]at a
  |succ n=>
    simp only[qI,zO]at a;split at a
    .rename_i d;rw[d];exact⟨n,e,b,a,f⟩
    .rename_i d;rw[d];exact⟨n,e,b,a,f⟩
    .cases a
 .intro h;unfold qy2 at h;split at h
  .rename_i d;let⟨n,e,b,a,f⟩:=h;exact⟨n+1,e,b,by simp only[qI,zO,d];exact a,f⟩
  .rename_i d;let⟨n,e,b,a,f⟩:=h;exact⟨n+1,e,b,by simp only[qI,zO,d];exact a,f⟩
  .exact h.elim
theorem qAk(x y:Code):qy2 c Q k s x y (.v (.bool true))=Go c Q (.code x::k) .normal s:=rfl
theorem qzy(x y:Code):qy2 c Q k s x y (.v (.bool false))=Go c Q (.code y::k) .normal s:=rfl
theorem qzb(id:Nat)(l:List Oper)(d:Bool){p:Tmp}(g:qfl ⟨l⟩ d=false)(f:qkh ⟨l⟩ d=some p)(m:qbZ c.cfg.lo s.tm (J9 ⟨l⟩) true=true)(h:Go c (λ e a=>qpd a.tm ⟨l⟩ p=true/\Go c Q (.ops ⟨l⟩ true (qeb ⟨l⟩)::k) .normal a) (.ops (J9 ⟨l⟩) true (J9 ⟨l⟩).toList::[]) .normal s):Go c Q (.code (.region id ⟨l⟩ d)::k) .normal s:=by
 let⟨a,o,j,b,n,i⟩:=h;refine⟨1,.normal,b,?_,i⟩;simp_all [qI,zO]
theorem go_region(id:Nat)(l:List Oper)(d:Bool)(f:qfl ⟨l⟩ d=false)(b:qkh ⟨l⟩ d=none):Go c Q (.code (.region id ⟨l⟩ d)::k) .normal s=(qbZ c.cfg.lo s.tm ⟨l⟩ d=true/\Go c Q (.ops ⟨l⟩ d l::k) .normal s):=by
 apply propext;constructor
 .rintro⟨n,e,i,a,h⟩;cases n with
  |zero=>simp[qI]at a
  |succ n=>
    simp only[qI,zO,f,b]at a;split at a<;>cases a;rename_i g j;exact⟨g,_,j,h⟩
 .rintro⟨g,i,a,h⟩;exact⟨1,.normal,i,by simp only[qI,zO,f,b];rw[g,a],h⟩
theorem qyP(id:Nat)(l:List Oper)(d:Bool)(b:qfl ⟨l⟩ d=true)(j:qe4 c.cfg.lo l=true)(e:qam c.cfg.lo ⟨l⟩=true)(m:qbZ c.cfg.lo s.tm ⟨qs c.cfg.lo l⟩ true=true)(h:Go c Q (.ops ⟨qs c.cfg.lo l⟩ true (qs c.cfg.lo l)::.ops ⟨l⟩ false (alL c.cfg.lo l)::.ops ⟨l⟩ true (qmp c.cfg.lo l)::k) .normal s):Go c Q (.code (.region id ⟨l⟩ d)::k) .normal s:=by
 let⟨i,p,g,o,a,n,f⟩:=h;refine⟨1,.normal,a,?_,f⟩;simp_all [qI,zO]
theorem qyz(os:Array Oper)(d:Bool):Go c Q (.ops os d []::k) .normal s=Go c Q k .normal s:=by
 apply propext;constructor
 .rintro⟨e,a,b⟩;simp only[yS,wn]at a;subst a;exact b
 .intro h;exact⟨s,rfl,h⟩
def qmS(c:PC)(Q:Ex->S->Prop)(k:List It)(os:Array Oper)(d l:Bool)(a:List Oper)(b:Option Tmp)(tm:List AV)(σ:St):Option (AV×Option St)->Prop
 |some (x,none)=>Go c Q (.ops os d a::k) .normal ⟨Jx tm b x,σ⟩
 |some (x,some σ')=>(d && !l)=false/\Go c Q (.ops os d a::k) .normal ⟨Jx tm b x,σ'⟩
 |none=>False
def qmQ(c:PC)(Q:Ex->S->Prop)(k:List It)(os:Array Oper)(d:Bool)(a:List Oper)(o:Oper)(tm:List AV)(σ:St):Option Bool->Prop
 |some true=>qmS c Q k os d (qM c.cfg.lo o.op&&qar c.cfg os (os.size-(a.length+1)) tm σ o.op) a o.dst tm σ (qbE c tm σ o.op)
 |some false=>Go c Q (.ops os d a::k) .normal ⟨Jx tm o.dst qdE,σ⟩
 |none=>False
theorem qGg(os:Array Oper)(d:Bool)(o:Oper)(f:List Oper):Go c Q (.ops os d (o::f)::k) .normal ⟨tm,σ⟩=qmQ c Q k os d f o tm σ (zw os tm o):=by
 apply propext;constructor
 .rintro⟨b,a,e⟩;simp only[yS]at a;unfold qmQ;split at a
  .rename_i g;unfold qmS;split at a
   .rename_i x i;exact⟨b,a,e⟩
   .rename_i x σ' i;split at a
    .cases a
    .rename_i j;exact⟨j,b,a,e⟩
   .cases a
  .rename_i g;exact⟨b,a,e⟩
  .cases a
 .intro h;unfold qmQ at h;split at h
  .rename_i g;unfold qmS at h;split at h
   .rename_i x i;let⟨b,a,e⟩:=h;exact⟨b,by simp only[yS,g,i];exact a,e⟩
   .rename_i x σ' i;let⟨j,b,a,e⟩:=h;exact⟨b,by simp only[yS,g,i,j];exact a,e⟩
   .exact h.elim
  .rename_i g;let⟨b,a,e⟩:=h;exact⟨b,by simp only[yS,g];exact a,e⟩
  .exact h.elim
end
end Go.AmZ
namespace Go.AmZ
open Go Go.RowKit
def Sub(x y:AV):Prop:=∀Γ u,Rep Γ x u->Rep Γ y u
theorem Sub.refl(x:AV):Sub x x:=λ _ _ h=>h
inductive jx:List AV->List AV->Prop
 |nil:jx [] []
 |cons {x y:AV}{xs ys:List AV}:Sub x y->jx xs ys->jx (x::xs) (y::ys)
theorem jx.refl:∀xs,jx xs xs
 |[]=>.nil
 |x::xs=>.cons (.refl x) (.refl xs)
theorem jx.rep{Γ:Gh}:∀{xs ys:List AV}{us:List Value},jx xs ys->RepL Γ xs us->RepL Γ ys us
 |_,_,_,.nil,h=>h
 |_,_,us,.cons h t,g=>by
   obtain⟨u,r,rfl,b,a⟩:=g.uncons;exact .cons (h Γ u b) (t.rep a)
theorem jx.tup{xs ys:List AV}(h:jx xs ys):Sub (.tup xs) (.tup ys):=by
 intro Γ u a;cases a with
 |tup cs us c b=>
   have:=h.rep (RepL.mk c b);exact .tup _ _ this.len this.rep
theorem qDH{P:Program}{C:Cfg}{Γ:Gh}{σ:St}{w:World}(t:zp P C){f:FuncId}{fn:Func}{c:Code}(F:P.funcs[f]?=some fn)(E:fn.body=some c)(o:yN c=true){b:List AV}{a:List Value}{r:AV×Option St}(s:Inv Γ σ w)(q:RepL Γ b a)
  {n:Nat}{e:Ex}{d:S} (D:jN C n c (qd9 fn σ b)=some (e,d)) (m:e=.ret\/e=.normal) (k:qfh C fn σ d=some r):jW P Γ σ w f a r:=by
 unfold jW;refine calls_of_wp F E ?_;have l:Inv Γ (qd9 fn σ b).σ w:=s.wr rfl rfl
 have B:qQ Γ (qd9 fn σ b).tm {tmps:=a.toArray++Array.replicate (fn.ntmps-a.toArray.size) undef,defers:=[]}:=by
  show RepL Γ (b++List.replicate (fn.ntmps-b.length) .dead) (a.toArray++Array.replicate (fn.ntmps-a.toArray.size) undef).toList;rw[xa,kZ];have:a.toArray.size=b.length:=by simpa using q.len
  rw[this];exact q.append (qaV Γ _)
 refine wp_mono (qrp t n c _ e d o D Γ w _ l B rfl) ?_;rintro I x w' ⟨rfl,o,Γ',H,u,g3,G⟩;unfold qfh at k;split at k<;>cases k;rename_i i j;let⟨v,A,z⟩:=qf8 t.ty u g3 j;let⟨⟨h,u1,u2,u3⟩,u4⟩:=qAc s H u G z
 have:x.defers=[]/\∃v,(results fn x.tmps).run P w'=.ok v w'/\∃g Γ',Ending.returned v=.returned g/\Ext Γ w Γ' w'/\Inv Γ' (turn σ (JE σ i d.σ).2) w'/\Rep Γ' (JE σ i d.σ).1 g/\qv {σ with wr:=[],wrr:=[]} (turn {σ with wr:=[],wrr:=[]} (JE σ i d.σ).2):=
  ⟨o,v,A,v,h,rfl,u1,u2,u3,u4⟩
 obtain rfl|rfl:=m
 .exact this
 .exact this
def Ret(c:PC)(a:List ResultVar)(b:AV->Prop)(e:Ex)(s:S):Prop:=
 (e=.ret\/e=.normal)/\match ja c.cfg s.tm s.σ a with
  |some l=>refs 0 0 (qeG 0 s.σ.rw (qX l))=false/\b (qeG 0 s.σ.rw (qX l))
  |none=>False
def GoB(c:PC)(b:AV->Prop)(fn:Func)(a:List AV):Prop:=
 match fn.body with
 |some cd=>Go c (Ret c fn.results.toList b) [.code cd] .normal ⟨a++List.replicate (fn.ntmps-a.length) .dead,emp⟩
 |none=>False
def QB(fn:Func):Bool:=match fn.body with
 |some cd=>yN cd && !(fn.name=="runtime.NumGoroutine")
 |none=>false
theorem zp.pur{P:Program}{C:Cfg}(h:zp P C)(p:Code->List Nat)(q:Nat->Bool):zp P {C with pur:=p,lo:=q}:=⟨h.mixed,h.ty,h.fn,h.prim,h.inl⟩
theorem qAb{P:Program}{c:PC}(hC:zp P c.cfg){f:FuncId}{fn:Func}(hf:P.funcs[f]?=some fn)(hb:QB fn=true)(p:List AV->Option AV)
  (h:∀ args r,p args=some r->∃ args' Pr p q,jx args args'/\(∀ v,Pr v->Sub v r)/\GoB { c with pur:=p,ld:=q } Pr fn args'):qw P f (jL p):=by
 unfold QB at hb;cases hc:fn.body with
 | none=>rw[hc]at hb;cases hb
 | some cd =>
 rw[hc]at hb;simp only[wb,wJ]at hb;obtain⟨hd,hn⟩:=hb;refine⟨⟨fn,hf,by rw[hc];rfl,hn⟩,λ Γ σ w args vals r hi hr hp=>?_⟩;unfold jL at hp;split at hp<;>try cases hp
 split at hp<;>cases hp;rename_i v hv;obtain⟨args',Pr,pp,qq,g1,g2,hgo⟩:=h args v hv;have hC:zp P (PC.cfg { c with pur:=pp,ld:=qq }):=hC.pur pp _;unfold GoB at hgo;rw[hc]at hgo;obtain⟨n,e,s',g3,g4,g0⟩:=hgo;split at g0
 case h_2=>exact g0.elim
 rename_i l hl;obtain⟨g6,g7⟩:=g0
 have g5:Jf (PC.cfg { c with pur:=pp,ld:=qq }) fn s'=some (qX l):=by
  unfold Jf;rw[hl]
 generalize qX l=rv at g5 g6 g7
 have hl:qfh (PC.cfg { c with pur:=pp,ld:=qq }) fn emp s'=some (qeG 0 s'.σ.rw rv,none):=by
  unfold qfh;rw[g5];simp only[JE];have f1:(s'.σ.wr.filter λ b=>decide (b<emp.bx.length))=[]:=vS.2 λ b _=>by simp[emp]
  have f2:(s'.σ.wrr.filter λ b=>decide (b<emp.rw.length))=[]:=vS.2 λ b _=>by simp[emp]
  have hk:qkD emp rv s'.σ = false:=by
   unfold qkD;rw[f1];show(refs 0 0 (qeG 0 s'.σ.rw rv)||false)=false;rw[g6];rfl
  rw[hk,f1,f2];rfl
 have hcall:=qDH (f:=f) (σ := emp) hC hf hc hd hi (g1.rep hr) (qoj qwB g3) g4 hl;refine Calls.mono hcall ?_;rintro e' w' ⟨v',Γ',q1,q2,q3,q4,q5⟩;exact⟨v',Γ',q1,q2,q3,g2 _ g7 Γ' v' q4,q5⟩
section
variable {c:PC}{Q:Ex->S->Prop}{k:List It}{tm:List AV}{σ:St}{os:Array Oper}{d:Bool}{rest:List Oper}{dst:Option Tmp}
def qDw(c:PC)(Q:Ex->S->Prop)(k:List It)(os:Array Oper)(d:Bool)(rest:List Oper)(dst:Option Tmp)(tm:List AV)(σ:St)(x:AV):Prop:=Go c Q (.ops os d rest::k) .normal ⟨Jx tm dst x,σ⟩
theorem qxu(l:Bool)(x:AV):qmS c Q k os d l rest dst tm σ (some (x,none))=qDw c Q k os d rest dst tm σ x:=rfl
theorem qEe(l:Bool)(x:AV)(σ':St):qmS c Q k os d l rest dst tm σ (some (x,some σ'))=((d && !l)=false/\qDw c Q k os d rest dst tm σ' x):=rfl
theorem qAp(o:Oper):qmQ c Q k os d rest o tm σ (some true)=qmS c Q k os d (qM c.cfg.lo o.op&&qar c.cfg os (os.size-(rest.length+1)) tm σ o.op) rest o.dst tm σ (qbE c tm σ o.op):=rfl
theorem qzu(o:Oper):qmQ c Q k os d rest o tm σ (some false)=Go c Q (.ops os d rest::k) .normal ⟨Jx tm o.dst qdE,σ⟩:=rfl
end
end Go.AmZ
namespace Go.GxZ
open Go.RowKit
inductive T where
 |mk (kind:Int) (name:List UInt8) (sort:Int) (kids:List T)
namespace T
def kind:T->Int|mk k _ _ _=>k
def name:T->List UInt8|mk _ n _ _=>n
def sort:T->Int|mk _ _ s _=>s
def kids:T->List T|mk _ _ _ l=>l
def para{α:Type}(f:T->List α->α)(t:T):α:=
 T.rec (motive_1:=λ _=>α) (motive_2:=λ _=>List α) (λ k n s l c=>f (mk k n s l) c) [] (λ _ _ a b=>a::b) t
theorem para_eq{α : Type}(f:T->List α -> α)(t:T):para f t=f t (t.kids.map (para f)):=by
 obtain⟨k,n,s,l⟩:=t;show f (mk k n s l) _=f (mk k n s l) _;congr 1;show T.rec_1 (motive_1 := λ _ => α) (motive_2 := λ _=>List α) _ _ _ l=l.map (para f)
 induction l with
 | nil=>rfl
 | cons a l ih=>exact congrArg (para f a :: ·) ih
theorem ind{P:T->Prop}(h:∀t,(∀k∈t.kids,P k)->P t)(t:T):P t:=
 T.rec (motive_1:=P) (motive_2:=λ l=>∀k∈l,P k) (λ _ _ _ _ c=>h _ c) (λ k b=>by cases b)
  (λ a l e d k b=>by obtain rfl|b:=wM.1 b;exact e;exact d k b) t
end T
def qbK{α:Type}(k:Nat)(R:α->List Value->Prop)(Q:Nat->Prop)(w:World)(a:Option Addr)(xs:List α):Prop:=
 ∀(j:Nat) (x:α),xs[j]?=some x->∃b off cs,a=some ⟨b,off,none⟩/\Q b/\cs.length=k/\(∀(i:Nat) (c:Value),cs[i]?=some c->w.cell? ⟨b,off+j*k+i,none⟩=some c)/\R x cs
def j8(Q:Nat->Prop)(w:World):T->List Value->Prop:=
 T.para λ t b cs=>∃a c,cs=[.int .i64 t.kind,.string ⟨t.name.toArray⟩,.int .i64 t.sort,.slice a b.length c]/\qbK 4 (λ r cs=>r cs) Q w a b
theorem qhx{Q:Nat->Prop}{w:World}{t:T}{cs:List Value}:
  j8 Q w t cs↔∃a c,cs=[.int .i64 t.kind,.string ⟨t.name.toArray⟩,.int .i64 t.sort,.slice a t.kids.length c]/\qbK 4 (j8 Q w) Q w a t.kids:=by
 unfold j8;rw[T.para_eq];simp only[wx];refine exists_congr λ a=>exists_congr λ c=>and_congr Iff.rfl ?_;constructor
 .intro h j x d;obtain⟨b,off,cs,l,k,i,g,f⟩:=h j _ (by rw[List.getElem?_map,d];rfl);grind
 .intro h j r d;rw[List.getElem?_map,Option.map_eq_some_iff]at d;obtain⟨x,e,rfl⟩:=d;exact h j x e
theorem qbK.mono{α:Type}{k:Nat}{R R':α->List Value->Prop}{Q d:Nat->Prop}{w:World}{a:Option Addr}{xs:List α}(h:qbK k R Q w a xs)(f:∀b,Q b->d b)(e:∀x∈xs,∀cs,R x cs->R' x cs):qbK k R' d w a xs:=
 λ j x c=>let⟨b,off,cs,h1,h2,h3,h4,h5⟩:=h j x c;⟨b,off,cs,h1,f b h2,h3,h4,e x (wc c) cs h5⟩
theorem qbK.below{α:Type}{k:Nat}{R R':α->List Value->Prop}{Q:Nat->Prop}{w w':World}{a:Option Addr}{xs:List α}(h:qbK k R Q w a xs)(f:∀b,Q b->w'.heap[b]?=w.heap[b]?)(g:∀x∈xs,∀cs,R x cs->R' x cs):qbK k R' Q w' a xs:=
 λ j x d=>let⟨b,off,cs,h1,h2,h3,h4,h5⟩:=h j x d;⟨b,off,cs,h1,h2,h3,λ i c e=>(World.cell?_of_block (w:=w) (a:=⟨b,off+j*k+i,none⟩) (f b h2)).trans (h4 i c e),g x (wc d) cs h5⟩
theorem j8.mono{Q d:Nat->Prop}{w:World}(g:∀b,Q b->d b)(t:T):∀{cs:List Value},j8 Q w t cs->j8 d w t cs:=by
 refine T.ind (P:=λ t=>∀{cs:List Value},j8 Q w t cs->j8 d w t cs) ?_ t;intro t e cs h;rw[qhx]at h |-
 let⟨a,c,j,i⟩:=h;exact⟨a,c,j,i.mono g λ x f cs h=>e x f h⟩
theorem j8.keep{Q:Nat->Prop}{w w':World}(f:∀b,Q b->w'.heap[b]?=w.heap[b]?)(t:T):∀{cs:List Value},j8 Q w t cs->j8 Q w' t cs:=by
 refine T.ind (P:=λ t=>∀{cs:List Value},j8 Q w t cs->j8 Q w' t cs) ?_ t;intro t d cs h;rw[qhx]at h |-
 let⟨a,c,i,g⟩:=h;exact⟨a,c,i,g.below f λ x e cs h=>d x e h⟩
def qDA(t:T)(a:Option Addr)(c:Nat):List Value:=[.int .i64 t.kind,.string ⟨t.name.toArray⟩,.int .i64 t.sort,.slice a t.kids.length c]
def qaB(Q:Nat->Prop)(w:World)(a:Option Addr)(l:List T):Prop:=qbK 4 (j8 Q w) Q w a l
theorem j8.mk{Q:Nat->Prop}{w:World}{t:T}{a:Option Addr}{c:Nat}(h:qaB Q w a t.kids):j8 Q w t (qDA t a c):=qhx.2 ⟨a,c,rfl,h⟩
theorem j8.out{Q:Nat->Prop}{w:World}{t:T}{cs:List Value}(h:j8 Q w t cs):∃a c,cs=qDA t a c/\qaB Q w a t.kids:=qhx.1 h
theorem qaB.mono{Q d:Nat->Prop}{w:World}{a:Option Addr}{l:List T}(c:∀b,Q b->d b)(h:qaB Q w a l):qaB d w a l:=qbK.mono h c λ _ _ _ h=>h.mono c
theorem qaB.keep{Q:Nat->Prop}{w w':World}{a:Option Addr}{l:List T}(c:∀b,Q b->w'.heap[b]?=w.heap[b]?)(h:qaB Q w a l):qaB Q w' a l:=qbK.below h c λ x _ _ h=>h.keep c x
theorem qaB.at{Q:Nat->Prop}{w:World}{a:Option Addr}{l:List T}(h:qaB Q w a l){j:Nat}{x:T}(f:l[j]?=some x):
  ∃b off d e,a=some ⟨b,off,none⟩/\Q b/\w.cell? ⟨b,off+j*4,none⟩=some (.int .i64 x.kind)/\w.cell? ⟨b,off+j*4+1,none⟩=some (.string ⟨x.name.toArray⟩)/\
   w.cell? ⟨b,off+j*4+2,none⟩=some (.int .i64 x.sort)/\w.cell? ⟨b,off+j*4+3,none⟩=some (.slice d x.kids.length e)/\qaB Q w d x.kids:=by
 let⟨b,off,cs,m,k,n,c,i⟩:=h j x f;obtain⟨d,e,rfl,g⟩:=i.out;exact⟨b,off,d,e,m,k,c 0 _ rfl,c 1 _ rfl,c 2 _ rfl,c 3 _ rfl,g⟩
def InW(Q:Nat->Prop)(w:World):Prop:=∀b,Q b->b<w.heap.size
theorem InW.below{Q:Nat->Prop}{w w':World}(h:InW Q w)(c:Below w.heap.size w w'):InW Q w':=λ b a=>wv (h b a) c.size
theorem qaB.later{Q:Nat->Prop}{w w':World}{a:Option Addr}{l:List T}(h:qaB Q w a l)(e:InW Q w)(d:Below w.heap.size w w'):qaB Q w' a l:=h.keep λ b c=>d.block b (e b c)
theorem j8.later{Q:Nat->Prop}{w w':World}{t:T}{cs:List Value}(h:j8 Q w t cs)(d:InW Q w)(c:Below w.heap.size w w'):j8 Q w' t cs:=h.keep (λ b a=>c.block b (d b a)) t
end Go.GxZ
namespace Go.AmZ
open Go Go.GxZ
def re(t:T):T:=.mk t.kind t.name t.sort t.kids
theorem qL(t:T):re t=t:=by let⟨k,n,s,l⟩:=t;rfl
inductive Ty where
 |int (k:IntKind)|bool|str|term|list (a:Ty)|pair (a b:Ty)|one (a:Ty)|map (a b:Ty)
 deriving DecidableEq
@[reducible] def Val:Ty->Type
  |.int _=>Int
  |.bool=>Bool
  |.str=>List UInt8
  |.term=>T
  |.list a=>List (Val a)
  |.pair a b=>Val a×Val b
  |.one a=>Val a
  |.map a b=>List (Val a×Val b)
def Ty.size:Ty->Nat
 |.term=>4
 |.pair a b=>a.size+b.size
 |.one a=>a.size
 |_=>1
inductive TV where
 |i (k:IntKind) (n:Int)
 |b (x:Bool)
 |s (x:List UInt8)
 |c (x:Value)
 |nil
 |sl (τ:Ty) (l:List (Val τ)) (lv:Nat)
 |row (id ver:Nat)
 |ptr (b o:Nat)
 |pti (b:Nat) (i:Int)
 |rpt (id ver sv:Nat) (i:Int) (cs:List TV) (o:Nat)
 |ept (cs:List TV) (o:Nat)
 |fn (f:FuncId) (caps:List TV)
 |agg (cs:List TV)
 |tup (vs:List TV)
 |dead
 |mp (b:Nat)
 |mc (κ τ:Ty) (l:List (Val κ×Val τ))
structure qu where
 τ:Ty
 l:List (Val τ)
 ver:Nat
 sv:Nat
 sh:Bool
structure TS where
 bx:List (List TV)
 rw:List qu
abbrev Env:=List (Nat×TV)
def get:Env->Nat->TV
 |[],_=>.dead
 |p::E,t=>match Nat.beq p.1 t with
   |true=>p.2
   |false=>get E t
def qac:Value->TV
 |.bool b=>.b b
 |.int k n=>.i k n
 |.string s=>.s s.data.toList
 |.slice none 0 0=>.nil
 |x=>match qS x with
   |true=>.c x
   |false=>.dead
def quG:Value->TV
 |.agg cs=>match cs.toList.all qS with
   |true=>.agg (cs.toList.map qac)
   |false=>.dead
 |.tuple vs=>match vs.toList with
   |[]=>.tup []
   |_=>.dead
 |x=>qac x
def evT(E:Env):Operand->TV
 |.tmp t=>get E t
 |.const x=>quG x
 |.func f=>.fn f []
 |.global _=>.dead
def yv:TV->List TV
 |.agg cs=>cs
 |x=>[x]
def qeH:TV->Bool
 |.agg _|.tup _|.dead=>false
 |_=>true
def Qz:(τ:Ty)->Val τ->List TV
 |.int k,n=>[.i k n]
 |.bool,b=>[.b b]
 |.str,s=>[.s s]
 |.term,t=>[.i .i64 t.kind,.s t.name,.i .i64 t.sort,.sl .term t.kids 1]
 |.list a,l=>[.sl a l 1]
 |.pair a b,p=>Qz a p.1++Qz b p.2
 |.one a,v=>Qz a v
 |.map a b,l=>[.mc a b l]
def qg7:(τ:Ty)->Val τ->TV
 |.int k,n=>.i k n
 |.bool,b=>.b b
 |.str,s=>.s s
 |.list a,l=>.sl a l 1
 |.term,t=>.agg (Qz .term t)
 |.pair a b,p=>.agg (Qz (.pair a b) p)
 |.one a,v=>.agg (Qz (.one a) v)
 |.map a b,l=>.mc a b l
def quh{c τ:Ty}(l:List (Val c×Val τ))(a b:Ty):Option (List (Val a×Val b)):=if h:c=a/\τ=b then some (h.1▸h.2▸l)else none
def qcc{τ:Ty}(l:List (Val τ))(a:Ty):Option (List (Val a)):=if h:τ=a then some (h▸l)else none
def qhI(rw:List qu)(a:Ty):TV->Option (List (Val a))
 |.nil=>some []
 |.sl _ l _=>qcc l a
 |.row id b=>match rw[id]? with
   |some R=>match Nat.beq R.ver b with
     |true=>qcc R.l a
     |false=>none
   |none=>none
 |_=>none
def qCQ(k:IntKind):List TV->Option (Int×List TV)
 |.i a n::r=>match decide (a=k)with
   |true=>some (n,r)
   |false=>none
 |_=>none
def qzl:List TV->Option (Bool×List TV)
 |.b x::r=>some (x,r)
 |_=>none
def qB2:List TV->Option (List UInt8×List TV)
 |.s x::r=>some (x,r)
 |_=>none
def qyy(a:TV->Option (List T)):List TV->Option (T×List TV)
 |.i .i64 k::.s n::.i .i64 s::x::r=>match a x with
   |some l=>some (.mk k n s l,r)
   |none=>none
 |_=>none
def qzr{a:Type}(b:TV->Option a):List TV->Option (a×List TV)
 |x::r=>match b x with
   |some l=>some (l,r)
   |none=>none
 |_=>none
def qj2{σ b a:Type}(p:List σ->Option (b×List σ))(q:List σ->Option (a×List σ))(cs:List σ):Option ((b×a)×List σ):=match p cs with
 |some (x,r)=>match q r with
   |some (y,r)=>some ((x,y),r)
   |none=>none
 |none=>none
def qBz(a b:Ty):List TV->Option (List (Val a×Val b)×List TV)
 |.mc c τ l::r=>match quh l a b with
   |some l=>some (l,r)
   |none=>none
 |_=>none
def qeY(rw:List qu):(τ:Ty)->List TV->Option (Val τ×List TV)
 |.int k=>qCQ k
 |.bool=>qzl
 |.str=>qB2
 |.term=>qyy (qhI rw .term)
 |.list a=>qzr (qhI rw a)
 |.pair a b=>qj2 (qeY rw a) (qeY rw b)
 |.one a=>qeY rw a
 |.map a b=>qBz a b
def Ty.agg:Ty->Bool
 |.term|.pair _ _|.one _=>true
 |_=>false
def qh3{a:Type}:Option (a×List TV)->Option a
 |some (v,[])=>some v
 |_=>none
def qp5:TV->Bool
 |.agg _=>true
 |_=>false
def J5(rw:List qu)(τ:Ty)(x:TV):Option (Val τ):=match jP τ.agg (qp5 x)with
 |true=>qh3 (qeY rw τ (yv x))
 |false=>none
def qnq(rw:List qu)(τ:Ty):List TV->Option (List (Val τ))
 |[]=>some []
 |x::l=>match J5 rw τ x with
   |some v=>match qnq rw τ l with
     |some vs=>some (v::vs)
     |none=>none
   |none=>none
def qiv:TV->Bool
 |.i .. |.b _|.s _|.c _|.nil|.sl .. |.fn .. |.mc .. => true
 |_=>false
def qiE:TV->Bool
 |.agg cs=>cs.all qiv
 |x=>qiv x
inductive ATy where
 |val (τ:Ty)|fn
@[reducible] def JQ:List ATy->Type
  |[]=>Unit
  |.val τ::r=>Val τ×JQ r
  |.fn::r=>JQ r
@[reducible] def qbD:List Ty->Type
  |[]=>Unit
  |[a]=>Val a
  |a::b::r=>Val a×qbD (b::r)
def qFk{σ:Type}:List σ->Option Unit
 |[]=>some ()
 |_=>none
def qiL{σ b a:Type}(p:σ->Option b)(q:List σ->Option a):List σ->Option (b×a)
 |x::xs=>match p x with
   |some v=>match q xs with
     |some vs=>some (v,vs)
     |none=>none
   |none=>none
 |[]=>none
def pFn{a:Type}(q:List TV->Option a):List TV->Option a
 |.fn _ []::xs=>q xs
 |_=>none
def qq0(rw:List qu):(ts:List ATy)->List TV->Option (JQ ts)
 |[]=>qFk
 |.val τ::r=>qiL (J5 rw τ) (qq0 rw r)
 |.fn::r=>pFn (qq0 rw r)
def qjT:List TV->List Nat
 |[]=>[]
 |.fn f _::l=>f::qjT l
 |_::l=>qjT l
def unL:(ts:List Ty)->qbD ts->List TV
 |[],_=>[]
 |[a],v=>[qg7 a v]
 |a::b::r,v=>qg7 a v.1::unL (b::r) v.2
def qlN:List TV->TV
 |[x]=>x
 |l=>.tup l
structure Sig where
 args:List ATy
 res:List Ty
 fn:JQ args->Option (qbD res)
inductive RA where
 |val (τ:Ty)|row (τ:Ty)
@[reducible] def RA.T:RA->Type
  |.val τ=>Val τ
  |.row τ=>List (Val τ)
@[reducible] def CV:List RA->Type
  |[]=>Unit
  |a::r=>a.T×CV r
@[reducible] def BV:List RA->Type
  |[]=>Unit
  |[a]=>a.T
  |a::b::r=>CV (a::b::r)
def toC:(l:List RA)->BV l->CV l
 |[],_=>()
 |[_],v=>(v,())
 |_::_::_,v=>v
def toB:(l:List RA)->CV l->BV l
 |[],_=>()
 |[_],v=>v.1
 |_::_::_,v=>v
def nR:List RA->Nat
 |[]=>0
 |.val _::r=>nR r
 |.row _::r=>nR r+1
inductive SA where
 |val (τ:Ty)|row (τ:Ty)|box (l:List RA)|nil|clo (g k:Nat)
inductive RE where
 |one (a:RA)|agg (l:List RA)
@[reducible] def jt:List SA->Type
  |[]=>Unit
  |.val τ::r=>Val τ×jt r
  |.row τ::r=>List (Val τ)×jt r
  |.box l::r=>BV l×jt r
  |.nil::r|.clo _ _::r=>jt r
@[reducible] def yD:List SA->Type
  |[]=>Unit
  |.box l::r=>BV l×yD r
  |.nil::r|.val _::r|.row _::r|.clo _ _::r=>yD r
@[reducible] def RV:List RE->Type
  |[]=>Unit
  |.one a::r=>a.T×RV r
  |.agg l::r=>CV l×RV r
def nrB:List SA->Nat
 |[]=>0
 |.box l::r=>nR l+nrB r
 |.nil::r|.val _::r|.row _::r|.clo _ _::r=>nrB r
def nBx:List SA->Nat
 |[]=>0
 |.box _::r=>nBx r+1
 |.nil::r|.val _::r|.row _::r|.clo _ _::r=>nBx r
def qim:List SA->Bool
 |[]=>true
 |.row _::_=>false
 |.box _::r|.nil::r|.val _::r|.clo _ _::r=>qim r
def qgG:List SA->Bool
 |[]=>true
 |.box _::r=>qim r&&qgG r
 |.nil::r|.val _::r|.row _::r|.clo _ _::r=>qgG r
structure qiy where
 args:List SA
 res:List RE
 fn:jt args->Option (yD args×RV res)
structure qmI where
 τ:Ty
 args:List SA
 fn:jt (.row τ::args)->Option (List (Val τ))
structure qn3 where
 args:List SA
 fn:jt args->Option Int
inductive Co where
 |keep|row (τ:Ty) (sh:Bool)|list (τ:Ty)|plist (τ:Ty)|box (cs:List Co)|fn (cs:List Co)
structure TC where
 ty:Nat->Option TD
 el:Nat->Option Ty
 has:Nat->Bool
 pf:Nat->List Nat->Option Sig
 sf:Nat->Option qiy
 loop:Nat->Option (List (Tmp×Co))
 join:Nat->Option (List (Tmp×Co))
 nt:Nat
 np:Nat
 ld:Nat->Bool
 mf:Nat->Option qmI
 xf:Nat->Option qn3
 inl:Nat->Option Func
def TC.rawT(c:TC)(f:Nat):Bool:=match c.has f with
 |true=>false
 |false=>match c.mf f with
   |some _=>true
   |none=>match c.xf f with
     |some _=>true
     |none=>match c.sf f with
       |some _=>true
       |none=>false
def TC.loT(c:TC)(f:Nat):Bool:=c.rawT f||(c.ld f||(c.inl f).isSome)
abbrev TC.n2(c:TC):Nat×Nat:=(c.nt,c.np)
def qb{α b:Type}(x:Option α)(k:α->Option b):Option b:=match x with
 |some a=>k a
 |none=>none
def qns{α c:Type}(x:Option c)(a:α)(f:c->α):α:=match x with
 |none=>a
 |some b=>f b
def qna{α b:Type}(l:List b)(a:α)(f:b->List b->α):α:=match l with
 |[]=>a
 |x::r=>f x r
def qg{α:Type}(l:List α)(j:Int):Option α:=if 0<=j then l[j.toNat]? else none
def ixb(j:Int)(n:Nat):Bool:=decide (0<=j/\j<(n:Int))
def qjo:List TV->Option (List Bool)
 |[]=>some []
 |.b x::l=>match qjo l with
   |some r=>some (x::r)
   |none=>none
 |_=>none
def qkm:List Bool->Int->Bool->Nat->List Bool
 |[],_,_,_=>[]
 |e::l,i,v,j=>cond (ieq i (j:Int)) v e::qkm l i v (j+1)
def inb(i:Int)(y:Nat):Bool:=decide (0<=i/\i<=y)
def yB{α:Type}(l:List α)(j:Int)(v:α):List α:=if 0<=j then l.set j.toNat v else l
def qyZ(n:Int)(bytes:Nat):Bool:=decide (0<=n/\n.toNat*bytes<=2^47/\n.toNat<2^62)
def qCj:Operand->Operand->Bool
 |.tmp a,.tmp b=>Nat.beq a b
 |.const (.int k a),.const (.int c b)=>decide (k=c)&&decide (a=b)
 |_,_=>false
def shA(σ:TS):TS:=⟨σ.bx,σ.rw.map λ R=>⟨R.τ,R.l,R.ver,R.sv,true⟩⟩
def qqG:Ty->Bool
 |.int _|.bool|.str=>true
 |_=>false
def qaL{α:Type}(l:List α)(a b:Int):List α:=(l.take b.toNat).drop a.toNat
def qeV(a b:List UInt8):Bool:=Nat.ble (a.length+b.length) 9223372036854775807
def ye(n bytes:Nat):Bool:=decide (n*bytes<=2^47/\n<2^62)
def qx(a b:List UInt8):Bool:=a==b
def slt(a b:List UInt8):Bool:=Op.bytesLess a b
def qgZ(l:List Int):List UInt8:=l.map λ n=>UInt8.ofNat n.toNat
def qbt(s:List UInt8):List Int:=s.map λ b=>((b.toNat:Nat):Int)
def qvw:Option TD->Bool
 |some ⟨_,_,_,_,.ptr⟩=>true
 |_=>false
def qza:TV->TV->Option Bool
 |.c (.pointer none),.c (.pointer none)=>some true
 |.ptr _ _,.c (.pointer none)|.rpt _ _ _ _ _ _,.c (.pointer none)|.ept _ _,.c (.pointer none)=>some false
 |_,_=>none
section
variable {α:Type}
abbrev KT(α:Type):=TV->Option TS->Option α
def qCI(op:BinOp)(k:IntKind)(a b:Int)(K:TV->Option α):Option α:=
 match op with
 |.add=>K (.i k (iw k (qj a b)))
 |.sub=>K (.i k (iw k (qbN a b)))
 |.mul=>K (.i k (iw k (qBs a b)))
 |.quo=>cond (ieq b 0) none (K (.i k (iw k (qyn a b))))
 |.rem=>cond (ieq b 0) none (K (.i k (qvU a b)))
 |.and=>K (.i k (qky .and k a b))
 |.or=>K (.i k (qky .or k a b))
 |.xor=>K (.i k (qky .xor k a b))
 |.andNot=>K (.i k (qky .andNot k a b))
 |.eql=>K (.b (ieq a b))
 |.neq=>K (.b (qh (ieq a b)))
 |.lss=>K (.b (ilt a b))
 |.leq=>K (.b (ile a b))
 |.gtr=>K (.b (ilt b a))
 |.geq=>K (.b (ile b a))
 |_=>none
def qBn(op:BinOp)(x y:List UInt8)(K:TV->Option α):Option α:=
 match op with
 |.add=>cond (qeV x y) (K (.s (x++y))) none
 |.eql=>K (.b (qx x y))
 |.neq=>K (.b (qh (qx x y)))
 |.lss=>K (.b (slt x y))
 |.leq=>K (.b (qlD (slt x y) (qx x y)))
 |.gtr=>K (.b (qh (qlD (slt x y) (qx x y))))
 |.geq=>K (.b (qh (slt x y)))
 |_=>none
def qpw:Option TD->Bool
 |some ⟨_,_,_,_,.bool⟩=>true
 |_=>false
def qBA(d:Option TD)(op:BinOp)(x y:TV)(K:TV->Option α):Option α:=
 match x,y with
 |.i k a,.i c b=>match op with
   |.shl=>cond (ilt b 0) none (K (.i k (qCx k a b)))
   |.shr=>cond (ilt b 0) none (K (.i k (qsd k a b)))
   |op=>match decide (k=c)with
     |true=>qCI op k a b K
     |false=>none
 |.s a,.s b=>qBn op a b K
 |.b a,.b b=>match op,qpw d with
   |.eql,true=>K (.b (jP a b))
   |.neq,true=>K (.b (qh (jP a b)))
   |_,_=>none
 |_,_=>none
def quj(place:Nat->Option (Nat×Nat))(cells:List TV):List (Nat×TV)->Option (List TV)
 |[]=>some cells
 |(i,x)::a=>match place i with
   |none=>none
   |some (off,size)=>match decide ((yv x).length=size)&&decide (off+size<=cells.length)&&(yv x).all qeH with
     |true=>quj place (cells.take off++(yv x++cells.drop (off+size))) a
     |false=>none
def qhR(a:Bool)(size:Nat)(cs:List TV)(o:Nat):Option TV:=
 match a with
 |true=>match decide (o+size<=cs.length)with
   |true=>some (.agg ((cs.drop o).take size))
   |false=>none
 |false=>cs[o]?
def qcE(d:Int)(E:Env):Option Operand->Option Int
 |none=>some d
 |some x=>match evT E x with
   |.i _ n=>some n
   |_=>none
def veq:(c:Ty)->Val c->Val c->Bool
 |.int _,a,b=>ieq a b
 |.str,a,b=>qx a b
 |.bool,a,b=>jP a b
 |.pair c τ,a,b=>veq c a.1 b.1&&veq τ a.2 b.2
 |.one c,a,b=>veq c a b
 |_,_,_=>false
def kcT:Ty->List KC
 |.int k=>[.int k]
 |.str=>[.str]
 |.bool=>[.bool]
 |.pair a b=>kcT a++kcT b
 |.one a=>kcT a
 |_=>[]
def Q7:Ty->Bool
 |.int _|.str|.bool=>true
 |.pair a b=>Q7 a&&Q7 b
 |.one a=>Q7 a
 |_=>false
def qr5{K V:Type}(eq:K->K->Bool):List (K×V)->K->Option V
 |[],_=>none
 |p::l,k=>cond (eq k p.1) (some p.2) (qr5 eq l k)
def qfA{K V:Type}(eq:K->K->Bool)(z:V)(l:List (K×V))(k:K):V:=qns (qr5 eq l k) z id
def qvQ{K V:Type}(eq:K->K->Bool)(l:List (K×V))(k:K):Bool:=qns (qr5 eq l k) false λ _=>true
def qdX{K V:Type}(eq:K->K->Bool):List (K×V)->K->V->List (K×V)
 |[],k,v=>[(k,v)]
 |p::l,k,v=>cond (eq k p.1) ((p.1,v)::l) (p::qdX eq l k v)
def qql:List TV->Bool
 |[.dead]|[.mc ..]=>false
 |_=>true
def qpF(σ:TS)(a τ:Ty):TV->Option (Nat×List (Val a×Val τ))
 |.mp b=>match σ.bx[b]? with
   |some [.mc _ _ l]=>match quh l a τ with
     |some l=>some (b,l)
     |none=>none
   |_=>none
 |_=>none
def qm9(c:TC)(t:Nat):Option (Ty×Ty):=match c.ty t,c.el t with
 |some ⟨_,_,_,_,.map e f d b _⟩,some (.map a τ)=>match decide (e=kcT a)&&(jP f a.agg&&(jP d τ.agg&&(decide (b=τ.size)&&Q7 a)))with
   |true=>some (a,τ)
   |false=>none
 |_,_=>none
def qBB(c:TC)(t:Nat)(τ:Ty):Option (Val τ):=match c.ty t with
 |some ⟨_,_,_,_,.map _ _ _ b a⟩=>match a.all qS&&decide (a.length=b)with
   |true=>qh3 (qeY [] τ (a.map qac))
   |false=>none
 |_=>none
def qnf(c:TC)(E:Env)(σ:TS)(t:Nat)(m k v:Operand)(K:KT α):Option α:=match qm9 c t with
 |some (a,τ)=>match qpF σ a τ (evT E m),qiE (evT E v)with
   |some (b,l),true=>match J5 σ.rw a (evT E k),J5 σ.rw τ (evT E v)with
     |some k,some v=>K (.tup []) (some {σ with bx:=σ.bx.set b [.mc a τ (qdX (veq a) l k v)]})
     |_,_=>none
   |_,_=>none
 |none=>none
def yM(c:TC)(E:Env)(σ:TS)(op:Op)(K:KT α):Option α:=
 match op with
 |.move x|.assign x=>K (evT E x) none
 |.pick x a b=>match evT E x with
   |.b y=>cond y (K (evT E a) none) (K (evT E b) none)
   |_=>none
 |.alloc e=>match c.ty e with
   |some d=>match d.zero.all qS with
     |true=>K (.ptr σ.bx.length 0) (some {σ with bx:=σ.bx++[d.zero.map qac]})
     |false=>none
   |none=>none
 |.box e x=>match c.ty e with
   |some _=>match(yv (evT E x)).all qeH with
     |true=>K (.ptr σ.bx.length 0) (some {σ with bx:=σ.bx++[yv (evT E x)]})
     |false=>none
   |none=>none
 |.build t parts=>match c.ty t with
   |some ⟨_,_,_,z,.struct w⟩=>match z.all qS with
     |true=>match quj (λ i=>match w[i]? with|some f=>some (f.1,f.2.1)|none=>none) (z.map qac) (parts.toList.map λ p=>(p.1,evT E p.2))with
       |some cs=>K (.agg cs) none
       |none=>none
     |false=>none
   |_=>none
 |.buildSlice t n parts=>match c.ty t,c.el t with
   |some ⟨_,_,_,_,.slice _ k _ _⟩,some τ=>match decide (k=τ.size)&&decide (parts.size=n)&&decide (n*k<=2^24)&&decide (0<k)&&(parts.toList.zipIdx.all λ p=>decide (p.1.1=p.2))with
     |true=>match qnq σ.rw τ (parts.toList.map λ p=>evT E p.2)with
       |some vs=>K (.sl τ vs 2) (match(parts.toList.all λ p=>qiE (evT E p.2))with|true=>none|false=>some (shA σ))
       |none=>none
     |false=>none
   |_,_=>none
 |.load t a=>match c.ty t with
   |some d=>match evT E a with
     |.ptr b o=>match σ.bx[b]? with
       |some cs=>match qql cs with
         |true=>match qhR d.agg d.size cs o with
           |some x=>K x none
           |none=>none
         |false=>none
       |none=>none
     |.ept cs o=>match qhR d.agg d.size cs o with
       |some x=>K x none
       |none=>none
     |.pti b i=>match σ.bx[b]? with
       |some cs=>match d.agg,qjo cs with
         |false,some l=>qb (qg l i) λ v=>K (.b v) none
         |_,_=>none
       |none=>none
     |.rpt id q u i cs o=>match σ.rw[id]? with
       |some R=>match Nat.beq R.ver q with
         |true=>match Nat.beq R.sv u with
           |true=>match qhR d.agg d.size cs o with
             |some x=>K x none
             |none=>none
           |false=>match R.sh with
             |true=>none
             |false=>qb (qg R.l i) λ v=>match qhR d.agg d.size (Qz R.τ v) o with
               |some x=>K x none
               |none=>none
         |false=>none
       |none=>none
     |_=>none
   |none=>none
 |.store t a x=>match c.ty t,evT E a with
   |some d,.ptr b o=>match σ.bx[b]? with
     |some cs=>match qql cs&&decide ((yv (evT E x)).length=d.size)&&decide (o+d.size<=cs.length)&&(yv (evT E x)).all qeH with
       |true=>K (.tup []) (some {σ with bx:=σ.bx.set b (cs.take o++(yv (evT E x)++cs.drop (o+d.size)))})
       |false=>none
     |none=>none
   |some d,.pti b i=>match σ.bx[b]?,evT E x with
     |some cs,.b v=>match qjo cs,Nat.beq d.size 1 with
       |some l,true=>cond (ixb i l.length) (K (.tup []) (some {σ with bx:=σ.bx.set b ((qkm l i v 0).map .b)})) none
       |_,_=>none
     |_,_=>none
   |some d,.rpt id q u i cs o=>match σ.rw[id]? with
     |some R=>match Nat.beq R.ver q&&Nat.beq R.sv u && !R.sh&&decide ((yv (evT E x)).length=d.size)&&decide (o+d.size<=cs.length)&&(yv (evT E x)).all qiv with
       |true=>match qh3 (qeY σ.rw R.τ (cs.take o++(yv (evT E x)++cs.drop (o+d.size))))with
         |some v=>K (.tup []) (some {σ with rw:=σ.rw.set id ⟨R.τ,yB R.l i v,R.ver,R.sv+1,R.sh⟩})
         |none=>none
       |false=>none
     |none=>none
   |_,_=>none
 |.makeSlice t n m=>match c.ty t,c.el t,evT E n with
   |some ⟨_,_,_,_,.slice _ k bytes z⟩,some τ,.i _ a=>match qCj n m&&decide (k=τ.size)&&decide (0<k)&&decide (z.length=k)&&z.all qS with
     |true=>match qh3 (qeY [] τ (z.map qac))with
       |some v=>cond (qyZ a bytes) (K (.row σ.rw.length 0) (some {σ with rw:=σ.rw++[⟨τ,List.replicate a.toNat v,0,0,false⟩]})) none
       |none=>none
     |false=>none
   |_,_,_=>none
 |.nilCheck x=>match evT E x with
   |.ptr b o=>K (.ptr b o) none
   |.ept cs o=>K (.ept cs o) none
   |.rpt id q u i cs o=>K (.rpt id q u i cs o) none
   |_=>none
 |.binOp op t x y _=>match qza (evT E x) (evT E y)with
   |some b=>match op,qvw (c.ty t)with
     |.eql,true=>K (.b b) none
     |.neq,true=>K (.b (!b)) none
     |_,_=>none
   |none=>qBA (c.ty t) op (evT E x) (evT E y) λ v=>K v none
 |.unOp op _ x=>match op,evT E x with
   |.neg,.i k n=>K (.i k (iw k (qbN 0 n))) none
   |.not,.b y=>K (.b (qh y)) none
   |_,_=>none
 |.convert s d x=>match c.ty s,c.ty d,evT E x with
   |some _,some ⟨_,_,_,_,.int k⟩,.i _ n=>K (.i k (iw k n)) none
   |some _,some ⟨_,_,_,_,.string⟩,.s y=>K (.s y) none
   |some ⟨_,_,_,_,.string⟩,some ⟨_,_,_,_,.slice e 1 _ _⟩,.s y=>match qle (c.ty e)with
     |true=>K (.row σ.rw.length 0) (some {σ with rw:=σ.rw++[⟨.int .u8,qbt y,0,0,false⟩]})
     |false=>none
   |some ⟨_,_,_,_,.slice e 1 _ _⟩,some ⟨_,_,_,_,.string⟩,y=>match qle (c.ty e),qhI σ.rw (.int .u8) y with
     |true,some l=>K (.s (qgZ l)) none
     |_,_=>none
   |_,_,_=>none
 |.makeFunc (.func f) w cs=>match w.toList with
   |[]=>K (.fn f (cs.toList.map (evT E))) none
   |_=>none
 |.slice t x lo A none=>match c.ty t,evT E x with
   |some ⟨_,_,_,_,.string⟩,.s y=>match qcE y.length E A with
     |some h=>match qcE 0 E lo with
       |some l=>cond (inb h y.length) (cond (inb l h.toNat) (K (.s (qaL y l h)) none) none) none
       |none=>none
     |none=>none
   |some ⟨_,_,_,_,.slice _ k _ _⟩,.sl τ y D=>match decide (τ.size=k)&&pos D with
     |true=>match qcE y.length E A with
       |some h=>match qcE 0 E lo with
         |some l=>cond (inb h y.length) (cond (inb l h.toNat) (K (.sl τ (qaL y l h) 1) none) none) none
         |none=>none
       |none=>none
     |false=>none
   |some ⟨_,_,_,_,.slice _ _ _ _⟩,.nil=>match qcE 0 E A with
     |some h=>match qcE 0 E lo with
       |some l=>cond (inb h 0) (cond (inb l h.toNat) (K .nil none) none) none
       |none=>none
     |none=>none
   |some ⟨_,_,_,_,.slice _ k _ _⟩,.row id q=>match A,σ.rw[id]? with
     |none,some R=>match Nat.beq R.ver q&&decide (R.τ.size=k)with
       |true=>match qcE 0 E lo with
         |some l=>cond (inb l R.l.length) (K (.row id (q+1)) (some {σ with rw:=σ.rw.set id ⟨R.τ,R.l.drop l.toNat,q+1,R.sv,true⟩})) none
         |none=>none
       |false=>none
     |_,_=>none
   |_,_=>none
 |.fieldAddr t x i=>match c.ty t with
   |some ⟨_,_,_,_,.struct w⟩=>match w[i]? with
     |some (off,size,_)=>match size with
       |0=>none
       |_+1=>match evT E x with
         |.ptr b o=>K (.ptr b (o+off)) none
         |.ept cs o=>K (.ept cs (o+off)) none
         |.rpt id q u i cs o=>K (.rpt id q u i cs (o+off)) none
         |_=>none
     |none=>none
   |_=>none
 |.field t x i=>match c.ty t,evT E x with
   |some ⟨_,_,_,_,.struct w⟩,.agg cs=>match w[i]? with
     |some (off,size,g)=>match qhR g size cs off with
       |some y=>K y none
       |none=>none
     |none=>none
   |_,_=>none
 |.indexAddr t x i=>match c.ty t,evT E i with
   |some ⟨_,_,_,_,.slice _ k _ _⟩,.i _ j=>match evT E x with
     |.sl τ l _=>match decide (τ.size=k)with
       |true=>qb (qg l j) λ v=>K (.ept (Qz τ v) 0) none
       |false=>none
     |.row id q=>match σ.rw[id]? with
       |some R=>match Nat.beq R.ver q&&decide (R.τ.size=k)with
         |true=>qb (qg R.l j) λ v=>K (.rpt id q R.sv j (Qz R.τ v) 0) none
         |false=>none
       |none=>none
     |_=>none
   |some ⟨_,_,_,_,.array n _ 1⟩,.i _ j=>match evT E x with
     |.ptr b 0=>cond (ixb j n) (K (.pti b j) none) none
     |_=>none
   |_,_=>none
 |.index t x i=>match c.ty t,evT E x,evT E i with
   |some ⟨_,_,_,_,.string⟩,.s y,.i _ j=>qb (qg y j) λ v=>K (.i .u8 v.toNat) none
   |_,_,_=>none
 |.extract x i=>match evT E x with
   |.tup vs=>match vs[i]? with
     |some y=>K y none
     |none=>none
   |_=>none
 |.makeMap t none=>match qm9 c t with
   |some (r,τ)=>K (.mp σ.bx.length) (some {σ with bx:=σ.bx++[[.mc r τ []]]})
   |none=>none
 |.lookup t m k C=>match qm9 c t with
   |some (r,τ)=>match qpF σ r τ (evT E m),qBB c t τ,J5 σ.rw r (evT E k)with
     |some (_,l),some z,some k=>match C with
       |true=>K (.tup [qg7 τ (qfA (veq r) z l k),.b (qvQ (veq r) l k)]) none
       |false=>K (qg7 τ (qfA (veq r) z l k)) none
     |_,_,_=>none
   |none=>none
 |.mapUpdate t m k v|.insert t m k v=>qnf c E σ t m k v K
 |_=>none
def qyA(k bytes:Nat)(σ:TS)(τ:Ty)(s:TV)(xs:List (Val τ))(K:KT α):Option α:=
 match s with
 |.nil=>qna xs (K .nil none) λ x r=>cond (ye (r.length+1) bytes) (K (.row σ.rw.length 0) (some {σ with rw:=σ.rw++[⟨τ,x::r,0,0,false⟩]})) none
 |.sl b l c=>match decide (1<c)with
   |true=>match qcc l τ with
     |some l=>cond (ye (l.length+xs.length) bytes) (qna xs (K s none) λ x r=>K (.row σ.rw.length 0) (some {σ with rw:=σ.rw++[⟨τ,l++(x::r),0,0,false⟩]})) none
     |none=>none
   |false=>none
 |.row id a=>match σ.rw[id]? with
   |some R=>match Nat.beq R.ver a with
     |true=>match qcc R.l τ with
       |some l=>cond (ye (l.length+xs.length) bytes) (K (.row id (a+1)) (some {σ with rw:=σ.rw.set id ⟨τ,l++xs,a+1,R.sv,R.sh⟩})) none
       |none=>none
     |false=>none
   |none=>none
 |_=>none
def qpg(c:TC)(σ:TS)(b:Builtin)(ts:Array TypeId)(f:List TV)(K:KT α):Option α:=
 match b,f with
 |.len,[x]=>match ts[0]? with
   |some t=>match c.ty t with
     |some d=>match d.k,x with
       |.string,.s y=>K (.i .i64 y.length) none
       |.slice ..,.nil=>K (.i .i64 0) none
       |.slice ..,.sl _ l _=>K (.i .i64 l.length) none
       |.slice ..,.row id g=>match σ.rw[id]? with
         |some R=>match Nat.beq R.ver g with
           |true=>K (.i .i64 R.l.length) none
           |false=>none
         |none=>none
       |.map ..,.mp b=>match qm9 c t with
         |some (j,τ)=>match qpF σ j τ (.mp b)with
           |some (_,l)=>K (.i .i64 l.length) none
           |none=>none
         |none=>none
       |_,_=>none
     |none=>none
   |none=>none
 |.append,[s,x]=>match ts[0]?,ts[1]? with
   |some t,some u=>match c.ty t,c.ty u,c.el t with
     |some ⟨_,_,_,_,.slice _ k bytes z⟩,some ⟨_,_,_,_,.slice _ _ _ _⟩,some τ=>match decide (0<k)&&decide (z.length=k)&&decide (k=τ.size)with
       |true=>match qhI σ.rw τ x with
         |some xs=>qyA k bytes σ τ s xs K
         |none=>none
       |false=>none
     |some ⟨_,_,_,_,.slice e 1 bytes z⟩,some ⟨_,_,_,_,.string⟩,some (.int .u8)=>match decide (z.length=1)&&qle (c.ty e),x with
       |true,.s y=>qyA 1 bytes σ (.int .u8) s (qbt y) K
       |_,_=>none
     |_,_,_=>none
   |_,_=>none
 |.max,[.i k a,.i h b]=>match decide (k=h)with|true=>K (.i k (qiH a b)) none|false=>none
 |.min,[.i k a,.i h b]=>match decide (k=h)with|true=>K (.i k (qDq a b)) none|false=>none
 |_,_=>none
def qeL(rw:List qu)(τ:Ty):TV->Option (List (Val τ)×List Nat)
 |.nil=>some ([],[])
 |.sl a l c=>match qcc l τ,decide (1<c)with
   |some [],true=>some ([],[])
   |_,_=>none
 |.row id b=>match rw[id]? with
   |some R=>match Nat.beq R.ver b && !R.sh with
     |true=>match qcc R.l τ with
       |some l=>some (l,[id])
       |none=>none
     |false=>none
   |none=>none
 |_=>none
def Qk(rw:List qu):(l:List RA)->List TV->Option (CV l×List Nat×Bool)
 |[],[]=>some ((),[],true)
 |[],_::_=>none
 |.val τ::r,cs=>match qh3 (qeY rw τ (cs.take τ.size)),Qk rw r (cs.drop τ.size)with
   |some v,some (vs,a,q)=>some ((v,vs),a,(cs.take τ.size).all qiv&&q)
   |_,_=>none
 |.row τ::r,c::cs=>match qeL rw τ c,Qk rw r cs with
   |some (v,i),some (vs,a,q)=>some ((v,vs),i++a,q)
   |_,_=>none
 |.row _::_,[]=>none
def qgN:List RA->Bool
 |[.val (.map _ _)]=>true
 |_=>false
def bxT(l:List RA)(b:Nat):TV:=match qgN l with
 |true=>.mp b
 |false=>.ptr b 0
def qBk(l:List RA)(x:TV):Option Nat:=match qgN l,x with
 |true,.mp b|false,.ptr b 0=>some b
 |_,_=>none
def qFN(rw:List qu)(c:List (List TV))(l:List RA)(x:TV):Option (CV l×List Nat×Nat):=match qBk l x with
 |some b=>match c[b]? with
   |some cs=>match Qk rw l cs with
     |some (v,a,true)=>some (v,a,b)
     |_=>none
   |none=>none
 |none=>none
def zD(σ:TS):(sas:List SA)->List TV->Option (jt sas×List Nat×List Nat)
 |[],[]=>some ((),[],[])
 |.val τ::r,x::xs=>match qiE x,J5 σ.rw τ x with
   |true,some v=>match zD σ r xs with
     |some (vs,q)=>some ((v,vs),q)
     |none=>none
   |_,_=>none
 |.row τ::r,x::xs=>match qeL σ.rw τ x with
   |some (l,a)=>match zD σ r xs with
     |some (vs,d,c)=>some ((l,vs),d,a++c)
     |none=>none
   |none=>none
 |.box l::r,x::xs=>match qFN σ.rw σ.bx l x with
   |some (v,a,b)=>match zD σ r xs with
     |some (vs,d,c)=>some ((toB l v,vs),b::d,a++c)
     |none=>none
   |none=>none
 |.nil::r,.nil::xs=>zD σ r xs
 |.clo g k::r,.fn e cs::xs=>match Nat.beq g e&&Nat.beq cs.length k with
   |true=>zD σ r (cs++xs)
   |false=>none
 |_,_=>none
def ndN:List Nat->Bool
 |[]=>true
 |b::l=>(l.all λ c => !Nat.beq b c)&&ndN l
def qb9(rw:List qu)(a:List Nat):List qu:=a.foldl (λ l i=>l.modify i λ R=>⟨R.τ,[],R.ver+1,R.sv,false⟩) rw
def qcA:(l:List RA)->Nat->CV l->List TV
 |[],_,_=>[]
 |.val τ::r,L,v=>Qz τ v.1++qcA r L v.2
 |.row _::r,L,v=>.row L 0::qcA r (L+1) v.2
def Qo:(l:List RA)->CV l->List qu
 |[],_=>[]
 |.val _::r,v=>Qo r v.2
 |.row τ::r,v=>⟨τ,v.1,0,0,false⟩::Qo r v.2
def qbM:(sas:List SA)->Nat->yD sas->List (List TV)
 |[],_,_=>[]
 |.box l::r,L,o=>qcA l L (toC l o.1)::qbM r (L+nR l) o.2
 |.nil::r,L,o|.val _::r,L,o|.row _::r,L,o|.clo _ _::r,L,o=>qbM r L o
def QT:(sas:List SA)->yD sas->List qu
 |[],_=>[]
 |.box l::r,o=>Qo l (toC l o.1)++QT r o.2
 |.nil::r,o|.val _::r,o|.row _::r,o|.clo _ _::r,o=>QT r o
def qib(a:List (List TV)):List Nat->List (List TV)->List (List TV)
 |b::c,x::xs=>qib (a.set b x) c xs
 |_,_=>a
def qlK(nb NB:Nat):(a:List RE)->Nat->RV a->List TV
 |[],_,_=>[]
 |.one (.val τ)::r,L,v=>qg7 τ v.1::qlK nb NB r L v.2
 |.one (.row _)::r,L,v=>.row L 0::qlK nb NB r (L+1) v.2
 |.agg l::r,L,v=>.agg (qcA l L v.1)::qlK nb NB r (L+nR l) v.2
def qms:(a:List RE)->RV a->List qu
 |[],_=>[]
 |.one (.val _)::r,v=>qms r v.2
 |.one (.row τ)::r,v=>⟨τ,v.1,0,0,false⟩::qms r v.2
 |.agg l::r,v=>Qo l v.1++qms r v.2
def qlX:(a:List RE)->Nat->RV a->List (List TV)
 |[],_,_=>[]
 |.one (.val _)::r,L,v=>qlX r L v.2
 |.one (.row _)::r,L,v=>qlX r (L+1) v.2
 |.agg l::r,L,v=>qlX r (L+nR l) v.2
def nRA:RA->Nat
 |.val _=>0
 |.row _=>1
def qgD(rws:List qu):(f:List RE)->Nat->Nat->RV f->((c:List RE)->RV c->Option α)->Option α
 |[],_,_,_,k=>k [] ()
 |.one a::r,nb,d,v,k=>qgD rws r nb (d+nRA a) v.2 λ e b=>k (.one a::e) (v.1,b)
 |.agg l::r,nb,d,v,k=>qgD rws r nb (d+nR l) v.2 λ e b=>k (.agg l::e) (v.1,b)
def qvz(σ:TS)(g:qmI)(b:List TV)(K:KT α):Option α:=match b with
 |x::xs=>match qeL σ.rw g.τ x,zD σ g.args xs with
   |some (l,c),some (a,[],[])=>match qgG g.args with
     |true=>match c with
       |[id]=>qb (g.fn (l,a)) λ v=>cond (Nat.beq v.length l.length) (K (.tup []) (some ⟨σ.bx,σ.rw.modify id λ R=>⟨g.τ,v,R.ver,R.sv+1,false⟩⟩)) none
       |[]=>qb (g.fn (l,a)) λ v=>cond (Nat.beq v.length l.length) (K (.tup []) none) none
       |_=>none
     |false=>none
   |_,_=>none
 |[]=>none
def quJ(σ:TS)(g:qn3)(b:List TV)(K:KT α):Option α:=match zD σ g.args b with
 |some (a,d,c)=>match ndN d&&(ndN c&&qgG g.args)with
   |true=>qb (g.fn a) λ v=>K (.i .i64 v) none
   |false=>none
 |none=>none
def qrh(c:TC)(σ:TS)(f:Nat)(b:List TV)(K:KT α):Option α:=match c.mf f with
 |some g=>qvz σ g b K
 |none=>match c.xf f with
   |some g=>quJ σ g b K
   |none=>match c.sf f with
     |some g=>match zD σ g.args b with
       |some (a,i,h)=>match ndN i&&(ndN h&&qgG g.args)with
         |true=>qb (g.fn a) λ v=>qgD (QT g.args v.1) g.res (nBx g.args) (nrB g.args) v.2 λ d e=>K (qlN (qlK σ.bx.length (nBx g.args) d (σ.rw.length+nrB g.args) e)) (some ⟨qib σ.bx i (qbM g.args σ.rw.length v.1)++qlX d (σ.rw.length+nrB g.args) e,qb9 σ.rw h++(QT g.args v.1++qms d e)⟩)
         |false=>none
       |none=>none
     |none=>none
def qyK(c:TC)(σ:TS)(f:Nat)(a:List TV)(K:KT α):Option α:=
 match c.has f,c.pf f (qjT a)with
 |true,some g=>match qq0 σ.rw g.args a with
   |some sas=>qb (g.fn sas) λ v=>K (qlN (unL g.res v)) (match a.all qiE||g.res.all qqG with|true=>none|false=>some (shA σ))
   |none=>none
 |true,none=>none
 |false,_=>qrh c σ f a K
def opT(c:TC)(E:Env)(σ:TS)(op:Op)(K:KT α):Option α:=
 match op with
 |.call ⟨.builtin b,a,ts⟩=>qpg c σ b ts (a.toList.map (evT E)) K
 |.call ⟨.value g,a,_⟩=>match evT E g with
   |.fn f cs=>match c.inl f with
     |some _=>none
     |none=>match cs with
       |[]=>qyK c σ f (a.toList.map (evT E)) K
       |x::cs=>match c.has f with
         |true=>none
         |false=>qrh c σ f (a.toList.map (evT E)++(x::cs)) K
   |_=>none
 |.call _=>none
 |op=>yM c E σ op K
def qwu(c:TC)(E:Env)(d:Option Tmp)(x:TV)(K:Env->Option α):Option α:=match d with
 |none=>K E
 |some d=>match Nat.blt d c.nt with
   |true=>K ((d,x)::E)
   |false=>none
def qyW(ops:Array Oper)(E:Env)(o:Oper)(K:Bool->Env->Option α):Option α:=
 match o.guard with
 |none=>K true E
 |some (j,a)=>match(ops[j]?).bind (·.dst)with
   |none=>none
   |some d=>match get E d with
     |.b x=>match a with
       |true=>cond x (K true ((d,.b true)::E)) (K false ((d,.b false)::E))
       |false=>cond x (K false ((d,.b true)::E)) (K true ((d,.b false)::E))
     |.tup []=>K false E
     |_=>none
end
def qjV(E:Env)(ops:Array Oper)(k:Nat)(t:Tmp):Option Nat:=match quk ops k t with
 |some u=>match get E u with
   |.ptr b _=>some b
   |_=>none
 |none=>none
def qBI(E:Env)(ops:Array Oper)(k:Nat)(t:Tmp):Bool:=match quk ops k t with
 |some u=>match get E u with
   |.rpt .. => true
   |_=>false
 |none=>false
mutual
def rbT:TV->Option (List Nat)
 |.ptr b _|.mp b|.pti b _=>some [b]
 |.fn _ cs|.agg cs|.tup cs=>qmh cs
 |.dead=>none
 |_=>some []
def qmh:List TV->Option (List Nat)
 |[]=>some []
 |x::l=>match rbT x,qmh l with
   |some a,some b=>some (a++b)
   |_,_=>none
end
def qBZ(σ:TS)(b:Nat):Bool:=match σ.bx[b]? with
 |some cs=>match qmh cs with
   |some []=>true
   |_=>false
 |none=>false
def qzJ(c:TC)(E:Env)(σ:TS):Op->Option (List Nat)
 |.call ⟨.value g,as,_⟩=>match evT E g with
   |.fn f cs=>match(c.inl f).isSome,qmh (as.toList.map (evT E)++cs)with
     |false,some l=>match l.all (qBZ σ)with
       |true=>some l
       |false=>none
     |_,_=>none
   |_=>none
 |_=>none
def qpS(c:TC)(ops:Array Oper)(j:Nat)(E:Env)(σ:TS)(op:Op):Bool := !qr8 op||ops.toList.zipIdx.all λ(q,i)=>match q.op with
 |.load _ (.tmp a)=>((jF ops.toList []).getD (max i j) 0).testBit (min i j)||match qjV E ops i a,qzJ c E σ op with
   |some y,some l=>Nat.blt y σ.bx.length&&l.all λ c => !Nat.beq c y
   |_,_=>false
 |_=>true
section
variable {α:Type}
def qea(d:Env->TS->Op->KT α->Option α)(c:TC)(ops:Array Oper)(b:Bool):List Oper->Env->TS->(Env->TS->Option α)->Option α
 |[],E,σ,K=>K E σ
 |o::a,E,σ,K=>qyW ops E o λ w E=>match w with
   |true=>d E σ o.op λ x σ'=>match σ' with
     |none=>qwu c E o.dst x λ E=>qea d c ops b a E σ K
     |some σ'=>match b && !(qM c.loT o.op&&qpS c ops (ops.size-(a.length+1)) E σ o.op)with
       |true=>none
       |false=>qwu c E o.dst x λ E=>qea d c ops b a E σ' K
   |false=>qwu c E o.dst (.tup []) λ E=>qea d c ops b a E σ K
structure Mv where
 E:Env
 bx:List (List TV)
 rw:List qu
 mb:List (Nat×Nat)
 mr:List (Nat×Nat)
def yH(l:List (Nat×Nat))(b:Nat):Option Nat:=match l with
 |[]=>none
 |p::r=>match Nat.beq p.1 b with
   |true=>some p.2
   |false=>yH r b
def qvg:TV->Bool
 |.i .. |.b _|.s _|.c _|.nil|.sl .. => true
 |.fn _ cs=>cs.isEmpty
 |.agg cs=>cs.all λ|.i .. |.b _|.s _|.c _|.nil|.sl .. => true|_=>false
 |_=>false
mutual
def mvT(σ:TS)(k:Co)(x:TV)(m:Mv)(K:TV->Mv->Option α):Option α:=
 match k with
 |.keep=>match qvg x with
   |true=>K x m
   |false=>K .dead m
 |.list τ=>match x with
   |.nil=>K (.sl τ [] 1) m
   |.sl a l _=>match qcc l τ with
     |some l=>K (.sl τ l 1) m
     |none=>none
   |_=>K .dead m
 |.plist τ=>match x with
   |.nil=>K (.sl τ [] 1) m
   |.sl a l _=>match qcc l τ with
     |some l=>K (.sl τ l 1) m
     |none=>none
   |_=>K .dead m
 |.row τ d=>match x with
   |.nil=>K (.row m.rw.length 0) {m with rw:=m.rw++[⟨τ,[],0,0,d⟩]}
   |.sl a l j=>match qcc l τ,decide (1<j)with
     |some l,true=>match d with
       |true=>K (.row m.rw.length 0) {m with rw:=m.rw++[⟨τ,l,0,0,true⟩]}
       |false=>match l with
         |[]=>K (.row m.rw.length 0) {m with rw:=m.rw++[⟨τ,[],0,0,false⟩]}
         |_=>none
     |_,_=>none
   |.row id e=>match σ.rw[id]? with
     |some R=>match Nat.beq R.ver e&&(d || !R.sh)with
       |true=>match qcc R.l τ with
         |some l=>match yH m.mr id with
           |some g=>K (.row g 0) m
           |none=>K (.row m.rw.length 0) {m with rw:=m.rw++[⟨τ,l,0,0,d⟩],mr:=(id,m.rw.length)::m.mr}
         |none=>none
       |false=>none
     |none=>none
   |_=>none
 |.fn cs=>match x with
   |.fn f xs=>mvL σ cs xs m λ ys m=>K (.fn f ys) m
   |_=>none
 |.box cs=>match x with
   |.ptr b 0=>match yH m.mb b with
     |some h=>K (.ptr h 0) m
     |none=>match σ.bx[b]? with
       |some xs=>mvL σ cs xs m λ ys m=>match yH m.mb b with
         |none=>K (.ptr m.bx.length 0) {m with bx:=m.bx++[ys],mb:=(b,m.bx.length)::m.mb}
         |some _=>none
       |none=>none
   |.c v=>K (.c v) m
   |.mp b=>match yH m.mb b with
     |some h=>K (.mp h) m
     |none=>match σ.bx[b]? with
       |some [.mc i τ l]=>K (.mp m.bx.length) {m with bx:=m.bx++[[.mc i τ l]],mb:=(b,m.bx.length)::m.mb}
       |_=>none
   |_=>none
def mvL(σ:TS)(cs:List Co)(xs:List TV)(m:Mv)(K:List TV->Mv->Option α):Option α:=
 match cs,xs with
 |[],[]=>K [] m
 |co::cs,x::xs=>mvT σ co x m λ y m=>mvL σ cs xs m λ ys m=>K (y::ys) m
 |_,_=>none
end
def qwb(a:List (Nat×Nat)):Nat->Bool
 |0=>true
 |n+1=>(match yH a n with|some j=>Nat.beq n j|none=>false)&&qwb a n
def mvE(a:Nat)(σ:TS)(E:Env):List (Tmp×Co)->Mv->(Env->TS->Option α)->Option α
 |[],m,K=>match qwb m.mb a with
   |true=>K m.E ⟨m.bx,m.rw⟩
   |false=>none
 |(t,b)::r,m,K=>mvT σ b (get E t) m λ y m=>mvE a σ E r {m with E:=m.E++[(t,y)]} K
def qyq(E:Env)(σ:TS)(t:Tmp)(τ:Ty)(K:Env->TS->Option α):Option α:=match get E t with
 |.i .. => K E σ
 |.b _|.s _|.c _|.nil=>K E σ
 |.sl .. => K E σ
 |.row id a=>match σ.rw[id]? with
   |some R=>match Nat.beq R.ver a with
     |true=>match qcc R.l τ with
       |some l=>K ((t,.sl τ l 1)::E) (shA σ)
       |none=>none
     |false=>none
   |none=>none
 |.dead=>K E (shA σ)
 |_=>none
def qo5:List (Tmp×Co)->Env->TS->(Env->TS->Option α)->Option α
 |[],E,σ,K=>K E σ
 |(t,a)::r,E,σ,K=>match a with
   |.plist τ=>qyq E σ t τ λ E σ=>qo5 r E σ K
   |_=>qo5 r E σ K
def qmY(E:Env)(ops:Array Oper)(j:Nat)(o:Oper)(i:Nat)(q:Oper):Bool:=match o.op,q.op with
 |.store _ (.tmp a) _,.load _ (.tmp b)=>match qjV E ops j a,qjV E ops i b with
   |some x,some y => !Nat.beq x y
   |some _,none=>qBI E ops i b
   |_,_=>false
 |.call ⟨.builtin .append,_,_⟩,.load _ (.tmp b)|.call ⟨.value _,_,_⟩,.load _ (.tmp b)=>(qjV E ops i b).isSome
 |_,_=>false
def qDu(a:Nat->Bool)(E:Env)(ops:Array Oper)(j:Nat)(o:Oper)(i:Nat)(q:Oper):Bool:=
 (match q.dst with|some d=>(Jp ops o).contains d|none=>false)||(qkn a o q && !(qmY E ops j o i q||qmY E ops i q j o))
def qm6(c:Nat->Bool)(E:Env)(ops:Array Oper)(a:Bool):Bool:=match a with
 |true=>
   let b:=jF ops.toList []
   ops.toList.zipIdx.all λ(o,j)=>((yt o).all λ e=>decide (e<j))&&ops.toList.zipIdx.all λ(q,i)=>
    decide (i=j) || !qDu c E ops j o i q||(b.getD (max i j) 0).testBit (min i j)
 |false=>true
def qbV:Nat->List TV->Env
 |_,[]=>[]
 |n,x::l=>(n,x)::qbV (n+1) l
def qkl(c:TC)(E:Env)(σ:TS):ResultVar->Option TV
 |.tmp t=>some (get E t)
 |.cell a t=>match c.ty t,get E a with
   |some d,.ptr b o=>match σ.bx[b]? with
     |some cs=>match qql cs with
       |true=>qhR d.agg d.size cs o
       |false=>none
     |none=>none
   |_,_=>none
def qo3:Code->Nat
 |.seq a b=>max (qo3 a) (qo3 b)+1
 |_=>1
section
variable {α:Type}
def qia(c:TC):Code->Env->TS->(Env->TS->Option α)->Option α
 |.skip,E,σ,K=>K E σ
 |.seq a b,E,σ,K=>qia c a E σ λ E σ=>qia c b E σ K
 |.region _ ops d,E,σ,K=>match qfl ops d,qkh ops d with
   |false,none=>match qm6 c.loT E ops d with
     |true=>qea (opT c) c ops d ops.toList E σ K
     |false=>none
   |_,_=>none
 |_,_,_,_=>none
def quP(c:TC)(E:Env)(σ:TS):List ResultVar->Option (List TV)
 |[]=>some []
 |r::l=>match qkl c E σ r with
   |some x=>match quP c E σ l with
     |some xs=>some (x::xs)
     |none=>none
   |none=>none
def qDi(c:TC)(fn:Func)(σ:TS)(xs:List TV)(K:KT α):Option α:=match fn.body with
 |some cd=>match Nat.ble xs.length fn.ntmps&&Nat.ble (qo3 cd) 12 with
   |true=>qia {c with nt:=fn.ntmps} cd (qbV 0 xs) σ λ E σ=>match quP {c with nt:=fn.ntmps} E σ fn.results.toList with
     |some ys=>K (qlN ys) (some σ)
     |none=>none
   |false=>none
 |none=>none
def opI(c:TC)(E:Env)(σ:TS)(op:Op)(K:KT α):Option α:=
 match op with
 |.call ⟨.value g,a,ts⟩=>match evT E g with
   |.fn f cs=>match c.inl f with
     |some fn=>qDi c fn σ (a.toList.map (evT E)++cs) K
     |none=>opT c E σ (.call ⟨.value g,a,ts⟩) K
   |_=>none
 |op=>opT c E σ op K
end
def slT:TV->Bool
 |.sl ..|.row .. => true
 |_=>false
def qzA(E:Env)(ops:Array Oper):Bool:=match qeb ops with
 |p::_=>match p.op with
   |.indexAddr _ u _=>slT (evT E u)
   |_=>false
 |[]=>false
def qCM:TV->Bool
 |.ptr _ _=>true
 |_=>false
def qby:Code->Nat
 |.region id _ _=>id
 |.seq a _=>qby a
 |.block _ b|.loop b=>qby b
 |.cond _ a _=>qby a
 |_=>0
def qc7:List (Tmp×Co)->List Nat
 |[]=>[]
 |(t,a)::r=>match a with
   |.plist _=>t::qc7 r
   |_=>qc7 r
def TC.pur(c:TC)(b:Code):List Nat:=match c.loop (qby b)with
 |some l=>qc7 l
 |none=>[]
def qym(E:Env)(x:Operand)(b:Bool):Env:=match x with
 |.tmp t=>(t,.b b)::E
 |_=>E
def Qj(c:TC)(f:Env->TS->Option α)(L:List It->Env->TS->Option α):Nat->List It->Ex->Env->TS->Option α
 |0,_,_,_,_=>none
 |_+1,[],e,E,σ=>match e with
   |.exit _=>none
   |_=>f E σ
 |N+1,.code cd::k,e,E,σ=>match e with
   |.normal=>match cd with
     |.skip|.label _=>Qj c f L N k .normal E σ
     |.region _ ops d=>match qfl ops d with
       |true=>match qe4 c.loT ops.toList&&(qam c.loT ops&&qm6 c.loT E ⟨qs c.loT ops.toList⟩ true)with
         |true=>qea (opI c) c ⟨qs c.loT ops.toList⟩ true (qs c.loT ops.toList) E σ λ E σ=>qea (opI c) c ops false (alL c.loT ops.toList) E σ λ E σ=>qea (opI c) c ops true (qmp c.loT ops.toList) E σ λ E σ=>Qj c f L N k .normal E σ
         |false=>none
       |false=>match qkh ops d with
         |some p=>match qm6 c.loT E (J9 ops) true with
           |true=>qea (opI c) c (J9 ops) true (J9 ops).toList E σ λ E σ=>match qCM (get E p)&&qzA E ops with
             |true=>qea (opI c) c ops true (qeb ops) E σ λ E σ=>Qj c f L N k .normal E σ
             |false=>none
           |false=>none
         |none=>match qm6 c.loT E ops d with
           |true=>qea (opI c) c ops d ops.toList E σ λ E σ=>Qj c f L N k .normal E σ
           |false=>none
     |.seq a b=>Qj c f L N (.code a::.code b::k) .normal E σ
     |.cond x a b=>match evT E x with
       |.b y=>cond y (Qj c f L N (.code a::k) .normal (qym E x true) σ) (Qj c f L N (.code b::k) .normal (qym E x false) σ)
       |_=>none
     |.block id b=>Qj c f L N (.code b::.blk id::k) .normal E σ
     |.loop b=>match c.loop (qby b)with
       |some l=>qo5 l E σ λ E σ=>mvE c.np σ E l ⟨[],[],[],[],[]⟩ λ E σ=>L (.code (.loop b)::k) E σ
       |none=>none
     |.exit id=>Qj c f L N k (.exit id) E σ
     |.ret=>Qj c f L N k .ret E σ
     |_=>none
   |e=>Qj c f L N k e E σ
 |N+1,.blk id::k,e,E,σ=>match e with
   |.exit i=>match Nat.beq i id with
     |true=>match c.join id with
       |some l=>mvE c.np σ E l ⟨[],[],[],[],[]⟩ λ E σ=>L k E σ
       |none=>Qj c f L N k .normal E σ
     |false=>Qj c f L N k (.exit i) E σ
   |.normal=>match c.join id with
     |some l=>mvE c.np σ E l ⟨[],[],[],[],[]⟩ λ E σ=>L k E σ
     |none=>Qj c f L N k .normal E σ
   |.ret=>Qj c f L N k .ret E σ
 |_+1,.ops .. :: _,_,_,_=>none
def quN(c:TC)(a:Env->TS->Option α)(L:List It->Env->TS->Option α)(N:Nat)(d:List It)(E:Env)(σ:TS):Option α:=
 match d with
 |.code (.loop b)::k=>match c.loop (qby b)with
   |some l=>qo5 l E σ λ E σ=>Qj c a L N (.code b::.code (.loop b)::k) .normal E σ
   |none=>Qj c a L N (.code b::.code (.loop b)::k) .normal E σ
 |d=>Qj c a L N d .normal E σ
def qkg(c:TC)(a:Env->TS->Option α)(N:Nat):Nat->List It->Env->TS->Option α
 |0=>λ _ _ _=>none
 |n+1=>quN c a (qkg c a N n) N
end
def qfz(c:TC):(ts:List Ty)->List ResultVar->Env->TS->Option (qbD ts)
 |[],[],_,_=>some ()
 |[a],[r],E,σ=>match qkl c E σ r with
   |some x=>J5 σ.rw a x
   |none=>none
 |a::b::ts,r::d,E,σ=>match qkl c E σ r with
   |some x=>match J5 σ.rw a x with
     |some v=>match qfz c (b::ts) d E σ with
       |some vs=>some (v,vs)
       |none=>none
     |none=>none
   |none=>none
 |_,_,_,_=>none
def qgB:(sas:List SA)->Nat->Nat->jt sas->List TV
 |[],_,_,_=>[]
 |.val τ::r,nb,b,a=>qg7 τ a.1::qgB r nb b a.2
 |.row _::r,nb,b,a=>.row b 0::qgB r nb (b+1) a.2
 |.box l::r,nb,b,a=>bxT l nb::qgB r (nb+1) (b+nR l) a.2
 |.nil::r,nb,b,a=>.nil::qgB r nb b a
 |.clo g k::r,nb,b,a=>.fn g ((qgB r nb b a).take k)::(qgB r nb b a).drop k
def sBx:(sas:List SA)->Nat->jt sas->List (List TV)
 |[],_,_=>[]
 |.nil::r,b,a|.clo _ _::r,b,a=>sBx r b a
 |.val _::r,b,a=>sBx r b a.2
 |.row _::r,b,a=>sBx r (b+1) a.2
 |.box l::r,b,a=>qcA l b (toC l a.1)::sBx r (b+nR l) a.2
def sRw:(sas:List SA)->jt sas->List qu
 |[],_=>[]
 |.nil::r,a|.clo _ _::r,a=>sRw r a
 |.val _::r,a=>sRw r a.2
 |.row τ::r,a=>⟨τ,a.1,0,0,false⟩::sRw r a.2
 |.box l::r,a=>Qo l (toC l a.1)++sRw r a.2
def qc3(σ:TS):(sas:List SA)->Nat->Option (yD sas×List Nat×Bool)
 |[],_=>some ((),[],true)
 |.nil::r,n|.clo _ _::r,n|.val _::r,n|.row _::r,n=>qc3 σ r n
 |.box l::r,n=>match σ.bx[n]? with
   |some cs=>match Qk σ.rw l cs,qc3 σ r (n+1)with
     |some (v,i,q),some (o,a,b)=>some ((toB l v,o),i++a,q&&b)
     |_,_=>none
   |none=>none
def qeu(c:TC)(E:Env)(σ:TS)(f:List Nat):(d:List RE)->List ResultVar->Option (RV d×List Nat×List Nat×Bool)
 |[],[]=>some ((),[],[],true)
 |.one (.val a)::d,r::l=>match qkl c E σ r with
   |some x=>match J5 σ.rw a x,qeu c E σ f d l with
     |some v,some (vs,b,e,q)=>some ((v,vs),b,e,qiE x&&q)
     |_,_=>none
   |none=>none
 |.one (.row a)::d,r::l=>match qkl c E σ r with
   |some x=>match qeL σ.rw a x,qeu c E σ f d l with
     |some (v,i),some (vs,b,e,q)=>some ((v,vs),i++b,e,q)
     |_,_=>none
   |none=>none
 |.agg p::d,r::l=>match qkl c E σ r with
   |some (.agg cs)=>match Qk σ.rw p cs,qeu c E σ f d l with
     |some (v,i,g),some (vs,b,e,q)=>some ((v,vs),i++b,e,g&&q)
     |_,_=>none
   |_=>none
 |_,_=>none
def qEU(rw:List qu):TV->Option (List Nat)
 |.row id a=>match rw[id]? with
   |some R=>match Nat.beq R.ver a with
     |true=>some [id]
     |false=>none
   |none=>none
 |x=>match qiv x with
   |true=>some []
   |false=>none
def qyv(rw:List qu):List TV->Option (List Nat)
 |[]=>some []
 |x::l=>match qEU rw x,qyv rw l with
   |some a,some b=>some (a++b)
   |_,_=>none
def qvb (rw:List qu):List RA->List TV->Option (List Nat)
 | [],_=>some []
 | .val τ :: r,cs=>match qyv rw (cs.take τ.size),qvb rw r (cs.drop τ.size) with
   | some a,some b=>some (a++b)
   | _,_=>none
 | .row _::r,cs=>qvb rw r (cs.drop 1)
def qlQ(σ:TS):List SA->Nat->Option (List Nat)
 |[],_=>some []
 |.box l::r,n=>match σ.bx[n]? with
   |some cs=>match qvb σ.rw l cs,qlQ σ r (n+1)with
     |some a,some b=>some (a++b)
     |_,_=>none
   |none=>none
 |.nil::r,n|.clo _ _::r,n|.val _::r,n|.row _::r,n=>qlQ σ r n
def qF7(vs:Option (List Nat))(l:List Nat):Bool:=match vs with
 |some vs=>vs.all λ a=>l.all λ b => !Nat.beq a b
 |none=>false
def qzs(n:Nat)(l:List Nat):List Nat:=match Nat.beq l.length n with
 |true=>l
 |false=>[]
def qrB(c:TC)(sas:List SA)(d:List RE)(l:List ResultVar)(E:Env)(σ:TS):Option (yD sas×RV d):=match qc3 σ sas 0 with
 |some (o,i,q)=>match qeu c E σ (qzs (nrB sas) i) d l with
   |some (v,a,e,f)=>match ndN (i++a)&&(((i++a).isEmpty||(f&&(q||qF7 (qlQ σ sas 0) (i++a))))&&(ndN e&&e.all λ b=>Nat.ble (nBx sas) b))with
     |true=>some (o,v)
     |false=>none
   |none=>none
 |none=>none
end Go.AmZ
namespace Go.AmZ
open Go Go.RowKit Go.GxZ
mutual
def qDo:T->List AV
 |.mk k n s l=>[.v (.int .i64 k),.v (.string ⟨n.toArray⟩),.v (.int .i64 s),.sl 4 (quu l) 0]
def quu:List T->List (List AV)
 |[]=>[]
 |t::l=>qDo t::quu l
end
mutual
def qEY:AV->Option (List T)
 |.v (.slice none 0 0)=>some []
 |.sl 4 es _=>qwm es
 |_=>none
def qwm:List (List AV)->Option (List T)
 |[]=>some []
 |e::es=>match qB5 e with
   |some t=>match qwm es with
     |some l=>some (t::l)
     |none=>none
   |none=>none
def qB5:List AV->Option T
 |[.v (.int .i64 k),.v (.string n),.v (.int .i64 s),x]=>match qEY x with
   |some l=>some (.mk k n.data.toList s l)
   |none=>none
 |_=>none
end
mutual
theorem qCs:∀t:T,qB5 (qDo t)=some t
 |.mk k n s l=>by
   rw[qDo,qB5,qEY,qux l]
theorem qux:∀l:List T,qwm (quu l)=some l
 |[]=>by rw[quu,qwm]
 |t::l=>by rw[quu,qwm,qCs t,qux l]
end
theorem jx.len:∀{xs ys:List AV},jx xs ys->xs.length=ys.length
 |_,_,.nil=>rfl
 |_,_,.cons _ t=>by simp[t.len]
theorem jx.get:∀{xs ys:List AV},jx xs ys->∀(i:Nat) (y:AV),ys[i]?=some y->∃x,xs[i]?=some x/\Sub x y
 |_,_,.nil,i,y,h=>by simp at h
 |_,_,.cons a t,0,y,h=>by simp at h;subst h;exact⟨_,rfl,a⟩
 |_,_,.cons a t,i+1,y,h=>by simpa using t.get i y (by simpa using h)
theorem quB{xs ys:List AV}(h:jx xs ys):Sub (.agg xs) (.agg ys):=by
 intro Γ u a;cases a with
 |agg cs us c d b=>
   have:=h.rep (RepL.mk c b);exact .agg _ _ this.len d this.rep
end Go.AmZ
namespace Go.AmZ
open Go Go.RowKit
def jG(R:Row):Row:=⟨R.k,[],0,1,false⟩
theorem qjL{Γ Γ':Gh}{x:AV}{u:Value}(a:∀b o u,Γ.mem b o=some u->Γ'.mem b o=some u)(h:Rep Γ x u)(d:rb x=[])(c:rr x=[]):Rep Γ' x u:=by
 have:=qm8 (Γ':=Γ') (fb:=λ b=>b) (fr:=λ r=>r) a h (by rw[d];intro b hb;cases hb) (by rw[c];intro b hb;cases hb)
 rwa [qvr]at this
theorem qxP:∀{cs:List AV},rbL cs=[]->∀x∈cs,rb x=[]
 |[],_,x,a=>by cases a
 |y::cs,h,x,a=>by
   simp only[rbL,kg]at h;obtain rfl|a:=wM.1 a
   .exact h.1
   .exact qxP h.2 x a
theorem qxm:∀{cs:List AV},rrL cs=[]->∀x∈cs,rr x=[]
 |[],_,x,a=>by cases a
 |y::cs,h,x,a=>by
   simp only[rrL,kg]at h;obtain rfl|a:=wM.1 a
   .exact h.1
   .exact qxm h.2 x a
theorem qAe{Γ Γ':Gh}{cs:List AV}{us:List Value}(d:∀b o u,Γ.mem b o=some u->Γ'.mem b o=some u)(h:RepL Γ cs us)(f:rbL cs=[])(e:rrL cs=[]):RepL Γ' cs us:=
 ⟨h.len,λ i x u a c=>qjL d (h.rep i x u a c) (qxP f x (wc a)) (qxm e x (wc a))⟩
theorem qp4{x:AV}(h:qk x=true):rb x=[]/\rr x=[]:=(qdp (fb:=λ b=>b) (fr:=λ r=>r) h).2
def qE4(ds cs:List AV):Prop:=∃c d a ks vs vs',ds=[.mc c d a ks vs]/\cs=[.mc c d a ks vs']/\vs'.length=vs.length/\∀(j:Nat) (v b:List AV),vs[j]?=some v->vs'[j]?=some b->Sub (jp a v) (jp a b)/\b.all qk=true
theorem qaJ.sub{Γ:Gh}{w:World}{b:Nat}{m:List KC}{n f:Bool}{ks vs vs':List (List AV)}(h:qaJ Γ w b m n f ks vs)(s:vs'.length=vs.length)(r:∀(j:Nat) (v g:List AV),vs[j]?=some v->vs'[j]?=some g->Sub (jp f v) (jp f g)/\g.all qk=true):qaJ Γ w b m n f ks vs':=by
 let⟨y,es,d,x,u,t⟩:=h;refine⟨s.trans y,es,d,x,u,λ j k v e a b c=>?_⟩;have B:=(List.getElem?_eq_some_iff.1 b).1;have o:=List.getElem?_eq_getElem (l:=vs) (i:=j) (by omega);let⟨A,z,g3,C⟩:=t j k _ e a o c;let⟨q,p⟩:=r j _ _ o b;exact⟨A,q _ _ z,g3,p⟩
structure qzc (σ1:St) (fs:List Nat) (so:Option Nat) (R:Row):Prop where
 fz:R.fz=0
 ver:R.ver=0
 pos:0<R.k
 len:∀e∈R.c,e.length=R.k
 plain:∀e∈R.c,∀x∈e,qk x=true
 src:match so with
  |none=>R.c=[]
  |some j=>∃Q,σ1.rw[j]?=some Q/\Q.k=R.k/\Q.fz=0/\Q.c.length=R.c.length/\(∀(i:Nat) (e e':List AV),Q.c[i]?=some e->R.c[i]?=some e'->jx e e')/\j ∉ fs/\Q.off=false
def qgw(nb:Nat)(kb:List Nat)(i:Nat):Nat:=if i<nb then i else kb.getD (i-nb) 0
def yF(a:Gh)(m:Nat->Nat->Option Value)(nb:Nat)(kb:List Nat)(L:Nat)(qe:List (Option Nat×Row)):Gh:=
 {mem:=m,nb:=nb+kb.length,β:=λ i=>a.β (qgw nb kb i),nr:=L+qe.length,ver:=λ r=>if r<L then a.ver r+1 else 0,
   k:=λ r=>if r<L then a.k r else match qe[r-L]? with|some p=>p.2.k|none=>1,
   cur:=λ r=>if r<L then a.cur r else match qe[r-L]? with|some (some j,_)=>a.cur j|_=>0,
   sz:=λ r=>if r<L then 0 else match qe[r-L]? with|some (some j,_)=>a.sz j|_=>0,of:=λ _=>0}
theorem qmC{y d:Gh}{σ0 σ1:St}{w0 K:World}(E:Inv y σ0 w0)(t:Ext y w0 d K)(J:Inv d σ1 K)(ah:σ0.bx.length<=σ1.bx.length)
  (z:List (List AV)) (kb:List Nat) (ad:z.length=σ0.bx.length+kb.length) (P:∀b∈kb,σ0.bx.length<=b/\b<σ1.bx.length) (ag:kb.Nodup) (M:List Nat) (qe:List (Option Nat×Row)) (ae:∀(i:Nat) (cs:List AV),z[i]?=some cs->∃ds,σ1.bx[qgw σ0.bx.length kb i]?=some ds/\(noMc ds=false->qE4 ds cs)/\∀m,Fz d m->(∀r∈M,∀R,σ1.rw[r]?=some R->jo {d with mem:=m} r R)->∀us,RepL d ds us->RepL (yF d m σ0.bx.length kb σ0.rw.length qe) cs us)
  (hn:∀(a:Nat) (so:Option Nat) (R:Row),qe[a]?=some (so,R)->qzc σ1 M so R) (hd:∀(a b j:Nat) (R R':Row),qe[a]?=some (some j,R)->qe[b]?=some (some j,R')->a=b) (wl aa:List Nat):
  ∃m,Fz d m/\(∀r∈M,∀R,σ1.rw[r]?=some R->jo {d with mem:=m} r R)/\Ext y w0 (yF d m σ0.bx.length kb σ0.rw.length qe) K/\Inv (yF d m σ0.bx.length kb σ0.rw.length qe) ⟨z,σ0.rw.map jG++qe.map (·.2),wl,aa⟩ K:=by
 let⟨m,m1,m2,m3⟩:=QW M J σ1.wrr;have af:σ0.bx.length<=d.nb:=by rw[J.nb];exact ah
 have V:∀b o u,d.mem b o=some u->m b o=some u:=m1.le.mem
 have C:∀{i:Nat},i<σ0.bx.length+kb.length->qgw σ0.bx.length kb i<d.nb:=λ{i} f=>by
  unfold qgw;split
  .exact wv ‹_› af
  .rw[List.getD_eq_getElem?_getD,List.getElem?_eq_getElem (show i-σ0.bx.length<kb.length by omega),J.nb];exact(P _ (wQ _)).2
 have ai:∀{i j:Nat},i<σ0.bx.length+kb.length->j<σ0.bx.length+kb.length->qgw σ0.bx.length kb i=qgw σ0.bx.length kb j->i=j:=λ{i j} f S g=>by
  unfold qgw at g;split at g<;>split at g
  .exact g
  .rw[List.getD_eq_getElem?_getD,List.getElem?_eq_getElem (show j-σ0.bx.length<kb.length by omega)]at g;have g:i=kb[j-σ0.bx.length]:=g;have:=(P _ (wQ (show j-σ0.bx.length<kb.length by omega))).1;omega
  .rw[List.getD_eq_getElem?_getD,List.getElem?_eq_getElem (show i-σ0.bx.length<kb.length by omega)]at g;have g:kb[i-σ0.bx.length]=j:=g;have:=(P _ (wQ (show i-σ0.bx.length<kb.length by omega))).1;omega
  .rw[List.getD_eq_getElem?_getD,List.getD_eq_getElem?_getD,List.getElem?_eq_getElem (show i-σ0.bx.length<kb.length by omega),List.getElem?_eq_getElem (show j-σ0.bx.length<kb.length by omega)]at g;have g:kb[i-σ0.bx.length]=kb[j-σ0.bx.length]:=g;have:=(List.getElem_inj (h₀:=by omega) (h₁:=by omega) ag).1 g;omega
 have B:∀{r:Nat},¬ r<σ0.rw.length->(yF d m σ0.bx.length kb σ0.rw.length qe).sz r≠0->∃j R Q,qe[r-σ0.rw.length]?=some (some j,R)/\σ1.rw[j]?=some Q/\qcT {d with mem:=m} K j Q/\(yF d m σ0.bx.length kb σ0.rw.length qe).cur r=d.cur j/\(yF d m σ0.bx.length kb σ0.rw.length qe).sz r=d.sz j:=by
  intro r s q;have N:(if r<σ0.rw.length then 0 else match qe[r-σ0.rw.length]? with|some (some j,_)=>d.sz j|_=>0)≠0:=q;rw[if_neg s]at N;split at N
  .rename_i j R G;let⟨Q,Z,_,_,_,_,q6,_⟩:=(hn _ _ _ G).src;refine⟨j,R,Q,G,Z,m2.row j Q (by show(frz σ1.rw M)[j]?=_;rw[qi0 M _ j q6];exact Z),?_,?_⟩
   .show(if r<σ0.rw.length then _ else match qe[r-σ0.rw.length]? with|some (some j,_)=>d.cur j|_=>0)=_;rw[if_neg s,G]
   .show(if r<σ0.rw.length then _ else match qe[r-σ0.rw.length]? with|some (some j,_)=>d.sz j|_=>0)=_;rw[if_neg s,G]
  .exact absurd rfl N
 have v:∀{r:Nat},r<σ0.rw.length->(yF d m σ0.bx.length kb σ0.rw.length qe).sz r=0:=λ s=>if_pos s;refine⟨m,m1,m3,qn9 ⟨⟨λ b o u h=>V _ _ _ (t.le.mem b o u h),by rw[E.nb];exact w7 _ _,λ i f=>by rw[<-t.le.β i f];show d.β (qgw _ _ _)=_;unfold qgw;rw[if_pos (by rw[<-E.nb];exact f)],by rw[E.nr];exact w7 _ _,λ r s=>?_,λ r s=>?_,λ r s g=>?_⟩,t.os,t.tape,t.output,t.size,t.block,?_,?_,t.drawn⟩ λ hX=>?_⟩
 .rw[E.nr]at s;exact(if_pos s).trans (t.le.k r (by rw[E.nr];exact s))
 .have:=t.le.ver r s;rw[E.nr]at s;show y.ver r<=(if r<σ0.rw.length then d.ver r+1 else 0);rw[if_pos s];omega
 .have:=t.le.ver r s;rw[E.nr]at s;have g:(if r<σ0.rw.length then d.ver r+1 else 0)=y.ver r:=g;rw[if_pos s]at g;omega
 .rintro b (⟨i,f,hb⟩|⟨r,s,q,hb⟩)
  .exact t.own b (.inl ⟨_,C f,hb⟩)
  .by_cases l:r<σ0.rw.length
   .exact absurd (v l) q
   .let⟨j,R,Q,_,T,_,Y,q5⟩:=B l q;exact t.own b (.inr ⟨j,by rw[J.nr];exact getElem?_lt T,by rw[<-q5];exact q,by rw[<-Y];exact hb⟩)
 .intro b o u hm;obtain h|h:=m1.own b o u hm
  .exact t.memg b o u h
  .exact .inr (t.own b h)
 .refine⟨ad.symm,by show σ0.rw.length+qe.length=_;simp,λ b o u h=>m2.mem b o u h,?_,λ i j f S g=>ai f S (J.inj _ _ (C f) (C S) g),λ i f o=>m2.boxmem _ (C f) o,?_,?_,hX.tab E.tab⟩
  .intro i cs f;let⟨ds,d1,d3,d2⟩:=ae i cs f;obtain⟨vs,e,v1,v2,v3⟩|⟨kc,ka,va,ks,vs,rfl,hm⟩:=(J.box _ ds d1).split
   .exact .of ⟨vs,e,v1,d2 m m1 m3 _ v2,v3⟩
   .obtain⟨_,_,_,_,_,vs',e1,rfl,l1,l2⟩:=d3 rfl;cases e1;exact(hm.sub l1 l2).to (λ _ h=>h) λ x u t g1 g2=>qjL V t g1 g2
  .intro r R w;have w:(σ0.rw.map jG++qe.map (·.2))[r]?=some R:=w;by_cases l:r<σ0.rw.length
   .rw[List.getElem?_append_left (by rw[wx];exact l),List.getElem?_map]at w;cases n:σ0.rw[r]? with
    |none=>rw[n]at w;cases w
    |some R0=>
      rw[n]at w;cases w;have H:=E.row r R0 n;have q:=v l;refine⟨?_,λ h=>absurd h (by show ¬ 1<=0;omega),H.pos,(by intro e g;cases g),(by intro e g;cases g),.inl rfl,λ h=>absurd q h,by show 0+0*_<=_;rw[ko];exact wh _,λ h=>absurd q h,(by intro i e j x f;cases f),λ h=>absurd q h,λ _=>rfl⟩;show R0.k=(if r<σ0.rw.length then d.k r else _);rw[if_pos l,H.k];exact(t.le.k r (by rw[E.nr];exact l)).symm
   .rw[List.getElem?_append_right (by rw[wx];omega),wx,List.getElem?_map]at w;cases n:qe[r-σ0.rw.length]? with
    |none=>rw[n]at w;cases w
    |some p=>
      rw[n]at w;cases w;let⟨so,R⟩:=p;have D:=hn _ _ _ n
      have hk:R.k=(yF d m σ0.bx.length kb σ0.rw.length qe).k r:=by
       show _=(if r<σ0.rw.length then _ else match qe[r-σ0.rw.length]? with|some p=>p.2.k|none=>1);rw[if_neg l,n]
      have L:R.ver=(yF d m σ0.bx.length kb σ0.rw.length qe).ver r:=by
       show _=(if r<σ0.rw.length then _ else 0);rw[if_neg l];exact D.ver
      cases so with
      |none=>
        have hc:R.c=[]:=D.src
        have q:(yF d m σ0.bx.length kb σ0.rw.length qe).sz r=0:=by
         show(if r<σ0.rw.length then 0 else match qe[r-σ0.rw.length]? with|some (some j,_)=>d.sz j|_=>0)=0;rw[if_neg l,n]
        exact⟨hk,λ _=>L,D.pos,D.len,D.plain,.inl hc,λ h=>absurd q h,by show 0+R.c.length*_<=_;rw[hc];simp,λ h=>absurd q h,(by intro i e j x f;change R.c[i]?=_ at f;rw[hc]at f;cases f),λ h=>absurd q h,λ _=>rfl⟩
      |some j=>
        let⟨Q,Z,T,q3,Y,q5,q6,q7⟩:=D.src;have H:qcT {d with mem:=m} K j Q:=m2.row j Q (by show(frz σ1.rw M)[j]?=_;rw[qi0 M _ j q6];exact Z)
        have I:(yF d m σ0.bx.length kb σ0.rw.length qe).cur r=d.cur j:=by
         show(if r<σ0.rw.length then _ else match qe[r-σ0.rw.length]? with|some (some j,_)=>d.cur j|_=>0)=_;rw[if_neg l,n]
        have A:(yF d m σ0.bx.length kb σ0.rw.length qe).sz r=d.sz j:=by
         show(if r<σ0.rw.length then _ else match qe[r-σ0.rw.length]? with|some (some j,_)=>d.sz j|_=>0)=_;rw[if_neg l,n]
        have O:d.of j=0:=H.off q7;refine⟨hk,λ _=>L,D.pos,D.len,D.plain,.inr (by show R.fz<=_;rw[D.fz];exact wh _),λ q=>?_,?_,λ q off ho=>?_,?_,λ q i f=>?_,λ _=>rfl⟩
        .rw[A]at q;let⟨vs,e,fr,b1,b2,b3,b4⟩:=H.blk q;exact⟨vs,e,fr,by rw[I];exact b1,by rw[A];exact b2,b3,by rw[<-T];exact b4⟩
        .show 0+R.c.length*R.k<=_;have X:d.of j+Q.c.length*Q.k<=d.sz j:=H.fit;rw[O]at X;rw[A,<-Y,<-T];exact X
        .rw[A]at q;rw[I];refine H.un q off ?_;show d.of j+_<=_;rw[q3,ko,O];exact wh _
        .intro i e' jj x' f S;have f:R.c[i]?=some e':=f;have W:i<Q.c.length:=by rw[Y];exact getElem?_lt f
         let⟨x,ac,U⟩:=(q5 i _ e' (List.getElem?_eq_getElem W) f).get jj x' S;let⟨u,u1,u2,u3⟩:=H.cells i _ jj x (List.getElem?_eq_getElem W) ac;let⟨p1,p2⟩:=qp4 (D.plain e' (wc f) x' (wc S));refine⟨u,?_,qjL (Γ:={d with mem:=m}) (λ _ _ _ h=>h) (U _ _ u2) p1 p2,u3⟩;have ab:K.cell? ⟨d.cur j,d.of j+(i*Q.k+jj),none⟩=some u:=u1;show K.cell? ⟨_,0+(i*R.k+jj),none⟩=_;rw[I,<-T,<-O];exact ab
        .rw[A]at q;rw[I];exact H.nbx q _ (C f)
  .intro r r' s aj ak z1 z2;by_cases e1:r<σ0.rw.length
   .exact absurd (v e1) z1
   by_cases e2:r'<σ0.rw.length
   .exact absurd (v e2) z2
   let⟨j,R,Q,a1,a2,_,a4,a5⟩:=B e1 z1;let⟨j',R',Q',b1,b2,_,b4,b5⟩:=B e2 z2;rw[a4,b4];refine J.apart j j' (by rw[J.nr];exact getElem?_lt a2) (by rw[J.nr];exact getElem?_lt b2) (λ g=>?_) (by rw[<-a5];exact z1) (by rw[<-b5];exact z2);subst g;have:=hd _ _ _ _ _ a1 b1;omega
end Go.AmZ
namespace Go.AmZ
open Go Go.RowKit Go.GxZ
def qH{a:Type}(f:List AV->Option a):List (List AV)->Option (List a)
 |[]=>some []
 |e::es=>match f e with
   |some v=>match qH f es with
     |some vs=>some (v::vs)
     |none=>none
   |none=>none
mutual
def qf1:AV->Option (List T)
 |.v (.slice none 0 0)=>some []
 |.sl 4 es (_+1)=>qqf es
 |_=>none
def qqf:List (List AV)->Option (List T)
 |[]=>some []
 |e::es=>match jR e with
   |some t=>match qqf es with
     |some l=>some (t::l)
     |none=>none
   |none=>none
def jR:List AV->Option T
 |[.v (.int .i64 k),.v (.string n),.v (.int .i64 s),x]=>match qf1 x with
   |some l=>some (.mk k n.data.toList s l)
   |none=>none
 |_=>none
end
def full{a:Type}:Option (a×List AV)->Option a
 |some (v,[])=>some v
 |_=>none
def yd(k:Nat){a:Type}(f:List AV->Option a):AV->Option (List a)
 |.v (.slice none 0 0)=>some []
 |.sl b es (_+1)=>match qJ b k with
   |true=>qH f es
   |false=>none
 |_=>none
def Qg(k:IntKind):List AV->Option (Int×List AV)
 |.v (.int a n)::r=>match decide (a=k)with
   |true=>some (n,r)
   |false=>none
 |_=>none
def qaE:List AV->Option (Bool×List AV)
 |.v (.bool b)::r=>some (b,r)
 |_=>none
def qav:List AV->Option (List UInt8×List AV)
 |.v (.string s)::r=>some (s.data.toList,r)
 |_=>none
def Qq:List AV->Option (T×List AV)
 |a::b::c::d::r=>match jR [a,b,c,d]with
   |some t=>some (t,r)
   |none=>none
 |_=>none
def zG{a:Type}(b:AV->Option a):List AV->Option (a×List AV)
 |x::r=>match b x with
   |some l=>some (l,r)
   |none=>none
 |_=>none
def JA{d c:Type}(f:List AV->Option d)(g:List AV->Option c):List (List AV)->List (List AV)->Option (List (d×c))
 |[],[]=>some []
 |k::ks,v::vs=>match f k,g v with
   |some a,some b=>match JA f g ks vs with
     |some l=>some ((a,b)::l)
     |none=>none
   |_,_=>none
 |_,_=>none
def dMc{d c:Type}(a b:Ty)(f:List AV->Option d)(g:List AV->Option c):AV->Option (List (d×c))
 |.mc h i e ks vs=>match decide (h=kcT a)&&(jP i a.agg&&jP e b.agg)with
   |true=>JA f g ks vs
   |false=>none
 |_=>none
def zF:(τ:Ty)->List AV->Option (Val τ×List AV)
 |.int k=>Qg k
 |.bool=>qaE
 |.str=>qav
 |.term=>Qq
 |.list a=>zG (yd a.size (λ e=>full (zF a e)))
 |.pair a b=>qj2 (zF a) (zF b)
 |.one a=>zF a
 |.map a b=>zG (dMc a b (λ e=>full (zF a e)) (λ e=>full (zF b e)))
def qm(τ:Ty)(e:List AV):Option (Val τ):=full (zF τ e)
def dlist(τ:Ty)(x:AV):Option (List (Val τ)):=yd τ.size (qm τ) x
mutual
def Qv:T->List AV
 |.mk k n s l=>[.v (.int .i64 k),.v (.string ⟨n.toArray⟩),.v (.int .i64 s),.sl 4 (qjJ l) 1]
def qjJ:List T->List (List AV)
 |[]=>[]
 |t::l=>Qv t::qjJ l
end
def qd:(τ:Ty)->Val τ->List AV
 |.int k,n=>[.v (.int k n)]
 |.bool,b=>[.v (.bool b)]
 |.str,s=>[.v (.string ⟨s.toArray⟩)]
 |.term,t=>Qv t
 |.list a,l=>[.sl a.size (l.map (qd a)) 1]
 |.pair a b,p=>qd a p.1++qd b p.2
 |.one a,v=>qd a v
 |.map a b,l=>[.mc (kcT a) a.agg b.agg (l.map λ p=>qd a p.1) (l.map λ p=>qd b p.2)]
def zK:(τ:Ty)->Val τ->AV
 |.int k,n=>.v (.int k n)
 |.bool,b=>.v (.bool b)
 |.str,s=>.v (.string ⟨s.toArray⟩)
 |.list a,l=>.sl a.size (l.map (qd a)) 1
 |.term,t=>.agg (qd .term t)
 |.pair a b,p=>.agg (qd (.pair a b) p)
 |.one a,v=>.agg (qd (.one a) v)
 |.map a b,l=>.mc (kcT a) a.agg b.agg (l.map λ p=>qd a p.1) (l.map λ p=>qd b p.2)
theorem zY{a:Type}{f:List AV->Option a}{e:List AV}{es:List (List AV)}{l:List a}:qH f (e::es)=some l↔∃v vs,f e=some v/\qH f es=some vs/\l=v::vs:=by
 grind [qH]
theorem qE{a:Type}{f:List AV->Option a}:∀{es:List (List AV)}{l:List a},qH f es=some l->es.length=l.length
 |[],l,h=>by cases h;rfl
 |e::es,l,h=>by
   obtain⟨v,vs,_,b,rfl⟩:=zY.1 h;simp[qE b]
theorem qdf{b:Type}{f:List AV->Option b}:∀{es:List (List AV)}{l:List b},qH f es=some l->∀{i:Nat}{v:b},l[i]?=some v->∃e,es[i]?=some e/\f e=some v
 |[],l,h,i,v,a=>by cases h;simp at a
 |e::es,l,h,i,v,a=>by
   obtain⟨w,vs,d,c,rfl⟩:=zY.1 h;cases i with
   |zero=>simp at a;subst a;exact⟨e,rfl,d⟩
   |succ i=>exact qdf c (by simpa using a)
theorem Qw{b:Type}{f:List AV->Option b}:∀{es:List (List AV)}{l:List b},qH f es=some l->∀{i:Nat}{e:List AV},es[i]?=some e->∃v,l[i]?=some v/\f e=some v
 |[],l,h,i,v,a=>by simp at a
 |e::es,l,h,i,v,a=>by
   obtain⟨w,vs,d,c,rfl⟩:=zY.1 h;cases i with
   |zero=>simp at a;subst a;exact⟨w,rfl,d⟩
   |succ i=>exact Qw c (by simpa using a)
theorem QA{b:Type}{f:List AV->Option b}:∀{es a:List (List AV)}{l m:List b},qH f es=some l->qH f a=some m->qH f (es++a)=some (l++m)
 |[],a,l,m,h,g=>by cases h;exact g
 |e::es,a,l,m,h,g=>by
   obtain⟨v,vs,d,c,rfl⟩:=zY.1 h;exact zY.2 ⟨v,vs++m,d,QA c g,rfl⟩
theorem qd1{a:Type}{f:List AV->Option a}:∀(n:Nat) {es:List (List AV)}{l:List a},qH f es=some l->qH f (es.take n)=some (l.take n)
 |0,es,l,h=>by simp;rfl
 |n+1,[],l,h=>by cases h;rfl
 |n+1,e::es,l,h=>by
   obtain⟨v,vs,c,b,rfl⟩:=zY.1 h;exact zY.2 ⟨v,vs.take n,c,qd1 n b,rfl⟩
theorem qb4{a:Type}{f:List AV->Option a}:∀(n:Nat) {es:List (List AV)}{l:List a},qH f es=some l->qH f (es.drop n)=some (l.drop n)
 |0,es,l,h=>by simpa using h
 |n+1,[],l,h=>by cases h;rfl
 |n+1,e::es,l,h=>by
   obtain⟨v,vs,c,b,rfl⟩:=zY.1 h;simpa using qb4 n b
theorem JJ{a:Type}{f:List AV->Option a}{g:a->List AV}(h:∀v,f (g v)=some v):∀l:List a,qH f (l.map g)=some l
 |[]=>rfl
 |v::l=>zY.2 ⟨v,l,h v,JJ h l,rfl⟩
theorem qjN:∀es:List (List AV),qqf es=qH jR es
 |[]=>rfl
 |e::es=>by
   rw[qqf,qH,qjN es];grind
theorem qy{a:Type}{x:Option (a×List AV)}{v:a}:full x=some v↔x=some (v,[]):=by
 unfold full;grind
theorem qfm{cs:List AV}{t:T}(h:jR cs=some t):∃k n s x l,cs=[.v (.int .i64 k),.v (.string n),.v (.int .i64 s),x]/\qf1 x=some l/\t=.mk k n.data.toList s l:=by
 unfold jR at h;grind
theorem qtu(e:List AV):qm .term e=jR e:=by
 show full (Qq e)=jR e;unfold Qq;split
 .rename_i a b c d r;cases r with
  |nil=>
    cases f:jR [a,b,c,d]with
    |none|some t=>rfl
  |cons x r=>
    have g:jR (a::b::c::d::x::r)=none:=by
     grind [jR]
    rw[g];cases f:jR [a,b,c,d]with
    |none|some t=>rfl
 .rename_i h;cases f:jR e with
  |none=>rfl
  |some t=>
    grind [qfm]
theorem qfX(x:AV):dlist .term x=qf1 x:=by
 have a:(qm .term:List AV->Option T)=jR:=funext qtu;unfold dlist yd qf1;grind [qJ,Ty.size,qjN]
theorem qxh{es c:List (List AV)}{k f:Nat}(D:0<f)(q:es.length=c.length)(C:∀e∈c,e.length=k)(B:∀e∈c,∀x∈e,qk x=true)
  (A:∀(i:Nat) (e d:List AV),es[i]?=some e->c[i]?=some d->jx e d):Sub (.sl k es f) (.sl k c 1):=by
 intro Γ u z;cases z with
 |sl k es f a n cap b o us H G M L K F J I E=>
   have get:∀(i:Nat) (d:List AV) (j:Nat) (y:AV),c[i]?=some d->d[j]?=some y->∃e x,es[i]?=some e/\e[j]?=some x/\Sub x y:=by
    intro i d j y l p;have m:i<es.length:=by rw[q];exact getElem?_lt l
    have r:=List.getElem?_eq_getElem m;let⟨x,w,g⟩:=(A i _ d r l).get j y p;exact⟨_,x,r,w,g⟩
   refine .sl k c 1 a n cap b o us (by rw[H,q]) (λ _=>G D) (λ h=>absurd h (by decide)) C B F ?_ ?_ ?_
   .grind
   .grind
   .intro i d j y l p;let⟨e,x,v,t,s⟩:=get i d j y l p;exact s Γ _ (E i e j x v t)
theorem qvs(k:Nat)(b:0<k):Sub (.v (.slice none 0 0)) (.sl k [] 1):=by
 intro Γ u a;have:=qK a;subst this;exact .sl k [] 1 none 0 0 0 0 (λ _ _=>undef) rfl (λ _=>wa _) (λ h=>absurd h (by decide)) (by simp) (by simp) b (.inl rfl) (by simp) (by simp)
theorem qgJ:∀l:List T,qjJ l=l.map Qv
 |[]=>rfl
 |t::l=>by rw[qjJ,qgJ l];rfl
theorem qsV(t:T):(Qv t).length=4:=by let⟨k,n,s,l⟩:=t;rw[Qv];rfl
theorem qnT(t:T):∀x∈Qv t,qk x=true:=by
 let⟨k,n,s,l⟩:=t;intro x a;rw[Qv]at a;simp at a;obtain rfl|rfl|rfl|rfl:=a<;>rfl
theorem zj:∀(τ:Ty) (v:Val τ),(qd τ v).length=τ.size
 |.int _,_|.bool,_|.str,_=>rfl
 |.term,t=>qsV t
 |.list _,_=>rfl
 |.pair a b,p=>by rw[qd,wd,zj a,zj b];rfl
 |.one a,v=>by rw[qd,zj a];rfl
 |.map _ _,_=>rfl
theorem qO:∀(τ:Ty) (v:Val τ),∀x∈qd τ v,qk x=true
 |.int _,_,x,h|.bool,_,x,h|.str,_,x,h=>by simp[qd]at h;subst h;rfl
 |.term,t,x,h=>qnT t x h
 |.list _,_,x,h=>by simp[qd]at h;subst h;rfl
 |.pair a b,p,x,h=>by
   rw[qd]at h;obtain h|h:=wi.1 h
   .exact qO a _ x h
   .exact qO b _ x h
 |.one a,v,x,h=>qO a v x h
 |.map _ _,_,x,h=>by simp[qd]at h;subst h;rfl
theorem qGj(t:T):∀cs,jR cs=some t->jx cs (Qv t)/\∀x∈cs,qk x=true:=by
 refine T.ind (P:=λ t=>∀cs,jR cs=some t->jx cs (Qv t)/\∀x∈cs,qk x=true) ?_ t;intro t m cs h;obtain⟨k,n,s,x,l,rfl,b,rfl⟩:=qfm h;have o:(⟨n.data.toList.toArray⟩:ByteArray)=n:=by cases n;simp
 have c:Sub x (.sl 4 (qjJ l) 1)/\qk x=true:=by
  unfold qf1 at b;split at b
  .cases b;rw[qjJ];exact⟨qvs 4 (by decide),rfl⟩
  .rename_i es q;refine⟨?_,rfl⟩;rw[qjN]at b;rw[qgJ];refine qxh (xn _) (by rw[qE b,wx]) ?_ ?_ ?_
   .grind [qsV]
   .grind [qnT]
   .intro i e r p a;let⟨g,d,j⟩:=Qw b p;rw[List.getElem?_map,d]at a;simp at a;subst a;exact(m g (wc d) e j).1
  .cases b
 refine⟨?_,?_⟩
 .rw[Qv,o];exact .cons (.refl _) (.cons (.refl _) (.cons (.refl _) (.cons c.1 .nil)))
 .intro y f;simp at f;obtain rfl|rfl|rfl|rfl:=f
  .rfl
  .rfl
  .rfl
  .exact c.2
theorem jx.append:∀{a b c d:List AV},jx a b->jx c d->jx (a++c) (b++d)
 |_,_,_,_,.nil,g=>g
 |_,_,_,_,.cons h t,g=>.cons h (t.append g)
theorem Ty.size_pos:∀τ:Ty,0<τ.size
 |.int _|.bool|.str=>Nat.one_pos
 |.term=>by decide
 |.list _=>Nat.one_pos
 |.pair a b=>wv (Ty.size_pos a) (w7 _ _)
 |.one a=>Ty.size_pos a
 |.map _ _=>Nat.one_pos
theorem jq{σ b a:Type}{p:List σ->Option (b×List σ)}{q:List σ->Option (a×List σ)}{cs:List σ}{v:b×a}{r:List σ}:qj2 p q cs=some (v,r)↔∃c,p cs=some (v.1,c)/\q c=some (v.2,r):=by
 grind [qj2]
theorem qcB:∀(τ:Ty) {cs:List AV}{v:Val τ}{r:List AV} (s:List AV),zF τ cs=some (v,r)->zF τ (cs++s)=some (v,r++s)
 |.int k,cs,v,r,s,h=>by
   change Qg k cs=_ at h;show Qg k (cs++s)=_;unfold Qg at h;grind [Qg]
 |.bool,cs,v,r,s,h=>by
   change qaE cs=_ at h;unfold qaE at h;split at h<;>cases h;rfl
 |.str,cs,v,r,s,h=>by
   change qav cs=_ at h;unfold qav at h;split at h<;>cases h;rfl
 |.term,cs,v,r,s,h=>by
   change Qq cs=_ at h;unfold Qq at h;split at h<;>try cases h
   split at h<;>cases h;rename_i c;show Qq _=_;grind [Qq]
 |.list a,cs,v,r,s,h=>by
   change zG _ cs=_ at h;unfold zG at h;split at h<;>try cases h
   split at h<;>cases h;rename_i c;show zG _ _=_;grind [zG]
 |.pair a b,cs,v,r,s,h=>by
   let⟨f,e,d⟩:=jq.1 h;exact jq.2 ⟨_,qcB a s e,qcB b s d⟩
 |.one a,cs,v,r,s,h=>qcB a s h
 |.map a b,cs,v,r,s,h=>by
   change zG _ cs=_ at h;unfold zG at h;split at h<;>try cases h
   split at h<;>cases h;rename_i c;show zG _ _=_;grind [zG]
theorem qae{e d:Type}{a b:Ty}{f:List AV->Option e}{g:List AV->Option d}{x:AV}{l:List (e×d)}(h:dMc a b f g x=some l):∃ks vs,x=.mc (kcT a) a.agg b.agg ks vs/\JA f g ks vs=some l:=by
 unfold dMc at h;split at h<;>try cases h
 split at h<;>try cases h
 rename_i c;rw[wb,wb]at c;rw[of_decide_eq_true c.1,qa1 c.2.1,qa1 c.2.2];exact⟨_,_,rfl,h⟩
theorem qvJ{d c:Type}{a b:Ty}{f:List AV->Option d}{g:List AV->Option c}{ks vs:List (List AV)}:dMc a b f g (.mc (kcT a) a.agg b.agg ks vs)=JA f g ks vs:=by
 have e:∀x,jP x x=true:=λ x=>by cases x<;>rfl
 simp only[dMc,decide_true,e,kF]
theorem qF8{b:List KC}{c a:Bool}{ks vs:List (List AV)}(y:AV):Sub (.mc b c a ks vs) y:=λ Γ u h=>(qAY h).elim
theorem zc:∀(τ:Ty) {cs:List AV}{v:Val τ}{r:List AV},zF τ cs=some (v,r)->∃pre,cs=pre++r/\pre.length=τ.size/\(∀x∈pre,qk x=true)/\jx pre (qd τ v)/\zF τ pre=some (v,[])
 |.int k,cs,v,r,h=>by
   change Qg k cs=_ at h;unfold Qg at h;split at h<;>try cases h
   split at h<;>cases h;rename_i g;have l:=of_decide_eq_true g;subst l;exact⟨[_],rfl,rfl,by simp[qk],.refl _,by show Qg _ _=_;simp[Qg]⟩
 |.bool,cs,v,r,h=>by
   change qaE cs=_ at h;unfold qaE at h;split at h<;>cases h;exact⟨[_],rfl,rfl,by simp[qk],.refl _,rfl⟩
 |.str,cs,v,r,h=>by
   change qav cs=_ at h;unfold qav at h;split at h<;>cases h;rename_i s;have D:(⟨s.data.toList.toArray⟩:ByteArray)=s:=by cases s;simp
   exact⟨[_],rfl,rfl,by simp[qk],by rw[qd,D];exact .refl _,rfl⟩
 |.term,cs,v,r,h=>by
   change Qq cs=_ at h;unfold Qq at h;split at h<;>try cases h
   split at h<;>cases h;rename_i c;let⟨o,m⟩:=qGj _ _ c;exact⟨_,rfl,rfl,m,o,by show Qq _=_;simp only[Qq,c]⟩
 |.list a,cs,v,r,h=>by
   change zG _ cs=_ at h;unfold zG at h;split at h<;>try cases h
   rename_i x A;split at h<;>cases h;rename_i c;refine⟨[x],rfl,rfl,?_,?_,by show zG _ _=_;simp only[zG,c]⟩
   .intro y f;simp at f;subst f;unfold yd at c;split at c
    .rfl
    .rfl
    .cases c
   .rw[qd];refine .cons ?_ .nil;unfold yd at c;split at c
    .grind [qvs,Ty.size_pos]
    .rename_i L es n;split at c
     .rename_i g;have g:=of_decide_eq_true g;subst g;refine qxh (xn _) (by rw[qE c,wx]) ?_ ?_ ?_
      .grind [zj]
      .grind [qO]
      .intro i e M E d;let⟨w,t,q⟩:=Qw c E;rw[List.getElem?_map,t]at d;simp at d;subst d;let⟨pre,K,_,_,J,_⟩:=zc a (qy.1 q);grind
     .cases c
    .cases c
 |.pair a b,cs,v,r,h=>by
   let⟨I,o,m⟩:=jq.1 h;let⟨p,e1,C,t,z,H⟩:=zc a o;let⟨j,F,B,q,u,G⟩:=zc b m;refine⟨p++j,by rw[e1,F,wk],by rw[wd,C,B];rfl,?_,by rw[qd];exact z.append u,?_⟩
   .grind
   .exact jq.2 ⟨j,by have:=qcB a j H;simpa using this,G⟩
 |.one a,cs,v,r,h=>zc a h
 |.map a b,cs,v,r,h=>by
   change zG _ cs=_ at h;unfold zG at h;split at h<;>try cases h
   rename_i x A;split at h<;>cases h;rename_i c;refine⟨[x],rfl,rfl,?_,?_,by show zG _ _=_;simp only[zG,c]⟩
   .obtain⟨ks,vs,rfl,_⟩:=qae c;intro y f;simp at f;subst f;rfl
   .obtain⟨ks,vs,rfl,_⟩:=qae c;rw[qd];exact .cons (qF8 _) .nil
theorem qAi(t:T):jR (Qv t)=some t:=by
 refine T.ind (P:=λ t=>jR (Qv t)=some t) ?_ t;intro t c;let⟨k,n,s,l⟩:=t
 have:qqf (qjJ l)=some l:=by
  rw[qjN,qgJ];have c:∀x∈l,jR (Qv x)=some x:=c
  have a:∀m:List T,(∀x∈m,jR (Qv x)=some x)->qH jR (m.map Qv)=some m:=by
   intro m
   induction m with
   |nil=>intro _;rfl
   |cons x m b=>intro h;exact zY.2 ⟨x,m,h x (ww ..),b λ y d=>h y (wj _ d),rfl⟩
  exact a l c
 rw[Qv,jR,qf1,this]
theorem qaN:∀(τ:Ty) (v:Val τ),zF τ (qd τ v)=some (v,[])
 |.int k,v=>by show Qg k [_]=_;simp[Qg]
 |.bool,v=>rfl
 |.str,v=>by show qav _=_;simp[qav,qd]
 |.term,t=>by
   have:=qtu (Qv t);rw[qAi]at this;exact qy.1 this
 |.list a,l=>by
   have c:qH (λ e=>full (zF a e)) (l.map (qd a))=some l:=JJ (λ v=>by rw[qaN a v];rfl) l;show zG _ [_]=_;grind [zG,yd,qJ]
 |.pair a b,v=>jq.2 ⟨_,qcB a _ (qaN a v.1),by rw[kD];exact qaN b v.2⟩
 |.one a,v=>qaN a v
 |.map a b,l=>by
   have c:∀l:List (Val a×Val b),JA (λ e=>full (zF a e)) (λ e=>full (zF b e)) (l.map λ p=>qd a p.1) (l.map λ p=>qd b p.2)=some l:=by
    intro l
    induction l with
    |nil=>rfl
    |cons p l d=>
      have e1:full (zF a (qd a p.1))=some p.1:=by rw[qaN a p.1];rfl
      have f:full (zF b (qd b p.2))=some p.2:=by rw[qaN b p.2];rfl
      simp only[wz,JA,e1,f,d]
   show zG _ [_]=_;simp only[zG,qvJ,c]
theorem qnr:∀(j:Ty) {cs:List AV}{v:Val j}{r:List AV},zF j cs=some (v,r)->∃pre,cs=pre++r/\((∀x∈pre,∃c,zo [c] [x]=true)->pre=qd j v)
 |.int k,cs,v,r,h=>by
   change Qg k cs=_ at h;unfold Qg at h;split at h<;>try cases h
   split at h<;>cases h;rename_i y;exact⟨[_],rfl,λ _=>by rw[of_decide_eq_true y];rfl⟩
 |.bool,cs,v,r,h=>by
   change qaE cs=_ at h;unfold qaE at h;split at h<;>cases h;exact⟨[_],rfl,λ _=>rfl⟩
 |.str,cs,v,r,h=>by
   change qav cs=_ at h;unfold qav at h;split at h<;>cases h;rename_i s;have w:(⟨s.data.toList.toArray⟩:ByteArray)=s:=by cases s;simp
   exact⟨[_],rfl,λ _=>by rw[qd,w]⟩
 |.term,cs,v,r,h=>by
   change Qq cs=_ at h;unfold Qq at h;split at h<;>try cases h
   split at h<;>cases h;rename_i f;obtain⟨k,n,s,x,l,e,i,rfl⟩:=qfm f;cases e;refine⟨[_,_,_,_],rfl,λ d=>?_⟩;let⟨c,g⟩:=d _ (wj _ (wj _ (wj _ (ww ..))));unfold qf1 at i;split at i<;>(try cases i)<;>cases c<;>cases g
 |.list a,cs,v,r,h=>by
   change zG _ cs=_ at h;unfold zG at h;split at h<;>try cases h
   rename_i x o;split at h<;>cases h;rename_i f;refine⟨[x],rfl,λ d=>?_⟩;let⟨c,g⟩:=d x (by simp);unfold yd at f;split at f<;>(try cases f)<;>cases c<;>cases g
 |.pair a b,cs,v,r,h=>by
   let⟨B,i,z⟩:=jq.1 h;let⟨p,e1,u⟩:=qnr a i;let⟨q,A,t⟩:=qnr b z;exact⟨p++q,by rw[e1,A,wk],λ d=>by rw[qd,u λ x m=>d x (wi.2 (.inl m)),t λ x m=>d x (wi.2 (.inr m))]⟩
 |.one a,cs,v,r,h=>qnr a h
 |.map a b,cs,v,r,h=>by
   change zG _ cs=_ at h;unfold zG at h;split at h<;>try cases h
   rename_i x o;split at h<;>cases h;rename_i f;refine⟨[x],rfl,λ d=>?_⟩;let⟨c,g⟩:=d x (by simp);obtain⟨ks,vs,rfl,_⟩:=qae f;cases c<;>cases g
theorem qvE:∀{b:List KC}{k:List AV},zo b k=true->∀x∈k,∃c,zo [c] [x]=true
 |[],[],_,x,a=>by cases a
 |[],_::_,h,_,_=>by cases h
 |c::b,k,h,x,a=>by
   obtain⟨y,r,rfl,e,d⟩:=qbr h;obtain rfl|a:=wM.1 a
   .exact⟨c,e⟩
   .exact qvE d x a
theorem qEN{a:Ty}{b:List KC}{k:List AV}{v:Val a}(h:qm a k=some v)(c:zo b k=true):k=qd a v:=by
 let⟨pre,e,o⟩:=qnr a (qy.1 h);grind [qvE]
theorem qgy{d c:Type}{f:List AV->Option d}{g:List AV->Option c}:∀{ks vs:List (List AV)}{l:List (d×c)},JA f g ks vs=some l->ks.length=l.length/\vs.length=l.length
 |[],[],l,h=>by cases h;exact⟨rfl,rfl⟩
 |[],_::_,l,h|_::_,[],l,h=>by cases h
 |k::ks,v::vs,l,h=>by
   simp only[JA]at h;split at h<;>try cases h
   split at h<;>cases h;rename_i e;let⟨a,b⟩:=qgy e;simp[a,b]
theorem qov{i e:Type}{f:List AV->Option i}{g:List AV->Option e}:∀{ks vs:List (List AV)}{l:List (i×e)},JA f g ks vs=some l->∀{j:Nat}{k v:List AV},ks[j]?=some k->vs[j]?=some v->∃p,l[j]?=some p/\f k=some p.1/\g v=some p.2
 |[],[],l,h,j,k,v,c,d=>by simp at c
 |[],_::_,l,h,_,_,_,_,_|_::_,[],l,h,_,_,_,_,_=>by cases h
 |k::ks,v::vs,l,h,j,r,q,c,d=>by
   simp only[JA]at h;split at h<;>try cases h
   rename_i a b o n;split at h<;>cases h;rename_i m;cases j with
   |zero=>simp at c d;subst c;subst d;exact⟨_,rfl,o,n⟩
   |succ j=>exact qov m (by simpa using c) (by simpa using d)
abbrev wao:=@Ty.size_pos
end Go.AmZ
namespace Go.AmZ
open Go Go.RowKit Go.GxZ
structure Mp where
 b:Nat->Nat
 nb:Nat
 r:Nat->Option Nat
 v:Nat->Nat
 q:Nat->List (List AV)
 rw:List qu
def mp0:Mp:=⟨λ _=>0,0,λ _=>none,λ _=>0,λ _=>[],[]⟩
def lvl:AV->Nat
 |.v _=>2
 |.sl _ _ n=>n
 |_=>0
def Qp(r:Option Nat)(v:Nat)(τ:Ty)(l:List (Val τ))(y:AV):Prop:=match r with
 |some r=>y=.rs r 0 l.length v false
 |none=>dlist τ y=some l/\2<=lvl y
def qoz(y:AV):Prop:=y=.v (.slice none 0 0)\/(∃k es n,y=.sl k es n)\/∃r lo n a f,y=.rs r lo n a f
theorem qBc{τ:Ty}{y:AV}{l:List (Val τ)}(h:dlist τ y=some l):qoz y:=by
 unfold dlist yd at h;split at h
 .exact .inl rfl
 .exact .inr (.inl ⟨_,_,_,rfl⟩)
 .cases h
theorem Qp.ish{r:Option Nat}{v:Nat}{τ:Ty}{l:List (Val τ)}{y:AV}(h:Qp r v τ l y):qoz y:=by
 cases r with
 |some r=>exact .inr (.inr ⟨_,_,_,_,_,h⟩)
 |none=>exact qBc h.1
def qqa(m:Mp)(id a:Nat)(y:AV):Prop:=
 ∃R,m.rw[id]?=some R/\a<=R.ver/\qoz y/\(R.ver=a->Qp (m.r id) (m.v id) R.τ R.l y)
mutual
def OK(m:Mp):TV->AV->Prop
 |.i k n,y=>y=.v (.int k n)
 |.b x,y=>y=.v (.bool x)
 |.s x,y=>y=.v (.string ⟨x.toArray⟩)
 |.c v,y=>qS v=true/\y=.v v
 |.nil,y=>y=.v (.slice none 0 0)
 |.sl τ l g,y=>dlist τ y=some l/\g<=lvl y
 |.row id a,y=>qqa m id a y
 |.ptr b o,y=>b<m.nb/\y=.ptr (m.b b) o
 |.pti b i,y=>b<m.nb/\0<=i/\y=.ptr (m.b b) i.toNat
 |.rpt id a d i cs o,y=>∃R,m.rw[id]?=some R/\a<=R.ver/\d<=R.sv/\((∃r j h,y=.rpt r j o h)\/∃ds,y=.ept ds o)/\(R.ver=a->(∃r j,m.r id=some r/\y=.rpt r j o (m.v id)/\i=((j:Nat):Int)/\j<R.l.length/\(R.sv=d->∃ds,(m.q id)[j]?=some ds/\OKL m cs ds))\/(m.r id=none/\0<R.l.length/\(R.sv=d->∃ds,y=.ept ds o/\OKL m cs ds)))
 |.ept cs o,y=>∃ds,y=.ept ds o/\OKL m cs ds
 |.fn f cs,y=>∃ds,y=.fn f ds/\OKL m cs ds
 |.agg cs,y=>∃ds,y=.agg ds/\OKL m cs ds
 |.tup cs,y=>∃ds,y=.tup ds/\OKL m cs ds
 |.dead,_=>True
 |.mp b,y=>b<m.nb/\y=.mp (m.b b)
 |.mc e τ l,y=>dMc e τ (qm e) (qm τ) y=some l
def OKL(m:Mp):List TV->List AV->Prop
 |[],ys=>ys=[]
 |x::xs,ys=>∃y r,ys=y::r/\OK m x y/\OKL m xs r
end
structure MLe (m m':Mp):Prop where
 nb:m.nb<=m'.nb
 b:∀i,i<m.nb->m'.b i=m.b i
 row:∀id R,m.rw[id]?=some R->∃R',m'.rw[id]?=some R'/\R.ver<=R'.ver/\R.sv<=R'.sv/\(R'.ver=R.ver->R'.l.length=R.l.length/\m'.r id=m.r id/\m'.v id=m.v id/\R'.τ=R.τ/\(R'.sv=R.sv->m'.q id=m.q id)/\(m.r id=none->∀y,dlist R.τ y=some R.l->dlist R'.τ y=some R'.l))
theorem MLe.refl(m:Mp):MLe m m:=⟨wa _,λ _ _=>rfl,λ _ R h=>⟨R,h,wa _,wa _,λ _=>⟨rfl,rfl,rfl,rfl,λ _=>rfl,λ _ _ h=>h⟩⟩⟩
theorem MLe.trans{a b c:Mp}(h:MLe a b)(g:MLe b c):MLe a c where
 nb:=wC h.nb g.nb
 b:=λ i f=>(g.b i (wv f h.nb)).trans (h.b i f)
 row:=λ id R l=>by
  let⟨d,p,o,n,m⟩:=h.row id R l;let⟨R2,s,r,g3,q⟩:=g.row id d p;refine⟨R2,s,wC o r,wC n g3,λ H=>?_⟩;have e1:d.ver=R.ver:=by omega
  have t:R2.ver=d.ver:=by omega
  let⟨F,j,E,D,C,B⟩:=m e1;let⟨A,z,x,w,v,u⟩:=q t;exact⟨A.trans F,z.trans j,x.trans E,w.trans D,λ G=>(v (by omega)).trans (C (by omega)),λ e y k=>u (j.trans e) y (B e y k)⟩
theorem qqa.mono{m m':Mp}(g:MLe m m'){id f:Nat}{y:AV}(h:qqa m id f y):qqa m' id f y:=by
 let⟨R,n,j,i,e⟩:=h;let⟨R',p,o,_,g3⟩:=g.row id R n;refine⟨R',p,wC j o,i,λ q=>?_⟩;have e1:R'.ver=R.ver:=by omega
 let⟨a,b,c,d,_,k⟩:=g3 e1;have e:=e (by omega);rw[b,c];revert e k;cases m.r id with
 |some r=>
   intro _ e;show y=.rs r 0 R'.l.length (m.v id) false;rw[a];exact e
 |none=>intro k e;exact⟨k rfl y e.1,e.2⟩
mutual
theorem OK.mono{m m':Mp}(e:MLe m m'):∀{x:TV}{y:AV},OK m x y->OK m' x y
 |.i ..,y,h|.b ..,y,h|.s ..,y,h|.c ..,y,h|.nil,y,h|.sl ..,y,h=>h
 |.row ..,y,h=>qqa.mono e h
 |.ptr b o,y,h=>⟨wv h.1 e.nb,by rw[e.b _ h.1];exact h.2⟩
 |.pti b i,y,h=>⟨wv h.1 e.nb,h.2.1,by rw[e.b _ h.1];exact h.2.2⟩
 |.rpt id w G _ cs o,y,h=>by
   let⟨R,k,g,u,D,C⟩:=h;let⟨R',F,E,v,g3⟩:=e.row id R k;refine⟨R',F,wC g E,wC u v,D,λ H=>?_⟩;have e1:R'.ver=R.ver:=by omega
   let⟨a,b,c,_,d,_⟩:=g3 e1;obtain⟨r,j,t,z,A,q,p⟩|⟨t,q,p⟩:=C (by omega)
   .refine .inl ⟨r,j,b.trans t,by rw[c];exact z,A,by rw[a];exact q,λ B=>?_⟩;let⟨ds,n,l⟩:=p (by omega);exact⟨ds,by rw[d (by omega)];exact n,OKL.mono e l⟩
   .refine .inr ⟨b.trans t,by rw[a];exact q,λ B=>?_⟩;let⟨ds,n,l⟩:=p (by omega);exact⟨ds,n,OKL.mono e l⟩
 |.ept cs o,y,⟨ds,k,g⟩|.fn f cs,y,⟨ds,k,g⟩|.agg cs,y,⟨ds,k,g⟩|.tup cs,y,⟨ds,k,g⟩=>⟨ds,k,OKL.mono e g⟩
 |.dead,y,h=>trivial
 |.mp b,y,h=>⟨wv h.1 e.nb,by rw[e.b _ h.1];exact h.2⟩
 |.mc ..,y,h=>h
theorem OKL.mono{m m':Mp}(a:MLe m m'):∀{xs:List TV}{ys:List AV},OKL m xs ys->OKL m' xs ys
 |[],ys,h=>h
 |x::xs,ys,⟨y,r,d,c,b⟩=>⟨y,r,d,OK.mono a c,OKL.mono a b⟩
end
theorem qEc{m:Mp}{R:qu}{id a o:Nat}{i:Int}{cs:List TV}{y:AV}(h:(∃r j,m.r id=some r/\y=.rpt r j o (m.v id)/\i=((j:Nat):Int)/\j<R.l.length/\(R.sv=a->∃ds,(m.q id)[j]?=some ds/\OKL m cs ds))\/(m.r id=none/\0<R.l.length/\(R.sv=a->∃ds,y=.ept ds o/\OKL m cs ds)))(b:R.sv=a):
  (∃r j ds,m.r id=some r/\y=.rpt r j o (m.v id)/\i=((j:Nat):Int)/\j<R.l.length/\(m.q id)[j]?=some ds/\OKL m cs ds)\/∃ds,m.r id=none/\y=.ept ds o/\0<R.l.length/\OKL m cs ds:=by
 grind
theorem OKL.nil(m:Mp):OKL m [] []:=rfl
theorem OKL.cons{m:Mp}{x:TV}{y:AV}{xs:List TV}{ys:List AV}(h:OK m x y)(g:OKL m xs ys):OKL m (x::xs) (y::ys):=⟨y,ys,rfl,h,g⟩
theorem OKL.len{m:Mp}:∀{xs:List TV}{ys:List AV},OKL m xs ys->ys.length=xs.length
 |[],_,h=>by cases h;rfl
 |_::_,_,⟨_,_,rfl,_,h⟩=>by simp[h.len]
theorem OKL.get{m:Mp}:∀{xs:List TV}{ys:List AV},OKL m xs ys->∀{i:Nat}{x:TV},xs[i]?=some x->∃y,ys[i]?=some y/\OK m x y
 |[],_,_,i,x,a=>by simp at a
 |_::_,_,⟨y,r,rfl,c,b⟩,0,x,a=>by simp at a;subst a;exact⟨y,rfl,c⟩
 |_::_,_,⟨y,r,rfl,c,b⟩,i+1,x,a=>by simpa using b.get (by simpa using a)
theorem OKL.append{m:Mp}:∀{xs:List TV}{ys:List AV}{b:List TV}{a:List AV},OKL m xs ys->OKL m b a->OKL m (xs++b) (ys++a)
 |[],_,_,_,h,g=>by cases h;exact g
 |_::_,_,_,_,⟨y,r,rfl,d,c⟩,g=>⟨y,_,rfl,d,c.append g⟩
theorem OKL.take{m:Mp}(n:Nat):∀{xs:List TV}{ys:List AV},OKL m xs ys->OKL m (xs.take n) (ys.take n):=by
 induction n with
 |zero=>intro xs ys _;simp;exact rfl
 |succ n a=>
   intro xs ys h;cases xs with
   |nil=>cases h;exact rfl
   |cons x xs=>obtain⟨y,r,rfl,c,b⟩:=h;exact⟨y,_,rfl,c,a b⟩
theorem OKL.drop{m:Mp}(n:Nat):∀{xs:List TV}{ys:List AV},OKL m xs ys->OKL m (xs.drop n) (ys.drop n):=by
 induction n with
 |zero=>intro xs ys h;simpa using h
 |succ n a=>
   intro xs ys h;cases xs with
   |nil=>cases h;exact rfl
   |cons x xs=>obtain⟨y,r,rfl,c,b⟩:=h;simpa using a b
theorem OKL.split{m:Mp}:∀{xs c:List TV}{ys:List AV},OKL m (xs++c) ys->∃a b,ys=a++b/\OKL m xs a/\OKL m c b
 |[],_,ys,h=>⟨[],ys,rfl,rfl,h⟩
 |_::_,_,_,⟨y,r,rfl,g,f⟩=>by
   obtain⟨a,b,rfl,e,d⟩:=f.split;exact⟨y::a,b,rfl,⟨y,a,rfl,g,e⟩,d⟩
theorem qsB{m:Mp}{v:Value}(h:qS v=true):OK m (qac v) (.v v):=by
 unfold qac;split
 .exact rfl
 .exact rfl
 .rename_i s;show AV.v (.string s)=.v (.string ⟨s.data.toList.toArray⟩);cases s;simp
 .exact rfl
 .rw[h];exact⟨h,rfl⟩
theorem qbO{m:Mp}:∀{l:List Value},l.all qS=true->OKL m (l.map qac) (l.map .v)
 |[],_=>rfl
 |x::l,h=>by
   rw[ke,wb]at h;exact⟨_,_,rfl,qsB h.1,qbO h.2⟩
theorem yO{m:Mp}(v:Value):OK m (qac v) (ofC v):=by
 unfold ofC;cases h:qS v with
 |true=>exact qsB h
 |false=>
   have:qac v=.dead:=by
    unfold qac;grind [qS]
   rw[this];trivial
theorem qzd{m:Mp}(v:Value):OK m (quG v) (qmV v):=by
 cases v with
 |agg cs=>
   show OK m (match cs.toList.all qS with|true=>TV.agg (cs.toList.map qac)|false=>.dead) (match cs.toList.all qS with|true=>.agg (cs.toList.map .v)|false=>.dead);cases h:cs.toList.all qS with
   |true=>exact⟨_,rfl,qbO h⟩
   |false=>trivial
 |tuple vs=>
   show OK m (match vs.toList with|[]=>TV.tup []|_=>.dead) (match vs.toList with|[]=>.tup []|_=>.dead);cases vs.toList with
   |nil=>exact⟨_,rfl,rfl⟩
   |cons a l=>trivial
 |bool b=>exact yO (.bool b)
 |int k n=>exact yO (.int k n)
 |float k n=>exact yO (.float k n)
 |complex k a b=>exact yO (.complex k a b)
 |string s=>exact yO (.string s)
 |pointer a=>exact yO (.pointer a)
 |slice a n c=>exact yO (.slice a n c)
 |map r=>exact yO (.map r)
 |chan r=>exact yO (.chan r)
 |func f a b=>exact yO (.func f a b)
 |nilFunc=>exact yO (.nilFunc)
 |iface t v=>exact yO (.iface t v)
 |nilIface=>exact yO (.nilIface)
def Qm(σ:St)(R:qu)(b:Option Nat)(a:Nat)(d:List (List AV)):Prop:=match b with
 |some r=>∃Q,σ.rw[r]?=some Q/\Q.c=d/\Q.ver=a/\Q.k=R.τ.size/\qH (qm R.τ) Q.c=some R.l/\Q.fz<=Q.c.length/\(R.sh=false->Q.fz=0/\Q.off=false)
 |none=>R.sh=false->R.l=[]
def zU(m:Mp)(σ:St):Prop:=∀id R,m.rw[id]?=some R->Qm σ R (m.r id) (m.v id) (m.q id)
structure Rel (N:Nat×Nat) (m:Mp) (E:Env) (τ:TS) (tm:List AV) (σ:St):Prop where
 len:tm.length=N.1
 env:∀t,OK m (get E t) (tm.getD t .dead)
 rw:m.rw=τ.rw
 nb:m.nb=τ.bx.length
 box:∀b cs,τ.bx[b]?=some cs->∃ds,σ.bx[m.b b]?=some ds/\OKL m cs ds
 inj:∀b b',b<m.nb->b'<m.nb->m.b b=m.b b'->b=b'
 rows:zU m σ
 rinj:∀id id' r,id<m.rw.length->id'<m.rw.length->m.r id=some r->m.r id'=some r->id=id'
 pin:∀i,i<N.2->i<m.nb/\m.b i=i
theorem qos{m m':Mp}{n:Nat}(c:MLe m m')(h:∀i,i<n->i<m.nb/\m.b i=i):∀i,i<n->i<m'.nb/\m'.b i=i:=λ i a=>
 ⟨wv (h i a).1 c.nb,(c.b i (h i a).1).trans (h i a).2⟩
theorem Rel.ev{N:Nat×Nat}{m:Mp}{E:Env}{τ:TS}{a:List AV}{σ:St}(h:Rel N m E τ a σ)(x:Operand):OK m (evT E x) (aev a x):=by
 cases x with
 |tmp t=>exact h.env t
 |const v=>exact qzd v
 |func f=>exact⟨_,rfl,rfl⟩
 |global g=>trivial
theorem Rel.evs{N:Nat×Nat}{m:Mp}{E:Env}{τ:TS}{a:List AV}{σ:St}(h:Rel N m E τ a σ):∀l:List Operand,OKL m (l.map (evT E)) (l.map (aev a))
 |[]=>rfl
 |x::l=>⟨_,_,rfl,h.ev x,h.evs l⟩
theorem zN{τ:Ty}{y:AV}{l:List (Val τ)}(h:dlist τ y=some l):y=.v (.slice none 0 0)/\l=[]\/∃es n,y=.sl τ.size es (n+1)/\qH (qm τ) es=some l:=by
 unfold dlist yd at h;split at h
 .grind
 .rename_i k es n;split at h
  .rename_i a;have:=of_decide_eq_true a;simp_all
  .cases h
 .cases h
theorem OK.one{m:Mp}{x:TV}{y:AV}(h:OK m x y)(d:qeH x=true):isC y=true/\yv x=[x]/\cellsOf y=[y]:=by
 cases x with
 |i|b|s=>cases h;exact⟨rfl,rfl,rfl⟩
 |c=>obtain⟨_,rfl⟩:=h;exact⟨rfl,rfl,rfl⟩
 |nil=>cases h;exact⟨rfl,rfl,rfl⟩
 |sl τ l p=>
   let⟨h,_⟩:=h;obtain⟨rfl,_⟩|⟨es,n,rfl,_⟩:=zN h<;>exact⟨rfl,rfl,rfl⟩
 |row id a=>
   let⟨R,_,_,h,_⟩:=h;obtain rfl|⟨k,es,j,rfl⟩|⟨r,lo,n,e,f,rfl⟩:=h<;>exact⟨rfl,rfl,rfl⟩
 |ptr b o=>obtain⟨_,rfl⟩:=h;exact⟨rfl,rfl,rfl⟩
 |pti b i=>obtain⟨_,_,rfl⟩:=h;exact⟨rfl,rfl,rfl⟩
 |rpt id a g i cs o=>let⟨R,_,_,_,h,_⟩:=h;obtain⟨r,i,e,rfl⟩|⟨ds,rfl⟩:=h<;>exact⟨rfl,rfl,rfl⟩
 |ept cs o|fn f cs=>obtain⟨ds,rfl,_⟩:=h;exact⟨rfl,rfl,rfl⟩
 |agg cs|tup cs|dead=>simp[qeH]at d
 |mp b=>obtain⟨_,rfl⟩:=h;exact⟨rfl,rfl,rfl⟩
 |mc=>obtain⟨ks,vs,rfl,_⟩:=qae h;exact⟨rfl,rfl,rfl⟩
theorem OKL.allC{m:Mp}:∀{xs:List TV}{ys:List AV},OKL m xs ys->xs.all qeH=true->ys.all isC=true
 |[],_,h,_=>by cases h;rfl
 |x::xs,_,⟨y,r,rfl,b,a⟩,h=>by
   rw[ke,wb]at h;rw[ke,(b.one h.1).1,a.allC h.2];rfl
theorem OK.cells{m:Mp}{x:TV}{y:AV}(h:OK m x y)(e:(yv x).all qeH=true):OKL m (yv x) (cellsOf y)/\(cellsOf y).all isC=true:=by
 have d:qeH x=true->OKL m (yv x) (cellsOf y)/\(cellsOf y).all isC=true:=by
  intro g;let⟨a,b,c⟩:=h.one g;rw[b,c];exact⟨⟨y,[],rfl,h,rfl⟩,by simp[a]⟩
 cases x with
 |agg cs=>
   obtain⟨ds,rfl,f⟩:=h;exact⟨f,f.allC e⟩
 |tup cs|dead=>simp[yv,qeH]at e
 |_=>exact d rfl
theorem qz8{x:AV}{l:List T}(h:qf1 x=some l):1<=lvl x:=by
 unfold qf1 at h;split at h
 .exact wU _
 .exact kX (wh _)
 .cases h
theorem qhp{τ:Ty}{y:AV}{l:List (Val τ)}(h:dlist τ y=some l):1<=lvl y:=by
 obtain⟨rfl,_⟩|⟨es,n,rfl,_⟩:=zN h
 .exact wU _
 .exact kX (wh _)
theorem qj0{m:Mp}:∀(τ:Ty) {cs:List AV}{v:Val τ}{r:List AV},zF τ cs=some (v,r)->∃pre,cs=pre++r/\OKL m (Qz τ v) pre
 |.int k,cs,v,r,h=>by
   change Qg k cs=_ at h;unfold Qg at h;split at h<;>try cases h
   split at h<;>cases h;rename_i o;have e:=of_decide_eq_true o;subst e;exact⟨[_],rfl,⟨_,_,rfl,rfl,rfl⟩⟩
 |.bool,cs,v,r,h=>by
   change qaE cs=_ at h;unfold qaE at h;split at h<;>cases h;exact⟨[_],rfl,⟨_,_,rfl,rfl,rfl⟩⟩
 |.str,cs,v,r,h=>by
   change qav cs=_ at h;unfold qav at h;split at h<;>cases h;rename_i s;exact⟨[_],rfl,⟨_,_,rfl,by show AV.v (.string s)=.v (.string ⟨s.data.toList.toArray⟩);cases s;simp,rfl⟩⟩
 |.term,cs,v,r,h=>by
   change Qq cs=_ at h;unfold Qq at h;split at h<;>try cases h
   split at h<;>cases h;rename_i c;obtain⟨k,n,s,x,l,j,d,rfl⟩:=qfm c;cases j;refine⟨_,rfl,⟨_,_,rfl,rfl,_,_,rfl,?_,_,_,rfl,rfl,_,_,rfl,⟨?_,qz8 d⟩,rfl⟩⟩
   .show AV.v (.string n)=.v (.string ⟨n.data.toList.toArray⟩);cases n;simp
   .rw[qfX];exact d
 |.list a,cs,v,r,h=>by
   change zG _ cs=_ at h;unfold zG at h;split at h<;>try cases h
   split at h<;>cases h;rename_i c;have c:dlist a _=some v:=c;exact⟨[_],rfl,⟨_,_,rfl,⟨c,qhp c⟩,rfl⟩⟩
 |.pair a b,cs,v,r,h=>by
   let⟨u,d,q⟩:=jq.1 h;let⟨p,e1,i⟩:=qj0 (m:=m) a d;let⟨f,t,g⟩:=qj0 (m:=m) b q;exact⟨p++f,by rw[e1,t,wk],i.append g⟩
 |.one a,cs,v,r,h=>qj0 (m:=m) a h
 |.map a b,cs,v,r,h=>by
   change zG _ cs=_ at h;unfold zG at h;split at h<;>try cases h
   split at h<;>cases h;rename_i c;exact⟨[_],rfl,⟨_,_,rfl,c,rfl⟩⟩
theorem yT{m:Mp}{τ:Ty}{e:List AV}{v:Val τ}(h:qm τ e=some v):OKL m (Qz τ v) e:=by
 let⟨pre,b,a⟩:=qj0 (m:=m) τ (qy.1 h);grind
theorem yK(τ:Ty)(v:Val τ):qm τ (qd τ v)=some v:=qy.2 (qaN τ v)
theorem qnj{m:Mp}:∀(τ:Ty) (v:Val τ),OK m (qg7 τ v) (zK τ v)
 |.int k,v|.bool,v|.str,v=>rfl
 |.list a,v=>by
   have h:OKL m (Qz (.list a) v) (qd (.list a) v):=yT (yK (.list a) v);let⟨y,r,d,c,_⟩:=h;cases d;exact c
 |.term,v=>⟨_,rfl,yT (yK .term v)⟩
 |.pair a b,v=>⟨_,rfl,yT (yK (.pair a b) v)⟩
 |.one a,v=>⟨_,rfl,yT (yK (.one a) v)⟩
 |.map a b,v=>by
   have h:OKL m (Qz (.map a b) v) (qd (.map a b) v):=yT (yK (.map a b) v);let⟨y,r,d,c,_⟩:=h;cases d;exact c
end Go.AmZ
namespace Go.AmZ
open Go Go.RowKit Go.GxZ
def qGi(τ:TS):Option TS->TS
 |none=>τ
 |some a=>a
def Sim{α:Type}(N:Nat×Nat)(m:Mp)(E:Env)(τ:TS)(tm:List AV)(σ:St)(K:KT α)(r:α)(p:Option (AV×Option St)):Prop:=
 ∃x a y σ' m',K x a=some r/\p=some (y,σ')/\MLe m m'/\Rel N m' E (qGi τ a) tm (turn σ σ')/\OK m' x y/\(a=none->σ'=none)
section
variable {α:Type}{N:Nat×Nat}{m:Mp}{E:Env}{τ:TS}{tm:List AV}{σ:St}{K:KT α}{r:α}{p:Option (AV×Option St)}
theorem Sim.same{x:TV}{y:AV}(a:Rel N m E τ tm σ)(h:K x none=some r)(b:p=some (y,none))(c:OK m x y):Sim N m E τ tm σ K r p:=
 ⟨x,none,y,none,m,h,b,.refl m,a,c,λ _=>rfl⟩
theorem Sim.to{x:TV}{y:AV}{a:TS}{σ':St}{m':Mp}(h:K x (some a)=some r)(b:p=some (y,some σ'))(e:MLe m m')(d:Rel N m' E a tm σ')(c:OK m' x y):Sim N m E τ tm σ K r p:=
 ⟨x,some a,y,some σ',m',h,b,e,d,c,λ h=>by cases h⟩
theorem Rel.box_lt(a:Rel N m E τ tm σ){b:Nat}(h:b<m.nb):m.b b<σ.bx.length:=by
 rw[a.nb]at h;let⟨ds,c,_⟩:=a.box b _ (List.getElem?_eq_getElem h);exact getElem?_lt c
theorem Rel.alloc(a:Rel N m E τ tm σ){cs:List TV}{ds:List AV}(q:OKL m cs ds):
  ∃m',MLe m m'/\Rel N m' E {τ with bx:=τ.bx++[cs]} tm {σ with bx:=σ.bx++[ds]}/\OK m' (.ptr τ.bx.length 0) (.ptr σ.bx.length 0):=by
 have c:MLe m {m with b:=λ i=>if i=m.nb then σ.bx.length else m.b i,nb:=m.nb+1}:=
  ⟨wU _,λ i p=>if_neg (ve p),λ id R h=>⟨R,h,wa _,wa _,λ _=>⟨rfl,rfl,rfl,rfl,λ _=>rfl,λ _ _ h=>h⟩⟩⟩
 refine⟨_,c,?_,?_⟩
 .refine⟨a.len,λ t=>(a.env t).mono c,a.rw,by show m.nb+1=_;rw[a.nb];simp,?_,?_,a.rows,a.rinj,qos c a.pin⟩
  .intro b cs' d;show ∃e,(σ.bx++[ds])[if b=m.nb then σ.bx.length else m.b b]?=some e/\_;by_cases j:b<τ.bx.length
   .rw[List.getElem?_append_left j]at d;let⟨e,o,r⟩:=a.box b cs' d;rw[if_neg (by rw[a.nb];omega),List.getElem?_append_left (getElem?_lt o)];exact⟨e,o,r.mono c⟩
   .have k:b<(τ.bx++[cs]).length:=getElem?_lt d;simp at k;have l:b=τ.bx.length:=by omega
    subst l;simp at d;subst d;rw[if_pos a.nb.symm];exact⟨ds,by simp,q.mono c⟩
  .intro b f d n g;change b<m.nb+1 at d;change f<m.nb+1 at n;change (if b=m.nb then σ.bx.length else m.b b)=(if f=m.nb then σ.bx.length else m.b f)at g;split at g<;>split at g
   .omega
   .have:=a.box_lt (b:=f) (by omega);omega
   .have:=a.box_lt (b:=b) (by omega);omega
   .exact a.inj b f (by omega) (by omega) g
 .refine⟨?_,?_⟩
  .show τ.bx.length<m.nb+1;rw[a.nb];exact kV _
  .show AV.ptr σ.bx.length 0=.ptr (if τ.bx.length=m.nb then σ.bx.length else m.b τ.bx.length) 0;rw[if_pos a.nb.symm]
theorem Rel.setBox(a:Rel N m E τ tm σ){b:Nat}{cs:List TV}{ds:List AV}(k:b<m.nb)(l:OKL m cs ds)(w:List Nat):Rel N m E {τ with bx:=τ.bx.set b cs} tm {σ with bx:=σ.bx.set (m.b b) ds,wr:=w}:=by
 refine⟨a.len,a.env,a.rw,by rw[a.nb];simp,?_,a.inj,a.rows,a.rinj,a.pin⟩;intro i cs' d;have c:i<m.nb:=by rw[a.nb];have:=getElem?_lt d;simpa using this
 by_cases g:i=b
 .subst g;have f:i<τ.bx.length:=by rw[<-a.nb];exact c
  simp only[List.getElem?_set_self f,wn]at d;subst d;exact⟨ds,by simp only[List.getElem?_set_self (a.box_lt k)],l⟩
 .simp only[List.getElem?_set_ne (xw g)]at d;let⟨j,o,n⟩:=a.box i cs' d;have e:m.b b≠m.b i:=λ h=>g (a.inj _ _ c k h.symm);exact⟨j,by simp only[List.getElem?_set_ne e];exact o,n⟩
theorem Rel.rowsTo(a:Rel N m E τ tm σ){σ':St}(c:σ'.bx=σ.bx)(b:zU m σ'):Rel N m E τ tm σ':=
 ⟨a.len,a.env,a.rw,a.nb,by rw[c];exact a.box,a.inj,b,a.rinj,a.pin⟩
theorem qB0{r:Nat}{Q:Row}(f:Q.fz<=Q.c.length):∀(e:List Nat) {rw:List Row},rw[r]?=some Q->∃d,(frz rw e)[r]?=some d/\d.c=Q.c/\d.k=Q.k/\d.ver=Q.ver/\d.fz<=d.c.length:=by
 intro e
 induction e generalizing Q with
 |nil=>intro rw h;exact⟨Q,h,rfl,rfl,rfl,f⟩
 |cons a e o=>
   intro rw h
   have:∃b,(rw.modify a qel)[r]?=some b/\b.c=Q.c/\b.k=Q.k/\b.ver=Q.ver/\b.fz<=b.c.length:=by
    rw[List.getElem?_modify,h];by_cases g:a=r
    .exact⟨qel Q,by simp[g],rfl,rfl,rfl,Nat.max_le.2 ⟨f,wa _⟩⟩
    .exact⟨Q,by simp[g],rfl,rfl,rfl,f⟩
   let⟨b,t,s,g3,q,p⟩:=this;let⟨u,n,m,l,j,i⟩:=o (Q:=b) p t;exact⟨u,n,m.trans s,l.trans g3,j.trans q,i⟩
def shM(m:Mp):Mp:={m with rw:=m.rw.map λ R=>⟨R.τ,R.l,R.ver,R.sv,true⟩}
theorem qxN{id:Nat}{R:qu}(h:(shM m).rw[id]?=some R):∃a,m.rw[id]?=some a/\R=⟨a.τ,a.l,a.ver,a.sv,true⟩:=by
 change (m.rw.map _)[id]?=some R at h;rw[List.getElem?_map]at h;cases b:m.rw[id]? with
 |none=>rw[b]at h;cases h
 |some a=>rw[b]at h;cases h;exact⟨a,rfl,rfl⟩
theorem qcx(m:Mp):MLe m (shM m):=by
 refine⟨wa _,λ _ _=>rfl,λ id R h=>⟨⟨R.τ,R.l,R.ver,R.sv,true⟩,?_,wa _,wa _,λ _=>⟨rfl,rfl,rfl,rfl,λ _=>rfl,λ _ _ h=>h⟩⟩⟩;show(m.rw.map _)[id]?=_;rw[List.getElem?_map,h];rfl
theorem zU.frz(h:zU m σ)(b w:List Nat):zU (shM m) {σ with rw:=frz σ.rw b,wrr:=w}:=by
 intro id R f;obtain⟨a,s,rfl⟩:=qxN f;have:=h id a s;show match m.r id with|some r=>∃Q,(Go.AmZ.frz σ.rw b)[r]?=some Q/\Q.c=m.q id/\Q.ver=m.v id/\Q.k=a.τ.size/\qH (qm a.τ) Q.c=some a.l/\Q.fz<=Q.c.length/\(true=false->Q.fz=0/\Q.off=false)|none=>true=false->a.l=[]
 cases e:m.r id with
 |some r=>
   rw[e]at this;let⟨Q,p,o,n,j,i,g,_⟩:=this;let⟨y,x,d,g3,u,t⟩:=qB0 g (rw:=σ.rw) b p;exact⟨y,x,d.trans o,u.trans n,g3.trans j,by rw[d];exact i,t,λ h=>by cases h⟩
 |none=>intro h;cases h
theorem zU.sh(h:zU m σ):zU (shM m) σ:=by
 intro id R d;obtain⟨a,o,rfl⟩:=qxN d;have:=h id a o;show match m.r id with|some r=>∃Q,σ.rw[r]?=some Q/\Q.c=m.q id/\Q.ver=m.v id/\Q.k=a.τ.size/\qH (qm a.τ) Q.c=some a.l/\Q.fz<=Q.c.length/\(true=false->Q.fz=0/\Q.off=false)|none=>true=false->a.l=[]
 cases b:m.r id with
 |some r=>
   rw[b]at this;let⟨Q,n,j,i,g,f,e,_⟩:=this;exact⟨Q,n,j,i,g,f,e,λ h=>by cases h⟩
 |none=>intro h;cases h
theorem Rel.share(a:Rel N m E τ tm σ){σ':St}(f:σ'.bx=σ.bx)(e:zU (shM m) σ'):Rel N (shM m) E (shA τ) tm σ':=by
 refine⟨a.len,λ t=>(a.env t).mono (qcx m),by show m.rw.map _=τ.rw.map _;rw[a.rw],a.nb,?_,a.inj,e,?_,a.pin⟩
 .intro b cs d;let⟨ds,h,g⟩:=a.box b cs d;exact⟨ds,by rw[f];exact h,g.mono (qcx m)⟩
 .intro id c r e1 k j i;have l:(shM m).rw.length=m.rw.length:=wx ..;exact a.rinj id c r (l▸e1) (l▸k) j i
theorem qEv{op:BinOp}{k:IntKind}{a b:Int}{d:TV->Option α}{r:α}(h:qCI op k a b d=some r):∃x z,d x=some r/\qvn op k a b=some z/\OK m x (.v z):=by
 cases op<;>simp only[qCI]at h<;>first
  |(cases h;done)
  |exact⟨_,_,h,rfl,rfl⟩
  |skip
 all_goals (
  cases c:ieq b 0 with
  |true=>rw[c]at h;cases h
  |false=>rw[c]at h;exact⟨_,_,h,by simp only[qvn,c],rfl⟩)
theorem qBY{a b:List UInt8}(h:qeV a b=true):qyM ⟨a.toArray⟩ ⟨b.toArray⟩=some ⟨(a++b).toArray⟩:=by
 have h:=wY h;unfold qyM;have e1:(⟨a.toArray⟩:ByteArray).size=a.length:=by simp[ByteArray.size]
 have c:(⟨b.toArray⟩:ByteArray).size=b.length:=by simp[ByteArray.size]
 rw[if_neg (by rw[e1,c];have:IntKind.i64.max=9223372036854775807:=rfl;omega)];congr 1
theorem qx8(a b:List UInt8):xeq ⟨a.toArray⟩ ⟨b.toArray⟩=qx a b:=by
 simp[xeq,qx]
theorem qDS(a b:List UInt8):xlt ⟨a.toArray⟩ ⟨b.toArray⟩=slt a b:=by
 simp[xlt,slt]
theorem qEF{op:BinOp}{a b:List UInt8}{d:TV->Option α}{r:α}(h:qBn op a b d=some r):∃x z,d x=some r/\qvZ op ⟨a.toArray⟩ ⟨b.toArray⟩=some z/\OK m x (.v z):=by
 cases op<;>simp only[qBn]at h<;>first
  |(cases h;done)
  |(refine⟨_,_,h,rfl,?_⟩;simp only[qx8,qDS];exact rfl)
  |skip
 cases c:qeV a b with
 |false=>rw[c]at h;cases h
 |true=>rw[c]at h;exact⟨_,_,h,by simp only[qvZ,qBY c],rfl⟩
theorem qu8{place:Nat->Option (Nat×Nat)}:∀{l:List (Nat×TV)}{c:List (Nat×AV)}{cells:List TV}{cells':List AV}{cs:List TV},
  (l.map (·.1)=c.map (·.1)/\OKL m (l.map (·.2)) (c.map (·.2)))->OKL m cells cells'->quj place cells l=some cs->∃ds,qit place cells' c=some ds/\OKL m cs ds
 |[],c,cells,cells',cs,d,e,h=>by
   have:c=[]:=by cases c with|nil=>rfl|cons a b=>simp at d
   subst this;cases h;exact⟨cells',rfl,e⟩
 |(i,x)::l,c,cells,cells',cs,d,e,h=>by
   cases c with
   |nil=>simp at d
   |cons q c=>
     let⟨j,y⟩:=q;simp only[wz,List.cons.injEq]at d;obtain⟨⟨rfl,g⟩,z,A,r,o,f⟩:=d;cases r;simp only[quj]at h;simp only[qit];split at h<;>try cases h
     rename_i off size p;split at h<;>try cases h
     rename_i k;simp only[wb,decide_eq_true_eq]at k;let⟨⟨u,t⟩,s⟩:=k;let⟨n,v⟩:=o.cells s;rw[p];have e1:(cellsOf y).length=size:=by rw[n.len];exact u
     have w:off+size<=cells'.length:=by rw[e.len];exact t
     simp only[e1,w,v,decide_true,kF];exact qu8 ⟨g,f⟩ ((e.take off).append (n.append (e.drop (off+size)))) h
theorem qdb{a:Bool}{size o:Nat}{cs:List TV}{ds:List AV}{x:TV}(b:OKL m cs ds)(h:qhR a size cs o=some x):∃y,qap a size ds o=some y/\OK m x y:=by
 unfold qhR at h;unfold qap;cases a with
 |true=>
   simp only at h |-
   split at h<;>cases h;rename_i c;rw[<-b.len]at c;rw[c];exact⟨_,rfl,_,rfl,(b.drop o).take size⟩
 |false=>exact b.get h
theorem qau(e:Rel N m E τ tm σ){y:Nat}{d:Nat}{a:Option Operand}{n:Int}(h:qcE d E a=some n)(f:d<=y)(b:inb n y=true):qay d y (a.map (aev tm))=some n.toNat:=by
 have b:=of_decide_eq_true b;cases a with
 |none=>
   simp only[qcE,wn]at h;subst h;simp[qay]
 |some x=>
   simp only[qcE]at h;split at h<;>cases h;rename_i k c;have:=e.ev x;rw[c]at this;show qpC y (aev tm x)=_;rw[this];show bnd y n=_;unfold bnd;rw[if_pos b]
theorem qe7{a:Type}{l:List a}{j:Int}{v:a}(h:qg l j=some v):0<=j/\l[j.toNat]?=some v:=by
 unfold qg at h;split at h
 .exact⟨by assumption,h⟩
 .cases h
theorem Qu{b a:Type}{x:Option b}{k:b->Option a}{r:a}(h:qb x k=some r):∃v,x=some v/\k v=some r:=by
 unfold qb at h;split at h
 .exact⟨_,rfl,h⟩
 .cases h
theorem yI{b:Bool}{x:Option α}{r:α}(h:cond b x none=some r):b=true/\x=some r:=by
 cases b with
 |true=>exact⟨rfl,h⟩
 |false=>cases h
theorem qpM{b:Bool}{x:Option α}{r:α}(h:cond b none x=some r):b=false/\x=some r:=by
 cases b with
 |true=>cases h
 |false=>exact⟨rfl,h⟩
end
end Go.AmZ
namespace Go.AmZ
open Go Go.RowKit Go.GxZ
def yW(τ:Ty)(y:AV):Option (Val τ):=match jP τ.agg (jn y)with
 |true=>qm τ (cellsOf y)
 |false=>none
section
variable {α:Type}{N:Nat×Nat}{m:Mp}{E:Env}{τ:TS}{tm:List AV}{σ:St}{K:KT α}{r:α}{p:Option (AV×Option St)}
theorem yp{a b:Ty}{l:List (Val a)}{c:List (Val b)}(h:qcc l b=some c):∃e:a=b,e▸l=c:=by
 grind [qcc]
theorem qzZ(Q:Row):qf9 Q Q.k 0 Q.c.length Q.ver=some Q.c:=by
 grind [qf9]
theorem qdm(a:zU m σ){id:Nat}{R:qu}{y:AV}(e:m.rw[id]?=some R)(h:Qp (m.r id) (m.v id) R.τ R.l y):
  (∃r Q,m.r id=some r/\y=.rs r 0 Q.c.length Q.ver false/\σ.rw[r]?=some Q/\Q.c=m.q id/\Q.ver=m.v id/\Q.k=R.τ.size/\qH (qm R.τ) Q.c=some R.l/\Q.fz<=Q.c.length/\(R.sh=false->Q.fz=0/\Q.off=false))\/
  (m.r id=none/\(R.sh=false->R.l=[])/\dlist R.τ y=some R.l/\2<=lvl y):=by
 have a:=a id R e;cases b:m.r id with
 |some r=>
   rw[b]at a h;let⟨Q,j,i,g3,g,d,f⟩:=a;refine .inl ⟨r,Q,rfl,?_,j,i,g3,g,d,f⟩;rw[qE d,g3];exact h
 |none=>
   rw[b]at a h;exact .inr ⟨rfl,a,h.1,h.2⟩
theorem qtm{a:Ty}{y:AV}{l:List (Val a)}(b:List Row)(h:dlist a y=some l):∃es,elems b a.size y=some es/\qH (qm a) es=some l/\dlist a (qB b y)=some l:=by
 obtain⟨rfl,c⟩|⟨es,n,rfl,c⟩:=zN h
 .rw[c];exact⟨[],rfl,rfl,rfl⟩
 .refine⟨es,by simp only[elems,qJ,decide_true],c,?_⟩;show dlist _ (.sl _ es 1)=_;grind [dlist,yd,qJ]
theorem qjr(i:zU m σ){a:Ty}{x:TV}{y:AV}{l:List (Val a)}(h:qhI m.rw a x=some l)(d:OK m x y):
  ∃es,elems σ.rw a.size y=some es/\qH (qm a) es=some l/\dlist a (qB σ.rw y)=some l:=by
 unfold qhI at h;split at h
 .cases h;cases d;exact⟨[],rfl,rfl,rfl⟩
 .obtain⟨e,rfl⟩:=yp h;subst e;exact qtm _ d.1
 .rename_i id b;split at h<;>try cases h
  rename_i R f;split at h<;>try cases h
  rename_i c;have c:R.ver=b:=wg c;obtain⟨e,rfl⟩:=yp h;subst e;let⟨R',g,_,_,j⟩:=d;rw[f]at g;cases g;obtain⟨r,Q,_,rfl,p,_,_,o,n,_⟩|⟨_,_,k,_⟩:=qdm i f (j c)
  .grind [elems,qB,dlist,yd,qJ,qzZ,decide_true]
  .exact qtm _ k
 .cases h
theorem qax(j:zU m σ):∀(a:Ty) {cs:List TV}{v:Val a}{r:List TV}{ds:List AV},qeY m.rw a cs=some (v,r)->OKL m cs ds->∃d,zF a (ds.map (qB σ.rw))=some (v,d.map (qB σ.rw))/\OKL m r d
 |.int k,cs,v,r,ds,h,c=>by
   change qCQ k cs=_ at h;unfold qCQ at h;split at h<;>try cases h
   split at h<;>cases h;rename_i A;obtain⟨y,d,rfl,f,g⟩:=c;cases f;exact⟨d,by show Qg _ _=_;simp only[wz,qB,Qg,A],g⟩
 |.bool,cs,v,r,ds,h,c=>by
   change qzl cs=_ at h;unfold qzl at h;split at h<;>cases h;obtain⟨y,d,rfl,f,g⟩:=c;cases f;exact⟨d,rfl,g⟩
 |.str,cs,v,r,ds,h,c=>by
   change qB2 cs=_ at h;unfold qB2 at h;split at h<;>cases h;obtain⟨y,d,rfl,f,g⟩:=c;cases f;exact⟨d,by show qav _=_;simp only[wz,qB,qav],g⟩
 |.term,cs,v,r,ds,h,c=>by
   change qyy _ cs=_ at h;unfold qyy at h;split at h<;>try cases h
   split at h<;>cases h;rename_i i;obtain⟨y1,w,rfl,s,y2,G,rfl,q,y3,F,rfl,p,y4,t,rfl,o,g⟩:=c;cases s;cases q;cases p;let⟨es,_,_,l⟩:=qjr j i o;rw[qfX]at l;refine⟨t,?_,g⟩;show Qq (.v (.int .i64 _)::.v (.string ⟨_⟩)::.v (.int .i64 _)::qB σ.rw y4::t.map (qB σ.rw))=_;grind [Qq,jR]
 |.list a,cs,v,r,ds,h,c=>by
   change qzr _ cs=_ at h;unfold qzr at h;split at h<;>try cases h
   split at h<;>cases h;rename_i i;obtain⟨y,d,rfl,f,g⟩:=c;let⟨es,_,_,l⟩:=qjr j i f;have l:yd a.size (λ e=>full (zF a e)) (qB σ.rw y)=some v:=l;exact⟨d,by show zG _ _=_;simp only[wz,zG,l],g⟩
 |.pair a b,cs,v,r,ds,h,c=>by
   let⟨w,C,B⟩:=jq.1 h;let⟨u,E,D⟩:=qax j a C c;let⟨n,z,x⟩:=qax j b B D;exact⟨n,jq.2 ⟨_,E,z⟩,x⟩
 |.one a,cs,v,r,ds,h,c=>qax j a h c
 |.map a b,cs,v,r,ds,h,c=>by
   change qBz a b cs=_ at h;unfold qBz at h;split at h<;>try cases h
   split at h<;>cases h;rename_i i;obtain⟨y,d,rfl,f,g⟩:=c;unfold quh at i;split at i<;>cases i;rename_i e;obtain⟨rfl,rfl⟩:=e;have f:dMc _ _ _ _ y=some _:=f;obtain⟨ks,vs,rfl,_⟩:=qae f;exact⟨d,by show zG (dMc _ _ (qm _) (qm _)) _=_;simp only[wz,qB,zG,f],g⟩
theorem qbY{a:Type}{x:Option (a×List TV)}{v:a}(h:qh3 x=some v):x=some (v,[]):=by
 unfold qh3 at h;grind
theorem qjz(rw:List Row){y:AV}(h:jn y=false):jn (yb rw y)=false/\cellsOf (yb rw y)=[qB rw y]/\cellsOf y=[y]:=by
 cases y with
 |agg cs=>cases h
 |rs r lo n a f=>
   grind [yb,qB,jn,cellsOf]
 |_=>exact⟨rfl,rfl,rfl⟩
theorem qdl(hq:zU m σ){a:Ty}{x:TV}{y:AV}{v:Val a}(h:J5 m.rw a x=some v)(ho:OK m x y) :
  yW a (yb σ.rw y)=some v/\qm a ((cellsOf y).map (qB σ.rw))=some v:=by
 unfold J5 at h;split at h
 case h_2=>cases h
 rename_i hb;have hb:a.agg=qp5 x:=by simpa[jP]using hb
 have h:=qbY h
 have key:OKL m (yv x) (cellsOf y)->qm a ((cellsOf y).map (qB σ.rw))=some v:=by
  intro hc;obtain⟨rs,g1,g2⟩:=qax hq a h hc;cases g2;exact qy.2 g1
 by_cases hx:qp5 x=true
 ·cases x with
  | agg cs =>
    obtain⟨ds,rfl,hd⟩:=ho;refine⟨?_,key hd⟩;unfold yW;rw[hb];exact key hd
  | _=>cases hx
 ·have hx:qp5 x=false:=by simpa using hx
  have hct:yv x=[x]:=by cases x<;>first | rfl | (cases hx)
  have hy:jn y=false:=by
   cases x with
   | agg cs=>cases hx
   | i=>cases ho;rfl
   | b=>cases ho;rfl
   | s=>cases ho;rfl
   | c=>obtain⟨_,rfl⟩:=ho;rfl
   | nil=>cases ho;rfl
   | sl τ l lv =>
     obtain⟨ho,_⟩:=ho;rcases zN ho with⟨rfl,_⟩ | ⟨es,n,rfl,_⟩<;>rfl
   | row id ver =>
     obtain⟨R,_,_,ho,_⟩:=ho;rcases ho with rfl | ⟨k,es,j,rfl⟩ | ⟨r,lo,n,ep,f,rfl⟩<;>rfl
   | ptr b o=>obtain⟨_,rfl⟩:=ho;rfl
   | pti b i=>obtain⟨_,_,rfl⟩:=ho;rfl
   | rpt id ver sv i cs o=>obtain⟨R,_,_,_,ho,_⟩:=ho;rcases ho with⟨r,i,ep,rfl⟩ | ⟨ds,rfl⟩<;>rfl
   | ept cs o=>obtain⟨ds,rfl,_⟩:=ho;rfl
   | fn f cs=>obtain⟨ds,rfl,_⟩:=ho;rfl
   | tup cs=>obtain⟨ds,rfl,_⟩:=ho;rfl
   | mp b=>obtain⟨_,rfl⟩:=ho;rfl
   | mc=>obtain⟨ks,vs,rfl,_⟩:=qae ho;rfl
   | dead =>
     exfalso;rw[hct]at h;have hag:a.agg=false:=by rw[hb];rfl
     cases a with
     | int k=>cases h
     | bool=>cases h
     | str=>cases h
     | list a=>cases h
     | map a b=>cases h
     | term=>cases hag
     | pair a b=>cases hag
     | one a=>cases hag
  obtain⟨e1,e2,e3⟩:=qjz σ.rw hy;have hc:OKL m (yv x) (cellsOf y):=by rw[hct,e3];exact⟨y,[],rfl,ho,rfl⟩
  grind [yW]
theorem qod{x:TV}{y:AV}(a:OK m x y)(h:qiv x=true):rsC y=[]/\jn y=false:=by
 cases x with
 |i|b|s=>cases a;exact⟨rfl,rfl⟩
 |c=>obtain⟨_,rfl⟩:=a;exact⟨rfl,rfl⟩
 |nil=>cases a;exact⟨rfl,rfl⟩
 |sl τ l d=>
   let⟨a,_⟩:=a;obtain⟨rfl,_⟩|⟨es,n,rfl,_⟩:=zN a<;>exact⟨rfl,rfl⟩
 |fn f cs=>obtain⟨ds,rfl,_⟩:=a;exact⟨rfl,rfl⟩
 |mc=>obtain⟨ks,vs,rfl,_⟩:=qae a;exact⟨rfl,rfl⟩
 |_=>cases h
theorem qfe:∀{xs:List TV}{ys:List AV},OKL m xs ys->xs.all qiv=true->ys.flatMap rsC=[]
 |[],_,h,_=>by cases h;rfl
 |x::xs,_,⟨y,r,rfl,b,a⟩,h=>by
   rw[ke,wb]at h;rw[k8,(qod b h.1).1,qfe a h.2];rfl
theorem qEa{y:AV}(b:rsC y=[])(a:jn y=false):rsA y=[]:=by
 cases y<;>first|(cases a;done)|exact b
theorem qmU{x:TV}{y:AV}(h:qiE x=true)(c:OK m x y):rsA y=[]:=by
 cases x with
 |agg cs=>
   obtain⟨ds,rfl,d⟩:=c;exact qfe d h
 |_=>let⟨a,b⟩:=qod c h;exact qEa a b
theorem qom:∀{xs:List TV}{ys:List AV},xs.all qiE=true->OKL m xs ys->ys.flatMap rsA=[]
 |[],_,_,h=>by cases h;rfl
 |x::xs,_,h,⟨y,r,rfl,b,a⟩=>by
   rw[ke,wb]at h;rw[k8,qmU h.1 b,qom h.2 a];rfl
theorem qv0(c:zU m σ){a:Ty}:∀{xs:List TV}{ys:List AV}{vs:List (Val a)},qnq m.rw a xs=some vs->OKL m xs ys->
  qH (qm a) (ys.map λ y=>(cellsOf y).map (qB σ.rw))=some vs
 |[],ys,vs,h,e=>by cases e;cases h;rfl
 |x::xs,ys,vs,h,⟨y,r,f,i,g⟩=>by
   subst f;simp only[qnq]at h;split at h<;>try cases h
   rename_i v d;split at h<;>cases h;rename_i vs b;exact zY.2 ⟨v,vs,(qdl c d i).2,qv0 c b g,rfl⟩
end
end Go.AmZ
namespace Go.AmZ
open Go Go.RowKit Go.GxZ
def Mp.add(m:Mp)(R:qu)(ro:Option Nat)(vo:Nat)(qo:List (List AV)):Mp:=
 ⟨m.b,m.nb,λ i=>if i=m.rw.length then ro else m.r i,λ i=>if i=m.rw.length then vo else m.v i,λ i=>if i=m.rw.length then qo else m.q i,m.rw++[R]⟩
def Mp.upd(m:Mp)(id:Nat)(R:qu)(ro:Option Nat)(vo:Nat)(qo:List (List AV)):Mp:=
 ⟨m.b,m.nb,λ i=>if i=id then ro else m.r i,λ i=>if i=id then vo else m.v i,λ i=>if i=id then qo else m.q i,m.rw.set id R⟩
section
variable {α:Type}{N:Nat×Nat}{m:Mp}{E:Env}{τ:TS}{tm:List AV}{σ:St}{K:KT α}{r:α}{p:Option (AV×Option St)}{c:TC}{C:Cfg}{R R2:qu}{ro:Option Nat}{vo:Nat}{qo:List (List AV)}{id:Nat}
theorem qlu(m:Mp)(R:qu)(ro:Option Nat)(vo:Nat)(qo:List (List AV)):MLe m (m.add R ro vo qo):=by
 refine⟨wa _,λ i _=>rfl,λ id R' h=>?_⟩;have b:=getElem?_lt h;have a:¬ id=m.rw.length:=ve b;exact⟨R',by show(m.rw++_)[id]?=_;rw[List.getElem?_append_left b];exact h,wa _,wa _,λ _=>⟨rfl,if_neg a,if_neg a,rfl,λ _=>if_neg a,λ _ _ h=>h⟩⟩
theorem Qm.later{σ':St}(h:Qm σ R ro vo qo)(a:∀r Q,ro=some r->σ.rw[r]?=some Q->σ'.rw[r]?=some Q):Qm σ' R ro vo qo:=by
 cases ro with
 |none=>exact h
 |some r=>
   let⟨Q,c,b⟩:=h;exact⟨Q,a r Q rfl c,b⟩
theorem qkc{σ':St}(d:zU m σ)(f:Qm σ' R ro vo qo)(e:∀(r:Nat) (Q:Row),σ.rw[r]?=some Q->σ'.rw[r]?=some Q):zU (m.add R ro vo qo) σ':=by
 intro id R' a;change (m.rw++[R])[id]?=some R' at a;show Qm σ' R' (if id=m.rw.length then ro else m.r id) (if id=m.rw.length then vo else m.v id) (if id=m.rw.length then qo else m.q id);by_cases c:id=m.rw.length
 .grind
 .rw[if_neg c,if_neg c,if_neg c];have b:id<m.rw.length:=by have:=getElem?_lt a;simp at this;omega
  rw[List.getElem?_append_left b]at a;exact(d id R' a).later λ r Q _ h=>e r Q h
theorem qzI(k:m.rw[id]?=some R)(n:R.ver<=R2.ver)(o:R.sv<=R2.sv)(p:R2.ver=R.ver->R2.l.length=R.l.length/\ro=m.r id/\vo=m.v id/\R2.τ=R.τ/\(R2.sv=R.sv->qo=m.q id)/\(m.r id=none->∀y,dlist R.τ y=some R.l->dlist R2.τ y=some R2.l)):MLe m (m.upd id R2 ro vo qo):=by
 have j:=getElem?_lt k;refine⟨wa _,λ i _=>rfl,λ i R' h=>?_⟩;by_cases g:i=id
 .subst g;rw[k]at h;cases h;refine⟨R2,by show(m.rw.set i R2)[i]?=_;rw[List.getElem?_set_self j],n,o,λ h=>?_⟩;let⟨a,b,c,d,e,f⟩:=p h;exact⟨a,(if_pos rfl).trans b,(if_pos rfl).trans c,d,λ h=>(if_pos rfl).trans (e h),f⟩
 .exact⟨R',by show(m.rw.set id R2)[i]?=_;rw[List.getElem?_set_ne (xw g)];exact h,wa _,wa _,λ _=>⟨rfl,if_neg g,if_neg g,rfl,λ _=>if_neg g,λ _ _ h=>h⟩⟩
theorem quq{σ':St}(j:m.rw[id]?=some R)(d:zU m σ)(k:Qm σ' R2 ro vo qo)(e:∀a r Q,a≠id->a<m.rw.length->m.r a=some r->σ.rw[r]?=some Q->σ'.rw[r]?=some Q):zU (m.upd id R2 ro vo qo) σ':=by
 have f:=getElem?_lt j;intro i R' c;change (m.rw.set id R2)[i]?=some R' at c;show Qm σ' R' (if i=id then ro else m.r i) (if i=id then vo else m.v i) (if i=id then qo else m.q i);by_cases b:i=id
 .grind
 .rw[if_neg b,if_neg b,if_neg b];rw[List.getElem?_set_ne (xw b)]at c;exact(d i R' c).later λ r Q h g=>e i r Q b (getElem?_lt c) h g
theorem Rel.to{m':Mp}{d:List qu}{σ':St}(c:Rel N m E τ tm σ)(a:MLe m m')(n:m'.rw=d)(h:m'.nb=m.nb)(g:m'.b=m.b)(l:σ'.bx=σ.bx)(j:zU m' σ')
  (k:∀i e r,i<m'.rw.length->e<m'.rw.length->m'.r i=some r->m'.r e=some r->i=e):Rel N m' E {τ with rw:=d} tm σ':=by
 refine⟨c.len,λ t=>(c.env t).mono a,n,by rw[h];exact c.nb,?_,by rw[h,g];exact c.inj,j,k,qos a c.pin⟩;intro b cs f;let⟨ds,p,o⟩:=c.box b cs f;exact⟨ds,by rw[l,g];exact p,o.mono a⟩
theorem Rel.row_lt(a:Rel N m E τ tm σ){id r:Nat}(h:id<m.rw.length)(b:m.r id=some r):r<σ.rw.length:=by
 have:=a.rows id _ (List.getElem?_eq_getElem h);rw[b]at this;let⟨Q,c,_⟩:=this;exact getElem?_lt c
theorem Rel.rowAdd{σ':St}(b:Rel N m E τ tm σ)(R:qu)(ro:Option Nat)(vo:Nat)(qo:List (List AV))(j:σ'.bx=σ.bx)(h:Qm σ' R ro vo qo)(i:∀(r:Nat) (Q:Row),σ.rw[r]?=some Q->σ'.rw[r]?=some Q)(e:∀r,ro=some r->σ.rw.length<=r){y:AV}(d:Qp ro vo R.τ R.l y)(k:R.ver=0):
  ∃m',MLe m m'/\Rel N m' E {τ with rw:=τ.rw++[R]} tm σ'/\OK m' (.row τ.rw.length 0) y:=by
 refine⟨m.add R ro vo qo,qlu _ _ _ _ _,b.to (qlu _ _ _ _ _) (by show m.rw++_=_;rw[b.rw]) rfl rfl j (qkc b.rows h i) ?_,?_⟩
 .intro id a r g f e1 c;change id<(m.rw++[_]).length at g;change a<(m.rw++[_]).length at f;change (if id=m.rw.length then ro else m.r id)=some r at e1;change (if a=m.rw.length then ro else m.r a)=some r at c;simp at g f;split at e1<;>split at c
  .omega
  .have:=b.row_lt (by omega) c;have:=e r e1;omega
  .have:=b.row_lt (by omega) e1;have:=e r c;omega
  .exact b.rinj id a r (by omega) (by omega) e1 c
 .refine⟨R,?_,wh _,d.ish,λ _=>?_⟩
  .show(m.rw++_)[τ.rw.length]?=_;rw[b.rw];simp
  .show Qp (if τ.rw.length=m.rw.length then ro else m.r τ.rw.length) (if τ.rw.length=m.rw.length then vo else m.v τ.rw.length) _ _ y;rw[if_pos (by rw[b.rw]),if_pos (by rw[b.rw])];exact d
theorem Rel.rowNew(b:Rel N m E τ tm σ){a:Ty}{es:List (List AV)}{l:List (Val a)}(c:qH (qm a) es=some l):
  ∃m',MLe m m'/\Rel N m' E {τ with rw:=τ.rw++[⟨a,l,0,0,false⟩]} tm {σ with rw:=σ.rw++[⟨a.size,es,0,0,false⟩]}/\OK m' (.row τ.rw.length 0) (.rs σ.rw.length 0 l.length 0 false):=
 b.rowAdd (σ':={σ with rw:=σ.rw++[⟨a.size,es,0,0,false⟩]}) ⟨a,l,0,0,false⟩ (some σ.rw.length) 0 es rfl ⟨⟨a.size,es,0,0,false⟩,by show(σ.rw++[_])[σ.rw.length]?=_;simp,rfl,rfl,rfl,c,wh _,λ _=>⟨rfl,rfl⟩⟩
  (λ r Q h=>by show(σ.rw++_)[r]?=_;rw[List.getElem?_append_left (getElem?_lt h)];exact h) (λ r h=>by cases h;exact wa _) rfl rfl
theorem Rel.rowUpd(c:Rel N m E τ tm σ)(B:τ.rw[id]?=some R)(ro:Option Nat)(vo:Nat)(qo:List (List AV))(n:R.ver<=R2.ver)(o:R.sv<=R2.sv)(t:R2.ver=R.ver->R2.l.length=R.l.length/\ro=m.r id/\vo=m.v id/\R2.τ=R.τ/\(R2.sv=R.sv->qo=m.q id)/\(m.r id=none->∀y,dlist R.τ y=some R.l->dlist R2.τ y=some R2.l)){σ':St}(u:σ'.bx=σ.bx)(p:Qm σ' R2 ro vo qo)
  (s:∀a r,a≠id->a<m.rw.length->m.r a=some r->ro≠some r/\∀Q,σ.rw[r]?=some Q->σ'.rw[r]?=some Q):
  ∃m',MLe m m'/\Rel N m' E {τ with rw:=τ.rw.set id R2} tm σ'/\(∀y,Qp ro vo R2.τ R2.l y->OK m' (.row id R2.ver) y):=by
 have b:m.rw[id]?=some R:=by rw[c.rw];exact B
 have f:=getElem?_lt b;have d:MLe m (m.upd id R2 ro vo qo):=qzI b n o t;refine⟨m.upd id R2 ro vo qo,d,c.to d (by show m.rw.set id R2=_;rw[c.rw]) rfl rfl u (quq b c.rows p λ a r Q A z x w=>(s a r A z x).2 Q w) ?_,λ y k=>?_⟩
 .intro i e r h g e1 j;change i<(m.rw.set id R2).length at h;change e<(m.rw.set id R2).length at g;change (if i=id then ro else m.r i)=some r at e1;change (if e=id then ro else m.r e)=some r at j;simp at h g;split at e1<;>split at j
  .omega
  .grind
  .grind
  .exact c.rinj i e r h g e1 j
 .refine⟨R2,?_,wa _,k.ish,λ _=>?_⟩
  .show(m.rw.set id R2)[id]?=_;rw[List.getElem?_set_self f]
  .show Qp (if id=id then ro else m.r id) (if id=id then vo else m.v id) _ _ y;grind
theorem Rel.others(c:Rel N m E τ tm σ)(h:τ.rw[id]?=some R){rr:Nat}(b:m.r id=some rr){a r:Nat}(g:a≠id)(f:a<m.rw.length)(e:m.r a=some r):r≠rr:=λ d=>
 g (c.rinj a id rr f (by rw[c.rw];exact getElem?_lt h) (d▸e) b)
theorem qte{a:Type}{f:List AV->Option a}:∀{es:List (List AV)}{l:List a},qH f es=some l->∀(j:Nat) {e:List AV}{v:a},f e=some v->qH f (es.set j e)=some (l.set j v)
 |[],l,h,j,e,v,b=>by cases h;rfl
 |g::es,l,h,j,e,v,b=>by
   obtain⟨w,vs,d,c,rfl⟩:=zY.1 h;cases j with
   |zero=>exact zY.2 ⟨v,vs,b,c,rfl⟩
   |succ j=>exact zY.2 ⟨w,vs.set j v,d,qte c j b,rfl⟩
theorem qsS{a:Type}{f:List AV->Option a}{e:List AV}{v:a}(h:f e=some v):∀n:Nat,qH f (List.replicate n e)=some (List.replicate n v)
 |0=>rfl
 |n+1=>zY.2 ⟨v,_,h,qsS h n,rfl⟩
end
end Go.AmZ
