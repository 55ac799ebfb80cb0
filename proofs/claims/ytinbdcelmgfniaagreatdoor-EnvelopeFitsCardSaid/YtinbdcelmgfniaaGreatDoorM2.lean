/- Part 2 of what the proofs stand on: plain functions of the program, and that they are its functions. -/
import Derived.Test.YtinbdcelmgfniaaGreatDoorM1
set_option linter.unusedVariables false
set_option linter.unusedSimpArgs false
noncomputable section
namespace Go.AmZ
open Go Go.RowKit
theorem qAx: ∀r a,∃t,QX r a=a++t
 |[],a=>⟨[],by simp[QX]⟩
 |o::r,a=>by
   let⟨t,b⟩:=qAx r (a++[qrO a o]);grind [QX]
theorem qBi: ∀r a k o,r[k]?=some o->(QX r a).getD (a.length+k) 0=qrO ((QX r a).take (a.length+k)) o
 |[],a,k,o,h=>by simp at h
 |q::r,a,0,o,h=>by
   let⟨t,b⟩:=qAx r (a++[qrO a q]);grind [QX]
 |q::r,a,k+1,o,h=>by
   rw[QX];have:=qBi r (a++[qrO a q]) k o (by grind);grind
theorem qGd(a:List Nat)(j):∀(xs:List Nat) m,(xs.foldl (λ m e=>m|||(2^e|||a.getD e 0)) m).testBit j=true->m.testBit j=true\/∃e∈xs,e=j\/(a.getD e 0).testBit j=true
 |[],m,h=>.inl h
 |e::xs,m,h=>by
   obtain h|⟨c,b,h⟩:=qGd a j xs _ h
   .grind
   .grind
theorem qO1{ops i j o}(ho:ops[i]?=some o)(h:((QX ops []).getD i 0).testBit j=true):∃e∈jF o,e=j\/(e<i/\((QX ops []).getD e 0).testBit j=true):=by
 have a:=qBi ops [] i o ho;simp only[wT,wG]at a;rw[a]at h;obtain h|⟨e,b,h⟩:=qGd _ _ _ _ h
 .simp at h
 .grind
section
variable {P:Program}{C:Cfg}{Γ:Gh}{σ:St}{w:World}{ops:Array Oper}{ex:QG}{l:List (AV×Option St)}{s0:S}{L:Nat->Bool}
def qcK(ops:Array Oper)(L:Nat->Bool):Prop:=∀i o,ops[i]?=some o->L i=true->∀e∈jF o,L e=true
theorem qk3(hd:qcK ops L){j}:∀i o,ops[i]?=some o->(∀e∈jF o,L e=true)->((QX ops.toList []).getD i 0).testBit j=true->L j=true:=by
 intro i
 induction i using Nat.strongRecOn with
 |_ i f=>
   intro o ho hp g;obtain⟨e,d,h⟩:=qO1 (by simpa using ho) g;rcases h with rfl|⟨b,c⟩
   .exact hp _ d
   .have a:=Nat.lt_trans b (Array.getElem?_eq_some_iff.1 ho).1;exact f e b ops[e] (Array.getElem?_eq_getElem a) (hd e _ (Array.getElem?_eq_getElem a) (hp e d)) c
theorem qjr{raw tm}(h:qb6 raw tm ops=true):(∀j o,ops[j]?=some o->∀e∈jF o,e<j)/\
  ∀i j o q,ops[j]?=some o->ops[i]?=some q->i≠j->qj1 raw tm ops j o i q=true->((QX ops.toList []).getD (max i j) 0).testBit (min i j)=true:=by
 have a:∀i o,ops[i]?=some o->(o,i)∈ops.toList.zipIdx:=λ i o ho=>by
  grind
 grind [qb6]
theorem qyO(hd:qcK ops L){i j o q}(ho:ops[j]?=some o)(d:ops[i]?=some q)(f:i≠j)(a:((QX ops.toList []).getD (max i j) 0).testBit (min i j)=true)(hL:L j=false)(hp:∀e∈jF o,L e=true):(i<j->L i=true)/\(j<i->L i=false):=by
 constructor
 .grind [Nat.max_eq_right,Nat.le_of_lt,Nat.min_eq_left,qk3]
 .intro b;rw[Nat.max_eq_left (xl b),Nat.min_eq_right (xl b)]at a;cases c:L i with
  |false=>rfl
  |true=>
    have:=qk3 hd i q d (hd i q d c) a;rw[hL]at this;cases this
theorem ord{raw tm}(hk:qb6 raw tm ops=true)(hd:qcK ops L){i j o q}(ho:ops[j]?=some o)(b:ops[i]?=some q)(a:i≠j)(c:qj1 raw tm ops j o i q=true)(hL:L j=false)(hp:∀e∈jF o,L e=true):(i<j->L i=true)/\(j<i->L i=false):=by
 exact qyO hd ho b a ((qjr hk).2 i j o q ho b a c) hL hp
structure qdS (C:Cfg) (ex:QG) (ops:Array Oper) (l:List (AV×Option St)) (s0:S):Prop where
 st:∀(i:Nat) (o:Oper),ops[i]?=some o->∃y,l[i]?=some y/\qbx C ex ops o (F ops.toList l s0 qp i) y/\(y.2.isSome=true->zm C.lo o.op=true)
 sp:∀(i:Nat) (o:Oper) (y:AV×Option St),ops[i]?=some o->l[i]?=some y->y.2.isSome=true->qc2 C ops i (F ops.toList l s0 qp i).tm (F ops.toList l s0 qp i).σ o.op=true
theorem qsO(d:∀i o,ops.toList[i]?=some o->∃y,l[i]?=some y/\qbx C ex ops o (F ops.toList l s0 qp i) y/\(y.2.isSome=true->zm C.lo o.op=true))(c:∀i o y,ops.toList[i]?=some o->l[i]?=some y->y.2.isSome=true->qc2 C ops (ops.size-(ops.toList.length-i)) (F ops.toList l s0 qp i).tm (F ops.toList l s0 qp i).σ o.op=true):qdS C ex ops l s0:=
 ⟨λ i o ho=>d i o (by grind),λ i o y ho a b=>by
  have:=c i o y (by grind) a b;have e:=(Array.getElem?_eq_some_iff.1 ho).1
  rwa [wR,show ops.size-(ops.size-i)=i by omega]at this⟩
def qu9(C:Cfg)(ops:Array Oper)(l:List (AV×Option St)):Prop:=
 ∀(i:Nat) (o:Oper),ops[i]?=some o->∃y,l[i]?=some y/\(y.2.isSome=true->zm C.lo o.op=true)
theorem qdS.recd(h:qdS C ex ops l s0):qu9 C ops l:=λ i o ho=>let⟨y,h1,_,h3⟩:=h.st i o ho;⟨y,h1,h3⟩
theorem qmg(s o y t)(h:o.dst≠some t):(yh s o y).tm.getD t .dead=s.tm.getD t .dead:=by
 unfold yh;cases hd:o.dst with
 |none=>rfl
 |some d=>
   show(s.tm.set d y.1).getD t .dead=_;grind
theorem qPa(s o y):(yh s o y).tm.length=s.tm.length:=by
 unfold yh;cases hd:o.dst with
 |none=>rfl
 |some d=>exact wI ..
theorem qtq(s o y t)(h:o.dst=some t):(yh s o y).tm.getD t .dead=if t<s.tm.length then y.1 else .dead:=by
 unfold yh;rw[h];show(s.tm.set t y.1).getD t .dead=_;grind
theorem putS_σ(s o y)(h:y.2=none):(yh s o y).σ=s.σ:=by
 unfold yh;rw[h];rfl
theorem qKK(s o q y z)(hd:∀d,q.dst=some d->o.dst≠some d)(a:y.2=none\/z.2=none):yh (yh s o y) q z=yh (yh s q z) o y:=by
 unfold yh;congr 1
 .cases ho:o.dst with
  |none=>rfl
  |some d=>
    cases b:q.dst with
    |none=>rfl
    |some e=>
      show(s.tm.set d y.1).set e z.1=(s.tm.set e z.1).set d y.1;grind [List.set_comm]
 .obtain h|h:=a
  .rw[h];rfl
  .rw[h];rfl
theorem JE(hT:qu9 C ops l){k q}(a:ops[k]?=some q):∃y,l[k]?=some y/\(y.2.isSome=true->zm C.lo q.op=true)/\∀L,F ops.toList l s0 L (k+1)=if L k=true then yh (F ops.toList l s0 L k) q y else F ops.toList l s0 L k:=by
 let⟨y,c,b⟩:=hT k q a;grind [F]
theorem qCP(L):∀k,(F ops.toList l s0 L k).tm.length=s0.tm.length
 |0=>rfl
 |k+1=>by
   simp[F];split
   .rw[qPa];exact qCP L k
   .exact qCP L k
theorem qCM{L'}:∀k,(∀i,i<k->L i=L' i)->F ops.toList l s0 L k=F ops.toList l s0 L' k
 |0,_=>rfl
 |k+1,h=>by
   simp[F];rw[qCM k λ i a=>h i (by omega),h k (by omega)]
theorem jo{k}(h:k<ops.size):∃q,ops[k]?=some q:=⟨ops[k],Array.getElem?_eq_getElem h⟩
theorem ql0{t}(h:qd1 ops.toList t=[]){k:Nat}{q}(b:ops[k]?=some q):q.dst≠some t:=by
 intro hd;have a:(q,k)∈ops.toList.zipIdx:=by grind
 have:(q,k)∈qd1 ops.toList t:=kJ.2 ⟨a,by simp[qnu,hd]⟩;rw[h]at this;cases this
theorem qt7{t o i}(h:qd1 ops.toList t=[(o,i)]):ops[i]?=some o/\o.dst=some t/\∀k q,ops[k]?=some q->k≠i->q.dst≠some t:=by
 have d:(o,i)∈qd1 ops.toList t:=by grind
 let⟨a,f⟩:=kJ.1 d;rw[vV]at a;refine⟨by simpa using a,?_,λ k q e b hd=>?_⟩
 .grind [qnu,Nat.eq_of_beq_eq_true]
 .have c:(q,k)∈ops.toList.zipIdx:=by grind
  have:(q,k)∈qd1 ops.toList t:=kJ.2 ⟨c,by simp[qnu,hd]⟩;grind
theorem qjT(hT:qu9 C ops l){t a b}(h:∀k q,a<=k->ops[k]?=some q->q.dst≠some t):a<=b->b<=ops.size->(F ops.toList l s0 L b).tm.getD t .dead=(F ops.toList l s0 L a).tm.getD t .dead:=by
 intro f
 induction b with
 |zero=>
   grind
 |succ b i=>
   intro d;by_cases e:a=b+1
   .rw[e]
   .obtain⟨q,c⟩:=jo (ops:=ops) (k:=b) (by omega);obtain⟨y,_,_,g⟩:=JE hT c;rw[g];grind [qmg]
theorem qpr(hT:qdS C ex ops l s0){k t b}(hk:k<=ops.size)(h:yY s0.tm ops k t=some b):(∃ o,(F ops.toList l s0 qp k).tm.getD t .dead = .ptr b o)\/(F ops.toList l s0 qp k).tm.getD t .dead = .tup []\/(F ops.toList l s0 qp k).tm.getD t .dead = .dead:=by
 unfold yY at h;split at h
 case h_2=>cases h
 rename_i u hu;split at h<;>cases h;rename_i off hb
 have key:∀ n k t,k<=ops.size->qnz ops n k t=some u->(∃ o,(F ops.toList l s0 qp k).tm.getD t .dead = .ptr b o)\/(F ops.toList l s0 qp k).tm.getD t .dead = .tup []\/(F ops.toList l s0 qp k).tm.getD t .dead = .dead:=by
  intro n
  induction n with
  | zero=>intro k t _ h;cases h
  | succ n ih =>
    intro k t hk hu;rw[qnz]at hu;split at hu
    ·rename_i hw;cases hu;left;refine⟨off,?_⟩;rw[qjT hT.recd (λ k q _ hq=>ql0 hw hq) (wg _) hk];exact hb
    ·rename_i o i hw;obtain⟨ho,hd,hother⟩:=qt7 hw;split at hu
     case h_2=>cases hu
     rename_i u' hop hik;have hik:=of_decide_eq_true hik;have hv:=ih i u' (by omega) hu;rw[qjT hT.recd (a:=i+1) (λ k q hle hq=>hother k q hq (by omega)) (by omega) hk];obtain⟨y,h1,h2,_⟩:=hT.st i o ho;obtain⟨z,h3,_,hF⟩:=JE hT.recd ho;rw[h1]at h3;cases h3;rw[hF,if_pos (show qp i=true from rfl),qtq _ _ _ _ hd];split
     ·rcases h2 with⟨_,h2⟩ | ⟨_,h2⟩
      ·unfold qNQ at hop;split at hop<;>cases hop
       ·rename_i e;rw[e]at h2;simp[opA,qc]at h2;split at h2<;>try cases h2
        split at h2<;>try cases h2
        split at h2<;>try cases h2
        have hav:aev (F ops.toList l s0 qp i).tm (.tmp u')=(F ops.toList l s0 qp i).tm.getD u' .dead:=rfl;rw[hav]at h2;rcases hv with⟨o',hv⟩ | hv | hv<;>rw[hv]at h2<;>cases h2
        exact .inl ⟨_,rfl⟩
       ·rename_i e;rw[e]at h2;cases h2;exact hv
       ·rename_i e;rw[e]at h2;cases h2;exact hv
       ·rename_i e;rw[e]at h2;simp[opA,qc]at h2;have hav:aev (F ops.toList l s0 qp i).tm (.tmp u')=(F ops.toList l s0 qp i).tm.getD u' .dead:=rfl;rw[hav]at h2;rcases hv with⟨o',hv⟩ | hv | hv<;>rw[hv]at h2<;>cases h2
        exact .inl ⟨_,rfl⟩
      ·rw[h2];exact .inr (.inl rfl)
     ·exact .inr (.inr rfl)
    ·cases hu
 exact key 6 k t hk hu
theorem qMH(hT:qdS C ex ops l s0){k i t b}(hk:k<=ops.size)(h:yY s0.tm ops i t=some b):yY (F ops.toList l s0 qp k).tm ops i t=some b:=by
 unfold yY at h |-
 split at h
 case h_2=>cases h
 rename_i u hu
 have key:∀ n i t,qnz ops n i t=some u->qd1 ops.toList u=[]:=by
  intro n
  induction n with
  | zero=>intro i t h;cases h
  | succ n ih =>
    intro i t h;rw[qnz]at h;split at h
    ·rename_i hw;cases h;exact hw
    ·split at h
     ·exact ih _ _ h
     ·cases h
    ·cases h
 rw[qjT hT.recd (λ k q _ hq=>ql0 (key 6 i t hu) hq) (wg _) hk];exact h
theorem qO2(hT:qdS C ex ops l s0){k t}(hk:k<=ops.size)(h:qdO s0.tm ops k t=true):qNL ((F ops.toList l s0 qp k).tm.getD t .dead)=true\/(F ops.toList l s0 qp k).tm.getD t .dead = .tup []\/(F ops.toList l s0 qp k).tm.getD t .dead = .dead:=by
 unfold qdO at h;split at h
 case h_2=>cases h
 rename_i u hu
 have key:∀ n k t,k<=ops.size->qnz ops n k t=some u->qNL ((F ops.toList l s0 qp k).tm.getD t .dead)=true\/(F ops.toList l s0 qp k).tm.getD t .dead = .tup []\/(F ops.toList l s0 qp k).tm.getD t .dead = .dead:=by
  intro n
  induction n with
  | zero=>intro k t _ h;cases h
  | succ n ih =>
    intro k t hk hu;rw[qnz]at hu;split at hu
    ·rename_i hw;cases hu;left;rw[qjT hT.recd (λ k q _ hq=>ql0 hw hq) (wg _) hk];exact h
    ·rename_i o i hw;obtain⟨ho,hd,hother⟩:=qt7 hw;split at hu
     case h_2=>cases hu
     rename_i u' hop hik;have hik:=of_decide_eq_true hik;have hv:=ih i u' (by omega) hu;rw[qjT hT.recd (a:=i+1) (λ k q hle hq=>hother k q hq (by omega)) (by omega) hk];obtain⟨y,h1,h2,_⟩:=hT.st i o ho;obtain⟨z,h3,_,hF⟩:=JE hT.recd ho;rw[h1]at h3;cases h3;rw[hF,if_pos (show qp i=true from rfl),qtq _ _ _ _ hd];split
     ·rcases h2 with⟨_,h2⟩ | ⟨_,h2⟩
      ·unfold qNQ at hop;split at hop<;>cases hop
       ·rename_i e;rw[e]at h2;simp[opA,qc]at h2;split at h2<;>try cases h2
        split at h2<;>try cases h2
        split at h2<;>try cases h2
        have hav:aev (F ops.toList l s0 qp i).tm (.tmp u')=(F ops.toList l s0 qp i).tm.getD u' .dead:=rfl;rw[hav]at h2;rcases hv with hv | hv | hv
        ·cases hg:(F ops.toList l s0 qp i).tm.getD u' .dead<;>rw[hg]at hv h2<;>first | (cases hv;done) | (cases h2;exact .inl rfl)
        ·rw[hv]at h2;cases h2
        ·rw[hv]at h2;cases h2
       ·rename_i e;rw[e]at h2;cases h2;exact hv
       ·rename_i e;rw[e]at h2;cases h2;exact hv
       ·rename_i e;rw[e]at h2;simp[opA,qc]at h2;have hav:aev (F ops.toList l s0 qp i).tm (.tmp u')=(F ops.toList l s0 qp i).tm.getD u' .dead:=rfl;rw[hav]at h2;rcases hv with hv | hv | hv
        ·cases hg:(F ops.toList l s0 qp i).tm.getD u' .dead<;>rw[hg]at hv h2<;>first | (cases hv;done) | (cases h2;exact .inl rfl)
        ·rw[hv]at h2;cases h2
        ·rw[hv]at h2;cases h2
      ·rw[h2];exact .inr (.inl rfl)
     ·exact .inr (.inr rfl)
    ·cases hu
 exact key 6 k t hk hu
theorem qqR{raw}{o:Oper}{t a}(h:o.op=.load t a):zm raw o.op=false:=by rw[h];rfl
theorem qww{tm j i o q}(b:zm C.lo q.op=true)(ho:∀t a,o.op=.load t (.tmp a)->yY tm ops j a=none/\qdO tm ops j a=false):qgc tm ops j o i q=false:=by
 grind [qgc,qjJ,Bool.or_eq_false_iff,qqR]
theorem qwg{tm j i o q t a}(ho:o.op=.load t (.tmp a))(h:qgc tm ops j o i q=true):(∃d c v x,q.op=.store d (.tmp c) v/\yY tm ops i c=some x/\((∃y,yY tm ops j a=some y/\x≠y)\/yY tm ops j a=none/\qdO tm ops j a=true))\/yY tm ops j a≠none/\(∃as ts,q.op=.call ⟨.builtin .append,as,ts⟩)\/yY tm ops j a≠none/\∃g as ts,q.op=.call ⟨.value g,as,ts⟩:=by
 unfold qgc at h;rw[wY]at h;obtain h|h:=h
 .grind [qjJ]
 .unfold qjJ at h;split at h
  .rename_i p s m n r l b;rw[ho]at b;cases b;split at h
   .rename_i x y f e;exact .inl ⟨_,_,_,x,l,f,.inl ⟨y,e,λ k=>by rw[k]at h;simp at h⟩⟩
   .grind
   .cases h
  .grind
  .grind
  .cases h
theorem qr3{raw op}(h:zm raw op=true):qnk raw op=false:=by
 unfold zm at h;unfold qnk;grind
theorem qAX{raw a j i o q}(b:zm raw o.op=true)(d:zm raw q.op=true):qj1 raw a ops j o i q=true:=by
 have c:qgc a ops j o i q=false:=by
  grind [qgc,qjJ,qqR,Bool.or_eq_false_iff]
 simp only[qj1,qqz,qlO,b,d,qr3 b,c,xF,xo,xg,xZ]
theorem qDf{raw}(h:qcZ raw ops=true):∀i j o q,ops[j]?=some o->ops[i]?=some q->i≠j->qo6 raw ops o q=true->((QX ops.toList []).getD (max i j) 0).testBit (min i j)=true:=by
 have a:∀i o,ops[i]?=some o->(o,i)∈ops.toList.zipIdx:=λ i o ho=>by
  grind
 simp only[qcZ,ww,wc,wY,wM]at h;grind
theorem qlb{raw tm}(h:qb6 raw tm ops=true):qcZ raw ops=true:=by
 simp only[qb6,ww,wc,decide_eq_true_eq,wY]at h;simp only[qcZ,ww,wc,decide_eq_true_eq,wY];intro p hp;let⟨c,b⟩:=h p hp;refine⟨c,λ q a=>?_⟩;obtain (g|g)|g:=b q a
 .exact .inl (.inl g)
 .refine .inl (.inr ?_);unfold qo6;grind [qj1,Bool.or_eq_false_iff,qAX]
 .exact .inr g
theorem qNo{raw}(hk:qcZ raw ops=true)(hd:qcK ops L){i j o q}(ho:ops[j]?=some o)(b:ops[i]?=some q)(a:i≠j)(c:qo6 raw ops o q=true)(hL:L j=false)(hp:∀e∈jF o,L e=true):(i<j->L i=true)/\(j<i->L i=false):=
 qyO hd ho b a (qDf hk i j o q ho b a c) hL hp
def qfZ(σ:St)(b:Nat):Option (List AV):=match σ.bx[b]? with
 |some cs=>match noMc cs with
   |true=>some cs
   |false=>none
 |none=>none
def qqd(σ:St):List Row×(Nat->Option (List AV)):=(σ.rw,qfZ σ)
theorem qyC{s:S}{op x σ'}(a:qr4 op=true)(h:opA C ex s.tm s.σ op=some (x,some σ')):qqd σ'=qqd s.σ:=by
 unfold qr4 at a;split at a<;>try cases a
 rename_i t q;cases q with
 |some q=>simp only[opA]at h;cases h
 |none=>
   simp[opA,qc]at h;split at h<;>cases h;refine Prod.ext rfl (funext λ b=>?_);rename_i d e c i g _;show qfZ {s.σ with bx:=s.σ.bx++[[.mc d e c [] []]]} b=qfZ s.σ b;unfold qfZ;by_cases f:b<s.σ.bx.length
   .grind
   .rw[List.getElem?_append_right (by omega),List.getElem?_eq_none (l:=s.σ.bx) (by omega)];cases b-s.σ.bx.length<;>rfl
theorem quq{d σ b o}:jI d σ (.ptr b o)=match qfZ σ b with|some cs=>qc5 d.agg d.size cs o|none=>none:=by
 simp[jI,qfZ];grind
theorem qL4{d σ σ' p}(h:qqd σ'=qqd σ):jI d σ' p=jI d σ p:=by
 have c:σ'.rw=σ.rw:=congrArg Prod.fst h;have a:qfZ σ'=qfZ σ:=congrArg Prod.snd h;cases p with
 |ptr b o=>rw[quq,quq,a]
 |rpt r i o e=>simp[jI,c]
 |_=>rfl
theorem qHe{tm σ σ' t x i}(h:σ'.rw=σ.rw):qc C tm σ' (.indexAddr t x i)=qc C tm σ (.indexAddr t x i):=by
 simp[qc,h]
mutual
theorem qMu(fb fr:Nat->Nat):∀x:AV,rb (ren fb fr x)=[]->rr (ren fb fr x)=[]->rb x=[]/\rr x=[]
 |.ptr b o,h,_|.mp b,h,_=>by simp[ren,rb]at h
 |.rs ..,_,h|.rpt ..,_,h=>by simp[ren,rr]at h
 |.fn f cs,h,g|.agg cs,h,g|.tup cs,h,g=>qs6 fb fr cs h g
 |.v _,_,_|.dead,_,_|.sl ..,_,_|.ept ..,_,_|.mc ..,_,_=>⟨rfl,rfl⟩
theorem qs6(fb fr:Nat->Nat):∀cs:List AV,rbL (qZ fb fr cs)=[]->rrL (qZ fb fr cs)=[]->rbL cs=[]/\rrL cs=[]
 |[],_,_=>⟨rfl,rfl⟩
 |x::cs,h,g=>by
   rw[qZ,rbL,km]at h;rw[qZ,rrL,km]at g;let⟨d,c⟩:=qMu fb fr x h.1 g.1;let⟨b,a⟩:=qs6 fb fr cs h.2 g.2;grind [rbL,rrL]
end
theorem qx8{σ σ':St}{a:List AV}{c:St->List AV->Option (AV×Option St)}{r:AV}(m:rbL a=[])(l:rrL a=[])(s:jE r=true)(h:Qu σ a c=some (r,none)):Qu σ' a c=some (r,none):=by
 have i:∀τ:St,QH τ a=[]:=λ τ=>by
  unfold QH;rw[m];show qoN τ.bx τ.bx.length []=[];cases τ.bx.length<;>rfl
 have j:∀τ:St,qbE τ a=[]:=λ τ=>by
  unfold qbE;rw[i,l];rfl
 have p:∀τ:St,qgF τ a=true:=λ τ=>by
  unfold qgF;rw[i,j,m,l];rfl
 unfold Qu at h |-
 rw[p]at h |-
 rw[i,j]at h |-
 simp only at h |-
 have e:qQ σ' [] []=qQ σ [] []:=rfl;rw[e];cases k:c (qQ σ [] []) (qZ (λ b=>List.idxOf b []) (λ r=>List.idxOf r []) a)with
 |none=>rw[k]at h;cases h
 |some n=>
 rw[k]at h;let⟨x,o⟩:=n;cases o with
 |some τ=>cases h
 |none=>
   simp only[qh3,wB,wL,and_true]at h
   have q:∀(fb fr f d:Nat->Nat),jE (ren fb fr x)=true->ren fb fr x=ren f d x:=λ fb fr f d g=>by
    have g:=g;unfold jE at g;rw[wc,xt,xt]at g;grind [qMu,qsP]
   grind [qh3]
theorem qLQ{σ σ' f b x}(y:C.lo f=false)(h:σ'.rw=σ.rw)(e:qdU C ex σ f b=some (x,none)):qdU C ex σ' f b=some (x,none):=by
 unfold qdU at e |-
 rw[y]at e |-
 simp only at e |-
 rw[h];split at e<;>try cases e
 rename_i m d;split at e<;>try cases e
 rename_i D E c;split at e<;>cases e;rename_i i
 have p:rbL (b.map (jk σ.rw))=[]/\rrL (b.map (jk σ.rw))=[]:=by
  generalize b.map (jk σ.rw)=l at d
  induction l with
  |nil=>exact⟨rfl,rfl⟩
  |cons a l u=>
    simp only[noRefs,wX,wc]at d;have g:=d.1;unfold jE at g;rw[wc,xt,xt]at g;let⟨w,v⟩:=u d.2;exact⟨by rw[rbL,g.1,w];rfl,by rw[rrL,g.2,v];rfl⟩
 have r:qbL C ex σ' f b=some (x,none):=by
  unfold qbL qji at c |-
  rw[m]at c |-
  rw[h];cases k:b.flatMap rsA with
  |nil=>
    rw[k]at c;exact qx8 p.1 p.2 i c
  |cons q l=>
    rw[k]at c;simp only at c |-
    have n:∀o,Qu {σ with rw:=frz σ.rw (q::l),wrr:=(q::l)++σ.wrr} (b.map (jk σ.rw)) (λ σ b=>qbV C ex σ f b)=some (o,none)->jE o=true->Qu {σ' with rw:=frz σ.rw (q::l),wrr:=(q::l)++σ'.wrr} (b.map (jk σ.rw)) (λ σ b=>qbV C ex σ f b)=some (o,none):=λ o e1 A=>qx8 p.1 p.2 A e1;cases j:Qu {σ with rw:=frz σ.rw (q::l),wrr:=(q::l)++σ.wrr} (b.map (jk σ.rw)) (λ σ b=>qbV C ex σ f b)with
    |none=>rw[j]at c;cases c
    |some z=>
      rw[j]at c;let⟨B,t⟩:=z;cases t with
      |some τ=>cases c
      |none=>
        simp[qoi]at c;split at c<;>cases c;rename_i s;rw[n _ j i];simp[qoi,s]
 rw[r];simp[i]
theorem qKU{b σ σ' op x}(c:qnk C.lo op=true)(e:qqd σ'=qqd σ)(h:opA C ex b σ op=some (x,none)):opA C ex b σ' op=some (x,none):=by
 have d:σ'.rw=σ.rw:=congrArg Prod.fst e;unfold qnk at c;split at c<;>try cases c
 .rename_i t a;simp[opA,qc]at h |-
  grind [qL4]
 .rename_i t a i;show qc C b σ' (.indexAddr t a i)=some (x,none);rw[qHe d];exact h
 .grind [opA,qhp,aev,Bool.not_eq_true',qLQ]
theorem qxw{β}:∀a (l xs:List β) b,b<l.length->b ∉ a->(z8 l a xs)[b]?=l[b]?
 |[],l,xs,b,d,_=>by rw[z8,List.getElem?_append_left d]
 |c::a,l,[],b,d,_=>rfl
 |c::a,l,x::xs,b,d,e=>by
   rw[z8,qxw a _ xs b (by grind) λ h=>e (we _ h),List.getElem?_set_ne λ h=>e (by grind)]
theorem qN2{k σ σ' g as ts x}(h:opA C ex k σ (.call ⟨.value g,as,ts⟩)=some (x,some σ')){b}(l:b<σ.bx.length)(c:b ∉ qxX C k σ (.call ⟨.value g,as,ts⟩)):σ'.bx[b]?=σ.bx[b]?:=by
 simp[opA]at h;simp[qxX]at c;split at h<;>try cases h
 rename_i f d s;rw[s]at c;have c:b ∉ (match C.inl f with|some _=>List.range σ.bx.length|none=>match qji C σ f (as.toList.map (aev k)++d)with|(a,none)=>QH σ a|(a,some σ')=>QH σ' a):=c;obtain⟨fn,y,_⟩|h:=qpy h
 .grind
 cases j:C.inl f with
 |some fn=>rw[j]at c;exact absurd (xb.2 l) c
 |none=>
 rw[j]at c
 have m:∀{τ i a e z},Qu τ a e=some (z,some i)->b<τ.bx.length->b ∉ QH τ a->i.bx[b]?=τ.bx[b]?:=by
  intro τ i a e z h l c;unfold Qu at h;split at h<;>try cases h
  split at h<;>try cases h
  rename_i r v;let⟨u,q⟩:=r;cases q with
  |none=>simp[qh3]at h
  |some n=>
    simp[qh3,wB,wL]at h;rw[<-h.2];exact qxw _ _ _ _ l c
 unfold qbL at h;generalize w:qji C σ f (as.toList.map (aev k)++d)=p at h c;let⟨a,o⟩:=p;cases o with
 |none=>exact m h l c
 |some σ1=>
   have t:σ1.bx=σ.bx:=by
    grind [qji]
   unfold qoi at h;grind
theorem qL9{s:S}{q:Oper}{as ts x σ'}(c:q.op=.call ⟨.builtin .append,as,ts⟩)(h:opA C ex s.tm s.σ q.op=some (x,some σ')):σ'.bx=s.σ.bx:=by
 rw[c]at h;simp[opA]at h;generalize as.toList.map (aev s.tm)=b at h
 have a:∀k bytes p xs,yg k bytes s.σ p xs=some (x,some σ')->σ'.bx=s.σ.bx:=by
  intro k bytes p xs h;unfold yg at h;grind
 unfold jH at h;split at h<;>try cases h
 all_goals repeat' (first|(cases h;done)|exact a _ _ _ _ h|split at h)
theorem qi3{s:S}{q:Oper}{t c v x σ'}(j:q.op=.store t (.tmp c) v)(h:opA C ex s.tm s.σ q.op=some (x,some σ')):(∃b o,s.tm.getD c .dead=.ptr b o/\σ'.rw=s.σ.rw/\∀a,a≠b->σ'.bx[a]?=s.σ.bx[a]?)\/∃r i o g,s.tm.getD c .dead=.rpt r i o g:=by
 rw[j]at h;simp[opA,qc]at h;split at h<;>try cases h
 .rename_i d b o hd f;split at h<;>try cases h
  split at h<;>cases h;exact .inl ⟨b,o,f,rfl,λ a e=>by simp[List.getElem?_set_ne (xT e)]⟩
 .rename_i d r i o g hd f;exact .inr ⟨r,i,o,g,f⟩
section
variable (hR:qu9 C ops l) (hk:qcZ C.lo ops=true) (hd:qcK ops L) {j:Nat}{o:Oper} (ho:ops[j]?=some o) (hL:L j=false) (hp:∀e∈jF o,L e=true)
include hR hk hd ho hL hp
theorem qnf{t}(r:t∈qbr ops o):(F ops.toList l s0 L ops.size).tm.getD t .dead=(F ops.toList l s0 qp j).tm.getD t .dead:=by
 have u:=(Array.getElem?_eq_some_iff.1 ho).1
 have f:∀{k q},ops[k]?=some q->k≠j->q.dst=some t->(k<j->L k=true)/\(j<k->L k=false):=λ c n a=>
  qNo hk hd ho c n (by simp[qo6,a,r]) hL hp
 have i:∀k,k<=j->(F ops.toList l s0 L k).tm.getD t .dead=(F ops.toList l s0 qp k).tm.getD t .dead:=by
  intro k
  induction k with
  |zero=>intro _;rfl
  |succ k d=>
    intro p;obtain⟨q,c⟩:=jo (ops:=ops) (k:=k) (by omega);obtain⟨y,_,_,g⟩:=JE hR c;rw[g L,g qp,if_pos (show qp k=true from rfl)];by_cases a:q.dst=some t
    .rw[if_pos ((f c (by omega) a).1 (by omega)),qtq _ _ _ _ a,qtq _ _ _ _ a,qCP,qCP]
    .rw[qmg _ _ _ _ a];split
     .rw[qmg _ _ _ _ a];exact d (by omega)
     .exact d (by omega)
 have e:∀m,j+m<=ops.size->(F ops.toList l s0 L (j+m)).tm.getD t .dead=(F ops.toList l s0 L j).tm.getD t .dead:=by
  intro m
  induction m with
  |zero=>intro _;rfl
  |succ m d=>
    intro p;obtain⟨q,c⟩:=jo (ops:=ops) (k:=j+m) (by omega);obtain⟨y,_,_,g⟩:=JE hR c;show(F ops.toList l s0 L (j+m+1)).tm.getD t .dead=_;rw[g L];split
    .rename_i b;have s:m≠0:=λ h=>by subst h;rw[wO,hL]at b;cases b
     rw[qmg _ _ _ _ λ a=>by have:=(f c (by omega) a).2 (by omega);rw[this]at b;cases b];exact d (by omega)
    .exact d (by omega)
 have:=e (ops.size-j) (by omega);rw[show j+(ops.size-j)=ops.size by omega]at this;rw[this,i j (wa _)]
theorem qHn{y}(p:l[j]?=some y)(n:y.2.isSome=true->zm C.lo o.op=true):F ops.toList l s0 (λ i=>decide (i=j)||L i) ops.size=yh (F ops.toList l s0 L ops.size) o y:=by
 have E:=(Array.getElem?_eq_some_iff.1 ho).1;have f:∀k,k≠j->(decide (k=j)||L k)=L k:=λ k hk=>by simp[hk]
 have g:F ops.toList l s0 (λ i=>decide (i=j)||L i) j=F ops.toList l s0 L j:=qCM j λ i G=>f i (by omega)
 have b:∀m,j+1+m<=ops.size->F ops.toList l s0 (λ i=>decide (i=j)||L i) (j+1+m)=yh (F ops.toList l s0 L (j+1+m)) o y:=by
  intro m
  induction m with
  |zero=>
    intro _;obtain⟨z,h,_,c⟩:=JE hR ho;rw[p]at h;cases h;rw[c,c,if_pos (by simp),g,hL];simp
  |succ m x=>
    intro A;obtain⟨q,s⟩:=jo (ops:=ops) (k:=j+1+m) (by omega);obtain⟨z,_,B,c⟩:=JE hR s;show F _ _ _ _ (j+1+m+1)=yh (F _ _ _ _ (j+1+m+1)) o y;rw[c,c];have e:=f (j+1+m) (by omega);rw[e,x (by omega)];split
    .rename_i a;refine qKK _ _ _ _ _ (λ d r t=>?_) ?_
     .have:=(qNo hk hd ho s (by omega) (by simp[qo6,r,qbr,t]) hL hp).2 (by omega);rw[this]at a;cases a
     .cases D:y.2 with
      |none=>exact .inl rfl
      |some σ1=>
        cases h:z.2 with
        |none=>exact .inr rfl
        |some w=>
          have:=(qNo hk hd ho s (by omega) (by
           have v:=n (by grind);have u:=B (by grind);simp[qo6,v,u,xa,xo]) hL hp).2 (by omega)
          rw[this]at a;cases a
    .rfl
 have:=b (ops.size-(j+1)) (by omega);grind
end
variable (hT:qdS C ex ops l s0) (hk:qb6 C.lo s0.tm ops=true) (hd:qcK ops L) {j:Nat}{o:Oper} (ho:ops[j]?=some o) (hL:L j=false) (hp:∀e∈jF o,L e=true)
include hT hk hd ho hL hp
theorem qJd(w:(Qd o.op||zm C.lo o.op)=true)(r:qnk C.lo o.op=false)(u:∀t a,o.op=.load t (.tmp a)->yY s0.tm ops j a=none/\qdO s0.tm ops j a=false):(F ops.toList l s0 L ops.size).σ=(F ops.toList l s0 qp j).σ:=by
 have z:=(Array.getElem?_eq_some_iff.1 ho).1
 have i:∀{k q},ops[k]?=some q->k≠j->zm C.lo q.op=true->(k<j->L k=true)/\(j<k->L k=false):=λ c s d=>
  ord hk hd ho c s (by simp[qj1,qqz,qlO,d,w,r,qww d u,xF,xg,xo,xZ]) hL hp
 have p:∀k,k<=j->(F ops.toList l s0 L k).σ=(F ops.toList l s0 qp k).σ:=by
  intro k
  induction k with
  |zero=>intro _;rfl
  |succ k e=>
    intro v;obtain⟨q,c⟩:=jo (ops:=ops) (k:=k) (by omega);obtain⟨y,_,d,n⟩:=JE hT.recd c;rw[n L,n qp,if_pos (show qp k=true from rfl)];cases f:y.2 with
    |none=>
      rw[putS_σ _ _ _ f];split
      .rw[putS_σ _ _ _ f];exact e (by omega)
      .exact e (by omega)
    |some σ'=>
      rw[if_pos ((i c (by omega) (d (by grind))).1 (by omega))];simp[yh,f,turn]
 have g:∀m,j+m<=ops.size->(F ops.toList l s0 L (j+m)).σ=(F ops.toList l s0 L j).σ:=by
  intro m
  induction m with
  |zero=>intro _;rfl
  |succ m e=>
    intro v;obtain⟨q,c⟩:=jo (ops:=ops) (k:=j+m) (by omega);obtain⟨y,_,d,n⟩:=JE hT.recd c;show(F ops.toList l s0 L (j+m+1)).σ=_;rw[n L];split
    .rename_i b;have x:m≠0:=λ h=>by subst h;rw[wO,hL]at b;cases b
     cases f:y.2 with
     |none=>rw[putS_σ _ _ _ f];exact e (by omega)
     |some σ'=>
       have:=(i c (by omega) (d (by grind))).2 (by omega);rw[this]at b;cases b
    .exact e (by omega)
 have:=g (ops.size-j) (by omega);rw[show j+(ops.size-j)=ops.size by omega]at this;rw[this,p j (wa _)]
omit hp in
theorem qsp{Q:Type}(c:St->Q)(I:zm C.lo o.op=false)
  (g:∀{k:Nat}{q:Oper}{y:AV×Option St}{σ':St},ops[k]?=some q->l[k]?=some y->k≠j->y.2=some σ'->zm C.lo q.op=true->
   ((k<j->L k=true)/\(j<k->L k=false))\/c σ'=c (F ops.toList l s0 qp k).σ):c (F ops.toList l s0 L ops.size).σ=c (F ops.toList l s0 qp j).σ:=by
 have W:j<ops.size:=(Array.getElem?_eq_some_iff.1 ho).1
 have E:∀k,k<=j->c (F ops.toList l s0 L k).σ=c (F ops.toList l s0 qp k).σ:=by
  intro k
  induction k with
  |zero=>intro _;rfl
  |succ k u=>
    intro K;obtain⟨q,p⟩:=jo (ops:=ops) (k:=k) (by omega);obtain⟨y,t,N,A⟩:=JE hT.recd p;rw[A L,A qp,if_pos (show qp k=true from rfl)];cases d:y.2 with
    |none=>
      rw[putS_σ _ _ _ d];split
      .rw[putS_σ _ _ _ d];exact u (by omega)
      .exact u (by omega)
    |some σ'=>
      rcases g p t (by omega) d (N (by rw[d];rfl))with h|h
      .rw[if_pos (h.1 (by omega))];simp[yh,d,turn]
      .have e:∀s:S,(yh s q y).σ=σ':=λ s=>by simp[yh,d,turn]
       rw[e,h];split
       .rw[e,h]
       .exact u (by omega)
 have z:∀m,j+m<=ops.size->c (F ops.toList l s0 L (j+m)).σ=c (F ops.toList l s0 L j).σ:=by
  intro m
  induction m with
  |zero=>intro _;rfl
  |succ m u=>
    intro K;obtain⟨q,p⟩:=jo (ops:=ops) (k:=j+m) (by omega);obtain⟨y,t,N,A⟩:=JE hT.recd p;show c (F ops.toList l s0 L (j+m+1)).σ=_;rw[A L];split
    .rename_i f;have V:m≠0:=λ h=>by subst h;rw[wO,hL]at f;cases f
     cases d:y.2 with
     |none=>rw[putS_σ _ _ _ d];exact u (by omega)
     |some σ'=>
       have x:=N (by rw[d];rfl);rcases g p t (by omega) d x with h|h
       .have:=h.2 (by omega);rw[this]at f;cases f
       .have e:(yh (F ops.toList l s0 L (j+m)) q y).σ=σ':=by simp[yh,d,turn]
        rw[e,h]
        have G:∀n,j+n<=j+m->c (F ops.toList l s0 qp (j+n)).σ=c (F ops.toList l s0 qp j).σ:=by
         intro n
         induction n with
         |zero=>intro _;rfl
         |succ n v=>
           intro U;obtain⟨D,b⟩:=jo (ops:=ops) (k:=j+n) (by omega);obtain⟨y2,w,M,O⟩:=JE hT.recd b;show c (F ops.toList l s0 qp (j+n+1)).σ=_;rw[O qp,if_pos (show qp (j+n)=true from rfl)];cases i:y2.2 with
           |none=>rw[putS_σ _ _ _ i];exact v (by omega)
           |some B=>
             have a:=M (by rw[i];rfl);by_cases J:n=0
             .subst J;rw[wO]at b;rw[ho]at b;cases b;rw[I]at a;cases a
             rcases g b w (by omega) i a with P|P
             .-- it lies ahead of the other loud one,which has come up
              exfalso;have H:=P.2 (by omega);have R:qj1 C.lo s0.tm ops (j+m) q (j+n) D=true:=qAX x a;have r:=(qjr hk).2 (j+n) (j+m) q D p b (by omega) R;rw[Nat.max_eq_right (by omega),kw (by omega)]at r;have:=qk3 hd (j+m) q p (hd (j+m) q p f) r;rw[H]at this;cases this
             .have T:(yh (F ops.toList l s0 qp (j+n)) D y2).σ=B:=by simp[yh,i,turn]
              rw[T,P];exact v (by omega)
        rw[G m (wa _),E j (wa _)]
    .exact u (by omega)
 have:=z (ops.size-j) (by omega);grind
theorem qLM{t a b'}(hop:o.op = .load t (.tmp a))(hbx:yY s0.tm ops j a=some b'):qfZ (F ops.toList l s0 L ops.size).σ b'=qfZ (F ops.toList l s0 qp j).σ b':=by
 have see:∀{σ σ'},σ'.bx[b']? = σ.bx[b']? -> qfZ σ' b'=qfZ σ b' := λ h=>by unfold qfZ;rw[h]
 have hrd:Qd o.op=true:=by rw[hop];rfl
 refine qsp hT hk hd ho hL (λ σ => qfZ σ b') (by rw[hop];rfl) ?_
 show ∀{k q y σ'},ops[k]?=some q->l[k]?=some y->k≠j->y.2=some σ'->zm C.lo q.op=true ->
  ((k<j->L k=true)/\(j<k->L k=false))\/qfZ σ' b'=qfZ (F ops.toList l s0 qp k).σ b'
 ·intro k q y σ' hq hy hne hy2 hl;by_cases hmk:qr4 q.op=true
  ·obtain⟨z,hz,hstep,_⟩:=hT.st k q hq;rw[hy]at hz;cases hz;obtain⟨y1,y2⟩:=y;subst hy2;rcases hstep with⟨_,hs⟩ | ⟨_,hs⟩
   ·exact .inr (congrFun (congrArg Prod.snd (qyC hmk hs)) b')
   ·cases hs
  cases hap:qgc s0.tm ops j o k q with
  | false=>exact .inl (ord hk hd ho hq hne (by simp[qj1,qqz,qlO,hl,hrd,hmk,hap,kN,xg,xh,xo,xZ]) hL hp)
  | true =>
    obtain⟨z,hz,hstep,_⟩:=hT.st k q hq;rw[hy]at hz;cases hz;obtain⟨y1,y2⟩:=y;subst hy2;rcases qwg hop hap with⟨t',c,v,x,h1,h2,h3⟩ | ⟨_,as,ts,h1⟩ | ⟨_,g,as,ts,h1⟩
    case inr.inr =>
     have hsp:=hT.sp k q _ hq hy rfl;have hks:=xl (Array.getElem?_eq_some_iff.1 hq).1;rw[h1]at hsp;unfold qbx at hstep;unfold qc2 at hsp;rw[show qzQ (.call ⟨.value g,as,ts⟩)=true from rfl,wav,xq,ww]at hsp;have hsj:=hsp (o,j) (by grind);simp[hop]at hsj;rw[qMH hT hks hbx]at hsj;grind [qyO,Nat.max_comm,Nat.min_comm,qN2]
    all_goals right
    case inr.inl =>
     rcases hstep with⟨_,hs⟩ | ⟨_,hs⟩
     ·grind [qL9]
     ·cases hs
    rcases h3 with⟨y',h3,h4⟩ | ⟨h3,_⟩
    case inr=>rw[hbx]at h3;cases h3
    rcases hstep with⟨_,hs⟩ | ⟨_,hs⟩
    ·have hks:=xl (Array.getElem?_eq_some_iff.1 hq).1;rcases qi3 h1 hs with⟨b,off,g1,_,g2⟩ | ⟨r',i',o',ep',g1⟩
     ·rcases qpr hT hks h2 with⟨off',g3⟩ | g3 | g3
      ·grind
      ·rw[g3]at g1;cases g1
      ·rw[g3]at g1;cases g1
     ·rcases qpr hT hks h2 with⟨off',g3⟩ | g3 | g3
      ·rw[g3]at g1;cases g1
      ·rw[g3]at g1;cases g1
      ·rw[g3]at g1;cases g1
    ·cases hs
theorem qNz{t a}(hop:o.op = .load t (.tmp a))(hbx:yY s0.tm ops j a=none):(F ops.toList l s0 L ops.size).σ.rw=(F ops.toList l s0 qp j).σ.rw:=by
 have hrd:Qd o.op=true:=by rw[hop];rfl
 refine qsp hT hk hd ho hL (λ σ => σ.rw) (by rw[hop];rfl) ?_;intro k q y σ' hq hy hne hy2 hl;by_cases hmk:qr4 q.op=true
 ·obtain⟨z,hz,hstep,_⟩:=hT.st k q hq;rw[hy]at hz;cases hz;obtain⟨y1,y2⟩:=y;subst hy2;rcases hstep with⟨_,hs⟩ | ⟨_,hs⟩
  ·exact .inr (congrArg Prod.fst (qyC hmk hs))
  ·cases hs
 cases hap:qgc s0.tm ops j o k q with
 | false=>exact .inl (ord hk hd ho hq hne (by simp[qj1,qqz,qlO,hl,hrd,hmk,hap,kN,xg,xh,xo,xZ]) hL hp)
 | true =>
   obtain⟨z,hz,hstep,_⟩:=hT.st k q hq;rw[hy]at hz;cases hz;obtain⟨y1,y2⟩:=y;subst hy2;rcases qwg hop hap with⟨t',c,v,x,h1,h2,_⟩ | ⟨h,_⟩ | ⟨h,_⟩
   case inr.inl=>exact absurd hbx h
   case inr.inr=>exact absurd hbx h
   right;have hks:=xl (Array.getElem?_eq_some_iff.1 hq).1;rcases hstep with⟨_,hs⟩ | ⟨_,hs⟩
   ·rcases qi3 h1 hs with⟨b,off,g1,g2,_⟩ | ⟨r',i',o',ep',g1⟩
    ·exact g2
    ·rcases qpr hT hks h2 with⟨off',g3⟩ | g3 | g3<;>rw[g3]at g1<;>cases g1
   ·cases hs
theorem qMo(d:qnk C.lo o.op=true)(g:Qd o.op=true)(i:∀t a,o.op=.load t (.tmp a)->yY s0.tm ops j a=none/\qdO s0.tm ops j a=false):qqd (F ops.toList l s0 L ops.size).σ=qqd (F ops.toList l s0 qp j).σ:=by
 refine qsp hT hk hd ho hL qqd (by
  cases m:zm C.lo o.op with
  |false=>rfl
  |true=>rw[qr3 m]at d;cases d) ?_
 intro k q y σ' p s h e r;by_cases c:qr4 q.op=true
 .let⟨z,n,b,_⟩:=hT.st k q p;rw[s]at n;cases n;let⟨y1,y2⟩:=y;subst e;obtain⟨_,f⟩|⟨_,f⟩:=b
  .exact .inr (qyC c f)
  .cases f
 .rw[kK]at c;exact .inl (ord hk hd ho p h (by simp[qj1,qqz,qlO,r,g,c,qww r i,kN,xg,xh,xo,xZ]) hL hp)
theorem qE1: ∃y,l[j]?=some y/\qbx C ex ops o (F ops.toList l s0 L ops.size) y/\F ops.toList l s0 (λ i=>decide (i=j)||L i) ops.size=yh (F ops.toList l s0 L ops.size) o y:=by
 have E:=(Array.getElem?_eq_some_iff.1 ho).1;let⟨y,p,w,f⟩:=hT.st j o ho;refine⟨y,p,?_,?_⟩
 .have B:=qkA λ t D=>qnf (s0:=s0) hT.recd (qlb hk) hd ho hL hp D
  have r:=qvS (C:=C) (ex:=ex) (op:=o.op) (σ:=(F ops.toList l s0 L ops.size).σ) (qrK λ t D=>qnf (s0:=s0) hT.recd (qlb hk) hd ho hL hp (by
   grind [qbr]))
  obtain⟨n,c⟩|⟨n,c⟩:=w
  .refine .inl ⟨B.trans n,?_⟩;rw[r];by_cases h:(Qd o.op||zm C.lo o.op)=true
   .by_cases k:∃t a b,o.op=.load t (.tmp a)/\yY s0.tm ops j a=some b
    .let⟨t,a,b,e1,v⟩:=k;have m:=qLM hT hk hd ho hL hp e1 v;rw[e1]at c |-
     have A:=xl E;simp[opA,qc]at c |-
     split at c<;>try cases c
     have q:aev (F ops.toList l s0 qp j).tm (.tmp a)=(F ops.toList l s0 qp j).tm.getD a .dead:=rfl;rw[q]at c |-
     obtain⟨off,g⟩|g|g:=qpr hT A v
     .grind [quq]
     .rw[g]at c;cases c
     .rw[g]at c;cases c
    .by_cases u:∃t a,o.op=.load t (.tmp a)/\qdO s0.tm ops j a=true
     .let⟨t,a,e1,v⟩:=u
      have G:=qNz hT hk hd ho hL hp e1 (by
       cases m:yY s0.tm ops j a with
       |none=>rfl
       |some b=>exact absurd ⟨t,a,b,e1,m⟩ k)
      rw[e1]at c |-
      simp[opA,qc]at c |-
      split at c<;>try cases c
      have q:aev (F ops.toList l s0 qp j).tm (.tmp a)=(F ops.toList l s0 qp j).tm.getD a .dead:=rfl;rw[q]at c |-
      obtain g|g|g:=qO2 hT (xl E) v
      .cases H:(F ops.toList l s0 qp j).tm.getD a .dead<;>rw[H]at g c<;>first|(cases g;done)|skip
       .grind [jI]
       .exact c
      .rw[g]at c;cases c
      .rw[g]at c;cases c
     .have s:∀t a,o.op=.load t (.tmp a)->yY s0.tm ops j a=none/\qdO s0.tm ops j a=false:=λ t a n=>⟨by
        cases m:yY s0.tm ops j a with
        |none=>rfl
        |some b=>exact absurd ⟨t,a,b,n,m⟩ k,by
        cases m:qdO s0.tm ops j a with
        |false=>rfl
        |true=>exact absurd ⟨t,a,n,m⟩ u⟩
      cases d:qnk C.lo o.op with
      |false=>rw[qJd hT hk hd ho hL hp h d s];exact c
      |true=>
        have e:zm C.lo o.op=false:=by
         cases e:zm C.lo o.op with
         |false=>rfl
         |true=>rw[qr3 e]at d;cases d
        rw[e,Bool.or_false]at h;have q:=qMo hT hk hd ho hL hp d h s;let⟨x,z⟩:=y;cases z with
        |some σ'=>have:=f rfl;rw[e]at this;cases this
        |none=>exact qKU d q c
   .simp at h;let⟨x,z⟩:=y;cases z with
    |none=>exact qEE h.1 h.2 c
    |some σ'=>have:=f rfl;rw[h.2]at this;cases this
  .exact .inr ⟨B.trans n,c⟩
 .exact qHn hT.recd (qlb hk) hd ho hL hp p f
theorem quP:∃y,qbx C ex ops o (F ops.toList l s0 L ops.size) y/\F ops.toList l s0 (λ i=>decide (i=j)||L i) ops.size=yh (F ops.toList l s0 L ops.size) o y:=by
 grind [qE1]
end
end Go.AmZ
namespace Go.AmZ
open Go Go.RowKit
theorem qHz(ops:List Oper):∀l:List Oper,qJ6 ops l<=l.length
 |[]=>wa _
 |o::r=>by
   unfold qJ6;split
   .exact wg _
   .simpa using qHz ops r
theorem qsH(lo:Nat->Bool)(l:List Oper):qcW lo l<=l.length:=qHz l l
theorem qsE(o:Oper):(jV o).dst=o.dst:=by unfold jV;split<;>rfl
theorem qGy(o:Oper):(jV o).guard=o.guard:=by unfold jV;split<;>rfl
theorem qnX(o:Oper):jF (jV o)=jF o:=by unfold jV;split<;>rfl
theorem qpX{lo:Nat->Bool}{l:List Oper}:(qK lo l).length=qcW lo l:=by simp[qK,kw (qsH lo l)]
theorem qms{lo:Nat->Bool}{l:List Oper}{j:Nat}(a:j<qcW lo l):(qK lo l)[j]?=l[j]?.map jV:=by
 grind [qK]
theorem qvs{lo:Nat->Bool}{l:List Oper}{j:Nat}{o:Oper}(h:(qK lo l)[j]?=some o):j<qcW lo l/\∃q,l[j]?=some q/\jV q=o:=by
 have a:j<qcW lo l:=by rw[<-qpX (lo:=lo) (l:=l)];exact getElem?_lt h
 rw[qms a]at h;grind
theorem qpF{lo:Nat->Bool}{ops:Array Oper}{c:List AV}{o:Oper}{b:Bool}(h:yC ⟨qK lo ops.toList⟩ c (jV o)=some b):yC ops c o=some b:=by
 unfold yC at h |-
 rw[qGy]at h;cases e:o.guard with
 |none=>rw[e]at h;exact h
 |some p=>
   let⟨j,a⟩:=p;rw[e]at h;simp only at h |-
   cases d:(qK lo ops.toList)[j]? with
   |none=>
     grind
   |some q=>
     let⟨l,f,i,g⟩:=qvs d;have e1:(⟨qK lo ops.toList⟩:Array Oper)[j]?=some q:=by simpa using d
     have k:ops[j]?=some f:=by simpa using i
     rw[e1]at h;rw[k];subst g;simp only[Option.bind_some,qsE]at h |-
     exact h
section
variable {P:Program}{C:Cfg}{Γ:Gh}{σ:St}{w:World}{ops:Array Oper}{ex:QG}{l:List (AV×Option St)}{s0:S}
theorem qx6{a:Array Bool}(h:a.toList.countP (λ b => !b)=0):∀i,i<a.size->a.getD i false=true:=by
 intro i c;rw[List.countP_eq_zero]at h;have:=h a[i] (by simp);simp only[wM,Bool.not_eq_false]at this;rw[wK,Array.getElem?_eq_getElem c];simpa using this
theorem qHi(hC:yr P C)(hx:qcQ P ex){G:(Nat->Bool)->S}{Good:(Nat->Bool)->Prop}(z:∀L j,Good L->Good (λ i=>decide (i=j)||L i))(H:∀(j:Nat) (o:Oper),ops[j]?=some o->∀e∈jF o,e<j)(I:∀L,(∀i,i<ops.size->L i=true)->G L=G qp)
  (t:∀(L:Nat->Bool) (j:Nat) (o:Oper),qcK ops L->Good L->ops[j]?=some o->L j=false->(∀e∈jF o,L e=true)->∃y,qbx C ex ops o (G L) y/\G (λ i=>decide (i=j)||L i)=yh (G L) o y) {Q:Exit->Act->World->Prop}:∀(d:Nat) (c:Array Bool) (Γ:Gh) (w:World) (a:Act),c.size=ops.size->c.toList.countP (λ b => !b)=d->qcK ops (λ i=>c.getD i false)->Good (λ i=>c.getD i false)->
  Inv Γ (G (λ i=>c.getD i false)).σ w->zu Γ (G (λ i=>c.getD i false)).tm a->
  (∀Γ' w' a',Ext Γ w Γ' w'->Inv Γ' (G qp).σ w'->zu Γ' (G qp).tm a'->qO (G (λ i=>c.getD i false)).σ (G qp).σ->a'.defers=a.defers->Q .normal a' w')->
  wpAny P .any ops Q d c a w:=by
 intro d
 induction d with
 |zero=>
   intro c Γ w a g p M l D s V;have r:=qx6 p
   have n:Region.ready .any ops c=[]:=by
    apply List.eq_nil_iff_forall_not_mem.2;intro j hj;let⟨h1,o,v,_⟩:=mem_ready.1 hj;grind
   have hF:G (λ i=>c.getD i false)=G qp:=I _ λ i D=>r i (by rw[g];exact D);rw[hF]at D s;exact⟨n,V Γ w a (.refl _ _) D s (by rw[hF];exact .refl _) rfl⟩
 |succ d ih=>
   intro c Γ w a g p M l D s V;refine⟨λ n=>?_,λ j hj=>?_⟩
   .exfalso
    have aa:∃i,i<c.size/\c.getD i false=false:=by
     apply kU;intro X
     have:c.toList.countP (λ b => !b)=0:=by
      rw[List.countP_eq_zero];intro b hb;obtain⟨i,f,rfl⟩:=List.getElem_of_mem hb;intro ad;refine X ⟨i,by simpa using f,?_⟩;rw[wK,Array.getElem?_eq_getElem (by simpa using f)];simpa using ad
     rw[p]at this;cases this
    let⟨i0,h0,h1⟩:=aa
    have O:∀i,i<c.size->c.getD i false=false->False:=by
     intro i
     induction i using Nat.strongRecOn with
     |_ i R=>
       intro f hf;let⟨o,v⟩:=jo (ops:=ops) (k:=i) (by rw[<-g];exact f)
       have hr:i∈Region.ready .any ops c:=by
        refine mem_ready.2 ⟨?_,o,v,λ e J hb=>?_⟩
        .rw[wK,Array.getElem?_eq_getElem f]at hf |-
         simpa using hf
        .have ab:e.on∈jF o:=wC.2 ⟨e,kJ.2 ⟨by simpa using J,hb⟩,rfl⟩;have Y:=H i o v e.on ab;cases hc:c.getD e.on false with
         |true=>rfl
         |false=>exact(R e.on Y (by omega) hc).elim
       rw[n]at hr;cases hr
    exact O i0 h0 h1
   .let⟨h1,o,v,r⟩:=mem_ready.1 hj;have A:j<ops.size:=(Array.getElem?_eq_some_iff.1 v).1
    have hL:c.getD j false=false:=by
     grind
    have hp:∀e∈jF o,c.getD e false=true:=λ e J=>by
     obtain⟨ed,af,rfl⟩:=wC.1 J;grind
    let⟨y,hy,ae⟩:=t _ j o M l v hL hp
    have m:(λ i=>(c.setIfInBounds j true).getD i false)=λ i=>decide (i=j)||c.getD i false:=by
     funext i;by_cases B:i=j
     .subst B;rw[wK,Array.getElem?_setIfInBounds_self_of_lt (by rw[g];exact A)];simp
     .rw[getD_set_ne false (xT B)];simp[B]
    have F:(c.setIfInBounds j true).size=ops.size:=by rw[xN,g]
    have K:(c.setIfInBounds j true).toList.countP (λ b => !b)=d:=by
     have Z:j<c.toList.length:=by simp[g,A]
     rw[xp,List.countP_set (h:=Z),p]
     have:c.toList[j]=false:=by
      rw[wK,Array.getElem?_eq_getElem (by rw[g];exact A)]at hL;simpa using hL
     rw[this];simp
    have ac:qcK ops (λ i=>(c.setIfInBounds j true).getD i false):=by
     rw[m];intro i q U f e J;simp only[wY,decide_eq_true_eq]at f |-
     obtain rfl|f:=f
     .grind
     .exact .inr (M i q U f e J)
    unfold wpOp;rw[v];simp only
    have next:∀Γ' w' u,Ext Γ w Γ' w'->Inv Γ' (turn (G (λ i=>c.getD i false)).σ y.2) w'->Rep Γ' y.1 u->qO (G (λ i=>c.getD i false)).σ (turn (G (λ i=>c.getD i false)).σ y.2)->
      wpAny P .any ops Q d (c.setIfInBounds j true) (a.put o.dst u) w':=by
     intro Γ' w' u e1 e2 e3 e4;have E:G (λ i=>(c.setIfInBounds j true).getD i false)=yh (G (λ i=>c.getD i false)) o y:=by rw[m];exact ae
     refine ih (c.setIfInBounds j true) Γ' w' (a.put o.dst u) F K ac (by rw[m];exact z _ j l) ?_ ?_ ?_
     .rw[E];exact e2
     .rw[E];exact zu.put (waL e1.le s) o.dst e3
     .intro N w2 a2 g1 g2 g3 g4 g5;rw[E]at g4;exact V N w2 a2 (e1.trans g1) g2 g3 (e4.trans g4) (by rw[g5];cases M:o.dst<;>rfl)
    obtain⟨T,W⟩|⟨T,rfl⟩:=hy
    .rw[if_pos (qiJ s T)];left;refine qJa hC hx D s W _ _ ?_;grind
    .rw[if_neg (by rw[qiJ s T];exact kE)];exact next Γ w undef (.refl _ _) D (.tup [] [] rfl λ i x u h=>by simp at h) (.refl _)
theorem qIf(p:yr P C)(n:qcQ P ex){Good:(Nat->Bool)->Prop}(g:∀L j,Good L->Good (λ i=>decide (i=j)||L i))(k:∀(j:Nat) (o:Oper),ops[j]?=some o->∀e∈jF o,e<j)
  (f:∀(L:Nat->Bool) (j:Nat) (o:Oper),qcK ops L->Good L->ops[j]?=some o->L j=false->(∀e∈jF o,L e=true)->∃y,qbx C ex ops o (F ops.toList l s0 L ops.size) y/\F ops.toList l s0 (λ i=>decide (i=j)||L i) ops.size=yh (F ops.toList l s0 L ops.size) o y) {Q:Exit->Act->World->Prop}:∀(d:Nat) (c:Array Bool) (Γ:Gh) (w:World) (a:Act),c.size=ops.size->c.toList.countP (λ b => !b)=d->qcK ops (λ i=>c.getD i false)->Good (λ i=>c.getD i false)->
  Inv Γ (F ops.toList l s0 (λ i=>c.getD i false) ops.size).σ w->zu Γ (F ops.toList l s0 (λ i=>c.getD i false) ops.size).tm a->
  (∀Γ' w' m,Ext Γ w Γ' w'->Inv Γ' (F ops.toList l s0 qp ops.size).σ w'->zu Γ' (F ops.toList l s0 qp ops.size).tm m->qO (F ops.toList l s0 (λ i=>c.getD i false) ops.size).σ (F ops.toList l s0 qp ops.size).σ->m.defers=a.defers->Q .normal m w')->
  wpAny P .any ops Q d c a w:=
 qHi (G:=λ L=>F ops.toList l s0 L ops.size) p n g k (λ _ h=>qCM _ h) f
theorem qBo{lo:Nat->Bool}(h:qjy lo ops.toList=true):
  (∀(j:Nat) (o:Oper),ops[j]?=some o->∀e∈jF o,e<j)/\
  (∀(j:Nat) (o:Oper),ops[j]?=some o->qcW lo ops.toList<=j->∀i,i<j->((QX ops.toList []).getD j 0).testBit i=true\/(i<qcW lo ops.toList/\∃q,ops[i]?=some q/\(qhS ops.toList q=true\/qsT ops.toList q=true/\qx1 ops.toList o=true)))/\
  ∀(j:Nat) (o:Oper),ops[j]?=some o->zQ o=true->o.guard=none/\∃d,o.dst=some d/\∀(k:Nat) (q:Oper),ops[k]?=some q->k≠j->q.dst≠some d:=by
 have a:∀(i:Nat) (o:Oper),ops[i]?=some o->(o,i)∈ops.toList.zipIdx:=λ i o c=>by
  grind
 simp only[qjy,ww,wc,wY,decide_eq_true_eq,wM]at h;refine⟨λ j o c=>(h _ (a j o c)).1,λ j o c y i s=>?_,λ j o c t=>?_⟩
 .obtain b|b:=(h _ (a j o c)).2.1
  .rw[wat]at b;omega
  .obtain b|⟨l,f⟩:=b i (xb.2 s)
   .exact .inl b
   .rw[wat]at l;grind
 .obtain b|⟨l,f⟩:=(h _ (a j o c)).2.2
  .rw[t]at b;cases b
  .refine⟨Option.isNone_iff_eq_none.1 l,?_⟩;simp only at f;split at f
   .rename_i d m;refine⟨d,m,λ k q n p g=>?_⟩;have r:=wm f;let⟨x,w⟩:=xV.1 r;have v:(o,j)∈qd1 ops.toList d:=kJ.2 ⟨a j o c,by simp[qnu,m]⟩;have u:(q,k)∈qd1 ops.toList d:=kJ.2 ⟨a k q n,by simp[qnu,g]⟩;grind
   .cases f
theorem qeJ{o:Oper}(a:zQ o=true):∃e,o.op=.alloc e:=by
 grind [zQ]
structure qmj (P:Program) (Γ:Gh) (w0 w:World) (ops:Array Oper) (L:Nat->Prop) (a:Act) (ad:Nat->Nat):Prop where
 blk:∀k o e d,L k->ops[k]?=some o->o.op=.alloc e->yQ P e=some d->d.zero.all zk=true->
  w0.heap.size<=ad k/\w.heap[ad k]?=some (.cells d.zero.toArray e (0,0))/\¬ Jg Γ (ad k)/\∀i,Γ.mem (ad k) i=none
 tmp:∀k o e d u,L k->ops[k]?=some o->o.op=.alloc e->o.dst=some d->a.tmps[d]?=some u->u=.pointer (some ⟨ad k,0,none⟩)
 inj:∀k k' o o',L k->L k'->ops[k]?=some o->ops[k']?=some o'->zQ o=true->zQ o'=true->ad k=ad k'->k=k'
theorem qKW{a:Act}{d:Option Tmp}{u:Value}{t:Tmp}(h:d≠some t):(a.put d u).tmps[t]?=a.tmps[t]?:=by
 cases d with
 |none=>rfl
 |some d=>
   show(a.tmps.setIfInBounds d u)[t]?=_;grind
theorem qmj.step{L:Nat->Prop}{w0 w':World}{Γ':Gh}{a:Act}{ad:Nat->Nat}{d:Option Tmp}{u:Value}(h:qmj P Γ w0 w ops L a ad)(p:Ext Γ w Γ' w')
  (r:∀k o t,L k->ops[k]?=some o->zQ o=true->o.dst=some t->d≠some t):qmj P Γ' w0 w' ops L (a.put d u) ad where
 blk:=λ k o e d m l j g f=>by
  let⟨x,q,g3,s⟩:=h.blk k o e d m l j g f;have n:ad k<w.heap.size:=(Array.getElem?_eq_some_iff.1 q).1;refine⟨x,by rw[p.block _ n g3];exact q,λ c=>?_,λ i=>?_⟩
  .obtain c|c:=p.own _ c
   .exact g3 c
   .omega
  .cases b:Γ'.mem (ad k) i with
   |none=>rfl
   |some v=>
     obtain b|b|b:=p.memg _ _ _ b
     .rw[s]at b;cases b
     .exact absurd b g3
     .omega
 tmp:=λ k o e t v m l j g f=>by
  rw[qKW (r k o t m l (by simp[zQ,j]) g)]at f;exact h.tmp k o e t v m l j g f
 inj:=h.inj
theorem qLq{o:Oper}{ρ:Operand->Value}{e:TypeId}{d:TD}(a:o.op=.alloc e)(b:yQ P e=some d)(w:World):(execOp ρ o).run P w=.ok (.value (.pointer (some ⟨w.heap.size,0,none⟩))) (w.alloc (.cells d.zero.toArray e)):=by
 let⟨i,u,z,g,m,f,l,k,j,c,h⟩:=waJ b;rw[<-c];simp[execOp,a,Instr.alloc,zeroValue,typeInfo,g,f,newVar,qgb]
theorem Inv.free(a:Inv Γ σ w){b:Nat}(f:w.heap.size<=b):¬ Jg Γ b/\∀i,Γ.mem b i=none:=by
 refine⟨?_,λ i=>?_⟩
 .rintro(⟨i,c,d⟩|⟨r,c,d,g⟩)
  .have:=a.box_lt c;omega
  .have:=a.cur_lt c d;omega
 .cases e:Γ.mem b i with
  |none=>rfl
  |some u=>have:=a.mem_lt e;omega
theorem qS7(hC:yr P C)(hx:qcQ P ex)(hT:qdS C ex ⟨qK C.lo ops.toList⟩ l s0)(hk:qb6 C.lo s0.tm ⟨qK C.lo ops.toList⟩=true)(aa:qjy C.lo ops.toList=true)
  (hz:∀k o e,k<qcW C.lo ops.toList->ops[k]?=some o->o.op=.alloc e->∃d,yQ P e=some d/\d.zero.all zk=true) {w0:World}{Q:Exit->Act->World->Prop}{n:Nat} (hn:n=qcW C.lo ops.toList):
  ∀(g:Nat) (c:Array Bool) (Γ:Gh) (w:World) (a:Act) (ad:Nat->Nat),c.size=ops.size->c.toList.countP (λ b => !b)=g->(∀i,n<=i->c.getD i false=false)->qcK ops (λ i=>c.getD i false)->
  Inv Γ (F (qK C.lo ops.toList) l s0 (λ i=>c.getD i false) n).σ w->zu Γ (F (qK C.lo ops.toList) l s0 (λ i=>c.getD i false) n).tm a->qmj P Γ w0 w ops (λ i=>c.getD i false=true) a ad->w0.heap.size<=w.heap.size->
  (∀s f Γ' w' a' L,f.size=ops.size->f.toList.countP (λ b => !b)=s->(∀i,n<=i->f.getD i false=false)->(∀(i:Nat) (o:Oper),i<n->ops[i]?=some o->qbu ops.toList o=false->f.getD i false=true)->qcK ops (λ i=>f.getD i false)->Ext Γ w Γ' w'->Inv Γ' (F (qK C.lo ops.toList) l s0 (λ i=>f.getD i false) n).σ w'->zu Γ' (F (qK C.lo ops.toList) l s0 (λ i=>f.getD i false) n).tm a'->qmj P Γ' w0 w' ops (λ i=>f.getD i false=true) a' L->
   qO (F (qK C.lo ops.toList) l s0 (λ i=>c.getD i false) n).σ (F (qK C.lo ops.toList) l s0 (λ i=>f.getD i false) n).σ->a'.defers=a.defers->wpAny P .any ops Q s f a' w')->
  wpAny P .any ops Q g c a w:=by
 let⟨aN,aO,ao⟩:=qBo aa
 have ak:∀(j:Nat) (o:Oper),j<n->ops[j]?=some o->(⟨qK C.lo ops.toList⟩:Array Oper)[j]?=some (jV o):=λ j o hj B=>by
  have:(qK C.lo ops.toList)[j]?=some (jV o):=by
   rw[qms (by omega)];grind
  simpa using this
 have ai:(⟨qK C.lo ops.toList⟩:Array Oper).size=n:=by show(qK C.lo ops.toList).length=n;rw[qpX,hn]
 have a0:n<=ops.size:=by rw[hn];simpa using qsH C.lo ops.toList
 intro g
 induction g with
 |zero=>
   intro c Γ w a ad A K N hd hi S X V hq;have D:=qx6 K;exact hq 0 c Γ w a ad A K N (λ i o m _ _=>D i (by omega)) hd (.refl _ _) hi S X (.refl _) rfl
 |succ g ih=>
   intro c Γ w a ad A K N hd hi S X V hq;by_cases D:∀(i:Nat) (o:Oper),i<n->ops[i]?=some o->qbu ops.toList o=false->c.getD i false=true
   .exact hq (g+1) c Γ w a ad A K N D hd (.refl _ _) hi S X (.refl _) rfl
   have aV:qcK ⟨qK C.lo ops.toList⟩ (λ i=>c.getD i false):=by
    intro i o B hL e M;obtain⟨m,q,h1,rfl⟩:=qvs (lo:=C.lo) (l:=ops.toList) (j:=i) (o:=o) (by simpa using B);rw[qnX]at M;exact hd i q (by simpa using h1) hL e M
   have aw:∃(U:Nat) (o0:Oper),U<n/\ops[U]?=some o0/\qbu ops.toList o0=false/\c.getD U false=false:=by
    apply kU;intro al;refine D λ i o m aL ar=>?_;cases hc:c.getD i false with
    |true=>rfl
    |false=>exact(al ⟨i,o,m,aL,ar,hc⟩).elim
   refine⟨λ am=>?_,λ j hj=>?_⟩
   .exfalso;let⟨U,o0,R,_,_,h1⟩:=aw
    have aC:∀i,i<n->c.getD i false=false->False:=by
     intro i
     induction i using Nat.strongRecOn with
     |_ i aD=>
       intro m hf;let⟨o,B⟩:=jo (ops:=ops) (k:=i) (by omega)
       have hr:i∈Region.ready .any ops c:=by
        refine mem_ready.2 ⟨?_,o,B,λ e M hb=>?_⟩
        .rw[wK,Array.getElem?_eq_getElem (by omega)]at hf |-
         simpa using hf
        .have aT:e.on∈jF o:=wC.2 ⟨e,kJ.2 ⟨by simpa using M,hb⟩,rfl⟩;have an:=aN i o B e.on aT;cases hc:c.getD e.on false with
         |true=>rfl
         |false=>exact(aD e.on an (by omega) hc).elim
       rw[am]at hr;cases hr
    exact aC U R h1
   .let⟨h1,o,B,az⟩:=mem_ready.1 hj;have ac:j<ops.size:=(Array.getElem?_eq_some_iff.1 B).1
    have hL:c.getD j false=false:=by
     grind
    have hp:∀e∈jF o,c.getD e false=true:=λ e M=>by
     obtain⟨ed,a6,rfl⟩:=wC.1 M;grind
    have aP:j<n:=by
     apply kU;intro al;let⟨U,o0,R,aK,aS,h2⟩:=aw;obtain hb|⟨_,q,z,ar⟩:=aO j o B (by omega) U (by omega)
     .have:=qk3 hd j o B hp hb;rw[h2]at this;cases this
     .rw[aK]at z;cases z;unfold qbu at aS;grind
    have aJ:∀e∈jF (jV o),c.getD e false=true:=by rw[qnX];exact hp
    let⟨y,hy,ax⟩:=quP hT hk aV (ak j o aP B) hL aJ;rw[ai]at hy ax
    have J:(λ i=>(c.setIfInBounds j true).getD i false)=λ i=>decide (i=j)||c.getD i false:=by
     funext i;by_cases ae:i=j
     .subst ae;rw[wK,Array.getElem?_setIfInBounds_self_of_lt (by rw[A];exact ac)];simp
     .rw[getD_set_ne false (xT ae)];simp[ae]
    have aj:(c.setIfInBounds j true).size=ops.size:=by rw[xN,A]
    have av:(c.setIfInBounds j true).toList.countP (λ b => !b)=g:=by
     have aQ:j<c.toList.length:=by simp[A,ac]
     rw[xp,List.countP_set (h:=aQ),K]
     have:c.toList[j]=false:=by
      rw[wK,Array.getElem?_eq_getElem (by rw[A];exact ac)]at hL;simpa using hL
     rw[this];simp
    have ap:∀i,n<=i->(c.setIfInBounds j true).getD i false=false:=λ i m=>by
     rw[getD_set_ne false (by omega)];exact N i m
    have aW:qcK ops (λ i=>(c.setIfInBounds j true).getD i false):=by
     rw[J];intro i q z m e M;simp only[wY,decide_eq_true_eq]at m |-
     obtain rfl|m:=m
     .grind
     .exact .inr (hd i q z m e M)
    have yF:∀k,(c.setIfInBounds j true).getD k false=true->k=j\/c.getD k false=true:=λ k ab=>by
     have:(λ i=>(c.setIfInBounds j true).getD i false) k=true:=ab;rw[J]at this;simpa using this
    have af:F (qK C.lo ops.toList) l s0 (λ i=>(c.setIfInBounds j true).getD i false) n=yh (F (qK C.lo ops.toList) l s0 (λ i=>c.getD i false) n) (jV o) y:=by rw[J];exact ax
    unfold wpOp;rw[B];simp only
    have next:∀Γ' w' u L,Ext Γ w Γ' w'->Inv Γ' (turn (F (qK C.lo ops.toList) l s0 (λ i=>c.getD i false) n).σ y.2) w'->Rep Γ' y.1 u->qO (F (qK C.lo ops.toList) l s0 (λ i=>c.getD i false) n).σ (turn (F (qK C.lo ops.toList) l s0 (λ i=>c.getD i false) n).σ y.2)->
      qmj P Γ' w0 w' ops (λ i=>(c.setIfInBounds j true).getD i false=true) (a.put o.dst u) L->wpAny P .any ops Q g (c.setIfInBounds j true) (a.put o.dst u) w':=by
     intro Γ' w' u L e1 e2 e3 e4 e5;refine ih (c.setIfInBounds j true) Γ' w' (a.put o.dst u) L aj av ap aW ?_ ?_ e5 (wz V e1.size) ?_
     .rw[af];exact e2
     .rw[af];show RepL Γ' (qcM _ (jV o).dst y.1) _;rw[qsE];exact zu.put (waL e1.le S) o.dst e3
     .intro s f aA w2 a2 aZ g0 aY ay q1 q2 I r g3 aX E H;rw[af]at E;exact hq s f aA w2 a2 aZ g0 aY ay q1 q2 (e1.trans I) r g3 aX (e4.trans E) (by rw[H];cases hd:o.dst<;>rfl)
    cases O:zQ o with
    |false=>
      have aU:jV o=o:=by unfold jV;rw[O]
      have ag:∀Γ' w' u,Ext Γ w Γ' w'->qmj P Γ' w0 w' ops (λ i=>(c.setIfInBounds j true).getD i false=true) (a.put o.dst u) ad:=λ Γ' w' u M=>by
       have R:=X.step (d:=o.dst) (u:=u) M λ k q t ab z Y aI=>by
        let⟨_,d,a8,a7⟩:=ao k q z Y;grind
       have conv:∀k q,(c.setIfInBounds j true).getD k false=true->ops[k]?=some q->zQ q=true->c.getD k false=true:=λ k q h2 z Y=>by
        grind
       exact⟨λ k q e d I r g3=>R.blk k q e d (conv k q I r (by simp[zQ,g3])) r g3,λ k q e d v I r g3=>R.tmp k q e d v (conv k q I r (by simp[zQ,g3])) r g3,λ k k' q q' I r g3 E H g6=>R.inj k k' q q' (conv k q I g3 H) (conv k' q' r E g6) g3 E H g6⟩
      obtain⟨W,G⟩|⟨W,rfl⟩:=hy
      .rw[if_pos (qiJ S (qpF W))];left;rw[aU]at G;refine qJa hC hx hi S G _ _ ?_;grind
      .rw[if_neg (by rw[qiJ S (qpF W)];exact kE)];exact next Γ w undef ad (.refl _ _) hi (.tup [] [] rfl λ i x u h=>by simp at h) (.refl _) (ag Γ w undef (.refl _ _))
    |true=>
      let⟨e,Z⟩:=qeJ O;let⟨aR,d,a1,a4⟩:=ao j o B O
      have aE:y=(.dead,none):=by
       obtain⟨W,G⟩|⟨W,rfl⟩:=hy
       .have:(jV o).op=.move (.global 0):=by unfold jV;rw[O]
        rw[this]at G;simp only[opA,qc,aev,wB]at G;exact G.symm
       .have W:=qpF W;grind [yC]
      subst aE;have aF:yC ops (F (qK C.lo ops.toList) l s0 (λ i=>c.getD i false) n).tm o=some true:=by unfold yC;rw[aR]
      rw[if_pos (qiJ S aF)];left;let⟨td,ah,a3⟩:=hz j o e (by omega) B Z;have hb:Below w.heap.size w (w.alloc (.cells td.zero.toArray e)):=(Below.refl _ _).alloc (wa _) _;unfold Oper.wp;rw[qLq Z ah];refine next Γ _ (.pointer (some ⟨w.heap.size,0,none⟩)) (λ k=>if k=j then w.heap.size else ad k) (qhh hb (wa _)) (hi.later hb) (.dead _) (.refl _) ?_
      have R:=X.step (d:=o.dst) (u:=.pointer (some ⟨w.heap.size,0,none⟩)) (qhh (Γ:=Γ) hb (wa _)) λ k q t ab z Y aI=>by
       grind
      have aq:=hi.free (wa w.heap.size);have conv:∀k,(c.setIfInBounds j true).getD k false=true->k≠j->c.getD k false=true:=λ k h2 aM=>(yF k h2).resolve_left aM
      have an:∀k q,c.getD k false=true->ops[k]?=some q->zQ q=true->ad k<w.heap.size:=λ k q h2 h3 h4=>by
       let⟨e',au⟩:=qeJ h4
       have a5:k<n:=by
        grind
       let⟨aB,aH,aG⟩:=hz k q e' (by omega) h3 au;exact(Array.getElem?_eq_some_iff.1 (X.blk k q e' aB h2 h3 au aH aG).2.1).1
      refine⟨λ k q e' d' I r g3 E H=>?_,λ k q e' d' v I r g3 E H=>?_,λ k k' q q' I r g3 E H g6 g7=>?_⟩
      .by_cases p:k=j
       .subst p;rw[B]at r;cases r;rw[Z]at g3;cases g3;rw[ah]at E;cases E;simp only[if_true];exact⟨V,heap_alloc_new w _,aq.1,aq.2⟩
       .simp only[if_neg p];exact R.blk k q e' d' (conv k I p) r g3 E H
      .by_cases p:k=j
       .subst p;rw[B]at r;cases r;simp only[if_true];rw[E]at H;have H:(a.tmps.setIfInBounds d' (.pointer (some ⟨w.heap.size,0,none⟩)))[d']?=some v:=H;grind
       .simp only[if_neg p];exact R.tmp k q e' d' v (conv k I p) r g3 E H
      .by_cases p:k=j
       .grind
       .by_cases T:k'=j
        .grind
        .simp only[if_neg p,if_neg T]at g7;exact X.inj k k' q q' (conv k I p) (conv k' r T) g3 E H g6 g7
end
end Go.AmZ
namespace Go.AmZ
open Go Go.RowKit
section
variable {P:Program}{C:Cfg}{Γ:Gh}{σ:St}{w:World}{ops:Array Oper}{ex:QG}{l:List (AV×Option St)}{s0:S}
theorem qLx(h:Inv Γ σ w){cs:List AV}{vs:List Value}{b:Nat}{e:TypeId}(E:w.heap[b]?=some (.cells vs.toArray e (0,0)))(m:¬ Jg Γ b)(x:∀i,Γ.mem b i=none)(B:RepL Γ cs vs)(F:∀u∈vs,u.oneCell'=true):
  ∃Γ',Le Γ Γ'/\(∀c,Jg Γ' c->Jg Γ c\/c=b)/\Γ'.mem=Γ.mem/\Inv Γ' {σ with bx:=σ.bx++[cs]} w/\Rep Γ' (.ptr σ.bx.length 0) (.pointer (some ⟨b,0,none⟩)):=by
 let Γ':Gh:={Γ with nb:=Γ.nb+1,β:=λ i=>if i=Γ.nb then b else Γ.β i}
 have g:∀i,i<Γ.nb->Γ'.β i=Γ.β i:=λ i f=>if_neg (by omega);have a:Γ'.β Γ.nb=b:=if_pos rfl;have k:Le Γ Γ':=⟨λ _ _ _ h=>h,ke _,g,wa _,λ _ _=>rfl,λ _ _=>wa _,λ _ _ _=>⟨rfl,rfl,rfl⟩⟩
 refine⟨Γ',k,?_,rfl,⟨?_,h.nr,h.mem,?_,?_,?_,?_,h.apart⟩,?_⟩
 .rintro c (⟨i,f,rfl⟩|q)
  .have f:i<Γ.nb+1:=f;by_cases d:i=Γ.nb
   .right;rw[d,a]
   .left;left;exact⟨i,by omega,(g i (by omega)).symm⟩
  .exact .inl (.inr q)
 .show Γ.nb+1=(σ.bx++[cs]).length;simp[h.nb]
 .intro i cs' f;rw[List.getElem?_append]at f;split at f
  .rename_i s;exact(h.box i cs' f).lift (by rw[h.nb];exact s) k λ o q=>q
  .rename_i s
   have z:i-σ.bx.length=0:=by
    grind
   rw[z]at f;simp at f;subst f;have y:i=Γ.nb:=by rw[h.nb];omega
   refine .of ⟨vs.toArray,e,?_,by simpa using B.mono k,by simpa using F⟩;rw[y,a];exact E
 .intro i j f D l;have v:i<Γ.nb+1:=f;have C:j<Γ.nb+1:=D;by_cases d:i=Γ.nb<;>by_cases t:j=Γ.nb
  .rw[d,t]
  .rw[d,a,g j (by omega)]at l;exact(m (.inl ⟨j,by omega,l.symm⟩)).elim
  .rw[t,a,g i (by omega)]at l;exact(m (.inl ⟨i,by omega,l⟩)).elim
  .rw[g i (by omega),g j (by omega)]at l;exact h.inj i j (by omega) (by omega) l
 .intro i f o;have v:i<Γ.nb+1:=f;by_cases d:i=Γ.nb
  .rw[d,a];exact x o
  .rw[g i (by omega)];exact h.boxmem i (by omega) o
 .intro r R p;have n:r<Γ.nr:=by rw[h.nr];exact getElem?_lt p
  refine(h.row r R p).lift n k rfl (λ _ G q=>q) (λ _ _ x=>x) λ A i f H l=>?_;have v:i<Γ.nb+1:=f;have d:i=Γ.nb:=by omega
  rw[d,a]at l;exact m (.inr ⟨r,n,A,l.symm⟩)
 .rw[<-a,h.nb];exact .ptr _ _ (by show σ.bx.length<Γ.nb+1;rw[h.nb];omega)
theorem qqx{lo:Nat->Bool}{l:List Oper}{o:Oper}(h:qbu l o=true):zm lo o.op=false:=by
 cases a:zm lo o.op with
 |false=>rfl
 |true=>
   exfalso
   have c:Qd o.op=true\/qr4 o.op=true:=by
    unfold zm at a;split at a<;>first|(cases a;done)|(rename_i e;rw[e];first|exact .inl rfl|exact .inr rfl)
   unfold qbu qhS qsT at h;simp only[wY,wc,wM]at h;obtain⟨⟨b,d⟩,_⟩|⟨b,_⟩:=h
   .grind
   .unfold qvu at b;split at b
    .rename_i e;rw[e]at a;cases a
    .rename_i e;rw[e]at a;cases a
    .cases b
theorem qHE{l:List Oper}{o:Oper}(h:qbu l o=true):zQ o=false/\∀q∈l,zQ q=true->∀d,q.dst=some d->d ∉ qbr ⟨l⟩ o:=by
 unfold qbu at h;rw[wY]at h;obtain h|h:=h
 .grind [qhS]
 .unfold qsT at h;rw[wc]at h
  have a:zQ o=false:=by
   have:=h.1;unfold qvu at this;grind [zQ]
  refine⟨a,λ q c g d f e=>?_⟩;have b:=h.2;unfold qO0 at b;grind
def idA(nb:Nat)(ops:Array Oper)(k:Nat):Nat:=nb+(ops.toList.take k).countP zQ
theorem qpH{nb k:Nat}{o:Oper}(a:ops[k]?=some o):idA nb ops (k+1)=idA nb ops k+(if zQ o then 1 else 0):=by
 grind [idA,Array.getElem?_eq_some_iff,List.take_add_one,List.countP_singleton]
def qKg(ops:Array Oper)(P:Nat->Prop)(nb:Nat)(b a:List AV):Prop:=
 a.length=b.length/\∀t,(∀(k:Nat) (o:Oper),P k->ops[k]?=some o->zQ o=true->o.dst=some t->a.getD t .dead=if t<b.length then .ptr (idA nb ops k) 0 else .dead)/\
  ((∀(k:Nat) (o:Oper),P k->ops[k]?=some o->zQ o=true->o.dst≠some t)->a.getD t .dead=b.getD t .dead)
theorem qoI(a:List AV)(d t:Nat)(x:AV):(a.set d x).getD t .dead=if d=t then(if t<a.length then x else .dead)else a.getD t .dead:=by
 grind
theorem qpZ{n nb:Nat}(f:∀(j:Nat) (o:Oper),ops[j]?=some o->zQ o=true->o.guard=none/\∃d,o.dst=some d/\∀(k:Nat) (q:Oper),ops[k]?=some q->k≠j->q.dst≠some d):∀(a:List Oper) (i:Nat) (s g:S),(∀(j:Nat) (o:Oper),a[j]?=some o->i+j<n/\ops[i+j]?=some o)->i+a.length=n->zD C ex ops false (a.filter zQ) s=some g->s.σ.bx.length=idA nb ops i->
  qKg ops (λ k=>i<=k/\k<n) nb s.tm g.tm
 |[],i,s,g,_,B,h,_=>by
   simp only[wam,zD,wB]at h;subst h;simp at B;exact⟨rfl,λ t=>⟨λ k o u=>by omega,λ _=>rfl⟩⟩
 |o::a,i,s,g,F,B,h,H=>by
   obtain⟨N,c⟩:=F 0 o rfl;have c:ops[i]?=some o:=by simpa using c
   have l:∀(j:Nat) (q:Oper),a[j]?=some q->i+1+j<n/\ops[i+1+j]?=some q:=λ j q w=>by
    have:=F (j+1) q w;grind
   have p:i+1+a.length=n:=by rw[<-B];simp;omega
   cases b:zQ o with
   |false=>
     rw[xR (by rw[b];exact kE)]at h;obtain⟨z,y⟩:=qpZ f a (i+1) s g l p h (by rw[qpH c,b];exact H);refine⟨z,λ t=>⟨λ k q u w I x=>(y t).1 k q ⟨?_,u.2⟩ w I x,λ m=>(y t).2 λ k q u=>m k q ⟨by omega,u.2⟩⟩⟩;grind
   |true=>
     rw[xS b]at h;obtain⟨e,A⟩:=qeJ b;obtain⟨D,d,v,L⟩:=f i o c b;simp only[zD]at h;have K:yC ops s.tm o=some true:=by unfold yC;rw[D]
     rw[K]at h;simp only[A,opA,qc]at h;cases x:C.ty e with
     |none=>rw[x]at h;cases h
     |some J=>
       rw[x]at h;simp only at h;cases E:J.zero.all zk with
       |false=>rw[E]at h;cases h
       |true=>
         rw[E]at h;simp only[kN]at h;obtain⟨z,y⟩:=qpZ f a (i+1) _ g l p h (by show(s.σ.bx++[_]).length=_;rw[qpH c,b,wd,H];rfl);rw[v]at z y;have r:(qcM s.tm (some d) (.ptr s.σ.bx.length 0)).length=s.tm.length:=wI ..;have G:∀t,(qcM s.tm (some d) (.ptr s.σ.bx.length 0)).getD t .dead=if d=t then(if t<s.tm.length then .ptr s.σ.bx.length 0 else .dead)else s.tm.getD t .dead:=λ t=>qoI s.tm d t _;refine⟨z.trans r,λ t=>⟨λ k q u w I M=>?_,λ m=>?_⟩⟩
         .grind
         .grind
theorem qrD(X:yr P C){n nb:Nat}{y:Gh}{w0:World}{a:Act}{ad:Nat->Nat}:∀(f:List Oper) (i:Nat) (s z:S) (σ:St) (Γ:Gh),(∀(j:Nat) (o:Oper),f[j]?=some o->i+j<n/\ops[i+j]?=some o)->i+f.length=n->zD C ex ops false (f.filter zQ) s=some z->
  (∀(j:Nat) (o:Oper),ops[j]?=some o->zQ o=true->o.guard=none)->s.σ=σ->s.σ.bx.length=idA nb ops i->Inv Γ σ w->qmj P Γ w0 w ops (λ k=>i<=k/\k<n) a ad->Ext y w0 Γ w->
  ∃Γ',Le Γ Γ'/\Ext y w0 Γ' w/\Inv Γ' z.σ w/\qO σ z.σ/\∀(k:Nat) (o:Oper),i<=k->k<n->ops[k]?=some o->zQ o=true->Rep Γ' (.ptr (idA nb ops k) 0) (.pointer (some ⟨ad k,0,none⟩))
 |[],i,s,z,σ,Γ,_,N,h,_,m,_,I,B,p=>by
   simp only[wam,zD,wB]at h;subst h;simp at N;exact⟨Γ,.refl Γ,p,by rw[m];exact I,by rw[m];exact .refl _,λ k o r A=>by omega⟩
 |o::f,i,s,z,σ,Γ,Y,N,h,R,m,W,I,B,p=>by
   obtain⟨aa,g⟩:=Y 0 o rfl;have g:ops[i]?=some o:=by simpa using g
   have D:∀(j:Nat) (q:Oper),f[j]?=some q->i+1+j<n/\ops[i+1+j]?=some q:=λ j q M=>by
    have:=Y (j+1) q M;grind
   have G:i+1+f.length=n:=by rw[<-N];simp;omega
   have t:qmj P Γ w0 w ops (λ k=>i+1<=k/\k<n) a ad:=⟨λ k o e d r=>B.blk k o e d ⟨by omega,r.2⟩,λ k o e d u r=>B.tmp k o e d u ⟨by omega,r.2⟩,λ k k' o o' r A=>B.inj k k' o o' ⟨by omega,r.2⟩ ⟨by omega,A.2⟩⟩
   cases l:zQ o with
   |false=>
     rw[xR (by rw[l];exact kE)]at h;obtain⟨Γ',g0,g1,g2,g3,g4⟩:=qrD X f (i+1) s z σ Γ D G h R m (by rw[qpH g,l];exact W) I t p;grind
   |true=>
     rw[xS l]at h;obtain⟨e,E⟩:=qeJ l;simp only[zD]at h;have hw:yC ops s.tm o=some true:=by unfold yC;rw[R i o g l]
     rw[hw]at h;simp only[E,opA,qc]at h;cases U:C.ty e with
     |none=>rw[U]at h;cases h
     |some d=>
       rw[U]at h;simp only at h;cases H:d.zero.all zk with
       |false=>rw[H]at h;cases h
       |true=>
         rw[H]at h;simp only[kN]at h;have K:=X.ty e d U;obtain⟨g1,g2,g3,g4⟩:=B.blk i o e d ⟨wa _,by omega⟩ g E K H;obtain⟨b1,b2⟩:=qeG (Γ:=Γ) H;obtain⟨x,a1,a2,a3,a4,a5⟩:=qLx I g2 g3 g4 b1 b2
         have T:Ext y w0 x w:=⟨p.le.trans a1,p.os,p.tape,p.output,p.size,p.block,λ c V=>by
          rcases a2 c V with V|rfl
          .exact p.own c V
          .grind,λ b o u Z=>by rw[a3]at Z;exact p.memg b o u Z,p.drawn⟩
         have L:qmj P x w0 w ops (λ k=>i+1<=k/\k<n) a ad:=⟨λ k q e' d' r A h3 h4 h5=>by
          obtain⟨q1,q2,q3,q4⟩:=t.blk k q e' d' r A h3 h4 h5;refine⟨q1,q2,λ F=>?_,λ j=>by rw[a3];exact q4 j⟩;rcases a2 _ F with F|F
          .exact q3 F
          .have:=B.inj k i q o ⟨by omega,r.2⟩ ⟨wa _,by omega⟩ A g (by simp[zQ,h3]) l F;omega,t.tmp,t.inj⟩
         obtain⟨J,c0,c1,c2,c3,c4⟩:=qrD X f (i+1) _ z {σ with bx:=σ.bx++[d.zero.map .v]} x D G h R (by simp only;rw[m]) (by show(s.σ.bx++[_]).length=_;rw[qpH g,l,wd,W];rfl) a4 L T;have Q:qO σ {σ with bx:=σ.bx++[d.zero.map .v]}:=⟨by simp,wa _,λ j hj _=>by simp only[List.getElem?_append_left hj],λ _ _ _=>rfl,λ _ h=>h,λ _ h=>h⟩
         refine⟨J,a1.trans c0,c1,c2,Q.trans c3,λ k q r A M ha=>?_⟩;by_cases O:k=i
         .subst O;rw[<-W,m];exact a5.mono c0
         .exact c4 k q (by omega) A M ha
theorem qvo{l:S}:∀(a:List Oper) (s:S),zD C ex ops false (a.filter zQ) s=some l->(∀o∈a,zQ o=true->o.guard=none)->∀o∈a,∀e,o.op=.alloc e->∃d,C.ty e=some d/\d.zero.all zk=true
 |[],_,_,_,o,b,_,_=>by cases b
 |q::a,s,h,i,o,b,e,f=>by
   cases c:zQ q with
   |false=>
     rw[xR (by rw[c];exact kE)]at h;obtain rfl|b:=wv.1 b
     .simp[zQ,f]at c
     .exact qvo a s h (λ o b=>i o (we _ b)) o b e f
   |true=>
     rw[xS c]at h;let⟨n,g⟩:=qeJ c;simp only[zD]at h;have m:yC ops s.tm q=some true:=by unfold yC;rw[i q (wh ..) c]
     rw[m]at h;simp only[g,opA,qc]at h;cases k:C.ty n with
     |none=>rw[k]at h;cases h
     |some d=>
       rw[k]at h;simp only at h;cases j:d.zero.all zk with
       |false=>rw[j]at h;cases h
       |true=>
         rw[j]at h;simp only[kN]at h;obtain rfl|b:=wv.1 b
         .grind
         .exact qvo a _ h (λ o b=>i o (we _ b)) o b e f
theorem qL8{b:List (AV×Option St)}{a:S}{L:Nat->Bool}{n:Nat}(h:∀i,n<=i->L i=false):∀m,F ops.toList b a L (n+m)=F ops.toList b a L n
 |0=>rfl
 |m+1=>by
   show F ops.toList b a L (n+m+1)=_;simp only[F];rw[h (n+m) (by omega)];split
   .rename_i c;cases c
   .exact qL8 h m
def qsQ(ops:Array Oper)(n nb:Nat)(lA lS:List (AV×Option St)):List (AV×Option St):=
 (List.range n).map (λ k=>match ops[k]? with
  |some o=>match zQ o with
    |true=>(AV.ptr (idA nb ops k) 0,none)
    |false=>((lA.getD k (.dead,none)).1,none)
  |none=>(.dead,none))++lS
theorem qqm{n nb k:Nat}{lA lS:List (AV×Option St)}{o:Oper}(a:k<n)(b:ops[k]?=some o):(qsQ ops n nb lA lS)[k]?=some (match zQ o with
  |true=>(AV.ptr (idA nb ops k) 0,none)
  |false=>((lA.getD k (.dead,none)).1,none)):=by
 unfold qsQ;rw[List.getElem?_append_left (by simpa using a),List.getElem?_map,List.getElem?_range a];simp only[k8,b]
theorem qqt{n nb k:Nat}{lA lS:List (AV×Option St)}:(qsQ ops n nb lA lS)[n+k]?=lS[k]?:=by
 grind [qsQ]
theorem qHT{n nb:Nat}{lA lS:List (AV×Option St)}{s0 b:S}(g:b.tm=s0.tm)(K:n=qcW C.lo ops.toList)(J:qu9 C ⟨qK C.lo ops.toList⟩ lA)(h:∀(j:Nat) (o:Oper),ops[j]?=some o->zQ o=true->o.guard=none/\∃d,o.dst=some d/\∀(k:Nat) (q:Oper),ops[k]?=some q->k≠j->q.dst≠some d)
  (L:Nat->Bool):∀k,k<=n->qKg ops (λ i=>i<k/\L i=true) nb (F (qK C.lo ops.toList) lA s0 L k).tm (F ops.toList (qsQ ops n nb lA lS) b L k).tm
 |0,_=>⟨by show b.tm.length=s0.tm.length;rw[g],λ t=>⟨λ k o M=>by omega,λ _=>by show b.tm.getD t _=s0.tm.getD t _;rw[g]⟩⟩
 |k+1,M=>by
   obtain⟨B,A⟩:=qHT (lS:=lS) g K J h L k (by omega);have I:qcW C.lo ops.toList<=ops.size:=by simpa using qsH C.lo ops.toList
   obtain⟨o,p⟩:=jo (ops:=ops) (k:=k) (by omega);have v:ops.toList[k]?=some o:=by simpa using p
   have u:(qK C.lo ops.toList)[k]?=some (jV o):=by rw[qms (by omega),v];rfl
   obtain⟨y,H,_⟩:=J k (jV o) (by simpa using u);have N:=qqm (n:=n) (nb:=nb) (lA:=lA) (lS:=lS) (k:=k) (by omega) p;simp only[F,u,H,v,N];cases G:L k with
   |false=>
     refine⟨B,λ t=>⟨λ i q e=>(A t).1 i q ⟨?_,e.2⟩,λ a=>(A t).2 λ i q e=>a i q ⟨by omega,e.2⟩⟩⟩;grind
   |true=>
     simp only[yh,qsE];cases l:zQ o with
     |true=>
       obtain⟨_,d,z,s⟩:=h k o p l;simp only[z,qcM];refine⟨by rw[wI,wI,B],λ t=>⟨λ i q e m r c=>?_,λ a=>?_⟩⟩
       .rw[qoI,wI];grind
       .have f:d≠t:=λ w=>a k o ⟨by omega,G⟩ p l (by rw[z,w]);rw[qoI,if_neg f,qoI,if_neg f];grind
     |false=>
       have D:(lA.getD k (.dead,none)).1=y.1:=by rw[List.getD_eq_getElem?_getD,H];rfl
       rw[D];cases z:o.dst with
       |none=>
         refine⟨B,λ t=>⟨λ i q e m r c=>(A t).1 i q ⟨?_,e.2⟩ m r c,λ a=>(A t).2 λ i q e=>a i q ⟨by omega,e.2⟩⟩⟩;grind
       |some d=>
         simp only[qcM];refine⟨by rw[wI,wI,B],λ t=>⟨λ i q e m r c=>?_,λ a=>?_⟩⟩
         .have E:i≠k:=λ w=>by subst w;rw[p]at m;cases m;rw[l]at r;cases r
          obtain⟨_,O,x,s⟩:=h i q m r;rw[c]at x;cases x;have f:d≠t:=λ w=>s k o p (xT E) (by rw[z,w]);rw[qoI,if_neg f,wI];grind
         .grind [qoI]
theorem qha{n:Nat}{b:List (AV×Option St)}{a:S}{L:Nat->Bool}(h:∀k y,k<n->b[k]?=some y->y.2=none):∀k,k<=n->(F ops.toList b a L k).σ=a.σ
 |0,_=>rfl
 |k+1,d=>by
   simp only[F];split
   .rename_i o y _ c _;rw[putS_σ _ _ _ (h k y (by omega) c)];exact qha h k (by omega)
   .exact qha h k (by omega)
theorem recB_σ{n nb:Nat}{lA lS:List (AV×Option St)}(c:n<=ops.size):∀k y,k<n->(qsQ ops n nb lA lS)[k]?=some y->y.2=none:=by
 intro k y d a;let⟨o,b⟩:=jo (ops:=ops) (k:=k) (by omega);grind [qqm]
theorem qKt{lo:Nat->Bool}{o:Oper}(h:zm lo (jV o).op=true):jV o=o:=by
 unfold jV at h |-
 split at h
 .cases h
 .rfl
theorem qLi{n:Nat}{lA:List (AV×Option St)}(s:n=qcW C.lo ops.toList)(l:qu9 C ⟨qK C.lo ops.toList⟩ lA){L:Nat->Bool}(v:∀(i:Nat) (q:Oper),i<n->ops[i]?=some q->qbu ops.toList q=false->L i=true):∀k,k<=n->(F (qK C.lo ops.toList) lA s0 L k).σ=(F (qK C.lo ops.toList) lA s0 qp k).σ
 |0,_=>rfl
 |k+1,w=>by
   have h:qcW C.lo ops.toList<=ops.size:=by simpa using qsH C.lo ops.toList
   let⟨o,p⟩:=jo (ops:=ops) (k:=k) (by omega);have m:ops.toList[k]?=some o:=by simpa using p
   have c:(⟨qK C.lo ops.toList⟩:Array Oper)[k]?=some (jV o):=by
    grind [qms]
   let⟨y,_,t,j⟩:=JE (ops:=⟨qK C.lo ops.toList⟩) (s0:=s0) l c;have g:=qLi s l v k (by omega);have f:=j L;have e:=j qp;show(F (⟨qK C.lo ops.toList⟩:Array Oper).toList lA s0 L (k+1)).σ=(F (⟨qK C.lo ops.toList⟩:Array Oper).toList lA s0 qp (k+1)).σ;rw[f,e,if_pos (show qp k=true from rfl)];cases b:y.2 with
   |none=>
     rw[putS_σ _ _ _ b];split
     .rw[putS_σ _ _ _ b];exact g
     .exact g
   |some σ'=>
     have a:=t (by rw[b];rfl);have d:=qKt a
     have r:qbu ops.toList o=false:=by
      cases u:qbu ops.toList o with
      |false=>rfl
      |true=>rw[d,qqx u]at a;cases a
     grind [yh,turn]
def qkO(n:Nat)(σ σ':St):Prop:=σ'.rw=σ.rw/\∀b,b<n->σ'.bx[b]?=σ.bx[b]?
theorem qOm{e:List AV}{σ σ':St}{op:Op}{x:AV}(g:qvu op=true)(j:qkO σ.bx.length σ σ')(h:opA C ex e σ op=some (x,none)):opA C ex e σ' op=some (x,none):=by
 unfold qvu at g;split at g<;>try cases g
 .rename_i t a;simp only[opA,qc]at h |-
  split at h<;>try cases h
  rename_i d m
  have l:∀y,jI d σ (aev e a)=some y->jI d σ' (aev e a)=some y:=λ y c=>by
   cases f:aev e a with
   |ptr b o=>
     rw[f]at c;simp only[jI]at c |-
     cases k:σ.bx[b]? with
     |none=>rw[k]at c;cases c
     |some cs=>rw[j.2 b (getElem?_lt k)];exact c
   |rpt r i o n=>
     rw[f]at c;simp only[jI,j.1]at c |-;exact c
   |_=>rw[f]at c;exact c
  grind
 .rename_i t a i;have h:qc C e σ (.indexAddr t a i)=some (x,none):=h;show qc C e σ' (.indexAddr t a i)=some (x,none);rw[qHe j.1];exact h
theorem qeU{n:Nat}:∀(a:List Oper) (s c:S),zD C ex ops false (a.filter zQ) s=some c->n<=s.σ.bx.length->qkO n s.σ c.σ
 |[],s,c,h,_=>by
   simp only[wam,zD,wB]at h;subst h;exact⟨rfl,λ _ _=>rfl⟩
 |o::a,s,c,h,i=>by
   cases d:zQ o with
   |false=>
     rw[xR (by rw[d];exact kE)]at h;exact qeU a s c h i
   |true=>
     rw[xS d]at h;let⟨e,f⟩:=qeJ d;simp only[zD]at h;split at h
     .simp only[f,opA,qc]at h;cases j:C.ty e with
      |none=>rw[j]at h;cases h
      |some k=>
        rw[j]at h;simp only at h;cases g:k.zero.all zk with
        |false=>rw[g]at h;cases h
        |true=>
          rw[g]at h;simp only[kN]at h;let⟨p,m⟩:=qeU (n:=n) a _ c h (by show n<=(s.σ.bx++[_]).length;rw[wd];omega);exact⟨p,λ b l=>by rw[m b l];show(s.σ.bx++[_])[b]?=_;rw[List.getElem?_append_left (by omega)]⟩
     .exact qeU (n:=n) a ⟨qcM s.tm o.dst qoc,s.σ⟩ c h i
     .cases h
theorem qKl(hC:yr P C)(hx:qcQ P ex){id:Nat}{s K R s':S}(au:qjy C.lo ops.toList=true)(ba:qcZ C.lo ops=true)(hk:qfh C.lo s.tm ⟨qK C.lo ops.toList⟩ true=true)(h:zD C ex ⟨qK C.lo ops.toList⟩ true (qK C.lo ops.toList) s=some K)(hm:zD C ex ops false (alL C.lo ops.toList) K=some R)(h':zD C ex ops true (qsm C.lo ops.toList) R=some s'){a:Act}{Q:Exit->Act->World->Prop}(hi:Inv Γ s.σ w)(Y:zu Γ s.tm a)
  (B:∀Γ' w' a',Ext Γ w Γ' w'->Inv Γ' s'.σ w'->zu Γ' s'.tm a'->qO s.σ s'.σ->a'.defers=a.defers->Q .normal a' w'):(Code.region id ops true).wp P Q a w:=by
 let⟨lA,h1,h2,h3,h4⟩:=qjP (qK C.lo ops.toList) s K h;let⟨lS,e1,e2,e3,_⟩:=qjP (qsm C.lo ops.toList) R s' h';have hT:qdS C ex ⟨qK C.lo ops.toList⟩ lA s:=qsO h3 h4;rw[qpX]at h2;have hk:qb6 C.lo s.tm ⟨qK C.lo ops.toList⟩=true:=hk;let⟨bC,aq,av⟩:=qBo au;generalize hn:qcW C.lo ops.toList=n at h2 aq;have bj:n<=ops.size:=by rw[<-hn];simpa using qsH C.lo ops.toList
 have hg:∀(j:Nat) (o:Oper),ops[j]?=some o->zQ o=true->o.guard=none:=λ j o M ha=>(av j o M ha).1
 have aL:∀(j:Nat) (o:Oper),(ops.toList.take n)[j]?=some o->0+j<n/\ops[0+j]?=some o:=λ j o M=>by
  grind
 have ak:0+(ops.toList.take n).length=n:=by simp;omega
 have hm:zD C ex ops false ((ops.toList.take n).filter zQ) K=some R:=by rw[<-hn];exact hm
 have aZ:qsm C.lo ops.toList=ops.toList.drop n:=by unfold qsm;rw[hn]
 rw[aZ]at e1 e2 e3
 have hz:∀k o e,k<qcW C.lo ops.toList->ops[k]?=some o->o.op=.alloc e->∃d,yQ P e=some d/\d.zero.all zk=true:=λ k o e hk M aO=>by
  rw[hn]at hk;have a6:o∈ops.toList.take n:=wb (i:=k) (by rw[List.getElem?_take,if_pos hk];simpa using M)
  let⟨d,D,G⟩:=qvo _ K hm (λ q B H=>by
   let⟨j,hj⟩:=List.getElem?_of_mem B;exact hg (0+j) q (aL j q hj).2 H) o a6 e aO
  exact⟨d,hC.ty e d D,G⟩
 have af:∀L:Nat->Bool,(∀(i:Nat) (q:Oper),i<n->ops[i]?=some q->qbu ops.toList q=false->L i=true)->(F (qK C.lo ops.toList) lA s L n).σ=K.σ:=λ L hL=>by
  rw[qLi hn.symm hT.recd hL n (wa _),h2]
 have aR:∀k,F (qK C.lo ops.toList) lA s (λ i=>(Array.replicate ops.size false).getD i false) k=s:=by
  intro k
  induction k with
  |zero=>rfl
  |succ k X=>
    simp only[F]
    have:(Array.replicate ops.size false).getD k false=false:=by
     rw[wK,Array.getElem?_replicate];split<;>rfl
    rw[this];split
    .rename_i hf;cases hf
    .exact X
 have V:∀i,(Array.replicate ops.size false).getD i false=false:=λ i=>by
  rw[wK,Array.getElem?_replicate];split<;>rfl
 let nb:=K.σ.bx.length;have aG:K.σ.bx.length=idA nb ops 0:=rfl;let A:=qsQ ops n nb lA lS;let f:S:=⟨s.tm,R.σ⟩
 have O:∀k y,k<n->A[k]?=some y->y.2=none:=recB_σ bj;have aD:∀L k,k<=n->qKg ops (λ i=>i<k/\L i=true) nb (F (qK C.lo ops.toList) lA s L k).tm (F ops.toList A f L k).tm:=qHT rfl hn.symm hT.recd av
 have bs:F ops.toList A f qp n=R:=by
  have hr:=qpZ (nb:=nb) av (ops.toList.take n) 0 K R aL ak hm aG;have N:=aD qp n (wa _);rw[h2]at N;have aV:(F ops.toList A f qp n).σ=R.σ:=qha O n (wa _)
  have bP:(F ops.toList A f qp n).tm=R.tm:=by
   have ar:(F ops.toList A f qp n).tm.length=R.tm.length:=by rw[N.1,hr.1]
   have bc:∀t,(F ops.toList A f qp n).tm.getD t .dead=R.tm.getD t .dead:=λ t=>by
    by_cases ai:∃(k:Nat) (o:Oper),k<n/\ops[k]?=some o/\zQ o=true/\o.dst=some t
    .let⟨k,o,q1,W,T,q4⟩:=ai;rw[(N.2 t).1 k o ⟨q1,rfl⟩ W T q4,(hr.2 t).1 k o ⟨wg _,q1⟩ W T q4]
    .rw[(N.2 t).2 λ k o hk W T q4=>ai ⟨k,o,hk.1,W,T,q4⟩,(hr.2 t).2 λ k o hk W T q4=>ai ⟨k,o,hk.2,W,T,q4⟩]
   apply List.ext_getElem ar;intro i D G;have:=bc i;grind
  show F ops.toList A f qp n=R;generalize F ops.toList A f qp n=z at *;let⟨z1,z2⟩:=z;simp_all
 have ac:∀i,i<=(ops.toList.drop n).length->F ops.toList A f qp (n+i)=F (ops.toList.drop n) lS R qp i:=by
  intro i
  induction i with
  |zero=>intro _;exact bs
  |succ i X=>
    intro ah;show F ops.toList A f qp (n+i+1)=_;have hl:A[n+i]?=lS[i]?:=qqt;simp only[F,List.getElem?_drop,hl,X (by omega)];rfl
 have ar:n+(ops.toList.drop n).length=ops.size:=by simp;omega
 have bd:F ops.toList A f qp ops.size=s':=by rw[<-ar,ac _ (wa _)];exact e2
 have E:qu9 C ops A:=by
  intro i o M;have bT:i<ops.size:=(Array.getElem?_eq_some_iff.1 M).1;by_cases bF:i<n
  .have hy:=qqm (nb:=nb) (lA:=lA) (lS:=lS) bF M;grind
  .obtain⟨j,rfl⟩:∃j,i=n+j:=⟨i-n,by omega⟩
   let⟨y,D,_,g3⟩:=e3 j o (by rw[List.getElem?_drop];simpa using M);grind [qqt]
 have aM:∀(L:Nat->Bool) (j:Nat) (o:Oper),qcK ops L->(∀(i:Nat) (q:Oper),i<n->ops[i]?=some q->qbu ops.toList q=false->L i=true)->ops[j]?=some o->L j=false->(∀e∈jF o,L e=true)->
   ∃y,qbx C ex ops o (F ops.toList A f L ops.size) y/\F ops.toList A f (λ i=>decide (i=j)||L i) ops.size=yh (F ops.toList A f L ops.size) o y:=by
  intro L j o hd aw M hL hp;have bS:j<ops.size:=(Array.getElem?_eq_some_iff.1 M).1;let⟨y,hy,bB⟩:=E j o M;refine⟨y,?_,qHn (s0:=f) E ba hd M hL hp hy bB⟩;have ae:∀t∈qbr ops o,(F ops.toList A f L ops.size).tm.getD t .dead=(F ops.toList A f qp j).tm.getD t .dead:=λ t Y=>qnf (s0:=f) E ba hd M hL hp Y;by_cases bb:j<n
  .-- it qbr at no memory
   have hf:qbu ops.toList o=true:=by
    cases hf:qbu ops.toList o with
    |true=>rfl
    |false=>rw[aw j o bb M hf]at hL;cases hL
   let⟨f2,f3⟩:=qHE hf;have bz:ops.toList[j]?=some o:=by simpa using M
   have bf:jV o=o:=by unfold jV;rw[f2]
   have bv:(qK C.lo ops.toList)[j]?=some o:=by
    rw[qms (by omega),bz];show some (jV o)=_;rw[bf]
   have aN:(⟨qK C.lo ops.toList⟩:Array Oper)[j]?=some o:=by simpa using bv
   have bh:qcK ⟨qK C.lo ops.toList⟩ L:=by
    intro i q B bM e he;obtain⟨bG,q',D,rfl⟩:=qvs (lo:=C.lo) (l:=ops.toList) (j:=i) (o:=q) (by simpa using B);rw[qnX]at he;exact hd i q' (by simpa using D) bM e he
   have aF:(⟨qK C.lo ops.toList⟩:Array Oper).size=n:=by show(qK C.lo ops.toList).length=n;rw[qpX,hn]
   let⟨z,z1,zs,_⟩:=qE1 hT hk bh aN hL hp;rw[aF]at zs;let⟨z',q1,_,T⟩:=hT.st j o aN;rw[z1]at q1;cases q1
   have ay:z.2=none:=by
    cases hc:z.2 with
    |none=>rfl
    |some τ=>have:=T (by rw[hc];rfl);rw[qqx hf]at this;cases this
   have aK:y=z:=by
    have h0:=qqm (nb:=nb) (lA:=lA) (lS:=lS) bb M;rw[f2]at h0;have hz:lA.getD j (.dead,none)=z:=by rw[List.getD_eq_getElem?_getD,z1];rfl
    simp only[hz]at h0;have hy:(qsQ ops n nb lA lS)[j]?=some y:=hy;rw[h0]at hy;cases hy;rw[<-ay]
   subst aK
   have am:∀t∈qbr ops o,(F ops.toList A f L ops.size).tm.getD t .dead=(F (qK C.lo ops.toList) lA s qp j).tm.getD t .dead:=λ t Y=>by
    rw[ae t Y];refine((aD qp j (by omega)).2 t).2 λ k q a9 B H aB=>?_;exact f3 q (wb (i:=k) (by simpa using B)) H t aB Y
   have ag:∀t∈qbr ⟨qK C.lo ops.toList⟩ o,(F (qK C.lo ops.toList) lA s L n).tm.getD t .dead=(F (qK C.lo ops.toList) lA s qp j).tm.getD t .dead:=λ t Y=>by
    have:=qnf (s0:=s) hT.recd (qlb hk) bh aN hL hp Y;rw[aF]at this;exact this
   have bq:=qkA (ops:=⟨qK C.lo ops.toList⟩) (o:=o) ag
   have hw:∀b,yC ⟨qK C.lo ops.toList⟩ (F (qK C.lo ops.toList) lA s L n).tm o=some b->yC ops (F ops.toList A f L ops.size).tm o=some b:=λ b N=>by
    rw[qkA am];rw[bq]at N;exact qpF (by rw[bf];exact N)
   obtain⟨D,G⟩|⟨D,G⟩:=zs
   .refine .inl ⟨hw _ D,?_⟩
    have ao:∀τ,opA C ex (F ops.toList A f L ops.size).tm τ o.op=opA C ex (F (qK C.lo ops.toList) lA s L n).tm τ o.op:=λ τ=>qvS (C:=C) (ex:=ex) (op:=o.op) (σ:=τ) (qrK (xs:=o.op.operands.toList) λ t Y=>(am t (by
     simp only[qbr,wj];exact .inl (.inr Y))).trans (ag t (by
     simp only[qbr,wj];exact .inl (.inr Y))).symm)
    have G:opA C ex (F (qK C.lo ops.toList) lA s L n).tm (F (qK C.lo ops.toList) lA s L n).σ o.op=some y:=G;rw[af L aw]at G;rw[ao];let⟨x,zz⟩:=y;have ay:zz=none:=ay;subst ay;have I:=hf;unfold qbu at I;rw[wY]at I;obtain I|I:=I
    .unfold qhS at I;simp only[wc,wM]at I;exact qEE I.1.1 (qqx hf) G
    .-- it lies behind stores into the region's boxes alone
     have aC:qvu o.op=true:=by
      unfold qsT at I;rw[wc]at I;exact I.1
     refine qOm aC ?_ G
     have bA:qhS ops.toList o=false:=by
      cases hc:qhS ops.toList o with
      |false=>rfl
      |true=>
        unfold qhS at hc;simp only[wc,wM]at hc;have:=hc.1.1;unfold qvu at aC;split at aC
        .rename_i e;rw[e]at this;cases this
        .rename_i e;rw[e]at this;cases this
        .cases aC
     have a5:∀(m:Nat) (q:Oper),ops[n+m]?=some q->L (n+m)=true->qx1 ops.toList q=true:=λ m q B ab=>by
      obtain N|⟨_,q',an,h'⟩:=aq (n+m) q B (by omega) j (by omega)
      .have:=qk3 hd (n+m) q B (hd (n+m) q B ab) N;rw[hL]at this;cases this
      .rw[M]at an;cases an;obtain h'|⟨_,h'⟩:=h'
       .rw[bA]at h';cases h'
       .exact h'
     have aE:∀(m:Nat) (q:Oper),ops[n+m]?=some q->L (n+m)=true->∀p,p<m->L (n+p)=true:=λ m q B ab p a4=>by
      obtain N|⟨N,_⟩:=aq (n+m) q B (by omega) (n+p) (by omega)
      .exact qk3 hd (n+m) q B (hd (n+m) q B ab) N
      .omega
     have aA:∀(k:Nat) (q:Oper) (d:Tmp),k<n->ops[k]?=some q->zQ q=true->q.dst=some d->∀m,n+m<=ops.size->(F ops.toList A f qp (n+m)).tm.getD d .dead=.dead\/∃b,nb<=b/\(F ops.toList A f qp (n+m)).tm.getD d .dead=.ptr b 0:=λ k q d aa B H aB m=>by
      induction m with
      |zero=>
        intro _;have:=((aD qp n (wa _)).2 d).1 k q ⟨aa,rfl⟩ B H aB;rw[wO,this];split
        .exact .inr ⟨_,by unfold idA;omega,rfl⟩
        .exact .inl rfl
      |succ m X=>
        intro ah;let⟨W,a0⟩:=jo (ops:=ops) (k:=n+m) (by omega);let⟨y2,_,_,hF⟩:=JE (s0:=f) E a0;show(F ops.toList A f qp (n+m+1)).tm.getD d .dead=_\/∃b,nb<=b/\(F ops.toList A f qp (n+m+1)).tm.getD d .dead=_;let⟨_,d',bi,br⟩:=av k q B H;rw[aB]at bi;cases bi;rw[hF qp,if_pos (show qp (n+m)=true from rfl),qmg _ _ _ _ (br (n+m) W a0 (by omega))];exact X (by omega)
     have aU:∀m,n+m<=ops.size->(∀(p:Nat) (q:Oper),p<m->ops[n+p]?=some q->qx1 ops.toList q=true)->qkO nb K.σ (F ops.toList A f qp (n+m)).σ:=by
      intro m
      induction m with
      |zero=>
        intro _ _;rw[wO,qha O n (wa _)];exact(qeU (ops.toList.take n) K R hm (wa _):qkO nb K.σ R.σ)
      |succ m X=>
        intro ah aH;let⟨q,B⟩:=jo (ops:=ops) (k:=n+m) (by omega);let⟨z,w1,w2,w3⟩:=e3 m q (by rw[List.getElem?_drop];simpa using B);let⟨y2,u1,_,hF⟩:=JE (s0:=f) E B;have:A[n+m]?=lS[m]?:=qqt;rw[this,w1]at u1;cases u1;rw[<-ac m (by omega)]at w2;have X:=X (by omega) λ p q a4=>aH p q (by omega);show qkO nb K.σ (F ops.toList A f qp (n+m+1)).σ;rw[hF qp,if_pos (show qp (n+m)=true from rfl)];cases Z:z.2 with
        |none=>rw[putS_σ _ _ _ Z];exact X
        |some ax=>
          have e:(yh (F ops.toList A f qp (n+m)) q z).σ=ax:=by simp[yh,Z,turn]
          rw[e];have ap:=aH m q (by omega) B;unfold qx1 at ap;split at ap<;>try cases ap
          rename_i t c v bw;rw[vJ]at ap;let⟨qa,bt,H⟩:=ap;rw[wc]at H;let⟨k,aa⟩:=List.getElem?_of_mem bt;have aa:ops[k]?=some qa:=by simpa using aa
          let⟨bJ,d,bg,_⟩:=av k qa aa H.1
          have bK:d=c:=by
           have:=H.2;unfold qnu at this;rw[bg]at this;exact wm this
          subst bK;let⟨x2,bn⟩:=z;have Z:bn=some ax:=Z;subst Z
          have bE:k<n:=by
           apply kU;intro bR;obtain⟨r,rfl⟩:∃r,k=n+r:=⟨k-n,by omega⟩
           have bQ:n+r<ops.size:=(Array.getElem?_eq_some_iff.1 aa).1;let⟨za,a1,a2,a3⟩:=e3 r qa (by rw[List.getElem?_drop];simpa using aa);let⟨ea,be⟩:=qeJ H.1;have bD:zm C.lo qa.op=false:=by rw[be];rfl
           obtain⟨_,a2⟩|⟨a2,_⟩:=a2
           .rw[be]at a2;simp only[opA,qc]at a2;split at a2<;>try cases a2
            split at a2<;>cases a2;have:=a3 rfl;rw[bD]at this;cases this
           .unfold yC at a2;rw[bJ]at a2;cases a2
          have U:=aA k qa d bE aa H.1 bg m (by omega);obtain⟨_,w2⟩|⟨_,w2⟩:=w2
          .obtain⟨b,off,D,bN,g3⟩|⟨r',i',o',bV,D⟩:=qi3 bw w2
           .obtain U|⟨b',bL,U⟩:=U
            .rw[U]at D;cases D
            .rw[U]at D;cases D;exact⟨bN.trans X.1,λ b N=>by rw[g3 b (by omega)];exact X.2 b N⟩
           .obtain U|⟨b',bL,U⟩:=U<;>(rw[U]at D;cases D)
          .cases w2
     have bO:∀m,n+m<=ops.size->qkO nb K.σ (F ops.toList A f L (n+m)).σ:=by
      intro m
      induction m with
      |zero=>
        intro _;rw[wO,qha O n (wa _)];exact(qeU (ops.toList.take n) K R hm (wa _):qkO nb K.σ R.σ)
      |succ m X=>
        intro ah;let⟨q,B⟩:=jo (ops:=ops) (k:=n+m) (by omega);let⟨z,_,_,hF⟩:=JE (s0:=f) E B;show qkO nb K.σ (F ops.toList A f L (n+m+1)).σ;rw[hF L];split
        .rename_i ab;cases Z:z.2 with
         |none=>rw[putS_σ _ _ _ Z];exact X (by omega)
         |some ax=>
           have Y:=aU (m+1) ah λ p q' a4 an=>a5 p q' an (by
            by_cases bu:p=m
            .subst bu;exact ab
            .exact aE m q B ab p (by omega))
           have bl:=hF qp;rw[if_pos (show qp (n+m)=true from rfl)]at bl;have e:∀s:S,(yh s q z).σ=ax:=λ s=>by simp[yh,Z,turn]
           have Y:qkO nb K.σ (F ops.toList A f qp (n+m+1)).σ:=Y;rw[bl,e]at Y;rw[e];exact Y
        .exact X (by omega)
     have:=bO (ops.size-n) (by omega);rw[show n+(ops.size-n)=ops.size by omega]at this;exact this
   .exact .inr ⟨hw _ D,G⟩
  .obtain⟨i,rfl⟩:∃i,j=n+i:=⟨j-n,by omega⟩
   have bU:i<(ops.toList.drop n).length:=by omega
   let⟨z,z1,z2,z3⟩:=e3 i o (by rw[List.getElem?_drop];simpa using M)
   have aK:y=z:=by
    have:A[n+i]?=lS[i]?:=qqt;rw[this,z1]at hy;cases hy;rfl
   subst aK;rw[<-ac i (by omega)]at z2
   have aV:(F ops.toList A f L ops.size).σ=(F ops.toList A f qp (n+i)).σ:=by
    have a8:∀m,n<=m->m<n+i->L m=true:=λ m a7 aP=>by
     obtain N|⟨N,_⟩:=aq (n+i) o M (by omega) m aP
     .exact qk3 hd (n+i) o M hp N
     .omega
    have aQ:∀m,n+i<m->m<ops.size->L m=false:=λ m a7 aP=>by
     let⟨q,B⟩:=jo (ops:=ops) (k:=m) aP;cases ab:L m with
     |false=>rfl
     |true=>
       obtain N|⟨N,_⟩:=aq m q B (by omega) (n+i) a7
       .have:=qk3 hd m q B (hd m q B ab) N;rw[hL]at this;cases this
       .omega
    have k1:∀m,m<=i->(F ops.toList A f L (n+m)).σ=(F ops.toList A f qp (n+m)).σ:=by
     intro m
     induction m with
     |zero=>intro _;rw[wO,qha O n (wa _),qha O n (wa _)]
     |succ m X=>
       intro ah;let⟨q,B⟩:=jo (ops:=ops) (k:=n+m) (by omega);let⟨y',_,_,hF⟩:=JE (s0:=f) E B;show(F ops.toList A f L (n+m+1)).σ=(F ops.toList A f qp (n+m+1)).σ;rw[hF L,hF qp,if_pos (a8 (n+m) (by omega) (by omega)),if_pos (show qp (n+m)=true from rfl)];show turn _ _=turn _ _;rw[X (by omega)]
    have k2:∀m,n+i+m<=ops.size->(F ops.toList A f L (n+i+m)).σ=(F ops.toList A f L (n+i)).σ:=by
     intro m
     induction m with
     |zero=>intro _;rfl
     |succ m X=>
       intro ah;let⟨q,B⟩:=jo (ops:=ops) (k:=n+i+m) (by omega);let⟨y',_,_,hF⟩:=JE (s0:=f) E B;show(F ops.toList A f L (n+i+m+1)).σ=_
       have hf:L (n+i+m)=false:=by
        cases m with
        |zero=>exact hL
        |succ m=>exact aQ _ (by omega) (by omega)
       rw[hF L,hf];simp only[xx,if_false];exact X (by omega)
    have:=k2 (ops.size-(n+i)) (by omega);rw[show n+i+(ops.size-(n+i))=ops.size by omega]at this;rw[this,k1 i (wa _)]
   have aW:=qkA (ops:=ops) (o:=o) ae
   have ao:=qvS (C:=C) (ex:=ex) (op:=o.op) (σ:=(F ops.toList A f L ops.size).σ) (qrK (xs:=o.op.operands.toList) λ t Y=>ae t (by
    simp only[qbr,wj];exact .inl (.inr Y)))
   obtain⟨D,G⟩|⟨D,G⟩:=z2
   .refine .inl ⟨by rw[aW];exact D,?_⟩;rw[ao,aV];exact G
   .exact .inr ⟨by rw[aW];exact D,G⟩
 refine wp_region_any hC.mixed ?_;refine qS7 hC hx hT hk au hz (w0:=w) hn.symm ops.size _ Γ _ a (λ _=>0) (by simp) (by rw[xi,vM];simp) (λ i _=>V i) ?_ ?_ ?_ ?_ (wa _) ?_
 .intro i q an bG;grind
 .rw[aR];exact hi.drew
 .rw[aR];exact Y
 .exact⟨λ k o e d h=>(by rw[V]at h;cases h),λ k o e d u h=>(by rw[V]at h;cases h),λ k k' o o' h=>(by rw[V]at h;cases h)⟩
 .intro aS g aJ w1 a1 bm x1 x2 x3 x4 x5 x6 x7 x8 x9 aj bp;have bo:Ext Γ w aJ w1:=(Ext.drew Γ w).trans x6
  have J:∀(k:Nat) (o:Oper),k<n->ops[k]?=some o->zQ o=true->g.getD k false=true:=λ k o q1 W T=>x4 k o q1 W (by
   cases hc:qbu ops.toList o with
   |false=>rfl
   |true=>rw[(qHE hc).1]at T;cases T)
  have al:qmj P aJ w w1 ops (λ k=>0<=k/\k<n) a1 bm:=⟨λ k o e d hh D G=>x9.blk k o e d (J k o hh.2 D (by simp[zQ,G])) D G,λ k o e d u hh D G=>x9.tmp k o e d u (J k o hh.2 D (by simp[zQ,G])) D G,λ k k' o o' hh bH D G g3 g4=>x9.inj k k' o o' (J k o hh.2 D g3) (J k' o' bH.2 G g4) D G g3 g4⟩
  rw[af _ x4]at x7;rw[af _ x4]at aj;have aj:qO s.σ K.σ:=by rw[aR]at aj;exact aj
  let⟨aT,c0,c1,c2,c3,c4⟩:=qrD hC (n:=n) (nb:=nb) (ad:=bm) (ops.toList.take n) 0 K R K.σ aJ aL ak hm hg rfl aG x7 al bo
  have bk:F ops.toList A f (λ i=>g.getD i false) ops.size=F ops.toList A f (λ i=>g.getD i false) n:=by
   grind [qL8]
  have aI:(F ops.toList A f (λ i=>g.getD i false) ops.size).σ=R.σ:=by rw[bk];exact qha O n (wa _)
  refine qIf hC hx (l:=A) (s0:=f) (Good:=λ L=>∀(i:Nat) (q:Oper),i<n->ops[i]?=some q->qbu ops.toList q=false->L i=true) (λ L j hg i q q1 W T=>by simp[hg i q q1 W T]) bC aM aS g aT w1 a1 x1 x2 x5 x4 (by rw[aI];exact c2) ?_ ?_
  .-- the slots
   rw[bk];let⟨b1,b2⟩:=aD (λ i=>g.getD i false) n (wa _);have aY:RepL aT (F (qK C.lo ops.toList) lA s (λ i=>g.getD i false) n).tm a1.tmps.toList:=waL c0 x8;refine⟨by rw[b1];exact aY.len,λ t x u hx hu=>?_⟩;have ak:=getElem?_lt hx;have az:(F ops.toList A f (λ i=>g.getD i false) n).tm.getD t .dead=x:=by rw[List.getD_eq_getElem?_getD,hx];rfl
   by_cases ai:∃(k:Nat) (o:Oper),k<n/\ops[k]?=some o/\zQ o=true/\o.dst=some t
   .let⟨k,o,q1,W,T,q4⟩:=ai;rw[(b2 t).1 k o ⟨q1,J k o q1 W T⟩ W T q4,if_pos (by rw[<-b1];exact ak)]at az;let⟨e,aO⟩:=qeJ T;have hp:=al.tmp k o e t u ⟨wg _,q1⟩ W aO q4 (by simpa using hu);grind
   .rw[(b2 t).2 λ k o a9 W T q4=>ai ⟨k,o,a9.1,W,T,q4⟩]at az;have aX:t<(F (qK C.lo ops.toList) lA s (λ i=>g.getD i false) n).tm.length:=by rw[<-b1];exact ak
    rw[List.getD_eq_getElem?_getD,List.getElem?_eq_getElem aX]at az;exact aY.rep t x u (by rw[List.getElem?_eq_getElem aX];exact congrArg some az) hu
  .intro Γ' w' a' D G g3 g4 g5;rw[bd]at G g3 g4;rw[aI]at g4;exact B Γ' w' a' (c1.trans D) G g3 (aj.trans (c3.trans g4)) (by rw[g5,bp])
end
end Go.AmZ
namespace Go.AmZ
open Go Go.RowKit
def qM1:AV->Bool
 |.rpt _ _ _ _|.ept _ _=>true
 |_=>false
theorem qKH{o:Oper}{a:Tmp×Operand}(h:stP o=some a):(∃t,o.op=.store t (.tmp a.1) a.2)/\o.guard=none/\o.dst=none:=by
 grind [stP]
theorem qRo{o:Oper}{d:Tmp}(h:ixP o=some d):(∃t x i,o.op=.indexAddr t x i)/\o.guard=none/\o.dst=some d:=by
 grind [ixP]
theorem qAK:∀{m b:Nat},quH m b=true->∀i,i<m->b.testBit i=true
 |0,_,_,i,a=>absurd a (wN _)
 |m+1,b,h,i,a=>by
   simp only[quH,wc]at h;obtain a|rfl:=Nat.lt_succ_iff_lt_or_eq.1 a
   .exact qAK h.2 i a
   .exact h.1
theorem qHZ{ops:Array Oper}{e:Bool}{b:Tmp}(h:qpS ops e=some b):e=true/\∃p o q d f c,qhW ops=[p,o,q]/\ixP p=some d/\stP o=some (d,f)/\stP q=some (b,c)/\b≠d/\qJP d c=true/\qIR (QX ops.toList []) (ops.toList.length-3) p o q=true:=by
 unfold qpS at h;split at h
 .refine⟨rfl,?_⟩;unfold qRR at h;split at h
  .rename_i p o q i;split at h
   .rename_i d a m l k j;split at h
    .rename_i g;cases h;simp only[wc,wM]at g;grind [Nat.eq_of_beq_eq_true]
    .cases h
   .cases h
  .cases h
 .cases h
section
variable {P:Program}{C:Cfg}{Γ:Gh}{σ:St}{w:World}{ops pre:Array Oper}{ex:QG}{l:List (AV×Option St)}{s0:S}
theorem qMM{g:List AV}{σ':St}{t:TypeId}{a:Tmp}{v:Operand}{b off:Nat}{x:AV}{z:Option St}(h:opA C ex g σ (.store t (.tmp a) v)=some (x,z))(m:g.getD a .dead=.ptr b off):
  ∃cs,z=some {σ with bx:=σ.bx.set b cs,wr:=b::σ.wr}/\∀(c:List AV) (τ:St),aev c (.tmp a)=aev g (.tmp a)->aev c v=aev g v->τ.bx=σ.bx->opA C ex c τ (.store t (.tmp a) v)=some (x,some {τ with bx:=τ.bx.set b cs,wr:=b::τ.wr}):=by
 have k:aev g (.tmp a)=.ptr b off:=m;simp only[opA,qc,k]at h;cases j:C.ty t with
 |none=>rw[j]at h;cases h
 |some d=>
   rw[j]at h;simp only at h;cases f:σ.bx[b]? with
   |none=>rw[f]at h;cases h
   |some cs=>
     rw[f]at h;simp only at h;split at h<;>cases h;rename_i l;refine⟨_,rfl,λ c τ o n i=>?_⟩;have e:τ.bx[b]?=some cs:=by rw[i];exact f
     simp only[opA,qc,o,n,k,j,e,l]
theorem qNh{a:List AV}{t:TypeId}{u i:Operand}{x:AV}{z:Option St}(b:qzd (aev a u)=false)(h:opA C ex a σ (.indexAddr t u i)=some (x,z)):
  z=none/\qM1 x=true/\∀τ:St,τ.rw=σ.rw->opA C ex a τ (.indexAddr t u i)=some (x,none):=by
 have c:∀τ:St,τ.rw=σ.rw->opA C ex a τ (.indexAddr t u i)=some (x,z):=λ τ d=>by
  simp_all [opA,qc]
 have f:z=none/\qM1 x=true:=by
  simp only[opA,qc]at h
  repeat' split at h
  all_goals first|(cases h;done)|(cases h;exact⟨rfl,rfl⟩)|(rename_i e _ _;rw[e]at b;cases b)|(exfalso;simp_all [qzd];done)
 grind
theorem qRh{b:List AV}{t:TypeId}{a:Tmp}{v:Operand}{y:AV}{x:AV}{z:Option St}(h:opA C ex b σ (.store t (.tmp a) v)=some (x,z))(o:b.getD a .dead=y)(m:qM1 y=true):
  ∃r R,z=some {σ with rw:=σ.rw.set r R,wrr:=r::σ.wrr}/\∀τ:St,τ.rw=σ.rw->opA C ex b τ (.store t (.tmp a) v)=some (x,some {τ with rw:=τ.rw.set r R,wrr:=r::τ.wrr}):=by
 have n:aev b (.tmp a)=y:=o;cases y with
 |rpt j k f e=>
   simp only[opA,qc,n]at h;cases g:C.ty t with
   |none=>rw[g]at h;cases h
   |some d=>
     rw[g]at h;simp only at h;cases i:σ.rw[j]? with
     |none=>rw[i]at h;cases h
     |some R=>
       rw[i]at h;simp only at h;cases c:qsY R k f e d.size (cellsOf (aev b v))with
       |none=>rw[c]at h;cases h
       |some R'=>
         rw[c]at h;cases h;refine⟨_,_,rfl,λ τ l=>?_⟩;simp_all [opA,qc]
 |ept p f=>
   simp_all [opA,qc]
 |_=>cases m
theorem qGc{a:List AV}{o:Oper}{b:Bool}(c:∀(i:Nat) (q:Oper),pre[i]?=some q->ops[i]?=some q)(h:yC pre a o=some b):yC ops a o=some b:=by
 grind [yC]
def g3(f e c d b a:S):Bool->Bool->Bool->S
 |true,true,true=>a
 |true,true,false=>b
 |true,false,_=>d
 |false,true,true=>c
 |false,true,false=>e
 |false,false,_=>f
def G3(pre:Array Oper)(l:List (AV×Option St))(s0 e c d b a:S)(L:Nat->Bool):S:=g3 (F pre.toList l s0 L pre.size) e c d b a (L (pre.size+2)) (L pre.size) (L (pre.size+1))
theorem qaL{h f g e d:S}{L:Nat->Bool}{a b c:Bool}(k:L (pre.size+2)=a)(j:L pre.size=b)(i:L (pre.size+1)=c):G3 pre l s0 h f g e d L=g3 (F pre.toList l s0 L pre.size) h f g e d a b c:=by
 unfold G3;rw[k,j,i]
theorem qyk{b:List AV}{t:TypeId}{a:Tmp}{v:Operand}{y:AV×Option St}(h:opA C ex b σ (.store t (.tmp a) v)=some y):a<b.length:=by
 apply wag;intro c
 have d:aev b (.tmp a)=.dead:=by
  show b.getD a .dead=.dead;grind
 simp_all [opA,qc]
theorem qPQ{a:List AV}{d:Tmp}{x:AV}{v:Operand}(h:qJP d v=true):aev (a.set d x) v=aev a v:=by
 cases v with
 |tmp t=>
   have b:d≠t:=λ c=>by rw[c]at h;simp[qJP]at h
   show(a.set d x).getD t .dead=a.getD t .dead;grind
 |_=>rfl
theorem qJz(hC:yr P C)(hx:qcQ P ex){id:Nat}{s g s':S}{b:Tmp}(aQ:qpS ops true=some b)(hk:qfh C.lo s.tm (qcD ops) true=true)(h1:zD C ex (qcD ops) true (qcD ops).toList s=some g)(aa:qvT g.tm ops b=true)
  (h2:zD C ex ops true (qhW ops) g=some s') {a:Act}{Q:Exit->Act->World->Prop} (hi:Inv Γ s.σ w) (ht:zu Γ s.tm a)
  (hq:∀Γ' w' a',Ext Γ w Γ' w'->Inv Γ' s'.σ w'->zu Γ' s'.tm a'->qO s.σ s'.σ->a'.defers=a.defers->Q .normal a' w'):(Code.region id ops true).wp P Q a w:=by
 obtain⟨_,p,o,q,d,v6,v7,ar,aS,aT,aR,a8,aG,aF⟩:=qHZ aQ;obtain⟨⟨t5,u5,i5,N⟩,aX,aw⟩:=qRo aS;obtain⟨⟨t6,Y⟩,aW,av⟩:=qKH aT;obtain⟨⟨t7,M⟩,aV,au⟩:=qKH aR;unfold qvT at aa;rw[wc]at aa;obtain⟨aa,J⟩:=aa
 have J:qzd (aev g.tm u5)=false:=by
  grind [qJ2]
 simp only[qIR,wc,ww]at aF;obtain⟨k1,k2,k3,k4,k5,k6⟩:=aF;obtain⟨pre,af⟩:∃pre,pre=qcD ops:=⟨_,rfl⟩
 rw[<-af]at hk h1
 have aJ:ops.toList.length=(ops.toList.length-3)+3:=by
  have:(qhW ops).length=3:=by rw[ar];rfl
  grind [qhW]
 have aD:pre.size=ops.toList.length-3:=by
  rw[af];show(ops.toList.take (ops.toList.length-3)).toArray.size=_;grind
 have X:ops.toList=pre.toList++[p,o,q]:=by
  rw[af,<-ar];exact(kD _ _).symm
 rw[<-aD]at k1 k2 k3 k4 k5 k6;obtain⟨m,u⟩:∃m,m=pre.size:=⟨_,rfl⟩
 have aI:m=pre.toList.length:=by rw[u,wR]
 rw[<-u]at k1 k2 k3 k4 k5 k6;have am:ops.size=m+3:=by rw[<-wR,aJ,u,aD]
 have ae:∀i r,pre[i]?=some r->ops[i]?=some r:=λ i r hr=>by
  have hi:i<pre.toList.length:=by rw[wR];exact(Array.getElem?_eq_some_iff.1 hr).1
  rw[<-Array.getElem?_toList,X,List.getElem?_append_left hi,Array.getElem?_toList];exact hr
 have an:∀i r,i<m->ops[i]?=some r->pre[i]?=some r:=λ i r hi hr=>by
  grind
 have ay:∀n,ops[m+n]?=[p,o,q][n]?:=λ n=>by
  rw[<-Array.getElem?_toList,X,List.getElem?_append_right (by rw[<-aI];exact kI _ _),<-aI,kQ]
 have ai:ops[m]?=some p:=ay 0;have aj:ops[m+1]?=some o:=ay 1;have ah:ops[m+2]?=some q:=ay 2;obtain⟨l,l1,l2,l3,l4⟩:=qjP pre.toList s g h1;have hT:qdS C ex pre l s:=qsO l3 l4;rw[wR]at l2;have aK:qb6 C.lo s.tm pre=true:=hk;have O:∀tm,yC ops tm p=some true:=λ tm=>by unfold yC;rw[aX]
 have T:∀tm,yC ops tm o=some true:=λ tm=>by unfold yC;rw[aW]
 have I:∀tm,yC ops tm q=some true:=λ tm=>by unfold yC;rw[aV]
 cases aE:g.tm.getD b .dead with
 |ptr W off=>
   have ax:∀x,(g.tm.set d x).getD b .dead=.ptr W off:=λ x=>by
    grind
   rw[ar]at h2
   obtain⟨H,x6,ac,x7,ap,y5,y6,y7,rfl⟩:∃H x6 ac x7 ap,opA C ex g.tm g.σ p.op=some (H,none)/\opA C ex (g.tm.set d H) g.σ o.op=some (x6,some ac)/\opA C ex (g.tm.set d H) ac q.op=some (x7,some ap)/\s'=⟨g.tm.set d H,ap⟩:=by
    simp only[zD,O,T,I]at h2;split at h2<;>try cases h2
    .rename_i H e5;rw[aw]at h2;simp only[qcM]at h2;have aq:=(qNh J (by rw[N]at e5;exact e5)).2.1;split at h2<;>try cases h2
     .rename_i x6 e6;have e6:=e6;rw[Y]at e6;have ag:=qyk e6;rw[wI]at ag;have hv:(g.tm.set d H).getD d .dead=H:=by rw[List.getD_eq_getElem?_getD,List.getElem?_set_self ag];rfl
      obtain⟨_,_,h,_⟩:=qRh e6 hv aq;cases h
     .rename_i x6 ac e6;split at h2<;>try cases h2
      rw[av]at h2;simp only at h2;split at h2<;>try cases h2
      .rename_i x7 e7;obtain⟨_,h,_⟩:=qMM (σ':=ac) (by rw[M]at e7;exact e7) (ax H);cases h
      .grind
    .rename_i H a3 e5;have:=(qNh J (by rw[N]at e5;exact e5)).1;cases this
   rw[N]at y5;rw[Y]at y6;rw[M]at y7;obtain⟨_,aq,g5⟩:=qNh J y5;have ag:=qyk y6;rw[wI]at ag;have aP:(g.tm.set d H).getD d .dead=H:=by rw[List.getD_eq_getElem?_getD,List.getElem?_set_self ag];rfl
   obtain⟨r,R,z6,g6⟩:=qRh y6 aP aq;cases z6;obtain⟨cs,z7,g7⟩:=qMM (σ':=g.σ) y7 (ax H);cases z7
   have eb:aev g.tm (.tmp b)=aev (g.tm.set d H) (.tmp b):=by
    show g.tm.getD b .dead=(g.tm.set d H).getD b .dead;rw[ax,aE]
   have ev:aev g.tm v7=aev (g.tm.set d H) v7:=(qPQ aG).symm;obtain⟨B,al⟩:∃B:S,B=⟨g.tm.set d H,g.σ⟩:=⟨_,rfl⟩
   obtain⟨v,ak⟩:∃v:S,v=⟨g.tm.set d H,{g.σ with rw:=g.σ.rw.set r R,wrr:=r::g.σ.wrr}⟩:=⟨_,rfl⟩
   obtain⟨D,az⟩:∃D:S,D=⟨g.tm,{g.σ with bx:=g.σ.bx.set W cs,wr:=W::g.σ.wr}⟩:=⟨_,rfl⟩
   obtain⟨t,Z⟩:∃t:S,t=⟨g.tm.set d H,{g.σ with bx:=g.σ.bx.set W cs,wr:=W::g.σ.wr}⟩:=⟨_,rfl⟩
   obtain⟨f,U⟩:∃f:S,f=⟨g.tm.set d H,{g.σ with rw:=g.σ.rw.set r R,wrr:=r::g.σ.wrr,bx:=g.σ.bx.set W cs,wr:=W::g.σ.wr}⟩:=⟨_,rfl⟩
   have a5:qbx C ex ops p g (H,none):=.inl ⟨O _,by rw[N];exact y5⟩;have a2:qbx C ex ops p D (H,none):=.inl ⟨O _,by rw[N,az];exact g5 _ rfl⟩;have a6:qbx C ex ops o B (x6,some {g.σ with rw:=g.σ.rw.set r R,wrr:=r::g.σ.wrr}):=.inl ⟨T _,by rw[Y,al];exact y6⟩;have a1:qbx C ex ops o t (x6,some {g.σ with rw:=g.σ.rw.set r R,wrr:=r::g.σ.wrr,bx:=g.σ.bx.set W cs,wr:=W::g.σ.wr}):=.inl ⟨T _,by rw[Y,Z];exact g6 _ rfl⟩;have a7:qbx C ex ops q g (x7,some {g.σ with bx:=g.σ.bx.set W cs,wr:=W::g.σ.wr}):=.inl ⟨I _,by rw[M];exact g7 _ _ eb ev rfl⟩;have a0:qbx C ex ops q B (x7,some {g.σ with bx:=g.σ.bx.set W cs,wr:=W::g.σ.wr}):=.inl ⟨I _,by rw[M,al];exact g7 _ _ rfl rfl rfl⟩;have aM:qbx C ex ops q v (x7,some {g.σ with rw:=g.σ.rw.set r R,wrr:=r::g.σ.wrr,bx:=g.σ.bx.set W cs,wr:=W::g.σ.wr}):=.inl ⟨I _,by rw[M,ak];exact y7⟩;have ab:∀{L:Nat->Bool}{n j:Nat}{o':Oper},qcK ops L->ops[j]?=some o'->(∀e∈jF o',L e=true)->quH n ((QX ops.toList []).getD j 0)=true->∀i,i<n->L i=true:=λ hd ho hp hb i hi=>qk3 hd _ _ ho hp (qAK hb i hi);have ao:∀{L:Nat->Bool},(∀i,i<m->L i=true)->F pre.toList l s L pre.size=g:=λ h=>by rw[<-l2];exact qCM _ λ i hi=>h i (by rw[u];exact hi)
   have aZ:∀k,F pre.toList l s (λ i=>(Array.replicate ops.size false).getD i false) k=s:=by
    intro k
    induction k with
    |zero=>rfl
    |succ k ih=>
      simp only[F]
      have:(Array.replicate ops.size false).getD k false=false:=by
       rw[wK,Array.getElem?_replicate];split<;>rfl
      rw[this];split
      .rename_i hf;cases hf
      .exact ih
   have ad:∀i,(Array.replicate ops.size false).getD i false=false:=λ i=>by
    rw[wK,Array.getElem?_replicate];split<;>rfl
   have aC:G3 pre l s B v D t f (λ i=>(Array.replicate ops.size false).getD i false)=s:=by
    rw[qaL (ad _) (ad _) (ad _)];exact aZ _
   have aL:G3 pre l s B v D t f qp=f:=qaL (a:=true) (b:=true) (c:=true) rfl rfl rfl;have A:∀(L:Nat->Bool) (j i:Nat),i≠j->(decide (i=j)||L i)=L i:=λ L j i h=>by rw[decide_eq_false h,xq]
   have E:∀(L:Nat->Bool) (j:Nat),(decide (j=j)||L j)=true:=λ L j=>by rw[decide_eq_true rfl,xh]
   refine wp_region_any hC.mixed ?_;refine qHi (G:=G3 pre l s B v D t f) (Good:=λ _=>True) hC hx (λ _ _ _=>trivial) (λ j o' z e he=>?_) (λ L K=>?_) (λ L j o' hd _ z K hp=>?_) ops.size _ Γ _ a (by simp) (by rw[xi,vM];simp) ?_ trivial ?_ ?_ ?_
   .have aU:j<m+3:=by rw[<-am];exact(Array.getElem?_eq_some_iff.1 z).1
    by_cases hj:j<m
    .exact(qjr aK).1 j o' (an j o' hj z) e he
    .obtain rfl|rfl|rfl:j=m\/j=m+1\/j=m+2:=by omega
     .rw[ai]at z;cases z;exact kG (k1 e he)
     .rw[aj]at z;cases z;exact kG (k2 e he)
     .rw[ah]at z;cases z;have:=kG (k3 e he);omega
   .rw[aL];exact qaL (a:=true) (b:=true) (c:=true) (K _ (by omega)) (K _ (by omega)) (K _ (by omega))
   .have aU:j<m+3:=by rw[<-am];exact(Array.getElem?_eq_some_iff.1 z).1
    have d1:L (m+1)=true->L m=true:=λ h=>ab hd aj (hd (m+1) o aj h) k5 m (xu m);by_cases hj:j<m
    .have aH:=an j o' hj z
     have n5:L m=false:=by
      cases aA:L m with
      |false=>rfl
      |true=>rw[ab hd ai (hd m p ai aA) k4 j hj]at K;cases K
     have n7:L (m+2)=false:=by
      cases aA:L (m+2)with
      |false=>rfl
      |true=>rw[ab hd ah (hd (m+2) q ah aA) k6 j hj]at K;cases K
     have aY:qcK pre L:=λ i r hr hi e he=>hd i r (ae i r hr) hi e he;obtain⟨y,aO,aN⟩:=quP hT aK aY aH K hp
     have e1:G3 pre l s B v D t f L=F pre.toList l s L pre.size:=by
      exact qaL (a:=false) (b:=false) (c:=L (pre.size+1)) (by rw[<-u];exact n7) (by rw[<-u];exact n5) rfl
     have V:G3 pre l s B v D t f (λ i=>decide (i=j)||L i)=F pre.toList l s (λ i=>decide (i=j)||L i) pre.size:=by
      exact qaL (L:=λ i=>decide (i=j)||L i) (a:=false) (b:=false) (c:=_) (by show(decide (_=j)||L _)=false;rw[A _ _ _ (by omega),<-u];exact n7) (by show(decide (_=j)||L _)=false;rw[A _ _ _ (by omega),<-u];exact n5) rfl
     rw[e1,V];refine⟨y,?_,aN⟩;rcases aO with⟨w1,w2⟩|⟨w1,w2⟩
     .exact .inl ⟨qGc ae w1,w2⟩
     .exact .inr ⟨qGc ae w1,w2⟩
    .obtain rfl|rfl|rfl:j=m\/j=m+1\/j=m+2:=by omega
     .rw[ai]at z;cases z;have aB:=ab hd ai hp k4
      have n6:L (j+1)=false:=by
       cases h:L (j+1)with
       |false=>rfl
       |true=>rw[d1 h]at K;cases K
      cases hn:L (j+2)with
      |false=>
        have e1:G3 pre l s B v D t f L=g:=by
         exact(qaL (a:=false) (b:=false) (c:=false) (by rw[<-u];exact hn) (by rw[<-u];exact K) (by rw[<-u];exact n6)).trans (ao aB)
        have V:G3 pre l s B v D t f (λ i=>decide (i=j)||L i)=B:=
         qaL (L:=λ i=>decide (i=j)||L i) (a:=false) (b:=true) (c:=false) (by rw[<-u];show(decide (_=j)||L _)=false;rw[A _ _ _ (by omega)];exact hn) (by rw[<-u];exact E L j) (by rw[<-u];show(decide (_=j)||L _)=false;rw[A _ _ _ (by omega)];exact n6)
        rw[e1,V];refine⟨_,a5,?_⟩;rw[al,yh,aw];rfl
      |true=>
        have e1:G3 pre l s B v D t f L=D:=
         qaL (a:=true) (b:=false) (c:=false) (by rw[<-u];exact hn) (by rw[<-u];exact K) (by rw[<-u];exact n6)
        have V:G3 pre l s B v D t f (λ i=>decide (i=j)||L i)=t:=
         qaL (L:=λ i=>decide (i=j)||L i) (a:=true) (b:=true) (c:=false) (by rw[<-u];show(decide (_=j)||L _)=true;rw[A _ _ _ (by omega)];exact hn) (by rw[<-u];exact E L j) (by rw[<-u];show(decide (_=j)||L _)=false;rw[A _ _ _ (by omega)];exact n6)
        rw[e1,V];refine⟨_,a2,?_⟩;rw[Z,az,yh,aw];rfl
     .rw[aj]at z;cases z;have h5:=ab hd aj hp k5 m (xu m);cases hn:L (m+2)with
      |false=>
        have e1:G3 pre l s B v D t f L=B:=
         qaL (a:=false) (b:=true) (c:=false) (by rw[<-u];exact hn) (by rw[<-u];exact h5) (by rw[<-u];exact K)
        have V:G3 pre l s B v D t f (λ i=>decide (i=m+1)||L i)=v:=
         qaL (L:=λ i=>decide (i=m+1)||L i) (a:=false) (b:=true) (c:=true) (by rw[<-u];show(decide (_=m+1)||L _)=false;rw[A _ _ _ (by omega)];exact hn) (by rw[<-u];show(decide (_=m+1)||L _)=true;rw[A _ _ _ (by omega)];exact h5) (by rw[<-u];exact E L (m+1))
        rw[e1,V];refine⟨_,a6,?_⟩;rw[ak,al,yh,av];rfl
      |true=>
        have e1:G3 pre l s B v D t f L=t:=
         qaL (a:=true) (b:=true) (c:=false) (by rw[<-u];exact hn) (by rw[<-u];exact h5) (by rw[<-u];exact K)
        have V:G3 pre l s B v D t f (λ i=>decide (i=m+1)||L i)=f:=
         qaL (L:=λ i=>decide (i=m+1)||L i) (a:=true) (b:=true) (c:=true) (by rw[<-u];show(decide (_=m+1)||L _)=true;rw[A _ _ _ (by omega)];exact hn) (by rw[<-u];show(decide (_=m+1)||L _)=true;rw[A _ _ _ (by omega)];exact h5) (by rw[<-u];exact E L (m+1))
        rw[e1,V];refine⟨_,a1,?_⟩;rw[U,Z,yh,av];rfl
     .rw[ah]at z;cases z;have aB:=ab hd ah hp k6;cases h5:L m with
      |false=>
        have n6:L (m+1)=false:=by
         cases h:L (m+1)with
         |false=>rfl
         |true=>rw[d1 h]at h5;cases h5
        have e1:G3 pre l s B v D t f L=g:=by
         exact(qaL (a:=false) (b:=false) (c:=false) (by rw[<-u];exact K) (by rw[<-u];exact h5) (by rw[<-u];exact n6)).trans (ao aB)
        have V:G3 pre l s B v D t f (λ i=>decide (i=m+2)||L i)=D:=
         qaL (L:=λ i=>decide (i=m+2)||L i) (a:=true) (b:=false) (c:=false) (by rw[<-u];exact E L (m+2)) (by rw[<-u];show(decide (_=m+2)||L _)=false;rw[A _ _ _ (by omega)];exact h5) (by rw[<-u];show(decide (_=m+2)||L _)=false;rw[A _ _ _ (by omega)];exact n6)
        rw[e1,V];refine⟨_,a7,?_⟩;rw[az,yh,au];rfl
      |true=>
        cases h6:L (m+1)with
        |false=>
          have e1:G3 pre l s B v D t f L=B:=
           qaL (a:=false) (b:=true) (c:=false) (by rw[<-u];exact K) (by rw[<-u];exact h5) (by rw[<-u];exact h6)
          have V:G3 pre l s B v D t f (λ i=>decide (i=m+2)||L i)=t:=
           qaL (L:=λ i=>decide (i=m+2)||L i) (a:=true) (b:=true) (c:=false) (by rw[<-u];exact E L (m+2)) (by rw[<-u];show(decide (_=m+2)||L _)=true;rw[A _ _ _ (by omega)];exact h5) (by rw[<-u];show(decide (_=m+2)||L _)=false;rw[A _ _ _ (by omega)];exact h6)
          rw[e1,V];refine⟨_,a0,?_⟩;rw[Z,al,yh,au];rfl
        |true=>
          have e1:G3 pre l s B v D t f L=v:=
           qaL (a:=false) (b:=true) (c:=true) (by rw[<-u];exact K) (by rw[<-u];exact h5) (by rw[<-u];exact h6)
          have V:G3 pre l s B v D t f (λ i=>decide (i=m+2)||L i)=f:=
           qaL (L:=λ i=>decide (i=m+2)||L i) (a:=true) (b:=true) (c:=true) (by rw[<-u];exact E L (m+2)) (by rw[<-u];show(decide (_=m+2)||L _)=true;rw[A _ _ _ (by omega)];exact h5) (by rw[<-u];show(decide (_=m+2)||L _)=true;rw[A _ _ _ (by omega)];exact h6)
          rw[e1,V];refine⟨_,aM,?_⟩;rw[U,ak,yh,au];rfl
   .intro i r hr a4;grind
   .rw[aC];exact hi.drew
   .rw[aC];exact ht
   .intro Γ' w' a' g1 g2 g3 g4 g5;rw[aC]at g4;rw[aL,U]at g2 g3 g4;exact hq Γ' w' a' ((Ext.drew Γ w).trans g1) g2 g3 g4 g5
 |_=>rw[aE]at aa;cases aa
end
end Go.AmZ
namespace Go.AmZ
open Go Go.RowKit
section
variable {P:Program}{C:Cfg}{Γ:Gh}{σ:St}{w:World}{ops:Array Oper}{ex:QG}{l:List (AV×Option St)}{s0:S}
theorem qRv(q:yr P C)(k:qcQ P ex)(o:qdS C ex ops l s0)(j:qb6 C.lo s0.tm ops=true){Q:Exit->Act->World->Prop}:∀(d:Nat) (c:Array Bool) (Γ:Gh) (w:World) (a:Act),c.size=ops.size->c.toList.countP (λ b => !b)=d->qcK ops (λ i=>c.getD i false)->
  Inv Γ (F ops.toList l s0 (λ i=>c.getD i false) ops.size).σ w->zu Γ (F ops.toList l s0 (λ i=>c.getD i false) ops.size).tm a->
  (∀Γ' w' h,Ext Γ w Γ' w'->Inv Γ' (F ops.toList l s0 qp ops.size).σ w'->zu Γ' (F ops.toList l s0 qp ops.size).tm h->qO (F ops.toList l s0 (λ i=>c.getD i false) ops.size).σ (F ops.toList l s0 qp ops.size).σ->h.defers=a.defers->Q .normal h w')->
  wpAny P .any ops Q d c a w:=
 λ d c Γ w a e g f=>qIf q k (Good:=λ _=>True) (λ _ _ _=>trivial) (qjr j).1 (λ _ _ _ f _ n p m=>quP o j f n p m) d c Γ w a e g f trivial
theorem qL3(g:yr P C)(m:qcQ P ex){id:Nat}{b:Bool}{s d:S}(f:qfh C.lo s.tm ops b=true)(h:zD C ex ops b ops.toList s=some d){a:Act}{Q:Exit->Act->World->Prop}(p:Inv Γ s.σ w)(n:zu Γ s.tm a)
  (o:∀Γ' w' e,Ext Γ w Γ' w'->Inv Γ' d.σ w'->zu Γ' d.tm e->qO s.σ d.σ->e.defers=a.defers->Q .normal e w'):(Code.region id ops b).wp P Q a w:=by
 cases b with
 |false=>
   refine wp_region ?_;have:=qFZ g m (ops:=ops) ops.toList 0 s Γ w a (by simp) h p n o;rw[wR,<-List.range_eq_range']at this;exact this
 |true=>
   let⟨l,G,r,B,A⟩:=qjP ops.toList s d h;have z:qdS C ex ops l s:=qsO B A;rw[wR]at r;have f:qb6 C.lo s.tm ops=true:=f
   have c:∀k,F ops.toList l s (λ i=>(Array.replicate ops.size false).getD i false) k=s:=by
    intro k
    induction k with
    |zero=>rfl
    |succ k u=>
      simp only[F]
      have:(Array.replicate ops.size false).getD k false=false:=by
       rw[wK,Array.getElem?_replicate];split<;>rfl
      rw[this];split
      .rename_i y;cases y
      .exact u
   refine wp_region_any g.mixed ?_;refine qRv g m z f ops.size _ Γ _ a (by simp) (by rw[xi,vM];simp) ?_ ?_ ?_ ?_
   .intro i q v x;exfalso
    have:(Array.replicate ops.size false).getD i false=false:=by
     rw[wK,Array.getElem?_replicate];split<;>rfl
    grind
   .rw[c];exact p.drew
   .rw[c];exact n
   .intro Γ' w' e E t g3 j D;rw[c]at j;rw[r]at t g3 j;exact o Γ' w' e ((Ext.drew Γ w).trans E) t g3 j D
def COk(P:Program)(ex:QG)(c:Code):Prop:=
 ∀s e b,Qf c=true->ex c s=some (e,b)->∀Γ w a,Inv Γ s.σ w->zu Γ s.tm a->a.defers=[]->
  c.wp P (λ f d w'=>f=e.toExit/\d.defers=[]/\∃Γ',Ext Γ w Γ' w'/\Inv Γ' b.σ w'/\zu Γ' b.tm d/\qO s.σ b.σ) a w
theorem qP2{s:S}{a:Act}(g:Inv Γ s.σ w)(f:zu Γ s.tm a)(t:Nat):
  ∃Γ',Ext Γ w Γ' w/\Inv Γ' (qc0 s t).σ w/\zu Γ' (qc0 s t).tm a/\qO s.σ (qc0 s t).σ:=by
 unfold qc0;cases v:rsA (s.tm.getD t .dead)with
 |nil=>exact⟨Γ,.refl _ _,g,f,.refl _⟩
 |cons r l=>
   let⟨m,h,p,o⟩:=qaE (r::l) g ((r::l)++s.σ.wrr);refine⟨_,qli h w,p,?_,qry (r::l)⟩;have n:Le Γ {Γ with mem:=m}:=(qli h w).le;have k:=qy7 g n (λ q y=>o q (by rw[<-v];exact y)) (f.get t);have c:RepL {Γ with mem:=m} s.tm a.tmps.toList:=waL n f;refine⟨by rw[wI];exact c.len,λ i x u b j=>?_⟩;by_cases d:t=i
   .subst d;rw[List.getElem?_set_self (by have:=getElem?_lt b;simpa using this)]at b;cases b
    have:a.tmps.getD t undef=u:=by
     rw[wK,<-Array.getElem?_toList,j];rfl
    rw[this]at k;exact k
   .rw[List.getElem?_set_ne d]at b;exact c.rep i x u b j
theorem qIF{a:Act}:∀(ts:List Nat) {s:S}{Γ:Gh},Inv Γ s.σ w->zu Γ s.tm a->
  ∃Γ',Ext Γ w Γ' w/\Inv Γ' (qgV ts s).σ w/\zu Γ' (qgV ts s).tm a/\qO s.σ (qgV ts s).σ
 |[],s,Γ,d,c=>⟨Γ,.refl _ _,d,c,.refl _⟩
 |t::ts,s,Γ,d,c=>by
   let⟨e,m,l,k,j⟩:=qP2 d c t;let⟨b,i,h,g,f⟩:=qIF ts l k;exact⟨b,m.trans i,h,g,j.trans f⟩
theorem qQJ{b:Code}{n:Nat}(o:∀m,m<n->COk P (Q6 C m) b){s:S}{e:Ex}{g:S}(z:Qf b=true)(h:Q6 C n (.loop b) s=some (e,g)){a:Act}(hi:Inv Γ s.σ w)(ht:zu Γ s.tm a)(I:a.defers=[]):
  (Code.loop b).wp P (λ A f w'=>A=e.toExit/\f.defers=[]/\∃Γ',Ext Γ w Γ' w'/\Inv Γ' g.σ w'/\zu Γ' g.tm f/\qO s.σ g.σ) a w:=by
 let J:Nat->Act->World->Prop:=λ m d c=>m<=n/\∃r i,Q6 C m (.loop b) r=some (e,g)/\Ext Γ w i c/\Inv i r.σ c/\zu i r.tm d/\d.defers=[]/\qO s.σ r.σ
 have j:∀d c,(∃m,J m d c)->∃m,J m d c/\∀k,J k d c->m<=k:=by
  rintro d c ⟨m,R⟩
  induction m using Nat.strongRecOn with
  |_ m Z=>
    by_cases z:∃k,k<m/\J k d c
    .let⟨k,H,G⟩:=z;exact Z k H G
    .exact⟨m,R,λ k L=>Nat.le_of_not_lt λ F=>z ⟨k,F,L⟩⟩
 classical
 let t:Act->World->Nat:=λ d c=>if h:∃m,J m d c then Classical.choose (j d c h)else 0
 have u:∀d c,(h:∃m,J m d c)->J (t d c) d c/\∀k,J k d c->t d c<=k:=by
  intro d c h;grind
 refine wp_loop (λ d c=>∃m,J m d c) t ⟨n,wa _,s,Γ,h,.refl _ _,hi,ht,I,.refl _⟩ ?_;intro d c L;let⟨K,_⟩:=u d c L;let⟨v,r,i,T,N,h3,h4,h5,M⟩:=K;generalize R:t d c=m at *;cases m with
 |zero=>simp[Q6]at T
 |succ m=>
   simp only[Q6,qcx]at T;let⟨B,Y,X,W,V⟩:=qIF (C.pur b) h3 h4
   have U:∀e1 q,Q6 C m b (qgV (C.pur b) r)=some (e1,q)->(e1=.normal/\Q6 C m (.loop b) q=some (e,g)\/(e1≠.normal/\e1=e/\q=g))->
     b.wp P (Exit.then (λ f w'=>(∃m,J m f w')/\t f w'<m+1) (λ A f w'=>A=e.toExit/\f.defers=[]/\∃Γ',Ext Γ w Γ' w'/\Inv Γ' g.σ w'/\zu Γ' g.tm f/\qO s.σ g.σ)) d c:=by
    intro e1 q hb D;refine wp_mono (o m v _ e1 q z hb B c d X W h5) ?_;rintro A f w' ⟨rfl,Q,l,y,O,g3,x⟩;have y:=Y.trans y;have x:=V.trans x;obtain⟨rfl,hl⟩|⟨E,rfl,rfl⟩:=D
    .have p:J m f w':=⟨Nat.le_of_succ_le v,q,l,hl,N.trans y,O,g3,Q,M.trans x⟩
     exact⟨⟨m,p⟩,Nat.lt_succ_of_le ((u f w' ⟨m,p⟩).2 m p)⟩
    .cases e1 with
     |normal=>exact absurd rfl E
     |exit id|ret=>exact⟨rfl,Q,l,N.trans y,O,g3,M.trans x⟩
   grind
theorem qy3(U:yr P C):∀n,qcQ P (Q6 C n):=by
 intro n
 induction n using Nat.strongRecOn with
 |_ n V=>
   cases n with
   |zero=>intro c s e J _ h;simp[Q6]at h
   |succ n=>
     have j:=V n (xu n);intro c s e J A h Γ w a z v f;cases c with
     |skip=>
       simp only[Q6,qcx,wB,wL]at h;obtain⟨rfl,rfl⟩:=h;exact wp_skip ⟨rfl,f,Γ,.refl _ _,z,v,.refl _⟩
     |label k=>
       simp only[Q6,qcx,wB,wL]at h;obtain⟨rfl,rfl⟩:=h;exact wp_label ⟨rfl,f,Γ,.refl _ _,z,v,.refl _⟩
     |exit id=>
       simp only[Q6,qcx,wB,wL]at h;obtain⟨rfl,rfl⟩:=h;exact wp_exit ⟨rfl,f,Γ,.refl _ _,z,v,.refl _⟩
     |ret=>
       simp only[Q6,qcx,wB,wL]at h;obtain⟨rfl,rfl⟩:=h;exact wp_ret ⟨rfl,f,Γ,.refl _ _,z,v,.refl _⟩
     |region id ops M=>
       simp only[Q6,qcx]at h;split at h
       .rename_i E;have H:M=true:=by unfold qjA at E;rw[wc]at E;exact E.1
        subst H;split at h<;>try cases h
        rename_i d l;rw[wc,wc]at d;split at h<;>try cases h
        rename_i o;split at h<;>cases h;rename_i F;refine qKl U j d.1 d.2.1 d.2.2 l o F z v ?_;intro Γ' w' N u t g3 q L;exact⟨rfl,by rw[L,f],Γ',u,t,g3,q⟩
       .split at h
        .rename_i p K;let⟨H,_⟩:=qHZ K;subst H;split at h<;>try cases h
         rename_i d l;split at h<;>cases h;rename_i T o;refine qJz U j K d l T o z v ?_;intro Γ' w' N u t g3 q L;exact⟨rfl,by rw[L,f],Γ',u,t,g3,q⟩
        .split at h<;>cases h;rename_i d l;refine qL3 U j d l z v ?_;intro Γ' w' N u t g3 q L;exact⟨rfl,by rw[L,f],Γ',u,t,g3,q⟩
     |seq x y=>
       simp only[Q6,qcx]at h;simp only[Qf,wc]at A;refine wp_seq ?_;cases D:Q6 C n x s with
       |none=>rw[D]at h;cases h
       |some r=>
         let⟨e1,O⟩:=r;rw[D]at h;refine wp_mono (j x s e1 O A.1 D Γ w a z v f) ?_;rintro e' N w' ⟨rfl,B,g,u,t,g3,q⟩;cases e1 with
         |normal=>
           refine wp_mono (j y O e J A.2 h g w' N t g3 B) ?_;rintro aa ab W ⟨rfl,q0,S,q1,Z,Y,X⟩;exact⟨rfl,q0,S,u.trans q1,Z,Y,q.trans X⟩
         |exit id|ret=>cases h;exact⟨rfl,B,g,u,t,g3,q⟩
     |cond c x y=>
       simp only[Q6,qcx]at h;simp only[Qf,wc]at A;have Q:=zu.ev v c;split at h
       .rename_i I;rw[I]at Q;exact wp_cond_true (zp Q) (j x s e J A.1 h Γ w a z v f)
       .rename_i I;rw[I]at Q;exact wp_cond_false (zp Q) (j y s e J A.2 h Γ w a z v f)
       .cases h
     |block id b=>
       simp only[Q6,qcx]at h;simp only[Qf]at A;refine wp_block ?_;cases D:Q6 C n b s with
       |none=>rw[D]at h;cases h
       |some r=>
         let⟨e1,O⟩:=r;rw[D]at h;refine wp_mono (j b s e1 O A D Γ w a z v f) ?_;rintro e' N w' ⟨rfl,B,g,u,t,g3,q⟩;cases e1 with
         |normal|ret=>cases h;exact⟨rfl,B,g,u,t,g3,q⟩
         |exit i=>
           simp only[wB,wL]at h;obtain⟨R,rfl⟩:=h;show if i=id then _ else _;split
           .rename_i G;rw[if_pos G]at R;subst R;exact⟨rfl,B,g,u,t,g3,q⟩
           .rename_i G;rw[if_neg G]at R;subst R;exact⟨rfl,B,g,u,t,g3,q⟩
     |loop b=>
       exact qQJ (n:=n+1) (λ m hm=>λ s e J A h=>V m hm b s e J A h) A h z v f
     |_=>simp only[Q6,qcx]at h;cases h
end
end Go.AmZ
namespace Go.AmZ
open Go Go.RowKit
structure PC where
 ty:Nat->Option TD
 pf:Nat->Option (List AV->Option AV)
 sp:Nat->Option (St->List AV->Option (AV×Option St))
 pur:Code->List Nat
 ld:Nat->Bool
 inl:Nat->Option Func
def emp:St:=⟨[],[],[],[]⟩
def JB(p:List AV->Option AV):St->List AV->Option (AV×Option St):=λ σ a=>
 match σ with
 |⟨[],[],[],[]⟩=>match p a with
   |some v=>some (v,none)
   |none=>none
 |_=>none
def PC.prim(c:PC)(f:Nat):Option (St->List AV->Option (AV×Option St)):=match c.pf f with|some p=>some (JB p)|none=>c.sp f
def PC.raw(c:PC)(f:Nat):Bool:=match c.pf f with|some _=>false|none=>(c.sp f).isSome
def PC.cfg(c:PC):Cfg:=⟨c.ty,λ _=>none,c.prim,c.raw,c.pur,λ f=>c.raw f||(c.ld f||(c.inl f).isSome),c.inl⟩
def qbv(c:PC)(f:Nat)(σ:St)(a:List AV):Option (AV×Option St):=
 match c.pf f with
 |some p=>match noRefs (a.map (jk σ.rw))with
   |true=>match p (a.map (jk σ.rw))with
     |some v=>match jE v with
       |true=>match qjx v,a.flatMap rsA with
         |true,_|_,[]=>some (v,none)
         |_,r::l=>some (v,some {σ with rw:=frz σ.rw (r::l),wrr:=(r::l)++σ.wrr})
       |false=>none
     |none=>none
   |false=>none
 |none=>match c.sp f with
   |some p=>Qu σ a p
   |none=>none
def qgL(c:PC)(tm:List AV)(σ:St)(op:Op):Option (AV×Option St):=
 match op with
 |.call ⟨.builtin b,a,ts⟩=>jH c.cfg σ b ts (a.toList.map (aev tm))
 |.call ⟨.value g,a,_⟩=>match aev tm g with
   |.fn f d=>match c.inl f with
     |none=>qbv c f σ (a.toList.map (aev tm)++d)
     |some _=>none
   |_=>none
 |.call _=>none
 |op=>qc c.cfg tm σ op
def Qb(d:List AV->St->Op->Option (AV×Option St))(c:PC)(ops:Array Oper)(b:Bool):List Oper->S->Option S
 |[],s=>some s
 |o::a,s=>match yC ops s.tm o with
   |some true=>match d s.tm s.σ o.op with
     |some (x,none)=>Qb d c ops b a ⟨qcM s.tm o.dst x,s.σ⟩
     |some (x,some σ')=>match b && !(zm c.cfg.lo o.op&&qc2 c.cfg ops (ops.size-(a.length+1)) s.tm s.σ o.op)with
       |true=>none
       |false=>Qb d c ops b a ⟨qcM s.tm o.dst x,σ'⟩
     |none=>none
   |some false=>Qb d c ops b a ⟨qcM s.tm o.dst qoc,s.σ⟩
   |none=>none
def yU(f:List AV->St->Op->Option (AV×Option St))(c:PC)(ex:QG):QG
 |.skip,s|.label _,s=>some (.normal,s)
 |.region _ ops d,s=>match qjA ops d with
   |true=>match qjy c.cfg.lo ops.toList&&(qcZ c.cfg.lo ops&&qfh c.cfg.lo s.tm ⟨qK c.cfg.lo ops.toList⟩ true),Qb f c ⟨qK c.cfg.lo ops.toList⟩ true (qK c.cfg.lo ops.toList) s with
     |true,some g=>match Qb f c ops false (alL c.cfg.lo ops.toList) g with
       |some h=>match Qb f c ops true (qsm c.cfg.lo ops.toList) h with
         |some e=>some (.normal,e)
         |none=>none
       |none=>none
     |_,_=>none
   |false=>match qpS ops d with
     |some p=>match qfh c.cfg.lo s.tm (qcD ops) true,Qb f c (qcD ops) true (qcD ops).toList s with
       |true,some g=>match qvT g.tm ops p,Qb f c ops true (qhW ops) g with
         |true,some e=>some (.normal,e)
         |_,_=>none
       |_,_=>none
     |none=>match qfh c.cfg.lo s.tm ops d,Qb f c ops d ops.toList s with
       |true,some e=>some (.normal,e)
       |_,_=>none
 |.seq a b,s=>match ex a s with
   |some (.normal,e)=>ex b e
   |r=>r
 |.cond t x y,s=>match aev s.tm t with
   |.v (.bool true)=>ex x s
   |.v (.bool false)=>ex y s
   |_=>none
 |.block id b,s=>match ex b s with
   |some (.exit i,e)=>some (if i=id then .normal else .exit i,e)
   |r=>r
 |.loop b,s=>match ex b (qgV (c.pur b) s)with
   |some (.normal,e)=>ex (.loop b) e
   |r=>r
 |.exit id,s=>some (.exit id,s)
 |.ret,s=>some (.ret,s)
 |_,_=>none
def zg(a:List AV->St->Op->Option (AV×Option St))(c:PC):Nat->QG
 |0=>λ _ _=>none
 |n+1=>yU a c (zg a c n)
def qzW(c:PC)(σ:St)(fn:Func)(a:List AV):Option (AV×Option St):=match fn.body with
 |none=>none
 |some d=>match zg (qgL c) c 12 d ⟨a++List.replicate (fn.ntmps-a.length) .dead,σ⟩with
   |some (.exit _,_)=>none
   |some (_,b)=>match qa2 c.cfg fn b with
     |some r=>some (r,some b.σ)
     |none=>none
   |none=>none
def qeX(c:PC)(tm:List AV)(σ:St)(op:Op):Option (AV×Option St):=
 match op with
 |.call ⟨.value g,b,_⟩=>match aev tm g with
   |.fn f a=>match c.inl f with
     |some fn=>qzW c σ fn (b.toList.map (aev tm)++a)
     |none=>qbv c f σ (b.toList.map (aev tm)++a)
   |_=>none
 |op=>qgL c tm σ op
theorem qGi{fb fr}(x)(h:rb x=[])(g:rr x=[]):ren fb fr x=x:=qsP fb fr x h g
theorem qsC{fb fr}(xs)(h:rbL xs=[])(g:rrL xs=[]):qZ fb fr xs=xs:=qol fb fr xs h g
theorem qfI{x}(h:jE x=true):rb x=[]/\rr x=[]:=by
 grind [jE]
theorem qjj: ∀{xs},noRefs xs=true->rbL xs=[]/\rrL xs=[]
 |[],_=>⟨rfl,rfl⟩
 |x::xs,h=>by
   simp only[noRefs,wX,wc]at h;let⟨d,c⟩:=qfI h.1;let⟨b,a⟩:=qjj h.2;grind [rbL,rrL]
theorem qwy{σ a p v}(g:noRefs a=true)(i:p a=some v)(f:jE v=true):Qu σ a (λ σ a=>JB p σ a)=some (v,none):=by
 let⟨d,c⟩:=qjj g;let⟨k,j⟩:=qfI f
 have b:QH σ a=[]:=by
  unfold QH;rw[d];cases σ.bx.length with
  |zero|succ n=>rfl
 have e:qbE σ a=[]:=by
  unfold qbE;rw[b,c];rfl
 unfold Qu
 have h:qgF σ a=true:=by
  unfold qgF;rw[b,e,d,c];rfl
 rw[b,e,qsC a d c];have:qQ σ [] []=⟨[],[],[],[]⟩:=rfl;grind [JB,qh3,qGi]
theorem qKT{c ex f σ a r}(h:qbv c f σ a=some r):qbL c.cfg ex σ f a=some r:=by
 unfold qbv at h;split at h
 rotate_left
 .rename_i g;split at h<;>try cases h
  rename_i p e;have b:c.cfg.raw f=true:=by show c.raw f=true;unfold PC.raw;rw[g,e];rfl
  have d:(λ(σ:St) a=>qbV c.cfg ex σ f a)=p:=by
   simp_all [qbV,PC.cfg,PC.prim]
  unfold qbL qji;grind
 rename_i p g;split at h<;>try cases h
 rename_i i;split at h<;>try cases h
 rename_i v j;split at h<;>try cases h
 rename_i k
 have d:∀σ:St,(λ(σ:St) a=>qbV c.cfg ex σ f a)=λ σ a=>JB p σ a:=λ _=>by
  simp_all [qbV,PC.cfg,PC.prim]
 have b:c.cfg.raw f=false:=by show c.raw f=false;unfold PC.raw;rw[g]
 unfold qbL qji;rw[b];let⟨o,n⟩:=qjj i;cases m:a.flatMap rsA with
 |nil=>
   have:r=(v,none):=by
    grind
   subst this;rw[d σ];exact qwy i j k
 |cons q l=>
   simp only;rw[d σ,qwy i j k];grind [qoi]
theorem qQ7{C ex σ f args r}(a:C.inl f=none)(h:qbL C ex σ f args=some r)(b:C.lo f=false->C.raw f=false/\noRefs (args.map (jk σ.rw))=true/\jE r.1=true):qdU C ex σ f args=some r:=by
 grind [qdU]
theorem qEY{c ex f σ args r}(e:c.inl f=none)(h:qbv c f σ args=some r):qdU c.cfg ex σ f args=some r:=by
 refine qQ7 e (qKT h) λ d=>?_;unfold qbv at h;split at h
 rotate_left
 .rename_i b;split at h<;>try cases h
  rename_i p a;have:c.cfg.lo f=true:=by show(c.raw f||(c.ld f||(c.inl f).isSome))=true;unfold PC.raw;rw[b,a];rfl
  rw[d]at this;cases this
 rename_i p b;have g:c.cfg.raw f=false:=by show c.raw f=false;unfold PC.raw;rw[b]
 grind
theorem qIm{c ex tm σ op r}(h:qgL c tm σ op=some r):opA c.cfg ex tm σ op=some r:=by
 unfold qgL at h;grind [opA,qhp,qEY]
theorem qhQ{pp c ex}(a:∀tm σ op r,pp tm σ op=some r->opA c.cfg ex tm σ op=some r){ops draw}:∀{l s d},Qb pp c ops draw l s=some d->zD c.cfg ex ops draw l s=some d
 |[],s,d,h=>h
 |o::f,s,d,h=>by
   simp only[Qb]at h;simp only[zD];split at h
   .rename_i e;rw[e];split at h
    .rename_i x b;rw[a _ _ _ _ b];exact qhQ a h
    .rename_i x σ' b;rw[a _ _ _ _ b];split at h
     .cases h
     .rename_i g;rw[g];exact qhQ a h
    .cases h
   .rename_i e;rw[e];exact qhQ a h
   .cases h
theorem qvA{f c d}(k:∀n tm σ op r,f tm σ op=some r->opA c.cfg (Q6 c.cfg (n+d)) tm σ op=some r):∀{n e s r},zg f c n e s=some r->Q6 c.cfg (n+d) e s=some r:=by
 intro n
 induction n with
 |zero=>intro e s r h;simp[zg]at h
 |succ n j=>
   intro e s r h;simp[zg]at h;rw[show n+1+d=(n+d)+1 by omega];simp[Q6];cases e with
   |region id ops i=>
     simp[yU]at h;simp[qcx];split at h
     .grind [qhQ]
     .grind [qhQ]
   |seq a b=>
     grind [yU,qcx]
   |cond t x y=>
     grind [yU,qcx]
   |block id b=>
     grind [yU,qcx]
   |loop b=>
     simp[yU]at h;simp[qcx];cases g:zg f c n b (qgV (c.pur b) s)with
     |none=>rw[g]at h;cases h
     |some q=>
       rw[g]at h;rw[show Q6 c.cfg (n+d) b (qgV (c.cfg.pur b) s)=_ from j g];grind
   |_=>exact h
theorem qJV{pp c}:∀{n d s r},zg pp c n d s=some r->zg pp c (n+1) d s=some r:=by
 intro n
 induction n with
 |zero=>intro d s r h;simp[zg]at h
 |succ n e=>
   intro d s r h;rw[zg]at h |-
   cases d with
   |seq a b=>
     grind [yU]
   |cond t x y=>
     grind [yU]
   |block id b=>
     grind [yU]
   |loop b=>
     grind [yU]
   |_=>exact h
theorem qeK{pp c n m}(a:n<=m){cd s r}(h:zg pp c n cd s=some r):zg pp c m cd s=some r:=by
 induction a with
 |refl=>exact h
 |step _ b=>exact qJV b
theorem qMB{c σ fn args r}(h:qzW c σ fn args=some r):∃b e a x,fn.body=some b/\zg (qgL c) c 12 b ⟨args++List.replicate (fn.ntmps-args.length) .dead,σ⟩=some (e,a)/\(e=.ret\/e=.normal)/\qa2 c.cfg fn a=some x/\r=(x,some a.σ):=by
 unfold qzW at h;split at h<;>try cases h
 rename_i b j;split at h<;>try cases h
 rename_i e a d g;split at h<;>cases h;rename_i x f;refine⟨b,e,a,x,j,g,?_,f,rfl⟩;cases e with
 |normal=>exact .inr rfl
 |ret=>exact .inl rfl
 |exit i=>exact(d i rfl).elim
theorem qRd{c}(n){tm σ op r}(h:qeX c tm σ op=some r):opA c.cfg (Q6 c.cfg (n+12)) tm σ op=some r:=by
 unfold qeX at h;split at h
 .rename_i g i ts;split at h<;>try cases h
  rename_i f b o;simp[opA,qhp,o];split at h
  .rename_i fn a;obtain⟨w,e,q,x,v,p,u,t,rfl⟩:=qMB h;have s:=qvA (d:=0) (λ n tm σ op r h=>qIm h) (qeK (m:=n+12) (by omega) p);have k:c.cfg.lo f=true:=by show(c.raw f||(c.ld f||(c.inl f).isSome))=true;rw[a];simp
   have l:c.cfg.inl f=some fn:=a;unfold qdU;unfold qy0;grind
  .rename_i a;exact qEY a h
 .rename_i op j;exact qIm h
theorem qFh{c}:∀n tm σ op r,qeX c tm σ op=some r->opA c.cfg (Q6 c.cfg (n+12)) tm σ op=some r:=λ n _ _ _ _ h=>qRd n h
def Run(c:PC)(b:Code)(s:S)(K:Ex->S->Prop):Prop:=∃n e a,zg (qeX c) c n b s=some (e,a)/\K e a
inductive It where
 |code (c:Code)|blk (id:Nat)|ops (os:Array Oper) (draw:Bool) (rest:List Oper)
def Go(c:PC)(Q:Ex->S->Prop):List It->Ex->S->Prop
 |[],e,s=>Q e s
 |.code f::k,.normal,s=>Run c f s λ e b=>Go c Q k e b
 |.code _::k,e,s=>Go c Q k e s
 |.blk id::k,.exit i,s=>Go c Q k (if i=id then .normal else .exit i) s
 |.blk _::k,e,s=>Go c Q k e s
 |.ops os d a::k,.normal,s=>∃b,Qb (qeX c) c os d a s=some b/\Go c Q k .normal b
 |.ops _ _ _::k,e,s=>Go c Q k e s
section
variable {c:PC}{Q:Ex->S->Prop}{k:List It}{tm:List AV}{σ:St}{s:S}
theorem qLa{cd K}(h:∀n,∀r,yU (qeX c) c (zg (qeX c) c n) cd s=some r↔r=(.normal,s)):Run c cd s K↔K .normal s:=by
 constructor
 .rintro⟨n,e,f,a,d⟩;cases n with
  |zero=>simp[zg]at a
  |succ n=>have:=(h n _).1 a;cases this;exact d
 .intro b;exact⟨1,_,_,(h 0 _).2 rfl,b⟩
theorem qO7: Go c Q (.code .skip::k) .normal s=Go c Q k .normal s:=
 propext (qLa λ n r=>⟨λ h=>by cases h;rfl,λ h=>by rw[h];rfl⟩)
theorem qMC(l):Go c Q (.code (.label l)::k) .normal s=Go c Q k .normal s:=
 propext (qLa λ n r=>⟨λ h=>by cases h;rfl,λ h=>by rw[h];rfl⟩)
theorem qQn(id):Go c Q (.code (.exit id)::k) .normal s=Go c Q k (.exit id) s:=by
 apply propext;constructor
 .rintro⟨n,e,d,a,b⟩;cases n with
  |zero=>simp[zg]at a
  |succ n=>simp only[zg,yU,wL]at a;obtain⟨rfl,rfl⟩:=a;exact b
 .intro h;exact⟨1,_,_,rfl,h⟩
theorem qQ8: Go c Q (.code .ret::k) .normal s=Go c Q k .ret s:=by
 apply propext;constructor
 .rintro⟨n,e,d,a,b⟩;cases n with
  |zero=>simp[zg]at a
  |succ n=>simp only[zg,yU,wL]at a;obtain⟨rfl,rfl⟩:=a;exact b
 .intro h;exact⟨1,_,_,rfl,h⟩
theorem qGz(cd):Go c Q (.code cd::k) .ret s=Go c Q k .ret s:=rfl
theorem qFJ(cd i):Go c Q (.code cd::k) (.exit i) s=Go c Q k (.exit i) s:=rfl
theorem qCx(id):Go c Q (.blk id::k) .normal s=Go c Q k .normal s:=rfl
theorem qKm(id):Go c Q (.blk id::k) .ret s=Go c Q k .ret s:=rfl
theorem qGX(id i):Go c Q (.blk id::k) (.exit i) s=Go c Q k (if i=id then .normal else .exit i) s:=rfl
theorem qR5(a b):Go c Q (.code (.seq a b)::k) .normal s=Go c Q (.code a::.code b::k) .normal s:=by
 apply propext;constructor
 .rintro⟨n,e,g,d,f⟩;cases n with
  |zero=>simp[zg]at d
  |succ n=>
    simp[zg,yU]at d;split at d
    .rename_i h l;exact⟨n,_,h,l,n,e,g,d,f⟩
    .rename_i j;refine⟨n,e,g,d,?_⟩;cases e with
     |normal=>exact absurd d (j g)
     |exit i|ret=>exact f
 .rintro⟨n,e,h,d,f⟩;cases e with
  |normal=>
    let⟨m,e,g,p,o⟩:=f;refine⟨n+m+1,e,g,?_,o⟩;simp[zg,yU];rw[qeK (by omega) d];exact qeK (by omega) p
  |exit i|ret=>exact⟨n+1,_,h,by simp[zg,yU];rw[d],f⟩
theorem qMz(id b):Go c Q (.code (.block id b)::k) .normal s=Go c Q (.code b::.blk id::k) .normal s:=by
 apply propext;constructor
 .rintro⟨n,e,h,a,f⟩;cases n with
  |zero=>simp[zg]at a
  |succ n=>
    simp[zg,yU]at a;cases g:zg (qeX c) c n b s with
    |none=>rw[g]at a;cases a
    |some q=>
      rw[g]at a;let⟨e1,d⟩:=q;refine⟨n,e1,d,g,?_⟩;cases e1<;>(simp at a;obtain⟨rfl,rfl⟩:=a;exact f)
 .rintro⟨n,e,d,a,f⟩;cases e with
  |normal|exit i|ret=>exact⟨n+1,_,d,by simp[zg,yU];rw[a],f⟩
theorem go_loop(b):Go c Q (.code (.loop b)::k) .normal s=Go c Q (.code b::.code (.loop b)::k) .normal (qgV (c.pur b) s):=by
 apply propext;constructor
 .rintro⟨n,e,f,a,d⟩;cases n with
  |zero=>simp[zg]at a
  |succ n=>
    simp[zg,yU]at a;split at a
    .rename_i g j;exact⟨n,_,g,j,n,e,f,a,d⟩
    .rename_i h;refine⟨n,e,f,a,?_⟩;cases e with
     |normal=>exact absurd a (h f)
     |exit i|ret=>exact d
 .rintro⟨n,e,g,a,d⟩;cases e with
  |normal=>
    let⟨m,e,f,o,l⟩:=d;refine⟨n+m+1,e,f,?_,l⟩;simp[zg,yU];rw[qeK (by omega) a];exact qeK (by omega) o
  |exit i|ret=>exact⟨n+1,_,g,by simp[zg,yU];rw[a],d⟩
theorem qMj (rw y):rsA (jk rw y)=[]:=by
 have b:∀ x,rsC (qY rw x)=[]:=by
  intro x;cases x with
  | rs r lo n a f =>
    simp [qY];split
    ·split<;>rfl
    ·rfl
  | _=>rfl
 cases y with
 | agg cs =>
   show (cs.map (qY rw)).flatMap rsC=[];grind [List.flatMap_map,List.flatMap_eq_nil_iff]
 | rs r lo n a f =>
   show rsA (qY rw (.rs r lo n a f))=[];simp [qY];split
   ·split<;>rfl
   ·rfl
 | _=>rfl
def qIV(ts:List Nat)(s:S):Prop:=∀t∈ts,rsA (s.tm.getD t .dead)=[]
theorem qJQ(s t u)(h:u=t\/rsA (s.tm.getD u .dead)=[]):rsA ((qc0 s t).tm.getD u .dead)=[]:=by
 unfold qc0;cases b:rsA (s.tm.getD t .dead)with
 |nil=>
   grind
 |cons r l=>
   by_cases c:t=u
   .subst c
    have d:t<s.tm.length:=by
     apply wag;intro a;rw[List.getD_eq_getElem?_getD,List.getElem?_eq_none a]at b;cases b
    grind [List.getElem?_set_self,qMj]
   .grind
theorem qwi: ∀ts s us,qIV us s->qIV (us++ts) (qgV ts s)
 |[],s,us,h=>by rw[wy];exact h
 |t::ts,s,us,h=>by
   have:=qwi ts (qc0 s t) (us++[t]) (λ u a=>qJQ s t u (by
    obtain a|a:=wj.1 a
    .exact .inr (h u a)
    .exact .inl (by grind)))
   rw[wn]at this;exact this
theorem qIi: ∀ts s,qIV ts s->qgV ts s=s
 |[],s,h=>rfl
 |t::ts,s,h=>by
   have e:qc0 s t=s:=by unfold qc0;rw[h t (wh ..)]
   show qgV ts (qc0 s t)=s;rw[e];exact qIi ts s λ u a=>h u (we _ a)
theorem qRY(b):Go c Q (.code (.loop b)::k) .normal (qgV (c.pur b) s)=Go c Q (.code (.loop b)::k) .normal s:=by
 rw[go_loop,go_loop,qIi _ _ (by have:=qwi (c.pur b) s [] (λ _ h=>by cases h);simpa using this)]
def qKa(c:PC)(Q:Ex->S->Prop)(k:List It)(s:S)(x y:Code):AV->Prop
 |.v (.bool true)=>Go c Q (.code x::k) .normal s
 |.v (.bool false)=>Go c Q (.code y::k) .normal s
 |_=>False
theorem qP6(t x y):Go c Q (.code (.cond t x y)::k) .normal ⟨tm,σ⟩=qKa c Q k ⟨tm,σ⟩ x y (aev tm t):=by
 apply propext;constructor
 .rintro⟨n,e,d,a,f⟩;cases n with
  |zero=>simp[zg]at a
  |succ n=>
    simp[zg,yU]at a;split at a
    .rename_i b;rw[b];exact⟨n,e,d,a,f⟩
    .rename_i b;rw[b];exact⟨n,e,d,a,f⟩
    .cases a
 .intro h;unfold qKa at h;split at h
  .rename_i b;let⟨n,e,d,a,f⟩:=h;exact⟨n+1,e,d,by simp[zg,yU,b];exact a,f⟩
  .rename_i b;let⟨n,e,d,a,f⟩:=h;exact⟨n+1,e,d,by simp[zg,yU,b];exact a,f⟩
  .exact h.elim
theorem qLz(x y):qKa c Q k s x y (.v (.bool true))=Go c Q (.code x::k) .normal s:=rfl
theorem qI4(x y):qKa c Q k s x y (.v (.bool false))=Go c Q (.code y::k) .normal s:=rfl
theorem qI6(id l d){p}(g:qjA ⟨l⟩ d=false)(f:qpS ⟨l⟩ d=some p)(m:qfh c.cfg.lo s.tm (qcD ⟨l⟩) true=true)(h:Go c (λ e a=>qvT a.tm ⟨l⟩ p=true/\Go c Q (.ops ⟨l⟩ true (qhW ⟨l⟩)::k) .normal a) (.ops (qcD ⟨l⟩) true (qcD ⟨l⟩).toList::[]) .normal s):Go c Q (.code (.region id ⟨l⟩ d)::k) .normal s:=by
 let⟨a,o,j,b,n,i⟩:=h;refine⟨1,.normal,b,?_,i⟩;simp_all [zg,yU]
theorem go_region(id l d)(f:qjA ⟨l⟩ d=false)(b:qpS ⟨l⟩ d=none):Go c Q (.code (.region id ⟨l⟩ d)::k) .normal s=(qfh c.cfg.lo s.tm ⟨l⟩ d=true/\Go c Q (.ops ⟨l⟩ d l::k) .normal s):=by
 apply propext;constructor
 .rintro⟨n,e,i,a,h⟩;cases n with
  |zero=>simp[zg]at a
  |succ n=>
    simp[zg,yU,f,b]at a;split at a<;>cases a;rename_i g j;exact⟨g,_,j,h⟩
 .rintro⟨g,i,a,h⟩;exact⟨1,.normal,i,by simp[zg,yU,f,b];rw[g,a],h⟩
theorem qJE(id l d)(b:qjA ⟨l⟩ d=true)(j:qjy c.cfg.lo l=true)(e:qcZ c.cfg.lo ⟨l⟩=true)(m:qfh c.cfg.lo s.tm ⟨qK c.cfg.lo l⟩ true=true)(h:Go c Q (.ops ⟨qK c.cfg.lo l⟩ true (qK c.cfg.lo l)::.ops ⟨l⟩ false (alL c.cfg.lo l)::.ops ⟨l⟩ true (qsm c.cfg.lo l)::k) .normal s):Go c Q (.code (.region id ⟨l⟩ d)::k) .normal s:=by
 let⟨i,p,g,o,a,n,f⟩:=h;refine⟨1,.normal,a,?_,f⟩;simp_all [zg,yU]
theorem qKb(os d):Go c Q (.ops os d []::k) .normal s=Go c Q k .normal s:=by
 apply propext;constructor
 .rintro⟨e,a,b⟩;simp[Qb,wB]at a;subst a;exact b
 .intro h;exact⟨s,rfl,h⟩
def qCY(c:PC)(Q:Ex->S->Prop)(k:List It)(os:Array Oper)(d l:Bool)(a:List Oper)(b:Option Tmp)(tm:List AV)(σ:St):Option (AV×Option St)->Prop
 |some (x,none)=>Go c Q (.ops os d a::k) .normal ⟨qcM tm b x,σ⟩
 |some (x,some σ')=>(d && !l)=false/\Go c Q (.ops os d a::k) .normal ⟨qcM tm b x,σ'⟩
 |none=>False
def qxB(c:PC)(Q:Ex->S->Prop)(k:List It)(os:Array Oper)(d:Bool)(a:List Oper)(o:Oper)(tm:List AV)(σ:St):Option Bool->Prop
 |some true=>qCY c Q k os d (zm c.cfg.lo o.op&&qc2 c.cfg os (os.size-(a.length+1)) tm σ o.op) a o.dst tm σ (qeX c tm σ o.op)
 |some false=>Go c Q (.ops os d a::k) .normal ⟨qcM tm o.dst qoc,σ⟩
 |none=>False
theorem qSy(os d o rest):Go c Q (.ops os d (o::rest)::k) .normal ⟨tm,σ⟩=qxB c Q k os d rest o tm σ (yC os tm o):=by
 apply propext;constructor
 .rintro⟨b,a,e⟩;simp only[Qb]at a;unfold qxB;split at a
  .rename_i f;unfold qCY;split at a
   .rename_i x g;exact⟨b,a,e⟩
   .rename_i x σ' g;split at a
    .cases a
    .rename_i i;exact⟨i,b,a,e⟩
   .cases a
  .rename_i f;exact⟨b,a,e⟩
  .cases a
 .intro h;unfold qxB at h;split at h
  .rename_i f;unfold qCY at h;split at h
   .rename_i x g;let⟨b,a,e⟩:=h;exact⟨b,by simp[Qb,f,g];exact a,e⟩
   .rename_i x σ' g;let⟨i,b,a,e⟩:=h;exact⟨b,by simp only[Qb,f,g,i];exact a,e⟩
   .exact h.elim
  .rename_i f;let⟨b,a,e⟩:=h;exact⟨b,by simp[Qb,f];exact a,e⟩
  .exact h.elim
end
end Go.AmZ
namespace Go.AmZ
open Go Go.RowKit
def Sub(x y:AV):Prop:=∀Γ u,Rep Γ x u->Rep Γ y u
theorem Sub.refl(x:AV):Sub x x:=λ _ _ h=>h
inductive QI:List AV->List AV->Prop
 |nil:QI [] []
 |cons {x y:AV}{xs ys:List AV}:Sub x y->QI xs ys->QI (x::xs) (y::ys)
theorem QI.refl:∀xs,QI xs xs
 |[]=>.nil
 |x::xs=>.cons (.refl x) (.refl xs)
theorem QI.rep{Γ:Gh}:∀{xs ys:List AV}{us:List Value},QI xs ys->RepL Γ xs us->RepL Γ ys us
 |_,_,_,.nil,h=>h
 |_,_,us,.cons h t,g=>by
   obtain⟨u,r,rfl,b,a⟩:=g.uncons;exact .cons (h Γ u b) (t.rep a)
theorem QI.tup{xs ys:List AV}(h:QI xs ys):Sub (.tup xs) (.tup ys):=by
 intro Γ u a;cases a with
 |tup cs us c b=>
   have:=h.rep (RepL.mk c b);exact .tup _ _ this.len this.rep
theorem qQ4{P:Program}{C:Cfg}{Γ:Gh}{σ:St}{w:World}(t:yr P C){f:FuncId}{fn:Func}{c:Code}(F:P.funcs[f]?=some fn)(E:fn.body=some c)(o:Qf c=true){b:List AV}{a:List Value}{r:AV×Option St}(s:Inv Γ σ w)(q:RepL Γ b a)
  {n:Nat}{e:Ex}{d:S} (D:Q6 C n c (qhY fn σ b)=some (e,d)) (m:e=.ret\/e=.normal) (k:qjz C fn σ d=some r):Jm P Γ σ w f a r:=by
 unfold Jm;refine calls_of_wp F E ?_;have l:Inv Γ (qhY fn σ b).σ w:=s.wr rfl rfl
 have B:zu Γ (qhY fn σ b).tm {tmps:=a.toArray++Array.replicate (fn.ntmps-a.toArray.size) undef,defers:=[]}:=by
  show RepL Γ (b++List.replicate (fn.ntmps-b.length) .dead) (a.toArray++Array.replicate (fn.ntmps-a.toArray.size) undef).toList;rw[xn,xi];have:a.toArray.size=b.length:=by simpa using q.len
  rw[this];exact q.append (qdP Γ _)
 refine wp_mono (qy3 t n c _ e d o D Γ w _ l B rfl) ?_;rintro I x w' ⟨rfl,o,Γ',H,u,g3,G⟩;unfold qjz at k;split at k<;>cases k;rename_i i j;let⟨v,A,z⟩:=qla t.ty u g3 j;let⟨⟨h,u1,u2,u3⟩,u4⟩:=qLo s H u G z
 have:x.defers=[]/\∃v,(results fn x.tmps).run P w'=.ok v w'/\∃g Γ',Ending.returned v=.returned g/\Ext Γ w Γ' w'/\Inv Γ' (turn σ (qbO σ i d.σ).2) w'/\Rep Γ' (qbO σ i d.σ).1 g/\qO {σ with wr:=[],wrr:=[]} (turn {σ with wr:=[],wrr:=[]} (qbO σ i d.σ).2):=
  ⟨o,v,A,v,h,rfl,u1,u2,u3,u4⟩
 obtain rfl|rfl:=m
 .exact this
 .exact this
def Ret(c:PC)(a:List ResultVar)(b:AV->Prop)(e:Ex)(s:S):Prop:=
 (e=.ret\/e=.normal)/\match Qp c.cfg s.tm s.σ a with
  |some l=>refs 0 0 (qj7 0 s.σ.rw (zY l))=false/\b (qj7 0 s.σ.rw (zY l))
  |none=>False
def GoB(c:PC)(d:AV->Prop)(fn:Func)(a:List AV):Prop:=
 match fn.body with
 |some b=>Go c (Ret c fn.results.toList d) [.code b] .normal ⟨a++List.replicate (fn.ntmps-a.length) .dead,emp⟩
 |none=>False
def J6(fn:Func):Bool:=match fn.body with
 |some a=>Qf a && !(fn.name=="runtime.NumGoroutine")
 |none=>false
theorem yr.pur{P:Program}{C:Cfg}(h:yr P C)(p:Code->List Nat)(q:Nat->Bool):yr P {C with pur:=p,lo:=q}:=⟨h.mixed,h.ty,h.fn,h.prim,h.inl⟩
theorem qLw{P:Program}{c:PC}(hC:yr P c.cfg){f:FuncId}{fn:Func}(hf:P.funcs[f]?=some fn)(hb:J6 fn=true)(p:List AV->Option AV)
  (h:∀ args r,p args=some r->∃ args' Pr p q,QI args args'/\(∀ v,Pr v->Sub v r)/\GoB { c with pur:=p,ld:=q } Pr fn args'):qT P f (JB p):=by
 unfold J6 at hb;cases hc:fn.body with
 | none=>rw[hc]at hb;cases hb
 | some cd =>
 rw[hc]at hb;simp only[wc,wM]at hb;obtain⟨hd,hn⟩:=hb;refine⟨⟨fn,hf,by rw[hc];rfl,hn⟩,λ Γ σ w args vals r hi hr hp=>?_⟩;unfold JB at hp;split at hp<;>try cases hp
 split at hp<;>cases hp;rename_i v hv;obtain⟨args',Pr,pp,qq,g1,g2,hgo⟩:=h args v hv;have hC:yr P (PC.cfg { c with pur:=pp,ld:=qq }):=hC.pur pp _;unfold GoB at hgo;rw[hc]at hgo;obtain⟨n,e,s',g3,g4,g0⟩:=hgo;split at g0
 case h_2=>exact g0.elim
 rename_i l hl;obtain⟨g6,g7⟩:=g0
 have g5:qa2 (PC.cfg { c with pur:=pp,ld:=qq }) fn s'=some (zY l):=by
  unfold qa2;rw[hl]
 generalize zY l=rv at g5 g6 g7
 have hl:qjz (PC.cfg { c with pur:=pp,ld:=qq }) fn emp s'=some (qj7 0 s'.σ.rw rv,none):=by
  unfold qjz;rw[g5];simp only[qbO];have f1:(s'.σ.wr.filter λ b=>decide (b<emp.bx.length))=[]:=vD.2 λ b _=>by simp[emp]
  have f2:(s'.σ.wrr.filter λ b=>decide (b<emp.rw.length))=[]:=vD.2 λ b _=>by simp[emp]
  have hk:qo4 emp rv s'.σ = false:=by
   unfold qo4;rw[f1];show(refs 0 0 (qj7 0 s'.σ.rw rv)||false)=false;rw[g6];rfl
  rw[hk,f1,f2];rfl
 have hcall:=qQ4 (f:=f) (σ := emp) hC hf hc hd hi (g1.rep hr) (qvA qFh g3) g4 hl;refine Calls.mono hcall ?_;rintro e' w' ⟨v',Γ',q1,q2,q3,q4,q5⟩;exact⟨v',Γ',q1,q2,q3,g2 _ g7 Γ' v' q4,q5⟩
section
variable {c:PC}{Q:Ex->S->Prop}{k:List It}{tm:List AV}{σ:St}{os:Array Oper}{d:Bool}{rest:List Oper}{dst:Option Tmp}
theorem qLb(o:Oper):qxB c Q k os d rest o tm σ (some true)=qCY c Q k os d (zm c.cfg.lo o.op&&qc2 c.cfg os (os.size-(rest.length+1)) tm σ o.op) rest o.dst tm σ (qeX c tm σ o.op):=rfl
end
end Go.AmZ
namespace Go.GxZ
open Go.RowKit
inductive T where
 |mk (kind:Int) (name:List UInt8) (sort:Int) (kids:List T)
namespace T
def kind:T->Int|mk k _ _ _=>k
def name:T->List UInt8|mk _ n _ _=>n
def sort:T->Int|mk _ _ s _=>s
def kids:T->List T|mk _ _ _ l=>l
def para{α:Type}(f:T->List α->α)(t:T):α:=
 T.rec (motive_1:=λ _=>α) (motive_2:=λ _=>List α) (λ k n s l c=>f (mk k n s l) c) [] (λ _ _ a b=>a::b) t
theorem para_eq{α : Type}(f:T->List α -> α)(t:T):para f t=f t (t.kids.map (para f)):=by
 obtain⟨k,n,s,l⟩:=t;show f (mk k n s l) _=f (mk k n s l) _;congr 1;show T.rec_1 (motive_1 := λ _ => α) (motive_2 := λ _=>List α) _ _ _ l=l.map (para f)
 induction l with
 | nil=>rfl
 | cons a l ih=>exact congrArg (para f a :: ·) ih
theorem ind{P:T->Prop}(h:∀t,(∀k∈t.kids,P k)->P t)(t:T):P t:=
 T.rec (motive_1:=P) (motive_2:=λ l=>∀k∈l,P k) (λ _ _ _ _ c=>h _ c) (λ k b=>by cases b)
  (λ a l e d k b=>by obtain rfl|b:=wv.1 b;exact e;exact d k b) t
end T
def qfa{α:Type}(k:Nat)(R:α->List Value->Prop)(Q:Nat->Prop)(w:World)(a:Option Addr)(xs:List α):Prop:=
 ∀(j:Nat) (x:α),xs[j]?=some x->∃b off cs,a=some ⟨b,off,none⟩/\Q b/\cs.length=k/\(∀(i:Nat) (c:Value),cs[i]?=some c->w.cell? ⟨b,off+j*k+i,none⟩=some c)/\R x cs
def JA(Q:Nat->Prop)(w:World):T->List Value->Prop:=
 T.para λ t b cs=>∃a c,cs=[.int .i64 t.kind,.string ⟨t.name.toArray⟩,.int .i64 t.sort,.slice a b.length c]/\qfa 4 (λ r cs=>r cs) Q w a b
theorem qnp{Q:Nat->Prop}{w:World}{t:T}{cs:List Value}:
  JA Q w t cs↔∃a c,cs=[.int .i64 t.kind,.string ⟨t.name.toArray⟩,.int .i64 t.sort,.slice a t.kids.length c]/\qfa 4 (JA Q w) Q w a t.kids:=by
 unfold JA;rw[T.para_eq];simp only[wE];refine exists_congr λ a=>exists_congr λ c=>and_congr Iff.rfl ?_;constructor
 .intro h j x d;obtain⟨b,off,cs,l,k,i,g,f⟩:=h j _ (by rw[List.getElem?_map,d];rfl);grind
 .intro h j r d;rw[List.getElem?_map,wap]at d;obtain⟨x,e,rfl⟩:=d;exact h j x e
theorem qfa.mono{α:Type}{k:Nat}{R R':α->List Value->Prop}{Q d:Nat->Prop}{w:World}{a:Option Addr}{xs:List α}(h:qfa k R Q w a xs)(f:∀b,Q b->d b)(e:∀x∈xs,∀cs,R x cs->R' x cs):qfa k R' d w a xs:=
 λ j x c=>let⟨b,off,cs,h1,h2,h3,h4,h5⟩:=h j x c;⟨b,off,cs,h1,f b h2,h3,h4,e x (wb c) cs h5⟩
theorem qfa.below{α:Type}{k:Nat}{R R':α->List Value->Prop}{Q:Nat->Prop}{w w':World}{a:Option Addr}{xs:List α}(h:qfa k R Q w a xs)(f:∀b,Q b->w'.heap[b]?=w.heap[b]?)(g:∀x∈xs,∀cs,R x cs->R' x cs):qfa k R' Q w' a xs:=
 λ j x d=>let⟨b,off,cs,h1,h2,h3,h4,h5⟩:=h j x d;⟨b,off,cs,h1,h2,h3,λ i c e=>(World.cell?_of_block (w:=w) (a:=⟨b,off+j*k+i,none⟩) (f b h2)).trans (h4 i c e),g x (wb d) cs h5⟩
theorem JA.mono{Q d:Nat->Prop}{w:World}(g:∀b,Q b->d b)(t:T):∀{cs:List Value},JA Q w t cs->JA d w t cs:=by
 refine T.ind (P:=λ t=>∀{cs:List Value},JA Q w t cs->JA d w t cs) ?_ t;intro t e cs h;rw[qnp]at h |-
 let⟨a,c,j,i⟩:=h;exact⟨a,c,j,i.mono g λ x f cs h=>e x f h⟩
theorem JA.keep{Q:Nat->Prop}{w w':World}(f:∀b,Q b->w'.heap[b]?=w.heap[b]?)(t:T):∀{cs:List Value},JA Q w t cs->JA Q w' t cs:=by
 refine T.ind (P:=λ t=>∀{cs:List Value},JA Q w t cs->JA Q w' t cs) ?_ t;intro t d cs h;rw[qnp]at h |-
 let⟨a,c,i,g⟩:=h;exact⟨a,c,i,g.below f λ x e cs h=>d x e h⟩
def qPD(t:T)(a:Option Addr)(c:Nat):List Value:=[.int .i64 t.kind,.string ⟨t.name.toArray⟩,.int .i64 t.sort,.slice a t.kids.length c]
def qdq(Q:Nat->Prop)(w:World)(a:Option Addr)(l:List T):Prop:=qfa 4 (JA Q w) Q w a l
theorem JA.mk{Q:Nat->Prop}{w:World}{t:T}{a:Option Addr}{c:Nat}(h:qdq Q w a t.kids):JA Q w t (qPD t a c):=qnp.2 ⟨a,c,rfl,h⟩
theorem JA.out{Q:Nat->Prop}{w:World}{t:T}{cs:List Value}(h:JA Q w t cs):∃a c,cs=qPD t a c/\qdq Q w a t.kids:=qnp.1 h
theorem qdq.mono{Q d:Nat->Prop}{w:World}{a:Option Addr}{l:List T}(c:∀b,Q b->d b)(h:qdq Q w a l):qdq d w a l:=qfa.mono h c λ _ _ _ h=>h.mono c
theorem qdq.keep{Q:Nat->Prop}{w w':World}{a:Option Addr}{l:List T}(c:∀b,Q b->w'.heap[b]?=w.heap[b]?)(h:qdq Q w a l):qdq Q w' a l:=qfa.below h c λ x _ _ h=>h.keep c x
theorem qdq.at{Q:Nat->Prop}{w:World}{a:Option Addr}{l:List T}(h:qdq Q w a l){j:Nat}{x:T}(f:l[j]?=some x):
  ∃b off d e,a=some ⟨b,off,none⟩/\Q b/\w.cell? ⟨b,off+j*4,none⟩=some (.int .i64 x.kind)/\w.cell? ⟨b,off+j*4+1,none⟩=some (.string ⟨x.name.toArray⟩)/\
   w.cell? ⟨b,off+j*4+2,none⟩=some (.int .i64 x.sort)/\w.cell? ⟨b,off+j*4+3,none⟩=some (.slice d x.kids.length e)/\qdq Q w d x.kids:=by
 let⟨b,off,cs,m,k,n,c,i⟩:=h j x f;obtain⟨d,e,rfl,g⟩:=i.out;exact⟨b,off,d,e,m,k,c 0 _ rfl,c 1 _ rfl,c 2 _ rfl,c 3 _ rfl,g⟩
def InW(Q:Nat->Prop)(w:World):Prop:=∀b,Q b->b<w.heap.size
theorem InW.below{Q:Nat->Prop}{w w':World}(h:InW Q w)(c:Below w.heap.size w w'):InW Q w':=λ b a=>wA (h b a) c.size
theorem qdq.later{Q:Nat->Prop}{w w':World}{a:Option Addr}{l:List T}(h:qdq Q w a l)(e:InW Q w)(d:Below w.heap.size w w'):qdq Q w' a l:=h.keep λ b c=>d.block b (e b c)
theorem JA.later{Q:Nat->Prop}{w w':World}{t:T}{cs:List Value}(h:JA Q w t cs)(d:InW Q w)(c:Below w.heap.size w w'):JA Q w' t cs:=h.keep (λ b a=>c.block b (d b a)) t
end Go.GxZ
namespace Go.AmZ
open Go Go.GxZ
def re(t:T):T:=.mk t.kind t.name t.sort t.kids
theorem qi(t:T):re t=t:=by let⟨k,n,s,l⟩:=t;rfl
inductive Ty where
 |int (k:IntKind)|bool|str|term|list (a:Ty)|pair (a b:Ty)|one (a:Ty)|map (a b:Ty)
 deriving DecidableEq
@[reducible] def Val:Ty->Type
  |.int _=>Int
  |.bool=>Bool
  |.str=>List UInt8
  |.term=>T
  |.list a=>List (Val a)
  |.pair a b=>Val a×Val b
  |.one a=>Val a
  |.map a b=>List (Val a×Val b)
def Ty.size:Ty->Nat
 |.term=>4
 |.pair a b=>a.size+b.size
 |.one a=>a.size
 |_=>1
inductive TV where
 |i (k:IntKind) (n:Int)
 |b (x:Bool)
 |s (x:List UInt8)
 |c (x:Value)
 |nil
 |sl (τ:Ty) (l:List (Val τ)) (lv:Nat)
 |row (id ver:Nat)
 |ptr (b o:Nat)
 |pti (b:Nat) (i:Int)
 |rpt (id ver sv:Nat) (i:Int) (cs:List TV) (o:Nat)
 |ept (cs:List TV) (o:Nat)
 |fn (f:FuncId) (caps:List TV)
 |agg (cs:List TV)
 |tup (vs:List TV)
 |dead
 |mp (b:Nat)
 |mc (κ τ:Ty) (l:List (Val κ×Val τ))
structure yk where
 τ:Ty
 l:List (Val τ)
 ver:Nat
 sv:Nat
 sh:Bool
structure TS where
 bx:List (List TV)
 rw:List yk
abbrev Env:=List (Nat×TV)
def get:Env->Nat->TV
 |[],_=>.dead
 |p::E,t=>match Nat.beq p.1 t with
   |true=>p.2
   |false=>get E t
def qcI:Value->TV
 |.bool b=>.b b
 |.int k n=>.i k n
 |.string s=>.s s.data.toList
 |.slice none 0 0=>.nil
 |x=>match zk x with
   |true=>.c x
   |false=>.dead
def qDt:Value->TV
 |.agg cs=>match cs.toList.all zk with
   |true=>.agg (cs.toList.map qcI)
   |false=>.dead
 |.tuple vs=>match vs.toList with
   |[]=>.tup []
   |_=>.dead
 |x=>qcI x
def evT(E:Env):Operand->TV
 |.tmp t=>get E t
 |.const x=>qDt x
 |.func f=>.fn f []
 |.global _=>.dead
def jJ:TV->List TV
 |.agg cs=>cs
 |x=>[x]
def qiG:TV->Bool
 |.agg _|.tup _|.dead=>false
 |_=>true
def J9:(τ:Ty)->Val τ->List TV
 |.int k,n=>[.i k n]
 |.bool,b=>[.b b]
 |.str,s=>[.s s]
 |.term,t=>[.i .i64 t.kind,.s t.name,.i .i64 t.sort,.sl .term t.kids 1]
 |.list a,l=>[.sl a l 1]
 |.pair a b,p=>J9 a p.1++J9 b p.2
 |.one a,v=>J9 a v
 |.map a b,l=>[.mc a b l]
def qlQ:(τ:Ty)->Val τ->TV
 |.int k,n=>.i k n
 |.bool,b=>.b b
 |.str,s=>.s s
 |.list a,l=>.sl a l 1
 |.term,t=>.agg (J9 .term t)
 |.pair a b,p=>.agg (J9 (.pair a b) p)
 |.one a,v=>.agg (J9 (.one a) v)
 |.map a b,l=>.mc a b l
def qCX{c τ:Ty}(l:List (Val c×Val τ))(a b:Ty):Option (List (Val a×Val b)):=if h:c=a/\τ=b then some (h.1▸h.2▸l)else none
def qfr{τ:Ty}(l:List (Val τ))(a:Ty):Option (List (Val a)):=if h:τ=a then some (h▸l)else none
def qnD(rw:List yk)(a:Ty):TV->Option (List (Val a))
 |.nil=>some []
 |.sl _ l _=>qfr l a
 |.row id b=>match rw[id]? with
   |some R=>match Nat.beq R.ver b with
     |true=>qfr R.l a
     |false=>none
   |none=>none
 |_=>none
def qOn(k:IntKind):List TV->Option (Int×List TV)
 |.i a n::r=>match decide (a=k)with
   |true=>some (n,r)
   |false=>none
 |_=>none
def qJM:List TV->Option (Bool×List TV)
 |.b x::r=>some (x,r)
 |_=>none
def qMT:List TV->Option (List UInt8×List TV)
 |.s x::r=>some (x,r)
 |_=>none
def qI9(a:TV->Option (List T)):List TV->Option (T×List TV)
 |.i .i64 k::.s n::.i .i64 s::x::r=>match a x with
   |some l=>some (.mk k n s l,r)
   |none=>none
 |_=>none
def qI7{a:Type}(b:TV->Option a):List TV->Option (a×List TV)
 |x::r=>match b x with
   |some l=>some (l,r)
   |none=>none
 |_=>none
def qqq{σ b a:Type}(p:List σ->Option (b×List σ))(q:List σ->Option (a×List σ))(cs:List σ):Option ((b×a)×List σ):=match p cs with
 |some (x,r)=>match q r with
   |some (y,r)=>some ((x,y),r)
   |none=>none
 |none=>none
def qOX(a b:Ty):List TV->Option (List (Val a×Val b)×List TV)
 |.mc c τ l::r=>match qCX l a b with
   |some l=>some (l,r)
   |none=>none
 |_=>none
def qjq(rw:List yk):(τ:Ty)->List TV->Option (Val τ×List TV)
 |.int k=>qOn k
 |.bool=>qJM
 |.str=>qMT
 |.term=>qI9 (qnD rw .term)
 |.list a=>qI7 (qnD rw a)
 |.pair a b=>qqq (qjq rw a) (qjq rw b)
 |.one a=>qjq rw a
 |.map a b=>qOX a b
def Ty.agg:Ty->Bool
 |.term|.pair _ _|.one _=>true
 |_=>false
def qmO{a:Type}:Option (a×List TV)->Option a
 |some (v,[])=>some v
 |_=>none
def qxE:TV->Bool
 |.agg _=>true
 |_=>false
def qcu(rw:List yk)(τ:Ty)(x:TV):Option (Val τ):=match Q7 τ.agg (qxE x)with
 |true=>qmO (qjq rw τ (jJ x))
 |false=>none
def qsU(rw:List yk)(τ:Ty):List TV->Option (List (Val τ))
 |[]=>some []
 |x::l=>match qcu rw τ x with
   |some v=>match qsU rw τ l with
     |some vs=>some (v::vs)
     |none=>none
   |none=>none
def qmW:TV->Bool
 |.i .. |.b _|.s _|.c _|.nil|.sl .. |.fn .. |.mc .. => true
 |_=>false
def qnV:TV->Bool
 |.agg cs=>cs.all qmW
 |x=>qmW x
inductive ATy where
 |val (τ:Ty)|fn
@[reducible] def qed:List ATy->Type
  |[]=>Unit
  |.val τ::r=>Val τ×qed r
  |.fn::r=>qed r
@[reducible] def qg4:List Ty->Type
  |[]=>Unit
  |[a]=>Val a
  |a::b::r=>Val a×qg4 (b::r)
def qRJ{σ:Type}:List σ->Option Unit
 |[]=>some ()
 |_=>none
def qn1{σ b a:Type}(p:σ->Option b)(q:List σ->Option a):List σ->Option (b×a)
 |x::xs=>match p x with
   |some v=>match q xs with
     |some vs=>some (v,vs)
     |none=>none
   |none=>none
 |[]=>none
def pFn{a:Type}(q:List TV->Option a):List TV->Option a
 |.fn _ []::xs=>q xs
 |_=>none
def qxg(rw:List yk):(ts:List ATy)->List TV->Option (qed ts)
 |[]=>qRJ
 |.val τ::r=>qn1 (qcu rw τ) (qxg rw r)
 |.fn::r=>pFn (qxg rw r)
def qpE:List TV->List Nat
 |[]=>[]
 |.fn f _::l=>f::qpE l
 |_::l=>qpE l
def unL:(ts:List Ty)->qg4 ts->List TV
 |[],_=>[]
 |[a],v=>[qlQ a v]
 |a::b::r,v=>qlQ a v.1::unL (b::r) v.2
def qr5:List TV->TV
 |[x]=>x
 |l=>.tup l
structure Sig where
 args:List ATy
 res:List Ty
 fn:qed args->Option (qg4 res)
inductive RA where
 |val (τ:Ty)|row (τ:Ty)
@[reducible] def RA.T:RA->Type
  |.val τ=>Val τ
  |.row τ=>List (Val τ)
@[reducible] def CV:List RA->Type
  |[]=>Unit
  |a::r=>a.T×CV r
@[reducible] def BV:List RA->Type
  |[]=>Unit
  |[a]=>a.T
  |a::b::r=>CV (a::b::r)
def toC:(l:List RA)->BV l->CV l
 |[],_=>()
 |[_],v=>(v,())
 |_::_::_,v=>v
def toB:(l:List RA)->CV l->BV l
 |[],_=>()
 |[_],v=>v.1
 |_::_::_,v=>v
def nR:List RA->Nat
 |[]=>0
 |.val _::r=>nR r
 |.row _::r=>nR r+1
inductive SA where
 |val (τ:Ty)|row (τ:Ty)|box (l:List RA)|nil|clo (g k:Nat)
inductive RE where
 |one (a:RA)|agg (l:List RA)
@[reducible] def qaJ:List SA->Type
  |[]=>Unit
  |.val τ::r=>Val τ×qaJ r
  |.row τ::r=>List (Val τ)×qaJ r
  |.box l::r=>BV l×qaJ r
  |.nil::r|.clo _ _::r=>qaJ r
@[reducible] def J4:List SA->Type
  |[]=>Unit
  |.box l::r=>BV l×J4 r
  |.nil::r|.val _::r|.row _::r|.clo _ _::r=>J4 r
@[reducible] def RV:List RE->Type
  |[]=>Unit
  |.one a::r=>a.T×RV r
  |.agg l::r=>CV l×RV r
def nrB:List SA->Nat
 |[]=>0
 |.box l::r=>nR l+nrB r
 |.nil::r|.val _::r|.row _::r|.clo _ _::r=>nrB r
def nBx:List SA->Nat
 |[]=>0
 |.box _::r=>nBx r+1
 |.nil::r|.val _::r|.row _::r|.clo _ _::r=>nBx r
def qmU:List SA->Bool
 |[]=>true
 |.row _::_=>false
 |.box _::r|.nil::r|.val _::r|.clo _ _::r=>qmU r
def qmu:List SA->Bool
 |[]=>true
 |.box _::r=>qmU r&&qmu r
 |.nil::r|.val _::r|.row _::r|.clo _ _::r=>qmu r
structure qrp where
 args:List SA
 res:List RE
 fn:qaJ args->Option (J4 args×RV res)
structure quY where
 τ:Ty
 args:List SA
 fn:qaJ (.row τ::args)->Option (List (Val τ))
structure qyZ where
 args:List SA
 fn:qaJ args->Option Int
inductive Co where
 |keep|row (τ:Ty) (sh:Bool)|list (τ:Ty)|plist (τ:Ty)|box (cs:List Co)|fn (cs:List Co)
structure TC where
 ty:Nat->Option TD
 el:Nat->Option Ty
 has:Nat->Bool
 pf:Nat->List Nat->Option Sig
 sf:Nat->Option qrp
 loop:Nat->Option (List (Tmp×Co))
 join:Nat->Option (List (Tmp×Co))
 nt:Nat
 np:Nat
 ld:Nat->Bool
 mf:Nat->Option quY
 xf:Nat->Option qyZ
 inl:Nat->Option Func
def TC.rawT(c:TC)(f:Nat):Bool:=match c.has f with
 |true=>false
 |false=>match c.mf f with
   |some _=>true
   |none=>match c.xf f with
     |some _=>true
     |none=>match c.sf f with
       |some _=>true
       |none=>false
def TC.loT(c:TC)(f:Nat):Bool:=c.rawT f||(c.ld f||(c.inl f).isSome)
abbrev TC.n2(c:TC):Nat×Nat:=(c.nt,c.np)
def qb{α b:Type}(x:Option α)(k:α->Option b):Option b:=match x with
 |some a=>k a
 |none=>none
def qto{α c:Type}(x:Option c)(a:α)(f:c->α):α:=match x with
 |none=>a
 |some b=>f b
def qkH{α b:Type}(l:List b)(a:α)(f:b->List b->α):α:=match l with
 |[]=>a
 |x::r=>f x r
def qd{α:Type}(l:List α)(j:Int):Option α:=if 0<=j then l[j.toNat]? else none
def ixb(j:Int)(n:Nat):Bool:=decide (0<=j/\j<(n:Int))
def qon:List TV->Option (List Bool)
 |[]=>some []
 |.b x::l=>match qon l with
   |some r=>some (x::r)
   |none=>none
 |_=>none
def qp1:List Bool->Int->Bool->Nat->List Bool
 |[],_,_,_=>[]
 |e::l,i,v,j=>cond (ieq i (j:Int)) v e::qp1 l i v (j+1)
def inb(i:Int)(y:Nat):Bool:=decide (0<=i/\i<=y)
def yF{α:Type}(l:List α)(j:Int)(v:α):List α:=if 0<=j then l.set j.toNat v else l
def qCQ(n:Int)(bytes:Nat):Bool:=decide (0<=n/\n.toNat*bytes<=2^47/\n.toNat<2^62)
def qMF:Operand->Operand->Bool
 |.tmp a,.tmp b=>Nat.beq a b
 |.const (.int k a),.const (.int c b)=>decide (k=c)&&decide (a=b)
 |_,_=>false
def shA(σ:TS):TS:=⟨σ.bx,σ.rw.map λ R=>⟨R.τ,R.l,R.ver,R.sv,true⟩⟩
def qym:Ty->Bool
 |.int _|.bool|.str=>true
 |_=>false
def qao{α:Type}(l:List α)(a b:Int):List α:=(l.take b.toNat).drop a.toNat
def qwF(a b:List UInt8):Bool:=decide (((a.length+b.length:Nat):Int)<=IntKind.i64.max)
def zo(n bytes:Nat):Bool:=decide (n*bytes<=2^47/\n<2^62)
def qu(a b:List UInt8):Bool:=a==b
def slt(a b:List UInt8):Bool:=Op.bytesLess a b
def Jb(l:List Int):List UInt8:=l.map λ n=>UInt8.ofNat n.toNat
def qcJ(s:List UInt8):List Int:=s.map λ b=>((b.toNat:Nat):Int)
def qF7:Option TD->Bool
 |some ⟨_,_,_,_,.ptr⟩=>true
 |_=>false
def qJj:TV->TV->Option Bool
 |.c (.pointer none),.c (.pointer none)=>some true
 |.ptr _ _,.c (.pointer none)|.rpt _ _ _ _ _ _,.c (.pointer none)|.ept _ _,.c (.pointer none)=>some false
 |_,_=>none
section
variable {α:Type}
abbrev KT(α:Type):=TV->Option TS->Option α
def qOF(op:BinOp)(k:IntKind)(a b:Int)(K:TV->Option α):Option α:=
 match op with
 |.add=>K (.i k (iw k (qf a b)))
 |.sub=>K (.i k (iw k (zX a b)))
 |.mul=>K (.i k (iw k (qsb a b)))
 |.quo=>cond (ieq b 0) none (K (.i k (iw k (qME a b))))
 |.rem=>cond (ieq b 0) none (K (.i k (qM9 a b)))
 |.and=>K (.i k (qpG .and k a b))
 |.or=>K (.i k (qpG .or k a b))
 |.xor=>K (.i k (qpG .xor k a b))
 |.andNot=>K (.i k (qpG .andNot k a b))
 |.eql=>K (.b (ieq a b))
 |.neq=>K (.b (qg (ieq a b)))
 |.lss=>K (.b (ilt a b))
 |.leq=>K (.b (ile a b))
 |.gtr=>K (.b (ilt b a))
 |.geq=>K (.b (ile b a))
 |_=>none
def qMV(op:BinOp)(x y:List UInt8)(K:TV->Option α):Option α:=
 match op with
 |.add=>cond (qwF x y) (K (.s (x++y))) none
 |.eql=>K (.b (qu x y))
 |.neq=>K (.b (qg (qu x y)))
 |.lss=>K (.b (slt x y))
 |.leq=>K (.b (qrl (slt x y) (qu x y)))
 |.gtr=>K (.b (qg (qrl (slt x y) (qu x y))))
 |.geq=>K (.b (qg (slt x y)))
 |_=>none
def qwS:Option TD->Bool
 |some ⟨_,_,_,_,.bool⟩=>true
 |_=>false
def qOG(d:Option TD)(op:BinOp)(x y:TV)(K:TV->Option α):Option α:=
 match x,y with
 |.i k a,.i c b=>match op with
   |.shl=>cond (ilt b 0) none (K (.i k (qOb k a b)))
   |.shr=>cond (ilt b 0) none (K (.i k (qpg k a b)))
   |op=>match decide (k=c)with
     |true=>qOF op k a b K
     |false=>none
 |.s a,.s b=>qMV op a b K
 |.b a,.b b=>match op,qwS d with
   |.eql,true=>K (.b (Q7 a b))
   |.neq,true=>K (.b (qg (Q7 a b)))
   |_,_=>none
 |_,_=>none
def qCU(place:Nat->Option (Nat×Nat))(cells:List TV):List (Nat×TV)->Option (List TV)
 |[]=>some cells
 |(i,x)::a=>match place i with
   |none=>none
   |some (off,size)=>match decide ((jJ x).length=size)&&decide (off+size<=cells.length)&&(jJ x).all qiG with
     |true=>qCU place (cells.take off++(jJ x++cells.drop (off+size))) a
     |false=>none
def qny(a:Bool)(size:Nat)(cs:List TV)(o:Nat):Option TV:=
 match a with
 |true=>match decide (o+size<=cs.length)with
   |true=>some (.agg ((cs.drop o).take size))
   |false=>none
 |false=>cs[o]?
def qf8(d:Int)(E:Env):Option Operand->Option Int
 |none=>some d
 |some x=>match evT E x with
   |.i _ n=>some n
   |_=>none
def veq:(c:Ty)->Val c->Val c->Bool
 |.int _,a,b=>ieq a b
 |.str,a,b=>qu a b
 |.bool,a,b=>Q7 a b
 |.pair c τ,a,b=>veq c a.1 b.1&&veq τ a.2 b.2
 |.one c,a,b=>veq c a b
 |_,_,_=>false
def kcT:Ty->List KC
 |.int k=>[.int k]
 |.str=>[.str]
 |.bool=>[.bool]
 |.pair a b=>kcT a++kcT b
 |.one a=>kcT a
 |_=>[]
def qa9:Ty->Bool
 |.int _|.str|.bool=>true
 |.pair a b=>qa9 a&&qa9 b
 |.one a=>qa9 a
 |_=>false
def Qy{K V:Type}(eq:K->K->Bool):List (K×V)->K->Option V
 |[],_=>none
 |p::l,k=>cond (eq k p.1) (some p.2) (Qy eq l k)
def qd3{K V:Type}(eq:K->K->Bool)(z:V)(l:List (K×V))(k:K):V:=qto (Qy eq l k) z id
def qmo{K V:Type}(eq:K->K->Bool)(l:List (K×V))(k:K):Bool:=qto (Qy eq l k) false λ _=>true
def qcb{K V:Type}(eq:K->K->Bool):List (K×V)->K->V->List (K×V)
 |[],k,v=>[(k,v)]
 |p::l,k,v=>cond (eq k p.1) ((p.1,v)::l) (p::qcb eq l k v)
def qxh:List TV->Bool
 |[.dead]|[.mc ..]=>false
 |_=>true
def qwD(σ:TS)(a τ:Ty):TV->Option (Nat×List (Val a×Val τ))
 |.mp b=>match σ.bx[b]? with
   |some [.mc _ _ l]=>match qCX l a τ with
     |some l=>some (b,l)
     |none=>none
   |_=>none
 |_=>none
def qtd(c:TC)(t:Nat):Option (Ty×Ty):=match c.ty t,c.el t with
 |some ⟨_,_,_,_,.map e f d b _⟩,some (.map a τ)=>match decide (e=kcT a)&&(Q7 f a.agg&&(Q7 d τ.agg&&(decide (b=τ.size)&&qa9 a)))with
   |true=>some (a,τ)
   |false=>none
 |_,_=>none
def qMY(c:TC)(t:Nat)(τ:Ty):Option (Val τ):=match c.ty t with
 |some ⟨_,_,_,_,.map _ _ _ b a⟩=>match a.all zk&&decide (a.length=b)with
   |true=>qmO (qjq [] τ (a.map qcI))
   |false=>none
 |_=>none
def qs5(c:TC)(E:Env)(σ:TS)(t:Nat)(m k v:Operand)(K:KT α):Option α:=match qtd c t with
 |some (a,τ)=>match qwD σ a τ (evT E m),qnV (evT E v)with
   |some (b,l),true=>match qcu σ.rw a (evT E k),qcu σ.rw τ (evT E v)with
     |some k,some v=>K (.tup []) (some {σ with bx:=σ.bx.set b [.mc a τ (qcb (veq a) l k v)]})
     |_,_=>none
   |_,_=>none
 |none=>none
def Qe(c:TC)(E:Env)(σ:TS)(op:Op)(K:KT α):Option α:=
 match op with
 |.move x|.assign x=>K (evT E x) none
 |.pick x a b=>match evT E x with
   |.b y=>cond y (K (evT E a) none) (K (evT E b) none)
   |_=>none
 |.alloc e=>match c.ty e with
   |some d=>match d.zero.all zk with
     |true=>K (.ptr σ.bx.length 0) (some {σ with bx:=σ.bx++[d.zero.map qcI]})
     |false=>none
   |none=>none
 |.box e x=>match c.ty e with
   |some _=>match(jJ (evT E x)).all qiG with
     |true=>K (.ptr σ.bx.length 0) (some {σ with bx:=σ.bx++[jJ (evT E x)]})
     |false=>none
   |none=>none
 |.build t parts=>match c.ty t with
   |some ⟨_,_,_,z,.struct w⟩=>match z.all zk with
     |true=>match qCU (λ i=>match w[i]? with|some f=>some (f.1,f.2.1)|none=>none) (z.map qcI) (parts.toList.map λ p=>(p.1,evT E p.2))with
       |some cs=>K (.agg cs) none
       |none=>none
     |false=>none
   |_=>none
 |.buildSlice t n parts=>match c.ty t,c.el t with
   |some ⟨_,_,_,_,.slice _ k _ _⟩,some τ=>match decide (k=τ.size)&&decide (parts.size=n)&&decide (n*k<=2^24)&&decide (0<k)&&(parts.toList.zipIdx.all λ p=>decide (p.1.1=p.2))with
     |true=>match qsU σ.rw τ (parts.toList.map λ p=>evT E p.2)with
       |some vs=>K (.sl τ vs 2) (match(parts.toList.all λ p=>qnV (evT E p.2))with|true=>none|false=>some (shA σ))
       |none=>none
     |false=>none
   |_,_=>none
 |.load t a=>match c.ty t with
   |some d=>match evT E a with
     |.ptr b o=>match σ.bx[b]? with
       |some cs=>match qxh cs with
         |true=>match qny d.agg d.size cs o with
           |some x=>K x none
           |none=>none
         |false=>none
       |none=>none
     |.ept cs o=>match qny d.agg d.size cs o with
       |some x=>K x none
       |none=>none
     |.pti b i=>match σ.bx[b]? with
       |some cs=>match d.agg,qon cs with
         |false,some l=>qb (qd l i) λ v=>K (.b v) none
         |_,_=>none
       |none=>none
     |.rpt id q u i cs o=>match σ.rw[id]? with
       |some R=>match Nat.beq R.ver q with
         |true=>match Nat.beq R.sv u with
           |true=>match qny d.agg d.size cs o with
             |some x=>K x none
             |none=>none
           |false=>match R.sh with
             |true=>none
             |false=>qb (qd R.l i) λ v=>match qny d.agg d.size (J9 R.τ v) o with
               |some x=>K x none
               |none=>none
         |false=>none
       |none=>none
     |_=>none
   |none=>none
 |.store t a x=>match c.ty t,evT E a with
   |some d,.ptr b o=>match σ.bx[b]? with
     |some cs=>match qxh cs&&decide ((jJ (evT E x)).length=d.size)&&decide (o+d.size<=cs.length)&&(jJ (evT E x)).all qiG with
       |true=>K (.tup []) (some {σ with bx:=σ.bx.set b (cs.take o++(jJ (evT E x)++cs.drop (o+d.size)))})
       |false=>none
     |none=>none
   |some d,.pti b i=>match σ.bx[b]?,evT E x with
     |some cs,.b v=>match qon cs,Nat.beq d.size 1 with
       |some l,true=>cond (ixb i l.length) (K (.tup []) (some {σ with bx:=σ.bx.set b ((qp1 l i v 0).map .b)})) none
       |_,_=>none
     |_,_=>none
   |some d,.rpt id q u i cs o=>match σ.rw[id]? with
     |some R=>match Nat.beq R.ver q&&Nat.beq R.sv u && !R.sh&&decide ((jJ (evT E x)).length=d.size)&&decide (o+d.size<=cs.length)&&(jJ (evT E x)).all qmW with
       |true=>match qmO (qjq σ.rw R.τ (cs.take o++(jJ (evT E x)++cs.drop (o+d.size))))with
         |some v=>K (.tup []) (some {σ with rw:=σ.rw.set id ⟨R.τ,yF R.l i v,R.ver,R.sv+1,R.sh⟩})
         |none=>none
       |false=>none
     |none=>none
   |_,_=>none
 |.makeSlice t n m=>match c.ty t,c.el t,evT E n with
   |some ⟨_,_,_,_,.slice _ k bytes z⟩,some τ,.i _ a=>match qMF n m&&decide (k=τ.size)&&decide (0<k)&&decide (z.length=k)&&z.all zk with
     |true=>match qmO (qjq [] τ (z.map qcI))with
       |some v=>cond (qCQ a bytes) (K (.row σ.rw.length 0) (some {σ with rw:=σ.rw++[⟨τ,List.replicate a.toNat v,0,0,false⟩]})) none
       |none=>none
     |false=>none
   |_,_,_=>none
 |.nilCheck x=>match evT E x with
   |.ptr b o=>K (.ptr b o) none
   |.ept cs o=>K (.ept cs o) none
   |.rpt id q u i cs o=>K (.rpt id q u i cs o) none
   |_=>none
 |.binOp op t x y _=>match qJj (evT E x) (evT E y)with
   |some b=>match op,qF7 (c.ty t)with
     |.eql,true=>K (.b b) none
     |.neq,true=>K (.b (!b)) none
     |_,_=>none
   |none=>qOG (c.ty t) op (evT E x) (evT E y) λ v=>K v none
 |.unOp op _ x=>match op,evT E x with
   |.neg,.i k n=>K (.i k (iw k (zX 0 n))) none
   |.not,.b y=>K (.b (qg y)) none
   |_,_=>none
 |.convert s d x=>match c.ty s,c.ty d,evT E x with
   |some _,some ⟨_,_,_,_,.int k⟩,.i _ n=>K (.i k (iw k n)) none
   |some _,some ⟨_,_,_,_,.string⟩,.s y=>K (.s y) none
   |some ⟨_,_,_,_,.string⟩,some ⟨_,_,_,_,.slice e 1 _ _⟩,.s y=>match qsl (c.ty e)with
     |true=>K (.row σ.rw.length 0) (some {σ with rw:=σ.rw++[⟨.int .u8,qcJ y,0,0,false⟩]})
     |false=>none
   |some ⟨_,_,_,_,.slice e 1 _ _⟩,some ⟨_,_,_,_,.string⟩,y=>match qsl (c.ty e),qnD σ.rw (.int .u8) y with
     |true,some l=>K (.s (Jb l)) none
     |_,_=>none
   |_,_,_=>none
 |.makeFunc (.func f) w cs=>match w.toList with
   |[]=>K (.fn f (cs.toList.map (evT E))) none
   |_=>none
 |.slice t x lo A none=>match c.ty t,evT E x with
   |some ⟨_,_,_,_,.string⟩,.s y=>match qf8 y.length E A with
     |some h=>match qf8 0 E lo with
       |some l=>cond (inb h y.length) (cond (inb l h.toNat) (K (.s (qao y l h)) none) none) none
       |none=>none
     |none=>none
   |some ⟨_,_,_,_,.slice _ k _ _⟩,.sl τ y D=>match decide (τ.size=k)&&pos D with
     |true=>match qf8 y.length E A with
       |some h=>match qf8 0 E lo with
         |some l=>cond (inb h y.length) (cond (inb l h.toNat) (K (.sl τ (qao y l h) 1) none) none) none
         |none=>none
       |none=>none
     |false=>none
   |some ⟨_,_,_,_,.slice _ _ _ _⟩,.nil=>match qf8 0 E A with
     |some h=>match qf8 0 E lo with
       |some l=>cond (inb h 0) (cond (inb l h.toNat) (K .nil none) none) none
       |none=>none
     |none=>none
   |some ⟨_,_,_,_,.slice _ k _ _⟩,.row id q=>match A,σ.rw[id]? with
     |none,some R=>match Nat.beq R.ver q&&decide (R.τ.size=k)with
       |true=>match qf8 0 E lo with
         |some l=>cond (inb l R.l.length) (K (.row id (q+1)) (some {σ with rw:=σ.rw.set id ⟨R.τ,R.l.drop l.toNat,q+1,R.sv,true⟩})) none
         |none=>none
       |false=>none
     |_,_=>none
   |_,_=>none
 |.fieldAddr t x i=>match c.ty t with
   |some ⟨_,_,_,_,.struct w⟩=>match w[i]? with
     |some (off,size,_)=>match size with
       |0=>none
       |_+1=>match evT E x with
         |.ptr b o=>K (.ptr b (o+off)) none
         |.ept cs o=>K (.ept cs (o+off)) none
         |.rpt id q u i cs o=>K (.rpt id q u i cs (o+off)) none
         |_=>none
     |none=>none
   |_=>none
 |.field t x i=>match c.ty t,evT E x with
   |some ⟨_,_,_,_,.struct w⟩,.agg cs=>match w[i]? with
     |some (off,size,g)=>match qny g size cs off with
       |some y=>K y none
       |none=>none
     |none=>none
   |_,_=>none
 |.indexAddr t x i=>match c.ty t,evT E i with
   |some ⟨_,_,_,_,.slice _ k _ _⟩,.i _ j=>match evT E x with
     |.sl τ l _=>match decide (τ.size=k)with
       |true=>qb (qd l j) λ v=>K (.ept (J9 τ v) 0) none
       |false=>none
     |.row id q=>match σ.rw[id]? with
       |some R=>match Nat.beq R.ver q&&decide (R.τ.size=k)with
         |true=>qb (qd R.l j) λ v=>K (.rpt id q R.sv j (J9 R.τ v) 0) none
         |false=>none
       |none=>none
     |_=>none
   |some ⟨_,_,_,_,.array n _ 1⟩,.i _ j=>match evT E x with
     |.ptr b 0=>cond (ixb j n) (K (.pti b j) none) none
     |_=>none
   |_,_=>none
 |.index t x i=>match c.ty t,evT E x,evT E i with
   |some ⟨_,_,_,_,.string⟩,.s y,.i _ j=>qb (qd y j) λ v=>K (.i .u8 v.toNat) none
   |_,_,_=>none
 |.extract x i=>match evT E x with
   |.tup vs=>match vs[i]? with
     |some y=>K y none
     |none=>none
   |_=>none
 |.makeMap t none=>match qtd c t with
   |some (r,τ)=>K (.mp σ.bx.length) (some {σ with bx:=σ.bx++[[.mc r τ []]]})
   |none=>none
 |.lookup t m k C=>match qtd c t with
   |some (r,τ)=>match qwD σ r τ (evT E m),qMY c t τ,qcu σ.rw r (evT E k)with
     |some (_,l),some z,some k=>match C with
       |true=>K (.tup [qlQ τ (qd3 (veq r) z l k),.b (qmo (veq r) l k)]) none
       |false=>K (qlQ τ (qd3 (veq r) z l k)) none
     |_,_,_=>none
   |none=>none
 |.mapUpdate t m k v|.insert t m k v=>qs5 c E σ t m k v K
 |_=>none
def qJp(k bytes:Nat)(σ:TS)(τ:Ty)(s:TV)(xs:List (Val τ))(K:KT α):Option α:=
 match s with
 |.nil=>qkH xs (K .nil none) λ x r=>cond (zo (r.length+1) bytes) (K (.row σ.rw.length 0) (some {σ with rw:=σ.rw++[⟨τ,x::r,0,0,false⟩]})) none
 |.sl b l c=>match decide (1<c)with
   |true=>match qfr l τ with
     |some l=>cond (zo (l.length+xs.length) bytes) (qkH xs (K s none) λ x r=>K (.row σ.rw.length 0) (some {σ with rw:=σ.rw++[⟨τ,l++(x::r),0,0,false⟩]})) none
     |none=>none
   |false=>none
 |.row id a=>match σ.rw[id]? with
   |some R=>match Nat.beq R.ver a with
     |true=>match qfr R.l τ with
       |some l=>cond (zo (l.length+xs.length) bytes) (K (.row id (a+1)) (some {σ with rw:=σ.rw.set id ⟨τ,l++xs,a+1,R.sv,R.sh⟩})) none
       |none=>none
     |false=>none
   |none=>none
 |_=>none
def qvI(c:TC)(σ:TS)(b:Builtin)(ts:Array TypeId)(f:List TV)(K:KT α):Option α:=
 match b,f with
 |.len,[x]=>match ts[0]? with
   |some t=>match c.ty t with
     |some d=>match d.k,x with
       |.string,.s y=>K (.i .i64 y.length) none
       |.slice ..,.nil=>K (.i .i64 0) none
       |.slice ..,.sl _ l _=>K (.i .i64 l.length) none
       |.slice ..,.row id g=>match σ.rw[id]? with
         |some R=>match Nat.beq R.ver g with
           |true=>K (.i .i64 R.l.length) none
           |false=>none
         |none=>none
       |.map ..,.mp b=>match qtd c t with
         |some (j,τ)=>match qwD σ j τ (.mp b)with
           |some (_,l)=>K (.i .i64 l.length) none
           |none=>none
         |none=>none
       |_,_=>none
     |none=>none
   |none=>none
 |.append,[s,x]=>match ts[0]?,ts[1]? with
   |some t,some u=>match c.ty t,c.ty u,c.el t with
     |some ⟨_,_,_,_,.slice _ k bytes z⟩,some ⟨_,_,_,_,.slice _ _ _ _⟩,some τ=>match decide (0<k)&&decide (z.length=k)&&decide (k=τ.size)with
       |true=>match qnD σ.rw τ x with
         |some xs=>qJp k bytes σ τ s xs K
         |none=>none
       |false=>none
     |some ⟨_,_,_,_,.slice e 1 bytes z⟩,some ⟨_,_,_,_,.string⟩,some (.int .u8)=>match decide (z.length=1)&&qsl (c.ty e),x with
       |true,.s y=>qJp 1 bytes σ (.int .u8) s (qcJ y) K
       |_,_=>none
     |_,_,_=>none
   |_,_=>none
 |.max,[.i k a,.i h b]=>match decide (k=h)with|true=>K (.i k (qnM a b)) none|false=>none
 |.min,[.i k a,.i h b]=>match decide (k=h)with|true=>K (.i k (qMS a b)) none|false=>none
 |_,_=>none
def qiS(rw:List yk)(τ:Ty):TV->Option (List (Val τ)×List Nat)
 |.nil=>some ([],[])
 |.sl a l c=>match qfr l τ,decide (1<c)with
   |some [],true=>some ([],[])
   |_,_=>none
 |.row id b=>match rw[id]? with
   |some R=>match Nat.beq R.ver b && !R.sh with
     |true=>match qfr R.l τ with
       |some l=>some (l,[id])
       |none=>none
     |false=>none
   |none=>none
 |_=>none
def qav(rw:List yk):(l:List RA)->List TV->Option (CV l×List Nat×Bool)
 |[],[]=>some ((),[],true)
 |[],_::_=>none
 |.val τ::r,cs=>match qmO (qjq rw τ (cs.take τ.size)),qav rw r (cs.drop τ.size)with
   |some v,some (vs,a,q)=>some ((v,vs),a,(cs.take τ.size).all qmW&&q)
   |_,_=>none
 |.row τ::r,c::cs=>match qiS rw τ c,qav rw r cs with
   |some (v,i),some (vs,a,q)=>some ((v,vs),i++a,q)
   |_,_=>none
 |.row _::_,[]=>none
def qmq:List RA->Bool
 |[.val (.map _ _)]=>true
 |_=>false
def bxT(l:List RA)(b:Nat):TV:=match qmq l with
 |true=>.mp b
 |false=>.ptr b 0
def qOo(l:List RA)(x:TV):Option Nat:=match qmq l,x with
 |true,.mp b|false,.ptr b 0=>some b
 |_,_=>none
def qR2(rw:List yk)(c:List (List TV))(l:List RA)(x:TV):Option (CV l×List Nat×Nat):=match qOo l x with
 |some b=>match c[b]? with
   |some cs=>match qav rw l cs with
     |some (v,a,true)=>some (v,a,b)
     |_=>none
   |none=>none
 |none=>none
def jf(σ:TS):(sas:List SA)->List TV->Option (qaJ sas×List Nat×List Nat)
 |[],[]=>some ((),[],[])
 |.val τ::r,x::xs=>match qnV x,qcu σ.rw τ x with
   |true,some v=>match jf σ r xs with
     |some (vs,q)=>some ((v,vs),q)
     |none=>none
   |_,_=>none
 |.row τ::r,x::xs=>match qiS σ.rw τ x with
   |some (l,a)=>match jf σ r xs with
     |some (vs,d,c)=>some ((l,vs),d,a++c)
     |none=>none
   |none=>none
 |.box l::r,x::xs=>match qR2 σ.rw σ.bx l x with
   |some (v,a,b)=>match jf σ r xs with
     |some (vs,d,c)=>some ((toB l v,vs),b::d,a++c)
     |none=>none
   |none=>none
 |.nil::r,.nil::xs=>jf σ r xs
 |.clo g k::r,.fn e cs::xs=>match Nat.beq g e&&Nat.beq cs.length k with
   |true=>jf σ r (cs++xs)
   |false=>none
 |_,_=>none
def ndN:List Nat->Bool
 |[]=>true
 |b::l=>(l.all λ c => !Nat.beq b c)&&ndN l
def qpd(rw:List yk)(a:List Nat):List yk:=a.foldl (λ l i=>l.modify i λ R=>⟨R.τ,[],R.ver+1,R.sv,false⟩) rw
def qh2:(l:List RA)->Nat->CV l->List TV
 |[],_,_=>[]
 |.val τ::r,L,v=>J9 τ v.1++qh2 r L v.2
 |.row _::r,L,v=>.row L 0::qh2 r (L+1) v.2
def qeh:(l:List RA)->CV l->List yk
 |[],_=>[]
 |.val _::r,v=>qeh r v.2
 |.row τ::r,v=>⟨τ,v.1,0,0,false⟩::qeh r v.2
def qki:(sas:List SA)->Nat->J4 sas->List (List TV)
 |[],_,_=>[]
 |.box l::r,L,o=>qh2 l L (toC l o.1)::qki r (L+nR l) o.2
 |.nil::r,L,o|.val _::r,L,o|.row _::r,L,o|.clo _ _::r,L,o=>qki r L o
def qdB:(sas:List SA)->J4 sas->List yk
 |[],_=>[]
 |.box l::r,o=>qeh l (toC l o.1)++qdB r o.2
 |.nil::r,o|.val _::r,o|.row _::r,o|.clo _ _::r,o=>qdB r o
def qte(a:List (List TV)):List Nat->List (List TV)->List (List TV)
 |b::c,x::xs=>qte (a.set b x) c xs
 |_,_=>a
def qFR(nb NB:Nat):(a:List RE)->Nat->RV a->List TV
 |[],_,_=>[]
 |.one (.val τ)::r,L,v=>qlQ τ v.1::qFR nb NB r L v.2
 |.one (.row _)::r,L,v=>.row L 0::qFR nb NB r (L+1) v.2
 |.agg l::r,L,v=>.agg (qh2 l L v.1)::qFR nb NB r (L+nR l) v.2
def qGu:(a:List RE)->RV a->List yk
 |[],_=>[]
 |.one (.val _)::r,v=>qGu r v.2
 |.one (.row τ)::r,v=>⟨τ,v.1,0,0,false⟩::qGu r v.2
 |.agg l::r,v=>qeh l v.1++qGu r v.2
def qD1:(a:List RE)->Nat->RV a->List (List TV)
 |[],_,_=>[]
 |.one (.val _)::r,L,v=>qD1 r L v.2
 |.one (.row _)::r,L,v=>qD1 r (L+1) v.2
 |.agg l::r,L,v=>qD1 r (L+nR l) v.2
def nRA:RA->Nat
 |.val _=>0
 |.row _=>1
def qlu(rws:List yk):(f:List RE)->Nat->Nat->RV f->((c:List RE)->RV c->Option α)->Option α
 |[],_,_,_,k=>k [] ()
 |.one a::r,nb,d,v,k=>qlu rws r nb (d+nRA a) v.2 λ e b=>k (.one a::e) (v.1,b)
 |.agg l::r,nb,d,v,k=>qlu rws r nb (d+nR l) v.2 λ e b=>k (.agg l::e) (v.1,b)
def qGj(σ:TS)(g:quY)(b:List TV)(K:KT α):Option α:=match b with
 |x::xs=>match qiS σ.rw g.τ x,jf σ g.args xs with
   |some (l,c),some (a,[],[])=>match qmu g.args with
     |true=>match c with
       |[id]=>qb (g.fn (l,a)) λ v=>cond (Nat.beq v.length l.length) (K (.tup []) (some ⟨σ.bx,σ.rw.modify id λ R=>⟨g.τ,v,R.ver,R.sv+1,false⟩⟩)) none
       |[]=>qb (g.fn (l,a)) λ v=>cond (Nat.beq v.length l.length) (K (.tup []) none) none
       |_=>none
     |false=>none
   |_,_=>none
 |[]=>none
def qDq(σ:TS)(g:qyZ)(b:List TV)(K:KT α):Option α:=match jf σ g.args b with
 |some (a,d,c)=>match ndN d&&(ndN c&&qmu g.args)with
   |true=>qb (g.fn a) λ v=>K (.i .i64 v) none
   |false=>none
 |none=>none
def qxc(c:TC)(σ:TS)(f:Nat)(b:List TV)(K:KT α):Option α:=match c.mf f with
 |some g=>qGj σ g b K
 |none=>match c.xf f with
   |some g=>qDq σ g b K
   |none=>match c.sf f with
     |some g=>match jf σ g.args b with
       |some (a,i,h)=>match ndN i&&(ndN h&&qmu g.args)with
         |true=>qb (g.fn a) λ v=>qlu (qdB g.args v.1) g.res (nBx g.args) (nrB g.args) v.2 λ d e=>K (qr5 (qFR σ.bx.length (nBx g.args) d (σ.rw.length+nrB g.args) e)) (some ⟨qte σ.bx i (qki g.args σ.rw.length v.1)++qD1 d (σ.rw.length+nrB g.args) e,qpd σ.rw h++(qdB g.args v.1++qGu d e)⟩)
         |false=>none
       |none=>none
     |none=>none
def qKj(c:TC)(σ:TS)(f:Nat)(a:List TV)(K:KT α):Option α:=
 match c.has f,c.pf f (qpE a)with
 |true,some g=>match qxg σ.rw g.args a with
   |some sas=>qb (g.fn sas) λ v=>K (qr5 (unL g.res v)) (match a.all qnV||g.res.all qym with|true=>none|false=>some (shA σ))
   |none=>none
 |true,none=>none
 |false,_=>qxc c σ f a K
def opT(c:TC)(E:Env)(σ:TS)(op:Op)(K:KT α):Option α:=
 match op with
 |.call ⟨.builtin b,a,ts⟩=>qvI c σ b ts (a.toList.map (evT E)) K
 |.call ⟨.value g,a,_⟩=>match evT E g with
   |.fn f cs=>match c.inl f with
     |some _=>none
     |none=>match cs with
       |[]=>qKj c σ f (a.toList.map (evT E)) K
       |x::cs=>match c.has f with
         |true=>none
         |false=>qxc c σ f (a.toList.map (evT E)++(x::cs)) K
   |_=>none
 |.call _=>none
 |op=>Qe c E σ op K
def qFn(c:TC)(E:Env)(d:Option Tmp)(x:TV)(K:Env->Option α):Option α:=match d with
 |none=>K E
 |some d=>match Nat.blt d c.nt with
   |true=>K ((d,x)::E)
   |false=>none
def qIU(ops:Array Oper)(E:Env)(o:Oper)(K:Bool->Env->Option α):Option α:=
 match o.guard with
 |none=>K true E
 |some (j,a)=>match(ops[j]?).bind (·.dst)with
   |none=>none
   |some d=>match get E d with
     |.b x=>match a with
       |true=>cond x (K true ((d,.b true)::E)) (K false ((d,.b false)::E))
       |false=>cond x (K false ((d,.b true)::E)) (K true ((d,.b false)::E))
     |.tup []=>K false E
     |_=>none
end
def qpo(E:Env)(ops:Array Oper)(k:Nat)(t:Tmp):Option Nat:=match qCK ops k t with
 |some u=>match get E u with
   |.ptr b _=>some b
   |_=>none
 |none=>none
def qNc(E:Env)(ops:Array Oper)(k:Nat)(t:Tmp):Bool:=match qCK ops k t with
 |some u=>match get E u with
   |.rpt .. => true
   |_=>false
 |none=>false
mutual
def rbT:TV->Option (List Nat)
 |.ptr b _|.mp b|.pti b _=>some [b]
 |.fn _ cs|.agg cs|.tup cs=>qrZ cs
 |.dead=>none
 |_=>some []
def qrZ:List TV->Option (List Nat)
 |[]=>some []
 |x::l=>match rbT x,qrZ l with
   |some a,some b=>some (a++b)
   |_,_=>none
end
def qPj(σ:TS)(b:Nat):Bool:=match σ.bx[b]? with
 |some cs=>match qrZ cs with
   |some []=>true
   |_=>false
 |none=>false
def qLr(c:TC)(E:Env)(σ:TS):Op->Option (List Nat)
 |.call ⟨.value g,as,_⟩=>match evT E g with
   |.fn f cs=>match(c.inl f).isSome,qrZ (as.toList.map (evT E)++cs)with
     |false,some l=>match l.all (qPj σ)with
       |true=>some l
       |false=>none
     |_,_=>none
   |_=>none
 |_=>none
def qwP(c:TC)(ops:Array Oper)(j:Nat)(E:Env)(σ:TS)(op:Op):Bool := !qzQ op||ops.toList.zipIdx.all λ(q,i)=>match q.op with
 |.load _ (.tmp a)=>((QX ops.toList []).getD (max i j) 0).testBit (min i j)||match qpo E ops i a,qLr c E σ op with
   |some y,some l=>Nat.blt y σ.bx.length&&l.all λ c => !Nat.beq c y
   |_,_=>false
 |_=>true
section
variable {α:Type}
def qkd(d:Env->TS->Op->KT α->Option α)(c:TC)(ops:Array Oper)(b:Bool):List Oper->Env->TS->(Env->TS->Option α)->Option α
 |[],E,σ,K=>K E σ
 |o::a,E,σ,K=>qIU ops E o λ w E=>match w with
   |true=>d E σ o.op λ x σ'=>match σ' with
     |none=>qFn c E o.dst x λ E=>qkd d c ops b a E σ K
     |some σ'=>match b && !(zm c.loT o.op&&qwP c ops (ops.size-(a.length+1)) E σ o.op)with
       |true=>none
       |false=>qFn c E o.dst x λ E=>qkd d c ops b a E σ' K
   |false=>qFn c E o.dst (.tup []) λ E=>qkd d c ops b a E σ K
structure Mv where
 E:Env
 bx:List (List TV)
 rw:List yk
 mb:List (Nat×Nat)
 mr:List (Nat×Nat)
def jX(l:List (Nat×Nat))(b:Nat):Option Nat:=match l with
 |[]=>none
 |p::r=>match Nat.beq p.1 b with
   |true=>some p.2
   |false=>jX r b
def qE3:TV->Bool
 |.i .. |.b _|.s _|.c _|.nil|.sl .. => true
 |.fn _ cs=>cs.isEmpty
 |.agg cs=>cs.all λ|.i .. |.b _|.s _|.c _|.nil|.sl .. => true|_=>false
 |_=>false
mutual
def mvT(σ:TS)(k:Co)(x:TV)(m:Mv)(K:TV->Mv->Option α):Option α:=
 match k with
 |.keep=>match qE3 x with
   |true=>K x m
   |false=>K .dead m
 |.list τ=>match x with
   |.nil=>K (.sl τ [] 1) m
   |.sl a l _=>match qfr l τ with
     |some l=>K (.sl τ l 1) m
     |none=>none
   |_=>K .dead m
 |.plist τ=>match x with
   |.nil=>K (.sl τ [] 1) m
   |.sl a l _=>match qfr l τ with
     |some l=>K (.sl τ l 1) m
     |none=>none
   |_=>K .dead m
 |.row τ d=>match x with
   |.nil=>K (.row m.rw.length 0) {m with rw:=m.rw++[⟨τ,[],0,0,d⟩]}
   |.sl a l j=>match qfr l τ,decide (1<j)with
     |some l,true=>match d with
       |true=>K (.row m.rw.length 0) {m with rw:=m.rw++[⟨τ,l,0,0,true⟩]}
       |false=>match l with
         |[]=>K (.row m.rw.length 0) {m with rw:=m.rw++[⟨τ,[],0,0,false⟩]}
         |_=>none
     |_,_=>none
   |.row id e=>match σ.rw[id]? with
     |some R=>match Nat.beq R.ver e&&(d || !R.sh)with
       |true=>match qfr R.l τ with
         |some l=>match jX m.mr id with
           |some g=>K (.row g 0) m
           |none=>K (.row m.rw.length 0) {m with rw:=m.rw++[⟨τ,l,0,0,d⟩],mr:=(id,m.rw.length)::m.mr}
         |none=>none
       |false=>none
     |none=>none
   |_=>none
 |.fn cs=>match x with
   |.fn f xs=>mvL σ cs xs m λ ys m=>K (.fn f ys) m
   |_=>none
 |.box cs=>match x with
   |.ptr b 0=>match jX m.mb b with
     |some h=>K (.ptr h 0) m
     |none=>match σ.bx[b]? with
       |some xs=>mvL σ cs xs m λ ys m=>match jX m.mb b with
         |none=>K (.ptr m.bx.length 0) {m with bx:=m.bx++[ys],mb:=(b,m.bx.length)::m.mb}
         |some _=>none
       |none=>none
   |.c v=>K (.c v) m
   |.mp b=>match jX m.mb b with
     |some h=>K (.mp h) m
     |none=>match σ.bx[b]? with
       |some [.mc i τ l]=>K (.mp m.bx.length) {m with bx:=m.bx++[[.mc i τ l]],mb:=(b,m.bx.length)::m.mb}
       |_=>none
   |_=>none
def mvL(σ:TS)(cs:List Co)(xs:List TV)(m:Mv)(K:List TV->Mv->Option α):Option α:=
 match cs,xs with
 |[],[]=>K [] m
 |co::cs,x::xs=>mvT σ co x m λ y m=>mvL σ cs xs m λ ys m=>K (y::ys) m
 |_,_=>none
end
def qFQ(a:List (Nat×Nat)):Nat->Bool
 |0=>true
 |n+1=>(match jX a n with|some j=>Nat.beq n j|none=>false)&&qFQ a n
def mvE(a:Nat)(σ:TS)(E:Env):List (Tmp×Co)->Mv->(Env->TS->Option α)->Option α
 |[],m,K=>match qFQ m.mb a with
   |true=>K m.E ⟨m.bx,m.rw⟩
   |false=>none
 |(t,b)::r,m,K=>mvT σ b (get E t) m λ y m=>mvE a σ E r {m with E:=m.E++[(t,y)]} K
def qJZ(E:Env)(σ:TS)(t:Tmp)(τ:Ty)(K:Env->TS->Option α):Option α:=match get E t with
 |.i .. => K E σ
 |.b _|.s _|.c _|.nil=>K E σ
 |.sl .. => K E σ
 |.row id a=>match σ.rw[id]? with
   |some R=>match Nat.beq R.ver a with
     |true=>match qfr R.l τ with
       |some l=>K ((t,.sl τ l 1)::E) (shA σ)
       |none=>none
     |false=>none
   |none=>none
 |.dead=>K E (shA σ)
 |_=>none
def qvq:List (Tmp×Co)->Env->TS->(Env->TS->Option α)->Option α
 |[],E,σ,K=>K E σ
 |(t,a)::r,E,σ,K=>match a with
   |.plist τ=>qJZ E σ t τ λ E σ=>qvq r E σ K
   |_=>qvq r E σ K
def qs9(E:Env)(ops:Array Oper)(j:Nat)(o:Oper)(i:Nat)(q:Oper):Bool:=match o.op,q.op with
 |.store _ (.tmp a) _,.load _ (.tmp b)=>match qpo E ops j a,qpo E ops i b with
   |some x,some y => !Nat.beq x y
   |some _,none=>qNc E ops i b
   |_,_=>false
 |.call ⟨.builtin .append,_,_⟩,.load _ (.tmp b)|.call ⟨.value _,_,_⟩,.load _ (.tmp b)=>(qpo E ops i b).isSome
 |_,_=>false
def qPE(a:Nat->Bool)(E:Env)(ops:Array Oper)(j:Nat)(o:Oper)(i:Nat)(q:Oper):Bool:=
 (match q.dst with|some d=>(qbr ops o).contains d|none=>false)||(qqz a o q && !(qs9 E ops j o i q||qs9 E ops i q j o))
def qtw(c:Nat->Bool)(E:Env)(ops:Array Oper)(a:Bool):Bool:=match a with
 |true=>
   let b:=QX ops.toList []
   ops.toList.zipIdx.all λ(o,j)=>((jF o).all λ e=>decide (e<j))&&ops.toList.zipIdx.all λ(q,i)=>
    decide (i=j) || !qPE c E ops j o i q||(b.getD (max i j) 0).testBit (min i j)
 |false=>true
def qfA:Nat->List TV->Env
 |_,[]=>[]
 |n,x::l=>(n,x)::qfA (n+1) l
def qqn(c:TC)(E:Env)(σ:TS):ResultVar->Option TV
 |.tmp t=>some (get E t)
 |.cell a t=>match c.ty t,get E a with
   |some d,.ptr b o=>match σ.bx[b]? with
     |some cs=>match qxh cs with
       |true=>qny d.agg d.size cs o
       |false=>none
     |none=>none
   |_,_=>none
def qvE:Code->Nat
 |.seq a b=>max (qvE a) (qvE b)+1
 |_=>1
section
variable {α:Type}
def qnv(c:TC):Code->Env->TS->(Env->TS->Option α)->Option α
 |.skip,E,σ,K=>K E σ
 |.seq a b,E,σ,K=>qnv c a E σ λ E σ=>qnv c b E σ K
 |.region _ ops d,E,σ,K=>match qjA ops d,qpS ops d with
   |false,none=>match qtw c.loT E ops d with
     |true=>qkd (opT c) c ops d ops.toList E σ K
     |false=>none
   |_,_=>none
 |_,_,_,_=>none
def qFX(c:TC)(E:Env)(σ:TS):List ResultVar->Option (List TV)
 |[]=>some []
 |r::l=>match qqn c E σ r with
   |some x=>match qFX c E σ l with
     |some xs=>some (x::xs)
     |none=>none
   |none=>none
def qNH(c:TC)(fn:Func)(σ:TS)(xs:List TV)(K:KT α):Option α:=match fn.body with
 |some a=>match Nat.ble xs.length fn.ntmps&&Nat.ble (qvE a) 12 with
   |true=>qnv {c with nt:=fn.ntmps} a (qfA 0 xs) σ λ E σ=>match qFX {c with nt:=fn.ntmps} E σ fn.results.toList with
     |some ys=>K (qr5 ys) (some σ)
     |none=>none
   |false=>none
 |none=>none
def opI(c:TC)(E:Env)(σ:TS)(op:Op)(K:KT α):Option α:=
 match op with
 |.call ⟨.value g,a,ts⟩=>match evT E g with
   |.fn f cs=>match c.inl f with
     |some fn=>qNH c fn σ (a.toList.map (evT E)++cs) K
     |none=>opT c E σ (.call ⟨.value g,a,ts⟩) K
   |_=>none
 |op=>opT c E σ op K
end
def slT:TV->Bool
 |.sl ..|.row .. => true
 |_=>false
def qKk(E:Env)(ops:Array Oper):Bool:=match qhW ops with
 |p::_=>match p.op with
   |.indexAddr _ u _=>slT (evT E u)
   |_=>false
 |[]=>false
def qNs:TV->Bool
 |.ptr _ _=>true
 |_=>false
def qeI:Code->Nat
 |.region id _ _=>id
 |.seq a _=>qeI a
 |.block _ b|.loop b=>qeI b
 |.cond _ a _=>qeI a
 |_=>0
def qg7:List (Tmp×Co)->List Nat
 |[]=>[]
 |(t,a)::r=>match a with
   |.plist _=>t::qg7 r
   |_=>qg7 r
def TC.pur(c:TC)(b:Code):List Nat:=match c.loop (qeI b)with
 |some l=>qg7 l
 |none=>[]
def qI5(E:Env)(x:Operand)(b:Bool):Env:=match x with
 |.tmp t=>(t,.b b)::E
 |_=>E
def J7(c:TC)(f:Env->TS->Option α)(L:List It->Env->TS->Option α):Nat->List It->Ex->Env->TS->Option α
 |0,_,_,_,_=>none
 |_+1,[],e,E,σ=>match e with
   |.exit _=>none
   |_=>f E σ
 |N+1,.code g::k,e,E,σ=>match e with
   |.normal=>match g with
     |.skip|.label _=>J7 c f L N k .normal E σ
     |.region _ ops d=>match qjA ops d with
       |true=>match qjy c.loT ops.toList&&(qcZ c.loT ops&&qtw c.loT E ⟨qK c.loT ops.toList⟩ true)with
         |true=>qkd (opI c) c ⟨qK c.loT ops.toList⟩ true (qK c.loT ops.toList) E σ λ E σ=>qkd (opI c) c ops false (alL c.loT ops.toList) E σ λ E σ=>qkd (opI c) c ops true (qsm c.loT ops.toList) E σ λ E σ=>J7 c f L N k .normal E σ
         |false=>none
       |false=>match qpS ops d with
         |some p=>match qtw c.loT E (qcD ops) true with
           |true=>qkd (opI c) c (qcD ops) true (qcD ops).toList E σ λ E σ=>match qNs (get E p)&&qKk E ops with
             |true=>qkd (opI c) c ops true (qhW ops) E σ λ E σ=>J7 c f L N k .normal E σ
             |false=>none
           |false=>none
         |none=>match qtw c.loT E ops d with
           |true=>qkd (opI c) c ops d ops.toList E σ λ E σ=>J7 c f L N k .normal E σ
           |false=>none
     |.seq a b=>J7 c f L N (.code a::.code b::k) .normal E σ
     |.cond x a b=>match evT E x with
       |.b y=>cond y (J7 c f L N (.code a::k) .normal (qI5 E x true) σ) (J7 c f L N (.code b::k) .normal (qI5 E x false) σ)
       |_=>none
     |.block id b=>J7 c f L N (.code b::.blk id::k) .normal E σ
     |.loop b=>match c.loop (qeI b)with
       |some l=>qvq l E σ λ E σ=>mvE c.np σ E l ⟨[],[],[],[],[]⟩ λ E σ=>L (.code (.loop b)::k) E σ
       |none=>none
     |.exit id=>J7 c f L N k (.exit id) E σ
     |.ret=>J7 c f L N k .ret E σ
     |_=>none
   |e=>J7 c f L N k e E σ
 |N+1,.blk id::k,e,E,σ=>match e with
   |.exit i=>match Nat.beq i id with
     |true=>match c.join id with
       |some l=>mvE c.np σ E l ⟨[],[],[],[],[]⟩ λ E σ=>L k E σ
       |none=>J7 c f L N k .normal E σ
     |false=>J7 c f L N k (.exit i) E σ
   |.normal=>match c.join id with
     |some l=>mvE c.np σ E l ⟨[],[],[],[],[]⟩ λ E σ=>L k E σ
     |none=>J7 c f L N k .normal E σ
   |.ret=>J7 c f L N k .ret E σ
 |_+1,.ops .. :: _,_,_,_=>none
def qEz(c:TC)(a:Env->TS->Option α)(L:List It->Env->TS->Option α)(N:Nat)(d:List It)(E:Env)(σ:TS):Option α:=
 match d with
 |.code (.loop b)::k=>match c.loop (qeI b)with
   |some l=>qvq l E σ λ E σ=>J7 c a L N (.code b::.code (.loop b)::k) .normal E σ
   |none=>J7 c a L N (.code b::.code (.loop b)::k) .normal E σ
 |d=>J7 c a L N d .normal E σ
def qqE(c:TC)(a:Env->TS->Option α)(N:Nat):Nat->List It->Env->TS->Option α
 |0=>λ _ _ _=>none
 |n+1=>qEz c a (qqE c a N n) N
end
def qke(c:TC):(ts:List Ty)->List ResultVar->Env->TS->Option (qg4 ts)
 |[],[],_,_=>some ()
 |[a],[r],E,σ=>match qqn c E σ r with
   |some x=>qcu σ.rw a x
   |none=>none
 |a::b::ts,r::d,E,σ=>match qqn c E σ r with
   |some x=>match qcu σ.rw a x with
     |some v=>match qke c (b::ts) d E σ with
       |some vs=>some (v,vs)
       |none=>none
     |none=>none
   |none=>none
 |_,_,_,_=>none
def qmh:(sas:List SA)->Nat->Nat->qaJ sas->List TV
 |[],_,_,_=>[]
 |.val τ::r,nb,b,a=>qlQ τ a.1::qmh r nb b a.2
 |.row _::r,nb,b,a=>.row b 0::qmh r nb (b+1) a.2
 |.box l::r,nb,b,a=>bxT l nb::qmh r (nb+1) (b+nR l) a.2
 |.nil::r,nb,b,a=>.nil::qmh r nb b a
 |.clo g k::r,nb,b,a=>.fn g ((qmh r nb b a).take k)::(qmh r nb b a).drop k
def sBx:(sas:List SA)->Nat->qaJ sas->List (List TV)
 |[],_,_=>[]
 |.nil::r,b,a|.clo _ _::r,b,a=>sBx r b a
 |.val _::r,b,a=>sBx r b a.2
 |.row _::r,b,a=>sBx r (b+1) a.2
 |.box l::r,b,a=>qh2 l b (toC l a.1)::sBx r (b+nR l) a.2
def sRw:(sas:List SA)->qaJ sas->List yk
 |[],_=>[]
 |.nil::r,a|.clo _ _::r,a=>sRw r a
 |.val _::r,a=>sRw r a.2
 |.row τ::r,a=>⟨τ,a.1,0,0,false⟩::sRw r a.2
 |.box l::r,a=>qeh l (toC l a.1)++sRw r a.2
def qij(σ:TS):(sas:List SA)->Nat->Option (J4 sas×List Nat×Bool)
 |[],_=>some ((),[],true)
 |.nil::r,n|.clo _ _::r,n|.val _::r,n|.row _::r,n=>qij σ r n
 |.box l::r,n=>match σ.bx[n]? with
   |some cs=>match qav σ.rw l cs,qij σ r (n+1)with
     |some (v,i,q),some (o,a,b)=>some ((toB l v,o),i++a,q&&b)
     |_,_=>none
   |none=>none
def qi6(c:TC)(E:Env)(σ:TS)(f:List Nat):(d:List RE)->List ResultVar->Option (RV d×List Nat×List Nat×Bool)
 |[],[]=>some ((),[],[],true)
 |.one (.val a)::d,r::l=>match qqn c E σ r with
   |some x=>match qcu σ.rw a x,qi6 c E σ f d l with
     |some v,some (vs,b,e,q)=>some ((v,vs),b,e,qnV x&&q)
     |_,_=>none
   |none=>none
 |.one (.row a)::d,r::l=>match qqn c E σ r with
   |some x=>match qiS σ.rw a x,qi6 c E σ f d l with
     |some (v,i),some (vs,b,e,q)=>some ((v,vs),i++b,e,q)
     |_,_=>none
   |none=>none
 |.agg p::d,r::l=>match qqn c E σ r with
   |some (.agg cs)=>match qav σ.rw p cs,qi6 c E σ f d l with
     |some (v,i,g),some (vs,b,e,q)=>some ((v,vs),i++b,e,g&&q)
     |_,_=>none
   |_=>none
 |_,_=>none
def qSK(rw:List yk):TV->Option (List Nat)
 |.row id a=>match rw[id]? with
   |some R=>match Nat.beq R.ver a with
     |true=>some [id]
     |false=>none
   |none=>none
 |x=>match qmW x with
   |true=>some []
   |false=>none
def qIL(rw:List yk):List TV->Option (List Nat)
 |[]=>some []
 |x::l=>match qSK rw x,qIL rw l with
   |some a,some b=>some (a++b)
   |_,_=>none
def qFu (rw:List yk):List RA->List TV->Option (List Nat)
 | [],_=>some []
 | .val τ :: r,cs=>match qIL rw (cs.take τ.size),qFu rw r (cs.drop τ.size) with
   | some a,some b=>some (a++b)
   | _,_=>none
 | .row _::r,cs=>qFu rw r (cs.drop 1)
def qrL(σ:TS):List SA->Nat->Option (List Nat)
 |[],_=>some []
 |.box l::r,n=>match σ.bx[n]? with
   |some cs=>match qFu σ.rw l cs,qrL σ r (n+1)with
     |some a,some b=>some (a++b)
     |_,_=>none
   |none=>none
 |.nil::r,n|.clo _ _::r,n|.val _::r,n|.row _::r,n=>qrL σ r n
def qSv(vs:Option (List Nat))(l:List Nat):Bool:=match vs with
 |some vs=>vs.all λ a=>l.all λ b => !Nat.beq a b
 |none=>false
def qJf(n:Nat)(l:List Nat):List Nat:=match Nat.beq l.length n with
 |true=>l
 |false=>[]
def qyy(c:TC)(sas:List SA)(d:List RE)(l:List ResultVar)(E:Env)(σ:TS):Option (J4 sas×RV d):=match qij σ sas 0 with
 |some (o,i,q)=>match qi6 c E σ (qJf (nrB sas) i) d l with
   |some (v,a,e,f)=>match ndN (i++a)&&(((i++a).isEmpty||(f&&(q||qSv (qrL σ sas 0) (i++a))))&&(ndN e&&e.all λ b=>Nat.ble (nBx sas) b))with
     |true=>some (o,v)
     |false=>none
   |none=>none
 |none=>none
end Go.AmZ
namespace Go.AmZ
open Go Go.RowKit Go.GxZ
mutual
def qOI:T->List AV
 |.mk k n s l=>[.v (.int .i64 k),.v (.string ⟨n.toArray⟩),.v (.int .i64 s),.sl 4 (qEh l) 0]
def qEh:List T->List (List AV)
 |[]=>[]
 |t::l=>qOI t::qEh l
end
mutual
def qRZ:AV->Option (List T)
 |.v (.slice none 0 0)=>some []
 |.sl 4 a _=>qDk a
 |_=>none
def qDk:List (List AV)->Option (List T)
 |[]=>some []
 |e::a=>match qNd e with
   |some t=>match qDk a with
     |some l=>some (t::l)
     |none=>none
   |none=>none
def qNd:List AV->Option T
 |[.v (.int .i64 k),.v (.string n),.v (.int .i64 s),x]=>match qRZ x with
   |some l=>some (.mk k n.data.toList s l)
   |none=>none
 |_=>none
end
mutual
theorem qOL:∀t:T,qNd (qOI t)=some t
 |.mk k n s l=>by
   rw[qOI,qNd,qRZ,qDQ l]
theorem qDQ:∀l:List T,qDk (qEh l)=some l
 |[]=>by rw[qEh,qDk]
 |t::l=>by rw[qEh,qDk,qOL t,qDQ l]
end
theorem QI.len:∀{xs ys:List AV},QI xs ys->xs.length=ys.length
 |_,_,.nil=>rfl
 |_,_,.cons _ t=>by simp[t.len]
theorem QI.get:∀{xs ys:List AV},QI xs ys->∀(i:Nat) (y:AV),ys[i]?=some y->∃x,xs[i]?=some x/\Sub x y
 |_,_,.nil,i,y,h=>by simp at h
 |_,_,.cons a t,0,y,h=>by simp at h;subst h;exact⟨_,rfl,a⟩
 |_,_,.cons a t,i+1,y,h=>by simpa using t.get i y (by simpa using h)
theorem qFx{xs ys:List AV}(h:QI xs ys):Sub (.agg xs) (.agg ys):=by
 intro Γ u a;cases a with
 |agg cs us c d b=>
   have:=h.rep (RepL.mk c b);exact .agg _ _ this.len d this.rep
end Go.AmZ
namespace Go.AmZ
open Go Go.RowKit
def QW(R:Row):Row:=⟨R.k,[],0,1,false⟩
theorem qqu{Γ Γ':Gh}{x:AV}{u:Value}(a:∀b o u,Γ.mem b o=some u->Γ'.mem b o=some u)(h:Rep Γ x u)(d:rb x=[])(c:rr x=[]):Rep Γ' x u:=by
 have:=qtp (Γ':=Γ') (fb:=λ b=>b) (fr:=λ r=>r) a h (by rw[d];intro b hb;cases hb) (by rw[c];intro b hb;cases hb)
 rwa [qDe]at this
theorem qIw:∀{cs:List AV},rbL cs=[]->∀x∈cs,rb x=[]
 |[],_,x,a=>by cases a
 |y::cs,h,x,a=>by
   simp only[rbL,km]at h;obtain rfl|a:=wv.1 a
   .exact h.1
   .exact qIw h.2 x a
theorem qHq:∀{cs:List AV},rrL cs=[]->∀x∈cs,rr x=[]
 |[],_,x,a=>by cases a
 |y::cs,h,x,a=>by
   simp only[rrL,km]at h;obtain rfl|a:=wv.1 a
   .exact h.1
   .exact qHq h.2 x a
theorem qKs{Γ Γ':Gh}{cs:List AV}{us:List Value}(d:∀b o u,Γ.mem b o=some u->Γ'.mem b o=some u)(h:RepL Γ cs us)(f:rbL cs=[])(e:rrL cs=[]):RepL Γ' cs us:=
 ⟨h.len,λ i x u a c=>qqu d (h.rep i x u a c) (qIw f x (wb a)) (qHq e x (wb a))⟩
theorem qyf{x:AV}(h:qv x=true):rb x=[]/\rr x=[]:=(qg8 (fb:=λ b=>b) (fr:=λ r=>r) h).2
def qR7(ds cs:List AV):Prop:=∃c d a ks vs vs',ds=[.mc c d a ks vs]/\cs=[.mc c d a ks vs']/\vs'.length=vs.length/\∀(j:Nat) (v b:List AV),vs[j]?=some v->vs'[j]?=some b->Sub (QB a v) (QB a b)/\b.all qv=true
theorem qdH.sub{Γ:Gh}{w:World}{b:Nat}{m:List KC}{n f:Bool}{ks vs vs':List (List AV)}(h:qdH Γ w b m n f ks vs)(s:vs'.length=vs.length)(r:∀(j:Nat) (v g:List AV),vs[j]?=some v->vs'[j]?=some g->Sub (QB f v) (QB f g)/\g.all qv=true):qdH Γ w b m n f ks vs':=by
 let⟨y,B,d,x,u,t⟩:=h;refine⟨s.trans y,B,d,x,u,λ j k v e a b c=>?_⟩;have C:=(List.getElem?_eq_some_iff.1 b).1;have o:=List.getElem?_eq_getElem (l:=vs) (i:=j) (by omega);let⟨A,z,g3,D⟩:=t j k _ e a o c;let⟨q,p⟩:=r j _ _ o b;exact⟨A,q _ _ z,g3,p⟩
structure qJF (σ1:St) (fs:List Nat) (so:Option Nat) (R:Row):Prop where
 fz:R.fz=0
 ver:R.ver=0
 pos:0<R.k
 len:∀e∈R.c,e.length=R.k
 plain:∀e∈R.c,∀x∈e,qv x=true
 src:match so with
  |none=>R.c=[]
  |some j=>∃Q,σ1.rw[j]?=some Q/\Q.k=R.k/\Q.fz=0/\Q.c.length=R.c.length/\(∀(i:Nat) (e e':List AV),Q.c[i]?=some e->R.c[i]?=some e'->QI e e')/\j ∉ fs/\Q.off=false
def qmb(nb:Nat)(kb:List Nat)(i:Nat):Nat:=if i<nb then i else kb.getD (i-nb) 0
def jW(a:Gh)(m:Nat->Nat->Option Value)(nb:Nat)(kb:List Nat)(L:Nat)(qj:List (Option Nat×Row)):Gh:=
 {mem:=m,nb:=nb+kb.length,β:=λ i=>a.β (qmb nb kb i),nr:=L+qj.length,ver:=λ r=>if r<L then a.ver r+1 else 0,
   k:=λ r=>if r<L then a.k r else match qj[r-L]? with|some p=>p.2.k|none=>1,
   cur:=λ r=>if r<L then a.cur r else match qj[r-L]? with|some (some j,_)=>a.cur j|_=>0,
   sz:=λ r=>if r<L then 0 else match qj[r-L]? with|some (some j,_)=>a.sz j|_=>0,of:=λ _=>0}
theorem qrh{y d:Gh}{σ0 σ1:St}{w0 K:World}(J:Inv y σ0 w0)(t:Ext y w0 d K)(I:Inv d σ1 K)(ah:σ0.bx.length<=σ1.bx.length)
  (z:List (List AV)) (kb:List Nat) (ad:z.length=σ0.bx.length+kb.length) (P:∀b∈kb,σ0.bx.length<=b/\b<σ1.bx.length) (ag:kb.Nodup) (M:List Nat) (qj:List (Option Nat×Row)) (ae:∀(i:Nat) (cs:List AV),z[i]?=some cs->∃ds,σ1.bx[qmb σ0.bx.length kb i]?=some ds/\(noMc ds=false->qR7 ds cs)/\∀m,Fz d m->(∀r∈M,∀R,σ1.rw[r]?=some R->Qz {d with mem:=m} r R)->∀us,RepL d ds us->RepL (jW d m σ0.bx.length kb σ0.rw.length qj) cs us)
  (hn:∀(a:Nat) (so:Option Nat) (R:Row),qj[a]?=some (so,R)->qJF σ1 M so R) (hd:∀(a b j:Nat) (R R':Row),qj[a]?=some (some j,R)->qj[b]?=some (some j,R')->a=b) (wl aa:List Nat):
  ∃m,Fz d m/\(∀r∈M,∀R,σ1.rw[r]?=some R->Qz {d with mem:=m} r R)/\Ext y w0 (jW d m σ0.bx.length kb σ0.rw.length qj) K/\Inv (jW d m σ0.bx.length kb σ0.rw.length qj) ⟨z,σ0.rw.map QW++qj.map (·.2),wl,aa⟩ K:=by
 let⟨m,m1,m2,m3⟩:=qaE M I σ1.wrr;have af:σ0.bx.length<=d.nb:=by rw[I.nb];exact ah
 have V:∀b o u,d.mem b o=some u->m b o=some u:=m1.le.mem
 have C:∀{i:Nat},i<σ0.bx.length+kb.length->qmb σ0.bx.length kb i<d.nb:=λ{i} f=>by
  unfold qmb;split
  .exact wA ‹_› af
  .rw[List.getD_eq_getElem?_getD,List.getElem?_eq_getElem (show i-σ0.bx.length<kb.length by omega),I.nb];exact(P _ (wW _)).2
 have ai:∀{i j:Nat},i<σ0.bx.length+kb.length->j<σ0.bx.length+kb.length->qmb σ0.bx.length kb i=qmb σ0.bx.length kb j->i=j:=λ{i j} f S g=>by
  unfold qmb at g;split at g<;>split at g
  .exact g
  .rw[List.getD_eq_getElem?_getD,List.getElem?_eq_getElem (show j-σ0.bx.length<kb.length by omega)]at g;have g:i=kb[j-σ0.bx.length]:=g;have:=(P _ (wW (show j-σ0.bx.length<kb.length by omega))).1;omega
  .rw[List.getD_eq_getElem?_getD,List.getElem?_eq_getElem (show i-σ0.bx.length<kb.length by omega)]at g;have g:kb[i-σ0.bx.length]=j:=g;have:=(P _ (wW (show i-σ0.bx.length<kb.length by omega))).1;omega
  .rw[List.getD_eq_getElem?_getD,List.getD_eq_getElem?_getD,List.getElem?_eq_getElem (show i-σ0.bx.length<kb.length by omega),List.getElem?_eq_getElem (show j-σ0.bx.length<kb.length by omega)]at g;have g:kb[i-σ0.bx.length]=kb[j-σ0.bx.length]:=g;have:=(List.getElem_inj (h₀:=by omega) (h₁:=by omega) ag).1 g;omega
 have B:∀{r:Nat},¬ r<σ0.rw.length->(jW d m σ0.bx.length kb σ0.rw.length qj).sz r≠0->∃j R Q,qj[r-σ0.rw.length]?=some (some j,R)/\σ1.rw[j]?=some Q/\qgB {d with mem:=m} K j Q/\(jW d m σ0.bx.length kb σ0.rw.length qj).cur r=d.cur j/\(jW d m σ0.bx.length kb σ0.rw.length qj).sz r=d.sz j:=by
  intro r s q;have N:(if r<σ0.rw.length then 0 else match qj[r-σ0.rw.length]? with|some (some j,_)=>d.sz j|_=>0)≠0:=q;rw[if_neg s]at N;split at N
  .rename_i j R F;let⟨Q,Z,_,_,_,_,q6,_⟩:=(hn _ _ _ F).src;refine⟨j,R,Q,F,Z,m2.row j Q (by show(frz σ1.rw M)[j]?=_;rw[qoj M _ j q6];exact Z),?_,?_⟩
   .show(if r<σ0.rw.length then _ else match qj[r-σ0.rw.length]? with|some (some j,_)=>d.cur j|_=>0)=_;rw[if_neg s,F]
   .show(if r<σ0.rw.length then _ else match qj[r-σ0.rw.length]? with|some (some j,_)=>d.sz j|_=>0)=_;rw[if_neg s,F]
  .exact absurd rfl N
 have v:∀{r:Nat},r<σ0.rw.length->(jW d m σ0.bx.length kb σ0.rw.length qj).sz r=0:=λ s=>if_pos s;refine⟨m,m1,m3,⟨⟨λ b o u h=>V _ _ _ (t.le.mem b o u h),by rw[J.nb];exact kI _ _,λ i f=>by rw[<-t.le.β i f];show d.β (qmb _ _ _)=_;unfold qmb;rw[if_pos (by rw[<-J.nb];exact f)],by rw[J.nr];exact kI _ _,λ r s=>?_,λ r s=>?_,λ r s g=>?_⟩,t.os,t.tape,t.output,t.size,t.block,?_,?_,t.drawn⟩,?_⟩
 .rw[J.nr]at s;exact(if_pos s).trans (t.le.k r (by rw[J.nr];exact s))
 .have:=t.le.ver r s;rw[J.nr]at s;show y.ver r<=(if r<σ0.rw.length then d.ver r+1 else 0);rw[if_pos s];omega
 .have:=t.le.ver r s;rw[J.nr]at s;have g:(if r<σ0.rw.length then d.ver r+1 else 0)=y.ver r:=g;rw[if_pos s]at g;omega
 .rintro b (⟨i,f,hb⟩|⟨r,s,q,hb⟩)
  .exact t.own b (.inl ⟨_,C f,hb⟩)
  .by_cases l:r<σ0.rw.length
   .exact absurd (v l) q
   .let⟨j,R,Q,_,T,_,Y,q5⟩:=B l q;exact t.own b (.inr ⟨j,by rw[I.nr];exact getElem?_lt T,by rw[<-q5];exact q,by rw[<-Y];exact hb⟩)
 .intro b o u hm;obtain h|h:=m1.own b o u hm
  .exact t.memg b o u h
  .exact .inr (t.own b h)
 .refine⟨ad.symm,by show σ0.rw.length+qj.length=_;simp,λ b o u h=>m2.mem b o u h,?_,λ i j f S g=>ai f S (I.inj _ _ (C f) (C S) g),λ i f o=>m2.boxmem _ (C f) o,?_,?_⟩
  .intro i cs f;let⟨ds,d1,d3,d2⟩:=ae i cs f;obtain⟨vs,e,v1,v2,v3⟩|⟨kc,ka,va,ks,vs,rfl,hm⟩:=(I.box _ ds d1).split
   .exact .of ⟨vs,e,v1,d2 m m1 m3 _ v2,v3⟩
   .obtain⟨_,_,_,_,_,vs',e1,rfl,l1,l2⟩:=d3 rfl;cases e1;exact(hm.sub l1 l2).to (λ _ h=>h) λ x u t g1 g2=>qqu V t g1 g2
  .intro r R w;have w:(σ0.rw.map QW++qj.map (·.2))[r]?=some R:=w;by_cases l:r<σ0.rw.length
   .rw[List.getElem?_append_left (by rw[wE];exact l),List.getElem?_map]at w;cases n:σ0.rw[r]? with
    |none=>rw[n]at w;cases w
    |some R0=>
      rw[n]at w;cases w;have H:=J.row r R0 n;have q:=v l;refine⟨?_,λ h=>absurd h (by show ¬ 1<=0;omega),H.pos,(by intro e g;cases g),(by intro e g;cases g),.inl rfl,λ h=>absurd q h,by show 0+0*_<=_;rw[kR];exact wg _,λ h=>absurd q h,(by intro i e j x f;cases f),λ h=>absurd q h,λ _=>rfl⟩;show R0.k=(if r<σ0.rw.length then d.k r else _);rw[if_pos l,H.k];exact(t.le.k r (by rw[J.nr];exact l)).symm
   .rw[List.getElem?_append_right (by rw[wE];omega),wE,List.getElem?_map]at w;cases n:qj[r-σ0.rw.length]? with
    |none=>rw[n]at w;cases w
    |some p=>
      rw[n]at w;cases w;let⟨so,R⟩:=p;have D:=hn _ _ _ n
      have hk:R.k=(jW d m σ0.bx.length kb σ0.rw.length qj).k r:=by
       show _=(if r<σ0.rw.length then _ else match qj[r-σ0.rw.length]? with|some p=>p.2.k|none=>1);rw[if_neg l,n]
      have L:R.ver=(jW d m σ0.bx.length kb σ0.rw.length qj).ver r:=by
       show _=(if r<σ0.rw.length then _ else 0);rw[if_neg l];exact D.ver
      cases so with
      |none=>
        have hc:R.c=[]:=D.src
        have q:(jW d m σ0.bx.length kb σ0.rw.length qj).sz r=0:=by
         show(if r<σ0.rw.length then 0 else match qj[r-σ0.rw.length]? with|some (some j,_)=>d.sz j|_=>0)=0;rw[if_neg l,n]
        exact⟨hk,λ _=>L,D.pos,D.len,D.plain,.inl hc,λ h=>absurd q h,by show 0+R.c.length*_<=_;rw[hc];simp,λ h=>absurd q h,(by intro i e j x f;change R.c[i]?=_ at f;rw[hc]at f;cases f),λ h=>absurd q h,λ _=>rfl⟩
      |some j=>
        let⟨Q,Z,T,q3,Y,q5,q6,q7⟩:=D.src;have H:qgB {d with mem:=m} K j Q:=m2.row j Q (by show(frz σ1.rw M)[j]?=_;rw[qoj M _ j q6];exact Z)
        have G:(jW d m σ0.bx.length kb σ0.rw.length qj).cur r=d.cur j:=by
         show(if r<σ0.rw.length then _ else match qj[r-σ0.rw.length]? with|some (some j,_)=>d.cur j|_=>0)=_;rw[if_neg l,n]
        have A:(jW d m σ0.bx.length kb σ0.rw.length qj).sz r=d.sz j:=by
         show(if r<σ0.rw.length then _ else match qj[r-σ0.rw.length]? with|some (some j,_)=>d.sz j|_=>0)=_;rw[if_neg l,n]
        have O:d.of j=0:=H.off q7;refine⟨hk,λ _=>L,D.pos,D.len,D.plain,.inr (by show R.fz<=_;rw[D.fz];exact wg _),λ q=>?_,?_,λ q off ho=>?_,?_,λ q i f=>?_,λ _=>rfl⟩
        .rw[A]at q;let⟨vs,e,fr,b1,b2,b3,b4⟩:=H.blk q;exact⟨vs,e,fr,by rw[G];exact b1,by rw[A];exact b2,b3,by rw[<-T];exact b4⟩
        .show 0+R.c.length*R.k<=_;have X:d.of j+Q.c.length*Q.k<=d.sz j:=H.fit;rw[O]at X;rw[A,<-Y,<-T];exact X
        .rw[A]at q;rw[G];refine H.un q off ?_;show d.of j+_<=_;rw[q3,kR,O];exact wg _
        .intro i e' jj x' f S;have f:R.c[i]?=some e':=f;have W:i<Q.c.length:=by rw[Y];exact getElem?_lt f
         let⟨x,ac,U⟩:=(q5 i _ e' (List.getElem?_eq_getElem W) f).get jj x' S;let⟨u,u1,u2,u3⟩:=H.cells i _ jj x (List.getElem?_eq_getElem W) ac;let⟨p1,p2⟩:=qyf (D.plain e' (wb f) x' (wb S));refine⟨u,?_,qqu (Γ:={d with mem:=m}) (λ _ _ _ h=>h) (U _ _ u2) p1 p2,u3⟩;have ab:K.cell? ⟨d.cur j,d.of j+(i*Q.k+jj),none⟩=some u:=u1;show K.cell? ⟨_,0+(i*R.k+jj),none⟩=_;rw[G,<-T,<-O];exact ab
        .rw[A]at q;rw[G];exact H.nbx q _ (C f)
  .intro r r' s aj ak z1 z2;by_cases e1:r<σ0.rw.length
   .exact absurd (v e1) z1
   by_cases e2:r'<σ0.rw.length
   .exact absurd (v e2) z2
   let⟨j,R,Q,a1,a2,_,a4,a5⟩:=B e1 z1;let⟨j',R',Q',b1,b2,_,b4,b5⟩:=B e2 z2;rw[a4,b4];refine I.apart j j' (by rw[I.nr];exact getElem?_lt a2) (by rw[I.nr];exact getElem?_lt b2) (λ g=>?_) (by rw[<-a5];exact z1) (by rw[<-b5];exact z2);subst g;have:=hd _ _ _ _ _ a1 b1;omega
end Go.AmZ
namespace Go.AmZ
open Go Go.RowKit Go.GxZ
def zl{a:Type}(f:List AV->Option a):List (List AV)->Option (List a)
 |[]=>some []
 |e::b=>match f e with
   |some v=>match zl f b with
     |some vs=>some (v::vs)
     |none=>none
   |none=>none
mutual
def qkK:AV->Option (List T)
 |.v (.slice none 0 0)=>some []
 |.sl 4 a (_+1)=>qxP a
 |_=>none
def qxP:List (List AV)->Option (List T)
 |[]=>some []
 |e::a=>match Jh e with
   |some t=>match qxP a with
     |some l=>some (t::l)
     |none=>none
   |none=>none
def Jh:List AV->Option T
 |[.v (.int .i64 k),.v (.string n),.v (.int .i64 s),x]=>match qkK x with
   |some l=>some (.mk k n.data.toList s l)
   |none=>none
 |_=>none
end
def full{a:Type}:Option (a×List AV)->Option a
 |some (v,[])=>some v
 |_=>none
def jp(k:Nat){a:Type}(f:List AV->Option a):AV->Option (List a)
 |.v (.slice none 0 0)=>some []
 |.sl b c (_+1)=>match zx b k with
   |true=>zl f c
   |false=>none
 |_=>none
def JJ(k:IntKind):List AV->Option (Int×List AV)
 |.v (.int a n)::r=>match decide (a=k)with
   |true=>some (n,r)
   |false=>none
 |_=>none
def qdr:List AV->Option (Bool×List AV)
 |.v (.bool b)::r=>some (b,r)
 |_=>none
def qdp:List AV->Option (List UInt8×List AV)
 |.v (.string s)::r=>some (s.data.toList,r)
 |_=>none
def JX:List AV->Option (T×List AV)
 |a::b::c::d::r=>match Jh [a,b,c,d]with
   |some t=>some (t,r)
   |none=>none
 |_=>none
def yL{a:Type}(b:AV->Option a):List AV->Option (a×List AV)
 |x::r=>match b x with
   |some l=>some (l,r)
   |none=>none
 |_=>none
def qbH{d c:Type}(f:List AV->Option d)(g:List AV->Option c):List (List AV)->List (List AV)->Option (List (d×c))
 |[],[]=>some []
 |k::ks,v::vs=>match f k,g v with
   |some a,some b=>match qbH f g ks vs with
     |some l=>some ((a,b)::l)
     |none=>none
   |_,_=>none
 |_,_=>none
def dMc{d c:Type}(a b:Ty)(f:List AV->Option d)(g:List AV->Option c):AV->Option (List (d×c))
 |.mc h i e ks vs=>match decide (h=kcT a)&&(Q7 i a.agg&&Q7 e b.agg)with
   |true=>qbH f g ks vs
   |false=>none
 |_=>none
def yJ:(τ:Ty)->List AV->Option (Val τ×List AV)
 |.int k=>JJ k
 |.bool=>qdr
 |.str=>qdp
 |.term=>JX
 |.list a=>yL (jp a.size (λ e=>full (yJ a e)))
 |.pair a b=>qqq (yJ a) (yJ b)
 |.one a=>yJ a
 |.map a b=>yL (dMc a b (λ e=>full (yJ a e)) (λ e=>full (yJ b e)))
def qL(τ:Ty)(e:List AV):Option (Val τ):=full (yJ τ e)
def dlist(τ:Ty)(x:AV):Option (List (Val τ)):=jp τ.size (qL τ) x
mutual
def JQ:T->List AV
 |.mk k n s l=>[.v (.int .i64 k),.v (.string ⟨n.toArray⟩),.v (.int .i64 s),.sl 4 (qpU l) 1]
def qpU:List T->List (List AV)
 |[]=>[]
 |t::l=>JQ t::qpU l
end
def qe:(τ:Ty)->Val τ->List AV
 |.int k,n=>[.v (.int k n)]
 |.bool,b=>[.v (.bool b)]
 |.str,s=>[.v (.string ⟨s.toArray⟩)]
 |.term,t=>JQ t
 |.list a,l=>[.sl a.size (l.map (qe a)) 1]
 |.pair a b,p=>qe a p.1++qe b p.2
 |.one a,v=>qe a v
 |.map a b,l=>[.mc (kcT a) a.agg b.agg (l.map λ p=>qe a p.1) (l.map λ p=>qe b p.2)]
def yR:(τ:Ty)->Val τ->AV
 |.int k,n=>.v (.int k n)
 |.bool,b=>.v (.bool b)
 |.str,s=>.v (.string ⟨s.toArray⟩)
 |.list a,l=>.sl a.size (l.map (qe a)) 1
 |.term,t=>.agg (qe .term t)
 |.pair a b,p=>.agg (qe (.pair a b) p)
 |.one a,v=>.agg (qe (.one a) v)
 |.map a b,l=>.mc (kcT a) a.agg b.agg (l.map λ p=>qe a p.1) (l.map λ p=>qe b p.2)
theorem je{a:Type}{f:List AV->Option a}{e:List AV}{b:List (List AV)}{l:List a}:zl f (e::b)=some l↔∃v vs,f e=some v/\zl f b=some vs/\l=v::vs:=by
 grind [zl]
theorem zb{b:Type}{f:List AV->Option b}:∀{a:List (List AV)}{l:List b},zl f a=some l->a.length=l.length
 |[],l,h=>by cases h;rfl
 |e::a,l,h=>by
   obtain⟨v,vs,_,c,rfl⟩:=je.1 h;simp[zb c]
theorem qhg{b:Type}{f:List AV->Option b}:∀{c:List (List AV)}{l:List b},zl f c=some l->∀{i:Nat}{v:b},l[i]?=some v->∃e,c[i]?=some e/\f e=some v
 |[],l,h,i,v,a=>by cases h;simp at a
 |e::c,l,h,i,v,a=>by
   obtain⟨w,vs,g,d,rfl⟩:=je.1 h;cases i with
   |zero=>simp at a;subst a;exact⟨e,rfl,g⟩
   |succ i=>exact qhg d (by simpa using a)
theorem J0{c:Type}{f:List AV->Option c}:∀{b:List (List AV)}{l:List c},zl f b=some l->∀{i:Nat}{e:List AV},b[i]?=some e->∃v,l[i]?=some v/\f e=some v
 |[],l,h,i,v,a=>by simp at a
 |e::b,l,h,i,v,a=>by
   obtain⟨w,vs,g,d,rfl⟩:=je.1 h;cases i with
   |zero=>simp at a;subst a;exact⟨w,rfl,g⟩
   |succ i=>exact J0 d (by simpa using a)
theorem qab{c:Type}{f:List AV->Option c}:∀{b a:List (List AV)}{l m:List c},zl f b=some l->zl f a=some m->zl f (b++a)=some (l++m)
 |[],a,l,m,h,g=>by cases h;exact g
 |e::b,a,l,m,h,g=>by
   obtain⟨v,vs,i,d,rfl⟩:=je.1 h;exact je.2 ⟨v,vs++m,i,qab d g,rfl⟩
theorem qh9{b:Type}{f:List AV->Option b}:∀(n:Nat) {a:List (List AV)}{l:List b},zl f a=some l->zl f (a.take n)=some (l.take n)
 |0,a,l,h=>by simp;rfl
 |n+1,[],l,h=>by cases h;rfl
 |n+1,e::a,l,h=>by
   obtain⟨v,vs,d,c,rfl⟩:=je.1 h;exact je.2 ⟨v,vs.take n,d,qh9 n c,rfl⟩
theorem qfl{b:Type}{f:List AV->Option b}:∀(n:Nat) {a:List (List AV)}{l:List b},zl f a=some l->zl f (a.drop n)=some (l.drop n)
 |0,a,l,h=>by simpa using h
 |n+1,[],l,h=>by cases h;rfl
 |n+1,e::a,l,h=>by
   obtain⟨v,vs,d,c,rfl⟩:=je.1 h;simpa using qfl n c
theorem qb1{a:Type}{f:List AV->Option a}{g:a->List AV}(h:∀v,f (g v)=some v):∀l:List a,zl f (l.map g)=some l
 |[]=>rfl
 |v::l=>je.2 ⟨v,l,h v,qb1 h l,rfl⟩
theorem qpJ:∀a:List (List AV),qxP a=zl Jh a
 |[]=>rfl
 |e::a=>by
   rw[qxP,zl,qpJ a];grind
theorem qR{a:Type}{x:Option (a×List AV)}{v:a}:full x=some v↔x=some (v,[]):=by
 unfold full;grind
theorem qjO{cs:List AV}{t:T}(h:Jh cs=some t):∃k n s x l,cs=[.v (.int .i64 k),.v (.string n),.v (.int .i64 s),x]/\qkK x=some l/\t=.mk k n.data.toList s l:=by
 unfold Jh at h;grind
theorem qA9(e:List AV):qL .term e=Jh e:=by
 show full (JX e)=Jh e;unfold JX;split
 .rename_i a b c d r;cases r with
  |nil=>
    cases f:Jh [a,b,c,d]with
    |none|some t=>rfl
  |cons x r=>
    have g:Jh (a::b::c::d::x::r)=none:=by
     grind [Jh]
    rw[g];cases f:Jh [a,b,c,d]with
    |none|some t=>rfl
 .rename_i h;cases f:Jh e with
  |none=>rfl
  |some t=>
    grind [qjO]
theorem qld(x:AV):dlist .term x=qkK x:=by
 have a:(qL .term:List AV->Option T)=Jh:=funext qA9;unfold dlist jp qkK;grind [zx,Ty.size,qpJ]
theorem qH3{g c:List (List AV)}{k f:Nat}(E:0<f)(r:g.length=c.length)(D:∀e∈c,e.length=k)(C:∀e∈c,∀x∈e,qv x=true)
  (B:∀(i:Nat) (e d:List AV),g[i]?=some e->c[i]?=some d->QI e d):Sub (.sl k g f) (.sl k c 1):=by
 intro Γ u A;cases A with
 |sl k g f a n cap b o us I H N M L G K J F=>
   have get:∀(i:Nat) (d:List AV) (j:Nat) (y:AV),c[i]?=some d->d[j]?=some y->∃e x,g[i]?=some e/\e[j]?=some x/\Sub x y:=by
    intro i d j y m q;have p:i<g.length:=by rw[r];exact getElem?_lt m
    have s:=List.getElem?_eq_getElem p;let⟨x,z,l⟩:=(B i _ d s m).get j y q;exact⟨_,x,s,z,l⟩
   refine .sl k c 1 a n cap b o us (by rw[I,r]) (λ _=>H E) (λ h=>absurd h (by decide)) D C G ?_ ?_ ?_
   .grind
   .grind
   .intro i d j y m q;let⟨e,x,w,v,t⟩:=get i d j y m q;exact t Γ _ (F i e j x w v)
theorem qDO(k:Nat)(b:0<k):Sub (.v (.slice none 0 0)) (.sl k [] 1):=by
 intro Γ u a;have:=zp a;subst this;exact .sl k [] 1 none 0 0 0 0 (λ _ _=>undef) rfl (λ _=>wa _) (λ h=>absurd h (by decide)) (by simp) (by simp) b (.inl rfl) (by simp) (by simp)
theorem qlw:∀l:List T,qpU l=l.map JQ
 |[]=>rfl
 |t::l=>by rw[qpU,qlw l];rfl
theorem qBc(t:T):(JQ t).length=4:=by let⟨k,n,s,l⟩:=t;rw[JQ];rfl
theorem quc(t:T):∀x∈JQ t,qv x=true:=by
 let⟨k,n,s,l⟩:=t;intro x a;rw[JQ]at a;simp at a;obtain rfl|rfl|rfl|rfl:=a<;>rfl
theorem yj:∀(τ:Ty) (v:Val τ),(qe τ v).length=τ.size
 |.int _,_|.bool,_|.str,_=>rfl
 |.term,t=>qBc t
 |.list _,_=>rfl
 |.pair a b,p=>by rw[qe,wd,yj a,yj b];rfl
 |.one a,v=>by rw[qe,yj a];rfl
 |.map _ _,_=>rfl
theorem zq:∀(τ:Ty) (v:Val τ),∀x∈qe τ v,qv x=true
 |.int _,_,x,h|.bool,_,x,h|.str,_,x,h=>by simp[qe]at h;subst h;rfl
 |.term,t,x,h=>quc t x h
 |.list _,_,x,h=>by simp[qe]at h;subst h;rfl
 |.pair a b,p,x,h=>by
   rw[qe]at h;obtain h|h:=wj.1 h
   .exact zq a _ x h
   .exact zq b _ x h
 |.one a,v,x,h=>zq a v x h
 |.map _ _,_,x,h=>by simp[qe]at h;subst h;rfl
theorem qTg(t:T):∀cs,Jh cs=some t->QI cs (JQ t)/\∀x∈cs,qv x=true:=by
 refine T.ind (P:=λ t=>∀cs,Jh cs=some t->QI cs (JQ t)/\∀x∈cs,qv x=true) ?_ t;intro t m cs h;obtain⟨k,n,s,x,l,rfl,b,rfl⟩:=qjO h;have o:(⟨n.data.toList.toArray⟩:ByteArray)=n:=by cases n;simp
 have c:Sub x (.sl 4 (qpU l) 1)/\qv x=true:=by
  unfold qkK at b;split at b
  .cases b;rw[qpU];exact⟨qDO 4 (by decide),rfl⟩
  .rename_i r q;refine⟨?_,rfl⟩;rw[qpJ]at b;rw[qlw];refine qH3 (xz _) (by rw[zb b,wE]) ?_ ?_ ?_
   .grind [qBc]
   .grind [quc]
   .intro i e u p a;let⟨g,d,j⟩:=J0 b p;rw[List.getElem?_map,d]at a;simp at a;subst a;exact(m g (wb d) e j).1
  .cases b
 refine⟨?_,?_⟩
 .rw[JQ,o];exact .cons (.refl _) (.cons (.refl _) (.cons (.refl _) (.cons c.1 .nil)))
 .intro y f;simp at f;obtain rfl|rfl|rfl|rfl:=f
  .rfl
  .rfl
  .rfl
  .exact c.2
theorem QI.append:∀{a b c d:List AV},QI a b->QI c d->QI (a++c) (b++d)
 |_,_,_,_,.nil,g=>g
 |_,_,_,_,.cons h t,g=>.cons h (t.append g)
theorem Ty.size_pos:∀τ:Ty,0<τ.size
 |.int _|.bool|.str=>Nat.one_pos
 |.term=>by decide
 |.list _=>Nat.one_pos
 |.pair a b=>wA (Ty.size_pos a) (kI _ _)
 |.one a=>Ty.size_pos a
 |.map _ _=>Nat.one_pos
theorem QC{σ b a:Type}{p:List σ->Option (b×List σ)}{q:List σ->Option (a×List σ)}{cs:List σ}{v:b×a}{r:List σ}:qqq p q cs=some (v,r)↔∃c,p cs=some (v.1,c)/\q c=some (v.2,r):=by
 grind [qqq]
theorem qgg:∀(τ:Ty) {cs:List AV}{v:Val τ}{r:List AV} (s:List AV),yJ τ cs=some (v,r)->yJ τ (cs++s)=some (v,r++s)
 |.int k,cs,v,r,s,h=>by
   change JJ k cs=_ at h;show JJ k (cs++s)=_;unfold JJ at h;grind [JJ]
 |.bool,cs,v,r,s,h=>by
   change qdr cs=_ at h;unfold qdr at h;split at h<;>cases h;rfl
 |.str,cs,v,r,s,h=>by
   change qdp cs=_ at h;unfold qdp at h;split at h<;>cases h;rfl
 |.term,cs,v,r,s,h=>by
   change JX cs=_ at h;unfold JX at h;split at h<;>try cases h
   split at h<;>cases h;rename_i c;show JX _=_;grind [JX]
 |.list a,cs,v,r,s,h=>by
   change yL _ cs=_ at h;unfold yL at h;split at h<;>try cases h
   split at h<;>cases h;rename_i c;show yL _ _=_;grind [yL]
 |.pair a b,cs,v,r,s,h=>by
   let⟨f,e,d⟩:=QC.1 h;exact QC.2 ⟨_,qgg a s e,qgg b s d⟩
 |.one a,cs,v,r,s,h=>qgg a s h
 |.map a b,cs,v,r,s,h=>by
   change yL _ cs=_ at h;unfold yL at h;split at h<;>try cases h
   split at h<;>cases h;rename_i c;show yL _ _=_;grind [yL]
theorem qc4{e d:Type}{a b:Ty}{f:List AV->Option e}{g:List AV->Option d}{x:AV}{l:List (e×d)}(h:dMc a b f g x=some l):∃ks vs,x=.mc (kcT a) a.agg b.agg ks vs/\qbH f g ks vs=some l:=by
 unfold dMc at h;split at h<;>try cases h
 split at h<;>try cases h
 rename_i c;rw[wc,wc]at c;rw[of_decide_eq_true c.1,qfo c.2.1,qfo c.2.2];exact⟨_,_,rfl,h⟩
theorem qFg{d c:Type}{a b:Ty}{f:List AV->Option d}{g:List AV->Option c}{ks vs:List (List AV)}:dMc a b f g (.mc (kcT a) a.agg b.agg ks vs)=qbH f g ks vs:=by
 have e:∀x,Q7 x x=true:=λ x=>by cases x<;>rfl
 simp only[dMc,decide_true,e,xa]
theorem qRA{b:List KC}{c a:Bool}{ks vs:List (List AV)}(y:AV):Sub (.mc b c a ks vs) y:=λ Γ u h=>(qLE h).elim
theorem yc:∀(τ:Ty) {cs:List AV}{v:Val τ}{r:List AV},yJ τ cs=some (v,r)->∃pre,cs=pre++r/\pre.length=τ.size/\(∀x∈pre,qv x=true)/\QI pre (qe τ v)/\yJ τ pre=some (v,[])
 |.int k,cs,v,r,h=>by
   change JJ k cs=_ at h;unfold JJ at h;split at h<;>try cases h
   split at h<;>cases h;rename_i g;have l:=of_decide_eq_true g;subst l;exact⟨[_],rfl,rfl,by simp[qv],.refl _,by show JJ _ _=_;simp[JJ]⟩
 |.bool,cs,v,r,h=>by
   change qdr cs=_ at h;unfold qdr at h;split at h<;>cases h;exact⟨[_],rfl,rfl,by simp[qv],.refl _,rfl⟩
 |.str,cs,v,r,h=>by
   change qdp cs=_ at h;unfold qdp at h;split at h<;>cases h;rename_i s;have D:(⟨s.data.toList.toArray⟩:ByteArray)=s:=by cases s;simp
   exact⟨[_],rfl,rfl,by simp[qv],by rw[qe,D];exact .refl _,rfl⟩
 |.term,cs,v,r,h=>by
   change JX cs=_ at h;unfold JX at h;split at h<;>try cases h
   split at h<;>cases h;rename_i c;let⟨o,m⟩:=qTg _ _ c;exact⟨_,rfl,rfl,m,o,by show JX _=_;simp only[JX,c]⟩
 |.list a,cs,v,r,h=>by
   change yL _ cs=_ at h;unfold yL at h;split at h<;>try cases h
   rename_i x A;split at h<;>cases h;rename_i c;refine⟨[x],rfl,rfl,?_,?_,by show yL _ _=_;simp only[yL,c]⟩
   .intro y f;simp at f;subst f;unfold jp at c;split at c
    .rfl
    .rfl
    .cases c
   .rw[qe];refine .cons ?_ .nil;unfold jp at c;split at c
    .grind [qDO,Ty.size_pos]
    .rename_i L M n;split at c
     .rename_i g;have g:=of_decide_eq_true g;subst g;refine qH3 (xz _) (by rw[zb c,wE]) ?_ ?_ ?_
      .grind [yj]
      .grind [zq]
      .intro i e N E d;let⟨w,t,q⟩:=J0 c E;rw[List.getElem?_map,t]at d;simp at d;subst d;let⟨pre,K,_,_,J,_⟩:=yc a (qR.1 q);grind
     .cases c
    .cases c
 |.pair a b,cs,v,r,h=>by
   let⟨I,o,m⟩:=QC.1 h;let⟨p,e1,C,t,z,H⟩:=yc a o;let⟨j,F,B,q,u,G⟩:=yc b m;refine⟨p++j,by rw[e1,F,wn],by rw[wd,C,B];rfl,?_,by rw[qe];exact z.append u,?_⟩
   .grind
   .exact QC.2 ⟨j,by have:=qgg a j H;simpa using this,G⟩
 |.one a,cs,v,r,h=>yc a h
 |.map a b,cs,v,r,h=>by
   change yL _ cs=_ at h;unfold yL at h;split at h<;>try cases h
   rename_i x A;split at h<;>cases h;rename_i c;refine⟨[x],rfl,rfl,?_,?_,by show yL _ _=_;simp only[yL,c]⟩
   .obtain⟨ks,vs,rfl,_⟩:=qc4 c;intro y f;simp at f;subst f;rfl
   .obtain⟨ks,vs,rfl,_⟩:=qc4 c;rw[qe];exact .cons (qRA _) .nil
theorem qLD(t:T):Jh (JQ t)=some t:=by
 refine T.ind (P:=λ t=>Jh (JQ t)=some t) ?_ t;intro t c;let⟨k,n,s,l⟩:=t
 have:qxP (qpU l)=some l:=by
  rw[qpJ,qlw];have c:∀x∈l,Jh (JQ x)=some x:=c
  have a:∀m:List T,(∀x∈m,Jh (JQ x)=some x)->zl Jh (m.map JQ)=some m:=by
   intro m
   induction m with
   |nil=>intro _;rfl
   |cons x m b=>intro h;exact je.2 ⟨x,m,h x (wh ..),b λ y d=>h y (we _ d),rfl⟩
  exact a l c
 rw[JQ,Jh,qkK,this]
theorem qdD:∀(τ:Ty) (v:Val τ),yJ τ (qe τ v)=some (v,[])
 |.int k,v=>by show JJ k [_]=_;simp[JJ]
 |.bool,v=>rfl
 |.str,v=>by show qdp _=_;simp[qdp,qe]
 |.term,t=>by
   have:=qA9 (JQ t);rw[qLD]at this;exact qR.1 this
 |.list a,l=>by
   have c:zl (λ e=>full (yJ a e)) (l.map (qe a))=some l:=qb1 (λ v=>by rw[qdD a v];rfl) l;show yL _ [_]=_;grind [yL,jp,zx]
 |.pair a b,v=>QC.2 ⟨_,qgg a _ (qdD a v.1),by rw[xc];exact qdD b v.2⟩
 |.one a,v=>qdD a v
 |.map a b,l=>by
   have c:∀l:List (Val a×Val b),qbH (λ e=>full (yJ a e)) (λ e=>full (yJ b e)) (l.map λ p=>qe a p.1) (l.map λ p=>qe b p.2)=some l:=by
    intro l
    induction l with
    |nil=>rfl
    |cons p l d=>
      have e1:full (yJ a (qe a p.1))=some p.1:=by rw[qdD a p.1];rfl
      have f:full (yJ b (qe b p.2))=some p.2:=by rw[qdD b p.2];rfl
      simp only[wk,qbH,e1,f,d]
   show yL _ [_]=_;simp only[yL,qFg,c]
theorem qtv:∀(j:Ty) {cs:List AV}{v:Val j}{r:List AV},yJ j cs=some (v,r)->∃pre,cs=pre++r/\((∀x∈pre,∃c,yn [c] [x]=true)->pre=qe j v)
 |.int k,cs,v,r,h=>by
   change JJ k cs=_ at h;unfold JJ at h;split at h<;>try cases h
   split at h<;>cases h;rename_i y;exact⟨[_],rfl,λ _=>by rw[of_decide_eq_true y];rfl⟩
 |.bool,cs,v,r,h=>by
   change qdr cs=_ at h;unfold qdr at h;split at h<;>cases h;exact⟨[_],rfl,λ _=>rfl⟩
 |.str,cs,v,r,h=>by
   change qdp cs=_ at h;unfold qdp at h;split at h<;>cases h;rename_i s;have w:(⟨s.data.toList.toArray⟩:ByteArray)=s:=by cases s;simp
   exact⟨[_],rfl,λ _=>by rw[qe,w]⟩
 |.term,cs,v,r,h=>by
   change JX cs=_ at h;unfold JX at h;split at h<;>try cases h
   split at h<;>cases h;rename_i f;obtain⟨k,n,s,x,l,e,i,rfl⟩:=qjO f;cases e;refine⟨[_,_,_,_],rfl,λ d=>?_⟩;let⟨c,g⟩:=d _ (we _ (we _ (we _ (wh ..))));unfold qkK at i;split at i<;>(try cases i)<;>cases c<;>cases g
 |.list a,cs,v,r,h=>by
   change yL _ cs=_ at h;unfold yL at h;split at h<;>try cases h
   rename_i x o;split at h<;>cases h;rename_i f;refine⟨[x],rfl,λ d=>?_⟩;let⟨c,g⟩:=d x (by simp);unfold jp at f;split at f<;>(try cases f)<;>cases c<;>cases g
 |.pair a b,cs,v,r,h=>by
   let⟨B,i,z⟩:=QC.1 h;let⟨p,e1,u⟩:=qtv a i;let⟨q,A,t⟩:=qtv b z;exact⟨p++q,by rw[e1,A,wn],λ d=>by rw[qe,u λ x m=>d x (wj.2 (.inl m)),t λ x m=>d x (wj.2 (.inr m))]⟩
 |.one a,cs,v,r,h=>qtv a h
 |.map a b,cs,v,r,h=>by
   change yL _ cs=_ at h;unfold yL at h;split at h<;>try cases h
   rename_i x o;split at h<;>cases h;rename_i f;refine⟨[x],rfl,λ d=>?_⟩;let⟨c,g⟩:=d x (by simp);obtain⟨ks,vs,rfl,_⟩:=qc4 f;cases c<;>cases g
theorem qFb:∀{b:List KC}{k:List AV},yn b k=true->∀x∈k,∃c,yn [c] [x]=true
 |[],[],_,x,a=>by cases a
 |[],_::_,h,_,_=>by cases h
 |c::b,k,h,x,a=>by
   obtain⟨y,r,rfl,e,d⟩:=qeD h;obtain rfl|a:=wv.1 a
   .exact⟨c,e⟩
   .exact qFb d x a
theorem qPM{a:Ty}{b:List KC}{k:List AV}{v:Val a}(h:qL a k=some v)(c:yn b k=true):k=qe a v:=by
 let⟨pre,e,o⟩:=qtv a (qR.1 h);grind [qFb]
theorem qmi{d c:Type}{f:List AV->Option d}{g:List AV->Option c}:∀{ks vs:List (List AV)}{l:List (d×c)},qbH f g ks vs=some l->ks.length=l.length/\vs.length=l.length
 |[],[],l,h=>by cases h;exact⟨rfl,rfl⟩
 |[],_::_,l,h|_::_,[],l,h=>by cases h
 |k::ks,v::vs,l,h=>by
   simp only[qbH]at h;split at h<;>try cases h
   split at h<;>cases h;rename_i e;let⟨a,b⟩:=qmi e;simp[a,b]
theorem quE{i e:Type}{f:List AV->Option i}{g:List AV->Option e}:∀{ks vs:List (List AV)}{l:List (i×e)},qbH f g ks vs=some l->∀{j:Nat}{k v:List AV},ks[j]?=some k->vs[j]?=some v->∃p,l[j]?=some p/\f k=some p.1/\g v=some p.2
 |[],[],l,h,j,k,v,c,d=>by simp at c
 |[],_::_,l,h,_,_,_,_,_|_::_,[],l,h,_,_,_,_,_=>by cases h
 |k::ks,v::vs,l,h,j,r,q,c,d=>by
   simp only[qbH]at h;split at h<;>try cases h
   rename_i a b o n;split at h<;>cases h;rename_i m;cases j with
   |zero=>simp at c d;subst c;subst d;exact⟨_,rfl,o,n⟩
   |succ j=>exact quE m (by simpa using c) (by simpa using d)
abbrev waI:=@Ty.size_pos
end Go.AmZ
namespace Go.AmZ
open Go Go.RowKit Go.GxZ
structure Mp where
 b:Nat->Nat
 nb:Nat
 r:Nat->Option Nat
 v:Nat->Nat
 q:Nat->List (List AV)
 rw:List yk
def mp0:Mp:=⟨λ _=>0,0,λ _=>none,λ _=>0,λ _=>[],[]⟩
def lvl:AV->Nat
 |.v _=>2
 |.sl _ _ n=>n
 |_=>0
def qag(r:Option Nat)(v:Nat)(τ:Ty)(l:List (Val τ))(y:AV):Prop:=match r with
 |some r=>y=.rs r 0 l.length v false
 |none=>dlist τ y=some l/\2<=lvl y
def qvl(y:AV):Prop:=y=.v (.slice none 0 0)\/(∃k a n,y=.sl k a n)\/∃r lo n b f,y=.rs r lo n b f
theorem qMh{τ:Ty}{y:AV}{l:List (Val τ)}(h:dlist τ y=some l):qvl y:=by
 unfold dlist jp at h;split at h
 .exact .inl rfl
 .exact .inr (.inl ⟨_,_,_,rfl⟩)
 .cases h
theorem qag.ish{r:Option Nat}{v:Nat}{τ:Ty}{l:List (Val τ)}{y:AV}(h:qag r v τ l y):qvl y:=by
 cases r with
 |some r=>exact .inr (.inr ⟨_,_,_,_,_,h⟩)
 |none=>exact qMh h.1
def qwZ(m:Mp)(id a:Nat)(y:AV):Prop:=
 ∃R,m.rw[id]?=some R/\a<=R.ver/\qvl y/\(R.ver=a->qag (m.r id) (m.v id) R.τ R.l y)
mutual
def OK(m:Mp):TV->AV->Prop
 |.i k n,y=>y=.v (.int k n)
 |.b x,y=>y=.v (.bool x)
 |.s x,y=>y=.v (.string ⟨x.toArray⟩)
 |.c v,y=>zk v=true/\y=.v v
 |.nil,y=>y=.v (.slice none 0 0)
 |.sl τ l g,y=>dlist τ y=some l/\g<=lvl y
 |.row id a,y=>qwZ m id a y
 |.ptr b o,y=>b<m.nb/\y=.ptr (m.b b) o
 |.pti b i,y=>b<m.nb/\0<=i/\y=.ptr (m.b b) i.toNat
 |.rpt id a d i cs o,y=>∃R,m.rw[id]?=some R/\a<=R.ver/\d<=R.sv/\((∃r j h,y=.rpt r j o h)\/∃ds,y=.ept ds o)/\(R.ver=a->(∃r j,m.r id=some r/\y=.rpt r j o (m.v id)/\i=((j:Nat):Int)/\j<R.l.length/\(R.sv=d->∃ds,(m.q id)[j]?=some ds/\OKL m cs ds))\/(m.r id=none/\0<R.l.length/\(R.sv=d->∃ds,y=.ept ds o/\OKL m cs ds)))
 |.ept cs o,y=>∃ds,y=.ept ds o/\OKL m cs ds
 |.fn f cs,y=>∃ds,y=.fn f ds/\OKL m cs ds
 |.agg cs,y=>∃ds,y=.agg ds/\OKL m cs ds
 |.tup cs,y=>∃ds,y=.tup ds/\OKL m cs ds
 |.dead,_=>True
 |.mp b,y=>b<m.nb/\y=.mp (m.b b)
 |.mc e τ l,y=>dMc e τ (qL e) (qL τ) y=some l
def OKL(m:Mp):List TV->List AV->Prop
 |[],ys=>ys=[]
 |x::xs,ys=>∃y r,ys=y::r/\OK m x y/\OKL m xs r
end
structure MLe (m m':Mp):Prop where
 nb:m.nb<=m'.nb
 b:∀i,i<m.nb->m'.b i=m.b i
 row:∀id R,m.rw[id]?=some R->∃R',m'.rw[id]?=some R'/\R.ver<=R'.ver/\R.sv<=R'.sv/\(R'.ver=R.ver->R'.l.length=R.l.length/\m'.r id=m.r id/\m'.v id=m.v id/\R'.τ=R.τ/\(R'.sv=R.sv->m'.q id=m.q id)/\(m.r id=none->∀y,dlist R.τ y=some R.l->dlist R'.τ y=some R'.l))
theorem MLe.refl(m:Mp):MLe m m:=⟨wa _,λ _ _=>rfl,λ _ R h=>⟨R,h,wa _,wa _,λ _=>⟨rfl,rfl,rfl,rfl,λ _=>rfl,λ _ _ h=>h⟩⟩⟩
theorem MLe.trans{a b c:Mp}(h:MLe a b)(g:MLe b c):MLe a c where
 nb:=wz h.nb g.nb
 b:=λ i f=>(g.b i (wA f h.nb)).trans (h.b i f)
 row:=λ id R l=>by
  let⟨d,p,o,n,m⟩:=h.row id R l;let⟨R2,s,r,g3,q⟩:=g.row id d p;refine⟨R2,s,wz o r,wz n g3,λ H=>?_⟩;have e1:d.ver=R.ver:=by omega
  have t:R2.ver=d.ver:=by omega
  let⟨F,j,E,D,C,B⟩:=m e1;let⟨A,z,x,w,v,u⟩:=q t;exact⟨A.trans F,z.trans j,x.trans E,w.trans D,λ G=>(v (by omega)).trans (C (by omega)),λ e y k=>u (j.trans e) y (B e y k)⟩
theorem qwZ.mono{m m':Mp}(g:MLe m m'){id f:Nat}{y:AV}(h:qwZ m id f y):qwZ m' id f y:=by
 let⟨R,n,j,i,e⟩:=h;let⟨R',p,o,_,g3⟩:=g.row id R n;refine⟨R',p,wz j o,i,λ q=>?_⟩;have e1:R'.ver=R.ver:=by omega
 let⟨a,b,c,d,_,k⟩:=g3 e1;have e:=e (by omega);rw[b,c];revert e k;cases m.r id with
 |some r=>
   intro _ e;show y=.rs r 0 R'.l.length (m.v id) false;rw[a];exact e
 |none=>intro k e;exact⟨k rfl y e.1,e.2⟩
mutual
theorem OK.mono{m m':Mp}(e:MLe m m'):∀{x:TV}{y:AV},OK m x y->OK m' x y
 |.i ..,y,h|.b ..,y,h|.s ..,y,h|.c ..,y,h|.nil,y,h|.sl ..,y,h=>h
 |.row ..,y,h=>qwZ.mono e h
 |.ptr b o,y,h=>⟨wA h.1 e.nb,by rw[e.b _ h.1];exact h.2⟩
 |.pti b i,y,h=>⟨wA h.1 e.nb,h.2.1,by rw[e.b _ h.1];exact h.2.2⟩
 |.rpt id w G _ cs o,y,h=>by
   let⟨R,k,g,u,D,C⟩:=h;let⟨R',F,E,v,g3⟩:=e.row id R k;refine⟨R',F,wz g E,wz u v,D,λ H=>?_⟩;have e1:R'.ver=R.ver:=by omega
   let⟨a,b,c,_,d,_⟩:=g3 e1;obtain⟨r,j,t,z,A,q,p⟩|⟨t,q,p⟩:=C (by omega)
   .refine .inl ⟨r,j,b.trans t,by rw[c];exact z,A,by rw[a];exact q,λ B=>?_⟩;let⟨ds,n,l⟩:=p (by omega);exact⟨ds,by rw[d (by omega)];exact n,OKL.mono e l⟩
   .refine .inr ⟨b.trans t,by rw[a];exact q,λ B=>?_⟩;let⟨ds,n,l⟩:=p (by omega);exact⟨ds,n,OKL.mono e l⟩
 |.ept cs o,y,⟨ds,k,g⟩|.fn f cs,y,⟨ds,k,g⟩|.agg cs,y,⟨ds,k,g⟩|.tup cs,y,⟨ds,k,g⟩=>⟨ds,k,OKL.mono e g⟩
 |.dead,y,h=>trivial
 |.mp b,y,h=>⟨wA h.1 e.nb,by rw[e.b _ h.1];exact h.2⟩
 |.mc ..,y,h=>h
theorem OKL.mono{m m':Mp}(a:MLe m m'):∀{xs:List TV}{ys:List AV},OKL m xs ys->OKL m' xs ys
 |[],ys,h=>h
 |x::xs,ys,⟨y,r,d,c,b⟩=>⟨y,r,d,OK.mono a c,OKL.mono a b⟩
end
theorem qQV{m:Mp}{R:yk}{id a o:Nat}{i:Int}{cs:List TV}{y:AV}(h:(∃r j,m.r id=some r/\y=.rpt r j o (m.v id)/\i=((j:Nat):Int)/\j<R.l.length/\(R.sv=a->∃ds,(m.q id)[j]?=some ds/\OKL m cs ds))\/(m.r id=none/\0<R.l.length/\(R.sv=a->∃ds,y=.ept ds o/\OKL m cs ds)))(b:R.sv=a):
  (∃r j ds,m.r id=some r/\y=.rpt r j o (m.v id)/\i=((j:Nat):Int)/\j<R.l.length/\(m.q id)[j]?=some ds/\OKL m cs ds)\/∃ds,m.r id=none/\y=.ept ds o/\0<R.l.length/\OKL m cs ds:=by
 grind
theorem OKL.nil(m:Mp):OKL m [] []:=rfl
theorem OKL.cons{m:Mp}{x:TV}{y:AV}{xs:List TV}{ys:List AV}(h:OK m x y)(g:OKL m xs ys):OKL m (x::xs) (y::ys):=⟨y,ys,rfl,h,g⟩
theorem OKL.len{m:Mp}:∀{xs:List TV}{ys:List AV},OKL m xs ys->ys.length=xs.length
 |[],_,h=>by cases h;rfl
 |_::_,_,⟨_,_,rfl,_,h⟩=>by simp[h.len]
theorem OKL.get{m:Mp}:∀{xs:List TV}{ys:List AV},OKL m xs ys->∀{i:Nat}{x:TV},xs[i]?=some x->∃y,ys[i]?=some y/\OK m x y
 |[],_,_,i,x,a=>by simp at a
 |_::_,_,⟨y,r,rfl,c,b⟩,0,x,a=>by simp at a;subst a;exact⟨y,rfl,c⟩
 |_::_,_,⟨y,r,rfl,c,b⟩,i+1,x,a=>by simpa using b.get (by simpa using a)
theorem OKL.append{m:Mp}:∀{xs:List TV}{ys:List AV}{b:List TV}{a:List AV},OKL m xs ys->OKL m b a->OKL m (xs++b) (ys++a)
 |[],_,_,_,h,g=>by cases h;exact g
 |_::_,_,_,_,⟨y,r,rfl,d,c⟩,g=>⟨y,_,rfl,d,c.append g⟩
theorem OKL.take{m:Mp}(n:Nat):∀{xs:List TV}{ys:List AV},OKL m xs ys->OKL m (xs.take n) (ys.take n):=by
 induction n with
 |zero=>intro xs ys _;simp;exact rfl
 |succ n a=>
   intro xs ys h;cases xs with
   |nil=>cases h;exact rfl
   |cons x xs=>obtain⟨y,r,rfl,c,b⟩:=h;exact⟨y,_,rfl,c,a b⟩
theorem OKL.drop{m:Mp}(n:Nat):∀{xs:List TV}{ys:List AV},OKL m xs ys->OKL m (xs.drop n) (ys.drop n):=by
 induction n with
 |zero=>intro xs ys h;simpa using h
 |succ n a=>
   intro xs ys h;cases xs with
   |nil=>cases h;exact rfl
   |cons x xs=>obtain⟨y,r,rfl,c,b⟩:=h;simpa using a b
theorem OKL.split{m:Mp}:∀{xs c:List TV}{ys:List AV},OKL m (xs++c) ys->∃a b,ys=a++b/\OKL m xs a/\OKL m c b
 |[],_,ys,h=>⟨[],ys,rfl,rfl,h⟩
 |_::_,_,_,⟨y,r,rfl,g,f⟩=>by
   obtain⟨a,b,rfl,e,d⟩:=f.split;exact⟨y::a,b,rfl,⟨y,a,rfl,g,e⟩,d⟩
theorem qA0{m:Mp}{v:Value}(h:zk v=true):OK m (qcI v) (.v v):=by
 unfold qcI;split
 .exact rfl
 .exact rfl
 .rename_i s;show AV.v (.string s)=.v (.string ⟨s.data.toList.toArray⟩);cases s;simp
 .exact rfl
 .rw[h];exact⟨h,rfl⟩
theorem qfP{m:Mp}:∀{l:List Value},l.all zk=true->OKL m (l.map qcI) (l.map .v)
 |[],_=>rfl
 |x::l,h=>by
   rw[wX,wc]at h;exact⟨_,_,rfl,qA0 h.1,qfP h.2⟩
theorem Qh{m:Mp}(v:Value):OK m (qcI v) (ofC v):=by
 unfold ofC;cases h:zk v with
 |true=>exact qA0 h
 |false=>
   have:qcI v=.dead:=by
    unfold qcI;grind [zk]
   rw[this];trivial
theorem qI0{m:Mp}(v:Value):OK m (qDt v) (qs4 v):=by
 cases v with
 |agg cs=>
   show OK m (match cs.toList.all zk with|true=>TV.agg (cs.toList.map qcI)|false=>.dead) (match cs.toList.all zk with|true=>.agg (cs.toList.map .v)|false=>.dead);cases h:cs.toList.all zk with
   |true=>exact⟨_,rfl,qfP h⟩
   |false=>trivial
 |tuple vs=>
   show OK m (match vs.toList with|[]=>TV.tup []|_=>.dead) (match vs.toList with|[]=>.tup []|_=>.dead);cases vs.toList with
   |nil=>exact⟨_,rfl,rfl⟩
   |cons a l=>trivial
 |bool b=>exact Qh (.bool b)
 |int k n=>exact Qh (.int k n)
 |float k n=>exact Qh (.float k n)
 |complex k a b=>exact Qh (.complex k a b)
 |string s=>exact Qh (.string s)
 |pointer a=>exact Qh (.pointer a)
 |slice a n c=>exact Qh (.slice a n c)
 |map r=>exact Qh (.map r)
 |chan r=>exact Qh (.chan r)
 |func f a b=>exact Qh (.func f a b)
 |nilFunc=>exact Qh (.nilFunc)
 |iface t v=>exact Qh (.iface t v)
 |nilIface=>exact Qh (.nilIface)
def JG(σ:St)(R:yk)(b:Option Nat)(a:Nat)(d:List (List AV)):Prop:=match b with
 |some r=>∃Q,σ.rw[r]?=some Q/\Q.c=d/\Q.ver=a/\Q.k=R.τ.size/\zl (qL R.τ) Q.c=some R.l/\Q.fz<=Q.c.length/\(R.sh=false->Q.fz=0/\Q.off=false)
 |none=>R.sh=false->R.l=[]
def yW(m:Mp)(σ:St):Prop:=∀id R,m.rw[id]?=some R->JG σ R (m.r id) (m.v id) (m.q id)
structure Rel (N:Nat×Nat) (m:Mp) (E:Env) (τ:TS) (tm:List AV) (σ:St):Prop where
 len:tm.length=N.1
 env:∀t,OK m (get E t) (tm.getD t .dead)
 rw:m.rw=τ.rw
 nb:m.nb=τ.bx.length
 box:∀b cs,τ.bx[b]?=some cs->∃ds,σ.bx[m.b b]?=some ds/\OKL m cs ds
 inj:∀b b',b<m.nb->b'<m.nb->m.b b=m.b b'->b=b'
 rows:yW m σ
 rinj:∀id id' r,id<m.rw.length->id'<m.rw.length->m.r id=some r->m.r id'=some r->id=id'
 pin:∀i,i<N.2->i<m.nb/\m.b i=i
theorem qvR{m m':Mp}{n:Nat}(c:MLe m m')(h:∀i,i<n->i<m.nb/\m.b i=i):∀i,i<n->i<m'.nb/\m'.b i=i:=λ i a=>
 ⟨wA (h i a).1 c.nb,(c.b i (h i a).1).trans (h i a).2⟩
theorem Rel.ev{N:Nat×Nat}{m:Mp}{E:Env}{τ:TS}{a:List AV}{σ:St}(h:Rel N m E τ a σ)(x:Operand):OK m (evT E x) (aev a x):=by
 cases x with
 |tmp t=>exact h.env t
 |const v=>exact qI0 v
 |func f=>exact⟨_,rfl,rfl⟩
 |global g=>trivial
theorem Rel.evs{N:Nat×Nat}{m:Mp}{E:Env}{τ:TS}{a:List AV}{σ:St}(h:Rel N m E τ a σ):∀l:List Operand,OKL m (l.map (evT E)) (l.map (aev a))
 |[]=>rfl
 |x::l=>⟨_,_,rfl,h.ev x,h.evs l⟩
theorem yS{τ:Ty}{y:AV}{l:List (Val τ)}(h:dlist τ y=some l):y=.v (.slice none 0 0)/\l=[]\/∃a n,y=.sl τ.size a (n+1)/\zl (qL τ) a=some l:=by
 unfold dlist jp at h;split at h
 .grind
 .rename_i k a n;split at h
  .rename_i b;have:=of_decide_eq_true b;simp_all
  .cases h
 .cases h
theorem OK.one{m:Mp}{x:TV}{y:AV}(h:OK m x y)(d:qiG x=true):isC y=true/\jJ x=[x]/\cellsOf y=[y]:=by
 cases x with
 |i|b|s=>cases h;exact⟨rfl,rfl,rfl⟩
 |c=>obtain⟨_,rfl⟩:=h;exact⟨rfl,rfl,rfl⟩
 |nil=>cases h;exact⟨rfl,rfl,rfl⟩
 |sl τ l q=>
   let⟨h,_⟩:=h;obtain⟨rfl,_⟩|⟨e,n,rfl,_⟩:=yS h<;>exact⟨rfl,rfl,rfl⟩
 |row id a=>
   let⟨R,_,_,h,_⟩:=h;obtain rfl|⟨k,e,j,rfl⟩|⟨r,lo,n,g,f,rfl⟩:=h<;>exact⟨rfl,rfl,rfl⟩
 |ptr b o=>obtain⟨_,rfl⟩:=h;exact⟨rfl,rfl,rfl⟩
 |pti b i=>obtain⟨_,_,rfl⟩:=h;exact⟨rfl,rfl,rfl⟩
 |rpt id a p i cs o=>let⟨R,_,_,_,h,_⟩:=h;obtain⟨r,i,g,rfl⟩|⟨ds,rfl⟩:=h<;>exact⟨rfl,rfl,rfl⟩
 |ept cs o|fn f cs=>obtain⟨ds,rfl,_⟩:=h;exact⟨rfl,rfl,rfl⟩
 |agg cs|tup cs|dead=>simp[qiG]at d
 |mp b=>obtain⟨_,rfl⟩:=h;exact⟨rfl,rfl,rfl⟩
 |mc=>obtain⟨ks,vs,rfl,_⟩:=qc4 h;exact⟨rfl,rfl,rfl⟩
theorem OKL.allC{m:Mp}:∀{xs:List TV}{ys:List AV},OKL m xs ys->xs.all qiG=true->ys.all isC=true
 |[],_,h,_=>by cases h;rfl
 |x::xs,_,⟨y,r,rfl,b,a⟩,h=>by
   rw[wX,wc]at h;rw[wX,(b.one h.1).1,a.allC h.2];rfl
theorem OK.cells{m:Mp}{x:TV}{y:AV}(h:OK m x y)(e:(jJ x).all qiG=true):OKL m (jJ x) (cellsOf y)/\(cellsOf y).all isC=true:=by
 have d:qiG x=true->OKL m (jJ x) (cellsOf y)/\(cellsOf y).all isC=true:=by
  intro g;let⟨a,b,c⟩:=h.one g;rw[b,c];exact⟨⟨y,[],rfl,h,rfl⟩,by simp[a]⟩
 cases x with
 |agg cs=>
   obtain⟨ds,rfl,f⟩:=h;exact⟨f,f.allC e⟩
 |tup cs|dead=>simp[jJ,qiG]at e
 |_=>exact d rfl
theorem qLp{x:AV}{l:List T}(h:qkK x=some l):1<=lvl x:=by
 unfold qkK at h;split at h
 .exact ke _
 .exact xw (wg _)
 .cases h
theorem qnq{τ:Ty}{y:AV}{l:List (Val τ)}(h:dlist τ y=some l):1<=lvl y:=by
 obtain⟨rfl,_⟩|⟨a,n,rfl,_⟩:=yS h
 .exact ke _
 .exact xw (wg _)
theorem qpv{m:Mp}:∀(τ:Ty) {cs:List AV}{v:Val τ}{r:List AV},yJ τ cs=some (v,r)->∃pre,cs=pre++r/\OKL m (J9 τ v) pre
 |.int k,cs,v,r,h=>by
   change JJ k cs=_ at h;unfold JJ at h;split at h<;>try cases h
   split at h<;>cases h;rename_i o;have e:=of_decide_eq_true o;subst e;exact⟨[_],rfl,⟨_,_,rfl,rfl,rfl⟩⟩
 |.bool,cs,v,r,h=>by
   change qdr cs=_ at h;unfold qdr at h;split at h<;>cases h;exact⟨[_],rfl,⟨_,_,rfl,rfl,rfl⟩⟩
 |.str,cs,v,r,h=>by
   change qdp cs=_ at h;unfold qdp at h;split at h<;>cases h;rename_i s;exact⟨[_],rfl,⟨_,_,rfl,by show AV.v (.string s)=.v (.string ⟨s.data.toList.toArray⟩);cases s;simp,rfl⟩⟩
 |.term,cs,v,r,h=>by
   change JX cs=_ at h;unfold JX at h;split at h<;>try cases h
   split at h<;>cases h;rename_i c;obtain⟨k,n,s,x,l,j,d,rfl⟩:=qjO c;cases j;refine⟨_,rfl,⟨_,_,rfl,rfl,_,_,rfl,?_,_,_,rfl,rfl,_,_,rfl,⟨?_,qLp d⟩,rfl⟩⟩
   .show AV.v (.string n)=.v (.string ⟨n.data.toList.toArray⟩);cases n;simp
   .rw[qld];exact d
 |.list a,cs,v,r,h=>by
   change yL _ cs=_ at h;unfold yL at h;split at h<;>try cases h
   split at h<;>cases h;rename_i c;have c:dlist a _=some v:=c;exact⟨[_],rfl,⟨_,_,rfl,⟨c,qnq c⟩,rfl⟩⟩
 |.pair a b,cs,v,r,h=>by
   let⟨u,d,q⟩:=QC.1 h;let⟨p,e1,i⟩:=qpv (m:=m) a d;let⟨f,t,g⟩:=qpv (m:=m) b q;exact⟨p++f,by rw[e1,t,wn],i.append g⟩
 |.one a,cs,v,r,h=>qpv (m:=m) a h
 |.map a b,cs,v,r,h=>by
   change yL _ cs=_ at h;unfold yL at h;split at h<;>try cases h
   split at h<;>cases h;rename_i c;exact⟨[_],rfl,⟨_,_,rfl,c,rfl⟩⟩
theorem Qg{m:Mp}{τ:Ty}{e:List AV}{v:Val τ}(h:qL τ e=some v):OKL m (J9 τ v) e:=by
 let⟨pre,b,a⟩:=qpv (m:=m) τ (qR.1 h);grind
theorem j9(τ:Ty)(v:Val τ):qL τ (qe τ v)=some v:=qR.2 (qdD τ v)
theorem qtu{m:Mp}:∀(τ:Ty) (v:Val τ),OK m (qlQ τ v) (yR τ v)
 |.int k,v|.bool,v|.str,v=>rfl
 |.list a,v=>by
   have h:OKL m (J9 (.list a) v) (qe (.list a) v):=Qg (j9 (.list a) v);let⟨y,r,d,c,_⟩:=h;cases d;exact c
 |.term,v=>⟨_,rfl,Qg (j9 .term v)⟩
 |.pair a b,v=>⟨_,rfl,Qg (j9 (.pair a b) v)⟩
 |.one a,v=>⟨_,rfl,Qg (j9 (.one a) v)⟩
 |.map a b,v=>by
   have h:OKL m (J9 (.map a b) v) (qe (.map a b) v):=Qg (j9 (.map a b) v);let⟨y,r,d,c,_⟩:=h;cases d;exact c
end Go.AmZ
namespace Go.AmZ
open Go Go.RowKit Go.GxZ
def qTt(τ:TS):Option TS->TS
 |none=>τ
 |some a=>a
def Sim{α:Type}(N:Nat×Nat)(m:Mp)(E:Env)(τ:TS)(tm:List AV)(σ:St)(K:KT α)(r:α)(p:Option (AV×Option St)):Prop:=
 ∃x a y σ' m',K x a=some r/\p=some (y,σ')/\MLe m m'/\Rel N m' E (qTt τ a) tm (turn σ σ')/\OK m' x y/\(a=none->σ'=none)
section
variable {α:Type}{N:Nat×Nat}{m:Mp}{E:Env}{τ:TS}{tm:List AV}{σ:St}{K:KT α}{r:α}{p:Option (AV×Option St)}
theorem Sim.same{x:TV}{y:AV}(a:Rel N m E τ tm σ)(h:K x none=some r)(b:p=some (y,none))(c:OK m x y):Sim N m E τ tm σ K r p:=
 ⟨x,none,y,none,m,h,b,.refl m,a,c,λ _=>rfl⟩
theorem Sim.to{x:TV}{y:AV}{a:TS}{σ':St}{m':Mp}(h:K x (some a)=some r)(b:p=some (y,some σ'))(e:MLe m m')(d:Rel N m' E a tm σ')(c:OK m' x y):Sim N m E τ tm σ K r p:=
 ⟨x,some a,y,some σ',m',h,b,e,d,c,λ h=>by cases h⟩
theorem Rel.box_lt(a:Rel N m E τ tm σ){b:Nat}(h:b<m.nb):m.b b<σ.bx.length:=by
 rw[a.nb]at h;let⟨ds,c,_⟩:=a.box b _ (List.getElem?_eq_getElem h);exact getElem?_lt c
theorem Rel.alloc(a:Rel N m E τ tm σ){cs:List TV}{ds:List AV}(q:OKL m cs ds):
  ∃m',MLe m m'/\Rel N m' E {τ with bx:=τ.bx++[cs]} tm {σ with bx:=σ.bx++[ds]}/\OK m' (.ptr τ.bx.length 0) (.ptr σ.bx.length 0):=by
 have c:MLe m {m with b:=λ i=>if i=m.nb then σ.bx.length else m.b i,nb:=m.nb+1}:=
  ⟨ke _,λ i p=>if_neg (vu p),λ id R h=>⟨R,h,wa _,wa _,λ _=>⟨rfl,rfl,rfl,rfl,λ _=>rfl,λ _ _ h=>h⟩⟩⟩
 refine⟨_,c,?_,?_⟩
 .refine⟨a.len,λ t=>(a.env t).mono c,a.rw,by show m.nb+1=_;rw[a.nb];simp,?_,?_,a.rows,a.rinj,qvR c a.pin⟩
  .intro b cs' d;show ∃e,(σ.bx++[ds])[if b=m.nb then σ.bx.length else m.b b]?=some e/\_;by_cases j:b<τ.bx.length
   .rw[List.getElem?_append_left j]at d;let⟨e,o,r⟩:=a.box b cs' d;rw[if_neg (by rw[a.nb];omega),List.getElem?_append_left (getElem?_lt o)];exact⟨e,o,r.mono c⟩
   .have k:b<(τ.bx++[cs]).length:=getElem?_lt d;simp at k;have l:b=τ.bx.length:=by omega
    subst l;simp at d;subst d;rw[if_pos a.nb.symm];exact⟨ds,by simp,q.mono c⟩
  .intro b f d n g;change b<m.nb+1 at d;change f<m.nb+1 at n;change (if b=m.nb then σ.bx.length else m.b b)=(if f=m.nb then σ.bx.length else m.b f)at g;split at g<;>split at g
   .omega
   .have:=a.box_lt (b:=f) (by omega);omega
   .have:=a.box_lt (b:=b) (by omega);omega
   .exact a.inj b f (by omega) (by omega) g
 .refine⟨?_,?_⟩
  .show τ.bx.length<m.nb+1;rw[a.nb];exact xu _
  .show AV.ptr σ.bx.length 0=.ptr (if τ.bx.length=m.nb then σ.bx.length else m.b τ.bx.length) 0;rw[if_pos a.nb.symm]
theorem Rel.setBox(a:Rel N m E τ tm σ){b:Nat}{cs:List TV}{ds:List AV}(g:b<m.nb)(k:OKL m cs ds)(w:List Nat):Rel N m E {τ with bx:=τ.bx.set b cs} tm {σ with bx:=σ.bx.set (m.b b) ds,wr:=w}:=by
 refine⟨a.len,a.env,a.rw,by rw[a.nb];simp,?_,a.inj,a.rows,a.rinj,a.pin⟩;intro i cs' d;have c:i<m.nb:=by rw[a.nb];have:=getElem?_lt d;simpa using this
 by_cases f:i=b
 .subst f;have e:i<τ.bx.length:=by rw[<-a.nb];exact c
  simp only[List.getElem?_set_self e,wB]at d;subst d;exact⟨ds,by simp only[List.getElem?_set_self (a.box_lt g)],k⟩
 .simp only[List.getElem?_set_ne (xT f)]at d;let⟨l,p,o⟩:=a.box i cs' d;have j:m.b b≠m.b i:=λ h=>f (a.inj _ _ c g h.symm);grind
theorem Rel.rowsTo(a:Rel N m E τ tm σ){σ':St}(c:σ'.bx=σ.bx)(b:yW m σ'):Rel N m E τ tm σ':=
 ⟨a.len,a.env,a.rw,a.nb,by rw[c];exact a.box,a.inj,b,a.rinj,a.pin⟩
theorem qPC{r:Nat}{Q:Row}(f:Q.fz<=Q.c.length):∀(e:List Nat) {rw:List Row},rw[r]?=some Q->∃d,(frz rw e)[r]?=some d/\d.c=Q.c/\d.k=Q.k/\d.ver=Q.ver/\d.fz<=d.c.length:=by
 intro e
 induction e generalizing Q with
 |nil=>intro rw h;exact⟨Q,h,rfl,rfl,rfl,f⟩
 |cons a e n=>
   intro rw h
   have:∃b,(rw.modify a qn5)[r]?=some b/\b.c=Q.c/\b.k=Q.k/\b.ver=Q.ver/\b.fz<=b.c.length:=by
    rw[List.getElem?_modify,h];by_cases o:a=r
    .exact⟨qn5 Q,by simp[o],rfl,rfl,rfl,Nat.max_le.2 ⟨f,wa _⟩⟩
    .grind
   let⟨b,t,s,g3,q,p⟩:=this;let⟨u,m,l,j,i,g⟩:=n (Q:=b) p t;exact⟨u,m,l.trans s,j.trans g3,i.trans q,g⟩
def shM(m:Mp):Mp:={m with rw:=m.rw.map λ R=>⟨R.τ,R.l,R.ver,R.sv,true⟩}
theorem qH4{id:Nat}{R:yk}(h:(shM m).rw[id]?=some R):∃a,m.rw[id]?=some a/\R=⟨a.τ,a.l,a.ver,a.sv,true⟩:=by
 change (m.rw.map _)[id]?=some R at h;grind
theorem qge(m:Mp):MLe m (shM m):=by
 refine⟨wa _,λ _ _=>rfl,λ id R h=>⟨⟨R.τ,R.l,R.ver,R.sv,true⟩,?_,wa _,wa _,λ _=>⟨rfl,rfl,rfl,rfl,λ _=>rfl,λ _ _ h=>h⟩⟩⟩;show(m.rw.map _)[id]?=_;rw[List.getElem?_map,h];rfl
theorem yW.frz(h:yW m σ)(b w:List Nat):yW (shM m) {σ with rw:=frz σ.rw b,wrr:=w}:=by
 intro id R e;obtain⟨a,i,rfl⟩:=qH4 e;have:=h id a i;show match m.r id with|some r=>∃Q,(Go.AmZ.frz σ.rw b)[r]?=some Q/\Q.c=m.q id/\Q.ver=m.v id/\Q.k=a.τ.size/\zl (qL a.τ) Q.c=some a.l/\Q.fz<=Q.c.length/\(true=false->Q.fz=0/\Q.off=false)|none=>true=false->a.l=[]
 cases d:m.r id with
 |some r=>
   rw[d]at this;let⟨Q,g,p,o,n,j,f,_⟩:=this;let⟨y,x,u,g3,t,s⟩:=qPC f (rw:=σ.rw) b g;grind
 |none=>intro h;cases h
theorem yW.sh(h:yW m σ):yW (shM m) σ:=by
 intro id R d;obtain⟨a,e,rfl⟩:=qH4 d;have:=h id a e;show match m.r id with|some r=>∃Q,σ.rw[r]?=some Q/\Q.c=m.q id/\Q.ver=m.v id/\Q.k=a.τ.size/\zl (qL a.τ) Q.c=some a.l/\Q.fz<=Q.c.length/\(true=false->Q.fz=0/\Q.off=false)|none=>true=false->a.l=[]
 cases b:m.r id with
 |some r=>
   rw[b]at this;let⟨Q,o,n,j,i,g,f,_⟩:=this;grind
 |none=>intro h;cases h
theorem Rel.share(a:Rel N m E τ tm σ){σ':St}(f:σ'.bx=σ.bx)(e:yW (shM m) σ'):Rel N (shM m) E (shA τ) tm σ':=by
 refine⟨a.len,λ t=>(a.env t).mono (qge m),by show m.rw.map _=τ.rw.map _;rw[a.rw],a.nb,?_,a.inj,e,?_,a.pin⟩
 .intro b cs d;let⟨ds,h,g⟩:=a.box b cs d;exact⟨ds,by rw[f];exact h,g.mono (qge m)⟩
 .intro id c r e1 k j i;have l:(shM m).rw.length=m.rw.length:=wE ..;exact a.rinj id c r (l▸e1) (l▸k) j i
theorem qQ2{op:BinOp}{k:IntKind}{a b:Int}{d:TV->Option α}{r:α}(h:qOF op k a b d=some r):∃x z,d x=some r/\qDM op k a b=some z/\OK m x (.v z):=by
 cases op<;>simp only[qOF]at h<;>first
  |(cases h;done)
  |exact⟨_,_,h,rfl,rfl⟩
  |skip
 all_goals (
  cases c:ieq b 0 with
  |true=>rw[c]at h;cases h
  |false=>rw[c]at h;exact⟨_,_,h,by simp only[qDM,c],rfl⟩)
theorem qOs{a b:List UInt8}(h:qwF a b=true):qJ0 ⟨a.toArray⟩ ⟨b.toArray⟩=some ⟨(a++b).toArray⟩:=by
 have h:=of_decide_eq_true h;unfold qJ0;have e1:(⟨a.toArray⟩:ByteArray).size=a.length:=by simp[ByteArray.size]
 have c:(⟨b.toArray⟩:ByteArray).size=b.length:=by simp[ByteArray.size]
 rw[if_neg (by rw[e1,c];omega)];congr 1
theorem qHm(a b:List UInt8):xeq ⟨a.toArray⟩ ⟨b.toArray⟩=qu a b:=by
 simp[xeq,qu]
theorem qQq(a b:List UInt8):xlt ⟨a.toArray⟩ ⟨b.toArray⟩=slt a b:=by
 simp[xlt,slt]
theorem qQ1{op:BinOp}{a b:List UInt8}{d:TV->Option α}{r:α}(h:qMV op a b d=some r):∃x z,d x=some r/\qFD op ⟨a.toArray⟩ ⟨b.toArray⟩=some z/\OK m x (.v z):=by
 cases op<;>simp only[qMV]at h<;>first
  |(cases h;done)
  |(refine⟨_,_,h,rfl,?_⟩;simp only[qHm,qQq];exact rfl)
  |skip
 cases c:qwF a b with
 |false=>rw[c]at h;cases h
 |true=>rw[c]at h;exact⟨_,_,h,by simp only[qFD,qOs c],rfl⟩
theorem qEd{place:Nat->Option (Nat×Nat)}:∀{l:List (Nat×TV)}{c:List (Nat×AV)}{cells:List TV}{cells':List AV}{cs:List TV},
  (l.map (·.1)=c.map (·.1)/\OKL m (l.map (·.2)) (c.map (·.2)))->OKL m cells cells'->qCU place cells l=some cs->∃ds,qna place cells' c=some ds/\OKL m cs ds
 |[],c,cells,cells',cs,d,e,h=>by
   have:c=[]:=by cases c with|nil=>rfl|cons a b=>simp at d
   subst this;cases h;exact⟨cells',rfl,e⟩
 |(i,x)::l,c,cells,cells',cs,d,e,h=>by
   cases c with
   |nil=>simp at d
   |cons q c=>
     let⟨j,y⟩:=q;simp only[wk,List.cons.injEq]at d;obtain⟨⟨rfl,g⟩,z,A,r,o,f⟩:=d;cases r;simp only[qCU]at h;simp only[qna];split at h<;>try cases h
     rename_i off size p;split at h<;>try cases h
     rename_i k;simp only[wc,decide_eq_true_eq]at k;let⟨⟨u,t⟩,s⟩:=k;let⟨n,v⟩:=o.cells s;rw[p];have e1:(cellsOf y).length=size:=by rw[n.len];exact u
     have w:off+size<=cells'.length:=by rw[e.len];exact t
     simp only[e1,w,v,decide_true,xa];exact qEd ⟨g,f⟩ ((e.take off).append (n.append (e.drop (off+size)))) h
theorem qg6{a:Bool}{size o:Nat}{cs:List TV}{ds:List AV}{x:TV}(b:OKL m cs ds)(h:qny a size cs o=some x):∃y,qc5 a size ds o=some y/\OK m x y:=by
 unfold qny at h;unfold qc5;cases a with
 |true=>
   simp only at h |-
   split at h<;>cases h;rename_i c;rw[<-b.len]at c;rw[c];exact⟨_,rfl,_,rfl,(b.drop o).take size⟩
 |false=>exact b.get h
theorem qdd(e:Rel N m E τ tm σ){y:Nat}{d:Nat}{a:Option Operand}{n:Int}(h:qf8 d E a=some n)(f:d<=y)(b:inb n y=true):qdF d y (a.map (aev tm))=some n.toNat:=by
 have b:=of_decide_eq_true b;cases a with
 |none=>
   grind [qf8,qdF]
 |some x=>
   simp only[qf8]at h;split at h<;>cases h;rename_i k c;have:=e.ev x;rw[c]at this;show qv3 y (aev tm x)=_;rw[this];show bnd y n=_;unfold bnd;rw[if_pos b]
theorem qjM{a:Type}{l:List a}{j:Int}{v:a}(h:qd l j=some v):0<=j/\l[j.toNat]?=some v:=by
 grind [qd]
theorem JS{b a:Type}{x:Option b}{k:b->Option a}{r:a}(h:qb x k=some r):∃v,x=some v/\k v=some r:=by
 unfold qb at h;grind
theorem jY{b:Bool}{x:Option α}{r:α}(h:cond b x none=some r):b=true/\x=some r:=by
 grind
theorem qxZ{b:Bool}{x:Option α}{r:α}(h:cond b none x=some r):b=false/\x=some r:=by
 grind
end
end Go.AmZ
namespace Go.AmZ
open Go Go.RowKit Go.GxZ
def Ql(τ:Ty)(y:AV):Option (Val τ):=match Q7 τ.agg (QT y)with
 |true=>qL τ (cellsOf y)
 |false=>none
section
variable {α:Type}{N:Nat×Nat}{m:Mp}{E:Env}{τ:TS}{tm:List AV}{σ:St}{K:KT α}{r:α}{p:Option (AV×Option St)}
theorem jD{a b l l'}(h:qfr l b=some l'):∃e:a=b,e▸l=l':=by
 grind [qfr]
theorem qKE(Q):qmJ Q Q.k 0 Q.c.length Q.ver=some Q.c:=by
 grind [qmJ]
theorem qhk(a:yW m σ){id R y}(e:m.rw[id]?=some R)(h:qag (m.r id) (m.v id) R.τ R.l y):
  (∃r Q,m.r id=some r/\y=.rs r 0 Q.c.length Q.ver false/\σ.rw[r]?=some Q/\Q.c=m.q id/\Q.ver=m.v id/\Q.k=R.τ.size/\zl (qL R.τ) Q.c=some R.l/\Q.fz<=Q.c.length/\(R.sh=false->Q.fz=0/\Q.off=false))\/
  (m.r id=none/\(R.sh=false->R.l=[])/\dlist R.τ y=some R.l/\2<=lvl y):=by
 have a:=a id R e;cases b:m.r id with
 |some r=>
   rw[b]at a h;let⟨Q,j,i,g3,g,d,f⟩:=a;refine .inl ⟨r,Q,rfl,?_,j,i,g3,g,d,f⟩;rw[zb d,g3];exact h
 |none=>
   rw[b]at a h;exact .inr ⟨rfl,a,h.1,h.2⟩
theorem qAV{a y l}(rw')(h:dlist a y=some l):∃b,elems rw' a.size y=some b/\zl (qL a) b=some l/\dlist a (qY rw' y)=some l:=by
 obtain⟨rfl,c⟩|⟨b,n,rfl,c⟩:=yS h
 .rw[c];exact⟨[],rfl,rfl,rfl⟩
 .refine⟨b,by simp[elems,zx,decide_true],c,?_⟩;show dlist _ (.sl _ b 1)=_;grind [dlist,jp,zx]
theorem qoE(j:yW m σ){a x y l}(h:qnD m.rw a x=some l)(c:OK m x y):
  ∃g,elems σ.rw a.size y=some g/\zl (qL a) g=some l/\dlist a (qY σ.rw y)=some l:=by
 unfold qnD at h;split at h
 .cases h;cases c;exact⟨[],rfl,rfl,rfl⟩
 .obtain⟨e,rfl⟩:=jD h;subst e;exact qAV _ c.1
 .rename_i id i;split at h<;>try cases h
  rename_i R d;split at h<;>try cases h
  rename_i b;have b:=wm b;obtain⟨e,rfl⟩:=jD h;subst e;let⟨R',f,_,_,k⟩:=c;rw[d]at f;cases f;obtain⟨r,Q,_,rfl,q,_,_,p,o,_⟩|⟨_,_,n,_⟩:=qhk j d (k b)
  .grind [elems,qY,dlist,jp,zx,qKE,decide_true]
  .exact qAV _ n
 .cases h
theorem qdi(j:yW m σ):∀a {cs v r ds},qjq m.rw a cs=some (v,r)->OKL m cs ds->∃d,yJ a (ds.map (qY σ.rw))=some (v,d.map (qY σ.rw))/\OKL m r d
 |.int k,cs,v,r,ds,h,c=>by
   change qOn k cs=_ at h;unfold qOn at h;split at h<;>try cases h
   split at h<;>cases h;rename_i A;obtain⟨y,d,rfl,f,g⟩:=c;cases f;exact⟨d,by show JJ _ _=_;simp only[wk,qY,JJ,A],g⟩
 |.bool,cs,v,r,ds,h,c=>by
   change qJM cs=_ at h;unfold qJM at h;split at h<;>cases h;obtain⟨y,d,rfl,f,g⟩:=c;cases f;exact⟨d,rfl,g⟩
 |.str,cs,v,r,ds,h,c=>by
   change qMT cs=_ at h;unfold qMT at h;split at h<;>cases h;obtain⟨y,d,rfl,f,g⟩:=c;cases f;exact⟨d,by show qdp _=_;simp only[wk,qY,qdp],g⟩
 |.term,cs,v,r,ds,h,c=>by
   change qI9 _ cs=_ at h;unfold qI9 at h;split at h<;>try cases h
   split at h<;>cases h;rename_i i;obtain⟨y1,w,rfl,s,y2,H,rfl,q,y3,G,rfl,p,y4,t,rfl,o,g⟩:=c;cases s;cases q;cases p;let⟨F,_,_,l⟩:=qoE j i o;rw[qld]at l;refine⟨t,?_,g⟩;show JX (.v (.int .i64 _)::.v (.string ⟨_⟩)::.v (.int .i64 _)::qY σ.rw y4::t.map (qY σ.rw))=_;grind [JX,Jh]
 |.list a,cs,v,r,ds,h,c=>by
   change qI7 _ cs=_ at h;unfold qI7 at h;split at h<;>try cases h
   split at h<;>cases h;rename_i i;obtain⟨y,d,rfl,f,g⟩:=c;let⟨F,_,_,l⟩:=qoE j i f;have l:jp a.size (λ e=>full (yJ a e)) (qY σ.rw y)=some v:=l;exact⟨d,by show yL _ _=_;simp only[wk,yL,l],g⟩
 |.pair a b,cs,v,r,ds,h,c=>by
   let⟨w,C,B⟩:=QC.1 h;let⟨u,E,D⟩:=qdi j a C c;let⟨n,z,x⟩:=qdi j b B D;exact⟨n,QC.2 ⟨_,E,z⟩,x⟩
 |.one a,cs,v,r,ds,h,c=>qdi j a h c
 |.map a b,cs,v,r,ds,h,c=>by
   change qOX a b cs=_ at h;unfold qOX at h;split at h<;>try cases h
   split at h<;>cases h;rename_i i;obtain⟨y,d,rfl,f,g⟩:=c;unfold qCX at i;split at i<;>cases i;rename_i e;obtain⟨rfl,rfl⟩:=e;have f:dMc _ _ _ _ y=some _:=f;obtain⟨ks,vs,rfl,_⟩:=qc4 f;exact⟨d,by show yL (dMc _ _ (qL _) (qL _)) _=_;simp only[wk,qY,yL,f],g⟩
theorem qfO{β x}{v:β}(h:qmO x=some v):x=some (v,[]):=by
 unfold qmO at h;grind
theorem qpA(rw){y}(h:QT y=false):QT (jk rw y)=false/\cellsOf (jk rw y)=[qY rw y]/\cellsOf y=[y]:=by
 cases y with
 |agg cs=>cases h
 |rs r lo n a f=>
   grind [jk,qY,QT,cellsOf]
 |_=>exact⟨rfl,rfl,rfl⟩
theorem qhd(hq:yW m σ){a:Ty}{x:TV}{y:AV}{v:Val a}(h:qcu m.rw a x=some v)(ho:OK m x y) :
  Ql a (jk σ.rw y)=some v/\qL a ((cellsOf y).map (qY σ.rw))=some v:=by
 unfold qcu at h;split at h
 case h_2=>cases h
 rename_i hb;have hb:a.agg=qxE x:=by simpa[Q7]using hb
 have h:=qfO h
 have key:OKL m (jJ x) (cellsOf y)->qL a ((cellsOf y).map (qY σ.rw))=some v:=by
  intro hc;obtain⟨rs,g1,g2⟩:=qdi hq a h hc;cases g2;exact qR.2 g1
 by_cases hx:qxE x=true
 ·cases x with
  | agg cs =>
    obtain⟨ds,rfl,hd⟩:=ho;refine⟨?_,key hd⟩;unfold Ql;rw[hb];exact key hd
  | _=>cases hx
 ·have hx:qxE x=false:=by simpa using hx
  have hct:jJ x=[x]:=by cases x<;>first | rfl | (cases hx)
  have hy:QT y=false:=by
   cases x with
   | agg cs=>cases hx
   | i=>cases ho;rfl
   | b=>cases ho;rfl
   | s=>cases ho;rfl
   | c=>obtain⟨_,rfl⟩:=ho;rfl
   | nil=>cases ho;rfl
   | sl τ l lv =>
     obtain⟨ho,_⟩:=ho;rcases yS ho with⟨rfl,_⟩ | ⟨es,n,rfl,_⟩<;>rfl
   | row id ver =>
     obtain⟨R,_,_,ho,_⟩:=ho;rcases ho with rfl | ⟨k,es,j,rfl⟩ | ⟨r,lo,n,ep,f,rfl⟩<;>rfl
   | ptr b o=>obtain⟨_,rfl⟩:=ho;rfl
   | pti b i=>obtain⟨_,_,rfl⟩:=ho;rfl
   | rpt id ver sv i cs o=>obtain⟨R,_,_,_,ho,_⟩:=ho;rcases ho with⟨r,i,ep,rfl⟩ | ⟨ds,rfl⟩<;>rfl
   | ept cs o=>obtain⟨ds,rfl,_⟩:=ho;rfl
   | fn f cs=>obtain⟨ds,rfl,_⟩:=ho;rfl
   | tup cs=>obtain⟨ds,rfl,_⟩:=ho;rfl
   | mp b=>obtain⟨_,rfl⟩:=ho;rfl
   | mc=>obtain⟨ks,vs,rfl,_⟩:=qc4 ho;rfl
   | dead =>
     exfalso;rw[hct]at h;have hag:a.agg=false:=by rw[hb];rfl
     cases a with
     | int k=>cases h
     | bool=>cases h
     | str=>cases h
     | list a=>cases h
     | map a b=>cases h
     | term=>cases hag
     | pair a b=>cases hag
     | one a=>cases hag
  obtain⟨e1,e2,e3⟩:=qpA σ.rw hy;have hc:OKL m (jJ x) (cellsOf y):=by rw[hct,e3];exact⟨y,[],rfl,ho,rfl⟩
  grind [Ql]
theorem quQ{x y}(a:OK m x y)(h:qmW x=true):rsC y=[]/\QT y=false:=by
 cases x with
 |i|b|s=>cases a;exact⟨rfl,rfl⟩
 |c=>obtain⟨_,rfl⟩:=a;exact⟨rfl,rfl⟩
 |nil=>cases a;exact⟨rfl,rfl⟩
 |sl τ l d=>
   let⟨a,_⟩:=a;obtain⟨rfl,_⟩|⟨e,n,rfl,_⟩:=yS a<;>exact⟨rfl,rfl⟩
 |fn f cs=>obtain⟨ds,rfl,_⟩:=a;exact⟨rfl,rfl⟩
 |mc=>obtain⟨ks,vs,rfl,_⟩:=qc4 a;exact⟨rfl,rfl⟩
 |_=>cases h
theorem qjw: ∀{xs ys},OKL m xs ys->xs.all qmW=true->ys.flatMap rsC=[]
 |[],_,h,_=>by cases h;rfl
 |x::xs,_,⟨y,r,rfl,b,a⟩,h=>by
   rw[wX,wc]at h;rw[xj,(quQ b h.1).1,qjw a h.2];rfl
theorem qPY{y}(b:rsC y=[])(a:QT y=false):rsA y=[]:=by
 cases y<;>first|(cases a;done)|exact b
theorem qtl{x y}(h:qnV x=true)(c:OK m x y):rsA y=[]:=by
 cases x with
 |agg cs=>
   obtain⟨ds,rfl,d⟩:=c;exact qjw d h
 |_=>let⟨a,b⟩:=quQ c h;exact qPY a b
theorem quU: ∀{xs ys},xs.all qnV=true->OKL m xs ys->ys.flatMap rsA=[]
 |[],_,_,h=>by cases h;rfl
 |x::xs,_,h,⟨y,r,rfl,b,a⟩=>by
   rw[wX,wc]at h;rw[xj,qtl h.1 b,quU h.2 a];rfl
theorem qC1(c:yW m σ){a:Ty}:∀{xs ys vs},qsU m.rw a xs=some vs->OKL m xs ys->
  zl (qL a) (ys.map λ y=>(cellsOf y).map (qY σ.rw))=some vs
 |[],ys,vs,h,e=>by cases e;cases h;rfl
 |x::xs,ys,vs,h,⟨y,r,f,i,g⟩=>by
   subst f;simp only[qsU]at h;split at h<;>try cases h
   rename_i v d;split at h<;>cases h;rename_i vs b;exact je.2 ⟨v,vs,(qhd c d i).2,qC1 c b g,rfl⟩
end
end Go.AmZ
namespace Go.AmZ
open Go Go.RowKit Go.GxZ
def Mp.add(m:Mp)(R:yk)(ro:Option Nat)(vo:Nat)(qo:List (List AV)):Mp:=
 ⟨m.b,m.nb,λ i=>if i=m.rw.length then ro else m.r i,λ i=>if i=m.rw.length then vo else m.v i,λ i=>if i=m.rw.length then qo else m.q i,m.rw++[R]⟩
def Mp.upd(m:Mp)(id:Nat)(R:yk)(ro:Option Nat)(vo:Nat)(qo:List (List AV)):Mp:=
 ⟨m.b,m.nb,λ i=>if i=id then ro else m.r i,λ i=>if i=id then vo else m.v i,λ i=>if i=id then qo else m.q i,m.rw.set id R⟩
section
variable {α:Type}{N:Nat×Nat}{m:Mp}{E:Env}{τ:TS}{tm:List AV}{σ:St}{K:KT α}{r:α}{p:Option (AV×Option St)}{c:TC}{C:Cfg}{R R2:yk}{ro:Option Nat}{vo:Nat}{qo:List (List AV)}{id:Nat}
theorem qrX(m R ro vo qo):MLe m (m.add R ro vo qo):=by
 refine⟨wa _,λ i _=>rfl,λ id R' h=>?_⟩;have b:=getElem?_lt h;have a:=vu b;exact⟨R',by show(m.rw++_)[id]?=_;rw[List.getElem?_append_left b];exact h,wa _,wa _,λ _=>⟨rfl,if_neg a,if_neg a,rfl,λ _=>if_neg a,λ _ _ h=>h⟩⟩
theorem JG.later{σ'}(h:JG σ R ro vo qo)(a:∀r Q,ro=some r->σ.rw[r]?=some Q->σ'.rw[r]?=some Q):JG σ' R ro vo qo:=by
 cases ro with
 |none=>exact h
 |some r=>
   let⟨Q,c,b⟩:=h;exact⟨Q,a r Q rfl c,b⟩
theorem qp4{σ'}(d:yW m σ)(f:JG σ' R ro vo qo)(e:∀(r:Nat) (Q:Row),σ.rw[r]?=some Q->σ'.rw[r]?=some Q):yW (m.add R ro vo qo) σ':=by
 intro id R' c;change (m.rw++[R])[id]?=some R' at c;show JG σ' R' (if id=m.rw.length then ro else m.r id) (if id=m.rw.length then vo else m.v id) (if id=m.rw.length then qo else m.q id);by_cases b:id=m.rw.length
 .grind
 .rw[if_neg b,if_neg b,if_neg b];have a:id<m.rw.length:=by grind
  rw[List.getElem?_append_left a]at c;exact(d id R' c).later λ r Q _ h=>e r Q h
theorem qLS(k:m.rw[id]?=some R)(n:R.ver<=R2.ver)(o:R.sv<=R2.sv)(p:R2.ver=R.ver->R2.l.length=R.l.length/\ro=m.r id/\vo=m.v id/\R2.τ=R.τ/\(R2.sv=R.sv->qo=m.q id)/\(m.r id=none->∀y,dlist R.τ y=some R.l->dlist R2.τ y=some R2.l)):MLe m (m.upd id R2 ro vo qo):=by
 have j:=getElem?_lt k;refine⟨wa _,λ i _=>rfl,λ i R' h=>?_⟩;by_cases g:i=id
 .subst g;rw[k]at h;cases h;refine⟨R2,by show(m.rw.set i R2)[i]?=_;rw[List.getElem?_set_self j],n,o,λ h=>?_⟩;let⟨a,b,c,d,e,f⟩:=p h;exact⟨a,(if_pos rfl).trans b,(if_pos rfl).trans c,d,λ h=>(if_pos rfl).trans (e h),f⟩
 .exact⟨R',by show(m.rw.set id R2)[i]?=_;rw[List.getElem?_set_ne (xT g)];exact h,wa _,wa _,λ _=>⟨rfl,if_neg g,if_neg g,rfl,λ _=>if_neg g,λ _ _ h=>h⟩⟩
theorem qDi{σ'}(j:m.rw[id]?=some R)(d:yW m σ)(h:JG σ' R2 ro vo qo)(e:∀a r Q,a≠id->a<m.rw.length->m.r a=some r->σ.rw[r]?=some Q->σ'.rw[r]?=some Q):yW (m.upd id R2 ro vo qo) σ':=by
 intro i R' c;change (m.rw.set id R2)[i]?=some R' at c;show JG σ' R' (if i=id then ro else m.r i) (if i=id then vo else m.v i) (if i=id then qo else m.q i);by_cases b:i=id
 .grind
 .rw[if_neg b,if_neg b,if_neg b];rw[List.getElem?_set_ne (xT b)]at c;exact(d i R' c).later λ r Q g f=>e i r Q b (getElem?_lt c) g f
theorem Rel.to{m' rw' σ'}(c:Rel N m E τ tm σ)(a:MLe m m')(l:m'.rw=rw')(g:m'.nb=m.nb)(f:m'.b=m.b)(k:σ'.bx=σ.bx)(h:yW m' σ')
  (j:∀i d r,i<m'.rw.length->d<m'.rw.length->m'.r i=some r->m'.r d=some r->i=d):Rel N m' E {τ with rw:=rw'} tm σ':=by
 refine⟨c.len,λ t=>(c.env t).mono a,l,by rw[g];exact c.nb,?_,by rw[g,f];exact c.inj,h,j,qvR a c.pin⟩;intro b cs e;let⟨ds,o,n⟩:=c.box b cs e;exact⟨ds,by rw[k,f];exact o,n.mono a⟩
theorem Rel.row_lt(a:Rel N m E τ tm σ){id r}(h:id<m.rw.length)(b:m.r id=some r):r<σ.rw.length:=by
 have:=a.rows id _ (List.getElem?_eq_getElem h);rw[b]at this;let⟨Q,c,_⟩:=this;exact getElem?_lt c
theorem Rel.rowAdd{σ'}(b:Rel N m E τ tm σ)(R ro vo qo)(j:σ'.bx=σ.bx)(h:JG σ' R ro vo qo)(i:∀(r:Nat) (Q:Row),σ.rw[r]?=some Q->σ'.rw[r]?=some Q)(e:∀r,ro=some r->σ.rw.length<=r){y}(d:qag ro vo R.τ R.l y)(k:R.ver=0):
  ∃m',MLe m m'/\Rel N m' E {τ with rw:=τ.rw++[R]} tm σ'/\OK m' (.row τ.rw.length 0) y:=by
 refine⟨m.add R ro vo qo,qrX _ _ _ _ _,b.to (qrX _ _ _ _ _) (by show m.rw++_=_;rw[b.rw]) rfl rfl j (qp4 b.rows h i) ?_,?_⟩
 .intro id a r g f e1 c;change id<(m.rw++[_]).length at g;change a<(m.rw++[_]).length at f;change (if id=m.rw.length then ro else m.r id)=some r at e1;change (if a=m.rw.length then ro else m.r a)=some r at c;simp at g f;split at e1<;>split at c
  .omega
  .have:=b.row_lt (by omega) c;have:=e r e1;omega
  .have:=b.row_lt (by omega) e1;have:=e r c;omega
  .exact b.rinj id a r (by omega) (by omega) e1 c
 .refine⟨R,?_,wg _,d.ish,λ _=>?_⟩
  .show(m.rw++_)[τ.rw.length]?=_;rw[b.rw];simp
  .show qag (if τ.rw.length=m.rw.length then ro else m.r τ.rw.length) (if τ.rw.length=m.rw.length then vo else m.v τ.rw.length) _ _ y;rw[if_pos (by rw[b.rw]),if_pos (by rw[b.rw])];exact d
theorem Rel.rowNew(b:Rel N m E τ tm σ){a es l}(c:zl (qL a) es=some l):
  ∃m',MLe m m'/\Rel N m' E {τ with rw:=τ.rw++[⟨a,l,0,0,false⟩]} tm {σ with rw:=σ.rw++[⟨a.size,es,0,0,false⟩]}/\OK m' (.row τ.rw.length 0) (.rs σ.rw.length 0 l.length 0 false):=
 b.rowAdd (σ':={σ with rw:=σ.rw++[⟨a.size,es,0,0,false⟩]}) ⟨a,l,0,0,false⟩ (some σ.rw.length) 0 es rfl ⟨⟨a.size,es,0,0,false⟩,by show(σ.rw++[_])[σ.rw.length]?=_;simp,rfl,rfl,rfl,c,wg _,λ _=>⟨rfl,rfl⟩⟩
  (λ r Q h=>by show(σ.rw++_)[r]?=_;rw[List.getElem?_append_left (getElem?_lt h)];exact h) (λ r h=>by cases h;exact wa _) rfl rfl
theorem Rel.rowUpd(c:Rel N m E τ tm σ)(B:τ.rw[id]?=some R)(ro:Option Nat)(vo:Nat)(qo:List (List AV))(n:R.ver<=R2.ver)(o:R.sv<=R2.sv)(t:R2.ver=R.ver->R2.l.length=R.l.length/\ro=m.r id/\vo=m.v id/\R2.τ=R.τ/\(R2.sv=R.sv->qo=m.q id)/\(m.r id=none->∀y,dlist R.τ y=some R.l->dlist R2.τ y=some R2.l)){σ'}(u:σ'.bx=σ.bx)(p:JG σ' R2 ro vo qo)
  (s:∀a r,a≠id->a<m.rw.length->m.r a=some r->ro≠some r/\∀Q,σ.rw[r]?=some Q->σ'.rw[r]?=some Q):
  ∃m',MLe m m'/\Rel N m' E {τ with rw:=τ.rw.set id R2} tm σ'/\(∀y,qag ro vo R2.τ R2.l y->OK m' (.row id R2.ver) y):=by
 have b:m.rw[id]?=some R:=by rw[c.rw];exact B
 have f:=getElem?_lt b;have d:=qLS b n o t;refine⟨m.upd id R2 ro vo qo,d,c.to d (by show m.rw.set id R2=_;rw[c.rw]) rfl rfl u (qDi b c.rows p λ a r Q A z x w=>(s a r A z x).2 Q w) ?_,λ y k=>?_⟩
 .intro i e r h g e1 j;change i<(m.rw.set id R2).length at h;change e<(m.rw.set id R2).length at g;change (if i=id then ro else m.r i)=some r at e1;change (if e=id then ro else m.r e)=some r at j;simp at h g;split at e1<;>split at j
  .omega
  .grind
  .grind
  .exact c.rinj i e r h g e1 j
 .refine⟨R2,?_,wa _,k.ish,λ _=>?_⟩
  .show(m.rw.set id R2)[id]?=_;rw[List.getElem?_set_self f]
  .show qag (if id=id then ro else m.r id) (if id=id then vo else m.v id) _ _ y;grind
theorem Rel.others(b:Rel N m E τ tm σ)(g:τ.rw[id]?=some R){rr}(a:m.r id=some rr){id' r}(f:id'≠id)(e:id'<m.rw.length)(d:m.r id'=some r):r≠rr:=λ c=>
 f (b.rinj id' id rr e (by rw[b.rw];exact getElem?_lt g) (c▸d) a)
theorem qAG{β f}:∀{b} {l},zl f b=some l->∀(j:Nat) {e:List AV}{v:β},f e=some v->zl f (b.set j e)=some (l.set j v)
 |[],l,h,j,e,v,a=>by cases h;rfl
 |g::b,l,h,j,e,v,a=>by
   obtain⟨w,vs,d,c,rfl⟩:=je.1 h;cases j with
   |zero=>exact je.2 ⟨v,vs,a,c,rfl⟩
   |succ j=>exact je.2 ⟨w,vs.set j v,d,qAG c j a,rfl⟩
theorem qBn{β f e}{v:β}(h:f e=some v):∀n,zl f (List.replicate n e)=some (List.replicate n v)
 |0=>rfl
 |n+1=>je.2 ⟨v,_,h,qBn h n,rfl⟩
end
end Go.AmZ
