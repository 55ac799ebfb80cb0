/- Part 5 of what the proofs stand on: plain functions of the program, and that they are its functions. -/
import Derived.Test.YtinbdcelmgfniaaGreatDoorM4
import Derived.KernelRfl
import Derived.Test.YtinbdcelmgfniaaGreatDoorM3
import Derived.SliceStrings
import Derived.SizedLaws
set_option linter.unusedVariables false
set_option linter.unusedSimpArgs false
noncomputable section
namespace Go.AmZ
open Go Go.GxZ Go.Lib
theorem qDt(b d:Nat):∀(l:List Nat) (c:Nat),l.foldl (λ a x=>max a (b+x)) (max d (b+c))=max d (b+l.foldl max c)
 |[],c=>rfl
 |x::l,c=>by
   rw[ke,ke,<-qDt b d l (max c x)];congr 1;omega
def qPa(a n d:Nat)(e:Int)(s:Nat)(x:Nat)(r:(Int×Int×Unit)×(Int×Unit)):Prop:=r.2.1=e/\(e=0->r.1.1=((n+s:Nat):Int)/\r.1.2.1=((max d (a+x):Nat):Int))
theorem qMh(t:T):size t<=1000000000->∀c n d:Nat,c+size t<=2000000000->n+size t<=2000000000->d<=2000000000->∃r,Ev (λ m _=>yh m t c n d) r/\qPa c n d (jq t) (size t) (qcz t-1) r:=by
 induction t using T.ind with
 |h t U=>
   intro hs c n d N B aa;have hl:=yC t;have X:=q9 t
   have G:=qv (P:=λ i=>∀n d:Nat,n+((t.kids.drop i).map size).sum<=2000000000->d<=2000000000->∃r,Ev (λ m k=>jK m (yh m) k c t.kids t.kids.length i n d) r/\r.2.1=((t.kids.drop i).map jq).foldl thn 0/\(((t.kids.drop i).map jq).foldl thn 0=0->r.1.1=((n+((t.kids.drop i).map size).sum:Nat):Int)/\r.1.2.1=((((t.kids.drop i).map qcz).foldl (λ a x=>max a (c+x)) d:Nat):Int))) t.kids (by omega)
    (λ J n d _ _=>by
     refine⟨((n,d,()),(0,())),?_,?_,λ _=>⟨?_,?_⟩⟩
     .refine waF ?_;simp only[qpZ,qf3];exact waE J (waA _)
     .simp
     .simp
     .simp)
    (λ i x W Q J hg Z hP n d B I=>by
     have M:=wb W;have q:=jJ t x M;rw[qt1 Q]at B;let⟨r,Y,C,V⟩:=U x M (by omega) (c+1) n d (by omega) (by omega) I
     have l:∀w ,(r.2.1≠0->w=((r.1.1,r.1.2.1,()),(r.2.1,())))->(r.2.1=0->Ev (λ m k=>jK m (yh m) k c t.kids t.kids.length ((i+1:Nat):Int) r.1.1 r.1.2.1) w)->Ev (λ m k=>jK m (yh m) k c t.kids t.kids.length i n d) w:=by
      intro w A u;refine waF ?_;simp only[qpZ,qf3,qk];refine waC J (waB hg ?_);rw[show qi (c:Int) 1=((c+1:Nat):Int) by unfold qi;omega,Qa (by omega),Z];refine way Y ?_;refine waz (λ h=>?_) λ h=>?_
      .rw[bnt,qj]at h;exact waD (A h).symm
      .rw[bnf,ql]at h;exact u h
     rw[Q,wo,wo,wo,kH,QV,ke];by_cases f:jq x=0
     .let⟨S,R⟩:=V f;have O:=qFj x;let⟨w,A,u,g3⟩:=hP (n+size x) (max d (c+1+(qcz x-1))) (by omega) (by omega);refine⟨w,l w (λ h=>absurd (C.trans f) h) (λ _=>by rw[S,R];exact A),by rw[f];exact u,λ o=>?_⟩;rw[f]at o;let⟨F,E⟩:=g3 o;refine⟨by rw[F];congr 1;omega,?_⟩;rw[E];have:qcz x ≥ 1:=by rw[qkw];omega
      rw[show max d (c+1+(qcz x-1))=max d (c+qcz x) by omega]
     .refine⟨((r.1.1,r.1.2.1,()),(r.2.1,())),l _ (λ _=>rfl) (λ h=>absurd (C.symm.trans h) f),?_,λ o=>?_⟩
      .rw[qT _ f];exact C
      .rw[qT _ f]at o;exact absurd o f)
   have start:∀r,(yU t≠0->r=((((n+1:Nat):Int),((max d c:Nat):Int),()),(yU t,())))->(yU t=0->Ev (λ m _=>jK m (yh m) m c t.kids t.kids.length 0 ((n+1:Nat):Int) ((max d c:Nat):Int)) r)->Ev (λ m _=>yh m t c n d) r:=by
    intro r A u;refine waG ?_;simp only[qBI,qfU];rw[show qi (n:Int) 1=((n+1:Nat):Int) by unfold qi;omega,Qa (by omega),qBS]
    have g:∀e,yU t=e->e≠0->Ev (λ _ _=>some ((((n+1:Nat):Int),((max d c:Nat):Int),()),(e,()))) r:=by
     intro e C h;refine waD ?_;subst C;exact(A h).symm
    have nm:(t.kind=3\/t.kids.length=0)->(∀b,yN t.name=b->(if b then(if 8<t.kids.length then 3 else 0)else 2)=yU t)->Ev (λ m _=>qb (qdB m t.name) λ v=>cond (qe v) (some ((((n+1:Nat):Int),((max d c:Nat):Int),()),(2,()))) (cond (ilt 8 (t.kids.length:Int)) (some ((((n+1:Nat):Int),((max d c:Nat):Int),()),(3,()))) (jK m (yh m) m c t.kids t.kids.length 0 ((n+1:Nat):Int) ((max d c:Nat):Int)))) r:=by
     intro _ h;have h:=h _ rfl;refine way (qG6 _) ?_;cases B:yN t.name with
     |false=>rw[B]at h;exact waC rfl (g 2 h.symm (by decide))
     |true=>
       rw[B,if_pos rfl]at h;refine waE rfl ?_;refine waz (λ j=>?_) λ j=>?_
       .rw[qz]at j;rw[if_pos (by omega)]at h;exact g 3 h.symm (by decide)
       .rw[qA]at j;rw[if_neg (by omega)]at h;exact u h.symm
    have y:∀k,t.kind=k->(k=1\/k=2)->yU t=if t.sort<0\/5<t.sort\/0<t.kids.length then 1 else if yN t.name then 0 else 2:=by
     intro k H h;unfold yU qf1;rw[H,if_pos h]
    have s:∀k,t.kind=k->(k=1\/k=2)->Ev (λ m _=>cond (ilt t.sort 0) (some ((((n+1:Nat):Int),((max d c:Nat):Int),()),(1,()))) (cond (ilt 5 t.sort) (some ((((n+1:Nat):Int),((max d c:Nat):Int),()),(1,()))) (cond (ilt 0 (t.kids.length:Int)) (some ((((n+1:Nat):Int),((max d c:Nat):Int),()),(1,()))) (qb (qdB m t.name) λ v=>cond (qe v) (some ((((n+1:Nat):Int),((max d c:Nat):Int),()),(2,()))) (cond (ilt 8 (t.kids.length:Int)) (some ((((n+1:Nat):Int),((max d c:Nat):Int),()),(3,()))) (jK m (yh m) m c t.kids t.kids.length 0 ((n+1:Nat):Int) ((max d c:Nat):Int))))))) r:=by
     intro k H h;have p:=y k H h;refine waz (λ j=>?_) λ j=>?_
     .rw[qz]at j;exact g 1 (by rw[p,if_pos (.inl j)]) (by decide)
     rw[qA]at j;refine waz (λ q=>?_) λ q=>?_
     .rw[qz]at q;exact g 1 (by rw[p,if_pos (.inr (.inl q))]) (by decide)
     rw[qA]at q;refine waz (λ z=>?_) λ z=>?_
     .rw[qz]at z;exact g 1 (by rw[p,if_pos (.inr (.inr (by omega)))]) (by decide)
     rw[qA]at z;rw[if_neg (by omega)]at p;refine nm (.inr (by omega)) λ b K=>?_;rw[p,K,if_neg (show ¬ 8<t.kids.length by omega)]
    by_cases q:t.kind=1
    .exact waC (ql.2 q) (s 1 q (.inl rfl))
    refine waE (qj.2 q) ?_;by_cases z:t.kind=2
    .exact waC (ql.2 z) (s 2 z (.inr rfl))
    refine waE (qj.2 z) ?_;by_cases D:t.kind=3
    .refine waC (ql.2 D) ?_
     have p:yU t=if t.sort≠0 then 1 else if yN t.name then(if 8<t.kids.length then 3 else 0)else 2:=by
      unfold yU qf1;rw[if_neg (by omega),if_pos D]
     refine waz (λ j=>?_) λ j=>?_
     .rw[bnt,qj]at j;exact g 1 (by rw[p,if_pos j]) (by decide)
     rw[bnf,ql]at j;rw[if_neg (by omega)]at p;exact nm (.inl D) λ b K=>by rw[p,K]
    .refine waE (qj.2 D) ?_;refine g 1 ?_ (by decide);unfold yU qf1;rw[if_neg (by omega),if_neg D]
   rw[qi2];by_cases f:yU t=0
   .rw[f];let⟨r,A,u,g3⟩:=G 0 (we _) (n+1) (max d c) (by rw[wP];omega) (by omega);rw[wP]at u g3;refine⟨r,start r (λ h=>absurd f h) (λ _=>waH (L:=λ m k=>jK m (yh m) k c t.kids t.kids.length 0 ((n+1:Nat):Int) ((max d c:Nat):Int)) A),u,λ o=>?_⟩;let⟨F,E⟩:=g3 o;refine⟨by rw[F];congr 1;omega,?_⟩;rw[E,show max d c=max d (c+0) by omega,qDt,qkw,xW]
   .refine⟨_,start _ (λ _=>rfl) (λ h=>absurd h f),?_,λ o=>?_⟩
    .rw[qT _ f]
    .rw[qT _ f]at o;exact absurd o f
theorem qcU(t:T)(c:size t<=1000000000):Ev (λ m _=>zi m t) (qP t):=by
 refine waG ?_;simp only[qCH,qjz,qk];unfold qP;let⟨r,f,e,d⟩:=qMh t c 1 0 0 (by omega) (by omega) (by omega);refine way f ?_;rw[e];refine waz (λ h=>?_) λ h=>?_
 .rw[bnt,qj]at h;exact waD (by rw[if_pos h])
 rw[bnf,ql]at h;let⟨b,a⟩:=d h;have g:qcz t ≥ 1:=by rw[qkw];omega
 rw[if_neg (by omega),b,a];refine waz (λ h=>?_) λ h=>?_
 .rw[qz]at h;exact waD (by rw[if_pos (.inl (by omega))])
 rw[qA]at h;refine waz (λ h=>?_) λ h=>?_
 .rw[qz]at h;exact waD (by rw[if_pos (.inr (by omega))])
 .rw[qA]at h;exact waD (by rw[if_neg (by omega)])
theorem qt0(t:T):size t<=1000000000->Ev (λ m _=>jF m t) t:=by
 induction t using T.ind with
 |h t e=>
   intro l;refine waG ?_;simp only[qDX,qgf];have n:=yC t
   have a:=qv (P:=λ i=>Ev (λ m k=>qaM m (jF m) k t.kids t.kids.length i t.kind t.name t.sort 0 [] 0 (t.kids.take i) []) t) t.kids (by omega)
    (λ b=>by
     refine waF ?_;simp only[qpY,qf0];refine waE b ?_;rw[wG];exact waD (qk t))
    (λ i x c o b g f j=>by
     refine waF ?_;simp only[qpY,qf0,qk];have d:=wb c;have p:=jJ t x d;refine waC b (waB g (way (e x d (by omega)) (waC (zg ?_ (by omega)) ?_)))
     .have:(t.kids.take i).length<=t.kids.length:=by rw[wm];omega
      omega
     .rw[f];refine j.congr λ m k=>?_;rw[kC,c];rfl)
   refine waH (L:=λ m k=>qaM m (jF m) k t.kids t.kids.length 0 t.kind t.name t.sort 0 [] 0 [] []) ?_;exact a 0 (we _)
def qrr:T->Prop:=T.para λ t a=>t.kids.length<2^62/\t.name.length<2^62/\∀p∈a,p
theorem qFy(t:T):qrr t↔t.kids.length<2^62/\t.name.length<2^62/\∀k∈t.kids,qrr k:=by
 unfold qrr;rw[T.para_eq];exact⟨λ⟨a,b,c⟩=>⟨a,b,λ k d=>c _ (kY d)⟩,λ⟨a,b,c⟩=>⟨a,b,λ p e=>by obtain⟨k,d,rfl⟩:=wA.1 e;exact c k d⟩⟩
theorem qMF{l:List T}{a:Int}(c:0<=a)(h:qoS l a=true):∀t∈l,(size t:Int)<=a:=λ t b=>by
 have e:=qzG l a c h;have d:=qj8 l t b;omega
end Go.AmZ
namespace Go.AmZ
open Go Go.GxZ Go.Lib
theorem qKf(t:T):qrr t->∀a:Int,-1000000000<=a->a<=1000000000->Ev (λ m _=>jk m t a) (qbn t a):=by
 induction t using T.ind with
 |h t j=>
   intro p a d c;let⟨u,v,s⟩:=(qFy t).1 p;refine waG ?_;simp only[qyV,qd5];rw[qFt];refine waz (λ h=>?_) λ h=>?_
   .rw[qhG]at h;exact waD (by rw[if_pos (.inl h)])
   rw[qiT]at h;refine waz (λ f=>?_) λ f=>?_
   .rw[qz]at f;exact waD (by rw[if_pos (.inr (by omega))])
   rw[qA]at f;rw[if_neg (by omega),show yk a 1=a-1 from rfl,Qa (by omega)]
   have b:=qv (P:=λ i=>∀a:Int,0<=a->a<=1000000000->Ev (λ m k=>JE m (jk m) k a i t.kind t.name t.sort t.kids) (qkL ((t.kids.drop i).map qbn) a)) t.kids u
    (λ e a _ _=>by
     refine waF ?_;simp only[qmr,qeb];refine waE e ?_;rw[wV];exact waA _)
    (λ i x l q e o n r a d c=>by
     refine waF ?_;simp only[qmr,qeb,qk];have g:=wb l;refine waC e (waB o (way (j x g (s x g) a (by omega) (by omega)) ?_));rw[q,wo,qkL,n];have:=qsf x a;refine waz (λ h=>?_) λ h=>?_
     .rw[qz]at h;exact waD (by rw[if_pos h])
     .rw[qA]at h;rw[if_neg (by omega)];exact r _ (by omega) (by omega))
   refine waH (L:=λ m k=>JE m (jk m) k (a-1) 0 t.kind t.name t.sort t.kids) ?_;exact(b 0 (we _) (a-1) (by omega) (by omega)).res (by rw[wP])
theorem qQy(l:List T)(j:l.length<2^62)(q:∀t∈l,qrr t)(n:Nat)(a:Int)(c:0<=a)(b:a<=1000000000):Ev (λ m _=>ql9 m l n a) (decide (l.length<=n)&&qoS l a):=by
 refine waG ?_;simp only[qEM,qhy];refine waz (λ h=>?_) λ h=>?_
 .rw[qz]at h;exact waD (by rw[decide_eq_false (by omega)];rfl)
 rw[qA]at h;rw[decide_eq_true (by omega),kg]
 have d:=qv (P:=λ i=>∀a:Int,0<=a->a<=1000000000->Ev (λ m k=>qbY m k l a i) (qoS (l.drop i) a)) l j
  (λ e a _ _=>by
   refine waF ?_;simp only[qrf,qhd];refine waE e ?_;rw[wV];exact waA _)
  (λ i x f r e p o s a c b=>by
   refine waF ?_;simp only[qrf,qhd,qk];have g:=wb f;refine waC e (waB p (way (qKf x (q x g) a (by omega) (by omega)) ?_));rw[r,qoS,o];have:=qsf x a;refine waz (λ h=>?_) λ h=>?_
   .rw[qz]at h;exact waD (by rw[if_pos h])
   .rw[qA]at h;rw[if_neg (by omega)];exact s _ (by omega) (by omega))
 refine waH (L:=λ m k=>qbY m k l a 0) ?_;exact(d 0 (we _) a c b).res (by rw[wP])
end Go.AmZ
namespace Go.GxZ
def qvw(t:T):Int:=if(qD t.name).2.2=0 then 10 else if qnf jQ t.name t.kids.length=false then 6 else if(qD t.name).2.2=2/\qkv t=false then 10 else 0
theorem qwF(n:List UInt8):(jQ.find? λ r=>r.1==n)=none\/∃r∈jQ,r.1=n/\(jQ.find? λ r=>r.1==n)=some r:=by
 cases h:jQ.find? λ r=>r.1==n with
 |none=>exact .inl rfl
 |some r=>exact .inr ⟨r,List.mem_of_find?_eq_some h,by simpa using List.find?_some h,rfl⟩
theorem qvM{n:List UInt8}(h:(jQ.find? λ r=>r.1==n)=none):qD n=(0,0,0):=by unfold qD;rw[h];rfl
theorem qoT{n:List UInt8}{r:List UInt8×Int×Int×Int}(h:(jQ.find? λ r=>r.1==n)=some r):qD n=r.2:=by unfold qD;rw[h];rfl
def qNf(r:List UInt8×Int×Int×Int):Bool:=
 decide (r.2.2.2≠0)&&decide (0<=r.2.1)&&decide (r.2.2.1<=8)&&(decide (r.2.2.2=2)==(r.1==qhK||r.1==nSk||r.1==qt5))&&(decide (r.2.2.2=2)==decide (r.2.2.2=2/\1<=r.2.1))&&(decide (r.2.2.2=3)==(r.1==qL4||r.1==qyn||r.1==qNa||r.1==qHF||r.1==qGZ||r.1==qHq))
theorem qOI:jQ.all qNf=true:=by decide
theorem qwX{n:List UInt8}(h:(qD n).2.2≠0):qMv jQ n=true/\qyf jQ n=qD n/\0<=(qD n).1/\(qD n).2.1<=8/\((qD n).2.2=2↔n=qhK\/n=nSk\/n=qt5)/\((qD n).2.2=2->1<=(qD n).1)/\((qD n).2.2=3↔isD n=true):=by
 obtain b|⟨r,d,g,b⟩:=qwF n
 .rw[qvM b]at h;exact absurd rfl h
 .have c:=wv.1 qOI r d;subst g;rw[qoT b];unfold qNf at c;simp only[wc,beq_iff_eq,decide_eq_true_eq]at c;let⟨⟨⟨⟨⟨l,k⟩,j⟩,a⟩,f⟩,i⟩:=c;refine⟨vO.2 ⟨r,d,by simp⟩,qoT b,k,j,?_,?_,?_⟩
  .constructor
   .intro h;rw[decide_eq_true h]at a;have:=a.symm;simp only[wU,beq_iff_eq]at this;exact or_assoc.1 this
   .intro h;by_cases e:r.2.2.2=2
    .exact e
    .rw[decide_eq_false e]at a;have:=a.symm;simp only[xq,beq_eq_false_iff_ne]at this;obtain h|h|h:=h
     .exact absurd h this.1.1
     .exact absurd h this.1.2
     .exact absurd h this.2
  .intro h;rw[decide_eq_true h]at f;have:=of_decide_eq_true f.symm;exact this.2
  .unfold isD;rw[<-i];simp
theorem qM9(t:T)(n:t.kind=3):qvw t=qcw t:=by
 unfold qvw qcw;rw[if_neg (show ¬ (t.kind≠3)from λ h=>h n)];by_cases b:(qD t.name).2.2=0
 .rw[if_pos b,if_pos b]
 .rw[if_neg b,if_neg b];let⟨j,i,r,q,g,p,o⟩:=qwX b
  have e1:qnf jQ t.name t.kids.length=(decide ((qD t.name).1<=(t.kids.length:Int))&&decide ((t.kids.length:Int)<=(qD t.name).2.1)):=by
   unfold qnf;rw[j,i,kg]
  rw[e1];by_cases e:(t.kids.length:Int)<(qD t.name).1\/(qD t.name).2.1<(t.kids.length:Int)
  .rw[if_pos e,if_pos];rw[ve,decide_eq_false_iff_not,decide_eq_false_iff_not];omega
  .rw[if_neg e,if_neg]
   .have f:(qD t.name).2.2=2/\qkv t=false↔qaz t=true:=by
      rw[g];unfold qkv qaz;by_cases a:t.name=qhK
      .rw[if_pos a,if_pos a];simp[a]
      .rw[if_neg a,if_neg a];by_cases c:t.name=nSk\/t.name=qt5
       .rw[if_pos c]
        have:agB t.kids = !(t.kids.any λ k=>decide (k.kind=3)||decide (k.sort≠1)):=by
         unfold agB;generalize t.kids=l
         induction l with
         |nil=>rfl
         |cons x l m=>simp only[km,wac,m,Bool.not_or];congr 1;congr 1;by_cases h:x.sort=1<;>simp[bne,h]
        rw[this];simp[c]
       .rw[if_neg c];constructor
        .rintro⟨h,_⟩;obtain h|h:=h
         .exact absurd h a
         .exact absurd h c
        .intro h;cases h
    by_cases d:qaz t=true
    .rw[if_pos d,if_pos (f.2 d)]
    .rw[if_neg d,if_neg (λ h=>d (f.1 h))]
   .rw[ve,decide_eq_false_iff_not,decide_eq_false_iff_not];omega
theorem qaG{t:T}(e:t.kind=3)(h:zo t=0):qcw t=0/\(∀k∈t.kids,zo k=0):=by
 rw[qn2,if_neg (show ¬ (t.kind≠3)from λ h=>h e)]at h;by_cases c:qcw t=0
 .refine⟨c,?_⟩;rw[c]at h;generalize t.kids=l at*
  induction l with
  |nil=>intro k a;cases a
  |cons x l d=>
    rw[wo,QV]at h;by_cases b:zo x=0
    .rw[b]at h;intro k a;obtain rfl|a:=wx.1 a
     .exact b
     .exact d h k a
    .rw[qT _ b]at h;exact absurd h b
 .rw[qT _ c]at h;exact absurd h c
end Go.GxZ
namespace Go.AmZ
open Go Go.GxZ Go.Lib
theorem qkb(t:T)(n:List UInt8):Ev (λ m _=>jw m t n) (isN t n):=by
 refine waG ?_;simp only[qEH,qlI];unfold isN;refine waz (λ h=>?_) λ h=>?_
 .rw[ql]at h;exact waD (by rw[h];rfl)
 .rw[qj]at h;exact waD (by rw[show(t.kind==3)=false from beq_eq_false_iff_ne.2 h];rfl)
theorem qlr(t:T)(n:List UInt8):Ev (λ m _=>qbW m t n) (isN t n):=by
 refine waG ?_;simp only[qHm,qnb];unfold isN;refine waz (λ h=>?_) λ h=>?_
 .rw[ql]at h;exact waD (by rw[h];rfl)
 .rw[qj]at h;exact waD (by rw[show(t.kind==3)=false from beq_eq_false_iff_ne.2 h];rfl)
theorem qO6(n:List UInt8)(l:List T):Ev (λ m _=>qhN m n l) (apT n l):=waG (waA _)
theorem qeY(n:List UInt8)(l:List T)(a:l.length<=1000000000):Ev (λ m _=>yF m n l) (apT n l):=by
 refine waG ?_;simp only[qED,qkY];refine waC (zg (by simp;omega) (by omega)) ?_;refine Ev.case (λ h=>?_) λ x t h=>?_
 .subst h;exact waA _
 .subst h;exact waA _
def qLR(n:List UInt8):List UInt8×Int×Int×Int:=(jQ.find? λ r=>r.1==n).getD ([],0,0,0)
theorem quG(n:List UInt8):(qLR n).2=qD n:=by
 unfold qLR qD;cases jQ.find? λ r=>r.1==n<;>rfl
theorem qzq(n:List UInt8):Ev (λ m _=>qbu m n) (qLR n):=by
 refine waG ?_;simp only[qwL,qc3];refine way (a:=jQ) (waA _) ?_
 have b:=qv (P:=λ i=>Ev (λ m k=>Q7 m k n jQ jQ.length i [] 0 0 0) (((jQ.drop i).find? λ r=>r.1==n).getD ([],0,0,0))) jQ (by decide)
  (λ c=>by
   refine waF ?_;simp only[qlx,qcY];refine waE c ?_;exact waA _)
  (λ i x j f c e d g=>by
   refine waF ?_;simp only[qlx,qcY];refine waC c (waB e ?_);rw[f,List.find?_cons,d];refine waz (λ h=>?_) λ h=>?_
   .exact waD (by rw[show(x.1==n)=true from h];rfl)
   .rw[show(x.1==n)=false from h];exact g)
 refine waH (L:=λ m k=>Q7 m k n jQ jQ.length 0 [] 0 0 0) ?_;exact b 0 (we _)
theorem qoE{t:T}(c:t.kind=3)(h:qcw t=0):(qD t.name).2.2≠0/\(qD t.name).1<=(t.kids.length:Int)/\(t.kids.length:Int)<=(qD t.name).2.1/\qaz t=false:=by
 unfold qcw at h;rw[if_neg (show ¬ t.kind≠3 from λ a=>a c)]at h;split at h
 .omega
 rename_i d;split at h
 .omega
 rename_i e;split at h
 .omega
 rename_i b;exact⟨d,by omega,by omega,by simpa using b⟩
theorem qxD{t:T}{i:Nat}(h:i<t.kids.length):qf t.kids (i:Int)=some (kid t i):=by
 rw[jo];unfold kid;rw[List.getD_eq_getElem?_getD,List.getElem?_eq_getElem h];rfl
theorem qec{t:T}(h:0<t.kids.length):qf t.kids 0=some (kid t 0):=qxD (i:=0) h
theorem qsv{t:T}(h:1<t.kids.length):qf t.kids 1=some (kid t 1):=qxD (i:=1) h
theorem qFB{t:T}{i:Nat}(h:i<t.kids.length):kid t i∈t.kids:=by
 unfold kid;rw[List.getD_eq_getElem?_getD,List.getElem?_eq_getElem h];exact wX h
theorem yS{t:T}{n:List UInt8}:isN t n=true↔t.kind=3/\t.name=n:=by
 unfold isN;rw[wc,beq_iff_eq,beq_iff_eq]
theorem qJ7(t:T):size t<=1000000000->Ev (λ m _=>qF m t) (zo t):=by
 induction t using T.ind with
 |h t E=>
   intro F;refine waG ?_;simp only[qxZ,qdW];have G:=yC t;rw[qn2];refine waz (λ h=>?_) λ z=>?_
   .rw[bnt,qj]at h;exact waD (by rw[if_pos h])
   rw[bnf,ql]at z;rw[if_neg (show ¬ t.kind≠3 from λ c=>c z)]
   have C:=qv (P:=λ i=>Ev (λ m k=>(qZ m (qF m) k).2 t.kids t.kids.length i) (((t.kids.drop i).map zo).foldl thn 0)) t.kids (by omega)
    (λ f=>by
     refine waF ?_;simp only[qmz,qdP];refine waE f ?_;exact waD (by simp))
    (λ i x A w f v u y=>by
     refine waF ?_;simp only[qmz,qdP,qk];have B:=wb A;have l:=jJ t x B;refine waC f (waB v (way (E x B (by omega)) ?_));rw[w,wo,QV,u];refine waz (λ h=>?_) λ h=>?_
     .rw[bnt,qj]at h;exact waD (by rw[qT _ h])
     .rw[bnf,ql]at h;rw[h];exact y)
   have n:Ev (λ m k=>(qZ m (qF m) k).2 t.kids t.kids.length 0) ((t.kids.map zo).foldl thn 0):=(C 0 (we _)).res (by rw[wP])
   have D:=qv (P:=λ i=>Ev (λ m k=>(qZ m (qF m) k).1 t.kids t.kids.length i t.kind t.name t.sort t.kids) (if(t.kids.drop i).any (λ k=>decide (k.kind=3)||decide (k.sort≠1))=true then 10 else(t.kids.map zo).foldl thn 0)) t.kids (by omega)
    (λ f=>by
     refine waF ?_;simp only[qm2,qd1];refine waE f ?_;refine n.res ?_;rw[wV];rfl)
    (λ i x A w f v u y=>by
     refine waF ?_;simp only[qm2,qd1,qk];refine waC f (waB v ?_);rw[w,wac,u];refine waz (λ h=>?_) λ h=>?_
     .rw[ql]at h;exact waD (by rw[decide_eq_true h];rfl)
     rw[qj]at h;rw[decide_eq_false h];refine waz (λ q=>?_) λ q=>?_
     .rw[bnt,qj]at q;exact waD (by rw[decide_eq_true q];rfl)
     .rw[bnf,ql]at q;rw[decide_eq_false (λ c=>c q)];exact y)
   have d:qcw t=0->Ev (λ m _=>(qZ m (qF m) m).2 t.kids t.kids.length 0) ((t.kids.map zo).foldl thn (qcw t)):=λ h=>by
    rw[h];exact waH (L:=λ m k=>(qZ m (qF m) k).2 t.kids t.kids.length 0) n
   have e:qaz t=t.kids.any (λ k=>decide (k.kind=3)||decide (k.sort≠1))->qcw t=(if qaz t=true then 10 else 0)->Ev (λ m _=>(qZ m (qF m) m).1 t.kids t.kids.length 0 t.kind t.name t.sort t.kids) ((t.kids.map zo).foldl thn (qcw t)):=λ r h=>by
    refine(waH (L:=λ m k=>(qZ m (qF m) k).1 t.kids t.kids.length 0 t.kind t.name t.sort t.kids) (D 0 (we _))).res ?_;rw[wP,<-r,h];split
    .rw[qT _ (by decide)]
    .rfl
   refine way (qzq t.name) ?_;rw[quG]
   have a:qcw t=if(qD t.name).2.2=0 then 10 else if(t.kids.length:Int)<(qD t.name).1\/(qD t.name).2.1<(t.kids.length:Int)then 6 else if qaz t=true then 10 else 0:=by
    unfold qcw;rw[if_neg (show ¬ t.kind≠3 from λ c=>c z)]
   refine waz (λ h=>?_) λ h=>?_
   .rw[ql]at h;rw[if_pos h]at a;exact waD (by rw[a,qT _ (by decide)])
   rw[qj]at h;rw[if_neg h]at a;refine waz (λ l=>?_) λ l=>?_
   .rw[qz]at l;rw[if_pos (.inl l)]at a;exact waD (by rw[a,qT _ (by decide)])
   rw[qA]at l;refine waz (λ s=>?_) λ s=>?_
   .rw[qz]at s;rw[if_pos (.inr s)]at a;exact waD (by rw[a,qT _ (by decide)])
   rw[qA]at s;rw[if_neg (by omega)]at a;refine waz (λ p=>?_) λ p=>?_
   .rw[jd]at p;refine e ?_ a;unfold qaz;rw[p,if_neg (by decide),if_pos (.inl rfl)]
   rw[Qg]at p;refine waz (λ b=>?_) λ b=>?_
   .rw[jd]at b;refine e ?_ a;unfold qaz;rw[b,if_neg (by decide),if_pos (.inr rfl)]
   rw[Qg]at b;refine waz (λ j=>?_) λ j=>?_
   .rw[jd]at j
    have o:0<t.kids.length:=by
     rw[j,show(qD [110,101,119]).1=1 from by decide]at l;omega
    refine waB (qec o) ?_
    have r:qaz t=decide ((kid t 0).kind≠2):=by
     unfold qaz;rw[if_pos (show t.name=qhK from j)]
    refine waz (λ c=>?_) λ c=>?_
    .rw[bnt,qj]at c;rw[r,decide_eq_true c,if_pos rfl]at a;exact waD (by rw[a,qT _ (by decide)])
    .rw[bnf,ql]at c;rw[r,decide_eq_false (λ g=>g c)]at a;exact d a
   .rw[Qg]at j;refine d ?_
    have:qaz t=false:=by
     unfold qaz;rw[if_neg (show ¬ t.name=qhK from j),if_neg (λ h=>h.elim p b)]
    rw[this]at a;exact a
theorem qFM(t:T)(a:size t<=1000000000):Ev (λ m _=>qaZ m t) (qcF t):=by
 refine waG ?_;simp only[qys,qhe,qk];unfold qcF;refine way (qcU t a) ?_;refine waz (λ h=>?_) λ h=>?_
 .rw[bnt,qj]at h;exact waD (by rw[QR h])
 .rw[bnf,ql]at h;rw[h];exact way (qJ7 t a) (waA _)
theorem qyG(n:List UInt8):Ev (λ m _=>qe8 m n) (qD n).2.2:=by
 refine waG ?_;simp only[qBG,qfV];refine way (a:=jQ) (waG (waA _)) ?_
 have b:=qv (P:=λ i=>Ev (λ m k=>qaX m k n jQ i) (((jQ.drop i).find? λ r=>r.1==n).getD ([],0,0,0)).2.2.2) jQ (by decide)
  (λ c=>by
   refine waF ?_;simp only[qqd,qfY];refine waE c ?_;exact waA _)
  (λ i x j f c d e g=>by
   refine waF ?_;simp only[qqd,qfY];refine waC c (waB d ?_);rw[f,List.find?_cons,e];refine waz (λ h=>?_) λ h=>?_
   .refine waB d (waD ?_);rw[show(x.1==n)=true from h];rfl
   .rw[show(x.1==n)=false from h];exact g)
 refine waH (L:=λ m k=>qaX m k n jQ 0) ?_;exact(b 0 (we _)).res (by rw[<-quG];rfl)
theorem qNs(t:T):Ev (λ m _=>qkq m t) (qnf jQ t.name t.kids.length):=by
 refine waG ?_;simp only[qCf,qgd];refine way (a:=jQ) (waG (waA _)) ?_
 have c:=qv (P:=λ i=>Ev (λ m k=>qa0 m k jQ i t.kind t.name t.sort t.kids) (qnf (jQ.drop i) t.name t.kids.length)) jQ (by decide)
  (λ e=>by
   refine waF ?_;simp only[qp2,qga];refine waE e ?_;exact waA _)
  (λ i x l g e d f j=>by
   refine waF ?_;simp only[qp2,qga];refine waC e (waB d ?_);rw[g,qJH,f];refine waz (λ h=>?_) λ h=>?_
   .rw[if_pos (show(x.1==t.name)=true from h)];refine waB d ?_;refine waz (λ b=>?_) λ b=>?_
    .rw[qhG]at b;refine waB d (waD ?_);rw[decide_eq_true b];rfl
    .rw[qiT]at b;exact waD (by rw[decide_eq_false (by omega)];rfl)
   .rw[if_neg (by rw[show(x.1==t.name)=false from h];decide)];exact j)
 refine waH (L:=λ m k=>qa0 m k jQ 0 t.kind t.name t.sort t.kids) ?_;exact c 0 (we _)
theorem qJd(t:T)(f:t.kids.length<2^62)(a:t.name=qhK->0<t.kids.length):Ev (λ m _=>qg9 m t) (qkv t):=by
 refine waG ?_;simp only[qxQ,qdN];unfold qkv;refine waz (λ h=>?_) λ h=>?_
 .rw[jd]at h;rw[if_pos (show t.name=qhK from h)];refine waB (qec (a h)) (waA _)
 rw[Qg]at h;rw[if_neg (show ¬ t.name=qhK from h)]
 have c:=qv (P:=λ i=>Ev (λ m k=>JB m k i t.kind t.name t.sort t.kids) (agB (t.kids.drop i))) t.kids f
  (λ d=>by
   refine waF ?_;simp only[qms,qd6];refine waE d ?_;exact waD (by rw[wV];rfl))
  (λ i x n j d e g l=>by
   refine waF ?_;simp only[qms,qd6];refine waC d (waB e ?_);rw[j,qMa,g];refine waz (λ h=>?_) λ h=>?_
   .exact waD (by rw[show(x.kind==3)=true from h];rfl)
   rw[show(x.kind==3)=false from h];refine waB e ?_;refine waz (λ b=>?_) λ b=>?_
   .rw[bnt,qj]at b;exact waD (by rw[show(x.sort != 1)=true from bne_iff_ne.2 b];rfl)
   .rw[bnf,ql]at b;rw[show(x.sort != 1)=false by rw[b];rfl];exact l)
 refine waH (L:=λ m k=>JB m k 0 t.kind t.name t.sort t.kids) ?_;exact(c 0 (we _)).res (by rw[wP])
theorem qIW(t:T):size t<=1000000000->Ev (λ m _=>jv m t) (zo t):=by
 induction t using T.ind with
 |h t o=>
   intro C;refine waG ?_;simp only[qAX,qe6,qk];have E:=yC t;rw[qn2];refine waz (λ h=>?_) λ f=>?_
   .rw[bnt,qj]at h;exact waD (by rw[if_pos h])
   rw[bnf,ql]at f;rw[if_neg (show ¬ t.kind≠3 from λ r=>r f),<-qM9 t f]
   have c:=qv (P:=λ i=>Ev (λ m k=>Jl m (jv m) k i t.kind t.name t.sort t.kids) (((t.kids.drop i).map zo).foldl thn 0)) t.kids (by omega)
    (λ e=>by
     refine waF ?_;simp only[qnI,qeS];refine waE e ?_;exact waD (by simp))
    (λ i x p u e s q w=>by
     refine waF ?_;simp only[qnI,qeS,qk];have g:=wb p;have G:=jJ t x g;refine waC e (waB s (way (o x g (by omega)) ?_));rw[u,wo,QV,q];refine waz (λ h=>?_) λ h=>?_
     .rw[bnt,qj]at h;exact waD (by rw[qT _ h])
     .rw[bnf,ql]at h;rw[h];exact w)
   have a:qvw t=0->Ev (λ m _=>Jl m (jv m) m 0 t.kind t.name t.sort t.kids) ((t.kids.map zo).foldl thn (qvw t)):=λ h=>by
    rw[h];exact(waH (L:=λ m k=>Jl m (jv m) k 0 t.kind t.name t.sort t.kids) (c 0 (we _))).res (by rw[wP])
   unfold qvw at a |-
   refine way (qyG t.name) ?_;refine waz (λ h=>?_) λ h=>?_
   .rw[ql]at h;rw[if_pos h];exact waD (by rw[qT _ (by decide)])
   rw[qj]at h;rw[if_neg h]at a |-
   refine way (qNs t) ?_;cases d:qnf jQ t.name t.kids.length with
   |false=>
     refine waC rfl ?_;rw[if_pos rfl];exact waD (by rw[qT _ (by decide)])
   |true=>
     rw[d,if_neg (by decide)]at a;rw[if_neg (by decide)];refine waE rfl ?_;refine waz (λ b=>?_) λ b=>?_
     .rw[ql]at b;refine way (qJd t (by omega) λ D=>?_) ?_
      .let⟨n,l,B,A,z,j,y⟩:=qwX h;have F:=j b;unfold qnf at d;rw[n,l,kg,wc,decide_eq_true_iff]at d;omega
      cases v:qkv t with
      |false=>
        refine waC rfl ?_;rw[if_pos ⟨b,rfl⟩];exact waD (by rw[qT _ (by decide)])
      |true=>
        rw[v,if_neg (by rintro⟨_,h⟩;cases h)]at a;rw[if_neg (by rintro⟨_,h⟩;cases h)];exact waE rfl (a rfl)
     .rw[qj]at b;rw[if_neg (by rintro⟨h,_⟩;exact b h)]at a |-
      exact a rfl
theorem qFC(t:T)(a:size t<=1000000000):Ev (λ m _=>qfK m t) (qcF t):=by
 refine waG ?_;simp only[qAu,qit,qk];unfold qcF;refine way (qcV t a) ?_;refine waz (λ h=>?_) λ h=>?_
 .rw[bnt,qj]at h;exact waD (by rw[QR h])
 .rw[bnf,ql]at h;rw[h];exact way (qIW t a) (waA _)
end Go.AmZ
namespace Go.GxZ
def Asc(l:List T):Prop:=l.Pairwise λ a b=>qs a b=-1
theorem yB{a:T}:qs a a≠-1:=by rw[qrc];decide
theorem qxz{a b:T}:qs a b=1↔qs b a=-1:=by
 have:=yg.anti a b;omega
theorem qe7{a b c:T}(e:qs a b=-1)(d:qs b c=-1):qs a c=-1:=yg.trans a b c e d
theorem qaK{x:T}{l:List T}:Asc (x::l)↔(∀y∈l,qs x y=-1)/\Asc l:=List.pairwise_cons
theorem qGz:∀(l m:List T),Asc l->Asc m->(∀x,x∈l↔x∈m)->l=m
 |[],[],_,_,_=>rfl
 |[],y::m,_,_,h=>absurd ((h y).2 (wh ..)) (by simp)
 |x::l,[],_,_,h=>absurd ((h x).1 (wh ..)) (by simp)
 |x::l,y::m,n,k,h=>by
   let⟨c,i⟩:=qaK.1 n;let⟨b,g⟩:=qaK.1 k;have f:=(h x).1 (wh ..);have d:=(h y).2 (wh ..)
   have e:x=y:=by
    obtain e|f:=wx.1 f
    .exact e
    obtain e|d:=wx.1 d
    .exact e.symm
    exact absurd (qe7 (c y d) (b x f)) yB
   subst e;rw[qGz l m i g λ z=>?_];constructor
   .intro a;obtain e|j:=wx.1 ((h z).1 (wg _ a))
    .subst e;exact absurd (c z a) yB
    .exact j
   .intro a;obtain e|j:=wx.1 ((h z).2 (wg _ a))
    .subst e;exact absurd (b z a) yB
    .exact j
theorem qws(n:Nat):∀(a b:List T),a.length+b.length<=n->Asc a->Asc b->Asc (zu a b)/\(∀x,x∈zu a b↔¬(x∈a↔x∈b)):=by
 induction n with
 |zero=>
   intro a b h _ _;obtain rfl:a=[]:=kE.1 (by omega);obtain rfl:b=[]:=kE.1 (by omega);rw[zu];exact⟨List.Pairwise.nil,by simp⟩
 |succ n p=>
   intro a b h u t
   match a,b with
   |[],b=>rw[zu];exact⟨t,by simp⟩
   |x::a,[]=>rw[zu];exact⟨u,by simp[Classical.or_iff_not_imp_left]⟩
   |x::a,y::b=>
     rw[zu];let⟨g,o⟩:=qaK.1 u;let⟨f,m⟩:=qaK.1 t;simp only[wy]at h;by_cases k:qs x y=-1
     .rw[if_pos k];let⟨l,i⟩:=p a (y::b) (by simp;omega) o t
      have s:x ∉ y::b:=by
       intro h;obtain e|h:=wx.1 h
       .subst e;exact yB k
       .exact yB (qe7 k (f x h))
      have B:x ∉ a:=λ h=>yB (g x h);refine⟨qaK.2 ⟨λ z q=>?_,l⟩,λ z=>?_⟩
      .have:=(i z).1 q;by_cases d:z∈a
       .exact g z d
       .have c:z∈y::b:=by
          by_cases c:z∈y::b
          .exact c
          .exact absurd ⟨λ h=>absurd h d,λ h=>absurd h c⟩ this
        obtain e|w:=wx.1 c
        .rw[e];exact k
        .exact qe7 k (f z w)
      .rw[wx,i,wx (a:=z) (b:=x)];by_cases e:z=x
       .subst e;simp[s]
       .simp[e]
     .rw[if_neg k];by_cases v:qs x y=1
      .rw[if_pos v];have j:=qxz.1 v;let⟨l,i⟩:=p (x::a) b (by simp;omega) u m
       have r:y ∉ x::a:=by
        intro h;obtain e|h:=wx.1 h
        .subst e;exact yB j
        .exact yB (qe7 j (g y h))
       have A:y ∉ b:=λ h=>yB (f y h);refine⟨qaK.2 ⟨λ z q=>?_,l⟩,λ z=>?_⟩
       .have:=(i z).1 q;by_cases c:z∈b
        .exact f z c
        .have d:z∈x::a:=by
           by_cases d:z∈x::a
           .exact d
           .exact absurd ⟨λ h=>absurd h d,λ h=>absurd h c⟩ this
         obtain e|w:=wx.1 d
         .rw[e];exact j
         .exact qe7 j (g z w)
       .rw[wx,i,wx (a:=z) (b:=y)];by_cases e:z=y
        .subst e;simp[r]
        .simp[e]
      .rw[if_neg v];have j:qs x y=0:=by have:=yg.rng x y;omega
       have e:=qaE x y j;subst e;let⟨l,i⟩:=p a b (by omega) o m;refine⟨l,λ z=>?_⟩;rw[i,wx,wx];by_cases e:z=x
       .subst e;have:z ∉ a:=λ h=>yB (g z h);have:z ∉ b:=λ h=>yB (f z h);simp[*]
       .simp[e]
theorem qAe{a b:List T}(d:Asc a)(c:Asc b):Asc (zu a b):=(qws _ a b (wa _) d c).1
theorem qKc{a b:List T}(d:Asc a)(c:Asc b)(x:T):x∈zu a b↔¬(x∈a↔x∈b):=(qws _ a b (wa _) d c).2 x
theorem qg5:∀(b:List (List T)) (a:List T),Asc a->(∀l∈b,Asc l)->Asc (b.foldl zu a)
 |[],_,h,_=>h
 |l::b,a,h,k=>qg5 b _ (qAe h (k l (wh ..))) λ m c=>k m (wg _ c)
theorem qmW(t:T):Asc (Qh t):=by
 refine T.ind (P:=λ t=>Asc (Qh t)) ?_ t;intro t a;rw[qlj];split
 .exact List.Pairwise.nil
 .split
  .exact qg5 _ _ List.Pairwise.nil λ l b=>by
    obtain⟨k,c,rfl⟩:=wA.1 b;exact a k c
  .exact vG _ _
def JD(t:T)(s:List T×Bool)(x:T):List T×Bool:=
 if s.2=false/\qs t x<=0 then(s.1++(if qs t x<0 then[t]else[])++[x],true)else(s.1++[x],s.2)
def qy7(l:List T)(t:T):List T:=if(l.foldl (JD t) ([],false)).2 then(l.foldl (JD t) ([],false)).1 else(l.foldl (JD t) ([],false)).1++[t]
def qiB(l:List T)(t:T):List T:=if l.any (λ x=>jt x t)then l.filter (λ x => !jt x t)else qy7 l t
def qke(a b:List T):List T:=b.foldl qiB a
theorem qzR(t:T):∀(l a:List T),l.foldl (JD t) (a,true)=(a++l,true)
 |[],a=>by simp
 |x::l,a=>by
   have e:JD t (a,true) x=(a++[x],true):=by simp[JD]
   rw[ke,e,qzR t l];simp
def Jc:List T->T->List T
 |[],t=>[t]
 |x::l,t=>if qs t x<0 then t::x::l else if qs t x=0 then x::l else x::Jc l t
theorem qwd(t:T):∀(l a:List T),(if(l.foldl (JD t) (a,false)).2 then(l.foldl (JD t) (a,false)).1 else(l.foldl (JD t) (a,false)).1++[t])=a++Jc l t
 |[],a=>by simp[Jc]
 |x::l,a=>by
   rw[ke];by_cases h:qs t x<=0
   .have e:JD t (a,false) x=(a++(if qs t x<0 then[t]else[])++[x],true):=by simp[JD,h]
    rw[e,qzR,Jc];by_cases b:qs t x<0
    .simp[b]
    .have:qs t x=0:=by omega
     simp[this]
   .have e:JD t (a,false) x=(a++[x],false):=by simp[JD,h]
    rw[e,qwd t l,Jc,if_neg (by omega),if_neg (by omega)];simp
theorem quK(l:List T)(t:T):qy7 l t=Jc l t:=by
 have:=qwd t l [];simpa[qy7]using this
theorem quM(t:T):∀(l:List T) (x:T),x∈Jc l t↔x∈l\/x=t
 |[],x=>by simp[Jc]
 |y::l,x=>by
   rw[Jc];split
   .simp only[wx];constructor
    .rintro(h|h|h)<;>simp[h]
    .rintro((h|h)|h)<;>simp[h]
   .split
    .rename_i h;have:=qaE t y h;subst this;simp only[wx];constructor
     .rintro(h|h)<;>simp[h]
     .rintro((h|h)|h)<;>simp[h]
    .rw[wx,quM t l x,wx];constructor
     .rintro(h|h|h)<;>simp[h]
     .rintro((h|h)|h)<;>simp[h]
theorem qCN(t:T):∀(l:List T),Asc l->Asc (Jc l t)
 |[],_=>vG _ _
 |y::l,h=>by
   let⟨c,d⟩:=qaK.1 h;rw[Jc];have f:=yg.rng t y;split
   .have b:qs t y=-1:=by omega
    refine qaK.2 ⟨λ z a=>?_,h⟩;obtain e|a:=wx.1 a
    .rw[e];exact b
    .exact qe7 b (c z a)
   .split
    .exact h
    .refine qaK.2 ⟨λ z a=>?_,qCN t l d⟩;obtain a|e:=(quM t l z).1 a
     .exact c z a
     .rw[e];exact qxz.1 (by omega)
theorem qbz{a b:T}:jt a b=true↔a=b:=by unfold jt;exact decide_eq_true_iff
theorem qKe{l:List T}(h:Asc l)(t:T):Asc (qiB l t)/\∀x,x∈qiB l t↔¬(x∈l↔x=t):=by
 unfold qiB;by_cases a:t∈l
 .have f:(l.any λ x=>jt x t)=true:=vO.2 ⟨t,a,qbz.2 rfl⟩;rw[if_pos f];refine⟨List.Pairwise.filter _ h,λ x=>?_⟩;rw[kO];by_cases e:x=t
  .subst e;simp[a,qbz.2 rfl]
  .have:jt x t=false:=by
     cases b:jt x t
     .rfl
     .exact absurd (qbz.1 b) e
   simp[e,this]
 .rw[if_neg (λ b=>by
    let⟨x,c,d⟩:=vO.1 b;exact a (by rw[<-qbz.1 d];exact c)),quK]
  refine⟨qCN t l h,λ x=>?_⟩;rw[quM];by_cases e:x=t
  .subst e;simp[a]
  .simp[e]
theorem qpk:∀(b a:List T),Asc a->Asc b->Asc (qke a b)/\∀x,x∈qke a b↔¬(x∈a↔x∈b)
 |[],a,g,_=>⟨g,λ x=>by simp[qke]⟩
 |y::b,a,g,n=>by
   let⟨f,d⟩:=qaK.1 n;let⟨l,k⟩:=qKe g y;let⟨j,i⟩:=qpk b (qiB a y) l d;refine⟨j,λ x=>?_⟩;rw[show qke a (y::b)=qke (qiB a y) b from rfl,i,k,wx];by_cases e:x=y
   .subst e;have:x ∉ b:=λ h=>yB (f x h);by_cases c:x∈a<;>simp[this,c]
   .by_cases c:x∈a<;>by_cases m:x∈b<;>simp[e,c,m]
theorem qDK{a b:List T}(d:Asc a)(c:Asc b):qke a b=zu a b:=
 qGz _ _ (qpk b a d c).1 (qAe d c) λ x=>by rw[(qpk b a d c).2,qKc d c]
end Go.GxZ
namespace Go.AmZ
open Go Go.GxZ Go.Lib
def szL(l:List T):Nat:=(l.map size).sum
theorem qV(x:T)(l:List T):szL (x::l)=size x+szL l:=by simp[szL]
theorem qiu(a b:List T):szL (a++b)=szL a+szL b:=by simp[szL]
theorem jS:∀l:List T,l.length<=szL l
 |[]=>we _
 |x::l=>by
   have:=jS l;have:=size_pos x;rw[qV,wy];omega
theorem qcA{l:List T}{x:T}(h:x∈l):size x<=szL l:=qj8 l x h
theorem qo9:∀(n:Nat) (a b:List T),a.length+b.length<=n->szL (zu a b)<=szL a+szL b
 |_,[],b,_|_,x::a,[],_=>by rw[zu];omega
 |0,x::a,y::b,h=>by simp at h
 |n+1,x::a,y::b,h=>by
   simp only[wy]at h;rw[zu];split
   .have:=qo9 n a (y::b) (by simp;omega);rw[qV,qV];omega
   .split
    .have:=qo9 n (x::a) b (by simp;omega);rw[qV y,qV y];omega
    .have:=qo9 n a b (by omega);rw[qV,qV];omega
theorem qtv:∀(b:List (List T)) (a:List T),szL (b.foldl zu a)<=szL a+(b.map szL).sum
 |[],_=>by simp
 |l::b,a=>by
   have d:=qtv b (zu a l);have c:=qo9 _ a l (wa _);simp only[ke,wo,kH];omega
theorem qv1(f g:T->Nat):∀l:List T,(∀k∈l,f k<=g k)->(l.map f).sum<=(l.map g).sum
 |[],_=>wa _
 |x::l,h=>by
   have c:=h x (wh ..);have b:=qv1 f g l λ k a=>h k (wg _ a);simp only[wo,kH];omega
theorem qCt(l:List T)(h:∀k∈l,szL (Qh k)<=size k):szL ((l.map Qh).foldl zu [])<=szL l:=by
 refine wE (qtv _ _) ?_;rw[xg];have:=qv1 (szL ∘ Qh) size l h;show 0+_<=(l.map size).sum;omega
theorem qlg(t:T):szL (Qh t)<=size t:=by
 refine T.ind (P:=λ t=>szL (Qh t)<=size t) ?_ t;intro t a;rw[qlj];split
 .exact we _
 .split
  .have:=qCt t.kids a;have:=q9 t;unfold szL at *;omega
  .show szL [t]<=_;rw[qV];exact wa _
theorem qes(l:List T):szL (yb l)<=szL l:=qCt l λ k _=>qlg k
theorem qpV(x:T)(l:List T):qa9 (x::l) 1 (((x::l).length:Nat):Int)=l:=by
 unfold qa9;rw[kD,wG];rfl
theorem qoo(n:Nat):inb (n:Int) n=true:=by unfold inb;rw[decide_eq_true_iff];omega
theorem qss(x:T)(l:List T):inb 1 (Int.toNat (((x::l).length:Nat):Int))=true:=by
 unfold inb;rw[decide_eq_true_iff,kD,wy];omega
theorem qD6(x:T)(l:List T):ilt 0 (((x::l).length:Nat):Int)=true:=by rw[qz,wy];omega
theorem qHN:∀(n:Nat) (a b c:List T),a.length+b.length<=n->szL c+szL a+szL b<=1000000000->Ev (λ m k=>qdo m k a b c) (c++zu a b):=by
 intro n
 induction n with
 |zero=>
   intro a b c i g;have:a=[]:=wi (by omega);subst this;have:b=[]:=wi (by omega);subst this;refine waF ?_;simp only[qtp,qiE];have:=jS c;exact waE rfl (waC (zg (by simp only[wY];omega) (by omega)) (waC (zg (by simp only[wY,ww];omega) (by omega)) (waD (by rw[zu];simp))))
 |succ n f=>
   intro a b c i g;refine waF ?_;simp only[qtp,qiE,qk];have o:=jS c;have l:=jS a;have j:=jS b;cases a with
   |nil=>
     refine waE rfl (waC (zg (by simp only[wY];omega) (by omega)) (waC (zg (by simp only[ww];omega) (by omega)) (waD (by rw[zu];simp))))
   |cons x a=>
     refine waC (qD6 x a) ?_;cases b with
     |nil=>
       refine waE rfl (waC (zg (by omega) (by omega)) (waC (zg (by rw[wd];simp only[wY];omega) (by omega)) (waD (by rw[zu];simp))))
     |cons y b=>
       rw[qV,qV]at g;refine waC (qD6 y b) (waB (J2 _) (waB (J2 _) (way (qdG x (by omega) y (by omega)) ?_)));rw[zu];simp only[wy]at i l j;rw[qV]at l j;refine waz (λ e=>?_) λ e=>?_
       .rw[qz]at e;have e:qs x y=-1:=by obtain h|h|h:=yg.rng x y<;>omega
        rw[if_pos e];refine waB (J2 _) (waC (zg (by omega) (by omega)) (waC (qoo _) (waC (qss x a) ?_)));rw[qpV];refine(f a (y::b) (c++[x]) (by simp only[wy];omega) (by rw[qiu,qV,qV];show szL c+(size x+0)+_+_<=_;omega)).res (by simp)
       .rw[qA]at e;rw[if_neg (by omega)];refine waz (λ d=>?_) λ d=>?_
        .rw[qz]at d;have d:qs x y=1:=by obtain h|h|h:=yg.rng x y<;>omega
         rw[if_pos d];refine waB (J2 _) (waC (zg (by omega) (by omega)) (waC (qoo _) (waC (qss y b) ?_)));rw[qpV];refine(f (x::a) b (c++[y]) (by simp only[wy];omega) (by rw[qiu,qV,qV];show szL c+(size y+0)+_+_<=_;omega)).res (by simp)
        .rw[qA]at d;rw[if_neg (by omega)];refine waC (qoo _) (waC (qss x a) (waC (qoo _) (waC (qss y b) ?_)));rw[qpV,qpV];exact f a b c (by omega) (by omega)
theorem qCj(a b:List T)(c:szL a+szL b<=1000000000):Ev (λ m _=>qlG m a b) (zu a b):=by
 refine waG ?_;simp only[qGY,qiR];refine waH (L:=λ m k=>qdo m k a b []) ?_;exact qHN _ a b [] (wa _) (by show 0+_+_<=_;omega)
theorem qE4(l:List T)(i:Nat):szL (l.take i)<=szL l:=by
 have:=congrArg szL (kF i l);rw[qiu]at this;omega
theorem QD{l:List T}{i:Nat}{x:T}(h:l[i]?=some x):szL (l.take i)+size x<=szL l:=by
 have b:l.take (i+1)=l.take i++[x]:=by rw[kC,h];rfl
 have a:=qE4 l (i+1);rw[b,qiu,qV]at a;have:szL ([]:List T)=0:=rfl;omega
theorem qkj{l:List T}{i:Nat}{x:T}(h:l[i]?=some x):((l.take (i+1)).map Qh).foldl zu []=zu (((l.take i).map Qh).foldl zu []) (Qh x):=by
 rw[kC,h,wW,xF];rfl
theorem qLT(t:T):size t<=1000000000->Ev (λ m _=>yK m t) (Qh t):=by
 induction t using T.ind with
 |h t s=>
   intro B;have C:=yC t;have A:=q9 t;refine waG ?_;simp only[qxT,qd9,qk]
   have o:=qv (P:=λ i=>Ev (λ m k=>QT m (yK m) k (((t.kids.take i).map Qh).foldl zu []) t.kids t.kids.length i) ((t.kids.map Qh).foldl zu [])) t.kids (by omega)
    (λ q=>by
     refine waF ?_;simp only[qmM,qdU];refine waE q ?_;rw[wG];exact waA _)
    (λ i x c D q w u y=>by
     refine waF ?_;simp only[qmM,qdU,qk];have r:=wb c;have F:=jJ t x r;have z:=qes (t.kids.take i);have g:=QD c;have E:=qlg x;refine waC q (waB w (way (s x r (by omega)) (way (qCj _ _ ?_) ?_)))
     .unfold yb at z;unfold szL at *;omega
     .rw[u];refine y.congr λ m k=>?_;rw[qkj c])
   have j:Ev (λ m _=>QT m (yK m) m [] t.kids t.kids.length 0) ((t.kids.map Qh).foldl zu []):=
    waH (L:=λ m k=>QT m (yK m) k [] t.kids t.kids.length 0) (o 0 (we _))
   rw[qlj];by_cases g:t.kind=3
   .have f:ieq t.kind 3=true:=ql.2 g;refine waC f ?_;refine waz (λ e=>?_) λ e=>?_
    .rw[jd]at e;have a:isN t qcm=true:=yS.2 ⟨g,e⟩
     have d:isN t qcS=false:=by
      rw[<-kz,yS];rintro⟨_,h⟩;rw[e]at h;exact absurd h (by decide)
     refine waz (λ b=>?_) λ b=>?_
     .rw[ql]at b;have b:t.kids=[]:=wi (by omega);rw[a,b];exact waA _
     .rw[qj]at b
      have b:t.kids.isEmpty=false:=by
       cases v:t.kids with
       |nil=>rw[v]at b;exact absurd rfl b
       |cons _ _=>rfl
      rw[a,b,d];exact waC f (waE (by rw[e];rfl) (waA _))
    .have p:=Qg.1 e
     have a:isN t qcm=false:=by
      rw[<-kz,yS];rintro⟨_,h⟩;exact p h
     rw[a];refine waC f (waz (λ c=>?_) λ c=>?_)
     .rw[show isN t qcS=true from yS.2 ⟨g,jd.1 c⟩];exact j
     .have d:isN t qcS=false:=by
        rw[<-kz,yS];rintro⟨_,h⟩;exact Qg.1 c h
      rw[d];exact waA _
   .have f:ieq t.kind 3=false:=qj.2 g
    have l:∀n,isN t n=false:=λ n=>by
     rw[<-kz,yS];rintro⟨h,_⟩;exact g h
    rw[l,l];exact waE f (waE f (waA _))
end Go.AmZ
namespace Go.AmZ
open Go Go.GxZ
theorem qJq(b:List (List T))(d:b.length<1000)(h:(b.map List.length).sum<=100000000):Ev (λ m _=>zW m b) b.flatten:=by
 have g:∀l:List (List T),l.flatten.length=(l.map List.length).sum:=λ l=>List.length_flatten
 have s:=qv (P:=λ i=>Ev (λ m k=>(qn m k).2 b b.length i (b.take i).flatten) b.flatten) b (by omega)
  (λ c=>by
   refine waF ?_;simp only[qam,jc];refine waE c ?_;rw[wG];exact waA _)
  (λ i x o r c f e j=>by
   refine waF ?_;simp only[qam,jc];have p:b.take (i+1)=b.take i++[x]:=by rw[kC,o];rfl
   have q:((b.take (i+1)).map List.length).sum<=(b.map List.length).sum:=by
    have:=congrArg (λ l=>(l.map List.length).sum) (kF (i+1) b);simp only[wW,List.sum_append]at this;omega
   rw[p]at q;simp only[wW,List.sum_append,wo,xZ,kH,List.sum_nil]at q;refine waC c (waB f (waC (zg ?_ (by omega)) ?_))
   .rw[g];omega
   .rw[e];refine j.congr λ m k=>?_;rw[p,xr];simp)
 have t:=qv (P:=λ i=>∀n:Nat,n+((b.drop i).map List.length).sum<=100000000->Ev (λ m k=>(qn m k).1 b n b b.length i) b.flatten) b (by omega)
  (λ c n d=>by
   refine waF ?_;simp only[qaq,jf];refine waE c (waB (a:=((),[],())) ?_ (s 0 (we _)));unfold yV;rw[show inb (n:Int) 100000000=true from by unfold inb;rw[decide_eq_true_iff];omega];rfl)
  (λ i x o r c f e j n d=>by
   refine waF ?_;simp only[qaq,jf];rw[r,wo,kH]at d;refine waC c (waB f ?_);rw[qip,Qa (by omega)];refine waE (qA.2 (by omega)) ?_;rw[e];exact j (n+x.length) (by omega))
 refine waG ?_;simp only[qfQ,jb];refine waH (L:=λ m k=>(qn m k).1 b 0 b b.length 0) ?_;exact t 0 (we _) 0 (by rw[wP];omega)
theorem qwa(a b:List T)(h:a.length+b.length<=100000000):Ev (λ m _=>zW m [a,b]) (a++b):=
 (qJq [a,b] (by simp) (by simpa using h)).res (by simp)
theorem qrN{f:T->Int}{l:List T}{i:Nat}{x:T}(h:l.drop i=x::l.drop (i+1)):((l.drop i).map f).foldl thn 0=if f x≠0 then f x else((l.drop (i+1)).map f).foldl thn 0:=by
 rw[h,wo];by_cases a:f x=0
 .rw[if_neg (by simpa using a),a];rfl
 .rw[if_pos a];exact qT _ a
theorem qMs(l:List T)(n:szL l<=100000000):Ev (λ m _=>qmU m l []) (qoi l):=by
 have o:=jS l;refine waG ?_;simp only[qEI,qhz];unfold qoi;refine waz (λ h=>?_) λ h=>?_
 .rw[qz]at h;rw[if_pos (by omega)];exact waA _
 .rw[qA]at h;rw[if_neg (by omega)];refine way (qwa l [] (by simp only[wY];omega)) ?_;rw[ww]
  have b:=qv (P:=λ i=>Ev (λ m k=>qb2 m k l l.length i) (((l.drop i).map qP).foldl thn 0)) l (by omega)
   (λ c=>by
    refine waF ?_;simp only[qrY,qhu];refine waE c ?_;rw[wV];exact waA _)
   (λ i x d g c f e j=>by
    refine waF ?_;simp only[qrY,qhu,qk];have p:=qcA (wb d);rw[qrN g];refine waC c (waB f (way (qcU x (by omega)) (waz (λ a=>?_) λ a=>?_)))
    .rw[bnt,qj]at a;rw[if_pos a];exact waA _
    .rw[bnf,ql]at a;rw[if_neg (by omega),e];exact j)
  refine waH (L:=λ m k=>qb2 m k l l.length 0) ?_;exact(b 0 (we _)).res (by rw[wP])
theorem qGW(t:T)(a:size t<=1000000000):Ev (λ m _=>qhE m t [] t) (t,0):=by
 refine waG ?_;simp only[qxU,qd8,qk];refine way (qt0 t a) ?_;refine waH (L:=λ m k=>qaI m k [] ([]:List Int).length 0 t.kind t.name t.sort t.kids 0 [] 0 t.kind t.name t.sort t.kids []) (waF ?_);simp only[qvj,qg3,qk];refine waE rfl ?_;rw[show T.mk t.kind t.name t.sort t.kids=t from qk t];exact way (qt0 t a) (waA _)
def qeJ(l:List T)(i:Nat):List T:=l.take i++List.replicate (l.length-i) zT
theorem qMq{l:List T}{i:Nat}(h:i<l.length):(qeJ l i)[i]?=some zT:=by
 unfold qeJ;rw[List.getElem?_append_right (by rw[wm];omega),wm,List.getElem?_replicate,if_pos (by omega)]
theorem qt8{l:List T}{i:Nat}{x:T}(h:l[i]?=some x):(qeJ l i).set i x=qeJ l (i+1):=by
 have c:=(List.getElem?_eq_some_iff.1 h).1;unfold qeJ;have b:l.take (i+1)=l.take i++[x]:=by rw[kC,h];rfl
 have a:List.replicate (l.length-i) zT=zT::List.replicate (l.length-(i+1)) zT:=by
  rw[show l.length-i=(l.length-(i+1))+1 by omega,List.replicate_succ]
 rw[b,a,vS _ _ (by rw[wm];omega),wm,show i-min i l.length=0 by omega,List.set_cons_zero,wj];rfl
theorem qJY{l:List T}{i:Nat}{x:T}(h:l[i]?=some x):(qeJ l (i+1)).set i x=qeJ l (i+1):=by
 rw[<-qt8 h,List.set_set]
theorem qIx{l:List T}{i:Nat}{x:T}(h:l[i]?=some x):(qeJ l (i+1))[i]?=some x:=by
 have a:=(List.getElem?_eq_some_iff.1 h).1;rw[<-qt8 h,List.getElem?_set_self (by unfold qeJ;rw[wd,wm,kG];omega)]
theorem qed{α:Type}(l:List α)(i:Nat)(v:α):yy l (i:Int) v=l.set i v:=by
 unfold yy;rw[if_pos (by omega),kD]
theorem qOg:∀(n:Nat) (l:List T),szL l<=n->n<=1000000->Ev (λ m _=>J8 m l) l:=by
 intro n
 induction n using Nat.strongRecOn with
 |_ n p=>
 intro l s t;have u:=jS l;refine waG ?_;simp only[qJl,qka]
 have d:=qv (P:=λ i=>Ev (λ m k=>qet m (J8 m) k l l.length i (qeJ l i)) l) l (by omega)
  (λ h=>by
   refine waF ?_;simp only[qvr,qkk];refine waE h ?_;exact waD (by unfold qeJ;rw[wG,kL];simp))
  (λ i x b v h r q j=>by
   refine waF ?_;simp only[qvr,qkk,qk];have y:=qcA (wb b);have w:=q9 x;have f:=(List.getElem?_eq_some_iff.1 b).1;have e:yy (qeJ l i) i x=qeJ l (i+1):=by rw[qed,qt8 b]
   have o:yy (qeJ l (i+1)) i x=qeJ l (i+1):=by rw[qed,qJY b]
   have g:qf (qeJ l (i+1)) i=some x:=by rw[jo,qIx b]
   refine waC h (waB r (way (qGW x (by omega)) (waB (a:=zT) (by rw[jo,qMq f]) (way (p (szL x.kids) (by unfold szL at *;omega) x.kids (wa _) (by unfold szL at *;omega)) ?_))));rw[e];refine waB g ?_;rw[show T.mk x.kind x.name x.sort x.kids=x from qk x,o,q];refine waz (λ c=>?_) λ c=>j;rw[ql]at c;have c:x.kids=[]:=wi (by omega);refine waB g ?_;rw[show T.mk x.kind x.name x.sort []=x from by rw[<-c];exact qk x,o];exact j)
 refine waC (by unfold qBm;rw[decide_eq_true_iff,kD];omega) ?_;refine waH (L:=λ m k=>qet m (J8 m) k l l.length 0 (List.replicate (Int.toNat (l.length:Int)) (T.mk 0 [] 0 []))) ?_;refine(d 0 (we _)).congr λ m k=>?_;unfold qeJ;rw[xH,kD];rfl
theorem qOc(l:List T)(z:szL l<=900000):Ev (λ m _=>qsD m l) (qpM l):=by
 have A:=jS l;refine waG ?_;simp only[qJy,qku];unfold qpM;refine way (qMs l (by omega)) (waz (λ h=>?_) λ h=>?_)
 .rw[bnt,qj]at h;rw[if_pos h];exact waA _
 .rw[bnf,ql]at h;rw[if_neg (by omega)]
  have e:=qv (P:=λ i=>Ev (λ m k=>qeL m k (((l.take i).map Qh).foldl zu []) l l.length i 0 [] 0 []) (if qP (qah (yb l))≠0 then(zT,3)else(qah (yb l),0))) l (by omega)
   (λ j=>by
    refine waF ?_;simp only[qwB,qj6,qk];refine waE j ?_;rw[wG];have b:=qes l;show Ev (λ m k=>qb (J8 m (yb l)) _) _;have o:=jS (yb l)
    have c:∀u:T,u=qah (yb l)->Ev (λ m _=>qb (zi m u) λ v=>cond (qe (ieq v 0)) (some (T.mk 0 [] 0 [],(3:Int))) (some (u,0))) (if qP (qah (yb l))≠0 then(zT,3)else(qah (yb l),0)):=by
     intro u p
     have y:size (qah (yb l))<=1+szL (yb l):=by
      unfold qah;split
      .rw[q9];show 1+0<=_;omega
      .split
       .rename_i _ d
        have:(yb l).getD 0 zT∈yb l:=by
         cases g:yb l with
         |nil=>rw[g]at d;cases d
         |cons x r=>exact wh ..
        have:=qcA this;omega
       .rw[q9];exact wa _
     subst p;refine way (qcU _ (by omega)) (waz (λ h=>?_) λ h=>?_)
     .rw[bnt,qj]at h;rw[if_pos h];exact waA _
     .rw[bnf,ql]at h;rw[if_neg (by omega)];exact waA _
    refine way (qOg _ (yb l) (wa _) (by omega)) (waz (λ n=>?_) λ n=>?_)
    .rw[ql]at n;exact c _ (by unfold qah;rw[if_pos (by omega)];rfl)
    .rw[qj]at n;refine waz (λ b=>?_) λ b=>?_
     .rw[ql]at b;refine waB (a:=(yb l).getD 0 zT) ?_ (c _ (by unfold qah;rw[if_neg (by omega),if_pos (by omega)]));rw[J2,List.getD_eq_getElem?_getD];cases g:yb l with
      |nil=>rw[g]at b;simp at b
      |cons x r=>rfl
     .rw[qj]at b;exact c _ (by unfold qah;rw[if_neg (by omega),if_neg (by omega)];rfl))
   (λ i x f B j t s w=>by
    refine waF ?_;simp only[qwB,qj6,qk];have q:=wb f;have b:=qcA q;have o:=qes (l.take i);have D:=QD f;have C:=qlg x;refine waC j (waB t (way (qLT x (by omega)) (way (qCj _ _ ?_) ?_)))
    .unfold yb at o;omega
    .rw[s];refine w.congr λ m k=>?_;rw[qkj f])
  refine waH (L:=λ m k=>qeL m k [] l l.length 0 0 [] 0 []) ?_;exact e 0 (we _)
end Go.AmZ
namespace Go.AmZ
open Go Go.GxZ
theorem qPf(l:List T)(t:T)(j:szL l+size t<=1000000000):Ev (λ m _=>qmX m l t) (l.any λ x=>jt x t):=by
 have n:=jS l;refine waG ?_;simp only[qEJ,qhb]
 have a:=qv (P:=λ i=>Ev (λ m k=>qb1 m k l i t.kind t.name t.sort t.kids) ((l.drop i).any λ x=>jt x t)) l (by omega)
  (λ b=>by
   refine waF ?_;simp only[qrg,qhF];refine waE b (waD ?_);rw[wV];rfl)
  (λ i x c f b e d g=>by
   refine waF ?_;simp only[qrg,qhF,qk];have o:=qcA (wb c);rw[f,wac,show T.mk t.kind t.name t.sort t.kids=t from qk t];refine waC b (waB e (way (qgm x t (by omega) (by omega)) (waz (λ h=>?_) λ h=>?_)))
   .rw[h];exact waA _
   .rw[h,d];exact g)
 refine waH (L:=λ m k=>qb1 m k l 0 t.kind t.name t.sort t.kids) ?_;exact(a 0 (we _)).res (by rw[wP])
theorem qEg(t:T):∀(l:List T) (s:List T×Bool),(l.foldl (JD t) s).1.length<=s.1.length+2*l.length
 |[],s=>by simp
 |x::l,s=>by
   have h:=qEg t l (JD t s x)
   have:(JD t s x).1.length<=s.1.length+2:=by
    unfold JD;split
    .simp only[wd,wy,wY];split<;>simp
    .simp
   rw[ke,wy];omega
theorem qI2(l:List T)(t:T)(r:szL l+size t<=1000000000):Ev (λ m _=>qi4 m l t) (qy7 l t):=by
 have u:=jS l;refine waG ?_;simp only[qEO,qhh]
 have d:∀i,((l.take i).foldl (JD t) ([],false)).1.length<=2*l.length:=λ i=>by
  have:=qEg t (l.take i) ([],false);have q:(l.take i).length<=l.length:=by rw[wm];omega
  simp only[wY]at this;omega
 have g:=qv (P:=λ i=>Ev (λ m k=>qb5 m k l ((l.take i).foldl (JD t) ([],false)).2 i t.kind t.name t.sort t.kids ((l.take i).foldl (JD t) ([],false)).1) (qy7 l t)) l (by omega)
  (λ j=>by
   refine waF ?_;simp only[qrJ,qgY];refine waE j ?_;rw[wG];unfold qy7;have:=d l.length;rw[wG]at this;refine waz (λ h=>?_) λ h=>?_
   .rw[bnt]at h;rw[if_neg (by rw[h];decide),show T.mk t.kind t.name t.sort t.kids=t from qk t];exact waC (zg (by omega) (by omega)) (waA _)
   .rw[bnf]at h;rw[if_pos h];exact waA _)
  (λ i x n v j f o a=>by
   refine waF ?_;simp only[qrJ,qgY,qk];have w:=qcA (wb n);have q:=d i
   have e:(l.take (i+1)).foldl (JD t) ([],false)=JD t ((l.take i).foldl (JD t) ([],false)) x:=by
    rw[kC,n,xF];rfl
   rw[e]at a;generalize (l.take i).foldl (JD t) ([],false)=s at *;rw[show T.mk t.kind t.name t.sort t.kids=t from qk t,o];refine waC j (waB f (way (qiH t (by omega) x (by omega)) (waz (λ h=>?_) λ h=>?_)))
   .rw[bnt]at h;refine waz (λ c=>?_) λ c=>?_
    .rw[qhG]at c;unfold JD at a;rw[if_pos ⟨h,c⟩]at a;refine waz (λ b=>?_) λ b=>?_
     .rw[qz]at b;rw[if_pos b]at a;exact waC (zg (by omega) (by omega)) (waB f (waC (zg (by rw[wd];simp only[wy,wY];omega) (by omega)) a))
     .rw[qA]at b;rw[if_neg (by omega),ww]at a;exact waB f (waC (zg (by omega) (by omega)) a)
    .rw[qiT]at c;unfold JD at a;rw[if_neg (by omega)]at a;exact waB f (waC (zg (by omega) (by omega)) a)
   .rw[bnf]at h;unfold JD at a;rw[if_neg (by rw[h];intro p;cases p.1)]at a;exact waB f (waC (zg (by omega) (by omega)) a))
 refine waH (L:=λ m k=>qb5 m k l false 0 t.kind t.name t.sort t.kids []) ?_;exact g 0 (we _)
theorem qOV(l:List T)(t:T)(f:szL l+size t<=1000000000):Ev (λ m _=>qhl m l t) (qiB l t):=by
 have n:=jS l;refine waG ?_;simp only[qxw,qdZ,qk];unfold qiB;refine way (qPf l t f) (waz (λ h=>?_) λ h=>?_)
 .rw[bnt]at h;rw[if_neg (by rw[h];decide)];exact way (qI2 l t f) (waA _)
 .rw[bnf]at h;rw[if_pos h]
  have b:=qv (P:=λ i=>Ev (λ m k=>JL m k l i t.kind t.name t.sort t.kids ((l.take i).filter λ x => !jt x t)) (l.filter λ x => !jt x t)) l (by omega)
   (λ c=>by
    refine waF ?_;simp only[qmS,qd3];refine waE c ?_;rw[wG];exact waA _)
   (λ i x d o c g j a=>by
    refine waF ?_;simp only[qmS,qd3,qk];have q:=qcA (wb d);have p:((l.take i).filter λ x => !jt x t).length<=l.length:=wE (vg _ _) (by rw[wm];omega);rw[kC,d,vF]at a;rw[show T.mk t.kind t.name t.sort t.kids=t from qk t,j];refine waC c (waB g (way (qgm x t (by omega) (by omega)) (waz (λ h=>?_) λ h=>?_)))
    .rw[bnt]at h;have e:(Option.some x).toList.filter (λ x => !jt x t)=[x]:=by show[x].filter _=_;simp[h]
     rw[e]at a;exact waB g (waC (zg (by omega) (by omega)) a)
    .rw[bnf]at h;have e:(Option.some x).toList.filter (λ x => !jt x t)=[]:=by show[x].filter _=_;simp[h]
     rw[e,ww]at a;exact a)
  refine waH (L:=λ m k=>JL m k l 0 t.kind t.name t.sort t.kids []) ?_;exact b 0 (we _)
theorem qyU(t:T):∀l:List T,szL (Jc l t)<=szL l+size t
 |[]=>by rw[Jc,qV];omega
 |x::l=>by
   have:=qyU t l;rw[Jc];split
   .rw[qV,qV];omega
   .split
    .omega
    .rw[qV,qV];omega
theorem qzw(p:T->Bool):∀l:List T,szL (l.filter p)<=szL l
 |[]=>wa _
 |x::l=>by
   have:=qzw p l;rw[List.filter_cons];split
   .rw[qV,qV];omega
   .rw[qV];omega
theorem qNw(l:List T)(t:T):szL (qiB l t)<=szL l+size t:=by
 unfold qiB;split
 .exact wE (qzw _ l) (by omega)
 .rw[quK];exact qyU t l
theorem qxh:∀(b a:List T),szL (b.foldl qiB a)<=szL a+szL b
 |[],a=>by simp[szL]
 |x::b,a=>by
   have d:=qxh b (qiB a x);have c:=qNw a x;rw[ke,qV];omega
theorem qC7(a b:List T)(n:szL a+szL b<=1000000000):Ev (λ m _=>qhS m a b) (qke a b):=by
 have t:=jS a;have s:=jS b;refine waG ?_;simp only[qDL,qgc]
 have d:=qv (P:=λ i=>Ev (λ m k=>J3 m k b ((b.take i).foldl qiB a) i) (qke a b)) b (by omega)
  (λ e=>by
   refine waF ?_;simp only[qp8,qfX];refine waE e ?_;rw[wG];exact waA _)
  (λ i x f o e l j g=>by
   refine waF ?_;simp only[qp8,qfX,qk];have q:=QD f;have p:=qxh (b.take i) a;rw[kC,f,xF]at g;refine waC e (waB l (way (qOV _ x (by omega)) ?_));rw[j];exact g)
 refine waC (zg (by simp only[wY];omega) (by omega)) ?_;have c:Ev (λ m _=>J3 m m b a 0) (qke a b):=waH (L:=λ m k=>J3 m k b a 0) (d 0 (we _));exact Ev.case (λ h=>by rw[h]at c |-;exact c) λ x r h=>by rw[h]at c |-;exact c
theorem qKY(t:T):size t<=1000000000->Ev (λ m _=>zZ m t) (Qh t):=by
 induction t using T.ind with
 |h t w=>
   intro F;have v:=yC t;have E:=q9 t;refine waG ?_;simp only[qux,qca,qk]
   have q:=qv (P:=λ i=>Ev (λ m k=>jX m (zZ m) k (((t.kids.take i).map Qh).foldl zu []) i t.kind t.name t.sort t.kids) ((t.kids.map Qh).foldl zu [])) t.kids (by omega)
    (λ s=>by
     refine waF ?_;simp only[qjS,qcc];refine waE s ?_;rw[wG];exact waA _)
    (λ i x c G s A y C=>by
     refine waF ?_;simp only[qjS,qcc,qk];have u:=wb c;have I:=jJ t x u;have D:=qes (t.kids.take i);have f:=QD c;have H:=qlg x
     have B:Asc (((t.kids.take i).map Qh).foldl zu []):=qg5 _ _ List.Pairwise.nil λ l v=>by
      obtain⟨k,_,rfl⟩:=wA.1 v;exact qmW k
     refine waC s (waB A (way (w x u (by omega)) (way (qC7 _ _ ?_) ?_)))
     .unfold yb at D;unfold szL at *;omega
     .rw[y,qDK B (qmW x)];refine C.congr λ m k=>?_;rw[qkj c])
   have g:Ev (λ m _=>jX m (zZ m) m [] 0 t.kind t.name t.sort t.kids) ((t.kids.map Qh).foldl zu []):=
    waH (L:=λ m k=>jX m (zZ m) k [] 0 t.kind t.name t.sort t.kids) (q 0 (we _))
   rw[qlj];by_cases f:t.kind=3
   .have p:ieq t.kind 3=true:=ql.2 f;have o:qe (ieq t.kind 3)=false:=bnf.2 p;refine waC p ?_;refine waz (λ e=>?_) λ e=>?_
    .rw[jd]at e;have a:isN t qcm=true:=yS.2 ⟨f,e⟩
     have d:isN t qcS=false:=by
      rw[<-kz,yS];rintro⟨_,h⟩;rw[e]at h;exact absurd h (by decide)
     refine waz (λ b=>?_) λ b=>?_
     .rw[ql]at b;have b:t.kids=[]:=wi (by omega);rw[a,b];exact waA _
     .rw[qj]at b
      have b:t.kids.isEmpty=false:=by
       cases z:t.kids with
       |nil=>rw[z]at b;exact absurd rfl b
       |cons _ _=>rfl
      rw[a,b,d];exact waE o (waC (by rw[e];rfl) (waA _))
    .have r:=Qg.1 e
     have a:isN t qcm=false:=by
      rw[<-kz,yS];rintro⟨_,h⟩;exact r h
     rw[a];refine waE o (waz (λ c=>?_) λ c=>?_)
     .have d:isN t qcS=false:=by
        rw[<-kz,yS];rintro⟨_,h⟩;exact Qg.1 (bnt.1 c) h
      rw[d];exact waA _
     .rw[show isN t qcS=true from yS.2 ⟨f,jd.1 (bnf.1 c)⟩];exact g
   .have p:ieq t.kind 3=false:=qj.2 f
    have j:∀n,isN t n=false:=λ n=>by
     rw[<-kz,yS];rintro⟨h,_⟩;exact f h
    rw[j,j];exact waE p (waC (bnt.2 p) (waA _))
theorem qHe:qP (apT qcm [])=0:=by
 unfold qP;rw[qi2,q9,qkw];have:yU (apT qcm [])=0:=by decide
 show(if yU (apT qcm [])≠0 then yU (apT qcm [])else _)=0;rw[this];rfl
theorem qHi(l:List T)(n:szL l<=100000000):Ev (λ m _=>qiS m l (apT qcm [])) (qoi l):=by
 have o:=jS l;refine waG ?_;simp only[qAC,qfn];unfold qoi;refine waz (λ h=>?_) λ h=>?_
 .rw[qz]at h;rw[if_pos (by omega)];exact waA _
 .rw[qA]at h;rw[if_neg (by omega)]
  have b:=qv (P:=λ i=>Ev (λ m k=>qaf m k l i 3 qcm 0 []) (((l.drop i).map qP).foldl thn 0)) l (by omega)
   (λ c=>by
    refine waF ?_;simp only[qnL,qeX];refine waE c ?_;rw[wV];refine way (qcV (T.mk 3 qcm 0 []) (by rw[q9];show 1+0<=_;omega)) ?_;exact waD qHe)
   (λ i x d g c f e j=>by
    refine waF ?_;simp only[qnL,qeX,qk];have p:=qcA (wb d);rw[qrN g];refine waC c (waB f (way (qcV x (by omega)) (waz (λ a=>?_) λ a=>?_)))
    .rw[bnt,qj]at a;rw[if_pos a];exact waA _
    .rw[bnf,ql]at a;rw[if_neg (by omega),e];exact j)
  refine waH (L:=λ m k=>qaf m k l 0 3 qcm 0 []) ?_;exact(b 0 (we _)).res (by rw[wP])
theorem qFq(l:List T):size (qah l)<=1+szL l:=by
 unfold qah;split
 .rw[q9];show 1+0<=_;omega
 .split
  .rename_i _ a
   have:l.getD 0 zT∈l:=by
    cases l with
    |nil=>cases a
    |cons x r=>exact wh ..
   have:=qcA this;omega
  .rw[q9];exact wa _
theorem qJt(l:List T)(d:szL l<=1000000000):Ev (λ m _=>qkh m l) (qah l):=by
 have e:=jS l;refine waG ?_;simp only[qCh,qjq,qk];unfold qah;refine waz (λ c=>?_) λ c=>?_
 .rw[ql]at c;rw[if_pos (by omega)];exact way (qeY _ [] (by simp)) (waA _)
 .rw[qj]at c;rw[if_neg (by omega)];refine waz (λ b=>?_) λ b=>?_
  .rw[ql]at b;rw[if_pos (by omega)];refine waB (a:=l.getD 0 zT) ?_ (waA _);rw[J2,List.getD_eq_getElem?_getD];cases l with
   |nil=>simp at b
   |cons x r=>rfl
  .rw[qj]at b;rw[if_neg (by omega)];exact waC (zg (by simp only[wY];omega) (by omega)) (Ev.case (λ h=>waD (by rw[h];rfl)) λ x r h=>waD (by rw[h];rfl))
theorem qOq(l:List T)(q:szL l<=900000):Ev (λ m _=>qmL m l) (qpM l):=by
 have d:=jS l;refine waG ?_;simp only[qEG,qgU];unfold qpM
 have z:Ev (λ m _=>qkg m) (apT qcm []):=by
  refine waG ?_;simp only[qCA,qjo,qk];exact way (qeY _ [] (by simp)) (waA _)
 refine way z ?_;rw[qk];refine way (qHi l (by omega)) (waz (λ h=>?_) λ h=>?_)
 .rw[bnt,qj]at h;rw[if_pos h];exact waA _
 .rw[bnf,ql]at h;rw[if_neg (by omega)]
  have a:=qv (P:=λ i=>Ev (λ m k=>qbX m k l (((l.take i).map Qh).foldl zu []) i 0 [] 0 []) (if qP (qah (yb l))≠0 then(zT,3)else(qah (yb l),0))) l (by omega)
   (λ c=>by
    refine waF ?_;simp only[qr7,qhX,qk];refine waE c ?_;rw[wG];have p:=qes l;have e:=qFq (yb l);refine way (qJt (yb l) (by omega)) (way (qcV _ (by omega)) (waz (λ h=>?_) λ h=>?_))
    .rw[bnt,qj]at h;rw[if_pos h];exact waA _
    .rw[bnf,ql]at h;rw[if_neg (by omega)];exact waA _)
   (λ i x b r c j g o=>by
    refine waF ?_;simp only[qr7,qhX,qk];have f:=wb b;have p:=qcA f;have e:=qes (l.take i);have t:=QD b;have s:=qlg x
    have n:Asc (((l.take i).map Qh).foldl zu []):=qg5 _ _ List.Pairwise.nil λ l d=>by
     obtain⟨k,_,rfl⟩:=wA.1 d;exact qmW k
    refine waC c (waB j (way (qKY x (by omega)) (way (qC7 _ _ ?_) ?_)))
    .unfold yb at e;omega
    .rw[g,qDK n (qmW x)];refine o.congr λ m k=>?_;rw[qkj b])
  refine waH (L:=λ m k=>qbX m k l [] 0 0 [] 0 []) ?_;exact a 0 (we _)
end Go.AmZ
namespace Go.GxZ
def qgu(l:List Pw):Prop:=Asc (l.map (·.1))
def NzP(l:List Pw):Prop:=∀p∈l,p.2≠0
theorem qgO{p:Pw}{l:List Pw}:qgu (p::l)↔(∀q∈l,qs p.1 q.1=-1)/\qgu l:=by
 unfold qgu;rw[wo,qaK];simp
theorem qef{p:Pw}{l:List Pw}:NzP (p::l)↔p.2≠0/\NzP l:=by
 unfold NzP;simp
def Q0(l:List Pw):Nat:=(l.map λ p=>p.2.natAbs).sum
theorem qpC:∀(l:List Pw) (t:T) (n:Int) (p:Pw),p∈yL l t n->p.1=t\/p∈l
 |[],t,n,p,h=>by simp[yL]at h;exact .inl (by rw[h])
 |(x,m)::l,t,n,p,h=>by
   rw[yL]at h;split at h
   .obtain h|h:=wx.1 h
    .exact .inl (by rw[h])
    .exact .inr h
   .split at h
    .rename_i a;split at h
     .exact .inr (wg _ h)
     .obtain h|h:=wx.1 h
      .left;rw[h];exact(qaE t x a).symm
      .exact .inr (wg _ h)
    .obtain h|h:=wx.1 h
     .exact .inr (h▸wh ..)
     .obtain h|h:=qpC l t n p h
      .exact .inl h
      .exact .inr (wg _ h)
theorem qCd:∀(l:List Pw) (t:T) (n:Int),qgu l->qgu (yL l t n)
 |[],_,_,_=>vG _ _
 |(x,m)::l,t,n,h=>by
   let⟨d,c⟩:=qgO.1 h;rw[yL];have f:=yg.rng t x;split
   .rename_i b;refine qgO.2 ⟨λ q a=>?_,h⟩;obtain e|a:=wx.1 a
    .rw[e];exact b
    .exact qe7 b (d q a)
   .split
    .split
     .exact c
     .exact qgO.2 ⟨d,c⟩
    .refine qgO.2 ⟨λ q a=>?_,qCd l t n c⟩;obtain e|a:=qpC l t n q a
     .rw[e];exact qxz.1 (show qs t x=1 by omega)
     .exact d q a
theorem qGy:∀(l:List Pw) (t:T) (n:Int),NzP l->n≠0->NzP (yL l t n)
 |[],_,_,_,a=>by intro p c;simp[yL]at c;rw[c];exact a
 |(x,m)::l,t,n,h,a=>by
   let⟨d,b⟩:=qef.1 h;rw[yL];split
   .exact qef.2 ⟨a,h⟩
   .split
    .split
     .exact b
     .exact qef.2 ⟨by assumption,b⟩
    .exact qef.2 ⟨d,qGy l t n b a⟩
theorem qu6:∀(l:List Pw) (t:T) (n:Int),Q0 (yL l t n)<=Q0 l+n.natAbs
 |[],t,n=>by simp[yL,Q0]
 |(x,m)::l,t,n=>by
   have a:=qu6 l t n;unfold Q0 at a |-
   rw[yL];split
   .simp only[wo,kH];omega
   .split
    .split
     .simp only[wo,kH];omega
     .simp only[wo,kH];omega
    .simp only[wo,kH];omega
theorem qtU:∀(l:List Pw) (t:T) (n:Int),(yL l t n).length<=l.length+1
 |[],t,n=>by simp[yL]
 |(x,m)::l,t,n=>by
   have a:=qtU l t n;rw[yL];split
   .simp
   .split
    .split
     .simp;omega
     .simp
    .simp only[wy];omega
theorem qB9(l:List Pw)(p:Pw)(h:p∈l):p.2.natAbs<=Q0 l:=by
 unfold Q0
 induction l with
 |nil=>cases h
 |cons q l a=>
   simp only[wo,kH];obtain e|h:=wx.1 h
   .rw[e];omega
   .have:=a h;omega
def je(t:T)(n:Int)(s:List Pw×Bool)(p:Pw):List Pw×Bool:=
 ((if s.2=false/\qs t p.1<0 then s.1++[(t,n)]else s.1)++(if(if qs t p.1=0 then p.2+n else p.2)=0 then[]else[(p.1,if qs t p.1=0 then p.2+n else p.2)]),
   s.2||decide (qs t p.1<=0))
def qHA(l:List Pw)(t:T)(n:Int):List Pw:=if(l.foldl (je t n) ([],false)).2 then(l.foldl (je t n) ([],false)).1 else(l.foldl (je t n) ([],false)).1++[(t,n)]
theorem qpQ(t:T)(n:Int):∀(l a:List Pw),NzP l->(∀q∈l,qs t q.1=-1)->l.foldl (je t n) (a,true)=(a++l,true)
 |[],a,_,_=>by simp
 |(x,m)::l,a,h,k=>by
   let⟨c,f⟩:=qef.1 h;have b:=k _ (wh ..);simp only at b c;have e:je t n (a,true) (x,m)=(a++[(x,m)],true):=by simp[je,b,c]
   rw[ke,e,qpQ t n l _ f λ q d=>k q (wg _ d)];simp
theorem qtC(t:T)(n:Int):∀(l a:List Pw),NzP l->qgu l->(if(l.foldl (je t n) (a,false)).2 then(l.foldl (je t n) (a,false)).1 else(l.foldl (je t n) (a,false)).1++[(t,n)])=a++yL l t n
 |[],a,_,_=>by simp[yL]
 |(x,m)::l,a,h,k=>by
   let⟨i,g⟩:=qef.1 h;let⟨d,o⟩:=qgO.1 k;simp only at i d;have s:=yg.rng t x;rw[ke,yL];by_cases c:qs t x=-1
   .have e:je t n (a,false) (x,m)=(a++[(t,n)]++[(x,m)],true):=by simp[je,c,i]
    rw[e,qpQ t n l _ g λ q f=>qe7 c (d q f),if_pos c];simp
   .by_cases b:qs t x=0
    .have e:je t n (a,false) (x,m)=(a++(if m+n=0 then[]else[(x,m+n)]),true):=by simp[je,b]
     have ex:=qaE t x b;rw[e,qpQ t n l _ g λ q f=>by rw[ex];exact d q f,if_neg c,if_pos b];by_cases j:m+n=0
     .simp[j]
     .simp[j]
    .have e:je t n (a,false) (x,m)=(a++[(x,m)],false):=by
       have r:¬ qs t x<0:=by omega
       have p:¬ qs t x<=0:=by omega
       simp[je,r,p,b,i]
     rw[e,qtC t n l _ g o,if_neg c,if_neg b];simp
theorem qKu{l:List Pw}(h:NzP l)(k:qgu l)(t:T)(n:Int):qHA l t n=yL l t n:=by
 have:=qtC t n l [] h k;simpa[qHA]using this
def JW(l:List Pw):Prop:=qgu l/\NzP l
theorem JW.nil:JW []:=⟨List.Pairwise.nil,λ _ h=>by cases h⟩
theorem JW.ins{l:List Pw}(h:JW l)(t:T){n:Int}(a:n≠0):JW (yL l t n):=⟨qCd l t n h.1,qGy l t n h.2 a⟩
theorem qOa{t:T}{n:Int}(h:n≠0):qaW t n≠0:=by unfold qaW;split<;>omega
theorem qLt(t:T)(n:Int):(qaW t n).natAbs=n.natAbs:=by unfold qaW;split<;>omega
theorem qFI(a:List T)(n:Int)(P:List Pw->Prop)(h:∀k∈a,∀l,P l->P (jA k l n)):∀l,P l->P ((a.map jA).foldl (λ l f=>f l n) l):=by
 induction a with
 |nil=>intro l b;exact b
 |cons k a c=>intro l b;exact c (λ k d=>h k (wg _ d)) _ (h k (wh ..) l b)
theorem qJX(t:T):∀(l:List Pw) (n:Int),n≠0->JW l->JW (jA t l n):=by
 refine T.ind (P:=λ t=>∀(l:List Pw) (n:Int),n≠0->JW l->JW (jA t l n)) ?_ t;intro t b l n a h;rw[qgL];split
 .exact qFI t.kids (qaW t n) JW (λ k d l c=>b k d l _ (qOa a) c) l h
 .exact h.ins t a
theorem qKU(t:T):∀(l:List Pw) (n:Int),Q0 (jA t l n)<=Q0 l+size t*n.natAbs/\(jA t l n).length<=l.length+size t:=by
 refine T.ind (P:=λ t=>∀(l:List Pw) (n:Int),Q0 (jA t l n)<=Q0 l+size t*n.natAbs/\(jA t l n).length<=l.length+size t) ?_ t;intro t g l n;rw[qgL,q9];split
 .have:∀(a:List T),(∀k∈a,k∈t.kids)->∀l,Q0 ((a.map jA).foldl (λ l f=>f l (qaW t n)) l)<=Q0 l+(a.map size).sum*n.natAbs/\((a.map jA).foldl (λ l f=>f l (qaW t n)) l).length<=l.length+(a.map size).sum:=by
    intro a
    induction a with
    |nil=>intro _ l;simp
    |cons k a b=>
      intro c l;have e:=g k (c k (wh ..)) l (qaW t n);rw[qLt]at e;have d:=b (λ k i=>c k (wg _ i)) (jA k l (qaW t n));simp only[wo,ke,kH,wO]at d |-
      omega
  have:=this t.kids (λ _ h=>h) l;rw[wO];omega
 .have e:=qu6 l t n;have d:=qtU l t n;rw[wO];omega
theorem qrh:∀(b a:List Pw),JW a->NzP b->JW (Jf a b)
 |[],a,h,_=>h
 |p::b,a,h,k=>qrh b (yL a p.1 p.2) (h.ins p.1 (qef.1 k).1) (qef.1 k).2
theorem quF:∀(b a:List Pw),Q0 (Jf a b)<=Q0 a+Q0 b/\(Jf a b).length<=a.length+b.length
 |[],a=>by simp[Jf,Q0]
 |p::b,a=>by
   have f:=quF b (yL a p.1 p.2);have d:=qu6 a p.1 p.2;have c:=qtU a p.1 p.2;have e:Q0 (p::b)=p.2.natAbs+Q0 b:=by simp[Q0]
   rw[show Jf a (p::b)=Jf (yL a p.1 p.2) b from rfl,e,wy];omega
def ixP:List Pw->T->Nat
 |[],_=>0
 |p::l,t=>if qs p.1 t=-1 then ixP l t+1 else 0
theorem qIX:∀(l:List Pw) (t:T),ixP l t<=l.length
 |[],_=>wa _
 |p::l,t=>by
   have:=qIX l t;rw[ixP];split
   .simp;omega
   .omega
theorem qJC:∀(l:List Pw) (t:T) (i:Nat),i<=l.length->(∀k p,k<i->l[k]?=some p->qs p.1 t=-1)->(∀p,l[i]?=some p->qs p.1 t≠-1)->i=ixP l t
 |[],_,i,h,_,_=>by simp at h;rw[h];rfl
 |p::l,t,0,_,_,h=>by rw[ixP,if_neg (h p rfl)]
 |p::l,t,i+1,h,k,m=>by
   rw[ixP,if_pos (k 0 p (by omega) rfl)];rw[<-qJC l t i (by simpa using h) (λ j q b a=>k (j+1) q (by omega) (by simpa using a)) (λ q a=>m q (by simpa using a))]
theorem qFD:∀(l:List Pw) (t:T) (n:Int) (x:T) (m:Int),l[ixP l t]?=some (x,m)->qs x t=0->
  yL l t n=if m+n=0 then l.take (ixP l t)++l.drop (ixP l t+1)else l.take (ixP l t)++[(x,m+n)]++l.drop (ixP l t+1)
 |[],_,_,_,_,h,_=>by simp at h
 |(y,k)::l,t,n,x,m,h,a=>by
   have d:=yg.anti y t;have b:=yg.rng y t;rw[ixP]at h;rw[yL,ixP];simp only at h |-
   by_cases c:qs y t=-1
   .rw[if_pos c]at h;rw[if_neg (by omega),if_neg (by omega),if_pos c,qFD l t n x m (by simpa using h) a];split<;>simp
   .rw[if_neg c]at h;simp at h;obtain⟨rfl,rfl⟩:=h;rw[if_neg (by omega),if_pos (by omega),if_neg c];split<;>simp
theorem qEd:∀(l:List Pw) (t:T) (n:Int),(∀p,l[ixP l t]?=some p->qs p.1 t≠0)->yL l t n=l.take (ixP l t)++[(t,n)]++l.drop (ixP l t)
 |[],_,_,_=>by simp[yL,ixP]
 |(y,k)::l,t,n,h=>by
   have d:=yg.anti y t;have b:=yg.rng y t;rw[ixP]at h;rw[yL,ixP];simp only at h |-
   by_cases c:qs y t=-1
   .rw[if_pos c]at h;rw[if_neg (by omega),if_neg (by omega),if_pos c,qEd l t n λ p a=>h p (by simpa using a)];simp
   .rw[if_neg c]at h;have:=h (y,k) rfl;simp only at this;rw[if_pos (by omega),if_neg c];simp
theorem qGl{l:List Pw}(h:qgu l){i j:Nat}{p q:Pw}(g:l[i]?=some p)(f:l[j]?=some q)(c:i<j):qs p.1 q.1=-1:=by
 unfold qgu Asc at h;rw[List.pairwise_iff_getElem]at h;let⟨e,d⟩:=List.getElem?_eq_some_iff.1 g;let⟨b,a⟩:=List.getElem?_eq_some_iff.1 f;have:=h i j (by simpa using e) (by simpa using b) c;simpa[d,a]using this
end Go.GxZ
namespace Go.AmZ
open Go Go.GxZ
theorem qFv(t:T):Ev (λ m _=>qbB m t) (qcX t):=by
 refine waG ?_;simp only[qte,qeI];unfold qcX;by_cases a:t.kind=3
 .refine waC (ql.2 a) (waz (λ h=>?_) λ h=>(waz (λ b=>?_) λ b=>?_))
  .rw[jd]at h;exact waD (by rw[a,h];rfl)
  .rw[jd]at b;exact waD (by rw[a,b];rfl)
  .rw[Qg]at h b
   exact waD (by
    have d:(t.name==qei)=false:=by rw[beq_eq_false_iff_ne];exact h
    have c:(t.name==Jr)=false:=by rw[beq_eq_false_iff_ne];exact b
    rw[a,d,c];rfl)
 .exact waE (qj.2 a) (waD (by have:(t.kind==3)=false:=by rw[beq_eq_false_iff_ne];exact a
                              rw[this];rfl))
theorem qlW(t:T):size t<=100000000->Ev (λ m _=>zy m t) t:=by
 induction t using T.ind with
 |h t g=>
   intro o;have p:=yC t;refine waG ?_;simp only[qu4,qch]
   have a:ya 0 t.kids=some ((),t.kids,()):=by
    unfold ya;rw[show Nat.ble t.kids.length 100000000=true from xJ (by omega)];rfl
   refine waB a ?_
   have b:=qv (P:=λ i=>Ev (λ m k=>QM m (zy m) k t.kids.length i t.kind t.name t.sort 0 [] 0 t.kids []) t) t.kids (by omega)
    (λ a=>by
     refine waF ?_;simp only[qjU,qcp];exact waE a (waD (qk t)))
    (λ i x c q a f j l=>by
     refine waF ?_;simp only[qjU,qcp,qk];have d:=wb c;have s:=jJ t x d
     have e:yy t.kids (i:Int) x=t.kids:=by
      rw[qed];let⟨r,n⟩:=List.getElem?_eq_some_iff.1 c;rw[<-n,List.set_getElem_self]
     refine waC a (waB f (way (g x d (by omega)) (waB f ?_)));rw[e,j];exact l)
   refine waH (L:=λ m k=>QM m (zy m) k t.kids.length 0 t.kind t.name t.sort 0 [] 0 t.kids []) ?_;exact b 0 (we _)
theorem qOW(lo a:Nat)(h:lo+a<=1000000000):iw .i64 (qox .u64 (iw .u64 (iw .i64 (qi (lo:Int) (a:Int)))) 1)=(((lo+a)/2:Nat):Int):=by
 rw[qip,show iw .i64 ((lo+a:Nat):Int)=((lo+a:Nat):Int)from Qa (by omega),show iw .u64 ((lo+a:Nat):Int)=((lo+a:Nat):Int)from IntWalk.u64_in _ (by omega)]
 have:qox .u64 ((lo+a:Nat):Int) 1=(((lo+a)/2:Nat):Int):=by
  unfold qox;show Int.fdiv _ 2=_;rw[Int.fdiv_eq_ediv_of_nonneg _ (by decide)];omega
 rw[this,Qa (by omega)]
def szP(l:List Pw):Nat:=(l.map λ p=>size p.1).sum
theorem qa4(p:Pw)(l:List Pw):szP (p::l)=size p.1+szP l:=by simp[szP]
theorem qcJ:∀l:List Pw,l.length<=szP l
 |[]=>we _
 |p::l=>by
   have:=qcJ l;have:=size_pos p.1;rw[qa4,wy];omega
theorem qe1:∀{l:List Pw}{p:Pw},p∈l->size p.1<=szP l
 |q::l,p,h=>by
   rw[qa4];obtain rfl|h:=wx.1 h
   .omega
   .have:=qe1 h;omega
theorem qFd:∀(l:List Pw) (t:T) (n:Int),szP (yL l t n)<=szP l+size t
 |[],t,n=>by rw[yL,qa4];show size t+0<=0+size t;omega
 |(x,m)::l,t,n=>by
   have:=qFd l t n;rw[yL];split
   .rw[qa4,qa4];show size t+(size x+_)<=size x+_+size t;omega
   .split
    .split
     .rw[qa4];show _<=size x+_+_;omega
     .rw[qa4,qa4];show size x+_<=size x+_+_;omega
    .rw[qa4,qa4];show size x+_<=size x+_+_;omega
theorem qB6(p:Pw)(t:T)(b:size p.1<=1000000000)(a:size t<=1000000000):Ev (λ m _=>qak m p t) (qs p.1 t):=by
 refine waG ?_;simp only[qqp,qdd,qk];exact way (qdG _ b _ a) (waA _)
def qu1(l:List Pw)(t:T):Bool:=match l[Go.GxZ.ixP l t]? with
 |some p=>ieq (qs p.1 t) 0
 |none=>false
theorem qNm{l:List Pw}(y:qgu l)(t:T)(D:szP l+size t<=100000000):∀(d lo c:Nat),c<=lo+d->lo<=c->c<=l.length->(∀k p,k<lo->l[k]?=some p->qs p.1 t=-1)->(∀k p,c<=k->l[k]?=some p->qs p.1 t≠-1)->
  Ev (λ m k=>qr m k l l.length lo c t.kind t.name t.sort t.kids) ((Go.GxZ.ixP l t:Int),qu1 l t):=by
 have E:=qcJ l;intro d
 induction d with
 |zero=>
   intro lo c C z r o n;have:lo=c:=by omega
   subst this;have w:=qJC l t lo r o (λ p g=>n lo p (wa _) g);subst w;refine waF ?_;simp only[yv,qG,qk];rw[show T.mk t.kind t.name t.sort t.kids=t from qk t];refine waE (qA.2 (vJ _)) (waz (λ h=>?_) λ h=>?_)
   .rw[qz]at h;have i:Go.GxZ.ixP l t<l.length:=by omega
    obtain⟨p,e⟩:∃p,l[Go.GxZ.ixP l t]?=some p:=⟨_,List.getElem?_eq_getElem i⟩
    have v:=qe1 (wb e);refine waB (a:=p) (by rw[jo,e]) (way (qB6 (p.1,p.2) _ (wE v (by omega)) (by omega)) (waD ?_));unfold qu1;rw[e]
   .rw[qA]at h;refine waD ?_;unfold qu1;rw[List.getElem?_eq_none (by omega)]
 |succ d s=>
   intro lo c C z r o n;by_cases F:lo=c
   .exact s lo c (by omega) z r o n
   refine waF ?_;simp only[yv,qG,qk];rw[show T.mk t.kind t.name t.sort t.kids=t from qk t,qOW lo c (by omega)];have A:(lo+c)/2<c:=by omega
   have u:lo<=(lo+c)/2:=by omega
   generalize (lo+c)/2=b at *;have i:b<l.length:=by omega
   obtain⟨p,e⟩:∃p,l[b]?=some p:=⟨_,List.getElem?_eq_getElem i⟩
   have v:=qe1 (wb e);refine waC (qz.2 (by omega)) (waB (a:=p) (by rw[jo,e]) (way (qB6 (p.1,p.2) _ (wE v (by omega)) (by omega)) (waz (λ f=>?_) λ f=>?_)))
   .rw[qz]at f;have f:qs p.1 t<0:=f;have f:qs p.1 t=-1:=by obtain h|h|h:=yg.rng p.1 t<;>omega
    rw[show qi ((b:Nat):Int) 1=((b+1:Nat):Int)from by unfold qi;omega,Qa (by omega)];refine s (b+1) c (by omega) (by omega) r (λ k q B g=>?_) n;by_cases j:k=b
    .subst j;rw[e]at g;cases g;exact f
    .exact yg.trans _ _ _ (qGl y g e (by omega)) f
   .rw[qA]at f;have f:0<=qs p.1 t:=f;refine s lo b (by omega) u (by omega) o (λ k q B g=>?_);by_cases j:k=b
    .subst j;rw[e]at g;cases g;omega
    .intro x;have:=yg.trans _ _ _ (qGl y e g (by omega)) x;omega
theorem qQQ{l:List Pw}(d:qgu l)(t:T)(c:szP l+size t<=100000000):Ev (λ m _=>qN m l t) ((Go.GxZ.ixP l t:Int),qu1 l t):=by
 refine waG ?_;simp only[Q3,qH];refine waH (L:=λ m k=>qr m k l l.length 0 l.length t.kind t.name t.sort t.kids) ?_;exact qNm d t c l.length 0 l.length (by omega) (we _) (wa _) (λ k p b=>by omega) (λ k p b a=>by rw[List.getElem?_eq_none b]at a;cases a)
theorem qxg{l:List Pw}(r:qgu l)(t:T)(n:Int)(u:szP l+size t<=90000000)(g:l.length<=90000)(v:Q0 l+n.natAbs<=1000000000000):Ev (λ m _=>qbD m l (t,n)) ((),yL l t n,()):=by
 have w:=qcJ l;have q:=qIX l t;refine waG ?_;simp only[qsY,qex,qk];refine way (qQQ r t (by omega)) (waz (λ h=>?_) λ h=>?_)
 .rw[bnt]at h;refine way (qlW t (by omega)) ?_
  have i:zH 0 l (Go.GxZ.ixP l t:Int) [(re t,n)]=some ((),yL l t n,()):=by
   unfold zH;rw[show inb (Go.GxZ.ixP l t:Int) l.length=true from by unfold inb;rw[decide_eq_true_iff];omega,show Nat.ble l.length 100000=true from xJ (by omega)]
   rw[qEd l t n λ p j f=>by
    unfold qu1 at h;simp only[j]at h;rw[qj]at h;exact h f]
   rw[kD,qk,wj];rfl
  rw[qk]at i;refine waB i (waA _)
 .rw[bnf]at h;cases b:l[Go.GxZ.ixP l t]? with
  |none=>unfold qu1 at h;simp only[b]at h;cases h
  |some p=>
    let⟨x,k⟩:=p
    have f:qs x t=0:=by
     unfold qu1 at h;simp only[b]at h;exact ql.1 h
    have o:=qB9 l _ (wb b);have d:Go.GxZ.ixP l t<l.length:=(List.getElem?_eq_some_iff.1 b).1;simp only at o
    have e1:iw .i64 (qi k n)=k+n:=by
     unfold qi;exact Qa (by omega)
    have e:qf (yy l (Go.GxZ.ixP l t:Int) (x,k+n)) (Go.GxZ.ixP l t:Int)=some (x,k+n):=by
     rw[qed,jo,List.getElem?_set_self d]
    have a:l.set (Go.GxZ.ixP l t) (x,k+n)=l.take (Go.GxZ.ixP l t)++[(x,k+n)]++l.drop (Go.GxZ.ixP l t+1):=by
     rw[vK,if_pos d,wj];rfl
    refine waB (by rw[jo,b]) (waB (by rw[jo,b]) ?_);simp only[qk,e1];refine waB e ?_;rw[qFD l t n x k b f];refine waz (λ c=>?_) λ c=>?_
    .rw[ql]at c;rw[if_pos c]
     have s:zJ 0 (yy l (Go.GxZ.ixP l t:Int) (x,k+n)) (Go.GxZ.ixP l t:Int) (iw .i64 (qi (Go.GxZ.ixP l t:Int) 1))=some ((),l.take (Go.GxZ.ixP l t)++l.drop (Go.GxZ.ixP l t+1),()):=by
      rw[show qi (Go.GxZ.ixP l t:Int) 1=((Go.GxZ.ixP l t+1:Nat):Int)from by unfold qi;omega,Qa (by omega),qed];unfold zJ
      rw[wH,show inb ((Go.GxZ.ixP l t+1:Nat):Int) l.length=true from by unfold inb;rw[decide_eq_true_iff];omega,show inb (Go.GxZ.ixP l t:Int) l.length=true from by unfold inb;rw[decide_eq_true_iff];omega,
       show ieq ((Go.GxZ.ixP l t+1:Nat):Int) (qi (Go.GxZ.ixP l t:Int) 1)=true from ql.2 (by unfold qi;omega),show Nat.ble l.length 100000=true from xJ (by omega)]
      rw[kD,vu (wa _),vW (by omega)];rfl
     exact waB s (waA _)
    .rw[qj]at c;rw[if_neg c];refine waD ?_;rw[qed,a]
end Go.AmZ
namespace Go.GxZ
open Go.RowKit
theorem qCQ(q:Option T)(p:Pw):pvK q p=if qP p.1≠0 then qP p.1 else if qcX p.1 then 1 else if p.2=0\/p.2 < -1000\/1000<p.2 then 7 else match q with|some x=>if 0<=qs x p.1 then 5 else 0|none=>0:=rfl
theorem qDY:∀(l:List Pw) (q:Option T),pvL q l=0->qgu l/\(∀p∈l,p.2≠0/\p.2.natAbs<=1000)/\(∀x,q=some x->∀p∈l,qs x p.1=-1)/\(∀p∈l,qP p.1=0/\qcX p.1=false)
 |[],q,_=>⟨List.Pairwise.nil,(λ _ h=>by cases h),(λ _ _ _ h=>by cases h),(λ _ h=>by cases h)⟩
 |p::l,q,h=>by
   rw[pvL]at h;unfold thn at h;split at h
   rotate_left
   .rename_i b;exact absurd h b
   .rename_i b;have j:=qCQ q p;let⟨i,g,d,i4⟩:=qDY l (some p.1) h;rw[j]at b;split at b
    .rename_i f;exact absurd b f
    rename_i f;split at b
    .cases b
    rename_i k;split at b
    .cases b
    rename_i n
    have e:∀x,q=some x->qs x p.1=-1:=λ x c=>by
     subst c;simp only at b;split at b
     .cases b
     .rename_i m;obtain h|h|h:=yg.rng x p.1<;>omega
    refine⟨qgO.2 ⟨λ r a=>d _ rfl r a,i⟩,λ r a=>?_,λ x c r a=>?_,λ r a=>?_⟩
    .obtain rfl|a:=wx.1 a
     .omega
     .exact g r a
    .obtain rfl|a:=wx.1 a
     .exact e x c
     .exact qe7 (e x c) (by have:=d _ rfl r a;omega)
    .obtain rfl|a:=wx.1 a
     .exact⟨by omega,by simpa using k⟩
     .exact i4 r a
theorem qbF{l:List Pw}(h:Ju l=0):JW l/\l.length<=200/\(∀p∈l,p.2.natAbs<=1000)/\(∀p∈l,qP p.1=0/\qcX p.1=false):=by
 unfold Ju at h;split at h
 .cases h
 .obtain⟨c,b,-,i4⟩:=qDY l none h;exact⟨⟨c,λ p a=>(b p a).1⟩,by omega,λ p a=>(b p a).2,i4⟩
theorem qnO(k:Nat):∀(l:List Pw),(∀p∈l,p.2.natAbs<=k)->Q0 l<=l.length*k
 |[],_=>by simp[Q0]
 |p::l,h=>by
   have c:=qnO k l λ q a=>h q (wg _ a);have b:=h p (wh ..);have e:Q0 (p::l)=p.2.natAbs+Q0 l:=rfl;rw[e,wy,wO];omega
theorem quO:∀(b a:List Pw) (p:Pw),p∈Jf a b->(∃q∈a,q.1=p.1)\/∃q∈b,q.1=p.1
 |[],a,p,h=>.inl ⟨p,h,rfl⟩
 |r::b,a,p,h=>by
   obtain⟨q,c,e⟩|⟨q,c,e⟩:=quO b (yL a r.1 r.2) p h
   .obtain d|d:=qpC a r.1 r.2 q c
    .exact .inr ⟨r,wh ..,by rw[<-d];exact e⟩
    .exact .inl ⟨q,d,e⟩
   .exact .inr ⟨q,wg _ c,e⟩
theorem qzP(a b:List Pw)(p:Pw):Jf a (b++[p])=yL (Jf a b) p.1 p.2:=by unfold Jf;rw[xF];rfl
theorem qHn{a b:List Pw}(n:Ju a=0)(m:Ju b=0)(S:Nat)(f:∀p∈a,size p.1<=S)(d:∀p∈b,size p.1<=S)(j:Nat):
  qgu (Jf a (b.take j))/\(Jf a (b.take j)).length<=400/\(∀p∈Jf a (b.take j),p.2.natAbs<=1000000)/\(∀p∈Jf a (b.take j),size p.1<=S):=by
 obtain⟨r,t,k,-⟩:=qbF n;obtain⟨o,s,i,-⟩:=qbF m;have h:∀p∈b.take j,p∈b:=λ p c=>wT c;have l:=qrh (b.take j) a r λ p c=>o.2 p (h p c);let⟨y,x⟩:=quF (b.take j) a;have w:=qnO 1000 a k;have v:=qnO 1000 (b.take j) λ p c=>i p (h p c);have u:(b.take j).length<=200:=by rw[wm];omega
 refine⟨l.1,by omega,λ p c=>?_,λ p c=>?_⟩
 .have:=qB9 _ p c;omega
 .obtain⟨q,g,e⟩|⟨q,g,e⟩:=quO _ _ p c
  .rw[<-e];exact f q g
  .rw[<-e];exact d q (h q g)
end Go.GxZ
namespace Go.AmZ
open Go Go.GxZ
theorem QS{t:T}(h:qP t=0):size t<=400:=by
 unfold qP at h;split at h
 .rename_i a;exact absurd h a
 .split at h
  .cases h
  .omega
theorem qsM{t:T}:qcX t=true↔t.kind=3/\(t.name=qei\/t.name=Jr\/t.name=qjv):=by
 unfold qcX;simp only[wc,wU,beq_iff_eq];constructor
 .rintro⟨h,(a|a)|a⟩
  .exact⟨h,.inl a⟩
  .exact⟨h,.inr (.inl a)⟩
  .exact⟨h,.inr (.inr a)⟩
 .rintro⟨h,a|a|a⟩
  .exact⟨h,.inl (.inl a)⟩
  .exact⟨h,.inl (.inr a)⟩
  .exact⟨h,.inr a⟩
theorem qFJ(t:T):∀(l:List Pw) (n:Int),szP (jA t l n)<=szP l+size t:=by
 refine T.ind (P:=λ t=>∀(l:List Pw) (n:Int),szP (jA t l n)<=szP l+size t) ?_ t;intro t d l n;rw[qgL];have i:=q9 t;split
 .have:∀(a:List T),(∀k∈a,k∈t.kids)->∀l,szP ((a.map jA).foldl (λ l f=>f l (qaW t n)) l)<=szP l+(a.map size).sum:=by
    intro a
    induction a with
    |nil=>intro _ l;simp
    |cons k a b=>
      intro c l;have j:=d k (c k (wh ..)) l (qaW t n);have g:=b (λ k e=>c k (wg _ e)) (jA k l (qaW t n));simp only[wo,ke,kH]at g |-
      omega
  have:=this t.kids (λ _ h=>h) l;omega
 .exact qFd l t n
def qfB(ks:List T)(a:Int)(l:List Pw)(i:Nat):List Pw:=((ks.take i).map jA).foldl (λ l f=>f l a) l
theorem qz5{ks:List T}{i:Nat}{x:T}(h:ks[i]?=some x)(a:Int)(l:List Pw):qfB ks a l (i+1)=jA x (qfB ks a l i) a:=by
 unfold qfB;rw[kC,h,wW,xF];rfl
theorem qoN(a:Int)(b:a≠0):∀(ks:List T) (l:List Pw),JW l->JW ((ks.map jA).foldl (λ l f=>f l a) l)/\szP ((ks.map jA).foldl (λ l f=>f l a) l)<=szP l+szL ks/\
  Q0 ((ks.map jA).foldl (λ l f=>f l a) l)<=Q0 l+szL ks*a.natAbs/\((ks.map jA).foldl (λ l f=>f l a) l).length<=l.length+szL ks
 |[],l,h=>⟨h,by simp,by simp,by simp⟩
 |k::ks,l,h=>by
   let⟨c,e,d,i4⟩:=qoN a b ks (jA k l a) (qJX k l a b h);have j:=qFJ k l a;let⟨i,g⟩:=qKU k l a;rw[wo,ke,qV,wO];exact⟨c,by omega,by omega,by omega⟩
def qlK(t:T)(l:List Pw)(n:Int):Unit×List Pw×Bool×Unit:=((),if arT t then jA t l n else[],arT t,())
theorem qId(t:T):∀(l:List Pw) (n:Int),n≠0->JW l->szP l+size t<=80000->Q0 l+size t*n.natAbs<=100000000000->Ev (λ m _=>zx m l t n) (qlK t l n):=by
 induction t using T.ind with
 |h t K=>
   intro l n H I R J;have S:=yC t;have Q:=q9 t;have M:=qcJ l;refine waG ?_;simp only[qrI,qba,qk];refine way (qFv t) (waz (λ h=>?_) λ h=>?_)
   .rw[bnt]at h;have s:n.natAbs<=size t*n.natAbs:=vL _ (size_pos t);refine way (qxg I.1 t n (by omega) (by omega) (by omega)) (waD ?_);unfold qlK;rw[qxs,qgL,h];rfl
   rw[bnf]at h;let⟨Y,j⟩:=qsM.1 h;have o:arT t=(arK t&&(t.kids.map arT).all id):=by rw[qxs,h];rfl
   have g:∀e:Int,e≠0->e.natAbs=n.natAbs->qaW t n=e->arK t=true->Ev (λ m _=>jx m (zx m) m e t.kids t.kids.length 0 l) (qlK t l n):=by
    intro e q F A d;have u:jA t l n=qfB t.kids e l t.kids.length:=by rw[qgL,h,if_pos rfl,A];unfold qfB;rw[wG]
    have z:=qv (P:=λ i=>(∀k∈t.kids.take i,arT k=true)->Ev (λ m k=>jx m (zx m) k e t.kids t.kids.length i (qfB t.kids e l i)) (qlK t l n)) t.kids (by omega)
     (λ E y=>by
      refine waF ?_;simp only[qh7,qbg];refine waE E (waD ?_);unfold qlK
      have:arT t=true:=by
       rw[o,d,kg,wv];intro b J;obtain⟨k,C,rfl⟩:=wA.1 J;rw[wG]at y;exact y k C
      rw[this,if_pos rfl,u])
     (λ i x w U E D N G y=>by
      refine waF ?_;simp only[qh7,qbg,qk];have B:=wb w;have Z:=jJ t x B;let⟨O,f2,f3,f4⟩:=qoN e q (t.kids.take i) l I;have X:=QD w;have W:szL t.kids+1=size t:=by unfold szL;omega
      have V:szL (t.kids.take i)*e.natAbs+size x*e.natAbs<=size t*n.natAbs:=by
       rw[<-wO,F];exact wu _ (by omega)
      refine waC E (waB D (way (K x B (qfB t.kids e l i) e q O (by unfold qfB;omega) (by unfold qfB;omega)) (waz (λ c=>?_) λ c=>?_)))
      .rw[bnt]at c;have c:arT x=false:=c;refine waD ?_;unfold qlK
       have:arT t=false:=by
        rw[o,d,kg,<-kz,wv];intro v;have:=v (arT x) (kY B);rw[c]at this;cases this
       rw[this];rfl
      .rw[bnf]at c;have c:arT x=true:=c
       have G:=G λ k f=>by
        rw[kC,w]at f;obtain f|f:=wk.1 f
        .exact y k f
        .rw[show k=x from by simpa using f];exact c
       rw[N];refine G.congr λ m k=>?_;unfold qlK;rw[qz5 w,c];rfl)
    refine waH (L:=λ m k=>jx m (zx m) k e t.kids t.kids.length 0 l) ?_;exact(z 0 (we _)) (λ k d=>by rw[xH]at d;cases d)
   have p:arK t=false->Ev (λ _ _=>some ((),[],false,())) (qlK t l n):=λ d=>by
    refine waD ?_;unfold qlK;rw[o,d];rfl
   have r:iw .i64 (yk 0 n)=-n:=by
    have s:n.natAbs<=size t*n.natAbs:=vL _ (size_pos t);unfold yk;rw[Qa (by omega)];omega
   obtain a|a|a:=j
   .refine waE (by rw[a];rfl) (waE (by rw[a];rfl) (waC (by rw[a];rfl) (waz (λ d=>?_) λ d=>?_)))
    .rw[qz]at d;exact p (by unfold arK;rw[a,decide_eq_true (show t.kids.length<2 by omega)];rfl)
    .rw[qA]at d;exact waE (by rw[a];rfl) (g n H rfl (by unfold qaW;rw[a];rfl) (by unfold arK;rw[a,decide_eq_false (show ¬ t.kids.length<2 by omega)];rfl))
   .refine waE (by rw[a];rfl) (waC (by rw[a];rfl) (waz (λ d=>?_) λ d=>?_))
    .rw[bnt,qj]at d;exact p (by unfold arK;rw[a,show(t.kids.length != 1)=true from by rw[bne_iff_ne];omega];rfl)
    .rw[bnf,ql]at d;rw[r];exact waE (by rw[a];rfl) (waC (by rw[a];rfl) (g (-n) (by omega) (by omega) (by unfold qaW;rw[if_pos a]) (by unfold arK;rw[a,show(t.kids.length != 1)=false from by rw[bne_eq_false_iff_eq];omega];rfl)))
   .refine waC (by rw[a];rfl) (waz (λ d=>?_) λ d=>?_)
    .rw[bnt,qj]at d;exact p (by unfold arK;rw[a,show(t.kids.length != 0)=true from by rw[bne_iff_ne];omega];rfl)
    .rw[bnf,ql]at d;exact waE (by rw[a];rfl) (waE (by rw[a];rfl) (waE (by rw[a];rfl) (g n H rfl (by unfold qaW;rw[a];rfl) (by unfold arK;rw[a,show(t.kids.length != 0)=false from by rw[bne_eq_false_iff_eq];omega];rfl))))
theorem qCi(t:T)(c:size t<=1000000000):Ev (λ m _=>qb6 m t) (ofP t):=by
 refine waG ?_;simp only[qAU,qis,qk];unfold ofP;refine way (qcU t c) (waz (λ h=>?_) λ h=>?_)
 .rw[bnt,qj]at h;rw[if_pos h];exact waA _
 .rw[bnf,ql]at h;have d:=QS h;rw[if_neg (by omega)];refine way (qId t [] 1 (by decide) JW.nil (by show 0+_<=_;omega) (by show 0+size t*1<=_;omega)) (waz (λ a=>?_) λ a=>?_)
  .rw[bnt]at a;have a:arT t=false:=a;rw[if_pos a];exact waA _
  .rw[bnf]at a;have a:arT t=true:=a;rw[if_neg (by rw[a];decide)];have e:(qlK t [] 1).2.1=jA t [] 1:=by unfold qlK;rw[a];rfl
   rw[e];refine waz (λ b=>?_) λ b=>?_
   .rw[qz]at b;rw[if_pos (by omega)];exact waA _
   .rw[qA]at b;rw[if_neg (by omega)];exact waA _
def qdT(l:List Pw)(i:Nat):Option T:=if i=0 then none else(l[i-1]?).map (·.1)
theorem qj0{l:List Pw}{i:Nat}{p:Pw}(h:l[i]?=some p):qdT l (i+1)=some p.1:=by
 unfold qdT;rw[if_neg (by omega),xW,h];rfl
theorem qqF(l:List Pw)(E:szP l<=1000000000):Ev (λ m _=>qaH m l) (Ju l):=by
 have F:=qcJ l;refine waG ?_;simp only[qtP,qce];unfold Ju;refine waz (λ h=>?_) λ h=>?_
 .rw[qz]at h;rw[if_pos (by omega)];exact waA _
 rw[qA]at h;rw[if_neg (by omega)]
 have s:=qv (P:=λ i=>Ev (λ m k=>j7 m k l l l.length i) (pvL (qdT l i) (l.drop i))) l (by omega)
  (λ z=>by
   refine waF ?_;simp only[qjG,qck];refine waE z (waD ?_);rw[wV];rfl)
  (λ i x u D z C B A=>by
   refine waF ?_;simp only[qjG,qck,qk];have H:=qe1 (wb u);rw[qj0 u]at A;rw[D,pvL];have c:=qCQ (qdT l i) x
   have b:∀e:Int,pvK (qdT l i) x=e->e≠0->Ev (λ _ _=>some e) (thn (pvK (qdT l i) x) (pvL (some x.1) (l.drop (i+1)))):=λ e y r=>by
    rw[y];exact waD (by unfold thn;rw[if_neg r])
   have d:pvK (qdT l i) x=0->Ev (λ m k=>j7 m k l l l.length ((i+1:Nat):Int)) (thn (pvK (qdT l i) x) (pvL (some x.1) (l.drop (i+1)))):=λ y=>by
    rw[y];exact A.res (by unfold thn;rw[if_pos rfl])
   refine waC z (waB C (way (qcU x.1 (by omega)) (waz (λ p=>?_) λ p=>?_)))
   .rw[bnt,qj]at p;exact b _ (by rw[c,if_pos p]) p
   rw[bnf,ql]at p;rw[if_neg (by omega)]at c;refine way (qFv x.1) (waz (λ o=>?_) λ o=>?_)
   .exact b 1 (by rw[c,if_pos o]) (by decide)
   rw[if_neg (by rw[o];decide)]at c;refine waz (λ t=>?_) λ t=>?_
   .rw[ql]at t;exact b 7 (by rw[c,if_pos (by omega)]) (by decide)
   rw[qj]at t;refine waz (λ n=>?_) λ n=>?_
   .rw[qz]at n;exact b 7 (by rw[c,if_pos (by omega)]) (by decide)
   rw[qA]at n;refine waz (λ g=>?_) λ g=>?_
   .rw[qz]at g;exact b 7 (by rw[c,if_pos (by omega)]) (by decide)
   rw[qA]at g;rw[if_neg (by omega)]at c;rw[B];refine waz (λ r=>?_) λ r=>?_
   .rw[qz]at r;obtain⟨j,rfl⟩:∃j,i=j+1:=⟨i-1,by omega⟩
    have w:j<l.length:=by have:=(List.getElem?_eq_some_iff.1 u).1;omega
    obtain⟨q,v⟩:∃q,l[j]?=some q:=⟨_,List.getElem?_eq_getElem w⟩
    have G:=qe1 (wb v);rw[qj0 v]at c b d |-
    simp only at c;refine waB (a:=q) (by rw[show yk ((j+1:Nat):Int) 1=((j:Nat):Int)from by unfold yk;omega,Qa (by omega),jo,v]) (way (qdG q.1 (by omega) x.1 (by omega)) (waz (λ f=>?_) λ f=>?_))
    .rw[qhG]at f;exact b 5 (by rw[c,if_pos f]) (by decide)
    .rw[qiT]at f;exact d (by rw[c,if_neg (by omega)])
   .rw[qA]at r;have:i=0:=by omega
    subst this;exact d (by rw[c];rfl))
 refine waH (L:=λ m k=>j7 m k l l l.length 0) ?_;exact s 0 (we _)
end Go.AmZ
namespace Go.AmZ
open Go Go.GxZ
theorem ye{α:Type}{l:List α}{i:Nat}{x:α}(h:l[i]?=some x):l.take (i+1)=l.take i++[x]:=by rw[kC,h];rfl
theorem qua(a b:List Pw):yn (a++b)=yn a++yn b:=by unfold yn;rw[List.flatMap_append]
theorem qt6(a b:List Pw):yr (a++b)=yr a++yr b:=by unfold yr;rw[List.flatMap_append]
theorem qu2(p:Pw):yn [p]=List.replicate p.2.toNat p.1:=by unfold yn;simp
theorem qtI(p:Pw):yr [p]=List.replicate (-p.2).toNat (apT Jr [p.1]):=by unfold yr;simp
theorem qFh(n:Nat)(x:T):szL (List.replicate n x)=n*size x:=by
 induction n with
 |zero=>simp[szL]
 |succ n a=>rw[List.replicate_succ,qV,a,wO];omega
theorem qD1(t:T):size (apT Jr [t])=1+size t:=by rw[q9];show 1+(size t+0)=_;omega
theorem qpd{P:Nat->Prop}(N:Int)(g:N<=1000000)(b:P N.toNat)(a:∀j:Nat,(j:Int)<N->iw .i64 (qi (j:Int) 1)=((j+1:Nat):Int)->P (j+1)->P j):∀j:Nat,j<=N.toNat->P j:=by
 intro j e;obtain⟨d,f⟩:∃d,N.toNat=j+d:=⟨N.toNat-j,by omega⟩
 induction d generalizing j with
 |zero=>
   have:j=N.toNat:=by omega
   subst this;exact b
 |succ d c=>
   refine a j (by omega) ?_ (c (j+1) (by omega) (by omega));unfold qi;rw[Qa (by omega)];omega
theorem qOi{l:List Pw}{p:Pw}(a:p∈l)(h:8<p.2):8<(yn l++yr l).length:=by
 have:(List.replicate p.2.toNat p.1).length<=(yn l).length:=wE (vh (kY (f:=λ p:Pw=>List.replicate p.2.toNat p.1) a)).length_le (by unfold yn;rw[wag];exact wa _);rw[kG]at this;rw[wd];omega
theorem qOw{l:List Pw}{p:Pw}(a:p∈l)(h:p.2 < -8):8<(yn l++yr l).length:=by
 have:(List.replicate (-p.2).toNat (apT Jr [p.1])).length<=(yr l).length:=wE (vh (kY (f:=λ p:Pw=>List.replicate (-p.2).toNat (apT Jr [p.1])) a)).length_le (by unfold yr;rw[wag];exact wa _);rw[kG]at this;rw[wd];omega
theorem qFU(o:List T):size (J4 o)<=1+szL o:=by
 unfold J4;split
 .rw[q9];show 1+0<=_;omega
 .split
  .rename_i _ a
   have:o.getD 0 zT∈o:=by
    cases o with
    |nil=>cases a
    |cons x r=>exact wh ..
   have:=qcA this;omega
  .rw[q9];exact wa _
theorem qqE{l:List Pw}(a:∀p∈l,size p.1<=400):∀(ks:List Pw),(∀p∈ks,p∈l/\-8<=p.2/\p.2<=8)->(yn ks).length<=8*ks.length/\(yr ks).length<=8*ks.length/\szL (yn ks)<=3200*ks.length/\szL (yr ks)<=3208*ks.length
 |[],_=>⟨wa _,wa _,wa _,wa _⟩
 |p::ks,h=>by
   let⟨k,j,i,i4⟩:=qqE a ks λ q b=>h q (wg _ b);let⟨d,n,m⟩:=h p (wh ..);have c:=a p d;have e1:yn (p::ks)=List.replicate p.2.toNat p.1++yn ks:=by rw[show p::ks=[p]++ks from rfl,qua,qu2]
   have e:yr (p::ks)=List.replicate (-p.2).toNat (apT Jr [p.1])++yr ks:=by rw[show p::ks=[p]++ks from rfl,qt6,qtI]
   have g:p.2.toNat*size p.1<=8*400:=vY (by omega) c;have f:(-p.2).toNat*(1+size p.1)<=8*401:=vY (by omega) (by omega);rw[e1,e,qiu,qiu,qFh,qFh,qD1];simp only[wd,kG,wy];refine⟨by omega,by omega,by omega,by omega⟩
def qnj(o:List T):T×Int:=if 8<o.length then(zT,3)else if qP (J4 o)≠0 then(zT,qP (J4 o))else(J4 o,0)
theorem qrV{l:List Pw}(h:Ju l=0):qbd l=qnj (yn l++yr l):=by
 unfold qbd qnj;rw[if_neg (by omega)]
theorem qCU(l:List Pw)(Q:szP l<=1000000000):Ev (λ m _=>Jp m l) (qbd l):=by
 refine waG ?_;simp only[qwC,qc6];refine way (qqF l Q) (waz (λ h=>?_) λ h=>?_)
 .rw[bnt,qj]at h;unfold qbd;rw[if_pos h];exact waA _
 rw[bnf,ql]at h;let⟨_,H,Y,X⟩:=qbF h;have c:∀p∈l,size p.1<=400:=λ p A=>QS (X p A).1;rw[qrV h]
 have D:=qv (P:=λ i=>(∀p∈l.take i,p∈l/\-8<=p.2/\p.2<=8)->Ev (λ m k=>(qB m k).1 l l.length i 0 [] 0 [] (yn (l.take i)) (yr (l.take i))) (qnj (yn l++yr l))) l (by omega)
  (λ F t=>by
   refine waF ?_;simp only[qlB,qdf,qk];rw[wG]at t |-
   let⟨b1,b2,b3,Z⟩:=qqE c l t;refine waE F (way (qwa (yn l) (yr l) (by omega)) ?_);have ho:szL (yn l++yr l)<=10000000:=by rw[qiu];omega
   generalize yn l++yr l=o at *;have S:=jS o;have R:=qFU o;unfold qnj;refine waz (λ b=>?_) λ b=>?_
   .rw[qz]at b;rw[if_pos (by omega)];exact waA _
   rw[qA]at b;rw[if_neg (by omega)]
   have f:∀u:T,u=J4 o->Ev (λ m _=>qb (zi m u) λ v=>cond (qe (ieq v 0)) (some (T.mk 0 [] 0 [],v)) (some (u,0))) (if qP (J4 o)≠0 then(zT,qP (J4 o))else(J4 o,0)):=by
    intro u N;subst N;refine way (qcU _ (by omega)) (waz (λ h=>?_) λ h=>?_)
    .rw[bnt,qj]at h;rw[if_pos h];exact waA _
    .rw[bnf,ql]at h;rw[if_neg (by omega)];exact waA _
   have y:∀(n:List UInt8) (x:List T),Ev (λ m _=>qeh m n x) (apT n x):=λ n x=>waG (waA _);refine way (y [109,117,108] o) (waz (λ G=>?_) λ G=>?_)
   .rw[ql]at G;exact way (y [111,110,101] []) (f _ (by unfold J4;rw[if_pos (by omega)];rfl))
   .rw[qj]at G;refine waz (λ C=>?_) λ C=>?_
    .rw[ql]at C;refine waB (a:=o.getD 0 zT) ?_ (f _ (by unfold J4;rw[if_neg (by omega),if_pos (by omega)]));rw[J2,List.getD_eq_getElem?_getD];cases o with
     |nil=>simp at C
     |cons x r=>rfl
    .rw[qj]at C;exact f _ (by unfold J4;rw[if_neg (by omega),if_neg (by omega)];rfl))
  (λ i p z hd F W V B t=>by
   refine waF ?_;simp only[qlB,qdf];have s:=wb z;have hn:=Y p s;have hz:=c p s;have U:=(List.getElem?_eq_some_iff.1 z).1;refine waC F (waB W (waz (λ b=>?_) λ b=>?_))
   .rw[qz]at b;unfold qnj;rw[if_pos (qOi s b)];exact waA _
   rw[qA]at b;refine waz (λ w=>?_) λ w=>?_
   .rw[qz]at w;unfold qnj;rw[if_pos (qOw s w)];exact waA _
   rw[qA]at w;let⟨b1,b2,b3,Z⟩:=qqE c _ t;have O:(l.take i).length<=200:=by rw[wm];omega
   have B:=B λ q g=>by
    rw[ye z]at g;obtain g|g:=wk.1 g
    .exact t q g
    .rw[show q=p from by simpa using g];exact⟨s,w,b⟩
   rw[ye z,qua,qt6,qu2,qtI]at B;generalize yn (l.take i)=I at *;generalize yr (l.take i)=J at*
   have K:=qpd (P:=λ j=>Ev (λ m k=>(qB m k).2.2 l l.length i (-p.2) j 0 [] 0 p.1.kind p.1.name p.1.sort p.1.kids p.2 [] (I++List.replicate p.2.toNat p.1) (J++List.replicate j (apT Jr [p.1]))) (qnj (yn l++yr l))) (-p.2) (by omega)
    (by
     refine waF ?_;simp only[qlp,qdh];refine waE (qA.2 (by omega)) ?_;rw[V];exact B)
    (λ j E d e=>by
     refine waF ?_;simp only[qlp,qdh,qk];rw[show T.mk p.1.kind p.1.name p.1.sort p.1.kids=p.1 from qk p.1,d];refine waC (qz.2 E) (way (qlW p.1 (by omega)) (way (a:=apT Jr [p.1]) (waG (waA _)) (waC (zg (by rw[wd,kG];omega) (by omega)) ?_)));refine e.congr λ m k=>?_;rw[vq,wj])
   have M:=qpd (P:=λ j=>Ev (λ m k=>(qB m k).2.1 l l.length i p.2 j 0 [] 0 p.1.kind p.1.name p.1.sort p.1.kids p.2 [] (I++List.replicate j p.1) J) (qnj (yn l++yr l))) p.2 (by omega)
    (by
     refine waF ?_;simp only[qli,qdj];refine waE (qA.2 (by omega)) ?_;rw[show iw .i64 (yk 0 p.2)=-p.2 from by unfold yk;rw[Qa (by omega)];omega];have:=K 0 (we _);rw[vx,ww]at this;exact this)
    (λ j E d e=>by
     refine waF ?_;simp only[qli,qdj,qk];rw[show T.mk p.1.kind p.1.name p.1.sort p.1.kids=p.1 from qk p.1,d];refine waC (qz.2 E) (way (qlW p.1 (by omega)) (waC (zg (by rw[wd,kG];omega) (by omega)) ?_));refine e.congr λ m k=>?_;rw[vq,wj])
   have:=M 0 (we _);rw[vx,ww]at this;exact this)
 refine waH (L:=λ m k=>(qB m k).1 l l.length 0 0 [] 0 [] [] []) ?_;exact(D 0 (we _)) (λ p A=>by rw[xH]at A;cases A)
theorem qNL(l:List Pw)(g:szP l<=100000000):Ev (λ m _=>qdX m l) ((),l,()):=by
 have h:=qcJ l;refine waG ?_;simp only[qsX,qbH]
 have a:=qv (P:=λ i=>Ev (λ m k=>Qo m k l l.length i (l.take i)) ((),l,())) l (by omega)
  (λ b=>by
   refine waF ?_;simp only[qjf,qbI];refine waE b ?_;rw[wG];exact waA _)
  (λ i p c j b e d f=>by
   refine waF ?_;simp only[qjf,qbI,qk];have o:=qe1 (wb c);have n:(l.take i).length<=l.length:=by rw[wm];omega
   refine waC b (waB e (way (qlW p.1 (by omega)) (waC (zg (by omega) (by omega)) ?_)));rw[d];refine f.congr λ m k=>?_;rw[ye c])
 refine waH (L:=λ m k=>Qo m k l l.length 0 []) ?_;exact a 0 (we _)
theorem qzX(p:Pw)(l:List Pw):qnx (p::l)=((decide (p.2 < -1000)||decide (1000<p.2))||qnx l):=rfl
theorem qNv(l:List Pw)(r:l.length<=1000000000):∃v,Ev (λ m _=>zY m l) v/\ile 0 v=qnx l:=by
 have b:=qv (P:=λ i=>∃v,Ev (λ m k=>qC m k l l.length i) v/\ile 0 v=qnx (l.drop i)) l (by omega)
  (λ a=>by
   refine⟨-1,waF ?_,by rw[wV];rfl⟩;simp only[yA,zb];exact waE a (waA _))
  (λ i p q n a f j o=>by
   let⟨v,c,d⟩:=o;rw[n,qzX]
   have e:Ev (λ m _=>qcg m (p.1,p.2)) (decide (p.2 < -1000)||decide (1000<p.2)):=by
    refine waG ?_;simp only[qqh,qc0];refine waz (λ h=>?_) λ h=>?_
    .rw[qz]at h;exact waD (by rw[decide_eq_true h];rfl)
    .rw[qA]at h;exact waD (by rw[decide_eq_false (show ¬ p.2 < -1000 by omega)];rfl)
   cases g:decide (p.2 < -1000)||decide (1000<p.2)with
   |true=>
     refine⟨i,waF ?_,by rw[xu,qhG];omega⟩;simp only[yA,zb,qk];exact waC a (waB f (way e (waC g (waA _))))
   |false=>
     refine⟨v,waF ?_,by rw[xU];exact d⟩;simp only[yA,zb,qk];refine waC a (waB f (way e (waE g ?_)));rw[j];exact c)
 let⟨v,c,d⟩:=b 0 (we _);refine⟨v,waG ?_,by rw[d,wP]⟩;simp only[qbE,zM];exact waH (L:=λ m k=>qC m k l l.length 0) c
def qpn(l:List Pw):List Pw×Int:=if qnx l then([],7)else if 200<l.length then([],3)else(l,0)
theorem qOf(l:List Pw)(c:l.length<=1000000000):Ev (λ m _=>qd4 m l) (qpn l):=by
 let⟨v,b,d⟩:=qNv l c;refine waG ?_;simp only[qtd,qev]
 have e:Ev (λ m _=>zK m l) (qnx l):=by
  refine waG ?_;simp only[qaU,yl];exact way b (waD d)
 unfold qpn;refine way e (waz (λ h=>?_) λ h=>?_)
 .rw[if_pos h];exact waA _
 .rw[if_neg (by rw[h];decide)];refine waz (λ a=>?_) λ a=>?_
  .rw[qz]at a;rw[if_pos (by omega)];exact waA _
  .rw[qA]at a;rw[if_neg (by omega)];exact waA _
theorem qKi(S:Nat):∀l:List Pw,(∀p∈l,size p.1<=S)->szP l<=l.length*S
 |[],_=>by simp[szP]
 |p::l,h=>by
   have c:=qKi S l λ q a=>h q (wg _ a);have b:=h p (wh ..);rw[qa4,wy,wO];omega
theorem qw5(a b:List Pw):qln a b=if Ju a≠0 then([],Ju a)else if Ju b≠0 then([],Ju b)else qpn (Jf a b):=rfl
theorem qhP{a b:List Pw}(f:Ju a=0)(e:Ju b=0)(j:Nat):
  JW (Jf a (b.take j))/\(Jf a (b.take j)).length<=400/\szP (Jf a (b.take j))<=160000/\Q0 (Jf a (b.take j))<=400000:=by
 let⟨s,k,m,i⟩:=qbF f;let⟨r,v,l,h⟩:=qbF e;have d:∀p∈b.take j,p∈b:=λ p c=>wT c;let⟨A,g,z,q⟩:=qHn f e 400 (λ p c=>QS (i p c).1) (λ p c=>QS (h p c).1) j;have o:=qKi 400 _ q;let⟨y,_⟩:=quF (b.take j) a;have x:=qnO 1000 a m;have w:=qnO 1000 (b.take j) λ p c=>l p (d p c);have n:(b.take j).length<=200:=by rw[wm];omega
 refine⟨qrh _ _ s λ p c=>r.2 p (d p c),g,wE o (wu 400 g),?_⟩;have u:a.length*1000<=200*1000:=wu _ k;have t:(b.take j).length*1000<=200*1000:=wu _ n;omega
theorem qOb(a b:List Pw)(s:szP a<=100000000)(y:szP b<=100000000):Ev (λ m _=>qhO m a b) (qln a b):=by
 have w:=qcJ b;refine waG ?_;simp only[qya,qd0];rw[qw5];refine way (qqF a (by omega)) (waz (λ h=>?_) λ h=>?_)
 .rw[bnt,qj]at h;rw[if_pos h];exact waA _
 rw[bnf,ql]at h;rw[if_neg (by omega)];refine way (qqF b (by omega)) (waz (λ c=>?_) λ c=>?_)
 .rw[bnt,qj]at c;rw[if_pos c];exact waA _
 rw[bnf,ql]at c;rw[if_neg (by omega)];refine way (qNL a s) ?_
 have d:=qv (P:=λ i=>Ev (λ m k=>Jz m k b b.length i (Jf a (b.take i))) (qpn (Jf a b))) b (by omega)
  (λ e=>by
   refine waF ?_;simp only[qm6,qd7];rw[wG];let⟨_,j,_,_⟩:=qhP h c b.length;rw[wG]at j;exact waE e (way (qOf _ (by omega)) (waA _)))
  (λ i p f x e r q t=>by
   refine waF ?_;simp only[qm6,qd7,qk];have g:=wb f;let⟨u,j,A,z⟩:=qhP h c i;let⟨_,_,o,l⟩:=qbF c;have v:=QS (l p g).1;have n:=o p g;refine waC e (waB r (way (qxg u.1 p.1 p.2 (by omega) (by omega) (by omega)) ?_));rw[q];refine t.congr λ m k=>?_;rw[ye f,qzP])
 refine waH (L:=λ m k=>Jz m k b b.length 0 a) ?_;exact d 0 (we _)
end Go.AmZ
namespace Go.AmZ
open Go Go.GxZ
theorem qDz(t:T):Ev (λ m _=>qbw m t) (qcX t):=by
 refine waG ?_;simp only[qv6,qgk];unfold qcX;by_cases a:t.kind=3
 .refine waC (ql.2 a) (waz (λ h=>?_) λ h=>(waz (λ b=>?_) λ b=>?_))
  .rw[jd]at h;exact waD (by rw[a,h];rfl)
  .rw[jd]at b;exact waD (by rw[a,b];rfl)
  .rw[Qg]at h b
   exact waD (by
    have d:(t.name==qei)=false:=by rw[beq_eq_false_iff_ne];exact h
    have c:(t.name==Jr)=false:=by rw[beq_eq_false_iff_ne];exact b
    rw[a,d,c];rfl)
 .exact waE (qj.2 a) (waD (by have:(t.kind==3)=false:=by rw[beq_eq_false_iff_ne];exact a
                              rw[this];rfl))
theorem qJg(t:T):size t<=1000000000->Ev (λ m _=>jr m t) (arT t):=by
 induction t using T.ind with
 |h t o=>
   intro v;have w:=yC t;refine waG ?_;simp only[qAY,qe3,qk];refine way (qDz t) (waz (λ h=>?_) λ h=>?_)
   .rw[bnt]at h;exact waD (by rw[qxs,h];rfl)
   rw[bnf]at h;let⟨y,d⟩:=qsM.1 h;have g:arT t=(arK t&&(t.kids.map arT).all id):=by rw[qxs,h];rfl
   have c:arK t=true->Ev (λ m _=>Jn m (jr m) m t.kids.length 0 t.kind t.name t.sort t.kids) (arT t):=by
    intro b;rw[g,b,kg]
    have j:=qv (P:=λ i=>Ev (λ m k=>Jn m (jr m) k t.kids.length i t.kind t.name t.sort t.kids) (((t.kids.drop i).map arT).all id)) t.kids (by omega)
     (λ l=>by
      refine waF ?_;simp only[qnV,qeO];refine waE l (waD ?_);rw[wV];rfl)
     (λ i x p s l r q u=>by
      refine waF ?_;simp only[qnV,qeO,qk];have n:=wb p;have z:=jJ t x n;rw[s,wo,km];refine waC l (waB r (way (o x n (by omega)) (waz (λ f=>?_) λ f=>?_)))
      .rw[bnt]at f;rw[f];exact waA _
      .rw[bnf]at f;rw[f,q];exact u)
    refine waH (L:=λ m k=>Jn m (jr m) k t.kids.length 0 t.kind t.name t.sort t.kids) ?_;exact(j 0 (we _)).res (by rw[wP])
   have e:arK t=false->Ev (λ _ _=>some false) (arT t):=λ b=>waD (by rw[g,b];rfl);obtain a|a|a:=d
   .refine waC (by rw[a];rfl) (waz (λ b=>?_) λ b=>?_)
    .rw[qz]at b;exact e (by unfold arK;rw[a,decide_eq_true (show t.kids.length<2 by omega)];rfl)
    .rw[qA]at b;exact waE (by rw[a];rfl) (waE (by rw[a];rfl) (c (by unfold arK;rw[a,decide_eq_false (show ¬ t.kids.length<2 by omega)];rfl)))
   .refine waE (by rw[a];rfl) (waC (by rw[a];rfl) (waz (λ b=>?_) λ b=>?_))
    .rw[bnt,qj]at b;exact e (by unfold arK;rw[a,show(t.kids.length != 1)=true from by rw[bne_iff_ne];omega];rfl)
    .rw[bnf,ql]at b;exact waE (by rw[a];rfl) (c (by unfold arK;rw[a,show(t.kids.length != 1)=false from by rw[bne_eq_false_iff_eq];omega];rfl))
   .refine waE (by rw[a];rfl) (waE (by rw[a];rfl) (waC (by rw[a];rfl) (waz (λ b=>?_) λ b=>?_)))
    .rw[bnt,qj]at b;exact e (by unfold arK;rw[a,show(t.kids.length != 0)=true from by rw[bne_iff_ne];omega];rfl)
    .rw[bnf,ql]at b;exact c (by unfold arK;rw[a,show(t.kids.length != 0)=false from by rw[bne_eq_false_iff_eq];omega];rfl)
theorem qAg(t:T)(n:Int):∀(l:List Pw) (s:List Pw×Bool),(l.foldl (je t n) s).1.length<=s.1.length+2*l.length
 |[],s=>by simp
 |x::l,s=>by
   have h:=qAg t n l (je t n s x)
   have:(je t n s x).1.length<=s.1.length+2:=by
    unfold je;simp only[wd];have a:(if s.2=false/\qs t x.1<0 then s.1++[(t,n)]else s.1).length<=s.1.length+1:=by split<;>simp
    have b:(if(if qs t x.1=0 then x.2+n else x.2)=0 then([]:List Pw)else[(x.1,if qs t x.1=0 then x.2+n else x.2)]).length<=1:=by generalize (if qs t x.1=0 then x.2+n else x.2)=z;split<;>simp
    omega
   rw[ke,wy];omega
theorem qFw{l:List Pw}(y:JW l)(t:T)(n:Int)(E:szP l+size t<=1000000000)(F:Q0 l+n.natAbs<=1000000000000):Ev (λ m _=>qjg m l t n) ((),yL l t n,()):=by
 have G:=qcJ l;refine waG ?_;simp only[qE6,qg2]
 have j:∀i,((l.take i).foldl (je t n) ([],false)).1.length<=2*l.length:=λ i=>by
  have:=qAg t n (l.take i) ([],false);have D:(l.take i).length<=l.length:=by rw[wm];omega
  simp only[wY]at this;omega
 have w:=qv (P:=λ i=>Ev (λ m k=>JN m k n ((l.take i).foldl (je t n) ([],false)).2 i t.kind t.name t.sort t.kids l ((l.take i).foldl (je t n) ([],false)).1) ((),yL l t n,())) l (by omega)
  (λ z=>by
   refine waF ?_;simp only[qsg,qhA];refine waE z ?_;have:=j l.length;have u:=qKu y.2 y.1 t n;rw[wG]at this |-
   unfold qHA at u;refine waz (λ h=>?_) λ h=>?_
   .rw[bnt]at h;rw[if_neg (by rw[h];decide)]at u;rw[show T.mk t.kind t.name t.sort t.kids=t from qk t,u];exact waC (zg (by omega) (by omega)) (waA _)
   .rw[bnf]at h;rw[if_pos h]at u;rw[u];exact waA _)
  (λ i p A H z f B v=>by
   refine waF ?_;simp only[qsg,qhA,qk];have x:=wb A;have J:=qe1 x;have D:=j i;have I:=qB9 l p x;have d:=y.2 p x;rw[ye A,xF]at v;generalize (l.take i).foldl (je t n) ([],false)=s at*
   have r:∀(b:Bool) (o:List Pw),je t n s p=(o,b)->Ev (λ m k=>JN m k n b ((i+1:Nat):Int) t.kind t.name t.sort t.kids l o) ((),yL l t n,()):=λ b o e=>by
    have v:Ev (λ m k=>JN m k n (je t n s p).2 ((i+1:Nat):Int) t.kind t.name t.sort t.kids l (je t n s p).1) ((),yL l t n,()):=v;rw[e]at v;exact v
   have e1:iw .i64 (qi p.2 n)=p.2+n:=by unfold qi;exact Qa (by omega)
   rw[show T.mk t.kind t.name t.sort t.kids=t from qk t,B];have q:qe (ieq p.2 0)=true:=bnt.2 (qj.2 d);refine waC z (waB f (way (qiH t (by omega) p.1 (by omega)) (waz (λ h=>?_) λ h=>?_)))
   .rw[bnt]at h;refine waz (λ g=>?_) λ g=>?_
    .rw[qz]at g;refine waC (zg (by omega) (by omega)) (waB f (waE (qj.2 (by omega)) (waC q (waC (zg (by rw[wd];simp only[wy,wY];omega) (by omega)) (r _ _ ?_)))));unfold je;rw[if_pos ⟨h,g⟩,if_neg (show ¬ qs t p.1=0 by omega),if_neg d,decide_eq_true (show qs t p.1<=0 by omega),xt]
    .rw[qA]at g;refine waB f (waz (λ a=>?_) λ a=>?_)
     .rw[ql]at a;refine waz (λ c=>?_) λ c=>?_
      .rw[bnt,qj,e1]at c;refine waC (zg (by omega) (by omega)) (r _ _ ?_);rw[e1];unfold je;rw[if_neg (by omega),if_pos a,if_neg c,decide_eq_true (show qs t p.1<=0 by omega),xt]
      .rw[bnf,ql,e1]at c;refine r _ _ ?_;unfold je;rw[if_neg (by omega),if_pos a,if_pos c,decide_eq_true (show qs t p.1<=0 by omega),xt,ww]
     .rw[qj]at a;refine waC q (waC (zg (by omega) (by omega)) (r _ _ ?_));unfold je;rw[if_neg (by omega),if_neg a,if_neg d,decide_eq_false (show ¬ qs t p.1<=0 by omega),Bool.or_false]
   .rw[bnf]at h;refine waB f (waz (λ a=>?_) λ a=>?_)
    .rw[ql]at a;refine waz (λ c=>?_) λ c=>?_
     .rw[bnt,qj,e1]at c;refine waC (zg (by omega) (by omega)) (r _ _ ?_);rw[e1];unfold je;rw[if_neg (by omega),if_pos a,if_neg c,decide_eq_true (show qs t p.1<=0 by omega),xt]
     .rw[bnf,ql,e1]at c;refine r _ _ ?_;unfold je;rw[if_neg (by omega),if_pos a,if_pos c,decide_eq_true (show qs t p.1<=0 by omega),xt,ww]
    .rw[qj]at a;refine waC q (waC (zg (by omega) (by omega)) (r _ _ ?_));unfold je;rw[if_neg (by rw[h];intro C;cases C.1),if_neg a,if_neg d,h,xu])
 refine waH (L:=λ m k=>JN m k n false 0 t.kind t.name t.sort t.kids l []) ?_;exact w 0 (we _)
theorem qEV(t:T):∀(l:List Pw) (n:Int),n≠0->JW l->szP l+size t<=80000000->Q0 l+size t*n.natAbs<=100000000000->Ev (λ m _=>yp m l t n) ((),jA t l n,()):=by
 induction t using T.ind with
 |h t y=>
   intro l n z w E H;have F:=yC t;have D:=q9 t;refine waG ?_;simp only[qvG,qdp,qk];have u:n.natAbs<=size t*n.natAbs:=vL _ (size_pos t);refine way (qDz t) (waz (λ h=>?_) λ h=>?_)
   .rw[bnt]at h;refine way (qFw w t n (by omega) (by omega)) (waD ?_);rw[qgL,h];rfl
   rw[bnf]at h;let⟨M,p⟩:=qsM.1 h
   have b:∀a:Int,a≠0->a.natAbs=n.natAbs->qaW t n=a->Ev (λ m _=>Qx m (yp m) m a 0 t.kind t.name t.sort t.kids l) ((),jA t l n,()):=by
    intro a c s o;have f:jA t l n=qfB t.kids a l t.kids.length:=by rw[qgL,h,if_pos rfl,o];unfold qfB;rw[wG]
    rw[f]
    have g:=qv (P:=λ i=>Ev (λ m k=>Qx m (yp m) k a i t.kind t.name t.sort t.kids (qfB t.kids a l i)) ((),qfB t.kids a l t.kids.length,())) t.kids (by omega)
     (λ r=>by
      refine waF ?_;simp only[qk8,qc4];exact waE r (waA _))
     (λ i x j G r q A B=>by
      refine waF ?_;simp only[qk8,qc4,qk];have v:=wb j;have N:=jJ t x v;let⟨C,R,Q,O⟩:=qoN a c (t.kids.take i) l w;have K:=QD j;have J:szL t.kids+1=size t:=by unfold szL;omega
      have I:szL (t.kids.take i)*a.natAbs+size x*a.natAbs<=size t*n.natAbs:=by
       rw[<-wO,s];exact wu _ (by omega)
      refine waC r (waB q (way (y x v (qfB t.kids a l i) a c C (by unfold qfB;omega) (by unfold qfB;omega)) ?_));rw[A];refine B.congr λ m k=>?_;rw[qz5 j])
    refine waH (L:=λ m k=>Qx m (yp m) k a 0 t.kind t.name t.sort t.kids l) ?_;exact g 0 (we _)
   have d:iw .i64 (yk 0 n)=-n:=by
    unfold yk;rw[Qa (by omega)];omega
   refine waz (λ e=>?_) λ e=>?_
   .rw[jd]at e;rw[d];exact b (-n) (by omega) (by omega) (by unfold qaW;rw[if_pos (show t.name=Jr from e)])
   .rw[Qg]at e;exact b n z rfl (by unfold qaW;rw[if_neg (show ¬ t.name=Jr from e)])
theorem qB1(t:T)(c:size t<=1000000000):Ev (λ m _=>qii m t) (ofP t):=by
 refine waG ?_;simp only[qGP,qnh,qk];unfold ofP;refine way (qcV t c) (waz (λ h=>?_) λ h=>?_)
 .rw[bnt,qj]at h;rw[if_pos h];exact waA _
 .rw[bnf,ql]at h;have d:=QS h;rw[if_neg (by omega)];refine way (qJg t c) (waz (λ b=>?_) λ b=>?_)
  .rw[bnt]at b;rw[if_pos b];exact waA _
  .rw[bnf]at b;rw[if_neg (by rw[b];decide)];refine way (qEV t [] 1 (by decide) JW.nil (by show 0+_<=_;omega) (by show 0+size t*1<=_;omega)) (waz (λ a=>?_) λ a=>?_)
   .rw[qz]at a;have a:(200:Int)<((jA t [] 1).length:Int):=a;rw[if_pos (by omega)];exact waA _
   .rw[qA]at a;have a:((jA t [] 1).length:Int)<=200:=a;rw[if_neg (by omega)];exact waA _
theorem qtY(l:List Pw)(E:szP l<=1000000000):Ev (λ m _=>qdC m l) (Ju l):=by
 have F:=qcJ l;refine waG ?_;simp only[qBa,qeT];unfold Ju;refine waz (λ h=>?_) λ h=>?_
 .rw[qz]at h;rw[if_pos (by omega)];exact waA _
 rw[qA]at h;rw[if_neg (by omega)]
 have t:=qv (P:=λ i=>Ev (λ m k=>Jm m k l i) (pvL (qdT l i) (l.drop i))) l (by omega)
  (λ A=>by
   refine waF ?_;simp only[qoc,qfo];refine waE A (waD ?_);rw[wV];rfl)
  (λ i x v D A p C B=>by
   refine waF ?_;simp only[qoc,qfo,qk];have H:=qe1 (wb v);rw[qj0 v]at B;rw[D,pvL];have c:=qCQ (qdT l i) x
   have b:∀e:Int,pvK (qdT l i) x=e->e≠0->Ev (λ _ _=>some e) (thn (pvK (qdT l i) x) (pvL (some x.1) (l.drop (i+1)))):=λ e z s=>by
    rw[z];exact waD (by unfold thn;rw[if_neg s])
   have d:pvK (qdT l i) x=0->Ev (λ m k=>Jm m k l ((i+1:Nat):Int)) (thn (pvK (qdT l i) x) (pvL (some x.1) (l.drop (i+1)))):=λ z=>by
    rw[z];exact B.res (by unfold thn;rw[if_pos rfl])
   refine waC A (waB p (way (qcV x.1 (by omega)) (waz (λ r=>?_) λ r=>?_)))
   .rw[bnt,qj]at r;exact b _ (by rw[c,if_pos r]) r
   rw[bnf,ql]at r;rw[if_neg (by omega)]at c;refine waB p (way (qDz x.1) (waz (λ o=>?_) λ o=>?_))
   .exact b 1 (by rw[c,if_pos o]) (by decide)
   rw[if_neg (by rw[o];decide)]at c;refine waB p (waz (λ u=>?_) λ u=>?_)
   .rw[ql]at u;exact b 7 (by rw[c,if_pos (by omega)]) (by decide)
   rw[qj]at u;refine waB p (waz (λ n=>?_) λ n=>?_)
   .rw[qz]at n;exact b 7 (by rw[c,if_pos (by omega)]) (by decide)
   rw[qA]at n;refine waB p (waz (λ g=>?_) λ g=>?_)
   .rw[qz]at g;exact b 7 (by rw[c,if_pos (by omega)]) (by decide)
   rw[qA]at g;rw[if_neg (by omega)]at c;rw[C];refine waz (λ s=>?_) λ s=>?_
   .rw[qz]at s;obtain⟨j,rfl⟩:∃j,i=j+1:=⟨i-1,by omega⟩
    have y:j<l.length:=by have:=(List.getElem?_eq_some_iff.1 v).1;omega
    obtain⟨q,w⟩:∃q,l[j]?=some q:=⟨_,List.getElem?_eq_getElem y⟩
    have G:=qe1 (wb w);rw[qj0 w]at c b d |-
    simp only at c;refine waB (a:=q) (by rw[show yk ((j+1:Nat):Int) 1=((j:Nat):Int)from by unfold yk;omega,Qa (by omega),jo,w]) (waB p (way (qiH q.1 (by omega) x.1 (by omega)) (waz (λ f=>?_) λ f=>?_)))
    .rw[qhG]at f;exact b 5 (by rw[c,if_pos f]) (by decide)
    .rw[qiT]at f;exact d (by rw[c,if_neg (by omega)])
   .rw[qA]at s;have:i=0:=by omega
    subst this;exact d (by rw[c];rfl))
 refine waH (L:=λ m k=>Jm m k l 0) ?_;exact t 0 (we _)
end Go.AmZ
namespace Go.AmZ
open Go Go.GxZ
theorem qv0(A:List T)(x:T)(h:(A.take 9).length<9):A.take 9++[x]=(A++[x]).take 9:=by
 rw[wm]at h;rw[kI (by omega),kI (by rw[wd];simp only[wy,wY];omega)]
theorem qvh(A B:List T)(h:¬ (A.take 9).length<9):A.take 9=(A++B).take 9:=by
 rw[wm]at h;rw[kM (by omega)]
theorem qM8(l:List Pw)(C:l.length<=1000)(u:∀p∈l,p.2.natAbs<=1000):Ev (λ m _=>qeW m l) ((yn l++yr l).take 9):=by
 refine waG ?_;simp only[quU,qcn];have t:∀A:List T,(A.take 9).length<=9:=λ A=>by rw[wm];omega
 have w:=qv (P:=λ i=>Ev (λ m k=>(qm m k).2.2.1 l i ((yn l++yr (l.take i)).take 9)) ((yn l++yr l).take 9)) l (by omega)
  (λ g=>by
   refine waF ?_;simp only[qjD,qcb];refine waE g ?_;rw[wG];exact waA _)
  (λ i p o z g e q n=>by
   refine waF ?_;simp only[qjD,qcb];refine waC g ?_;have r:=u p (wb o);rw[ye o,qt6,qtI,<-wj]at n;generalize yn l++yr (l.take i)=A at *;have b:iw .i64 (yk 0 p.2)=-p.2:=by unfold yk;rw[Qa (by omega)];omega
   have v:=qpd (P:=λ j=>Ev (λ m k=>(qm m k).2.2.2 l i j ((A++List.replicate j (apT Jr [p.1])).take 9)) ((yn l++yr l).take 9)) (-p.2) (by omega)
    (by
     refine waF ?_;simp only[qjE,qci,qk];refine waB e (waE (by rw[b,qA];omega) ?_);rw[q];exact n)
    (λ j s c a=>by
     refine waF ?_;simp only[qjE,qci,qk];rw[vq,<-wj]at a;have B:=t (A++List.replicate j (apT Jr [p.1]));refine waB e (waC (by rw[b,qz];exact s) (waz (λ h=>?_) λ h=>?_))
     .rw[qz]at h;refine waB e (way (qeY [105,110,118] [p.1] (by simp)) (waC (zg (by omega) (by omega)) ?_));rw[c];refine a.congr λ m k=>?_;rw[<-qv0 _ _ (by omega)];rfl
     .rw[qA]at h;rw[q];refine n.congr λ m k=>?_;obtain⟨d,f⟩:∃d,(-p.2).toNat=j+d:=⟨(-p.2).toNat-j,by omega⟩
      rw[f,<-vU,<-wj,<-qvh (A++List.replicate j (apT Jr [p.1])) _ (by omega)])
   have:=v 0 (we _);rw[vx,ww]at this;exact this)
 have y:=qv (P:=λ i=>Ev (λ m k=>(qm m k).1 l i ((yn (l.take i)).take 9)) ((yn l++yr l).take 9)) l (by omega)
  (λ g=>by
   refine waF ?_;simp only[qjL,qcl];refine waE g ?_;rw[wG];have:=w 0 (we _);rw[xH,show yr []=[]from rfl,ww]at this;exact this)
  (λ i p o z g e q n=>by
   refine waF ?_;simp only[qjL,qcl];refine waC g ?_;have r:=u p (wb o);rw[ye o,qua,qu2]at n;generalize yn (l.take i)=A at*
   have x:=qpd (P:=λ j=>Ev (λ m k=>(qm m k).2.1 l i j ((A++List.replicate j p.1).take 9)) ((yn l++yr l).take 9)) p.2 (by omega)
    (by
     refine waF ?_;simp only[qjM,qb8,qk];refine waB e (waE (by rw[qA];omega) ?_);rw[q];exact n)
    (λ j s c a=>by
     refine waF ?_;simp only[qjM,qb8,qk];rw[vq,<-wj]at a;have B:=t (A++List.replicate j p.1);refine waB e (waC (by rw[qz];exact s) (waz (λ h=>?_) λ h=>?_))
     .rw[qz]at h;refine waB e (waC (zg (by omega) (by omega)) ?_);rw[c];refine a.congr λ m k=>?_;rw[<-qv0 _ _ (by omega)]
     .rw[qA]at h;rw[q];refine n.congr λ m k=>?_;obtain⟨d,f⟩:∃d,p.2.toNat=j+d:=⟨p.2.toNat-j,by omega⟩
      rw[f,<-vU,<-wj,<-qvh (A++List.replicate j p.1) _ (by omega)])
   have:=x 0 (we _);rw[vx,ww]at this;exact this)
 refine waH (L:=λ m k=>(qm m k).1 l 0 []) ?_;exact y 0 (we _)
theorem qOp(S:Nat):∀l:List Pw,(∀p∈l,size p.1<=S)->(∀x∈yn l,size x<=S)/\∀x∈yr l,size x<=1+S:=by
 intro l h;refine⟨λ x a=>?_,λ x a=>?_⟩
 .unfold yn at a;let⟨p,b,a⟩:=w7.1 a;rw[xn a];exact h p b
 .unfold yr at a;let⟨p,b,a⟩:=w7.1 a;rw[xn a,qD1];have:=h p b;omega
theorem qJ2(S:Nat):∀l:List T,(∀x∈l,size x<=S)->szL l<=l.length*S
 |[],_=>by simp[szL]
 |x::l,h=>by
   have c:=qJ2 S l λ q a=>h q (wg _ a);have b:=h x (wh ..);rw[qV,wy,wO];omega
theorem qB0(l:List Pw)(q:szP l<=1000000000):Ev (λ m _=>qda m l) (qbd l):=by
 refine waG ?_;simp only[qCn,qjw,qk];refine way (qtY l q) (waz (λ h=>?_) λ h=>?_)
 .rw[bnt,qj]at h;unfold qbd;rw[if_pos h];exact waA _
 rw[bnf,ql]at h;let⟨_,j,y,w⟩:=qbF h;have f:∀p∈l,size p.1<=400:=λ p s=>QS (w p s).1;rw[qrV h];let⟨n,k⟩:=qOp 400 l f
 have d:∀x∈yn l++yr l,size x<=401:=λ x c=>by
  obtain c|c:=wk.1 c
  .have:=n x c;omega
  .exact k x c
 refine way (qM8 l (by omega) y) ?_;generalize yn l++yr l=A at *;unfold qnj;refine waz (λ g=>?_) λ g=>?_
 .rw[qz,wm]at g;rw[if_pos (by omega)];exact waA _
 rw[qA,wm]at g;rw[if_neg (by omega),kI (by omega)];have z:=qJ2 401 A d;have t:=qFU A;have B:A.length*401<=8*401:=wu _ (by omega)
 have b:∀u:T,u=J4 A->Ev (λ m _=>qb (js m u) λ v=>cond (qe (ieq v 0)) (some (T.mk 0 [] 0 [],v)) (some (u,0))) (if qP (J4 A)≠0 then(zT,qP (J4 A))else(J4 A,0)):=by
  intro u o;subst o;refine way (qcV _ (by omega)) (waz (λ h=>?_) λ h=>?_)
  .rw[bnt,qj]at h;rw[if_pos h];exact waA _
  .rw[bnf,ql]at h;rw[if_neg (by omega)];exact waA _
 refine way (qeY [109,117,108] A (by omega)) (waz (λ i=>?_) λ i=>?_)
 .rw[ql]at i;refine way (qeY [111,110,101] [] (by simp)) (waE (qj.2 (by omega)) (b _ (by unfold J4;rw[if_pos (by omega)];rfl)))
 .rw[qj]at i;refine waz (λ e=>?_) λ e=>?_
  .rw[ql]at e;refine waB (a:=A.getD 0 zT) ?_ (b _ (by unfold J4;rw[if_neg (by omega),if_pos (by omega)]));rw[J2,List.getD_eq_getElem?_getD];cases A with
   |nil=>simp at e
   |cons x r=>rfl
  .rw[qj]at e;exact b _ (by unfold J4;rw[if_neg (by omega),if_neg (by omega)];rfl)
theorem qKn(l:List Pw)(n:l.length<=1000000000):Ev (λ m _=>qf5 m l) (if qnx l then 7 else if 200<l.length then 3 else 0):=by
 refine waG ?_;simp only[qvX,qde]
 have b:=qv (P:=λ i=>Ev (λ m k=>Jg m k l i) (if qnx (l.drop i)then(7:Int)else if 200<l.length then 3 else 0)) l (by omega)
  (λ c=>by
   refine waF ?_;simp only[qk3,qc7];rw[wV,if_neg (by decide)];refine waE c (waz (λ h=>?_) λ h=>?_)
   .rw[qz]at h;rw[if_pos (by omega)];exact waA _
   .rw[qA]at h;rw[if_neg (by omega)];exact waA _)
  (λ i p j f c d e g=>by
   refine waF ?_;simp only[qk3,qc7];rw[f,qzX];refine waC c (waB d (waz (λ h=>?_) λ h=>?_))
   .rw[qz]at h;rw[decide_eq_true h,xu,xu,if_pos rfl];exact waA _
   .rw[qA]at h;rw[decide_eq_false (show ¬ p.2 < -1000 by omega),xU];refine waB d (waz (λ a=>?_) λ a=>?_)
    .rw[qz]at a;rw[decide_eq_true a,xu,if_pos rfl];exact waA _
    .rw[qA]at a;rw[decide_eq_false (show ¬ 1000<p.2 by omega),xU,e];exact g)
 refine waH (L:=λ m k=>Jg m k l 0) ?_;exact(b 0 (we _)).res (by rw[wP])
theorem qNT(a b:List Pw)(E:szP a<=100000000)(D:szP b<=100000000):Ev (λ m _=>qmC m a b) (qln a b):=by
 have B:=qcJ b;have v:=qcJ a;refine waG ?_;simp only[qEP,qgS];rw[qw5];refine way (qtY a (by omega)) (waz (λ h=>?_) λ h=>?_)
 .rw[bnt,qj]at h;rw[if_pos h];exact waA _
 rw[bnf,ql]at h;rw[if_neg (by omega)];refine way (qtY b (by omega)) (waz (λ e=>?_) λ e=>?_)
 .rw[bnt,qj]at e;rw[if_pos e];exact waA _
 rw[bnf,ql]at e;rw[if_neg (by omega)]
 have g:=qv (P:=λ i=>Ev (λ m k=>qaF m k b i (Jf a (b.take i))) (qpn (Jf a b))) b (by omega)
  (λ j=>by
   refine waF ?_;simp only[qq7,qhc];rw[wG];let⟨_,q,_,_⟩:=qhP h e b.length;rw[wG]at q;refine waE j (way (qKn _ (by omega)) ?_);unfold qpn;by_cases f:qnx (Jf a b)=true
   .rw[if_pos f,if_pos f];exact waC rfl (waA _)
   .rw[if_neg f,if_neg f];by_cases d:200<(Jf a b).length
    .rw[if_pos d,if_pos d];exact waC rfl (waA _)
    .rw[if_neg d,if_neg d];exact waE rfl (waA _))
  (λ i p l C j o w y=>by
   refine waF ?_;simp only[qq7,qhc,qk];have n:=wb l;let⟨z,q,G,F⟩:=qhP h e i;let⟨_,_,u,s⟩:=qbF e;have A:=QS (s p n).1;have t:=u p n;refine waC j (waB o (waB o (way (qFw z p.1 p.2 (by omega) (by omega)) ?_)));rw[w];refine y.congr λ m k=>?_;rw[ye l,qzP])
 refine waC (zg (by simp only[wY];omega) (by omega)) ?_;have c:Ev (λ m _=>qaF m m b 0 a) (qpn (Jf a b)):=waH (L:=λ m k=>qaF m k b 0 a) (g 0 (we _));exact Ev.case (λ h=>by rw[h]at c |-;exact c) λ x r h=>by rw[h]at c |-;exact c
end Go.AmZ
namespace Go.AmZ
open Go Go.GxZ Go.Lib
theorem qmD{t:T}(h:qcF t=0):qP t=0/\zo t=0:=by
 unfold qcF at h;exact qgt h
theorem qpe{t:T}(h:zo t=0){n:List UInt8}(i:isN t n=true){a b c:Int}(g:qD n=(a,b,c)):a<=(t.kids.length:Int)/\(t.kids.length:Int)<=b/\∀k∈t.kids,zo k=0:=by
 obtain⟨d,rfl⟩:=yS.1 i;let⟨l,j⟩:=qaG d h;let⟨_,f,e,_⟩:=qoE d l;rw[g]at f e;exact⟨f,e,j⟩
end Go.AmZ
namespace Go.AmZ
open Go Go.GxZ
def Cl(P:T->Prop):Prop:=∀t:T,t.kind=3->P t->∀k∈t.kids,P k
theorem qmI:∀(n:Nat) (a b:List T),a.length+b.length<=n->∀x∈zu a b,x∈a\/x∈b
 |_,[],b,_,x,h=>by rw[zu]at h;exact .inr h
 |_,z::a,[],_,x,h=>by rw[zu]at h;exact .inl h
 |0,z::a,y::b,c,x,h=>by simp at c
 |n+1,z::a,y::b,c,x,h=>by
   simp only[wy]at c;rw[zu]at h;split at h
   .obtain rfl|h:=wx.1 h
    .exact .inl (wh ..)
    .rcases qmI n a (y::b) (by simp;omega) x h with h|h
     .exact .inl (wg _ h)
     .exact .inr h
   .split at h
    .obtain rfl|h:=wx.1 h
     .exact .inr (wh ..)
     .rcases qmI n (z::a) b (by simp;omega) x h with h|h
      .exact .inl h
      .exact .inr (wg _ h)
    .obtain h|h:=qmI n a b (by omega) x h
     .exact .inl (wg _ h)
     .exact .inr (wg _ h)
theorem qkU:∀(b:List (List T)) (a:List T),∀x∈b.foldl zu a,x∈a\/∃l∈b,x∈l
 |[],a,x,h=>.inl h
 |l::b,a,x,h=>by
   obtain h|⟨m,c,h⟩:=qkU b (zu a l) x h
   .obtain h|h:=qmI _ a l (wa _) x h
    .exact .inl h
    .exact .inr ⟨l,wh ..,h⟩
   .exact .inr ⟨m,wg _ c,h⟩
theorem qMY{P:T->Prop}(g:Cl P)(t:T):P t->∀x∈Qh t,P x:=by
 refine T.ind (P:=λ t=>P t->∀x∈Qh t,P x) ?_ t;intro t d b x a;rw[qlj]at a;split at a
 .cases a
 .split at a
  .rename_i e;obtain h|⟨l,f,h⟩:=qkU _ _ x a
   .cases h
   .obtain⟨k,c,rfl⟩:=wA.1 f;exact d k c (g t (yS.1 e).1 b k c) x h
  .rw[wF.1 a];exact b
theorem qz8{P:T->Prop}(e:Cl P){l:List T}(h:∀k∈l,P k):∀x∈yb l,P x:=by
 intro x b;obtain a|⟨m,c,a⟩:=qkU _ _ x b
 .cases a
 .obtain⟨k,d,rfl⟩:=wA.1 c;exact qMY e k (h k d) x a
theorem qNK{P:T->Prop}{l:List Pw}{t:T}(n:Int)(a:P t)(c:∀p∈l,P p.1):∀p∈yL l t n,P p.1:=by
 intro p b;obtain h|h:=qpC l t n p b
 .rw[h];exact a
 .exact c p h
theorem qOd{P:T->Prop}(f:Cl P)(t:T):P t->∀(l:List Pw) (n:Int),(∀p∈l,P p.1)->∀p∈jA t l n,P p.1:=by
 refine T.ind (P:=λ t=>P t->∀(l:List Pw) (n:Int),(∀p∈l,P p.1)->∀p∈jA t l n,P p.1) ?_ t;intro t d b l n a;rw[qgL];split
 .rename_i e;have g:=(qsM.1 e).1;exact qFI t.kids (qaW t n) (λ l=>∀p∈l,P p.1) (λ k c l a=>d k c (f t g b k c) l _ a) l a
 .exact qNK n b a
theorem qjc{P:T->Prop}(c:Cl P){t:T}(b:P t):∀p∈(ofP t).1,P p.1:=by
 intro p a;unfold ofP at a;split at a
 .cases a
 .split at a
  .cases a
  .split at a
   .cases a
   .exact qOd c t b [] 1 (λ _ h=>by cases h) p a
theorem qFO{P:T->Prop}{a b:List Pw}(g:∀p∈a,P p.1)(f:∀p∈b,P p.1):∀p∈(qln a b).1,P p.1:=by
 intro p c;unfold qln at c;split at c
 .cases c
 .split at c
  .cases c
  .split at c
   .cases c
   .split at c
    .cases c
    .obtain⟨q,d,e⟩|⟨q,d,e⟩:=quO b a p c
     .rw[<-e];exact g q d
     .rw[<-e];exact f q d
theorem qDC{l:List Pw}{x:T}(h:x∈yn l):∃p∈l,x=p.1:=by
 unfold yn at h;let⟨p,a,h⟩:=w7.1 h;exact⟨p,a,xn h⟩
theorem qEo{l:List Pw}{x:T}(h:x∈yr l):∃p∈l,x=apT Jr [p.1]:=by
 unfold yr at h;let⟨p,a,h⟩:=w7.1 h;exact⟨p,a,xn h⟩
theorem J1:Cl λ t=>zo t=0:=λ t a h=>(qaG a h).2
theorem qqR:∀(l:List Int),(∀y∈l,y=0)->l.foldl thn 0=0
 |[],_=>rfl
 |z::l,h=>by
   rw[QV,h z (wh ..)];exact qqR l λ y a=>h y (wg _ a)
theorem qi8{t:T}(h:qcw t=0)(c:∀k∈t.kids,zo k=0):zo t=0:=by
 rw[qn2];split
 .rfl
 .rw[h];refine qqR _ λ y b=>?_;obtain⟨k,a,rfl⟩:=wA.1 b;exact c k a
theorem qgi{n:List UInt8}{ks:List T}(b:(qD n).2.2≠0)(d:(qD n).1<=(ks.length:Int))(c:(ks.length:Int)<=(qD n).2.1)(a:qaz (apT n ks)=false):qcw (apT n ks)=0:=by
 unfold qcw;show(if(3:Int)≠3 then(0:Int)else if(qD n).2.2=0 then 10 else if(ks.length:Int)<(qD n).1\/(qD n).2.1<(ks.length:Int)then 6 else if qaz (apT n ks)then 10 else 0)=0;rw[if_neg (by decide),if_neg b,if_neg (by omega),a];rfl
theorem qkE{n:List UInt8}(c:n≠qhK)(b:n≠nSk)(a:n≠qt5)(ks:List T):qaz (apT n ks)=false:=by
 unfold qaz;rw[if_neg (show ¬ (apT n ks).name=qhK from c),if_neg (show ¬ ((apT n ks).name=nSk\/(apT n ks).name=qt5)from λ h=>h.elim b a)]
theorem qbK:zo zT=0:=by rw[qn2];rfl
theorem qa8{P:T->Prop}(c:Cl P)(a:P zT){t:T}(d:t.kind=3)(b:P t)(i:Nat):P (kid t i):=by
 by_cases h:i<t.kids.length
 .exact c t d b _ (qFB h)
 .unfold kid;rw[List.getD_eq_getElem?_getD,List.getElem?_eq_none (by omega)];exact a
theorem qsp{P:T->Prop}(a:P zT){l:List T}(h:∀x∈l,P x):P (l.getD 0 zT):=by
 cases l with
 |nil=>exact a
 |cons x r=>exact h x (wh ..)
theorem qKb{t:T}(c:t.kind=3)(h:qP t=0):t.kids.length<=8:=by
 unfold qP at h;split at h
 .rename_i b;exact absurd h b
 .rename_i b;have a:=(qiO (t:=t) (by omega)).1;unfold yU qf1 at a;rw[if_neg (by omega),if_pos c]at a;split at a
  .cases a
  .split at a
   .split at a
    .cases a
    .omega
   .cases a
theorem qzm{l:List Pw}(f:∀p∈l,zo p.1=0)(h:(qbd l).2=0):zo (qbd l).1=0:=by
 by_cases b:Ju l=0
 .rw[qrV b]at h |-
  unfold qnj at h |-
  by_cases g:8<(yn l++yr l).length
  .rw[if_pos g]at h;cases h
  rw[if_neg g]at h |-
  by_cases e:qP (J4 (yn l++yr l))=0
  .rw[if_neg (by omega)]
   have a:∀x∈yn l++yr l,zo x=0:=λ x c=>by
    obtain c|c:=wk.1 c
    .obtain⟨p,b,rfl⟩:=qDC c;exact f p b
    .obtain⟨p,b,rfl⟩:=qEo c;exact qi8 (qgi (by decide) (by show(1:Int)<=1;decide) (by show(1:Int)<=1;decide) (qkE (by decide) (by decide) (by decide) _)) λ k d=>by rw[wF.1 d];exact f p b
   generalize yn l++yr l=o at *;unfold J4;split
   .exact qi8 (qgi (by decide) (by show(0:Int)<=0;decide) (by show(0:Int)<=0;decide) (qkE (by decide) (by decide) (by decide) _)) λ k d=>by cases d
   .split
    .exact qsp (P:=λ t=>zo t=0) qbK a
    .rename_i j i;exact qi8 (qgi (by decide) (by show(2:Int)<=_;omega) (by show _<=(8:Int);omega) (qkE (by decide) (by decide) (by decide) _)) a
  .rw[if_pos e]at h;exact absurd h e
 .unfold qbd at h;rw[if_pos b]at h;exact absurd h b
theorem qBY{b:T}{l:List Pw}(e:zo b=0)(f:∀p∈l,zo p.1=0)(h:(qix b l).2=0):zo (qix b l).1=0:=by
 unfold qix at h |-
 split at h
 .rename_i d;rw[if_pos d];exact e
 .rename_i d;rw[if_neg d];split at h
  .rename_i c;exact absurd h c
  .rename_i c;rw[if_neg c];refine qi8 (qgi (by decide) (by show(2:Int)<=2;decide) (by show(2:Int)<=2;decide) (qkE (by decide) (by decide) (by decide) _)) λ k a=>?_;obtain rfl|a:=wx.1 a
   .exact e
   .rw[wF.1 a];exact qzm f (by omega)
theorem qLu{n:List UInt8}{ks:List T}(i:∀k∈ks,zo k=0)(A:qcw (apT n ks)=0)(a:(JZ (apT n ks)).2=0):zo (JZ (apT n ks)).1=0:=by
 have g:zo (apT n ks)=0:=qi8 A i;unfold JZ at a |-
 by_cases w:isD (apT n ks).name=true
 .rw[if_pos w];show zo (qjk _)=0;unfold qjk;split
  .rename_i c
   have m:(kid (apT n ks) 0).kind=3:=by
    unfold yo at c;split at c
    .exact(yS.1 c).1
    .split at c
     .rw[wc]at c;exact(yS.1 c.1).1
     .split at c
      .rw[wc,wc]at c;exact(yS.1 c.1.1).1
      .split at c
       .rw[wc,wc]at c;exact(yS.1 c.1.1).1
       .split at c
        .exact(yS.1 c).1
        .cases c
   exact qa8 J1 qbK m (qa8 J1 qbK rfl g 0) _
  .exact g
 rw[if_neg w]at a |-
 by_cases s:(apT n ks).name=qcS
 .rw[if_pos s]at a |-
  unfold qpM at a |-
  split at a
  .rename_i d;exact absurd a d
  rename_i d;rw[if_neg d];split at a
  .cases a
  rename_i h;rw[if_neg h];show zo (qah (yb ks))=0
  have l:qP (qah (yb ks))=0:=by
   have:¬ qP (qah (yb (apT n ks).kids))≠0:=h;exact xb this
  have f:=qz8 J1 i;generalize yb ks=o at *;unfold qah at l |-
  split
  .exact qi8 (qgi (by decide) (by show(0:Int)<=0;decide) (by show(0:Int)<=0;decide) (qkE (by decide) (by decide) (by decide) _)) λ k z=>by cases z
  .rename_i C;split
   .exact qsp (P:=λ t=>zo t=0) qbK f
   .rename_i B;rw[if_neg C,if_neg B]at l;have x:o.length<=8:=qKb (t:=apT qcS o) rfl l;exact qi8 (qgi (by decide) (by show(2:Int)<=_;omega) (by show _<=(8:Int);omega) (qkE (by decide) (by decide) (by decide) _)) f
 rw[if_neg s]at a |-
 by_cases u:(apT n ks).name=qei\/(apT n ks).name=Jr\/(apT n ks).name=qjv
 .rw[if_pos u]at a |-
  unfold qmH at a |-
  split at a
  .rename_i d;exact absurd a d
  rename_i d;rw[if_neg d];exact qzm (qjc J1 g) a
 rw[if_neg u]at a |-
 by_cases v:(apT n ks).name=qfw
 .rw[if_pos v]at a |-
  have p:=qa8 J1 qbK (t:=apT n ks) rfl g 0;have r:=qa8 J1 qbK (t:=apT n ks) rfl g 1;generalize kid (apT n ks) 0=b at *;generalize kid (apT n ks) 1=y at *;unfold qo3 at a |-
  split at a
  .rename_i d;exact absurd a d
  rename_i d;rw[if_neg d];split at a
  .rename_i e;rw[if_pos e];split at a
   .rename_i h;exact absurd a h
   rename_i h;rw[if_neg h];split at a
   .rename_i q;exact absurd a q
   rename_i q;rw[if_neg q];have j:=(yS.1 e).1;exact qBY (qa8 J1 qbK j p 0) (qFO (P:=λ t=>zo t=0) (qjc J1 (qa8 J1 qbK j p 1)) (qjc J1 r)) a
  .rename_i e;rw[if_neg e];exact qBY p (qjc J1 r) a
 .rw[if_neg v];exact g
theorem qkF:size zT=1:=by rw[q9];rfl
theorem qaY(t:T)(i:Nat):size (kid t i)<=size t:=by
 have:=size_pos t;by_cases h:i<t.kids.length
 .have:=jJ t _ (qFB h);omega
 .unfold kid;rw[List.getD_eq_getElem?_getD,List.getElem?_eq_none (by omega)];show size zT<=_;rw[qkF];omega
theorem qDO(l:List Pw):size (qbd l).1<=400:=by
 unfold qbd;have:=qkF;split
 .show size zT<=_;omega
 .split
  .show size zT<=_;omega
  .split
   .show size zT<=_;omega
   .rename_i h;exact QS (xb h)
theorem qGJ(b:T)(l:List Pw):size (qix b l).1<=401+size b:=by
 unfold qix;have:=qkF;have:=qDO l;split
 .show size b<=_;omega
 .split
  .show size zT<=_;omega
  .rw[q9];show 1+(size b+(size (qbd l).1+0))<=_;omega
theorem qOK(n:List UInt8)(ks:List T):size (JZ (apT n ks)).1<=402+szL ks:=by
 have d:=qkF;have e:size (apT n ks)=1+szL ks:=q9 _;unfold JZ;split
 .show size (qjk _)<=_;unfold qjk;split
  .have a:=qaY (apT n ks) 0;have c:=qaY (kid (apT n ks) 0) (if(apT n ks).name=qyn then 1 else 0);omega
  .omega
 .split
  .unfold qpM;split
   .show size zT<=_;omega
   .split
    .show size zT<=_;omega
    .have a:=qFq (yb (apT n ks).kids);have c:=qes (apT n ks).kids;have f:szL (apT n ks).kids=szL ks:=rfl;show size (qah _)<=_;omega
  .split
   .unfold qmH;split
    .show size zT<=_;omega
    .have:=qDO (ofP (apT n ks)).1;omega
   .split
    .have g:=qaY (apT n ks) 0;generalize kid (apT n ks) 0=b at *;generalize kid (apT n ks) 1=y at *;unfold qo3;split
     .show size zT<=_;omega
     .split
      .split
       .show size zT<=_;omega
       .split
        .show size zT<=_;omega
        .have a:=qGJ (kid b 0) (qln (ofP (kid b 1)).1 (ofP y).1).1;have c:=qaY b 0;omega
      .have a:=qGJ b (ofP y).1;omega
    .show size (apT n ks)<=_;omega
theorem qxK(t:T):size (zU t).1<=402*size t:=by
 refine T.ind (P:=λ t=>size (zU t).1<=402*size t) ?_ t;intro t b;have f:=qkF;have g:=size_pos t;rw[qof];split
 .show size t<=_;omega
 .split
  .show size zT<=_;omega
  .have e:=qOK t.name ((t.kids.map zU).map (·.1))
   have d:szL ((t.kids.map zU).map (·.1))<=402*szL t.kids:=by
    have:∀l:List T,(∀k∈l,k∈t.kids)->szL ((l.map zU).map (·.1))<=402*szL l:=by
     intro l
     induction l with
     |nil=>intro _;exact wa _
     |cons k l a=>
       intro h;have e:=b k (h k (wh ..));have d:=a λ x c=>h x (wg _ c);rw[wo,wo,qV,qV];omega
    exact this t.kids λ _ h=>h
   have i:size t=1+szL t.kids:=q9 t;omega
theorem qts:∀(l:List Int),l.foldl thn 0=0->∀y∈l,y=0
 |[],_,y,a=>by cases a
 |z::l,h,y,a=>by
   rw[QV]at h;by_cases b:z=0
   .subst b;obtain rfl|a:=wx.1 a
    .rfl
    .exact qts l h y a
   .rw[qT _ b]at h;exact absurd h b
theorem qja{t:T}(h:t.kind≠3):zU t=(t,0):=by rw[qof,if_pos h]
theorem qLD{t:T}(d:t.kind=3)(h:(zU t).2=0):(∀k∈t.kids,(zU k).2=0)/\zU t=JZ (apT t.name ((t.kids.map zU).map (·.1))):=by
 rw[qof,if_neg (λ c=>c d)]at h |-
 split at h
 .rename_i a;exact absurd h a
 .rename_i a;rw[if_neg a];refine⟨λ k b=>?_,rfl⟩;exact qts _ (xb a) _ (wA.2 ⟨_,wA.2 ⟨k,b,rfl⟩,rfl⟩)
theorem qMD(l:List T)(h:∀k∈l,k.kind≠3):(l.map zU).map (·.1)=l:=by
 induction l with
 |nil=>rfl
 |cons k l a=>
   rw[wo,wo,qja (h k (wh ..)),a λ x b=>h x (wg _ b)]
theorem qBJ{t:T}(j:t.kind=3)(h:qcw t=0):qcw (apT t.name ((t.kids.map zU).map (·.1)))=0:=by
 let⟨m,l,i,b⟩:=qoE j h;refine qgi m (by simpa using l) (by simpa using i) ?_;unfold qaz at b |-
 show(if t.name=qhK then decide ((kid (apT t.name ((t.kids.map zU).map (·.1))) 0).kind≠2)else if t.name=nSk\/t.name=qt5 then((t.kids.map zU).map (·.1)).any λ k=>decide (k.kind=3)||decide (k.sort≠1)else false)=false;split
 .rename_i c;rw[if_pos c]at b;have a:(kid t 0).kind=2:=by simpa using b
  cases e:t.kids with
  |nil=>
    unfold kid at a;rw[e]at a;exact absurd a (by decide)
  |cons x r=>
    have f:kid t 0=x:=by unfold kid;rw[e];rfl
    rw[f]at a;show decide ((zU x).1.kind≠2)=false;rw[qja (by omega)];simpa using a
 .rename_i c;rw[if_neg c]at b;split
  .rename_i g;rw[if_pos g]at b;rw[qMD t.kids λ k a d=>?_]
   .exact b
   .have:=List.any_eq_false.1 b k a;rw[d]at this;exact this rfl
  .rfl
theorem qMW(t:T):zo t=0->(zU t).2=0->zo (zU t).1=0:=by
 refine T.ind (P:=λ t=>zo t=0->(zU t).2=0->zo (zU t).1=0) ?_ t;intro t e d c;by_cases a:t.kind=3
 .let⟨i,h⟩:=qLD a c;let⟨m,l⟩:=qaG a d;rw[h]at c |-
  refine qLu (λ k g=>?_) (qBJ a m) c;obtain⟨q,f,rfl⟩:=wA.1 g;obtain⟨j,b,rfl⟩:=wA.1 f;exact e j b (l j b) (i j b)
 .rw[qja a];exact d
end Go.AmZ
namespace Go.AmZ
open Go Go.GxZ
theorem zG(t:T){b:Bool}(h:yo t=b):qjk t=if b then kid (kid t 0) (if t.name=qyn then 1 else 0)else t:=by unfold qjk;rw[h]
theorem qcu{t:T}(h:zo t=0){n:List UInt8}(e:isN t n=true){a b c:Int}(d:qD n=(a,b,c)){i:Nat}(f:(i:Int)<a):qf t.kids (i:Int)=some (kid t i):=by
 have:=(qpe h e d).1;exact qxD (by omega)
theorem qIj(t:T)(J:t.kind=3)(I:zo t=0)(D:isD t.name=true)(L:size t<=1000000000):Ev (λ m _=>qcH m t) (qjk t):=by
 have B:∀i,size (kid t i)<=size t:=qaY t;have r:∀i j,size (kid (kid t i) j)<=1000000000:=λ i j=>by have:=qaY (kid t i) j;have:=B i;omega
 have v:∀i j k,size (kid (kid (kid t i) j) k)<=1000000000:=λ i j k=>by have:=qaY (kid (kid t i) j) k;have:=r i j;omega
 have f:∀i,zo (kid t i)=0:=λ i=>qa8 J1 qbK J I i;have x:∀i j,(kid t i).kind=3->zo (kid (kid t i) j)=0:=λ i j h=>qa8 J1 qbK h (f i) j;have A:isN t t.name=true:=yS.2 ⟨J,rfl⟩;have H:∀{u:T}{n:List UInt8},zo u=0->isN u n=true->∀{b c:Int},qD n=(1,b,c)->qf u.kids 0=some (kid u 0):=λ h d _ _ e=>qcu (i:=0) h d e (by decide);have q:∀{u:T}{n:List UInt8},zo u=0->isN u n=true->∀{b c:Int},qD n=(2,b,c)->qf u.kids 0=some (kid u 0):=λ h d _ _ e=>qcu (i:=0) h d e (by decide);have p:∀{u:T}{n:List UInt8},zo u=0->isN u n=true->∀{b c:Int},qD n=(2,b,c)->qf u.kids 1=some (kid u 1):=λ h d _ _ e=>qcu (i:=1) h d e (by decide);have E:qD qoO=(2,2,1):=by decide
 have G:qD qpg=(2,2,1):=by decide
 have z:qD qiJ=(2,2,1):=by decide
 have F:qD nPk=(1,1,1):=by decide
 have y:qD qfb=(2,2,1):=by decide
 unfold isD at D;simp only[wU,beq_iff_eq]at D;refine waG ?_;simp only[quT,qfG,qk]
 have l:∀{a b c:Int},qD t.name=(a,b,c)->a=b->(t.kids.length:Int)=a:=λ e K=>by
  have:=qpe I A e;omega
 obtain ((((d|d)|d)|d)|d)|d:=D
 .have w:=l (a:=1) (b:=1) (c:=3) (by rw[d];decide) rfl;refine waB (qec (by omega)) (waE (qA.2 (by omega)) (waC (by rw[d];rfl) (way (qkb _ _) ?_)));have g:yo t=isN (kid t 0) qoO:=by unfold yo;rw[if_pos (.inl d)]
  refine waz (λ h=>?_) λ h=>?_
  .refine waB (q (f 0) h E) (waD ?_);rw[zG t (g.trans h),if_pos rfl,if_neg (by rw[d];decide)]
  .refine waD ?_;rw[zG t (g.trans h),if_neg (by decide)]
 .have w:=l (a:=1) (b:=1) (c:=3) (by rw[d];decide) rfl;refine waB (qec (by omega)) (waE (qA.2 (by omega)) (waE (by rw[d];rfl) (waC (by rw[d];rfl) (way (qkb _ _) ?_))));have g:yo t=isN (kid t 0) qoO:=by unfold yo;rw[if_pos (.inr d)]
  refine waz (λ h=>?_) λ h=>?_
  .refine waB (p (f 0) h E) (waD ?_);rw[zG t (g.trans h),if_pos rfl,if_pos d]
  .refine waD ?_;rw[zG t (g.trans h),if_neg (by decide)]
 .have w:=l (a:=2) (b:=2) (c:=3) (by rw[d];decide) rfl;refine waB (qec (by omega)) (waC (qz.2 (by omega)) (waB (qsv (by omega)) (waE (by rw[d];rfl) (waE (by rw[d];rfl) (waC (by rw[d];rfl) (way (qkb _ _) ?_))))));have g:yo t=(isN (kid t 0) qpg&&jt (kid (kid t 0) 1) (kid t 1)):=by unfold yo;rw[if_neg (by rw[d];decide),if_pos d]
  refine waz (λ h=>?_) λ h=>?_
  .refine waB (p (f 0) h G) (way (qpb _ _ (r 0 1) (by have:=B 1;omega)) (waz (λ o=>?_) λ o=>?_))
   .refine waB (q (f 0) h G) (waD ?_);rw[zG t (b:=true) (by rw[g,show isN (kid t 0) qpg=true from h,o];rfl),if_pos rfl,if_neg (by rw[d];decide)]
   .refine waD ?_;rw[zG t (b:=false) (by rw[g,o,xG]),if_neg (by decide)]
  .refine waD ?_;rw[zG t (b:=false) (by rw[g,show isN (kid t 0) qpg=false from h];rfl),if_neg (by decide)]
 .have w:=l (a:=2) (b:=2) (c:=3) (by rw[d];decide) rfl;refine waB (qec (by omega)) (waC (qz.2 (by omega)) (waB (qsv (by omega)) (waE (by rw[d];rfl) (waE (by rw[d];rfl) (waE (by rw[d];rfl) (waC (by rw[d];rfl) (way (qkb _ _) ?_)))))));have g:yo t=(isN (kid t 0) qiJ&&isN (kid (kid t 0) 1) nPk&&jt (kid (kid (kid t 0) 1) 0) (kid t 1)):=by unfold yo;rw[if_neg (by rw[d];decide),if_neg (by rw[d];decide),if_pos d]
  refine waz (λ h=>?_) λ h=>?_
  .have C:=(yS.1 h).1;refine waB (p (f 0) h z) (way (qkb _ _) (waz (λ o=>?_) λ o=>?_))
   .refine waB (p (f 0) h z) (waB (H (x 0 1 C) o F) (way (qpb _ _ (v 0 1 0) (by have:=B 1;omega)) (waz (λ s=>?_) λ s=>?_)))
    .refine waB (q (f 0) h z) (waD ?_);rw[zG t (b:=true) (by rw[g,show isN (kid t 0) qiJ=true from h,show isN (kid (kid t 0) 1) nPk=true from o,s];rfl),if_pos rfl,if_neg (by rw[d];decide)]
    .refine waD ?_;rw[zG t (b:=false) (by rw[g,s,xG]),if_neg (by decide)]
   .refine waD ?_;rw[zG t (b:=false) (by rw[g,show isN (kid (kid t 0) 1) nPk=false from o,xG,kV]),if_neg (by decide)]
  .refine waD ?_;rw[zG t (b:=false) (by rw[g,show isN (kid t 0) qiJ=false from h];rfl),if_neg (by decide)]
 .have w:=l (a:=2) (b:=2) (c:=3) (by rw[d];decide) rfl;refine waB (qec (by omega)) (waC (qz.2 (by omega)) (waB (qsv (by omega)) (waE (by rw[d];rfl) (waE (by rw[d];rfl) (waE (by rw[d];rfl) (waE (by rw[d];rfl) (waC (by rw[d];rfl) (way (qkb _ _) ?_))))))));have g:yo t=(isN (kid t 0) qfb&&isN (kid t 1) nPk&&jt (kid (kid t 0) 1) (kid (kid t 1) 0)):=by unfold yo;rw[if_neg (by rw[d];decide),if_neg (by rw[d];decide),if_neg (by rw[d];decide),if_pos d]
  refine waz (λ h=>?_) λ h=>?_
  .refine way (qkb _ _) (waz (λ o=>?_) λ o=>?_)
   .refine waB (p (f 0) h y) (waB (H (f 1) o F) (way (qpb _ _ (r 0 1) (r 1 0)) (waz (λ s=>?_) λ s=>?_)))
    .refine waB (q (f 0) h y) (waD ?_);rw[zG t (b:=true) (by rw[g,show isN (kid t 0) qfb=true from h,show isN (kid t 1) nPk=true from o,s];rfl),if_pos rfl,if_neg (by rw[d];decide)]
    .refine waD ?_;rw[zG t (b:=false) (by rw[g,s,xG]),if_neg (by decide)]
   .refine waD ?_;rw[zG t (b:=false) (by rw[g,show isN (kid t 1) nPk=false from o,xG,kV]),if_neg (by decide)]
  .refine waD ?_;rw[zG t (b:=false) (by rw[g,show isN (kid t 0) qfb=false from h];rfl),if_neg (by decide)]
 .have w:=l (a:=1) (b:=1) (c:=3) (by rw[d];decide) rfl;refine waB (qec (by omega)) (waE (qA.2 (by omega)) (waE (by rw[d];rfl) (waE (by rw[d];rfl) (waE (by rw[d];rfl) (waE (by rw[d];rfl) (waE (by rw[d];rfl) (waC (by rw[d];rfl) (way (qkb _ _) ?_))))))));have g:yo t=isN (kid t 0) qfb:=by unfold yo;rw[if_neg (by rw[d];decide),if_neg (by rw[d];decide),if_neg (by rw[d];decide),if_neg (by rw[d];decide),if_pos d]
  refine waz (λ h=>?_) λ h=>?_
  .refine waB (q (f 0) h y) (waD ?_);rw[zG t (g.trans h),if_pos rfl,if_neg (by rw[d];decide)]
  .refine waD ?_;rw[zG t (g.trans h),if_neg (by decide)]
end Go.AmZ
namespace Go.AmZ
open Go Go.GxZ
def qfH:T->Prop:=T.para λ t a=>(t.kind=3->t.sort=0)/\∀p∈a,p
theorem qnP(t:T):qfH t↔(t.kind=3->t.sort=0)/\∀k∈t.kids,qfH k:=by
 have h:qfH t=((t.kind=3->t.sort=0)/\∀p∈t.kids.map qfH,p):=T.para_eq _ _;rw[h];refine and_congr_right λ _=>⟨λ h k a=>h _ (kY a),λ h p b=>?_⟩
 obtain⟨k,a,rfl⟩:=wA.1 b;exact h k a
theorem qrs:Cl qfH:=λ t _ h=>((qnP t).1 h).2
theorem qCu:qfH zT:=(qnP zT).2 ⟨λ h=>absurd h (by decide),λ _ h=>by cases h⟩
theorem qGv(n:List UInt8)(ks:List T)(h:∀k∈ks,qfH k):qfH (apT n ks):=(qnP _).2 ⟨λ _=>rfl,h⟩
theorem qGQ{t:T}(a:t.kind=3)(h:yU t=0):t.sort=0:=by
 unfold yU qf1 at h;rw[if_neg (by omega),if_pos a]at h;split at h
 .cases h
 .omega
theorem qJE(t:T):jq t=0->qfH t:=by
 refine T.ind (P:=λ t=>jq t=0->qfH t) ?_ t;intro t b h;let⟨e,d⟩:=qiO h;exact(qnP t).2 ⟨λ c=>qGQ c e,λ k a=>b k a (d k a)⟩
theorem qEU{t:T}(h:qP t=0):jq t=0:=by
 unfold qP at h;split at h
 .rename_i a;exact absurd h a
 .rename_i a;exact xb a
theorem qNP{P:T->Prop}(s:Cl P)(f:P zT)(e:∀n ks,(∀k∈ks,P k)->P (apT n ks)){n:List UInt8}{ks:List T}(v:∀k∈ks,P k):P (JZ (apT n ks)).1:=by
 have q:=e n ks v;have a:∀{t:T} (i:Nat),P t->t.kind=3->P (kid t i):=λ i h E=>qa8 s f E h i
 have g:∀l:List Pw,(∀p∈l,P p.1)->P (qbd l).1:=by
  intro l z;unfold qbd;split
  .exact f
  .split
   .exact f
   .split
    .exact f
    .have c:∀x∈yn l++yr l,P x:=λ x u=>by
       obtain u|u:=wk.1 u
       .obtain⟨p,A,rfl⟩:=qDC u;exact z p A
       .obtain⟨p,A,rfl⟩:=qEo u;exact e _ _ λ k j=>by rw[wF.1 j];exact z p A
     show P (J4 _);generalize yn l++yr l=o at *;unfold J4;split
     .exact e _ _ λ k j=>by cases j
     .split
      .exact qsp f c
      .exact e _ _ c
 have m:∀(b:T) (l:List Pw),P b->(∀p∈l,P p.1)->P (qix b l).1:=by
  intro b l r z;unfold qix;split
  .exact r
  .split
   .exact f
   .refine e _ _ λ k j=>?_;obtain rfl|j:=wx.1 j
    .exact r
    .rw[wF.1 j];exact g l z
 unfold JZ;split
 .show P (qjk _);unfold qjk;split
  .rename_i d
   have B:(kid (apT n ks) 0).kind=3:=by
    unfold yo at d;split at d
    .exact(yS.1 d).1
    .split at d
     .rw[wc]at d;exact(yS.1 d.1).1
     .split at d
      .rw[wc,wc]at d;exact(yS.1 d.1.1).1
      .split at d
       .rw[wc,wc]at d;exact(yS.1 d.1.1).1
       .split at d
        .exact(yS.1 d).1
        .cases d
   exact a _ (a 0 q rfl) B
  .exact q
 .split
  .unfold qpM;split
   .exact f
   .split
    .exact f
    .have c:=qz8 s v;show P (qah (yb ks));generalize yb ks=o at *;unfold qah;split
     .exact e _ _ λ k j=>by cases j
     .split
      .exact qsp f c
      .exact e _ _ c
  .split
   .unfold qmH;split
    .exact f
    .exact g _ (qjc s q)
   .split
    .have r:=a (t:=apT n ks) 0 q rfl;have D:=a (t:=apT n ks) 1 q rfl;generalize kid (apT n ks) 0=b at *;generalize kid (apT n ks) 1=y at *;unfold qo3;split
     .exact f
     .split
      .rename_i C;have w:=(yS.1 C).1;split
       .exact f
       .split
        .exact f
        .exact m _ _ (a 0 r w) (qFO (qjc s (a 1 r w)) (qjc s D))
      .exact m _ _ r (qjc s D)
    .exact q
theorem qNY{P:T->Prop}(d:Cl P)(b:P zT)(a:∀n ks,(∀k∈ks,P k)->P (apT n ks))(t:T):P t->P (zU t).1:=by
 refine T.ind (P:=λ t=>P t->P (zU t).1) ?_ t;intro t e h;rw[qof];split
 .exact h
 .rename_i i;split
  .exact b
  .refine qNP d b a λ k g=>?_;obtain⟨q,f,rfl⟩:=wA.1 g;obtain⟨j,c,rfl⟩:=wA.1 f;exact e j c (d t (xb i) h j c)
theorem qFp{u x:T}(m:zo u=0)(l:qfH u):jt u (apT nPk [x])=(isN u nPk&&jt (kid u 0) x):=by
 rw[xm,wc,qbz,qbz];constructor
 .rintro rfl;exact⟨yS.2 ⟨rfl,rfl⟩,rfl⟩
 .rintro⟨h,j⟩;let⟨f,g⟩:=yS.1 h;have e:=qpe m h (a:=1) (b:=1) (c:=1) (by decide);have d:=((qnP u).1 l).1 f;cases u with
  |mk k n so ks=>
    have f:k=3:=f;have g:n=nPk:=g;have d:so=0:=d
    have i:ks.length=1:=by
     have h:(1:Int)<=(ks.length:Int):=e.1;have j:(ks.length:Int)<=1:=e.2.1;omega
    cases ks with
    |nil=>cases i
    |cons y r=>
      cases r with
      |nil=>
        have:y=x:=j;subst f;subst g;subst d;subst this;rfl
      |cons z r=>simp at i
theorem qwy(a b:T):jt a b=jt b a:=by
 rw[xm,qbz,qbz];exact eq_comm
theorem qER(t:T)(G:t.kind=3)(K:zo t=0)(E:qfH t)(F:isD t.name=true)(M:size t<=900000000):Ev (λ m _=>qgb m t) (qjk t,yo t):=by
 have B:∀i,size (kid t i)<=size t:=qaY t;have s:∀i j,size (kid (kid t i) j)<=900000000:=λ i j=>by have:=qaY (kid t i) j;have:=B i;omega
 have k:∀i,zo (kid t i)=0:=λ i=>qa8 J1 qbK G K i;have A:∀i j,(kid t i).kind=3->zo (kid (kid t i) j)=0:=λ i j h=>qa8 J1 qbK h (k i) j;have w:∀i,qfH (kid t i):=λ i=>qa8 qrs qCu G E i;have v:∀i j,(kid t i).kind=3->qfH (kid (kid t i) j):=λ i j h=>qa8 qrs qCu h (w i) j;have D:isN t t.name=true:=yS.2 ⟨G,rfl⟩;have p:∀{u:T}{n:List UInt8},zo u=0->isN u n=true->∀{b c:Int},qD n=(2,b,c)->qf u.kids 0=some (kid u 0):=λ h d _ _ e=>qcu (i:=0) h d e (by decide);have r:∀{u:T}{n:List UInt8},zo u=0->isN u n=true->∀{b c:Int},qD n=(2,b,c)->qf u.kids 1=some (kid u 1):=λ h d _ _ e=>qcu (i:=1) h d e (by decide);have H:qD qoO=(2,2,1):=by decide
 have I:qD qpg=(2,2,1):=by decide
 have J:qD qiJ=(2,2,1):=by decide
 have C:qD qfb=(2,2,1):=by decide
 unfold isD at F;simp only[wU,beq_iff_eq]at F;refine waG ?_;simp only[qvy,qgp,qk]
 have o:∀{a b c:Int},qD t.name=(a,b,c)->a=b->(t.kids.length:Int)=a:=λ e L=>by
  have:=qpe K D e;omega
 have l:∀x:T,size (apT nPk [x])=1+size x:=λ x=>by rw[q9];show 1+(size x+0)=_;omega
 obtain ((((d|d)|d)|d)|d)|d:=F
 .have y:=o (a:=1) (b:=1) (c:=3) (by rw[d];decide) rfl;refine waB (qec (by omega)) (waC (by rw[d];rfl) (way (qlr _ _) ?_));have f:yo t=isN (kid t 0) qoO:=by unfold yo;rw[if_pos (.inl d)]
  refine waz (λ h=>?_) λ h=>?_
  .refine waB (p (k 0) h H) (waD ?_);rw[zG t (f.trans h),if_pos rfl,if_neg (by rw[d];decide),f.trans h]
  .repeat (refine waE (by rw[d];rfl) ?_)
   refine waD ?_;rw[zG t (f.trans h),if_neg (by decide),f.trans h]
 .have y:=o (a:=1) (b:=1) (c:=3) (by rw[d];decide) rfl;refine waB (qec (by omega)) (waE (by rw[d];rfl) (waC (by rw[d];rfl) (way (qlr _ _) ?_)));have f:yo t=isN (kid t 0) qoO:=by unfold yo;rw[if_pos (.inr d)]
  refine waz (λ h=>?_) λ h=>?_
  .refine waB (r (k 0) h H) (waD ?_);rw[zG t (f.trans h),if_pos rfl,if_pos d,f.trans h]
  .repeat (refine waE (by rw[d];rfl) ?_)
   refine waD ?_;rw[zG t (f.trans h),if_neg (by decide),f.trans h]
 .have y:=o (a:=2) (b:=2) (c:=3) (by rw[d];decide) rfl;refine waB (qec (by omega)) (waE (by rw[d];rfl) (waE (by rw[d];rfl) (waC (by rw[d];rfl) (way (qlr _ _) ?_))));have f:yo t=(isN (kid t 0) qpg&&jt (kid (kid t 0) 1) (kid t 1)):=by unfold yo;rw[if_neg (by rw[d];decide),if_pos d]
  refine waz (λ h=>?_) λ h=>?_
  .refine waB (r (k 0) h I) (waB (qsv (by omega)) (way (qgm _ _ (by have:=s 0 1;omega) (by have:=B 1;omega)) (waz (λ q=>?_) λ q=>?_)))
   .have g:yo t=true:=by rw[f,show isN (kid t 0) qpg=true from h,q];rfl
    refine waB (p (k 0) h I) (waD ?_);rw[zG t g,if_pos rfl,if_neg (by rw[d];decide),g]
   .have g:yo t=false:=by rw[f,q,xG]
    repeat (refine waE (by rw[d];rfl) ?_)
    refine waD ?_;rw[zG t g,if_neg (by decide),g]
  .have g:yo t=false:=by rw[f,show isN (kid t 0) qpg=false from h];rfl
   repeat (refine waE (by rw[d];rfl) ?_)
   refine waD ?_;rw[zG t g,if_neg (by decide),g]
 .have y:=o (a:=2) (b:=2) (c:=3) (by rw[d];decide) rfl;refine waB (qec (by omega)) (waE (by rw[d];rfl) (waE (by rw[d];rfl) (waE (by rw[d];rfl) (waC (by rw[d];rfl) (way (qlr _ _) ?_)))));have f:yo t=(isN (kid t 0) qiJ&&isN (kid (kid t 0) 1) nPk&&jt (kid (kid (kid t 0) 1) 0) (kid t 1)):=by unfold yo;rw[if_neg (by rw[d];decide),if_neg (by rw[d];decide),if_pos d]
  refine waz (λ h=>?_) λ h=>?_
  .have z:=(yS.1 h).1;refine waB (r (k 0) h J) (waB (qsv (by omega)) (way (qeY nPk [kid t 1] (by simp)) (way (qgm _ _ (by have:=s 0 1;omega) (by rw[l];have:=B 1;omega)) ?_)));rw[qFp (A 0 1 z) (v 0 1 z)];refine waz (λ q=>?_) λ q=>?_
   .have g:yo t=true:=by rw[f,show isN (kid t 0) qiJ=true from h,kg,q]
    refine waB (p (k 0) h J) (waD ?_);rw[zG t g,if_pos rfl,if_neg (by rw[d];decide),g]
   .have g:yo t=false:=by rw[f,show isN (kid t 0) qiJ=true from h,kg,q]
    repeat (refine waE (by rw[d];rfl) ?_)
    refine waD ?_;rw[zG t g,if_neg (by decide),g]
  .have g:yo t=false:=by rw[f,show isN (kid t 0) qiJ=false from h];rfl
   repeat (refine waE (by rw[d];rfl) ?_)
   refine waD ?_;rw[zG t g,if_neg (by decide),g]
 .have y:=o (a:=2) (b:=2) (c:=3) (by rw[d];decide) rfl;refine waB (qec (by omega)) (waE (by rw[d];rfl) (waE (by rw[d];rfl) (waE (by rw[d];rfl) (waE (by rw[d];rfl) (waC (by rw[d];rfl) (way (qlr _ _) ?_))))));have f:yo t=(isN (kid t 0) qfb&&isN (kid t 1) nPk&&jt (kid (kid t 0) 1) (kid (kid t 1) 0)):=by unfold yo;rw[if_neg (by rw[d];decide),if_neg (by rw[d];decide),if_neg (by rw[d];decide),if_pos d]
  refine waz (λ h=>?_) λ h=>?_
  .refine waB (qsv (by omega)) (waB (r (k 0) h C) (way (qeY nPk [kid (kid t 0) 1] (by simp)) (way (qgm _ _ (by have:=B 1;omega) (by rw[l];have:=s 0 1;omega)) ?_)));rw[qFp (k 1) (w 1),qwy (kid (kid t 1) 0)];refine waz (λ q=>?_) λ q=>?_
   .have g:yo t=true:=by rw[f,show isN (kid t 0) qfb=true from h,kg,q]
    refine waB (p (k 0) h C) (waD ?_);rw[zG t g,if_pos rfl,if_neg (by rw[d];decide),g]
   .have g:yo t=false:=by rw[f,show isN (kid t 0) qfb=true from h,kg,q]
    repeat (refine waE (by rw[d];rfl) ?_)
    refine waD ?_;rw[zG t g,if_neg (by decide),g]
  .have g:yo t=false:=by rw[f,show isN (kid t 0) qfb=false from h];rfl
   repeat (refine waE (by rw[d];rfl) ?_)
   refine waD ?_;rw[zG t g,if_neg (by decide),g]
 .have y:=o (a:=1) (b:=1) (c:=3) (by rw[d];decide) rfl;refine waB (qec (by omega)) (waE (by rw[d];rfl) (waE (by rw[d];rfl) (waE (by rw[d];rfl) (waE (by rw[d];rfl) (waE (by rw[d];rfl) (waC (by rw[d];rfl) (way (qlr _ _) ?_)))))));have f:yo t=isN (kid t 0) qfb:=by unfold yo;rw[if_neg (by rw[d];decide),if_neg (by rw[d];decide),if_neg (by rw[d];decide),if_neg (by rw[d];decide),if_pos d]
  refine waz (λ h=>?_) λ h=>?_
  .refine waB (p (k 0) h C) (waD ?_);rw[zG t (f.trans h),if_pos rfl,if_neg (by rw[d];decide),f.trans h]
  .repeat (refine waE (by rw[d];rfl) ?_)
   refine waD ?_;rw[zG t (f.trans h),if_neg (by decide),f.trans h]
end Go.AmZ
namespace Go.AmZ
open Go Go.GxZ
theorem qjb(t:T):szP (ofP t).1<=400:=by
 unfold ofP;split
 .exact we _
 .rename_i h;split
  .exact we _
  .split
   .exact we _
   .have c:=qFJ t [] 1;have b:=QS (xb h);have a:szP ([]:List Pw)=0:=rfl;show szP (jA t [] 1)<=_;omega
theorem qFm(a b:List Pw):szP (qln a b).1<=160000:=by
 unfold qln;split
 .exact we _
 .rename_i d;split
  .exact we _
  .rename_i c;split
   .exact we _
   .split
    .exact we _
    .let⟨_,_,h,_⟩:=qhP (xb d) (xb c) b.length;rw[wG]at h;exact h
theorem qLb(b e:T)(k:zo b=0)(n:size b<=1000000000)(j:size e<=1000000000):Ev (λ m _=>qhW m b e) (qo3 b e):=by
 refine waG ?_;simp only[qyC,qhT,qk]
 have g:∀(l:List Pw) (x:T),szP l<=1000000000->Ev (λ m _=>cond (ieq (l.length:Int) 0) (some (x,(0:Int))) (qb (Jp m l) λ v=>cond (qe (ieq v.2 0)) (some (T.mk 0 [] 0 [],v.2)) (qb (qhN m [101,120,112] [x,v.1]) λ w=>some (w,0)))) (qix x l):=by
  intro l x o;unfold qix;refine waz (λ h=>?_) λ h=>?_
  .rw[ql]at h;rw[if_pos (by omega)];exact waA _
  .rw[qj]at h;rw[if_neg (by omega)];refine way (qCU l o) (waz (λ h=>?_) λ h=>?_)
   .rw[bnt,qj]at h;rw[if_pos h];exact waA _
   .rw[bnf,ql]at h;rw[if_neg (by omega)];exact way (qO6 _ _) (waA _)
 unfold qo3;refine way (qCi e j) (waz (λ h=>?_) λ h=>?_)
 .rw[bnt,qj]at h;rw[if_pos h];exact waA _
 rw[bnf,ql]at h;rw[if_neg (by omega)];refine way (qkb _ _) (waz (λ f=>?_) λ f=>?_)
 .rw[if_pos (show isN b qfw=true from f)];have s:=qaY b 1;refine waB (qcu (i:=1) k f (a:=2) (b:=2) (c:=1) (by decide) (by decide)) (way (qCi _ (by omega)) (waz (λ d=>?_) λ d=>?_))
  .rw[bnt,qj]at d;rw[if_pos d];exact waA _
  rw[bnf,ql]at d;rw[if_neg (by omega)];have r:=qjb (kid b 1);have p:=qjb e;have q:=qFm (ofP (kid b 1)).1 (ofP e).1;refine way (qOb _ _ (by omega) (by omega)) (waz (λ d=>?_) λ d=>?_)
  .rw[bnt,qj]at d;rw[if_pos d];exact waA _
  rw[bnf,ql]at d;rw[if_neg (by omega)];exact waB (qcu (i:=0) k f (a:=2) (b:=2) (c:=1) (by decide) (by decide)) (g _ _ (by omega))
 .rw[if_neg (by rw[show isN b qfw=false from f];decide)];have p:=qjb e;exact g _ _ (by omega)
theorem qKB(b e:T)(k:zo b=0)(n:size b<=1000000000)(j:size e<=1000000000):Ev (λ m _=>qiK m b e) (qo3 b e):=by
 refine waG ?_;simp only[qAM,qiw,qk]
 have g:∀(l:List Pw) (x:T),szP l<=1000000000->Ev (λ m _=>cond (ieq (l.length:Int) 0) (some (x,(0:Int))) (qb (qda m l) λ v=>cond (qe (ieq v.2 0)) (some (T.mk 0 [] 0 [],v.2)) (qb (yF m [101,120,112] [x,v.1]) λ w=>some (w,0)))) (qix x l):=by
  intro l x o;unfold qix;refine waz (λ h=>?_) λ h=>?_
  .rw[ql]at h;rw[if_pos (by omega)];exact waA _
  .rw[qj]at h;rw[if_neg (by omega)];refine way (qB0 l o) (waz (λ h=>?_) λ h=>?_)
   .rw[bnt,qj]at h;rw[if_pos h];exact waA _
   .rw[bnf,ql]at h;rw[if_neg (by omega)];exact way (qeY _ _ (by simp)) (waA _)
 unfold qo3;refine way (qB1 e j) (waz (λ h=>?_) λ h=>?_)
 .rw[bnt,qj]at h;rw[if_pos h];exact waA _
 rw[bnf,ql]at h;rw[if_neg (by omega)];refine way (qlr _ _) (waz (λ f=>?_) λ f=>?_)
 .rw[if_pos (show isN b qfw=true from f)];have s:=qaY b 1;refine waB (qcu (i:=1) k f (a:=2) (b:=2) (c:=1) (by decide) (by decide)) (way (qB1 _ (by omega)) (waz (λ d=>?_) λ d=>?_))
  .rw[bnt,qj]at d;rw[if_pos d];exact waA _
  rw[bnf,ql]at d;rw[if_neg (by omega)];have r:=qjb (kid b 1);have p:=qjb e;have q:=qFm (ofP (kid b 1)).1 (ofP e).1;refine way (qNT _ _ (by omega) (by omega)) (waz (λ d=>?_) λ d=>?_)
  .rw[bnt,qj]at d;rw[if_pos d];exact waA _
  rw[bnf,ql]at d;rw[if_neg (by omega)];exact waB (qcu (i:=0) k f (a:=2) (b:=2) (c:=1) (by decide) (by decide)) (g _ _ (by omega))
 .rw[if_neg (by rw[show isN b qfw=false from f];decide)];have p:=qjb e;exact g _ _ (by omega)
theorem qEt{t:T}(h:isD t.name=true):JZ t=(qjk t,0):=by unfold JZ;rw[if_pos h]
theorem qCW{t:T}(h:t.name=qcS):JZ t=qpM t.kids:=by unfold JZ;rw[if_neg (by rw[h];decide),if_pos h]
theorem qCo{t:T}(h:t.name=qei\/t.name=Jr\/t.name=qjv):JZ t=qmH t:=by
 unfold JZ;rw[if_neg (by obtain h|h|h:=h<;>rw[h]<;>decide),if_neg (by obtain h|h|h:=h<;>rw[h]<;>decide),if_pos h]
theorem qDm{t:T}(h:t.name=qfw):JZ t=qo3 (kid t 0) (kid t 1):=by
 unfold JZ;rw[if_neg (by rw[h];decide),if_neg (by rw[h];decide),if_neg (by rw[h];decide),if_pos h]
theorem qzx{t:T}(d:isD t.name=false)(c:t.name≠qcS)(b:¬ (t.name=qei\/t.name=Jr\/t.name=qjv))(a:t.name≠qfw):JZ t=(t,0):=by
 unfold JZ;rw[if_neg (by rw[d];decide),if_neg c,if_neg b,if_neg a]
theorem qJk(n:List UInt8):(qD n).2.2=3↔isD n=true:=by
 constructor
 .intro h;obtain b|⟨r,c,a,b⟩:=qwF n
  .rw[qvM b]at h;cases h
  .rw[qoT b]at h;have:jQ.all (λ r => !decide (r.2.2.2=3)||isD r.1)=true:=by decide
   have:=wv.1 this r c;rw[decide_eq_true h]at this;rw[<-a];exact this
 .intro h;unfold isD at h;simp only[wU,beq_iff_eq]at h;obtain ((((a|a)|a)|a)|a)|a:=h<;>rw[a]<;>decide
def nks(l:List T):List T:=(l.map zU).map (·.1)
theorem qsU(l:List T):(nks l).length=l.length:=by unfold nks;simp
theorem qIZ(l:List T):szL (nks l)<=402*szL l:=by
 induction l with
 |nil=>exact wa _
 |cons k l a=>
   have:=qxK k;show szL ((zU k).1::nks l)<=_;rw[qV,qV];omega
theorem qC4{l:List T}{i:Nat}{x:T}(h:l[i]?=some x):nks (l.take (i+1))=nks (l.take i)++[(zU x).1]:=by
 unfold nks;rw[ye h,wW,wW];rfl
def erN(l:List T):Int:=((l.map zU).map (·.2)).foldl thn 0
theorem qEr{l:List T}{i:Nat}{x:T}(h:l.drop i=x::l.drop (i+1)):erN (l.drop i)=if(zU x).2≠0 then(zU x).2 else erN (l.drop (i+1)):=by
 unfold erN;rw[h,wo,wo];by_cases a:(zU x).2=0
 .rw[if_neg (by omega),a];rfl
 .rw[if_pos a];exact qT _ a
theorem qGs{t:T}(a:t.kind=3):zU t=if erN t.kids≠0 then(zT,erN t.kids)else JZ (apT t.name (nks t.kids)):=by rw[qof,if_neg (λ h=>h a)];rfl
theorem qFg{t:T}(c:t.kind=3)(f:zo t=0)(e:∀k∈t.kids,(zU k).2=0):zo (apT t.name (nks t.kids))=0/\∀k∈nks t.kids,zo k=0:=by
 let⟨h,g⟩:=qaG c f
 have a:∀k∈nks t.kids,zo k=0:=λ k a=>by
  obtain⟨q,d,rfl⟩:=wA.1 a;obtain⟨j,b,rfl⟩:=wA.1 d;exact qMW j (g j b) (e j b)
 exact⟨qi8 (qBJ c h) a,a⟩
theorem qJh(t:T):size t<=2000->zo t=0->Ev (λ m _=>yD m t) (zU t):=by
 induction t using T.ind with
 |h t F=>
   intro hs E;have hl:=yC t;have hz:=q9 t;refine waG ?_;simp only[qwx,qc2,qk];by_cases n:t.kind=3
   rotate_left
   .refine waC (bnt.2 (qj.2 n)) (waD (qja n).symm)
   refine waE (bnf.2 (ql.2 n)) ?_;rw[qGs n];have y:=(qaG n E).2
   have s:=qv (P:=λ i=>(∀k∈t.kids.take i,(zU k).2=0)->Ev (λ m k=>Q4 m (yD m) k t.kids t.kids.length i t.kind t.name t.sort t.kids 0 [] 0 3 t.name 0 [] (nks (t.kids.take i))) (if erN (t.kids.drop i)≠0 then(zT,erN (t.kids.drop i))else JZ (apT t.name (nks t.kids)))) t.kids (by omega)
    (λ g q=>by
     refine waF ?_;simp only[qkO,qdl,qk];refine waE g ?_;rw[wG]at q |-
     rw[wV,if_neg (show ¬ erN []≠0 from λ h=>h rfl)];let⟨r,c2⟩:=qFg n E q;have Y:=qIZ t.kids;have X:szL t.kids+1=size t:=by unfold szL;omega
     have H:=qsU t.kids;generalize nks t.kids=ks at *;have G:T.mk 3 t.name 0 ks=apT t.name ks:=rfl;rw[G];have W:size (apT t.name ks)=1+szL ks:=q9 _
     have e:isD t.name=true->Ev (λ m _=>qb (qcH m (apT t.name ks)) λ v=>some (v,(0:Int))) (JZ (apT t.name ks)):=λ l=>by
      rw[qEt (show isD (apT t.name ks).name=true from l)];exact way (qIj _ rfl r l (by omega)) (waA _)
     have f:t.name=qei\/t.name=Jr\/t.name=qjv->Ev (λ m _=>qb (qb6 m (apT t.name ks)) λ v=>cond (qe (ieq v.2 0)) (some (T.mk 0 [] 0 [],v.2)) (qb (Jp m v.1) λ w=>some (w.1,w.2))) (JZ (apT t.name ks)):=λ p=>by
      rw[qCo (show(apT t.name ks).name=qei\/(apT t.name ks).name=Jr\/(apT t.name ks).name=qjv from p)];unfold qmH;have A:=qjb (apT t.name ks);refine way (qCi _ (by omega)) (waz (λ h=>?_) λ h=>?_)
      .rw[bnt,qj]at h;rw[if_pos h];exact waA _
      .rw[bnf,ql]at h;rw[if_neg (by omega)];exact way (qCU _ (by omega)) (waA _)
     refine waz (λ h=>e (by rw[jd.1 h];decide)) λ V=>?_;refine waz (λ h=>e (by rw[jd.1 h];decide)) λ U=>?_;refine waz (λ h=>e (by rw[jd.1 h];decide)) λ B=>?_;refine waz (λ h=>e (by rw[jd.1 h];decide)) λ A=>?_;refine waz (λ h=>e (by rw[jd.1 h];decide)) λ S=>?_;refine waz (λ h=>e (by rw[jd.1 h];decide)) λ R=>?_;refine waz (λ h=>?_) λ Q=>?_
     .rw[qCW (show(apT t.name ks).name=qcS from jd.1 h)];exact way (qOc ks (by omega)) (waA _)
     refine waz (λ h=>f (.inl (jd.1 h))) λ O=>?_;refine waz (λ h=>f (.inr (.inl (jd.1 h)))) λ N=>?_;refine waz (λ h=>f (.inr (.inr (jd.1 h)))) λ D=>?_;refine waz (λ h=>?_) λ C=>?_
     .have d:t.name=qfw:=jd.1 h;rw[qDm (show(apT t.name ks).name=qfw from d)];have o:isN (apT t.name ks) qfw=true:=yS.2 ⟨rfl,d⟩;have q0:=qaY (apT t.name ks) 0;have Z:=qaY (apT t.name ks) 1;refine waB (qcu (t:=apT t.name ks) (i:=0) r o (a:=2) (b:=2) (c:=1) (by decide) (by decide)) (waB (qcu (t:=apT t.name ks) (i:=1) r o (a:=2) (b:=2) (c:=1) (by decide) (by decide)) ?_);exact way (qLb _ _ (qa8 J1 qbK rfl r 0) (by omega) (by omega)) (waA _)
     .rw[qzx (t:=apT t.name ks) (show isD t.name=false from by
         rw[<-kz];intro l;unfold isD at l;simp only[wU,beq_iff_eq]at l;obtain ((((d|d)|d)|d)|d)|d:=l
         .exact Qg.1 V d
         .exact Qg.1 U d
         .exact Qg.1 B d
         .exact Qg.1 A d
         .exact Qg.1 S d
         .exact Qg.1 R d) (Qg.1 Q) (λ h=>by obtain h|h|h:=h;exact Qg.1 O h;exact Qg.1 N h;exact Qg.1 D h) (Qg.1 C)]
      exact waA _)
    (λ i x u l g M K z q=>by
     refine waF ?_;simp only[qkO,qdl,qk];have p:=wb u;have I:=jJ t x p;rw[qEr l];refine waC g (waB M (way (F x p (by omega) (y x p)) (waz (λ h=>?_) λ h=>?_)))
     .rw[bnt,qj]at h;rw[if_pos (show(if(zU x).2≠0 then(zU x).2 else erN (t.kids.drop (i+1)))≠0 from by rw[if_pos h];exact h),if_pos h];exact waA _
     .rw[bnf,ql]at h;rw[if_neg (show ¬ (zU x).2≠0 from by omega)];have A:(nks (t.kids.take i)).length<=t.kids.length:=by rw[qsU,wm];omega
      refine waC (zg (by omega) (by omega)) ?_
      have z:=z λ k j=>by
       rw[ye u]at j;obtain j|j:=wk.1 j
       .exact q k j
       .rw[wF.1 j];exact h
      rw[K];refine z.congr λ m k=>?_;rw[qC4 u])
   have J:=n;refine waH (L:=λ m k=>Q4 m (yD m) k t.kids t.kids.length 0 t.kind t.name t.sort t.kids 0 [] 0 3 t.name 0 [] []) ?_;exact(s 0 (we _)) (λ k j=>by rw[xH]at j;cases j)
theorem qG1(t:T):size t<=2000->zo t=0->qfH t->Ev (λ m _=>ji m t) (zU t):=by
 induction t using T.ind with
 |h t G=>
   intro hs E o;have hl:=yC t;have hz:=q9 t;refine waG ?_;simp only[qy5,qea,qk];by_cases g:t.kind=3
   rotate_left
   .refine waC (bnt.2 (qj.2 g)) (waD (qja g).symm)
   refine waE (bnf.2 (ql.2 g)) ?_;rw[qGs g];have y:=(qaG g E).2
   have u:=qv (P:=λ i=>(∀k∈t.kids.take i,(zU k).2=0)->Ev (λ m k=>JG m (ji m) k i t.kind t.name t.sort t.kids 0 [] 0 [] (nks (t.kids.take i))) (if erN (t.kids.drop i)≠0 then(zT,erN (t.kids.drop i))else JZ (apT t.name (nks t.kids)))) t.kids (by omega)
    (λ e p=>by
     refine waF ?_;simp only[qmn,qdR,qk];refine waE e ?_;rw[wG]at p |-
     rw[wV,if_neg (show ¬ erN []≠0 from λ h=>h rfl)];let⟨s,c2⟩:=qFg g E p
     have F:qfH (apT t.name (nks t.kids)):=qGv _ _ λ k f=>by
      obtain⟨q,H,rfl⟩:=wA.1 f;obtain⟨j,K,rfl⟩:=wA.1 H;exact qNY qrs qCu qGv j (qrs t g o j K)
     have X:=qIZ t.kids;have W:szL t.kids+1=size t:=by unfold szL;omega
     have I:=qsU t.kids;generalize nks t.kids=ks at *;have V:size (apT t.name ks)=1+szL ks:=q9 _
     have d:t.name=qei\/t.name=Jr\/t.name=qjv->Ev (λ m _=>qb (qdv m (apT t.name ks)) λ w=>some (w.1,w.2)) (JZ (apT t.name ks)):=λ l=>by
      rw[qCo (show(apT t.name ks).name=qei\/(apT t.name ks).name=Jr\/(apT t.name ks).name=qjv from l)];have S:=qjb (apT t.name ks)
      have:Ev (λ m _=>qdv m (apT t.name ks)) (qmH (apT t.name ks)):=by
       refine waG ?_;simp only[qw9,qgn,qk];unfold qmH;refine way (qB1 _ (by omega)) (waz (λ h=>?_) λ h=>?_)
       .rw[bnt,qj]at h;rw[if_pos h];exact waA _
       .rw[bnf,ql]at h;rw[if_neg (by omega)];exact way (qB0 _ (by omega)) (waA _)
      exact way this (waA _)
     have D:=jS ks;refine way (qeY t.name ks (by omega)) (way (qyG t.name) (waz (λ h=>?_) λ U=>?_))
     .have r:=(qJk t.name).1 (ql.1 h);rw[qEt (show isD (apT t.name ks).name=true from r)];exact way (qER _ rfl s F r (by omega)) (waA _)
     refine waz (λ h=>?_) λ R=>?_
     .rw[qCW (show(apT t.name ks).name=qcS from jd.1 h)];exact way (qOq ks (by omega)) (waA _)
     refine waz (λ h=>d (.inl (jd.1 h))) λ Q=>?_;refine waz (λ h=>d (.inr (.inl (jd.1 h)))) λ O=>?_;refine waz (λ h=>d (.inr (.inr (jd.1 h)))) λ B=>?_;refine waz (λ h=>?_) λ A=>?_
     .have C:t.name=qfw:=jd.1 h;rw[qDm (show(apT t.name ks).name=qfw from C)];have n:isN (apT t.name ks) qfw=true:=yS.2 ⟨rfl,C⟩;have Z:=qaY (apT t.name ks) 0;have Y:=qaY (apT t.name ks) 1;refine waB (qcu (t:=apT t.name ks) (i:=0) s n (a:=2) (b:=2) (c:=1) (by decide) (by decide)) (waB (qcu (t:=apT t.name ks) (i:=1) s n (a:=2) (b:=2) (c:=1) (by decide) (by decide)) ?_);exact way (qKB _ _ (qa8 J1 qbK rfl s 0) (by omega) (by omega)) (waA _)
     .rw[qzx (t:=apT t.name ks) (show isD t.name=false from by
         rw[<-kz,<-qJk];exact qj.1 U) (Qg.1 R) (λ h=>by obtain h|h|h:=h;exact Qg.1 Q h;exact Qg.1 O h;exact Qg.1 B h) (Qg.1 A)]
      exact waA _)
    (λ i x v r e N M z p=>by
     refine waF ?_;simp only[qmn,qdR,qk];have l:=wb v;have J:=jJ t x l;rw[qEr r];refine waC e (waB N (way (G x l (by omega) (y x l) (qrs t g o x l)) (waz (λ h=>?_) λ h=>?_)))
     .rw[bnt,qj]at h;rw[if_pos (show(if(zU x).2≠0 then(zU x).2 else erN (t.kids.drop (i+1)))≠0 from by rw[if_pos h];exact h),if_pos h];exact waA _
     .rw[bnf,ql]at h;rw[if_neg (show ¬ (zU x).2≠0 from by omega)];have S:(nks (t.kids.take i)).length<=t.kids.length:=by rw[qsU,wm];omega
      refine waC (zg (by omega) (by omega)) ?_
      have z:=z λ k f=>by
       rw[ye v]at f;obtain f|f:=wk.1 f
       .exact p k f
       .rw[wF.1 f];exact h
      rw[M];refine z.congr λ m k=>?_;rw[qC4 v])
   refine waH (L:=λ m k=>JG m (ji m) k 0 t.kind t.name t.sort t.kids 0 [] 0 [] []) ?_;exact(u 0 (we _)) (λ k f=>by rw[xH]at f;cases f)
theorem qpi(t:T):qkx t=if qcF t≠0 then(zT,qcF t)else if(zU t).2≠0 then(zT,(zU t).2)else if qP (zU t).1≠0 then(zT,qP (zU t).1)else zU t:=rfl
theorem qH6(t:T)(d:size t<=1000000000):Ev (λ m _=>qgg m t) (qkx t):=by
 refine waG ?_;simp only[qwD,qgl,qk];rw[qpi];refine way (qFM t d) (waz (λ h=>?_) λ h=>?_)
 .rw[bnt,qj]at h;rw[if_pos h];exact waA _
 rw[bnf,ql]at h;rw[if_neg (by omega)];let⟨c,e⟩:=qmD h;have f:=QS c;have g:=qxK t;refine way (qJh t (by omega) e) (waz (λ a=>?_) λ a=>?_)
 .rw[ql]at a;rw[if_neg (by omega)];refine way (qcU _ (by omega)) (waz (λ b=>?_) λ b=>?_)
  .rw[bnt,qj]at b;rw[if_pos b];exact waA _
  .rw[bnf,ql]at b;rw[if_neg (by omega)];exact waD (by rw[<-a])
 .rw[qj]at a;rw[if_pos a];exact waC (bnt.2 (qj.2 a)) (waA _)
theorem qHx(t:T)(d:size t<=1000000000):Ev (λ m _=>qho m t) (qkx t):=by
 refine waG ?_;simp only[qzd,qhR,qk];rw[qpi];refine way (qFC t d) (waz (λ h=>?_) λ h=>?_)
 .rw[bnt,qj]at h;rw[if_pos h];exact waA _
 rw[bnf,ql]at h;rw[if_neg (by omega)];let⟨c,e⟩:=qmD h;have f:=QS c;have g:=qxK t;refine way (qG1 t (by omega) e (qJE t (qEU c))) (waz (λ a=>?_) λ a=>?_)
 .rw[bnt,qj]at a;rw[if_pos a];exact waA _
 rw[bnf,ql]at a;rw[if_neg (by omega)];refine way (qcV _ (by omega)) (waz (λ b=>?_) λ b=>?_)
 .rw[bnt,qj]at b;rw[if_pos b];exact waA _
 .rw[bnf,ql]at b;rw[if_neg (by omega)];exact waD (by rw[<-a])
theorem qxt(t:T):size (qkx t).1<=400:=by
 rw[qpi];have:=qkF;split
 .show size zT<=_;omega
 .split
  .show size zT<=_;omega
  .split
   .show size zT<=_;omega
   .rename_i h;exact QS (xb h)
end Go.AmZ
namespace Go.AmZ
open Go Go.GxZ
def qdx(p:List UInt8->Bool):T->Bool:=T.para λ t a=>(!(t.kind==3)||p t.name)&&a.all id
theorem qmF(p:List UInt8->Bool)(t:T):qdx p t=((!(t.kind==3)||p t.name)&&(t.kids.map (qdx p)).all id):=T.para_eq _ _
def Jd:T->List T:=T.para λ t a=>t::a.flatten
theorem qcD(t:T):Jd t=t::(t.kids.map Jd).flatten:=T.para_eq _ _
theorem qoZ(t:T):(Jd t).length=size t:=by
 refine T.ind (P:=λ t=>(Jd t).length=size t) ?_ t;intro t a;rw[qcD,q9,wy,List.length_flatten,xg];have:t.kids.map (List.length ∘ Jd)=t.kids.map size:=kX λ k b=>a k b;rw[this];omega
theorem qNn(t:T):∀u∈Jd t,size u<=size t:=by
 refine T.ind (P:=λ t=>∀u∈Jd t,size u<=size t) ?_ t;intro t c u a;rw[qcD]at a;obtain rfl|a:=wx.1 a
 .exact wa _
 .let⟨l,d,a⟩:=vt.1 a;obtain⟨k,b,rfl⟩:=wA.1 d;have f:=c k b u a;have e:=jJ t k b;omega
theorem qHT(p:List UInt8->Bool)(t:T):(Jd t).all (λ u => !(u.kind==3)||p u.name)=qdx p t:=by
 refine T.ind (P:=λ t=>(Jd t).all (λ u => !(u.kind==3)||p u.name)=qdx p t) ?_ t;intro t b;rw[qcD,qmF,km,List.all_flatten];congr 1;rw[wai,wai];rw[xm,wv,wv];exact⟨λ h k a=>(b k a).symm.trans (h k a),λ h k a=>(b k a).trans (h k a)⟩
def pPl(n:List UInt8):Bool:=qe (ieq (qD n).2.2 3)
theorem qIG(n:List UInt8):Ev (λ m _=>qfj m n) (pPl n):=by
 refine waG ?_;simp only[quv,qfE];refine way (qzq n) (waD ?_);unfold pPl;rw[<-quG]
theorem qIv(t:T):size t<=1000000000->Ev (λ m _=>zh m t) (qdx pPl t):=by
 induction t using T.ind with
 |h t j=>
   intro r;have s:=yC t;refine waG ?_;simp only[qoJ,qaa]
   have d:=qv (P:=λ i=>Ev (λ m k=>yH m (zh m) k t.kids t.kids.length i) (((t.kids.drop i).map (qdx pPl)).all id)) t.kids (by omega)
    (λ f=>by
     refine waF ?_;simp only[qgz,J7];refine waE f (waD ?_);rw[wV];rfl)
    (λ i x l p f o n q=>by
     refine waF ?_;simp only[qgz,J7,qk];have g:=wb l;have u:=jJ t x g;rw[p,wo,km];refine waC f (waB o (way (j x g (by omega)) (waz (λ b=>?_) λ b=>?_)))
     .rw[bnt]at b;rw[b];exact waA _
     .rw[bnf]at b;rw[b,n];exact q)
   have a:Ev (λ m _=>yH m (zh m) m t.kids t.kids.length 0) ((t.kids.map (qdx pPl)).all id):=
    waH (L:=λ m k=>yH m (zh m) k t.kids t.kids.length 0) ((d 0 (we _)).res (by rw[wP]))
   rw[qmF];refine waz (λ c=>?_) λ c=>?_
   .rw[ql]at c;have e:(!(t.kind==3))=false:=by rw[c];rfl
    rw[e,xU];refine way (qIG t.name) (waz (λ h=>?_) λ h=>?_)
    .rw[bnt]at h;rw[h];exact waA _
    .rw[bnf]at h;rw[h];exact a
   .rw[qj]at c;have e:(!(t.kind==3))=true:=by rw[wQ,beq_eq_false_iff_ne];exact c
    rw[e,xu];exact a
theorem qGm(t:T):size t<=1000000000->Ev (λ m _=>Qv m t) (Jd t):=by
 induction t using T.ind with
 |h t n=>
   intro r;have s:=yC t;have b:=qoZ t;refine waG ?_;simp only[qEK,qhC,qk];rw[qcD]at b |-
   have a:∀i,((t.kids.take i).map Jd).flatten.length<=(t.kids.map Jd).flatten.length:=λ i=>by
    have:=congrArg (λ l=>(l.map Jd).flatten.length) (kF i t.kids);simp only[wW,xr,wd]at this;omega
   have c:=qv (P:=λ i=>Ev (λ m k=>qb0 m (Qv m) k i t.kind t.name t.sort t.kids (t::((t.kids.take i).map Jd).flatten)) (t::(t.kids.map Jd).flatten)) t.kids (by omega)
    (λ d=>by
     refine waF ?_;simp only[qqy,qhg];refine waE d ?_;rw[wG];exact waA _)
    (λ i x f u d p o j=>by
     refine waF ?_;simp only[qqy,qhg,qk];have g:=wb f;have v:=jJ t x g;have q:=a (i+1)
     have e:((t.kids.take (i+1)).map Jd).flatten=((t.kids.take i).map Jd).flatten++Jd x:=by
      rw[ye f,wW,xr];simp
     rw[e,wd]at q;rw[e]at j;rw[wy]at b;refine waC d (waB p (way (n x g (by omega)) (waC (zg (by rw[wy];omega) (by omega)) ?_)));rw[o];exact j)
   refine waH (L:=λ m k=>qb0 m (Qv m) k 0 t.kind t.name t.sort t.kids [t]) ?_;exact c 0 (we _)
def qal(t:T):Bool:=decide ((qkx t).2=0)&&(jt (qkx t).1 t&&qdx pPl t)
theorem qzg(t:T)(a:size t<=1000000000):Ev (λ m _=>qey m t) (qal t):=by
 have c:=qxt t;refine waG ?_;simp only[qyW,qgX,qk];unfold qal;refine way (qH6 t a) (waz (λ h=>?_) λ h=>?_)
 .rw[ql]at h;rw[decide_eq_true h,kg];refine way (qpb _ _ (by omega) a) (waz (λ b=>?_) λ b=>?_)
  .rw[b,kg];exact way (qIv t a) (waA _)
  .rw[b,kV];exact waA _
 .rw[qj]at h;rw[decide_eq_false h,kV];exact waA _
theorem qJR(t:T)(e:size t<=1000000000):Ev (λ m _=>qiI m t) (qal t):=by
 have s:=qxt t;refine waG ?_;simp only[qBd,qfe,qk];unfold qal;refine way (qHx t e) (waz (λ h=>?_) λ h=>?_)
 .rw[bnt,qj]at h;rw[decide_eq_false h,kV];exact waA _
 rw[bnf,ql]at h;rw[decide_eq_true h,kg,qwy];refine way (qgm _ _ e (by omega)) (waz (λ c=>?_) λ c=>?_)
 .rw[bnt]at c;rw[c,kV];exact waA _
 rw[bnf]at c;rw[c,kg,<-qHT];refine way (qGm t e) ?_;have p:=qoZ t;generalize Jd t=l at*
 have d:=qv (P:=λ i=>Ev (λ m k=>qac m k l i) ((l.drop i).all λ u => !(u.kind==3)||pPl u.name)) l (by omega)
  (λ g=>by
   refine waF ?_;simp only[qnW,qeN];refine waE g (waD ?_);rw[wV];rfl)
  (λ i x r q g n j o=>by
   refine waF ?_;simp only[qnW,qeN];rw[q,km];refine waC g (waB n (waz (λ b=>?_) λ b=>?_))
   .rw[ql]at b;have f:(!(x.kind==3))=false:=by rw[b];rfl
    rw[f,xU];refine waB n (way (qyG x.name) (waz (λ a=>?_) λ a=>?_))
    .have:pPl x.name=false:=by unfold pPl;rw[a];rfl
     rw[this];exact waA _
    .rw[j];refine o.res ?_;have:pPl x.name=true:=by unfold pPl;rw[a];rfl
     rw[this];rfl
   .rw[qj]at b;have f:(!(x.kind==3))=true:=by rw[wQ,beq_eq_false_iff_ne];exact b
    rw[f,xu,j,kg];exact o)
 refine waH (L:=λ m k=>qac m k l 0) ?_;exact(d 0 (we _)).res (by rw[wP])
end Go.AmZ
namespace Go.AmZ
open Go Go.GxZ Go.Sort Go.Proofs Go.Proofs.YtinbdcelmgfniaaGreatDoor
def zQ(k:Int)(t:T):List T:=(Jd t).filter λ x=>decide (x.kind=k)
def qdz(t:T):Bool:=(zQ 1 t).isEmpty
theorem qmB(k:Int)(t:T):zQ k t=(if t.kind=k then[t]else[])++(t.kids.map (zQ k)).flatten:=by
 unfold zQ;rw[qcD,List.filter_cons,List.filter_flatten,xg];by_cases h:t.kind=k<;>simp[h,vH,zQ]
theorem qks(k:Int)(t:T):(zQ k t).length<=size t:=by
 have:=vg (λ x:T=>decide (x.kind=k)) (Jd t);rw[qoZ]at this;exact this
theorem qAp(k:Int)(t:T):∀u∈zQ k t,size u<=size t:=λ u a=>qNn t u ((kO.1 a).1)
theorem qF7{s:Nat}:∀{l:List T},(∀u∈l,size u<=s)->szL l<=l.length*s
 |[],_=>by simp[szL]
 |x::l,h=>by
   have:=qF7 λ u a=>h u (wg _ a);have b:=h x (wh ..);rw[qV,wy,kT];omega
theorem qKq(x:T)(k:Int)(l:List T)(b:l.length<=1000000000):Ev (λ m _=>qau m x k l) ((k,l++(if x.kind=k then[x]else[]),()),()):=by
 refine waG ?_;simp only[qnr,qbs,qk];by_cases h:x.kind=k
 .rw[if_pos h];refine waC (ql.2 h) (waC (zg (by omega) (by omega)) (waB (a:=T.mk 0 [] 0 []) (by rw[jo];simp) (waD ?_)));rw[qed];simp
 .rw[if_neg h,ww];exact waE (qj.2 h) (waA _)
theorem qNu(t:T)(k:Int):size t<=1000000000->∀l:List T,l.length+size t<=1000000000->Ev (λ m _=>zA m t k l) ((k,l++zQ k t,()),()):=by
 induction t using T.ind with
 |h t v=>
   intro C l D;have w:=yC t;refine waG ?_;simp only[qqs,qaC,qk];refine way (qKq t k l (by omega)) ?_;simp only;obtain⟨b,a⟩:∃b,b=l++(if t.kind=k then[t]else[]):=⟨_,rfl⟩
   rw[<-a];have j:=qks k t;rw[qmB,wd]at j;have r:b.length+((t.kids.map (zQ k)).flatten).length=l.length+((if t.kind=k then[t]else[]).length+((t.kids.map (zQ k)).flatten).length):=by rw[a,wd];omega
   have p:∀i,((t.kids.take i).map (zQ k)).flatten.length<=(t.kids.map (zQ k)).flatten.length:=λ i=>by
    have:=congrArg (λ l=>(l.map (zQ k)).flatten.length) (kF i t.kids);simp only[wW,xr,wd]at this;omega
   have g:∀i x,t.kids[i]?=some x->b.length+((t.kids.take i).map (zQ k)).flatten.length+size x<=1000000000:=λ i x c=>by
    have B:((t.kids.take i).map (zQ k)).flatten.length<=szL (t.kids.take i):=by
     have o:∀l:List T,((l.map (zQ k)).flatten).length<=szL l:=by
      intro l
      induction l with
      |nil=>simp[szL]
      |cons y l u=>rw[wo,xY,wd,qV];have:=qks k y;omega
     exact o _
    have H:=QD c;have G:szL t.kids+1<=size t:=by rw[q9];unfold szL;omega
    have F:b.length<=l.length+1:=by rw[a,wd];split<;>simp
    omega
   have f:=qv (P:=λ i=>Ev (λ m d=>jO m (zA m) d t.kids t.kids.length i k (b++((t.kids.take i).map (zQ k)).flatten)) ((k,b++(t.kids.map (zQ k)).flatten,()),())) t.kids (by omega)
    (λ n=>by
     refine waF ?_;simp only[qhq,qax];refine waE n ?_;rw[wG];exact waA _)
    (λ i x c E n A z s=>by
     refine waF ?_;simp only[qhq,qax,qk];have q:=wb c;have B:=jJ t x q;refine waC n (waB A (way (v x q (by omega) _ (by rw[wd];exact g i x c)) ?_));rw[z]
     have e:((t.kids.take (i+1)).map (zQ k)).flatten=((t.kids.take i).map (zQ k)).flatten++zQ k x:=by
      rw[ye c,wW,xr];simp
     rw[e,<-wj]at s;exact s)
   rw[qmB,<-wj,<-a];refine waH (L:=λ m d=>jO m (zA m) d t.kids t.kids.length 0 k b) ?_;have:=f 0 (we _);simpa using this
theorem qNO{F G:T->T->Option Int}{l:List T}(h:∀x∈l,∀y∈l,F x y=G x y):Js F l=Js G l:=by
 funext i j;unfold Js;cases b:l[i%l.length]? with
 |none=>rfl
 |some x=>cases a:l[j%l.length]? with
   |none=>rfl
   |some y=>simp only;rw[h x (wb b) y (wb a)]
theorem qzi{a:Type}{F:T->T->Option a}{l:List T}(h:∀x∈l,∀y∈l,(F x y).isSome=true):qct F l=true:=
 wv.2 λ x c=>wv.2 λ y b=>h x c y b
theorem qOu{n:Nat}{lt:Nat->Nat->Bool}(h:SWO lt):qtR n lt=true:=by
 unfold qtR;refine wv.2 λ i _=>?_;rw[wc];refine⟨by rw[h.irrefl];rfl,wv.2 λ j _=>wv.2 λ k _=>?_⟩;rw[wc];constructor
 .cases b:lt i j with
  |false=>rfl
  |true=>cases a:lt j k with
    |false=>rfl
    |true=>rw[h.trans i j k b a];rfl
 .cases b:lt i j with
  |true=>rfl
  |false=>cases a:lt j k with
    |true=>rfl
    |false=>rw[h.ntrans i j k b a];rfl
theorem qQR(l:List T):SWO (ltOf (Js (λ x y=>some (qs x y)) l)):=by
 have hlt:∀ i j,ltOf (Js (λ x y=>some (qs x y)) l) i j=true↔∃ x y,l[i % l.length]?=some x/\l[j % l.length]?=some y/\qs x y=-1 := λ i j=>by
  unfold ltOf Js;rw[decide_eq_true_iff];cases hx:l[i % l.length]? with
  | none=>simp
  | some x=>cases hy:l[j % l.length]? with
    | none=>simp
    | some y =>
      simp only[Option.getD_some];have:=yg.rng x y;constructor
      ·intro h;exact⟨x,y,rfl,rfl,by omega⟩
      ·rintro⟨_,_,h1,h2,h3⟩;cases h1;cases h2;omega
 refine⟨λ i=>?_,λ i j k h1 h2=>?_,λ i j k h1 h2=>?_⟩
 ·rw[Bool.eq_false_iff];intro h;obtain⟨x,y,h1,h2,h3⟩:=(hlt _ _).1 h;rw[h1]at h2;cases h2;rw[qrc]at h3;cases h3
 ·obtain⟨x,y,a1,a2,a3⟩:=(hlt _ _).1 h1;obtain⟨y',z,b1,b2,b3⟩:=(hlt _ _).1 h2;rw[a2]at b1;cases b1;exact(hlt _ _).2 ⟨x,z,a1,b2,yg.trans x y z a3 b3⟩
 ·rw[Bool.eq_false_iff]at h1 h2 |-
  intro h;obtain⟨x,z,a1,a2,a3⟩:=(hlt _ _).1 h;have hn:0<l.length:=by have:=getElem?_lt a1;omega
  obtain⟨y,hj⟩:∃ y,l[j % l.length]?=some y:=⟨_,List.getElem?_eq_getElem (xV _ hn)⟩
  have n1:qs x y≠-1 := λ he=>h1 ((hlt _ _).2 ⟨x,_,a1,hj,he⟩);have n2:qs y z≠-1 := λ he=>h2 ((hlt _ _).2 ⟨_,z,hj,a2,he⟩);have r1:=yg.rng x y;have r2:=yg.rng y z;rcases r1 with r1 | r1 | r1
  ·exact n1 r1
  ·have:=qaE _ _ r1;rw[<- this]at n2;exact n2 a3
  ·rcases r2 with r2 | r2 | r2
   ·exact n2 r2
   ·have:=qaE _ _ r2;rw[this]at n1;exact n1 a3
   ·have e1:qs y x=-1:=by rw[yg.anti];omega
    have e2:qs z y=-1:=by rw[yg.anti];omega
    have e3:=yg.trans _ _ _ e2 e1;have e4:=yg.anti x z;omega
theorem qCK{k:Type}{F:Nat->T->T->Option k}{g:T->T->k}(l:List T)(h:∀x∈l,∀y∈l,Ev (λ m _=>F m x y) (g x y)):∃B,∀m,B<=m->∀x∈l,∀y∈l,F m x y=some (g x y):=by
 have d:∀(x:T),(∀y∈l,Ev (λ m _=>F m x y) (g x y))->∀r:List T,(∀y∈r,y∈l)->∃B,∀m,B<=m->∀y∈r,F m x y=some (g x y):=by
  intro x n r
  induction r with
  |nil=>exact λ _=>⟨0,λ _ _ y f=>by cases f⟩
  |cons y r e=>
    intro b;let⟨B,j⟩:=e λ z a=>b z (wg _ a);let⟨D,i⟩:=n y (b y (wh ..));refine⟨max B D,λ m o z a=>?_⟩;obtain rfl|a:=wx.1 a
    .exact i m D (by omega) (wa _)
    .exact j m (by omega) z a
 have c:∀r:List T,(∀y∈r,y∈l)->∃B,∀m,B<=m->∀x∈r,∀y∈l,F m x y=some (g x y):=by
  intro r
  induction r with
  |nil=>exact λ _=>⟨0,λ _ _ y f=>by cases f⟩
  |cons x r e=>
    intro b;let⟨B,j⟩:=e λ z a=>b z (wg _ a);let⟨D,i⟩:=d x (h x (b x (wh ..))) l λ _ h=>h;refine⟨max B D,λ m o z a=>?_⟩;obtain rfl|a:=wx.1 a
    .exact i m (by omega)
    .exact j m (by omega) z a
 exact c l λ _ h=>h
theorem qBB{α:Type}{l:List α}{b:List Nat}:∀x∈pick l b,x∈l:=λ x a=>by
 unfold pick at a;let⟨i,_,h⟩:=kU.1 a;exact wb h
theorem qNS(l:List T)(hl:l.length<=100000)(hs:∀ t∈l,size t<=1000000000):∃ l',Ev (λ m _=>zd m l) l'/\l'.length=l.length/\∀ x∈l',x∈l:=by
 cases hl0:l with
 | nil=>exact⟨[],waG (Ev.congr (waA _) λ m _=>rfl),rfl,λ x h=>h⟩
 | cons x0 r0 =>
   rw[<- hl0];obtain⟨B,hB⟩:=qCK (F := λ m x y=>qy m x y) l λ x hx y hy=>qdG x (hs x hx) y (hs y hy);have hne:l≠[]:=by rw[hl0];exact vp _ _
   have hO:=qQR l;obtain⟨hp,_⟩:=qtw (λ x y=>some (qs x y)) l hO;have hlt:∀ i∈qa6 (λ x y=>some (qs x y)) l,i<l.length := λ i hi=>k9.1 (hp.mem_iff.1 hi);refine⟨pick l (qa6 (λ x y=>some (qs x y)) l),waG ⟨B,λ m k hm _=>?_⟩,by rw[qpq hlt,hp.length_eq,xE],qBB⟩;show zd (m+1) l=_;rw[qcT];have hcf:Js (qy m) l=Js (λ x y=>some (qs x y)) l:=qNO (hB m hm);have hall:qct (qy m) l=true:=qzi λ x hx y hy=>by rw[hB m hm x hx y hy];rfl
   have hix:qa6 (qy m) l=qa6 (λ x y=>some (qs x y)) l:=by unfold qa6;rw[hcf]
   have e:qo8 (qy m) l=cond (Nat.ble l.length 100000&&(qct (qy m) l&&qtR l.length (ltOf (Js (qy m) l)))) (some (pick l (qa6 (qy m) l))) none:=by rw[hl0];rfl
   rw[e,hcf,hall,hix,qOu hO,show Nat.ble l.length 100000=true from xJ hl];rfl
theorem qHD(l:List T)(A:l.length<=100000)(v:∀t∈l,size t<=1000000000):∃r,Ev (λ m _=>qK m l) ((),r,())/\(r=[]↔l=[])/\r.length<=l.length/\∀x∈r,x∈l:=by
 cases b:l with
 |nil=>exact⟨[],waG (Ev.congr (waA _) λ m _=>rfl),Iff.rfl,wa _,λ x h=>h⟩
 |cons D E=>
   rw[<-b]
   let⟨B,z⟩:=qCK (F:=λ m x y=>jl m x y) (g:=λ x y=>ieq (qs x y) 0) l λ x d y c=>by
    refine waG ?_;simp only[qt2,qfD,qk];exact way (qdG x (v x d) y (v y c)) (waA _)
   have n:l≠[]:=by rw[b];exact vp _ _
   have f:0<l.length:=xl.2 n;obtain⟨a,s⟩:∃a,a=qk9 (λ x y=>some (ieq (qs x y) 0)) l:=⟨_,rfl⟩
   have o:∀i∈zN a l.length,i<l.length:=qz9
   have p:(zN a l.length).length<=l.length:=by
    have:=vg (λ i=>decide (i=0) || !a i (i-1)) (List.range l.length);rw[xE]at this;exact this
   have C:0∈zN a l.length:=kO.2 ⟨k9.2 f,by simp⟩;refine⟨pick l (zN a l.length),waG ⟨B,λ m k w _=>?_⟩,⟨λ h=>?_,λ h=>absurd h n⟩,by rw[qpq o];exact p,qBB⟩
   .show qK (m+1) l=_;rw[qby]
    have u:qk9 (jl m) l=a:=by
     rw[s];funext i j;unfold qk9;cases d:l[i%l.length]? with
     |none=>rfl
     |some x=>cases c:l[j%l.length]? with
       |none=>rfl
       |some y=>simp only;rw[z m w x (wb d) y (wb c)]
    have q:qct (jl m) l=true:=qzi λ x d y c=>by rw[z m w x d y c];rfl
    have e:qBt (jl m) l=cond (Nat.ble l.length 100000&&qct (jl m) l) (some (pick l (zN (qk9 (jl m) l) l.length))) none:=by rw[b];rfl
    unfold qwj;rw[e,q,u,show Nat.ble l.length 100000=true from xJ A];rfl
   .have:=qpq o;rw[h]at this;have G:=List.length_pos_of_mem C;simp at this;omega
theorem qHd(l:List T)(w:l.length<=100000)(f:∀t∈l,size t<=1000000000):∃o,Ev (λ m _=>qhf m l) ((),o,())/\(o=[]↔l=[]):=by
 let⟨u,e1,b,n⟩:=qNS l w f;let⟨a,A,r,B,s⟩:=qHD u (by omega) λ t v=>f t (n t v);refine⟨a,?_,r.trans ⟨λ h=>wi (by rw[<-b,h];rfl),λ h=>wi (by rw[b,h];rfl)⟩⟩;refine waG ?_;simp only[qyi,qdM];refine way e1 (waC (by rw[b,Nat.beq_refl]) (way A ?_))
 have c:=qv (P:=λ i=>Ev (λ m k=>JI m k a.length i a) ((),a,())) a (by omega)
  (λ g=>by
   refine waF ?_;simp only[qmj,qd2];exact waE g (waA _))
  (λ i x d C g q y z=>by
   refine waF ?_;simp only[qmj,qd2,qk];refine waC g (waB q (way (qt0 x (f x (n x (s x (wb d))))) (waB q ?_)));rw[y]
   have e:yy a (i:Int) x=a:=by
    rw[qed];apply kZ;intro j;by_cases p:i=j
    .subst p;rw[List.getElem?_set_self (getElem?_lt d)];exact d.symm
    .rw[List.getElem?_set_ne p]
   rw[e];exact z)
 exact waH (L:=λ m k=>JI m k a.length 0 a) (c 0 (we _))
theorem qNJ(t:T)(d:size t<=100000):∃l,Ev (λ m _=>qmT m t) l/\(l=[]↔zQ 1 t=[]):=by
 let⟨l,f,e⟩:=qHd (zQ 1 t) (wE (qks 1 t) d) λ u c=>by have:=qAp 1 t u c;omega
 refine⟨l,?_,e⟩;refine waG ?_;simp only[qEz,qk2,qk];refine way (a:=l) (waG ?_) (waA _);simp only[qA3,qim,qk];have b:=qNu t 1 (by omega) [] (by rw[wY];omega);rw[kW]at b;exact way b (way f (waD rfl))
theorem qGA(l:List T)(t:T):Jc l t≠[]:=by
 cases l with
 |nil=>simp[Jc]
 |cons x l=>
   unfold Jc
   repeat' split
   all_goals exact vp _ _
theorem qO2(l:List T)(o:szL l<=1000000000):Ev (λ m _=>qlY m l) (l.foldl Jc []):=by
 have g:=jS l;refine waG ?_;simp only[qE5,qhm]
 have n:∀(l a:List T),szL (l.foldl Jc a)<=szL a+szL l:=by
  intro l
  induction l with
  |nil=>intro a;simp[szL]
  |cons x l f=>intro a;rw[ke,qV];have:=f (Jc a x);have:=qyU x a;omega
 have b:=qv (P:=λ i=>Ev (λ m k=>qbZ m k l ((l.take i).foldl Jc []) i) (l.foldl Jc [])) l (by omega)
  (λ c=>by
   refine waF ?_;simp only[qro,qhv];refine waE c ?_;rw[wG];exact waA _)
  (λ i x d p c j h e=>by
   refine waF ?_;simp only[qro,qhv,qk];have r:=n (l.take i) [];have q:=QD d;have s:szL ([]:List T)=0:=rfl;refine waC c (waB j (way (qI2 _ x (by omega)) ?_));rw[h,quK];rw[ye d,xF]at e;exact e)
 exact waH (L:=λ m k=>qbZ m k l [] 0) (b 0 (we _))
theorem qIT(l:List T):l.foldl Jc []=[]↔l=[]:=by
 constructor
 .intro h;cases d:l with
  |nil=>rfl
  |cons x r=>
    exfalso
    have b:∀(r a:List T),a≠[]->r.foldl Jc a≠[]:=by
     intro r
     induction r with
     |nil=>intro a h;exact h
     |cons y r c=>intro a _;exact c _ (qGA _ _)
    rw[d,ke]at h;exact b r _ (qGA _ _) h
 .intro h;rw[h];rfl
theorem qM3(t:T)(k:Int)(g:size t<=10000):Ev (λ m _=>qkf m t k) ((zQ k t).foldl Jc []):=by
 refine waG ?_;simp only[qDD,qf9,qk];refine way (qGm t (by omega)) ?_;have h:=qoZ t
 have a:szL (zQ k t)<=1000000000:=by
  have s:=qF7 (qAp k t);have r:(zQ k t).length*size t<=10000*10000:=vY (wE (qks k t) g) g;omega
 have d:=qv (P:=λ i=>Ev (λ m c=>qaS m c k (Jd t) i (((Jd t).take i).filter λ x=>decide (x.kind=k))) ((zQ k t).foldl Jc [])) (Jd t) (by omega)
  (λ e=>by
   refine waF ?_;simp only[qp1,qf2];refine waE e ?_;rw[wG];exact way (qO2 (zQ k t) a) (waA _))
  (λ i x n o e l j f=>by
   refine waF ?_;simp only[qp1,qf2,qk];have q:=vg (λ x:T=>decide (x.kind=k)) ((Jd t).take i);have p:=List.length_take_le' i (Jd t);rw[ye n,vF]at f;refine waC e (waB l ?_);by_cases b:x.kind=k
   .refine waC (ql.2 b) (waB l (waC (zg (by omega) (by omega)) ?_));rw[j];simpa[b]using f
   .refine waE (qj.2 b) ?_;rw[j];simpa[b]using f)
 exact waH (L:=λ m c=>qaS m c k (Jd t) 0 []) (d 0 (we _))
theorem qIQ(t:T)(c:size t<=10000):Ev (λ m _=>qhV m t) (qdz t):=by
 have b:Ev (λ m _=>qkc m t) ((zQ 1 t).foldl Jc []):=by
  refine waG ?_;simp only[qDs,qjt,qk];exact way (qM3 t 1 c) (waA _)
 refine waG ?_;simp only[qy2,qgR,qk];refine way b (waD ?_);unfold qdz;by_cases h:zQ 1 t=[]
 .rw[h];rfl
 .have a:(zQ 1 t).foldl Jc []≠[]:=λ a=>h ((qIT _).1 a);have e:0<((zQ 1 t).foldl Jc []).length:=xl.2 a;rw[qj.2 (by omega)];cases d:zQ 1 t with
  |nil=>exact absurd d h
  |cons x r=>rfl
end Go.AmZ
namespace Go.AmZ
open Go Go.GxZ
theorem qzc{a b:List UInt8}(h:a.length+b.length<2^62):qiG a b=true:=by
 unfold qiG;rw[decide_eq_true_iff,show IntKind.i64.max=9223372036854775807 from rfl];omega
def nmL:List (List UInt8):=[[112,97,105,114],[101,110,99],[97,101,110,99],[112,107],[115,105,103,110],[104,97,115,104],[120,111,114],[122,101,114,111],[101,120,112],[109,117,108],[105,110,118],[111,110,101],[115,107],[115,104,107],[110,101,119]]
def esL:List (List UInt8×(Int×Int)):=[([112,97,105,114],(2,2)),([101,110,99],(2,2)),([97,101,110,99],(2,2)),([112,107],(1,1)),([115,105,103,110],(2,2)),([104,97,115,104],(1,1)),([120,111,114],(2,8)),([122,101,114,111],(0,0)),([101,120,112],(2,2)),([109,117,108],(2,8)),([105,110,118],(1,1)),([111,110,101],(0,0)),([115,107],(1,1)),([115,104,107],(2,2)),([110,101,119],(1,8))]
theorem qBw:esL.map (·.1)=nmL:=rfl
def qdg(n:List UInt8):Bool:=qx n qcS||(qx n qei||qx n qhK)
def qor:List (List UInt8×(Int×Int))->List UInt8->Nat->Int
 |[],_,_=>-1
 |r::l,n,i=>if qx r.1 n=true then(i:Int)else qor l n (i+1)
def qpD:List (List UInt8)->List UInt8->Nat->Int
 |[],_,_=>0
 |r::l,n,i=>if qx r n=true then(i:Int)else qpD l n (i+1)
theorem qD3:∀(l:List (List UInt8×(Int×Int))) (n:List UInt8) (i:Nat),n∈l.map (·.1)->qor l n i=qpD (l.map (·.1)) n i/\∃(j:Nat) (r:List UInt8×(Int×Int)),qor l n i=((i+j:Nat):Int)/\l[j]?=some r/\r.1=n
 |[],_,_,h=>by cases h
 |r::l,n,i,h=>by
   rw[qor,wo,qpD];by_cases a:qx r.1 n=true
   .rw[if_pos a,if_pos a];exact⟨rfl,0,r,rfl,rfl,jd.1 a⟩
   .rw[if_neg a,if_neg a];rw[wo]at h;obtain h|h:=wx.1 h
    .exact absurd (jd.2 h.symm) a
    .let⟨e,j,q,d,c,b⟩:=qD3 l n (i+1) h;exact⟨e,j+1,q,by rw[d];omega,by simpa using c,b⟩
def hdE(n:List UInt8):Int:=iw .u8 (iw .i64 (qi 16 (qpD nmL n 0)))
def bI:T->List Int:=T.para λ t a=>if t.kind=2 then[iw .u8 t.sort,iw .u8 t.name.length]++qaj t.name else(if qdg t.name then[hdE t.name]++[iw .u8 t.kids.length]else[hdE t.name])++a.flatten
theorem qsP(t:T):bI t=if t.kind=2 then[iw .u8 t.sort,iw .u8 t.name.length]++qaj t.name else(if qdg t.name then[hdE t.name]++[iw .u8 t.kids.length]else[hdE t.name])++(t.kids.map bI).flatten:=T.para_eq _ _
def okN(u:T):Prop:=(u.kind=2\/u.kind=3/\u.name∈nmL)/\u.name.length<=24
def okE(t:T):Prop:=∀u∈Jd t,okN u
theorem qx4{t:T}(h:okE t):okN t:=h t (by rw[qcD];exact wh ..)
theorem qye{t k:T}(h:okE t)(b:k∈t.kids):okE k:=λ u a=>h u (by
 rw[qcD];exact wg _ (vt.2 ⟨_,wA.2 ⟨k,b,rfl⟩,a⟩))
theorem qw3(s:List UInt8):(qaj s).length=s.length:=wB ..
theorem qbM(s:List Int):(zt s).length=s.length:=wB ..
theorem qeZ(a b:List Int):zt (a++b)=zt a++zt b:=wW ..
theorem qCV(s:List UInt8):zt (qaj s)=s:=by
 unfold zt qaj;rw[xg];refine(kX (g:=id) λ c _=>?_).trans (List.map_id _);show UInt8.ofNat (Int.toNat ((c.toNat:Nat):Int))=c;rw[kD];exact UInt8.ofNat_toNat
theorem qP6(t:T):okE t->(bI t).length<=26*size t:=by
 induction t using T.ind with
 |h t d=>
   intro h;have f:=(qx4 h).2;rw[qsP,q9];split
   .rw[wd,qw3];show 2+_<=_;omega
   .have c:∀l:List T,(∀k∈l,k∈t.kids)->((l.map bI).flatten).length<=26*(l.map size).sum:=by
      intro l
      induction l with
      |nil=>intro _;exact we _
      |cons k l a=>
        intro b;have f:=d k (b k (wh ..)) (qye h (b k (wh ..)));have i:=a λ x e=>b x (wg _ e);rw[wo,xY,wd,wo,kH];omega
    have:=c t.kids λ _ h=>h;rw[wd];have g:(if qdg t.name=true then[hdE t.name]++[iw .u8 t.kids.length]else[hdE t.name]).length<=2:=by split<;>simp
    omega
theorem qGE{n:List UInt8}(h:(qD n).2.2≠0)(a:pPl n=true):n∈nmL:=by
 have all:∀r∈jQ,r.2.2.2≠3->r.1∈nmL:=by decide
 unfold pPl at a;unfold qD at h a;cases b:jQ.find? λ r=>r.1==n with
 |none=>rw[b]at h;exact absurd rfl h
 |some r=>
   rw[b]at a;have e:=List.mem_of_find?_eq_some b;have d:=List.find?_some b;have c:r.1=n:=by simpa using d
   rw[bnt,qj]at a;rw[<-c];exact all r e a
theorem qxa{t:T}(h:yU t=0):t.name.length<=24/\(t.kind=1\/t.kind=2\/t.kind=3)/\(t.kind≠3->t.kids=[]):=by
 unfold yU qf1 at h
 have a:yN t.name=true->t.name.length<=24:=λ a=>by
  unfold yN at a;simp only[wc,decide_eq_true_eq]at a;exact a.1.1.2
 cases b:yN t.name with
 |false=>
   rw[b]at h;simp only[xo,if_false]at h;exfalso;revert h
   repeat' split
   all_goals omega
 |true=>
   rw[b]at h;refine⟨a b,?_,λ c=>?_⟩
   .revert h;repeat' split
    all_goals intro h;omega
   .apply wi;revert h;repeat' split
    all_goals intro h;omega
theorem qPB(t:T):jq t=0->zo t=0->qdx pPl t=true->zQ 1 t=[]->okE t:=by
 induction t using T.ind with
 |h t r=>
   intro v j e i;let⟨x,w⟩:=qiO v;let⟨p,o,n⟩:=qxa x;rw[qmF,wc]at e;rw[qmB]at i;let⟨f,q⟩:=wZ.1 i;have c:t.kind≠1:=λ h=>by rw[if_pos h]at f;cases f
   intro u b;rw[qcD]at b;obtain rfl|b:=wx.1 b
   .refine⟨?_,p⟩;obtain h|h|h:=o
    .exact absurd h c
    .exact .inl h
    .refine .inr ⟨h,?_⟩;let⟨z,_⟩:=qaG h j;let⟨m,_⟩:=qoE h z;have g:=e.1;rw[show(u.kind==3)=true from beq_iff_eq.2 h]at g;exact qGE m (by simpa using g)
   .let⟨l,s,b⟩:=vt.1 b;obtain⟨k,a,rfl⟩:=wA.1 s
    have d:t.kind=3:=by
     by_cases h:t.kind=3
     .exact h
     .rw[n h]at a;cases a
    let⟨_,y⟩:=qaG d j;refine r k a (w k a) (y k a) ?_ ?_ u b
    .have:=wv.1 e.2 (qdx pPl k) (wA.2 ⟨k,a,rfl⟩);exact this
    .exact wal.1 q _ (wA.2 ⟨k,a,rfl⟩)
end Go.AmZ
namespace Go.AmZ
open Go Go.GxZ
theorem qGe(t:T):T.mk t.kind t.name t.sort t.kids=t:=qk t
theorem qPy(t:T):Ev (λ m _=>zc m esL t) ((t,()),(qor esL t.name 0,())):=by
 refine waG ?_;simp only[Jx,qQ]
 have b:=qv (P:=λ i=>Ev (λ m k=>qt m k esL esL.length i t.kind t.name t.sort t.kids) ((t,()),(qor (esL.drop i) t.name i,()))) esL (by decide)
  (λ c=>by
   refine waF ?_;simp only[yY,qR];refine waE c (waD ?_);rw[wV,qor,qGe])
  (λ i x j f c e d g=>by
   refine waF ?_;simp only[yY,qR,qGe];refine waC c (waB e ?_);refine way (a:=((t,()),(qx x.1 t.name,()))) (waG (waD ?_)) ?_
   .show _=_;simp only[qlR,qaL,qk]
   rw[f,qor,d];refine waz (λ h=>?_) λ h=>?_
   .rw[if_pos h];simp only[qk];exact waA _
   .rw[if_neg (by rw[show qx x.1 t.name=false from h];decide)];exact g)
 exact waH (L:=λ m k=>qt m k esL esL.length 0 t.kind t.name t.sort t.kids) (b 0 (we _))
theorem qN8(n:List UInt8):Ev (λ m _=>qiD m n) (qpD nmL n 0):=by
 refine waG ?_;simp only[qA1,qe2];refine way (a:=nmL) (waG (waA _)) ?_
 have b:=qv (P:=λ i=>Ev (λ m k=>qae m k n nmL i) (qpD (nmL.drop i) n i)) nmL (by decide)
  (λ c=>by
   refine waF ?_;simp only[qnZ,qeM];refine waE c (waD ?_);rw[wV,qpD])
  (λ i x j f c e d g=>by
   refine waF ?_;simp only[qnZ,qeM];refine waC c (waB e ?_);rw[f,qpD,d];refine waz (λ h=>?_) λ h=>?_
   .rw[if_pos h];exact waA _
   .rw[if_neg (by rw[h];decide)];exact g)
 exact waH (L:=λ m k=>qae m k n nmL 0) (b 0 (we _))
theorem qOv(n:List UInt8):Ev (λ m _=>qf7 m n) (qdg n):=by
 refine waG ?_;simp only[qwm,qgh];unfold qdg;refine waz (λ h=>waD ?_) λ h=>waz (λ a=>waD ?_) λ a=>waD ?_
 .rw[show qx n qcS=true from h];rfl
 .rw[show qx n qcS=false from h,show qx n qei=true from a];rfl
 .rw[show qx n qcS=false from h,show qx n qei=false from a];rfl
theorem qIn:∀r∈esL,qe (ieq r.2.1 r.2.2)=qdg r.1:=by decide
theorem qAo(t:T)(i:Nat):((t.kids.take i).map bI).flatten.length<=(t.kids.map bI).flatten.length:=by
 have:=congrArg (λ l=>(l.map bI).flatten.length) (kF i t.kids);simp only[wW,xr,wd]at this;omega
theorem qmb{t x:T}{i:Nat}(a:t.kids[i]?=some x):((t.kids.take (i+1)).map bI).flatten=((t.kids.take i).map bI).flatten++bI x:=by
 rw[ye a,wW,xr];simp
theorem qK5(t:T):okE t->size t<=100000->∀c:List Int,c.length+(bI t).length<=1000000000->Ev (λ m _=>z8 m c t) ((),(c++bI t,())):=by
 induction t using T.ind with
 |h t B=>
   intro f J c C;let⟨l,K⟩:=qx4 f;refine waG ?_;simp only[quL,qcf,qk];obtain l|⟨l,g⟩:=l
   .rw[qsP,if_pos l];refine waC (bnt.2 (qj.2 (by omega))) ?_;refine waC (zg (by omega) (by omega)) ?_;refine waC (zg (by rw[wd,qw3];show(c.length+2+_)*1<=_;omega) (by omega)) (waD ?_);rw[wj]
   .have q:t.kind≠2:=by omega
    refine waE (bnf.2 (ql.2 l)) ?_;let⟨A,j,r,v,u,z⟩:=qD3 esL t.name 0 (by rw[qBw];exact g);rw[wD]at v;refine way (a:=esL) (waG (waA _)) (way (qPy t) ?_);refine waC (zg (by omega) (by omega)) (way (a:=esL) (waG (waA _)) (waB (a:=r) (by rw[v,jo,u]) ?_));refine way (a:=qdg t.name) (waG (waD ?_)) ?_
    .simp only[qdQ,QE];rw[<-z];exact qIn r (wb u)
    rw[show iw .u8 (iw .i64 (qi 16 (qor esL t.name 0)))=hdE t.name by unfold hdE;rw[A,qBw]];obtain⟨e,b⟩:∃e,e=(if qdg t.name then[hdE t.name]++[iw .u8 (t.kids.length:Int)]else[hdE t.name]):=⟨_,rfl⟩
    have w:bI t=e++(t.kids.map bI).flatten:=by rw[qsP,if_neg q,b]
    rw[w,wd]at C;have D:=yC t
    have o:=qv (P:=λ i=>Ev (λ m k=>jW m (z8 m) k t.kids t.kids.length i ((c++e)++((t.kids.take i).map bI).flatten)) ((),(c++bI t,()))) t.kids (by omega)
     (λ s=>by
      refine waF ?_;simp only[qjK,qcd];refine waE s (waD ?_);rw[wG,w,wj])
     (λ i x p G s F E y=>by
      refine waF ?_;simp only[qjK,qcd,qk];have g:=wb p;have M:=jJ t x g;have I:=qAo t (i+1);rw[qmb p,wd]at I;refine waC s (waB F (way (B x g (qye f g) (by omega) _ (by rw[wd,wd];omega)) ?_));rw[qmb p,<-wj]at y;rw[E];exact y)
    have d:=o 0 (we _);rw[xH,xZ,List.flatten_nil,ww]at d;cases n:qdg t.name with
    |true=>
      rw[n]at b;have b:e=[hdE t.name]++[iw .u8 (t.kids.length:Int)]:=b;have H:e.length=2:=by rw[b];rfl
      rw[b,<-wj]at d;exact waC rfl (waC (zg (by rw[wd];show(c.length+1+1)*1<=_;omega) (by omega)) (waH (L:=λ m k=>jW m (z8 m) k t.kids t.kids.length 0 _) d))
    |false=>
      rw[n]at b;have b:e=[hdE t.name]:=b;rw[b]at d;exact waE rfl (waH (L:=λ m k=>jW m (z8 m) k t.kids t.kids.length 0 _) d)
theorem qJI(t:T):okE t->size t<=100000->(bI t).length<=1000000000->Ev (λ m _=>ju m t) (zt (bI t)):=by
 induction t using T.ind with
 |h t r=>
   intro d A s;let⟨f,B⟩:=qx4 d;refine waG ?_;simp only[qAx,qfm];obtain f|⟨f,j⟩:=f
   .rw[qsP,if_pos f,qeZ,qCV];exact waC (ql.2 f) (waC (qzc (by rw[qbM];show 2+_<_;omega)) (waA _))
   .have e:t.kind≠2:=by omega
    refine waE (qj.2 e) (way (qN8 t.name) (way (qOv t.name) ?_));rw[show iw .u8 (iw .i64 (qi 16 (qpD nmL t.name 0)))=hdE t.name from rfl];obtain⟨c,a⟩:∃c,c=(if qdg t.name then[hdE t.name]++[iw .u8 (t.kids.length:Int)]else[hdE t.name]):=⟨_,rfl⟩
    have p:bI t=c++(t.kids.map bI).flatten:=by rw[qsP,if_neg e,a]
    rw[p,wd]at s;have u:=yC t
    have l:=qv (P:=λ i=>Ev (λ m k=>Jo m (ju m) k (zt (c++((t.kids.take i).map bI).flatten)) i t.kind t.name t.sort t.kids) (zt (bI t))) t.kids (by omega)
     (λ o=>by
      refine waF ?_;simp only[qnE,qfc];refine waE o (waD ?_);rw[wG,p])
     (λ i x n y o w v q=>by
      refine waF ?_;simp only[qnE,qfc,qk];have j:=wb n;have C:=jJ t x j;have z:=qAo t (i+1);rw[qmb n,wd]at z;refine waC o (waB w (way (r x j (qye d j) (by omega) (by omega)) (waC (qzc (by rw[qbM,qbM,wd];omega)) ?_)));rw[qmb n,<-wj,qeZ]at q;rw[v];exact q)
    have b:=l 0 (we _);rw[xH,xZ,List.flatten_nil,ww]at b;cases g:qdg t.name with
    |true=>
      rw[g]at a;have a:c=[hdE t.name]++[iw .u8 (t.kids.length:Int)]:=a;rw[a,qeZ]at b;exact waC rfl (waC (qzc (by rw[qbM,qbM];show 1+1<_;omega)) (waH (L:=λ m k=>Jo m (ju m) k _ 0 t.kind t.name t.sort t.kids) b))
    |false=>
      rw[g]at a;have a:c=[hdE t.name]:=a;rw[a]at b;exact waE rfl (waH (L:=λ m k=>Jo m (ju m) k _ 0 t.kind t.name t.sort t.kids) b)
end Go.AmZ
namespace Go.AmZ
open Go Go.GxZ
def okC(i:Nat)(c:UInt8):Bool:=if i=0 then qfF (c.toNat:Int)else Qw (c.toNat:Int)
def nmE(s:List UInt8)(b:Nat):Nat->Nat->Option Nat
 |0,_=>none
 |d+1,i=>match s[b+i]? with
   |none=>some (b+i)
   |some c=>cond (okC i c) (nmE s b d (i+1)) (some (b+i))
def hdN(s:List UInt8)(a:Nat):Option (T×Nat)×Nat:=match s[a]? with
 |none=>(none,a)
 |some c=>if c.toNat<=5 then(match s[a+1]? with
   |none=>(none,a+1)
   |some n=>if n.toNat<1\/24<n.toNat then(none,a+1)else match nmE s (a+2) n.toNat 0 with
     |some e=>(none,e)
     |none=>(some (.mk 2 ((s.take (a+2+n.toNat)).drop (a+2)) c.toNat [],0),a+2+n.toNat))
   else if c.toNat<16 then(none,a)else match esL[c.toNat-16]? with
    |none=>(none,a)
    |some r=>if qdg r.1=true then(match s[a+1]? with
      |none=>(none,a+1)
      |some k=>if(k.toNat:Int)<r.2.1\/r.2.2<(k.toNat:Int)then(none,a+1)else(some (.mk 3 r.1 0 [],k.toNat),a+2))
      else(some (.mk 3 r.1 0 [],r.2.1.toNat),a+1)
theorem iwc(c:UInt8):iw .i64 ((c.toNat:Nat):Int)=(c.toNat:Int):=by
 have:=c.toNat_lt;exact Qa (by omega)
theorem iwn{n:Nat}(d:Nat)(h:n+d<2^62):iw .i64 (qi (n:Int) (d:Int))=((n+d:Nat):Int):=by
 rw[qip,Qa (by omega)]
theorem qsl(s:List UInt8)(a:Nat)(b d:Int)(j:s.length<2^60):
  Ev (λ m _=>zk m (s,((a:Int),false)) b d) (match s[a]? with
   |none=>(((s,((a:Int),true)),()),(b,()))
   |some c=>if b<=(c.toNat:Int)/\(c.toNat:Int)<=d then(((s,(((a+1:Nat):Int),false)),()),((c.toNat:Int),()))else(((s,((a:Int),true)),()),(b,()))):=by
 refine waG ?_;simp only[qnc,qbt];refine waE rfl ?_;cases h:s[a]? with
 |none=>exact waC (qhG.2 (by have:=List.getElem?_eq_none_iff.1 h;omega)) (waA _)
 |some c=>
   have k:=(List.getElem?_eq_some_iff.1 h).1;have e:qf s (a:Int)=some c:=by rw[jo];exact h
   refine waE (qiT.2 (by omega)) (waB e ?_);rw[iwc];by_cases g:b<=(c.toNat:Int)
   .refine waE (qA.2 g) (waB e ?_);rw[iwc];by_cases f:(c.toNat:Int)<=d
    .have e1:iw .i64 (qi (a:Int) 1)=((a+1:Nat):Int):=iwn 1 (by omega);rw[e1]
     have i:iw .i64 (yk ((a+1:Nat):Int) 1)=(a:Int):=by
      rw[show yk ((a+1:Nat):Int) 1=(a:Int) by unfold yk;omega,Qa (by omega)]
     rw[i];refine waE (qA.2 f) (waB e (waD ?_));simp only[];rw[if_pos ⟨g,f⟩,iwc]
    .refine waC (qz.2 (by omega)) (waD ?_);simp only[];rw[if_neg (λ h=>f h.2)]
   .refine waC (qz.2 (by omega)) (waD ?_);simp only[];rw[if_neg (λ h=>g h.1)]
theorem qBA{s:List UInt8}{b:Nat}:∀{d i:Nat},nmE s b d i=none->∀j,j<d->b+i+j<s.length
 |0,_,_,j,f=>by omega
 |d+1,i,h,j,f=>by
   unfold nmE at h;split at h
   .cases h
   .rename_i c g;have e:=(List.getElem?_eq_some_iff.1 g).1;cases a:okC i c with
    |false=>rw[a]at h;cases h
    |true=>
      rw[a]at h;have h:nmE s b d (i+1)=none:=h;cases j with
      |zero=>exact e
      |succ j=>have:=qBA h j (by omega);omega
theorem qJ0{α:Type}(i:Nat)(c:UInt8)(A B:Option α):(cond (ile 97 (c.toNat:Int)) (cond (ile (c.toNat:Int) 122) A (cond (ile 65 (c.toNat:Int)) (cond (qe (ile (c.toNat:Int) 90)) (cond (ieq (i:Int) 0) B (cond (ilt (c.toNat:Int) 48) (cond (qe (ieq (c.toNat:Int) 95)) (cond (qe (ieq (c.toNat:Int) 35)) B A) A) (cond (ilt 57 (c.toNat:Int)) (cond (qe (ieq (c.toNat:Int) 95)) (cond (qe (ieq (c.toNat:Int) 35)) B A) A) A))) A) (cond (ieq (i:Int) 0) B (cond (ilt (c.toNat:Int) 48) (cond (qe (ieq (c.toNat:Int) 95)) (cond (qe (ieq (c.toNat:Int) 35)) B A) A) (cond (ilt 57 (c.toNat:Int)) (cond (qe (ieq (c.toNat:Int) 95)) (cond (qe (ieq (c.toNat:Int) 35)) B A) A) A))))) (cond (ile 65 (c.toNat:Int)) (cond (qe (ile (c.toNat:Int) 90)) (cond (ieq (i:Int) 0) B (cond (ilt (c.toNat:Int) 48) (cond (qe (ieq (c.toNat:Int) 95)) (cond (qe (ieq (c.toNat:Int) 35)) B A) A) (cond (ilt 57 (c.toNat:Int)) (cond (qe (ieq (c.toNat:Int) 95)) (cond (qe (ieq (c.toNat:Int) 35)) B A) A) A))) A) (cond (ieq (i:Int) 0) B (cond (ilt (c.toNat:Int) 48) (cond (qe (ieq (c.toNat:Int) 95)) (cond (qe (ieq (c.toNat:Int) 35)) B A) A) (cond (ilt 57 (c.toNat:Int)) (cond (qe (ieq (c.toNat:Int) 95)) (cond (qe (ieq (c.toNat:Int) 35)) B A) A) A)))))=cond (okC i c) A B:=by
 generalize a:((c.toNat:Nat):Int)=x;unfold okC;rw[a];clear a;have b:ieq (i:Int) 0=decide (i=0):=by rw[qxy,xm,decide_eq_true_iff,decide_eq_true_iff];omega
 rw[b];simp only[qxy];have o:ilt x 48 = !decide (48<=x):=by unfold ilt;rw[<-decide_not,xm,decide_eq_true_iff,decide_eq_true_iff];omega
 have n:ilt 57 x = !decide (x<=57):=by unfold ilt;rw[<-decide_not,xm,decide_eq_true_iff,decide_eq_true_iff];omega
 rw[o,n];unfold Qw qfF qqB ile qe;by_cases m:i=0<;>by_cases l:97<=x<;>by_cases k:x<=122<;>by_cases j:65<=x<;>by_cases h:x<=90<;>by_cases g:48<=x<;>by_cases f:x<=57<;>by_cases e:x=95<;>by_cases d:x=35<;>simp[m,l,k,j,h,g,f,e,d]<;>omega
theorem qCp(s:List UInt8)(g:s.length<2^60)(b n:Nat)(j:n<=24):∀d i,i+d=n->b+i<=s.length->
  Ev (λ m k=>yj m k b n i s ((b+i:Nat):Int) false) (match nmE s b d i with
   |some e=>(((s,((e:Int),true)),()),([],()))
   |none=>(((s,(((b+n:Nat):Int),false)),()),((s.take (b+n)).drop b,())))
 |0,i,l,a=>by
   refine waF ?_;simp only[qbm,Qj];obtain rfl:i=n:=by omega
   refine waE (qA.2 (vJ _)) ?_;refine waC (by unfold inb;rw[decide_eq_true_iff];omega) (waC (by unfold inb;rw[decide_eq_true_iff];omega) (waD ?_));rfl
 |d+1,i,l,a=>by
   refine waF ?_;simp only[qbm,Qj];refine waC (qz.2 (by omega)) (waE rfl ?_);rw[nmE];cases h:s[b+i]? with
   |none=>exact waC (qhG.2 (by have:=List.getElem?_eq_none_iff.1 h;omega)) (waA _)
   |some c=>
     have p:=(List.getElem?_eq_some_iff.1 h).1;refine waE (qiT.2 (by omega)) (waB (by rw[jo];exact h) ?_);have f:=qCp s g b n j d (i+1) (by omega) (by omega);have e1:iw .i64 (qi (i:Int) 1)=((i+1:Nat):Int):=iwn 1 (by omega);have o:iw .i64 (qi ((b+i:Nat):Int) 1)=((b+(i+1):Nat):Int):=iwn (n:=b+i) 1 (by omega);rw[e1,o];refine Ev.congr (F:=λ m k=>cond (okC i c) (yj m k b n ((i+1:Nat):Int) s ((b+(i+1):Nat):Int) false) (some (((s,(((b+i:Nat):Int),true)),()),([],())))) ?_ λ m k=>qJ0 i c _ _;simp only[];cases okC i c with
     |true=>exact f
     |false=>exact waA _
theorem qD2(s:List UInt8)(b a:Int):Ev (λ m k=>yj m k b 1 0 s a true) (((s,(a,true)),()),([],())):=by
 refine waF ?_;simp only[qbm,Qj];exact waC rfl (waC rfl (waA _))
theorem qOA(s:List UInt8)(c:s.length<2^60)(a:Nat):Ev (λ m _=>Q5 m (s,((a:Int),false))) (match s[a]? with
  |none=>(((s,((a:Int),true)),()),([],()))
  |some n=>if n.toNat<1\/24<n.toNat then(((s,((a:Int),true)),()),([],()))else match nmE s (a+1) n.toNat 0 with
    |some e=>(((s,((e:Int),true)),()),([],()))
    |none=>(((s,(((a+1+n.toNat:Nat):Int),false)),()),((s.take (a+1+n.toNat)).drop (a+1),()))):=by
 refine waG ?_;simp only[qng,Jt];have b:=qsl s a 1 24 c;cases h:s[a]? with
 |none=>
   rw[h]at b;exact way b (waH (qD2 s a a))
 |some n=>
   rw[h]at b;simp only[]at b |-
   by_cases d:n.toNat<1\/24<n.toNat
   .rw[if_neg (by omega)]at b;rw[if_pos d];exact way b (waH (qD2 s a a))
   .rw[if_pos (by omega)]at b;rw[if_neg d];have f:=(List.getElem?_eq_some_iff.1 h).1;exact way b (waH (qCp s c (a+1) n.toNat (by omega) n.toNat 0 (by omega) (by omega)))
theorem qdE:Ev (λ m _=>yt m) esL:=by
 refine waG ?_;simp only[qqw,qdI];exact waA _
theorem qn5{r:List UInt8×(Int×Int)}(a:r∈esL):Ev (λ m _=>yz m (r.1,(r.2.1,r.2.2))) (qdg r.1):=by
 refine waG ?_;simp only[qdQ,QE];exact waD (qIn r a)
theorem qC0:∀r∈esL,0<=r.2.1/\r.2.1<=8/\r.2.2<=8:=by decide
theorem qsQ(s:List UInt8)(D:s.length<2^60)(b:Nat):(∀t n p,hdN s b=(some (t,n),p)->Ev (λ m _=>qw m (s,((b:Int),false))) (((s,((p:Int),false)),()),((t.kind,(t.name,(t.sort,([],((n:Int),()))))),())))/\
  (∀e,hdN s b=(none,e)->∃nk nm sk lf,Ev (λ m _=>qw m (s,((b:Int),false))) (((s,((e:Int),true)),()),((nk,(nm,(sk,([],(lf,()))))),()))):=by
 have K:∃v:(Val RD×Unit)×((Int×List UInt8×Int×List T×Int×Unit)×Unit),Ev (λ m _=>qw m (s,((b:Int),false))) v/\match hdN s b with
   |(some (t,n),p)=>v=(((s,((p:Int),false)),()),((t.kind,(t.name,(t.sort,([],((n:Int),()))))),()))
   |(none,e)=>∃nk nm sk lf,v=(((s,((e:Int),true)),()),((nk,(nm,(sk,([],(lf,()))))),())):=by
  have y:(∀c,s[b]?=some c->¬ c.toNat<=5)->∃v:(Val RD×Unit)×((Int×List UInt8×Int×List T×Int×Unit)×Unit),Ev (λ m _=>qb (yt m) λ J=>qb (yt m) λ I=>qb (zk m (s,((b:Int),false)) 16 (iw .i64 (yk (iw .i64 (qi 16 (List.length I))) 1))) λ j=>qb (qf J (iw .i64 (yk j.2.1 16))) λ g=>qb (yz m (g.1,(g.2.1,g.2.2))) λ H=>cond H (qb (zk m (j.1.1.1,(j.1.1.2.1,j.1.1.2.2)) g.2.1 g.2.2) λ o=>some (((o.1.1.1,(o.1.1.2.1,o.1.1.2.2)),()),((3,(g.1,(0,([],(o.2.1,()))))),()))) (some (((j.1.1.1,(j.1.1.2.1,j.1.1.2.2)),()),((3,(g.1,(0,([],(g.2.1,()))))),())))) v/\match hdN s b with
   |(some (t,n),p)=>v=(((s,((p:Int),false)),()),((t.kind,(t.name,(t.sort,([],((n:Int),()))))),()))
   |(none,e)=>∃nk nm sk lf,v=(((s,((e:Int),true)),()),((nk,(nm,(sk,([],(lf,()))))),())):=by
   intro B;have f:=qsl s b 16 30 D
   have fail:(match s[b]? with
    |none=>True
    |some c=>c.toNat<16\/30<c.toNat)->∃v:(Val RD×Unit)×((Int×List UInt8×Int×List T×Int×Unit)×Unit),Ev (λ m _=>qb (yt m) λ J=>qb (yt m) λ I=>qb (zk m (s,((b:Int),false)) 16 (iw .i64 (yk (iw .i64 (qi 16 (List.length I))) 1))) λ j=>qb (qf J (iw .i64 (yk j.2.1 16))) λ g=>qb (yz m (g.1,(g.2.1,g.2.2))) λ H=>cond H (qb (zk m (j.1.1.1,(j.1.1.2.1,j.1.1.2.2)) g.2.1 g.2.2) λ o=>some (((o.1.1.1,(o.1.1.2.1,o.1.1.2.2)),()),((3,(g.1,(0,([],(o.2.1,()))))),()))) (some (((j.1.1.1,(j.1.1.2.1,j.1.1.2.2)),()),((3,(g.1,(0,([],(g.2.1,()))))),())))) v/\match hdN s b with
   |(some (t,n),p)=>v=(((s,((p:Int),false)),()),((t.kind,(t.name,(t.sort,([],((n:Int),()))))),()))
   |(none,e)=>∃nk nm sk lf,v=(((s,((e:Int),true)),()),((nk,(nm,(sk,([],(lf,()))))),())):=by
     intro F
     have L:Ev (λ m _=>zk m (s,((b:Int),false)) 16 30) (((s,((b:Int),true)),()),(16,())):=by
      cases h:s[b]? with
      |none=>rw[h]at f;exact f
      |some c=>
        rw[h]at f F;simp only[]at f F;rw[if_neg (by omega)]at f;exact f
     have A:hdN s b=(none,b):=by
      unfold hdN;cases h:s[b]? with
      |none=>rfl
      |some c=>
        rw[h]at F;simp only[]at F |-
        rw[if_neg (B c h)];by_cases C:c.toNat<16
        .rw[if_pos C]
        .rw[if_neg C,show esL[c.toNat-16]?=none from List.getElem?_eq_none_iff.2 (by show 15<=_;omega)]
     rw[A];refine⟨_,way qdE (way qdE (way L (waB (a:=([112,97,105,114],(2,2))) rfl (way (qn5 (r:=([112,97,105,114],(2,2))) (wh ..)) (waE rfl (waA _)))))),3,_,0,_,rfl⟩
   cases h:s[b]? with
   |none=>rw[h]at fail;exact fail trivial
   |some c=>
     by_cases E:c.toNat<16\/30<c.toNat
     .exact fail (by rw[h];exact E)
     .rw[h]at f;simp only[]at f;rw[if_pos (by omega)]at f;have z:c.toNat-16<esL.length:=by show _<15;omega
      have q:=List.getElem?_eq_getElem z;generalize esL[c.toNat-16]=r at q;have i:=wb q;let⟨R,Q,P⟩:=qC0 r i
      have A:hdN s b=(if qdg r.1=true then(match s[b+1]? with
        |none=>(none,b+1)
        |some k=>if(k.toNat:Int)<r.2.1\/r.2.2<(k.toNat:Int)then(none,b+1)else(some (.mk 3 r.1 0 [],k.toNat),b+2))
       else(some (.mk 3 r.1 0 [],r.2.1.toNat),b+1)):=by
       unfold hdN;rw[h];simp only[];rw[if_neg (B c h),if_neg (by omega),q]
      rw[A]
      have w:qf esL (iw .i64 (yk (c.toNat:Int) 16))=some r:=by
       rw[show iw .i64 (yk (c.toNat:Int) 16)=((c.toNat-16:Nat):Int) by rw[show yk (c.toNat:Int) 16=((c.toNat-16:Nat):Int) by unfold yk;omega,Qa (by omega)],jo];exact q
      cases u:qdg r.1 with
      |false=>
        rw[if_neg (by decide)];refine⟨_,way qdE (way qdE (way f (waB w (way (qn5 i) (waE u (waA _)))))),?_⟩;have e:((r.2.1.toNat:Nat):Int)=r.2.1:=by omega
        show _=_;rw[e];rfl
      |true=>
        rw[if_pos rfl];have d:=qsl s (b+1) r.2.1 r.2.2 D;cases l:s[b+1]? with
        |none=>rw[l]at d;exact⟨_,way qdE (way qdE (way f (waB w (way (qn5 i) (waC u (way d (waA _))))))),3,_,0,_,rfl⟩
        |some k=>
          rw[l]at d;simp only[]at d |-
          by_cases N:(k.toNat:Int)<r.2.1\/r.2.2<(k.toNat:Int)
          .rw[if_neg (by omega)]at d;rw[if_pos N];exact⟨_,way qdE (way qdE (way f (waB w (way (qn5 i) (waC u (way d (waA _))))))),3,_,0,_,rfl⟩
          .rw[if_pos (by omega)]at d;rw[if_neg N];exact⟨_,way qdE (way qdE (way f (waB w (way (qn5 i) (waC u (way d (waA _))))))),rfl⟩
  cases h:s[b]? with
  |none=>
    let⟨v,l,d⟩:=y (by rw[h];intro c u;cases u);refine⟨v,waG ?_,d⟩;simp only[qbT,Qk];exact waE (qA.2 (by have:=List.getElem?_eq_none_iff.1 h;omega)) l
  |some c=>
    have S:=(List.getElem?_eq_some_iff.1 h).1;have w:qf s (b:Int)=some c:=by rw[jo];exact h
    by_cases B:c.toNat<=5
    .have f:=qsl s b 0 5 D;rw[h]at f;simp only[]at f;rw[if_pos (by omega)]at f;have i:=qOA s D (b+1)
     have A:hdN s b=(match s[b+1]? with
      |none=>(none,b+1)
      |some n=>if n.toNat<1\/24<n.toNat then(none,b+1)else match nmE s (b+2) n.toNat 0 with
        |some e=>(none,e)
        |none=>(some (.mk 2 ((s.take (b+2+n.toNat)).drop (b+2)) c.toNat [],0),b+2+n.toNat)):=by
      unfold hdN;rw[h];simp only[];rw[if_pos B]
     rw[A]
     have G:∀x,Ev (λ m _=>Q5 m (s,(((b+1:Nat):Int),false))) x->Ev (λ m _=>qw m (s,((b:Int),false))) (((x.1.1.1,(x.1.1.2.1,x.1.1.2.2)),()),((2,(x.2.1,((c.toNat:Int),([],(0,()))))),())):=λ x O=>by
      refine waG ?_;simp only[qbT,Qk];exact waC (qz.2 (by omega)) (waB w (waC (qhG.2 (by omega)) (way f (way O (waA _)))))
     cases l:s[b+1]? with
     |none=>rw[l]at i;exact⟨_,G _ i,2,_,_,_,rfl⟩
     |some n=>
       rw[l]at i;simp only[]at i |-
       by_cases E:n.toNat<1\/24<n.toNat
       .rw[if_pos E]at i |-;exact⟨_,G _ i,2,_,_,_,rfl⟩
       .rw[if_neg E]at i |-
        cases d:nmE s (b+2) n.toNat 0 with
        |some e=>rw[show b+1+1=b+2 from rfl,d]at i;exact⟨_,G _ i,2,_,_,_,rfl⟩
        |none=>rw[show b+1+1=b+2 from rfl,d]at i;exact⟨_,G _ i,rfl⟩
    .let⟨v,l,d⟩:=y (by rw[h];intro c' u;cases u;exact B);refine⟨v,waG ?_,d⟩;simp only[qbT,Qk];exact waC (qz.2 (by omega)) (waB w (waE (qiT.2 (by omega)) l))
 let⟨v,l,d⟩:=K;refine⟨λ t n p M=>?_,λ e M=>?_⟩
 .rw[M]at d;have d:v=_:=d;rw[<-d];exact l
 .rw[M]at d;obtain⟨nk,nm,sk,lf,d⟩:∃nk nm sk lf,v=_:=d;exact⟨nk,nm,sk,lf,by rw[<-d];exact l⟩
end Go.AmZ
namespace Go.AmZ
open Go Go.GxZ
def qcM(R:Nat->Option T×Nat):Nat->Nat->Option (List T)×Nat
 |0,p=>(some [],p)
 |n+1,p=>match R p with
   |(none,e)=>(none,e)
   |(some k,a)=>match qcM R n a with
     |(none,e)=>(none,e)
     |(some ks,q)=>(some (k::ks),q)
def rdT(s:List UInt8):Nat->Nat->Option T×Nat
 |0,p=>(none,p)
 |f+1,p=>match hdN s p with
   |(none,e)=>(none,e)
   |(some (t,n),q)=>match qcM (rdT s f) n q with
     |(none,e)=>(none,e)
     |(some ks,a)=>(some (.mk t.kind t.name t.sort ks),a)
theorem qkW{s:List UInt8}{p q n:Nat}{t:T}(h:hdN s p=(some (t,n),q)):p<q/\q<=s.length/\n<=8/\t.kids=[]/\t.name.length<=24:=by
 unfold hdN at h;cases g:s[p]? with
 |none=>rw[g]at h;cases h
 |some c=>
   rw[g]at h;have u:=(List.getElem?_eq_some_iff.1 g).1;simp only[]at h;split at h
   .cases a:s[p+1]? with
    |none=>rw[a]at h;cases h
    |some k=>
      rw[a]at h;have f:=(List.getElem?_eq_some_iff.1 a).1;simp only[]at h;split at h
      .cases h
      .rename_i v;cases i:nmE s (p+2) k.toNat 0 with
       |some e=>rw[i]at h;cases h
       |none=>
         rw[i]at h;cases h;have:=qBA i (k.toNat-1) (by omega);refine⟨by omega,by omega,by omega,rfl,?_⟩;show((s.take _).drop _).length<=24;rw[wS,wm];omega
   .split at h
    .cases h
    .cases d:esL[c.toNat-16]? with
     |none=>rw[d]at h;cases h
     |some r=>
       rw[d]at h;have j:=wb d;let⟨o,m,l⟩:=qC0 r j;have b:r.1.length<=24:=(by decide:∀r∈esL,r.1.length<=24) r j;simp only[]at h;split at h
       .cases a:s[p+1]? with
        |none=>rw[a]at h;cases h
        |some k=>
          rw[a]at h;have f:=(List.getElem?_eq_some_iff.1 a).1;simp only[]at h;split at h
          .cases h
          .cases h;exact⟨by omega,by omega,by omega,rfl,b⟩
       .cases h;exact⟨by omega,by omega,by omega,rfl,b⟩
theorem qyr{R:Nat->Option T×Nat}{L:Nat}(h:∀p q t,R p=(some t,q)->p<q/\q<=L):∀n p q ks,p<=L->qcM R n p=(some ks,q)->p<=q/\q<=L/\ks.length=n
 |0,p,q,ks,c,a=>by cases a;exact⟨wa _,c,rfl⟩
 |n+1,p,q,ks,c,a=>by
   unfold qcM at a;split at a
   .cases a
   .rename_i k l e;let⟨o,i⟩:=h _ _ _ e;split at a
    .cases a
    .rename_i d j b;cases a;let⟨m,g,f⟩:=qyr h n _ _ _ i b;exact⟨by omega,g,by simp[f]⟩
theorem qwJ(s:List UInt8):∀f p q t,rdT s f p=(some t,q)->p<q/\q<=s.length
 |0,p,q,t,h=>by cases h
 |f+1,p,q,t,h=>by
   unfold rdT at h;split at h
   .cases h
   .rename_i t0 n e b;let⟨j,d,_⟩:=qkW b;split at h
    .cases h
    .rename_i ks g a;cases h;let⟨i,c,_⟩:=qyr (qwJ s f) _ _ _ _ d a;exact⟨by omega,c⟩
theorem qAd{b a:Val RD}{nk sk lf:Int}{nm:List UInt8}(h:Ev (λ m _=>qw m b) ((a,()),((nk,(nm,(sk,([],(lf,()))))),()))):Ev (λ m _=>qer (qw m) b) (a,(nk,(nm,(sk,lf)))):=by
 let⟨B,h⟩:=h;refine⟨B,λ m k c d=>?_⟩;have e:qw m b=_:=h m k c d;show qer _ b=_;unfold qer;rw[e]
abbrev RdL:=λ(a:List (T×Int)) (b:Val RD) (m k:Nat)=>qkm (qw m) k a b
theorem qCR(b:List (T×Int))(s:List UInt8)(a:Int):Ev (RdL b (s,(a,true))) (((s,(a,true)),()),(T.mk 0 [] 0 [],())):=by
 refine waF (L:=RdL b (s,(a,true))) ?_;exact waA _
theorem qGb(b:List (T×Int))(s:List UInt8)(a:Int)(t:T)(n:Nat)(i:n<8)(d:b.length<=1000000000){c:Val RD}{nk sk lf:Int}{nm:List UInt8}(h:Ev (λ m _=>qw m (s,(a,false))) ((c,()),((nk,(nm,(sk,([],(lf,()))))),()))){r:(Val RD×Unit)×(T×Unit)}
  (e:Ev (RdL ((b++[(t,(n:Int))])++[(T.mk nk nm sk [],lf)]) c) r):Ev (RdL (b++[(t,((n+1:Nat):Int))]) (s,(a,false))) r:=by
 refine waF (L:=RdL (b++[(t,((n+1:Nat):Int))]) (s,(a,false))) ?_;show Ev (λ m k=>qmR (qw m) (qkm (qw m) k) (b++[(t,((n+1:Nat):Int))]) (s,(a,false))) r;unfold qmR;have f:(b++[(t,((n+1:Nat):Int))]).length=b.length+1:=by simp
 rw[f,xW];refine waE rfl (waB (a:=(t,((n+1:Nat):Int))) (by rw[List.getElem?_append_right (wa _),kL];rfl) ?_);refine waC (qz.2 (by show(0:Int)<((n+1:Nat):Int);omega)) (waC (zg (by omega) (by decide)) (way (qAd h) ?_));have e1:iw .i64 (yk ((n+1:Nat):Int) 1)=(n:Int):=by rw[show yk ((n+1:Nat):Int) 1=(n:Int) by unfold yk;omega,Qa (by omega)]
 have g:(b++[(t,((n+1:Nat):Int))]).set b.length (t,iw .i64 (yk ((n+1:Nat):Int) 1))=b++[(t,(n:Int))]:=by
  rw[vS _ _ (wa _),kL,e1];rfl
 show Ev (λ m k=>qkm (qw m) k ((b++[(t,((n+1:Nat):Int))]).set b.length (t,iw .i64 (yk ((n+1:Nat):Int) 1))++[(T.mk nk nm sk [],lf)]) c) r;rw[g];exact e
theorem qPs(b:List (T×Int))(s:List UInt8)(a:Int)(t x:T)(n:Int)(g:t.kids.length<8){r:(Val RD×Unit)×(T×Unit)}
  (d:Ev (RdL (b++[(T.mk t.kind t.name t.sort (t.kids++[x]),n)]) (s,(a,false))) r):Ev (RdL ((b++[(t,n)])++[(x,0)]) (s,(a,false))) r:=by
 refine waF (L:=RdL ((b++[(t,n)])++[(x,0)]) (s,(a,false))) ?_;show Ev (λ m k=>qmR (qw m) (qkm (qw m) k) ((b++[(t,n)])++[(x,0)]) (s,(a,false))) r;unfold qmR;have f:((b++[(t,n)])++[(x,(0:Int))]).length=b.length+2:=by simp
 have c:(b++[(t,n)]).length=b.length+1:=by simp
 rw[f,show b.length+2-1=b.length+1 from rfl,xW];refine waE rfl (waB (a:=(x,(0:Int))) (by rw[List.getElem?_append_right (by omega),c,kL];rfl) ?_);refine waE (qA.2 (vJ _)) (waE rfl (waB (a:=(t,n)) (by rw[List.getElem?_append_left (by omega),List.getElem?_append_right (wa _),kL];rfl) ?_));refine waC (zg (by show(t.kids.length+1)*56<=_;omega) (by decide)) ?_;have e:((b++[(t,n)])++[(x,(0:Int))]).take b.length=b:=by rw[wj,List.take_left]
 rw[e];exact d
theorem qKI(s:List UInt8)(O:s.length<=1000000000):∀f n p t b,s.length<p+f->p<=s.length->b.length<=p->t.kids.length+n<=8->
  (∀ks q,qcM (rdT s f) n p=(some ks,q)->∀r,Ev (RdL (b++[(T.mk t.kind t.name t.sort (t.kids++ks),0)]) (s,((q:Int),false))) r->Ev (RdL (b++[(t,(n:Int))]) (s,((p:Int),false))) r)/\
  ∀e,qcM (rdT s f) n p=(none,e)->Ev (RdL (b++[(t,(n:Int))]) (s,((p:Int),false))) (((s,((e:Int),true)),()),(T.mk 0 [] 0 [],())):=by
 intro f
 induction f with
 |zero=>intro n p t b C B;omega
 |succ f x=>
   intro n
   induction n with
   |zero=>
     intro p t b C B J I;refine⟨λ ks q a r h=>?_,λ e a=>by cases a⟩;cases a;rw[ww]at h;have e:T.mk t.kind t.name t.sort t.kids=t:=qk t;rw[e]at h;exact h
   |succ n w=>
     intro p t b C B J I;cases j:hdN s p with
     |mk o l=>
     cases o with
     |none=>
       have k:rdT s (f+1) p=(none,l):=by unfold rdT;rw[j]
       have d:qcM (rdT s (f+1)) (n+1) p=(none,l):=by unfold qcM;rw[k]
       refine⟨λ ks q a=>(by rw[d]at a;cases a),λ e a=>?_⟩;rw[d]at a;cases a;let⟨nk,nm,sk,lf,y⟩:=(qsQ s (by omega) p).2 _ j;exact qGb b s p t n (by omega) (by omega) y (qCR _ _ _)
     |some o=>
       let⟨t0,u⟩:=o;let⟨P,K,g3,A,_⟩:=qkW j;have y:=(qsQ s (by omega) p).1 _ _ _ j;have z:=λ r=>qGb b s p t n (by omega) (by omega) y (r:=r);have L:T.mk t0.kind t0.name t0.sort []=t0:=by rw[<-A];exact qk t0
       rw[L]at z;let⟨F,E⟩:=x u l t0 (b++[(t,(n:Int))]) (by omega) K (by rw[wd];show b.length+1<=l;omega) (by rw[A];show 0+u<=8;omega);cases m:qcM (rdT s f) u l with
       |mk o g=>
       cases o with
       |none=>
         have k:rdT s (f+1) p=(none,g):=by unfold rdT;rw[j];simp only[];rw[m]
         have d:qcM (rdT s (f+1)) (n+1) p=(none,g):=by unfold qcM;rw[k]
         refine⟨λ ks q a=>(by rw[d]at a;cases a),λ e a=>?_⟩;rw[d]at a;cases a;exact z _ (E _ m)
       |some c=>
         have k:rdT s (f+1) p=(some (.mk t0.kind t0.name t0.sort c),g):=by unfold rdT;rw[j];simp only[];rw[m]
         let⟨M,D⟩:=qwJ s _ _ _ _ k
         have step:∀r,Ev (RdL (b++[(T.mk t.kind t.name t.sort (t.kids++[.mk t0.kind t0.name t0.sort c]),(n:Int))]) (s,((g:Int),false))) r->Ev (RdL (b++[(t,((n+1:Nat):Int))]) (s,((p:Int),false))) r:=λ r h=>by
          refine z r (F _ _ m r ?_);rw[A];exact qPs b s g t _ n (by omega) h
         let⟨H,G⟩:=w g (T.mk t.kind t.name t.sort (t.kids++[.mk t0.kind t0.name t0.sort c])) b (by omega) D (by omega) (by show(t.kids++[_]).length+n<=8;rw[wd];show t.kids.length+1+n<=8;omega)
         have d:qcM (rdT s (f+1)) (n+1) p=(match qcM (rdT s (f+1)) n g with
          |(none,e)=>(none,e)
          |(some ks,q)=>(some (.mk t0.kind t0.name t0.sort c::ks),q)):=by
          rw[qcM,k]
         cases i:qcM (rdT s (f+1)) n g with
         |mk o N=>
         rw[i]at d;cases o with
         |none=>
           refine⟨λ ks q a=>(by rw[d]at a;cases a),λ e a=>?_⟩;rw[d]at a;cases a;exact step _ (G _ i)
         |some v=>
           refine⟨λ ks q a r h=>?_,λ e a=>(by rw[d]at a;cases a)⟩;rw[d]at a;cases a;refine step _ (H _ _ i r ?_);show Ev (RdL (b++[(T.mk t.kind t.name t.sort ((t.kids++[.mk t0.kind t0.name t0.sort c])++v),0)]) _) r;rw[wj];exact h
theorem qJV(s:List UInt8)(w:s.length<=1000000000):(∀t q,rdT s (s.length+1) 0=(some t,q)->Ev (λ m _=>jC m (s,(0,false))) (((s,((q:Int),false)),()),(t,())))/\
  ∀e,rdT s (s.length+1) 0=(none,e)->Ev (λ m _=>jC m (s,(0,false))) (((s,((e:Int),true)),()),(T.mk 0 [] 0 [],())):=by
 have start:∀{c:Val RD}{nk sk lf:Int}{nm:List UInt8}{r:(Val RD×Unit)×(T×Unit)},Ev (λ m _=>qw m (s,(0,false))) ((c,()),((nk,(nm,(sk,([],(lf,()))))),()))->Ev (RdL [(T.mk nk nm sk [],lf)] c) r->Ev (λ m _=>jC m (s,(0,false))) r:=by
  intro c nk sk lf nm r h x;refine waG ?_;simp only[qno];unfold qou;exact way (qAd h) (waH x)
 cases d:hdN s 0 with
 |mk o j=>
 cases o with
 |none=>
   have b:rdT s (s.length+1) 0=(none,j):=by unfold rdT;rw[d]
   refine⟨λ t q a=>(by rw[b]at a;cases a),λ e a=>?_⟩;rw[b]at a;cases a;let⟨nk,nm,sk,lf,l⟩:=(qsQ s (by omega) 0).2 _ d;exact start l (qCR _ _ _)
 |some o=>
   let⟨t0,k⟩:=o;let⟨A,y,g3,p,_⟩:=qkW d;have l:=(qsQ s (by omega) 0).1 _ _ _ d;have n:=λ r=>start l (r:=r);have z:T.mk t0.kind t0.name t0.sort []=t0:=by rw[<-p];exact qk t0
   rw[z]at n;let⟨v,u⟩:=qKI s w s.length k j t0 [] (by omega) y (we _) (by rw[p];show 0+k<=8;omega);cases g:qcM (rdT s s.length) k j with
   |mk o i=>
   cases o with
   |none=>
     have b:rdT s (s.length+1) 0=(none,i):=by unfold rdT;rw[d];simp only[];rw[g]
     refine⟨λ t q a=>(by rw[b]at a;cases a),λ e a=>?_⟩;rw[b]at a;cases a;exact n _ (u _ g)
   |some f=>
     have b:rdT s (s.length+1) 0=(some (.mk t0.kind t0.name t0.sort f),i):=by unfold rdT;rw[d];simp only[];rw[g]
     refine⟨λ t q a=>?_,λ e a=>(by rw[b]at a;cases a)⟩;rw[b]at a;cases a;refine n _ (v _ _ g _ ?_);rw[p];refine waF (L:=RdL ([]++[(T.mk t0.kind t0.name t0.sort ([]++f),(0:Int))]) (s,((i:Int),false))) ?_;exact waA _
end Go.AmZ
namespace Go.AmZ
open Go Go.GxZ
theorem qLU{i:Nat}{c:UInt8}(h:okC i c=true):Qw (c.toNat:Int)=true:=by
 unfold okC at h;split at h
 .unfold Qw;rw[h];rfl
 .exact h
theorem qNc{s:List UInt8}{b n:Nat}(w:n<24)(x:b+n<s.length)(h:∀j c,j<n->s[b+j]?=some c->okC j c=true){c:UInt8}(g:s[b+n]?=some c):yN ((s.take (b+(n+1))).drop b)=okC n c:=by
 have f:((s.take (b+(n+1))).drop b).length=n+1:=by rw[wS,wm];omega
 have a:∀j,j<n+1->((s.take (b+(n+1))).drop b)[j]?=s[b+j]?:=λ j e=>by
  rw[List.getElem?_drop,List.getElem?_take,if_pos (by omega)]
 unfold yN;rw[f,decide_eq_true (show 0<n+1 by omega),decide_eq_true (show n+1<=24 by omega)]
 have q:∀o,s[b]?=some o->((s.take (b+(n+1))).drop b).getD 0 0=o:=λ o d=>by
  rw[List.getD_eq_getElem?_getD,a 0 (by omega),wL,d];rfl
 cases n with
 |zero=>
   rw[q c g]
   have l:(s.take (b+(0+1))).drop b=[c]:=by
    apply kZ;intro j;cases j with
    |zero=>rw[a 0 (by omega)];exact g
    |succ j=>rw[List.getElem?_eq_none_iff.2 (by omega)];rfl
   rw[l];unfold okC;rw[if_pos rfl];cases v:qfF (c.toNat:Int)with
   |true=>simp[Qw,v]
   |false=>rfl
 |succ n=>
   have u:b<s.length:=by omega
   have d:=List.getElem?_eq_getElem u;have k:=h 0 _ (by omega) d;unfold okC at k;rw[if_pos rfl]at k;rw[q _ d,k];have:okC (n+1) c=Qw (c.toNat:Int):=by unfold okC;rw[if_neg (by omega)]
   rw[this];cases p:Qw (c.toNat:Int)with
   |true=>
     simp only[kg,wv];intro y r;let⟨j,e⟩:=vR.1 r;have t:=(List.getElem?_eq_some_iff.1 e).1;rw[a j (by omega)]at e;by_cases m:j=n+1
     .subst m;rw[g]at e;cases e;exact p
     .exact qLU (h j y (by omega) e)
   |false=>
     simp only[kg];rw[List.all_eq_false];refine⟨c,wb (i:=n+1) ?_,by rw[p];decide⟩;rw[a (n+1) (by omega)];exact g
end Go.AmZ
namespace Go.AmZ
theorem qI1(n:Nat):qfR (n+3000)=some true:=by kernel_rfl
end Go.AmZ
namespace Go.AmZ
open Go Go.GxZ
def qbU(t:T):Int:=if qcF t≠0 then qcF t else if qdz t=false then 13 else if qal t=false then 10 else 0
def qhp(t:T):List UInt8:=if qbU t=0 then zt (bI t)else[]
theorem qxH{t:T}(d:qcF t=0)(c:qdz t=true)(a:qal t=true):okE t:=by
 let⟨b,e⟩:=qmD d
 have g3:jq t=0:=by
  unfold qP at b;by_cases h:jq t=0
  .exact h
  .rw[if_pos h]at b;exact absurd b h
 unfold qal at a;simp only[wc]at a;exact qPB t g3 e a.2.2 (xe.1 c)
theorem qxA{t:T}(h:okE t)(a:size t<=10000):(bI t).length<=260000:=by
 have:=qP6 t h;omega
theorem qPF(t:T)(j:size t<=10000):Ev (λ m _=>J6 m t) (qhp t,qbU t):=by
 refine waG ?_;simp only[qtg,qeg,qk];refine way (qFM t (by omega)) ?_;let⟨l,i,g⟩:=qNJ t (by omega);by_cases b:qcF t=0
 .refine waE (bnf.2 (ql.2 b)) (way i ?_);cases a:qdz t with
  |false=>
    have k:zQ 1 t≠[]:=λ h=>by unfold qdz at a;rw[h]at a;cases a
    have e:l≠[]:=λ h=>k (g.1 h);have:=xl.2 e;refine waC (qz.2 (by omega)) (waD ?_);have c:qbU t=13:=by unfold qbU;rw[if_neg (λ h=>h b),if_pos a]
    unfold qhp;rw[c];rfl
  |true=>
    have e:l=[]:=g.2 (xe.1 a);refine waE (qA.2 (by rw[e];exact vJ _)) (way (qzg t (by omega)) ?_);cases f:qal t with
    |false=>
      refine waC rfl (waD ?_);have c:qbU t=10:=by unfold qbU;rw[if_neg (λ h=>h b),if_neg (by rw[a];decide),if_pos f]
      unfold qhp;rw[c];rfl
    |true=>
      have d:=qxH b a f;have n:=qxA d j;refine waE rfl (way (qK5 t d (by omega) [] (by show 0+_<=_;omega)) (waD ?_));have c:qbU t=0:=by unfold qbU;rw[if_neg (λ h=>h b),if_neg (by rw[a];decide),if_neg (by rw[f];decide)]
      unfold qhp;rw[c];rfl
 .refine waC (bnt.2 (qj.2 b)) (waD ?_);have c:qbU t=qcF t:=if_pos b;unfold qhp;rw[c,if_neg b]
theorem qJT(t:T)(b:size t<=10000):Ev (λ m _=>qiF m t) (qbU t):=by
 refine waG ?_;simp only[qAE,qib,qk];refine way (qFC t (by omega)) ?_;unfold qbU;by_cases a:qcF t=0
 .rw[if_neg (λ h=>h a)];refine waE (bnf.2 (ql.2 a)) (way (qIQ t b) ?_);cases d:qdz t with
  |false=>exact waC rfl (waA _)
  |true=>
    refine waE rfl (way (qJR t (by omega)) ?_);cases c:qal t with
    |false=>exact waC rfl (waA _)
    |true=>exact waE rfl (waA _)
 .rw[if_pos a];exact waC (bnt.2 (qj.2 a)) (waA _)
theorem qOJ(t:T)(e:size t<=10000):Ev (λ m _=>qgT m t) (qhp t,qbU t):=by
 refine waG ?_;simp only[qy1,qg6,qk];refine way (qJT t e) ?_;by_cases a:qbU t=0
 .have b:okE t:=by
    unfold qbU at a;by_cases c:qcF t=0
    .rw[if_neg (λ h=>h c)]at a;cases d:qdz t with
     |false=>rw[if_pos d]at a;exact absurd a (by decide)
     |true=>
       rw[if_neg (by rw[d];decide)]at a;cases f:qal t with
       |false=>rw[if_pos f]at a;exact absurd a (by decide)
       |true=>exact qxH c d f
    .rw[if_pos c]at a;exact absurd a c
  have g:=qxA b e;refine waE (bnf.2 (ql.2 a)) (way (qJI t b (by omega) (by omega)) (waD ?_));unfold qhp;rw[if_pos a,a]
 .refine waC (bnt.2 (qj.2 a)) (waD ?_);unfold qhp;rw[if_neg a]
theorem qKy(t:T)(e:size t<=10000):(qhp t).length<=260000:=by
 unfold qhp;by_cases a:qbU t=0
 .rw[if_pos a,qbM];refine qxA ?_ e;unfold qbU at a;by_cases b:qcF t=0
  .rw[if_neg (λ h=>h b)]at a;cases c:qdz t with
   |false=>rw[if_pos c]at a;exact absurd a (by decide)
   |true=>
     rw[if_neg (by rw[c];decide)]at a;cases d:qal t with
     |false=>rw[if_pos d]at a;exact absurd a (by decide)
     |true=>exact qxH b c d
  .rw[if_pos b]at a;exact absurd a b
 .rw[if_neg a];exact we _
theorem qv5:Ev (λ m _=>qfR m) true:=⟨3000,λ m k a _=>by
 obtain⟨n,rfl⟩:∃n,m=n+3000:=⟨m-3000,by omega⟩
 exact qI1 n⟩
end Go.AmZ
namespace Go.AmZ
open Go Go.GxZ
end Go.AmZ
namespace Go.AmZ
open Go Go.GxZ
theorem qGH{s:List UInt8}{b:Nat}:∀{d i:Nat},nmE s b d i=none->∀j c,j<d->s[b+i+j]?=some c->okC (i+j) c=true
 |0,_,_,j,_,g,_=>by omega
 |d+1,i,h,j,c,g,a=>by
   unfold nmE at h;split at h
   .cases h
   .rename_i k f;cases e:okC i k with
    |false=>rw[e]at h;cases h
    |true=>
      rw[e]at h;have h:nmE s b d (i+1)=none:=h;cases j with
      |zero=>rw[wL]at a |-;rw[f]at a;cases a;exact e
      |succ j=>have:=qGH h j c (by omega) (by rw[show b+(i+1)+j=b+i+(j+1) by omega];exact a);rw[show i+(j+1)=i+1+j by omega];exact this
theorem qOm:∀r∈esL,yN r.1=true:=by decide
theorem qMu{s:List UInt8}{p q n:Nat}{t:T}(h:hdN s p=(some (t,n),q))(ks:List T)(A:ks.length=n):yU (.mk t.kind t.name t.sort ks)=0:=by
 have C:=(qkW h).2.2.1;unfold hdN at h;cases o:s[p]? with
 |none=>rw[o]at h;cases h
 |some c=>
   rw[o]at h;simp only[]at h;split at h
   .rename_i D;cases i:s[p+1]? with
    |none=>rw[i]at h;cases h
    |some k=>
      rw[i]at h;simp only[]at h;split at h
      .cases h
      .rename_i z;cases u:nmE s (p+2) k.toNat 0 with
       |some e=>rw[u]at h;cases h
       |none=>
         rw[u]at h;cases h;have y:=qBA u;have x:=qGH u;obtain⟨m,w⟩:∃m,k.toNat=m+1:=⟨k.toNat-1,by omega⟩
         have d:=y m (by omega);rw[wL]at d;have g:=List.getElem?_eq_getElem d;have a:=qNc (s:=s) (b:=p+2) (n:=m) (by omega) d (λ j c B o=>by have:=x j c (by omega) (by rw[wL];exact o);rwa [wD]at this) g;have f:=x m _ (by omega) (by rw[wL];exact g);rw[wD]at f;rw[f]at a;unfold yU qf1;show(if(2:Int)=1\/(2:Int)=2 then(if(c.toNat:Int)<0\/5<(c.toNat:Int)\/0<ks.length then 1 else if yN ((s.take (p+2+k.toNat)).drop (p+2))=true then 0 else 2)else _)=(0:Int);rw[if_pos (.inr rfl),if_neg (by omega),w,a,if_pos rfl]
   .split at h
    .cases h
    .cases v:esL[c.toNat-16]? with
     |none=>rw[v]at h;cases h
     |some r=>
       rw[v]at h;have a:=qOm r (wb v)
       have l:∀m,m=n->yU (.mk 3 r.1 0 ks)=0:=λ m w=>by
        unfold yU qf1;show(if(3:Int)=1\/(3:Int)=2 then _ else if(3:Int)=3 then(if(0:Int)≠0 then 1 else if yN r.1=true then(if 8<ks.length then 3 else 0)else 2)else 1)=(0:Int);rw[if_neg (by decide),if_pos rfl,if_neg (by decide),a,if_pos rfl,if_neg (by omega)]
       simp only[]at h;split at h
       .cases i:s[p+1]? with
        |none=>rw[i]at h;cases h
        |some k=>
          rw[i]at h;simp only[]at h;split at h
          .cases h
          .cases h;exact l _ rfl
       .cases h;exact l _ rfl
theorem qIg{t:T}(h:yU t=0)(b:∀k∈t.kids,jq k=0):jq t=0:=by
 rw[qi2,h];generalize t.kids=l at b
 induction l with
 |nil=>rfl
 |cons x l c=>rw[wo,ke,b x (wh ..)];exact c λ k a=>b k (wg _ a)
theorem qBU{R:Nat->Option T×Nat}(h:∀p q t,R p=(some t,q)->jq t=0/\p+size t<=q):∀n p q ks,qcM R n p=(some ks,q)->(∀k∈ks,jq k=0)/\p+(ks.map size).sum<=q
 |0,p,q,ks,a=>by cases a;exact⟨λ k d=>(by cases d),wa _⟩
 |n+1,p,q,ks,a=>by
   unfold qcM at a;split at a
   .cases a
   .rename_i k l d;let⟨i,o⟩:=h _ _ _ d;split at a
    .cases a
    .rename_i e j c;cases a;let⟨g,m⟩:=qBU h n _ _ _ c;refine⟨λ f b=>?_,by rw[wo,kH];omega⟩;obtain rfl|b:=wx.1 b
     .exact i
     .exact g f b
theorem qGI(s:List UInt8):∀f p q t,rdT s f p=(some t,q)->jq t=0/\p+size t<=q
 |0,p,q,t,h=>by cases h
 |f+1,p,q,t,h=>by
   unfold rdT at h;split at h
   .cases h
   .rename_i t0 n g b;split at h
    .cases h
    .rename_i ks i a;cases h;let⟨k,e,_⟩:=qkW b;let⟨d,j⟩:=qBU (qGI s f) _ _ _ _ a;let⟨_,_,c⟩:=qyr (qwJ s f) _ _ _ _ e a;refine⟨qIg (qMu b ks c) d,?_⟩;rw[q9];show p+(1+(ks.map size).sum)<=q;omega
def qH8(s:List UInt8):T×(Int×Int):=match rdT s (s.length+1) 0 with
 |(none,e)=>(.mk 0 [] 0 [],((e:Int),2))
 |(some t,q)=>if q≠s.length then(.mk 0 [] 0 [],((q:Int),2))else if 400<size t\/40<qcz t then(.mk 0 [] 0 [],(0,3))else if qal t=true then(t,(0,0))else(.mk 0 [] 0 [],(0,10))
theorem qQq(s:List UInt8)(e:s.length<=1000000000):Ev (λ m _=>J9 m s) (qH8 s):=by
 refine waG ?_;simp only[qs2,qem,qk];unfold qH8;let⟨i,g⟩:=qJV s e;cases b:rdT s (s.length+1) 0 with
 |mk o q=>
 cases o with
 |none=>exact way (g _ b) (waC rfl (waA _))
 |some t=>
   let⟨f,j⟩:=qGI s _ _ _ _ b;let⟨_,k⟩:=qwJ s _ _ _ _ b;refine way (i _ _ b) (waE rfl ?_);simp only[];by_cases a:q=s.length
   .rw[if_neg (λ h=>h a)];refine waE (bnf.2 (ql.2 (by omega))) (way (qcU t (by omega)) ?_);have d:qP t=if 400<size t\/40<qcz t then 3 else 0:=by unfold qP;rw[if_neg (λ h=>h f)]
    rw[d];by_cases c:400<size t\/40<qcz t
    .rw[if_pos c,if_pos c];exact waC rfl (waA _)
    .rw[if_neg c,if_neg c];refine waE rfl (way (qzg t (by omega)) ?_);cases l:qal t with
     |true=>exact waE rfl (waA _)
     |false=>exact waC rfl (waA _)
   .rw[if_pos a];exact waC (bnt.2 (qj.2 (by omega))) (waA _)
end Go.AmZ
namespace Go.AmZ
open Go Go.GxZ
def okR(u:T):Prop:=(u.kind=2/\0<=u.sort/\u.sort<=5/\yN u.name=true/\u.kids=[])\/(u.kind=3/\u.sort=0/\u.name∈nmL/\(qD u.name).1<=(u.kids.length:Int)/\(u.kids.length:Int)<=(qD u.name).2.1)
def qyl(t:T):Prop:=∀u∈Jd t,okR u
theorem qEk{t:T}(h:qyl t):okR t:=h t (by rw[qcD];exact wh ..)
theorem qKT{t k:T}(h:qyl t)(b:k∈t.kids):qyl k:=λ u a=>h u (by
 rw[qcD];exact wg _ (vt.2 ⟨_,wA.2 ⟨k,b,rfl⟩,a⟩))
theorem qIJ{t:T}(h:yU t=0)(b:t.kind=2):0<=t.sort/\t.sort<=5/\yN t.name=true/\t.kids=[]:=by
 unfold yU qf1 at h;rw[if_pos (.inr b)]at h;split at h
 .cases h
 .rename_i c;cases a:yN t.name with
  |false=>rw[a]at h;cases h
  |true=>exact⟨by omega,by omega,rfl,wi (by omega)⟩
theorem qES{t:T}(h:yU t=0)(a:t.kind=3):t.sort=0:=by
 unfold yU qf1 at h;rw[if_neg (by omega),if_pos a]at h;split at h
 .cases h
 .omega
theorem qNM(t:T):jq t=0->zo t=0->qdx pPl t=true->zQ 1 t=[]->qyl t:=by
 induction t using T.ind with
 |h t v=>
   intro x m e j;let⟨f,y⟩:=qiO x;let⟨B,r,q⟩:=qxa f;rw[qmF,wc]at e;rw[qmB]at j;let⟨g,s⟩:=wZ.1 j;have c:t.kind≠1:=λ h=>by rw[if_pos h]at g;cases g
   intro u b;rw[qcD]at b;obtain rfl|b:=wx.1 b
   .obtain h|h|h:=r
    .exact absurd h c
    .exact .inl ⟨h,qIJ f h⟩
    .let⟨A,_⟩:=qaG h m;let⟨p,o,n,_⟩:=qoE h A;have i:=e.1;rw[show(u.kind==3)=true from beq_iff_eq.2 h]at i;exact .inr ⟨h,qES f h,qGE p (by simpa using i),o,n⟩
   .let⟨l,w,b⟩:=vt.1 b;obtain⟨k,a,rfl⟩:=wA.1 w
    have d:t.kind=3:=by
     by_cases h:t.kind=3
     .exact h
     .rw[q h]at a;cases a
    let⟨_,z⟩:=qaG d m;refine v k a (y k a) (z k a) ?_ ?_ u b
    .have:=wv.1 e.2 (qdx pPl k) (wA.2 ⟨k,a,rfl⟩);exact this
    .exact wal.1 s _ (wA.2 ⟨k,a,rfl⟩)
theorem qLz{t:T}(h:qbU t=0):qyl t/\¬ (400<size t\/40<qcz t)/\qal t=true:=by
 unfold qbU at h;by_cases d:qcF t=0
 .rw[if_neg (λ g:qcF t≠0=>g d)]at h;by_cases c:qdz t=false
  .rw[if_pos c]at h;cases h
  .rw[if_neg c]at h;by_cases b:qal t=false
   .rw[if_pos b]at h;cases h
   .rw[Bool.not_eq_false]at c b;let⟨a,f⟩:=qmD d;have e:=b;unfold qal at e;simp only[wc]at e;unfold qP at a;by_cases g3:jq t=0
    .rw[if_neg (λ g:jq t≠0=>g g3)]at a;refine⟨qNM t g3 f e.2.2 (xe.1 c),λ g=>?_,b⟩;rw[if_pos g]at a;cases a
    .rw[if_pos g3]at a;exact absurd a g3
 .rw[if_pos d]at h;exact absurd h d
theorem qD0{s:List UInt8}{b:Nat}:∀(n j:Nat),(∀i,j<=i->i<j+n->∃c,s[b+i]?=some c/\okC i c=true)->nmE s b n j=none
 |0,_,_=>rfl
 |n+1,j,h=>by
   let⟨c,d,a⟩:=h j (wa _) (by omega);rw[nmE,d];show cond (okC j c) _ _=_;rw[a];exact qD0 n (j+1) λ i f e=>h i (by omega) (by omega)
theorem qJv{n:List UInt8}(h:yN n=true):1<=n.length/\n.length<=24/\∀i c,n[i]?=some c->okC i c=true:=by
 unfold yN at h;simp only[wc,decide_eq_true_eq]at h;let⟨⟨⟨g,f⟩,d⟩,e⟩:=h;refine⟨g,f,λ i c b=>?_⟩;unfold okC;by_cases a:i=0
 .subst a;rw[if_pos rfl];rw[List.getD_eq_getElem?_getD,b]at d;exact d
 .rw[if_neg a];exact wv.1 e c (wb b)
def hdS(u:T):List UInt8:=if u.kind=2 then zt [iw .u8 u.sort,iw .u8 u.name.length]++u.name else zt (if qdg u.name then[hdE u.name]++[iw .u8 u.kids.length]else[hdE u.name])
theorem u8_in{n:Nat}(h:n<=255):iw .u8 (n:Int)=(n:Int):=IntWalk.u8_in _ (by omega)
theorem qwo{n:Nat}(h:n<=255):(UInt8.ofNat (iw .u8 (n:Int)).toNat).toNat=n:=by
 rw[u8_in h,kD];simp only[UInt8.toNat_ofNat'];omega
theorem qPZ{n:List UInt8}(h:n∈nmL):∃(j:Nat) (r:List UInt8×(Int×Int)),j<15/\hdE n=iw .u8 ((16+j:Nat):Int)/\esL[j]?=some r/\r.1=n:=by
 let⟨b,j,r,e,a,d⟩:=qD3 esL n 0 (by rw[qBw];exact h);have c:j<15:=(List.getElem?_eq_some_iff.1 a).1;refine⟨j,r,c,?_,a,d⟩;unfold hdE;rw[qBw]at b;rw[<-b,e,show(16:Int)=((16:Nat):Int)from rfl,qip,Qa (by omega),wD]
theorem qPo:∀r∈esL,(qD r.1).1=r.2.1/\(qD r.1).2.1=r.2.2:=by decide
theorem qOT:∀r∈esL,qdg r.1=false->r.2.1=r.2.2:=by decide
theorem qKE(u:T)(h:okR u)(A B:List UInt8):hdN (A++(hdS u++B)) A.length=(some (.mk u.kind u.name u.sort [],u.kids.length),A.length+(hdS u).length):=by
 obtain⟨l,F,P,n,D⟩|⟨l,C,n,p,q⟩:=h
 .let⟨N,M,z⟩:=qJv n;let⟨so,f⟩:=xS F;have e1:hdS u=[UInt8.ofNat (iw .u8 u.sort).toNat,UInt8.ofNat (iw .u8 (u.name.length:Int)).toNat]++u.name:=by unfold hdS;rw[if_pos l];rfl
  rw[e1];have k:(UInt8.ofNat (iw .u8 u.sort).toNat).toNat=so:=by rw[f];exact qwo (by omega)
  have e:(UInt8.ofNat (iw .u8 (u.name.length:Int)).toNat).toNat=u.name.length:=qwo (by omega);generalize UInt8.ofNat (iw .u8 u.sort).toNat=a at k;generalize UInt8.ofNat (iw .u8 (u.name.length:Int)).toNat=b at e;have t:(A++([a,b]++u.name++B))[A.length]?=some a:=by simp
  have s:(A++([a,b]++u.name++B))[A.length+1]?=some b:=by rw[List.getElem?_append_right (by omega)];simp
  have G:∀i c,u.name[i]?=some c->(A++([a,b]++u.name++B))[A.length+2+i]?=some c:=λ i c m=>by
   have w:=(List.getElem?_eq_some_iff.1 m).1;rw[List.getElem?_append_right (by omega),show A.length+2+i-A.length=2+i by omega,wj,List.getElem?_append_right (by show 2<=_;omega),show 2+i-[a,b].length=i by show 2+i-2=i;omega,List.getElem?_append_left w];exact m
  unfold hdN;rw[t];simp only[];rw[if_pos (by omega),s];simp only[];rw[if_neg (by omega),qD0 _ _ λ i _ w=>⟨u.name[i]'(by omega),G i _ (List.getElem?_eq_getElem _),z i _ (List.getElem?_eq_getElem _)⟩];simp only[]
  have I:((A++([a,b]++u.name++B)).take (A.length+2+b.toNat)).drop (A.length+2)=u.name:=by
   rw[List.drop_take,e,show A.length+2+u.name.length-(A.length+2)=u.name.length by omega,show A++([a,b]++u.name++B)=(A++[a,b])++(u.name++B) by simp,List.drop_left' (by simp),List.take_left' rfl]
  rw[I,k,e,D,l,f];have H:([a,b]++u.name).length=2+u.name.length:=by simp;omega
  rw[H,wN];rfl
 .let⟨j,r,O,E,v,d⟩:=qPZ n;have o:=wb v;let⟨L,K,J⟩:=qC0 r o;let⟨y,x⟩:=qPo r o;rw[<-d,y]at p;rw[<-d,x]at q;have k:(UInt8.ofNat (hdE u.name).toNat).toNat=16+j:=by rw[E];exact qwo (by omega)
  have e1:hdS u=UInt8.ofNat (hdE u.name).toNat::(if qdg u.name then[UInt8.ofNat (iw .u8 (u.kids.length:Int)).toNat]else[]):=by
   unfold hdS;rw[if_neg (by omega)];split<;>rfl
  rw[e1];generalize UInt8.ofNat (hdE u.name).toNat=a at k;have t:∀R:List UInt8,(A++(a::R++B))[A.length]?=some a:=λ R=>by simp
  have g:esL[a.toNat-16]?=some r:=by rw[k,show 16+j-16=j by omega];exact v
  unfold hdN;rw[t];simp only[];rw[if_neg (by omega),if_neg (by omega),g];simp only[];rw[d,l,C];cases m:qdg u.name with
  |true=>
    have e:(UInt8.ofNat (iw .u8 (u.kids.length:Int)).toNat).toNat=u.kids.length:=qwo (by omega);generalize UInt8.ofNat (iw .u8 (u.kids.length:Int)).toNat=b at e;rw[if_pos rfl,if_pos rfl];have s:(A++(a::[b]++B))[A.length+1]?=some b:=by rw[List.getElem?_append_right (by omega)];simp
    rw[s];simp only[];rw[if_neg (by omega),e];rfl
  |false=>
    have:=qOT r o (by rw[d];exact m);rw[if_neg (by decide),if_neg (by decide),show r.2.1.toNat=u.kids.length by omega];rfl
theorem qQH(t:T)(h:okR t):zt (bI t)=hdS t++zt (t.kids.map bI).flatten:=by
 rw[qsP];unfold hdS;obtain⟨a,_,_,_,c⟩|⟨a,_⟩:=h
 .rw[if_pos a,if_pos a,qeZ,qCV,c];exact(ww _).symm
 .have b:¬ t.kind=2:=by omega
  rw[if_neg b,if_neg b,qeZ]
theorem qNN(t:T):1<=(hdS t).length:=by
 unfold hdS;split
 .rw[wd];show 1<=2+_;omega
 .split
  .exact(by decide:1<=2)
  .exact wa 1
theorem qzB(f:Nat):∀(ks:List T),(∀k∈ks,∀A B:List UInt8,rdT (A++(zt (bI k)++B)) f A.length=(some k,A.length+(zt (bI k)).length))->∀A B:List UInt8,qcM (rdT (A++(zt (ks.map bI).flatten++B)) f) ks.length A.length=(some ks,A.length+(zt (ks.map bI).flatten).length)
 |[],_,A,B=>rfl
 |k::ks,h,A,B=>by
   have c:=h k (wh ..) A (zt (ks.map bI).flatten++B);have a:=qzB f ks (λ x b=>h x (wg _ b)) (A++zt (bI k)) B;rw[wo,xY,qeZ,wy,qcM,wj,c];simp only[];rw[wj,wd]at a;rw[a];simp only[];rw[wd,wN]
theorem qK1(t:T):qyl t->∀(f:Nat) (A B:List UInt8),(zt (bI t)).length<=f->rdT (A++(zt (bI t)++B)) f A.length=(some t,A.length+(zt (bI t)).length):=by
 induction t using T.ind with
 |h t c=>
   intro h f A B d;have e:=qNN t;rw[qQH t (qEk h),wd]at d |-
   obtain⟨f,rfl⟩:∃n,f=n+1:=⟨f-1,by omega⟩
   rw[rdT,wj,qKE t (qEk h)];simp only[]
   have b:∀k∈t.kids,(zt (bI k)).length<=(zt (t.kids.map bI).flatten).length:=λ k b=>by
    rw[qbM,qbM];exact(vh (wA.2 ⟨k,b,rfl⟩)).length_le
   have:=qzB f t.kids (λ k a A B=>c k a (qKT h a) f A B (by have:=b k a;omega)) (A++hdS t) B;rw[wj,wd]at this;rw[this];simp only[];rw[wN];cases t;rfl
theorem qJa{t:T}(h:qbU t=0):qH8 (qhp t)=(t,(0,0)):=by
 let⟨c,b,a⟩:=qLz h;unfold qH8 qhp;rw[if_pos h];have:=qK1 t c ((zt (bI t)).length+1) [] [] (by omega);rw[ww]at this;have e:rdT (zt (bI t)) ((zt (bI t)).length+1) 0=(some t,(zt (bI t)).length):=this.trans (by rw[wY,wD]);rw[e];simp only[];rw[if_neg (λ g=>g rfl),if_neg b,if_pos a]
end Go.AmZ
namespace Go.AmZ
open Go Go.GxZ Go.RowKit
open Go.ChangeShapes Go.WideShapes Go.ChangeAt Go.WideMaps Go.WideElems
theorem qAm(b o j:Nat):(⟨b,o,none⟩:Addr).add j=⟨b,o+j,none⟩:=by unfold Addr.add;split<;>simp_all
def Ty.wt:Ty->Nat
 |.int _|.bool=>1
 |.str=>16
 |.list _=>24
 |.term=>56
 |.pair a b=>a.wt+b.wt
 |.one a=>a.wt
 |.map _ _=>8
theorem Ty.wt_pos:∀a:Ty,0<a.wt
 |.int _|.bool=>Nat.one_pos
 |.list _=>(by decide:0<24)
 |.str=>(by decide:0<16)
 |.term=>(by decide:0<56)
 |.pair a b=>wC (Ty.wt_pos a) (kK _ _)
 |.one a=>Ty.wt_pos a
 |.map _ _=>(by decide:0<8)
mutual
def tyM(P:Program):Nat->Ty->TypeId->Bool
 |0,_,_=>false
 |_+1,.int k,t=>match P.underlying t with
   |some (.int d)=>decide (d=k)&&decide (P.cellsOf t=1)
   |_=>false
 |_+1,.bool,t=>match P.underlying t with
   |some .bool=>decide (P.cellsOf t=1)
   |_=>false
 |_+1,.str,t=>match P.underlying t with
   |some .string=>decide (P.cellsOf t=1)
   |_=>false
 |n+1,.list a,t=>match P.underlying t with
   |some (.slice e)=>decide (P.cellsOf t=1)&&decide (P.cellsOf e=a.size)&&decide (a.wt<=P.bytesOf e)&&tyM P n a e
   |_=>false
 |n+1,.term,t=>qHk P n t
 |n+1,.pair a b,t=>match P.underlying t with
   |some (.struct c)=>decide (P.cellsOf t=a.size+b.size)&&fsM P n (.pair a b) 0 c.toList
   |_=>false
 |n+1,.one a,t=>match P.underlying t with
   |some (.struct c)=>decide (P.cellsOf t=a.size)&&fsM P n a 0 c.toList
   |_=>false
 |_+1,.map _ _,_=>false
def fsM(P:Program):Nat->Ty->Nat->List Field->Bool
 |0,_,_,_=>false
 |n+1,τ,off,[f]=>decide (f.offset=off)&&decide (P.cellsOf f.type=τ.size)&&tyM P n τ f.type
 |n+1,.pair a b,off,f::g::r=>decide (f.offset=off)&&decide (P.cellsOf f.type=a.size)&&tyM P n a f.type&&fsM P n b (off+a.size) (g::r)
 |_+1,_,_,_=>false
def qHk(P:Program):Nat->TypeId->Bool
 |0,_=>false
 |n+1,t=>match P.underlying t with
   |some (.struct f)=>match f.toList with
     |[d,c,b,a]=>decide (P.cellsOf t=4)&&decide (d.offset=0)&&decide (c.offset=1)&&decide (b.offset=2)&&decide (a.offset=3)&&decide (P.cellsOf a.type=1)&&
      tyM P n (.int .i64) d.type&&tyM P n .str c.type&&tyM P n (.int .i64) b.type&&(match P.underlying a.type with
      |some (.slice e)=>decide (e=t)&&decide (0<P.bytesOf t)
      |_=>false)
     |_=>false
   |_=>false
end
def qlm:(τ:Ty)->Val τ->Prop
 |.int k,n=>k.min<=n/\n<=k.max
 |.bool,_=>True
 |.str,s=>s.length<2^62
 |.term,t=>qrr t
 |.list a,l=>(l.length<2^62/\l.length*a.wt<=2^47)/\∀x∈l,qlm a x
 |.pair a b,p=>qlm a p.1/\qlm b p.2
 |.one a,v=>qlm a v
 |.map _ _,_=>True
def ghW(W:World):Gh:=⟨λ b o=>match W.cell? ⟨b,o,none⟩with|some u=>if u.oneCell'=true then some u else none|none=>none,0,λ _=>0,0,λ _=>0,λ _=>0,λ _=>0,λ _=>0,λ _=>0⟩
theorem qGD{W:World}{b o:Nat}{u:Value}:(ghW W).mem b o=some u↔W.cell? ⟨b,o,none⟩=some u/\u.oneCell'=true:=by
 show(match W.cell? ⟨b,o,none⟩with|some u=>if u.oneCell'=true then some u else none|none=>none)=some u↔_;cases W.cell? ⟨b,o,none⟩with
 |none=>simp
 |some v=>
   simp only[wz];constructor
   .intro h;split at h
    .cases h;exact⟨rfl,‹_›⟩
    .cases h
   .rintro⟨rfl,h⟩;rw[if_pos h]
theorem qN0(W:World):Inv (ghW W) emp W:=
 ⟨rfl,rfl,λ b o u h=>qGD.1 h,λ i cs h=>(by cases h),λ i j h=>absurd h (wK _),λ i h=>absurd h (wK _),λ r R h=>(by cases h),λ r a h=>absurd h (wK _)⟩
theorem cells_len{W:World}{zF:Nat}{a:Addr}:∀{n:Nat} {cs:List Value},W.cells? zF a n=some cs->cs.length=n/\∀ j u,cs[j]?=some u->W.cell? (a.add j)=some u:=by
 intro n cs h;unfold World.cells? at h;split at h
 case isFalse=>cases h
 have h1:=mapM_some_length h;rw[xE]at h1;refine⟨h1,λ j u hj=>?_⟩;have hlt:=getElem?_lt hj;have:=mapM_some_get h j j (by rw[List.getElem?_range (by omega)]);rw[this];exact hj
section
variable {H:Type}{enc:TypeId×Value->H}{P:Program}{W:World}
def qHK(enc:TypeId×Value->H)(P:Program)(W:World)(a:Nat):Prop:=∀(n:Nat) (τ:Ty) (t:TypeId) (cs:List Value) (x:DataW H×List MemPlace),tyM P n τ t=true->DataW.trod enc P W 0 (λ _=>true) true a t cs=some x->(∀k∈x.1.weights P t,k<=reachBytes)->
 ∃v:Val τ,RepL (ghW W) (qd τ v) cs/\(∀u∈cs,u.oneCell'=true)/\qlm τ v
theorem qom{e:TypeId}:∀{ds:List (DataW H)}{d:DataW H},d∈ds->∀n∈d.weights P e,n∈DataW.weightsAll P e ds
 |b::ds,d,h,n,a=>by
   simp only[DataW.weightsAll,wk];obtain rfl|h:=wx.1 h
   .exact Or.inl a
   .exact Or.inr (qom h n a)
theorem qBC{n k:Nat}(h:n*k<=reachBytes)(a:0<k):n<2^62:=by
 have:n*1<=n*k:=vX _ a;have b:reachBytes=140737488351232:=rfl;omega
theorem qIt{α d:Type}{n:Nat}{Q:Nat->α->d->Prop}(e:0<n)(h:∀i,i<n->∃a b,Q i a b):∃(f:Nat->α) (g:Nat->d),∀i,i<n->Q i (f i) (g i):=by
 let⟨k,j,_⟩:=h 0 e;refine⟨λ i=>if c:i<n then(h i c).choose else k,λ i=>if c:i<n then(h i c).choose_spec.choose else j,λ i c=>?_⟩;simp only[dif_pos c];exact(h i c).choose_spec.choose_spec
theorem qEf{Γ:Gh}{x:AV}{u:Value}(h:Rep Γ x u):RepL Γ [x] [u]:=waK h RepL.nil
theorem qzU{A:Nat}(hA:∀f,f<A->qHK enc P W f){a:Ty}{t e:TypeId}{m:Nat}{cs:List Value}{x:DataW H×List MemPlace}(T:P.underlying t=some (.slice e))(hc:P.cellsOf e=a.size)(hb:0<P.bytesOf e)(hm:tyM P m a e=true)
  (h:DataW.trod enc P W 0 (λ _=>true) true A t cs=some x) (M:∀k∈x.1.weights P t,k<=reachBytes):
  ∃(l:List (Val a)) (u:Value),cs=[u]/\u.oneCell'=true/\Rep (ghW W) (.sl a.size (l.map (qd a)) 1) u/\(l.length<2^62/\l.length*P.bytesOf e<=2^47)/\∀v∈l,qlm a v:=by
 obtain⟨rfl,rfl⟩|⟨ad,d,cap,elems,E,n,rfl,rfl,rfl,_,U,_,I,O,_,_⟩:=DataW.trod_slice T h
 .refine⟨[],_,rfl,rfl,?_,⟨by simp,by simp⟩,(by intro v G;cases G)⟩;exact .sl _ _ _ none 0 0 0 0 (λ _ _=>undef) rfl (λ _=>wa _) (λ h=>by omega) (by intro e p;cases p) (by intro e p;cases p) (waI a) (.inl rfl) (by intro i e j x c;cases c) (by intro i e j x c;cases c)
 .have F:(elems.length+E.length)*P.bytesOf e<=reachBytes/\∀k∈DataW.weightsAll P e (elems.map (·.1)),k<=reachBytes:=by
    simp only[DataW.weights,T,wB,wx,wk]at M;exact⟨M _ (.inl rfl),λ k N=>M k (.inr (.inl N))⟩
  have B:∀i,i<d->∃(v:Val a) (us:List Value),RepL (ghW W) (qd a v) us/\(∀u∈us,u.oneCell'=true)/\qlm a v/\(∀j u,us[j]?=some u->W.cell? ((ad.add (i*a.size)).add j)=some u):=by
   intro i c;have g:=O i c;rw[List.getElem?_eq_getElem (by omega),hc,Option.bind_eq_some_iff]at g;let⟨us,C,h3⟩:=g;let⟨z,D⟩:=cells_len C;let⟨v,Q,g2,g3⟩:=hA n (xx _) m a e us _ hm h3 λ k N=>F.2 k (qom (kY (wX _)) k N);exact⟨v,us,Q,g2,g3,D⟩
  by_cases h0:d=0
  .subst h0;refine⟨[],_,rfl,rfl,?_,⟨by simp,by simp⟩,(by intro v G;cases G)⟩;exact .sl _ _ _ _ 0 cap 0 0 (λ _ _=>undef) rfl (λ _=>U) (λ h=>by omega) (by intro e p;cases p) (by intro e p;cases p) (waI a) (.inl rfl) (by intro i e j x c;cases c) (by intro i e j x c;cases c)
  obtain⟨b,o,rfl⟩:∃b o,ad=⟨b,o,none⟩:=by
   let⟨v,us,Q,_,_,g4⟩:=B 0 (by omega);have aa:us.length=a.size:=by rw[Q.len];exact yi a v
   have hp:=waI a;have g:=g4 0 _ (List.getElem?_eq_getElem (by omega));rw[kJ]at g;have e1:(ad.add 0).add 0=ad:=rfl;rw[e1]at g;let⟨b,o,sp⟩:=ad;unfold World.cell? at g;split at g
   .split at g
    .cases g
    .rename_i hs;cases sp with
     |none=>exact⟨b,o,rfl⟩
     |some s=>simp at hs
   .cases g
  let⟨L,R,r⟩:=qIt (by omega:0<d) B;have Z:=λ i c=>(r i c).1;have Y:=λ i c=>(r i c).2.1;have X:=λ i c=>(r i c).2.2.1;have V:=λ i c=>(r i c).2.2.2;have K:∀i,i<d->((List.range d).map L)[i]?=some (L i):=λ i c=>by rw[List.getElem?_map,List.getElem?_range c];rfl
  have q:∀(i:Nat) (w:List AV) (j:Nat) (y:AV),(((List.range d).map L).map (qd a))[i]?=some w->w[j]?=some y->i<d/\∃u,(R i)[j]?=some u/\Rep (ghW W) y u/\(ghW W).mem b (o+i*a.size+j)=some u:=by
   intro i w j y g C;have c:i<d:=by have:=getElem?_lt g;simpa using this
   rw[List.getElem?_map,K i c]at g;cases g;let⟨u,z,D⟩:=(Z i c).get C;refine⟨c,u,z,D,qGD.2 ⟨?_,Y i c u (wb z)⟩⟩;have:=V i c j u z;rw[qAm,qAm]at this;exact this
  refine⟨(List.range d).map L,_,rfl,rfl,?_,?_,?_⟩
  .refine .sl _ _ _ _ d cap b o (λ i j=>(R i).getD j undef) (by simp) (λ _=>U) (λ h=>by omega) ?_ ?_ (waI a) (.inr rfl) ?_ ?_
   .intro w p;obtain⟨v,_,rfl⟩:=wA.1 p;exact yi a v
   .intro w p;obtain⟨v,_,rfl⟩:=wA.1 p;exact zr a v
   .intro i w j y g C;let⟨_,u,z,D,S⟩:=q i w j y g C;rw[List.getD_eq_getElem?_getD,z];exact S
   .intro i w j y g C;let⟨_,u,z,D,S⟩:=q i w j y g C;rw[List.getD_eq_getElem?_getD,z];exact D
  .rw[wB,xE,<-I];have J:elems.length*P.bytesOf e<=reachBytes:=wE (wu _ (kK _ _)) F.1;exact⟨qBC J hb,wE J (by decide)⟩
  .intro v G;obtain⟨i,c,rfl⟩:=wA.1 G;exact X i (k9.1 c)
theorem qxu{c:Nat}(G:qHK enc P W c):∀(n:Nat) (τ:Ty) (off:Nat) (d:List Field) (cs:List Value) (xs:List (DataW H×List MemPlace)),fsM P n τ off d=true->xs.length=d.length->
  (∀(i:Nat) (f:Field),d[i]?=some f->DataW.trod enc P W 0 (λ _=>true) true c f.type ((cs.drop f.offset).take (P.cellsOf f.type))=xs[i]?)->(∀k∈DataW.weightsEach P (d.map (·.type)) (xs.map (·.1)),k<=reachBytes)->off+τ.size<=cs.length->
  ∃v:Val τ,RepL (ghW W) (qd τ v) ((cs.drop off).take τ.size)/\(∀u∈(cs.drop off).take τ.size,u.oneCell'=true)/\qlm τ v:=by
 intro n
 induction n with
 |zero=>intro τ off d cs xs h;simp[fsM]at h
 |succ n M=>
   intro τ off d cs xs h A z m j
   have t:∀f x,d=[f]->xs=[x]->(decide (f.offset=off)&&decide (P.cellsOf f.type=τ.size)&&tyM P n τ f.type)=true->∃v:Val τ,RepL (ghW W) (qd τ v) ((cs.drop off).take τ.size)/\(∀u∈(cs.drop off).take τ.size,u.oneCell'=true)/\qlm τ v:=by
    intro f x Q w h;simp only[wc,decide_eq_true_eq]at h;let⟨⟨E,D⟩,C⟩:=h;subst Q;subst w;have o:=z 0 f rfl;rw[E,D]at o;exact G n τ f.type _ x C o λ k l=>m k (by simp only[wo,xZ,DataW.weightsEach,ww];exact l)
   cases d with
   |nil=>cases τ<;>simp[fsM]at h
   |cons f r=>
     cases xs with
     |nil=>simp at A
     |cons x xs=>
       cases r with
       |nil=>
         have y:xs=[]:=wi (by simpa using A);subst y;refine t f x rfl rfl ?_;cases τ<;>exact h
       |cons g r=>
         cases τ with
         |pair a b=>
           simp only[fsM,wc,decide_eq_true_eq]at h;let⟨⟨⟨E,D⟩,C⟩,o⟩:=h;have I:=z 0 f rfl;rw[E,D]at I;have O:off+(a.size+b.size)<=cs.length:=j;simp only[wo,DataW.weightsEach,wk]at m;let⟨v,L,K,J⟩:=G n a f.type _ x C I λ k l=>m k (.inl l);let⟨F,s,q,p⟩:=M b (off+a.size) (g::r) cs xs o (by simpa using A) (λ i R B=>z (i+1) R B) (λ k l=>m k (.inr l)) (by omega)
           have e:(cs.drop off).take (a.size+b.size)=(cs.drop off).take a.size++(cs.drop (off+a.size)).take b.size:=by
            rw[List.take_add,List.drop_drop]
           refine⟨(v,F),?_,?_,J,p⟩
           .show RepL _ (qd a v++qd b F) ((cs.drop off).take (a.size+b.size));rw[e];exact L.append s
           .show ∀u∈(cs.drop off).take (a.size+b.size),_;rw[e];intro u N;exact(wk.1 N).elim (K u) (q u)
         |_=>simp[fsM]at h
theorem qOH{Γ:Gh}(k:IntKind)(n:Int):RepL Γ (qd (.int k) n) [.int k n]:=qEf (.v _ rfl)
theorem qKW:∀ fuel,qHK enc P W fuel:=by
 intro fuel
 induction fuel using Nat.strongRecOn with
 | ind fuel ihA =>
   have ints:∀{k:IntKind} {t:TypeId} {cs:List Value} {x:DataW H × List MemPlace} {f:Nat},P.underlying t=some (.int k)->DataW.trod enc P W 0 (λ _=>true) true f t cs=some x->∃ n:Int,cs=[.int k n]/\k.min<=n/\n<=k.max:=by
    intro k t cs x f ht h;obtain⟨n,rfl,_,hwf⟩:=DataW.trod_int ht h;simp only[Lit.wf,wc,decide_eq_true_eq]at hwf;exact⟨n,rfl,hwf⟩
   have strs:∀{t:TypeId} {cs:List Value} {x:DataW H × List MemPlace} {f:Nat},P.underlying t=some .string->DataW.trod enc P W 0 (λ _=>true) true f t cs=some x->(∀ k∈x.1.weights P t,k<=reachBytes)->∃ s:ByteArray,cs=[.string s]/\s.data.toList.length<2 ^ 62:=by
    intro t cs x f ht h hw;obtain⟨s,rfl,rfl,_⟩:=DataW.trod_string ht h;refine⟨s,rfl,?_⟩;have:=hw s.data.toList.length (by simp[DataW.weights]);exact qBC (k:=1) (by omega) (by decide)
   intro n τ t cs x hm h hw;cases n with
   | zero=>cases τ <;> simp[tyM]at hm
   | succ n =>
   cases τ with
   | int k =>
     simp only[tyM]at hm;split at hm
     ·rename_i k' ht;simp only[wc,decide_eq_true_eq]at hm;obtain⟨rfl,_⟩:=hm;obtain⟨i,rfl,h1,h2⟩:=ints ht h;exact⟨i,qOH _ _,by intro u hu;rw[wF.1 hu];rfl,h1,h2⟩
     ·cases hm
   | bool =>
     simp only[tyM]at hm;split at hm
     ·rename_i ht;obtain⟨b,rfl,_⟩:=DataW.trod_bool ht h;exact⟨b,qEf (.v _ rfl),by intro u hu;rw[wF.1 hu];rfl,trivial⟩
     ·cases hm
   | str =>
     simp only[tyM]at hm;split at hm
     ·rename_i ht;obtain⟨s,rfl,h1⟩:=strs ht h hw;refine⟨s.data.toList,?_,by intro u hu;rw[wF.1 hu];rfl,h1⟩;exact qEf (.v _ rfl)
     ·cases hm
   | list a =>
     simp only[tyM]at hm;split at hm
     ·rename_i e ht;simp only[wc,decide_eq_true_eq]at hm;obtain⟨⟨⟨_,hc⟩,hb⟩,hm⟩:=hm;obtain⟨l,u,rfl,h1,h2,h3,h4⟩:=qzU (λ f hf=>ihA f hf) ht hc (wC (Ty.wt_pos a) hb) hm h hw;exact⟨l,qEf h2,by intro u' hu;rw[wF.1 hu];exact h1,⟨h3.1,wE (vX _ hb) h3.2⟩,h4⟩
     ·cases hm
   | pair a b =>
     simp only[tyM]at hm;split at hm
     ·rename_i fs ht;simp only[wc,decide_eq_true_eq]at hm;obtain⟨hc,hm⟩:=hm;obtain⟨xs,f,rfl,rfl,h1,h2,h3⟩:=DataW.trod_struct ht h;have hsz:(Ty.pair a b).size=a.size+b.size:=rfl;obtain⟨v,v1,v2,v3⟩:=qxu (ihA f (xx _)) n (.pair a b) 0 fs.toList cs xs hm (by simpa using h2) (λ i g hg=>h3 i g (by simpa using hg)) (by simpa[DataW.weights,ht]using hw) (by rw[h1,hc,hsz];omega);rw[wP,kI (by rw[h1,hc,hsz];exact wa _)]at v1 v2;exact⟨v,v1,v2,v3⟩
     ·cases hm
   | one a =>
     simp only[tyM]at hm;split at hm
     ·rename_i fs ht;simp only[wc,decide_eq_true_eq]at hm;obtain⟨hc,hm⟩:=hm;obtain⟨xs,f,rfl,rfl,h1,h2,h3⟩:=DataW.trod_struct ht h;obtain⟨v,v1,v2,v3⟩:=qxu (ihA f (xx _)) n a 0 fs.toList cs xs hm (by simpa using h2) (λ i g hg=>h3 i g (by simpa using hg)) (by simpa[DataW.weights,ht]using hw) (by rw[h1,hc];omega);rw[wP,kI (by rw[h1,hc];exact wa _)]at v1 v2;exact⟨v,v1,v2,v3⟩
     ·cases hm
   | map a b=>simp[tyM]at hm
   | term =>
     have hm0:=hm;simp only[tyM]at hm;cases n with
     | zero=>simp[qHk]at hm
     | succ n =>
     simp only[qHk]at hm;split at hm
     case h_2=>cases hm
     rename_i fs ht;split at hm
     case h_2=>cases hm
     rename_i f0 f1 f2 f3 hfs;simp only[wc,decide_eq_true_eq]at hm;obtain⟨⟨⟨⟨⟨⟨⟨⟨⟨hc,o0⟩,o1⟩,o2⟩,o3⟩,hc3⟩,m0⟩,m1⟩,m2⟩,m3⟩:=hm;split at m3
     case h_2=>cases m3
     rename_i e ht3;simp only[wc,decide_eq_true_eq]at m3;obtain⟨rfl,hb⟩:=m3;obtain⟨xs,f,rfl,rfl,h1,h2,h3⟩:=DataW.trod_struct ht h;have hsz:fs.size=4:=by rw[<- wM,hfs];rfl
     rw[hsz]at h2;rw[hc]at h1
     obtain⟨c0,c1,c2,c3,rfl⟩:∃ c0 c1 c2 c3,cs=[c0,c1,c2,c3]:=by
      match cs,h1 with
      | [a,b,c,d],_=>exact⟨a,b,c,d,rfl⟩
     obtain⟨x0,x1,x2,x3,rfl⟩:∃ x0 x1 x2 x3,xs=[x0,x1,x2,x3]:=by
      match xs,h2 with
      | [a,b,c,d],_=>exact⟨a,b,c,d,rfl⟩
     have fg:∀ i g,[f0,f1,f2,f3][i]?=some g->fs[i]?=some g := λ i g hg=>by rw[<- hfs,Array.getElem?_toList]at hg;exact hg
     have s0:=h3 0 f0 (fg 0 _ rfl);have s1:=h3 1 f1 (fg 1 _ rfl);have s2:=h3 2 f2 (fg 2 _ rfl);have s3:=h3 3 f3 (fg 3 _ rfl)
     have cOf:∀{τ : Ty} {t:TypeId},(∃ k,τ = .int k) \/ τ = .str->tyM P n τ t=true->P.cellsOf t=1:=by
      intro τ t hτ hm;cases n with
      | zero=>cases τ <;> simp[tyM]at hm
      | succ n =>
        rcases hτ with⟨k,rfl⟩ | rfl
        ·simp only[tyM]at hm;split at hm
         ·simp only[wc,decide_eq_true_eq]at hm;exact hm.2
         ·cases hm
        ·simp only[tyM]at hm;split at hm
         ·exact of_decide_eq_true hm
         ·cases hm
     have uInt:∀{k:IntKind} {t:TypeId},tyM P n (.int k) t=true->P.underlying t=some (.int k):=by
      intro k t hm;cases n with
      | zero=>simp[tyM]at hm
      | succ n =>
        simp only[tyM]at hm;split at hm
        ·rename_i k' ht;simp only[wc,decide_eq_true_eq]at hm;rw[ht,hm.1]
        ·cases hm
     have uStr:∀{t:TypeId},tyM P n .str t=true->P.underlying t=some .string:=by
      intro t hm;cases n with
      | zero=>simp[tyM]at hm
      | succ n =>
        simp only[tyM]at hm;split at hm
        ·assumption
        ·cases hm
     rw[o0,cOf (.inl ⟨_,rfl⟩) m0]at s0;rw[o1,cOf (.inr rfl) m1]at s1;rw[o2,cOf (.inl ⟨_,rfl⟩) m2]at s2;rw[o3,hc3]at s3
     have hwE:∀ k∈DataW.weightsEach P [f0.type,f1.type,f2.type,f3.type] [x0.1,x1.1,x2.1,x3.1],k<=reachBytes:=by
      intro k hk;refine hw k ?_;simp only[DataW.weights,ht,hfs];exact hk
     simp only[DataW.weightsEach,wk]at hwE;obtain⟨i0,e0,_,_⟩:=ints (uInt m0) (f:=f) (x:=x0) s0;obtain⟨i1,e1,b1⟩:=strs (uStr m1) (f:=f) (x:=x1) s1 λ k hk=>hwE k (.inr (.inl hk));obtain⟨i2,e2,_,_⟩:=ints (uInt m2) (f:=f) (x:=x2) s2;obtain⟨l,u,e3,b3,r3,l3,v3⟩:=qzU (a := .term) (λ g hg=>ihA g (Nat.lt_succ_of_lt hg)) ht3 hc hb hm0 s3 λ k hk=>hwE k (.inr (.inr (.inr (.inl hk))));have g0:c0 = .int .i64 i0:=by simpa using e0
     have g1:c1 = .string i1:=by simpa using e1
     have g2:c2 = .int .i64 i2:=by simpa using e2
     have g3:c3=u:=by simpa using e3
     subst g0;subst g1;subst g2;subst g3;refine⟨.mk i0 i1.data.toList i2 l,?_,?_,(qFy _).2 ⟨l3.1,b1,v3⟩⟩
     ·show RepL _ (JX _) _;rw[JX,qlO];exact waK (.v _ rfl) (waK (.v _ rfl) (waK (.v _ rfl) (qEf r3)))
     ·intro u hu;simp only[wx,xd,or_false]at hu;rcases hu with rfl | rfl | rfl | rfl
      ·rfl
      ·rfl
      ·rfl
      ·exact b3
end
end Go.AmZ
namespace Go.AmZ
open Go Go.GxZ
theorem qKp(l:List T)(a:l.length<2^62)(b:∀t∈l,qrr t):Ev (λ m _=>qmY m l) (decide (l.length<=20)&&qoS l 450):=by
 refine waG ?_;simp only[qFc,qk7];exact way (qQy l a b 20 450 (by decide) (by decide)) (waA _)
theorem envelopeEncode_ev(t:T)(f:qlm .term t):Ev (λ m _=>law20_EnvelopeEncode m t) true:=by
 have f:qrr t:=f;refine waG ?_;simp only[qny,qbk,qk];refine way qv5 (waE rfl (way (qKp [t] (show 1<2^62 by decide) λ u i=>by rw[wF.1 i];exact f) ?_));cases d:decide ([t].length<=20)&&qoS [t] 450 with
 |false=>exact waC rfl (way qv5 (waA _))
 |true=>
 simp only[wc]at d;have e:size t<=10000:=by have:=qMF (by decide) d.2 t (wF.2 rfl);omega
 have b:=qPF t e
 have c:Ev (λ m _=>qdS m t) (((qhp t).length:Int),qbU t):=by
  refine waG ?_;simp only[qs6,qeK,qk];exact way b (waD rfl)
 have a:∀x:Int,ieq x x=true:=λ x=>ql.2 rfl;refine waE rfl (way b (way c (way (qOJ t e) ?_)));refine waE (bnf.2 (jd.2 rfl)) (waE (bnf.2 (a _)) (waE (bnf.2 (a _)) (waE (bnf.2 (a _)) ?_)));by_cases g:qbU t=0
 .have h:=qQq (qhp t) (by have:=qKy t e;omega);rw[qJa g]at h;exact waE (bnf.2 (ql.2 g)) (way h (waC rfl (waC rfl (way ((qgm t t (by omega) (by omega)).res (qbz.2 rfl)) (waA _)))))
 .exact waC (bnt.2 (qj.2 g)) (waC (jd.2 rfl) (waC (a _) (waC (a _) (waD (a _)))))
end Go.AmZ
namespace Go.AmZ
open Go Go.GxZ
set_option linter.unusedVariables false
set_option maxRecDepth 100000
open Go.Proofs.Tryz (f4 f10 f11 f13 f14 f15 f16 f17 f18 f26 f31 f32 f33 f34 f36 f37 f39 f40 f41 f42 f43 f44 f45 f46 f47 f48 f50 f51 f52 f55 f56 f57 f58 f62 f64 f65 f66 f67 f68 f69 f70 f71 f72 f73 f75 f77 f78 f79 f80 f81 f82 f83 f84 f85 f86 f87 f88 f89 f90 f91 f92 f93 f95 f96 f99 f100 f101 f102 f103 f105 f106 f107 f108 f109 f110 f111 f112 f113 f114 f115 f117 f118 f119 f120 f121 f122 f123 f126 f127 f128 f129 f130 f131 f133 f134 f135 f136 f137 f138 f141 f142 f143 f144 f149 f150 f151 f153 f154 f155 f156 f157 f158 f159 f160 f161 f162 f163 f164 f165 f166 f167 f168 f169 f170 f171 f172 f173 f174 f177 f184 f185 f186 f187 f190 f191 f192 f194 f195 f196 f197 f198 f199 f200 f201 f202 f214 f223 f224 f227 f228 f229 f230 f241)
abbrev y13:Ty:=.int .u8
abbrev y2:Ty:=.int .i64
abbrev y5:Ty:=.list .term
abbrev y3:Ty:=.pair .term .term
abbrev y12:Ty:=.pair .str y2
abbrev y1:Ty:=.pair .term y2
abbrev y8:Ty:=.list y3
abbrev y4:Ty:=.list y1
abbrev y14:Ty:=.map y12 .term
abbrev y10:Ty:=.pair .str (.pair y2 .bool)
abbrev y7:Ty:=.pair .str (.pair y2 y2)
abbrev y11:Ty:=.list y7
abbrev y6:Ty:=.pair .str (.pair y2 (.pair y2 y2))
abbrev y9:Ty:=.list y6
def i4:FI:=⟨f4,[.val .term],[.bool],[],[],u1 law20_EnvelopeEncode⟩
def i10:FI:=⟨f10,[],[.bool],[],[],u0 qfR⟩
def i11:FI:=⟨f11,[.val .str],[.term,y2,y2],[],[],u1 J9⟩
def i13:FI:=⟨f13,[.val .term,.val .term],[.bool],[],[],u2 JP⟩
def i14:FI:=⟨f14,[.val .term],[.str,y2],[],[],u1 J6⟩
def i15:FI:=⟨f15,[.val y5],[.bool],[],[],u1 qmY⟩
def i16:FI:=⟨f16,[.val .term],[y2,y2],[],[],u1 qdS⟩
def i17:FI:=⟨f17,[.val .term],[.str,y2],[],[],u1 qgT⟩
def i18:FI:=⟨f18,[.val .term],[y2],[],[],u1 qiF⟩
def i26:FI:=⟨f26,[.val y5],[y2,y2,.term,y2],[(5,[(0,.list .term),(4,.box [.keep,.keep,.keep,.row .term false]),(20,.keep),(21,.keep)]),(9,[(0,.list .term),(4,.box [.keep,.keep,.keep,.row .term false]),(7,.keep),(8,.box [.keep,.keep,.keep,.list .term]),(9,.keep),(20,.keep),(21,.keep)])],[],u1 qfA⟩
def i31:FI:=⟨f31,[.val .term],[.str],[(7,[(1,.box [.keep,.keep,.keep,.list .term]),(3,.keep),(4,.keep)])],[],u1 ju⟩
def i32:FI:=⟨f32,[.val .str,.val y5],[.term],[],[],u2 yF⟩
def i33:FI:=⟨f33,[.val .str,.val y2],[.term],[],[],u2 qj2⟩
def i34:FI:=⟨f34,[.val .str,.val y2],[.term],[],[],u2 qmt⟩
def i36:FI:=⟨f36,[.val .term],[y2],[],[],u1 zi⟩
def i37:FI:=⟨f37,[.val .term],[.bool],[],[],u1 qey⟩
def i39:FI:=⟨f39,[.val .term],[y2],[(3,[(1,.box [.keep,.keep,.keep,.list .term]),(3,.keep),(4,.keep)])],[],u1 jD⟩
def i40:FI:=⟨f40,[.val .term],[y2],[(3,[(1,.box [.keep,.keep,.keep,.list .term]),(3,.keep),(4,.keep)])],[],u1 jM⟩
def i41:FI:=⟨f41,[.val .term],[y2],[],[],u1 qfK⟩
def i42:FI:=⟨f42,[.val .term],[.bool],[(6,[(5,.list .term),(6,.keep)])],[],u1 qiI⟩
def i43:FI:=⟨f43,[.val .term,.val .term],[y2],[(18,[(2,.box [.keep,.keep,.keep,.list .term]),(3,.box [.keep,.keep,.keep,.list .term]),(9,.keep)])],[],u2 zR⟩
def i44:FI:=⟨f44,[.val .term],[y2],[],[],u1 qaZ⟩
def i45:FI:=⟨f45,[.val .term],[y5],[],[],u1 qmT⟩
def i46:SI:=⟨f46,[.row y13,.val .term],[.one (.row y13)],[(8,[(0,.row y13 false),(46,.list .term),(47,.keep),(48,.keep)])],[],u2 z8⟩
def i47:FI:=⟨f47,[.val y5,.val y2,.val y2],[.bool],[(4,[(0,.list .term),(2,.keep),(7,.keep)])],[],u3 ql9⟩
def i48:FI:=⟨f48,[.val .term],[.bool],[],[],u1 qhV⟩
def i50:FI:=⟨f50,[.val y5],[y2],[(4,[(9,.list .term),(10,.keep),(11,.keep)])],[],u1 qjR⟩
def i51:FI:=⟨f51,[.val y2],[.str],[],[],u1 qlN⟩
def i52:FI:=⟨f52,[.val y8,.val .term],[.term],[(2,[(0,.list y3),(3,.box [.keep,.keep,.keep,.list .term]),(4,.box [.keep,.keep,.keep,.row .term false]),(10,.list y3),(11,.keep),(12,.keep)]),(10,[(0,.list y3),(4,.box [.keep,.keep,.keep,.row .term false]),(7,.box [.keep,.keep,.keep,.row .term false]),(27,.list .term),(28,.keep),(29,.keep)])],[],u2 qeq⟩
def i55:FI:=⟨f55,[.val .term],[y2],[],[],u1 js⟩
def i56:SI:=⟨f56,[.val .term,.val .str,.box [.val (.map .str .str)]],[.one (.val .term)],[(9,[(1,.keep),(2,.box []),(6,.box [.keep,.keep,.keep,.row .term false]),(7,.box [.keep,.keep,.keep,.row .term false]),(38,.list .term),(39,.keep),(40,.keep)])],[],u3 qcP⟩
def i57:FI:=⟨f57,[.val .term,.val .term],[y8,y2],[],[],u2 qtq⟩
def i58:FI:=⟨f58,[.val .term],[y2],[],[],u1 qk5⟩
def i62:FI:=⟨f62,[.val .term],[y5],[(3,[(1,.box [.keep,.keep,.keep,.list .term]),(3,.row .term true),(4,.keep)])],[],u1 Qv⟩
def i64:FI:=⟨f64,[.val .str],[y2],[(3,[(0,.keep),(3,.list y6),(4,.keep)])],[],u1 qe8⟩
def i65:FI:=⟨f65,[.val .str],[y2],[(3,[(0,.keep),(3,.list .str),(4,.keep)])],[],u1 qiD⟩
def i66:FI:=⟨f66,[.val .str],[.bool],[],[],u1 qf7⟩
def i67:SI:=⟨f67,[.box [.val y10]],[.agg [.val y2,.val .str,.val y2,.row .term,.val y2]],[],[],u1 qw⟩
def i68:SI:=⟨f68,[.val .term,.val y2,.box [.val y2],.box [.val y2]],[.one (.val y2)],[(17,[(1,.keep),(2,.box [.keep]),(3,.box [.keep]),(57,.list .term),(58,.keep),(59,.keep)])],[],u4 yh⟩
def i69:FI:=⟨f69,[.val .term],[.term,y2],[],[],u1 qgg⟩
def i70:FI:=⟨f70,[.val .term,.val .term],[.bool],[],[],u2 JM⟩
def i71:FI:=⟨f71,[.val .term,.fn],[.bool],[(4,[(1,.keep),(18,.list .term),(19,.keep),(20,.keep)])],[],u1 zh⟩
def qHO:FI:=⟨f71,[.val .term,.fn],[.bool],[(4,[(1,.keep),(18,.list .term),(19,.keep),(20,.keep)])],[],u1 qbe⟩
def i72:FI:=⟨f72,[.val .str],[.bool],[],[],u1 qfj⟩
def i73:FI:=⟨f73,[.val .str],[y6],[(2,[(0,.keep),(2,.box [.keep,.keep,.keep,.keep]),(5,.list y6),(6,.keep),(7,.keep)])],[],u1 qbu⟩
def i75:FI:=⟨f75,[],[(.list .str)],[],[],u0 qtB⟩
def i77:FI:=⟨f77,[.val .term],[y2],[(11,[(1,.box [.keep,.keep,.keep,.list .term]),(4,.keep)])],[],u1 jv⟩
def i78:FI:=⟨f78,[.val .term],[.term,y2],[],[],u1 qho⟩
def i79:FI:=⟨f79,[.val y2,.val y2],[y2],[],[],u2 qa3⟩
def i80:FI:=⟨f80,[.val .term],[y2],[(13,[(1,.box [.keep,.keep,.keep,.list .term]),(38,.list .term),(39,.keep),(40,.keep)]),(22,[(62,.list .term),(63,.keep),(64,.keep)])],[],u1 qF⟩
def i81:FI:=⟨f81,[.val .term,.val y2],[y5],[],[],u2 qnk⟩
def i82:SI:=⟨f82,[.val y11,.clo 84 1,.box [.val .term]],[.one (.val y2)],[(2,[(0,.list y7),(1,.fn [.box [.keep,.keep,.keep,.list .term]]),(7,.keep),(8,.keep)])],[],u2 zc⟩
def i83:FI:=⟨f83,[],[y11],[],[],u0 yt⟩
def i84:SI:=⟨f84,[.val y7,.box [.val .term]],[.one (.val .bool)],[],[],u2 qcy⟩
def i85:FI:=⟨f85,[.val y7],[.bool],[],[],u1 yz⟩
def i86:FI:=⟨f86,[.val .term,.val y2],[y2],[(5,[(1,.keep),(2,.box [.keep,.keep,.keep,.list .term]),(5,.keep)])],[],u2 jk⟩
def i87:FI:=⟨f87,[.val .term],[y5],[],[],u1 qkc⟩
def i88:FI:=⟨f88,[.val y2],[.str],[],[],u1 qgy⟩
def i89:FI:=⟨f89,[.val .term,.val .term],[y2],[(11,[(2,.box [.keep,.keep,.keep,.list .term]),(3,.box [.keep,.keep,.keep,.list .term]),(5,.keep),(6,.keep)])],[],u2 qy⟩
def i90:FI:=⟨f90,[.val .term],[y2],[(5,[(1,.box [.keep,.keep,.keep,.list .term]),(4,.keep)])],[],u1 jN⟩
def i91:FI:=⟨f91,[.val .term,.val .term],[y2],[],[],u2 qtr⟩
def i92:FI:=⟨f92,[.val y8],[y8,y2],[(2,[(4,.box [.list y3,.row y3 false])])],[],u1 qtE⟩
def i93:FI:=⟨f93,[.val .term],[.bool],[],[],u1 qtn⟩
def i95:FI:=⟨f95,[.val .term],[y12],[],[],u1 qqW⟩
def i96:FI:=⟨f96,[.val .term,.val .term],[.bool],[],[],u2 qpt⟩
def i99:FI:=⟨f99,[],[y9],[],[],u0 qjp⟩
def qQF:SI:=⟨f100,[.box [.val y10],.val y2,.val y2],[.one (.val y2)],[],[],u3 zk⟩
def qL8:SI:=⟨f101,[.box [.val y10]],[.one (.val .str)],[(4,[(0,.box [.keep,.keep,.keep]),(4,.keep),(14,.keep),(15,.keep)])],[],u1 Q5⟩
def qMt:FI:=⟨f102,[.val .str],[.bool],[(4,[(0,.keep),(38,.keep),(39,.keep)])],[],u1 qdB⟩
def qLG:FI:=⟨f103,[.val .term],[.term,y2],[(5,[(1,.box [.keep,.keep,.keep,.list .term]),(2,.box [.keep,.keep,.keep,.row .term false]),(4,.box [.keep,.keep,.keep,.row .term false]),(19,.list .term),(20,.keep),(21,.keep)])],[],u1 yD⟩
def qMT:FI:=⟨f105,[.val .str],[.bool],[(4,[(0,.keep),(3,.keep)])],[],u1 qcN⟩
def qLP:FI:=⟨f106,[.val .term],[.bool],[(3,[(1,.box [.keep,.keep,.keep,.list .term]),(3,.list y6),(4,.keep)])],[],u1 qkq⟩
def qKv:FI:=⟨f107,[.val .term],[.bool],[(4,[(1,.box [.keep,.keep,.keep,.list .term]),(3,.keep)])],[],u1 qg9⟩
def qKM:FI:=⟨f108,[.val .term],[.term,y2],[(5,[(1,.box [.keep,.keep,.keep,.list .term]),(2,.box [.keep,.keep,.keep,.row .term false]),(4,.row .term false),(5,.keep)])],[],u1 ji⟩
def qMP:SI:=⟨f109,[.val .term,.clo 110 2,.box [.val y2],.box [.row .term]],[],[(3,[(1,.fn [.box [.keep],.box [.row .term false]]),(10,.list .term),(11,.keep),(12,.keep)])],[],u3 zA⟩
def qOO:SI:=⟨f110,[.val .term,.box [.val y2],.box [.row .term]],[],[],[],u3 qau⟩
def qMw:SI:=⟨f111,[.row .term],[.one (.row .term)],[(4,[(0,.row .term false),(9,.keep),(10,.keep)])],[],u1 qhf⟩
def qLs:FI:=⟨f112,[.val .term,.val y2],[y5],[(4,[(1,.keep),(5,.row .term false),(6,.list .term),(7,.keep)])],[],u2 qkf⟩
def qPh:FI:=⟨f113,[.val y2,.val y2],[.str],[],[],u2 qdt⟩
def qO7:FI:=⟨f114,[.val y2,.val y2],[y2],[],[],u2 qeC⟩
def qLC:FI:=⟨f115,[.val .term],[y2],[(3,[(3,.keep),(7,.list .term),(8,.keep),(9,.keep)])],[],u1 Qs⟩
def qPY:FI:=⟨f117,[.val .term],[y2],[],[],u1 qkl⟩
def qMC:SI:=⟨f118,[.box [.val y8,.row y3]],[.one (.val y2)],[(8,[(0,.box [.list y3,.row y3 false]),(3,.box [.keep,.keep,.keep,.list .term]),(4,.box [.keep,.keep,.keep,.list .term]),(5,.row y3 false),(39,.keep),(40,.keep)])],[],u1 qkV⟩
def qPK:SI:=⟨f119,[.row y3],[.one (.row y3)],[],[],u1 ql3⟩
def qPM:FI:=⟨f120,[.val .str],[.bool],[],[],u1 qpX⟩
def qO0:FI:=⟨f121,[.val .term],[.bool],[],[],u1 qdF⟩
def qP1:FI:=⟨f122,[.val .term,.val .term],[.bool],[],[],u2 qoQ⟩
def qPd:FI:=⟨f123,[.val .term,.val .term],[.bool],[],[],u2 qtx⟩
def qOR:FI:=⟨f126,[.val y13],[.bool],[],[],u1 qjh⟩
def qPA:FI:=⟨f127,[.val .term],[.term],[],[],u1 qcH⟩
def qKQ:FI:=⟨f128,[.val y5],[.term,y2],[(6,[(2,.box [.keep,.keep,.keep,.row .term true]),(5,.list .term),(15,.list .term),(16,.keep),(17,.keep)])],[],u1 qsD⟩
def qPk:FI:=⟨f129,[.val .term],[y4,y2],[],[],u1 qb6⟩
def qD5:FI:=⟨f130,[.val y4],[.term,y2],[(6,[(2,.box [.keep,.keep,.keep,.row .term false]),(5,.row .term false),(6,.row .term false),(18,.list y1),(19,.keep),(20,.keep)]),(11,[(2,.box [.keep,.keep,.keep,.row .term false]),(5,.row .term false),(6,.row .term false),(8,.box [.keep,.keep,.keep,.list .term,.keep]),(18,.list y1),(19,.keep),(20,.keep),(34,.keep),(35,.keep)]),(15,[(2,.box [.keep,.keep,.keep,.row .term false]),(5,.row .term false),(6,.row .term false),(8,.box [.keep,.keep,.keep,.list .term,.keep]),(18,.list y1),(19,.keep),(20,.keep),(46,.keep),(47,.keep)])],[],u1 Jp⟩
def qPn:FI:=⟨f131,[.val .term,.val .term],[.term,y2],[],[],u2 qhW⟩
def qQA:FI:=⟨f133,[.val y13],[.bool],[],[],u1 qeE⟩
def qOZ:FI:=⟨f134,[.val y13],[.bool],[],[],u1 qiL⟩
def qQn:FI:=⟨f135,[.val .term],[.term,.bool],[],[],u1 qgb⟩
def qLl:FI:=⟨f136,[.val y5],[.term,y2],[(6,[(0,.list .term),(2,.box [.keep,.keep,.keep,.row .term true]),(5,.list .term),(6,.keep)])],[],u1 qmL⟩
def qPr:FI:=⟨f137,[.val .term],[.term,y2],[],[],u1 qdv⟩
def qOS:FI:=⟨f138,[.val .term,.val .term],[.term,y2],[],[],u2 qiK⟩
def qQB:FI:=⟨f141,[.val .term,.val .term],[.bool],[],[],u2 jl⟩
def qMO:FI:=⟨f142,[.val .term],[.term],[(4,[(1,.box [.keep,.keep,.keep,.row .term false]),(2,.box [.keep,.keep,.keep,.row .term false]),(9,.list .term),(10,.keep),(11,.keep)])],[],u1 jF⟩
def qMr:FI:=⟨f143,[.val y5],[y5],[(3,[(0,.list .term),(3,.list .term),(4,.keep)])],[],u1 qlY⟩
def qQi:FI:=⟨f144,[.val y2],[.str],[],[],u1 qfS⟩
def qP0:SI:=⟨f149,[.box [.val y8,.row y3],.val .term,.val .term],[.one (.val y2)],[],[],u3 qmi⟩
def qP3:FI:=⟨f150,[.val .term,.val .term],[.bool],[],[],u2 qeB⟩
def qHI:SI:=⟨f151,[.box [.val y8,.row y3],.val .term,.val .term],[.one (.val y2)],[(6,[(0,.box [.list y3,.row y3 false]),(4,.box [.keep,.keep,.keep,.list .term]),(5,.box [.keep,.keep,.keep,.list .term]),(8,.box [.keep]),(9,.fn [.box [.box []],.box []]),(10,.row y3 false),(25,.keep),(26,.keep)]),(12,[(0,.box [.list y3,.row y3 false]),(4,.box [.keep,.keep,.keep,.list .term]),(5,.box [.keep,.keep,.keep,.list .term]),(8,.box [.keep]),(9,.fn [.box [.box []],.box []]),(10,.row y3 false),(46,.keep),(47,.keep)])],[],u3 qa2⟩
def qQc:FI:=⟨f153,[.val y3,.val y3],[y2],[],[],u2 qfx⟩
def qPO:FI:=⟨f154,[.val .term,.val .str],[.bool],[],[],u2 jw⟩
def qMg:FI:=⟨f155,[.val y5,.val y5],[y2],[(4,[(14,.list .term),(15,.keep),(16,.keep)])],[],u2 qmU⟩
def qLQ:FI:=⟨f156,[.val y5,.val y5],[y5],[(2,[(0,.list .term),(1,.list .term),(5,.row .term false)])],[],u2 qlG⟩
def qLA:FI:=⟨f157,[.val .term],[y5],[(6,[(3,.list .term),(31,.list .term),(32,.keep),(33,.keep)])],[],u1 yK⟩
def qMN:FI:=⟨f158,[.val y5],[y5],[(3,[(3,.row .term false),(9,.list .term),(10,.keep),(11,.keep)])],[],u1 J8⟩
def qMX:SI:=⟨f159,[.row y1,.val .term,.val y2],[.one (.row y1),.one (.val .bool)],[(12,[(0,.row y1 false),(2,.keep),(52,.list .term),(53,.keep),(54,.keep)])],[],u3 zx⟩
def qL3:FI:=⟨f160,[.val y4],[y2],[(4,[(0,.list y1),(9,.list y1),(10,.keep),(11,.keep)])],[],u1 qaH⟩
def qM6:FI:=⟨f161,[.val .term],[.term],[(3,[(1,.box [.keep,.keep,.keep,.row .term false]),(2,.box [.keep,.keep,.keep,.row .term false]),(10,.row .term false),(11,.keep),(12,.keep)])],[],u1 zy⟩
def qPg:FI:=⟨f162,[.val .str,.val y5],[.term],[],[],u2 qeh⟩
def qHc:FI:=⟨f163,[.val (.list y5)],[y5],[(3,[(0,.list y5),(3,.keep),(9,.list y5),(10,.keep),(11,.keep)]),(11,[(6,.row .term false),(25,.list y5),(26,.keep),(27,.keep)])],[],u1 zW⟩
def qLH:FI:=⟨f164,[.val y4,.val y4],[y4,y2],[(9,[(8,.row y1 false),(23,.list y1),(24,.keep),(25,.keep)])],[],u2 qhO⟩
def qQC:FI:=⟨f165,[.val .str,.val y5],[.term],[],[],u2 qhN⟩
def qO3:FI:=⟨f166,[.val .term,.val .str],[.bool],[],[],u2 qbW⟩
def qKs:FI:=⟨f167,[.val y5,.val .term],[y2],[(4,[(0,.list .term),(3,.box [.keep,.keep,.keep,.list .term]),(5,.keep)])],[],u2 qiS⟩
def qQh:FI:=⟨f168,[],[.term],[],[],u0 qkg⟩
def qK7:FI:=⟨f169,[.val y5,.val y5],[y5],[(3,[(1,.list .term),(5,.plist .term),(6,.keep)])],[],u2 qhS⟩
def qMl:FI:=⟨f170,[.val .term],[y5],[(7,[(1,.box [.keep,.keep,.keep,.list .term]),(3,.list .term),(4,.keep)])],[],u1 zZ⟩
def qQv:FI:=⟨f171,[.val y5],[.term],[],[],u1 qkh⟩
def qON:FI:=⟨f172,[.val .term],[y4,y2],[],[],u1 qii⟩
def qPC:FI:=⟨f173,[.val y4],[.term,y2],[],[],u1 qda⟩
def qKV:FI:=⟨f174,[.val y4,.val y4],[y4,y2],[(9,[(1,.list y1),(8,.row y1 false),(9,.keep)])],[],u2 qmC⟩
def qLe:FI:=⟨f177,[.val y5,.val .term],[y5],[(4,[(0,.list .term),(3,.box [.keep,.keep,.keep,.list .term]),(5,.row .term false),(6,.keep),(7,.keep)])],[],u2 qi4⟩
def qO4:SI:=⟨f184,[.val y5,.clo 185 1,.box [.val .term]],[.one (.val .bool)],[],[],u2 yJ⟩
def qOP:SI:=⟨f185,[.val .term,.box [.val .term]],[.one (.val .bool)],[],[],u2 qdL⟩
def qMd:SI:=⟨f187,[.box [.val y14],.val .term],[.one (.val .term)],[(10,[(0,.box []),(3,.box [.keep,.keep,.keep,.list .term]),(4,.box [.keep,.keep,.keep,.row .term false]),(7,.row .term false),(32,.list .term),(33,.keep),(34,.keep)])],[],u2 qel⟩
def qLE:FI:=⟨f190,[.val .term,.val (.list y2),.val .term],[.term,y2],[(4,[(5,.box [.keep,.keep,.keep,.list .term]),(6,.box [.keep,.keep,.keep,.row .term false]),(8,.box [.keep,.keep,.keep,.list .term]),(9,.box []),(14,.list y2),(15,.keep),(16,.keep)])],[],u3 qhE⟩
def qPW:FI:=⟨f191,[.val .term],[.bool],[],[],u1 qbB⟩
def qPE:SI:=⟨f192,[.row y1,.val y1],[.one (.row y1)],[],[],u2 qbD⟩
def qLB:SI:=⟨f194,[.val y4],[.one (.row y1)],[(3,[(3,.row y1 false),(6,.list y1),(7,.keep),(8,.keep)])],[],u1 qdX⟩
def qPV:FI:=⟨f195,[.val y4],[y4,y2],[],[],u1 qd4⟩
def qNb:FI:=⟨f196,[.val y5,.val .term],[y5],[(5,[(0,.list .term),(3,.box [.keep,.keep,.keep,.list .term]),(5,.row .term false),(6,.keep)])],[],u2 qhl⟩
def qK8:FI:=⟨f197,[.val .term],[.bool],[(7,[(1,.box [.keep,.keep,.keep,.list .term]),(3,.keep),(4,.keep)])],[],u1 jr⟩
def qKN:SI:=⟨f198,[.row y1,.val .term,.val y2],[.one (.row y1)],[(6,[(0,.row y1 false),(2,.keep),(4,.box [.keep,.keep,.keep,.list .term]),(7,.keep)])],[],u3 yp⟩
def qMb:FI:=⟨f199,[.val y4],[y2],[(4,[(0,.list y1),(3,.keep)])],[],u1 qdC⟩
def qyb:FI:=⟨f200,[.val y4],[y5],[(3,[(0,.list y1),(3,.row .term false),(4,.keep)]),(6,[(0,.list y1),(3,.row .term false),(4,.keep),(5,.keep)]),(10,[(0,.list y1),(3,.row .term false),(6,.keep)]),(13,[(0,.list y1),(3,.row .term false),(6,.keep),(7,.keep)])],[],u1 qeW⟩
def qLS:SI:=⟨f201,[.row y1,.val .term,.val y2],[.one (.row y1)],[(4,[(0,.row y1 false),(2,.keep),(4,.box [.keep,.keep,.keep,.list .term]),(7,.row y1 false),(8,.keep),(9,.keep)])],[],u3 qjg⟩
def qKt:FI:=⟨f202,[.val y4],[y2],[(2,[(0,.list y1),(3,.keep)])],[],u1 qf5⟩
def qLI:SI:=⟨f214,[.val y5,.clo 185 1,.box [.val .term]],[.one (.val y2)],[(2,[(0,.list .term),(1,.fn [.box [.keep,.keep,.keep,.list .term]]),(7,.keep),(8,.keep)])],[],u2 jn⟩
def qMH:FI:=⟨f223,[.val y4,.val .term,.fn],[y2,.bool],[(3,[(0,.list y1),(2,.keep),(4,.box [.keep,.keep,.keep,.list .term]),(8,.keep),(9,.keep),(10,.keep)])],[],u2 qN⟩
def qQo:FI:=⟨f224,[.val y1,.val .term],[y2],[],[],u2 qak⟩
def qQk:FI:=⟨f227,[.val y4,.fn],[.bool],[],[],u1 zK⟩
def qQr:FI:=⟨f228,[.val y1],[.bool],[],[],u1 qcg⟩
def qLc:FI:=⟨f229,[.val y5,.val .term],[.bool],[(2,[(0,.list .term),(3,.box [.keep,.keep,.keep,.list .term]),(5,.keep)])],[],u2 qmX⟩
def qOY:FI:=⟨f230,[.val .term],[.bool],[],[],u1 qbw⟩
def qK2:FI:=⟨f241,[.val y4,.fn],[y2],[(2,[(0,.list y1),(1,.keep),(7,.keep),(8,.keep)])],[],u1 zY⟩
def elT(f:Nat):Option Ty:=
cond (Nat.blt f 107)
 (cond (Nat.blt f 73)
 (cond (Nat.blt f 48)
 (cond (Nat.beq f 23) (some .term) (none))
 (cond (Nat.blt f 66)
 (cond (Nat.beq f 48) (some y3) (none))
 (cond (Nat.beq f 66) (some y13) (none))))
 (cond (Nat.blt f 90)
 (cond (Nat.blt f 81)
 (cond (Nat.beq f 73) (some (.map .str .str)) (none))
 (cond (Nat.beq f 81) (some y1) (none)))
 (cond (Nat.blt f 97)
 (cond (Nat.beq f 90) (some .str) (none))
 (cond (Nat.beq f 97) (some y7) (none)))))
 (cond (Nat.blt f 118)
 (cond (Nat.blt f 108)
 (cond (Nat.beq f 107) (some y3) (none))
 (cond (Nat.blt f 113)
 (cond (Nat.beq f 108) (some y14) (none))
 (cond (Nat.beq f 113) (some y3) (none))))
 (cond (Nat.blt f 180)
 (cond (Nat.blt f 134)
 (cond (Nat.beq f 118) (some y6) (none))
 (cond (Nat.beq f 134) (some y1) (none)))
 (cond (Nat.blt f 201)
 (cond (Nat.beq f 180) (some y5) (none))
 (cond (Nat.beq f 201) (some y2) (none)))))
def tb:Tb:=⟨tyT,elT,.node 115 (.node 69 (.node 41 (.node 26 (.node 15 (.node 11 (.node 10 (tL 4 (eP i4)) .leaf (eP i10)) (.node 14 (tL 13 (eP i13)) .leaf (eP i14)) (eP i11)) (.node 18 (.node 17 (tL 16 (eP i16)) .leaf (eP i17)) (.node 23 .leaf .leaf (.hs ⟨[.val y5],[.one (.row .term)],λ x=>ya 0 x.1⟩)) (eP i18)) (eP i15)) (.node 35 (.node 33 (.node 32 (tL 31 (eP i31)) .leaf (eP i32)) (tL 34 (eP i34)) (eP i33)) (.node 39 (.node 37 (tL 36 (eP i36)) .leaf (eP i37)) (tL 40 (eP i40)) (eP i39)) (.hx λ m=>⟨[.box [.val RD]],[.one (.val .term)],λ x=>jC m x.1⟩)) (eP i26)) (.node 55 (.node 47 (.node 44 (.node 43 (tL 42 (eP i42)) .leaf (eP i43)) (.node 46 (tL 45 (eP i45)) .leaf (eS i46)) (eP i44)) (.node 51 (.node 50 (tL 48 (eP i48)) .leaf (eP i50)) (tL 52 (eP i52)) (eP i51)) (eP i47)) (.node 64 (.node 58 (.node 57 (tL 56 (eS i56)) .leaf (eP i57)) (tL 62 (eP i62)) (eP i58)) (.node 67 (.node 66 (tL 65 (eP i65)) .leaf (eP i66)) (tL 68 (eS i68)) (eS i67)) (eP i64)) (eP i55)) (eP i41)) (.node 92 (.node 82 (.node 77 (.node 72 (.node 71 (tL 70 (eP i70)) .leaf (.pure [([72],i71),([120],qHO)])) (.node 75 (tL 73 (eP i73)) .leaf (eP i75)) (eP i72)) (.node 80 (.node 79 (tL 78 (eP i78)) .leaf (eP i79)) (tL 81 (eP i81)) (eP i80)) (eP i77)) (.node 87 (.node 85 (.node 84 (tL 83 (eP i83)) .leaf (eS i84)) (tL 86 (eP i86)) (eP i85)) (.node 90 (.node 89 (tL 88 (eP i88)) .leaf (eP i89)) (tL 91 (eP i91)) (eP i90)) (eP i87)) (eS i82)) (.node 105 (.node 100 (.node 96 (.node 95 (tL 93 (eP i93)) .leaf (eP i95)) (tL 99 (eP i99)) (eP i96)) (.node 103 (.node 102 (tL 101 (eS qL8)) .leaf (eP qMt)) (.node 104 .leaf .leaf (.hp ⟨[],[y9],λ x=>qh8 0⟩)) (eP qLG)) (eS qQF)) (.node 110 (.node 108 (.node 107 (tL 106 (eP qLP)) .leaf (eP qKv)) (tL 109 (eS qMP)) (eP qKM)) (.node 113 (.node 112 (tL 111 (eS qMw)) .leaf (eP qLs)) (tL 114 (eP qO7)) (eP qPh)) (eS qOO)) (eP qMT)) (eP i92)) (eP i69)) (.node 163 (.node 139 (.node 128 (.node 121 (.node 118 (.node 117 (.node 116 .leaf .leaf (.hp ⟨[.val .str,.val .str],[y2],λ x=>strings_Compare 0 x.1 x.2.1⟩)) .leaf (eP qPY)) (.node 120 (tL 119 (eS qPK)) .leaf (eP qPM)) (eS qMC)) (.node 126 (.node 123 (tL 122 (eP qP1)) .leaf (eP qPd)) (tL 127 (eP qPA)) (eP qOR)) (eP qO0)) (.node 134 (.node 131 (.node 130 (tL 129 (eP qPk)) .leaf (eP qD5)) (tL 133 (eP qQA)) (eP qPn)) (.node 137 (.node 136 (tL 135 (eP qQn)) .leaf (eP qLl)) (tL 138 (eP qOS)) (eP qPr)) (eP qOZ)) (eP qKQ)) (.node 153 (.node 144 (.node 142 (.node 141 (.node 140 .leaf .leaf (.hx λ m=>⟨[.row .term,.clo 141 0],[.one (.row .term)],λ x=>qK m x.1⟩)) .leaf (eP qQB)) (tL 143 (eP qMr)) (eP qMO)) (.node 151 (.node 150 (tL 149 (eS qP0)) .leaf (eP qP3)) (.node 152 .leaf .leaf (.hm λ m=>⟨y3,[.clo 153 0],λ x=>yx m x.1⟩)) (eS qHI)) (eP qQi)) (.node 158 (.node 156 (.node 155 (tL 154 (eP qPO)) .leaf (eP qMg)) (tL 157 (eP qLA)) (eP qLQ)) (.node 161 (.node 160 (tL 159 (eS qMX)) .leaf (eP qL3)) (tL 162 (eP qPg)) (eP qM6)) (eP qMN)) (eP qQc)) (.hm λ m=>⟨.term,[.clo 89 0],λ x=>zd m x.1⟩)) (.node 193 (.node 174 (.node 169 (.node 166 (.node 165 (tL 164 (eP qLH)) .leaf (eP qQC)) (.node 168 (tL 167 (eP qKs)) .leaf (eP qQh)) (eP qO3)) (.node 172 (.node 171 (tL 170 (eP qMl)) .leaf (eP qQv)) (tL 173 (eP qPC)) (eP qON)) (eP qK7)) (.node 187 (.node 185 (.node 184 (tL 177 (eP qLe)) .leaf (eS qO4)) (.node 186 .leaf .leaf (.il f186)) (eS qOP)) (.node 191 (.node 190 (.node 188 .leaf .leaf (.hs ⟨[.val y8],[.one (.row y3)],λ x=>ja 0 x.1⟩)) .leaf (eP qLE)) (tL 192 (eS qPE)) (eP qPW)) (eS qMd)) (eP qKV)) (.node 214 (.node 198 (.node 196 (.node 195 (tL 194 (eS qLB)) .leaf (eP qPV)) (tL 197 (eP qK8)) (eP qNb)) (.node 201 (.node 200 (tL 199 (eP qMb)) .leaf (eP qyb)) (tL 202 (eP qKt)) (eS qLS)) (eS qKN)) (.node 227 (.node 225 (.node 224 (tL 223 (.pure [([224],qMH)])) .leaf (eP qQo)) (.node 226 .leaf .leaf (.hs ⟨[.row y1,.val y2,.val y2],[.one (.row y1)],λ x=>zJ 0 x.1 x.2.1 x.2.2.1⟩)) (.hs ⟨[.row y1,.val y2,.val y4],[.one (.row y1)],λ x=>zH 0 x.1 x.2.1 x.2.2.1⟩)) (.node 230 (.node 229 (tL 228 (eP qQr)) .leaf (eP qLc)) (tL 241 (.pure [([228],qK2)])) (eP qOY)) (.pure [([228],qQk)])) (eS qLI)) (.hs ⟨[.nil,.val y2],[.one (.row .term)],λ x=>yV 0 x.1⟩)) (eP qHc)) (eP qLC)⟩
end Go.AmZ
