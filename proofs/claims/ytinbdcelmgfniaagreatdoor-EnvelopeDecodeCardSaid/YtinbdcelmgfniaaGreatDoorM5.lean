/- Part 5 of what the proofs stand on: plain functions of the program, and that they are its functions. -/
import Derived.Test.YtinbdcelmgfniaaGreatDoorM4
import Derived.KernelRfl
import Derived.Test.YtinbdcelmgfniaaGreatDoorM3
import Derived.SliceStrings
import Derived.SizedLaws
set_option linter.unusedVariables false
set_option linter.unusedSimpArgs false
noncomputable section
namespace Go.AmZ
open Go Go.GxZ Go.Lib
theorem qCS(b d:Nat):∀(l:List Nat) (c:Nat),l.foldl (λ a x=>max a (b+x)) (max d (b+c))=max d (b+l.foldl max c)
 |[],c=>rfl
 |x::l,c=>by
   rw[ky,ky,<-qCS b d l (max c x)];congr 1;omega
def qPh(a n d:Nat)(e:Int)(s:Nat)(x:Nat)(r:(Int×Int×Unit)×(Int×Unit)):Prop:=r.2.1=e/\(e=0->r.1.1=((n+s:Nat):Int)/\r.1.2.1=((max d (a+x):Nat):Int))
theorem qK8(t:T):size t<=1000000000->∀c n d:Nat,c+size t<=2000000000->n+size t<=2000000000->d<=2000000000->∃r,Ev (λ m _=>yh m t c n d) r/\qPh c n d (jO t) (size t) (qcz t-1) r:=by
 induction t using T.ind with
 |h t U=>
   intro hs c n d N B aa;have hl:=yR t;have X:=qW t
   have G:=qA (P:=λ i=>∀n d:Nat,n+((t.kids.drop i).map size).sum<=2000000000->d<=2000000000->∃r,Ev (λ m k=>jJ m (yh m) k c t.kids t.kids.length i n d) r/\r.2.1=((t.kids.drop i).map jO).foldl thn 0/\(((t.kids.drop i).map jO).foldl thn 0=0->r.1.1=((n+((t.kids.drop i).map size).sum:Nat):Int)/\r.1.2.1=((((t.kids.drop i).map qcz).foldl (λ a x=>max a (c+x)) d:Nat):Int))) t.kids (by omega)
    (λ J n d _ _=>by
     refine⟨((n,d,()),(0,())),?_,?_,λ _=>⟨?_,?_⟩⟩
     .refine waJ ?_;simp only[qpw,qfZ];exact waH J (waE _)
     .simp
     .simp
     .simp)
    (λ i x W Q J hg Z hP n d B I=>by
     have M:=wb W;have q:=jN t x M;rw[qtS Q]at B;let⟨r,Y,C,V⟩:=U x M (by omega) (c+1) n d (by omega) (by omega) I
     have l:∀w ,(r.2.1≠0->w=((r.1.1,r.1.2.1,()),(r.2.1,())))->(r.2.1=0->Ev (λ m k=>jJ m (yh m) k c t.kids t.kids.length ((i+1:Nat):Int) r.1.1 r.1.2.1) w)->Ev (λ m k=>jJ m (yh m) k c t.kids t.kids.length i n d) w:=by
      intro w A u;refine waJ ?_;simp only[qpw,qfZ,qk];refine waG J (waF hg ?_);rw[show qf (c:Int) 1=((c+1:Nat):Int) by unfold qf;omega,Qe (by omega),Z];refine waC Y ?_;refine waD (λ h=>?_) λ h=>?_
      .rw[bnt,qj]at h;exact waI (A h).symm
      .rw[bnf,ql]at h;exact u h
     rw[Q,wv,wv,wv,kQ,QS,ky];by_cases f:jO x=0
     .let⟨S,R⟩:=V f;have O:=qEM x;let⟨w,A,u,g3⟩:=hP (n+size x) (max d (c+1+(qcz x-1))) (by omega) (by omega);refine⟨w,l w (λ h=>absurd (C.trans f) h) (λ _=>by rw[S,R];exact A),by rw[f];exact u,λ o=>?_⟩;rw[f]at o;let⟨F,E⟩:=g3 o;refine⟨by rw[F];congr 1;omega,?_⟩;rw[E];have:qcz x ≥ 1:=by rw[qkf];omega
      rw[show max d (c+1+(qcz x-1))=max d (c+qcz x) by omega]
     .refine⟨((r.1.1,r.1.2.1,()),(r.2.1,())),l _ (λ _=>rfl) (λ h=>absurd (C.symm.trans h) f),?_,λ o=>?_⟩
      .rw[qR _ f];exact C
      .rw[qR _ f]at o;exact absurd o f)
   have start:∀r,(jK t≠0->r=((((n+1:Nat):Int),((max d c:Nat):Int),()),(jK t,())))->(jK t=0->Ev (λ m _=>jJ m (yh m) m c t.kids t.kids.length 0 ((n+1:Nat):Int) ((max d c:Nat):Int)) r)->Ev (λ m _=>yh m t c n d) r:=by
    intro r A u;refine waK ?_;simp only[qDf,qf5];rw[show qf (n:Int) 1=((n+1:Nat):Int) by unfold qf;omega,Qe (by omega),qAZ]
    have g:∀e,jK t=e->e≠0->Ev (λ _ _=>some ((((n+1:Nat):Int),((max d c:Nat):Int),()),(e,()))) r:=by
     intro e C h;refine waI ?_;subst C;exact(A h).symm
    have nm:(t.kind=3\/t.kids.length=0)->(∀b,jl t.name=b->(if b then(if 8<t.kids.length then 3 else 0)else 2)=jK t)->Ev (λ m _=>qb (qdz m t.name) λ v=>cond (qg v) (some ((((n+1:Nat):Int),((max d c:Nat):Int),()),(2,()))) (cond (ilt 8 (t.kids.length:Int)) (some ((((n+1:Nat):Int),((max d c:Nat):Int),()),(3,()))) (jJ m (yh m) m c t.kids t.kids.length 0 ((n+1:Nat):Int) ((max d c:Nat):Int)))) r:=by
     intro _ h;have h:=h _ rfl;refine waC (qG6 _) ?_;cases B:jl t.name with
     |false=>rw[B]at h;exact waG rfl (g 2 h.symm (by decide))
     |true=>
       rw[B,if_pos rfl]at h;refine waH rfl ?_;refine waD (λ j=>?_) λ j=>?_
       .rw[qz]at j;rw[if_pos (by omega)]at h;exact g 3 h.symm (by decide)
       .rw[qw]at j;rw[if_neg (by omega)]at h;exact u h.symm
    have y:∀k,t.kind=k->(k=1\/k=2)->jK t=if t.sort<0\/5<t.sort\/0<t.kids.length then 1 else if jl t.name then 0 else 2:=by
     intro k H h;unfold jK qir;rw[H,if_pos h]
    have s:∀k,t.kind=k->(k=1\/k=2)->Ev (λ m _=>cond (ilt t.sort 0) (some ((((n+1:Nat):Int),((max d c:Nat):Int),()),(1,()))) (cond (ilt 5 t.sort) (some ((((n+1:Nat):Int),((max d c:Nat):Int),()),(1,()))) (cond (ilt 0 (t.kids.length:Int)) (some ((((n+1:Nat):Int),((max d c:Nat):Int),()),(1,()))) (qb (qdz m t.name) λ v=>cond (qg v) (some ((((n+1:Nat):Int),((max d c:Nat):Int),()),(2,()))) (cond (ilt 8 (t.kids.length:Int)) (some ((((n+1:Nat):Int),((max d c:Nat):Int),()),(3,()))) (jJ m (yh m) m c t.kids t.kids.length 0 ((n+1:Nat):Int) ((max d c:Nat):Int))))))) r:=by
     intro k H h;have p:=y k H h;refine waD (λ j=>?_) λ j=>?_
     .rw[qz]at j;exact g 1 (by rw[p,if_pos (.inl j)]) (by decide)
     rw[qw]at j;refine waD (λ q=>?_) λ q=>?_
     .rw[qz]at q;exact g 1 (by rw[p,if_pos (.inr (.inl q))]) (by decide)
     rw[qw]at q;refine waD (λ z=>?_) λ z=>?_
     .rw[qz]at z;exact g 1 (by rw[p,if_pos (.inr (.inr (by omega)))]) (by decide)
     rw[qw]at z;rw[if_neg (by omega)]at p;refine nm (.inr (by omega)) λ b K=>?_;rw[p,K,if_neg (show ¬ 8<t.kids.length by omega)]
    by_cases q:t.kind=1
    .exact waG (ql.2 q) (s 1 q (.inl rfl))
    refine waH (qj.2 q) ?_;by_cases z:t.kind=2
    .exact waG (ql.2 z) (s 2 z (.inr rfl))
    refine waH (qj.2 z) ?_;by_cases D:t.kind=3
    .refine waG (ql.2 D) ?_
     have p:jK t=if t.sort≠0 then 1 else if jl t.name then(if 8<t.kids.length then 3 else 0)else 2:=by
      unfold jK qir;rw[if_neg (by omega),if_pos D]
     refine waD (λ j=>?_) λ j=>?_
     .rw[bnt,qj]at j;exact g 1 (by rw[p,if_pos j]) (by decide)
     rw[bnf,ql]at j;rw[if_neg (by omega)]at p;exact nm (.inl D) λ b K=>by rw[p,K]
    .refine waH (qj.2 D) ?_;refine g 1 ?_ (by decide);unfold jK qir;rw[if_neg (by omega),if_neg D]
   rw[qiY];by_cases f:jK t=0
   .rw[f];let⟨r,A,u,g3⟩:=G 0 (we _) (n+1) (max d c) (by rw[wP];omega) (by omega);rw[wP]at u g3;refine⟨r,start r (λ h=>absurd f h) (λ _=>waL (L:=λ m k=>jJ m (yh m) k c t.kids t.kids.length 0 ((n+1:Nat):Int) ((max d c:Nat):Int)) A),u,λ o=>?_⟩;let⟨F,E⟩:=g3 o;refine⟨by rw[F];congr 1;omega,?_⟩;rw[E,show max d c=max d (c+0) by omega,qCS,qkf,xW]
   .refine⟨_,start _ (λ _=>rfl) (λ h=>absurd h f),?_,λ o=>?_⟩
    .rw[qR _ f]
    .rw[qR _ f]at o;exact absurd o f
theorem qcR(t:T)(c:size t<=1000000000):Ev (λ m _=>zj m t) (qS t):=by
 refine waK ?_;simp only[qDc,qjf,qk];unfold qS;let⟨r,f,e,d⟩:=qK8 t c 1 0 0 (by omega) (by omega) (by omega);refine waC f ?_;rw[e];refine waD (λ h=>?_) λ h=>?_
 .rw[bnt,qj]at h;exact waI (by rw[if_pos h])
 rw[bnf,ql]at h;let⟨b,a⟩:=d h;have g:qcz t ≥ 1:=by rw[qkf];omega
 rw[if_neg (by omega),b,a];refine waD (λ h=>?_) λ h=>?_
 .rw[qz]at h;exact waI (by rw[if_pos (.inl (by omega))])
 rw[qw]at h;refine waD (λ h=>?_) λ h=>?_
 .rw[qz]at h;exact waI (by rw[if_pos (.inr (by omega))])
 .rw[qw]at h;exact waI (by rw[if_neg (by omega)])
theorem qtd(t:T):size t<=1000000000->Ev (λ m _=>jD m t) t:=by
 induction t using T.ind with
 |h t e=>
   intro l;refine waK ?_;simp only[qC0,qfO];have n:=yR t
   have a:=qA (P:=λ i=>Ev (λ m k=>qaV m (jD m) k t.kids t.kids.length i t.kind t.name t.sort 0 [] 0 (t.kids.take i) []) t) t.kids (by omega)
    (λ b=>by
     refine waJ ?_;simp only[qpB,qfY];refine waH b ?_;rw[wH];exact waI (qk t))
    (λ i x c o b g f j=>by
     refine waJ ?_;simp only[qpB,qfY,qk];have d:=wb c;have p:=jN t x d;refine waG b (waF g (waC (e x d (by omega)) (waG (zh ?_ (by omega)) ?_)))
     .have:(t.kids.take i).length<=t.kids.length:=by rw[wk];omega
      omega
     .rw[f];refine j.congr λ m k=>?_;rw[kE,c];rfl)
   refine waL (L:=λ m k=>qaV m (jD m) k t.kids t.kids.length 0 t.kind t.name t.sort 0 [] 0 [] []) ?_;exact a 0 (we _)
def qGR:T->Prop:=T.para λ t a=>t.kids.length<2^62/\t.name.length<2^62/\∀p∈a,p
theorem qMw(t:T):qGR t↔t.kids.length<2^62/\t.name.length<2^62/\∀k∈t.kids,qGR k:=by
 unfold qGR;rw[T.para_eq];exact⟨λ⟨a,b,c⟩=>⟨a,b,λ k d=>c _ (k8 d)⟩,λ⟨a,b,c⟩=>⟨a,b,λ p e=>by obtain⟨k,d,rfl⟩:=wA.1 e;exact c k d⟩⟩
end Go.AmZ
namespace Go.GxZ
def qvR(t:T):Int:=if(qD t.name).2.2=0 then 10 else if qmZ yY t.name t.kids.length=false then 6 else if(qD t.name).2.2=2/\qke t=false then 10 else 0
theorem qwF(n:List UInt8):(yY.find? λ r=>r.1==n)=none\/∃r∈yY,r.1=n/\(yY.find? λ r=>r.1==n)=some r:=by
 cases h:yY.find? λ r=>r.1==n with
 |none=>exact .inl rfl
 |some r=>exact .inr ⟨r,List.mem_of_find?_eq_some h,by simpa using List.find?_some h,rfl⟩
theorem qwq{n:List UInt8}(h:(yY.find? λ r=>r.1==n)=none):qD n=(0,0,0):=by unfold qD;rw[h];rfl
theorem qof{n:List UInt8}{r:List UInt8×Int×Int×Int}(h:(yY.find? λ r=>r.1==n)=some r):qD n=r.2:=by unfold qD;rw[h];rfl
def qMc(r:List UInt8×Int×Int×Int):Bool:=
 decide (r.2.2.2≠0)&&decide (0<=r.2.1)&&decide (r.2.2.1<=8)&&(decide (r.2.2.2=2)==(r.1==qhw||r.1==nSk||r.1==qtt))&&(decide (r.2.2.2=2)==decide (r.2.2.2=2/\1<=r.2.1))&&(decide (r.2.2.2=3)==(r.1==qKF||r.1==qxL||r.1==qJY||r.1==qHf||r.1==qGl||r.1==qHh))
theorem qM9:yY.all qMc=true:=by decide
theorem qwg{n:List UInt8}(h:(qD n).2.2≠0):qKN yY n=true/\qxB yY n=qD n/\0<=(qD n).1/\(qD n).2.1<=8/\((qD n).2.2=2↔n=qhw\/n=nSk\/n=qtt)/\((qD n).2.2=2->1<=(qD n).1)/\((qD n).2.2=3↔isD n=true):=by
 obtain b|⟨r,d,g,b⟩:=qwF n
 .rw[qwq b]at h;exact absurd rfl h
 .have c:=wu.1 qM9 r d;subst g;rw[qof b];unfold qMc at c;simp only[wc,beq_iff_eq,decide_eq_true_eq]at c;let⟨⟨⟨⟨⟨l,k⟩,j⟩,a⟩,f⟩,i⟩:=c;refine⟨vK.2 ⟨r,d,by simp⟩,qof b,k,j,?_,?_,?_⟩
  .constructor
   .intro h;rw[decide_eq_true h]at a;have:=a.symm;simp only[wT,beq_iff_eq]at this;exact or_assoc.1 this
   .intro h;by_cases e:r.2.2.2=2
    .exact e
    .rw[decide_eq_false e]at a;have:=a.symm;simp only[xr,beq_eq_false_iff_ne]at this;obtain h|h|h:=h
     .exact absurd h this.1.1
     .exact absurd h this.1.2
     .exact absurd h this.2
  .intro h;rw[decide_eq_true h]at f;have:=of_decide_eq_true f.symm;exact this.2
  .unfold isD;rw[<-i];simp
theorem qLd(t:T)(n:t.kind=3):qvR t=qcs t:=by
 unfold qvR qcs;rw[if_neg (show ¬ (t.kind≠3)from λ h=>h n)];by_cases b:(qD t.name).2.2=0
 .rw[if_pos b,if_pos b]
 .rw[if_neg b,if_neg b];let⟨j,i,r,q,g,p,o⟩:=qwg b
  have e1:qmZ yY t.name t.kids.length=(decide ((qD t.name).1<=(t.kids.length:Int))&&decide ((t.kids.length:Int)<=(qD t.name).2.1)):=by
   unfold qmZ;rw[j,i,w7]
  rw[e1];by_cases e:(t.kids.length:Int)<(qD t.name).1\/(qD t.name).2.1<(t.kids.length:Int)
  .rw[if_pos e,if_pos];rw[vc,decide_eq_false_iff_not,decide_eq_false_iff_not];omega
  .rw[if_neg e,if_neg]
   .have f:(qD t.name).2.2=2/\qke t=false↔qar t=true:=by
      rw[g];unfold qke qar;by_cases a:t.name=qhw
      .rw[if_pos a,if_pos a];simp[a]
      .rw[if_neg a,if_neg a];by_cases c:t.name=nSk\/t.name=qtt
       .rw[if_pos c]
        have:agB t.kids = !(t.kids.any λ k=>decide (k.kind=3)||decide (k.sort≠1)):=by
         unfold agB;generalize t.kids=l
         induction l with
         |nil=>rfl
         |cons x l m=>simp only[ko,wad,m,Bool.not_or];congr 1;congr 1;by_cases h:x.sort=1<;>simp[bne,h]
        rw[this];simp[c]
       .rw[if_neg c];constructor
        .rintro⟨h,_⟩;obtain h|h:=h
         .exact absurd h a
         .exact absurd h c
        .intro h;cases h
    by_cases d:qar t=true
    .rw[if_pos d,if_pos (f.2 d)]
    .rw[if_neg d,if_neg (λ h=>d (f.1 h))]
   .rw[vc,decide_eq_false_iff_not,decide_eq_false_iff_not];omega
theorem qcP{t:T}(e:t.kind=3)(h:zr t=0):qcs t=0/\(∀k∈t.kids,zr k=0):=by
 rw[qnt,if_neg (show ¬ (t.kind≠3)from λ h=>h e)]at h;by_cases c:qcs t=0
 .refine⟨c,?_⟩;rw[c]at h;generalize t.kids=l at*
  induction l with
  |nil=>intro k a;cases a
  |cons x l d=>
    rw[wv,QS]at h;by_cases b:zr x=0
    .rw[b]at h;intro k a;obtain rfl|a:=wx.1 a
     .exact b
     .exact d h k a
    .rw[qR _ b]at h;exact absurd h b
 .rw[qR _ c]at h;exact absurd h c
end Go.GxZ
namespace Go.AmZ
open Go Go.GxZ Go.Lib
theorem qjV(t:T)(n:List UInt8):Ev (λ m _=>jw m t n) (isN t n):=by
 refine waK ?_;simp only[qD9,qkB];unfold isN;refine waD (λ h=>?_) λ h=>?_
 .rw[ql]at h;exact waI (by rw[h];rfl)
 .rw[qj]at h;exact waI (by rw[show(t.kind==3)=false from beq_eq_false_iff_ne.2 h];rfl)
theorem qk1(t:T)(n:List UInt8):Ev (λ m _=>qb2 m t n) (isN t n):=by
 refine waK ?_;simp only[qHj,qm2];unfold isN;refine waD (λ h=>?_) λ h=>?_
 .rw[ql]at h;exact waI (by rw[h];rfl)
 .rw[qj]at h;exact waI (by rw[show(t.kind==3)=false from beq_eq_false_iff_ne.2 h];rfl)
theorem qOa(n:List UInt8)(l:List T):Ev (λ m _=>qgQ m n l) (apT n l):=waK (waE _)
theorem qeQ(n:List UInt8)(l:List T)(a:l.length<=1000000000):Ev (λ m _=>yI m n l) (apT n l):=by
 refine waK ?_;simp only[qDQ,qkP];refine waG (zh (by simp;omega) (by omega)) ?_;refine Ev.case (λ h=>?_) λ x t h=>?_
 .subst h;exact waE _
 .subst h;exact waE _
def qJM(n:List UInt8):List UInt8×Int×Int×Int:=(yY.find? λ r=>r.1==n).getD ([],0,0,0)
theorem qtz(n:List UInt8):(qJM n).2=qD n:=by
 unfold qJM qD;cases yY.find? λ r=>r.1==n<;>rfl
theorem qzm(n:List UInt8):Ev (λ m _=>qbw m n) (qJM n):=by
 refine waK ?_;simp only[qv3,qdh];refine waC (a:=yY) (waE _) ?_
 have b:=qA (P:=λ i=>Ev (λ m k=>Jb m k n yY yY.length i [] 0 0 0) (((yY.drop i).find? λ r=>r.1==n).getD ([],0,0,0))) yY (by decide)
  (λ c=>by
   refine waJ ?_;simp only[qkL,qc5];refine waH c ?_;exact waE _)
  (λ i x j f c e d g=>by
   refine waJ ?_;simp only[qkL,qc5];refine waG c (waF e ?_);rw[f,List.find?_cons,d];refine waD (λ h=>?_) λ h=>?_
   .exact waI (by rw[show(x.1==n)=true from h];rfl)
   .rw[show(x.1==n)=false from h];exact g)
 refine waL (L:=λ m k=>Jb m k n yY yY.length 0 [] 0 0 0) ?_;exact b 0 (we _)
theorem qs9{t:T}(c:t.kind=3)(h:qcs t=0):(qD t.name).2.2≠0/\(qD t.name).1<=(t.kids.length:Int)/\(t.kids.length:Int)<=(qD t.name).2.1/\qar t=false:=by
 unfold qcs at h;rw[if_neg (show ¬ t.kind≠3 from λ a=>a c)]at h;split at h
 .omega
 rename_i d;split at h
 .omega
 rename_i e;split at h
 .omega
 rename_i b;exact⟨d,by omega,by omega,by simpa using b⟩
theorem qxu{t:T}{i:Nat}(h:i<t.kids.length):qe t.kids (i:Int)=some (kid t i):=by
 rw[yd];unfold kid;rw[List.getD_eq_getElem?_getD,List.getElem?_eq_getElem h];rfl
theorem qdK{t:T}(h:0<t.kids.length):qe t.kids 0=some (kid t 0):=qxu (i:=0) h
theorem qr1{t:T}(h:1<t.kids.length):qe t.kids 1=some (kid t 1):=qxu (i:=1) h
theorem qFl{t:T}{i:Nat}(h:i<t.kids.length):kid t i∈t.kids:=by
 unfold kid;rw[List.getD_eq_getElem?_getD,List.getElem?_eq_getElem h];exact wW h
theorem yP{t:T}{n:List UInt8}:isN t n=true↔t.kind=3/\t.name=n:=by
 unfold isN;rw[wc,beq_iff_eq,beq_iff_eq]
theorem qJo(t:T):size t<=1000000000->Ev (λ m _=>qE m t) (zr t):=by
 induction t using T.ind with
 |h t E=>
   intro F;refine waK ?_;simp only[qxC,qdV];have G:=yR t;rw[qnt];refine waD (λ h=>?_) λ z=>?_
   .rw[bnt,qj]at h;exact waI (by rw[if_pos h])
   rw[bnf,ql]at z;rw[if_neg (show ¬ t.kind≠3 from λ c=>c z)]
   have C:=qA (P:=λ i=>Ev (λ m k=>(qZ m (qE m) k).2 t.kids t.kids.length i) (((t.kids.drop i).map zr).foldl thn 0)) t.kids (by omega)
    (λ f=>by
     refine waJ ?_;simp only[ql6,qdW];refine waH f ?_;exact waI (by simp))
    (λ i x A w f v u y=>by
     refine waJ ?_;simp only[ql6,qdW,qk];have B:=wb A;have l:=jN t x B;refine waG f (waF v (waC (E x B (by omega)) ?_));rw[w,wv,QS,u];refine waD (λ h=>?_) λ h=>?_
     .rw[bnt,qj]at h;exact waI (by rw[qR _ h])
     .rw[bnf,ql]at h;rw[h];exact y)
   have n:Ev (λ m k=>(qZ m (qE m) k).2 t.kids t.kids.length 0) ((t.kids.map zr).foldl thn 0):=(C 0 (we _)).res (by rw[wP])
   have D:=qA (P:=λ i=>Ev (λ m k=>(qZ m (qE m) k).1 t.kids t.kids.length i t.kind t.name t.sort t.kids) (if(t.kids.drop i).any (λ k=>decide (k.kind=3)||decide (k.sort≠1))=true then 10 else(t.kids.map zr).foldl thn 0)) t.kids (by omega)
    (λ f=>by
     refine waJ ?_;simp only[qlY,qdQ];refine waH f ?_;refine n.res ?_;rw[wX];rfl)
    (λ i x A w f v u y=>by
     refine waJ ?_;simp only[qlY,qdQ,qk];refine waG f (waF v ?_);rw[w,wad,u];refine waD (λ h=>?_) λ h=>?_
     .rw[ql]at h;exact waI (by rw[decide_eq_true h];rfl)
     rw[qj]at h;rw[decide_eq_false h];refine waD (λ q=>?_) λ q=>?_
     .rw[bnt,qj]at q;exact waI (by rw[decide_eq_true q];rfl)
     .rw[bnf,ql]at q;rw[decide_eq_false (λ c=>c q)];exact y)
   have d:qcs t=0->Ev (λ m _=>(qZ m (qE m) m).2 t.kids t.kids.length 0) ((t.kids.map zr).foldl thn (qcs t)):=λ h=>by
    rw[h];exact waL (L:=λ m k=>(qZ m (qE m) k).2 t.kids t.kids.length 0) n
   have e:qar t=t.kids.any (λ k=>decide (k.kind=3)||decide (k.sort≠1))->qcs t=(if qar t=true then 10 else 0)->Ev (λ m _=>(qZ m (qE m) m).1 t.kids t.kids.length 0 t.kind t.name t.sort t.kids) ((t.kids.map zr).foldl thn (qcs t)):=λ r h=>by
    refine(waL (L:=λ m k=>(qZ m (qE m) k).1 t.kids t.kids.length 0 t.kind t.name t.sort t.kids) (D 0 (we _))).res ?_;rw[wP,<-r,h];split
    .rw[qR _ (by decide)]
    .rfl
   refine waC (qzm t.name) ?_;rw[qtz]
   have a:qcs t=if(qD t.name).2.2=0 then 10 else if(t.kids.length:Int)<(qD t.name).1\/(qD t.name).2.1<(t.kids.length:Int)then 6 else if qar t=true then 10 else 0:=by
    unfold qcs;rw[if_neg (show ¬ t.kind≠3 from λ c=>c z)]
   refine waD (λ h=>?_) λ h=>?_
   .rw[ql]at h;rw[if_pos h]at a;exact waI (by rw[a,qR _ (by decide)])
   rw[qj]at h;rw[if_neg h]at a;refine waD (λ l=>?_) λ l=>?_
   .rw[qz]at l;rw[if_pos (.inl l)]at a;exact waI (by rw[a,qR _ (by decide)])
   rw[qw]at l;refine waD (λ s=>?_) λ s=>?_
   .rw[qz]at s;rw[if_pos (.inr s)]at a;exact waI (by rw[a,qR _ (by decide)])
   rw[qw]at s;rw[if_neg (by omega)]at a;refine waD (λ p=>?_) λ p=>?_
   .rw[jo]at p;refine e ?_ a;unfold qar;rw[p,if_neg (by decide),if_pos (.inl rfl)]
   rw[Qa]at p;refine waD (λ b=>?_) λ b=>?_
   .rw[jo]at b;refine e ?_ a;unfold qar;rw[b,if_neg (by decide),if_pos (.inr rfl)]
   rw[Qa]at b;refine waD (λ j=>?_) λ j=>?_
   .rw[jo]at j
    have o:0<t.kids.length:=by
     rw[j,show(qD [110,101,119]).1=1 from by decide]at l;omega
    refine waF (qdK o) ?_
    have r:qar t=decide ((kid t 0).kind≠2):=by
     unfold qar;rw[if_pos (show t.name=qhw from j)]
    refine waD (λ c=>?_) λ c=>?_
    .rw[bnt,qj]at c;rw[r,decide_eq_true c,if_pos rfl]at a;exact waI (by rw[a,qR _ (by decide)])
    .rw[bnf,ql]at c;rw[r,decide_eq_false (λ g=>g c)]at a;exact d a
   .rw[Qa]at j;refine d ?_
    have:qar t=false:=by
     unfold qar;rw[if_neg (show ¬ t.name=qhw from j),if_neg (λ h=>h.elim p b)]
    rw[this]at a;exact a
theorem qEr(t:T)(a:size t<=1000000000):Ev (λ m _=>qaN m t) (qcL t):=by
 refine waK ?_;simp only[qw0,qhl,qk];unfold qcL;refine waC (qcR t a) ?_;refine waD (λ h=>?_) λ h=>?_
 .rw[bnt,qj]at h;exact waI (by rw[QW h])
 .rw[bnf,ql]at h;rw[h];exact waC (qJo t a) (waE _)
theorem qxN(n:List UInt8):Ev (λ m _=>qeP m n) (qD n).2.2:=by
 refine waK ?_;simp only[qBd,qf6];refine waC (a:=yY) (waK (waE _)) ?_
 have b:=qA (P:=λ i=>Ev (λ m k=>qa5 m k n yY i) (((yY.drop i).find? λ r=>r.1==n).getD ([],0,0,0)).2.2.2) yY (by decide)
  (λ c=>by
   refine waJ ?_;simp only[qpr,qfK];refine waH c ?_;exact waE _)
  (λ i x j f c d e g=>by
   refine waJ ?_;simp only[qpr,qfK];refine waG c (waF d ?_);rw[f,List.find?_cons,e];refine waD (λ h=>?_) λ h=>?_
   .refine waF d (waI ?_);rw[show(x.1==n)=true from h];rfl
   .rw[show(x.1==n)=false from h];exact g)
 refine waL (L:=λ m k=>qa5 m k n yY 0) ?_;exact(b 0 (we _)).res (by rw[<-qtz];rfl)
theorem qNu(t:T):Ev (λ m _=>qjD m t) (qmZ yY t.name t.kids.length):=by
 refine waK ?_;simp only[qC8,qfM];refine waC (a:=yY) (waK (waE _)) ?_
 have c:=qA (P:=λ i=>Ev (λ m k=>qa8 m k yY i t.kind t.name t.sort t.kids) (qmZ (yY.drop i) t.name t.kids.length)) yY (by decide)
  (λ e=>by
   refine waJ ?_;simp only[qpz,qfW];refine waH e ?_;exact waE _)
  (λ i x l g e d f j=>by
   refine waJ ?_;simp only[qpz,qfW];refine waG e (waF d ?_);rw[g,qIp,f];refine waD (λ h=>?_) λ h=>?_
   .rw[if_pos (show(x.1==t.name)=true from h)];refine waF d ?_;refine waD (λ b=>?_) λ b=>?_
    .rw[qbi]at b;refine waF d (waI ?_);rw[decide_eq_true b];rfl
    .rw[J8]at b;exact waI (by rw[decide_eq_false (by omega)];rfl)
   .rw[if_neg (by rw[show(x.1==t.name)=false from h];decide)];exact j)
 refine waL (L:=λ m k=>qa8 m k yY 0 t.kind t.name t.sort t.kids) ?_;exact c 0 (we _)
theorem qI9(t:T)(f:t.kids.length<2^62)(a:t.name=qhw->0<t.kids.length):Ev (λ m _=>qgW m t) (qke t):=by
 refine waK ?_;simp only[qxy,qdI];unfold qke;refine waD (λ h=>?_) λ h=>?_
 .rw[jo]at h;rw[if_pos (show t.name=qhw from h)];refine waF (qdK (a h)) (waE _)
 rw[Qa]at h;rw[if_neg (show ¬ t.name=qhw from h)]
 have c:=qA (P:=λ i=>Ev (λ m k=>JI m k i t.kind t.name t.sort t.kids) (agB (t.kids.drop i))) t.kids f
  (λ d=>by
   refine waJ ?_;simp only[ql5,qdN];refine waH d ?_;exact waI (by rw[wX];rfl))
  (λ i x n j d e g l=>by
   refine waJ ?_;simp only[ql5,qdN];refine waG d (waF e ?_);rw[j,qKP,g];refine waD (λ h=>?_) λ h=>?_
   .exact waI (by rw[show(x.kind==3)=true from h];rfl)
   rw[show(x.kind==3)=false from h];refine waF e ?_;refine waD (λ b=>?_) λ b=>?_
   .rw[bnt,qj]at b;exact waI (by rw[show(x.sort != 1)=true from bne_iff_ne.2 b];rfl)
   .rw[bnf,ql]at b;rw[show(x.sort != 1)=false by rw[b];rfl];exact l)
 refine waL (L:=λ m k=>JI m k 0 t.kind t.name t.sort t.kids) ?_;exact(c 0 (we _)).res (by rw[wP])
theorem qH2(t:T):size t<=1000000000->Ev (λ m _=>jq m t) (zr t):=by
 induction t using T.ind with
 |h t o=>
   intro C;refine waK ?_;simp only[qzS,qeY,qk];have E:=yR t;rw[qnt];refine waD (λ h=>?_) λ f=>?_
   .rw[bnt,qj]at h;exact waI (by rw[if_pos h])
   rw[bnf,ql]at f;rw[if_neg (show ¬ t.kind≠3 from λ r=>r f),<-qLd t f]
   have c:=qA (P:=λ i=>Ev (λ m k=>Jp m (jq m) k i t.kind t.name t.sort t.kids) (((t.kids.drop i).map zr).foldl thn 0)) t.kids (by omega)
    (λ e=>by
     refine waJ ?_;simp only[qns,qe8];refine waH e ?_;exact waI (by simp))
    (λ i x p u e s q w=>by
     refine waJ ?_;simp only[qns,qe8,qk];have g:=wb p;have G:=jN t x g;refine waG e (waF s (waC (o x g (by omega)) ?_));rw[u,wv,QS,q];refine waD (λ h=>?_) λ h=>?_
     .rw[bnt,qj]at h;exact waI (by rw[qR _ h])
     .rw[bnf,ql]at h;rw[h];exact w)
   have a:qvR t=0->Ev (λ m _=>Jp m (jq m) m 0 t.kind t.name t.sort t.kids) ((t.kids.map zr).foldl thn (qvR t)):=λ h=>by
    rw[h];exact(waL (L:=λ m k=>Jp m (jq m) k 0 t.kind t.name t.sort t.kids) (c 0 (we _))).res (by rw[wP])
   unfold qvR at a |-
   refine waC (qxN t.name) ?_;refine waD (λ h=>?_) λ h=>?_
   .rw[ql]at h;rw[if_pos h];exact waI (by rw[qR _ (by decide)])
   rw[qj]at h;rw[if_neg h]at a |-
   refine waC (qNu t) ?_;cases d:qmZ yY t.name t.kids.length with
   |false=>
     refine waG rfl ?_;rw[if_pos rfl];exact waI (by rw[qR _ (by decide)])
   |true=>
     rw[d,if_neg (by decide)]at a;rw[if_neg (by decide)];refine waH rfl ?_;refine waD (λ b=>?_) λ b=>?_
     .rw[ql]at b;refine waC (qI9 t (by omega) λ D=>?_) ?_
      .let⟨n,l,B,A,z,j,y⟩:=qwg h;have F:=j b;unfold qmZ at d;rw[n,l,w7,wc,decide_eq_true_iff]at d;omega
      cases v:qke t with
      |false=>
        refine waG rfl ?_;rw[if_pos ⟨b,rfl⟩];exact waI (by rw[qR _ (by decide)])
      |true=>
        rw[v,if_neg (by rintro⟨_,h⟩;cases h)]at a;rw[if_neg (by rintro⟨_,h⟩;cases h)];exact waH rfl (a rfl)
     .rw[qj]at b;rw[if_neg (by rintro⟨h,_⟩;exact b h)]at a |-
      exact a rfl
theorem qEp(t:T)(a:size t<=1000000000):Ev (λ m _=>qfA m t) (qcL t):=by
 refine waK ?_;simp only[qzJ,qh9,qk];unfold qcL;refine waC (qcS t a) ?_;refine waD (λ h=>?_) λ h=>?_
 .rw[bnt,qj]at h;exact waI (by rw[QW h])
 .rw[bnf,ql]at h;rw[h];exact waC (qH2 t a) (waE _)
end Go.AmZ
namespace Go.GxZ
def Asc(l:List T):Prop:=l.Pairwise λ a b=>qs a b=-1
theorem yB{a:T}:qs a a≠-1:=by rw[qrs];decide
theorem qyf{a b:T}:qs a b=1↔qs b a=-1:=by
 have:=yg.anti a b;omega
theorem qeR{a b c:T}(e:qs a b=-1)(d:qs b c=-1):qs a c=-1:=yg.trans a b c e d
theorem qaJ{x:T}{l:List T}:Asc (x::l)↔(∀y∈l,qs x y=-1)/\Asc l:=List.pairwise_cons
theorem qEK:∀(l m:List T),Asc l->Asc m->(∀x,x∈l↔x∈m)->l=m
 |[],[],_,_,_=>rfl
 |[],y::m,_,_,h=>absurd ((h y).2 (wi ..)) (by simp)
 |x::l,[],_,_,h=>absurd ((h x).1 (wi ..)) (by simp)
 |x::l,y::m,n,k,h=>by
   let⟨c,i⟩:=qaJ.1 n;let⟨b,g⟩:=qaJ.1 k;have f:=(h x).1 (wi ..);have d:=(h y).2 (wi ..)
   have e:x=y:=by
    obtain e|f:=wx.1 f
    .exact e
    obtain e|d:=wx.1 d
    .exact e.symm
    exact absurd (qeR (c y d) (b x f)) yB
   subst e;rw[qEK l m i g λ z=>?_];constructor
   .intro a;obtain e|j:=wx.1 ((h z).1 (wg _ a))
    .subst e;exact absurd (c z a) yB
    .exact j
   .intro a;obtain e|j:=wx.1 ((h z).2 (wg _ a))
    .subst e;exact absurd (b z a) yB
    .exact j
theorem qv9(n:Nat):∀(a b:List T),a.length+b.length<=n->Asc a->Asc b->Asc (zw a b)/\(∀x,x∈zw a b↔¬(x∈a↔x∈b)):=by
 induction n with
 |zero=>
   intro a b h _ _;obtain rfl:a=[]:=kz.1 (by omega);obtain rfl:b=[]:=kz.1 (by omega);rw[zw];exact⟨List.Pairwise.nil,by simp⟩
 |succ n p=>
   intro a b h u t
   match a,b with
   |[],b=>rw[zw];exact⟨t,by simp⟩
   |x::a,[]=>rw[zw];exact⟨u,by simp[Classical.or_iff_not_imp_left]⟩
   |x::a,y::b=>
     rw[zw];let⟨g,o⟩:=qaJ.1 u;let⟨f,m⟩:=qaJ.1 t;simp only[wz]at h;by_cases k:qs x y=-1
     .rw[if_pos k];let⟨l,i⟩:=p a (y::b) (by simp;omega) o t
      have s:x ∉ y::b:=by
       intro h;obtain e|h:=wx.1 h
       .subst e;exact yB k
       .exact yB (qeR k (f x h))
      have B:x ∉ a:=λ h=>yB (g x h);refine⟨qaJ.2 ⟨λ z q=>?_,l⟩,λ z=>?_⟩
      .have:=(i z).1 q;by_cases d:z∈a
       .exact g z d
       .have c:z∈y::b:=by
          by_cases c:z∈y::b
          .exact c
          .exact absurd ⟨λ h=>absurd h d,λ h=>absurd h c⟩ this
        obtain e|w:=wx.1 c
        .rw[e];exact k
        .exact qeR k (f z w)
      .rw[wx,i,wx (a:=z) (b:=x)];by_cases e:z=x
       .subst e;simp[s]
       .simp[e]
     .rw[if_neg k];by_cases v:qs x y=1
      .rw[if_pos v];have j:=qyf.1 v;let⟨l,i⟩:=p (x::a) b (by simp;omega) u m
       have r:y ∉ x::a:=by
        intro h;obtain e|h:=wx.1 h
        .subst e;exact yB j
        .exact yB (qeR j (g y h))
       have A:y ∉ b:=λ h=>yB (f y h);refine⟨qaJ.2 ⟨λ z q=>?_,l⟩,λ z=>?_⟩
       .have:=(i z).1 q;by_cases c:z∈b
        .exact f z c
        .have d:z∈x::a:=by
           by_cases d:z∈x::a
           .exact d
           .exact absurd ⟨λ h=>absurd h d,λ h=>absurd h c⟩ this
         obtain e|w:=wx.1 d
         .rw[e];exact j
         .exact qeR j (g z w)
       .rw[wx,i,wx (a:=z) (b:=y)];by_cases e:z=y
        .subst e;simp[r]
        .simp[e]
      .rw[if_neg v];have j:qs x y=0:=by have:=yg.rng x y;omega
       have e:=qaF x y j;subst e;let⟨l,i⟩:=p a b (by omega) o m;refine⟨l,λ z=>?_⟩;rw[i,wx,wx];by_cases e:z=x
       .subst e;have:z ∉ a:=λ h=>yB (g z h);have:z ∉ b:=λ h=>yB (f z h);simp[*]
       .simp[e]
theorem qzw{a b:List T}(d:Asc a)(c:Asc b):Asc (zw a b):=(qv9 _ a b (wa _) d c).1
theorem qJl{a b:List T}(d:Asc a)(c:Asc b)(x:T):x∈zw a b↔¬(x∈a↔x∈b):=(qv9 _ a b (wa _) d c).2 x
theorem qhr:∀(b:List (List T)) (a:List T),Asc a->(∀l∈b,Asc l)->Asc (b.foldl zw a)
 |[],_,h,_=>h
 |l::b,a,h,k=>qhr b _ (qzw h (k l (wi ..))) λ m c=>k m (wg _ c)
theorem qlV(t:T):Asc (Qf t):=by
 refine T.ind (P:=λ t=>Asc (Qf t)) ?_ t;intro t a;rw[qkE];split
 .exact List.Pairwise.nil
 .split
  .exact qhr _ _ List.Pairwise.nil λ l b=>by
    obtain⟨k,c,rfl⟩:=wA.1 b;exact a k c
  .exact vB _ _
def JA(t:T)(s:List T×Bool)(x:T):List T×Bool:=
 if s.2=false/\qs t x<=0 then(s.1++(if qs t x<0 then[t]else[])++[x],true)else(s.1++[x],s.2)
def qyp(l:List T)(t:T):List T:=if(l.foldl (JA t) ([],false)).2 then(l.foldl (JA t) ([],false)).1 else(l.foldl (JA t) ([],false)).1++[t]
def qhW(l:List T)(t:T):List T:=if l.any (λ x=>js x t)then l.filter (λ x => !js x t)else qyp l t
def qjF(a b:List T):List T:=b.foldl qhW a
theorem qyt(t:T):∀(l a:List T),l.foldl (JA t) (a,true)=(a++l,true)
 |[],a=>by simp
 |x::l,a=>by
   have e:JA t (a,true) x=(a++[x],true):=by simp[JA]
   rw[ky,e,qyt t l];simp
def qgP:List T->T->List T
 |[],t=>[t]
 |x::l,t=>if qs t x<0 then t::x::l else if qs t x=0 then x::l else x::qgP l t
theorem qwC(t:T):∀(l a:List T),(if(l.foldl (JA t) (a,false)).2 then(l.foldl (JA t) (a,false)).1 else(l.foldl (JA t) (a,false)).1++[t])=a++qgP l t
 |[],a=>by simp[qgP]
 |x::l,a=>by
   rw[ky];by_cases h:qs t x<=0
   .have e:JA t (a,false) x=(a++(if qs t x<0 then[t]else[])++[x],true):=by simp[JA,h]
    rw[e,qyt,qgP];by_cases b:qs t x<0
    .simp[b]
    .have:qs t x=0:=by omega
     simp[this]
   .have e:JA t (a,false) x=(a++[x],false):=by simp[JA,h]
    rw[e,qwC t l,qgP,if_neg (by omega),if_neg (by omega)];simp
theorem qDD(l:List T)(t:T):qyp l t=qgP l t:=by
 have:=qwC t l [];simpa[qyp]using this
theorem qtx(t:T):∀(l:List T) (x:T),x∈qgP l t↔x∈l\/x=t
 |[],x=>by simp[qgP]
 |y::l,x=>by
   rw[qgP];split
   .simp only[wx];constructor
    .rintro(h|h|h)<;>simp[h]
    .rintro((h|h)|h)<;>simp[h]
   .split
    .rename_i h;have:=qaF t y h;subst this;simp only[wx];constructor
     .rintro(h|h)<;>simp[h]
     .rintro((h|h)|h)<;>simp[h]
    .rw[wx,qtx t l x,wx];constructor
     .rintro(h|h|h)<;>simp[h]
     .rintro((h|h)|h)<;>simp[h]
theorem qBp(t:T):∀(l:List T),Asc l->Asc (qgP l t)
 |[],_=>vB _ _
 |y::l,h=>by
   let⟨c,d⟩:=qaJ.1 h;rw[qgP];have f:=yg.rng t y;split
   .have b:qs t y=-1:=by omega
    refine qaJ.2 ⟨λ z a=>?_,h⟩;obtain e|a:=wx.1 a
    .rw[e];exact b
    .exact qeR b (c z a)
   .split
    .exact h
    .refine qaJ.2 ⟨λ z a=>?_,qBp t l d⟩;obtain a|e:=(qtx t l z).1 a
     .exact c z a
     .rw[e];exact qyf.1 (by omega)
theorem qbA{a b:T}:js a b=true↔a=b:=by unfold js;exact decide_eq_true_iff
theorem qHE{l:List T}(h:Asc l)(t:T):Asc (qhW l t)/\∀x,x∈qhW l t↔¬(x∈l↔x=t):=by
 unfold qhW;by_cases a:t∈l
 .have f:(l.any λ x=>js x t)=true:=vK.2 ⟨t,a,qbA.2 rfl⟩;rw[if_pos f];refine⟨List.Pairwise.filter _ h,λ x=>?_⟩;rw[kN];by_cases e:x=t
  .subst e;simp[a,qbA.2 rfl]
  .have:js x t=false:=by
     cases b:js x t
     .rfl
     .exact absurd (qbA.1 b) e
   simp[e,this]
 .rw[if_neg (λ b=>by
    let⟨x,c,d⟩:=vK.1 b;exact a (by rw[<-qbA.1 d];exact c)),qDD]
  refine⟨qBp t l h,λ x=>?_⟩;rw[qtx];by_cases e:x=t
  .subst e;simp[a]
  .simp[e]
theorem qo7:∀(b a:List T),Asc a->Asc b->Asc (qjF a b)/\∀x,x∈qjF a b↔¬(x∈a↔x∈b)
 |[],a,g,_=>⟨g,λ x=>by simp[qjF]⟩
 |y::b,a,g,n=>by
   let⟨f,d⟩:=qaJ.1 n;let⟨l,k⟩:=qHE g y;let⟨j,i⟩:=qo7 b (qhW a y) l d;refine⟨j,λ x=>?_⟩;rw[show qjF a (y::b)=qjF (qhW a y) b from rfl,i,k,wx];by_cases e:x=y
   .subst e;have:x ∉ b:=λ h=>yB (f x h);by_cases c:x∈a<;>simp[this,c]
   .by_cases c:x∈a<;>by_cases m:x∈b<;>simp[e,c,m]
theorem qBf{a b:List T}(d:Asc a)(c:Asc b):qjF a b=zw a b:=
 qEK _ _ (qo7 b a d c).1 (qzw d c) λ x=>by rw[(qo7 b a d c).2,qJl d c]
end Go.GxZ
namespace Go.AmZ
open Go Go.GxZ Go.Lib
def szL(l:List T):Nat:=(l.map size).sum
theorem zf(x:T)(l:List T):szL (x::l)=size x+szL l:=by simp[szL]
theorem qhT(a b:List T):szL (a++b)=szL a+szL b:=by simp[szL]
theorem j8:∀l:List T,l.length<=szL l
 |[]=>we _
 |x::l=>by
   have:=j8 l;have:=size_pos x;rw[zf,wz];omega
theorem qcA{l:List T}{x:T}(h:x∈l):size x<=szL l:=qpf l x h
theorem qob:∀(n:Nat) (a b:List T),a.length+b.length<=n->szL (zw a b)<=szL a+szL b
 |_,[],b,_|_,x::a,[],_=>by rw[zw];omega
 |0,x::a,y::b,h=>by simp at h
 |n+1,x::a,y::b,h=>by
   simp only[wz]at h;rw[zw];split
   .have:=qob n a (y::b) (by simp;omega);rw[zf,zf];omega
   .split
    .have:=qob n (x::a) b (by simp;omega);rw[zf y,zf y];omega
    .have:=qob n a b (by omega);rw[zf,zf];omega
theorem qs5:∀(b:List (List T)) (a:List T),szL (b.foldl zw a)<=szL a+(b.map szL).sum
 |[],_=>by simp
 |l::b,a=>by
   have d:=qs5 b (zw a l);have c:=qob _ a l (wa _);simp only[ky,wv,kQ];omega
theorem qwS(f g:T->Nat):∀l:List T,(∀k∈l,f k<=g k)->(l.map f).sum<=(l.map g).sum
 |[],_=>wa _
 |x::l,h=>by
   have c:=h x (wi ..);have b:=qwS f g l λ k a=>h k (wg _ a);simp only[wv,kQ];omega
theorem qCo(l:List T)(h:∀k∈l,szL (Qf k)<=size k):szL ((l.map Qf).foldl zw [])<=szL l:=by
 refine wE (qs5 _ _) ?_;rw[xh];have:=qwS (szL ∘ Qf) size l h;show 0+_<=(l.map size).sum;omega
theorem qln(t:T):szL (Qf t)<=size t:=by
 refine T.ind (P:=λ t=>szL (Qf t)<=size t) ?_ t;intro t a;rw[qkE];split
 .exact we _
 .split
  .have:=qCo t.kids a;have:=qW t;unfold szL at *;omega
  .show szL [t]<=_;rw[zf];exact wa _
theorem qei(l:List T):szL (zZ l)<=szL l:=qCo l λ k _=>qln k
theorem qpo(x:T)(l:List T):JW (x::l) 1 (((x::l).length:Nat):Int)=l:=by
 unfold JW;rw[kF,wH];rfl
theorem qo2(n:Nat):inb (n:Int) n=true:=by unfold inb;rw[decide_eq_true_iff];omega
theorem qrY(x:T)(l:List T):inb 1 (Int.toNat (((x::l).length:Nat):Int))=true:=by
 unfold inb;rw[decide_eq_true_iff,kF,wz];omega
theorem qBa(x:T)(l:List T):ilt 0 (((x::l).length:Nat):Int)=true:=by rw[qz,wz];omega
theorem qF3:∀(n:Nat) (a b c:List T),a.length+b.length<=n->szL c+szL a+szL b<=1000000000->Ev (λ m k=>qcT m k a b c) (c++zw a b):=by
 intro n
 induction n with
 |zero=>
   intro a b c i g;have:a=[]:=wh (by omega);subst this;have:b=[]:=wh (by omega);subst this;refine waJ ?_;simp only[qsT,qiv];have:=j8 c;exact waH rfl (waG (zh (by simp only[wZ];omega) (by omega)) (waG (zh (by simp only[wZ,wy];omega) (by omega)) (waI (by rw[zw];simp))))
 |succ n f=>
   intro a b c i g;refine waJ ?_;simp only[qsT,qiv,qk];have o:=j8 c;have l:=j8 a;have j:=j8 b;cases a with
   |nil=>
     refine waH rfl (waG (zh (by simp only[wZ];omega) (by omega)) (waG (zh (by simp only[wy];omega) (by omega)) (waI (by rw[zw];simp))))
   |cons x a=>
     refine waG (qBa x a) ?_;cases b with
     |nil=>
       refine waH rfl (waG (zh (by omega) (by omega)) (waG (zh (by rw[wd];simp only[wZ];omega) (by omega)) (waI (by rw[zw];simp))))
     |cons y b=>
       rw[zf,zf]at g;refine waG (qBa y b) (waF (JZ _) (waF (JZ _) (waC (qdB x (by omega) y (by omega)) ?_)));rw[zw];simp only[wz]at i l j;rw[zf]at l j;refine waD (λ e=>?_) λ e=>?_
       .rw[qz]at e;have e:qs x y=-1:=by obtain h|h|h:=yg.rng x y<;>omega
        rw[if_pos e];refine waF (JZ _) (waG (zh (by omega) (by omega)) (waG (qo2 _) (waG (qrY x a) ?_)));rw[qpo];refine(f a (y::b) (c++[x]) (by simp only[wz];omega) (by rw[qhT,zf,zf];show szL c+(size x+0)+_+_<=_;omega)).res (by simp)
       .rw[qw]at e;rw[if_neg (by omega)];refine waD (λ d=>?_) λ d=>?_
        .rw[qz]at d;have d:qs x y=1:=by obtain h|h|h:=yg.rng x y<;>omega
         rw[if_pos d];refine waF (JZ _) (waG (zh (by omega) (by omega)) (waG (qo2 _) (waG (qrY y b) ?_)));rw[qpo];refine(f (x::a) b (c++[y]) (by simp only[wz];omega) (by rw[qhT,zf,zf];show szL c+(size y+0)+_+_<=_;omega)).res (by simp)
        .rw[qw]at d;rw[if_neg (by omega)];refine waG (qo2 _) (waG (qrY x a) (waG (qo2 _) (waG (qrY y b) ?_)));rw[qpo,qpo];exact f a b c (by omega) (by omega)
theorem qBv(a b:List T)(c:szL a+szL b<=1000000000):Ev (λ m _=>qkr m a b) (zw a b):=by
 refine waK ?_;simp only[qGI,qiu];refine waL (L:=λ m k=>qcT m k a b []) ?_;exact qF3 _ a b [] (wa _) (by show 0+_+_<=_;omega)
theorem qDU(l:List T)(i:Nat):szL (l.take i)<=szL l:=by
 have:=congrArg szL (kC i l);rw[qhT]at this;omega
theorem Jl{l:List T}{i:Nat}{x:T}(h:l[i]?=some x):szL (l.take i)+size x<=szL l:=by
 have b:l.take (i+1)=l.take i++[x]:=by rw[kE,h];rfl
 have a:=qDU l (i+1);rw[b,qhT,zf]at a;have:szL ([]:List T)=0:=rfl;omega
theorem qj5{l:List T}{i:Nat}{x:T}(h:l[i]?=some x):((l.take (i+1)).map Qf).foldl zw []=zw (((l.take i).map Qf).foldl zw []) (Qf x):=by
 rw[kE,h,wV,xL];rfl
theorem qLN(t:T):size t<=1000000000->Ev (λ m _=>yF m t) (Qf t):=by
 induction t using T.ind with
 |h t s=>
   intro B;have C:=yR t;have A:=qW t;refine waK ?_;simp only[qw6,qdX,qk]
   have o:=qA (P:=λ i=>Ev (λ m k=>QP m (yF m) k (((t.kids.take i).map Qf).foldl zw []) t.kids t.kids.length i) ((t.kids.map Qf).foldl zw [])) t.kids (by omega)
    (λ q=>by
     refine waJ ?_;simp only[qmm,qd4];refine waH q ?_;rw[wH];exact waE _)
    (λ i x c D q w u y=>by
     refine waJ ?_;simp only[qmm,qd4,qk];have r:=wb c;have F:=jN t x r;have z:=qei (t.kids.take i);have g:=Jl c;have E:=qln x;refine waG q (waF w (waC (s x r (by omega)) (waC (qBv _ _ ?_) ?_)))
     .unfold zZ at z;unfold szL at *;omega
     .rw[u];refine y.congr λ m k=>?_;rw[qj5 c])
   have j:Ev (λ m _=>QP m (yF m) m [] t.kids t.kids.length 0) ((t.kids.map Qf).foldl zw []):=
    waL (L:=λ m k=>QP m (yF m) k [] t.kids t.kids.length 0) (o 0 (we _))
   rw[qkE];by_cases g:t.kind=3
   .have f:ieq t.kind 3=true:=ql.2 g;refine waG f ?_;refine waD (λ e=>?_) λ e=>?_
    .rw[jo]at e;have a:isN t qcc=true:=yP.2 ⟨g,e⟩
     have d:isN t qcD=false:=by
      rw[<-kh,yP];rintro⟨_,h⟩;rw[e]at h;exact absurd h (by decide)
     refine waD (λ b=>?_) λ b=>?_
     .rw[ql]at b;have b:t.kids=[]:=wh (by omega);rw[a,b];exact waE _
     .rw[qj]at b
      have b:t.kids.isEmpty=false:=by
       cases v:t.kids with
       |nil=>rw[v]at b;exact absurd rfl b
       |cons _ _=>rfl
      rw[a,b,d];exact waG f (waH (by rw[e];rfl) (waE _))
    .have p:=Qa.1 e
     have a:isN t qcc=false:=by
      rw[<-kh,yP];rintro⟨_,h⟩;exact p h
     rw[a];refine waG f (waD (λ c=>?_) λ c=>?_)
     .rw[show isN t qcD=true from yP.2 ⟨g,jo.1 c⟩];exact j
     .have d:isN t qcD=false:=by
        rw[<-kh,yP];rintro⟨_,h⟩;exact Qa.1 c h
      rw[d];exact waE _
   .have f:ieq t.kind 3=false:=qj.2 g
    have l:∀n,isN t n=false:=λ n=>by
     rw[<-kh,yP];rintro⟨h,_⟩;exact g h
    rw[l,l];exact waH f (waH f (waE _))
end Go.AmZ
namespace Go.AmZ
open Go Go.GxZ
theorem qIy(b:List (List T))(d:b.length<1000)(h:(b.map List.length).sum<=100000000):Ev (λ m _=>zV m b) b.flatten:=by
 have g:∀l:List (List T),l.flatten.length=(l.map List.length).sum:=λ l=>List.length_flatten
 have s:=qA (P:=λ i=>Ev (λ m k=>(qn m k).2 b b.length i (b.take i).flatten) b.flatten) b (by omega)
  (λ c=>by
   refine waJ ?_;simp only[qap,jb];refine waH c ?_;rw[wH];exact waE _)
  (λ i x o r c f e j=>by
   refine waJ ?_;simp only[qap,jb];have p:b.take (i+1)=b.take i++[x]:=by rw[kE,o];rfl
   have q:((b.take (i+1)).map List.length).sum<=(b.map List.length).sum:=by
    have:=congrArg (λ l=>(l.map List.length).sum) (kC (i+1) b);simp only[wV,List.sum_append]at this;omega
   rw[p]at q;simp only[wV,List.sum_append,wv,vt,kQ,List.sum_nil]at q;refine waG c (waF f (waG (zh ?_ (by omega)) ?_))
   .rw[g];omega
   .rw[e];refine j.congr λ m k=>?_;rw[p,xu];simp)
 have t:=qA (P:=λ i=>∀n:Nat,n+((b.drop i).map List.length).sum<=100000000->Ev (λ m k=>(qn m k).1 b n b b.length i) b.flatten) b (by omega)
  (λ c n d=>by
   refine waJ ?_;simp only[qam,yZ];refine waH c (waF (a:=((),[],())) ?_ (s 0 (we _)));unfold yT;rw[show inb (n:Int) 100000000=true from by unfold inb;rw[decide_eq_true_iff];omega];rfl)
  (λ i x o r c f e j n d=>by
   refine waJ ?_;simp only[qam,yZ];rw[r,wv,kQ]at d;refine waG c (waF f ?_);rw[qib,Qe (by omega)];refine waH (qw.2 (by omega)) ?_;rw[e];exact j (n+x.length) (by omega))
 refine waK ?_;simp only[qfC,jf];refine waL (L:=λ m k=>(qn m k).1 b 0 b b.length 0) ?_;exact t 0 (we _) 0 (by rw[wP];omega)
theorem qvc(a b:List T)(h:a.length+b.length<=100000000):Ev (λ m _=>zV m [a,b]) (a++b):=
 (qIy [a,b] (by simp) (by simpa using h)).res (by simp)
theorem qrn{f:T->Int}{l:List T}{i:Nat}{x:T}(h:l.drop i=x::l.drop (i+1)):((l.drop i).map f).foldl thn 0=if f x≠0 then f x else((l.drop (i+1)).map f).foldl thn 0:=by
 rw[h,wv];by_cases a:f x=0
 .rw[if_neg (by simpa using a),a];rfl
 .rw[if_pos a];exact qR _ a
theorem qJR(l:List T)(n:szL l<=100000000):Ev (λ m _=>qmk m l []) (qm8 l):=by
 have o:=j8 l;refine waK ?_;simp only[qD6,qgY];unfold qm8;refine waD (λ h=>?_) λ h=>?_
 .rw[qz]at h;rw[if_pos (by omega)];exact waE _
 .rw[qw]at h;rw[if_neg (by omega)];refine waC (qvc l [] (by simp only[wZ];omega)) ?_;rw[wy]
  have b:=qA (P:=λ i=>Ev (λ m k=>qbX m k l l.length i) (((l.drop i).map qS).foldl thn 0)) l (by omega)
   (λ c=>by
    refine waJ ?_;simp only[qqV,qhu];refine waH c ?_;rw[wX];exact waE _)
   (λ i x d g c f e j=>by
    refine waJ ?_;simp only[qqV,qhu,qk];have p:=qcA (wb d);rw[qrn g];refine waG c (waF f (waC (qcR x (by omega)) (waD (λ a=>?_) λ a=>?_)))
    .rw[bnt,qj]at a;rw[if_pos a];exact waE _
    .rw[bnf,ql]at a;rw[if_neg (by omega),e];exact j)
  refine waL (L:=λ m k=>qbX m k l l.length 0) ?_;exact(b 0 (we _)).res (by rw[wP])
theorem qGn(t:T)(a:size t<=1000000000):Ev (λ m _=>qhp m t [] t) (t,0):=by
 refine waK ?_;simp only[qye,qd1,qk];refine waC (qtd t a) ?_;refine waL (L:=λ m k=>qaH m k [] ([]:List Int).length 0 t.kind t.name t.sort t.kids 0 [] 0 t.kind t.name t.sort t.kids []) (waJ ?_);simp only[qvQ,qhH,qk];refine waH rfl ?_;rw[show T.mk t.kind t.name t.sort t.kids=t from qk t];exact waC (qtd t a) (waE _)
def qep(l:List T)(i:Nat):List T:=l.take i++List.replicate (l.length-i) zT
theorem qLl{l:List T}{i:Nat}(h:i<l.length):(qep l i)[i]?=some zT:=by
 unfold qep;rw[List.getElem?_append_right (by rw[wk];omega),wk,List.getElem?_replicate,if_pos (by omega)]
theorem qtf{l:List T}{i:Nat}{x:T}(h:l[i]?=some x):(qep l i).set i x=qep l (i+1):=by
 have c:=(List.getElem?_eq_some_iff.1 h).1;unfold qep;have b:l.take (i+1)=l.take i++[x]:=by rw[kE,h];rfl
 have a:List.replicate (l.length-i) zT=zT::List.replicate (l.length-(i+1)) zT:=by
  rw[show l.length-i=(l.length-(i+1))+1 by omega,List.replicate_succ]
 rw[b,a,vQ _ _ (by rw[wk];omega),wk,show i-min i l.length=0 by omega,List.set_cons_zero,wj];rfl
theorem qHv{l:List T}{i:Nat}{x:T}(h:l[i]?=some x):(qep l (i+1)).set i x=qep l (i+1):=by
 rw[<-qtf h,List.set_set]
theorem qIY{l:List T}{i:Nat}{x:T}(h:l[i]?=some x):(qep l (i+1))[i]?=some x:=by
 have a:=(List.getElem?_eq_some_iff.1 h).1;rw[<-qtf h,List.getElem?_set_self (by unfold qep;rw[wd,wk,kG];omega)]
theorem qd8{α:Type}(l:List α)(i:Nat)(v:α):yw l (i:Int) v=l.set i v:=by
 unfold yw;rw[if_pos (by omega),kF]
theorem qM7:∀(n:Nat) (l:List T),szL l<=n->n<=1000000->Ev (λ m _=>J7 m l) l:=by
 intro n
 induction n using Nat.strongRecOn with
 |_ n p=>
 intro l s t;have u:=j8 l;refine waK ?_;simp only[qIk,qjT]
 have d:=qA (P:=λ i=>Ev (λ m k=>qeb m (J7 m) k l l.length i (qep l i)) l) l (by omega)
  (λ h=>by
   refine waJ ?_;simp only[qvL,qjL];refine waH h ?_;exact waI (by unfold qep;rw[wH,kK];simp))
  (λ i x b v h r q j=>by
   refine waJ ?_;simp only[qvL,qjL,qk];have y:=qcA (wb b);have w:=qW x;have f:=(List.getElem?_eq_some_iff.1 b).1;have e:yw (qep l i) i x=qep l (i+1):=by rw[qd8,qtf b]
   have o:yw (qep l (i+1)) i x=qep l (i+1):=by rw[qd8,qHv b]
   have g:qe (qep l (i+1)) i=some x:=by rw[yd,qIY b]
   refine waG h (waF r (waC (qGn x (by omega)) (waF (a:=zT) (by rw[yd,qLl f]) (waC (p (szL x.kids) (by unfold szL at *;omega) x.kids (wa _) (by unfold szL at *;omega)) ?_))));rw[e];refine waF g ?_;rw[show T.mk x.kind x.name x.sort x.kids=x from qk x,o,q];refine waD (λ c=>?_) λ c=>j;rw[ql]at c;have c:x.kids=[]:=wh (by omega);refine waF g ?_;rw[show T.mk x.kind x.name x.sort []=x from by rw[<-c];exact qk x,o];exact j)
 refine waG (by unfold qAC;rw[decide_eq_true_iff,kF];omega) ?_;refine waL (L:=λ m k=>qeb m (J7 m) k l l.length 0 (List.replicate (Int.toNat (l.length:Int)) (T.mk 0 [] 0 []))) ?_;refine(d 0 (we _)).congr λ m k=>?_;unfold qep;rw[xN,kF];rfl
theorem qNw(l:List T)(z:szL l<=900000):Ev (λ m _=>qsr m l) (qoJ l):=by
 have A:=j8 l;refine waK ?_;simp only[qH7,qjQ];unfold qoJ;refine waC (qJR l (by omega)) (waD (λ h=>?_) λ h=>?_)
 .rw[bnt,qj]at h;rw[if_pos h];exact waE _
 .rw[bnf,ql]at h;rw[if_neg (by omega)]
  have e:=qA (P:=λ i=>Ev (λ m k=>qee m k (((l.take i).map Qf).foldl zw []) l l.length i 0 [] 0 []) (if qS (qag (zZ l))≠0 then(zT,3)else(qag (zZ l),0))) l (by omega)
   (λ j=>by
    refine waJ ?_;simp only[qvJ,qjO,qk];refine waH j ?_;rw[wH];have b:=qei l;show Ev (λ m k=>qb (J7 m (zZ l)) _) _;have o:=j8 (zZ l)
    have c:∀u:T,u=qag (zZ l)->Ev (λ m _=>qb (zj m u) λ v=>cond (qg (ieq v 0)) (some (T.mk 0 [] 0 [],(3:Int))) (some (u,0))) (if qS (qag (zZ l))≠0 then(zT,3)else(qag (zZ l),0)):=by
     intro u p
     have y:size (qag (zZ l))<=1+szL (zZ l):=by
      unfold qag;split
      .rw[qW];show 1+0<=_;omega
      .split
       .rename_i _ d
        have:(zZ l).getD 0 zT∈zZ l:=by
         cases g:zZ l with
         |nil=>rw[g]at d;cases d
         |cons x r=>exact wi ..
        have:=qcA this;omega
       .rw[qW];exact wa _
     subst p;refine waC (qcR _ (by omega)) (waD (λ h=>?_) λ h=>?_)
     .rw[bnt,qj]at h;rw[if_pos h];exact waE _
     .rw[bnf,ql]at h;rw[if_neg (by omega)];exact waE _
    refine waC (qM7 _ (zZ l) (wa _) (by omega)) (waD (λ n=>?_) λ n=>?_)
    .rw[ql]at n;exact c _ (by unfold qag;rw[if_pos (by omega)];rfl)
    .rw[qj]at n;refine waD (λ b=>?_) λ b=>?_
     .rw[ql]at b;refine waF (a:=(zZ l).getD 0 zT) ?_ (c _ (by unfold qag;rw[if_neg (by omega),if_pos (by omega)]));rw[JZ,List.getD_eq_getElem?_getD];cases g:zZ l with
      |nil=>rw[g]at b;simp at b
      |cons x r=>rfl
     .rw[qj]at b;exact c _ (by unfold qag;rw[if_neg (by omega),if_neg (by omega)];rfl))
   (λ i x f B j t s w=>by
    refine waJ ?_;simp only[qvJ,qjO,qk];have q:=wb f;have b:=qcA q;have o:=qei (l.take i);have D:=Jl f;have C:=qln x;refine waG j (waF t (waC (qLN x (by omega)) (waC (qBv _ _ ?_) ?_)))
    .unfold zZ at o;omega
    .rw[s];refine w.congr λ m k=>?_;rw[qj5 f])
  refine waL (L:=λ m k=>qee m k [] l l.length 0 0 [] 0 []) ?_;exact e 0 (we _)
end Go.AmZ
namespace Go.AmZ
open Go Go.GxZ
theorem qPk(l:List T)(t:T)(j:szL l+size t<=1000000000):Ev (λ m _=>qmy m l t) (l.any λ x=>js x t):=by
 have n:=j8 l;refine waK ?_;simp only[qEj,qg8]
 have a:=qA (P:=λ i=>Ev (λ m k=>qbY m k l i t.kind t.name t.sort t.kids) ((l.drop i).any λ x=>js x t)) l (by omega)
  (λ b=>by
   refine waJ ?_;simp only[qqH,qgT];refine waH b (waI ?_);rw[wX];rfl)
  (λ i x c f b e d g=>by
   refine waJ ?_;simp only[qqH,qgT,qk];have o:=qcA (wb c);rw[f,wad,show T.mk t.kind t.name t.sort t.kids=t from qk t];refine waG b (waF e (waC (qgi x t (by omega) (by omega)) (waD (λ h=>?_) λ h=>?_)))
   .rw[h];exact waE _
   .rw[h,d];exact g)
 refine waL (L:=λ m k=>qbY m k l 0 t.kind t.name t.sort t.kids) ?_;exact(a 0 (we _)).res (by rw[wP])
theorem qCQ(t:T):∀(l:List T) (s:List T×Bool),(l.foldl (JA t) s).1.length<=s.1.length+2*l.length
 |[],s=>by simp
 |x::l,s=>by
   have h:=qCQ t l (JA t s x)
   have:(JA t s x).1.length<=s.1.length+2:=by
    unfold JA;split
    .simp only[wd,wz,wZ];split<;>simp
    .simp
   rw[ky,wz];omega
theorem qOC(l:List T)(t:T)(r:szL l+size t<=1000000000):Ev (λ m _=>qmf m l t) (qyp l t):=by
 have u:=j8 l;refine waK ?_;simp only[qD8,qhm]
 have d:∀i,((l.take i).foldl (JA t) ([],false)).1.length<=2*l.length:=λ i=>by
  have:=qCQ t (l.take i) ([],false);have q:(l.take i).length<=l.length:=by rw[wk];omega
  simp only[wZ]at this;omega
 have g:=qA (P:=λ i=>Ev (λ m k=>qb1 m k l ((l.take i).foldl (JA t) ([],false)).2 i t.kind t.name t.sort t.kids ((l.take i).foldl (JA t) ([],false)).1) (qyp l t)) l (by omega)
  (λ j=>by
   refine waJ ?_;simp only[qq9,qhC];refine waH j ?_;rw[wH];unfold qyp;have:=d l.length;rw[wH]at this;refine waD (λ h=>?_) λ h=>?_
   .rw[bnt]at h;rw[if_neg (by rw[h];decide),show T.mk t.kind t.name t.sort t.kids=t from qk t];exact waG (zh (by omega) (by omega)) (waE _)
   .rw[bnf]at h;rw[if_pos h];exact waE _)
  (λ i x n v j f o a=>by
   refine waJ ?_;simp only[qq9,qhC,qk];have w:=qcA (wb n);have q:=d i
   have e:(l.take (i+1)).foldl (JA t) ([],false)=JA t ((l.take i).foldl (JA t) ([],false)) x:=by
    rw[kE,n,xL];rfl
   rw[e]at a;generalize (l.take i).foldl (JA t) ([],false)=s at *;rw[show T.mk t.kind t.name t.sort t.kids=t from qk t,o];refine waG j (waF f (waC (qip t (by omega) x (by omega)) (waD (λ h=>?_) λ h=>?_)))
   .rw[bnt]at h;refine waD (λ c=>?_) λ c=>?_
    .rw[qbi]at c;unfold JA at a;rw[if_pos ⟨h,c⟩]at a;refine waD (λ b=>?_) λ b=>?_
     .rw[qz]at b;rw[if_pos b]at a;exact waG (zh (by omega) (by omega)) (waF f (waG (zh (by rw[wd];simp only[wz,wZ];omega) (by omega)) a))
     .rw[qw]at b;rw[if_neg (by omega),wy]at a;exact waF f (waG (zh (by omega) (by omega)) a)
    .rw[J8]at c;unfold JA at a;rw[if_neg (by omega)]at a;exact waF f (waG (zh (by omega) (by omega)) a)
   .rw[bnf]at h;unfold JA at a;rw[if_neg (by rw[h];intro p;cases p.1)]at a;exact waF f (waG (zh (by omega) (by omega)) a))
 refine waL (L:=λ m k=>qb1 m k l false 0 t.kind t.name t.sort t.kids []) ?_;exact g 0 (we _)
theorem qPF(l:List T)(t:T)(f:szL l+size t<=1000000000):Ev (λ m _=>qhx m l t) (qhW l t):=by
 have n:=j8 l;refine waK ?_;simp only[qxT,qdS,qk];unfold qhW;refine waC (qPk l t f) (waD (λ h=>?_) λ h=>?_)
 .rw[bnt]at h;rw[if_neg (by rw[h];decide)];exact waC (qOC l t f) (waE _)
 .rw[bnf]at h;rw[if_pos h]
  have b:=qA (P:=λ i=>Ev (λ m k=>JF m k l i t.kind t.name t.sort t.kids ((l.take i).filter λ x => !js x t)) (l.filter λ x => !js x t)) l (by omega)
   (λ c=>by
    refine waJ ?_;simp only[qlB,qdL];refine waH c ?_;rw[wH];exact waE _)
   (λ i x d o c g j a=>by
    refine waJ ?_;simp only[qlB,qdL,qk];have q:=qcA (wb d);have p:((l.take i).filter λ x => !js x t).length<=l.length:=wE (vR _ _) (by rw[wk];omega);rw[kE,d,wab]at a;rw[show T.mk t.kind t.name t.sort t.kids=t from qk t,j];refine waG c (waF g (waC (qgi x t (by omega) (by omega)) (waD (λ h=>?_) λ h=>?_)))
    .rw[bnt]at h;have e:(Option.some x).toList.filter (λ x => !js x t)=[x]:=by show[x].filter _=_;simp[h]
     rw[e]at a;exact waF g (waG (zh (by omega) (by omega)) a)
    .rw[bnf]at h;have e:(Option.some x).toList.filter (λ x => !js x t)=[]:=by show[x].filter _=_;simp[h]
     rw[e,wy]at a;exact a)
  refine waL (L:=λ m k=>JF m k l 0 t.kind t.name t.sort t.kids []) ?_;exact b 0 (we _)
theorem qEt(t:T):∀l:List T,szL (qgP l t)<=szL l+size t
 |[]=>by rw[qgP,zf];omega
 |x::l=>by
   have:=qEt t l;rw[qgP];split
   .rw[zf,zf];omega
   .split
    .omega
    .rw[zf,zf];omega
theorem qzz(p:T->Bool):∀l:List T,szL (l.filter p)<=szL l
 |[]=>wa _
 |x::l=>by
   have:=qzz p l;rw[List.filter_cons];split
   .rw[zf,zf];omega
   .rw[zf];omega
theorem qMH(l:List T)(t:T):szL (qhW l t)<=szL l+size t:=by
 unfold qhW;split
 .exact wE (qzz _ l) (by omega)
 .rw[qDD];exact qEt t l
theorem qwK:∀(b a:List T),szL (b.foldl qhW a)<=szL a+szL b
 |[],a=>by simp[szL]
 |x::b,a=>by
   have d:=qwK b (qhW a x);have c:=qMH a x;rw[ky,zf];omega
theorem qDj(a b:List T)(n:szL a+szL b<=1000000000):Ev (λ m _=>qgM m a b) (qjF a b):=by
 have t:=j8 a;have s:=j8 b;refine waK ?_;simp only[qCE,qfV]
 have d:=qA (P:=λ i=>Ev (λ m k=>J1 m k b ((b.take i).foldl qhW a) i) (qjF a b)) b (by omega)
  (λ e=>by
   refine waJ ?_;simp only[qpJ,qfU];refine waH e ?_;rw[wH];exact waE _)
  (λ i x f o e l j g=>by
   refine waJ ?_;simp only[qpJ,qfU,qk];have q:=Jl f;have p:=qwK (b.take i) a;rw[kE,f,xL]at g;refine waG e (waF l (waC (qPF _ x (by omega)) ?_));rw[j];exact g)
 refine waG (zh (by simp only[wZ];omega) (by omega)) ?_;have c:Ev (λ m _=>J1 m m b a 0) (qjF a b):=waL (L:=λ m k=>J1 m k b a 0) (d 0 (we _));exact Ev.case (λ h=>by rw[h]at c |-;exact c) λ x r h=>by rw[h]at c |-;exact c
theorem qJ2(t:T):size t<=1000000000->Ev (λ m _=>ya m t) (Qf t):=by
 induction t using T.ind with
 |h t w=>
   intro F;have v:=yR t;have E:=qW t;refine waK ?_;simp only[quy,qch,qk]
   have q:=qA (P:=λ i=>Ev (λ m k=>jX m (ya m) k (((t.kids.take i).map Qf).foldl zw []) i t.kind t.name t.sort t.kids) ((t.kids.map Qf).foldl zw [])) t.kids (by omega)
    (λ s=>by
     refine waJ ?_;simp only[qjn,qcj];refine waH s ?_;rw[wH];exact waE _)
    (λ i x c G s A y C=>by
     refine waJ ?_;simp only[qjn,qcj,qk];have u:=wb c;have I:=jN t x u;have D:=qei (t.kids.take i);have f:=Jl c;have H:=qln x
     have B:Asc (((t.kids.take i).map Qf).foldl zw []):=qhr _ _ List.Pairwise.nil λ l v=>by
      obtain⟨k,_,rfl⟩:=wA.1 v;exact qlV k
     refine waG s (waF A (waC (w x u (by omega)) (waC (qDj _ _ ?_) ?_)))
     .unfold zZ at D;unfold szL at *;omega
     .rw[y,qBf B (qlV x)];refine C.congr λ m k=>?_;rw[qj5 c])
   have g:Ev (λ m _=>jX m (ya m) m [] 0 t.kind t.name t.sort t.kids) ((t.kids.map Qf).foldl zw []):=
    waL (L:=λ m k=>jX m (ya m) k [] 0 t.kind t.name t.sort t.kids) (q 0 (we _))
   rw[qkE];by_cases f:t.kind=3
   .have p:ieq t.kind 3=true:=ql.2 f;have o:qg (ieq t.kind 3)=false:=bnf.2 p;refine waG p ?_;refine waD (λ e=>?_) λ e=>?_
    .rw[jo]at e;have a:isN t qcc=true:=yP.2 ⟨f,e⟩
     have d:isN t qcD=false:=by
      rw[<-kh,yP];rintro⟨_,h⟩;rw[e]at h;exact absurd h (by decide)
     refine waD (λ b=>?_) λ b=>?_
     .rw[ql]at b;have b:t.kids=[]:=wh (by omega);rw[a,b];exact waE _
     .rw[qj]at b
      have b:t.kids.isEmpty=false:=by
       cases z:t.kids with
       |nil=>rw[z]at b;exact absurd rfl b
       |cons _ _=>rfl
      rw[a,b,d];exact waH o (waG (by rw[e];rfl) (waE _))
    .have r:=Qa.1 e
     have a:isN t qcc=false:=by
      rw[<-kh,yP];rintro⟨_,h⟩;exact r h
     rw[a];refine waH o (waD (λ c=>?_) λ c=>?_)
     .have d:isN t qcD=false:=by
        rw[<-kh,yP];rintro⟨_,h⟩;exact Qa.1 (bnt.1 c) h
      rw[d];exact waE _
     .rw[show isN t qcD=true from yP.2 ⟨f,jo.1 (bnf.1 c)⟩];exact g
   .have p:ieq t.kind 3=false:=qj.2 f
    have j:∀n,isN t n=false:=λ n=>by
     rw[<-kh,yP];rintro⟨h,_⟩;exact f h
    rw[j,j];exact waH p (waG (bnt.2 p) (waE _))
theorem qFY:qS (apT qcc [])=0:=by
 unfold qS;rw[qiY,qW,qkf];have:jK (apT qcc [])=0:=by decide
 show(if jK (apT qcc [])≠0 then jK (apT qcc [])else _)=0;rw[this];rfl
theorem qF5(l:List T)(n:szL l<=100000000):Ev (λ m _=>qio m l (apT qcc [])) (qm8 l):=by
 have o:=j8 l;refine waK ?_;simp only[qzQ,qeI];unfold qm8;refine waD (λ h=>?_) λ h=>?_
 .rw[qz]at h;rw[if_pos (by omega)];exact waE _
 .rw[qw]at h;rw[if_neg (by omega)]
  have b:=qA (P:=λ i=>Ev (λ m k=>qac m k l i 3 qcc 0 []) (((l.drop i).map qS).foldl thn 0)) l (by omega)
   (λ c=>by
    refine waJ ?_;simp only[qm6,qeZ];refine waH c ?_;rw[wX];refine waC (qcS (T.mk 3 qcc 0 []) (by rw[qW];show 1+0<=_;omega)) ?_;exact waI qFY)
   (λ i x d g c f e j=>by
    refine waJ ?_;simp only[qm6,qeZ,qk];have p:=qcA (wb d);rw[qrn g];refine waG c (waF f (waC (qcS x (by omega)) (waD (λ a=>?_) λ a=>?_)))
    .rw[bnt,qj]at a;rw[if_pos a];exact waE _
    .rw[bnf,ql]at a;rw[if_neg (by omega),e];exact j)
  refine waL (L:=λ m k=>qac m k l 0 3 qcc 0 []) ?_;exact(b 0 (we _)).res (by rw[wP])
theorem qFC(l:List T):size (qag l)<=1+szL l:=by
 unfold qag;split
 .rw[qW];show 1+0<=_;omega
 .split
  .rename_i _ a
   have:l.getD 0 zT∈l:=by
    cases l with
    |nil=>cases a
    |cons x r=>exact wi ..
   have:=qcA this;omega
  .rw[qW];exact wa _
theorem qI0(l:List T)(d:szL l<=1000000000):Ev (λ m _=>qj1 m l) (qag l):=by
 have e:=j8 l;refine waK ?_;simp only[qCu,qi5,qk];unfold qag;refine waD (λ c=>?_) λ c=>?_
 .rw[ql]at c;rw[if_pos (by omega)];exact waC (qeQ _ [] (by simp)) (waE _)
 .rw[qj]at c;rw[if_neg (by omega)];refine waD (λ b=>?_) λ b=>?_
  .rw[ql]at b;rw[if_pos (by omega)];refine waF (a:=l.getD 0 zT) ?_ (waE _);rw[JZ,List.getD_eq_getElem?_getD];cases l with
   |nil=>simp at b
   |cons x r=>rfl
  .rw[qj]at b;rw[if_neg (by omega)];exact waG (zh (by simp only[wZ];omega) (by omega)) (Ev.case (λ h=>waI (by rw[h];rfl)) λ x r h=>waI (by rw[h];rfl))
theorem qNF(l:List T)(q:szL l<=900000):Ev (λ m _=>qmu m l) (qoJ l):=by
 have d:=j8 l;refine waK ?_;simp only[qDZ,qhi];unfold qoJ
 have z:Ev (λ m _=>qjB m) (apT qcc []):=by
  refine waK ?_;simp only[qBz,qi0,qk];exact waC (qeQ _ [] (by simp)) (waE _)
 refine waC z ?_;rw[qk];refine waC (qF5 l (by omega)) (waD (λ h=>?_) λ h=>?_)
 .rw[bnt,qj]at h;rw[if_pos h];exact waE _
 .rw[bnf,ql]at h;rw[if_neg (by omega)]
  have a:=qA (P:=λ i=>Ev (λ m k=>qb0 m k l (((l.take i).map Qf).foldl zw []) i 0 [] 0 []) (if qS (qag (zZ l))≠0 then(zT,3)else(qag (zZ l),0))) l (by omega)
   (λ c=>by
    refine waJ ?_;simp only[qqJ,qhh,qk];refine waH c ?_;rw[wH];have p:=qei l;have e:=qFC (zZ l);refine waC (qI0 (zZ l) (by omega)) (waC (qcS _ (by omega)) (waD (λ h=>?_) λ h=>?_))
    .rw[bnt,qj]at h;rw[if_pos h];exact waE _
    .rw[bnf,ql]at h;rw[if_neg (by omega)];exact waE _)
   (λ i x b r c j g o=>by
    refine waJ ?_;simp only[qqJ,qhh,qk];have f:=wb b;have p:=qcA f;have e:=qei (l.take i);have t:=Jl b;have s:=qln x
    have n:Asc (((l.take i).map Qf).foldl zw []):=qhr _ _ List.Pairwise.nil λ l d=>by
     obtain⟨k,_,rfl⟩:=wA.1 d;exact qlV k
    refine waG c (waF j (waC (qJ2 x (by omega)) (waC (qDj _ _ ?_) ?_)))
    .unfold zZ at e;omega
    .rw[g,qBf n (qlV x)];refine o.congr λ m k=>?_;rw[qj5 b])
  refine waL (L:=λ m k=>qb0 m k l [] 0 0 [] 0 []) ?_;exact a 0 (we _)
end Go.AmZ
namespace Go.GxZ
def qgg(l:List Pw):Prop:=Asc (l.map (·.1))
def NzP(l:List Pw):Prop:=∀p∈l,p.2≠0
theorem qgw{p:Pw}{l:List Pw}:qgg (p::l)↔(∀q∈l,qs p.1 q.1=-1)/\qgg l:=by
 unfold qgg;rw[wv,qaJ];simp
theorem qew{p:Pw}{l:List Pw}:NzP (p::l)↔p.2≠0/\NzP l:=by
 unfold NzP;simp
def QZ(l:List Pw):Nat:=(l.map λ p=>p.2.natAbs).sum
theorem qoY:∀(l:List Pw) (t:T) (n:Int) (p:Pw),p∈yG l t n->p.1=t\/p∈l
 |[],t,n,p,h=>by simp[yG]at h;exact .inl (by rw[h])
 |(x,m)::l,t,n,p,h=>by
   rw[yG]at h;split at h
   .obtain h|h:=wx.1 h
    .exact .inl (by rw[h])
    .exact .inr h
   .split at h
    .rename_i a;split at h
     .exact .inr (wg _ h)
     .obtain h|h:=wx.1 h
      .left;rw[h];exact(qaF t x a).symm
      .exact .inr (wg _ h)
    .obtain h|h:=wx.1 h
     .exact .inr (h▸wi ..)
     .obtain h|h:=qoY l t n p h
      .exact .inl h
      .exact .inr (wg _ h)
theorem qC3:∀(l:List Pw) (t:T) (n:Int),qgg l->qgg (yG l t n)
 |[],_,_,_=>vB _ _
 |(x,m)::l,t,n,h=>by
   let⟨d,c⟩:=qgw.1 h;rw[yG];have f:=yg.rng t x;split
   .rename_i b;refine qgw.2 ⟨λ q a=>?_,h⟩;obtain e|a:=wx.1 a
    .rw[e];exact b
    .exact qeR b (d q a)
   .split
    .split
     .exact c
     .exact qgw.2 ⟨d,c⟩
    .refine qgw.2 ⟨λ q a=>?_,qC3 l t n c⟩;obtain e|a:=qoY l t n q a
     .rw[e];exact qyf.1 (show qs t x=1 by omega)
     .exact d q a
theorem qFs:∀(l:List Pw) (t:T) (n:Int),NzP l->n≠0->NzP (yG l t n)
 |[],_,_,_,a=>by intro p c;simp[yG]at c;rw[c];exact a
 |(x,m)::l,t,n,h,a=>by
   let⟨d,b⟩:=qew.1 h;rw[yG];split
   .exact qew.2 ⟨a,h⟩
   .split
    .split
     .exact b
     .exact qew.2 ⟨by assumption,b⟩
    .exact qew.2 ⟨d,qFs l t n b a⟩
theorem qus:∀(l:List Pw) (t:T) (n:Int),QZ (yG l t n)<=QZ l+n.natAbs
 |[],t,n=>by simp[yG,QZ]
 |(x,m)::l,t,n=>by
   have a:=qus l t n;unfold QZ at a |-
   rw[yG];split
   .simp only[wv,kQ];omega
   .split
    .split
     .simp only[wv,kQ];omega
     .simp only[wv,kQ];omega
    .simp only[wv,kQ];omega
theorem qtQ:∀(l:List Pw) (t:T) (n:Int),(yG l t n).length<=l.length+1
 |[],t,n=>by simp[yG]
 |(x,m)::l,t,n=>by
   have a:=qtQ l t n;rw[yG];split
   .simp
   .split
    .split
     .simp;omega
     .simp
    .simp only[wz];omega
theorem qBD(l:List Pw)(p:Pw)(h:p∈l):p.2.natAbs<=QZ l:=by
 unfold QZ
 induction l with
 |nil=>cases h
 |cons q l a=>
   simp only[wv,kQ];obtain e|h:=wx.1 h
   .rw[e];omega
   .have:=a h;omega
def ja(t:T)(n:Int)(s:List Pw×Bool)(p:Pw):List Pw×Bool:=
 ((if s.2=false/\qs t p.1<0 then s.1++[(t,n)]else s.1)++(if(if qs t p.1=0 then p.2+n else p.2)=0 then[]else[(p.1,if qs t p.1=0 then p.2+n else p.2)]),
   s.2||decide (qs t p.1<=0))
def qFV(l:List Pw)(t:T)(n:Int):List Pw:=if(l.foldl (ja t n) ([],false)).2 then(l.foldl (ja t n) ([],false)).1 else(l.foldl (ja t n) ([],false)).1++[(t,n)]
theorem qpa(t:T)(n:Int):∀(l a:List Pw),NzP l->(∀q∈l,qs t q.1=-1)->l.foldl (ja t n) (a,true)=(a++l,true)
 |[],a,_,_=>by simp
 |(x,m)::l,a,h,k=>by
   let⟨c,f⟩:=qew.1 h;have b:=k _ (wi ..);simp only at b c;have e:ja t n (a,true) (x,m)=(a++[(x,m)],true):=by simp[ja,b,c]
   rw[ky,e,qpa t n l _ f λ q d=>k q (wg _ d)];simp
theorem qs7(t:T)(n:Int):∀(l a:List Pw),NzP l->qgg l->(if(l.foldl (ja t n) (a,false)).2 then(l.foldl (ja t n) (a,false)).1 else(l.foldl (ja t n) (a,false)).1++[(t,n)])=a++yG l t n
 |[],a,_,_=>by simp[yG]
 |(x,m)::l,a,h,k=>by
   let⟨i,g⟩:=qew.1 h;let⟨d,o⟩:=qgw.1 k;simp only at i d;have s:=yg.rng t x;rw[ky,yG];by_cases c:qs t x=-1
   .have e:ja t n (a,false) (x,m)=(a++[(t,n)]++[(x,m)],true):=by simp[ja,c,i]
    rw[e,qpa t n l _ g λ q f=>qeR c (d q f),if_pos c];simp
   .by_cases b:qs t x=0
    .have e:ja t n (a,false) (x,m)=(a++(if m+n=0 then[]else[(x,m+n)]),true):=by simp[ja,b]
     have ex:=qaF t x b;rw[e,qpa t n l _ g λ q f=>by rw[ex];exact d q f,if_neg c,if_pos b];by_cases j:m+n=0
     .simp[j]
     .simp[j]
    .have e:ja t n (a,false) (x,m)=(a++[(x,m)],false):=by
       have r:¬ qs t x<0:=by omega
       have p:¬ qs t x<=0:=by omega
       simp[ja,r,p,b,i]
     rw[e,qs7 t n l _ g o,if_neg c,if_neg b];simp
theorem qJ7{l:List Pw}(h:NzP l)(k:qgg l)(t:T)(n:Int):qFV l t n=yG l t n:=by
 have:=qs7 t n l [] h k;simpa[qFV]using this
def JM(l:List Pw):Prop:=qgg l/\NzP l
theorem JM.nil:JM []:=⟨List.Pairwise.nil,λ _ h=>by cases h⟩
theorem JM.ins{l:List Pw}(h:JM l)(t:T){n:Int}(a:n≠0):JM (yG l t n):=⟨qC3 l t n h.1,qFs l t n h.2 a⟩
theorem qMF{t:T}{n:Int}(h:n≠0):qa1 t n≠0:=by unfold qa1;split<;>omega
theorem qL1(t:T)(n:Int):(qa1 t n).natAbs=n.natAbs:=by unfold qa1;split<;>omega
theorem qEY(a:List T)(n:Int)(P:List Pw->Prop)(h:∀k∈a,∀l,P l->P (jy k l n)):∀l,P l->P ((a.map jy).foldl (λ l f=>f l n) l):=by
 induction a with
 |nil=>intro l b;exact b
 |cons k a c=>intro l b;exact c (λ k d=>h k (wg _ d)) _ (h k (wi ..) l b)
theorem qIA(t:T):∀(l:List Pw) (n:Int),n≠0->JM l->JM (jy t l n):=by
 refine T.ind (P:=λ t=>∀(l:List Pw) (n:Int),n≠0->JM l->JM (jy t l n)) ?_ t;intro t b l n a h;rw[qgo];split
 .exact qEY t.kids (qa1 t n) JM (λ k d l c=>b k d l _ (qMF a) c) l h
 .exact h.ins t a
theorem qKw(t:T):∀(l:List Pw) (n:Int),QZ (jy t l n)<=QZ l+size t*n.natAbs/\(jy t l n).length<=l.length+size t:=by
 refine T.ind (P:=λ t=>∀(l:List Pw) (n:Int),QZ (jy t l n)<=QZ l+size t*n.natAbs/\(jy t l n).length<=l.length+size t) ?_ t;intro t g l n;rw[qgo,qW];split
 .have:∀(a:List T),(∀k∈a,k∈t.kids)->∀l,QZ ((a.map jy).foldl (λ l f=>f l (qa1 t n)) l)<=QZ l+(a.map size).sum*n.natAbs/\((a.map jy).foldl (λ l f=>f l (qa1 t n)) l).length<=l.length+(a.map size).sum:=by
    intro a
    induction a with
    |nil=>intro _ l;simp
    |cons k a b=>
      intro c l;have e:=g k (c k (wi ..)) l (qa1 t n);rw[qL1]at e;have d:=b (λ k i=>c k (wg _ i)) (jy k l (qa1 t n));simp only[wv,ky,kQ,wO]at d |-
      omega
  have:=this t.kids (λ _ h=>h) l;rw[wO];omega
 .have e:=qus l t n;have d:=qtQ l t n;rw[wO];omega
theorem qrz:∀(b a:List Pw),JM a->NzP b->JM (Q9 a b)
 |[],a,h,_=>h
 |p::b,a,h,k=>qrz b (yG a p.1 p.2) (h.ins p.1 (qew.1 k).1) (qew.1 k).2
theorem qt4:∀(b a:List Pw),QZ (Q9 a b)<=QZ a+QZ b/\(Q9 a b).length<=a.length+b.length
 |[],a=>by simp[Q9,QZ]
 |p::b,a=>by
   have f:=qt4 b (yG a p.1 p.2);have d:=qus a p.1 p.2;have c:=qtQ a p.1 p.2;have e:QZ (p::b)=p.2.natAbs+QZ b:=by simp[QZ]
   rw[show Q9 a (p::b)=Q9 (yG a p.1 p.2) b from rfl,e,wz];omega
def ixP:List Pw->T->Nat
 |[],_=>0
 |p::l,t=>if qs p.1 t=-1 then ixP l t+1 else 0
theorem qH4:∀(l:List Pw) (t:T),ixP l t<=l.length
 |[],_=>wa _
 |p::l,t=>by
   have:=qH4 l t;rw[ixP];split
   .simp;omega
   .omega
theorem qH1:∀(l:List Pw) (t:T) (i:Nat),i<=l.length->(∀k p,k<i->l[k]?=some p->qs p.1 t=-1)->(∀p,l[i]?=some p->qs p.1 t≠-1)->i=ixP l t
 |[],_,i,h,_,_=>by simp at h;rw[h];rfl
 |p::l,t,0,_,_,h=>by rw[ixP,if_neg (h p rfl)]
 |p::l,t,i+1,h,k,m=>by
   rw[ixP,if_pos (k 0 p (by omega) rfl)];rw[<-qH1 l t i (by simpa using h) (λ j q b a=>k (j+1) q (by omega) (by simpa using a)) (λ q a=>m q (by simpa using a))]
theorem qFk:∀(l:List Pw) (t:T) (n:Int) (x:T) (m:Int),l[ixP l t]?=some (x,m)->qs x t=0->
  yG l t n=if m+n=0 then l.take (ixP l t)++l.drop (ixP l t+1)else l.take (ixP l t)++[(x,m+n)]++l.drop (ixP l t+1)
 |[],_,_,_,_,h,_=>by simp at h
 |(y,k)::l,t,n,x,m,h,a=>by
   have d:=yg.anti y t;have b:=yg.rng y t;rw[ixP]at h;rw[yG,ixP];simp only at h |-
   by_cases c:qs y t=-1
   .rw[if_pos c]at h;rw[if_neg (by omega),if_neg (by omega),if_pos c,qFk l t n x m (by simpa using h) a];split<;>simp
   .rw[if_neg c]at h;simp at h;obtain⟨rfl,rfl⟩:=h;rw[if_neg (by omega),if_pos (by omega),if_neg c];split<;>simp
theorem qCh:∀(l:List Pw) (t:T) (n:Int),(∀p,l[ixP l t]?=some p->qs p.1 t≠0)->yG l t n=l.take (ixP l t)++[(t,n)]++l.drop (ixP l t)
 |[],_,_,_=>by simp[yG,ixP]
 |(y,k)::l,t,n,h=>by
   have d:=yg.anti y t;have b:=yg.rng y t;rw[ixP]at h;rw[yG,ixP];simp only at h |-
   by_cases c:qs y t=-1
   .rw[if_pos c]at h;rw[if_neg (by omega),if_neg (by omega),if_pos c,qCh l t n λ p a=>h p (by simpa using a)];simp
   .rw[if_neg c]at h;have:=h (y,k) rfl;simp only at this;rw[if_pos (by omega),if_neg c];simp
theorem qFA{l:List Pw}(h:qgg l){i j:Nat}{p q:Pw}(g:l[i]?=some p)(f:l[j]?=some q)(c:i<j):qs p.1 q.1=-1:=by
 unfold qgg Asc at h;rw[List.pairwise_iff_getElem]at h;let⟨e,d⟩:=List.getElem?_eq_some_iff.1 g;let⟨b,a⟩:=List.getElem?_eq_some_iff.1 f;have:=h i j (by simpa using e) (by simpa using b) c;simpa[d,a]using this
end Go.GxZ
namespace Go.AmZ
open Go Go.GxZ
theorem qEH(t:T):Ev (λ m _=>qbF m t) (qdb t):=by
 refine waK ?_;simp only[qsv,qey];unfold qdb;by_cases a:t.kind=3
 .refine waG (ql.2 a) (waD (λ h=>?_) λ h=>(waD (λ b=>?_) λ b=>?_))
  .rw[jo]at h;exact waI (by rw[a,h];rfl)
  .rw[jo]at b;exact waI (by rw[a,b];rfl)
  .rw[Qa]at h b
   exact waI (by
    have d:(t.name==qeA)=false:=by rw[beq_eq_false_iff_ne];exact h
    have c:(t.name==Jr)=false:=by rw[beq_eq_false_iff_ne];exact b
    rw[a,d,c];rfl)
 .exact waH (qj.2 a) (waI (by have:(t.kind==3)=false:=by rw[beq_eq_false_iff_ne];exact a
                              rw[this];rfl))
theorem qlT(t:T):size t<=100000000->Ev (λ m _=>zA m t) t:=by
 induction t using T.ind with
 |h t g=>
   intro o;have p:=yR t;refine waK ?_;simp only[quc,qcm]
   have a:zY 0 t.kids=some ((),t.kids,()):=by
    unfold zY;rw[show Nat.ble t.kids.length 100000000=true from xK (by omega)];rfl
   refine waF a ?_
   have b:=qA (P:=λ i=>Ev (λ m k=>QN m (zA m) k t.kids.length i t.kind t.name t.sort 0 [] 0 t.kids []) t) t.kids (by omega)
    (λ a=>by
     refine waJ ?_;simp only[qjz,qcf];exact waH a (waI (qk t)))
    (λ i x c q a f j l=>by
     refine waJ ?_;simp only[qjz,qcf,qk];have d:=wb c;have s:=jN t x d
     have e:yw t.kids (i:Int) x=t.kids:=by
      rw[qd8];let⟨r,n⟩:=List.getElem?_eq_some_iff.1 c;rw[<-n,List.set_getElem_self]
     refine waG a (waF f (waC (g x d (by omega)) (waF f ?_)));rw[e,j];exact l)
   refine waL (L:=λ m k=>QN m (zA m) k t.kids.length 0 t.kind t.name t.sort 0 [] 0 t.kids []) ?_;exact b 0 (we _)
theorem qN9(lo a:Nat)(h:lo+a<=1000000000):iw .i64 (qn8 .u64 (iw .u64 (iw .i64 (qf (lo:Int) (a:Int)))) 1)=(((lo+a)/2:Nat):Int):=by
 rw[qib,show iw .i64 ((lo+a:Nat):Int)=((lo+a:Nat):Int)from Qe (by omega),show iw .u64 ((lo+a:Nat):Int)=((lo+a:Nat):Int)from IntWalk.u64_in _ (by omega)]
 have:qn8 .u64 ((lo+a:Nat):Int) 1=(((lo+a)/2:Nat):Int):=by
  unfold qn8;show Int.fdiv _ 2=_;rw[Int.fdiv_eq_ediv_of_nonneg _ (by decide)];omega
 rw[this,Qe (by omega)]
def szP(l:List Pw):Nat:=(l.map λ p=>size p.1).sum
theorem qa3(p:Pw)(l:List Pw):szP (p::l)=size p.1+szP l:=by simp[szP]
theorem qco:∀l:List Pw,l.length<=szP l
 |[]=>we _
 |p::l=>by
   have:=qco l;have:=size_pos p.1;rw[qa3,wz];omega
theorem qeT:∀{l:List Pw}{p:Pw},p∈l->size p.1<=szP l
 |q::l,p,h=>by
   rw[qa3];obtain rfl|h:=wx.1 h
   .omega
   .have:=qeT h;omega
theorem qEA:∀(l:List Pw) (t:T) (n:Int),szP (yG l t n)<=szP l+size t
 |[],t,n=>by rw[yG,qa3];show size t+0<=0+size t;omega
 |(x,m)::l,t,n=>by
   have:=qEA l t n;rw[yG];split
   .rw[qa3,qa3];show size t+(size x+_)<=size x+_+size t;omega
   .split
    .split
     .rw[qa3];show _<=size x+_+_;omega
     .rw[qa3,qa3];show size x+_<=size x+_+_;omega
    .rw[qa3,qa3];show size x+_<=size x+_+_;omega
theorem qBT(p:Pw)(t:T)(b:size p.1<=1000000000)(a:size t<=1000000000):Ev (λ m _=>qal m p t) (qs p.1 t):=by
 refine waK ?_;simp only[qpP,qdc,qk];exact waC (qdB _ b _ a) (waE _)
def qtW(l:List Pw)(t:T):Bool:=match l[Go.GxZ.ixP l t]? with
 |some p=>ieq (qs p.1 t) 0
 |none=>false
theorem qMT{l:List Pw}(y:qgg l)(t:T)(D:szP l+size t<=100000000):∀(d lo c:Nat),c<=lo+d->lo<=c->c<=l.length->(∀k p,k<lo->l[k]?=some p->qs p.1 t=-1)->(∀k p,c<=k->l[k]?=some p->qs p.1 t≠-1)->
  Ev (λ m k=>qr m k l l.length lo c t.kind t.name t.sort t.kids) ((Go.GxZ.ixP l t:Int),qtW l t):=by
 have E:=qco l;intro d
 induction d with
 |zero=>
   intro lo c C z r o n;have:lo=c:=by omega
   subst this;have w:=qH1 l t lo r o (λ p g=>n lo p (wa _) g);subst w;refine waJ ?_;simp only[yu,qH,qk];rw[show T.mk t.kind t.name t.sort t.kids=t from qk t];refine waH (qw.2 (vk _)) (waD (λ h=>?_) λ h=>?_)
   .rw[qz]at h;have i:Go.GxZ.ixP l t<l.length:=by omega
    obtain⟨p,e⟩:∃p,l[Go.GxZ.ixP l t]?=some p:=⟨_,List.getElem?_eq_getElem i⟩
    have v:=qeT (wb e);refine waF (a:=p) (by rw[yd,e]) (waC (qBT (p.1,p.2) _ (wE v (by omega)) (by omega)) (waI ?_));unfold qtW;rw[e]
   .rw[qw]at h;refine waI ?_;unfold qtW;rw[List.getElem?_eq_none (by omega)]
 |succ d s=>
   intro lo c C z r o n;by_cases F:lo=c
   .exact s lo c (by omega) z r o n
   refine waJ ?_;simp only[yu,qH,qk];rw[show T.mk t.kind t.name t.sort t.kids=t from qk t,qN9 lo c (by omega)];have A:(lo+c)/2<c:=by omega
   have u:lo<=(lo+c)/2:=by omega
   generalize (lo+c)/2=b at *;have i:b<l.length:=by omega
   obtain⟨p,e⟩:∃p,l[b]?=some p:=⟨_,List.getElem?_eq_getElem i⟩
   have v:=qeT (wb e);refine waG (qz.2 (by omega)) (waF (a:=p) (by rw[yd,e]) (waC (qBT (p.1,p.2) _ (wE v (by omega)) (by omega)) (waD (λ f=>?_) λ f=>?_)))
   .rw[qz]at f;have f:qs p.1 t<0:=f;have f:qs p.1 t=-1:=by obtain h|h|h:=yg.rng p.1 t<;>omega
    rw[show qf ((b:Nat):Int) 1=((b+1:Nat):Int)from by unfold qf;omega,Qe (by omega)];refine s (b+1) c (by omega) (by omega) r (λ k q B g=>?_) n;by_cases j:k=b
    .subst j;rw[e]at g;cases g;exact f
    .exact yg.trans _ _ _ (qFA y g e (by omega)) f
   .rw[qw]at f;have f:0<=qs p.1 t:=f;refine s lo b (by omega) u (by omega) o (λ k q B g=>?_);by_cases j:k=b
    .subst j;rw[e]at g;cases g;omega
    .intro x;have:=yg.trans _ _ _ (qFA y e g (by omega)) x;omega
theorem qPL{l:List Pw}(d:qgg l)(t:T)(c:szP l+size t<=100000000):Ev (λ m _=>qM m l t) ((Go.GxZ.ixP l t:Int),qtW l t):=by
 refine waK ?_;simp only[Q4,qG];refine waL (L:=λ m k=>qr m k l l.length 0 l.length t.kind t.name t.sort t.kids) ?_;exact qMT d t c l.length 0 l.length (by omega) (we _) (wa _) (λ k p b=>by omega) (λ k p b a=>by rw[List.getElem?_eq_none b]at a;cases a)
theorem qwG{l:List Pw}(r:qgg l)(t:T)(n:Int)(u:szP l+size t<=90000000)(g:l.length<=90000)(v:QZ l+n.natAbs<=1000000000000):Ev (λ m _=>qbC m l (t,n)) ((),yG l t n,()):=by
 have w:=qco l;have q:=qH4 l t;refine waK ?_;simp only[qsz,qem,qk];refine waC (qPL r t (by omega)) (waD (λ h=>?_) λ h=>?_)
 .rw[bnt]at h;refine waC (qlT t (by omega)) ?_
  have i:zH 0 l (Go.GxZ.ixP l t:Int) [(re t,n)]=some ((),yG l t n,()):=by
   unfold zH;rw[show inb (Go.GxZ.ixP l t:Int) l.length=true from by unfold inb;rw[decide_eq_true_iff];omega,show Nat.ble l.length 100000=true from xK (by omega)]
   rw[qCh l t n λ p j f=>by
    unfold qtW at h;simp only[j]at h;rw[qj]at h;exact h f]
   rw[kF,qk,wj];rfl
  rw[qk]at i;refine waF i (waE _)
 .rw[bnf]at h;cases b:l[Go.GxZ.ixP l t]? with
  |none=>unfold qtW at h;simp only[b]at h;cases h
  |some p=>
    let⟨x,k⟩:=p
    have f:qs x t=0:=by
     unfold qtW at h;simp only[b]at h;exact ql.1 h
    have o:=qBD l _ (wb b);have d:Go.GxZ.ixP l t<l.length:=(List.getElem?_eq_some_iff.1 b).1;simp only at o
    have e1:iw .i64 (qf k n)=k+n:=by
     unfold qf;exact Qe (by omega)
    have e:qe (yw l (Go.GxZ.ixP l t:Int) (x,k+n)) (Go.GxZ.ixP l t:Int)=some (x,k+n):=by
     rw[qd8,yd,List.getElem?_set_self d]
    have a:l.set (Go.GxZ.ixP l t) (x,k+n)=l.take (Go.GxZ.ixP l t)++[(x,k+n)]++l.drop (Go.GxZ.ixP l t+1):=by
     rw[vF,if_pos d,wj];rfl
    refine waF (by rw[yd,b]) (waF (by rw[yd,b]) ?_);simp only[qk,e1];refine waF e ?_;rw[qFk l t n x k b f];refine waD (λ c=>?_) λ c=>?_
    .rw[ql]at c;rw[if_pos c]
     have s:zG 0 (yw l (Go.GxZ.ixP l t:Int) (x,k+n)) (Go.GxZ.ixP l t:Int) (iw .i64 (qf (Go.GxZ.ixP l t:Int) 1))=some ((),l.take (Go.GxZ.ixP l t)++l.drop (Go.GxZ.ixP l t+1),()):=by
      rw[show qf (Go.GxZ.ixP l t:Int) 1=((Go.GxZ.ixP l t+1:Nat):Int)from by unfold qf;omega,Qe (by omega),qd8];unfold zG
      rw[wI,show inb ((Go.GxZ.ixP l t+1:Nat):Int) l.length=true from by unfold inb;rw[decide_eq_true_iff];omega,show inb (Go.GxZ.ixP l t:Int) l.length=true from by unfold inb;rw[decide_eq_true_iff];omega,
       show ieq ((Go.GxZ.ixP l t+1:Nat):Int) (qf (Go.GxZ.ixP l t:Int) 1)=true from ql.2 (by unfold qf;omega),show Nat.ble l.length 100000=true from xK (by omega)]
      rw[kF,vl (wa _),vW (by omega)];rfl
     exact waF s (waE _)
    .rw[qj]at c;rw[if_neg c];refine waI ?_;rw[qd8,a]
end Go.AmZ
namespace Go.GxZ
open Go.RowKit
theorem qCt(q:Option T)(p:Pw):pvK q p=if qS p.1≠0 then qS p.1 else if qdb p.1 then 1 else if p.2=0\/p.2 < -1000\/1000<p.2 then 7 else match q with|some x=>if 0<=qs x p.1 then 5 else 0|none=>0:=rfl
theorem qB1:∀(l:List Pw) (q:Option T),pvL q l=0->qgg l/\(∀p∈l,p.2≠0/\p.2.natAbs<=1000)/\(∀x,q=some x->∀p∈l,qs x p.1=-1)/\(∀p∈l,qS p.1=0/\qdb p.1=false)
 |[],q,_=>⟨List.Pairwise.nil,(λ _ h=>by cases h),(λ _ _ _ h=>by cases h),(λ _ h=>by cases h)⟩
 |p::l,q,h=>by
   rw[pvL]at h;unfold thn at h;split at h
   rotate_left
   .rename_i b;exact absurd h b
   .rename_i b;have j:=qCt q p;let⟨i,g,i3,f⟩:=qB1 l (some p.1) h;rw[j]at b;split at b
    .rename_i e;exact absurd b e
    rename_i e;split at b
    .cases b
    rename_i k;split at b
    .cases b
    rename_i n
    have d:∀x,q=some x->qs x p.1=-1:=λ x c=>by
     subst c;simp only at b;split at b
     .cases b
     .rename_i m;obtain h|h|h:=yg.rng x p.1<;>omega
    refine⟨qgw.2 ⟨λ r a=>i3 _ rfl r a,i⟩,λ r a=>?_,λ x c r a=>?_,λ r a=>?_⟩
    .obtain rfl|a:=wx.1 a
     .omega
     .exact g r a
    .obtain rfl|a:=wx.1 a
     .exact d x c
     .exact qeR (d x c) (by have:=i3 _ rfl r a;omega)
    .obtain rfl|a:=wx.1 a
     .exact⟨by omega,by simpa using k⟩
     .exact f r a
theorem qbN{l:List Pw}(h:Jt l=0):JM l/\l.length<=200/\(∀p∈l,p.2.natAbs<=1000)/\(∀p∈l,qS p.1=0/\qdb p.1=false):=by
 unfold Jt at h;split at h
 .cases h
 .obtain⟨d,b,-,c⟩:=qB1 l none h;exact⟨⟨d,λ p a=>(b p a).1⟩,by omega,λ p a=>(b p a).2,c⟩
theorem qnC(k:Nat):∀(l:List Pw),(∀p∈l,p.2.natAbs<=k)->QZ l<=l.length*k
 |[],_=>by simp[QZ]
 |p::l,h=>by
   have c:=qnC k l λ q a=>h q (wg _ a);have b:=h p (wi ..);have e:QZ (p::l)=p.2.natAbs+QZ l:=rfl;rw[e,wz,wO];omega
theorem qui:∀(b a:List Pw) (p:Pw),p∈Q9 a b->(∃q∈a,q.1=p.1)\/∃q∈b,q.1=p.1
 |[],a,p,h=>.inl ⟨p,h,rfl⟩
 |r::b,a,p,h=>by
   obtain⟨q,c,e⟩|⟨q,c,e⟩:=qui b (yG a r.1 r.2) p h
   .obtain d|d:=qoY a r.1 r.2 q c
    .exact .inr ⟨r,wi ..,by rw[<-d];exact e⟩
    .exact .inl ⟨q,d,e⟩
   .exact .inr ⟨q,wg _ c,e⟩
theorem qy4(a b:List Pw)(p:Pw):Q9 a (b++[p])=yG (Q9 a b) p.1 p.2:=by unfold Q9;rw[xL];rfl
theorem qGH{a b:List Pw}(n:Jt a=0)(m:Jt b=0)(S:Nat)(f:∀p∈a,size p.1<=S)(d:∀p∈b,size p.1<=S)(j:Nat):
  qgg (Q9 a (b.take j))/\(Q9 a (b.take j)).length<=400/\(∀p∈Q9 a (b.take j),p.2.natAbs<=1000000)/\(∀p∈Q9 a (b.take j),size p.1<=S):=by
 obtain⟨r,t,k,-⟩:=qbN n;obtain⟨o,s,i,-⟩:=qbN m;have h:∀p∈b.take j,p∈b:=λ p c=>wU c;have l:=qrz (b.take j) a r λ p c=>o.2 p (h p c);let⟨y,x⟩:=qt4 (b.take j) a;have w:=qnC 1000 a k;have v:=qnC 1000 (b.take j) λ p c=>i p (h p c);have u:(b.take j).length<=200:=by rw[wk];omega
 refine⟨l.1,by omega,λ p c=>?_,λ p c=>?_⟩
 .have:=qBD _ p c;omega
 .obtain⟨q,g,e⟩|⟨q,g,e⟩:=qui _ _ p c
  .rw[<-e];exact f q g
  .rw[<-e];exact d q (h q g)
end Go.GxZ
namespace Go.AmZ
open Go Go.GxZ
theorem QO{t:T}(h:qS t=0):size t<=400:=by
 unfold qS at h;split at h
 .rename_i a;exact absurd h a
 .split at h
  .cases h
  .omega
theorem qse{t:T}:qdb t=true↔t.kind=3/\(t.name=qeA\/t.name=Jr\/t.name=qi3):=by
 unfold qdb;simp only[wc,wT,beq_iff_eq];constructor
 .rintro⟨h,(a|a)|a⟩
  .exact⟨h,.inl a⟩
  .exact⟨h,.inr (.inl a)⟩
  .exact⟨h,.inr (.inr a)⟩
 .rintro⟨h,a|a|a⟩
  .exact⟨h,.inl (.inl a)⟩
  .exact⟨h,.inl (.inr a)⟩
  .exact⟨h,.inr a⟩
theorem qFI(t:T):∀(l:List Pw) (n:Int),szP (jy t l n)<=szP l+size t:=by
 refine T.ind (P:=λ t=>∀(l:List Pw) (n:Int),szP (jy t l n)<=szP l+size t) ?_ t;intro t d l n;rw[qgo];have i:=qW t;split
 .have:∀(a:List T),(∀k∈a,k∈t.kids)->∀l,szP ((a.map jy).foldl (λ l f=>f l (qa1 t n)) l)<=szP l+(a.map size).sum:=by
    intro a
    induction a with
    |nil=>intro _ l;simp
    |cons k a b=>
      intro c l;have j:=d k (c k (wi ..)) l (qa1 t n);have g:=b (λ k e=>c k (wg _ e)) (jy k l (qa1 t n));simp only[wv,ky,kQ]at g |-
      omega
  have:=this t.kids (λ _ h=>h) l;omega
 .exact qEA l t n
def qfj(ks:List T)(a:Int)(l:List Pw)(i:Nat):List Pw:=((ks.take i).map jy).foldl (λ l f=>f l a) l
theorem qyE{ks:List T}{i:Nat}{x:T}(h:ks[i]?=some x)(a:Int)(l:List Pw):qfj ks a l (i+1)=jy x (qfj ks a l i) a:=by
 unfold qfj;rw[kE,h,wV,xL];rfl
theorem qn6(a:Int)(b:a≠0):∀(ks:List T) (l:List Pw),JM l->JM ((ks.map jy).foldl (λ l f=>f l a) l)/\szP ((ks.map jy).foldl (λ l f=>f l a) l)<=szP l+szL ks/\
  QZ ((ks.map jy).foldl (λ l f=>f l a) l)<=QZ l+szL ks*a.natAbs/\((ks.map jy).foldl (λ l f=>f l a) l).length<=l.length+szL ks
 |[],l,h=>⟨h,by simp,by simp,by simp⟩
 |k::ks,l,h=>by
   let⟨c,e,i3,d⟩:=qn6 a b ks (jy k l a) (qIA k l a b h);have j:=qFI k l a;let⟨i,g⟩:=qKw k l a;rw[wv,ky,zf,wO];exact⟨c,by omega,by omega,by omega⟩
def qk4(t:T)(l:List Pw)(n:Int):Unit×List Pw×Bool×Unit:=((),if arT t then jy t l n else[],arT t,())
theorem qGq(t:T):∀(l:List Pw) (n:Int),n≠0->JM l->szP l+size t<=80000->QZ l+size t*n.natAbs<=100000000000->Ev (λ m _=>zy m l t n) (qk4 t l n):=by
 induction t using T.ind with
 |h t K=>
   intro l n H I R J;have S:=yR t;have Q:=qW t;have M:=qco l;refine waK ?_;simp only[qqg,qbc,qk];refine waC (qEH t) (waD (λ h=>?_) λ h=>?_)
   .rw[bnt]at h;have s:n.natAbs<=size t*n.natAbs:=vG _ (size_pos t);refine waC (qwG I.1 t n (by omega) (by omega) (by omega)) (waI ?_);unfold qk4;rw[qvr,qgo,h];rfl
   rw[bnf]at h;let⟨Y,j⟩:=qse.1 h;have o:arT t=(arK t&&(t.kids.map arT).all id):=by rw[qvr,h];rfl
   have g:∀e:Int,e≠0->e.natAbs=n.natAbs->qa1 t n=e->arK t=true->Ev (λ m _=>jv m (zy m) m e t.kids t.kids.length 0 l) (qk4 t l n):=by
    intro e q F A d;have u:jy t l n=qfj t.kids e l t.kids.length:=by rw[qgo,h,if_pos rfl,A];unfold qfj;rw[wH]
    have z:=qA (P:=λ i=>(∀k∈t.kids.take i,arT k=true)->Ev (λ m k=>jv m (zy m) k e t.kids t.kids.length i (qfj t.kids e l i)) (qk4 t l n)) t.kids (by omega)
     (λ E y=>by
      refine waJ ?_;simp only[qhL,qbe];refine waH E (waI ?_);unfold qk4
      have:arT t=true:=by
       rw[o,d,w7,wu];intro b J;obtain⟨k,C,rfl⟩:=wA.1 J;rw[wH]at y;exact y k C
      rw[this,if_pos rfl,u])
     (λ i x w U E D N G y=>by
      refine waJ ?_;simp only[qhL,qbe,qk];have B:=wb w;have Z:=jN t x B;let⟨O,f2,f3,f4⟩:=qn6 e q (t.kids.take i) l I;have X:=Jl w;have W:szL t.kids+1=size t:=by unfold szL;omega
      have V:szL (t.kids.take i)*e.natAbs+size x*e.natAbs<=size t*n.natAbs:=by
       rw[<-wO,F];exact wo _ (by omega)
      refine waG E (waF D (waC (K x B (qfj t.kids e l i) e q O (by unfold qfj;omega) (by unfold qfj;omega)) (waD (λ c=>?_) λ c=>?_)))
      .rw[bnt]at c;have c:arT x=false:=c;refine waI ?_;unfold qk4
       have:arT t=false:=by
        rw[o,d,w7,<-kh,wu];intro v;have:=v (arT x) (k8 B);rw[c]at this;cases this
       rw[this];rfl
      .rw[bnf]at c;have c:arT x=true:=c
       have G:=G λ k f=>by
        rw[kE,w]at f;obtain f|f:=wm.1 f
        .exact y k f
        .rw[show k=x from by simpa using f];exact c
       rw[N];refine G.congr λ m k=>?_;unfold qk4;rw[qyE w,c];rfl)
    refine waL (L:=λ m k=>jv m (zy m) k e t.kids t.kids.length 0 l) ?_;exact(z 0 (we _)) (λ k d=>by rw[xN]at d;cases d)
   have p:arK t=false->Ev (λ _ _=>some ((),[],false,())) (qk4 t l n):=λ d=>by
    refine waI ?_;unfold qk4;rw[o,d];rfl
   have r:iw .i64 (yc 0 n)=-n:=by
    have s:n.natAbs<=size t*n.natAbs:=vG _ (size_pos t);unfold yc;rw[Qe (by omega)];omega
   obtain a|a|a:=j
   .refine waH (by rw[a];rfl) (waH (by rw[a];rfl) (waG (by rw[a];rfl) (waD (λ d=>?_) λ d=>?_)))
    .rw[qz]at d;exact p (by unfold arK;rw[a,decide_eq_true (show t.kids.length<2 by omega)];rfl)
    .rw[qw]at d;exact waH (by rw[a];rfl) (g n H rfl (by unfold qa1;rw[a];rfl) (by unfold arK;rw[a,decide_eq_false (show ¬ t.kids.length<2 by omega)];rfl))
   .refine waH (by rw[a];rfl) (waG (by rw[a];rfl) (waD (λ d=>?_) λ d=>?_))
    .rw[bnt,qj]at d;exact p (by unfold arK;rw[a,show(t.kids.length != 1)=true from by rw[bne_iff_ne];omega];rfl)
    .rw[bnf,ql]at d;rw[r];exact waH (by rw[a];rfl) (waG (by rw[a];rfl) (g (-n) (by omega) (by omega) (by unfold qa1;rw[if_pos a]) (by unfold arK;rw[a,show(t.kids.length != 1)=false from by rw[bne_eq_false_iff_eq];omega];rfl)))
   .refine waG (by rw[a];rfl) (waD (λ d=>?_) λ d=>?_)
    .rw[bnt,qj]at d;exact p (by unfold arK;rw[a,show(t.kids.length != 0)=true from by rw[bne_iff_ne];omega];rfl)
    .rw[bnf,ql]at d;exact waH (by rw[a];rfl) (waH (by rw[a];rfl) (waH (by rw[a];rfl) (g n H rfl (by unfold qa1;rw[a];rfl) (by unfold arK;rw[a,show(t.kids.length != 0)=false from by rw[bne_eq_false_iff_eq];omega];rfl))))
theorem qCR(t:T)(c:size t<=1000000000):Ev (λ m _=>qbU m t) (ofP t):=by
 refine waK ?_;simp only[qAf,qig,qk];unfold ofP;refine waC (qcR t c) (waD (λ h=>?_) λ h=>?_)
 .rw[bnt,qj]at h;rw[if_pos h];exact waE _
 .rw[bnf,ql]at h;have d:=QO h;rw[if_neg (by omega)];refine waC (qGq t [] 1 (by decide) JM.nil (by show 0+_<=_;omega) (by show 0+size t*1<=_;omega)) (waD (λ a=>?_) λ a=>?_)
  .rw[bnt]at a;have a:arT t=false:=a;rw[if_pos a];exact waE _
  .rw[bnf]at a;have a:arT t=true:=a;rw[if_neg (by rw[a];decide)];have e:(qk4 t [] 1).2.1=jy t [] 1:=by unfold qk4;rw[a];rfl
   rw[e];refine waD (λ b=>?_) λ b=>?_
   .rw[qz]at b;rw[if_pos (by omega)];exact waE _
   .rw[qw]at b;rw[if_neg (by omega)];exact waE _
def qdM(l:List Pw)(i:Nat):Option T:=if i=0 then none else(l[i-1]?).map (·.1)
theorem qj0{l:List Pw}{i:Nat}{p:Pw}(h:l[i]?=some p):qdM l (i+1)=some p.1:=by
 unfold qdM;rw[if_neg (by omega),xW,h];rfl
theorem qrF(l:List Pw)(E:szP l<=1000000000):Ev (λ m _=>qaG m l) (Jt l):=by
 have F:=qco l;refine waK ?_;simp only[qtC,qcb];unfold Jt;refine waD (λ h=>?_) λ h=>?_
 .rw[qz]at h;rw[if_pos (by omega)];exact waE _
 rw[qw]at h;rw[if_neg (by omega)]
 have s:=qA (P:=λ i=>Ev (λ m k=>jY m k l l l.length i) (pvL (qdM l i) (l.drop i))) l (by omega)
  (λ z=>by
   refine waJ ?_;simp only[qjv,qb8];refine waH z (waI ?_);rw[wX];rfl)
  (λ i x u D z C B A=>by
   refine waJ ?_;simp only[qjv,qb8,qk];have H:=qeT (wb u);rw[qj0 u]at A;rw[D,pvL];have c:=qCt (qdM l i) x
   have b:∀e:Int,pvK (qdM l i) x=e->e≠0->Ev (λ _ _=>some e) (thn (pvK (qdM l i) x) (pvL (some x.1) (l.drop (i+1)))):=λ e y r=>by
    rw[y];exact waI (by unfold thn;rw[if_neg r])
   have d:pvK (qdM l i) x=0->Ev (λ m k=>jY m k l l l.length ((i+1:Nat):Int)) (thn (pvK (qdM l i) x) (pvL (some x.1) (l.drop (i+1)))):=λ y=>by
    rw[y];exact A.res (by unfold thn;rw[if_pos rfl])
   refine waG z (waF C (waC (qcR x.1 (by omega)) (waD (λ p=>?_) λ p=>?_)))
   .rw[bnt,qj]at p;exact b _ (by rw[c,if_pos p]) p
   rw[bnf,ql]at p;rw[if_neg (by omega)]at c;refine waC (qEH x.1) (waD (λ o=>?_) λ o=>?_)
   .exact b 1 (by rw[c,if_pos o]) (by decide)
   rw[if_neg (by rw[o];decide)]at c;refine waD (λ t=>?_) λ t=>?_
   .rw[ql]at t;exact b 7 (by rw[c,if_pos (by omega)]) (by decide)
   rw[qj]at t;refine waD (λ n=>?_) λ n=>?_
   .rw[qz]at n;exact b 7 (by rw[c,if_pos (by omega)]) (by decide)
   rw[qw]at n;refine waD (λ g=>?_) λ g=>?_
   .rw[qz]at g;exact b 7 (by rw[c,if_pos (by omega)]) (by decide)
   rw[qw]at g;rw[if_neg (by omega)]at c;rw[B];refine waD (λ r=>?_) λ r=>?_
   .rw[qz]at r;obtain⟨j,rfl⟩:∃j,i=j+1:=⟨i-1,by omega⟩
    have w:j<l.length:=by have:=(List.getElem?_eq_some_iff.1 u).1;omega
    obtain⟨q,v⟩:∃q,l[j]?=some q:=⟨_,List.getElem?_eq_getElem w⟩
    have G:=qeT (wb v);rw[qj0 v]at c b d |-
    simp only at c;refine waF (a:=q) (by rw[show yc ((j+1:Nat):Int) 1=((j:Nat):Int)from by unfold yc;omega,Qe (by omega),yd,v]) (waC (qdB q.1 (by omega) x.1 (by omega)) (waD (λ f=>?_) λ f=>?_))
    .rw[qbi]at f;exact b 5 (by rw[c,if_pos f]) (by decide)
    .rw[J8]at f;exact d (by rw[c,if_neg (by omega)])
   .rw[qw]at r;have:i=0:=by omega
    subst this;exact d (by rw[c];rfl))
 refine waL (L:=λ m k=>jY m k l l l.length 0) ?_;exact s 0 (we _)
end Go.AmZ
namespace Go.AmZ
open Go Go.GxZ
theorem yD{α:Type}{l:List α}{i:Nat}{x:α}(h:l[i]?=some x):l.take (i+1)=l.take i++[x]:=by rw[kE,h];rfl
theorem qtw(a b:List Pw):yk (a++b)=yk a++yk b:=by unfold yk;rw[List.flatMap_append]
theorem qtT(a b:List Pw):yq (a++b)=yq a++yq b:=by unfold yq;rw[List.flatMap_append]
theorem qtY(p:Pw):yk [p]=List.replicate p.2.toNat p.1:=by unfold yk;simp
theorem qtL(p:Pw):yq [p]=List.replicate (-p.2).toNat (apT Jr [p.1]):=by unfold yq;simp
theorem qFF(n:Nat)(x:T):szL (List.replicate n x)=n*size x:=by
 induction n with
 |zero=>simp[szL]
 |succ n a=>rw[List.replicate_succ,zf,a,wO];omega
theorem qBw(t:T):size (apT Jr [t])=1+size t:=by rw[qW];show 1+(size t+0)=_;omega
theorem qoZ{P:Nat->Prop}(N:Int)(g:N<=1000000)(b:P N.toNat)(a:∀j:Nat,(j:Int)<N->iw .i64 (qf (j:Int) 1)=((j+1:Nat):Int)->P (j+1)->P j):∀j:Nat,j<=N.toNat->P j:=by
 intro j e;obtain⟨d,f⟩:∃d,N.toNat=j+d:=⟨N.toNat-j,by omega⟩
 induction d generalizing j with
 |zero=>
   have:j=N.toNat:=by omega
   subst this;exact b
 |succ d c=>
   refine a j (by omega) ?_ (c (j+1) (by omega) (by omega));unfold qf;rw[Qe (by omega)];omega
theorem qMY{l:List Pw}{p:Pw}(a:p∈l)(h:8<p.2):8<(yk l++yq l).length:=by
 have:(List.replicate p.2.toNat p.1).length<=(yk l).length:=wE (wac (k8 (f:=λ p:Pw=>List.replicate p.2.toNat p.1) a)).length_le (by unfold yk;rw[wah];exact wa _);rw[kG]at this;rw[wd];omega
theorem qMB{l:List Pw}{p:Pw}(a:p∈l)(h:p.2 < -8):8<(yk l++yq l).length:=by
 have:(List.replicate (-p.2).toNat (apT Jr [p.1])).length<=(yq l).length:=wE (wac (k8 (f:=λ p:Pw=>List.replicate (-p.2).toNat (apT Jr [p.1])) a)).length_le (by unfold yq;rw[wah];exact wa _);rw[kG]at this;rw[wd];omega
theorem qEy(o:List T):size (J4 o)<=1+szL o:=by
 unfold J4;split
 .rw[qW];show 1+0<=_;omega
 .split
  .rename_i _ a
   have:o.getD 0 zT∈o:=by
    cases o with
    |nil=>cases a
    |cons x r=>exact wi ..
   have:=qcA this;omega
  .rw[qW];exact wa _
theorem qqt{l:List Pw}(a:∀p∈l,size p.1<=400):∀(ks:List Pw),(∀p∈ks,p∈l/\-8<=p.2/\p.2<=8)->(yk ks).length<=8*ks.length/\(yq ks).length<=8*ks.length/\szL (yk ks)<=3200*ks.length/\szL (yq ks)<=3208*ks.length
 |[],_=>⟨wa _,wa _,wa _,wa _⟩
 |p::ks,h=>by
   let⟨k,j,i3,i⟩:=qqt a ks λ q b=>h q (wg _ b);let⟨d,n,m⟩:=h p (wi ..);have c:=a p d;have e1:yk (p::ks)=List.replicate p.2.toNat p.1++yk ks:=by rw[show p::ks=[p]++ks from rfl,qtw,qtY]
   have e:yq (p::ks)=List.replicate (-p.2).toNat (apT Jr [p.1])++yq ks:=by rw[show p::ks=[p]++ks from rfl,qtT,qtL]
   have g:p.2.toNat*size p.1<=8*400:=wax (by omega) c;have f:(-p.2).toNat*(1+size p.1)<=8*401:=wax (by omega) (by omega);rw[e1,e,qhT,qhT,qFF,qFF,qBw];simp only[wd,kG,wz];refine⟨by omega,by omega,by omega,by omega⟩
def qmO(o:List T):T×Int:=if 8<o.length then(zT,3)else if qS (J4 o)≠0 then(zT,qS (J4 o))else(J4 o,0)
theorem qqS{l:List Pw}(h:Jt l=0):qbb l=qmO (yk l++yq l):=by
 unfold qbb qmO;rw[if_neg (by omega)]
theorem qDF(l:List Pw)(Q:szP l<=1000000000):Ev (λ m _=>Jn m l) (qbb l):=by
 refine waK ?_;simp only[quH,qc9];refine waC (qrF l Q) (waD (λ h=>?_) λ h=>?_)
 .rw[bnt,qj]at h;unfold qbb;rw[if_pos h];exact waE _
 rw[bnf,ql]at h;let⟨_,H,Y,X⟩:=qbN h;have c:∀p∈l,size p.1<=400:=λ p A=>QO (X p A).1;rw[qqS h]
 have D:=qA (P:=λ i=>(∀p∈l.take i,p∈l/\-8<=p.2/\p.2<=8)->Ev (λ m k=>(qB m k).1 l l.length i 0 [] 0 [] (yk (l.take i)) (yq (l.take i))) (qmO (yk l++yq l))) l (by omega)
  (λ F t=>by
   refine waJ ?_;simp only[qk2,qc8,qk];rw[wH]at t |-
   let⟨b1,b2,b3,Z⟩:=qqt c l t;refine waH F (waC (qvc (yk l) (yq l) (by omega)) ?_);have ho:szL (yk l++yq l)<=10000000:=by rw[qhT];omega
   generalize yk l++yq l=o at *;have S:=j8 o;have R:=qEy o;unfold qmO;refine waD (λ b=>?_) λ b=>?_
   .rw[qz]at b;rw[if_pos (by omega)];exact waE _
   rw[qw]at b;rw[if_neg (by omega)]
   have f:∀u:T,u=J4 o->Ev (λ m _=>qb (zj m u) λ v=>cond (qg (ieq v 0)) (some (T.mk 0 [] 0 [],v)) (some (u,0))) (if qS (J4 o)≠0 then(zT,qS (J4 o))else(J4 o,0)):=by
    intro u N;subst N;refine waC (qcR _ (by omega)) (waD (λ h=>?_) λ h=>?_)
    .rw[bnt,qj]at h;rw[if_pos h];exact waE _
    .rw[bnf,ql]at h;rw[if_neg (by omega)];exact waE _
   have y:∀(n:List UInt8) (x:List T),Ev (λ m _=>qeq m n x) (apT n x):=λ n x=>waK (waE _);refine waC (y [109,117,108] o) (waD (λ G=>?_) λ G=>?_)
   .rw[ql]at G;exact waC (y [111,110,101] []) (f _ (by unfold J4;rw[if_pos (by omega)];rfl))
   .rw[qj]at G;refine waD (λ C=>?_) λ C=>?_
    .rw[ql]at C;refine waF (a:=o.getD 0 zT) ?_ (f _ (by unfold J4;rw[if_neg (by omega),if_pos (by omega)]));rw[JZ,List.getD_eq_getElem?_getD];cases o with
     |nil=>simp at C
     |cons x r=>rfl
    .rw[qj]at C;exact f _ (by unfold J4;rw[if_neg (by omega),if_neg (by omega)];rfl))
  (λ i p z hd F W V B t=>by
   refine waJ ?_;simp only[qk2,qc8];have s:=wb z;have hn:=Y p s;have hz:=c p s;have U:=(List.getElem?_eq_some_iff.1 z).1;refine waG F (waF W (waD (λ b=>?_) λ b=>?_))
   .rw[qz]at b;unfold qmO;rw[if_pos (qMY s b)];exact waE _
   rw[qw]at b;refine waD (λ w=>?_) λ w=>?_
   .rw[qz]at w;unfold qmO;rw[if_pos (qMB s w)];exact waE _
   rw[qw]at w;let⟨b1,b2,b3,Z⟩:=qqt c _ t;have O:(l.take i).length<=200:=by rw[wk];omega
   have B:=B λ q g=>by
    rw[yD z]at g;obtain g|g:=wm.1 g
    .exact t q g
    .rw[show q=p from by simpa using g];exact⟨s,w,b⟩
   rw[yD z,qtw,qtT,qtY,qtL]at B;generalize yk (l.take i)=I at *;generalize yq (l.take i)=J at*
   have K:=qoZ (P:=λ j=>Ev (λ m k=>(qB m k).2.2 l l.length i (-p.2) j 0 [] 0 p.1.kind p.1.name p.1.sort p.1.kids p.2 [] (I++List.replicate p.2.toNat p.1) (J++List.replicate j (apT Jr [p.1]))) (qmO (yk l++yq l))) (-p.2) (by omega)
    (by
     refine waJ ?_;simp only[qkW,qcX];refine waH (qw.2 (by omega)) ?_;rw[V];exact B)
    (λ j E d e=>by
     refine waJ ?_;simp only[qkW,qcX,qk];rw[show T.mk p.1.kind p.1.name p.1.sort p.1.kids=p.1 from qk p.1,d];refine waG (qz.2 E) (waC (qlT p.1 (by omega)) (waC (a:=apT Jr [p.1]) (waK (waE _)) (waG (zh (by rw[wd,kG];omega) (by omega)) ?_)));refine e.congr λ m k=>?_;rw[vj,wj])
   have M:=qoZ (P:=λ j=>Ev (λ m k=>(qB m k).2.1 l l.length i p.2 j 0 [] 0 p.1.kind p.1.name p.1.sort p.1.kids p.2 [] (I++List.replicate j p.1) J) (qmO (yk l++yq l))) p.2 (by omega)
    (by
     refine waJ ?_;simp only[qk5,qcZ];refine waH (qw.2 (by omega)) ?_;rw[show iw .i64 (yc 0 p.2)=-p.2 from by unfold yc;rw[Qe (by omega)];omega];have:=K 0 (we _);rw[vp,wy]at this;exact this)
    (λ j E d e=>by
     refine waJ ?_;simp only[qk5,qcZ,qk];rw[show T.mk p.1.kind p.1.name p.1.sort p.1.kids=p.1 from qk p.1,d];refine waG (qz.2 E) (waC (qlT p.1 (by omega)) (waG (zh (by rw[wd,kG];omega) (by omega)) ?_));refine e.congr λ m k=>?_;rw[vj,wj])
   have:=M 0 (we _);rw[vp,wy]at this;exact this)
 refine waL (L:=λ m k=>(qB m k).1 l l.length 0 0 [] 0 [] [] []) ?_;exact(D 0 (we _)) (λ p A=>by rw[xN]at A;cases A)
theorem qMj(l:List Pw)(g:szP l<=100000000):Ev (λ m _=>qdT m l) ((),l,()):=by
 have h:=qco l;refine waK ?_;simp only[qsu,qbQ]
 have a:=qA (P:=λ i=>Ev (λ m k=>Qn m k l l.length i (l.take i)) ((),l,())) l (by omega)
  (λ b=>by
   refine waJ ?_;simp only[qiO,qbO];refine waH b ?_;rw[wH];exact waE _)
  (λ i p c j b e d f=>by
   refine waJ ?_;simp only[qiO,qbO,qk];have o:=qeT (wb c);have n:(l.take i).length<=l.length:=by rw[wk];omega
   refine waG b (waF e (waC (qlT p.1 (by omega)) (waG (zh (by omega) (by omega)) ?_)));rw[d];refine f.congr λ m k=>?_;rw[yD c])
 refine waL (L:=λ m k=>Qn m k l l.length 0 []) ?_;exact a 0 (we _)
theorem qyT(p:Pw)(l:List Pw):qmU (p::l)=((decide (p.2 < -1000)||decide (1000<p.2))||qmU l):=rfl
theorem qMm(l:List Pw)(r:l.length<=1000000000):∃v,Ev (λ m _=>zX m l) v/\ile 0 v=qmU l:=by
 have b:=qA (P:=λ i=>∃v,Ev (λ m k=>qC m k l l.length i) v/\ile 0 v=qmU (l.drop i)) l (by omega)
  (λ a=>by
   refine⟨-1,waJ ?_,by rw[wX];rfl⟩;simp only[yx,q9];exact waH a (waE _))
  (λ i p q n a f j o=>by
   let⟨v,c,d⟩:=o;rw[n,qyT]
   have e:Ev (λ m _=>qcl m (p.1,p.2)) (decide (p.2 < -1000)||decide (1000<p.2)):=by
    refine waK ?_;simp only[qp0,qdj];refine waD (λ h=>?_) λ h=>?_
    .rw[qz]at h;exact waI (by rw[decide_eq_true h];rfl)
    .rw[qw]at h;exact waI (by rw[decide_eq_false (show ¬ p.2 < -1000 by omega)];rfl)
   cases g:decide (p.2 < -1000)||decide (1000<p.2)with
   |true=>
     refine⟨i,waJ ?_,by rw[xx,qbi];omega⟩;simp only[yx,q9,qk];exact waG a (waF f (waC e (waG g (waE _))))
   |false=>
     refine⟨v,waJ ?_,by rw[xU];exact d⟩;simp only[yx,q9,qk];refine waG a (waF f (waC e (waH g ?_)));rw[j];exact c)
 let⟨v,c,d⟩:=b 0 (we _);refine⟨v,waK ?_,by rw[d,wP]⟩;simp only[qbE,zK];exact waL (L:=λ m k=>qC m k l l.length 0) c
def qoT(l:List Pw):List Pw×Int:=if qmU l then([],7)else if 200<l.length then([],3)else(l,0)
theorem qNE(l:List Pw)(c:l.length<=1000000000):Ev (λ m _=>qd2 m l) (qoT l):=by
 let⟨v,b,d⟩:=qMm l c;refine waK ?_;simp only[qsC,qef]
 have e:Ev (λ m _=>zM m l) (qmU l):=by
  refine waK ?_;simp only[qa6,ym];exact waC b (waI d)
 unfold qoT;refine waC e (waD (λ h=>?_) λ h=>?_)
 .rw[if_pos h];exact waE _
 .rw[if_neg (by rw[h];decide)];refine waD (λ a=>?_) λ a=>?_
  .rw[qz]at a;rw[if_pos (by omega)];exact waE _
  .rw[qw]at a;rw[if_neg (by omega)];exact waE _
theorem qIN(S:Nat):∀l:List Pw,(∀p∈l,size p.1<=S)->szP l<=l.length*S
 |[],_=>by simp[szP]
 |p::l,h=>by
   have c:=qIN S l λ q a=>h q (wg _ a);have b:=h p (wi ..);rw[qa3,wz,wO];omega
theorem qvB(a b:List Pw):qk6 a b=if Jt a≠0 then([],Jt a)else if Jt b≠0 then([],Jt b)else qoT (Q9 a b):=rfl
theorem qhy{a b:List Pw}(f:Jt a=0)(e:Jt b=0)(j:Nat):
  JM (Q9 a (b.take j))/\(Q9 a (b.take j)).length<=400/\szP (Q9 a (b.take j))<=160000/\QZ (Q9 a (b.take j))<=400000:=by
 let⟨s,k,m,i⟩:=qbN f;let⟨r,v,l,h⟩:=qbN e;have d:∀p∈b.take j,p∈b:=λ p c=>wU c;let⟨A,g,z,q⟩:=qGH f e 400 (λ p c=>QO (i p c).1) (λ p c=>QO (h p c).1) j;have o:=qIN 400 _ q;let⟨y,_⟩:=qt4 (b.take j) a;have x:=qnC 1000 a m;have w:=qnC 1000 (b.take j) λ p c=>l p (d p c);have n:(b.take j).length<=200:=by rw[wk];omega
 refine⟨qrz _ _ s λ p c=>r.2 p (d p c),g,wE o (wo 400 g),?_⟩;have u:a.length*1000<=200*1000:=wo _ k;have t:(b.take j).length*1000<=200*1000:=wo _ n;omega
theorem qMv(a b:List Pw)(s:szP a<=100000000)(y:szP b<=100000000):Ev (λ m _=>qgI m a b) (qk6 a b):=by
 have w:=qco b;refine waK ?_;simp only[qxY,qdU];rw[qvB];refine waC (qrF a (by omega)) (waD (λ h=>?_) λ h=>?_)
 .rw[bnt,qj]at h;rw[if_pos h];exact waE _
 rw[bnf,ql]at h;rw[if_neg (by omega)];refine waC (qrF b (by omega)) (waD (λ c=>?_) λ c=>?_)
 .rw[bnt,qj]at c;rw[if_pos c];exact waE _
 rw[bnf,ql]at c;rw[if_neg (by omega)];refine waC (qMj a s) ?_
 have d:=qA (P:=λ i=>Ev (λ m k=>JC m k b b.length i (Q9 a (b.take i))) (qoT (Q9 a b))) b (by omega)
  (λ e=>by
   refine waJ ?_;simp only[qlZ,qdR];rw[wH];let⟨_,j,_,_⟩:=qhy h c b.length;rw[wH]at j;exact waH e (waC (qNE _ (by omega)) (waE _)))
  (λ i p f x e r q t=>by
   refine waJ ?_;simp only[qlZ,qdR,qk];have g:=wb f;let⟨u,j,A,z⟩:=qhy h c i;let⟨_,_,o,l⟩:=qbN c;have v:=QO (l p g).1;have n:=o p g;refine waG e (waF r (waC (qwG u.1 p.1 p.2 (by omega) (by omega) (by omega)) ?_));rw[q];refine t.congr λ m k=>?_;rw[yD f,qy4])
 refine waL (L:=λ m k=>JC m k b b.length 0 a) ?_;exact d 0 (we _)
end Go.AmZ
namespace Go.AmZ
open Go Go.GxZ
theorem qCX(t:T):Ev (λ m _=>qbu m t) (qdb t):=by
 refine waK ?_;simp only[qv6,qgb];unfold qdb;by_cases a:t.kind=3
 .refine waG (ql.2 a) (waD (λ h=>?_) λ h=>(waD (λ b=>?_) λ b=>?_))
  .rw[jo]at h;exact waI (by rw[a,h];rfl)
  .rw[jo]at b;exact waI (by rw[a,b];rfl)
  .rw[Qa]at h b
   exact waI (by
    have d:(t.name==qeA)=false:=by rw[beq_eq_false_iff_ne];exact h
    have c:(t.name==Jr)=false:=by rw[beq_eq_false_iff_ne];exact b
    rw[a,d,c];rfl)
 .exact waH (qj.2 a) (waI (by have:(t.kind==3)=false:=by rw[beq_eq_false_iff_ne];exact a
                              rw[this];rfl))
theorem qHN(t:T):size t<=1000000000->Ev (λ m _=>jp m t) (arT t):=by
 induction t using T.ind with
 |h t o=>
   intro v;have w:=yR t;refine waK ?_;simp only[qzN,qeW,qk];refine waC (qCX t) (waD (λ h=>?_) λ h=>?_)
   .rw[bnt]at h;exact waI (by rw[qvr,h];rfl)
   rw[bnf]at h;let⟨y,d⟩:=qse.1 h;have g:arT t=(arK t&&(t.kids.map arT).all id):=by rw[qvr,h];rfl
   have c:arK t=true->Ev (λ m _=>Jm m (jp m) m t.kids.length 0 t.kind t.name t.sort t.kids) (arT t):=by
    intro b;rw[g,b,w7]
    have j:=qA (P:=λ i=>Ev (λ m k=>Jm m (jp m) k t.kids.length i t.kind t.name t.sort t.kids) (((t.kids.drop i).map arT).all id)) t.kids (by omega)
     (λ l=>by
      refine waJ ?_;simp only[qnr,qe0];refine waH l (waI ?_);rw[wX];rfl)
     (λ i x p s l r q u=>by
      refine waJ ?_;simp only[qnr,qe0,qk];have n:=wb p;have z:=jN t x n;rw[s,wv,ko];refine waG l (waF r (waC (o x n (by omega)) (waD (λ f=>?_) λ f=>?_)))
      .rw[bnt]at f;rw[f];exact waE _
      .rw[bnf]at f;rw[f,q];exact u)
    refine waL (L:=λ m k=>Jm m (jp m) k t.kids.length 0 t.kind t.name t.sort t.kids) ?_;exact(j 0 (we _)).res (by rw[wP])
   have e:arK t=false->Ev (λ _ _=>some false) (arT t):=λ b=>waI (by rw[g,b];rfl);obtain a|a|a:=d
   .refine waG (by rw[a];rfl) (waD (λ b=>?_) λ b=>?_)
    .rw[qz]at b;exact e (by unfold arK;rw[a,decide_eq_true (show t.kids.length<2 by omega)];rfl)
    .rw[qw]at b;exact waH (by rw[a];rfl) (waH (by rw[a];rfl) (c (by unfold arK;rw[a,decide_eq_false (show ¬ t.kids.length<2 by omega)];rfl)))
   .refine waH (by rw[a];rfl) (waG (by rw[a];rfl) (waD (λ b=>?_) λ b=>?_))
    .rw[bnt,qj]at b;exact e (by unfold arK;rw[a,show(t.kids.length != 1)=true from by rw[bne_iff_ne];omega];rfl)
    .rw[bnf,ql]at b;exact waH (by rw[a];rfl) (c (by unfold arK;rw[a,show(t.kids.length != 1)=false from by rw[bne_eq_false_iff_eq];omega];rfl))
   .refine waH (by rw[a];rfl) (waH (by rw[a];rfl) (waG (by rw[a];rfl) (waD (λ b=>?_) λ b=>?_)))
    .rw[bnt,qj]at b;exact e (by unfold arK;rw[a,show(t.kids.length != 0)=true from by rw[bne_iff_ne];omega];rfl)
    .rw[bnf,ql]at b;exact c (by unfold arK;rw[a,show(t.kids.length != 0)=false from by rw[bne_eq_false_iff_eq];omega];rfl)
theorem qzC(t:T)(n:Int):∀(l:List Pw) (s:List Pw×Bool),(l.foldl (ja t n) s).1.length<=s.1.length+2*l.length
 |[],s=>by simp
 |x::l,s=>by
   have h:=qzC t n l (ja t n s x)
   have:(ja t n s x).1.length<=s.1.length+2:=by
    unfold ja;simp only[wd];have a:(if s.2=false/\qs t x.1<0 then s.1++[(t,n)]else s.1).length<=s.1.length+1:=by split<;>simp
    have b:(if(if qs t x.1=0 then x.2+n else x.2)=0 then([]:List Pw)else[(x.1,if qs t x.1=0 then x.2+n else x.2)]).length<=1:=by generalize (if qs t x.1=0 then x.2+n else x.2)=z;split<;>simp
    omega
   rw[ky,wz];omega
theorem qFM{l:List Pw}(y:JM l)(t:T)(n:Int)(E:szP l+size t<=1000000000)(F:QZ l+n.natAbs<=1000000000000):Ev (λ m _=>qiJ m l t n) ((),yG l t n,()):=by
 have G:=qco l;refine waK ?_;simp only[qEc,qgH]
 have j:∀i,((l.take i).foldl (ja t n) ([],false)).1.length<=2*l.length:=λ i=>by
  have:=qzC t n (l.take i) ([],false);have D:(l.take i).length<=l.length:=by rw[wk];omega
  simp only[wZ]at this;omega
 have w:=qA (P:=λ i=>Ev (λ m k=>JU m k n ((l.take i).foldl (ja t n) ([],false)).2 i t.kind t.name t.sort t.kids l ((l.take i).foldl (ja t n) ([],false)).1) ((),yG l t n,())) l (by omega)
  (λ z=>by
   refine waJ ?_;simp only[qp3,qhz];refine waH z ?_;have:=j l.length;have u:=qJ7 y.2 y.1 t n;rw[wH]at this |-
   unfold qFV at u;refine waD (λ h=>?_) λ h=>?_
   .rw[bnt]at h;rw[if_neg (by rw[h];decide)]at u;rw[show T.mk t.kind t.name t.sort t.kids=t from qk t,u];exact waG (zh (by omega) (by omega)) (waE _)
   .rw[bnf]at h;rw[if_pos h]at u;rw[u];exact waE _)
  (λ i p A H z f B v=>by
   refine waJ ?_;simp only[qp3,qhz,qk];have x:=wb A;have J:=qeT x;have D:=j i;have I:=qBD l p x;have d:=y.2 p x;rw[yD A,xL]at v;generalize (l.take i).foldl (ja t n) ([],false)=s at*
   have r:∀(b:Bool) (o:List Pw),ja t n s p=(o,b)->Ev (λ m k=>JU m k n b ((i+1:Nat):Int) t.kind t.name t.sort t.kids l o) ((),yG l t n,()):=λ b o e=>by
    have v:Ev (λ m k=>JU m k n (ja t n s p).2 ((i+1:Nat):Int) t.kind t.name t.sort t.kids l (ja t n s p).1) ((),yG l t n,()):=v;rw[e]at v;exact v
   have e1:iw .i64 (qf p.2 n)=p.2+n:=by unfold qf;exact Qe (by omega)
   rw[show T.mk t.kind t.name t.sort t.kids=t from qk t,B];have q:qg (ieq p.2 0)=true:=bnt.2 (qj.2 d);refine waG z (waF f (waC (qip t (by omega) p.1 (by omega)) (waD (λ h=>?_) λ h=>?_)))
   .rw[bnt]at h;refine waD (λ g=>?_) λ g=>?_
    .rw[qz]at g;refine waG (zh (by omega) (by omega)) (waF f (waH (qj.2 (by omega)) (waG q (waG (zh (by rw[wd];simp only[wz,wZ];omega) (by omega)) (r _ _ ?_)))));unfold ja;rw[if_pos ⟨h,g⟩,if_neg (show ¬ qs t p.1=0 by omega),if_neg d,decide_eq_true (show qs t p.1<=0 by omega),xw]
    .rw[qw]at g;refine waF f (waD (λ a=>?_) λ a=>?_)
     .rw[ql]at a;refine waD (λ c=>?_) λ c=>?_
      .rw[bnt,qj,e1]at c;refine waG (zh (by omega) (by omega)) (r _ _ ?_);rw[e1];unfold ja;rw[if_neg (by omega),if_pos a,if_neg c,decide_eq_true (show qs t p.1<=0 by omega),xw]
      .rw[bnf,ql,e1]at c;refine r _ _ ?_;unfold ja;rw[if_neg (by omega),if_pos a,if_pos c,decide_eq_true (show qs t p.1<=0 by omega),xw,wy]
     .rw[qj]at a;refine waG q (waG (zh (by omega) (by omega)) (r _ _ ?_));unfold ja;rw[if_neg (by omega),if_neg a,if_neg d,decide_eq_false (show ¬ qs t p.1<=0 by omega),Bool.or_false]
   .rw[bnf]at h;refine waF f (waD (λ a=>?_) λ a=>?_)
    .rw[ql]at a;refine waD (λ c=>?_) λ c=>?_
     .rw[bnt,qj,e1]at c;refine waG (zh (by omega) (by omega)) (r _ _ ?_);rw[e1];unfold ja;rw[if_neg (by omega),if_pos a,if_neg c,decide_eq_true (show qs t p.1<=0 by omega),xw]
     .rw[bnf,ql,e1]at c;refine r _ _ ?_;unfold ja;rw[if_neg (by omega),if_pos a,if_pos c,decide_eq_true (show qs t p.1<=0 by omega),xw,wy]
    .rw[qj]at a;refine waG q (waG (zh (by omega) (by omega)) (r _ _ ?_));unfold ja;rw[if_neg (by rw[h];intro C;cases C.1),if_neg a,if_neg d,h,xx])
 refine waL (L:=λ m k=>JU m k n false 0 t.kind t.name t.sort t.kids l []) ?_;exact w 0 (we _)
theorem qD5(t:T):∀(l:List Pw) (n:Int),n≠0->JM l->szP l+size t<=80000000->QZ l+size t*n.natAbs<=100000000000->Ev (λ m _=>yo m l t n) ((),jy t l n,()):=by
 induction t using T.ind with
 |h t y=>
   intro l n z w E H;have F:=yR t;have D:=qW t;refine waK ?_;simp only[qwB,qc3,qk];have u:n.natAbs<=size t*n.natAbs:=vG _ (size_pos t);refine waC (qCX t) (waD (λ h=>?_) λ h=>?_)
   .rw[bnt]at h;refine waC (qFM w t n (by omega) (by omega)) (waI ?_);rw[qgo,h];rfl
   rw[bnf]at h;let⟨M,p⟩:=qse.1 h
   have b:∀a:Int,a≠0->a.natAbs=n.natAbs->qa1 t n=a->Ev (λ m _=>Qv m (yo m) m a 0 t.kind t.name t.sort t.kids l) ((),jy t l n,()):=by
    intro a c s o;have f:jy t l n=qfj t.kids a l t.kids.length:=by rw[qgo,h,if_pos rfl,o];unfold qfj;rw[wH]
    rw[f]
    have g:=qA (P:=λ i=>Ev (λ m k=>Qv m (yo m) k a i t.kind t.name t.sort t.kids (qfj t.kids a l i)) ((),qfj t.kids a l t.kids.length,())) t.kids (by omega)
     (λ r=>by
      refine waJ ?_;simp only[qkz,qcY];exact waH r (waE _))
     (λ i x j G r q A B=>by
      refine waJ ?_;simp only[qkz,qcY,qk];have v:=wb j;have N:=jN t x v;let⟨C,R,Q,O⟩:=qn6 a c (t.kids.take i) l w;have K:=Jl j;have J:szL t.kids+1=size t:=by unfold szL;omega
      have I:szL (t.kids.take i)*a.natAbs+size x*a.natAbs<=size t*n.natAbs:=by
       rw[<-wO,s];exact wo _ (by omega)
      refine waG r (waF q (waC (y x v (qfj t.kids a l i) a c C (by unfold qfj;omega) (by unfold qfj;omega)) ?_));rw[A];refine B.congr λ m k=>?_;rw[qyE j])
    refine waL (L:=λ m k=>Qv m (yo m) k a 0 t.kind t.name t.sort t.kids l) ?_;exact g 0 (we _)
   have d:iw .i64 (yc 0 n)=-n:=by
    unfold yc;rw[Qe (by omega)];omega
   refine waD (λ e=>?_) λ e=>?_
   .rw[jo]at e;rw[d];exact b (-n) (by omega) (by omega) (by unfold qa1;rw[if_pos (show t.name=Jr from e)])
   .rw[Qa]at e;exact b n z rfl (by unfold qa1;rw[if_neg (show ¬ t.name=Jr from e)])
theorem qC7(t:T)(c:size t<=1000000000):Ev (λ m _=>qh6 m t) (ofP t):=by
 refine waK ?_;simp only[qGU,qmG,qk];unfold ofP;refine waC (qcS t c) (waD (λ h=>?_) λ h=>?_)
 .rw[bnt,qj]at h;rw[if_pos h];exact waE _
 .rw[bnf,ql]at h;have d:=QO h;rw[if_neg (by omega)];refine waC (qHN t c) (waD (λ b=>?_) λ b=>?_)
  .rw[bnt]at b;rw[if_pos b];exact waE _
  .rw[bnf]at b;rw[if_neg (by rw[b];decide)];refine waC (qD5 t [] 1 (by decide) JM.nil (by show 0+_<=_;omega) (by show 0+size t*1<=_;omega)) (waD (λ a=>?_) λ a=>?_)
   .rw[qz]at a;have a:(200:Int)<((jy t [] 1).length:Int):=a;rw[if_pos (by omega)];exact waE _
   .rw[qw]at a;have a:((jy t [] 1).length:Int)<=200:=a;rw[if_neg (by omega)];exact waE _
theorem qtK(l:List Pw)(E:szP l<=1000000000):Ev (λ m _=>qdx m l) (Jt l):=by
 have F:=qco l;refine waK ?_;simp only[qAg,qeK];unfold Jt;refine waD (λ h=>?_) λ h=>?_
 .rw[qz]at h;rw[if_pos (by omega)];exact waE _
 rw[qw]at h;rw[if_neg (by omega)]
 have t:=qA (P:=λ i=>Ev (λ m k=>Jo m k l i) (pvL (qdM l i) (l.drop i))) l (by omega)
  (λ A=>by
   refine waJ ?_;simp only[qni,qeJ];refine waH A (waI ?_);rw[wX];rfl)
  (λ i x v D A p C B=>by
   refine waJ ?_;simp only[qni,qeJ,qk];have H:=qeT (wb v);rw[qj0 v]at B;rw[D,pvL];have c:=qCt (qdM l i) x
   have b:∀e:Int,pvK (qdM l i) x=e->e≠0->Ev (λ _ _=>some e) (thn (pvK (qdM l i) x) (pvL (some x.1) (l.drop (i+1)))):=λ e z s=>by
    rw[z];exact waI (by unfold thn;rw[if_neg s])
   have d:pvK (qdM l i) x=0->Ev (λ m k=>Jo m k l ((i+1:Nat):Int)) (thn (pvK (qdM l i) x) (pvL (some x.1) (l.drop (i+1)))):=λ z=>by
    rw[z];exact B.res (by unfold thn;rw[if_pos rfl])
   refine waG A (waF p (waC (qcS x.1 (by omega)) (waD (λ r=>?_) λ r=>?_)))
   .rw[bnt,qj]at r;exact b _ (by rw[c,if_pos r]) r
   rw[bnf,ql]at r;rw[if_neg (by omega)]at c;refine waF p (waC (qCX x.1) (waD (λ o=>?_) λ o=>?_))
   .exact b 1 (by rw[c,if_pos o]) (by decide)
   rw[if_neg (by rw[o];decide)]at c;refine waF p (waD (λ u=>?_) λ u=>?_)
   .rw[ql]at u;exact b 7 (by rw[c,if_pos (by omega)]) (by decide)
   rw[qj]at u;refine waF p (waD (λ n=>?_) λ n=>?_)
   .rw[qz]at n;exact b 7 (by rw[c,if_pos (by omega)]) (by decide)
   rw[qw]at n;refine waF p (waD (λ g=>?_) λ g=>?_)
   .rw[qz]at g;exact b 7 (by rw[c,if_pos (by omega)]) (by decide)
   rw[qw]at g;rw[if_neg (by omega)]at c;rw[C];refine waD (λ s=>?_) λ s=>?_
   .rw[qz]at s;obtain⟨j,rfl⟩:∃j,i=j+1:=⟨i-1,by omega⟩
    have y:j<l.length:=by have:=(List.getElem?_eq_some_iff.1 v).1;omega
    obtain⟨q,w⟩:∃q,l[j]?=some q:=⟨_,List.getElem?_eq_getElem y⟩
    have G:=qeT (wb w);rw[qj0 w]at c b d |-
    simp only at c;refine waF (a:=q) (by rw[show yc ((j+1:Nat):Int) 1=((j:Nat):Int)from by unfold yc;omega,Qe (by omega),yd,w]) (waF p (waC (qip q.1 (by omega) x.1 (by omega)) (waD (λ f=>?_) λ f=>?_)))
    .rw[qbi]at f;exact b 5 (by rw[c,if_pos f]) (by decide)
    .rw[J8]at f;exact d (by rw[c,if_neg (by omega)])
   .rw[qw]at s;have:i=0:=by omega
    subst this;exact d (by rw[c];rfl))
 refine waL (L:=λ m k=>Jo m k l 0) ?_;exact t 0 (we _)
end Go.AmZ
namespace Go.AmZ
open Go Go.GxZ
theorem qu0(A:List T)(x:T)(h:(A.take 9).length<9):A.take 9++[x]=(A++[x]).take 9:=by
 rw[wk]at h;rw[kH (by omega),kH (by rw[wd];simp only[wz,wZ];omega)]
theorem qvl(A B:List T)(h:¬ (A.take 9).length<9):A.take 9=(A++B).take 9:=by
 rw[wk]at h;rw[kL (by omega)]
theorem qKQ(l:List Pw)(C:l.length<=1000)(u:∀p∈l,p.2.natAbs<=1000):Ev (λ m _=>qeL m l) ((yk l++yq l).take 9):=by
 refine waK ?_;simp only[qtZ,qb7];have t:∀A:List T,(A.take 9).length<=9:=λ A=>by rw[wk];omega
 have w:=qA (P:=λ i=>Ev (λ m k=>(qm m k).2.2.1 l i ((yk l++yq (l.take i)).take 9)) ((yk l++yq l).take 9)) l (by omega)
  (λ g=>by
   refine waJ ?_;simp only[qjq,qcg];refine waH g ?_;rw[wH];exact waE _)
  (λ i p o z g e q n=>by
   refine waJ ?_;simp only[qjq,qcg];refine waG g ?_;have r:=u p (wb o);rw[yD o,qtT,qtL,<-wj]at n;generalize yk l++yq (l.take i)=A at *;have b:iw .i64 (yc 0 p.2)=-p.2:=by unfold yc;rw[Qe (by omega)];omega
   have v:=qoZ (P:=λ j=>Ev (λ m k=>(qm m k).2.2.2 l i j ((A++List.replicate j (apT Jr [p.1])).take 9)) ((yk l++yq l).take 9)) (-p.2) (by omega)
    (by
     refine waJ ?_;simp only[qjs,qb9,qk];refine waF e (waH (by rw[b,qw];omega) ?_);rw[q];exact n)
    (λ j s c a=>by
     refine waJ ?_;simp only[qjs,qb9,qk];rw[vj,<-wj]at a;have B:=t (A++List.replicate j (apT Jr [p.1]));refine waF e (waG (by rw[b,qz];exact s) (waD (λ h=>?_) λ h=>?_))
     .rw[qz]at h;refine waF e (waC (qeQ [105,110,118] [p.1] (by simp)) (waG (zh (by omega) (by omega)) ?_));rw[c];refine a.congr λ m k=>?_;rw[<-qu0 _ _ (by omega)];rfl
     .rw[qw]at h;rw[q];refine n.congr λ m k=>?_;obtain⟨d,f⟩:∃d,(-p.2).toNat=j+d:=⟨(-p.2).toNat-j,by omega⟩
      rw[f,<-vS,<-wj,<-qvl (A++List.replicate j (apT Jr [p.1])) _ (by omega)])
   have:=v 0 (we _);rw[vp,wy]at this;exact this)
 have y:=qA (P:=λ i=>Ev (λ m k=>(qm m k).1 l i ((yk (l.take i)).take 9)) ((yk l++yq l).take 9)) l (by omega)
  (λ g=>by
   refine waJ ?_;simp only[qjo,qcd];refine waH g ?_;rw[wH];have:=w 0 (we _);rw[xN,show yq []=[]from rfl,wy]at this;exact this)
  (λ i p o z g e q n=>by
   refine waJ ?_;simp only[qjo,qcd];refine waG g ?_;have r:=u p (wb o);rw[yD o,qtw,qtY]at n;generalize yk (l.take i)=A at*
   have x:=qoZ (P:=λ j=>Ev (λ m k=>(qm m k).2.1 l i j ((A++List.replicate j p.1).take 9)) ((yk l++yq l).take 9)) p.2 (by omega)
    (by
     refine waJ ?_;simp only[qjp,qcn,qk];refine waF e (waH (by rw[qw];omega) ?_);rw[q];exact n)
    (λ j s c a=>by
     refine waJ ?_;simp only[qjp,qcn,qk];rw[vj,<-wj]at a;have B:=t (A++List.replicate j p.1);refine waF e (waG (by rw[qz];exact s) (waD (λ h=>?_) λ h=>?_))
     .rw[qz]at h;refine waF e (waG (zh (by omega) (by omega)) ?_);rw[c];refine a.congr λ m k=>?_;rw[<-qu0 _ _ (by omega)]
     .rw[qw]at h;rw[q];refine n.congr λ m k=>?_;obtain⟨d,f⟩:∃d,p.2.toNat=j+d:=⟨p.2.toNat-j,by omega⟩
      rw[f,<-vS,<-wj,<-qvl (A++List.replicate j p.1) _ (by omega)])
   have:=x 0 (we _);rw[vp,wy]at this;exact this)
 refine waL (L:=λ m k=>(qm m k).1 l 0 []) ?_;exact y 0 (we _)
theorem qMJ(S:Nat):∀l:List Pw,(∀p∈l,size p.1<=S)->(∀x∈yk l,size x<=S)/\∀x∈yq l,size x<=1+S:=by
 intro l h;refine⟨λ x a=>?_,λ x a=>?_⟩
 .unfold yk at a;let⟨p,b,a⟩:=wY.1 a;rw[xn a];exact h p b
 .unfold yq at a;let⟨p,b,a⟩:=wY.1 a;rw[xn a,qBw];have:=h p b;omega
theorem qIx(S:Nat):∀l:List T,(∀x∈l,size x<=S)->szL l<=l.length*S
 |[],_=>by simp[szL]
 |x::l,h=>by
   have c:=qIx S l λ q a=>h q (wg _ a);have b:=h x (wi ..);rw[zf,wz,wO];omega
theorem qC2(l:List Pw)(q:szP l<=1000000000):Ev (λ m _=>qc0 m l) (qbb l):=by
 refine waK ?_;simp only[qCJ,qi9,qk];refine waC (qtK l q) (waD (λ h=>?_) λ h=>?_)
 .rw[bnt,qj]at h;unfold qbb;rw[if_pos h];exact waE _
 rw[bnf,ql]at h;let⟨_,j,y,w⟩:=qbN h;have f:∀p∈l,size p.1<=400:=λ p s=>QO (w p s).1;rw[qqS h];let⟨n,k⟩:=qMJ 400 l f
 have d:∀x∈yk l++yq l,size x<=401:=λ x c=>by
  obtain c|c:=wm.1 c
  .have:=n x c;omega
  .exact k x c
 refine waC (qKQ l (by omega) y) ?_;generalize yk l++yq l=A at *;unfold qmO;refine waD (λ g=>?_) λ g=>?_
 .rw[qz,wk]at g;rw[if_pos (by omega)];exact waE _
 rw[qw,wk]at g;rw[if_neg (by omega),kH (by omega)];have z:=qIx 401 A d;have t:=qEy A;have B:A.length*401<=8*401:=wo _ (by omega)
 have b:∀u:T,u=J4 A->Ev (λ m _=>qb (jt m u) λ v=>cond (qg (ieq v 0)) (some (T.mk 0 [] 0 [],v)) (some (u,0))) (if qS (J4 A)≠0 then(zT,qS (J4 A))else(J4 A,0)):=by
  intro u o;subst o;refine waC (qcS _ (by omega)) (waD (λ h=>?_) λ h=>?_)
  .rw[bnt,qj]at h;rw[if_pos h];exact waE _
  .rw[bnf,ql]at h;rw[if_neg (by omega)];exact waE _
 refine waC (qeQ [109,117,108] A (by omega)) (waD (λ i=>?_) λ i=>?_)
 .rw[ql]at i;refine waC (qeQ [111,110,101] [] (by simp)) (waH (qj.2 (by omega)) (b _ (by unfold J4;rw[if_pos (by omega)];rfl)))
 .rw[qj]at i;refine waD (λ e=>?_) λ e=>?_
  .rw[ql]at e;refine waF (a:=A.getD 0 zT) ?_ (b _ (by unfold J4;rw[if_neg (by omega),if_pos (by omega)]));rw[JZ,List.getD_eq_getElem?_getD];cases A with
   |nil=>simp at e
   |cons x r=>rfl
  .rw[qj]at e;exact b _ (by unfold J4;rw[if_neg (by omega),if_neg (by omega)];rfl)
theorem qJf(l:List Pw)(n:l.length<=1000000000):Ev (λ m _=>qfQ m l) (if qmU l then 7 else if 200<l.length then 3 else 0):=by
 refine waK ?_;simp only[qvH,qcW]
 have b:=qA (P:=λ i=>Ev (λ m k=>Jc m k l i) (if qmU (l.drop i)then(7:Int)else if 200<l.length then 3 else 0)) l (by omega)
  (λ c=>by
   refine waJ ?_;simp only[qko,qc2];rw[wX,if_neg (by decide)];refine waH c (waD (λ h=>?_) λ h=>?_)
   .rw[qz]at h;rw[if_pos (by omega)];exact waE _
   .rw[qw]at h;rw[if_neg (by omega)];exact waE _)
  (λ i p j f c d e g=>by
   refine waJ ?_;simp only[qko,qc2];rw[f,qyT];refine waG c (waF d (waD (λ h=>?_) λ h=>?_))
   .rw[qz]at h;rw[decide_eq_true h,xx,xx,if_pos rfl];exact waE _
   .rw[qw]at h;rw[decide_eq_false (show ¬ p.2 < -1000 by omega),xU];refine waF d (waD (λ a=>?_) λ a=>?_)
    .rw[qz]at a;rw[decide_eq_true a,xx,if_pos rfl];exact waE _
    .rw[qw]at a;rw[decide_eq_false (show ¬ 1000<p.2 by omega),xU,e];exact g)
 refine waL (L:=λ m k=>Jc m k l 0) ?_;exact(b 0 (we _)).res (by rw[wP])
theorem qNC(a b:List Pw)(E:szP a<=100000000)(D:szP b<=100000000):Ev (λ m _=>qme m a b) (qk6 a b):=by
 have B:=qco b;have v:=qco a;refine waK ?_;simp only[qDR,qg7];rw[qvB];refine waC (qtK a (by omega)) (waD (λ h=>?_) λ h=>?_)
 .rw[bnt,qj]at h;rw[if_pos h];exact waE _
 rw[bnf,ql]at h;rw[if_neg (by omega)];refine waC (qtK b (by omega)) (waD (λ e=>?_) λ e=>?_)
 .rw[bnt,qj]at e;rw[if_pos e];exact waE _
 rw[bnf,ql]at e;rw[if_neg (by omega)]
 have g:=qA (P:=λ i=>Ev (λ m k=>qaD m k b i (Q9 a (b.take i))) (qoT (Q9 a b))) b (by omega)
  (λ j=>by
   refine waJ ?_;simp only[qqj,qgS];rw[wH];let⟨_,q,_,_⟩:=qhy h e b.length;rw[wH]at q;refine waH j (waC (qJf _ (by omega)) ?_);unfold qoT;by_cases f:qmU (Q9 a b)=true
   .rw[if_pos f,if_pos f];exact waG rfl (waE _)
   .rw[if_neg f,if_neg f];by_cases d:200<(Q9 a b).length
    .rw[if_pos d,if_pos d];exact waG rfl (waE _)
    .rw[if_neg d,if_neg d];exact waH rfl (waE _))
  (λ i p l C j o w y=>by
   refine waJ ?_;simp only[qqj,qgS,qk];have n:=wb l;let⟨z,q,G,F⟩:=qhy h e i;let⟨_,_,u,s⟩:=qbN e;have A:=QO (s p n).1;have t:=u p n;refine waG j (waF o (waF o (waC (qFM z p.1 p.2 (by omega) (by omega)) ?_)));rw[w];refine y.congr λ m k=>?_;rw[yD l,qy4])
 refine waG (zh (by simp only[wZ];omega) (by omega)) ?_;have c:Ev (λ m _=>qaD m m b 0 a) (qoT (Q9 a b)):=waL (L:=λ m k=>qaD m k b 0 a) (g 0 (we _));exact Ev.case (λ h=>by rw[h]at c |-;exact c) λ x r h=>by rw[h]at c |-;exact c
end Go.AmZ
namespace Go.AmZ
open Go Go.GxZ Go.Lib
theorem qqF{t:T}(h:qcL t=0):qS t=0/\zr t=0:=by
 unfold qcL at h;exact qgn h
theorem qoj{t:T}(h:zr t=0){n:List UInt8}(i:isN t n=true){a b c:Int}(g:qD n=(a,b,c)):a<=(t.kids.length:Int)/\(t.kids.length:Int)<=b/\∀k∈t.kids,zr k=0:=by
 obtain⟨d,rfl⟩:=yP.1 i;let⟨l,j⟩:=qcP d h;let⟨_,f,e,_⟩:=qs9 d l;rw[g]at f e;exact⟨f,e,j⟩
end Go.AmZ
namespace Go.AmZ
open Go Go.GxZ
def Cl(P:T->Prop):Prop:=∀t:T,t.kind=3->P t->∀k∈t.kids,P k
theorem qlI:∀(n:Nat) (a b:List T),a.length+b.length<=n->∀x∈zw a b,x∈a\/x∈b
 |_,[],b,_,x,h=>by rw[zw]at h;exact .inr h
 |_,z::a,[],_,x,h=>by rw[zw]at h;exact .inl h
 |0,z::a,y::b,c,x,h=>by simp at c
 |n+1,z::a,y::b,c,x,h=>by
   simp only[wz]at c;rw[zw]at h;split at h
   .obtain rfl|h:=wx.1 h
    .exact .inl (wi ..)
    .rcases qlI n a (y::b) (by simp;omega) x h with h|h
     .exact .inl (wg _ h)
     .exact .inr h
   .split at h
    .obtain rfl|h:=wx.1 h
     .exact .inr (wi ..)
     .rcases qlI n (z::a) b (by simp;omega) x h with h|h
      .exact .inl h
      .exact .inr (wg _ h)
    .obtain h|h:=qlI n a b (by omega) x h
     .exact .inl (wg _ h)
     .exact .inr (wg _ h)
theorem qlf:∀(b:List (List T)) (a:List T),∀x∈b.foldl zw a,x∈a\/∃l∈b,x∈l
 |[],a,x,h=>.inl h
 |l::b,a,x,h=>by
   obtain h|⟨m,c,h⟩:=qlf b (zw a l) x h
   .obtain h|h:=qlI _ a l (wa _) x h
    .exact .inl h
    .exact .inr ⟨l,wi ..,h⟩
   .exact .inr ⟨m,wg _ c,h⟩
theorem qK9{P:T->Prop}(g:Cl P)(t:T):P t->∀x∈Qf t,P x:=by
 refine T.ind (P:=λ t=>P t->∀x∈Qf t,P x) ?_ t;intro t d b x a;rw[qkE]at a;split at a
 .cases a
 .split at a
  .rename_i e;obtain h|⟨l,f,h⟩:=qlf _ _ x a
   .cases h
   .obtain⟨k,c,rfl⟩:=wA.1 f;exact d k c (g t (yP.1 e).1 b k c) x h
  .rw[wF.1 a];exact b
theorem qy8{P:T->Prop}(e:Cl P){l:List T}(h:∀k∈l,P k):∀x∈zZ l,P x:=by
 intro x b;obtain a|⟨m,c,a⟩:=qlf _ _ x b
 .cases a
 .obtain⟨k,d,rfl⟩:=wA.1 c;exact qK9 e k (h k d) x a
theorem qMP{P:T->Prop}{l:List Pw}{t:T}(n:Int)(a:P t)(c:∀p∈l,P p.1):∀p∈yG l t n,P p.1:=by
 intro p b;obtain h|h:=qoY l t n p b
 .rw[h];exact a
 .exact c p h
theorem qMM{P:T->Prop}(f:Cl P)(t:T):P t->∀(l:List Pw) (n:Int),(∀p∈l,P p.1)->∀p∈jy t l n,P p.1:=by
 refine T.ind (P:=λ t=>P t->∀(l:List Pw) (n:Int),(∀p∈l,P p.1)->∀p∈jy t l n,P p.1) ?_ t;intro t d b l n a;rw[qgo];split
 .rename_i e;have g:=(qse.1 e).1;exact qEY t.kids (qa1 t n) (λ l=>∀p∈l,P p.1) (λ k c l a=>d k c (f t g b k c) l _ a) l a
 .exact qMP n b a
theorem qiV{P:T->Prop}(c:Cl P){t:T}(b:P t):∀p∈(ofP t).1,P p.1:=by
 intro p a;unfold ofP at a;split at a
 .cases a
 .split at a
  .cases a
  .split at a
   .cases a
   .exact qMM c t b [] 1 (λ _ h=>by cases h) p a
theorem qEI{P:T->Prop}{a b:List Pw}(g:∀p∈a,P p.1)(f:∀p∈b,P p.1):∀p∈(qk6 a b).1,P p.1:=by
 intro p c;unfold qk6 at c;split at c
 .cases c
 .split at c
  .cases c
  .split at c
   .cases c
   .split at c
    .cases c
    .obtain⟨q,d,e⟩|⟨q,d,e⟩:=qui b a p c
     .rw[<-e];exact g q d
     .rw[<-e];exact f q d
theorem qAR{l:List Pw}{x:T}(h:x∈yk l):∃p∈l,x=p.1:=by
 unfold yk at h;let⟨p,a,h⟩:=wY.1 h;exact⟨p,a,xn h⟩
theorem qDa{l:List Pw}{x:T}(h:x∈yq l):∃p∈l,x=apT Jr [p.1]:=by
 unfold yq at h;let⟨p,a,h⟩:=wY.1 h;exact⟨p,a,xn h⟩
theorem J2:Cl λ t=>zr t=0:=λ t a h=>(qcP a h).2
theorem qqq:∀(l:List Int),(∀y∈l,y=0)->l.foldl thn 0=0
 |[],_=>rfl
 |z::l,h=>by
   rw[QS,h z (wi ..)];exact qqq l λ y a=>h y (wg _ a)
theorem qiB{t:T}(h:qcs t=0)(c:∀k∈t.kids,zr k=0):zr t=0:=by
 rw[qnt];split
 .rfl
 .rw[h];refine qqq _ λ y b=>?_;obtain⟨k,a,rfl⟩:=wA.1 b;exact c k a
theorem qgj{n:List UInt8}{ks:List T}(b:(qD n).2.2≠0)(d:(qD n).1<=(ks.length:Int))(c:(ks.length:Int)<=(qD n).2.1)(a:qar (apT n ks)=false):qcs (apT n ks)=0:=by
 unfold qcs;show(if(3:Int)≠3 then(0:Int)else if(qD n).2.2=0 then 10 else if(ks.length:Int)<(qD n).1\/(qD n).2.1<(ks.length:Int)then 6 else if qar (apT n ks)then 10 else 0)=0;rw[if_neg (by decide),if_neg b,if_neg (by omega),a];rfl
theorem qj9{n:List UInt8}(c:n≠qhw)(b:n≠nSk)(a:n≠qtt)(ks:List T):qar (apT n ks)=false:=by
 unfold qar;rw[if_neg (show ¬ (apT n ks).name=qhw from c),if_neg (show ¬ ((apT n ks).name=nSk\/(apT n ks).name=qtt)from λ h=>h.elim b a)]
theorem qbG:zr zT=0:=by rw[qnt];rfl
theorem qaX{P:T->Prop}(c:Cl P)(a:P zT){t:T}(d:t.kind=3)(b:P t)(i:Nat):P (kid t i):=by
 by_cases h:i<t.kids.length
 .exact c t d b _ (qFl h)
 .unfold kid;rw[List.getD_eq_getElem?_getD,List.getElem?_eq_none (by omega)];exact a
theorem qrO{P:T->Prop}(a:P zT){l:List T}(h:∀x∈l,P x):P (l.getD 0 zT):=by
 cases l with
 |nil=>exact a
 |cons x r=>exact h x (wi ..)
theorem qIG{t:T}(c:t.kind=3)(h:qS t=0):t.kids.length<=8:=by
 unfold qS at h;split at h
 .rename_i b;exact absurd h b
 .rename_i b;have a:=(qm3 (t:=t) (by omega)).1;unfold jK qir at a;rw[if_neg (by omega),if_pos c]at a;split at a
  .cases a
  .split at a
   .split at a
    .cases a
    .omega
   .cases a
theorem qzb{l:List Pw}(f:∀p∈l,zr p.1=0)(h:(qbb l).2=0):zr (qbb l).1=0:=by
 by_cases b:Jt l=0
 .rw[qqS b]at h |-
  unfold qmO at h |-
  by_cases g:8<(yk l++yq l).length
  .rw[if_pos g]at h;cases h
  rw[if_neg g]at h |-
  by_cases e:qS (J4 (yk l++yq l))=0
  .rw[if_neg (by omega)]
   have a:∀x∈yk l++yq l,zr x=0:=λ x c=>by
    obtain c|c:=wm.1 c
    .obtain⟨p,b,rfl⟩:=qAR c;exact f p b
    .obtain⟨p,b,rfl⟩:=qDa c;exact qiB (qgj (by decide) (by show(1:Int)<=1;decide) (by show(1:Int)<=1;decide) (qj9 (by decide) (by decide) (by decide) _)) λ k d=>by rw[wF.1 d];exact f p b
   generalize yk l++yq l=o at *;unfold J4;split
   .exact qiB (qgj (by decide) (by show(0:Int)<=0;decide) (by show(0:Int)<=0;decide) (qj9 (by decide) (by decide) (by decide) _)) λ k d=>by cases d
   .split
    .exact qrO (P:=λ t=>zr t=0) qbG a
    .rename_i j i;exact qiB (qgj (by decide) (by show(2:Int)<=_;omega) (by show _<=(8:Int);omega) (qj9 (by decide) (by decide) (by decide) _)) a
  .rw[if_pos e]at h;exact absurd h e
 .unfold qbb at h;rw[if_pos b]at h;exact absurd h b
theorem qCl{b:T}{l:List Pw}(e:zr b=0)(f:∀p∈l,zr p.1=0)(h:(qie b l).2=0):zr (qie b l).1=0:=by
 unfold qie at h |-
 split at h
 .rename_i d;rw[if_pos d];exact e
 .rename_i d;rw[if_neg d];split at h
  .rename_i c;exact absurd h c
  .rename_i c;rw[if_neg c];refine qiB (qgj (by decide) (by show(2:Int)<=2;decide) (by show(2:Int)<=2;decide) (qj9 (by decide) (by decide) (by decide) _)) λ k a=>?_;obtain rfl|a:=wx.1 a
   .exact e
   .rw[wF.1 a];exact qzb f (by omega)
theorem qLL{n:List UInt8}{ks:List T}(i:∀k∈ks,zr k=0)(A:qcs (apT n ks)=0)(a:(J3 (apT n ks)).2=0):zr (J3 (apT n ks)).1=0:=by
 have g:zr (apT n ks)=0:=qiB A i;unfold J3 at a |-
 by_cases w:isD (apT n ks).name=true
 .rw[if_pos w];show zr (qja _)=0;unfold qja;split
  .rename_i c
   have m:(kid (apT n ks) 0).kind=3:=by
    unfold yn at c;split at c
    .exact(yP.1 c).1
    .split at c
     .rw[wc]at c;exact(yP.1 c.1).1
     .split at c
      .rw[wc,wc]at c;exact(yP.1 c.1.1).1
      .split at c
       .rw[wc,wc]at c;exact(yP.1 c.1.1).1
       .split at c
        .exact(yP.1 c).1
        .cases c
   exact qaX J2 qbG m (qaX J2 qbG rfl g 0) _
  .exact g
 rw[if_neg w]at a |-
 by_cases s:(apT n ks).name=qcD
 .rw[if_pos s]at a |-
  unfold qoJ at a |-
  split at a
  .rename_i d;exact absurd a d
  rename_i d;rw[if_neg d];split at a
  .cases a
  rename_i h;rw[if_neg h];show zr (qag (zZ ks))=0
  have l:qS (qag (zZ ks))=0:=by
   have:¬ qS (qag (zZ (apT n ks).kids))≠0:=h;exact xc this
  have f:=qy8 J2 i;generalize zZ ks=o at *;unfold qag at l |-
  split
  .exact qiB (qgj (by decide) (by show(0:Int)<=0;decide) (by show(0:Int)<=0;decide) (qj9 (by decide) (by decide) (by decide) _)) λ k z=>by cases z
  .rename_i C;split
   .exact qrO (P:=λ t=>zr t=0) qbG f
   .rename_i B;rw[if_neg C,if_neg B]at l;have x:o.length<=8:=qIG (t:=apT qcD o) rfl l;exact qiB (qgj (by decide) (by show(2:Int)<=_;omega) (by show _<=(8:Int);omega) (qj9 (by decide) (by decide) (by decide) _)) f
 rw[if_neg s]at a |-
 by_cases u:(apT n ks).name=qeA\/(apT n ks).name=Jr\/(apT n ks).name=qi3
 .rw[if_pos u]at a |-
  unfold ql8 at a |-
  split at a
  .rename_i d;exact absurd a d
  rename_i d;rw[if_neg d];exact qzb (qiV J2 g) a
 rw[if_neg u]at a |-
 by_cases v:(apT n ks).name=qfn
 .rw[if_pos v]at a |-
  have p:=qaX J2 qbG (t:=apT n ks) rfl g 0;have r:=qaX J2 qbG (t:=apT n ks) rfl g 1;generalize kid (apT n ks) 0=b at *;generalize kid (apT n ks) 1=y at *;unfold qoQ at a |-
  split at a
  .rename_i d;exact absurd a d
  rename_i d;rw[if_neg d];split at a
  .rename_i e;rw[if_pos e];split at a
   .rename_i h;exact absurd a h
   rename_i h;rw[if_neg h];split at a
   .rename_i q;exact absurd a q
   rename_i q;rw[if_neg q];have j:=(yP.1 e).1;exact qCl (qaX J2 qbG j p 0) (qEI (P:=λ t=>zr t=0) (qiV J2 (qaX J2 qbG j p 1)) (qiV J2 r)) a
  .rename_i e;rw[if_neg e];exact qCl p (qiV J2 r) a
 .rw[if_neg v];exact g
theorem qkb:size zT=1:=by rw[qW];rfl
theorem qaM(t:T)(i:Nat):size (kid t i)<=size t:=by
 have:=size_pos t;by_cases h:i<t.kids.length
 .have:=jN t _ (qFl h);omega
 .unfold kid;rw[List.getD_eq_getElem?_getD,List.getElem?_eq_none (by omega)];show size zT<=_;rw[qkb];omega
theorem qBG(l:List Pw):size (qbb l).1<=400:=by
 unfold qbb;have:=qkb;split
 .show size zT<=_;omega
 .split
  .show size zT<=_;omega
  .split
   .show size zT<=_;omega
   .rename_i h;exact QO (xc h)
theorem qEk(b:T)(l:List Pw):size (qie b l).1<=401+size b:=by
 unfold qie;have:=qkb;have:=qBG l;split
 .show size b<=_;omega
 .split
  .show size zT<=_;omega
  .rw[qW];show 1+(size b+(size (qbb l).1+0))<=_;omega
theorem qNd(n:List UInt8)(ks:List T):size (J3 (apT n ks)).1<=402+szL ks:=by
 have d:=qkb;have e:size (apT n ks)=1+szL ks:=qW _;unfold J3;split
 .show size (qja _)<=_;unfold qja;split
  .have a:=qaM (apT n ks) 0;have c:=qaM (kid (apT n ks) 0) (if(apT n ks).name=qxL then 1 else 0);omega
  .omega
 .split
  .unfold qoJ;split
   .show size zT<=_;omega
   .split
    .show size zT<=_;omega
    .have a:=qFC (zZ (apT n ks).kids);have c:=qei (apT n ks).kids;have f:szL (apT n ks).kids=szL ks:=rfl;show size (qag _)<=_;omega
  .split
   .unfold ql8;split
    .show size zT<=_;omega
    .have:=qBG (ofP (apT n ks)).1;omega
   .split
    .have g:=qaM (apT n ks) 0;generalize kid (apT n ks) 0=b at *;generalize kid (apT n ks) 1=y at *;unfold qoQ;split
     .show size zT<=_;omega
     .split
      .split
       .show size zT<=_;omega
       .split
        .show size zT<=_;omega
        .have a:=qEk (kid b 0) (qk6 (ofP (kid b 1)).1 (ofP y).1).1;have c:=qaM b 0;omega
      .have a:=qEk b (ofP y).1;omega
    .show size (apT n ks)<=_;omega
theorem qyq(t:T):size (zU t).1<=402*size t:=by
 refine T.ind (P:=λ t=>size (zU t).1<=402*size t) ?_ t;intro t b;have f:=qkb;have g:=size_pos t;rw[qnJ];split
 .show size t<=_;omega
 .split
  .show size zT<=_;omega
  .have e:=qNd t.name ((t.kids.map zU).map (·.1))
   have d:szL ((t.kids.map zU).map (·.1))<=402*szL t.kids:=by
    have:∀l:List T,(∀k∈l,k∈t.kids)->szL ((l.map zU).map (·.1))<=402*szL l:=by
     intro l
     induction l with
     |nil=>intro _;exact wa _
     |cons k l a=>
       intro h;have e:=b k (h k (wi ..));have d:=a λ x c=>h x (wg _ c);rw[wv,wv,zf,zf];omega
    exact this t.kids λ _ h=>h
   have i:size t=1+szL t.kids:=qW t;omega
theorem qsS:∀(l:List Int),l.foldl thn 0=0->∀y∈l,y=0
 |[],_,y,a=>by cases a
 |z::l,h,y,a=>by
   rw[QS]at h;by_cases b:z=0
   .subst b;obtain rfl|a:=wx.1 a
    .rfl
    .exact qsS l h y a
   .rw[qR _ b]at h;exact absurd h b
theorem qiE{t:T}(h:t.kind≠3):zU t=(t,0):=by rw[qnJ,if_pos h]
theorem qL7{t:T}(d:t.kind=3)(h:(zU t).2=0):(∀k∈t.kids,(zU k).2=0)/\zU t=J3 (apT t.name ((t.kids.map zU).map (·.1))):=by
 rw[qnJ,if_neg (λ c=>c d)]at h |-
 split at h
 .rename_i a;exact absurd h a
 .rename_i a;rw[if_neg a];refine⟨λ k b=>?_,rfl⟩;exact qsS _ (xc a) _ (wA.2 ⟨_,wA.2 ⟨k,b,rfl⟩,rfl⟩)
theorem qKJ(l:List T)(h:∀k∈l,k.kind≠3):(l.map zU).map (·.1)=l:=by
 induction l with
 |nil=>rfl
 |cons k l a=>
   rw[wv,wv,qiE (h k (wi ..)),a λ x b=>h x (wg _ b)]
theorem qCz{t:T}(j:t.kind=3)(h:qcs t=0):qcs (apT t.name ((t.kids.map zU).map (·.1)))=0:=by
 let⟨m,l,i,b⟩:=qs9 j h;refine qgj m (by simpa using l) (by simpa using i) ?_;unfold qar at b |-
 show(if t.name=qhw then decide ((kid (apT t.name ((t.kids.map zU).map (·.1))) 0).kind≠2)else if t.name=nSk\/t.name=qtt then((t.kids.map zU).map (·.1)).any λ k=>decide (k.kind=3)||decide (k.sort≠1)else false)=false;split
 .rename_i c;rw[if_pos c]at b;have a:(kid t 0).kind=2:=by simpa using b
  cases e:t.kids with
  |nil=>
    unfold kid at a;rw[e]at a;exact absurd a (by decide)
  |cons x r=>
    have f:kid t 0=x:=by unfold kid;rw[e];rfl
    rw[f]at a;show decide ((zU x).1.kind≠2)=false;rw[qiE (by omega)];simpa using a
 .rename_i c;rw[if_neg c]at b;split
  .rename_i g;rw[if_pos g]at b;rw[qKJ t.kids λ k a d=>?_]
   .exact b
   .have:=List.any_eq_false.1 b k a;rw[d]at this;exact this rfl
  .rfl
theorem qLA(t:T):zr t=0->(zU t).2=0->zr (zU t).1=0:=by
 refine T.ind (P:=λ t=>zr t=0->(zU t).2=0->zr (zU t).1=0) ?_ t;intro t e d c;by_cases a:t.kind=3
 .let⟨i,h⟩:=qL7 a c;let⟨m,l⟩:=qcP a d;rw[h]at c |-
  refine qLL (λ k g=>?_) (qCz a m) c;obtain⟨q,f,rfl⟩:=wA.1 g;obtain⟨j,b,rfl⟩:=wA.1 f;exact e j b (l j b) (i j b)
 .rw[qiE a];exact d
end Go.AmZ
namespace Go.AmZ
open Go Go.GxZ
theorem zJ(t:T){b:Bool}(h:yn t=b):qja t=if b then kid (kid t 0) (if t.name=qxL then 1 else 0)else t:=by unfold qja;rw[h]
theorem qcy{t:T}(h:zr t=0){n:List UInt8}(e:isN t n=true){a b c:Int}(d:qD n=(a,b,c)){i:Nat}(f:(i:Int)<a):qe t.kids (i:Int)=some (kid t i):=by
 have:=(qoj h e d).1;exact qxu (by omega)
theorem qGA(t:T)(J:t.kind=3)(I:zr t=0)(D:isD t.name=true)(L:size t<=1000000000):Ev (λ m _=>qcF m t) (qja t):=by
 have B:∀i,size (kid t i)<=size t:=qaM t;have r:∀i j,size (kid (kid t i) j)<=1000000000:=λ i j=>by have:=qaM (kid t i) j;have:=B i;omega
 have v:∀i j k,size (kid (kid (kid t i) j) k)<=1000000000:=λ i j k=>by have:=qaM (kid (kid t i) j) k;have:=r i j;omega
 have f:∀i,zr (kid t i)=0:=λ i=>qaX J2 qbG J I i;have x:∀i j,(kid t i).kind=3->zr (kid (kid t i) j)=0:=λ i j h=>qaX J2 qbG h (f i) j;have A:isN t t.name=true:=yP.2 ⟨J,rfl⟩;have H:∀{u:T}{n:List UInt8},zr u=0->isN u n=true->∀{b c:Int},qD n=(1,b,c)->qe u.kids 0=some (kid u 0):=λ h d _ _ e=>qcy (i:=0) h d e (by decide);have q:∀{u:T}{n:List UInt8},zr u=0->isN u n=true->∀{b c:Int},qD n=(2,b,c)->qe u.kids 0=some (kid u 0):=λ h d _ _ e=>qcy (i:=0) h d e (by decide);have p:∀{u:T}{n:List UInt8},zr u=0->isN u n=true->∀{b c:Int},qD n=(2,b,c)->qe u.kids 1=some (kid u 1):=λ h d _ _ e=>qcy (i:=1) h d e (by decide);have E:qD qpc=(2,2,1):=by decide
 have G:qD qoo=(2,2,1):=by decide
 have z:qD qiz=(2,2,1):=by decide
 have F:qD nPk=(1,1,1):=by decide
 have y:qD qeH=(2,2,1):=by decide
 unfold isD at D;simp only[wT,beq_iff_eq]at D;refine waK ?_;simp only[qt8,qfu,qk]
 have l:∀{a b c:Int},qD t.name=(a,b,c)->a=b->(t.kids.length:Int)=a:=λ e K=>by
  have:=qoj I A e;omega
 obtain ((((d|d)|d)|d)|d)|d:=D
 .have w:=l (a:=1) (b:=1) (c:=3) (by rw[d];decide) rfl;refine waF (qdK (by omega)) (waH (qw.2 (by omega)) (waG (by rw[d];rfl) (waC (qjV _ _) ?_)));have g:yn t=isN (kid t 0) qpc:=by unfold yn;rw[if_pos (.inl d)]
  refine waD (λ h=>?_) λ h=>?_
  .refine waF (q (f 0) h E) (waI ?_);rw[zJ t (g.trans h),if_pos rfl,if_neg (by rw[d];decide)]
  .refine waI ?_;rw[zJ t (g.trans h),if_neg (by decide)]
 .have w:=l (a:=1) (b:=1) (c:=3) (by rw[d];decide) rfl;refine waF (qdK (by omega)) (waH (qw.2 (by omega)) (waH (by rw[d];rfl) (waG (by rw[d];rfl) (waC (qjV _ _) ?_))));have g:yn t=isN (kid t 0) qpc:=by unfold yn;rw[if_pos (.inr d)]
  refine waD (λ h=>?_) λ h=>?_
  .refine waF (p (f 0) h E) (waI ?_);rw[zJ t (g.trans h),if_pos rfl,if_pos d]
  .refine waI ?_;rw[zJ t (g.trans h),if_neg (by decide)]
 .have w:=l (a:=2) (b:=2) (c:=3) (by rw[d];decide) rfl;refine waF (qdK (by omega)) (waG (qz.2 (by omega)) (waF (qr1 (by omega)) (waH (by rw[d];rfl) (waH (by rw[d];rfl) (waG (by rw[d];rfl) (waC (qjV _ _) ?_))))));have g:yn t=(isN (kid t 0) qoo&&js (kid (kid t 0) 1) (kid t 1)):=by unfold yn;rw[if_neg (by rw[d];decide),if_pos d]
  refine waD (λ h=>?_) λ h=>?_
  .refine waF (p (f 0) h G) (waC (qo5 _ _ (r 0 1) (by have:=B 1;omega)) (waD (λ o=>?_) λ o=>?_))
   .refine waF (q (f 0) h G) (waI ?_);rw[zJ t (b:=true) (by rw[g,show isN (kid t 0) qoo=true from h,o];rfl),if_pos rfl,if_neg (by rw[d];decide)]
   .refine waI ?_;rw[zJ t (b:=false) (by rw[g,o,xH]),if_neg (by decide)]
  .refine waI ?_;rw[zJ t (b:=false) (by rw[g,show isN (kid t 0) qoo=false from h];rfl),if_neg (by decide)]
 .have w:=l (a:=2) (b:=2) (c:=3) (by rw[d];decide) rfl;refine waF (qdK (by omega)) (waG (qz.2 (by omega)) (waF (qr1 (by omega)) (waH (by rw[d];rfl) (waH (by rw[d];rfl) (waH (by rw[d];rfl) (waG (by rw[d];rfl) (waC (qjV _ _) ?_)))))));have g:yn t=(isN (kid t 0) qiz&&isN (kid (kid t 0) 1) nPk&&js (kid (kid (kid t 0) 1) 0) (kid t 1)):=by unfold yn;rw[if_neg (by rw[d];decide),if_neg (by rw[d];decide),if_pos d]
  refine waD (λ h=>?_) λ h=>?_
  .have C:=(yP.1 h).1;refine waF (p (f 0) h z) (waC (qjV _ _) (waD (λ o=>?_) λ o=>?_))
   .refine waF (p (f 0) h z) (waF (H (x 0 1 C) o F) (waC (qo5 _ _ (v 0 1 0) (by have:=B 1;omega)) (waD (λ s=>?_) λ s=>?_)))
    .refine waF (q (f 0) h z) (waI ?_);rw[zJ t (b:=true) (by rw[g,show isN (kid t 0) qiz=true from h,show isN (kid (kid t 0) 1) nPk=true from o,s];rfl),if_pos rfl,if_neg (by rw[d];decide)]
    .refine waI ?_;rw[zJ t (b:=false) (by rw[g,s,xH]),if_neg (by decide)]
   .refine waI ?_;rw[zJ t (b:=false) (by rw[g,show isN (kid (kid t 0) 1) nPk=false from o,xH,kW]),if_neg (by decide)]
  .refine waI ?_;rw[zJ t (b:=false) (by rw[g,show isN (kid t 0) qiz=false from h];rfl),if_neg (by decide)]
 .have w:=l (a:=2) (b:=2) (c:=3) (by rw[d];decide) rfl;refine waF (qdK (by omega)) (waG (qz.2 (by omega)) (waF (qr1 (by omega)) (waH (by rw[d];rfl) (waH (by rw[d];rfl) (waH (by rw[d];rfl) (waH (by rw[d];rfl) (waG (by rw[d];rfl) (waC (qjV _ _) ?_))))))));have g:yn t=(isN (kid t 0) qeH&&isN (kid t 1) nPk&&js (kid (kid t 0) 1) (kid (kid t 1) 0)):=by unfold yn;rw[if_neg (by rw[d];decide),if_neg (by rw[d];decide),if_neg (by rw[d];decide),if_pos d]
  refine waD (λ h=>?_) λ h=>?_
  .refine waC (qjV _ _) (waD (λ o=>?_) λ o=>?_)
   .refine waF (p (f 0) h y) (waF (H (f 1) o F) (waC (qo5 _ _ (r 0 1) (r 1 0)) (waD (λ s=>?_) λ s=>?_)))
    .refine waF (q (f 0) h y) (waI ?_);rw[zJ t (b:=true) (by rw[g,show isN (kid t 0) qeH=true from h,show isN (kid t 1) nPk=true from o,s];rfl),if_pos rfl,if_neg (by rw[d];decide)]
    .refine waI ?_;rw[zJ t (b:=false) (by rw[g,s,xH]),if_neg (by decide)]
   .refine waI ?_;rw[zJ t (b:=false) (by rw[g,show isN (kid t 1) nPk=false from o,xH,kW]),if_neg (by decide)]
  .refine waI ?_;rw[zJ t (b:=false) (by rw[g,show isN (kid t 0) qeH=false from h];rfl),if_neg (by decide)]
 .have w:=l (a:=1) (b:=1) (c:=3) (by rw[d];decide) rfl;refine waF (qdK (by omega)) (waH (qw.2 (by omega)) (waH (by rw[d];rfl) (waH (by rw[d];rfl) (waH (by rw[d];rfl) (waH (by rw[d];rfl) (waH (by rw[d];rfl) (waG (by rw[d];rfl) (waC (qjV _ _) ?_))))))));have g:yn t=isN (kid t 0) qeH:=by unfold yn;rw[if_neg (by rw[d];decide),if_neg (by rw[d];decide),if_neg (by rw[d];decide),if_neg (by rw[d];decide),if_pos d]
  refine waD (λ h=>?_) λ h=>?_
  .refine waF (q (f 0) h y) (waI ?_);rw[zJ t (g.trans h),if_pos rfl,if_neg (by rw[d];decide)]
  .refine waI ?_;rw[zJ t (g.trans h),if_neg (by decide)]
end Go.AmZ
namespace Go.AmZ
open Go Go.GxZ
def qfv:T->Prop:=T.para λ t a=>(t.kind=3->t.sort=0)/\∀p∈a,p
theorem qm7(t:T):qfv t↔(t.kind=3->t.sort=0)/\∀k∈t.kids,qfv k:=by
 have h:qfv t=((t.kind=3->t.sort=0)/\∀p∈t.kids.map qfv,p):=T.para_eq _ _;rw[h];refine and_congr_right λ _=>⟨λ h k a=>h _ (k8 a),λ h p b=>?_⟩
 obtain⟨k,a,rfl⟩:=wA.1 b;exact h k a
theorem qrg:Cl qfv:=λ t _ h=>((qm7 t).1 h).2
theorem qBo:qfv zT:=(qm7 zT).2 ⟨λ h=>absurd h (by decide),λ _ h=>by cases h⟩
theorem qE5(n:List UInt8)(ks:List T)(h:∀k∈ks,qfv k):qfv (apT n ks):=(qm7 _).2 ⟨λ _=>rfl,h⟩
theorem qHl{t:T}(a:t.kind=3)(h:jK t=0):t.sort=0:=by
 unfold jK qir at h;rw[if_neg (by omega),if_pos a]at h;split at h
 .cases h
 .omega
theorem qIF(t:T):jO t=0->qfv t:=by
 refine T.ind (P:=λ t=>jO t=0->qfv t) ?_ t;intro t b h;let⟨e,d⟩:=qm3 h;exact(qm7 t).2 ⟨λ c=>qHl c e,λ k a=>b k a (d k a)⟩
theorem qD0{t:T}(h:qS t=0):jO t=0:=by
 unfold qS at h;split at h
 .rename_i a;exact absurd h a
 .rename_i a;exact xc a
theorem qND{P:T->Prop}(s:Cl P)(f:P zT)(e:∀n ks,(∀k∈ks,P k)->P (apT n ks)){n:List UInt8}{ks:List T}(v:∀k∈ks,P k):P (J3 (apT n ks)).1:=by
 have q:=e n ks v;have a:∀{t:T} (i:Nat),P t->t.kind=3->P (kid t i):=λ i h E=>qaX s f E h i
 have g:∀l:List Pw,(∀p∈l,P p.1)->P (qbb l).1:=by
  intro l z;unfold qbb;split
  .exact f
  .split
   .exact f
   .split
    .exact f
    .have c:∀x∈yk l++yq l,P x:=λ x u=>by
       obtain u|u:=wm.1 u
       .obtain⟨p,A,rfl⟩:=qAR u;exact z p A
       .obtain⟨p,A,rfl⟩:=qDa u;exact e _ _ λ k j=>by rw[wF.1 j];exact z p A
     show P (J4 _);generalize yk l++yq l=o at *;unfold J4;split
     .exact e _ _ λ k j=>by cases j
     .split
      .exact qrO f c
      .exact e _ _ c
 have m:∀(b:T) (l:List Pw),P b->(∀p∈l,P p.1)->P (qie b l).1:=by
  intro b l r z;unfold qie;split
  .exact r
  .split
   .exact f
   .refine e _ _ λ k j=>?_;obtain rfl|j:=wx.1 j
    .exact r
    .rw[wF.1 j];exact g l z
 unfold J3;split
 .show P (qja _);unfold qja;split
  .rename_i d
   have B:(kid (apT n ks) 0).kind=3:=by
    unfold yn at d;split at d
    .exact(yP.1 d).1
    .split at d
     .rw[wc]at d;exact(yP.1 d.1).1
     .split at d
      .rw[wc,wc]at d;exact(yP.1 d.1.1).1
      .split at d
       .rw[wc,wc]at d;exact(yP.1 d.1.1).1
       .split at d
        .exact(yP.1 d).1
        .cases d
   exact a _ (a 0 q rfl) B
  .exact q
 .split
  .unfold qoJ;split
   .exact f
   .split
    .exact f
    .have c:=qy8 s v;show P (qag (zZ ks));generalize zZ ks=o at *;unfold qag;split
     .exact e _ _ λ k j=>by cases j
     .split
      .exact qrO f c
      .exact e _ _ c
  .split
   .unfold ql8;split
    .exact f
    .exact g _ (qiV s q)
   .split
    .have r:=a (t:=apT n ks) 0 q rfl;have D:=a (t:=apT n ks) 1 q rfl;generalize kid (apT n ks) 0=b at *;generalize kid (apT n ks) 1=y at *;unfold qoQ;split
     .exact f
     .split
      .rename_i C;have w:=(yP.1 C).1;split
       .exact f
       .split
        .exact f
        .exact m _ _ (a 0 r w) (qEI (qiV s (a 1 r w)) (qiV s D))
      .exact m _ _ r (qiV s D)
    .exact q
theorem qNB{P:T->Prop}(d:Cl P)(b:P zT)(a:∀n ks,(∀k∈ks,P k)->P (apT n ks))(t:T):P t->P (zU t).1:=by
 refine T.ind (P:=λ t=>P t->P (zU t).1) ?_ t;intro t e h;rw[qnJ];split
 .exact h
 .rename_i i;split
  .exact b
  .refine qND d b a λ k g=>?_;obtain⟨q,f,rfl⟩:=wA.1 g;obtain⟨j,c,rfl⟩:=wA.1 f;exact e j c (d t (xc i) h j c)
theorem qFJ{u x:T}(m:zr u=0)(l:qfv u):js u (apT nPk [x])=(isN u nPk&&js (kid u 0) x):=by
 rw[xm,wc,qbA,qbA];constructor
 .rintro rfl;exact⟨yP.2 ⟨rfl,rfl⟩,rfl⟩
 .rintro⟨h,j⟩;let⟨f,g⟩:=yP.1 h;have e:=qoj m h (a:=1) (b:=1) (c:=1) (by decide);have d:=((qm7 u).1 l).1 f;cases u with
  |mk k n so ks=>
    have f:k=3:=f;have g:n=nPk:=g;have d:so=0:=d
    have i:ks.length=1:=by
     have h:(1:Int)<=(ks.length:Int):=e.1;have j:(ks.length:Int)<=1:=e.2.1;omega
    cases ks with
    |nil=>cases i
    |cons y r=>
      cases r with
      |nil=>
        have:y=x:=j;subst f;subst g;subst d;subst this;rfl
      |cons z r=>simp at i
theorem qu7(a b:T):js a b=js b a:=by
 rw[xm,qbA,qbA];exact eq_comm
theorem qEa(t:T)(G:t.kind=3)(K:zr t=0)(E:qfv t)(F:isD t.name=true)(M:size t<=900000000):Ev (λ m _=>qfS m t) (qja t,yn t):=by
 have B:∀i,size (kid t i)<=size t:=qaM t;have s:∀i j,size (kid (kid t i) j)<=900000000:=λ i j=>by have:=qaM (kid t i) j;have:=B i;omega
 have k:∀i,zr (kid t i)=0:=λ i=>qaX J2 qbG G K i;have A:∀i j,(kid t i).kind=3->zr (kid (kid t i) j)=0:=λ i j h=>qaX J2 qbG h (k i) j;have w:∀i,qfv (kid t i):=λ i=>qaX qrg qBo G E i;have v:∀i j,(kid t i).kind=3->qfv (kid (kid t i) j):=λ i j h=>qaX qrg qBo h (w i) j;have D:isN t t.name=true:=yP.2 ⟨G,rfl⟩;have p:∀{u:T}{n:List UInt8},zr u=0->isN u n=true->∀{b c:Int},qD n=(2,b,c)->qe u.kids 0=some (kid u 0):=λ h d _ _ e=>qcy (i:=0) h d e (by decide);have r:∀{u:T}{n:List UInt8},zr u=0->isN u n=true->∀{b c:Int},qD n=(2,b,c)->qe u.kids 1=some (kid u 1):=λ h d _ _ e=>qcy (i:=1) h d e (by decide);have H:qD qpc=(2,2,1):=by decide
 have I:qD qoo=(2,2,1):=by decide
 have J:qD qiz=(2,2,1):=by decide
 have C:qD qeH=(2,2,1):=by decide
 unfold isD at F;simp only[wT,beq_iff_eq]at F;refine waK ?_;simp only[qvP,qge,qk]
 have o:∀{a b c:Int},qD t.name=(a,b,c)->a=b->(t.kids.length:Int)=a:=λ e L=>by
  have:=qoj K D e;omega
 have l:∀x:T,size (apT nPk [x])=1+size x:=λ x=>by rw[qW];show 1+(size x+0)=_;omega
 obtain ((((d|d)|d)|d)|d)|d:=F
 .have y:=o (a:=1) (b:=1) (c:=3) (by rw[d];decide) rfl;refine waF (qdK (by omega)) (waG (by rw[d];rfl) (waC (qk1 _ _) ?_));have f:yn t=isN (kid t 0) qpc:=by unfold yn;rw[if_pos (.inl d)]
  refine waD (λ h=>?_) λ h=>?_
  .refine waF (p (k 0) h H) (waI ?_);rw[zJ t (f.trans h),if_pos rfl,if_neg (by rw[d];decide),f.trans h]
  .repeat (refine waH (by rw[d];rfl) ?_)
   refine waI ?_;rw[zJ t (f.trans h),if_neg (by decide),f.trans h]
 .have y:=o (a:=1) (b:=1) (c:=3) (by rw[d];decide) rfl;refine waF (qdK (by omega)) (waH (by rw[d];rfl) (waG (by rw[d];rfl) (waC (qk1 _ _) ?_)));have f:yn t=isN (kid t 0) qpc:=by unfold yn;rw[if_pos (.inr d)]
  refine waD (λ h=>?_) λ h=>?_
  .refine waF (r (k 0) h H) (waI ?_);rw[zJ t (f.trans h),if_pos rfl,if_pos d,f.trans h]
  .repeat (refine waH (by rw[d];rfl) ?_)
   refine waI ?_;rw[zJ t (f.trans h),if_neg (by decide),f.trans h]
 .have y:=o (a:=2) (b:=2) (c:=3) (by rw[d];decide) rfl;refine waF (qdK (by omega)) (waH (by rw[d];rfl) (waH (by rw[d];rfl) (waG (by rw[d];rfl) (waC (qk1 _ _) ?_))));have f:yn t=(isN (kid t 0) qoo&&js (kid (kid t 0) 1) (kid t 1)):=by unfold yn;rw[if_neg (by rw[d];decide),if_pos d]
  refine waD (λ h=>?_) λ h=>?_
  .refine waF (r (k 0) h I) (waF (qr1 (by omega)) (waC (qgi _ _ (by have:=s 0 1;omega) (by have:=B 1;omega)) (waD (λ q=>?_) λ q=>?_)))
   .have g:yn t=true:=by rw[f,show isN (kid t 0) qoo=true from h,q];rfl
    refine waF (p (k 0) h I) (waI ?_);rw[zJ t g,if_pos rfl,if_neg (by rw[d];decide),g]
   .have g:yn t=false:=by rw[f,q,xH]
    repeat (refine waH (by rw[d];rfl) ?_)
    refine waI ?_;rw[zJ t g,if_neg (by decide),g]
  .have g:yn t=false:=by rw[f,show isN (kid t 0) qoo=false from h];rfl
   repeat (refine waH (by rw[d];rfl) ?_)
   refine waI ?_;rw[zJ t g,if_neg (by decide),g]
 .have y:=o (a:=2) (b:=2) (c:=3) (by rw[d];decide) rfl;refine waF (qdK (by omega)) (waH (by rw[d];rfl) (waH (by rw[d];rfl) (waH (by rw[d];rfl) (waG (by rw[d];rfl) (waC (qk1 _ _) ?_)))));have f:yn t=(isN (kid t 0) qiz&&isN (kid (kid t 0) 1) nPk&&js (kid (kid (kid t 0) 1) 0) (kid t 1)):=by unfold yn;rw[if_neg (by rw[d];decide),if_neg (by rw[d];decide),if_pos d]
  refine waD (λ h=>?_) λ h=>?_
  .have z:=(yP.1 h).1;refine waF (r (k 0) h J) (waF (qr1 (by omega)) (waC (qeQ nPk [kid t 1] (by simp)) (waC (qgi _ _ (by have:=s 0 1;omega) (by rw[l];have:=B 1;omega)) ?_)));rw[qFJ (A 0 1 z) (v 0 1 z)];refine waD (λ q=>?_) λ q=>?_
   .have g:yn t=true:=by rw[f,show isN (kid t 0) qiz=true from h,w7,q]
    refine waF (p (k 0) h J) (waI ?_);rw[zJ t g,if_pos rfl,if_neg (by rw[d];decide),g]
   .have g:yn t=false:=by rw[f,show isN (kid t 0) qiz=true from h,w7,q]
    repeat (refine waH (by rw[d];rfl) ?_)
    refine waI ?_;rw[zJ t g,if_neg (by decide),g]
  .have g:yn t=false:=by rw[f,show isN (kid t 0) qiz=false from h];rfl
   repeat (refine waH (by rw[d];rfl) ?_)
   refine waI ?_;rw[zJ t g,if_neg (by decide),g]
 .have y:=o (a:=2) (b:=2) (c:=3) (by rw[d];decide) rfl;refine waF (qdK (by omega)) (waH (by rw[d];rfl) (waH (by rw[d];rfl) (waH (by rw[d];rfl) (waH (by rw[d];rfl) (waG (by rw[d];rfl) (waC (qk1 _ _) ?_))))));have f:yn t=(isN (kid t 0) qeH&&isN (kid t 1) nPk&&js (kid (kid t 0) 1) (kid (kid t 1) 0)):=by unfold yn;rw[if_neg (by rw[d];decide),if_neg (by rw[d];decide),if_neg (by rw[d];decide),if_pos d]
  refine waD (λ h=>?_) λ h=>?_
  .refine waF (qr1 (by omega)) (waF (r (k 0) h C) (waC (qeQ nPk [kid (kid t 0) 1] (by simp)) (waC (qgi _ _ (by have:=B 1;omega) (by rw[l];have:=s 0 1;omega)) ?_)));rw[qFJ (k 1) (w 1),qu7 (kid (kid t 1) 0)];refine waD (λ q=>?_) λ q=>?_
   .have g:yn t=true:=by rw[f,show isN (kid t 0) qeH=true from h,w7,q]
    refine waF (p (k 0) h C) (waI ?_);rw[zJ t g,if_pos rfl,if_neg (by rw[d];decide),g]
   .have g:yn t=false:=by rw[f,show isN (kid t 0) qeH=true from h,w7,q]
    repeat (refine waH (by rw[d];rfl) ?_)
    refine waI ?_;rw[zJ t g,if_neg (by decide),g]
  .have g:yn t=false:=by rw[f,show isN (kid t 0) qeH=false from h];rfl
   repeat (refine waH (by rw[d];rfl) ?_)
   refine waI ?_;rw[zJ t g,if_neg (by decide),g]
 .have y:=o (a:=1) (b:=1) (c:=3) (by rw[d];decide) rfl;refine waF (qdK (by omega)) (waH (by rw[d];rfl) (waH (by rw[d];rfl) (waH (by rw[d];rfl) (waH (by rw[d];rfl) (waH (by rw[d];rfl) (waG (by rw[d];rfl) (waC (qk1 _ _) ?_)))))));have f:yn t=isN (kid t 0) qeH:=by unfold yn;rw[if_neg (by rw[d];decide),if_neg (by rw[d];decide),if_neg (by rw[d];decide),if_neg (by rw[d];decide),if_pos d]
  refine waD (λ h=>?_) λ h=>?_
  .refine waF (p (k 0) h C) (waI ?_);rw[zJ t (f.trans h),if_pos rfl,if_neg (by rw[d];decide),f.trans h]
  .repeat (refine waH (by rw[d];rfl) ?_)
   refine waI ?_;rw[zJ t (f.trans h),if_neg (by decide),f.trans h]
end Go.AmZ
namespace Go.AmZ
open Go Go.GxZ
theorem qiF(t:T):szP (ofP t).1<=400:=by
 unfold ofP;split
 .exact we _
 .rename_i h;split
  .exact we _
  .split
   .exact we _
   .have c:=qFI t [] 1;have b:=QO (xc h);have a:szP ([]:List Pw)=0:=rfl;show szP (jy t [] 1)<=_;omega
theorem qFy(a b:List Pw):szP (qk6 a b).1<=160000:=by
 unfold qk6;split
 .exact we _
 .rename_i d;split
  .exact we _
  .rename_i c;split
   .exact we _
   .split
    .exact we _
    .let⟨_,_,h,_⟩:=qhy (xc d) (xc c) b.length;rw[wH]at h;exact h
theorem qL8(b e:T)(k:zr b=0)(n:size b<=1000000000)(j:size e<=1000000000):Ev (λ m _=>qg4 m b e) (qoQ b e):=by
 refine waK ?_;simp only[qxf,qgL,qk]
 have g:∀(l:List Pw) (x:T),szP l<=1000000000->Ev (λ m _=>cond (ieq (l.length:Int) 0) (some (x,(0:Int))) (qb (Jn m l) λ v=>cond (qg (ieq v.2 0)) (some (T.mk 0 [] 0 [],v.2)) (qb (qgQ m [101,120,112] [x,v.1]) λ w=>some (w,0)))) (qie x l):=by
  intro l x o;unfold qie;refine waD (λ h=>?_) λ h=>?_
  .rw[ql]at h;rw[if_pos (by omega)];exact waE _
  .rw[qj]at h;rw[if_neg (by omega)];refine waC (qDF l o) (waD (λ h=>?_) λ h=>?_)
   .rw[bnt,qj]at h;rw[if_pos h];exact waE _
   .rw[bnf,ql]at h;rw[if_neg (by omega)];exact waC (qOa _ _) (waE _)
 unfold qoQ;refine waC (qCR e j) (waD (λ h=>?_) λ h=>?_)
 .rw[bnt,qj]at h;rw[if_pos h];exact waE _
 rw[bnf,ql]at h;rw[if_neg (by omega)];refine waC (qjV _ _) (waD (λ f=>?_) λ f=>?_)
 .rw[if_pos (show isN b qfn=true from f)];have s:=qaM b 1;refine waF (qcy (i:=1) k f (a:=2) (b:=2) (c:=1) (by decide) (by decide)) (waC (qCR _ (by omega)) (waD (λ d=>?_) λ d=>?_))
  .rw[bnt,qj]at d;rw[if_pos d];exact waE _
  rw[bnf,ql]at d;rw[if_neg (by omega)];have r:=qiF (kid b 1);have p:=qiF e;have q:=qFy (ofP (kid b 1)).1 (ofP e).1;refine waC (qMv _ _ (by omega) (by omega)) (waD (λ d=>?_) λ d=>?_)
  .rw[bnt,qj]at d;rw[if_pos d];exact waE _
  rw[bnf,ql]at d;rw[if_neg (by omega)];exact waF (qcy (i:=0) k f (a:=2) (b:=2) (c:=1) (by decide) (by decide)) (g _ _ (by omega))
 .rw[if_neg (by rw[show isN b qfn=false from f];decide)];have p:=qiF e;exact g _ _ (by omega)
theorem qJJ(b e:T)(k:zr b=0)(n:size b<=1000000000)(j:size e<=1000000000):Ev (λ m _=>qix m b e) (qoQ b e):=by
 refine waK ?_;simp only[qAe,qhS,qk]
 have g:∀(l:List Pw) (x:T),szP l<=1000000000->Ev (λ m _=>cond (ieq (l.length:Int) 0) (some (x,(0:Int))) (qb (qc0 m l) λ v=>cond (qg (ieq v.2 0)) (some (T.mk 0 [] 0 [],v.2)) (qb (yI m [101,120,112] [x,v.1]) λ w=>some (w,0)))) (qie x l):=by
  intro l x o;unfold qie;refine waD (λ h=>?_) λ h=>?_
  .rw[ql]at h;rw[if_pos (by omega)];exact waE _
  .rw[qj]at h;rw[if_neg (by omega)];refine waC (qC2 l o) (waD (λ h=>?_) λ h=>?_)
   .rw[bnt,qj]at h;rw[if_pos h];exact waE _
   .rw[bnf,ql]at h;rw[if_neg (by omega)];exact waC (qeQ _ _ (by simp)) (waE _)
 unfold qoQ;refine waC (qC7 e j) (waD (λ h=>?_) λ h=>?_)
 .rw[bnt,qj]at h;rw[if_pos h];exact waE _
 rw[bnf,ql]at h;rw[if_neg (by omega)];refine waC (qk1 _ _) (waD (λ f=>?_) λ f=>?_)
 .rw[if_pos (show isN b qfn=true from f)];have s:=qaM b 1;refine waF (qcy (i:=1) k f (a:=2) (b:=2) (c:=1) (by decide) (by decide)) (waC (qC7 _ (by omega)) (waD (λ d=>?_) λ d=>?_))
  .rw[bnt,qj]at d;rw[if_pos d];exact waE _
  rw[bnf,ql]at d;rw[if_neg (by omega)];have r:=qiF (kid b 1);have p:=qiF e;have q:=qFy (ofP (kid b 1)).1 (ofP e).1;refine waC (qNC _ _ (by omega) (by omega)) (waD (λ d=>?_) λ d=>?_)
  .rw[bnt,qj]at d;rw[if_pos d];exact waE _
  rw[bnf,ql]at d;rw[if_neg (by omega)];exact waF (qcy (i:=0) k f (a:=2) (b:=2) (c:=1) (by decide) (by decide)) (g _ _ (by omega))
 .rw[if_neg (by rw[show isN b qfn=false from f];decide)];have p:=qiF e;exact g _ _ (by omega)
theorem qBj{t:T}(h:isD t.name=true):J3 t=(qja t,0):=by unfold J3;rw[if_pos h]
theorem qDi{t:T}(h:t.name=qcD):J3 t=qoJ t.kids:=by unfold J3;rw[if_neg (by rw[h];decide),if_pos h]
theorem qAY{t:T}(h:t.name=qeA\/t.name=Jr\/t.name=qi3):J3 t=ql8 t:=by
 unfold J3;rw[if_neg (by obtain h|h|h:=h<;>rw[h]<;>decide),if_neg (by obtain h|h|h:=h<;>rw[h]<;>decide),if_pos h]
theorem qBH{t:T}(h:t.name=qfn):J3 t=qoQ (kid t 0) (kid t 1):=by
 unfold J3;rw[if_neg (by rw[h];decide),if_neg (by rw[h];decide),if_neg (by rw[h];decide),if_pos h]
theorem qyP{t:T}(d:isD t.name=false)(c:t.name≠qcD)(b:¬ (t.name=qeA\/t.name=Jr\/t.name=qi3))(a:t.name≠qfn):J3 t=(t,0):=by
 unfold J3;rw[if_neg (by rw[d];decide),if_neg c,if_neg b,if_neg a]
theorem qIo(n:List UInt8):(qD n).2.2=3↔isD n=true:=by
 constructor
 .intro h;obtain b|⟨r,c,a,b⟩:=qwF n
  .rw[qwq b]at h;cases h
  .rw[qof b]at h;have:yY.all (λ r => !decide (r.2.2.2=3)||isD r.1)=true:=by decide
   have:=wu.1 this r c;rw[decide_eq_true h]at this;rw[<-a];exact this
 .intro h;unfold isD at h;simp only[wT,beq_iff_eq]at h;obtain ((((a|a)|a)|a)|a)|a:=h<;>rw[a]<;>decide
def nks(l:List T):List T:=(l.map zU).map (·.1)
theorem qsg(l:List T):(nks l).length=l.length:=by unfold nks;simp
theorem qIM(l:List T):szL (nks l)<=402*szL l:=by
 induction l with
 |nil=>exact wa _
 |cons k l a=>
   have:=qyq k;show szL ((zU k).1::nks l)<=_;rw[zf,zf];omega
theorem qA9{l:List T}{i:Nat}{x:T}(h:l[i]?=some x):nks (l.take (i+1))=nks (l.take i)++[(zU x).1]:=by
 unfold nks;rw[yD h,wV,wV];rfl
def erN(l:List T):Int:=((l.map zU).map (·.2)).foldl thn 0
theorem qCD{l:List T}{i:Nat}{x:T}(h:l.drop i=x::l.drop (i+1)):erN (l.drop i)=if(zU x).2≠0 then(zU x).2 else erN (l.drop (i+1)):=by
 unfold erN;rw[h,wv,wv];by_cases a:(zU x).2=0
 .rw[if_neg (by omega),a];rfl
 .rw[if_pos a];exact qR _ a
theorem qEB{t:T}(a:t.kind=3):zU t=if erN t.kids≠0 then(zT,erN t.kids)else J3 (apT t.name (nks t.kids)):=by rw[qnJ,if_neg (λ h=>h a)];rfl
theorem qEn{t:T}(c:t.kind=3)(f:zr t=0)(e:∀k∈t.kids,(zU k).2=0):zr (apT t.name (nks t.kids))=0/\∀k∈nks t.kids,zr k=0:=by
 let⟨h,g⟩:=qcP c f
 have a:∀k∈nks t.kids,zr k=0:=λ k a=>by
  obtain⟨q,d,rfl⟩:=wA.1 a;obtain⟨j,b,rfl⟩:=wA.1 d;exact qLA j (g j b) (e j b)
 exact⟨qiB (qCz c h) a,a⟩
theorem qHV(t:T):size t<=2000->zr t=0->Ev (λ m _=>yC m t) (zU t):=by
 induction t using T.ind with
 |h t F=>
   intro hs E;have hl:=yR t;have hz:=qW t;refine waK ?_;simp only[qwp,qdm,qk];by_cases n:t.kind=3
   rotate_left
   .refine waG (bnt.2 (qj.2 n)) (waI (qiE n).symm)
   refine waH (bnf.2 (ql.2 n)) ?_;rw[qEB n];have y:=(qcP n E).2
   have s:=qA (P:=λ i=>(∀k∈t.kids.take i,(zU k).2=0)->Ev (λ m k=>Q6 m (yC m) k t.kids t.kids.length i t.kind t.name t.sort t.kids 0 [] 0 3 t.name 0 [] (nks (t.kids.take i))) (if erN (t.kids.drop i)≠0 then(zT,erN (t.kids.drop i))else J3 (apT t.name (nks t.kids)))) t.kids (by omega)
    (λ g q=>by
     refine waJ ?_;simp only[qk3,qc1,qk];refine waH g ?_;rw[wH]at q |-
     rw[wX,if_neg (show ¬ erN []≠0 from λ h=>h rfl)];let⟨r,c2⟩:=qEn n E q;have Y:=qIM t.kids;have X:szL t.kids+1=size t:=by unfold szL;omega
     have H:=qsg t.kids;generalize nks t.kids=ks at *;have G:T.mk 3 t.name 0 ks=apT t.name ks:=rfl;rw[G];have W:size (apT t.name ks)=1+szL ks:=qW _
     have e:isD t.name=true->Ev (λ m _=>qb (qcF m (apT t.name ks)) λ v=>some (v,(0:Int))) (J3 (apT t.name ks)):=λ l=>by
      rw[qBj (show isD (apT t.name ks).name=true from l)];exact waC (qGA _ rfl r l (by omega)) (waE _)
     have f:t.name=qeA\/t.name=Jr\/t.name=qi3->Ev (λ m _=>qb (qbU m (apT t.name ks)) λ v=>cond (qg (ieq v.2 0)) (some (T.mk 0 [] 0 [],v.2)) (qb (Jn m v.1) λ w=>some (w.1,w.2))) (J3 (apT t.name ks)):=λ p=>by
      rw[qAY (show(apT t.name ks).name=qeA\/(apT t.name ks).name=Jr\/(apT t.name ks).name=qi3 from p)];unfold ql8;have A:=qiF (apT t.name ks);refine waC (qCR _ (by omega)) (waD (λ h=>?_) λ h=>?_)
      .rw[bnt,qj]at h;rw[if_pos h];exact waE _
      .rw[bnf,ql]at h;rw[if_neg (by omega)];exact waC (qDF _ (by omega)) (waE _)
     refine waD (λ h=>e (by rw[jo.1 h];decide)) λ V=>?_;refine waD (λ h=>e (by rw[jo.1 h];decide)) λ U=>?_;refine waD (λ h=>e (by rw[jo.1 h];decide)) λ B=>?_;refine waD (λ h=>e (by rw[jo.1 h];decide)) λ A=>?_;refine waD (λ h=>e (by rw[jo.1 h];decide)) λ S=>?_;refine waD (λ h=>e (by rw[jo.1 h];decide)) λ R=>?_;refine waD (λ h=>?_) λ Q=>?_
     .rw[qDi (show(apT t.name ks).name=qcD from jo.1 h)];exact waC (qNw ks (by omega)) (waE _)
     refine waD (λ h=>f (.inl (jo.1 h))) λ O=>?_;refine waD (λ h=>f (.inr (.inl (jo.1 h)))) λ N=>?_;refine waD (λ h=>f (.inr (.inr (jo.1 h)))) λ D=>?_;refine waD (λ h=>?_) λ C=>?_
     .have d:t.name=qfn:=jo.1 h;rw[qBH (show(apT t.name ks).name=qfn from d)];have o:isN (apT t.name ks) qfn=true:=yP.2 ⟨rfl,d⟩;have q0:=qaM (apT t.name ks) 0;have Z:=qaM (apT t.name ks) 1;refine waF (qcy (t:=apT t.name ks) (i:=0) r o (a:=2) (b:=2) (c:=1) (by decide) (by decide)) (waF (qcy (t:=apT t.name ks) (i:=1) r o (a:=2) (b:=2) (c:=1) (by decide) (by decide)) ?_);exact waC (qL8 _ _ (qaX J2 qbG rfl r 0) (by omega) (by omega)) (waE _)
     .rw[qyP (t:=apT t.name ks) (show isD t.name=false from by
         rw[<-kh];intro l;unfold isD at l;simp only[wT,beq_iff_eq]at l;obtain ((((d|d)|d)|d)|d)|d:=l
         .exact Qa.1 V d
         .exact Qa.1 U d
         .exact Qa.1 B d
         .exact Qa.1 A d
         .exact Qa.1 S d
         .exact Qa.1 R d) (Qa.1 Q) (λ h=>by obtain h|h|h:=h;exact Qa.1 O h;exact Qa.1 N h;exact Qa.1 D h) (Qa.1 C)]
      exact waE _)
    (λ i x u l g M K z q=>by
     refine waJ ?_;simp only[qk3,qc1,qk];have p:=wb u;have I:=jN t x p;rw[qCD l];refine waG g (waF M (waC (F x p (by omega) (y x p)) (waD (λ h=>?_) λ h=>?_)))
     .rw[bnt,qj]at h;rw[if_pos (show(if(zU x).2≠0 then(zU x).2 else erN (t.kids.drop (i+1)))≠0 from by rw[if_pos h];exact h),if_pos h];exact waE _
     .rw[bnf,ql]at h;rw[if_neg (show ¬ (zU x).2≠0 from by omega)];have A:(nks (t.kids.take i)).length<=t.kids.length:=by rw[qsg,wk];omega
      refine waG (zh (by omega) (by omega)) ?_
      have z:=z λ k j=>by
       rw[yD u]at j;obtain j|j:=wm.1 j
       .exact q k j
       .rw[wF.1 j];exact h
      rw[K];refine z.congr λ m k=>?_;rw[qA9 u])
   have J:=n;refine waL (L:=λ m k=>Q6 m (yC m) k t.kids t.kids.length 0 t.kind t.name t.sort t.kids 0 [] 0 3 t.name 0 [] []) ?_;exact(s 0 (we _)) (λ k j=>by rw[xN]at j;cases j)
theorem qGC(t:T):size t<=2000->zr t=0->qfv t->Ev (λ m _=>jn m t) (zU t):=by
 induction t using T.ind with
 |h t G=>
   intro hs E o;have hl:=yR t;have hz:=qW t;refine waK ?_;simp only[qxP,qd0,qk];by_cases g:t.kind=3
   rotate_left
   .refine waG (bnt.2 (qj.2 g)) (waI (qiE g).symm)
   refine waH (bnf.2 (ql.2 g)) ?_;rw[qEB g];have y:=(qcP g E).2
   have u:=qA (P:=λ i=>(∀k∈t.kids.take i,(zU k).2=0)->Ev (λ m k=>JE m (jn m) k i t.kind t.name t.sort t.kids 0 [] 0 [] (nks (t.kids.take i))) (if erN (t.kids.drop i)≠0 then(zT,erN (t.kids.drop i))else J3 (apT t.name (nks t.kids)))) t.kids (by omega)
    (λ e p=>by
     refine waJ ?_;simp only[qlO,qdY,qk];refine waH e ?_;rw[wH]at p |-
     rw[wX,if_neg (show ¬ erN []≠0 from λ h=>h rfl)];let⟨s,c2⟩:=qEn g E p
     have F:qfv (apT t.name (nks t.kids)):=qE5 _ _ λ k f=>by
      obtain⟨q,H,rfl⟩:=wA.1 f;obtain⟨j,K,rfl⟩:=wA.1 H;exact qNB qrg qBo qE5 j (qrg t g o j K)
     have X:=qIM t.kids;have W:szL t.kids+1=size t:=by unfold szL;omega
     have I:=qsg t.kids;generalize nks t.kids=ks at *;have V:size (apT t.name ks)=1+szL ks:=qW _
     have d:t.name=qeA\/t.name=Jr\/t.name=qi3->Ev (λ m _=>qb (qdr m (apT t.name ks)) λ w=>some (w.1,w.2)) (J3 (apT t.name ks)):=λ l=>by
      rw[qAY (show(apT t.name ks).name=qeA\/(apT t.name ks).name=Jr\/(apT t.name ks).name=qi3 from l)];have S:=qiF (apT t.name ks)
      have:Ev (λ m _=>qdr m (apT t.name ks)) (ql8 (apT t.name ks)):=by
       refine waK ?_;simp only[qv0,qf7,qk];unfold ql8;refine waC (qC7 _ (by omega)) (waD (λ h=>?_) λ h=>?_)
       .rw[bnt,qj]at h;rw[if_pos h];exact waE _
       .rw[bnf,ql]at h;rw[if_neg (by omega)];exact waC (qC2 _ (by omega)) (waE _)
      exact waC this (waE _)
     have D:=j8 ks;refine waC (qeQ t.name ks (by omega)) (waC (qxN t.name) (waD (λ h=>?_) λ U=>?_))
     .have r:=(qIo t.name).1 (ql.1 h);rw[qBj (show isD (apT t.name ks).name=true from r)];exact waC (qEa _ rfl s F r (by omega)) (waE _)
     refine waD (λ h=>?_) λ R=>?_
     .rw[qDi (show(apT t.name ks).name=qcD from jo.1 h)];exact waC (qNF ks (by omega)) (waE _)
     refine waD (λ h=>d (.inl (jo.1 h))) λ Q=>?_;refine waD (λ h=>d (.inr (.inl (jo.1 h)))) λ O=>?_;refine waD (λ h=>d (.inr (.inr (jo.1 h)))) λ B=>?_;refine waD (λ h=>?_) λ A=>?_
     .have C:t.name=qfn:=jo.1 h;rw[qBH (show(apT t.name ks).name=qfn from C)];have n:isN (apT t.name ks) qfn=true:=yP.2 ⟨rfl,C⟩;have Z:=qaM (apT t.name ks) 0;have Y:=qaM (apT t.name ks) 1;refine waF (qcy (t:=apT t.name ks) (i:=0) s n (a:=2) (b:=2) (c:=1) (by decide) (by decide)) (waF (qcy (t:=apT t.name ks) (i:=1) s n (a:=2) (b:=2) (c:=1) (by decide) (by decide)) ?_);exact waC (qJJ _ _ (qaX J2 qbG rfl s 0) (by omega) (by omega)) (waE _)
     .rw[qyP (t:=apT t.name ks) (show isD t.name=false from by
         rw[<-kh,<-qIo];exact qj.1 U) (Qa.1 R) (λ h=>by obtain h|h|h:=h;exact Qa.1 Q h;exact Qa.1 O h;exact Qa.1 B h) (Qa.1 A)]
      exact waE _)
    (λ i x v r e N M z p=>by
     refine waJ ?_;simp only[qlO,qdY,qk];have l:=wb v;have J:=jN t x l;rw[qCD r];refine waG e (waF N (waC (G x l (by omega) (y x l) (qrg t g o x l)) (waD (λ h=>?_) λ h=>?_)))
     .rw[bnt,qj]at h;rw[if_pos (show(if(zU x).2≠0 then(zU x).2 else erN (t.kids.drop (i+1)))≠0 from by rw[if_pos h];exact h),if_pos h];exact waE _
     .rw[bnf,ql]at h;rw[if_neg (show ¬ (zU x).2≠0 from by omega)];have S:(nks (t.kids.take i)).length<=t.kids.length:=by rw[qsg,wk];omega
      refine waG (zh (by omega) (by omega)) ?_
      have z:=z λ k f=>by
       rw[yD v]at f;obtain f|f:=wm.1 f
       .exact p k f
       .rw[wF.1 f];exact h
      rw[M];refine z.congr λ m k=>?_;rw[qA9 v])
   refine waL (L:=λ m k=>JE m (jn m) k 0 t.kind t.name t.sort t.kids 0 [] 0 [] []) ?_;exact(u 0 (we _)) (λ k f=>by rw[xN]at f;cases f)
theorem qjM(t:T):qij t=if qcL t≠0 then(zT,qcL t)else if(zU t).2≠0 then(zT,(zU t).2)else if qS (zU t).1≠0 then(zT,qS (zU t).1)else zU t:=rfl
theorem qFT(t:T)(d:size t<=1000000000):Ev (λ m _=>qfT m t) (qij t):=by
 refine waK ?_;simp only[qvx,qgh,qk];rw[qjM];refine waC (qEr t d) (waD (λ h=>?_) λ h=>?_)
 .rw[bnt,qj]at h;rw[if_pos h];exact waE _
 rw[bnf,ql]at h;rw[if_neg (by omega)];let⟨c,e⟩:=qqF h;have f:=QO c;have g:=qyq t;refine waC (qHV t (by omega) e) (waD (λ a=>?_) λ a=>?_)
 .rw[ql]at a;rw[if_neg (by omega)];refine waC (qcR _ (by omega)) (waD (λ b=>?_) λ b=>?_)
  .rw[bnt,qj]at b;rw[if_pos b];exact waE _
  .rw[bnf,ql]at b;rw[if_neg (by omega)];exact waI (by rw[<-a])
 .rw[qj]at a;rw[if_pos a];exact waG (bnt.2 (qj.2 a)) (waE _)
theorem qG2(t:T)(d:size t<=1000000000):Ev (λ m _=>qhb m t) (qij t):=by
 refine waK ?_;simp only[qxg,qhk,qk];rw[qjM];refine waC (qEp t d) (waD (λ h=>?_) λ h=>?_)
 .rw[bnt,qj]at h;rw[if_pos h];exact waE _
 rw[bnf,ql]at h;rw[if_neg (by omega)];let⟨c,e⟩:=qqF h;have f:=QO c;have g:=qyq t;refine waC (qGC t (by omega) e (qIF t (qD0 c))) (waD (λ a=>?_) λ a=>?_)
 .rw[bnt,qj]at a;rw[if_pos a];exact waE _
 rw[bnf,ql]at a;rw[if_neg (by omega)];refine waC (qcS _ (by omega)) (waD (λ b=>?_) λ b=>?_)
 .rw[bnt,qj]at b;rw[if_pos b];exact waE _
 .rw[bnf,ql]at b;rw[if_neg (by omega)];exact waI (by rw[<-a])
theorem qvi(t:T):size (qij t).1<=400:=by
 rw[qjM];have:=qkb;split
 .show size zT<=_;omega
 .split
  .show size zT<=_;omega
  .split
   .show size zT<=_;omega
   .rename_i h;exact QO (xc h)
end Go.AmZ
namespace Go.AmZ
open Go Go.GxZ
def qfB(p:List UInt8->Bool):T->Bool:=T.para λ t a=>(!(t.kind==3)||p t.name)&&a.all id
theorem qrr(p:List UInt8->Bool)(t:T):qfB p t=((!(t.kind==3)||p t.name)&&(t.kids.map (qfB p)).all id):=T.para_eq _ _
def qaP:T->List T:=T.para λ t a=>t::a.flatten
theorem qfa(t:T):qaP t=t::(t.kids.map qaP).flatten:=T.para_eq _ _
theorem qtg(t:T):(qaP t).length=size t:=by
 refine T.ind (P:=λ t=>(qaP t).length=size t) ?_ t;intro t a;rw[qfa,qW,wz,List.length_flatten,xh];have:t.kids.map (List.length ∘ qaP)=t.kids.map size:=kZ λ k b=>a k b;rw[this];omega
theorem qNc(t:T):∀u∈qaP t,size u<=size t:=by
 refine T.ind (P:=λ t=>∀u∈qaP t,size u<=size t) ?_ t;intro t c u a;rw[qfa]at a;obtain rfl|a:=wx.1 a
 .exact wa _
 .let⟨l,d,a⟩:=vN.1 a;obtain⟨k,b,rfl⟩:=wA.1 d;have f:=c k b u a;have e:=jN t k b;omega
theorem qHk(p:List UInt8->Bool)(t:T):(qaP t).all (λ u => !(u.kind==3)||p u.name)=qfB p t:=by
 refine T.ind (P:=λ t=>(qaP t).all (λ u => !(u.kind==3)||p u.name)=qfB p t) ?_ t;intro t b;rw[qfa,qrr,ko,List.all_flatten];congr 1;rw[wak,wak];rw[xm,wu,wu];exact⟨λ h k a=>(b k a).symm.trans (h k a),λ h k a=>(b k a).trans (h k a)⟩
def pPl(n:List UInt8):Bool:=qg (ieq (qD n).2.2 3)
theorem qHt(n:List UInt8):Ev (λ m _=>qfc m n) (pPl n):=by
 refine waK ?_;simp only[qtB,qfm];refine waC (qzm n) (waI ?_);unfold pPl;rw[<-qtz]
theorem qHI(t:T):size t<=1000000000->Ev (λ m _=>zi m t) (qfB pPl t):=by
 induction t using T.ind with
 |h t j=>
   intro r;have s:=yR t;refine waK ?_;simp only[qn9,qab]
   have d:=qA (P:=λ i=>Ev (λ m k=>yH m (zi m) k t.kids t.kids.length i) (((t.kids.drop i).map (qfB pPl)).all id)) t.kids (by omega)
    (λ f=>by
     refine waJ ?_;simp only[qgp,J9];refine waH f (waI ?_);rw[wX];rfl)
    (λ i x l p f o n q=>by
     refine waJ ?_;simp only[qgp,J9,qk];have g:=wb l;have u:=jN t x g;rw[p,wv,ko];refine waG f (waF o (waC (j x g (by omega)) (waD (λ b=>?_) λ b=>?_)))
     .rw[bnt]at b;rw[b];exact waE _
     .rw[bnf]at b;rw[b,n];exact q)
   have a:Ev (λ m _=>yH m (zi m) m t.kids t.kids.length 0) ((t.kids.map (qfB pPl)).all id):=
    waL (L:=λ m k=>yH m (zi m) k t.kids t.kids.length 0) ((d 0 (we _)).res (by rw[wP]))
   rw[qrr];refine waD (λ c=>?_) λ c=>?_
   .rw[ql]at c;have e:(!(t.kind==3))=false:=by rw[c];rfl
    rw[e,xU];refine waC (qHt t.name) (waD (λ h=>?_) λ h=>?_)
    .rw[bnt]at h;rw[h];exact waE _
    .rw[bnf]at h;rw[h];exact a
   .rw[qj]at c;have e:(!(t.kind==3))=true:=by rw[wM,beq_eq_false_iff_ne];exact c
    rw[e,xx];exact a
theorem qNx(t:T):size t<=1000000000->Ev (λ m _=>QT m t) (qaP t):=by
 induction t using T.ind with
 |h t n=>
   intro r;have s:=yR t;have b:=qtg t;refine waK ?_;simp only[qDK,qg0,qk];rw[qfa]at b |-
   have a:∀i,((t.kids.take i).map qaP).flatten.length<=(t.kids.map qaP).flatten.length:=λ i=>by
    have:=congrArg (λ l=>(l.map qaP).flatten.length) (kC i t.kids);simp only[wV,xu,wd]at this;omega
   have c:=qA (P:=λ i=>Ev (λ m k=>qb5 m (QT m) k i t.kind t.name t.sort t.kids (t::((t.kids.take i).map qaP).flatten)) (t::(t.kids.map qaP).flatten)) t.kids (by omega)
    (λ d=>by
     refine waJ ?_;simp only[qrh,qhE];refine waH d ?_;rw[wH];exact waE _)
    (λ i x f u d p o j=>by
     refine waJ ?_;simp only[qrh,qhE,qk];have g:=wb f;have v:=jN t x g;have q:=a (i+1)
     have e:((t.kids.take (i+1)).map qaP).flatten=((t.kids.take i).map qaP).flatten++qaP x:=by
      rw[yD f,wV,xu];simp
     rw[e,wd]at q;rw[e]at j;rw[wz]at b;refine waG d (waF p (waC (n x g (by omega)) (waG (zh (by rw[wz];omega) (by omega)) ?_)));rw[o];exact j)
   refine waL (L:=λ m k=>qb5 m (QT m) k 0 t.kind t.name t.sort t.kids [t]) ?_;exact c 0 (we _)
def JY(t:T):Bool:=decide ((qij t).2=0)&&(js (qij t).1 t&&qfB pPl t)
theorem qyQ(t:T)(a:size t<=1000000000):Ev (λ m _=>qeu m t) (JY t):=by
 have c:=qvi t;refine waK ?_;simp only[qxW,qgX,qk];unfold JY;refine waC (qFT t a) (waD (λ h=>?_) λ h=>?_)
 .rw[ql]at h;rw[decide_eq_true h,w7];refine waC (qo5 _ _ (by omega) a) (waD (λ b=>?_) λ b=>?_)
  .rw[b,w7];exact waC (qHI t a) (waE _)
  .rw[b,kW];exact waE _
 .rw[qj]at h;rw[decide_eq_false h,kW];exact waE _
theorem qIj(t:T)(e:size t<=1000000000):Ev (λ m _=>qis m t) (JY t):=by
 have s:=qvi t;refine waK ?_;simp only[qz9,qeU,qk];unfold JY;refine waC (qG2 t e) (waD (λ h=>?_) λ h=>?_)
 .rw[bnt,qj]at h;rw[decide_eq_false h,kW];exact waE _
 rw[bnf,ql]at h;rw[decide_eq_true h,w7,qu7];refine waC (qgi _ _ e (by omega)) (waD (λ c=>?_) λ c=>?_)
 .rw[bnt]at c;rw[c,kW];exact waE _
 rw[bnf]at c;rw[c,w7,<-qHk];refine waC (qNx t e) ?_;have p:=qtg t;generalize qaP t=l at*
 have d:=qA (P:=λ i=>Ev (λ m k=>qah m k l i) ((l.drop i).all λ u => !(u.kind==3)||pPl u.name)) l (by omega)
  (λ g=>by
   refine waJ ?_;simp only[qnd,qfg];refine waH g (waI ?_);rw[wX];rfl)
  (λ i x r q g n j o=>by
   refine waJ ?_;simp only[qnd,qfg];rw[q,ko];refine waG g (waF n (waD (λ b=>?_) λ b=>?_))
   .rw[ql]at b;have f:(!(x.kind==3))=false:=by rw[b];rfl
    rw[f,xU];refine waF n (waC (qxN x.name) (waD (λ a=>?_) λ a=>?_))
    .have:pPl x.name=false:=by unfold pPl;rw[a];rfl
     rw[this];exact waE _
    .rw[j];refine o.res ?_;have:pPl x.name=true:=by unfold pPl;rw[a];rfl
     rw[this];rfl
   .rw[qj]at b;have f:(!(x.kind==3))=true:=by rw[wM,beq_eq_false_iff_ne];exact b
    rw[f,xx,j,w7];exact o)
 refine waL (L:=λ m k=>qah m k l 0) ?_;exact(d 0 (we _)).res (by rw[wP])
end Go.AmZ
namespace Go.AmZ
open Go Go.GxZ Go.Sort Go.Proofs Go.Proofs.YtinbdcelmgfniaaGreatDoor
def ju(k:Int)(t:T):List T:=(qaP t).filter λ x=>decide (x.kind=k)
def qkh(t:T):Bool:=(ju 1 t).isEmpty
theorem qrb(k:Int)(t:T):ju k t=(if t.kind=k then[t]else[])++(t.kids.map (ju k)).flatten:=by
 unfold ju;rw[qfa,List.filter_cons,List.filter_flatten,xh];by_cases h:t.kind=k<;>simp[h,vC,ju]
theorem qoA(k:Int)(t:T):(ju k t).length<=size t:=by
 have:=vR (λ x:T=>decide (x.kind=k)) (qaP t);rw[qtg]at this;exact this
theorem qHQ(k:Int)(t:T):∀u∈ju k t,size u<=size t:=λ u a=>qNc t u ((kN.1 a).1)
theorem qKL(x:T)(k:Int)(l:List T)(b:l.length<=1000000000):Ev (λ m _=>qat m x k l) ((k,l++(if x.kind=k then[x]else[]),()),()):=by
 refine waK ?_;simp only[qmW,qbs,qk];by_cases h:x.kind=k
 .rw[if_pos h];refine waG (ql.2 h) (waG (zh (by omega) (by omega)) (waF (a:=T.mk 0 [] 0 []) (by rw[yd];simp) (waI ?_)));rw[qd8];simp
 .rw[if_neg h,wy];exact waH (qj.2 h) (waE _)
theorem qMq(t:T)(k:Int):size t<=1000000000->∀l:List T,l.length+size t<=1000000000->Ev (λ m _=>zC m t k l) ((k,l++ju k t,()),()):=by
 induction t using T.ind with
 |h t v=>
   intro C l D;have w:=yR t;refine waK ?_;simp only[qpU,qau,qk];refine waC (qKL t k l (by omega)) ?_;simp only;obtain⟨b,a⟩:∃b,b=l++(if t.kind=k then[t]else[]):=⟨_,rfl⟩
   rw[<-a];have j:=qoA k t;rw[qrb,wd]at j;have r:b.length+((t.kids.map (ju k)).flatten).length=l.length+((if t.kind=k then[t]else[]).length+((t.kids.map (ju k)).flatten).length):=by rw[a,wd];omega
   have p:∀i,((t.kids.take i).map (ju k)).flatten.length<=(t.kids.map (ju k)).flatten.length:=λ i=>by
    have:=congrArg (λ l=>(l.map (ju k)).flatten.length) (kC i t.kids);simp only[wV,xu,wd]at this;omega
   have g:∀i x,t.kids[i]?=some x->b.length+((t.kids.take i).map (ju k)).flatten.length+size x<=1000000000:=λ i x c=>by
    have B:((t.kids.take i).map (ju k)).flatten.length<=szL (t.kids.take i):=by
     have o:∀l:List T,((l.map (ju k)).flatten).length<=szL l:=by
      intro l
      induction l with
      |nil=>simp[szL]
      |cons y l u=>rw[wv,xY,wd,zf];have:=qoA k y;omega
     exact o _
    have H:=Jl c;have G:szL t.kids+1<=size t:=by rw[qW];unfold szL;omega
    have F:b.length<=l.length+1:=by rw[a,wd];split<;>simp
    omega
   have f:=qA (P:=λ i=>Ev (λ m d=>jM m (zC m) d t.kids t.kids.length i k (b++((t.kids.take i).map (ju k)).flatten)) ((k,b++(t.kids.map (ju k)).flatten,()),())) t.kids (by omega)
    (λ n=>by
     refine waJ ?_;simp only[qhf,qaB];refine waH n ?_;rw[wH];exact waE _)
    (λ i x c E n A z s=>by
     refine waJ ?_;simp only[qhf,qaB,qk];have q:=wb c;have B:=jN t x q;refine waG n (waF A (waC (v x q (by omega) _ (by rw[wd];exact g i x c)) ?_));rw[z]
     have e:((t.kids.take (i+1)).map (ju k)).flatten=((t.kids.take i).map (ju k)).flatten++ju k x:=by
      rw[yD c,wV,xu];simp
     rw[e,<-wj]at s;exact s)
   rw[qrb,<-wj,<-a];refine waL (L:=λ m d=>jM m (zC m) d t.kids t.kids.length 0 k b) ?_;have:=f 0 (we _);simpa using this
theorem qM4{F G:T->T->Option Int}{l:List T}(h:∀x∈l,∀y∈l,F x y=G x y):Js F l=Js G l:=by
 funext i j;unfold Js;cases b:l[i%l.length]? with
 |none=>rfl
 |some x=>cases a:l[j%l.length]? with
   |none=>rfl
   |some y=>simp only;rw[h x (wb b) y (wb a)]
theorem qyW{a:Type}{F:T->T->Option a}{l:List T}(h:∀x∈l,∀y∈l,(F x y).isSome=true):qcx F l=true:=
 wu.2 λ x c=>wu.2 λ y b=>h x c y b
theorem qNy{n:Nat}{lt:Nat->Nat->Bool}(h:SWO lt):qtu n lt=true:=by
 unfold qtu;refine wu.2 λ i _=>?_;rw[wc];refine⟨by rw[h.irrefl];rfl,wu.2 λ j _=>wu.2 λ k _=>?_⟩;rw[wc];constructor
 .cases b:lt i j with
  |false=>rfl
  |true=>cases a:lt j k with
    |false=>rfl
    |true=>rw[h.trans i j k b a];rfl
 .cases b:lt i j with
  |true=>rfl
  |false=>cases a:lt j k with
    |true=>rfl
    |false=>rw[h.ntrans i j k b a];rfl
theorem qPR(l:List T):SWO (ltOf (Js (λ x y=>some (qs x y)) l)):=by
 have hlt:∀ i j,ltOf (Js (λ x y=>some (qs x y)) l) i j=true↔∃ x y,l[i % l.length]?=some x/\l[j % l.length]?=some y/\qs x y=-1 := λ i j=>by
  unfold ltOf Js;rw[decide_eq_true_iff];cases hx:l[i % l.length]? with
  | none=>simp
  | some x=>cases hy:l[j % l.length]? with
    | none=>simp
    | some y =>
      simp only[Option.getD_some];have:=yg.rng x y;constructor
      ·intro h;exact⟨x,y,rfl,rfl,by omega⟩
      ·rintro⟨_,_,h1,h2,h3⟩;cases h1;cases h2;omega
 refine⟨λ i=>?_,λ i j k h1 h2=>?_,λ i j k h1 h2=>?_⟩
 ·rw[Bool.eq_false_iff];intro h;obtain⟨x,y,h1,h2,h3⟩:=(hlt _ _).1 h;rw[h1]at h2;cases h2;rw[qrs]at h3;cases h3
 ·obtain⟨x,y,a1,a2,a3⟩:=(hlt _ _).1 h1;obtain⟨y',z,b1,b2,b3⟩:=(hlt _ _).1 h2;rw[a2]at b1;cases b1;exact(hlt _ _).2 ⟨x,z,a1,b2,yg.trans x y z a3 b3⟩
 ·rw[Bool.eq_false_iff]at h1 h2 |-
  intro h;obtain⟨x,z,a1,a2,a3⟩:=(hlt _ _).1 h;have hn:0<l.length:=by have:=getElem?_lt a1;omega
  obtain⟨y,hj⟩:∃ y,l[j % l.length]?=some y:=⟨_,List.getElem?_eq_getElem (xV _ hn)⟩
  have n1:qs x y≠-1 := λ he=>h1 ((hlt _ _).2 ⟨x,_,a1,hj,he⟩);have n2:qs y z≠-1 := λ he=>h2 ((hlt _ _).2 ⟨_,z,hj,a2,he⟩);have r1:=yg.rng x y;have r2:=yg.rng y z;rcases r1 with r1 | r1 | r1
  ·exact n1 r1
  ·have:=qaF _ _ r1;rw[<- this]at n2;exact n2 a3
  ·rcases r2 with r2 | r2 | r2
   ·exact n2 r2
   ·have:=qaF _ _ r2;rw[this]at n1;exact n1 a3
   ·have e1:qs y x=-1:=by rw[yg.anti];omega
    have e2:qs z y=-1:=by rw[yg.anti];omega
    have e3:=yg.trans _ _ _ e2 e1;have e4:=yg.anti x z;omega
theorem qB7{k:Type}{F:Nat->T->T->Option k}{g:T->T->k}(l:List T)(h:∀x∈l,∀y∈l,Ev (λ m _=>F m x y) (g x y)):∃B,∀m,B<=m->∀x∈l,∀y∈l,F m x y=some (g x y):=by
 have d:∀(x:T),(∀y∈l,Ev (λ m _=>F m x y) (g x y))->∀r:List T,(∀y∈r,y∈l)->∃B,∀m,B<=m->∀y∈r,F m x y=some (g x y):=by
  intro x n r
  induction r with
  |nil=>exact λ _=>⟨0,λ _ _ y f=>by cases f⟩
  |cons y r e=>
    intro b;let⟨B,j⟩:=e λ z a=>b z (wg _ a);let⟨D,i⟩:=n y (b y (wi ..));refine⟨max B D,λ m o z a=>?_⟩;obtain rfl|a:=wx.1 a
    .exact i m D (by omega) (wa _)
    .exact j m (by omega) z a
 have c:∀r:List T,(∀y∈r,y∈l)->∃B,∀m,B<=m->∀x∈r,∀y∈l,F m x y=some (g x y):=by
  intro r
  induction r with
  |nil=>exact λ _=>⟨0,λ _ _ y f=>by cases f⟩
  |cons x r e=>
    intro b;let⟨B,j⟩:=e λ z a=>b z (wg _ a);let⟨D,i⟩:=d x (h x (b x (wi ..))) l λ _ h=>h;refine⟨max B D,λ m o z a=>?_⟩;obtain rfl|a:=wx.1 a
    .exact i m (by omega)
    .exact j m (by omega) z a
 exact c l λ _ h=>h
theorem qDz{α:Type}{l:List α}{b:List Nat}:∀x∈pick l b,x∈l:=λ x a=>by
 unfold pick at a;let⟨i,_,h⟩:=kV.1 a;exact wb h
theorem qM2(l:List T)(hl:l.length<=100000)(hs:∀ t∈l,size t<=1000000000):∃ l',Ev (λ m _=>zd m l) l'/\l'.length=l.length/\∀ x∈l',x∈l:=by
 cases hl0:l with
 | nil=>exact⟨[],waK (Ev.congr (waE _) λ m _=>rfl),rfl,λ x h=>h⟩
 | cons x0 r0 =>
   rw[<- hl0];obtain⟨B,hB⟩:=qB7 (F := λ m x y=>qy m x y) l λ x hx y hy=>qdB x (hs x hx) y (hs y hy);have hne:l≠[]:=by rw[hl0];exact vL _ _
   have hO:=qPR l;obtain⟨hp,_⟩:=qsY (λ x y=>some (qs x y)) l hO;have hlt:∀ i∈qaU (λ x y=>some (qs x y)) l,i<l.length := λ i hi=>kS.1 (hp.mem_iff.1 hi);refine⟨pick l (qaU (λ x y=>some (qs x y)) l),waK ⟨B,λ m k hm _=>?_⟩,by rw[qos hlt,hp.length_eq,xG],qDz⟩;show zd (m+1) l=_;rw[qcO];have hcf:Js (qy m) l=Js (λ x y=>some (qs x y)) l:=qM4 (hB m hm);have hall:qcx (qy m) l=true:=qyW λ x hx y hy=>by rw[hB m hm x hx y hy];rfl
   have hix:qaU (qy m) l=qaU (λ x y=>some (qs x y)) l:=by unfold qaU;rw[hcf]
   have e:qog (qy m) l=cond (Nat.ble l.length 100000&&(qcx (qy m) l&&qtu l.length (ltOf (Js (qy m) l)))) (some (pick l (qaU (qy m) l))) none:=by rw[hl0];rfl
   rw[e,hcf,hall,hix,qNy hO,show Nat.ble l.length 100000=true from xK hl];rfl
theorem qG5(l:List T)(A:l.length<=100000)(v:∀t∈l,size t<=1000000000):∃r,Ev (λ m _=>qK m l) ((),r,())/\(r=[]↔l=[])/\r.length<=l.length/\∀x∈r,x∈l:=by
 cases b:l with
 |nil=>exact⟨[],waK (Ev.congr (waE _) λ m _=>rfl),Iff.rfl,wa _,λ x h=>h⟩
 |cons D E=>
   rw[<-b]
   let⟨B,z⟩:=qB7 (F:=λ m x y=>jg m x y) (g:=λ x y=>ieq (qs x y) 0) l λ x d y c=>by
    refine waK ?_;simp only[qud,qfr,qk];exact waC (qdB x (v x d) y (v y c)) (waE _)
   have n:l≠[]:=by rw[b];exact vL _ _
   have f:0<l.length:=xt.2 n;obtain⟨a,s⟩:∃a,a=qlj (λ x y=>some (ieq (qs x y) 0)) l:=⟨_,rfl⟩
   have o:∀i∈zO a l.length,i<l.length:=qyz
   have p:(zO a l.length).length<=l.length:=by
    have:=vR (λ i=>decide (i=0) || !a i (i-1)) (List.range l.length);rw[xG]at this;exact this
   have C:0∈zO a l.length:=kN.2 ⟨kS.2 f,by simp⟩;refine⟨pick l (zO a l.length),waK ⟨B,λ m k w _=>?_⟩,⟨λ h=>?_,λ h=>absurd h n⟩,by rw[qos o];exact p,qDz⟩
   .show qK (m+1) l=_;rw[qbL]
    have u:qlj (jg m) l=a:=by
     rw[s];funext i j;unfold qlj;cases d:l[i%l.length]? with
     |none=>rfl
     |some x=>cases c:l[j%l.length]? with
       |none=>rfl
       |some y=>simp only;rw[z m w x (wb d) y (wb c)]
    have q:qcx (jg m) l=true:=qyW λ x d y c=>by rw[z m w x d y c];rfl
    have e:qAF (jg m) l=cond (Nat.ble l.length 100000&&qcx (jg m) l) (some (pick l (zO (qlj (jg m) l) l.length))) none:=by rw[b];rfl
    unfold qvp;rw[e,q,u,show Nat.ble l.length 100000=true from xK A];rfl
   .have:=qos o;rw[h]at this;have G:=List.length_pos_of_mem C;simp at this;omega
theorem qG3(l:List T)(w:l.length<=100000)(f:∀t∈l,size t<=1000000000):∃o,Ev (λ m _=>qhe m l) ((),o,())/\(o=[]↔l=[]):=by
 let⟨u,e1,b,n⟩:=qM2 l w f;let⟨a,A,r,B,s⟩:=qG5 u (by omega) λ t v=>f t (n t v);refine⟨a,?_,r.trans ⟨λ h=>wh (by rw[<-b,h];rfl),λ h=>wh (by rw[b,h];rfl)⟩⟩;refine waK ?_;simp only[qwX,qdP];refine waC e1 (waG (by rw[b,Nat.beq_refl]) (waC A ?_))
 have c:=qA (P:=λ i=>Ev (λ m k=>JG m k a.length i a) ((),a,())) a (by omega)
  (λ g=>by
   refine waJ ?_;simp only[ql7,qdJ];exact waH g (waE _))
  (λ i x d C g q y z=>by
   refine waJ ?_;simp only[ql7,qdJ,qk];refine waG g (waF q (waC (qtd x (f x (n x (s x (wb d))))) (waF q ?_)));rw[y]
   have e:yw a (i:Int) x=a:=by
    rw[qd8];apply k9;intro j;by_cases p:i=j
    .subst p;rw[List.getElem?_set_self (getElem?_lt d)];exact d.symm
    .rw[List.getElem?_set_ne p]
   rw[e];exact z)
 exact waL (L:=λ m k=>JG m k a.length 0 a) (c 0 (we _))
theorem qMn(t:T)(d:size t<=100000):∃l,Ev (λ m _=>qmA m t) l/\(l=[]↔ju 1 t=[]):=by
 let⟨l,f,e⟩:=qG3 (ju 1 t) (wE (qoA 1 t) d) λ u c=>by have:=qHQ 1 t u c;omega
 refine⟨l,?_,e⟩;refine waK ?_;simp only[qEh,qks,qk];refine waC (a:=l) (waK ?_) (waE _);simp only[qz3,qh8,qk];have b:=qMq t 1 (by omega) [] (by rw[wZ];omega);rw[kX]at b;exact waC b (waC f (waI rfl))
end Go.AmZ
namespace Go.AmZ
open Go Go.GxZ
def nmL:List (List UInt8):=[[112,97,105,114],[101,110,99],[97,101,110,99],[112,107],[115,105,103,110],[104,97,115,104],[120,111,114],[122,101,114,111],[101,120,112],[109,117,108],[105,110,118],[111,110,101],[115,107],[115,104,107],[110,101,119]]
def esL:List (List UInt8×(Int×Int)):=[([112,97,105,114],(2,2)),([101,110,99],(2,2)),([97,101,110,99],(2,2)),([112,107],(1,1)),([115,105,103,110],(2,2)),([104,97,115,104],(1,1)),([120,111,114],(2,8)),([122,101,114,111],(0,0)),([101,120,112],(2,2)),([109,117,108],(2,8)),([105,110,118],(1,1)),([111,110,101],(0,0)),([115,107],(1,1)),([115,104,107],(2,2)),([110,101,119],(1,8))]
theorem qr8:esL.map (·.1)=nmL:=rfl
def qbp(n:List UInt8):Bool:=qv n qcD||(qv n qeA||qv n qhw)
def qot:List (List UInt8×(Int×Int))->List UInt8->Nat->Int
 |[],_,_=>-1
 |r::l,n,i=>if qv r.1 n=true then(i:Int)else qot l n (i+1)
def qHs:List (List UInt8)->List UInt8->Nat->Int
 |[],_,_=>0
 |r::l,n,i=>if qv r n=true then(i:Int)else qHs l n (i+1)
theorem qDo:∀(l:List (List UInt8×(Int×Int))) (n:List UInt8) (i:Nat),n∈l.map (·.1)->qot l n i=qHs (l.map (·.1)) n i/\∃(j:Nat) (r:List UInt8×(Int×Int)),qot l n i=((i+j:Nat):Int)/\l[j]?=some r/\r.1=n
 |[],_,_,h=>by cases h
 |r::l,n,i,h=>by
   rw[qot,wv,qHs];by_cases a:qv r.1 n=true
   .rw[if_pos a,if_pos a];exact⟨rfl,0,r,rfl,rfl,jo.1 a⟩
   .rw[if_neg a,if_neg a];rw[wv]at h;obtain h|h:=wx.1 h
    .exact absurd (jo.2 h.symm) a
    .let⟨e,j,q,d,c,b⟩:=qDo l n (i+1) h;exact⟨e,j+1,q,by rw[d];omega,by simpa using c,b⟩
def hdE(n:List UInt8):Int:=iw .u8 (iw .i64 (qf 16 (qHs nmL n 0)))
def bI:T->List Int:=T.para λ t a=>if t.kind=2 then[iw .u8 t.sort,iw .u8 t.name.length]++qaj t.name else(if qbp t.name then[hdE t.name]++[iw .u8 t.kids.length]else[hdE t.name])++a.flatten
theorem qAB(t:T):bI t=if t.kind=2 then[iw .u8 t.sort,iw .u8 t.name.length]++qaj t.name else(if qbp t.name then[hdE t.name]++[iw .u8 t.kids.length]else[hdE t.name])++(t.kids.map bI).flatten:=T.para_eq _ _
def okN(u:T):Prop:=(u.kind=2\/u.kind=3/\u.name∈nmL)/\u.name.length<=24
def okE(t:T):Prop:=∀u∈qaP t,okN u
theorem qEo{t:T}(h:okE t):okN t:=h t (by rw[qfa];exact wi ..)
theorem qFr{t k:T}(h:okE t)(b:k∈t.kids):okE k:=λ u a=>h u (by
 rw[qfa];exact wg _ (vN.2 ⟨_,wA.2 ⟨k,b,rfl⟩,a⟩))
theorem qvd(s:List UInt8):(qaj s).length=s.length:=wC ..
theorem qn2(a b:List Int):Q8 (a++b)=Q8 a++Q8 b:=wV ..
theorem qKo(s:List UInt8):Q8 (qaj s)=s:=by
 unfold Q8 qaj;rw[xh];refine(kZ (g:=id) λ c _=>?_).trans (List.map_id _);show UInt8.ofNat (Int.toNat ((c.toNat:Nat):Int))=c;rw[kF];exact UInt8.ofNat_toNat
theorem qOg(t:T):okE t->(bI t).length<=26*size t:=by
 induction t using T.ind with
 |h t d=>
   intro h;have f:=(qEo h).2;rw[qAB,qW];split
   .rw[wd,qvd];show 2+_<=_;omega
   .have c:∀l:List T,(∀k∈l,k∈t.kids)->((l.map bI).flatten).length<=26*(l.map size).sum:=by
      intro l
      induction l with
      |nil=>intro _;exact we _
      |cons k l a=>
        intro b;have f:=d k (b k (wi ..)) (qFr h (b k (wi ..)));have i:=a λ x e=>b x (wg _ e);rw[wv,xY,wd,wv,kQ];omega
    have:=c t.kids λ _ h=>h;rw[wd];have g:(if qbp t.name=true then[hdE t.name]++[iw .u8 t.kids.length]else[hdE t.name]).length<=2:=by split<;>simp
    omega
theorem qMX{n:List UInt8}(h:(qD n).2.2≠0)(a:pPl n=true):n∈nmL:=by
 have all:∀r∈yY,r.2.2.2≠3->r.1∈nmL:=by decide
 unfold pPl at a;unfold qD at h a;cases b:yY.find? λ r=>r.1==n with
 |none=>rw[b]at h;exact absurd rfl h
 |some r=>
   rw[b]at a;have e:=List.mem_of_find?_eq_some b;have d:=List.find?_some b;have c:r.1=n:=by simpa using d
   rw[bnt,qj]at a;rw[<-c];exact all r e a
theorem qGt{t:T}(h:jK t=0):t.name.length<=24/\(t.kind=1\/t.kind=2\/t.kind=3)/\(t.kind≠3->t.kids=[]):=by
 unfold jK qir at h
 have a:jl t.name=true->t.name.length<=24:=λ a=>by
  unfold jl at a;simp only[wc,decide_eq_true_eq]at a;exact a.1.1.2
 cases b:jl t.name with
 |false=>
   rw[b]at h;simp only[xo,if_false]at h;exfalso;revert h
   repeat' split
   all_goals omega
 |true=>
   rw[b]at h;refine⟨a b,?_,λ c=>?_⟩
   .revert h;repeat' split
    all_goals intro h;omega
   .apply wh;revert h;repeat' split
    all_goals intro h;omega
theorem qOl(t:T):jO t=0->zr t=0->qfB pPl t=true->ju 1 t=[]->okE t:=by
 induction t using T.ind with
 |h t r=>
   intro v j e i;let⟨x,w⟩:=qm3 v;let⟨p,o,n⟩:=qGt x;rw[qrr,wc]at e;rw[qrb]at i;let⟨f,q⟩:=ke.1 i;have c:t.kind≠1:=λ h=>by rw[if_pos h]at f;cases f
   intro u b;rw[qfa]at b;obtain rfl|b:=wx.1 b
   .refine⟨?_,p⟩;obtain h|h|h:=o
    .exact absurd h c
    .exact .inl h
    .refine .inr ⟨h,?_⟩;let⟨z,_⟩:=qcP h j;let⟨m,_⟩:=qs9 h z;have g:=e.1;rw[show(u.kind==3)=true from beq_iff_eq.2 h]at g;exact qMX m (by simpa using g)
   .let⟨l,s,b⟩:=vN.1 b;obtain⟨k,a,rfl⟩:=wA.1 s
    have d:t.kind=3:=by
     by_cases h:t.kind=3
     .exact h
     .rw[n h]at a;cases a
    let⟨_,y⟩:=qcP d j;refine r k a (w k a) (y k a) ?_ ?_ u b
    .have:=wu.1 e.2 (qfB pPl k) (wA.2 ⟨k,a,rfl⟩);exact this
    .exact List.flatten_eq_nil_iff.1 q _ (wA.2 ⟨k,a,rfl⟩)
end Go.AmZ
namespace Go.AmZ
open Go Go.GxZ
theorem qFc(t:T):T.mk t.kind t.name t.sort t.kids=t:=qk t
theorem qN5(t:T):Ev (λ m _=>zc m esL t) ((t,()),(qot esL t.name 0,())):=by
 refine waK ?_;simp only[Jy,qO]
 have b:=qA (P:=λ i=>Ev (λ m k=>qt m k esL esL.length i t.kind t.name t.sort t.kids) ((t,()),(qot (esL.drop i) t.name i,()))) esL (by decide)
  (λ c=>by
   refine waJ ?_;simp only[yU,qP];refine waH c (waI ?_);rw[wX,qot,qFc])
  (λ i x j f c e d g=>by
   refine waJ ?_;simp only[yU,qP,qFc];refine waG c (waF e ?_);refine waC (a:=((t,()),(qv x.1 t.name,()))) (waK (waI ?_)) ?_
   .show _=_;simp only[qlt,qaQ,qk]
   rw[f,qot,d];refine waD (λ h=>?_) λ h=>?_
   .rw[if_pos h];simp only[qk];exact waE _
   .rw[if_neg (by rw[show qv x.1 t.name=false from h];decide)];exact g)
 exact waL (L:=λ m k=>qt m k esL esL.length 0 t.kind t.name t.sort t.kids) (b 0 (we _))
theorem qMi(n:List UInt8):Ev (λ m _=>qf3 m n) (qbp n):=by
 refine waK ?_;simp only[qvW,qgf];unfold qbp;refine waD (λ h=>waI ?_) λ h=>waD (λ a=>waI ?_) λ a=>waI ?_
 .rw[show qv n qcD=true from h];rfl
 .rw[show qv n qcD=false from h,show qv n qeA=true from a];rfl
 .rw[show qv n qcD=false from h,show qv n qeA=false from a];rfl
theorem qI5:∀r∈esL,qg (ieq r.2.1 r.2.2)=qbp r.1:=by decide
theorem qJm(t:T)(i:Nat):((t.kids.take i).map bI).flatten.length<=(t.kids.map bI).flatten.length:=by
 have:=congrArg (λ l=>(l.map bI).flatten.length) (kC i t.kids);simp only[wV,xu,wd]at this;omega
theorem qzp{t x:T}{i:Nat}(a:t.kids[i]?=some x):((t.kids.take (i+1)).map bI).flatten=((t.kids.take i).map bI).flatten++bI x:=by
 rw[yD a,wV,xu];simp
theorem qKE(t:T):okE t->size t<=100000->∀c:List Int,c.length+(bI t).length<=1000000000->Ev (λ m _=>z8 m c t) ((),(c++bI t,())):=by
 induction t using T.ind with
 |h t B=>
   intro f J c C;let⟨l,K⟩:=qEo f;refine waK ?_;simp only[qtE,qce,qk];obtain l|⟨l,g⟩:=l
   .rw[qAB,if_pos l];refine waG (bnt.2 (qj.2 (by omega))) ?_;refine waG (zh (by omega) (by omega)) ?_;refine waG (zh (by rw[wd,qvd];show(c.length+2+_)*1<=_;omega) (by omega)) (waI ?_);rw[wj]
   .have q:t.kind≠2:=by omega
    refine waH (bnf.2 (ql.2 l)) ?_;let⟨A,j,r,v,u,z⟩:=qDo esL t.name 0 (by rw[qr8];exact g);rw[wD]at v;refine waC (a:=esL) (waK (waE _)) (waC (qN5 t) ?_);refine waG (zh (by omega) (by omega)) (waC (a:=esL) (waK (waE _)) (waF (a:=r) (by rw[v,yd,u]) ?_));refine waC (a:=qbp t.name) (waK (waI ?_)) ?_
    .simp only[qd5,QB];rw[<-z];exact qI5 r (wb u)
    rw[show iw .u8 (iw .i64 (qf 16 (qot esL t.name 0)))=hdE t.name by unfold hdE;rw[A,qr8]];obtain⟨e,b⟩:∃e,e=(if qbp t.name then[hdE t.name]++[iw .u8 (t.kids.length:Int)]else[hdE t.name]):=⟨_,rfl⟩
    have w:bI t=e++(t.kids.map bI).flatten:=by rw[qAB,if_neg q,b]
    rw[w,wd]at C;have D:=yR t
    have o:=qA (P:=λ i=>Ev (λ m k=>jU m (z8 m) k t.kids t.kids.length i ((c++e)++((t.kids.take i).map bI).flatten)) ((),(c++bI t,()))) t.kids (by omega)
     (λ s=>by
      refine waJ ?_;simp only[qjA,qck];refine waH s (waI ?_);rw[wH,w,wj])
     (λ i x p G s F E y=>by
      refine waJ ?_;simp only[qjA,qck,qk];have g:=wb p;have M:=jN t x g;have I:=qJm t (i+1);rw[qzp p,wd]at I;refine waG s (waF F (waC (B x g (qFr f g) (by omega) _ (by rw[wd,wd];omega)) ?_));rw[qzp p,<-wj]at y;rw[E];exact y)
    have d:=o 0 (we _);rw[xN,vt,List.flatten_nil,wy]at d;cases n:qbp t.name with
    |true=>
      rw[n]at b;have b:e=[hdE t.name]++[iw .u8 (t.kids.length:Int)]:=b;have H:e.length=2:=by rw[b];rfl
      rw[b,<-wj]at d;exact waG rfl (waG (zh (by rw[wd];show(c.length+1+1)*1<=_;omega) (by omega)) (waL (L:=λ m k=>jU m (z8 m) k t.kids t.kids.length 0 _) d))
    |false=>
      rw[n]at b;have b:e=[hdE t.name]:=b;rw[b]at d;exact waH rfl (waL (L:=λ m k=>jU m (z8 m) k t.kids t.kids.length 0 _) d)
end Go.AmZ
namespace Go.AmZ
open Go Go.GxZ
def okC(i:Nat)(c:UInt8):Bool:=if i=0 then qfq (c.toNat:Int)else Qb (c.toNat:Int)
def nmE(s:List UInt8)(b:Nat):Nat->Nat->Option Nat
 |0,_=>none
 |d+1,i=>match s[b+i]? with
   |none=>some (b+i)
   |some c=>cond (okC i c) (nmE s b d (i+1)) (some (b+i))
def hdN(s:List UInt8)(a:Nat):Option (T×Nat)×Nat:=match s[a]? with
 |none=>(none,a)
 |some c=>if c.toNat<=5 then(match s[a+1]? with
   |none=>(none,a+1)
   |some n=>if n.toNat<1\/24<n.toNat then(none,a+1)else match nmE s (a+2) n.toNat 0 with
     |some e=>(none,e)
     |none=>(some (.mk 2 ((s.take (a+2+n.toNat)).drop (a+2)) c.toNat [],0),a+2+n.toNat))
   else if c.toNat<16 then(none,a)else match esL[c.toNat-16]? with
    |none=>(none,a)
    |some r=>if qbp r.1=true then(match s[a+1]? with
      |none=>(none,a+1)
      |some k=>if(k.toNat:Int)<r.2.1\/r.2.2<(k.toNat:Int)then(none,a+1)else(some (.mk 3 r.1 0 [],k.toNat),a+2))
      else(some (.mk 3 r.1 0 [],r.2.1.toNat),a+1)
theorem iwc(c:UInt8):iw .i64 ((c.toNat:Nat):Int)=(c.toNat:Int):=by
 have:=c.toNat_lt;exact Qe (by omega)
theorem iwn{n:Nat}(d:Nat)(h:n+d<2^62):iw .i64 (qf (n:Int) (d:Int))=((n+d:Nat):Int):=by
 rw[qib,Qe (by omega)]
theorem qrS(s:List UInt8)(a:Nat)(b d:Int)(j:s.length<2^60):
  Ev (λ m _=>zl m (s,((a:Int),false)) b d) (match s[a]? with
   |none=>(((s,((a:Int),true)),()),(b,()))
   |some c=>if b<=(c.toNat:Int)/\(c.toNat:Int)<=d then(((s,(((a+1:Nat):Int),false)),()),((c.toNat:Int),()))else(((s,((a:Int),true)),()),(b,()))):=by
 refine waK ?_;simp only[qmD,qbl];refine waH rfl ?_;cases h:s[a]? with
 |none=>exact waG (qbi.2 (by have:=List.getElem?_eq_none_iff.1 h;omega)) (waE _)
 |some c=>
   have k:=(List.getElem?_eq_some_iff.1 h).1;have e:qe s (a:Int)=some c:=by rw[yd];exact h
   refine waH (J8.2 (by omega)) (waF e ?_);rw[iwc];by_cases g:b<=(c.toNat:Int)
   .refine waH (qw.2 g) (waF e ?_);rw[iwc];by_cases f:(c.toNat:Int)<=d
    .have e1:iw .i64 (qf (a:Int) 1)=((a+1:Nat):Int):=iwn 1 (by omega);rw[e1]
     have i:iw .i64 (yc ((a+1:Nat):Int) 1)=(a:Int):=by
      rw[show yc ((a+1:Nat):Int) 1=(a:Int) by unfold yc;omega,Qe (by omega)]
     rw[i];refine waH (qw.2 f) (waF e (waI ?_));simp only[];rw[if_pos ⟨g,f⟩,iwc]
    .refine waG (qz.2 (by omega)) (waI ?_);simp only[];rw[if_neg (λ h=>f h.2)]
   .refine waG (qz.2 (by omega)) (waI ?_);simp only[];rw[if_neg (λ h=>g h.1)]
theorem qDu{s:List UInt8}{b:Nat}:∀{d i:Nat},nmE s b d i=none->∀j,j<d->b+i+j<s.length
 |0,_,_,j,f=>by omega
 |d+1,i,h,j,f=>by
   unfold nmE at h;split at h
   .cases h
   .rename_i c g;have e:=(List.getElem?_eq_some_iff.1 g).1;cases a:okC i c with
    |false=>rw[a]at h;cases h
    |true=>
      rw[a]at h;have h:nmE s b d (i+1)=none:=h;cases j with
      |zero=>exact e
      |succ j=>have:=qDu h j (by omega);omega
theorem qJb{α:Type}(i:Nat)(c:UInt8)(A B:Option α):(cond (ile 97 (c.toNat:Int)) (cond (ile (c.toNat:Int) 122) A (cond (ile 65 (c.toNat:Int)) (cond (qg (ile (c.toNat:Int) 90)) (cond (ieq (i:Int) 0) B (cond (ilt (c.toNat:Int) 48) (cond (qg (ieq (c.toNat:Int) 95)) (cond (qg (ieq (c.toNat:Int) 35)) B A) A) (cond (ilt 57 (c.toNat:Int)) (cond (qg (ieq (c.toNat:Int) 95)) (cond (qg (ieq (c.toNat:Int) 35)) B A) A) A))) A) (cond (ieq (i:Int) 0) B (cond (ilt (c.toNat:Int) 48) (cond (qg (ieq (c.toNat:Int) 95)) (cond (qg (ieq (c.toNat:Int) 35)) B A) A) (cond (ilt 57 (c.toNat:Int)) (cond (qg (ieq (c.toNat:Int) 95)) (cond (qg (ieq (c.toNat:Int) 35)) B A) A) A))))) (cond (ile 65 (c.toNat:Int)) (cond (qg (ile (c.toNat:Int) 90)) (cond (ieq (i:Int) 0) B (cond (ilt (c.toNat:Int) 48) (cond (qg (ieq (c.toNat:Int) 95)) (cond (qg (ieq (c.toNat:Int) 35)) B A) A) (cond (ilt 57 (c.toNat:Int)) (cond (qg (ieq (c.toNat:Int) 95)) (cond (qg (ieq (c.toNat:Int) 35)) B A) A) A))) A) (cond (ieq (i:Int) 0) B (cond (ilt (c.toNat:Int) 48) (cond (qg (ieq (c.toNat:Int) 95)) (cond (qg (ieq (c.toNat:Int) 35)) B A) A) (cond (ilt 57 (c.toNat:Int)) (cond (qg (ieq (c.toNat:Int) 95)) (cond (qg (ieq (c.toNat:Int) 35)) B A) A) A)))))=cond (okC i c) A B:=by
 generalize a:((c.toNat:Nat):Int)=x;unfold okC;rw[a];clear a;have b:ieq (i:Int) 0=decide (i=0):=by rw[qyj,xm,decide_eq_true_iff,decide_eq_true_iff];omega
 rw[b];simp only[qyj];have o:ilt x 48 = !decide (48<=x):=by unfold ilt;rw[<-decide_not,xm,decide_eq_true_iff,decide_eq_true_iff];omega
 have n:ilt 57 x = !decide (x<=57):=by unfold ilt;rw[<-decide_not,xm,decide_eq_true_iff,decide_eq_true_iff];omega
 rw[o,n];unfold Qb qfq qqs ile qg;by_cases m:i=0<;>by_cases l:97<=x<;>by_cases k:x<=122<;>by_cases j:65<=x<;>by_cases h:x<=90<;>by_cases g:48<=x<;>by_cases f:x<=57<;>by_cases e:x=95<;>by_cases d:x=35<;>simp[m,l,k,j,h,g,f,e,d]<;>omega
theorem qBW(s:List UInt8)(g:s.length<2^60)(b n:Nat)(j:n<=24):∀d i,i+d=n->b+i<=s.length->
  Ev (λ m k=>yj m k b n i s ((b+i:Nat):Int) false) (match nmE s b d i with
   |some e=>(((s,((e:Int),true)),()),([],()))
   |none=>(((s,(((b+n:Nat):Int),false)),()),((s.take (b+n)).drop b,())))
 |0,i,l,a=>by
   refine waJ ?_;simp only[qbm,Ql];obtain rfl:i=n:=by omega
   refine waH (qw.2 (vk _)) ?_;refine waG (by unfold inb;rw[decide_eq_true_iff];omega) (waG (by unfold inb;rw[decide_eq_true_iff];omega) (waI ?_));rfl
 |d+1,i,l,a=>by
   refine waJ ?_;simp only[qbm,Ql];refine waG (qz.2 (by omega)) (waH rfl ?_);rw[nmE];cases h:s[b+i]? with
   |none=>exact waG (qbi.2 (by have:=List.getElem?_eq_none_iff.1 h;omega)) (waE _)
   |some c=>
     have p:=(List.getElem?_eq_some_iff.1 h).1;refine waH (J8.2 (by omega)) (waF (by rw[yd];exact h) ?_);have f:=qBW s g b n j d (i+1) (by omega) (by omega);have e1:iw .i64 (qf (i:Int) 1)=((i+1:Nat):Int):=iwn 1 (by omega);have o:iw .i64 (qf ((b+i:Nat):Int) 1)=((b+(i+1):Nat):Int):=iwn (n:=b+i) 1 (by omega);rw[e1,o];refine Ev.congr (F:=λ m k=>cond (okC i c) (yj m k b n ((i+1:Nat):Int) s ((b+(i+1):Nat):Int) false) (some (((s,(((b+i:Nat):Int),true)),()),([],())))) ?_ λ m k=>qJb i c _ _;simp only[];cases okC i c with
     |true=>exact f
     |false=>exact waE _
theorem qBC(s:List UInt8)(b a:Int):Ev (λ m k=>yj m k b 1 0 s a true) (((s,(a,true)),()),([],())):=by
 refine waJ ?_;simp only[qbm,Ql];exact waG rfl (waG rfl (waE _))
theorem qNr(s:List UInt8)(c:s.length<2^60)(a:Nat):Ev (λ m _=>Jg m (s,((a:Int),false))) (match s[a]? with
  |none=>(((s,((a:Int),true)),()),([],()))
  |some n=>if n.toNat<1\/24<n.toNat then(((s,((a:Int),true)),()),([],()))else match nmE s (a+1) n.toNat 0 with
    |some e=>(((s,((e:Int),true)),()),([],()))
    |none=>(((s,(((a+1+n.toNat:Nat):Int),false)),()),((s.take (a+1+n.toNat)).drop (a+1),()))):=by
 refine waK ?_;simp only[qmT,Ju];have b:=qrS s a 1 24 c;cases h:s[a]? with
 |none=>
   rw[h]at b;exact waC b (waL (qBC s a a))
 |some n=>
   rw[h]at b;simp only[]at b |-
   by_cases d:n.toNat<1\/24<n.toNat
   .rw[if_neg (by omega)]at b;rw[if_pos d];exact waC b (waL (qBC s a a))
   .rw[if_pos (by omega)]at b;rw[if_neg d];have f:=(List.getElem?_eq_some_iff.1 h).1;exact waC b (waL (qBW s c (a+1) n.toNat (by omega) n.toNat 0 (by omega) (by omega)))
theorem qdw:Ev (λ m _=>yr m) esL:=by
 refine waK ?_;simp only[qre,qdH];exact waE _
theorem qnL{r:List UInt8×(Int×Int)}(a:r∈esL):Ev (λ m _=>yz m (r.1,(r.2.1,r.2.2))) (qbp r.1):=by
 refine waK ?_;simp only[qd5,QB];exact waI (qI5 r a)
theorem qqP:∀r∈esL,0<=r.2.1/\r.2.1<=8/\r.2.2<=8:=by decide
theorem qsn(s:List UInt8)(D:s.length<2^60)(b:Nat):(∀t n p,hdN s b=(some (t,n),p)->Ev (λ m _=>qx m (s,((b:Int),false))) (((s,((p:Int),false)),()),((t.kind,(t.name,(t.sort,([],((n:Int),()))))),())))/\
  (∀e,hdN s b=(none,e)->∃nk nm sk lf,Ev (λ m _=>qx m (s,((b:Int),false))) (((s,((e:Int),true)),()),((nk,(nm,(sk,([],(lf,()))))),()))):=by
 have K:∃v:(Val RD×Unit)×((Int×List UInt8×Int×List T×Int×Unit)×Unit),Ev (λ m _=>qx m (s,((b:Int),false))) v/\match hdN s b with
   |(some (t,n),p)=>v=(((s,((p:Int),false)),()),((t.kind,(t.name,(t.sort,([],((n:Int),()))))),()))
   |(none,e)=>∃nk nm sk lf,v=(((s,((e:Int),true)),()),((nk,(nm,(sk,([],(lf,()))))),())):=by
  have y:(∀c,s[b]?=some c->¬ c.toNat<=5)->∃v:(Val RD×Unit)×((Int×List UInt8×Int×List T×Int×Unit)×Unit),Ev (λ m _=>qb (yr m) λ J=>qb (yr m) λ I=>qb (zl m (s,((b:Int),false)) 16 (iw .i64 (yc (iw .i64 (qf 16 (List.length I))) 1))) λ j=>qb (qe J (iw .i64 (yc j.2.1 16))) λ g=>qb (yz m (g.1,(g.2.1,g.2.2))) λ H=>cond H (qb (zl m (j.1.1.1,(j.1.1.2.1,j.1.1.2.2)) g.2.1 g.2.2) λ o=>some (((o.1.1.1,(o.1.1.2.1,o.1.1.2.2)),()),((3,(g.1,(0,([],(o.2.1,()))))),()))) (some (((j.1.1.1,(j.1.1.2.1,j.1.1.2.2)),()),((3,(g.1,(0,([],(g.2.1,()))))),())))) v/\match hdN s b with
   |(some (t,n),p)=>v=(((s,((p:Int),false)),()),((t.kind,(t.name,(t.sort,([],((n:Int),()))))),()))
   |(none,e)=>∃nk nm sk lf,v=(((s,((e:Int),true)),()),((nk,(nm,(sk,([],(lf,()))))),())):=by
   intro B;have f:=qrS s b 16 30 D
   have fail:(match s[b]? with
    |none=>True
    |some c=>c.toNat<16\/30<c.toNat)->∃v:(Val RD×Unit)×((Int×List UInt8×Int×List T×Int×Unit)×Unit),Ev (λ m _=>qb (yr m) λ J=>qb (yr m) λ I=>qb (zl m (s,((b:Int),false)) 16 (iw .i64 (yc (iw .i64 (qf 16 (List.length I))) 1))) λ j=>qb (qe J (iw .i64 (yc j.2.1 16))) λ g=>qb (yz m (g.1,(g.2.1,g.2.2))) λ H=>cond H (qb (zl m (j.1.1.1,(j.1.1.2.1,j.1.1.2.2)) g.2.1 g.2.2) λ o=>some (((o.1.1.1,(o.1.1.2.1,o.1.1.2.2)),()),((3,(g.1,(0,([],(o.2.1,()))))),()))) (some (((j.1.1.1,(j.1.1.2.1,j.1.1.2.2)),()),((3,(g.1,(0,([],(g.2.1,()))))),())))) v/\match hdN s b with
   |(some (t,n),p)=>v=(((s,((p:Int),false)),()),((t.kind,(t.name,(t.sort,([],((n:Int),()))))),()))
   |(none,e)=>∃nk nm sk lf,v=(((s,((e:Int),true)),()),((nk,(nm,(sk,([],(lf,()))))),())):=by
     intro F
     have L:Ev (λ m _=>zl m (s,((b:Int),false)) 16 30) (((s,((b:Int),true)),()),(16,())):=by
      cases h:s[b]? with
      |none=>rw[h]at f;exact f
      |some c=>
        rw[h]at f F;simp only[]at f F;rw[if_neg (by omega)]at f;exact f
     have A:hdN s b=(none,b):=by
      unfold hdN;cases h:s[b]? with
      |none=>rfl
      |some c=>
        rw[h]at F;simp only[]at F |-
        rw[if_neg (B c h)];by_cases C:c.toNat<16
        .rw[if_pos C]
        .rw[if_neg C,show esL[c.toNat-16]?=none from List.getElem?_eq_none_iff.2 (by show 15<=_;omega)]
     rw[A];refine⟨_,waC qdw (waC qdw (waC L (waF (a:=([112,97,105,114],(2,2))) rfl (waC (qnL (r:=([112,97,105,114],(2,2))) (wi ..)) (waH rfl (waE _)))))),3,_,0,_,rfl⟩
   cases h:s[b]? with
   |none=>rw[h]at fail;exact fail trivial
   |some c=>
     by_cases E:c.toNat<16\/30<c.toNat
     .exact fail (by rw[h];exact E)
     .rw[h]at f;simp only[]at f;rw[if_pos (by omega)]at f;have z:c.toNat-16<esL.length:=by show _<15;omega
      have q:=List.getElem?_eq_getElem z;generalize esL[c.toNat-16]=r at q;have i:=wb q;let⟨R,Q,P⟩:=qqP r i
      have A:hdN s b=(if qbp r.1=true then(match s[b+1]? with
        |none=>(none,b+1)
        |some k=>if(k.toNat:Int)<r.2.1\/r.2.2<(k.toNat:Int)then(none,b+1)else(some (.mk 3 r.1 0 [],k.toNat),b+2))
       else(some (.mk 3 r.1 0 [],r.2.1.toNat),b+1)):=by
       unfold hdN;rw[h];simp only[];rw[if_neg (B c h),if_neg (by omega),q]
      rw[A]
      have w:qe esL (iw .i64 (yc (c.toNat:Int) 16))=some r:=by
       rw[show iw .i64 (yc (c.toNat:Int) 16)=((c.toNat-16:Nat):Int) by rw[show yc (c.toNat:Int) 16=((c.toNat-16:Nat):Int) by unfold yc;omega,Qe (by omega)],yd];exact q
      cases u:qbp r.1 with
      |false=>
        rw[if_neg (by decide)];refine⟨_,waC qdw (waC qdw (waC f (waF w (waC (qnL i) (waH u (waE _)))))),?_⟩;have e:((r.2.1.toNat:Nat):Int)=r.2.1:=by omega
        show _=_;rw[e];rfl
      |true=>
        rw[if_pos rfl];have d:=qrS s (b+1) r.2.1 r.2.2 D;cases l:s[b+1]? with
        |none=>rw[l]at d;exact⟨_,waC qdw (waC qdw (waC f (waF w (waC (qnL i) (waG u (waC d (waE _))))))),3,_,0,_,rfl⟩
        |some k=>
          rw[l]at d;simp only[]at d |-
          by_cases N:(k.toNat:Int)<r.2.1\/r.2.2<(k.toNat:Int)
          .rw[if_neg (by omega)]at d;rw[if_pos N];exact⟨_,waC qdw (waC qdw (waC f (waF w (waC (qnL i) (waG u (waC d (waE _))))))),3,_,0,_,rfl⟩
          .rw[if_pos (by omega)]at d;rw[if_neg N];exact⟨_,waC qdw (waC qdw (waC f (waF w (waC (qnL i) (waG u (waC d (waE _))))))),rfl⟩
  cases h:s[b]? with
  |none=>
    let⟨v,l,d⟩:=y (by rw[h];intro c u;cases u);refine⟨v,waK ?_,d⟩;simp only[qbV,Qk];exact waH (qw.2 (by have:=List.getElem?_eq_none_iff.1 h;omega)) l
  |some c=>
    have S:=(List.getElem?_eq_some_iff.1 h).1;have w:qe s (b:Int)=some c:=by rw[yd];exact h
    by_cases B:c.toNat<=5
    .have f:=qrS s b 0 5 D;rw[h]at f;simp only[]at f;rw[if_pos (by omega)]at f;have i:=qNr s D (b+1)
     have A:hdN s b=(match s[b+1]? with
      |none=>(none,b+1)
      |some n=>if n.toNat<1\/24<n.toNat then(none,b+1)else match nmE s (b+2) n.toNat 0 with
        |some e=>(none,e)
        |none=>(some (.mk 2 ((s.take (b+2+n.toNat)).drop (b+2)) c.toNat [],0),b+2+n.toNat)):=by
      unfold hdN;rw[h];simp only[];rw[if_pos B]
     rw[A]
     have G:∀x,Ev (λ m _=>Jg m (s,(((b+1:Nat):Int),false))) x->Ev (λ m _=>qx m (s,((b:Int),false))) (((x.1.1.1,(x.1.1.2.1,x.1.1.2.2)),()),((2,(x.2.1,((c.toNat:Int),([],(0,()))))),())):=λ x O=>by
      refine waK ?_;simp only[qbV,Qk];exact waG (qz.2 (by omega)) (waF w (waG (qbi.2 (by omega)) (waC f (waC O (waE _)))))
     cases l:s[b+1]? with
     |none=>rw[l]at i;exact⟨_,G _ i,2,_,_,_,rfl⟩
     |some n=>
       rw[l]at i;simp only[]at i |-
       by_cases E:n.toNat<1\/24<n.toNat
       .rw[if_pos E]at i |-;exact⟨_,G _ i,2,_,_,_,rfl⟩
       .rw[if_neg E]at i |-
        cases d:nmE s (b+2) n.toNat 0 with
        |some e=>rw[show b+1+1=b+2 from rfl,d]at i;exact⟨_,G _ i,2,_,_,_,rfl⟩
        |none=>rw[show b+1+1=b+2 from rfl,d]at i;exact⟨_,G _ i,rfl⟩
    .let⟨v,l,d⟩:=y (by rw[h];intro c' u;cases u;exact B);refine⟨v,waK ?_,d⟩;simp only[qbV,Qk];exact waG (qz.2 (by omega)) (waF w (waH (J8.2 (by omega)) l))
 let⟨v,l,d⟩:=K;refine⟨λ t n p M=>?_,λ e M=>?_⟩
 .rw[M]at d;have d:v=_:=d;rw[<-d];exact l
 .rw[M]at d;obtain⟨nk,nm,sk,lf,d⟩:∃nk nm sk lf,v=_:=d;exact⟨nk,nm,sk,lf,by rw[<-d];exact l⟩
end Go.AmZ
namespace Go.AmZ
open Go Go.GxZ
def Q3(R:Nat->Option T×Nat):Nat->Nat->Option (List T)×Nat
 |0,p=>(some [],p)
 |n+1,p=>match R p with
   |(none,e)=>(none,e)
   |(some k,a)=>match Q3 R n a with
     |(none,e)=>(none,e)
     |(some ks,q)=>(some (k::ks),q)
def rdT(s:List UInt8):Nat->Nat->Option T×Nat
 |0,p=>(none,p)
 |f+1,p=>match hdN s p with
   |(none,e)=>(none,e)
   |(some (t,n),q)=>match Q3 (rdT s f) n q with
     |(none,e)=>(none,e)
     |(some ks,a)=>(some (.mk t.kind t.name t.sort ks),a)
theorem qed{s:List UInt8}{p q n:Nat}{t:T}(h:hdN s p=(some (t,n),q)):p<q/\q<=s.length/\n<=8/\t.kids=[]/\t.name.length<=24:=by
 unfold hdN at h;cases g:s[p]? with
 |none=>rw[g]at h;cases h
 |some c=>
   rw[g]at h;have u:=(List.getElem?_eq_some_iff.1 g).1;simp only[]at h;split at h
   .cases a:s[p+1]? with
    |none=>rw[a]at h;cases h
    |some k=>
      rw[a]at h;have f:=(List.getElem?_eq_some_iff.1 a).1;simp only[]at h;split at h
      .cases h
      .rename_i v;cases i:nmE s (p+2) k.toNat 0 with
       |some e=>rw[i]at h;cases h
       |none=>
         rw[i]at h;cases h;have:=qDu i (k.toNat-1) (by omega);refine⟨by omega,by omega,by omega,rfl,?_⟩;show((s.take _).drop _).length<=24;rw[wS,wk];omega
   .split at h
    .cases h
    .cases d:esL[c.toNat-16]? with
     |none=>rw[d]at h;cases h
     |some r=>
       rw[d]at h;have j:=wb d;let⟨o,m,l⟩:=qqP r j;have b:r.1.length<=24:=(by decide:∀r∈esL,r.1.length<=24) r j;simp only[]at h;split at h
       .cases a:s[p+1]? with
        |none=>rw[a]at h;cases h
        |some k=>
          rw[a]at h;have f:=(List.getElem?_eq_some_iff.1 a).1;simp only[]at h;split at h
          .cases h
          .cases h;exact⟨by omega,by omega,by omega,rfl,b⟩
       .cases h;exact⟨by omega,by omega,by omega,rfl,b⟩
theorem qw5{R:Nat->Option T×Nat}{L:Nat}(h:∀p q t,R p=(some t,q)->p<q/\q<=L):∀n p q ks,p<=L->Q3 R n p=(some ks,q)->p<=q/\q<=L/\ks.length=n
 |0,p,q,ks,c,a=>by cases a;exact⟨wa _,c,rfl⟩
 |n+1,p,q,ks,c,a=>by
   unfold Q3 at a;split at a
   .cases a
   .rename_i k l e;let⟨o,i⟩:=h _ _ _ e;split at a
    .cases a
    .rename_i d j b;cases a;let⟨m,g,f⟩:=qw5 h n _ _ _ i b;exact⟨by omega,g,by simp[f]⟩
theorem qnE(s:List UInt8):∀f p q t,rdT s f p=(some t,q)->p<q/\q<=s.length
 |0,p,q,t,h=>by cases h
 |f+1,p,q,t,h=>by
   unfold rdT at h;split at h
   .cases h
   .rename_i t0 n e b;let⟨j,d,_⟩:=qed b;split at h
    .cases h
    .rename_i ks g a;cases h;let⟨i,c,_⟩:=qw5 (qnE s f) _ _ _ _ d a;exact⟨by omega,c⟩
theorem qzx{b a:Val RD}{nk sk lf:Int}{nm:List UInt8}(h:Ev (λ m _=>qx m b) ((a,()),((nk,(nm,(sk,([],(lf,()))))),()))):Ev (λ m _=>qd7 (qx m) b) (a,(nk,(nm,(sk,lf)))):=by
 let⟨B,h⟩:=h;refine⟨B,λ m k c d=>?_⟩;have e:qx m b=_:=h m k c d;show qd7 _ b=_;unfold qd7;rw[e]
abbrev RdL:=λ(a:List (T×Int)) (b:Val RD) (m k:Nat)=>qjP (qx m) k a b
theorem qBS(b:List (T×Int))(s:List UInt8)(a:Int):Ev (RdL b (s,(a,true))) (((s,(a,true)),()),(T.mk 0 [] 0 [],())):=by
 refine waJ (L:=RdL b (s,(a,true))) ?_;exact waE _
theorem qFo(b:List (T×Int))(s:List UInt8)(a:Int)(t:T)(n:Nat)(i:n<8)(d:b.length<=1000000000){c:Val RD}{nk sk lf:Int}{nm:List UInt8}(h:Ev (λ m _=>qx m (s,(a,false))) ((c,()),((nk,(nm,(sk,([],(lf,()))))),()))){r:(Val RD×Unit)×(T×Unit)}
  (e:Ev (RdL ((b++[(t,(n:Int))])++[(T.mk nk nm sk [],lf)]) c) r):Ev (RdL (b++[(t,((n+1:Nat):Int))]) (s,(a,false))) r:=by
 refine waJ (L:=RdL (b++[(t,((n+1:Nat):Int))]) (s,(a,false))) ?_;show Ev (λ m k=>qlQ (qx m) (qjP (qx m) k) (b++[(t,((n+1:Nat):Int))]) (s,(a,false))) r;unfold qlQ;have f:(b++[(t,((n+1:Nat):Int))]).length=b.length+1:=by simp
 rw[f,xW];refine waH rfl (waF (a:=(t,((n+1:Nat):Int))) (by rw[List.getElem?_append_right (wa _),kK];rfl) ?_);refine waG (qz.2 (by show(0:Int)<((n+1:Nat):Int);omega)) (waG (zh (by omega) (by decide)) (waC (qzx h) ?_));have e1:iw .i64 (yc ((n+1:Nat):Int) 1)=(n:Int):=by rw[show yc ((n+1:Nat):Int) 1=(n:Int) by unfold yc;omega,Qe (by omega)]
 have g:(b++[(t,((n+1:Nat):Int))]).set b.length (t,iw .i64 (yc ((n+1:Nat):Int) 1))=b++[(t,(n:Int))]:=by
  rw[vQ _ _ (wa _),kK,e1];rfl
 show Ev (λ m k=>qjP (qx m) k ((b++[(t,((n+1:Nat):Int))]).set b.length (t,iw .i64 (yc ((n+1:Nat):Int) 1))++[(T.mk nk nm sk [],lf)]) c) r;rw[g];exact e
theorem qOe(b:List (T×Int))(s:List UInt8)(a:Int)(t x:T)(n:Int)(g:t.kids.length<8){r:(Val RD×Unit)×(T×Unit)}
  (d:Ev (RdL (b++[(T.mk t.kind t.name t.sort (t.kids++[x]),n)]) (s,(a,false))) r):Ev (RdL ((b++[(t,n)])++[(x,0)]) (s,(a,false))) r:=by
 refine waJ (L:=RdL ((b++[(t,n)])++[(x,0)]) (s,(a,false))) ?_;show Ev (λ m k=>qlQ (qx m) (qjP (qx m) k) ((b++[(t,n)])++[(x,0)]) (s,(a,false))) r;unfold qlQ;have f:((b++[(t,n)])++[(x,(0:Int))]).length=b.length+2:=by simp
 have c:(b++[(t,n)]).length=b.length+1:=by simp
 rw[f,show b.length+2-1=b.length+1 from rfl,xW];refine waH rfl (waF (a:=(x,(0:Int))) (by rw[List.getElem?_append_right (by omega),c,kK];rfl) ?_);refine waH (qw.2 (vk _)) (waH rfl (waF (a:=(t,n)) (by rw[List.getElem?_append_left (by omega),List.getElem?_append_right (wa _),kK];rfl) ?_));refine waG (zh (by show(t.kids.length+1)*56<=_;omega) (by decide)) ?_;have e:((b++[(t,n)])++[(x,(0:Int))]).take b.length=b:=by rw[wj,wav]
 rw[e];exact d
theorem qKf(s:List UInt8)(O:s.length<=1000000000):∀f n p t b,s.length<p+f->p<=s.length->b.length<=p->t.kids.length+n<=8->
  (∀ks q,Q3 (rdT s f) n p=(some ks,q)->∀r,Ev (RdL (b++[(T.mk t.kind t.name t.sort (t.kids++ks),0)]) (s,((q:Int),false))) r->Ev (RdL (b++[(t,(n:Int))]) (s,((p:Int),false))) r)/\
  ∀e,Q3 (rdT s f) n p=(none,e)->Ev (RdL (b++[(t,(n:Int))]) (s,((p:Int),false))) (((s,((e:Int),true)),()),(T.mk 0 [] 0 [],())):=by
 intro f
 induction f with
 |zero=>intro n p t b C B;omega
 |succ f x=>
   intro n
   induction n with
   |zero=>
     intro p t b C B J I;refine⟨λ ks q a r h=>?_,λ e a=>by cases a⟩;cases a;rw[wy]at h;have e:T.mk t.kind t.name t.sort t.kids=t:=qk t;rw[e]at h;exact h
   |succ n w=>
     intro p t b C B J I;cases j:hdN s p with
     |mk o l=>
     cases o with
     |none=>
       have k:rdT s (f+1) p=(none,l):=by unfold rdT;rw[j]
       have d:Q3 (rdT s (f+1)) (n+1) p=(none,l):=by unfold Q3;rw[k]
       refine⟨λ ks q a=>(by rw[d]at a;cases a),λ e a=>?_⟩;rw[d]at a;cases a;let⟨nk,nm,sk,lf,y⟩:=(qsn s (by omega) p).2 _ j;exact qFo b s p t n (by omega) (by omega) y (qBS _ _ _)
     |some o=>
       let⟨t0,u⟩:=o;let⟨P,K,g3,A,_⟩:=qed j;have y:=(qsn s (by omega) p).1 _ _ _ j;have z:=λ r=>qFo b s p t n (by omega) (by omega) y (r:=r);have L:T.mk t0.kind t0.name t0.sort []=t0:=by rw[<-A];exact qk t0
       rw[L]at z;let⟨F,E⟩:=x u l t0 (b++[(t,(n:Int))]) (by omega) K (by rw[wd];show b.length+1<=l;omega) (by rw[A];show 0+u<=8;omega);cases m:Q3 (rdT s f) u l with
       |mk o g=>
       cases o with
       |none=>
         have k:rdT s (f+1) p=(none,g):=by unfold rdT;rw[j];simp only[];rw[m]
         have d:Q3 (rdT s (f+1)) (n+1) p=(none,g):=by unfold Q3;rw[k]
         refine⟨λ ks q a=>(by rw[d]at a;cases a),λ e a=>?_⟩;rw[d]at a;cases a;exact z _ (E _ m)
       |some c=>
         have k:rdT s (f+1) p=(some (.mk t0.kind t0.name t0.sort c),g):=by unfold rdT;rw[j];simp only[];rw[m]
         let⟨M,D⟩:=qnE s _ _ _ _ k
         have step:∀r,Ev (RdL (b++[(T.mk t.kind t.name t.sort (t.kids++[.mk t0.kind t0.name t0.sort c]),(n:Int))]) (s,((g:Int),false))) r->Ev (RdL (b++[(t,((n+1:Nat):Int))]) (s,((p:Int),false))) r:=λ r h=>by
          refine z r (F _ _ m r ?_);rw[A];exact qOe b s g t _ n (by omega) h
         let⟨H,G⟩:=w g (T.mk t.kind t.name t.sort (t.kids++[.mk t0.kind t0.name t0.sort c])) b (by omega) D (by omega) (by show(t.kids++[_]).length+n<=8;rw[wd];show t.kids.length+1+n<=8;omega)
         have d:Q3 (rdT s (f+1)) (n+1) p=(match Q3 (rdT s (f+1)) n g with
          |(none,e)=>(none,e)
          |(some ks,q)=>(some (.mk t0.kind t0.name t0.sort c::ks),q)):=by
          rw[Q3,k]
         cases i:Q3 (rdT s (f+1)) n g with
         |mk o N=>
         rw[i]at d;cases o with
         |none=>
           refine⟨λ ks q a=>(by rw[d]at a;cases a),λ e a=>?_⟩;rw[d]at a;cases a;exact step _ (G _ i)
         |some v=>
           refine⟨λ ks q a r h=>?_,λ e a=>(by rw[d]at a;cases a)⟩;rw[d]at a;cases a;refine step _ (H _ _ i r ?_);show Ev (RdL (b++[(T.mk t.kind t.name t.sort ((t.kids++[.mk t0.kind t0.name t0.sort c])++v),0)]) _) r;rw[wj];exact h
theorem qIc(s:List UInt8)(w:s.length<=1000000000):(∀t q,rdT s (s.length+1) 0=(some t,q)->Ev (λ m _=>jE m (s,(0,false))) (((s,((q:Int),false)),()),(t,())))/\
  ∀e,rdT s (s.length+1) 0=(none,e)->Ev (λ m _=>jE m (s,(0,false))) (((s,((e:Int),true)),()),(T.mk 0 [] 0 [],())):=by
 have start:∀{c:Val RD}{nk sk lf:Int}{nm:List UInt8}{r:(Val RD×Unit)×(T×Unit)},Ev (λ m _=>qx m (s,(0,false))) ((c,()),((nk,(nm,(sk,([],(lf,()))))),()))->Ev (RdL [(T.mk nk nm sk [],lf)] c) r->Ev (λ m _=>jE m (s,(0,false))) r:=by
  intro c nk sk lf nm r h x;refine waK ?_;simp only[qm0];unfold qo0;exact waC (qzx h) (waL x)
 cases d:hdN s 0 with
 |mk o j=>
 cases o with
 |none=>
   have b:rdT s (s.length+1) 0=(none,j):=by unfold rdT;rw[d]
   refine⟨λ t q a=>(by rw[b]at a;cases a),λ e a=>?_⟩;rw[b]at a;cases a;let⟨nk,nm,sk,lf,l⟩:=(qsn s (by omega) 0).2 _ d;exact start l (qBS _ _ _)
 |some o=>
   let⟨t0,k⟩:=o;let⟨A,y,g3,p,_⟩:=qed d;have l:=(qsn s (by omega) 0).1 _ _ _ d;have n:=λ r=>start l (r:=r);have z:T.mk t0.kind t0.name t0.sort []=t0:=by rw[<-p];exact qk t0
   rw[z]at n;let⟨v,u⟩:=qKf s w s.length k j t0 [] (by omega) y (we _) (by rw[p];show 0+k<=8;omega);cases g:Q3 (rdT s s.length) k j with
   |mk o i=>
   cases o with
   |none=>
     have b:rdT s (s.length+1) 0=(none,i):=by unfold rdT;rw[d];simp only[];rw[g]
     refine⟨λ t q a=>(by rw[b]at a;cases a),λ e a=>?_⟩;rw[b]at a;cases a;exact n _ (u _ g)
   |some f=>
     have b:rdT s (s.length+1) 0=(some (.mk t0.kind t0.name t0.sort f),i):=by unfold rdT;rw[d];simp only[];rw[g]
     refine⟨λ t q a=>?_,λ e a=>(by rw[b]at a;cases a)⟩;rw[b]at a;cases a;refine n _ (v _ _ g _ ?_);rw[p];refine waJ (L:=RdL ([]++[(T.mk t0.kind t0.name t0.sort ([]++f),(0:Int))]) (s,((i:Int),false))) ?_;exact waE _
end Go.AmZ
namespace Go.AmZ
open Go Go.GxZ
theorem qJN{i:Nat}{c:UInt8}(h:okC i c=true):Qb (c.toNat:Int)=true:=by
 unfold okC at h;split at h
 .unfold Qb;rw[h];rfl
 .exact h
theorem qCw{s:List UInt8}{b n:Nat}(w:n<24)(x:b+n<s.length)(h:∀j c,j<n->s[b+j]?=some c->okC j c=true){c:UInt8}(g:s[b+n]?=some c):jl ((s.take (b+(n+1))).drop b)=okC n c:=by
 have f:((s.take (b+(n+1))).drop b).length=n+1:=by rw[wS,wk];omega
 have a:∀j,j<n+1->((s.take (b+(n+1))).drop b)[j]?=s[b+j]?:=λ j e=>by
  rw[List.getElem?_drop,List.getElem?_take,if_pos (by omega)]
 unfold jl;rw[f,decide_eq_true (show 0<n+1 by omega),decide_eq_true (show n+1<=24 by omega)]
 have q:∀o,s[b]?=some o->((s.take (b+(n+1))).drop b).getD 0 0=o:=λ o d=>by
  rw[List.getD_eq_getElem?_getD,a 0 (by omega),wL,d];rfl
 cases n with
 |zero=>
   rw[q c g]
   have l:(s.take (b+(0+1))).drop b=[c]:=by
    apply k9;intro j;cases j with
    |zero=>rw[a 0 (by omega)];exact g
    |succ j=>rw[List.getElem?_eq_none_iff.2 (by omega)];rfl
   rw[l];unfold okC;rw[if_pos rfl];cases v:qfq (c.toNat:Int)with
   |true=>simp[Qb,v]
   |false=>rfl
 |succ n=>
   have u:b<s.length:=by omega
   have d:=List.getElem?_eq_getElem u;have k:=h 0 _ (by omega) d;unfold okC at k;rw[if_pos rfl]at k;rw[q _ d,k];have:okC (n+1) c=Qb (c.toNat:Int):=by unfold okC;rw[if_neg (by omega)]
   rw[this];cases p:Qb (c.toNat:Int)with
   |true=>
     simp only[w7,wu];intro y r;let⟨j,e⟩:=vP.1 r;have t:=(List.getElem?_eq_some_iff.1 e).1;rw[a j (by omega)]at e;by_cases m:j=n+1
     .subst m;rw[g]at e;cases e;exact p
     .exact qJN (h j y (by omega) e)
   |false=>
     simp only[w7];rw[List.all_eq_false];refine⟨c,wb (i:=n+1) ?_,by rw[p];decide⟩;rw[a (n+1) (by omega)];exact g
theorem qCb(s:List UInt8)(B:s.length<=1000000000)(a n:Nat)(g:Int)(C:n<=24)(w:1<=n):∀d i,i+d=n->a+2+i<=s.length->(∀j c,j<i->s[a+2+j]?=some c->okC j c=true)->
  (∀e,nmE s (a+2) d i=some e->∃t,Ev (λ m k=>jI m k s a n ((i+1:Nat):Int) 0 [] 0 2 [] g [] []) (t,((e:Int),false)))/\
  (nmE s (a+2) d i=none->Ev (λ m k=>jI m k s a n ((i+1:Nat):Int) 0 [] 0 2 [] g [] []) (.mk 2 ((s.take (a+2+n)).drop (a+2)) g [],(((a+2+n:Nat):Int),true)))
 |0,i,E,F,l=>by
   obtain rfl:i=n:=by omega
   refine⟨λ e f=>(by cases f),λ _=>waJ ?_⟩;simp only[qpA,qfP];have e1:iw .i64 (qf (a:Int) 2)=((a+2:Nat):Int):=iwn 2 (by omega);have y:iw .i64 (qf ((a+2:Nat):Int) (i:Int))=((a+2+i:Nat):Int):=iwn i (by omega);rw[e1,y];refine waH (J8.2 (by omega)) (waG (by unfold inb;rw[decide_eq_true_iff];omega) (waG (by unfold inb;rw[decide_eq_true_iff];omega) (waI ?_)));rfl
 |d+1,i,E,F,l=>by
   have L:iw .i64 (qf (a:Int) 1)=((a+1:Nat):Int):=iwn 1 (by omega);have e1:iw .i64 (qf (a:Int) 2)=((a+2:Nat):Int):=iwn 2 (by omega);have y:iw .i64 (qf ((a+2:Nat):Int) ((i+1:Nat):Int))=((a+2+(i+1):Nat):Int):=iwn (i+1) (by omega);have K:iw .i64 (qf ((a+1:Nat):Int) ((i+1:Nat):Int))=((a+2+i:Nat):Int):=by rw[iwn (i+1) (by omega)];omega
   have J:iw .i64 (qf ((i+1:Nat):Int) 1)=((i+1+1:Nat):Int):=iwn 1 (by omega)
   have first:∀{G:Nat->Nat->Option (T×Int×Bool)}{r},Ev (λ m k=>cond (ile (s.length:Int) ((a+2+i:Nat):Int)) (some (T.mk 2 [] g [],((a+2+i:Nat):Int),false)) (cond (inb ((a+2+(i+1):Nat):Int) s.length) (cond (inb ((a+2:Nat):Int) (Int.toNat ((a+2+(i+1):Nat):Int))) (qb (J5 m (JW s ((a+2:Nat):Int) ((a+2+(i+1):Nat):Int))) λ z=>cond (qg z) (some (T.mk 2 [] g [],((a+2+i:Nat):Int),false)) (jI m k s a n ((i+1+1:Nat):Int) 0 [] 0 2 [] g [] [])) none) none)) r->Ev (λ m k=>jI m k s a n ((i+1:Nat):Int) 0 [] 0 2 [] g [] []) r:=by
    intro G r h;refine waJ ?_;simp only[qpA,qfP];rw[L,e1,y,K,J];exact waG (qbi.2 (by omega)) h
   rw[nmE];cases q:s[a+2+i]? with
   |none=>
     refine⟨λ e f=>?_,λ f=>(by cases f)⟩;cases f;exact⟨_,first (G:=λ _ _=>none) (waG (qbi.2 (by have:=List.getElem?_eq_none_iff.1 q;omega)) (waE _))⟩
   |some c=>
     have D:=(List.getElem?_eq_some_iff.1 q).1;have v:=qCw (n:=i) (b:=a+2) (by omega) D l q;have p:=qzk ((s.take (a+2+(i+1))).drop (a+2));rw[v]at p
     have zk:∀{r},Ev (λ m k=>cond (qg (okC i c)) (some (T.mk 2 [] g [],((a+2+i:Nat):Int),false)) (jI m k s a n ((i+1+1:Nat):Int) 0 [] 0 2 [] g [] [])) r->Ev (λ m k=>jI m k s a n ((i+1:Nat):Int) 0 [] 0 2 [] g [] []) r:=λ h=>
      first (G:=λ _ _=>none) (waH (J8.2 (by omega)) (waG (by unfold inb;rw[decide_eq_true_iff];omega) (waG (by unfold inb;rw[decide_eq_true_iff];omega) (waC p h))))
     simp only[];cases u:okC i c with
     |false=>
       refine⟨λ e f=>?_,λ f=>(by cases f)⟩;cases f;rw[u]at zk;exact⟨_,zk (waG rfl (waE _))⟩
     |true=>
       rw[u]at zk
       let⟨I,H⟩:=qCb s B a n g C w d (i+1) (by omega) (by omega) (λ j M N o=>by
        by_cases x:j=i
        .subst x;rw[q]at o;cases o;exact u
        .exact l j M (by omega) o)
       refine⟨λ e f=>?_,λ f=>zk (waH rfl (H f))⟩;let⟨t,A⟩:=I e f;exact⟨t,zk (waH rfl A)⟩
theorem qLz(s:List UInt8)(x:s.length<=1000000000)(a:Nat)(c:UInt8)(l:s[a]?=some c)(z:c.toNat<=5):(∀t n p,hdN s a=(some (t,n),p)->n=0/\Ev (λ m _=>qdf m s a) (t,((p:Int),true)))/\∀e,hdN s a=(none,e)->∃t,Ev (λ m _=>qdf m s a) (t,((e:Int),false)):=by
 have C:=(List.getElem?_eq_some_iff.1 l).1;have i:qe s (a:Int)=some c:=by rw[yd];exact l
 have g:iw .i64 (qf (a:Int) 1)=((a+1:Nat):Int):=iwn 1 (by omega);unfold hdN;rw[l];simp only[];rw[if_pos z];have fail:∀{G:Nat->Nat->Option (T×Int×Bool)}{b:Bool},b=true->Ev (λ m k=>cond b (some (T.mk 2 [] (c.toNat:Int) [],((a+1:Nat):Int),false)) (G m k)) (T.mk 2 [] (c.toNat:Int) [],((a+1:Nat):Int),false):=λ h=>waG h (waE _);cases q:s[a+1]? with
 |none=>
   refine⟨λ t n p d=>(by cases d),λ e d=>?_⟩;cases d;refine⟨T.mk 2 [] (c.toNat:Int) [],waK ?_⟩;simp only[qkn,qbx];refine waF i ?_;rw[iwc,g];exact fail (qbi.2 (by have:=List.getElem?_eq_none_iff.1 q;omega))
 |some n=>
   have y:=(List.getElem?_eq_some_iff.1 q).1;have f:qe s ((a+1:Nat):Int)=some n:=by rw[yd];exact q
   simp only[];by_cases u:n.toNat<1\/24<n.toNat
   .rw[if_pos u];refine⟨λ t n p d=>(by cases d),λ e d=>?_⟩;cases d;refine⟨T.mk 2 [] (c.toNat:Int) [],waK ?_⟩;simp only[qkn,qbx];refine waF i ?_;rw[iwc,g];refine waH (J8.2 (by omega)) (waF f ?_);rw[iwc];by_cases o:n.toNat<1
    .exact fail (qz.2 (by omega))
    .exact waH (qw.2 (by omega)) (fail (qz.2 (by omega)))
   .rw[if_neg u]
    have v:∀{r},Ev (λ m k=>jI m k s a n.toNat ((0+1:Nat):Int) 0 [] 0 2 [] (c.toNat:Int) [] []) r->Ev (λ m _=>qdf m s a) r:=λ h=>by
     refine waK ?_;simp only[qkn,qbx];refine waF i ?_;rw[iwc,g];refine waH (J8.2 (by omega)) (waF f ?_);rw[iwc];exact waH (qw.2 (by omega)) (waH (qw.2 (by omega)) (waL h))
    let⟨B,A⟩:=qCb s x a n.toNat (c.toNat:Int) (by omega) (by omega) n.toNat 0 (by omega) (by omega) (λ j c D=>by omega);cases o:nmE s (a+2) n.toNat 0 with
    |some g=>
      refine⟨λ t n p d=>(by cases d),λ e d=>?_⟩;cases d;let⟨t,w⟩:=B _ o;exact⟨t,v w⟩
    |none=>
      refine⟨λ t n p d=>?_,λ e d=>(by cases d)⟩;cases d;exact⟨rfl,v (A o)⟩
theorem qOT:∀r∈esL,qbp r.1=true->(qv r.1 [110,101,119]=true/\r.2.1=1\/qv r.1 [110,101,119]=false/\r.2.1=2)/\r.2.2=8:=by decide
def lsF:List (List UInt8×Int×Int×Int)->List UInt8->Option Int
 |[],_=>none
 |r::l,n=>cond (qv r.1 n) (some r.2.1) (lsF l n)
theorem qOK:∀r∈esL,qbp r.1=false->lsF yY r.1=some r.2.1:=by decide
theorem qLh(s:List UInt8)(I:s.length<=1000000000)(p:Nat)(r:List UInt8×(Int×Int))(q:r∈esL):Ev (λ m _=>qdd m s p r.1) (if qbp r.1=true then(match s[p]? with
  |none=>(0,((p:Int),false))
  |some k=>if(k.toNat:Int)<r.2.1\/r.2.2<(k.toNat:Int)then(0,((p:Int),false))else((k.toNat:Int),(((p+1:Nat):Int),true)))else(r.2.1,((p:Int),true))):=by
 refine waK ?_;simp only[qDr,qf2];refine waC (qMi r.1) ?_;cases g:qbp r.1 with
 |false=>
   rw[if_neg (by decide)];refine waG rfl (waC (a:=yY) (waK (waE _)) ?_)
   have o:=qA (P:=λ i=>∀v,lsF (yY.drop i) r.1=some v->Ev (λ m k=>qaS m k s p r.1 yY i) (v,((p:Int),true))) yY (by decide)
    (λ g v c=>by rw[wX]at c;cases c)
    (λ i x H B g d A C v c=>by
     refine waJ ?_;simp only[qAk,qi4];refine waG g (waF d ?_);rw[B]at c;rw[A];cases b:qv x.1 r.1 with
     |true=>
       rw[lsF,b]at c;refine waG rfl (waF d (waI ?_));cases c;rfl
     |false=>
       rw[lsF,b]at c;exact waH rfl (C v c))
   exact waL (L:=λ m k=>qaS m k s p r.1 yY 0) (o 0 (we _) _ (qOK r q g))
 |true=>
   rw[if_pos rfl];refine waH rfl ?_;let⟨u,J⟩:=qOT r q g;let⟨G,F,E⟩:=qqP r q;cases t:s[p]? with
   |none=>
     have z:=List.getElem?_eq_none_iff.1 t;obtain⟨b,_⟩|⟨b,_⟩:=u
     .exact waG b (waG (qbi.2 (by omega)) (waE _))
     .exact waH b (waG (qbi.2 (by omega)) (waE _))
   |some k=>
     have z:=(List.getElem?_eq_some_iff.1 t).1;have d:qe s (p:Int)=some k:=by rw[yd];exact t
     have D:iw .i64 (qf (p:Int) 1)=((p+1:Nat):Int):=iwn 1 (by omega);simp only[]
     have e:r.2.1<=(k.toNat:Int)->Ev (λ m _=>qb (qe s (p:Int)) λ n=>cond (ilt 8 ((UInt8.toNat n:Nat):Int)) (some (0,(p:Int),false)) (qb (qe s (p:Int)) λ l=>some (iw .i64 ((UInt8.toNat l:Nat):Int),iw .i64 (qf (p:Int) 1),true))) (if(k.toNat:Int)<r.2.1\/r.2.2<(k.toNat:Int)then(0,((p:Int),false))else((k.toNat:Int),(((p+1:Nat):Int),true))):=λ y=>by
      refine waF d ?_;by_cases h:(8:Int)<(k.toNat:Int)
      .rw[if_pos (by omega)];exact waG (qz.2 h) (waE _)
      .rw[if_neg (by omega)];refine waH (qw.2 (by omega)) (waF d (waI ?_));rw[iwc,D]
     have f:∀a:Int,r.2.1=a->Ev (λ m _=>cond (ile (s.length:Int) (p:Int)) (some (0,(p:Int),false)) (qb (qe s (p:Int)) λ w=>cond (ilt (iw .i64 ((UInt8.toNat w:Nat):Int)) a) (some (0,(p:Int),false)) (qb (qe s (p:Int)) λ n=>cond (ilt 8 ((UInt8.toNat n:Nat):Int)) (some (0,(p:Int),false)) (qb (qe s (p:Int)) λ l=>some (iw .i64 ((UInt8.toNat l:Nat):Int),iw .i64 (qf (p:Int) 1),true))))) (if(k.toNat:Int)<r.2.1\/r.2.2<(k.toNat:Int)then(0,((p:Int),false))else((k.toNat:Int),(((p+1:Nat):Int),true))):=λ a j=>by
      refine waH (J8.2 (by omega)) (waF d ?_);rw[iwc];by_cases h:(k.toNat:Int)<a
      .rw[if_pos (by omega)];exact waG (qz.2 h) (waE _)
      .exact waH (qw.2 (by omega)) (e (by omega))
     obtain⟨b,j⟩|⟨b,j⟩:=u
     .exact waG b (f 1 j)
     .exact waH b (f 2 j)
end Go.AmZ
namespace Go.AmZ
theorem qJk(n:Nat):qfD (n+3000)=some true:=by kernel_rfl
end Go.AmZ
namespace Go.AmZ
open Go Go.GxZ
def qjg(t:T):Int:=if qcL t≠0 then qcL t else if qkh t=false then 13 else if JY t=false then 10 else 0
def qta(t:T):List UInt8:=if qjg t=0 then Q8 (bI t)else[]
theorem qNA{t:T}(d:qcL t=0)(c:qkh t=true)(a:JY t=true):okE t:=by
 let⟨b,e⟩:=qqF d
 have g3:jO t=0:=by
  unfold qS at b;by_cases h:jO t=0
  .exact h
  .rw[if_pos h]at b;exact absurd b h
 unfold JY at a;simp only[wc]at a;exact qOl t g3 e a.2.2 (xg.1 c)
theorem qMk{t:T}(h:okE t)(a:size t<=10000):(bI t).length<=260000:=by
 have:=qOg t h;omega
theorem qOj(t:T)(j:size t<=10000):Ev (λ m _=>qbz m t) (qta t,qjg t):=by
 refine waK ?_;simp only[qsD,qeB,qk];refine waC (qEr t (by omega)) ?_;let⟨l,i,g⟩:=qMn t (by omega);by_cases b:qcL t=0
 .refine waH (bnf.2 (ql.2 b)) (waC i ?_);cases a:qkh t with
  |false=>
    have k:ju 1 t≠[]:=λ h=>by unfold qkh at a;rw[h]at a;cases a
    have e:l≠[]:=λ h=>k (g.1 h);have:=xt.2 e;refine waG (qz.2 (by omega)) (waI ?_);have c:qjg t=13:=by unfold qjg;rw[if_neg (λ h=>h b),if_pos a]
    unfold qta;rw[c];rfl
  |true=>
    have e:l=[]:=g.2 (xg.1 a);refine waH (qw.2 (by rw[e];exact vk _)) (waC (qyQ t (by omega)) ?_);cases f:JY t with
    |false=>
      refine waG rfl (waI ?_);have c:qjg t=10:=by unfold qjg;rw[if_neg (λ h=>h b),if_neg (by rw[a];decide),if_pos f]
      unfold qta;rw[c];rfl
    |true=>
      have d:=qNA b a f;have n:=qMk d j;refine waH rfl (waC (qKE t d (by omega) [] (by show 0+_<=_;omega)) (waI ?_));have c:qjg t=0:=by unfold qjg;rw[if_neg (λ h=>h b),if_neg (by rw[a];decide),if_neg (by rw[f];decide)]
      unfold qta;rw[c];rfl
 .refine waG (bnt.2 (qj.2 b)) (waI ?_);have c:qjg t=qcL t:=if_pos b;unfold qta;rw[c,if_neg b]
theorem qwo:Ev (λ m _=>qfD m) true:=⟨3000,λ m k a _=>by
 obtain⟨n,rfl⟩:∃n,m=n+3000:=⟨m-3000,by omega⟩
 exact qJk n⟩
end Go.AmZ
namespace Go.AmZ
open Go Go.GxZ
theorem qyR(s:List UInt8)(f:Nat)(w:∀p,s.length<p+f->p<=s.length->(∀t q,rdT s f p=(some t,q)->Ev (λ m _=>qY m s p) (t,((q:Int),true)))/\∀e,rdT s f p=(none,e)->∃t,Ev (λ m _=>qY m s p) (t,((e:Int),false)))(nm:List UInt8)(n:Nat)(E:n<=8):
  ∀d i ks p,i+d=n->ks.length=i->s.length<p+f->p<=s.length->(∀b q,Q3 (rdT s f) d p=(some b,q)->Ev (λ m k=>Qx m (qY m) k s n p i 0 [] 0 3 nm 0 [] ks) (.mk 3 nm 0 (ks++b),((q:Int),true)))/\
   ∀e,Q3 (rdT s f) d p=(none,e)->∃t,Ev (λ m k=>Qx m (qY m) k s n p i 0 [] 0 3 nm 0 [] ks) (t,((e:Int),false))
 |0,i,ks,p,F,v,y,x=>by
   obtain rfl:i=n:=by omega
   refine⟨λ b q a=>waJ ?_,λ e a=>(by cases a)⟩;cases a;simp only[qi8,qdu];refine waH (qw.2 (vk _)) (waI ?_);rw[wy]
 |d+1,i,ks,p,F,v,y,x=>by
   have e1:iw .i64 (qf (i:Int) 1)=((i+1:Nat):Int):=iwn 1 (by omega);let⟨I,H⟩:=w p y x;cases l:rdT s f p with
   |mk o j=>
   cases o with
   |none=>
     have c:Q3 (rdT s f) (d+1) p=(none,j):=by unfold Q3;rw[l]
     refine⟨λ b q a=>(by rw[c]at a;cases a),λ e a=>?_⟩;rw[c]at a;cases a;let⟨t,u⟩:=H _ l;refine⟨T.mk 3 nm 0 ks,waJ ?_⟩;simp only[qi8,qdu];exact waG (qz.2 (by omega)) (waC u (waG rfl (waE _)))
   |some t=>
     let⟨J,z⟩:=qnE s _ _ _ _ l;have u:=I _ _ l;let⟨D,C⟩:=qyR s f w nm n E d (i+1) (ks++[t]) j (by omega) (by simp[v]) (by omega) z
     have step:∀{r},Ev (λ m k=>Qx m (qY m) k s n j ((i+1:Nat):Int) 0 [] 0 3 nm 0 [] (ks++[t])) r->Ev (λ m k=>Qx m (qY m) k s n p i 0 [] 0 3 nm 0 [] ks) r:=λ h=>by
      refine waJ ?_;simp only[qi8,qdu,qk];rw[e1];exact waG (qz.2 (by omega)) (waC u (waH rfl (waG (zh (by omega) (by decide)) h)))
     have c:Q3 (rdT s f) (d+1) p=(match Q3 (rdT s f) d j with
      |(none,e)=>(none,e)
      |(some ks,q)=>(some (t::ks),q)):=by rw[Q3,l]<;>rfl
     cases g:Q3 (rdT s f) d j with
     |mk o K=>
     rw[g]at c;cases o with
     |none=>
       refine⟨λ b q a=>(by rw[c]at a;cases a),λ e a=>?_⟩;rw[c]at a;cases a;let⟨A,G⟩:=C _ g;exact⟨A,step G⟩
     |some B=>
       refine⟨λ b q a=>?_,λ e a=>(by rw[c]at a;cases a)⟩;rw[c]at a;cases a;have:=step (D _ _ g);rw[wj]at this;exact this
theorem qKA(s:List UInt8)(Q:s.length<=1000000000):∀f p,s.length<p+f->p<=s.length->(∀t q,rdT s f p=(some t,q)->Ev (λ m _=>qY m s p) (t,((q:Int),true)))/\∀e,rdT s f p=(none,e)->∃t,Ev (λ m _=>qY m s p) (t,((e:Int),false)):=by
 intro f
 induction f with
 |zero=>intro p N M;omega
 |succ f W=>
   intro p N M;have e1:iw .i64 (qf (p:Int) 1)=((p+1:Nat):Int):=iwn 1 (by omega);cases A:s[p]? with
   |none=>
     have i:hdN s p=(none,p):=by unfold hdN;rw[A]
     have g:rdT s (f+1) p=(none,p):=by unfold rdT;rw[i]
     refine⟨λ t q b=>(by rw[g]at b;cases b),λ e b=>?_⟩;rw[g]at b;cases b;refine⟨T.mk 0 [] 0 [],waK ?_⟩;simp only[qgK,qaf];exact waG (qbi.2 (by have:=List.getElem?_eq_none_iff.1 A;omega)) (waE _)
   |some c=>
     have hl:=(List.getElem?_eq_some_iff.1 A).1;have y:qe s (p:Int)=some c:=by rw[yd];exact A
     by_cases L:c.toNat<=5
     .let⟨a1,Z⟩:=qLz s Q p c A L
      have C:∀{v},Ev (λ m _=>qdf m s p) v->Ev (λ m _=>qY m s p) v:=λ h=>by
       refine waK ?_;simp only[qgK,qaf,qk];exact waH (J8.2 (by omega)) (waF y (waG (qbi.2 (by omega)) (waC h (waE _))))
      cases j:hdN s p with
      |mk o l=>
      cases o with
      |none=>
        have g:rdT s (f+1) p=(none,l):=by unfold rdT;rw[j]
        refine⟨λ t q b=>(by rw[g]at b;cases b),λ e b=>?_⟩;rw[g]at b;cases b;let⟨t,D⟩:=Z _ j;exact⟨t,C D⟩
      |some o=>
        let⟨t0,n0⟩:=o;obtain⟨rfl,D⟩:=a1 _ _ _ j;let⟨_,_,_,X,_⟩:=qed j
        have g:rdT s (f+1) p=(some t0,l):=by
         unfold rdT;rw[j];show(some (T.mk t0.kind t0.name t0.sort []),l)=_;rw[<-X];exact congrArg (λ x=>(some x,l)) (qk t0)
        refine⟨λ t q b=>?_,λ e b=>(by rw[g]at b;cases b)⟩;rw[g]at b;cases b;exact C D
     .have O:(c.toNat<16\/30<c.toNat)->(∀t q,rdT s (f+1) p=(some t,q)->Ev (λ m _=>qY m s p) (t,((q:Int),true)))/\∀e,rdT s (f+1) p=(none,e)->∃t,Ev (λ m _=>qY m s p) (t,((e:Int),false)):=by
        intro S
        have i:hdN s p=(none,p):=by
         unfold hdN;rw[A];simp only[];rw[if_neg L];by_cases B:c.toNat<16
         .rw[if_pos B]
         .rw[if_neg B,show esL[c.toNat-16]?=none from List.getElem?_eq_none_iff.2 (by show 15<=_;omega)]
        have g:rdT s (f+1) p=(none,p):=by unfold rdT;rw[i]
        refine⟨λ t q b=>(by rw[g]at b;cases b),λ e b=>?_⟩;rw[g]at b;cases b;refine⟨T.mk 0 [] 0 [],waK ?_⟩;simp only[qgK,qaf];refine waH (J8.2 (by omega)) (waF y (waH (J8.2 (by omega)) (waF y ?_)));by_cases B:c.toNat<16
        .exact waG (qz.2 (by omega)) (waE _)
        .refine waH (qw.2 (by omega)) (waF y (waC (a:=nmL) (waK (waE _)) ?_));rw[iwc];exact waG (qbi.2 (by show(31:Int)<=_;omega)) (waE _)
      by_cases S:c.toNat<16\/30<c.toNat
      .exact O S
      .have E:c.toNat-16<esL.length:=by show _<15;omega
       have u:=List.getElem?_eq_getElem E;generalize esL[c.toNat-16]=r at u;have R:=wb u;let⟨p0,p1,p2⟩:=qqP r R
       have K:qe nmL (iw .i64 (yc (c.toNat:Int) 16))=some r.1:=by
        rw[show iw .i64 (yc (c.toNat:Int) 16)=((c.toNat-16:Nat):Int) by rw[show yc (c.toNat:Int) 16=((c.toNat-16:Nat):Int) by unfold yc;omega,Qe (by omega)],yd,<-qr8,List.getElem?_map,u];rfl
       have i:hdN s p=(if qbp r.1=true then(match s[p+1]? with
         |none=>(none,p+1)
         |some k=>if(k.toNat:Int)<r.2.1\/r.2.2<(k.toNat:Int)then(none,p+1)else(some (.mk 3 r.1 0 [],k.toNat),p+2))
        else(some (.mk 3 r.1 0 [],r.2.1.toNat),p+1)):=by
        unfold hdN;rw[A];simp only[];rw[if_neg L,if_neg (by omega),u]<;>rfl
       have d:=qLh s Q (p+1) r R
       have C:∀{v:Int×(Int×Bool)}{x},Ev (λ m _=>qdd m s ((p+1:Nat):Int) r.1) v->Ev (λ m _=>cond (qg v.2.2) (some (T.mk 3 r.1 0 [],v.2.1,false)) (Qx m (qY m) m s v.1 v.2.1 0 0 [] 0 3 r.1 0 [] [])) x->Ev (λ m _=>qY m s p) x:=λ N M=>by
        refine waK ?_;simp only[qgK,qaf];refine waH (J8.2 (by omega)) (waF y (waH (J8.2 (by omega)) (waF y (waH (qw.2 (by omega)) (waF y (waC (a:=nmL) (waK (waE _)) ?_))))));rw[iwc];refine waH (J8.2 (by show _<(31:Int);omega)) (waC (a:=nmL) (waK (waE _)) (waF y ?_));rw[iwc,e1];exact waF K (waC N M)
       have H:∀n l,hdN s p=(some (T.mk 3 r.1 0 [],n),l)->Ev (λ m _=>qdd m s ((p+1:Nat):Int) r.1) ((n:Int),((l:Int),true))->(∀t q,rdT s (f+1) p=(some t,q)->Ev (λ m _=>qY m s p) (t,((q:Int),true)))/\∀e,rdT s (f+1) p=(none,e)->∃t,Ev (λ m _=>qY m s p) (t,((e:Int),false)):=by
        intro n l j w;let⟨g1,Y,g3,_⟩:=qed j;let⟨V,U⟩:=qyR s f W r.1 n g3 n 0 [] l (by omega) rfl (by omega) Y;cases z:Q3 (rdT s f) n l with
        |mk o P=>
        cases o with
        |none=>
          have g:rdT s (f+1) p=(none,P):=by unfold rdT;rw[j];simp only[];rw[z]
          refine⟨λ t q b=>(by rw[g]at b;cases b),λ e b=>?_⟩;rw[g]at b;cases b;let⟨t,D⟩:=U _ z;exact⟨t,C w (waH rfl (waL D))⟩
        |some J=>
          have g:rdT s (f+1) p=(some (.mk 3 r.1 0 J),P):=by unfold rdT;rw[j];simp only[];rw[z];rfl
          refine⟨λ t q b=>?_,λ e b=>(by rw[g]at b;cases b)⟩;rw[g]at b;cases b;exact C w (waH rfl (waL (V _ _ z)))
       have I:hdN s p=(none,p+1)->Ev (λ m _=>qdd m s ((p+1:Nat):Int) r.1) (0,(((p+1:Nat):Int),false))->(∀t q,rdT s (f+1) p=(some t,q)->Ev (λ m _=>qY m s p) (t,((q:Int),true)))/\∀e,rdT s (f+1) p=(none,e)->∃t,Ev (λ m _=>qY m s p) (t,((e:Int),false)):=by
        intro j w;have g:rdT s (f+1) p=(none,p+1):=by unfold rdT;rw[j]
        refine⟨λ t q b=>(by rw[g]at b;cases b),λ e b=>?_⟩;rw[g]at b;cases b;exact⟨_,C w (waG rfl (waE _))⟩
       cases G:qbp r.1 with
       |false=>
         rw[G,if_neg (by decide)]at i d;refine H _ _ i ?_;have e:((r.2.1.toNat:Nat):Int)=r.2.1:=by omega
         rw[e];exact d
       |true=>
         rw[G,if_pos rfl]at i d;cases z:s[p+1]? with
         |none=>rw[z]at i d;exact I i d
         |some k=>
           rw[z]at i d;simp only[]at i d;by_cases F:(k.toNat:Int)<r.2.1\/r.2.2<(k.toNat:Int)
           .rw[if_pos F]at i d;exact I i d
           .rw[if_neg F]at i d;exact H _ _ i d
end Go.AmZ
namespace Go.AmZ
open Go Go.GxZ
theorem qFK{s:List UInt8}{b:Nat}:∀{d i:Nat},nmE s b d i=none->∀j c,j<d->s[b+i+j]?=some c->okC (i+j) c=true
 |0,_,_,j,_,g,_=>by omega
 |d+1,i,h,j,c,g,a=>by
   unfold nmE at h;split at h
   .cases h
   .rename_i k f;cases e:okC i k with
    |false=>rw[e]at h;cases h
    |true=>
      rw[e]at h;have h:nmE s b d (i+1)=none:=h;cases j with
      |zero=>rw[wL]at a |-;rw[f]at a;cases a;exact e
      |succ j=>have:=qFK h j c (by omega) (by rw[show b+(i+1)+j=b+i+(j+1) by omega];exact a);rw[show i+(j+1)=i+1+j by omega];exact this
theorem qMV:∀r∈esL,jl r.1=true:=by decide
theorem qKH{s:List UInt8}{p q n:Nat}{t:T}(h:hdN s p=(some (t,n),q))(ks:List T)(A:ks.length=n):jK (.mk t.kind t.name t.sort ks)=0:=by
 have C:=(qed h).2.2.1;unfold hdN at h;cases o:s[p]? with
 |none=>rw[o]at h;cases h
 |some c=>
   rw[o]at h;simp only[]at h;split at h
   .rename_i D;cases i:s[p+1]? with
    |none=>rw[i]at h;cases h
    |some k=>
      rw[i]at h;simp only[]at h;split at h
      .cases h
      .rename_i z;cases u:nmE s (p+2) k.toNat 0 with
       |some e=>rw[u]at h;cases h
       |none=>
         rw[u]at h;cases h;have y:=qDu u;have x:=qFK u;obtain⟨m,w⟩:∃m,k.toNat=m+1:=⟨k.toNat-1,by omega⟩
         have d:=y m (by omega);rw[wL]at d;have g:=List.getElem?_eq_getElem d;have a:=qCw (s:=s) (b:=p+2) (n:=m) (by omega) d (λ j c B o=>by have:=x j c (by omega) (by rw[wL];exact o);rwa [wD]at this) g;have f:=x m _ (by omega) (by rw[wL];exact g);rw[wD]at f;rw[f]at a;unfold jK qir;show(if(2:Int)=1\/(2:Int)=2 then(if(c.toNat:Int)<0\/5<(c.toNat:Int)\/0<ks.length then 1 else if jl ((s.take (p+2+k.toNat)).drop (p+2))=true then 0 else 2)else _)=(0:Int);rw[if_pos (.inr rfl),if_neg (by omega),w,a,if_pos rfl]
   .split at h
    .cases h
    .cases v:esL[c.toNat-16]? with
     |none=>rw[v]at h;cases h
     |some r=>
       rw[v]at h;have a:=qMV r (wb v)
       have l:∀m,m=n->jK (.mk 3 r.1 0 ks)=0:=λ m w=>by
        unfold jK qir;show(if(3:Int)=1\/(3:Int)=2 then _ else if(3:Int)=3 then(if(0:Int)≠0 then 1 else if jl r.1=true then(if 8<ks.length then 3 else 0)else 2)else 1)=(0:Int);rw[if_neg (by decide),if_pos rfl,if_neg (by decide),a,if_pos rfl,if_neg (by omega)]
       simp only[]at h;split at h
       .cases i:s[p+1]? with
        |none=>rw[i]at h;cases h
        |some k=>
          rw[i]at h;simp only[]at h;split at h
          .cases h
          .cases h;exact l _ rfl
       .cases h;exact l _ rfl
theorem qG4{t:T}(h:jK t=0)(b:∀k∈t.kids,jO k=0):jO t=0:=by
 rw[qiY,h];generalize t.kids=l at b
 induction l with
 |nil=>rfl
 |cons x l c=>rw[wv,ky,b x (wi ..)];exact c λ k a=>b k (wg _ a)
theorem qA5{R:Nat->Option T×Nat}(h:∀p q t,R p=(some t,q)->jO t=0/\p+size t<=q):∀n p q ks,Q3 R n p=(some ks,q)->(∀k∈ks,jO k=0)/\p+(ks.map size).sum<=q
 |0,p,q,ks,a=>by cases a;exact⟨λ k d=>(by cases d),wa _⟩
 |n+1,p,q,ks,a=>by
   unfold Q3 at a;split at a
   .cases a
   .rename_i k l d;let⟨i,o⟩:=h _ _ _ d;split at a
    .cases a
    .rename_i e j c;cases a;let⟨g,m⟩:=qA5 h n _ _ _ c;refine⟨λ f b=>?_,by rw[wv,kQ];omega⟩;obtain rfl|b:=wx.1 b
     .exact i
     .exact g f b
theorem qwW(s:List UInt8):∀f p q t,rdT s f p=(some t,q)->jO t=0/\p+size t<=q
 |0,p,q,t,h=>by cases h
 |f+1,p,q,t,h=>by
   unfold rdT at h;split at h
   .cases h
   .rename_i t0 n g b;split at h
    .cases h
    .rename_i ks i a;cases h;let⟨k,e,_⟩:=qed b;let⟨d,j⟩:=qA5 (qwW s f) _ _ _ _ a;let⟨_,_,c⟩:=qw5 (qnE s f) _ _ _ _ e a;refine⟨qG4 (qKH b ks c) d,?_⟩;rw[qW];show p+(1+(ks.map size).sum)<=q;omega
theorem qG0{t:T}(h:JY t=true):qcL t=0:=by
 unfold JY at h;simp only[wc,decide_eq_true_eq]at h;have a:=h.1;rw[qjM]at a;by_cases b:qcL t=0
 .exact b
 .rw[if_pos b]at a;exact a
def qpj(s:List UInt8):T×(Int×Int):=match rdT s (s.length+1) 0 with
 |(none,e)=>(.mk 0 [] 0 [],((e:Int),2))
 |(some t,q)=>if q≠s.length then(.mk 0 [] 0 [],((q:Int),2))else if 400<size t\/40<qcz t then(.mk 0 [] 0 [],(0,3))else if JY t=true then(t,(0,0))else(.mk 0 [] 0 [],(0,10))
theorem qPE(s:List UInt8)(e:s.length<=1000000000):Ev (λ m _=>qaa m s) (qpj s):=by
 refine waK ?_;simp only[qsy,qd6,qk];unfold qpj;let⟨i,g⟩:=qIc s e;cases b:rdT s (s.length+1) 0 with
 |mk o q=>
 cases o with
 |none=>exact waC (g _ b) (waG rfl (waE _))
 |some t=>
   let⟨f,j⟩:=qwW s _ _ _ _ b;let⟨_,k⟩:=qnE s _ _ _ _ b;refine waC (i _ _ b) (waH rfl ?_);simp only[];by_cases a:q=s.length
   .rw[if_neg (λ h=>h a)];refine waH (bnf.2 (ql.2 (by omega))) (waC (qcR t (by omega)) ?_);have d:qS t=if 400<size t\/40<qcz t then 3 else 0:=by unfold qS;rw[if_neg (λ h=>h f)]
    rw[d];by_cases c:400<size t\/40<qcz t
    .rw[if_pos c,if_pos c];exact waG rfl (waE _)
    .rw[if_neg c,if_neg c];refine waH rfl (waC (qyQ t (by omega)) ?_);cases l:JY t with
     |true=>exact waH rfl (waE _)
     |false=>exact waG rfl (waE _)
   .rw[if_pos a];exact waG (bnt.2 (qj.2 (by omega))) (waE _)
theorem qMt(s:List UInt8)(i:s.length<=1000000000):Ev (λ m _=>qhn m s) (qpj s):=by
 refine waK ?_;simp only[qxp,qg3,qk];unfold qpj;let⟨k,j⟩:=qKA s i (s.length+1) 0 (by omega) (we _);cases c:rdT s (s.length+1) 0 with
 |mk o q=>
 cases o with
 |none=>
   let⟨t,g⟩:=j _ c;exact waC g (waG rfl (waE _))
 |some t=>
   let⟨p,l⟩:=qwW s _ _ _ _ c;let⟨_,n⟩:=qnE s _ _ _ _ c;refine waC (k _ _ c) (waH rfl ?_);simp only[];by_cases a:q=s.length
   .rw[if_neg (λ h=>h a)];refine waH (bnf.2 (ql.2 (by omega))) (waC (qou t (by omega)) ?_);by_cases f:400<size t
    .rw[if_pos (.inl f)];exact waG (qz.2 (by omega)) (waE _)
    .refine waH (qw.2 (by omega)) (waC (qzB t (by omega)) ?_);by_cases e:40<qcz t
     .rw[if_pos (.inr e)];exact waG (qz.2 (by omega)) (waE _)
     .rw[if_neg (by omega)];refine waH (qw.2 (by omega)) (waC (qEp t (by omega)) ?_);by_cases d:qcL t=0
      .refine waH (bnf.2 (ql.2 d)) (waC (qIj t (by omega)) ?_);cases b:JY t with
       |true=>exact waH rfl (waE _)
       |false=>exact waG rfl (waE _)
      .have b:JY t=false:=by
         cases b:JY t with
         |true=>exact absurd (qG0 b) d
         |false=>rfl
       rw[b,if_neg (by decide)];exact waG (bnt.2 (qj.2 d)) (waE _)
   .rw[if_pos a];exact waG (bnt.2 (qj.2 (by omega))) (waE _)
end Go.AmZ
namespace Go.AmZ
open Go Go.GxZ
def okR(u:T):Prop:=(u.kind=2/\0<=u.sort/\u.sort<=5/\jl u.name=true/\u.kids=[])\/(u.kind=3/\u.sort=0/\u.name∈nmL/\(qD u.name).1<=(u.kids.length:Int)/\(u.kids.length:Int)<=(qD u.name).2.1)
def qGM(t:T):Prop:=∀u∈qaP t,okR u
def hdS(u:T):List UInt8:=if u.kind=2 then Q8 [iw .u8 u.sort,iw .u8 u.name.length]++u.name else Q8 (if qbp u.name then[hdE u.name]++[iw .u8 u.kids.length]else[hdE u.name])
theorem u8_in{n:Nat}(h:n<=255):iw .u8 (n:Int)=(n:Int):=IntWalk.u8_in _ (by omega)
theorem qOJ{n:Nat}(h:n<=255):(UInt8.ofNat (iw .u8 (n:Int)).toNat).toNat=n:=by
 rw[u8_in h,kF];simp only[UInt8.toNat_ofNat'];omega
theorem qPc{n:List UInt8}(h:n∈nmL):∃(j:Nat) (r:List UInt8×(Int×Int)),j<15/\hdE n=iw .u8 ((16+j:Nat):Int)/\esL[j]?=some r/\r.1=n:=by
 let⟨b,j,r,e,a,d⟩:=qDo esL n 0 (by rw[qr8];exact h);have c:j<15:=(List.getElem?_eq_some_iff.1 a).1;refine⟨j,r,c,?_,a,d⟩;unfold hdE;rw[qr8]at b;rw[<-b,e,show(16:Int)=((16:Nat):Int)from rfl,qib,Qe (by omega),wD]
theorem qOV:∀r∈esL,(qD r.1).1=r.2.1/\(qD r.1).2.1=r.2.2:=by decide
theorem qNY:∀r∈esL,qbp r.1=false->r.2.1=r.2.2:=by decide
theorem qPI(t:T)(h:okR t):Q8 (bI t)=hdS t++Q8 (t.kids.map bI).flatten:=by
 rw[qAB];unfold hdS;obtain⟨a,_,_,_,c⟩|⟨a,_⟩:=h
 .rw[if_pos a,if_pos a,qn2,qKo,c];exact(wy _).symm
 .have b:¬ t.kind=2:=by omega
  rw[if_neg b,if_neg b,qn2]
end Go.AmZ
namespace Go.AmZ
open Go Go.GxZ
theorem qss(c:UInt8):UInt8.ofNat (iw .u8 ((c.toNat:Nat):Int)).toNat=c:=by
 have h:=c.toNat_lt;apply UInt8.toNat.inj;exact qOJ (by omega)
theorem qE8{s:List UInt8}{b:Nat}:∀(n j:Nat),nmE s b n j=none->∀i,j<=i->i<j+n->∃c,s[b+i]?=some c/\okC i c=true
 |0,j,_,i,g,f=>by omega
 |n+1,j,h,i,g,f=>by
   rw[nmE]at h;cases e:s[b+j]? with
   |none=>rw[e]at h;cases h
   |some c=>
     rw[e]at h;cases a:okC j c with
     |false=>simp only[a,cond]at h;cases h
     |true=>
       simp only[a,cond]at h;by_cases d:i=j
       .subst d;exact⟨c,e,a⟩
       .exact qE8 n (j+1) h i (by omega) (by omega)
theorem qIK{n:List UInt8}(e:1<=n.length)(d:n.length<=24)(h:∀i c,n[i]?=some c->okC i c=true):jl n=true:=by
 unfold jl;simp only[wc,decide_eq_true_eq];refine⟨⟨⟨e,d⟩,?_⟩,?_⟩
 .have:=h 0 (n[0]) (List.getElem?_eq_getElem (by omega));unfold okC at this;rw[if_pos rfl]at this;rw[List.getD_eq_getElem?_getD,List.getElem?_eq_getElem (show 0<n.length by omega)];exact this
 .rw[wu];intro c b;obtain⟨i,a,rfl⟩:=List.mem_iff_getElem.1 b;have:=h i _ (List.getElem?_eq_getElem a);unfold okC at this;split at this
  .unfold Qb;rw[this];rfl
  .exact this
theorem qnq{s:List UInt8}{p:Nat}{c:UInt8}(h:s[p]?=some c):(s.take (p+1)).drop p=[c]:=by
 rw[kE,h,List.drop_append_of_le_length (by rw[wk];have:=(List.getElem?_eq_some_iff.1 h).1;omega)];simp
theorem qnv{s:List UInt8}{p q r:Nat}(b:p<=q)(a:q<=r):(s.take r).drop p=(s.take q).drop p++(s.take r).drop q:=by
 have e:s.take q=(s.take r).take q:=by rw[xI,km a]
 rw[e];generalize s.take r=l;rw[List.drop_take]
 conv=>lhs;rw[<-kC (q-p) (l.drop p)]
 rw[wau,show p+(q-p)=q by omega]
theorem qNJ(n:List UInt8)(so:Int)(ks:List T):hdS (.mk 2 n so ks)=Q8 [iw .u8 so,iw .u8 n.length]++n:=if_pos rfl
theorem qy5(n:List UInt8)(so:Int)(ks:List T):hdS (.mk 3 n so ks)=Q8 (if qbp n then[hdE n]++[iw .u8 ks.length]else[hdE n]):=if_neg (show ¬ (3:Int)=2 by decide)
theorem qNI{s:List UInt8}{p q n:Nat}{t:T}(h:hdN s p=(some (t,n),q))(ks:List T)(a:ks.length=n):okR (.mk t.kind t.name t.sort ks)/\(s.take q).drop p=hdS (.mk t.kind t.name t.sort ks):=by
 unfold hdN at h;cases v:s[p]? with
 |none=>rw[v]at h;cases h
 |some c=>
   rw[v]at h;simp only[]at h;split at h
   .rename_i Q;cases y:s[p+1]? with
    |none=>rw[y]at h;cases h
    |some d=>
      rw[y]at h;simp only[]at h;split at h
      .cases h
      .rename_i hd;have P:1<=d.toNat/\d.toNat<=24:=by omega
       cases B:nmE s (p+2) d.toNat 0 with
       |some e=>rw[B]at h;cases h
       |none=>
         rw[B]at h;simp only[wG,ww]at h;obtain⟨⟨rfl,rfl⟩,rfl⟩:=h;have m:=qE8 _ _ B
         have G:p+2+d.toNat<=s.length:=by
          let⟨K,C,_⟩:=m (d.toNat-1) (we _) (by omega);have:=(List.getElem?_eq_some_iff.1 C).1;omega
         have f:((s.take (p+2+d.toNat)).drop (p+2)).length=d.toNat:=by
          rw[wS,wk];omega
         obtain rfl:=wh a;refine⟨.inl ⟨rfl,Int.natCast_nonneg _,by show((c.toNat:Nat):Int)<=5;omega,qIK (n:=(s.take (p+2+d.toNat)).drop (p+2)) (by rw[f];omega) (by rw[f];omega) λ i K o=>?_,rfl⟩,?_⟩
         .have O:i<d.toNat:=by rw[<-f];exact(List.getElem?_eq_some_iff.1 o).1
          let⟨c2,S,R⟩:=m i (we _) (by omega);have o:((s.take (p+2+d.toNat)).drop (p+2))[i]?=some K:=o;rw[List.getElem?_drop,List.getElem?_take,if_pos (by omega),S]at o;cases o;exact R
         .refine Eq.trans ?_ (qNJ ((s.take (p+2+d.toNat)).drop (p+2)) ((c.toNat:Nat):Int) []).symm;rw[f];show _=[UInt8.ofNat (iw .u8 ((c.toNat:Nat):Int)).toNat,UInt8.ofNat (iw .u8 ((d.toNat:Nat):Int)).toNat]++_;rw[qss,qss,qnv (q:=p+1) (by omega) (by omega),qnv (p:=p+1) (q:=p+2) (by omega) (by omega),qnq v,qnq y];rfl
   .split at h
    .cases h
    .rename_i Q U;cases l:esL[c.toNat-16]? with
     |none=>rw[l]at h;cases h
     |some r=>
       rw[l]at h;simp only[]at h;have w:=wb l;have hj:c.toNat-16<15:=(List.getElem?_eq_some_iff.1 l).1;have g:r.1∈nmL:=by rw[<-qr8];exact wA.2 ⟨r,w,rfl⟩
       let⟨Z,Y,X⟩:=qqP r w;let⟨F,E⟩:=qOV r w
       have u:UInt8.ofNat (hdE r.1).toNat=c:=by
        let⟨j,L,N,e1,D,W⟩:=qPc g
        have:L=r/\j=c.toNat-16:=by
         have x:(esL.map (·.1)).Nodup:=by decide
         have J:(esL.map (·.1))[j]?=some r.1:=by rw[List.getElem?_map,D];exact congrArg some W
         have V:(esL.map (·.1))[c.toNat-16]?=some r.1:=by rw[List.getElem?_map,l];rfl
         have A:j<(esL.map (·.1)).length:=(List.getElem?_eq_some_iff.1 J).1;have I:=(List.getElem?_inj A x).1 (J.trans V.symm);refine⟨?_,I⟩;rw[I,l]at D;exact(kO D).symm
        rw[e1,this.2,show 16+(c.toNat-16)=c.toNat by omega];exact qss c
       split at h
       .rename_i b;cases z:s[p+1]? with
        |none=>rw[z]at h;cases h
        |some k=>
          rw[z]at h;simp only[]at h;split at h
          .cases h
          .rename_i M;simp only[wG,ww]at h;obtain⟨⟨rfl,rfl⟩,rfl⟩:=h;refine⟨.inr ⟨rfl,rfl,g,?_,?_⟩,?_⟩
           .show(qD r.1).1<=(ks.length:Int);rw[F,a];omega
           .show(ks.length:Int)<=(qD r.1).2.1;rw[E,a];omega
           .refine Eq.trans ?_ (qy5 r.1 0 ks).symm;rw[if_pos b,a];show _=[UInt8.ofNat (hdE r.1).toNat,UInt8.ofNat (iw .u8 ((k.toNat:Nat):Int)).toNat];rw[u,qss,qnv (q:=p+1) (by omega) (by omega),qnq v,qnq z];rfl
       .rename_i b;rw[kh]at b;simp only[wG,ww]at h;obtain⟨⟨rfl,rfl⟩,rfl⟩:=h;have H:=qNY r w b;refine⟨.inr ⟨rfl,rfl,g,?_,?_⟩,?_⟩
        .show(qD r.1).1<=(ks.length:Int);rw[F,a];omega
        .show(ks.length:Int)<=(qD r.1).2.1;rw[E,a];omega
        .refine Eq.trans ?_ (qy5 r.1 0 ks).symm;rw[if_neg (by rw[b];decide)];show _=[UInt8.ofNat (hdE r.1).toNat];rw[u,qnq v]
theorem qCL{s:List UInt8}{R:Nat->Option T×Nat}(g:∀p k q,R p=(some k,q)->qGM k/\(s.take q).drop p=Q8 (bI k)/\p<=q/\q<=s.length):∀(n p:Nat) (ks:List T) (q:Nat),p<=s.length->Q3 R n p=(some ks,q)->ks.length=n/\(∀k∈ks,qGM k)/\(s.take q).drop p=Q8 (ks.map bI).flatten/\p<=q/\q<=s.length
 |0,p,ks,q,f,h=>by
   simp only[Q3,wG,ww]at h;obtain⟨rfl,rfl⟩:=h;refine⟨rfl,λ k c=>(by cases c),?_,wa _,f⟩;rw[List.drop_eq_nil_of_le (by rw[wk];omega)];rfl
 |n+1,p,ks,q,f,h=>by
   simp only[Q3]at h;split at h
   .cases h
   .rename_i k d c;split at h
    .cases h
    .rename_i a l b;simp only[wG,ww]at h;obtain⟨rfl,rfl⟩:=h;let⟨y,w,j,v⟩:=g p k d c;let⟨u,t,r,i,o⟩:=qCL g n d a l v b;refine⟨by rw[wz,u],λ x m=>(wx.1 m).elim (λ e=>e▸y) (t x),?_,wE j i,o⟩;rw[qnv j i,w,r,wv,xY,qn2]
theorem qEO{s:List UInt8}:∀(f p:Nat) (t:T) (q:Nat),rdT s f p=(some t,q)->qGM t/\(s.take q).drop p=Q8 (bI t)/\p<=q/\q<=s.length
 |0,p,t,q,h=>by simp[rdT]at h
 |f+1,p,t,q,h=>by
   simp only[rdT]at h;split at h
   .cases h
   .rename_i t0 n d e;split at h
    .cases h
    .rename_i ks i b;simp only[wG,ww]at h;obtain⟨rfl,rfl⟩:=h;let⟨z,o,_⟩:=qed e;let⟨y,x,w,v,r⟩:=qCL (λ p k q c=>qEO f p k q c) n d ks i o b;let⟨g,m⟩:=qNI e ks y;refine⟨λ u a=>?_,?_,by omega,r⟩
     .rw[qfa]at a;obtain rfl|a:=wx.1 a
      .exact g
      .let⟨l,j,a⟩:=vN.1 a;obtain⟨k,c,rfl⟩:=wA.1 j;exact x k c u a
     .rw[qPI _ g,qnv (q:=d) (by omega) v,m,w];rfl
theorem qD3{t:T}(h:qGM t):qkh t=true:=by
 unfold qkh ju;rw[xg,vD];intro u b;obtain⟨a,_⟩|⟨a,_⟩:=h u b<;>(rw[a];decide)
theorem qEi{t:T}(h:JY t=true):qcL t=0:=by
 unfold JY at h;rw[wc,decide_eq_true_eq]at h;have b:=h.1;by_cases a:qcL t=0
 .exact a
 .unfold qij at b;rw[if_pos a]at b;exact absurd b a
theorem qKO{s:List UInt8}{t:T}{a:Int}(h:qpj s=(t,(a,0))):qjg t=0/\qta t=s/\a=0/\size t<=400:=by
 unfold qpj at h;split at h
 .simp at h
 .rename_i e q f;let⟨j,i,_,l⟩:=qEO _ _ _ _ f;split at h
  .simp at h
  .rename_i b;have b:q=s.length:=kP λ g=>b g;split at h
   .simp at h
   .rename_i k;split at h
    .rename_i c;simp only[wG]at h;obtain⟨rfl,rfl,_⟩:=h
     have d:qjg e=0:=by
      unfold qjg;rw[if_neg (λ g=>g (qEi c)),if_neg (by rw[qD3 j];decide),if_neg (by rw[c];decide)]
     refine⟨d,?_,rfl,by omega⟩;unfold qta;rw[if_pos d,<-i,b,wH,wP]
    .simp at h
end Go.AmZ
namespace Go.AmZ
open Go Go.GxZ Go.RowKit
open Go.ChangeShapes Go.WideShapes Go.ChangeAt Go.WideMaps Go.WideElems
theorem qzs(b o j:Nat):(⟨b,o,none⟩:Addr).add j=⟨b,o+j,none⟩:=by unfold Addr.add;split<;>simp_all
def Ty.wt:Ty->Nat
 |.int _|.bool=>1
 |.str=>16
 |.list _=>24
 |.term=>56
 |.pair a b=>a.wt+b.wt
 |.one a=>a.wt
 |.map _ _=>8
theorem Ty.wt_pos:∀a:Ty,0<a.wt
 |.int _|.bool=>Nat.one_pos
 |.list _=>(by decide:0<24)
 |.str=>(by decide:0<16)
 |.term=>(by decide:0<56)
 |.pair a b=>wB (Ty.wt_pos a) (kJ _ _)
 |.one a=>Ty.wt_pos a
 |.map _ _=>(by decide:0<8)
mutual
def tyM(P:Program):Nat->Ty->TypeId->Bool
 |0,_,_=>false
 |_+1,.int k,t=>match P.underlying t with
   |some (.int d)=>decide (d=k)&&decide (P.cellsOf t=1)
   |_=>false
 |_+1,.bool,t=>match P.underlying t with
   |some .bool=>decide (P.cellsOf t=1)
   |_=>false
 |_+1,.str,t=>match P.underlying t with
   |some .string=>decide (P.cellsOf t=1)
   |_=>false
 |n+1,.list a,t=>match P.underlying t with
   |some (.slice e)=>decide (P.cellsOf t=1)&&decide (P.cellsOf e=a.size)&&decide (a.wt<=P.bytesOf e)&&tyM P n a e
   |_=>false
 |n+1,.term,t=>qGB P n t
 |n+1,.pair a b,t=>match P.underlying t with
   |some (.struct c)=>decide (P.cellsOf t=a.size+b.size)&&fsM P n (.pair a b) 0 c.toList
   |_=>false
 |n+1,.one a,t=>match P.underlying t with
   |some (.struct c)=>decide (P.cellsOf t=a.size)&&fsM P n a 0 c.toList
   |_=>false
 |_+1,.map _ _,_=>false
def fsM(P:Program):Nat->Ty->Nat->List Field->Bool
 |0,_,_,_=>false
 |n+1,τ,off,[f]=>decide (f.offset=off)&&decide (P.cellsOf f.type=τ.size)&&tyM P n τ f.type
 |n+1,.pair a b,off,f::g::r=>decide (f.offset=off)&&decide (P.cellsOf f.type=a.size)&&tyM P n a f.type&&fsM P n b (off+a.size) (g::r)
 |_+1,_,_,_=>false
def qGB(P:Program):Nat->TypeId->Bool
 |0,_=>false
 |n+1,t=>match P.underlying t with
   |some (.struct f)=>match f.toList with
     |[d,c,b,a]=>decide (P.cellsOf t=4)&&decide (d.offset=0)&&decide (c.offset=1)&&decide (b.offset=2)&&decide (a.offset=3)&&decide (P.cellsOf a.type=1)&&
      tyM P n (.int .i64) d.type&&tyM P n .str c.type&&tyM P n (.int .i64) b.type&&(match P.underlying a.type with
      |some (.slice e)=>decide (e=t)&&decide (0<P.bytesOf t)
      |_=>false)
     |_=>false
   |_=>false
end
def qkV:(τ:Ty)->Val τ->Prop
 |.int k,n=>k.min<=n/\n<=k.max
 |.bool,_=>True
 |.str,s=>s.length<2^62
 |.term,t=>qGR t
 |.list a,l=>(l.length<2^62/\l.length*a.wt<=2^47)/\∀x∈l,qkV a x
 |.pair a b,p=>qkV a p.1/\qkV b p.2
 |.one a,v=>qkV a v
 |.map _ _,_=>True
def ghW(W:World):Gh:=⟨λ b o=>match W.cell? ⟨b,o,none⟩with|some u=>if u.oneCell'=true then some u else none|none=>none,0,λ _=>0,0,λ _=>0,λ _=>0,λ _=>0,λ _=>0,λ _=>0⟩
theorem qEq{W:World}{b o:Nat}{u:Value}:(ghW W).mem b o=some u↔W.cell? ⟨b,o,none⟩=some u/\u.oneCell'=true:=by
 show(match W.cell? ⟨b,o,none⟩with|some u=>if u.oneCell'=true then some u else none|none=>none)=some u↔_;cases W.cell? ⟨b,o,none⟩with
 |none=>simp
 |some v=>
   simp only[ww];constructor
   .intro h;split at h
    .cases h;exact⟨rfl,‹_›⟩
    .cases h
   .rintro⟨rfl,h⟩;rw[if_pos h]
theorem qNa(W:World):Inv (ghW W) emp W:=
 ⟨rfl,rfl,λ b o u h=>qEq.1 h,λ i cs h=>(by cases h),λ i j h=>absurd h (wK _),λ i h=>absurd h (wK _),λ r R h=>(by cases h),λ r a h=>absurd h (wK _)⟩
theorem cells_len{W:World}{zk:Nat}{a:Addr}:∀{n:Nat} {cs:List Value},W.cells? zk a n=some cs->cs.length=n/\∀ j u,cs[j]?=some u->W.cell? (a.add j)=some u:=by
 intro n cs h;unfold World.cells? at h;split at h
 case isFalse=>cases h
 have h1:=mapM_some_length h;rw[xG]at h1;refine⟨h1,λ j u hj=>?_⟩;have hlt:=getElem?_lt hj;have:=mapM_some_get h j j (by rw[List.getElem?_range (by omega)]);rw[this];exact hj
section
variable {H:Type}{enc:TypeId×Value->H}{P:Program}{W:World}
def qGv(enc:TypeId×Value->H)(P:Program)(W:World)(a:Nat):Prop:=∀(n:Nat) (τ:Ty) (t:TypeId) (cs:List Value) (x:DataW H×List MemPlace),tyM P n τ t=true->DataW.trod enc P W 0 (λ _=>true) true a t cs=some x->(∀k∈x.1.weights P t,k<=reachBytes)->
 ∃v:Val τ,RepL (ghW W) (qd τ v) cs/\(∀u∈cs,u.oneCell'=true)/\qkV τ v
theorem qna{e:TypeId}:∀{ds:List (DataW H)}{d:DataW H},d∈ds->∀n∈d.weights P e,n∈DataW.weightsAll P e ds
 |b::ds,d,h,n,a=>by
   simp only[DataW.weightsAll,wm];obtain rfl|h:=wx.1 h
   .exact Or.inl a
   .exact Or.inr (qna h n a)
theorem qDg{n k:Nat}(h:n*k<=reachBytes)(a:0<k):n<2^62:=by
 have:n*1<=n*k:=vX _ a;have b:reachBytes=140737488351232:=rfl;omega
theorem qIg{α d:Type}{n:Nat}{Q:Nat->α->d->Prop}(e:0<n)(h:∀i,i<n->∃a b,Q i a b):∃(f:Nat->α) (g:Nat->d),∀i,i<n->Q i (f i) (g i):=by
 let⟨k,j,_⟩:=h 0 e;refine⟨λ i=>if c:i<n then(h i c).choose else k,λ i=>if c:i<n then(h i c).choose_spec.choose else j,λ i c=>?_⟩;simp only[dif_pos c];exact(h i c).choose_spec.choose_spec
theorem qA0{Γ:Gh}{x:AV}{u:Value}(h:Rep Γ x u):RepL Γ [x] [u]:=waO h RepL.nil
theorem qyU{A:Nat}(hA:∀f,f<A->qGv enc P W f){a:Ty}{t e:TypeId}{m:Nat}{cs:List Value}{x:DataW H×List MemPlace}(T:P.underlying t=some (.slice e))(hc:P.cellsOf e=a.size)(hb:0<P.bytesOf e)(hm:tyM P m a e=true)
  (h:DataW.trod enc P W 0 (λ _=>true) true A t cs=some x) (M:∀k∈x.1.weights P t,k<=reachBytes):
  ∃(l:List (Val a)) (u:Value),cs=[u]/\u.oneCell'=true/\Rep (ghW W) (.sl a.size (l.map (qd a)) 1) u/\(l.length<2^62/\l.length*P.bytesOf e<=2^47)/\∀v∈l,qkV a v:=by
 obtain⟨rfl,rfl⟩|⟨ad,d,cap,elems,E,n,rfl,rfl,rfl,_,U,_,I,O,_,_⟩:=DataW.trod_slice T h
 .refine⟨[],_,rfl,rfl,?_,⟨by simp,by simp⟩,(by intro v G;cases G)⟩;exact .sl _ _ _ none 0 0 0 0 (λ _ _=>undef) rfl (λ _=>wa _) (λ h=>by omega) (by intro e p;cases p) (by intro e p;cases p) (waM a) (.inl rfl) (by intro i e j x c;cases c) (by intro i e j x c;cases c)
 .have F:(elems.length+E.length)*P.bytesOf e<=reachBytes/\∀k∈DataW.weightsAll P e (elems.map (·.1)),k<=reachBytes:=by
    simp only[DataW.weights,T,wC,wx,wm]at M;exact⟨M _ (.inl rfl),λ k N=>M k (.inr (.inl N))⟩
  have B:∀i,i<d->∃(v:Val a) (us:List Value),RepL (ghW W) (qd a v) us/\(∀u∈us,u.oneCell'=true)/\qkV a v/\(∀j u,us[j]?=some u->W.cell? ((ad.add (i*a.size)).add j)=some u):=by
   intro i c;have g:=O i c;rw[List.getElem?_eq_getElem (by omega),hc,Option.bind_eq_some_iff]at g;let⟨us,C,h3⟩:=g;let⟨z,D⟩:=cells_len C;let⟨v,Q,g2,g3⟩:=hA n (xz _) m a e us _ hm h3 λ k N=>F.2 k (qna (k8 (wW _)) k N);exact⟨v,us,Q,g2,g3,D⟩
  by_cases h0:d=0
  .subst h0;refine⟨[],_,rfl,rfl,?_,⟨by simp,by simp⟩,(by intro v G;cases G)⟩;exact .sl _ _ _ _ 0 cap 0 0 (λ _ _=>undef) rfl (λ _=>U) (λ h=>by omega) (by intro e p;cases p) (by intro e p;cases p) (waM a) (.inl rfl) (by intro i e j x c;cases c) (by intro i e j x c;cases c)
  obtain⟨b,o,rfl⟩:∃b o,ad=⟨b,o,none⟩:=by
   let⟨v,us,Q,_,_,g4⟩:=B 0 (by omega);have aa:us.length=a.size:=by rw[Q.len];exact yi a v
   have hp:=waM a;have g:=g4 0 _ (List.getElem?_eq_getElem (by omega));rw[kI]at g;have e1:(ad.add 0).add 0=ad:=rfl;rw[e1]at g;let⟨b,o,sp⟩:=ad;unfold World.cell? at g;split at g
   .split at g
    .cases g
    .rename_i hs;cases sp with
     |none=>exact⟨b,o,rfl⟩
     |some s=>simp at hs
   .cases g
  let⟨L,R,r⟩:=qIg (by omega:0<d) B;have Z:=λ i c=>(r i c).1;have Y:=λ i c=>(r i c).2.1;have X:=λ i c=>(r i c).2.2.1;have V:=λ i c=>(r i c).2.2.2;have K:∀i,i<d->((List.range d).map L)[i]?=some (L i):=λ i c=>by rw[List.getElem?_map,List.getElem?_range c];rfl
  have q:∀(i:Nat) (w:List AV) (j:Nat) (y:AV),(((List.range d).map L).map (qd a))[i]?=some w->w[j]?=some y->i<d/\∃u,(R i)[j]?=some u/\Rep (ghW W) y u/\(ghW W).mem b (o+i*a.size+j)=some u:=by
   intro i w j y g C;have c:i<d:=by have:=getElem?_lt g;simpa using this
   rw[List.getElem?_map,K i c]at g;cases g;let⟨u,z,D⟩:=(Z i c).get C;refine⟨c,u,z,D,qEq.2 ⟨?_,Y i c u (wb z)⟩⟩;have:=V i c j u z;rw[qzs,qzs]at this;exact this
  refine⟨(List.range d).map L,_,rfl,rfl,?_,?_,?_⟩
  .refine .sl _ _ _ _ d cap b o (λ i j=>(R i).getD j undef) (by simp) (λ _=>U) (λ h=>by omega) ?_ ?_ (waM a) (.inr rfl) ?_ ?_
   .intro w p;obtain⟨v,_,rfl⟩:=wA.1 p;exact yi a v
   .intro w p;obtain⟨v,_,rfl⟩:=wA.1 p;exact zt a v
   .intro i w j y g C;let⟨_,u,z,D,S⟩:=q i w j y g C;rw[List.getD_eq_getElem?_getD,z];exact S
   .intro i w j y g C;let⟨_,u,z,D,S⟩:=q i w j y g C;rw[List.getD_eq_getElem?_getD,z];exact D
  .rw[wC,xG,<-I];have J:elems.length*P.bytesOf e<=reachBytes:=wE (wo _ (kJ _ _)) F.1;exact⟨qDg J hb,wE J (by decide)⟩
  .intro v G;obtain⟨i,c,rfl⟩:=wA.1 G;exact X i (kS.1 c)
theorem qwA{c:Nat}(G:qGv enc P W c):∀(n:Nat) (τ:Ty) (off:Nat) (d:List Field) (cs:List Value) (xs:List (DataW H×List MemPlace)),fsM P n τ off d=true->xs.length=d.length->
  (∀(i:Nat) (f:Field),d[i]?=some f->DataW.trod enc P W 0 (λ _=>true) true c f.type ((cs.drop f.offset).take (P.cellsOf f.type))=xs[i]?)->(∀k∈DataW.weightsEach P (d.map (·.type)) (xs.map (·.1)),k<=reachBytes)->off+τ.size<=cs.length->
  ∃v:Val τ,RepL (ghW W) (qd τ v) ((cs.drop off).take τ.size)/\(∀u∈(cs.drop off).take τ.size,u.oneCell'=true)/\qkV τ v:=by
 intro n
 induction n with
 |zero=>intro τ off d cs xs h;simp[fsM]at h
 |succ n M=>
   intro τ off d cs xs h A z m j
   have t:∀f x,d=[f]->xs=[x]->(decide (f.offset=off)&&decide (P.cellsOf f.type=τ.size)&&tyM P n τ f.type)=true->∃v:Val τ,RepL (ghW W) (qd τ v) ((cs.drop off).take τ.size)/\(∀u∈(cs.drop off).take τ.size,u.oneCell'=true)/\qkV τ v:=by
    intro f x Q w h;simp only[wc,decide_eq_true_eq]at h;let⟨⟨E,D⟩,C⟩:=h;subst Q;subst w;have o:=z 0 f rfl;rw[E,D]at o;exact G n τ f.type _ x C o λ k l=>m k (by simp only[wv,vt,DataW.weightsEach,wy];exact l)
   cases d with
   |nil=>cases τ<;>simp[fsM]at h
   |cons f r=>
     cases xs with
     |nil=>simp at A
     |cons x xs=>
       cases r with
       |nil=>
         have y:xs=[]:=wh (by simpa using A);subst y;refine t f x rfl rfl ?_;cases τ<;>exact h
       |cons g r=>
         cases τ with
         |pair a b=>
           simp only[fsM,wc,decide_eq_true_eq]at h;let⟨⟨⟨E,D⟩,C⟩,o⟩:=h;have I:=z 0 f rfl;rw[E,D]at I;have O:off+(a.size+b.size)<=cs.length:=j;simp only[wv,DataW.weightsEach,wm]at m;let⟨v,L,K,J⟩:=G n a f.type _ x C I λ k l=>m k (.inl l);let⟨F,s,q,p⟩:=M b (off+a.size) (g::r) cs xs o (by simpa using A) (λ i R B=>z (i+1) R B) (λ k l=>m k (.inr l)) (by omega)
           have e:(cs.drop off).take (a.size+b.size)=(cs.drop off).take a.size++(cs.drop (off+a.size)).take b.size:=by
            rw[List.take_add,wau]
           refine⟨(v,F),?_,?_,J,p⟩
           .show RepL _ (qd a v++qd b F) ((cs.drop off).take (a.size+b.size));rw[e];exact L.append s
           .show ∀u∈(cs.drop off).take (a.size+b.size),_;rw[e];intro u N;exact(wm.1 N).elim (K u) (q u)
         |_=>simp[fsM]at h
theorem qMW{Γ:Gh}(k:IntKind)(n:Int):RepL Γ (qd (.int k) n) [.int k n]:=qA0 (.v _ rfl)
theorem qLS:∀ fuel,qGv enc P W fuel:=by
 intro fuel
 induction fuel using Nat.strongRecOn with
 | ind fuel ihA =>
   have ints:∀{k:IntKind} {t:TypeId} {cs:List Value} {x:DataW H × List MemPlace} {f:Nat},P.underlying t=some (.int k)->DataW.trod enc P W 0 (λ _=>true) true f t cs=some x->∃ n:Int,cs=[.int k n]/\k.min<=n/\n<=k.max:=by
    intro k t cs x f ht h;obtain⟨n,rfl,_,hwf⟩:=DataW.trod_int ht h;simp only[Lit.wf,wc,decide_eq_true_eq]at hwf;exact⟨n,rfl,hwf⟩
   have strs:∀{t:TypeId} {cs:List Value} {x:DataW H × List MemPlace} {f:Nat},P.underlying t=some .string->DataW.trod enc P W 0 (λ _=>true) true f t cs=some x->(∀ k∈x.1.weights P t,k<=reachBytes)->∃ s:ByteArray,cs=[.string s]/\s.data.toList.length<2 ^ 62:=by
    intro t cs x f ht h hw;obtain⟨s,rfl,rfl,_⟩:=DataW.trod_string ht h;refine⟨s,rfl,?_⟩;have:=hw s.data.toList.length (by simp[DataW.weights]);exact qDg (k:=1) (by omega) (by decide)
   intro n τ t cs x hm h hw;cases n with
   | zero=>cases τ <;> simp[tyM]at hm
   | succ n =>
   cases τ with
   | int k =>
     simp only[tyM]at hm;split at hm
     ·rename_i k' ht;simp only[wc,decide_eq_true_eq]at hm;obtain⟨rfl,_⟩:=hm;obtain⟨i,rfl,h1,h2⟩:=ints ht h;exact⟨i,qMW _ _,by intro u hu;rw[wF.1 hu];rfl,h1,h2⟩
     ·cases hm
   | bool =>
     simp only[tyM]at hm;split at hm
     ·rename_i ht;obtain⟨b,rfl,_⟩:=DataW.trod_bool ht h;exact⟨b,qA0 (.v _ rfl),by intro u hu;rw[wF.1 hu];rfl,trivial⟩
     ·cases hm
   | str =>
     simp only[tyM]at hm;split at hm
     ·rename_i ht;obtain⟨s,rfl,h1⟩:=strs ht h hw;refine⟨s.data.toList,?_,by intro u hu;rw[wF.1 hu];rfl,h1⟩;exact qA0 (.v _ rfl)
     ·cases hm
   | list a =>
     simp only[tyM]at hm;split at hm
     ·rename_i e ht;simp only[wc,decide_eq_true_eq]at hm;obtain⟨⟨⟨_,hc⟩,hb⟩,hm⟩:=hm;obtain⟨l,u,rfl,h1,h2,h3,h4⟩:=qyU (λ f hf=>ihA f hf) ht hc (wB (Ty.wt_pos a) hb) hm h hw;exact⟨l,qA0 h2,by intro u' hu;rw[wF.1 hu];exact h1,⟨h3.1,wE (vX _ hb) h3.2⟩,h4⟩
     ·cases hm
   | pair a b =>
     simp only[tyM]at hm;split at hm
     ·rename_i fs ht;simp only[wc,decide_eq_true_eq]at hm;obtain⟨hc,hm⟩:=hm;obtain⟨xs,f,rfl,rfl,h1,h2,h3⟩:=DataW.trod_struct ht h;have hsz:(Ty.pair a b).size=a.size+b.size:=rfl;obtain⟨v,v1,v2,v3⟩:=qwA (ihA f (xz _)) n (.pair a b) 0 fs.toList cs xs hm (by simpa using h2) (λ i g hg=>h3 i g (by simpa using hg)) (by simpa[DataW.weights,ht]using hw) (by rw[h1,hc,hsz];omega);rw[wP,kH (by rw[h1,hc,hsz];exact wa _)]at v1 v2;exact⟨v,v1,v2,v3⟩
     ·cases hm
   | one a =>
     simp only[tyM]at hm;split at hm
     ·rename_i fs ht;simp only[wc,decide_eq_true_eq]at hm;obtain⟨hc,hm⟩:=hm;obtain⟨xs,f,rfl,rfl,h1,h2,h3⟩:=DataW.trod_struct ht h;obtain⟨v,v1,v2,v3⟩:=qwA (ihA f (xz _)) n a 0 fs.toList cs xs hm (by simpa using h2) (λ i g hg=>h3 i g (by simpa using hg)) (by simpa[DataW.weights,ht]using hw) (by rw[h1,hc];omega);rw[wP,kH (by rw[h1,hc];exact wa _)]at v1 v2;exact⟨v,v1,v2,v3⟩
     ·cases hm
   | map a b=>simp[tyM]at hm
   | term =>
     have hm0:=hm;simp only[tyM]at hm;cases n with
     | zero=>simp[qGB]at hm
     | succ n =>
     simp only[qGB]at hm;split at hm
     case h_2=>cases hm
     rename_i fs ht;split at hm
     case h_2=>cases hm
     rename_i f0 f1 f2 f3 hfs;simp only[wc,decide_eq_true_eq]at hm;obtain⟨⟨⟨⟨⟨⟨⟨⟨⟨hc,o0⟩,o1⟩,o2⟩,o3⟩,hc3⟩,m0⟩,m1⟩,m2⟩,m3⟩:=hm;split at m3
     case h_2=>cases m3
     rename_i e ht3;simp only[wc,decide_eq_true_eq]at m3;obtain⟨rfl,hb⟩:=m3;obtain⟨xs,f,rfl,rfl,h1,h2,h3⟩:=DataW.trod_struct ht h;have hsz:fs.size=4:=by rw[<- wN,hfs];rfl
     rw[hsz]at h2;rw[hc]at h1
     obtain⟨c0,c1,c2,c3,rfl⟩:∃ c0 c1 c2 c3,cs=[c0,c1,c2,c3]:=by
      match cs,h1 with
      | [a,b,c,d],_=>exact⟨a,b,c,d,rfl⟩
     obtain⟨x0,x1,x2,x3,rfl⟩:∃ x0 x1 x2 x3,xs=[x0,x1,x2,x3]:=by
      match xs,h2 with
      | [a,b,c,d],_=>exact⟨a,b,c,d,rfl⟩
     have fg:∀ i g,[f0,f1,f2,f3][i]?=some g->fs[i]?=some g := λ i g hg=>by rw[<- hfs,Array.getElem?_toList]at hg;exact hg
     have s0:=h3 0 f0 (fg 0 _ rfl);have s1:=h3 1 f1 (fg 1 _ rfl);have s2:=h3 2 f2 (fg 2 _ rfl);have s3:=h3 3 f3 (fg 3 _ rfl)
     have cOf:∀{τ : Ty} {t:TypeId},(∃ k,τ = .int k) \/ τ = .str->tyM P n τ t=true->P.cellsOf t=1:=by
      intro τ t hτ hm;cases n with
      | zero=>cases τ <;> simp[tyM]at hm
      | succ n =>
        rcases hτ with⟨k,rfl⟩ | rfl
        ·simp only[tyM]at hm;split at hm
         ·simp only[wc,decide_eq_true_eq]at hm;exact hm.2
         ·cases hm
        ·simp only[tyM]at hm;split at hm
         ·exact of_decide_eq_true hm
         ·cases hm
     have uInt:∀{k:IntKind} {t:TypeId},tyM P n (.int k) t=true->P.underlying t=some (.int k):=by
      intro k t hm;cases n with
      | zero=>simp[tyM]at hm
      | succ n =>
        simp only[tyM]at hm;split at hm
        ·rename_i k' ht;simp only[wc,decide_eq_true_eq]at hm;rw[ht,hm.1]
        ·cases hm
     have uStr:∀{t:TypeId},tyM P n .str t=true->P.underlying t=some .string:=by
      intro t hm;cases n with
      | zero=>simp[tyM]at hm
      | succ n =>
        simp only[tyM]at hm;split at hm
        ·assumption
        ·cases hm
     rw[o0,cOf (.inl ⟨_,rfl⟩) m0]at s0;rw[o1,cOf (.inr rfl) m1]at s1;rw[o2,cOf (.inl ⟨_,rfl⟩) m2]at s2;rw[o3,hc3]at s3
     have hwE:∀ k∈DataW.weightsEach P [f0.type,f1.type,f2.type,f3.type] [x0.1,x1.1,x2.1,x3.1],k<=reachBytes:=by
      intro k hk;refine hw k ?_;simp only[DataW.weights,ht,hfs];exact hk
     simp only[DataW.weightsEach,wm]at hwE;obtain⟨i0,e0,_,_⟩:=ints (uInt m0) (f:=f) (x:=x0) s0;obtain⟨i1,e1,b1⟩:=strs (uStr m1) (f:=f) (x:=x1) s1 λ k hk=>hwE k (.inr (.inl hk));obtain⟨i2,e2,_,_⟩:=ints (uInt m2) (f:=f) (x:=x2) s2;obtain⟨l,u,e3,b3,r3,l3,v3⟩:=qyU (a := .term) (λ g hg=>ihA g (Nat.lt_succ_of_lt hg)) ht3 hc hb hm0 s3 λ k hk=>hwE k (.inr (.inr (.inr (.inl hk))));have g0:c0 = .int .i64 i0:=by simpa using e0
     have g1:c1 = .string i1:=by simpa using e1
     have g2:c2 = .int .i64 i2:=by simpa using e2
     have g3:c3=u:=by simpa using e3
     subst g0;subst g1;subst g2;subst g3;refine⟨.mk i0 i1.data.toList i2 l,?_,?_,(qMw _).2 ⟨l3.1,b1,v3⟩⟩
     ·show RepL _ (JQ _) _;rw[JQ,qll];exact waO (.v _ rfl) (waO (.v _ rfl) (waO (.v _ rfl) (qA0 r3)))
     ·intro u hu;simp only[wx,xe,or_false]at hu;rcases hu with rfl | rfl | rfl | rfl
      ·rfl
      ·rfl
      ·rfl
      ·exact b3
end
end Go.AmZ
namespace Go.AmZ
open Go Go.GxZ
theorem qIq(s:List UInt8):size (qpj s).1<=400:=by
 have a:size (.mk 0 [] 0 [])<=400:=by rw[qW];decide
 unfold qpj;split
 .exact a
 .split
  .exact a
  .split
   .exact a
   .split
    .rename_i t q d e c f;exact waj λ b=>c (.inl b)
    .exact a
theorem envelopeDecode_ev(s:List UInt8)(_:qkV .str s):Ev (λ m _=>law20_EnvelopeDecode m s) true:=by
 refine waK ?_;simp only[qmE,qbr,qk];refine waC qwo (waH rfl ?_);by_cases g:ilt 2000 (s.length:Int)=true
 .exact waG g (waC qwo (waE _))
 rw[kh]at g;have n:s.length<=2000:=by have:=qw.1 g;omega
 have h:=qIq s;refine waH g (waC (qPE s (by omega)) (waC (qMt s (by omega)) ?_));generalize j:qpj s=d at h;let⟨t,a,e⟩:=d;have h:size t<=400:=h;have b:Ev (λ m _=>QF m t t) true:=(qgi t t (by omega) (by omega)).res (qbA.2 rfl);have c:∀x:Int,ieq x x=true:=λ x=>ql.2 rfl;refine waH (bnf.2 (c _)) (waH (bnf.2 (c _)) (waC b (waH rfl ?_)));by_cases i:e=0
 .subst i;let⟨l,k,_⟩:=qKO j;have f:=qOj t (by omega);rw[l,k]at f;exact waH rfl (waC f (waG rfl (waI (jo.2 rfl))))
 .exact waG (bnt.2 (qj.2 i)) (waG (c _) (waG (c _) (waC b (waE _))))
end Go.AmZ
