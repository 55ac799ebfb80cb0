/- Part 5 of what the proofs stand on: plain functions of the program, and that they are its functions. -/
import Derived.Test.YtinbdcelmgfniaaGreatDoorM4
import Derived.KernelRfl
import Derived.Test.YtinbdcelmgfniaaGreatDoorM3
import Derived.SliceStrings
import Derived.SizedLaws
import Derived.Shelf.SlSortCmp.NoneTotal
import Derived.Test.YtinbdcelmgfniaaGreatDoorProg
set_option linter.unusedVariables false
set_option linter.unusedSimpArgs false
noncomputable section
namespace Go.AmZ
open Go Go.GxZ Go.Lib
theorem qCU(b d:Nat):∀(l:List Nat) (c:Nat),l.foldl (λ a x=>max a (b+x)) (max d (b+c))=max d (b+l.foldl max c)
 |[],c=>rfl
 |x::l,c=>by
   rw[kh,kh,<-qCU b d l (max c x)];congr 1;omega
def qOQ(a n d:Nat)(e:Int)(s:Nat)(x:Nat)(r:(Int×Int×Unit)×(Int×Unit)):Prop:=r.2.1=e/\(e=0->r.1.1=((n+s:Nat):Int)/\r.1.2.1=((max d (a+x):Nat):Int))
theorem qK4(t:T):size t<=1000000000->∀c n d:Nat,c+size t<=2000000000->n+size t<=2000000000->d<=2000000000->∃r,Ev (λ m _=>yf m t c n d) r/\qOQ c n d (Qb t) (size t) (qd3 t-1) r:=by
 induction t using T.ind with
 |h t U=>
   intro hs c n d N B aa;have hl:=yJ t;have X:=zb t
   have G:=qw (P:=λ i=>∀n d:Nat,n+((t.kids.drop i).map size).sum<=2000000000->d<=2000000000->∃r,Ev (λ m k=>jy m (yf m) k c t.kids t.kids.length i n d) r/\r.2.1=((t.kids.drop i).map Qb).foldl thn 0/\(((t.kids.drop i).map Qb).foldl thn 0=0->r.1.1=((n+((t.kids.drop i).map size).sum:Nat):Int)/\r.1.2.1=((((t.kids.drop i).map qd3).foldl (λ a x=>max a (c+x)) d:Nat):Int))) t.kids (by omega)
    (λ J n d _ _=>by
     refine⟨((n,d,()),(0,())),?_,?_,λ _=>⟨?_,?_⟩⟩
     .refine waH ?_;simp only[qpO,qfQ];exact waG J (waD _)
     .simp
     .simp
     .simp)
    (λ i x W Q J hg Z hP n d B I=>by
     have M:=wc W;have q:=jD t x M;rw[qs9 Q]at B;let⟨r,Y,C,V⟩:=U x M (by omega) (c+1) n d (by omega) (by omega) I
     have l:∀w ,(r.2.1≠0->w=((r.1.1,r.1.2.1,()),(r.2.1,())))->(r.2.1=0->Ev (λ m k=>jy m (yf m) k c t.kids t.kids.length ((i+1:Nat):Int) r.1.1 r.1.2.1) w)->Ev (λ m k=>jy m (yf m) k c t.kids t.kids.length i n d) w:=by
      intro w A u;refine waH ?_;simp only[qpO,qfQ,qk];refine waF J (waC hg ?_);rw[show qj (c:Int) 1=((c+1:Nat):Int) by unfold qj;omega,Jo (by omega),Z];refine waA Y ?_;refine waB (λ h=>?_) λ h=>?_
      .rw[bnt,qi]at h;exact waE (A h).symm
      .rw[bnf,ql]at h;exact u h
     rw[Q,wv,wv,wv,kK,QK,kh];by_cases f:Qb x=0
     .let⟨S,R⟩:=V f;have O:=qEY x;let⟨w,A,u,g3⟩:=hP (n+size x) (max d (c+1+(qd3 x-1))) (by omega) (by omega);refine⟨w,l w (λ h=>absurd (C.trans f) h) (λ _=>by rw[S,R];exact A),by rw[f];exact u,λ o=>?_⟩;rw[f]at o;let⟨F,E⟩:=g3 o;refine⟨by rw[F];congr 1;omega,?_⟩;rw[E];have:qd3 x ≥ 1:=by rw[qkj];omega
      rw[show max d (c+1+(qd3 x-1))=max d (c+qd3 x) by omega]
     .refine⟨((r.1.1,r.1.2.1,()),(r.2.1,())),l _ (λ _=>rfl) (λ h=>absurd (C.symm.trans h) f),?_,λ o=>?_⟩
      .rw[qT _ f];exact C
      .rw[qT _ f]at o;exact absurd o f)
   have start:∀r,(jG t≠0->r=((((n+1:Nat):Int),((max d c:Nat):Int),()),(jG t,())))->(jG t=0->Ev (λ m _=>jy m (yf m) m c t.kids t.kids.length 0 ((n+1:Nat):Int) ((max d c:Nat):Int)) r)->Ev (λ m _=>yf m t c n d) r:=by
    intro r A u;refine waI ?_;simp only[qBB,qfJ];rw[show qj (n:Int) 1=((n+1:Nat):Int) by unfold qj;omega,Jo (by omega),qCC]
    have g:∀e,jG t=e->e≠0->Ev (λ _ _=>some ((((n+1:Nat):Int),((max d c:Nat):Int),()),(e,()))) r:=by
     intro e C h;refine waE ?_;subst C;exact(A h).symm
    have nm:(t.kind=3\/t.kids.length=0)->(∀b,jF t.name=b->(if b then(if 8<t.kids.length then 3 else 0)else 2)=jG t)->Ev (λ m _=>qb (qdm m t.name) λ v=>cond (qh v) (some ((((n+1:Nat):Int),((max d c:Nat):Int),()),(2,()))) (cond (ilt 8 (t.kids.length:Int)) (some ((((n+1:Nat):Int),((max d c:Nat):Int),()),(3,()))) (jy m (yf m) m c t.kids t.kids.length 0 ((n+1:Nat):Int) ((max d c:Nat):Int)))) r:=by
     intro _ h;have h:=h _ rfl;refine waA (qFY _) ?_;cases B:jF t.name with
     |false=>rw[B]at h;exact waF rfl (g 2 h.symm (by decide))
     |true=>
       rw[B,if_pos rfl]at h;refine waG rfl ?_;refine waB (λ j=>?_) λ j=>?_
       .rw[qz]at j;rw[if_pos (by omega)]at h;exact g 3 h.symm (by decide)
       .rw[qB]at j;rw[if_neg (by omega)]at h;exact u h.symm
    have y:∀k,t.kind=k->(k=1\/k=2)->jG t=if t.sort<0\/5<t.sort\/0<t.kids.length then 1 else if jF t.name then 0 else 2:=by
     intro k H h;unfold jG qip;rw[H,if_pos h]
    have s:∀k,t.kind=k->(k=1\/k=2)->Ev (λ m _=>cond (ilt t.sort 0) (some ((((n+1:Nat):Int),((max d c:Nat):Int),()),(1,()))) (cond (ilt 5 t.sort) (some ((((n+1:Nat):Int),((max d c:Nat):Int),()),(1,()))) (cond (ilt 0 (t.kids.length:Int)) (some ((((n+1:Nat):Int),((max d c:Nat):Int),()),(1,()))) (qb (qdm m t.name) λ v=>cond (qh v) (some ((((n+1:Nat):Int),((max d c:Nat):Int),()),(2,()))) (cond (ilt 8 (t.kids.length:Int)) (some ((((n+1:Nat):Int),((max d c:Nat):Int),()),(3,()))) (jy m (yf m) m c t.kids t.kids.length 0 ((n+1:Nat):Int) ((max d c:Nat):Int))))))) r:=by
     intro k H h;have p:=y k H h;refine waB (λ j=>?_) λ j=>?_
     .rw[qz]at j;exact g 1 (by rw[p,if_pos (.inl j)]) (by decide)
     rw[qB]at j;refine waB (λ q=>?_) λ q=>?_
     .rw[qz]at q;exact g 1 (by rw[p,if_pos (.inr (.inl q))]) (by decide)
     rw[qB]at q;refine waB (λ z=>?_) λ z=>?_
     .rw[qz]at z;exact g 1 (by rw[p,if_pos (.inr (.inr (by omega)))]) (by decide)
     rw[qB]at z;rw[if_neg (by omega)]at p;refine nm (.inr (by omega)) λ b K=>?_;rw[p,K,if_neg (show ¬ 8<t.kids.length by omega)]
    by_cases q:t.kind=1
    .exact waF (ql.2 q) (s 1 q (.inl rfl))
    refine waG (qi.2 q) ?_;by_cases z:t.kind=2
    .exact waF (ql.2 z) (s 2 z (.inr rfl))
    refine waG (qi.2 z) ?_;by_cases D:t.kind=3
    .refine waF (ql.2 D) ?_
     have p:jG t=if t.sort≠0 then 1 else if jF t.name then(if 8<t.kids.length then 3 else 0)else 2:=by
      unfold jG qip;rw[if_neg (by omega),if_pos D]
     refine waB (λ j=>?_) λ j=>?_
     .rw[bnt,qi]at j;exact g 1 (by rw[p,if_pos j]) (by decide)
     rw[bnf,ql]at j;rw[if_neg (by omega)]at p;exact nm (.inl D) λ b K=>by rw[p,K]
    .refine waG (qi.2 D) ?_;refine g 1 ?_ (by decide);unfold jG qip;rw[if_neg (by omega),if_neg D]
   rw[qmP];by_cases f:jG t=0
   .rw[f];let⟨r,A,u,g3⟩:=G 0 (we _) (n+1) (max d c) (by rw[wP];omega) (by omega);rw[wP]at u g3;refine⟨r,start r (λ h=>absurd f h) (λ _=>waJ (L:=λ m k=>jy m (yf m) k c t.kids t.kids.length 0 ((n+1:Nat):Int) ((max d c:Nat):Int)) A),u,λ o=>?_⟩;let⟨F,E⟩:=g3 o;refine⟨by rw[F];congr 1;omega,?_⟩;rw[E,show max d c=max d (c+0) by omega,qCU,qkj,vZ]
   .refine⟨_,start _ (λ _=>rfl) (λ h=>absurd h f),?_,λ o=>?_⟩
    .rw[qT _ f]
    .rw[qT _ f]at o;exact absurd o f
theorem qet(t:T)(c:size t<=1000000000):Ev (λ m _=>zh m t) (qV t):=by
 refine waI ?_;simp only[qCK,qiY,qk];unfold qV;let⟨r,f,e,d⟩:=qK4 t c 1 0 0 (by omega) (by omega) (by omega);refine waA f ?_;rw[e];refine waB (λ h=>?_) λ h=>?_
 .rw[bnt,qi]at h;exact waE (by rw[if_pos h])
 rw[bnf,ql]at h;let⟨b,a⟩:=d h;have g:qd3 t ≥ 1:=by rw[qkj];omega
 rw[if_neg (by omega),b,a];refine waB (λ h=>?_) λ h=>?_
 .rw[qz]at h;exact waE (by rw[if_pos (.inl (by omega))])
 rw[qB]at h;refine waB (λ h=>?_) λ h=>?_
 .rw[qz]at h;exact waE (by rw[if_pos (.inr (by omega))])
 .rw[qB]at h;exact waE (by rw[if_neg (by omega)])
theorem qtC(t:T):size t<=1000000000->Ev (λ m _=>jp m t) t:=by
 induction t using T.ind with
 |h t e=>
   intro l;refine waI ?_;simp only[qDv,qfC];have n:=yJ t
   have a:=qw (P:=λ i=>Ev (λ m k=>qaV m (jp m) k t.kids t.kids.length i t.kind t.name t.sort 0 [] 0 (t.kids.take i) []) t) t.kids (by omega)
    (λ b=>by
     refine waH ?_;simp only[qpG,qfT];refine waG b ?_;rw[wG];exact waE (qk t))
    (λ i x c o b g f j=>by
     refine waH ?_;simp only[qpG,qfT,qk];have d:=wc c;have p:=jD t x d;refine waF b (waC g (waA (e x d (by omega)) (waF (zj ?_ (by omega)) ?_)))
     .have:(t.kids.take i).length<=t.kids.length:=by rw[wm];omega
      omega
     .rw[f];refine j.congr λ m k=>?_;rw[kE,c];rfl)
   refine waJ (L:=λ m k=>qaV m (jp m) k t.kids t.kids.length 0 t.kind t.name t.sort 0 [] 0 [] []) ?_;exact a 0 (we _)
def qoz:T->Prop:=T.para λ t a=>t.kids.length<2^62/\t.name.length<2^62/\∀p∈a,p
theorem qFD(t:T):qoz t↔t.kids.length<2^62/\t.name.length<2^62/\∀k∈t.kids,qoz k:=by
 unfold qoz;rw[T.para_eq];exact⟨λ⟨a,b,c⟩=>⟨a,b,λ k d=>c _ (k8 d)⟩,λ⟨a,b,c⟩=>⟨a,b,λ p e=>by obtain⟨k,d,rfl⟩:=wA.1 e;exact c k d⟩⟩
theorem qKY{l:List T}{a:Int}(c:0<=a)(h:qpq l a=true):∀t∈l,(size t:Int)<=a:=λ t b=>by
 have e:=qyN l a c h;have d:=qjB l t b;omega
end Go.AmZ
namespace Go.AmZ
open Go Go.GxZ Go.Lib
theorem qIT(t:T):qoz t->∀a:Int,-1000000000<=a->a<=1000000000->Ev (λ m _=>jb m t a) (qbl t a):=by
 induction t using T.ind with
 |h t j=>
   intro p a d c;let⟨u,v,s⟩:=(qFD t).1 p;refine waI ?_;simp only[qxu,qdR];rw[qEL];refine waB (λ h=>?_) λ h=>?_
   .rw[qjM]at h;exact waE (by rw[if_pos (.inl h)])
   rw[qlM]at h;refine waB (λ f=>?_) λ f=>?_
   .rw[qz]at f;exact waE (by rw[if_pos (.inr (by omega))])
   rw[qB]at f;rw[if_neg (by omega),show Qo a 1=a-1 from rfl,Jo (by omega)]
   have b:=qw (P:=λ i=>∀a:Int,0<=a->a<=1000000000->Ev (λ m k=>Js m (jb m) k a i t.kind t.name t.sort t.kids) (qlt ((t.kids.drop i).map qbl) a)) t.kids u
    (λ e a _ _=>by
     refine waH ?_;simp only[qmD,qdA];refine waG e ?_;rw[wX];exact waD _)
    (λ i x l q e o n r a d c=>by
     refine waH ?_;simp only[qmD,qdA,qk];have g:=wc l;refine waF e (waC o (waA (j x g (s x g) a (by omega) (by omega)) ?_));rw[q,wv,qlt,n];have:=qqv x a;refine waB (λ h=>?_) λ h=>?_
     .rw[qz]at h;exact waE (by rw[if_pos h])
     .rw[qB]at h;rw[if_neg (by omega)];exact r _ (by omega) (by omega))
   refine waJ (L:=λ m k=>Js m (jb m) k (a-1) 0 t.kind t.name t.sort t.kids) ?_;exact(b 0 (we _) (a-1) (by omega) (by omega)).res (by rw[wP])
theorem qPp(l:List T)(j:l.length<2^62)(q:∀t∈l,qoz t)(n:Nat)(a:Int)(c:0<=a)(b:a<=1000000000):Ev (λ m _=>qlZ m l n a) (decide (l.length<=n)&&qpq l a):=by
 refine waI ?_;simp only[qDN,qhh];refine waB (λ h=>?_) λ h=>?_
 .rw[qz]at h;exact waE (by rw[decide_eq_false (by omega)];rfl)
 rw[qB]at h;rw[decide_eq_true (by omega),ke]
 have d:=qw (P:=λ i=>∀a:Int,0<=a->a<=1000000000->Ev (λ m k=>qbR m k l a i) (qpq (l.drop i) a)) l j
  (λ e a _ _=>by
   refine waH ?_;simp only[qqZ,qgI];refine waG e ?_;rw[wX];exact waD _)
  (λ i x f r e p o s a c b=>by
   refine waH ?_;simp only[qqZ,qgI,qk];have g:=wc f;refine waF e (waC p (waA (qIT x (q x g) a (by omega) (by omega)) ?_));rw[r,qpq,o];have:=qqv x a;refine waB (λ h=>?_) λ h=>?_
   .rw[qz]at h;exact waE (by rw[if_pos h])
   .rw[qB]at h;rw[if_neg (by omega)];exact s _ (by omega) (by omega))
 refine waJ (L:=λ m k=>qbR m k l a 0) ?_;exact(d 0 (we _) a c b).res (by rw[wP])
end Go.AmZ
namespace Go.GxZ
def qvI(t:T):Int:=if(qC t.name).2.2=0 then 10 else if qmT jH t.name t.kids.length=false then 6 else if(qC t.name).2.2=2/\qkf t=false then 10 else 0
theorem qu4(n:List UInt8):(jH.find? λ r=>r.1==n)=none\/∃r∈jH,r.1=n/\(jH.find? λ r=>r.1==n)=some r:=by
 cases h:jH.find? λ r=>r.1==n with
 |none=>exact .inl rfl
 |some r=>exact .inr ⟨r,List.mem_of_find?_eq_some h,by simpa using List.find?_some h,rfl⟩
theorem qwm{n:List UInt8}(h:(jH.find? λ r=>r.1==n)=none):qC n=(0,0,0):=by unfold qC;rw[h];rfl
theorem qoD{n:List UInt8}{r:List UInt8×Int×Int×Int}(h:(jH.find? λ r=>r.1==n)=some r):qC n=r.2:=by unfold qC;rw[h];rfl
def qMm(r:List UInt8×Int×Int×Int):Bool:=
 decide (r.2.2.2≠0)&&decide (0<=r.2.1)&&decide (r.2.2.1<=8)&&(decide (r.2.2.2=2)==(r.1==qgG||r.1==nSk||r.1==qub))&&(decide (r.2.2.2=2)==decide (r.2.2.2=2/\1<=r.2.1))&&(decide (r.2.2.2=3)==(r.1==qLX||r.1==qx4||r.1==qKr||r.1==qG4||r.1==qGN||r.1==qGW))
theorem qNI:jH.all qMm=true:=by decide
theorem qvA{n:List UInt8}(h:(qC n).2.2≠0):qJI jH n=true/\qyh jH n=qC n/\0<=(qC n).1/\(qC n).2.1<=8/\((qC n).2.2=2↔n=qgG\/n=nSk\/n=qub)/\((qC n).2.2=2->1<=(qC n).1)/\((qC n).2.2=3↔isD n=true):=by
 obtain b|⟨r,d,g,b⟩:=qu4 n
 .rw[qwm b]at h;exact absurd rfl h
 .have c:=wo.1 qNI r d;subst g;rw[qoD b];unfold qMm at c;simp only[wb,beq_iff_eq,decide_eq_true_eq]at c;let⟨⟨⟨⟨⟨l,k⟩,j⟩,a⟩,f⟩,i⟩:=c;refine⟨vM.2 ⟨r,d,by simp⟩,qoD b,k,j,?_,?_,?_⟩
  .constructor
   .intro h;rw[decide_eq_true h]at a;have:=a.symm;simp only[wS,beq_iff_eq]at this;exact or_assoc.1 this
   .intro h;by_cases e:r.2.2.2=2
    .exact e
    .rw[decide_eq_false e]at a;have:=a.symm;simp only[xr,beq_eq_false_iff_ne]at this;obtain h|h|h:=h
     .exact absurd h this.1.1
     .exact absurd h this.1.2
     .exact absurd h this.2
  .intro h;rw[decide_eq_true h]at f;have:=of_decide_eq_true f.symm;exact this.2
  .unfold isD;rw[<-i];simp
theorem qLk(t:T)(n:t.kind=3):qvI t=qco t:=by
 unfold qvI qco;rw[if_neg (show ¬ (t.kind≠3)from λ h=>h n)];by_cases b:(qC t.name).2.2=0
 .rw[if_pos b,if_pos b]
 .rw[if_neg b,if_neg b];let⟨j,i,r,q,g,p,o⟩:=qvA b
  have e1:qmT jH t.name t.kids.length=(decide ((qC t.name).1<=(t.kids.length:Int))&&decide ((t.kids.length:Int)<=(qC t.name).2.1)):=by
   unfold qmT;rw[j,i,ke]
  rw[e1];by_cases e:(t.kids.length:Int)<(qC t.name).1\/(qC t.name).2.1<(t.kids.length:Int)
  .rw[if_pos e,if_pos];rw[vc,decide_eq_false_iff_not,decide_eq_false_iff_not];omega
  .rw[if_neg e,if_neg]
   .have f:(qC t.name).2.2=2/\qkf t=false↔qav t=true:=by
      rw[g];unfold qkf qav;by_cases a:t.name=qgG
      .rw[if_pos a,if_pos a];simp[a]
      .rw[if_neg a,if_neg a];by_cases c:t.name=nSk\/t.name=qub
       .rw[if_pos c]
        have:agB t.kids = !(t.kids.any λ k=>decide (k.kind=3)||decide (k.sort≠1)):=by
         unfold agB;generalize t.kids=l
         induction l with
         |nil=>rfl
         |cons x l m=>simp only[km,waa,m,Bool.not_or];congr 1;congr 1;by_cases h:x.sort=1<;>simp[bne,h]
        rw[this];simp[c]
       .rw[if_neg c];constructor
        .rintro⟨h,_⟩;obtain h|h:=h
         .exact absurd h a
         .exact absurd h c
        .intro h;cases h
    by_cases d:qav t=true
    .rw[if_pos d,if_pos (f.2 d)]
    .rw[if_neg d,if_neg (λ h=>d (f.1 h))]
   .rw[vc,decide_eq_false_iff_not,decide_eq_false_iff_not];omega
theorem qay{t:T}(e:t.kind=3)(h:zl t=0):qco t=0/\(∀k∈t.kids,zl k=0):=by
 rw[qnL,if_neg (show ¬ (t.kind≠3)from λ h=>h e)]at h;by_cases c:qco t=0
 .refine⟨c,?_⟩;rw[c]at h;generalize t.kids=l at*
  induction l with
  |nil=>intro k a;cases a
  |cons x l d=>
    rw[wv,QK]at h;by_cases b:zl x=0
    .rw[b]at h;intro k a;obtain rfl|a:=ww.1 a
     .exact b
     .exact d h k a
    .rw[qT _ b]at h;exact absurd h b
 .rw[qT _ c]at h;exact absurd h c
end Go.GxZ
namespace Go.AmZ
open Go Go.GxZ Go.Lib
theorem qjy(t:T)(n:List UInt8):Ev (λ m _=>jl m t n) (isN t n):=by
 refine waI ?_;simp only[qD7,qlf];unfold isN;refine waB (λ h=>?_) λ h=>?_
 .rw[ql]at h;exact waE (by rw[h];rfl)
 .rw[qi]at h;exact waE (by rw[show(t.kind==3)=false from beq_eq_false_iff_ne.2 h];rfl)
theorem qkr(t:T)(n:List UInt8):Ev (λ m _=>qbN m t n) (isN t n):=by
 refine waI ?_;simp only[qGH,qm5];unfold isN;refine waB (λ h=>?_) λ h=>?_
 .rw[ql]at h;exact waE (by rw[h];rfl)
 .rw[qi]at h;exact waE (by rw[show(t.kind==3)=false from beq_eq_false_iff_ne.2 h];rfl)
theorem qN6(n:List UInt8)(l:List T):Ev (λ m _=>qgC m n l) (apT n l):=waI (waD _)
theorem qe4(n:List UInt8)(l:List T)(a:l.length<=1000000000):Ev (λ m _=>yE m n l) (apT n l):=by
 refine waI ?_;simp only[qDP,qlb];refine waF (zj (by simp;omega) (by omega)) ?_;refine Ev.case (λ h=>?_) λ x t h=>?_
 .subst h;exact waD _
 .subst h;exact waD _
def qK3(n:List UInt8):List UInt8×Int×Int×Int:=(jH.find? λ r=>r.1==n).getD ([],0,0,0)
theorem qtX(n:List UInt8):(qK3 n).2=qC n:=by
 unfold qK3 qC;cases jH.find? λ r=>r.1==n<;>rfl
theorem qzn(n:List UInt8):Ev (λ m _=>qbn m n) (qK3 n):=by
 refine waI ?_;simp only[qvP,qcZ];refine waA (a:=jH) (waD _) ?_
 have b:=qw (P:=λ i=>Ev (λ m k=>QV m k n jH jH.length i [] 0 0 0) (((jH.drop i).find? λ r=>r.1==n).getD ([],0,0,0))) jH (by decide)
  (λ c=>by
   refine waH ?_;simp only[qk2,qcP];refine waG c ?_;exact waD _)
  (λ i x j f c e d g=>by
   refine waH ?_;simp only[qk2,qcP];refine waF c (waC e ?_);rw[f,List.find?_cons,d];refine waB (λ h=>?_) λ h=>?_
   .exact waE (by rw[show(x.1==n)=true from h];rfl)
   .rw[show(x.1==n)=false from h];exact g)
 refine waJ (L:=λ m k=>QV m k n jH jH.length 0 [] 0 0 0) ?_;exact b 0 (we _)
theorem qos{t:T}(c:t.kind=3)(h:qco t=0):(qC t.name).2.2≠0/\(qC t.name).1<=(t.kids.length:Int)/\(t.kids.length:Int)<=(qC t.name).2.1/\qav t=false:=by
 unfold qco at h;rw[if_neg (show ¬ t.kind≠3 from λ a=>a c)]at h;split at h
 .omega
 rename_i d;split at h
 .omega
 rename_i e;split at h
 .omega
 rename_i b;exact⟨d,by omega,by omega,by simpa using b⟩
theorem qx6{t:T}{i:Nat}(h:i<t.kids.length):qf t.kids (i:Int)=some (kid t i):=by
 rw[Qe];unfold kid;rw[List.getD_eq_getElem?_getD,List.getElem?_eq_getElem h];rfl
theorem qdw{t:T}(h:0<t.kids.length):qf t.kids 0=some (kid t 0):=qx6 (i:=0) h
theorem qrU{t:T}(h:1<t.kids.length):qf t.kids 1=some (kid t 1):=qx6 (i:=1) h
theorem qFO{t:T}{i:Nat}(h:i<t.kids.length):kid t i∈t.kids:=by
 unfold kid;rw[List.getD_eq_getElem?_getD,List.getElem?_eq_getElem h];exact wV h
theorem yM{t:T}{n:List UInt8}:isN t n=true↔t.kind=3/\t.name=n:=by
 unfold isN;rw[wb,beq_iff_eq,beq_iff_eq]
theorem qJl(t:T):size t<=1000000000->Ev (λ m _=>qE m t) (zl t):=by
 induction t using T.ind with
 |h t E=>
   intro F;refine waI ?_;simp only[qyq,qdM];have G:=yJ t;rw[qnL];refine waB (λ h=>?_) λ z=>?_
   .rw[bnt,qi]at h;exact waE (by rw[if_pos h])
   rw[bnf,ql]at z;rw[if_neg (show ¬ t.kind≠3 from λ c=>c z)]
   have C:=qw (P:=λ i=>Ev (λ m k=>(qW m (qE m) k).2 t.kids t.kids.length i) (((t.kids.drop i).map zl).foldl thn 0)) t.kids (by omega)
    (λ f=>by
     refine waH ?_;simp only[qmI,qdH];refine waG f ?_;exact waE (by simp))
    (λ i x A w f v u y=>by
     refine waH ?_;simp only[qmI,qdH,qk];have B:=wc A;have l:=jD t x B;refine waF f (waC v (waA (E x B (by omega)) ?_));rw[w,wv,QK,u];refine waB (λ h=>?_) λ h=>?_
     .rw[bnt,qi]at h;exact waE (by rw[qT _ h])
     .rw[bnf,ql]at h;rw[h];exact y)
   have n:Ev (λ m k=>(qW m (qE m) k).2 t.kids t.kids.length 0) ((t.kids.map zl).foldl thn 0):=(C 0 (we _)).res (by rw[wP])
   have D:=qw (P:=λ i=>Ev (λ m k=>(qW m (qE m) k).1 t.kids t.kids.length i t.kind t.name t.sort t.kids) (if(t.kids.drop i).any (λ k=>decide (k.kind=3)||decide (k.sort≠1))=true then 10 else(t.kids.map zl).foldl thn 0)) t.kids (by omega)
    (λ f=>by
     refine waH ?_;simp only[qmw,qdO];refine waG f ?_;refine n.res ?_;rw[wX];rfl)
    (λ i x A w f v u y=>by
     refine waH ?_;simp only[qmw,qdO,qk];refine waF f (waC v ?_);rw[w,waa,u];refine waB (λ h=>?_) λ h=>?_
     .rw[ql]at h;exact waE (by rw[decide_eq_true h];rfl)
     rw[qi]at h;rw[decide_eq_false h];refine waB (λ q=>?_) λ q=>?_
     .rw[bnt,qi]at q;exact waE (by rw[decide_eq_true q];rfl)
     .rw[bnf,ql]at q;rw[decide_eq_false (λ c=>c q)];exact y)
   have d:qco t=0->Ev (λ m _=>(qW m (qE m) m).2 t.kids t.kids.length 0) ((t.kids.map zl).foldl thn (qco t)):=λ h=>by
    rw[h];exact waJ (L:=λ m k=>(qW m (qE m) k).2 t.kids t.kids.length 0) n
   have e:qav t=t.kids.any (λ k=>decide (k.kind=3)||decide (k.sort≠1))->qco t=(if qav t=true then 10 else 0)->Ev (λ m _=>(qW m (qE m) m).1 t.kids t.kids.length 0 t.kind t.name t.sort t.kids) ((t.kids.map zl).foldl thn (qco t)):=λ r h=>by
    refine(waJ (L:=λ m k=>(qW m (qE m) k).1 t.kids t.kids.length 0 t.kind t.name t.sort t.kids) (D 0 (we _))).res ?_;rw[wP,<-r,h];split
    .rw[qT _ (by decide)]
    .rfl
   refine waA (qzn t.name) ?_;rw[qtX]
   have a:qco t=if(qC t.name).2.2=0 then 10 else if(t.kids.length:Int)<(qC t.name).1\/(qC t.name).2.1<(t.kids.length:Int)then 6 else if qav t=true then 10 else 0:=by
    unfold qco;rw[if_neg (show ¬ t.kind≠3 from λ c=>c z)]
   refine waB (λ h=>?_) λ h=>?_
   .rw[ql]at h;rw[if_pos h]at a;exact waE (by rw[a,qT _ (by decide)])
   rw[qi]at h;rw[if_neg h]at a;refine waB (λ l=>?_) λ l=>?_
   .rw[qz]at l;rw[if_pos (.inl l)]at a;exact waE (by rw[a,qT _ (by decide)])
   rw[qB]at l;refine waB (λ s=>?_) λ s=>?_
   .rw[qz]at s;rw[if_pos (.inr s)]at a;exact waE (by rw[a,qT _ (by decide)])
   rw[qB]at s;rw[if_neg (by omega)]at a;refine waB (λ p=>?_) λ p=>?_
   .rw[yT]at p;refine e ?_ a;unfold qav;rw[p,if_neg (by decide),if_pos (.inl rfl)]
   rw[j8]at p;refine waB (λ b=>?_) λ b=>?_
   .rw[yT]at b;refine e ?_ a;unfold qav;rw[b,if_neg (by decide),if_pos (.inr rfl)]
   rw[j8]at b;refine waB (λ j=>?_) λ j=>?_
   .rw[yT]at j
    have o:0<t.kids.length:=by
     rw[j,show(qC [110,101,119]).1=1 from by decide]at l;omega
    refine waC (qdw o) ?_
    have r:qav t=decide ((kid t 0).kind≠2):=by
     unfold qav;rw[if_pos (show t.name=qgG from j)]
    refine waB (λ c=>?_) λ c=>?_
    .rw[bnt,qi]at c;rw[r,decide_eq_true c,if_pos rfl]at a;exact waE (by rw[a,qT _ (by decide)])
    .rw[bnf,ql]at c;rw[r,decide_eq_false (λ g=>g c)]at a;exact d a
   .rw[j8]at j;refine d ?_
    have:qav t=false:=by
     unfold qav;rw[if_neg (show ¬ t.name=qgG from j),if_neg (λ h=>h.elim p b)]
    rw[this]at a;exact a
theorem qEI(t:T)(a:size t<=1000000000):Ev (λ m _=>qaT m t) (qdu t):=by
 refine waI ?_;simp only[qyj,qgv,qk];unfold qdu;refine waA (qet t a) ?_;refine waB (λ h=>?_) λ h=>?_
 .rw[bnt,qi]at h;exact waE (by rw[QH h])
 .rw[bnf,ql]at h;rw[h];exact waA (qJl t a) (waD _)
theorem qyr(n:List UInt8):Ev (λ m _=>qeW m n) (qC n).2.2:=by
 refine waI ?_;simp only[qDu,qfL];refine waA (a:=jH) (waI (waD _)) ?_
 have b:=qw (P:=λ i=>Ev (λ m k=>qaP m k n jH i) (((jH.drop i).find? λ r=>r.1==n).getD ([],0,0,0)).2.2.2) jH (by decide)
  (λ c=>by
   refine waH ?_;simp only[qpN,qfM];refine waG c ?_;exact waD _)
  (λ i x j f c d e g=>by
   refine waH ?_;simp only[qpN,qfM];refine waF c (waC d ?_);rw[f,List.find?_cons,e];refine waB (λ h=>?_) λ h=>?_
   .refine waC d (waE ?_);rw[show(x.1==n)=true from h];rfl
   .rw[show(x.1==n)=false from h];exact g)
 refine waJ (L:=λ m k=>qaP m k n jH 0) ?_;exact(b 0 (we _)).res (by rw[<-qtX];rfl)
theorem qMC(t:T):Ev (λ m _=>qj6 m t) (qmT jH t.name t.kids.length):=by
 refine waI ?_;simp only[qCr,qfK];refine waA (a:=jH) (waI (waD _)) ?_
 have c:=qw (P:=λ i=>Ev (λ m k=>qaS m k jH i t.kind t.name t.sort t.kids) (qmT (jH.drop i) t.name t.kids.length)) jH (by decide)
  (λ e=>by
   refine waH ?_;simp only[qpL,qfP];refine waG e ?_;exact waD _)
  (λ i x l g e d f j=>by
   refine waH ?_;simp only[qpL,qfP];refine waF e (waC d ?_);rw[g,qI1,f];refine waB (λ h=>?_) λ h=>?_
   .rw[if_pos (show(x.1==t.name)=true from h)];refine waC d ?_;refine waB (λ b=>?_) λ b=>?_
    .rw[qjM]at b;refine waC d (waE ?_);rw[decide_eq_true b];rfl
    .rw[qlM]at b;exact waE (by rw[decide_eq_false (by omega)];rfl)
   .rw[if_neg (by rw[show(x.1==t.name)=false from h];decide)];exact j)
 refine waJ (L:=λ m k=>qaS m k jH 0 t.kind t.name t.sort t.kids) ?_;exact c 0 (we _)
theorem qIl(t:T)(f:t.kids.length<2^62)(a:t.name=qgG->0<t.kids.length):Ev (λ m _=>qgE m t) (qkf t):=by
 refine waI ?_;simp only[qw3,qdD];unfold qkf;refine waB (λ h=>?_) λ h=>?_
 .rw[yT]at h;rw[if_pos (show t.name=qgG from h)];refine waC (qdw (a h)) (waD _)
 rw[j8]at h;rw[if_neg (show ¬ t.name=qgG from h)]
 have c:=qw (P:=λ i=>Ev (λ m k=>Jy m k i t.kind t.name t.sort t.kids) (agB (t.kids.drop i))) t.kids f
  (λ d=>by
   refine waH ?_;simp only[qmz,qdz];refine waG d ?_;exact waE (by rw[wX];rfl))
  (λ i x n j d e g l=>by
   refine waH ?_;simp only[qmz,qdz];refine waF d (waC e ?_);rw[j,qKR,g];refine waB (λ h=>?_) λ h=>?_
   .exact waE (by rw[show(x.kind==3)=true from h];rfl)
   rw[show(x.kind==3)=false from h];refine waC e ?_;refine waB (λ b=>?_) λ b=>?_
   .rw[bnt,qi]at b;exact waE (by rw[show(x.sort != 1)=true from bne_iff_ne.2 b];rfl)
   .rw[bnf,ql]at b;rw[show(x.sort != 1)=false by rw[b];rfl];exact l)
 refine waJ (L:=λ m k=>Jy m k 0 t.kind t.name t.sort t.kids) ?_;exact(c 0 (we _)).res (by rw[wP])
theorem qIb(t:T):size t<=1000000000->Ev (λ m _=>jh m t) (zl t):=by
 induction t using T.ind with
 |h t o=>
   intro C;refine waI ?_;simp only[qz2,qeI,qk];have E:=yJ t;rw[qnL];refine waB (λ h=>?_) λ f=>?_
   .rw[bnt,qi]at h;exact waE (by rw[if_pos h])
   rw[bnf,ql]at f;rw[if_neg (show ¬ t.kind≠3 from λ r=>r f),<-qLk t f]
   have c:=qw (P:=λ i=>Ev (λ m k=>Jg m (jh m) k i t.kind t.name t.sort t.kids) (((t.kids.drop i).map zl).foldl thn 0)) t.kids (by omega)
    (λ e=>by
     refine waH ?_;simp only[qnW,qex];refine waG e ?_;exact waE (by simp))
    (λ i x p u e s q w=>by
     refine waH ?_;simp only[qnW,qex,qk];have g:=wc p;have G:=jD t x g;refine waF e (waC s (waA (o x g (by omega)) ?_));rw[u,wv,QK,q];refine waB (λ h=>?_) λ h=>?_
     .rw[bnt,qi]at h;exact waE (by rw[qT _ h])
     .rw[bnf,ql]at h;rw[h];exact w)
   have a:qvI t=0->Ev (λ m _=>Jg m (jh m) m 0 t.kind t.name t.sort t.kids) ((t.kids.map zl).foldl thn (qvI t)):=λ h=>by
    rw[h];exact(waJ (L:=λ m k=>Jg m (jh m) k 0 t.kind t.name t.sort t.kids) (c 0 (we _))).res (by rw[wP])
   unfold qvI at a |-
   refine waA (qyr t.name) ?_;refine waB (λ h=>?_) λ h=>?_
   .rw[ql]at h;rw[if_pos h];exact waE (by rw[qT _ (by decide)])
   rw[qi]at h;rw[if_neg h]at a |-
   refine waA (qMC t) ?_;cases d:qmT jH t.name t.kids.length with
   |false=>
     refine waF rfl ?_;rw[if_pos rfl];exact waE (by rw[qT _ (by decide)])
   |true=>
     rw[d,if_neg (by decide)]at a;rw[if_neg (by decide)];refine waG rfl ?_;refine waB (λ b=>?_) λ b=>?_
     .rw[ql]at b;refine waA (qIl t (by omega) λ D=>?_) ?_
      .let⟨n,l,B,A,z,j,y⟩:=qvA h;have F:=j b;unfold qmT at d;rw[n,l,ke,wb,decide_eq_true_iff]at d;omega
      cases v:qkf t with
      |false=>
        refine waF rfl ?_;rw[if_pos ⟨b,rfl⟩];exact waE (by rw[qT _ (by decide)])
      |true=>
        rw[v,if_neg (by rintro⟨_,h⟩;cases h)]at a;rw[if_neg (by rintro⟨_,h⟩;cases h)];exact waG rfl (a rfl)
     .rw[qi]at b;rw[if_neg (by rintro⟨h,_⟩;exact b h)]at a |-
      exact a rfl
theorem qFq(t:T)(a:size t<=1000000000):Ev (λ m _=>qfv m t) (qdu t):=by
 refine waI ?_;simp only[qz8,qh9,qk];unfold qdu;refine waA (qcF t a) ?_;refine waB (λ h=>?_) λ h=>?_
 .rw[bnt,qi]at h;exact waE (by rw[QH h])
 .rw[bnf,ql]at h;rw[h];exact waA (qIb t a) (waD _)
end Go.AmZ
namespace Go.GxZ
def Asc(l:List T):Prop:=l.Pairwise λ a b=>qs a b=-1
theorem yv{a:T}:qs a a≠-1:=by rw[qqf];decide
theorem qxK{a b:T}:qs a b=1↔qs b a=-1:=by
 have:=yd.anti a b;omega
theorem qeK{a b c:T}(e:qs a b=-1)(d:qs b c=-1):qs a c=-1:=yd.trans a b c e d
theorem qaJ{x:T}{l:List T}:Asc (x::l)↔(∀y∈l,qs x y=-1)/\Asc l:=List.pairwise_cons
theorem qEK:∀(l m:List T),Asc l->Asc m->(∀x,x∈l↔x∈m)->l=m
 |[],[],_,_,_=>rfl
 |[],y::m,_,_,h=>absurd ((h y).2 (wi ..)) (by simp)
 |x::l,[],_,_,h=>absurd ((h x).1 (wi ..)) (by simp)
 |x::l,y::m,n,k,h=>by
   let⟨c,i⟩:=qaJ.1 n;let⟨b,g⟩:=qaJ.1 k;have f:=(h x).1 (wi ..);have d:=(h y).2 (wi ..)
   have e:x=y:=by
    obtain e|f:=ww.1 f
    .exact e
    obtain e|d:=ww.1 d
    .exact e.symm
    exact absurd (qeK (c y d) (b x f)) yv
   subst e;rw[qEK l m i g λ z=>?_];constructor
   .intro a;obtain e|j:=ww.1 ((h z).1 (wg _ a))
    .subst e;exact absurd (c z a) yv
    .exact j
   .intro a;obtain e|j:=ww.1 ((h z).2 (wg _ a))
    .subst e;exact absurd (b z a) yv
    .exact j
theorem qwb(n:Nat):∀(a b:List T),a.length+b.length<=n->Asc a->Asc b->Asc (zq a b)/\(∀x,x∈zq a b↔¬(x∈a↔x∈b)):=by
 induction n with
 |zero=>
   intro a b h _ _;obtain rfl:a=[]:=ky.1 (by omega);obtain rfl:b=[]:=ky.1 (by omega);rw[zq];exact⟨List.Pairwise.nil,by simp⟩
 |succ n p=>
   intro a b h u t
   match a,b with
   |[],b=>rw[zq];exact⟨t,by simp⟩
   |x::a,[]=>rw[zq];exact⟨u,by simp[Classical.or_iff_not_imp_left]⟩
   |x::a,y::b=>
     rw[zq];let⟨g,o⟩:=qaJ.1 u;let⟨f,m⟩:=qaJ.1 t;simp only[wx]at h;by_cases k:qs x y=-1
     .rw[if_pos k];let⟨l,i⟩:=p a (y::b) (by simp;omega) o t
      have s:x ∉ y::b:=by
       intro h;obtain e|h:=ww.1 h
       .subst e;exact yv k
       .exact yv (qeK k (f x h))
      have B:x ∉ a:=λ h=>yv (g x h);refine⟨qaJ.2 ⟨λ z q=>?_,l⟩,λ z=>?_⟩
      .have:=(i z).1 q;by_cases d:z∈a
       .exact g z d
       .have c:z∈y::b:=by
          by_cases c:z∈y::b
          .exact c
          .exact absurd ⟨λ h=>absurd h d,λ h=>absurd h c⟩ this
        obtain e|w:=ww.1 c
        .rw[e];exact k
        .exact qeK k (f z w)
      .rw[ww,i,ww (a:=z) (b:=x)];by_cases e:z=x
       .subst e;simp[s]
       .simp[e]
     .rw[if_neg k];by_cases v:qs x y=1
      .rw[if_pos v];have j:=qxK.1 v;let⟨l,i⟩:=p (x::a) b (by simp;omega) u m
       have r:y ∉ x::a:=by
        intro h;obtain e|h:=ww.1 h
        .subst e;exact yv j
        .exact yv (qeK j (g y h))
       have A:y ∉ b:=λ h=>yv (f y h);refine⟨qaJ.2 ⟨λ z q=>?_,l⟩,λ z=>?_⟩
       .have:=(i z).1 q;by_cases c:z∈b
        .exact f z c
        .have d:z∈x::a:=by
           by_cases d:z∈x::a
           .exact d
           .exact absurd ⟨λ h=>absurd h d,λ h=>absurd h c⟩ this
         obtain e|w:=ww.1 d
         .rw[e];exact j
         .exact qeK j (g z w)
       .rw[ww,i,ww (a:=z) (b:=y)];by_cases e:z=y
        .subst e;simp[r]
        .simp[e]
      .rw[if_neg v];have j:qs x y=0:=by have:=yd.rng x y;omega
       have e:=qaz x y j;subst e;let⟨l,i⟩:=p a b (by omega) o m;refine⟨l,λ z=>?_⟩;rw[i,ww,ww];by_cases e:z=x
       .subst e;have:z ∉ a:=λ h=>yv (g z h);have:z ∉ b:=λ h=>yv (f z h);simp[*]
       .simp[e]
theorem qy8{a b:List T}(d:Asc a)(c:Asc b):Asc (zq a b):=(qwb _ a b (wa _) d c).1
theorem qIC{a b:List T}(d:Asc a)(c:Asc b)(x:T):x∈zq a b↔¬(x∈a↔x∈b):=(qwb _ a b (wa _) d c).2 x
theorem qhb:∀(b:List (List T)) (a:List T),Asc a->(∀l∈b,Asc l)->Asc (b.foldl zq a)
 |[],_,h,_=>h
 |l::b,a,h,k=>qhb b _ (qy8 h (k l (wi ..))) λ m c=>k m (wg _ c)
theorem qmy(t:T):Asc (jU t):=by
 refine T.ind (P:=λ t=>Asc (jU t)) ?_ t;intro t a;rw[qkC];split
 .exact List.Pairwise.nil
 .split
  .exact qhb _ _ List.Pairwise.nil λ l b=>by
    obtain⟨k,c,rfl⟩:=wA.1 b;exact a k c
  .exact vF _ _
def Ju(t:T)(s:List T×Bool)(x:T):List T×Bool:=
 if s.2=false/\qs t x<=0 then(s.1++(if qs t x<0 then[t]else[])++[x],true)else(s.1++[x],s.2)
def qxc(l:List T)(t:T):List T:=if(l.foldl (Ju t) ([],false)).2 then(l.foldl (Ju t) ([],false)).1 else(l.foldl (Ju t) ([],false)).1++[t]
def qia(l:List T)(t:T):List T:=if l.any (λ x=>yj x t)then l.filter (λ x => !yj x t)else qxc l t
def qjW(a b:List T):List T:=b.foldl qia a
theorem qy4(t:T):∀(l a:List T),l.foldl (Ju t) (a,true)=(a++l,true)
 |[],a=>by simp
 |x::l,a=>by
   have e:Ju t (a,true) x=(a++[x],true):=by simp[Ju]
   rw[kh,e,qy4 t l];simp
def QY:List T->T->List T
 |[],t=>[t]
 |x::l,t=>if qs t x<0 then t::x::l else if qs t x=0 then x::l else x::QY l t
theorem qv9(t:T):∀(l a:List T),(if(l.foldl (Ju t) (a,false)).2 then(l.foldl (Ju t) (a,false)).1 else(l.foldl (Ju t) (a,false)).1++[t])=a++QY l t
 |[],a=>by simp[QY]
 |x::l,a=>by
   rw[kh];by_cases h:qs t x<=0
   .have e:Ju t (a,false) x=(a++(if qs t x<0 then[t]else[])++[x],true):=by simp[Ju,h]
    rw[e,qy4,QY];by_cases b:qs t x<0
    .simp[b]
    .have:qs t x=0:=by omega
     simp[this]
   .have e:Ju t (a,false) x=(a++[x],false):=by simp[Ju,h]
    rw[e,qv9 t l,QY,if_neg (by omega),if_neg (by omega)];simp
theorem qtL(l:List T)(t:T):qxc l t=QY l t:=by
 have:=qv9 t l [];simpa[qxc]using this
theorem qtY(t:T):∀(l:List T) (x:T),x∈QY l t↔x∈l\/x=t
 |[],x=>by simp[QY]
 |y::l,x=>by
   rw[QY];split
   .simp only[ww];constructor
    .rintro(h|h|h)<;>simp[h]
    .rintro((h|h)|h)<;>simp[h]
   .split
    .rename_i h;have:=qaz t y h;subst this;simp only[ww];constructor
     .rintro(h|h)<;>simp[h]
     .rintro((h|h)|h)<;>simp[h]
    .rw[ww,qtY t l x,ww];constructor
     .rintro(h|h|h)<;>simp[h]
     .rintro((h|h)|h)<;>simp[h]
theorem qBh(t:T):∀(l:List T),Asc l->Asc (QY l t)
 |[],_=>vF _ _
 |y::l,h=>by
   let⟨c,d⟩:=qaJ.1 h;rw[QY];have f:=yd.rng t y;split
   .have b:qs t y=-1:=by omega
    refine qaJ.2 ⟨λ z a=>?_,h⟩;obtain e|a:=ww.1 a
    .rw[e];exact b
    .exact qeK b (c z a)
   .split
    .exact h
    .refine qaJ.2 ⟨λ z a=>?_,qBh t l d⟩;obtain a|e:=(qtY t l z).1 a
     .exact c z a
     .rw[e];exact qxK.1 (by omega)
theorem Ql{a b:T}:yj a b=true↔a=b:=by unfold yj;exact decide_eq_true_iff
theorem qIe{l:List T}(h:Asc l)(t:T):Asc (qia l t)/\∀x,x∈qia l t↔¬(x∈l↔x=t):=by
 unfold qia;by_cases a:t∈l
 .have f:(l.any λ x=>yj x t)=true:=vM.2 ⟨t,a,Ql.2 rfl⟩;rw[if_pos f];refine⟨List.Pairwise.filter _ h,λ x=>?_⟩;rw[kN];by_cases e:x=t
  .subst e;simp[a,Ql.2 rfl]
  .have:yj x t=false:=by
     cases b:yj x t
     .rfl
     .exact absurd (Ql.1 b) e
   simp[e,this]
 .rw[if_neg (λ b=>by
    let⟨x,c,d⟩:=vM.1 b;exact a (by rw[<-Ql.1 d];exact c)),qtL]
  refine⟨qBh t l h,λ x=>?_⟩;rw[qtY];by_cases e:x=t
  .subst e;simp[a]
  .simp[e]
theorem qn2:∀(b a:List T),Asc a->Asc b->Asc (qjW a b)/\∀x,x∈qjW a b↔¬(x∈a↔x∈b)
 |[],a,g,_=>⟨g,λ x=>by simp[qjW]⟩
 |y::b,a,g,n=>by
   let⟨f,d⟩:=qaJ.1 n;let⟨l,k⟩:=qIe g y;let⟨j,i⟩:=qn2 b (qia a y) l d;refine⟨j,λ x=>?_⟩;rw[show qjW a (y::b)=qjW (qia a y) b from rfl,i,k,ww];by_cases e:x=y
   .subst e;have:x ∉ b:=λ h=>yv (f x h);by_cases c:x∈a<;>simp[this,c]
   .by_cases c:x∈a<;>by_cases m:x∈b<;>simp[e,c,m]
theorem qC7{a b:List T}(d:Asc a)(c:Asc b):qjW a b=zq a b:=
 qEK _ _ (qn2 b a d c).1 (qy8 d c) λ x=>by rw[(qn2 b a d c).2,qIC d c]
end Go.GxZ
namespace Go.AmZ
open Go Go.GxZ Go.Lib
def szL(l:List T):Nat:=(l.map size).sum
theorem qR(x:T)(l:List T):szL (x::l)=size x+szL l:=by simp[szL]
theorem qh1(a b:List T):szL (a++b)=szL a+szL b:=by simp[szL]
theorem jK:∀l:List T,l.length<=szL l
 |[]=>we _
 |x::l=>by
   have:=jK l;have:=size_pos x;rw[qR,wx];omega
theorem qcz{l:List T}{x:T}(h:x∈l):size x<=szL l:=qjB l x h
theorem qoq:∀(n:Nat) (a b:List T),a.length+b.length<=n->szL (zq a b)<=szL a+szL b
 |_,[],b,_|_,x::a,[],_=>by rw[zq];omega
 |0,x::a,y::b,h=>by simp at h
 |n+1,x::a,y::b,h=>by
   simp only[wx]at h;rw[zq];split
   .have:=qoq n a (y::b) (by simp;omega);rw[qR,qR];omega
   .split
    .have:=qoq n (x::a) b (by simp;omega);rw[qR y,qR y];omega
    .have:=qoq n a b (by omega);rw[qR,qR];omega
theorem qsY:∀(b:List (List T)) (a:List T),szL (b.foldl zq a)<=szL a+(b.map szL).sum
 |[],_=>by simp
 |l::b,a=>by
   have d:=qsY b (zq a l);have c:=qoq _ a l (wa _);simp only[kh,wv,kK];omega
theorem qvV(f g:T->Nat):∀l:List T,(∀k∈l,f k<=g k)->(l.map f).sum<=(l.map g).sum
 |[],_=>wa _
 |x::l,h=>by
   have c:=h x (wi ..);have b:=qvV f g l λ k a=>h k (wg _ a);simp only[wv,kK];omega
theorem qAM(l:List T)(h:∀k∈l,szL (jU k)<=size k):szL ((l.map jU).foldl zq [])<=szL l:=by
 refine wD (qsY _ _) ?_;rw[xh];have:=qvV (szL ∘ jU) size l h;show 0+_<=(l.map size).sum;omega
theorem qli(t:T):szL (jU t)<=size t:=by
 refine T.ind (P:=λ t=>szL (jU t)<=size t) ?_ t;intro t a;rw[qkC];split
 .exact we _
 .split
  .have:=qAM t.kids a;have:=zb t;unfold szL at *;omega
  .show szL [t]<=_;rw[qR];exact wa _
theorem qei(l:List T):szL (zY l)<=szL l:=qAM l λ k _=>qli k
theorem qoN(x:T)(l:List T):JZ (x::l) 1 (((x::l).length:Nat):Int)=l:=by
 unfold JZ;rw[kF,wG];rfl
theorem qpl(n:Nat):inb (n:Int) n=true:=by unfold inb;rw[decide_eq_true_iff];omega
theorem qsh(x:T)(l:List T):inb 1 (Int.toNat (((x::l).length:Nat):Int))=true:=by
 unfold inb;rw[decide_eq_true_iff,kF,wx];omega
theorem qCv(x:T)(l:List T):ilt 0 (((x::l).length:Nat):Int)=true:=by rw[qz,wx];omega
theorem qFX:∀(n:Nat) (a b c:List T),a.length+b.length<=n->szL c+szL a+szL b<=1000000000->Ev (λ m k=>qcS m k a b c) (c++zq a b):=by
 intro n
 induction n with
 |zero=>
   intro a b c i g;have:a=[]:=wh (by omega);subst this;have:b=[]:=wh (by omega);subst this;refine waH ?_;simp only[qsU,qin];have:=jK c;exact waG rfl (waF (zj (by simp only[w7];omega) (by omega)) (waF (zj (by simp only[w7,wy];omega) (by omega)) (waE (by rw[zq];simp))))
 |succ n f=>
   intro a b c i g;refine waH ?_;simp only[qsU,qin,qk];have o:=jK c;have l:=jK a;have j:=jK b;cases a with
   |nil=>
     refine waG rfl (waF (zj (by simp only[w7];omega) (by omega)) (waF (zj (by simp only[wy];omega) (by omega)) (waE (by rw[zq];simp))))
   |cons x a=>
     refine waF (qCv x a) ?_;cases b with
     |nil=>
       refine waG rfl (waF (zj (by omega) (by omega)) (waF (zj (by rw[wd];simp only[w7];omega) (by omega)) (waE (by rw[zq];simp))))
     |cons y b=>
       rw[qR,qR]at g;refine waF (qCv y b) (waC (JT _) (waC (JT _) (waA (qdp x (by omega) y (by omega)) ?_)));rw[zq];simp only[wx]at i l j;rw[qR]at l j;refine waB (λ e=>?_) λ e=>?_
       .rw[qz]at e;have e:qs x y=-1:=by obtain h|h|h:=yd.rng x y<;>omega
        rw[if_pos e];refine waC (JT _) (waF (zj (by omega) (by omega)) (waF (qpl _) (waF (qsh x a) ?_)));rw[qoN];refine(f a (y::b) (c++[x]) (by simp only[wx];omega) (by rw[qh1,qR,qR];show szL c+(size x+0)+_+_<=_;omega)).res (by simp)
       .rw[qB]at e;rw[if_neg (by omega)];refine waB (λ d=>?_) λ d=>?_
        .rw[qz]at d;have d:qs x y=1:=by obtain h|h|h:=yd.rng x y<;>omega
         rw[if_pos d];refine waC (JT _) (waF (zj (by omega) (by omega)) (waF (qpl _) (waF (qsh y b) ?_)));rw[qoN];refine(f (x::a) b (c++[y]) (by simp only[wx];omega) (by rw[qh1,qR,qR];show szL c+(size y+0)+_+_<=_;omega)).res (by simp)
        .rw[qB]at d;rw[if_neg (by omega)];refine waF (qpl _) (waF (qsh x a) (waF (qpl _) (waF (qsh y b) ?_)));rw[qoN,qoN];exact f a b c (by omega) (by omega)
theorem qBl(a b:List T)(c:szL a+szL b<=1000000000):Ev (λ m _=>qlp m a b) (zq a b):=by
 refine waI ?_;simp only[qGf,qik];refine waJ (L:=λ m k=>qcS m k a b []) ?_;exact qFX _ a b [] (wa _) (by show 0+_+_<=_;omega)
theorem qDW(l:List T)(i:Nat):szL (l.take i)<=szL l:=by
 have:=congrArg szL (kz i l);rw[qh1]at this;omega
theorem Qx{l:List T}{i:Nat}{x:T}(h:l[i]?=some x):szL (l.take i)+size x<=szL l:=by
 have b:l.take (i+1)=l.take i++[x]:=by rw[kE,h];rfl
 have a:=qDW l (i+1);rw[b,qh1,qR]at a;have:szL ([]:List T)=0:=rfl;omega
theorem qjP{l:List T}{i:Nat}{x:T}(h:l[i]?=some x):((l.take (i+1)).map jU).foldl zq []=zq (((l.take i).map jU).foldl zq []) (jU x):=by
 rw[kE,h,wU,xG];rfl
theorem qL2(t:T):size t<=1000000000->Ev (λ m _=>yB m t) (jU t):=by
 induction t using T.ind with
 |h t s=>
   intro B;have C:=yJ t;have A:=zb t;refine waI ?_;simp only[qwY,qdN,qk]
   have o:=qw (P:=λ i=>Ev (λ m k=>QM m (yB m) k (((t.kids.take i).map jU).foldl zq []) t.kids t.kids.length i) ((t.kids.map jU).foldl zq [])) t.kids (by omega)
    (λ q=>by
     refine waH ?_;simp only[qmE,qdB];refine waG q ?_;rw[wG];exact waD _)
    (λ i x c D q w u y=>by
     refine waH ?_;simp only[qmE,qdB,qk];have r:=wc c;have F:=jD t x r;have z:=qei (t.kids.take i);have g:=Qx c;have E:=qli x;refine waF q (waC w (waA (s x r (by omega)) (waA (qBl _ _ ?_) ?_)))
     .unfold zY at z;unfold szL at *;omega
     .rw[u];refine y.congr λ m k=>?_;rw[qjP c])
   have j:Ev (λ m _=>QM m (yB m) m [] t.kids t.kids.length 0) ((t.kids.map jU).foldl zq []):=
    waJ (L:=λ m k=>QM m (yB m) k [] t.kids t.kids.length 0) (o 0 (we _))
   rw[qkC];by_cases g:t.kind=3
   .have f:ieq t.kind 3=true:=ql.2 g;refine waF f ?_;refine waB (λ e=>?_) λ e=>?_
    .rw[yT]at e;have a:isN t qca=true:=yM.2 ⟨g,e⟩
     have d:isN t qep=false:=by
      rw[<-kD,yM];rintro⟨_,h⟩;rw[e]at h;exact absurd h (by decide)
     refine waB (λ b=>?_) λ b=>?_
     .rw[ql]at b;have b:t.kids=[]:=wh (by omega);rw[a,b];exact waD _
     .rw[qi]at b
      have b:t.kids.isEmpty=false:=by
       cases v:t.kids with
       |nil=>rw[v]at b;exact absurd rfl b
       |cons _ _=>rfl
      rw[a,b,d];exact waF f (waG (by rw[e];rfl) (waD _))
    .have p:=j8.1 e
     have a:isN t qca=false:=by
      rw[<-kD,yM];rintro⟨_,h⟩;exact p h
     rw[a];refine waF f (waB (λ c=>?_) λ c=>?_)
     .rw[show isN t qep=true from yM.2 ⟨g,yT.1 c⟩];exact j
     .have d:isN t qep=false:=by
        rw[<-kD,yM];rintro⟨_,h⟩;exact j8.1 c h
      rw[d];exact waD _
   .have f:ieq t.kind 3=false:=qi.2 g
    have l:∀n,isN t n=false:=λ n=>by
     rw[<-kD,yM];rintro⟨h,_⟩;exact g h
    rw[l,l];exact waG f (waG f (waD _))
end Go.AmZ
namespace Go.AmZ
open Go Go.GxZ
theorem qIP(b:List (List T))(d:b.length<1000)(h:(b.map List.length).sum<=100000000):Ev (λ m _=>zR m b) b.flatten:=by
 have g:∀l:List (List T),l.flatten.length=(l.map List.length).sum:=λ l=>List.length_flatten
 have s:=qw (P:=λ i=>Ev (λ m k=>(qn m k).2 b b.length i (b.take i).flatten) b.flatten) b (by omega)
  (λ c=>by
   refine waH ?_;simp only[qai,yY];refine waG c ?_;rw[wG];exact waD _)
  (λ i x o r c f e j=>by
   refine waH ?_;simp only[qai,yY];have p:b.take (i+1)=b.take i++[x]:=by rw[kE,o];rfl
   have q:((b.take (i+1)).map List.length).sum<=(b.map List.length).sum:=by
    have:=congrArg (λ l=>(l.map List.length).sum) (kz (i+1) b);simp only[wU,List.sum_append]at this;omega
   rw[p]at q;simp only[wU,List.sum_append,wv,vx,kK,List.sum_nil]at q;refine waF c (waC f (waF (zj ?_ (by omega)) ?_))
   .rw[g];omega
   .rw[e];refine j.congr λ m k=>?_;rw[p,xt];simp)
 have t:=qw (P:=λ i=>∀n:Nat,n+((b.drop i).map List.length).sum<=100000000->Ev (λ m k=>(qn m k).1 b n b b.length i) b.flatten) b (by omega)
  (λ c n d=>by
   refine waH ?_;simp only[qae,yV];refine waG c (waC (a:=((),[],())) ?_ (s 0 (we _)));unfold yO;rw[show inb (n:Int) 100000000=true from by unfold inb;rw[decide_eq_true_iff];omega];rfl)
  (λ i x o r c f e j n d=>by
   refine waH ?_;simp only[qae,yV];rw[r,wv,kK]at d;refine waF c (waC f ?_);rw[qkO,Jo (by omega)];refine waG (qB.2 (by omega)) ?_;rw[e];exact j (n+x.length) (by omega))
 refine waI ?_;simp only[qfx,yX];refine waJ (L:=λ m k=>(qn m k).1 b 0 b b.length 0) ?_;exact t 0 (we _) 0 (by rw[wP];omega)
theorem quM(a b:List T)(h:a.length+b.length<=100000000):Ev (λ m _=>zR m [a,b]) (a++b):=
 (qIP [a,b] (by simp) (by simpa using h)).res (by simp)
theorem qqL{f:T->Int}{l:List T}{i:Nat}{x:T}(h:l.drop i=x::l.drop (i+1)):((l.drop i).map f).foldl thn 0=if f x≠0 then f x else((l.drop (i+1)).map f).foldl thn 0:=by
 rw[h,wv];by_cases a:f x=0
 .rw[if_neg (by simpa using a),a];rfl
 .rw[if_pos a];exact qT _ a
theorem qKn(l:List T)(n:szL l<=100000000):Ev (λ m _=>qmF m l []) (qnp l):=by
 have o:=jK l;refine waI ?_;simp only[qEe,qhl];unfold qnp;refine waB (λ h=>?_) λ h=>?_
 .rw[qz]at h;rw[if_pos (by omega)];exact waD _
 .rw[qB]at h;rw[if_neg (by omega)];refine waA (quM l [] (by simp only[w7];omega)) ?_;rw[wy]
  have b:=qw (P:=λ i=>Ev (λ m k=>qbT m k l l.length i) (((l.drop i).map qV).foldl thn 0)) l (by omega)
   (λ c=>by
    refine waH ?_;simp only[qrp,qgN];refine waG c ?_;rw[wX];exact waD _)
   (λ i x d g c f e j=>by
    refine waH ?_;simp only[qrp,qgN,qk];have p:=qcz (wc d);rw[qqL g];refine waF c (waC f (waA (qet x (by omega)) (waB (λ a=>?_) λ a=>?_)))
    .rw[bnt,qi]at a;rw[if_pos a];exact waD _
    .rw[bnf,ql]at a;rw[if_neg (by omega),e];exact j)
  refine waJ (L:=λ m k=>qbT m k l l.length 0) ?_;exact(b 0 (we _)).res (by rw[wP])
theorem qGn(t:T)(a:size t<=1000000000):Ev (λ m _=>qhi m t [] t) (t,0):=by
 refine waI ?_;simp only[qxT,qdL,qk];refine waA (qtC t a) ?_;refine waJ (L:=λ m k=>qaC m k [] ([]:List Int).length 0 t.kind t.name t.sort t.kids 0 [] 0 t.kind t.name t.sort t.kids []) (waH ?_);simp only[quR,qhr,qk];refine waG rfl ?_;rw[show T.mk t.kind t.name t.sort t.kids=t from qk t];exact waA (qtC t a) (waD _)
def qd1(l:List T)(i:Nat):List T:=l.take i++List.replicate (l.length-i) zT
theorem qL4{l:List T}{i:Nat}(h:i<l.length):(qd1 l i)[i]?=some zT:=by
 unfold qd1;rw[List.getElem?_append_right (by rw[wm];omega),wm,List.getElem?_replicate,if_pos (by omega)]
theorem qtT{l:List T}{i:Nat}{x:T}(h:l[i]?=some x):(qd1 l i).set i x=qd1 l (i+1):=by
 have c:=(List.getElem?_eq_some_iff.1 h).1;unfold qd1;have b:l.take (i+1)=l.take i++[x]:=by rw[kE,h];rfl
 have a:List.replicate (l.length-i) zT=zT::List.replicate (l.length-(i+1)) zT:=by
  rw[show l.length-i=(l.length-(i+1))+1 by omega,List.replicate_succ]
 rw[b,a,waw _ _ (by rw[wm];omega),wm,show i-min i l.length=0 by omega,List.set_cons_zero,wj];rfl
theorem qI3{l:List T}{i:Nat}{x:T}(h:l[i]?=some x):(qd1 l (i+1)).set i x=qd1 l (i+1):=by
 rw[<-qtT h,List.set_set]
theorem qIS{l:List T}{i:Nat}{x:T}(h:l[i]?=some x):(qd1 l (i+1))[i]?=some x:=by
 have a:=(List.getElem?_eq_some_iff.1 h).1;rw[<-qtT h,List.getElem?_set_self (by unfold qd1;rw[wd,wm,kG];omega)]
theorem qea{α:Type}(l:List α)(i:Nat)(v:α):yr l (i:Int) v=l.set i v:=by
 unfold yr;rw[if_pos (by omega),kF]
theorem qNo:∀(n:Nat) (l:List T),szL l<=n->n<=1000000->Ev (λ m _=>J0 m l) l:=by
 intro n
 induction n using Nat.strongRecOn with
 |_ n p=>
 intro l s t;have u:=jK l;refine waI ?_;simp only[qIz,qj9]
 have d:=qw (P:=λ i=>Ev (λ m k=>qee m (J0 m) k l l.length i (qd1 l i)) l) l (by omega)
  (λ h=>by
   refine waH ?_;simp only[qwA,qj3];refine waG h ?_;exact waE (by unfold qd1;rw[wG,kY];simp))
  (λ i x b v h r q j=>by
   refine waH ?_;simp only[qwA,qj3,qk];have y:=qcz (wc b);have w:=zb x;have f:=(List.getElem?_eq_some_iff.1 b).1;have e:yr (qd1 l i) i x=qd1 l (i+1):=by rw[qea,qtT b]
   have o:yr (qd1 l (i+1)) i x=qd1 l (i+1):=by rw[qea,qI3 b]
   have g:qf (qd1 l (i+1)) i=some x:=by rw[Qe,qIS b]
   refine waF h (waC r (waA (qGn x (by omega)) (waC (a:=zT) (by rw[Qe,qL4 f]) (waA (p (szL x.kids) (by unfold szL at *;omega) x.kids (wa _) (by unfold szL at *;omega)) ?_))));rw[e];refine waC g ?_;rw[show T.mk x.kind x.name x.sort x.kids=x from qk x,o,q];refine waB (λ c=>?_) λ c=>j;rw[ql]at c;have c:x.kids=[]:=wh (by omega);refine waC g ?_;rw[show T.mk x.kind x.name x.sort []=x from by rw[<-c];exact qk x,o];exact j)
 refine waF (by unfold qAG;rw[decide_eq_true_iff,kF];omega) ?_;refine waJ (L:=λ m k=>qee m (J0 m) k l l.length 0 (List.replicate (Int.toNat (l.length:Int)) (T.mk 0 [] 0 []))) ?_;refine(d 0 (we _)).congr λ m k=>?_;unfold qd1;rw[xN,kF];rfl
theorem qMn(l:List T)(z:szL l<=900000):Ev (λ m _=>qr4 m l) (qoS l):=by
 have A:=jK l;refine waI ?_;simp only[qIK,qjN];unfold qoS;refine waA (qKn l (by omega)) (waB (λ h=>?_) λ h=>?_)
 .rw[bnt,qi]at h;rw[if_pos h];exact waD _
 .rw[bnf,ql]at h;rw[if_neg (by omega)]
  have e:=qw (P:=λ i=>Ev (λ m k=>qeb m k (((l.take i).map jU).foldl zq []) l l.length i 0 [] 0 []) (if qV (J8 (zY l))≠0 then(zT,3)else(J8 (zY l),0))) l (by omega)
   (λ j=>by
    refine waH ?_;simp only[qvx,qjC,qk];refine waG j ?_;rw[wG];have b:=qei l;show Ev (λ m k=>qb (J0 m (zY l)) _) _;have o:=jK (zY l)
    have c:∀u:T,u=J8 (zY l)->Ev (λ m _=>qb (zh m u) λ v=>cond (qh (ieq v 0)) (some (T.mk 0 [] 0 [],(3:Int))) (some (u,0))) (if qV (J8 (zY l))≠0 then(zT,3)else(J8 (zY l),0)):=by
     intro u p
     have y:size (J8 (zY l))<=1+szL (zY l):=by
      unfold J8;split
      .rw[zb];show 1+0<=_;omega
      .split
       .rename_i _ d
        have:(zY l).getD 0 zT∈zY l:=by
         cases g:zY l with
         |nil=>rw[g]at d;cases d
         |cons x r=>exact wi ..
        have:=qcz this;omega
       .rw[zb];exact wa _
     subst p;refine waA (qet _ (by omega)) (waB (λ h=>?_) λ h=>?_)
     .rw[bnt,qi]at h;rw[if_pos h];exact waD _
     .rw[bnf,ql]at h;rw[if_neg (by omega)];exact waD _
    refine waA (qNo _ (zY l) (wa _) (by omega)) (waB (λ n=>?_) λ n=>?_)
    .rw[ql]at n;exact c _ (by unfold J8;rw[if_pos (by omega)];rfl)
    .rw[qi]at n;refine waB (λ b=>?_) λ b=>?_
     .rw[ql]at b;refine waC (a:=(zY l).getD 0 zT) ?_ (c _ (by unfold J8;rw[if_neg (by omega),if_pos (by omega)]));rw[JT,List.getD_eq_getElem?_getD];cases g:zY l with
      |nil=>rw[g]at b;simp at b
      |cons x r=>rfl
     .rw[qi]at b;exact c _ (by unfold J8;rw[if_neg (by omega),if_neg (by omega)];rfl))
   (λ i x f B j t s w=>by
    refine waH ?_;simp only[qvx,qjC,qk];have q:=wc f;have b:=qcz q;have o:=qei (l.take i);have D:=Qx f;have C:=qli x;refine waF j (waC t (waA (qL2 x (by omega)) (waA (qBl _ _ ?_) ?_)))
    .unfold zY at o;omega
    .rw[s];refine w.congr λ m k=>?_;rw[qjP f])
  refine waJ (L:=λ m k=>qeb m k [] l l.length 0 0 [] 0 []) ?_;exact e 0 (we _)
end Go.AmZ
namespace Go.AmZ
open Go Go.GxZ
theorem qNS(l:List T)(t:T)(j:szL l+size t<=1000000000):Ev (λ m _=>qlU m l t) (l.any λ x=>yj x t):=by
 have n:=jK l;refine waI ?_;simp only[qD9,qgV]
 have a:=qw (P:=λ i=>Ev (λ m k=>qbO m k l i t.kind t.name t.sort t.kids) ((l.drop i).any λ x=>yj x t)) l (by omega)
  (λ b=>by
   refine waH ?_;simp only[qri,qhe];refine waG b (waE ?_);rw[wX];rfl)
  (λ i x c f b e d g=>by
   refine waH ?_;simp only[qri,qhe,qk];have o:=qcz (wc c);rw[f,waa,show T.mk t.kind t.name t.sort t.kids=t from qk t];refine waF b (waC e (waA (qfX x t (by omega) (by omega)) (waB (λ h=>?_) λ h=>?_)))
   .rw[h];exact waD _
   .rw[h,d];exact g)
 refine waJ (L:=λ m k=>qbO m k l 0 t.kind t.name t.sort t.kids) ?_;exact(a 0 (we _)).res (by rw[wP])
theorem qA2(t:T):∀(l:List T) (s:List T×Bool),(l.foldl (Ju t) s).1.length<=s.1.length+2*l.length
 |[],s=>by simp
 |x::l,s=>by
   have h:=qA2 t l (Ju t s x)
   have:(Ju t s x).1.length<=s.1.length+2:=by
    unfold Ju;split
    .simp only[wd,wx,w7];split<;>simp
    .simp
   rw[kh,wx];omega
theorem qIx(l:List T)(t:T)(r:szL l+size t<=1000000000):Ev (λ m _=>qiA m l t) (qxc l t):=by
 have u:=jK l;refine waI ?_;simp only[qEl,qhc]
 have d:∀i,((l.take i).foldl (Ju t) ([],false)).1.length<=2*l.length:=λ i=>by
  have:=qA2 t (l.take i) ([],false);have q:(l.take i).length<=l.length:=by rw[wm];omega
  simp only[w7]at this;omega
 have g:=qw (P:=λ i=>Ev (λ m k=>qbP m k l ((l.take i).foldl (Ju t) ([],false)).2 i t.kind t.name t.sort t.kids ((l.take i).foldl (Ju t) ([],false)).1) (qxc l t)) l (by omega)
  (λ j=>by
   refine waH ?_;simp only[qqE,qgF];refine waG j ?_;rw[wG];unfold qxc;have:=d l.length;rw[wG]at this;refine waB (λ h=>?_) λ h=>?_
   .rw[bnt]at h;rw[if_neg (by rw[h];decide),show T.mk t.kind t.name t.sort t.kids=t from qk t];exact waF (zj (by omega) (by omega)) (waD _)
   .rw[bnf]at h;rw[if_pos h];exact waD _)
  (λ i x n v j f o a=>by
   refine waH ?_;simp only[qqE,qgF,qk];have w:=qcz (wc n);have q:=d i
   have e:(l.take (i+1)).foldl (Ju t) ([],false)=Ju t ((l.take i).foldl (Ju t) ([],false)) x:=by
    rw[kE,n,xG];rfl
   rw[e]at a;generalize (l.take i).foldl (Ju t) ([],false)=s at *;rw[show T.mk t.kind t.name t.sort t.kids=t from qk t,o];refine waF j (waC f (waA (qii t (by omega) x (by omega)) (waB (λ h=>?_) λ h=>?_)))
   .rw[bnt]at h;refine waB (λ c=>?_) λ c=>?_
    .rw[qjM]at c;unfold Ju at a;rw[if_pos ⟨h,c⟩]at a;refine waB (λ b=>?_) λ b=>?_
     .rw[qz]at b;rw[if_pos b]at a;exact waF (zj (by omega) (by omega)) (waC f (waF (zj (by rw[wd];simp only[wx,w7];omega) (by omega)) a))
     .rw[qB]at b;rw[if_neg (by omega),wy]at a;exact waC f (waF (zj (by omega) (by omega)) a)
    .rw[qlM]at c;unfold Ju at a;rw[if_neg (by omega)]at a;exact waC f (waF (zj (by omega) (by omega)) a)
   .rw[bnf]at h;unfold Ju at a;rw[if_neg (by rw[h];intro p;cases p.1)]at a;exact waC f (waF (zj (by omega) (by omega)) a))
 refine waJ (L:=λ m k=>qbP m k l false 0 t.kind t.name t.sort t.kids []) ?_;exact g 0 (we _)
theorem qN1(l:List T)(t:T)(f:szL l+size t<=1000000000):Ev (λ m _=>qg2 m l t) (qia l t):=by
 have n:=jK l;refine waI ?_;simp only[qxb,qdP,qk];unfold qia;refine waA (qNS l t f) (waB (λ h=>?_) λ h=>?_)
 .rw[bnt]at h;rw[if_neg (by rw[h];decide)];exact waA (qIx l t f) (waD _)
 .rw[bnf]at h;rw[if_pos h]
  have b:=qw (P:=λ i=>Ev (λ m k=>JE m k l i t.kind t.name t.sort t.kids ((l.take i).filter λ x => !yj x t)) (l.filter λ x => !yj x t)) l (by omega)
   (λ c=>by
    refine waH ?_;simp only[ql7,qdQ];refine waG c ?_;rw[wG];exact waD _)
   (λ i x d o c g j a=>by
    refine waH ?_;simp only[ql7,qdQ,qk];have q:=qcz (wc d);have p:((l.take i).filter λ x => !yj x t).length<=l.length:=wD (ve _ _) (by rw[wm];omega);rw[kE,d,vD]at a;rw[show T.mk t.kind t.name t.sort t.kids=t from qk t,j];refine waF c (waC g (waA (qfX x t (by omega) (by omega)) (waB (λ h=>?_) λ h=>?_)))
    .rw[bnt]at h;have e:(Option.some x).toList.filter (λ x => !yj x t)=[x]:=by show[x].filter _=_;simp[h]
     rw[e]at a;exact waC g (waF (zj (by omega) (by omega)) a)
    .rw[bnf]at h;have e:(Option.some x).toList.filter (λ x => !yj x t)=[]:=by show[x].filter _=_;simp[h]
     rw[e,wy]at a;exact a)
  refine waJ (L:=λ m k=>JE m k l 0 t.kind t.name t.sort t.kids []) ?_;exact b 0 (we _)
theorem qw1(t:T):∀l:List T,szL (QY l t)<=szL l+size t
 |[]=>by rw[QY,qR];omega
 |x::l=>by
   have:=qw1 t l;rw[QY];split
   .rw[qR,qR];omega
   .split
    .omega
    .rw[qR,qR];omega
theorem qzi(p:T->Bool):∀l:List T,szL (l.filter p)<=szL l
 |[]=>wa _
 |x::l=>by
   have:=qzi p l;rw[List.filter_cons];split
   .rw[qR,qR];omega
   .rw[qR];omega
theorem qME(l:List T)(t:T):szL (qia l t)<=szL l+size t:=by
 unfold qia;split
 .exact wD (qzi _ l) (by omega)
 .rw[qtL];exact qw1 t l
theorem qwu:∀(b a:List T),szL (b.foldl qia a)<=szL a+szL b
 |[],a=>by simp[szL]
 |x::b,a=>by
   have d:=qwu b (qia a x);have c:=qME a x;rw[kh,qR];omega
theorem qCt(a b:List T)(n:szL a+szL b<=1000000000):Ev (λ m _=>qgz m a b) (qjW a b):=by
 have t:=jK a;have s:=jK b;refine waI ?_;simp only[qCR,qfF]
 have d:=qw (P:=λ i=>Ev (λ m k=>JS m k b ((b.take i).foldl qia a) i) (qjW a b)) b (by omega)
  (λ e=>by
   refine waH ?_;simp only[qpI,qfB];refine waG e ?_;rw[wG];exact waD _)
  (λ i x f o e l j g=>by
   refine waH ?_;simp only[qpI,qfB,qk];have q:=Qx f;have p:=qwu (b.take i) a;rw[kE,f,xG]at g;refine waF e (waC l (waA (qN1 _ x (by omega)) ?_));rw[j];exact g)
 refine waF (zj (by simp only[w7];omega) (by omega)) ?_;have c:Ev (λ m _=>JS m m b a 0) (qjW a b):=waJ (L:=λ m k=>JS m k b a 0) (d 0 (we _));exact Ev.case (λ h=>by rw[h]at c |-;exact c) λ x r h=>by rw[h]at c |-;exact c
theorem qKW(t:T):size t<=1000000000->Ev (λ m _=>zZ m t) (jU t):=by
 induction t using T.ind with
 |h t w=>
   intro F;have v:=yJ t;have E:=zb t;refine waI ?_;simp only[qt4,qbX,qk]
   have q:=qw (P:=λ i=>Ev (λ m k=>jQ m (zZ m) k (((t.kids.take i).map jU).foldl zq []) i t.kind t.name t.sort t.kids) ((t.kids.map jU).foldl zq [])) t.kids (by omega)
    (λ s=>by
     refine waH ?_;simp only[qjp,qcc];refine waG s ?_;rw[wG];exact waD _)
    (λ i x c G s A y C=>by
     refine waH ?_;simp only[qjp,qcc,qk];have u:=wc c;have I:=jD t x u;have D:=qei (t.kids.take i);have f:=Qx c;have H:=qli x
     have B:Asc (((t.kids.take i).map jU).foldl zq []):=qhb _ _ List.Pairwise.nil λ l v=>by
      obtain⟨k,_,rfl⟩:=wA.1 v;exact qmy k
     refine waF s (waC A (waA (w x u (by omega)) (waA (qCt _ _ ?_) ?_)))
     .unfold zY at D;unfold szL at *;omega
     .rw[y,qC7 B (qmy x)];refine C.congr λ m k=>?_;rw[qjP c])
   have g:Ev (λ m _=>jQ m (zZ m) m [] 0 t.kind t.name t.sort t.kids) ((t.kids.map jU).foldl zq []):=
    waJ (L:=λ m k=>jQ m (zZ m) k [] 0 t.kind t.name t.sort t.kids) (q 0 (we _))
   rw[qkC];by_cases f:t.kind=3
   .have p:ieq t.kind 3=true:=ql.2 f;have o:qh (ieq t.kind 3)=false:=bnf.2 p;refine waF p ?_;refine waB (λ e=>?_) λ e=>?_
    .rw[yT]at e;have a:isN t qca=true:=yM.2 ⟨f,e⟩
     have d:isN t qep=false:=by
      rw[<-kD,yM];rintro⟨_,h⟩;rw[e]at h;exact absurd h (by decide)
     refine waB (λ b=>?_) λ b=>?_
     .rw[ql]at b;have b:t.kids=[]:=wh (by omega);rw[a,b];exact waD _
     .rw[qi]at b
      have b:t.kids.isEmpty=false:=by
       cases z:t.kids with
       |nil=>rw[z]at b;exact absurd rfl b
       |cons _ _=>rfl
      rw[a,b,d];exact waG o (waF (by rw[e];rfl) (waD _))
    .have r:=j8.1 e
     have a:isN t qca=false:=by
      rw[<-kD,yM];rintro⟨_,h⟩;exact r h
     rw[a];refine waG o (waB (λ c=>?_) λ c=>?_)
     .have d:isN t qep=false:=by
        rw[<-kD,yM];rintro⟨_,h⟩;exact j8.1 (bnt.1 c) h
      rw[d];exact waD _
     .rw[show isN t qep=true from yM.2 ⟨f,yT.1 (bnf.1 c)⟩];exact g
   .have p:ieq t.kind 3=false:=qi.2 f
    have j:∀n,isN t n=false:=λ n=>by
     rw[<-kD,yM];rintro⟨h,_⟩;exact f h
    rw[j,j];exact waG p (waF (bnt.2 p) (waD _))
theorem qGk:qV (apT qca [])=0:=by
 unfold qV;rw[qmP,zb,qkj];have:jG (apT qca [])=0:=by decide
 show(if jG (apT qca [])≠0 then jG (apT qca [])else _)=0;rw[this];rfl
theorem qHo(l:List T)(n:szL l<=100000000):Ev (λ m _=>qio m l (apT qca [])) (qnp l):=by
 have o:=jK l;refine waI ?_;simp only[qz0,qeF];unfold qnp;refine waB (λ h=>?_) λ h=>?_
 .rw[qz]at h;rw[if_pos (by omega)];exact waD _
 .rw[qB]at h;rw[if_neg (by omega)]
  have b:=qw (P:=λ i=>Ev (λ m k=>qab m k l i 3 qca 0 []) (((l.drop i).map qV).foldl thn 0)) l (by omega)
   (λ c=>by
    refine waH ?_;simp only[qnQ,qe1];refine waG c ?_;rw[wX];refine waA (qcF (T.mk 3 qca 0 []) (by rw[zb];show 1+0<=_;omega)) ?_;exact waE qGk)
   (λ i x d g c f e j=>by
    refine waH ?_;simp only[qnQ,qe1,qk];have p:=qcz (wc d);rw[qqL g];refine waF c (waC f (waA (qcF x (by omega)) (waB (λ a=>?_) λ a=>?_)))
    .rw[bnt,qi]at a;rw[if_pos a];exact waD _
    .rw[bnf,ql]at a;rw[if_neg (by omega),e];exact j)
  refine waJ (L:=λ m k=>qab m k l 0 3 qca 0 []) ?_;exact(b 0 (we _)).res (by rw[wP])
theorem qER(l:List T):size (J8 l)<=1+szL l:=by
 unfold J8;split
 .rw[zb];show 1+0<=_;omega
 .split
  .rename_i _ a
   have:l.getD 0 zT∈l:=by
    cases l with
    |nil=>cases a
    |cons x r=>exact wi ..
   have:=qcz this;omega
  .rw[zb];exact wa _
theorem qJn(l:List T)(d:szL l<=1000000000):Ev (λ m _=>qjU m l) (J8 l):=by
 have e:=jK l;refine waI ?_;simp only[qCf,qi0,qk];unfold J8;refine waB (λ c=>?_) λ c=>?_
 .rw[ql]at c;rw[if_pos (by omega)];exact waA (qe4 _ [] (by simp)) (waD _)
 .rw[qi]at c;rw[if_neg (by omega)];refine waB (λ b=>?_) λ b=>?_
  .rw[ql]at b;rw[if_pos (by omega)];refine waC (a:=l.getD 0 zT) ?_ (waD _);rw[JT,List.getD_eq_getElem?_getD];cases l with
   |nil=>simp at b
   |cons x r=>rfl
  .rw[qi]at b;rw[if_neg (by omega)];exact waF (zj (by simp only[w7];omega) (by omega)) (Ev.case (λ h=>waE (by rw[h];rfl)) λ x r h=>waE (by rw[h];rfl))
theorem qMW(l:List T)(q:szL l<=900000):Ev (λ m _=>qmJ m l) (qoS l):=by
 have d:=jK l;refine waI ?_;simp only[qDO,qhm];unfold qoS
 have z:Ev (λ m _=>qjH m) (apT qca []):=by
  refine waI ?_;simp only[qC9,qiX,qk];exact waA (qe4 _ [] (by simp)) (waD _)
 refine waA z ?_;rw[qk];refine waA (qHo l (by omega)) (waB (λ h=>?_) λ h=>?_)
 .rw[bnt,qi]at h;rw[if_pos h];exact waD _
 .rw[bnf,ql]at h;rw[if_neg (by omega)]
  have a:=qw (P:=λ i=>Ev (λ m k=>qbL m k l (((l.take i).map jU).foldl zq []) i 0 [] 0 []) (if qV (J8 (zY l))≠0 then(zT,3)else(J8 (zY l),0))) l (by omega)
   (λ c=>by
    refine waH ?_;simp only[qqb,qgT,qk];refine waG c ?_;rw[wG];have p:=qei l;have e:=qER (zY l);refine waA (qJn (zY l) (by omega)) (waA (qcF _ (by omega)) (waB (λ h=>?_) λ h=>?_))
    .rw[bnt,qi]at h;rw[if_pos h];exact waD _
    .rw[bnf,ql]at h;rw[if_neg (by omega)];exact waD _)
   (λ i x b r c j g o=>by
    refine waH ?_;simp only[qqb,qgT,qk];have f:=wc b;have p:=qcz f;have e:=qei (l.take i);have t:=Qx b;have s:=qli x
    have n:Asc (((l.take i).map jU).foldl zq []):=qhb _ _ List.Pairwise.nil λ l d=>by
     obtain⟨k,_,rfl⟩:=wA.1 d;exact qmy k
    refine waF c (waC j (waA (qKW x (by omega)) (waA (qCt _ _ ?_) ?_)))
    .unfold zY at e;omega
    .rw[g,qC7 n (qmy x)];refine o.congr λ m k=>?_;rw[qjP b])
  refine waJ (L:=λ m k=>qbL m k l [] 0 0 [] 0 []) ?_;exact a 0 (we _)
end Go.AmZ
namespace Go.GxZ
def qfY(l:List Pw):Prop:=Asc (l.map (·.1))
def NzP(l:List Pw):Prop:=∀p∈l,p.2≠0
theorem qgo{p:Pw}{l:List Pw}:qfY (p::l)↔(∀q∈l,qs p.1 q.1=-1)/\qfY l:=by
 unfold qfY;rw[wv,qaJ];simp
theorem qec{p:Pw}{l:List Pw}:NzP (p::l)↔p.2≠0/\NzP l:=by
 unfold NzP;simp
def QS(l:List Pw):Nat:=(l.map λ p=>p.2.natAbs).sum
theorem qoX:∀(l:List Pw) (t:T) (n:Int) (p:Pw),p∈yC l t n->p.1=t\/p∈l
 |[],t,n,p,h=>by simp[yC]at h;exact .inl (by rw[h])
 |(x,m)::l,t,n,p,h=>by
   rw[yC]at h;split at h
   .obtain h|h:=ww.1 h
    .exact .inl (by rw[h])
    .exact .inr h
   .split at h
    .rename_i a;split at h
     .exact .inr (wg _ h)
     .obtain h|h:=ww.1 h
      .left;rw[h];exact(qaz t x a).symm
      .exact .inr (wg _ h)
    .obtain h|h:=ww.1 h
     .exact .inr (h▸wi ..)
     .obtain h|h:=qoX l t n p h
      .exact .inl h
      .exact .inr (wg _ h)
theorem qBf:∀(l:List Pw) (t:T) (n:Int),qfY l->qfY (yC l t n)
 |[],_,_,_=>vF _ _
 |(x,m)::l,t,n,h=>by
   let⟨d,c⟩:=qgo.1 h;rw[yC];have f:=yd.rng t x;split
   .rename_i b;refine qgo.2 ⟨λ q a=>?_,h⟩;obtain e|a:=ww.1 a
    .rw[e];exact b
    .exact qeK b (d q a)
   .split
    .split
     .exact c
     .exact qgo.2 ⟨d,c⟩
    .refine qgo.2 ⟨λ q a=>?_,qBf l t n c⟩;obtain e|a:=qoX l t n q a
     .rw[e];exact qxK.1 (show qs t x=1 by omega)
     .exact d q a
theorem qFU:∀(l:List Pw) (t:T) (n:Int),NzP l->n≠0->NzP (yC l t n)
 |[],_,_,_,a=>by intro p c;simp[yC]at c;rw[c];exact a
 |(x,m)::l,t,n,h,a=>by
   let⟨d,b⟩:=qec.1 h;rw[yC];split
   .exact qec.2 ⟨a,h⟩
   .split
    .split
     .exact b
     .exact qec.2 ⟨by assumption,b⟩
    .exact qec.2 ⟨d,qFU l t n b a⟩
theorem qtS:∀(l:List Pw) (t:T) (n:Int),QS (yC l t n)<=QS l+n.natAbs
 |[],t,n=>by simp[yC,QS]
 |(x,m)::l,t,n=>by
   have a:=qtS l t n;unfold QS at a |-
   rw[yC];split
   .simp only[wv,kK];omega
   .split
    .split
     .simp only[wv,kK];omega
     .simp only[wv,kK];omega
    .simp only[wv,kK];omega
theorem quz:∀(l:List Pw) (t:T) (n:Int),(yC l t n).length<=l.length+1
 |[],t,n=>by simp[yC]
 |(x,m)::l,t,n=>by
   have a:=quz l t n;rw[yC];split
   .simp
   .split
    .split
     .simp;omega
     .simp
    .simp only[wx];omega
theorem qCP(l:List Pw)(p:Pw)(h:p∈l):p.2.natAbs<=QS l:=by
 unfold QS
 induction l with
 |nil=>cases h
 |cons q l a=>
   simp only[wv,kK];obtain e|h:=ww.1 h
   .rw[e];omega
   .have:=a h;omega
def yU(t:T)(n:Int)(s:List Pw×Bool)(p:Pw):List Pw×Bool:=
 ((if s.2=false/\qs t p.1<0 then s.1++[(t,n)]else s.1)++(if(if qs t p.1=0 then p.2+n else p.2)=0 then[]else[(p.1,if qs t p.1=0 then p.2+n else p.2)]),
   s.2||decide (qs t p.1<=0))
def qGd(l:List Pw)(t:T)(n:Int):List Pw:=if(l.foldl (yU t n) ([],false)).2 then(l.foldl (yU t n) ([],false)).1 else(l.foldl (yU t n) ([],false)).1++[(t,n)]
theorem qoK(t:T)(n:Int):∀(l a:List Pw),NzP l->(∀q∈l,qs t q.1=-1)->l.foldl (yU t n) (a,true)=(a++l,true)
 |[],a,_,_=>by simp
 |(x,m)::l,a,h,k=>by
   let⟨c,f⟩:=qec.1 h;have b:=k _ (wi ..);simp only at b c;have e:yU t n (a,true) (x,m)=(a++[(x,m)],true):=by simp[yU,b,c]
   rw[kh,e,qoK t n l _ f λ q d=>k q (wg _ d)];simp
theorem qs2(t:T)(n:Int):∀(l a:List Pw),NzP l->qfY l->(if(l.foldl (yU t n) (a,false)).2 then(l.foldl (yU t n) (a,false)).1 else(l.foldl (yU t n) (a,false)).1++[(t,n)])=a++yC l t n
 |[],a,_,_=>by simp[yC]
 |(x,m)::l,a,h,k=>by
   let⟨i,g⟩:=qec.1 h;let⟨d,o⟩:=qgo.1 k;simp only at i d;have s:=yd.rng t x;rw[kh,yC];by_cases c:qs t x=-1
   .have e:yU t n (a,false) (x,m)=(a++[(t,n)]++[(x,m)],true):=by simp[yU,c,i]
    rw[e,qoK t n l _ g λ q f=>qeK c (d q f),if_pos c];simp
   .by_cases b:qs t x=0
    .have e:yU t n (a,false) (x,m)=(a++(if m+n=0 then[]else[(x,m+n)]),true):=by simp[yU,b]
     have ex:=qaz t x b;rw[e,qoK t n l _ g λ q f=>by rw[ex];exact d q f,if_neg c,if_pos b];by_cases j:m+n=0
     .simp[j]
     .simp[j]
    .have e:yU t n (a,false) (x,m)=(a++[(x,m)],false):=by
       have r:¬ qs t x<0:=by omega
       have p:¬ qs t x<=0:=by omega
       simp[yU,r,p,b,i]
     rw[e,qs2 t n l _ g o,if_neg c,if_neg b];simp
theorem qL6{l:List Pw}(h:NzP l)(k:qfY l)(t:T)(n:Int):qGd l t n=yC l t n:=by
 have:=qs2 t n l [] h k;simpa[qGd]using this
def JM(l:List Pw):Prop:=qfY l/\NzP l
theorem JM.nil:JM []:=⟨List.Pairwise.nil,λ _ h=>by cases h⟩
theorem JM.ins{l:List Pw}(h:JM l)(t:T){n:Int}(a:n≠0):JM (yC l t n):=⟨qBf l t n h.1,qFU l t n h.2 a⟩
theorem qNz{t:T}{n:Int}(h:n≠0):qaZ t n≠0:=by unfold qaZ;split<;>omega
theorem qLj(t:T)(n:Int):(qaZ t n).natAbs=n.natAbs:=by unfold qaZ;split<;>omega
theorem qFN(a:List T)(n:Int)(P:List Pw->Prop)(h:∀k∈a,∀l,P l->P (jt k l n)):∀l,P l->P ((a.map jt).foldl (λ l f=>f l n) l):=by
 induction a with
 |nil=>intro l b;exact b
 |cons k a c=>intro l b;exact c (λ k d=>h k (wg _ d)) _ (h k (wi ..) l b)
theorem qIs(t:T):∀(l:List Pw) (n:Int),n≠0->JM l->JM (jt t l n):=by
 refine T.ind (P:=λ t=>∀(l:List Pw) (n:Int),n≠0->JM l->JM (jt t l n)) ?_ t;intro t b l n a h;rw[qgf];split
 .exact qFN t.kids (qaZ t n) JM (λ k d l c=>b k d l _ (qNz a) c) l h
 .exact h.ins t a
theorem qL5(t:T):∀(l:List Pw) (n:Int),QS (jt t l n)<=QS l+size t*n.natAbs/\(jt t l n).length<=l.length+size t:=by
 refine T.ind (P:=λ t=>∀(l:List Pw) (n:Int),QS (jt t l n)<=QS l+size t*n.natAbs/\(jt t l n).length<=l.length+size t) ?_ t;intro t g l n;rw[qgf,zb];split
 .have:∀(a:List T),(∀k∈a,k∈t.kids)->∀l,QS ((a.map jt).foldl (λ l f=>f l (qaZ t n)) l)<=QS l+(a.map size).sum*n.natAbs/\((a.map jt).foldl (λ l f=>f l (qaZ t n)) l).length<=l.length+(a.map size).sum:=by
    intro a
    induction a with
    |nil=>intro _ l;simp
    |cons k a b=>
      intro c l;have e:=g k (c k (wi ..)) l (qaZ t n);rw[qLj]at e;have d:=b (λ k i=>c k (wg _ i)) (jt k l (qaZ t n));simp only[wv,kh,kK,wO]at d |-
      omega
  have:=this t.kids (λ _ h=>h) l;rw[wO];omega
 .have e:=qtS l t n;have d:=quz l t n;rw[wO];omega
theorem qql:∀(b a:List Pw),JM a->NzP b->JM (Q0 a b)
 |[],a,h,_=>h
 |p::b,a,h,k=>qql b (yC a p.1 p.2) (h.ins p.1 (qec.1 k).1) (qec.1 k).2
theorem qtt:∀(b a:List Pw),QS (Q0 a b)<=QS a+QS b/\(Q0 a b).length<=a.length+b.length
 |[],a=>by simp[Q0,QS]
 |p::b,a=>by
   have f:=qtt b (yC a p.1 p.2);have d:=qtS a p.1 p.2;have c:=quz a p.1 p.2;have e:QS (p::b)=p.2.natAbs+QS b:=by simp[QS]
   rw[show Q0 a (p::b)=Q0 (yC a p.1 p.2) b from rfl,e,wx];omega
def ixP:List Pw->T->Nat
 |[],_=>0
 |p::l,t=>if qs p.1 t=-1 then ixP l t+1 else 0
theorem qIr:∀(l:List Pw) (t:T),ixP l t<=l.length
 |[],_=>wa _
 |p::l,t=>by
   have:=qIr l t;rw[ixP];split
   .simp;omega
   .omega
theorem qHL:∀(l:List Pw) (t:T) (i:Nat),i<=l.length->(∀k p,k<i->l[k]?=some p->qs p.1 t=-1)->(∀p,l[i]?=some p->qs p.1 t≠-1)->i=ixP l t
 |[],_,i,h,_,_=>by simp at h;rw[h];rfl
 |p::l,t,0,_,_,h=>by rw[ixP,if_neg (h p rfl)]
 |p::l,t,i+1,h,k,m=>by
   rw[ixP,if_pos (k 0 p (by omega) rfl)];rw[<-qHL l t i (by simpa using h) (λ j q b a=>k (j+1) q (by omega) (by simpa using a)) (λ q a=>m q (by simpa using a))]
theorem qFA:∀(l:List Pw) (t:T) (n:Int) (x:T) (m:Int),l[ixP l t]?=some (x,m)->qs x t=0->
  yC l t n=if m+n=0 then l.take (ixP l t)++l.drop (ixP l t+1)else l.take (ixP l t)++[(x,m+n)]++l.drop (ixP l t+1)
 |[],_,_,_,_,h,_=>by simp at h
 |(y,k)::l,t,n,x,m,h,a=>by
   have d:=yd.anti y t;have b:=yd.rng y t;rw[ixP]at h;rw[yC,ixP];simp only at h |-
   by_cases c:qs y t=-1
   .rw[if_pos c]at h;rw[if_neg (by omega),if_neg (by omega),if_pos c,qFA l t n x m (by simpa using h) a];split<;>simp
   .rw[if_neg c]at h;simp at h;obtain⟨rfl,rfl⟩:=h;rw[if_neg (by omega),if_pos (by omega),if_neg c];split<;>simp
theorem qB9:∀(l:List Pw) (t:T) (n:Int),(∀p,l[ixP l t]?=some p->qs p.1 t≠0)->yC l t n=l.take (ixP l t)++[(t,n)]++l.drop (ixP l t)
 |[],_,_,_=>by simp[yC,ixP]
 |(y,k)::l,t,n,h=>by
   have d:=yd.anti y t;have b:=yd.rng y t;rw[ixP]at h;rw[yC,ixP];simp only at h |-
   by_cases c:qs y t=-1
   .rw[if_pos c]at h;rw[if_neg (by omega),if_neg (by omega),if_pos c,qB9 l t n λ p a=>h p (by simpa using a)];simp
   .rw[if_neg c]at h;have:=h (y,k) rfl;simp only at this;rw[if_pos (by omega),if_neg c];simp
theorem qFl{l:List Pw}(h:qfY l){i j:Nat}{p q:Pw}(g:l[i]?=some p)(f:l[j]?=some q)(c:i<j):qs p.1 q.1=-1:=by
 unfold qfY Asc at h;rw[List.pairwise_iff_getElem]at h;let⟨e,d⟩:=List.getElem?_eq_some_iff.1 g;let⟨b,a⟩:=List.getElem?_eq_some_iff.1 f;have:=h i j (by simpa using e) (by simpa using b) c;simpa[d,a]using this
end Go.GxZ
namespace Go.AmZ
open Go Go.GxZ
theorem qEV(t:T):Ev (λ m _=>qbG m t) (qcG t):=by
 refine waI ?_;simp only[qsG,qeo];unfold qcG;by_cases a:t.kind=3
 .refine waF (ql.2 a) (waB (λ h=>?_) λ h=>(waB (λ b=>?_) λ b=>?_))
  .rw[yT]at h;exact waE (by rw[a,h];rfl)
  .rw[yT]at b;exact waE (by rw[a,b];rfl)
  .rw[j8]at h b
   exact waE (by
    have d:(t.name==qf8)=false:=by rw[beq_eq_false_iff_ne];exact h
    have c:(t.name==Jh)=false:=by rw[beq_eq_false_iff_ne];exact b
    rw[a,d,c];rfl)
 .exact waG (qi.2 a) (waE (by have:(t.kind==3)=false:=by rw[beq_eq_false_iff_ne];exact a
                              rw[this];rfl))
theorem qmx(t:T):size t<=100000000->Ev (λ m _=>zw m t) t:=by
 induction t using T.ind with
 |h t g=>
   intro o;have p:=yJ t;refine waI ?_;simp only[qun,qb7]
   have a:zW 0 t.kids=some ((),t.kids,()):=by
    unfold zW;rw[show Nat.ble t.kids.length 100000000=true from xK (by omega)];rfl
   refine waC a ?_
   have b:=qw (P:=λ i=>Ev (λ m k=>QE m (zw m) k t.kids.length i t.kind t.name t.sort 0 [] 0 t.kids []) t) t.kids (by omega)
    (λ a=>by
     refine waH ?_;simp only[qjf,qb3];exact waG a (waE (qk t)))
    (λ i x c q a f j l=>by
     refine waH ?_;simp only[qjf,qb3,qk];have d:=wc c;have s:=jD t x d
     have e:yr t.kids (i:Int) x=t.kids:=by
      rw[qea];let⟨r,n⟩:=List.getElem?_eq_some_iff.1 c;rw[<-n,List.set_getElem_self]
     refine waF a (waC f (waA (g x d (by omega)) (waC f ?_)));rw[e,j];exact l)
   refine waJ (L:=λ m k=>QE m (zw m) k t.kids.length 0 t.kind t.name t.sort 0 [] 0 t.kids []) ?_;exact b 0 (we _)
theorem qPb(lo a:Nat)(h:lo+a<=1000000000):iw .i64 (qo6 .u64 (iw .u64 (iw .i64 (qj (lo:Int) (a:Int)))) 1)=(((lo+a)/2:Nat):Int):=by
 rw[qkO,show iw .i64 ((lo+a:Nat):Int)=((lo+a:Nat):Int)from Jo (by omega),show iw .u64 ((lo+a:Nat):Int)=((lo+a:Nat):Int)from IntWalk.u64_in _ (by omega)]
 have:qo6 .u64 ((lo+a:Nat):Int) 1=(((lo+a)/2:Nat):Int):=by
  unfold qo6;show Int.fdiv _ 2=_;rw[Int.fdiv_eq_ediv_of_nonneg _ (by decide)];omega
 rw[this,Jo (by omega)]
def szP(l:List Pw):Nat:=(l.map λ p=>size p.1).sum
theorem qa1(p:Pw)(l:List Pw):szP (p::l)=size p.1+szP l:=by simp[szP]
theorem qcy:∀l:List Pw,l.length<=szP l
 |[]=>we _
 |p::l=>by
   have:=qcy l;have:=size_pos p.1;rw[qa1,wx];omega
theorem qeS:∀{l:List Pw}{p:Pw},p∈l->size p.1<=szP l
 |q::l,p,h=>by
   rw[qa1];obtain rfl|h:=ww.1 h
   .omega
   .have:=qeS h;omega
theorem qEq:∀(l:List Pw) (t:T) (n:Int),szP (yC l t n)<=szP l+size t
 |[],t,n=>by rw[yC,qa1];show size t+0<=0+size t;omega
 |(x,m)::l,t,n=>by
   have:=qEq l t n;rw[yC];split
   .rw[qa1,qa1];show size t+(size x+_)<=size x+_+size t;omega
   .split
    .split
     .rw[qa1];show _<=size x+_+_;omega
     .rw[qa1,qa1];show size x+_<=size x+_+_;omega
    .rw[qa1,qa1];show size x+_<=size x+_+_;omega
theorem qB8(p:Pw)(t:T)(b:size p.1<=1000000000)(a:size t<=1000000000):Ev (λ m _=>qah m p t) (qs p.1 t):=by
 refine waI ?_;simp only[qp0,qcR,qk];exact waA (qdp _ b _ a) (waD _)
def qtD(l:List Pw)(t:T):Bool:=match l[Go.GxZ.ixP l t]? with
 |some p=>ieq (qs p.1 t) 0
 |none=>false
theorem qMB{l:List Pw}(y:qfY l)(t:T)(D:szP l+size t<=100000000):∀(d lo c:Nat),c<=lo+d->lo<=c->c<=l.length->(∀k p,k<lo->l[k]?=some p->qs p.1 t=-1)->(∀k p,c<=k->l[k]?=some p->qs p.1 t≠-1)->
  Ev (λ m k=>qr m k l l.length lo c t.kind t.name t.sort t.kids) ((Go.GxZ.ixP l t:Int),qtD l t):=by
 have E:=qcy l;intro d
 induction d with
 |zero=>
   intro lo c C z r o n;have:lo=c:=by omega
   subst this;have w:=qHL l t lo r o (λ p g=>n lo p (wa _) g);subst w;refine waH ?_;simp only[yp,qF,qk];rw[show T.mk t.kind t.name t.sort t.kids=t from qk t];refine waG (qB.2 (wao _)) (waB (λ h=>?_) λ h=>?_)
   .rw[qz]at h;have i:Go.GxZ.ixP l t<l.length:=by omega
    obtain⟨p,e⟩:∃p,l[Go.GxZ.ixP l t]?=some p:=⟨_,List.getElem?_eq_getElem i⟩
    have v:=qeS (wc e);refine waC (a:=p) (by rw[Qe,e]) (waA (qB8 (p.1,p.2) _ (wD v (by omega)) (by omega)) (waE ?_));unfold qtD;rw[e]
   .rw[qB]at h;refine waE ?_;unfold qtD;rw[List.getElem?_eq_none (by omega)]
 |succ d s=>
   intro lo c C z r o n;by_cases F:lo=c
   .exact s lo c (by omega) z r o n
   refine waH ?_;simp only[yp,qF,qk];rw[show T.mk t.kind t.name t.sort t.kids=t from qk t,qPb lo c (by omega)];have A:(lo+c)/2<c:=by omega
   have u:lo<=(lo+c)/2:=by omega
   generalize (lo+c)/2=b at *;have i:b<l.length:=by omega
   obtain⟨p,e⟩:∃p,l[b]?=some p:=⟨_,List.getElem?_eq_getElem i⟩
   have v:=qeS (wc e);refine waF (qz.2 (by omega)) (waC (a:=p) (by rw[Qe,e]) (waA (qB8 (p.1,p.2) _ (wD v (by omega)) (by omega)) (waB (λ f=>?_) λ f=>?_)))
   .rw[qz]at f;have f:qs p.1 t<0:=f;have f:qs p.1 t=-1:=by obtain h|h|h:=yd.rng p.1 t<;>omega
    rw[show qj ((b:Nat):Int) 1=((b+1:Nat):Int)from by unfold qj;omega,Jo (by omega)];refine s (b+1) c (by omega) (by omega) r (λ k q B g=>?_) n;by_cases j:k=b
    .subst j;rw[e]at g;cases g;exact f
    .exact yd.trans _ _ _ (qFl y g e (by omega)) f
   .rw[qB]at f;have f:0<=qs p.1 t:=f;refine s lo b (by omega) u (by omega) o (λ k q B g=>?_);by_cases j:k=b
    .subst j;rw[e]at g;cases g;omega
    .intro x;have:=yd.trans _ _ _ (qFl y e g (by omega)) x;omega
theorem qPH{l:List Pw}(d:qfY l)(t:T)(c:szP l+size t<=100000000):Ev (λ m _=>qM m l t) ((Go.GxZ.ixP l t:Int),qtD l t):=by
 refine waI ?_;simp only[QT,qG];refine waJ (L:=λ m k=>qr m k l l.length 0 l.length t.kind t.name t.sort t.kids) ?_;exact qMB d t c l.length 0 l.length (by omega) (we _) (wa _) (λ k p b=>by omega) (λ k p b a=>by rw[List.getElem?_eq_none b]at a;cases a)
theorem qu2{l:List Pw}(r:qfY l)(t:T)(n:Int)(u:szP l+size t<=90000000)(g:l.length<=90000)(v:QS l+n.natAbs<=1000000000000):Ev (λ m _=>qbv m l (t,n)) ((),yC l t n,()):=by
 have w:=qcy l;have q:=qIr l t;refine waI ?_;simp only[qsy,qd2,qk];refine waA (qPH r t (by omega)) (waB (λ h=>?_) λ h=>?_)
 .rw[bnt]at h;refine waA (qmx t (by omega)) ?_
  have i:zC 0 l (Go.GxZ.ixP l t:Int) [(re t,n)]=some ((),yC l t n,()):=by
   unfold zC;rw[show inb (Go.GxZ.ixP l t:Int) l.length=true from by unfold inb;rw[decide_eq_true_iff];omega,show Nat.ble l.length 100000=true from xK (by omega)]
   rw[qB9 l t n λ p j f=>by
    unfold qtD at h;simp only[j]at h;rw[qi]at h;exact h f]
   rw[kF,qk,wj];rfl
  rw[qk]at i;refine waC i (waD _)
 .rw[bnf]at h;cases b:l[Go.GxZ.ixP l t]? with
  |none=>unfold qtD at h;simp only[b]at h;cases h
  |some p=>
    let⟨x,k⟩:=p
    have f:qs x t=0:=by
     unfold qtD at h;simp only[b]at h;exact ql.1 h
    have o:=qCP l _ (wc b);have d:Go.GxZ.ixP l t<l.length:=(List.getElem?_eq_some_iff.1 b).1;simp only at o
    have e1:iw .i64 (qj k n)=k+n:=by
     unfold qj;exact Jo (by omega)
    have e:qf (yr l (Go.GxZ.ixP l t:Int) (x,k+n)) (Go.GxZ.ixP l t:Int)=some (x,k+n):=by
     rw[qea,Qe,List.getElem?_set_self d]
    have a:l.set (Go.GxZ.ixP l t) (x,k+n)=l.take (Go.GxZ.ixP l t)++[(x,k+n)]++l.drop (Go.GxZ.ixP l t+1):=by
     rw[vH,if_pos d,wj];rfl
    refine waC (by rw[Qe,b]) (waC (by rw[Qe,b]) ?_);simp only[qk,e1];refine waC e ?_;rw[qFA l t n x k b f];refine waB (λ c=>?_) λ c=>?_
    .rw[ql]at c;rw[if_pos c]
     have s:zD 0 (yr l (Go.GxZ.ixP l t:Int) (x,k+n)) (Go.GxZ.ixP l t:Int) (iw .i64 (qj (Go.GxZ.ixP l t:Int) 1))=some ((),l.take (Go.GxZ.ixP l t)++l.drop (Go.GxZ.ixP l t+1),()):=by
      rw[show qj (Go.GxZ.ixP l t:Int) 1=((Go.GxZ.ixP l t+1:Nat):Int)from by unfold qj;omega,Jo (by omega),qea];unfold zD
      rw[wH,show inb ((Go.GxZ.ixP l t+1:Nat):Int) l.length=true from by unfold inb;rw[decide_eq_true_iff];omega,show inb (Go.GxZ.ixP l t:Int) l.length=true from by unfold inb;rw[decide_eq_true_iff];omega,
       show ieq ((Go.GxZ.ixP l t+1:Nat):Int) (qj (Go.GxZ.ixP l t:Int) 1)=true from ql.2 (by unfold qj;omega),show Nat.ble l.length 100000=true from xK (by omega)]
      rw[kF,vq (wa _),vS (by omega)];rfl
     exact waC s (waD _)
    .rw[qi]at c;rw[if_neg c];refine waE ?_;rw[qea,a]
end Go.AmZ
namespace Go.GxZ
open Go.RowKit
theorem qDI(q:Option T)(p:Pw):pvK q p=if qV p.1≠0 then qV p.1 else if qcG p.1 then 1 else if p.2=0\/p.2 < -1000\/1000<p.2 then 7 else match q with|some x=>if 0<=qs x p.1 then 5 else 0|none=>0:=rfl
theorem qC1:∀(l:List Pw) (q:Option T),pvL q l=0->qfY l/\(∀p∈l,p.2≠0/\p.2.natAbs<=1000)/\(∀x,q=some x->∀p∈l,qs x p.1=-1)/\(∀p∈l,qV p.1=0/\qcG p.1=false)
 |[],q,_=>⟨List.Pairwise.nil,(λ _ h=>by cases h),(λ _ _ _ h=>by cases h),(λ _ h=>by cases h)⟩
 |p::l,q,h=>by
   rw[pvL]at h;unfold thn at h;split at h
   rotate_left
   .rename_i b;exact absurd h b
   .rename_i b;have k:=qDI q p;let⟨j,i,d,g⟩:=qC1 l (some p.1) h;rw[k]at b;split at b
    .rename_i f;exact absurd b f
    rename_i f;split at b
    .cases b
    rename_i m;split at b
    .cases b
    rename_i o
    have e:∀x,q=some x->qs x p.1=-1:=λ x c=>by
     subst c;simp only at b;split at b
     .cases b
     .rename_i n;obtain h|h|h:=yd.rng x p.1<;>omega
    refine⟨qgo.2 ⟨λ r a=>d _ rfl r a,j⟩,λ r a=>?_,λ x c r a=>?_,λ r a=>?_⟩
    .obtain rfl|a:=ww.1 a
     .omega
     .exact i r a
    .obtain rfl|a:=ww.1 a
     .exact e x c
     .exact qeK (e x c) (by have:=d _ rfl r a;omega)
    .obtain rfl|a:=ww.1 a
     .exact⟨by omega,by simpa using m⟩
     .exact g r a
theorem qbx{l:List Pw}(h:Jn l=0):JM l/\l.length<=200/\(∀p∈l,p.2.natAbs<=1000)/\(∀p∈l,qV p.1=0/\qcG p.1=false):=by
 unfold Jn at h;split at h
 .cases h
 .obtain⟨d,b,-,c⟩:=qC1 l none h;exact⟨⟨d,λ p a=>(b p a).1⟩,by omega,λ p a=>(b p a).2,c⟩
theorem qnT(k:Nat):∀(l:List Pw),(∀p∈l,p.2.natAbs<=k)->QS l<=l.length*k
 |[],_=>by simp[QS]
 |p::l,h=>by
   have c:=qnT k l λ q a=>h q (wg _ a);have b:=h p (wi ..);have e:QS (p::l)=p.2.natAbs+QS l:=rfl;rw[e,wx,wO];omega
theorem qtO:∀(b a:List Pw) (p:Pw),p∈Q0 a b->(∃q∈a,q.1=p.1)\/∃q∈b,q.1=p.1
 |[],a,p,h=>.inl ⟨p,h,rfl⟩
 |r::b,a,p,h=>by
   obtain⟨q,c,e⟩|⟨q,c,e⟩:=qtO b (yC a r.1 r.2) p h
   .obtain d|d:=qoX a r.1 r.2 q c
    .exact .inr ⟨r,wi ..,by rw[<-d];exact e⟩
    .exact .inl ⟨q,d,e⟩
   .exact .inr ⟨q,wg _ c,e⟩
theorem qzA(a b:List Pw)(p:Pw):Q0 a (b++[p])=yC (Q0 a b) p.1 p.2:=by unfold Q0;rw[xG];rfl
theorem qG3{a b:List Pw}(n:Jn a=0)(m:Jn b=0)(S:Nat)(f:∀p∈a,size p.1<=S)(d:∀p∈b,size p.1<=S)(j:Nat):
  qfY (Q0 a (b.take j))/\(Q0 a (b.take j)).length<=400/\(∀p∈Q0 a (b.take j),p.2.natAbs<=1000000)/\(∀p∈Q0 a (b.take j),size p.1<=S):=by
 obtain⟨r,t,k,-⟩:=qbx n;obtain⟨o,s,i,-⟩:=qbx m;have h:∀p∈b.take j,p∈b:=λ p c=>wT c;have l:=qql (b.take j) a r λ p c=>o.2 p (h p c);let⟨y,x⟩:=qtt (b.take j) a;have w:=qnT 1000 a k;have v:=qnT 1000 (b.take j) λ p c=>i p (h p c);have u:(b.take j).length<=200:=by rw[wm];omega
 refine⟨l.1,by omega,λ p c=>?_,λ p c=>?_⟩
 .have:=qCP _ p c;omega
 .obtain⟨q,g,e⟩|⟨q,g,e⟩:=qtO _ _ p c
  .rw[<-e];exact f q g
  .rw[<-e];exact d q (h q g)
end Go.GxZ
namespace Go.AmZ
open Go Go.GxZ
theorem QI{t:T}(h:qV t=0):size t<=400:=by
 unfold qV at h;split at h
 .rename_i a;exact absurd h a
 .split at h
  .cases h
  .omega
theorem qsa{t:T}:qcG t=true↔t.kind=3/\(t.name=qf8\/t.name=Jh\/t.name=qje):=by
 unfold qcG;simp only[wb,wS,beq_iff_eq];constructor
 .rintro⟨h,(a|a)|a⟩
  .exact⟨h,.inl a⟩
  .exact⟨h,.inr (.inl a)⟩
  .exact⟨h,.inr (.inr a)⟩
 .rintro⟨h,a|a|a⟩
  .exact⟨h,.inl (.inl a)⟩
  .exact⟨h,.inl (.inr a)⟩
  .exact⟨h,.inr a⟩
theorem qEZ(t:T):∀(l:List Pw) (n:Int),szP (jt t l n)<=szP l+size t:=by
 refine T.ind (P:=λ t=>∀(l:List Pw) (n:Int),szP (jt t l n)<=szP l+size t) ?_ t;intro t d l n;rw[qgf];have i:=zb t;split
 .have:∀(a:List T),(∀k∈a,k∈t.kids)->∀l,szP ((a.map jt).foldl (λ l f=>f l (qaZ t n)) l)<=szP l+(a.map size).sum:=by
    intro a
    induction a with
    |nil=>intro _ l;simp
    |cons k a b=>
      intro c l;have j:=d k (c k (wi ..)) l (qaZ t n);have g:=b (λ k e=>c k (wg _ e)) (jt k l (qaZ t n));simp only[wv,kh,kK]at g |-
      omega
  have:=this t.kids (λ _ h=>h) l;omega
 .exact qEq l t n
def qfa(ks:List T)(a:Int)(l:List Pw)(i:Nat):List Pw:=((ks.take i).map jt).foldl (λ l f=>f l a) l
theorem qzb{ks:List T}{i:Nat}{x:T}(h:ks[i]?=some x)(a:Int)(l:List Pw):qfa ks a l (i+1)=jt x (qfa ks a l i) a:=by
 unfold qfa;rw[kE,h,wU,xG];rfl
theorem qoO(a:Int)(b:a≠0):∀(ks:List T) (l:List Pw),JM l->JM ((ks.map jt).foldl (λ l f=>f l a) l)/\szP ((ks.map jt).foldl (λ l f=>f l a) l)<=szP l+szL ks/\
  QS ((ks.map jt).foldl (λ l f=>f l a) l)<=QS l+szL ks*a.natAbs/\((ks.map jt).foldl (λ l f=>f l a) l).length<=l.length+szL ks
 |[],l,h=>⟨h,by simp,by simp,by simp⟩
 |k::ks,l,h=>by
   let⟨c,g,e,d⟩:=qoO a b ks (jt k l a) (qIs k l a b h);have m:=qEZ k l a;let⟨j,i⟩:=qL5 k l a;rw[wv,kh,qR,wO];exact⟨c,by omega,by omega,by omega⟩
def qk9(t:T)(l:List Pw)(n:Int):Unit×List Pw×Bool×Unit:=((),if arT t then jt t l n else[],arT t,())
theorem qG6(t:T):∀(l:List Pw) (n:Int),n≠0->JM l->szP l+size t<=80000->QS l+size t*n.natAbs<=100000000000->Ev (λ m _=>zr m l t n) (qk9 t l n):=by
 induction t using T.ind with
 |h t K=>
   intro l n H I R J;have S:=yJ t;have Q:=zb t;have M:=qcy l;refine waI ?_;simp only[qqO,qa4,qk];refine waA (qEV t) (waB (λ h=>?_) λ h=>?_)
   .rw[bnt]at h;have s:n.natAbs<=size t*n.natAbs:=vJ _ (size_pos t);refine waA (qu2 I.1 t n (by omega) (by omega) (by omega)) (waE ?_);unfold qk9;rw[qwd,qgf,h];rfl
   rw[bnf]at h;let⟨Y,j⟩:=qsa.1 h;have o:arT t=(arK t&&(t.kids.map arT).all id):=by rw[qwd,h];rfl
   have g:∀e:Int,e≠0->e.natAbs=n.natAbs->qaZ t n=e->arK t=true->Ev (λ m _=>jm m (zr m) m e t.kids t.kids.length 0 l) (qk9 t l n):=by
    intro e q F A d;have u:jt t l n=qfa t.kids e l t.kids.length:=by rw[qgf,h,if_pos rfl,A];unfold qfa;rw[wG]
    have z:=qw (P:=λ i=>(∀k∈t.kids.take i,arT k=true)->Ev (λ m k=>jm m (zr m) k e t.kids t.kids.length i (qfa t.kids e l i)) (qk9 t l n)) t.kids (by omega)
     (λ E y=>by
      refine waH ?_;simp only[qhI,qba];refine waG E (waE ?_);unfold qk9
      have:arT t=true:=by
       rw[o,d,ke,wo];intro b J;obtain⟨k,C,rfl⟩:=wA.1 J;rw[wG]at y;exact y k C
      rw[this,if_pos rfl,u])
     (λ i x w U E D N G y=>by
      refine waH ?_;simp only[qhI,qba,qk];have B:=wc w;have Z:=jD t x B;let⟨O,f2,f3,f4⟩:=qoO e q (t.kids.take i) l I;have X:=Qx w;have W:szL t.kids+1=size t:=by unfold szL;omega
      have V:szL (t.kids.take i)*e.natAbs+size x*e.natAbs<=size t*n.natAbs:=by
       rw[<-wO,F];exact wu _ (by omega)
      refine waF E (waC D (waA (K x B (qfa t.kids e l i) e q O (by unfold qfa;omega) (by unfold qfa;omega)) (waB (λ c=>?_) λ c=>?_)))
      .rw[bnt]at c;have c:arT x=false:=c;refine waE ?_;unfold qk9
       have:arT t=false:=by
        rw[o,d,ke,<-kD,wo];intro v;have:=v (arT x) (k8 B);rw[c]at this;cases this
       rw[this];rfl
      .rw[bnf]at c;have c:arT x=true:=c
       have G:=G λ k f=>by
        rw[kE,w]at f;obtain f|f:=wk.1 f
        .exact y k f
        .rw[show k=x from by simpa using f];exact c
       rw[N];refine G.congr λ m k=>?_;unfold qk9;rw[qzb w,c];rfl)
    refine waJ (L:=λ m k=>jm m (zr m) k e t.kids t.kids.length 0 l) ?_;exact(z 0 (we _)) (λ k d=>by rw[xN]at d;cases d)
   have p:arK t=false->Ev (λ _ _=>some ((),[],false,())) (qk9 t l n):=λ d=>by
    refine waE ?_;unfold qk9;rw[o,d];rfl
   have r:iw .i64 (Qo 0 n)=-n:=by
    have s:n.natAbs<=size t*n.natAbs:=vJ _ (size_pos t);unfold Qo;rw[Jo (by omega)];omega
   obtain a|a|a:=j
   .refine waG (by rw[a];rfl) (waG (by rw[a];rfl) (waF (by rw[a];rfl) (waB (λ d=>?_) λ d=>?_)))
    .rw[qz]at d;exact p (by unfold arK;rw[a,decide_eq_true (show t.kids.length<2 by omega)];rfl)
    .rw[qB]at d;exact waG (by rw[a];rfl) (g n H rfl (by unfold qaZ;rw[a];rfl) (by unfold arK;rw[a,decide_eq_false (show ¬ t.kids.length<2 by omega)];rfl))
   .refine waG (by rw[a];rfl) (waF (by rw[a];rfl) (waB (λ d=>?_) λ d=>?_))
    .rw[bnt,qi]at d;exact p (by unfold arK;rw[a,show(t.kids.length != 1)=true from by rw[bne_iff_ne];omega];rfl)
    .rw[bnf,ql]at d;rw[r];exact waG (by rw[a];rfl) (waF (by rw[a];rfl) (g (-n) (by omega) (by omega) (by unfold qaZ;rw[if_pos a]) (by unfold arK;rw[a,show(t.kids.length != 1)=false from by rw[bne_eq_false_iff_eq];omega];rfl)))
   .refine waF (by rw[a];rfl) (waB (λ d=>?_) λ d=>?_)
    .rw[bnt,qi]at d;exact p (by unfold arK;rw[a,show(t.kids.length != 0)=true from by rw[bne_iff_ne];omega];rfl)
    .rw[bnf,ql]at d;exact waG (by rw[a];rfl) (waG (by rw[a];rfl) (waG (by rw[a];rfl) (g n H rfl (by unfold qaZ;rw[a];rfl) (by unfold arK;rw[a,show(t.kids.length != 0)=false from by rw[bne_eq_false_iff_eq];omega];rfl))))
theorem qCA(t:T)(c:size t<=1000000000):Ev (λ m _=>qbK m t) (ofP t):=by
 refine waI ?_;simp only[qzR,qhP,qk];unfold ofP;refine waA (qet t c) (waB (λ h=>?_) λ h=>?_)
 .rw[bnt,qi]at h;rw[if_pos h];exact waD _
 .rw[bnf,ql]at h;have d:=QI h;rw[if_neg (by omega)];refine waA (qG6 t [] 1 (by decide) JM.nil (by show 0+_<=_;omega) (by show 0+size t*1<=_;omega)) (waB (λ a=>?_) λ a=>?_)
  .rw[bnt]at a;have a:arT t=false:=a;rw[if_pos a];exact waD _
  .rw[bnf]at a;have a:arT t=true:=a;rw[if_neg (by rw[a];decide)];have e:(qk9 t [] 1).2.1=jt t [] 1:=by unfold qk9;rw[a];rfl
   rw[e];refine waB (λ b=>?_) λ b=>?_
   .rw[qz]at b;rw[if_pos (by omega)];exact waD _
   .rw[qB]at b;rw[if_neg (by omega)];exact waD _
def qdx(l:List Pw)(i:Nat):Option T:=if i=0 then none else(l[i-1]?).map (·.1)
theorem qj7{l:List Pw}{i:Nat}{p:Pw}(h:l[i]?=some p):qdx l (i+1)=some p.1:=by
 unfold qdx;rw[if_neg (by omega),vZ,h];rfl
theorem qqI(l:List Pw)(E:szP l<=1000000000):Ev (λ m _=>qaB m l) (Jn l):=by
 have F:=qcy l;refine waI ?_;simp only[qtR,qbW];unfold Jn;refine waB (λ h=>?_) λ h=>?_
 .rw[qz]at h;rw[if_pos (by omega)];exact waD _
 rw[qB]at h;rw[if_neg (by omega)]
 have s:=qw (P:=λ i=>Ev (λ m k=>jO m k l l l.length i) (pvL (qdx l i) (l.drop i))) l (by omega)
  (λ z=>by
   refine waH ?_;simp only[qjr,qbZ];refine waG z (waE ?_);rw[wX];rfl)
  (λ i x u D z C B A=>by
   refine waH ?_;simp only[qjr,qbZ,qk];have H:=qeS (wc u);rw[qj7 u]at A;rw[D,pvL];have c:=qDI (qdx l i) x
   have b:∀e:Int,pvK (qdx l i) x=e->e≠0->Ev (λ _ _=>some e) (thn (pvK (qdx l i) x) (pvL (some x.1) (l.drop (i+1)))):=λ e y r=>by
    rw[y];exact waE (by unfold thn;rw[if_neg r])
   have d:pvK (qdx l i) x=0->Ev (λ m k=>jO m k l l l.length ((i+1:Nat):Int)) (thn (pvK (qdx l i) x) (pvL (some x.1) (l.drop (i+1)))):=λ y=>by
    rw[y];exact A.res (by unfold thn;rw[if_pos rfl])
   refine waF z (waC C (waA (qet x.1 (by omega)) (waB (λ p=>?_) λ p=>?_)))
   .rw[bnt,qi]at p;exact b _ (by rw[c,if_pos p]) p
   rw[bnf,ql]at p;rw[if_neg (by omega)]at c;refine waA (qEV x.1) (waB (λ o=>?_) λ o=>?_)
   .exact b 1 (by rw[c,if_pos o]) (by decide)
   rw[if_neg (by rw[o];decide)]at c;refine waB (λ t=>?_) λ t=>?_
   .rw[ql]at t;exact b 7 (by rw[c,if_pos (by omega)]) (by decide)
   rw[qi]at t;refine waB (λ n=>?_) λ n=>?_
   .rw[qz]at n;exact b 7 (by rw[c,if_pos (by omega)]) (by decide)
   rw[qB]at n;refine waB (λ g=>?_) λ g=>?_
   .rw[qz]at g;exact b 7 (by rw[c,if_pos (by omega)]) (by decide)
   rw[qB]at g;rw[if_neg (by omega)]at c;rw[B];refine waB (λ r=>?_) λ r=>?_
   .rw[qz]at r;obtain⟨j,rfl⟩:∃j,i=j+1:=⟨i-1,by omega⟩
    have w:j<l.length:=by have:=(List.getElem?_eq_some_iff.1 u).1;omega
    obtain⟨q,v⟩:∃q,l[j]?=some q:=⟨_,List.getElem?_eq_getElem w⟩
    have G:=qeS (wc v);rw[qj7 v]at c b d |-
    simp only at c;refine waC (a:=q) (by rw[show Qo ((j+1:Nat):Int) 1=((j:Nat):Int)from by unfold Qo;omega,Jo (by omega),Qe,v]) (waA (qdp q.1 (by omega) x.1 (by omega)) (waB (λ f=>?_) λ f=>?_))
    .rw[qjM]at f;exact b 5 (by rw[c,if_pos f]) (by decide)
    .rw[qlM]at f;exact d (by rw[c,if_neg (by omega)])
   .rw[qB]at r;have:i=0:=by omega
    subst this;exact d (by rw[c];rfl))
 refine waJ (L:=λ m k=>jO m k l l l.length 0) ?_;exact s 0 (we _)
end Go.AmZ
namespace Go.AmZ
open Go Go.GxZ
theorem ya{α:Type}{l:List α}{i:Nat}{x:α}(h:l[i]?=some x):l.take (i+1)=l.take i++[x]:=by rw[kE,h];rfl
theorem qtI(a b:List Pw):yi (a++b)=yi a++yi b:=by unfold yi;rw[List.flatMap_append]
theorem qtA(a b:List Pw):yn (a++b)=yn a++yn b:=by unfold yn;rw[List.flatMap_append]
theorem qt7(p:Pw):yi [p]=List.replicate p.2.toNat p.1:=by unfold yi;simp
theorem quc(p:Pw):yn [p]=List.replicate (-p.2).toNat (apT Jh [p.1]):=by unfold yn;simp
theorem qFm(n:Nat)(x:T):szL (List.replicate n x)=n*size x:=by
 induction n with
 |zero=>simp[szL]
 |succ n a=>rw[List.replicate_succ,qR,a,wO];omega
theorem qAQ(t:T):size (apT Jh [t])=1+size t:=by rw[zb];show 1+(size t+0)=_;omega
theorem qn9{P:Nat->Prop}(N:Int)(g:N<=1000000)(b:P N.toNat)(a:∀j:Nat,(j:Int)<N->iw .i64 (qj (j:Int) 1)=((j+1:Nat):Int)->P (j+1)->P j):∀j:Nat,j<=N.toNat->P j:=by
 intro j e;obtain⟨d,f⟩:∃d,N.toNat=j+d:=⟨N.toNat-j,by omega⟩
 induction d generalizing j with
 |zero=>
   have:j=N.toNat:=by omega
   subst this;exact b
 |succ d c=>
   refine a j (by omega) ?_ (c (j+1) (by omega) (by omega));unfold qj;rw[Jo (by omega)];omega
theorem qNu{l:List Pw}{p:Pw}(a:p∈l)(h:8<p.2):8<(yi l++yn l).length:=by
 have:(List.replicate p.2.toNat p.1).length<=(yi l).length:=wD (vf (k8 (f:=λ p:Pw=>List.replicate p.2.toNat p.1) a)).length_le (by unfold yi;rw[wae];exact wa _);rw[kG]at this;rw[wd];omega
theorem qMQ{l:List Pw}{p:Pw}(a:p∈l)(h:p.2 < -8):8<(yi l++yn l).length:=by
 have:(List.replicate (-p.2).toNat (apT Jh [p.1])).length<=(yn l).length:=wD (vf (k8 (f:=λ p:Pw=>List.replicate (-p.2).toNat (apT Jh [p.1])) a)).length_le (by unfold yn;rw[wae];exact wa _);rw[kG]at this;rw[wd];omega
theorem qFL(o:List T):size (JY o)<=1+szL o:=by
 unfold JY;split
 .rw[zb];show 1+0<=_;omega
 .split
  .rename_i _ a
   have:o.getD 0 zT∈o:=by
    cases o with
    |nil=>cases a
    |cons x r=>exact wi ..
   have:=qcz this;omega
  .rw[zb];exact wa _
theorem qrG{l:List Pw}(a:∀p∈l,size p.1<=400):∀(ks:List Pw),(∀p∈ks,p∈l/\-8<=p.2/\p.2<=8)->(yi ks).length<=8*ks.length/\(yn ks).length<=8*ks.length/\szL (yi ks)<=3200*ks.length/\szL (yn ks)<=3208*ks.length
 |[],_=>⟨wa _,wa _,wa _,wa _⟩
 |p::ks,h=>by
   let⟨m,k,j,i⟩:=qrG a ks λ q b=>h q (wg _ b);let⟨d,o,n⟩:=h p (wi ..);have c:=a p d;have e1:yi (p::ks)=List.replicate p.2.toNat p.1++yi ks:=by rw[show p::ks=[p]++ks from rfl,qtI,qt7]
   have e:yn (p::ks)=List.replicate (-p.2).toNat (apT Jh [p.1])++yn ks:=by rw[show p::ks=[p]++ks from rfl,qtA,quc]
   have g:p.2.toNat*size p.1<=8*400:=vV (by omega) c;have f:(-p.2).toNat*(1+size p.1)<=8*401:=vV (by omega) (by omega);rw[e1,e,qh1,qh1,qFm,qFm,qAQ];simp only[wd,kG,wx];refine⟨by omega,by omega,by omega,by omega⟩
def qne(o:List T):T×Int:=if 8<o.length then(zT,3)else if qV (JY o)≠0 then(zT,qV (JY o))else(JY o,0)
theorem qqr{l:List Pw}(h:Jn l=0):qa8 l=qne (yi l++yn l):=by
 unfold qa8 qne;rw[if_neg (by omega)]
theorem qCW(l:List Pw)(Q:szP l<=1000000000):Ev (λ m _=>Je m l) (qa8 l):=by
 refine waI ?_;simp only[quO,qc7];refine waA (qqI l Q) (waB (λ h=>?_) λ h=>?_)
 .rw[bnt,qi]at h;unfold qa8;rw[if_pos h];exact waD _
 rw[bnf,ql]at h;let⟨_,H,Y,X⟩:=qbx h;have c:∀p∈l,size p.1<=400:=λ p A=>QI (X p A).1;rw[qqr h]
 have D:=qw (P:=λ i=>(∀p∈l.take i,p∈l/\-8<=p.2/\p.2<=8)->Ev (λ m k=>(qy m k).1 l l.length i 0 [] 0 [] (yi (l.take i)) (yn (l.take i))) (qne (yi l++yn l))) l (by omega)
  (λ F t=>by
   refine waH ?_;simp only[qkB,qcM,qk];rw[wG]at t |-
   let⟨b1,b2,b3,Z⟩:=qrG c l t;refine waG F (waA (quM (yi l) (yn l) (by omega)) ?_);have ho:szL (yi l++yn l)<=10000000:=by rw[qh1];omega
   generalize yi l++yn l=o at *;have S:=jK o;have R:=qFL o;unfold qne;refine waB (λ b=>?_) λ b=>?_
   .rw[qz]at b;rw[if_pos (by omega)];exact waD _
   rw[qB]at b;rw[if_neg (by omega)]
   have f:∀u:T,u=JY o->Ev (λ m _=>qb (zh m u) λ v=>cond (qh (ieq v 0)) (some (T.mk 0 [] 0 [],v)) (some (u,0))) (if qV (JY o)≠0 then(zT,qV (JY o))else(JY o,0)):=by
    intro u N;subst N;refine waA (qet _ (by omega)) (waB (λ h=>?_) λ h=>?_)
    .rw[bnt,qi]at h;rw[if_pos h];exact waD _
    .rw[bnf,ql]at h;rw[if_neg (by omega)];exact waD _
   have y:∀(n:List UInt8) (x:List T),Ev (λ m _=>qdW m n x) (apT n x):=λ n x=>waI (waD _);refine waA (y [109,117,108] o) (waB (λ G=>?_) λ G=>?_)
   .rw[ql]at G;exact waA (y [111,110,101] []) (f _ (by unfold JY;rw[if_pos (by omega)];rfl))
   .rw[qi]at G;refine waB (λ C=>?_) λ C=>?_
    .rw[ql]at C;refine waC (a:=o.getD 0 zT) ?_ (f _ (by unfold JY;rw[if_neg (by omega),if_pos (by omega)]));rw[JT,List.getD_eq_getElem?_getD];cases o with
     |nil=>simp at C
     |cons x r=>rfl
    .rw[qi]at C;exact f _ (by unfold JY;rw[if_neg (by omega),if_neg (by omega)];rfl))
  (λ i p z hd F W V B t=>by
   refine waH ?_;simp only[qkB,qcM];have s:=wc z;have hn:=Y p s;have hz:=c p s;have U:=(List.getElem?_eq_some_iff.1 z).1;refine waF F (waC W (waB (λ b=>?_) λ b=>?_))
   .rw[qz]at b;unfold qne;rw[if_pos (qNu s b)];exact waD _
   rw[qB]at b;refine waB (λ w=>?_) λ w=>?_
   .rw[qz]at w;unfold qne;rw[if_pos (qMQ s w)];exact waD _
   rw[qB]at w;let⟨b1,b2,b3,Z⟩:=qrG c _ t;have O:(l.take i).length<=200:=by rw[wm];omega
   have B:=B λ q g=>by
    rw[ya z]at g;obtain g|g:=wk.1 g
    .exact t q g
    .rw[show q=p from by simpa using g];exact⟨s,w,b⟩
   rw[ya z,qtI,qtA,qt7,quc]at B;generalize yi (l.take i)=I at *;generalize yn (l.take i)=J at*
   have K:=qn9 (P:=λ j=>Ev (λ m k=>(qy m k).2.2 l l.length i (-p.2) j 0 [] 0 p.1.kind p.1.name p.1.sort p.1.kids p.2 [] (I++List.replicate p.2.toNat p.1) (J++List.replicate j (apT Jh [p.1]))) (qne (yi l++yn l))) (-p.2) (by omega)
    (by
     refine waH ?_;simp only[qkU,qcT];refine waG (qB.2 (by omega)) ?_;rw[V];exact B)
    (λ j E d e=>by
     refine waH ?_;simp only[qkU,qcT,qk];rw[show T.mk p.1.kind p.1.name p.1.sort p.1.kids=p.1 from qk p.1,d];refine waF (qz.2 E) (waA (qmx p.1 (by omega)) (waA (a:=apT Jh [p.1]) (waI (waD _)) (waF (zj (by rw[wd,kG];omega) (by omega)) ?_)));refine e.congr λ m k=>?_;rw[vm,wj])
   have M:=qn9 (P:=λ j=>Ev (λ m k=>(qy m k).2.1 l l.length i p.2 j 0 [] 0 p.1.kind p.1.name p.1.sort p.1.kids p.2 [] (I++List.replicate j p.1) J) (qne (yi l++yn l))) p.2 (by omega)
    (by
     refine waH ?_;simp only[qkN,qcJ];refine waG (qB.2 (by omega)) ?_;rw[show iw .i64 (Qo 0 p.2)=-p.2 from by unfold Qo;rw[Jo (by omega)];omega];have:=K 0 (we _);rw[vu,wy]at this;exact this)
    (λ j E d e=>by
     refine waH ?_;simp only[qkN,qcJ,qk];rw[show T.mk p.1.kind p.1.name p.1.sort p.1.kids=p.1 from qk p.1,d];refine waF (qz.2 E) (waA (qmx p.1 (by omega)) (waF (zj (by rw[wd,kG];omega) (by omega)) ?_));refine e.congr λ m k=>?_;rw[vm,wj])
   have:=M 0 (we _);rw[vu,wy]at this;exact this)
 refine waJ (L:=λ m k=>(qy m k).1 l l.length 0 0 [] 0 [] [] []) ?_;exact(D 0 (we _)) (λ p A=>by rw[xN]at A;cases A)
theorem qNc(l:List Pw)(g:szP l<=100000000):Ev (λ m _=>qdI m l) ((),l,()):=by
 have h:=qcy l;refine waI ?_;simp only[qsF,qbt]
 have a:=qw (P:=λ i=>Ev (λ m k=>Qd m k l l.length i (l.take i)) ((),l,())) l (by omega)
  (λ b=>by
   refine waH ?_;simp only[qiT,qbz];refine waG b ?_;rw[wG];exact waD _)
  (λ i p c j b e d f=>by
   refine waH ?_;simp only[qiT,qbz,qk];have o:=qeS (wc c);have n:(l.take i).length<=l.length:=by rw[wm];omega
   refine waF b (waC e (waA (qmx p.1 (by omega)) (waF (zj (by omega) (by omega)) ?_)));rw[d];refine f.congr λ m k=>?_;rw[ya c])
 refine waJ (L:=λ m k=>Qd m k l l.length 0 []) ?_;exact a 0 (we _)
theorem qyV(p:Pw)(l:List Pw):qm6 (p::l)=((decide (p.2 < -1000)||decide (1000<p.2))||qm6 l):=rfl
theorem qM5(l:List Pw)(r:l.length<=1000000000):∃v,Ev (λ m _=>zV m l) v/\ile 0 v=qm6 l:=by
 have b:=qw (P:=λ i=>∃v,Ev (λ m k=>qA m k l l.length i) v/\ile 0 v=qm6 (l.drop i)) l (by omega)
  (λ a=>by
   refine⟨-1,waH ?_,by rw[wX];rfl⟩;simp only[yt,qZ];exact waG a (waD _))
  (λ i p q n a f j o=>by
   let⟨v,c,d⟩:=o;rw[n,qyV]
   have e:Ev (λ m _=>qb9 m (p.1,p.2)) (decide (p.2 < -1000)||decide (1000<p.2)):=by
    refine waI ?_;simp only[qp6,qcQ];refine waB (λ h=>?_) λ h=>?_
    .rw[qz]at h;exact waE (by rw[decide_eq_true h];rfl)
    .rw[qB]at h;exact waE (by rw[decide_eq_false (show ¬ p.2 < -1000 by omega)];rfl)
   cases g:decide (p.2 < -1000)||decide (1000<p.2)with
   |true=>
     refine⟨i,waH ?_,by rw[xw,qjM];omega⟩;simp only[yt,qZ,qk];exact waF a (waC f (waA e (waF g (waD _))))
   |false=>
     refine⟨v,waH ?_,by rw[xV];exact d⟩;simp only[yt,qZ,qk];refine waF a (waC f (waA e (waG g ?_)));rw[j];exact c)
 let⟨v,c,d⟩:=b 0 (we _);refine⟨v,waI ?_,by rw[d,wP]⟩;simp only[qbH,zG];exact waJ (L:=λ m k=>qA m k l l.length 0) c
def qog(l:List Pw):List Pw×Int:=if qm6 l then([],7)else if 200<l.length then([],3)else(l,0)
theorem qMs(l:List Pw)(c:l.length<=1000000000):Ev (λ m _=>qdC m l) (qog l):=by
 let⟨v,b,d⟩:=qM5 l c;refine waI ?_;simp only[qsE,qeg]
 have e:Ev (λ m _=>zH m l) (qm6 l):=by
  refine waI ?_;simp only[qaY,yg];exact waA b (waE d)
 unfold qog;refine waA e (waB (λ h=>?_) λ h=>?_)
 .rw[if_pos h];exact waD _
 .rw[if_neg (by rw[h];decide)];refine waB (λ a=>?_) λ a=>?_
  .rw[qz]at a;rw[if_pos (by omega)];exact waD _
  .rw[qB]at a;rw[if_neg (by omega)];exact waD _
theorem qHK(S:Nat):∀l:List Pw,(∀p∈l,size p.1<=S)->szP l<=l.length*S
 |[],_=>by simp[szP]
 |p::l,h=>by
   have c:=qHK S l λ q a=>h q (wg _ a);have b:=h p (wi ..);rw[qa1,wx,wO];omega
theorem qvg(a b:List Pw):qls a b=if Jn a≠0 then([],Jn a)else if Jn b≠0 then([],Jn b)else qog (Q0 a b):=rfl
theorem qhp{a b:List Pw}(f:Jn a=0)(e:Jn b=0)(j:Nat):
  JM (Q0 a (b.take j))/\(Q0 a (b.take j)).length<=400/\szP (Q0 a (b.take j))<=160000/\QS (Q0 a (b.take j))<=400000:=by
 let⟨s,k,m,i⟩:=qbx f;let⟨r,v,l,h⟩:=qbx e;have d:∀p∈b.take j,p∈b:=λ p c=>wT c;let⟨A,g,z,q⟩:=qG3 f e 400 (λ p c=>QI (i p c).1) (λ p c=>QI (h p c).1) j;have o:=qHK 400 _ q;let⟨y,_⟩:=qtt (b.take j) a;have x:=qnT 1000 a m;have w:=qnT 1000 (b.take j) λ p c=>l p (d p c);have n:(b.take j).length<=200:=by rw[wm];omega
 refine⟨qql _ _ s λ p c=>r.2 p (d p c),g,wD o (wu 400 g),?_⟩;have u:a.length*1000<=200*1000:=wu _ k;have t:(b.take j).length*1000<=200*1000:=wu _ n;omega
theorem qMX(a b:List Pw)(s:szP a<=100000000)(y:szP b<=100000000):Ev (λ m _=>qhk m a b) (qls a b):=by
 have w:=qcy b;refine waI ?_;simp only[qx3,qdG];rw[qvg];refine waA (qqI a (by omega)) (waB (λ h=>?_) λ h=>?_)
 .rw[bnt,qi]at h;rw[if_pos h];exact waD _
 rw[bnf,ql]at h;rw[if_neg (by omega)];refine waA (qqI b (by omega)) (waB (λ c=>?_) λ c=>?_)
 .rw[bnt,qi]at c;rw[if_pos c];exact waD _
 rw[bnf,ql]at c;rw[if_neg (by omega)];refine waA (qNc a s) ?_
 have d:=qw (P:=λ i=>Ev (λ m k=>Jr m k b b.length i (Q0 a (b.take i))) (qog (Q0 a b))) b (by omega)
  (λ e=>by
   refine waH ?_;simp only[qmG,qdK];rw[wG];let⟨_,j,_,_⟩:=qhp h c b.length;rw[wG]at j;exact waG e (waA (qMs _ (by omega)) (waD _)))
  (λ i p f x e r q t=>by
   refine waH ?_;simp only[qmG,qdK,qk];have g:=wc f;let⟨u,j,A,z⟩:=qhp h c i;let⟨_,_,o,l⟩:=qbx c;have v:=QI (l p g).1;have n:=o p g;refine waF e (waC r (waA (qu2 u.1 p.1 p.2 (by omega) (by omega) (by omega)) ?_));rw[q];refine t.congr λ m k=>?_;rw[ya f,qzA])
 refine waJ (L:=λ m k=>Jr m k b b.length 0 a) ?_;exact d 0 (we _)
end Go.AmZ
namespace Go.AmZ
open Go Go.GxZ
theorem qDn(t:T):Ev (λ m _=>qbo m t) (qcG t):=by
 refine waI ?_;simp only[qu5,qgb];unfold qcG;by_cases a:t.kind=3
 .refine waF (ql.2 a) (waB (λ h=>?_) λ h=>(waB (λ b=>?_) λ b=>?_))
  .rw[yT]at h;exact waE (by rw[a,h];rfl)
  .rw[yT]at b;exact waE (by rw[a,b];rfl)
  .rw[j8]at h b
   exact waE (by
    have d:(t.name==qf8)=false:=by rw[beq_eq_false_iff_ne];exact h
    have c:(t.name==Jh)=false:=by rw[beq_eq_false_iff_ne];exact b
    rw[a,d,c];rfl)
 .exact waG (qi.2 a) (waE (by have:(t.kind==3)=false:=by rw[beq_eq_false_iff_ne];exact a
                              rw[this];rfl))
theorem qH5(t:T):size t<=1000000000->Ev (λ m _=>jk m t) (arT t):=by
 induction t using T.ind with
 |h t o=>
   intro v;have w:=yJ t;refine waI ?_;simp only[qAj,qeV,qk];refine waA (qDn t) (waB (λ h=>?_) λ h=>?_)
   .rw[bnt]at h;exact waE (by rw[qwd,h];rfl)
   rw[bnf]at h;let⟨y,d⟩:=qsa.1 h;have g:arT t=(arK t&&(t.kids.map arT).all id):=by rw[qwd,h];rfl
   have c:arK t=true->Ev (λ m _=>Jc m (jk m) m t.kids.length 0 t.kind t.name t.sort t.kids) (arT t):=by
    intro b;rw[g,b,ke]
    have j:=qw (P:=λ i=>Ev (λ m k=>Jc m (jk m) k t.kids.length i t.kind t.name t.sort t.kids) (((t.kids.drop i).map arT).all id)) t.kids (by omega)
     (λ l=>by
      refine waH ?_;simp only[qnN,qeX];refine waG l (waE ?_);rw[wX];rfl)
     (λ i x p s l r q u=>by
      refine waH ?_;simp only[qnN,qeX,qk];have n:=wc p;have z:=jD t x n;rw[s,wv,km];refine waF l (waC r (waA (o x n (by omega)) (waB (λ f=>?_) λ f=>?_)))
      .rw[bnt]at f;rw[f];exact waD _
      .rw[bnf]at f;rw[f,q];exact u)
    refine waJ (L:=λ m k=>Jc m (jk m) k t.kids.length 0 t.kind t.name t.sort t.kids) ?_;exact(j 0 (we _)).res (by rw[wP])
   have e:arK t=false->Ev (λ _ _=>some false) (arT t):=λ b=>waE (by rw[g,b];rfl);obtain a|a|a:=d
   .refine waF (by rw[a];rfl) (waB (λ b=>?_) λ b=>?_)
    .rw[qz]at b;exact e (by unfold arK;rw[a,decide_eq_true (show t.kids.length<2 by omega)];rfl)
    .rw[qB]at b;exact waG (by rw[a];rfl) (waG (by rw[a];rfl) (c (by unfold arK;rw[a,decide_eq_false (show ¬ t.kids.length<2 by omega)];rfl)))
   .refine waG (by rw[a];rfl) (waF (by rw[a];rfl) (waB (λ b=>?_) λ b=>?_))
    .rw[bnt,qi]at b;exact e (by unfold arK;rw[a,show(t.kids.length != 1)=true from by rw[bne_iff_ne];omega];rfl)
    .rw[bnf,ql]at b;exact waG (by rw[a];rfl) (c (by unfold arK;rw[a,show(t.kids.length != 1)=false from by rw[bne_eq_false_iff_eq];omega];rfl))
   .refine waG (by rw[a];rfl) (waG (by rw[a];rfl) (waF (by rw[a];rfl) (waB (λ b=>?_) λ b=>?_)))
    .rw[bnt,qi]at b;exact e (by unfold arK;rw[a,show(t.kids.length != 0)=true from by rw[bne_iff_ne];omega];rfl)
    .rw[bnf,ql]at b;exact c (by unfold arK;rw[a,show(t.kids.length != 0)=false from by rw[bne_eq_false_iff_eq];omega];rfl)
theorem qyW(t:T)(n:Int):∀(l:List Pw) (s:List Pw×Bool),(l.foldl (yU t n) s).1.length<=s.1.length+2*l.length
 |[],s=>by simp
 |x::l,s=>by
   have h:=qyW t n l (yU t n s x)
   have:(yU t n s x).1.length<=s.1.length+2:=by
    unfold yU;simp only[wd];have a:(if s.2=false/\qs t x.1<0 then s.1++[(t,n)]else s.1).length<=s.1.length+1:=by split<;>simp
    have b:(if(if qs t x.1=0 then x.2+n else x.2)=0 then([]:List Pw)else[(x.1,if qs t x.1=0 then x.2+n else x.2)]).length<=1:=by generalize (if qs t x.1=0 then x.2+n else x.2)=z;split<;>simp
    omega
   rw[kh,wx];omega
theorem qED{l:List Pw}(y:JM l)(t:T)(n:Int)(E:szP l+size t<=1000000000)(F:QS l+n.natAbs<=1000000000000):Ev (λ m _=>qiP m l t n) ((),yC l t n,()):=by
 have G:=qcy l;refine waI ?_;simp only[qD0,qg7]
 have j:∀i,((l.take i).foldl (yU t n) ([],false)).1.length<=2*l.length:=λ i=>by
  have:=qyW t n (l.take i) ([],false);have D:(l.take i).length<=l.length:=by rw[wm];omega
  simp only[w7]at this;omega
 have w:=qw (P:=λ i=>Ev (λ m k=>JK m k n ((l.take i).foldl (yU t n) ([],false)).2 i t.kind t.name t.sort t.kids l ((l.take i).foldl (yU t n) ([],false)).1) ((),yC l t n,())) l (by omega)
  (λ z=>by
   refine waH ?_;simp only[qqQ,qgQ];refine waG z ?_;have:=j l.length;have u:=qL6 y.2 y.1 t n;rw[wG]at this |-
   unfold qGd at u;refine waB (λ h=>?_) λ h=>?_
   .rw[bnt]at h;rw[if_neg (by rw[h];decide)]at u;rw[show T.mk t.kind t.name t.sort t.kids=t from qk t,u];exact waF (zj (by omega) (by omega)) (waD _)
   .rw[bnf]at h;rw[if_pos h]at u;rw[u];exact waD _)
  (λ i p A H z f B v=>by
   refine waH ?_;simp only[qqQ,qgQ,qk];have x:=wc A;have J:=qeS x;have D:=j i;have I:=qCP l p x;have d:=y.2 p x;rw[ya A,xG]at v;generalize (l.take i).foldl (yU t n) ([],false)=s at*
   have r:∀(b:Bool) (o:List Pw),yU t n s p=(o,b)->Ev (λ m k=>JK m k n b ((i+1:Nat):Int) t.kind t.name t.sort t.kids l o) ((),yC l t n,()):=λ b o e=>by
    have v:Ev (λ m k=>JK m k n (yU t n s p).2 ((i+1:Nat):Int) t.kind t.name t.sort t.kids l (yU t n s p).1) ((),yC l t n,()):=v;rw[e]at v;exact v
   have e1:iw .i64 (qj p.2 n)=p.2+n:=by unfold qj;exact Jo (by omega)
   rw[show T.mk t.kind t.name t.sort t.kids=t from qk t,B];have q:qh (ieq p.2 0)=true:=bnt.2 (qi.2 d);refine waF z (waC f (waA (qii t (by omega) p.1 (by omega)) (waB (λ h=>?_) λ h=>?_)))
   .rw[bnt]at h;refine waB (λ g=>?_) λ g=>?_
    .rw[qz]at g;refine waF (zj (by omega) (by omega)) (waC f (waG (qi.2 (by omega)) (waF q (waF (zj (by rw[wd];simp only[wx,w7];omega) (by omega)) (r _ _ ?_)))));unfold yU;rw[if_pos ⟨h,g⟩,if_neg (show ¬ qs t p.1=0 by omega),if_neg d,decide_eq_true (show qs t p.1<=0 by omega),xu]
    .rw[qB]at g;refine waC f (waB (λ a=>?_) λ a=>?_)
     .rw[ql]at a;refine waB (λ c=>?_) λ c=>?_
      .rw[bnt,qi,e1]at c;refine waF (zj (by omega) (by omega)) (r _ _ ?_);rw[e1];unfold yU;rw[if_neg (by omega),if_pos a,if_neg c,decide_eq_true (show qs t p.1<=0 by omega),xu]
      .rw[bnf,ql,e1]at c;refine r _ _ ?_;unfold yU;rw[if_neg (by omega),if_pos a,if_pos c,decide_eq_true (show qs t p.1<=0 by omega),xu,wy]
     .rw[qi]at a;refine waF q (waF (zj (by omega) (by omega)) (r _ _ ?_));unfold yU;rw[if_neg (by omega),if_neg a,if_neg d,decide_eq_false (show ¬ qs t p.1<=0 by omega),Bool.or_false]
   .rw[bnf]at h;refine waC f (waB (λ a=>?_) λ a=>?_)
    .rw[ql]at a;refine waB (λ c=>?_) λ c=>?_
     .rw[bnt,qi,e1]at c;refine waF (zj (by omega) (by omega)) (r _ _ ?_);rw[e1];unfold yU;rw[if_neg (by omega),if_pos a,if_neg c,decide_eq_true (show qs t p.1<=0 by omega),xu]
     .rw[bnf,ql,e1]at c;refine r _ _ ?_;unfold yU;rw[if_neg (by omega),if_pos a,if_pos c,decide_eq_true (show qs t p.1<=0 by omega),xu,wy]
    .rw[qi]at a;refine waF q (waF (zj (by omega) (by omega)) (r _ _ ?_));unfold yU;rw[if_neg (by rw[h];intro C;cases C.1),if_neg a,if_neg d,h,xw])
 refine waJ (L:=λ m k=>JK m k n false 0 t.kind t.name t.sort t.kids l []) ?_;exact w 0 (we _)
theorem qD1(t:T):∀(l:List Pw) (n:Int),n≠0->JM l->szP l+size t<=80000000->QS l+size t*n.natAbs<=100000000000->Ev (λ m _=>yl m l t n) ((),jt t l n,()):=by
 induction t using T.ind with
 |h t y=>
   intro l n z w E H;have F:=yJ t;have D:=zb t;refine waI ?_;simp only[qvH,qc0,qk];have u:n.natAbs<=size t*n.natAbs:=vJ _ (size_pos t);refine waA (qDn t) (waB (λ h=>?_) λ h=>?_)
   .rw[bnt]at h;refine waA (qED w t n (by omega) (by omega)) (waE ?_);rw[qgf,h];rfl
   rw[bnf]at h;let⟨M,p⟩:=qsa.1 h
   have b:∀a:Int,a≠0->a.natAbs=n.natAbs->qaZ t n=a->Ev (λ m _=>Qi m (yl m) m a 0 t.kind t.name t.sort t.kids l) ((),jt t l n,()):=by
    intro a c s o;have f:jt t l n=qfa t.kids a l t.kids.length:=by rw[qgf,h,if_pos rfl,o];unfold qfa;rw[wG]
    rw[f]
    have g:=qw (P:=λ i=>Ev (λ m k=>Qi m (yl m) k a i t.kind t.name t.sort t.kids (qfa t.kids a l i)) ((),qfa t.kids a l t.kids.length,())) t.kids (by omega)
     (λ r=>by
      refine waH ?_;simp only[qky,qcW];exact waG r (waD _))
     (λ i x j G r q A B=>by
      refine waH ?_;simp only[qky,qcW,qk];have v:=wc j;have N:=jD t x v;let⟨C,R,Q,O⟩:=qoO a c (t.kids.take i) l w;have K:=Qx j;have J:szL t.kids+1=size t:=by unfold szL;omega
      have I:szL (t.kids.take i)*a.natAbs+size x*a.natAbs<=size t*n.natAbs:=by
       rw[<-wO,s];exact wu _ (by omega)
      refine waF r (waC q (waA (y x v (qfa t.kids a l i) a c C (by unfold qfa;omega) (by unfold qfa;omega)) ?_));rw[A];refine B.congr λ m k=>?_;rw[qzb j])
    refine waJ (L:=λ m k=>Qi m (yl m) k a 0 t.kind t.name t.sort t.kids l) ?_;exact g 0 (we _)
   have d:iw .i64 (Qo 0 n)=-n:=by
    unfold Qo;rw[Jo (by omega)];omega
   refine waB (λ e=>?_) λ e=>?_
   .rw[yT]at e;rw[d];exact b (-n) (by omega) (by omega) (by unfold qaZ;rw[if_pos (show t.name=Jh from e)])
   .rw[j8]at e;exact b n z rfl (by unfold qaZ;rw[if_neg (show ¬ t.name=Jh from e)])
theorem qCj(t:T)(c:size t<=1000000000):Ev (λ m _=>qie m t) (ofP t):=by
 refine waI ?_;simp only[qGr,qmR,qk];unfold ofP;refine waA (qcF t c) (waB (λ h=>?_) λ h=>?_)
 .rw[bnt,qi]at h;rw[if_pos h];exact waD _
 .rw[bnf,ql]at h;have d:=QI h;rw[if_neg (by omega)];refine waA (qH5 t c) (waB (λ b=>?_) λ b=>?_)
  .rw[bnt]at b;rw[if_pos b];exact waD _
  .rw[bnf]at b;rw[if_neg (by rw[b];decide)];refine waA (qD1 t [] 1 (by decide) JM.nil (by show 0+_<=_;omega) (by show 0+size t*1<=_;omega)) (waB (λ a=>?_) λ a=>?_)
   .rw[qz]at a;have a:(200:Int)<((jt t [] 1).length:Int):=a;rw[if_pos (by omega)];exact waD _
   .rw[qB]at a;have a:((jt t [] 1).length:Int)<=200:=a;rw[if_neg (by omega)];exact waD _
theorem qtU(l:List Pw)(E:szP l<=1000000000):Ev (λ m _=>qdl m l) (Jn l):=by
 have F:=qcy l;refine waI ?_;simp only[qzH,qeP];unfold Jn;refine waB (λ h=>?_) λ h=>?_
 .rw[qz]at h;rw[if_pos (by omega)];exact waD _
 rw[qB]at h;rw[if_neg (by omega)]
 have t:=qw (P:=λ i=>Ev (λ m k=>Jd m k l i) (pvL (qdx l i) (l.drop i))) l (by omega)
  (λ A=>by
   refine waH ?_;simp only[qnz,qe2];refine waG A (waE ?_);rw[wX];rfl)
  (λ i x v D A p C B=>by
   refine waH ?_;simp only[qnz,qe2,qk];have H:=qeS (wc v);rw[qj7 v]at B;rw[D,pvL];have c:=qDI (qdx l i) x
   have b:∀e:Int,pvK (qdx l i) x=e->e≠0->Ev (λ _ _=>some e) (thn (pvK (qdx l i) x) (pvL (some x.1) (l.drop (i+1)))):=λ e z s=>by
    rw[z];exact waE (by unfold thn;rw[if_neg s])
   have d:pvK (qdx l i) x=0->Ev (λ m k=>Jd m k l ((i+1:Nat):Int)) (thn (pvK (qdx l i) x) (pvL (some x.1) (l.drop (i+1)))):=λ z=>by
    rw[z];exact B.res (by unfold thn;rw[if_pos rfl])
   refine waF A (waC p (waA (qcF x.1 (by omega)) (waB (λ r=>?_) λ r=>?_)))
   .rw[bnt,qi]at r;exact b _ (by rw[c,if_pos r]) r
   rw[bnf,ql]at r;rw[if_neg (by omega)]at c;refine waC p (waA (qDn x.1) (waB (λ o=>?_) λ o=>?_))
   .exact b 1 (by rw[c,if_pos o]) (by decide)
   rw[if_neg (by rw[o];decide)]at c;refine waC p (waB (λ u=>?_) λ u=>?_)
   .rw[ql]at u;exact b 7 (by rw[c,if_pos (by omega)]) (by decide)
   rw[qi]at u;refine waC p (waB (λ n=>?_) λ n=>?_)
   .rw[qz]at n;exact b 7 (by rw[c,if_pos (by omega)]) (by decide)
   rw[qB]at n;refine waC p (waB (λ g=>?_) λ g=>?_)
   .rw[qz]at g;exact b 7 (by rw[c,if_pos (by omega)]) (by decide)
   rw[qB]at g;rw[if_neg (by omega)]at c;rw[C];refine waB (λ s=>?_) λ s=>?_
   .rw[qz]at s;obtain⟨j,rfl⟩:∃j,i=j+1:=⟨i-1,by omega⟩
    have y:j<l.length:=by have:=(List.getElem?_eq_some_iff.1 v).1;omega
    obtain⟨q,w⟩:∃q,l[j]?=some q:=⟨_,List.getElem?_eq_getElem y⟩
    have G:=qeS (wc w);rw[qj7 w]at c b d |-
    simp only at c;refine waC (a:=q) (by rw[show Qo ((j+1:Nat):Int) 1=((j:Nat):Int)from by unfold Qo;omega,Jo (by omega),Qe,w]) (waC p (waA (qii q.1 (by omega) x.1 (by omega)) (waB (λ f=>?_) λ f=>?_)))
    .rw[qjM]at f;exact b 5 (by rw[c,if_pos f]) (by decide)
    .rw[qlM]at f;exact d (by rw[c,if_neg (by omega)])
   .rw[qB]at s;have:i=0:=by omega
    subst this;exact d (by rw[c];rfl))
 refine waJ (L:=λ m k=>Jd m k l 0) ?_;exact t 0 (we _)
end Go.AmZ
namespace Go.AmZ
open Go Go.GxZ
theorem qwQ(A:List T)(x:T)(h:(A.take 9).length<9):A.take 9++[x]=(A++[x]).take 9:=by
 rw[wm]at h;rw[kH (by omega),kH (by rw[wd];simp only[wx,w7];omega)]
theorem qu6(A B:List T)(h:¬ (A.take 9).length<9):A.take 9=(A++B).take 9:=by
 rw[wm]at h;rw[kL (by omega)]
theorem qLm(l:List Pw)(C:l.length<=1000)(u:∀p∈l,p.2.natAbs<=1000):Ev (λ m _=>qew m l) ((yi l++yn l).take 9):=by
 refine waI ?_;simp only[qto,qbY];have t:∀A:List T,(A.take 9).length<=9:=λ A=>by rw[wm];omega
 have w:=qw (P:=λ i=>Ev (λ m k=>(qm m k).2.2.1 l i ((yi l++yn (l.take i)).take 9)) ((yi l++yn l).take 9)) l (by omega)
  (λ g=>by
   refine waH ?_;simp only[qji,qb5];refine waG g ?_;rw[wG];exact waD _)
  (λ i p o z g e q n=>by
   refine waH ?_;simp only[qji,qb5];refine waF g ?_;have r:=u p (wc o);rw[ya o,qtA,quc,<-wj]at n;generalize yi l++yn (l.take i)=A at *;have b:iw .i64 (Qo 0 p.2)=-p.2:=by unfold Qo;rw[Jo (by omega)];omega
   have v:=qn9 (P:=λ j=>Ev (λ m k=>(qm m k).2.2.2 l i j ((A++List.replicate j (apT Jh [p.1])).take 9)) ((yi l++yn l).take 9)) (-p.2) (by omega)
    (by
     refine waH ?_;simp only[qjh,qb1,qk];refine waC e (waG (by rw[b,qB];omega) ?_);rw[q];exact n)
    (λ j s c a=>by
     refine waH ?_;simp only[qjh,qb1,qk];rw[vm,<-wj]at a;have B:=t (A++List.replicate j (apT Jh [p.1]));refine waC e (waF (by rw[b,qz];exact s) (waB (λ h=>?_) λ h=>?_))
     .rw[qz]at h;refine waC e (waA (qe4 [105,110,118] [p.1] (by simp)) (waF (zj (by omega) (by omega)) ?_));rw[c];refine a.congr λ m k=>?_;rw[<-qwQ _ _ (by omega)];rfl
     .rw[qB]at h;rw[q];refine n.congr λ m k=>?_;obtain⟨d,f⟩:∃d,(-p.2).toNat=j+d:=⟨(-p.2).toNat-j,by omega⟩
      rw[f,<-vP,<-wj,<-qu6 (A++List.replicate j (apT Jh [p.1])) _ (by omega)])
   have:=v 0 (we _);rw[vu,wy]at this;exact this)
 have y:=qw (P:=λ i=>Ev (λ m k=>(qm m k).1 l i ((yi (l.take i)).take 9)) ((yi l++yn l).take 9)) l (by omega)
  (λ g=>by
   refine waH ?_;simp only[qjv,qcd];refine waG g ?_;rw[wG];have:=w 0 (we _);rw[xN,show yn []=[]from rfl,wy]at this;exact this)
  (λ i p o z g e q n=>by
   refine waH ?_;simp only[qjv,qcd];refine waF g ?_;have r:=u p (wc o);rw[ya o,qtI,qt7]at n;generalize yi (l.take i)=A at*
   have x:=qn9 (P:=λ j=>Ev (λ m k=>(qm m k).2.1 l i j ((A++List.replicate j p.1).take 9)) ((yi l++yn l).take 9)) p.2 (by omega)
    (by
     refine waH ?_;simp only[qjn,qb2,qk];refine waC e (waG (by rw[qB];omega) ?_);rw[q];exact n)
    (λ j s c a=>by
     refine waH ?_;simp only[qjn,qb2,qk];rw[vm,<-wj]at a;have B:=t (A++List.replicate j p.1);refine waC e (waF (by rw[qz];exact s) (waB (λ h=>?_) λ h=>?_))
     .rw[qz]at h;refine waC e (waF (zj (by omega) (by omega)) ?_);rw[c];refine a.congr λ m k=>?_;rw[<-qwQ _ _ (by omega)]
     .rw[qB]at h;rw[q];refine n.congr λ m k=>?_;obtain⟨d,f⟩:∃d,p.2.toNat=j+d:=⟨p.2.toNat-j,by omega⟩
      rw[f,<-vP,<-wj,<-qu6 (A++List.replicate j p.1) _ (by omega)])
   have:=x 0 (we _);rw[vu,wy]at this;exact this)
 refine waJ (L:=λ m k=>(qm m k).1 l 0 []) ?_;exact y 0 (we _)
theorem qNm(S:Nat):∀l:List Pw,(∀p∈l,size p.1<=S)->(∀x∈yi l,size x<=S)/\∀x∈yn l,size x<=1+S:=by
 intro l h;refine⟨λ x a=>?_,λ x a=>?_⟩
 .unfold yi at a;let⟨p,b,a⟩:=wZ.1 a;rw[xn a];exact h p b
 .unfold yn at a;let⟨p,b,a⟩:=wZ.1 a;rw[xn a,qAQ];have:=h p b;omega
theorem qIy(S:Nat):∀l:List T,(∀x∈l,size x<=S)->szL l<=l.length*S
 |[],_=>by simp[szL]
 |x::l,h=>by
   have c:=qIy S l λ q a=>h q (wg _ a);have b:=h x (wi ..);rw[qR,wx,wO];omega
theorem qBr(l:List Pw)(q:szP l<=1000000000):Ev (λ m _=>qcV m l) (qa8 l):=by
 refine waI ?_;simp only[qCG,qi8,qk];refine waA (qtU l q) (waB (λ h=>?_) λ h=>?_)
 .rw[bnt,qi]at h;unfold qa8;rw[if_pos h];exact waD _
 rw[bnf,ql]at h;let⟨_,j,y,w⟩:=qbx h;have f:∀p∈l,size p.1<=400:=λ p s=>QI (w p s).1;rw[qqr h];let⟨n,k⟩:=qNm 400 l f
 have d:∀x∈yi l++yn l,size x<=401:=λ x c=>by
  obtain c|c:=wk.1 c
  .have:=n x c;omega
  .exact k x c
 refine waA (qLm l (by omega) y) ?_;generalize yi l++yn l=A at *;unfold qne;refine waB (λ g=>?_) λ g=>?_
 .rw[qz,wm]at g;rw[if_pos (by omega)];exact waD _
 rw[qB,wm]at g;rw[if_neg (by omega),kH (by omega)];have z:=qIy 401 A d;have t:=qFL A;have B:A.length*401<=8*401:=wu _ (by omega)
 have b:∀u:T,u=JY A->Ev (λ m _=>qb (ji m u) λ v=>cond (qh (ieq v 0)) (some (T.mk 0 [] 0 [],v)) (some (u,0))) (if qV (JY A)≠0 then(zT,qV (JY A))else(JY A,0)):=by
  intro u o;subst o;refine waA (qcF _ (by omega)) (waB (λ h=>?_) λ h=>?_)
  .rw[bnt,qi]at h;rw[if_pos h];exact waD _
  .rw[bnf,ql]at h;rw[if_neg (by omega)];exact waD _
 refine waA (qe4 [109,117,108] A (by omega)) (waB (λ i=>?_) λ i=>?_)
 .rw[ql]at i;refine waA (qe4 [111,110,101] [] (by simp)) (waG (qi.2 (by omega)) (b _ (by unfold JY;rw[if_pos (by omega)];rfl)))
 .rw[qi]at i;refine waB (λ e=>?_) λ e=>?_
  .rw[ql]at e;refine waC (a:=A.getD 0 zT) ?_ (b _ (by unfold JY;rw[if_neg (by omega),if_pos (by omega)]));rw[JT,List.getD_eq_getElem?_getD];cases A with
   |nil=>simp at e
   |cons x r=>rfl
  .rw[qi]at e;exact b _ (by unfold JY;rw[if_neg (by omega),if_neg (by omega)];rfl)
theorem qH8(l:List Pw)(n:l.length<=1000000000):Ev (λ m _=>qfN m l) (if qm6 l then 7 else if 200<l.length then 3 else 0):=by
 refine waI ?_;simp only[qwc,qda]
 have b:=qw (P:=λ i=>Ev (λ m k=>QU m k l i) (if qm6 (l.drop i)then(7:Int)else if 200<l.length then 3 else 0)) l (by omega)
  (λ c=>by
   refine waH ?_;simp only[qlm,qcX];rw[wX,if_neg (by decide)];refine waG c (waB (λ h=>?_) λ h=>?_)
   .rw[qz]at h;rw[if_pos (by omega)];exact waD _
   .rw[qB]at h;rw[if_neg (by omega)];exact waD _)
  (λ i p j f c d e g=>by
   refine waH ?_;simp only[qlm,qcX];rw[f,qyV];refine waF c (waC d (waB (λ h=>?_) λ h=>?_))
   .rw[qz]at h;rw[decide_eq_true h,xw,xw,if_pos rfl];exact waD _
   .rw[qB]at h;rw[decide_eq_false (show ¬ p.2 < -1000 by omega),xV];refine waC d (waB (λ a=>?_) λ a=>?_)
    .rw[qz]at a;rw[decide_eq_true a,xw,if_pos rfl];exact waD _
    .rw[qB]at a;rw[decide_eq_false (show ¬ 1000<p.2 by omega),xV,e];exact g)
 refine waJ (L:=λ m k=>QU m k l 0) ?_;exact(b 0 (we _)).res (by rw[wP])
theorem qMv(a b:List Pw)(E:szP a<=100000000)(D:szP b<=100000000):Ev (λ m _=>qmA m a b) (qls a b):=by
 have B:=qcy b;have v:=qcy a;refine waI ?_;simp only[qEm,qgJ];rw[qvg];refine waA (qtU a (by omega)) (waB (λ h=>?_) λ h=>?_)
 .rw[bnt,qi]at h;rw[if_pos h];exact waD _
 rw[bnf,ql]at h;rw[if_neg (by omega)];refine waA (qtU b (by omega)) (waB (λ e=>?_) λ e=>?_)
 .rw[bnt,qi]at e;rw[if_pos e];exact waD _
 rw[bnf,ql]at e;rw[if_neg (by omega)]
 have g:=qw (P:=λ i=>Ev (λ m k=>qaA m k b i (Q0 a (b.take i))) (qog (Q0 a b))) b (by omega)
  (λ j=>by
   refine waH ?_;simp only[qrg,qhw];rw[wG];let⟨_,q,_,_⟩:=qhp h e b.length;rw[wG]at q;refine waG j (waA (qH8 _ (by omega)) ?_);unfold qog;by_cases f:qm6 (Q0 a b)=true
   .rw[if_pos f,if_pos f];exact waF rfl (waD _)
   .rw[if_neg f,if_neg f];by_cases d:200<(Q0 a b).length
    .rw[if_pos d,if_pos d];exact waF rfl (waD _)
    .rw[if_neg d,if_neg d];exact waG rfl (waD _))
  (λ i p l C j o w y=>by
   refine waH ?_;simp only[qrg,qhw,qk];have n:=wc l;let⟨z,q,G,F⟩:=qhp h e i;let⟨_,_,u,s⟩:=qbx e;have A:=QI (s p n).1;have t:=u p n;refine waF j (waC o (waC o (waA (qED z p.1 p.2 (by omega) (by omega)) ?_)));rw[w];refine y.congr λ m k=>?_;rw[ya l,qzA])
 refine waF (zj (by simp only[w7];omega) (by omega)) ?_;have c:Ev (λ m _=>qaA m m b 0 a) (qog (Q0 a b)):=waJ (L:=λ m k=>qaA m k b 0 a) (g 0 (we _));exact Ev.case (λ h=>by rw[h]at c |-;exact c) λ x r h=>by rw[h]at c |-;exact c
end Go.AmZ
namespace Go.AmZ
open Go Go.GxZ Go.Lib
theorem qmn{t:T}(h:qdu t=0):qV t=0/\zl t=0:=by
 unfold qdu at h;exact qga h
theorem qnY{t:T}(h:zl t=0){n:List UInt8}(i:isN t n=true){a b c:Int}(g:qC n=(a,b,c)):a<=(t.kids.length:Int)/\(t.kids.length:Int)<=b/\∀k∈t.kids,zl k=0:=by
 obtain⟨d,rfl⟩:=yM.1 i;let⟨l,j⟩:=qay d h;let⟨_,f,e,_⟩:=qos d l;rw[g]at f e;exact⟨f,e,j⟩
end Go.AmZ
namespace Go.AmZ
open Go Go.GxZ
def Cl(P:T->Prop):Prop:=∀t:T,t.kind=3->P t->∀k∈t.kids,P k
theorem ql9:∀(n:Nat) (a b:List T),a.length+b.length<=n->∀x∈zq a b,x∈a\/x∈b
 |_,[],b,_,x,h=>by rw[zq]at h;exact .inr h
 |_,z::a,[],_,x,h=>by rw[zq]at h;exact .inl h
 |0,z::a,y::b,c,x,h=>by simp at c
 |n+1,z::a,y::b,c,x,h=>by
   simp only[wx]at c;rw[zq]at h;split at h
   .obtain rfl|h:=ww.1 h
    .exact .inl (wi ..)
    .rcases ql9 n a (y::b) (by simp;omega) x h with h|h
     .exact .inl (wg _ h)
     .exact .inr h
   .split at h
    .obtain rfl|h:=ww.1 h
     .exact .inr (wi ..)
     .rcases ql9 n (z::a) b (by simp;omega) x h with h|h
      .exact .inl h
      .exact .inr (wg _ h)
    .obtain h|h:=ql9 n a b (by omega) x h
     .exact .inl (wg _ h)
     .exact .inr (wg _ h)
theorem qla:∀(b:List (List T)) (a:List T),∀x∈b.foldl zq a,x∈a\/∃l∈b,x∈l
 |[],a,x,h=>.inl h
 |l::b,a,x,h=>by
   obtain h|⟨m,c,h⟩:=qla b (zq a l) x h
   .obtain h|h:=ql9 _ a l (wa _) x h
    .exact .inl h
    .exact .inr ⟨l,wi ..,h⟩
   .exact .inr ⟨m,wg _ c,h⟩
theorem qJ0{P:T->Prop}(g:Cl P)(t:T):P t->∀x∈jU t,P x:=by
 refine T.ind (P:=λ t=>P t->∀x∈jU t,P x) ?_ t;intro t d b x a;rw[qkC]at a;split at a
 .cases a
 .split at a
  .rename_i e;obtain h|⟨l,f,h⟩:=qla _ _ x a
   .cases h
   .obtain⟨k,c,rfl⟩:=wA.1 f;exact d k c (g t (yM.1 e).1 b k c) x h
  .rw[wF.1 a];exact b
theorem qyF{P:T->Prop}(e:Cl P){l:List T}(h:∀k∈l,P k):∀x∈zY l,P x:=by
 intro x b;obtain a|⟨m,c,a⟩:=qla _ _ x b
 .cases a
 .obtain⟨k,d,rfl⟩:=wA.1 c;exact qJ0 e k (h k d) x a
theorem qM3{P:T->Prop}{l:List Pw}{t:T}(n:Int)(a:P t)(c:∀p∈l,P p.1):∀p∈yC l t n,P p.1:=by
 intro p b;obtain h|h:=qoX l t n p b
 .rw[h];exact a
 .exact c p h
theorem qNk{P:T->Prop}(f:Cl P)(t:T):P t->∀(l:List Pw) (n:Int),(∀p∈l,P p.1)->∀p∈jt t l n,P p.1:=by
 refine T.ind (P:=λ t=>P t->∀(l:List Pw) (n:Int),(∀p∈l,P p.1)->∀p∈jt t l n,P p.1) ?_ t;intro t d b l n a;rw[qgf];split
 .rename_i e;have g:=(qsa.1 e).1;exact qFN t.kids (qaZ t n) (λ l=>∀p∈l,P p.1) (λ k c l a=>d k c (f t g b k c) l _ a) l a
 .exact qM3 n b a
theorem qix{P:T->Prop}(c:Cl P){t:T}(b:P t):∀p∈(ofP t).1,P p.1:=by
 intro p a;unfold ofP at a;split at a
 .cases a
 .split at a
  .cases a
  .split at a
   .cases a
   .exact qNk c t b [] 1 (λ _ h=>by cases h) p a
theorem qEr{P:T->Prop}{a b:List Pw}(g:∀p∈a,P p.1)(f:∀p∈b,P p.1):∀p∈(qls a b).1,P p.1:=by
 intro p c;unfold qls at c;split at c
 .cases c
 .split at c
  .cases c
  .split at c
   .cases c
   .split at c
    .cases c
    .obtain⟨q,d,e⟩|⟨q,d,e⟩:=qtO b a p c
     .rw[<-e];exact g q d
     .rw[<-e];exact f q d
theorem qBP{l:List Pw}{x:T}(h:x∈yi l):∃p∈l,x=p.1:=by
 unfold yi at h;let⟨p,a,h⟩:=wZ.1 h;exact⟨p,a,xn h⟩
theorem qBZ{l:List Pw}{x:T}(h:x∈yn l):∃p∈l,x=apT Jh [p.1]:=by
 unfold yn at h;let⟨p,a,h⟩:=wZ.1 h;exact⟨p,a,xn h⟩
theorem JU:Cl λ t=>zl t=0:=λ t a h=>(qay a h).2
theorem qrm:∀(l:List Int),(∀y∈l,y=0)->l.foldl thn 0=0
 |[],_=>rfl
 |z::l,h=>by
   rw[QK,h z (wi ..)];exact qrm l λ y a=>h y (wg _ a)
theorem qiI{t:T}(h:qco t=0)(c:∀k∈t.kids,zl k=0):zl t=0:=by
 rw[qnL];split
 .rfl
 .rw[h];refine qrm _ λ y b=>?_;obtain⟨k,a,rfl⟩:=wA.1 b;exact c k a
theorem qf9{n:List UInt8}{ks:List T}(b:(qC n).2.2≠0)(d:(qC n).1<=(ks.length:Int))(c:(ks.length:Int)<=(qC n).2.1)(a:qav (apT n ks)=false):qco (apT n ks)=0:=by
 unfold qco;show(if(3:Int)≠3 then(0:Int)else if(qC n).2.2=0 then 10 else if(ks.length:Int)<(qC n).1\/(qC n).2.1<(ks.length:Int)then 6 else if qav (apT n ks)then 10 else 0)=0;rw[if_neg (by decide),if_neg b,if_neg (by omega),a];rfl
theorem qkg{n:List UInt8}(c:n≠qgG)(b:n≠nSk)(a:n≠qub)(ks:List T):qav (apT n ks)=false:=by
 unfold qav;rw[if_neg (show ¬ (apT n ks).name=qgG from c),if_neg (show ¬ ((apT n ks).name=nSk\/(apT n ks).name=qub)from λ h=>h.elim b a)]
theorem qbs:zl zT=0:=by rw[qnL];rfl
theorem qaR{P:T->Prop}(c:Cl P)(a:P zT){t:T}(d:t.kind=3)(b:P t)(i:Nat):P (kid t i):=by
 by_cases h:i<t.kids.length
 .exact c t d b _ (qFO h)
 .unfold kid;rw[List.getD_eq_getElem?_getD,List.getElem?_eq_none (by omega)];exact a
theorem qsb{P:T->Prop}(a:P zT){l:List T}(h:∀x∈l,P x):P (l.getD 0 zT):=by
 cases l with
 |nil=>exact a
 |cons x r=>exact h x (wi ..)
theorem qH6{t:T}(c:t.kind=3)(h:qV t=0):t.kids.length<=8:=by
 unfold qV at h;split at h
 .rename_i b;exact absurd h b
 .rename_i b;have a:=(qil (t:=t) (by omega)).1;unfold jG qip at a;rw[if_neg (by omega),if_pos c]at a;split at a
  .cases a
  .split at a
   .split at a
    .cases a
    .omega
   .cases a
theorem qza{l:List Pw}(f:∀p∈l,zl p.1=0)(h:(qa8 l).2=0):zl (qa8 l).1=0:=by
 by_cases b:Jn l=0
 .rw[qqr b]at h |-
  unfold qne at h |-
  by_cases g:8<(yi l++yn l).length
  .rw[if_pos g]at h;cases h
  rw[if_neg g]at h |-
  by_cases e:qV (JY (yi l++yn l))=0
  .rw[if_neg (by omega)]
   have a:∀x∈yi l++yn l,zl x=0:=λ x c=>by
    obtain c|c:=wk.1 c
    .obtain⟨p,b,rfl⟩:=qBP c;exact f p b
    .obtain⟨p,b,rfl⟩:=qBZ c;exact qiI (qf9 (by decide) (by show(1:Int)<=1;decide) (by show(1:Int)<=1;decide) (qkg (by decide) (by decide) (by decide) _)) λ k d=>by rw[wF.1 d];exact f p b
   generalize yi l++yn l=o at *;unfold JY;split
   .exact qiI (qf9 (by decide) (by show(0:Int)<=0;decide) (by show(0:Int)<=0;decide) (qkg (by decide) (by decide) (by decide) _)) λ k d=>by cases d
   .split
    .exact qsb (P:=λ t=>zl t=0) qbs a
    .rename_i j i;exact qiI (qf9 (by decide) (by show(2:Int)<=_;omega) (by show _<=(8:Int);omega) (qkg (by decide) (by decide) (by decide) _)) a
  .rw[if_pos e]at h;exact absurd h e
 .unfold qa8 at h;rw[if_pos b]at h;exact absurd h b
theorem qBX{b:T}{l:List Pw}(e:zl b=0)(f:∀p∈l,zl p.1=0)(h:(qhR b l).2=0):zl (qhR b l).1=0:=by
 unfold qhR at h |-
 split at h
 .rename_i d;rw[if_pos d];exact e
 .rename_i d;rw[if_neg d];split at h
  .rename_i c;exact absurd h c
  .rename_i c;rw[if_neg c];refine qiI (qf9 (by decide) (by show(2:Int)<=2;decide) (by show(2:Int)<=2;decide) (qkg (by decide) (by decide) (by decide) _)) λ k a=>?_;obtain rfl|a:=ww.1 a
   .exact e
   .rw[wF.1 a];exact qza f (by omega)
theorem qLo{n:List UInt8}{ks:List T}(i:∀k∈ks,zl k=0)(A:qco (apT n ks)=0)(a:(JX (apT n ks)).2=0):zl (JX (apT n ks)).1=0:=by
 have g:zl (apT n ks)=0:=qiI A i;unfold JX at a |-
 by_cases w:isD (apT n ks).name=true
 .rw[if_pos w];show zl (qi6 _)=0;unfold qi6;split
  .rename_i c
   have m:(kid (apT n ks) 0).kind=3:=by
    unfold yk at c;split at c
    .exact(yM.1 c).1
    .split at c
     .rw[wb]at c;exact(yM.1 c.1).1
     .split at c
      .rw[wb,wb]at c;exact(yM.1 c.1.1).1
      .split at c
       .rw[wb,wb]at c;exact(yM.1 c.1.1).1
       .split at c
        .exact(yM.1 c).1
        .cases c
   exact qaR JU qbs m (qaR JU qbs rfl g 0) _
  .exact g
 rw[if_neg w]at a |-
 by_cases s:(apT n ks).name=qep
 .rw[if_pos s]at a |-
  unfold qoS at a |-
  split at a
  .rename_i d;exact absurd a d
  rename_i d;rw[if_neg d];split at a
  .cases a
  rename_i h;rw[if_neg h];show zl (J8 (zY ks))=0
  have l:qV (J8 (zY ks))=0:=by
   have:¬ qV (J8 (zY (apT n ks).kids))≠0:=h;exact xb this
  have f:=qyF JU i;generalize zY ks=o at *;unfold J8 at l |-
  split
  .exact qiI (qf9 (by decide) (by show(0:Int)<=0;decide) (by show(0:Int)<=0;decide) (qkg (by decide) (by decide) (by decide) _)) λ k z=>by cases z
  .rename_i C;split
   .exact qsb (P:=λ t=>zl t=0) qbs f
   .rename_i B;rw[if_neg C,if_neg B]at l;have x:o.length<=8:=qH6 (t:=apT qep o) rfl l;exact qiI (qf9 (by decide) (by show(2:Int)<=_;omega) (by show _<=(8:Int);omega) (qkg (by decide) (by decide) (by decide) _)) f
 rw[if_neg s]at a |-
 by_cases u:(apT n ks).name=qf8\/(apT n ks).name=Jh\/(apT n ks).name=qje
 .rw[if_pos u]at a |-
  unfold qlY at a |-
  split at a
  .rename_i d;exact absurd a d
  rename_i d;rw[if_neg d];exact qza (qix JU g) a
 rw[if_neg u]at a |-
 by_cases v:(apT n ks).name=qfg
 .rw[if_pos v]at a |-
  have p:=qaR JU qbs (t:=apT n ks) rfl g 0;have r:=qaR JU qbs (t:=apT n ks) rfl g 1;generalize kid (apT n ks) 0=b at *;generalize kid (apT n ks) 1=y at *;unfold qo0 at a |-
  split at a
  .rename_i d;exact absurd a d
  rename_i d;rw[if_neg d];split at a
  .rename_i e;rw[if_pos e];split at a
   .rename_i h;exact absurd a h
   rename_i h;rw[if_neg h];split at a
   .rename_i q;exact absurd a q
   rename_i q;rw[if_neg q];have j:=(yM.1 e).1;exact qBX (qaR JU qbs j p 0) (qEr (P:=λ t=>zl t=0) (qix JU (qaR JU qbs j p 1)) (qix JU r)) a
  .rename_i e;rw[if_neg e];exact qBX p (qix JU r) a
 .rw[if_neg v];exact g
theorem qke:size zT=1:=by rw[zb];rfl
theorem qaG(t:T)(i:Nat):size (kid t i)<=size t:=by
 have:=size_pos t;by_cases h:i<t.kids.length
 .have:=jD t _ (qFO h);omega
 .unfold kid;rw[List.getD_eq_getElem?_getD,List.getElem?_eq_none (by omega)];show size zT<=_;rw[qke];omega
theorem qCX(l:List Pw):size (qa8 l).1<=400:=by
 unfold qa8;have:=qke;split
 .show size zT<=_;omega
 .split
  .show size zT<=_;omega
  .split
   .show size zT<=_;omega
   .rename_i h;exact QI (xb h)
theorem qEn(b:T)(l:List Pw):size (qhR b l).1<=401+size b:=by
 unfold qhR;have:=qke;have:=qCX l;split
 .show size b<=_;omega
 .split
  .show size zT<=_;omega
  .rw[zb];show 1+(size b+(size (qa8 l).1+0))<=_;omega
theorem qM2(n:List UInt8)(ks:List T):size (JX (apT n ks)).1<=402+szL ks:=by
 have d:=qke;have e:size (apT n ks)=1+szL ks:=zb _;unfold JX;split
 .show size (qi6 _)<=_;unfold qi6;split
  .have a:=qaG (apT n ks) 0;have c:=qaG (kid (apT n ks) 0) (if(apT n ks).name=qx4 then 1 else 0);omega
  .omega
 .split
  .unfold qoS;split
   .show size zT<=_;omega
   .split
    .show size zT<=_;omega
    .have a:=qER (zY (apT n ks).kids);have c:=qei (apT n ks).kids;have f:szL (apT n ks).kids=szL ks:=rfl;show size (J8 _)<=_;omega
  .split
   .unfold qlY;split
    .show size zT<=_;omega
    .have:=qCX (ofP (apT n ks)).1;omega
   .split
    .have g:=qaG (apT n ks) 0;generalize kid (apT n ks) 0=b at *;generalize kid (apT n ks) 1=y at *;unfold qo0;split
     .show size zT<=_;omega
     .split
      .split
       .show size zT<=_;omega
       .split
        .show size zT<=_;omega
        .have a:=qEn (kid b 0) (qls (ofP (kid b 1)).1 (ofP y).1).1;have c:=qaG b 0;omega
      .have a:=qEn b (ofP y).1;omega
    .show size (apT n ks)<=_;omega
theorem qwX(t:T):size (zQ t).1<=402*size t:=by
 refine T.ind (P:=λ t=>size (zQ t).1<=402*size t) ?_ t;intro t b;have f:=qke;have g:=size_pos t;rw[qnJ];split
 .show size t<=_;omega
 .split
  .show size zT<=_;omega
  .have e:=qM2 t.name ((t.kids.map zQ).map (·.1))
   have d:szL ((t.kids.map zQ).map (·.1))<=402*szL t.kids:=by
    have:∀l:List T,(∀k∈l,k∈t.kids)->szL ((l.map zQ).map (·.1))<=402*szL l:=by
     intro l
     induction l with
     |nil=>intro _;exact wa _
     |cons k l a=>
       intro h;have e:=b k (h k (wi ..));have d:=a λ x c=>h x (wg _ c);rw[wv,wv,qR,qR];omega
    exact this t.kids λ _ h=>h
   have i:size t=1+szL t.kids:=zb t;omega
theorem qs3:∀(l:List Int),l.foldl thn 0=0->∀y∈l,y=0
 |[],_,y,a=>by cases a
 |z::l,h,y,a=>by
   rw[QK]at h;by_cases b:z=0
   .subst b;obtain rfl|a:=ww.1 a
    .rfl
    .exact qs3 l h y a
   .rw[qT _ b]at h;exact absurd h b
theorem qiy{t:T}(h:t.kind≠3):zQ t=(t,0):=by rw[qnJ,if_pos h]
theorem qL9{t:T}(d:t.kind=3)(h:(zQ t).2=0):(∀k∈t.kids,(zQ k).2=0)/\zQ t=JX (apT t.name ((t.kids.map zQ).map (·.1))):=by
 rw[qnJ,if_neg (λ c=>c d)]at h |-
 split at h
 .rename_i a;exact absurd h a
 .rename_i a;rw[if_neg a];refine⟨λ k b=>?_,rfl⟩;exact qs3 _ (xb a) _ (wA.2 ⟨_,wA.2 ⟨k,b,rfl⟩,rfl⟩)
theorem qLB(l:List T)(h:∀k∈l,k.kind≠3):(l.map zQ).map (·.1)=l:=by
 induction l with
 |nil=>rfl
 |cons k l a=>
   rw[wv,wv,qiy (h k (wi ..)),a λ x b=>h x (wg _ b)]
theorem qBM{t:T}(j:t.kind=3)(h:qco t=0):qco (apT t.name ((t.kids.map zQ).map (·.1)))=0:=by
 let⟨m,l,i,b⟩:=qos j h;refine qf9 m (by simpa using l) (by simpa using i) ?_;unfold qav at b |-
 show(if t.name=qgG then decide ((kid (apT t.name ((t.kids.map zQ).map (·.1))) 0).kind≠2)else if t.name=nSk\/t.name=qub then((t.kids.map zQ).map (·.1)).any λ k=>decide (k.kind=3)||decide (k.sort≠1)else false)=false;split
 .rename_i c;rw[if_pos c]at b;have a:(kid t 0).kind=2:=by simpa using b
  cases e:t.kids with
  |nil=>
    unfold kid at a;rw[e]at a;exact absurd a (by decide)
  |cons x r=>
    have f:kid t 0=x:=by unfold kid;rw[e];rfl
    rw[f]at a;show decide ((zQ x).1.kind≠2)=false;rw[qiy (by omega)];simpa using a
 .rename_i c;rw[if_neg c]at b;split
  .rename_i g;rw[if_pos g]at b;rw[qLB t.kids λ k a d=>?_]
   .exact b
   .have:=List.any_eq_false.1 b k a;rw[d]at this;exact this rfl
  .rfl
theorem qKp(t:T):zl t=0->(zQ t).2=0->zl (zQ t).1=0:=by
 refine T.ind (P:=λ t=>zl t=0->(zQ t).2=0->zl (zQ t).1=0) ?_ t;intro t e d c;by_cases a:t.kind=3
 .let⟨i,h⟩:=qL9 a c;let⟨m,l⟩:=qay a d;rw[h]at c |-
  refine qLo (λ k g=>?_) (qBM a m) c;obtain⟨q,f,rfl⟩:=wA.1 g;obtain⟨j,b,rfl⟩:=wA.1 f;exact e j b (l j b) (i j b)
 .rw[qiy a];exact d
end Go.AmZ
namespace Go.AmZ
open Go Go.GxZ
theorem zF(t:T){b:Bool}(h:yk t=b):qi6 t=if b then kid (kid t 0) (if t.name=qx4 then 1 else 0)else t:=by unfold qi6;rw[h]
theorem qcs{t:T}(h:zl t=0){n:List UInt8}(e:isN t n=true){a b c:Int}(d:qC n=(a,b,c)){i:Nat}(f:(i:Int)<a):qf t.kids (i:Int)=some (kid t i):=by
 have:=(qnY h e d).1;exact qx6 (by omega)
theorem qGZ(t:T)(J:t.kind=3)(I:zl t=0)(D:isD t.name=true)(L:size t<=1000000000):Ev (λ m _=>qcr m t) (qi6 t):=by
 have B:∀i,size (kid t i)<=size t:=qaG t;have r:∀i j,size (kid (kid t i) j)<=1000000000:=λ i j=>by have:=qaG (kid t i) j;have:=B i;omega
 have v:∀i j k,size (kid (kid (kid t i) j) k)<=1000000000:=λ i j k=>by have:=qaG (kid (kid t i) j) k;have:=r i j;omega
 have f:∀i,zl (kid t i)=0:=λ i=>qaR JU qbs J I i;have x:∀i j,(kid t i).kind=3->zl (kid (kid t i) j)=0:=λ i j h=>qaR JU qbs h (f i) j;have A:isN t t.name=true:=yM.2 ⟨J,rfl⟩;have H:∀{u:T}{n:List UInt8},zl u=0->isN u n=true->∀{b c:Int},qC n=(1,b,c)->qf u.kids 0=some (kid u 0):=λ h d _ _ e=>qcs (i:=0) h d e (by decide);have q:∀{u:T}{n:List UInt8},zl u=0->isN u n=true->∀{b c:Int},qC n=(2,b,c)->qf u.kids 0=some (kid u 0):=λ h d _ _ e=>qcs (i:=0) h d e (by decide);have p:∀{u:T}{n:List UInt8},zl u=0->isN u n=true->∀{b c:Int},qC n=(2,b,c)->qf u.kids 1=some (kid u 1):=λ h d _ _ e=>qcs (i:=1) h d e (by decide);have E:qC qor=(2,2,1):=by decide
 have G:qC qoZ=(2,2,1):=by decide
 have z:qC qiq=(2,2,1):=by decide
 have F:qC nPk=(1,1,1):=by decide
 have y:qC qe0=(2,2,1):=by decide
 unfold isD at D;simp only[wS,beq_iff_eq]at D;refine waI ?_;simp only[qtl,qfh,qk]
 have l:∀{a b c:Int},qC t.name=(a,b,c)->a=b->(t.kids.length:Int)=a:=λ e K=>by
  have:=qnY I A e;omega
 obtain ((((d|d)|d)|d)|d)|d:=D
 .have w:=l (a:=1) (b:=1) (c:=3) (by rw[d];decide) rfl;refine waC (qdw (by omega)) (waG (qB.2 (by omega)) (waF (by rw[d];rfl) (waA (qjy _ _) ?_)));have g:yk t=isN (kid t 0) qor:=by unfold yk;rw[if_pos (.inl d)]
  refine waB (λ h=>?_) λ h=>?_
  .refine waC (q (f 0) h E) (waE ?_);rw[zF t (g.trans h),if_pos rfl,if_neg (by rw[d];decide)]
  .refine waE ?_;rw[zF t (g.trans h),if_neg (by decide)]
 .have w:=l (a:=1) (b:=1) (c:=3) (by rw[d];decide) rfl;refine waC (qdw (by omega)) (waG (qB.2 (by omega)) (waG (by rw[d];rfl) (waF (by rw[d];rfl) (waA (qjy _ _) ?_))));have g:yk t=isN (kid t 0) qor:=by unfold yk;rw[if_pos (.inr d)]
  refine waB (λ h=>?_) λ h=>?_
  .refine waC (p (f 0) h E) (waE ?_);rw[zF t (g.trans h),if_pos rfl,if_pos d]
  .refine waE ?_;rw[zF t (g.trans h),if_neg (by decide)]
 .have w:=l (a:=2) (b:=2) (c:=3) (by rw[d];decide) rfl;refine waC (qdw (by omega)) (waF (qz.2 (by omega)) (waC (qrU (by omega)) (waG (by rw[d];rfl) (waG (by rw[d];rfl) (waF (by rw[d];rfl) (waA (qjy _ _) ?_))))));have g:yk t=(isN (kid t 0) qoZ&&yj (kid (kid t 0) 1) (kid t 1)):=by unfold yk;rw[if_neg (by rw[d];decide),if_pos d]
  refine waB (λ h=>?_) λ h=>?_
  .refine waC (p (f 0) h G) (waA (qol _ _ (r 0 1) (by have:=B 1;omega)) (waB (λ o=>?_) λ o=>?_))
   .refine waC (q (f 0) h G) (waE ?_);rw[zF t (b:=true) (by rw[g,show isN (kid t 0) qoZ=true from h,o];rfl),if_pos rfl,if_neg (by rw[d];decide)]
   .refine waE ?_;rw[zF t (b:=false) (by rw[g,o,xH]),if_neg (by decide)]
  .refine waE ?_;rw[zF t (b:=false) (by rw[g,show isN (kid t 0) qoZ=false from h];rfl),if_neg (by decide)]
 .have w:=l (a:=2) (b:=2) (c:=3) (by rw[d];decide) rfl;refine waC (qdw (by omega)) (waF (qz.2 (by omega)) (waC (qrU (by omega)) (waG (by rw[d];rfl) (waG (by rw[d];rfl) (waG (by rw[d];rfl) (waF (by rw[d];rfl) (waA (qjy _ _) ?_)))))));have g:yk t=(isN (kid t 0) qiq&&isN (kid (kid t 0) 1) nPk&&yj (kid (kid (kid t 0) 1) 0) (kid t 1)):=by unfold yk;rw[if_neg (by rw[d];decide),if_neg (by rw[d];decide),if_pos d]
  refine waB (λ h=>?_) λ h=>?_
  .have C:=(yM.1 h).1;refine waC (p (f 0) h z) (waA (qjy _ _) (waB (λ o=>?_) λ o=>?_))
   .refine waC (p (f 0) h z) (waC (H (x 0 1 C) o F) (waA (qol _ _ (v 0 1 0) (by have:=B 1;omega)) (waB (λ s=>?_) λ s=>?_)))
    .refine waC (q (f 0) h z) (waE ?_);rw[zF t (b:=true) (by rw[g,show isN (kid t 0) qiq=true from h,show isN (kid (kid t 0) 1) nPk=true from o,s];rfl),if_pos rfl,if_neg (by rw[d];decide)]
    .refine waE ?_;rw[zF t (b:=false) (by rw[g,s,xH]),if_neg (by decide)]
   .refine waE ?_;rw[zF t (b:=false) (by rw[g,show isN (kid (kid t 0) 1) nPk=false from o,xH,kQ]),if_neg (by decide)]
  .refine waE ?_;rw[zF t (b:=false) (by rw[g,show isN (kid t 0) qiq=false from h];rfl),if_neg (by decide)]
 .have w:=l (a:=2) (b:=2) (c:=3) (by rw[d];decide) rfl;refine waC (qdw (by omega)) (waF (qz.2 (by omega)) (waC (qrU (by omega)) (waG (by rw[d];rfl) (waG (by rw[d];rfl) (waG (by rw[d];rfl) (waG (by rw[d];rfl) (waF (by rw[d];rfl) (waA (qjy _ _) ?_))))))));have g:yk t=(isN (kid t 0) qe0&&isN (kid t 1) nPk&&yj (kid (kid t 0) 1) (kid (kid t 1) 0)):=by unfold yk;rw[if_neg (by rw[d];decide),if_neg (by rw[d];decide),if_neg (by rw[d];decide),if_pos d]
  refine waB (λ h=>?_) λ h=>?_
  .refine waA (qjy _ _) (waB (λ o=>?_) λ o=>?_)
   .refine waC (p (f 0) h y) (waC (H (f 1) o F) (waA (qol _ _ (r 0 1) (r 1 0)) (waB (λ s=>?_) λ s=>?_)))
    .refine waC (q (f 0) h y) (waE ?_);rw[zF t (b:=true) (by rw[g,show isN (kid t 0) qe0=true from h,show isN (kid t 1) nPk=true from o,s];rfl),if_pos rfl,if_neg (by rw[d];decide)]
    .refine waE ?_;rw[zF t (b:=false) (by rw[g,s,xH]),if_neg (by decide)]
   .refine waE ?_;rw[zF t (b:=false) (by rw[g,show isN (kid t 1) nPk=false from o,xH,kQ]),if_neg (by decide)]
  .refine waE ?_;rw[zF t (b:=false) (by rw[g,show isN (kid t 0) qe0=false from h];rfl),if_neg (by decide)]
 .have w:=l (a:=1) (b:=1) (c:=3) (by rw[d];decide) rfl;refine waC (qdw (by omega)) (waG (qB.2 (by omega)) (waG (by rw[d];rfl) (waG (by rw[d];rfl) (waG (by rw[d];rfl) (waG (by rw[d];rfl) (waG (by rw[d];rfl) (waF (by rw[d];rfl) (waA (qjy _ _) ?_))))))));have g:yk t=isN (kid t 0) qe0:=by unfold yk;rw[if_neg (by rw[d];decide),if_neg (by rw[d];decide),if_neg (by rw[d];decide),if_neg (by rw[d];decide),if_pos d]
  refine waB (λ h=>?_) λ h=>?_
  .refine waC (q (f 0) h y) (waE ?_);rw[zF t (g.trans h),if_pos rfl,if_neg (by rw[d];decide)]
  .refine waE ?_;rw[zF t (g.trans h),if_neg (by decide)]
end Go.AmZ
namespace Go.AmZ
open Go Go.GxZ
def qe9:T->Prop:=T.para λ t a=>(t.kind=3->t.sort=0)/\∀p∈a,p
theorem qnV(t:T):qe9 t↔(t.kind=3->t.sort=0)/\∀k∈t.kids,qe9 k:=by
 have h:qe9 t=((t.kind=3->t.sort=0)/\∀p∈t.kids.map qe9,p):=T.para_eq _ _;rw[h];refine and_congr_right λ _=>⟨λ h k a=>h _ (k8 a),λ h p b=>?_⟩
 obtain⟨k,a,rfl⟩:=wA.1 b;exact h k a
theorem qqz:Cl qe9:=λ t _ h=>((qnV t).1 h).2
theorem qDG:qe9 zT:=(qnV zT).2 ⟨λ h=>absurd h (by decide),λ _ h=>by cases h⟩
theorem qE0(n:List UInt8)(ks:List T)(h:∀k∈ks,qe9 k):qe9 (apT n ks):=(qnV _).2 ⟨λ _=>rfl,h⟩
theorem qGD{t:T}(a:t.kind=3)(h:jG t=0):t.sort=0:=by
 unfold jG qip at h;rw[if_neg (by omega),if_pos a]at h;split at h
 .cases h
 .omega
theorem qI7(t:T):Qb t=0->qe9 t:=by
 refine T.ind (P:=λ t=>Qb t=0->qe9 t) ?_ t;intro t b h;let⟨e,d⟩:=qil h;exact(qnV t).2 ⟨λ c=>qGD c e,λ k a=>b k a (d k a)⟩
theorem qDK{t:T}(h:qV t=0):Qb t=0:=by
 unfold qV at h;split at h
 .rename_i a;exact absurd h a
 .rename_i a;exact xb a
theorem qNH{P:T->Prop}(s:Cl P)(f:P zT)(e:∀n ks,(∀k∈ks,P k)->P (apT n ks)){n:List UInt8}{ks:List T}(v:∀k∈ks,P k):P (JX (apT n ks)).1:=by
 have q:=e n ks v;have a:∀{t:T} (i:Nat),P t->t.kind=3->P (kid t i):=λ i h E=>qaR s f E h i
 have g:∀l:List Pw,(∀p∈l,P p.1)->P (qa8 l).1:=by
  intro l z;unfold qa8;split
  .exact f
  .split
   .exact f
   .split
    .exact f
    .have c:∀x∈yi l++yn l,P x:=λ x u=>by
       obtain u|u:=wk.1 u
       .obtain⟨p,A,rfl⟩:=qBP u;exact z p A
       .obtain⟨p,A,rfl⟩:=qBZ u;exact e _ _ λ k j=>by rw[wF.1 j];exact z p A
     show P (JY _);generalize yi l++yn l=o at *;unfold JY;split
     .exact e _ _ λ k j=>by cases j
     .split
      .exact qsb f c
      .exact e _ _ c
 have m:∀(b:T) (l:List Pw),P b->(∀p∈l,P p.1)->P (qhR b l).1:=by
  intro b l r z;unfold qhR;split
  .exact r
  .split
   .exact f
   .refine e _ _ λ k j=>?_;obtain rfl|j:=ww.1 j
    .exact r
    .rw[wF.1 j];exact g l z
 unfold JX;split
 .show P (qi6 _);unfold qi6;split
  .rename_i d
   have B:(kid (apT n ks) 0).kind=3:=by
    unfold yk at d;split at d
    .exact(yM.1 d).1
    .split at d
     .rw[wb]at d;exact(yM.1 d.1).1
     .split at d
      .rw[wb,wb]at d;exact(yM.1 d.1.1).1
      .split at d
       .rw[wb,wb]at d;exact(yM.1 d.1.1).1
       .split at d
        .exact(yM.1 d).1
        .cases d
   exact a _ (a 0 q rfl) B
  .exact q
 .split
  .unfold qoS;split
   .exact f
   .split
    .exact f
    .have c:=qyF s v;show P (J8 (zY ks));generalize zY ks=o at *;unfold J8;split
     .exact e _ _ λ k j=>by cases j
     .split
      .exact qsb f c
      .exact e _ _ c
  .split
   .unfold qlY;split
    .exact f
    .exact g _ (qix s q)
   .split
    .have r:=a (t:=apT n ks) 0 q rfl;have D:=a (t:=apT n ks) 1 q rfl;generalize kid (apT n ks) 0=b at *;generalize kid (apT n ks) 1=y at *;unfold qo0;split
     .exact f
     .split
      .rename_i C;have w:=(yM.1 C).1;split
       .exact f
       .split
        .exact f
        .exact m _ _ (a 0 r w) (qEr (qix s (a 1 r w)) (qix s D))
      .exact m _ _ r (qix s D)
    .exact q
theorem qNa{P:T->Prop}(d:Cl P)(b:P zT)(a:∀n ks,(∀k∈ks,P k)->P (apT n ks))(t:T):P t->P (zQ t).1:=by
 refine T.ind (P:=λ t=>P t->P (zQ t).1) ?_ t;intro t e h;rw[qnJ];split
 .exact h
 .rename_i i;split
  .exact b
  .refine qNH d b a λ k g=>?_;obtain⟨q,f,rfl⟩:=wA.1 g;obtain⟨j,c,rfl⟩:=wA.1 f;exact e j c (d t (xb i) h j c)
theorem qFd{u x:T}(m:zl u=0)(l:qe9 u):yj u (apT nPk [x])=(isN u nPk&&yj (kid u 0) x):=by
 rw[xJ,wb,Ql,Ql];constructor
 .rintro rfl;exact⟨yM.2 ⟨rfl,rfl⟩,rfl⟩
 .rintro⟨h,j⟩;let⟨f,g⟩:=yM.1 h;have e:=qnY m h (a:=1) (b:=1) (c:=1) (by decide);have d:=((qnV u).1 l).1 f;cases u with
  |mk k n so ks=>
    have f:k=3:=f;have g:n=nPk:=g;have d:so=0:=d
    have i:ks.length=1:=by
     have h:(1:Int)<=(ks.length:Int):=e.1;have j:(ks.length:Int)<=1:=e.2.1;omega
    cases ks with
    |nil=>cases i
    |cons y r=>
      cases r with
      |nil=>
        have:y=x:=j;subst f;subst g;subst d;subst this;rfl
      |cons z r=>simp at i
theorem qwi(a b:T):yj a b=yj b a:=by
 rw[xJ,Ql,Ql];exact eq_comm
theorem qDJ(t:T)(G:t.kind=3)(K:zl t=0)(E:qe9 t)(F:isD t.name=true)(M:size t<=900000000):Ev (λ m _=>qfG m t) (qi6 t,yk t):=by
 have B:∀i,size (kid t i)<=size t:=qaG t;have s:∀i j,size (kid (kid t i) j)<=900000000:=λ i j=>by have:=qaG (kid t i) j;have:=B i;omega
 have k:∀i,zl (kid t i)=0:=λ i=>qaR JU qbs G K i;have A:∀i j,(kid t i).kind=3->zl (kid (kid t i) j)=0:=λ i j h=>qaR JU qbs h (k i) j;have w:∀i,qe9 (kid t i):=λ i=>qaR qqz qDG G E i;have v:∀i j,(kid t i).kind=3->qe9 (kid (kid t i) j):=λ i j h=>qaR qqz qDG h (w i) j;have D:isN t t.name=true:=yM.2 ⟨G,rfl⟩;have p:∀{u:T}{n:List UInt8},zl u=0->isN u n=true->∀{b c:Int},qC n=(2,b,c)->qf u.kids 0=some (kid u 0):=λ h d _ _ e=>qcs (i:=0) h d e (by decide);have r:∀{u:T}{n:List UInt8},zl u=0->isN u n=true->∀{b c:Int},qC n=(2,b,c)->qf u.kids 1=some (kid u 1):=λ h d _ _ e=>qcs (i:=1) h d e (by decide);have H:qC qor=(2,2,1):=by decide
 have I:qC qoZ=(2,2,1):=by decide
 have J:qC qiq=(2,2,1):=by decide
 have C:qC qe0=(2,2,1):=by decide
 unfold isD at F;simp only[wS,beq_iff_eq]at F;refine waI ?_;simp only[qv1,qfZ,qk]
 have o:∀{a b c:Int},qC t.name=(a,b,c)->a=b->(t.kids.length:Int)=a:=λ e L=>by
  have:=qnY K D e;omega
 have l:∀x:T,size (apT nPk [x])=1+size x:=λ x=>by rw[zb];show 1+(size x+0)=_;omega
 obtain ((((d|d)|d)|d)|d)|d:=F
 .have y:=o (a:=1) (b:=1) (c:=3) (by rw[d];decide) rfl;refine waC (qdw (by omega)) (waF (by rw[d];rfl) (waA (qkr _ _) ?_));have f:yk t=isN (kid t 0) qor:=by unfold yk;rw[if_pos (.inl d)]
  refine waB (λ h=>?_) λ h=>?_
  .refine waC (p (k 0) h H) (waE ?_);rw[zF t (f.trans h),if_pos rfl,if_neg (by rw[d];decide),f.trans h]
  .repeat (refine waG (by rw[d];rfl) ?_)
   refine waE ?_;rw[zF t (f.trans h),if_neg (by decide),f.trans h]
 .have y:=o (a:=1) (b:=1) (c:=3) (by rw[d];decide) rfl;refine waC (qdw (by omega)) (waG (by rw[d];rfl) (waF (by rw[d];rfl) (waA (qkr _ _) ?_)));have f:yk t=isN (kid t 0) qor:=by unfold yk;rw[if_pos (.inr d)]
  refine waB (λ h=>?_) λ h=>?_
  .refine waC (r (k 0) h H) (waE ?_);rw[zF t (f.trans h),if_pos rfl,if_pos d,f.trans h]
  .repeat (refine waG (by rw[d];rfl) ?_)
   refine waE ?_;rw[zF t (f.trans h),if_neg (by decide),f.trans h]
 .have y:=o (a:=2) (b:=2) (c:=3) (by rw[d];decide) rfl;refine waC (qdw (by omega)) (waG (by rw[d];rfl) (waG (by rw[d];rfl) (waF (by rw[d];rfl) (waA (qkr _ _) ?_))));have f:yk t=(isN (kid t 0) qoZ&&yj (kid (kid t 0) 1) (kid t 1)):=by unfold yk;rw[if_neg (by rw[d];decide),if_pos d]
  refine waB (λ h=>?_) λ h=>?_
  .refine waC (r (k 0) h I) (waC (qrU (by omega)) (waA (qfX _ _ (by have:=s 0 1;omega) (by have:=B 1;omega)) (waB (λ q=>?_) λ q=>?_)))
   .have g:yk t=true:=by rw[f,show isN (kid t 0) qoZ=true from h,q];rfl
    refine waC (p (k 0) h I) (waE ?_);rw[zF t g,if_pos rfl,if_neg (by rw[d];decide),g]
   .have g:yk t=false:=by rw[f,q,xH]
    repeat (refine waG (by rw[d];rfl) ?_)
    refine waE ?_;rw[zF t g,if_neg (by decide),g]
  .have g:yk t=false:=by rw[f,show isN (kid t 0) qoZ=false from h];rfl
   repeat (refine waG (by rw[d];rfl) ?_)
   refine waE ?_;rw[zF t g,if_neg (by decide),g]
 .have y:=o (a:=2) (b:=2) (c:=3) (by rw[d];decide) rfl;refine waC (qdw (by omega)) (waG (by rw[d];rfl) (waG (by rw[d];rfl) (waG (by rw[d];rfl) (waF (by rw[d];rfl) (waA (qkr _ _) ?_)))));have f:yk t=(isN (kid t 0) qiq&&isN (kid (kid t 0) 1) nPk&&yj (kid (kid (kid t 0) 1) 0) (kid t 1)):=by unfold yk;rw[if_neg (by rw[d];decide),if_neg (by rw[d];decide),if_pos d]
  refine waB (λ h=>?_) λ h=>?_
  .have z:=(yM.1 h).1;refine waC (r (k 0) h J) (waC (qrU (by omega)) (waA (qe4 nPk [kid t 1] (by simp)) (waA (qfX _ _ (by have:=s 0 1;omega) (by rw[l];have:=B 1;omega)) ?_)));rw[qFd (A 0 1 z) (v 0 1 z)];refine waB (λ q=>?_) λ q=>?_
   .have g:yk t=true:=by rw[f,show isN (kid t 0) qiq=true from h,ke,q]
    refine waC (p (k 0) h J) (waE ?_);rw[zF t g,if_pos rfl,if_neg (by rw[d];decide),g]
   .have g:yk t=false:=by rw[f,show isN (kid t 0) qiq=true from h,ke,q]
    repeat (refine waG (by rw[d];rfl) ?_)
    refine waE ?_;rw[zF t g,if_neg (by decide),g]
  .have g:yk t=false:=by rw[f,show isN (kid t 0) qiq=false from h];rfl
   repeat (refine waG (by rw[d];rfl) ?_)
   refine waE ?_;rw[zF t g,if_neg (by decide),g]
 .have y:=o (a:=2) (b:=2) (c:=3) (by rw[d];decide) rfl;refine waC (qdw (by omega)) (waG (by rw[d];rfl) (waG (by rw[d];rfl) (waG (by rw[d];rfl) (waG (by rw[d];rfl) (waF (by rw[d];rfl) (waA (qkr _ _) ?_))))));have f:yk t=(isN (kid t 0) qe0&&isN (kid t 1) nPk&&yj (kid (kid t 0) 1) (kid (kid t 1) 0)):=by unfold yk;rw[if_neg (by rw[d];decide),if_neg (by rw[d];decide),if_neg (by rw[d];decide),if_pos d]
  refine waB (λ h=>?_) λ h=>?_
  .refine waC (qrU (by omega)) (waC (r (k 0) h C) (waA (qe4 nPk [kid (kid t 0) 1] (by simp)) (waA (qfX _ _ (by have:=B 1;omega) (by rw[l];have:=s 0 1;omega)) ?_)));rw[qFd (k 1) (w 1),qwi (kid (kid t 1) 0)];refine waB (λ q=>?_) λ q=>?_
   .have g:yk t=true:=by rw[f,show isN (kid t 0) qe0=true from h,ke,q]
    refine waC (p (k 0) h C) (waE ?_);rw[zF t g,if_pos rfl,if_neg (by rw[d];decide),g]
   .have g:yk t=false:=by rw[f,show isN (kid t 0) qe0=true from h,ke,q]
    repeat (refine waG (by rw[d];rfl) ?_)
    refine waE ?_;rw[zF t g,if_neg (by decide),g]
  .have g:yk t=false:=by rw[f,show isN (kid t 0) qe0=false from h];rfl
   repeat (refine waG (by rw[d];rfl) ?_)
   refine waE ?_;rw[zF t g,if_neg (by decide),g]
 .have y:=o (a:=1) (b:=1) (c:=3) (by rw[d];decide) rfl;refine waC (qdw (by omega)) (waG (by rw[d];rfl) (waG (by rw[d];rfl) (waG (by rw[d];rfl) (waG (by rw[d];rfl) (waG (by rw[d];rfl) (waF (by rw[d];rfl) (waA (qkr _ _) ?_)))))));have f:yk t=isN (kid t 0) qe0:=by unfold yk;rw[if_neg (by rw[d];decide),if_neg (by rw[d];decide),if_neg (by rw[d];decide),if_neg (by rw[d];decide),if_pos d]
  refine waB (λ h=>?_) λ h=>?_
  .refine waC (p (k 0) h C) (waE ?_);rw[zF t (f.trans h),if_pos rfl,if_neg (by rw[d];decide),f.trans h]
  .repeat (refine waG (by rw[d];rfl) ?_)
   refine waE ?_;rw[zF t (f.trans h),if_neg (by decide),f.trans h]
end Go.AmZ
namespace Go.AmZ
open Go Go.GxZ
theorem qiD(t:T):szP (ofP t).1<=400:=by
 unfold ofP;split
 .exact we _
 .rename_i h;split
  .exact we _
  .split
   .exact we _
   .have c:=qEZ t [] 1;have b:=QI (xb h);have a:szP ([]:List Pw)=0:=rfl;show szP (jt t [] 1)<=_;omega
theorem qFC(a b:List Pw):szP (qls a b).1<=160000:=by
 unfold qls;split
 .exact we _
 .rename_i d;split
  .exact we _
  .rename_i c;split
   .exact we _
   .split
    .exact we _
    .let⟨_,_,h,_⟩:=qhp (xb d) (xb c) b.length;rw[wG]at h;exact h
theorem qLb(b e:T)(k:zl b=0)(n:size b<=1000000000)(j:size e<=1000000000):Ev (λ m _=>qgx m b e) (qo0 b e):=by
 refine waI ?_;simp only[qx8,qhf,qk]
 have g:∀(l:List Pw) (x:T),szP l<=1000000000->Ev (λ m _=>cond (ieq (l.length:Int) 0) (some (x,(0:Int))) (qb (Je m l) λ v=>cond (qh (ieq v.2 0)) (some (T.mk 0 [] 0 [],v.2)) (qb (qgC m [101,120,112] [x,v.1]) λ w=>some (w,0)))) (qhR x l):=by
  intro l x o;unfold qhR;refine waB (λ h=>?_) λ h=>?_
  .rw[ql]at h;rw[if_pos (by omega)];exact waD _
  .rw[qi]at h;rw[if_neg (by omega)];refine waA (qCW l o) (waB (λ h=>?_) λ h=>?_)
   .rw[bnt,qi]at h;rw[if_pos h];exact waD _
   .rw[bnf,ql]at h;rw[if_neg (by omega)];exact waA (qN6 _ _) (waD _)
 unfold qo0;refine waA (qCA e j) (waB (λ h=>?_) λ h=>?_)
 .rw[bnt,qi]at h;rw[if_pos h];exact waD _
 rw[bnf,ql]at h;rw[if_neg (by omega)];refine waA (qjy _ _) (waB (λ f=>?_) λ f=>?_)
 .rw[if_pos (show isN b qfg=true from f)];have s:=qaG b 1;refine waC (qcs (i:=1) k f (a:=2) (b:=2) (c:=1) (by decide) (by decide)) (waA (qCA _ (by omega)) (waB (λ d=>?_) λ d=>?_))
  .rw[bnt,qi]at d;rw[if_pos d];exact waD _
  rw[bnf,ql]at d;rw[if_neg (by omega)];have r:=qiD (kid b 1);have p:=qiD e;have q:=qFC (ofP (kid b 1)).1 (ofP e).1;refine waA (qMX _ _ (by omega) (by omega)) (waB (λ d=>?_) λ d=>?_)
  .rw[bnt,qi]at d;rw[if_pos d];exact waD _
  rw[bnf,ql]at d;rw[if_neg (by omega)];exact waC (qcs (i:=0) k f (a:=2) (b:=2) (c:=1) (by decide) (by decide)) (g _ _ (by omega))
 .rw[if_neg (by rw[show isN b qfg=false from f];decide)];have p:=qiD e;exact g _ _ (by omega)
theorem qKA(b e:T)(k:zl b=0)(n:size b<=1000000000)(j:size e<=1000000000):Ev (λ m _=>qim m b e) (qo0 b e):=by
 refine waI ?_;simp only[qz7,qh8,qk]
 have g:∀(l:List Pw) (x:T),szP l<=1000000000->Ev (λ m _=>cond (ieq (l.length:Int) 0) (some (x,(0:Int))) (qb (qcV m l) λ v=>cond (qh (ieq v.2 0)) (some (T.mk 0 [] 0 [],v.2)) (qb (yE m [101,120,112] [x,v.1]) λ w=>some (w,0)))) (qhR x l):=by
  intro l x o;unfold qhR;refine waB (λ h=>?_) λ h=>?_
  .rw[ql]at h;rw[if_pos (by omega)];exact waD _
  .rw[qi]at h;rw[if_neg (by omega)];refine waA (qBr l o) (waB (λ h=>?_) λ h=>?_)
   .rw[bnt,qi]at h;rw[if_pos h];exact waD _
   .rw[bnf,ql]at h;rw[if_neg (by omega)];exact waA (qe4 _ _ (by simp)) (waD _)
 unfold qo0;refine waA (qCj e j) (waB (λ h=>?_) λ h=>?_)
 .rw[bnt,qi]at h;rw[if_pos h];exact waD _
 rw[bnf,ql]at h;rw[if_neg (by omega)];refine waA (qkr _ _) (waB (λ f=>?_) λ f=>?_)
 .rw[if_pos (show isN b qfg=true from f)];have s:=qaG b 1;refine waC (qcs (i:=1) k f (a:=2) (b:=2) (c:=1) (by decide) (by decide)) (waA (qCj _ (by omega)) (waB (λ d=>?_) λ d=>?_))
  .rw[bnt,qi]at d;rw[if_pos d];exact waD _
  rw[bnf,ql]at d;rw[if_neg (by omega)];have r:=qiD (kid b 1);have p:=qiD e;have q:=qFC (ofP (kid b 1)).1 (ofP e).1;refine waA (qMv _ _ (by omega) (by omega)) (waB (λ d=>?_) λ d=>?_)
  .rw[bnt,qi]at d;rw[if_pos d];exact waD _
  rw[bnf,ql]at d;rw[if_neg (by omega)];exact waC (qcs (i:=0) k f (a:=2) (b:=2) (c:=1) (by decide) (by decide)) (g _ _ (by omega))
 .rw[if_neg (by rw[show isN b qfg=false from f];decide)];have p:=qiD e;exact g _ _ (by omega)
theorem qBp{t:T}(h:isD t.name=true):JX t=(qi6 t,0):=by unfold JX;rw[if_pos h]
theorem qDl{t:T}(h:t.name=qep):JX t=qoS t.kids:=by unfold JX;rw[if_neg (by rw[h];decide),if_pos h]
theorem qBF{t:T}(h:t.name=qf8\/t.name=Jh\/t.name=qje):JX t=qlY t:=by
 unfold JX;rw[if_neg (by obtain h|h|h:=h<;>rw[h]<;>decide),if_neg (by obtain h|h|h:=h<;>rw[h]<;>decide),if_pos h]
theorem qBU{t:T}(h:t.name=qfg):JX t=qo0 (kid t 0) (kid t 1):=by
 unfold JX;rw[if_neg (by rw[h];decide),if_neg (by rw[h];decide),if_neg (by rw[h];decide),if_pos h]
theorem qzf{t:T}(d:isD t.name=false)(c:t.name≠qep)(b:¬ (t.name=qf8\/t.name=Jh\/t.name=qje))(a:t.name≠qfg):JX t=(t,0):=by
 unfold JX;rw[if_neg (by rw[d];decide),if_neg c,if_neg b,if_neg a]
theorem qHF(n:List UInt8):(qC n).2.2=3↔isD n=true:=by
 constructor
 .intro h;obtain b|⟨r,c,a,b⟩:=qu4 n
  .rw[qwm b]at h;cases h
  .rw[qoD b]at h;have:jH.all (λ r => !decide (r.2.2.2=3)||isD r.1)=true:=by decide
   have:=wo.1 this r c;rw[decide_eq_true h]at this;rw[<-a];exact this
 .intro h;unfold isD at h;simp only[wS,beq_iff_eq]at h;obtain ((((a|a)|a)|a)|a)|a:=h<;>rw[a]<;>decide
def nks(l:List T):List T:=(l.map zQ).map (·.1)
theorem qr5(l:List T):(nks l).length=l.length:=by unfold nks;simp
theorem qHN(l:List T):szL (nks l)<=402*szL l:=by
 induction l with
 |nil=>exact wa _
 |cons k l a=>
   have:=qwX k;show szL ((zQ k).1::nks l)<=_;rw[qR,qR];omega
theorem qCN{l:List T}{i:Nat}{x:T}(h:l[i]?=some x):nks (l.take (i+1))=nks (l.take i)++[(zQ x).1]:=by
 unfold nks;rw[ya h,wU,wU];rfl
def erN(l:List T):Int:=((l.map zQ).map (·.2)).foldl thn 0
theorem qBO{l:List T}{i:Nat}{x:T}(h:l.drop i=x::l.drop (i+1)):erN (l.drop i)=if(zQ x).2≠0 then(zQ x).2 else erN (l.drop (i+1)):=by
 unfold erN;rw[h,wv,wv];by_cases a:(zQ x).2=0
 .rw[if_neg (by omega),a];rfl
 .rw[if_pos a];exact qT _ a
theorem qFG{t:T}(a:t.kind=3):zQ t=if erN t.kids≠0 then(zT,erN t.kids)else JX (apT t.name (nks t.kids)):=by rw[qnJ,if_neg (λ h=>h a)];rfl
theorem qEB{t:T}(c:t.kind=3)(f:zl t=0)(e:∀k∈t.kids,(zQ k).2=0):zl (apT t.name (nks t.kids))=0/\∀k∈nks t.kids,zl k=0:=by
 let⟨h,g⟩:=qay c f
 have a:∀k∈nks t.kids,zl k=0:=λ k a=>by
  obtain⟨q,d,rfl⟩:=wA.1 a;obtain⟨j,b,rfl⟩:=wA.1 d;exact qKp j (g j b) (e j b)
 exact⟨qiI (qBM c h) a,a⟩
theorem qJe(t:T):size t<=2000->zl t=0->Ev (λ m _=>yx m t) (zQ t):=by
 induction t using T.ind with
 |h t F=>
   intro hs E;have hl:=yJ t;have hz:=zb t;refine waI ?_;simp only[qwo,qc9,qk];by_cases n:t.kind=3
   rotate_left
   .refine waF (bnt.2 (qi.2 n)) (waE (qiy n).symm)
   refine waG (bnf.2 (ql.2 n)) ?_;rw[qFG n];have y:=(qay n E).2
   have s:=qw (P:=λ i=>(∀k∈t.kids.take i,(zQ k).2=0)->Ev (λ m k=>Q9 m (yx m) k t.kids t.kids.length i t.kind t.name t.sort t.kids 0 [] 0 3 t.name 0 [] (nks (t.kids.take i))) (if erN (t.kids.drop i)≠0 then(zT,erN (t.kids.drop i))else JX (apT t.name (nks t.kids)))) t.kids (by omega)
    (λ g q=>by
     refine waH ?_;simp only[qk4,qcI,qk];refine waG g ?_;rw[wG]at q |-
     rw[wX,if_neg (show ¬ erN []≠0 from λ h=>h rfl)];let⟨r,c2⟩:=qEB n E q;have Y:=qHN t.kids;have X:szL t.kids+1=size t:=by unfold szL;omega
     have H:=qr5 t.kids;generalize nks t.kids=ks at *;have G:T.mk 3 t.name 0 ks=apT t.name ks:=rfl;rw[G];have W:size (apT t.name ks)=1+szL ks:=zb _
     have e:isD t.name=true->Ev (λ m _=>qb (qcr m (apT t.name ks)) λ v=>some (v,(0:Int))) (JX (apT t.name ks)):=λ l=>by
      rw[qBp (show isD (apT t.name ks).name=true from l)];exact waA (qGZ _ rfl r l (by omega)) (waD _)
     have f:t.name=qf8\/t.name=Jh\/t.name=qje->Ev (λ m _=>qb (qbK m (apT t.name ks)) λ v=>cond (qh (ieq v.2 0)) (some (T.mk 0 [] 0 [],v.2)) (qb (Je m v.1) λ w=>some (w.1,w.2))) (JX (apT t.name ks)):=λ p=>by
      rw[qBF (show(apT t.name ks).name=qf8\/(apT t.name ks).name=Jh\/(apT t.name ks).name=qje from p)];unfold qlY;have A:=qiD (apT t.name ks);refine waA (qCA _ (by omega)) (waB (λ h=>?_) λ h=>?_)
      .rw[bnt,qi]at h;rw[if_pos h];exact waD _
      .rw[bnf,ql]at h;rw[if_neg (by omega)];exact waA (qCW _ (by omega)) (waD _)
     refine waB (λ h=>e (by rw[yT.1 h];decide)) λ V=>?_;refine waB (λ h=>e (by rw[yT.1 h];decide)) λ U=>?_;refine waB (λ h=>e (by rw[yT.1 h];decide)) λ B=>?_;refine waB (λ h=>e (by rw[yT.1 h];decide)) λ A=>?_;refine waB (λ h=>e (by rw[yT.1 h];decide)) λ S=>?_;refine waB (λ h=>e (by rw[yT.1 h];decide)) λ R=>?_;refine waB (λ h=>?_) λ Q=>?_
     .rw[qDl (show(apT t.name ks).name=qep from yT.1 h)];exact waA (qMn ks (by omega)) (waD _)
     refine waB (λ h=>f (.inl (yT.1 h))) λ O=>?_;refine waB (λ h=>f (.inr (.inl (yT.1 h)))) λ N=>?_;refine waB (λ h=>f (.inr (.inr (yT.1 h)))) λ D=>?_;refine waB (λ h=>?_) λ C=>?_
     .have d:t.name=qfg:=yT.1 h;rw[qBU (show(apT t.name ks).name=qfg from d)];have o:isN (apT t.name ks) qfg=true:=yM.2 ⟨rfl,d⟩;have q0:=qaG (apT t.name ks) 0;have Z:=qaG (apT t.name ks) 1;refine waC (qcs (t:=apT t.name ks) (i:=0) r o (a:=2) (b:=2) (c:=1) (by decide) (by decide)) (waC (qcs (t:=apT t.name ks) (i:=1) r o (a:=2) (b:=2) (c:=1) (by decide) (by decide)) ?_);exact waA (qLb _ _ (qaR JU qbs rfl r 0) (by omega) (by omega)) (waD _)
     .rw[qzf (t:=apT t.name ks) (show isD t.name=false from by
         rw[<-kD];intro l;unfold isD at l;simp only[wS,beq_iff_eq]at l;obtain ((((d|d)|d)|d)|d)|d:=l
         .exact j8.1 V d
         .exact j8.1 U d
         .exact j8.1 B d
         .exact j8.1 A d
         .exact j8.1 S d
         .exact j8.1 R d) (j8.1 Q) (λ h=>by obtain h|h|h:=h;exact j8.1 O h;exact j8.1 N h;exact j8.1 D h) (j8.1 C)]
      exact waD _)
    (λ i x u l g M K z q=>by
     refine waH ?_;simp only[qk4,qcI,qk];have p:=wc u;have I:=jD t x p;rw[qBO l];refine waF g (waC M (waA (F x p (by omega) (y x p)) (waB (λ h=>?_) λ h=>?_)))
     .rw[bnt,qi]at h;rw[if_pos (show(if(zQ x).2≠0 then(zQ x).2 else erN (t.kids.drop (i+1)))≠0 from by rw[if_pos h];exact h),if_pos h];exact waD _
     .rw[bnf,ql]at h;rw[if_neg (show ¬ (zQ x).2≠0 from by omega)];have A:(nks (t.kids.take i)).length<=t.kids.length:=by rw[qr5,wm];omega
      refine waF (zj (by omega) (by omega)) ?_
      have z:=z λ k j=>by
       rw[ya u]at j;obtain j|j:=wk.1 j
       .exact q k j
       .rw[wF.1 j];exact h
      rw[K];refine z.congr λ m k=>?_;rw[qCN u])
   have J:=n;refine waJ (L:=λ m k=>Q9 m (yx m) k t.kids t.kids.length 0 t.kind t.name t.sort t.kids 0 [] 0 3 t.name 0 [] []) ?_;exact(s 0 (we _)) (λ k j=>by rw[xN]at j;cases j)
theorem qG2(t:T):size t<=2000->zl t=0->qe9 t->Ev (λ m _=>jd m t) (zQ t):=by
 induction t using T.ind with
 |h t G=>
   intro hs E o;have hl:=yJ t;have hz:=zb t;refine waI ?_;simp only[qxs,qdE,qk];by_cases g:t.kind=3
   rotate_left
   .refine waF (bnt.2 (qi.2 g)) (waE (qiy g).symm)
   refine waG (bnf.2 (ql.2 g)) ?_;rw[qFG g];have y:=(qay g E).2
   have u:=qw (P:=λ i=>(∀k∈t.kids.take i,(zQ k).2=0)->Ev (λ m k=>Jx m (jd m) k i t.kind t.name t.sort t.kids 0 [] 0 [] (nks (t.kids.take i))) (if erN (t.kids.drop i)≠0 then(zT,erN (t.kids.drop i))else JX (apT t.name (nks t.kids)))) t.kids (by omega)
    (λ e p=>by
     refine waH ?_;simp only[qlS,qdy,qk];refine waG e ?_;rw[wG]at p |-
     rw[wX,if_neg (show ¬ erN []≠0 from λ h=>h rfl)];let⟨s,c2⟩:=qEB g E p
     have F:qe9 (apT t.name (nks t.kids)):=qE0 _ _ λ k f=>by
      obtain⟨q,H,rfl⟩:=wA.1 f;obtain⟨j,K,rfl⟩:=wA.1 H;exact qNa qqz qDG qE0 j (qqz t g o j K)
     have X:=qHN t.kids;have W:szL t.kids+1=size t:=by unfold szL;omega
     have I:=qr5 t.kids;generalize nks t.kids=ks at *;have V:size (apT t.name ks)=1+szL ks:=zb _
     have d:t.name=qf8\/t.name=Jh\/t.name=qje->Ev (λ m _=>qb (qdk m (apT t.name ks)) λ w=>some (w.1,w.2)) (JX (apT t.name ks)):=λ l=>by
      rw[qBF (show(apT t.name ks).name=qf8\/(apT t.name ks).name=Jh\/(apT t.name ks).name=qje from l)];have S:=qiD (apT t.name ks)
      have:Ev (λ m _=>qdk m (apT t.name ks)) (qlY (apT t.name ks)):=by
       refine waI ?_;simp only[quU,qgc,qk];unfold qlY;refine waA (qCj _ (by omega)) (waB (λ h=>?_) λ h=>?_)
       .rw[bnt,qi]at h;rw[if_pos h];exact waD _
       .rw[bnf,ql]at h;rw[if_neg (by omega)];exact waA (qBr _ (by omega)) (waD _)
      exact waA this (waD _)
     have D:=jK ks;refine waA (qe4 t.name ks (by omega)) (waA (qyr t.name) (waB (λ h=>?_) λ U=>?_))
     .have r:=(qHF t.name).1 (ql.1 h);rw[qBp (show isD (apT t.name ks).name=true from r)];exact waA (qDJ _ rfl s F r (by omega)) (waD _)
     refine waB (λ h=>?_) λ R=>?_
     .rw[qDl (show(apT t.name ks).name=qep from yT.1 h)];exact waA (qMW ks (by omega)) (waD _)
     refine waB (λ h=>d (.inl (yT.1 h))) λ Q=>?_;refine waB (λ h=>d (.inr (.inl (yT.1 h)))) λ O=>?_;refine waB (λ h=>d (.inr (.inr (yT.1 h)))) λ B=>?_;refine waB (λ h=>?_) λ A=>?_
     .have C:t.name=qfg:=yT.1 h;rw[qBU (show(apT t.name ks).name=qfg from C)];have n:isN (apT t.name ks) qfg=true:=yM.2 ⟨rfl,C⟩;have Z:=qaG (apT t.name ks) 0;have Y:=qaG (apT t.name ks) 1;refine waC (qcs (t:=apT t.name ks) (i:=0) s n (a:=2) (b:=2) (c:=1) (by decide) (by decide)) (waC (qcs (t:=apT t.name ks) (i:=1) s n (a:=2) (b:=2) (c:=1) (by decide) (by decide)) ?_);exact waA (qKA _ _ (qaR JU qbs rfl s 0) (by omega) (by omega)) (waD _)
     .rw[qzf (t:=apT t.name ks) (show isD t.name=false from by
         rw[<-kD,<-qHF];exact qi.1 U) (j8.1 R) (λ h=>by obtain h|h|h:=h;exact j8.1 Q h;exact j8.1 O h;exact j8.1 B h) (j8.1 A)]
      exact waD _)
    (λ i x v r e N M z p=>by
     refine waH ?_;simp only[qlS,qdy,qk];have l:=wc v;have J:=jD t x l;rw[qBO r];refine waF e (waC N (waA (G x l (by omega) (y x l) (qqz t g o x l)) (waB (λ h=>?_) λ h=>?_)))
     .rw[bnt,qi]at h;rw[if_pos (show(if(zQ x).2≠0 then(zQ x).2 else erN (t.kids.drop (i+1)))≠0 from by rw[if_pos h];exact h),if_pos h];exact waD _
     .rw[bnf,ql]at h;rw[if_neg (show ¬ (zQ x).2≠0 from by omega)];have S:(nks (t.kids.take i)).length<=t.kids.length:=by rw[qr5,wm];omega
      refine waF (zj (by omega) (by omega)) ?_
      have z:=z λ k f=>by
       rw[ya v]at f;obtain f|f:=wk.1 f
       .exact p k f
       .rw[wF.1 f];exact h
      rw[M];refine z.congr λ m k=>?_;rw[qCN v])
   refine waJ (L:=λ m k=>Jx m (jd m) k 0 t.kind t.name t.sort t.kids 0 [] 0 [] []) ?_;exact(u 0 (we _)) (λ k f=>by rw[xN]at f;cases f)
theorem qoc(t:T):qka t=if qdu t≠0 then(zT,qdu t)else if(zQ t).2≠0 then(zT,(zQ t).2)else if qV (zQ t).1≠0 then(zT,qV (zQ t).1)else zQ t:=rfl
theorem qHg(t:T)(d:size t<=1000000000):Ev (λ m _=>qfH m t) (qka t):=by
 refine waI ?_;simp only[qwV,qf5,qk];rw[qoc];refine waA (qEI t d) (waB (λ h=>?_) λ h=>?_)
 .rw[bnt,qi]at h;rw[if_pos h];exact waD _
 rw[bnf,ql]at h;rw[if_neg (by omega)];let⟨c,e⟩:=qmn h;have f:=QI c;have g:=qwX t;refine waA (qJe t (by omega) e) (waB (λ a=>?_) λ a=>?_)
 .rw[ql]at a;rw[if_neg (by omega)];refine waA (qet _ (by omega)) (waB (λ b=>?_) λ b=>?_)
  .rw[bnt,qi]at b;rw[if_pos b];exact waD _
  .rw[bnf,ql]at b;rw[if_neg (by omega)];exact waE (by rw[<-a])
 .rw[qi]at a;rw[if_pos a];exact waF (bnt.2 (qi.2 a)) (waD _)
theorem qHl(t:T)(d:size t<=1000000000):Ev (λ m _=>qgY m t) (qka t):=by
 refine waI ?_;simp only[qxe,qgK,qk];rw[qoc];refine waA (qFq t d) (waB (λ h=>?_) λ h=>?_)
 .rw[bnt,qi]at h;rw[if_pos h];exact waD _
 rw[bnf,ql]at h;rw[if_neg (by omega)];let⟨c,e⟩:=qmn h;have f:=QI c;have g:=qwX t;refine waA (qG2 t (by omega) e (qI7 t (qDK c))) (waB (λ a=>?_) λ a=>?_)
 .rw[bnt,qi]at a;rw[if_pos a];exact waD _
 rw[bnf,ql]at a;rw[if_neg (by omega)];refine waA (qcF _ (by omega)) (waB (λ b=>?_) λ b=>?_)
 .rw[bnt,qi]at b;rw[if_pos b];exact waD _
 .rw[bnf,ql]at b;rw[if_neg (by omega)];exact waE (by rw[<-a])
theorem qvR(t:T):size (qka t).1<=400:=by
 rw[qoc];have:=qke;split
 .show size zT<=_;omega
 .split
  .show size zT<=_;omega
  .split
   .show size zT<=_;omega
   .rename_i h;exact QI (xb h)
end Go.AmZ
namespace Go.AmZ
open Go Go.GxZ
def qdj(p:List UInt8->Bool):T->Bool:=T.para λ t a=>(!(t.kind==3)||p t.name)&&a.all id
theorem qmq(p:List UInt8->Bool)(t:T):qdj p t=((!(t.kind==3)||p t.name)&&(t.kids.map (qdj p)).all id):=T.para_eq _ _
def Q8:T->List T:=T.para λ t a=>t::a.flatten
theorem qcB(t:T):Q8 t=t::(t.kids.map Q8).flatten:=T.para_eq _ _
theorem qot(t:T):(Q8 t).length=size t:=by
 refine T.ind (P:=λ t=>(Q8 t).length=size t) ?_ t;intro t a;rw[qcB,zb,wx,List.length_flatten,xh];have:t.kids.map (List.length ∘ Q8)=t.kids.map size:=kZ λ k b=>a k b;rw[this];omega
theorem qMM(t:T):∀u∈Q8 t,size u<=size t:=by
 refine T.ind (P:=λ t=>∀u∈Q8 t,size u<=size t) ?_ t;intro t c u a;rw[qcB]at a;obtain rfl|a:=ww.1 a
 .exact wa _
 .let⟨l,d,a⟩:=vp.1 a;obtain⟨k,b,rfl⟩:=wA.1 d;have f:=c k b u a;have e:=jD t k b;omega
theorem qF3(p:List UInt8->Bool)(t:T):(Q8 t).all (λ u => !(u.kind==3)||p u.name)=qdj p t:=by
 refine T.ind (P:=λ t=>(Q8 t).all (λ u => !(u.kind==3)||p u.name)=qdj p t) ?_ t;intro t b;rw[qcB,qmq,km,List.all_flatten];congr 1;rw[wag,wag];rw[xJ,wo,wo];exact⟨λ h k a=>(b k a).symm.trans (h k a),λ h k a=>(b k a).trans (h k a)⟩
def pPl(n:List UInt8):Bool:=qh (ieq (qC n).2.2 3)
theorem qH3(n:List UInt8):Ev (λ m _=>qeC m n) (pPl n):=by
 refine waI ?_;simp only[qua,qfi];refine waA (qzn n) (waE ?_);unfold pPl;rw[<-qtX]
theorem qJw(t:T):size t<=1000000000->Ev (λ m _=>zf m t) (qdj pPl t):=by
 induction t using T.ind with
 |h t j=>
   intro r;have s:=yJ t;refine waI ?_;simp only[qoC,J1]
   have d:=qw (P:=λ i=>Ev (λ m k=>yz m (zf m) k t.kids t.kids.length i) (((t.kids.drop i).map (qdj pPl)).all id)) t.kids (by omega)
    (λ f=>by
     refine waH ?_;simp only[qgl,J4];refine waG f (waE ?_);rw[wX];rfl)
    (λ i x l p f o n q=>by
     refine waH ?_;simp only[qgl,J4,qk];have g:=wc l;have u:=jD t x g;rw[p,wv,km];refine waF f (waC o (waA (j x g (by omega)) (waB (λ b=>?_) λ b=>?_)))
     .rw[bnt]at b;rw[b];exact waD _
     .rw[bnf]at b;rw[b,n];exact q)
   have a:Ev (λ m _=>yz m (zf m) m t.kids t.kids.length 0) ((t.kids.map (qdj pPl)).all id):=
    waJ (L:=λ m k=>yz m (zf m) k t.kids t.kids.length 0) ((d 0 (we _)).res (by rw[wP]))
   rw[qmq];refine waB (λ c=>?_) λ c=>?_
   .rw[ql]at c;have e:(!(t.kind==3))=false:=by rw[c];rfl
    rw[e,xV];refine waA (qH3 t.name) (waB (λ h=>?_) λ h=>?_)
    .rw[bnt]at h;rw[h];exact waD _
    .rw[bnf]at h;rw[h];exact a
   .rw[qi]at c;have e:(!(t.kind==3))=true:=by rw[wL,beq_eq_false_iff_ne];exact c
    rw[e,xw];exact a
theorem qEC(t:T):size t<=1000000000->Ev (λ m _=>Qj m t) (Q8 t):=by
 induction t using T.ind with
 |h t n=>
   intro r;have s:=yJ t;have b:=qot t;refine waI ?_;simp only[qEk,qhC,qk];rw[qcB]at b |-
   have a:∀i,((t.kids.take i).map Q8).flatten.length<=(t.kids.map Q8).flatten.length:=λ i=>by
    have:=congrArg (λ l=>(l.map Q8).flatten.length) (kz i t.kids);simp only[wU,xt,wd]at this;omega
   have c:=qw (P:=λ i=>Ev (λ m k=>qbV m (Qj m) k i t.kind t.name t.sort t.kids (t::((t.kids.take i).map Q8).flatten)) (t::(t.kids.map Q8).flatten)) t.kids (by omega)
    (λ d=>by
     refine waH ?_;simp only[qrE,qg8];refine waG d ?_;rw[wG];exact waD _)
    (λ i x f u d p o j=>by
     refine waH ?_;simp only[qrE,qg8,qk];have g:=wc f;have v:=jD t x g;have q:=a (i+1)
     have e:((t.kids.take (i+1)).map Q8).flatten=((t.kids.take i).map Q8).flatten++Q8 x:=by
      rw[ya f,wU,xt];simp
     rw[e,wd]at q;rw[e]at j;rw[wx]at b;refine waF d (waC p (waA (n x g (by omega)) (waF (zj (by rw[wx];omega) (by omega)) ?_)));rw[o];exact j)
   refine waJ (L:=λ m k=>qbV m (Qj m) k 0 t.kind t.name t.sort t.kids [t]) ?_;exact c 0 (we _)
def qdd(t:T):Bool:=decide ((qka t).2=0)&&(yj (qka t).1 t&&qdj pPl t)
theorem qHU(t:T)(a:size t<=1000000000):Ev (λ m _=>qeq m t) (qdd t):=by
 have c:=qvR t;refine waI ?_;simp only[qxD,qg9,qk];unfold qdd;refine waA (qHg t a) (waB (λ h=>?_) λ h=>?_)
 .rw[ql]at h;rw[decide_eq_true h,ke];refine waA (qol _ _ (by omega) a) (waB (λ b=>?_) λ b=>?_)
  .rw[b,ke];exact waA (qJw t a) (waD _)
  .rw[b,kQ];exact waD _
 .rw[qi]at h;rw[decide_eq_false h,kQ];exact waD _
theorem qI9(t:T)(e:size t<=1000000000):Ev (λ m _=>qiu m t) (qdd t):=by
 have s:=qvR t;refine waI ?_;simp only[qAu,qeu,qk];unfold qdd;refine waA (qHl t e) (waB (λ h=>?_) λ h=>?_)
 .rw[bnt,qi]at h;rw[decide_eq_false h,kQ];exact waD _
 rw[bnf,ql]at h;rw[decide_eq_true h,ke,qwi];refine waA (qfX _ _ e (by omega)) (waB (λ c=>?_) λ c=>?_)
 .rw[bnt]at c;rw[c,kQ];exact waD _
 rw[bnf]at c;rw[c,ke,<-qF3];refine waA (qEC t e) ?_;have p:=qot t;generalize Q8 t=l at*
 have d:=qw (P:=λ i=>Ev (λ m k=>qaa m k l i) ((l.drop i).all λ u => !(u.kind==3)||pPl u.name)) l (by omega)
  (λ g=>by
   refine waH ?_;simp only[qnt,qeD];refine waG g (waE ?_);rw[wX];rfl)
  (λ i x r q g n j o=>by
   refine waH ?_;simp only[qnt,qeD];rw[q,km];refine waF g (waC n (waB (λ b=>?_) λ b=>?_))
   .rw[ql]at b;have f:(!(x.kind==3))=false:=by rw[b];rfl
    rw[f,xV];refine waC n (waA (qyr x.name) (waB (λ a=>?_) λ a=>?_))
    .have:pPl x.name=false:=by unfold pPl;rw[a];rfl
     rw[this];exact waD _
    .rw[j];refine o.res ?_;have:pPl x.name=true:=by unfold pPl;rw[a];rfl
     rw[this];rfl
   .rw[qi]at b;have f:(!(x.kind==3))=true:=by rw[wL,beq_eq_false_iff_ne];exact b
    rw[f,xw,j,ke];exact o)
 refine waJ (L:=λ m k=>qaa m k l 0) ?_;exact(d 0 (we _)).res (by rw[wP])
end Go.AmZ
namespace Go.AmZ
open Go Go.GxZ Go.Sort Go.Proofs Go.Proofs.YtinbdcelmgfniaaGreatDoor
def zN(k:Int)(t:T):List T:=(Q8 t).filter λ x=>decide (x.kind=k)
def qgh(t:T):Bool:=(zN 1 t).isEmpty
theorem qmu(k:Int)(t:T):zN k t=(if t.kind=k then[t]else[])++(t.kids.map (zN k)).flatten:=by
 unfold zN;rw[qcB,List.filter_cons,List.filter_flatten,xh];by_cases h:t.kind=k<;>simp[h,vG,zN]
theorem qjS(k:Int)(t:T):(zN k t).length<=size t:=by
 have:=ve (λ x:T=>decide (x.kind=k)) (Q8 t);rw[qot]at this;exact this
theorem qyx(k:Int)(t:T):∀u∈zN k t,size u<=size t:=λ u a=>qMM t u ((kN.1 a).1)
theorem qEt{s:Nat}:∀{l:List T},(∀u∈l,size u<=s)->szL l<=l.length*s
 |[],_=>by simp[szL]
 |x::l,h=>by
   have:=qEt λ u a=>h u (wg _ a);have b:=h x (wi ..);rw[qR,wx,kU];omega
theorem qLe(x:T)(k:Int)(l:List T)(b:l.length<=1000000000):Ev (λ m _=>qal m x k l) ((k,l++(if x.kind=k then[x]else[]),()),()):=by
 refine waI ?_;simp only[qm3,qbi,qk];by_cases h:x.kind=k
 .rw[if_pos h];refine waF (ql.2 h) (waF (zj (by omega) (by omega)) (waC (a:=T.mk 0 [] 0 []) (by rw[Qe];simp) (waE ?_)));rw[qea];simp
 .rw[if_neg h,wy];exact waG (qi.2 h) (waD _)
theorem qNJ(t:T)(k:Int):size t<=1000000000->∀l:List T,l.length+size t<=1000000000->Ev (λ m _=>zu m t k l) ((k,l++zN k t,()),()):=by
 induction t using T.ind with
 |h t v=>
   intro C l D;have w:=yJ t;refine waI ?_;simp only[qpV,qan,qk];refine waA (qLe t k l (by omega)) ?_;simp only;obtain⟨b,a⟩:∃b,b=l++(if t.kind=k then[t]else[]):=⟨_,rfl⟩
   rw[<-a];have j:=qjS k t;rw[qmu,wd]at j;have r:b.length+((t.kids.map (zN k)).flatten).length=l.length+((if t.kind=k then[t]else[]).length+((t.kids.map (zN k)).flatten).length):=by rw[a,wd];omega
   have p:∀i,((t.kids.take i).map (zN k)).flatten.length<=(t.kids.map (zN k)).flatten.length:=λ i=>by
    have:=congrArg (λ l=>(l.map (zN k)).flatten.length) (kz i t.kids);simp only[wU,xt,wd]at this;omega
   have g:∀i x,t.kids[i]?=some x->b.length+((t.kids.take i).map (zN k)).flatten.length+size x<=1000000000:=λ i x c=>by
    have B:((t.kids.take i).map (zN k)).flatten.length<=szL (t.kids.take i):=by
     have o:∀l:List T,((l.map (zN k)).flatten).length<=szL l:=by
      intro l
      induction l with
      |nil=>simp[szL]
      |cons y l u=>rw[wv,xY,wd,qR];have:=qjS k y;omega
     exact o _
    have H:=Qx c;have G:szL t.kids+1<=size t:=by rw[zb];unfold szL;omega
    have F:b.length<=l.length+1:=by rw[a,wd];split<;>simp
    omega
   have f:=qw (P:=λ i=>Ev (λ m d=>jC m (zu m) d t.kids t.kids.length i k (b++((t.kids.take i).map (zN k)).flatten)) ((k,b++(t.kids.map (zN k)).flatten,()),())) t.kids (by omega)
    (λ n=>by
     refine waH ?_;simp only[qhA,qaq];refine waG n ?_;rw[wG];exact waD _)
    (λ i x c E n A z s=>by
     refine waH ?_;simp only[qhA,qaq,qk];have q:=wc c;have B:=jD t x q;refine waF n (waC A (waA (v x q (by omega) _ (by rw[wd];exact g i x c)) ?_));rw[z]
     have e:((t.kids.take (i+1)).map (zN k)).flatten=((t.kids.take i).map (zN k)).flatten++zN k x:=by
      rw[ya c,wU,xt];simp
     rw[e,<-wj]at s;exact s)
   rw[qmu,<-wj,<-a];refine waJ (L:=λ m d=>jC m (zu m) d t.kids t.kids.length 0 k b) ?_;have:=f 0 (we _);simpa using this
theorem qNt{F G:T->T->Option Int}{l:List T}(h:∀x∈l,∀y∈l,F x y=G x y):Jj F l=Jj G l:=by
 funext i j;unfold Jj;cases b:l[i%l.length]? with
 |none=>rfl
 |some x=>cases a:l[j%l.length]? with
   |none=>rfl
   |some y=>simp only;rw[h x (wc b) y (wc a)]
theorem qzj{a:Type}{F:T->T->Option a}{l:List T}(h:∀x∈l,∀y∈l,(F x y).isSome=true):qcq F l=true:=
 wo.2 λ x c=>wo.2 λ y b=>h x c y b
theorem qNv{n:Nat}{lt:Nat->Nat->Bool}(h:SWO lt):quw n lt=true:=by
 unfold quw;refine wo.2 λ i _=>?_;rw[wb];refine⟨by rw[h.irrefl];rfl,wo.2 λ j _=>wo.2 λ k _=>?_⟩;rw[wb];constructor
 .cases b:lt i j with
  |false=>rfl
  |true=>cases a:lt j k with
    |false=>rfl
    |true=>rw[h.trans i j k b a];rfl
 .cases b:lt i j with
  |true=>rfl
  |false=>cases a:lt j k with
    |true=>rfl
    |false=>rw[h.ntrans i j k b a];rfl
theorem qPP(l:List T):SWO (ltOf (Jj (λ x y=>some (qs x y)) l)):=by
 have hlt:∀ i j,ltOf (Jj (λ x y=>some (qs x y)) l) i j=true↔∃ x y,l[i % l.length]?=some x/\l[j % l.length]?=some y/\qs x y=-1 := λ i j=>by
  unfold ltOf Jj;rw[decide_eq_true_iff];cases hx:l[i % l.length]? with
  | none=>simp
  | some x=>cases hy:l[j % l.length]? with
    | none=>simp
    | some y =>
      simp only[Option.getD_some];have:=yd.rng x y;constructor
      ·intro h;exact⟨x,y,rfl,rfl,by omega⟩
      ·rintro⟨_,_,h1,h2,h3⟩;cases h1;cases h2;omega
 refine⟨λ i=>?_,λ i j k h1 h2=>?_,λ i j k h1 h2=>?_⟩
 ·rw[Bool.eq_false_iff];intro h;obtain⟨x,y,h1,h2,h3⟩:=(hlt _ _).1 h;rw[h1]at h2;cases h2;rw[qqf]at h3;cases h3
 ·obtain⟨x,y,a1,a2,a3⟩:=(hlt _ _).1 h1;obtain⟨y',z,b1,b2,b3⟩:=(hlt _ _).1 h2;rw[a2]at b1;cases b1;exact(hlt _ _).2 ⟨x,z,a1,b2,yd.trans x y z a3 b3⟩
 ·rw[Bool.eq_false_iff]at h1 h2 |-
  intro h;obtain⟨x,z,a1,a2,a3⟩:=(hlt _ _).1 h;have hn:0<l.length:=by have:=getElem?_lt a1;omega
  obtain⟨y,hj⟩:∃ y,l[j % l.length]?=some y:=⟨_,List.getElem?_eq_getElem (xW _ hn)⟩
  have n1:qs x y≠-1 := λ he=>h1 ((hlt _ _).2 ⟨x,_,a1,hj,he⟩);have n2:qs y z≠-1 := λ he=>h2 ((hlt _ _).2 ⟨_,z,hj,a2,he⟩);have r1:=yd.rng x y;have r2:=yd.rng y z;rcases r1 with r1 | r1 | r1
  ·exact n1 r1
  ·have:=qaz _ _ r1;rw[<- this]at n2;exact n2 a3
  ·rcases r2 with r2 | r2 | r2
   ·exact n2 r2
   ·have:=qaz _ _ r2;rw[this]at n1;exact n1 a3
   ·have e1:qs y x=-1:=by rw[yd.anti];omega
    have e2:qs z y=-1:=by rw[yd.anti];omega
    have e3:=yd.trans _ _ _ e2 e1;have e4:=yd.anti x z;omega
theorem qDc{k:Type}{F:Nat->T->T->Option k}{g:T->T->k}(l:List T)(h:∀x∈l,∀y∈l,Ev (λ m _=>F m x y) (g x y)):∃B,∀m,B<=m->∀x∈l,∀y∈l,F m x y=some (g x y):=by
 have d:∀(x:T),(∀y∈l,Ev (λ m _=>F m x y) (g x y))->∀r:List T,(∀y∈r,y∈l)->∃B,∀m,B<=m->∀y∈r,F m x y=some (g x y):=by
  intro x n r
  induction r with
  |nil=>exact λ _=>⟨0,λ _ _ y f=>by cases f⟩
  |cons y r e=>
    intro b;let⟨B,j⟩:=e λ z a=>b z (wg _ a);let⟨D,i⟩:=n y (b y (wi ..));refine⟨max B D,λ m o z a=>?_⟩;obtain rfl|a:=ww.1 a
    .exact i m D (by omega) (wa _)
    .exact j m (by omega) z a
 have c:∀r:List T,(∀y∈r,y∈l)->∃B,∀m,B<=m->∀x∈r,∀y∈l,F m x y=some (g x y):=by
  intro r
  induction r with
  |nil=>exact λ _=>⟨0,λ _ _ y f=>by cases f⟩
  |cons x r e=>
    intro b;let⟨B,j⟩:=e λ z a=>b z (wg _ a);let⟨D,i⟩:=d x (h x (b x (wi ..))) l λ _ h=>h;refine⟨max B D,λ m o z a=>?_⟩;obtain rfl|a:=ww.1 a
    .exact i m (by omega)
    .exact j m (by omega) z a
 exact c l λ _ h=>h
theorem qCu{α:Type}{l:List α}{b:List Nat}:∀x∈pick l b,x∈l:=λ x a=>by
 unfold pick at a;let⟨i,_,h⟩:=kW.1 a;exact wc h
theorem qMt(l:List T)(hl:l.length<=100000)(hs:∀ t∈l,size t<=1000000000):∃ l',Ev (λ m _=>zc m l) l'/\l'.length=l.length/\∀ x∈l',x∈l:=by
 cases hl0:l with
 | nil=>exact⟨[],waI (Ev.congr (waD _) λ m _=>rfl),rfl,λ x h=>h⟩
 | cons x0 r0 =>
   rw[<- hl0];obtain⟨B,hB⟩:=qDc (F := λ m x y=>qv m x y) l λ x hx y hy=>qdp x (hs x hx) y (hs y hy);have hne:l≠[]:=by rw[hl0];exact vl _ _
   have hO:=qPP l;obtain⟨hp,_⟩:=qsX (λ x y=>some (qs x y)) l hO;have hlt:∀ i∈qaK (λ x y=>some (qs x y)) l,i<l.length := λ i hi=>kP.1 (hp.mem_iff.1 hi);refine⟨pick l (qaK (λ x y=>some (qs x y)) l),waI ⟨B,λ m k hm _=>?_⟩,by rw[qo3 hlt,hp.length_eq,xF],qCu⟩;show zc (m+1) l=_;rw[qcD];have hcf:Jj (qv m) l=Jj (λ x y=>some (qs x y)) l:=qNt (hB m hm);have hall:qcq (qv m) l=true:=qzj λ x hx y hy=>by rw[hB m hm x hx y hy];rfl
   have hix:qaK (qv m) l=qaK (λ x y=>some (qs x y)) l:=by unfold qaK;rw[hcf]
   have e:qo4 (qv m) l=cond (Nat.ble l.length 100000&&(qcq (qv m) l&&quw l.length (ltOf (Jj (qv m) l)))) (some (pick l (qaK (qv m) l))) none:=by rw[hl0];rfl
   rw[e,hcf,hall,hix,qNv hO,show Nat.ble l.length 100000=true from xK hl];rfl
theorem qF0(l:List T)(A:l.length<=100000)(v:∀t∈l,size t<=1000000000):∃r,Ev (λ m _=>qJ m l) ((),r,())/\(r=[]↔l=[])/\r.length<=l.length/\∀x∈r,x∈l:=by
 cases b:l with
 |nil=>exact⟨[],waI (Ev.congr (waD _) λ m _=>rfl),Iff.rfl,wa _,λ x h=>h⟩
 |cons D E=>
   rw[<-b]
   let⟨B,z⟩:=qDc (F:=λ m x y=>jc m x y) (g:=λ x y=>ieq (qs x y) 0) l λ x d y c=>by
    refine waI ?_;simp only[qtm,qe7,qk];exact waA (qdp x (v x d) y (v y c)) (waD _)
   have n:l≠[]:=by rw[b];exact vl _ _
   have f:0<l.length:=xm.2 n;obtain⟨a,s⟩:∃a,a=qkW (λ x y=>some (ieq (qs x y) 0)) l:=⟨_,rfl⟩
   have o:∀i∈zJ a l.length,i<l.length:=qzD
   have p:(zJ a l.length).length<=l.length:=by
    have:=ve (λ i=>decide (i=0) || !a i (i-1)) (List.range l.length);rw[xF]at this;exact this
   have C:0∈zJ a l.length:=kN.2 ⟨kP.2 f,by simp⟩;refine⟨pick l (zJ a l.length),waI ⟨B,λ m k w _=>?_⟩,⟨λ h=>?_,λ h=>absurd h n⟩,by rw[qo3 o];exact p,qCu⟩
   .show qJ (m+1) l=_;rw[qbB]
    have u:qkW (jc m) l=a:=by
     rw[s];funext i j;unfold qkW;cases d:l[i%l.length]? with
     |none=>rfl
     |some x=>cases c:l[j%l.length]? with
       |none=>rfl
       |some y=>simp only;rw[z m w x (wc d) y (wc c)]
    have q:qcq (jc m) l=true:=qzj λ x d y c=>by rw[z m w x d y c];rfl
    have e:qAx (jc m) l=cond (Nat.ble l.length 100000&&qcq (jc m) l) (some (pick l (zJ (qkW (jc m) l) l.length))) none:=by rw[b];rfl
    unfold qvD;rw[e,q,u,show Nat.ble l.length 100000=true from xK A];rfl
   .have:=qo3 o;rw[h]at this;have G:=List.length_pos_of_mem C;simp at this;omega
theorem qGP(l:List T)(w:l.length<=100000)(f:∀t∈l,size t<=1000000000):∃o,Ev (λ m _=>qha m l) ((),o,())/\(o=[]↔l=[]):=by
 let⟨u,e1,b,n⟩:=qMt l w f;let⟨a,A,r,B,s⟩:=qF0 u (by omega) λ t v=>f t (n t v);refine⟨a,?_,r.trans ⟨λ h=>wh (by rw[<-b,h];rfl),λ h=>wh (by rw[b,h];rfl)⟩⟩;refine waI ?_;simp only[qw9,qdS];refine waA e1 (waF (by rw[b,Nat.beq_refl]) (waA A ?_))
 have c:=qw (P:=λ i=>Ev (λ m k=>JA m k a.length i a) ((),a,())) a (by omega)
  (λ g=>by
   refine waH ?_;simp only[qlN,qdF];exact waG g (waD _))
  (λ i x d C g q y z=>by
   refine waH ?_;simp only[qlN,qdF,qk];refine waF g (waC q (waA (qtC x (f x (n x (s x (wc d))))) (waC q ?_)));rw[y]
   have e:yr a (i:Int) x=a:=by
    rw[qea];apply xc;intro j;by_cases p:i=j
    .subst p;rw[List.getElem?_set_self (getElem?_lt d)];exact d.symm
    .rw[List.getElem?_set_ne p]
   rw[e];exact z)
 exact waJ (L:=λ m k=>JA m k a.length 0 a) (c 0 (we _))
theorem qNB(t:T)(d:size t<=100000):∃l,Ev (λ m _=>qlV m t) l/\(l=[]↔zN 1 t=[]):=by
 let⟨l,f,e⟩:=qGP (zN 1 t) (wD (qjS 1 t) d) λ u c=>by have:=qyx 1 t u c;omega
 refine⟨l,?_,e⟩;refine waI ?_;simp only[qDV,qkF,qk];refine waA (a:=l) (waI ?_) (waD _);simp only[qAo,qhO,qk];have b:=qNJ t 1 (by omega) [] (by rw[w7];omega);rw[kX]at b;exact waA b (waA f (waE rfl))
theorem qEu(l:List T)(t:T):QY l t≠[]:=by
 cases l with
 |nil=>simp[QY]
 |cons x l=>
   unfold QY
   repeat' split
   all_goals exact vl _ _
theorem qPa(l:List T)(o:szL l<=1000000000):Ev (λ m _=>qmj m l) (l.foldl QY []):=by
 have g:=jK l;refine waI ?_;simp only[qDL,qhd]
 have n:∀(l a:List T),szL (l.foldl QY a)<=szL a+szL l:=by
  intro l
  induction l with
  |nil=>intro a;simp[szL]
  |cons x l f=>intro a;rw[kh,qR];have:=f (QY a x);have:=qw1 x a;omega
 have b:=qw (P:=λ i=>Ev (λ m k=>qbM m k l ((l.take i).foldl QY []) i) (l.foldl QY [])) l (by omega)
  (λ c=>by
   refine waH ?_;simp only[qq2,qhz];refine waG c ?_;rw[wG];exact waD _)
  (λ i x d p c j h e=>by
   refine waH ?_;simp only[qq2,qhz,qk];have r:=n (l.take i) [];have q:=Qx d;have s:szL ([]:List T)=0:=rfl;refine waF c (waC j (waA (qIx _ x (by omega)) ?_));rw[h,qtL];rw[ya d,xG]at e;exact e)
 exact waJ (L:=λ m k=>qbM m k l [] 0) (b 0 (we _))
theorem qIi(l:List T):l.foldl QY []=[]↔l=[]:=by
 constructor
 .intro h;cases d:l with
  |nil=>rfl
  |cons x r=>
    exfalso
    have b:∀(r a:List T),a≠[]->r.foldl QY a≠[]:=by
     intro r
     induction r with
     |nil=>intro a h;exact h
     |cons y r c=>intro a _;exact c _ (qEu _ _)
    rw[d,kh]at h;exact b r _ (qEu _ _) h
 .intro h;rw[h];rfl
theorem qKj(t:T)(k:Int)(g:size t<=10000):Ev (λ m _=>qjR m t k) ((zN k t).foldl QY []):=by
 refine waI ?_;simp only[qCy,qfD,qk];refine waA (qEC t (by omega)) ?_;have h:=qot t
 have a:szL (zN k t)<=1000000000:=by
  have s:=qEt (qyx k t);have r:(zN k t).length*size t<=10000*10000:=vV (wD (qjS k t) g) g;omega
 have d:=qw (P:=λ i=>Ev (λ m c=>qaE m c k (Q8 t) i (((Q8 t).take i).filter λ x=>decide (x.kind=k))) ((zN k t).foldl QY [])) (Q8 t) (by omega)
  (λ e=>by
   refine waH ?_;simp only[qpy,qfS];refine waG e ?_;rw[wG];exact waA (qPa (zN k t) a) (waD _))
  (λ i x n o e l j f=>by
   refine waH ?_;simp only[qpy,qfS,qk];have q:=ve (λ x:T=>decide (x.kind=k)) ((Q8 t).take i);have p:=List.length_take_le' i (Q8 t);rw[ya n,vD]at f;refine waF e (waC l ?_);by_cases b:x.kind=k
   .refine waF (ql.2 b) (waC l (waF (zj (by omega) (by omega)) ?_));rw[j];simpa[b]using f
   .refine waG (qi.2 b) ?_;rw[j];simpa[b]using f)
 exact waJ (L:=λ m c=>qaE m c k (Q8 t) 0 []) (d 0 (we _))
theorem qIp(t:T)(c:size t<=10000):Ev (λ m _=>qhs m t) (qgh t):=by
 have b:Ev (λ m _=>qjT m t) ((zN 1 t).foldl QY []):=by
  refine waI ?_;simp only[qDs,qi1,qk];exact waA (qKj t 1 c) (waD _)
 refine waI ?_;simp only[qxk,qg1,qk];refine waA b (waE ?_);unfold qgh;by_cases h:zN 1 t=[]
 .rw[h];rfl
 .have a:(zN 1 t).foldl QY []≠[]:=λ a=>h ((qIi _).1 a);have e:0<((zN 1 t).foldl QY []).length:=xm.2 a;rw[qi.2 (by omega)];cases d:zN 1 t with
  |nil=>exact absurd d h
  |cons x r=>rfl
end Go.AmZ
namespace Go.AmZ
open Go Go.GxZ
def nmL:List (List UInt8):=[[112,97,105,114],[101,110,99],[97,101,110,99],[112,107],[115,105,103,110],[104,97,115,104],[120,111,114],[122,101,114,111],[101,120,112],[109,117,108],[105,110,118],[111,110,101],[115,107],[115,104,107],[110,101,119]]
def esL:List (List UInt8×(Int×Int)):=[([112,97,105,114],(2,2)),([101,110,99],(2,2)),([97,101,110,99],(2,2)),([112,107],(1,1)),([115,105,103,110],(2,2)),([104,97,115,104],(1,1)),([120,111,114],(2,8)),([122,101,114,111],(0,0)),([101,120,112],(2,2)),([109,117,108],(2,8)),([105,110,118],(1,1)),([111,110,101],(0,0)),([115,107],(1,1)),([115,104,107],(2,2)),([110,101,119],(1,8))]
theorem qAE:esL.map (·.1)=nmL:=rfl
def qjd(n:List UInt8):Bool:=qx n qep||(qx n qf8||qx n qgG)
def qok:List (List UInt8×(Int×Int))->List UInt8->Nat->Int
 |[],_,_=>-1
 |r::l,n,i=>if qx r.1 n=true then(i:Int)else qok l n (i+1)
def qGg:List (List UInt8)->List UInt8->Nat->Int
 |[],_,_=>0
 |r::l,n,i=>if qx r n=true then(i:Int)else qGg l n (i+1)
theorem qBe:∀(l:List (List UInt8×(Int×Int))) (n:List UInt8) (i:Nat),n∈l.map (·.1)->qok l n i=qGg (l.map (·.1)) n i/\∃(j:Nat) (r:List UInt8×(Int×Int)),qok l n i=((i+j:Nat):Int)/\l[j]?=some r/\r.1=n
 |[],_,_,h=>by cases h
 |r::l,n,i,h=>by
   rw[qok,wv,qGg];by_cases a:qx r.1 n=true
   .rw[if_pos a,if_pos a];exact⟨rfl,0,r,rfl,rfl,yT.1 a⟩
   .rw[if_neg a,if_neg a];rw[wv]at h;obtain h|h:=ww.1 h
    .exact absurd (yT.2 h.symm) a
    .let⟨e,j,q,d,c,b⟩:=qBe l n (i+1) h;exact⟨e,j+1,q,by rw[d];omega,by simpa using c,b⟩
def hdE(n:List UInt8):Int:=iw .u8 (iw .i64 (qj 16 (qGg nmL n 0)))
def bI:T->List Int:=T.para λ t a=>if t.kind=2 then[iw .u8 t.sort,iw .u8 t.name.length]++qad t.name else(if qjd t.name then[hdE t.name]++[iw .u8 t.kids.length]else[hdE t.name])++a.flatten
theorem qAA(t:T):bI t=if t.kind=2 then[iw .u8 t.sort,iw .u8 t.name.length]++qad t.name else(if qjd t.name then[hdE t.name]++[iw .u8 t.kids.length]else[hdE t.name])++(t.kids.map bI).flatten:=T.para_eq _ _
def okN(u:T):Prop:=(u.kind=2\/u.kind=3/\u.name∈nmL)/\u.name.length<=24
def okE(t:T):Prop:=∀u∈Q8 t,okN u
theorem qEy{t:T}(h:okE t):okN t:=h t (by rw[qcB];exact wi ..)
theorem qE6{t k:T}(h:okE t)(b:k∈t.kids):okE k:=λ u a=>h u (by
 rw[qcB];exact wg _ (vp.2 ⟨_,wA.2 ⟨k,b,rfl⟩,a⟩))
theorem qvd(s:List UInt8):(qad s).length=s.length:=wB ..
theorem qwl(s:List Int):(yN s).length=s.length:=wB ..
theorem qoA(a b:List Int):yN (a++b)=yN a++yN b:=wU ..
theorem qKP(s:List UInt8):yN (qad s)=s:=by
 unfold yN qad;rw[xh];refine(kZ (g:=id) λ c _=>?_).trans (List.map_id _);show UInt8.ofNat (Int.toNat ((c.toNat:Nat):Int))=c;rw[kF];exact UInt8.ofNat_toNat
theorem qPj(t:T):okE t->(bI t).length<=26*size t:=by
 induction t using T.ind with
 |h t d=>
   intro h;have f:=(qEy h).2;rw[qAA,zb];split
   .rw[wd,qvd];show 2+_<=_;omega
   .have c:∀l:List T,(∀k∈l,k∈t.kids)->((l.map bI).flatten).length<=26*(l.map size).sum:=by
      intro l
      induction l with
      |nil=>intro _;exact we _
      |cons k l a=>
        intro b;have f:=d k (b k (wi ..)) (qE6 h (b k (wi ..)));have i:=a λ x e=>b x (wg _ e);rw[wv,xY,wd,wv,kK];omega
    have:=c t.kids λ _ h=>h;rw[wd];have g:(if qjd t.name=true then[hdE t.name]++[iw .u8 t.kids.length]else[hdE t.name]).length<=2:=by split<;>simp
    omega
theorem qES{n:List UInt8}(h:(qC n).2.2≠0)(a:pPl n=true):n∈nmL:=by
 have all:∀r∈jH,r.2.2.2≠3->r.1∈nmL:=by decide
 unfold pPl at a;unfold qC at h a;cases b:jH.find? λ r=>r.1==n with
 |none=>rw[b]at h;exact absurd rfl h
 |some r=>
   rw[b]at a;have e:=List.mem_of_find?_eq_some b;have d:=List.find?_some b;have c:r.1=n:=by simpa using d
   rw[bnt,qi]at a;rw[<-c];exact all r e a
theorem quX{t:T}(h:jG t=0):t.name.length<=24/\(t.kind=1\/t.kind=2\/t.kind=3)/\(t.kind≠3->t.kids=[]):=by
 unfold jG qip at h
 have a:jF t.name=true->t.name.length<=24:=λ a=>by
  unfold jF at a;simp only[wb,decide_eq_true_eq]at a;exact a.1.1.2
 cases b:jF t.name with
 |false=>
   rw[b]at h;simp only[xo,if_false]at h;exfalso;revert h
   repeat' split
   all_goals omega
 |true=>
   rw[b]at h;refine⟨a b,?_,λ c=>?_⟩
   .revert h;repeat' split
    all_goals intro h;omega
   .apply wh;revert h;repeat' split
    all_goals intro h;omega
theorem qOk(t:T):Qb t=0->zl t=0->qdj pPl t=true->zN 1 t=[]->okE t:=by
 induction t using T.ind with
 |h t r=>
   intro v j e i;let⟨x,w⟩:=qil v;let⟨p,o,n⟩:=quX x;rw[qmq,wb]at e;rw[qmu]at i;let⟨f,q⟩:=wY.1 i;have c:t.kind≠1:=λ h=>by rw[if_pos h]at f;cases f
   intro u b;rw[qcB]at b;obtain rfl|b:=ww.1 b
   .refine⟨?_,p⟩;obtain h|h|h:=o
    .exact absurd h c
    .exact .inl h
    .refine .inr ⟨h,?_⟩;let⟨z,_⟩:=qay h j;let⟨m,_⟩:=qos h z;have g:=e.1;rw[show(u.kind==3)=true from beq_iff_eq.2 h]at g;exact qES m (by simpa using g)
   .let⟨l,s,b⟩:=vp.1 b;obtain⟨k,a,rfl⟩:=wA.1 s
    have d:t.kind=3:=by
     by_cases h:t.kind=3
     .exact h
     .rw[n h]at a;cases a
    let⟨_,y⟩:=qay d j;refine r k a (w k a) (y k a) ?_ ?_ u b
    .have:=wo.1 e.2 (qdj pPl k) (wA.2 ⟨k,a,rfl⟩);exact this
    .exact waj.1 q _ (wA.2 ⟨k,a,rfl⟩)
end Go.AmZ
namespace Go.AmZ
open Go Go.GxZ
theorem qFa(t:T):T.mk t.kind t.name t.sort t.kids=t:=qk t
theorem qN0(t:T):Ev (λ m _=>q9 m esL t) ((t,()),(qok esL t.name 0,())):=by
 refine waI ?_;simp only[Jp,qN]
 have b:=qw (P:=λ i=>Ev (λ m k=>qt m k esL esL.length i t.kind t.name t.sort t.kids) ((t,()),(qok (esL.drop i) t.name i,()))) esL (by decide)
  (λ c=>by
   refine waH ?_;simp only[yP,qO];refine waG c (waE ?_);rw[wX,qok,qFa])
  (λ i x j f c e d g=>by
   refine waH ?_;simp only[yP,qO,qFa];refine waF c (waC e ?_);refine waA (a:=((t,()),(qx x.1 t.name,()))) (waI (waE ?_)) ?_
   .show _=_;simp only[qlw,qaF,qk]
   rw[f,qok,d];refine waB (λ h=>?_) λ h=>?_
   .rw[if_pos h];simp only[qk];exact waD _
   .rw[if_neg (by rw[show qx x.1 t.name=false from h];decide)];exact g)
 exact waJ (L:=λ m k=>qt m k esL esL.length 0 t.kind t.name t.sort t.kids) (b 0 (we _))
theorem qPh:∀r∈esL,qh (ieq r.2.1 r.2.2)=qjd r.1:=by decide
theorem qHM(t:T)(i:Nat):((t.kids.take i).map bI).flatten.length<=(t.kids.map bI).flatten.length:=by
 have:=congrArg (λ l=>(l.map bI).flatten.length) (kz i t.kids);simp only[wU,xt,wd]at this;omega
theorem qzt{t x:T}{i:Nat}(a:t.kids[i]?=some x):((t.kids.take (i+1)).map bI).flatten=((t.kids.take i).map bI).flatten++bI x:=by
 rw[ya a,wU,xt];simp
theorem qKh(t:T):okE t->size t<=100000->∀c:List Int,c.length+(bI t).length<=1000000000->Ev (λ m _=>zX m c t) ((),(c++bI t,())):=by
 induction t using T.ind with
 |h t B=>
   intro f J c C;let⟨l,K⟩:=qEy f;refine waI ?_;simp only[qtk,qcb,qk];obtain l|⟨l,g⟩:=l
   .rw[qAA,if_pos l];refine waF (bnt.2 (qi.2 (by omega))) ?_;refine waF (zj (by omega) (by omega)) ?_;refine waF (zj (by rw[wd,qvd];show(c.length+2+_)*1<=_;omega) (by omega)) (waE ?_);rw[wj]
   .have q:t.kind≠2:=by omega
    refine waG (bnf.2 (ql.2 l)) ?_;let⟨A,j,r,v,u,z⟩:=qBe esL t.name 0 (by rw[qAE];exact g);rw[wE]at v;refine waA (a:=esL) (waI (waD _)) (waA (qN0 t) ?_);refine waF (zj (by omega) (by omega)) (waA (a:=esL) (waI (waD _)) (waC (a:=r) (by rw[v,Qe,u]) ?_));refine waA (a:=qjd t.name) (waI (waE ?_)) ?_
    .simp only[qj2,J5];rw[<-z];exact qPh r (wc u)
    rw[show iw .u8 (iw .i64 (qj 16 (qok esL t.name 0)))=hdE t.name by unfold hdE;rw[A,qAE]];obtain⟨e,b⟩:∃e,e=(if qjd t.name then[hdE t.name]++[iw .u8 (t.kids.length:Int)]else[hdE t.name]):=⟨_,rfl⟩
    have w:bI t=e++(t.kids.map bI).flatten:=by rw[qAA,if_neg q,b]
    rw[w,wd]at C;have D:=yJ t
    have o:=qw (P:=λ i=>Ev (λ m k=>jN m (zX m) k t.kids t.kids.length i ((c++e)++((t.kids.take i).map bI).flatten)) ((),(c++bI t,()))) t.kids (by omega)
     (λ s=>by
      refine waH ?_;simp only[qjw,qb8];refine waG s (waE ?_);rw[wG,w,wj])
     (λ i x p G s F E y=>by
      refine waH ?_;simp only[qjw,qb8,qk];have g:=wc p;have M:=jD t x g;have I:=qHM t (i+1);rw[qzt p,wd]at I;refine waF s (waC F (waA (B x g (qE6 f g) (by omega) _ (by rw[wd,wd];omega)) ?_));rw[qzt p,<-wj]at y;rw[E];exact y)
    have d:=o 0 (we _);rw[xN,vx,List.flatten_nil,wy]at d;cases n:qjd t.name with
    |true=>
      rw[n]at b;have b:e=[hdE t.name]++[iw .u8 (t.kids.length:Int)]:=b;have H:e.length=2:=by rw[b];rfl
      rw[b,<-wj]at d;exact waF rfl (waF (zj (by rw[wd];show(c.length+1+1)*1<=_;omega) (by omega)) (waJ (L:=λ m k=>jN m (zX m) k t.kids t.kids.length 0 _) d))
    |false=>
      rw[n]at b;have b:e=[hdE t.name]:=b;rw[b]at d;exact waG rfl (waJ (L:=λ m k=>jN m (zX m) k t.kids t.kids.length 0 _) d)
end Go.AmZ
namespace Go.AmZ
open Go Go.GxZ
def okC(i:Nat)(c:UInt8):Bool:=if i=0 then qgZ (c.toNat:Int)else J2 (c.toNat:Int)
def nmE(s:List UInt8)(b:Nat):Nat->Nat->Option Nat
 |0,_=>none
 |d+1,i=>match s[b+i]? with
   |none=>some (b+i)
   |some c=>cond (okC i c) (nmE s b d (i+1)) (some (b+i))
def hdN(s:List UInt8)(a:Nat):Option (T×Nat)×Nat:=match s[a]? with
 |none=>(none,a)
 |some c=>if c.toNat<=5 then(match s[a+1]? with
   |none=>(none,a+1)
   |some n=>if n.toNat<1\/24<n.toNat then(none,a+1)else match nmE s (a+2) n.toNat 0 with
     |some e=>(none,e)
     |none=>(some (.mk 2 ((s.take (a+2+n.toNat)).drop (a+2)) c.toNat [],0),a+2+n.toNat))
   else if c.toNat<16 then(none,a)else match esL[c.toNat-16]? with
    |none=>(none,a)
    |some r=>if qjd r.1=true then(match s[a+1]? with
      |none=>(none,a+1)
      |some k=>if(k.toNat:Int)<r.2.1\/r.2.2<(k.toNat:Int)then(none,a+1)else(some (.mk 3 r.1 0 [],k.toNat),a+2))
      else(some (.mk 3 r.1 0 [],r.2.1.toNat),a+1)
theorem qNY:∀r∈esL,0<=r.2.1/\r.2.1<=8/\r.2.2<=8:=by decide
end Go.AmZ
namespace Go.AmZ
open Go Go.GxZ
def qGQ(R:Nat->Option T×Nat):Nat->Nat->Option (List T)×Nat
 |0,p=>(some [],p)
 |n+1,p=>match R p with
   |(none,e)=>(none,e)
   |(some k,a)=>match qGQ R n a with
     |(none,e)=>(none,e)
     |(some ks,q)=>(some (k::ks),q)
def rdT(s:List UInt8):Nat->Nat->Option T×Nat
 |0,p=>(none,p)
 |f+1,p=>match hdN s p with
   |(none,e)=>(none,e)
   |(some (t,n),q)=>match qGQ (rdT s f) n q with
     |(none,e)=>(none,e)
     |(some ks,a)=>(some (.mk t.kind t.name t.sort ks),a)
end Go.AmZ
namespace Go.AmZ
open Go Go.GxZ
end Go.AmZ
namespace Go.AmZ
theorem qHP(n:Nat):qfu (n+3000)=some true:=by kernel_rfl
end Go.AmZ
namespace Go.AmZ
open Go Go.GxZ
def qdX(t:T):Int:=if qdu t≠0 then qdu t else if qgh t=false then 13 else if qdd t=false then 10 else 0
def Jz(t:T):List UInt8:=if qdX t=0 then yN (bI t)else[]
theorem qNF{t:T}(d:qdu t=0)(c:qgh t=true)(a:qdd t=true):okE t:=by
 let⟨b,e⟩:=qmn d
 have g3:Qb t=0:=by
  unfold qV at b;by_cases h:Qb t=0
  .exact h
  .rw[if_pos h]at b;exact absurd b h
 unfold qdd at a;simp only[wb]at a;exact qOk t g3 e a.2.2 (xg.1 c)
theorem qMy{t:T}(h:okE t)(a:size t<=10000):(bI t).length<=260000:=by
 have:=qPj t h;omega
theorem qIL(t:T)(j:size t<=10000):Ev (λ m _=>J3 m t) (Jz t,qdX t):=by
 refine waI ?_;simp only[qsN,qd4,qk];refine waA (qEI t (by omega)) ?_;let⟨l,i,g⟩:=qNB t (by omega);by_cases b:qdu t=0
 .refine waG (bnf.2 (ql.2 b)) (waA i ?_);cases a:qgh t with
  |false=>
    have k:zN 1 t≠[]:=λ h=>by unfold qgh at a;rw[h]at a;cases a
    have e:l≠[]:=λ h=>k (g.1 h);have:=xm.2 e;refine waF (qz.2 (by omega)) (waE ?_);have c:qdX t=13:=by unfold qdX;rw[if_neg (λ h=>h b),if_pos a]
    unfold Jz;rw[c];rfl
  |true=>
    have e:l=[]:=g.2 (xg.1 a);refine waG (qB.2 (by rw[e];exact wao _)) (waA (qHU t (by omega)) ?_);cases f:qdd t with
    |false=>
      refine waF rfl (waE ?_);have c:qdX t=10:=by unfold qdX;rw[if_neg (λ h=>h b),if_neg (by rw[a];decide),if_pos f]
      unfold Jz;rw[c];rfl
    |true=>
      have d:=qNF b a f;have n:=qMy d j;refine waG rfl (waA (qKh t d (by omega) [] (by show 0+_<=_;omega)) (waE ?_));have c:qdX t=0:=by unfold qdX;rw[if_neg (λ h=>h b),if_neg (by rw[a];decide),if_neg (by rw[f];decide)]
      unfold Jz;rw[c];rfl
 .refine waF (bnt.2 (qi.2 b)) (waE ?_);have c:qdX t=qdu t:=if_pos b;unfold Jz;rw[c,if_neg b]
theorem qyG(t:T)(b:size t<=10000):Ev (λ m _=>qfp m t) (qdX t):=by
 refine waI ?_;simp only[qAk,qid,qk];refine waA (qFq t (by omega)) ?_;unfold qdX;by_cases a:qdu t=0
 .rw[if_neg (λ h=>h a)];refine waG (bnf.2 (ql.2 a)) (waA (qIp t b) ?_);cases d:qgh t with
  |false=>exact waF rfl (waD _)
  |true=>
    refine waG rfl (waA (qI9 t (by omega)) ?_);cases c:qdd t with
    |false=>exact waF rfl (waD _)
    |true=>exact waG rfl (waD _)
 .rw[if_pos a];exact waF (bnt.2 (qi.2 a)) (waD _)
theorem qjV:Ev (λ m _=>qfu m) true:=⟨3000,λ m k a _=>by
 obtain⟨n,rfl⟩:∃n,m=n+3000:=⟨m-3000,by omega⟩
 exact qHP n⟩
end Go.AmZ
namespace Go.AmZ
open Go Go.GxZ
end Go.AmZ
namespace Go.AmZ
open Go Go.GxZ
end Go.AmZ
namespace Go.AmZ
open Go Go.GxZ
def okR(u:T):Prop:=(u.kind=2/\0<=u.sort/\u.sort<=5/\jF u.name=true/\u.kids=[])\/(u.kind=3/\u.sort=0/\u.name∈nmL/\(qC u.name).1<=(u.kids.length:Int)/\(u.kids.length:Int)<=(qC u.name).2.1)
def qxA(t:T):Prop:=∀u∈Q8 t,okR u
theorem qBT{t:T}(h:qxA t):okR t:=h t (by rw[qcB];exact wi ..)
theorem qMf{t k:T}(h:qxA t)(b:k∈t.kids):qxA k:=λ u a=>h u (by
 rw[qcB];exact wg _ (vp.2 ⟨_,wA.2 ⟨k,b,rfl⟩,a⟩))
theorem qH4{t:T}(h:jG t=0)(b:t.kind=2):0<=t.sort/\t.sort<=5/\jF t.name=true/\t.kids=[]:=by
 unfold jG qip at h;rw[if_pos (.inr b)]at h;split at h
 .cases h
 .rename_i c;cases a:jF t.name with
  |false=>rw[a]at h;cases h
  |true=>exact⟨by omega,by omega,rfl,wh (by omega)⟩
theorem qDQ{t:T}(h:jG t=0)(a:t.kind=3):t.sort=0:=by
 unfold jG qip at h;rw[if_neg (by omega),if_pos a]at h;split at h
 .cases h
 .omega
theorem qMY(t:T):Qb t=0->zl t=0->qdj pPl t=true->zN 1 t=[]->qxA t:=by
 induction t using T.ind with
 |h t v=>
   intro x m e j;let⟨f,y⟩:=qil x;let⟨B,r,q⟩:=quX f;rw[qmq,wb]at e;rw[qmu]at j;let⟨g,s⟩:=wY.1 j;have c:t.kind≠1:=λ h=>by rw[if_pos h]at g;cases g
   intro u b;rw[qcB]at b;obtain rfl|b:=ww.1 b
   .obtain h|h|h:=r
    .exact absurd h c
    .exact .inl ⟨h,qH4 f h⟩
    .let⟨A,_⟩:=qay h m;let⟨p,o,n,_⟩:=qos h A;have i:=e.1;rw[show(u.kind==3)=true from beq_iff_eq.2 h]at i;exact .inr ⟨h,qDQ f h,qES p (by simpa using i),o,n⟩
   .let⟨l,w,b⟩:=vp.1 b;obtain⟨k,a,rfl⟩:=wA.1 w
    have d:t.kind=3:=by
     by_cases h:t.kind=3
     .exact h
     .rw[q h]at a;cases a
    let⟨_,z⟩:=qay d m;refine v k a (y k a) (z k a) ?_ ?_ u b
    .have:=wo.1 e.2 (qdj pPl k) (wA.2 ⟨k,a,rfl⟩);exact this
    .exact waj.1 s _ (wA.2 ⟨k,a,rfl⟩)
theorem qCl{t:T}(h:qdX t=0):qxA t/\¬ (400<size t\/40<qd3 t)/\qdd t=true:=by
 unfold qdX at h;by_cases d:qdu t=0
 .rw[if_neg (λ g:qdu t≠0=>g d)]at h;by_cases c:qgh t=false
  .rw[if_pos c]at h;cases h
  .rw[if_neg c]at h;by_cases b:qdd t=false
   .rw[if_pos b]at h;cases h
   .rw[Bool.not_eq_false]at c b;let⟨a,f⟩:=qmn d;have e:=b;unfold qdd at e;simp only[wb]at e;unfold qV at a;by_cases g3:Qb t=0
    .rw[if_neg (λ g:Qb t≠0=>g g3)]at a;refine⟨qMY t g3 f e.2.2 (xg.1 c),λ g=>?_,b⟩;rw[if_pos g]at a;cases a
    .rw[if_pos g3]at a;exact absurd a g3
 .rw[if_pos d]at h;exact absurd h d
theorem qCT{s:List UInt8}{b:Nat}:∀(n j:Nat),(∀i,j<=i->i<j+n->∃c,s[b+i]?=some c/\okC i c=true)->nmE s b n j=none
 |0,_,_=>rfl
 |n+1,j,h=>by
   let⟨c,d,a⟩:=h j (wa _) (by omega);rw[nmE,d];show cond (okC j c) _ _=_;rw[a];exact qCT n (j+1) λ i f e=>h i (by omega) (by omega)
theorem qIE{n:List UInt8}(h:jF n=true):1<=n.length/\n.length<=24/\∀i c,n[i]?=some c->okC i c=true:=by
 unfold jF at h;simp only[wb,decide_eq_true_eq]at h;let⟨⟨⟨g,f⟩,d⟩,e⟩:=h;refine⟨g,f,λ i c b=>?_⟩;unfold okC;by_cases a:i=0
 .subst a;rw[if_pos rfl];rw[List.getD_eq_getElem?_getD,b]at d;exact d
 .rw[if_neg a];exact wo.1 e c (wc b)
def hdS(u:T):List UInt8:=if u.kind=2 then yN [iw .u8 u.sort,iw .u8 u.name.length]++u.name else yN (if qjd u.name then[hdE u.name]++[iw .u8 u.kids.length]else[hdE u.name])
theorem u8_in{n:Nat}(h:n<=255):iw .u8 (n:Int)=(n:Int):=IntWalk.u8_in _ (by omega)
theorem quW{n:Nat}(h:n<=255):(UInt8.ofNat (iw .u8 (n:Int)).toNat).toNat=n:=by
 rw[u8_in h,kF];simp only[UInt8.toNat_ofNat'];omega
theorem qON{n:List UInt8}(h:n∈nmL):∃(j:Nat) (r:List UInt8×(Int×Int)),j<15/\hdE n=iw .u8 ((16+j:Nat):Int)/\esL[j]?=some r/\r.1=n:=by
 let⟨b,j,r,e,a,d⟩:=qBe esL n 0 (by rw[qAE];exact h);have c:j<15:=(List.getElem?_eq_some_iff.1 a).1;refine⟨j,r,c,?_,a,d⟩;unfold hdE;rw[qAE]at b;rw[<-b,e,show(16:Int)=((16:Nat):Int)from rfl,qkO,Jo (by omega),wE]
theorem qO9:∀r∈esL,(qC r.1).1=r.2.1/\(qC r.1).2.1=r.2.2:=by decide
theorem qOm:∀r∈esL,qjd r.1=false->r.2.1=r.2.2:=by decide
theorem qLl(u:T)(h:okR u)(A B:List UInt8):hdN (A++(hdS u++B)) A.length=(some (.mk u.kind u.name u.sort [],u.kids.length),A.length+(hdS u).length):=by
 obtain⟨l,F,P,n,D⟩|⟨l,C,n,p,q⟩:=h
 .let⟨N,M,z⟩:=qIE n;let⟨so,f⟩:=xT F;have e1:hdS u=[UInt8.ofNat (iw .u8 u.sort).toNat,UInt8.ofNat (iw .u8 (u.name.length:Int)).toNat]++u.name:=by unfold hdS;rw[if_pos l];rfl
  rw[e1];have k:(UInt8.ofNat (iw .u8 u.sort).toNat).toNat=so:=by rw[f];exact quW (by omega)
  have e:(UInt8.ofNat (iw .u8 (u.name.length:Int)).toNat).toNat=u.name.length:=quW (by omega);generalize UInt8.ofNat (iw .u8 u.sort).toNat=a at k;generalize UInt8.ofNat (iw .u8 (u.name.length:Int)).toNat=b at e;have t:(A++([a,b]++u.name++B))[A.length]?=some a:=by simp
  have s:(A++([a,b]++u.name++B))[A.length+1]?=some b:=by rw[List.getElem?_append_right (by omega)];simp
  have G:∀i c,u.name[i]?=some c->(A++([a,b]++u.name++B))[A.length+2+i]?=some c:=λ i c m=>by
   have w:=(List.getElem?_eq_some_iff.1 m).1;rw[List.getElem?_append_right (by omega),show A.length+2+i-A.length=2+i by omega,wj,List.getElem?_append_right (by show 2<=_;omega),show 2+i-[a,b].length=i by show 2+i-2=i;omega,List.getElem?_append_left w];exact m
  unfold hdN;rw[t];simp only[];rw[if_pos (by omega),s];simp only[];rw[if_neg (by omega),qCT _ _ λ i _ w=>⟨u.name[i]'(by omega),G i _ (List.getElem?_eq_getElem _),z i _ (List.getElem?_eq_getElem _)⟩];simp only[]
  have I:((A++([a,b]++u.name++B)).take (A.length+2+b.toNat)).drop (A.length+2)=u.name:=by
   rw[List.drop_take,e,show A.length+2+u.name.length-(A.length+2)=u.name.length by omega,show A++([a,b]++u.name++B)=(A++[a,b])++(u.name++B) by simp,List.drop_left' (by simp),List.take_left' rfl]
  rw[I,k,e,D,l,f];have H:([a,b]++u.name).length=2+u.name.length:=by simp;omega
  rw[H,wN];rfl
 .let⟨j,r,O,E,v,d⟩:=qON n;have o:=wc v;let⟨L,K,J⟩:=qNY r o;let⟨y,x⟩:=qO9 r o;rw[<-d,y]at p;rw[<-d,x]at q;have k:(UInt8.ofNat (hdE u.name).toNat).toNat=16+j:=by rw[E];exact quW (by omega)
  have e1:hdS u=UInt8.ofNat (hdE u.name).toNat::(if qjd u.name then[UInt8.ofNat (iw .u8 (u.kids.length:Int)).toNat]else[]):=by
   unfold hdS;rw[if_neg (by omega)];split<;>rfl
  rw[e1];generalize UInt8.ofNat (hdE u.name).toNat=a at k;have t:∀R:List UInt8,(A++(a::R++B))[A.length]?=some a:=λ R=>by simp
  have g:esL[a.toNat-16]?=some r:=by rw[k,show 16+j-16=j by omega];exact v
  unfold hdN;rw[t];simp only[];rw[if_neg (by omega),if_neg (by omega),g];simp only[];rw[d,l,C];cases m:qjd u.name with
  |true=>
    have e:(UInt8.ofNat (iw .u8 (u.kids.length:Int)).toNat).toNat=u.kids.length:=quW (by omega);generalize UInt8.ofNat (iw .u8 (u.kids.length:Int)).toNat=b at e;rw[if_pos rfl,if_pos rfl];have s:(A++(a::[b]++B))[A.length+1]?=some b:=by rw[List.getElem?_append_right (by omega)];simp
    rw[s];simp only[];rw[if_neg (by omega),e];rfl
  |false=>
    have:=qOm r o (by rw[d];exact m);rw[if_neg (by decide),if_neg (by decide),show r.2.1.toNat=u.kids.length by omega];rfl
theorem qPC(t:T)(h:okR t):yN (bI t)=hdS t++yN (t.kids.map bI).flatten:=by
 rw[qAA];unfold hdS;obtain⟨a,_,_,_,c⟩|⟨a,_⟩:=h
 .rw[if_pos a,if_pos a,qoA,qKP,c];exact(wy _).symm
 .have b:¬ t.kind=2:=by omega
  rw[if_neg b,if_neg b,qoA]
theorem qND(t:T):1<=(hdS t).length:=by
 unfold hdS;split
 .rw[wd];show 1<=2+_;omega
 .split
  .exact(by decide:1<=2)
  .exact wa 1
theorem qzp(f:Nat):∀(ks:List T),(∀k∈ks,∀A B:List UInt8,rdT (A++(yN (bI k)++B)) f A.length=(some k,A.length+(yN (bI k)).length))->∀A B:List UInt8,qGQ (rdT (A++(yN (ks.map bI).flatten++B)) f) ks.length A.length=(some ks,A.length+(yN (ks.map bI).flatten).length)
 |[],_,A,B=>rfl
 |k::ks,h,A,B=>by
   have c:=h k (wi ..) A (yN (ks.map bI).flatten++B);have a:=qzp f ks (λ x b=>h x (wg _ b)) (A++yN (bI k)) B;rw[wv,xY,qoA,wx,qGQ,wj,c];simp only[];rw[wj,wd]at a;rw[a];simp only[];rw[wd,wN]
theorem qCB(t:T):qxA t->∀(f:Nat) (A B:List UInt8),(yN (bI t)).length<=f->rdT (A++(yN (bI t)++B)) f A.length=(some t,A.length+(yN (bI t)).length):=by
 induction t using T.ind with
 |h t c=>
   intro h f A B d;have e:=qND t;rw[qPC t (qBT h),wd]at d |-
   obtain⟨f,rfl⟩:∃n,f=n+1:=⟨f-1,by omega⟩
   rw[rdT,wj,qLl t (qBT h)];simp only[]
   have b:∀k∈t.kids,(yN (bI k)).length<=(yN (t.kids.map bI).flatten).length:=λ k b=>by
    rw[qwl,qwl];exact(vf (wA.2 ⟨k,b,rfl⟩)).length_le
   have:=qzp f t.kids (λ k a A B=>c k a (qMf h a) f A B (by have:=b k a;omega)) (A++hdS t) B;rw[wj,wd]at this;rw[this];simp only[];rw[wN];cases t;rfl
end Go.AmZ
namespace Go.AmZ
open Go Go.GxZ Go.RowKit
open Go.ChangeShapes Go.WideShapes Go.ChangeAt Go.WideMaps Go.WideElems
theorem qyI(b o j:Nat):(⟨b,o,none⟩:Addr).add j=⟨b,o+j,none⟩:=by unfold Addr.add;split<;>simp_all
def Ty.wt:Ty->Nat
 |.int _|.bool=>1
 |.str=>16
 |.list _=>24
 |.term=>56
 |.pair a b=>a.wt+b.wt
 |.one a=>a.wt
 |.map _ _=>8
theorem Ty.wt_pos:∀a:Ty,0<a.wt
 |.int _|.bool=>Nat.one_pos
 |.list _=>(by decide:0<24)
 |.str=>(by decide:0<16)
 |.term=>(by decide:0<56)
 |.pair a b=>wC (Ty.wt_pos a) (kJ _ _)
 |.one a=>Ty.wt_pos a
 |.map _ _=>(by decide:0<8)
mutual
def tyM(P:Program):Nat->Ty->TypeId->Bool
 |0,_,_=>false
 |_+1,.int k,t=>match P.underlying t with
   |some (.int d)=>decide (d=k)&&decide (P.cellsOf t=1)
   |_=>false
 |_+1,.bool,t=>match P.underlying t with
   |some .bool=>decide (P.cellsOf t=1)
   |_=>false
 |_+1,.str,t=>match P.underlying t with
   |some .string=>decide (P.cellsOf t=1)
   |_=>false
 |n+1,.list a,t=>match P.underlying t with
   |some (.slice e)=>decide (P.cellsOf t=1)&&decide (P.cellsOf e=a.size)&&decide (a.wt<=P.bytesOf e)&&tyM P n a e
   |_=>false
 |n+1,.term,t=>qFV P n t
 |n+1,.pair a b,t=>match P.underlying t with
   |some (.struct c)=>decide (P.cellsOf t=a.size+b.size)&&fsM P n (.pair a b) 0 c.toList
   |_=>false
 |n+1,.one a,t=>match P.underlying t with
   |some (.struct c)=>decide (P.cellsOf t=a.size)&&fsM P n a 0 c.toList
   |_=>false
 |_+1,.map _ _,_=>false
def fsM(P:Program):Nat->Ty->Nat->List Field->Bool
 |0,_,_,_=>false
 |n+1,τ,off,[f]=>decide (f.offset=off)&&decide (P.cellsOf f.type=τ.size)&&tyM P n τ f.type
 |n+1,.pair a b,off,f::g::r=>decide (f.offset=off)&&decide (P.cellsOf f.type=a.size)&&tyM P n a f.type&&fsM P n b (off+a.size) (g::r)
 |_+1,_,_,_=>false
def qFV(P:Program):Nat->TypeId->Bool
 |0,_=>false
 |n+1,t=>match P.underlying t with
   |some (.struct f)=>match f.toList with
     |[d,c,b,a]=>decide (P.cellsOf t=4)&&decide (d.offset=0)&&decide (c.offset=1)&&decide (b.offset=2)&&decide (a.offset=3)&&decide (P.cellsOf a.type=1)&&
      tyM P n (.int .i64) d.type&&tyM P n .str c.type&&tyM P n (.int .i64) b.type&&(match P.underlying a.type with
      |some (.slice e)=>decide (e=t)&&decide (0<P.bytesOf t)
      |_=>false)
     |_=>false
   |_=>false
end
def qjc:(τ:Ty)->Val τ->Prop
 |.int k,n=>k.min<=n/\n<=k.max
 |.bool,_=>True
 |.str,s=>s.length<2^62
 |.term,t=>qoz t
 |.list a,l=>(l.length<2^62/\l.length*a.wt<=2^47)/\∀x∈l,qjc a x
 |.pair a b,p=>qjc a p.1/\qjc b p.2
 |.one a,v=>qjc a v
 |.map _ _,_=>True
def ghW(W:World):Gh:=⟨λ b o=>match W.cell? ⟨b,o,none⟩with|some u=>if u.oneCell'=true then some u else none|none=>none,0,λ _=>0,0,λ _=>0,λ _=>0,λ _=>0,λ _=>0,λ _=>0⟩
theorem qFQ{W:World}{b o:Nat}{u:Value}:(ghW W).mem b o=some u↔W.cell? ⟨b,o,none⟩=some u/\u.oneCell'=true:=by
 show(match W.cell? ⟨b,o,none⟩with|some u=>if u.oneCell'=true then some u else none|none=>none)=some u↔_;cases W.cell? ⟨b,o,none⟩with
 |none=>simp
 |some v=>
   simp only[wz];constructor
   .intro h;split at h
    .cases h;exact⟨rfl,‹_›⟩
    .cases h
   .rintro⟨rfl,h⟩;rw[if_pos h]
theorem qMK(W:World):Inv (ghW W) emp W:=
 ⟨rfl,rfl,λ b o u h=>qFQ.1 h,λ i cs h=>(by cases h),λ i j h=>absurd h (wK _),λ i h=>absurd h (wK _),λ r R h=>(by cases h),λ r a h=>absurd h (wK _)⟩
theorem cells_len{W:World}{zx:Nat}{a:Addr}:∀{n:Nat} {cs:List Value},W.cells? zx a n=some cs->cs.length=n/\∀ j u,cs[j]?=some u->W.cell? (a.add j)=some u:=by
 intro n cs h;unfold World.cells? at h;split at h
 case isFalse=>cases h
 have h1:=mapM_some_length h;rw[xF]at h1;refine⟨h1,λ j u hj=>?_⟩;have hlt:=getElem?_lt hj;have:=mapM_some_get h j j (by rw[List.getElem?_range (by omega)]);rw[this];exact hj
section
variable {H:Type}{enc:TypeId×Value->H}{P:Program}{W:World}
def qGa(enc:TypeId×Value->H)(P:Program)(W:World)(a:Nat):Prop:=∀(n:Nat) (τ:Ty) (t:TypeId) (cs:List Value) (x:DataW H×List MemPlace),tyM P n τ t=true->DataW.trod enc P W 0 (λ _=>true) true a t cs=some x->(∀k∈x.1.weights P t,k<=reachBytes)->
 ∃v:Val τ,RepL (ghW W) (qd τ v) cs/\(∀u∈cs,u.oneCell'=true)/\qjc τ v
theorem qnF{e:TypeId}:∀{ds:List (DataW H)}{d:DataW H},d∈ds->∀n∈d.weights P e,n∈DataW.weightsAll P e ds
 |b::ds,d,h,n,a=>by
   simp only[DataW.weightsAll,wk];obtain rfl|h:=ww.1 h
   .exact Or.inl a
   .exact Or.inr (qnF h n a)
theorem qCY{n k:Nat}(h:n*k<=reachBytes)(a:0<k):n<2^62:=by
 have:n*1<=n*k:=vU _ a;have b:reachBytes=140737488351232:=rfl;omega
theorem qIh{α d:Type}{n:Nat}{Q:Nat->α->d->Prop}(e:0<n)(h:∀i,i<n->∃a b,Q i a b):∃(f:Nat->α) (g:Nat->d),∀i,i<n->Q i (f i) (g i):=by
 let⟨k,j,_⟩:=h 0 e;refine⟨λ i=>if c:i<n then(h i c).choose else k,λ i=>if c:i<n then(h i c).choose_spec.choose else j,λ i c=>?_⟩;simp only[dif_pos c];exact(h i c).choose_spec.choose_spec
theorem qC3{Γ:Gh}{x:AV}{u:Value}(h:Rep Γ x u):RepL Γ [x] [u]:=waM h RepL.nil
theorem qyA{A:Nat}(hA:∀f,f<A->qGa enc P W f){a:Ty}{t e:TypeId}{m:Nat}{cs:List Value}{x:DataW H×List MemPlace}(T:P.underlying t=some (.slice e))(hc:P.cellsOf e=a.size)(hb:0<P.bytesOf e)(hm:tyM P m a e=true)
  (h:DataW.trod enc P W 0 (λ _=>true) true A t cs=some x) (M:∀k∈x.1.weights P t,k<=reachBytes):
  ∃(l:List (Val a)) (u:Value),cs=[u]/\u.oneCell'=true/\Rep (ghW W) (.sl a.size (l.map (qd a)) 1) u/\(l.length<2^62/\l.length*P.bytesOf e<=2^47)/\∀v∈l,qjc a v:=by
 obtain⟨rfl,rfl⟩|⟨ad,d,cap,elems,E,n,rfl,rfl,rfl,_,U,_,I,O,_,_⟩:=DataW.trod_slice T h
 .refine⟨[],_,rfl,rfl,?_,⟨by simp,by simp⟩,(by intro v G;cases G)⟩;exact .sl _ _ _ none 0 0 0 0 (λ _ _=>undef) rfl (λ _=>wa _) (λ h=>by omega) (by intro e p;cases p) (by intro e p;cases p) (waK a) (.inl rfl) (by intro i e j x c;cases c) (by intro i e j x c;cases c)
 .have F:(elems.length+E.length)*P.bytesOf e<=reachBytes/\∀k∈DataW.weightsAll P e (elems.map (·.1)),k<=reachBytes:=by
    simp only[DataW.weights,T,wB,ww,wk]at M;exact⟨M _ (.inl rfl),λ k N=>M k (.inr (.inl N))⟩
  have B:∀i,i<d->∃(v:Val a) (us:List Value),RepL (ghW W) (qd a v) us/\(∀u∈us,u.oneCell'=true)/\qjc a v/\(∀j u,us[j]?=some u->W.cell? ((ad.add (i*a.size)).add j)=some u):=by
   intro i c;have g:=O i c;rw[List.getElem?_eq_getElem (by omega),hc,Option.bind_eq_some_iff]at g;let⟨us,C,h3⟩:=g;let⟨z,D⟩:=cells_len C;let⟨v,Q,g2,g3⟩:=hA n (xy _) m a e us _ hm h3 λ k N=>F.2 k (qnF (k8 (wV _)) k N);exact⟨v,us,Q,g2,g3,D⟩
  by_cases h0:d=0
  .subst h0;refine⟨[],_,rfl,rfl,?_,⟨by simp,by simp⟩,(by intro v G;cases G)⟩;exact .sl _ _ _ _ 0 cap 0 0 (λ _ _=>undef) rfl (λ _=>U) (λ h=>by omega) (by intro e p;cases p) (by intro e p;cases p) (waK a) (.inl rfl) (by intro i e j x c;cases c) (by intro i e j x c;cases c)
  obtain⟨b,o,rfl⟩:∃b o,ad=⟨b,o,none⟩:=by
   let⟨v,us,Q,_,_,g4⟩:=B 0 (by omega);have aa:us.length=a.size:=by rw[Q.len];exact ye a v
   have hp:=waK a;have g:=g4 0 _ (List.getElem?_eq_getElem (by omega));rw[kI]at g;have e1:(ad.add 0).add 0=ad:=rfl;rw[e1]at g;let⟨b,o,sp⟩:=ad;unfold World.cell? at g;split at g
   .split at g
    .cases g
    .rename_i hs;cases sp with
     |none=>exact⟨b,o,rfl⟩
     |some s=>simp at hs
   .cases g
  let⟨L,R,r⟩:=qIh (by omega:0<d) B;have Z:=λ i c=>(r i c).1;have Y:=λ i c=>(r i c).2.1;have X:=λ i c=>(r i c).2.2.1;have V:=λ i c=>(r i c).2.2.2;have K:∀i,i<d->((List.range d).map L)[i]?=some (L i):=λ i c=>by rw[List.getElem?_map,List.getElem?_range c];rfl
  have q:∀(i:Nat) (w:List AV) (j:Nat) (y:AV),(((List.range d).map L).map (qd a))[i]?=some w->w[j]?=some y->i<d/\∃u,(R i)[j]?=some u/\Rep (ghW W) y u/\(ghW W).mem b (o+i*a.size+j)=some u:=by
   intro i w j y g C;have c:i<d:=by have:=getElem?_lt g;simpa using this
   rw[List.getElem?_map,K i c]at g;cases g;let⟨u,z,D⟩:=(Z i c).get C;refine⟨c,u,z,D,qFQ.2 ⟨?_,Y i c u (wc z)⟩⟩;have:=V i c j u z;rw[qyI,qyI]at this;exact this
  refine⟨(List.range d).map L,_,rfl,rfl,?_,?_,?_⟩
  .refine .sl _ _ _ _ d cap b o (λ i j=>(R i).getD j undef) (by simp) (λ _=>U) (λ h=>by omega) ?_ ?_ (waK a) (.inr rfl) ?_ ?_
   .intro w p;obtain⟨v,_,rfl⟩:=wA.1 p;exact ye a v
   .intro w p;obtain⟨v,_,rfl⟩:=wA.1 p;exact zo a v
   .intro i w j y g C;let⟨_,u,z,D,S⟩:=q i w j y g C;rw[List.getD_eq_getElem?_getD,z];exact S
   .intro i w j y g C;let⟨_,u,z,D,S⟩:=q i w j y g C;rw[List.getD_eq_getElem?_getD,z];exact D
  .rw[wB,xF,<-I];have J:elems.length*P.bytesOf e<=reachBytes:=wD (wu _ (kJ _ _)) F.1;exact⟨qCY J hb,wD J (by decide)⟩
  .intro v G;obtain⟨i,c,rfl⟩:=wA.1 G;exact X i (kP.1 c)
theorem qwn{c:Nat}(G:qGa enc P W c):∀(n:Nat) (τ:Ty) (off:Nat) (d:List Field) (cs:List Value) (xs:List (DataW H×List MemPlace)),fsM P n τ off d=true->xs.length=d.length->
  (∀(i:Nat) (f:Field),d[i]?=some f->DataW.trod enc P W 0 (λ _=>true) true c f.type ((cs.drop f.offset).take (P.cellsOf f.type))=xs[i]?)->(∀k∈DataW.weightsEach P (d.map (·.type)) (xs.map (·.1)),k<=reachBytes)->off+τ.size<=cs.length->
  ∃v:Val τ,RepL (ghW W) (qd τ v) ((cs.drop off).take τ.size)/\(∀u∈(cs.drop off).take τ.size,u.oneCell'=true)/\qjc τ v:=by
 intro n
 induction n with
 |zero=>intro τ off d cs xs h;simp[fsM]at h
 |succ n M=>
   intro τ off d cs xs h A z m j
   have t:∀f x,d=[f]->xs=[x]->(decide (f.offset=off)&&decide (P.cellsOf f.type=τ.size)&&tyM P n τ f.type)=true->∃v:Val τ,RepL (ghW W) (qd τ v) ((cs.drop off).take τ.size)/\(∀u∈(cs.drop off).take τ.size,u.oneCell'=true)/\qjc τ v:=by
    intro f x Q w h;simp only[wb,decide_eq_true_eq]at h;let⟨⟨E,D⟩,C⟩:=h;subst Q;subst w;have o:=z 0 f rfl;rw[E,D]at o;exact G n τ f.type _ x C o λ k l=>m k (by simp only[wv,vx,DataW.weightsEach,wy];exact l)
   cases d with
   |nil=>cases τ<;>simp[fsM]at h
   |cons f r=>
     cases xs with
     |nil=>simp at A
     |cons x xs=>
       cases r with
       |nil=>
         have y:xs=[]:=wh (by simpa using A);subst y;refine t f x rfl rfl ?_;cases τ<;>exact h
       |cons g r=>
         cases τ with
         |pair a b=>
           simp only[fsM,wb,decide_eq_true_eq]at h;let⟨⟨⟨E,D⟩,C⟩,o⟩:=h;have I:=z 0 f rfl;rw[E,D]at I;have O:off+(a.size+b.size)<=cs.length:=j;simp only[wv,DataW.weightsEach,wk]at m;let⟨v,L,K,J⟩:=G n a f.type _ x C I λ k l=>m k (.inl l);let⟨F,s,q,p⟩:=M b (off+a.size) (g::r) cs xs o (by simpa using A) (λ i R B=>z (i+1) R B) (λ k l=>m k (.inr l)) (by omega)
           have e:(cs.drop off).take (a.size+b.size)=(cs.drop off).take a.size++(cs.drop (off+a.size)).take b.size:=by
            rw[List.take_add,List.drop_drop]
           refine⟨(v,F),?_,?_,J,p⟩
           .show RepL _ (qd a v++qd b F) ((cs.drop off).take (a.size+b.size));rw[e];exact L.append s
           .show ∀u∈(cs.drop off).take (a.size+b.size),_;rw[e];intro u N;exact(wk.1 N).elim (K u) (q u)
         |_=>simp[fsM]at h
theorem qMu{Γ:Gh}(k:IntKind)(n:Int):RepL Γ (qd (.int k) n) [.int k n]:=qC3 (.v _ rfl)
theorem qJD:∀ fuel,qGa enc P W fuel:=by
 intro fuel
 induction fuel using Nat.strongRecOn with
 | ind fuel ihA =>
   have ints:∀{k:IntKind} {t:TypeId} {cs:List Value} {x:DataW H × List MemPlace} {f:Nat},P.underlying t=some (.int k)->DataW.trod enc P W 0 (λ _=>true) true f t cs=some x->∃ n:Int,cs=[.int k n]/\k.min<=n/\n<=k.max:=by
    intro k t cs x f ht h;obtain⟨n,rfl,_,hwf⟩:=DataW.trod_int ht h;simp only[Lit.wf,wb,decide_eq_true_eq]at hwf;exact⟨n,rfl,hwf⟩
   have strs:∀{t:TypeId} {cs:List Value} {x:DataW H × List MemPlace} {f:Nat},P.underlying t=some .string->DataW.trod enc P W 0 (λ _=>true) true f t cs=some x->(∀ k∈x.1.weights P t,k<=reachBytes)->∃ s:ByteArray,cs=[.string s]/\s.data.toList.length<2 ^ 62:=by
    intro t cs x f ht h hw;obtain⟨s,rfl,rfl,_⟩:=DataW.trod_string ht h;refine⟨s,rfl,?_⟩;have:=hw s.data.toList.length (by simp[DataW.weights]);exact qCY (k:=1) (by omega) (by decide)
   intro n τ t cs x hm h hw;cases n with
   | zero=>cases τ <;> simp[tyM]at hm
   | succ n =>
   cases τ with
   | int k =>
     simp only[tyM]at hm;split at hm
     ·rename_i k' ht;simp only[wb,decide_eq_true_eq]at hm;obtain⟨rfl,_⟩:=hm;obtain⟨i,rfl,h1,h2⟩:=ints ht h;exact⟨i,qMu _ _,by intro u hu;rw[wF.1 hu];rfl,h1,h2⟩
     ·cases hm
   | bool =>
     simp only[tyM]at hm;split at hm
     ·rename_i ht;obtain⟨b,rfl,_⟩:=DataW.trod_bool ht h;exact⟨b,qC3 (.v _ rfl),by intro u hu;rw[wF.1 hu];rfl,trivial⟩
     ·cases hm
   | str =>
     simp only[tyM]at hm;split at hm
     ·rename_i ht;obtain⟨s,rfl,h1⟩:=strs ht h hw;refine⟨s.data.toList,?_,by intro u hu;rw[wF.1 hu];rfl,h1⟩;exact qC3 (.v _ rfl)
     ·cases hm
   | list a =>
     simp only[tyM]at hm;split at hm
     ·rename_i e ht;simp only[wb,decide_eq_true_eq]at hm;obtain⟨⟨⟨_,hc⟩,hb⟩,hm⟩:=hm;obtain⟨l,u,rfl,h1,h2,h3,h4⟩:=qyA (λ f hf=>ihA f hf) ht hc (wC (Ty.wt_pos a) hb) hm h hw;exact⟨l,qC3 h2,by intro u' hu;rw[wF.1 hu];exact h1,⟨h3.1,wD (vU _ hb) h3.2⟩,h4⟩
     ·cases hm
   | pair a b =>
     simp only[tyM]at hm;split at hm
     ·rename_i fs ht;simp only[wb,decide_eq_true_eq]at hm;obtain⟨hc,hm⟩:=hm;obtain⟨xs,f,rfl,rfl,h1,h2,h3⟩:=DataW.trod_struct ht h;have hsz:(Ty.pair a b).size=a.size+b.size:=rfl;obtain⟨v,v1,v2,v3⟩:=qwn (ihA f (xy _)) n (.pair a b) 0 fs.toList cs xs hm (by simpa using h2) (λ i g hg=>h3 i g (by simpa using hg)) (by simpa[DataW.weights,ht]using hw) (by rw[h1,hc,hsz];omega);rw[wP,kH (by rw[h1,hc,hsz];exact wa _)]at v1 v2;exact⟨v,v1,v2,v3⟩
     ·cases hm
   | one a =>
     simp only[tyM]at hm;split at hm
     ·rename_i fs ht;simp only[wb,decide_eq_true_eq]at hm;obtain⟨hc,hm⟩:=hm;obtain⟨xs,f,rfl,rfl,h1,h2,h3⟩:=DataW.trod_struct ht h;obtain⟨v,v1,v2,v3⟩:=qwn (ihA f (xy _)) n a 0 fs.toList cs xs hm (by simpa using h2) (λ i g hg=>h3 i g (by simpa using hg)) (by simpa[DataW.weights,ht]using hw) (by rw[h1,hc];omega);rw[wP,kH (by rw[h1,hc];exact wa _)]at v1 v2;exact⟨v,v1,v2,v3⟩
     ·cases hm
   | map a b=>simp[tyM]at hm
   | term =>
     have hm0:=hm;simp only[tyM]at hm;cases n with
     | zero=>simp[qFV]at hm
     | succ n =>
     simp only[qFV]at hm;split at hm
     case h_2=>cases hm
     rename_i fs ht;split at hm
     case h_2=>cases hm
     rename_i f0 f1 f2 f3 hfs;simp only[wb,decide_eq_true_eq]at hm;obtain⟨⟨⟨⟨⟨⟨⟨⟨⟨hc,o0⟩,o1⟩,o2⟩,o3⟩,hc3⟩,m0⟩,m1⟩,m2⟩,m3⟩:=hm;split at m3
     case h_2=>cases m3
     rename_i e ht3;simp only[wb,decide_eq_true_eq]at m3;obtain⟨rfl,hb⟩:=m3;obtain⟨xs,f,rfl,rfl,h1,h2,h3⟩:=DataW.trod_struct ht h;have hsz:fs.size=4:=by rw[<- wM,hfs];rfl
     rw[hsz]at h2;rw[hc]at h1
     obtain⟨c0,c1,c2,c3,rfl⟩:∃ c0 c1 c2 c3,cs=[c0,c1,c2,c3]:=by
      match cs,h1 with
      | [a,b,c,d],_=>exact⟨a,b,c,d,rfl⟩
     obtain⟨x0,x1,x2,x3,rfl⟩:∃ x0 x1 x2 x3,xs=[x0,x1,x2,x3]:=by
      match xs,h2 with
      | [a,b,c,d],_=>exact⟨a,b,c,d,rfl⟩
     have fg:∀ i g,[f0,f1,f2,f3][i]?=some g->fs[i]?=some g := λ i g hg=>by rw[<- hfs,Array.getElem?_toList]at hg;exact hg
     have s0:=h3 0 f0 (fg 0 _ rfl);have s1:=h3 1 f1 (fg 1 _ rfl);have s2:=h3 2 f2 (fg 2 _ rfl);have s3:=h3 3 f3 (fg 3 _ rfl)
     have cOf:∀{τ : Ty} {t:TypeId},(∃ k,τ = .int k) \/ τ = .str->tyM P n τ t=true->P.cellsOf t=1:=by
      intro τ t hτ hm;cases n with
      | zero=>cases τ <;> simp[tyM]at hm
      | succ n =>
        rcases hτ with⟨k,rfl⟩ | rfl
        ·simp only[tyM]at hm;split at hm
         ·simp only[wb,decide_eq_true_eq]at hm;exact hm.2
         ·cases hm
        ·simp only[tyM]at hm;split at hm
         ·exact of_decide_eq_true hm
         ·cases hm
     have uInt:∀{k:IntKind} {t:TypeId},tyM P n (.int k) t=true->P.underlying t=some (.int k):=by
      intro k t hm;cases n with
      | zero=>simp[tyM]at hm
      | succ n =>
        simp only[tyM]at hm;split at hm
        ·rename_i k' ht;simp only[wb,decide_eq_true_eq]at hm;rw[ht,hm.1]
        ·cases hm
     have uStr:∀{t:TypeId},tyM P n .str t=true->P.underlying t=some .string:=by
      intro t hm;cases n with
      | zero=>simp[tyM]at hm
      | succ n =>
        simp only[tyM]at hm;split at hm
        ·assumption
        ·cases hm
     rw[o0,cOf (.inl ⟨_,rfl⟩) m0]at s0;rw[o1,cOf (.inr rfl) m1]at s1;rw[o2,cOf (.inl ⟨_,rfl⟩) m2]at s2;rw[o3,hc3]at s3
     have hwE:∀ k∈DataW.weightsEach P [f0.type,f1.type,f2.type,f3.type] [x0.1,x1.1,x2.1,x3.1],k<=reachBytes:=by
      intro k hk;refine hw k ?_;simp only[DataW.weights,ht,hfs];exact hk
     simp only[DataW.weightsEach,wk]at hwE;obtain⟨i0,e0,_,_⟩:=ints (uInt m0) (f:=f) (x:=x0) s0;obtain⟨i1,e1,b1⟩:=strs (uStr m1) (f:=f) (x:=x1) s1 λ k hk=>hwE k (.inr (.inl hk));obtain⟨i2,e2,_,_⟩:=ints (uInt m2) (f:=f) (x:=x2) s2;obtain⟨l,u,e3,b3,r3,l3,v3⟩:=qyA (a := .term) (λ g hg=>ihA g (Nat.lt_succ_of_lt hg)) ht3 hc hb hm0 s3 λ k hk=>hwE k (.inr (.inr (.inr (.inl hk))));have g0:c0 = .int .i64 i0:=by simpa using e0
     have g1:c1 = .string i1:=by simpa using e1
     have g2:c2 = .int .i64 i2:=by simpa using e2
     have g3:c3=u:=by simpa using e3
     subst g0;subst g1;subst g2;subst g3;refine⟨.mk i0 i1.data.toList i2 l,?_,?_,(qFD _).2 ⟨l3.1,b1,v3⟩⟩
     ·show RepL _ (JQ _) _;rw[JQ,qks];exact waM (.v _ rfl) (waM (.v _ rfl) (waM (.v _ rfl) (qC3 r3)))
     ·intro u hu;simp only[ww,xe,or_false]at hu;rcases hu with rfl | rfl | rfl | rfl
      ·rfl
      ·rfl
      ·rfl
      ·exact b3
end
end Go.AmZ
namespace Go.AmZ
open Go Go.GxZ
theorem qK9(l:List T)(a:l.length<2^62)(b:∀t∈l,qoz t):Ev (λ m _=>ql6 m l) (decide (l.length<=20)&&qpq l 450):=by
 refine waI ?_;simp only[qEf,qkR];exact waA (qPp l a b 20 450 (by decide) (by decide)) (waD _)
def jx(a b:List UInt8):Bool:=decide (b.length<=a.length)&&qx (a.take b.length) b
theorem qIn(a b:List UInt8):Ev (λ m _=>qac m a b) (jx a b):=by
 refine waI ?_;simp only[qpU,qc4];refine waA (a:=jx a b) (waI ?_) (waD _);simp only[qf3,Qu];unfold jx;by_cases h:b.length<=a.length
 .have e:inb (b.length:Int) a.length=true:=by unfold inb;rw[decide_eq_true_iff];omega
  have d:inb 0 (Int.toNat (b.length:Int))=true:=by unfold inb;rw[decide_eq_true_iff];omega
  have c:JZ a 0 (b.length:Int)=a.take b.length:=by unfold JZ;simp
  refine waF (qjM.2 (by omega)) (waF e (waF d (waE ?_)));rw[c,decide_eq_true h,ke]
 .refine waG (qlM.2 (by omega)) (waE ?_);rw[decide_eq_false h,kQ]
theorem qFx{t u:T}(g:qdX t=0)(f:qdX u=0):jx (Jz t) (Jz u)=yj t u:=by
 have b:jx (Jz t) (Jz u)=true->t=u:=λ h=>by
  unfold jx at h;rw[wb,decide_eq_true_eq,yT]at h;let⟨m,_⟩:=qCl g;let⟨l,_⟩:=qCl f
  have e:Jz t=Jz u++(Jz t).drop (Jz u).length:=by
   conv=>lhs;rw[<-kz (Jz u).length (Jz t)]
   rw[h.2]
  have j:Jz t=yN (bI t):=by unfold Jz;rw[if_pos g]
  have i:Jz u=yN (bI u):=by unfold Jz;rw[if_pos f]
  have d:=qCB t m ((Jz t).length+(Jz u).length) [] [] (by rw[<-j];omega);have a:=qCB u l ((Jz t).length+(Jz u).length) [] ((Jz t).drop (Jz u).length) (by rw[<-i];omega);rw[<-j,wy]at d;rw[<-i,<-e]at a;rw[d]at a;simp only[wI,wz]at a;exact a.1
 cases c:yj t u with
 |true=>
   have:=Ql.1 c;subst this;unfold jx;rw[decide_eq_true (wa _),wG,yT.2 rfl];rfl
 |false=>
   cases k:jx (Jz t) (Jz u)with
   |false=>rfl
   |true=>rw[Ql.2 (b k)]at c;cases c
theorem qzv(a:Bool):Qn a a=true:=by cases a<;>rfl
theorem qGe(t u:T):yj t u=yj u t:=by
 cases h:yj t u with
 |true=>rw[Ql.1 h];exact(Ql.2 rfl).symm
 |false=>
   cases g:yj u t with
   |false=>rfl
   |true=>rw[Ql.2 (Ql.1 g).symm]at h;cases h
theorem envelopePrefix_ev(t u:T)(hf:qjc .term t)(hg:qjc .term u):Ev (λ m _=>law20_EnvelopePrefix m t u) true:=by
 have hf:qoz t:=hf;have hg:qoz u:=hg;refine waI ?_;simp only[qmW,qbj,qk]
 refine waA qjV (waG rfl (waA (qK9 [t,u] (show 2<2 ^ 62 by decide) λ x hx=>by
  rcases ww.1 hx with rfl | hx
  ·exact hf
  ·rw[wF.1 hx];exact hg) ?_))
 cases hfw:decide ([t,u].length<=20)&&qpq [t,u] 450 with
 | false=>exact waF rfl (waA qjV (waD _))
 | true =>
 simp only[wb]at hfw;have hs:∀ x∈[t,u],size x<=10000 := λ x hx=>by have:=qKY (by decide) hfw.2 x hx;omega
 have h1:=hs t (by simp);have h2:=hs u (by simp);refine waG rfl (waA (qyG t h1) ?_);by_cases e1:qdX t=0
 case neg=>exact waF (bnt.2 (qi.2 e1)) (waA qjV (waD _))
 refine waG (bnf.2 (ql.2 e1)) (waA (qyG u h2) ?_);by_cases e2:qdX u=0
 case neg=>exact waF (bnt.2 (qi.2 e2)) (waA qjV (waD _))
 refine waG (bnf.2 (ql.2 e2)) (waA (qIL t h1) (waA (qIL u h2) (waA (qfX t u (by omega) (by omega)) ?_)));refine waF (ql.2 e1) (waF (ql.2 e2) (waA (qIn _ _) (waF ?_ (waA (qIn _ _) (waE ?_)))))
 ·rw[qFx e1 e2];exact qzv _
 ·rw[qFx e2 e1,qGe u t];exact qzv _
end Go.AmZ
namespace Go.AmZ
open Go Go.GxZ
set_option linter.unusedVariables false
set_option maxRecDepth 100000
open Go.Proofs.Tryz (f5 f10 f11 f13 f14 f15 f18 f19 f26 f32 f33 f34 f36 f37 f39 f40 f41 f42 f43 f44 f45 f46 f47 f48 f49 f50 f51 f52 f55 f56 f57 f58 f62 f64 f67 f68 f69 f70 f71 f72 f73 f77 f78 f79 f80 f81 f82 f83 f84 f85 f86 f87 f88 f89 f90 f91 f92 f93 f95 f96 f99 f100 f101 f102 f103 f105 f106 f107 f108 f109 f110 f111 f112 f113 f114 f115 f117 f118 f119 f120 f121 f122 f123 f126 f127 f128 f129 f130 f131 f133 f134 f135 f136 f137 f138 f141 f142 f143 f144 f149 f150 f151 f153 f154 f155 f156 f157 f158 f159 f160 f161 f162 f163 f164 f165 f166 f167 f168 f169 f170 f171 f172 f173 f174 f177 f184 f185 f186 f187 f190 f191 f192 f194 f195 f196 f197 f198 f199 f200 f201 f202 f214 f223 f224 f227 f228 f229 f230 f241)
abbrev y13:Ty:=.int .u8
abbrev y2:Ty:=.int .i64
abbrev y5:Ty:=.list .term
abbrev y3:Ty:=.pair .term .term
abbrev y12:Ty:=.pair .str y2
abbrev y1:Ty:=.pair .term y2
abbrev y8:Ty:=.list y3
abbrev y4:Ty:=.list y1
abbrev y14:Ty:=.map y12 .term
abbrev y10:Ty:=.pair .str (.pair y2 .bool)
abbrev y7:Ty:=.pair .str (.pair y2 y2)
abbrev y11:Ty:=.list y7
abbrev y6:Ty:=.pair .str (.pair y2 (.pair y2 y2))
abbrev y9:Ty:=.list y6
def i5:FI:=⟨f5,[.val .term,.val .term],[.bool],[],[],u2 law20_EnvelopePrefix⟩
def i10:FI:=⟨f10,[],[.bool],[],[],u0 qfu⟩
def i11:FI:=⟨f11,[.val .str],[.term,y2,y2],[],[],u1 qhg⟩
def i13:FI:=⟨f13,[.val .term,.val .term],[.bool],[],[],u2 JJ⟩
def i14:FI:=⟨f14,[.val .term],[.str,y2],[],[],u1 J3⟩
def i15:FI:=⟨f15,[.val y5],[.bool],[],[],u1 ql6⟩
def i18:FI:=⟨f18,[.val .term],[y2],[],[],u1 qfp⟩
def i19:FI:=⟨f19,[.val .str,.val .str],[.bool],[],[],u2 qac⟩
def i26:FI:=⟨f26,[.val y5],[y2,y2,.term,y2],[(5,[(0,.list .term),(4,.box [.keep,.keep,.keep,.row .term false]),(20,.keep),(21,.keep)]),(9,[(0,.list .term),(4,.box [.keep,.keep,.keep,.row .term false]),(7,.keep),(8,.box [.keep,.keep,.keep,.list .term]),(9,.keep),(20,.keep),(21,.keep)])],[],u1 qfc⟩
def i32:FI:=⟨f32,[.val .str,.val y5],[.term],[],[],u2 yE⟩
def i33:FI:=⟨f33,[.val .str,.val y2],[.term],[],[],u2 qjQ⟩
def i34:FI:=⟨f34,[.val .str,.val y2],[.term],[],[],u2 qlQ⟩
def i36:FI:=⟨f36,[.val .term],[y2],[],[],u1 zh⟩
def i37:FI:=⟨f37,[.val .term],[.bool],[],[],u1 qeq⟩
def i39:FI:=⟨f39,[.val .term],[y2],[(3,[(1,.box [.keep,.keep,.keep,.list .term]),(3,.keep),(4,.keep)])],[],u1 jv⟩
def i40:FI:=⟨f40,[.val .term],[y2],[(3,[(1,.box [.keep,.keep,.keep,.list .term]),(3,.keep),(4,.keep)])],[],u1 jB⟩
def i41:FI:=⟨f41,[.val .term],[y2],[],[],u1 qfv⟩
def i42:FI:=⟨f42,[.val .term],[.bool],[(6,[(5,.list .term),(6,.keep)])],[],u1 qiu⟩
def i43:FI:=⟨f43,[.val .term,.val .term],[y2],[(18,[(2,.box [.keep,.keep,.keep,.list .term]),(3,.box [.keep,.keep,.keep,.list .term]),(9,.keep)])],[],u2 zO⟩
def i44:FI:=⟨f44,[.val .term],[y2],[],[],u1 qaT⟩
def i45:FI:=⟨f45,[.val .term],[y5],[],[],u1 qlV⟩
def i46:SI:=⟨f46,[.row y13,.val .term],[.one (.row y13)],[(8,[(0,.row y13 false),(46,.list .term),(47,.keep),(48,.keep)])],[],u2 zX⟩
def i47:FI:=⟨f47,[.val y5,.val y2,.val y2],[.bool],[(4,[(0,.list .term),(2,.keep),(7,.keep)])],[],u3 qlZ⟩
def i48:FI:=⟨f48,[.val .term],[.bool],[],[],u1 qhs⟩
def i49:FI:=⟨f49,[.val .str,.val .str],[.bool],[],[],u2 QW⟩
def i50:FI:=⟨f50,[.val y5],[y2],[(4,[(9,.list .term),(10,.keep),(11,.keep)])],[],u1 qjk⟩
def i51:FI:=⟨f51,[.val y2],[.str],[],[],u1 qkw⟩
def i52:FI:=⟨f52,[.val y8,.val .term],[.term],[(2,[(0,.list y3),(3,.box [.keep,.keep,.keep,.list .term]),(4,.box [.keep,.keep,.keep,.row .term false]),(10,.list y3),(11,.keep),(12,.keep)]),(10,[(0,.list y3),(4,.box [.keep,.keep,.keep,.row .term false]),(7,.box [.keep,.keep,.keep,.row .term false]),(27,.list .term),(28,.keep),(29,.keep)])],[],u2 qd6⟩
def i55:FI:=⟨f55,[.val .term],[y2],[],[],u1 ji⟩
def i56:SI:=⟨f56,[.val .term,.val .str,.box [.val (.map .str .str)]],[.one (.val .term)],[(9,[(1,.keep),(2,.box []),(6,.box [.keep,.keep,.keep,.row .term false]),(7,.box [.keep,.keep,.keep,.row .term false]),(38,.list .term),(39,.keep),(40,.keep)])],[],u3 qcl⟩
def i57:FI:=⟨f57,[.val .term,.val .term],[y8,y2],[],[],u2 qsR⟩
def i58:FI:=⟨f58,[.val .term],[y2],[],[],u1 qkK⟩
def i62:FI:=⟨f62,[.val .term],[y5],[(3,[(1,.box [.keep,.keep,.keep,.list .term]),(3,.row .term true),(4,.keep)])],[],u1 Qj⟩
def i64:FI:=⟨f64,[.val .str],[y2],[(3,[(0,.keep),(3,.list y6),(4,.keep)])],[],u1 qeW⟩
def i67:SI:=⟨f67,[.box [.val y10]],[.agg [.val y2,.val .str,.val y2,.row .term,.val y2]],[],[],u1 qc1⟩
def i68:SI:=⟨f68,[.val .term,.val y2,.box [.val y2],.box [.val y2]],[.one (.val y2)],[(17,[(1,.keep),(2,.box [.keep]),(3,.box [.keep]),(57,.list .term),(58,.keep),(59,.keep)])],[],u4 yf⟩
def i69:FI:=⟨f69,[.val .term],[.term,y2],[],[],u1 qfH⟩
def i70:FI:=⟨f70,[.val .term,.val .term],[.bool],[],[],u2 JL⟩
def i71:FI:=⟨f71,[.val .term,.fn],[.bool],[(4,[(1,.keep),(18,.list .term),(19,.keep),(20,.keep)])],[],u1 zf⟩
def qFW:FI:=⟨f71,[.val .term,.fn],[.bool],[(4,[(1,.keep),(18,.list .term),(19,.keep),(20,.keep)])],[],u1 qa6⟩
def i72:FI:=⟨f72,[.val .str],[.bool],[],[],u1 qeC⟩
def i73:FI:=⟨f73,[.val .str],[y6],[(2,[(0,.keep),(2,.box [.keep,.keep,.keep,.keep]),(5,.list y6),(6,.keep),(7,.keep)])],[],u1 qbn⟩
def i77:FI:=⟨f77,[.val .term],[y2],[(11,[(1,.box [.keep,.keep,.keep,.list .term]),(4,.keep)])],[],u1 jh⟩
def i78:FI:=⟨f78,[.val .term],[.term,y2],[],[],u1 qgY⟩
def i79:FI:=⟨f79,[.val y2,.val y2],[y2],[],[],u2 qaU⟩
def i80:FI:=⟨f80,[.val .term],[y2],[(13,[(1,.box [.keep,.keep,.keep,.list .term]),(38,.list .term),(39,.keep),(40,.keep)]),(22,[(62,.list .term),(63,.keep),(64,.keep)])],[],u1 qE⟩
def i81:FI:=⟨f81,[.val .term,.val y2],[y5],[],[],u2 qmX⟩
def i82:SI:=⟨f82,[.val y11,.clo 84 1,.box [.val .term]],[.one (.val y2)],[(2,[(0,.list y7),(1,.fn [.box [.keep,.keep,.keep,.list .term]]),(7,.keep),(8,.keep)])],[],u2 q9⟩
def i83:FI:=⟨f83,[],[y11],[],[],u0 qaH⟩
def i84:SI:=⟨f84,[.val y7,.box [.val .term]],[.one (.val .bool)],[],[],u2 qcA⟩
def i85:FI:=⟨f85,[.val y7],[.bool],[],[],u1 Jl⟩
def i86:FI:=⟨f86,[.val .term,.val y2],[y2],[(5,[(1,.keep),(2,.box [.keep,.keep,.keep,.list .term]),(5,.keep)])],[],u2 jb⟩
def i87:FI:=⟨f87,[.val .term],[y5],[],[],u1 qjT⟩
def i88:FI:=⟨f88,[.val y2],[.str],[],[],u1 qgp⟩
def i89:FI:=⟨f89,[.val .term,.val .term],[y2],[(11,[(2,.box [.keep,.keep,.keep,.list .term]),(3,.box [.keep,.keep,.keep,.list .term]),(5,.keep),(6,.keep)])],[],u2 qv⟩
def i90:FI:=⟨f90,[.val .term],[y2],[(5,[(1,.box [.keep,.keep,.keep,.list .term]),(4,.keep)])],[],u1 jA⟩
def i91:FI:=⟨f91,[.val .term,.val .term],[y2],[],[],u2 qs6⟩
def i92:FI:=⟨f92,[.val y8],[y8,y2],[(2,[(4,.box [.list y3,.row y3 false])])],[],u1 qsS⟩
def i93:FI:=⟨f93,[.val .term],[.bool],[],[],u1 qs0⟩
def i95:FI:=⟨f95,[.val .term],[y12],[],[],u1 qq8⟩
def i96:FI:=⟨f96,[.val .term,.val .term],[.bool],[],[],u2 qo2⟩
def i99:FI:=⟨f99,[],[y9],[],[],u0 qjb⟩
def qOY:SI:=⟨f100,[.box [.val y10],.val y2,.val y2],[.one (.val y2)],[],[],u3 Q6⟩
def qMd:SI:=⟨f101,[.box [.val y10]],[.one (.val .str)],[(4,[(0,.box [.keep,.keep,.keep]),(4,.keep),(14,.keep),(15,.keep)])],[],u1 qhj⟩
def qLc:FI:=⟨f102,[.val .str],[.bool],[(4,[(0,.keep),(38,.keep),(39,.keep)])],[],u1 qdm⟩
def qLW:FI:=⟨f103,[.val .term],[.term,y2],[(5,[(1,.box [.keep,.keep,.keep,.list .term]),(2,.box [.keep,.keep,.keep,.row .term false]),(4,.box [.keep,.keep,.keep,.row .term false]),(19,.list .term),(20,.keep),(21,.keep)])],[],u1 yx⟩
def qJZ:FI:=⟨f105,[.val .str],[.bool],[(4,[(0,.keep),(3,.keep)])],[],u1 qcn⟩
def qLn:FI:=⟨f106,[.val .term],[.bool],[(3,[(1,.box [.keep,.keep,.keep,.list .term]),(3,.list y6),(4,.keep)])],[],u1 qj6⟩
def qLS:FI:=⟨f107,[.val .term],[.bool],[(4,[(1,.box [.keep,.keep,.keep,.list .term]),(3,.keep)])],[],u1 qgE⟩
def qLh:FI:=⟨f108,[.val .term],[.term,y2],[(5,[(1,.box [.keep,.keep,.keep,.list .term]),(2,.box [.keep,.keep,.keep,.row .term false]),(4,.row .term false),(5,.keep)])],[],u1 jd⟩
def qLq:SI:=⟨f109,[.val .term,.clo 110 2,.box [.val y2],.box [.row .term]],[],[(3,[(1,.fn [.box [.keep],.box [.row .term false]]),(10,.list .term),(11,.keep),(12,.keep)])],[],u3 zu⟩
def qOD:SI:=⟨f110,[.val .term,.box [.val y2],.box [.row .term]],[],[],[],u3 qal⟩
def qKE:SI:=⟨f111,[.row .term],[.one (.row .term)],[(4,[(0,.row .term false),(9,.keep),(10,.keep)])],[],u1 qha⟩
def qKb:FI:=⟨f112,[.val .term,.val y2],[y5],[(4,[(1,.keep),(5,.row .term false),(6,.list .term),(7,.keep)])],[],u2 qjR⟩
def qOb:FI:=⟨f113,[.val y2,.val y2],[.str],[],[],u2 qdg⟩
def qOA:FI:=⟨f114,[.val y2,.val y2],[y2],[],[],u2 qd8⟩
def qKK:FI:=⟨f115,[.val .term],[y2],[(3,[(3,.keep),(7,.list .term),(8,.keep),(9,.keep)])],[],u1 Qg⟩
def qO6:FI:=⟨f117,[.val .term],[y2],[],[],u1 qjI⟩
def qLa:SI:=⟨f118,[.box [.val y8,.row y3]],[.one (.val y2)],[(8,[(0,.box [.list y3,.row y3 false]),(3,.box [.keep,.keep,.keep,.list .term]),(4,.box [.keep,.keep,.keep,.list .term]),(5,.row y3 false),(39,.keep),(40,.keep)])],[],u1 qkE⟩
def qPl:SI:=⟨f119,[.row y3],[.one (.row y3)],[],[],u1 qmp⟩
def qPy:FI:=⟨f120,[.val .str],[.bool],[],[],u1 qpz⟩
def qO1:FI:=⟨f121,[.val .term],[.bool],[],[],u1 qdq⟩
def qOj:FI:=⟨f122,[.val .term,.val .term],[.bool],[],[],u2 qoB⟩
def qPv:FI:=⟨f123,[.val .term,.val .term],[.bool],[],[],u2 qs1⟩
def qO7:FI:=⟨f126,[.val y13],[.bool],[],[],u1 qiJ⟩
def qPg:FI:=⟨f127,[.val .term],[.term],[],[],u1 qcr⟩
def qLJ:FI:=⟨f128,[.val y5],[.term,y2],[(6,[(2,.box [.keep,.keep,.keep,.row .term true]),(5,.list .term),(15,.list .term),(16,.keep),(17,.keep)])],[],u1 qr4⟩
def qO2:FI:=⟨f129,[.val .term],[y4,y2],[],[],u1 qbK⟩
def qC2:FI:=⟨f130,[.val y4],[.term,y2],[(6,[(2,.box [.keep,.keep,.keep,.row .term false]),(5,.row .term false),(6,.row .term false),(18,.list y1),(19,.keep),(20,.keep)]),(11,[(2,.box [.keep,.keep,.keep,.row .term false]),(5,.row .term false),(6,.row .term false),(8,.box [.keep,.keep,.keep,.list .term,.keep]),(18,.list y1),(19,.keep),(20,.keep),(34,.keep),(35,.keep)]),(15,[(2,.box [.keep,.keep,.keep,.row .term false]),(5,.row .term false),(6,.row .term false),(8,.box [.keep,.keep,.keep,.list .term,.keep]),(18,.list y1),(19,.keep),(20,.keep),(46,.keep),(47,.keep)])],[],u1 Je⟩
def qPc:FI:=⟨f131,[.val .term,.val .term],[.term,y2],[],[],u2 qgx⟩
def qOg:FI:=⟨f133,[.val y13],[.bool],[],[],u1 qdY⟩
def qOt:FI:=⟨f134,[.val y13],[.bool],[],[],u1 qir⟩
def qOH:FI:=⟨f135,[.val .term],[.term,.bool],[],[],u1 qfG⟩
def qKL:FI:=⟨f136,[.val y5],[.term,y2],[(6,[(0,.list .term),(2,.box [.keep,.keep,.keep,.row .term true]),(5,.list .term),(6,.keep)])],[],u1 qmJ⟩
def qNU:FI:=⟨f137,[.val .term],[.term,y2],[],[],u1 qdk⟩
def qPu:FI:=⟨f138,[.val .term,.val .term],[.term,y2],[],[],u2 qim⟩
def qOy:FI:=⟨f141,[.val .term,.val .term],[.bool],[],[],u2 jc⟩
def qJT:FI:=⟨f142,[.val .term],[.term],[(4,[(1,.box [.keep,.keep,.keep,.row .term false]),(2,.box [.keep,.keep,.keep,.row .term false]),(9,.list .term),(10,.keep),(11,.keep)])],[],u1 jp⟩
def qKT:FI:=⟨f143,[.val y5],[y5],[(3,[(0,.list .term),(3,.list .term),(4,.keep)])],[],u1 qmj⟩
def qOI:FI:=⟨f144,[.val y2],[.str],[],[],u1 qfw⟩
def qOu:SI:=⟨f149,[.box [.val y8,.row y3],.val .term,.val .term],[.one (.val y2)],[],[],u3 qml⟩
def qN9:FI:=⟨f150,[.val .term,.val .term],[.bool],[],[],u2 qeh⟩
def qGV:SI:=⟨f151,[.box [.val y8,.row y3],.val .term,.val .term],[.one (.val y2)],[(6,[(0,.box [.list y3,.row y3 false]),(4,.box [.keep,.keep,.keep,.list .term]),(5,.box [.keep,.keep,.keep,.list .term]),(8,.box [.keep]),(9,.fn [.box [.box []],.box []]),(10,.row y3 false),(25,.keep),(26,.keep)]),(12,[(0,.box [.list y3,.row y3 false]),(4,.box [.keep,.keep,.keep,.list .term]),(5,.box [.keep,.keep,.keep,.list .term]),(8,.box [.keep]),(9,.fn [.box [.box []],.box []]),(10,.row y3 false),(46,.keep),(47,.keep)])],[],u3 qaN⟩
def qNO:FI:=⟨f153,[.val y3,.val y3],[y2],[],[],u2 qe8⟩
def qPs:FI:=⟨f154,[.val .term,.val .str],[.bool],[],[],u2 jl⟩
def qKa:FI:=⟨f155,[.val y5,.val y5],[y2],[(4,[(14,.list .term),(15,.keep),(16,.keep)])],[],u2 qmF⟩
def qKx:FI:=⟨f156,[.val y5,.val y5],[y5],[(2,[(0,.list .term),(1,.list .term),(5,.row .term false)])],[],u2 qlp⟩
def qLF:FI:=⟨f157,[.val .term],[y5],[(6,[(3,.list .term),(31,.list .term),(32,.keep),(33,.keep)])],[],u1 yB⟩
def qLI:FI:=⟨f158,[.val y5],[y5],[(3,[(3,.row .term false),(9,.list .term),(10,.keep),(11,.keep)])],[],u1 J0⟩
def qLf:SI:=⟨f159,[.row y1,.val .term,.val y2],[.one (.row y1),.one (.val .bool)],[(12,[(0,.row y1 false),(2,.keep),(52,.list .term),(53,.keep),(54,.keep)])],[],u3 zr⟩
def qMa:FI:=⟨f160,[.val y4],[y2],[(4,[(0,.list y1),(9,.list y1),(10,.keep),(11,.keep)])],[],u1 qaB⟩
def qK5:FI:=⟨f161,[.val .term],[.term],[(3,[(1,.box [.keep,.keep,.keep,.row .term false]),(2,.box [.keep,.keep,.keep,.row .term false]),(10,.row .term false),(11,.keep),(12,.keep)])],[],u1 zw⟩
def qOq:FI:=⟨f162,[.val .str,.val y5],[.term],[],[],u2 qdW⟩
def qHn:FI:=⟨f163,[.val (.list y5)],[y5],[(3,[(0,.list y5),(3,.keep),(9,.list y5),(10,.keep),(11,.keep)]),(11,[(6,.row .term false),(25,.list y5),(26,.keep),(27,.keep)])],[],u1 zR⟩
def qKN:FI:=⟨f164,[.val y4,.val y4],[y4,y2],[(9,[(8,.row y1 false),(23,.list y1),(24,.keep),(25,.keep)])],[],u2 qhk⟩
def qO8:FI:=⟨f165,[.val .str,.val y5],[.term],[],[],u2 qgC⟩
def qOT:FI:=⟨f166,[.val .term,.val .str],[.bool],[],[],u2 qbN⟩
def qJJ:FI:=⟨f167,[.val y5,.val .term],[y2],[(4,[(0,.list .term),(3,.box [.keep,.keep,.keep,.list .term]),(5,.keep)])],[],u2 qio⟩
def qOO:FI:=⟨f168,[],[.term],[],[],u0 qjH⟩
def qLx:FI:=⟨f169,[.val y5,.val y5],[y5],[(3,[(1,.list .term),(5,.plist .term),(6,.keep)])],[],u2 qgz⟩
def qJ2:FI:=⟨f170,[.val .term],[y5],[(7,[(1,.box [.keep,.keep,.keep,.list .term]),(3,.list .term),(4,.keep)])],[],u1 zZ⟩
def qOW:FI:=⟨f171,[.val y5],[.term],[],[],u1 qjU⟩
def qNP:FI:=⟨f172,[.val .term],[y4,y2],[],[],u1 qie⟩
def qOP:FI:=⟨f173,[.val y4],[.term,y2],[],[],u1 qcV⟩
def qJA:FI:=⟨f174,[.val y4,.val y4],[y4,y2],[(9,[(1,.list y1),(8,.row y1 false),(9,.keep)])],[],u2 qmA⟩
def qJ1:FI:=⟨f177,[.val y5,.val .term],[y5],[(4,[(0,.list .term),(3,.box [.keep,.keep,.keep,.list .term]),(5,.row .term false),(6,.keep),(7,.keep)])],[],u2 qiA⟩
def qN8:SI:=⟨f184,[.val y5,.clo 185 1,.box [.val .term]],[.one (.val .bool)],[],[],u2 yF⟩
def qOf:SI:=⟨f185,[.val .term,.box [.val .term]],[.one (.val .bool)],[],[],u2 qdt⟩
def qJV:SI:=⟨f187,[.box [.val y14],.val .term],[.one (.val .term)],[(10,[(0,.box []),(3,.box [.keep,.keep,.keep,.list .term]),(4,.box [.keep,.keep,.keep,.row .term false]),(7,.row .term false),(32,.list .term),(33,.keep),(34,.keep)])],[],u2 qed⟩
def qKS:FI:=⟨f190,[.val .term,.val (.list y2),.val .term],[.term,y2],[(4,[(5,.box [.keep,.keep,.keep,.list .term]),(6,.box [.keep,.keep,.keep,.row .term false]),(8,.box [.keep,.keep,.keep,.list .term]),(9,.box []),(14,.list y2),(15,.keep),(16,.keep)])],[],u3 qhi⟩
def qOd:FI:=⟨f191,[.val .term],[.bool],[],[],u1 qbG⟩
def qOB:SI:=⟨f192,[.row y1,.val y1],[.one (.row y1)],[],[],u2 qbv⟩
def qK6:SI:=⟨f194,[.val y4],[.one (.row y1)],[(3,[(3,.row y1 false),(6,.list y1),(7,.keep),(8,.keep)])],[],u1 qdI⟩
def qNT:FI:=⟨f195,[.val y4],[y4,y2],[],[],u1 qdC⟩
def qKw:FI:=⟨f196,[.val y5,.val .term],[y5],[(5,[(0,.list .term),(3,.box [.keep,.keep,.keep,.list .term]),(5,.row .term false),(6,.keep)])],[],u2 qg2⟩
def qJK:FI:=⟨f197,[.val .term],[.bool],[(7,[(1,.box [.keep,.keep,.keep,.list .term]),(3,.keep),(4,.keep)])],[],u1 jk⟩
def qLz:SI:=⟨f198,[.row y1,.val .term,.val y2],[.one (.row y1)],[(6,[(0,.row y1 false),(2,.keep),(4,.box [.keep,.keep,.keep,.list .term]),(7,.keep)])],[],u3 yl⟩
def qKI:FI:=⟨f199,[.val y4],[y2],[(4,[(0,.list y1),(3,.keep)])],[],u1 qdl⟩
def qxW:FI:=⟨f200,[.val y4],[y5],[(3,[(0,.list y1),(3,.row .term false),(4,.keep)]),(6,[(0,.list y1),(3,.row .term false),(4,.keep),(5,.keep)]),(10,[(0,.list y1),(3,.row .term false),(6,.keep)]),(13,[(0,.list y1),(3,.row .term false),(6,.keep),(7,.keep)])],[],u1 qew⟩
def qKZ:SI:=⟨f201,[.row y1,.val .term,.val y2],[.one (.row y1)],[(4,[(0,.row y1 false),(2,.keep),(4,.box [.keep,.keep,.keep,.list .term]),(7,.row y1 false),(8,.keep),(9,.keep)])],[],u3 qiP⟩
def qJ7:FI:=⟨f202,[.val y4],[y2],[(2,[(0,.list y1),(3,.keep)])],[],u1 qfN⟩
def qLN:SI:=⟨f214,[.val y5,.clo 185 1,.box [.val .term]],[.one (.val y2)],[(2,[(0,.list .term),(1,.fn [.box [.keep,.keep,.keep,.list .term]]),(7,.keep),(8,.keep)])],[],u2 ja⟩
def qJ6:FI:=⟨f223,[.val y4,.val .term,.fn],[y2,.bool],[(3,[(0,.list y1),(2,.keep),(4,.box [.keep,.keep,.keep,.list .term]),(8,.keep),(9,.keep),(10,.keep)])],[],u2 qM⟩
def qOE:FI:=⟨f224,[.val y1,.val .term],[y2],[],[],u2 qah⟩
def qOo:FI:=⟨f227,[.val y4,.fn],[.bool],[],[],u1 zH⟩
def qPe:FI:=⟨f228,[.val y1],[.bool],[],[],u1 qb9⟩
def qKD:FI:=⟨f229,[.val y5,.val .term],[.bool],[(2,[(0,.list .term),(3,.box [.keep,.keep,.keep,.list .term]),(5,.keep)])],[],u2 qlU⟩
def qO3:FI:=⟨f230,[.val .term],[.bool],[],[],u1 qbo⟩
def qK7:FI:=⟨f241,[.val y4,.fn],[y2],[(2,[(0,.list y1),(1,.keep),(7,.keep),(8,.keep)])],[],u1 zV⟩
def elT(f:Nat):Option Ty:=
cond (Nat.blt f 107)
 (cond (Nat.blt f 73)
 (cond (Nat.blt f 48)
 (cond (Nat.beq f 23) (some .term) (none))
 (cond (Nat.blt f 66)
 (cond (Nat.beq f 48) (some y3) (none))
 (cond (Nat.beq f 66) (some y13) (none))))
 (cond (Nat.blt f 90)
 (cond (Nat.blt f 81)
 (cond (Nat.beq f 73) (some (.map .str .str)) (none))
 (cond (Nat.beq f 81) (some y1) (none)))
 (cond (Nat.blt f 97)
 (cond (Nat.beq f 90) (some .str) (none))
 (cond (Nat.beq f 97) (some y7) (none)))))
 (cond (Nat.blt f 118)
 (cond (Nat.blt f 108)
 (cond (Nat.beq f 107) (some y3) (none))
 (cond (Nat.blt f 113)
 (cond (Nat.beq f 108) (some y14) (none))
 (cond (Nat.beq f 113) (some y3) (none))))
 (cond (Nat.blt f 180)
 (cond (Nat.blt f 134)
 (cond (Nat.beq f 118) (some y6) (none))
 (cond (Nat.beq f 134) (some y1) (none)))
 (cond (Nat.blt f 201)
 (cond (Nat.beq f 180) (some y5) (none))
 (cond (Nat.beq f 201) (some y2) (none)))))
def tb:Tb:=⟨tyT,elT,.node 117 (.node 71 (.node 43 (.node 32 (.node 15 (.node 11 (.node 10 (tL 5 (eP i5)) .leaf (eP i10)) (.node 14 (tL 13 (eP i13)) .leaf (eP i14)) (eP i11)) (.node 23 (.node 19 (tL 18 (eP i18)) .leaf (eP i19)) (tL 26 (eP i26)) (.hs ⟨[.val y5],[.one (.row .term)],λ x=>zW 0 x.1⟩)) (eP i15)) (.node 37 (.node 35 (.node 34 (tL 33 (eP i33)) .leaf (eP i34)) (tL 36 (eP i36)) (.hx λ m=>⟨[.box [.val RD]],[.one (.val .term)],λ x=>qcN m x.1⟩)) (.node 41 (.node 40 (tL 39 (eP i39)) .leaf (eP i40)) (tL 42 (eP i42)) (eP i41)) (eP i37)) (eP i32)) (.node 55 (.node 48 (.node 46 (.node 45 (tL 44 (eP i44)) .leaf (eP i45)) (tL 47 (eP i47)) (eS i46)) (.node 51 (.node 50 (tL 49 (eP i49)) .leaf (eP i50)) (tL 52 (eP i52)) (eP i51)) (eP i48)) (.node 64 (.node 58 (.node 57 (tL 56 (eS i56)) .leaf (eP i57)) (tL 62 (eP i62)) (eP i58)) (.node 69 (.node 68 (tL 67 (eS i67)) .leaf (eS i68)) (tL 70 (eP i70)) (eP i69)) (eP i64)) (eP i55)) (eP i43)) (.node 95 (.node 84 (.node 79 (.node 77 (.node 73 (tL 72 (eP i72)) .leaf (eP i73)) (tL 78 (eP i78)) (eP i77)) (.node 82 (.node 81 (tL 80 (eP i80)) .leaf (eP i81)) (tL 83 (eP i83)) (eS i82)) (eP i79)) (.node 89 (.node 87 (.node 86 (tL 85 (eP i85)) .leaf (eP i86)) (tL 88 (eP i88)) (eP i87)) (.node 92 (.node 91 (tL 90 (eP i90)) .leaf (eP i91)) (tL 93 (eP i93)) (eP i92)) (eP i89)) (eS i84)) (.node 107 (.node 102 (.node 100 (.node 99 (tL 96 (eP i96)) .leaf (eP i99)) (tL 101 (eS qMd)) (eS qOY)) (.node 105 (.node 104 (tL 103 (eP qLW)) .leaf (.hp ⟨[],[y9],λ x=>qig 0⟩)) (tL 106 (eP qLn)) (eP qJZ)) (eP qLc)) (.node 112 (.node 110 (.node 109 (tL 108 (eP qLh)) .leaf (eS qLq)) (tL 111 (eS qKE)) (eS qOD)) (.node 115 (.node 114 (tL 113 (eP qOb)) .leaf (eP qOA)) (.node 116 .leaf .leaf (.hp ⟨[.val .str,.val .str],[y2],λ x=>strings_Compare 0 x.1 x.2.1⟩)) (eP qKK)) (eP qKb)) (eP qLS)) (eP i95)) (.pure [([72],i71),([120],qFW)])) (.node 164 (.node 140 (.node 129 (.node 122 (.node 120 (.node 119 (tL 118 (eS qLa)) .leaf (eS qPl)) (tL 121 (eP qO1)) (eP qPy)) (.node 127 (.node 126 (tL 123 (eP qPv)) .leaf (eP qO7)) (tL 128 (eP qLJ)) (eP qPg)) (eP qOj)) (.node 135 (.node 133 (.node 131 (tL 130 (eP qC2)) .leaf (eP qPc)) (tL 134 (eP qOt)) (eP qOg)) (.node 138 (.node 137 (tL 136 (eP qKL)) .leaf (eP qNU)) (.node 139 .leaf .leaf (.hm λ m=>⟨.term,[.clo 89 0],λ x=>zc m x.1⟩)) (eP qPu)) (eP qOH)) (eP qO2)) (.node 154 (.node 149 (.node 143 (.node 142 (tL 141 (eP qOy)) .leaf (eP qJT)) (tL 144 (eP qOI)) (eP qKT)) (.node 152 (.node 151 (tL 150 (eP qN9)) .leaf (eS qGV)) (tL 153 (eP qNO)) (.hm λ m=>⟨y3,[.clo 153 0],λ x=>yu m x.1⟩)) (eS qOu)) (.node 159 (.node 157 (.node 156 (tL 155 (eP qKa)) .leaf (eP qKx)) (tL 158 (eP qLI)) (eP qLF)) (.node 162 (.node 161 (tL 160 (eP qMa)) .leaf (eP qK5)) (tL 163 (eP qHn)) (eP qOq)) (eS qLf)) (eP qPs)) (.hx λ m=>⟨[.row .term,.clo 141 0],[.one (.row .term)],λ x=>qJ m x.1⟩)) (.node 193 (.node 174 (.node 169 (.node 167 (.node 166 (tL 165 (eP qO8)) .leaf (eP qOT)) (tL 168 (eP qOO)) (eP qJJ)) (.node 172 (.node 171 (tL 170 (eP qJ2)) .leaf (eP qOW)) (tL 173 (eP qOP)) (eP qNP)) (eP qLx)) (.node 187 (.node 185 (.node 184 (tL 177 (eP qJ1)) .leaf (eS qN8)) (.node 186 .leaf .leaf (.il f186)) (eS qOf)) (.node 191 (.node 190 (.node 188 .leaf .leaf (.hs ⟨[.val y8],[.one (.row y3)],λ x=>yZ 0 x.1⟩)) .leaf (eP qKS)) (tL 192 (eS qOB)) (eP qOd)) (eS qJV)) (eP qJA)) (.node 214 (.node 198 (.node 196 (.node 195 (tL 194 (eS qK6)) .leaf (eP qNT)) (tL 197 (eP qJK)) (eP qKw)) (.node 201 (.node 200 (tL 199 (eP qKI)) .leaf (eP qxW)) (tL 202 (eP qJ7)) (eS qKZ)) (eS qLz)) (.node 227 (.node 225 (.node 224 (tL 223 (.pure [([224],qJ6)])) .leaf (eP qOE)) (.node 226 .leaf .leaf (.hs ⟨[.row y1,.val y2,.val y2],[.one (.row y1)],λ x=>zD 0 x.1 x.2.1 x.2.2.1⟩)) (.hs ⟨[.row y1,.val y2,.val y4],[.one (.row y1)],λ x=>zC 0 x.1 x.2.1 x.2.2.1⟩)) (.node 230 (.node 229 (tL 228 (eP qPe)) .leaf (eP qKD)) (tL 241 (.pure [([228],qK7)])) (eP qO3)) (.pure [([228],qOo)])) (eS qLN)) (.hs ⟨[.nil,.val y2],[.one (.row .term)],λ x=>yO 0 x.1⟩)) (eP qKN)) (eP qO6)⟩
end Go.AmZ
namespace Go.AmZ
open Go Go.GxZ
set_option linter.unusedVariables false
set_option maxRecDepth 100000
theorem qpY:okP tb [] i83:=λ m a=>by kernel_rfl
theorem qja:okP tb [] i85:=λ m a=>by kernel_rfl
theorem qlu:okS tb qOY:=λ m a=>by kernel_rfl
def qe5(m k x0 x1 x2 x3 x4 x5):=tb.QL qMd 4 m k [(0,.ptr 0 0),(4,vI x0),(14,vI x1),(15,vI x2)] ⟨[[.s x3,vI x4,.b x5]],[]⟩
theorem qkZ(m k):qfr m k=qe5 m k:=qY (M:=qe5 m) rfl (λ _=>by kernel_rfl) k
theorem qlz:okS tb qMd:=λ m a=>(congrArg (λ L=>qe6 m L a.1) (qkZ m m)).trans (by kernel_rfl)
theorem qlD:okS tb i67:=λ m a=>by kernel_rfl
theorem qA7:okP tb [] qO7:=λ m a=>by kernel_rfl
def qnm(m k x0 x1 x2):=tb.PL qLc 4 m k [(0,.s x0),(38,vI x1),(39,vI x2)] ⟨[],[]⟩
theorem qwe(m k):Qv m k=qnm m k:=qY (M:=qnm m) rfl (λ _=>by kernel_rfl) k
theorem qxG:okP tb [] qLc:=λ m a=>(congrArg (λ L=>qeR m L a.1) (qwe m m)).trans (by kernel_rfl)
def qpD(m k x0 x1 x2 x3 x4 x5):=tb.QL i68 17 m k [(1,vI x0),(2,.ptr 0 0),(3,.ptr 1 0),(57,vT x1),(58,vI x2),(59,vI x3)] ⟨[[vI x4],[vI x5]],[]⟩
theorem qxE(m k):jy m (yf m) k=qpD m k:=qY (M:=qpD m) rfl (λ _=>by kernel_rfl) k
theorem qAd:okS tb i68:=λ m a=>(congrArg (λ L=>qfJ m (yf m) L a.1 a.2.1 a.2.2.1 a.2.2.2.1) (qxE m m)).trans (by kernel_rfl)
theorem qzG:okP tb [] i36:=λ m a=>by kernel_rfl
def qkX(m k x0 x1 x2 x3 x4 x5 x6 x7):=tb.PL i73 2 m k [(0,.s x0),(2,.ptr 0 0),(5,.sl y6 x1 1),(6,vI x2),(7,vI x3)] ⟨[[.s x4,vI x5,vI x6,vI x7]],[]⟩
theorem qsw(m k):QV m k=qkX m k:=qY (M:=qkX m) rfl (λ _=>by kernel_rfl) k
theorem quB:okP tb [] i73:=λ m a=>(congrArg (λ L=>qcZ m L a.1) (qsw m m)).trans (by kernel_rfl)
def qmK(m k x0 x1 x2 x3 x4 x5 x6):=tb.PL i80 13 m k [(1,.ptr 0 0),(38,vT x0),(39,vI x1),(40,vI x2)] ⟨[[vI x3,.s x4,vI x5,vT x6]],[]⟩
def qmh(m k x0 x1 x2):=tb.PL i80 22 m k [(62,vT x0),(63,vI x1),(64,vI x2)] ⟨[],[]⟩
theorem qtF(m k):qW m (qE m) k=(qmK m k,qmh m k):=qY (M:=λ k=>(qmK m k,qmh m k)) rfl (λ _=>by kernel_rfl) k
theorem quG:okP tb [] i80:=λ m a=>(congrArg (a₁:=qW m (qE m) m) (λ L=>qdM m (qE m) L.1 L.2 a.1) (qtF m m)).trans (by kernel_rfl)
theorem qvz:okP tb [] i44:=λ m a=>by kernel_rfl
theorem qBN:okP tb [] qOA:=λ m a=>by kernel_rfl
def qrb(m k x0 x1 x2 x3):=tb.PL qKK 3 m k [(3,vI x0),(7,vT x1),(8,vI x2),(9,vI x3)] ⟨[],[]⟩
theorem qzU(m k):qbS m (Qg m) k=qrb m k:=qY (M:=qrb m) rfl (λ _=>by kernel_rfl) k
theorem qCg:okP tb [] qKK:=λ m a=>(congrArg (λ L=>qgS m (Qg m) L a.1) (qzU m m)).trans (by kernel_rfl)
def qmi(m k x0 x1 x2 x3 x4 x5 x6 x7 x8 x9):=tb.PL i89 11 m k [(2,.ptr 0 0),(3,.ptr 1 0),(5,vI x0),(6,vI x1)] ⟨[[vI x2,.s x3,vI x4,vT x5],[vI x6,.s x7,vI x8,vT x9]],[]⟩
theorem qut(m k):jX m (qv m) k=qmi m k:=qY (M:=qmi m) rfl (λ _=>by kernel_rfl) k
theorem qvl:okP tb [] i89:=λ m a=>(congrArg (λ L=>qdU m (qv m) L a.1 a.2.1) (qut m m)).trans (by kernel_rfl)
theorem qw8:okP tb [] i70:=λ m a=>by kernel_rfl
theorem qB3:okP tb [] qPs:=λ m a=>by kernel_rfl
theorem qsA:okP tb [] qPg:=λ m a=>by kernel_rfl
def qaj(m k x0 x1 x2 x3 x4):=tb.PL qHn 3 m k [(0,.sl y5 x0 1),(3,vI x1),(9,.sl y5 x2 1),(10,vI x3),(11,vI x4)] ⟨[],[]⟩
def qaf(m k x0 x1 x2 x3):=tb.PL qHn 11 m k [(6,.row 0 0),(25,.sl y5 x0 1),(26,vI x1),(27,vI x2)] ⟨[],[⟨.term,x3,0,0,false⟩]⟩
theorem qev(m k):qn m k=(qaj m k,qaf m k):=qY (M:=λ k=>(qaj m k,qaf m k)) rfl (λ _=>by kernel_rfl) k
theorem qfk:okP tb [] qHn:=λ m a=>(congrArg (a₁:=qn m m) (λ L=>yX m L.1 L.2 a.1) (qev m m)).trans (by kernel_rfl)
def qp8(m k x0 x1 x2):=tb.PL qKa 4 m k [(14,vT x0),(15,vI x1),(16,vI x2)] ⟨[],[]⟩
theorem qzQ(m k):qbT m k=qp8 m k:=qY (M:=qp8 m) rfl (λ _=>by kernel_rfl) k
theorem qBy:okP tb [] qKa:=λ m a=>(congrArg (λ L=>qhl m L a.1 a.2.1) (qzQ m m)).trans (by kernel_rfl)
def qsZ(m k x0 x1 x2):=tb.PL qKx 2 m k [(0,vT x0),(1,vT x1),(5,.row 0 0)] ⟨[],[⟨.term,x2,0,0,false⟩]⟩
theorem qDx(m k):qcS m k=qsZ m k:=qY (M:=qsZ m) rfl (λ _=>by kernel_rfl) k
theorem qEh:okP tb [] qKx:=λ m a=>(congrArg (λ L=>qik m L a.1 a.2.1) (qDx m m)).trans (by kernel_rfl)
def qmv(m k x0 x1 x2 x3):=tb.PL qLF 6 m k [(3,vT x0),(31,vT x1),(32,vI x2),(33,vI x3)] ⟨[],[]⟩
theorem qtp(m k):QM m (yB m) k=qmv m k:=qY (M:=qmv m) rfl (λ _=>by kernel_rfl) k
theorem qvN:okP tb [] qLF:=λ m a=>(congrArg (λ L=>qdN m (yB m) L a.1) (qtp m m)).trans (by kernel_rfl)
def qpH(m k x0 x1 x2 x3 x4 x5 x6 x7 x8 x9 x10):=tb.PL qJT 4 m k [(1,.ptr 0 0),(2,.ptr 1 0),(9,vT x0),(10,vI x1),(11,vI x2)] ⟨[[vI x3,.s x4,vI x5,.row 0 0],[vI x6,.s x7,vI x8,.row 1 0]],[⟨.term,x9,0,0,false⟩,⟨.term,x10,0,0,false⟩]⟩
theorem qxP(m k):qaV m (jp m) k=qpH m k:=qY (M:=qpH m) rfl (λ _=>by kernel_rfl) k
theorem qz4:okP tb [] qJT:=λ m a=>(congrArg (λ L=>qfC m (jp m) L a.1) (qxP m m)).trans (by kernel_rfl)
def qlO(m k x0 x1 x2 x3 x4 x5 x6 x7 x8 x9 x10 x11 x12 x13 x14):=tb.PL qKS 4 m k [(5,.ptr 0 0),(6,.ptr 1 0),(8,.ptr 2 0),(9,.ptr 2 0),(14,.sl y2 x0 1),(15,vI x1),(16,vI x2)] ⟨[[vI x3,.s x4,vI x5,vT x6],[vI x7,.s x8,vI x9,.row 0 0],[vI x10,.s x11,vI x12,vT x13]],[⟨.term,x14,0,0,false⟩]⟩
theorem qtW(m k):qaC m k=qlO m k:=qY (M:=qlO m) rfl (λ _=>by kernel_rfl) k
theorem qvu:okP tb [] qKS:=λ m a=>(congrArg (λ L=>qdL m L a.1 a.2.1 a.2.2.1) (qtW m m)).trans (by kernel_rfl)
def quI(m k x0 x1 x2 x3):=tb.PL qLI 3 m k [(3,.row 0 0),(9,vT x0),(10,vI x1),(11,vI x2)] ⟨[],[⟨.term,x3,0,0,false⟩]⟩
theorem qEa(m k):qee m (J0 m) k=quI m k:=qY (M:=quI m) rfl (λ _=>by kernel_rfl) k
theorem qGy:okP tb [] qLI:=λ m a=>(congrArg (λ L=>qj9 m (J0 m) L a.1) (qEa m m)).trans (by kernel_rfl)
def quV(m k x0 x1 x2 x3 x4 x5 x6 x7):=tb.PL qLJ 6 m k [(2,.ptr 0 0),(5,vT x0),(15,vT x1),(16,vI x2),(17,vI x3)] ⟨[[vI x4,.s x5,vI x6,.row 0 0]],[⟨.term,x7,0,0,true⟩]⟩
theorem qEi(m k):qeb m k=quV m k:=qY (M:=quV m) rfl (λ _=>by kernel_rfl) k
theorem qGU:okP tb [] qLJ:=λ m a=>(congrArg (λ L=>qjN m L a.1) (qEi m m)).trans (by kernel_rfl)
theorem qrB:okP tb [] qOd:=λ m a=>by kernel_rfl
def qjm(m k x0 x1 x2 x3 x4 x5 x6 x7 x8 x9):=tb.PL qK5 3 m k [(1,.ptr 0 0),(2,.ptr 1 0),(10,.row 0 0),(11,vI x0),(12,vI x1)] ⟨[[vI x2,.s x3,vI x4,.row 0 0],[vI x5,.s x6,vI x7,.row 1 0]],[⟨.term,x8,0,0,false⟩,⟨.term,x9,0,0,false⟩]⟩
theorem qqw(m k):QE m (zw m) k=qjm m k:=qY (M:=qjm m) rfl (λ _=>by kernel_rfl) k
theorem qst:okP tb [] qK5:=λ m a=>(congrArg (λ L=>qb7 m (zw m) L a.1) (qqw m m)).trans (by kernel_rfl)
theorem qpb:okP tb [] qOE:=λ m a=>by kernel_rfl
def yo(m k x0 x1 x2 x3 x4 x5 x6 x7):=tb.PL qJ6 3 m k [(0,.sl y1 x0 1),(2,.fn 224 []),(4,.ptr 0 0),(8,vI x1),(9,vI x2),(10,vI x3)] ⟨[[vI x4,.s x5,vI x6,vT x7]],[]⟩
theorem QO(m k):qr m k=yo m k:=qY (M:=yo m) rfl (λ _=>by kernel_rfl) k
theorem QR:okP tb [224] qJ6:=λ m a=>(congrArg (λ L=>qG m L a.1 a.2.1) (QO m m)).trans (by kernel_rfl)
theorem qqu:okS tb qOB:=λ m a=>by kernel_rfl
def qhK(m k x0 x1 x2 x3 x4):=tb.QL qLf 12 m k [(0,.row 0 0),(2,vI x0),(52,vT x1),(53,vI x2),(54,vI x3)] ⟨[],[⟨y1,x4,0,0,false⟩]⟩
theorem qox(m k):jm m (zr m) k=qhK m k:=qY (M:=qhK m) rfl (λ _=>by kernel_rfl) k
theorem qp4:okS tb qLf:=λ m a=>(congrArg (λ L=>qa4 m (zr m) L a.1 a.2.1 a.2.2.1) (qox m m)).trans (by kernel_rfl)
theorem qx0:okP tb [] qO2:=λ m a=>by kernel_rfl
def qjx(m k x0 x1 x2 x3):=tb.PL qMa 4 m k [(0,.sl y1 x0 1),(9,.sl y1 x1 1),(10,vI x2),(11,vI x3)] ⟨[],[]⟩
theorem qqU(m k):jO m k=qjx m k:=qY (M:=qjx m) rfl (λ _=>by kernel_rfl) k
theorem qsu:okP tb [] qMa:=λ m a=>(congrArg (λ L=>qbW m L a.1) (qqU m m)).trans (by kernel_rfl)
theorem qvf:okP tb [] qOq:=λ m a=>by kernel_rfl
def qk0(m k x0 x1 x2 x3 x4 x5 x6 x7 x8):=tb.PL qC2 6 m k [(2,.ptr 0 0),(5,.row 1 0),(6,.row 2 0),(18,.sl y1 x0 1),(19,vI x1),(20,vI x2)] ⟨[[vI x3,.s x4,vI x5,.row 0 0]],[⟨.term,x6,0,0,false⟩,⟨.term,x7,0,0,false⟩,⟨.term,x8,0,0,false⟩]⟩
def qkY(m k x0 x1 x2 x3 x4 x5 x6 x7 x8 x9 x10 x11 x12 x13 x14 x15):=tb.PL qC2 11 m k [(2,.ptr 0 0),(5,.row 1 0),(6,.row 2 0),(8,.ptr 1 0),(18,.sl y1 x0 1),(19,vI x1),(20,vI x2),(34,vI x3),(35,vI x4)] ⟨[[vI x5,.s x6,vI x7,.row 0 0],[vI x8,.s x9,vI x10,vT x11,vI x12]],[⟨.term,x13,0,0,false⟩,⟨.term,x14,0,0,false⟩,⟨.term,x15,0,0,false⟩]⟩
def qkA(m k x0 x1 x2 x3 x4 x5 x6 x7 x8 x9 x10 x11 x12 x13 x14 x15):=tb.PL qC2 15 m k [(2,.ptr 0 0),(5,.row 1 0),(6,.row 2 0),(8,.ptr 1 0),(18,.sl y1 x0 1),(19,vI x1),(20,vI x2),(46,vI x3),(47,vI x4)] ⟨[[vI x5,.s x6,vI x7,.row 0 0],[vI x8,.s x9,vI x10,vT x11,vI x12]],[⟨.term,x13,0,0,false⟩,⟨.term,x14,0,0,false⟩,⟨.term,x15,0,0,false⟩]⟩
theorem qsC(m k):qy m k=(qk0 m k,qkY m k,qkA m k):=qY (M:=λ k=>(qk0 m k,qkY m k,qkA m k)) rfl (λ _=>by kernel_rfl) k
theorem qtd:okP tb [] qC2:=λ m a=>(congrArg (a₁:=qy m m) (λ L=>qc7 m L.1 L.2.1 L.2.2 a.1) (qsC m m)).trans (by kernel_rfl)
def qiQ(m k x0 x1 x2 x3):=tb.QL qK6 3 m k [(3,.row 0 0),(6,.sl y1 x0 1),(7,vI x1),(8,vI x2)] ⟨[],[⟨y1,x3,0,0,false⟩]⟩
theorem qpS(m k):Qd m k=qiQ m k:=qY (M:=qiQ m) rfl (λ _=>by kernel_rfl) k
theorem qqV:okS tb qK6:=λ m a=>(congrArg (λ L=>qbt m L a.1) (qpS m m)).trans (by kernel_rfl)
theorem qoR:okP tb [] qPe:=λ m a=>by kernel_rfl
def Qa(m k x0 x1 x2):=tb.PL qK7 2 m k [(0,.sl y1 x0 1),(1,.fn 228 []),(7,vI x1),(8,vI x2)] ⟨[],[]⟩
theorem qbd(m k):qA m k=Qa m k:=qY (M:=Qa m) rfl (λ _=>by kernel_rfl) k
theorem qbe:okP tb [228] qK7:=λ m a=>(congrArg (λ L=>zG m L a.1) (qbd m m)).trans (by kernel_rfl)
theorem qaD:okP tb [228] qOo:=λ m a=>by kernel_rfl
theorem qqN:okP tb [] qNT:=λ m a=>by kernel_rfl
def ql3(m k x0 x1 x2 x3):=tb.PL qKN 9 m k [(8,.row 0 0),(23,.sl y1 x0 1),(24,vI x1),(25,vI x2)] ⟨[],[⟨y1,x3,0,0,false⟩]⟩
theorem qt2(m k):Jr m k=ql3 m k:=qY (M:=ql3 m) rfl (λ _=>by kernel_rfl) k
theorem qu7:okP tb [] qKN:=λ m a=>(congrArg (λ L=>qdG m L a.1 a.2.1) (qt2 m m)).trans (by kernel_rfl)
theorem qzZ:okP tb [] qO8:=λ m a=>by kernel_rfl
theorem qwv:okP tb [] qPc:=λ m a=>by kernel_rfl
def qk7(m k x0 x1 x2 x3 x4 x5 x6 x7 x8 x9 x10 x11 x12 x13 x14):=tb.PL qLW 5 m k [(1,.ptr 0 0),(2,.ptr 1 0),(4,.ptr 2 0),(19,vT x0),(20,vI x1),(21,vI x2)] ⟨[[vI x3,.s x4,vI x5,vT x6],[vI x7,.s x8,vI x9,.row 0 0],[vI x10,.s x11,vI x12,.row 1 0]],[⟨.term,x13,0,0,false⟩,⟨.term,x14,0,0,false⟩]⟩
theorem qsB(m k):Q9 m (yx m) k=qk7 m k:=qY (M:=qk7 m) rfl (λ _=>by kernel_rfl) k
theorem qt3:okP tb [] qLW:=λ m a=>(congrArg (λ L=>qc9 m (yx m) L a.1) (qsB m m)).trans (by kernel_rfl)
theorem quD:okP tb [] i69:=λ m a=>by kernel_rfl
theorem qsI:okP tb [] i72:=λ m a=>by kernel_rfl
def qgn(m k x0 x1 x2):=tb.PL i71 4 m k [(1,.fn 72 []),(18,vT x0),(19,vI x1),(20,vI x2)] ⟨[],[]⟩
theorem qm8(m k):yz m (zf m) k=qgn m k:=qY (M:=qgn m) rfl (λ _=>by kernel_rfl) k
theorem qni:okP tb [72] i71:=λ m a=>(congrArg (λ L=>J1 m (zf m) L a.1) (qm8 m m)).trans (by kernel_rfl)
theorem qwt:okP tb [] i37:=λ m a=>by kernel_rfl
theorem qrH:okP tb [] i11:=λ m a=>by kernel_rfl
theorem qlB:okS tb qOD:=λ m a=>by kernel_rfl
def qht(m k x0 x1 x2 x3 x4):=tb.QL qLq 3 m k [(1,.fn 110 [.ptr 0 0,.ptr 1 0]),(10,vT x0),(11,vI x1),(12,vI x2)] ⟨[[vI x3],[.row 0 0]],[⟨.term,x4,0,0,false⟩]⟩
theorem qnl(m k):jC m (zu m) k=qht m k:=qY (M:=qht m) rfl (λ _=>by kernel_rfl) k
theorem qn7:okS tb qLq:=λ m a=>(congrArg (λ L=>qan m (zu m) L a.1 a.2.1 a.2.2.1) (qnl m m)).trans (by kernel_rfl)
theorem qsz:okP tb [] qOy:=λ m a=>by kernel_rfl
def qmg(m k x0 x1 x2):=tb.QL qKE 4 m k [(0,.row 0 0),(9,vI x0),(10,vI x1)] ⟨[],[⟨.term,x2,0,0,false⟩]⟩
theorem qug(m k):JA m k=qmg m k:=qY (M:=qmg m) rfl (λ _=>by kernel_rfl) k
theorem qwq:okS tb qKE:=λ m a=>(congrArg (λ L=>qdS m L a.1) (qug m m)).trans (by kernel_rfl)
theorem qw7:okP tb [] i81:=λ m a=>by kernel_rfl
theorem qAP:okP tb [] i45:=λ m a=>by kernel_rfl
theorem qll:okS tb i84:=λ m a=>by kernel_rfl
def yQ(m k x0 x1 x2 x3 x4 x5 x6):=tb.QL i82 2 m k [(0,.sl y7 x0 1),(1,.fn 84 [.ptr 0 0]),(7,vI x1),(8,vI x2)] ⟨[[vI x3,.s x4,vI x5,vT x6]],[]⟩
theorem Jb(m k):qt m k=yQ m k:=qY (M:=yQ m) rfl (λ _=>by kernel_rfl) k
theorem Ji:okS tb i82:=λ m a=>(congrArg (λ L=>qN m L a.1 a.2.1) (Jb m m)).trans (by kernel_rfl)
def qjl(m k x0 x1 x2 x3):=tb.QL i46 8 m k [(0,.row 0 0),(46,vT x0),(47,vI x1),(48,vI x2)] ⟨[],[⟨y13,x3,0,0,false⟩]⟩
theorem qqG(m k):jN m (zX m) k=qjl m k:=qY (M:=qjl m) rfl (λ _=>by kernel_rfl) k
theorem qsD:okS tb i46:=λ m a=>(congrArg (λ L=>qcb m (zX m) L a.1 a.2.1) (qqG m m)).trans (by kernel_rfl)
theorem qrP:okP tb [] i14:=λ m a=>by kernel_rfl
theorem quA:okP tb [] qPy:=λ m a=>by kernel_rfl
def qfn(m k x0 x1 x2):=tb.PL qFW 4 m k [(1,.fn 120 []),(18,vT x0),(19,vI x1),(20,vI x2)] ⟨[],[]⟩
theorem qlx(m k):qgm m (qa6 m) k=qfn m k:=qY (M:=qfn m) rfl (λ _=>by kernel_rfl) k
theorem qna:okP tb [120] qFW:=λ m a=>(congrArg (λ L=>qfq m (qa6 m) L a.1) (qlx m m)).trans (by kernel_rfl)
theorem qxa:okP tb [] i93:=λ m a=>by kernel_rfl
theorem qp5:okP tb [] i58:=λ m a=>by kernel_rfl
def qhB(m k x0 x1 x2):=tb.PL i50 4 m k [(9,vT x0),(10,vI x1),(11,vI x2)] ⟨[],[]⟩
theorem qnH(m k):qhH m k=qhB m k:=qY (M:=qhB m) rfl (λ _=>by kernel_rfl) k
theorem qow:okP tb [] i50:=λ m a=>(congrArg (λ L=>qg4 m L a.1) (qnH m m)).trans (by kernel_rfl)
def qlJ(m k x0 x1 x2 x3 x4 x5 x6 x7 x8 x9 x10 x11):=tb.PL i52 2 m k [(0,.sl y3 x0 1),(3,.ptr 0 0),(4,.ptr 1 0),(10,.sl y3 x1 1),(11,vI x2),(12,vI x3)] ⟨[[vI x4,.s x5,vI x6,vT x7],[vI x8,.s x9,vI x10,.row 0 0]],[⟨.term,x11,0,0,false⟩]⟩
def qmC(m k x0 x1 x2 x3 x4 x5 x6 x7 x8 x9 x10 x11):=tb.PL i52 10 m k [(0,.sl y3 x0 1),(4,.ptr 0 0),(7,.ptr 1 0),(27,vT x1),(28,vI x2),(29,vI x3)] ⟨[[vI x4,.s x5,vI x6,.row 0 0],[vI x7,.s x8,vI x9,.row 1 0]],[⟨.term,x10,0,0,false⟩,⟨.term,x11,0,0,false⟩]⟩
theorem qt9(m k):qeT m (qd6 m) k=(qlJ m k,qmC m k):=qY (M:=λ k=>(qlJ m k,qmC m k)) rfl (λ _=>by kernel_rfl) k
theorem qvo:okP tb [] i52:=λ m a=>(congrArg (a₁:=qeT m (qd6 m) m) (λ L=>qma m (qd6 m) L.1 L.2 a.1 a.2.1) (qt9 m m)).trans (by kernel_rfl)
theorem qjK:okP tb [] qOI:=λ m a=>by kernel_rfl
theorem qhD:okP tb [] qOb:=λ m a=>by kernel_rfl
theorem qkQ:okP tb [] i88:=λ m a=>by kernel_rfl
theorem qwf:okP tb [] i51:=λ m a=>by kernel_rfl
def qjj(m k x0 x1 x2 x3 x4 x5 x6 x7 x8 x9 x10 x11 x12):=tb.QL i56 9 m k [(1,.s x0),(2,.mp 0),(6,.ptr 1 0),(7,.ptr 2 0),(38,vT x1),(39,vI x2),(40,vI x3)] ⟨[[.mc .str .str x4],[vI x5,.s x6,vI x7,.row 0 0],[vI x8,.s x9,vI x10,.row 1 0]],[⟨.term,x11,0,0,false⟩,⟨.term,x12,0,0,false⟩]⟩
theorem qrv(m k):qlq m (qcl m) k=qjj m k:=qY (M:=qjj m) rfl (λ _=>by kernel_rfl) k
theorem qsx:okS tb i56:=λ m a=>(congrArg (λ L=>qjt m (qcl m) L a.1 a.2.1 a.2.2.1) (qrv m m)).trans (by kernel_rfl)
theorem qxO:okP tb [] i91:=λ m a=>by kernel_rfl
theorem qAr:okP tb [] i96:=λ m a=>by kernel_rfl
theorem qxj:okP tb [] qO1:=λ m a=>by kernel_rfl
theorem qAs:okP tb [] qOj:=λ m a=>by kernel_rfl
theorem qyl:okP tb [] qPv:=λ m a=>by kernel_rfl
theorem qC6:okP tb [] i95:=λ m a=>by kernel_rfl
def qqy(m k x0 x1 x2 x3 x4 x5 x6 x7 x8 x9 x10 x11 x12):=tb.QL qJV 10 m k [(0,.mp 0),(3,.ptr 1 0),(4,.ptr 2 0),(7,.row 1 0),(32,vT x0),(33,vI x1),(34,vI x2)] ⟨[[.mc y12 .term x3],[vI x4,.s x5,vI x6,vT x7],[vI x8,.s x9,vI x10,.row 0 0]],[⟨.term,x11,0,0,false⟩,⟨.term,x12,0,0,false⟩]⟩
theorem qzW(m k):qsW m (qed m) k=qqy m k:=qY (M:=qqy m) rfl (λ _=>by kernel_rfl) k
theorem qC5:okS tb qJV:=λ m a=>(congrArg (λ L=>qrd m (qed m) L a.1 a.2.1) (qzW m m)).trans (by kernel_rfl)
def qhJ(m k x0 x1 x2 x3 x4 x5 x6 x7 x8 x9 x10 x11 x12 x13 x14):=tb.QL qGV 6 m k [(0,.ptr 0 0),(4,.ptr 1 0),(5,.ptr 2 0),(8,.ptr 3 0),(9,.fn 186 [.ptr 5 0,.ptr 3 0]),(10,.row 1 0),(25,vI x0),(26,vI x1)] ⟨[[.sl y3 x2 1,.row 0 0],[vI x3,.s x4,vI x5,vT x6],[vI x7,.s x8,vI x9,vT x10],[.b x11],[.mc y12 .term x12],[.mp 4]],[⟨y3,x13,0,0,false⟩,⟨y3,x14,0,0,false⟩]⟩
def qhG(m k x0 x1 x2 x3 x4 x5 x6 x7 x8 x9 x10 x11 x12 x13 x14):=tb.QL qGV 12 m k [(0,.ptr 0 0),(4,.ptr 1 0),(5,.ptr 2 0),(8,.ptr 3 0),(9,.fn 186 [.ptr 5 0,.ptr 3 0]),(10,.row 1 0),(46,vI x0),(47,vI x1)] ⟨[[.sl y3 x2 1,.row 0 0],[vI x3,.s x4,vI x5,vT x6],[vI x7,.s x8,vI x9,vT x10],[.b x11],[.mc y12 .term x12],[.mp 4]],[⟨y3,x13,0,0,false⟩,⟨y3,x14,0,0,false⟩]⟩
theorem qod(m k):qbF m k=(qhJ m k,qhG m k):=qY (M:=λ k=>(qhJ m k,qhG m k)) rfl (λ _=>by kernel_rfl) k
theorem qpQ:okS tb qGV:=λ m a=>(congrArg (a₁:=qbF m m) (λ L=>qhM m L.1 L.2 a.1 a.2.1 a.2.2.1) (qod m m)).trans (by kernel_rfl)
theorem qq7:okS tb qOu:=λ m a=>by kernel_rfl
theorem qvJ:okP tb [] qN9:=λ m a=>by kernel_rfl
theorem qaL:okS tb qN8:=λ m a=>by kernel_rfl
theorem qmZ:okS tb qOf:=λ m a=>by kernel_rfl
def Qf(m k x0 x1 x2 x3 x4 x5 x6):=tb.QL qLN 2 m k [(0,vT x0),(1,.fn 185 [.ptr 0 0]),(7,vI x1),(8,vI x2)] ⟨[[vI x3,.s x4,vI x5,vT x6]],[]⟩
theorem qbk(m k):Qq m (qeh m) (yF m) (qdt m) (ja m) k=Qf m k:=qY (M:=Qf m) rfl (λ _=>by kernel_rfl) k
theorem qbC:okS tb qLN:=λ m a=>(congrArg (λ L=>Qh m (qeh m) (yF m) (qdt m) (ja m) L a.1 a.2.1) (qbk m m)).trans (by kernel_rfl)
def qhF(m k x0 x1 x2 x3 x4 x5 x6 x7 x8 x9 x10 x11 x12):=tb.QL qLa 8 m k [(0,.ptr 0 0),(3,.ptr 1 0),(4,.ptr 2 0),(5,.row 1 0),(39,vI x0),(40,vI x1)] ⟨[[.sl y3 x2 1,.row 0 0],[vI x3,.s x4,vI x5,vT x6],[vI x7,.s x8,vI x9,vT x10]],[⟨y3,x11,0,0,false⟩,⟨y3,x12,0,0,false⟩]⟩
theorem qpn(m k):qiM m k=qhF m k:=qY (M:=qhF m) rfl (λ _=>by kernel_rfl) k
theorem qpZ:okS tb qLa:=λ m a=>(congrArg (λ L=>qhL m L a.1) (qpn m m)).trans (by kernel_rfl)
theorem qpi:okP tb [] qNO:=λ m a=>by kernel_rfl
theorem qq0:okS tb qPl:=λ m a=>by kernel_rfl
def qnh(m k x0 x1):=tb.PL i92 2 m k [(4,.ptr 0 0)] ⟨[[.sl y3 x0 1,.row 0 0]],[⟨y3,x1,0,0,false⟩]⟩
theorem qwI(m k):qpP m k=qnh m k:=qY (M:=qnh m) rfl (λ _=>by kernel_rfl) k
theorem qxV:okP tb [] i92:=λ m a=>(congrArg (λ L=>qny m L a.1) (qwI m m)).trans (by kernel_rfl)
theorem qxY:okP tb [] i57:=λ m a=>by kernel_rfl
def qgP(m k x0 x1 x2 x3 x4 x5 x6):=tb.PL i26 5 m k [(0,vT x0),(4,.ptr 0 0),(20,vI x1),(21,vI x2)] ⟨[[vI x3,.s x4,vI x5,.row 0 0]],[⟨.term,x6,0,0,false⟩]⟩
def qhn(m k x0 x1 x2 x3 x4 x5 x6 x7 x8 x9 x10 x11 x12):=tb.PL i26 9 m k [(0,vT x0),(4,.ptr 0 0),(7,vI x1),(8,.ptr 1 0),(9,vI x2),(20,vI x3),(21,vI x4)] ⟨[[vI x5,.s x6,vI x7,.row 0 0],[vI x8,.s x9,vI x10,vT x11]],[⟨.term,x12,0,0,false⟩]⟩
theorem qno(m k):qbc m k=(qgP m k,qhn m k):=qY (M:=λ k=>(qgP m k,qhn m k)) rfl (λ _=>by kernel_rfl) k
theorem qoU:okP tb [] i26:=λ m a=>(congrArg (a₁:=qbc m m) (λ L=>qgB m L.1 L.2 a.1) (qno m m)).trans (by kernel_rfl)
theorem qBJ:okP tb [] i32:=λ m a=>by kernel_rfl
theorem qAg:okP tb [] i33:=λ m a=>by kernel_rfl
theorem qDb:okP tb [] i34:=λ m a=>by kernel_rfl
theorem qw0:okP tb [] i10:=λ m a=>by kernel_rfl
def qpK(m k x0 x1 x2 x3 x4 x5):=tb.PL i39 3 m k [(1,.ptr 0 0),(3,vI x0),(4,vI x1)] ⟨[[vI x2,.s x3,vI x4,vT x5]],[]⟩
theorem qyi(m k):qaX m (jv m) k=qpK m k:=qY (M:=qpK m) rfl (λ _=>by kernel_rfl) k
theorem qzF:okP tb [] i39:=λ m a=>(congrArg (λ L=>qfO m (jv m) L a.1) (qyi m m)).trans (by kernel_rfl)
theorem qu0:okP tb [] i79:=λ m a=>by kernel_rfl
def qln(m k x0 x1 x2 x3 x4 x5 x6 x7 x8):=tb.PL i43 18 m k [(2,.ptr 0 0),(3,.ptr 1 0),(9,vI x0)] ⟨[[vI x1,.s x2,vI x3,vT x4],[vI x5,.s x6,vI x7,vT x8]],[]⟩
theorem qsM(m k):Q4 m (zO m) k=qln m k:=qY (M:=qln m) rfl (λ _=>by kernel_rfl) k
theorem qtV:okP tb [] i43:=λ m a=>(congrArg (λ L=>qc5 m (zO m) L a.1 a.2.1) (qsM m m)).trans (by kernel_rfl)
theorem qAt:okP tb [] i13:=λ m a=>by kernel_rfl
def qlH(m k x0 x1 x2 x3 x4 x5):=tb.PL i86 5 m k [(1,vI x0),(2,.ptr 0 0),(5,vI x1)] ⟨[[vI x2,.s x3,vI x4,vT x5]],[]⟩
theorem quf(m k):Js m (jb m) k=qlH m k:=qY (M:=qlH m) rfl (λ _=>by kernel_rfl) k
theorem qu3:okP tb [] i86:=λ m a=>(congrArg (λ L=>qdR m (jb m) L a.1 a.2.1) (quf m m)).trans (by kernel_rfl)
def qrN(m k x0 x1 x2):=tb.PL i47 4 m k [(0,vT x0),(2,vI x1),(7,vI x2)] ⟨[],[]⟩
theorem qzK(m k):qbR m k=qrN m k:=qY (M:=qrN m) rfl (λ _=>by kernel_rfl) k
theorem qB2:okP tb [] i47:=λ m a=>(congrArg (λ L=>qhh m L a.1 a.2.1 a.2.2.1) (qzK m m)).trans (by kernel_rfl)
theorem qBt:okP tb [] i15:=λ m a=>by kernel_rfl
def qnI(m k x0 x1 x2 x3 x4 x5):=tb.PL i40 3 m k [(1,.ptr 0 0),(3,vI x0),(4,vI x1)] ⟨[[vI x2,.s x3,vI x4,vT x5]],[]⟩
theorem qva(m k):J9 m (jB m) k=qnI m k:=qY (M:=qnI m) rfl (λ _=>by kernel_rfl) k
theorem qxB:okP tb [] i40:=λ m a=>(congrArg (λ L=>qeY m (jB m) L a.1) (qva m m)).trans (by kernel_rfl)
theorem qwH:okP tb [] qOg:=λ m a=>by kernel_rfl
theorem qwW:okP tb [] qOt:=λ m a=>by kernel_rfl
def qmO(m k x0 x1):=tb.PL qJZ 4 m k [(0,.s x0),(3,vI x1)] ⟨[],[]⟩
theorem qti(m k):Jv m k=qmO m k:=qY (M:=qmO m) rfl (λ _=>by kernel_rfl) k
theorem qvB:okP tb [] qJZ:=λ m a=>(congrArg (λ L=>qdJ m L a.1) (qti m m)).trans (by kernel_rfl)
theorem qzO:okP tb [] qO6:=λ m a=>by kernel_rfl
def qnf(m k x0 x1 x2 x3 x4):=tb.PL i90 5 m k [(1,.ptr 0 0),(4,vI x0)] ⟨[[vI x1,.s x2,vI x3,vT x4]],[]⟩
theorem quQ(m k):J6 m (jA m) k=qnf m k:=qY (M:=qnf m) rfl (λ _=>by kernel_rfl) k
theorem qxd:okP tb [] i90:=λ m a=>(congrArg (λ L=>qeJ m (jA m) L a.1) (quQ m m)).trans (by kernel_rfl)
theorem qyg:okP tb [] i55:=λ m a=>by kernel_rfl
theorem qtB:okP tb [] i99:=λ m a=>by kernel_rfl
def qpM(m k x0 x1 x2):=tb.PL i64 3 m k [(0,.s x0),(3,.sl y6 x1 1),(4,vI x2)] ⟨[],[]⟩
theorem qxR(m k):qaP m k=qpM m k:=qY (M:=qpM m) rfl (λ _=>by kernel_rfl) k
theorem qAe:okP tb [] i64:=λ m a=>(congrArg (λ L=>qfL m L a.1) (qxR m m)).trans (by kernel_rfl)
def qpC(m k x0 x1 x2 x3 x4 x5):=tb.PL qLn 3 m k [(1,.ptr 0 0),(3,.sl y6 x0 1),(4,vI x1)] ⟨[[vI x2,.s x3,vI x4,vT x5]],[]⟩
theorem qxQ(m k):qaS m k=qpC m k:=qY (M:=qpC m) rfl (λ _=>by kernel_rfl) k
theorem qAl:okP tb [] qLn:=λ m a=>(congrArg (λ L=>qfK m L a.1) (qxQ m m)).trans (by kernel_rfl)
def qmM(m k x0 x1 x2 x3 x4):=tb.PL qLS 4 m k [(1,.ptr 0 0),(3,vI x0)] ⟨[[vI x1,.s x2,vI x3,vT x4]],[]⟩
theorem qs8(m k):Jy m k=qmM m k:=qY (M:=qmM m) rfl (λ _=>by kernel_rfl) k
theorem qvp:okP tb [] qLS:=λ m a=>(congrArg (λ L=>qdD m L a.1) (qs8 m m)).trans (by kernel_rfl)
def qns(m k x0 x1 x2 x3 x4):=tb.PL i77 11 m k [(1,.ptr 0 0),(4,vI x0)] ⟨[[vI x1,.s x2,vI x3,vT x4]],[]⟩
theorem qwO(m k):Jg m (jh m) k=qns m k:=qY (M:=qns m) rfl (λ _=>by kernel_rfl) k
theorem qym:okP tb [] i77:=λ m a=>(congrArg (λ L=>qeI m (jh m) L a.1) (qwO m m)).trans (by kernel_rfl)
theorem qyn:okP tb [] i41:=λ m a=>by kernel_rfl
def qrn(m k x0 x1 x2 x3 x4 x5):=tb.PL i62 3 m k [(1,.ptr 0 0),(3,.row 0 0),(4,vI x0)] ⟨[[vI x1,.s x2,vI x3,vT x4]],[⟨.term,x5,0,0,true⟩]⟩
theorem qzV(m k):qbV m (Qj m) k=qrn m k:=qY (M:=qrn m) rfl (λ _=>by kernel_rfl) k
theorem qCs:okP tb [] i62:=λ m a=>(congrArg (λ L=>qhC m (Qj m) L a.1) (qzV m m)).trans (by kernel_rfl)
theorem qDT:okP tb [] qOT:=λ m a=>by kernel_rfl
theorem qth:okP tb [] qOH:=λ m a=>by kernel_rfl
def qnk(m k x0 x1 x2 x3 x4 x5):=tb.PL qJJ 4 m k [(0,vT x0),(3,.ptr 0 0),(5,vI x1)] ⟨[[vI x2,.s x3,vI x4,vT x5]],[]⟩
theorem qve(m k):qab m k=qnk m k:=qY (M:=qnk m) rfl (λ _=>by kernel_rfl) k
theorem qxM:okP tb [] qJJ:=λ m a=>(congrArg (λ L=>qeF m L a.1 a.2.1) (qve m m)).trans (by kernel_rfl)
theorem qz3:okP tb [] qOO:=λ m a=>by kernel_rfl
def qqg(m k x0 x1 x2 x3 x4 x5 x6 x7):=tb.PL qJ1 4 m k [(0,vT x0),(3,.ptr 0 0),(5,.row 0 0),(6,.b x1),(7,vI x2)] ⟨[[vI x3,.s x4,vI x5,vT x6]],[⟨.term,x7,0,0,false⟩]⟩
theorem qzP(m k):qbP m k=qqg m k:=qY (M:=qqg m) rfl (λ _=>by kernel_rfl) k
theorem qBK:okP tb [] qJ1:=λ m a=>(congrArg (λ L=>qhc m L a.1 a.2.1) (qzP m m)).trans (by kernel_rfl)
def qqp(m k x0 x1 x2 x3 x4 x5):=tb.PL qKD 2 m k [(0,vT x0),(3,.ptr 0 0),(5,vI x1)] ⟨[[vI x2,.s x3,vI x4,vT x5]],[]⟩
theorem qzM(m k):qbO m k=qqp m k:=qY (M:=qqp m) rfl (λ _=>by kernel_rfl) k
theorem qCa:okP tb [] qKD:=λ m a=>(congrArg (λ L=>qgV m L a.1 a.2.1) (qzM m m)).trans (by kernel_rfl)
def qlR(m k x0 x1 x2 x3 x4 x5 x6):=tb.PL qKw 5 m k [(0,vT x0),(3,.ptr 0 0),(5,.row 0 0),(6,vI x1)] ⟨[[vI x2,.s x3,vI x4,vT x5]],[⟨.term,x6,0,0,false⟩]⟩
theorem qtK(m k):JE m k=qlR m k:=qY (M:=qlR m) rfl (λ _=>by kernel_rfl) k
theorem qv0:okP tb [] qKw:=λ m a=>(congrArg (λ L=>qdP m L a.1 a.2.1) (qtK m m)).trans (by kernel_rfl)
def qpE(m k x0 x1 x2):=tb.PL qLx 3 m k [(1,vT x0),(5,vT x1),(6,vI x2)] ⟨[],[]⟩
theorem qw5(m k):JS m k=qpE m k:=qY (M:=qpE m) rfl (λ _=>by kernel_rfl) k
theorem qz9:okP tb [] qLx:=λ m a=>(congrArg (λ L=>qfF m L a.1 a.2.1) (qw5 m m)).trans (by kernel_rfl)
def qju(m k x0 x1 x2 x3 x4 x5):=tb.PL qJ2 7 m k [(1,.ptr 0 0),(3,vT x0),(4,vI x1)] ⟨[[vI x2,.s x3,vI x4,vT x5]],[]⟩
theorem qru(m k):jQ m (zZ m) k=qju m k:=qY (M:=qju m) rfl (λ _=>by kernel_rfl) k
theorem qsK:okP tb [] qJ2:=λ m a=>(congrArg (λ L=>qbX m (zZ m) L a.1) (qru m m)).trans (by kernel_rfl)
theorem qzT:okP tb [] qOW:=λ m a=>by kernel_rfl
def qrf(m k x0 x1 x2 x3 x4 x5 x6):=tb.PL qKL 6 m k [(0,vT x0),(2,.ptr 0 0),(5,vT x1),(6,vI x2)] ⟨[[vI x3,.s x4,vI x5,.row 0 0]],[⟨.term,x6,0,0,true⟩]⟩
theorem qAh(m k):qbL m k=qrf m k:=qY (M:=qrf m) rfl (λ _=>by kernel_rfl) k
theorem qCw:okP tb [] qKL:=λ m a=>(congrArg (λ L=>qhm m L a.1) (qAh m m)).trans (by kernel_rfl)
theorem qtE:okP tb [] qO3:=λ m a=>by kernel_rfl
def qnD(m k x0 x1 x2 x3 x4 x5):=tb.PL qJK 7 m k [(1,.ptr 0 0),(3,vI x0),(4,vI x1)] ⟨[[vI x2,.s x3,vI x4,vT x5]],[]⟩
theorem qwK(m k):Jc m (jk m) k=qnD m k:=qY (M:=qnD m) rfl (λ _=>by kernel_rfl) k
theorem qxx:okP tb [] qJK:=λ m a=>(congrArg (λ L=>qeV m (jk m) L a.1) (qwK m m)).trans (by kernel_rfl)
def qrj(m k x0 x1 x2 x3 x4 x5 x6 x7 x8):=tb.QL qKZ 4 m k [(0,.row 0 0),(2,vI x0),(4,.ptr 0 0),(7,.row 1 0),(8,.b x1),(9,vI x2)] ⟨[[vI x3,.s x4,vI x5,vT x6]],[⟨y1,x7,0,0,false⟩,⟨y1,x8,0,0,false⟩]⟩
theorem qAf(m k):JK m k=qrj m k:=qY (M:=qrj m) rfl (λ _=>by kernel_rfl) k
theorem qDH:okS tb qKZ:=λ m a=>(congrArg (λ L=>qg7 m L a.1 a.2.1 a.2.2.1) (qAf m m)).trans (by kernel_rfl)
def qkx(m k x0 x1 x2 x3 x4 x5 x6):=tb.QL qLz 6 m k [(0,.row 0 0),(2,vI x0),(4,.ptr 0 0),(7,vI x1)] ⟨[[vI x2,.s x3,vI x4,vT x5]],[⟨y1,x6,0,0,false⟩]⟩
theorem qsH(m k):Qi m (yl m) k=qkx m k:=qY (M:=qkx m) rfl (λ _=>by kernel_rfl) k
theorem qtn:okS tb qLz:=λ m a=>(congrArg (λ L=>qc0 m (yl m) L a.1 a.2.1 a.2.2.1) (qsH m m)).trans (by kernel_rfl)
theorem qEg:okP tb [] qNP:=λ m a=>by kernel_rfl
def qnP(m k x0 x1):=tb.PL qKI 4 m k [(0,.sl y1 x0 1),(3,vI x1)] ⟨[],[]⟩
theorem quH(m k):Jd m k=qnP m k:=qY (M:=qnP m) rfl (λ _=>by kernel_rfl) k
theorem qyb:okP tb [] qKI:=λ m a=>(congrArg (λ L=>qeP m L a.1) (quH m m)).trans (by kernel_rfl)
def qjs(m k x0 x1 x2):=tb.PL qxW 3 m k [(0,.sl y1 x0 1),(3,.row 0 0),(4,vI x1)] ⟨[],[⟨.term,x2,0,0,false⟩]⟩
def qjo(m k x0 x1 x2 x3):=tb.PL qxW 6 m k [(0,.sl y1 x0 1),(3,.row 0 0),(4,vI x1),(5,vI x2)] ⟨[],[⟨.term,x3,0,0,false⟩]⟩
def qjq(m k x0 x1 x2):=tb.PL qxW 10 m k [(0,.sl y1 x0 1),(3,.row 0 0),(6,vI x1)] ⟨[],[⟨.term,x2,0,0,false⟩]⟩
def qjg(m k x0 x1 x2 x3):=tb.PL qxW 13 m k [(0,.sl y1 x0 1),(3,.row 0 0),(6,vI x1),(7,vI x2)] ⟨[],[⟨.term,x3,0,0,false⟩]⟩
theorem qqt(m k):qm m k=(qjs m k,qjo m k,qjq m k,qjg m k):=qY (M:=λ k=>(qjs m k,qjo m k,qjq m k,qjg m k)) rfl (λ _=>by kernel_rfl) k
theorem qsJ:okP tb [] qxW:=λ m a=>(congrArg (a₁:=qm m m) (λ L=>qbY m L.1 L.2.1 L.2.2.1 L.2.2.2 a.1) (qqt m m)).trans (by kernel_rfl)
theorem qAc:okP tb [] qOP:=λ m a=>by kernel_rfl
theorem qt8:okP tb [] qNU:=λ m a=>by kernel_rfl
def qlo(m k x0 x1):=tb.PL qJ7 2 m k [(0,.sl y1 x0 1),(3,vI x1)] ⟨[],[]⟩
theorem qsL(m k):QU m k=qlo m k:=qY (M:=qlo m) rfl (λ _=>by kernel_rfl) k
theorem qtH:okP tb [] qJ7:=λ m a=>(congrArg (λ L=>qda m L a.1) (qsL m m)).trans (by kernel_rfl)
def qrO(m k x0 x1 x2):=tb.PL qJA 9 m k [(1,.sl y1 x0 1),(8,.row 0 0),(9,vI x1)] ⟨[],[⟨y1,x2,0,0,false⟩]⟩
theorem qzY(m k):qaA m k=qrO m k:=qY (M:=qrO m) rfl (λ _=>by kernel_rfl) k
theorem qDh:okP tb [] qJA:=λ m a=>(congrArg (λ L=>qgJ m L a.1 a.2.1) (qzY m m)).trans (by kernel_rfl)
theorem qw4:okP tb [] qPu:=λ m a=>by kernel_rfl
def ql4(m k x0 x1 x2 x3 x4 x5 x6 x7 x8 x9):=tb.PL qLh 5 m k [(1,.ptr 0 0),(2,.ptr 1 0),(4,.row 1 0),(5,vI x0)] ⟨[[vI x1,.s x2,vI x3,vT x4],[vI x5,.s x6,vI x7,.row 0 0]],[⟨.term,x8,0,0,false⟩,⟨.term,x9,0,0,false⟩]⟩
theorem qtc(m k):Jx m (jd m) k=ql4 m k:=qY (M:=ql4 m) rfl (λ _=>by kernel_rfl) k
theorem qvO:okP tb [] qLh:=λ m a=>(congrArg (λ L=>qdE m (jd m) L a.1) (qtc m m)).trans (by kernel_rfl)
theorem qvs:okP tb [] i78:=λ m a=>by kernel_rfl
def qnw(m k x0 x1):=tb.PL i42 6 m k [(5,vT x0),(6,vI x1)] ⟨[],[]⟩
theorem qv5(m k):qaa m k=qnw m k:=qY (M:=qnw m) rfl (λ _=>by kernel_rfl) k
theorem qxm:okP tb [] i42:=λ m a=>(congrArg (λ L=>qeu m L a.1) (qv5 m m)).trans (by kernel_rfl)
def qry(m k x0 x1 x2):=tb.PL qKT 3 m k [(0,vT x0),(3,vT x1),(4,vI x2)] ⟨[],[]⟩
theorem qzL(m k):qbM m k=qry m k:=qY (M:=qry m) rfl (λ _=>by kernel_rfl) k
theorem qBj:okP tb [] qKT:=λ m a=>(congrArg (λ L=>qhd m L a.1) (qzL m m)).trans (by kernel_rfl)
def qpx(m k x0 x1 x2 x3):=tb.PL qKb 4 m k [(1,vI x0),(5,.row 0 0),(6,vT x1),(7,vI x2)] ⟨[],[⟨.term,x3,0,0,false⟩]⟩
theorem qw2(m k):qaE m k=qpx m k:=qY (M:=qpx m) rfl (λ _=>by kernel_rfl) k
theorem qAq:okP tb [] qKb:=λ m a=>(congrArg (λ L=>qfD m L a.1 a.2.1) (qw2 m m)).trans (by kernel_rfl)
theorem qzN:okP tb [] i87:=λ m a=>by kernel_rfl
theorem qvr:okP tb [] i48:=λ m a=>by kernel_rfl
theorem qxv:okP tb [] i18:=λ m a=>by kernel_rfl
theorem qfo:okP tb [] i49:=λ m a=>by kernel_rfl
theorem qoe:okP tb [] i19:=λ m a=>by kernel_rfl
theorem qlv:okP tb [] i5:=λ m a=>by kernel_rfl
end Go.AmZ
namespace Go.Proofs
open Go.Shelf
def Tryz.sortTrm_ren:Go.Shelf.Ren:=⟨λ|6=>139|15=>176|14=>175|28=>211|29=>179|20=>203|21=>204|22=>205|23=>206|24=>207|25=>208|26=>209|27=>210|46=>231|47=>232|48=>233|49=>234|50=>235|57=>242|n=>n,λ|22=>23|24=>25|25=>64|3=>3|39=>164|0=>0|53=>169|55=>144|4=>4|46=>188|45=>187|50=>192|5=>5|9=>9|66=>209|70=>83|76=>221|77=>222|n=>n,λ|n=>n⟩
theorem Tryz.sortTrm:Go.Proofs.SlLaysF0.n6 Tryz.prog Tryz.sortTrm_ren:={
 mixed:=by kernel_rfl
 f6:=⟨Tryz.f139.name,by decide,Tryz.func139.trans (congrArg some (by kernel_rfl))⟩
 f14:=⟨Tryz.f175.name,by decide,Tryz.func175.trans (congrArg some (by kernel_rfl))⟩
 f15:=Tryz.func176.trans (congrArg some (by kernel_rfl))
 f20:=⟨Tryz.f203.name,by decide,Tryz.func203.trans (congrArg some (by kernel_rfl))⟩
 f21:=⟨Tryz.f204.name,by decide,Tryz.func204.trans (congrArg some (by kernel_rfl))⟩
 f22:=⟨Tryz.f205.name,by decide,Tryz.func205.trans (congrArg some (by kernel_rfl))⟩
 f23:=⟨Tryz.f206.name,by decide,Tryz.func206.trans (congrArg some (by kernel_rfl))⟩
 f24:=⟨Tryz.f207.name,by decide,Tryz.func207.trans (congrArg some (by kernel_rfl))⟩
 f25:=⟨Tryz.f208.name,by decide,Tryz.func208.trans (congrArg some (by kernel_rfl))⟩
 f26:=⟨Tryz.f209.name,by decide,Tryz.func209.trans (congrArg some (by kernel_rfl))⟩
 f27:=⟨Tryz.f210.name,by decide,Tryz.func210.trans (congrArg some (by kernel_rfl))⟩
 f28:=Tryz.func211.trans (congrArg some (by kernel_rfl))
 f29:=Tryz.func179.trans (congrArg some (by kernel_rfl))
 f46:=⟨Tryz.f231.name,by decide,Tryz.func231.trans (congrArg some (by kernel_rfl))⟩
 f47:=Tryz.func232.trans (congrArg some (by kernel_rfl))
 f48:=Tryz.func233.trans (congrArg some (by kernel_rfl))
 f49:=⟨Tryz.f234.name,by decide,Tryz.func234.trans (congrArg some (by kernel_rfl))⟩
 f50:=⟨Tryz.f235.name,by decide,Tryz.func235.trans (congrArg some (by kernel_rfl))⟩
 f57:=⟨Tryz.f242.name,by decide,Tryz.func242.trans (congrArg some (by kernel_rfl))⟩
 t0:=Tryz.underlying0
 a0:=Tryz.isAgg0
 z0:=Tryz.sizeOf0
 v0:=Tryz.zeroValue0
 t3:=Tryz.underlying3
 a3:=Tryz.isAgg3
 z3:=Tryz.sizeOf3
 v3:=Tryz.zeroValue3
 t4:=Tryz.underlying4
 a4:=Tryz.isAgg4
 z4:=Tryz.sizeOf4
 v4:=Tryz.zeroValue4
 t5:=Tryz.underlying5
 a5:=Tryz.isAgg5
 z5:=Tryz.sizeOf5
 v5:=Tryz.zeroValue5
 t9:=Tryz.underlying9
 a9:=Tryz.isAgg9
 z9:=Tryz.sizeOf9
 v9:=Tryz.zeroValue9
 t22:=Tryz.underlying23
 a22:=Tryz.isAgg23
 z22:=Tryz.sizeOf23
 v22:=Tryz.zeroValue23
 t25:=Tryz.underlying64
 a25:=Tryz.isAgg64
 z25:=Tryz.sizeOf64
 v25:=Tryz.zeroValue64
 t39:=Tryz.underlying164
 a39:=Tryz.isAgg164
 z39:=Tryz.sizeOf164
 v39:=Tryz.zeroValue164
 t45:=Tryz.underlying187
 a45:=Tryz.isAgg187
 z45:=Tryz.sizeOf187
 v45:=Tryz.zeroValue187
 t46:=Tryz.underlying188
 a46:=Tryz.isAgg188
 z46:=Tryz.sizeOf188
 v46:=Tryz.zeroValue188
 t50:=Tryz.underlying192
 a50:=Tryz.isAgg192
 z50:=Tryz.sizeOf192
 v50:=Tryz.zeroValue192
 t53:=Tryz.underlying169
 a53:=Tryz.isAgg169
 z53:=Tryz.sizeOf169
 v53:=Tryz.zeroValue169
 t55:=Tryz.underlying144
 a55:=Tryz.isAgg144
 z55:=Tryz.sizeOf144
 v55:=Tryz.zeroValue144
 t66:=Tryz.underlying209
 a66:=Tryz.isAgg209
 z66:=Tryz.sizeOf209
 v66:=Tryz.zeroValue209
 t70:=Tryz.underlying83
 a70:=Tryz.isAgg83
 z70:=Tryz.sizeOf83
 v70:=Tryz.zeroValue83
 t76:=Tryz.underlying221
 a76:=Tryz.isAgg221
 z76:=Tryz.sizeOf221
 v76:=Tryz.zeroValue221
 t77:=Tryz.underlying222
 a77:=Tryz.isAgg222
 z77:=Tryz.sizeOf222
 v77:=Tryz.zeroValue222}
end Go.Proofs
namespace Go.Proofs
open Go.Shelf
def Tryz.sortBnd_ren:Go.Shelf.Ren:=⟨λ|6=>152|15=>176|14=>189|28=>211|29=>179|20=>215|21=>216|22=>217|23=>218|24=>219|25=>220|26=>221|27=>222|46=>236|47=>232|48=>233|49=>237|50=>238|57=>243|n=>n,λ|22=>48|24=>76|25=>150|3=>3|39=>164|0=>0|53=>169|55=>144|4=>4|46=>188|45=>187|50=>192|5=>5|9=>9|66=>209|70=>83|76=>221|77=>222|n=>n,λ|n=>n⟩
theorem Tryz.sortBnd:Go.Proofs.SlLaysF0.n6 Tryz.prog Tryz.sortBnd_ren:={
 mixed:=by kernel_rfl
 f6:=⟨Tryz.f152.name,by decide,Tryz.func152.trans (congrArg some (by kernel_rfl))⟩
 f14:=⟨Tryz.f189.name,by decide,Tryz.func189.trans (congrArg some (by kernel_rfl))⟩
 f15:=Tryz.func176.trans (congrArg some (by kernel_rfl))
 f20:=⟨Tryz.f215.name,by decide,Tryz.func215.trans (congrArg some (by kernel_rfl))⟩
 f21:=⟨Tryz.f216.name,by decide,Tryz.func216.trans (congrArg some (by kernel_rfl))⟩
 f22:=⟨Tryz.f217.name,by decide,Tryz.func217.trans (congrArg some (by kernel_rfl))⟩
 f23:=⟨Tryz.f218.name,by decide,Tryz.func218.trans (congrArg some (by kernel_rfl))⟩
 f24:=⟨Tryz.f219.name,by decide,Tryz.func219.trans (congrArg some (by kernel_rfl))⟩
 f25:=⟨Tryz.f220.name,by decide,Tryz.func220.trans (congrArg some (by kernel_rfl))⟩
 f26:=⟨Tryz.f221.name,by decide,Tryz.func221.trans (congrArg some (by kernel_rfl))⟩
 f27:=⟨Tryz.f222.name,by decide,Tryz.func222.trans (congrArg some (by kernel_rfl))⟩
 f28:=Tryz.func211.trans (congrArg some (by kernel_rfl))
 f29:=Tryz.func179.trans (congrArg some (by kernel_rfl))
 f46:=⟨Tryz.f236.name,by decide,Tryz.func236.trans (congrArg some (by kernel_rfl))⟩
 f47:=Tryz.func232.trans (congrArg some (by kernel_rfl))
 f48:=Tryz.func233.trans (congrArg some (by kernel_rfl))
 f49:=⟨Tryz.f237.name,by decide,Tryz.func237.trans (congrArg some (by kernel_rfl))⟩
 f50:=⟨Tryz.f238.name,by decide,Tryz.func238.trans (congrArg some (by kernel_rfl))⟩
 f57:=⟨Tryz.f243.name,by decide,Tryz.func243.trans (congrArg some (by kernel_rfl))⟩
 t0:=Tryz.underlying0
 a0:=Tryz.isAgg0
 z0:=Tryz.sizeOf0
 v0:=Tryz.zeroValue0
 t3:=Tryz.underlying3
 a3:=Tryz.isAgg3
 z3:=Tryz.sizeOf3
 v3:=Tryz.zeroValue3
 t4:=Tryz.underlying4
 a4:=Tryz.isAgg4
 z4:=Tryz.sizeOf4
 v4:=Tryz.zeroValue4
 t5:=Tryz.underlying5
 a5:=Tryz.isAgg5
 z5:=Tryz.sizeOf5
 v5:=Tryz.zeroValue5
 t9:=Tryz.underlying9
 a9:=Tryz.isAgg9
 z9:=Tryz.sizeOf9
 v9:=Tryz.zeroValue9
 t22:=Tryz.underlying48
 a22:=Tryz.isAgg48
 z22:=Tryz.sizeOf48
 v22:=Tryz.zeroValue48
 t25:=Tryz.underlying150
 a25:=Tryz.isAgg150
 z25:=Tryz.sizeOf150
 v25:=Tryz.zeroValue150
 t39:=Tryz.underlying164
 a39:=Tryz.isAgg164
 z39:=Tryz.sizeOf164
 v39:=Tryz.zeroValue164
 t45:=Tryz.underlying187
 a45:=Tryz.isAgg187
 z45:=Tryz.sizeOf187
 v45:=Tryz.zeroValue187
 t46:=Tryz.underlying188
 a46:=Tryz.isAgg188
 z46:=Tryz.sizeOf188
 v46:=Tryz.zeroValue188
 t50:=Tryz.underlying192
 a50:=Tryz.isAgg192
 z50:=Tryz.sizeOf192
 v50:=Tryz.zeroValue192
 t53:=Tryz.underlying169
 a53:=Tryz.isAgg169
 z53:=Tryz.sizeOf169
 v53:=Tryz.zeroValue169
 t55:=Tryz.underlying144
 a55:=Tryz.isAgg144
 z55:=Tryz.sizeOf144
 v55:=Tryz.zeroValue144
 t66:=Tryz.underlying209
 a66:=Tryz.isAgg209
 z66:=Tryz.sizeOf209
 v66:=Tryz.zeroValue209
 t70:=Tryz.underlying83
 a70:=Tryz.isAgg83
 z70:=Tryz.sizeOf83
 v70:=Tryz.zeroValue83
 t76:=Tryz.underlying221
 a76:=Tryz.isAgg221
 z76:=Tryz.sizeOf221
 v76:=Tryz.zeroValue221
 t77:=Tryz.underlying222
 a77:=Tryz.isAgg222
 z77:=Tryz.sizeOf222
 v77:=Tryz.zeroValue222}
end Go.Proofs
