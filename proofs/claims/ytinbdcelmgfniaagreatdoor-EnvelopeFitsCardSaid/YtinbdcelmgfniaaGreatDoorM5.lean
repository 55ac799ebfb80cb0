/- Part 5 of what the proofs stand on: plain functions of the program, and that they are its functions. -/
import Derived.Test.YtinbdcelmgfniaaGreatDoorM4
import Derived.KernelRfl
import Derived.Test.YtinbdcelmgfniaaGreatDoorM3
import Derived.SliceStrings
import Derived.SizedLaws
set_option linter.unusedVariables false
set_option linter.unusedSimpArgs false
noncomputable section
namespace Go.AmZ
open Go Go.GxZ Go.Lib
theorem qkV(t:T)(n:List UInt8):Ev (λ m _=>jy m t n) (isN t n):=by
 refine waG ?_;simp only[qG5,qlP];unfold isN;refine waB (λ h=>?_) λ h=>?_
 .rw[qk]at h;exact waE (by rw[h];rfl)
 .rw[qh]at h;exact waE (by rw[show(t.kind==3)=false from beq_eq_false_iff_ne.2 h];rfl)
theorem ql7(t:T)(n:List UInt8):Ev (λ m _=>qcp m t n) (isN t n):=by
 refine waG ?_;simp only[qJr,qnK];unfold isN;refine waB (λ h=>?_) λ h=>?_
 .rw[qk]at h;exact waE (by rw[h];rfl)
 .rw[qh]at h;exact waE (by rw[show(t.kind==3)=false from beq_eq_false_iff_ne.2 h];rfl)
theorem qRn(n:List UInt8)(l:List T):Ev (λ m _=>qh7 m n l) (apT n l):=waG (waz _)
theorem qfq(n:List UInt8)(l:List T)(a:l.length<=1000000000):Ev (λ m _=>yP m n l) (apT n l):=by
 refine waG ?_;simp only[qGK,qlz];refine waC (zd (by simp;omega) (by omega)) ?_;refine Ev.case (λ h=>?_) λ x t h=>?_
 .subst h;exact waz _
 .subst h;exact waz _
def qN7(n:List UInt8):List UInt8×Int×Int×Int:=(jw.find? λ r=>r.1==n).getD ([],0,0,0)
theorem qp7(n:List UInt8):(qN7 n).2=qE n:=by
 unfold qN7 qE;cases jw.find? λ r=>r.1==n<;>rfl
theorem qrN(n:List UInt8):Ev (λ m _=>qbQ m n) (qN7 n):=by
 refine waG ?_;simp only[qxa,qdJ];refine way (a:=jw) (waz _) ?_
 have b:=qt (P:=λ i=>Ev (λ m k=>Jd m k n jw jw.length i [] 0 0 0) (((jw.drop i).find? λ r=>r.1==n).getD ([],0,0,0))) jw (by decide)
  (λ c=>by
   refine waF ?_;simp only[qls,qdv];refine waD c ?_;exact waz _)
  (λ i x j f c e d g=>by
   refine waF ?_;simp only[qls,qdv];refine waC c (waA e ?_);rw[f,List.find?_cons,d];refine waB (λ h=>?_) λ h=>?_
   .exact waE (by rw[show(x.1==n)=true from h];rfl)
   .rw[show(x.1==n)=false from h];exact g)
 refine waH (L:=λ m k=>Jd m k n jw jw.length 0 [] 0 0 0) ?_;exact b 0 (wg _)
theorem qFG{t:T}(a:t.kind=3)(h:qcU t=0):(qE t.name).2.2≠0/\(qE t.name).1<=(t.kids.length:Int)/\(t.kids.length:Int)<=(qE t.name).2.1/\qaP t=false:=by
 grind [qcU]
theorem qz3{t:T}{i:Nat}(h:i<t.kids.length):qd t.kids (i:Int)=some (kid t i):=by
 grind [kid,zF,List.getElem?_eq_getElem]
theorem qeo{t:T}(h:0<t.kids.length):qd t.kids 0=some (kid t 0):=qz3 (i:=0) h
theorem qtr{t:T}(h:1<t.kids.length):qd t.kids 1=some (kid t 1):=qz3 (i:=1) h
theorem qIq{t:T}{i:Nat}(h:i<t.kids.length):kid t i∈t.kids:=by
 grind [kid]
theorem yT{t:T}{n:List UInt8}:isN t n=true↔t.kind=3/\t.name=n:=by
 grind [isN]
theorem qMy(t:T):size t<=1000000000->Ev (λ m _=>qN m t) (zy t):=by
 induction t using T.ind with
 |h t D=>
   intro E;refine waG ?_;simp only[qyH,qeq];have F:=yx t;rw[qok];refine waB (λ h=>?_) λ A=>?_
   .rw[bnt,qh]at h;exact waE (by rw[if_pos h])
   rw[bnf,qk]at A;rw[if_neg (show ¬ t.kind≠3 from λ c=>c A)]
   have B:=qt (P:=λ i=>Ev (λ m k=>(zf m (qN m) k).2 t.kids t.kids.length i) (((t.kids.drop i).map zy).foldl thn 0)) t.kids (by omega)
    (λ e=>by
     refine waF ?_;simp only[qni,qey];refine waD e ?_;exact waE (by simp))
    (λ i x w u e s r v=>by
     refine waF ?_;simp only[qni,qey,qi];have z:=wb w;have f:=yu t x z;refine waC e (waA s (way (D x z (by omega)) ?_));rw[u,wk,QP,r];refine waB (λ h=>?_) λ h=>?_
     .rw[bnt,qh]at h;exact waE (by rw[qS _ h])
     .rw[bnf,qk]at h;rw[h];exact v)
   have q:Ev (λ m k=>(zf m (qN m) k).2 t.kids t.kids.length 0) ((t.kids.map zy).foldl thn 0):=(B 0 (wg _)).res (by rw[wH])
   have C:=qt (P:=λ i=>Ev (λ m k=>(zf m (qN m) k).1 t.kids t.kids.length i t.kind t.name t.sort t.kids) (if(t.kids.drop i).any (λ k=>decide (k.kind=3)||decide (k.sort≠1))=true then 10 else(t.kids.map zy).foldl thn 0)) t.kids (by omega)
    (λ e=>by
     refine waF ?_;simp only[qm1,qec];refine waD e ?_;refine q.res ?_;rw[wJ];rfl)
    (λ i x w u e s r v=>by
     refine waF ?_;simp only[qm1,qec,qi];refine waC e (waA s ?_);rw[u,waw,r];refine waB (λ h=>?_) λ h=>?_
     .rw[qk]at h;exact waE (by rw[decide_eq_true h];rfl)
     rw[qh]at h;rw[decide_eq_false h];refine waB (λ n=>?_) λ n=>?_
     .rw[bnt,qh]at n;exact waE (by rw[decide_eq_true n];rfl)
     .rw[bnf,qk]at n;rw[decide_eq_false (λ c=>c n)];exact v)
   have o:qcU t=0->Ev (λ m _=>(zf m (qN m) m).2 t.kids t.kids.length 0) ((t.kids.map zy).foldl thn (qcU t)):=λ h=>by
    grind [Ev.diag]
   have d:qaP t=t.kids.any (λ k=>decide (k.kind=3)||decide (k.sort≠1))->qcU t=(if qaP t=true then 10 else 0)->Ev (λ m _=>(zf m (qN m) m).1 t.kids t.kids.length 0 t.kind t.name t.sort t.kids) ((t.kids.map zy).foldl thn (qcU t)):=λ y h=>by
    refine(waH (L:=λ m k=>(zf m (qN m) k).1 t.kids t.kids.length 0 t.kind t.name t.sort t.kids) (C 0 (wg _))).res ?_;grind [qS]
   refine way (qrN t.name) ?_;rw[qp7]
   have a:qcU t=if(qE t.name).2.2=0 then 10 else if(t.kids.length:Int)<(qE t.name).1\/(qE t.name).2.1<(t.kids.length:Int)then 6 else if qaP t=true then 10 else 0:=by
    grind [qcU]
   refine waB (λ h=>?_) λ h=>?_
   .rw[qk]at h;rw[if_pos h]at a;exact waE (by rw[a,qS _ (by decide)])
   rw[qh]at h;rw[if_neg h]at a;refine waB (λ f=>?_) λ f=>?_
   .rw[qw]at f;rw[if_pos (.inl f)]at a;exact waE (by rw[a,qS _ (by decide)])
   rw[qx]at f;refine waB (λ p=>?_) λ p=>?_
   .rw[qw]at p;rw[if_pos (.inr p)]at a;exact waE (by rw[a,qS _ (by decide)])
   rw[qx]at p;rw[if_neg (by omega)]at a;refine waB (λ l=>?_) λ l=>?_
   .rw[zM]at l;refine d ?_ a;unfold qaP;rw[l,if_neg (by decide),if_pos (.inl rfl)]
   rw[ye]at l;refine waB (λ b=>?_) λ b=>?_
   .rw[zM]at b;refine d ?_ a;unfold qaP;rw[b,if_neg (by decide),if_pos (.inr rfl)]
   rw[ye]at b;refine waB (λ g=>?_) λ g=>?_
   .rw[zM]at g
    have j:0<t.kids.length:=by
     rw[g,show(qE [110,101,119]).1=1 from by decide]at f;omega
    refine waA (qeo j) ?_
    have y:qaP t=decide ((kid t 0).kind≠2):=by
     grind [qaP,qhV]
    refine waB (λ c=>?_) λ c=>?_
    .rw[bnt,qh]at c;rw[y,decide_eq_true c,if_pos rfl]at a;exact waE (by rw[a,qS _ (by decide)])
    .rw[bnf,qk]at c;grind
   .rw[ye]at g;refine o ?_
    have:qaP t=false:=by
     unfold qaP;rw[if_neg (show ¬ t.name=qhV from g),if_neg (λ h=>h.elim l b)]
    rw[this]at a;exact a
theorem qyS(t:T)(a:size t<=1000000000):Ev (λ m _=>qa6 m t) (qac t):=by
 refine waG ?_;simp only[qzX,qhJ,qi];unfold qac;refine way (Jr t a) ?_;refine waB (λ h=>?_) λ h=>?_
 .rw[bnt,qh]at h;exact waE (by rw[QQ h])
 .rw[bnf,qk]at h;rw[h];exact way (qMy t a) (waz _)
theorem qtb(n:List UInt8):Ev (λ m _=>qdC m n) (qE n).2.2:=by
 refine waG ?_;simp only[qDb,qgl];refine way (a:=jw) (waG (waz _)) ?_
 have b:=qt (P:=λ i=>Ev (λ m k=>qa3 m k n jw i) (((jw.drop i).find? λ r=>r.1==n).getD ([],0,0,0)).2.2.2) jw (by decide)
  (λ c=>by
   refine waF ?_;simp only[qqL,qgC];refine waD c ?_;exact waz _)
  (λ i x j f c d e g=>by
   refine waF ?_;simp only[qqL,qgC];refine waC c (waA d ?_);rw[f,List.find?_cons,e];refine waB (λ h=>?_) λ h=>?_
   .refine waA d (waE ?_);rw[show(x.1==n)=true from h];rfl
   .rw[show(x.1==n)=false from h];exact g)
 refine waH (L:=λ m k=>qa3 m k n jw 0) ?_;exact(b 0 (wg _)).res (by rw[<-qp7];rfl)
theorem qPN(t:T):Ev (λ m _=>qk5 m t) (qnY jw t.name t.kids.length):=by
 refine waG ?_;simp only[qFP,qgj];refine way (a:=jw) (waG (waz _)) ?_
 have c:=qt (P:=λ i=>Ev (λ m k=>qa0 m k jw i t.kind t.name t.sort t.kids) (qnY (jw.drop i) t.name t.kids.length)) jw (by decide)
  (λ e=>by
   refine waF ?_;simp only[qqK,qgr];refine waD e ?_;exact waz _)
  (λ i x l g e d f j=>by
   refine waF ?_;simp only[qqK,qgr];refine waC e (waA d ?_);rw[g,qMc,f];refine waB (λ h=>?_) λ h=>?_
   .rw[if_pos (show(x.1==t.name)=true from h)];refine waA d ?_;refine waB (λ b=>?_) λ b=>?_
    .rw[qaF]at b;refine waA d (waE ?_);rw[decide_eq_true b];rfl
    .rw[JR]at b;exact waE (by rw[decide_eq_false (by omega)];rfl)
   .rw[if_neg (by rw[show(x.1==t.name)=false from h];decide)];exact j)
 refine waH (L:=λ m k=>qa0 m k jw 0 t.kind t.name t.sort t.kids) ?_;exact c 0 (wg _)
theorem qKD(t:T)(f:t.kids.length<2^62)(a:t.name=qhV->0<t.kids.length):Ev (λ m _=>qid m t) (qlh t):=by
 refine waG ?_;simp only[qzT,qep];unfold qlh;refine waB (λ h=>?_) λ h=>?_
 .rw[zM]at h;rw[if_pos (show t.name=qhV from h)];refine waA (qeo (a h)) (waz _)
 rw[ye]at h;rw[if_neg (show ¬ t.name=qhV from h)]
 have c:=qt (P:=λ i=>Ev (λ m k=>JH m k i t.kind t.name t.sort t.kids) (agB (t.kids.drop i))) t.kids f
  (λ d=>by
   refine waF ?_;simp only[qnB,qei];refine waD d ?_;exact waE (by rw[wJ];rfl))
  (λ i x n j d e g l=>by
   refine waF ?_;simp only[qnB,qei];refine waC d (waA e ?_);rw[j,qMZ,g];refine waB (λ h=>?_) λ h=>?_
   .exact waE (by rw[show(x.kind==3)=true from h];rfl)
   rw[show(x.kind==3)=false from h];refine waA e ?_;refine waB (λ b=>?_) λ b=>?_
   .rw[bnt,qh]at b;exact waE (by rw[show(x.sort != 1)=true from bne_iff_ne.2 b];rfl)
   .rw[bnf,qk]at b;rw[show(x.sort != 1)=false by rw[b];rfl];exact l)
 refine waH (L:=λ m k=>JH m k 0 t.kind t.name t.sort t.kids) ?_;exact(c 0 (wg _)).res (by rw[wH])
theorem qKZ(t:T):size t<=1000000000->Ev (λ m _=>jr m t) (zy t):=by
 induction t using T.ind with
 |h t g=>
   intro C;refine waG ?_;simp only[qB9,qff,qi];have E:=yx t;rw[qok];refine waB (λ h=>?_) λ e=>?_
   .rw[bnt,qh]at h;exact waE (by rw[if_pos h])
   rw[bnf,qk]at e;rw[if_neg (show ¬ t.kind≠3 from λ n=>n e),<-qPe t e]
   have c:=qt (P:=λ i=>Ev (λ m k=>Jp m (jr m) k i t.kind t.name t.sort t.kids) (((t.kids.drop i).map zy).foldl thn 0)) t.kids (by omega)
    (λ d=>by
     refine waF ?_;simp only[qoa,qfk];refine waD d ?_;exact waE (by simp))
    (λ i x j q d o l s=>by
     refine waF ?_;simp only[qoa,qfk,qi];have f:=wb j;have F:=yu t x f;refine waC d (waA o (way (g x f (by omega)) ?_));rw[q,wk,QP,l];refine waB (λ h=>?_) λ h=>?_
     .rw[bnt,qh]at h;exact waE (by rw[qS _ h])
     .rw[bnf,qk]at h;rw[h];exact s)
   have a:qv1 t=0->Ev (λ m _=>Jp m (jr m) m 0 t.kind t.name t.sort t.kids) ((t.kids.map zy).foldl thn (qv1 t)):=λ h=>by
    rw[h];exact(waH (L:=λ m k=>Jp m (jr m) k 0 t.kind t.name t.sort t.kids) (c 0 (wg _))).res (by rw[wH])
   unfold qv1 at a |-
   refine way (qtb t.name) ?_;refine waB (λ h=>?_) λ h=>?_
   .rw[qk]at h;rw[if_pos h];exact waE (by rw[qS _ (by decide)])
   rw[qh]at h;rw[if_neg h]at a |-
   refine way (qPN t) ?_;cases p:qnY jw t.name t.kids.length with
   |false=>
     refine waC rfl ?_;rw[if_pos rfl];exact waE (by rw[qS _ (by decide)])
   |true=>
     rw[p,if_neg (by decide)]at a;rw[if_neg (by decide)];refine waD rfl ?_;refine waB (λ b=>?_) λ b=>?_
     .rw[qk]at b;refine way (qKD t (by omega) λ D=>?_) ?_
      .let⟨B,A,z,y,w,v,u⟩:=qwv h;grind [qnY]
      cases r:qlh t with
      |false=>
        refine waC rfl ?_;rw[if_pos ⟨b,rfl⟩];exact waE (by rw[qS _ (by decide)])
      |true=>
        rw[r,if_neg (by rintro⟨_,h⟩;cases h)]at a;rw[if_neg (by rintro⟨_,h⟩;cases h)];exact waD rfl (a rfl)
     .rw[qh]at b;grind
theorem qs7(t:T)(a:size t<=1000000000):Ev (λ m _=>qci m t) (qac t):=by
 refine waG ?_;simp only[qBA,qiH,qi];unfold qac;refine way (qaS t a) ?_;refine waB (λ h=>?_) λ h=>?_
 .rw[bnt,qh]at h;exact waE (by rw[QQ h])
 .rw[bnf,qk]at h;rw[h];exact way (qKZ t a) (waz _)
end Go.AmZ
namespace Go.GxZ
def Asc(l:List T):Prop:=l.Pairwise λ a b=>qs a b=-1
theorem yI{a:T}:qs a a≠-1:=by rw[qmQ];decide
theorem qAa{a b:T}:qs a b=1↔qs b a=-1:=by
 have:=zW.anti a b;omega
theorem qNi(a b:T):qs a b=-1\/a=b\/qs b a=-1:=by
 have h:=zW.rng a b;have c:=zW.anti a b;obtain h|h|h:=h
 .exact .inl h
 .exact .inr (.inl (Jo a b h))
 .exact .inr (.inr (by omega))
theorem qd0{a b c:T}(e:qs a b=-1)(d:qs b c=-1):qs a c=-1:=zW.trans a b c e d
theorem qbe{x:T}{l:List T}:Asc (x::l)↔(∀y∈l,qs x y=-1)/\Asc l:=xH
theorem qzl:∀(l m:List T),Asc l->Asc m->(∀x,x∈l↔x∈m)->l=m
 |[],[],_,_,_=>rfl
 |[],y::m,_,_,h=>absurd ((h y).2 (wh ..)) (by simp)
 |x::l,[],_,_,h=>absurd ((h x).1 (wh ..)) (by simp)
 |x::l,y::m,n,k,h=>by
   let⟨c,i⟩:=qbe.1 n;let⟨b,g⟩:=qbe.1 k;have f:=(h x).1 (wh ..);have d:=(h y).2 (wh ..)
   have e:x=y:=by
    obtain e|f:=wv.1 f
    .exact e
    obtain e|d:=wv.1 d
    .exact e.symm
    exact absurd (qd0 (c y d) (b x f)) yI
   subst e;rw[qzl l m i g λ z=>?_];constructor
   .intro a;obtain e|j:=wv.1 ((h z).1 (we _ a))
    .subst e;exact absurd (c z a) yI
    .exact j
   .intro a;obtain e|j:=wv.1 ((h z).2 (we _ a))
    .subst e;exact absurd (b z a) yI
    .exact j
theorem qya(n:Nat):∀(a b:List T),a.length+b.length<=n->Asc a->Asc b->Asc (zt a b)/\(∀x,x∈zt a b↔¬(x∈a↔x∈b)):=by
 induction n with
 |zero=>
   intro a b h _ _;obtain rfl:a=[]:=kC.1 (by omega);obtain rfl:b=[]:=kC.1 (by omega);rw[zt];exact⟨List.Pairwise.nil,by simp⟩
 |succ n p=>
   intro a b h u t
   match a,b with
   |[],b=>rw[zt];exact⟨t,by simp⟩
   |x::a,[]=>rw[zt];exact⟨u,by simp[Classical.or_iff_not_imp_left]⟩
   |x::a,y::b=>
     rw[zt];let⟨g,o⟩:=qbe.1 u;let⟨f,m⟩:=qbe.1 t;simp only[wx]at h;by_cases k:qs x y=-1
     .rw[if_pos k];let⟨l,i⟩:=p a (y::b) (by simp;omega) o t
      have s:x ∉ y::b:=by
       intro h;obtain e|h:=wv.1 h
       .subst e;exact yI k
       .exact yI (qd0 k (f x h))
      have B:x ∉ a:=λ h=>yI (g x h);refine⟨qbe.2 ⟨λ z q=>?_,l⟩,λ z=>?_⟩
      .have:=(i z).1 q;by_cases d:z∈a
       .exact g z d
       .have c:z∈y::b:=by
          by_cases c:z∈y::b
          .exact c
          .exact absurd ⟨λ h=>absurd h d,λ h=>absurd h c⟩ this
        obtain e|w:=wv.1 c
        .rw[e];exact k
        .exact qd0 k (f z w)
      .rw[wv,i,wv (a:=z) (b:=x)];by_cases e:z=x
       .subst e;simp[s]
       .simp[e]
     .rw[if_neg k];by_cases v:qs x y=1
      .rw[if_pos v];have j:=qAa.1 v;let⟨l,i⟩:=p (x::a) b (by simp;omega) u m
       have r:y ∉ x::a:=by
        intro h;obtain e|h:=wv.1 h
        .subst e;exact yI j
        .exact yI (qd0 j (g y h))
       have A:y ∉ b:=λ h=>yI (f y h);refine⟨qbe.2 ⟨λ z q=>?_,l⟩,λ z=>?_⟩
       .have:=(i z).1 q;by_cases c:z∈b
        .exact f z c
        .have d:z∈x::a:=by
           by_cases d:z∈x::a
           .exact d
           .exact absurd ⟨λ h=>absurd h d,λ h=>absurd h c⟩ this
         obtain e|w:=wv.1 d
         .rw[e];exact j
         .exact qd0 j (g z w)
       .rw[wv,i,wv (a:=z) (b:=y)];by_cases e:z=y
        .subst e;simp[r]
        .simp[e]
      .rw[if_neg v];have j:qs x y=0:=by have:=zW.rng x y;omega
       have e:=Jo x y j;subst e;let⟨l,i⟩:=p a b (by omega) o m;refine⟨l,λ z=>?_⟩;rw[i,wv,wv];by_cases e:z=x
       .subst e;have:z ∉ a:=λ h=>yI (g z h);have:z ∉ b:=λ h=>yI (f z h);simp[*]
       .simp[e]
theorem qAB{a b:List T}(d:Asc a)(c:Asc b):Asc (zt a b):=(qya _ a b (wa _) d c).1
theorem qMw{a b:List T}(d:Asc a)(c:Asc b)(x:T):x∈zt a b↔¬(x∈a↔x∈b):=(qya _ a b (wa _) d c).2 x
theorem qhA:∀(b:List (List T)) (a:List T),Asc a->(∀l∈b,Asc l)->Asc (b.foldl zt a)
 |[],_,h,_=>h
 |l::b,a,h,k=>qhA b _ (qAB h (k l (wh ..))) λ m c=>k m (we _ c)
theorem qmZ(t:T):Asc (Qi t):=by
 refine T.ind (P:=λ t=>Asc (Qi t)) ?_ t;intro t a;rw[qlv];split
 .exact List.Pairwise.nil
 .split
  .exact qhA _ _ List.Pairwise.nil λ l b=>by
    obtain⟨k,c,rfl⟩:=wC.1 b;exact a k c
  .exact vA _ _
def J8(t:T)(s:List T×Bool)(x:T):List T×Bool:=
 if s.2=false/\qs t x<=0 then(s.1++(if qs t x<0 then[t]else[])++[x],true)else(s.1++[x],s.2)
def qzg(l:List T)(t:T):List T:=if(l.foldl (J8 t) ([],false)).2 then(l.foldl (J8 t) ([],false)).1 else(l.foldl (J8 t) ([],false)).1++[t]
def qiT(l:List T)(t:T):List T:=if l.any (λ x=>zi x t)then l.filter (λ x => !zi x t)else qzg l t
def qkF(a b:List T):List T:=b.foldl qiT a
theorem qAA(t:T):∀(l a:List T),l.foldl (J8 t) (a,true)=(a++l,true)
 |[],a=>by simp
 |x::l,a=>by
   have e:J8 t (a,true) x=(a++[x],true):=by simp[J8]
   rw[ky,e,qAA t l];simp
def Jf:List T->T->List T
 |[],t=>[t]
 |x::l,t=>if qs t x<0 then t::x::l else if qs t x=0 then x::l else x::Jf l t
theorem qwV(t:T):∀(l a:List T),(if(l.foldl (J8 t) (a,false)).2 then(l.foldl (J8 t) (a,false)).1 else(l.foldl (J8 t) (a,false)).1++[t])=a++Jf l t
 |[],a=>by simp[Jf]
 |x::l,a=>by
   rw[ky];by_cases h:qs t x<=0
   .have e:J8 t (a,false) x=(a++(if qs t x<0 then[t]else[])++[x],true):=by simp[J8,h]
    rw[e,qAA,Jf];by_cases b:qs t x<0
    .simp[b]
    .have:qs t x=0:=by omega
     simp[this]
   .have e:J8 t (a,false) x=(a++[x],false):=by simp[J8,h]
    rw[e,qwV t l,Jf,if_neg (by omega),if_neg (by omega)];simp
theorem qu8(l:List T)(t:T):qzg l t=Jf l t:=by
 have:=qwV t l [];simpa[qzg]using this
theorem qo8(t:T):∀(l:List T) (x:T),x∈Jf l t↔x∈l\/x=t
 |[],x=>by simp[Jf]
 |y::l,x=>by
   rw[Jf];split
   .simp only[wv];constructor
    .rintro(h|h|h)<;>simp[h]
    .rintro((h|h)|h)<;>simp[h]
   .split
    .rename_i h;have:=Jo t y h;subst this;simp only[wv];constructor
     .rintro(h|h)<;>simp[h]
     .rintro((h|h)|h)<;>simp[h]
    .rw[wv,qo8 t l x,wv];constructor
     .rintro(h|h|h)<;>simp[h]
     .rintro((h|h)|h)<;>simp[h]
theorem quB(t:T):∀(l:List T),Asc l->Asc (Jf l t)
 |[],_=>vA _ _
 |y::l,h=>by
   let⟨c,d⟩:=qbe.1 h;rw[Jf];have f:=zW.rng t y;split
   .have b:qs t y=-1:=by omega
    refine qbe.2 ⟨λ z a=>?_,h⟩;obtain e|a:=wv.1 a
    .rw[e];exact b
    .exact qd0 b (c z a)
   .split
    .exact h
    .refine qbe.2 ⟨λ z a=>?_,quB t l d⟩;obtain a|e:=(qo8 t l z).1 a
     .exact c z a
     .rw[e];exact qAa.1 (by omega)
theorem ym{a b:T}:zi a b=true↔a=b:=by unfold zi;exact decide_eq_true_iff
theorem qL5{l:List T}(h:Asc l)(t:T):Asc (qiT l t)/\∀x,x∈qiT l t↔¬(x∈l↔x=t):=by
 unfold qiT;by_cases a:t∈l
 .have f:(l.any λ x=>zi x t)=true:=vJ.2 ⟨t,a,ym.2 rfl⟩;rw[if_pos f];refine⟨List.Pairwise.filter _ h,λ x=>?_⟩;rw[kJ];by_cases e:x=t
  .subst e;simp[a,ym.2 rfl]
  .have:zi x t=false:=by
     cases b:zi x t
     .rfl
     .exact absurd (ym.1 b) e
   simp[e,this]
 .rw[if_neg (λ b=>by
    let⟨x,c,d⟩:=vJ.1 b;exact a (by rw[<-ym.1 d];exact c)),qu8]
  refine⟨quB t l h,λ x=>?_⟩;rw[qo8];by_cases e:x=t
  .subst e;simp[a]
  .simp[e]
theorem qpW:∀(b a:List T),Asc a->Asc b->Asc (qkF a b)/\∀x,x∈qkF a b↔¬(x∈a↔x∈b)
 |[],a,g,_=>⟨g,λ x=>by simp[qkF]⟩
 |y::b,a,g,n=>by
   let⟨f,d⟩:=qbe.1 n;let⟨l,k⟩:=qL5 g y;let⟨j,i⟩:=qpW b (qiT a y) l d;refine⟨j,λ x=>?_⟩;rw[show qkF a (y::b)=qkF (qiT a y) b from rfl,i,k,wv];by_cases e:x=y
   .subst e;have:x ∉ b:=λ h=>yI (f x h);by_cases c:x∈a<;>simp[this,c]
   .by_cases c:x∈a<;>by_cases m:x∈b<;>simp[e,c,m]
theorem qEM{a b:List T}(d:Asc a)(c:Asc b):qkF a b=zt a b:=
 qzl _ _ (qpW b a d c).1 (qAB d c) λ x=>by rw[(qpW b a d c).2,qMw d c]
end Go.GxZ
namespace Go.AmZ
open Go Go.GxZ Go.Lib
def szL(l:List T):Nat:=(l.map size).sum
theorem zr(x:T)(l:List T):szL (x::l)=size x+szL l:=by simp[szL]
theorem qiV(a b:List T):szL (a++b)=szL a+szL b:=by simp[szL]
theorem jU:∀l:List T,l.length<=szL l
 |[]=>wg _
 |x::l=>by
   have:=jU l;have:=size_pos x;rw[zr,wx];omega
theorem qcX{l:List T}{x:T}(h:x∈l):size x<=szL l:=qk8 l x h
theorem qpx:∀(n:Nat) (a b:List T),a.length+b.length<=n->szL (zt a b)<=szL a+szL b
 |_,[],b,_|_,x::a,[],_=>by rw[zt];omega
 |0,x::a,y::b,h=>by simp at h
 |n+1,x::a,y::b,h=>by
   simp only[wx]at h;rw[zt];split
   .have:=qpx n a (y::b) (by simp;omega);rw[zr,zr];omega
   .split
    .have:=qpx n (x::a) b (by simp;omega);rw[zr y,zr y];omega
    .have:=qpx n a b (by omega);rw[zr,zr];omega
theorem qt4:∀(b:List (List T)) (a:List T),szL (b.foldl zt a)<=szL a+(b.map szL).sum
 |[],_=>by simp
 |l::b,a=>by
   have d:=qt4 b (zt a l);have c:=qpx _ a l (wa _);simp only[ky,wk,kO];omega
theorem qwa(f g:T->Nat):∀l:List T,(∀k∈l,f k<=g k)->(l.map f).sum<=(l.map g).sum
 |[],_=>wa _
 |x::l,h=>by
   have c:=h x (wh ..);have b:=qwa f g l λ k a=>h k (we _ a);simp only[wk,kO];omega
theorem qDl(l:List T)(h:∀k∈l,szL (Qi k)<=size k):szL ((l.map Qi).foldl zt [])<=szL l:=by
 refine wz (qt4 _ _) ?_;rw[xe];have:=qwa (szL ∘ Qi) size l h;show 0+_<=(l.map size).sum;omega
theorem qmd(t:T):szL (Qi t)<=size t:=by
 refine T.ind (P:=λ t=>szL (Qi t)<=size t) ?_ t;intro t a;rw[qlv];split
 .exact wg _
 .split
  .have:=qDl t.kids a;have:=qU t;unfold szL at *;omega
  .show szL [t]<=_;rw[zr];exact wa _
theorem qeR(l:List T):szL (yf l)<=szL l:=qDl l λ k _=>qmd k
theorem qp3(x:T)(l:List T):qao (x::l) 1 (((x::l).length:Nat):Int)=l:=by
 unfold qao;rw[kL,wF];rfl
theorem qpj(n:Nat):inb (n:Int) n=true:=by unfold inb;rw[decide_eq_true_iff];omega
theorem qta(x:T)(l:List T):inb 1 (Int.toNat (((x::l).length:Nat):Int))=true:=by
 unfold inb;rw[decide_eq_true_iff,kL,wx];omega
theorem qDm(x:T)(l:List T):ilt 0 (((x::l).length:Nat):Int)=true:=by rw[qw,wx];omega
theorem qJe:∀(n:Nat) (a b c:List T),a.length+b.length<=n->szL c+szL a+szL b<=1000000000->Ev (λ m k=>qdl m k a b c) (c++zt a b):=by
 intro n
 induction n with
 |zero=>
   intro a b c i g;have:a=[]:=wi (by omega);subst this;have:b=[]:=wi (by omega);subst this;refine waF ?_;simp only[qt9,qju];have:=jU c;exact waD rfl (waC (zd (by simp only[wT];omega) (by omega)) (waC (zd (by simp only[wT,wy];omega) (by omega)) (waE (by rw[zt];simp))))
 |succ n f=>
   intro a b c i g;refine waF ?_;simp only[qt9,qju,qi];have o:=jU c;have l:=jU a;have j:=jU b;cases a with
   |nil=>
     refine waD rfl (waC (zd (by simp only[wT];omega) (by omega)) (waC (zd (by simp only[wy];omega) (by omega)) (waE (by rw[zt];simp))))
   |cons x a=>
     refine waC (qDm x a) ?_;cases b with
     |nil=>
       refine waD rfl (waC (zd (by omega) (by omega)) (waC (zd (by rw[wd];simp only[wT];omega) (by omega)) (waE (by rw[zt];simp))))
     |cons y b=>
       rw[zr,zr]at g;refine waC (qDm y b) (waA (J3 _) (waA (J3 _) (way (qcd x (by omega) y (by omega)) ?_)));rw[zt];simp only[wx]at i l j;rw[zr]at l j;refine waB (λ e=>?_) λ e=>?_
       .rw[qw]at e;have e:qs x y=-1:=by obtain h|h|h:=zW.rng x y<;>omega
        rw[if_pos e];refine waA (J3 _) (waC (zd (by omega) (by omega)) (waC (qpj _) (waC (qta x a) ?_)));rw[qp3];refine(f a (y::b) (c++[x]) (by simp only[wx];omega) (by rw[qiV,zr,zr];show szL c+(size x+0)+_+_<=_;omega)).res (by simp)
       .rw[qx]at e;rw[if_neg (by omega)];refine waB (λ d=>?_) λ d=>?_
        .rw[qw]at d;have d:qs x y=1:=by obtain h|h|h:=zW.rng x y<;>omega
         rw[if_pos d];refine waA (J3 _) (waC (zd (by omega) (by omega)) (waC (qpj _) (waC (qta y b) ?_)));rw[qp3];refine(f (x::a) b (c++[y]) (by simp only[wx];omega) (by rw[qiV,zr,zr];show szL c+(size y+0)+_+_<=_;omega)).res (by simp)
        .rw[qx]at d;rw[if_neg (by omega)];refine waC (qpj _) (waC (qta x a) (waC (qpj _) (waC (qta y b) ?_)));rw[qp3,qp3];exact f a b c (by omega) (by omega)
theorem qC3(a b:List T)(c:szL a+szL b<=1000000000):Ev (λ m _=>qmf m a b) (zt a b):=by
 refine waG ?_;simp only[qJi,qjs];refine waH (L:=λ m k=>qdl m k a b []) ?_;exact qJe _ a b [] (wa _) (by show 0+_+_<=_;omega)
theorem qG7(l:List T)(i:Nat):szL (l.take i)<=szL l:=by
 have:=congrArg szL (kD i l);rw[qiV]at this;omega
theorem QD{l:List T}{i:Nat}{x:T}(h:l[i]?=some x):szL (l.take i)+size x<=szL l:=by
 have b:l.take (i+1)=l.take i++[x]:=by rw[ko,h];rfl
 have a:=qG7 l (i+1);rw[b,qiV,zr]at a;have:szL ([]:List T)=0:=rfl;omega
theorem qk2{l:List T}{i:Nat}{x:T}(h:l[i]?=some x):((l.take (i+1)).map Qi).foldl zt []=zt (((l.take i).map Qi).foldl zt []) (Qi x):=by
 rw[ko,h,wZ,xK];rfl
theorem qNm(t:T):size t<=1000000000->Ev (λ m _=>yN m t) (Qi t):=by
 induction t using T.ind with
 |h t s=>
   intro B;have C:=yx t;have A:=qU t;refine waG ?_;simp only[qyx,qee,qi]
   have o:=qt (P:=λ i=>Ev (λ m k=>QR m (yN m) k (((t.kids.take i).map Qi).foldl zt []) t.kids t.kids.length i) ((t.kids.map Qi).foldl zt [])) t.kids (by omega)
    (λ q=>by
     refine waF ?_;simp only[qm7,qen];refine waD q ?_;rw[wF];exact waz _)
    (λ i x c D q w u y=>by
     refine waF ?_;simp only[qm7,qen,qi];have r:=wb c;have F:=yu t x r;have z:=qeR (t.kids.take i);have g:=QD c;have E:=qmd x;refine waC q (waA w (way (s x r (by omega)) (way (qC3 _ _ ?_) ?_)))
     .unfold yf at z;unfold szL at *;omega
     .rw[u];refine y.congr λ m k=>?_;rw[qk2 c])
   have j:Ev (λ m _=>QR m (yN m) m [] t.kids t.kids.length 0) ((t.kids.map Qi).foldl zt []):=
    waH (L:=λ m k=>QR m (yN m) k [] t.kids t.kids.length 0) (o 0 (wg _))
   rw[qlv];by_cases g:t.kind=3
   .have f:ieq t.kind 3=true:=qk.2 g;refine waC f ?_;refine waB (λ e=>?_) λ e=>?_
    .rw[zM]at e;have a:isN t qbw=true:=yT.2 ⟨g,e⟩
     have d:isN t qbG=false:=by
      rw[<-kK,yT];rintro⟨_,h⟩;rw[e]at h;exact absurd h (by decide)
     refine waB (λ b=>?_) λ b=>?_
     .rw[qk]at b;have b:t.kids=[]:=wi (by omega);rw[a,b];exact waz _
     .rw[qh]at b
      have b:t.kids.isEmpty=false:=by
       cases v:t.kids with
       |nil=>rw[v]at b;exact absurd rfl b
       |cons _ _=>rfl
      rw[a,b,d];exact waC f (waD (by rw[e];rfl) (waz _))
    .have p:=ye.1 e
     have a:isN t qbw=false:=by
      rw[<-kK,yT];rintro⟨_,h⟩;exact p h
     rw[a];refine waC f (waB (λ c=>?_) λ c=>?_)
     .rw[show isN t qbG=true from yT.2 ⟨g,zM.1 c⟩];exact j
     .have d:isN t qbG=false:=by
        rw[<-kK,yT];rintro⟨_,h⟩;exact ye.1 c h
      rw[d];exact waz _
   .have f:ieq t.kind 3=false:=qh.2 g
    have l:∀n,isN t n=false:=λ n=>by
     rw[<-kK,yT];rintro⟨h,_⟩;exact g h
    rw[l,l];exact waD f (waD f (waz _))
end Go.AmZ
namespace Go.AmZ
open Go Go.GxZ
theorem qMm(b:List (List T))(d:b.length<1000)(h:(b.map List.length).sum<=100000000):Ev (λ m _=>zV m b) b.flatten:=by
 have g:∀l:List (List T),l.flatten.length=(l.map List.length).sum:=λ l=>List.length_flatten
 have s:=qt (P:=λ i=>Ev (λ m k=>(qn m k).2 b b.length i (b.take i).flatten) b.flatten) b (by omega)
  (λ c=>by
   refine waF ?_;simp only[qaC,jg];refine waD c ?_;rw[wF];exact waz _)
  (λ i x o r c f e j=>by
   refine waF ?_;simp only[qaC,jg];have p:b.take (i+1)=b.take i++[x]:=by rw[ko,o];rfl
   have q:((b.take (i+1)).map List.length).sum<=(b.map List.length).sum:=by
    have:=congrArg (λ l=>(l.map List.length).sum) (kD (i+1) b);simp only[wZ,List.sum_append]at this;omega
   rw[p]at q;simp only[wZ,List.sum_append,wk,wad,kO,List.sum_nil]at q;refine waC c (waA f (waC (zd ?_ (by omega)) ?_))
   .rw[g];omega
   .rw[e];refine j.congr λ m k=>?_;rw[p,vl];simp)
 have t:=qt (P:=λ i=>∀n:Nat,n+((b.drop i).map List.length).sum<=100000000->Ev (λ m k=>(qn m k).1 b n b b.length i) b.flatten) b (by omega)
  (λ c n d=>by
   refine waF ?_;simp only[qax,jd];refine waD c (waA (a:=((),[],())) ?_ (s 0 (wg _)));unfold yX;rw[show inb (n:Int) 100000000=true from by unfold inb;rw[decide_eq_true_iff];omega];rfl)
  (λ i x o r c f e j n d=>by
   refine waF ?_;simp only[qax,jd];rw[r,wk,kO]at d;refine waC c (waA f ?_);rw[qeF,jN (by omega)];refine waD (qx.2 (by omega)) ?_;rw[e];exact j (n+x.length) (by omega))
 refine waG ?_;simp only[qf9,jh];refine waH (L:=λ m k=>(qn m k).1 b 0 b b.length 0) ?_;exact t 0 (wg _) 0 (by rw[wH];omega)
theorem qv5(a b:List T)(h:a.length+b.length<=100000000):Ev (λ m _=>zV m [a,b]) (a++b):=
 (qMm [a,b] (by simp) (by simpa using h)).res (by simp)
theorem qrA{f:T->Int}{l:List T}{i:Nat}{x:T}(h:l.drop i=x::l.drop (i+1)):((l.drop i).map f).foldl thn 0=if f x≠0 then f x else((l.drop (i+1)).map f).foldl thn 0:=by
 rw[h,wk];by_cases a:f x=0
 .rw[if_neg (by simpa using a),a];rfl
 .rw[if_pos a];exact qS _ a
theorem qNy(l:List T)(n:szL l<=100000000):Ev (λ m _=>qm6 m l []) (qox l):=by
 have o:=jU l;refine waG ?_;simp only[qGR,qhx];unfold qox;refine waB (λ h=>?_) λ h=>?_
 .rw[qw]at h;rw[if_pos (by omega)];exact waz _
 .rw[qx]at h;rw[if_neg (by omega)];refine way (qv5 l [] (by simp only[wT];omega)) ?_;rw[wy]
  have b:=qt (P:=λ i=>Ev (λ m k=>qck m k l l.length i) (((l.drop i).map qB).foldl thn 0)) l (by omega)
   (λ c=>by
    refine waF ?_;simp only[qsk,qir];refine waD c ?_;rw[wJ];exact waz _)
   (λ i x d g c f e j=>by
    refine waF ?_;simp only[qsk,qir,qi];have p:=qcX (wb d);rw[qrA g];refine waC c (waA f (way (Jr x (by omega)) (waB (λ a=>?_) λ a=>?_)))
    .rw[bnt,qh]at a;rw[if_pos a];exact waz _
    .rw[bnf,qk]at a;rw[if_neg (by omega),e];exact j)
  refine waH (L:=λ m k=>qck m k l l.length 0) ?_;exact(b 0 (wg _)).res (by rw[wH])
theorem qKr(t:T)(a:size t<=1000000000):Ev (λ m _=>qhG m t [] t) (t,0):=by
 refine waG ?_;simp only[qAh,qeg,qi];refine way (quK t a) ?_;refine waH (L:=λ m k=>qaX m k [] ([]:List Int).length 0 t.kind t.name t.sort t.kids 0 [] 0 t.kind t.name t.sort t.kids []) (waF ?_);simp only[qxt,qip,qi];refine waD rfl ?_;rw[show T.mk t.kind t.name t.sort t.kids=t from qi t];exact way (quK t a) (waz _)
def qe7(l:List T)(i:Nat):List T:=l.take i++List.replicate (l.length-i) zT
theorem qNR{l:List T}{i:Nat}(h:i<l.length):(qe7 l i)[i]?=some zT:=by
 unfold qe7;rw[List.getElem?_append_right (by rw[wo];omega),wo,List.getElem?_replicate,if_pos (by omega)]
theorem qvh{l:List T}{i:Nat}{x:T}(h:l[i]?=some x):(qe7 l i).set i x=qe7 l (i+1):=by
 have c:=(List.getElem?_eq_some_iff.1 h).1;unfold qe7;have b:l.take (i+1)=l.take i++[x]:=by rw[ko,h];rfl
 have a:List.replicate (l.length-i) zT=zT::List.replicate (l.length-(i+1)) zT:=by
  rw[show l.length-i=(l.length-(i+1))+1 by omega,List.replicate_succ]
 rw[b,a,vP _ _ (by rw[wo];omega),wo,show i-min i l.length=0 by omega,List.set_cons_zero,wn];rfl
theorem qKx{l:List T}{i:Nat}{x:T}(h:l[i]?=some x):(qe7 l (i+1)).set i x=qe7 l (i+1):=by
 rw[<-qvh h,List.set_set]
theorem qLC{l:List T}{i:Nat}{x:T}(h:l[i]?=some x):(qe7 l (i+1))[i]?=some x:=by
 have a:=(List.getElem?_eq_some_iff.1 h).1;rw[<-qvh h,List.getElem?_set_self (by unfold qe7;rw[wd,wo,kX];omega)]
theorem qeM{α:Type}(l:List α)(i:Nat)(v:α):yF l (i:Int) v=l.set i v:=by
 unfold yF;rw[if_pos (by omega),kL]
theorem qQT:∀(n:Nat) (l:List T),szL l<=n->n<=1000000->Ev (λ m _=>qad m l) l:=by
 intro n
 induction n using Nat.strongRecOn with
 |_ n p=>
 intro l s t;have u:=jU l;refine waG ?_;simp only[qLR,qkJ]
 have d:=qt (P:=λ i=>Ev (λ m k=>qe4 m (qad m) k l l.length i (qe7 l i)) l) l (by omega)
  (λ h=>by
   refine waF ?_;simp only[qwL,qkG];refine waD h ?_;exact waE (by unfold qe7;rw[wF,kP];simp))
  (λ i x b v h r q j=>by
   refine waF ?_;simp only[qwL,qkG,qi];have y:=qcX (wb b);have w:=qU x;have f:=(List.getElem?_eq_some_iff.1 b).1;have e:yF (qe7 l i) i x=qe7 l (i+1):=by rw[qeM,qvh b]
   have o:yF (qe7 l (i+1)) i x=qe7 l (i+1):=by rw[qeM,qKx b]
   have g:qd (qe7 l (i+1)) i=some x:=by rw[zF,qLC b]
   refine waC h (waA r (way (qKr x (by omega)) (waA (a:=zT) (by rw[zF,qNR f]) (way (p (szL x.kids) (by unfold szL at *;omega) x.kids (wa _) (by unfold szL at *;omega)) ?_))));rw[e];refine waA g ?_;rw[show T.mk x.kind x.name x.sort x.kids=x from qi x,o,q];refine waB (λ c=>?_) λ c=>j;rw[qk]at c;have c:x.kids=[]:=wi (by omega);refine waA g ?_;rw[show T.mk x.kind x.name x.sort []=x from by rw[<-c];exact qi x,o];exact j)
 refine waC (by unfold qCQ;rw[decide_eq_true_iff,kL];omega) ?_;refine waH (L:=λ m k=>qe4 m (qad m) k l l.length 0 (List.replicate (Int.toNat (l.length:Int)) (T.mk 0 [] 0 []))) ?_;refine(d 0 (wg _)).congr λ m k=>?_;unfold qe7;rw[vc,kL];rfl
theorem qPS(l:List T)(z:szL l<=900000):Ev (λ m _=>qti m l) (qpT l):=by
 have A:=jU l;refine waG ?_;simp only[qLh,qkI];unfold qpT;refine way (qNy l (by omega)) (waB (λ h=>?_) λ h=>?_)
 .rw[bnt,qh]at h;rw[if_pos h];exact waz _
 .rw[bnf,qk]at h;rw[if_neg (by omega)]
  have e:=qt (P:=λ i=>Ev (λ m k=>qfc m k (((l.take i).map Qi).foldl zt []) l l.length i 0 [] 0 []) (if qB (qas (yf l))≠0 then(zT,3)else(qas (yf l),0))) l (by omega)
   (λ j=>by
    refine waF ?_;simp only[qxd,qkM,qi];refine waD j ?_;rw[wF];have b:=qeR l;show Ev (λ m k=>qb (qad m (yf l)) _) _;have o:=jU (yf l)
    have c:∀u:T,u=qas (yf l)->Ev (λ m _=>qb (zj m u) λ v=>cond (qg (ieq v 0)) (some (T.mk 0 [] 0 [],(3:Int))) (some (u,0))) (if qB (qas (yf l))≠0 then(zT,3)else(qas (yf l),0)):=by
     intro u p
     have y:size (qas (yf l))<=1+szL (yf l):=by
      unfold qas;split
      .rw[qU];show 1+0<=_;omega
      .split
       .rename_i _ d
        have:(yf l).getD 0 zT∈yf l:=by
         cases g:yf l with
         |nil=>rw[g]at d;cases d
         |cons x r=>exact wh ..
        have:=qcX this;omega
       .rw[qU];exact wa _
     subst p;refine way (Jr _ (by omega)) (waB (λ h=>?_) λ h=>?_)
     .rw[bnt,qh]at h;rw[if_pos h];exact waz _
     .rw[bnf,qk]at h;rw[if_neg (by omega)];exact waz _
    refine way (qQT _ (yf l) (wa _) (by omega)) (waB (λ n=>?_) λ n=>?_)
    .rw[qk]at n;exact c _ (by unfold qas;rw[if_pos (by omega)];rfl)
    .rw[qh]at n;refine waB (λ b=>?_) λ b=>?_
     .rw[qk]at b;refine waA (a:=(yf l).getD 0 zT) ?_ (c _ (by unfold qas;rw[if_neg (by omega),if_pos (by omega)]));rw[J3,List.getD_eq_getElem?_getD];cases g:yf l with
      |nil=>rw[g]at b;simp at b
      |cons x r=>rfl
     .rw[qh]at b;exact c _ (by unfold qas;rw[if_neg (by omega),if_neg (by omega)];rfl))
   (λ i x f B j t s w=>by
    refine waF ?_;simp only[qxd,qkM,qi];have q:=wb f;have b:=qcX q;have o:=qeR (l.take i);have D:=QD f;have C:=qmd x;refine waC j (waA t (way (qNm x (by omega)) (way (qC3 _ _ ?_) ?_)))
    .unfold yf at o;omega
    .rw[s];refine w.congr λ m k=>?_;rw[qk2 f])
  refine waH (L:=λ m k=>qfc m k [] l l.length 0 0 [] 0 []) ?_;exact e 0 (wg _)
end Go.AmZ
namespace Go.AmZ
open Go Go.GxZ
theorem qSG(l:List T)(t:T)(j:szL l+size t<=1000000000):Ev (λ m _=>qno m l t) (l.any λ x=>zi x t):=by
 have n:=jU l;refine waG ?_;simp only[qGZ,qia]
 have a:=qt (P:=λ i=>Ev (λ m k=>qcm m k l i t.kind t.name t.sort t.kids) ((l.drop i).any λ x=>zi x t)) l (by omega)
  (λ b=>by
   refine waF ?_;simp only[qr8,qhF];refine waD b (waE ?_);rw[wJ];rfl)
  (λ i x c f b e d g=>by
   refine waF ?_;simp only[qr8,qhF,qi];have o:=qcX (wb c);rw[f,waw,show T.mk t.kind t.name t.sort t.kids=t from qi t];refine waC b (waA e (way (QF x t (by omega) (by omega)) (waB (λ h=>?_) λ h=>?_)))
   .rw[h];exact waz _
   .rw[h,d];exact g)
 refine waH (L:=λ m k=>qcm m k l 0 t.kind t.name t.sort t.kids) ?_;exact(a 0 (wg _)).res (by rw[wH])
theorem qEO(t:T):∀(l:List T) (s:List T×Bool),(l.foldl (J8 t) s).1.length<=s.1.length+2*l.length
 |[],s=>by simp
 |x::l,s=>by
   have h:=qEO t l (J8 t s x);grind [J8]
theorem qKQ(l:List T)(t:T)(q:szL l+size t<=1000000000):Ev (λ m _=>qjR m l t) (qzg l t):=by
 have r:=jU l;refine waG ?_;simp only[qG2,qim]
 have d:∀i,((l.take i).foldl (J8 t) ([],false)).1.length<=2*l.length:=λ i=>by
  grind [qEO,List.length_take,List.length_nil]
 have g:=qt (P:=λ i=>Ev (λ m k=>qcl m k l ((l.take i).foldl (J8 t) ([],false)).2 i t.kind t.name t.sort t.kids ((l.take i).foldl (J8 t) ([],false)).1) (qzg l t)) l (by omega)
  (λ j=>by
   refine waF ?_;simp only[qrw,qis];refine waD j ?_;rw[wF];unfold qzg;have:=d l.length;rw[wF]at this;refine waB (λ h=>?_) λ h=>?_
   .rw[bnt]at h;rw[if_neg (by rw[h];decide),show T.mk t.kind t.name t.sort t.kids=t from qi t];exact waC (zd (by omega) (by omega)) (waz _)
   .rw[bnf]at h;rw[if_pos h];exact waz _)
  (λ i x n u j f o a=>by
   refine waF ?_;simp only[qrw,qis,qi];have w:=qcX (wb n);have v:=d i
   have e:(l.take (i+1)).foldl (J8 t) ([],false)=J8 t ((l.take i).foldl (J8 t) ([],false)) x:=by
    rw[ko,n,xK];rfl
   rw[e]at a;generalize (l.take i).foldl (J8 t) ([],false)=s at *;rw[show T.mk t.kind t.name t.sort t.kids=t from qi t,o];refine waC j (waA f (way (qjd t (by omega) x (by omega)) (waB (λ h=>?_) λ h=>?_)))
   .rw[bnt]at h;refine waB (λ c=>?_) λ c=>?_
    .rw[qaF]at c;unfold J8 at a;rw[if_pos ⟨h,c⟩]at a;refine waB (λ b=>?_) λ b=>?_
     .rw[qw]at b;rw[if_pos b]at a;exact waC (zd (by omega) (by omega)) (waA f (waC (zd (by rw[wd];simp only[wx,wT];omega) (by omega)) a))
     .rw[qx]at b;rw[if_neg (by omega),wy]at a;exact waA f (waC (zd (by omega) (by omega)) a)
    .rw[JR]at c;unfold J8 at a;rw[if_neg (by omega)]at a;exact waA f (waC (zd (by omega) (by omega)) a)
   .rw[bnf]at h;unfold J8 at a;rw[if_neg (by rw[h];intro p;cases p.1)]at a;exact waA f (waC (zd (by omega) (by omega)) a))
 refine waH (L:=λ m k=>qcl m k l false 0 t.kind t.name t.sort t.kids []) ?_;exact g 0 (wg _)
theorem qSY(l:List T)(t:T)(f:szL l+size t<=1000000000):Ev (λ m _=>qhu m l t) (qiT l t):=by
 have n:=jU l;refine waG ?_;simp only[qyz,qel,qi];unfold qiT;refine way (qSG l t f) (waB (λ h=>?_) λ h=>?_)
 .rw[bnt]at h;rw[if_neg (by rw[h];decide)];exact way (qKQ l t f) (waz _)
 .rw[bnf]at h;rw[if_pos h]
  have b:=qt (P:=λ i=>Ev (λ m k=>JL m k l i t.kind t.name t.sort t.kids ((l.take i).filter λ x => !zi x t)) (l.filter λ x => !zi x t)) l (by omega)
   (λ c=>by
    refine waF ?_;simp only[qmG,qes];refine waD c ?_;rw[wF];exact waz _)
   (λ i x d o c g j a=>by
    refine waF ?_;simp only[qmG,qes,qi];have q:=qcX (wb d);have p:((l.take i).filter λ x => !zi x t).length<=l.length:=wz (vd _ _) (by rw[wo];omega);rw[ko,d,List.filter_append]at a;rw[show T.mk t.kind t.name t.sort t.kids=t from qi t,j];refine waC c (waA g (way (QF x t (by omega) (by omega)) (waB (λ h=>?_) λ h=>?_)))
    .rw[bnt]at h;have e:(Option.some x).toList.filter (λ x => !zi x t)=[x]:=by show[x].filter _=_;simp[h]
     rw[e]at a;exact waA g (waC (zd (by omega) (by omega)) a)
    .rw[bnf]at h;have e:(Option.some x).toList.filter (λ x => !zi x t)=[]:=by show[x].filter _=_;simp[h]
     rw[e,wy]at a;exact a)
  refine waH (L:=λ m k=>JL m k l 0 t.kind t.name t.sort t.kids []) ?_;exact b 0 (wg _)
theorem qzB(t:T):∀l:List T,szL (Jf l t)<=szL l+size t
 |[]=>by rw[Jf,zr];omega
 |x::l=>by
   have:=qzB t l;grind [Jf,zr]
theorem qA3(p:T->Bool):∀l:List T,szL (l.filter p)<=szL l
 |[]=>wa _
 |x::l=>by
   have:=qA3 p l;grind [zr]
theorem qPU(l:List T)(t:T):szL (qiT l t)<=szL l+size t:=by
 grind [qiT,Nat.le_trans,qA3,qu8,qzB]
theorem qxk:∀(b a:List T),szL (b.foldl qiT a)<=szL a+szL b
 |[],a=>by simp[szL]
 |x::b,a=>by
   have c:=qxk b (qiT a x);grind [qPU,zr]
theorem qGm(a b:List T)(n:szL a+szL b<=1000000000):Ev (λ m _=>qig m a b) (qkF a b):=by
 have t:=jU a;have s:=jU b;refine waG ?_;simp only[qES,qgp]
 have d:=qt (P:=λ i=>Ev (λ m k=>J1 m k b ((b.take i).foldl qiT a) i) (qkF a b)) b (by omega)
  (λ e=>by
   refine waF ?_;simp only[qqJ,qgo];refine waD e ?_;rw[wF];exact waz _)
  (λ i x f o e l j g=>by
   refine waF ?_;simp only[qqJ,qgo,qi];have q:=QD f;have p:=qxk (b.take i) a;rw[ko,f,xK]at g;refine waC e (waA l (way (qSY _ x (by omega)) ?_));rw[j];exact g)
 refine waC (zd (by simp only[wT];omega) (by omega)) ?_;have c:Ev (λ m _=>J1 m m b a 0) (qkF a b):=waH (L:=λ m k=>J1 m k b a 0) (d 0 (wg _));exact Ev.case (λ h=>by rw[h]at c |-;exact c) λ x r h=>by rw[h]at c |-;exact c
theorem qPr(t:T):size t<=1000000000->Ev (λ m _=>ya m t) (Qi t):=by
 induction t using T.ind with
 |h t w=>
   intro F;have v:=yx t;have E:=qU t;refine waG ?_;simp only[qvb,qcF,qi]
   have q:=qt (P:=λ i=>Ev (λ m k=>jZ m (ya m) k (((t.kids.take i).map Qi).foldl zt []) i t.kind t.name t.sort t.kids) ((t.kids.map Qi).foldl zt [])) t.kids (by omega)
    (λ s=>by
     refine waF ?_;simp only[qkt,qcC];refine waD s ?_;rw[wF];exact waz _)
    (λ i x c G s A y C=>by
     refine waF ?_;simp only[qkt,qcC,qi];have u:=wb c;have I:=yu t x u;have D:=qeR (t.kids.take i);have f:=QD c;have H:=qmd x
     have B:Asc (((t.kids.take i).map Qi).foldl zt []):=qhA _ _ List.Pairwise.nil λ l v=>by
      obtain⟨k,_,rfl⟩:=wC.1 v;exact qmZ k
     refine waC s (waA A (way (w x u (by omega)) (way (qGm _ _ ?_) ?_)))
     .unfold yf at D;unfold szL at *;omega
     .rw[y,qEM B (qmZ x)];refine C.congr λ m k=>?_;rw[qk2 c])
   have g:Ev (λ m _=>jZ m (ya m) m [] 0 t.kind t.name t.sort t.kids) ((t.kids.map Qi).foldl zt []):=
    waH (L:=λ m k=>jZ m (ya m) k [] 0 t.kind t.name t.sort t.kids) (q 0 (wg _))
   rw[qlv];by_cases f:t.kind=3
   .have p:ieq t.kind 3=true:=qk.2 f;have o:qg (ieq t.kind 3)=false:=bnf.2 p;refine waC p ?_;refine waB (λ e=>?_) λ e=>?_
    .rw[zM]at e;have a:isN t qbw=true:=yT.2 ⟨f,e⟩
     have d:isN t qbG=false:=by
      rw[<-kK,yT];rintro⟨_,h⟩;rw[e]at h;exact absurd h (by decide)
     refine waB (λ b=>?_) λ b=>?_
     .rw[qk]at b;have b:t.kids=[]:=wi (by omega);rw[a,b];exact waz _
     .rw[qh]at b
      have b:t.kids.isEmpty=false:=by
       cases z:t.kids with
       |nil=>rw[z]at b;exact absurd rfl b
       |cons _ _=>rfl
      rw[a,b,d];exact waD o (waC (by rw[e];rfl) (waz _))
    .have r:=ye.1 e
     have a:isN t qbw=false:=by
      rw[<-kK,yT];rintro⟨_,h⟩;exact r h
     rw[a];refine waD o (waB (λ c=>?_) λ c=>?_)
     .have d:isN t qbG=false:=by
        rw[<-kK,yT];rintro⟨_,h⟩;exact ye.1 (bnt.1 c) h
      rw[d];exact waz _
     .rw[show isN t qbG=true from yT.2 ⟨f,zM.1 (bnf.1 c)⟩];exact g
   .have p:ieq t.kind 3=false:=qh.2 f
    have j:∀n,isN t n=false:=λ n=>by
     rw[<-kK,yT];rintro⟨h,_⟩;exact f h
    rw[j,j];exact waD p (waC (bnt.2 p) (waz _))
theorem qIX:qB (apT qbw [])=0:=by
 unfold qB;rw[qeS,qU,qiO];have:jS (apT qbw [])=0:=by decide
 show(if jS (apT qbw [])≠0 then jS (apT qbw [])else _)=0;rw[this];rfl
theorem qJ1(l:List T)(n:szL l<=100000000):Ev (λ m _=>qje m l (apT qbw [])) (qox l):=by
 have o:=jU l;refine waG ?_;simp only[qCJ,qfx];unfold qox;refine waB (λ h=>?_) λ h=>?_
 .rw[qw]at h;rw[if_pos (by omega)];exact waz _
 .rw[qx]at h;rw[if_neg (by omega)]
  have b:=qt (P:=λ i=>Ev (λ m k=>qat m k l i 3 qbw 0 []) (((l.drop i).map qB).foldl thn 0)) l (by omega)
   (λ c=>by
    refine waF ?_;simp only[qop,qfV];refine waD c ?_;rw[wJ];refine way (qaS (T.mk 3 qbw 0 []) (by rw[qU];show 1+0<=_;omega)) ?_;exact waE qIX)
   (λ i x d g c f e j=>by
    refine waF ?_;simp only[qop,qfV,qi];have p:=qcX (wb d);rw[qrA g];refine waC c (waA f (way (qaS x (by omega)) (waB (λ a=>?_) λ a=>?_)))
    .rw[bnt,qh]at a;rw[if_pos a];exact waz _
    .rw[bnf,qk]at a;rw[if_neg (by omega),e];exact j)
  refine waH (L:=λ m k=>qat m k l 0 3 qbw 0 []) ?_;exact(b 0 (wg _)).res (by rw[wH])
theorem qHw(l:List T):size (qas l)<=1+szL l:=by
 unfold qas;split
 .rw[qU];show 1+0<=_;omega
 .split
  .rename_i _ a
   have:l.getD 0 zT∈l:=by
    cases l with
    |nil=>cases a
    |cons x r=>exact wh ..
   have:=qcX this;omega
  .rw[qU];exact wa _
theorem qMg(l:List T)(d:szL l<=1000000000):Ev (λ m _=>qk4 m l) (qas l):=by
 have e:=jU l;refine waG ?_;simp only[qDw,qjZ,qi];unfold qas;refine waB (λ c=>?_) λ c=>?_
 .rw[qk]at c;rw[if_pos (by omega)];exact way (qfq _ [] (by simp)) (waz _)
 .rw[qh]at c;rw[if_neg (by omega)];refine waB (λ b=>?_) λ b=>?_
  .rw[qk]at b;rw[if_pos (by omega)];refine waA (a:=l.getD 0 zT) ?_ (waz _);grind [J3]
  .rw[qh]at b;rw[if_neg (by omega)];exact waC (zd (by simp only[wT];omega) (by omega)) (Ev.case (λ h=>waE (by rw[h];rfl)) λ x r h=>waE (by rw[h];rfl))
theorem qRb(l:List T)(q:szL l<=900000):Ev (λ m _=>qnC m l) (qpT l):=by
 have d:=jU l;refine waG ?_;simp only[qGw,qib];unfold qpT
 have z:Ev (λ m _=>qkP m) (apT qbw []):=by
  refine waG ?_;simp only[qGr,qjX,qi];exact way (qfq _ [] (by simp)) (waz _)
 refine way z ?_;rw[qi];refine way (qJ1 l (by omega)) (waB (λ h=>?_) λ h=>?_)
 .rw[bnt,qh]at h;rw[if_pos h];exact waz _
 .rw[bnf,qk]at h;rw[if_neg (by omega)]
  have a:=qt (P:=λ i=>Ev (λ m k=>qcg m k l (((l.take i).map Qi).foldl zt []) i 0 [] 0 []) (if qB (qas (yf l))≠0 then(zT,3)else(qas (yf l),0))) l (by omega)
   (λ c=>by
    refine waF ?_;simp only[qrI,qhv,qi];refine waD c ?_;rw[wF];have p:=qeR l;have e:=qHw (yf l);refine way (qMg (yf l) (by omega)) (way (qaS _ (by omega)) (waB (λ h=>?_) λ h=>?_))
    .rw[bnt,qh]at h;rw[if_pos h];exact waz _
    .rw[bnf,qk]at h;rw[if_neg (by omega)];exact waz _)
   (λ i x b r c j g o=>by
    refine waF ?_;simp only[qrI,qhv,qi];have f:=wb b;have p:=qcX f;have e:=qeR (l.take i);have t:=QD b;have s:=qmd x
    have n:Asc (((l.take i).map Qi).foldl zt []):=qhA _ _ List.Pairwise.nil λ l d=>by
     obtain⟨k,_,rfl⟩:=wC.1 d;exact qmZ k
    refine waC c (waA j (way (qPr x (by omega)) (way (qGm _ _ ?_) ?_)))
    .unfold yf at e;omega
    .rw[g,qEM n (qmZ x)];refine o.congr λ m k=>?_;rw[qk2 b])
  refine waH (L:=λ m k=>qcg m k l [] 0 0 [] 0 []) ?_;exact a 0 (wg _)
end Go.AmZ
namespace Go.GxZ
def qgT(l:List Pw):Prop:=Asc (l.map (·.1))
def NzP(l:List Pw):Prop:=∀p∈l,p.2≠0
theorem qhi{p:Pw}{l:List Pw}:qgT (p::l)↔(∀q∈l,qs p.1 q.1=-1)/\qgT l:=by
 unfold qgT;rw[wk,qbe];simp
theorem qeO{p:Pw}{l:List Pw}:NzP (p::l)↔p.2≠0/\NzP l:=by
 unfold NzP;simp
def Q0(l:List Pw):Nat:=(l.map λ p=>p.2.natAbs).sum
theorem qo7:∀(l:List Pw) (t:T) (n:Int) (p:Pw),p∈yK l t n->p.1=t\/p∈l
 |[],t,n,p,h=>by simp[yK]at h;exact .inl (by rw[h])
 |(x,m)::l,t,n,p,h=>by
   rw[yK]at h;split at h
   .obtain h|h:=wv.1 h
    .exact .inl (by rw[h])
    .exact .inr h
   .split at h
    .rename_i a;split at h
     .exact .inr (we _ h)
     .obtain h|h:=wv.1 h
      .left;rw[h];exact(Jo t x a).symm
      .exact .inr (we _ h)
    .obtain h|h:=wv.1 h
     .exact .inr (h▸wh ..)
     .obtain h|h:=qo7 l t n p h
      .exact .inl h
      .exact .inr (we _ h)
theorem qD4:∀(l:List Pw) (t:T) (n:Int),qgT l->qgT (yK l t n)
 |[],_,_,_=>vA _ _
 |(x,m)::l,t,n,h=>by
   let⟨d,c⟩:=qhi.1 h;rw[yK];have f:=zW.rng t x;split
   .rename_i b;refine qhi.2 ⟨λ q a=>?_,h⟩;obtain e|a:=wv.1 a
    .rw[e];exact b
    .exact qd0 b (d q a)
   .split
    .split
     .exact c
     .exact qhi.2 ⟨d,c⟩
    .refine qhi.2 ⟨λ q a=>?_,qD4 l t n c⟩;obtain e|a:=qo7 l t n q a
     .rw[e];exact qAa.1 (show qs t x=1 by omega)
     .exact d q a
theorem qHA:∀(l:List Pw) (t:T) (n:Int),NzP l->n≠0->NzP (yK l t n)
 |[],_,_,_,a=>by intro p c;simp[yK]at c;rw[c];exact a
 |(x,m)::l,t,n,h,a=>by
   let⟨d,b⟩:=qeO.1 h;rw[yK];split
   .exact qeO.2 ⟨a,h⟩
   .split
    .split
     .exact b
     .exact qeO.2 ⟨by assumption,b⟩
    .exact qeO.2 ⟨d,qHA l t n b a⟩
theorem qvf:∀(l:List Pw) (t:T) (n:Int),Q0 (yK l t n)<=Q0 l+n.natAbs
 |[],t,n=>by simp[yK,Q0]
 |(x,m)::l,t,n=>by
   have a:=qvf l t n;unfold Q0 at a |-
   rw[yK];split
   .simp only[wk,kO];omega
   .split
    .split
     .simp only[wk,kO];omega
     .simp only[wk,kO];omega
    .simp only[wk,kO];omega
theorem qvN:∀(l:List Pw) (t:T) (n:Int),(yK l t n).length<=l.length+1
 |[],t,n=>by simp[yK]
 |(x,m)::l,t,n=>by
   have a:=qvN l t n;rw[yK];split
   .simp
   .split
    .split
     .simp;omega
     .simp
    .simp only[wx];omega
theorem qDx(l:List Pw)(p:Pw)(h:p∈l):p.2.natAbs<=Q0 l:=by
 unfold Q0
 induction l with
 |nil=>cases h
 |cons q l a=>
   simp only[wk,kO];obtain e|h:=wv.1 h
   .rw[e];omega
   .have:=a h;omega
def ju(t:T)(n:Int)(s:List Pw×Bool)(p:Pw):List Pw×Bool:=
 ((if s.2=false/\qs t p.1<0 then s.1++[(t,n)]else s.1)++(if(if qs t p.1=0 then p.2+n else p.2)=0 then[]else[(p.1,if qs t p.1=0 then p.2+n else p.2)]),
   s.2||decide (qs t p.1<=0))
def qJg(l:List Pw)(t:T)(n:Int):List Pw:=if(l.foldl (ju t n) ([],false)).2 then(l.foldl (ju t n) ([],false)).1 else(l.foldl (ju t n) ([],false)).1++[(t,n)]
theorem qpi(t:T)(n:Int):∀(l a:List Pw),NzP l->(∀q∈l,qs t q.1=-1)->l.foldl (ju t n) (a,true)=(a++l,true)
 |[],a,_,_=>by simp
 |(x,m)::l,a,h,k=>by
   let⟨c,f⟩:=qeO.1 h;have b:=k _ (wh ..);simp only at b c;have e:ju t n (a,true) (x,m)=(a++[(x,m)],true):=by simp[ju,b,c]
   rw[ky,e,qpi t n l _ f λ q d=>k q (we _ d)];simp
theorem qt3(t:T)(n:Int):∀(l a:List Pw),NzP l->qgT l->(if(l.foldl (ju t n) (a,false)).2 then(l.foldl (ju t n) (a,false)).1 else(l.foldl (ju t n) (a,false)).1++[(t,n)])=a++yK l t n
 |[],a,_,_=>by simp[yK]
 |(x,m)::l,a,h,k=>by
   let⟨i,g⟩:=qeO.1 h;let⟨d,o⟩:=qhi.1 k;simp only at i d;have s:=zW.rng t x;rw[ky,yK];by_cases c:qs t x=-1
   .have e:ju t n (a,false) (x,m)=(a++[(t,n)]++[(x,m)],true):=by simp[ju,c,i]
    rw[e,qpi t n l _ g λ q f=>qd0 c (d q f),if_pos c];simp
   .by_cases b:qs t x=0
    .have e:ju t n (a,false) (x,m)=(a++(if m+n=0 then[]else[(x,m+n)]),true):=by simp[ju,b]
     have ex:=Jo t x b;rw[e,qpi t n l _ g λ q f=>by rw[ex];exact d q f,if_neg c,if_pos b];by_cases j:m+n=0
     .simp[j]
     .simp[j]
    .have e:ju t n (a,false) (x,m)=(a++[(x,m)],false):=by
       have r:¬ qs t x<0:=by omega
       have p:¬ qs t x<=0:=by omega
       simp[ju,r,p,b,i]
     rw[e,qt3 t n l _ g o,if_neg c,if_neg b];simp
theorem qO9{l:List Pw}(h:NzP l)(k:qgT l)(t:T)(n:Int):qJg l t n=yK l t n:=by
 have:=qt3 t n l [] h k;simpa[qJg]using this
def JV(l:List Pw):Prop:=qgT l/\NzP l
theorem JV.nil:JV []:=⟨List.Pairwise.nil,λ _ h=>by cases h⟩
theorem JV.ins{l:List Pw}(h:JV l)(t:T){n:Int}(a:n≠0):JV (yK l t n):=⟨qD4 l t n h.1,qHA l t n h.2 a⟩
theorem qQC{t:T}{n:Int}(h:n≠0):qbq t n≠0:=by unfold qbq;split<;>omega
theorem qNj(t:T)(n:Int):(qbq t n).natAbs=n.natAbs:=by unfold qbq;split<;>omega
theorem qIp(a:List T)(n:Int)(P:List Pw->Prop)(h:∀k∈a,∀l,P l->P (jM k l n)):∀l,P l->P ((a.map jM).foldl (λ l f=>f l n) l):=by
 induction a with
 |nil=>intro l b;exact b
 |cons k a c=>intro l b;exact c (λ k d=>h k (we _ d)) _ (h k (wh ..) l b)
theorem qKy(t:T):∀(l:List Pw) (n:Int),n≠0->JV l->JV (jM t l n):=by
 refine T.ind (P:=λ t=>∀(l:List Pw) (n:Int),n≠0->JV l->JV (jM t l n)) ?_ t;intro t b l n a h;rw[qhn];split
 .exact qIp t.kids (qbq t n) JV (λ k d l c=>b k d l _ (qQC a) c) l h
 .exact h.ins t a
theorem qN9(t:T):∀(l:List Pw) (n:Int),Q0 (jM t l n)<=Q0 l+size t*n.natAbs/\(jM t l n).length<=l.length+size t:=by
 refine T.ind (P:=λ t=>∀(l:List Pw) (n:Int),Q0 (jM t l n)<=Q0 l+size t*n.natAbs/\(jM t l n).length<=l.length+size t) ?_ t;intro t g l n;rw[qhn,qU];split
 .have:∀(a:List T),(∀k∈a,k∈t.kids)->∀l,Q0 ((a.map jM).foldl (λ l f=>f l (qbq t n)) l)<=Q0 l+(a.map size).sum*n.natAbs/\((a.map jM).foldl (λ l f=>f l (qbq t n)) l).length<=l.length+(a.map size).sum:=by
    intro a
    induction a with
    |nil=>intro _ l;simp
    |cons k a b=>
      intro c l;have e:=g k (c k (wh ..)) l (qbq t n);rw[qNj]at e;have d:=b (λ k i=>c k (we _ i)) (jM k l (qbq t n));simp only[wk,ky,kO,wU]at d |-
      omega
  have:=this t.kids (λ _ h=>h) l;rw[wU];omega
 .have e:=qvf l t n;have d:=qvN l t n;rw[wU];omega
theorem qrs:∀(b a:List Pw),JV a->NzP b->JV (Ja a b)
 |[],a,h,_=>h
 |p::b,a,h,k=>qrs b (yK a p.1 p.2) (h.ins p.1 (qeO.1 k).1) (qeO.1 k).2
theorem qu7:∀(b a:List Pw),Q0 (Ja a b)<=Q0 a+Q0 b/\(Ja a b).length<=a.length+b.length
 |[],a=>by simp[Ja,Q0]
 |p::b,a=>by
   have f:=qu7 b (yK a p.1 p.2);have d:=qvf a p.1 p.2;have c:=qvN a p.1 p.2;have e:Q0 (p::b)=p.2.natAbs+Q0 b:=by simp[Q0]
   rw[show Ja a (p::b)=Ja (yK a p.1 p.2) b from rfl,e,wx];omega
def ixP:List Pw->T->Nat
 |[],_=>0
 |p::l,t=>if qs p.1 t=-1 then ixP l t+1 else 0
theorem qLK:∀(l:List Pw) (t:T),ixP l t<=l.length
 |[],_=>wa _
 |p::l,t=>by
   have:=qLK l t;rw[ixP];split
   .simp;omega
   .omega
theorem qMk:∀(l:List Pw) (t:T) (i:Nat),i<=l.length->(∀k p,k<i->l[k]?=some p->qs p.1 t=-1)->(∀p,l[i]?=some p->qs p.1 t≠-1)->i=ixP l t
 |[],_,i,h,_,_=>by simp at h;rw[h];rfl
 |p::l,t,0,_,_,h=>by rw[ixP,if_neg (h p rfl)]
 |p::l,t,i+1,h,k,m=>by
   rw[ixP,if_pos (k 0 p (by omega) rfl)];rw[<-qMk l t i (by simpa using h) (λ j q b a=>k (j+1) q (by omega) (by simpa using a)) (λ q a=>m q (by simpa using a))]
theorem qIl:∀(l:List Pw) (t:T) (n:Int) (x:T) (m:Int),l[ixP l t]?=some (x,m)->qs x t=0->
  yK l t n=if m+n=0 then l.take (ixP l t)++l.drop (ixP l t+1)else l.take (ixP l t)++[(x,m+n)]++l.drop (ixP l t+1)
 |[],_,_,_,_,h,_=>by simp at h
 |(y,k)::l,t,n,x,m,h,a=>by
   have d:=zW.anti y t;have b:=zW.rng y t;rw[ixP]at h;rw[yK,ixP];simp only at h |-
   by_cases c:qs y t=-1
   .rw[if_pos c]at h;rw[if_neg (by omega),if_neg (by omega),if_pos c,qIl l t n x m (by simpa using h) a];split<;>simp
   .rw[if_neg c]at h;simp at h;obtain⟨rfl,rfl⟩:=h;rw[if_neg (by omega),if_pos (by omega),if_neg c];split<;>simp
theorem qEe:∀(l:List Pw) (t:T) (n:Int),(∀p,l[ixP l t]?=some p->qs p.1 t≠0)->yK l t n=l.take (ixP l t)++[(t,n)]++l.drop (ixP l t)
 |[],_,_,_=>by simp[yK,ixP]
 |(y,k)::l,t,n,h=>by
   have d:=zW.anti y t;have b:=zW.rng y t;rw[ixP]at h;rw[yK,ixP];simp only at h |-
   by_cases c:qs y t=-1
   .rw[if_pos c]at h;rw[if_neg (by omega),if_neg (by omega),if_pos c,qEe l t n λ p a=>h p (by simpa using a)];simp
   .rw[if_neg c]at h;have:=h (y,k) rfl;simp only at this;rw[if_pos (by omega),if_neg c];simp
theorem qHG{l:List Pw}(h:qgT l){i j:Nat}{p q:Pw}(g:l[i]?=some p)(f:l[j]?=some q)(c:i<j):qs p.1 q.1=-1:=by
 unfold qgT Asc at h;rw[xy]at h;let⟨e,d⟩:=List.getElem?_eq_some_iff.1 g;let⟨b,a⟩:=List.getElem?_eq_some_iff.1 f;have:=h i j (by simpa using e) (by simpa using b) c;simpa[d,a]using this
end Go.GxZ
namespace Go.AmZ
open Go Go.GxZ
theorem qHO(t:T):Ev (λ m _=>qbT m t) (qdA t):=by
 refine waG ?_;simp only[qtH,qeN];unfold qdA;by_cases a:t.kind=3
 .refine waC (qk.2 a) (waB (λ h=>?_) λ h=>(waB (λ b=>?_) λ b=>?_))
  .rw[zM]at h;exact waE (by rw[a,h];rfl)
  .rw[zM]at b;exact waE (by rw[a,b];rfl)
  .rw[ye]at h b
   exact waE (by
    have d:(t.name==qdw)=false:=by rw[beq_eq_false_iff_ne];exact h
    have c:(t.name==QY)=false:=by rw[beq_eq_false_iff_ne];exact b
    rw[a,d,c];rfl)
 .exact waD (qh.2 a) (waE (by have:(t.kind==3)=false:=by rw[beq_eq_false_iff_ne];exact a
                              rw[this];rfl))
theorem qnh(t:T):size t<=100000000->Ev (λ m _=>zC m t) t:=by
 induction t using T.ind with
 |h t g=>
   intro o;have p:=yx t;refine waG ?_;simp only[quN,qcy]
   have a:yb 0 t.kids=some ((),t.kids,()):=by
    unfold yb;rw[show Nat.ble t.kids.length 100000000=true from xI (by omega)];rfl
   refine waA a ?_
   have b:=qt (P:=λ i=>Ev (λ m k=>QJ m (zC m) k t.kids.length i t.kind t.name t.sort 0 [] 0 t.kids []) t) t.kids (by omega)
    (λ a=>by
     refine waF ?_;simp only[qky,qcz];exact waD a (waE (qi t)))
    (λ i x c q a f j l=>by
     refine waF ?_;simp only[qky,qcz,qi];have d:=wb c;have s:=yu t x d
     have e:yF t.kids (i:Int) x=t.kids:=by
      rw[qeM];let⟨r,n⟩:=List.getElem?_eq_some_iff.1 c;rw[<-n,List.set_getElem_self]
     refine waC a (waA f (way (g x d (by omega)) (waA f ?_)));rw[e,j];exact l)
   refine waH (L:=λ m k=>QJ m (zC m) k t.kids.length 0 t.kind t.name t.sort 0 [] 0 t.kids []) ?_;exact b 0 (wg _)
theorem qSd(lo a:Nat)(h:lo+a<=1000000000):iw .i64 (qpg .u64 (iw .u64 (iw .i64 (qf (lo:Int) (a:Int)))) 1)=(((lo+a)/2:Nat):Int):=by
 rw[qeF,show iw .i64 ((lo+a:Nat):Int)=((lo+a:Nat):Int)from jN (by omega),show iw .u64 ((lo+a:Nat):Int)=((lo+a:Nat):Int)from IntWalk.u64_in _ (by omega)]
 have:qpg .u64 ((lo+a:Nat):Int) 1=(((lo+a)/2:Nat):Int):=by
  unfold qpg;show Int.fdiv _ 2=_;rw[Int.fdiv_eq_ediv_of_nonneg _ (by decide)];omega
 rw[this,jN (by omega)]
def szP(l:List Pw):Nat:=(l.map λ p=>size p.1).sum
theorem qba(p:Pw)(l:List Pw):szP (p::l)=size p.1+szP l:=by simp[szP]
theorem qda:∀l:List Pw,l.length<=szP l
 |[]=>wg _
 |p::l=>by
   have:=qda l;have:=size_pos p.1;rw[qba,wx];omega
theorem qfu:∀{l:List Pw}{p:Pw},p∈l->size p.1<=szP l
 |q::l,p,h=>by
   rw[qba];obtain rfl|h:=wv.1 h
   .omega
   .have:=qfu h;omega
theorem qH5:∀(l:List Pw) (t:T) (n:Int),szP (yK l t n)<=szP l+size t
 |[],t,n=>by rw[yK,qba];show size t+0<=0+size t;omega
 |(x,m)::l,t,n=>by
   have:=qH5 l t n;rw[yK];split
   .rw[qba,qba];show size t+(size x+_)<=size x+_+size t;omega
   .split
    .split
     .rw[qba];show _<=size x+_+_;omega
     .rw[qba,qba];show size x+_<=size x+_+_;omega
    .rw[qba,qba];show size x+_<=size x+_+_;omega
theorem qFH(p:Pw)(t:T)(b:size p.1<=1000000000)(a:size t<=1000000000):Ev (λ m _=>qaA m p t) (qs p.1 t):=by
 refine waG ?_;simp only[qq9,qdh,qi];exact way (qcd _ b _ a) (waz _)
def quW(l:List Pw)(t:T):Bool:=match l[Go.GxZ.ixP l t]? with
 |some p=>ieq (qs p.1 t) 0
 |none=>false
theorem qQi{l:List Pw}(y:qgT l)(t:T)(D:szP l+size t<=100000000):∀(d lo c:Nat),c<=lo+d->lo<=c->c<=l.length->(∀k p,k<lo->l[k]?=some p->qs p.1 t=-1)->(∀k p,c<=k->l[k]?=some p->qs p.1 t≠-1)->
  Ev (λ m k=>qr m k l l.length lo c t.kind t.name t.sort t.kids) ((Go.GxZ.ixP l t:Int),quW l t):=by
 have E:=qda l;intro d
 induction d with
 |zero=>
   intro lo c C z r o n;have:lo=c:=by omega
   subst this;have w:=qMk l t lo r o (λ p g=>n lo p (wa _) g);subst w;refine waF ?_;simp only[yB,qI,qi];rw[show T.mk t.kind t.name t.sort t.kids=t from qi t];refine waD (qx.2 (vC _)) (waB (λ h=>?_) λ h=>?_)
   .rw[qw]at h;have i:Go.GxZ.ixP l t<l.length:=by omega
    obtain⟨p,e⟩:∃p,l[Go.GxZ.ixP l t]?=some p:=⟨_,List.getElem?_eq_getElem i⟩
    have v:=qfu (wb e);refine waA (a:=p) (by rw[zF,e]) (way (qFH (p.1,p.2) _ (wz v (by omega)) (by omega)) (waE ?_));unfold quW;rw[e]
   .rw[qx]at h;refine waE ?_;unfold quW;rw[List.getElem?_eq_none (by omega)]
 |succ d s=>
   intro lo c C z r o n;by_cases F:lo=c
   .exact s lo c (by omega) z r o n
   refine waF ?_;simp only[yB,qI,qi];rw[show T.mk t.kind t.name t.sort t.kids=t from qi t,qSd lo c (by omega)];have A:(lo+c)/2<c:=by omega
   have u:lo<=(lo+c)/2:=by omega
   generalize (lo+c)/2=b at *;have i:b<l.length:=by omega
   obtain⟨p,e⟩:∃p,l[b]?=some p:=⟨_,List.getElem?_eq_getElem i⟩
   have v:=qfu (wb e);refine waC (qw.2 (by omega)) (waA (a:=p) (by rw[zF,e]) (way (qFH (p.1,p.2) _ (wz v (by omega)) (by omega)) (waB (λ f=>?_) λ f=>?_)))
   .rw[qw]at f;have f:qs p.1 t<0:=f;have f:qs p.1 t=-1:=by obtain h|h|h:=zW.rng p.1 t<;>omega
    rw[show qf ((b:Nat):Int) 1=((b+1:Nat):Int)from by unfold qf;omega,jN (by omega)];refine s (b+1) c (by omega) (by omega) r (λ k q B g=>?_) n;by_cases j:k=b
    .subst j;rw[e]at g;cases g;exact f
    .exact zW.trans _ _ _ (qHG y g e (by omega)) f
   .rw[qx]at f;have f:0<=qs p.1 t:=f;refine s lo b (by omega) u (by omega) o (λ k q B g=>?_);by_cases j:k=b
    .subst j;rw[e]at g;cases g;omega
    .intro x;have:=zW.trans _ _ _ (qHG y e g (by omega)) x;omega
theorem qTo{l:List Pw}(d:qgT l)(t:T)(c:szP l+size t<=100000000):Ev (λ m _=>qP m l t) ((Go.GxZ.ixP l t:Int),quW l t):=by
 refine waG ?_;simp only[Q5,qJ];refine waH (L:=λ m k=>qr m k l l.length 0 l.length t.kind t.name t.sort t.kids) ?_;exact qQi d t c l.length 0 l.length (by omega) (wg _) (wa _) (λ k p b=>by omega) (λ k p b a=>by rw[List.getElem?_eq_none b]at a;cases a)
theorem qwe{l:List Pw}(r:qgT l)(t:T)(n:Int)(u:szP l+size t<=90000000)(g:l.length<=90000)(v:Q0 l+n.natAbs<=1000000000000):Ev (λ m _=>qb3 m l (t,n)) ((),yK l t n,()):=by
 have w:=qda l;have q:=qLK l t;refine waG ?_;simp only[qtL,qe6,qi];refine way (qTo r t (by omega)) (waB (λ h=>?_) λ h=>?_)
 .rw[bnt]at h;refine way (qnh t (by omega)) ?_
  have i:zH 0 l (Go.GxZ.ixP l t:Int) [(re t,n)]=some ((),yK l t n,()):=by
   unfold zH;rw[show inb (Go.GxZ.ixP l t:Int) l.length=true from by unfold inb;rw[decide_eq_true_iff];omega,show Nat.ble l.length 100000=true from xI (by omega)]
   rw[qEe l t n λ p j f=>by
    unfold quW at h;simp only[j]at h;rw[qh]at h;exact h f]
   rw[kL,qi,wn];rfl
  rw[qi]at i;refine waA i (waz _)
 .rw[bnf]at h;cases b:l[Go.GxZ.ixP l t]? with
  |none=>unfold quW at h;simp only[b]at h;cases h
  |some p=>
    let⟨x,k⟩:=p
    have f:qs x t=0:=by
     unfold quW at h;simp only[b]at h;exact qk.1 h
    have o:=qDx l _ (wb b);have d:Go.GxZ.ixP l t<l.length:=(List.getElem?_eq_some_iff.1 b).1;simp only at o
    have e1:iw .i64 (qf k n)=k+n:=by
     unfold qf;exact jN (by omega)
    have e:qd (yF l (Go.GxZ.ixP l t:Int) (x,k+n)) (Go.GxZ.ixP l t:Int)=some (x,k+n):=by
     rw[qeM,zF,List.getElem?_set_self d]
    have a:l.set (Go.GxZ.ixP l t) (x,k+n)=l.take (Go.GxZ.ixP l t)++[(x,k+n)]++l.drop (Go.GxZ.ixP l t+1):=by
     rw[vF,if_pos d,wn];rfl
    refine waA (by rw[zF,b]) (waA (by rw[zF,b]) ?_);simp only[qi,e1];refine waA e ?_;rw[qIl l t n x k b f];refine waB (λ c=>?_) λ c=>?_
    .rw[qk]at c;rw[if_pos c]
     have s:zG 0 (yF l (Go.GxZ.ixP l t:Int) (x,k+n)) (Go.GxZ.ixP l t:Int) (iw .i64 (qf (Go.GxZ.ixP l t:Int) 1))=some ((),l.take (Go.GxZ.ixP l t)++l.drop (Go.GxZ.ixP l t+1),()):=by
      rw[show qf (Go.GxZ.ixP l t:Int) 1=((Go.GxZ.ixP l t+1:Nat):Int)from by unfold qf;omega,jN (by omega),qeM];unfold zG
      rw[wI,show inb ((Go.GxZ.ixP l t+1:Nat):Int) l.length=true from by unfold inb;rw[decide_eq_true_iff];omega,show inb (Go.GxZ.ixP l t:Int) l.length=true from by unfold inb;rw[decide_eq_true_iff];omega,
       show ieq ((Go.GxZ.ixP l t+1:Nat):Int) (qf (Go.GxZ.ixP l t:Int) 1)=true from qk.2 (by unfold qf;omega),show Nat.ble l.length 100000=true from xI (by omega)]
      rw[kL,vk (wa _),vS (by omega)];rfl
     exact waA s (waz _)
    .rw[qh]at c;rw[if_neg c];refine waE ?_;rw[qeM,a]
end Go.AmZ
namespace Go.GxZ
open Go.RowKit
theorem qEV(q:Option T)(p:Pw):pvK q p=if qB p.1≠0 then qB p.1 else if qdA p.1 then 1 else if p.2=0\/p.2 < -1000\/1000<p.2 then 7 else match q with|some x=>if 0<=qs x p.1 then 5 else 0|none=>0:=rfl
theorem qF3:∀(l:List Pw) (q:Option T),pvL q l=0->qgT l/\(∀p∈l,p.2≠0/\p.2.natAbs<=1000)/\(∀x,q=some x->∀p∈l,qs x p.1=-1)/\(∀p∈l,qB p.1=0/\qdA p.1=false)
 |[],q,_=>⟨List.Pairwise.nil,(λ _ h=>by cases h),(λ _ _ _ h=>by cases h),(λ _ h=>by cases h)⟩
 |p::l,q,h=>by
   rw[pvL]at h;unfold thn at h;split at h
   rotate_left
   .rename_i b;exact absurd h b
   .rename_i b;have k:=qEV q p;let⟨j,i,d,g⟩:=qF3 l (some p.1) h;rw[k]at b;split at b
    .rename_i f;exact absurd b f
    rename_i f;split at b
    .cases b
    rename_i m;split at b
    .cases b
    rename_i o
    have e:∀x,q=some x->qs x p.1=-1:=λ x c=>by
     subst c;simp only at b;split at b
     .cases b
     .rename_i n;obtain h|h|h:=zW.rng x p.1<;>omega
    refine⟨qhi.2 ⟨λ r a=>d _ rfl r a,j⟩,λ r a=>?_,λ x c r a=>?_,λ r a=>?_⟩
    .obtain rfl|a:=wv.1 a
     .omega
     .exact i r a
    .obtain rfl|a:=wv.1 a
     .exact e x c
     .exact qd0 (e x c) (by have:=d _ rfl r a;omega)
    .obtain rfl|a:=wv.1 a
     .exact⟨by omega,by simpa using m⟩
     .exact g r a
theorem qb8{l:List Pw}(h:JC l=0):JV l/\l.length<=200/\(∀p∈l,p.2.natAbs<=1000)/\(∀p∈l,qB p.1=0/\qdA p.1=false):=by
 unfold JC at h;split at h
 .cases h
 .obtain⟨d,b,-,c⟩:=qF3 l none h;exact⟨⟨d,λ p a=>(b p a).1⟩,by omega,λ p a=>(b p a).2,c⟩
theorem qoW(k:Nat):∀(l:List Pw),(∀p∈l,p.2.natAbs<=k)->Q0 l<=l.length*k
 |[],_=>by simp[Q0]
 |p::l,h=>by
   have c:=qoW k l λ q a=>h q (we _ a);have b:=h p (wh ..);have e:Q0 (p::l)=p.2.natAbs+Q0 l:=rfl;rw[e,wx,wU];omega
theorem quS:∀(b a:List Pw) (p:Pw),p∈Ja a b->(∃q∈a,q.1=p.1)\/∃q∈b,q.1=p.1
 |[],a,p,h=>.inl ⟨p,h,rfl⟩
 |r::b,a,p,h=>by
   obtain⟨q,c,e⟩|⟨q,c,e⟩:=quS b (yK a r.1 r.2) p h
   .obtain d|d:=qo7 a r.1 r.2 q c
    .exact .inr ⟨r,wh ..,by rw[<-d];exact e⟩
    .exact .inl ⟨q,d,e⟩
   .exact .inr ⟨q,we _ c,e⟩
theorem qAO(a b:List Pw)(p:Pw):Ja a (b++[p])=yK (Ja a b) p.1 p.2:=by unfold Ja;rw[xK];rfl
theorem qIN{a b:List Pw}(n:JC a=0)(m:JC b=0)(S:Nat)(f:∀p∈a,size p.1<=S)(d:∀p∈b,size p.1<=S)(j:Nat):
  qgT (Ja a (b.take j))/\(Ja a (b.take j)).length<=400/\(∀p∈Ja a (b.take j),p.2.natAbs<=1000000)/\(∀p∈Ja a (b.take j),size p.1<=S):=by
 obtain⟨r,t,k,-⟩:=qb8 n;obtain⟨o,s,i,-⟩:=qb8 m;have h:∀p∈b.take j,p∈b:=λ p c=>wQ c;have l:=qrs (b.take j) a r λ p c=>o.2 p (h p c);let⟨y,x⟩:=qu7 (b.take j) a;have w:=qoW 1000 a k;have v:=qoW 1000 (b.take j) λ p c=>i p (h p c);have u:(b.take j).length<=200:=by rw[wo];omega
 refine⟨l.1,by omega,λ p c=>?_,λ p c=>?_⟩
 .have:=qDx _ p c;omega
 .obtain⟨q,g,e⟩|⟨q,g,e⟩:=quS _ _ p c
  .rw[<-e];exact f q g
  .rw[<-e];exact d q (h q g)
end Go.GxZ
namespace Go.AmZ
open Go Go.GxZ
theorem QS{t:T}(h:qB t=0):size t<=400:=by
 grind [qB]
theorem qth{t:T}:qdA t=true↔t.kind=3/\(t.name=qdw\/t.name=QY\/t.name=qgP):=by
 grind [qdA]
theorem qHS(t:T):∀(l:List Pw) (n:Int),szP (jM t l n)<=szP l+size t:=by
 refine T.ind (P:=λ t=>∀(l:List Pw) (n:Int),szP (jM t l n)<=szP l+size t) ?_ t;intro t d l n;rw[qhn];have h:=qU t;split
 .have:∀(a:List T),(∀k∈a,k∈t.kids)->∀l,szP ((a.map jM).foldl (λ l f=>f l (qbq t n)) l)<=szP l+(a.map size).sum:=by
    intro a
    induction a with
    |nil=>intro _ l;simp
    |cons k a b=>
      intro c l;have i:=d k (c k (wh ..)) l (qbq t n);have g:=b (λ k e=>c k (we _ e)) (jM k l (qbq t n));simp only[wk,ky,kO]at g |-
      omega
  grind
 .exact qH5 l t n
def qfX(ks:List T)(a:Int)(l:List Pw)(i:Nat):List Pw:=((ks.take i).map jM).foldl (λ l f=>f l a) l
theorem qA1{ks:List T}{i:Nat}{x:T}(h:ks[i]?=some x)(a:Int)(l:List Pw):qfX ks a l (i+1)=jM x (qfX ks a l i) a:=by
 grind [qfX,List.take_add_one]
theorem qqB(a:Int)(b:a≠0):∀(ks:List T) (l:List Pw),JV l->JV ((ks.map jM).foldl (λ l f=>f l a) l)/\szP ((ks.map jM).foldl (λ l f=>f l a) l)<=szP l+szL ks/\
  Q0 ((ks.map jM).foldl (λ l f=>f l a) l)<=Q0 l+szL ks*a.natAbs/\((ks.map jM).foldl (λ l f=>f l a) l).length<=l.length+szL ks
 |[],l,h=>⟨h,by simp,by simp,by simp⟩
 |k::ks,l,h=>by
   let⟨g,e,d,c⟩:=qqB a b ks (jM k l a) (qKy k l a b h);grind [qHS,qN9,zr,Nat.add_mul]
def qlH(t:T)(l:List Pw)(n:Int):Unit×List Pw×Bool×Unit:=((),if arT t then jM t l n else[],arT t,())
theorem qIY(t:T):∀(l:List Pw) (n:Int),n≠0->JV l->szP l+size t<=80000->Q0 l+size t*n.natAbs<=100000000000->Ev (λ m _=>zw m l t n) (qlH t l n):=by
 induction t using T.ind with
 |h t J=>
   intro l n G H R I;have S:=yx t;have Q:=qU t;have K:=qda l;refine waG ?_;simp only[qrQ,qbz,qi];refine way (qHO t) (waB (λ h=>?_) λ h=>?_)
   .rw[bnt]at h;have r:n.natAbs<=size t*n.natAbs:=vG _ (size_pos t);refine way (qwe H.1 t n (by omega) (by omega) (by omega)) (waE ?_);grind [qlH,qwT,qhn]
   rw[bnf]at h;let⟨Y,j⟩:=qth.1 h;have o:arT t=(arK t&&(t.kids.map arT).all id):=by rw[qwT,h];rfl
   have g:∀e:Int,e≠0->e.natAbs=n.natAbs->qbq t n=e->arK t=true->Ev (λ m _=>jx m (zw m) m e t.kids t.kids.length 0 l) (qlH t l n):=by
    intro e p E z d;have s:jM t l n=qfX t.kids e l t.kids.length:=by rw[qhn,h,if_pos rfl,z];unfold qfX;rw[wF]
    have y:=qt (P:=λ i=>(∀k∈t.kids.take i,arT k=true)->Ev (λ m k=>jx m (zw m) k e t.kids t.kids.length i (qfX t.kids e l i)) (qlH t l n)) t.kids (by omega)
     (λ D w=>by
      refine waF ?_;simp only[qiB,qbs];refine waD D (waE ?_);unfold qlH
      have:arT t=true:=by
       rw[o,d,wV,ww];intro b I;obtain⟨k,B,rfl⟩:=wC.1 I;rw[wF]at w;exact w k B
      rw[this,if_pos rfl,s])
     (λ i x v U D C M F w=>by
      refine waF ?_;simp only[qiB,qbs,qi];have A:=wb v;have Z:=yu t x A;let⟨N,f2,f3,f4⟩:=qqB e p (t.kids.take i) l H;have X:=QD v;have W:szL t.kids+1=size t:=by unfold szL;omega
      have V:szL (t.kids.take i)*e.natAbs+size x*e.natAbs<=size t*n.natAbs:=by
       rw[<-wU,E];exact wu _ (by omega)
      refine waC D (waA C (way (J x A (qfX t.kids e l i) e p N (by unfold qfX;omega) (by unfold qfX;omega)) (waB (λ c=>?_) λ c=>?_)))
      .rw[bnt]at c;have c:arT x=false:=c;refine waE ?_;unfold qlH
       have:arT t=false:=by
        rw[o,d,wV,<-kK,ww];intro u;have:=u (arT x) (kH A);rw[c]at this;cases this
       rw[this];rfl
      .rw[bnf]at c;have c:arT x=true:=c
       have F:=F λ k f=>by
        rw[ko,v]at f;obtain f|f:=wj.1 f
        .exact w k f
        .rw[show k=x from by simpa using f];exact c
       rw[M];refine F.congr λ m k=>?_;unfold qlH;rw[qA1 v,c];rfl)
    refine waH (L:=λ m k=>jx m (zw m) k e t.kids t.kids.length 0 l) ?_;exact(y 0 (wg _)) (λ k d=>by rw[vc]at d;cases d)
   have O:arK t=false->Ev (λ _ _=>some ((),[],false,())) (qlH t l n):=λ d=>by
    refine waE ?_;unfold qlH;rw[o,d];rfl
   have q:iw .i64 (zX 0 n)=-n:=by
    have r:n.natAbs<=size t*n.natAbs:=vG _ (size_pos t);grind [zX,jN]
   obtain a|a|a:=j
   .refine waD (by rw[a];rfl) (waD (by rw[a];rfl) (waC (by rw[a];rfl) (waB (λ d=>?_) λ d=>?_)))
    .grind [arK,qw,decide_eq_true]
    .rw[qx]at d;exact waD (by rw[a];rfl) (g n G rfl (by unfold qbq;rw[a];rfl) (by unfold arK;rw[a,decide_eq_false (show ¬ t.kids.length<2 by omega)];rfl))
   .refine waD (by rw[a];rfl) (waC (by rw[a];rfl) (waB (λ d=>?_) λ d=>?_))
    .rw[bnt,qh]at d;grind [arK]
    .rw[bnf,qk]at d;rw[q];exact waD (by rw[a];rfl) (waC (by rw[a];rfl) (g (-n) (by omega) (by omega) (by unfold qbq;rw[if_pos a]) (by unfold arK;rw[a,show(t.kids.length != 1)=false from by rw[bne_eq_false_iff_eq];omega];rfl)))
   .refine waC (by rw[a];rfl) (waB (λ d=>?_) λ d=>?_)
    .rw[bnt,qh]at d;grind [arK]
    .rw[bnf,qk]at d;exact waD (by rw[a];rfl) (waD (by rw[a];rfl) (waD (by rw[a];rfl) (g n G rfl (by unfold qbq;rw[a];rfl) (by unfold arK;rw[a,show(t.kids.length != 0)=false from by rw[bne_eq_false_iff_eq];omega];rfl))))
theorem qC6(t:T)(c:size t<=1000000000):Ev (λ m _=>qch m t) (ofP t):=by
 refine waG ?_;simp only[qCi,qiD,qi];unfold ofP;refine way (Jr t c) (waB (λ h=>?_) λ h=>?_)
 .rw[bnt,qh]at h;rw[if_pos h];exact waz _
 .rw[bnf,qk]at h;have d:=QS h;rw[if_neg (by omega)];refine way (qIY t [] 1 (by decide) JV.nil (by show 0+_<=_;omega) (by show 0+size t*1<=_;omega)) (waB (λ a=>?_) λ a=>?_)
  .rw[bnt]at a;have a:arT t=false:=a;rw[if_pos a];exact waz _
  .rw[bnf]at a;have a:arT t=true:=a;rw[if_neg (by rw[a];decide)];have e:(qlH t [] 1).2.1=jM t [] 1:=by unfold qlH;rw[a];rfl
   rw[e];refine waB (λ b=>?_) λ b=>?_
   .rw[qw]at b;rw[if_pos (by omega)];exact waz _
   .rw[qx]at b;rw[if_neg (by omega)];exact waz _
def qez(l:List Pw)(i:Nat):Option T:=if i=0 then none else(l[i-1]?).map (·.1)
theorem qkS{l:List Pw}{i:Nat}{p:Pw}(h:l[i]?=some p):qez l (i+1)=some p.1:=by
 grind [qez]
theorem qsn(l:List Pw)(E:szP l<=1000000000):Ev (λ m _=>qaV m l) (JC l):=by
 have F:=qda l;refine waG ?_;simp only[quy,qcH];unfold JC;refine waB (λ h=>?_) λ h=>?_
 .rw[qw]at h;rw[if_pos (by omega)];exact waz _
 rw[qx]at h;rw[if_neg (by omega)]
 have s:=qt (P:=λ i=>Ev (λ m k=>j7 m k l l l.length i) (pvL (qez l i) (l.drop i))) l (by omega)
  (λ z=>by
   refine waF ?_;simp only[qkm,qcE];refine waD z (waE ?_);rw[wJ];rfl)
  (λ i x u D z C B A=>by
   refine waF ?_;simp only[qkm,qcE,qi];have H:=qfu (wb u);rw[qkS u]at A;rw[D,pvL];have c:=qEV (qez l i) x
   have b:∀e:Int,pvK (qez l i) x=e->e≠0->Ev (λ _ _=>some e) (thn (pvK (qez l i) x) (pvL (some x.1) (l.drop (i+1)))):=λ e y r=>by
    rw[y];exact waE (by unfold thn;rw[if_neg r])
   have d:pvK (qez l i) x=0->Ev (λ m k=>j7 m k l l l.length ((i+1:Nat):Int)) (thn (pvK (qez l i) x) (pvL (some x.1) (l.drop (i+1)))):=λ y=>by
    rw[y];exact A.res (by unfold thn;rw[if_pos rfl])
   refine waC z (waA C (way (Jr x.1 (by omega)) (waB (λ p=>?_) λ p=>?_)))
   .rw[bnt,qh]at p;exact b _ (by rw[c,if_pos p]) p
   rw[bnf,qk]at p;rw[if_neg (by omega)]at c;refine way (qHO x.1) (waB (λ o=>?_) λ o=>?_)
   .exact b 1 (by rw[c,if_pos o]) (by decide)
   rw[if_neg (by rw[o];decide)]at c;refine waB (λ t=>?_) λ t=>?_
   .rw[qk]at t;exact b 7 (by rw[c,if_pos (by omega)]) (by decide)
   rw[qh]at t;refine waB (λ n=>?_) λ n=>?_
   .rw[qw]at n;exact b 7 (by rw[c,if_pos (by omega)]) (by decide)
   rw[qx]at n;refine waB (λ g=>?_) λ g=>?_
   .rw[qw]at g;exact b 7 (by rw[c,if_pos (by omega)]) (by decide)
   rw[qx]at g;rw[if_neg (by omega)]at c;rw[B];refine waB (λ r=>?_) λ r=>?_
   .rw[qw]at r;obtain⟨j,rfl⟩:∃j,i=j+1:=⟨i-1,by omega⟩
    have w:j<l.length:=by have:=(List.getElem?_eq_some_iff.1 u).1;omega
    obtain⟨q,v⟩:∃q,l[j]?=some q:=⟨_,List.getElem?_eq_getElem w⟩
    have G:=qfu (wb v);rw[qkS v]at c b d |-
    simp only at c;refine waA (a:=q) (by rw[show zX ((j+1:Nat):Int) 1=((j:Nat):Int)from by unfold zX;omega,jN (by omega),zF,v]) (way (qcd q.1 (by omega) x.1 (by omega)) (waB (λ f=>?_) λ f=>?_))
    .rw[qaF]at f;exact b 5 (by rw[c,if_pos f]) (by decide)
    .rw[JR]at f;exact d (by rw[c,if_neg (by omega)])
   .rw[qx]at r;have:i=0:=by omega
    subst this;exact d (by rw[c];rfl))
 refine waH (L:=λ m k=>j7 m k l l l.length 0) ?_;exact s 0 (wg _)
end Go.AmZ
namespace Go.AmZ
open Go Go.GxZ
theorem yt{α:Type}{l:List α}{i:Nat}{x:α}(h:l[i]?=some x):l.take (i+1)=l.take i++[x]:=by rw[ko,h];rfl
theorem qvG(a b:List Pw):yw (a++b)=yw a++yw b:=by unfold yw;rw[List.flatMap_append]
theorem qvz(a b:List Pw):yz (a++b)=yz a++yz b:=by unfold yz;rw[List.flatMap_append]
theorem qu6(p:Pw):yw [p]=List.replicate p.2.toNat p.1:=by unfold yw;simp
theorem quT(p:Pw):yz [p]=List.replicate (-p.2).toNat (apT QY [p.1]):=by unfold yz;simp
theorem qH6(n:Nat)(x:T):szL (List.replicate n x)=n*size x:=by
 simp_all [szL]
theorem qCZ(t:T):size (apT QY [t])=1+size t:=by rw[qU];show 1+(size t+0)=_;omega
theorem qqr{P:Nat->Prop}(N:Int)(g:N<=1000000)(b:P N.toNat)(a:∀j:Nat,(j:Int)<N->iw .i64 (qf (j:Int) 1)=((j+1:Nat):Int)->P (j+1)->P j):∀j:Nat,j<=N.toNat->P j:=by
 intro j e;obtain⟨d,f⟩:∃d,N.toNat=j+d:=⟨N.toNat-j,by omega⟩
 induction d generalizing j with
 |zero=>
   grind
 |succ d c=>
   grind [qf,jN]
theorem qQ5{l:List Pw}{p:Pw}(a:p∈l)(h:8<p.2):8<(yw l++yz l).length:=by
 have:(List.replicate p.2.toNat p.1).length<=(yw l).length:=wz (waa (kH (f:=λ p:Pw=>List.replicate p.2.toNat p.1) a)).length_le (by unfold yw;rw[waf];exact wa _);grind
theorem qP7{l:List Pw}{p:Pw}(a:p∈l)(h:p.2 < -8):8<(yw l++yz l).length:=by
 have:(List.replicate (-p.2).toNat (apT QY [p.1])).length<=(yz l).length:=wz (waa (kH (f:=λ p:Pw=>List.replicate (-p.2).toNat (apT QY [p.1])) a)).length_le (by unfold yz;rw[waf];exact wa _);grind
theorem qIa(o:List T):size (qan o)<=1+szL o:=by
 unfold qan;split
 .rw[qU];show 1+0<=_;omega
 .split
  .rename_i _ a
   have:o.getD 0 zT∈o:=by
    cases o with
    |nil=>cases a
    |cons x r=>exact wh ..
   have:=qcX this;omega
  .rw[qU];exact wa _
theorem qr0{l:List Pw}(a:∀p∈l,size p.1<=400):∀(ks:List Pw),(∀p∈ks,p∈l/\-8<=p.2/\p.2<=8)->(yw ks).length<=8*ks.length/\(yz ks).length<=8*ks.length/\szL (yw ks)<=3200*ks.length/\szL (yz ks)<=3208*ks.length
 |[],_=>⟨wa _,wa _,wa _,wa _⟩
 |p::ks,h=>by
   let⟨m,k,j,i⟩:=qr0 a ks λ q b=>h q (we _ b);let⟨d,o,n⟩:=h p (wh ..);have c:=a p d;have e1:yw (p::ks)=List.replicate p.2.toNat p.1++yw ks:=by rw[show p::ks=[p]++ks from rfl,qvG,qu6]
   have e:yz (p::ks)=List.replicate (-p.2).toNat (apT QY [p.1])++yz ks:=by rw[show p::ks=[p]++ks from rfl,qvz,quT]
   have g:p.2.toNat*size p.1<=8*400:=vW (by omega) c;have f:(-p.2).toNat*(1+size p.1)<=8*401:=vW (by omega) (by omega);rw[e1,e,qiV,qiV,qH6,qH6,qCZ];grind
def qnJ(o:List T):T×Int:=if 8<o.length then(zT,3)else if qB (qan o)≠0 then(zT,qB (qan o))else(qan o,0)
theorem qsJ{l:List Pw}(h:JC l=0):qbt l=qnJ (yw l++yz l):=by
 grind [qbt,qnJ]
theorem qED(l:List Pw)(Q:szP l<=1000000000):Ev (λ m _=>Jt m l) (qbt l):=by
 refine waG ?_;simp only[qwo,qdI];refine way (qsn l Q) (waB (λ h=>?_) λ h=>?_)
 .rw[bnt,qh]at h;unfold qbt;rw[if_pos h];exact waz _
 rw[bnf,qk]at h;let⟨_,H,Y,X⟩:=qb8 h;have c:∀p∈l,size p.1<=400:=λ p A=>QS (X p A).1;rw[qsJ h]
 have D:=qt (P:=λ i=>(∀p∈l.take i,p∈l/\-8<=p.2/\p.2<=8)->Ev (λ m k=>(qD m k).1 l l.length i 0 [] 0 [] (yw (l.take i)) (yz (l.take i))) (qnJ (yw l++yz l))) l (by omega)
  (λ F t=>by
   refine waF ?_;simp only[ql2,qdK,qi];rw[wF]at t |-
   let⟨b1,b2,b3,Z⟩:=qr0 c l t;refine waD F (way (qv5 (yw l) (yz l) (by omega)) ?_);have ho:szL (yw l++yz l)<=10000000:=by rw[qiV];omega
   generalize yw l++yz l=o at *;have S:=jU o;have R:=qIa o;unfold qnJ;refine waB (λ b=>?_) λ b=>?_
   .rw[qw]at b;rw[if_pos (by omega)];exact waz _
   rw[qx]at b;rw[if_neg (by omega)]
   have f:∀u:T,u=qan o->Ev (λ m _=>qb (zj m u) λ v=>cond (qg (ieq v 0)) (some (T.mk 0 [] 0 [],v)) (some (u,0))) (if qB (qan o)≠0 then(zT,qB (qan o))else(qan o,0)):=by
    intro u N;subst N;refine way (Jr _ (by omega)) (waB (λ h=>?_) λ h=>?_)
    .rw[bnt,qh]at h;rw[if_pos h];exact waz _
    .rw[bnf,qk]at h;rw[if_neg (by omega)];exact waz _
   have y:∀(n:List UInt8) (x:List T),Ev (λ m _=>qe5 m n x) (apT n x):=λ n x=>waG (waz _);refine way (y [109,117,108] o) (waB (λ G=>?_) λ G=>?_)
   .rw[qk]at G;exact way (y [111,110,101] []) (f _ (by unfold qan;rw[if_pos (by omega)];rfl))
   .rw[qh]at G;refine waB (λ C=>?_) λ C=>?_
    .rw[qk]at C;refine waA (a:=o.getD 0 zT) ?_ (f _ (by unfold qan;rw[if_neg (by omega),if_pos (by omega)]));rw[J3,List.getD_eq_getElem?_getD];cases o with
     |nil=>simp at C
     |cons x r=>rfl
    .rw[qh]at C;exact f _ (by unfold qan;rw[if_neg (by omega),if_neg (by omega)];rfl))
  (λ i p z hd F W V B t=>by
   refine waF ?_;simp only[ql2,qdK];have s:=wb z;have hn:=Y p s;have hz:=c p s;have U:=(List.getElem?_eq_some_iff.1 z).1;refine waC F (waA W (waB (λ b=>?_) λ b=>?_))
   .rw[qw]at b;unfold qnJ;rw[if_pos (qQ5 s b)];exact waz _
   rw[qx]at b;refine waB (λ w=>?_) λ w=>?_
   .rw[qw]at w;unfold qnJ;rw[if_pos (qP7 s w)];exact waz _
   rw[qx]at w;let⟨b1,b2,b3,Z⟩:=qr0 c _ t;have O:(l.take i).length<=200:=by rw[wo];omega
   have B:=B λ q g=>by
    rw[yt z]at g;obtain g|g:=wj.1 g
    .exact t q g
    .rw[show q=p from by simpa using g];exact⟨s,w,b⟩
   rw[yt z,qvG,qvz,qu6,quT]at B;generalize yw (l.take i)=I at *;generalize yz (l.take i)=J at*
   have K:=qqr (P:=λ j=>Ev (λ m k=>(qD m k).2.2 l l.length i (-p.2) j 0 [] 0 p.1.kind p.1.name p.1.sort p.1.kids p.2 [] (I++List.replicate p.2.toNat p.1) (J++List.replicate j (apT QY [p.1]))) (qnJ (yw l++yz l))) (-p.2) (by omega)
    (by
     refine waF ?_;simp only[qmm,qdk];refine waD (qx.2 (by omega)) ?_;rw[V];exact B)
    (λ j E d e=>by
     refine waF ?_;simp only[qmm,qdk,qi];rw[show T.mk p.1.kind p.1.name p.1.sort p.1.kids=p.1 from qi p.1,d];refine waC (qw.2 E) (way (qnh p.1 (by omega)) (way (a:=apT QY [p.1]) (waG (waz _)) (waC (zd (by rw[wd,kX];omega) (by omega)) ?_)));refine e.congr λ m k=>?_;rw[vj,wn])
   have M:=qqr (P:=λ j=>Ev (λ m k=>(qD m k).2.1 l l.length i p.2 j 0 [] 0 p.1.kind p.1.name p.1.sort p.1.kids p.2 [] (I++List.replicate j p.1) J) (qnJ (yw l++yz l))) p.2 (by omega)
    (by
     refine waF ?_;simp only[qmx,qdm];refine waD (qx.2 (by omega)) ?_;rw[show iw .i64 (zX 0 p.2)=-p.2 from by unfold zX;rw[jN (by omega)];omega];have:=K 0 (wg _);rw[vm,wy]at this;exact this)
    (λ j E d e=>by
     refine waF ?_;simp only[qmx,qdm,qi];rw[show T.mk p.1.kind p.1.name p.1.sort p.1.kids=p.1 from qi p.1,d];refine waC (qw.2 E) (way (qnh p.1 (by omega)) (waC (zd (by rw[wd,kX];omega) (by omega)) ?_));refine e.congr λ m k=>?_;rw[vj,wn])
   have:=M 0 (wg _);rw[vm,wy]at this;exact this)
 refine waH (L:=λ m k=>(qD m k).1 l l.length 0 0 [] 0 [] [] []) ?_;exact(D 0 (wg _)) (λ p A=>by rw[vc]at A;cases A)
theorem qQa(l:List Pw)(g:szP l<=100000000):Ev (λ m _=>qeu m l) ((),l,()):=by
 have h:=qda l;refine waG ?_;simp only[qtM,qb9]
 have a:=qt (P:=λ i=>Ev (λ m k=>Qo m k l l.length i (l.take i)) ((),l,())) l (by omega)
  (λ b=>by
   refine waF ?_;simp only[qjL,qbZ];refine waD b ?_;rw[wF];exact waz _)
  (λ i p c j b e d f=>by
   refine waF ?_;simp only[qjL,qbZ,qi];have o:=qfu (wb c);have n:(l.take i).length<=l.length:=by rw[wo];omega
   refine waC b (waA e (way (qnh p.1 (by omega)) (waC (zd (by omega) (by omega)) ?_)));rw[d];refine f.congr λ m k=>?_;rw[yt c])
 refine waH (L:=λ m k=>Qo m k l l.length 0 []) ?_;exact a 0 (wg _)
theorem qAv(p:Pw)(l:List Pw):qn7 (p::l)=((decide (p.2 < -1000)||decide (1000<p.2))||qn7 l):=rfl
theorem qQB(l:List Pw)(r:l.length<=1000000000):∃v,Ev (λ m _=>zZ m l) v/\ile 0 v=qn7 l:=by
 have b:=qt (P:=λ i=>∃v,Ev (λ m k=>qH m k l l.length i) v/\ile 0 v=qn7 (l.drop i)) l (by omega)
  (λ a=>by
   refine⟨-1,waF ?_,by rw[wJ];rfl⟩;simp only[yE,qX];exact waD a (waz _))
  (λ i p q n a f j o=>by
   let⟨v,d,c⟩:=o;rw[n,qAv]
   have e:Ev (λ m _=>qct m (p.1,p.2)) (decide (p.2 < -1000)||decide (1000<p.2)):=by
    refine waG ?_;simp only[qq4,qdE];refine waB (λ h=>?_) λ h=>?_
    .rw[qw]at h;exact waE (by rw[decide_eq_true h];rfl)
    .rw[qx]at h;exact waE (by rw[decide_eq_false (show ¬ p.2 < -1000 by omega)];rfl)
   cases g:decide (p.2 < -1000)||decide (1000<p.2)with
   |true=>
     refine⟨i,waF ?_,by rw[xh,qaF];omega⟩;simp only[yE,qX,qi];exact waC a (waA f (way e (waC g (waz _))))
   |false=>
     refine⟨v,waF ?_,by rw[xq];exact c⟩;simp only[yE,qX,qi];refine waC a (waA f (way e (waD g ?_)));rw[j];exact d)
 let⟨v,d,c⟩:=b 0 (wg _);refine⟨v,waG ?_,by rw[c,wH]⟩;simp only[qb2,zK];grind [Ev.diag]
def qqD(l:List Pw):List Pw×Int:=if qn7 l then([],7)else if 200<l.length then([],3)else(l,0)
theorem qP4(l:List Pw)(c:l.length<=1000000000):Ev (λ m _=>qev m l) (qqD l):=by
 let⟨v,b,d⟩:=qQB l c;refine waG ?_;simp only[qt0,qe3]
 have e:Ev (λ m _=>zN m l) (qn7 l):=by
  refine waG ?_;simp only[qbh,yo];exact way b (waE d)
 unfold qqD;refine way e (waB (λ h=>?_) λ h=>?_)
 .rw[if_pos h];exact waz _
 .rw[if_neg (by rw[h];decide)];refine waB (λ a=>?_) λ a=>?_
  .rw[qw]at a;rw[if_pos (by omega)];exact waz _
  .rw[qx]at a;rw[if_neg (by omega)];exact waz _
theorem qLJ(S:Nat):∀l:List Pw,(∀p∈l,size p.1<=S)->szP l<=l.length*S
 |[],_=>by simp[szP]
 |p::l,h=>by
   have b:=qLJ S l λ q a=>h q (we _ a);grind [List.mem_cons_self,qba,List.length_cons,Nat.add_mul]
theorem qye(a b:List Pw):qnT a b=if JC a≠0 then([],JC a)else if JC b≠0 then([],JC b)else qqD (Ja a b):=rfl
theorem qio{a b:List Pw}(f:JC a=0)(e:JC b=0)(j:Nat):
  JV (Ja a (b.take j))/\(Ja a (b.take j)).length<=400/\szP (Ja a (b.take j))<=160000/\Q0 (Ja a (b.take j))<=400000:=by
 let⟨q,s,l,i⟩:=qb8 f;let⟨o,r,k,h⟩:=qb8 e;have d:∀p∈b.take j,p∈b:=λ p c=>wQ c;let⟨y,g,x,n⟩:=qIN f e 400 (λ p c=>QS (i p c).1) (λ p c=>QS (h p c).1) j;have m:=qLJ 400 _ n;let⟨w,_⟩:=qu7 (b.take j) a;have v:=qoW 1000 a l;have u:=qoW 1000 (b.take j) λ p c=>k p (d p c);have t:(b.take j).length<=200:=by rw[wo];omega
 refine⟨qrs _ _ q λ p c=>o.2 p (d p c),g,wz m (wu 400 g),?_⟩;grind
theorem qQK(a b:List Pw)(s:szP a<=100000000)(y:szP b<=100000000):Ev (λ m _=>qiq m a b) (qnT a b):=by
 have w:=qda b;refine waG ?_;simp only[qzO,qej];rw[qye];refine way (qsn a (by omega)) (waB (λ h=>?_) λ h=>?_)
 .rw[bnt,qh]at h;rw[if_pos h];exact waz _
 rw[bnf,qk]at h;rw[if_neg (by omega)];refine way (qsn b (by omega)) (waB (λ c=>?_) λ c=>?_)
 .rw[bnt,qh]at c;rw[if_pos c];exact waz _
 rw[bnf,qk]at c;rw[if_neg (by omega)];refine way (qQa a s) ?_
 have d:=qt (P:=λ i=>Ev (λ m k=>JF m k b b.length i (Ja a (b.take i))) (qqD (Ja a b))) b (by omega)
  (λ e=>by
   refine waF ?_;simp only[qnc,qet];rw[wF];let⟨_,j,_,_⟩:=qio h c b.length;rw[wF]at j;exact waD e (way (qP4 _ (by omega)) (waz _)))
  (λ i p f x e r q t=>by
   refine waF ?_;simp only[qnc,qet,qi];have g:=wb f;let⟨u,j,A,z⟩:=qio h c i;let⟨_,_,o,l⟩:=qb8 c;have v:=QS (l p g).1;have n:=o p g;refine waC e (waA r (way (qwe u.1 p.1 p.2 (by omega) (by omega) (by omega)) ?_));rw[q];refine t.congr λ m k=>?_;rw[yt f,qAO])
 refine waH (L:=λ m k=>JF m k b b.length 0 a) ?_;exact d 0 (wg _)
end Go.AmZ
namespace Go.AmZ
open Go Go.GxZ
theorem qDV(t:T):Ev (λ m _=>qbR m t) (qdA t):=by
 refine waG ?_;simp only[qxy,qgS];unfold qdA;by_cases a:t.kind=3
 .refine waC (qk.2 a) (waB (λ h=>?_) λ h=>(waB (λ b=>?_) λ b=>?_))
  .rw[zM]at h;exact waE (by rw[a,h];rfl)
  .rw[zM]at b;exact waE (by rw[a,b];rfl)
  .rw[ye]at h b
   exact waE (by
    have d:(t.name==qdw)=false:=by rw[beq_eq_false_iff_ne];exact h
    have c:(t.name==QY)=false:=by rw[beq_eq_false_iff_ne];exact b
    rw[a,d,c];rfl)
 .exact waD (qh.2 a) (waE (by have:(t.kind==3)=false:=by rw[beq_eq_false_iff_ne];exact a
                              rw[this];rfl))
theorem qK3(t:T):size t<=1000000000->Ev (λ m _=>js m t) (arT t):=by
 induction t using T.ind with
 |h t n=>
   intro v;have w:=yx t;refine waG ?_;simp only[qBE,qfi,qi];refine way (qDV t) (waB (λ h=>?_) λ h=>?_)
   .rw[bnt]at h;exact waE (by rw[qwT,h];rfl)
   rw[bnf]at h;let⟨y,d⟩:=qth.1 h;have f:arT t=(arK t&&(t.kids.map arT).all id):=by rw[qwT,h];rfl
   have c:arK t=true->Ev (λ m _=>Jq m (js m) m t.kids.length 0 t.kind t.name t.sort t.kids) (arT t):=by
    intro b;rw[f,b,wV]
    have g:=qt (P:=λ i=>Ev (λ m k=>Jq m (js m) k t.kids.length i t.kind t.name t.sort t.kids) (((t.kids.drop i).map arT).all id)) t.kids (by omega)
     (λ j=>by
      refine waF ?_;simp only[qoU,qfT];refine waD j (waE ?_);rw[wJ];rfl)
     (λ i x o r j q p s=>by
      refine waF ?_;simp only[qoU,qfT,qi];have l:=wb o;have z:=yu t x l;rw[r,wk,wX];refine waC j (waA q (way (n x l (by omega)) (waB (λ e=>?_) λ e=>?_)))
      .rw[bnt]at e;rw[e];exact waz _
      .rw[bnf]at e;rw[e,p];exact s)
    refine waH (L:=λ m k=>Jq m (js m) k t.kids.length 0 t.kind t.name t.sort t.kids) ?_;exact(g 0 (wg _)).res (by rw[wH])
   have u:arK t=false->Ev (λ _ _=>some false) (arT t):=λ b=>waE (by rw[f,b];rfl);obtain a|a|a:=d
   .refine waC (by rw[a];rfl) (waB (λ b=>?_) λ b=>?_)
    .grind [arK,qw,decide_eq_true]
    .rw[qx]at b;exact waD (by rw[a];rfl) (waD (by rw[a];rfl) (c (by unfold arK;rw[a,decide_eq_false (show ¬ t.kids.length<2 by omega)];rfl)))
   .refine waD (by rw[a];rfl) (waC (by rw[a];rfl) (waB (λ b=>?_) λ b=>?_))
    .rw[bnt,qh]at b;grind [arK]
    .rw[bnf,qk]at b;exact waD (by rw[a];rfl) (c (by unfold arK;rw[a,show(t.kids.length != 1)=false from by rw[bne_eq_false_iff_eq];omega];rfl))
   .refine waD (by rw[a];rfl) (waD (by rw[a];rfl) (waC (by rw[a];rfl) (waB (λ b=>?_) λ b=>?_)))
    .rw[bnt,qh]at b;grind [arK]
    .rw[bnf,qk]at b;exact c (by unfold arK;rw[a,show(t.kids.length != 0)=false from by rw[bne_eq_false_iff_eq];omega];rfl)
theorem qAF(t:T)(n:Int):∀(l:List Pw) (s:List Pw×Bool),(l.foldl (ju t n) s).1.length<=s.1.length+2*l.length
 |[],s=>by simp
 |x::l,s=>by
   have h:=qAF t n l (ju t n s x);grind [ju]
theorem qIv{l:List Pw}(y:JV l)(t:T)(n:Int)(D:szP l+size t<=1000000000)(E:Q0 l+n.natAbs<=1000000000000):Ev (λ m _=>qjU m l t n) ((),yK l t n,()):=by
 have F:=qda l;refine waG ?_;simp only[qGA,qhH]
 have j:∀i,((l.take i).foldl (ju t n) ([],false)).1.length<=2*l.length:=λ i=>by
  grind [qAF,List.length_take,List.length_nil]
 have w:=qt (P:=λ i=>Ev (λ m k=>JP m k n ((l.take i).foldl (ju t n) ([],false)).2 i t.kind t.name t.sort t.kids l ((l.take i).foldl (ju t n) ([],false)).1) ((),yK l t n,())) l (by omega)
  (λ z=>by
   refine waF ?_;simp only[qrS,qhC];refine waD z ?_;have:=j l.length;have u:=qO9 y.2 y.1 t n;rw[wF]at this |-
   unfold qJg at u;refine waB (λ h=>?_) λ h=>?_
   .rw[bnt]at h;rw[if_neg (by rw[h];decide)]at u;rw[show T.mk t.kind t.name t.sort t.kids=t from qi t,u];exact waC (zd (by omega) (by omega)) (waz _)
   .rw[bnf]at h;rw[if_pos h]at u;rw[u];exact waz _)
  (λ i p A G z f B v=>by
   refine waF ?_;simp only[qrS,qhC,qi];have x:=wb A;have J:=qfu x;have I:=j i;have H:=qDx l p x;have d:=y.2 p x;rw[yt A,xK]at v;generalize (l.take i).foldl (ju t n) ([],false)=s at*
   have r:∀(b:Bool) (o:List Pw),ju t n s p=(o,b)->Ev (λ m k=>JP m k n b ((i+1:Nat):Int) t.kind t.name t.sort t.kids l o) ((),yK l t n,()):=λ b o e=>by
    have v:Ev (λ m k=>JP m k n (ju t n s p).2 ((i+1:Nat):Int) t.kind t.name t.sort t.kids l (ju t n s p).1) ((),yK l t n,()):=v;rw[e]at v;exact v
   have e1:iw .i64 (qf p.2 n)=p.2+n:=by unfold qf;exact jN (by omega)
   rw[show T.mk t.kind t.name t.sort t.kids=t from qi t,B];have q:qg (ieq p.2 0)=true:=bnt.2 (qh.2 d);refine waC z (waA f (way (qjd t (by omega) p.1 (by omega)) (waB (λ h=>?_) λ h=>?_)))
   .rw[bnt]at h;refine waB (λ g=>?_) λ g=>?_
    .rw[qw]at g;refine waC (zd (by omega) (by omega)) (waA f (waD (qh.2 (by omega)) (waC q (waC (zd (by rw[wd];simp only[wx,wT];omega) (by omega)) (r _ _ ?_)))));unfold ju;rw[if_pos ⟨h,g⟩,if_neg (show ¬ qs t p.1=0 by omega),if_neg d,decide_eq_true (show qs t p.1<=0 by omega),xo]
    .rw[qx]at g;refine waA f (waB (λ a=>?_) λ a=>?_)
     .rw[qk]at a;refine waB (λ c=>?_) λ c=>?_
      .rw[bnt,qh,e1]at c;refine waC (zd (by omega) (by omega)) (r _ _ ?_);rw[e1];unfold ju;rw[if_neg (by omega),if_pos a,if_neg c,decide_eq_true (show qs t p.1<=0 by omega),xo]
      .rw[bnf,qk,e1]at c;refine r _ _ ?_;unfold ju;rw[if_neg (by omega),if_pos a,if_pos c,decide_eq_true (show qs t p.1<=0 by omega),xo,wy]
     .rw[qh]at a;refine waC q (waC (zd (by omega) (by omega)) (r _ _ ?_));unfold ju;rw[if_neg (by omega),if_neg a,if_neg d,decide_eq_false (show ¬ qs t p.1<=0 by omega),Bool.or_false]
   .rw[bnf]at h;refine waA f (waB (λ a=>?_) λ a=>?_)
    .rw[qk]at a;refine waB (λ c=>?_) λ c=>?_
     .rw[bnt,qh,e1]at c;refine waC (zd (by omega) (by omega)) (r _ _ ?_);rw[e1];unfold ju;rw[if_neg (by omega),if_pos a,if_neg c,decide_eq_true (show qs t p.1<=0 by omega),xo]
     .rw[bnf,qk,e1]at c;refine r _ _ ?_;unfold ju;rw[if_neg (by omega),if_pos a,if_pos c,decide_eq_true (show qs t p.1<=0 by omega),xo,wy]
    .rw[qh]at a;refine waC q (waC (zd (by omega) (by omega)) (r _ _ ?_));unfold ju;rw[if_neg (by rw[h];intro C;cases C.1),if_neg a,if_neg d,h,xh])
 refine waH (L:=λ m k=>JP m k n false 0 t.kind t.name t.sort t.kids l []) ?_;exact w 0 (wg _)
theorem qGQ(t:T):∀(l:List Pw) (n:Int),n≠0->JV l->szP l+size t<=80000000->Q0 l+size t*n.natAbs<=100000000000->Ev (λ m _=>yp m l t n) ((),jM t l n,()):=by
 induction t using T.ind with
 |h t y=>
   intro l n E w D H;have F:=yx t;have C:=qU t;refine waG ?_;simp only[qxp,qdG,qi];have u:n.natAbs<=size t*n.natAbs:=vG _ (size_pos t);refine way (qDV t) (waB (λ h=>?_) λ h=>?_)
   .rw[bnt]at h;refine way (qIv w t n (by omega) (by omega)) (waE ?_);rw[qhn,h];rfl
   rw[bnf]at h;let⟨M,g⟩:=qth.1 h
   have r:∀a:Int,a≠0->a.natAbs=n.natAbs->qbq t n=a->Ev (λ m _=>Qq m (yp m) m a 0 t.kind t.name t.sort t.kids l) ((),jM t l n,()):=by
    intro a b q f;have c:jM t l n=qfX t.kids a l t.kids.length:=by rw[qhn,h,if_pos rfl,f];unfold qfX;rw[wF]
    rw[c]
    have d:=qt (P:=λ i=>Ev (λ m k=>Qq m (yp m) k a i t.kind t.name t.sort t.kids (qfX t.kids a l i)) ((),qfX t.kids a l t.kids.length,())) t.kids (by omega)
     (λ p=>by
      refine waF ?_;simp only[ql8,qdj];exact waD p (waz _))
     (λ i x e G p o z A=>by
      refine waF ?_;simp only[ql8,qdj,qi];have v:=wb e;have N:=yu t x v;let⟨B,R,Q,O⟩:=qqB a b (t.kids.take i) l w;have K:=QD e;have J:szL t.kids+1=size t:=by unfold szL;omega
      have I:szL (t.kids.take i)*a.natAbs+size x*a.natAbs<=size t*n.natAbs:=by
       rw[<-wU,q];exact wu _ (by omega)
      refine waC p (waA o (way (y x v (qfX t.kids a l i) a b B (by unfold qfX;omega) (by unfold qfX;omega)) ?_));rw[z];refine A.congr λ m k=>?_;rw[qA1 e])
    refine waH (L:=λ m k=>Qq m (yp m) k a 0 t.kind t.name t.sort t.kids l) ?_;exact d 0 (wg _)
   have s:iw .i64 (zX 0 n)=-n:=by
    grind [zX,jN]
   refine waB (λ j=>?_) λ j=>?_
   .rw[zM]at j;simp_all [qbq,QY]
   .rw[ye]at j;grind [qbq,QY]
theorem qFk(t:T)(c:size t<=1000000000):Ev (λ m _=>qjb m t) (ofP t):=by
 refine waG ?_;simp only[qJK,qnQ,qi];unfold ofP;refine way (qaS t c) (waB (λ h=>?_) λ h=>?_)
 .rw[bnt,qh]at h;rw[if_pos h];exact waz _
 .rw[bnf,qk]at h;have d:=QS h;rw[if_neg (by omega)];refine way (qK3 t c) (waB (λ b=>?_) λ b=>?_)
  .rw[bnt]at b;rw[if_pos b];exact waz _
  .rw[bnf]at b;rw[if_neg (by rw[b];decide)];refine way (qGQ t [] 1 (by decide) JV.nil (by show 0+_<=_;omega) (by show 0+size t*1<=_;omega)) (waB (λ a=>?_) λ a=>?_)
   .rw[qw]at a;have a:(200:Int)<((jM t [] 1).length:Int):=a;rw[if_pos (by omega)];exact waz _
   .rw[qx]at a;have a:((jM t [] 1).length:Int)<=200:=a;rw[if_neg (by omega)];exact waz _
theorem qvC(l:List Pw)(E:szP l<=1000000000):Ev (λ m _=>qdX m l) (JC l):=by
 have F:=qda l;refine waG ?_;simp only[qB4,qfm];unfold JC;refine waB (λ h=>?_) λ h=>?_
 .rw[qw]at h;rw[if_pos (by omega)];exact waz _
 rw[qx]at h;rw[if_neg (by omega)]
 have t:=qt (P:=λ i=>Ev (λ m k=>Js m k l i) (pvL (qez l i) (l.drop i))) l (by omega)
  (λ A=>by
   refine waF ?_;simp only[qoY,qfK];refine waD A (waE ?_);rw[wJ];rfl)
  (λ i x v D A p C B=>by
   refine waF ?_;simp only[qoY,qfK,qi];have H:=qfu (wb v);rw[qkS v]at B;rw[D,pvL];have c:=qEV (qez l i) x
   have b:∀e:Int,pvK (qez l i) x=e->e≠0->Ev (λ _ _=>some e) (thn (pvK (qez l i) x) (pvL (some x.1) (l.drop (i+1)))):=λ e z s=>by
    rw[z];exact waE (by unfold thn;rw[if_neg s])
   have d:pvK (qez l i) x=0->Ev (λ m k=>Js m k l ((i+1:Nat):Int)) (thn (pvK (qez l i) x) (pvL (some x.1) (l.drop (i+1)))):=λ z=>by
    rw[z];exact B.res (by unfold thn;rw[if_pos rfl])
   refine waC A (waA p (way (qaS x.1 (by omega)) (waB (λ r=>?_) λ r=>?_)))
   .rw[bnt,qh]at r;exact b _ (by rw[c,if_pos r]) r
   rw[bnf,qk]at r;rw[if_neg (by omega)]at c;refine waA p (way (qDV x.1) (waB (λ o=>?_) λ o=>?_))
   .exact b 1 (by rw[c,if_pos o]) (by decide)
   rw[if_neg (by rw[o];decide)]at c;refine waA p (waB (λ u=>?_) λ u=>?_)
   .rw[qk]at u;exact b 7 (by rw[c,if_pos (by omega)]) (by decide)
   rw[qh]at u;refine waA p (waB (λ n=>?_) λ n=>?_)
   .rw[qw]at n;exact b 7 (by rw[c,if_pos (by omega)]) (by decide)
   rw[qx]at n;refine waA p (waB (λ g=>?_) λ g=>?_)
   .rw[qw]at g;exact b 7 (by rw[c,if_pos (by omega)]) (by decide)
   rw[qx]at g;rw[if_neg (by omega)]at c;rw[C];refine waB (λ s=>?_) λ s=>?_
   .rw[qw]at s;obtain⟨j,rfl⟩:∃j,i=j+1:=⟨i-1,by omega⟩
    have y:j<l.length:=by have:=(List.getElem?_eq_some_iff.1 v).1;omega
    obtain⟨q,w⟩:∃q,l[j]?=some q:=⟨_,List.getElem?_eq_getElem y⟩
    have G:=qfu (wb w);rw[qkS w]at c b d |-
    simp only at c;refine waA (a:=q) (by rw[show zX ((j+1:Nat):Int) 1=((j:Nat):Int)from by unfold zX;omega,jN (by omega),zF,w]) (waA p (way (qjd q.1 (by omega) x.1 (by omega)) (waB (λ f=>?_) λ f=>?_)))
    .rw[qaF]at f;exact b 5 (by rw[c,if_pos f]) (by decide)
    .rw[JR]at f;exact d (by rw[c,if_neg (by omega)])
   .rw[qx]at s;have:i=0:=by omega
    subst this;exact d (by rw[c];rfl))
 refine waH (L:=λ m k=>Js m k l 0) ?_;exact t 0 (wg _)
end Go.AmZ
namespace Go.AmZ
open Go Go.GxZ
theorem qw2(A:List T)(x:T)(h:(A.take 9).length<9):A.take 9++[x]=(A++[x]).take 9:=by
 rw[wo]at h;rw[kV (by omega),kV (by rw[wd];simp only[wx,wT];omega)]
theorem qwB(A B:List T)(h:¬ (A.take 9).length<9):A.take 9=(A++B).take 9:=by
 rw[wo]at h;rw[kT (by omega)]
theorem qNM(l:List Pw)(C:l.length<=1000)(u:∀p∈l,p.2.natAbs<=1000):Ev (λ m _=>qfF m l) ((yw l++yz l).take 9):=by
 refine waG ?_;simp only[qut,qcv];have t:∀A:List T,(A.take 9).length<=9:=λ A=>by rw[wo];omega
 have w:=qt (P:=λ i=>Ev (λ m k=>(qm m k).2.2.1 l i ((yw l++yz (l.take i)).take 9)) ((yw l++yz l).take 9)) l (by omega)
  (λ g=>by
   refine waF ?_;simp only[qks,qcB];refine waD g ?_;rw[wF];exact waz _)
  (λ i p o z g e q n=>by
   refine waF ?_;simp only[qks,qcB];refine waC g ?_;have r:=u p (wb o);rw[yt o,qvz,quT,<-wn]at n;generalize yw l++yz (l.take i)=A at *;have b:iw .i64 (zX 0 p.2)=-p.2:=by unfold zX;rw[jN (by omega)];omega
   have v:=qqr (P:=λ j=>Ev (λ m k=>(qm m k).2.2.2 l i j ((A++List.replicate j (apT QY [p.1])).take 9)) ((yw l++yz l).take 9)) (-p.2) (by omega)
    (by
     refine waF ?_;simp only[qkp,qcG,qi];refine waA e (waD (by rw[b,qx];omega) ?_);rw[q];exact n)
    (λ j s c a=>by
     refine waF ?_;simp only[qkp,qcG,qi];rw[vj,<-wn]at a;have B:=t (A++List.replicate j (apT QY [p.1]));refine waA e (waC (by rw[b,qw];exact s) (waB (λ h=>?_) λ h=>?_))
     .rw[qw]at h;refine waA e (way (qfq [105,110,118] [p.1] (by simp)) (waC (zd (by omega) (by omega)) ?_));rw[c];refine a.congr λ m k=>?_;rw[<-qw2 _ _ (by omega)];rfl
     .rw[qx]at h;rw[q];refine n.congr λ m k=>?_;obtain⟨d,f⟩:∃d,(-p.2).toNat=j+d:=⟨(-p.2).toNat-j,by omega⟩
      rw[f,<-vQ,<-wn,<-qwB (A++List.replicate j (apT QY [p.1])) _ (by omega)])
   have:=v 0 (wg _);rw[vm,wy]at this;exact this)
 have y:=qt (P:=λ i=>Ev (λ m k=>(qm m k).1 l i ((yw (l.take i)).take 9)) ((yw l++yz l).take 9)) l (by omega)
  (λ g=>by
   refine waF ?_;simp only[qkr,qcA];refine waD g ?_;rw[wF];have:=w 0 (wg _);rw[vc,show yz []=[]from rfl,wy]at this;exact this)
  (λ i p o z g e q n=>by
   refine waF ?_;simp only[qkr,qcA];refine waC g ?_;have r:=u p (wb o);rw[yt o,qvG,qu6]at n;generalize yw (l.take i)=A at*
   have x:=qqr (P:=λ j=>Ev (λ m k=>(qm m k).2.1 l i j ((A++List.replicate j p.1).take 9)) ((yw l++yz l).take 9)) p.2 (by omega)
    (by
     refine waF ?_;simp only[qkz,qcw,qi];refine waA e (waD (by rw[qx];omega) ?_);rw[q];exact n)
    (λ j s c a=>by
     refine waF ?_;simp only[qkz,qcw,qi];rw[vj,<-wn]at a;have B:=t (A++List.replicate j p.1);refine waA e (waC (by rw[qw];exact s) (waB (λ h=>?_) λ h=>?_))
     .rw[qw]at h;refine waA e (waC (zd (by omega) (by omega)) ?_);rw[c];refine a.congr λ m k=>?_;rw[<-qw2 _ _ (by omega)]
     .rw[qx]at h;rw[q];refine n.congr λ m k=>?_;obtain⟨d,f⟩:∃d,p.2.toNat=j+d:=⟨p.2.toNat-j,by omega⟩
      rw[f,<-vQ,<-wn,<-qwB (A++List.replicate j p.1) _ (by omega)])
   have:=x 0 (wg _);rw[vm,wy]at this;exact this)
 refine waH (L:=λ m k=>(qm m k).1 l 0 []) ?_;exact y 0 (wg _)
theorem qRc(S:Nat):∀l:List Pw,(∀p∈l,size p.1<=S)->(∀x∈yw l,size x<=S)/\∀x∈yz l,size x<=1+S:=by
 intro l h;refine⟨λ x a=>?_,λ x a=>?_⟩
 .unfold yw at a;let⟨p,b,a⟩:=kh.1 a;rw[xO a];exact h p b
 .unfold yz at a;let⟨p,b,a⟩:=kh.1 a;rw[xO a,qCZ];have:=h p b;omega
theorem qL0(S:Nat):∀l:List T,(∀x∈l,size x<=S)->szL l<=l.length*S
 |[],_=>by simp[szL]
 |x::l,h=>by
   have c:=qL0 S l λ q a=>h q (we _ a);have b:=h x (wh ..);rw[zr,wx,wU];omega
theorem qEr(l:List Pw)(q:szP l<=1000000000):Ev (λ m _=>qde m l) (qbt l):=by
 refine waG ?_;simp only[qDr,qj9,qi];refine way (qvC l q) (waB (λ h=>?_) λ h=>?_)
 .rw[bnt,qh]at h;unfold qbt;rw[if_pos h];exact waz _
 rw[bnf,qk]at h;let⟨_,j,y,w⟩:=qb8 h;have f:∀p∈l,size p.1<=400:=λ p s=>QS (w p s).1;rw[qsJ h];let⟨n,k⟩:=qRc 400 l f
 have d:∀x∈yw l++yz l,size x<=401:=λ x c=>by
  obtain c|c:=wj.1 c
  .have:=n x c;omega
  .exact k x c
 refine way (qNM l (by omega) y) ?_;generalize yw l++yz l=A at *;unfold qnJ;refine waB (λ g=>?_) λ g=>?_
 .rw[qw,wo]at g;rw[if_pos (by omega)];exact waz _
 rw[qx,wo]at g;rw[if_neg (by omega),kV (by omega)];have z:=qL0 401 A d;have t:=qIa A;have B:A.length*401<=8*401:=wu _ (by omega)
 have b:∀u:T,u=qan A->Ev (λ m _=>qb (yA m u) λ v=>cond (qg (ieq v 0)) (some (T.mk 0 [] 0 [],v)) (some (u,0))) (if qB (qan A)≠0 then(zT,qB (qan A))else(qan A,0)):=by
  intro u o;subst o;refine way (qaS _ (by omega)) (waB (λ h=>?_) λ h=>?_)
  .rw[bnt,qh]at h;rw[if_pos h];exact waz _
  .rw[bnf,qk]at h;rw[if_neg (by omega)];exact waz _
 refine way (qfq [109,117,108] A (by omega)) (waB (λ i=>?_) λ i=>?_)
 .rw[qk]at i;refine way (qfq [111,110,101] [] (by simp)) (waD (qh.2 (by omega)) (b _ (by unfold qan;rw[if_pos (by omega)];rfl)))
 .rw[qh]at i;refine waB (λ e=>?_) λ e=>?_
  .rw[qk]at e;refine waA (a:=A.getD 0 zT) ?_ (b _ (by unfold qan;rw[if_neg (by omega),if_pos (by omega)]));rw[J3,List.getD_eq_getElem?_getD];cases A with
   |nil=>simp at e
   |cons x r=>rfl
  .rw[qh]at e;exact b _ (by unfold qan;rw[if_neg (by omega),if_neg (by omega)];rfl)
theorem qKu(l:List Pw)(n:l.length<=1000000000):Ev (λ m _=>qgG m l) (if qn7 l then 7 else if 200<l.length then 3 else 0):=by
 refine waG ?_;simp only[qxT,qdo]
 have b:=qt (P:=λ i=>Ev (λ m k=>Q8 m k l i) (if qn7 (l.drop i)then(7:Int)else if 200<l.length then 3 else 0)) l (by omega)
  (λ c=>by
   refine waF ?_;simp only[qlr,qdy];rw[wJ,if_neg (by decide)];refine waD c (waB (λ h=>?_) λ h=>?_)
   .rw[qw]at h;rw[if_pos (by omega)];exact waz _
   .rw[qx]at h;rw[if_neg (by omega)];exact waz _)
  (λ i p j f c d e g=>by
   refine waF ?_;simp only[qlr,qdy];rw[f,qAv];refine waC c (waA d (waB (λ h=>?_) λ h=>?_))
   .rw[qw]at h;rw[decide_eq_true h,xh,xh,if_pos rfl];exact waz _
   .rw[qx]at h;rw[decide_eq_false (show ¬ p.2 < -1000 by omega),xq];refine waA d (waB (λ a=>?_) λ a=>?_)
    .rw[qw]at a;rw[decide_eq_true a,xh,if_pos rfl];exact waz _
    .rw[qx]at a;rw[decide_eq_false (show ¬ 1000<p.2 by omega),xq,e];exact g)
 refine waH (L:=λ m k=>Q8 m k l 0) ?_;exact(b 0 (wg _)).res (by rw[wH])
theorem qQZ(a b:List Pw)(E:szP a<=100000000)(D:szP b<=100000000):Ev (λ m _=>qmV m a b) (qnT a b):=by
 have B:=qda b;have v:=qda a;refine waG ?_;simp only[qHc,qif];rw[qye];refine way (qvC a (by omega)) (waB (λ h=>?_) λ h=>?_)
 .rw[bnt,qh]at h;rw[if_pos h];exact waz _
 rw[bnf,qk]at h;rw[if_neg (by omega)];refine way (qvC b (by omega)) (waB (λ e=>?_) λ e=>?_)
 .rw[bnt,qh]at e;rw[if_pos e];exact waz _
 rw[bnf,qk]at e;rw[if_neg (by omega)]
 have g:=qt (P:=λ i=>Ev (λ m k=>qaR m k b i (Ja a (b.take i))) (qqD (Ja a b))) b (by omega)
  (λ j=>by
   refine waF ?_;simp only[qso,qic];rw[wF];let⟨_,q,_,_⟩:=qio h e b.length;rw[wF]at q;refine waD j (way (qKu _ (by omega)) ?_);unfold qqD;by_cases f:qn7 (Ja a b)=true
   .rw[if_pos f,if_pos f];exact waC rfl (waz _)
   .rw[if_neg f,if_neg f];by_cases d:200<(Ja a b).length
    .rw[if_pos d,if_pos d];exact waC rfl (waz _)
    .rw[if_neg d,if_neg d];exact waD rfl (waz _))
  (λ i p l C j o w y=>by
   refine waF ?_;simp only[qso,qic,qi];have n:=wb l;let⟨z,q,G,F⟩:=qio h e i;let⟨_,_,u,s⟩:=qb8 e;have A:=QS (s p n).1;have t:=u p n;refine waC j (waA o (waA o (way (qIv z p.1 p.2 (by omega) (by omega)) ?_)));rw[w];refine y.congr λ m k=>?_;rw[yt l,qAO])
 refine waC (zd (by simp only[wT];omega) (by omega)) ?_;have c:Ev (λ m _=>qaR m m b 0 a) (qqD (Ja a b)):=waH (L:=λ m k=>qaR m k b 0 a) (g 0 (wg _));exact Ev.case (λ h=>by rw[h]at c |-;exact c) λ x r h=>by rw[h]at c |-;exact c
end Go.AmZ
namespace Go.AmZ
open Go Go.GxZ Go.Lib
theorem qjQ{t:T}(h:qac t=0):qB t=0/\zy t=0:=by
 unfold qac at h;exact qg5 h
theorem qp6{t:T}(h:zy t=0){n:List UInt8}(i:isN t n=true){a b c:Int}(g:qE n=(a,b,c)):a<=(t.kids.length:Int)/\(t.kids.length:Int)<=b/\∀k∈t.kids,zy k=0:=by
 obtain⟨d,rfl⟩:=yT.1 i;let⟨l,j⟩:=qhf d h;let⟨_,f,e,_⟩:=qFG d l;rw[g]at f e;exact⟨f,e,j⟩
end Go.AmZ
namespace Go.AmZ
open Go Go.GxZ
def Cl(P:T->Prop):Prop:=∀t:T,t.kind=3->P t->∀k∈t.kids,P k
theorem qmL:∀(n:Nat) (a b:List T),a.length+b.length<=n->∀x∈zt a b,x∈a\/x∈b
 |_,[],b,_,x,h=>by rw[zt]at h;exact .inr h
 |_,z::a,[],_,x,h=>by rw[zt]at h;exact .inl h
 |0,z::a,y::b,c,x,h=>by simp at c
 |n+1,z::a,y::b,c,x,h=>by
   simp only[wx]at c;rw[zt]at h;split at h
   .obtain rfl|h:=wv.1 h
    .grind
    .rcases qmL n a (y::b) (by simp;omega) x h with h|h
     .grind
     .exact .inr h
   .split at h
    .obtain rfl|h:=wv.1 h
     .grind
     .rcases qmL n (z::a) b (by simp;omega) x h with h|h
      .exact .inl h
      .grind
    .obtain h|h:=qmL n a b (by omega) x h
     .grind
     .grind
theorem qlD:∀(b:List (List T)) (a:List T),∀x∈b.foldl zt a,x∈a\/∃l∈b,x∈l
 |[],a,x,h=>.inl h
 |l::b,a,x,h=>by
   obtain h|⟨m,c,h⟩:=qlD b (zt a l) x h
   .obtain h|h:=qmL _ a l (wa _) x h
    .exact .inl h
    .grind
   .grind
theorem qPi{P:T->Prop}(g:Cl P)(t:T):P t->∀x∈Qi t,P x:=by
 refine T.ind (P:=λ t=>P t->∀x∈Qi t,P x) ?_ t;intro t c d x a;rw[qlv]at a;split at a
 .cases a
 .split at a
  .rename_i e;obtain h|⟨l,f,h⟩:=qlD _ _ x a
   .cases h
   .obtain⟨k,b,rfl⟩:=wC.1 f;exact c k b (g t (yT.1 e).1 d k b) x h
  .grind
theorem qAn{P:T->Prop}(d:Cl P){l:List T}(h:∀k∈l,P k):∀x∈yf l,P x:=by
 intro x b;obtain a|⟨m,c,a⟩:=qlD _ _ x b
 .cases a
 .grind [qPi]
theorem qQb{P:T->Prop}{l:List Pw}{t:T}(n:Int)(a:P t)(c:∀p∈l,P p.1):∀p∈yK l t n,P p.1:=by
 intro p b;grind [qo7]
theorem qQd{P:T->Prop}(f:Cl P)(t:T):P t->∀(l:List Pw) (n:Int),(∀p∈l,P p.1)->∀p∈jM t l n,P p.1:=by
 refine T.ind (P:=λ t=>P t->∀(l:List Pw) (n:Int),(∀p∈l,P p.1)->∀p∈jM t l n,P p.1) ?_ t;intro t d b l n a;rw[qhn];split
 .rename_i e;have g:=(qth.1 e).1;exact qIp t.kids (qbq t n) (λ l=>∀p∈l,P p.1) (λ k c l a=>d k c (f t g b k c) l _ a) l a
 .exact qQb n b a
theorem qjD{P:T->Prop}(c:Cl P){t:T}(a:P t):∀p∈(ofP t).1,P p.1:=by
 intro p b;grind [ofP,qQd]
theorem qIC{P:T->Prop}{a b:List Pw}(d:∀p∈a,P p.1)(c:∀p∈b,P p.1):∀p∈(qnT a b).1,P p.1:=by
 grind [qnT,quS]
theorem qEm{l:List Pw}{x:T}(h:x∈yw l):∃p∈l,x=p.1:=by
 grind [yw]
theorem qEC{l:List Pw}{x:T}(h:x∈yz l):∃p∈l,x=apT QY [p.1]:=by
 grind [yz]
theorem qaa:Cl λ t=>zy t=0:=λ t a h=>(qhf a h).2
theorem qr9:∀(l:List Int),(∀y∈l,y=0)->l.foldl thn 0=0
 |[],_=>rfl
 |z::l,h=>by
   rw[QP,h z (wh ..)];exact qr9 l λ y a=>h y (we _ a)
theorem qjI{t:T}(h:qcU t=0)(a:∀k∈t.kids,zy k=0):zy t=0:=by
 grind [qok,qr9]
theorem qgY{n:List UInt8}{ks:List T}(d:(qE n).2.2≠0)(c:(qE n).1<=(ks.length:Int))(b:(ks.length:Int)<=(qE n).2.1)(a:qaP (apT n ks)=false):qcU (apT n ks)=0:=by
 unfold qcU;show(if(3:Int)≠3 then(0:Int)else if(qE n).2.2=0 then 10 else if(ks.length:Int)<(qE n).1\/(qE n).2.1<(ks.length:Int)then 6 else if qaP (apT n ks)then 10 else 0)=0;grind
theorem qll{n:List UInt8}(c:n≠qhV)(b:n≠nSk)(a:n≠qvt)(ks:List T):qaP (apT n ks)=false:=by
 unfold qaP;rw[if_neg (show ¬ (apT n ks).name=qhV from c),if_neg (show ¬ ((apT n ks).name=nSk\/(apT n ks).name=qvt)from λ h=>h.elim b a)]
theorem qdT:zy zT=0:=by rw[qok];rfl
theorem qbj{P:T->Prop}(b:Cl P)(d:P zT){t:T}(c:t.kind=3)(a:P t)(i:Nat):P (kid t i):=by
 by_cases h:i<t.kids.length
 .exact b t c a _ (qIq h)
 .grind [kid]
theorem qKA{t:T}(b:t.kind=3)(h:qB t=0):t.kids.length<=8:=by
 unfold qB at h;split at h
 .rename_i a;exact absurd h a
 .rename_i a;have c:=(qt5 (t:=t) (by omega)).1;grind [jS,qjg]
theorem qAT{l:List Pw}(f:∀p∈l,zy p.1=0)(h:(qbt l).2=0):zy (qbt l).1=0:=by
 by_cases c:JC l=0
 .rw[qsJ c]at h |-
  unfold qnJ at h |-
  by_cases e:8<(yw l++yz l).length
  .rw[if_pos e]at h;cases h
  rw[if_neg e]at h |-
  by_cases g:qB (qan (yw l++yz l))=0
  .rw[if_neg (by omega)]
   have a:∀x∈yw l++yz l,zy x=0:=λ x b=>by
    obtain b|b:=wj.1 b
    .grind [qEm]
    .obtain⟨p,c,rfl⟩:=qEC b;exact qjI (qgY (by decide) (by show(1:Int)<=1;decide) (by show(1:Int)<=1;decide) (qll (by decide) (by decide) (by decide) _)) λ k d=>by rw[wD.1 d];exact f p c
   generalize yw l++yz l=o at *;unfold qan;split
   .exact qjI (qgY (by decide) (by show(0:Int)<=0;decide) (by show(0:Int)<=0;decide) (qll (by decide) (by decide) (by decide) _)) λ k d=>by cases d
   .split
    .grind
    .rename_i j i;exact qjI (qgY (by decide) (by show(2:Int)<=_;omega) (by show _<=(8:Int);omega) (qll (by decide) (by decide) (by decide) _)) a
  .grind
 .grind [qbt]
theorem qEo{b:T}{l:List Pw}(d:zy b=0)(f:∀p∈l,zy p.1=0)(h:(qiY b l).2=0):zy (qiY b l).1=0:=by
 unfold qiY at h |-
 split at h
 .grind
 .rename_i e;rw[if_neg e];split at h
  .rename_i a;exact absurd h a
  .rename_i a;rw[if_neg a];refine qjI (qgY (by decide) (by show(2:Int)<=2;decide) (by show(2:Int)<=2;decide) (qll (by decide) (by decide) (by decide) _)) λ k c=>?_;obtain rfl|c:=wv.1 c
   .exact d
   .grind [List.mem_singleton,qAT]
theorem qOP{n:List UInt8}{ks:List T}(h:∀k∈ks,zy k=0)(A:qcU (apT n ks)=0)(a:(J5 (apT n ks)).2=0):zy (J5 (apT n ks)).1=0:=by
 have f:zy (apT n ks)=0:=qjI A h;unfold J5 at a |-
 by_cases w:isD (apT n ks).name=true
 .rw[if_pos w];show zy (ql3 _)=0;unfold ql3;split
  .rename_i c
   have m:(kid (apT n ks) 0).kind=3:=by
    unfold yq at c;split at c
    .exact(yT.1 c).1
    .split at c
     .rw[wc]at c;exact(yT.1 c.1).1
     .split at c
      .rw[wc,wc]at c;exact(yT.1 c.1.1).1
      .split at c
       .rw[wc,wc]at c;exact(yT.1 c.1.1).1
       .grind [yT]
   exact qbj qaa qdT m (qbj qaa qdT rfl f 0) _
  .exact f
 rw[if_neg w]at a |-
 by_cases s:(apT n ks).name=qbG
 .rw[if_pos s]at a |-
  unfold qpT at a |-
  split at a
  .rename_i d;exact absurd a d
  rename_i d;rw[if_neg d];split at a
  .cases a
  rename_i g;rw[if_neg g];show zy (qas (yf ks))=0
  have l:qB (qas (yf ks))=0:=by
   have:¬ qB (qas (yf (apT n ks).kids))≠0:=g;exact xd this
  have j:=qAn qaa h;generalize yf ks=o at *;unfold qas at l |-
  split
  .exact qjI (qgY (by decide) (by show(0:Int)<=0;decide) (by show(0:Int)<=0;decide) (qll (by decide) (by decide) (by decide) _)) λ k z=>by cases z
  .rename_i C;split
   .grind
   .rename_i B;rw[if_neg C,if_neg B]at l;have x:o.length<=8:=qKA (t:=apT qbG o) rfl l;exact qjI (qgY (by decide) (by show(2:Int)<=_;omega) (by show _<=(8:Int);omega) (qll (by decide) (by decide) (by decide) _)) j
 rw[if_neg s]at a |-
 by_cases u:(apT n ks).name=qdw\/(apT n ks).name=QY\/(apT n ks).name=qgP
 .rw[if_pos u]at a |-
  unfold qmK at a |-
  split at a
  .rename_i d;exact absurd a d
  rename_i d;rw[if_neg d];exact qAT (qjD qaa f) a
 rw[if_neg u]at a |-
 by_cases v:(apT n ks).name=qd4
 .rw[if_pos v]at a |-
  have p:=qbj qaa qdT (t:=apT n ks) rfl f 0;have r:=qbj qaa qdT (t:=apT n ks) rfl f 1;generalize kid (apT n ks) 0=b at *;generalize kid (apT n ks) 1=y at *;unfold qp2 at a |-
  split at a
  .rename_i d;exact absurd a d
  rename_i d;rw[if_neg d];split at a
  .rename_i e;rw[if_pos e];split at a
   .rename_i g;exact absurd a g
   rename_i g;rw[if_neg g];split at a
   .rename_i q;exact absurd a q
   rename_i q;rw[if_neg q];have i:=(yT.1 e).1;exact qEo (qbj qaa qdT i p 0) (qIC (P:=λ t=>zy t=0) (qjD qaa (qbj qaa qdT i p 1)) (qjD qaa r)) a
  .rename_i e;rw[if_neg e];exact qEo p (qjD qaa r) a
 .rw[if_neg v];exact f
theorem qlg:size zT=1:=by rw[qU];rfl
theorem qc1(t:T)(i:Nat):size (kid t i)<=size t:=by
 have:=size_pos t;by_cases h:i<t.kids.length
 .have:=yu t _ (qIq h);omega
 .grind [kid,List.getElem?_eq_none,qlg]
theorem qFy(l:List Pw):size (qbt l).1<=400:=by
 unfold qbt;have:=qlg;split
 .show size zT<=_;omega
 .split
  .show size zT<=_;omega
  .split
   .show size zT<=_;omega
   .rename_i h;exact QS (xd h)
theorem qQr(b:T)(l:List Pw):size (qiY b l).1<=401+size b:=by
 unfold qiY;have:=qlg;have:=qFy l;split
 .show size b<=_;omega
 .split
  .show size zT<=_;omega
  .rw[qU];show 1+(size b+(size (qbt l).1+0))<=_;omega
theorem qQx(n:List UInt8)(ks:List T):size (J5 (apT n ks)).1<=402+szL ks:=by
 have a:=qlg;have b:size (apT n ks)=1+szL ks:=qU _;unfold J5;split
 .grind [ql3,qc1]
 .split
  .unfold qpT;split
   .show size zT<=_;omega
   .split
    .show size zT<=_;omega
    .have e:=qHw (yf (apT n ks).kids);have d:=qeR (apT n ks).kids;have c:szL (apT n ks).kids=szL ks:=rfl;show size (qas _)<=_;omega
  .grind [qmK,qp2,qFy,qc1,qQr]
theorem qzr(t:T):size (zU t).1<=402*size t:=by
 refine T.ind (P:=λ t=>size (zU t).1<=402*size t) ?_ t;intro t b;have f:=qlg;have g:=size_pos t;rw[qoV];split
 .show size t<=_;omega
 .split
  .show size zT<=_;omega
  .have e:=qQx t.name ((t.kids.map zU).map (·.1))
   have d:szL ((t.kids.map zU).map (·.1))<=402*szL t.kids:=by
    have:∀l:List T,(∀k∈l,k∈t.kids)->szL ((l.map zU).map (·.1))<=402*szL l:=by
     intro l
     induction l with
     |nil=>intro _;exact wa _
     |cons k l a=>
       intro h;have e:=b k (h k (wh ..));have d:=a λ x c=>h x (we _ c);rw[wk,wk,zr,zr];omega
    exact this t.kids λ _ h=>h
   have i:size t=1+szL t.kids:=qU t;omega
theorem qud:∀(l:List Int),l.foldl thn 0=0->∀y∈l,y=0
 |[],_,y,a=>by cases a
 |z::l,h,y,a=>by
   rw[QP]at h;by_cases b:z=0
   .subst b;obtain rfl|a:=wv.1 a
    .rfl
    .exact qud l h y a
   .grind [qS]
theorem qjN{t:T}(h:t.kind≠3):zU t=(t,0):=by rw[qoV,if_pos h]
theorem qOO{t:T}(d:t.kind=3)(h:(zU t).2=0):(∀k∈t.kids,(zU k).2=0)/\zU t=J5 (apT t.name ((t.kids.map zU).map (·.1))):=by
 rw[qoV,if_neg (λ c=>c d)]at h |-
 split at h
 .rename_i a;exact absurd h a
 .rename_i a;rw[if_neg a];refine⟨λ k b=>?_,rfl⟩;exact qud _ (xd a) _ (wC.2 ⟨_,wC.2 ⟨k,b,rfl⟩,rfl⟩)
theorem qPB(l:List T)(h:∀k∈l,k.kind≠3):(l.map zU).map (·.1)=l:=by
 induction l with
 |nil=>rfl
 |cons k l a=>
   grind [qjN,List.mem_cons_self,List.mem_cons_of_mem]
theorem qFA{t:T}(i:t.kind=3)(h:qcU t=0):qcU (apT t.name ((t.kids.map zU).map (·.1)))=0:=by
 let⟨l,j,g,a⟩:=qFG i h;refine qgY l (by simpa using j) (by simpa using g) ?_;unfold qaP at a |-
 show(if t.name=qhV then decide ((kid (apT t.name ((t.kids.map zU).map (·.1))) 0).kind≠2)else if t.name=nSk\/t.name=qvt then((t.kids.map zU).map (·.1)).any λ k=>decide (k.kind=3)||decide (k.sort≠1)else false)=false;split
 .rename_i c;rw[if_pos c]at a;have b:(kid t 0).kind=2:=by simpa using a
  cases d:t.kids with
  |nil=>
    unfold kid at b;rw[d]at b;exact absurd b (by decide)
  |cons x r=>
    have e:kid t 0=x:=by unfold kid;rw[d];rfl
    rw[e]at b;show decide ((zU x).1.kind≠2)=false;grind [qjN]
 .rename_i c;rw[if_neg c]at a;split
  .rename_i f;rw[if_pos f]at a;grind [qPB,List.any_eq_false]
  .rfl
theorem qPp(t:T):zy t=0->(zU t).2=0->zy (zU t).1=0:=by
 refine T.ind (P:=λ t=>zy t=0->(zU t).2=0->zy (zU t).1=0) ?_ t;grind [qOO,qhf,qOP,qFA,qjN]
end Go.AmZ
namespace Go.AmZ
open Go Go.GxZ
theorem zJ(t:T){b:Bool}(h:yq t=b):ql3 t=if b then kid (kid t 0) (if t.name=qDS then 1 else 0)else t:=by unfold ql3;rw[h]
theorem qcP{t:T}(h:zy t=0){n:List UInt8}(e:isN t n=true){a b c:Int}(d:qE n=(a,b,c)){i:Nat}(f:(i:Int)<a):qd t.kids (i:Int)=some (kid t i):=by
 have:=(qp6 h e d).1;exact qz3 (by omega)
theorem qKi(t:T)(J:t.kind=3)(I:zy t=0)(D:isD t.name=true)(L:size t<=1000000000):Ev (λ m _=>qc7 m t) (ql3 t):=by
 have B:∀i,size (kid t i)<=size t:=qc1 t;have r:∀i j,size (kid (kid t i) j)<=1000000000:=λ i j=>by have:=qc1 (kid t i) j;have:=B i;omega
 have v:∀i j k,size (kid (kid (kid t i) j) k)<=1000000000:=λ i j k=>by have:=qc1 (kid (kid t i) j) k;have:=r i j;omega
 have f:∀i,zy (kid t i)=0:=λ i=>qbj qaa qdT J I i;have x:∀i j,(kid t i).kind=3->zy (kid (kid t i) j)=0:=λ i j h=>qbj qaa qdT h (f i) j;have A:isN t t.name=true:=yT.2 ⟨J,rfl⟩;have H:∀{u:T}{n:List UInt8},zy u=0->isN u n=true->∀{b c:Int},qE n=(1,b,c)->qd u.kids 0=some (kid u 0):=λ h d _ _ e=>qcP (i:=0) h d e (by decide);have q:∀{u:T}{n:List UInt8},zy u=0->isN u n=true->∀{b c:Int},qE n=(2,b,c)->qd u.kids 0=some (kid u 0):=λ h d _ _ e=>qcP (i:=0) h d e (by decide);have p:∀{u:T}{n:List UInt8},zy u=0->isN u n=true->∀{b c:Int},qE n=(2,b,c)->qd u.kids 1=some (kid u 1):=λ h d _ _ e=>qcP (i:=1) h d e (by decide);have E:qE qp9=(2,2,1):=by decide
 have G:qE qql=(2,2,1):=by decide
 have z:qE qjk=(2,2,1):=by decide
 have F:qE nPk=(1,1,1):=by decide
 have y:qE qfD=(2,2,1):=by decide
 unfold isD at D;simp only[wY,beq_iff_eq]at D;refine waG ?_;simp only[quV,qf5,qi]
 have l:∀{a b c:Int},qE t.name=(a,b,c)->a=b->(t.kids.length:Int)=a:=λ e K=>by
  have:=qp6 I A e;omega
 obtain ((((d|d)|d)|d)|d)|d:=D
 .have w:=l (a:=1) (b:=1) (c:=3) (by rw[d];decide) rfl;refine waA (qeo (by omega)) (waD (qx.2 (by omega)) (waC (by rw[d];rfl) (way (qkV _ _) ?_)));have g:yq t=isN (kid t 0) qp9:=by unfold yq;rw[if_pos (.inl d)]
  refine waB (λ h=>?_) λ h=>?_
  .refine waA (q (f 0) h E) (waE ?_);rw[zJ t (g.trans h),if_pos rfl,if_neg (by rw[d];decide)]
  .refine waE ?_;rw[zJ t (g.trans h),if_neg (by decide)]
 .have w:=l (a:=1) (b:=1) (c:=3) (by rw[d];decide) rfl;refine waA (qeo (by omega)) (waD (qx.2 (by omega)) (waD (by rw[d];rfl) (waC (by rw[d];rfl) (way (qkV _ _) ?_))));have g:yq t=isN (kid t 0) qp9:=by unfold yq;rw[if_pos (.inr d)]
  refine waB (λ h=>?_) λ h=>?_
  .refine waA (p (f 0) h E) (waE ?_);rw[zJ t (g.trans h),if_pos rfl,if_pos d]
  .refine waE ?_;rw[zJ t (g.trans h),if_neg (by decide)]
 .have w:=l (a:=2) (b:=2) (c:=3) (by rw[d];decide) rfl;refine waA (qeo (by omega)) (waC (qw.2 (by omega)) (waA (qtr (by omega)) (waD (by rw[d];rfl) (waD (by rw[d];rfl) (waC (by rw[d];rfl) (way (qkV _ _) ?_))))));have g:yq t=(isN (kid t 0) qql&&zi (kid (kid t 0) 1) (kid t 1)):=by unfold yq;rw[if_neg (by rw[d];decide),if_pos d]
  refine waB (λ h=>?_) λ h=>?_
  .refine waA (p (f 0) h G) (way (qph _ _ (r 0 1) (by have:=B 1;omega)) (waB (λ o=>?_) λ o=>?_))
   .refine waA (q (f 0) h G) (waE ?_);rw[zJ t (b:=true) (by rw[g,show isN (kid t 0) qql=true from h,o];rfl),if_pos rfl,if_neg (by rw[d];decide)]
   .refine waE ?_;rw[zJ t (b:=false) (by rw[g,o,xF]),if_neg (by decide)]
  .refine waE ?_;rw[zJ t (b:=false) (by rw[g,show isN (kid t 0) qql=false from h];rfl),if_neg (by decide)]
 .have w:=l (a:=2) (b:=2) (c:=3) (by rw[d];decide) rfl;refine waA (qeo (by omega)) (waC (qw.2 (by omega)) (waA (qtr (by omega)) (waD (by rw[d];rfl) (waD (by rw[d];rfl) (waD (by rw[d];rfl) (waC (by rw[d];rfl) (way (qkV _ _) ?_)))))));have g:yq t=(isN (kid t 0) qjk&&isN (kid (kid t 0) 1) nPk&&zi (kid (kid (kid t 0) 1) 0) (kid t 1)):=by unfold yq;rw[if_neg (by rw[d];decide),if_neg (by rw[d];decide),if_pos d]
  refine waB (λ h=>?_) λ h=>?_
  .have C:=(yT.1 h).1;refine waA (p (f 0) h z) (way (qkV _ _) (waB (λ o=>?_) λ o=>?_))
   .refine waA (p (f 0) h z) (waA (H (x 0 1 C) o F) (way (qph _ _ (v 0 1 0) (by have:=B 1;omega)) (waB (λ s=>?_) λ s=>?_)))
    .refine waA (q (f 0) h z) (waE ?_);rw[zJ t (b:=true) (by rw[g,show isN (kid t 0) qjk=true from h,show isN (kid (kid t 0) 1) nPk=true from o,s];rfl),if_pos rfl,if_neg (by rw[d];decide)]
    .refine waE ?_;rw[zJ t (b:=false) (by rw[g,s,xF]),if_neg (by decide)]
   .refine waE ?_;rw[zJ t (b:=false) (by rw[g,show isN (kid (kid t 0) 1) nPk=false from o,xF,kN]),if_neg (by decide)]
  .refine waE ?_;rw[zJ t (b:=false) (by rw[g,show isN (kid t 0) qjk=false from h];rfl),if_neg (by decide)]
 .have w:=l (a:=2) (b:=2) (c:=3) (by rw[d];decide) rfl;refine waA (qeo (by omega)) (waC (qw.2 (by omega)) (waA (qtr (by omega)) (waD (by rw[d];rfl) (waD (by rw[d];rfl) (waD (by rw[d];rfl) (waD (by rw[d];rfl) (waC (by rw[d];rfl) (way (qkV _ _) ?_))))))));have g:yq t=(isN (kid t 0) qfD&&isN (kid t 1) nPk&&zi (kid (kid t 0) 1) (kid (kid t 1) 0)):=by unfold yq;rw[if_neg (by rw[d];decide),if_neg (by rw[d];decide),if_neg (by rw[d];decide),if_pos d]
  refine waB (λ h=>?_) λ h=>?_
  .refine way (qkV _ _) (waB (λ o=>?_) λ o=>?_)
   .refine waA (p (f 0) h y) (waA (H (f 1) o F) (way (qph _ _ (r 0 1) (r 1 0)) (waB (λ s=>?_) λ s=>?_)))
    .refine waA (q (f 0) h y) (waE ?_);rw[zJ t (b:=true) (by rw[g,show isN (kid t 0) qfD=true from h,show isN (kid t 1) nPk=true from o,s];rfl),if_pos rfl,if_neg (by rw[d];decide)]
    .refine waE ?_;rw[zJ t (b:=false) (by rw[g,s,xF]),if_neg (by decide)]
   .refine waE ?_;rw[zJ t (b:=false) (by rw[g,show isN (kid t 1) nPk=false from o,xF,kN]),if_neg (by decide)]
  .refine waE ?_;rw[zJ t (b:=false) (by rw[g,show isN (kid t 0) qfD=false from h];rfl),if_neg (by decide)]
 .have w:=l (a:=1) (b:=1) (c:=3) (by rw[d];decide) rfl;refine waA (qeo (by omega)) (waD (qx.2 (by omega)) (waD (by rw[d];rfl) (waD (by rw[d];rfl) (waD (by rw[d];rfl) (waD (by rw[d];rfl) (waD (by rw[d];rfl) (waC (by rw[d];rfl) (way (qkV _ _) ?_))))))));have g:yq t=isN (kid t 0) qfD:=by unfold yq;rw[if_neg (by rw[d];decide),if_neg (by rw[d];decide),if_neg (by rw[d];decide),if_neg (by rw[d];decide),if_pos d]
  refine waB (λ h=>?_) λ h=>?_
  .refine waA (q (f 0) h y) (waE ?_);rw[zJ t (g.trans h),if_pos rfl,if_neg (by rw[d];decide)]
  .refine waE ?_;rw[zJ t (g.trans h),if_neg (by decide)]
end Go.AmZ
namespace Go.AmZ
open Go Go.GxZ
def qf2:T->Prop:=T.para λ t a=>(t.kind=3->t.sort=0)/\∀p∈a,p
theorem qoD(t:T):qf2 t↔(t.kind=3->t.sort=0)/\∀k∈t.kids,qf2 k:=by
 have h:qf2 t=((t.kind=3->t.sort=0)/\∀p∈t.kids.map qf2,p):=T.para_eq _ _;rw[h];refine and_congr_right λ _=>⟨λ h k a=>h _ (kH a),λ h p b=>?_⟩
 grind
theorem qsB:Cl qf2:=λ t _ h=>((qoD t).1 h).2
theorem qDh:qf2 zT:=(qoD zT).2 ⟨λ h=>absurd h (by decide),λ _ h=>by cases h⟩
theorem qHX(n:List UInt8)(ks:List T)(h:∀k∈ks,qf2 k):qf2 (apT n ks):=(qoD _).2 ⟨λ _=>rfl,h⟩
theorem qIQ{t:T}(a:t.kind=3)(h:jS t=0):t.sort=0:=by
 grind [jS,qjg]
theorem qLj(t:T):Qm t=0->qf2 t:=by
 refine T.ind (P:=λ t=>Qm t=0->qf2 t) ?_ t;grind [qt5,qoD,qIQ]
theorem qG6{t:T}(h:qB t=0):Qm t=0:=by
 grind [qB]
theorem qQo{P:T->Prop}(j:Cl P)(d:P zT)(v:∀n ks,(∀k∈ks,P k)->P (apT n ks)){n:List UInt8}{ks:List T}(m:∀k∈ks,P k):P (J5 (apT n ks)).1:=by
 have g:=v n ks m;have a:∀{t:T} (i:Nat),P t->t.kind=3->P (kid t i):=λ i h z=>qbj j d z h i
 have f:∀l:List Pw,(∀p∈l,P p.1)->P (qbt l).1:=by
  intro l B;unfold qbt;split
  .exact d
  .split
   .exact d
   .split
    .exact d
    .have q:∀x∈yw l++yz l,P x:=λ x A=>by
       grind [qEm,qEC,List.mem_singleton]
     grind [qan]
 have e:∀(b:T) (l:List Pw),P b->(∀p∈l,P p.1)->P (qiY b l).1:=by
  grind [qiY]
 unfold J5;split
 .show P (ql3 _);unfold ql3;split
  .rename_i c
   have r:(kid (apT n ks) 0).kind=3:=by
    unfold yq at c;split at c
    .exact(yT.1 c).1
    .split at c
     .rw[wc]at c;exact(yT.1 c.1).1
     .split at c
      .rw[wc,wc]at c;exact(yT.1 c.1.1).1
      .split at c
       .rw[wc,wc]at c;exact(yT.1 c.1.1).1
       .grind [yT]
   exact a _ (a 0 g rfl) r
  .exact g
 .split
  .unfold qpT;split
   .exact d
   .split
    .exact d
    .have q:=qAn j m;show P (qas (yf ks));grind [qas]
  .split
   .unfold qmK;split
    .exact d
    .exact f _ (qjD j g)
   .split
    .have u:=a (t:=apT n ks) 0 g rfl;have w:=a (t:=apT n ks) 1 g rfl;generalize kid (apT n ks) 0=b at *;generalize kid (apT n ks) 1=y at *;unfold qp2;split
     .exact d
     .split
      .rename_i s;have o:=(yT.1 s).1;split
       .exact d
       .split
        .exact d
        .exact e _ _ (a 0 u o) (qIC (qjD j (a 1 u o)) (qjD j w))
      .exact e _ _ u (qjD j w)
    .exact g
theorem qPP{P:T->Prop}(d:Cl P)(b:P zT)(a:∀n ks,(∀k∈ks,P k)->P (apT n ks))(t:T):P t->P (zU t).1:=by
 refine T.ind (P:=λ t=>P t->P (zU t).1) ?_ t;intro t e h;rw[qoV];split
 .exact h
 .rename_i i;split
  .exact b
  .refine qQo d b a λ k g=>?_;obtain⟨q,f,rfl⟩:=wC.1 g;obtain⟨j,c,rfl⟩:=wC.1 f;exact e j c (d t (xd i) h j c)
theorem qHY{u x:T}(m:zy u=0)(l:qf2 u):zi u (apT nPk [x])=(isN u nPk&&zi (kid u 0) x):=by
 rw[xB,wc,ym,ym];constructor
 .rintro rfl;exact⟨yT.2 ⟨rfl,rfl⟩,rfl⟩
 .rintro⟨h,j⟩;let⟨f,g⟩:=yT.1 h;have e:=qp6 m h (a:=1) (b:=1) (c:=1) (by decide);have d:=((qoD u).1 l).1 f;cases u with
  |mk k n so ks=>
    have f:k=3:=f;have g:n=nPk:=g;have d:so=0:=d
    have i:ks.length=1:=by
     have h:(1:Int)<=(ks.length:Int):=e.1;have j:(ks.length:Int)<=1:=e.2.1;omega
    cases ks with
    |nil=>cases i
    |cons y r=>
      cases r with
      |nil=>
        have:y=x:=j;subst f;subst g;subst d;subst this;rfl
      |cons z r=>simp at i
theorem qw9(a b:T):zi a b=zi b a:=by
 rw[xB,ym,ym];exact eq_comm
theorem qGE(t:T)(G:t.kind=3)(K:zy t=0)(E:qf2 t)(F:isD t.name=true)(M:size t<=900000000):Ev (λ m _=>qgK m t) (ql3 t,yq t):=by
 have B:∀i,size (kid t i)<=size t:=qc1 t;have s:∀i j,size (kid (kid t i) j)<=900000000:=λ i j=>by have:=qc1 (kid t i) j;have:=B i;omega
 have k:∀i,zy (kid t i)=0:=λ i=>qbj qaa qdT G K i;have A:∀i j,(kid t i).kind=3->zy (kid (kid t i) j)=0:=λ i j h=>qbj qaa qdT h (k i) j;have w:∀i,qf2 (kid t i):=λ i=>qbj qsB qDh G E i;have v:∀i j,(kid t i).kind=3->qf2 (kid (kid t i) j):=λ i j h=>qbj qsB qDh h (w i) j;have D:isN t t.name=true:=yT.2 ⟨G,rfl⟩;have p:∀{u:T}{n:List UInt8},zy u=0->isN u n=true->∀{b c:Int},qE n=(2,b,c)->qd u.kids 0=some (kid u 0):=λ h d _ _ e=>qcP (i:=0) h d e (by decide);have r:∀{u:T}{n:List UInt8},zy u=0->isN u n=true->∀{b c:Int},qE n=(2,b,c)->qd u.kids 1=some (kid u 1):=λ h d _ _ e=>qcP (i:=1) h d e (by decide);have H:qE qp9=(2,2,1):=by decide
 have I:qE qql=(2,2,1):=by decide
 have J:qE qjk=(2,2,1):=by decide
 have C:qE qfD=(2,2,1):=by decide
 unfold isD at F;simp only[wY,beq_iff_eq]at F;refine waG ?_;simp only[qxY,qgO,qi]
 have o:∀{a b c:Int},qE t.name=(a,b,c)->a=b->(t.kids.length:Int)=a:=λ e L=>by
  have:=qp6 K D e;omega
 have l:∀x:T,size (apT nPk [x])=1+size x:=λ x=>by rw[qU];show 1+(size x+0)=_;omega
 obtain ((((d|d)|d)|d)|d)|d:=F
 .have y:=o (a:=1) (b:=1) (c:=3) (by rw[d];decide) rfl;refine waA (qeo (by omega)) (waC (by rw[d];rfl) (way (ql7 _ _) ?_));have f:yq t=isN (kid t 0) qp9:=by unfold yq;rw[if_pos (.inl d)]
  refine waB (λ h=>?_) λ h=>?_
  .refine waA (p (k 0) h H) (waE ?_);rw[zJ t (f.trans h),if_pos rfl,if_neg (by rw[d];decide),f.trans h]
  .repeat (refine waD (by rw[d];rfl) ?_)
   refine waE ?_;rw[zJ t (f.trans h),if_neg (by decide),f.trans h]
 .have y:=o (a:=1) (b:=1) (c:=3) (by rw[d];decide) rfl;refine waA (qeo (by omega)) (waD (by rw[d];rfl) (waC (by rw[d];rfl) (way (ql7 _ _) ?_)));have f:yq t=isN (kid t 0) qp9:=by unfold yq;rw[if_pos (.inr d)]
  refine waB (λ h=>?_) λ h=>?_
  .refine waA (r (k 0) h H) (waE ?_);rw[zJ t (f.trans h),if_pos rfl,if_pos d,f.trans h]
  .repeat (refine waD (by rw[d];rfl) ?_)
   refine waE ?_;rw[zJ t (f.trans h),if_neg (by decide),f.trans h]
 .have y:=o (a:=2) (b:=2) (c:=3) (by rw[d];decide) rfl;refine waA (qeo (by omega)) (waD (by rw[d];rfl) (waD (by rw[d];rfl) (waC (by rw[d];rfl) (way (ql7 _ _) ?_))));have f:yq t=(isN (kid t 0) qql&&zi (kid (kid t 0) 1) (kid t 1)):=by unfold yq;rw[if_neg (by rw[d];decide),if_pos d]
  refine waB (λ h=>?_) λ h=>?_
  .refine waA (r (k 0) h I) (waA (qtr (by omega)) (way (QF _ _ (by have:=s 0 1;omega) (by have:=B 1;omega)) (waB (λ q=>?_) λ q=>?_)))
   .have g:yq t=true:=by rw[f,show isN (kid t 0) qql=true from h,q];rfl
    refine waA (p (k 0) h I) (waE ?_);rw[zJ t g,if_pos rfl,if_neg (by rw[d];decide),g]
   .have g:yq t=false:=by rw[f,q,xF]
    repeat (refine waD (by rw[d];rfl) ?_)
    refine waE ?_;rw[zJ t g,if_neg (by decide),g]
  .have g:yq t=false:=by rw[f,show isN (kid t 0) qql=false from h];rfl
   repeat (refine waD (by rw[d];rfl) ?_)
   refine waE ?_;rw[zJ t g,if_neg (by decide),g]
 .have y:=o (a:=2) (b:=2) (c:=3) (by rw[d];decide) rfl;refine waA (qeo (by omega)) (waD (by rw[d];rfl) (waD (by rw[d];rfl) (waD (by rw[d];rfl) (waC (by rw[d];rfl) (way (ql7 _ _) ?_)))));have f:yq t=(isN (kid t 0) qjk&&isN (kid (kid t 0) 1) nPk&&zi (kid (kid (kid t 0) 1) 0) (kid t 1)):=by unfold yq;rw[if_neg (by rw[d];decide),if_neg (by rw[d];decide),if_pos d]
  refine waB (λ h=>?_) λ h=>?_
  .have z:=(yT.1 h).1;refine waA (r (k 0) h J) (waA (qtr (by omega)) (way (qfq nPk [kid t 1] (by simp)) (way (QF _ _ (by have:=s 0 1;omega) (by rw[l];have:=B 1;omega)) ?_)));rw[qHY (A 0 1 z) (v 0 1 z)];refine waB (λ q=>?_) λ q=>?_
   .have g:yq t=true:=by rw[f,show isN (kid t 0) qjk=true from h,wV,q]
    refine waA (p (k 0) h J) (waE ?_);rw[zJ t g,if_pos rfl,if_neg (by rw[d];decide),g]
   .have g:yq t=false:=by rw[f,show isN (kid t 0) qjk=true from h,wV,q]
    repeat (refine waD (by rw[d];rfl) ?_)
    refine waE ?_;rw[zJ t g,if_neg (by decide),g]
  .have g:yq t=false:=by rw[f,show isN (kid t 0) qjk=false from h];rfl
   repeat (refine waD (by rw[d];rfl) ?_)
   refine waE ?_;rw[zJ t g,if_neg (by decide),g]
 .have y:=o (a:=2) (b:=2) (c:=3) (by rw[d];decide) rfl;refine waA (qeo (by omega)) (waD (by rw[d];rfl) (waD (by rw[d];rfl) (waD (by rw[d];rfl) (waD (by rw[d];rfl) (waC (by rw[d];rfl) (way (ql7 _ _) ?_))))));have f:yq t=(isN (kid t 0) qfD&&isN (kid t 1) nPk&&zi (kid (kid t 0) 1) (kid (kid t 1) 0)):=by unfold yq;rw[if_neg (by rw[d];decide),if_neg (by rw[d];decide),if_neg (by rw[d];decide),if_pos d]
  refine waB (λ h=>?_) λ h=>?_
  .refine waA (qtr (by omega)) (waA (r (k 0) h C) (way (qfq nPk [kid (kid t 0) 1] (by simp)) (way (QF _ _ (by have:=B 1;omega) (by rw[l];have:=s 0 1;omega)) ?_)));rw[qHY (k 1) (w 1),qw9 (kid (kid t 1) 0)];refine waB (λ q=>?_) λ q=>?_
   .have g:yq t=true:=by rw[f,show isN (kid t 0) qfD=true from h,wV,q]
    refine waA (p (k 0) h C) (waE ?_);rw[zJ t g,if_pos rfl,if_neg (by rw[d];decide),g]
   .have g:yq t=false:=by rw[f,show isN (kid t 0) qfD=true from h,wV,q]
    repeat (refine waD (by rw[d];rfl) ?_)
    refine waE ?_;rw[zJ t g,if_neg (by decide),g]
  .have g:yq t=false:=by rw[f,show isN (kid t 0) qfD=false from h];rfl
   repeat (refine waD (by rw[d];rfl) ?_)
   refine waE ?_;rw[zJ t g,if_neg (by decide),g]
 .have y:=o (a:=1) (b:=1) (c:=3) (by rw[d];decide) rfl;refine waA (qeo (by omega)) (waD (by rw[d];rfl) (waD (by rw[d];rfl) (waD (by rw[d];rfl) (waD (by rw[d];rfl) (waD (by rw[d];rfl) (waC (by rw[d];rfl) (way (ql7 _ _) ?_)))))));have f:yq t=isN (kid t 0) qfD:=by unfold yq;rw[if_neg (by rw[d];decide),if_neg (by rw[d];decide),if_neg (by rw[d];decide),if_neg (by rw[d];decide),if_pos d]
  refine waB (λ h=>?_) λ h=>?_
  .refine waA (p (k 0) h C) (waE ?_);rw[zJ t (f.trans h),if_pos rfl,if_neg (by rw[d];decide),f.trans h]
  .repeat (refine waD (by rw[d];rfl) ?_)
   refine waE ?_;rw[zJ t (f.trans h),if_neg (by decide),f.trans h]
end Go.AmZ
namespace Go.AmZ
open Go Go.GxZ
theorem qjE(t:T):szP (ofP t).1<=400:=by
 unfold ofP;split
 .exact wg _
 .rename_i h;split
  .exact wg _
  .split
   .exact wg _
   .have c:=qHS t [] 1;have b:=QS (xd h);have a:szP ([]:List Pw)=0:=rfl;grind
theorem qHK(a b:List Pw):szP (qnT a b).1<=160000:=by
 unfold qnT;split
 .exact wg _
 .rename_i d;split
  .exact wg _
  .rename_i c;split
   .exact wg _
   .split
    .exact wg _
    .let⟨_,_,h,_⟩:=qio (xd d) (xd c) b.length;grind
theorem qOz(b e:T)(k:zy b=0)(n:size b<=1000000000)(g:size e<=1000000000):Ev (λ m _=>qht m b e) (qp2 b e):=by
 refine waG ?_;simp only[qy5,qhK,qi]
 have j:∀(l:List Pw) (x:T),szP l<=1000000000->Ev (λ m _=>cond (ieq (l.length:Int) 0) (some (x,(0:Int))) (qb (Jt m l) λ v=>cond (qg (ieq v.2 0)) (some (T.mk 0 [] 0 [],v.2)) (qb (qh7 m [101,120,112] [x,v.1]) λ w=>some (w,0)))) (qiY x l):=by
  intro l x o;unfold qiY;refine waB (λ h=>?_) λ h=>?_
  .rw[qk]at h;rw[if_pos (by omega)];exact waz _
  .rw[qh]at h;rw[if_neg (by omega)];refine way (qED l o) (waB (λ h=>?_) λ h=>?_)
   .rw[bnt,qh]at h;rw[if_pos h];exact waz _
   .rw[bnf,qk]at h;rw[if_neg (by omega)];exact way (qRn _ _) (waz _)
 unfold qp2;refine way (qC6 e g) (waB (λ h=>?_) λ h=>?_)
 .rw[bnt,qh]at h;rw[if_pos h];exact waz _
 rw[bnf,qk]at h;rw[if_neg (by omega)];refine way (qkV _ _) (waB (λ f=>?_) λ f=>?_)
 .rw[if_pos (show isN b qd4=true from f)];have s:=qc1 b 1;refine waA (qcP (i:=1) k f (a:=2) (b:=2) (c:=1) (by decide) (by decide)) (way (qC6 _ (by omega)) (waB (λ d=>?_) λ d=>?_))
  .rw[bnt,qh]at d;rw[if_pos d];exact waz _
  rw[bnf,qk]at d;rw[if_neg (by omega)];have r:=qjE (kid b 1);have q:=qjE e;have p:=qHK (ofP (kid b 1)).1 (ofP e).1;refine way (qQK _ _ (by omega) (by omega)) (waB (λ d=>?_) λ d=>?_)
  .rw[bnt,qh]at d;rw[if_pos d];exact waz _
  rw[bnf,qk]at d;rw[if_neg (by omega)];exact waA (qcP (i:=0) k f (a:=2) (b:=2) (c:=1) (by decide) (by decide)) (j _ _ (by omega))
 .rw[if_neg (by rw[show isN b qd4=false from f];decide)];grind [qjE]
theorem qMA(b e:T)(k:zy b=0)(n:size b<=1000000000)(g:size e<=1000000000):Ev (λ m _=>qjp m b e) (qp2 b e):=by
 refine waG ?_;simp only[qBL,qiL,qi]
 have j:∀(l:List Pw) (x:T),szP l<=1000000000->Ev (λ m _=>cond (ieq (l.length:Int) 0) (some (x,(0:Int))) (qb (qde m l) λ v=>cond (qg (ieq v.2 0)) (some (T.mk 0 [] 0 [],v.2)) (qb (yP m [101,120,112] [x,v.1]) λ w=>some (w,0)))) (qiY x l):=by
  intro l x o;unfold qiY;refine waB (λ h=>?_) λ h=>?_
  .rw[qk]at h;rw[if_pos (by omega)];exact waz _
  .rw[qh]at h;rw[if_neg (by omega)];refine way (qEr l o) (waB (λ h=>?_) λ h=>?_)
   .rw[bnt,qh]at h;rw[if_pos h];exact waz _
   .rw[bnf,qk]at h;rw[if_neg (by omega)];exact way (qfq _ _ (by simp)) (waz _)
 unfold qp2;refine way (qFk e g) (waB (λ h=>?_) λ h=>?_)
 .rw[bnt,qh]at h;rw[if_pos h];exact waz _
 rw[bnf,qk]at h;rw[if_neg (by omega)];refine way (ql7 _ _) (waB (λ f=>?_) λ f=>?_)
 .rw[if_pos (show isN b qd4=true from f)];have s:=qc1 b 1;refine waA (qcP (i:=1) k f (a:=2) (b:=2) (c:=1) (by decide) (by decide)) (way (qFk _ (by omega)) (waB (λ d=>?_) λ d=>?_))
  .rw[bnt,qh]at d;rw[if_pos d];exact waz _
  rw[bnf,qk]at d;rw[if_neg (by omega)];have r:=qjE (kid b 1);have q:=qjE e;have p:=qHK (ofP (kid b 1)).1 (ofP e).1;refine way (qQZ _ _ (by omega) (by omega)) (waB (λ d=>?_) λ d=>?_)
  .rw[bnt,qh]at d;rw[if_pos d];exact waz _
  rw[bnf,qk]at d;rw[if_neg (by omega)];exact waA (qcP (i:=0) k f (a:=2) (b:=2) (c:=1) (by decide) (by decide)) (j _ _ (by omega))
 .rw[if_neg (by rw[show isN b qd4=false from f];decide)];grind [qjE]
theorem qE6{t:T}(h:isD t.name=true):J5 t=(ql3 t,0):=by unfold J5;rw[if_pos h]
theorem qEw{t:T}(h:t.name=qbG):J5 t=qpT t.kids:=by unfold J5;rw[if_neg (by rw[h];decide),if_pos h]
theorem qD5{t:T}(h:t.name=qdw\/t.name=QY\/t.name=qgP):J5 t=qmK t:=by
 unfold J5;rw[if_neg (by obtain h|h|h:=h<;>rw[h]<;>decide),if_neg (by obtain h|h|h:=h<;>rw[h]<;>decide),if_pos h]
theorem qGt{t:T}(h:t.name=qd4):J5 t=qp2 (kid t 0) (kid t 1):=by
 unfold J5;rw[if_neg (by rw[h];decide),if_neg (by rw[h];decide),if_neg (by rw[h];decide),if_pos h]
theorem qAC{t:T}(d:isD t.name=false)(c:t.name≠qbG)(b:¬ (t.name=qdw\/t.name=QY\/t.name=qgP))(a:t.name≠qd4):J5 t=(t,0):=by
 grind [J5]
theorem qKz(n:List UInt8):(qE n).2.2=3↔isD n=true:=by
 constructor
 .intro h;obtain b|⟨r,c,a,b⟩:=qv0 n
  .rw[qwN b]at h;cases h
  .rw[qqC b]at h;have:jw.all (λ r => !decide (r.2.2.2=3)||isD r.1)=true:=by decide
   grind
 .intro h;unfold isD at h;simp only[wY,beq_iff_eq]at h;obtain ((((a|a)|a)|a)|a)|a:=h<;>rw[a]<;>decide
def nks(l:List T):List T:=(l.map zU).map (·.1)
theorem qsX(l:List T):(nks l).length=l.length:=by unfold nks;simp
theorem qMf(l:List T):szL (nks l)<=402*szL l:=by
 induction l with
 |nil=>exact wa _
 |cons k l a=>
   have:=qzr k;show szL ((zU k).1::nks l)<=_;rw[zr,zr];omega
theorem qC0{l:List T}{i:Nat}{x:T}(h:l[i]?=some x):nks (l.take (i+1))=nks (l.take i)++[(zU x).1]:=by
 unfold nks;rw[yt h,wZ,wZ];rfl
def erN(l:List T):Int:=((l.map zU).map (·.2)).foldl thn 0
theorem qEf{l:List T}{i:Nat}{x:T}(h:l.drop i=x::l.drop (i+1)):erN (l.drop i)=if(zU x).2≠0 then(zU x).2 else erN (l.drop (i+1)):=by
 unfold erN;rw[h,wk,wk];by_cases a:(zU x).2=0
 .rw[if_neg (by omega),a];rfl
 .rw[if_pos a];exact qS _ a
theorem qIn{t:T}(a:t.kind=3):zU t=if erN t.kids≠0 then(zT,erN t.kids)else J5 (apT t.name (nks t.kids)):=by rw[qoV,if_neg (λ h=>h a)];rfl
theorem qIc{t:T}(b:t.kind=3)(c:zy t=0)(f:∀k∈t.kids,(zU k).2=0):zy (apT t.name (nks t.kids))=0/\∀k∈nks t.kids,zy k=0:=by
 let⟨d,g⟩:=qhf b c
 have a:∀k∈nks t.kids,zy k=0:=λ k a=>by
  obtain⟨q,e,rfl⟩:=wC.1 a;grind [qPp]
 exact⟨qjI (qFA b d) a,a⟩
theorem qMi(t:T):size t<=2000->zy t=0->Ev (λ m _=>yH m t) (zU t):=by
 induction t using T.ind with
 |h t F=>
   intro hs E;have hl:=yx t;have hz:=qU t;refine waG ?_;simp only[qv6,qdf,qi];by_cases n:t.kind=3
   rotate_left
   .refine waC (bnt.2 (qh.2 n)) (waE (qjN n).symm)
   refine waD (bnf.2 (qk.2 n)) ?_;rw[qIn n];have y:=(qhf n E).2
   have s:=qt (P:=λ i=>(∀k∈t.kids.take i,(zU k).2=0)->Ev (λ m k=>Ji m (yH m) k t.kids t.kids.length i t.kind t.name t.sort t.kids 0 [] 0 3 t.name 0 [] (nks (t.kids.take i))) (if erN (t.kids.drop i)≠0 then(zT,erN (t.kids.drop i))else J5 (apT t.name (nks t.kids)))) t.kids (by omega)
    (λ g q=>by
     refine waF ?_;simp only[qmv,qds,qi];refine waD g ?_;rw[wF]at q |-
     rw[wJ,if_neg (show ¬ erN []≠0 from λ h=>h rfl)];let⟨r,c2⟩:=qIc n E q;have Y:=qMf t.kids;have X:szL t.kids+1=size t:=by unfold szL;omega
     have H:=qsX t.kids;generalize nks t.kids=ks at *;have G:T.mk 3 t.name 0 ks=apT t.name ks:=rfl;rw[G];have W:size (apT t.name ks)=1+szL ks:=qU _
     have e:isD t.name=true->Ev (λ m _=>qb (qc7 m (apT t.name ks)) λ v=>some (v,(0:Int))) (J5 (apT t.name ks)):=λ l=>by
      rw[qE6 (show isD (apT t.name ks).name=true from l)];exact way (qKi _ rfl r l (by omega)) (waz _)
     have f:t.name=qdw\/t.name=QY\/t.name=qgP->Ev (λ m _=>qb (qch m (apT t.name ks)) λ v=>cond (qg (ieq v.2 0)) (some (T.mk 0 [] 0 [],v.2)) (qb (Jt m v.1) λ w=>some (w.1,w.2))) (J5 (apT t.name ks)):=λ p=>by
      rw[qD5 (show(apT t.name ks).name=qdw\/(apT t.name ks).name=QY\/(apT t.name ks).name=qgP from p)];unfold qmK;have A:=qjE (apT t.name ks);refine way (qC6 _ (by omega)) (waB (λ h=>?_) λ h=>?_)
      .rw[bnt,qh]at h;rw[if_pos h];exact waz _
      .rw[bnf,qk]at h;rw[if_neg (by omega)];exact way (qED _ (by omega)) (waz _)
     refine waB (λ h=>e (by rw[zM.1 h];decide)) λ V=>?_;refine waB (λ h=>e (by rw[zM.1 h];decide)) λ U=>?_;refine waB (λ h=>e (by rw[zM.1 h];decide)) λ B=>?_;refine waB (λ h=>e (by rw[zM.1 h];decide)) λ A=>?_;refine waB (λ h=>e (by rw[zM.1 h];decide)) λ S=>?_;refine waB (λ h=>e (by rw[zM.1 h];decide)) λ R=>?_;refine waB (λ h=>?_) λ Q=>?_
     .rw[qEw (show(apT t.name ks).name=qbG from zM.1 h)];exact way (qPS ks (by omega)) (waz _)
     refine waB (λ h=>f (.inl (zM.1 h))) λ O=>?_;refine waB (λ h=>f (.inr (.inl (zM.1 h)))) λ N=>?_;refine waB (λ h=>f (.inr (.inr (zM.1 h)))) λ D=>?_;refine waB (λ h=>?_) λ C=>?_
     .have d:t.name=qd4:=zM.1 h;rw[qGt (show(apT t.name ks).name=qd4 from d)];have o:isN (apT t.name ks) qd4=true:=yT.2 ⟨rfl,d⟩;have q0:=qc1 (apT t.name ks) 0;have Z:=qc1 (apT t.name ks) 1;refine waA (qcP (t:=apT t.name ks) (i:=0) r o (a:=2) (b:=2) (c:=1) (by decide) (by decide)) (waA (qcP (t:=apT t.name ks) (i:=1) r o (a:=2) (b:=2) (c:=1) (by decide) (by decide)) ?_);exact way (qOz _ _ (qbj qaa qdT rfl r 0) (by omega) (by omega)) (waz _)
     .rw[qAC (t:=apT t.name ks) (show isD t.name=false from by
         rw[<-kK];intro l;unfold isD at l;simp only[wY,beq_iff_eq]at l;obtain ((((d|d)|d)|d)|d)|d:=l
         .exact ye.1 V d
         .exact ye.1 U d
         .exact ye.1 B d
         .exact ye.1 A d
         .exact ye.1 S d
         .exact ye.1 R d) (ye.1 Q) (λ h=>by obtain h|h|h:=h;exact ye.1 O h;exact ye.1 N h;exact ye.1 D h) (ye.1 C)]
      exact waz _)
    (λ i x u l g M K z q=>by
     refine waF ?_;simp only[qmv,qds,qi];have p:=wb u;have I:=yu t x p;rw[qEf l];refine waC g (waA M (way (F x p (by omega) (y x p)) (waB (λ h=>?_) λ h=>?_)))
     .rw[bnt,qh]at h;rw[if_pos (show(if(zU x).2≠0 then(zU x).2 else erN (t.kids.drop (i+1)))≠0 from by rw[if_pos h];exact h),if_pos h];exact waz _
     .rw[bnf,qk]at h;rw[if_neg (show ¬ (zU x).2≠0 from by omega)];have A:(nks (t.kids.take i)).length<=t.kids.length:=by rw[qsX,wo];omega
      refine waC (zd (by omega) (by omega)) ?_
      have z:=z λ k j=>by
       rw[yt u]at j;obtain j|j:=wj.1 j
       .exact q k j
       .rw[wD.1 j];exact h
      rw[K];refine z.congr λ m k=>?_;rw[qC0 u])
   have J:=n;refine waH (L:=λ m k=>Ji m (yH m) k t.kids t.kids.length 0 t.kind t.name t.sort t.kids 0 [] 0 3 t.name 0 [] []) ?_;exact(s 0 (wg _)) (λ k j=>by rw[vc]at j;cases j)
theorem qI3(t:T):size t<=2000->zy t=0->qf2 t->Ev (λ m _=>jq m t) (zU t):=by
 induction t using T.ind with
 |h t G=>
   intro hs E o;have hl:=yx t;have hz:=qU t;refine waG ?_;simp only[qze,qek,qi];by_cases g:t.kind=3
   rotate_left
   .refine waC (bnt.2 (qh.2 g)) (waE (qjN g).symm)
   refine waD (bnf.2 (qk.2 g)) ?_;rw[qIn g];have y:=(qhf g E).2
   have u:=qt (P:=λ i=>(∀k∈t.kids.take i,(zU k).2=0)->Ev (λ m k=>JO m (jq m) k i t.kind t.name t.sort t.kids 0 [] 0 [] (nks (t.kids.take i))) (if erN (t.kids.drop i)≠0 then(zT,erN (t.kids.drop i))else J5 (apT t.name (nks t.kids)))) t.kids (by omega)
    (λ e p=>by
     refine waF ?_;simp only[qnm,qem,qi];refine waD e ?_;rw[wF]at p |-
     rw[wJ,if_neg (show ¬ erN []≠0 from λ h=>h rfl)];let⟨s,c2⟩:=qIc g E p
     have F:qf2 (apT t.name (nks t.kids)):=qHX _ _ λ k f=>by
      obtain⟨q,H,rfl⟩:=wC.1 f;obtain⟨j,K,rfl⟩:=wC.1 H;exact qPP qsB qDh qHX j (qsB t g o j K)
     have X:=qMf t.kids;have W:szL t.kids+1=size t:=by unfold szL;omega
     have I:=qsX t.kids;generalize nks t.kids=ks at *;have V:size (apT t.name ks)=1+szL ks:=qU _
     have d:t.name=qdw\/t.name=QY\/t.name=qgP->Ev (λ m _=>qb (qdV m (apT t.name ks)) λ w=>some (w.1,w.2)) (J5 (apT t.name ks)):=λ l=>by
      rw[qD5 (show(apT t.name ks).name=qdw\/(apT t.name ks).name=QY\/(apT t.name ks).name=qgP from l)];have S:=qjE (apT t.name ks)
      have:Ev (λ m _=>qdV m (apT t.name ks)) (qmK (apT t.name ks)):=by
       refine waG ?_;simp only[qw3,qg2,qi];unfold qmK;refine way (qFk _ (by omega)) (waB (λ h=>?_) λ h=>?_)
       .rw[bnt,qh]at h;rw[if_pos h];exact waz _
       .rw[bnf,qk]at h;rw[if_neg (by omega)];exact way (qEr _ (by omega)) (waz _)
      exact way this (waz _)
     have D:=jU ks;refine way (qfq t.name ks (by omega)) (way (qtb t.name) (waB (λ h=>?_) λ U=>?_))
     .have r:=(qKz t.name).1 (qk.1 h);rw[qE6 (show isD (apT t.name ks).name=true from r)];exact way (qGE _ rfl s F r (by omega)) (waz _)
     refine waB (λ h=>?_) λ R=>?_
     .rw[qEw (show(apT t.name ks).name=qbG from zM.1 h)];exact way (qRb ks (by omega)) (waz _)
     refine waB (λ h=>d (.inl (zM.1 h))) λ Q=>?_;refine waB (λ h=>d (.inr (.inl (zM.1 h)))) λ O=>?_;refine waB (λ h=>d (.inr (.inr (zM.1 h)))) λ B=>?_;refine waB (λ h=>?_) λ A=>?_
     .have C:t.name=qd4:=zM.1 h;rw[qGt (show(apT t.name ks).name=qd4 from C)];have n:isN (apT t.name ks) qd4=true:=yT.2 ⟨rfl,C⟩;have Z:=qc1 (apT t.name ks) 0;have Y:=qc1 (apT t.name ks) 1;refine waA (qcP (t:=apT t.name ks) (i:=0) s n (a:=2) (b:=2) (c:=1) (by decide) (by decide)) (waA (qcP (t:=apT t.name ks) (i:=1) s n (a:=2) (b:=2) (c:=1) (by decide) (by decide)) ?_);exact way (qMA _ _ (qbj qaa qdT rfl s 0) (by omega) (by omega)) (waz _)
     .rw[qAC (t:=apT t.name ks) (show isD t.name=false from by
         rw[<-kK,<-qKz];exact qh.1 U) (ye.1 R) (λ h=>by obtain h|h|h:=h;exact ye.1 Q h;exact ye.1 O h;exact ye.1 B h) (ye.1 A)]
      exact waz _)
    (λ i x v r e N M z p=>by
     refine waF ?_;simp only[qnm,qem,qi];have l:=wb v;have J:=yu t x l;rw[qEf r];refine waC e (waA N (way (G x l (by omega) (y x l) (qsB t g o x l)) (waB (λ h=>?_) λ h=>?_)))
     .rw[bnt,qh]at h;rw[if_pos (show(if(zU x).2≠0 then(zU x).2 else erN (t.kids.drop (i+1)))≠0 from by rw[if_pos h];exact h),if_pos h];exact waz _
     .rw[bnf,qk]at h;rw[if_neg (show ¬ (zU x).2≠0 from by omega)];have S:(nks (t.kids.take i)).length<=t.kids.length:=by rw[qsX,wo];omega
      refine waC (zd (by omega) (by omega)) ?_
      have z:=z λ k f=>by
       rw[yt v]at f;obtain f|f:=wj.1 f
       .exact p k f
       .rw[wD.1 f];exact h
      rw[M];refine z.congr λ m k=>?_;rw[qC0 v])
   refine waH (L:=λ m k=>JO m (jq m) k 0 t.kind t.name t.sort t.kids 0 [] 0 [] []) ?_;exact(u 0 (wg _)) (λ k f=>by rw[vc]at f;cases f)
theorem qk0(t:T):qiM t=if qac t≠0 then(zT,qac t)else if(zU t).2≠0 then(zT,(zU t).2)else if qB (zU t).1≠0 then(zT,qB (zU t).1)else zU t:=rfl
theorem qKh(t:T)(d:size t<=1000000000):Ev (λ m _=>qgm m t) (qiM t):=by
 refine waG ?_;simp only[qwQ,qgR,qi];rw[qk0];refine way (qyS t d) (waB (λ h=>?_) λ h=>?_)
 .rw[bnt,qh]at h;rw[if_pos h];exact waz _
 rw[bnf,qk]at h;rw[if_neg (by omega)];let⟨c,e⟩:=qjQ h;have f:=QS c;have g:=qzr t;refine way (qMi t (by omega) e) (waB (λ a=>?_) λ a=>?_)
 .rw[qk]at a;rw[if_neg (by omega)];refine way (Jr _ (by omega)) (waB (λ b=>?_) λ b=>?_)
  .rw[bnt,qh]at b;rw[if_pos b];exact waz _
  .rw[bnf,qk]at b;rw[if_neg (by omega)];exact waE (by rw[<-a])
 .rw[qh]at a;rw[if_pos a];exact waC (bnt.2 (qh.2 a)) (waz _)
theorem qJn(t:T)(d:size t<=1000000000):Ev (λ m _=>qh1 m t) (qiM t):=by
 refine waG ?_;simp only[qyX,qhB,qi];rw[qk0];refine way (qs7 t d) (waB (λ h=>?_) λ h=>?_)
 .rw[bnt,qh]at h;rw[if_pos h];exact waz _
 rw[bnf,qk]at h;rw[if_neg (by omega)];let⟨c,e⟩:=qjQ h;have f:=QS c;have g:=qzr t;refine way (qI3 t (by omega) e (qLj t (qG6 c))) (waB (λ a=>?_) λ a=>?_)
 .rw[bnt,qh]at a;rw[if_pos a];exact waz _
 rw[bnf,qk]at a;rw[if_neg (by omega)];refine way (qaS _ (by omega)) (waB (λ b=>?_) λ b=>?_)
 .rw[bnt,qh]at b;rw[if_pos b];exact waz _
 .rw[bnf,qk]at b;rw[if_neg (by omega)];exact waE (by rw[<-a])
theorem qxC(t:T):size (qiM t).1<=400:=by
 rw[qk0];have:=qlg;split
 .show size zT<=_;omega
 .split
  .show size zT<=_;omega
  .split
   .show size zT<=_;omega
   .rename_i h;exact QS (xd h)
end Go.AmZ
namespace Go.AmZ
open Go Go.GxZ
def qdR(p:List UInt8->Bool):T->Bool:=T.para λ t a=>(!(t.kind==3)||p t.name)&&a.all id
theorem qss(p:List UInt8->Bool)(t:T):qdR p t=((!(t.kind==3)||p t.name)&&(t.kids.map (qdR p)).all id):=T.para_eq _ _
def Q9:T->List T:=T.para λ t a=>t::a.flatten
theorem qlq(t:T):Q9 t=t::(t.kids.map Q9).flatten:=T.para_eq _ _
theorem qly(t:T):(Q9 t).length=size t:=by
 refine T.ind (P:=λ t=>(Q9 t).length=size t) ?_ t;intro t a;rw[qlq,qU,wx,List.length_flatten,xe];have:t.kids.map (List.length ∘ Q9)=t.kids.map size:=kW λ k b=>a k b;rw[this];omega
theorem qQR(t:T):∀u∈Q9 t,size u<=size t:=by
 refine T.ind (P:=λ t=>∀u∈Q9 t,size u<=size t) ?_ t;intro t c u a;rw[qlq]at a;obtain rfl|a:=wv.1 a
 .exact wa _
 .let⟨l,d,a⟩:=wal.1 a;obtain⟨k,b,rfl⟩:=wC.1 d;have f:=c k b u a;have e:=yu t k b;omega
theorem qxu(p:List UInt8->Bool)(t:T):(Q9 t).all (λ u => !(u.kind==3)||p u.name)=qdR p t:=by
 refine T.ind (P:=λ t=>(Q9 t).all (λ u => !(u.kind==3)||p u.name)=qdR p t) ?_ t;intro t b;rw[qlq,qss,wX,List.all_flatten];congr 1;rw[wah,wah];rw[xB,ww,ww];exact⟨λ h k a=>(b k a).symm.trans (h k a),λ h k a=>(b k a).trans (h k a)⟩
def pPl(n:List UInt8):Bool:=qg (ieq (qE n).2.2 3)
def qqh(n:List UInt8):Bool:=n==qbG||n==qbw||n==qd4||n==qdw||n==QY||n==qgP
def pFr(n:List UInt8):Bool := !qqh n&&pPl n
theorem qK2(n:List UInt8):Ev (λ m _=>qfC m n) (pPl n):=by
 refine waG ?_;simp only[qve,qf1];refine way (qrN n) (waE ?_);unfold pPl;rw[<-qp7]
theorem qeV{n x:List UInt8}(h:n=x)(a:qqh x=true):qqh n=true:=by rw[h];exact a
theorem qKF{n:List UInt8}(e:n≠qbG)(d:n≠qbw)(c:n≠qd4)(b:n≠qdw)(a:n≠QY):qqh n=(n==qgP):=by
 unfold qqh;rw[beq_eq_false_iff_ne.2 e,beq_eq_false_iff_ne.2 d,beq_eq_false_iff_ne.2 c,beq_eq_false_iff_ne.2 b,beq_eq_false_iff_ne.2 a];rfl
theorem qLF(t:T):size t<=1000000000->Ev (λ m _=>zc m t) (qdR pPl t):=by
 induction t using T.ind with
 |h t j=>
   intro r;have s:=yx t;refine waG ?_;simp only[qpL,qaj]
   have d:=qt (P:=λ i=>Ev (λ m k=>yM m (zc m) k t.kids t.kids.length i) (((t.kids.drop i).map (qdR pPl)).all id)) t.kids (by omega)
    (λ f=>by
     refine waF ?_;simp only[qhm,qah];refine waD f (waE ?_);rw[wJ];rfl)
    (λ i x l p f o n q=>by
     refine waF ?_;simp only[qhm,qah,qi];have g:=wb l;have u:=yu t x g;rw[p,wk,wX];refine waC f (waA o (way (j x g (by omega)) (waB (λ b=>?_) λ b=>?_)))
     .rw[bnt]at b;rw[b];exact waz _
     .rw[bnf]at b;rw[b,n];exact q)
   have a:Ev (λ m _=>yM m (zc m) m t.kids t.kids.length 0) ((t.kids.map (qdR pPl)).all id):=
    waH (L:=λ m k=>yM m (zc m) k t.kids t.kids.length 0) ((d 0 (wg _)).res (by rw[wH]))
   rw[qss];refine waB (λ c=>?_) λ c=>?_
   .rw[qk]at c;have e:(!(t.kind==3))=false:=by rw[c];rfl
    rw[e,xq];refine way (qK2 t.name) (waB (λ h=>?_) λ h=>?_)
    .rw[bnt]at h;rw[h];exact waz _
    .rw[bnf]at h;rw[h];exact a
   .rw[qh]at c;have e:(!(t.kind==3))=true:=by rw[wM,beq_eq_false_iff_ne];exact c
    rw[e,xh];exact a
theorem qzn(t:T):size t<=1000000000->Ev (λ m _=>j8 m t) (Q9 t):=by
 induction t using T.ind with
 |h t n=>
   intro r;have s:=yx t;have b:=qly t;refine waG ?_;simp only[qGO,qh5,qi];rw[qlq]at b |-
   have a:∀i,((t.kids.take i).map Q9).flatten.length<=(t.kids.map Q9).flatten.length:=λ i=>by
    have:=congrArg (λ l=>(l.map Q9).flatten.length) (kD i t.kids);simp only[wZ,vl,wd]at this;omega
   have c:=qt (P:=λ i=>Ev (λ m k=>qce m (j8 m) k i t.kind t.name t.sort t.kids (t::((t.kids.take i).map Q9).flatten)) (t::(t.kids.map Q9).flatten)) t.kids (by omega)
    (λ d=>by
     refine waF ?_;simp only[qrT,qhz];refine waD d ?_;rw[wF];exact waz _)
    (λ i x f u d p o j=>by
     refine waF ?_;simp only[qrT,qhz,qi];have g:=wb f;have v:=yu t x g;have q:=a (i+1)
     have e:((t.kids.take (i+1)).map Q9).flatten=((t.kids.take i).map Q9).flatten++Q9 x:=by
      rw[yt f,wZ,vl];simp
     rw[e,wd]at q;rw[e]at j;rw[wx]at b;refine waC d (waA p (way (n x g (by omega)) (waC (zd (by rw[wx];omega) (by omega)) ?_)));rw[o];exact j)
   refine waH (L:=λ m k=>qce m (j8 m) k 0 t.kind t.name t.sort t.kids [t]) ?_;exact c 0 (wg _)
def qqc(t:T):Bool:=decide (qac t=0)&&qdR pFr t
def qb5(t:T):Bool:=decide ((qiM t).2=0)&&(zi (qiM t).1 t&&qdR pPl t)
theorem qLv(t:T)(a:size t<=1000000000):Ev (λ m _=>qe2 m t) (qb5 t):=by
 have c:=qxC t;refine waG ?_;simp only[qy1,qih,qi];unfold qb5;refine way (qKh t a) (waB (λ h=>?_) λ h=>?_)
 .rw[qk]at h;rw[decide_eq_true h,wV];refine way (qph _ _ (by omega) a) (waB (λ b=>?_) λ b=>?_)
  .rw[b,wV];exact way (qLF t a) (waz _)
  .rw[b,kN];exact waz _
 .rw[qh]at h;rw[decide_eq_false h,kN];exact waz _
theorem qMb(t:T)(e:size t<=1000000000):Ev (λ m _=>qjn m t) (qb5 t):=by
 have s:=qxC t;refine waG ?_;simp only[qCg,qfE,qi];unfold qb5;refine way (qJn t e) (waB (λ h=>?_) λ h=>?_)
 .rw[bnt,qh]at h;rw[decide_eq_false h,kN];exact waz _
 rw[bnf,qk]at h;rw[decide_eq_true h,wV,qw9];refine way (QF _ _ e (by omega)) (waB (λ c=>?_) λ c=>?_)
 .rw[bnt]at c;rw[c,kN];exact waz _
 rw[bnf]at c;rw[c,wV,<-qxu];refine way (qzn t e) ?_;have p:=qly t;generalize Q9 t=l at*
 have d:=qt (P:=λ i=>Ev (λ m k=>qaq m k l i) ((l.drop i).all λ u => !(u.kind==3)||pPl u.name)) l (by omega)
  (λ g=>by
   refine waF ?_;simp only[qow,qfB];refine waD g (waE ?_);rw[wJ];rfl)
  (λ i x r q g n j o=>by
   refine waF ?_;simp only[qow,qfB];rw[q,wX];refine waC g (waA n (waB (λ b=>?_) λ b=>?_))
   .rw[qk]at b;have f:(!(x.kind==3))=false:=by rw[b];rfl
    rw[f,xq];refine waA n (way (qtb x.name) (waB (λ a=>?_) λ a=>?_))
    .have:pPl x.name=false:=by unfold pPl;rw[a];rfl
     rw[this];exact waz _
    .rw[j];refine o.res ?_;have:pPl x.name=true:=by unfold pPl;rw[a];rfl
     rw[this];rfl
   .rw[qh]at b;have f:(!(x.kind==3))=true:=by rw[wM,beq_eq_false_iff_ne];exact b
    rw[f,xh,j,wV];exact o)
 refine waH (L:=λ m k=>qaq m k l 0) ?_;exact(d 0 (wg _)).res (by rw[wH])
end Go.AmZ
namespace Go.AmZ
open Go Go.GxZ Go.Sort Go.Proofs Go.Proofs.YtinbdcelmgfniaaGreatDoor
def zP(k:Int)(t:T):List T:=(Q9 t).filter λ x=>decide (x.kind=k)
def qzK(t:T):Bool:=(zP 1 t).isEmpty
theorem qmP(k:Int)(t:T):zP k t=(if t.kind=k then[t]else[])++(t.kids.map (zP k)).flatten:=by
 unfold zP;grind [zP,qlq,List.map_map,Function.comp_def]
theorem qhN(k:Int)(t:T):(zP k t).length<=size t:=by
 have:=vd (λ x:T=>decide (x.kind=k)) (Q9 t);rw[qly]at this;exact this
theorem qjB(k:Int)(t:T):∀u∈zP k t,size u<=size t:=λ u a=>qQR t u ((kJ.1 a).1)
theorem qHP{s:Nat}:∀{l:List T},(∀u∈l,size u<=s)->szL l<=l.length*s
 |[],_=>by simp[szL]
 |x::l,h=>by
   have:=qHP λ u a=>h u (we _ a);grind [List.mem_cons_self,zr,List.length_cons,Nat.succ_mul]
theorem qPb(x:T)(k:Int)(l:List T)(b:l.length<=1000000000):Ev (λ m _=>qaM m x k l) ((k,l++(if x.kind=k then[x]else[]),()),()):=by
 refine waG ?_;simp only[qnN,qbD,qi];by_cases h:x.kind=k
 .rw[if_pos h];refine waC (qk.2 h) (waC (zd (by omega) (by omega)) (waA (a:=T.mk 0 [] 0 []) (by rw[zF];simp) (waE ?_)));rw[qeM];simp
 .rw[if_neg h,wy];exact waD (qh.2 h) (waz _)
theorem qQl(t:T)(k:Int):size t<=1000000000->∀l:List T,l.length+size t<=1000000000->Ev (λ m _=>zA m t k l) ((k,l++zP k t,()),()):=by
 induction t using T.ind with
 |h t v=>
   intro C l D;have w:=yx t;refine waG ?_;simp only[qqZ,qaH,qi];refine way (qPb t k l (by omega)) ?_;simp only;obtain⟨a,b⟩:∃a,a=l++(if t.kind=k then[t]else[]):=⟨_,rfl⟩
   rw[<-b];have j:=qhN k t;rw[qmP,wd]at j;have r:a.length+((t.kids.map (zP k)).flatten).length=l.length+((if t.kind=k then[t]else[]).length+((t.kids.map (zP k)).flatten).length):=by rw[b,wd];omega
   have p:∀i,((t.kids.take i).map (zP k)).flatten.length<=(t.kids.map (zP k)).flatten.length:=λ i=>by
    have:=congrArg (λ l=>(l.map (zP k)).flatten.length) (kD i t.kids);grind
   have g:∀i x,t.kids[i]?=some x->a.length+((t.kids.take i).map (zP k)).flatten.length+size x<=1000000000:=λ i x c=>by
    have B:((t.kids.take i).map (zP k)).flatten.length<=szL (t.kids.take i):=by
     have o:∀l:List T,((l.map (zP k)).flatten).length<=szL l:=by
      intro l
      induction l with
      |nil=>simp[szL]
      |cons y l u=>rw[wk,vB,wd,zr];have:=qhN k y;omega
     exact o _
    have F:=QD c;grind [szL,qU,List.length_append]
   have f:=qt (P:=λ i=>Ev (λ m d=>jR m (zA m) d t.kids t.kids.length i k (a++((t.kids.take i).map (zP k)).flatten)) ((k,a++(t.kids.map (zP k)).flatten,()),())) t.kids (by omega)
    (λ n=>by
     refine waF ?_;simp only[qh0,qaN];refine waD n ?_;rw[wF];exact waz _)
    (λ i x c E n A z s=>by
     refine waF ?_;simp only[qh0,qaN,qi];have q:=wb c;have B:=yu t x q;refine waC n (waA A (way (v x q (by omega) _ (by rw[wd];exact g i x c)) ?_));rw[z]
     have e:((t.kids.take (i+1)).map (zP k)).flatten=((t.kids.take i).map (zP k)).flatten++zP k x:=by
      rw[yt c,wZ,vl];simp
     rw[e,<-wn]at s;exact s)
   rw[qmP,<-wn,<-b];refine waH (L:=λ m d=>jR m (zA m) d t.kids t.kids.length 0 k a) ?_;have:=f 0 (wg _);simpa using this
theorem qQh{F G:T->T->Option Int}{l:List T}(h:∀x∈l,∀y∈l,F x y=G x y):Jc F l=Jc G l:=by
 grind [Jc]
theorem qBa{a:Type}{F:T->T->Option a}{l:List T}(h:∀x∈l,∀y∈l,(F x y).isSome=true):qc9 F l=true:=
 ww.2 λ x c=>ww.2 λ y b=>h x c y b
theorem qQe{n:Nat}{lt:Nat->Nat->Bool}(h:SWO lt):qvQ n lt=true:=by
 unfold qvQ;refine ww.2 λ i _=>?_;rw[wc];refine⟨by rw[h.irrefl];rfl,ww.2 λ j _=>ww.2 λ k _=>?_⟩;rw[wc];constructor
 .cases b:lt i j with
  |false=>rfl
  |true=>cases a:lt j k with
    |false=>rfl
    |true=>rw[h.trans i j k b a];rfl
 .cases b:lt i j with
  |true=>rfl
  |false=>cases a:lt j k with
    |true=>rfl
    |false=>rw[h.ntrans i j k b a];rfl
theorem qTy(l:List T):SWO (ltOf (Jc (λ x y=>some (qs x y)) l)):=by
 have hlt:∀ i j,ltOf (Jc (λ x y=>some (qs x y)) l) i j=true↔∃ x y,l[i % l.length]?=some x/\l[j % l.length]?=some y/\qs x y=-1 := λ i j=>by
  unfold ltOf Jc;rw[decide_eq_true_iff];cases hx:l[i % l.length]? with
  | none=>simp
  | some x=>cases hy:l[j % l.length]? with
    | none=>simp
    | some y =>
      simp only[Option.getD_some];have:=zW.rng x y;constructor
      ·intro h;exact⟨x,y,rfl,rfl,by omega⟩
      ·rintro⟨_,_,h1,h2,h3⟩;cases h1;cases h2;omega
 refine⟨λ i=>?_,λ i j k h1 h2=>?_,λ i j k h1 h2=>?_⟩
 ·rw[xm];grind [qmQ]
 ·obtain⟨x,y,a1,a2,a3⟩:=(hlt _ _).1 h1;obtain⟨y',z,b1,b2,b3⟩:=(hlt _ _).1 h2;rw[a2]at b1;cases b1;exact(hlt _ _).2 ⟨x,z,a1,b2,zW.trans x y z a3 b3⟩
 ·rw[xm]at h1 h2 |-
  intro h;obtain⟨x,z,a1,a2,a3⟩:=(hlt _ _).1 h;have hn:0<l.length:=by have:=getElem?_lt a1;omega
  obtain⟨y,hj⟩:∃ y,l[j % l.length]?=some y:=⟨_,List.getElem?_eq_getElem (xU _ hn)⟩
  have n1:qs x y≠-1 := λ he=>h1 ((hlt _ _).2 ⟨x,_,a1,hj,he⟩);have n2:qs y z≠-1 := λ he=>h2 ((hlt _ _).2 ⟨_,z,hj,a2,he⟩);have r1:=zW.rng x y;have r2:=zW.rng y z;rcases r1 with r1 | r1 | r1
  ·exact n1 r1
  ·grind [Jo]
  ·rcases r2 with r2 | r2 | r2
   ·exact n2 r2
   ·grind [Jo]
   ·have e1:qs y x=-1:=by rw[zW.anti];omega
    have e2:qs z y=-1:=by rw[zW.anti];omega
    have e3:=zW.trans _ _ _ e2 e1;have e4:=zW.anti x z;omega
theorem qDA{k:Type}{F:Nat->T->T->Option k}{g:T->T->k}(l:List T)(h:∀x∈l,∀y∈l,Ev (λ m _=>F m x y) (g x y)):∃B,∀m,B<=m->∀x∈l,∀y∈l,F m x y=some (g x y):=by
 have d:∀(x:T),(∀y∈l,Ev (λ m _=>F m x y) (g x y))->∀r:List T,(∀y∈r,y∈l)->∃B,∀m,B<=m->∀y∈r,F m x y=some (g x y):=by
  intro x n r
  induction r with
  |nil=>exact λ _=>⟨0,λ _ _ y f=>by cases f⟩
  |cons y r e=>
    intro b;let⟨B,j⟩:=e λ z a=>b z (we _ a);let⟨D,i⟩:=n y (b y (wh ..));refine⟨max B D,λ m o z a=>?_⟩;obtain rfl|a:=wv.1 a
    .exact i m D (by omega) (wa _)
    .exact j m (by omega) z a
 have c:∀r:List T,(∀y∈r,y∈l)->∃B,∀m,B<=m->∀x∈r,∀y∈l,F m x y=some (g x y):=by
  intro r
  induction r with
  |nil=>exact λ _=>⟨0,λ _ _ y f=>by cases f⟩
  |cons x r e=>
    intro b;let⟨B,j⟩:=e λ z a=>b z (we _ a);let⟨D,i⟩:=d x (h x (b x (wh ..))) l λ _ h=>h;refine⟨max B D,λ m o z a=>?_⟩;obtain rfl|a:=wv.1 a
    .exact i m (by omega)
    .exact j m (by omega) z a
 exact c l λ _ h=>h
theorem qOB{α:Type}{l:List α}{b:List Nat}:∀x∈pick l b,x∈l:=λ x a=>by
 unfold pick at a;let⟨i,_,h⟩:=kF.1 a;exact wb h
theorem qSE(l:List T)(o:szL l<=1000000000):Ev (λ m _=>qmR m l) (l.foldl Jf []):=by
 have g:=jU l;refine waG ?_;simp only[qGM,qit]
 have n:∀(l a:List T),szL (l.foldl Jf a)<=szL a+szL l:=by
  intro l
  induction l with
  |nil=>intro a;simp[szL]
  |cons x l f=>intro a;rw[ky,zr];have:=f (Jf a x);have:=qzB x a;omega
 have b:=qt (P:=λ i=>Ev (λ m k=>qcf m k l ((l.take i).foldl Jf []) i) (l.foldl Jf [])) l (by omega)
  (λ c=>by
   refine waF ?_;simp only[qrF,qhy];refine waD c ?_;rw[wF];exact waz _)
  (λ i x d p c j h e=>by
   refine waF ?_;simp only[qrF,qhy,qi];have r:=n (l.take i) [];have q:=QD d;have s:szL ([]:List T)=0:=rfl;refine waC c (waA j (way (qKQ _ x (by omega)) ?_));rw[h,qu8];rw[yt d,xK]at e;exact e)
 exact waH (L:=λ m k=>qcf m k l [] 0) (b 0 (wg _))
theorem qNw(t:T)(k:Int)(g:size t<=10000):Ev (λ m _=>qle m t k) ((zP k t).foldl Jf []):=by
 refine waG ?_;simp only[qFr,qgn,qi];refine way (qzn t (by omega)) ?_;have h:=qly t
 have a:szL (zP k t)<=1000000000:=by
  have s:=qHP (qjB k t);have r:(zP k t).length*size t<=10000*10000:=vW (wz (qhN k t) g) g;omega
 have d:=qt (P:=λ i=>Ev (λ m c=>qa5 m c k (Q9 t) i (((Q9 t).take i).filter λ x=>decide (x.kind=k))) ((zP k t).foldl Jf [])) (Q9 t) (by omega)
  (λ e=>by
   refine waF ?_;simp only[qqT,qgy];refine waD e ?_;rw[wF];exact way (qSE (zP k t) a) (waz _))
  (λ i x n o e l j f=>by
   refine waF ?_;simp only[qqT,qgy,qi];have q:=vd (λ x:T=>decide (x.kind=k)) ((Q9 t).take i);have p:=List.length_take_le' i (Q9 t);rw[yt n,List.filter_append]at f;refine waC e (waA l ?_);by_cases b:x.kind=k
   .refine waC (qk.2 b) (waA l (waC (zd (by omega) (by omega)) ?_));rw[j];simpa[b]using f
   .refine waD (qh.2 b) ?_;rw[j];simpa[b]using f)
 exact waH (L:=λ m c=>qa5 m c k (Q9 t) 0 []) (d 0 (wg _))
end Go.AmZ
namespace Go.AmZ
open Go Go.GxZ Go.Sort Go.Proofs Go.Proofs.YtinbdcelmgfniaaGreatDoor
def qPJ(l:List T):Prop:=l.Pairwise λ a b=>qs b a≠-1
theorem qIy{R:T->T->Prop}{l:List T}{a:List Nat}(h:a.Pairwise λ i j=>∀x,l[i]?=some x->∀y,l[j]?=some y->R x y):(pick l a).Pairwise R:=by
 grind [pick]
theorem qwq:∀l:List T,(List.range l.length).filterMap (λ i=>l[i]?)=l
 |[]=>rfl
 |x::l=>by
   rw[wx,List.range_succ_eq_map,xk,List.filterMap_map];have:=qwq l;simpa[xW]using this
theorem qOZ(l:List T)(hl:l.length<=100000)(hs:∀ t∈l,size t<=1000000000):∃ l',Ev (λ m _=>q9 m l) l'/\l'.Perm l/\qPJ l':=by
 cases hl0:l with
 | nil=>exact⟨[],waG (waN (waz _) λ m _=>rfl),.refl _,List.Pairwise.nil⟩
 | cons x0 r0 =>
   rw[<- hl0];obtain⟨B,hB⟩:=qDA (F := λ m x y=>qz m x y) l λ x hx y hy=>qcd x (hs x hx) y (hs y hy);have hne:l≠[]:=by rw[hl0];exact vK _ _
   have hO:=qTy l;obtain⟨hp,hq⟩:=que (λ x y=>some (qs x y)) l hO;have hlt:∀ i∈qaz (λ x y=>some (qs x y)) l,i<l.length := λ i hi=>xb.1 (hp.mem_iff.1 hi);refine⟨pick l (qaz (λ x y=>some (qs x y)) l),waG ⟨B,λ m k hm _=>?_⟩,?_,qIy ?_⟩
   ·show q9 (m+1) l=_;rw[qdb];have hcf:Jc (qz m) l=Jc (λ x y=>some (qs x y)) l:=qQh (hB m hm);have hall:qc9 (qz m) l=true:=qBa λ x hx y hy=>by rw[hB m hm x hx y hy];rfl
    have hix:qaz (qz m) l=qaz (λ x y=>some (qs x y)) l:=by unfold qaz;rw[hcf]
    have e:qqf (qz m) l=cond (Nat.ble l.length 100000&&(qc9 (qz m) l&&qvQ l.length (ltOf (Jc (qz m) l)))) (some (pick l (qaz (qz m) l))) none:=by rw[hl0];rfl
    grind [qQe,Nat.ble_eq_true_of_le]
   ·have:=hp.filterMap λ i=>l[i]?;rw[qwq]at this;exact this
   ·generalize qaz (λ x y=>some (qs x y)) l=ix at hp hq hlt |-
    have hn:ix.length=l.length:=by rw[hp.length_eq,xD]
    rw[xy];intro i j hi hj hij x hx y hy hc;have:=hq i j (wg _) hij (by omega);rw[getElem!_pos ix.toArray i (by simpa using hi),getElem!_pos ix.toArray j (by simpa using hj)]at this;have h1:=hlt _ (wW hi);have h2:=hlt _ (wW hj);unfold ltOf Jc at this;grind [decide_eq_false_iff_not,Nat.mod_eq_of_lt]
theorem qGv(l:List T)(O:l.length<=100000)(C:∀t∈l,size t<=1000000000)(L:qPJ l):∃q,Ev (λ m _=>qM m l) ((),q,())/\Asc q/\q.length<=l.length/\∀x,x∈q↔x∈l:=by
 cases f:l with
 |nil=>exact⟨[],waG (waN (waz _) λ m _=>rfl),List.Pairwise.nil,wa _,λ x=>Iff.rfl⟩
 |cons M N=>
   rw[<-f]
   let⟨B,G⟩:=qDA (F:=λ m x y=>ji m x y) (g:=λ x y=>ieq (qs x y) 0) l λ x a y b=>by
    refine waG ?_;simp only[quI,qf4,qi];exact way (qcd x (C x a) y (C y b)) (waz _)
   have w:l≠[]:=by rw[f];exact vK _ _
   have h:0<l.length:=xE.2 w;obtain⟨d,p⟩:∃d,d=qj0 (λ x y=>some (ieq (qs x y) 0)) l:=⟨_,rfl⟩
   have A:∀i∈zO d l.length,i<l.length:=qBp
   have n:(zO d l.length).length<=l.length:=by
    have:=vd (λ i=>decide (i=0) || !d i (i-1)) (List.range l.length);rw[xD]at this;exact this
   have c:∀i x y,l[i]?=some x->l[i-1]?=some y->d i (i-1)=ieq (qs x y) 0:=λ i x y a b=>by
    have u:=getElem?_lt a;have P:=getElem?_lt b;rw[p];grind [qj0,Nat.mod_eq_of_lt]
   have I:∀i j x y,i<j->l[i]?=some x->l[j]?=some y->qs y x≠-1:=λ i j x y o a b=>by
    have u:=xy.1 L i j (getElem?_lt a) (getElem?_lt b) o;grind
   refine⟨pick l (zO d l.length),waG ⟨B,λ m k D _=>?_⟩,qIy ?_,by rw[qDW A];exact n,λ x=>⟨qOB x,λ a=>?_⟩⟩
   .show qM (m+1) l=_;rw[qca]
    have K:qj0 (ji m) l=d:=by
     rw[p];funext i j;unfold qj0;cases a:l[i%l.length]? with
     |none=>rfl
     |some x=>cases b:l[j%l.length]? with
       |none=>rfl
       |some y=>simp only;rw[G m D x (wb a) y (wb b)]
    have E:qc9 (ji m) l=true:=qBa λ x a y b=>by rw[G m D x a y b];rfl
    have e:qCW (ji m) l=cond (Nat.ble l.length 100000&&qc9 (ji m) l) (some (pick l (zO (qj0 (ji m) l) l.length))) none:=by rw[f];rfl
    grind [qwC,Nat.ble_eq_true_of_le]
   .unfold zO;rw[List.pairwise_filter];refine List.pairwise_lt_range.imp λ{i j} o _ J x a y b=>?_;have u:=getElem?_lt b;obtain⟨z,r⟩:∃z,l[j-1]?=some z:=⟨_,List.getElem?_eq_getElem (by omega)⟩
    rw[c j y z b r,decide_eq_false (show ¬ j=0 by omega),xq,wM,qh]at J;grind [qNi,qmQ,qd0]
   .let⟨i,s⟩:=List.getElem?_of_mem a;clear a
    induction i with
    |zero=>exact kF.2 ⟨0,kJ.2 ⟨xb.2 h,by simp⟩,s⟩
    |succ i H=>
      have u:=getElem?_lt s;obtain⟨z,r⟩:∃z,l[i]?=some z:=⟨_,List.getElem?_eq_getElem (by omega)⟩
      by_cases v:z=x
      .subst v;exact H r
      .refine kF.2 ⟨i+1,kJ.2 ⟨xb.2 u,?_⟩,s⟩;rw[c (i+1) x z s r,wY,wM,qh];grind [Jo]
theorem qrg:∀(l a:List T),Asc a->Asc (l.foldl Jf a)/\∀x,x∈l.foldl Jf a↔x∈a\/x∈l
 |[],a,h=>⟨h,λ x=>by simp⟩
 |y::l,a,h=>by
   let⟨c,b⟩:=qrg l (Jf a y) (quB y a h);refine⟨c,λ x=>?_⟩;rw[ky,b,qo8,wv,or_assoc]
def qcq(t:T):List T:=(zP 1 t).foldl Jf []
theorem qlC(t x:T):x∈qcq t↔x∈zP 1 t:=by
 unfold qcq;rw[(qrg _ [] List.Pairwise.nil).2];simp
theorem qEa(t:T):∀l:List T,(Jf l t).length<=l.length+1
 |[]=>wa _
 |x::l=>by
   have:=qEa t l;grind [Jf]
theorem qvk(t:T):(qcq t).length<=size t:=by
 have b:∀(l a:List T),(l.foldl Jf a).length<=a.length+l.length:=by
  intro l
  induction l with
  |nil=>intro a;simp
  |cons y l c=>intro a;rw[ky,wx];have:=c (Jf a y);have:=qEa y a;omega
 have d:(qcq t).length<=([]:List T).length+(zP 1 t).length:=b (zP 1 t) [];grind [qhN,List.length_nil]
theorem qNY(t:T)(E:size t<=100000):Ev (λ m _=>qjG m t) (qcq t):=by
 have p:∀u∈zP 1 t,size u<=1000000000:=λ u w=>by have:=qjB 1 t u w;omega
 have F:=qhN 1 t;let⟨n,e1,d,B⟩:=qOZ (zP 1 t) (by omega) p;have s:=d.length_eq;have l:∀x∈n,size x<=1000000000:=λ x c=>p x (d.mem_iff.1 c);let⟨b,A,C,D,h⟩:=qGv n (by omega) l B
 have v:b=qcq t:=qzl _ _ C (qrg _ [] List.Pairwise.nil).1 λ x=>by
  rw[h,d.mem_iff,<-qlC]
 refine waG ?_;simp only[qGL,qml,qi];refine way (a:=qcq t) (waG ?_) (waz _);simp only[qCq,qja,qi];have o:=qQl t 1 (by omega) [] (by rw[wT];omega);rw[xc]at o;rw[<-v];refine way o (way (a:=((),b,())) (waG ?_) (waE rfl));simp only[qAj,qex];refine way e1 (waC (by simp[s]) (way A ?_))
 have f:=qt (P:=λ i=>Ev (λ m k=>JK m k b.length i b) ((),b,())) b (by omega)
  (λ g=>by
   refine waF ?_;simp only[qmS,qer];exact waD g (waz _))
  (λ i x c G g r y z=>by
   refine waF ?_;simp only[qmS,qer,qi];refine waC g (waA r (way (quK x (l x ((h x).1 (wb c)))) (waA r ?_)));rw[y]
   have e:yF b (i:Int) x=b:=by
    rw[qeM];apply kY;intro j;by_cases q:i=j
    .subst q;rw[List.getElem?_set_self (getElem?_lt c)];exact c.symm
    .rw[List.getElem?_set_ne q]
   rw[e];exact z)
 exact waH (L:=λ m k=>JK m k b.length 0 b) (f 0 (wg _))
theorem qNT(t:T)(a:size t<=10000):Ev (λ m _=>qkL m t) (qcq t):=by
 refine waG ?_;simp only[qFa,qkj,qi];exact way (qNw t 1 a) (waz _)
end Go.AmZ
namespace Go.AmZ
open Go Go.GxZ
abbrev KM:=List ((List UInt8×Int)×T)
abbrev eqK:List UInt8×Int->List UInt8×Int->Bool:=veq (.pair .str (.int .i64))
theorem qTp{a b:List UInt8×Int}:eqK a b=true↔a=b:=by
 show(qu a.1 b.1&&ieq a.2 b.2)=true↔_;rw[wc,zM,qk,Prod.ext_iff]
theorem qAz{K V:Type}[DecidableEq K]{e:K->K->Bool}(d:∀{a b},e a b=true↔a=b)(v:V)(c k:K):∀s:List (K×V),Qy e (qcb e s k v) c=if c=k then some v else Qy e s c
 |[]=>by
   show cond (e c k) (some v) none=_;by_cases h:c=k
   .rw[d.2 h,if_pos h];rfl
   .rw[xm.2 λ g=>h (d.1 g),if_neg h];rfl
 |p::s=>by
   show Qy e (cond (e k p.1) ((p.1,v)::s) (p::qcb e s k v)) c=if c=k then some v else cond (e c p.1) (some p.2) (Qy e s c);have i:=qAz d v c k s;by_cases f:k=p.1
   .rw[d.2 f];show cond (e c p.1) (some v) (Qy e s c)=_;grind
   .rw[xm.2 λ g=>f (d.1 g)];show cond (e c p.1) (some p.2) (Qy e (qcb e s k v) c)=_;grind
theorem qvp(v:T)(a k:List UInt8×Int)(s:KM):Qy eqK (qcb eqK s k v) a=if a=k then some v else Qy eqK s a:=qAz qTp v a k s
def kOf(x:T):List UInt8×Int:=(x.name,x.sort)
def qst(p t:T):Bool:=decide (p.sort=0\/(t.kind≠3/\t.sort=p.sort))
def qzj(p t:T):Bool:=decide (qB p=0/\qB t=0/\p.kind=1)&&qst p t
def alk(p t:T):Bool:=decide (p.kind=3/\t.kind=3/\p.name=t.name/\p.kids.length=t.kids.length)
def mtL{S:Type}:List (T->S->S×Bool)->List T->S->S×Bool
 |r::a,k::ks,s=>if(r k s).2=true then mtL a ks (r k s).1 else((r k s).1,false)
 |_,_,s=>(s,true)
def mtP:T->T->KM->KM×Bool:=T.para λ p a t s=>
 if p.kind=1 then(match Qy eqK s (kOf p)with
  |some u=>(s,zi u t)
  |none=>(qcb eqK s (kOf p) t,qzj p t))
 else if alk p t=false then(s,zi p t)else mtL a t.kids s
def mtR:T->T->List (T×T)->List (T×T)×Bool:=T.para λ p a t s=>
 if p.kind=1 then(s++[(p,t)],qst p t)else if p.kind=2 then(s,zi p t)else if alk p t=false then(s,false)else mtL a t.kids s
theorem qF6(p t:T)(s:KM):mtP p t s=if p.kind=1 then(match Qy eqK s (kOf p)with
  |some u=>(s,zi u t)
  |none=>(qcb eqK s (kOf p) t,qzj p t))
 else if alk p t=false then(s,zi p t)else mtL (p.kids.map mtP) t.kids s:=by
 unfold mtP;rw[T.para_eq]
theorem qlI(p t:T)(s:List (T×T)):mtR p t s=if p.kind=1 then(s++[(p,t)],qst p t)else if p.kind=2 then(s,zi p t)else if alk p t=false then(s,false)else mtL (p.kids.map mtR) t.kids s:=by
 unfold mtR;rw[T.para_eq]
theorem qIe(p:T):∀t s,mtR p t s=(s++(mtR p t []).1,(mtR p t []).2):=by
 induction p using T.ind with
 |h p i=>
   intro t s
   have e:∀(ps:List T),(∀x∈ps,∀t s,mtR x t s=(s++(mtR x t []).1,(mtR x t []).2))->∀ts s,mtL (ps.map mtR) ts s=(s++(mtL (ps.map mtR) ts []).1,(mtL (ps.map mtR) ts []).2):=by
    intro ps
    induction ps with
    |nil=>intro _ ts s;simp[mtL]
    |cons x ps b=>
      intro c ts s;have g:=c x (wh ..);have d:=b λ y f=>c y (we _ f);cases ts with
      |nil=>simp[mtL]
      |cons y ts=>
        rw[wk,mtL,mtL,g y s];simp only;by_cases a:(mtR x y []).2=true
        .rw[if_pos a,if_pos a,d ts (s++_),d ts (mtR x y []).1,wn]
        .rw[if_neg a,if_neg a]
   rw[qlI,qlI];grind
theorem qiK:∀(ps ts:List T) (s:List (T×T)),mtL (ps.map mtR) ts s=(s++(mtL (ps.map mtR) ts []).1,(mtL (ps.map mtR) ts []).2)
 |[],ts,s|x::ps,[],s=>by simp[mtL]
 |x::ps,y::ts,s=>by
   rw[wk,mtL,mtL,qIe x y s];simp only;by_cases a:(mtR x y []).2=true
   .rw[if_pos a,if_pos a,qiK ps ts (s++_),qiK ps ts (mtR x y []).1,wn]
   .rw[if_neg a,if_neg a]
theorem qHo(p:T):∀t,(mtR p t []).1.length<=size p:=by
 induction p using T.ind with
 |h p k=>
   intro t
   have g:∀(ps:List T),(∀x∈ps,∀t,(mtR x t []).1.length<=size x)->∀ts,(mtL (ps.map mtR) ts []).1.length<=(ps.map size).sum:=by
    intro ps
    induction ps with
    |nil=>intro _ ts;simp[mtL]
    |cons x ps c=>
      intro e ts;have b:=e x (wh ..);have a:=c λ y i=>e y (we _ i);cases ts with
      |nil=>simp[mtL]
      |cons y ts=>
        rw[wk,mtL,wk,kO];have d:=b y;by_cases f:(mtR x y []).2=true
        .rw[if_pos f];have l:=a ts;rw[qiK,wd];omega
        .rw[if_neg f];simp only;omega
   have j:=size_pos p;rw[qlI];by_cases b:p.kind=1
   .rw[if_pos b];simpa using j
   .rw[if_neg b];by_cases a:p.kind=2
    .rw[if_pos a];simp
    .rw[if_neg a];by_cases d:alk p t=false
     .rw[if_pos d];simp
     .rw[if_neg d,qU];grind
end Go.AmZ
namespace Go.AmZ
open Go Go.GxZ
theorem qNe(p t:T)(hp:size p<=1000000000)(ht:size t<=1000000000):Ev (λ m _=>qfU m p t) (qzj p t):=by
 refine waG ?_;simp only[qEq,qkf,qi];unfold qzj qst;refine way (Jr p hp) ?_;by_cases h1:qB p=0
 case neg=>exact waC (bnt.2 (qh.2 h1)) (waE (by simp[h1]))
 refine waD (bnf.2 (qk.2 h1)) (way (Jr t ht) ?_);by_cases h2:qB t=0
 case neg=>exact waC (bnt.2 (qh.2 h2)) (waE (by simp[h2]))
 refine waD (bnf.2 (qk.2 h2)) ?_;by_cases h3:p.kind=1
 case neg=>exact waC (bnt.2 (qh.2 h3)) (waE (by simp[h3]))
 refine waD (bnf.2 (qk.2 h3)) ?_;by_cases h4:p.sort=0
 ·exact waC (qk.2 h4) (waE (by simp[h1,h2,h3,h4]))
 refine waD (qh.2 h4) ?_;by_cases h5:t.kind=3
 ·exact waD (bnf.2 (qk.2 h5)) (waE (by simp[h4,h5]))
 ·refine waC (bnt.2 (qh.2 h5)) (waE ?_);grind [qk,qh]
theorem qOf(p t:T):Ev (λ m _=>qkN m p t) (qst p t):=by
 refine waG ?_;simp only[qDT,qka];unfold qst;by_cases a:p.sort=0
 .exact waC (qk.2 a) (waE (by simp[a]))
 refine waD (qh.2 a) ?_;by_cases b:t.kind=3
 .exact waD (bnf.2 (qk.2 b)) (waE (by simp[a,b]))
 .refine waC (bnt.2 (qh.2 b)) (waE ?_);grind [qk,qh]
theorem qOe(p t:T):Ev (λ m _=>qgd m p t) (alk p t):=by
 refine waG ?_;simp only[qCs,qiP];unfold alk;by_cases h1:p.kind=3
 case neg=>exact waD (qh.2 h1) (waE (by simp[h1]))
 refine waC (qk.2 h1) ?_;by_cases h2:t.kind=3
 case neg=>exact waD (qh.2 h2) (waE (by simp[h2]))
 refine waC (qk.2 h2) ?_;by_cases h3:p.name=t.name
 case neg=>exact waD (ye.2 h3) (waE (by simp[h3]))
 refine waC (zM.2 h3) (waE ?_);grind [qk,qh]
theorem qLI(p t:T):Ev (λ m _=>qkW m p t) (alk p t):=by
 refine waG ?_;simp only[qE4,qkh];unfold alk;by_cases h1:p.kind=3
 case neg=>exact waD (qh.2 h1) (waE (by simp[h1]))
 refine waC (qk.2 h1) ?_;by_cases h2:t.kind=3
 case neg=>exact waD (qh.2 h2) (waE (by simp[h2]))
 refine waC (qk.2 h2) ?_;by_cases h3:p.name=t.name
 case neg=>exact waD (ye.2 h3) (waE (by simp[h3]))
 refine waC (zM.2 h3) (waE ?_);grind [qk,qh]
theorem quw(a b:T)(d:size a<=1000000000)(c:size b<=1000000000):Ev (λ m _=>qaK m a b) (zi a b):=by
 refine waG ?_;simp only[qE5,qjY,qi];exact way (qcd a d b c) (waE (qyP a b))
theorem qD7(x:T):Ev (λ m _=>qdc m x) (kOf x):=waG (waN (waz (kOf x)) λ _ _=>rfl)
theorem qN6(x:T):Ev (λ m _=>qaT m x) (ieq x.kind 1):=waG (waN (waz (ieq x.kind 1)) λ _ _=>rfl)
def SmK(n:Nat)(s:KM):Prop:=∀k v,Qy eqK s k=some v->size v<=n
theorem SmK.put{n:Nat}{s:KM}(h:SmK n s){t:T}(b:size t<=n)(k:List UInt8×Int):SmK n (qcb eqK s k t):=λ c v a=>by
 rw[qvp]at a;split at a
 .cases a;exact b
 .exact h _ _ a
theorem qLP(n:Nat)(p:T):∀t s,SmK n s->size t<=n->SmK n (mtP p t s).1:=by
 induction p using T.ind with
 |h p j=>
   intro t s b g
   have c:∀(ps:List T),(∀x∈ps,∀t s,SmK n s->size t<=n->SmK n (mtP x t s).1)->∀ts s,SmK n s->(∀y∈ts,size y<=n)->SmK n (mtL (ps.map mtP) ts s).1:=by
    intro ps
    induction ps with
    |nil=>intro _ ts s h _;simpa[mtL]using h
    |cons x ps d=>
      intro f ts s h a;cases ts with
      |nil=>simpa[mtL]using h
      |cons y ts=>
        have i:=f x (wh ..) y s h (a y (wh ..));rw[wk,mtL];split
        .exact d (λ z e=>f z (we _ e)) ts _ i λ z e=>a z (we _ e)
        .exact i
   rw[qF6];split
   .split
    .exact b
    .exact b.put g _
   .split
    .exact b
    .exact c p.kids j t.kids s b λ y k=>wz (xl (yu t y k)) g
theorem qJW{p t:T}(h:alk p t=true):p.kids.length=t.kids.length:=(of_decide_eq_true h).2.2.2
theorem qPA(p:T):∀t s,size p<=1000000->size t<=1000000->SmK 1000000 s->Ev (λ m _=>Qa m p t s) (((mtP p t s).1,()),((mtP p t s).2,())):=by
 induction p using T.ind with
 |h p r=>
   intro t s H G c;refine waG ?_;simp only[qCC,qfp,qi];rw[qF6];refine way (qN6 p) ?_;by_cases e:p.kind=1
   .rw[if_pos e];refine waC (qk.2 e) (way (qD7 p) ?_);show Ev (λ m _=>cond (qmo eqK s (kOf p)) (qb (qaK m (qd3 eqK (T.mk 0 [] 0 []) s (kOf p)) t) _) (qb (qdc m p) _)) _;cases b:Qy eqK s (kOf p)with
    |some u=>
      have e1:qmo eqK s (kOf p)=true:=by unfold qmo;rw[b];rfl
      have D:qd3 eqK (T.mk 0 [] 0 []) s (kOf p)=u:=by unfold qd3;rw[b];rfl
      have:=c _ _ b;rw[D];exact waC e1 (way (quw u t (by omega) (by omega)) (waz _))
    |none=>
      have e1:qmo eqK s (kOf p)=false:=by unfold qmo;rw[b];rfl
      exact waD e1 (way (qD7 p) (way (qNe p t (by omega) (by omega)) (waz _)))
   .rw[if_neg e];refine waD (qh.2 e) (way (qOe p t) ?_);cases C:alk p t with
    |false=>
      rw[if_pos rfl];exact waC rfl (way (quw p t (by omega) (by omega)) (waz _))
    |true=>
      rw[if_neg (by decide)];refine waD rfl ?_;have q:=qJW C;have v:=yx p
      have f:=qt (P:=λ i=>∀s,SmK 1000000 s->Ev (λ m k=>qbM m (Qa m) k p.kids.length i s p.kind p.name p.sort p.kids t.kind t.name t.sort t.kids) (((mtL ((p.kids.drop i).map mtP) (t.kids.drop i) s).1,()),((mtL ((p.kids.drop i).map mtP) (t.kids.drop i) s).2,()))) p.kids (by omega)
       (λ l s _=>by
        refine waF ?_;simp only[qoR,qfN];refine waD l ?_;rw[wJ];exact waE (by simp[mtL]))
       (λ i x n A l b z B s c=>by
        refine waF ?_;simp only[qoR,qfN,qi];have w:=getElem?_lt n;obtain⟨y,d⟩:∃y,t.kids[i]?=some y:=⟨_,List.getElem?_eq_getElem (by omega)⟩
        have o:=wb n;have g:=wb d;have F:=yu p x o;have E:=yu t y g
        have j:t.kids.drop i=y::t.kids.drop (i+1):=by
         rw[xL (by omega)];rw[List.getElem?_eq_getElem (by omega)]at d;rw[kz d]
        refine waC l (waA b (waA (a:=y) (by rw[zF];exact d) (way (r x o y s (by omega) (by omega) c) ?_)));rw[A,j,wk,mtL];cases I:(mtP x y s).2 with
        |false=>rw[if_neg (by decide)];exact waC rfl (waz _)
        |true=>
          rw[if_pos rfl];refine waD rfl ?_;rw[z];exact B _ (qLP 1000000 x y s c (by omega)))
      have:=f 0 (wg _) s c;grind [Ev.diag]
theorem qLW(p:T):∀t s,size t<=1000000->s.length+size p<=1000000->Ev (λ m _=>jP m p t s) ((),((mtR p t s).1,((mtR p t s).2,()))):=by
 induction p using T.ind with
 |h p u=>
   intro t s F f;have G:=size_pos p;refine waG ?_;simp only[qCE,qfw,qi];rw[qlI];by_cases d:p.kind=1
   .rw[if_pos d];exact waC (qk.2 d) (waC (zd (by omega) (by omega)) (way (qOf p t) (waz _)))
   .rw[if_neg d];refine waD (qh.2 d) ?_;by_cases c:p.kind=2
    .rw[if_pos c];exact waC (qk.2 c) (way (QF p t (by omega) (by omega)) (waz _))
    rw[if_neg c];refine waD (qh.2 c) (way (qLI p t) ?_);cases D:alk p t with
    |false=>
      rw[if_pos rfl];exact waC rfl (waz _)
    |true=>
      rw[if_neg (by decide)];refine waD rfl ?_;have o:=qJW D;have z:=yx p
      have stop:∀(i:Nat) (s:List (T×T)),Ev (λ m k=>qaw m (jP m) k false i p.kind p.name p.sort p.kids t.kind t.name t.sort t.kids s) ((),(s,(false,()))):=λ i s=>by
       refine waF ?_;simp only[qi9,qc8];exact waB (λ _=>waz _) λ _=>waz _
      have e:=qt (P:=λ i=>∀s:List (T×T),s.length+szL (p.kids.drop i)<=1000000->Ev (λ m k=>qaw m (jP m) k true i p.kind p.name p.sort p.kids t.kind t.name t.sort t.kids s) ((),((mtL ((p.kids.drop i).map mtR) (t.kids.drop i) s).1,((mtL ((p.kids.drop i).map mtR) (t.kids.drop i) s).2,())))) p.kids (by omega)
       (λ l s _=>by
        refine waF ?_;simp only[qi9,qc8];refine waD l ?_;rw[wJ];exact waE (by simp[mtL]))
       (λ i x n r l B q C s f=>by
        refine waF ?_;simp only[qi9,qc8,qi];have A:=getElem?_lt n;obtain⟨y,b⟩:∃y,t.kids[i]?=some y:=⟨_,List.getElem?_eq_getElem (by omega)⟩
        have w:=wb n;have g:=wb b;have E:=yu t y g
        have j:t.kids.drop i=y::t.kids.drop (i+1):=by
         rw[xL (by omega)];rw[List.getElem?_eq_getElem (by omega)]at b;rw[kz b]
        rw[r,zr]at f;refine waC l (waC rfl (waA B (waA (a:=y) (by rw[zF];exact b) (way (u x w y s (by omega) (by omega)) ?_))));rw[r,j,wk,mtL];have H:=qHo x y;have v:=qIe x y s;cases I:(mtR x y s).2 with
        |false=>rw[if_neg (by decide)];simp only;rw[q];exact stop (i+1) _
        |true=>
          rw[if_pos rfl];simp only;rw[q];refine C _ ?_;rw[v];simp only[wd];omega)
      have:=e 0 (wg _) s (by rw[wH];rw[qU]at f;unfold szL;omega);grind [Ev.diag]
end Go.AmZ
namespace Go.AmZ
open Go Go.GxZ
theorem qTl{x y:Int}(h:thn x y=0):x=0/\y=0:=by
 unfold thn at h;by_cases a:x=0
 .rw[if_pos a]at h;exact⟨a,h⟩
 .rw[if_neg a]at h;exact absurd h a
theorem qn0:∀(l:List Int) (x:Int),l.foldl thn x=0->x=0/\∀y∈l,y=0
 |[],x,h=>⟨h,by simp⟩
 |y::l,x,h=>by
   let⟨f,d⟩:=qn0 l (thn x y) h;let⟨c,b⟩:=qTl f;exact⟨c,λ z a=>(wv.1 a).elim (λ e=>e▸b) (d z)⟩
theorem qiI{t:T}(h:qB t=0):Qm t=0/\size t<=400/\qak t<=40:=by
 unfold qB at h;by_cases a:Qm t=0
 .rw[if_neg (λ g=>g a)]at h;by_cases b:400<size t\/40<qak t
  .rw[if_pos b]at h;cases h
  .exact⟨a,by omega,by omega⟩
 .rw[if_pos a]at h;exact absurd h a
theorem qmM{t k:T}(h:qB t=0)(c:k∈t.kids):qB k=0:=by
 let⟨d,o,n⟩:=qiI h;rw[qeS]at d;have i:=(qn0 _ _ d).2 _ (kH c);have m:=yu t k c
 have j:qak k<=qak t:=by
  rw[qiO t]
  have:∀(l:List Nat) (a x:Nat),x∈l->x<=l.foldl max a:=by
   intro l
   induction l with
   |nil=>intro a x b;cases b
   |cons y l e=>
     intro a x b;obtain rfl|b:=wv.1 b
     .exact wz (wae a x) (qEI l _)
     .exact e _ x b
  have:=this _ 0 _ (kH (f:=qak) c);omega
 unfold qB;rw[if_neg (λ g=>g i),if_neg (by omega)]
theorem qkE{t:T}(h:qB t=0):((t.kind=1\/t.kind=2)/\t.kids=[])\/t.kind=3:=by
 have d:=(qiI h).1;rw[qeS]at d;have a:=(qn0 _ _ d).1;unfold jS qjg at a;by_cases c:t.kind=1\/t.kind=2
 .rw[if_pos c]at a;by_cases b:t.sort<0\/5<t.sort\/0<t.kids.length
  .rw[if_pos b]at a;cases a
  .exact .inl ⟨c,wi (by omega)⟩
 .rw[if_neg c]at a;by_cases b:t.kind=3
  .exact .inr b
  .rw[if_neg b]at a;cases a
end Go.AmZ
namespace Go.AmZ
open Go Go.GxZ
def qTx(so:Int)(v:T):Prop:=so=0\/(v.kind≠3/\v.sort=so)
def qKe(s:KM):Prop:=∀k v,Qy eqK s k=some v->qTx k.2 v
def qaY:List (T×T)->KM->KM×Bool
 |[],s=>(s,true)
 |a::l,s=>match Qy eqK s (kOf a.1)with
   |some v=>if v=a.2 then qaY l s else(s,false)
   |none=>qaY l (qcb eqK s (kOf a.1) a.2)
theorem qvH:∀(a b:List (T×T)) (s:KM),qaY (a++b) s=if(qaY a s).2=true then qaY b (qaY a s).1 else qaY a s
 |[],b,s=>rfl
 |x::a,b,s=>by
   rw[wai,qaY,qaY];cases Qy eqK s (kOf x.1)with
   |some v=>
     simp only;by_cases h:v=x.2
     .rw[if_pos h,if_pos h];exact qvH a b s
     .rw[if_neg h,if_neg h];rfl
   |none=>exact qvH a b _
def qS0(p:T):Prop:=∀t s,qB p=0->qB t=0->qKe s->
 ((mtP p t s).2=true↔(mtR p t []).2=true/\(qaY (mtR p t []).1 s).2=true)/\((mtP p t s).2=true->(mtP p t s).1=(qaY (mtR p t []).1 s).1/\qKe (mtP p t s).1)
theorem qRy:∀(ps:List T),(∀x∈ps,qS0 x)->(∀x∈ps,qB x=0)->∀(ts:List T),(∀y∈ts,qB y=0)->∀s,qKe s->
  ((mtL (ps.map mtP) ts s).2=true↔(mtL (ps.map mtR) ts []).2=true/\(qaY (mtL (ps.map mtR) ts []).1 s).2=true)/\((mtL (ps.map mtP) ts s).2=true->(mtL (ps.map mtP) ts s).1=(qaY (mtL (ps.map mtR) ts []).1 s).1/\qKe (mtL (ps.map mtP) ts s).1)
 |[],_,_,ts,_,s,c|x::ps,_,_,[],_,s,c=>by simp[mtL,qaY,c]
 |x::ps,i,j,y::ts,g,s,c=>by
   let⟨f,l⟩:=i x (wh ..) y s (j x (wh ..)) (g y (wh ..)) c;have k:=qRy ps (λ z b=>i z (we _ b)) (λ z b=>j z (we _ b)) ts λ z b=>g z (we _ b);rw[wk,wk,mtL,mtL];by_cases e:(mtR x y []).2=true
   .rw[if_pos e,qiK];simp only[qvH];by_cases d:(qaY (mtR x y []).1 s).2=true
    .rw[if_pos d];have a:=f.2 ⟨e,d⟩;let⟨n,m⟩:=l a;rw[if_pos a,<-n];exact k (mtP x y s).1 m
    .rw[if_neg d];have a:¬ (mtP x y s).2=true:=λ h=>d (f.1 h).2;rw[if_neg a];exact⟨⟨λ h=>absurd h kE,λ h=>absurd h.2 d⟩,λ h=>absurd h kE⟩
   .have a:¬ (mtP x y s).2=true:=λ h=>e (f.1 h).1;rw[if_neg e,if_neg a];exact⟨⟨λ h=>absurd h kE,λ h=>absurd h.1 kE⟩,λ h=>absurd h kE⟩
theorem qP9(p:T):qS0 p:=by
 induction p using T.ind with
 |h p m=>
   intro t s g i b;rw[qF6,qlI];by_cases c:p.kind=1
   .have r:qzj p t=qst p t:=by unfold qzj;rw[decide_eq_true ⟨g,i,c⟩,wV]
    rw[if_pos c,if_pos c];simp only[xc,qaY];cases q:Qy eqK s (kOf p)with
    |some u=>
      simp only;by_cases f:u=t
      .subst f;have:qst p u=true:=decide_eq_true (b _ _ q);simp[ym.2 rfl,this,b]
      .have:zi u t=false:=xm.2 λ h=>f (ym.1 h);simp[f,this]
    |none=>
      simp only;rw[r];refine⟨⟨λ h=>⟨h,trivial⟩,λ h=>h.1⟩,λ h=>⟨trivial,λ k v d=>?_⟩⟩;rw[qvp]at d;split at d
      .rename_i e;cases d;subst e;have z:p.sort=0\/(t.kind≠3/\t.sort=p.sort):=of_decide_eq_true h;exact z
      .exact b _ _ d
   .rw[if_neg c,if_neg c];by_cases l:p.kind=2
    .have a:alk p t=false:=decide_eq_false λ h=>by have:=h.1;omega
     rw[if_pos l,if_pos a];simp[qaY,b]
    .rw[if_neg l];by_cases a:alk p t=false
     .have j:p.kind=3:=(qkE g).elim (λ h=>absurd h.1 (by omega)) id
      have w:zi p t=false:=xm.2 λ h=>by
       have:=ym.1 h;subst this;exact of_decide_eq_false a ⟨j,j,rfl,rfl⟩
      rw[if_pos a,if_pos a];simp[w]
     .rw[if_neg a,if_neg a];exact qRy p.kids m (λ x o=>qmM g o) t.kids (λ y n=>qmM i n) s b
theorem qHj(p:T):∀t,qB p=0->(mtR p t []).2=true->(mtR p t []).1.map Prod.fst=zP 1 p:=by
 induction p using T.ind with
 |h p n=>
   intro t k a;rw[qlI]at a |-
   rw[qmP];by_cases f:p.kind=1
   .have e:p.kids=[]:=(qkE k).elim (λ h=>h.2) λ h=>by omega
    rw[if_pos f,if_pos f,e];rfl
   .rw[if_neg f]at a |-
    rw[if_neg f,xc];by_cases e:p.kind=2
    .have b:p.kids=[]:=(qkE k).elim (λ h=>h.2) λ h=>by omega
     rw[if_pos e,b];rfl
    .rw[if_neg e]at a |-
     by_cases b:alk p t=false
     .rw[if_pos b]at a;cases a
     .rw[if_neg b]at a |-
      have d:=qJW (by simpa using b)
      have g:∀(ps:List T),(∀x∈ps,∀t,qB x=0->(mtR x t []).2=true->(mtR x t []).1.map Prod.fst=zP 1 x)->(∀x∈ps,qB x=0)->∀ts:List T,ps.length=ts.length->(mtL (ps.map mtR) ts []).2=true->(mtL (ps.map mtR) ts []).1.map Prod.fst=(ps.map (zP 1)).flatten:=by
       intro ps
       induction ps with
       |nil=>intro _ _ ts _ _;simp[mtL]
       |cons x ps i=>
         intro c m ts d a;cases ts with
         |nil=>cases d
         |cons y ts=>
           rw[wk,mtL]at a |-
           by_cases l:(mtR x y []).2=true
           .rw[if_pos l,qiK]at a |-
            rw[wZ,wk,vB,c x (wh ..) y (m x (wh ..)) l];rw[i (λ z j=>c z (we _ j)) (λ z j=>m z (we _ j)) ts (by simpa using d) a]
           .rw[if_neg l]at a;cases a
      exact g p.kids n (λ x c=>qmM k c) t.kids d a
theorem qrG{p:T}:qB p=0->∀x∈zP 1 p,x.kind=1/\x.kids=[]:=by
 induction p using T.ind with
 |h p d=>
   intro b x a;rw[qmP,wj]at a;obtain a|a:=a
   .split at a
    .rename_i f;rw[wD]at a;subst a;exact⟨f,(qkE b).elim (λ h=>h.2) λ h=>by omega⟩
    .cases a
   .let⟨l,e,a⟩:=wal.1 a;obtain⟨k,c,rfl⟩:=wC.1 e;exact d k c (qmM b c) x a
theorem qPZ{x y:T}(b:x.kind=1/\x.kids=[])(a:y.kind=1/\y.kids=[])(h:kOf x=kOf y):x=y:=by
 cases x;cases y;obtain⟨rfl,rfl⟩:=b;obtain⟨rfl,rfl⟩:=a;cases h;rfl
def lkA(l:List (T×T))(x:T):Option T:=(l.find? λ a=>zi a.1 x).map Prod.snd
theorem qpc(a:T×T)(l:List (T×T))(x:T):lkA (a::l) x=if a.1=x then some a.2 else lkA l x:=by
 unfold lkA;rw[List.find?_cons];by_cases h:a.1=x
 .rw[ym.2 h,if_pos h];rfl
 .rw[show zi a.1 x=false from xm.2 λ g=>h (ym.1 g),if_neg h]
theorem qIg:∀(l:List (T×T)),(∀a∈l,a.1.kind=1/\a.1.kids=[])->∀s:KM,
  ((qaY l s).2=true↔(∀a∈l,∀v,Qy eqK s (kOf a.1)=some v->v=a.2)/\l.Pairwise λ a b=>a.1=b.1->a.2=b.2)
  /\ ((qaY l s).2=true->∀x:T,x.kind=1/\x.kids=[]->Qy eqK (qaY l s).1 (kOf x)=match Qy eqK s (kOf x)with|some v=>some v|none=>lkA l x)
 |[],_,s=>by
   refine⟨by simp[qaY],λ _ x _=>?_⟩;show Qy eqK s (kOf x)=_;cases Qy eqK s (kOf x)<;>rfl
 |a::l,n,s=>by
   have u:=n a (wh ..);have t:=qIg l λ b c=>n b (we _ c);rw[qaY];cases f:Qy eqK s (kOf a.1)with
   |some v=>
     simp only;by_cases h:v=a.2
     .rw[if_pos h];let⟨q,p⟩:=t s;refine⟨q.trans ⟨λ⟨i,j⟩=>⟨λ b c w d=>?_,xH.2 ⟨λ b c e=>?_,j⟩⟩,λ⟨i,j⟩=>⟨λ b c=>i b (we _ c),(xH.1 j).2⟩⟩,λ k x m=>?_⟩
      .obtain rfl|c:=wv.1 c
       .rw[f]at d;cases d;exact h
       .exact i b c w d
      .have:=i b c v (by rw[<-e];exact f);rw[<-h,this]
      .rw[p k x m,qpc];cases r:Qy eqK s (kOf x)with
       |some w=>rfl
       |none=>rw[if_neg (λ e=>by rw[e,r]at f;cases f)]
     .rw[if_neg h];exact⟨⟨λ g=>absurd g kE,λ g=>absurd (g.1 a (wh ..) v f) h⟩,λ g=>absurd g kE⟩
   |none=>
     simp only;let⟨q,p⟩:=t (qcb eqK s (kOf a.1) a.2)
     have o:∀x:T,x.kind=1/\x.kids=[]->Qy eqK (qcb eqK s (kOf a.1) a.2) (kOf x)=if a.1=x then some a.2 else Qy eqK s (kOf x):=λ x m=>by
      rw[qvp];by_cases e:a.1=x
      .rw[if_pos e,if_pos (by rw[e])]
      .rw[if_neg e,if_neg λ g=>e (qPZ u m g.symm)]
     refine⟨q.trans ⟨λ⟨i,j⟩=>⟨λ b c w d=>?_,xH.2 ⟨λ b c e=>?_,j⟩⟩,λ⟨i,j⟩=>⟨λ b c w d=>?_,(xH.1 j).2⟩⟩,λ k x m=>?_⟩
     .obtain rfl|c:=wv.1 c
      .rw[f]at d;cases d
      .refine i b c w ?_;rw[o _ (n b (we _ c)),if_neg λ e=>by rw[e,d]at f;cases f];exact d
     .exact i b c a.2 (by rw[o _ (n b (we _ c)),if_pos e])
     .rw[o _ (n b (we _ c))]at d;split at d
      .rename_i e;cases d;exact(xH.1 j).1 b c e
      .exact i b (we _ c) w d
     .rw[p k x m,o x m,qpc];by_cases e:a.1=x
      .rw[if_pos e,if_pos e,<-e,f]
      .rw[if_neg e,if_neg e]
theorem qPl{l:List (T×T)}{x:T}(h:x∈l.map Prod.fst):∃u,lkA l x=some u:=by
 induction l with
 |nil=>cases h
 |cons a l b=>
   rw[qpc];by_cases e:a.1=x
   .exact⟨_,if_pos e⟩
   .rw[if_neg e];obtain h|h:=wv.1 h
    .exact absurd h.symm e
    .exact b h
end Go.AmZ
namespace Go.AmZ
open Go Go.GxZ
theorem qKv(p:T):∀t,∀a∈(mtR p t []).1,size a.1<=size p/\size a.2<=size t:=by
 induction p using T.ind with
 |h p l=>
   intro t a b
   have e:∀(n m:Nat) (ps:List T),(∀x∈ps,size x<=n/\∀t,∀a∈(mtR x t []).1,size a.1<=size x/\size a.2<=size t)->∀ts:List T,(∀y∈ts,size y<=m)->∀a∈(mtL (ps.map mtR) ts []).1,size a.1<=n/\size a.2<=m:=by
    intro n m ps
    induction ps with
    |nil=>intro _ ts _ a b;simp[mtL]at b
    |cons x ps f=>
      intro c ts d a b;cases ts with
      |nil=>simp[mtL]at b
      |cons y ts=>
        have j:=c x (wh ..);have q:=d y (wh ..)
        have k:∀a∈(mtR x y []).1,size a.1<=n/\size a.2<=m:=λ a b=>by
         have i:=j.2 y a b;exact⟨wz i.1 j.1,wz i.2 q⟩
        rw[wk,mtL]at b;split at b
        .rw[qiK]at b;obtain b|b:=wj.1 b
         .exact k a b
         .exact f (λ z g=>c z (we _ g)) ts (λ z g=>d z (we _ g)) a b
        .exact k a b
   rw[qlI]at b;split at b
   .grind
   .split at b
    .cases b
    .split at b
     .cases b
     .exact e (size p) (size t) p.kids (λ x c=>⟨xl (yu p x c),l x c⟩) t.kids (λ y o=>xl (yu t y o)) a b
def qSm(l:List (T×T)):Prop:=l.Pairwise λ a b=>a.1=b.1->a.2=b.2
def qgW(l:List (T×T))(x:T):Option (T×T):=match lkA l x with
 |some u=>if zi u x=true then none else some (x,u)
 |none=>none
open Classical in
def ql5(p t:T):List (T×T)×Int:=if(mtR p t []).2=true/\qSm (mtR p t []).1 then((qcq p).filterMap (qgW (mtR p t []).1),0)else([],11)
theorem qHJ(n:Nat):SmK n []:=λ _ _ h=>by cases h
theorem qMx(p t:T)(d:qB p=0)(w:qB t=0):Ev (λ m _=>qjt m p t) (ql5 p t):=by
 obtain⟨_,K,_⟩:=qiI d;obtain⟨_,V,_⟩:=qiI w;refine waG ?_;simp only[qBH,qfG,qi];refine way (a:=0) (waG ?_) ?_
 .simp only[qB7,qiF,qi];refine way (Jr p (by omega)) (waD (by rw[d];rfl) (way (Jr t (by omega)) (waE w)))
 refine waD rfl (way (qPA p t [] (by omega) (by omega) (qHJ _)) ?_);obtain⟨D,J⟩:=qP9 p t [] d w λ _ _ h=>by cases h
 have c:=λ h=>qHj p t d h;have y:=qLP 1000000 p t [] (qHJ _) (by omega);have j:=λ g=>qIg (mtR p t []).1 g [];unfold ql5;by_cases q:(mtP p t []).2=true
 .obtain⟨C,I⟩:=D.1 q;have g:∀a∈(mtR p t []).1,a.1.kind=1/\a.1.kids=[]:=λ a B=>qrG d _ (by rw[<-c C];exact kH B);obtain⟨M,L⟩:=j g;rw[if_pos ⟨C,(M.1 I).2⟩];refine waD (bnf.2 q) (way (qNY p (by omega)) ?_)
  have n:∀x∈qcq p,∃u,lkA (mtR p t []).1 x=some u/\Qy eqK (mtP p t []).1 (kOf x)=some u:=λ x f=>by
   have F:=(qlC p x).1 f;obtain⟨u,r⟩:=qPl (l:=(mtR p t []).1) (by rw[c C];exact F);refine⟨u,r,?_⟩;rw[(J q).1,L I x (qrG d x F)];exact r
  have v:(qcq p).length<=400:=wz (qvk p) K;have e:∀x∈qcq p,size x<=400:=λ x f=>by have:=qjB 1 p x ((qlC p x).1 f);omega
  generalize qcq p=vs at n v e |-
  have s:=qt (P:=λ i=>∀b:List (T×T),b.length+(vs.drop i).length<=400->Ev (λ m k=>qbN m k vs vs.length i (mtP p t []).1 b) (b++(vs.drop i).filterMap (qgW (mtR p t []).1),0)) vs (by omega)
   (λ z b _=>by
    refine waF ?_;simp only[qoH,qfM];refine waD z ?_;rw[wJ];exact waE (by simp))
   (λ i x f G z S R H b Q=>by
    refine waF ?_;simp only[qoH,qfM,qi];have E:=wb f;obtain⟨u,r,o⟩:=n x E;have O:=y _ _ o;have N:=e x E;rw[G,wx]at Q;refine waC z (waA S (way (qD7 x) ?_))
    have U:qd3 eqK (T.mk 0 [] 0 []) (mtP p t []).1 ((kOf x).1,(kOf x).2)=u:=by
     show qd3 eqK _ _ (kOf x)=u;unfold qd3;rw[o];rfl
    rw[U];refine way (quw u x (by omega) (by omega)) ?_;have A:qgW (mtR p t []).1 x=if zi u x=true then none else some (x,u):=by unfold qgW;rw[r]
    rw[G,xk,A,R];cases W:zi u x with
    |true=>exact waD rfl (by rw[if_pos rfl];exact H b (by omega))
    |false=>
      refine waC rfl (waC (zd (by omega) (by omega)) ?_);rw[if_neg (by decide)];have:=H (b++[(x,u)]) (by rw[wd];simp only[wx,wT];omega);rw[wn]at this;exact this)
  have:=s 0 (wg _) [] (by rw[wH,wT];omega);grind [Ev.diag]
 .rw[if_neg λ h=>q (D.2 ⟨h.1,?_⟩)]
  .exact waC (bnt.2 (by simpa using q)) (waz _)
  .have g:∀a∈(mtR p t []).1,a.1.kind=1/\a.1.kids=[]:=λ a B=>qrG d _ (by rw[<-c h.1];exact kH B);exact(j g).1.2 ⟨λ _ _ _ h=>(by cases h),h.2⟩
theorem qLm(p t:T)(hp:qB p=0)(ht:qB t=0):Ev (λ m _=>qjm m p t) (ql5 p t):=by
 obtain⟨_,p1,_⟩:=qiI hp;obtain⟨_,t1,_⟩:=qiI ht;refine waG ?_;simp only[qBR,qfy,qi];refine way (a:=0) (waG ?_) ?_
 ·simp only[qGq,qj3,qi];refine way (qaS p (by omega)) (waD (by rw[hp];rfl) (way (qaS t (by omega)) (waE ht)))
 refine waD rfl (way (qLW p t [] (by omega) (by rw[wT];omega)) ?_);unfold ql5;by_cases hb:(mtR p t []).2=true
 case neg=>exact waC (bnt.2 (by simpa using hb)) (waE (by rw[if_neg λ h=>hb h.1]))
 have hsz:=qKv p t;have hll:=qHo p t;have hfst:=qHj p t hp hb;refine waD (bnf.2 hb) ?_;generalize (mtR p t []).1=l at *;have hvl:(qcq p).length<=400:=wz (qvk p) p1;have hxs:∀ x∈qcq p,size x<=400 := λ x hx=>by have:=qjB 1 p x ((qlC p x).1 hx);omega
 have hsl:∀(i:Nat) (a:T × T),l[i]?=some a->size a.1<=400/\size a.2<=400 := λ i a ha=>by
  grind
 have hget:∀ i,i<l.length->∃ a,l[i]?=some a := λ i hi=>⟨_,List.getElem?_eq_getElem hi⟩
 have fin:Ev (λ m k=>(ql m k).2.2.1 (qcq p) 0 l []) ((qcq p).filterMap (qgW l),0):=by
  generalize qcq p=vs at hvl hxs |-
  have key:=qt (P := λ i=>∀ out:List (T × T),out.length+(vs.drop i).length<=400->Ev (λ m k=>(ql m k).2.2.1 vs i l out) (out++(vs.drop i).filterMap (qgW l),0)) vs (by omega)
   (λ hc out _=>by
    refine waF ?_;simp only[qoJ,qfL];refine waD hc ?_;rw[wJ];exact waE (by simp))
   (λ i x hx hd hc hg hi hP out ho=>by
    refine waF ?_;simp only[qoJ,qfL];refine waC hc ?_;have hzx:=hxs x (wb hx);rw[hd,wx]at ho;rw[hd]
    have inner:=qt (P := λ j=>lkA (l.drop j) x=lkA l x->Ev (λ m k=>(ql m k).2.2.2 vs i j l out) (out++(x::vs.drop (i+1)).filterMap (qgW l),0)) l (by omega)
     (λ hc2 hlk=>by
      refine waF ?_;simp only[qoT,qfv];refine waD hc2 ?_;rw[hi];have hbn:qgW l x=none:=by unfold qgW;rw[<- hlk,wJ];rfl
      rw[xk,hbn];exact hP out (by omega))
     (λ j a ha hda hca hga hja hQ hlk=>by
      refine waF ?_;simp only[qoT,qfv,qi];have hza:=hsl j a ha;refine waC hca (waA hga (waA hg (way (QF a.1 x (by omega) (by omega)) ?_)));rw[hda,qpc]at hlk;cases hs:zi a.1 x with
      | false =>
        refine waD rfl ?_;rw[hja];exact hQ (by rw[<- hlk,if_neg λ e=>by rw[ym.2 e]at hs;cases hs])
      | true =>
        rw[if_pos (ym.1 hs)]at hlk;have hbn:qgW l x=if zi a.2 x=true then none else some (x,a.2):=by unfold qgW;rw[<- hlk]
        refine waC rfl (waA hga (waA hg (way (QF a.2 x (by omega) (by omega)) ?_)));rw[xk,hbn,hi];cases hs2:zi a.2 x with
        | true=>exact waD rfl (by rw[if_pos rfl];exact hP out (by omega))
        | false =>
          refine waC rfl (waA hg (waA hga (waC (zd (by omega) (by omega)) ?_)));rw[if_neg (by decide)];have:=hP (out++[(x,a.2)]) (by rw[wd];simp only[wx,wT];omega);rw[wn]at this;exact this)
    have:=inner 0 (wg _) (by rw[wH]);exact this)
  have:=key 0 (wg _) [] (by rw[wH,wT];omega);grind
 have inner:∀(i:Nat) (a:T × T),l[i]?=some a->∀ R,(Ev (λ m k=>(ql m k).1 ((i+1:Nat):Int) p.kind p.name p.sort p.kids l) R)->∀ d j,i=j+d ->
   ((∃ j' b,j<=j'/\j'<i/\l[j']?=some b/\b.1=a.1/\b.2≠a.2)->Ev (λ m k=>(ql m k).2.1 i j p.kind p.name p.sort p.kids l) ([],11)) /\
   ((¬ ∃ j' b,j<=j'/\j'<i/\l[j']?=some b/\b.1=a.1/\b.2≠a.2)->Ev (λ m k=>(ql m k).2.1 i j p.kind p.name p.sort p.kids l) R):=by
  intro i a ha R hR d;have hil:=getElem?_lt ha;have hza:=hsl i a ha
  induction d with
  | zero =>
    intro j hj;obtain rfl:i=j:=by omega
    refine⟨λ⟨j',b,h1,h2,_⟩=>by omega,λ _=>waF ?_⟩;simp only[qiR,qcV];refine waD (qx.2 (by omega)) ?_;rw[show iw .i64 (qf (i:Int) 1)=((i+1:Nat):Int)from by rw[show(1:Int)=((1:Nat):Int)from rfl,qeF,jN (by omega)]];exact hR
  | succ d ih =>
    intro j hj;obtain⟨b,hb⟩:=hget j (by omega);have hzb:=hsl j b hb;obtain⟨i1,i2⟩:=ih (j+1) (by omega);have ga:qd l (i:Int)=some a:=by rw[zF];exact ha
    have gb:qd l (j:Int)=some b:=by rw[zF];exact hb
    have hj1:iw .i64 (qf (j:Int) 1)=((j+1:Nat):Int):=by rw[show(1:Int)=((1:Nat):Int)from rfl,qeF,jN (by omega)]
    have step:∀ X,(¬ (b.1=a.1/\b.2≠a.2))->Ev (λ m k=>(ql m k).2.1 i ((j+1:Nat):Int) p.kind p.name p.sort p.kids l) X->Ev (λ m k=>(ql m k).2.1 i j p.kind p.name p.sort p.kids l) X := λ X hn hX=>by
     refine waF ?_;simp only[qiR,qcV,qi];refine waC (qw.2 (by omega)) (waA ga (waA gb (way (QF a.1 b.1 (by omega) (by omega)) ?_)));rw[hj1];cases hs:zi a.1 b.1 with
     | false=>exact waD rfl hX
     | true =>
       refine waC rfl (waA ga (waA gb (way (QF a.2 b.2 (by omega) (by omega)) ?_)));have:a.2=b.2:=kU λ e=>hn ⟨(ym.1 hs).symm,λ g=>e g.symm⟩;exact waD (by rw[ym.2 this];rfl) hX
    refine⟨λ⟨j',b',h1,h2,h3,h4,h5⟩=>?_,λ hn=>step R (λ h=>hn ⟨j,b,wa _,by omega,hb,h⟩) (i2 λ⟨j',b',h1,h2⟩=>hn ⟨j',b',by omega,h2⟩)⟩;by_cases hc:b.1=a.1/\b.2≠a.2
    ·refine waF ?_;simp only[qiR,qcV,qi];refine waC (qw.2 (by omega)) (waA ga (waA gb (way (QF a.1 b.1 (by omega) (by omega)) (waC (ym.2 hc.1.symm) (waA ga (waA gb (way (QF a.2 b.2 (by omega) (by omega)) (waC ?_ (waz _)))))))));rw[show zi a.2 b.2=false from xm.2 λ g=>hc.2 (ym.1 g).symm];rfl
    ·refine step _ hc (i1 ⟨j',b',?_,h2,h3,h4,h5⟩);by_cases e:j'=j
     ·subst e;rw[hb]at h3;cases h3;exact absurd ⟨h4,h5⟩ hc
     ·omega
 have outer:∀ d i,l.length=i+d ->
   ((∃ i' a j' b,i<=i'/\l[i']?=some a/\j'<i'/\l[j']?=some b/\b.1=a.1/\b.2≠a.2)->Ev (λ m k=>(ql m k).1 i p.kind p.name p.sort p.kids l) ([],11)) /\
   ((¬ ∃ i' a j' b,i<=i'/\l[i']?=some a/\j'<i'/\l[j']?=some b/\b.1=a.1/\b.2≠a.2)->Ev (λ m k=>(ql m k).1 i p.kind p.name p.sort p.kids l) ((qcq p).filterMap (qgW l),0)):=by
  intro d
  induction d with
  | zero =>
    intro i hi;refine⟨λ⟨i',a,_,_,h1,h2,_⟩=>by have:=getElem?_lt h2;omega,λ _=>waF ?_⟩;simp only[qoG,qfg,qi];refine waD (qx.2 (by omega)) (way (a:=qcq p) ?_ fin);rw[show T.mk p.kind p.name p.sort p.kids=p from by cases p;rfl];exact qNT p (by omega)
  | succ d ih =>
    intro i hi;obtain⟨a,ha⟩:=hget i (by omega);obtain⟨i1,i2⟩:=ih (i+1) (by omega)
    have step:∀ X,Ev (λ m k=>(ql m k).2.1 i ((0:Nat):Int) p.kind p.name p.sort p.kids l) X->Ev (λ m k=>(ql m k).1 i p.kind p.name p.sort p.kids l) X := λ X hX=>by
     refine waF ?_;simp only[qoG,qfg];exact waC (qw.2 (by omega)) hX
    by_cases hc:∃ j' b,0<=j'/\j'<i/\l[j']?=some b/\b.1=a.1/\b.2≠a.2
    ·obtain⟨j',b,h0,h1,h2,h3,h4⟩:=hc;refine⟨λ _=>step _ ?_,λ hn=>absurd ⟨i,a,j',b,wa _,ha,h1,h2,h3,h4⟩ hn⟩;by_cases hx:∃ i' a j' b,i+1<=i'/\l[i']?=some a/\j'<i'/\l[j']?=some b/\b.1=a.1/\b.2≠a.2
     ·exact(inner i a ha _ (i1 hx) i 0 (by omega)).1 ⟨j',b,h0,h1,h2,h3,h4⟩
     ·exact(inner i a ha _ (i2 hx) i 0 (by omega)).1 ⟨j',b,h0,h1,h2,h3,h4⟩
    ·refine⟨λ⟨i',a',j',b,h1,h2,h3,h4,h5⟩=>step _ ((inner i a ha _ (i1 ⟨i',a',j',b,?_,h2,h3,h4,h5⟩) i 0 (by omega)).2 hc),λ hn=>step _ ((inner i a ha _ (i2 λ⟨i',a',j',b,h1,h2⟩=>hn ⟨i',a',j',b,by omega,h2⟩) i 0 (by omega)).2 hc)⟩;by_cases e:i'=i
     ·subst e;rw[ha]at h2;cases h2;exact absurd ⟨j',b,wg _,h3,h4,h5⟩ hc
     ·omega
 obtain⟨o1,o2⟩:=outer l.length 0 (by omega);by_cases hc:qSm l
 ·rw[if_pos ⟨hb,hc⟩];refine waH (L := λ m k=>(ql m k).1 0 p.kind p.name p.sort p.kids l) (o2 λ⟨i',a,j',b,_,h2,h3,h4,h5,h6⟩=>h6 ?_);have:=xy.1 hc j' i' (getElem?_lt h4) (getElem?_lt h2) h3;grind
 ·rw[if_neg λ h=>hc h.2];refine waH (L := λ m k=>(ql m k).1 0 p.kind p.name p.sort p.kids l) (o1 (kU λ hn=>hc (xy.2 λ j i hj hi hji e=>kU λ h=>hn ⟨i,l[i],j,l[j],wg _,List.getElem?_eq_getElem hi,hji,List.getElem?_eq_getElem hj,e,h⟩)))
end Go.AmZ
namespace Go.AmZ
open Go Go.GxZ
theorem qQO(n:List UInt8):Ev (λ m _=>qea m n) (qqh n):=by
 refine waG ?_;simp only[qtZ,qeL];have a:qqh n=true->Ev (λ _ _=>some true) (qqh n):=λ h=>waE h.symm;refine waB (λ h=>a (qeV (zM.1 h) (by decide))) λ f=>?_;refine waB (λ h=>a (qeV (zM.1 h) (by decide))) λ e=>?_;refine waB (λ h=>a (qeV (zM.1 h) (by decide))) λ d=>?_;refine waB (λ h=>a (qeV (zM.1 h) (by decide))) λ c=>?_;refine waB (λ h=>a (qeV (zM.1 h) (by decide))) λ b=>?_;refine waE ?_;rw[qKF (ye.1 f) (ye.1 e) (ye.1 d) (ye.1 c) (ye.1 b)];rfl
theorem qNf(n:List UInt8):Ev (λ m _=>qgv m n) (pFr n):=by
 refine waG ?_;simp only[qyi,qgQ];have a:qqh n=true->Ev (λ _ _=>some false) (pFr n):=λ h=>waE (by unfold pFr;rw[h];rfl);refine waB (λ h=>a (qeV (zM.1 h) (by decide))) λ g=>?_;refine waB (λ h=>a (qeV (zM.1 h) (by decide))) λ f=>?_;refine waB (λ h=>a (qeV (zM.1 h) (by decide))) λ e=>?_;refine waB (λ h=>a (qeV (zM.1 h) (by decide))) λ d=>?_;refine waB (λ h=>a (qeV (zM.1 h) (by decide))) λ c=>?_;refine waB (λ h=>a (qeV (zM.1 h) (by decide))) λ b=>?_;refine way (qrN n) (waE ?_);unfold pFr pPl;rw[qKF (ye.1 g) (ye.1 f) (ye.1 e) (ye.1 d) (ye.1 c),show(n==qgP)=false from beq_eq_false_iff_ne.2 (ye.1 b),<-qp7];rfl
theorem qK8(t:T):size t<=1000000000->Ev (λ m _=>qV m t) (qdR pFr t):=by
 induction t using T.ind with
 |h t j=>
   intro r;have s:=yx t;refine waG ?_;simp only[qoX,JW]
   have d:=qt (P:=λ i=>Ev (λ m k=>yy m (qV m) k t.kids t.kids.length i) (((t.kids.drop i).map (qdR pFr)).all id)) t.kids (by omega)
    (λ f=>by
     refine waF ?_;simp only[qga,JY];refine waD f (waE ?_);rw[wJ];rfl)
    (λ i x l p f o n q=>by
     refine waF ?_;simp only[qga,JY,qi];have g:=wb l;have u:=yu t x g;rw[p,wk,wX];refine waC f (waA o (way (j x g (by omega)) (waB (λ b=>?_) λ b=>?_)))
     .rw[bnt]at b;rw[b];exact waz _
     .rw[bnf]at b;rw[b,n];exact q)
   have a:Ev (λ m _=>yy m (qV m) m t.kids t.kids.length 0) ((t.kids.map (qdR pFr)).all id):=
    waH (L:=λ m k=>yy m (qV m) k t.kids t.kids.length 0) ((d 0 (wg _)).res (by rw[wH]))
   rw[qss];refine waB (λ c=>?_) λ c=>?_
   .rw[qk]at c;have e:(!(t.kind==3))=false:=by rw[c];rfl
    rw[e,xq];refine way (qNf t.name) (waB (λ h=>?_) λ h=>?_)
    .rw[bnt]at h;rw[h];exact waz _
    .rw[bnf]at h;rw[h];exact a
   .rw[qh]at c;have e:(!(t.kind==3))=true:=by rw[wM,beq_eq_false_iff_ne];exact c
    rw[e,xh];exact a
theorem qPy(t:T)(a:size t<=1000000000):Ev (λ m _=>qjf m t) (qqc t):=by
 refine waG ?_;simp only[qB3,qiZ,qi];unfold qqc;refine way (qyS t a) (waB (λ h=>?_) λ h=>?_)
 .rw[qk]at h;rw[decide_eq_true h,wV];exact way (qK8 t a) (waz _)
 .rw[qh]at h;rw[decide_eq_false h,kN];exact waz _
theorem qOt(t:T)(n:size t<=1000000000):Ev (λ m _=>qkT m t) (qqc t):=by
 refine waG ?_;simp only[qFd,qgz,qi];unfold qqc;refine way (qs7 t n) (waB (λ h=>?_) λ h=>?_)
 .rw[bnt,qh]at h;rw[decide_eq_false h,kN];exact waz _
 rw[bnf,qk]at h;rw[decide_eq_true h,wV,<-qxu];refine way (qzn t n) ?_;have p:=qly t;generalize Q9 t=l at*
 have c:=qt (P:=λ i=>Ev (λ m k=>qbn m k l i) ((l.drop i).all λ u => !(u.kind==3)||pFr u.name)) l (by omega)
  (λ f=>by
   refine waF ?_;simp only[qqQ,qgH];refine waD f (waE ?_);rw[wJ];rfl)
  (λ i x r q f e o j=>by
   refine waF ?_;simp only[qqQ,qgH];rw[q,wX];refine waC f (waA e (waB (λ b=>?_) λ b=>?_))
   .rw[qk]at b;have d:(!(x.kind==3))=false:=by rw[b];rfl
    rw[d,xq];unfold pFr at j |-
    refine waA e (way (qQO x.name) (waB (λ g=>?_) λ g=>?_))
    .rw[g];exact waz _
    rw[g];refine waA e (way (qtb x.name) (waB (λ a=>?_) λ a=>?_))
    .unfold pPl;rw[a];exact waz _
    .rw[o];refine j.res ?_;have:pPl x.name=true:=by unfold pPl;rw[a];rfl
     rw[this];rfl
   .rw[qh]at b;have d:(!(x.kind==3))=true:=by rw[wM,beq_eq_false_iff_ne];exact b
    rw[d,xh,o,wV];exact j)
 refine waH (L:=λ m k=>qbn m k l 0) ?_;exact(c 0 (wg _)).res (by rw[wH])
end Go.AmZ
namespace Go.AmZ
open Go Go.GxZ Go.Lib
theorem qKJ(t:T):qsz t->∀a:Int,-1000000000<=a->a<=1000000000->Ev (λ m _=>jl m t a) (qbB t a):=by
 induction t using T.ind with
 |h t j=>
   intro p a d c;let⟨u,v,s⟩:=(qIA t).1 p;refine waG ?_;simp only[qzP,qef];rw[qHl];refine waB (λ h=>?_) λ h=>?_
   .rw[qaF]at h;exact waE (by rw[if_pos (.inl h)])
   rw[JR]at h;refine waB (λ f=>?_) λ f=>?_
   .rw[qw]at f;exact waE (by rw[if_pos (.inr (by omega))])
   rw[qx]at f;rw[if_neg (by omega),show zX a 1=a-1 from rfl,jN (by omega)]
   have b:=qt (P:=λ i=>∀a:Int,0<=a->a<=1000000000->Ev (λ m k=>JN m (jl m) k a i t.kind t.name t.sort t.kids) (qmc ((t.kids.drop i).map qbB) a)) t.kids u
    (λ e a _ _=>by
     refine waF ?_;simp only[qm5,qeB];refine waD e ?_;rw[wJ];exact waz _)
    (λ i x l q e o n r a d c=>by
     refine waF ?_;simp only[qm5,qeB,qi];have g:=wb l;refine waC e (waA o (way (j x g (s x g) a (by omega) (by omega)) ?_));rw[q,wk,qmc,n];have:=qrx x a;refine waB (λ h=>?_) λ h=>?_
     .rw[qw]at h;exact waE (by rw[if_pos h])
     .rw[qx]at h;rw[if_neg (by omega)];exact r _ (by omega) (by omega))
   refine waH (L:=λ m k=>JN m (jl m) k (a-1) 0 t.kind t.name t.sort t.kids) ?_;exact(b 0 (wg _) (a-1) (by omega) (by omega)).res (by rw[wH])
theorem qRq(l:List T)(j:l.length<2^62)(q:∀t∈l,qsz t)(n:Nat)(a:Int)(c:0<=a)(b:a<=1000000000):Ev (λ m _=>qnr m l n a) (decide (l.length<=n)&&qpI l a):=by
 refine waG ?_;simp only[qGP,qh6];refine waB (λ h=>?_) λ h=>?_
 .rw[qw]at h;exact waE (by rw[decide_eq_false (by omega)];rfl)
 rw[qx]at h;rw[decide_eq_true (by omega),wV]
 have d:=qt (P:=λ i=>∀a:Int,0<=a->a<=1000000000->Ev (λ m k=>qcj m k l a i) (qpI (l.drop i) a)) l j
  (λ e a _ _=>by
   refine waF ?_;simp only[qrm,qil];refine waD e ?_;rw[wJ];exact waz _)
  (λ i x f r e p o s a c b=>by
   refine waF ?_;simp only[qrm,qil,qi];have g:=wb f;refine waC e (waA p (way (qKJ x (q x g) a (by omega) (by omega)) ?_));rw[r,qpI,o];have:=qrx x a;refine waB (λ h=>?_) λ h=>?_
   .rw[qw]at h;exact waE (by rw[if_pos h])
   .rw[qx]at h;rw[if_neg (by omega)];exact s _ (by omega) (by omega))
 refine waH (L:=λ m k=>qcj m k l a 0) ?_;exact(d 0 (wg _) a c b).res (by rw[wH])
end Go.AmZ
namespace Go.AmZ
open Go Go.GxZ
def nmL:List (List UInt8):=[[112,97,105,114],[101,110,99],[97,101,110,99],[112,107],[115,105,103,110],[104,97,115,104],[120,111,114],[122,101,114,111],[101,120,112],[109,117,108],[105,110,118],[111,110,101],[115,107],[115,104,107],[110,101,119]]
def esL:List (List UInt8×(Int×Int)):=[([112,97,105,114],(2,2)),([101,110,99],(2,2)),([97,101,110,99],(2,2)),([112,107],(1,1)),([115,105,103,110],(2,2)),([104,97,115,104],(1,1)),([120,111,114],(2,8)),([122,101,114,111],(0,0)),([101,120,112],(2,2)),([109,117,108],(2,8)),([105,110,118],(1,1)),([111,110,101],(0,0)),([115,107],(1,1)),([115,104,107],(2,2)),([110,101,119],(1,8))]
theorem qCV:esL.map (·.1)=nmL:=rfl
def qd2(n:List UInt8):Bool:=qu n qbG||(qu n qdw||qu n qhV)
def qIM:List (List UInt8×(Int×Int))->List UInt8->Nat->Int
 |[],_,_=>-1
 |r::l,n,i=>if qu r.1 n=true then(i:Int)else qIM l n (i+1)
def qJq:List (List UInt8)->List UInt8->Nat->Int
 |[],_,_=>0
 |r::l,n,i=>if qu r n=true then(i:Int)else qJq l n (i+1)
theorem qK1:∀(l:List (List UInt8×(Int×Int))) (n:List UInt8) (i:Nat),n∈l.map (·.1)->qIM l n i=qJq (l.map (·.1)) n i/\∃(j:Nat) (r:List UInt8×(Int×Int)),qIM l n i=((i+j:Nat):Int)/\l[j]?=some r/\r.1=n
 |[],_,_,h=>by cases h
 |r::l,n,i,h=>by
   rw[qIM,wk,qJq];by_cases a:qu r.1 n=true
   .rw[if_pos a,if_pos a];exact⟨rfl,0,r,rfl,rfl,zM.1 a⟩
   .rw[if_neg a,if_neg a];rw[wk]at h;obtain h|h:=wv.1 h
    .exact absurd (zM.2 h.symm) a
    .let⟨e,j,q,d,c,b⟩:=qK1 l n (i+1) h;exact⟨e,j+1,q,by rw[d];omega,by simpa using c,b⟩
def hdE(n:List UInt8):Int:=iw .u8 (iw .i64 (qf 16 (qJq nmL n 0)))
def bI:T->List Int:=T.para λ t a=>if t.kind=2 then[iw .u8 t.sort,iw .u8 t.name.length]++qcJ t.name else(if qd2 t.name then[hdE t.name]++[iw .u8 t.kids.length]else[hdE t.name])++a.flatten
theorem qTh(t:T):bI t=if t.kind=2 then[iw .u8 t.sort,iw .u8 t.name.length]++qcJ t.name else(if qd2 t.name then[hdE t.name]++[iw .u8 t.kids.length]else[hdE t.name])++(t.kids.map bI).flatten:=T.para_eq _ _
theorem qpe(a b:List Int):Jb (a++b)=Jb a++Jb b:=wZ ..
theorem qOS(s:List UInt8):Jb (qcJ s)=s:=by
 unfold Jb qcJ;rw[xe];refine(kW (g:=id) λ c _=>?_).trans (List.map_id _);show UInt8.ofNat (Int.toNat ((c.toNat:Nat):Int))=c;rw[kL];exact UInt8.ofNat_toNat
end Go.AmZ
namespace Go.AmZ
open Go Go.GxZ
theorem qQF(n:List UInt8):Ev (λ m _=>qgt m n) (qd2 n):=by
 refine waG ?_;simp only[qwK,qgZ];unfold qd2;refine waB (λ h=>waE ?_) λ h=>waB (λ a=>waE ?_) λ a=>waE ?_
 .rw[show qu n qbG=true from h];rfl
 .rw[show qu n qbG=false from h,show qu n qdw=true from a];rfl
 .rw[show qu n qbG=false from h,show qu n qdw=false from a];rfl
theorem qRi:∀r∈esL,qg (ieq r.2.1 r.2.2)=qd2 r.1:=by decide
end Go.AmZ
namespace Go.AmZ
open Go Go.GxZ
def okC(i:Nat)(c:UInt8):Bool:=if i=0 then qgN (c.toNat:Int)else Qc (c.toNat:Int)
def nmE(s:List UInt8)(b:Nat):Nat->Nat->Option Nat
 |0,_=>none
 |d+1,i=>match s[b+i]? with
   |none=>some (b+i)
   |some c=>cond (okC i c) (nmE s b d (i+1)) (some (b+i))
def hdN(s:List UInt8)(a:Nat):Option (T×Nat)×Nat:=match s[a]? with
 |none=>(none,a)
 |some c=>if c.toNat<=5 then(match s[a+1]? with
   |none=>(none,a+1)
   |some n=>if n.toNat<1\/24<n.toNat then(none,a+1)else match nmE s (a+2) n.toNat 0 with
     |some e=>(none,e)
     |none=>(some (.mk 2 ((s.take (a+2+n.toNat)).drop (a+2)) c.toNat [],0),a+2+n.toNat))
   else if c.toNat<16 then(none,a)else match esL[c.toNat-16]? with
    |none=>(none,a)
    |some r=>if qd2 r.1=true then(match s[a+1]? with
      |none=>(none,a+1)
      |some k=>if(k.toNat:Int)<r.2.1\/r.2.2<(k.toNat:Int)then(none,a+1)else(some (.mk 3 r.1 0 [],k.toNat),a+2))
      else(some (.mk 3 r.1 0 [],r.2.1.toNat),a+1)
theorem iwc(c:UInt8):iw .i64 ((c.toNat:Nat):Int)=(c.toNat:Int):=by
 have:=c.toNat_lt;exact jN (by omega)
theorem iwn{n:Nat}(d:Nat)(h:n+d<2^62):iw .i64 (qf (n:Int) (d:Int))=((n+d:Nat):Int):=by
 rw[qeF,jN (by omega)]
theorem qtg(s:List UInt8)(a:Nat)(b d:Int)(j:s.length<2^60):
  Ev (λ m _=>zh m (s,((a:Int),false)) b d) (match s[a]? with
   |none=>(((s,((a:Int),true)),()),(b,()))
   |some c=>if b<=(c.toNat:Int)/\(c.toNat:Int)<=d then(((s,(((a+1:Nat):Int),false)),()),((c.toNat:Int),()))else(((s,((a:Int),true)),()),(b,()))):=by
 refine waG ?_;simp only[qnS,qbI];refine waD rfl ?_;cases h:s[a]? with
 |none=>exact waC (qaF.2 (by have:=List.getElem?_eq_none_iff.1 h;omega)) (waz _)
 |some c=>
   have k:=(List.getElem?_eq_some_iff.1 h).1;have e:qd s (a:Int)=some c:=by rw[zF];exact h
   refine waD (JR.2 (by omega)) (waA e ?_);rw[iwc];by_cases g:b<=(c.toNat:Int)
   .refine waD (qx.2 g) (waA e ?_);rw[iwc];by_cases f:(c.toNat:Int)<=d
    .have e1:iw .i64 (qf (a:Int) 1)=((a+1:Nat):Int):=iwn 1 (by omega);rw[e1]
     have i:iw .i64 (zX ((a+1:Nat):Int) 1)=(a:Int):=by
      rw[show zX ((a+1:Nat):Int) 1=(a:Int) by unfold zX;omega,jN (by omega)]
     rw[i];refine waD (qx.2 f) (waA e (waE ?_));simp only[];rw[if_pos ⟨g,f⟩,iwc]
    .refine waC (qw.2 (by omega)) (waE ?_);simp only[];rw[if_neg (λ h=>f h.2)]
   .refine waC (qw.2 (by omega)) (waE ?_);simp only[];rw[if_neg (λ h=>g h.1)]
theorem qEc{s:List UInt8}{b:Nat}:∀{d i:Nat},nmE s b d i=none->∀j,j<d->b+i+j<s.length
 |0,_,_,j,f=>by omega
 |d+1,i,h,j,f=>by
   unfold nmE at h;split at h
   .cases h
   .rename_i c g;have e:=(List.getElem?_eq_some_iff.1 g).1;cases a:okC i c with
    |false=>rw[a]at h;cases h
    |true=>
      rw[a]at h;have h:nmE s b d (i+1)=none:=h;cases j with
      |zero=>exact e
      |succ j=>have:=qEc h j (by omega);omega
theorem qK6{α:Type}(i:Nat)(c:UInt8)(A B:Option α):(cond (ile 97 (c.toNat:Int)) (cond (ile (c.toNat:Int) 122) A (cond (ile 65 (c.toNat:Int)) (cond (qg (ile (c.toNat:Int) 90)) (cond (ieq (i:Int) 0) B (cond (ilt (c.toNat:Int) 48) (cond (qg (ieq (c.toNat:Int) 95)) (cond (qg (ieq (c.toNat:Int) 35)) B A) A) (cond (ilt 57 (c.toNat:Int)) (cond (qg (ieq (c.toNat:Int) 95)) (cond (qg (ieq (c.toNat:Int) 35)) B A) A) A))) A) (cond (ieq (i:Int) 0) B (cond (ilt (c.toNat:Int) 48) (cond (qg (ieq (c.toNat:Int) 95)) (cond (qg (ieq (c.toNat:Int) 35)) B A) A) (cond (ilt 57 (c.toNat:Int)) (cond (qg (ieq (c.toNat:Int) 95)) (cond (qg (ieq (c.toNat:Int) 35)) B A) A) A))))) (cond (ile 65 (c.toNat:Int)) (cond (qg (ile (c.toNat:Int) 90)) (cond (ieq (i:Int) 0) B (cond (ilt (c.toNat:Int) 48) (cond (qg (ieq (c.toNat:Int) 95)) (cond (qg (ieq (c.toNat:Int) 35)) B A) A) (cond (ilt 57 (c.toNat:Int)) (cond (qg (ieq (c.toNat:Int) 95)) (cond (qg (ieq (c.toNat:Int) 35)) B A) A) A))) A) (cond (ieq (i:Int) 0) B (cond (ilt (c.toNat:Int) 48) (cond (qg (ieq (c.toNat:Int) 95)) (cond (qg (ieq (c.toNat:Int) 35)) B A) A) (cond (ilt 57 (c.toNat:Int)) (cond (qg (ieq (c.toNat:Int) 95)) (cond (qg (ieq (c.toNat:Int) 35)) B A) A) A)))))=cond (okC i c) A B:=by
 generalize a:((c.toNat:Nat):Int)=x;unfold okC;rw[a];clear a;have b:ieq (i:Int) 0=decide (i=0):=by rw[qyE,xB,decide_eq_true_iff,decide_eq_true_iff];omega
 rw[b];simp only[qyE];grind [ilt,Qc,qgN,qro,ile,qg]
theorem qER(s:List UInt8)(g:s.length<2^60)(b n:Nat)(j:n<=24):∀d i,i+d=n->b+i<=s.length->
  Ev (λ m k=>yl m k b n i s ((b+i:Nat):Int) false) (match nmE s b d i with
   |some e=>(((s,((e:Int),true)),()),([],()))
   |none=>(((s,(((b+n:Nat):Int),false)),()),((s.take (b+n)).drop b,())))
 |0,i,l,a=>by
   refine waF ?_;simp only[qbK,Qn];obtain rfl:i=n:=by omega
   refine waD (qx.2 (vC _)) ?_;refine waC (by unfold inb;rw[decide_eq_true_iff];omega) (waC (by unfold inb;rw[decide_eq_true_iff];omega) (waE ?_));rfl
 |d+1,i,l,a=>by
   refine waF ?_;simp only[qbK,Qn];refine waC (qw.2 (by omega)) (waD rfl ?_);rw[nmE];cases h:s[b+i]? with
   |none=>exact waC (qaF.2 (by have:=List.getElem?_eq_none_iff.1 h;omega)) (waz _)
   |some c=>
     have p:=(List.getElem?_eq_some_iff.1 h).1;refine waD (JR.2 (by omega)) (waA (by rw[zF];exact h) ?_);have f:=qER s g b n j d (i+1) (by omega) (by omega);have e1:iw .i64 (qf (i:Int) 1)=((i+1:Nat):Int):=iwn 1 (by omega);have o:iw .i64 (qf ((b+i:Nat):Int) 1)=((b+(i+1):Nat):Int):=iwn (n:=b+i) 1 (by omega);rw[e1,o];refine waN (F:=λ m k=>cond (okC i c) (yl m k b n ((i+1:Nat):Int) s ((b+(i+1):Nat):Int) false) (some (((s,(((b+i:Nat):Int),true)),()),([],())))) ?_ λ m k=>qK6 i c _ _;simp only[];cases okC i c with
     |true=>exact f
     |false=>exact waz _
theorem qFB(s:List UInt8)(b a:Int):Ev (λ m k=>yl m k b 1 0 s a true) (((s,(a,true)),()),([],())):=by
 refine waF ?_;simp only[qbK,Qn];exact waC rfl (waC rfl (waz _))
theorem qQt(s:List UInt8)(c:s.length<2^60)(a:Nat):Ev (λ m _=>Jl m (s,((a:Int),false))) (match s[a]? with
  |none=>(((s,((a:Int),true)),()),([],()))
  |some n=>if n.toNat<1\/24<n.toNat then(((s,((a:Int),true)),()),([],()))else match nmE s (a+1) n.toNat 0 with
    |some e=>(((s,((e:Int),true)),()),([],()))
    |none=>(((s,(((a+1+n.toNat:Nat):Int),false)),()),((s.take (a+1+n.toNat)).drop (a+1),()))):=by
 refine waG ?_;simp only[qnP,JD];have b:=qtg s a 1 24 c;cases h:s[a]? with
 |none=>
   rw[h]at b;exact way b (waH (qFB s a a))
 |some n=>
   rw[h]at b;simp only[]at b |-
   by_cases d:n.toNat<1\/24<n.toNat
   .rw[if_neg (by omega)]at b;rw[if_pos d];exact way b (waH (qFB s a a))
   .rw[if_pos (by omega)]at b;rw[if_neg d];have f:=(List.getElem?_eq_some_iff.1 h).1;exact way b (waH (qER s c (a+1) n.toNat (by omega) n.toNat 0 (by omega) (by omega)))
theorem qdZ:Ev (λ m _=>yv m) esL:=by
 refine waG ?_;simp only[qrV,qd9];exact waz _
theorem qoZ{r:List UInt8×(Int×Int)}(a:r∈esL):Ev (λ m _=>yG m (r.1,(r.2.1,r.2.2))) (qd2 r.1):=by
 refine waG ?_;simp only[qkX,qal];exact waE (qRi r a)
theorem qsc:∀r∈esL,0<=r.2.1/\r.2.1<=8/\r.2.2<=8:=by decide
theorem qtm(s:List UInt8)(D:s.length<2^60)(b:Nat):(∀t n p,hdN s b=(some (t,n),p)->Ev (λ m _=>qy m (s,((b:Int),false))) (((s,((p:Int),false)),()),((t.kind,(t.name,(t.sort,([],((n:Int),()))))),())))/\
  (∀e,hdN s b=(none,e)->∃nk nm sk lf,Ev (λ m _=>qy m (s,((b:Int),false))) (((s,((e:Int),true)),()),((nk,(nm,(sk,([],(lf,()))))),()))):=by
 have M:∃v:(Val RD×Unit)×((Int×List UInt8×Int×List T×Int×Unit)×Unit),Ev (λ m _=>qy m (s,((b:Int),false))) v/\match hdN s b with
   |(some (t,n),p)=>v=(((s,((p:Int),false)),()),((t.kind,(t.name,(t.sort,([],((n:Int),()))))),()))
   |(none,e)=>∃nk nm sk lf,v=(((s,((e:Int),true)),()),((nk,(nm,(sk,([],(lf,()))))),())):=by
  have y:(∀c,s[b]?=some c->¬ c.toNat<=5)->∃v:(Val RD×Unit)×((Int×List UInt8×Int×List T×Int×Unit)×Unit),Ev (λ m _=>qb (yv m) λ J=>qb (yv m) λ I=>qb (zh m (s,((b:Int),false)) 16 (iw .i64 (zX (iw .i64 (qf 16 (List.length I))) 1))) λ i=>qb (qd J (iw .i64 (zX i.2.1 16))) λ f=>qb (yG m (f.1,(f.2.1,f.2.2))) λ H=>cond H (qb (zh m (i.1.1.1,(i.1.1.2.1,i.1.1.2.2)) f.2.1 f.2.2) λ l=>some (((l.1.1.1,(l.1.1.2.1,l.1.1.2.2)),()),((3,(f.1,(0,([],(l.2.1,()))))),()))) (some (((i.1.1.1,(i.1.1.2.1,i.1.1.2.2)),()),((3,(f.1,(0,([],(f.2.1,()))))),())))) v/\match hdN s b with
   |(some (t,n),p)=>v=(((s,((p:Int),false)),()),((t.kind,(t.name,(t.sort,([],((n:Int),()))))),()))
   |(none,e)=>∃nk nm sk lf,v=(((s,((e:Int),true)),()),((nk,(nm,(sk,([],(lf,()))))),())):=by
   intro B;have d:=qtg s b 16 30 D
   have fail:(match s[b]? with
    |none=>True
    |some c=>c.toNat<16\/30<c.toNat)->∃v:(Val RD×Unit)×((Int×List UInt8×Int×List T×Int×Unit)×Unit),Ev (λ m _=>qb (yv m) λ J=>qb (yv m) λ I=>qb (zh m (s,((b:Int),false)) 16 (iw .i64 (zX (iw .i64 (qf 16 (List.length I))) 1))) λ i=>qb (qd J (iw .i64 (zX i.2.1 16))) λ f=>qb (yG m (f.1,(f.2.1,f.2.2))) λ H=>cond H (qb (zh m (i.1.1.1,(i.1.1.2.1,i.1.1.2.2)) f.2.1 f.2.2) λ l=>some (((l.1.1.1,(l.1.1.2.1,l.1.1.2.2)),()),((3,(f.1,(0,([],(l.2.1,()))))),()))) (some (((i.1.1.1,(i.1.1.2.1,i.1.1.2.2)),()),((3,(f.1,(0,([],(f.2.1,()))))),())))) v/\match hdN s b with
   |(some (t,n),p)=>v=(((s,((p:Int),false)),()),((t.kind,(t.name,(t.sort,([],((n:Int),()))))),()))
   |(none,e)=>∃nk nm sk lf,v=(((s,((e:Int),true)),()),((nk,(nm,(sk,([],(lf,()))))),())):=by
     intro F
     have K:Ev (λ m _=>zh m (s,((b:Int),false)) 16 30) (((s,((b:Int),true)),()),(16,())):=by
      cases h:s[b]? with
      |none=>rw[h]at d;exact d
      |some c=>
        rw[h]at d F;simp only[]at d F;rw[if_neg (by omega)]at d;exact d
     have A:hdN s b=(none,b):=by
      unfold hdN;cases h:s[b]? with
      |none=>rfl
      |some c=>
        rw[h]at F;simp only[]at F |-
        rw[if_neg (B c h)];by_cases C:c.toNat<16
        .rw[if_pos C]
        .rw[if_neg C,show esL[c.toNat-16]?=none from List.getElem?_eq_none_iff.2 (by show 15<=_;omega)]
     rw[A];refine⟨_,way qdZ (way qdZ (way K (waA (a:=([112,97,105,114],(2,2))) rfl (way (qoZ (r:=([112,97,105,114],(2,2))) (wh ..)) (waD rfl (waz _)))))),3,_,0,_,rfl⟩
   cases h:s[b]? with
   |none=>rw[h]at fail;exact fail trivial
   |some c=>
     by_cases E:c.toNat<16\/30<c.toNat
     .exact fail (by rw[h];exact E)
     .rw[h]at d;simp only[]at d;rw[if_pos (by omega)]at d;have z:c.toNat-16<esL.length:=by show _<15;omega
      have o:=List.getElem?_eq_getElem z;generalize esL[c.toNat-16]=r at o;have g:=wb o;let⟨Q,P,O⟩:=qsc r g
      have A:hdN s b=(if qd2 r.1=true then(match s[b+1]? with
        |none=>(none,b+1)
        |some k=>if(k.toNat:Int)<r.2.1\/r.2.2<(k.toNat:Int)then(none,b+1)else(some (.mk 3 r.1 0 [],k.toNat),b+2))
       else(some (.mk 3 r.1 0 [],r.2.1.toNat),b+1)):=by
       unfold hdN;rw[h];simp only[];rw[if_neg (B c h),if_neg (by omega),o]
      rw[A]
      have w:qd esL (iw .i64 (zX (c.toNat:Int) 16))=some r:=by
       rw[show iw .i64 (zX (c.toNat:Int) 16)=((c.toNat-16:Nat):Int) by rw[show zX (c.toNat:Int) 16=((c.toNat-16:Nat):Int) by unfold zX;omega,jN (by omega)],zF];exact o
      cases u:qd2 r.1 with
      |false=>
        rw[if_neg (by decide)];refine⟨_,way qdZ (way qdZ (way d (waA w (way (qoZ g) (waD u (waz _)))))),?_⟩;have e:((r.2.1.toNat:Nat):Int)=r.2.1:=by omega
        show _=_;rw[e];rfl
      |true=>
        rw[if_pos rfl];have j:=qtg s (b+1) r.2.1 r.2.2 D;cases q:s[b+1]? with
        |none=>rw[q]at j;exact⟨_,way qdZ (way qdZ (way d (waA w (way (qoZ g) (waC u (way j (waz _))))))),3,_,0,_,rfl⟩
        |some k=>
          rw[q]at j;simp only[]at j |-
          by_cases L:(k.toNat:Int)<r.2.1\/r.2.2<(k.toNat:Int)
          .rw[if_neg (by omega)]at j;rw[if_pos L];exact⟨_,way qdZ (way qdZ (way d (waA w (way (qoZ g) (waC u (way j (waz _))))))),3,_,0,_,rfl⟩
          .rw[if_pos (by omega)]at j;rw[if_neg L];exact⟨_,way qdZ (way qdZ (way d (waA w (way (qoZ g) (waC u (way j (waz _))))))),rfl⟩
  cases h:s[b]? with
  |none=>
    let⟨v,q,j⟩:=y (by rw[h];intro c u;cases u);refine⟨v,waG ?_,j⟩;simp only[qcs,Qk];exact waD (qx.2 (by have:=List.getElem?_eq_none_iff.1 h;omega)) q
  |some c=>
    have R:=(List.getElem?_eq_some_iff.1 h).1;have w:qd s (b:Int)=some c:=by rw[zF];exact h
    by_cases B:c.toNat<=5
    .have d:=qtg s b 0 5 D;rw[h]at d;simp only[]at d;rw[if_pos (by omega)]at d;have g:=qQt s D (b+1)
     have A:hdN s b=(match s[b+1]? with
      |none=>(none,b+1)
      |some n=>if n.toNat<1\/24<n.toNat then(none,b+1)else match nmE s (b+2) n.toNat 0 with
        |some e=>(none,e)
        |none=>(some (.mk 2 ((s.take (b+2+n.toNat)).drop (b+2)) c.toNat [],0),b+2+n.toNat)):=by
      unfold hdN;rw[h];simp only[];rw[if_pos B]
     rw[A]
     have G:∀x,Ev (λ m _=>Jl m (s,(((b+1:Nat):Int),false))) x->Ev (λ m _=>qy m (s,((b:Int),false))) (((x.1.1.1,(x.1.1.2.1,x.1.1.2.2)),()),((2,(x.2.1,((c.toNat:Int),([],(0,()))))),())):=λ x N=>by
      refine waG ?_;simp only[qcs,Qk];exact waC (qw.2 (by omega)) (waA w (waC (qaF.2 (by omega)) (way d (way N (waz _)))))
     cases q:s[b+1]? with
     |none=>rw[q]at g;exact⟨_,G _ g,2,_,_,_,rfl⟩
     |some n=>
       rw[q]at g;simp only[]at g |-
       by_cases E:n.toNat<1\/24<n.toNat
       .rw[if_pos E]at g |-;exact⟨_,G _ g,2,_,_,_,rfl⟩
       .rw[if_neg E]at g |-
        cases j:nmE s (b+2) n.toNat 0 with
        |some e=>rw[show b+1+1=b+2 from rfl,j]at g;exact⟨_,G _ g,2,_,_,_,rfl⟩
        |none=>rw[show b+1+1=b+2 from rfl,j]at g;exact⟨_,G _ g,rfl⟩
    .let⟨v,q,j⟩:=y (by rw[h];intro c' u;cases u;exact B);refine⟨v,waG ?_,j⟩;simp only[qcs,Qk];exact waC (qw.2 (by omega)) (waA w (waD (JR.2 (by omega)) q))
 grind
end Go.AmZ
namespace Go.AmZ
open Go Go.GxZ
def QZ(R:Nat->Option T×Nat):Nat->Nat->Option (List T)×Nat
 |0,p=>(some [],p)
 |n+1,p=>match R p with
   |(none,e)=>(none,e)
   |(some k,a)=>match QZ R n a with
     |(none,e)=>(none,e)
     |(some ks,q)=>(some (k::ks),q)
def rdT(s:List UInt8):Nat->Nat->Option T×Nat
 |0,p=>(none,p)
 |f+1,p=>match hdN s p with
   |(none,e)=>(none,e)
   |(some (t,n),q)=>match QZ (rdT s f) n q with
     |(none,e)=>(none,e)
     |(some ks,a)=>(some (.mk t.kind t.name t.sort ks),a)
theorem qe8{s:List UInt8}{p q n:Nat}{t:T}(h:hdN s p=(some (t,n),q)):p<q/\q<=s.length/\n<=8/\t.kids=[]/\t.name.length<=24:=by
 unfold hdN at h;cases g:s[p]? with
 |none=>rw[g]at h;cases h
 |some c=>
   rw[g]at h;have u:=(List.getElem?_eq_some_iff.1 g).1;simp only[]at h;split at h
   .cases a:s[p+1]? with
    |none=>rw[a]at h;cases h
    |some k=>
      rw[a]at h;have f:=(List.getElem?_eq_some_iff.1 a).1;simp only[]at h;split at h
      .cases h
      .rename_i v;cases i:nmE s (p+2) k.toNat 0 with
       |some e=>rw[i]at h;cases h
       |none=>
         rw[i]at h;cases h;have:=qEc i (k.toNat-1) (by omega);refine⟨by omega,by omega,by omega,rfl,?_⟩;show((s.take _).drop _).length<=24;rw[w7,wo];omega
   .split at h
    .cases h
    .cases d:esL[c.toNat-16]? with
     |none=>rw[d]at h;cases h
     |some r=>
       rw[d]at h;have j:=wb d;let⟨o,m,l⟩:=qsc r j;have b:r.1.length<=24:=(by decide:∀r∈esL,r.1.length<=24) r j;simp only[]at h;split at h
       .cases a:s[p+1]? with
        |none=>rw[a]at h;cases h
        |some k=>
          rw[a]at h;have f:=(List.getElem?_eq_some_iff.1 a).1;simp only[]at h;split at h
          .cases h
          .cases h;exact⟨by omega,by omega,by omega,rfl,b⟩
       .cases h;exact⟨by omega,by omega,by omega,rfl,b⟩
theorem qyW{R:Nat->Option T×Nat}{L:Nat}(h:∀p q t,R p=(some t,q)->p<q/\q<=L):∀n p q ks,p<=L->QZ R n p=(some ks,q)->p<=q/\q<=L/\ks.length=n
 |0,p,q,ks,c,a=>by cases a;exact⟨wa _,c,rfl⟩
 |n+1,p,q,ks,c,a=>by
   unfold QZ at a;split at a
   .cases a
   .rename_i k l e;let⟨o,i⟩:=h _ _ _ e;split at a
    .cases a
    .rename_i d j b;cases a;let⟨m,g,f⟩:=qyW h n _ _ _ i b;exact⟨by omega,g,by simp[f]⟩
theorem qo2(s:List UInt8):∀f p q t,rdT s f p=(some t,q)->p<q/\q<=s.length
 |0,p,q,t,h=>by cases h
 |f+1,p,q,t,h=>by
   unfold rdT at h;split at h
   .cases h
   .rename_i e n g b;let⟨k,d,_⟩:=qe8 b;split at h
    .cases h
    .rename_i ks i a;cases h;let⟨j,c,_⟩:=qyW (qo2 s f) _ _ _ _ d a;exact⟨by omega,c⟩
theorem qBs{b a:Val RD}{nk sk lf:Int}{nm:List UInt8}(h:Ev (λ m _=>qy m b) ((a,()),((nk,(nm,(sk,([],(lf,()))))),()))):Ev (λ m _=>qeP (qy m) b) (a,(nk,(nm,(sk,lf)))):=by
 let⟨B,h⟩:=h;refine⟨B,λ m k c d=>?_⟩;have e:qy m b=_:=h m k c d;show qeP _ b=_;unfold qeP;rw[e]
abbrev RdL:=λ(a:List (T×Int)) (b:Val RD) (m k:Nat)=>qkC (qy m) k a b
theorem qE8(b:List (T×Int))(s:List UInt8)(a:Int):Ev (RdL b (s,(a,true))) (((s,(a,true)),()),(T.mk 0 [] 0 [],())):=by
 refine waF (L:=RdL b (s,(a,true))) ?_;exact waz _
theorem qIE(b:List (T×Int))(s:List UInt8)(a:Int)(t:T)(n:Nat)(i:n<8)(d:b.length<=1000000000){c:Val RD}{nk sk lf:Int}{nm:List UInt8}(h:Ev (λ m _=>qy m (s,(a,false))) ((c,()),((nk,(nm,(sk,([],(lf,()))))),()))){r:(Val RD×Unit)×(T×Unit)}
  (e:Ev (RdL ((b++[(t,(n:Int))])++[(T.mk nk nm sk [],lf)]) c) r):Ev (RdL (b++[(t,((n+1:Nat):Int))]) (s,(a,false))) r:=by
 refine waF (L:=RdL (b++[(t,((n+1:Nat):Int))]) (s,(a,false))) ?_;show Ev (λ m k=>qnj (qy m) (qkC (qy m) k) (b++[(t,((n+1:Nat):Int))]) (s,(a,false))) r;unfold qnj;have f:(b++[(t,((n+1:Nat):Int))]).length=b.length+1:=by simp
 rw[f,vx];refine waD rfl (waA (a:=(t,((n+1:Nat):Int))) (by rw[List.getElem?_append_right (wa _),kP];rfl) ?_);refine waC (qw.2 (by show(0:Int)<((n+1:Nat):Int);omega)) (waC (zd (by omega) (by decide)) (way (qBs h) ?_));have e1:iw .i64 (zX ((n+1:Nat):Int) 1)=(n:Int):=by rw[show zX ((n+1:Nat):Int) 1=(n:Int) by unfold zX;omega,jN (by omega)]
 have g:(b++[(t,((n+1:Nat):Int))]).set b.length (t,iw .i64 (zX ((n+1:Nat):Int) 1))=b++[(t,(n:Int))]:=by
  rw[vP _ _ (wa _),kP,e1];rfl
 show Ev (λ m k=>qkC (qy m) k ((b++[(t,((n+1:Nat):Int))]).set b.length (t,iw .i64 (zX ((n+1:Nat):Int) 1))++[(T.mk nk nm sk [],lf)]) c) r;rw[g];exact e
theorem qRt(b:List (T×Int))(s:List UInt8)(a:Int)(t x:T)(n:Int)(g:t.kids.length<8){r:(Val RD×Unit)×(T×Unit)}
  (d:Ev (RdL (b++[(T.mk t.kind t.name t.sort (t.kids++[x]),n)]) (s,(a,false))) r):Ev (RdL ((b++[(t,n)])++[(x,0)]) (s,(a,false))) r:=by
 refine waF (L:=RdL ((b++[(t,n)])++[(x,0)]) (s,(a,false))) ?_;show Ev (λ m k=>qnj (qy m) (qkC (qy m) k) ((b++[(t,n)])++[(x,0)]) (s,(a,false))) r;unfold qnj;have f:((b++[(t,n)])++[(x,(0:Int))]).length=b.length+2:=by simp
 have c:(b++[(t,n)]).length=b.length+1:=by simp
 rw[f,show b.length+2-1=b.length+1 from rfl,vx];refine waD rfl (waA (a:=(x,(0:Int))) (by rw[List.getElem?_append_right (by omega),c,kP];rfl) ?_);refine waD (qx.2 (vC _)) (waD rfl (waA (a:=(t,n)) (by rw[List.getElem?_append_left (by omega),List.getElem?_append_right (wa _),kP];rfl) ?_));refine waC (zd (by show(t.kids.length+1)*56<=_;omega) (by decide)) ?_;have e:((b++[(t,n)])++[(x,(0:Int))]).take b.length=b:=by rw[wn,List.take_left]
 rw[e];exact d
theorem qOV(s:List UInt8)(P:s.length<=1000000000):∀f n p t c,s.length<p+f->p<=s.length->c.length<=p->t.kids.length+n<=8->
  (∀ks q,QZ (rdT s f) n p=(some ks,q)->∀r,Ev (RdL (c++[(T.mk t.kind t.name t.sort (t.kids++ks),0)]) (s,((q:Int),false))) r->Ev (RdL (c++[(t,(n:Int))]) (s,((p:Int),false))) r)/\
  ∀e,QZ (rdT s f) n p=(none,e)->Ev (RdL (c++[(t,(n:Int))]) (s,((p:Int),false))) (((s,((e:Int),true)),()),(T.mk 0 [] 0 [],())):=by
 intro f
 induction f with
 |zero=>intro n p t c D C;omega
 |succ f y=>
   intro n
   induction n with
   |zero=>
     intro p t c D C K J;refine⟨λ ks q a r i=>?_,λ e a=>by cases a⟩;cases a;rw[wy]at i;have e:T.mk t.kind t.name t.sort t.kids=t:=qi t;rw[e]at i;exact i
   |succ n x=>
     intro p t c D C K J;cases k:hdN s p with
     |mk o m=>
     cases o with
     |none=>
       have l:rdT s (f+1) p=(none,m):=by unfold rdT;rw[k]
       have g:QZ (rdT s (f+1)) (n+1) p=(none,m):=by unfold QZ;rw[l]
       refine⟨λ ks q a=>(by rw[g]at a;cases a),λ e a=>?_⟩;rw[g]at a;cases a;let⟨nk,nm,sk,lf,z⟩:=(qtm s (by omega) p).2 _ k;exact qIE c s p t n (by omega) (by omega) z (qE8 _ _ _)
     |some o=>
       let⟨b,v⟩:=o;let⟨Q,L,g3,B,_⟩:=qe8 k;have z:=(qtm s (by omega) p).1 _ _ _ k;have A:=λ r=>qIE c s p t n (by omega) (by omega) z (r:=r);have M:T.mk b.kind b.name b.sort []=b:=by rw[<-B];exact qi b
       rw[M]at A;let⟨G,F⟩:=y v m b (c++[(t,(n:Int))]) (by omega) L (by rw[wd];show c.length+1<=m;omega) (by rw[B];show 0+v<=8;omega);cases u:QZ (rdT s f) v m with
       |mk o h=>
       cases o with
       |none=>
         have l:rdT s (f+1) p=(none,h):=by unfold rdT;rw[k];simp only[];rw[u]
         have g:QZ (rdT s (f+1)) (n+1) p=(none,h):=by unfold QZ;rw[l]
         refine⟨λ ks q a=>(by rw[g]at a;cases a),λ e a=>?_⟩;rw[g]at a;cases a;exact A _ (F _ u)
       |some d=>
         have l:rdT s (f+1) p=(some (.mk b.kind b.name b.sort d),h):=by unfold rdT;rw[k];simp only[];rw[u]
         let⟨N,E⟩:=qo2 s _ _ _ _ l
         have step:∀r,Ev (RdL (c++[(T.mk t.kind t.name t.sort (t.kids++[.mk b.kind b.name b.sort d]),(n:Int))]) (s,((h:Int),false))) r->Ev (RdL (c++[(t,((n+1:Nat):Int))]) (s,((p:Int),false))) r:=λ r i=>by
          refine A r (G _ _ u r ?_);rw[B];exact qRt c s h t _ n (by omega) i
         let⟨I,H⟩:=x h (T.mk t.kind t.name t.sort (t.kids++[.mk b.kind b.name b.sort d])) c (by omega) E (by omega) (by show(t.kids++[_]).length+n<=8;rw[wd];show t.kids.length+1+n<=8;omega)
         have g:QZ (rdT s (f+1)) (n+1) p=(match QZ (rdT s (f+1)) n h with
          |(none,e)=>(none,e)
          |(some ks,q)=>(some (.mk b.kind b.name b.sort d::ks),q)):=by
          rw[QZ,l]
         cases j:QZ (rdT s (f+1)) n h with
         |mk o O=>
         rw[j]at g;cases o with
         |none=>
           refine⟨λ ks q a=>(by rw[g]at a;cases a),λ e a=>?_⟩;rw[g]at a;cases a;exact step _ (H _ j)
         |some w=>
           refine⟨λ ks q a r i=>?_,λ e a=>(by rw[g]at a;cases a)⟩;rw[g]at a;cases a;refine step _ (I _ _ j r ?_);show Ev (RdL (c++[(T.mk t.kind t.name t.sort ((t.kids++[.mk b.kind b.name b.sort d])++w),0)]) _) r;rw[wn];exact i
theorem qK5(s:List UInt8)(x:s.length<=1000000000):(∀t q,rdT s (s.length+1) 0=(some t,q)->Ev (λ m _=>jA m (s,(0,false))) (((s,((q:Int),false)),()),(t,())))/\
  ∀e,rdT s (s.length+1) 0=(none,e)->Ev (λ m _=>jA m (s,(0,false))) (((s,((e:Int),true)),()),(T.mk 0 [] 0 [],())):=by
 have start:∀{d:Val RD}{nk sk lf:Int}{nm:List UInt8}{r:(Val RD×Unit)×(T×Unit)},Ev (λ m _=>qy m (s,(0,false))) ((d,()),((nk,(nm,(sk,([],(lf,()))))),()))->Ev (RdL [(T.mk nk nm sk [],lf)] d) r->Ev (λ m _=>jA m (s,(0,false))) r:=by
  intro d nk sk lf nm r h y;refine waG ?_;simp only[qnL];unfold qpz;exact way (qBs h) (waH y)
 cases f:hdN s 0 with
 |mk o k=>
 cases o with
 |none=>
   have c:rdT s (s.length+1) 0=(none,k):=by unfold rdT;rw[f]
   refine⟨λ t q a=>(by rw[c]at a;cases a),λ e a=>?_⟩;rw[c]at a;cases a;let⟨nk,nm,sk,lf,n⟩:=(qtm s (by omega) 0).2 _ f;exact start n (qE8 _ _ _)
 |some o=>
   let⟨b,l⟩:=o;let⟨B,z,g3,u,_⟩:=qe8 f;have n:=(qtm s (by omega) 0).1 _ _ _ f;have p:=λ r=>start n (r:=r);have A:T.mk b.kind b.name b.sort []=b:=by rw[<-u];exact qi b
   rw[A]at p;let⟨w,v⟩:=qOV s x s.length l k b [] (by omega) z (wg _) (by rw[u];show 0+l<=8;omega);cases i:QZ (rdT s s.length) l k with
   |mk o j=>
   cases o with
   |none=>
     have c:rdT s (s.length+1) 0=(none,j):=by unfold rdT;rw[f];simp only[];rw[i]
     refine⟨λ t q a=>(by rw[c]at a;cases a),λ e a=>?_⟩;rw[c]at a;cases a;exact p _ (v _ i)
   |some g=>
     have c:rdT s (s.length+1) 0=(some (.mk b.kind b.name b.sort g),j):=by unfold rdT;rw[f];simp only[];rw[i]
     refine⟨λ t q a=>?_,λ e a=>(by rw[c]at a;cases a)⟩;rw[c]at a;cases a;refine p _ (w _ _ i _ ?_);rw[u];refine waF (L:=RdL ([]++[(T.mk b.kind b.name b.sort ([]++g),(0:Int))]) (s,((j:Int),false))) ?_;exact waz _
end Go.AmZ
namespace Go.AmZ
open Go Go.GxZ
theorem qPz{i:Nat}{c:UInt8}(h:okC i c=true):Qc (c.toNat:Int)=true:=by
 unfold okC at h;split at h
 .unfold Qc;rw[h];rfl
 .exact h
theorem qC5{s:List UInt8}{b n:Nat}(w:n<24)(x:b+n<s.length)(h:∀j c,j<n->s[b+j]?=some c->okC j c=true){c:UInt8}(g:s[b+n]?=some c):jT ((s.take (b+(n+1))).drop b)=okC n c:=by
 have f:((s.take (b+(n+1))).drop b).length=n+1:=by rw[w7,wo];omega
 have a:∀j,j<n+1->((s.take (b+(n+1))).drop b)[j]?=s[b+j]?:=λ j e=>by
  rw[List.getElem?_drop,List.getElem?_take,if_pos (by omega)]
 unfold jT;rw[f,decide_eq_true (show 0<n+1 by omega),decide_eq_true (show n+1<=24 by omega)]
 have q:∀o,s[b]?=some o->((s.take (b+(n+1))).drop b).getD 0 0=o:=λ o d=>by
  rw[List.getD_eq_getElem?_getD,a 0 (by omega),wO,d];rfl
 cases n with
 |zero=>
   rw[q c g]
   have l:(s.take (b+(0+1))).drop b=[c]:=by
    apply kY;intro j;cases j with
    |zero=>rw[a 0 (by omega)];exact g
    |succ j=>rw[List.getElem?_eq_none_iff.2 (by omega)];rfl
   rw[l];unfold okC;rw[if_pos rfl];cases v:qgN (c.toNat:Int)with
   |true=>simp[Qc,v]
   |false=>rfl
 |succ n=>
   have u:b<s.length:=by omega
   have d:=List.getElem?_eq_getElem u;have k:=h 0 _ (by omega) d;unfold okC at k;rw[if_pos rfl]at k;rw[q _ d,k];have:okC (n+1) c=Qc (c.toNat:Int):=by unfold okC;rw[if_neg (by omega)]
   rw[this];cases p:Qc (c.toNat:Int)with
   |true=>
     simp only[wV,ww];intro y r;let⟨j,e⟩:=vO.1 r;have t:=(List.getElem?_eq_some_iff.1 e).1;rw[a j (by omega)]at e;by_cases m:j=n+1
     .subst m;rw[g]at e;cases e;exact p
     .exact qPz (h j y (by omega) e)
   |false=>
     simp only[wV];rw[List.all_eq_false];refine⟨c,wb (i:=n+1) ?_,by rw[p];decide⟩;rw[a (n+1) (by omega)];exact g
theorem qFE(s:List UInt8)(B:s.length<=1000000000)(a n:Nat)(g:Int)(C:n<=24)(w:1<=n):∀d i,i+d=n->a+2+i<=s.length->(∀j c,j<i->s[a+2+j]?=some c->okC j c=true)->
  (∀e,nmE s (a+2) d i=some e->∃t,Ev (λ m k=>jL m k s a n ((i+1:Nat):Int) 0 [] 0 2 [] g [] []) (t,((e:Int),false)))/\
  (nmE s (a+2) d i=none->Ev (λ m k=>jL m k s a n ((i+1:Nat):Int) 0 [] 0 2 [] g [] []) (.mk 2 ((s.take (a+2+n)).drop (a+2)) g [],(((a+2+n:Nat):Int),true)))
 |0,i,E,F,l=>by
   obtain rfl:i=n:=by omega
   refine⟨λ e f=>(by cases f),λ _=>waF ?_⟩;simp only[qqP,qgu];have e1:iw .i64 (qf (a:Int) 2)=((a+2:Nat):Int):=iwn 2 (by omega);have y:iw .i64 (qf ((a+2:Nat):Int) (i:Int))=((a+2+i:Nat):Int):=iwn i (by omega);rw[e1,y];refine waD (JR.2 (by omega)) (waC (by unfold inb;rw[decide_eq_true_iff];omega) (waC (by unfold inb;rw[decide_eq_true_iff];omega) (waE ?_)));rfl
 |d+1,i,E,F,l=>by
   have L:iw .i64 (qf (a:Int) 1)=((a+1:Nat):Int):=iwn 1 (by omega);have e1:iw .i64 (qf (a:Int) 2)=((a+2:Nat):Int):=iwn 2 (by omega);have y:iw .i64 (qf ((a+2:Nat):Int) ((i+1:Nat):Int))=((a+2+(i+1):Nat):Int):=iwn (i+1) (by omega);have K:iw .i64 (qf ((a+1:Nat):Int) ((i+1:Nat):Int))=((a+2+i:Nat):Int):=by rw[iwn (i+1) (by omega)];omega
   have J:iw .i64 (qf ((i+1:Nat):Int) 1)=((i+1+1:Nat):Int):=iwn 1 (by omega)
   have first:∀{G:Nat->Nat->Option (T×Int×Bool)}{r},Ev (λ m k=>cond (ile (s.length:Int) ((a+2+i:Nat):Int)) (some (T.mk 2 [] g [],((a+2+i:Nat):Int),false)) (cond (inb ((a+2+(i+1):Nat):Int) s.length) (cond (inb ((a+2:Nat):Int) (Int.toNat ((a+2+(i+1):Nat):Int))) (qb (J2 m (qao s ((a+2:Nat):Int) ((a+2+(i+1):Nat):Int))) λ z=>cond (qg z) (some (T.mk 2 [] g [],((a+2+i:Nat):Int),false)) (jL m k s a n ((i+1+1:Nat):Int) 0 [] 0 2 [] g [] [])) none) none)) r->Ev (λ m k=>jL m k s a n ((i+1:Nat):Int) 0 [] 0 2 [] g [] []) r:=by
    intro G r h;refine waF ?_;simp only[qqP,qgu];rw[L,e1,y,K,J];exact waC (qaF.2 (by omega)) h
   rw[nmE];cases q:s[a+2+i]? with
   |none=>
     refine⟨λ e f=>?_,λ f=>(by cases f)⟩;cases f;exact⟨_,first (G:=λ _ _=>none) (waC (qaF.2 (by have:=List.getElem?_eq_none_iff.1 q;omega)) (waz _))⟩
   |some c=>
     have D:=(List.getElem?_eq_some_iff.1 q).1;have v:=qC5 (n:=i) (b:=a+2) (by omega) D l q;have p:=qAt ((s.take (a+2+(i+1))).drop (a+2));rw[v]at p
     have zk:∀{r},Ev (λ m k=>cond (qg (okC i c)) (some (T.mk 2 [] g [],((a+2+i:Nat):Int),false)) (jL m k s a n ((i+1+1:Nat):Int) 0 [] 0 2 [] g [] [])) r->Ev (λ m k=>jL m k s a n ((i+1:Nat):Int) 0 [] 0 2 [] g [] []) r:=λ h=>
      first (G:=λ _ _=>none) (waD (JR.2 (by omega)) (waC (by unfold inb;rw[decide_eq_true_iff];omega) (waC (by unfold inb;rw[decide_eq_true_iff];omega) (way p h))))
     simp only[];cases u:okC i c with
     |false=>
       refine⟨λ e f=>?_,λ f=>(by cases f)⟩;cases f;rw[u]at zk;exact⟨_,zk (waC rfl (waz _))⟩
     |true=>
       rw[u]at zk
       let⟨I,H⟩:=qFE s B a n g C w d (i+1) (by omega) (by omega) (λ j M N o=>by
        by_cases x:j=i
        .subst x;rw[q]at o;cases o;exact u
        .exact l j M (by omega) o)
       refine⟨λ e f=>?_,λ f=>zk (waD rfl (H f))⟩;let⟨t,A⟩:=I e f;exact⟨t,zk (waD rfl A)⟩
theorem qOw(s:List UInt8)(x:s.length<=1000000000)(a:Nat)(c:UInt8)(l:s[a]?=some c)(z:c.toNat<=5):(∀t n p,hdN s a=(some (t,n),p)->n=0/\Ev (λ m _=>qdz m s a) (t,((p:Int),true)))/\∀e,hdN s a=(none,e)->∃t,Ev (λ m _=>qdz m s a) (t,((e:Int),false)):=by
 have C:=(List.getElem?_eq_some_iff.1 l).1;have i:qd s (a:Int)=some c:=by rw[zF];exact l
 have g:iw .i64 (qf (a:Int) 1)=((a+1:Nat):Int):=iwn 1 (by omega);unfold hdN;rw[l];simp only[];rw[if_pos z];have fail:∀{G:Nat->Nat->Option (T×Int×Bool)}{b:Bool},b=true->Ev (λ m k=>cond b (some (T.mk 2 [] (c.toNat:Int) [],((a+1:Nat):Int),false)) (G m k)) (T.mk 2 [] (c.toNat:Int) [],((a+1:Nat):Int),false):=λ h=>waC h (waz _);cases q:s[a+1]? with
 |none=>
   refine⟨λ t n p d=>(by cases d),λ e d=>?_⟩;cases d;refine⟨T.mk 2 [] (c.toNat:Int) [],waG ?_⟩;simp only[qlZ,qbP];refine waA i ?_;rw[iwc,g];exact fail (qaF.2 (by have:=List.getElem?_eq_none_iff.1 q;omega))
 |some n=>
   have y:=(List.getElem?_eq_some_iff.1 q).1;have f:qd s ((a+1:Nat):Int)=some n:=by rw[zF];exact q
   simp only[];by_cases u:n.toNat<1\/24<n.toNat
   .rw[if_pos u];refine⟨λ t n p d=>(by cases d),λ e d=>?_⟩;cases d;refine⟨T.mk 2 [] (c.toNat:Int) [],waG ?_⟩;simp only[qlZ,qbP];refine waA i ?_;rw[iwc,g];refine waD (JR.2 (by omega)) (waA f ?_);rw[iwc];by_cases o:n.toNat<1
    .exact fail (qw.2 (by omega))
    .exact waD (qx.2 (by omega)) (fail (qw.2 (by omega)))
   .rw[if_neg u]
    have v:∀{r},Ev (λ m k=>jL m k s a n.toNat ((0+1:Nat):Int) 0 [] 0 2 [] (c.toNat:Int) [] []) r->Ev (λ m _=>qdz m s a) r:=λ h=>by
     refine waG ?_;simp only[qlZ,qbP];refine waA i ?_;rw[iwc,g];refine waD (JR.2 (by omega)) (waA f ?_);rw[iwc];exact waD (qx.2 (by omega)) (waD (qx.2 (by omega)) (waH h))
    let⟨B,A⟩:=qFE s x a n.toNat (c.toNat:Int) (by omega) (by omega) n.toNat 0 (by omega) (by omega) (λ j c D=>by omega);cases o:nmE s (a+2) n.toNat 0 with
    |some g=>
      refine⟨λ t n p d=>(by cases d),λ e d=>?_⟩;cases d;let⟨t,w⟩:=B _ o;exact⟨t,v w⟩
    |none=>
      refine⟨λ t n p d=>?_,λ e d=>(by cases d)⟩;cases d;exact⟨rfl,v (A o)⟩
theorem qRz:∀r∈esL,qd2 r.1=true->(qu r.1 [110,101,119]=true/\r.2.1=1\/qu r.1 [110,101,119]=false/\r.2.1=2)/\r.2.2=8:=by decide
def lsF:List (List UInt8×Int×Int×Int)->List UInt8->Option Int
 |[],_=>none
 |r::l,n=>cond (qu r.1 n) (some r.2.1) (lsF l n)
theorem qS9:∀r∈esL,qd2 r.1=false->lsF jw r.1=some r.2.1:=by decide
theorem qN3(s:List UInt8)(I:s.length<=1000000000)(p:Nat)(r:List UInt8×(Int×Int))(q:r∈esL):Ev (λ m _=>qdx m s p r.1) (if qd2 r.1=true then(match s[p]? with
  |none=>(0,((p:Int),false))
  |some k=>if(k.toNat:Int)<r.2.1\/r.2.2<(k.toNat:Int)then(0,((p:Int),false))else((k.toNat:Int),(((p+1:Nat):Int),true)))else(r.2.1,((p:Int),true))):=by
 refine waG ?_;simp only[qEp,qgi];refine way (qQF r.1) ?_;cases g:qd2 r.1 with
 |false=>
   rw[if_neg (by decide)];refine waC rfl (way (a:=jw) (waG (waz _)) ?_)
   have o:=qt (P:=λ i=>∀v,lsF (jw.drop i) r.1=some v->Ev (λ m k=>qbd m k s p r.1 jw i) (v,((p:Int),true))) jw (by decide)
    (λ g v c=>by rw[wJ]at c;cases c)
    (λ i x H B g d A C v c=>by
     refine waF ?_;simp only[qCF,qj6];refine waC g (waA d ?_);rw[B]at c;rw[A];cases b:qu x.1 r.1 with
     |true=>
       rw[lsF,b]at c;refine waC rfl (waA d (waE ?_));cases c;rfl
     |false=>
       rw[lsF,b]at c;exact waD rfl (C v c))
   exact waH (L:=λ m k=>qbd m k s p r.1 jw 0) (o 0 (wg _) _ (qS9 r q g))
 |true=>
   rw[if_pos rfl];refine waD rfl ?_;let⟨u,J⟩:=qRz r q g;let⟨G,F,E⟩:=qsc r q;cases t:s[p]? with
   |none=>
     have z:=List.getElem?_eq_none_iff.1 t;obtain⟨b,_⟩|⟨b,_⟩:=u
     .exact waC b (waC (qaF.2 (by omega)) (waz _))
     .exact waD b (waC (qaF.2 (by omega)) (waz _))
   |some k=>
     have z:=(List.getElem?_eq_some_iff.1 t).1;have d:qd s (p:Int)=some k:=by rw[zF];exact t
     have D:iw .i64 (qf (p:Int) 1)=((p+1:Nat):Int):=iwn 1 (by omega);simp only[]
     have e:r.2.1<=(k.toNat:Int)->Ev (λ m _=>qb (qd s (p:Int)) λ n=>cond (ilt 8 ((UInt8.toNat n:Nat):Int)) (some (0,(p:Int),false)) (qb (qd s (p:Int)) λ l=>some (iw .i64 ((UInt8.toNat l:Nat):Int),iw .i64 (qf (p:Int) 1),true))) (if(k.toNat:Int)<r.2.1\/r.2.2<(k.toNat:Int)then(0,((p:Int),false))else((k.toNat:Int),(((p+1:Nat):Int),true))):=λ y=>by
      refine waA d ?_;by_cases h:(8:Int)<(k.toNat:Int)
      .rw[if_pos (by omega)];exact waC (qw.2 h) (waz _)
      .rw[if_neg (by omega)];refine waD (qx.2 (by omega)) (waA d (waE ?_));rw[iwc,D]
     have f:∀a:Int,r.2.1=a->Ev (λ m _=>cond (ile (s.length:Int) (p:Int)) (some (0,(p:Int),false)) (qb (qd s (p:Int)) λ w=>cond (ilt (iw .i64 ((UInt8.toNat w:Nat):Int)) a) (some (0,(p:Int),false)) (qb (qd s (p:Int)) λ n=>cond (ilt 8 ((UInt8.toNat n:Nat):Int)) (some (0,(p:Int),false)) (qb (qd s (p:Int)) λ l=>some (iw .i64 ((UInt8.toNat l:Nat):Int),iw .i64 (qf (p:Int) 1),true))))) (if(k.toNat:Int)<r.2.1\/r.2.2<(k.toNat:Int)then(0,((p:Int),false))else((k.toNat:Int),(((p+1:Nat):Int),true))):=λ a j=>by
      refine waD (JR.2 (by omega)) (waA d ?_);rw[iwc];by_cases h:(k.toNat:Int)<a
      .rw[if_pos (by omega)];exact waC (qw.2 h) (waz _)
      .exact waD (qx.2 (by omega)) (e (by omega))
     obtain⟨b,j⟩|⟨b,j⟩:=u
     .exact waC b (f 1 j)
     .exact waD b (f 2 j)
end Go.AmZ
namespace Go.AmZ
theorem qLN(n:Nat):qgf (n+3000)=some true:=by kernel_rfl
theorem qqi:Ev (λ m _=>qgf m) true:=⟨3000,λ m k a _=>by
 obtain⟨n,rfl⟩:∃n,m=n+3000:=⟨m-3000,by omega⟩
 exact qLN n⟩
end Go.AmZ
namespace Go.AmZ
open Go Go.GxZ
def qAc(t:T):Int:=if qac t≠0 then qac t else if qzK t=false then 13 else if qb5 t=false then 10 else 0
def qR9(t:T):List UInt8:=if qAc t=0 then Jb (bI t)else[]
end Go.AmZ
namespace Go.AmZ
open Go Go.GxZ
theorem qBh(s:List UInt8)(f:Nat)(w:∀p,s.length<p+f->p<=s.length->(∀t q,rdT s f p=(some t,q)->Ev (λ m _=>qW m s p) (t,((q:Int),true)))/\∀e,rdT s f p=(none,e)->∃t,Ev (λ m _=>qW m s p) (t,((e:Int),false)))(nm:List UInt8)(n:Nat)(E:n<=8):
  ∀d i ks p,i+d=n->ks.length=i->s.length<p+f->p<=s.length->(∀b q,QZ (rdT s f) d p=(some b,q)->Ev (λ m k=>Qw m (qW m) k s n p i 0 [] 0 3 nm 0 [] ks) (.mk 3 nm 0 (ks++b),((q:Int),true)))/\
   ∀e,QZ (rdT s f) d p=(none,e)->∃t,Ev (λ m k=>Qw m (qW m) k s n p i 0 [] 0 3 nm 0 [] ks) (t,((e:Int),false))
 |0,i,ks,p,F,v,y,x=>by
   obtain rfl:i=n:=by omega
   refine⟨λ b q a=>waF ?_,λ e a=>(by cases a)⟩;cases a;simp only[qj8,qdL];refine waD (qx.2 (vC _)) (waE ?_);rw[wy]
 |d+1,i,ks,p,F,v,y,x=>by
   have e1:iw .i64 (qf (i:Int) 1)=((i+1:Nat):Int):=iwn 1 (by omega);let⟨I,H⟩:=w p y x;cases l:rdT s f p with
   |mk o j=>
   cases o with
   |none=>
     have c:QZ (rdT s f) (d+1) p=(none,j):=by unfold QZ;rw[l]
     refine⟨λ b q a=>(by rw[c]at a;cases a),λ e a=>?_⟩;rw[c]at a;cases a;let⟨t,u⟩:=H _ l;refine⟨T.mk 3 nm 0 ks,waF ?_⟩;simp only[qj8,qdL];exact waC (qw.2 (by omega)) (way u (waC rfl (waz _)))
   |some t=>
     let⟨J,z⟩:=qo2 s _ _ _ _ l;have u:=I _ _ l;let⟨D,C⟩:=qBh s f w nm n E d (i+1) (ks++[t]) j (by omega) (by simp[v]) (by omega) z
     have step:∀{r},Ev (λ m k=>Qw m (qW m) k s n j ((i+1:Nat):Int) 0 [] 0 3 nm 0 [] (ks++[t])) r->Ev (λ m k=>Qw m (qW m) k s n p i 0 [] 0 3 nm 0 [] ks) r:=λ h=>by
      refine waF ?_;simp only[qj8,qdL,qi];rw[e1];exact waC (qw.2 (by omega)) (way u (waD rfl (waC (zd (by omega) (by decide)) h)))
     have c:QZ (rdT s f) (d+1) p=(match QZ (rdT s f) d j with
      |(none,e)=>(none,e)
      |(some ks,q)=>(some (t::ks),q)):=by rw[QZ,l]<;>rfl
     cases g:QZ (rdT s f) d j with
     |mk o K=>
     rw[g]at c;cases o with
     |none=>
       refine⟨λ b q a=>(by rw[c]at a;cases a),λ e a=>?_⟩;rw[c]at a;cases a;let⟨A,G⟩:=C _ g;exact⟨A,step G⟩
     |some B=>
       refine⟨λ b q a=>?_,λ e a=>(by rw[c]at a;cases a)⟩;rw[c]at a;cases a;have:=step (D _ _ g);rw[wn]at this;exact this
theorem qOl(s:List UInt8)(R:s.length<=1000000000):∀f p,s.length<p+f->p<=s.length->(∀t q,rdT s f p=(some t,q)->Ev (λ m _=>qW m s p) (t,((q:Int),true)))/\∀e,rdT s f p=(none,e)->∃t,Ev (λ m _=>qW m s p) (t,((e:Int),false)):=by
 intro f
 induction f with
 |zero=>intro p O N;omega
 |succ f X=>
   intro p O N;have e1:iw .i64 (qf (p:Int) 1)=((p+1:Nat):Int):=iwn 1 (by omega);cases A:s[p]? with
   |none=>
     have i:hdN s p=(none,p):=by unfold hdN;rw[A]
     have g:rdT s (f+1) p=(none,p):=by unfold rdT;rw[i]
     refine⟨λ t q b=>(by rw[g]at b;cases b),λ e b=>?_⟩;rw[g]at b;cases b;refine⟨T.mk 0 [] 0 [],waG ?_⟩;simp only[qii,qam];exact waC (qaF.2 (by have:=List.getElem?_eq_none_iff.1 A;omega)) (waz _)
   |some c=>
     have hl:=(List.getElem?_eq_some_iff.1 A).1;have y:qd s (p:Int)=some c:=by rw[zF];exact A
     by_cases M:c.toNat<=5
     .let⟨a1,a2⟩:=qOw s R p c A M
      have C:∀{v},Ev (λ m _=>qdz m s p) v->Ev (λ m _=>qW m s p) v:=λ h=>by
       refine waG ?_;simp only[qii,qam,qi];exact waD (JR.2 (by omega)) (waA y (waC (qaF.2 (by omega)) (way h (waz _))))
      cases j:hdN s p with
      |mk o l=>
      cases o with
      |none=>
        have g:rdT s (f+1) p=(none,l):=by unfold rdT;rw[j]
        refine⟨λ t q b=>(by rw[g]at b;cases b),λ e b=>?_⟩;rw[g]at b;cases b;let⟨t,E⟩:=a2 _ j;exact⟨t,C E⟩
      |some o=>
        let⟨D,n0⟩:=o;obtain⟨rfl,E⟩:=a1 _ _ _ j;let⟨_,_,_,Y,_⟩:=qe8 j
        have g:rdT s (f+1) p=(some D,l):=by
         unfold rdT;rw[j];show(some (T.mk D.kind D.name D.sort []),l)=_;rw[<-Y];exact congrArg (λ x=>(some x,l)) (qi D)
        refine⟨λ t q b=>?_,λ e b=>(by rw[g]at b;cases b)⟩;rw[g]at b;cases b;exact C E
     .have P:(c.toNat<16\/30<c.toNat)->(∀t q,rdT s (f+1) p=(some t,q)->Ev (λ m _=>qW m s p) (t,((q:Int),true)))/\∀e,rdT s (f+1) p=(none,e)->∃t,Ev (λ m _=>qW m s p) (t,((e:Int),false)):=by
        intro U
        have i:hdN s p=(none,p):=by
         unfold hdN;rw[A];simp only[];rw[if_neg M];by_cases B:c.toNat<16
         .rw[if_pos B]
         .rw[if_neg B,show esL[c.toNat-16]?=none from List.getElem?_eq_none_iff.2 (by show 15<=_;omega)]
        have g:rdT s (f+1) p=(none,p):=by unfold rdT;rw[i]
        refine⟨λ t q b=>(by rw[g]at b;cases b),λ e b=>?_⟩;rw[g]at b;cases b;refine⟨T.mk 0 [] 0 [],waG ?_⟩;simp only[qii,qam];refine waD (JR.2 (by omega)) (waA y (waD (JR.2 (by omega)) (waA y ?_)));by_cases B:c.toNat<16
        .exact waC (qw.2 (by omega)) (waz _)
        .refine waD (qx.2 (by omega)) (waA y (way (a:=nmL) (waG (waz _)) ?_));rw[iwc];exact waC (qaF.2 (by show(31:Int)<=_;omega)) (waz _)
      by_cases U:c.toNat<16\/30<c.toNat
      .exact P U
      .have F:c.toNat-16<esL.length:=by show _<15;omega
       have u:=List.getElem?_eq_getElem F;generalize esL[c.toNat-16]=r at u;have S:=wb u;let⟨p0,p1,p2⟩:=qsc r S
       have L:qd nmL (iw .i64 (zX (c.toNat:Int) 16))=some r.1:=by
        rw[show iw .i64 (zX (c.toNat:Int) 16)=((c.toNat-16:Nat):Int) by rw[show zX (c.toNat:Int) 16=((c.toNat-16:Nat):Int) by unfold zX;omega,jN (by omega)],zF,<-qCV,List.getElem?_map,u];rfl
       have i:hdN s p=(if qd2 r.1=true then(match s[p+1]? with
         |none=>(none,p+1)
         |some k=>if(k.toNat:Int)<r.2.1\/r.2.2<(k.toNat:Int)then(none,p+1)else(some (.mk 3 r.1 0 [],k.toNat),p+2))
        else(some (.mk 3 r.1 0 [],r.2.1.toNat),p+1)):=by
        unfold hdN;rw[A];simp only[];rw[if_neg M,if_neg (by omega),u]<;>rfl
       have d:=qN3 s R (p+1) r S
       have C:∀{v:Int×(Int×Bool)}{x},Ev (λ m _=>qdx m s ((p+1:Nat):Int) r.1) v->Ev (λ m _=>cond (qg v.2.2) (some (T.mk 3 r.1 0 [],v.2.1,false)) (Qw m (qW m) m s v.1 v.2.1 0 0 [] 0 3 r.1 0 [] [])) x->Ev (λ m _=>qW m s p) x:=λ O N=>by
        refine waG ?_;simp only[qii,qam];refine waD (JR.2 (by omega)) (waA y (waD (JR.2 (by omega)) (waA y (waD (qx.2 (by omega)) (waA y (way (a:=nmL) (waG (waz _)) ?_))))));rw[iwc];refine waD (JR.2 (by show _<(31:Int);omega)) (way (a:=nmL) (waG (waz _)) (waA y ?_));rw[iwc,e1];exact waA L (way O N)
       have I:∀n l,hdN s p=(some (T.mk 3 r.1 0 [],n),l)->Ev (λ m _=>qdx m s ((p+1:Nat):Int) r.1) ((n:Int),((l:Int),true))->(∀t q,rdT s (f+1) p=(some t,q)->Ev (λ m _=>qW m s p) (t,((q:Int),true)))/\∀e,rdT s (f+1) p=(none,e)->∃t,Ev (λ m _=>qW m s p) (t,((e:Int),false)):=by
        intro n l j w;let⟨g1,Z,g3,_⟩:=qe8 j;let⟨W,V⟩:=qBh s f X r.1 n g3 n 0 [] l (by omega) rfl (by omega) Z;cases z:QZ (rdT s f) n l with
        |mk o Q=>
        cases o with
        |none=>
          have g:rdT s (f+1) p=(none,Q):=by unfold rdT;rw[j];simp only[];rw[z]
          refine⟨λ t q b=>(by rw[g]at b;cases b),λ e b=>?_⟩;rw[g]at b;cases b;let⟨t,E⟩:=V _ z;exact⟨t,C w (waD rfl (waH E))⟩
        |some K=>
          have g:rdT s (f+1) p=(some (.mk 3 r.1 0 K),Q):=by unfold rdT;rw[j];simp only[];rw[z];rfl
          refine⟨λ t q b=>?_,λ e b=>(by rw[g]at b;cases b)⟩;rw[g]at b;cases b;exact C w (waD rfl (waH (W _ _ z)))
       have J:hdN s p=(none,p+1)->Ev (λ m _=>qdx m s ((p+1:Nat):Int) r.1) (0,(((p+1:Nat):Int),false))->(∀t q,rdT s (f+1) p=(some t,q)->Ev (λ m _=>qW m s p) (t,((q:Int),true)))/\∀e,rdT s (f+1) p=(none,e)->∃t,Ev (λ m _=>qW m s p) (t,((e:Int),false)):=by
        intro j w;have g:rdT s (f+1) p=(none,p+1):=by unfold rdT;rw[j]
        refine⟨λ t q b=>(by rw[g]at b;cases b),λ e b=>?_⟩;rw[g]at b;cases b;exact⟨_,C w (waC rfl (waz _))⟩
       cases H:qd2 r.1 with
       |false=>
         rw[H,if_neg (by decide)]at i d;refine I _ _ i ?_;have e:((r.2.1.toNat:Nat):Int)=r.2.1:=by omega
         rw[e];exact d
       |true=>
         rw[H,if_pos rfl]at i d;cases z:s[p+1]? with
         |none=>rw[z]at i d;exact J i d
         |some k=>
           rw[z]at i d;simp only[]at i d;by_cases G:(k.toNat:Int)<r.2.1\/r.2.2<(k.toNat:Int)
           .rw[if_pos G]at i d;exact J i d
           .rw[if_neg G]at i d;exact I _ _ i d
end Go.AmZ
namespace Go.AmZ
open Go Go.GxZ
theorem qHW{s:List UInt8}{b:Nat}:∀{d i:Nat},nmE s b d i=none->∀j c,j<d->s[b+i+j]?=some c->okC (i+j) c=true
 |0,_,_,j,_,g,_=>by omega
 |d+1,i,h,j,c,g,a=>by
   unfold nmE at h;split at h
   .cases h
   .rename_i k f;cases e:okC i k with
    |false=>rw[e]at h;cases h
    |true=>
      rw[e]at h;have h:nmE s b d (i+1)=none:=h;cases j with
      |zero=>rw[wO]at a |-;rw[f]at a;cases a;exact e
      |succ j=>have:=qHW h j c (by omega) (by rw[show b+(i+1)+j=b+i+(j+1) by omega];exact a);rw[show i+(j+1)=i+1+j by omega];exact this
theorem qQQ:∀r∈esL,jT r.1=true:=by decide
theorem qNk{s:List UInt8}{p q n:Nat}{t:T}(h:hdN s p=(some (t,n),q))(ks:List T)(A:ks.length=n):jS (.mk t.kind t.name t.sort ks)=0:=by
 have C:=(qe8 h).2.2.1;unfold hdN at h;cases o:s[p]? with
 |none=>rw[o]at h;cases h
 |some c=>
   rw[o]at h;simp only[]at h;split at h
   .rename_i D;cases i:s[p+1]? with
    |none=>rw[i]at h;cases h
    |some k=>
      rw[i]at h;simp only[]at h;split at h
      .cases h
      .rename_i z;cases u:nmE s (p+2) k.toNat 0 with
       |some e=>rw[u]at h;cases h
       |none=>
         rw[u]at h;cases h;have y:=qEc u;have x:=qHW u;obtain⟨m,w⟩:∃m,k.toNat=m+1:=⟨k.toNat-1,by omega⟩
         have d:=y m (by omega);rw[wO]at d;have g:=List.getElem?_eq_getElem d;have a:=qC5 (s:=s) (b:=p+2) (n:=m) (by omega) d (λ j c B o=>by have:=x j c (by omega) (by rw[wO];exact o);rwa [wG]at this) g;have f:=x m _ (by omega) (by rw[wO];exact g);rw[wG]at f;rw[f]at a;unfold jS qjg;show(if(2:Int)=1\/(2:Int)=2 then(if(c.toNat:Int)<0\/5<(c.toNat:Int)\/0<ks.length then 1 else if jT ((s.take (p+2+k.toNat)).drop (p+2))=true then 0 else 2)else _)=(0:Int);rw[if_pos (.inr rfl),if_neg (by omega),w,a,if_pos rfl]
   .split at h
    .cases h
    .cases v:esL[c.toNat-16]? with
     |none=>rw[v]at h;cases h
     |some r=>
       rw[v]at h;have a:=qQQ r (wb v)
       have l:∀m,m=n->jS (.mk 3 r.1 0 ks)=0:=λ m w=>by
        unfold jS qjg;show(if(3:Int)=1\/(3:Int)=2 then _ else if(3:Int)=3 then(if(0:Int)≠0 then 1 else if jT r.1=true then(if 8<ks.length then 3 else 0)else 2)else 1)=(0:Int);rw[if_neg (by decide),if_pos rfl,if_neg (by decide),a,if_pos rfl,if_neg (by omega)]
       simp only[]at h;split at h
       .cases i:s[p+1]? with
        |none=>rw[i]at h;cases h
        |some k=>
          rw[i]at h;simp only[]at h;split at h
          .cases h
          .cases h;exact l _ rfl
       .cases h;exact l _ rfl
theorem qJ9{t:T}(h:jS t=0)(b:∀k∈t.kids,Qm k=0):Qm t=0:=by
 rw[qeS,h];generalize t.kids=l at b
 induction l with
 |nil=>rfl
 |cons x l c=>rw[wk,ky,b x (wh ..)];exact c λ k a=>b k (we _ a)
theorem qFW{R:Nat->Option T×Nat}(h:∀p q t,R p=(some t,q)->Qm t=0/\p+size t<=q):∀n p q ks,QZ R n p=(some ks,q)->(∀k∈ks,Qm k=0)/\p+(ks.map size).sum<=q
 |0,p,q,ks,a=>by cases a;exact⟨λ k d=>(by cases d),wa _⟩
 |n+1,p,q,ks,a=>by
   unfold QZ at a;split at a
   .cases a
   .rename_i k l d;let⟨i,o⟩:=h _ _ _ d;split at a
    .cases a
    .rename_i e j c;cases a;let⟨g,m⟩:=qFW h n _ _ _ c;refine⟨λ f b=>?_,by rw[wk,kO];omega⟩;obtain rfl|b:=wv.1 b
     .exact i
     .exact g f b
theorem qz8(s:List UInt8):∀f p q t,rdT s f p=(some t,q)->Qm t=0/\p+size t<=q
 |0,p,q,t,h=>by cases h
 |f+1,p,q,t,h=>by
   unfold rdT at h;split at h
   .cases h
   .rename_i g n i b;split at h
    .cases h
    .rename_i ks j a;cases h;let⟨l,e,_⟩:=qe8 b;let⟨d,k⟩:=qFW (qz8 s f) _ _ _ _ a;let⟨_,_,c⟩:=qyW (qo2 s f) _ _ _ _ e a;refine⟨qJ9 (qNk b ks c) d,?_⟩;rw[qU];show p+(1+(ks.map size).sum)<=q;omega
theorem qI8{t:T}(h:qb5 t=true):qac t=0:=by
 unfold qb5 at h;simp only[wc,decide_eq_true_eq]at h;have a:=h.1;rw[qk0]at a;by_cases b:qac t=0
 .exact b
 .rw[if_pos b]at a;exact a
def qlY(s:List UInt8):T×(Int×Int):=match rdT s (s.length+1) 0 with
 |(none,e)=>(.mk 0 [] 0 [],((e:Int),2))
 |(some t,q)=>if q≠s.length then(.mk 0 [] 0 [],((q:Int),2))else if 400<size t\/40<qak t then(.mk 0 [] 0 [],(0,3))else if qb5 t=true then(t,(0,0))else(.mk 0 [] 0 [],(0,10))
theorem qSF(s:List UInt8)(e:s.length<=1000000000):Ev (λ m _=>qaf m s) (qlY s):=by
 refine waG ?_;simp only[qtG,qeT,qi];unfold qlY;let⟨i,g⟩:=qK5 s e;cases b:rdT s (s.length+1) 0 with
 |mk o q=>
 cases o with
 |none=>exact way (g _ b) (waC rfl (waz _))
 |some t=>
   let⟨f,j⟩:=qz8 s _ _ _ _ b;let⟨_,k⟩:=qo2 s _ _ _ _ b;refine way (i _ _ b) (waD rfl ?_);simp only[];by_cases a:q=s.length
   .rw[if_neg (λ h=>h a)];refine waD (bnf.2 (qk.2 (by omega))) (way (Jr t (by omega)) ?_);have d:qB t=if 400<size t\/40<qak t then 3 else 0:=by unfold qB;rw[if_neg (λ h=>h f)]
    rw[d];by_cases c:400<size t\/40<qak t
    .rw[if_pos c,if_pos c];exact waC rfl (waz _)
    .rw[if_neg c,if_neg c];refine waD rfl (way (qLv t (by omega)) ?_);cases l:qb5 t with
     |true=>exact waD rfl (waz _)
     |false=>exact waC rfl (waz _)
   .rw[if_pos a];exact waC (bnt.2 (qh.2 (by omega))) (waz _)
theorem qQw(s:List UInt8)(i:s.length<=1000000000):Ev (λ m _=>qhO m s) (qlY s):=by
 refine waG ?_;simp only[qzF,qh4,qi];unfold qlY;let⟨k,j⟩:=qOl s i (s.length+1) 0 (by omega) (wg _);cases c:rdT s (s.length+1) 0 with
 |mk o q=>
 cases o with
 |none=>
   let⟨t,g⟩:=j _ c;exact way g (waC rfl (waz _))
 |some t=>
   let⟨p,l⟩:=qz8 s _ _ _ _ c;let⟨_,n⟩:=qo2 s _ _ _ _ c;refine way (k _ _ c) (waD rfl ?_);simp only[];by_cases a:q=s.length
   .rw[if_neg (λ h=>h a)];refine waD (bnf.2 (qk.2 (by omega))) (way (qpO t (by omega)) ?_);by_cases f:400<size t
    .rw[if_pos (.inl f)];exact waC (qw.2 (by omega)) (waz _)
    .refine waD (qx.2 (by omega)) (way (qBg t (by omega)) ?_);by_cases e:40<qak t
     .rw[if_pos (.inr e)];exact waC (qw.2 (by omega)) (waz _)
     .rw[if_neg (by omega)];refine waD (qx.2 (by omega)) (way (qs7 t (by omega)) ?_);by_cases d:qac t=0
      .refine waD (bnf.2 (qk.2 d)) (way (qMb t (by omega)) ?_);cases b:qb5 t with
       |true=>exact waD rfl (waz _)
       |false=>exact waC rfl (waz _)
      .have b:qb5 t=false:=by
         cases b:qb5 t with
         |true=>exact absurd (qI8 b) d
         |false=>rfl
       rw[b,if_neg (by decide)];exact waC (bnt.2 (qh.2 d)) (waz _)
   .rw[if_pos a];exact waC (bnt.2 (qh.2 (by omega))) (waz _)
end Go.AmZ
namespace Go.AmZ
open Go Go.GxZ
def okR(u:T):Prop:=(u.kind=2/\0<=u.sort/\u.sort<=5/\jT u.name=true/\u.kids=[])\/(u.kind=3/\u.sort=0/\u.name∈nmL/\(qE u.name).1<=(u.kids.length:Int)/\(u.kids.length:Int)<=(qE u.name).2.1)
def qJC(t:T):Prop:=∀u∈Q9 t,okR u
def hdS(u:T):List UInt8:=if u.kind=2 then Jb [iw .u8 u.sort,iw .u8 u.name.length]++u.name else Jb (if qd2 u.name then[hdE u.name]++[iw .u8 u.kids.length]else[hdE u.name])
theorem u8_in{n:Nat}(h:n<=255):iw .u8 (n:Int)=(n:Int):=IntWalk.u8_in _ (by omega)
theorem qRU{n:Nat}(h:n<=255):(UInt8.ofNat (iw .u8 (n:Int)).toNat).toNat=n:=by
 rw[u8_in h,kL];simp only[UInt8.toNat_ofNat'];omega
theorem qRV{n:List UInt8}(h:n∈nmL):∃(j:Nat) (r:List UInt8×(Int×Int)),j<15/\hdE n=iw .u8 ((16+j:Nat):Int)/\esL[j]?=some r/\r.1=n:=by
 let⟨b,j,r,e,a,d⟩:=qK1 esL n 0 (by rw[qCV];exact h);have c:j<15:=(List.getElem?_eq_some_iff.1 a).1;refine⟨j,r,c,?_,a,d⟩;unfold hdE;rw[qCV]at b;rw[<-b,e,show(16:Int)=((16:Nat):Int)from rfl,qeF,jN (by omega),wG]
theorem qTf:∀r∈esL,(qE r.1).1=r.2.1/\(qE r.1).2.1=r.2.2:=by decide
theorem qSt:∀r∈esL,qd2 r.1=false->r.2.1=r.2.2:=by decide
theorem qTi(t:T)(h:okR t):Jb (bI t)=hdS t++Jb (t.kids.map bI).flatten:=by
 rw[qTh];unfold hdS;obtain⟨a,_,_,_,c⟩|⟨a,_⟩:=h
 .rw[if_pos a,if_pos a,qpe,qOS,c];exact(wy _).symm
 .have b:¬ t.kind=2:=by omega
  rw[if_neg b,if_neg b,qpe]
end Go.AmZ
namespace Go.AmZ
open Go Go.GxZ
theorem qsZ(c:UInt8):UInt8.ofNat (iw .u8 ((c.toNat:Nat):Int)).toNat=c:=by
 have h:=c.toNat_lt;apply UInt8.toNat.inj;exact qRU (by omega)
theorem qHU{s:List UInt8}{b:Nat}:∀(n j:Nat),nmE s b n j=none->∀i,j<=i->i<j+n->∃c,s[b+i]?=some c/\okC i c=true
 |0,j,_,i,g,f=>by omega
 |n+1,j,h,i,g,f=>by
   rw[nmE]at h;cases e:s[b+j]? with
   |none=>rw[e]at h;cases h
   |some c=>
     rw[e]at h;cases a:okC j c with
     |false=>simp only[a,cond]at h;cases h
     |true=>
       simp only[a,cond]at h;by_cases d:i=j
       .subst d;exact⟨c,e,a⟩
       .exact qHU n (j+1) h i (by omega) (by omega)
theorem qMt{n:List UInt8}(e:1<=n.length)(d:n.length<=24)(h:∀i c,n[i]?=some c->okC i c=true):jT n=true:=by
 unfold jT;simp only[wc,decide_eq_true_eq];refine⟨⟨⟨e,d⟩,?_⟩,?_⟩
 .have:=h 0 (n[0]) (List.getElem?_eq_getElem (by omega));unfold okC at this;rw[if_pos rfl]at this;rw[List.getD_eq_getElem?_getD,List.getElem?_eq_getElem (show 0<n.length by omega)];exact this
 .rw[ww];intro c b;obtain⟨i,a,rfl⟩:=List.mem_iff_getElem.1 b;have:=h i _ (List.getElem?_eq_getElem a);unfold okC at this;split at this
  .unfold Qc;rw[this];rfl
  .exact this
theorem qob{s:List UInt8}{p:Nat}{c:UInt8}(h:s[p]?=some c):(s.take (p+1)).drop p=[c]:=by
 rw[ko,h,List.drop_append_of_le_length (by rw[wo];have:=(List.getElem?_eq_some_iff.1 h).1;omega)];simp
theorem qoq{s:List UInt8}{p q r:Nat}(b:p<=q)(a:q<=r):(s.take r).drop p=(s.take q).drop p++(s.take r).drop q:=by
 have e:s.take q=(s.take r).take q:=by rw[xG,kw a]
 rw[e];generalize s.take r=l;rw[List.drop_take]
 conv=>lhs;rw[<-kD (q-p) (l.drop p)]
 rw[List.drop_drop,show p+(q-p)=q by omega]
theorem qRa(n:List UInt8)(so:Int)(ks:List T):hdS (.mk 2 n so ks)=Jb [iw .u8 so,iw .u8 n.length]++n:=if_pos rfl
theorem qAR(n:List UInt8)(so:Int)(ks:List T):hdS (.mk 3 n so ks)=Jb (if qd2 n then[hdE n]++[iw .u8 ks.length]else[hdE n]):=if_neg (show ¬ (3:Int)=2 by decide)
theorem qP0{s:List UInt8}{p q n:Nat}{t:T}(h:hdN s p=(some (t,n),q))(ks:List T)(a:ks.length=n):okR (.mk t.kind t.name t.sort ks)/\(s.take q).drop p=hdS (.mk t.kind t.name t.sort ks):=by
 unfold hdN at h;cases v:s[p]? with
 |none=>rw[v]at h;cases h
 |some c=>
   rw[v]at h;simp only[]at h;split at h
   .rename_i Q;cases y:s[p+1]? with
    |none=>rw[y]at h;cases h
    |some d=>
      rw[y]at h;simp only[]at h;split at h
      .cases h
      .rename_i hd;have P:1<=d.toNat/\d.toNat<=24:=by omega
       cases B:nmE s (p+2) d.toNat 0 with
       |some e=>rw[B]at h;cases h
       |none=>
         rw[B]at h;simp only[wL,wB]at h;obtain⟨⟨rfl,rfl⟩,rfl⟩:=h;have m:=qHU _ _ B
         have G:p+2+d.toNat<=s.length:=by
          let⟨K,C,_⟩:=m (d.toNat-1) (wg _) (by omega);have:=(List.getElem?_eq_some_iff.1 C).1;omega
         have f:((s.take (p+2+d.toNat)).drop (p+2)).length=d.toNat:=by
          rw[w7,wo];omega
         obtain rfl:=wi a;refine⟨.inl ⟨rfl,Int.natCast_nonneg _,by show((c.toNat:Nat):Int)<=5;omega,qMt (n:=(s.take (p+2+d.toNat)).drop (p+2)) (by rw[f];omega) (by rw[f];omega) λ i K o=>?_,rfl⟩,?_⟩
         .have O:i<d.toNat:=by rw[<-f];exact(List.getElem?_eq_some_iff.1 o).1
          let⟨c2,S,R⟩:=m i (wg _) (by omega);have o:((s.take (p+2+d.toNat)).drop (p+2))[i]?=some K:=o;rw[List.getElem?_drop,List.getElem?_take,if_pos (by omega),S]at o;cases o;exact R
         .refine Eq.trans ?_ (qRa ((s.take (p+2+d.toNat)).drop (p+2)) ((c.toNat:Nat):Int) []).symm;rw[f];show _=[UInt8.ofNat (iw .u8 ((c.toNat:Nat):Int)).toNat,UInt8.ofNat (iw .u8 ((d.toNat:Nat):Int)).toNat]++_;rw[qsZ,qsZ,qoq (q:=p+1) (by omega) (by omega),qoq (p:=p+1) (q:=p+2) (by omega) (by omega),qob v,qob y];rfl
   .split at h
    .cases h
    .rename_i Q U;cases l:esL[c.toNat-16]? with
     |none=>rw[l]at h;cases h
     |some r=>
       rw[l]at h;simp only[]at h;have w:=wb l;have hj:c.toNat-16<15:=(List.getElem?_eq_some_iff.1 l).1;have g:r.1∈nmL:=by rw[<-qCV];exact wC.2 ⟨r,w,rfl⟩
       let⟨Z,Y,X⟩:=qsc r w;let⟨F,E⟩:=qTf r w
       have u:UInt8.ofNat (hdE r.1).toNat=c:=by
        let⟨j,L,N,e1,D,W⟩:=qRV g
        have:L=r/\j=c.toNat-16:=by
         have x:(esL.map (·.1)).Nodup:=by decide
         have J:(esL.map (·.1))[j]?=some r.1:=by rw[List.getElem?_map,D];exact congrArg some W
         have V:(esL.map (·.1))[c.toNat-16]?=some r.1:=by rw[List.getElem?_map,l];rfl
         have A:j<(esL.map (·.1)).length:=(List.getElem?_eq_some_iff.1 J).1;have I:=(List.getElem?_inj A x).1 (J.trans V.symm);refine⟨?_,I⟩;rw[I,l]at D;exact(kz D).symm
        rw[e1,this.2,show 16+(c.toNat-16)=c.toNat by omega];exact qsZ c
       split at h
       .rename_i b;cases z:s[p+1]? with
        |none=>rw[z]at h;cases h
        |some k=>
          rw[z]at h;simp only[]at h;split at h
          .cases h
          .rename_i M;simp only[wL,wB]at h;obtain⟨⟨rfl,rfl⟩,rfl⟩:=h;refine⟨.inr ⟨rfl,rfl,g,?_,?_⟩,?_⟩
           .show(qE r.1).1<=(ks.length:Int);rw[F,a];omega
           .show(ks.length:Int)<=(qE r.1).2.1;rw[E,a];omega
           .refine Eq.trans ?_ (qAR r.1 0 ks).symm;rw[if_pos b,a];show _=[UInt8.ofNat (hdE r.1).toNat,UInt8.ofNat (iw .u8 ((k.toNat:Nat):Int)).toNat];rw[u,qsZ,qoq (q:=p+1) (by omega) (by omega),qob v,qob z];rfl
       .rename_i b;rw[kK]at b;simp only[wL,wB]at h;obtain⟨⟨rfl,rfl⟩,rfl⟩:=h;have H:=qSt r w b;refine⟨.inr ⟨rfl,rfl,g,?_,?_⟩,?_⟩
        .show(qE r.1).1<=(ks.length:Int);rw[F,a];omega
        .show(ks.length:Int)<=(qE r.1).2.1;rw[E,a];omega
        .refine Eq.trans ?_ (qAR r.1 0 ks).symm;rw[if_neg (by rw[b];decide)];show _=[UInt8.ofNat (hdE r.1).toNat];rw[u,qob v]
theorem qGf{s:List UInt8}{R:Nat->Option T×Nat}(g:∀p k q,R p=(some k,q)->qJC k/\(s.take q).drop p=Jb (bI k)/\p<=q/\q<=s.length):∀(n p:Nat) (ks:List T) (q:Nat),p<=s.length->QZ R n p=(some ks,q)->ks.length=n/\(∀k∈ks,qJC k)/\(s.take q).drop p=Jb (ks.map bI).flatten/\p<=q/\q<=s.length
 |0,p,ks,q,f,h=>by
   simp only[QZ,wL,wB]at h;obtain⟨rfl,rfl⟩:=h;refine⟨rfl,λ k c=>(by cases c),?_,wa _,f⟩;rw[List.drop_eq_nil_of_le (by rw[wo];omega)];rfl
 |n+1,p,ks,q,f,h=>by
   simp only[QZ]at h;split at h
   .cases h
   .rename_i k d c;split at h
    .cases h
    .rename_i a l b;simp only[wL,wB]at h;obtain⟨rfl,rfl⟩:=h;let⟨y,w,j,v⟩:=g p k d c;let⟨u,t,r,i,o⟩:=qGf g n d a l v b;refine⟨by rw[wx,u],λ x m=>(wv.1 m).elim (λ e=>e▸y) (t x),?_,wz j i,o⟩;rw[qoq j i,w,r,wk,vB,qpe]
theorem qHf{s:List UInt8}:∀(f p:Nat) (t:T) (q:Nat),rdT s f p=(some t,q)->qJC t/\(s.take q).drop p=Jb (bI t)/\p<=q/\q<=s.length
 |0,p,t,q,h=>by simp[rdT]at h
 |f+1,p,t,q,h=>by
   simp only[rdT]at h;split at h
   .cases h
   .rename_i z n d e;split at h
    .cases h
    .rename_i ks i b;simp only[wL,wB]at h;obtain⟨rfl,rfl⟩:=h;let⟨A,o,_⟩:=qe8 e;let⟨y,x,w,v,r⟩:=qGf (λ p k q c=>qHf f p k q c) n d ks i o b;let⟨g,m⟩:=qP0 e ks y;refine⟨λ u a=>?_,?_,by omega,r⟩
     .rw[qlq]at a;obtain rfl|a:=wv.1 a
      .exact g
      .let⟨l,j,a⟩:=wal.1 a;obtain⟨k,c,rfl⟩:=wC.1 j;exact x k c u a
     .rw[qTi _ g,qoq (q:=d) (by omega) v,m,w];rfl
theorem qGx{t:T}(h:qJC t):qzK t=true:=by
 unfold qzK zP;rw[xt,vD];intro u b;obtain⟨a,_⟩|⟨a,_⟩:=h u b<;>(rw[a];decide)
theorem qGG{t:T}(h:qb5 t=true):qac t=0:=by
 unfold qb5 at h;rw[wc,decide_eq_true_eq]at h;have b:=h.1;by_cases a:qac t=0
 .exact a
 .unfold qiM at b;rw[if_pos a]at b;exact absurd b a
theorem qDz{s:List UInt8}{t:T}{a:Int}(h:qlY s=(t,(a,0))):qAc t=0/\qR9 t=s/\a=0/\size t<=400:=by
 unfold qlY at h;split at h
 .simp at h
 .rename_i e q f;let⟨j,i,_,l⟩:=qHf _ _ _ _ f;split at h
  .simp at h
  .rename_i b;have b:q=s.length:=kU λ g=>b g;split at h
   .simp at h
   .rename_i k;split at h
    .rename_i c;simp only[wL]at h;obtain⟨rfl,rfl,_⟩:=h
     have d:qAc e=0:=by
      unfold qAc;rw[if_neg (λ g=>g (qGG c)),if_neg (by rw[qGx j];decide),if_neg (by rw[c];decide)]
     refine⟨d,?_,rfl,by omega⟩;unfold qR9;rw[if_pos d,<-i,b,wF,wH]
    .simp at h
end Go.AmZ
namespace Go.AmZ
open Go Go.GxZ Go.RowKit
open Go.ChangeShapes Go.WideShapes Go.ChangeAt Go.WideMaps Go.WideElems
theorem qKN(b o j:Nat):(⟨b,o,none⟩:Addr).add j=⟨b,o+j,none⟩:=by unfold Addr.add;split<;>simp_all
def Ty.wt:Ty->Nat
 |.int _|.bool=>1
 |.str=>16
 |.list _=>24
 |.term=>56
 |.pair a b=>a.wt+b.wt
 |.one a=>a.wt
 |.map _ _=>8
theorem Ty.wt_pos:∀a:Ty,0<a.wt
 |.int _|.bool=>Nat.one_pos
 |.list _=>(by decide:0<24)
 |.str=>(by decide:0<16)
 |.term=>(by decide:0<56)
 |.pair a b=>wA (Ty.wt_pos a) (kI _ _)
 |.one a=>Ty.wt_pos a
 |.map _ _=>(by decide:0<8)
mutual
def tyM(P:Program):Nat->Ty->TypeId->Bool
 |0,_,_=>false
 |_+1,.int k,t=>match P.underlying t with
   |some (.int d)=>decide (d=k)&&decide (P.cellsOf t=1)
   |_=>false
 |_+1,.bool,t=>match P.underlying t with
   |some .bool=>decide (P.cellsOf t=1)
   |_=>false
 |_+1,.str,t=>match P.underlying t with
   |some .string=>decide (P.cellsOf t=1)
   |_=>false
 |n+1,.list a,t=>match P.underlying t with
   |some (.slice e)=>decide (P.cellsOf t=1)&&decide (P.cellsOf e=a.size)&&decide (a.wt<=P.bytesOf e)&&tyM P n a e
   |_=>false
 |n+1,.term,t=>qJA P n t
 |n+1,.pair a b,t=>match P.underlying t with
   |some (.struct c)=>decide (P.cellsOf t=a.size+b.size)&&fsM P n (.pair a b) 0 c.toList
   |_=>false
 |n+1,.one a,t=>match P.underlying t with
   |some (.struct c)=>decide (P.cellsOf t=a.size)&&fsM P n a 0 c.toList
   |_=>false
 |_+1,.map _ _,_=>false
def fsM(P:Program):Nat->Ty->Nat->List Field->Bool
 |0,_,_,_=>false
 |n+1,τ,off,[f]=>decide (f.offset=off)&&decide (P.cellsOf f.type=τ.size)&&tyM P n τ f.type
 |n+1,.pair a b,off,f::g::r=>decide (f.offset=off)&&decide (P.cellsOf f.type=a.size)&&tyM P n a f.type&&fsM P n b (off+a.size) (g::r)
 |_+1,_,_,_=>false
def qJA(P:Program):Nat->TypeId->Bool
 |0,_=>false
 |n+1,t=>match P.underlying t with
   |some (.struct f)=>match f.toList with
     |[d,c,b,a]=>decide (P.cellsOf t=4)&&decide (d.offset=0)&&decide (c.offset=1)&&decide (b.offset=2)&&decide (a.offset=3)&&decide (P.cellsOf a.type=1)&&
      tyM P n (.int .i64) d.type&&tyM P n .str c.type&&tyM P n (.int .i64) b.type&&(match P.underlying a.type with
      |some (.slice e)=>decide (e=t)&&decide (0<P.bytesOf t)
      |_=>false)
     |_=>false
   |_=>false
end
def qj2:(τ:Ty)->Val τ->Prop
 |.int k,n=>k.min<=n/\n<=k.max
 |.bool,_=>True
 |.str,s=>s.length<2^62
 |.term,t=>qsz t
 |.list a,l=>(l.length<2^62/\l.length*a.wt<=2^47)/\∀x∈l,qj2 a x
 |.pair a b,p=>qj2 a p.1/\qj2 b p.2
 |.one a,v=>qj2 a v
 |.map _ _,_=>True
def ghW(W:World):Gh:=⟨λ b o=>match W.cell? ⟨b,o,none⟩with|some u=>if u.oneCell'=true then some u else none|none=>none,0,λ _=>0,0,λ _=>0,λ _=>0,λ _=>0,λ _=>0,λ _=>0⟩
theorem qHD{W:World}{b o:Nat}{u:Value}:(ghW W).mem b o=some u↔W.cell? ⟨b,o,none⟩=some u/\u.oneCell'=true:=by
 show(match W.cell? ⟨b,o,none⟩with|some u=>if u.oneCell'=true then some u else none|none=>none)=some u↔_;grind
theorem qQk(W:World):Inv (ghW W) emp W:=
 ⟨rfl,rfl,λ b o u h=>qHD.1 h,λ i cs h=>(by cases h),λ i j h=>absurd h (wN _),λ i h=>absurd h (wN _),λ r R h=>(by cases h),λ r a h=>absurd h (wN _)⟩
theorem cells_len{W:World}{zk:Nat}{a:Addr}:∀{n:Nat} {cs:List Value},W.cells? zk a n=some cs->cs.length=n/\∀ j u,cs[j]?=some u->W.cell? (a.add j)=some u:=by
 intro n cs h;unfold World.cells? at h;split at h
 case isFalse=>cases h
 have h1:=mapM_some_length h;rw[xD]at h1;refine⟨h1,λ j u hj=>?_⟩;have hlt:=getElem?_lt hj;have:=mapM_some_get h j j (by rw[List.getElem?_range (by omega)]);rw[this];exact hj
section
variable {H:Type}{enc:TypeId×Value->H}{P:Program}{W:World}
def qI1(enc:TypeId×Value->H)(P:Program)(W:World)(a:Nat):Prop:=∀(n:Nat) (τ:Ty) (t:TypeId) (cs:List Value) (x:DataW H×List MemPlace),tyM P n τ t=true->DataW.trod enc P W 0 (λ _=>true) true a t cs=some x->(∀k∈x.1.weights P t,k<=reachBytes)->
 ∃v:Val τ,RepL (ghW W) (qe τ v) cs/\(∀u∈cs,u.oneCell'=true)/\qj2 τ v
theorem qoL{e:TypeId}:∀{ds:List (DataW H)}{d:DataW H},d∈ds->∀n∈d.weights P e,n∈DataW.weightsAll P e ds
 |b::ds,d,h,n,a=>by
   simp only[DataW.weightsAll,wj];obtain rfl|h:=wv.1 h
   .exact Or.inl a
   .exact Or.inr (qoL h n a)
theorem qEN{n k:Nat}(h:n*k<=reachBytes)(a:0<k):n<2^62:=by
 have:n*1<=n*k:=vU _ a;have b:reachBytes=140737488351232:=rfl;omega
theorem qL7{α d:Type}{n:Nat}{Q:Nat->α->d->Prop}(e:0<n)(h:∀i,i<n->∃a b,Q i a b):∃(f:Nat->α) (g:Nat->d),∀i,i<n->Q i (f i) (g i):=by
 let⟨k,j,_⟩:=h 0 e;refine⟨λ i=>if c:i<n then(h i c).choose else k,λ i=>if c:i<n then(h i c).choose_spec.choose else j,λ i c=>?_⟩;grind
theorem qFM{Γ:Gh}{x:AV}{u:Value}(h:Rep Γ x u):RepL Γ [x] [u]:=waK h RepL.nil
theorem qAQ{q:Nat}(Y:∀f,f<q->qI1 enc P W f){a:Ty}{t e:TypeId}{m:Nat}{cs:List Value}{x:DataW H×List MemPlace}(M:P.underlying t=some (.slice e))(V:P.cellsOf e=a.size)(X:0<P.bytesOf e)(S:tyM P m a e=true)
  (h:DataW.trod enc P W 0 (λ _=>true) true q t cs=some x) (R:∀k∈x.1.weights P t,k<=reachBytes):
  ∃(l:List (Val a)) (u:Value),cs=[u]/\u.oneCell'=true/\Rep (ghW W) (.sl a.size (l.map (qe a)) 1) u/\(l.length<2^62/\l.length*P.bytesOf e<=2^47)/\∀v∈l,qj2 a v:=by
 obtain⟨rfl,rfl⟩|⟨ad,d,cap,elems,s,n,rfl,rfl,rfl,_,N,_,z,E,_,_⟩:=DataW.trod_slice M h
 .refine⟨[],_,rfl,rfl,?_,⟨by simp,by simp⟩,(by intro v D;cases D)⟩;exact .sl _ _ _ none 0 0 0 0 (λ _ _=>undef) rfl (λ _=>wa _) (λ h=>by omega) (by intro e he;cases he) (by intro e he;cases he) (waI a) (.inl rfl) (by intro i e j x c;cases c) (by intro i e j x c;cases c)
 .have w:(elems.length+s.length)*P.bytesOf e<=reachBytes/\∀k∈DataW.weightsAll P e (elems.map (·.1)),k<=reachBytes:=by
    simp only[DataW.weights,M,wE,wv,wj]at R;simp_all
  have r:∀i,i<d->∃(v:Val a) (us:List Value),RepL (ghW W) (qe a v) us/\(∀u∈us,u.oneCell'=true)/\qj2 a v/\(∀j u,us[j]?=some u->W.cell? ((ad.add (i*a.size)).add j)=some u):=by
   intro i c;have g:=E i c;rw[List.getElem?_eq_getElem (by omega),V,Option.bind_eq_some_iff]at g;let⟨us,G,Z⟩:=g;let⟨Q,L⟩:=cells_len G;let⟨v,I,g2,g3⟩:=Y n (xu _) m a e us _ S Z λ k U=>w.2 k (qoL (kH (wW _)) k U);exact⟨v,us,I,g2,g3,L⟩
  by_cases h0:d=0
  .subst h0;refine⟨[],_,rfl,rfl,?_,⟨by simp,by simp⟩,(by intro v D;cases D)⟩;exact .sl _ _ _ _ 0 cap 0 0 (λ _ _=>undef) rfl (λ _=>N) (λ h=>by omega) (by intro e he;cases he) (by intro e he;cases he) (waI a) (.inl rfl) (by intro i e j x c;cases c) (by intro i e j x c;cases c)
  obtain⟨b,o,rfl⟩:∃b o,ad=⟨b,o,none⟩:=by
   let⟨v,us,I,_,_,g4⟩:=r 0 (by omega);have T:us.length=a.size:=by rw[I.len];exact yj a v
   have hp:=waI a;have g:=g4 0 _ (List.getElem?_eq_getElem (by omega));rw[kR]at g;have e1:(ad.add 0).add 0=ad:=rfl;rw[e1]at g;let⟨b,o,sp⟩:=ad;unfold World.cell? at g;split at g
   .simp_all
   .cases g
  let⟨C,K,p⟩:=qL7 (by omega:0<d) r;have O:=λ i c=>(p i c).1;have w2:=λ i c=>(p i c).2.1;have w3:=λ i c=>(p i c).2.2.1;have w4:=λ i c=>(p i c).2.2.2;have B:∀i,i<d->((List.range d).map C)[i]?=some (C i):=λ i c=>by rw[List.getElem?_map,List.getElem?_range c];rfl
  have F:∀(i:Nat) (J:List AV) (j:Nat) (y:AV),(((List.range d).map C).map (qe a))[i]?=some J->J[j]?=some y->i<d/\∃u,(K i)[j]?=some u/\Rep (ghW W) y u/\(ghW W).mem b (o+i*a.size+j)=some u:=by
   intro i J j y g G;have c:i<d:=by have:=getElem?_lt g;simpa using this
   rw[List.getElem?_map,B i c]at g;cases g;let⟨u,Q,L⟩:=(O i c).get G;grind [qHD,List.mem_of_getElem?,qKN]
  refine⟨(List.range d).map C,_,rfl,rfl,?_,?_,?_⟩
  .refine .sl _ _ _ _ d cap b o (λ i j=>(K i).getD j undef) (by simp) (λ _=>N) (λ h=>by omega) ?_ ?_ (waI a) (.inr rfl) ?_ ?_
   .grind [yj]
   .grind [zq]
   .grind
   .grind
  .rw[wE,xD,<-z];have A:elems.length*P.bytesOf e<=reachBytes:=wz (wu _ (kI _ _)) w.1;exact⟨qEN A X,wz A (by decide)⟩
  .grind
theorem qwH{c:Nat}(F:qI1 enc P W c):∀(n:Nat) (τ:Ty) (off:Nat) (d:List Field) (cs:List Value) (xs:List (DataW H×List MemPlace)),fsM P n τ off d=true->xs.length=d.length->
  (∀(i:Nat) (f:Field),d[i]?=some f->DataW.trod enc P W 0 (λ _=>true) true c f.type ((cs.drop f.offset).take (P.cellsOf f.type))=xs[i]?)->(∀k∈DataW.weightsEach P (d.map (·.type)) (xs.map (·.1)),k<=reachBytes)->off+τ.size<=cs.length->
  ∃v:Val τ,RepL (ghW W) (qe τ v) ((cs.drop off).take τ.size)/\(∀u∈(cs.drop off).take τ.size,u.oneCell'=true)/\qj2 τ v:=by
 intro n
 induction n with
 |zero=>intro τ off d cs xs h;simp[fsM]at h
 |succ n L=>
   intro τ off d cs xs h z y m j
   have s:∀f x,d=[f]->xs=[x]->(decide (f.offset=off)&&decide (P.cellsOf f.type=τ.size)&&tyM P n τ f.type)=true->∃v:Val τ,RepL (ghW W) (qe τ v) ((cs.drop off).take τ.size)/\(∀u∈(cs.drop off).take τ.size,u.oneCell'=true)/\qj2 τ v:=by
    intro f x N t h;simp only[wc,decide_eq_true_eq]at h;let⟨⟨D,C⟩,B⟩:=h;subst N;subst t;have o:=y 0 f rfl;rw[D,C]at o;exact F n τ f.type _ x B o λ k l=>m k (by simp only[wk,wad,DataW.weightsEach,wy];exact l)
   cases d with
   |nil=>cases τ<;>simp[fsM]at h
   |cons f r=>
     cases xs with
     |nil=>simp at z
     |cons x xs=>
       cases r with
       |nil=>
         have w:xs=[]:=wi (by simpa using z);subst w;refine s f x rfl rfl ?_;cases τ<;>exact h
       |cons g r=>
         cases τ with
         |pair a b=>
           simp only[fsM,wc,decide_eq_true_eq]at h;let⟨⟨⟨D,C⟩,B⟩,o⟩:=h;have G:=y 0 f rfl;rw[D,C]at G;have M:off+(a.size+b.size)<=cs.length:=j;simp only[wk,DataW.weightsEach,wj]at m;let⟨v,K,Q,I⟩:=F n a f.type _ x B G λ k l=>m k (.inl l);let⟨E,q,J,p⟩:=L b (off+a.size) (g::r) cs xs o (by simpa using z) (λ i O A=>y (i+1) O A) (λ k l=>m k (.inr l)) (by omega)
           have e:(cs.drop off).take (a.size+b.size)=(cs.drop off).take a.size++(cs.drop (off+a.size)).take b.size:=by
            rw[List.take_add,List.drop_drop]
           refine⟨(v,E),?_,?_,I,p⟩
           .show RepL _ (qe a v++qe b E) ((cs.drop off).take (a.size+b.size));rw[e];exact K.append q
           .show ∀u∈(cs.drop off).take (a.size+b.size),_;grind
         |_=>simp[fsM]at h
theorem qP5{Γ:Gh}(k:IntKind)(n:Int):RepL Γ (qe (.int k) n) [.int k n]:=qFM (.v _ rfl)
theorem qMN:∀ fuel,qI1 enc P W fuel:=by
 intro fuel
 induction fuel using Nat.strongRecOn with
 | ind fuel ihA =>
   have ints:∀{k:IntKind} {t:TypeId} {cs:List Value} {x:DataW H × List MemPlace} {f:Nat},P.underlying t=some (.int k)->DataW.trod enc P W 0 (λ _=>true) true f t cs=some x->∃ n:Int,cs=[.int k n]/\k.min<=n/\n<=k.max:=by
    intro k t cs x f ht h;obtain⟨n,rfl,_,hwf⟩:=DataW.trod_int ht h;simp only[Lit.wf,wc,decide_eq_true_eq]at hwf;exact⟨n,rfl,hwf⟩
   have strs:∀{t:TypeId} {cs:List Value} {x:DataW H × List MemPlace} {f:Nat},P.underlying t=some .string->DataW.trod enc P W 0 (λ _=>true) true f t cs=some x->(∀ k∈x.1.weights P t,k<=reachBytes)->∃ s:ByteArray,cs=[.string s]/\s.data.toList.length<2 ^ 62:=by
    intro t cs x f ht h hw;obtain⟨s,rfl,rfl,_⟩:=DataW.trod_string ht h;refine⟨s,rfl,?_⟩;have:=hw s.data.toList.length (by simp[DataW.weights]);exact qEN (k:=1) (by omega) (by decide)
   intro n τ t cs x hm h hw;cases n with
   | zero=>cases τ <;> simp[tyM]at hm
   | succ n =>
   cases τ with
   | int k =>
     simp only[tyM]at hm;split at hm
     ·rename_i k' ht;simp only[wc,decide_eq_true_eq]at hm;obtain⟨rfl,_⟩:=hm;obtain⟨i,rfl,h1,h2⟩:=ints ht h;exact⟨i,qP5 _ _,by intro u hu;rw[wD.1 hu];rfl,h1,h2⟩
     ·cases hm
   | bool =>
     simp only[tyM]at hm;split at hm
     ·rename_i ht;obtain⟨b,rfl,_⟩:=DataW.trod_bool ht h;exact⟨b,qFM (.v _ rfl),by intro u hu;rw[wD.1 hu];rfl,trivial⟩
     ·cases hm
   | str =>
     simp only[tyM]at hm;split at hm
     ·rename_i ht;obtain⟨s,rfl,h1⟩:=strs ht h hw;refine⟨s.data.toList,?_,by intro u hu;rw[wD.1 hu];rfl,h1⟩;exact qFM (.v _ rfl)
     ·cases hm
   | list a =>
     simp only[tyM]at hm;split at hm
     ·rename_i e ht;simp only[wc,decide_eq_true_eq]at hm;obtain⟨⟨⟨_,hc⟩,hb⟩,hm⟩:=hm;obtain⟨l,u,rfl,h1,h2,h3,h4⟩:=qAQ (λ f hf=>ihA f hf) ht hc (wA (Ty.wt_pos a) hb) hm h hw;exact⟨l,qFM h2,by intro u' hu;rw[wD.1 hu];exact h1,⟨h3.1,wz (vU _ hb) h3.2⟩,h4⟩
     ·cases hm
   | pair a b =>
     simp only[tyM]at hm;split at hm
     ·rename_i fs ht;simp only[wc,decide_eq_true_eq]at hm;obtain⟨hc,hm⟩:=hm;obtain⟨xs,f,rfl,rfl,h1,h2,h3⟩:=DataW.trod_struct ht h;have hsz:(Ty.pair a b).size=a.size+b.size:=rfl;obtain⟨v,v1,v2,v3⟩:=qwH (ihA f (xu _)) n (.pair a b) 0 fs.toList cs xs hm (by simpa using h2) (λ i g hg=>h3 i g (by simpa using hg)) (by simpa[DataW.weights,ht]using hw) (by rw[h1,hc,hsz];omega);rw[wH,kV (by rw[h1,hc,hsz];exact wa _)]at v1 v2;exact⟨v,v1,v2,v3⟩
     ·cases hm
   | one a =>
     simp only[tyM]at hm;split at hm
     ·rename_i fs ht;simp only[wc,decide_eq_true_eq]at hm;obtain⟨hc,hm⟩:=hm;obtain⟨xs,f,rfl,rfl,h1,h2,h3⟩:=DataW.trod_struct ht h;obtain⟨v,v1,v2,v3⟩:=qwH (ihA f (xu _)) n a 0 fs.toList cs xs hm (by simpa using h2) (λ i g hg=>h3 i g (by simpa using hg)) (by simpa[DataW.weights,ht]using hw) (by rw[h1,hc];omega);rw[wH,kV (by rw[h1,hc];exact wa _)]at v1 v2;exact⟨v,v1,v2,v3⟩
     ·cases hm
   | map a b=>simp[tyM]at hm
   | term =>
     have hm0:=hm;simp only[tyM]at hm;cases n with
     | zero=>simp[qJA]at hm
     | succ n =>
     simp only[qJA]at hm;split at hm
     case h_2=>cases hm
     rename_i fs ht;split at hm
     case h_2=>cases hm
     rename_i f0 f1 f2 f3 hfs;simp only[wc,decide_eq_true_eq]at hm;obtain⟨⟨⟨⟨⟨⟨⟨⟨⟨hc,o0⟩,o1⟩,o2⟩,o3⟩,hc3⟩,m0⟩,m1⟩,m2⟩,m3⟩:=hm;split at m3
     case h_2=>cases m3
     rename_i e ht3;simp only[wc,decide_eq_true_eq]at m3;obtain⟨rfl,hb⟩:=m3;obtain⟨xs,f,rfl,rfl,h1,h2,h3⟩:=DataW.trod_struct ht h;have hsz:fs.size=4:=by rw[<- wR,hfs];rfl
     rw[hsz]at h2;rw[hc]at h1
     obtain⟨c0,c1,c2,c3,rfl⟩:∃ c0 c1 c2 c3,cs=[c0,c1,c2,c3]:=by
      match cs,h1 with
      | [a,b,c,d],_=>exact⟨a,b,c,d,rfl⟩
     obtain⟨x0,x1,x2,x3,rfl⟩:∃ x0 x1 x2 x3,xs=[x0,x1,x2,x3]:=by
      match xs,h2 with
      | [a,b,c,d],_=>exact⟨a,b,c,d,rfl⟩
     have fg:∀ i g,[f0,f1,f2,f3][i]?=some g->fs[i]?=some g := λ i g hg=>by rw[<- hfs,Array.getElem?_toList]at hg;exact hg
     have s0:=h3 0 f0 (fg 0 _ rfl);have s1:=h3 1 f1 (fg 1 _ rfl);have s2:=h3 2 f2 (fg 2 _ rfl);have s3:=h3 3 f3 (fg 3 _ rfl)
     have cOf:∀{τ : Ty} {t:TypeId},(∃ k,τ = .int k) \/ τ = .str->tyM P n τ t=true->P.cellsOf t=1:=by
      intro τ t hτ hm;cases n with
      | zero=>cases τ <;> simp[tyM]at hm
      | succ n =>
        rcases hτ with⟨k,rfl⟩ | rfl
        ·simp only[tyM]at hm;split at hm
         ·simp only[wc,decide_eq_true_eq]at hm;exact hm.2
         ·cases hm
        ·simp only[tyM]at hm;split at hm
         ·exact of_decide_eq_true hm
         ·cases hm
     have uInt:∀{k:IntKind} {t:TypeId},tyM P n (.int k) t=true->P.underlying t=some (.int k):=by
      intro k t hm;cases n with
      | zero=>simp[tyM]at hm
      | succ n =>
        simp only[tyM]at hm;split at hm
        ·rename_i k' ht;simp only[wc,decide_eq_true_eq]at hm;rw[ht,hm.1]
        ·cases hm
     have uStr:∀{t:TypeId},tyM P n .str t=true->P.underlying t=some .string:=by
      intro t hm;cases n with
      | zero=>simp[tyM]at hm
      | succ n =>
        simp only[tyM]at hm;split at hm
        ·assumption
        ·cases hm
     rw[o0,cOf (.inl ⟨_,rfl⟩) m0]at s0;rw[o1,cOf (.inr rfl) m1]at s1;rw[o2,cOf (.inl ⟨_,rfl⟩) m2]at s2;rw[o3,hc3]at s3
     have hwE:∀ k∈DataW.weightsEach P [f0.type,f1.type,f2.type,f3.type] [x0.1,x1.1,x2.1,x3.1],k<=reachBytes:=by
      intro k hk;refine hw k ?_;simp only[DataW.weights,ht,hfs];exact hk
     simp only[DataW.weightsEach,wj]at hwE;obtain⟨i0,e0,_,_⟩:=ints (uInt m0) (f:=f) (x:=x0) s0;obtain⟨i1,e1,b1⟩:=strs (uStr m1) (f:=f) (x:=x1) s1 λ k hk=>hwE k (.inr (.inl hk));obtain⟨i2,e2,_,_⟩:=ints (uInt m2) (f:=f) (x:=x2) s2;obtain⟨l,u,e3,b3,r3,l3,v3⟩:=qAQ (a := .term) (λ g hg=>ihA g (Nat.lt_succ_of_lt hg)) ht3 hc hb hm0 s3 λ k hk=>hwE k (.inr (.inr (.inr (.inl hk))));have g0:c0 = .int .i64 i0:=by simpa using e0
     have g1:c1 = .string i1:=by simpa using e1
     have g2:c2 = .int .i64 i2:=by simpa using e2
     have g3:c3=u:=by simpa using e3
     subst g0;subst g1;subst g2;subst g3;refine⟨.mk i0 i1.data.toList i2 l,?_,?_,(qIA _).2 ⟨l3.1,b1,v3⟩⟩
     ·show RepL _ (JQ _) _;rw[JQ,qlw];exact waK (.v _ rfl) (waK (.v _ rfl) (waK (.v _ rfl) (qFM r3)))
     ·intro u hu;simp only[wv,xP,or_false]at hu;rcases hu with rfl | rfl | rfl | rfl
      ·rfl
      ·rfl
      ·rfl
      ·exact b3
end
end Go.AmZ
