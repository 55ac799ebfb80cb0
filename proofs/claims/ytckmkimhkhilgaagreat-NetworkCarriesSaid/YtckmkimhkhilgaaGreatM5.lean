/- Part 5 of what the proofs stand on: plain functions of the program, and that they are its functions. -/
import Derived.Test.YtckmkimhkhilgaaGreatM4
import Derived.KernelRfl
import Derived.Test.YtckmkimhkhilgaaGreatM3
import Derived.SliceStrings
import Derived.SizedLaws
set_option linter.unusedVariables false
set_option linter.unusedSimpArgs false
noncomputable section
namespace Go.AmZ
open Go Go.GxZ
theorem qJE(b:List (List T))(d:b.length<1000)(h:(b.map List.length).sum<=100000000):Ev (λ m _=>zP m b) b.flatten:=by
 have g:∀ l:List (List T),l.flatten.length=(l.map List.length).sum := λ l=>List.length_flatten
 have s:=qp (P := λ i=>Ev (λ m k=>(qn m k).2 b b.length i (b.take i).flatten) b.flatten) b (by omega)
  (λ c=>by
   refine waC ?_;simp only[qaI,jf];refine wax c ?_;rw[wC];exact wav _)
  (λ i x o r c f e j=>by
   refine waC ?_;simp only[qaI,jf];have p:b.take (i+1)=b.take i++[x]:=by rw[kw,o];rfl
   have q:((b.take (i+1)).map List.length).sum<=(b.map List.length).sum:=by
    have:=congrArg (λ l=>(l.map List.length).sum) (kz (i+1) b);simp only[wS,List.sum_append]at this;omega
   rw[p]at q;simp only[wS,List.sum_append,wo,vw,kD,List.sum_nil]at q;refine waw c (way f (waw (qE ?_ (by omega)) ?_))
   ·rw[g];omega
   ·rw[e];refine j.congr λ m k=>?_;rw[p,xo];simp)
 have t:=qp (P := λ i=>∀ n:Nat,n+((b.drop i).map List.length).sum<=100000000->Ev (λ m k=>(qn m k).1 b n b b.length i) b.flatten) b (by omega)
  (λ c n d=>by
   refine waC ?_;simp only[qaK,jd];refine wax c (way (a:=((),[],())) ?_ (s 0 (we _)));unfold yX;rw[show inb (n:Int) 100000000=true from by unfold inb;rw[decide_eq_true_iff];omega];rfl)
  (λ i x o r c f e j n d=>by
   refine waC ?_;simp only[qaK,jd];rw[r,wo,kD]at d;refine waw c (way f ?_);rw[qiG,jS (by omega)];refine wax (qm.2 (by omega)) ?_;rw[e];exact j (n+x.length) (by omega))
 refine waB ?_;simp only[qge,je];refine waD (L := λ m k=>(qn m k).1 b 0 b b.length 0) ?_;exact t 0 (we _) 0 (by rw[wO];omega)
theorem qwE(a b:List T)(h:a.length+b.length<=100000000):Ev (λ m _=>zP m [a,b]) (a++b) :=
 (qJE [a,b] (by simp) (by simpa using h)).res (by simp)
theorem qrn{f:T->Int}{l:List T}{i:Nat}{x:T}(h:l.drop i=x::l.drop (i+1)):((l.drop i).map f).foldl thn 0=if f x≠0 then f x else((l.drop (i+1)).map f).foldl thn 0:=by
 rw[h,wo];by_cases a:f x=0
 ·rw[if_neg (by simpa using a),a];rfl
 ·rw[if_pos a];exact qT _ a
theorem qLW(l:List T)(n:szL l<=100000000):Ev (λ m _=>qm8 m l []) (qoH l):=by
 have o:=jT l;refine waB ?_;simp only[qEA,qhV];unfold qoH;refine waz (λ h=>?_) λ h=>?_
 ·rw[qr]at h;rw[if_pos (by omega)];exact wav _
 ·rw[qm]at h;rw[if_neg (by omega)];refine wau (qwE l [] (by simp only[w7];omega)) ?_;rw[wA]
  have b:=qp (P := λ i=>Ev (λ m k=>qcl m k l l.length i) (((l.drop i).map qL).foldl thn 0)) l (by omega)
   (λ c=>by
    refine waC ?_;simp only[qrS,qhw];refine wax c ?_;rw[wU];exact wav _)
   (λ i x d g c f e j=>by
    refine waC ?_;simp only[qrS,qhw,qk];have p:=qcY (wa d);rw[qrn g];refine waw c (way f (wau (qdi x (by omega)) (waz (λ a=>?_) λ a=>?_)))
    ·rw[bnt,qg]at a;rw[if_pos a];exact wav _
    ·rw[bnf,qj]at a;rw[if_neg (by omega),e];exact j)
  refine waD (L := λ m k=>qcl m k l l.length 0) ?_;exact(b 0 (we _)).res (by rw[wO])
theorem qHs(t:T)(a:size t<=1000000000):Ev (λ m _=>qhD m t [] t) (t,0):=by
 refine waB ?_;simp only[qyF,qeu,qk];refine wau (quJ t a) ?_;refine waD (L := λ m k=>qa7 m k [] ([]:List Int).length 0 t.kind t.name t.sort t.kids 0 [] 0 t.kind t.name t.sort t.kids []) (waC ?_);simp only[qwi,qhn,qk];refine wax rfl ?_;rw[show T.mk t.kind t.name t.sort t.kids=t from qk t];exact wau (quJ t a) (wav _)
def qeQ(l:List T)(i:Nat):List T:=l.take i++List.replicate (l.length-i) zT
theorem qL7{l:List T}{i:Nat}(h:i<l.length):(qeQ l i)[i]?=some zT:=by
 unfold qeQ;rw[List.getElem?_append_right (by rw[wm];omega),wm,List.getElem?_replicate,if_pos (by omega)]
theorem quL{l:List T}{i:Nat}{x:T}(h:l[i]?=some x):(qeQ l i).set i x=qeQ l (i+1):=by
 have hi:=(List.getElem?_eq_some_iff.1 h).1;unfold qeQ;have h1:l.take (i+1)=l.take i++[x]:=by rw[kw,h];rfl
 have h2:List.replicate (l.length-i) zT=zT::List.replicate (l.length-(i+1)) zT:=by
  rw[show l.length-i=(l.length-(i+1))+1 by omega,List.replicate_succ]
 rw[h1,h2,vH _ _ (by rw[wm];omega),wm,show i-min i l.length=0 by omega,List.set_cons_zero,wi];rfl
theorem qJD{l:List T}{i:Nat}{x:T}(h:l[i]?=some x):(qeQ l (i+1)).set i x=qeQ l (i+1):=by
 rw[<- quL h,List.set_set]
theorem qJl{l:List T}{i:Nat}{x:T}(h:l[i]?=some x):(qeQ l (i+1))[i]?=some x:=by
 have a:=(List.getElem?_eq_some_iff.1 h).1;rw[<- quL h,List.getElem?_set_self (by unfold qeQ;rw[wc,wm,kH];omega)]
theorem QK{α : Type}(l:List α)(i:Nat)(v : α):yq l (i:Int) v=l.set i v:=by
 unfold yq;rw[if_pos (by omega),wF]
theorem qNz:∀(n:Nat) (l:List T),szL l<=n->n<=1000000->Ev (λ m _=>qaq m l) l:=by
 intro n
 induction n using Nat.strongRecOn with
 | _ n p =>
 intro l s t;have u:=jT l;refine waB ?_;simp only[qJe,qkM]
 have d:=qp (P := λ i=>Ev (λ m k=>qe7 m (qaq m) k l l.length i (qeQ l i)) l) l (by omega)
  (λ h=>by
   refine waC ?_;simp only[qwl,qkI];refine wax h ?_;exact waA (by unfold qeQ;rw[wC,kJ];simp))
  (λ i x b v h r q j=>by
   refine waC ?_;simp only[qwl,qkI,qk];have y:=qcY (wa b);have w:=qM x;have f:=(List.getElem?_eq_some_iff.1 b).1;have e:yq (qeQ l i) i x=qeQ l (i+1):=by rw[QK,quL b]
   have o:yq (qeQ l (i+1)) i x=qeQ l (i+1):=by rw[QK,qJD b]
   have g:qb (qeQ l (i+1)) i=some x:=by rw[zb,qJl b]
   refine waw h (way r (wau (qHs x (by omega)) (way (a:=zT) (by rw[zb,qL7 f]) (wau (p (szL x.kids) (by unfold szL at *;omega) x.kids (wb _) (by unfold szL at *;omega)) ?_))));rw[e];refine way g ?_;rw[show T.mk x.kind x.name x.sort x.kids=x from qk x,o,q];refine waz (λ c=>?_) λ c=>j;rw[qj]at c;have c:x.kids=[]:=wj (by omega);refine way g ?_;rw[show T.mk x.kind x.name x.sort []=x from by rw[<- c];exact qk x,o];exact j)
 refine waw (by unfold qG9;rw[decide_eq_true_iff,wF];omega) ?_;refine waD (L := λ m k=>qe7 m (qaq m) k l l.length 0 (List.replicate (Int.toNat (l.length:Int)) (T.mk 0 [] 0 []))) ?_;refine(d 0 (we _)).congr λ m k=>?_;unfold qeQ;rw[xE,wF];rfl
theorem qNQ(l:List T)(z:szL l<=900000):Ev (λ m _=>qsI m l) (qqd l):=by
 have A:=jT l;refine waB ?_;simp only[qH4,qkZ];unfold qqd;refine wau (qLW l (by omega)) (waz (λ h=>?_) λ h=>?_)
 ·rw[bnt,qg]at h;rw[if_pos h];exact wav _
 ·rw[bnf,qj]at h;rw[if_neg (by omega)]
  have e:=qp (P := λ i=>Ev (λ m k=>qeL m k (((l.take i).map Qd).foldl zl []) l l.length i 0 [] 0 []) (if qL (qaB (zW l))≠0 then(zT,3)else(qaB (zW l),0))) l (by omega)
   (λ j=>by
    refine waC ?_;simp only[qwn,qkK,qk];refine wax j ?_;rw[wC];have b:=qfa l;show Ev (λ m k=>qa (qaq m (zW l)) _) _;have o:=jT (zW l)
    have c:∀ u:T,u=qaB (zW l)->Ev (λ m _=>qa (yI m u) λ v=>cond (qd (ieq v 0)) (some (T.mk 0 [] 0 [],(3:Int))) (some (u,0))) (if qL (qaB (zW l))≠0 then(zT,3)else(qaB (zW l),0)):=by
     intro u p
     have y:size (qaB (zW l))<=1+szL (zW l):=by
      unfold qaB;split
      ·rw[qM];show 1+0<=_;omega
      ·split
       ·rename_i _ d
        have:(zW l).getD 0 zT∈zW l:=by
         cases g:zW l with
         | nil=>rw[g]at d;cases d
         | cons x r=>exact wh ..
        have:=qcY this;omega
       ·rw[qM];exact wb _
     subst p;refine wau (qdi _ (by omega)) (waz (λ h=>?_) λ h=>?_)
     ·rw[bnt,qg]at h;rw[if_pos h];exact wav _
     ·rw[bnf,qj]at h;rw[if_neg (by omega)];exact wav _
    refine wau (qNz _ (zW l) (wb _) (by omega)) (waz (λ n=>?_) λ n=>?_)
    ·rw[qj]at n;exact c _ (by unfold qaB;rw[if_pos (by omega)];rfl)
    ·rw[qg]at n;refine waz (λ b=>?_) λ b=>?_
     ·rw[qj]at b;refine way (a:=(zW l).getD 0 zT) ?_ (c _ (by unfold qaB;rw[if_neg (by omega),if_pos (by omega)]));rw[qag,List.getD_eq_getElem?_getD];cases g:zW l with
      | nil=>rw[g]at b;simp at b
      | cons x r=>rfl
     ·rw[qg]at b;exact c _ (by unfold qaB;rw[if_neg (by omega),if_neg (by omega)];rfl))
   (λ i x f B j t s w=>by
    refine waC ?_;simp only[qwn,qkK,qk];have q:=wa f;have b:=qcY q;have o:=qfa (l.take i);have D:=Qz f;have C:=qlw x;refine waw j (way t (wau (qLS x (by omega)) (wau (qCH _ _ ?_) ?_)))
    ·unfold zW at o;omega
    ·rw[s];refine w.congr λ m k=>?_;rw[qkA f])
  refine waD (L := λ m k=>qeL m k [] l l.length 0 0 [] 0 []) ?_;exact e 0 (we _)
end Go.AmZ
namespace Go.AmZ
open Go Go.GxZ
theorem qPe(l:List T)(t:T)(j:szL l+size t<=1000000000):Ev (λ m _=>qnM m l t) (l.any λ x=>jq x t):=by
 have n:=jT l;refine waB ?_;simp only[qEC,qhu]
 have a:=qp (P := λ i=>Ev (λ m k=>qcs m k l i t.kind t.name t.sort t.kids) ((l.drop i).any λ x=>jq x t)) l (by omega)
  (λ b=>by
   refine waC ?_;simp only[qsm,qht];refine wax b (waA ?_);rw[wU];rfl)
  (λ i x c f b e d g=>by
   refine waC ?_;simp only[qsm,qht,qk];have o:=qcY (wa c);rw[f,vX,show T.mk t.kind t.name t.sort t.kids=t from qk t];refine waw b (way e (wau (qe8 x t (by omega) (by omega)) (waz (λ h=>?_) λ h=>?_)))
   ·rw[h];exact wav _
   ·rw[h,d];exact g)
 refine waD (L := λ m k=>qcs m k l 0 t.kind t.name t.sort t.kids) ?_;exact(a 0 (we _)).res (by rw[wO])
theorem qBI(t:T):∀(l:List T) (s:List T × Bool),(l.foldl (JS t) s).1.length<=s.1.length+2*l.length
 | [],s=>by simp
 | x::l,s=>by
   have h:=qBI t l (JS t s x)
   have:(JS t s x).1.length<=s.1.length+2:=by
    unfold JS;split
    ·simp only[wc,wv,w7];split<;>simp
    ·simp
   rw[kg,wv];omega
theorem qIe(l:List T)(t:T)(r:szL l+size t<=1000000000):Ev (λ m _=>qjP m l t) (qyg l t):=by
 have u:=jT l;refine waB ?_;simp only[qEy,qhs]
 have d:∀ i,((l.take i).foldl (JS t) ([],false)).1.length<=2*l.length := λ i=>by
  have:=qBI t (l.take i) ([],false);have q:(l.take i).length<=l.length:=by rw[wm];omega
  simp only[w7]at this;omega
 have g:=qp (P := λ i=>Ev (λ m k=>qct m k l ((l.take i).foldl (JS t) ([],false)).2 i t.kind t.name t.sort t.kids ((l.take i).foldl (JS t) ([],false)).1) (qyg l t)) l (by omega)
  (λ j=>by
   refine waC ?_;simp only[qrQ,qid];refine wax j ?_;rw[wC];unfold qyg;have:=d l.length;rw[wC]at this;refine waz (λ h=>?_) λ h=>?_
   ·rw[bnt]at h;rw[if_neg (by rw[h];decide),show T.mk t.kind t.name t.sort t.kids=t from qk t];exact waw (qE (by omega) (by omega)) (wav _)
   ·rw[bnf]at h;rw[if_pos h];exact wav _)
  (λ i x n v j f o a=>by
   refine waC ?_;simp only[qrQ,qid,qk];have w:=qcY (wa n);have q:=d i
   have e:(l.take (i+1)).foldl (JS t) ([],false)=JS t ((l.take i).foldl (JS t) ([],false)) x:=by
    rw[kw,n,xe];rfl
   rw[e]at a;generalize (l.take i).foldl (JS t) ([],false)=s at *;rw[show T.mk t.kind t.name t.sort t.kids=t from qk t,o];refine waw j (way f (wau (qjo t (by omega) x (by omega)) (waz (λ h=>?_) λ h=>?_)))
   ·rw[bnt]at h;refine waz (λ c=>?_) λ c=>?_
    ·rw[yT]at c;unfold JS at a;rw[if_pos ⟨h,c⟩]at a;refine waz (λ b=>?_) λ b=>?_
     ·rw[qr]at b;rw[if_pos b]at a;exact waw (qE (by omega) (by omega)) (way f (waw (qE (by rw[wc];simp only[wv,w7];omega) (by omega)) a))
     ·rw[qm]at b;rw[if_neg (by omega),wA]at a;exact way f (waw (qE (by omega) (by omega)) a)
    ·rw[yo]at c;unfold JS at a;rw[if_neg (by omega)]at a;exact way f (waw (qE (by omega) (by omega)) a)
   ·rw[bnf]at h;unfold JS at a;rw[if_neg (by rw[h];intro p;cases p.1)]at a;exact way f (waw (qE (by omega) (by omega)) a))
 refine waD (L := λ m k=>qct m k l false 0 t.kind t.name t.sort t.kids []) ?_;exact g 0 (we _)
theorem qO5(l:List T)(t:T)(f:szL l+size t<=1000000000):Ev (λ m _=>qhI m l t) (qiZ l t):=by
 have n:=jT l;refine waB ?_;simp only[qyc,qei,qk];unfold qiZ;refine wau (qPe l t f) (waz (λ h=>?_) λ h=>?_)
 ·rw[bnt]at h;rw[if_neg (by rw[h];decide)];exact wau (qIe l t f) (wav _)
 ·rw[bnf]at h;rw[if_pos h]
  have b:=qp (P := λ i=>Ev (λ m k=>J0 m k l i t.kind t.name t.sort t.kids ((l.take i).filter λ x => !jq x t)) (l.filter λ x => !jq x t)) l (by omega)
   (λ c=>by
    refine waC ?_;simp only[qmS,qep];refine wax c ?_;rw[wC];exact wav _)
   (λ i x d o c g j a=>by
    refine waC ?_;simp only[qmS,qep,qk];have q:=qcY (wa d);have p:((l.take i).filter λ x => !jq x t).length<=l.length:=wD (xG _ _) (by rw[wm];omega);rw[kw,d,xU]at a;rw[show T.mk t.kind t.name t.sort t.kids=t from qk t,j];refine waw c (way g (wau (qe8 x t (by omega) (by omega)) (waz (λ h=>?_) λ h=>?_)))
    ·rw[bnt]at h;have e:(Option.some x).toList.filter (λ x => !jq x t)=[x]:=by show[x].filter _=_;simp[h]
     rw[e]at a;exact way g (waw (qE (by omega) (by omega)) a)
    ·rw[bnf]at h;have e:(Option.some x).toList.filter (λ x => !jq x t)=[]:=by show[x].filter _=_;simp[h]
     rw[e,wA]at a;exact a)
  refine waD (L := λ m k=>J0 m k l 0 t.kind t.name t.sort t.kids []) ?_;exact b 0 (we _)
theorem qyC(t:T):∀ l:List T,szL (Jn l t)<=szL l+size t
 | []=>by rw[Jn,qS];omega
 | x::l=>by
   have:=qyC t l;rw[Jn];split
   ·rw[qS,qS];omega
   ·split
    ·omega
    ·rw[qS,qS];omega
theorem qzx(p:T->Bool):∀ l:List T,szL (l.filter p)<=szL l
 | []=>wb _
 | x::l=>by
   have:=qzx p l;rw[List.filter_cons];split
   ·rw[qS,qS];omega
   ·rw[qS];omega
theorem qNI(l:List T)(t:T):szL (qiZ l t)<=szL l+size t:=by
 unfold qiZ;split
 ·exact wD (qzx _ l) (by omega)
 ·rw[qt4];exact qyC t l
theorem qvP:∀(b a:List T),szL (b.foldl qiZ a)<=szL a+szL b
 | [],a=>by simp[szL]
 | x::b,a=>by
   have d:=qvP b (qiZ a x);have c:=qNI a x;rw[kg,qS];omega
theorem qC5(a b:List T)(n:szL a+szL b<=1000000000):Ev (λ m _=>qhR m a b) (qk0 a b):=by
 have t:=jT a;have s:=jT b;refine waB ?_;simp only[qDL,qgA]
 have d:=qp (P := λ i=>Ev (λ m k=>qai m k b ((b.take i).foldl qiZ a) i) (qk0 a b)) b (by omega)
  (λ e=>by
   refine waC ?_;simp only[qqI,qgp];refine wax e ?_;rw[wC];exact wav _)
  (λ i x f o e l j g=>by
   refine waC ?_;simp only[qqI,qgp,qk];have q:=Qz f;have p:=qvP (b.take i) a;rw[kw,f,xe]at g;refine waw e (way l (wau (qO5 _ x (by omega)) ?_));rw[j];exact g)
 refine waw (qE (by simp only[w7];omega) (by omega)) ?_;have c:Ev (λ m _=>qai m m b a 0) (qk0 a b):=waD (L := λ m k=>qai m k b a 0) (d 0 (we _));exact Ev.case (λ h=>by rw[h]at c |-;exact c) λ x r h=>by rw[h]at c |-;exact c
theorem qKp(t:T):size t<=1000000000->Ev (λ m _=>zY m t) (Qd t):=by
 induction t using T.ind with
 | h t w =>
   intro F;have v:=yB t;have E:=qM t;refine waB ?_;simp only[quH,qcF,qk]
   have q:=qp (P := λ i=>Ev (λ m k=>jW m (zY m) k (((t.kids.take i).map Qd).foldl zl []) i t.kind t.name t.sort t.kids) ((t.kids.map Qd).foldl zl [])) t.kids (by omega)
    (λ s=>by
     refine waC ?_;simp only[qkn,qcS];refine wax s ?_;rw[wC];exact wav _)
    (λ i x c G s A y C=>by
     refine waC ?_;simp only[qkn,qcS,qk];have u:=wa c;have I:=jM t x u;have D:=qfa (t.kids.take i);have f:=Qz c;have H:=qlw x
     have B:Asc (((t.kids.take i).map Qd).foldl zl []):=qh7 _ _ List.Pairwise.nil λ l v=>by
      obtain⟨k,_,rfl⟩:=ww.1 v;exact qmT k
     refine waw s (way A (wau (w x u (by omega)) (wau (qC5 _ _ ?_) ?_)))
     ·unfold zW at D;unfold szL at *;omega
     ·rw[y,qCU B (qmT x)];refine C.congr λ m k=>?_;rw[qkA c])
   have g:Ev (λ m _=>jW m (zY m) m [] 0 t.kind t.name t.sort t.kids) ((t.kids.map Qd).foldl zl []) :=
    waD (L := λ m k=>jW m (zY m) k [] 0 t.kind t.name t.sort t.kids) (q 0 (we _))
   rw[qlQ];by_cases f:t.kind=3
   ·have p:ieq t.kind 3=true:=qj.2 f;have o:qd (ieq t.kind 3)=false:=bnf.2 p;refine waw p ?_;refine waz (λ e=>?_) λ e=>?_
    ·rw[yV]at e;have a:isN t qcM=true:=yR.2 ⟨f,e⟩
     have d:isN t qc9=false:=by
      rw[<- kP,yR];rintro⟨_,h⟩;rw[e]at h;exact absurd h (by decide)
     refine waz (λ b=>?_) λ b=>?_
     ·rw[qj]at b;have b:t.kids=[]:=wj (by omega);rw[a,b];exact wav _
     ·rw[qg]at b
      have b:t.kids.isEmpty=false:=by
       cases z:t.kids with
       | nil=>rw[z]at b;exact absurd rfl b
       | cons _ _=>rfl
      rw[a,b,d];exact wax o (waw (by rw[e];rfl) (wav _))
    ·have r:=jR.1 e
     have a:isN t qcM=false:=by
      rw[<- kP,yR];rintro⟨_,h⟩;exact r h
     rw[a];refine wax o (waz (λ c=>?_) λ c=>?_)
     ·have d:isN t qc9=false:=by
        rw[<- kP,yR];rintro⟨_,h⟩;exact jR.1 (bnt.1 c) h
      rw[d];exact wav _
     ·rw[show isN t qc9=true from yR.2 ⟨f,yV.1 (bnf.1 c)⟩];exact g
   ·have p:ieq t.kind 3=false:=qg.2 f
    have j:∀ n,isN t n=false := λ n=>by
     rw[<- kP,yR];rintro⟨h,_⟩;exact f h
    rw[j,j];exact wax p (waw (bnt.2 p) (wav _))
theorem qHF:qL (apT qcM [])=0:=by
 unfold qL;rw[qjy,qM,qlb];have:yS (apT qcM [])=0:=by decide
 show(if yS (apT qcM [])≠0 then yS (apT qcM [])else _)=0;rw[this];rfl
theorem qGM(l:List T)(n:szL l<=100000000):Ev (λ m _=>qjj m l (apT qcM [])) (qoH l):=by
 have o:=jT l;refine waB ?_;simp only[qAt,qfJ];unfold qoH;refine waz (λ h=>?_) λ h=>?_
 ·rw[qr]at h;rw[if_pos (by omega)];exact wav _
 ·rw[qm]at h;rw[if_neg (by omega)]
  have b:=qp (P := λ i=>Ev (λ m k=>qaE m k l i 3 qcM 0 []) (((l.drop i).map qL).foldl thn 0)) l (by omega)
   (λ c=>by
    refine waC ?_;simp only[qok,qfA];refine wax c ?_;rw[wU];refine wau (qdh (T.mk 3 qcM 0 []) (by rw[qM];show 1+0<=_;omega)) ?_;exact waA qHF)
   (λ i x d g c f e j=>by
    refine waC ?_;simp only[qok,qfA,qk];have p:=qcY (wa d);rw[qrn g];refine waw c (way f (wau (qdh x (by omega)) (waz (λ a=>?_) λ a=>?_)))
    ·rw[bnt,qg]at a;rw[if_pos a];exact wav _
    ·rw[bnf,qj]at a;rw[if_neg (by omega),e];exact j)
  refine waD (L := λ m k=>qaE m k l 0 3 qcM 0 []) ?_;exact(b 0 (we _)).res (by rw[wO])
theorem qFF(l:List T):size (qaB l)<=1+szL l:=by
 unfold qaB;split
 ·rw[qM];show 1+0<=_;omega
 ·split
  ·rename_i _ a
   have:l.getD 0 zT∈l:=by
    cases l with
    | nil=>cases a
    | cons x r=>exact wh ..
   have:=qcY this;omega
  ·rw[qM];exact wb _
theorem qIK(l:List T)(d:szL l<=1000000000):Ev (λ m _=>qk4 m l) (qaB l):=by
 have e:=jT l;refine waB ?_;simp only[qDe,qjT,qk];unfold qaB;refine waz (λ c=>?_) λ c=>?_
 ·rw[qj]at c;rw[if_pos (by omega)];exact wau (qfx _ [] (by simp)) (wav _)
 ·rw[qg]at c;rw[if_neg (by omega)];refine waz (λ b=>?_) λ b=>?_
  ·rw[qj]at b;rw[if_pos (by omega)];refine way (a:=l.getD 0 zT) ?_ (wav _);rw[qag,List.getD_eq_getElem?_getD];cases l with
   | nil=>simp at b
   | cons x r=>rfl
  ·rw[qg]at b;rw[if_neg (by omega)];exact waw (qE (by simp only[w7];omega) (by omega)) (Ev.case (λ h=>waA (by rw[h];rfl)) λ x r h=>waA (by rw[h];rfl))
theorem qND(l:List T)(q:szL l<=900000):Ev (λ m _=>qnv m l) (qqd l):=by
 have d:=jT l;refine waB ?_;simp only[qEe,qii];unfold qqd
 have z:Ev (λ m _=>qky m) (apT qcM []):=by
  refine waB ?_;simp only[qCF,qjW,qk];exact wau (qfx _ [] (by simp)) (wav _)
 refine wau z ?_;rw[qk];refine wau (qGM l (by omega)) (waz (λ h=>?_) λ h=>?_)
 ·rw[bnt,qg]at h;rw[if_pos h];exact wav _
 ·rw[bnf,qj]at h;rw[if_neg (by omega)]
  have a:=qp (P := λ i=>Ev (λ m k=>qcA m k l (((l.take i).map Qd).foldl zl []) i 0 [] 0 []) (if qL (qaB (zW l))≠0 then(zT,3)else(qaB (zW l),0))) l (by omega)
   (λ c=>by
    refine waC ?_;simp only[qr7,qhU,qk];refine wax c ?_;rw[wC];have p:=qfa l;have e:=qFF (zW l);refine wau (qIK (zW l) (by omega)) (wau (qdh _ (by omega)) (waz (λ h=>?_) λ h=>?_))
    ·rw[bnt,qg]at h;rw[if_pos h];exact wav _
    ·rw[bnf,qj]at h;rw[if_neg (by omega)];exact wav _)
   (λ i x b r c j g o=>by
    refine waC ?_;simp only[qr7,qhU,qk];have f:=wa b;have p:=qcY f;have e:=qfa (l.take i);have t:=Qz b;have s:=qlw x
    have n:Asc (((l.take i).map Qd).foldl zl []):=qh7 _ _ List.Pairwise.nil λ l d=>by
     obtain⟨k,_,rfl⟩:=ww.1 d;exact qmT k
    refine waw c (way j (wau (qKp x (by omega)) (wau (qC5 _ _ ?_) ?_)))
    ·unfold zW at e;omega
    ·rw[g,qCU n (qmT x)];refine o.congr λ m k=>?_;rw[qkA b])
  refine waD (L := λ m k=>qcA m k l [] 0 0 [] 0 []) ?_;exact a 0 (we _)
end Go.AmZ
namespace Go.GxZ
def qgT(l:List Pw):Prop:=Asc (l.map (·.1))
def NzP(l:List Pw):Prop:=∀ p∈l,p.2≠0
theorem qg4{p:Pw}{l:List Pw}:qgT (p::l)↔(∀ q∈l,qt p.1 q.1=-1)/\qgT l:=by
 unfold qgT;rw[wo,qa9];simp
theorem qeS{p:Pw}{l:List Pw}:NzP (p::l)↔p.2≠0/\NzP l:=by
 unfold NzP;simp
def Q7(l:List Pw):Nat:=(l.map λ p=>p.2.natAbs).sum
theorem qpH:∀(l:List Pw) (t:T) (n:Int) (p:Pw),p∈yH l t n->p.1=t\/p∈l
 | [],t,n,p,h=>by simp[yH]at h;exact .inl (by rw[h])
 | (x,m)::l,t,n,p,h=>by
   rw[yH]at h;split at h
   ·rcases wy.1 h with h | h
    ·exact .inl (by rw[h])
    ·exact .inr h
   ·split at h
    ·rename_i a;split at h
     ·exact .inr (wg _ h)
     ·rcases wy.1 h with h | h
      ·left;rw[h];exact(qa3 t x a).symm
      ·exact .inr (wg _ h)
    ·rcases wy.1 h with h | h
     ·exact .inr (h▸wh ..)
     ·rcases qpH l t n p h with h | h
      ·exact .inl h
      ·exact .inr (wg _ h)
theorem qBA:∀(l:List Pw) (t:T) (n:Int),qgT l->qgT (yH l t n)
 | [],_,_,_=>vy _ _
 | (x,m)::l,t,n,h=>by
   obtain⟨d,c⟩:=qg4.1 h;rw[yH];have f:=yf.rng t x;split
   ·rename_i b;refine qg4.2 ⟨λ q a=>?_,h⟩;rcases wy.1 a with e | a
    ·rw[e];exact b
    ·exact qfD b (d q a)
   ·split
    ·split
     ·exact c
     ·exact qg4.2 ⟨d,c⟩
    ·refine qg4.2 ⟨λ q a=>?_,qBA l t n c⟩;rcases qpH l t n q a with e | a
     ·rw[e];exact qxj.1 (show qt t x=1 by omega)
     ·exact d q a
theorem qEX:∀(l:List Pw) (t:T) (n:Int),NzP l->n≠0->NzP (yH l t n)
 | [],_,_,_,a=>by intro p c;simp[yH]at c;rw[c];exact a
 | (x,m)::l,t,n,h,a=>by
   obtain⟨d,b⟩:=qeS.1 h;rw[yH];split
   ·exact qeS.2 ⟨a,h⟩
   ·split
    ·split
     ·exact b
     ·exact qeS.2 ⟨by assumption,b⟩
    ·exact qeS.2 ⟨d,qEX l t n b a⟩
theorem quM:∀(l:List Pw) (t:T) (n:Int),Q7 (yH l t n)<=Q7 l+n.natAbs
 | [],t,n=>by simp[yH,Q7]
 | (x,m)::l,t,n=>by
   have a:=quM l t n;unfold Q7 at a |-
   rw[yH];split
   ·simp only[wo,kD];omega
   ·split
    ·split
     ·simp only[wo,kD];omega
     ·simp only[wo,kD];omega
    ·simp only[wo,kD];omega
theorem qud:∀(l:List Pw) (t:T) (n:Int),(yH l t n).length<=l.length+1
 | [],t,n=>by simp[yH]
 | (x,m)::l,t,n=>by
   have a:=qud l t n;rw[yH];split
   ·simp
   ·split
    ·split
     ·simp;omega
     ·simp
    ·simp only[wv];omega
theorem qCi(l:List Pw)(p:Pw)(h:p∈l):p.2.natAbs<=Q7 l:=by
 unfold Q7
 induction l with
 | nil=>cases h
 | cons q l a =>
   simp only[wo,kD];rcases wy.1 h with e | h
   ·rw[e];omega
   ·have:=a h;omega
def jc(t:T)(n:Int)(s:List Pw × Bool)(p:Pw):List Pw × Bool :=
 ((if s.2=false/\qt t p.1<0 then s.1++[(t,n)]else s.1)++(if(if qt t p.1=0 then p.2+n else p.2)=0 then[]else[(p.1,if qt t p.1=0 then p.2+n else p.2)]),
   s.2||decide (qt t p.1<=0))
def qHd(l:List Pw)(t:T)(n:Int):List Pw:=if(l.foldl (jc t n) ([],false)).2 then(l.foldl (jc t n) ([],false)).1 else(l.foldl (jc t n) ([],false)).1++[(t,n)]
theorem qpv(t:T)(n:Int):∀(l a:List Pw),NzP l->(∀ q∈l,qt t q.1=-1)->l.foldl (jc t n) (a,true)=(a++l,true)
 | [],a,_,_=>by simp
 | (x,m)::l,a,h,k=>by
   obtain⟨c,f⟩:=qeS.1 h;have b:=k _ (wh ..);simp only at b c;have e:jc t n (a,true) (x,m)=(a++[(x,m)],true):=by simp[jc,b,c]
   rw[kg,e,qpv t n l _ f λ q d=>k q (wg _ d)];simp
theorem qtl(t:T)(n:Int):∀(l a:List Pw),NzP l->qgT l->(if(l.foldl (jc t n) (a,false)).2 then(l.foldl (jc t n) (a,false)).1 else(l.foldl (jc t n) (a,false)).1++[(t,n)])=a++yH l t n
 | [],a,_,_=>by simp[yH]
 | (x,m)::l,a,h,k=>by
   obtain⟨i,g⟩:=qeS.1 h;obtain⟨d,o⟩:=qg4.1 k;simp only at i d;have s:=yf.rng t x;rw[kg,yH];by_cases c:qt t x=-1
   ·have e:jc t n (a,false) (x,m)=(a++[(t,n)]++[(x,m)],true):=by simp[jc,c,i]
    rw[e,qpv t n l _ g λ q f=>qfD c (d q f),if_pos c];simp
   ·by_cases b:qt t x=0
    ·have e:jc t n (a,false) (x,m)=(a++(if m+n=0 then[]else[(x,m+n)]),true):=by simp[jc,b]
     have ex:=qa3 t x b;rw[e,qpv t n l _ g λ q f=>by rw[ex];exact d q f,if_neg c,if_pos b];by_cases j:m+n=0
     ·simp[j]
     ·simp[j]
    ·have e:jc t n (a,false) (x,m)=(a++[(x,m)],false):=by
       have r:¬ qt t x<0:=by omega
       have p:¬ qt t x<=0:=by omega
       simp[jc,r,p,b,i]
     rw[e,qtl t n l _ g o,if_neg c,if_neg b];simp
theorem qLn{l:List Pw}(h:NzP l)(k:qgT l)(t:T)(n:Int):qHd l t n=yH l t n:=by
 have:=qtl t n l [] h k;simpa[qHd]using this
def J9(l:List Pw):Prop:=qgT l/\NzP l
theorem J9.nil:J9 []:=⟨List.Pairwise.nil,λ _ h=>by cases h⟩
theorem J9.ins{l:List Pw}(h:J9 l)(t:T){n:Int}(a:n≠0):J9 (yH l t n):=⟨qBA l t n h.1,qEX l t n h.2 a⟩
theorem qMW{t:T}{n:Int}(h:n≠0):qbA t n≠0:=by unfold qbA;split<;>omega
theorem qLH(t:T)(n:Int):(qbA t n).natAbs=n.natAbs:=by unfold qbA;split<;>omega
theorem qE1(a:List T)(n:Int)(P:List Pw->Prop)(h:∀ k∈a,∀ l,P l->P (jF k l n)):∀ l,P l->P ((a.map jF).foldl (λ l f=>f l n) l):=by
 induction a with
 | nil=>intro l b;exact b
 | cons k a c=>intro l b;exact c (λ k d=>h k (wg _ d)) _ (h k (wh ..) l b)
theorem qIN(t:T):∀(l:List Pw) (n:Int),n≠0->J9 l->J9 (jF t l n):=by
 refine T.ind (P := λ t=>∀(l:List Pw) (n:Int),n≠0->J9 l->J9 (jF t l n)) ?_ t;intro t b l n a h;rw[qg7];split
 ·exact qE1 t.kids (qbA t n) J9 (λ k d l c=>b k d l _ (qMW a) c) l h
 ·exact h.ins t a
theorem qKo(t:T):∀(l:List Pw) (n:Int),Q7 (jF t l n)<=Q7 l+size t*n.natAbs/\(jF t l n).length<=l.length+size t:=by
 refine T.ind (P := λ t=>∀(l:List Pw) (n:Int),Q7 (jF t l n)<=Q7 l+size t*n.natAbs/\(jF t l n).length<=l.length+size t) ?_ t;intro t g l n;rw[qg7,qM];split
 ·have:∀(a:List T),(∀ k∈a,k∈t.kids)->∀ l,Q7 ((a.map jF).foldl (λ l f=>f l (qbA t n)) l)<=Q7 l+(a.map size).sum*n.natAbs/\((a.map jF).foldl (λ l f=>f l (qbA t n)) l).length<=l.length+(a.map size).sum:=by
    intro a
    induction a with
    | nil=>intro _ l;simp
    | cons k a b =>
      intro c l;have e:=g k (c k (wh ..)) l (qbA t n);rw[qLH]at e;have d:=b (λ k i=>c k (wg _ i)) (jF k l (qbA t n));simp only[wo,kg,kD,wN]at d |-
      omega
  have:=this t.kids (λ _ h=>h) l;rw[wN];omega
 ·have e:=quM l t n;have d:=qud l t n;rw[wN];omega
theorem qrD:∀(b a:List Pw),J9 a->NzP b->J9 (Jb a b)
 | [],a,h,_=>h
 | p::b,a,h,k=>qrD b (yH a p.1 p.2) (h.ins p.1 (qeS.1 k).1) (qeS.1 k).2
theorem quj:∀(b a:List Pw),Q7 (Jb a b)<=Q7 a+Q7 b/\(Jb a b).length<=a.length+b.length
 | [],a=>by simp[Jb,Q7]
 | p::b,a=>by
   have f:=quj b (yH a p.1 p.2);have d:=quM a p.1 p.2;have c:=qud a p.1 p.2;have e:Q7 (p::b)=p.2.natAbs+Q7 b:=by simp[Q7]
   rw[show Jb a (p::b)=Jb (yH a p.1 p.2) b from rfl,e,wv];omega
def ixP:List Pw->T->Nat
 | [],_=>0
 | p::l,t=>if qt p.1 t=-1 then ixP l t+1 else 0
theorem qJj:∀(l:List Pw) (t:T),ixP l t<=l.length
 | [],_=>wb _
 | p::l,t=>by
   have:=qJj l t;rw[ixP];split
   ·simp;omega
   ·omega
theorem qIV:∀(l:List Pw) (t:T) (i:Nat),i<=l.length->(∀ k p,k<i->l[k]?=some p->qt p.1 t=-1)->(∀ p,l[i]?=some p->qt p.1 t≠-1)->i=ixP l t
 | [],_,i,h,_,_=>by simp at h;rw[h];rfl
 | p::l,t,0,_,_,h=>by rw[ixP,if_neg (h p rfl)]
 | p::l,t,i+1,h,k,m=>by
   rw[ixP,if_pos (k 0 p (by omega) rfl)];rw[<- qIV l t i (by simpa using h) (λ j q b a=>k (j+1) q (by omega) (by simpa using a)) (λ q a=>m q (by simpa using a))]
theorem qF3:∀(l:List Pw) (t:T) (n:Int) (x:T) (m:Int),l[ixP l t]?=some (x,m)->qt x t=0 ->
  yH l t n=if m+n=0 then l.take (ixP l t)++l.drop (ixP l t+1)else l.take (ixP l t)++[(x,m+n)]++l.drop (ixP l t+1)
 | [],_,_,_,_,h,_=>by simp at h
 | (y,k)::l,t,n,x,m,h,a=>by
   have d:=yf.anti y t;have b:=yf.rng y t;rw[ixP]at h;rw[yH,ixP];simp only at h |-
   by_cases c:qt y t=-1
   ·rw[if_pos c]at h;rw[if_neg (by omega),if_neg (by omega),if_pos c,qF3 l t n x m (by simpa using h) a];split<;>simp
   ·rw[if_neg c]at h;simp at h;obtain⟨rfl,rfl⟩:=h;rw[if_neg (by omega),if_pos (by omega),if_neg c];split<;>simp
theorem qDT:∀(l:List Pw) (t:T) (n:Int),(∀ p,l[ixP l t]?=some p->qt p.1 t≠0)->yH l t n=l.take (ixP l t)++[(t,n)]++l.drop (ixP l t)
 | [],_,_,_=>by simp[yH,ixP]
 | (y,k)::l,t,n,h=>by
   have d:=yf.anti y t;have b:=yf.rng y t;rw[ixP]at h;rw[yH,ixP];simp only at h |-
   by_cases c:qt y t=-1
   ·rw[if_pos c]at h;rw[if_neg (by omega),if_neg (by omega),if_pos c,qDT l t n λ p a=>h p (by simpa using a)];simp
   ·rw[if_neg c]at h;have:=h (y,k) rfl;simp only at this;rw[if_pos (by omega),if_neg c];simp
theorem qFS{l:List Pw}(h:qgT l){i j:Nat}{p q:Pw}(g:l[i]?=some p)(f:l[j]?=some q)(c:i<j):qt p.1 q.1=-1:=by
 unfold qgT Asc at h;rw[List.pairwise_iff_getElem]at h;obtain⟨e,d⟩:=List.getElem?_eq_some_iff.1 g;obtain⟨b,a⟩:=List.getElem?_eq_some_iff.1 f;have:=h i j (by simpa using e) (by simpa using b) c;simpa[d,a]using this
end Go.GxZ
namespace Go.AmZ
open Go Go.GxZ
theorem qES(t:T):Ev (λ m _=>qcg m t) (qdy t):=by
 refine waB ?_;simp only[qsZ,qeK];unfold qdy;by_cases a:t.kind=3
 ·refine waw (qj.2 a) (waz (λ h=>?_) λ h=>(waz (λ b=>?_) λ b=>?_))
  ·rw[yV]at h;exact waA (by rw[a,h];rfl)
  ·rw[yV]at b;exact waA (by rw[a,b];rfl)
  ·rw[jR]at h b
   exact waA (by
    have d:(t.name==qfb)=false:=by rw[beq_eq_false_iff_ne];exact h
    have c:(t.name==JD)=false:=by rw[beq_eq_false_iff_ne];exact b
    rw[a,d,c];rfl)
 ·exact wax (qg.2 a) (waA (by have:(t.kind==3)=false:=by rw[beq_eq_false_iff_ne];exact a
                              rw[this];rfl))
theorem qmY(t:T):size t<=100000000->Ev (λ m _=>zu m t) t:=by
 induction t using T.ind with
 | h t g =>
   intro o;have p:=yB t;refine waB ?_;simp only[qtY,qcJ]
   have a:zZ 0 t.kids=some ((),t.kids,()):=by
    unfold zZ;rw[show Nat.ble t.kids.length 100000000=true from xH (by omega)];rfl
   refine way a ?_
   have b:=qp (P := λ i=>Ev (λ m k=>QM m (zu m) k t.kids.length i t.kind t.name t.sort 0 [] 0 t.kids []) t) t.kids (by omega)
    (λ a=>by
     refine waC ?_;simp only[qki,qcT];exact wax a (waA (qk t)))
    (λ i x c q a f j l=>by
     refine waC ?_;simp only[qki,qcT,qk];have d:=wa c;have s:=jM t x d
     have e:yq t.kids (i:Int) x=t.kids:=by
      rw[QK];obtain⟨r,n⟩:=List.getElem?_eq_some_iff.1 c;rw[<- n,List.set_getElem_self]
     refine waw a (way f (wau (g x d (by omega)) (way f ?_)));rw[e,j];exact l)
   refine waD (L := λ m k=>QM m (zu m) k t.kids.length 0 t.kind t.name t.sort 0 [] 0 t.kids []) ?_;exact b 0 (we _)
theorem qOx(lo a:Nat)(h:lo+a<=1000000000):iw .i64 (qbP .u64 (iw .u64 (iw .i64 (qe (lo:Int) (a:Int)))) 1)=(((lo+a) / 2:Nat):Int):=by
 rw[qiG,show iw .i64 ((lo+a:Nat):Int)=((lo+a:Nat):Int)from jS (by omega),show iw .u64 ((lo+a:Nat):Int)=((lo+a:Nat):Int)from IntWalk.u64_in _ (by omega)]
 have:qbP .u64 ((lo+a:Nat):Int) 1=(((lo+a) / 2:Nat):Int):=by
  unfold qbP;show Int.fdiv _ 2=_;rw[vW _ (by decide)];omega
 rw[this,jS (by omega)]
def szP(l:List Pw):Nat:=(l.map λ p=>size p.1).sum
theorem qbh(p:Pw)(l:List Pw):szP (p::l)=size p.1+szP l:=by simp[szP]
theorem qcZ:∀ l:List Pw,l.length<=szP l
 | []=>we _
 | p::l=>by
   have:=qcZ l;have:=size_pos p.1;rw[qbh,wv];omega
theorem qfP:∀{l:List Pw} {p:Pw},p∈l->size p.1<=szP l
 | q::l,p,h=>by
   rw[qbh];rcases wy.1 h with rfl | h
   ·omega
   ·have:=qfP h;omega
theorem qFA:∀(l:List Pw) (t:T) (n:Int),szP (yH l t n)<=szP l+size t
 | [],t,n=>by rw[yH,qbh];show size t+0<=0+size t;omega
 | (x,m)::l,t,n=>by
   have:=qFA l t n;rw[yH];split
   ·rw[qbh,qbh];show size t+(size x+_)<=size x+_+size t;omega
   ·split
    ·split
     ·rw[qbh];show _<=size x+_+_;omega
     ·rw[qbh,qbh];show size x+_<=size x+_+_;omega
    ·rw[qbh,qbh];show size x+_<=size x+_+_;omega
theorem qCT(p:Pw)(t:T)(b:size p.1<=1000000000)(a:size t<=1000000000):Ev (λ m _=>qaG m p t) (qt p.1 t):=by
 refine waB ?_;simp only[qqQ,qdD,qk];exact wau (qd6 _ b _ a) (wav _)
def quy(l:List Pw)(t:T):Bool:=match l[Go.GxZ.ixP l t]? with
 | some p=>ieq (qt p.1 t) 0
 | none=>false
theorem qNo{l:List Pw}(y:qgT l)(t:T)(D:szP l+size t<=100000000):∀(d lo c:Nat),c<=lo+d->lo<=c->c<=l.length->(∀ k p,k<lo->l[k]?=some p->qt p.1 t=-1)->(∀ k p,c<=k->l[k]?=some p->qt p.1 t≠-1) ->
  Ev (λ m k=>qs m k l l.length lo c t.kind t.name t.sort t.kids) ((Go.GxZ.ixP l t:Int),quy l t):=by
 have E:=qcZ l;intro d
 induction d with
 | zero =>
   intro lo c C z r o n;have:lo=c:=by omega
   subst this;have w:=qIV l t lo r o (λ p g=>n lo p (wb _) g);subst w;refine waC ?_;simp only[yv,qH,qk];rw[show T.mk t.kind t.name t.sort t.kids=t from qk t];refine wax (qm.2 (vm _)) (waz (λ h=>?_) λ h=>?_)
   ·rw[qr]at h;have i:Go.GxZ.ixP l t<l.length:=by omega
    obtain⟨p,e⟩:∃ p,l[Go.GxZ.ixP l t]?=some p:=⟨_,List.getElem?_eq_getElem i⟩
    have v:=qfP (wa e);refine way (a:=p) (by rw[zb,e]) (wau (qCT (p.1,p.2) _ (wD v (by omega)) (by omega)) (waA ?_));unfold quy;rw[e]
   ·rw[qm]at h;refine waA ?_;unfold quy;rw[List.getElem?_eq_none (by omega)]
 | succ d s =>
   intro lo c C z r o n;by_cases F:lo=c
   ·exact s lo c (by omega) z r o n
   refine waC ?_;simp only[yv,qH,qk];rw[show T.mk t.kind t.name t.sort t.kids=t from qk t,qOx lo c (by omega)];have A:(lo+c) / 2<c:=by omega
   have u:lo<=(lo+c) / 2:=by omega
   generalize (lo+c) / 2=b at *;have i:b<l.length:=by omega
   obtain⟨p,e⟩:∃ p,l[b]?=some p:=⟨_,List.getElem?_eq_getElem i⟩
   have v:=qfP (wa e);refine waw (qr.2 (by omega)) (way (a:=p) (by rw[zb,e]) (wau (qCT (p.1,p.2) _ (wD v (by omega)) (by omega)) (waz (λ f=>?_) λ f=>?_)))
   ·rw[qr]at f;have f:qt p.1 t<0:=f;have f:qt p.1 t=-1:=by rcases yf.rng p.1 t with h | h | h<;>omega
    rw[show qe ((b:Nat):Int) 1=((b+1:Nat):Int)from by unfold qe;omega,jS (by omega)];refine s (b+1) c (by omega) (by omega) r (λ k q B g=>?_) n;by_cases j:k=b
    ·subst j;rw[e]at g;cases g;exact f
    ·exact yf.trans _ _ _ (qFS y g e (by omega)) f
   ·rw[qm]at f;have f:0<=qt p.1 t:=f;refine s lo b (by omega) u (by omega) o (λ k q B g=>?_);by_cases j:k=b
    ·subst j;rw[e]at g;cases g;omega
    ·intro x;have:=yf.trans _ _ _ (qFS y e g (by omega)) x;omega
theorem qPM{l:List Pw}(d:qgT l)(t:T)(c:szP l+size t<=100000000):Ev (λ m _=>qK m l t) ((Go.GxZ.ixP l t:Int),quy l t):=by
 refine waB ?_;simp only[Ja,qG];refine waD (L := λ m k=>qs m k l l.length 0 l.length t.kind t.name t.sort t.kids) ?_;exact qNo d t c l.length 0 l.length (by omega) (we _) (wb _) (λ k p b=>by omega) (λ k p b a=>by rw[List.getElem?_eq_none b]at a;cases a)
theorem qwN{l:List Pw}(r:qgT l)(t:T)(n:Int)(u:szP l+size t<=90000000)(g:l.length<=90000)(v:Q7 l+n.natAbs<=1000000000000):Ev (λ m _=>qb6 m l (t,n)) ((),yH l t n,()):=by
 have w:=qcZ l;have q:=qJj l t;refine waB ?_;simp only[qs5,qeP,qk];refine wau (qPM r t (by omega)) (waz (λ h=>?_) λ h=>?_)
 ·rw[bnt]at h;refine wau (qmY t (by omega)) ?_
  have i:zx 0 l (Go.GxZ.ixP l t:Int) [(re t,n)]=some ((),yH l t n,()):=by
   unfold zx;rw[show inb (Go.GxZ.ixP l t:Int) l.length=true from by unfold inb;rw[decide_eq_true_iff];omega,show Nat.ble l.length 100000=true from xH (by omega)]
   rw[qDT l t n λ p j f=>by
    unfold quy at h;simp only[j]at h;rw[qg]at h;exact h f]
   rw[wF,qk,wi];rfl
  rw[qk]at i;refine way i (wav _)
 ·rw[bnf]at h;cases b:l[Go.GxZ.ixP l t]? with
  | none=>unfold quy at h;simp only[b]at h;cases h
  | some p =>
    obtain⟨x,k⟩:=p
    have f:qt x t=0:=by
     unfold quy at h;simp only[b]at h;exact qj.1 h
    have o:=qCi l _ (wa b);have d:Go.GxZ.ixP l t<l.length:=(List.getElem?_eq_some_iff.1 b).1;simp only at o
    have e1:iw .i64 (qe k n)=k+n:=by
     unfold qe;exact jS (by omega)
    have e:qb (yq l (Go.GxZ.ixP l t:Int) (x,k+n)) (Go.GxZ.ixP l t:Int)=some (x,k+n):=by
     rw[QK,zb,List.getElem?_set_self d]
    have a:l.set (Go.GxZ.ixP l t) (x,k+n)=l.take (Go.GxZ.ixP l t)++[(x,k+n)]++l.drop (Go.GxZ.ixP l t+1):=by
     rw[xJ,if_pos d,wi];rfl
    refine way (by rw[zb,b]) (way (by rw[zb,b]) ?_);simp only[qk,e1];refine way e ?_;rw[qF3 l t n x k b f];refine waz (λ c=>?_) λ c=>?_
    ·rw[qj]at c;rw[if_pos c]
     have s:zA 0 (yq l (Go.GxZ.ixP l t:Int) (x,k+n)) (Go.GxZ.ixP l t:Int) (iw .i64 (qe (Go.GxZ.ixP l t:Int) 1))=some ((),l.take (Go.GxZ.ixP l t)++l.drop (Go.GxZ.ixP l t+1),()):=by
      rw[show qe (Go.GxZ.ixP l t:Int) 1=((Go.GxZ.ixP l t+1:Nat):Int)from by unfold qe;omega,jS (by omega),QK];unfold zA
      rw[wJ,show inb ((Go.GxZ.ixP l t+1:Nat):Int) l.length=true from by unfold inb;rw[decide_eq_true_iff];omega,show inb (Go.GxZ.ixP l t:Int) l.length=true from by unfold inb;rw[decide_eq_true_iff];omega,
       show ieq ((Go.GxZ.ixP l t+1:Nat):Int) (qe (Go.GxZ.ixP l t:Int) 1)=true from qj.2 (by unfold qe;omega),show Nat.ble l.length 100000=true from xH (by omega)]
      rw[wF,vn (wb _),vO (by omega)];rfl
     exact way s (wav _)
    ·rw[qg]at c;rw[if_neg c];refine waA ?_;rw[QK,a]
end Go.AmZ
namespace Go.GxZ
open Go.RowKit
theorem qDM(q:Option T)(p:Pw):pvK q p=if qL p.1≠0 then qL p.1 else if qdy p.1 then 1 else if p.2=0\/p.2 < -1000\/1000<p.2 then 7 else match q with | some x=>if 0<=qt x p.1 then 5 else 0 | none=>0:=rfl
theorem qDQ:∀(l:List Pw) (q:Option T),pvL q l=0->qgT l/\(∀ p∈l,p.2≠0/\p.2.natAbs<=1000)/\(∀ x,q=some x->∀ p∈l,qt x p.1=-1)/\(∀ p∈l,qL p.1=0/\qdy p.1=false)
 | [],q,_=>⟨List.Pairwise.nil,(λ _ h=>by cases h),(λ _ _ _ h=>by cases h),(λ _ h=>by cases h)⟩
 | p::l,q,h=>by
   rw[pvL]at h;unfold thn at h;split at h
   rotate_left
   ·rename_i b;exact absurd h b
   ·rename_i b;have k:=qDM q p;obtain⟨j,i,d,g⟩:=qDQ l (some p.1) h;rw[k]at b;split at b
    ·rename_i f;exact absurd b f
    rename_i f;split at b
    ·cases b
    rename_i m;split at b
    ·cases b
    rename_i o
    have e:∀ x,q=some x->qt x p.1=-1 := λ x c=>by
     subst c;simp only at b;split at b
     ·cases b
     ·rename_i n;rcases yf.rng x p.1 with h | h | h<;>omega
    refine⟨qg4.2 ⟨λ r a=>d _ rfl r a,j⟩,λ r a=>?_,λ x c r a=>?_,λ r a=>?_⟩
    ·rcases wy.1 a with rfl | a
     ·omega
     ·exact i r a
    ·rcases wy.1 a with rfl | a
     ·exact e x c
     ·exact qfD (e x c) (by have:=d _ rfl r a;omega)
    ·rcases wy.1 a with rfl | a
     ·exact⟨by omega,by simpa using m⟩
     ·exact g r a
theorem qcd{l:List Pw}(h:JK l=0):J9 l/\l.length<=200/\(∀ p∈l,p.2.natAbs<=1000)/\(∀ p∈l,qL p.1=0/\qdy p.1=false):=by
 unfold JK at h;split at h
 ·cases h
 ·obtain⟨d,b,-,c⟩:=qDQ l none h;exact⟨⟨d,λ p a=>(b p a).1⟩,by omega,λ p a=>(b p a).2,c⟩
theorem qo4(k:Nat):∀(l:List Pw),(∀ p∈l,p.2.natAbs<=k)->Q7 l<=l.length*k
 | [],_=>by simp[Q7]
 | p::l,h=>by
   have c:=qo4 k l λ q a=>h q (wg _ a);have b:=h p (wh ..);have e:Q7 (p::l)=p.2.natAbs+Q7 l:=rfl;rw[e,wv,wN];omega
theorem qtW:∀(b a:List Pw) (p:Pw),p∈Jb a b->(∃ q∈a,q.1=p.1)\/∃ q∈b,q.1=p.1
 | [],a,p,h => .inl ⟨p,h,rfl⟩
 | r::b,a,p,h=>by
   rcases qtW b (yH a r.1 r.2) p h with⟨q,c,e⟩ | ⟨q,c,e⟩
   ·rcases qpH a r.1 r.2 q c with d | d
    ·exact .inr ⟨r,wh ..,by rw[<- d];exact e⟩
    ·exact .inl ⟨q,d,e⟩
   ·exact .inr ⟨q,wg _ c,e⟩
theorem qzP(a b:List Pw)(p:Pw):Jb a (b++[p])=yH (Jb a b) p.1 p.2:=by unfold Jb;rw[xe];rfl
theorem qHz{a b:List Pw}(n:JK a=0)(m:JK b=0)(S:Nat)(f:∀ p∈a,size p.1<=S)(d:∀ p∈b,size p.1<=S)(j:Nat) :
  qgT (Jb a (b.take j))/\(Jb a (b.take j)).length<=400/\(∀ p∈Jb a (b.take j),p.2.natAbs<=1000000)/\(∀ p∈Jb a (b.take j),size p.1<=S):=by
 obtain⟨r,t,k,-⟩:=qcd n;obtain⟨o,s,i,-⟩:=qcd m;have h:∀ p∈b.take j,p∈b := λ p c=>wY c;have l:=qrD (b.take j) a r λ p c=>o.2 p (h p c);obtain⟨y,x⟩:=quj (b.take j) a;have w:=qo4 1000 a k;have v:=qo4 1000 (b.take j) λ p c=>i p (h p c);have u:(b.take j).length<=200:=by rw[wm];omega
 refine⟨l.1,by omega,λ p c=>?_,λ p c=>?_⟩
 ·have:=qCi _ p c;omega
 ·rcases qtW _ _ p c with⟨q,g,e⟩ | ⟨q,g,e⟩
  ·rw[<- e];exact f q g
  ·rw[<- e];exact d q (h q g)
end Go.GxZ
namespace Go.AmZ
open Go Go.GxZ
theorem Q3{t:T}(h:qL t=0):size t<=400:=by
 unfold qL at h;split at h
 ·rename_i a;exact absurd h a
 ·split at h
  ·cases h
  ·omega
theorem qsU{t:T}:qdy t=true↔t.kind=3/\(t.name=qfb\/t.name=JD\/t.name=qj0):=by
 unfold qdy;simp only[wd,kh,beq_iff_eq];constructor
 ·rintro⟨h,(a | a) | a⟩
  ·exact⟨h,.inl a⟩
  ·exact⟨h,.inr (.inl a)⟩
  ·exact⟨h,.inr (.inr a)⟩
 ·rintro⟨h,a | a | a⟩
  ·exact⟨h,.inl (.inl a)⟩
  ·exact⟨h,.inl (.inr a)⟩
  ·exact⟨h,.inr a⟩
theorem qF5(t:T):∀(l:List Pw) (n:Int),szP (jF t l n)<=szP l+size t:=by
 refine T.ind (P := λ t=>∀(l:List Pw) (n:Int),szP (jF t l n)<=szP l+size t) ?_ t;intro t d l n;rw[qg7];have i:=qM t;split
 ·have:∀(a:List T),(∀ k∈a,k∈t.kids)->∀ l,szP ((a.map jF).foldl (λ l f=>f l (qbA t n)) l)<=szP l+(a.map size).sum:=by
    intro a
    induction a with
    | nil=>intro _ l;simp
    | cons k a b =>
      intro c l;have j:=d k (c k (wh ..)) l (qbA t n);have g:=b (λ k e=>c k (wg _ e)) (jF k l (qbA t n));simp only[wo,kg,kD]at g |-
      omega
  have:=this t.kids (λ _ h=>h) l;omega
 ·exact qFA l t n
def qf4(ks:List T)(a:Int)(l:List Pw)(i:Nat):List Pw:=((ks.take i).map jF).foldl (λ l f=>f l a) l
theorem qzc{ks:List T}{i:Nat}{x:T}(h:ks[i]?=some x)(a:Int)(l:List Pw):qf4 ks a l (i+1)=jF x (qf4 ks a l i) a:=by
 unfold qf4;rw[kw,h,wS,xe];rfl
theorem qpK(a:Int)(b:a≠0):∀(ks:List T) (l:List Pw),J9 l->J9 ((ks.map jF).foldl (λ l f=>f l a) l)/\szP ((ks.map jF).foldl (λ l f=>f l a) l)<=szP l+szL ks /\
  Q7 ((ks.map jF).foldl (λ l f=>f l a) l)<=Q7 l+szL ks*a.natAbs/\((ks.map jF).foldl (λ l f=>f l a) l).length<=l.length+szL ks
 | [],l,h=>⟨h,by simp,by simp,by simp⟩
 | k::ks,l,h=>by
   obtain⟨c,g,e,d⟩:=qpK a b ks (jF k l a) (qIN k l a b h);have m:=qF5 k l a;obtain⟨j,i⟩:=qKo k l a;rw[wo,kg,qS,wN];exact⟨c,by omega,by omega,by omega⟩
def ql3(t:T)(l:List Pw)(n:Int):Unit × List Pw × Bool × Unit:=((),if arT t then jF t l n else[],arT t,())
theorem qGn(t:T):∀(l:List Pw) (n:Int),n≠0->J9 l->szP l+size t<=80000->Q7 l+size t*n.natAbs<=100000000000->Ev (λ m _=>zq m l t n) (ql3 t l n):=by
 induction t using T.ind with
 | h t K =>
   intro l n H I R J;have S:=yB t;have Q:=qM t;have M:=qcZ l;refine waB ?_;simp only[qrN,qbD,qk];refine wau (qES t) (waz (λ h=>?_) λ h=>?_)
   ·rw[bnt]at h;have s:n.natAbs<=size t*n.natAbs:=vA _ (size_pos t);refine wau (qwN I.1 t n (by omega) (by omega) (by omega)) (waA ?_);unfold ql3;rw[qv6,qg7,h];rfl
   rw[bnf]at h;obtain⟨Y,j⟩:=qsU.1 h;have o:arT t=(arK t&&(t.kids.map arT).all id):=by rw[qv6,h];rfl
   have g:∀ e:Int,e≠0->e.natAbs=n.natAbs->qbA t n=e->arK t=true->Ev (λ m _=>jv m (zq m) m e t.kids t.kids.length 0 l) (ql3 t l n):=by
    intro e q F A d;have u:jF t l n=qf4 t.kids e l t.kids.length:=by rw[qg7,h,if_pos rfl,A];unfold qf4;rw[wC]
    have z:=qp (P := λ i=>(∀ k∈t.kids.take i,arT k=true)->Ev (λ m k=>jv m (zq m) k e t.kids t.kids.length i (qf4 t.kids e l i)) (ql3 t l n)) t.kids (by omega)
     (λ E y=>by
      refine waC ?_;simp only[qir,qbF];refine wax E (waA ?_);unfold ql3
      have:arT t=true:=by
       rw[o,d,ka,wu];intro b J;obtain⟨k,C,rfl⟩:=ww.1 J;rw[wC]at y;exact y k C
      rw[this,if_pos rfl,u])
     (λ i x w U E D N G y=>by
      refine waC ?_;simp only[qir,qbF,qk];have B:=wa w;have Z:=jM t x B;obtain⟨O,f2,f3,f4⟩:=qpK e q (t.kids.take i) l I;have X:=Qz w;have W:szL t.kids+1=size t:=by unfold szL;omega
      have V:szL (t.kids.take i)*e.natAbs+size x*e.natAbs<=size t*n.natAbs:=by
       rw[<- wN,F];exact wn _ (by omega)
      refine waw E (way D (wau (K x B (qf4 t.kids e l i) e q O (by unfold qf4;omega) (by unfold qf4;omega)) (waz (λ c=>?_) λ c=>?_)))
      ·rw[bnt]at c;have c:arT x=false:=c;refine waA ?_;unfold ql3
       have:arT t=false:=by
        rw[o,d,ka,<- kP,wu];intro v;have:=v (arT x) (kO B);rw[c]at this;cases this
       rw[this];rfl
      ·rw[bnf]at c;have c:arT x=true:=c
       have G:=G λ k f=>by
        rw[kw,w]at f;rcases wx.1 f with f | f
        ·exact y k f
        ·rw[show k=x from by simpa using f];exact c
       rw[N];refine G.congr λ m k=>?_;unfold ql3;rw[qzc w,c];rfl)
    refine waD (L := λ m k=>jv m (zq m) k e t.kids t.kids.length 0 l) ?_;exact(z 0 (we _)) (λ k d=>by rw[xE]at d;cases d)
   have p:arK t=false->Ev (λ _ _=>some ((),[],false,())) (ql3 t l n) := λ d=>by
    refine waA ?_;unfold ql3;rw[o,d];rfl
   have r:iw .i64 (zp 0 n)=-n:=by
    have s:n.natAbs<=size t*n.natAbs:=vA _ (size_pos t);unfold zp;rw[jS (by omega)];omega
   rcases j with a | a | a
   ·refine wax (by rw[a];rfl) (wax (by rw[a];rfl) (waw (by rw[a];rfl) (waz (λ d=>?_) λ d=>?_)))
    ·rw[qr]at d;exact p (by unfold arK;rw[a,decide_eq_true (show t.kids.length<2 by omega)];rfl)
    ·rw[qm]at d;exact wax (by rw[a];rfl) (g n H rfl (by unfold qbA;rw[a];rfl) (by unfold arK;rw[a,decide_eq_false (show ¬ t.kids.length<2 by omega)];rfl))
   ·refine wax (by rw[a];rfl) (waw (by rw[a];rfl) (waz (λ d=>?_) λ d=>?_))
    ·rw[bnt,qg]at d;exact p (by unfold arK;rw[a,show(t.kids.length != 1)=true from by rw[bne_iff_ne];omega];rfl)
    ·rw[bnf,qj]at d;rw[r];exact wax (by rw[a];rfl) (waw (by rw[a];rfl) (g (-n) (by omega) (by omega) (by unfold qbA;rw[if_pos a]) (by unfold arK;rw[a,show(t.kids.length != 1)=false from by rw[bne_eq_false_iff_eq];omega];rfl)))
   ·refine waw (by rw[a];rfl) (waz (λ d=>?_) λ d=>?_)
    ·rw[bnt,qg]at d;exact p (by unfold arK;rw[a,show(t.kids.length != 0)=true from by rw[bne_iff_ne];omega];rfl)
    ·rw[bnf,qj]at d;exact wax (by rw[a];rfl) (wax (by rw[a];rfl) (wax (by rw[a];rfl) (g n H rfl (by unfold qbA;rw[a];rfl) (by unfold arK;rw[a,show(t.kids.length != 0)=false from by rw[bne_eq_false_iff_eq];omega];rfl))))
theorem qDV(t:T)(c:size t<=1000000000):Ev (λ m _=>qcj m t) (ofP t):=by
 refine waB ?_;simp only[qAm,qi1,qk];unfold ofP;refine wau (qdi t c) (waz (λ h=>?_) λ h=>?_)
 ·rw[bnt,qg]at h;rw[if_pos h];exact wav _
 ·rw[bnf,qj]at h;have d:=Q3 h;rw[if_neg (by omega)];refine wau (qGn t [] 1 (by decide) J9.nil (by show 0+_<=_;omega) (by show 0+size t*1<=_;omega)) (waz (λ a=>?_) λ a=>?_)
  ·rw[bnt]at a;have a:arT t=false:=a;rw[if_pos a];exact wav _
  ·rw[bnf]at a;have a:arT t=true:=a;rw[if_neg (by rw[a];decide)];have e:(ql3 t [] 1).2.1=jF t [] 1:=by unfold ql3;rw[a];rfl
   rw[e];refine waz (λ b=>?_) λ b=>?_
   ·rw[qr]at b;rw[if_pos (by omega)];exact wav _
   ·rw[qm]at b;rw[if_neg (by omega)];exact wav _
def qeC(l:List Pw)(i:Nat):Option T:=if i=0 then none else(l[i-1]?).map (·.1)
theorem qkE{l:List Pw}{i:Nat}{p:Pw}(h:l[i]?=some p):qeC l (i+1)=some p.1:=by
 unfold qeC;rw[if_neg (by omega),xV,h];rfl
theorem qr1(l:List Pw)(E:szP l<=1000000000):Ev (λ m _=>qa6 m l) (JK l):=by
 have F:=qcZ l;refine waB ?_;simp only[quR,qcG];unfold JK;refine waz (λ h=>?_) λ h=>?_
 ·rw[qr]at h;rw[if_pos (by omega)];exact wav _
 rw[qm]at h;rw[if_neg (by omega)]
 have s:=qp (P := λ i=>Ev (λ m k=>j7 m k l l l.length i) (pvL (qeC l i) (l.drop i))) l (by omega)
  (λ z=>by
   refine waC ?_;simp only[qkw,qcR];refine wax z (waA ?_);rw[wU];rfl)
  (λ i x u D z C B A=>by
   refine waC ?_;simp only[qkw,qcR,qk];have H:=qfP (wa u);rw[qkE u]at A;rw[D,pvL];have c:=qDM (qeC l i) x
   have b:∀ e:Int,pvK (qeC l i) x=e->e≠0->Ev (λ _ _=>some e) (thn (pvK (qeC l i) x) (pvL (some x.1) (l.drop (i+1)))) := λ e y r=>by
    rw[y];exact waA (by unfold thn;rw[if_neg r])
   have d:pvK (qeC l i) x=0->Ev (λ m k=>j7 m k l l l.length ((i+1:Nat):Int)) (thn (pvK (qeC l i) x) (pvL (some x.1) (l.drop (i+1)))) := λ y=>by
    rw[y];exact A.res (by unfold thn;rw[if_pos rfl])
   refine waw z (way C (wau (qdi x.1 (by omega)) (waz (λ p=>?_) λ p=>?_)))
   ·rw[bnt,qg]at p;exact b _ (by rw[c,if_pos p]) p
   rw[bnf,qj]at p;rw[if_neg (by omega)]at c;refine wau (qES x.1) (waz (λ o=>?_) λ o=>?_)
   ·exact b 1 (by rw[c,if_pos o]) (by decide)
   rw[if_neg (by rw[o];decide)]at c;refine waz (λ t=>?_) λ t=>?_
   ·rw[qj]at t;exact b 7 (by rw[c,if_pos (by omega)]) (by decide)
   rw[qg]at t;refine waz (λ n=>?_) λ n=>?_
   ·rw[qr]at n;exact b 7 (by rw[c,if_pos (by omega)]) (by decide)
   rw[qm]at n;refine waz (λ g=>?_) λ g=>?_
   ·rw[qr]at g;exact b 7 (by rw[c,if_pos (by omega)]) (by decide)
   rw[qm]at g;rw[if_neg (by omega)]at c;rw[B];refine waz (λ r=>?_) λ r=>?_
   ·rw[qr]at r;obtain⟨j,rfl⟩:∃ j,i=j+1:=⟨i-1,by omega⟩
    have w:j<l.length:=by have:=(List.getElem?_eq_some_iff.1 u).1;omega
    obtain⟨q,v⟩:∃ q,l[j]?=some q:=⟨_,List.getElem?_eq_getElem w⟩
    have G:=qfP (wa v);rw[qkE v]at c b d |-
    simp only at c;refine way (a:=q) (by rw[show zp ((j+1:Nat):Int) 1=((j:Nat):Int)from by unfold zp;omega,jS (by omega),zb,v]) (wau (qd6 q.1 (by omega) x.1 (by omega)) (waz (λ f=>?_) λ f=>?_))
    ·rw[yT]at f;exact b 5 (by rw[c,if_pos f]) (by decide)
    ·rw[yo]at f;exact d (by rw[c,if_neg (by omega)])
   ·rw[qm]at r;have:i=0:=by omega
    subst this;exact d (by rw[c];rfl))
 refine waD (L := λ m k=>j7 m k l l l.length 0) ?_;exact s 0 (we _)
end Go.AmZ
namespace Go.AmZ
open Go Go.GxZ
theorem zH{α : Type}{l:List α}{i:Nat}{x : α}(h:l[i]?=some x):l.take (i+1)=l.take i++[x]:=by rw[kw,h];rfl
theorem qtI(a b:List Pw):yl (a++b)=yl a++yl b:=by unfold yl;rw[List.flatMap_append]
theorem quV(a b:List Pw):yr (a++b)=yr a++yr b:=by unfold yr;rw[List.flatMap_append]
theorem quD(p:Pw):yl [p]=List.replicate p.2.toNat p.1:=by unfold yl;simp
theorem quN(p:Pw):yr [p]=List.replicate (-p.2).toNat (apT JD [p.1]):=by unfold yr;simp
theorem qFj(n:Nat)(x:T):szL (List.replicate n x)=n*size x:=by
 induction n with
 | zero=>simp[szL]
 | succ n a=>rw[List.replicate_succ,qS,a,wN];omega
theorem qDD(t:T):size (apT JD [t])=1+size t:=by rw[qM];show 1+(size t+0)=_;omega
theorem qp2{P:Nat->Prop}(N:Int)(g:N<=1000000)(b:P N.toNat)(a:∀ j:Nat,(j:Int)<N->iw .i64 (qe (j:Int) 1)=((j+1:Nat):Int)->P (j+1)->P j):∀ j:Nat,j<=N.toNat->P j:=by
 intro j e;obtain⟨d,f⟩:∃ d,N.toNat=j+d:=⟨N.toNat-j,by omega⟩
 induction d generalizing j with
 | zero =>
   have:j=N.toNat:=by omega
   subst this;exact b
 | succ d c =>
   refine a j (by omega) ?_ (c (j+1) (by omega) (by omega));unfold qe;rw[jS (by omega)];omega
theorem qMF{l:List Pw}{p:Pw}(a:p∈l)(h:8<p.2):8<(yl l++yr l).length:=by
 have:(List.replicate p.2.toNat p.1).length<=(yl l).length:=wD (ve (kO (f := λ p:Pw=>List.replicate p.2.toNat p.1) a)).length_le (by unfold yl;rw[wab];exact wb _);rw[kH]at this;rw[wc];omega
theorem qNq{l:List Pw}{p:Pw}(a:p∈l)(h:p.2 < -8):8<(yl l++yr l).length:=by
 have:(List.replicate (-p.2).toNat (apT JD [p.1])).length<=(yr l).length:=wD (ve (kO (f := λ p:Pw=>List.replicate (-p.2).toNat (apT JD [p.1])) a)).length_le (by unfold yr;rw[wab];exact wb _);rw[kH]at this;rw[wc];omega
theorem qFi(o:List T):size (qah o)<=1+szL o:=by
 unfold qah;split
 ·rw[qM];show 1+0<=_;omega
 ·split
  ·rename_i _ a
   have:o.getD 0 zT∈o:=by
    cases o with
    | nil=>cases a
    | cons x r=>exact wh ..
   have:=qcY this;omega
  ·rw[qM];exact wb _
theorem qq0{l:List Pw}(a:∀ p∈l,size p.1<=400):∀(ks:List Pw),(∀ p∈ks,p∈l/\-8<=p.2/\p.2<=8)->(yl ks).length<=8*ks.length/\(yr ks).length<=8*ks.length/\szL (yl ks)<=3200*ks.length/\szL (yr ks)<=3208*ks.length
 | [],_=>⟨wb _,wb _,wb _,wb _⟩
 | p::ks,h=>by
   obtain⟨m,k,j,i⟩:=qq0 a ks λ q b=>h q (wg _ b);obtain⟨d,o,n⟩:=h p (wh ..);have c:=a p d;have e1:yl (p::ks)=List.replicate p.2.toNat p.1++yl ks:=by rw[show p::ks=[p]++ks from rfl,qtI,quD]
   have e:yr (p::ks)=List.replicate (-p.2).toNat (apT JD [p.1])++yr ks:=by rw[show p::ks=[p]++ks from rfl,quV,quN]
   have g:p.2.toNat*size p.1<=8*400:=vQ (by omega) c;have f:(-p.2).toNat*(1+size p.1)<=8*401:=vQ (by omega) (by omega);rw[e1,e,qiz,qiz,qFj,qFj,qDD];simp only[wc,kH,wv];refine⟨by omega,by omega,by omega,by omega⟩
def qnW(o:List T):T × Int:=if 8<o.length then(zT,3)else if qL (qah o)≠0 then(zT,qL (qah o))else(qah o,0)
theorem qq6{l:List Pw}(h:JK l=0):qbB l=qnW (yl l++yr l):=by
 unfold qbB qnW;rw[if_neg (by omega)]
theorem qC4(l:List Pw)(Q:szP l<=1000000000):Ev (λ m _=>Ju m l) (qbB l):=by
 refine waB ?_;simp only[qvN,qds];refine wau (qr1 l Q) (waz (λ h=>?_) λ h=>?_)
 ·rw[bnt,qg]at h;unfold qbB;rw[if_pos h];exact wav _
 rw[bnf,qj]at h;obtain⟨_,H,Y,X⟩:=qcd h;have c:∀ p∈l,size p.1<=400 := λ p A=>Q3 (X p A).1;rw[qq6 h]
 have D:=qp (P := λ i=>(∀ p∈l.take i,p∈l/\-8<=p.2/\p.2<=8)->Ev (λ m k=>(qz m k).1 l l.length i 0 [] 0 [] (yl (l.take i)) (yr (l.take i))) (qnW (yl l++yr l))) l (by omega)
  (λ F t=>by
   refine waC ?_;simp only[qmh,qdJ,qk];rw[wC]at t |-
   obtain⟨b1,b2,b3,Z⟩:=qq0 c l t;refine wax F (wau (qwE (yl l) (yr l) (by omega)) ?_);have ho:szL (yl l++yr l)<=10000000:=by rw[qiz];omega
   generalize yl l++yr l=o at *;have S:=jT o;have R:=qFi o;unfold qnW;refine waz (λ b=>?_) λ b=>?_
   ·rw[qr]at b;rw[if_pos (by omega)];exact wav _
   rw[qm]at b;rw[if_neg (by omega)]
   have f:∀ u:T,u=qah o->Ev (λ m _=>qa (yI m u) λ v=>cond (qd (ieq v 0)) (some (T.mk 0 [] 0 [],v)) (some (u,0))) (if qL (qah o)≠0 then(zT,qL (qah o))else(qah o,0)):=by
    intro u N;subst N;refine wau (qdi _ (by omega)) (waz (λ h=>?_) λ h=>?_)
    ·rw[bnt,qg]at h;rw[if_pos h];exact wav _
    ·rw[bnf,qj]at h;rw[if_neg (by omega)];exact wav _
   have y:∀(n:List UInt8) (x:List T),Ev (λ m _=>qeR m n x) (apT n x) := λ n x=>waB (wav _);refine wau (y [109,117,108] o) (waz (λ G=>?_) λ G=>?_)
   ·rw[qj]at G;exact wau (y [111,110,101] []) (f _ (by unfold qah;rw[if_pos (by omega)];rfl))
   ·rw[qg]at G;refine waz (λ C=>?_) λ C=>?_
    ·rw[qj]at C;refine way (a:=o.getD 0 zT) ?_ (f _ (by unfold qah;rw[if_neg (by omega),if_pos (by omega)]));rw[qag,List.getD_eq_getElem?_getD];cases o with
     | nil=>simp at C
     | cons x r=>rfl
    ·rw[qg]at C;exact f _ (by unfold qah;rw[if_neg (by omega),if_neg (by omega)];rfl))
  (λ i p z hd F W V B t=>by
   refine waC ?_;simp only[qmh,qdJ];have s:=wa z;have hn:=Y p s;have hz:=c p s;have U:=(List.getElem?_eq_some_iff.1 z).1;refine waw F (way W (waz (λ b=>?_) λ b=>?_))
   ·rw[qr]at b;unfold qnW;rw[if_pos (qMF s b)];exact wav _
   rw[qm]at b;refine waz (λ w=>?_) λ w=>?_
   ·rw[qr]at w;unfold qnW;rw[if_pos (qNq s w)];exact wav _
   rw[qm]at w;obtain⟨b1,b2,b3,Z⟩:=qq0 c _ t;have O:(l.take i).length<=200:=by rw[wm];omega
   have B:=B λ q g=>by
    rw[zH z]at g;rcases wx.1 g with g | g
    ·exact t q g
    ·rw[show q=p from by simpa using g];exact⟨s,w,b⟩
   rw[zH z,qtI,quV,quD,quN]at B;generalize yl (l.take i)=I at *;generalize yr (l.take i)=J at *
   have K:=qp2 (P := λ j=>Ev (λ m k=>(qz m k).2.2 l l.length i (-p.2) j 0 [] 0 p.1.kind p.1.name p.1.sort p.1.kids p.2 [] (I++List.replicate p.2.toNat p.1) (J++List.replicate j (apT JD [p.1]))) (qnW (yl l++yr l))) (-p.2) (by omega)
    (by
     refine waC ?_;simp only[qlz,qdr];refine wax (qm.2 (by omega)) ?_;rw[V];exact B)
    (λ j E d e=>by
     refine waC ?_;simp only[qlz,qdr,qk];rw[show T.mk p.1.kind p.1.name p.1.sort p.1.kids=p.1 from qk p.1,d];refine waw (qr.2 E) (wau (qmY p.1 (by omega)) (wau (a:=apT JD [p.1]) (waB (wav _)) (waw (qE (by rw[wc,kH];omega) (by omega)) ?_)));refine e.congr λ m k=>?_;rw[vj,wi])
   have M:=qp2 (P := λ j=>Ev (λ m k=>(qz m k).2.1 l l.length i p.2 j 0 [] 0 p.1.kind p.1.name p.1.sort p.1.kids p.2 [] (I++List.replicate j p.1) J) (qnW (yl l++yr l))) p.2 (by omega)
    (by
     refine waC ?_;simp only[ql8,qdk];refine wax (qm.2 (by omega)) ?_;rw[show iw .i64 (zp 0 p.2)=-p.2 from by unfold zp;rw[jS (by omega)];omega];have:=K 0 (we _);rw[vq,wA]at this;exact this)
    (λ j E d e=>by
     refine waC ?_;simp only[ql8,qdk,qk];rw[show T.mk p.1.kind p.1.name p.1.sort p.1.kids=p.1 from qk p.1,d];refine waw (qr.2 E) (wau (qmY p.1 (by omega)) (waw (qE (by rw[wc,kH];omega) (by omega)) ?_));refine e.congr λ m k=>?_;rw[vj,wi])
   have:=M 0 (we _);rw[vq,wA]at this;exact this)
 refine waD (L := λ m k=>(qz m k).1 l l.length 0 0 [] 0 [] [] []) ?_;exact(D 0 (we _)) (λ p A=>by rw[xE]at A;cases A)
theorem qNE(l:List Pw)(g:szP l<=100000000):Ev (λ m _=>qef m l) ((),l,()):=by
 have h:=qcZ l;refine waB ?_;simp only[qtb,qcf]
 have a:=qp (P := λ i=>Ev (λ m k=>Qk m k l l.length i (l.take i)) ((),l,())) l (by omega)
  (λ b=>by
   refine waC ?_;simp only[qjH,qb4];refine wax b ?_;rw[wC];exact wav _)
  (λ i p c j b e d f=>by
   refine waC ?_;simp only[qjH,qb4,qk];have o:=qfP (wa c);have n:(l.take i).length<=l.length:=by rw[wm];omega
   refine waw b (way e (wau (qmY p.1 (by omega)) (waw (qE (by omega) (by omega)) ?_)));rw[d];refine f.congr λ m k=>?_;rw[zH c])
 refine waD (L := λ m k=>Qk m k l l.length 0 []) ?_;exact a 0 (we _)
theorem qzS(p:Pw)(l:List Pw):qnV (p::l)=((decide (p.2 < -1000)||decide (1000<p.2))||qnV l):=rfl
theorem qNp(l:List Pw)(r:l.length<=1000000000):∃ v,Ev (λ m _=>zU m l) v/\ile 0 v=qnV l:=by
 have b:=qp (P := λ i=>∃ v,Ev (λ m k=>qB m k l l.length i) v/\ile 0 v=qnV (l.drop i)) l (by omega)
  (λ a=>by
   refine⟨-1,waC ?_,by rw[wU];rfl⟩;simp only[yA,qZ];exact wax a (wav _))
  (λ i p q n a f j o=>by
   obtain⟨v,c,d⟩:=o;rw[n,qzS]
   have e:Ev (λ m _=>qcK m (p.1,p.2)) (decide (p.2 < -1000)||decide (1000<p.2)):=by
    refine waB ?_;simp only[qqM,qdO];refine waz (λ h=>?_) λ h=>?_
    ·rw[qr]at h;exact waA (by rw[decide_eq_true h];rfl)
    ·rw[qm]at h;exact waA (by rw[decide_eq_false (show ¬ p.2 < -1000 by omega)];rfl)
   cases g:decide (p.2 < -1000)||decide (1000<p.2)with
   | true =>
     refine⟨i,waC ?_,by rw[xA,yT];omega⟩;simp only[yA,qZ,qk];exact waw a (way f (wau e (waw g (wav _))))
   | false =>
     refine⟨v,waC ?_,by rw[xS];exact d⟩;simp only[yA,qZ,qk];refine waw a (way f (wau e (wax g ?_)));rw[j];exact c)
 obtain⟨v,c,d⟩:=b 0 (we _);refine⟨v,waB ?_,by rw[d,wO]⟩;simp only[qb1,zF];exact waD (L := λ m k=>qB m k l l.length 0) c
def qqo(l:List Pw):List Pw × Int:=if qnV l then([],7)else if 200<l.length then([],3)else(l,0)
theorem qMT(l:List Pw)(c:l.length<=1000000000):Ev (λ m _=>qeg m l) (qqo l):=by
 obtain⟨v,b,d⟩:=qNp l c;refine waB ?_;simp only[qs1,qeU]
 have e:Ev (λ m _=>zC m l) (qnV l):=by
  refine waB ?_;simp only[qbe,yk];exact wau b (waA d)
 unfold qqo;refine wau e (waz (λ h=>?_) λ h=>?_)
 ·rw[if_pos h];exact wav _
 ·rw[if_neg (by rw[h];decide)];refine waz (λ a=>?_) λ a=>?_
  ·rw[qr]at a;rw[if_pos (by omega)];exact wav _
  ·rw[qm]at a;rw[if_neg (by omega)];exact wav _
theorem qIf(S:Nat):∀ l:List Pw,(∀ p∈l,size p.1<=S)->szP l<=l.length*S
 | [],_=>by simp[szP]
 | p::l,h=>by
   have c:=qIf S l λ q a=>h q (wg _ a);have b:=h p (wh ..);rw[qbh,wv,wN];omega
theorem qvR(a b:List Pw):qmp a b=if JK a≠0 then([],JK a)else if JK b≠0 then([],JK b)else qqo (Jb a b):=rfl
theorem qhJ{a b:List Pw}(f:JK a=0)(e:JK b=0)(j:Nat) :
  J9 (Jb a (b.take j))/\(Jb a (b.take j)).length<=400/\szP (Jb a (b.take j))<=160000/\Q7 (Jb a (b.take j))<=400000:=by
 obtain⟨s,k,m,i⟩:=qcd f;obtain⟨r,v,l,h⟩:=qcd e;have d:∀ p∈b.take j,p∈b := λ p c=>wY c;obtain⟨A,g,z,q⟩:=qHz f e 400 (λ p c=>Q3 (i p c).1) (λ p c=>Q3 (h p c).1) j;have o:=qIf 400 _ q;obtain⟨y,_⟩:=quj (b.take j) a;have x:=qo4 1000 a m;have w:=qo4 1000 (b.take j) λ p c=>l p (d p c);have n:(b.take j).length<=200:=by rw[wm];omega
 refine⟨qrD _ _ s λ p c=>r.2 p (d p c),g,wD o (wn 400 g),?_⟩;have u:a.length*1000<=200*1000:=wn _ k;have t:(b.take j).length*1000<=200*1000:=wn _ n;omega
theorem qMS(a b:List Pw)(s:szP a<=100000000)(y:szP b<=100000000):Ev (λ m _=>qhq m a b) (qmp a b):=by
 have w:=qcZ b;refine waB ?_;simp only[qxN,qeo];rw[qvR];refine wau (qr1 a (by omega)) (waz (λ h=>?_) λ h=>?_)
 ·rw[bnt,qg]at h;rw[if_pos h];exact wav _
 rw[bnf,qj]at h;rw[if_neg (by omega)];refine wau (qr1 b (by omega)) (waz (λ c=>?_) λ c=>?_)
 ·rw[bnt,qg]at c;rw[if_pos c];exact wav _
 rw[bnf,qj]at c;rw[if_neg (by omega)];refine wau (qNE a s) ?_
 have d:=qp (P := λ i=>Ev (λ m k=>JY m k b b.length i (Jb a (b.take i))) (qqo (Jb a b))) b (by omega)
  (λ e=>by
   refine waC ?_;simp only[qng,qeE];rw[wC];obtain⟨_,j,_,_⟩:=qhJ h c b.length;rw[wC]at j;exact wax e (wau (qMT _ (by omega)) (wav _)))
  (λ i p f x e r q t=>by
   refine waC ?_;simp only[qng,qeE,qk];have g:=wa f;obtain⟨u,j,A,z⟩:=qhJ h c i;obtain⟨_,_,o,l⟩:=qcd c;have v:=Q3 (l p g).1;have n:=o p g;refine waw e (way r (wau (qwN u.1 p.1 p.2 (by omega) (by omega) (by omega)) ?_));rw[q];refine t.congr λ m k=>?_;rw[zH f,qzP])
 refine waD (L := λ m k=>JY m k b b.length 0 a) ?_;exact d 0 (we _)
end Go.AmZ
namespace Go.AmZ
open Go Go.GxZ
theorem qB0(t:T):Ev (λ m _=>qbW m t) (qdy t):=by
 refine waB ?_;simp only[qvF,qgQ];unfold qdy;by_cases a:t.kind=3
 ·refine waw (qj.2 a) (waz (λ h=>?_) λ h=>(waz (λ b=>?_) λ b=>?_))
  ·rw[yV]at h;exact waA (by rw[a,h];rfl)
  ·rw[yV]at b;exact waA (by rw[a,b];rfl)
  ·rw[jR]at h b
   exact waA (by
    have d:(t.name==qfb)=false:=by rw[beq_eq_false_iff_ne];exact h
    have c:(t.name==JD)=false:=by rw[beq_eq_false_iff_ne];exact b
    rw[a,d,c];rfl)
 ·exact wax (qg.2 a) (waA (by have:(t.kind==3)=false:=by rw[beq_eq_false_iff_ne];exact a
                              rw[this];rfl))
theorem qIu(t:T):size t<=1000000000->Ev (λ m _=>js m t) (arT t):=by
 induction t using T.ind with
 | h t o =>
   intro v;have w:=yB t;refine waB ?_;simp only[qAh,qfy,qk];refine wau (qB0 t) (waz (λ h=>?_) λ h=>?_)
   ·rw[bnt]at h;exact waA (by rw[qv6,h];rfl)
   rw[bnf]at h;obtain⟨y,d⟩:=qsU.1 h;have g:arT t=(arK t&&(t.kids.map arT).all id):=by rw[qv6,h];rfl
   have c:arK t=true->Ev (λ m _=>Jv m (js m) m t.kids.length 0 t.kind t.name t.sort t.kids) (arT t):=by
    intro b;rw[g,b,ka]
    have j:=qp (P := λ i=>Ev (λ m k=>Jv m (js m) k t.kids.length i t.kind t.name t.sort t.kids) (((t.kids.drop i).map arT).all id)) t.kids (by omega)
     (λ l=>by
      refine waC ?_;simp only[qoz,qfm];refine wax l (waA ?_);rw[wU];rfl)
     (λ i x p s l r q u=>by
      refine waC ?_;simp only[qoz,qfm,qk];have n:=wa p;have z:=jM t x n;rw[s,wo,kC];refine waw l (way r (wau (o x n (by omega)) (waz (λ f=>?_) λ f=>?_)))
      ·rw[bnt]at f;rw[f];exact wav _
      ·rw[bnf]at f;rw[f,q];exact u)
    refine waD (L := λ m k=>Jv m (js m) k t.kids.length 0 t.kind t.name t.sort t.kids) ?_;exact(j 0 (we _)).res (by rw[wO])
   have e:arK t=false->Ev (λ _ _=>some false) (arT t) := λ b=>waA (by rw[g,b];rfl);rcases d with a | a | a
   ·refine waw (by rw[a];rfl) (waz (λ b=>?_) λ b=>?_)
    ·rw[qr]at b;exact e (by unfold arK;rw[a,decide_eq_true (show t.kids.length<2 by omega)];rfl)
    ·rw[qm]at b;exact wax (by rw[a];rfl) (wax (by rw[a];rfl) (c (by unfold arK;rw[a,decide_eq_false (show ¬ t.kids.length<2 by omega)];rfl)))
   ·refine wax (by rw[a];rfl) (waw (by rw[a];rfl) (waz (λ b=>?_) λ b=>?_))
    ·rw[bnt,qg]at b;exact e (by unfold arK;rw[a,show(t.kids.length != 1)=true from by rw[bne_iff_ne];omega];rfl)
    ·rw[bnf,qj]at b;exact wax (by rw[a];rfl) (c (by unfold arK;rw[a,show(t.kids.length != 1)=false from by rw[bne_eq_false_iff_eq];omega];rfl))
   ·refine wax (by rw[a];rfl) (wax (by rw[a];rfl) (waw (by rw[a];rfl) (waz (λ b=>?_) λ b=>?_)))
    ·rw[bnt,qg]at b;exact e (by unfold arK;rw[a,show(t.kids.length != 0)=true from by rw[bne_iff_ne];omega];rfl)
    ·rw[bnf,qj]at b;exact c (by unfold arK;rw[a,show(t.kids.length != 0)=false from by rw[bne_eq_false_iff_eq];omega];rfl)
theorem qyO(t:T)(n:Int):∀(l:List Pw) (s:List Pw × Bool),(l.foldl (jc t n) s).1.length<=s.1.length+2*l.length
 | [],s=>by simp
 | x::l,s=>by
   have h:=qyO t n l (jc t n s x)
   have:(jc t n s x).1.length<=s.1.length+2:=by
    unfold jc;simp only[wc];have a:(if s.2=false/\qt t x.1<0 then s.1++[(t,n)]else s.1).length<=s.1.length+1:=by split<;>simp
    have b:(if(if qt t x.1=0 then x.2+n else x.2)=0 then([]:List Pw)else[(x.1,if qt t x.1=0 then x.2+n else x.2)]).length<=1:=by generalize (if qt t x.1=0 then x.2+n else x.2)=z;split<;>simp
    omega
   rw[kg,wv];omega
theorem qFW{l:List Pw}(y:J9 l)(t:T)(n:Int)(E:szP l+size t<=1000000000)(F:Q7 l+n.natAbs<=1000000000000):Ev (λ m _=>qjt m l t n) ((),yH l t n,()):=by
 have G:=qcZ l;refine waB ?_;simp only[qEn,qh6]
 have j:∀ i,((l.take i).foldl (jc t n) ([],false)).1.length<=2*l.length := λ i=>by
  have:=qyO t n (l.take i) ([],false);have D:(l.take i).length<=l.length:=by rw[wm];omega
  simp only[w7]at this;omega
 have w:=qp (P := λ i=>Ev (λ m k=>J4 m k n ((l.take i).foldl (jc t n) ([],false)).2 i t.kind t.name t.sort t.kids l ((l.take i).foldl (jc t n) ([],false)).1) ((),yH l t n,())) l (by omega)
  (λ z=>by
   refine waC ?_;simp only[qsc,qhT];refine wax z ?_;have:=j l.length;have u:=qLn y.2 y.1 t n;rw[wC]at this |-
   unfold qHd at u;refine waz (λ h=>?_) λ h=>?_
   ·rw[bnt]at h;rw[if_neg (by rw[h];decide)]at u;rw[show T.mk t.kind t.name t.sort t.kids=t from qk t,u];exact waw (qE (by omega) (by omega)) (wav _)
   ·rw[bnf]at h;rw[if_pos h]at u;rw[u];exact wav _)
  (λ i p A H z f B v=>by
   refine waC ?_;simp only[qsc,qhT,qk];have x:=wa A;have J:=qfP x;have D:=j i;have I:=qCi l p x;have d:=y.2 p x;rw[zH A,xe]at v;generalize (l.take i).foldl (jc t n) ([],false)=s at *
   have r:∀(b:Bool) (o:List Pw),jc t n s p=(o,b)->Ev (λ m k=>J4 m k n b ((i+1:Nat):Int) t.kind t.name t.sort t.kids l o) ((),yH l t n,()) := λ b o e=>by
    have v:Ev (λ m k=>J4 m k n (jc t n s p).2 ((i+1:Nat):Int) t.kind t.name t.sort t.kids l (jc t n s p).1) ((),yH l t n,()):=v;rw[e]at v;exact v
   have e1:iw .i64 (qe p.2 n)=p.2+n:=by unfold qe;exact jS (by omega)
   rw[show T.mk t.kind t.name t.sort t.kids=t from qk t,B];have q:qd (ieq p.2 0)=true:=bnt.2 (qg.2 d);refine waw z (way f (wau (qjo t (by omega) p.1 (by omega)) (waz (λ h=>?_) λ h=>?_)))
   ·rw[bnt]at h;refine waz (λ g=>?_) λ g=>?_
    ·rw[qr]at g;refine waw (qE (by omega) (by omega)) (way f (wax (qg.2 (by omega)) (waw q (waw (qE (by rw[wc];simp only[wv,w7];omega) (by omega)) (r _ _ ?_)))));unfold jc;rw[if_pos ⟨h,g⟩,if_neg (show ¬ qt t p.1=0 by omega),if_neg d,decide_eq_true (show qt t p.1<=0 by omega),xz]
    ·rw[qm]at g;refine way f (waz (λ a=>?_) λ a=>?_)
     ·rw[qj]at a;refine waz (λ c=>?_) λ c=>?_
      ·rw[bnt,qg,e1]at c;refine waw (qE (by omega) (by omega)) (r _ _ ?_);rw[e1];unfold jc;rw[if_neg (by omega),if_pos a,if_neg c,decide_eq_true (show qt t p.1<=0 by omega),xz]
      ·rw[bnf,qj,e1]at c;refine r _ _ ?_;unfold jc;rw[if_neg (by omega),if_pos a,if_pos c,decide_eq_true (show qt t p.1<=0 by omega),xz,wA]
     ·rw[qg]at a;refine waw q (waw (qE (by omega) (by omega)) (r _ _ ?_));unfold jc;rw[if_neg (by omega),if_neg a,if_neg d,decide_eq_false (show ¬ qt t p.1<=0 by omega),Bool.or_false]
   ·rw[bnf]at h;refine way f (waz (λ a=>?_) λ a=>?_)
    ·rw[qj]at a;refine waz (λ c=>?_) λ c=>?_
     ·rw[bnt,qg,e1]at c;refine waw (qE (by omega) (by omega)) (r _ _ ?_);rw[e1];unfold jc;rw[if_neg (by omega),if_pos a,if_neg c,decide_eq_true (show qt t p.1<=0 by omega),xz]
     ·rw[bnf,qj,e1]at c;refine r _ _ ?_;unfold jc;rw[if_neg (by omega),if_pos a,if_pos c,decide_eq_true (show qt t p.1<=0 by omega),xz,wA]
    ·rw[qg]at a;refine waw q (waw (qE (by omega) (by omega)) (r _ _ ?_));unfold jc;rw[if_neg (by rw[h];intro C;cases C.1),if_neg a,if_neg d,h,xA])
 refine waD (L := λ m k=>J4 m k n false 0 t.kind t.name t.sort t.kids l []) ?_;exact w 0 (we _)
theorem qEk(t:T):∀(l:List Pw) (n:Int),n≠0->J9 l->szP l+size t<=80000000->Q7 l+size t*n.natAbs<=100000000000->Ev (λ m _=>ym m l t n) ((),jF t l n,()):=by
 induction t using T.ind with
 | h t y =>
   intro l n z w E H;have F:=yB t;have D:=qM t;refine waB ?_;simp only[qwS,qdv,qk];have u:n.natAbs<=size t*n.natAbs:=vA _ (size_pos t);refine wau (qB0 t) (waz (λ h=>?_) λ h=>?_)
   ·rw[bnt]at h;refine wau (qFW w t n (by omega) (by omega)) (waA ?_);rw[qg7,h];rfl
   rw[bnf]at h;obtain⟨M,p⟩:=qsU.1 h
   have b:∀ a:Int,a≠0->a.natAbs=n.natAbs->qbA t n=a->Ev (λ m _=>Qn m (ym m) m a 0 t.kind t.name t.sort t.kids l) ((),jF t l n,()):=by
    intro a c s o;have f:jF t l n=qf4 t.kids a l t.kids.length:=by rw[qg7,h,if_pos rfl,o];unfold qf4;rw[wC]
    rw[f]
    have g:=qp (P := λ i=>Ev (λ m k=>Qn m (ym m) k a i t.kind t.name t.sort t.kids (qf4 t.kids a l i)) ((),qf4 t.kids a l t.kids.length,())) t.kids (by omega)
     (λ r=>by
      refine waC ?_;simp only[ql5,qdo];exact wax r (wav _))
     (λ i x j G r q A B=>by
      refine waC ?_;simp only[ql5,qdo,qk];have v:=wa j;have N:=jM t x v;obtain⟨C,R,Q,O⟩:=qpK a c (t.kids.take i) l w;have K:=Qz j;have J:szL t.kids+1=size t:=by unfold szL;omega
      have I:szL (t.kids.take i)*a.natAbs+size x*a.natAbs<=size t*n.natAbs:=by
       rw[<- wN,s];exact wn _ (by omega)
      refine waw r (way q (wau (y x v (qf4 t.kids a l i) a c C (by unfold qf4;omega) (by unfold qf4;omega)) ?_));rw[A];refine B.congr λ m k=>?_;rw[qzc j])
    refine waD (L := λ m k=>Qn m (ym m) k a 0 t.kind t.name t.sort t.kids l) ?_;exact g 0 (we _)
   have d:iw .i64 (zp 0 n)=-n:=by
    unfold zp;rw[jS (by omega)];omega
   refine waz (λ e=>?_) λ e=>?_
   ·rw[yV]at e;rw[d];exact b (-n) (by omega) (by omega) (by unfold qbA;rw[if_pos (show t.name=JD from e)])
   ·rw[jR]at e;exact b n z rfl (by unfold qbA;rw[if_neg (show ¬ t.name=JD from e)])
theorem qB2(t:T)(c:size t<=1000000000):Ev (λ m _=>qiA m t) (ofP t):=by
 refine waB ?_;simp only[qGd,qn1,qk];unfold ofP;refine wau (qdh t c) (waz (λ h=>?_) λ h=>?_)
 ·rw[bnt,qg]at h;rw[if_pos h];exact wav _
 ·rw[bnf,qj]at h;have d:=Q3 h;rw[if_neg (by omega)];refine wau (qIu t c) (waz (λ b=>?_) λ b=>?_)
  ·rw[bnt]at b;rw[if_pos b];exact wav _
  ·rw[bnf]at b;rw[if_neg (by rw[b];decide)];refine wau (qEk t [] 1 (by decide) J9.nil (by show 0+_<=_;omega) (by show 0+size t*1<=_;omega)) (waz (λ a=>?_) λ a=>?_)
   ·rw[qr]at a;have a:(200:Int)<((jF t [] 1).length:Int):=a;rw[if_pos (by omega)];exact wav _
   ·rw[qm]at a;have a:((jF t [] 1).length:Int)<=200:=a;rw[if_neg (by omega)];exact wav _
theorem quC(l:List Pw)(E:szP l<=1000000000):Ev (λ m _=>qd4 m l) (JK l):=by
 have F:=qcZ l;refine waB ?_;simp only[qAD,qfK];unfold JK;refine waz (λ h=>?_) λ h=>?_
 ·rw[qr]at h;rw[if_pos (by omega)];exact wav _
 rw[qm]at h;rw[if_neg (by omega)]
 have t:=qp (P := λ i=>Ev (λ m k=>Jx m k l i) (pvL (qeC l i) (l.drop i))) l (by omega)
  (λ A=>by
   refine waC ?_;simp only[qoC,qfI];refine wax A (waA ?_);rw[wU];rfl)
  (λ i x v D A p C B=>by
   refine waC ?_;simp only[qoC,qfI,qk];have H:=qfP (wa v);rw[qkE v]at B;rw[D,pvL];have c:=qDM (qeC l i) x
   have b:∀ e:Int,pvK (qeC l i) x=e->e≠0->Ev (λ _ _=>some e) (thn (pvK (qeC l i) x) (pvL (some x.1) (l.drop (i+1)))) := λ e z s=>by
    rw[z];exact waA (by unfold thn;rw[if_neg s])
   have d:pvK (qeC l i) x=0->Ev (λ m k=>Jx m k l ((i+1:Nat):Int)) (thn (pvK (qeC l i) x) (pvL (some x.1) (l.drop (i+1)))) := λ z=>by
    rw[z];exact B.res (by unfold thn;rw[if_pos rfl])
   refine waw A (way p (wau (qdh x.1 (by omega)) (waz (λ r=>?_) λ r=>?_)))
   ·rw[bnt,qg]at r;exact b _ (by rw[c,if_pos r]) r
   rw[bnf,qj]at r;rw[if_neg (by omega)]at c;refine way p (wau (qB0 x.1) (waz (λ o=>?_) λ o=>?_))
   ·exact b 1 (by rw[c,if_pos o]) (by decide)
   rw[if_neg (by rw[o];decide)]at c;refine way p (waz (λ u=>?_) λ u=>?_)
   ·rw[qj]at u;exact b 7 (by rw[c,if_pos (by omega)]) (by decide)
   rw[qg]at u;refine way p (waz (λ n=>?_) λ n=>?_)
   ·rw[qr]at n;exact b 7 (by rw[c,if_pos (by omega)]) (by decide)
   rw[qm]at n;refine way p (waz (λ g=>?_) λ g=>?_)
   ·rw[qr]at g;exact b 7 (by rw[c,if_pos (by omega)]) (by decide)
   rw[qm]at g;rw[if_neg (by omega)]at c;rw[C];refine waz (λ s=>?_) λ s=>?_
   ·rw[qr]at s;obtain⟨j,rfl⟩:∃ j,i=j+1:=⟨i-1,by omega⟩
    have y:j<l.length:=by have:=(List.getElem?_eq_some_iff.1 v).1;omega
    obtain⟨q,w⟩:∃ q,l[j]?=some q:=⟨_,List.getElem?_eq_getElem y⟩
    have G:=qfP (wa w);rw[qkE w]at c b d |-
    simp only at c;refine way (a:=q) (by rw[show zp ((j+1:Nat):Int) 1=((j:Nat):Int)from by unfold zp;omega,jS (by omega),zb,w]) (way p (wau (qjo q.1 (by omega) x.1 (by omega)) (waz (λ f=>?_) λ f=>?_)))
    ·rw[yT]at f;exact b 5 (by rw[c,if_pos f]) (by decide)
    ·rw[yo]at f;exact d (by rw[c,if_neg (by omega)])
   ·rw[qm]at s;have:i=0:=by omega
    subst this;exact d (by rw[c];rfl))
 refine waD (L := λ m k=>Jx m k l 0) ?_;exact t 0 (we _)
end Go.AmZ
namespace Go.AmZ
open Go Go.GxZ
theorem qv3(A:List T)(x:T)(h:(A.take 9).length<9):A.take 9++[x]=(A++[x]).take 9:=by
 rw[wm]at h;rw[kE (by omega),kE (by rw[wc];simp only[wv,w7];omega)]
theorem qvM(A B:List T)(h:¬ (A.take 9).length<9):A.take 9=(A++B).take 9:=by
 rw[wm]at h;rw[kG (by omega)]
theorem qL6(l:List Pw)(C:l.length<=1000)(u:∀ p∈l,p.2.natAbs<=1000):Ev (λ m _=>qfw m l) ((yl l++yr l).take 9):=by
 refine waB ?_;simp only[quO,qcN];have t:∀ A:List T,(A.take 9).length<=9 := λ A=>by rw[wm];omega
 have w:=qp (P := λ i=>Ev (λ m k=>(ql m k).2.2.1 l i ((yl l++yr (l.take i)).take 9)) ((yl l++yr l).take 9)) l (by omega)
  (λ g=>by
   refine waC ?_;simp only[qku,qcD];refine wax g ?_;rw[wC];exact wav _)
  (λ i p o z g e q n=>by
   refine waC ?_;simp only[qku,qcD];refine waw g ?_;have r:=u p (wa o);rw[zH o,quV,quN,<- wi]at n;generalize yl l++yr (l.take i)=A at *;have b:iw .i64 (zp 0 p.2)=-p.2:=by unfold zp;rw[jS (by omega)];omega
   have v:=qp2 (P := λ j=>Ev (λ m k=>(ql m k).2.2.2 l i j ((A++List.replicate j (apT JD [p.1])).take 9)) ((yl l++yr l).take 9)) (-p.2) (by omega)
    (by
     refine waC ?_;simp only[qko,qcH,qk];refine way e (wax (by rw[b,qm];omega) ?_);rw[q];exact n)
    (λ j s c a=>by
     refine waC ?_;simp only[qko,qcH,qk];rw[vj,<- wi]at a;have B:=t (A++List.replicate j (apT JD [p.1]));refine way e (waw (by rw[b,qr];exact s) (waz (λ h=>?_) λ h=>?_))
     ·rw[qr]at h;refine way e (wau (qfx [105,110,118] [p.1] (by simp)) (waw (qE (by omega) (by omega)) ?_));rw[c];refine a.congr λ m k=>?_;rw[<- qv3 _ _ (by omega)];rfl
     ·rw[qm]at h;rw[q];refine n.congr λ m k=>?_;obtain⟨d,f⟩:∃ d,(-p.2).toNat=j+d:=⟨(-p.2).toNat-j,by omega⟩
      rw[f,<- vJ,<- wi,<- qvM (A++List.replicate j (apT JD [p.1])) _ (by omega)])
   have:=v 0 (we _);rw[vq,wA]at this;exact this)
 have y:=qp (P := λ i=>Ev (λ m k=>(ql m k).1 l i ((yl (l.take i)).take 9)) ((yl l++yr l).take 9)) l (by omega)
  (λ g=>by
   refine waC ?_;simp only[qkp,qcI];refine wax g ?_;rw[wC];have:=w 0 (we _);rw[xE,show yr []=[]from rfl,wA]at this;exact this)
  (λ i p o z g e q n=>by
   refine waC ?_;simp only[qkp,qcI];refine waw g ?_;have r:=u p (wa o);rw[zH o,qtI,quD]at n;generalize yl (l.take i)=A at *
   have x:=qp2 (P := λ j=>Ev (λ m k=>(ql m k).2.1 l i j ((A++List.replicate j p.1).take 9)) ((yl l++yr l).take 9)) p.2 (by omega)
    (by
     refine waC ?_;simp only[qkt,qcL,qk];refine way e (wax (by rw[qm];omega) ?_);rw[q];exact n)
    (λ j s c a=>by
     refine waC ?_;simp only[qkt,qcL,qk];rw[vj,<- wi]at a;have B:=t (A++List.replicate j p.1);refine way e (waw (by rw[qr];exact s) (waz (λ h=>?_) λ h=>?_))
     ·rw[qr]at h;refine way e (waw (qE (by omega) (by omega)) ?_);rw[c];refine a.congr λ m k=>?_;rw[<- qv3 _ _ (by omega)]
     ·rw[qm]at h;rw[q];refine n.congr λ m k=>?_;obtain⟨d,f⟩:∃ d,p.2.toNat=j+d:=⟨p.2.toNat-j,by omega⟩
      rw[f,<- vJ,<- wi,<- qvM (A++List.replicate j p.1) _ (by omega)])
   have:=x 0 (we _);rw[vq,wA]at this;exact this)
 refine waD (L := λ m k=>(ql m k).1 l 0 []) ?_;exact y 0 (we _)
theorem qM2(S:Nat):∀ l:List Pw,(∀ p∈l,size p.1<=S)->(∀ x∈yl l,size x<=S)/\∀ x∈yr l,size x<=1+S:=by
 intro l h;refine⟨λ x a=>?_,λ x a=>?_⟩
 ·unfold yl at a;obtain⟨p,b,a⟩:=ke.1 a;rw[xj a];exact h p b
 ·unfold yr at a;obtain⟨p,b,a⟩:=ke.1 a;rw[xj a,qDD];have:=h p b;omega
theorem qIz(S:Nat):∀ l:List T,(∀ x∈l,size x<=S)->szL l<=l.length*S
 | [],_=>by simp[szL]
 | x::l,h=>by
   have c:=qIz S l λ q a=>h q (wg _ a);have b:=h x (wh ..);rw[qS,wv,wN];omega
theorem qCV(l:List Pw)(q:szP l<=1000000000):Ev (λ m _=>qdH m l) (qbB l):=by
 refine waB ?_;simp only[qC9,qjV,qk];refine wau (quC l q) (waz (λ h=>?_) λ h=>?_)
 ·rw[bnt,qg]at h;unfold qbB;rw[if_pos h];exact wav _
 rw[bnf,qj]at h;obtain⟨_,j,y,w⟩:=qcd h;have f:∀ p∈l,size p.1<=400 := λ p s=>Q3 (w p s).1;rw[qq6 h];obtain⟨n,k⟩:=qM2 400 l f
 have d:∀ x∈yl l++yr l,size x<=401 := λ x c=>by
  rcases wx.1 c with c | c
  ·have:=n x c;omega
  ·exact k x c
 refine wau (qL6 l (by omega) y) ?_;generalize yl l++yr l=A at *;unfold qnW;refine waz (λ g=>?_) λ g=>?_
 ·rw[qr,wm]at g;rw[if_pos (by omega)];exact wav _
 rw[qm,wm]at g;rw[if_neg (by omega),kE (by omega)];have z:=qIz 401 A d;have t:=qFi A;have B:A.length*401<=8*401:=wn _ (by omega)
 have b:∀ u:T,u=qah A->Ev (λ m _=>qa (jt m u) λ v=>cond (qd (ieq v 0)) (some (T.mk 0 [] 0 [],v)) (some (u,0))) (if qL (qah A)≠0 then(zT,qL (qah A))else(qah A,0)):=by
  intro u o;subst o;refine wau (qdh _ (by omega)) (waz (λ h=>?_) λ h=>?_)
  ·rw[bnt,qg]at h;rw[if_pos h];exact wav _
  ·rw[bnf,qj]at h;rw[if_neg (by omega)];exact wav _
 refine wau (qfx [109,117,108] A (by omega)) (waz (λ i=>?_) λ i=>?_)
 ·rw[qj]at i;refine wau (qfx [111,110,101] [] (by simp)) (wax (qg.2 (by omega)) (b _ (by unfold qah;rw[if_pos (by omega)];rfl)))
 ·rw[qg]at i;refine waz (λ e=>?_) λ e=>?_
  ·rw[qj]at e;refine way (a:=A.getD 0 zT) ?_ (b _ (by unfold qah;rw[if_neg (by omega),if_pos (by omega)]));rw[qag,List.getD_eq_getElem?_getD];cases A with
   | nil=>simp at e
   | cons x r=>rfl
  ·rw[qg]at e;exact b _ (by unfold qah;rw[if_neg (by omega),if_neg (by omega)];rfl)
theorem qI8(l:List Pw)(n:l.length<=1000000000):Ev (λ m _=>qgg m l) (if qnV l then 7 else if 200<l.length then 3 else 0):=by
 refine waB ?_;simp only[qwx,qdu]
 have b:=qp (P := λ i=>Ev (λ m k=>Jj m k l i) (if qnV (l.drop i)then(7:Int)else if 200<l.length then 3 else 0)) l (by omega)
  (λ c=>by
   refine waC ?_;simp only[qlF,qdM];rw[wU,if_neg (by decide)];refine wax c (waz (λ h=>?_) λ h=>?_)
   ·rw[qr]at h;rw[if_pos (by omega)];exact wav _
   ·rw[qm]at h;rw[if_neg (by omega)];exact wav _)
  (λ i p j f c d e g=>by
   refine waC ?_;simp only[qlF,qdM];rw[f,qzS];refine waw c (way d (waz (λ h=>?_) λ h=>?_))
   ·rw[qr]at h;rw[decide_eq_true h,xA,xA,if_pos rfl];exact wav _
   ·rw[qm]at h;rw[decide_eq_false (show ¬ p.2 < -1000 by omega),xS];refine way d (waz (λ a=>?_) λ a=>?_)
    ·rw[qr]at a;rw[decide_eq_true a,xA,if_pos rfl];exact wav _
    ·rw[qm]at a;rw[decide_eq_false (show ¬ 1000<p.2 by omega),xS,e];exact g)
 refine waD (L := λ m k=>Jj m k l 0) ?_;exact(b 0 (we _)).res (by rw[wO])
theorem qNe(a b:List Pw)(E:szP a<=100000000)(D:szP b<=100000000):Ev (λ m _=>qmZ m a b) (qmp a b):=by
 have B:=qcZ b;have v:=qcZ a;refine waB ?_;simp only[qEb,qih];rw[qvR];refine wau (quC a (by omega)) (waz (λ h=>?_) λ h=>?_)
 ·rw[bnt,qg]at h;rw[if_pos h];exact wav _
 rw[bnf,qj]at h;rw[if_neg (by omega)];refine wau (quC b (by omega)) (waz (λ e=>?_) λ e=>?_)
 ·rw[bnt,qg]at e;rw[if_pos e];exact wav _
 rw[bnf,qj]at e;rw[if_neg (by omega)]
 have g:=qp (P := λ i=>Ev (λ m k=>qa4 m k b i (Jb a (b.take i))) (qqo (Jb a b))) b (by omega)
  (λ j=>by
   refine waC ?_;simp only[qr3,qie];rw[wC];obtain⟨_,q,_,_⟩:=qhJ h e b.length;rw[wC]at q;refine wax j (wau (qI8 _ (by omega)) ?_);unfold qqo;by_cases f:qnV (Jb a b)=true
   ·rw[if_pos f,if_pos f];exact waw rfl (wav _)
   ·rw[if_neg f,if_neg f];by_cases d:200<(Jb a b).length
    ·rw[if_pos d,if_pos d];exact waw rfl (wav _)
    ·rw[if_neg d,if_neg d];exact wax rfl (wav _))
  (λ i p l C j o w y=>by
   refine waC ?_;simp only[qr3,qie,qk];have n:=wa l;obtain⟨z,q,G,F⟩:=qhJ h e i;obtain⟨_,_,u,s⟩:=qcd e;have A:=Q3 (s p n).1;have t:=u p n;refine waw j (way o (way o (wau (qFW z p.1 p.2 (by omega) (by omega)) ?_)));rw[w];refine y.congr λ m k=>?_;rw[zH l,qzP])
 refine waw (qE (by simp only[w7];omega) (by omega)) ?_;have c:Ev (λ m _=>qa4 m m b 0 a) (qqo (Jb a b)):=waD (L := λ m k=>qa4 m k b 0 a) (g 0 (we _));exact Ev.case (λ h=>by rw[h]at c |-;exact c) λ x r h=>by rw[h]at c |-;exact c
end Go.AmZ
namespace Go.AmZ
open Go Go.GxZ Go.Lib
theorem qne{t:T}(h:qbj t=0):qL t=0/\zj t=0:=by
 unfold qbj at h;exact qgK h
theorem qpo{t:T}(h:zj t=0){n:List UInt8}(i:isN t n=true){a b c:Int}(g:qD n=(a,b,c)):a<=(t.kids.length:Int)/\(t.kids.length:Int)<=b/\∀ k∈t.kids,zj k=0:=by
 obtain⟨d,rfl⟩:=yR.1 i;obtain⟨l,j⟩:=qa2 d h;obtain⟨_,f,e,_⟩:=qpQ d l;rw[g]at f e;exact⟨f,e,j⟩
end Go.AmZ
namespace Go.AmZ
open Go Go.GxZ
def Cl(P:T->Prop):Prop:=∀ t:T,t.kind=3->P t->∀ k∈t.kids,P k
theorem qm5:∀(n:Nat) (a b:List T),a.length+b.length<=n->∀ x∈zl a b,x∈a\/x∈b
 | _,[],b,_,x,h=>by rw[zl]at h;exact .inr h
 | _,z::a,[],_,x,h=>by rw[zl]at h;exact .inl h
 | 0,z::a,y::b,c,x,h=>by simp at c
 | n+1,z::a,y::b,c,x,h=>by
   simp only[wv]at c;rw[zl]at h;split at h
   ·rcases wy.1 h with rfl | h
    ·exact .inl (wh ..)
    ·rcases qm5 n a (y::b) (by simp;omega) x h with h | h
     ·exact .inl (wg _ h)
     ·exact .inr h
   ·split at h
    ·rcases wy.1 h with rfl | h
     ·exact .inr (wh ..)
     ·rcases qm5 n (z::a) b (by simp;omega) x h with h | h
      ·exact .inl h
      ·exact .inr (wg _ h)
    ·rcases qm5 n a b (by omega) x h with h | h
     ·exact .inl (wg _ h)
     ·exact .inr (wg _ h)
theorem qmn:∀(b:List (List T)) (a:List T),∀ x∈b.foldl zl a,x∈a\/∃ l∈b,x∈l
 | [],a,x,h => .inl h
 | l::b,a,x,h=>by
   rcases qmn b (zl a l) x h with h | ⟨m,c,h⟩
   ·rcases qm5 _ a l (wb _) x h with h | h
    ·exact .inl h
    ·exact .inr ⟨l,wh ..,h⟩
   ·exact .inr ⟨m,wg _ c,h⟩
theorem qLj{P:T->Prop}(g:Cl P)(t:T):P t->∀ x∈Qd t,P x:=by
 refine T.ind (P := λ t=>P t->∀ x∈Qd t,P x) ?_ t;intro t d b x a;rw[qlQ]at a;split at a
 ·cases a
 ·split at a
  ·rename_i e;rcases qmn _ _ x a with h | ⟨l,f,h⟩
   ·cases h
   ·obtain⟨k,c,rfl⟩:=ww.1 f;exact d k c (g t (yR.1 e).1 b k c) x h
  ·rw[wG.1 a];exact b
theorem qy9{P:T->Prop}(e:Cl P){l:List T}(h:∀ k∈l,P k):∀ x∈zW l,P x:=by
 intro x b;rcases qmn _ _ x b with a | ⟨m,c,a⟩
 ·cases a
 ·obtain⟨k,d,rfl⟩:=ww.1 c;exact qLj e k (h k d) x a
theorem qMU{P:T->Prop}{l:List Pw}{t:T}(n:Int)(a:P t)(c:∀ p∈l,P p.1):∀ p∈yH l t n,P p.1:=by
 intro p b;rcases qpH l t n p b with h | h
 ·rw[h];exact a
 ·exact c p h
theorem qNP{P:T->Prop}(f:Cl P)(t:T):P t->∀(l:List Pw) (n:Int),(∀ p∈l,P p.1)->∀ p∈jF t l n,P p.1:=by
 refine T.ind (P := λ t=>P t->∀(l:List Pw) (n:Int),(∀ p∈l,P p.1)->∀ p∈jF t l n,P p.1) ?_ t;intro t d b l n a;rw[qg7];split
 ·rename_i e;have g:=(qsU.1 e).1;exact qE1 t.kids (qbA t n) (λ l=>∀ p∈l,P p.1) (λ k c l a=>d k c (f t g b k c) l _ a) l a
 ·exact qMU n b a
theorem qjN{P:T->Prop}(c:Cl P){t:T}(b:P t):∀ p∈(ofP t).1,P p.1:=by
 intro p a;unfold ofP at a;split at a
 ·cases a
 ·split at a
  ·cases a
  ·split at a
   ·cases a
   ·exact qNP c t b [] 1 (λ _ h=>by cases h) p a
theorem qFf{P:T->Prop}{a b:List Pw}(g:∀ p∈a,P p.1)(f:∀ p∈b,P p.1):∀ p∈(qmp a b).1,P p.1:=by
 intro p c;unfold qmp at c;split at c
 ·cases c
 ·split at c
  ·cases c
  ·split at c
   ·cases c
   ·split at c
    ·cases c
    ·rcases qtW b a p c with⟨q,d,e⟩ | ⟨q,d,e⟩
     ·rw[<- e];exact g q d
     ·rw[<- e];exact f q d
theorem qDo{l:List Pw}{x:T}(h:x∈yl l):∃ p∈l,x=p.1:=by
 unfold yl at h;obtain⟨p,a,h⟩:=ke.1 h;exact⟨p,a,xj h⟩
theorem qDU{l:List Pw}{x:T}(h:x∈yr l):∃ p∈l,x=apT JD [p.1]:=by
 unfold yr at h;obtain⟨p,a,h⟩:=ke.1 h;exact⟨p,a,xj h⟩
theorem qal:Cl λ t=>zj t=0 := λ t a h=>(qa2 a h).2
theorem qrA:∀(l:List Int),(∀ y∈l,y=0)->l.foldl thn 0=0
 | [],_=>rfl
 | z::l,h=>by
   rw[QX,h z (wh ..)];exact qrA l λ y a=>h y (wg _ a)
theorem qjI{t:T}(h:qdc t=0)(c:∀ k∈t.kids,zj k=0):zj t=0:=by
 rw[qos];split
 ·rfl
 ·rw[h];refine qrA _ λ y b=>?_;obtain⟨k,a,rfl⟩:=ww.1 b;exact c k a
theorem qgV{n:List UInt8}{ks:List T}(b:(qD n).2.2≠0)(d:(qD n).1<=(ks.length:Int))(c:(ks.length:Int)<=(qD n).2.1)(a:qaM (apT n ks)=false):qdc (apT n ks)=0:=by
 unfold qdc;show(if(3:Int)≠3 then(0:Int)else if(qD n).2.2=0 then 10 else if(ks.length:Int)<(qD n).1\/(qD n).2.1<(ks.length:Int)then 6 else if qaM (apT n ks)then 10 else 0)=0;rw[if_neg (by decide),if_neg b,if_neg (by omega),a];rfl
theorem qk7{n:List UInt8}(c:n≠qim)(b:n≠nSk)(a:n≠quG)(ks:List T):qaM (apT n ks)=false:=by
 unfold qaM;rw[if_neg (show ¬ (apT n ks).name=qim from c),if_neg (show ¬ ((apT n ks).name=nSk\/(apT n ks).name=quG)from λ h=>h.elim b a)]
theorem qb0:zj zT=0:=by rw[qos];rfl
theorem qbr{P:T->Prop}(c:Cl P)(a:P zT){t:T}(d:t.kind=3)(b:P t)(i:Nat):P (kid t i):=by
 by_cases h:i<t.kids.length
 ·exact c t d b _ (qEH h)
 ·unfold kid;rw[List.getD_eq_getElem?_getD,List.getElem?_eq_none (by omega)];exact a
theorem qsw{P:T->Prop}(a:P zT){l:List T}(h:∀ x∈l,P x):P (l.getD 0 zT):=by
 cases l with
 | nil=>exact a
 | cons x r=>exact h x (wh ..)
theorem qIJ{t:T}(c:t.kind=3)(h:qL t=0):t.kids.length<=8:=by
 unfold qL at h;split at h
 ·rename_i b;exact absurd h b
 ·rename_i b;have a:=(qjf (t:=t) (by omega)).1;unfold yS qgG at a;rw[if_neg (by omega),if_pos c]at a;split at a
  ·cases a
  ·split at a
   ·split at a
    ·cases a
    ·omega
   ·cases a
theorem qzz{l:List Pw}(f:∀ p∈l,zj p.1=0)(h:(qbB l).2=0):zj (qbB l).1=0:=by
 by_cases b:JK l=0
 ·rw[qq6 b]at h |-
  unfold qnW at h |-
  by_cases g:8<(yl l++yr l).length
  ·rw[if_pos g]at h;cases h
  rw[if_neg g]at h |-
  by_cases e:qL (qah (yl l++yr l))=0
  ·rw[if_neg (by omega)]
   have a:∀ x∈yl l++yr l,zj x=0 := λ x c=>by
    rcases wx.1 c with c | c
    ·obtain⟨p,b,rfl⟩:=qDo c;exact f p b
    ·obtain⟨p,b,rfl⟩:=qDU c;exact qjI (qgV (by decide) (by show(1:Int)<=1;decide) (by show(1:Int)<=1;decide) (qk7 (by decide) (by decide) (by decide) _)) λ k d=>by rw[wG.1 d];exact f p b
   generalize yl l++yr l=o at *;unfold qah;split
   ·exact qjI (qgV (by decide) (by show(0:Int)<=0;decide) (by show(0:Int)<=0;decide) (qk7 (by decide) (by decide) (by decide) _)) λ k d=>by cases d
   ·split
    ·exact qsw (P := λ t=>zj t=0) qb0 a
    ·rename_i j i;exact qjI (qgV (by decide) (by show(2:Int)<=_;omega) (by show _<=(8:Int);omega) (qk7 (by decide) (by decide) (by decide) _)) a
  ·rw[if_pos e]at h;exact absurd h e
 ·unfold qbB at h;rw[if_pos b]at h;exact absurd h b
theorem qBt{b:T}{l:List Pw}(e:zj b=0)(f:∀ p∈l,zj p.1=0)(h:(qiX b l).2=0):zj (qiX b l).1=0:=by
 unfold qiX at h |-
 split at h
 ·rename_i d;rw[if_pos d];exact e
 ·rename_i d;rw[if_neg d];split at h
  ·rename_i c;exact absurd h c
  ·rename_i c;rw[if_neg c];refine qjI (qgV (by decide) (by show(2:Int)<=2;decide) (by show(2:Int)<=2;decide) (qk7 (by decide) (by decide) (by decide) _)) λ k a=>?_;rcases wy.1 a with rfl | a
   ·exact e
   ·rw[wG.1 a];exact qzz f (by omega)
theorem qJS{n:List UInt8}{ks:List T}(i:∀ k∈ks,zj k=0)(A:qdc (apT n ks)=0)(a:(qae (apT n ks)).2=0):zj (qae (apT n ks)).1=0:=by
 have g:zj (apT n ks)=0:=qjI A i;unfold qae at a |-
 by_cases w:isD (apT n ks).name=true
 ·rw[if_pos w];show zj (qkd _)=0;unfold qkd;split
  ·rename_i c
   have m:(kid (apT n ks) 0).kind=3:=by
    unfold yn at c;split at c
    ·exact(yR.1 c).1
    ·split at c
     ·rw[wd]at c;exact(yR.1 c.1).1
     ·split at c
      ·rw[wd,wd]at c;exact(yR.1 c.1.1).1
      ·split at c
       ·rw[wd,wd]at c;exact(yR.1 c.1.1).1
       ·split at c
        ·exact(yR.1 c).1
        ·cases c
   exact qbr qal qb0 m (qbr qal qb0 rfl g 0) _
  ·exact g
 rw[if_neg w]at a |-
 by_cases s:(apT n ks).name=qc9
 ·rw[if_pos s]at a |-
  unfold qqd at a |-
  split at a
  ·rename_i d;exact absurd a d
  rename_i d;rw[if_neg d];split at a
  ·cases a
  rename_i h;rw[if_neg h];show zj (qaB (zW ks))=0
  have l:qL (qaB (zW ks))=0:=by
   have:¬ qL (qaB (zW (apT n ks).kids))≠0:=h;exact kY this
  have f:=qy9 qal i;generalize zW ks=o at *;unfold qaB at l |-
  split
  ·exact qjI (qgV (by decide) (by show(0:Int)<=0;decide) (by show(0:Int)<=0;decide) (qk7 (by decide) (by decide) (by decide) _)) λ k z=>by cases z
  ·rename_i C;split
   ·exact qsw (P := λ t=>zj t=0) qb0 f
   ·rename_i B;rw[if_neg C,if_neg B]at l;have x:o.length<=8:=qIJ (t:=apT qc9 o) rfl l;exact qjI (qgV (by decide) (by show(2:Int)<=_;omega) (by show _<=(8:Int);omega) (qk7 (by decide) (by decide) (by decide) _)) f
 rw[if_neg s]at a |-
 by_cases u:(apT n ks).name=qfb\/(apT n ks).name=JD\/(apT n ks).name=qj0
 ·rw[if_pos u]at a |-
  unfold qnw at a |-
  split at a
  ·rename_i d;exact absurd a d
  rename_i d;rw[if_neg d];exact qzz (qjN qal g) a
 rw[if_neg u]at a |-
 by_cases v:(apT n ks).name=qf3
 ·rw[if_pos v]at a |-
  have p:=qbr qal qb0 (t:=apT n ks) rfl g 0;have r:=qbr qal qb0 (t:=apT n ks) rfl g 1;generalize kid (apT n ks) 0=b at *;generalize kid (apT n ks) 1=y at *;unfold qp7 at a |-
  split at a
  ·rename_i d;exact absurd a d
  rename_i d;rw[if_neg d];split at a
  ·rename_i e;rw[if_pos e];split at a
   ·rename_i h;exact absurd a h
   rename_i h;rw[if_neg h];split at a
   ·rename_i q;exact absurd a q
   rename_i q;rw[if_neg q];have j:=(yR.1 e).1;exact qBt (qbr qal qb0 j p 0) (qFf (P := λ t=>zj t=0) (qjN qal (qbr qal qb0 j p 1)) (qjN qal r)) a
  ·rename_i e;rw[if_neg e];exact qBt p (qjN qal r) a
 ·rw[if_neg v];exact g
theorem qlh:size zT=1:=by rw[qM];rfl
theorem qbv(t:T)(i:Nat):size (kid t i)<=size t:=by
 have:=size_pos t;by_cases h:i<t.kids.length
 ·have:=jM t _ (qEH h);omega
 ·unfold kid;rw[List.getD_eq_getElem?_getD,List.getElem?_eq_none (by omega)];show size zT<=_;rw[qlh];omega
theorem qBn(l:List Pw):size (qbB l).1<=400:=by
 unfold qbB;have:=qlh;split
 ·show size zT<=_;omega
 ·split
  ·show size zT<=_;omega
  ·split
   ·show size zT<=_;omega
   ·rename_i h;exact Q3 (kY h)
theorem qFQ(b:T)(l:List Pw):size (qiX b l).1<=401+size b:=by
 unfold qiX;have:=qlh;have:=qBn l;split
 ·show size b<=_;omega
 ·split
  ·show size zT<=_;omega
  ·rw[qM];show 1+(size b+(size (qbB l).1+0))<=_;omega
theorem qNl(n:List UInt8)(ks:List T):size (qae (apT n ks)).1<=402+szL ks:=by
 have d:=qlh;have e:size (apT n ks)=1+szL ks:=qM _;unfold qae;split
 ·show size (qkd _)<=_;unfold qkd;split
  ·have a:=qbv (apT n ks) 0;have c:=qbv (kid (apT n ks) 0) (if(apT n ks).name=qxz then 1 else 0);omega
  ·omega
 ·split
  ·unfold qqd;split
   ·show size zT<=_;omega
   ·split
    ·show size zT<=_;omega
    ·have a:=qFF (zW (apT n ks).kids);have c:=qfa (apT n ks).kids;have f:szL (apT n ks).kids=szL ks:=rfl;show size (qaB _)<=_;omega
  ·split
   ·unfold qnw;split
    ·show size zT<=_;omega
    ·have:=qBn (ofP (apT n ks)).1;omega
   ·split
    ·have g:=qbv (apT n ks) 0;generalize kid (apT n ks) 0=b at *;generalize kid (apT n ks) 1=y at *;unfold qp7;split
     ·show size zT<=_;omega
     ·split
      ·split
       ·show size zT<=_;omega
       ·split
        ·show size zT<=_;omega
        ·have a:=qFQ (kid b 0) (qmp (ofP (kid b 1)).1 (ofP y).1).1;have c:=qbv b 0;omega
      ·have a:=qFQ b (ofP y).1;omega
    ·show size (apT n ks)<=_;omega
theorem qx5(t:T):size (zN t).1<=402*size t:=by
 refine T.ind (P := λ t=>size (zN t).1<=402*size t) ?_ t;intro t b;have f:=qlh;have g:=size_pos t;rw[qox];split
 ·show size t<=_;omega
 ·split
  ·show size zT<=_;omega
  ·have e:=qNl t.name ((t.kids.map zN).map (·.1))
   have d:szL ((t.kids.map zN).map (·.1))<=402*szL t.kids:=by
    have:∀ l:List T,(∀ k∈l,k∈t.kids)->szL ((l.map zN).map (·.1))<=402*szL l:=by
     intro l
     induction l with
     | nil=>intro _;exact wb _
     | cons k l a =>
       intro h;have e:=b k (h k (wh ..));have d:=a λ x c=>h x (wg _ c);rw[wo,wo,qS,qS];omega
    exact this t.kids λ _ h=>h
   have i:size t=1+szL t.kids:=qM t;omega
theorem qtm:∀(l:List Int),l.foldl thn 0=0->∀ y∈l,y=0
 | [],_,y,a=>by cases a
 | z::l,h,y,a=>by
   rw[QX]at h;by_cases b:z=0
   ·subst b;rcases wy.1 a with rfl | a
    ·rfl
    ·exact qtm l h y a
   ·rw[qT _ b]at h;exact absurd h b
theorem qjQ{t:T}(h:t.kind≠3):zN t=(t,0):=by rw[qox,if_pos h]
theorem qKJ{t:T}(d:t.kind=3)(h:(zN t).2=0):(∀ k∈t.kids,(zN k).2=0)/\zN t=qae (apT t.name ((t.kids.map zN).map (·.1))):=by
 rw[qox,if_neg (λ c=>c d)]at h |-
 split at h
 ·rename_i a;exact absurd h a
 ·rename_i a;rw[if_neg a];refine⟨λ k b=>?_,rfl⟩;exact qtm _ (kY a) _ (ww.2 ⟨_,ww.2 ⟨k,b,rfl⟩,rfl⟩)
theorem qJN(l:List T)(h:∀ k∈l,k.kind≠3):(l.map zN).map (·.1)=l:=by
 induction l with
 | nil=>rfl
 | cons k l a =>
   rw[wo,wo,qjQ (h k (wh ..)),a λ x b=>h x (wg _ b)]
theorem qBP{t:T}(j:t.kind=3)(h:qdc t=0):qdc (apT t.name ((t.kids.map zN).map (·.1)))=0:=by
 obtain⟨m,l,i,b⟩:=qpQ j h;refine qgV m (by simpa using l) (by simpa using i) ?_;unfold qaM at b |-
 show(if t.name=qim then decide ((kid (apT t.name ((t.kids.map zN).map (·.1))) 0).kind≠2)else if t.name=nSk\/t.name=quG then((t.kids.map zN).map (·.1)).any λ k=>decide (k.kind=3)||decide (k.sort≠1)else false)=false;split
 ·rename_i c;rw[if_pos c]at b;have a:(kid t 0).kind=2:=by simpa using b
  cases e:t.kids with
  | nil =>
    unfold kid at a;rw[e]at a;exact absurd a (by decide)
  | cons x r =>
    have f:kid t 0=x:=by unfold kid;rw[e];rfl
    rw[f]at a;show decide ((zN x).1.kind≠2)=false;rw[qjQ (by omega)];simpa using a
 ·rename_i c;rw[if_neg c]at b;split
  ·rename_i g;rw[if_pos g]at b;rw[qJN t.kids λ k a d=>?_]
   ·exact b
   ·have:=List.any_eq_false.1 b k a;rw[d]at this;exact this rfl
  ·rfl
theorem qKx(t:T):zj t=0->(zN t).2=0->zj (zN t).1=0:=by
 refine T.ind (P := λ t=>zj t=0->(zN t).2=0->zj (zN t).1=0) ?_ t;intro t e d c;by_cases a:t.kind=3
 ·obtain⟨i,h⟩:=qKJ a c;obtain⟨m,l⟩:=qa2 a d;rw[h]at c |-
  refine qJS (λ k g=>?_) (qBP a m) c;obtain⟨q,f,rfl⟩:=ww.1 g;obtain⟨j,b,rfl⟩:=ww.1 f;exact e j b (l j b) (i j b)
 ·rw[qjQ a];exact d
end Go.AmZ
namespace Go.AmZ
open Go Go.GxZ
theorem zy(t:T){b:Bool}(h:yn t=b):qkd t=if b then kid (kid t 0) (if t.name=qxz then 1 else 0)else t:=by unfold qkd;rw[h]
theorem qc8{t:T}(h:zj t=0){n:List UInt8}(e:isN t n=true){a b c:Int}(d:qD n=(a,b,c)){i:Nat}(f:(i:Int)<a):qb t.kids (i:Int)=some (kid t i):=by
 have:=(qpo h e d).1;exact qyw (by omega)
theorem qHA(t:T)(J:t.kind=3)(I:zj t=0)(D:isD t.name=true)(L:size t<=1000000000):Ev (λ m _=>qdd m t) (qkd t):=by
 have B:∀ i,size (kid t i)<=size t:=qbv t;have r:∀ i j,size (kid (kid t i) j)<=1000000000 := λ i j=>by have:=qbv (kid t i) j;have:=B i;omega
 have v:∀ i j k,size (kid (kid (kid t i) j) k)<=1000000000 := λ i j k=>by have:=qbv (kid (kid t i) j) k;have:=r i j;omega
 have f:∀ i,zj (kid t i)=0 := λ i=>qbr qal qb0 J I i;have x:∀ i j,(kid t i).kind=3->zj (kid (kid t i) j)=0 := λ i j h=>qbr qal qb0 h (f i) j;have A:isN t t.name=true:=yR.2 ⟨J,rfl⟩;have H:∀{u:T} {n:List UInt8},zj u=0->isN u n=true->∀{b c:Int},qD n=(1,b,c)->qb u.kids 0=some (kid u 0) := λ h d _ _ e=>qc8 (i:=0) h d e (by decide);have q:∀{u:T} {n:List UInt8},zj u=0->isN u n=true->∀{b c:Int},qD n=(2,b,c)->qb u.kids 0=some (kid u 0) := λ h d _ _ e=>qc8 (i:=0) h d e (by decide);have p:∀{u:T} {n:List UInt8},zj u=0->isN u n=true->∀{b c:Int},qD n=(2,b,c)->qb u.kids 1=some (kid u 1) := λ h d _ _ e=>qc8 (i:=1) h d e (by decide);have E:qD qp1=(2,2,1):=by decide
 have G:qD qpj=(2,2,1):=by decide
 have z:qD qi9=(2,2,1):=by decide
 have F:qD nPk=(1,1,1):=by decide
 have y:qD qfr=(2,2,1):=by decide
 unfold isD at D;simp only[kh,beq_iff_eq]at D;refine waB ?_;simp only[qtZ,qf2,qk]
 have l:∀{a b c:Int},qD t.name=(a,b,c)->a=b->(t.kids.length:Int)=a := λ e K=>by
  have:=qpo I A e;omega
 rcases D with((((d | d) | d) | d) | d) | d
 ·have w:=l (a:=1) (b:=1) (c:=3) (by rw[d];decide) rfl;refine way (qem (by omega)) (wax (qm.2 (by omega)) (waw (by rw[d];rfl) (wau (qkS _ _) ?_)));have g:yn t=isN (kid t 0) qp1:=by unfold yn;rw[if_pos (.inl d)]
  refine waz (λ h=>?_) λ h=>?_
  ·refine way (q (f 0) h E) (waA ?_);rw[zy t (g.trans h),if_pos rfl,if_neg (by rw[d];decide)]
  ·refine waA ?_;rw[zy t (g.trans h),if_neg (by decide)]
 ·have w:=l (a:=1) (b:=1) (c:=3) (by rw[d];decide) rfl;refine way (qem (by omega)) (wax (qm.2 (by omega)) (wax (by rw[d];rfl) (waw (by rw[d];rfl) (wau (qkS _ _) ?_))));have g:yn t=isN (kid t 0) qp1:=by unfold yn;rw[if_pos (.inr d)]
  refine waz (λ h=>?_) λ h=>?_
  ·refine way (p (f 0) h E) (waA ?_);rw[zy t (g.trans h),if_pos rfl,if_pos d]
  ·refine waA ?_;rw[zy t (g.trans h),if_neg (by decide)]
 ·have w:=l (a:=2) (b:=2) (c:=3) (by rw[d];decide) rfl;refine way (qem (by omega)) (waw (qr.2 (by omega)) (way (qsG (by omega)) (wax (by rw[d];rfl) (wax (by rw[d];rfl) (waw (by rw[d];rfl) (wau (qkS _ _) ?_))))));have g:yn t=(isN (kid t 0) qpj&&jq (kid (kid t 0) 1) (kid t 1)):=by unfold yn;rw[if_neg (by rw[d];decide),if_pos d]
  refine waz (λ h=>?_) λ h=>?_
  ·refine way (p (f 0) h G) (wau (qpA _ _ (r 0 1) (by have:=B 1;omega)) (waz (λ o=>?_) λ o=>?_))
   ·refine way (q (f 0) h G) (waA ?_);rw[zy t (b:=true) (by rw[g,show isN (kid t 0) qpj=true from h,o];rfl),if_pos rfl,if_neg (by rw[d];decide)]
   ·refine waA ?_;rw[zy t (b:=false) (by rw[g,o,vd]),if_neg (by decide)]
  ·refine waA ?_;rw[zy t (b:=false) (by rw[g,show isN (kid t 0) qpj=false from h];rfl),if_neg (by decide)]
 ·have w:=l (a:=2) (b:=2) (c:=3) (by rw[d];decide) rfl;refine way (qem (by omega)) (waw (qr.2 (by omega)) (way (qsG (by omega)) (wax (by rw[d];rfl) (wax (by rw[d];rfl) (wax (by rw[d];rfl) (waw (by rw[d];rfl) (wau (qkS _ _) ?_)))))));have g:yn t=(isN (kid t 0) qi9&&isN (kid (kid t 0) 1) nPk&&jq (kid (kid (kid t 0) 1) 0) (kid t 1)):=by unfold yn;rw[if_neg (by rw[d];decide),if_neg (by rw[d];decide),if_pos d]
  refine waz (λ h=>?_) λ h=>?_
  ·have C:=(yR.1 h).1;refine way (p (f 0) h z) (wau (qkS _ _) (waz (λ o=>?_) λ o=>?_))
   ·refine way (p (f 0) h z) (way (H (x 0 1 C) o F) (wau (qpA _ _ (v 0 1 0) (by have:=B 1;omega)) (waz (λ s=>?_) λ s=>?_)))
    ·refine way (q (f 0) h z) (waA ?_);rw[zy t (b:=true) (by rw[g,show isN (kid t 0) qi9=true from h,show isN (kid (kid t 0) 1) nPk=true from o,s];rfl),if_pos rfl,if_neg (by rw[d];decide)]
    ·refine waA ?_;rw[zy t (b:=false) (by rw[g,s,vd]),if_neg (by decide)]
   ·refine waA ?_;rw[zy t (b:=false) (by rw[g,show isN (kid (kid t 0) 1) nPk=false from o,vd,xb]),if_neg (by decide)]
  ·refine waA ?_;rw[zy t (b:=false) (by rw[g,show isN (kid t 0) qi9=false from h];rfl),if_neg (by decide)]
 ·have w:=l (a:=2) (b:=2) (c:=3) (by rw[d];decide) rfl;refine way (qem (by omega)) (waw (qr.2 (by omega)) (way (qsG (by omega)) (wax (by rw[d];rfl) (wax (by rw[d];rfl) (wax (by rw[d];rfl) (wax (by rw[d];rfl) (waw (by rw[d];rfl) (wau (qkS _ _) ?_))))))));have g:yn t=(isN (kid t 0) qfr&&isN (kid t 1) nPk&&jq (kid (kid t 0) 1) (kid (kid t 1) 0)):=by unfold yn;rw[if_neg (by rw[d];decide),if_neg (by rw[d];decide),if_neg (by rw[d];decide),if_pos d]
  refine waz (λ h=>?_) λ h=>?_
  ·refine wau (qkS _ _) (waz (λ o=>?_) λ o=>?_)
   ·refine way (p (f 0) h y) (way (H (f 1) o F) (wau (qpA _ _ (r 0 1) (r 1 0)) (waz (λ s=>?_) λ s=>?_)))
    ·refine way (q (f 0) h y) (waA ?_);rw[zy t (b:=true) (by rw[g,show isN (kid t 0) qfr=true from h,show isN (kid t 1) nPk=true from o,s];rfl),if_pos rfl,if_neg (by rw[d];decide)]
    ·refine waA ?_;rw[zy t (b:=false) (by rw[g,s,vd]),if_neg (by decide)]
   ·refine waA ?_;rw[zy t (b:=false) (by rw[g,show isN (kid t 1) nPk=false from o,vd,xb]),if_neg (by decide)]
  ·refine waA ?_;rw[zy t (b:=false) (by rw[g,show isN (kid t 0) qfr=false from h];rfl),if_neg (by decide)]
 ·have w:=l (a:=1) (b:=1) (c:=3) (by rw[d];decide) rfl;refine way (qem (by omega)) (wax (qm.2 (by omega)) (wax (by rw[d];rfl) (wax (by rw[d];rfl) (wax (by rw[d];rfl) (wax (by rw[d];rfl) (wax (by rw[d];rfl) (waw (by rw[d];rfl) (wau (qkS _ _) ?_))))))));have g:yn t=isN (kid t 0) qfr:=by unfold yn;rw[if_neg (by rw[d];decide),if_neg (by rw[d];decide),if_neg (by rw[d];decide),if_neg (by rw[d];decide),if_pos d]
  refine waz (λ h=>?_) λ h=>?_
  ·refine way (q (f 0) h y) (waA ?_);rw[zy t (g.trans h),if_pos rfl,if_neg (by rw[d];decide)]
  ·refine waA ?_;rw[zy t (g.trans h),if_neg (by decide)]
end Go.AmZ
namespace Go.AmZ
open Go Go.GxZ
def qf1:T->Prop:=T.para λ t a=>(t.kind=3->t.sort=0)/\∀ p∈a,p
theorem qoY(t:T):qf1 t↔(t.kind=3->t.sort=0)/\∀ k∈t.kids,qf1 k:=by
 have h:qf1 t=((t.kind=3->t.sort=0)/\∀ p∈t.kids.map qf1,p):=T.para_eq _ _;rw[h];refine and_congr_right λ _=>⟨λ h k a=>h _ (kO a),λ h p b=>?_⟩
 obtain⟨k,a,rfl⟩:=ww.1 b;exact h k a
theorem qrx:Cl qf1 := λ t _ h=>((qoY t).1 h).2
theorem qBW:qf1 zT:=(qoY zT).2 ⟨λ h=>absurd h (by decide),λ _ h=>by cases h⟩
theorem qFG(n:List UInt8)(ks:List T)(h:∀ k∈ks,qf1 k):qf1 (apT n ks):=(qoY _).2 ⟨λ _=>rfl,h⟩
theorem qHo{t:T}(a:t.kind=3)(h:yS t=0):t.sort=0:=by
 unfold yS qgG at h;rw[if_neg (by omega),if_pos a]at h;split at h
 ·cases h
 ·omega
theorem qJv(t:T):jh t=0->qf1 t:=by
 refine T.ind (P := λ t=>jh t=0->qf1 t) ?_ t;intro t b h;obtain⟨e,d⟩:=qjf h;exact(qoY t).2 ⟨λ c=>qHo c e,λ k a=>b k a (d k a)⟩
theorem qEo{t:T}(h:qL t=0):jh t=0:=by
 unfold qL at h;split at h
 ·rename_i a;exact absurd h a
 ·rename_i a;exact kY a
theorem qMX{P:T->Prop}(s:Cl P)(f:P zT)(e:∀ n ks,(∀ k∈ks,P k)->P (apT n ks)){n:List UInt8}{ks:List T}(v:∀ k∈ks,P k):P (qae (apT n ks)).1:=by
 have q:=e n ks v;have a:∀{t:T} (i:Nat),P t->t.kind=3->P (kid t i) := λ i h E=>qbr s f E h i
 have g:∀ l:List Pw,(∀ p∈l,P p.1)->P (qbB l).1:=by
  intro l z;unfold qbB;split
  ·exact f
  ·split
   ·exact f
   ·split
    ·exact f
    ·have c:∀ x∈yl l++yr l,P x := λ x u=>by
       rcases wx.1 u with u | u
       ·obtain⟨p,A,rfl⟩:=qDo u;exact z p A
       ·obtain⟨p,A,rfl⟩:=qDU u;exact e _ _ λ k j=>by rw[wG.1 j];exact z p A
     show P (qah _);generalize yl l++yr l=o at *;unfold qah;split
     ·exact e _ _ λ k j=>by cases j
     ·split
      ·exact qsw f c
      ·exact e _ _ c
 have m:∀(b:T) (l:List Pw),P b->(∀ p∈l,P p.1)->P (qiX b l).1:=by
  intro b l r z;unfold qiX;split
  ·exact r
  ·split
   ·exact f
   ·refine e _ _ λ k j=>?_;rcases wy.1 j with rfl | j
    ·exact r
    ·rw[wG.1 j];exact g l z
 unfold qae;split
 ·show P (qkd _);unfold qkd;split
  ·rename_i d
   have B:(kid (apT n ks) 0).kind=3:=by
    unfold yn at d;split at d
    ·exact(yR.1 d).1
    ·split at d
     ·rw[wd]at d;exact(yR.1 d.1).1
     ·split at d
      ·rw[wd,wd]at d;exact(yR.1 d.1.1).1
      ·split at d
       ·rw[wd,wd]at d;exact(yR.1 d.1.1).1
       ·split at d
        ·exact(yR.1 d).1
        ·cases d
   exact a _ (a 0 q rfl) B
  ·exact q
 ·split
  ·unfold qqd;split
   ·exact f
   ·split
    ·exact f
    ·have c:=qy9 s v;show P (qaB (zW ks));generalize zW ks=o at *;unfold qaB;split
     ·exact e _ _ λ k j=>by cases j
     ·split
      ·exact qsw f c
      ·exact e _ _ c
  ·split
   ·unfold qnw;split
    ·exact f
    ·exact g _ (qjN s q)
   ·split
    ·have r:=a (t:=apT n ks) 0 q rfl;have D:=a (t:=apT n ks) 1 q rfl;generalize kid (apT n ks) 0=b at *;generalize kid (apT n ks) 1=y at *;unfold qp7;split
     ·exact f
     ·split
      ·rename_i C;have w:=(yR.1 C).1;split
       ·exact f
       ·split
        ·exact f
        ·exact m _ _ (a 0 r w) (qFf (qjN s (a 1 r w)) (qjN s D))
      ·exact m _ _ r (qjN s D)
    ·exact q
theorem qNB{P:T->Prop}(d:Cl P)(b:P zT)(a:∀ n ks,(∀ k∈ks,P k)->P (apT n ks))(t:T):P t->P (zN t).1:=by
 refine T.ind (P := λ t=>P t->P (zN t).1) ?_ t;intro t e h;rw[qox];split
 ·exact h
 ·rename_i i;split
  ·exact b
  ·refine qMX d b a λ k g=>?_;obtain⟨q,f,rfl⟩:=ww.1 g;obtain⟨j,c,rfl⟩:=ww.1 f;exact e j c (d t (kY i) h j c)
theorem qFC{u x:T}(m:zj u=0)(l:qf1 u):jq u (apT nPk [x])=(isN u nPk&&jq (kid u 0) x):=by
 rw[xh,wd,qa5,qa5];constructor
 ·rintro rfl;exact⟨yR.2 ⟨rfl,rfl⟩,rfl⟩
 ·rintro⟨h,j⟩;obtain⟨f,g⟩:=yR.1 h;have e:=qpo m h (a:=1) (b:=1) (c:=1) (by decide);have d:=((qoY u).1 l).1 f;cases u with
  | mk k n so ks =>
    have f:k=3:=f;have g:n=nPk:=g;have d:so=0:=d
    have i:ks.length=1:=by
     have h:(1:Int)<=(ks.length:Int):=e.1;have j:(ks.length:Int)<=1:=e.2.1;omega
    cases ks with
    | nil=>cases i
    | cons y r =>
      cases r with
      | nil =>
        have:y=x:=j;subst f;subst g;subst d;subst this;rfl
      | cons z r=>simp at i
theorem qvl(a b:T):jq a b=jq b a:=by
 rw[xh,qa5,qa5];exact eq_comm
theorem qD8(t:T)(G:t.kind=3)(K:zj t=0)(E:qf1 t)(F:isD t.name=true)(M:size t<=900000000):Ev (λ m _=>qgm m t) (qkd t,yn t):=by
 have B:∀ i,size (kid t i)<=size t:=qbv t;have s:∀ i j,size (kid (kid t i) j)<=900000000 := λ i j=>by have:=qbv (kid t i) j;have:=B i;omega
 have k:∀ i,zj (kid t i)=0 := λ i=>qbr qal qb0 G K i;have A:∀ i j,(kid t i).kind=3->zj (kid (kid t i) j)=0 := λ i j h=>qbr qal qb0 h (k i) j;have w:∀ i,qf1 (kid t i) := λ i=>qbr qrx qBW G E i;have v:∀ i j,(kid t i).kind=3->qf1 (kid (kid t i) j) := λ i j h=>qbr qrx qBW h (w i) j;have D:isN t t.name=true:=yR.2 ⟨G,rfl⟩;have p:∀{u:T} {n:List UInt8},zj u=0->isN u n=true->∀{b c:Int},qD n=(2,b,c)->qb u.kids 0=some (kid u 0) := λ h d _ _ e=>qc8 (i:=0) h d e (by decide);have r:∀{u:T} {n:List UInt8},zj u=0->isN u n=true->∀{b c:Int},qD n=(2,b,c)->qb u.kids 1=some (kid u 1) := λ h d _ _ e=>qc8 (i:=1) h d e (by decide);have H:qD qp1=(2,2,1):=by decide
 have I:qD qpj=(2,2,1):=by decide
 have J:qD qi9=(2,2,1):=by decide
 have C:qD qfr=(2,2,1):=by decide
 unfold isD at F;simp only[kh,beq_iff_eq]at F;refine waB ?_;simp only[qvd,qgY,qk]
 have o:∀{a b c:Int},qD t.name=(a,b,c)->a=b->(t.kids.length:Int)=a := λ e L=>by
  have:=qpo K D e;omega
 have l:∀ x:T,size (apT nPk [x])=1+size x := λ x=>by rw[qM];show 1+(size x+0)=_;omega
 rcases F with((((d | d) | d) | d) | d) | d
 ·have y:=o (a:=1) (b:=1) (c:=3) (by rw[d];decide) rfl;refine way (qem (by omega)) (waw (by rw[d];rfl) (wau (qmg _ _) ?_));have f:yn t=isN (kid t 0) qp1:=by unfold yn;rw[if_pos (.inl d)]
  refine waz (λ h=>?_) λ h=>?_
  ·refine way (p (k 0) h H) (waA ?_);rw[zy t (f.trans h),if_pos rfl,if_neg (by rw[d];decide),f.trans h]
  ·repeat (refine wax (by rw[d];rfl) ?_)
   refine waA ?_;rw[zy t (f.trans h),if_neg (by decide),f.trans h]
 ·have y:=o (a:=1) (b:=1) (c:=3) (by rw[d];decide) rfl;refine way (qem (by omega)) (wax (by rw[d];rfl) (waw (by rw[d];rfl) (wau (qmg _ _) ?_)));have f:yn t=isN (kid t 0) qp1:=by unfold yn;rw[if_pos (.inr d)]
  refine waz (λ h=>?_) λ h=>?_
  ·refine way (r (k 0) h H) (waA ?_);rw[zy t (f.trans h),if_pos rfl,if_pos d,f.trans h]
  ·repeat (refine wax (by rw[d];rfl) ?_)
   refine waA ?_;rw[zy t (f.trans h),if_neg (by decide),f.trans h]
 ·have y:=o (a:=2) (b:=2) (c:=3) (by rw[d];decide) rfl;refine way (qem (by omega)) (wax (by rw[d];rfl) (wax (by rw[d];rfl) (waw (by rw[d];rfl) (wau (qmg _ _) ?_))));have f:yn t=(isN (kid t 0) qpj&&jq (kid (kid t 0) 1) (kid t 1)):=by unfold yn;rw[if_neg (by rw[d];decide),if_pos d]
  refine waz (λ h=>?_) λ h=>?_
  ·refine way (r (k 0) h I) (way (qsG (by omega)) (wau (qe8 _ _ (by have:=s 0 1;omega) (by have:=B 1;omega)) (waz (λ q=>?_) λ q=>?_)))
   ·have g:yn t=true:=by rw[f,show isN (kid t 0) qpj=true from h,q];rfl
    refine way (p (k 0) h I) (waA ?_);rw[zy t g,if_pos rfl,if_neg (by rw[d];decide),g]
   ·have g:yn t=false:=by rw[f,q,vd]
    repeat (refine wax (by rw[d];rfl) ?_)
    refine waA ?_;rw[zy t g,if_neg (by decide),g]
  ·have g:yn t=false:=by rw[f,show isN (kid t 0) qpj=false from h];rfl
   repeat (refine wax (by rw[d];rfl) ?_)
   refine waA ?_;rw[zy t g,if_neg (by decide),g]
 ·have y:=o (a:=2) (b:=2) (c:=3) (by rw[d];decide) rfl;refine way (qem (by omega)) (wax (by rw[d];rfl) (wax (by rw[d];rfl) (wax (by rw[d];rfl) (waw (by rw[d];rfl) (wau (qmg _ _) ?_)))));have f:yn t=(isN (kid t 0) qi9&&isN (kid (kid t 0) 1) nPk&&jq (kid (kid (kid t 0) 1) 0) (kid t 1)):=by unfold yn;rw[if_neg (by rw[d];decide),if_neg (by rw[d];decide),if_pos d]
  refine waz (λ h=>?_) λ h=>?_
  ·have z:=(yR.1 h).1;refine way (r (k 0) h J) (way (qsG (by omega)) (wau (qfx nPk [kid t 1] (by simp)) (wau (qe8 _ _ (by have:=s 0 1;omega) (by rw[l];have:=B 1;omega)) ?_)));rw[qFC (A 0 1 z) (v 0 1 z)];refine waz (λ q=>?_) λ q=>?_
   ·have g:yn t=true:=by rw[f,show isN (kid t 0) qi9=true from h,ka,q]
    refine way (p (k 0) h J) (waA ?_);rw[zy t g,if_pos rfl,if_neg (by rw[d];decide),g]
   ·have g:yn t=false:=by rw[f,show isN (kid t 0) qi9=true from h,ka,q]
    repeat (refine wax (by rw[d];rfl) ?_)
    refine waA ?_;rw[zy t g,if_neg (by decide),g]
  ·have g:yn t=false:=by rw[f,show isN (kid t 0) qi9=false from h];rfl
   repeat (refine wax (by rw[d];rfl) ?_)
   refine waA ?_;rw[zy t g,if_neg (by decide),g]
 ·have y:=o (a:=2) (b:=2) (c:=3) (by rw[d];decide) rfl;refine way (qem (by omega)) (wax (by rw[d];rfl) (wax (by rw[d];rfl) (wax (by rw[d];rfl) (wax (by rw[d];rfl) (waw (by rw[d];rfl) (wau (qmg _ _) ?_))))));have f:yn t=(isN (kid t 0) qfr&&isN (kid t 1) nPk&&jq (kid (kid t 0) 1) (kid (kid t 1) 0)):=by unfold yn;rw[if_neg (by rw[d];decide),if_neg (by rw[d];decide),if_neg (by rw[d];decide),if_pos d]
  refine waz (λ h=>?_) λ h=>?_
  ·refine way (qsG (by omega)) (way (r (k 0) h C) (wau (qfx nPk [kid (kid t 0) 1] (by simp)) (wau (qe8 _ _ (by have:=B 1;omega) (by rw[l];have:=s 0 1;omega)) ?_)));rw[qFC (k 1) (w 1),qvl (kid (kid t 1) 0)];refine waz (λ q=>?_) λ q=>?_
   ·have g:yn t=true:=by rw[f,show isN (kid t 0) qfr=true from h,ka,q]
    refine way (p (k 0) h C) (waA ?_);rw[zy t g,if_pos rfl,if_neg (by rw[d];decide),g]
   ·have g:yn t=false:=by rw[f,show isN (kid t 0) qfr=true from h,ka,q]
    repeat (refine wax (by rw[d];rfl) ?_)
    refine waA ?_;rw[zy t g,if_neg (by decide),g]
  ·have g:yn t=false:=by rw[f,show isN (kid t 0) qfr=false from h];rfl
   repeat (refine wax (by rw[d];rfl) ?_)
   refine waA ?_;rw[zy t g,if_neg (by decide),g]
 ·have y:=o (a:=1) (b:=1) (c:=3) (by rw[d];decide) rfl;refine way (qem (by omega)) (wax (by rw[d];rfl) (wax (by rw[d];rfl) (wax (by rw[d];rfl) (wax (by rw[d];rfl) (wax (by rw[d];rfl) (waw (by rw[d];rfl) (wau (qmg _ _) ?_)))))));have f:yn t=isN (kid t 0) qfr:=by unfold yn;rw[if_neg (by rw[d];decide),if_neg (by rw[d];decide),if_neg (by rw[d];decide),if_neg (by rw[d];decide),if_pos d]
  refine waz (λ h=>?_) λ h=>?_
  ·refine way (p (k 0) h C) (waA ?_);rw[zy t (f.trans h),if_pos rfl,if_neg (by rw[d];decide),f.trans h]
  ·repeat (refine wax (by rw[d];rfl) ?_)
   refine waA ?_;rw[zy t (f.trans h),if_neg (by decide),f.trans h]
end Go.AmZ
namespace Go.AmZ
open Go Go.GxZ
theorem qjR(t:T):szP (ofP t).1<=400:=by
 unfold ofP;split
 ·exact we _
 ·rename_i h;split
  ·exact we _
  ·split
   ·exact we _
   ·have c:=qF5 t [] 1;have b:=Q3 (kY h);have a:szP ([]:List Pw)=0:=rfl;show szP (jF t [] 1)<=_;omega
theorem qFt(a b:List Pw):szP (qmp a b).1<=160000:=by
 unfold qmp;split
 ·exact we _
 ·rename_i d;split
  ·exact we _
  ·rename_i c;split
   ·exact we _
   ·split
    ·exact we _
    ·obtain⟨_,_,h,_⟩:=qhJ (kY d) (kY c) b.length;rw[wC]at h;exact h
theorem qJZ(b e:T)(k:zj b=0)(n:size b<=1000000000)(j:size e<=1000000000):Ev (λ m _=>qhm m b e) (qp7 b e):=by
 refine waB ?_;simp only[qxD,qhx,qk]
 have g:∀(l:List Pw) (x:T),szP l<=1000000000->Ev (λ m _=>cond (ieq (l.length:Int) 0) (some (x,(0:Int))) (qa (Ju m l) λ v=>cond (qd (ieq v.2 0)) (some (T.mk 0 [] 0 [],v.2)) (qa (qhz m [101,120,112] [x,v.1]) λ w=>some (w,0)))) (qiX x l):=by
  intro l x o;unfold qiX;refine waz (λ h=>?_) λ h=>?_
  ·rw[qj]at h;rw[if_pos (by omega)];exact wav _
  ·rw[qg]at h;rw[if_neg (by omega)];refine wau (qC4 l o) (waz (λ h=>?_) λ h=>?_)
   ·rw[bnt,qg]at h;rw[if_pos h];exact wav _
   ·rw[bnf,qj]at h;rw[if_neg (by omega)];exact wau (qNZ _ _) (wav _)
 unfold qp7;refine wau (qDV e j) (waz (λ h=>?_) λ h=>?_)
 ·rw[bnt,qg]at h;rw[if_pos h];exact wav _
 rw[bnf,qj]at h;rw[if_neg (by omega)];refine wau (qkS _ _) (waz (λ f=>?_) λ f=>?_)
 ·rw[if_pos (show isN b qf3=true from f)];have s:=qbv b 1;refine way (qc8 (i:=1) k f (a:=2) (b:=2) (c:=1) (by decide) (by decide)) (wau (qDV _ (by omega)) (waz (λ d=>?_) λ d=>?_))
  ·rw[bnt,qg]at d;rw[if_pos d];exact wav _
  rw[bnf,qj]at d;rw[if_neg (by omega)];have r:=qjR (kid b 1);have p:=qjR e;have q:=qFt (ofP (kid b 1)).1 (ofP e).1;refine wau (qMS _ _ (by omega) (by omega)) (waz (λ d=>?_) λ d=>?_)
  ·rw[bnt,qg]at d;rw[if_pos d];exact wav _
  rw[bnf,qj]at d;rw[if_neg (by omega)];exact way (qc8 (i:=0) k f (a:=2) (b:=2) (c:=1) (by decide) (by decide)) (g _ _ (by omega))
 ·rw[if_neg (by rw[show isN b qf3=false from f];decide)];have p:=qjR e;exact g _ _ (by omega)
theorem qKa(b e:T)(k:zj b=0)(n:size b<=1000000000)(j:size e<=1000000000):Ev (λ m _=>qje m b e) (qp7 b e):=by
 refine waB ?_;simp only[qAl,qi3,qk]
 have g:∀(l:List Pw) (x:T),szP l<=1000000000->Ev (λ m _=>cond (ieq (l.length:Int) 0) (some (x,(0:Int))) (qa (qdH m l) λ v=>cond (qd (ieq v.2 0)) (some (T.mk 0 [] 0 [],v.2)) (qa (Qo m [101,120,112] [x,v.1]) λ w=>some (w,0)))) (qiX x l):=by
  intro l x o;unfold qiX;refine waz (λ h=>?_) λ h=>?_
  ·rw[qj]at h;rw[if_pos (by omega)];exact wav _
  ·rw[qg]at h;rw[if_neg (by omega)];refine wau (qCV l o) (waz (λ h=>?_) λ h=>?_)
   ·rw[bnt,qg]at h;rw[if_pos h];exact wav _
   ·rw[bnf,qj]at h;rw[if_neg (by omega)];exact wau (qfx _ _ (by simp)) (wav _)
 unfold qp7;refine wau (qB2 e j) (waz (λ h=>?_) λ h=>?_)
 ·rw[bnt,qg]at h;rw[if_pos h];exact wav _
 rw[bnf,qj]at h;rw[if_neg (by omega)];refine wau (qmg _ _) (waz (λ f=>?_) λ f=>?_)
 ·rw[if_pos (show isN b qf3=true from f)];have s:=qbv b 1;refine way (qc8 (i:=1) k f (a:=2) (b:=2) (c:=1) (by decide) (by decide)) (wau (qB2 _ (by omega)) (waz (λ d=>?_) λ d=>?_))
  ·rw[bnt,qg]at d;rw[if_pos d];exact wav _
  rw[bnf,qj]at d;rw[if_neg (by omega)];have r:=qjR (kid b 1);have p:=qjR e;have q:=qFt (ofP (kid b 1)).1 (ofP e).1;refine wau (qNe _ _ (by omega) (by omega)) (waz (λ d=>?_) λ d=>?_)
  ·rw[bnt,qg]at d;rw[if_pos d];exact wav _
  rw[bnf,qj]at d;rw[if_neg (by omega)];exact way (qc8 (i:=0) k f (a:=2) (b:=2) (c:=1) (by decide) (by decide)) (g _ _ (by omega))
 ·rw[if_neg (by rw[show isN b qf3=false from f];decide)];have p:=qjR e;exact g _ _ (by omega)
theorem qC3{t:T}(h:isD t.name=true):qae t=(qkd t,0):=by unfold qae;rw[if_pos h]
theorem qBG{t:T}(h:t.name=qc9):qae t=qqd t.kids:=by unfold qae;rw[if_neg (by rw[h];decide),if_pos h]
theorem qBN{t:T}(h:t.name=qfb\/t.name=JD\/t.name=qj0):qae t=qnw t:=by
 unfold qae;rw[if_neg (by rcases h with h | h | h<;>rw[h]<;>decide),if_neg (by rcases h with h | h | h<;>rw[h]<;>decide),if_pos h]
theorem qDP{t:T}(h:t.name=qf3):qae t=qp7 (kid t 0) (kid t 1):=by
 unfold qae;rw[if_neg (by rw[h];decide),if_neg (by rw[h];decide),if_neg (by rw[h];decide),if_pos h]
theorem qzj{t:T}(d:isD t.name=false)(c:t.name≠qc9)(b:¬ (t.name=qfb\/t.name=JD\/t.name=qj0))(a:t.name≠qf3):qae t=(t,0):=by
 unfold qae;rw[if_neg (by rw[d];decide),if_neg c,if_neg b,if_neg a]
theorem qHL(n:List UInt8):(qD n).2.2=3↔isD n=true:=by
 constructor
 ·intro h;rcases qu6 n with b | ⟨r,c,a,b⟩
  ·rw[qwJ b]at h;cases h
  ·rw[qpy b]at h;have:yZ.all (λ r => !decide (r.2.2.2=3)||isD r.1)=true:=by decide
   have:=wu.1 this r c;rw[decide_eq_true h]at this;rw[<- a];exact this
 ·intro h;unfold isD at h;simp only[kh,beq_iff_eq]at h;rcases h with((((a | a) | a) | a) | a) | a<;>rw[a]<;>decide
def nks(l:List T):List T:=(l.map zN).map (·.1)
theorem qsR(l:List T):(nks l).length=l.length:=by unfold nks;simp
theorem qIc(l:List T):szL (nks l)<=402*szL l:=by
 induction l with
 | nil=>exact wb _
 | cons k l a =>
   have:=qx5 k;show szL ((zN k).1::nks l)<=_;rw[qS,qS];omega
theorem qDJ{l:List T}{i:Nat}{x:T}(h:l[i]?=some x):nks (l.take (i+1))=nks (l.take i)++[(zN x).1]:=by
 unfold nks;rw[zH h,wS,wS];rfl
def erN(l:List T):Int:=((l.map zN).map (·.2)).foldl thn 0
theorem qBE{l:List T}{i:Nat}{x:T}(h:l.drop i=x::l.drop (i+1)):erN (l.drop i)=if(zN x).2≠0 then(zN x).2 else erN (l.drop (i+1)):=by
 unfold erN;rw[h,wo,wo];by_cases a:(zN x).2=0
 ·rw[if_neg (by omega),a];rfl
 ·rw[if_pos a];exact qT _ a
theorem qFg{t:T}(a:t.kind=3):zN t=if erN t.kids≠0 then(zT,erN t.kids)else qae (apT t.name (nks t.kids)):=by rw[qox,if_neg (λ h=>h a)];rfl
theorem qFP{t:T}(c:t.kind=3)(f:zj t=0)(e:∀ k∈t.kids,(zN k).2=0):zj (apT t.name (nks t.kids))=0/\∀ k∈nks t.kids,zj k=0:=by
 obtain⟨h,g⟩:=qa2 c f
 have a:∀ k∈nks t.kids,zj k=0 := λ k a=>by
  obtain⟨q,d,rfl⟩:=ww.1 a;obtain⟨j,b,rfl⟩:=ww.1 d;exact qKx j (g j b) (e j b)
 exact⟨qjI (qBP c h) a,a⟩
theorem qJp(t:T):size t<=2000->zj t=0->Ev (λ m _=>yE m t) (zN t):=by
 induction t using T.ind with
 | h t F =>
   intro hs E;have hl:=yB t;have hz:=qM t;refine waB ?_;simp only[qvQ,qdx,qk];by_cases n:t.kind=3
   rotate_left
   ·refine waw (bnt.2 (qg.2 n)) (waA (qjQ n).symm)
   refine wax (bnf.2 (qj.2 n)) ?_;rw[qFg n];have y:=(qa2 n E).2
   have s:=qp (P := λ i=>(∀ k∈t.kids.take i,(zN k).2=0)->Ev (λ m k=>Jm m (yE m) k t.kids t.kids.length i t.kind t.name t.sort t.kids 0 [] 0 3 t.name 0 [] (nks (t.kids.take i))) (if erN (t.kids.drop i)≠0 then(zT,erN (t.kids.drop i))else qae (apT t.name (nks t.kids)))) t.kids (by omega)
    (λ g q=>by
     refine waC ?_;simp only[qlM,qdq,qk];refine wax g ?_;rw[wC]at q |-
     rw[wU,if_neg (show ¬ erN []≠0 from λ h=>h rfl)];obtain⟨r,c2⟩:=qFP n E q;have Y:=qIc t.kids;have X:szL t.kids+1=size t:=by unfold szL;omega
     have H:=qsR t.kids;generalize nks t.kids=ks at *;have G:T.mk 3 t.name 0 ks=apT t.name ks:=rfl;rw[G];have W:size (apT t.name ks)=1+szL ks:=qM _
     have e:isD t.name=true->Ev (λ m _=>qa (qdd m (apT t.name ks)) λ v=>some (v,(0:Int))) (qae (apT t.name ks)) := λ l=>by
      rw[qC3 (show isD (apT t.name ks).name=true from l)];exact wau (qHA _ rfl r l (by omega)) (wav _)
     have f:t.name=qfb\/t.name=JD\/t.name=qj0->Ev (λ m _=>qa (qcj m (apT t.name ks)) λ v=>cond (qd (ieq v.2 0)) (some (T.mk 0 [] 0 [],v.2)) (qa (Ju m v.1) λ w=>some (w.1,w.2))) (qae (apT t.name ks)) := λ p=>by
      rw[qBN (show(apT t.name ks).name=qfb\/(apT t.name ks).name=JD\/(apT t.name ks).name=qj0 from p)];unfold qnw;have A:=qjR (apT t.name ks);refine wau (qDV _ (by omega)) (waz (λ h=>?_) λ h=>?_)
      ·rw[bnt,qg]at h;rw[if_pos h];exact wav _
      ·rw[bnf,qj]at h;rw[if_neg (by omega)];exact wau (qC4 _ (by omega)) (wav _)
     refine waz (λ h=>e (by rw[yV.1 h];decide)) λ V=>?_;refine waz (λ h=>e (by rw[yV.1 h];decide)) λ U=>?_;refine waz (λ h=>e (by rw[yV.1 h];decide)) λ B=>?_;refine waz (λ h=>e (by rw[yV.1 h];decide)) λ A=>?_;refine waz (λ h=>e (by rw[yV.1 h];decide)) λ S=>?_;refine waz (λ h=>e (by rw[yV.1 h];decide)) λ R=>?_;refine waz (λ h=>?_) λ Q=>?_
     ·rw[qBG (show(apT t.name ks).name=qc9 from yV.1 h)];exact wau (qNQ ks (by omega)) (wav _)
     refine waz (λ h=>f (.inl (yV.1 h))) λ O=>?_;refine waz (λ h=>f (.inr (.inl (yV.1 h)))) λ N=>?_;refine waz (λ h=>f (.inr (.inr (yV.1 h)))) λ D=>?_;refine waz (λ h=>?_) λ C=>?_
     ·have d:t.name=qf3:=yV.1 h;rw[qDP (show(apT t.name ks).name=qf3 from d)];have o:isN (apT t.name ks) qf3=true:=yR.2 ⟨rfl,d⟩;have q0:=qbv (apT t.name ks) 0;have Z:=qbv (apT t.name ks) 1;refine way (qc8 (t:=apT t.name ks) (i:=0) r o (a:=2) (b:=2) (c:=1) (by decide) (by decide)) (way (qc8 (t:=apT t.name ks) (i:=1) r o (a:=2) (b:=2) (c:=1) (by decide) (by decide)) ?_);exact wau (qJZ _ _ (qbr qal qb0 rfl r 0) (by omega) (by omega)) (wav _)
     ·rw[qzj (t:=apT t.name ks) (show isD t.name=false from by
         rw[<- kP];intro l;unfold isD at l;simp only[kh,beq_iff_eq]at l;rcases l with((((d | d) | d) | d) | d) | d
         ·exact jR.1 V d
         ·exact jR.1 U d
         ·exact jR.1 B d
         ·exact jR.1 A d
         ·exact jR.1 S d
         ·exact jR.1 R d) (jR.1 Q) (λ h=>by rcases h with h | h | h;exact jR.1 O h;exact jR.1 N h;exact jR.1 D h) (jR.1 C)]
      exact wav _)
    (λ i x u l g M K z q=>by
     refine waC ?_;simp only[qlM,qdq,qk];have p:=wa u;have I:=jM t x p;rw[qBE l];refine waw g (way M (wau (F x p (by omega) (y x p)) (waz (λ h=>?_) λ h=>?_)))
     ·rw[bnt,qg]at h;rw[if_pos (show(if(zN x).2≠0 then(zN x).2 else erN (t.kids.drop (i+1)))≠0 from by rw[if_pos h];exact h),if_pos h];exact wav _
     ·rw[bnf,qj]at h;rw[if_neg (show ¬ (zN x).2≠0 from by omega)];have A:(nks (t.kids.take i)).length<=t.kids.length:=by rw[qsR,wm];omega
      refine waw (qE (by omega) (by omega)) ?_
      have z:=z λ k j=>by
       rw[zH u]at j;rcases wx.1 j with j | j
       ·exact q k j
       ·rw[wG.1 j];exact h
      rw[K];refine z.congr λ m k=>?_;rw[qDJ u])
   have J:=n;refine waD (L := λ m k=>Jm m (yE m) k t.kids t.kids.length 0 t.kind t.name t.sort t.kids 0 [] 0 3 t.name 0 [] []) ?_;exact(s 0 (we _)) (λ k j=>by rw[xE]at j;cases j)
theorem qGS(t:T):size t<=2000->zj t=0->qf1 t->Ev (λ m _=>jl m t) (zN t):=by
 induction t using T.ind with
 | h t G =>
   intro hs E o;have hl:=yB t;have hz:=qM t;refine waB ?_;simp only[qxI,qer,qk];by_cases g:t.kind=3
   rotate_left
   ·refine waw (bnt.2 (qg.2 g)) (waA (qjQ g).symm)
   refine wax (bnf.2 (qj.2 g)) ?_;rw[qFg g];have y:=(qa2 g E).2
   have u:=qp (P := λ i=>(∀ k∈t.kids.take i,(zN k).2=0)->Ev (λ m k=>JT m (jl m) k i t.kind t.name t.sort t.kids 0 [] 0 [] (nks (t.kids.take i))) (if erN (t.kids.drop i)≠0 then(zT,erN (t.kids.drop i))else qae (apT t.name (nks t.kids)))) t.kids (by omega)
    (λ e p=>by
     refine waC ?_;simp only[qnP,qee,qk];refine wax e ?_;rw[wC]at p |-
     rw[wU,if_neg (show ¬ erN []≠0 from λ h=>h rfl)];obtain⟨s,c2⟩:=qFP g E p
     have F:qf1 (apT t.name (nks t.kids)):=qFG _ _ λ k f=>by
      obtain⟨q,H,rfl⟩:=ww.1 f;obtain⟨j,K,rfl⟩:=ww.1 H;exact qNB qrx qBW qFG j (qrx t g o j K)
     have X:=qIc t.kids;have W:szL t.kids+1=size t:=by unfold szL;omega
     have I:=qsR t.kids;generalize nks t.kids=ks at *;have V:size (apT t.name ks)=1+szL ks:=qM _
     have d:t.name=qfb\/t.name=JD\/t.name=qj0->Ev (λ m _=>qa (qdW m (apT t.name ks)) λ w=>some (w.1,w.2)) (qae (apT t.name ks)) := λ l=>by
      rw[qBN (show(apT t.name ks).name=qfb\/(apT t.name ks).name=JD\/(apT t.name ks).name=qj0 from l)];have S:=qjR (apT t.name ks)
      have:Ev (λ m _=>qdW m (apT t.name ks)) (qnw (apT t.name ks)):=by
       refine waB ?_;simp only[qwd,qgM,qk];unfold qnw;refine wau (qB2 _ (by omega)) (waz (λ h=>?_) λ h=>?_)
       ·rw[bnt,qg]at h;rw[if_pos h];exact wav _
       ·rw[bnf,qj]at h;rw[if_neg (by omega)];exact wau (qCV _ (by omega)) (wav _)
      exact wau this (wav _)
     have D:=jT ks;refine wau (qfx t.name ks (by omega)) (wau (qyn t.name) (waz (λ h=>?_) λ U=>?_))
     ·have r:=(qHL t.name).1 (qj.1 h);rw[qC3 (show isD (apT t.name ks).name=true from r)];exact wau (qD8 _ rfl s F r (by omega)) (wav _)
     refine waz (λ h=>?_) λ R=>?_
     ·rw[qBG (show(apT t.name ks).name=qc9 from yV.1 h)];exact wau (qND ks (by omega)) (wav _)
     refine waz (λ h=>d (.inl (yV.1 h))) λ Q=>?_;refine waz (λ h=>d (.inr (.inl (yV.1 h)))) λ O=>?_;refine waz (λ h=>d (.inr (.inr (yV.1 h)))) λ B=>?_;refine waz (λ h=>?_) λ A=>?_
     ·have C:t.name=qf3:=yV.1 h;rw[qDP (show(apT t.name ks).name=qf3 from C)];have n:isN (apT t.name ks) qf3=true:=yR.2 ⟨rfl,C⟩;have Z:=qbv (apT t.name ks) 0;have Y:=qbv (apT t.name ks) 1;refine way (qc8 (t:=apT t.name ks) (i:=0) s n (a:=2) (b:=2) (c:=1) (by decide) (by decide)) (way (qc8 (t:=apT t.name ks) (i:=1) s n (a:=2) (b:=2) (c:=1) (by decide) (by decide)) ?_);exact wau (qKa _ _ (qbr qal qb0 rfl s 0) (by omega) (by omega)) (wav _)
     ·rw[qzj (t:=apT t.name ks) (show isD t.name=false from by
         rw[<- kP,<- qHL];exact qg.1 U) (jR.1 R) (λ h=>by rcases h with h | h | h;exact jR.1 Q h;exact jR.1 O h;exact jR.1 B h) (jR.1 A)]
      exact wav _)
    (λ i x v r e N M z p=>by
     refine waC ?_;simp only[qnP,qee,qk];have l:=wa v;have J:=jM t x l;rw[qBE r];refine waw e (way N (wau (G x l (by omega) (y x l) (qrx t g o x l)) (waz (λ h=>?_) λ h=>?_)))
     ·rw[bnt,qg]at h;rw[if_pos (show(if(zN x).2≠0 then(zN x).2 else erN (t.kids.drop (i+1)))≠0 from by rw[if_pos h];exact h),if_pos h];exact wav _
     ·rw[bnf,qj]at h;rw[if_neg (show ¬ (zN x).2≠0 from by omega)];have S:(nks (t.kids.take i)).length<=t.kids.length:=by rw[qsR,wm];omega
      refine waw (qE (by omega) (by omega)) ?_
      have z:=z λ k f=>by
       rw[zH v]at f;rcases wx.1 f with f | f
       ·exact p k f
       ·rw[wG.1 f];exact h
      rw[M];refine z.congr λ m k=>?_;rw[qDJ v])
   refine waD (L := λ m k=>JT m (jl m) k 0 t.kind t.name t.sort t.kids 0 [] 0 [] []) ?_;exact(u 0 (we _)) (λ k f=>by rw[xE]at f;cases f)
theorem qkC(t:T):qlj t=if qbj t≠0 then(zT,qbj t)else if(zN t).2≠0 then(zT,(zN t).2)else if qL (zN t).1≠0 then(zT,qL (zN t).1)else zN t:=rfl
theorem qGl(t:T)(d:size t<=1000000000):Ev (λ m _=>qgk m t) (qlj t):=by
 refine waB ?_;simp only[qvp,qgZ,qk];rw[qkC];refine wau (qF4 t d) (waz (λ h=>?_) λ h=>?_)
 ·rw[bnt,qg]at h;rw[if_pos h];exact wav _
 rw[bnf,qj]at h;rw[if_neg (by omega)];obtain⟨c,e⟩:=qne h;have f:=Q3 c;have g:=qx5 t;refine wau (qJp t (by omega) e) (waz (λ a=>?_) λ a=>?_)
 ·rw[qj]at a;rw[if_neg (by omega)];refine wau (qdi _ (by omega)) (waz (λ b=>?_) λ b=>?_)
  ·rw[bnt,qg]at b;rw[if_pos b];exact wav _
  ·rw[bnf,qj]at b;rw[if_neg (by omega)];exact waA (by rw[<- a])
 ·rw[qg]at a;rw[if_pos a];exact waw (bnt.2 (qg.2 a)) (wav _)
theorem qGE(t:T)(d:size t<=1000000000):Ev (λ m _=>qio m t) (qlj t):=by
 refine waB ?_;simp only[qyx,qhC,qk];rw[qkC];refine wau (qyo t d) (waz (λ h=>?_) λ h=>?_)
 ·rw[bnt,qg]at h;rw[if_pos h];exact wav _
 rw[bnf,qj]at h;rw[if_neg (by omega)];obtain⟨c,e⟩:=qne h;have f:=Q3 c;have g:=qx5 t;refine wau (qGS t (by omega) e (qJv t (qEo c))) (waz (λ a=>?_) λ a=>?_)
 ·rw[bnt,qg]at a;rw[if_pos a];exact wav _
 rw[bnf,qj]at a;rw[if_neg (by omega)];refine wau (qdh _ (by omega)) (waz (λ b=>?_) λ b=>?_)
 ·rw[bnt,qg]at b;rw[if_pos b];exact wav _
 ·rw[bnf,qj]at b;rw[if_neg (by omega)];exact waA (by rw[<- a])
theorem qw3(t:T):size (qlj t).1<=400:=by
 rw[qkC];have:=qlh;split
 ·show size zT<=_;omega
 ·split
  ·show size zT<=_;omega
  ·split
   ·show size zT<=_;omega
   ·rename_i h;exact Q3 (kY h)
end Go.AmZ
namespace Go.AmZ
open Go Go.GxZ
def qdX(p:List UInt8->Bool):T->Bool:=T.para λ t a=>(!(t.kind==3)||p t.name)&&a.all id
theorem qm0(p:List UInt8->Bool)(t:T):qdX p t=((!(t.kind==3)||p t.name)&&(t.kids.map (qdX p)).all id):=T.para_eq _ _
def Jk:T->List T:=T.para λ t a=>t::a.flatten
theorem qc0(t:T):Jk t=t::(t.kids.map Jk).flatten:=T.para_eq _ _
theorem qqb(t:T):(Jk t).length=size t:=by
 refine T.ind (P := λ t=>(Jk t).length=size t) ?_ t;intro t a;rw[qc0,qM,wv,List.length_flatten,xi];have:t.kids.map (List.length ∘ Jk)=t.kids.map size:=k8 λ k b=>a k b;rw[this];omega
theorem qMZ(t:T):∀ u∈Jk t,size u<=size t:=by
 refine T.ind (P := λ t=>∀ u∈Jk t,size u<=size t) ?_ t;intro t c u a;rw[qc0]at a;rcases wy.1 a with rfl | a
 ·exact wb _
 ·obtain⟨l,d,a⟩:=vk.1 a;obtain⟨k,b,rfl⟩:=ww.1 d;have f:=c k b u a;have e:=jM t k b;omega
theorem qGy(p:List UInt8->Bool)(t:T):(Jk t).all (λ u => !(u.kind==3)||p u.name)=qdX p t:=by
 refine T.ind (P := λ t=>(Jk t).all (λ u => !(u.kind==3)||p u.name)=qdX p t) ?_ t;intro t b;rw[qc0,qm0,kC,List.all_flatten];congr 1;rw[waf,waf];rw[xh,wu,wu];exact⟨λ h k a=>(b k a).symm.trans (h k a),λ h k a=>(b k a).trans (h k a)⟩
def pPl(n:List UInt8):Bool:=qd (ieq (qD n).2.2 3)
theorem qIR(n:List UInt8):Ev (λ m _=>qfg m n) (pPl n):=by
 refine waB ?_;simp only[qui,qfY];refine wau (qzv n) (waA ?_);unfold pPl;rw[<- qtR]
theorem qI2(t:T):size t<=1000000000->Ev (λ m _=>zc m t) (qdX pPl t):=by
 induction t using T.ind with
 | h t j =>
   intro r;have s:=yB t;refine waB ?_;simp only[qp3,qat]
   have d:=qp (P := λ i=>Ev (λ m k=>yJ m (zc m) k t.kids t.kids.length i) (((t.kids.drop i).map (qdX pPl)).all id)) t.kids (by omega)
    (λ f=>by
     refine waC ?_;simp only[qhd,qar];refine wax f (waA ?_);rw[wU];rfl)
    (λ i x l p f o n q=>by
     refine waC ?_;simp only[qhd,qar,qk];have g:=wa l;have u:=jM t x g;rw[p,wo,kC];refine waw f (way o (wau (j x g (by omega)) (waz (λ b=>?_) λ b=>?_)))
     ·rw[bnt]at b;rw[b];exact wav _
     ·rw[bnf]at b;rw[b,n];exact q)
   have a:Ev (λ m _=>yJ m (zc m) m t.kids t.kids.length 0) ((t.kids.map (qdX pPl)).all id) :=
    waD (L := λ m k=>yJ m (zc m) k t.kids t.kids.length 0) ((d 0 (we _)).res (by rw[wO]))
   rw[qm0];refine waz (λ c=>?_) λ c=>?_
   ·rw[qj]at c;have e:(!(t.kind==3))=false:=by rw[c];rfl
    rw[e,xS];refine wau (qIR t.name) (waz (λ h=>?_) λ h=>?_)
    ·rw[bnt]at h;rw[h];exact wav _
    ·rw[bnf]at h;rw[h];exact a
   ·rw[qg]at c;have e:(!(t.kind==3))=true:=by rw[wV,beq_eq_false_iff_ne];exact c
    rw[e,xA];exact a
theorem qE3(t:T):size t<=1000000000->Ev (λ m _=>Qm m t) (Jk t):=by
 induction t using T.ind with
 | h t n =>
   intro r;have s:=yB t;have b:=qqb t;refine waB ?_;simp only[qDX,qij,qk];rw[qc0]at b |-
   have a:∀ i,((t.kids.take i).map Jk).flatten.length<=(t.kids.map Jk).flatten.length := λ i=>by
    have:=congrArg (λ l=>(l.map Jk).flatten.length) (kz i t.kids);simp only[wS,xo,wc]at this;omega
   have c:=qp (P := λ i=>Ev (λ m k=>qcw m (Qm m) k i t.kind t.name t.sort t.kids (t::((t.kids.take i).map Jk).flatten)) (t::(t.kids.map Jk).flatten)) t.kids (by omega)
    (λ d=>by
     refine waC ?_;simp only[qrh,qh4];refine wax d ?_;rw[wC];exact wav _)
    (λ i x f u d p o j=>by
     refine waC ?_;simp only[qrh,qh4,qk];have g:=wa f;have v:=jM t x g;have q:=a (i+1)
     have e:((t.kids.take (i+1)).map Jk).flatten=((t.kids.take i).map Jk).flatten++Jk x:=by
      rw[zH f,wS,xo];simp
     rw[e,wc]at q;rw[e]at j;rw[wv]at b;refine waw d (way p (wau (n x g (by omega)) (waw (qE (by rw[wv];omega) (by omega)) ?_)));rw[o];exact j)
   refine waD (L := λ m k=>qcw m (Qm m) k 0 t.kind t.name t.sort t.kids [t]) ?_;exact c 0 (we _)
def Qv(t:T):Bool:=decide ((qlj t).2=0)&&(jq (qlj t).1 t&&qdX pPl t)
theorem qy5(t:T)(a:size t<=1000000000):Ev (λ m _=>qeT m t) (Qv t):=by
 have c:=qw3 t;refine waB ?_;simp only[qyE,qhi,qk];unfold Qv;refine wau (qGl t a) (waz (λ h=>?_) λ h=>?_)
 ·rw[qj]at h;rw[decide_eq_true h,ka];refine wau (qpA _ _ (by omega) a) (waz (λ b=>?_) λ b=>?_)
  ·rw[b,ka];exact wau (qI2 t a) (wav _)
  ·rw[b,xb];exact wav _
 ·rw[qg]at h;rw[decide_eq_false h,xb];exact wav _
theorem qzH(t:T)(e:size t<=1000000000):Ev (λ m _=>qgb m t) (Qv t):=by
 have s:=qw3 t;refine waB ?_;simp only[qzZ,qfR,qk];unfold Qv;refine wau (qGE t e) (waz (λ h=>?_) λ h=>?_)
 ·rw[bnt,qg]at h;rw[decide_eq_false h,xb];exact wav _
 rw[bnf,qj]at h;rw[decide_eq_true h,ka,qvl];refine wau (qe8 _ _ e (by omega)) (waz (λ c=>?_) λ c=>?_)
 ·rw[bnt]at c;rw[c,xb];exact wav _
 rw[bnf]at c;rw[c,ka,<- qGy];refine wau (qE3 t e) ?_;have p:=qqb t;generalize Jk t=l at *
 have d:=qp (P := λ i=>Ev (λ m k=>qaC m k l i) ((l.drop i).all λ u => !(u.kind==3)||pPl u.name)) l (by omega)
  (λ g=>by
   refine waC ?_;simp only[qoW,qfH];refine wax g (waA ?_);rw[wU];rfl)
  (λ i x r q g n j o=>by
   refine waC ?_;simp only[qoW,qfH];rw[q,kC];refine waw g (way n (waz (λ b=>?_) λ b=>?_))
   ·rw[qj]at b;have f:(!(x.kind==3))=false:=by rw[b];rfl
    rw[f,xS];refine way n (wau (qyn x.name) (waz (λ a=>?_) λ a=>?_))
    ·have:pPl x.name=false:=by unfold pPl;rw[a];rfl
     rw[this];exact wav _
    ·rw[j];refine o.res ?_;have:pPl x.name=true:=by unfold pPl;rw[a];rfl
     rw[this];rfl
   ·rw[qg]at b;have f:(!(x.kind==3))=true:=by rw[wV,beq_eq_false_iff_ne];exact b
    rw[f,xA,j,ka];exact o)
 refine waD (L := λ m k=>qaC m k l 0) ?_;exact(d 0 (we _)).res (by rw[wO])
end Go.AmZ
namespace Go.AmZ
open Go Go.GxZ Go.Sort Go.Proofs Go.Proofs.YtckmkimhkhilgaaGreat
def zK(k:Int)(t:T):List T:=(Jk t).filter λ x=>decide (x.kind=k)
def qd9(t:T):Bool:=(zK 1 t).isEmpty
theorem qnH(k:Int)(t:T):zK k t=(if t.kind=k then[t]else[])++(t.kids.map (zK k)).flatten:=by
 unfold zK;rw[qc0,List.filter_cons,List.filter_flatten,xi];by_cases h:t.kind=k<;>simp[h,vz,zK]
theorem qkx(k:Int)(t:T):(zK k t).length<=size t:=by
 have:=xG (λ x:T=>decide (x.kind=k)) (Jk t);rw[qqb]at this;exact this
theorem qyQ(k:Int)(t:T):∀ u∈zK k t,size u<=size t := λ u a=>qMZ t u ((kK.1 a).1)
theorem qGb{s:Nat}:∀{l:List T},(∀ u∈l,size u<=s)->szL l<=l.length*s
 | [],_=>by simp[szL]
 | x::l,h=>by
   have:=qGb λ u a=>h u (wg _ a);have b:=h x (wh ..);rw[qS,wv,kU];omega
theorem qKR(x:T)(k:Int)(l:List T)(b:l.length<=1000000000):Ev (λ m _=>qaL m x k l) ((k,l++(if x.kind=k then[x]else[]),()),()):=by
 refine waB ?_;simp only[qod,qbR,qk];by_cases h:x.kind=k
 ·rw[if_pos h];refine waw (qj.2 h) (waw (qE (by omega) (by omega)) (way (a:=T.mk 0 [] 0 []) (by rw[zb];simp) (waA ?_)));rw[QK];simp
 ·rw[if_neg h,wA];exact wax (qg.2 h) (wav _)
theorem qM5(t:T)(k:Int):size t<=1000000000->∀ l:List T,l.length+size t<=1000000000->Ev (λ m _=>zJ m t k l) ((k,l++zK k t,()),()):=by
 induction t using T.ind with
 | h t v =>
   intro C l D;have w:=yB t;refine waB ?_;simp only[qr8,qbE,qk];refine wau (qKR t k l (by omega)) ?_;simp only;obtain⟨b,a⟩:∃ b,b=l++(if t.kind=k then[t]else[]):=⟨_,rfl⟩
   rw[<- a];have j:=qkx k t;rw[qnH,wc]at j;have r:b.length+((t.kids.map (zK k)).flatten).length=l.length+((if t.kind=k then[t]else[]).length+((t.kids.map (zK k)).flatten).length):=by rw[a,wc];omega
   have p:∀ i,((t.kids.take i).map (zK k)).flatten.length<=(t.kids.map (zK k)).flatten.length := λ i=>by
    have:=congrArg (λ l=>(l.map (zK k)).flatten.length) (kz i t.kids);simp only[wS,xo,wc]at this;omega
   have g:∀ i x,t.kids[i]?=some x->b.length+((t.kids.take i).map (zK k)).flatten.length+size x<=1000000000 := λ i x c=>by
    have B:((t.kids.take i).map (zK k)).flatten.length<=szL (t.kids.take i):=by
     have o:∀ l:List T,((l.map (zK k)).flatten).length<=szL l:=by
      intro l
      induction l with
      | nil=>simp[szL]
      | cons y l u=>rw[wo,xX,wc,qS];have:=qkx k y;omega
     exact o _
    have H:=Qz c;have G:szL t.kids+1<=size t:=by rw[qM];unfold szL;omega
    have F:b.length<=l.length+1:=by rw[a,wc];split<;>simp
    omega
   have f:=qp (P := λ i=>Ev (λ m d=>Qb m (zJ m) d t.kids t.kids.length i k (b++((t.kids.take i).map (zK k)).flatten)) ((k,b++(t.kids.map (zK k)).flatten,()),())) t.kids (by omega)
    (λ n=>by
     refine waC ?_;simp only[qis,qbG];refine wax n ?_;rw[wC];exact wav _)
    (λ i x c E n A z s=>by
     refine waC ?_;simp only[qis,qbG,qk];have q:=wa c;have B:=jM t x q;refine waw n (way A (wau (v x q (by omega) _ (by rw[wc];exact g i x c)) ?_));rw[z]
     have e:((t.kids.take (i+1)).map (zK k)).flatten=((t.kids.take i).map (zK k)).flatten++zK k x:=by
      rw[zH c,wS,xo];simp
     rw[e,<- wi]at s;exact s)
   rw[qnH,<- wi,<- a];refine waD (L := λ m d=>Qb m (zJ m) d t.kids t.kids.length 0 k b) ?_;have:=f 0 (we _);simpa using this
theorem qNJ{F G:T->T->Option Int}{l:List T}(h:∀ x∈l,∀ y∈l,F x y=G x y):JB F l=JB G l:=by
 funext i j;unfold JB;cases b:l[i % l.length]? with
 | none=>rfl
 | some x=>cases a:l[j % l.length]? with
   | none=>rfl
   | some y=>simp only;rw[h x (wa b) y (wa a)]
theorem qzr{a:Type}{F:T->T->Option a}{l:List T}(h:∀ x∈l,∀ y∈l,(F x y).isSome=true):qde F l=true :=
 wu.2 λ x c=>wu.2 λ y b=>h x c y b
theorem qNi{n:Nat}{lt:Nat->Nat->Bool}(h:SWO lt):qtB n lt=true:=by
 unfold qtB;refine wu.2 λ i _=>?_;rw[wd];refine⟨by rw[h.irrefl];rfl,wu.2 λ j _=>wu.2 λ k _=>?_⟩;rw[wd];constructor
 ·cases b:lt i j with
  | false=>rfl
  | true=>cases a:lt j k with
    | false=>rfl
    | true=>rw[h.trans i j k b a];rfl
 ·cases b:lt i j with
  | true=>rfl
  | false=>cases a:lt j k with
    | true=>rfl
    | false=>rw[h.ntrans i j k b a];rfl
theorem qP0(l:List T):SWO (ltOf (JB (λ x y=>some (qt x y)) l)):=by
 have hlt:∀ i j,ltOf (JB (λ x y=>some (qt x y)) l) i j=true↔∃ x y,l[i % l.length]?=some x/\l[j % l.length]?=some y/\qt x y=-1 := λ i j=>by
  unfold ltOf JB;rw[decide_eq_true_iff];cases hx:l[i % l.length]? with
  | none=>simp
  | some x=>cases hy:l[j % l.length]? with
    | none=>simp
    | some y =>
      simp only[Option.getD_some];have:=yf.rng x y;constructor
      ·intro h;exact⟨x,y,rfl,rfl,by omega⟩
      ·rintro⟨_,_,h1,h2,h3⟩;cases h1;cases h2;omega
 refine⟨λ i=>?_,λ i j k h1 h2=>?_,λ i j k h1 h2=>?_⟩
 ·rw[Bool.eq_false_iff];intro h;obtain⟨x,y,h1,h2,h3⟩:=(hlt _ _).1 h;rw[h1]at h2;cases h2;rw[qsa]at h3;cases h3
 ·obtain⟨x,y,a1,a2,a3⟩:=(hlt _ _).1 h1;obtain⟨y',z,b1,b2,b3⟩:=(hlt _ _).1 h2;rw[a2]at b1;cases b1;exact(hlt _ _).2 ⟨x,z,a1,b2,yf.trans x y z a3 b3⟩
 ·rw[Bool.eq_false_iff]at h1 h2 |-
  intro h;obtain⟨x,z,a1,a2,a3⟩:=(hlt _ _).1 h;have hn:0<l.length:=by have:=getElem?_lt a1;omega
  obtain⟨y,hj⟩:∃ y,l[j % l.length]?=some y:=⟨_,List.getElem?_eq_getElem (xT _ hn)⟩
  have n1:qt x y≠-1 := λ he=>h1 ((hlt _ _).2 ⟨x,_,a1,hj,he⟩);have n2:qt y z≠-1 := λ he=>h2 ((hlt _ _).2 ⟨_,z,hj,a2,he⟩);have r1:=yf.rng x y;have r2:=yf.rng y z;rcases r1 with r1 | r1 | r1
  ·exact n1 r1
  ·have:=qa3 _ _ r1;rw[<- this]at n2;exact n2 a3
  ·rcases r2 with r2 | r2 | r2
   ·exact n2 r2
   ·have:=qa3 _ _ r2;rw[this]at n1;exact n1 a3
   ·have e1:qt y x=-1:=by rw[yf.anti];omega
    have e2:qt z y=-1:=by rw[yf.anti];omega
    have e3:=yf.trans _ _ _ e2 e1;have e4:=yf.anti x z;omega
theorem qBb{k:Type}{F:Nat->T->T->Option k}{g:T->T->k}(l:List T)(h:∀ x∈l,∀ y∈l,Ev (λ m _=>F m x y) (g x y)):∃ B,∀ m,B<=m->∀ x∈l,∀ y∈l,F m x y=some (g x y):=by
 have d:∀(x:T),(∀ y∈l,Ev (λ m _=>F m x y) (g x y))->∀ r:List T,(∀ y∈r,y∈l)->∃ B,∀ m,B<=m->∀ y∈r,F m x y=some (g x y):=by
  intro x n r
  induction r with
  | nil=>exact λ _=>⟨0,λ _ _ y f=>by cases f⟩
  | cons y r e =>
    intro b;obtain⟨B,j⟩:=e λ z a=>b z (wg _ a);obtain⟨D,i⟩:=n y (b y (wh ..));refine⟨max B D,λ m o z a=>?_⟩;rcases wy.1 a with rfl | a
    ·exact i m D (by omega) (wb _)
    ·exact j m (by omega) z a
 have c:∀ r:List T,(∀ y∈r,y∈l)->∃ B,∀ m,B<=m->∀ x∈r,∀ y∈l,F m x y=some (g x y):=by
  intro r
  induction r with
  | nil=>exact λ _=>⟨0,λ _ _ y f=>by cases f⟩
  | cons x r e =>
    intro b;obtain⟨B,j⟩:=e λ z a=>b z (wg _ a);obtain⟨D,i⟩:=d x (h x (b x (wh ..))) l λ _ h=>h;refine⟨max B D,λ m o z a=>?_⟩;rcases wy.1 a with rfl | a
    ·exact i m (by omega)
    ·exact j m (by omega) z a
 exact c l λ _ h=>h
theorem qDK{α : Type}{l:List α}{b:List Nat}:∀ x∈pick l b,x∈l := λ x a=>by
 unfold pick at a;obtain⟨i,_,h⟩:=xa.1 a;exact wa h
theorem qNK(l:List T)(hl:l.length<=100000)(hs:∀ t∈l,size t<=1000000000):∃ l',Ev (λ m _=>za m l) l'/\l'.length=l.length/\∀ x∈l',x∈l:=by
 cases hl0:l with
 | nil=>exact⟨[],waB (Ev.congr (wav _) λ m _=>rfl),rfl,λ x h=>h⟩
 | cons x0 r0 =>
   rw[<- hl0];obtain⟨B,hB⟩:=qBb (F := λ m x y=>qA m x y) l λ x hx y hy=>qd6 x (hs x hx) y (hs y hy);have hne:l≠[]:=by rw[hl0];exact vC _ _
   have hO:=qP0 l;obtain⟨hp,_⟩:=qtq (λ x y=>some (qt x y)) l hO;have hlt:∀ i∈qbm (λ x y=>some (qt x y)) l,i<l.length := λ i hi=>kS.1 (hp.mem_iff.1 hi);refine⟨pick l (qbm (λ x y=>some (qt x y)) l),waB ⟨B,λ m k hm _=>?_⟩,by rw[qpq hlt,hp.length_eq,xm],qDK⟩;show za (m+1) l=_;rw[qdf];have hcf:JB (qA m) l=JB (λ x y=>some (qt x y)) l:=qNJ (hB m hm);have hall:qde (qA m) l=true:=qzr λ x hx y hy=>by rw[hB m hm x hx y hy];rfl
   have hix:qbm (qA m) l=qbm (λ x y=>some (qt x y)) l:=by unfold qbm;rw[hcf]
   have e:qsN (qA m) l=cond (Nat.ble l.length 100000&&(qde (qA m) l&&qtB l.length (ltOf (JB (qA m) l)))) (some (pick l (qbm (qA m) l))) none:=by rw[hl0];rfl
   rw[e,hcf,hall,hix,qNi hO,show Nat.ble l.length 100000=true from xH hl];rfl
theorem qGJ(l:List T)(A:l.length<=100000)(v:∀ t∈l,size t<=1000000000):∃ r,Ev (λ m _=>qI m l) ((),r,())/\(r=[]↔l=[])/\r.length<=l.length/\∀ x∈r,x∈l:=by
 cases b:l with
 | nil=>exact⟨[],waB (Ev.congr (wav _) λ m _=>rfl),Iff.rfl,wb _,λ x h=>h⟩
 | cons D E =>
   rw[<- b]
   obtain⟨B,z⟩:=qBb (F := λ m x y=>jk m x y) (g := λ x y=>ieq (qt x y) 0) l λ x d y c=>by
    refine waB ?_;simp only[qt6,qf0,qk];exact wau (qd6 x (v x d) y (v y c)) (wav _)
   have n:l≠[]:=by rw[b];exact vC _ _
   have f:0<l.length:=xg.2 n;obtain⟨a,s⟩:∃ a,a=qlr (λ x y=>some (ieq (qt x y) 0)) l:=⟨_,rfl⟩
   have o:∀ i∈zG a l.length,i<l.length:=qzI
   have p:(zG a l.length).length<=l.length:=by
    have:=xG (λ i=>decide (i=0) || !a i (i-1)) (List.range l.length);rw[xm]at this;exact this
   have C:0∈zG a l.length:=kK.2 ⟨kS.2 f,by simp⟩;refine⟨pick l (zG a l.length),waB ⟨B,λ m k w _=>?_⟩,⟨λ h=>?_,λ h=>absurd h n⟩,by rw[qpq o];exact p,qDK⟩
   ·show qI (m+1) l=_;rw[qcc]
    have u:qlr (jk m) l=a:=by
     rw[s];funext i j;unfold qlr;cases d:l[i % l.length]? with
     | none=>rfl
     | some x=>cases c:l[j % l.length]? with
       | none=>rfl
       | some y=>simp only;rw[z m w x (wa d) y (wa c)]
    have q:qde (jk m) l=true:=qzr λ x d y c=>by rw[z m w x d y c];rfl
    have e:qAR (jk m) l=cond (Nat.ble l.length 100000&&qde (jk m) l) (some (pick l (zG (qlr (jk m) l) l.length))) none:=by rw[b];rfl
    unfold qvO;rw[e,q,u,show Nat.ble l.length 100000=true from xH A];rfl
   ·have:=qpq o;rw[h]at this;have G:=List.length_pos_of_mem C;simp at this;omega
theorem qGj(l:List T)(w:l.length<=100000)(f:∀ t∈l,size t<=1000000000):∃ o,Ev (λ m _=>qhX m l) ((),o,())/\(o=[]↔l=[]):=by
 obtain⟨u,e1,b,n⟩:=qNK l w f;obtain⟨a,A,r,B,s⟩:=qGJ u (by omega) λ t v=>f t (n t v);refine⟨a,?_,r.trans ⟨λ h=>wj (by rw[<- b,h];rfl),λ h=>wj (by rw[b,h];rfl)⟩⟩;refine waB ?_;simp only[qyB,qeG];refine wau e1 (waw (by rw[b,Nat.beq_refl]) (wau A ?_))
 have c:=qp (P := λ i=>Ev (λ m k=>J2 m k a.length i a) ((),a,())) a (by omega)
  (λ g=>by
   refine waC ?_;simp only[qmW,qey];exact wax g (wav _))
  (λ i x d C g q y z=>by
   refine waC ?_;simp only[qmW,qey,qk];refine waw g (way q (wau (quJ x (f x (n x (s x (wa d))))) (way q ?_)));rw[y]
   have e:yq a (i:Int) x=a:=by
    rw[QK];apply xd;intro j;by_cases p:i=j
    ·subst p;rw[List.getElem?_set_self (getElem?_lt d)];exact d.symm
    ·rw[List.getElem?_set_ne p]
   rw[e];exact z)
 exact waD (L := λ m k=>J2 m k a.length 0 a) (c 0 (we _))
theorem qNg(t:T)(d:size t<=100000):∃ l,Ev (λ m _=>qnN m t) l/\(l=[]↔zK 1 t=[]):=by
 obtain⟨l,f,e⟩:=qGj (zK 1 t) (wD (qkx 1 t) d) λ u c=>by have:=qyQ 1 t u c;omega
 refine⟨l,?_,e⟩;refine waB ?_;simp only[qEa,qlT,qk];refine wau (a:=l) (waB ?_) (wav _);simp only[qAj,qiM,qk];have b:=qM5 t 1 (by omega) [] (by rw[w7];omega);rw[kV]at b;exact wau b (wau f (waA rfl))
theorem qFL(l:List T)(t:T):Jn l t≠[]:=by
 cases l with
 | nil=>simp[Jn]
 | cons x l =>
   unfold Jn
   repeat' split
   all_goals exact vC _ _
theorem qN6(l:List T)(o:szL l<=1000000000):Ev (λ m _=>qnk m l) (l.foldl Jn []):=by
 have g:=jT l;refine waB ?_;simp only[qD3,qh3]
 have n:∀(l a:List T),szL (l.foldl Jn a)<=szL a+szL l:=by
  intro l
  induction l with
  | nil=>intro a;simp[szL]
  | cons x l f=>intro a;rw[kg,qS];have:=f (Jn a x);have:=qyC x a;omega
 have b:=qp (P := λ i=>Ev (λ m k=>qcq m k l ((l.take i).foldl Jn []) i) (l.foldl Jn [])) l (by omega)
  (λ c=>by
   refine waC ?_;simp only[qrl,qhK];refine wax c ?_;rw[wC];exact wav _)
  (λ i x d p c j h e=>by
   refine waC ?_;simp only[qrl,qhK,qk];have r:=n (l.take i) [];have q:=Qz d;have s:szL ([]:List T)=0:=rfl;refine waw c (way j (wau (qIe _ x (by omega)) ?_));rw[h,qt4];rw[zH d,xe]at e;exact e)
 exact waD (L := λ m k=>qcq m k l [] 0) (b 0 (we _))
theorem qIy(l:List T):l.foldl Jn []=[]↔l=[]:=by
 constructor
 ·intro h;cases d:l with
  | nil=>rfl
  | cons x r =>
    exfalso
    have b:∀(r a:List T),a≠[]->r.foldl Jn a≠[]:=by
     intro r
     induction r with
     | nil=>intro a h;exact h
     | cons y r c=>intro a _;exact c _ (qFL _ _)
    rw[d,kg]at h;exact b r _ (qFL _ _) h
 ·intro h;rw[h];rfl
theorem qKF(t:T)(k:Int)(g:size t<=10000):Ev (λ m _=>qkP m t k) ((zK k t).foldl Jn []):=by
 refine waB ?_;simp only[qCB,qgr,qk];refine wau (qE3 t (by omega)) ?_;have h:=qqb t
 have a:szL (zK k t)<=1000000000:=by
  have s:=qGb (qyQ k t);have r:(zK k t).length*size t<=10000*10000:=vQ (wD (qkx k t) g) g;omega
 have d:=qp (P := λ i=>Ev (λ m c=>qba m c k (Jk t) i (((Jk t).take i).filter λ x=>decide (x.kind=k))) ((zK k t).foldl Jn [])) (Jk t) (by omega)
  (λ e=>by
   refine waC ?_;simp only[qqH,qgC];refine wax e ?_;rw[wC];exact wau (qN6 (zK k t) a) (wav _))
  (λ i x n o e l j f=>by
   refine waC ?_;simp only[qqH,qgC,qk];have q:=xG (λ x:T=>decide (x.kind=k)) ((Jk t).take i);have p:=List.length_take_le' i (Jk t);rw[zH n,xU]at f;refine waw e (way l ?_);by_cases b:x.kind=k
   ·refine waw (qj.2 b) (way l (waw (qE (by omega) (by omega)) ?_));rw[j];simpa[b]using f
   ·refine wax (qg.2 b) ?_;rw[j];simpa[b]using f)
 exact waD (L := λ m c=>qba m c k (Jk t) 0 []) (d 0 (we _))
theorem qIT(t:T)(c:size t<=10000):Ev (λ m _=>qhH m t) (qd9 t):=by
 have b:Ev (λ m _=>qkY m t) ((zK 1 t).foldl Jn []):=by
  refine waB ?_;simp only[qBH,qj2,qk];exact wau (qKF t 1 c) (wav _)
 refine waB ?_;simp only[qxu,qhP,qk];refine wau b (waA ?_);unfold qd9;by_cases h:zK 1 t=[]
 ·rw[h];rfl
 ·have a:(zK 1 t).foldl Jn []≠[] := λ a=>h ((qIy _).1 a);have e:0<((zK 1 t).foldl Jn []).length:=xg.2 a;rw[qg.2 (by omega)];cases d:zK 1 t with
  | nil=>exact absurd d h
  | cons x r=>rfl
end Go.AmZ
namespace Go.AmZ
open Go Go.GxZ
def nmL:List (List UInt8):=[[112,97,105,114],[101,110,99],[97,101,110,99],[112,107],[115,105,103,110],[104,97,115,104],[120,111,114],[122,101,114,111],[101,120,112],[109,117,108],[105,110,118],[111,110,101],[115,107],[115,104,107],[110,101,119]]
def esL:List (List UInt8 × (Int × Int)):=[([112,97,105,114],(2,2)),([101,110,99],(2,2)),([97,101,110,99],(2,2)),([112,107],(1,1)),([115,105,103,110],(2,2)),([104,97,115,104],(1,1)),([120,111,114],(2,8)),([122,101,114,111],(0,0)),([101,120,112],(2,2)),([109,117,108],(2,8)),([105,110,118],(1,1)),([111,110,101],(0,0)),([115,107],(1,1)),([115,104,107],(2,2)),([110,101,119],(1,8))]
theorem qvV:esL.map (·.1)=nmL:=rfl
def qaw(n:List UInt8):Bool:=qx n qc9||(qx n qfb||qx n qim)
def qp0:List (List UInt8 × (Int × Int))->List UInt8->Nat->Int
 | [],_,_=>-1
 | r::l,n,i=>if qx r.1 n=true then(i:Int)else qp0 l n (i+1)
def qpM:List (List UInt8)->List UInt8->Nat->Int
 | [],_,_=>0
 | r::l,n,i=>if qx r n=true then(i:Int)else qpM l n (i+1)
theorem qCs:∀(l:List (List UInt8 × (Int × Int))) (n:List UInt8) (i:Nat),n∈l.map (·.1)->qp0 l n i=qpM (l.map (·.1)) n i/\∃(j:Nat) (r:List UInt8 × (Int × Int)),qp0 l n i=((i+j:Nat):Int)/\l[j]?=some r/\r.1=n
 | [],_,_,h=>by cases h
 | r::l,n,i,h=>by
   rw[qp0,wo,qpM];by_cases a:qx r.1 n=true
   ·rw[if_pos a,if_pos a];exact⟨rfl,0,r,rfl,rfl,yV.1 a⟩
   ·rw[if_neg a,if_neg a];rw[wo]at h;rcases wy.1 h with h | h
    ·exact absurd (yV.2 h.symm) a
    ·obtain⟨e,j,q,d,c,b⟩:=qCs l n (i+1) h;exact⟨e,j+1,q,by rw[d];omega,by simpa using c,b⟩
def hdE(n:List UInt8):Int:=iw .u8 (iw .i64 (qe 16 (qpM nmL n 0)))
def bI:T->List Int:=T.para λ t a=>if t.kind=2 then[iw .u8 t.sort,iw .u8 t.name.length]++Qx t.name else(if qaw t.name then[hdE t.name]++[iw .u8 t.kids.length]else[hdE t.name])++a.flatten
theorem qsH(t:T):bI t=if t.kind=2 then[iw .u8 t.sort,iw .u8 t.name.length]++Qx t.name else(if qaw t.name then[hdE t.name]++[iw .u8 t.kids.length]else[hdE t.name])++(t.kids.map bI).flatten:=T.para_eq _ _
def okN(u:T):Prop:=(u.kind=2\/u.kind=3/\u.name∈nmL)/\u.name.length<=24
def okE(t:T):Prop:=∀ u∈Jk t,okN u
theorem qxl{t:T}(h:okE t):okN t:=h t (by rw[qc0];exact wh ..)
theorem qxH{t k:T}(h:okE t)(b:k∈t.kids):okE k := λ u a=>h u (by
 rw[qc0];exact wg _ (vk.2 ⟨_,ww.2 ⟨k,b,rfl⟩,a⟩))
theorem qqg(s:List UInt8):(Qx s).length=s.length:=wB ..
theorem qch(s:List Int):(qC s).length=s.length:=wB ..
theorem qfL(a b:List Int):qC (a++b)=qC a++qC b:=wS ..
theorem quw(s:List UInt8):qC (Qx s)=s:=by
 unfold qC Qx;rw[xi];refine(k8 (g:=id) λ c _=>?_).trans (List.map_id _);show UInt8.ofNat (Int.toNat ((c.toNat:Nat):Int))=c;rw[wF];exact UInt8.ofNat_toNat
theorem qPd(t:T):okE t->(bI t).length<=26*size t:=by
 induction t using T.ind with
 | h t d =>
   intro h;have f:=(qxl h).2;rw[qsH,qM];split
   ·rw[wc,qqg];show 2+_<=_;omega
   ·have c:∀ l:List T,(∀ k∈l,k∈t.kids)->((l.map bI).flatten).length<=26*(l.map size).sum:=by
      intro l
      induction l with
      | nil=>intro _;exact we _
      | cons k l a =>
        intro b;have f:=d k (b k (wh ..)) (qxH h (b k (wh ..)));have i:=a λ x e=>b x (wg _ e);rw[wo,xX,wc,wo,kD];omega
    have:=c t.kids λ _ h=>h;rw[wc];have g:(if qaw t.name=true then[hdE t.name]++[iw .u8 t.kids.length]else[hdE t.name]).length<=2:=by split<;>simp
    omega
theorem qEY{n:List UInt8}(h:(qD n).2.2≠0)(a:pPl n=true):n∈nmL:=by
 have all:∀ r∈yZ,r.2.2.2≠3->r.1∈nmL:=by decide
 unfold pPl at a;unfold qD at h a;cases b:yZ.find? λ r=>r.1==n with
 | none=>rw[b]at h;exact absurd rfl h
 | some r =>
   rw[b]at a;have e:=List.mem_of_find?_eq_some b;have d:=List.find?_some b;have c:r.1=n:=by simpa using d
   rw[bnt,qg]at a;rw[<- c];exact all r e a
theorem qws{t:T}(h:yS t=0):t.name.length<=24/\(t.kind=1\/t.kind=2\/t.kind=3)/\(t.kind≠3->t.kids=[]):=by
 unfold yS qgG at h
 have a:yK t.name=true->t.name.length<=24 := λ a=>by
  unfold yK at a;simp only[wd,decide_eq_true_eq]at a;exact a.1.1.2
 cases b:yK t.name with
 | false =>
   rw[b]at h;simp only[vU,if_false]at h;exfalso;revert h
   repeat' split
   all_goals omega
 | true =>
   rw[b]at h;refine⟨a b,?_,λ c=>?_⟩
   ·revert h;repeat' split
    all_goals intro h;omega
   ·apply wj;revert h;repeat' split
    all_goals intro h;omega
theorem qPI(t:T):jh t=0->zj t=0->qdX pPl t=true->zK 1 t=[]->okE t:=by
 induction t using T.ind with
 | h t r =>
   intro v j e i;obtain⟨x,w⟩:=qjf v;obtain⟨p,o,n⟩:=qws x;rw[qm0,wd]at e;rw[qnH]at i;obtain⟨f,q⟩:=wT.1 i;have c:t.kind≠1 := λ h=>by rw[if_pos h]at f;cases f
   intro u b;rw[qc0]at b;rcases wy.1 b with rfl | b
   ·refine⟨?_,p⟩;rcases o with h | h | h
    ·exact absurd h c
    ·exact .inl h
    ·refine .inr ⟨h,?_⟩;obtain⟨z,_⟩:=qa2 h j;obtain⟨m,_⟩:=qpQ h z;have g:=e.1;rw[show(u.kind==3)=true from beq_iff_eq.2 h]at g;exact qEY m (by simpa using g)
   ·obtain⟨l,s,b⟩:=vk.1 b;obtain⟨k,a,rfl⟩:=ww.1 s
    have d:t.kind=3:=by
     by_cases h:t.kind=3
     ·exact h
     ·rw[n h]at a;cases a
    obtain⟨_,y⟩:=qa2 d j;refine r k a (w k a) (y k a) ?_ ?_ u b
    ·have:=wu.1 e.2 (qdX pPl k) (ww.2 ⟨k,a,rfl⟩);exact this
    ·exact wai.1 q _ (ww.2 ⟨k,a,rfl⟩)
end Go.AmZ
namespace Go.AmZ
open Go Go.GxZ
theorem qE0(t:T):T.mk t.kind t.name t.sort t.kids=t:=qk t
theorem qOY(t:T):Ev (λ m _=>q9 m esL t) ((t,()),(qp0 esL t.name 0,())):=by
 refine waB ?_;simp only[JQ,qQ]
 have b:=qp (P := λ i=>Ev (λ m k=>qu m k esL esL.length i t.kind t.name t.sort t.kids) ((t,()),(qp0 (esL.drop i) t.name i,()))) esL (by decide)
  (λ c=>by
   refine waC ?_;simp only[yY,qP];refine wax c (waA ?_);rw[wU,qp0,qE0])
  (λ i x j f c e d g=>by
   refine waC ?_;simp only[yY,qP,qE0];refine waw c (way e ?_);refine wau (a:=((t,()),(qx x.1 t.name,()))) (waB (waA ?_)) ?_
   ·show _=_;simp only[qmL,qbb,qk]
   rw[f,qp0,d];refine waz (λ h=>?_) λ h=>?_
   ·rw[if_pos h];simp only[qk];exact wav _
   ·rw[if_neg (by rw[show qx x.1 t.name=false from h];decide)];exact g)
 exact waD (L := λ m k=>qu m k esL esL.length 0 t.kind t.name t.sort t.kids) (b 0 (we _))
theorem qMV(n:List UInt8):Ev (λ m _=>qjp m n) (qpM nmL n 0):=by
 refine waB ?_;simp only[qAE,qfz];refine wau (a:=nmL) (waB (wav _)) ?_
 have b:=qp (P := λ i=>Ev (λ m k=>qaF m k n nmL i) (qpM (nmL.drop i) n i)) nmL (by decide)
  (λ c=>by
   refine waC ?_;simp only[qor,qfo];refine wax c (waA ?_);rw[wU,qpM])
  (λ i x j f c e d g=>by
   refine waC ?_;simp only[qor,qfo];refine waw c (way e ?_);rw[f,qpM,d];refine waz (λ h=>?_) λ h=>?_
   ·rw[if_pos h];exact wav _
   ·rw[if_neg (by rw[h];decide)];exact g)
 exact waD (L := λ m k=>qaF m k n nmL 0) (b 0 (we _))
theorem qFd(n:List UInt8):Ev (λ m _=>qdP m n) (qaw n):=by
 refine waB ?_;simp only[qvK,qgL];unfold qaw;refine waz (λ h=>waA ?_) λ h=>waz (λ a=>waA ?_) λ a=>waA ?_
 ·rw[show qx n qc9=true from h];rfl
 ·rw[show qx n qc9=false from h,show qx n qfb=true from a];rfl
 ·rw[show qx n qc9=false from h,show qx n qfb=false from a];rfl
theorem qH3:∀ r∈esL,qd (ieq r.2.1 r.2.2)=qaw r.1:=by decide
theorem qzf(t:T)(i:Nat):((t.kids.take i).map bI).flatten.length<=(t.kids.map bI).flatten.length:=by
 have:=congrArg (λ l=>(l.map bI).flatten.length) (kz i t.kids);simp only[wS,xo,wc]at this;omega
theorem qm7{t x:T}{i:Nat}(a:t.kids[i]?=some x):((t.kids.take (i+1)).map bI).flatten=((t.kids.take i).map bI).flatten++bI x:=by
 rw[zH a,wS,xo];simp
theorem qKM(t:T):okE t->size t<=100000->∀ c:List Int,c.length+(bI t).length<=1000000000->Ev (λ m _=>zV m c t) ((),(c++bI t,())):=by
 induction t using T.ind with
 | h t B =>
   intro f J c C;obtain⟨l,K⟩:=qxl f;refine waB ?_;simp only[quc,qcQ,qk];rcases l with l | ⟨l,g⟩
   ·rw[qsH,if_pos l];refine waw (bnt.2 (qg.2 (by omega))) ?_;refine waw (qE (by omega) (by omega)) ?_;refine waw (qE (by rw[wc,qqg];show(c.length+2+_)*1<=_;omega) (by omega)) (waA ?_);rw[wi]
   ·have q:t.kind≠2:=by omega
    refine wax (bnf.2 (qj.2 l)) ?_;obtain⟨A,j,r,v,u,z⟩:=qCs esL t.name 0 (by rw[qvV];exact g);rw[wI]at v;refine wau (a:=esL) (waB (wav _)) (wau (qOY t) ?_);refine waw (qE (by omega) (by omega)) (wau (a:=esL) (waB (wav _)) (way (a:=r) (by rw[v,zb,u]) ?_));refine wau (a:=qaw t.name) (waB (waA ?_)) ?_
    ·simp only[qej,QE];rw[<- z];exact qH3 r (wa u)
    rw[show iw .u8 (iw .i64 (qe 16 (qp0 esL t.name 0)))=hdE t.name by unfold hdE;rw[A,qvV]];obtain⟨e,b⟩:∃ e,e=(if qaw t.name then[hdE t.name]++[iw .u8 (t.kids.length:Int)]else[hdE t.name]):=⟨_,rfl⟩
    have w:bI t=e++(t.kids.map bI).flatten:=by rw[qsH,if_neg q,b]
    rw[w,wc]at C;have D:=yB t
    have o:=qp (P := λ i=>Ev (λ m k=>jY m (zV m) k t.kids t.kids.length i ((c++e)++((t.kids.take i).map bI).flatten)) ((),(c++bI t,()))) t.kids (by omega)
     (λ s=>by
      refine waC ?_;simp only[qkk,qcE];refine wax s (waA ?_);rw[wC,w,wi])
     (λ i x p G s F E y=>by
      refine waC ?_;simp only[qkk,qcE,qk];have g:=wa p;have M:=jM t x g;have I:=qzf t (i+1);rw[qm7 p,wc]at I;refine waw s (way F (wau (B x g (qxH f g) (by omega) _ (by rw[wc,wc];omega)) ?_));rw[qm7 p,<- wi]at y;rw[E];exact y)
    have d:=o 0 (we _);rw[xE,vw,List.flatten_nil,wA]at d;cases n:qaw t.name with
    | true =>
      rw[n]at b;have b:e=[hdE t.name]++[iw .u8 (t.kids.length:Int)]:=b;have H:e.length=2:=by rw[b];rfl
      rw[b,<- wi]at d;exact waw rfl (waw (qE (by rw[wc];show(c.length+1+1)*1<=_;omega) (by omega)) (waD (L := λ m k=>jY m (zV m) k t.kids t.kids.length 0 _) d))
    | false =>
      rw[n]at b;have b:e=[hdE t.name]:=b;rw[b]at d;exact wax rfl (waD (L := λ m k=>jY m (zV m) k t.kids t.kids.length 0 _) d)
theorem qJz(t:T):okE t->size t<=100000->(bI t).length<=1000000000->Ev (λ m _=>jp m t) (qC (bI t)):=by
 induction t using T.ind with
 | h t r =>
   intro d A s;obtain⟨f,B⟩:=qxl d;refine waB ?_;simp only[qAB,qfn];rcases f with f | ⟨f,j⟩
   ·rw[qsH,if_pos f,qfL,quw];exact waw (qj.2 f) (waw (qi2 (by rw[qch];show 2+_<_;omega)) (wav _))
   ·have e:t.kind≠2:=by omega
    refine wax (qg.2 e) (wau (qMV t.name) (wau (qFd t.name) ?_));rw[show iw .u8 (iw .i64 (qe 16 (qpM nmL t.name 0)))=hdE t.name from rfl];obtain⟨c,a⟩:∃ c,c=(if qaw t.name then[hdE t.name]++[iw .u8 (t.kids.length:Int)]else[hdE t.name]):=⟨_,rfl⟩
    have p:bI t=c++(t.kids.map bI).flatten:=by rw[qsH,if_neg e,a]
    rw[p,wc]at s;have u:=yB t
    have l:=qp (P := λ i=>Ev (λ m k=>Jz m (jp m) k (qC (c++((t.kids.take i).map bI).flatten)) i t.kind t.name t.sort t.kids) (qC (bI t))) t.kids (by omega)
     (λ o=>by
      refine waC ?_;simp only[qol,qfB];refine wax o (waA ?_);rw[wC,p])
     (λ i x n y o w v q=>by
      refine waC ?_;simp only[qol,qfB,qk];have j:=wa n;have C:=jM t x j;have z:=qzf t (i+1);rw[qm7 n,wc]at z;refine waw o (way w (wau (r x j (qxH d j) (by omega) (by omega)) (waw (qi2 (by rw[qch,qch,wc];omega)) ?_)));rw[qm7 n,<- wi,qfL]at q;rw[v];exact q)
    have b:=l 0 (we _);rw[xE,vw,List.flatten_nil,wA]at b;cases g:qaw t.name with
    | true =>
      rw[g]at a;have a:c=[hdE t.name]++[iw .u8 (t.kids.length:Int)]:=a;rw[a,qfL]at b;exact waw rfl (waw (qi2 (by rw[qch,qch];show 1+1<_;omega)) (waD (L := λ m k=>Jz m (jp m) k _ 0 t.kind t.name t.sort t.kids) b))
    | false =>
      rw[g]at a;have a:c=[hdE t.name]:=a;rw[a]at b;exact wax rfl (waD (L := λ m k=>Jz m (jp m) k _ 0 t.kind t.name t.sort t.kids) b)
end Go.AmZ
namespace Go.AmZ
open Go Go.GxZ
def okC(i:Nat)(c:UInt8):Bool:=if i=0 then qfX (c.toNat:Int)else Qp (c.toNat:Int)
def nmE(s:List UInt8)(b:Nat):Nat->Nat->Option Nat
 | 0,_=>none
 | d+1,i=>match s[b+i]? with
   | none=>some (b+i)
   | some c=>cond (okC i c) (nmE s b d (i+1)) (some (b+i))
def hdN(s:List UInt8)(a:Nat):Option (T × Nat) × Nat:=match s[a]? with
 | none=>(none,a)
 | some c=>if c.toNat<=5 then(match s[a+1]? with
   | none=>(none,a+1)
   | some n=>if n.toNat<1\/24<n.toNat then(none,a+1)else match nmE s (a+2) n.toNat 0 with
     | some e=>(none,e)
     | none=>(some (.mk 2 ((s.take (a+2+n.toNat)).drop (a+2)) c.toNat [],0),a+2+n.toNat))
   else if c.toNat<16 then(none,a)else match esL[c.toNat-16]? with
    | none=>(none,a)
    | some r=>if qaw r.1=true then(match s[a+1]? with
      | none=>(none,a+1)
      | some k=>if(k.toNat:Int)<r.2.1\/r.2.2<(k.toNat:Int)then(none,a+1)else(some (.mk 3 r.1 0 [],k.toNat),a+2))
      else(some (.mk 3 r.1 0 [],r.2.1.toNat),a+1)
theorem iwc(c:UInt8):iw .i64 ((c.toNat:Nat):Int)=(c.toNat:Int):=by
 have:=c.toNat_lt;exact jS (by omega)
theorem iwn{n:Nat}(d:Nat)(h:n+d<2 ^ 62):iw .i64 (qe (n:Int) (d:Int))=((n+d:Nat):Int):=by
 rw[qiG,jS (by omega)]
theorem qsr(s:List UInt8)(a:Nat)(b d:Int)(j:s.length<2 ^ 60) :
  Ev (λ m _=>zg m (s,((a:Int),false)) b d) (match s[a]? with
   | none=>(((s,((a:Int),true)),()),(b,()))
   | some c=>if b<=(c.toNat:Int)/\(c.toNat:Int)<=d then(((s,(((a+1:Nat):Int),false)),()),((c.toNat:Int),()))else(((s,((a:Int),true)),()),(b,()))):=by
 refine waB ?_;simp only[qn0,qbJ];refine wax rfl ?_;cases h:s[a]? with
 | none=>exact waw (yT.2 (by have:=List.getElem?_eq_none_iff.1 h;omega)) (wav _)
 | some c =>
   have k:=(List.getElem?_eq_some_iff.1 h).1;have e:qb s (a:Int)=some c:=by rw[zb];exact h
   refine wax (yo.2 (by omega)) (way e ?_);rw[iwc];by_cases g:b<=(c.toNat:Int)
   ·refine wax (qm.2 g) (way e ?_);rw[iwc];by_cases f:(c.toNat:Int)<=d
    ·have e1:iw .i64 (qe (a:Int) 1)=((a+1:Nat):Int):=iwn 1 (by omega);rw[e1]
     have i:iw .i64 (zp ((a+1:Nat):Int) 1)=(a:Int):=by
      rw[show zp ((a+1:Nat):Int) 1=(a:Int) by unfold zp;omega,jS (by omega)]
     rw[i];refine wax (qm.2 f) (way e (waA ?_));simp only[];rw[if_pos ⟨g,f⟩,iwc]
    ·refine waw (qr.2 (by omega)) (waA ?_);simp only[];rw[if_neg (λ h=>f h.2)]
   ·refine waw (qr.2 (by omega)) (waA ?_);simp only[];rw[if_neg (λ h=>g h.1)]
theorem qCy{s:List UInt8}{b:Nat}:∀{d i:Nat},nmE s b d i=none->∀ j,j<d->b+i+j<s.length
 | 0,_,_,j,f=>by omega
 | d+1,i,h,j,f=>by
   unfold nmE at h;split at h
   ·cases h
   ·rename_i c g;have e:=(List.getElem?_eq_some_iff.1 g).1;cases a:okC i c with
    | false=>rw[a]at h;cases h
    | true =>
      rw[a]at h;have h:nmE s b d (i+1)=none:=h;cases j with
      | zero=>exact e
      | succ j=>have:=qCy h j (by omega);omega
theorem qJd{α : Type}(i:Nat)(c:UInt8)(A B:Option α):(cond (ile 97 (c.toNat:Int)) (cond (ile (c.toNat:Int) 122) A (cond (ile 65 (c.toNat:Int)) (cond (qd (ile (c.toNat:Int) 90)) (cond (ieq (i:Int) 0) B (cond (ilt (c.toNat:Int) 48) (cond (qd (ieq (c.toNat:Int) 95)) (cond (qd (ieq (c.toNat:Int) 35)) B A) A) (cond (ilt 57 (c.toNat:Int)) (cond (qd (ieq (c.toNat:Int) 95)) (cond (qd (ieq (c.toNat:Int) 35)) B A) A) A))) A) (cond (ieq (i:Int) 0) B (cond (ilt (c.toNat:Int) 48) (cond (qd (ieq (c.toNat:Int) 95)) (cond (qd (ieq (c.toNat:Int) 35)) B A) A) (cond (ilt 57 (c.toNat:Int)) (cond (qd (ieq (c.toNat:Int) 95)) (cond (qd (ieq (c.toNat:Int) 35)) B A) A) A))))) (cond (ile 65 (c.toNat:Int)) (cond (qd (ile (c.toNat:Int) 90)) (cond (ieq (i:Int) 0) B (cond (ilt (c.toNat:Int) 48) (cond (qd (ieq (c.toNat:Int) 95)) (cond (qd (ieq (c.toNat:Int) 35)) B A) A) (cond (ilt 57 (c.toNat:Int)) (cond (qd (ieq (c.toNat:Int) 95)) (cond (qd (ieq (c.toNat:Int) 35)) B A) A) A))) A) (cond (ieq (i:Int) 0) B (cond (ilt (c.toNat:Int) 48) (cond (qd (ieq (c.toNat:Int) 95)) (cond (qd (ieq (c.toNat:Int) 35)) B A) A) (cond (ilt 57 (c.toNat:Int)) (cond (qd (ieq (c.toNat:Int) 95)) (cond (qd (ieq (c.toNat:Int) 35)) B A) A) A)))))=cond (okC i c) A B:=by
 generalize a:((c.toNat:Nat):Int)=x;unfold okC;rw[a];clear a;have b:ieq (i:Int) 0=decide (i=0):=by rw[qyH,xh,decide_eq_true_iff,decide_eq_true_iff];omega
 rw[b];simp only[qyH];have o:ilt x 48 = !decide (48<=x):=by unfold ilt;rw[<- decide_not,xh,decide_eq_true_iff,decide_eq_true_iff];omega
 have n:ilt 57 x = !decide (x<=57):=by unfold ilt;rw[<- decide_not,xh,decide_eq_true_iff,decide_eq_true_iff];omega
 rw[o,n];unfold Qp qfX qso ile qd;by_cases m:i=0<;>by_cases l:97<=x<;>by_cases k:x<=122<;>by_cases j:65<=x<;>by_cases h:x<=90<;>by_cases g:48<=x<;>by_cases f:x<=57<;>by_cases e:x=95<;>by_cases d:x=35<;>simp[m,l,k,j,h,g,f,e,d]<;>omega
theorem qC0(s:List UInt8)(g:s.length<2 ^ 60)(b n:Nat)(j:n<=24):∀ d i,i+d=n->b+i<=s.length ->
  Ev (λ m k=>yi m k b n i s ((b+i:Nat):Int) false) (match nmE s b d i with
   | some e=>(((s,((e:Int),true)),()),([],()))
   | none=>(((s,(((b+n:Nat):Int),false)),()),((s.take (b+n)).drop b,())))
 | 0,i,l,a=>by
   refine waC ?_;simp only[qbL,Qh];obtain rfl:i=n:=by omega
   refine wax (qm.2 (vm _)) ?_;refine waw (by unfold inb;rw[decide_eq_true_iff];omega) (waw (by unfold inb;rw[decide_eq_true_iff];omega) (waA ?_));rfl
 | d+1,i,l,a=>by
   refine waC ?_;simp only[qbL,Qh];refine waw (qr.2 (by omega)) (wax rfl ?_);rw[nmE];cases h:s[b+i]? with
   | none=>exact waw (yT.2 (by have:=List.getElem?_eq_none_iff.1 h;omega)) (wav _)
   | some c =>
     have p:=(List.getElem?_eq_some_iff.1 h).1;refine wax (yo.2 (by omega)) (way (by rw[zb];exact h) ?_);have f:=qC0 s g b n j d (i+1) (by omega) (by omega);have e1:iw .i64 (qe (i:Int) 1)=((i+1:Nat):Int):=iwn 1 (by omega);have o:iw .i64 (qe ((b+i:Nat):Int) 1)=((b+(i+1):Nat):Int):=iwn (n:=b+i) 1 (by omega);rw[e1,o];refine Ev.congr (F := λ m k=>cond (okC i c) (yi m k b n ((i+1:Nat):Int) s ((b+(i+1):Nat):Int) false) (some (((s,(((b+i:Nat):Int),true)),()),([],())))) ?_ λ m k=>qJd i c _ _;simp only[];cases okC i c with
     | true=>exact f
     | false=>exact wav _
theorem qDi(s:List UInt8)(b a:Int):Ev (λ m k=>yi m k b 1 0 s a true) (((s,(a,true)),()),([],())):=by
 refine waC ?_;simp only[qbL,Qh];exact waw rfl (waw rfl (wav _))
theorem qNA(s:List UInt8)(c:s.length<2 ^ 60)(a:Nat):Ev (λ m _=>Jd m (s,((a:Int),false))) (match s[a]? with
  | none=>(((s,((a:Int),true)),()),([],()))
  | some n=>if n.toNat<1\/24<n.toNat then(((s,((a:Int),true)),()),([],()))else match nmE s (a+1) n.toNat 0 with
    | some e=>(((s,((e:Int),true)),()),([],()))
    | none=>(((s,(((a+1+n.toNat:Nat):Int),false)),()),((s.take (a+1+n.toNat)).drop (a+1),()))):=by
 refine waB ?_;simp only[qnQ,JO];have b:=qsr s a 1 24 c;cases h:s[a]? with
 | none =>
   rw[h]at b;exact wau b (waD (qDi s a a))
 | some n =>
   rw[h]at b;simp only[]at b |-
   by_cases d:n.toNat<1\/24<n.toNat
   ·rw[if_neg (by omega)]at b;rw[if_pos d];exact wau b (waD (qDi s a a))
   ·rw[if_pos (by omega)]at b;rw[if_neg d];have f:=(List.getElem?_eq_some_iff.1 h).1;exact wau b (waD (qC0 s c (a+1) n.toNat (by omega) n.toNat 0 (by omega) (by omega)))
theorem qd7:Ev (λ m _=>yp m) esL:=by
 refine waB ?_;simp only[qq8,qea];exact wav _
theorem qo2{r:List UInt8 × (Int × Int)}(a:r∈esL):Ev (λ m _=>yz m (r.1,(r.2.1,r.2.2))) (qaw r.1):=by
 refine waB ?_;simp only[qej,QE];exact waA (qH3 r a)
theorem qsj:∀ r∈esL,0<=r.2.1/\r.2.1<=8/\r.2.2<=8:=by decide
theorem qsS(s:List UInt8)(D:s.length<2 ^ 60)(b:Nat):(∀ t n p,hdN s b=(some (t,n),p)->Ev (λ m _=>qw m (s,((b:Int),false))) (((s,((p:Int),false)),()),((t.kind,(t.name,(t.sort,([],((n:Int),()))))),()))) /\
  (∀ e,hdN s b=(none,e)->∃ nk nm sk lf,Ev (λ m _=>qw m (s,((b:Int),false))) (((s,((e:Int),true)),()),((nk,(nm,(sk,([],(lf,()))))),()))):=by
 have K:∃ v:(Val RD × Unit) × ((Int × List UInt8 × Int × List T × Int × Unit) × Unit),Ev (λ m _=>qw m (s,((b:Int),false))) v/\match hdN s b with
   | (some (t,n),p)=>v=(((s,((p:Int),false)),()),((t.kind,(t.name,(t.sort,([],((n:Int),()))))),()))
   | (none,e)=>∃ nk nm sk lf,v=(((s,((e:Int),true)),()),((nk,(nm,(sk,([],(lf,()))))),())):=by
  have y:(∀ c,s[b]?=some c->¬ c.toNat<=5)->∃ v:(Val RD × Unit) × ((Int × List UInt8 × Int × List T × Int × Unit) × Unit),Ev (λ m _=>qa (yp m) λ J=>qa (yp m) λ I=>qa (zg m (s,((b:Int),false)) 16 (iw .i64 (zp (iw .i64 (qe 16 (List.length I))) 1))) λ j=>qa (qb J (iw .i64 (zp j.2.1 16))) λ g=>qa (yz m (g.1,(g.2.1,g.2.2))) λ H=>cond H (qa (zg m (j.1.1.1,(j.1.1.2.1,j.1.1.2.2)) g.2.1 g.2.2) λ o=>some (((o.1.1.1,(o.1.1.2.1,o.1.1.2.2)),()),((3,(g.1,(0,([],(o.2.1,()))))),()))) (some (((j.1.1.1,(j.1.1.2.1,j.1.1.2.2)),()),((3,(g.1,(0,([],(g.2.1,()))))),())))) v/\match hdN s b with
   | (some (t,n),p)=>v=(((s,((p:Int),false)),()),((t.kind,(t.name,(t.sort,([],((n:Int),()))))),()))
   | (none,e)=>∃ nk nm sk lf,v=(((s,((e:Int),true)),()),((nk,(nm,(sk,([],(lf,()))))),())):=by
   intro B;have f:=qsr s b 16 30 D
   have fail:(match s[b]? with
    | none=>True
    | some c=>c.toNat<16\/30<c.toNat)->∃ v:(Val RD × Unit) × ((Int × List UInt8 × Int × List T × Int × Unit) × Unit),Ev (λ m _=>qa (yp m) λ J=>qa (yp m) λ I=>qa (zg m (s,((b:Int),false)) 16 (iw .i64 (zp (iw .i64 (qe 16 (List.length I))) 1))) λ j=>qa (qb J (iw .i64 (zp j.2.1 16))) λ g=>qa (yz m (g.1,(g.2.1,g.2.2))) λ H=>cond H (qa (zg m (j.1.1.1,(j.1.1.2.1,j.1.1.2.2)) g.2.1 g.2.2) λ o=>some (((o.1.1.1,(o.1.1.2.1,o.1.1.2.2)),()),((3,(g.1,(0,([],(o.2.1,()))))),()))) (some (((j.1.1.1,(j.1.1.2.1,j.1.1.2.2)),()),((3,(g.1,(0,([],(g.2.1,()))))),())))) v/\match hdN s b with
   | (some (t,n),p)=>v=(((s,((p:Int),false)),()),((t.kind,(t.name,(t.sort,([],((n:Int),()))))),()))
   | (none,e)=>∃ nk nm sk lf,v=(((s,((e:Int),true)),()),((nk,(nm,(sk,([],(lf,()))))),())):=by
     intro F
     have L:Ev (λ m _=>zg m (s,((b:Int),false)) 16 30) (((s,((b:Int),true)),()),(16,())):=by
      cases h:s[b]? with
      | none=>rw[h]at f;exact f
      | some c =>
        rw[h]at f F;simp only[]at f F;rw[if_neg (by omega)]at f;exact f
     have A:hdN s b=(none,b):=by
      unfold hdN;cases h:s[b]? with
      | none=>rfl
      | some c =>
        rw[h]at F;simp only[]at F |-
        rw[if_neg (B c h)];by_cases C:c.toNat<16
        ·rw[if_pos C]
        ·rw[if_neg C,show esL[c.toNat-16]?=none from List.getElem?_eq_none_iff.2 (by show 15<=_;omega)]
     rw[A];refine⟨_,wau qd7 (wau qd7 (wau L (way (a:=([112,97,105,114],(2,2))) rfl (wau (qo2 (r:=([112,97,105,114],(2,2))) (wh ..)) (wax rfl (wav _)))))),3,_,0,_,rfl⟩
   cases h:s[b]? with
   | none=>rw[h]at fail;exact fail trivial
   | some c =>
     by_cases E:c.toNat<16\/30<c.toNat
     ·exact fail (by rw[h];exact E)
     ·rw[h]at f;simp only[]at f;rw[if_pos (by omega)]at f;have z:c.toNat-16<esL.length:=by show _<15;omega
      have q:=List.getElem?_eq_getElem z;generalize esL[c.toNat-16]=r at q;have i:=wa q;obtain⟨R,Q,P⟩:=qsj r i
      have A:hdN s b=(if qaw r.1=true then(match s[b+1]? with
        | none=>(none,b+1)
        | some k=>if(k.toNat:Int)<r.2.1\/r.2.2<(k.toNat:Int)then(none,b+1)else(some (.mk 3 r.1 0 [],k.toNat),b+2))
       else(some (.mk 3 r.1 0 [],r.2.1.toNat),b+1)):=by
       unfold hdN;rw[h];simp only[];rw[if_neg (B c h),if_neg (by omega),q]
      rw[A]
      have w:qb esL (iw .i64 (zp (c.toNat:Int) 16))=some r:=by
       rw[show iw .i64 (zp (c.toNat:Int) 16)=((c.toNat-16:Nat):Int) by rw[show zp (c.toNat:Int) 16=((c.toNat-16:Nat):Int) by unfold zp;omega,jS (by omega)],zb];exact q
      cases u:qaw r.1 with
      | false =>
        rw[if_neg (by decide)];refine⟨_,wau qd7 (wau qd7 (wau f (way w (wau (qo2 i) (wax u (wav _)))))),?_⟩;have e:((r.2.1.toNat:Nat):Int)=r.2.1:=by omega
        show _=_;rw[e];rfl
      | true =>
        rw[if_pos rfl];have d:=qsr s (b+1) r.2.1 r.2.2 D;cases l:s[b+1]? with
        | none=>rw[l]at d;exact⟨_,wau qd7 (wau qd7 (wau f (way w (wau (qo2 i) (waw u (wau d (wav _))))))),3,_,0,_,rfl⟩
        | some k =>
          rw[l]at d;simp only[]at d |-
          by_cases N:(k.toNat:Int)<r.2.1\/r.2.2<(k.toNat:Int)
          ·rw[if_neg (by omega)]at d;rw[if_pos N];exact⟨_,wau qd7 (wau qd7 (wau f (way w (wau (qo2 i) (waw u (wau d (wav _))))))),3,_,0,_,rfl⟩
          ·rw[if_pos (by omega)]at d;rw[if_neg N];exact⟨_,wau qd7 (wau qd7 (wau f (way w (wau (qo2 i) (waw u (wau d (wav _))))))),rfl⟩
  cases h:s[b]? with
  | none =>
    obtain⟨v,l,d⟩:=y (by rw[h];intro c u;cases u);refine⟨v,waB ?_,d⟩;simp only[qcv,Qi];exact wax (qm.2 (by have:=List.getElem?_eq_none_iff.1 h;omega)) l
  | some c =>
    have S:=(List.getElem?_eq_some_iff.1 h).1;have w:qb s (b:Int)=some c:=by rw[zb];exact h
    by_cases B:c.toNat<=5
    ·have f:=qsr s b 0 5 D;rw[h]at f;simp only[]at f;rw[if_pos (by omega)]at f;have i:=qNA s D (b+1)
     have A:hdN s b=(match s[b+1]? with
      | none=>(none,b+1)
      | some n=>if n.toNat<1\/24<n.toNat then(none,b+1)else match nmE s (b+2) n.toNat 0 with
        | some e=>(none,e)
        | none=>(some (.mk 2 ((s.take (b+2+n.toNat)).drop (b+2)) c.toNat [],0),b+2+n.toNat)):=by
      unfold hdN;rw[h];simp only[];rw[if_pos B]
     rw[A]
     have G:∀ x,Ev (λ m _=>Jd m (s,(((b+1:Nat):Int),false))) x->Ev (λ m _=>qw m (s,((b:Int),false))) (((x.1.1.1,(x.1.1.2.1,x.1.1.2.2)),()),((2,(x.2.1,((c.toNat:Int),([],(0,()))))),())) := λ x O=>by
      refine waB ?_;simp only[qcv,Qi];exact waw (qr.2 (by omega)) (way w (waw (yT.2 (by omega)) (wau f (wau O (wav _)))))
     cases l:s[b+1]? with
     | none=>rw[l]at i;exact⟨_,G _ i,2,_,_,_,rfl⟩
     | some n =>
       rw[l]at i;simp only[]at i |-
       by_cases E:n.toNat<1\/24<n.toNat
       ·rw[if_pos E]at i |-;exact⟨_,G _ i,2,_,_,_,rfl⟩
       ·rw[if_neg E]at i |-
        cases d:nmE s (b+2) n.toNat 0 with
        | some e=>rw[show b+1+1=b+2 from rfl,d]at i;exact⟨_,G _ i,2,_,_,_,rfl⟩
        | none=>rw[show b+1+1=b+2 from rfl,d]at i;exact⟨_,G _ i,rfl⟩
    ·obtain⟨v,l,d⟩:=y (by rw[h];intro c' u;cases u;exact B);refine⟨v,waB ?_,d⟩;simp only[qcv,Qi];exact waw (qr.2 (by omega)) (way w (wax (yo.2 (by omega)) l))
 obtain⟨v,l,d⟩:=K;refine⟨λ t n p M=>?_,λ e M=>?_⟩
 ·rw[M]at d;have d:v=_:=d;rw[<- d];exact l
 ·rw[M]at d;obtain⟨nk,nm,sk,lf,d⟩:∃ nk nm sk lf,v=_:=d;exact⟨nk,nm,sk,lf,by rw[<- d];exact l⟩
end Go.AmZ
namespace Go.AmZ
open Go Go.GxZ
def Jq(R:Nat->Option T × Nat):Nat->Nat->Option (List T) × Nat
 | 0,p=>(some [],p)
 | n+1,p=>match R p with
   | (none,e)=>(none,e)
   | (some k,a)=>match Jq R n a with
     | (none,e)=>(none,e)
     | (some ks,q)=>(some (k::ks),q)
def rdT(s:List UInt8):Nat->Nat->Option T × Nat
 | 0,p=>(none,p)
 | f+1,p=>match hdN s p with
   | (none,e)=>(none,e)
   | (some (t,n),q)=>match Jq (rdT s f) n q with
     | (none,e)=>(none,e)
     | (some ks,a)=>(some (.mk t.kind t.name t.sort ks),a)
theorem qgX{s:List UInt8}{p q n:Nat}{t:T}(h:hdN s p=(some (t,n),q)):p<q/\q<=s.length/\n<=8/\t.kids=[]/\t.name.length<=24:=by
 unfold hdN at h;cases g:s[p]? with
 | none=>rw[g]at h;cases h
 | some c =>
   rw[g]at h;have u:=(List.getElem?_eq_some_iff.1 g).1;simp only[]at h;split at h
   ·cases a:s[p+1]? with
    | none=>rw[a]at h;cases h
    | some k =>
      rw[a]at h;have f:=(List.getElem?_eq_some_iff.1 a).1;simp only[]at h;split at h
      ·cases h
      ·rename_i v;cases i:nmE s (p+2) k.toNat 0 with
       | some e=>rw[i]at h;cases h
       | none =>
         rw[i]at h;cases h;have:=qCy i (k.toNat-1) (by omega);refine⟨by omega,by omega,by omega,rfl,?_⟩;show((s.take _).drop _).length<=24;rw[wQ,wm];omega
   ·split at h
    ·cases h
    ·cases d:esL[c.toNat-16]? with
     | none=>rw[d]at h;cases h
     | some r =>
       rw[d]at h;have j:=wa d;obtain⟨o,m,l⟩:=qsj r j;have b:r.1.length<=24:=(by decide:∀ r∈esL,r.1.length<=24) r j;simp only[]at h;split at h
       ·cases a:s[p+1]? with
        | none=>rw[a]at h;cases h
        | some k =>
          rw[a]at h;have f:=(List.getElem?_eq_some_iff.1 a).1;simp only[]at h;split at h
          ·cases h
          ·cases h;exact⟨by omega,by omega,by omega,rfl,b⟩
       ·cases h;exact⟨by omega,by omega,by omega,rfl,b⟩
theorem qx1{R:Nat->Option T × Nat}{L:Nat}(h:∀ p q t,R p=(some t,q)->p<q/\q<=L):∀ n p q ks,p<=L->Jq R n p=(some ks,q)->p<=q/\q<=L/\ks.length=n
 | 0,p,q,ks,c,a=>by cases a;exact⟨wb _,c,rfl⟩
 | n+1,p,q,ks,c,a=>by
   unfold Jq at a;split at a
   ·cases a
   ·rename_i k l e;obtain⟨o,i⟩:=h _ _ _ e;split at a
    ·cases a
    ·rename_i d j b;cases a;obtain⟨m,g,f⟩:=qx1 h n _ _ _ i b;exact⟨by omega,g,by simp[f]⟩
theorem qo3(s:List UInt8):∀ f p q t,rdT s f p=(some t,q)->p<q/\q<=s.length
 | 0,p,q,t,h=>by cases h
 | f+1,p,q,t,h=>by
   unfold rdT at h;split at h
   ·cases h
   ·rename_i t0 n e b;obtain⟨j,d,_⟩:=qgX b;split at h
    ·cases h
    ·rename_i ks g a;cases h;obtain⟨i,c,_⟩:=qx1 (qo3 s f) _ _ _ _ d a;exact⟨by omega,c⟩
theorem qy0{b a:Val RD}{nk sk lf:Int}{nm:List UInt8}(h:Ev (λ m _=>qw m b) ((a,()),((nk,(nm,(sk,([],(lf,()))))),()))):Ev (λ m _=>qeY (qw m) b) (a,(nk,(nm,(sk,lf)))):=by
 obtain⟨B,h⟩:=h;refine⟨B,λ m k c d=>?_⟩;have e:qw m b=_:=h m k c d;show qeY _ b=_;unfold qeY;rw[e]
abbrev RdL := λ(a:List (T × Int)) (b:Val RD) (m k:Nat)=>qkD (qw m) k a b
theorem qBX(b:List (T × Int))(s:List UInt8)(a:Int):Ev (RdL b (s,(a,true))) (((s,(a,true)),()),(T.mk 0 [] 0 [],())):=by
 refine waC (L:=RdL b (s,(a,true))) ?_;exact wav _
theorem qFK(b:List (T × Int))(s:List UInt8)(a:Int)(t:T)(n:Nat)(i:n<8)(d:b.length<=1000000000){c:Val RD}{nk sk lf:Int}{nm:List UInt8}(h:Ev (λ m _=>qw m (s,(a,false))) ((c,()),((nk,(nm,(sk,([],(lf,()))))),()))){r:(Val RD × Unit) × (T × Unit)}
  (e:Ev (RdL ((b++[(t,(n:Int))])++[(T.mk nk nm sk [],lf)]) c) r):Ev (RdL (b++[(t,((n+1:Nat):Int))]) (s,(a,false))) r:=by
 refine waC (L:=RdL (b++[(t,((n+1:Nat):Int))]) (s,(a,false))) ?_;show Ev (λ m k=>qnz (qw m) (qkD (qw m) k) (b++[(t,((n+1:Nat):Int))]) (s,(a,false))) r;unfold qnz;have f:(b++[(t,((n+1:Nat):Int))]).length=b.length+1:=by simp
 rw[f,xV];refine wax rfl (way (a:=(t,((n+1:Nat):Int))) (by rw[List.getElem?_append_right (wb _),kJ];rfl) ?_);refine waw (qr.2 (by show(0:Int)<((n+1:Nat):Int);omega)) (waw (qE (by omega) (by decide)) (wau (qy0 h) ?_));have e1:iw .i64 (zp ((n+1:Nat):Int) 1)=(n:Int):=by rw[show zp ((n+1:Nat):Int) 1=(n:Int) by unfold zp;omega,jS (by omega)]
 have g:(b++[(t,((n+1:Nat):Int))]).set b.length (t,iw .i64 (zp ((n+1:Nat):Int) 1))=b++[(t,(n:Int))]:=by
  rw[vH _ _ (wb _),kJ,e1];rfl
 show Ev (λ m k=>qkD (qw m) k ((b++[(t,((n+1:Nat):Int))]).set b.length (t,iw .i64 (zp ((n+1:Nat):Int) 1))++[(T.mk nk nm sk [],lf)]) c) r;rw[g];exact e
theorem qPm(b:List (T × Int))(s:List UInt8)(a:Int)(t x:T)(n:Int)(g:t.kids.length<8){r:(Val RD × Unit) × (T × Unit)}
  (d:Ev (RdL (b++[(T.mk t.kind t.name t.sort (t.kids++[x]),n)]) (s,(a,false))) r):Ev (RdL ((b++[(t,n)])++[(x,0)]) (s,(a,false))) r:=by
 refine waC (L:=RdL ((b++[(t,n)])++[(x,0)]) (s,(a,false))) ?_;show Ev (λ m k=>qnz (qw m) (qkD (qw m) k) ((b++[(t,n)])++[(x,0)]) (s,(a,false))) r;unfold qnz;have f:((b++[(t,n)])++[(x,(0:Int))]).length=b.length+2:=by simp
 have c:(b++[(t,n)]).length=b.length+1:=by simp
 rw[f,show b.length+2-1=b.length+1 from rfl,xV];refine wax rfl (way (a:=(x,(0:Int))) (by rw[List.getElem?_append_right (by omega),c,kJ];rfl) ?_);refine wax (qm.2 (vm _)) (wax rfl (way (a:=(t,n)) (by rw[List.getElem?_append_left (by omega),List.getElem?_append_right (wb _),kJ];rfl) ?_));refine waw (qE (by show(t.kids.length+1)*56<=_;omega) (by decide)) ?_;have e:((b++[(t,n)])++[(x,(0:Int))]).take b.length=b:=by rw[wi,waq]
 rw[e];exact d
theorem qKA(s:List UInt8)(O:s.length<=1000000000):∀ f n p t b,s.length<p+f->p<=s.length->b.length<=p->t.kids.length+n<=8 ->
  (∀ ks q,Jq (rdT s f) n p=(some ks,q)->∀ r,Ev (RdL (b++[(T.mk t.kind t.name t.sort (t.kids++ks),0)]) (s,((q:Int),false))) r->Ev (RdL (b++[(t,(n:Int))]) (s,((p:Int),false))) r) /\
  ∀ e,Jq (rdT s f) n p=(none,e)->Ev (RdL (b++[(t,(n:Int))]) (s,((p:Int),false))) (((s,((e:Int),true)),()),(T.mk 0 [] 0 [],())):=by
 intro f
 induction f with
 | zero=>intro n p t b C B;omega
 | succ f x =>
   intro n
   induction n with
   | zero =>
     intro p t b C B J I;refine⟨λ ks q a r h=>?_,λ e a=>by cases a⟩;cases a;rw[wA]at h;have e:T.mk t.kind t.name t.sort t.kids=t:=qk t;rw[e]at h;exact h
   | succ n w =>
     intro p t b C B J I;cases j:hdN s p with
     | mk o l =>
     cases o with
     | none =>
       have k:rdT s (f+1) p=(none,l):=by unfold rdT;rw[j]
       have d:Jq (rdT s (f+1)) (n+1) p=(none,l):=by unfold Jq;rw[k]
       refine⟨λ ks q a=>(by rw[d]at a;cases a),λ e a=>?_⟩;rw[d]at a;cases a;obtain⟨nk,nm,sk,lf,y⟩:=(qsS s (by omega) p).2 _ j;exact qFK b s p t n (by omega) (by omega) y (qBX _ _ _)
     | some o =>
       obtain⟨t0,u⟩:=o;obtain⟨P,K,g3,A,_⟩:=qgX j;have y:=(qsS s (by omega) p).1 _ _ _ j;have z := λ r=>qFK b s p t n (by omega) (by omega) y (r:=r);have L:T.mk t0.kind t0.name t0.sort []=t0:=by rw[<- A];exact qk t0
       rw[L]at z;obtain⟨F,E⟩:=x u l t0 (b++[(t,(n:Int))]) (by omega) K (by rw[wc];show b.length+1<=l;omega) (by rw[A];show 0+u<=8;omega);cases m:Jq (rdT s f) u l with
       | mk o g =>
       cases o with
       | none =>
         have k:rdT s (f+1) p=(none,g):=by unfold rdT;rw[j];simp only[];rw[m]
         have d:Jq (rdT s (f+1)) (n+1) p=(none,g):=by unfold Jq;rw[k]
         refine⟨λ ks q a=>(by rw[d]at a;cases a),λ e a=>?_⟩;rw[d]at a;cases a;exact z _ (E _ m)
       | some c =>
         have k:rdT s (f+1) p=(some (.mk t0.kind t0.name t0.sort c),g):=by unfold rdT;rw[j];simp only[];rw[m]
         obtain⟨M,D⟩:=qo3 s _ _ _ _ k
         have step:∀ r,Ev (RdL (b++[(T.mk t.kind t.name t.sort (t.kids++[.mk t0.kind t0.name t0.sort c]),(n:Int))]) (s,((g:Int),false))) r->Ev (RdL (b++[(t,((n+1:Nat):Int))]) (s,((p:Int),false))) r := λ r h=>by
          refine z r (F _ _ m r ?_);rw[A];exact qPm b s g t _ n (by omega) h
         obtain⟨H,G⟩:=w g (T.mk t.kind t.name t.sort (t.kids++[.mk t0.kind t0.name t0.sort c])) b (by omega) D (by omega) (by show(t.kids++[_]).length+n<=8;rw[wc];show t.kids.length+1+n<=8;omega)
         have d:Jq (rdT s (f+1)) (n+1) p=(match Jq (rdT s (f+1)) n g with
          | (none,e)=>(none,e)
          | (some ks,q)=>(some (.mk t0.kind t0.name t0.sort c::ks),q)):=by
          rw[Jq,k]
         cases i:Jq (rdT s (f+1)) n g with
         | mk o N =>
         rw[i]at d;cases o with
         | none =>
           refine⟨λ ks q a=>(by rw[d]at a;cases a),λ e a=>?_⟩;rw[d]at a;cases a;exact step _ (G _ i)
         | some v =>
           refine⟨λ ks q a r h=>?_,λ e a=>(by rw[d]at a;cases a)⟩;rw[d]at a;cases a;refine step _ (H _ _ i r ?_);show Ev (RdL (b++[(T.mk t.kind t.name t.sort ((t.kids++[.mk t0.kind t0.name t0.sort c])++v),0)]) _) r;rw[wi];exact h
theorem qIi(s:List UInt8)(w:s.length<=1000000000):(∀ t q,rdT s (s.length+1) 0=(some t,q)->Ev (λ m _=>jB m (s,(0,false))) (((s,((q:Int),false)),()),(t,()))) /\
  ∀ e,rdT s (s.length+1) 0=(none,e)->Ev (λ m _=>jB m (s,(0,false))) (((s,((e:Int),true)),()),(T.mk 0 [] 0 [],())):=by
 have start:∀{c:Val RD} {nk sk lf:Int} {nm:List UInt8} {r:(Val RD × Unit) × (T × Unit)},Ev (λ m _=>qw m (s,(0,false))) ((c,()),((nk,(nm,(sk,([],(lf,()))))),()))->Ev (RdL [(T.mk nk nm sk [],lf)] c) r->Ev (λ m _=>jB m (s,(0,false))) r:=by
  intro c nk sk lf nm r h x;refine waB ?_;simp only[qn6];unfold qpU;exact wau (qy0 h) (waD x)
 cases d:hdN s 0 with
 | mk o j =>
 cases o with
 | none =>
   have b:rdT s (s.length+1) 0=(none,j):=by unfold rdT;rw[d]
   refine⟨λ t q a=>(by rw[b]at a;cases a),λ e a=>?_⟩;rw[b]at a;cases a;obtain⟨nk,nm,sk,lf,l⟩:=(qsS s (by omega) 0).2 _ d;exact start l (qBX _ _ _)
 | some o =>
   obtain⟨t0,k⟩:=o;obtain⟨A,y,g3,p,_⟩:=qgX d;have l:=(qsS s (by omega) 0).1 _ _ _ d;have n := λ r=>start l (r:=r);have z:T.mk t0.kind t0.name t0.sort []=t0:=by rw[<- p];exact qk t0
   rw[z]at n;obtain⟨v,u⟩:=qKA s w s.length k j t0 [] (by omega) y (we _) (by rw[p];show 0+k<=8;omega);cases g:Jq (rdT s s.length) k j with
   | mk o i =>
   cases o with
   | none =>
     have b:rdT s (s.length+1) 0=(none,i):=by unfold rdT;rw[d];simp only[];rw[g]
     refine⟨λ t q a=>(by rw[b]at a;cases a),λ e a=>?_⟩;rw[b]at a;cases a;exact n _ (u _ g)
   | some f =>
     have b:rdT s (s.length+1) 0=(some (.mk t0.kind t0.name t0.sort f),i):=by unfold rdT;rw[d];simp only[];rw[g]
     refine⟨λ t q a=>?_,λ e a=>(by rw[b]at a;cases a)⟩;rw[b]at a;cases a;refine n _ (v _ _ g _ ?_);rw[p];refine waC (L:=RdL ([]++[(T.mk t0.kind t0.name t0.sort ([]++f),(0:Int))]) (s,((i:Int),false))) ?_;exact wav _
end Go.AmZ
namespace Go.AmZ
open Go Go.GxZ
theorem qLk{i:Nat}{c:UInt8}(h:okC i c=true):Qp (c.toNat:Int)=true:=by
 unfold okC at h;split at h
 ·unfold Qp;rw[h];rfl
 ·exact h
theorem qDy{s:List UInt8}{b n:Nat}(w:n<24)(x:b+n<s.length)(h:∀ j c,j<n->s[b+j]?=some c->okC j c=true){c:UInt8}(g:s[b+n]?=some c):yK ((s.take (b+(n+1))).drop b)=okC n c:=by
 have f:((s.take (b+(n+1))).drop b).length=n+1:=by rw[wQ,wm];omega
 have a:∀ j,j<n+1->((s.take (b+(n+1))).drop b)[j]?=s[b+j]? := λ j e=>by
  rw[List.getElem?_drop,List.getElem?_take,if_pos (by omega)]
 unfold yK;rw[f,decide_eq_true (show 0<n+1 by omega),decide_eq_true (show n+1<=24 by omega)]
 have q:∀ o,s[b]?=some o->((s.take (b+(n+1))).drop b).getD 0 0=o := λ o d=>by
  rw[List.getD_eq_getElem?_getD,a 0 (by omega),wP,d];rfl
 cases n with
 | zero =>
   rw[q c g]
   have l:(s.take (b+(0+1))).drop b=[c]:=by
    apply xd;intro j;cases j with
    | zero=>rw[a 0 (by omega)];exact g
    | succ j=>rw[List.getElem?_eq_none_iff.2 (by omega)];rfl
   rw[l];unfold okC;rw[if_pos rfl];cases v:qfX (c.toNat:Int)with
   | true=>simp[Qp,v]
   | false=>rfl
 | succ n =>
   have u:b<s.length:=by omega
   have d:=List.getElem?_eq_getElem u;have k:=h 0 _ (by omega) d;unfold okC at k;rw[if_pos rfl]at k;rw[q _ d,k];have:okC (n+1) c=Qp (c.toNat:Int):=by unfold okC;rw[if_neg (by omega)]
   rw[this];cases p:Qp (c.toNat:Int)with
   | true =>
     simp only[ka,wu];intro y r;obtain⟨j,e⟩:=vG.1 r;have t:=(List.getElem?_eq_some_iff.1 e).1;rw[a j (by omega)]at e;by_cases m:j=n+1
     ·subst m;rw[g]at e;cases e;exact p
     ·exact qLk (h j y (by omega) e)
   | false =>
     simp only[ka];rw[List.all_eq_false];refine⟨c,wa (i:=n+1) ?_,by rw[p];decide⟩;rw[a (n+1) (by omega)];exact g
theorem qBz(s:List UInt8)(B:s.length<=1000000000)(a n:Nat)(g:Int)(C:n<=24)(w:1<=n):∀ d i,i+d=n->a+2+i<=s.length->(∀ j c,j<i->s[a+2+j]?=some c->okC j c=true) ->
  (∀ e,nmE s (a+2) d i=some e->∃ t,Ev (λ m k=>jK m k s a n ((i+1:Nat):Int) 0 [] 0 2 [] g [] []) (t,((e:Int),false))) /\
  (nmE s (a+2) d i=none->Ev (λ m k=>jK m k s a n ((i+1:Nat):Int) 0 [] 0 2 [] g [] []) (.mk 2 ((s.take (a+2+n)).drop (a+2)) g [],(((a+2+n:Nat):Int),true)))
 | 0,i,E,F,l=>by
   obtain rfl:i=n:=by omega
   refine⟨λ e f=>(by cases f),λ _=>waC ?_⟩;simp only[qqK,qgl];have e1:iw .i64 (qe (a:Int) 2)=((a+2:Nat):Int):=iwn 2 (by omega);have y:iw .i64 (qe ((a+2:Nat):Int) (i:Int))=((a+2+i:Nat):Int):=iwn i (by omega);rw[e1,y];refine wax (yo.2 (by omega)) (waw (by unfold inb;rw[decide_eq_true_iff];omega) (waw (by unfold inb;rw[decide_eq_true_iff];omega) (waA ?_)));rfl
 | d+1,i,E,F,l=>by
   have L:iw .i64 (qe (a:Int) 1)=((a+1:Nat):Int):=iwn 1 (by omega);have e1:iw .i64 (qe (a:Int) 2)=((a+2:Nat):Int):=iwn 2 (by omega);have y:iw .i64 (qe ((a+2:Nat):Int) ((i+1:Nat):Int))=((a+2+(i+1):Nat):Int):=iwn (i+1) (by omega);have K:iw .i64 (qe ((a+1:Nat):Int) ((i+1:Nat):Int))=((a+2+i:Nat):Int):=by rw[iwn (i+1) (by omega)];omega
   have J:iw .i64 (qe ((i+1:Nat):Int) 1)=((i+1+1:Nat):Int):=iwn 1 (by omega)
   have first:∀{G:Nat->Nat->Option (T × Int × Bool)} {r},Ev (λ m k=>cond (ile (s.length:Int) ((a+2+i:Nat):Int)) (some (T.mk 2 [] g [],((a+2+i:Nat):Int),false)) (cond (inb ((a+2+(i+1):Nat):Int) s.length) (cond (inb ((a+2:Nat):Int) (Int.toNat ((a+2+(i+1):Nat):Int))) (qa (qaj m (QO s ((a+2:Nat):Int) ((a+2+(i+1):Nat):Int))) λ z=>cond (qd z) (some (T.mk 2 [] g [],((a+2+i:Nat):Int),false)) (jK m k s a n ((i+1+1:Nat):Int) 0 [] 0 2 [] g [] [])) none) none)) r->Ev (λ m k=>jK m k s a n ((i+1:Nat):Int) 0 [] 0 2 [] g [] []) r:=by
    intro G r h;refine waC ?_;simp only[qqK,qgl];rw[L,e1,y,K,J];exact waw (yT.2 (by omega)) h
   rw[nmE];cases q:s[a+2+i]? with
   | none =>
     refine⟨λ e f=>?_,λ f=>(by cases f)⟩;cases f;exact⟨_,first (G := λ _ _=>none) (waw (yT.2 (by have:=List.getElem?_eq_none_iff.1 q;omega)) (wav _))⟩
   | some c =>
     have D:=(List.getElem?_eq_some_iff.1 q).1;have v:=qDy (n:=i) (b:=a+2) (by omega) D l q;have p:=qy7 ((s.take (a+2+(i+1))).drop (a+2));rw[v]at p
     have zt:∀{r},Ev (λ m k=>cond (qd (okC i c)) (some (T.mk 2 [] g [],((a+2+i:Nat):Int),false)) (jK m k s a n ((i+1+1:Nat):Int) 0 [] 0 2 [] g [] [])) r->Ev (λ m k=>jK m k s a n ((i+1:Nat):Int) 0 [] 0 2 [] g [] []) r := λ h =>
      first (G := λ _ _=>none) (wax (yo.2 (by omega)) (waw (by unfold inb;rw[decide_eq_true_iff];omega) (waw (by unfold inb;rw[decide_eq_true_iff];omega) (wau p h))))
     simp only[];cases u:okC i c with
     | false =>
       refine⟨λ e f=>?_,λ f=>(by cases f)⟩;cases f;rw[u]at zt;exact⟨_,zt (waw rfl (wav _))⟩
     | true =>
       rw[u]at zt
       obtain⟨I,H⟩:=qBz s B a n g C w d (i+1) (by omega) (by omega) (λ j M N o=>by
        by_cases x:j=i
        ·subst x;rw[q]at o;cases o;exact u
        ·exact l j M (by omega) o)
       refine⟨λ e f=>?_,λ f=>zt (wax rfl (H f))⟩;obtain⟨t,A⟩:=I e f;exact⟨t,zt (wax rfl A)⟩
theorem qLG(s:List UInt8)(x:s.length<=1000000000)(a:Nat)(c:UInt8)(l:s[a]?=some c)(z:c.toNat<=5):(∀ t n p,hdN s a=(some (t,n),p)->n=0/\Ev (λ m _=>qdA m s a) (t,((p:Int),true)))/\∀ e,hdN s a=(none,e)->∃ t,Ev (λ m _=>qdA m s a) (t,((e:Int),false)):=by
 have C:=(List.getElem?_eq_some_iff.1 l).1;have i:qb s (a:Int)=some c:=by rw[zb];exact l
 have g:iw .i64 (qe (a:Int) 1)=((a+1:Nat):Int):=iwn 1 (by omega);unfold hdN;rw[l];simp only[];rw[if_pos z];have fail:∀{G:Nat->Nat->Option (T × Int × Bool)} {b:Bool},b=true->Ev (λ m k=>cond b (some (T.mk 2 [] (c.toNat:Int) [],((a+1:Nat):Int),false)) (G m k)) (T.mk 2 [] (c.toNat:Int) [],((a+1:Nat):Int),false) := λ h=>waw h (wav _);cases q:s[a+1]? with
 | none =>
   refine⟨λ t n p d=>(by cases d),λ e d=>?_⟩;cases d;refine⟨T.mk 2 [] (c.toNat:Int) [],waB ?_⟩;simp only[qlP,qbT];refine way i ?_;rw[iwc,g];exact fail (yT.2 (by have:=List.getElem?_eq_none_iff.1 q;omega))
 | some n =>
   have y:=(List.getElem?_eq_some_iff.1 q).1;have f:qb s ((a+1:Nat):Int)=some n:=by rw[zb];exact q
   simp only[];by_cases u:n.toNat<1\/24<n.toNat
   ·rw[if_pos u];refine⟨λ t n p d=>(by cases d),λ e d=>?_⟩;cases d;refine⟨T.mk 2 [] (c.toNat:Int) [],waB ?_⟩;simp only[qlP,qbT];refine way i ?_;rw[iwc,g];refine wax (yo.2 (by omega)) (way f ?_);rw[iwc];by_cases o:n.toNat<1
    ·exact fail (qr.2 (by omega))
    ·exact wax (qm.2 (by omega)) (fail (qr.2 (by omega)))
   ·rw[if_neg u]
    have v:∀{r},Ev (λ m k=>jK m k s a n.toNat ((0+1:Nat):Int) 0 [] 0 2 [] (c.toNat:Int) [] []) r->Ev (λ m _=>qdA m s a) r := λ h=>by
     refine waB ?_;simp only[qlP,qbT];refine way i ?_;rw[iwc,g];refine wax (yo.2 (by omega)) (way f ?_);rw[iwc];exact wax (qm.2 (by omega)) (wax (qm.2 (by omega)) (waD h))
    obtain⟨B,A⟩:=qBz s x a n.toNat (c.toNat:Int) (by omega) (by omega) n.toNat 0 (by omega) (by omega) (λ j c D=>by omega);cases o:nmE s (a+2) n.toNat 0 with
    | some g =>
      refine⟨λ t n p d=>(by cases d),λ e d=>?_⟩;cases d;obtain⟨t,w⟩:=B _ o;exact⟨t,v w⟩
    | none =>
      refine⟨λ t n p d=>?_,λ e d=>(by cases d)⟩;cases d;exact⟨rfl,v (A o)⟩
theorem qOU:∀ r∈esL,qaw r.1=true->(qx r.1 [110,101,119]=true/\r.2.1=1\/qx r.1 [110,101,119]=false/\r.2.1=2)/\r.2.2=8:=by decide
def lsF:List (List UInt8 × Int × Int × Int)->List UInt8->Option Int
 | [],_=>none
 | r::l,n=>cond (qx r.1 n) (some r.2.1) (lsF l n)
theorem qOi:∀ r∈esL,qaw r.1=false->lsF yZ r.1=some r.2.1:=by decide
theorem qK3(s:List UInt8)(I:s.length<=1000000000)(p:Nat)(r:List UInt8 × (Int × Int))(q:r∈esL):Ev (λ m _=>qdp m s p r.1) (if qaw r.1=true then(match s[p]? with
  | none=>(0,((p:Int),false))
  | some k=>if(k.toNat:Int)<r.2.1\/r.2.2<(k.toNat:Int)then(0,((p:Int),false))else((k.toNat:Int),(((p+1:Nat):Int),true)))else(r.2.1,((p:Int),true))):=by
 refine waB ?_;simp only[qCk,qgx];refine wau (qFd r.1) ?_;cases g:qaw r.1 with
 | false =>
   rw[if_neg (by decide)];refine waw rfl (wau (a:=yZ) (waB (wav _)) ?_)
   have o:=qp (P := λ i=>∀ v,lsF (yZ.drop i) r.1=some v->Ev (λ m k=>qbc m k s p r.1 yZ i) (v,((p:Int),true))) yZ (by decide)
    (λ g v c=>by rw[wU]at c;cases c)
    (λ i x H B g d A C v c=>by
     refine waC ?_;simp only[qzV,qj3];refine waw g (way d ?_);rw[B]at c;rw[A];cases b:qx x.1 r.1 with
     | true =>
       rw[lsF,b]at c;refine waw rfl (way d (waA ?_));cases c;rfl
     | false =>
       rw[lsF,b]at c;exact wax rfl (C v c))
   exact waD (L := λ m k=>qbc m k s p r.1 yZ 0) (o 0 (we _) _ (qOi r q g))
 | true =>
   rw[if_pos rfl];refine wax rfl ?_;obtain⟨u,J⟩:=qOU r q g;obtain⟨G,F,E⟩:=qsj r q;cases t:s[p]? with
   | none =>
     have z:=List.getElem?_eq_none_iff.1 t;rcases u with⟨b,_⟩ | ⟨b,_⟩
     ·exact waw b (waw (yT.2 (by omega)) (wav _))
     ·exact wax b (waw (yT.2 (by omega)) (wav _))
   | some k =>
     have z:=(List.getElem?_eq_some_iff.1 t).1;have d:qb s (p:Int)=some k:=by rw[zb];exact t
     have D:iw .i64 (qe (p:Int) 1)=((p+1:Nat):Int):=iwn 1 (by omega);simp only[]
     have e:r.2.1<=(k.toNat:Int)->Ev (λ m _=>qa (qb s (p:Int)) λ n=>cond (ilt 8 ((UInt8.toNat n:Nat):Int)) (some (0,(p:Int),false)) (qa (qb s (p:Int)) λ l=>some (iw .i64 ((UInt8.toNat l:Nat):Int),iw .i64 (qe (p:Int) 1),true))) (if(k.toNat:Int)<r.2.1\/r.2.2<(k.toNat:Int)then(0,((p:Int),false))else((k.toNat:Int),(((p+1:Nat):Int),true))) := λ y=>by
      refine way d ?_;by_cases h:(8:Int)<(k.toNat:Int)
      ·rw[if_pos (by omega)];exact waw (qr.2 h) (wav _)
      ·rw[if_neg (by omega)];refine wax (qm.2 (by omega)) (way d (waA ?_));rw[iwc,D]
     have f:∀ a:Int,r.2.1=a->Ev (λ m _=>cond (ile (s.length:Int) (p:Int)) (some (0,(p:Int),false)) (qa (qb s (p:Int)) λ w=>cond (ilt (iw .i64 ((UInt8.toNat w:Nat):Int)) a) (some (0,(p:Int),false)) (qa (qb s (p:Int)) λ n=>cond (ilt 8 ((UInt8.toNat n:Nat):Int)) (some (0,(p:Int),false)) (qa (qb s (p:Int)) λ l=>some (iw .i64 ((UInt8.toNat l:Nat):Int),iw .i64 (qe (p:Int) 1),true))))) (if(k.toNat:Int)<r.2.1\/r.2.2<(k.toNat:Int)then(0,((p:Int),false))else((k.toNat:Int),(((p+1:Nat):Int),true))) := λ a j=>by
      refine wax (yo.2 (by omega)) (way d ?_);rw[iwc];by_cases h:(k.toNat:Int)<a
      ·rw[if_pos (by omega)];exact waw (qr.2 h) (wav _)
      ·exact wax (qm.2 (by omega)) (e (by omega))
     rcases u with⟨b,j⟩ | ⟨b,j⟩
     ·exact waw b (f 1 j)
     ·exact wax b (f 2 j)
end Go.AmZ
namespace Go.AmZ
open Go Go.GxZ Go.Lib
theorem qIk(t:T):qr4 t->∀ a:Int,-1000000000<=a->a<=1000000000->Ev (λ m _=>ji m t a) (qbM t a):=by
 induction t using T.ind with
 | h t j =>
   intro p a d c;obtain⟨u,v,s⟩:=(qEU t).1 p;refine waB ?_;simp only[qyl,qeB];rw[qGa];refine waz (λ h=>?_) λ h=>?_
   ·rw[yT]at h;exact waA (by rw[if_pos (.inl h)])
   rw[yo]at h;refine waz (λ f=>?_) λ f=>?_
   ·rw[qr]at f;exact waA (by rw[if_pos (.inr (by omega))])
   rw[qm]at f;rw[if_neg (by omega),show zp a 1=a-1 from rfl,jS (by omega)]
   have b:=qp (P := λ i=>∀ a:Int,0<=a->a<=1000000000->Ev (λ m k=>J3 m (ji m) k a i t.kind t.name t.sort t.kids) (qmx ((t.kids.drop i).map qbM) a)) t.kids u
    (λ e a _ _=>by
     refine waC ?_;simp only[qnL,qeh];refine wax e ?_;rw[wU];exact wav _)
    (λ i x l q e o n r a d c=>by
     refine waC ?_;simp only[qnL,qeh,qk];have g:=wa l;refine waw e (way o (wau (j x g (s x g) a (by omega) (by omega)) ?_));rw[q,wo,qmx,n];have:=qq2 x a;refine waz (λ h=>?_) λ h=>?_
     ·rw[qr]at h;exact waA (by rw[if_pos h])
     ·rw[qm]at h;rw[if_neg (by omega)];exact r _ (by omega) (by omega))
   refine waD (L := λ m k=>J3 m (ji m) k (a-1) 0 t.kind t.name t.sort t.kids) ?_;exact(b 0 (we _) (a-1) (by omega) (by omega)).res (by rw[wO])
theorem qIW(l:List T)(j:l.length<2 ^ 62)(q:∀ t∈l,qr4 t)(n:Nat)(a:Int)(c:0<=a)(b:a<=1000000000):Ev (λ m _=>qjB m l n a) (decide (l.length<=n)&&qgP l a):=by
 refine waB ?_;simp only[qEs,qhG];refine waz (λ h=>?_) λ h=>?_
 ·rw[qr]at h;exact waA (by rw[decide_eq_false (by omega)];rfl)
 rw[qm]at h;rw[decide_eq_true (by omega),ka]
 have d:=qp (P := λ i=>∀ a:Int,0<=a->a<=1000000000->Ev (λ m k=>qcy m k l a i) (qgP (l.drop i) a)) l j
  (λ e a _ _=>by
   refine waC ?_;simp only[qrF,qho];refine wax e ?_;rw[wU];exact wav _)
  (λ i x f r e p o s a c b=>by
   refine waC ?_;simp only[qrF,qho,qk];have g:=wa f;refine waw e (way p (wau (qIk x (q x g) a (by omega) (by omega)) ?_));rw[r,qgP,o];have:=qq2 x a;refine waz (λ h=>?_) λ h=>?_
   ·rw[qr]at h;exact waA (by rw[if_pos h])
   ·rw[qm]at h;rw[if_neg (by omega)];exact s _ (by omega) (by omega))
 refine waD (L := λ m k=>qcy m k l a 0) ?_;exact(d 0 (we _) a c b).res (by rw[wO])
end Go.AmZ
namespace Go.AmZ
theorem qIs(n:Nat):qgc (n+3000)=some true:=by kernel_rfl
end Go.AmZ
namespace Go.AmZ
open Go Go.GxZ
def JC(t:T):Int:=if qbj t≠0 then qbj t else if qd9 t=false then 13 else if Qv t=false then 10 else 0
def qaR(t:T):List UInt8:=if JC t=0 then qC (bI t)else[]
theorem qym{t:T}(d:qbj t=0)(c:qd9 t=true)(a:Qv t=true):okE t:=by
 obtain⟨b,e⟩:=qne d
 have g3:jh t=0:=by
  unfold qL at b;by_cases h:jh t=0
  ·exact h
  ·rw[if_pos h]at b;exact absurd b h
 unfold Qv at a;simp only[wd]at a;exact qPI t g3 e a.2.2 (xO.1 c)
theorem qxC{t:T}(h:okE t)(a:size t<=10000):(bI t).length<=260000:=by
 have:=qPd t h;omega
theorem qOW(t:T)(j:size t<=10000):Ev (λ m _=>qek m t) (qaR t,JC t):=by
 refine waB ?_;simp only[qs3,qe1,qk];refine wau (qF4 t (by omega)) ?_;obtain⟨l,i,g⟩:=qNg t (by omega);by_cases b:qbj t=0
 ·refine wax (bnf.2 (qj.2 b)) (wau i ?_);cases a:qd9 t with
  | false =>
    have k:zK 1 t≠[] := λ h=>by unfold qd9 at a;rw[h]at a;cases a
    have e:l≠[] := λ h=>k (g.1 h);have:=xg.2 e;refine waw (qr.2 (by omega)) (waA ?_);have c:JC t=13:=by unfold JC;rw[if_neg (λ h=>h b),if_pos a]
    unfold qaR;rw[c];rfl
  | true =>
    have e:l=[]:=g.2 (xO.1 a);refine wax (qm.2 (by rw[e];exact vm _)) (wau (qy5 t (by omega)) ?_);cases f:Qv t with
    | false =>
      refine waw rfl (waA ?_);have c:JC t=10:=by unfold JC;rw[if_neg (λ h=>h b),if_neg (by rw[a];decide),if_pos f]
      unfold qaR;rw[c];rfl
    | true =>
      have d:=qym b a f;have n:=qxC d j;refine wax rfl (wau (qKM t d (by omega) [] (by show 0+_<=_;omega)) (waA ?_));have c:JC t=0:=by unfold JC;rw[if_neg (λ h=>h b),if_neg (by rw[a];decide),if_neg (by rw[f];decide)]
      unfold qaR;rw[c];rfl
 ·refine waw (bnt.2 (qg.2 b)) (waA ?_);have c:JC t=qbj t:=if_pos b;unfold qaR;rw[c,if_neg b]
theorem qMD(t:T)(f:size t<=10000):Ev (λ m _=>qh0 m t) (qaR t,JC t):=by
 refine waB ?_;simp only[qx4,qhS,qk]
 have g:Ev (λ m _=>qjg m t) (JC t):=by
  refine waB ?_;simp only[qz4,qi5,qk];refine wau (qyo t (by omega)) ?_;unfold JC;by_cases b:qbj t=0
  ·rw[if_neg (λ h=>h b)];refine wax (bnf.2 (qj.2 b)) (wau (qIT t f) ?_);cases d:qd9 t with
   | false=>exact waw rfl (wav _)
   | true =>
     refine wax rfl (wau (qzH t (by omega)) ?_);cases e:Qv t with
     | false=>exact waw rfl (wav _)
     | true=>exact wax rfl (wav _)
  ·rw[if_pos b];exact waw (bnt.2 (qg.2 b)) (wav _)
 refine wau g ?_;by_cases a:JC t=0
 ·have c:okE t:=by
    unfold JC at a;by_cases b:qbj t=0
    ·rw[if_neg (λ h=>h b)]at a;cases d:qd9 t with
     | false=>rw[if_pos d]at a;exact absurd a (by decide)
     | true =>
       rw[if_neg (by rw[d];decide)]at a;cases e:Qv t with
       | false=>rw[if_pos e]at a;exact absurd a (by decide)
       | true=>exact qym b d e
    ·rw[if_pos b]at a;exact absurd a b
  have i:=qxC c f;refine wax (bnf.2 (qj.2 a)) (wau (qJz t c (by omega) (by omega)) (waA ?_));unfold qaR;rw[if_pos a,a]
 ·refine waw (bnt.2 (qg.2 a)) (waA ?_);unfold qaR;rw[if_neg a]
theorem quI(t:T)(e:size t<=10000):(qaR t).length<=260000:=by
 unfold qaR;by_cases a:JC t=0
 ·rw[if_pos a,qch];refine qxC ?_ e;unfold JC at a;by_cases b:qbj t=0
  ·rw[if_neg (λ h=>h b)]at a;cases c:qd9 t with
   | false=>rw[if_pos c]at a;exact absurd a (by decide)
   | true =>
     rw[if_neg (by rw[c];decide)]at a;cases d:Qv t with
     | false=>rw[if_pos d]at a;exact absurd a (by decide)
     | true=>exact qym b c d
  ·rw[if_pos b]at a;exact absurd a b
 ·rw[if_neg a];exact we _
abbrev Pk:=Int × (Int × (List UInt8 × Bool))
theorem qCh(n:Int)(l:List Pk)(i:Int):Ev (λ m _=>QU m (n,l,()) i) (((n,l,()),()),(decide (0<=i/\i<n),())):=by
 refine waB ?_;simp only[qmO,qbi];refine waz (λ h=>waA ?_) λ h=>waA ?_
 ·rw[yT]at h
  have:ilt i n=decide (0<=i/\i<n):=by
   by_cases a:i<n
   ·rw[qr.2 a,decide_eq_true ⟨h,a⟩]
   ·rw[qm.2 (by omega),decide_eq_false (by omega)]
  rw[this]
 ·rw[yo]at h;rw[decide_eq_false (by omega)]
theorem qkG:Ev (λ m _=>qgc m) true:=⟨3000,λ m k a _=>by
 obtain⟨n,rfl⟩:∃ n,m=n+3000:=⟨m-3000,by omega⟩
 exact qIs n⟩
end Go.AmZ
namespace Go.AmZ
open Go Go.GxZ
theorem qy8(s:List UInt8)(f:Nat)(w:∀ p,s.length<p+f->p<=s.length->(∀ t q,rdT s f p=(some t,q)->Ev (λ m _=>qV m s p) (t,((q:Int),true)))/\∀ e,rdT s f p=(none,e)->∃ t,Ev (λ m _=>qV m s p) (t,((e:Int),false)))(nm:List UInt8)(n:Nat)(E:n<=8) :
  ∀ d i ks p,i+d=n->ks.length=i->s.length<p+f->p<=s.length->(∀ b q,Jq (rdT s f) d p=(some b,q)->Ev (λ m k=>Qu m (qV m) k s n p i 0 [] 0 3 nm 0 [] ks) (.mk 3 nm 0 (ks++b),((q:Int),true))) /\
   ∀ e,Jq (rdT s f) d p=(none,e)->∃ t,Ev (λ m k=>Qu m (qV m) k s n p i 0 [] 0 3 nm 0 [] ks) (t,((e:Int),false))
 | 0,i,ks,p,F,v,y,x=>by
   obtain rfl:i=n:=by omega
   refine⟨λ b q a=>waC ?_,λ e a=>(by cases a)⟩;cases a;simp only[qkc,qdR];refine wax (qm.2 (vm _)) (waA ?_);rw[wA]
 | d+1,i,ks,p,F,v,y,x=>by
   have e1:iw .i64 (qe (i:Int) 1)=((i+1:Nat):Int):=iwn 1 (by omega);obtain⟨I,H⟩:=w p y x;cases l:rdT s f p with
   | mk o j =>
   cases o with
   | none =>
     have c:Jq (rdT s f) (d+1) p=(none,j):=by unfold Jq;rw[l]
     refine⟨λ b q a=>(by rw[c]at a;cases a),λ e a=>?_⟩;rw[c]at a;cases a;obtain⟨t,u⟩:=H _ l;refine⟨T.mk 3 nm 0 ks,waC ?_⟩;simp only[qkc,qdR];exact waw (qr.2 (by omega)) (wau u (waw rfl (wav _)))
   | some t =>
     obtain⟨J,z⟩:=qo3 s _ _ _ _ l;have u:=I _ _ l;obtain⟨D,C⟩:=qy8 s f w nm n E d (i+1) (ks++[t]) j (by omega) (by simp[v]) (by omega) z
     have step:∀{r},Ev (λ m k=>Qu m (qV m) k s n j ((i+1:Nat):Int) 0 [] 0 3 nm 0 [] (ks++[t])) r->Ev (λ m k=>Qu m (qV m) k s n p i 0 [] 0 3 nm 0 [] ks) r := λ h=>by
      refine waC ?_;simp only[qkc,qdR,qk];rw[e1];exact waw (qr.2 (by omega)) (wau u (wax rfl (waw (qE (by omega) (by decide)) h)))
     have c:Jq (rdT s f) (d+1) p=(match Jq (rdT s f) d j with
      | (none,e)=>(none,e)
      | (some ks,q)=>(some (t::ks),q)):=by rw[Jq,l]<;>rfl
     cases g:Jq (rdT s f) d j with
     | mk o K =>
     rw[g]at c;cases o with
     | none =>
       refine⟨λ b q a=>(by rw[c]at a;cases a),λ e a=>?_⟩;rw[c]at a;cases a;obtain⟨A,G⟩:=C _ g;exact⟨A,step G⟩
     | some B =>
       refine⟨λ b q a=>?_,λ e a=>(by rw[c]at a;cases a)⟩;rw[c]at a;cases a;have:=step (D _ _ g);rw[wi]at this;exact this
theorem qKg(s:List UInt8)(Q:s.length<=1000000000):∀ f p,s.length<p+f->p<=s.length->(∀ t q,rdT s f p=(some t,q)->Ev (λ m _=>qV m s p) (t,((q:Int),true)))/\∀ e,rdT s f p=(none,e)->∃ t,Ev (λ m _=>qV m s p) (t,((e:Int),false)):=by
 intro f
 induction f with
 | zero=>intro p N M;omega
 | succ f W =>
   intro p N M;have e1:iw .i64 (qe (p:Int) 1)=((p+1:Nat):Int):=iwn 1 (by omega);cases A:s[p]? with
   | none =>
     have i:hdN s p=(none,p):=by unfold hdN;rw[A]
     have g:rdT s (f+1) p=(none,p):=by unfold rdT;rw[i]
     refine⟨λ t q b=>(by rw[g]at b;cases b),λ e b=>?_⟩;rw[g]at b;cases b;refine⟨T.mk 0 [] 0 [],waB ?_⟩;simp only[qia,qaA];exact waw (yT.2 (by have:=List.getElem?_eq_none_iff.1 A;omega)) (wav _)
   | some c =>
     have hl:=(List.getElem?_eq_some_iff.1 A).1;have y:qb s (p:Int)=some c:=by rw[zb];exact A
     by_cases L:c.toNat<=5
     ·obtain⟨a1,Z⟩:=qLG s Q p c A L
      have C:∀{v},Ev (λ m _=>qdA m s p) v->Ev (λ m _=>qV m s p) v := λ h=>by
       refine waB ?_;simp only[qia,qaA,qk];exact wax (yo.2 (by omega)) (way y (waw (yT.2 (by omega)) (wau h (wav _))))
      cases j:hdN s p with
      | mk o l =>
      cases o with
      | none =>
        have g:rdT s (f+1) p=(none,l):=by unfold rdT;rw[j]
        refine⟨λ t q b=>(by rw[g]at b;cases b),λ e b=>?_⟩;rw[g]at b;cases b;obtain⟨t,D⟩:=Z _ j;exact⟨t,C D⟩
      | some o =>
        obtain⟨t0,n0⟩:=o;obtain⟨rfl,D⟩:=a1 _ _ _ j;obtain⟨_,_,_,X,_⟩:=qgX j
        have g:rdT s (f+1) p=(some t0,l):=by
         unfold rdT;rw[j];show(some (T.mk t0.kind t0.name t0.sort []),l)=_;rw[<- X];exact congrArg (λ x=>(some x,l)) (qk t0)
        refine⟨λ t q b=>?_,λ e b=>(by rw[g]at b;cases b)⟩;rw[g]at b;cases b;exact C D
     ·have O:(c.toNat<16\/30<c.toNat)->(∀ t q,rdT s (f+1) p=(some t,q)->Ev (λ m _=>qV m s p) (t,((q:Int),true)))/\∀ e,rdT s (f+1) p=(none,e)->∃ t,Ev (λ m _=>qV m s p) (t,((e:Int),false)):=by
        intro S
        have i:hdN s p=(none,p):=by
         unfold hdN;rw[A];simp only[];rw[if_neg L];by_cases B:c.toNat<16
         ·rw[if_pos B]
         ·rw[if_neg B,show esL[c.toNat-16]?=none from List.getElem?_eq_none_iff.2 (by show 15<=_;omega)]
        have g:rdT s (f+1) p=(none,p):=by unfold rdT;rw[i]
        refine⟨λ t q b=>(by rw[g]at b;cases b),λ e b=>?_⟩;rw[g]at b;cases b;refine⟨T.mk 0 [] 0 [],waB ?_⟩;simp only[qia,qaA];refine wax (yo.2 (by omega)) (way y (wax (yo.2 (by omega)) (way y ?_)));by_cases B:c.toNat<16
        ·exact waw (qr.2 (by omega)) (wav _)
        ·refine wax (qm.2 (by omega)) (way y (wau (a:=nmL) (waB (wav _)) ?_));rw[iwc];exact waw (yT.2 (by show(31:Int)<=_;omega)) (wav _)
      by_cases S:c.toNat<16\/30<c.toNat
      ·exact O S
      ·have E:c.toNat-16<esL.length:=by show _<15;omega
       have u:=List.getElem?_eq_getElem E;generalize esL[c.toNat-16]=r at u;have R:=wa u;obtain⟨p0,p1,p2⟩:=qsj r R
       have K:qb nmL (iw .i64 (zp (c.toNat:Int) 16))=some r.1:=by
        rw[show iw .i64 (zp (c.toNat:Int) 16)=((c.toNat-16:Nat):Int) by rw[show zp (c.toNat:Int) 16=((c.toNat-16:Nat):Int) by unfold zp;omega,jS (by omega)],zb,<- qvV,List.getElem?_map,u];rfl
       have i:hdN s p=(if qaw r.1=true then(match s[p+1]? with
         | none=>(none,p+1)
         | some k=>if(k.toNat:Int)<r.2.1\/r.2.2<(k.toNat:Int)then(none,p+1)else(some (.mk 3 r.1 0 [],k.toNat),p+2))
        else(some (.mk 3 r.1 0 [],r.2.1.toNat),p+1)):=by
        unfold hdN;rw[A];simp only[];rw[if_neg L,if_neg (by omega),u]<;>rfl
       have d:=qK3 s Q (p+1) r R
       have C:∀{v:Int × (Int × Bool)} {x},Ev (λ m _=>qdp m s ((p+1:Nat):Int) r.1) v->Ev (λ m _=>cond (qd v.2.2) (some (T.mk 3 r.1 0 [],v.2.1,false)) (Qu m (qV m) m s v.1 v.2.1 0 0 [] 0 3 r.1 0 [] [])) x->Ev (λ m _=>qV m s p) x := λ N M=>by
        refine waB ?_;simp only[qia,qaA];refine wax (yo.2 (by omega)) (way y (wax (yo.2 (by omega)) (way y (wax (qm.2 (by omega)) (way y (wau (a:=nmL) (waB (wav _)) ?_))))));rw[iwc];refine wax (yo.2 (by show _<(31:Int);omega)) (wau (a:=nmL) (waB (wav _)) (way y ?_));rw[iwc,e1];exact way K (wau N M)
       have H:∀ n l,hdN s p=(some (T.mk 3 r.1 0 [],n),l)->Ev (λ m _=>qdp m s ((p+1:Nat):Int) r.1) ((n:Int),((l:Int),true))->(∀ t q,rdT s (f+1) p=(some t,q)->Ev (λ m _=>qV m s p) (t,((q:Int),true)))/\∀ e,rdT s (f+1) p=(none,e)->∃ t,Ev (λ m _=>qV m s p) (t,((e:Int),false)):=by
        intro n l j w;obtain⟨g1,Y,g3,_⟩:=qgX j;obtain⟨V,U⟩:=qy8 s f W r.1 n g3 n 0 [] l (by omega) rfl (by omega) Y;cases z:Jq (rdT s f) n l with
        | mk o P =>
        cases o with
        | none =>
          have g:rdT s (f+1) p=(none,P):=by unfold rdT;rw[j];simp only[];rw[z]
          refine⟨λ t q b=>(by rw[g]at b;cases b),λ e b=>?_⟩;rw[g]at b;cases b;obtain⟨t,D⟩:=U _ z;exact⟨t,C w (wax rfl (waD D))⟩
        | some J =>
          have g:rdT s (f+1) p=(some (.mk 3 r.1 0 J),P):=by unfold rdT;rw[j];simp only[];rw[z];rfl
          refine⟨λ t q b=>?_,λ e b=>(by rw[g]at b;cases b)⟩;rw[g]at b;cases b;exact C w (wax rfl (waD (V _ _ z)))
       have I:hdN s p=(none,p+1)->Ev (λ m _=>qdp m s ((p+1:Nat):Int) r.1) (0,(((p+1:Nat):Int),false))->(∀ t q,rdT s (f+1) p=(some t,q)->Ev (λ m _=>qV m s p) (t,((q:Int),true)))/\∀ e,rdT s (f+1) p=(none,e)->∃ t,Ev (λ m _=>qV m s p) (t,((e:Int),false)):=by
        intro j w;have g:rdT s (f+1) p=(none,p+1):=by unfold rdT;rw[j]
        refine⟨λ t q b=>(by rw[g]at b;cases b),λ e b=>?_⟩;rw[g]at b;cases b;exact⟨_,C w (waw rfl (wav _))⟩
       cases G:qaw r.1 with
       | false =>
         rw[G,if_neg (by decide)]at i d;refine H _ _ i ?_;have e:((r.2.1.toNat:Nat):Int)=r.2.1:=by omega
         rw[e];exact d
       | true =>
         rw[G,if_pos rfl]at i d;cases z:s[p+1]? with
         | none=>rw[z]at i d;exact I i d
         | some k =>
           rw[z]at i d;simp only[]at i d;by_cases F:(k.toNat:Int)<r.2.1\/r.2.2<(k.toNat:Int)
           ·rw[if_pos F]at i d;exact I i d
           ·rw[if_neg F]at i d;exact H _ _ i d
end Go.AmZ
namespace Go.AmZ
open Go Go.GxZ
theorem qE7{s:List UInt8}{b:Nat}:∀{d i:Nat},nmE s b d i=none->∀ j c,j<d->s[b+i+j]?=some c->okC (i+j) c=true
 | 0,_,_,j,_,g,_=>by omega
 | d+1,i,h,j,c,g,a=>by
   unfold nmE at h;split at h
   ·cases h
   ·rename_i k f;cases e:okC i k with
    | false=>rw[e]at h;cases h
    | true =>
      rw[e]at h;have h:nmE s b d (i+1)=none:=h;cases j with
      | zero=>rw[wP]at a |-;rw[f]at a;cases a;exact e
      | succ j=>have:=qE7 h j c (by omega) (by rw[show b+(i+1)+j=b+i+(j+1) by omega];exact a);rw[show i+(j+1)=i+1+j by omega];exact this
theorem qM7:∀ r∈esL,yK r.1=true:=by decide
theorem qLc{s:List UInt8}{p q n:Nat}{t:T}(h:hdN s p=(some (t,n),q))(ks:List T)(A:ks.length=n):yS (.mk t.kind t.name t.sort ks)=0:=by
 have C:=(qgX h).2.2.1;unfold hdN at h;cases o:s[p]? with
 | none=>rw[o]at h;cases h
 | some c =>
   rw[o]at h;simp only[]at h;split at h
   ·rename_i D;cases i:s[p+1]? with
    | none=>rw[i]at h;cases h
    | some k =>
      rw[i]at h;simp only[]at h;split at h
      ·cases h
      ·rename_i z;cases u:nmE s (p+2) k.toNat 0 with
       | some e=>rw[u]at h;cases h
       | none =>
         rw[u]at h;cases h;have y:=qCy u;have x:=qE7 u;obtain⟨m,w⟩:∃ m,k.toNat=m+1:=⟨k.toNat-1,by omega⟩
         have d:=y m (by omega);rw[wP]at d;have g:=List.getElem?_eq_getElem d;have a:=qDy (s:=s) (b:=p+2) (n:=m) (by omega) d (λ j c B o=>by have:=x j c (by omega) (by rw[wP];exact o);rwa [wI]at this) g;have f:=x m _ (by omega) (by rw[wP];exact g);rw[wI]at f;rw[f]at a;unfold yS qgG;show(if(2:Int)=1\/(2:Int)=2 then(if(c.toNat:Int)<0\/5<(c.toNat:Int)\/0<ks.length then 1 else if yK ((s.take (p+2+k.toNat)).drop (p+2))=true then 0 else 2)else _)=(0:Int);rw[if_pos (.inr rfl),if_neg (by omega),w,a,if_pos rfl]
   ·split at h
    ·cases h
    ·cases v:esL[c.toNat-16]? with
     | none=>rw[v]at h;cases h
     | some r =>
       rw[v]at h;have a:=qM7 r (wa v)
       have l:∀ m,m=n->yS (.mk 3 r.1 0 ks)=0 := λ m w=>by
        unfold yS qgG;show(if(3:Int)=1\/(3:Int)=2 then _ else if(3:Int)=3 then(if(0:Int)≠0 then 1 else if yK r.1=true then(if 8<ks.length then 3 else 0)else 2)else 1)=(0:Int);rw[if_neg (by decide),if_pos rfl,if_neg (by decide),a,if_pos rfl,if_neg (by omega)]
       simp only[]at h;split at h
       ·cases i:s[p+1]? with
        | none=>rw[i]at h;cases h
        | some k =>
          rw[i]at h;simp only[]at h;split at h
          ·cases h
          ·cases h;exact l _ rfl
       ·cases h;exact l _ rfl
theorem qHp{t:T}(h:yS t=0)(b:∀ k∈t.kids,jh k=0):jh t=0:=by
 rw[qjy,h];generalize t.kids=l at b
 induction l with
 | nil=>rfl
 | cons x l c=>rw[wo,kg,b x (wh ..)];exact c λ k a=>b k (wg _ a)
theorem qDx{R:Nat->Option T × Nat}(h:∀ p q t,R p=(some t,q)->jh t=0/\p+size t<=q):∀ n p q ks,Jq R n p=(some ks,q)->(∀ k∈ks,jh k=0)/\p+(ks.map size).sum<=q
 | 0,p,q,ks,a=>by cases a;exact⟨λ k d=>(by cases d),wb _⟩
 | n+1,p,q,ks,a=>by
   unfold Jq at a;split at a
   ·cases a
   ·rename_i k l d;obtain⟨i,o⟩:=h _ _ _ d;split at a
    ·cases a
    ·rename_i e j c;cases a;obtain⟨g,m⟩:=qDx h n _ _ _ c;refine⟨λ f b=>?_,by rw[wo,kD];omega⟩;rcases wy.1 b with rfl | b
     ·exact i
     ·exact g f b
theorem qxP(s:List UInt8):∀ f p q t,rdT s f p=(some t,q)->jh t=0/\p+size t<=q
 | 0,p,q,t,h=>by cases h
 | f+1,p,q,t,h=>by
   unfold rdT at h;split at h
   ·cases h
   ·rename_i t0 n g b;split at h
    ·cases h
    ·rename_i ks i a;cases h;obtain⟨k,e,_⟩:=qgX b;obtain⟨d,j⟩:=qDx (qxP s f) _ _ _ _ a;obtain⟨_,_,c⟩:=qx1 (qo3 s f) _ _ _ _ e a;refine⟨qHp (qLc b ks c) d,?_⟩;rw[qM];show p+(1+(ks.map size).sum)<=q;omega
theorem qGG{t:T}(h:Qv t=true):qbj t=0:=by
 unfold Qv at h;simp only[wd,decide_eq_true_eq]at h;have a:=h.1;rw[qkC]at a;by_cases b:qbj t=0
 ·exact b
 ·rw[if_pos b]at a;exact a
def qiD(s:List UInt8):T × (Int × Int):=match rdT s (s.length+1) 0 with
 | (none,e)=>(.mk 0 [] 0 [],((e:Int),2))
 | (some t,q)=>if q≠s.length then(.mk 0 [] 0 [],((q:Int),2))else if 400<size t\/40<qcx t then(.mk 0 [] 0 [],(0,3))else if Qv t=true then(t,(0,0))else(.mk 0 [] 0 [],(0,10))
theorem qOL(s:List UInt8)(e:s.length<=1000000000):Ev (λ m _=>qen m s) (qiD s):=by
 refine waB ?_;simp only[qta,qeM,qk];unfold qiD;obtain⟨i,g⟩:=qIi s e;cases b:rdT s (s.length+1) 0 with
 | mk o q =>
 cases o with
 | none=>exact wau (g _ b) (waw rfl (wav _))
 | some t =>
   obtain⟨f,j⟩:=qxP s _ _ _ _ b;obtain⟨_,k⟩:=qo3 s _ _ _ _ b;refine wau (i _ _ b) (wax rfl ?_);simp only[];by_cases a:q=s.length
   ·rw[if_neg (λ h=>h a)];refine wax (bnf.2 (qj.2 (by omega))) (wau (qdi t (by omega)) ?_);have d:qL t=if 400<size t\/40<qcx t then 3 else 0:=by unfold qL;rw[if_neg (λ h=>h f)]
    rw[d];by_cases c:400<size t\/40<qcx t
    ·rw[if_pos c,if_pos c];exact waw rfl (wav _)
    ·rw[if_neg c,if_neg c];refine wax rfl (wau (qy5 t (by omega)) ?_);cases l:Qv t with
     | true=>exact wax rfl (wav _)
     | false=>exact waw rfl (wav _)
   ·rw[if_pos a];exact waw (bnt.2 (qg.2 (by omega))) (wav _)
theorem qMP(s:List UInt8)(i:s.length<=1000000000):Ev (λ m _=>qh2 m s) (qiD s):=by
 refine waB ?_;simp only[qxM,qhQ,qk];unfold qiD;obtain⟨k,j⟩:=qKg s i (s.length+1) 0 (by omega) (we _);cases c:rdT s (s.length+1) 0 with
 | mk o q =>
 cases o with
 | none =>
   obtain⟨t,g⟩:=j _ c;exact wau g (waw rfl (wav _))
 | some t =>
   obtain⟨p,l⟩:=qxP s _ _ _ _ c;obtain⟨_,n⟩:=qo3 s _ _ _ _ c;refine wau (k _ _ c) (wax rfl ?_);simp only[];by_cases a:q=s.length
   ·rw[if_neg (λ h=>h a)];refine wax (bnf.2 (qj.2 (by omega))) (wau (qpl t (by omega)) ?_);by_cases f:400<size t
    ·rw[if_pos (.inl f)];exact waw (qr.2 (by omega)) (wav _)
    ·refine wax (qm.2 (by omega)) (wau (qzt t (by omega)) ?_);by_cases e:40<qcx t
     ·rw[if_pos (.inr e)];exact waw (qr.2 (by omega)) (wav _)
     ·rw[if_neg (by omega)];refine wax (qm.2 (by omega)) (wau (qyo t (by omega)) ?_);by_cases d:qbj t=0
      ·refine wax (bnf.2 (qj.2 d)) (wau (qzH t (by omega)) ?_);cases b:Qv t with
       | true=>exact wax rfl (wav _)
       | false=>exact waw rfl (wav _)
      ·have b:Qv t=false:=by
         cases b:Qv t with
         | true=>exact absurd (qGG b) d
         | false=>rfl
       rw[b,if_neg (by decide)];exact waw (bnt.2 (qg.2 d)) (wav _)
   ·rw[if_pos a];exact waw (bnt.2 (qg.2 (by omega))) (wav _)
end Go.AmZ
namespace Go.AmZ
open Go Go.GxZ
def qaV(s:List UInt8):List UInt8 × Int:=if s.length<4 then([],2)else if qap (s.drop 4)=s then(s.drop 4,0)else([],19)
theorem qMp{s:List UInt8}:QO s 4 (s.length:Int)=s.drop 4:=by
 unfold QO;rw[wF,wC];rfl
theorem qMQ(s:List UInt8)(b:s.length<=1000000000):Ev (λ m _=>qm2 m s) (qaV s):=by
 refine waB ?_;simp only[qD5,qlZ,qMp];unfold qaV;by_cases h:s.length<4
 ·rw[if_pos h];exact waw (qr.2 (by omega)) (wav _)
 ·rw[if_neg h];refine wax (qm.2 (by omega)) (waw (qdN _) (waw (by unfold inb;rw[decide_eq_true_iff];omega) (wau (qFO (s.drop 4) (by rw[wQ];omega)) ?_)));by_cases a:qap (s.drop 4)=s
  ·rw[if_pos a];exact wax (bnf.2 (yV.2 a)) (waw (qdN _) (waw (by unfold inb;rw[decide_eq_true_iff];omega) (wav _)))
  ·rw[if_neg a];exact waw (bnt.2 (jR.2 a)) (wav _)
theorem qKT(s:List UInt8)(b:s.length<=1000000000):Ev (λ m _=>qk6 m s) (qaV s):=by
 refine waB ?_;simp only[qDB,qj4,qMp];unfold qaV;by_cases h:s.length<4
 ·rw[if_pos h];exact waw (qr.2 (by omega)) (wav _)
 ·rw[if_neg h];refine wax (qm.2 (by omega)) (waw (qdN _) (waw (by unfold inb;rw[decide_eq_true_iff];omega) (wau (qBl (s.drop 4) (by rw[wQ];omega)) ?_)));by_cases a:qap (s.drop 4)=s
  ·rw[if_pos a];exact wax (bnf.2 (yV.2 a)) (waw (qdN _) (waw (by unfold inb;rw[decide_eq_true_iff];omega) (wav _)))
  ·rw[if_neg a];exact waw (bnt.2 (jR.2 a)) (wav _)
def yc(l:List Pk)(i:Int)(w:Bool):Int:=if i<0\/(l.length:Int)<=i then 4 else match l[i.toNat]? with
 | none=>4
 | some p=>if w=true/\p.2.2.2=false then 9 else 0
theorem qa0{l:List Pk}{i:Int}{w:Bool}(h:yc l i w=0):∃(j:Nat) (p:Pk),i=(j:Int)/\l[j]?=some p/\j<l.length/\(w=true->p.2.2.2=true)/\qb l i=some p:=by
 unfold yc at h;split at h
 ·cases h
 ·rename_i f;obtain⟨j,rfl⟩:=ko (show 0<=i by omega);have a:j<l.length:=by omega
  have e:l[(Int.ofNat j).toNat]?=l[j]?:=rfl;rw[show((j:Int)).toNat=j from wF j,List.getElem?_eq_getElem a]at h;simp only[]at h;refine⟨j,l[j],rfl,List.getElem?_eq_getElem a,a,λ b=>?_,by rw[zb];exact List.getElem?_eq_getElem a⟩;split at h
  ·cases h
  ·rename_i d;cases c:l[j].2.2.2 with
   | true=>rfl
   | false=>exact absurd ⟨b,c⟩ d
theorem qlK(n:Int)(l:List Pk)(i:Int)(w:Bool):Ev (λ m _=>jw m (n,l,()) i w) (((n,l,()),()),(yc l i w,())):=by
 refine waB ?_;simp only[qpS,qcX];unfold yc;by_cases d:i<0
 ·rw[if_pos (.inl d)];exact waw (qr.2 d) (wav _)
 ·by_cases c:(l.length:Int)<=i
  ·rw[if_pos (.inr c)];exact wax (qm.2 (by omega)) (waw (yT.2 c) (wav _))
  ·rw[if_neg (by omega)];obtain⟨j,rfl⟩:=ko (show 0<=i by omega);have b:j<l.length:=by omega
   rw[wF,List.getElem?_eq_getElem b];refine wax (qm.2 (by omega)) (wax (yo.2 (by omega)) ?_);simp only[];cases w with
   | false=>rw[if_neg (λ h=>by cases h.1)];exact wax rfl (wav _)
   | true =>
     refine waw rfl (way (a:=l[j]) (by rw[zb];exact List.getElem?_eq_getElem b) ?_);cases e:l[j].2.2.2 with
     | true=>rw[if_neg (λ h=>by cases h.2)];exact wax rfl (wav _)
     | false=>rw[if_pos ⟨rfl,rfl⟩];exact waw rfl (wav _)
theorem qlE{l:List Pk}{j:Nat}(a:j<l.length)(w:Bool):yc l (j:Int) w=if w=true/\l[j].2.2.2=false then 9 else 0:=by
 unfold yc;rw[if_neg (by omega),wF,List.getElem?_eq_getElem a]
theorem qg8{l:List Pk}{i:Int}(h:i<0\/(l.length:Int)<=i)(w:Bool):yc l i w=4:=if_pos h
theorem qxt(n:Int)(l:List Pk)(i:Int):Ev (λ m _=>jz m (n,l,()) i) (((n,l,()),()),(if yc l i true=0 then some i else none,(yc l i true,()))):=by
 refine waB ?_;simp only[qkO,qav];by_cases d:i<0
 ·exact waw (qr.2 d) (waA (by rw[qg8 (.inl d)];rfl))
 ·by_cases c:(l.length:Int)<=i
  ·exact wax (qm.2 (by omega)) (waw (yT.2 c) (waA (by rw[qg8 (.inr c)];rfl)))
  ·obtain⟨j,rfl⟩:=ko (show 0<=i by omega);have a:j<l.length:=by omega
   have b:qb l (j:Int)=some l[j]:=by rw[zb];exact List.getElem?_eq_getElem a
   refine wax (qm.2 (by omega)) (wax (yo.2 (by omega)) (way b ?_));rw[qlE a];cases e:l[j].2.2.2 with
   | true=>exact wax rfl (way b (waA rfl))
   | false=>exact waw rfl (waA rfl)
def Sm(l:List Pk):Prop:=l.length<=400/\∀ p∈l,p.2.2.1.length<=300000
def qsJ(p:Pk):Pk:=(p.1,(p.2.1,(p.2.2.1,false)))
def qbK(l:List Pk)(i:Int):List Pk × (T × (Int × Int)):=if yc l i true≠0 then(l,(.mk 0 [] 0 [],(0,yc l i true)))else match l[i.toNat]? with
 | none=>(l,(.mk 0 [] 0 [],(0,0)))
 | some p=>(l.set i.toNat (qsJ p),if(qaV p.2.2.1).2≠0 then(.mk 0 [] 0 [],(p.2.1,(qaV p.2.2.1).2))else if(qiD (qaV p.2.2.1).1).2.2≠0 then(.mk 0 [] 0 [],(p.2.1,(qiD (qaV p.2.2.1).1).2.2))else((qiD (qaV p.2.2.1).1).1,(p.2.1,0)))
theorem qy1(s:List UInt8):(qaV s).1.length<=s.length:=by
 unfold qaV;split
 ·exact we _
 ·split
  ·rw[wQ];omega
  ·exact we _
theorem qBZ(n:Int)(l:List Pk)(f:Sm l)(i:Int):Ev (λ m _=>z8 m (n,l,()) i) (((n,(qbK l i).1,()),()),((qbK l i).2.1,((qbK l i).2.2.1,((qbK l i).2.2.2,())))):=by
 refine waB ?_;simp only[qkz,qaD,qk];unfold qbK;refine wau (qxt n l i) ?_;by_cases b:yc l i true=0
 ·rw[if_pos b,if_neg (λ h=>h b)];obtain⟨j,p,rfl,e,g,o,k⟩:=qa0 b;rw[wF,e];refine way k (wax (bnf.2 (qj.2 b)) ?_);rw[QK];have a:qb (l.set j (qsJ p)) (j:Int)=some (qsJ p):=by rw[zb,List.getElem?_set_self g]
  have r:=f.2 p (wa e);have q:=qy1 p.2.2.1;refine way a (wau (qMQ p.2.2.1 (by omega)) ?_);by_cases d:(qaV p.2.2.1).2=0
  ·simp only[];rw[if_neg (λ h=>h d)];refine wax (bnf.2 (qj.2 d)) (wau (qOL (qaV p.2.2.1).1 (by omega)) ?_);by_cases c:(qiD (qaV p.2.2.1).1).2.2=0
   ·rw[if_neg (λ h=>h c)];exact wax (bnf.2 (qj.2 c)) (way a (wav _))
   ·rw[if_pos c];exact waw (bnt.2 (qg.2 c)) (way a (wav _))
  ·simp only[];rw[if_pos d];exact waw (bnt.2 (qg.2 d)) (way a (wav _))
 ·rw[if_neg b,if_pos b];exact waw (bnt.2 (qg.2 b)) (wav _)
theorem qME(n:Int)(l:List Pk)(f:Sm l)(i:Int):Ev (λ m _=>qau m (n,l,()) i) (((n,(qbK l i).1,()),()),((qbK l i).2.1,((qbK l i).2.2.1,((qbK l i).2.2.2,())))):=by
 refine waB ?_;simp only[qmF,qbt,qk];unfold qbK;refine wau (qlK n l i true) ?_;by_cases b:yc l i true=0
 ·rw[if_neg (λ h=>h b)];obtain⟨j,p,rfl,e,g,o,k⟩:=qa0 b;rw[wF,e];refine wax (bnf.2 (qj.2 b)) (way k ?_);rw[QK];have a:qb (l.set j (qsJ p)) (j:Int)=some (qsJ p):=by rw[zb,List.getElem?_set_self g]
  have r:=f.2 p (wa e);have q:=qy1 p.2.2.1;refine way a (way a (wau (qKT p.2.2.1 (by omega)) ?_));by_cases d:(qaV p.2.2.1).2=0
  ·simp only[];rw[if_neg (λ h=>h d)];refine wax (bnf.2 (qj.2 d)) (wau (qMP (qaV p.2.2.1).1 (by omega)) ?_);by_cases c:(qiD (qaV p.2.2.1).1).2.2=0
   ·rw[if_neg (λ h=>h c)];exact wax (bnf.2 (qj.2 c)) (wav _)
   ·rw[if_pos c];exact waw (bnt.2 (qg.2 c)) (wav _)
  ·simp only[];rw[if_pos d];exact waw (bnt.2 (qg.2 d)) (wav _)
 ·rw[if_pos b];exact waw (bnt.2 (qg.2 b)) (wav _)
def qjb(l:List Pk)(i:Int):List Pk × Int:=if yc l i true≠0 then(l,yc l i true)else match l[i.toNat]? with
 | none=>(l,0)
 | some p=>(l.set i.toNat (qsJ p),0)
theorem qNw(n:Int)(l:List Pk)(i:Int):Ev (λ m _=>qaZ m (n,l,()) i) (((n,(qjb l i).1,()),()),((qjb l i).2,())):=by
 refine waB ?_;simp only[qog,qbS];unfold qjb;refine wau (qxt n l i) ?_;by_cases a:yc l i true=0
 ·rw[if_pos a,if_neg (λ h=>h a)];obtain⟨j,p,rfl,b,e,d,c⟩:=qa0 a;rw[wF,b];refine way c (waw (qj.2 a) (waA ?_));rw[QK,a];rfl
 ·rw[if_neg a,if_pos a];exact wax (qg.2 a) (wav _)
theorem qKk(n:Int)(l:List Pk)(i:Int):Ev (λ m _=>qbZ m (n,l,()) i) (((n,(qjb l i).1,()),()),((qjb l i).2,())):=by
 refine waB ?_;simp only[qpE,qc3];unfold qjb;refine wau (qlK n l i true) ?_;by_cases a:yc l i true=0
 ·rw[if_neg (λ h=>h a)];obtain⟨j,p,rfl,b,e,d,c⟩:=qa0 a;rw[wF,b];refine wax (bnf.2 (qj.2 a)) (way c (waA ?_));rw[QK];rfl
 ·rw[if_pos a];exact waw (bnt.2 (qg.2 a)) (wav _)
def qgN(l:List Pk)(i:Int):List Pk × (Int × Int):=if yc l i false≠0 then(l,(0,yc l i false))else if 400<=l.length then(l,(0,3))else match l[i.toNat]? with
 | none=>(l,(0,0))
 | some p=>(l++[(p.1,(p.2.1,(p.2.2.1,true)))],((l.length:Int),0))
theorem qxr(l:List Pk)(p:Pk)(h:l.length<400):iw .i64 (zp (((l++[p]).length:Nat):Int) 1)=(l.length:Int):=by
 rw[wc];show iw .i64 (zp (((l.length+1:Nat)):Int) 1)=_;rw[jS (by unfold zp;omega)];unfold zp;omega
theorem qFb(n:Int)(l:List Pk)(p:Pk):Ev (λ m _=>JP m (n,l,()) p) (if 400<=l.length then(((n,l,()),()),(0,(3,())))else(((n,l++[p],()),()),((l.length:Int),(0,())))):=by
 refine waB ?_;simp only[qoy,qck];by_cases h:400<=l.length
 ·rw[if_pos h];exact waw (yT.2 (by omega)) (wav _)
 ·rw[if_neg h];refine wax (yo.2 (by omega)) (waw (qE (by omega) (by omega)) (waA ?_));rw[qxr l _ (by omega)]
theorem qNY(n:Int)(l:List Pk)(i:Int):Ev (λ m _=>Qt m (n,l,()) i) (((n,(qgN l i).1,()),()),((qgN l i).2.1,((qgN l i).2.2,()))):=by
 refine waB ?_;simp only[qmk,qaS];by_cases f:i<0
 ·refine waw (qr.2 f) (waA ?_);unfold qgN;rw[qg8 (.inl f)];rfl
 ·by_cases e:(l.length:Int)<=i
  ·refine wax (qm.2 (by omega)) (waw (yT.2 e) (waA ?_));unfold qgN;rw[qg8 (.inr e)];rfl
  ·obtain⟨j,rfl⟩:=ko (show 0<=i by omega);have b:j<l.length:=by omega
   have c:qb l (j:Int)=some l[j]:=by rw[zb];exact List.getElem?_eq_getElem b
   have k:yc l (j:Int) false=0:=by rw[qlE b,if_neg (λ h=>by cases h.1)]
   have a:=qFb n l (l[j].1,(l[j].2.1,(l[j].2.2.1,true)))
   have g:qgN l (j:Int)=if 400<=l.length then(l,(0,3))else(l++[(l[j].1,(l[j].2.1,(l[j].2.2.1,true)))],((l.length:Int),0)):=by
    unfold qgN;rw[k,if_neg (λ h=>h rfl),wF,List.getElem?_eq_getElem b]
   rw[g];by_cases d:400<=l.length
   ·rw[if_pos d]at a |-
    exact wax (qm.2 (by omega)) (wax (yo.2 (by omega)) (way c (wau a (wav _))))
   ·rw[if_neg d]at a |-
    exact wax (qm.2 (by omega)) (wax (yo.2 (by omega)) (way c (wau a (wav _))))
theorem qMH(n:Int)(l:List Pk)(i:Int):Ev (λ m _=>qaX m (n,l,()) i) (((n,(qgN l i).1,()),()),((qgN l i).2.1,((qgN l i).2.2,()))):=by
 refine waB ?_;simp only[qnZ,qbN];unfold qgN;refine wau (qlK n l i false) ?_;by_cases a:yc l i false=0
 ·rw[if_neg (λ h=>h a)];obtain⟨j,p,rfl,c,f,e,d⟩:=qa0 a;rw[wF,c];refine wax (bnf.2 (qj.2 a)) ?_;by_cases b:400<=l.length
  ·rw[if_pos b];exact waw (yT.2 (by show(400:Int)<=(l.length:Int);omega)) (wav _)
  ·rw[if_neg b];refine wax (yo.2 (by show(l.length:Int)<400;omega)) (way d (waw (qE (by show(l.length+1)*40<=_;omega) (by omega)) (waA ?_)));rw[qxr l _ (by omega)]
 ·rw[if_pos a];exact waw (bnt.2 (qg.2 a)) (wav _)
def qjs(l:List Pk)(i:Int):List UInt8 × Int:=if yc l i false≠0 then([],yc l i false)else match l[i.toNat]? with
 | none=>([],0)
 | some p=>(p.2.2.1,0)
theorem qOT(n:Int)(l:List Pk)(i:Int):Ev (λ m _=>qan m (n,l,()) i) (((n,l,()),()),((qjs l i).1,((qjs l i).2,()))):=by
 refine waB ?_;simp only[qmI,qbk];by_cases c:i<0
 ·refine waw (qr.2 c) (waA ?_);unfold qjs;rw[qg8 (.inl c)];rfl
 ·by_cases b:(l.length:Int)<=i
  ·refine wax (qm.2 (by omega)) (waw (yT.2 b) (waA ?_));unfold qjs;rw[qg8 (.inr b)];rfl
  ·obtain⟨j,rfl⟩:=ko (show 0<=i by omega);have a:j<l.length:=by omega
   have d:qb l (j:Int)=some l[j]:=by rw[zb];exact List.getElem?_eq_getElem a
   refine wax (qm.2 (by omega)) (wax (yo.2 (by omega)) (way d (waA ?_)));have e:yc l (j:Int) false=0:=by rw[qlE a,if_neg (λ h=>by cases h.1)]
   unfold qjs;rw[e,if_neg (λ h=>h rfl),wF,List.getElem?_eq_getElem a]
theorem qMO(n:Int)(l:List Pk)(i:Int):Ev (λ m _=>qbC m (n,l,()) i) (((n,l,()),()),((qjs l i).1,((qjs l i).2,()))):=by
 refine waB ?_;simp only[qoM,qcn];unfold qjs;refine wau (qlK n l i false) ?_;by_cases a:yc l i false=0
 ·rw[if_neg (λ h=>h a)];obtain⟨j,p,rfl,b,e,d,c⟩:=qa0 a;rw[wF,b];exact wax (bnf.2 (qj.2 a)) (way c (wav _))
 ·rw[if_pos a];exact waw (bnt.2 (qg.2 a)) (wav _)
end Go.AmZ
namespace Go.AmZ
open Go Go.GxZ
def qPZ(p:Pk)(j:Nat)(v:Int):Pk:=(p.1,(p.2.1,(p.2.2.1.set j (UInt8.ofNat v.toNat),p.2.2.2)))
def qn7(l:List Pk)(i a v:Int):List Pk × Int:=if yc l i true≠0 then(l,yc l i true)else match l[i.toNat]? with
 | none=>(l,0)
 | some p=>if a<0\/(p.2.2.1.length:Int)<=a then(l,7)else(l.set i.toNat (qPZ p a.toNat v),0)
theorem qOK(n:Int)(l:List Pk)(i b v:Int):Ev (λ m _=>Q0 m (n,l,()) i b v) (((n,(qn7 l i b v).1,()),()),((qn7 l i b v).2,())):=by
 refine waB ?_;simp only[qmB,qbq];unfold qn7;refine wau (qxt n l i) ?_;by_cases c:yc l i true=0
 ·rw[if_pos c,if_neg (λ h=>h c)];obtain⟨j,p,rfl,k,s,r,o⟩:=qa0 c;rw[wF,k];refine way o (wax (bnf.2 (qj.2 c)) ?_);simp only[];by_cases f:b<0
  ·rw[if_pos (.inl f)];exact waw (qr.2 f) (wav _)
  ·by_cases d:(p.2.2.1.length:Int)<=b
   ·rw[if_pos (.inr d)];exact wax (qm.2 (by omega)) (waw (yT.2 d) (wav _))
   ·rw[if_neg (by omega)];obtain⟨q,rfl⟩:=ko (show 0<=b by omega);have g:q<(Qx p.2.2.1).length:=by rw[qqg];omega
    refine wax (qm.2 (by omega)) (wax (yo.2 (by omega)) (way (a:=(Qx p.2.2.1)[q]) (by rw[zb];exact List.getElem?_eq_getElem g) (waA ?_)));rw[QK,QK]
    have e:qC ((Qx p.2.2.1).set q v)=p.2.2.1.set q (UInt8.ofNat v.toNat):=by
     unfold qC;rw[List.map_set];exact congrArg (λ x=>List.set x q (UInt8.ofNat v.toNat)) (quw p.2.2.1)
    rw[e,wF];rfl
 ·rw[if_neg c,if_pos c];exact waw (bnt.2 (qg.2 c)) (wav _)
theorem qMM(n:Int)(l:List Pk)(k:Sm l)(i a v:Int):Ev (λ m _=>qbH m (n,l,()) i a v) (((n,(qn7 l i a v).1,()),()),((qn7 l i a v).2,())):=by
 refine waB ?_;simp only[qoL,qcu];unfold qn7;refine wau (qlK n l i true) ?_;by_cases b:yc l i true=0
 ·rw[if_neg (λ h=>h b)];obtain⟨j,p,rfl,c,u,t,d⟩:=qa0 b;have w:=k.2 p (wa c);rw[wF,c];refine wax (bnf.2 (qj.2 b)) (way d ?_);simp only[];by_cases f:a<0
  ·rw[if_pos (.inl f)];exact waw (qr.2 f) (wav _)
  ·by_cases e:(p.2.2.1.length:Int)<=a
   ·rw[if_pos (.inr e)];exact wax (qm.2 (by omega)) (waw (yT.2 e) (wav _))
   ·rw[if_neg (by omega)];obtain⟨q,rfl⟩:=ko (show 0<=a by omega);have g:q<p.2.2.1.length:=by omega
    have e1:iw .i64 (qe (q:Int) 1)=((q+1:Nat):Int):=iwn 1 (by omega);have s:QO p.2.2.1 0 (q:Int)=p.2.2.1.take q:=by unfold QO;rw[wF];rfl
    have r:QO p.2.2.1 ((q+1:Nat):Int) (p.2.2.1.length:Int)=p.2.2.1.drop (q+1):=by unfold QO;rw[wF,wF,wC]
    rw[e1,s,r]
    have o:(p.2.2.1.take q++qC [v])++p.2.2.1.drop (q+1)=p.2.2.1.set q (UInt8.ofNat v.toNat):=by
     rw[xJ,if_pos g,wi];rfl
    rw[o];refine wax (qm.2 (by omega)) (wax (yo.2 (by omega)) (waw (by unfold inb;rw[decide_eq_true_iff];omega) (waw (by unfold inb;rw[decide_eq_true_iff];omega) (waw (qi2 (by rw[wm];show _+1<_;omega)) (waw (qdN _) (waw (by unfold inb;rw[decide_eq_true_iff];omega) (waw (qi2 (by rw[wc,wm,wQ];show _+1+_<_;omega)) (way d (waA ?_)))))))));rw[QK,wF];rfl
 ·rw[if_pos b];exact waw (bnt.2 (qg.2 b)) (wav _)
def wtP(l:List Pk)(a:Int)(i:Nat):Bool:=match l[i]? with
 | none=>false
 | some p=>p.2.2.2&&ieq p.2.1 a
def wtO(l:List Pk)(a:Int)(i:Nat):List Int:=((List.range i).filter (wtP l a)).map λ(j:Nat)=>(j:Int)
theorem qDS(l:List Pk)(a:Int)(i:Nat):wtO l a (i+1)=if wtP l a i=true then wtO l a i++[(i:Int)]else wtO l a i:=by
 unfold wtO;rw[wal,xU,wS];cases h:wtP l a i with
 | true=>rw[if_pos rfl,xQ h];rfl
 | false=>rw[if_neg (by decide),xP (by rw[h];decide)];simp
theorem qxb(l:List Pk)(a:Int)(i:Nat):(wtO l a i).length<=i:=by
 unfold wtO;rw[wB];have:=xG (wtP l a) (List.range i)
 rwa [xm]at this
theorem qOa(n:Int)(l:List Pk)(r:l.length<=1000)(a:Int):Ev (λ m _=>JN m (n,l,()) a) (((n,l,()),()),(wtO l a l.length,())):=by
 refine waB ?_;simp only[qkV,QC]
 have c:=qp (P := λ i=>Ev (λ m k=>yd m k a l.length i n l (wtO l a i)) (((n,l,()),()),(wtO l a l.length,()))) l (by omega)
  (λ d=>by
   refine waC ?_;simp only[qd0,QD];exact wax d (wav _))
  (λ i x e s d q p b=>by
   have o:=(List.getElem?_eq_some_iff.1 e).1;have f:=qxb l a i;rw[qDS]at b;have j:wtP l a i=(x.2.2.2&&ieq x.2.1 a):=by unfold wtP;rw[e]
   rw[j]at b;refine waC ?_;simp only[qd0,QD];refine waw d (way q ?_);rw[p];cases h:x.2.2.2 with
   | false=>rw[h,xb,if_neg (by decide)]at b;exact wax rfl b
   | true =>
     rw[h]at b;refine waw rfl ?_;cases g:ieq x.2.1 a with
     | false=>rw[g,ka,if_neg (by decide)]at b;exact wax rfl b
     | true=>rw[g,ka,if_pos rfl]at b;exact waw rfl (waw (qE (by omega) (by omega)) b))
 exact waD (L := λ m k=>yd m k a l.length 0 n l []) (c 0 (we _))
theorem qNC(n:Int)(l:List Pk)(r:l.length<=1000)(a:Int):Ev (λ m _=>qao m (n,l,()) a) (((n,l,()),()),(wtO l a l.length,())):=by
 refine waB ?_;simp only[qmP,Jh]
 have c:=qp (P := λ i=>Ev (λ m k=>yy m k a i n l (wtO l a i)) (((n,l,()),()),(wtO l a l.length,()))) l (by omega)
  (λ d=>by
   refine waC ?_;simp only[qeI,Jp];exact wax d (wav _))
  (λ i x e s d g q b=>by
   have p:=(List.getElem?_eq_some_iff.1 e).1;have f:=qxb l a i;rw[qDS]at b;have o:wtP l a i=(x.2.2.2&&ieq x.2.1 a):=by unfold wtP;rw[e]
   rw[o]at b;refine waC ?_;simp only[qeI,Jp];refine waw d (way g ?_);rw[q];cases j:x.2.2.2 with
   | false=>rw[j,xb,if_neg (by decide)]at b;exact wax rfl b
   | true =>
     rw[j]at b;refine waw rfl (way g ?_);cases h:ieq x.2.1 a with
     | false=>rw[h,ka,if_neg (by decide)]at b;exact wax rfl b
     | true=>rw[h,ka,if_pos rfl]at b;exact waw rfl (waw (qE (by omega) (by omega)) b))
 exact waD (L := λ m k=>yy m k a 0 n l []) (c 0 (we _))
theorem qJP(l:List Int)(d:l.length<2 ^ 62):Ev (λ m _=>qaW m l l) true:=by
 refine waB ?_;simp only[qoi,JJ];refine wax (bnf.2 (qj.2 rfl)) ?_
 have a:=qp (P := λ i=>Ev (λ m k=>yO m k l l l.length i) true) l d
  (λ b=>by
   refine waC ?_;simp only[qfT,JF];exact wax b (wav _))
  (λ i x g h b c e f=>by
   refine waC ?_;simp only[qfT,JF];refine waw b (way c (way c (wax (bnf.2 (qj.2 rfl)) ?_)));rw[e];exact f)
 exact waD (L := λ m k=>yO m k l l l.length 0) (a 0 (we _))
def qg1(n:Int)(l:List Pk)(a b:Int)(t:T):List Pk × (Int × Int):=if ¬ (0<=a/\a<n)\/¬ (0<=b/\b<n)then(l,(0,7))else if 400<=l.length then(l,(0,3))else if JC t≠0 then(l,(0,JC t))else(l++[(a,(b,(qap (qaR t),true)))],((l.length:Int),0))
theorem qJH(n:Int)(l:List Pk)(a b:Int)(t:T)(g:size t<=10000):Ev (λ m _=>jH m (n,l,()) a b t) (((n,(qg1 n l a b t).1,()),()),((qg1 n l a b t).2.1,((qg1 n l a b t).2.2,()))):=by
 refine waB ?_;simp only[qnY,qbQ,qk];unfold qg1;refine wau (qCh n l a) ?_;by_cases e:0<=a/\a<n
 ·refine wax (by show qd (decide _)=false;rw[decide_eq_true e];rfl) (wau (qCh n l b) ?_);by_cases d:0<=b/\b<n
  ·rw[if_neg (λ h=>h.elim (λ h=>h e) λ h=>h d)];refine wax (by show qd (decide _)=false;rw[decide_eq_true d];rfl) ?_;by_cases f:400<=l.length
   ·rw[if_pos f];exact waw (yT.2 (by show(400:Int)<=(l.length:Int);omega)) (wav _)
   ·rw[if_neg f];refine wax (yo.2 (by show(l.length:Int)<400;omega)) (wau (qOW t g) ?_);by_cases c:JC t=0
    ·rw[if_neg (λ h=>h c)];have j:=quI t g;have i:=qFb n l (a,(b,(qap (qaR t),true)));rw[if_neg f]at i;exact wax (bnf.2 (qj.2 c)) (wau (qFO (qaR t) (by omega)) (wau i (wav _)))
    ·rw[if_pos c];exact waw (bnt.2 (qg.2 c)) (wav _)
  ·rw[if_pos (.inr d)];exact waw (by show qd (decide _)=true;rw[decide_eq_false d];rfl) (wav _)
 ·rw[if_pos (.inl e)];exact waw (by show qd (decide _)=true;rw[decide_eq_false e];rfl) (wav _)
theorem qFZ(n:Int)(l:List Pk)(a b:Int)(t:T)(d:size t<=10000):Ev (λ m _=>qak m (n,l,()) a b t) (((n,(qg1 n l a b t).1,()),()),((qg1 n l a b t).2.1,((qg1 n l a b t).2.2,()))):=by
 refine waB ?_;simp only[qpt,qc4,qk];unfold qg1;by_cases h:¬ (0<=a/\a<n)\/¬ (0<=b/\b<n)
 ·rw[if_pos h];by_cases f:a<0
  ·exact waw (qr.2 f) (wav _)
  ·refine wax (qm.2 (by omega)) ?_;by_cases i:n<=a
   ·exact waw (yT.2 i) (wav _)
   ·refine wax (yo.2 (by omega)) ?_;by_cases g:b<0
    ·exact waw (qr.2 g) (wav _)
    ·exact wax (qm.2 (by omega)) (waw (yT.2 (by omega)) (wav _))
 ·rw[if_neg h];refine wax (qm.2 (by omega)) (wax (yo.2 (by omega)) (wax (qm.2 (by omega)) (wax (yo.2 (by omega)) ?_)));by_cases e:400<=l.length
  ·rw[if_pos e];exact waw (yT.2 (by omega)) (wav _)
  ·rw[if_neg e];refine wax (yo.2 (by omega)) (wau (qMD t d) ?_);by_cases c:JC t=0
   ·rw[if_neg (λ h=>h c)];have f:=quI t d;refine wax (bnf.2 (qj.2 c)) (wau (qBl (qaR t) (by omega)) (waw (qE (by omega) (by omega)) (waA ?_)));rw[qxr l _ (by omega)]
   ·rw[if_pos c];exact waw (bnt.2 (qg.2 c)) (wav _)
theorem qMG(s:List UInt8):size (qiD s).1<=400:=by
 have a:size (T.mk 0 [] 0 [])<=400:=by rw[qM];exact(by decide:1+(([]:List T).map size).sum<=400)
 unfold qiD;split
 ·exact a
 ·split
  ·exact a
  ·split
   ·exact a
   ·rename_i h;split
    ·exact wae λ b=>h (.inl b)
    ·exact a
theorem qE9(l:List Pk)(i:Int):size (qbK l i).2.1<=1000000000:=by
 have a:size (T.mk 0 [] 0 [])<=1000000000:=by rw[qM];exact(by decide:1+(([]:List T).map size).sum<=1000000000)
 unfold qbK;split
 ·exact a
 ·split
  ·exact a
  ·split
   ·exact a
   ·split
    ·exact a
    ·exact wD (qMG _) (by decide)
abbrev OpV:=Int × (Int × (Int × (Int × (T × Int))))
def doO(n:Int)(l:List Pk)(o:OpV):List Pk :=
 if ye o.1 7=0 then(qg1 n l o.2.1 o.2.2.1 o.2.2.2.2.1).1 else if ye o.1 7=1 then(qbK l o.2.1).1 else if ye o.1 7=2 then(qjb l o.2.1).1 else if ye o.1 7=3 then(qgN l o.2.1).1 else if ye o.1 7=4 then(qn7 l o.2.1 o.2.2.1 o.2.2.2.1).1 else l
theorem qvc(n:Int)(l:List Pk)(b:Sm l)(o:OpV)(h:size o.2.2.2.2.1<=10000):Ev (λ m _=>qlk m (n,l,()) (n,l,()) o) (((n,doO n l o,()),((n,doO n l o,()),())),(true,())):=by
 refine waB ?_;simp only[qHG,qn2,qk];unfold doO;have a:∀ x:Int,ieq x x=true := λ x=>qj.2 rfl;by_cases g:ye o.1 7=0
 ·rw[if_pos g];refine waw (qj.2 g) (wau (qJH n l _ _ _ h) (wau (qFZ n l _ _ _ h) (waw (a _) (waA ?_))));rw[a]
 ·rw[if_neg g];refine wax (qg.2 g) ?_;by_cases f:ye o.1 7=1
  ·rw[if_pos f];refine waw (qj.2 f) (wau (qBZ n l b _) (wau (qME n l b _) (wau (qe8 (qbK l o.2.1).2.1 (qbK l o.2.1).2.1 (qE9 l o.2.1) (qE9 l o.2.1)) ?_)));refine waw (qa5.2 rfl) (waw (a _) (waA ?_));rw[a]
  ·rw[if_neg f];refine wax (qg.2 f) ?_;by_cases e:ye o.1 7=2
   ·rw[if_pos e];refine waw (qj.2 e) (wau (qNw n l _) (wau (qKk n l _) (waA ?_)));rw[a]
   ·rw[if_neg e];refine wax (qg.2 e) ?_;by_cases d:ye o.1 7=3
    ·rw[if_pos d];refine waw (qj.2 d) (wau (qNY n l _) (wau (qMH n l _) (waw (a _) (waA ?_))));rw[a]
    ·rw[if_neg d];refine wax (qg.2 d) ?_;by_cases c:ye o.1 7=4
     ·rw[if_pos c];refine waw (qj.2 c) (wau (qOK n l _ _ _) (wau (qMM n l b _ _ _) (waA ?_)));rw[a]
     ·rw[if_neg c];refine wax (qg.2 c) ?_;by_cases i:ye o.1 7=5
      ·have j:=b.1;have k:=qxb l o.2.1 l.length;exact waw (qj.2 i) (wau (qOa n l (by omega) _) (wau (qNC n l (by omega) _) (wau (qJP (wtO l o.2.1 l.length) (by omega)) (wav _))))
      ·refine wax (qg.2 i) (wau (qOT n l _) (wau (qMO n l _) (waw (yV.2 rfl) (waA ?_))));rw[a]
end Go.AmZ
namespace Go.AmZ
open Go Go.GxZ Go.RowKit
open Go.ChangeShapes Go.WideShapes Go.ChangeAt Go.WideMaps Go.WideElems
theorem qzh(b o j:Nat):(⟨b,o,none⟩:Addr).add j=⟨b,o+j,none⟩:=by unfold Addr.add;split<;>simp_all
def Ty.wt:Ty->Nat
 | .int _ | .bool=>1
 | .str=>16
 | .list _=>24
 | .term=>56
 | .pair a b=>a.wt+b.wt
 | .one a=>a.wt
theorem Ty.wt_pos:∀ a:Ty,0<a.wt
 | .int _=>Nat.one_pos
 | .bool=>Nat.one_pos
 | .list _=>(by decide:0<24)
 | .str=>(by decide:0<16)
 | .term=>(by decide:0<56)
 | .pair a b=>wE (Ty.wt_pos a) (kF _ _)
 | .one a=>Ty.wt_pos a
mutual
def tyM(P:Program):Nat->Ty->TypeId->Bool
 | 0,_,_=>false
 | _+1,.int k,t=>match P.underlying t with
   | some (.int d)=>decide (d=k)&&decide (P.cellsOf t=1)
   | _=>false
 | _+1,.bool,t=>match P.underlying t with
   | some .bool=>decide (P.cellsOf t=1)
   | _=>false
 | _+1,.str,t=>match P.underlying t with
   | some .string=>decide (P.cellsOf t=1)
   | _=>false
 | n+1,.list a,t=>match P.underlying t with
   | some (.slice e)=>decide (P.cellsOf t=1)&&decide (P.cellsOf e=a.size)&&decide (a.wt<=P.bytesOf e)&&tyM P n a e
   | _=>false
 | n+1,.term,t=>qHD P n t
 | n+1,.pair a b,t=>match P.underlying t with
   | some (.struct c)=>decide (P.cellsOf t=a.size+b.size)&&fsM P n (.pair a b) 0 c.toList
   | _=>false
 | n+1,.one a,t=>match P.underlying t with
   | some (.struct c)=>decide (P.cellsOf t=a.size)&&fsM P n a 0 c.toList
   | _=>false
def fsM(P:Program):Nat->Ty->Nat->List Field->Bool
 | 0,_,_,_=>false
 | n+1,τ,off,[f]=>decide (f.offset=off)&&decide (P.cellsOf f.type = τ.size)&&tyM P n τ f.type
 | n+1,.pair a b,off,f::g::r=>decide (f.offset=off)&&decide (P.cellsOf f.type=a.size)&&tyM P n a f.type&&fsM P n b (off+a.size) (g::r)
 | _+1,_,_,_=>false
def qHD(P:Program):Nat->TypeId->Bool
 | 0,_=>false
 | n+1,t=>match P.underlying t with
   | some (.struct f)=>match f.toList with
     | [d,c,b,a]=>decide (P.cellsOf t=4)&&decide (d.offset=0)&&decide (c.offset=1)&&decide (b.offset=2)&&decide (a.offset=3)&&decide (P.cellsOf a.type=1) &&
      tyM P n (.int .i64) d.type&&tyM P n .str c.type&&tyM P n (.int .i64) b.type&&(match P.underlying a.type with
      | some (.slice e)=>decide (e=t)&&decide (0<P.bytesOf t)
      | _=>false)
     | _=>false
   | _=>false
end
def qlS:(τ : Ty)->Val τ -> Prop
 | .int k,n=>k.min<=n/\n<=k.max
 | .bool,_=>True
 | .str,s=>s.length<2 ^ 62
 | .term,t=>qr4 t
 | .list a,l=>(l.length<2 ^ 62/\l.length*a.wt<=2 ^ 47)/\∀ x∈l,qlS a x
 | .pair a b,p=>qlS a p.1/\qlS b p.2
 | .one a,v=>qlS a v
def ghW(W:World):Gh:=⟨λ b o=>match W.cell? ⟨b,o,none⟩with | some u=>if u.oneCell'=true then some u else none | none=>none,0,λ _=>0,0,λ _=>0,λ _=>0,λ _=>0,λ _=>0,λ _=>0⟩
theorem qFX{W:World}{b o:Nat}{u:Value}:(ghW W).mem b o=some u↔W.cell? ⟨b,o,none⟩=some u/\u.oneCell'=true:=by
 show(match W.cell? ⟨b,o,none⟩with | some u=>if u.oneCell'=true then some u else none | none=>none)=some u↔_;cases W.cell? ⟨b,o,none⟩with
 | none=>simp
 | some v =>
   simp only[wz];constructor
   ·intro h;split at h
    ·cases h;exact⟨rfl,‹_›⟩
    ·cases h
   ·rintro⟨rfl,h⟩;rw[if_pos h]
theorem qMB(W:World):Inv (ghW W) emp W :=
 ⟨rfl,rfl,λ b o u h=>qFX.1 h,λ i cs h=>(by cases h),λ i j h=>absurd h (wL _),λ i h=>absurd h (wL _),λ r R h=>(by cases h),λ r a h=>absurd h (wL _)⟩
theorem cells_len{W:World}{zt:Nat}{a:Addr}:∀{n:Nat} {cs:List Value},W.cells? zt a n=some cs->cs.length=n/\∀ j u,cs[j]?=some u->W.cell? (a.add j)=some u:=by
 intro n cs h;unfold World.cells? at h;split at h
 case isFalse=>cases h
 have h1:=mapM_some_length h;rw[xm]at h1;refine⟨h1,λ j u hj=>?_⟩;have hlt:=getElem?_lt hj;have:=mapM_some_get h j j (by rw[List.getElem?_range (by omega)]);rw[this];exact hj
section
variable {H:Type} {enc:TypeId × Value->H} {P:Program} {W:World}
def qHh(enc:TypeId × Value->H)(P:Program)(W:World)(a:Nat):Prop:=∀(n:Nat) (τ : Ty) (t:TypeId) (cs:List Value) (x:DataW H × List MemPlace),tyM P n τ t=true->DataW.trod enc P W 0 (λ _=>true) true a t cs=some x->(∀ k∈x.1.weights P t,k<=reachBytes) ->
 ∃ v:Val τ,RepL (ghW W) (qi τ v) cs/\(∀ u∈cs,u.oneCell'=true)/\qlS τ v
theorem qoX{e:TypeId}:∀{ds:List (DataW H)} {d:DataW H},d∈ds->∀ n∈d.weights P e,n∈DataW.weightsAll P e ds
 | b::ds,d,h,n,a=>by
   simp only[DataW.weightsAll,wx];rcases wy.1 h with rfl | h
   ·exact Or.inl a
   ·exact Or.inr (qoX h n a)
theorem qDz{n k:Nat}(h:n*k<=reachBytes)(a:0<k):n<2 ^ 62:=by
 have:n*1<=n*k:=vP _ a;have b:reachBytes=140737488351232:=rfl;omega
theorem qJA{α d:Type}{n:Nat}{Q:Nat -> α -> d->Prop}(e:0<n)(h:∀ i,i<n->∃ a b,Q i a b):∃(f:Nat -> α) (g:Nat->d),∀ i,i<n->Q i (f i) (g i):=by
 obtain⟨k,j,_⟩:=h 0 e;refine⟨λ i=>if c:i<n then(h i c).choose else k,λ i=>if c:i<n then(h i c).choose_spec.choose else j,λ i c=>?_⟩;simp only[dif_pos c];exact(h i c).choose_spec.choose_spec
theorem qBp{Γ : Gh}{x:AV}{u:Value}(h:Rep Γ x u):RepL Γ [x] [u]:=waG h RepL.nil
theorem qzT{A:Nat}(hA:∀ f,f<A->qHh enc P W f){a:Ty}{t e:TypeId}{m:Nat}{cs:List Value}{x:DataW H × List MemPlace}(T:P.underlying t=some (.slice e))(hc:P.cellsOf e=a.size)(hb:0<P.bytesOf e)(hm:tyM P m a e=true)
  (h:DataW.trod enc P W 0 (λ _=>true) true A t cs=some x) (M:∀ k∈x.1.weights P t,k<=reachBytes) :
  ∃(l:List (Val a)) (u:Value),cs=[u]/\u.oneCell'=true/\Rep (ghW W) (.sl a.size (l.map (qi a)) 1) u/\(l.length<2 ^ 62/\l.length*P.bytesOf e<=2 ^ 47)/\∀ v∈l,qlS a v:=by
 rcases DataW.trod_slice T h with⟨rfl,rfl⟩ | ⟨ad,d,cap,elems,E,n,rfl,rfl,rfl,_,U,_,I,O,_,_⟩
 ·refine⟨[],_,rfl,rfl,?_,⟨by simp,by simp⟩,(by intro v G;cases G)⟩;exact .sl _ _ _ none 0 0 0 0 (λ _ _=>undef) rfl (λ _=>wb _) (λ h=>by omega) (by intro e p;cases p) (by intro e p;cases p) (waF a) (.inl rfl) (by intro i e j x c;cases c) (by intro i e j x c;cases c)
 ·have F:(elems.length+E.length)*P.bytesOf e<=reachBytes/\∀ k∈DataW.weightsAll P e (elems.map (·.1)),k<=reachBytes:=by
    simp only[DataW.weights,T,wB,wy,wx]at M;exact⟨M _ (.inl rfl),λ k N=>M k (.inr (.inl N))⟩
  have B:∀ i,i<d->∃(v:Val a) (us:List Value),RepL (ghW W) (qi a v) us/\(∀ u∈us,u.oneCell'=true)/\qlS a v/\(∀ j u,us[j]?=some u->W.cell? ((ad.add (i*a.size)).add j)=some u):=by
   intro i c;have g:=O i c;rw[List.getElem?_eq_getElem (by omega),hc,Option.bind_eq_some_iff]at g;obtain⟨us,C,h3⟩:=g;obtain⟨z,D⟩:=cells_len C;obtain⟨v,Q,g2,g3⟩:=hA n (xu _) m a e us _ hm h3 λ k N=>F.2 k (qoX (kO (wW _)) k N);exact⟨v,us,Q,g2,g3,D⟩
  by_cases h0:d=0
  ·subst h0;refine⟨[],_,rfl,rfl,?_,⟨by simp,by simp⟩,(by intro v G;cases G)⟩;exact .sl _ _ _ _ 0 cap 0 0 (λ _ _=>undef) rfl (λ _=>U) (λ h=>by omega) (by intro e p;cases p) (by intro e p;cases p) (waF a) (.inl rfl) (by intro i e j x c;cases c) (by intro i e j x c;cases c)
  obtain⟨b,o,rfl⟩:∃ b o,ad=⟨b,o,none⟩:=by
   obtain⟨v,us,Q,_,_,g4⟩:=B 0 (by omega);have aa:us.length=a.size:=by rw[Q.len];exact jD a v
   have hp:=waF a;have g:=g4 0 _ (List.getElem?_eq_getElem (by omega));rw[kQ]at g;have e1:(ad.add 0).add 0=ad:=rfl;rw[e1]at g;obtain⟨b,o,sp⟩:=ad;unfold World.cell? at g;split at g
   ·split at g
    ·cases g
    ·rename_i hs;cases sp with
     | none=>exact⟨b,o,rfl⟩
     | some s=>simp at hs
   ·cases g
  obtain⟨L,R,r⟩:=qJA (by omega:0<d) B;have Z := λ i c=>(r i c).1;have Y := λ i c=>(r i c).2.1;have X := λ i c=>(r i c).2.2.1;have V := λ i c=>(r i c).2.2.2;have K:∀ i,i<d->((List.range d).map L)[i]?=some (L i) := λ i c=>by rw[List.getElem?_map,List.getElem?_range c];rfl
  have q:∀(i:Nat) (w:List AV) (j:Nat) (y:AV),(((List.range d).map L).map (qi a))[i]?=some w->w[j]?=some y->i<d/\∃ u,(R i)[j]?=some u/\Rep (ghW W) y u/\(ghW W).mem b (o+i*a.size+j)=some u:=by
   intro i w j y g C;have c:i<d:=by have:=getElem?_lt g;simpa using this
   rw[List.getElem?_map,K i c]at g;cases g;obtain⟨u,z,D⟩:=(Z i c).get C;refine⟨c,u,z,D,qFX.2 ⟨?_,Y i c u (wa z)⟩⟩;have:=V i c j u z;rw[qzh,qzh]at this;exact this
  refine⟨(List.range d).map L,_,rfl,rfl,?_,?_,?_⟩
  ·refine .sl _ _ _ _ d cap b o (λ i j=>(R i).getD j undef) (by simp) (λ _=>U) (λ h=>by omega) ?_ ?_ (waF a) (.inr rfl) ?_ ?_
   ·intro w p;obtain⟨v,_,rfl⟩:=ww.1 p;exact jD a v
   ·intro w p;obtain⟨v,_,rfl⟩:=ww.1 p;exact zr a v
   ·intro i w j y g C;obtain⟨_,u,z,D,S⟩:=q i w j y g C;rw[List.getD_eq_getElem?_getD,z];exact S
   ·intro i w j y g C;obtain⟨_,u,z,D,S⟩:=q i w j y g C;rw[List.getD_eq_getElem?_getD,z];exact D
  ·rw[wB,xm,<- I];have J:elems.length*P.bytesOf e<=reachBytes:=wD (wn _ (kF _ _)) F.1;exact⟨qDz J hb,wD J (by decide)⟩
  ·intro v G;obtain⟨i,c,rfl⟩:=ww.1 G;exact X i (kS.1 c)
theorem qwP{c:Nat}(G:qHh enc P W c):∀(n:Nat) (τ : Ty) (off:Nat) (d:List Field) (cs:List Value) (xs:List (DataW H × List MemPlace)),fsM P n τ off d=true->xs.length=d.length ->
  (∀(i:Nat) (f:Field),d[i]?=some f->DataW.trod enc P W 0 (λ _=>true) true c f.type ((cs.drop f.offset).take (P.cellsOf f.type))=xs[i]?)->(∀ k∈DataW.weightsEach P (d.map (·.type)) (xs.map (·.1)),k<=reachBytes)->off + τ.size<=cs.length ->
  ∃ v:Val τ,RepL (ghW W) (qi τ v) ((cs.drop off).take τ.size)/\(∀ u∈(cs.drop off).take τ.size,u.oneCell'=true)/\qlS τ v:=by
 intro n
 induction n with
 | zero=>intro τ off d cs xs h;simp[fsM]at h
 | succ n M =>
   intro τ off d cs xs h A z m j
   have t:∀ f x,d=[f]->xs=[x]->(decide (f.offset=off)&&decide (P.cellsOf f.type = τ.size)&&tyM P n τ f.type)=true->∃ v:Val τ,RepL (ghW W) (qi τ v) ((cs.drop off).take τ.size)/\(∀ u∈(cs.drop off).take τ.size,u.oneCell'=true)/\qlS τ v:=by
    intro f x Q w h;simp only[wd,decide_eq_true_eq]at h;obtain⟨⟨E,D⟩,C⟩:=h;subst Q;subst w;have o:=z 0 f rfl;rw[E,D]at o;exact G n τ f.type _ x C o λ k l=>m k (by simp only[wo,vw,DataW.weightsEach,wA];exact l)
   cases d with
   | nil=>cases τ <;> simp[fsM]at h
   | cons f r =>
     cases xs with
     | nil=>simp at A
     | cons x xs =>
       cases r with
       | nil =>
         have y:xs=[]:=wj (by simpa using A);subst y;refine t f x rfl rfl ?_;cases τ <;> exact h
       | cons g r =>
         cases τ with
         | pair a b =>
           simp only[fsM,wd,decide_eq_true_eq]at h;obtain⟨⟨⟨E,D⟩,C⟩,o⟩:=h;have I:=z 0 f rfl;rw[E,D]at I;have O:off+(a.size+b.size)<=cs.length:=j;simp only[wo,DataW.weightsEach,wx]at m;obtain⟨v,L,K,J⟩:=G n a f.type _ x C I λ k l=>m k (.inl l);obtain⟨F,s,q,p⟩:=M b (off+a.size) (g::r) cs xs o (by simpa using A) (λ i R B=>z (i+1) R B) (λ k l=>m k (.inr l)) (by omega)
           have e:(cs.drop off).take (a.size+b.size)=(cs.drop off).take a.size++(cs.drop (off+a.size)).take b.size:=by
            rw[List.take_add,List.drop_drop]
           refine⟨(v,F),?_,?_,J,p⟩
           ·show RepL _ (qi a v++qi b F) ((cs.drop off).take (a.size+b.size));rw[e];exact L.append s
           ·show ∀ u∈(cs.drop off).take (a.size+b.size),_;rw[e];intro u N;exact(wx.1 N).elim (K u) (q u)
         | _=>simp[fsM]at h
theorem qMz{Γ : Gh}(k:IntKind)(n:Int):RepL Γ (qi (.int k) n) [.int k n]:=qBp (.v _ rfl)
theorem qMe:∀ fuel,qHh enc P W fuel:=by
 intro fuel
 induction fuel using Nat.strongRecOn with
 | ind fuel ihA =>
   have ints:∀{k:IntKind} {t:TypeId} {cs:List Value} {x:DataW H × List MemPlace} {f:Nat},P.underlying t=some (.int k)->DataW.trod enc P W 0 (λ _=>true) true f t cs=some x->∃ n:Int,cs=[.int k n]/\k.min<=n/\n<=k.max:=by
    intro k t cs x f ht h;obtain⟨n,rfl,_,hwf⟩:=DataW.trod_int ht h;simp only[Lit.wf,wd,decide_eq_true_eq]at hwf;exact⟨n,rfl,hwf⟩
   have strs:∀{t:TypeId} {cs:List Value} {x:DataW H × List MemPlace} {f:Nat},P.underlying t=some .string->DataW.trod enc P W 0 (λ _=>true) true f t cs=some x->(∀ k∈x.1.weights P t,k<=reachBytes)->∃ s:ByteArray,cs=[.string s]/\s.data.toList.length<2 ^ 62:=by
    intro t cs x f ht h hw;obtain⟨s,rfl,rfl,_⟩:=DataW.trod_string ht h;refine⟨s,rfl,?_⟩;have:=hw s.data.toList.length (by simp[DataW.weights]);exact qDz (k:=1) (by omega) (by decide)
   intro n τ t cs x hm h hw;cases n with
   | zero=>cases τ <;> simp[tyM]at hm
   | succ n =>
   cases τ with
   | int k =>
     simp only[tyM]at hm;split at hm
     ·rename_i k' ht;simp only[wd,decide_eq_true_eq]at hm;obtain⟨rfl,_⟩:=hm;obtain⟨i,rfl,h1,h2⟩:=ints ht h;exact⟨i,qMz _ _,by intro u hu;rw[wG.1 hu];rfl,h1,h2⟩
     ·cases hm
   | bool =>
     simp only[tyM]at hm;split at hm
     ·rename_i ht;obtain⟨b,rfl,_⟩:=DataW.trod_bool ht h;exact⟨b,qBp (.v _ rfl),by intro u hu;rw[wG.1 hu];rfl,trivial⟩
     ·cases hm
   | str =>
     simp only[tyM]at hm;split at hm
     ·rename_i ht;obtain⟨s,rfl,h1⟩:=strs ht h hw;refine⟨s.data.toList,?_,by intro u hu;rw[wG.1 hu];rfl,h1⟩;exact qBp (.v _ rfl)
     ·cases hm
   | list a =>
     simp only[tyM]at hm;split at hm
     ·rename_i e ht;simp only[wd,decide_eq_true_eq]at hm;obtain⟨⟨⟨_,hc⟩,hb⟩,hm⟩:=hm;obtain⟨l,u,rfl,h1,h2,h3,h4⟩:=qzT (λ f hf=>ihA f hf) ht hc (wE (Ty.wt_pos a) hb) hm h hw;exact⟨l,qBp h2,by intro u' hu;rw[wG.1 hu];exact h1,⟨h3.1,wD (vP _ hb) h3.2⟩,h4⟩
     ·cases hm
   | pair a b =>
     simp only[tyM]at hm;split at hm
     ·rename_i fs ht;simp only[wd,decide_eq_true_eq]at hm;obtain⟨hc,hm⟩:=hm;obtain⟨xs,f,rfl,rfl,h1,h2,h3⟩:=DataW.trod_struct ht h;have hsz:(Ty.pair a b).size=a.size+b.size:=rfl;obtain⟨v,v1,v2,v3⟩:=qwP (ihA f (xu _)) n (.pair a b) 0 fs.toList cs xs hm (by simpa using h2) (λ i g hg=>h3 i g (by simpa using hg)) (by simpa[DataW.weights,ht]using hw) (by rw[h1,hc,hsz];omega);rw[wO,kE (by rw[h1,hc,hsz];exact wb _)]at v1 v2;exact⟨v,v1,v2,v3⟩
     ·cases hm
   | one a =>
     simp only[tyM]at hm;split at hm
     ·rename_i fs ht;simp only[wd,decide_eq_true_eq]at hm;obtain⟨hc,hm⟩:=hm;obtain⟨xs,f,rfl,rfl,h1,h2,h3⟩:=DataW.trod_struct ht h;obtain⟨v,v1,v2,v3⟩:=qwP (ihA f (xu _)) n a 0 fs.toList cs xs hm (by simpa using h2) (λ i g hg=>h3 i g (by simpa using hg)) (by simpa[DataW.weights,ht]using hw) (by rw[h1,hc];omega);rw[wO,kE (by rw[h1,hc];exact wb _)]at v1 v2;exact⟨v,v1,v2,v3⟩
     ·cases hm
   | term =>
     have hm0:=hm;simp only[tyM]at hm;cases n with
     | zero=>simp[qHD]at hm
     | succ n =>
     simp only[qHD]at hm;split at hm
     case h_2=>cases hm
     rename_i fs ht;split at hm
     case h_2=>cases hm
     rename_i f0 f1 f2 f3 hfs;simp only[wd,decide_eq_true_eq]at hm;obtain⟨⟨⟨⟨⟨⟨⟨⟨⟨hc,o0⟩,o1⟩,o2⟩,o3⟩,hc3⟩,m0⟩,m1⟩,m2⟩,m3⟩:=hm;split at m3
     case h_2=>cases m3
     rename_i e ht3;simp only[wd,decide_eq_true_eq]at m3;obtain⟨rfl,hb⟩:=m3;obtain⟨xs,f,rfl,rfl,h1,h2,h3⟩:=DataW.trod_struct ht h;have hsz:fs.size=4:=by rw[<- wM,hfs];rfl
     rw[hsz]at h2;rw[hc]at h1
     obtain⟨c0,c1,c2,c3,rfl⟩:∃ c0 c1 c2 c3,cs=[c0,c1,c2,c3]:=by
      match cs,h1 with
      | [a,b,c,d],_=>exact⟨a,b,c,d,rfl⟩
     obtain⟨x0,x1,x2,x3,rfl⟩:∃ x0 x1 x2 x3,xs=[x0,x1,x2,x3]:=by
      match xs,h2 with
      | [a,b,c,d],_=>exact⟨a,b,c,d,rfl⟩
     have fg:∀ i g,[f0,f1,f2,f3][i]?=some g->fs[i]?=some g := λ i g hg=>by rw[<- hfs,Array.getElem?_toList]at hg;exact hg
     have s0:=h3 0 f0 (fg 0 _ rfl);have s1:=h3 1 f1 (fg 1 _ rfl);have s2:=h3 2 f2 (fg 2 _ rfl);have s3:=h3 3 f3 (fg 3 _ rfl)
     have cOf:∀{τ : Ty} {t:TypeId},(∃ k,τ = .int k) \/ τ = .str->tyM P n τ t=true->P.cellsOf t=1:=by
      intro τ t hτ hm;cases n with
      | zero=>cases τ <;> simp[tyM]at hm
      | succ n =>
        rcases hτ with⟨k,rfl⟩ | rfl
        ·simp only[tyM]at hm;split at hm
         ·simp only[wd,decide_eq_true_eq]at hm;exact hm.2
         ·cases hm
        ·simp only[tyM]at hm;split at hm
         ·exact of_decide_eq_true hm
         ·cases hm
     have uInt:∀{k:IntKind} {t:TypeId},tyM P n (.int k) t=true->P.underlying t=some (.int k):=by
      intro k t hm;cases n with
      | zero=>simp[tyM]at hm
      | succ n =>
        simp only[tyM]at hm;split at hm
        ·rename_i k' ht;simp only[wd,decide_eq_true_eq]at hm;rw[ht,hm.1]
        ·cases hm
     have uStr:∀{t:TypeId},tyM P n .str t=true->P.underlying t=some .string:=by
      intro t hm;cases n with
      | zero=>simp[tyM]at hm
      | succ n =>
        simp only[tyM]at hm;split at hm
        ·assumption
        ·cases hm
     rw[o0,cOf (.inl ⟨_,rfl⟩) m0]at s0;rw[o1,cOf (.inr rfl) m1]at s1;rw[o2,cOf (.inl ⟨_,rfl⟩) m2]at s2;rw[o3,hc3]at s3
     have hwE:∀ k∈DataW.weightsEach P [f0.type,f1.type,f2.type,f3.type] [x0.1,x1.1,x2.1,x3.1],k<=reachBytes:=by
      intro k hk;refine hw k ?_;simp only[DataW.weights,ht,hfs];exact hk
     simp only[DataW.weightsEach,wx]at hwE;obtain⟨i0,e0,_,_⟩:=ints (uInt m0) (f:=f) (x:=x0) s0;obtain⟨i1,e1,b1⟩:=strs (uStr m1) (f:=f) (x:=x1) s1 λ k hk=>hwE k (.inr (.inl hk));obtain⟨i2,e2,_,_⟩:=ints (uInt m2) (f:=f) (x:=x2) s2;obtain⟨l,u,e3,b3,r3,l3,v3⟩:=qzT (a := .term) (λ g hg=>ihA g (Nat.lt_succ_of_lt hg)) ht3 hc hb hm0 s3 λ k hk=>hwE k (.inr (.inr (.inr (.inl hk))));have g0:c0 = .int .i64 i0:=by simpa using e0
     have g1:c1 = .string i1:=by simpa using e1
     have g2:c2 = .int .i64 i2:=by simpa using e2
     have g3:c3=u:=by simpa using e3
     subst g0;subst g1;subst g2;subst g3;refine⟨.mk i0 i1.data.toList i2 l,?_,?_,(qEU _).2 ⟨l3.1,b1,v3⟩⟩
     ·show RepL _ (J6 _) _;rw[J6,qlW];exact waG (.v _ rfl) (waG (.v _ rfl) (waG (.v _ rfl) (qBp r3)))
     ·intro u hu;simp only[wy,xt,or_false]at hu;rcases hu with rfl | rfl | rfl | rfl
      ·rfl
      ·rfl
      ·rfl
      ·exact b3
end
end Go.AmZ
namespace Go.AmZ
open Go Go.GxZ
structure Gd (n:Int) (l:List Pk):Prop where
 len:l.length<=400
 all:∀ p∈l,p.2.2.1.length<=300000/\0<=p.2.1/\p.2.1<n
theorem Gd.sm{n:Int}{l:List Pk}(h:Gd n l):Sm l:=⟨h.len,λ p a=>(h.all p a).1⟩
theorem Gd.nil(n:Int):Gd n []:=⟨we _,λ p a=>by cases a⟩
theorem Gd.set{n:Int}{l:List Pk}(h:Gd n l)(i:Nat)(p:Pk)(b:p.2.2.1.length<=300000/\0<=p.2.1/\p.2.1<n):Gd n (l.set i p) :=
 ⟨by rw[wJ];exact h.len,λ q a=>(List.mem_or_eq_of_mem_set a).elim (h.all q) λ e=>e▸b⟩
theorem Gd.app{n:Int}{l:List Pk}(h:Gd n l)(c:l.length<400)(p:Pk)(b:p.2.2.1.length<=300000/\0<=p.2.1/\p.2.1<n):Gd n (l++[p]) :=
 ⟨by rw[wc];exact c,λ q a=>(wx.1 a).elim (h.all q) λ e=>by rw[wG.1 e];exact b⟩
theorem Gd.get{n:Int}{l:List Pk}(h:Gd n l){i:Nat}{p:Pk}(a:l[i]?=some p):p.2.2.1.length<=300000/\0<=p.2.1/\p.2.1<n:=h.all p (wa a)
theorem qIn{n:Int}{l:List Pk}(h:Gd n l)(a b:Int)(t:T)(c:size t<=10000):Gd n (qg1 n l a b t).1:=by
 unfold qg1;split
 ·exact h
 ·rename_i d;split
  ·exact h
  ·rename_i e;split
   ·exact h
   ·refine h.app (by omega) _ ⟨?_,by show 0<=b;omega,by show b<n;omega⟩;have:=quI t c;show(qap _).length<=_;rw[qzE];omega
theorem qIg{n:Int}{l:List Pk}(h:Gd n l)(i:Int):Gd n (qbK l i).1:=by
 unfold qbK;split
 ·exact h
 ·split
  ·exact h
  ·rename_i p a;exact h.set _ _ (by have:=h.get a;exact this)
theorem qMI{n:Int}{l:List Pk}(h:Gd n l)(i:Int):Gd n (qjb l i).1:=by
 unfold qjb;split
 ·exact h
 ·split
  ·exact h
  ·rename_i p a;exact h.set _ _ (by have:=h.get a;exact this)
theorem qPt{n:Int}{l:List Pk}(h:Gd n l)(i:Int):Gd n (qgN l i).1:=by
 unfold qgN;split
 ·exact h
 ·split
  ·exact h
  ·split
   ·exact h
   ·rename_i p a;exact h.app (by omega) _ (by have:=h.get a;exact this)
theorem qPa{n:Int}{l:List Pk}(h:Gd n l)(i a v:Int):Gd n (qn7 l i a v).1:=by
 unfold qn7;split
 ·exact h
 ·split
  ·exact h
  ·rename_i p b;split
   ·exact h
   ·have:=h.get b;refine h.set _ _ ⟨?_,this.2⟩;show(List.set _ _ _).length<=_;rw[wJ];exact this.1
theorem qMl{n:Int}{l:List Pk}(h:Gd n l)(o:OpV)(a:size o.2.2.2.2.1<=10000):Gd n (doO n l o):=by
 unfold doO;split
 ·exact qIn h _ _ _ a
 ·split
  ·exact qIg h _
  ·split
   ·exact qMI h _
   ·split
    ·exact qPt h _
    ·split
     ·exact qPa h _ _ _
     ·exact h
def qj9(n:Int)(l:List Pk)(ops:List OpV):List Pk:=ops.foldl (doO n) l
theorem qDm{n:Int}:∀{ops:List OpV} {l:List Pk},Gd n l->(∀ o∈ops,size o.2.2.2.2.1<=10000)->Gd n (qj9 n l ops)
 | [],l,h,_=>h
 | o::ops,l,h,a=>qDm (ops:=ops) (qMl h o (a o (wh ..))) λ q b=>a q (wg _ b)
abbrev qJ8(l:List OpV):Prop:=qlS (.list (.pair (.int .u8) (.pair (.int .i64) (.pair (.int .i64) (.pair (.int .u8) (.pair .term (.int .u8))))))) l
theorem qyX(l:List OpV)(q:qJ8 l):Ev (λ m _=>qjz m l) (decide (l.length<=60)&&qgP (l.map λ o=>o.2.2.2.2.1) 2000):=by
 obtain⟨⟨f,e⟩,r⟩:=q;have e:l.length*61<=2 ^ 47:=e;refine waB ?_;simp only[qEF,qh5]
 have a:=qp (P := λ i=>Ev (λ m k=>qcm m k l i ((l.take i).map λ o=>o.2.2.2.2.1)) (decide (l.length<=60)&&qgP (l.map λ o=>o.2.2.2.2.1) 2000)) l f
  (λ b=>by
   refine waC ?_;simp only[qry,qhZ];rw[wC]
   have:=qIW (l.map λ o=>o.2.2.2.2.1) (by rw[wB];exact f) (λ t g=>by
    obtain⟨o,h,rfl⟩:=ww.1 g;exact(r o h).2.2.2.2.1) 60 2000 (by decide) (by decide)
   rw[wB]at this;exact wax b (wau this (wav _)))
  (λ i x c s b p n d=>by
   have j:=(List.getElem?_eq_some_iff.1 c).1;refine waC ?_;simp only[qry,qhZ,qk];rw[zH c,wS]at d;rw[n];refine waw b (way p (waw (qE ?_ (by decide)) d));rw[wB,wm,kL (by omega)];omega)
 exact waD (L := λ m k=>qcm m k l 0 []) (a 0 (we _))
theorem qwc{l:List OpV}(h:qgP (l.map λ o=>o.2.2.2.2.1) 2000=true):∀ o∈l,size o.2.2.2.2.1<=10000 := λ o a=>by
 have:=qCZ (by decide) h o.2.2.2.2.1 (kO a);omega
end Go.AmZ
namespace Go.AmZ
open Go Go.GxZ
def okR(u:T):Prop:=(u.kind=2/\0<=u.sort/\u.sort<=5/\yK u.name=true/\u.kids=[])\/(u.kind=3/\u.sort=0/\u.name∈nmL/\(qD u.name).1<=(u.kids.length:Int)/\(u.kids.length:Int)<=(qD u.name).2.1)
def qxe(t:T):Prop:=∀ u∈Jk t,okR u
theorem qCp{t:T}(h:qxe t):okR t:=h t (by rw[qc0];exact wh ..)
theorem qJ6{t k:T}(h:qxe t)(b:k∈t.kids):qxe k := λ u a=>h u (by
 rw[qc0];exact wg _ (vk.2 ⟨_,ww.2 ⟨k,b,rfl⟩,a⟩))
theorem qI5{t:T}(h:yS t=0)(b:t.kind=2):0<=t.sort/\t.sort<=5/\yK t.name=true/\t.kids=[]:=by
 unfold yS qgG at h;rw[if_pos (.inr b)]at h;split at h
 ·cases h
 ·rename_i c;cases a:yK t.name with
  | false=>rw[a]at h;cases h
  | true=>exact⟨by omega,by omega,rfl,wj (by omega)⟩
theorem qEE{t:T}(h:yS t=0)(a:t.kind=3):t.sort=0:=by
 unfold yS qgG at h;rw[if_neg (by omega),if_pos a]at h;split at h
 ·cases h
 ·omega
theorem qNn(t:T):jh t=0->zj t=0->qdX pPl t=true->zK 1 t=[]->qxe t:=by
 induction t using T.ind with
 | h t v =>
   intro x m e j;obtain⟨f,y⟩:=qjf x;obtain⟨B,r,q⟩:=qws f;rw[qm0,wd]at e;rw[qnH]at j;obtain⟨g,s⟩:=wT.1 j;have c:t.kind≠1 := λ h=>by rw[if_pos h]at g;cases g
   intro u b;rw[qc0]at b;rcases wy.1 b with rfl | b
   ·rcases r with h | h | h
    ·exact absurd h c
    ·exact .inl ⟨h,qI5 f h⟩
    ·obtain⟨A,_⟩:=qa2 h m;obtain⟨p,o,n,_⟩:=qpQ h A;have i:=e.1;rw[show(u.kind==3)=true from beq_iff_eq.2 h]at i;exact .inr ⟨h,qEE f h,qEY p (by simpa using i),o,n⟩
   ·obtain⟨l,w,b⟩:=vk.1 b;obtain⟨k,a,rfl⟩:=ww.1 w
    have d:t.kind=3:=by
     by_cases h:t.kind=3
     ·exact h
     ·rw[q h]at a;cases a
    obtain⟨_,z⟩:=qa2 d m;refine v k a (y k a) (z k a) ?_ ?_ u b
    ·have:=wu.1 e.2 (qdX pPl k) (ww.2 ⟨k,a,rfl⟩);exact this
    ·exact wai.1 s _ (ww.2 ⟨k,a,rfl⟩)
theorem qMh{t:T}(h:JC t=0):qxe t/\¬ (400<size t\/40<qcx t)/\Qv t=true:=by
 unfold JC at h;by_cases d:qbj t=0
 ·rw[if_neg (λ g:qbj t≠0=>g d)]at h;by_cases c:qd9 t=false
  ·rw[if_pos c]at h;cases h
  ·rw[if_neg c]at h;by_cases b:Qv t=false
   ·rw[if_pos b]at h;cases h
   ·rw[Bool.not_eq_false]at c b;obtain⟨a,f⟩:=qne d;have e:=b;unfold Qv at e;simp only[wd]at e;unfold qL at a;by_cases g3:jh t=0
    ·rw[if_neg (λ g:jh t≠0=>g g3)]at a;refine⟨qNn t g3 f e.2.2 (xO.1 c),λ g=>?_,b⟩;rw[if_pos g]at a;cases a
    ·rw[if_pos g3]at a;exact absurd a g3
 ·rw[if_pos d]at h;exact absurd h d
theorem qBw{s:List UInt8}{b:Nat}:∀(n j:Nat),(∀ i,j<=i->i<j+n->∃ c,s[b+i]?=some c/\okC i c=true)->nmE s b n j=none
 | 0,_,_=>rfl
 | n+1,j,h=>by
   obtain⟨c,d,a⟩:=h j (wb _) (by omega);rw[nmE,d];show cond (okC j c) _ _=_;rw[a];exact qBw n (j+1) λ i f e=>h i (by omega) (by omega)
theorem qIr{n:List UInt8}(h:yK n=true):1<=n.length/\n.length<=24/\∀ i c,n[i]?=some c->okC i c=true:=by
 unfold yK at h;simp only[wd,decide_eq_true_eq]at h;obtain⟨⟨⟨g,f⟩,d⟩,e⟩:=h;refine⟨g,f,λ i c b=>?_⟩;unfold okC;by_cases a:i=0
 ·subst a;rw[if_pos rfl];rw[List.getD_eq_getElem?_getD,b]at d;exact d
 ·rw[if_neg a];exact wu.1 e c (wa b)
def hdS(u:T):List UInt8:=if u.kind=2 then qC [iw .u8 u.sort,iw .u8 u.name.length]++u.name else qC (if qaw u.name then[hdE u.name]++[iw .u8 u.kids.length]else[hdE u.name])
theorem u8_in{n:Nat}(h:n<=255):iw .u8 (n:Int)=(n:Int):=IntWalk.u8_in _ (by omega)
theorem qwa{n:Nat}(h:n<=255):(UInt8.ofNat (iw .u8 (n:Int)).toNat).toNat=n:=by
 rw[u8_in h,wF];simp only[UInt8.toNat_ofNat'];omega
theorem qO1{n:List UInt8}(h:n∈nmL):∃(j:Nat) (r:List UInt8 × (Int × Int)),j<15/\hdE n=iw .u8 ((16+j:Nat):Int)/\esL[j]?=some r/\r.1=n:=by
 obtain⟨b,j,r,e,a,d⟩:=qCs esL n 0 (by rw[qvV];exact h);have c:j<15:=(List.getElem?_eq_some_iff.1 a).1;refine⟨j,r,c,?_,a,d⟩;unfold hdE;rw[qvV]at b;rw[<- b,e,show(16:Int)=((16:Nat):Int)from rfl,qiG,jS (by omega),wI]
theorem qPj:∀ r∈esL,(qD r.1).1=r.2.1/\(qD r.1).2.1=r.2.2:=by decide
theorem qOe:∀ r∈esL,qaw r.1=false->r.2.1=r.2.2:=by decide
theorem qLN(u:T)(h:okR u)(A B:List UInt8):hdN (A++(hdS u++B)) A.length=(some (.mk u.kind u.name u.sort [],u.kids.length),A.length+(hdS u).length):=by
 rcases h with⟨l,F,P,n,D⟩ | ⟨l,C,n,p,q⟩
 ·obtain⟨N,M,z⟩:=qIr n;obtain⟨so,f⟩:=ko F;have e1:hdS u=[UInt8.ofNat (iw .u8 u.sort).toNat,UInt8.ofNat (iw .u8 (u.name.length:Int)).toNat]++u.name:=by unfold hdS;rw[if_pos l];rfl
  rw[e1];have k:(UInt8.ofNat (iw .u8 u.sort).toNat).toNat=so:=by rw[f];exact qwa (by omega)
  have e:(UInt8.ofNat (iw .u8 (u.name.length:Int)).toNat).toNat=u.name.length:=qwa (by omega);generalize UInt8.ofNat (iw .u8 u.sort).toNat=a at k;generalize UInt8.ofNat (iw .u8 (u.name.length:Int)).toNat=b at e;have t:(A++([a,b]++u.name++B))[A.length]?=some a:=by simp
  have s:(A++([a,b]++u.name++B))[A.length+1]?=some b:=by rw[List.getElem?_append_right (by omega)];simp
  have G:∀ i c,u.name[i]?=some c->(A++([a,b]++u.name++B))[A.length+2+i]?=some c := λ i c m=>by
   have w:=(List.getElem?_eq_some_iff.1 m).1;rw[List.getElem?_append_right (by omega),show A.length+2+i-A.length=2+i by omega,wi,List.getElem?_append_right (by show 2<=_;omega),show 2+i-[a,b].length=i by show 2+i-2=i;omega,List.getElem?_append_left w];exact m
  unfold hdN;rw[t];simp only[];rw[if_pos (by omega),s];simp only[];rw[if_neg (by omega),qBw _ _ λ i _ w=>⟨u.name[i]'(by omega),G i _ (List.getElem?_eq_getElem _),z i _ (List.getElem?_eq_getElem _)⟩];simp only[]
  have I:((A++([a,b]++u.name++B)).take (A.length+2+b.toNat)).drop (A.length+2)=u.name:=by
   rw[List.drop_take,e,show A.length+2+u.name.length-(A.length+2)=u.name.length by omega,show A++([a,b]++u.name++B)=(A++[a,b])++(u.name++B) by simp,wak (by simp),List.take_left' rfl]
  rw[I,k,e,D,l,f];have H:([a,b]++u.name).length=2+u.name.length:=by simp;omega
  rw[H,wH];rfl
 ·obtain⟨j,r,O,E,v,d⟩:=qO1 n;have o:=wa v;obtain⟨L,K,J⟩:=qsj r o;obtain⟨y,x⟩:=qPj r o;rw[<- d,y]at p;rw[<- d,x]at q;have k:(UInt8.ofNat (hdE u.name).toNat).toNat=16+j:=by rw[E];exact qwa (by omega)
  have e1:hdS u=UInt8.ofNat (hdE u.name).toNat::(if qaw u.name then[UInt8.ofNat (iw .u8 (u.kids.length:Int)).toNat]else[]):=by
   unfold hdS;rw[if_neg (by omega)];split<;>rfl
  rw[e1];generalize UInt8.ofNat (hdE u.name).toNat=a at k;have t:∀ R:List UInt8,(A++(a::R++B))[A.length]?=some a := λ R=>by simp
  have g:esL[a.toNat-16]?=some r:=by rw[k,show 16+j-16=j by omega];exact v
  unfold hdN;rw[t];simp only[];rw[if_neg (by omega),if_neg (by omega),g];simp only[];rw[d,l,C];cases m:qaw u.name with
  | true =>
    have e:(UInt8.ofNat (iw .u8 (u.kids.length:Int)).toNat).toNat=u.kids.length:=qwa (by omega);generalize UInt8.ofNat (iw .u8 (u.kids.length:Int)).toNat=b at e;rw[if_pos rfl,if_pos rfl];have s:(A++(a::[b]++B))[A.length+1]?=some b:=by rw[List.getElem?_append_right (by omega)];simp
    rw[s];simp only[];rw[if_neg (by omega),e];rfl
  | false =>
    have:=qOe r o (by rw[d];exact m);rw[if_neg (by decide),if_neg (by decide),show r.2.1.toNat=u.kids.length by omega];rfl
theorem qPS(t:T)(h:okR t):qC (bI t)=hdS t++qC (t.kids.map bI).flatten:=by
 rw[qsH];unfold hdS;rcases h with⟨a,_,_,_,c⟩ | ⟨a,_⟩
 ·rw[if_pos a,if_pos a,qfL,quw,c];exact(wA _).symm
 ·have b:¬ t.kind=2:=by omega
  rw[if_neg b,if_neg b,qfL]
theorem qMw(t:T):1<=(hdS t).length:=by
 unfold hdS;split
 ·rw[wc];show 1<=2+_;omega
 ·split
  ·exact(by decide:1<=2)
  ·exact wb 1
theorem qyL(f:Nat):∀(ks:List T),(∀ k∈ks,∀ A B:List UInt8,rdT (A++(qC (bI k)++B)) f A.length=(some k,A.length+(qC (bI k)).length))->∀ A B:List UInt8,Jq (rdT (A++(qC (ks.map bI).flatten++B)) f) ks.length A.length=(some ks,A.length+(qC (ks.map bI).flatten).length)
 | [],_,A,B=>rfl
 | k::ks,h,A,B=>by
   have c:=h k (wh ..) A (qC (ks.map bI).flatten++B);have a:=qyL f ks (λ x b=>h x (wg _ b)) (A++qC (bI k)) B;rw[wo,xX,qfL,wv,Jq,wi,c];simp only[];rw[wi,wc]at a;rw[a];simp only[];rw[wc,wH]
theorem qJ4(t:T):qxe t->∀(f:Nat) (A B:List UInt8),(qC (bI t)).length<=f->rdT (A++(qC (bI t)++B)) f A.length=(some t,A.length+(qC (bI t)).length):=by
 induction t using T.ind with
 | h t c =>
   intro h f A B d;have e:=qMw t;rw[qPS t (qCp h),wc]at d |-
   obtain⟨f,rfl⟩:∃ n,f=n+1:=⟨f-1,by omega⟩
   rw[rdT,wi,qLN t (qCp h)];simp only[]
   have b:∀ k∈t.kids,(qC (bI k)).length<=(qC (t.kids.map bI).flatten).length := λ k b=>by
    rw[qch,qch];exact(ve (ww.2 ⟨k,b,rfl⟩)).length_le
   have:=qyL f t.kids (λ k a A B=>c k a (qJ6 h a) f A B (by have:=b k a;omega)) (A++hdS t) B;rw[wi,wc]at this;rw[this];simp only[];rw[wH];cases t;rfl
theorem qHW{t:T}(h:JC t=0):qiD (qaR t)=(t,(0,0)):=by
 obtain⟨c,b,a⟩:=qMh h;unfold qiD qaR;rw[if_pos h];have:=qJ4 t c ((qC (bI t)).length+1) [] [] (by omega);rw[wA]at this;have e:rdT (qC (bI t)) ((qC (bI t)).length+1) 0=(some t,(qC (bI t)).length):=this.trans (by rw[w7,wI]);rw[e];simp only[];rw[if_neg (λ g=>g rfl),if_neg b,if_pos a]
end Go.AmZ
namespace Go.AmZ
open Go Go.GxZ
theorem qNX(t:T)(b:qr4 t):Ev (λ m _=>qm4 m t) (qgP [t] 450):=by
 refine waB ?_;simp only[qD1,qlN,qk];have:=qIW [t] (by show 1<2 ^ 62;decide) (λ u a=>by rw[wG.1 a];exact b) 1 450 (by decide) (by decide);exact wau this (waA rfl)
theorem qK6{t:T}(h:qgP [t] 450=true):size t<=10000:=by
 have:=qCZ (by decide) h t (wG.2 rfl);omega
theorem qHi(s:List UInt8):qaV (qap s)=(s,0):=by
 have a:(qap s).drop 4=s:=wak rfl;unfold qaV;rw[if_neg (by rw[qzE];omega),a,if_pos rfl]
theorem qtF{l:List Pk}{i:Int}{v:Nat}{P Q:Pk}(h:l[v]?=some P)(a:yc l i true=0)(b:i≠(v:Int)):(l.set i.toNat Q)[v]?=some P:=by
 obtain⟨j,q,rfl,_⟩:=qa0 a;rw[List.getElem?_set_ne (by omega)];exact h
theorem qDC{l:List Pk}{v:Nat}{P Q:Pk}(h:l[v]?=some P):(l++[Q])[v]?=some P:=by
 rw[List.getElem?_append_left (List.getElem?_eq_some_iff.1 h).1];exact h
theorem qNM(n:Int){l:List Pk}{o:OpV}{v:Nat}{P:Pk}(h:l[v]?=some P)(c:o.2.1=(v:Int)->ye o.1 7≠1/\ye o.1 7≠2/\ye o.1 7≠4):(doO n l o)[v]?=some P:=by
 unfold doO;split
 ·unfold qg1;split
  ·exact h
  ·split
   ·exact h
   ·split
    ·exact h
    ·exact qDC h
 ·split
  ·rename_i f;have b:o.2.1≠(v:Int) := λ g=>(c g).1 f;unfold qbK;by_cases a:yc l o.2.1 true=0
   ·rw[if_neg (λ g:yc l o.2.1 true≠0=>g a)];split
    ·exact h
    ·exact qtF h a b
   ·rw[if_pos a];exact h
  ·split
   ·rename_i e;have b:o.2.1≠(v:Int) := λ g=>(c g).2.1 e;unfold qjb;by_cases a:yc l o.2.1 true=0
    ·rw[if_neg (λ g:yc l o.2.1 true≠0=>g a)];split
     ·exact h
     ·exact qtF h a b
    ·rw[if_pos a];exact h
   ·split
    ·unfold qgN;split
     ·exact h
     ·split
      ·exact h
      ·split
       ·exact h
       ·exact qDC h
    ·split
     ·rename_i d;have b:o.2.1≠(v:Int) := λ g=>(c g).2.2 d;unfold qn7;by_cases a:yc l o.2.1 true=0
      ·rw[if_neg (λ g:yc l o.2.1 true≠0=>g a)];split
       ·exact h
       ·split
        ·exact h
        ·exact qtF h a b
      ·rw[if_pos a];exact h
     ·exact h
theorem qI1{l:List Pk}{v:Nat}{a b:Int}{t:T}(h:l[v]?=some (a,(b,(qap (qaR t),true))))(f:JC t=0):qbK l (v:Int)=(l.set v (a,(b,(qap (qaR t),false))),(t,(b,0))):=by
 have d:=(List.getElem?_eq_some_iff.1 h).1
 have c:yc l (v:Int) true=0:=by
  rw[qlE d];have e:l[v]=(a,(b,(qap (qaR t),true))):=(List.getElem?_eq_some_iff.1 h).2;rw[e];exact if_neg λ g=>by cases g.2
 unfold qbK;rw[if_neg (λ g:yc l (v:Int) true≠0=>g c),wF,h];simp only[qHi,qHW f];rw[if_neg (λ g=>g rfl),if_neg (λ g=>g rfl)];rfl
theorem qI7{l:List Pk}{v:Nat}(d:v<l.length){a b:Int}{s:List UInt8}:qbK (l.set v (a,(b,(s,false)))) (v:Int)=(l.set v (a,(b,(s,false))),(.mk 0 [] 0 [],(0,9))):=by
 have c:yc (l.set v (a,(b,(s,false)))) (v:Int) true=9:=by
  rw[qlE (by rw[wJ];exact d),List.getElem_set_self];exact if_pos ⟨rfl,rfl⟩
 unfold qbK;rw[c,if_pos (by decide)]
end Go.AmZ
namespace Go.AmZ
open Go Go.GxZ
theorem qGw(l:List OpV)(n:l.length<2 ^ 62)(g:∀ o∈l,size o.2.2.2.2.1<=10000):Ev (λ m _=>qgs m l) ((),(some (4,(qj9 4 [] l,())),(some (4,(qj9 4 [] l,())),(true,())))):=by
 refine waB ?_;simp only[qwh,qdz];refine wau (a:=((),(some (4,[],()),0,()))) (waB ?_) ?_
 ·simp only[qzY,qiw];exact wax rfl (wax rfl (wav _))
 refine wau (a:=((),((4,[],()),0,()))) (waB ?_) ?_
 ·simp only[qD0,qlG];exact wax rfl (wax rfl (wav _))
 refine wax rfl ?_
 have b:=qp (P := λ i=>Ev (λ m k=>Jo m k l l.length i 4 4 (qj9 4 [] (l.take i)) (qj9 4 [] (l.take i))) ((),(some (4,(qj9 4 [] l,())),(some (4,(qj9 4 [] l,())),(true,()))))) l n
  (λ d=>by
   refine waC ?_;simp only[qmj,qdE];rw[wC];exact wax d (wav _))
  (λ i x f r d q p h=>by
   refine waC ?_;simp only[qmj,qdE,qk]
   have e:qj9 4 [] (l.take (i+1))=doO 4 (qj9 4 [] (l.take i)) x:=by
    rw[zH f];unfold qj9;rw[xe];rfl
   rw[e]at h;have c:Gd 4 (qj9 4 [] (l.take i)):=qDm (Gd.nil 4) λ o j=>g o (wY j);refine waw d (way q (wau (qvc 4 _ c.sm x (g x (wa f))) (wax rfl ?_)));rw[p];exact h)
 exact waD (L := λ m k=>Jo m k l l.length 0 4 4 [] []) (b 0 (we _))
end Go.AmZ
namespace Go.AmZ
open Go Go.GxZ
theorem qNs(t:T)(E:size t<=10000)(B:JC t=0)(v:Nat)(e:List OpV)(n:e.length<2 ^ 62)(y:∀ o∈e,size o.2.2.2.2.1<=10000)(l:List Pk)(b:Gd 4 l)(d:l[v]?=some (1,(2,(qap (qaR t),true)))):Ev (λ m k=>yh m k (v:Int) e e.length 0 t.kind t.name t.sort t.kids 4 4 l l) true:=by
 have eta:T.mk t.kind t.name t.sort t.kids=t:=by cases t;rfl
 have h:=qp (P := λ i=>∀ l,Gd 4 l->l[v]?=some (1,(2,(qap (qaR t),true)))->Ev (λ m k=>yh m k (v:Int) e e.length (i:Int) t.kind t.name t.sort t.kids 4 4 l l) true) e n
  (λ q l b d=>by
   refine waC ?_;simp only[qfS,JI,qk];rw[eta];have j:=(List.getElem?_eq_some_iff.1 d).1;have y1:=qBZ 4 l b.sm (v:Int);have f:=qIg b (v:Int);rw[qI1 d B]at y1 f;have y2:=qBZ 4 _ f.sm (v:Int);simp only[qI7 j]at y2;exact wax q (wau y1 (wau y2 (waw rfl (waw rfl (wau (qe8 t t (by omega) (by omega)) (waw (qa5.2 rfl) (wav _))))))))
  (λ i x w F q p A s l b d=>by
   refine waC ?_;simp only[qfS,JI,qk];rw[A];have a:=y x (wa w);refine waw q (way p ?_);have c := λ z=>s _ (qMl b x a) (qNM 4 (o:=x) d z);by_cases r:x.2.1=(v:Int)
   ·refine waw (qj.2 r) ?_;by_cases D:1<=ye x.1 7
    ·refine waw (yT.2 D) ?_;by_cases C:ye x.1 7<=4
     ·refine waw (yT.2 C) ?_;by_cases u:ye x.1 7=3
      ·exact wax (bnf.2 (qj.2 u)) (wau (qvc 4 l b.sm x a) (wax rfl (c λ _=>by omega)))
      ·exact waw (bnt.2 (qg.2 u)) (s l b d)
     ·exact wax (yo.2 (by omega)) (wau (qvc 4 l b.sm x a) (wax rfl (c λ _=>by omega)))
    ·exact wax (yo.2 (by omega)) (wau (qvc 4 l b.sm x a) (wax rfl (c λ _=>by omega)))
   ·exact wax (qg.2 r) (wau (qvc 4 l b.sm x a) (wax rfl (c λ g=>absurd g r))))
 exact h 0 (we _) l b d
theorem networkCarries_ev(d c:List OpV)(t:T)(v:qJ8 d)(u:qJ8 c)(s:qr4 t):Ev (λ m _=>law31_NetworkCarries m d c t) true:=by
 refine waB ?_;simp only[qn3,JH,qk];have l:∀ x:Int,ieq x x=true := λ x=>qj.2 rfl;refine wau qkG (wax rfl (wau (qyX d v) ?_));cases f:decide (d.length<=60)&&qgP (d.map λ o=>o.2.2.2.2.1) 2000 with
 | false=>exact waw rfl (wau qkG (wav _))
 | true =>
 refine wax rfl (wau (qyX c u) ?_);cases e:decide (c.length<=60)&&qgP (c.map λ o=>o.2.2.2.2.1) 2000 with
 | false=>exact waw rfl (wau qkG (wav _))
 | true =>
 refine wax rfl (wau (qNX t s) ?_);cases p:qgP [t] 450 with
 | false=>exact waw rfl (wau qkG (wav _))
 | true =>
 simp only[wd,decide_eq_true_eq]at f e;have i:=qwc f.2;have r:=qwc e.2;have a:=qK6 p;have w:=qDm (ops:=d) (Gd.nil 4) i;refine wax rfl (wau (qGw d (by omega) i) ?_);generalize qj9 4 [] d=R at w;dsimp only[qhr];refine wax rfl ?_;refine wau (qJH 4 R 1 2 t a) (wau (qFZ 4 R 1 2 t a) ?_);refine wax (bnf.2 (l _)) (wax (bnf.2 (l _)) ?_);by_cases b:(qg1 4 R 1 2 t).2.2=0
 ·refine wax (bnf.2 (qj.2 b)) ?_;have j:=qIn w 1 2 t a
  have h:JC t=0/\qg1 4 R 1 2 t=(R++[(1,(2,(qap (qaR t),true)))],((R.length:Int),0)):=by
   unfold qg1 at b |-
   rw[if_neg (by omega)]at b |-
   by_cases y:400<=R.length
   ·rw[if_pos y]at b;cases b
   ·rw[if_neg y]at b |-
    by_cases n:JC t=0
    ·rw[if_neg (λ g:JC t≠0=>g n)];exact⟨n,rfl⟩
    ·rw[if_pos n]at b;exact absurd b n
  obtain⟨z,q⟩:=h;rw[q]at j |-
  exact waD (L := λ m k=>yh m k (R.length:Int) c c.length 0 t.kind t.name t.sort t.kids 4 4 (R++[(1,(2,(qap (qaR t),true)))]) (R++[(1,(2,(qap (qaR t),true)))]))
   (qNs t a z R.length c (by omega) r _ j (by rw[List.getElem?_append_right (wb _),kJ];rfl))
 ·refine waw (bnt.2 (qg.2 b)) (waw (l _) (waA ?_));rw[l]
end Go.AmZ
