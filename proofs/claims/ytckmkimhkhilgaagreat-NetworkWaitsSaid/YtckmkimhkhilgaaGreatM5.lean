/- Part 5 of what the proofs stand on: plain functions of the program, and that they are its functions. -/
import Derived.Test.YtckmkimhkhilgaaGreatM4
import Derived.KernelRfl
import Derived.Test.YtckmkimhkhilgaaGreatM3
import Derived.SliceStrings
import Derived.SizedLaws
set_option linter.unusedVariables false
set_option linter.unusedSimpArgs false
noncomputable section
namespace Go.AmZ
open Go Go.GxZ
theorem qJI(b:List (List T))(d:b.length<1000)(h:(b.map List.length).sum<=100000000):Ev (λ m _=>zP m b) b.flatten:=by
 have g:∀ l:List (List T),l.flatten.length=(l.map List.length).sum := λ l=>List.length_flatten
 have s:=qr (P := λ i=>Ev (λ m k=>(qp m k).2 b b.length i (b.take i).flatten) b.flatten) b (by omega)
  (λ c=>by
   refine waB ?_;simp only[qaG,ja];refine wax c ?_;rw[wC];exact wau _)
  (λ i x o r c f e j=>by
   refine waB ?_;simp only[qaG,ja];have p:b.take (i+1)=b.take i++[x]:=by rw[kw,o];rfl
   have q:((b.take (i+1)).map List.length).sum<=(b.map List.length).sum:=by
    have:=congrArg (λ l=>(l.map List.length).sum) (kz (i+1) b);simp only[wS,List.sum_append]at this;omega
   rw[p]at q;simp only[wS,List.sum_append,wo,vt,kD,List.sum_nil]at q;refine wav c (waw f (wav (qD ?_ (by omega)) ?_))
   ·rw[g];omega
   ·rw[e];refine j.congr λ m k=>?_;rw[p,xo];simp)
 have t:=qr (P := λ i=>∀ n:Nat,n+((b.drop i).map List.length).sum<=100000000->Ev (λ m k=>(qp m k).1 b n b b.length i) b.flatten) b (by omega)
  (λ c n d=>by
   refine waB ?_;simp only[qaI,yY];refine wax c (waw (a:=((),[],())) ?_ (s 0 (we _)));unfold yS;rw[show inb (n:Int) 100000000=true from by unfold inb;rw[decide_eq_true_iff];omega];rfl)
  (λ i x o r c f e j n d=>by
   refine waB ?_;simp only[qaI,yY];rw[r,wo,kD]at d;refine wav c (waw f ?_);rw[qlS,jF (by omega)];refine wax (qn.2 (by omega)) ?_;rw[e];exact j (n+x.length) (by omega))
 refine waA ?_;simp only[qgb,yZ];refine waC (L := λ m k=>(qp m k).1 b 0 b b.length 0) ?_;exact t 0 (we _) 0 (by rw[wO];omega)
theorem qwU(a b:List T)(h:a.length+b.length<=100000000):Ev (λ m _=>zP m [a,b]) (a++b) :=
 (qJI [a,b] (by simp) (by simpa using h)).res (by simp)
theorem qrH{f:T->Int}{l:List T}{i:Nat}{x:T}(h:l.drop i=x::l.drop (i+1)):((l.drop i).map f).foldl thn 0=if f x≠0 then f x else((l.drop (i+1)).map f).foldl thn 0:=by
 rw[h,wo];by_cases a:f x=0
 ·rw[if_neg (by simpa using a),a];rfl
 ·rw[if_pos a];exact qT _ a
theorem qLV(l:List T)(n:szL l<=100000000):Ev (λ m _=>qnb m l []) (qoN l):=by
 have o:=jT l;refine waA ?_;simp only[qEG,qh3];unfold qoN;refine way (λ h=>?_) λ h=>?_
 ·rw[qs]at h;rw[if_pos (by omega)];exact wau _
 ·rw[qn]at h;rw[if_neg (by omega)];refine wat (qwU l [] (by simp only[ke];omega)) ?_;rw[wB]
  have b:=qr (P := λ i=>Ev (λ m k=>qcf m k l l.length i) (((l.drop i).map qS).foldl thn 0)) l (by omega)
   (λ c=>by
    refine waB ?_;simp only[qsc,qhC];refine wax c ?_;rw[wT];exact wau _)
   (λ i x d g c f e j=>by
    refine waB ?_;simp only[qsc,qhC,ql];have p:=qcT (wa d);rw[qrH g];refine wav c (waw f (wat (qdf x (by omega)) (way (λ a=>?_) λ a=>?_)))
    ·rw[bnt,qh]at a;rw[if_pos a];exact wau _
    ·rw[bnf,qk]at a;rw[if_neg (by omega),e];exact j)
  refine waC (L := λ m k=>qcf m k l l.length 0) ?_;exact(b 0 (we _)).res (by rw[wO])
theorem qHz(t:T)(a:size t<=1000000000):Ev (λ m _=>qhK m t [] t) (t,0):=by
 refine waA ?_;simp only[qyU,qer,ql];refine wat (qu1 t a) ?_;refine waC (L := λ m k=>qa0 m k [] ([]:List Int).length 0 t.kind t.name t.sort t.kids 0 [] 0 t.kind t.name t.sort t.kids []) (waB ?_);simp only[qwz,qht,ql];refine wax rfl ?_;rw[show T.mk t.kind t.name t.sort t.kids=t from ql t];exact wat (qu1 t a) (wau _)
def qeN(l:List T)(i:Nat):List T:=l.take i++List.replicate (l.length-i) zT
theorem qL6{l:List T}{i:Nat}(h:i<l.length):(qeN l i)[i]?=some zT:=by
 unfold qeN;rw[List.getElem?_append_right (by rw[wm];omega),wm,List.getElem?_replicate,if_pos (by omega)]
theorem qu3{l:List T}{i:Nat}{x:T}(h:l[i]?=some x):(qeN l i).set i x=qeN l (i+1):=by
 have hi:=(List.getElem?_eq_some_iff.1 h).1;unfold qeN;have h1:l.take (i+1)=l.take i++[x]:=by rw[kw,h];rfl
 have h2:List.replicate (l.length-i) zT=zT::List.replicate (l.length-(i+1)) zT:=by
  rw[show l.length-i=(l.length-(i+1))+1 by omega,List.replicate_succ]
 rw[h1,h2,vH _ _ (by rw[wm];omega),wm,show i-min i l.length=0 by omega,List.set_cons_zero,wi];rfl
theorem qJH{l:List T}{i:Nat}{x:T}(h:l[i]?=some x):(qeN l (i+1)).set i x=qeN l (i+1):=by
 rw[<- qu3 h,List.set_set]
theorem qJp{l:List T}{i:Nat}{x:T}(h:l[i]?=some x):(qeN l (i+1))[i]?=some x:=by
 have a:=(List.getElem?_eq_some_iff.1 h).1;rw[<- qu3 h,List.getElem?_set_self (by unfold qeN;rw[wc,wm,kI];omega)]
theorem QI{α : Type}(l:List α)(i:Nat)(v : α):yn l (i:Int) v=l.set i v:=by
 unfold yn;rw[if_pos (by omega),wF]
theorem qNv:∀(n:Nat) (l:List T),szL l<=n->n<=1000000->Ev (λ m _=>qam m l) l:=by
 intro n
 induction n using Nat.strongRecOn with
 | _ n p =>
 intro l s t;have u:=jT l;refine waA ?_;simp only[qJi,qkR]
 have d:=qr (P := λ i=>Ev (λ m k=>qe5 m (qam m) k l l.length i (qeN l i)) l) l (by omega)
  (λ h=>by
   refine waB ?_;simp only[qwC,qkN];refine wax h ?_;exact waz (by unfold qeN;rw[wC,kL];simp))
  (λ i x b v h r q j=>by
   refine waB ?_;simp only[qwC,qkN,ql];have y:=qcT (wa b);have w:=qL x;have f:=(List.getElem?_eq_some_iff.1 b).1;have e:yn (qeN l i) i x=qeN l (i+1):=by rw[QI,qu3 b]
   have o:yn (qeN l (i+1)) i x=qeN l (i+1):=by rw[QI,qJH b]
   have g:qc (qeN l (i+1)) i=some x:=by rw[qU,qJp b]
   refine wav h (waw r (wat (qHz x (by omega)) (waw (a:=zT) (by rw[qU,qL6 f]) (wat (p (szL x.kids) (by unfold szL at *;omega) x.kids (wb _) (by unfold szL at *;omega)) ?_))));rw[e];refine waw g ?_;rw[show T.mk x.kind x.name x.sort x.kids=x from ql x,o,q];refine way (λ c=>?_) λ c=>j;rw[qk]at c;have c:x.kids=[]:=wk (by omega);refine waw g ?_;rw[show T.mk x.kind x.name x.sort []=x from by rw[<- c];exact ql x,o];exact j)
 refine wav (by unfold qHg;rw[decide_eq_true_iff,wF];omega) ?_;refine waC (L := λ m k=>qe5 m (qam m) k l l.length 0 (List.replicate (Int.toNat (l.length:Int)) (T.mk 0 [] 0 []))) ?_;refine(d 0 (we _)).congr λ m k=>?_;unfold qeN;rw[xF,wF];rfl
theorem qNM(l:List T)(z:szL l<=900000):Ev (λ m _=>qs0 m l) (qqt l):=by
 have A:=jT l;refine waA ?_;simp only[qIb,qk4];unfold qqt;refine wat (qLV l (by omega)) (way (λ h=>?_) λ h=>?_)
 ·rw[bnt,qh]at h;rw[if_pos h];exact wau _
 ·rw[bnf,qk]at h;rw[if_neg (by omega)]
  have e:=qr (P := λ i=>Ev (λ m k=>qeI m k (((l.take i).map Qd).foldl zm []) l l.length i 0 [] 0 []) (if qS (qaz (zX l))≠0 then(zT,3)else(qaz (zX l),0))) l (by omega)
   (λ j=>by
    refine waB ?_;simp only[qwE,qkP,ql];refine wax j ?_;rw[wC];have b:=qe7 l;show Ev (λ m k=>qa (qam m (zX l)) _) _;have o:=jT (zX l)
    have c:∀ u:T,u=qaz (zX l)->Ev (λ m _=>qa (yG m u) λ v=>cond (qf (ieq v 0)) (some (T.mk 0 [] 0 [],(3:Int))) (some (u,0))) (if qS (qaz (zX l))≠0 then(zT,3)else(qaz (zX l),0)):=by
     intro u p
     have y:size (qaz (zX l))<=1+szL (zX l):=by
      unfold qaz;split
      ·rw[qL];show 1+0<=_;omega
      ·split
       ·rename_i _ d
        have:(zX l).getD 0 zT∈zX l:=by
         cases g:zX l with
         | nil=>rw[g]at d;cases d
         | cons x r=>exact wh ..
        have:=qcT this;omega
       ·rw[qL];exact wb _
     subst p;refine wat (qdf _ (by omega)) (way (λ h=>?_) λ h=>?_)
     ·rw[bnt,qh]at h;rw[if_pos h];exact wau _
     ·rw[bnf,qk]at h;rw[if_neg (by omega)];exact wau _
    refine wat (qNv _ (zX l) (wb _) (by omega)) (way (λ n=>?_) λ n=>?_)
    ·rw[qk]at n;exact c _ (by unfold qaz;rw[if_pos (by omega)];rfl)
    ·rw[qh]at n;refine way (λ b=>?_) λ b=>?_
     ·rw[qk]at b;refine waw (a:=(zX l).getD 0 zT) ?_ (c _ (by unfold qaz;rw[if_neg (by omega),if_pos (by omega)]));rw[qad,List.getD_eq_getElem?_getD];cases g:zX l with
      | nil=>rw[g]at b;simp at b
      | cons x r=>rfl
     ·rw[qh]at b;exact c _ (by unfold qaz;rw[if_neg (by omega),if_neg (by omega)];rfl))
   (λ i x f B j t s w=>by
    refine waB ?_;simp only[qwE,qkP,ql];have q:=wa f;have b:=qcT q;have o:=qe7 (l.take i);have D:=Qy f;have C:=qlA x;refine wav j (waw t (wat (qLR x (by omega)) (wat (qCR _ _ ?_) ?_)))
    ·unfold zX at o;omega
    ·rw[s];refine w.congr λ m k=>?_;rw[qkF f])
  refine waC (L := λ m k=>qeI m k [] l l.length 0 0 [] 0 []) ?_;exact e 0 (we _)
end Go.AmZ
namespace Go.AmZ
open Go Go.GxZ
theorem qO8(l:List T)(t:T)(j:szL l+size t<=1000000000):Ev (λ m _=>qnO m l t) (l.any λ x=>jk x t):=by
 have n:=jT l;refine waA ?_;simp only[qEI,qhA]
 have a:=qr (P := λ i=>Ev (λ m k=>qco m k l i t.kind t.name t.sort t.kids) ((l.drop i).any λ x=>jk x t)) l (by omega)
  (λ b=>by
   refine waB ?_;simp only[qsF,qhz];refine wax b (waz ?_);rw[wT];rfl)
  (λ i x c f b e d g=>by
   refine waB ?_;simp only[qsF,qhz,ql];have o:=qcT (wa c);rw[f,vX,show T.mk t.kind t.name t.sort t.kids=t from ql t];refine wav b (waw e (wat (qgQ x t (by omega) (by omega)) (way (λ h=>?_) λ h=>?_)))
   ·rw[h];exact wau _
   ·rw[h,d];exact g)
 refine waC (L := λ m k=>qco m k l 0 t.kind t.name t.sort t.kids) ?_;exact(a 0 (we _)).res (by rw[wO])
theorem qBT(t:T):∀(l:List T) (s:List T × Bool),(l.foldl (JO t) s).1.length<=s.1.length+2*l.length
 | [],s=>by simp
 | x::l,s=>by
   have h:=qBT t l (JO t s x)
   have:(JO t s x).1.length<=s.1.length+2:=by
    unfold JO;split
    ·simp only[wc,wu,ke];split<;>simp
    ·simp
   rw[kg,wu];omega
theorem qIl(l:List T)(t:T)(r:szL l+size t<=1000000000):Ev (λ m _=>qjU m l t) (qyw l t):=by
 have u:=jT l;refine waA ?_;simp only[qEE,qhy]
 have d:∀ i,((l.take i).foldl (JO t) ([],false)).1.length<=2*l.length := λ i=>by
  have:=qBT t (l.take i) ([],false);have q:(l.take i).length<=l.length:=by rw[wm];omega
  simp only[ke]at this;omega
 have g:=qr (P := λ i=>Ev (λ m k=>qcp m k l ((l.take i).foldl (JO t) ([],false)).2 i t.kind t.name t.sort t.kids ((l.take i).foldl (JO t) ([],false)).1) (qyw l t)) l (by omega)
  (λ j=>by
   refine waB ?_;simp only[qsa,qim];refine wax j ?_;rw[wC];unfold qyw;have:=d l.length;rw[wC]at this;refine way (λ h=>?_) λ h=>?_
   ·rw[bnt]at h;rw[if_neg (by rw[h];decide),show T.mk t.kind t.name t.sort t.kids=t from ql t];exact wav (qD (by omega) (by omega)) (wau _)
   ·rw[bnf]at h;rw[if_pos h];exact wau _)
  (λ i x n v j f o a=>by
   refine waB ?_;simp only[qsa,qim,ql];have w:=qcT (wa n);have q:=d i
   have e:(l.take (i+1)).foldl (JO t) ([],false)=JO t ((l.take i).foldl (JO t) ([],false)) x:=by
    rw[kw,n,xe];rfl
   rw[e]at a;generalize (l.take i).foldl (JO t) ([],false)=s at *;rw[show T.mk t.kind t.name t.sort t.kids=t from ql t,o];refine wav j (waw f (wat (qju t (by omega) x (by omega)) (way (λ h=>?_) λ h=>?_)))
   ·rw[bnt]at h;refine way (λ c=>?_) λ c=>?_
    ·rw[jm]at c;unfold JO at a;rw[if_pos ⟨h,c⟩]at a;refine way (λ b=>?_) λ b=>?_
     ·rw[qs]at b;rw[if_pos b]at a;exact wav (qD (by omega) (by omega)) (waw f (wav (qD (by rw[wc];simp only[wu,ke];omega) (by omega)) a))
     ·rw[qn]at b;rw[if_neg (by omega),wB]at a;exact waw f (wav (qD (by omega) (by omega)) a)
    ·rw[yq]at c;unfold JO at a;rw[if_neg (by omega)]at a;exact waw f (wav (qD (by omega) (by omega)) a)
   ·rw[bnf]at h;unfold JO at a;rw[if_neg (by rw[h];intro p;cases p.1)]at a;exact waw f (wav (qD (by omega) (by omega)) a))
 refine waC (L := λ m k=>qcp m k l false 0 t.kind t.name t.sort t.kids []) ?_;exact g 0 (we _)
theorem qOY(l:List T)(t:T)(f:szL l+size t<=1000000000):Ev (λ m _=>qhQ m l t) (qi6 l t):=by
 have n:=jT l;refine waA ?_;simp only[qyr,qef,ql];unfold qi6;refine wat (qO8 l t f) (way (λ h=>?_) λ h=>?_)
 ·rw[bnt]at h;rw[if_neg (by rw[h];decide)];exact wat (qIl l t f) (wau _)
 ·rw[bnf]at h;rw[if_pos h]
  have b:=qr (P := λ i=>Ev (λ m k=>JW m k l i t.kind t.name t.sort t.kids ((l.take i).filter λ x => !jk x t)) (l.filter λ x => !jk x t)) l (by omega)
   (λ c=>by
    refine waB ?_;simp only[qmW,qem];refine wax c ?_;rw[wC];exact wau _)
   (λ i x d o c g j a=>by
    refine waB ?_;simp only[qmW,qem,ql];have q:=qcT (wa d);have p:((l.take i).filter λ x => !jk x t).length<=l.length:=wD (xw _ _) (by rw[wm];omega);rw[kw,d,xH]at a;rw[show T.mk t.kind t.name t.sort t.kids=t from ql t,j];refine wav c (waw g (wat (qgQ x t (by omega) (by omega)) (way (λ h=>?_) λ h=>?_)))
    ·rw[bnt]at h;have e:(Option.some x).toList.filter (λ x => !jk x t)=[x]:=by show[x].filter _=_;simp[h]
     rw[e]at a;exact waw g (wav (qD (by omega) (by omega)) a)
    ·rw[bnf]at h;have e:(Option.some x).toList.filter (λ x => !jk x t)=[]:=by show[x].filter _=_;simp[h]
     rw[e,wB]at a;exact a)
  refine waC (L := λ m k=>JW m k l 0 t.kind t.name t.sort t.kids []) ?_;exact b 0 (we _)
theorem qyR(t:T):∀ l:List T,szL (Jm l t)<=szL l+size t
 | []=>by rw[Jm,qR];omega
 | x::l=>by
   have:=qyR t l;rw[Jm];split
   ·rw[qR,qR];omega
   ·split
    ·omega
    ·rw[qR,qR];omega
theorem qzL(p:T->Bool):∀ l:List T,szL (l.filter p)<=szL l
 | []=>wb _
 | x::l=>by
   have:=qzL p l;rw[vD];split
   ·rw[qR,qR];omega
   ·rw[qR];omega
theorem qNF(l:List T)(t:T):szL (qi6 l t)<=szL l+size t:=by
 unfold qi6;split
 ·exact wD (qzL _ l) (by omega)
 ·rw[qum];exact qyR t l
theorem qv8:∀(b a:List T),szL (b.foldl qi6 a)<=szL a+szL b
 | [],a=>by simp[szL]
 | x::b,a=>by
   have d:=qv8 b (qi6 a x);have c:=qNF a x;rw[kg,qR];omega
theorem qDf(a b:List T)(n:szL a+szL b<=1000000000):Ev (λ m _=>qhZ m a b) (qk5 a b):=by
 have t:=jT a;have s:=jT b;refine waA ?_;simp only[qDS,qgx]
 have d:=qr (P := λ i=>Ev (λ m k=>qaf m k b ((b.take i).foldl qi6 a) i) (qk5 a b)) b (by omega)
  (λ e=>by
   refine waB ?_;simp only[qqZ,qgm];refine wax e ?_;rw[wC];exact wau _)
  (λ i x f o e l j g=>by
   refine waB ?_;simp only[qqZ,qgm,ql];have q:=Qy f;have p:=qv8 (b.take i) a;rw[kw,f,xe]at g;refine wav e (waw l (wat (qOY _ x (by omega)) ?_));rw[j];exact g)
 refine wav (qD (by simp only[ke];omega) (by omega)) ?_;have c:Ev (λ m _=>qaf m m b a 0) (qk5 a b):=waC (L := λ m k=>qaf m k b a 0) (d 0 (we _));exact Ev.case (λ h=>by rw[h]at c |-;exact c) λ x r h=>by rw[h]at c |-;exact c
theorem qKq(t:T):size t<=1000000000->Ev (λ m _=>zZ m t) (Qd t):=by
 induction t using T.ind with
 | h t w =>
   intro F;have v:=yz t;have E:=qL t;refine waA ?_;simp only[quZ,qcA,ql]
   have q:=qr (P := λ i=>Ev (λ m k=>jW m (zZ m) k (((t.kids.take i).map Qd).foldl zm []) i t.kind t.name t.sort t.kids) ((t.kids.map Qd).foldl zm [])) t.kids (by omega)
    (λ s=>by
     refine waB ?_;simp only[qks,qcN];refine wax s ?_;rw[wC];exact wau _)
    (λ i x c G s A y C=>by
     refine waB ?_;simp only[qks,qcN,ql];have u:=wa c;have I:=jJ t x u;have D:=qe7 (t.kids.take i);have f:=Qy c;have H:=qlA x
     have B:Asc (((t.kids.take i).map Qd).foldl zm []):=qif _ _ List.Pairwise.nil λ l v=>by
      obtain⟨k,_,rfl⟩:=wy.1 v;exact qmX k
     refine wav s (waw A (wat (w x u (by omega)) (wat (qDf _ _ ?_) ?_)))
     ·unfold zX at D;unfold szL at *;omega
     ·rw[y,qC5 B (qmX x)];refine C.congr λ m k=>?_;rw[qkF c])
   have g:Ev (λ m _=>jW m (zZ m) m [] 0 t.kind t.name t.sort t.kids) ((t.kids.map Qd).foldl zm []) :=
    waC (L := λ m k=>jW m (zZ m) k [] 0 t.kind t.name t.sort t.kids) (q 0 (we _))
   rw[qlT];by_cases f:t.kind=3
   ·have p:ieq t.kind 3=true:=qk.2 f;have o:qf (ieq t.kind 3)=false:=bnf.2 p;refine wav p ?_;refine way (λ e=>?_) λ e=>?_
    ·rw[yQ]at e;have a:isN t qcH=true:=yO.2 ⟨f,e⟩
     have d:isN t qc5=false:=by
      rw[<- kP,yO];rintro⟨_,h⟩;rw[e]at h;exact absurd h (by decide)
     refine way (λ b=>?_) λ b=>?_
     ·rw[qk]at b;have b:t.kids=[]:=wk (by omega);rw[a,b];exact wau _
     ·rw[qh]at b
      have b:t.kids.isEmpty=false:=by
       cases z:t.kids with
       | nil=>rw[z]at b;exact absurd rfl b
       | cons _ _=>rfl
      rw[a,b,d];exact wax o (wav (by rw[e];rfl) (wau _))
    ·have r:=jS.1 e
     have a:isN t qcH=false:=by
      rw[<- kP,yO];rintro⟨_,h⟩;exact r h
     rw[a];refine wax o (way (λ c=>?_) λ c=>?_)
     ·have d:isN t qc5=false:=by
        rw[<- kP,yO];rintro⟨_,h⟩;exact jS.1 (bnt.1 c) h
      rw[d];exact wau _
     ·rw[show isN t qc5=true from yO.2 ⟨f,yQ.1 (bnf.1 c)⟩];exact g
   ·have p:ieq t.kind 3=false:=qh.2 f
    have j:∀ n,isN t n=false := λ n=>by
     rw[<- kP,yO];rintro⟨h,_⟩;exact f h
    rw[j,j];exact wax p (wav (bnt.2 p) (wau _))
theorem qHN:qS (apT qcH [])=0:=by
 unfold qS;rw[qjF,qL,qlg];have:jM (apT qcH [])=0:=by decide
 show(if jM (apT qcH [])≠0 then jM (apT qcH [])else _)=0;rw[this];rfl
theorem qGR(l:List T)(n:szL l<=100000000):Ev (λ m _=>qjp m l (apT qcH [])) (qoN l):=by
 have o:=jT l;refine waA ?_;simp only[qAG,qfG];unfold qoN;refine way (λ h=>?_) λ h=>?_
 ·rw[qs]at h;rw[if_pos (by omega)];exact wau _
 ·rw[qn]at h;rw[if_neg (by omega)]
  have b:=qr (P := λ i=>Ev (λ m k=>qaC m k l i 3 qcH 0 []) (((l.drop i).map qS).foldl thn 0)) l (by omega)
   (λ c=>by
    refine waB ?_;simp only[qoo,qfx];refine wax c ?_;rw[wT];refine wat (qde (T.mk 3 qcH 0 []) (by rw[qL];show 1+0<=_;omega)) ?_;exact waz qHN)
   (λ i x d g c f e j=>by
    refine waB ?_;simp only[qoo,qfx,ql];have p:=qcT (wa d);rw[qrH g];refine wav c (waw f (wat (qde x (by omega)) (way (λ a=>?_) λ a=>?_)))
    ·rw[bnt,qh]at a;rw[if_pos a];exact wau _
    ·rw[bnf,qk]at a;rw[if_neg (by omega),e];exact j)
  refine waC (L := λ m k=>qaC m k l 0 3 qcH 0 []) ?_;exact(b 0 (we _)).res (by rw[wO])
theorem qFJ(l:List T):size (qaz l)<=1+szL l:=by
 unfold qaz;split
 ·rw[qL];show 1+0<=_;omega
 ·split
  ·rename_i _ a
   have:l.getD 0 zT∈l:=by
    cases l with
    | nil=>cases a
    | cons x r=>exact wh ..
   have:=qcT this;omega
  ·rw[qL];exact wb _
theorem qIR(l:List T)(d:szL l<=1000000000):Ev (λ m _=>qk9 m l) (qaz l):=by
 have e:=jT l;refine waA ?_;simp only[qDn,qjY,ql];unfold qaz;refine way (λ c=>?_) λ c=>?_
 ·rw[qk]at c;rw[if_pos (by omega)];exact wat (qfu _ [] (by simp)) (wau _)
 ·rw[qh]at c;rw[if_neg (by omega)];refine way (λ b=>?_) λ b=>?_
  ·rw[qk]at b;rw[if_pos (by omega)];refine waw (a:=l.getD 0 zT) ?_ (wau _);rw[qad,List.getD_eq_getElem?_getD];cases l with
   | nil=>simp at b
   | cons x r=>rfl
  ·rw[qh]at b;rw[if_neg (by omega)];exact wav (qD (by simp only[ke];omega) (by omega)) (Ev.case (λ h=>waz (by rw[h];rfl)) λ x r h=>waz (by rw[h];rfl))
theorem qNz(l:List T)(q:szL l<=900000):Ev (λ m _=>qny m l) (qqt l):=by
 have d:=jT l;refine waA ?_;simp only[qEk,qir];unfold qqt
 have z:Ev (λ m _=>qkD m) (apT qcH []):=by
  refine waA ?_;simp only[qCP,qj1,ql];exact wat (qfu _ [] (by simp)) (wau _)
 refine wat z ?_;rw[ql];refine wat (qGR l (by omega)) (way (λ h=>?_) λ h=>?_)
 ·rw[bnt,qh]at h;rw[if_pos h];exact wau _
 ·rw[bnf,qk]at h;rw[if_neg (by omega)]
  have a:=qr (P := λ i=>Ev (λ m k=>qcv m k l (((l.take i).map Qd).foldl zm []) i 0 [] 0 []) (if qS (qaz (zX l))≠0 then(zT,3)else(qaz (zX l),0))) l (by omega)
   (λ c=>by
    refine waB ?_;simp only[qsq,qh2,ql];refine wax c ?_;rw[wC];have p:=qe7 l;have e:=qFJ (zX l);refine wat (qIR (zX l) (by omega)) (wat (qde _ (by omega)) (way (λ h=>?_) λ h=>?_))
    ·rw[bnt,qh]at h;rw[if_pos h];exact wau _
    ·rw[bnf,qk]at h;rw[if_neg (by omega)];exact wau _)
   (λ i x b r c j g o=>by
    refine waB ?_;simp only[qsq,qh2,ql];have f:=wa b;have p:=qcT f;have e:=qe7 (l.take i);have t:=Qy b;have s:=qlA x
    have n:Asc (((l.take i).map Qd).foldl zm []):=qif _ _ List.Pairwise.nil λ l d=>by
     obtain⟨k,_,rfl⟩:=wy.1 d;exact qmX k
    refine wav c (waw j (wat (qKq x (by omega)) (wat (qDf _ _ ?_) ?_)))
    ·unfold zX at e;omega
    ·rw[g,qC5 n (qmX x)];refine o.congr λ m k=>?_;rw[qkF b])
  refine waC (L := λ m k=>qcv m k l [] 0 0 [] 0 []) ?_;exact a 0 (we _)
end Go.AmZ
namespace Go.GxZ
def qgN(l:List Pw):Prop:=Asc (l.map (·.1))
def NzP(l:List Pw):Prop:=∀ p∈l,p.2≠0
theorem qg0{p:Pw}{l:List Pw}:qgN (p::l)↔(∀ q∈l,qu p.1 q.1=-1)/\qgN l:=by
 unfold qgN;rw[wo,qa2];simp
theorem qeP{p:Pw}{l:List Pw}:NzP (p::l)↔p.2≠0/\NzP l:=by
 unfold NzP;simp
def Q5(l:List Pw):Nat:=(l.map λ p=>p.2.natAbs).sum
theorem qpS:∀(l:List Pw) (t:T) (n:Int) (p:Pw),p∈yF l t n->p.1=t\/p∈l
 | [],t,n,p,h=>by simp[yF]at h;exact .inl (by rw[h])
 | (x,m)::l,t,n,p,h=>by
   rw[yF]at h;split at h
   ·rcases wx.1 h with h | h
    ·exact .inl (by rw[h])
    ·exact .inr h
   ·split at h
    ·rename_i a;split at h
     ·exact .inr (wg _ h)
     ·rcases wx.1 h with h | h
      ·left;rw[h];exact(qaX t x a).symm
      ·exact .inr (wg _ h)
    ·rcases wx.1 h with h | h
     ·exact .inr (h▸wh ..)
     ·rcases qpS l t n p h with h | h
      ·exact .inl h
      ·exact .inr (wg _ h)
theorem qBL:∀(l:List Pw) (t:T) (n:Int),qgN l->qgN (yF l t n)
 | [],_,_,_=>vw _ _
 | (x,m)::l,t,n,h=>by
   obtain⟨d,c⟩:=qg0.1 h;rw[yF];have f:=ye.rng t x;split
   ·rename_i b;refine qg0.2 ⟨λ q a=>?_,h⟩;rcases wx.1 a with e | a
    ·rw[e];exact b
    ·exact qfA b (d q a)
   ·split
    ·split
     ·exact c
     ·exact qg0.2 ⟨d,c⟩
    ·refine qg0.2 ⟨λ q a=>?_,qBL l t n c⟩;rcases qpS l t n q a with e | a
     ·rw[e];exact qxy.1 (show qu t x=1 by omega)
     ·exact d q a
theorem qE2:∀(l:List Pw) (t:T) (n:Int),NzP l->n≠0->NzP (yF l t n)
 | [],_,_,_,a=>by intro p c;simp[yF]at c;rw[c];exact a
 | (x,m)::l,t,n,h,a=>by
   obtain⟨d,b⟩:=qeP.1 h;rw[yF];split
   ·exact qeP.2 ⟨a,h⟩
   ·split
    ·split
     ·exact b
     ·exact qeP.2 ⟨by assumption,b⟩
    ·exact qeP.2 ⟨d,qE2 l t n b a⟩
theorem qu4:∀(l:List Pw) (t:T) (n:Int),Q5 (yF l t n)<=Q5 l+n.natAbs
 | [],t,n=>by simp[yF,Q5]
 | (x,m)::l,t,n=>by
   have a:=qu4 l t n;unfold Q5 at a |-
   rw[yF];split
   ·simp only[wo,kD];omega
   ·split
    ·split
     ·simp only[wo,kD];omega
     ·simp only[wo,kD];omega
    ·simp only[wo,kD];omega
theorem quw:∀(l:List Pw) (t:T) (n:Int),(yF l t n).length<=l.length+1
 | [],t,n=>by simp[yF]
 | (x,m)::l,t,n=>by
   have a:=quw l t n;rw[yF];split
   ·simp
   ·split
    ·split
     ·simp;omega
     ·simp
    ·simp only[wu];omega
theorem qCt(l:List Pw)(p:Pw)(h:p∈l):p.2.natAbs<=Q5 l:=by
 unfold Q5
 induction l with
 | nil=>cases h
 | cons q l a =>
   simp only[wo,kD];rcases wx.1 h with e | h
   ·rw[e];omega
   ·have:=a h;omega
def yX(t:T)(n:Int)(s:List Pw × Bool)(p:Pw):List Pw × Bool :=
 ((if s.2=false/\qu t p.1<0 then s.1++[(t,n)]else s.1)++(if(if qu t p.1=0 then p.2+n else p.2)=0 then[]else[(p.1,if qu t p.1=0 then p.2+n else p.2)]),
   s.2||decide (qu t p.1<=0))
def qHk(l:List Pw)(t:T)(n:Int):List Pw:=if(l.foldl (yX t n) ([],false)).2 then(l.foldl (yX t n) ([],false)).1 else(l.foldl (yX t n) ([],false)).1++[(t,n)]
theorem qpF(t:T)(n:Int):∀(l a:List Pw),NzP l->(∀ q∈l,qu t q.1=-1)->l.foldl (yX t n) (a,true)=(a++l,true)
 | [],a,_,_=>by simp
 | (x,m)::l,a,h,k=>by
   obtain⟨c,f⟩:=qeP.1 h;have b:=k _ (wh ..);simp only at b c;have e:yX t n (a,true) (x,m)=(a++[(x,m)],true):=by simp[yX,b,c]
   rw[kg,e,qpF t n l _ f λ q d=>k q (wg _ d)];simp
theorem qtD(t:T)(n:Int):∀(l a:List Pw),NzP l->qgN l->(if(l.foldl (yX t n) (a,false)).2 then(l.foldl (yX t n) (a,false)).1 else(l.foldl (yX t n) (a,false)).1++[(t,n)])=a++yF l t n
 | [],a,_,_=>by simp[yF]
 | (x,m)::l,a,h,k=>by
   obtain⟨i,g⟩:=qeP.1 h;obtain⟨d,o⟩:=qg0.1 k;simp only at i d;have s:=ye.rng t x;rw[kg,yF];by_cases c:qu t x=-1
   ·have e:yX t n (a,false) (x,m)=(a++[(t,n)]++[(x,m)],true):=by simp[yX,c,i]
    rw[e,qpF t n l _ g λ q f=>qfA c (d q f),if_pos c];simp
   ·by_cases b:qu t x=0
    ·have e:yX t n (a,false) (x,m)=(a++(if m+n=0 then[]else[(x,m+n)]),true):=by simp[yX,b]
     have ex:=qaX t x b;rw[e,qpF t n l _ g λ q f=>by rw[ex];exact d q f,if_neg c,if_pos b];by_cases j:m+n=0
     ·simp[j]
     ·simp[j]
    ·have e:yX t n (a,false) (x,m)=(a++[(x,m)],false):=by
       have r:¬ qu t x<0:=by omega
       have p:¬ qu t x<=0:=by omega
       simp[yX,r,p,b,i]
     rw[e,qtD t n l _ g o,if_neg c,if_neg b];simp
theorem qLm{l:List Pw}(h:NzP l)(k:qgN l)(t:T)(n:Int):qHk l t n=yF l t n:=by
 have:=qtD t n l [] h k;simpa[qHk]using this
def J6(l:List Pw):Prop:=qgN l/\NzP l
theorem J6.nil:J6 []:=⟨List.Pairwise.nil,λ _ h=>by cases h⟩
theorem J6.ins{l:List Pw}(h:J6 l)(t:T){n:Int}(a:n≠0):J6 (yF l t n):=⟨qBL l t n h.1,qE2 l t n h.2 a⟩
theorem qMT{t:T}{n:Int}(h:n≠0):qbs t n≠0:=by unfold qbs;split<;>omega
theorem qLH(t:T)(n:Int):(qbs t n).natAbs=n.natAbs:=by unfold qbs;split<;>omega
theorem qE5(a:List T)(n:Int)(P:List Pw->Prop)(h:∀ k∈a,∀ l,P l->P (jC k l n)):∀ l,P l->P ((a.map jC).foldl (λ l f=>f l n) l):=by
 induction a with
 | nil=>intro l b;exact b
 | cons k a c=>intro l b;exact c (λ k d=>h k (wg _ d)) _ (h k (wh ..) l b)
theorem qIU(t:T):∀(l:List Pw) (n:Int),n≠0->J6 l->J6 (jC t l n):=by
 refine T.ind (P := λ t=>∀(l:List Pw) (n:Int),n≠0->J6 l->J6 (jC t l n)) ?_ t;intro t b l n a h;rw[qg3];split
 ·exact qE5 t.kids (qbs t n) J6 (λ k d l c=>b k d l _ (qMT a) c) l h
 ·exact h.ins t a
theorem qKp(t:T):∀(l:List Pw) (n:Int),Q5 (jC t l n)<=Q5 l+size t*n.natAbs/\(jC t l n).length<=l.length+size t:=by
 refine T.ind (P := λ t=>∀(l:List Pw) (n:Int),Q5 (jC t l n)<=Q5 l+size t*n.natAbs/\(jC t l n).length<=l.length+size t) ?_ t;intro t g l n;rw[qg3,qL];split
 ·have:∀(a:List T),(∀ k∈a,k∈t.kids)->∀ l,Q5 ((a.map jC).foldl (λ l f=>f l (qbs t n)) l)<=Q5 l+(a.map size).sum*n.natAbs/\((a.map jC).foldl (λ l f=>f l (qbs t n)) l).length<=l.length+(a.map size).sum:=by
    intro a
    induction a with
    | nil=>intro _ l;simp
    | cons k a b =>
      intro c l;have e:=g k (c k (wh ..)) l (qbs t n);rw[qLH]at e;have d:=b (λ k i=>c k (wg _ i)) (jC k l (qbs t n));simp only[wo,kg,kD,wN]at d |-
      omega
  have:=this t.kids (λ _ h=>h) l;rw[wN];omega
 ·have e:=qu4 l t n;have d:=quw l t n;rw[wN];omega
theorem qrY:∀(b a:List Pw),J6 a->NzP b->J6 (Q9 a b)
 | [],a,h,_=>h
 | p::b,a,h,k=>qrY b (yF a p.1 p.2) (h.ins p.1 (qeP.1 k).1) (qeP.1 k).2
theorem quC:∀(b a:List Pw),Q5 (Q9 a b)<=Q5 a+Q5 b/\(Q9 a b).length<=a.length+b.length
 | [],a=>by simp[Q9,Q5]
 | p::b,a=>by
   have f:=quC b (yF a p.1 p.2);have d:=qu4 a p.1 p.2;have c:=quw a p.1 p.2;have e:Q5 (p::b)=p.2.natAbs+Q5 b:=by simp[Q5]
   rw[show Q9 a (p::b)=Q9 (yF a p.1 p.2) b from rfl,e,wu];omega
def ixP:List Pw->T->Nat
 | [],_=>0
 | p::l,t=>if qu p.1 t=-1 then ixP l t+1 else 0
theorem qJn:∀(l:List Pw) (t:T),ixP l t<=l.length
 | [],_=>wb _
 | p::l,t=>by
   have:=qJn l t;rw[ixP];split
   ·simp;omega
   ·omega
theorem qI2:∀(l:List Pw) (t:T) (i:Nat),i<=l.length->(∀ k p,k<i->l[k]?=some p->qu p.1 t=-1)->(∀ p,l[i]?=some p->qu p.1 t≠-1)->i=ixP l t
 | [],_,i,h,_,_=>by simp at h;rw[h];rfl
 | p::l,t,0,_,_,h=>by rw[ixP,if_neg (h p rfl)]
 | p::l,t,i+1,h,k,m=>by
   rw[ixP,if_pos (k 0 p (by omega) rfl)];rw[<- qI2 l t i (by simpa using h) (λ j q b a=>k (j+1) q (by omega) (by simpa using a)) (λ q a=>m q (by simpa using a))]
theorem qF7:∀(l:List Pw) (t:T) (n:Int) (x:T) (m:Int),l[ixP l t]?=some (x,m)->qu x t=0 ->
  yF l t n=if m+n=0 then l.take (ixP l t)++l.drop (ixP l t+1)else l.take (ixP l t)++[(x,m+n)]++l.drop (ixP l t+1)
 | [],_,_,_,_,h,_=>by simp at h
 | (y,k)::l,t,n,x,m,h,a=>by
   have d:=ye.anti y t;have b:=ye.rng y t;rw[ixP]at h;rw[yF,ixP];simp only at h |-
   by_cases c:qu y t=-1
   ·rw[if_pos c]at h;rw[if_neg (by omega),if_neg (by omega),if_pos c,qF7 l t n x m (by simpa using h) a];split<;>simp
   ·rw[if_neg c]at h;simp at h;obtain⟨rfl,rfl⟩:=h;rw[if_neg (by omega),if_pos (by omega),if_neg c];split<;>simp
theorem qD0:∀(l:List Pw) (t:T) (n:Int),(∀ p,l[ixP l t]?=some p->qu p.1 t≠0)->yF l t n=l.take (ixP l t)++[(t,n)]++l.drop (ixP l t)
 | [],_,_,_=>by simp[yF,ixP]
 | (y,k)::l,t,n,h=>by
   have d:=ye.anti y t;have b:=ye.rng y t;rw[ixP]at h;rw[yF,ixP];simp only at h |-
   by_cases c:qu y t=-1
   ·rw[if_pos c]at h;rw[if_neg (by omega),if_neg (by omega),if_pos c,qD0 l t n λ p a=>h p (by simpa using a)];simp
   ·rw[if_neg c]at h;have:=h (y,k) rfl;simp only at this;rw[if_pos (by omega),if_neg c];simp
theorem qFW{l:List Pw}(h:qgN l){i j:Nat}{p q:Pw}(g:l[i]?=some p)(f:l[j]?=some q)(c:i<j):qu p.1 q.1=-1:=by
 unfold qgN Asc at h;rw[List.pairwise_iff_getElem]at h;obtain⟨e,d⟩:=List.getElem?_eq_some_iff.1 g;obtain⟨b,a⟩:=List.getElem?_eq_some_iff.1 f;have:=h i j (by simpa using e) (by simpa using b) c;simpa[d,a]using this
end Go.GxZ
namespace Go.AmZ
open Go Go.GxZ
theorem qEX(t:T):Ev (λ m _=>qcb m t) (qdv t):=by
 refine waA ?_;simp only[qth,qeH];unfold qdv;by_cases a:t.kind=3
 ·refine wav (qk.2 a) (way (λ h=>?_) λ h=>(way (λ b=>?_) λ b=>?_))
  ·rw[yQ]at h;exact waz (by rw[a,h];rfl)
  ·rw[yQ]at b;exact waz (by rw[a,b];rfl)
  ·rw[jS]at h b
   exact waz (by
    have d:(t.name==qe8)=false:=by rw[beq_eq_false_iff_ne];exact h
    have c:(t.name==JB)=false:=by rw[beq_eq_false_iff_ne];exact b
    rw[a,d,c];rfl)
 ·exact wax (qh.2 a) (waz (by have:(t.kind==3)=false:=by rw[beq_eq_false_iff_ne];exact a
                              rw[this];rfl))
theorem qm2(t:T):size t<=100000000->Ev (λ m _=>zw m t) t:=by
 induction t using T.ind with
 | h t g =>
   intro o;have p:=yz t;refine waA ?_;simp only[qug,qcE]
   have a:z8 0 t.kids=some ((),t.kids,()):=by
    unfold z8;rw[show Nat.ble t.kids.length 100000000=true from xI (by omega)];rfl
   refine waw a ?_
   have b:=qr (P := λ i=>Ev (λ m k=>QJ m (zw m) k t.kids.length i t.kind t.name t.sort 0 [] 0 t.kids []) t) t.kids (by omega)
    (λ a=>by
     refine waB ?_;simp only[qkn,qcO];exact wax a (waz (ql t)))
    (λ i x c q a f j l=>by
     refine waB ?_;simp only[qkn,qcO,ql];have d:=wa c;have s:=jJ t x d
     have e:yn t.kids (i:Int) x=t.kids:=by
      rw[QI];obtain⟨r,n⟩:=List.getElem?_eq_some_iff.1 c;rw[<- n,List.set_getElem_self]
     refine wav a (waw f (wat (g x d (by omega)) (waw f ?_)));rw[e,j];exact l)
   refine waC (L := λ m k=>QJ m (zw m) k t.kids.length 0 t.kind t.name t.sort 0 [] 0 t.kids []) ?_;exact b 0 (we _)
theorem qOs(lo a:Nat)(h:lo+a<=1000000000):iw .i64 (qbG .u64 (iw .u64 (iw .i64 (qd (lo:Int) (a:Int)))) 1)=(((lo+a) / 2:Nat):Int):=by
 rw[qlS,show iw .i64 ((lo+a:Nat):Int)=((lo+a:Nat):Int)from jF (by omega),show iw .u64 ((lo+a:Nat):Int)=((lo+a:Nat):Int)from IntWalk.u64_in _ (by omega)]
 have:qbG .u64 ((lo+a:Nat):Int) 1=(((lo+a) / 2:Nat):Int):=by
  unfold qbG;show Int.fdiv _ 2=_;rw[vW _ (by decide)];omega
 rw[this,jF (by omega)]
def szP(l:List Pw):Nat:=(l.map λ p=>size p.1).sum
theorem qba(p:Pw)(l:List Pw):szP (p::l)=size p.1+szP l:=by simp[szP]
theorem qcU:∀ l:List Pw,l.length<=szP l
 | []=>we _
 | p::l=>by
   have:=qcU l;have:=size_pos p.1;rw[qba,wu];omega
theorem qfL:∀{l:List Pw} {p:Pw},p∈l->size p.1<=szP l
 | q::l,p,h=>by
   rw[qba];rcases wx.1 h with rfl | h
   ·omega
   ·have:=qfL h;omega
theorem qFE:∀(l:List Pw) (t:T) (n:Int),szP (yF l t n)<=szP l+size t
 | [],t,n=>by rw[yF,qba];show size t+0<=0+size t;omega
 | (x,m)::l,t,n=>by
   have:=qFE l t n;rw[yF];split
   ·rw[qba,qba];show size t+(size x+_)<=size x+_+size t;omega
   ·split
    ·split
     ·rw[qba];show _<=size x+_+_;omega
     ·rw[qba,qba];show size x+_<=size x+_+_;omega
    ·rw[qba,qba];show size x+_<=size x+_+_;omega
theorem qC4(p:Pw)(t:T)(b:size p.1<=1000000000)(a:size t<=1000000000):Ev (λ m _=>qaE m p t) (qu p.1 t):=by
 refine waA ?_;simp only[qq8,qdA,ql];exact wat (qd2 _ b _ a) (wau _)
def quQ(l:List Pw)(t:T):Bool:=match l[Go.GxZ.ixP l t]? with
 | some p=>ieq (qu p.1 t) 0
 | none=>false
theorem qNl{l:List Pw}(y:qgN l)(t:T)(D:szP l+size t<=100000000):∀(d lo c:Nat),c<=lo+d->lo<=c->c<=l.length->(∀ k p,k<lo->l[k]?=some p->qu p.1 t=-1)->(∀ k p,c<=k->l[k]?=some p->qu p.1 t≠-1) ->
  Ev (λ m k=>qt m k l l.length lo c t.kind t.name t.sort t.kids) ((Go.GxZ.ixP l t:Int),quQ l t):=by
 have E:=qcU l;intro d
 induction d with
 | zero =>
   intro lo c C z r o n;have:lo=c:=by omega
   subst this;have w:=qI2 l t lo r o (λ p g=>n lo p (wb _) g);subst w;refine waB ?_;simp only[yt,qG,ql];rw[show T.mk t.kind t.name t.sort t.kids=t from ql t];refine wax (qn.2 (vj _)) (way (λ h=>?_) λ h=>?_)
   ·rw[qs]at h;have i:Go.GxZ.ixP l t<l.length:=by omega
    obtain⟨p,e⟩:∃ p,l[Go.GxZ.ixP l t]?=some p:=⟨_,List.getElem?_eq_getElem i⟩
    have v:=qfL (wa e);refine waw (a:=p) (by rw[qU,e]) (wat (qC4 (p.1,p.2) _ (wD v (by omega)) (by omega)) (waz ?_));unfold quQ;rw[e]
   ·rw[qn]at h;refine waz ?_;unfold quQ;rw[List.getElem?_eq_none (by omega)]
 | succ d s =>
   intro lo c C z r o n;by_cases F:lo=c
   ·exact s lo c (by omega) z r o n
   refine waB ?_;simp only[yt,qG,ql];rw[show T.mk t.kind t.name t.sort t.kids=t from ql t,qOs lo c (by omega)];have A:(lo+c) / 2<c:=by omega
   have u:lo<=(lo+c) / 2:=by omega
   generalize (lo+c) / 2=b at *;have i:b<l.length:=by omega
   obtain⟨p,e⟩:∃ p,l[b]?=some p:=⟨_,List.getElem?_eq_getElem i⟩
   have v:=qfL (wa e);refine wav (qs.2 (by omega)) (waw (a:=p) (by rw[qU,e]) (wat (qC4 (p.1,p.2) _ (wD v (by omega)) (by omega)) (way (λ f=>?_) λ f=>?_)))
   ·rw[qs]at f;have f:qu p.1 t<0:=f;have f:qu p.1 t=-1:=by rcases ye.rng p.1 t with h | h | h<;>omega
    rw[show qd ((b:Nat):Int) 1=((b+1:Nat):Int)from by unfold qd;omega,jF (by omega)];refine s (b+1) c (by omega) (by omega) r (λ k q B g=>?_) n;by_cases j:k=b
    ·subst j;rw[e]at g;cases g;exact f
    ·exact ye.trans _ _ _ (qFW y g e (by omega)) f
   ·rw[qn]at f;have f:0<=qu p.1 t:=f;refine s lo b (by omega) u (by omega) o (λ k q B g=>?_);by_cases j:k=b
    ·subst j;rw[e]at g;cases g;omega
    ·intro x;have:=ye.trans _ _ _ (qFW y e g (by omega)) x;omega
theorem qPK{l:List Pw}(d:qgN l)(t:T)(c:szP l+size t<=100000000):Ev (λ m _=>qK m l t) ((Go.GxZ.ixP l t:Int),quQ l t):=by
 refine waA ?_;simp only[Q8,qF];refine waC (L := λ m k=>qt m k l l.length 0 l.length t.kind t.name t.sort t.kids) ?_;exact qNl d t c l.length 0 l.length (by omega) (we _) (wb _) (λ k p b=>by omega) (λ k p b a=>by rw[List.getElem?_eq_none b]at a;cases a)
theorem qw3{l:List Pw}(r:qgN l)(t:T)(n:Int)(u:szP l+size t<=90000000)(g:l.length<=90000)(v:Q5 l+n.natAbs<=1000000000000):Ev (λ m _=>qbX m l (t,n)) ((),yF l t n,()):=by
 have w:=qcU l;have q:=qJn l t;refine waA ?_;simp only[qtn,qeM,ql];refine wat (qPK r t (by omega)) (way (λ h=>?_) λ h=>?_)
 ·rw[bnt]at h;refine wat (qm2 t (by omega)) ?_
  have i:zy 0 l (Go.GxZ.ixP l t:Int) [(re t,n)]=some ((),yF l t n,()):=by
   unfold zy;rw[show inb (Go.GxZ.ixP l t:Int) l.length=true from by unfold inb;rw[decide_eq_true_iff];omega,show Nat.ble l.length 100000=true from xI (by omega)]
   rw[qD0 l t n λ p j f=>by
    unfold quQ at h;simp only[j]at h;rw[qh]at h;exact h f]
   rw[wF,ql,wi];rfl
  rw[ql]at i;refine waw i (wau _)
 ·rw[bnf]at h;cases b:l[Go.GxZ.ixP l t]? with
  | none=>unfold quQ at h;simp only[b]at h;cases h
  | some p =>
    obtain⟨x,k⟩:=p
    have f:qu x t=0:=by
     unfold quQ at h;simp only[b]at h;exact qk.1 h
    have o:=qCt l _ (wa b);have d:Go.GxZ.ixP l t<l.length:=(List.getElem?_eq_some_iff.1 b).1;simp only at o
    have e1:iw .i64 (qd k n)=k+n:=by
     unfold qd;exact jF (by omega)
    have e:qc (yn l (Go.GxZ.ixP l t:Int) (x,k+n)) (Go.GxZ.ixP l t:Int)=some (x,k+n):=by
     rw[QI,qU,List.getElem?_set_self d]
    have a:l.set (Go.GxZ.ixP l t) (x,k+n)=l.take (Go.GxZ.ixP l t)++[(x,k+n)]++l.drop (Go.GxZ.ixP l t+1):=by
     rw[xK,if_pos d,wi];rfl
    refine waw (by rw[qU,b]) (waw (by rw[qU,b]) ?_);simp only[ql,e1];refine waw e ?_;rw[qF7 l t n x k b f];refine way (λ c=>?_) λ c=>?_
    ·rw[qk]at c;rw[if_pos c]
     have s:zC 0 (yn l (Go.GxZ.ixP l t:Int) (x,k+n)) (Go.GxZ.ixP l t:Int) (iw .i64 (qd (Go.GxZ.ixP l t:Int) 1))=some ((),l.take (Go.GxZ.ixP l t)++l.drop (Go.GxZ.ixP l t+1),()):=by
      rw[show qd (Go.GxZ.ixP l t:Int) 1=((Go.GxZ.ixP l t+1:Nat):Int)from by unfold qd;omega,jF (by omega),QI];unfold zC
      rw[wJ,show inb ((Go.GxZ.ixP l t+1:Nat):Int) l.length=true from by unfold inb;rw[decide_eq_true_iff];omega,show inb (Go.GxZ.ixP l t:Int) l.length=true from by unfold inb;rw[decide_eq_true_iff];omega,
       show ieq ((Go.GxZ.ixP l t+1:Nat):Int) (qd (Go.GxZ.ixP l t:Int) 1)=true from qk.2 (by unfold qd;omega),show Nat.ble l.length 100000=true from xI (by omega)]
      rw[wF,vk (wb _),vO (by omega)];rfl
     exact waw s (wau _)
    ·rw[qh]at c;rw[if_neg c];refine waz ?_;rw[QI,a]
end Go.AmZ
namespace Go.GxZ
open Go.RowKit
theorem qDT(q:Option T)(p:Pw):pvK q p=if qS p.1≠0 then qS p.1 else if qdv p.1 then 1 else if p.2=0\/p.2 < -1000\/1000<p.2 then 7 else match q with | some x=>if 0<=qu x p.1 then 5 else 0 | none=>0:=rfl
theorem qDX:∀(l:List Pw) (q:Option T),pvL q l=0->qgN l/\(∀ p∈l,p.2≠0/\p.2.natAbs<=1000)/\(∀ x,q=some x->∀ p∈l,qu x p.1=-1)/\(∀ p∈l,qS p.1=0/\qdv p.1=false)
 | [],q,_=>⟨List.Pairwise.nil,(λ _ h=>by cases h),(λ _ _ _ h=>by cases h),(λ _ h=>by cases h)⟩
 | p::l,q,h=>by
   rw[pvL]at h;unfold thn at h;split at h
   rotate_left
   ·rename_i b;exact absurd h b
   ·rename_i b;have k:=qDT q p;obtain⟨j,i,d,g⟩:=qDX l (some p.1) h;rw[k]at b;split at b
    ·rename_i f;exact absurd b f
    rename_i f;split at b
    ·cases b
    rename_i m;split at b
    ·cases b
    rename_i o
    have e:∀ x,q=some x->qu x p.1=-1 := λ x c=>by
     subst c;simp only at b;split at b
     ·cases b
     ·rename_i n;rcases ye.rng x p.1 with h | h | h<;>omega
    refine⟨qg0.2 ⟨λ r a=>d _ rfl r a,j⟩,λ r a=>?_,λ x c r a=>?_,λ r a=>?_⟩
    ·rcases wx.1 a with rfl | a
     ·omega
     ·exact i r a
    ·rcases wx.1 a with rfl | a
     ·exact e x c
     ·exact qfA (e x c) (by have:=d _ rfl r a;omega)
    ·rcases wx.1 a with rfl | a
     ·exact⟨by omega,by simpa using m⟩
     ·exact g r a
theorem qb8{l:List Pw}(h:JG l=0):J6 l/\l.length<=200/\(∀ p∈l,p.2.natAbs<=1000)/\(∀ p∈l,qS p.1=0/\qdv p.1=false):=by
 unfold JG at h;split at h
 ·cases h
 ·obtain⟨d,b,-,c⟩:=qDX l none h;exact⟨⟨d,λ p a=>(b p a).1⟩,by omega,λ p a=>(b p a).2,c⟩
theorem qpd(k:Nat):∀(l:List Pw),(∀ p∈l,p.2.natAbs<=k)->Q5 l<=l.length*k
 | [],_=>by simp[Q5]
 | p::l,h=>by
   have c:=qpd k l λ q a=>h q (wg _ a);have b:=h p (wh ..);have e:Q5 (p::l)=p.2.natAbs+Q5 l:=rfl;rw[e,wu,wN];omega
theorem que:∀(b a:List Pw) (p:Pw),p∈Q9 a b->(∃ q∈a,q.1=p.1)\/∃ q∈b,q.1=p.1
 | [],a,p,h => .inl ⟨p,h,rfl⟩
 | r::b,a,p,h=>by
   rcases que b (yF a r.1 r.2) p h with⟨q,c,e⟩ | ⟨q,c,e⟩
   ·rcases qpS a r.1 r.2 q c with d | d
    ·exact .inr ⟨r,wh ..,by rw[<- d];exact e⟩
    ·exact .inl ⟨q,d,e⟩
   ·exact .inr ⟨q,wg _ c,e⟩
theorem qz2(a b:List Pw)(p:Pw):Q9 a (b++[p])=yF (Q9 a b) p.1 p.2:=by unfold Q9;rw[xe];rfl
theorem qHG{a b:List Pw}(n:JG a=0)(m:JG b=0)(S:Nat)(f:∀ p∈a,size p.1<=S)(d:∀ p∈b,size p.1<=S)(j:Nat) :
  qgN (Q9 a (b.take j))/\(Q9 a (b.take j)).length<=400/\(∀ p∈Q9 a (b.take j),p.2.natAbs<=1000000)/\(∀ p∈Q9 a (b.take j),size p.1<=S):=by
 obtain⟨r,t,k,-⟩:=qb8 n;obtain⟨o,s,i,-⟩:=qb8 m;have h:∀ p∈b.take j,p∈b := λ p c=>wY c;have l:=qrY (b.take j) a r λ p c=>o.2 p (h p c);obtain⟨y,x⟩:=quC (b.take j) a;have w:=qpd 1000 a k;have v:=qpd 1000 (b.take j) λ p c=>i p (h p c);have u:(b.take j).length<=200:=by rw[wm];omega
 refine⟨l.1,by omega,λ p c=>?_,λ p c=>?_⟩
 ·have:=qCt _ p c;omega
 ·rcases que _ _ p c with⟨q,g,e⟩ | ⟨q,g,e⟩
  ·rw[<- e];exact f q g
  ·rw[<- e];exact d q (h q g)
end Go.GxZ
namespace Go.AmZ
open Go Go.GxZ
theorem QZ{t:T}(h:qS t=0):size t<=400:=by
 unfold qS at h;split at h
 ·rename_i a;exact absurd h a
 ·split at h
  ·cases h
  ·omega
theorem qtc{t:T}:qdv t=true↔t.kind=3/\(t.name=qe8\/t.name=JB\/t.name=qj5):=by
 unfold qdv;simp only[wd,kh,beq_iff_eq];constructor
 ·rintro⟨h,(a | a) | a⟩
  ·exact⟨h,.inl a⟩
  ·exact⟨h,.inr (.inl a)⟩
  ·exact⟨h,.inr (.inr a)⟩
 ·rintro⟨h,a | a | a⟩
  ·exact⟨h,.inl (.inl a)⟩
  ·exact⟨h,.inl (.inr a)⟩
  ·exact⟨h,.inr a⟩
theorem qF9(t:T):∀(l:List Pw) (n:Int),szP (jC t l n)<=szP l+size t:=by
 refine T.ind (P := λ t=>∀(l:List Pw) (n:Int),szP (jC t l n)<=szP l+size t) ?_ t;intro t d l n;rw[qg3];have i:=qL t;split
 ·have:∀(a:List T),(∀ k∈a,k∈t.kids)->∀ l,szP ((a.map jC).foldl (λ l f=>f l (qbs t n)) l)<=szP l+(a.map size).sum:=by
    intro a
    induction a with
    | nil=>intro _ l;simp
    | cons k a b =>
      intro c l;have j:=d k (c k (wh ..)) l (qbs t n);have g:=b (λ k e=>c k (wg _ e)) (jC k l (qbs t n));simp only[wo,kg,kD]at g |-
      omega
  have:=this t.kids (λ _ h=>h) l;omega
 ·exact qFE l t n
def qf0(ks:List T)(a:Int)(l:List Pw)(i:Nat):List Pw:=((ks.take i).map jC).foldl (λ l f=>f l a) l
theorem qzp{ks:List T}{i:Nat}{x:T}(h:ks[i]?=some x)(a:Int)(l:List Pw):qf0 ks a l (i+1)=jC x (qf0 ks a l i) a:=by
 unfold qf0;rw[kw,h,wS,xe];rfl
theorem qpV(a:Int)(b:a≠0):∀(ks:List T) (l:List Pw),J6 l->J6 ((ks.map jC).foldl (λ l f=>f l a) l)/\szP ((ks.map jC).foldl (λ l f=>f l a) l)<=szP l+szL ks /\
  Q5 ((ks.map jC).foldl (λ l f=>f l a) l)<=Q5 l+szL ks*a.natAbs/\((ks.map jC).foldl (λ l f=>f l a) l).length<=l.length+szL ks
 | [],l,h=>⟨h,by simp,by simp,by simp⟩
 | k::ks,l,h=>by
   obtain⟨c,g,e,d⟩:=qpV a b ks (jC k l a) (qIU k l a b h);have m:=qF9 k l a;obtain⟨j,i⟩:=qKp k l a;rw[wo,kg,qR,wN];exact⟨c,by omega,by omega,by omega⟩
def ql7(t:T)(l:List Pw)(n:Int):Unit × List Pw × Bool × Unit:=((),if arT t then jC t l n else[],arT t,())
theorem qGt(t:T):∀(l:List Pw) (n:Int),n≠0->J6 l->szP l+size t<=80000->Q5 l+size t*n.natAbs<=100000000000->Ev (λ m _=>zr m l t n) (ql7 t l n):=by
 induction t using T.ind with
 | h t K =>
   intro l n H I R J;have S:=yz t;have Q:=qL t;have M:=qcU l;refine waA ?_;simp only[qr8,qbv,ql];refine wat (qEX t) (way (λ h=>?_) λ h=>?_)
   ·rw[bnt]at h;have s:n.natAbs<=size t*n.natAbs:=vz _ (size_pos t);refine wat (qw3 I.1 t n (by omega) (by omega) (by omega)) (waz ?_);unfold ql7;rw[qwp,qg3,h];rfl
   rw[bnf]at h;obtain⟨Y,j⟩:=qtc.1 h;have o:arT t=(arK t&&(t.kids.map arT).all id):=by rw[qwp,h];rfl
   have g:∀ e:Int,e≠0->e.natAbs=n.natAbs->qbs t n=e->arK t=true->Ev (λ m _=>jr m (zr m) m e t.kids t.kids.length 0 l) (ql7 t l n):=by
    intro e q F A d;have u:jC t l n=qf0 t.kids e l t.kids.length:=by rw[qg3,h,if_pos rfl,A];unfold qf0;rw[wC]
    have z:=qr (P := λ i=>(∀ k∈t.kids.take i,arT k=true)->Ev (λ m k=>jr m (zr m) k e t.kids t.kids.length i (qf0 t.kids e l i)) (ql7 t l n)) t.kids (by omega)
     (λ E y=>by
      refine waB ?_;simp only[qiA,qbx];refine wax E (waz ?_);unfold ql7
      have:arT t=true:=by
       rw[o,d,w7,wv];intro b J;obtain⟨k,C,rfl⟩:=wy.1 J;rw[wC]at y;exact y k C
      rw[this,if_pos rfl,u])
     (λ i x w U E D N G y=>by
      refine waB ?_;simp only[qiA,qbx,ql];have B:=wa w;have Z:=jJ t x B;obtain⟨O,f2,f3,f4⟩:=qpV e q (t.kids.take i) l I;have X:=Qy w;have W:szL t.kids+1=size t:=by unfold szL;omega
      have V:szL (t.kids.take i)*e.natAbs+size x*e.natAbs<=size t*n.natAbs:=by
       rw[<- wN,F];exact wn _ (by omega)
      refine wav E (waw D (wat (K x B (qf0 t.kids e l i) e q O (by unfold qf0;omega) (by unfold qf0;omega)) (way (λ c=>?_) λ c=>?_)))
      ·rw[bnt]at c;have c:arT x=false:=c;refine waz ?_;unfold ql7
       have:arT t=false:=by
        rw[o,d,w7,<- kP,wv];intro v;have:=v (arT x) (kO B);rw[c]at this;cases this
       rw[this];rfl
      ·rw[bnf]at c;have c:arT x=true:=c
       have G:=G λ k f=>by
        rw[kw,w]at f;rcases ww.1 f with f | f
        ·exact y k f
        ·rw[show k=x from by simpa using f];exact c
       rw[N];refine G.congr λ m k=>?_;unfold ql7;rw[qzp w,c];rfl)
    refine waC (L := λ m k=>jr m (zr m) k e t.kids t.kids.length 0 l) ?_;exact(z 0 (we _)) (λ k d=>by rw[xF]at d;cases d)
   have p:arK t=false->Ev (λ _ _=>some ((),[],false,())) (ql7 t l n) := λ d=>by
    refine waz ?_;unfold ql7;rw[o,d];rfl
   have r:iw .i64 (zh 0 n)=-n:=by
    have s:n.natAbs<=size t*n.natAbs:=vz _ (size_pos t);unfold zh;rw[jF (by omega)];omega
   rcases j with a | a | a
   ·refine wax (by rw[a];rfl) (wax (by rw[a];rfl) (wav (by rw[a];rfl) (way (λ d=>?_) λ d=>?_)))
    ·rw[qs]at d;exact p (by unfold arK;rw[a,decide_eq_true (show t.kids.length<2 by omega)];rfl)
    ·rw[qn]at d;exact wax (by rw[a];rfl) (g n H rfl (by unfold qbs;rw[a];rfl) (by unfold arK;rw[a,decide_eq_false (show ¬ t.kids.length<2 by omega)];rfl))
   ·refine wax (by rw[a];rfl) (wav (by rw[a];rfl) (way (λ d=>?_) λ d=>?_))
    ·rw[bnt,qh]at d;exact p (by unfold arK;rw[a,show(t.kids.length != 1)=true from by rw[bne_iff_ne];omega];rfl)
    ·rw[bnf,qk]at d;rw[r];exact wax (by rw[a];rfl) (wav (by rw[a];rfl) (g (-n) (by omega) (by omega) (by unfold qbs;rw[if_pos a]) (by unfold arK;rw[a,show(t.kids.length != 1)=false from by rw[bne_eq_false_iff_eq];omega];rfl)))
   ·refine wav (by rw[a];rfl) (way (λ d=>?_) λ d=>?_)
    ·rw[bnt,qh]at d;exact p (by unfold arK;rw[a,show(t.kids.length != 0)=true from by rw[bne_iff_ne];omega];rfl)
    ·rw[bnf,qk]at d;exact wax (by rw[a];rfl) (wax (by rw[a];rfl) (wax (by rw[a];rfl) (g n H rfl (by unfold qbs;rw[a];rfl) (by unfold arK;rw[a,show(t.kids.length != 0)=false from by rw[bne_eq_false_iff_eq];omega];rfl))))
theorem qD2(t:T)(c:size t<=1000000000):Ev (λ m _=>qcd m t) (ofP t):=by
 refine waA ?_;simp only[qAz,qi8,ql];unfold ofP;refine wat (qdf t c) (way (λ h=>?_) λ h=>?_)
 ·rw[bnt,qh]at h;rw[if_pos h];exact wau _
 ·rw[bnf,qk]at h;have d:=QZ h;rw[if_neg (by omega)];refine wat (qGt t [] 1 (by decide) J6.nil (by show 0+_<=_;omega) (by show 0+size t*1<=_;omega)) (way (λ a=>?_) λ a=>?_)
  ·rw[bnt]at a;have a:arT t=false:=a;rw[if_pos a];exact wau _
  ·rw[bnf]at a;have a:arT t=true:=a;rw[if_neg (by rw[a];decide)];have e:(ql7 t [] 1).2.1=jC t [] 1:=by unfold ql7;rw[a];rfl
   rw[e];refine way (λ b=>?_) λ b=>?_
   ·rw[qs]at b;rw[if_pos (by omega)];exact wau _
   ·rw[qn]at b;rw[if_neg (by omega)];exact wau _
def qez(l:List Pw)(i:Nat):Option T:=if i=0 then none else(l[i-1]?).map (·.1)
theorem qkK{l:List Pw}{i:Nat}{p:Pw}(h:l[i]?=some p):qez l (i+1)=some p.1:=by
 unfold qez;rw[if_neg (by omega),xV,h];rfl
theorem qsl(l:List Pw)(E:szP l<=1000000000):Ev (λ m _=>qaZ m l) (JG l):=by
 have F:=qcU l;refine waA ?_;simp only[qu9,qcB];unfold JG;refine way (λ h=>?_) λ h=>?_
 ·rw[qs]at h;rw[if_pos (by omega)];exact wau _
 rw[qn]at h;rw[if_neg (by omega)]
 have s:=qr (P := λ i=>Ev (λ m k=>j7 m k l l l.length i) (pvL (qez l i) (l.drop i))) l (by omega)
  (λ z=>by
   refine waB ?_;simp only[qkB,qcM];refine wax z (waz ?_);rw[wT];rfl)
  (λ i x u D z C B A=>by
   refine waB ?_;simp only[qkB,qcM,ql];have H:=qfL (wa u);rw[qkK u]at A;rw[D,pvL];have c:=qDT (qez l i) x
   have b:∀ e:Int,pvK (qez l i) x=e->e≠0->Ev (λ _ _=>some e) (thn (pvK (qez l i) x) (pvL (some x.1) (l.drop (i+1)))) := λ e y r=>by
    rw[y];exact waz (by unfold thn;rw[if_neg r])
   have d:pvK (qez l i) x=0->Ev (λ m k=>j7 m k l l l.length ((i+1:Nat):Int)) (thn (pvK (qez l i) x) (pvL (some x.1) (l.drop (i+1)))) := λ y=>by
    rw[y];exact A.res (by unfold thn;rw[if_pos rfl])
   refine wav z (waw C (wat (qdf x.1 (by omega)) (way (λ p=>?_) λ p=>?_)))
   ·rw[bnt,qh]at p;exact b _ (by rw[c,if_pos p]) p
   rw[bnf,qk]at p;rw[if_neg (by omega)]at c;refine wat (qEX x.1) (way (λ o=>?_) λ o=>?_)
   ·exact b 1 (by rw[c,if_pos o]) (by decide)
   rw[if_neg (by rw[o];decide)]at c;refine way (λ t=>?_) λ t=>?_
   ·rw[qk]at t;exact b 7 (by rw[c,if_pos (by omega)]) (by decide)
   rw[qh]at t;refine way (λ n=>?_) λ n=>?_
   ·rw[qs]at n;exact b 7 (by rw[c,if_pos (by omega)]) (by decide)
   rw[qn]at n;refine way (λ g=>?_) λ g=>?_
   ·rw[qs]at g;exact b 7 (by rw[c,if_pos (by omega)]) (by decide)
   rw[qn]at g;rw[if_neg (by omega)]at c;rw[B];refine way (λ r=>?_) λ r=>?_
   ·rw[qs]at r;obtain⟨j,rfl⟩:∃ j,i=j+1:=⟨i-1,by omega⟩
    have w:j<l.length:=by have:=(List.getElem?_eq_some_iff.1 u).1;omega
    obtain⟨q,v⟩:∃ q,l[j]?=some q:=⟨_,List.getElem?_eq_getElem w⟩
    have G:=qfL (wa v);rw[qkK v]at c b d |-
    simp only at c;refine waw (a:=q) (by rw[show zh ((j+1:Nat):Int) 1=((j:Nat):Int)from by unfold zh;omega,jF (by omega),qU,v]) (wat (qd2 q.1 (by omega) x.1 (by omega)) (way (λ f=>?_) λ f=>?_))
    ·rw[jm]at f;exact b 5 (by rw[c,if_pos f]) (by decide)
    ·rw[yq]at f;exact d (by rw[c,if_neg (by omega)])
   ·rw[qn]at r;have:i=0:=by omega
    subst this;exact d (by rw[c];rfl))
 refine waC (L := λ m k=>j7 m k l l l.length 0) ?_;exact s 0 (we _)
end Go.AmZ
namespace Go.AmZ
open Go Go.GxZ
theorem zq{α : Type}{l:List α}{i:Nat}{x : α}(h:l[i]?=some x):l.take (i+1)=l.take i++[x]:=by rw[kw,h];rfl
theorem qtZ(a b:List Pw):yj (a++b)=yj a++yj b:=by unfold yj;rw[List.flatMap_append]
theorem qvd(a b:List Pw):yo (a++b)=yo a++yo b:=by unfold yo;rw[List.flatMap_append]
theorem quV(p:Pw):yj [p]=List.replicate p.2.toNat p.1:=by unfold yj;simp
theorem qu5(p:Pw):yo [p]=List.replicate (-p.2).toNat (apT JB [p.1]):=by unfold yo;simp
theorem qFn(n:Nat)(x:T):szL (List.replicate n x)=n*size x:=by
 induction n with
 | zero=>simp[szL]
 | succ n a=>rw[List.replicate_succ,qR,a,wN];omega
theorem qDK(t:T):size (apT JB [t])=1+size t:=by rw[qL];show 1+(size t+0)=_;omega
theorem qqh{P:Nat->Prop}(N:Int)(g:N<=1000000)(b:P N.toNat)(a:∀ j:Nat,(j:Int)<N->iw .i64 (qd (j:Int) 1)=((j+1:Nat):Int)->P (j+1)->P j):∀ j:Nat,j<=N.toNat->P j:=by
 intro j e;obtain⟨d,f⟩:∃ d,N.toNat=j+d:=⟨N.toNat-j,by omega⟩
 induction d generalizing j with
 | zero =>
   have:j=N.toNat:=by omega
   subst this;exact b
 | succ d c =>
   refine a j (by omega) ?_ (c (j+1) (by omega) (by omega));unfold qd;rw[jF (by omega)];omega
theorem qMB{l:List Pw}{p:Pw}(a:p∈l)(h:8<p.2):8<(yj l++yo l).length:=by
 have:(List.replicate p.2.toNat p.1).length<=(yj l).length:=wD (vV (kO (f := λ p:Pw=>List.replicate p.2.toNat p.1) a)).length_le (by unfold yj;rw[wab];exact wb _);rw[kI]at this;rw[wc];omega
theorem qNn{l:List Pw}{p:Pw}(a:p∈l)(h:p.2 < -8):8<(yj l++yo l).length:=by
 have:(List.replicate (-p.2).toNat (apT JB [p.1])).length<=(yo l).length:=wD (vV (kO (f := λ p:Pw=>List.replicate (-p.2).toNat (apT JB [p.1])) a)).length_le (by unfold yo;rw[wab];exact wb _);rw[kI]at this;rw[wc];omega
theorem qFm(o:List T):size (qae o)<=1+szL o:=by
 unfold qae;split
 ·rw[qL];show 1+0<=_;omega
 ·split
  ·rename_i _ a
   have:o.getD 0 zT∈o:=by
    cases o with
    | nil=>cases a
    | cons x r=>exact wh ..
   have:=qcT this;omega
  ·rw[qL];exact wb _
theorem qrh{l:List Pw}(a:∀ p∈l,size p.1<=400):∀(ks:List Pw),(∀ p∈ks,p∈l/\-8<=p.2/\p.2<=8)->(yj ks).length<=8*ks.length/\(yo ks).length<=8*ks.length/\szL (yj ks)<=3200*ks.length/\szL (yo ks)<=3208*ks.length
 | [],_=>⟨wb _,wb _,wb _,wb _⟩
 | p::ks,h=>by
   obtain⟨m,k,j,i⟩:=qrh a ks λ q b=>h q (wg _ b);obtain⟨d,o,n⟩:=h p (wh ..);have c:=a p d;have e1:yj (p::ks)=List.replicate p.2.toNat p.1++yj ks:=by rw[show p::ks=[p]++ks from rfl,qtZ,quV]
   have e:yo (p::ks)=List.replicate (-p.2).toNat (apT JB [p.1])++yo ks:=by rw[show p::ks=[p]++ks from rfl,qvd,qu5]
   have g:p.2.toNat*size p.1<=8*400:=vQ (by omega) c;have f:(-p.2).toNat*(1+size p.1)<=8*401:=vQ (by omega) (by omega);rw[e1,e,qiI,qiI,qFn,qFn,qDK];simp only[wc,kI,wu];refine⟨by omega,by omega,by omega,by omega⟩
def qnY(o:List T):T × Int:=if 8<o.length then(zT,3)else if qS (qae o)≠0 then(zT,qS (qae o))else(qae o,0)
theorem qrp{l:List Pw}(h:JG l=0):qbt l=qnY (yj l++yo l):=by
 unfold qbt qnY;rw[if_neg (by omega)]
theorem qDe(l:List Pw)(Q:szP l<=1000000000):Ev (λ m _=>Js m l) (qbt l):=by
 refine waA ?_;simp only[qv6,qdp];refine wat (qsl l Q) (way (λ h=>?_) λ h=>?_)
 ·rw[bnt,qh]at h;unfold qbt;rw[if_pos h];exact wau _
 rw[bnf,qk]at h;obtain⟨_,H,Y,X⟩:=qb8 h;have c:∀ p∈l,size p.1<=400 := λ p A=>QZ (X p A).1;rw[qrp h]
 have D:=qr (P := λ i=>(∀ p∈l.take i,p∈l/\-8<=p.2/\p.2<=8)->Ev (λ m k=>(qA m k).1 l l.length i 0 [] 0 [] (yj (l.take i)) (yo (l.take i))) (qnY (yj l++yo l))) l (by omega)
  (λ F t=>by
   refine waB ?_;simp only[qml,qdG,ql];rw[wC]at t |-
   obtain⟨b1,b2,b3,Z⟩:=qrh c l t;refine wax F (wat (qwU (yj l) (yo l) (by omega)) ?_);have ho:szL (yj l++yo l)<=10000000:=by rw[qiI];omega
   generalize yj l++yo l=o at *;have S:=jT o;have R:=qFm o;unfold qnY;refine way (λ b=>?_) λ b=>?_
   ·rw[qs]at b;rw[if_pos (by omega)];exact wau _
   rw[qn]at b;rw[if_neg (by omega)]
   have f:∀ u:T,u=qae o->Ev (λ m _=>qa (yG m u) λ v=>cond (qf (ieq v 0)) (some (T.mk 0 [] 0 [],v)) (some (u,0))) (if qS (qae o)≠0 then(zT,qS (qae o))else(qae o,0)):=by
    intro u N;subst N;refine wat (qdf _ (by omega)) (way (λ h=>?_) λ h=>?_)
    ·rw[bnt,qh]at h;rw[if_pos h];exact wau _
    ·rw[bnf,qk]at h;rw[if_neg (by omega)];exact wau _
   have y:∀(n:List UInt8) (x:List T),Ev (λ m _=>qeO m n x) (apT n x) := λ n x=>waA (wau _);refine wat (y [109,117,108] o) (way (λ G=>?_) λ G=>?_)
   ·rw[qk]at G;exact wat (y [111,110,101] []) (f _ (by unfold qae;rw[if_pos (by omega)];rfl))
   ·rw[qh]at G;refine way (λ C=>?_) λ C=>?_
    ·rw[qk]at C;refine waw (a:=o.getD 0 zT) ?_ (f _ (by unfold qae;rw[if_neg (by omega),if_pos (by omega)]));rw[qad,List.getD_eq_getElem?_getD];cases o with
     | nil=>simp at C
     | cons x r=>rfl
    ·rw[qh]at C;exact f _ (by unfold qae;rw[if_neg (by omega),if_neg (by omega)];rfl))
  (λ i p z hd F W V B t=>by
   refine waB ?_;simp only[qml,qdG];have s:=wa z;have hn:=Y p s;have hz:=c p s;have U:=(List.getElem?_eq_some_iff.1 z).1;refine wav F (waw W (way (λ b=>?_) λ b=>?_))
   ·rw[qs]at b;unfold qnY;rw[if_pos (qMB s b)];exact wau _
   rw[qn]at b;refine way (λ w=>?_) λ w=>?_
   ·rw[qs]at w;unfold qnY;rw[if_pos (qNn s w)];exact wau _
   rw[qn]at w;obtain⟨b1,b2,b3,Z⟩:=qrh c _ t;have O:(l.take i).length<=200:=by rw[wm];omega
   have B:=B λ q g=>by
    rw[zq z]at g;rcases ww.1 g with g | g
    ·exact t q g
    ·rw[show q=p from by simpa using g];exact⟨s,w,b⟩
   rw[zq z,qtZ,qvd,quV,qu5]at B;generalize yj (l.take i)=I at *;generalize yo (l.take i)=J at *
   have K:=qqh (P := λ j=>Ev (λ m k=>(qA m k).2.2 l l.length i (-p.2) j 0 [] 0 p.1.kind p.1.name p.1.sort p.1.kids p.2 [] (I++List.replicate p.2.toNat p.1) (J++List.replicate j (apT JB [p.1]))) (qnY (yj l++yo l))) (-p.2) (by omega)
    (by
     refine waB ?_;simp only[qlD,qdo];refine wax (qn.2 (by omega)) ?_;rw[V];exact B)
    (λ j E d e=>by
     refine waB ?_;simp only[qlD,qdo,ql];rw[show T.mk p.1.kind p.1.name p.1.sort p.1.kids=p.1 from ql p.1,d];refine wav (qs.2 E) (wat (qm2 p.1 (by omega)) (wat (a:=apT JB [p.1]) (waA (wau _)) (wav (qD (by rw[wc,kI];omega) (by omega)) ?_)));refine e.congr λ m k=>?_;rw[vg,wi])
   have M:=qqh (P := λ j=>Ev (λ m k=>(qA m k).2.1 l l.length i p.2 j 0 [] 0 p.1.kind p.1.name p.1.sort p.1.kids p.2 [] (I++List.replicate j p.1) J) (qnY (yj l++yo l))) p.2 (by omega)
    (by
     refine waB ?_;simp only[qmc,qdh];refine wax (qn.2 (by omega)) ?_;rw[show iw .i64 (zh 0 p.2)=-p.2 from by unfold zh;rw[jF (by omega)];omega];have:=K 0 (we _);rw[vm,wB]at this;exact this)
    (λ j E d e=>by
     refine waB ?_;simp only[qmc,qdh,ql];rw[show T.mk p.1.kind p.1.name p.1.sort p.1.kids=p.1 from ql p.1,d];refine wav (qs.2 E) (wat (qm2 p.1 (by omega)) (wav (qD (by rw[wc,kI];omega) (by omega)) ?_));refine e.congr λ m k=>?_;rw[vg,wi])
   have:=M 0 (we _);rw[vm,wB]at this;exact this)
 refine waC (L := λ m k=>(qA m k).1 l l.length 0 0 [] 0 [] [] []) ?_;exact(D 0 (we _)) (λ p A=>by rw[xF]at A;cases A)
theorem qNA(l:List Pw)(g:szP l<=100000000):Ev (λ m _=>qec m l) ((),l,()):=by
 have h:=qcU l;refine waA ?_;simp only[qtt,qca]
 have a:=qr (P := λ i=>Ev (λ m k=>Qk m k l l.length i (l.take i)) ((),l,())) l (by omega)
  (λ b=>by
   refine waB ?_;simp only[qjM,qbV];refine wax b ?_;rw[wC];exact wau _)
  (λ i p c j b e d f=>by
   refine waB ?_;simp only[qjM,qbV,ql];have o:=qfL (wa c);have n:(l.take i).length<=l.length:=by rw[wm];omega
   refine wav b (waw e (wat (qm2 p.1 (by omega)) (wav (qD (by omega) (by omega)) ?_)));rw[d];refine f.congr λ m k=>?_;rw[zq c])
 refine waC (L := λ m k=>Qk m k l l.length 0 []) ?_;exact a 0 (we _)
theorem qz5(p:Pw)(l:List Pw):qnX (p::l)=((decide (p.2 < -1000)||decide (1000<p.2))||qnX l):=rfl
theorem qNm(l:List Pw)(r:l.length<=1000000000):∃ v,Ev (λ m _=>zV m l) v/\ile 0 v=qnX l:=by
 have b:=qr (P := λ i=>∃ v,Ev (λ m k=>qC m k l l.length i) v/\ile 0 v=qnX (l.drop i)) l (by omega)
  (λ a=>by
   refine⟨-1,waB ?_,by rw[wT];rfl⟩;simp only[yy,q9];exact wax a (wau _))
  (λ i p q n a f j o=>by
   obtain⟨v,c,d⟩:=o;rw[n,qz5]
   have e:Ev (λ m _=>qcF m (p.1,p.2)) (decide (p.2 < -1000)||decide (1000<p.2)):=by
    refine waA ?_;simp only[qq3,qdL];refine way (λ h=>?_) λ h=>?_
    ·rw[qs]at h;exact waz (by rw[decide_eq_true h];rfl)
    ·rw[qn]at h;exact waz (by rw[decide_eq_false (show ¬ p.2 < -1000 by omega)];rfl)
   cases g:decide (p.2 < -1000)||decide (1000<p.2)with
   | true =>
     refine⟨i,waB ?_,by rw[xB,jm];omega⟩;simp only[yy,q9,ql];exact wav a (waw f (wat e (wav g (wau _))))
   | false =>
     refine⟨v,waB ?_,by rw[xT];exact d⟩;simp only[yy,q9,ql];refine wav a (waw f (wat e (wax g ?_)));rw[j];exact c)
 obtain⟨v,c,d⟩:=b 0 (we _);refine⟨v,waA ?_,by rw[d,wO]⟩;simp only[qbS,zG];exact waC (L := λ m k=>qC m k l l.length 0) c
def qqF(l:List Pw):List Pw × Int:=if qnX l then([],7)else if 200<l.length then([],3)else(l,0)
theorem qMQ(l:List Pw)(c:l.length<=1000000000):Ev (λ m _=>qed m l) (qqF l):=by
 obtain⟨v,b,d⟩:=qNm l c;refine waA ?_;simp only[qtj,qeS]
 have e:Ev (λ m _=>zD m l) (qnX l):=by
  refine waA ?_;simp only[qa7,yi];exact wat b (waz d)
 unfold qqF;refine wat e (way (λ h=>?_) λ h=>?_)
 ·rw[if_pos h];exact wau _
 ·rw[if_neg (by rw[h];decide)];refine way (λ a=>?_) λ a=>?_
  ·rw[qs]at a;rw[if_pos (by omega)];exact wau _
  ·rw[qn]at a;rw[if_neg (by omega)];exact wau _
theorem qIm(S:Nat):∀ l:List Pw,(∀ p∈l,size p.1<=S)->szP l<=l.length*S
 | [],_=>by simp[szP]
 | p::l,h=>by
   have c:=qIm S l λ q a=>h q (wg _ a);have b:=h p (wh ..);rw[qba,wu,wN];omega
theorem qwa(a b:List Pw):qmt a b=if JG a≠0 then([],JG a)else if JG b≠0 then([],JG b)else qqF (Q9 a b):=rfl
theorem qhR{a b:List Pw}(f:JG a=0)(e:JG b=0)(j:Nat) :
  J6 (Q9 a (b.take j))/\(Q9 a (b.take j)).length<=400/\szP (Q9 a (b.take j))<=160000/\Q5 (Q9 a (b.take j))<=400000:=by
 obtain⟨s,k,m,i⟩:=qb8 f;obtain⟨r,v,l,h⟩:=qb8 e;have d:∀ p∈b.take j,p∈b := λ p c=>wY c;obtain⟨A,g,z,q⟩:=qHG f e 400 (λ p c=>QZ (i p c).1) (λ p c=>QZ (h p c).1) j;have o:=qIm 400 _ q;obtain⟨y,_⟩:=quC (b.take j) a;have x:=qpd 1000 a m;have w:=qpd 1000 (b.take j) λ p c=>l p (d p c);have n:(b.take j).length<=200:=by rw[wm];omega
 refine⟨qrY _ _ s λ p c=>r.2 p (d p c),g,wD o (wn 400 g),?_⟩;have u:a.length*1000<=200*1000:=wn _ k;have t:(b.take j).length*1000<=200*1000:=wn _ n;omega
theorem qMP(a b:List Pw)(s:szP a<=100000000)(y:szP b<=100000000):Ev (λ m _=>qhw m a b) (qmt a b):=by
 have w:=qcU b;refine waA ?_;simp only[qx2,qel];rw[qwa];refine wat (qsl a (by omega)) (way (λ h=>?_) λ h=>?_)
 ·rw[bnt,qh]at h;rw[if_pos h];exact wau _
 rw[bnf,qk]at h;rw[if_neg (by omega)];refine wat (qsl b (by omega)) (way (λ c=>?_) λ c=>?_)
 ·rw[bnt,qh]at c;rw[if_pos c];exact wau _
 rw[bnf,qk]at c;rw[if_neg (by omega)];refine wat (qNA a s) ?_
 have d:=qr (P := λ i=>Ev (λ m k=>JU m k b b.length i (Q9 a (b.take i))) (qqF (Q9 a b))) b (by omega)
  (λ e=>by
   refine waB ?_;simp only[qnj,qeB];rw[wC];obtain⟨_,j,_,_⟩:=qhR h c b.length;rw[wC]at j;exact wax e (wat (qMQ _ (by omega)) (wau _)))
  (λ i p f x e r q t=>by
   refine waB ?_;simp only[qnj,qeB,ql];have g:=wa f;obtain⟨u,j,A,z⟩:=qhR h c i;obtain⟨_,_,o,l⟩:=qb8 c;have v:=QZ (l p g).1;have n:=o p g;refine wav e (waw r (wat (qw3 u.1 p.1 p.2 (by omega) (by omega) (by omega)) ?_));rw[q];refine t.congr λ m k=>?_;rw[zq f,qz2])
 refine waC (L := λ m k=>JU m k b b.length 0 a) ?_;exact d 0 (we _)
end Go.AmZ
namespace Go.AmZ
open Go Go.GxZ
theorem qB9(t:T):Ev (λ m _=>qbN m t) (qdv t):=by
 refine waA ?_;simp only[qvX,qgK];unfold qdv;by_cases a:t.kind=3
 ·refine wav (qk.2 a) (way (λ h=>?_) λ h=>(way (λ b=>?_) λ b=>?_))
  ·rw[yQ]at h;exact waz (by rw[a,h];rfl)
  ·rw[yQ]at b;exact waz (by rw[a,b];rfl)
  ·rw[jS]at h b
   exact waz (by
    have d:(t.name==qe8)=false:=by rw[beq_eq_false_iff_ne];exact h
    have c:(t.name==JB)=false:=by rw[beq_eq_false_iff_ne];exact b
    rw[a,d,c];rfl)
 ·exact wax (qh.2 a) (waz (by have:(t.kind==3)=false:=by rw[beq_eq_false_iff_ne];exact a
                              rw[this];rfl))
theorem qIA(t:T):size t<=1000000000->Ev (λ m _=>jn m t) (arT t):=by
 induction t using T.ind with
 | h t o =>
   intro v;have w:=yz t;refine waA ?_;simp only[qAu,qfv,ql];refine wat (qB9 t) (way (λ h=>?_) λ h=>?_)
   ·rw[bnt]at h;exact waz (by rw[qwp,h];rfl)
   rw[bnf]at h;obtain⟨y,d⟩:=qtc.1 h;have g:arT t=(arK t&&(t.kids.map arT).all id):=by rw[qwp,h];rfl
   have c:arK t=true->Ev (λ m _=>Jt m (jn m) m t.kids.length 0 t.kind t.name t.sort t.kids) (arT t):=by
    intro b;rw[g,b,w7]
    have j:=qr (P := λ i=>Ev (λ m k=>Jt m (jn m) k t.kids.length i t.kind t.name t.sort t.kids) (((t.kids.drop i).map arT).all id)) t.kids (by omega)
     (λ l=>by
      refine waB ?_;simp only[qoF,qfj];refine wax l (waz ?_);rw[wT];rfl)
     (λ i x p s l r q u=>by
      refine waB ?_;simp only[qoF,qfj,ql];have n:=wa p;have z:=jJ t x n;rw[s,wo,kC];refine wav l (waw r (wat (o x n (by omega)) (way (λ f=>?_) λ f=>?_)))
      ·rw[bnt]at f;rw[f];exact wau _
      ·rw[bnf]at f;rw[f,q];exact u)
    refine waC (L := λ m k=>Jt m (jn m) k t.kids.length 0 t.kind t.name t.sort t.kids) ?_;exact(j 0 (we _)).res (by rw[wO])
   have e:arK t=false->Ev (λ _ _=>some false) (arT t) := λ b=>waz (by rw[g,b];rfl);rcases d with a | a | a
   ·refine wav (by rw[a];rfl) (way (λ b=>?_) λ b=>?_)
    ·rw[qs]at b;exact e (by unfold arK;rw[a,decide_eq_true (show t.kids.length<2 by omega)];rfl)
    ·rw[qn]at b;exact wax (by rw[a];rfl) (wax (by rw[a];rfl) (c (by unfold arK;rw[a,decide_eq_false (show ¬ t.kids.length<2 by omega)];rfl)))
   ·refine wax (by rw[a];rfl) (wav (by rw[a];rfl) (way (λ b=>?_) λ b=>?_))
    ·rw[bnt,qh]at b;exact e (by unfold arK;rw[a,show(t.kids.length != 1)=true from by rw[bne_iff_ne];omega];rfl)
    ·rw[bnf,qk]at b;exact wax (by rw[a];rfl) (c (by unfold arK;rw[a,show(t.kids.length != 1)=false from by rw[bne_eq_false_iff_eq];omega];rfl))
   ·refine wax (by rw[a];rfl) (wax (by rw[a];rfl) (wav (by rw[a];rfl) (way (λ b=>?_) λ b=>?_)))
    ·rw[bnt,qh]at b;exact e (by unfold arK;rw[a,show(t.kids.length != 0)=true from by rw[bne_iff_ne];omega];rfl)
    ·rw[bnf,qk]at b;exact c (by unfold arK;rw[a,show(t.kids.length != 0)=false from by rw[bne_eq_false_iff_eq];omega];rfl)
theorem qy2(t:T)(n:Int):∀(l:List Pw) (s:List Pw × Bool),(l.foldl (yX t n) s).1.length<=s.1.length+2*l.length
 | [],s=>by simp
 | x::l,s=>by
   have h:=qy2 t n l (yX t n s x)
   have:(yX t n s x).1.length<=s.1.length+2:=by
    unfold yX;simp only[wc];have a:(if s.2=false/\qu t x.1<0 then s.1++[(t,n)]else s.1).length<=s.1.length+1:=by split<;>simp
    have b:(if(if qu t x.1=0 then x.2+n else x.2)=0 then([]:List Pw)else[(x.1,if qu t x.1=0 then x.2+n else x.2)]).length<=1:=by generalize (if qu t x.1=0 then x.2+n else x.2)=z;split<;>simp
    omega
   rw[kg,wu];omega
theorem qF0{l:List Pw}(y:J6 l)(t:T)(n:Int)(E:szP l+size t<=1000000000)(F:Q5 l+n.natAbs<=1000000000000):Ev (λ m _=>qjA m l t n) ((),yF l t n,()):=by
 have G:=qcU l;refine waA ?_;simp only[qEt,qie]
 have j:∀ i,((l.take i).foldl (yX t n) ([],false)).1.length<=2*l.length := λ i=>by
  have:=qy2 t n (l.take i) ([],false);have D:(l.take i).length<=l.length:=by rw[wm];omega
  simp only[ke]at this;omega
 have w:=qr (P := λ i=>Ev (λ m k=>J1 m k n ((l.take i).foldl (yX t n) ([],false)).2 i t.kind t.name t.sort t.kids l ((l.take i).foldl (yX t n) ([],false)).1) ((),yF l t n,())) l (by omega)
  (λ z=>by
   refine waB ?_;simp only[qsv,qh1];refine wax z ?_;have:=j l.length;have u:=qLm y.2 y.1 t n;rw[wC]at this |-
   unfold qHk at u;refine way (λ h=>?_) λ h=>?_
   ·rw[bnt]at h;rw[if_neg (by rw[h];decide)]at u;rw[show T.mk t.kind t.name t.sort t.kids=t from ql t,u];exact wav (qD (by omega) (by omega)) (wau _)
   ·rw[bnf]at h;rw[if_pos h]at u;rw[u];exact wau _)
  (λ i p A H z f B v=>by
   refine waB ?_;simp only[qsv,qh1,ql];have x:=wa A;have J:=qfL x;have D:=j i;have I:=qCt l p x;have d:=y.2 p x;rw[zq A,xe]at v;generalize (l.take i).foldl (yX t n) ([],false)=s at *
   have r:∀(b:Bool) (o:List Pw),yX t n s p=(o,b)->Ev (λ m k=>J1 m k n b ((i+1:Nat):Int) t.kind t.name t.sort t.kids l o) ((),yF l t n,()) := λ b o e=>by
    have v:Ev (λ m k=>J1 m k n (yX t n s p).2 ((i+1:Nat):Int) t.kind t.name t.sort t.kids l (yX t n s p).1) ((),yF l t n,()):=v;rw[e]at v;exact v
   have e1:iw .i64 (qd p.2 n)=p.2+n:=by unfold qd;exact jF (by omega)
   rw[show T.mk t.kind t.name t.sort t.kids=t from ql t,B];have q:qf (ieq p.2 0)=true:=bnt.2 (qh.2 d);refine wav z (waw f (wat (qju t (by omega) p.1 (by omega)) (way (λ h=>?_) λ h=>?_)))
   ·rw[bnt]at h;refine way (λ g=>?_) λ g=>?_
    ·rw[qs]at g;refine wav (qD (by omega) (by omega)) (waw f (wax (qh.2 (by omega)) (wav q (wav (qD (by rw[wc];simp only[wu,ke];omega) (by omega)) (r _ _ ?_)))));unfold yX;rw[if_pos ⟨h,g⟩,if_neg (show ¬ qu t p.1=0 by omega),if_neg d,decide_eq_true (show qu t p.1<=0 by omega),xA]
    ·rw[qn]at g;refine waw f (way (λ a=>?_) λ a=>?_)
     ·rw[qk]at a;refine way (λ c=>?_) λ c=>?_
      ·rw[bnt,qh,e1]at c;refine wav (qD (by omega) (by omega)) (r _ _ ?_);rw[e1];unfold yX;rw[if_neg (by omega),if_pos a,if_neg c,decide_eq_true (show qu t p.1<=0 by omega),xA]
      ·rw[bnf,qk,e1]at c;refine r _ _ ?_;unfold yX;rw[if_neg (by omega),if_pos a,if_pos c,decide_eq_true (show qu t p.1<=0 by omega),xA,wB]
     ·rw[qh]at a;refine wav q (wav (qD (by omega) (by omega)) (r _ _ ?_));unfold yX;rw[if_neg (by omega),if_neg a,if_neg d,decide_eq_false (show ¬ qu t p.1<=0 by omega),Bool.or_false]
   ·rw[bnf]at h;refine waw f (way (λ a=>?_) λ a=>?_)
    ·rw[qk]at a;refine way (λ c=>?_) λ c=>?_
     ·rw[bnt,qh,e1]at c;refine wav (qD (by omega) (by omega)) (r _ _ ?_);rw[e1];unfold yX;rw[if_neg (by omega),if_pos a,if_neg c,decide_eq_true (show qu t p.1<=0 by omega),xA]
     ·rw[bnf,qk,e1]at c;refine r _ _ ?_;unfold yX;rw[if_neg (by omega),if_pos a,if_pos c,decide_eq_true (show qu t p.1<=0 by omega),xA,wB]
    ·rw[qh]at a;refine wav q (wav (qD (by omega) (by omega)) (r _ _ ?_));unfold yX;rw[if_neg (by rw[h];intro C;cases C.1),if_neg a,if_neg d,h,xB])
 refine waC (L := λ m k=>J1 m k n false 0 t.kind t.name t.sort t.kids l []) ?_;exact w 0 (we _)
theorem qEq(t:T):∀(l:List Pw) (n:Int),n≠0->J6 l->szP l+size t<=80000000->Q5 l+size t*n.natAbs<=100000000000->Ev (λ m _=>yk m l t n) ((),jC t l n,()):=by
 induction t using T.ind with
 | h t y =>
   intro l n z w E H;have F:=yz t;have D:=qL t;refine waA ?_;simp only[qw8,qds,ql];have u:n.natAbs<=size t*n.natAbs:=vz _ (size_pos t);refine wat (qB9 t) (way (λ h=>?_) λ h=>?_)
   ·rw[bnt]at h;refine wat (qF0 w t n (by omega) (by omega)) (waz ?_);rw[qg3,h];rfl
   rw[bnf]at h;obtain⟨M,p⟩:=qtc.1 h
   have b:∀ a:Int,a≠0->a.natAbs=n.natAbs->qbs t n=a->Ev (λ m _=>Qn m (yk m) m a 0 t.kind t.name t.sort t.kids l) ((),jC t l n,()):=by
    intro a c s o;have f:jC t l n=qf0 t.kids a l t.kids.length:=by rw[qg3,h,if_pos rfl,o];unfold qf0;rw[wC]
    rw[f]
    have g:=qr (P := λ i=>Ev (λ m k=>Qn m (yk m) k a i t.kind t.name t.sort t.kids (qf0 t.kids a l i)) ((),qf0 t.kids a l t.kids.length,())) t.kids (by omega)
     (λ r=>by
      refine waB ?_;simp only[ql9,qdl];exact wax r (wau _))
     (λ i x j G r q A B=>by
      refine waB ?_;simp only[ql9,qdl,ql];have v:=wa j;have N:=jJ t x v;obtain⟨C,R,Q,O⟩:=qpV a c (t.kids.take i) l w;have K:=Qy j;have J:szL t.kids+1=size t:=by unfold szL;omega
      have I:szL (t.kids.take i)*a.natAbs+size x*a.natAbs<=size t*n.natAbs:=by
       rw[<- wN,s];exact wn _ (by omega)
      refine wav r (waw q (wat (y x v (qf0 t.kids a l i) a c C (by unfold qf0;omega) (by unfold qf0;omega)) ?_));rw[A];refine B.congr λ m k=>?_;rw[qzp j])
    refine waC (L := λ m k=>Qn m (yk m) k a 0 t.kind t.name t.sort t.kids l) ?_;exact g 0 (we _)
   have d:iw .i64 (zh 0 n)=-n:=by
    unfold zh;rw[jF (by omega)];omega
   refine way (λ e=>?_) λ e=>?_
   ·rw[yQ]at e;rw[d];exact b (-n) (by omega) (by omega) (by unfold qbs;rw[if_pos (show t.name=JB from e)])
   ·rw[jS]at e;exact b n z rfl (by unfold qbs;rw[if_neg (show ¬ t.name=JB from e)])
theorem qCb(t:T)(c:size t<=1000000000):Ev (λ m _=>qiJ m t) (ofP t):=by
 refine waA ?_;simp only[qGh,qn5,ql];unfold ofP;refine wat (qde t c) (way (λ h=>?_) λ h=>?_)
 ·rw[bnt,qh]at h;rw[if_pos h];exact wau _
 ·rw[bnf,qk]at h;have d:=QZ h;rw[if_neg (by omega)];refine wat (qIA t c) (way (λ b=>?_) λ b=>?_)
  ·rw[bnt]at b;rw[if_pos b];exact wau _
  ·rw[bnf]at b;rw[if_neg (by rw[b];decide)];refine wat (qEq t [] 1 (by decide) J6.nil (by show 0+_<=_;omega) (by show 0+size t*1<=_;omega)) (way (λ a=>?_) λ a=>?_)
   ·rw[qs]at a;have a:(200:Int)<((jC t [] 1).length:Int):=a;rw[if_pos (by omega)];exact wau _
   ·rw[qn]at a;have a:((jC t [] 1).length:Int)<=200:=a;rw[if_neg (by omega)];exact wau _
theorem quU(l:List Pw)(E:szP l<=1000000000):Ev (λ m _=>qd0 m l) (JG l):=by
 have F:=qcU l;refine waA ?_;simp only[qAQ,qfH];unfold JG;refine way (λ h=>?_) λ h=>?_
 ·rw[qs]at h;rw[if_pos (by omega)];exact wau _
 rw[qn]at h;rw[if_neg (by omega)]
 have t:=qr (P := λ i=>Ev (λ m k=>Jv m k l i) (pvL (qez l i) (l.drop i))) l (by omega)
  (λ A=>by
   refine waB ?_;simp only[qoI,qfF];refine wax A (waz ?_);rw[wT];rfl)
  (λ i x v D A p C B=>by
   refine waB ?_;simp only[qoI,qfF,ql];have H:=qfL (wa v);rw[qkK v]at B;rw[D,pvL];have c:=qDT (qez l i) x
   have b:∀ e:Int,pvK (qez l i) x=e->e≠0->Ev (λ _ _=>some e) (thn (pvK (qez l i) x) (pvL (some x.1) (l.drop (i+1)))) := λ e z s=>by
    rw[z];exact waz (by unfold thn;rw[if_neg s])
   have d:pvK (qez l i) x=0->Ev (λ m k=>Jv m k l ((i+1:Nat):Int)) (thn (pvK (qez l i) x) (pvL (some x.1) (l.drop (i+1)))) := λ z=>by
    rw[z];exact B.res (by unfold thn;rw[if_pos rfl])
   refine wav A (waw p (wat (qde x.1 (by omega)) (way (λ r=>?_) λ r=>?_)))
   ·rw[bnt,qh]at r;exact b _ (by rw[c,if_pos r]) r
   rw[bnf,qk]at r;rw[if_neg (by omega)]at c;refine waw p (wat (qB9 x.1) (way (λ o=>?_) λ o=>?_))
   ·exact b 1 (by rw[c,if_pos o]) (by decide)
   rw[if_neg (by rw[o];decide)]at c;refine waw p (way (λ u=>?_) λ u=>?_)
   ·rw[qk]at u;exact b 7 (by rw[c,if_pos (by omega)]) (by decide)
   rw[qh]at u;refine waw p (way (λ n=>?_) λ n=>?_)
   ·rw[qs]at n;exact b 7 (by rw[c,if_pos (by omega)]) (by decide)
   rw[qn]at n;refine waw p (way (λ g=>?_) λ g=>?_)
   ·rw[qs]at g;exact b 7 (by rw[c,if_pos (by omega)]) (by decide)
   rw[qn]at g;rw[if_neg (by omega)]at c;rw[C];refine way (λ s=>?_) λ s=>?_
   ·rw[qs]at s;obtain⟨j,rfl⟩:∃ j,i=j+1:=⟨i-1,by omega⟩
    have y:j<l.length:=by have:=(List.getElem?_eq_some_iff.1 v).1;omega
    obtain⟨q,w⟩:∃ q,l[j]?=some q:=⟨_,List.getElem?_eq_getElem y⟩
    have G:=qfL (wa w);rw[qkK w]at c b d |-
    simp only at c;refine waw (a:=q) (by rw[show zh ((j+1:Nat):Int) 1=((j:Nat):Int)from by unfold zh;omega,jF (by omega),qU,w]) (waw p (wat (qju q.1 (by omega) x.1 (by omega)) (way (λ f=>?_) λ f=>?_)))
    ·rw[jm]at f;exact b 5 (by rw[c,if_pos f]) (by decide)
    ·rw[yq]at f;exact d (by rw[c,if_neg (by omega)])
   ·rw[qn]at s;have:i=0:=by omega
    subst this;exact d (by rw[c];rfl))
 refine waC (L := λ m k=>Jv m k l 0) ?_;exact t 0 (we _)
end Go.AmZ
namespace Go.AmZ
open Go Go.GxZ
theorem qwm(A:List T)(x:T)(h:(A.take 9).length<9):A.take 9++[x]=(A++[x]).take 9:=by
 rw[wm]at h;rw[kE (by omega),kE (by rw[wc];simp only[wu,ke];omega)]
theorem qv5(A B:List T)(h:¬ (A.take 9).length<9):A.take 9=(A++B).take 9:=by
 rw[wm]at h;rw[kH (by omega)]
theorem qL5(l:List Pw)(C:l.length<=1000)(u:∀ p∈l,p.2.natAbs<=1000):Ev (λ m _=>qft m l) ((yj l++yo l).take 9):=by
 refine waA ?_;simp only[qu6,qcI];have t:∀ A:List T,(A.take 9).length<=9 := λ A=>by rw[wm];omega
 have w:=qr (P := λ i=>Ev (λ m k=>(qm m k).2.2.1 l i ((yj l++yo (l.take i)).take 9)) ((yj l++yo l).take 9)) l (by omega)
  (λ g=>by
   refine waB ?_;simp only[qkz,qcy];refine wax g ?_;rw[wC];exact wau _)
  (λ i p o z g e q n=>by
   refine waB ?_;simp only[qkz,qcy];refine wav g ?_;have r:=u p (wa o);rw[zq o,qvd,qu5,<- wi]at n;generalize yj l++yo (l.take i)=A at *;have b:iw .i64 (zh 0 p.2)=-p.2:=by unfold zh;rw[jF (by omega)];omega
   have v:=qqh (P := λ j=>Ev (λ m k=>(qm m k).2.2.2 l i j ((A++List.replicate j (apT JB [p.1])).take 9)) ((yj l++yo l).take 9)) (-p.2) (by omega)
    (by
     refine waB ?_;simp only[qkt,qcC,ql];refine waw e (wax (by rw[b,qn];omega) ?_);rw[q];exact n)
    (λ j s c a=>by
     refine waB ?_;simp only[qkt,qcC,ql];rw[vg,<- wi]at a;have B:=t (A++List.replicate j (apT JB [p.1]));refine waw e (wav (by rw[b,qs];exact s) (way (λ h=>?_) λ h=>?_))
     ·rw[qs]at h;refine waw e (wat (qfu [105,110,118] [p.1] (by simp)) (wav (qD (by omega) (by omega)) ?_));rw[c];refine a.congr λ m k=>?_;rw[<- qwm _ _ (by omega)];rfl
     ·rw[qn]at h;rw[q];refine n.congr λ m k=>?_;obtain⟨d,f⟩:∃ d,(-p.2).toNat=j+d:=⟨(-p.2).toNat-j,by omega⟩
      rw[f,<- vJ,<- wi,<- qv5 (A++List.replicate j (apT JB [p.1])) _ (by omega)])
   have:=v 0 (we _);rw[vm,wB]at this;exact this)
 have y:=qr (P := λ i=>Ev (λ m k=>(qm m k).1 l i ((yj (l.take i)).take 9)) ((yj l++yo l).take 9)) l (by omega)
  (λ g=>by
   refine waB ?_;simp only[qku,qcD];refine wax g ?_;rw[wC];have:=w 0 (we _);rw[xF,show yo []=[]from rfl,wB]at this;exact this)
  (λ i p o z g e q n=>by
   refine waB ?_;simp only[qku,qcD];refine wav g ?_;have r:=u p (wa o);rw[zq o,qtZ,quV]at n;generalize yj (l.take i)=A at *
   have x:=qqh (P := λ j=>Ev (λ m k=>(qm m k).2.1 l i j ((A++List.replicate j p.1).take 9)) ((yj l++yo l).take 9)) p.2 (by omega)
    (by
     refine waB ?_;simp only[qky,qcG,ql];refine waw e (wax (by rw[qn];omega) ?_);rw[q];exact n)
    (λ j s c a=>by
     refine waB ?_;simp only[qky,qcG,ql];rw[vg,<- wi]at a;have B:=t (A++List.replicate j p.1);refine waw e (wav (by rw[qs];exact s) (way (λ h=>?_) λ h=>?_))
     ·rw[qs]at h;refine waw e (wav (qD (by omega) (by omega)) ?_);rw[c];refine a.congr λ m k=>?_;rw[<- qwm _ _ (by omega)]
     ·rw[qn]at h;rw[q];refine n.congr λ m k=>?_;obtain⟨d,f⟩:∃ d,p.2.toNat=j+d:=⟨p.2.toNat-j,by omega⟩
      rw[f,<- vJ,<- wi,<- qv5 (A++List.replicate j p.1) _ (by omega)])
   have:=x 0 (we _);rw[vm,wB]at this;exact this)
 refine waC (L := λ m k=>(qm m k).1 l 0 []) ?_;exact y 0 (we _)
theorem qMZ(S:Nat):∀ l:List Pw,(∀ p∈l,size p.1<=S)->(∀ x∈yj l,size x<=S)/\∀ x∈yo l,size x<=1+S:=by
 intro l h;refine⟨λ x a=>?_,λ x a=>?_⟩
 ·unfold yj at a;obtain⟨p,b,a⟩:=ka.1 a;rw[xj a];exact h p b
 ·unfold yo at a;obtain⟨p,b,a⟩:=ka.1 a;rw[xj a,qDK];have:=h p b;omega
theorem qIG(S:Nat):∀ l:List T,(∀ x∈l,size x<=S)->szL l<=l.length*S
 | [],_=>by simp[szL]
 | x::l,h=>by
   have c:=qIG S l λ q a=>h q (wg _ a);have b:=h x (wh ..);rw[qR,wu,wN];omega
theorem qC6(l:List Pw)(q:szP l<=1000000000):Ev (λ m _=>qdE m l) (qbt l):=by
 refine waA ?_;simp only[qDi,qj0,ql];refine wat (quU l q) (way (λ h=>?_) λ h=>?_)
 ·rw[bnt,qh]at h;unfold qbt;rw[if_pos h];exact wau _
 rw[bnf,qk]at h;obtain⟨_,j,y,w⟩:=qb8 h;have f:∀ p∈l,size p.1<=400 := λ p s=>QZ (w p s).1;rw[qrp h];obtain⟨n,k⟩:=qMZ 400 l f
 have d:∀ x∈yj l++yo l,size x<=401 := λ x c=>by
  rcases ww.1 c with c | c
  ·have:=n x c;omega
  ·exact k x c
 refine wat (qL5 l (by omega) y) ?_;generalize yj l++yo l=A at *;unfold qnY;refine way (λ g=>?_) λ g=>?_
 ·rw[qs,wm]at g;rw[if_pos (by omega)];exact wau _
 rw[qn,wm]at g;rw[if_neg (by omega),kE (by omega)];have z:=qIG 401 A d;have t:=qFm A;have B:A.length*401<=8*401:=wn _ (by omega)
 have b:∀ u:T,u=qae A->Ev (λ m _=>qa (jo m u) λ v=>cond (qf (ieq v 0)) (some (T.mk 0 [] 0 [],v)) (some (u,0))) (if qS (qae A)≠0 then(zT,qS (qae A))else(qae A,0)):=by
  intro u o;subst o;refine wat (qde _ (by omega)) (way (λ h=>?_) λ h=>?_)
  ·rw[bnt,qh]at h;rw[if_pos h];exact wau _
  ·rw[bnf,qk]at h;rw[if_neg (by omega)];exact wau _
 refine wat (qfu [109,117,108] A (by omega)) (way (λ i=>?_) λ i=>?_)
 ·rw[qk]at i;refine wat (qfu [111,110,101] [] (by simp)) (wax (qh.2 (by omega)) (b _ (by unfold qae;rw[if_pos (by omega)];rfl)))
 ·rw[qh]at i;refine way (λ e=>?_) λ e=>?_
  ·rw[qk]at e;refine waw (a:=A.getD 0 zT) ?_ (b _ (by unfold qae;rw[if_neg (by omega),if_pos (by omega)]));rw[qad,List.getD_eq_getElem?_getD];cases A with
   | nil=>simp at e
   | cons x r=>rfl
  ·rw[qh]at e;exact b _ (by unfold qae;rw[if_neg (by omega),if_neg (by omega)];rfl)
theorem qJc(l:List Pw)(n:l.length<=1000000000):Ev (λ m _=>qgd m l) (if qnX l then 7 else if 200<l.length then 3 else 0):=by
 refine waA ?_;simp only[qwN,qdr]
 have b:=qr (P := λ i=>Ev (λ m k=>Jh m k l i) (if qnX (l.drop i)then(7:Int)else if 200<l.length then 3 else 0)) l (by omega)
  (λ c=>by
   refine waB ?_;simp only[qlH,qdJ];rw[wT,if_neg (by decide)];refine wax c (way (λ h=>?_) λ h=>?_)
   ·rw[qs]at h;rw[if_pos (by omega)];exact wau _
   ·rw[qn]at h;rw[if_neg (by omega)];exact wau _)
  (λ i p j f c d e g=>by
   refine waB ?_;simp only[qlH,qdJ];rw[f,qz5];refine wav c (waw d (way (λ h=>?_) λ h=>?_))
   ·rw[qs]at h;rw[decide_eq_true h,xB,xB,if_pos rfl];exact wau _
   ·rw[qn]at h;rw[decide_eq_false (show ¬ p.2 < -1000 by omega),xT];refine waw d (way (λ a=>?_) λ a=>?_)
    ·rw[qs]at a;rw[decide_eq_true a,xB,if_pos rfl];exact wau _
    ·rw[qn]at a;rw[decide_eq_false (show ¬ 1000<p.2 by omega),xT,e];exact g)
 refine waC (L := λ m k=>Jh m k l 0) ?_;exact(b 0 (we _)).res (by rw[wO])
theorem qNb(a b:List Pw)(E:szP a<=100000000)(D:szP b<=100000000):Ev (λ m _=>qm3 m a b) (qmt a b):=by
 have B:=qcU b;have v:=qcU a;refine waA ?_;simp only[qEh,qiq];rw[qwa];refine wat (quU a (by omega)) (way (λ h=>?_) λ h=>?_)
 ·rw[bnt,qh]at h;rw[if_pos h];exact wau _
 rw[bnf,qk]at h;rw[if_neg (by omega)];refine wat (quU b (by omega)) (way (λ e=>?_) λ e=>?_)
 ·rw[bnt,qh]at e;rw[if_pos e];exact wau _
 rw[bnf,qk]at e;rw[if_neg (by omega)]
 have g:=qr (P := λ i=>Ev (λ m k=>qaY m k b i (Q9 a (b.take i))) (qqF (Q9 a b))) b (by omega)
  (λ j=>by
   refine waB ?_;simp only[qsn,qin];rw[wC];obtain⟨_,q,_,_⟩:=qhR h e b.length;rw[wC]at q;refine wax j (wat (qJc _ (by omega)) ?_);unfold qqF;by_cases f:qnX (Q9 a b)=true
   ·rw[if_pos f,if_pos f];exact wav rfl (wau _)
   ·rw[if_neg f,if_neg f];by_cases d:200<(Q9 a b).length
    ·rw[if_pos d,if_pos d];exact wav rfl (wau _)
    ·rw[if_neg d,if_neg d];exact wax rfl (wau _))
  (λ i p l C j o w y=>by
   refine waB ?_;simp only[qsn,qin,ql];have n:=wa l;obtain⟨z,q,G,F⟩:=qhR h e i;obtain⟨_,_,u,s⟩:=qb8 e;have A:=QZ (s p n).1;have t:=u p n;refine wav j (waw o (waw o (wat (qF0 z p.1 p.2 (by omega) (by omega)) ?_)));rw[w];refine y.congr λ m k=>?_;rw[zq l,qz2])
 refine wav (qD (by simp only[ke];omega) (by omega)) ?_;have c:Ev (λ m _=>qaY m m b 0 a) (qqF (Q9 a b)):=waC (L := λ m k=>qaY m k b 0 a) (g 0 (we _));exact Ev.case (λ h=>by rw[h]at c |-;exact c) λ x r h=>by rw[h]at c |-;exact c
end Go.AmZ
namespace Go.AmZ
open Go Go.GxZ Go.Lib
theorem qrU{t:T}(h:qcj t=0):qS t=0/\zl t=0:=by
 unfold qcj at h;exact qgG h
theorem qpy{t:T}(h:zl t=0){n:List UInt8}(i:isN t n=true){a b c:Int}(g:qH n=(a,b,c)):a<=(t.kids.length:Int)/\(t.kids.length:Int)<=b/\∀ k∈t.kids,zl k=0:=by
 obtain⟨d,rfl⟩:=yO.1 i;obtain⟨l,j⟩:=qdc d h;obtain⟨_,f,e,_⟩:=quM d l;rw[g]at f e;exact⟨f,e,j⟩
end Go.AmZ
namespace Go.AmZ
open Go Go.GxZ
def Cl(P:T->Prop):Prop:=∀ t:T,t.kind=3->P t->∀ k∈t.kids,P k
theorem qm7:∀(n:Nat) (a b:List T),a.length+b.length<=n->∀ x∈zm a b,x∈a\/x∈b
 | _,[],b,_,x,h=>by rw[zm]at h;exact .inr h
 | _,z::a,[],_,x,h=>by rw[zm]at h;exact .inl h
 | 0,z::a,y::b,c,x,h=>by simp at c
 | n+1,z::a,y::b,c,x,h=>by
   simp only[wu]at c;rw[zm]at h;split at h
   ·rcases wx.1 h with rfl | h
    ·exact .inl (wh ..)
    ·rcases qm7 n a (y::b) (by simp;omega) x h with h | h
     ·exact .inl (wg _ h)
     ·exact .inr h
   ·split at h
    ·rcases wx.1 h with rfl | h
     ·exact .inr (wh ..)
     ·rcases qm7 n (z::a) b (by simp;omega) x h with h | h
      ·exact .inl h
      ·exact .inr (wg _ h)
    ·rcases qm7 n a b (by omega) x h with h | h
     ·exact .inl (wg _ h)
     ·exact .inr (wg _ h)
theorem qmr:∀(b:List (List T)) (a:List T),∀ x∈b.foldl zm a,x∈a\/∃ l∈b,x∈l
 | [],a,x,h => .inl h
 | l::b,a,x,h=>by
   rcases qmr b (zm a l) x h with h | ⟨m,c,h⟩
   ·rcases qm7 _ a l (wb _) x h with h | h
    ·exact .inl h
    ·exact .inr ⟨l,wh ..,h⟩
   ·exact .inr ⟨m,wg _ c,h⟩
theorem qLi{P:T->Prop}(g:Cl P)(t:T):P t->∀ x∈Qd t,P x:=by
 refine T.ind (P := λ t=>P t->∀ x∈Qd t,P x) ?_ t;intro t d b x a;rw[qlT]at a;split at a
 ·cases a
 ·split at a
  ·rename_i e;rcases qmr _ _ x a with h | ⟨l,f,h⟩
   ·cases h
   ·obtain⟨k,c,rfl⟩:=wy.1 f;exact d k c (g t (yO.1 e).1 b k c) x h
  ·rw[wH.1 a];exact b
theorem qzm{P:T->Prop}(e:Cl P){l:List T}(h:∀ k∈l,P k):∀ x∈zX l,P x:=by
 intro x b;rcases qmr _ _ x b with a | ⟨m,c,a⟩
 ·cases a
 ·obtain⟨k,d,rfl⟩:=wy.1 c;exact qLi e k (h k d) x a
theorem qMR{P:T->Prop}{l:List Pw}{t:T}(n:Int)(a:P t)(c:∀ p∈l,P p.1):∀ p∈yF l t n,P p.1:=by
 intro p b;rcases qpS l t n p b with h | h
 ·rw[h];exact a
 ·exact c p h
theorem qNL{P:T->Prop}(f:Cl P)(t:T):P t->∀(l:List Pw) (n:Int),(∀ p∈l,P p.1)->∀ p∈jC t l n,P p.1:=by
 refine T.ind (P := λ t=>P t->∀(l:List Pw) (n:Int),(∀ p∈l,P p.1)->∀ p∈jC t l n,P p.1) ?_ t;intro t d b l n a;rw[qg3];split
 ·rename_i e;have g:=(qtc.1 e).1;exact qE5 t.kids (qbs t n) (λ l=>∀ p∈l,P p.1) (λ k c l a=>d k c (f t g b k c) l _ a) l a
 ·exact qMR n b a
theorem qjS{P:T->Prop}(c:Cl P){t:T}(b:P t):∀ p∈(ofP t).1,P p.1:=by
 intro p a;unfold ofP at a;split at a
 ·cases a
 ·split at a
  ·cases a
  ·split at a
   ·cases a
   ·exact qNL c t b [] 1 (λ _ h=>by cases h) p a
theorem qFj{P:T->Prop}{a b:List Pw}(g:∀ p∈a,P p.1)(f:∀ p∈b,P p.1):∀ p∈(qmt a b).1,P p.1:=by
 intro p c;unfold qmt at c;split at c
 ·cases c
 ·split at c
  ·cases c
  ·split at c
   ·cases c
   ·split at c
    ·cases c
    ·rcases que b a p c with⟨q,d,e⟩ | ⟨q,d,e⟩
     ·rw[<- e];exact g q d
     ·rw[<- e];exact f q d
theorem qDx{l:List Pw}{x:T}(h:x∈yj l):∃ p∈l,x=p.1:=by
 unfold yj at h;obtain⟨p,a,h⟩:=ka.1 h;exact⟨p,a,xj h⟩
theorem qD1{l:List Pw}{x:T}(h:x∈yo l):∃ p∈l,x=apT JB [p.1]:=by
 unfold yo at h;obtain⟨p,a,h⟩:=ka.1 h;exact⟨p,a,xj h⟩
theorem qah:Cl λ t=>zl t=0 := λ t a h=>(qdc a h).2
theorem qrV:∀(l:List Int),(∀ y∈l,y=0)->l.foldl thn 0=0
 | [],_=>rfl
 | z::l,h=>by
   rw[QV,h z (wh ..)];exact qrV l λ y a=>h y (wg _ a)
theorem qjN{t:T}(h:qc8 t=0)(c:∀ k∈t.kids,zl k=0):zl t=0:=by
 rw[qox];split
 ·rfl
 ·rw[h];refine qrV _ λ y b=>?_;obtain⟨k,a,rfl⟩:=wy.1 b;exact c k a
theorem qgP{n:List UInt8}{ks:List T}(b:(qH n).2.2≠0)(d:(qH n).1<=(ks.length:Int))(c:(ks.length:Int)<=(qH n).2.1)(a:qaK (apT n ks)=false):qc8 (apT n ks)=0:=by
 unfold qc8;show(if(3:Int)≠3 then(0:Int)else if(qH n).2.2=0 then 10 else if(ks.length:Int)<(qH n).1\/(qH n).2.1<(ks.length:Int)then 6 else if qaK (apT n ks)then 10 else 0)=0;rw[if_neg (by decide),if_neg b,if_neg (by omega),a];rfl
theorem qlc{n:List UInt8}(c:n≠qiv)(b:n≠nSk)(a:n≠quY)(ks:List T):qaK (apT n ks)=false:=by
 unfold qaK;rw[if_neg (show ¬ (apT n ks).name=qiv from c),if_neg (show ¬ ((apT n ks).name=nSk\/(apT n ks).name=quY)from λ h=>h.elim b a)]
theorem qbR:zl zT=0:=by rw[qox];rfl
theorem qbj{P:T->Prop}(c:Cl P)(a:P zT){t:T}(d:t.kind=3)(b:P t)(i:Nat):P (kid t i):=by
 by_cases h:i<t.kids.length
 ·exact c t d b _ (qEM h)
 ·unfold kid;rw[List.getD_eq_getElem?_getD,List.getElem?_eq_none (by omega)];exact a
theorem qsP{P:T->Prop}(a:P zT){l:List T}(h:∀ x∈l,P x):P (l.getD 0 zT):=by
 cases l with
 | nil=>exact a
 | cons x r=>exact h x (wh ..)
theorem qIQ{t:T}(c:t.kind=3)(h:qS t=0):t.kids.length<=8:=by
 unfold qS at h;split at h
 ·rename_i b;exact absurd h b
 ·rename_i b;have a:=(qn2 (t:=t) (by omega)).1;unfold jM qjv at a;rw[if_neg (by omega),if_pos c]at a;split at a
  ·cases a
  ·split at a
   ·split at a
    ·cases a
    ·omega
   ·cases a
theorem qzN{l:List Pw}(f:∀ p∈l,zl p.1=0)(h:(qbt l).2=0):zl (qbt l).1=0:=by
 by_cases b:JG l=0
 ·rw[qrp b]at h |-
  unfold qnY at h |-
  by_cases g:8<(yj l++yo l).length
  ·rw[if_pos g]at h;cases h
  rw[if_neg g]at h |-
  by_cases e:qS (qae (yj l++yo l))=0
  ·rw[if_neg (by omega)]
   have a:∀ x∈yj l++yo l,zl x=0 := λ x c=>by
    rcases ww.1 c with c | c
    ·obtain⟨p,b,rfl⟩:=qDx c;exact f p b
    ·obtain⟨p,b,rfl⟩:=qD1 c;exact qjN (qgP (by decide) (by show(1:Int)<=1;decide) (by show(1:Int)<=1;decide) (qlc (by decide) (by decide) (by decide) _)) λ k d=>by rw[wH.1 d];exact f p b
   generalize yj l++yo l=o at *;unfold qae;split
   ·exact qjN (qgP (by decide) (by show(0:Int)<=0;decide) (by show(0:Int)<=0;decide) (qlc (by decide) (by decide) (by decide) _)) λ k d=>by cases d
   ·split
    ·exact qsP (P := λ t=>zl t=0) qbR a
    ·rename_i j i;exact qjN (qgP (by decide) (by show(2:Int)<=_;omega) (by show _<=(8:Int);omega) (qlc (by decide) (by decide) (by decide) _)) a
  ·rw[if_pos e]at h;exact absurd h e
 ·unfold qbt at h;rw[if_pos b]at h;exact absurd h b
theorem qBF{b:T}{l:List Pw}(e:zl b=0)(f:∀ p∈l,zl p.1=0)(h:(qi4 b l).2=0):zl (qi4 b l).1=0:=by
 unfold qi4 at h |-
 split at h
 ·rename_i d;rw[if_pos d];exact e
 ·rename_i d;rw[if_neg d];split at h
  ·rename_i c;exact absurd h c
  ·rename_i c;rw[if_neg c];refine qjN (qgP (by decide) (by show(2:Int)<=2;decide) (by show(2:Int)<=2;decide) (qlc (by decide) (by decide) (by decide) _)) λ k a=>?_;rcases wx.1 a with rfl | a
   ·exact e
   ·rw[wH.1 a];exact qzN f (by omega)
theorem qJV{n:List UInt8}{ks:List T}(i:∀ k∈ks,zl k=0)(A:qc8 (apT n ks)=0)(a:(qab (apT n ks)).2=0):zl (qab (apT n ks)).1=0:=by
 have g:zl (apT n ks)=0:=qjN A i;unfold qab at a |-
 by_cases w:isD (apT n ks).name=true
 ·rw[if_pos w];show zl (qki _)=0;unfold qki;split
  ·rename_i c
   have m:(kid (apT n ks) 0).kind=3:=by
    unfold yl at c;split at c
    ·exact(yO.1 c).1
    ·split at c
     ·rw[wd]at c;exact(yO.1 c.1).1
     ·split at c
      ·rw[wd,wd]at c;exact(yO.1 c.1.1).1
      ·split at c
       ·rw[wd,wd]at c;exact(yO.1 c.1.1).1
       ·split at c
        ·exact(yO.1 c).1
        ·cases c
   exact qbj qah qbR m (qbj qah qbR rfl g 0) _
  ·exact g
 rw[if_neg w]at a |-
 by_cases s:(apT n ks).name=qc5
 ·rw[if_pos s]at a |-
  unfold qqt at a |-
  split at a
  ·rename_i d;exact absurd a d
  rename_i d;rw[if_neg d];split at a
  ·cases a
  rename_i h;rw[if_neg h];show zl (qaz (zX ks))=0
  have l:qS (qaz (zX ks))=0:=by
   have:¬ qS (qaz (zX (apT n ks).kids))≠0:=h;exact kY this
  have f:=qzm qah i;generalize zX ks=o at *;unfold qaz at l |-
  split
  ·exact qjN (qgP (by decide) (by show(0:Int)<=0;decide) (by show(0:Int)<=0;decide) (qlc (by decide) (by decide) (by decide) _)) λ k z=>by cases z
  ·rename_i C;split
   ·exact qsP (P := λ t=>zl t=0) qbR f
   ·rename_i B;rw[if_neg C,if_neg B]at l;have x:o.length<=8:=qIQ (t:=apT qc5 o) rfl l;exact qjN (qgP (by decide) (by show(2:Int)<=_;omega) (by show _<=(8:Int);omega) (qlc (by decide) (by decide) (by decide) _)) f
 rw[if_neg s]at a |-
 by_cases u:(apT n ks).name=qe8\/(apT n ks).name=JB\/(apT n ks).name=qj5
 ·rw[if_pos u]at a |-
  unfold qnz at a |-
  split at a
  ·rename_i d;exact absurd a d
  rename_i d;rw[if_neg d];exact qzN (qjS qah g) a
 rw[if_neg u]at a |-
 by_cases v:(apT n ks).name=qfZ
 ·rw[if_pos v]at a |-
  have p:=qbj qah qbR (t:=apT n ks) rfl g 0;have r:=qbj qah qbR (t:=apT n ks) rfl g 1;generalize kid (apT n ks) 0=b at *;generalize kid (apT n ks) 1=y at *;unfold qqn at a |-
  split at a
  ·rename_i d;exact absurd a d
  rename_i d;rw[if_neg d];split at a
  ·rename_i e;rw[if_pos e];split at a
   ·rename_i h;exact absurd a h
   rename_i h;rw[if_neg h];split at a
   ·rename_i q;exact absurd a q
   rename_i q;rw[if_neg q];have j:=(yO.1 e).1;exact qBF (qbj qah qbR j p 0) (qFj (P := λ t=>zl t=0) (qjS qah (qbj qah qbR j p 1)) (qjS qah r)) a
  ·rename_i e;rw[if_neg e];exact qBF p (qjS qah r) a
 ·rw[if_neg v];exact g
theorem qlm:size zT=1:=by rw[qL];rfl
theorem qbn(t:T)(i:Nat):size (kid t i)<=size t:=by
 have:=size_pos t;by_cases h:i<t.kids.length
 ·have:=jJ t _ (qEM h);omega
 ·unfold kid;rw[List.getD_eq_getElem?_getD,List.getElem?_eq_none (by omega)];show size zT<=_;rw[qlm];omega
theorem qBz(l:List Pw):size (qbt l).1<=400:=by
 unfold qbt;have:=qlm;split
 ·show size zT<=_;omega
 ·split
  ·show size zT<=_;omega
  ·split
   ·show size zT<=_;omega
   ·rename_i h;exact QZ (kY h)
theorem qFU(b:T)(l:List Pw):size (qi4 b l).1<=401+size b:=by
 unfold qi4;have:=qlm;have:=qBz l;split
 ·show size b<=_;omega
 ·split
  ·show size zT<=_;omega
  ·rw[qL];show 1+(size b+(size (qbt l).1+0))<=_;omega
theorem qNj(n:List UInt8)(ks:List T):size (qab (apT n ks)).1<=402+szL ks:=by
 have d:=qlm;have e:size (apT n ks)=1+szL ks:=qL _;unfold qab;split
 ·show size (qki _)<=_;unfold qki;split
  ·have a:=qbn (apT n ks) 0;have c:=qbn (kid (apT n ks) 0) (if(apT n ks).name=qxO then 1 else 0);omega
  ·omega
 ·split
  ·unfold qqt;split
   ·show size zT<=_;omega
   ·split
    ·show size zT<=_;omega
    ·have a:=qFJ (zX (apT n ks).kids);have c:=qe7 (apT n ks).kids;have f:szL (apT n ks).kids=szL ks:=rfl;show size (qaz _)<=_;omega
  ·split
   ·unfold qnz;split
    ·show size zT<=_;omega
    ·have:=qBz (ofP (apT n ks)).1;omega
   ·split
    ·have g:=qbn (apT n ks) 0;generalize kid (apT n ks) 0=b at *;generalize kid (apT n ks) 1=y at *;unfold qqn;split
     ·show size zT<=_;omega
     ·split
      ·split
       ·show size zT<=_;omega
       ·split
        ·show size zT<=_;omega
        ·have a:=qFU (kid b 0) (qmt (ofP (kid b 1)).1 (ofP y).1).1;have c:=qbn b 0;omega
      ·have a:=qFU b (ofP y).1;omega
    ·show size (apT n ks)<=_;omega
theorem qyk(t:T):size (zN t).1<=402*size t:=by
 refine T.ind (P := λ t=>size (zN t).1<=402*size t) ?_ t;intro t b;have f:=qlm;have g:=size_pos t;rw[qoD];split
 ·show size t<=_;omega
 ·split
  ·show size zT<=_;omega
  ·have e:=qNj t.name ((t.kids.map zN).map (·.1))
   have d:szL ((t.kids.map zN).map (·.1))<=402*szL t.kids:=by
    have:∀ l:List T,(∀ k∈l,k∈t.kids)->szL ((l.map zN).map (·.1))<=402*szL l:=by
     intro l
     induction l with
     | nil=>intro _;exact wb _
     | cons k l a =>
       intro h;have e:=b k (h k (wh ..));have d:=a λ x c=>h x (wg _ c);rw[wo,wo,qR,qR];omega
    exact this t.kids λ _ h=>h
   have i:size t=1+szL t.kids:=qL t;omega
theorem qtE:∀(l:List Int),l.foldl thn 0=0->∀ y∈l,y=0
 | [],_,y,a=>by cases a
 | z::l,h,y,a=>by
   rw[QV]at h;by_cases b:z=0
   ·subst b;rcases wx.1 a with rfl | a
    ·rfl
    ·exact qtE l h y a
   ·rw[qT _ b]at h;exact absurd h b
theorem qjV{t:T}(h:t.kind≠3):zN t=(t,0):=by rw[qoD,if_pos h]
theorem qKJ{t:T}(d:t.kind=3)(h:(zN t).2=0):(∀ k∈t.kids,(zN k).2=0)/\zN t=qab (apT t.name ((t.kids.map zN).map (·.1))):=by
 rw[qoD,if_neg (λ c=>c d)]at h |-
 split at h
 ·rename_i a;exact absurd h a
 ·rename_i a;rw[if_neg a];refine⟨λ k b=>?_,rfl⟩;exact qtE _ (kY a) _ (wy.2 ⟨_,wy.2 ⟨k,b,rfl⟩,rfl⟩)
theorem qJQ(l:List T)(h:∀ k∈l,k.kind≠3):(l.map zN).map (·.1)=l:=by
 induction l with
 | nil=>rfl
 | cons k l a =>
   rw[wo,wo,qjV (h k (wh ..)),a λ x b=>h x (wg _ b)]
theorem qB0{t:T}(j:t.kind=3)(h:qc8 t=0):qc8 (apT t.name ((t.kids.map zN).map (·.1)))=0:=by
 obtain⟨m,l,i,b⟩:=quM j h;refine qgP m (by simpa using l) (by simpa using i) ?_;unfold qaK at b |-
 show(if t.name=qiv then decide ((kid (apT t.name ((t.kids.map zN).map (·.1))) 0).kind≠2)else if t.name=nSk\/t.name=quY then((t.kids.map zN).map (·.1)).any λ k=>decide (k.kind=3)||decide (k.sort≠1)else false)=false;split
 ·rename_i c;rw[if_pos c]at b;have a:(kid t 0).kind=2:=by simpa using b
  cases e:t.kids with
  | nil =>
    unfold kid at a;rw[e]at a;exact absurd a (by decide)
  | cons x r =>
    have f:kid t 0=x:=by unfold kid;rw[e];rfl
    rw[f]at a;show decide ((zN x).1.kind≠2)=false;rw[qjV (by omega)];simpa using a
 ·rename_i c;rw[if_neg c]at b;split
  ·rename_i g;rw[if_pos g]at b;rw[qJQ t.kids λ k a d=>?_]
   ·exact b
   ·have:=List.any_eq_false.1 b k a;rw[d]at this;exact this rfl
  ·rfl
theorem qKx(t:T):zl t=0->(zN t).2=0->zl (zN t).1=0:=by
 refine T.ind (P := λ t=>zl t=0->(zN t).2=0->zl (zN t).1=0) ?_ t;intro t e d c;by_cases a:t.kind=3
 ·obtain⟨i,h⟩:=qKJ a c;obtain⟨m,l⟩:=qdc a d;rw[h]at c |-
  refine qJV (λ k g=>?_) (qB0 a m) c;obtain⟨q,f,rfl⟩:=wy.1 g;obtain⟨j,b,rfl⟩:=wy.1 f;exact e j b (l j b) (i j b)
 ·rw[qjV a];exact d
end Go.AmZ
namespace Go.AmZ
open Go Go.GxZ
theorem zA(t:T){b:Bool}(h:yl t=b):qki t=if b then kid (kid t 0) (if t.name=qxO then 1 else 0)else t:=by unfold qki;rw[h]
theorem qc2{t:T}(h:zl t=0){n:List UInt8}(e:isN t n=true){a b c:Int}(d:qH n=(a,b,c)){i:Nat}(f:(i:Int)<a):qc t.kids (i:Int)=some (kid t i):=by
 have:=(qpy h e d).1;exact qyL (by omega)
theorem qHH(t:T)(J:t.kind=3)(I:zl t=0)(D:isD t.name=true)(L:size t<=1000000000):Ev (λ m _=>qc9 m t) (qki t):=by
 have B:∀ i,size (kid t i)<=size t:=qbn t;have r:∀ i j,size (kid (kid t i) j)<=1000000000 := λ i j=>by have:=qbn (kid t i) j;have:=B i;omega
 have v:∀ i j k,size (kid (kid (kid t i) j) k)<=1000000000 := λ i j k=>by have:=qbn (kid (kid t i) j) k;have:=r i j;omega
 have f:∀ i,zl (kid t i)=0 := λ i=>qbj qah qbR J I i;have x:∀ i j,(kid t i).kind=3->zl (kid (kid t i) j)=0 := λ i j h=>qbj qah qbR h (f i) j;have A:isN t t.name=true:=yO.2 ⟨J,rfl⟩;have H:∀{u:T} {n:List UInt8},zl u=0->isN u n=true->∀{b c:Int},qH n=(1,b,c)->qc u.kids 0=some (kid u 0) := λ h d _ _ e=>qc2 (i:=0) h d e (by decide);have q:∀{u:T} {n:List UInt8},zl u=0->isN u n=true->∀{b c:Int},qH n=(2,b,c)->qc u.kids 0=some (kid u 0) := λ h d _ _ e=>qc2 (i:=0) h d e (by decide);have p:∀{u:T} {n:List UInt8},zl u=0->isN u n=true->∀{b c:Int},qH n=(2,b,c)->qc u.kids 1=some (kid u 1) := λ h d _ _ e=>qc2 (i:=1) h d e (by decide);have E:qH qqf=(2,2,1):=by decide
 have G:qH qpt=(2,2,1):=by decide
 have z:qH qjg=(2,2,1):=by decide
 have F:qH nPk=(1,1,1):=by decide
 have y:qH qfo=(2,2,1):=by decide
 unfold isD at D;simp only[kh,beq_iff_eq]at D;refine waA ?_;simp only[quh,qfY,ql]
 have l:∀{a b c:Int},qH t.name=(a,b,c)->a=b->(t.kids.length:Int)=a := λ e K=>by
  have:=qpy I A e;omega
 rcases D with((((d | d) | d) | d) | d) | d
 ·have w:=l (a:=1) (b:=1) (c:=3) (by rw[d];decide) rfl;refine waw (qej (by omega)) (wax (qn.2 (by omega)) (wav (by rw[d];rfl) (wat (qkX _ _) ?_)));have g:yl t=isN (kid t 0) qqf:=by unfold yl;rw[if_pos (.inl d)]
  refine way (λ h=>?_) λ h=>?_
  ·refine waw (q (f 0) h E) (waz ?_);rw[zA t (g.trans h),if_pos rfl,if_neg (by rw[d];decide)]
  ·refine waz ?_;rw[zA t (g.trans h),if_neg (by decide)]
 ·have w:=l (a:=1) (b:=1) (c:=3) (by rw[d];decide) rfl;refine waw (qej (by omega)) (wax (qn.2 (by omega)) (wax (by rw[d];rfl) (wav (by rw[d];rfl) (wat (qkX _ _) ?_))));have g:yl t=isN (kid t 0) qqf:=by unfold yl;rw[if_pos (.inr d)]
  refine way (λ h=>?_) λ h=>?_
  ·refine waw (p (f 0) h E) (waz ?_);rw[zA t (g.trans h),if_pos rfl,if_pos d]
  ·refine waz ?_;rw[zA t (g.trans h),if_neg (by decide)]
 ·have w:=l (a:=2) (b:=2) (c:=3) (by rw[d];decide) rfl;refine waw (qej (by omega)) (wav (qs.2 (by omega)) (waw (qsZ (by omega)) (wax (by rw[d];rfl) (wax (by rw[d];rfl) (wav (by rw[d];rfl) (wat (qkX _ _) ?_))))));have g:yl t=(isN (kid t 0) qpt&&jk (kid (kid t 0) 1) (kid t 1)):=by unfold yl;rw[if_neg (by rw[d];decide),if_pos d]
  refine way (λ h=>?_) λ h=>?_
  ·refine waw (p (f 0) h G) (wat (qpK _ _ (r 0 1) (by have:=B 1;omega)) (way (λ o=>?_) λ o=>?_))
   ·refine waw (q (f 0) h G) (waz ?_);rw[zA t (b:=true) (by rw[g,show isN (kid t 0) qpt=true from h,o];rfl),if_pos rfl,if_neg (by rw[d];decide)]
   ·refine waz ?_;rw[zA t (b:=false) (by rw[g,o,xN]),if_neg (by decide)]
  ·refine waz ?_;rw[zA t (b:=false) (by rw[g,show isN (kid t 0) qpt=false from h];rfl),if_neg (by decide)]
 ·have w:=l (a:=2) (b:=2) (c:=3) (by rw[d];decide) rfl;refine waw (qej (by omega)) (wav (qs.2 (by omega)) (waw (qsZ (by omega)) (wax (by rw[d];rfl) (wax (by rw[d];rfl) (wax (by rw[d];rfl) (wav (by rw[d];rfl) (wat (qkX _ _) ?_)))))));have g:yl t=(isN (kid t 0) qjg&&isN (kid (kid t 0) 1) nPk&&jk (kid (kid (kid t 0) 1) 0) (kid t 1)):=by unfold yl;rw[if_neg (by rw[d];decide),if_neg (by rw[d];decide),if_pos d]
  refine way (λ h=>?_) λ h=>?_
  ·have C:=(yO.1 h).1;refine waw (p (f 0) h z) (wat (qkX _ _) (way (λ o=>?_) λ o=>?_))
   ·refine waw (p (f 0) h z) (waw (H (x 0 1 C) o F) (wat (qpK _ _ (v 0 1 0) (by have:=B 1;omega)) (way (λ s=>?_) λ s=>?_)))
    ·refine waw (q (f 0) h z) (waz ?_);rw[zA t (b:=true) (by rw[g,show isN (kid t 0) qjg=true from h,show isN (kid (kid t 0) 1) nPk=true from o,s];rfl),if_pos rfl,if_neg (by rw[d];decide)]
    ·refine waz ?_;rw[zA t (b:=false) (by rw[g,s,xN]),if_neg (by decide)]
   ·refine waz ?_;rw[zA t (b:=false) (by rw[g,show isN (kid (kid t 0) 1) nPk=false from o,xN,xb]),if_neg (by decide)]
  ·refine waz ?_;rw[zA t (b:=false) (by rw[g,show isN (kid t 0) qjg=false from h];rfl),if_neg (by decide)]
 ·have w:=l (a:=2) (b:=2) (c:=3) (by rw[d];decide) rfl;refine waw (qej (by omega)) (wav (qs.2 (by omega)) (waw (qsZ (by omega)) (wax (by rw[d];rfl) (wax (by rw[d];rfl) (wax (by rw[d];rfl) (wax (by rw[d];rfl) (wav (by rw[d];rfl) (wat (qkX _ _) ?_))))))));have g:yl t=(isN (kid t 0) qfo&&isN (kid t 1) nPk&&jk (kid (kid t 0) 1) (kid (kid t 1) 0)):=by unfold yl;rw[if_neg (by rw[d];decide),if_neg (by rw[d];decide),if_neg (by rw[d];decide),if_pos d]
  refine way (λ h=>?_) λ h=>?_
  ·refine wat (qkX _ _) (way (λ o=>?_) λ o=>?_)
   ·refine waw (p (f 0) h y) (waw (H (f 1) o F) (wat (qpK _ _ (r 0 1) (r 1 0)) (way (λ s=>?_) λ s=>?_)))
    ·refine waw (q (f 0) h y) (waz ?_);rw[zA t (b:=true) (by rw[g,show isN (kid t 0) qfo=true from h,show isN (kid t 1) nPk=true from o,s];rfl),if_pos rfl,if_neg (by rw[d];decide)]
    ·refine waz ?_;rw[zA t (b:=false) (by rw[g,s,xN]),if_neg (by decide)]
   ·refine waz ?_;rw[zA t (b:=false) (by rw[g,show isN (kid t 1) nPk=false from o,xN,xb]),if_neg (by decide)]
  ·refine waz ?_;rw[zA t (b:=false) (by rw[g,show isN (kid t 0) qfo=false from h];rfl),if_neg (by decide)]
 ·have w:=l (a:=1) (b:=1) (c:=3) (by rw[d];decide) rfl;refine waw (qej (by omega)) (wax (qn.2 (by omega)) (wax (by rw[d];rfl) (wax (by rw[d];rfl) (wax (by rw[d];rfl) (wax (by rw[d];rfl) (wax (by rw[d];rfl) (wav (by rw[d];rfl) (wat (qkX _ _) ?_))))))));have g:yl t=isN (kid t 0) qfo:=by unfold yl;rw[if_neg (by rw[d];decide),if_neg (by rw[d];decide),if_neg (by rw[d];decide),if_neg (by rw[d];decide),if_pos d]
  refine way (λ h=>?_) λ h=>?_
  ·refine waw (q (f 0) h y) (waz ?_);rw[zA t (g.trans h),if_pos rfl,if_neg (by rw[d];decide)]
  ·refine waz ?_;rw[zA t (g.trans h),if_neg (by decide)]
end Go.AmZ
namespace Go.AmZ
open Go Go.GxZ
def qfX:T->Prop:=T.para λ t a=>(t.kind=3->t.sort=0)/\∀ p∈a,p
theorem qo6(t:T):qfX t↔(t.kind=3->t.sort=0)/\∀ k∈t.kids,qfX k:=by
 have h:qfX t=((t.kind=3->t.sort=0)/\∀ p∈t.kids.map qfX,p):=T.para_eq _ _;rw[h];refine and_congr_right λ _=>⟨λ h k a=>h _ (kO a),λ h p b=>?_⟩
 obtain⟨k,a,rfl⟩:=wy.1 b;exact h k a
theorem qrR:Cl qfX := λ t _ h=>((qo6 t).1 h).2
theorem qB6:qfX zT:=(qo6 zT).2 ⟨λ h=>absurd h (by decide),λ _ h=>by cases h⟩
theorem qFK(n:List UInt8)(ks:List T)(h:∀ k∈ks,qfX k):qfX (apT n ks):=(qo6 _).2 ⟨λ _=>rfl,h⟩
theorem qHv{t:T}(a:t.kind=3)(h:jM t=0):t.sort=0:=by
 unfold jM qjv at h;rw[if_neg (by omega),if_pos a]at h;split at h
 ·cases h
 ·omega
theorem qJz(t:T):jQ t=0->qfX t:=by
 refine T.ind (P := λ t=>jQ t=0->qfX t) ?_ t;intro t b h;obtain⟨e,d⟩:=qn2 h;exact(qo6 t).2 ⟨λ c=>qHv c e,λ k a=>b k a (d k a)⟩
theorem qEu{t:T}(h:qS t=0):jQ t=0:=by
 unfold qS at h;split at h
 ·rename_i a;exact absurd h a
 ·rename_i a;exact kY a
theorem qMU{P:T->Prop}(s:Cl P)(f:P zT)(e:∀ n ks,(∀ k∈ks,P k)->P (apT n ks)){n:List UInt8}{ks:List T}(v:∀ k∈ks,P k):P (qab (apT n ks)).1:=by
 have q:=e n ks v;have a:∀{t:T} (i:Nat),P t->t.kind=3->P (kid t i) := λ i h E=>qbj s f E h i
 have g:∀ l:List Pw,(∀ p∈l,P p.1)->P (qbt l).1:=by
  intro l z;unfold qbt;split
  ·exact f
  ·split
   ·exact f
   ·split
    ·exact f
    ·have c:∀ x∈yj l++yo l,P x := λ x u=>by
       rcases ww.1 u with u | u
       ·obtain⟨p,A,rfl⟩:=qDx u;exact z p A
       ·obtain⟨p,A,rfl⟩:=qD1 u;exact e _ _ λ k j=>by rw[wH.1 j];exact z p A
     show P (qae _);generalize yj l++yo l=o at *;unfold qae;split
     ·exact e _ _ λ k j=>by cases j
     ·split
      ·exact qsP f c
      ·exact e _ _ c
 have m:∀(b:T) (l:List Pw),P b->(∀ p∈l,P p.1)->P (qi4 b l).1:=by
  intro b l r z;unfold qi4;split
  ·exact r
  ·split
   ·exact f
   ·refine e _ _ λ k j=>?_;rcases wx.1 j with rfl | j
    ·exact r
    ·rw[wH.1 j];exact g l z
 unfold qab;split
 ·show P (qki _);unfold qki;split
  ·rename_i d
   have B:(kid (apT n ks) 0).kind=3:=by
    unfold yl at d;split at d
    ·exact(yO.1 d).1
    ·split at d
     ·rw[wd]at d;exact(yO.1 d.1).1
     ·split at d
      ·rw[wd,wd]at d;exact(yO.1 d.1.1).1
      ·split at d
       ·rw[wd,wd]at d;exact(yO.1 d.1.1).1
       ·split at d
        ·exact(yO.1 d).1
        ·cases d
   exact a _ (a 0 q rfl) B
  ·exact q
 ·split
  ·unfold qqt;split
   ·exact f
   ·split
    ·exact f
    ·have c:=qzm s v;show P (qaz (zX ks));generalize zX ks=o at *;unfold qaz;split
     ·exact e _ _ λ k j=>by cases j
     ·split
      ·exact qsP f c
      ·exact e _ _ c
  ·split
   ·unfold qnz;split
    ·exact f
    ·exact g _ (qjS s q)
   ·split
    ·have r:=a (t:=apT n ks) 0 q rfl;have D:=a (t:=apT n ks) 1 q rfl;generalize kid (apT n ks) 0=b at *;generalize kid (apT n ks) 1=y at *;unfold qqn;split
     ·exact f
     ·split
      ·rename_i C;have w:=(yO.1 C).1;split
       ·exact f
       ·split
        ·exact f
        ·exact m _ _ (a 0 r w) (qFj (qjS s (a 1 r w)) (qjS s D))
      ·exact m _ _ r (qjS s D)
    ·exact q
theorem qNx{P:T->Prop}(d:Cl P)(b:P zT)(a:∀ n ks,(∀ k∈ks,P k)->P (apT n ks))(t:T):P t->P (zN t).1:=by
 refine T.ind (P := λ t=>P t->P (zN t).1) ?_ t;intro t e h;rw[qoD];split
 ·exact h
 ·rename_i i;split
  ·exact b
  ·refine qMU d b a λ k g=>?_;obtain⟨q,f,rfl⟩:=wy.1 g;obtain⟨j,c,rfl⟩:=wy.1 f;exact e j c (d t (kY i) h j c)
theorem qFG{u x:T}(m:zl u=0)(l:qfX u):jk u (apT nPk [x])=(isN u nPk&&jk (kid u 0) x):=by
 rw[xh,wd,qb1,qb1];constructor
 ·rintro rfl;exact⟨yO.2 ⟨rfl,rfl⟩,rfl⟩
 ·rintro⟨h,j⟩;obtain⟨f,g⟩:=yO.1 h;have e:=qpy m h (a:=1) (b:=1) (c:=1) (by decide);have d:=((qo6 u).1 l).1 f;cases u with
  | mk k n so ks =>
    have f:k=3:=f;have g:n=nPk:=g;have d:so=0:=d
    have i:ks.length=1:=by
     have h:(1:Int)<=(ks.length:Int):=e.1;have j:(ks.length:Int)<=1:=e.2.1;omega
    cases ks with
    | nil=>cases i
    | cons y r =>
      cases r with
      | nil =>
        have:y=x:=j;subst f;subst g;subst d;subst this;rfl
      | cons z r=>simp at i
theorem qvC(a b:T):jk a b=jk b a:=by
 rw[xh,qb1,qb1];exact eq_comm
theorem qEe(t:T)(G:t.kind=3)(K:zl t=0)(E:qfX t)(F:isD t.name=true)(M:size t<=900000000):Ev (λ m _=>qgj m t) (qki t,yl t):=by
 have B:∀ i,size (kid t i)<=size t:=qbn t;have s:∀ i j,size (kid (kid t i) j)<=900000000 := λ i j=>by have:=qbn (kid t i) j;have:=B i;omega
 have k:∀ i,zl (kid t i)=0 := λ i=>qbj qah qbR G K i;have A:∀ i j,(kid t i).kind=3->zl (kid (kid t i) j)=0 := λ i j h=>qbj qah qbR h (k i) j;have w:∀ i,qfX (kid t i) := λ i=>qbj qrR qB6 G E i;have v:∀ i j,(kid t i).kind=3->qfX (kid (kid t i) j) := λ i j h=>qbj qrR qB6 h (w i) j;have D:isN t t.name=true:=yO.2 ⟨G,rfl⟩;have p:∀{u:T} {n:List UInt8},zl u=0->isN u n=true->∀{b c:Int},qH n=(2,b,c)->qc u.kids 0=some (kid u 0) := λ h d _ _ e=>qc2 (i:=0) h d e (by decide);have r:∀{u:T} {n:List UInt8},zl u=0->isN u n=true->∀{b c:Int},qH n=(2,b,c)->qc u.kids 1=some (kid u 1) := λ h d _ _ e=>qc2 (i:=1) h d e (by decide);have H:qH qqf=(2,2,1):=by decide
 have I:qH qpt=(2,2,1):=by decide
 have J:qH qjg=(2,2,1):=by decide
 have C:qH qfo=(2,2,1):=by decide
 unfold isD at F;simp only[kh,beq_iff_eq]at F;refine waA ?_;simp only[qvu,qgT,ql]
 have o:∀{a b c:Int},qH t.name=(a,b,c)->a=b->(t.kids.length:Int)=a := λ e L=>by
  have:=qpy K D e;omega
 have l:∀ x:T,size (apT nPk [x])=1+size x := λ x=>by rw[qL];show 1+(size x+0)=_;omega
 rcases F with((((d | d) | d) | d) | d) | d
 ·have y:=o (a:=1) (b:=1) (c:=3) (by rw[d];decide) rfl;refine waw (qej (by omega)) (wav (by rw[d];rfl) (wat (qmk _ _) ?_));have f:yl t=isN (kid t 0) qqf:=by unfold yl;rw[if_pos (.inl d)]
  refine way (λ h=>?_) λ h=>?_
  ·refine waw (p (k 0) h H) (waz ?_);rw[zA t (f.trans h),if_pos rfl,if_neg (by rw[d];decide),f.trans h]
  ·repeat (refine wax (by rw[d];rfl) ?_)
   refine waz ?_;rw[zA t (f.trans h),if_neg (by decide),f.trans h]
 ·have y:=o (a:=1) (b:=1) (c:=3) (by rw[d];decide) rfl;refine waw (qej (by omega)) (wax (by rw[d];rfl) (wav (by rw[d];rfl) (wat (qmk _ _) ?_)));have f:yl t=isN (kid t 0) qqf:=by unfold yl;rw[if_pos (.inr d)]
  refine way (λ h=>?_) λ h=>?_
  ·refine waw (r (k 0) h H) (waz ?_);rw[zA t (f.trans h),if_pos rfl,if_pos d,f.trans h]
  ·repeat (refine wax (by rw[d];rfl) ?_)
   refine waz ?_;rw[zA t (f.trans h),if_neg (by decide),f.trans h]
 ·have y:=o (a:=2) (b:=2) (c:=3) (by rw[d];decide) rfl;refine waw (qej (by omega)) (wax (by rw[d];rfl) (wax (by rw[d];rfl) (wav (by rw[d];rfl) (wat (qmk _ _) ?_))));have f:yl t=(isN (kid t 0) qpt&&jk (kid (kid t 0) 1) (kid t 1)):=by unfold yl;rw[if_neg (by rw[d];decide),if_pos d]
  refine way (λ h=>?_) λ h=>?_
  ·refine waw (r (k 0) h I) (waw (qsZ (by omega)) (wat (qgQ _ _ (by have:=s 0 1;omega) (by have:=B 1;omega)) (way (λ q=>?_) λ q=>?_)))
   ·have g:yl t=true:=by rw[f,show isN (kid t 0) qpt=true from h,q];rfl
    refine waw (p (k 0) h I) (waz ?_);rw[zA t g,if_pos rfl,if_neg (by rw[d];decide),g]
   ·have g:yl t=false:=by rw[f,q,xN]
    repeat (refine wax (by rw[d];rfl) ?_)
    refine waz ?_;rw[zA t g,if_neg (by decide),g]
  ·have g:yl t=false:=by rw[f,show isN (kid t 0) qpt=false from h];rfl
   repeat (refine wax (by rw[d];rfl) ?_)
   refine waz ?_;rw[zA t g,if_neg (by decide),g]
 ·have y:=o (a:=2) (b:=2) (c:=3) (by rw[d];decide) rfl;refine waw (qej (by omega)) (wax (by rw[d];rfl) (wax (by rw[d];rfl) (wax (by rw[d];rfl) (wav (by rw[d];rfl) (wat (qmk _ _) ?_)))));have f:yl t=(isN (kid t 0) qjg&&isN (kid (kid t 0) 1) nPk&&jk (kid (kid (kid t 0) 1) 0) (kid t 1)):=by unfold yl;rw[if_neg (by rw[d];decide),if_neg (by rw[d];decide),if_pos d]
  refine way (λ h=>?_) λ h=>?_
  ·have z:=(yO.1 h).1;refine waw (r (k 0) h J) (waw (qsZ (by omega)) (wat (qfu nPk [kid t 1] (by simp)) (wat (qgQ _ _ (by have:=s 0 1;omega) (by rw[l];have:=B 1;omega)) ?_)));rw[qFG (A 0 1 z) (v 0 1 z)];refine way (λ q=>?_) λ q=>?_
   ·have g:yl t=true:=by rw[f,show isN (kid t 0) qjg=true from h,w7,q]
    refine waw (p (k 0) h J) (waz ?_);rw[zA t g,if_pos rfl,if_neg (by rw[d];decide),g]
   ·have g:yl t=false:=by rw[f,show isN (kid t 0) qjg=true from h,w7,q]
    repeat (refine wax (by rw[d];rfl) ?_)
    refine waz ?_;rw[zA t g,if_neg (by decide),g]
  ·have g:yl t=false:=by rw[f,show isN (kid t 0) qjg=false from h];rfl
   repeat (refine wax (by rw[d];rfl) ?_)
   refine waz ?_;rw[zA t g,if_neg (by decide),g]
 ·have y:=o (a:=2) (b:=2) (c:=3) (by rw[d];decide) rfl;refine waw (qej (by omega)) (wax (by rw[d];rfl) (wax (by rw[d];rfl) (wax (by rw[d];rfl) (wax (by rw[d];rfl) (wav (by rw[d];rfl) (wat (qmk _ _) ?_))))));have f:yl t=(isN (kid t 0) qfo&&isN (kid t 1) nPk&&jk (kid (kid t 0) 1) (kid (kid t 1) 0)):=by unfold yl;rw[if_neg (by rw[d];decide),if_neg (by rw[d];decide),if_neg (by rw[d];decide),if_pos d]
  refine way (λ h=>?_) λ h=>?_
  ·refine waw (qsZ (by omega)) (waw (r (k 0) h C) (wat (qfu nPk [kid (kid t 0) 1] (by simp)) (wat (qgQ _ _ (by have:=B 1;omega) (by rw[l];have:=s 0 1;omega)) ?_)));rw[qFG (k 1) (w 1),qvC (kid (kid t 1) 0)];refine way (λ q=>?_) λ q=>?_
   ·have g:yl t=true:=by rw[f,show isN (kid t 0) qfo=true from h,w7,q]
    refine waw (p (k 0) h C) (waz ?_);rw[zA t g,if_pos rfl,if_neg (by rw[d];decide),g]
   ·have g:yl t=false:=by rw[f,show isN (kid t 0) qfo=true from h,w7,q]
    repeat (refine wax (by rw[d];rfl) ?_)
    refine waz ?_;rw[zA t g,if_neg (by decide),g]
  ·have g:yl t=false:=by rw[f,show isN (kid t 0) qfo=false from h];rfl
   repeat (refine wax (by rw[d];rfl) ?_)
   refine waz ?_;rw[zA t g,if_neg (by decide),g]
 ·have y:=o (a:=1) (b:=1) (c:=3) (by rw[d];decide) rfl;refine waw (qej (by omega)) (wax (by rw[d];rfl) (wax (by rw[d];rfl) (wax (by rw[d];rfl) (wax (by rw[d];rfl) (wax (by rw[d];rfl) (wav (by rw[d];rfl) (wat (qmk _ _) ?_)))))));have f:yl t=isN (kid t 0) qfo:=by unfold yl;rw[if_neg (by rw[d];decide),if_neg (by rw[d];decide),if_neg (by rw[d];decide),if_neg (by rw[d];decide),if_pos d]
  refine way (λ h=>?_) λ h=>?_
  ·refine waw (p (k 0) h C) (waz ?_);rw[zA t (f.trans h),if_pos rfl,if_neg (by rw[d];decide),f.trans h]
  ·repeat (refine wax (by rw[d];rfl) ?_)
   refine waz ?_;rw[zA t (f.trans h),if_neg (by decide),f.trans h]
end Go.AmZ
namespace Go.AmZ
open Go Go.GxZ
theorem qjW(t:T):szP (ofP t).1<=400:=by
 unfold ofP;split
 ·exact we _
 ·rename_i h;split
  ·exact we _
  ·split
   ·exact we _
   ·have c:=qF9 t [] 1;have b:=QZ (kY h);have a:szP ([]:List Pw)=0:=rfl;show szP (jC t [] 1)<=_;omega
theorem qFx(a b:List Pw):szP (qmt a b).1<=160000:=by
 unfold qmt;split
 ·exact we _
 ·rename_i d;split
  ·exact we _
  ·rename_i c;split
   ·exact we _
   ·split
    ·exact we _
    ·obtain⟨_,_,h,_⟩:=qhR (kY d) (kY c) b.length;rw[wC]at h;exact h
theorem qJ2(b e:T)(k:zl b=0)(n:size b<=1000000000)(j:size e<=1000000000):Ev (λ m _=>qhs m b e) (qqn b e):=by
 refine waA ?_;simp only[qxS,qhD,ql]
 have g:∀(l:List Pw) (x:T),szP l<=1000000000->Ev (λ m _=>cond (ieq (l.length:Int) 0) (some (x,(0:Int))) (qa (Js m l) λ v=>cond (qf (ieq v.2 0)) (some (T.mk 0 [] 0 [],v.2)) (qa (qhF m [101,120,112] [x,v.1]) λ w=>some (w,0)))) (qi4 x l):=by
  intro l x o;unfold qi4;refine way (λ h=>?_) λ h=>?_
  ·rw[qk]at h;rw[if_pos (by omega)];exact wau _
  ·rw[qh]at h;rw[if_neg (by omega)];refine wat (qDe l o) (way (λ h=>?_) λ h=>?_)
   ·rw[bnt,qh]at h;rw[if_pos h];exact wau _
   ·rw[bnf,qk]at h;rw[if_neg (by omega)];exact wat (qNU _ _) (wau _)
 unfold qqn;refine wat (qD2 e j) (way (λ h=>?_) λ h=>?_)
 ·rw[bnt,qh]at h;rw[if_pos h];exact wau _
 rw[bnf,qk]at h;rw[if_neg (by omega)];refine wat (qkX _ _) (way (λ f=>?_) λ f=>?_)
 ·rw[if_pos (show isN b qfZ=true from f)];have s:=qbn b 1;refine waw (qc2 (i:=1) k f (a:=2) (b:=2) (c:=1) (by decide) (by decide)) (wat (qD2 _ (by omega)) (way (λ d=>?_) λ d=>?_))
  ·rw[bnt,qh]at d;rw[if_pos d];exact wau _
  rw[bnf,qk]at d;rw[if_neg (by omega)];have r:=qjW (kid b 1);have p:=qjW e;have q:=qFx (ofP (kid b 1)).1 (ofP e).1;refine wat (qMP _ _ (by omega) (by omega)) (way (λ d=>?_) λ d=>?_)
  ·rw[bnt,qh]at d;rw[if_pos d];exact wau _
  rw[bnf,qk]at d;rw[if_neg (by omega)];exact waw (qc2 (i:=0) k f (a:=2) (b:=2) (c:=1) (by decide) (by decide)) (g _ _ (by omega))
 ·rw[if_neg (by rw[show isN b qfZ=false from f];decide)];have p:=qjW e;exact g _ _ (by omega)
theorem qKa(b e:T)(k:zl b=0)(n:size b<=1000000000)(j:size e<=1000000000):Ev (λ m _=>qjk m b e) (qqn b e):=by
 refine waA ?_;simp only[qAy,qja,ql]
 have g:∀(l:List Pw) (x:T),szP l<=1000000000->Ev (λ m _=>cond (ieq (l.length:Int) 0) (some (x,(0:Int))) (qa (qdE m l) λ v=>cond (qf (ieq v.2 0)) (some (T.mk 0 [] 0 [],v.2)) (qa (Qo m [101,120,112] [x,v.1]) λ w=>some (w,0)))) (qi4 x l):=by
  intro l x o;unfold qi4;refine way (λ h=>?_) λ h=>?_
  ·rw[qk]at h;rw[if_pos (by omega)];exact wau _
  ·rw[qh]at h;rw[if_neg (by omega)];refine wat (qC6 l o) (way (λ h=>?_) λ h=>?_)
   ·rw[bnt,qh]at h;rw[if_pos h];exact wau _
   ·rw[bnf,qk]at h;rw[if_neg (by omega)];exact wat (qfu _ _ (by simp)) (wau _)
 unfold qqn;refine wat (qCb e j) (way (λ h=>?_) λ h=>?_)
 ·rw[bnt,qh]at h;rw[if_pos h];exact wau _
 rw[bnf,qk]at h;rw[if_neg (by omega)];refine wat (qmk _ _) (way (λ f=>?_) λ f=>?_)
 ·rw[if_pos (show isN b qfZ=true from f)];have s:=qbn b 1;refine waw (qc2 (i:=1) k f (a:=2) (b:=2) (c:=1) (by decide) (by decide)) (wat (qCb _ (by omega)) (way (λ d=>?_) λ d=>?_))
  ·rw[bnt,qh]at d;rw[if_pos d];exact wau _
  rw[bnf,qk]at d;rw[if_neg (by omega)];have r:=qjW (kid b 1);have p:=qjW e;have q:=qFx (ofP (kid b 1)).1 (ofP e).1;refine wat (qNb _ _ (by omega) (by omega)) (way (λ d=>?_) λ d=>?_)
  ·rw[bnt,qh]at d;rw[if_pos d];exact wau _
  rw[bnf,qk]at d;rw[if_neg (by omega)];exact waw (qc2 (i:=0) k f (a:=2) (b:=2) (c:=1) (by decide) (by decide)) (g _ _ (by omega))
 ·rw[if_neg (by rw[show isN b qfZ=false from f];decide)];have p:=qjW e;exact g _ _ (by omega)
theorem qDd{t:T}(h:isD t.name=true):qab t=(qki t,0):=by unfold qab;rw[if_pos h]
theorem qBR{t:T}(h:t.name=qc5):qab t=qqt t.kids:=by unfold qab;rw[if_neg (by rw[h];decide),if_pos h]
theorem qBY{t:T}(h:t.name=qe8\/t.name=JB\/t.name=qj5):qab t=qnz t:=by
 unfold qab;rw[if_neg (by rcases h with h | h | h<;>rw[h]<;>decide),if_neg (by rcases h with h | h | h<;>rw[h]<;>decide),if_pos h]
theorem qDW{t:T}(h:t.name=qfZ):qab t=qqn (kid t 0) (kid t 1):=by
 unfold qab;rw[if_neg (by rw[h];decide),if_neg (by rw[h];decide),if_neg (by rw[h];decide),if_pos h]
theorem qzw{t:T}(d:isD t.name=false)(c:t.name≠qc5)(b:¬ (t.name=qe8\/t.name=JB\/t.name=qj5))(a:t.name≠qfZ):qab t=(t,0):=by
 unfold qab;rw[if_neg (by rw[d];decide),if_neg c,if_neg b,if_neg a]
theorem qHS(n:List UInt8):(qH n).2.2=3↔isD n=true:=by
 constructor
 ·intro h;rcases qvo n with b | ⟨r,c,a,b⟩
  ·rw[qwZ b]at h;cases h
  ·rw[qpI b]at h;have:yU.all (λ r => !decide (r.2.2.2=3)||isD r.1)=true:=by decide
   have:=wv.1 this r c;rw[decide_eq_true h]at this;rw[<- a];exact this
 ·intro h;unfold isD at h;simp only[kh,beq_iff_eq]at h;rcases h with((((a | a) | a) | a) | a) | a<;>rw[a]<;>decide
def nks(l:List T):List T:=(l.map zN).map (·.1)
theorem qs9(l:List T):(nks l).length=l.length:=by unfold nks;simp
theorem qIj(l:List T):szL (nks l)<=402*szL l:=by
 induction l with
 | nil=>exact wb _
 | cons k l a =>
   have:=qyk k;show szL ((zN k).1::nks l)<=_;rw[qR,qR];omega
theorem qDQ{l:List T}{i:Nat}{x:T}(h:l[i]?=some x):nks (l.take (i+1))=nks (l.take i)++[(zN x).1]:=by
 unfold nks;rw[zq h,wS,wS];rfl
def erN(l:List T):Int:=((l.map zN).map (·.2)).foldl thn 0
theorem qBP{l:List T}{i:Nat}{x:T}(h:l.drop i=x::l.drop (i+1)):erN (l.drop i)=if(zN x).2≠0 then(zN x).2 else erN (l.drop (i+1)):=by
 unfold erN;rw[h,wo,wo];by_cases a:(zN x).2=0
 ·rw[if_neg (by omega),a];rfl
 ·rw[if_pos a];exact qT _ a
theorem qFk{t:T}(a:t.kind=3):zN t=if erN t.kids≠0 then(zT,erN t.kids)else qab (apT t.name (nks t.kids)):=by rw[qoD,if_neg (λ h=>h a)];rfl
theorem qFT{t:T}(c:t.kind=3)(f:zl t=0)(e:∀ k∈t.kids,(zN k).2=0):zl (apT t.name (nks t.kids))=0/\∀ k∈nks t.kids,zl k=0:=by
 obtain⟨h,g⟩:=qdc c f
 have a:∀ k∈nks t.kids,zl k=0 := λ k a=>by
  obtain⟨q,d,rfl⟩:=wy.1 a;obtain⟨j,b,rfl⟩:=wy.1 d;exact qKx j (g j b) (e j b)
 exact⟨qjN (qB0 c h) a,a⟩
theorem qJt(t:T):size t<=2000->zl t=0->Ev (λ m _=>yC m t) (zN t):=by
 induction t using T.ind with
 | h t F =>
   intro hs E;have hl:=yz t;have hz:=qL t;refine waA ?_;simp only[qv9,qdu,ql];by_cases n:t.kind=3
   rotate_left
   ·refine wav (bnt.2 (qh.2 n)) (waz (qjV n).symm)
   refine wax (bnf.2 (qk.2 n)) ?_;rw[qFk n];have y:=(qdc n E).2
   have s:=qr (P := λ i=>(∀ k∈t.kids.take i,(zN k).2=0)->Ev (λ m k=>Jl m (yC m) k t.kids t.kids.length i t.kind t.name t.sort t.kids 0 [] 0 3 t.name 0 [] (nks (t.kids.take i))) (if erN (t.kids.drop i)≠0 then(zT,erN (t.kids.drop i))else qab (apT t.name (nks t.kids)))) t.kids (by omega)
    (λ g q=>by
     refine waB ?_;simp only[qlP,qdn,ql];refine wax g ?_;rw[wC]at q |-
     rw[wT,if_neg (show ¬ erN []≠0 from λ h=>h rfl)];obtain⟨r,c2⟩:=qFT n E q;have Y:=qIj t.kids;have X:szL t.kids+1=size t:=by unfold szL;omega
     have H:=qs9 t.kids;generalize nks t.kids=ks at *;have G:T.mk 3 t.name 0 ks=apT t.name ks:=rfl;rw[G];have W:size (apT t.name ks)=1+szL ks:=qL _
     have e:isD t.name=true->Ev (λ m _=>qa (qc9 m (apT t.name ks)) λ v=>some (v,(0:Int))) (qab (apT t.name ks)) := λ l=>by
      rw[qDd (show isD (apT t.name ks).name=true from l)];exact wat (qHH _ rfl r l (by omega)) (wau _)
     have f:t.name=qe8\/t.name=JB\/t.name=qj5->Ev (λ m _=>qa (qcd m (apT t.name ks)) λ v=>cond (qf (ieq v.2 0)) (some (T.mk 0 [] 0 [],v.2)) (qa (Js m v.1) λ w=>some (w.1,w.2))) (qab (apT t.name ks)) := λ p=>by
      rw[qBY (show(apT t.name ks).name=qe8\/(apT t.name ks).name=JB\/(apT t.name ks).name=qj5 from p)];unfold qnz;have A:=qjW (apT t.name ks);refine wat (qD2 _ (by omega)) (way (λ h=>?_) λ h=>?_)
      ·rw[bnt,qh]at h;rw[if_pos h];exact wau _
      ·rw[bnf,qk]at h;rw[if_neg (by omega)];exact wat (qDe _ (by omega)) (wau _)
     refine way (λ h=>e (by rw[yQ.1 h];decide)) λ V=>?_;refine way (λ h=>e (by rw[yQ.1 h];decide)) λ U=>?_;refine way (λ h=>e (by rw[yQ.1 h];decide)) λ B=>?_;refine way (λ h=>e (by rw[yQ.1 h];decide)) λ A=>?_;refine way (λ h=>e (by rw[yQ.1 h];decide)) λ S=>?_;refine way (λ h=>e (by rw[yQ.1 h];decide)) λ R=>?_;refine way (λ h=>?_) λ Q=>?_
     ·rw[qBR (show(apT t.name ks).name=qc5 from yQ.1 h)];exact wat (qNM ks (by omega)) (wau _)
     refine way (λ h=>f (.inl (yQ.1 h))) λ O=>?_;refine way (λ h=>f (.inr (.inl (yQ.1 h)))) λ N=>?_;refine way (λ h=>f (.inr (.inr (yQ.1 h)))) λ D=>?_;refine way (λ h=>?_) λ C=>?_
     ·have d:t.name=qfZ:=yQ.1 h;rw[qDW (show(apT t.name ks).name=qfZ from d)];have o:isN (apT t.name ks) qfZ=true:=yO.2 ⟨rfl,d⟩;have q0:=qbn (apT t.name ks) 0;have Z:=qbn (apT t.name ks) 1;refine waw (qc2 (t:=apT t.name ks) (i:=0) r o (a:=2) (b:=2) (c:=1) (by decide) (by decide)) (waw (qc2 (t:=apT t.name ks) (i:=1) r o (a:=2) (b:=2) (c:=1) (by decide) (by decide)) ?_);exact wat (qJ2 _ _ (qbj qah qbR rfl r 0) (by omega) (by omega)) (wau _)
     ·rw[qzw (t:=apT t.name ks) (show isD t.name=false from by
         rw[<- kP];intro l;unfold isD at l;simp only[kh,beq_iff_eq]at l;rcases l with((((d | d) | d) | d) | d) | d
         ·exact jS.1 V d
         ·exact jS.1 U d
         ·exact jS.1 B d
         ·exact jS.1 A d
         ·exact jS.1 S d
         ·exact jS.1 R d) (jS.1 Q) (λ h=>by rcases h with h | h | h;exact jS.1 O h;exact jS.1 N h;exact jS.1 D h) (jS.1 C)]
      exact wau _)
    (λ i x u l g M K z q=>by
     refine waB ?_;simp only[qlP,qdn,ql];have p:=wa u;have I:=jJ t x p;rw[qBP l];refine wav g (waw M (wat (F x p (by omega) (y x p)) (way (λ h=>?_) λ h=>?_)))
     ·rw[bnt,qh]at h;rw[if_pos (show(if(zN x).2≠0 then(zN x).2 else erN (t.kids.drop (i+1)))≠0 from by rw[if_pos h];exact h),if_pos h];exact wau _
     ·rw[bnf,qk]at h;rw[if_neg (show ¬ (zN x).2≠0 from by omega)];have A:(nks (t.kids.take i)).length<=t.kids.length:=by rw[qs9,wm];omega
      refine wav (qD (by omega) (by omega)) ?_
      have z:=z λ k j=>by
       rw[zq u]at j;rcases ww.1 j with j | j
       ·exact q k j
       ·rw[wH.1 j];exact h
      rw[K];refine z.congr λ m k=>?_;rw[qDQ u])
   have J:=n;refine waC (L := λ m k=>Jl m (yC m) k t.kids t.kids.length 0 t.kind t.name t.sort t.kids 0 [] 0 3 t.name 0 [] []) ?_;exact(s 0 (we _)) (λ k j=>by rw[xF]at j;cases j)
theorem qGX(t:T):size t<=2000->zl t=0->qfX t->Ev (λ m _=>je m t) (zN t):=by
 induction t using T.ind with
 | h t G =>
   intro hs E o;have hl:=yz t;have hz:=qL t;refine waA ?_;simp only[qxX,qeo,ql];by_cases g:t.kind=3
   rotate_left
   ·refine wav (bnt.2 (qh.2 g)) (waz (qjV g).symm)
   refine wax (bnf.2 (qk.2 g)) ?_;rw[qFk g];have y:=(qdc g E).2
   have u:=qr (P := λ i=>(∀ k∈t.kids.take i,(zN k).2=0)->Ev (λ m k=>JP m (je m) k i t.kind t.name t.sort t.kids 0 [] 0 [] (nks (t.kids.take i))) (if erN (t.kids.drop i)≠0 then(zT,erN (t.kids.drop i))else qab (apT t.name (nks t.kids)))) t.kids (by omega)
    (λ e p=>by
     refine waB ?_;simp only[qnR,qeb,ql];refine wax e ?_;rw[wC]at p |-
     rw[wT,if_neg (show ¬ erN []≠0 from λ h=>h rfl)];obtain⟨s,c2⟩:=qFT g E p
     have F:qfX (apT t.name (nks t.kids)):=qFK _ _ λ k f=>by
      obtain⟨q,H,rfl⟩:=wy.1 f;obtain⟨j,K,rfl⟩:=wy.1 H;exact qNx qrR qB6 qFK j (qrR t g o j K)
     have X:=qIj t.kids;have W:szL t.kids+1=size t:=by unfold szL;omega
     have I:=qs9 t.kids;generalize nks t.kids=ks at *;have V:size (apT t.name ks)=1+szL ks:=qL _
     have d:t.name=qe8\/t.name=JB\/t.name=qj5->Ev (λ m _=>qa (qdT m (apT t.name ks)) λ w=>some (w.1,w.2)) (qab (apT t.name ks)) := λ l=>by
      rw[qBY (show(apT t.name ks).name=qe8\/(apT t.name ks).name=JB\/(apT t.name ks).name=qj5 from l)];have S:=qjW (apT t.name ks)
      have:Ev (λ m _=>qdT m (apT t.name ks)) (qnz (apT t.name ks)):=by
       refine waA ?_;simp only[qwu,qgI,ql];unfold qnz;refine wat (qCb _ (by omega)) (way (λ h=>?_) λ h=>?_)
       ·rw[bnt,qh]at h;rw[if_pos h];exact wau _
       ·rw[bnf,qk]at h;rw[if_neg (by omega)];exact wat (qC6 _ (by omega)) (wau _)
      exact wat this (wau _)
     have D:=jT ks;refine wat (qfu t.name ks (by omega)) (wat (qyD t.name) (way (λ h=>?_) λ U=>?_))
     ·have r:=(qHS t.name).1 (qk.1 h);rw[qDd (show isD (apT t.name ks).name=true from r)];exact wat (qEe _ rfl s F r (by omega)) (wau _)
     refine way (λ h=>?_) λ R=>?_
     ·rw[qBR (show(apT t.name ks).name=qc5 from yQ.1 h)];exact wat (qNz ks (by omega)) (wau _)
     refine way (λ h=>d (.inl (yQ.1 h))) λ Q=>?_;refine way (λ h=>d (.inr (.inl (yQ.1 h)))) λ O=>?_;refine way (λ h=>d (.inr (.inr (yQ.1 h)))) λ B=>?_;refine way (λ h=>?_) λ A=>?_
     ·have C:t.name=qfZ:=yQ.1 h;rw[qDW (show(apT t.name ks).name=qfZ from C)];have n:isN (apT t.name ks) qfZ=true:=yO.2 ⟨rfl,C⟩;have Z:=qbn (apT t.name ks) 0;have Y:=qbn (apT t.name ks) 1;refine waw (qc2 (t:=apT t.name ks) (i:=0) s n (a:=2) (b:=2) (c:=1) (by decide) (by decide)) (waw (qc2 (t:=apT t.name ks) (i:=1) s n (a:=2) (b:=2) (c:=1) (by decide) (by decide)) ?_);exact wat (qKa _ _ (qbj qah qbR rfl s 0) (by omega) (by omega)) (wau _)
     ·rw[qzw (t:=apT t.name ks) (show isD t.name=false from by
         rw[<- kP,<- qHS];exact qh.1 U) (jS.1 R) (λ h=>by rcases h with h | h | h;exact jS.1 Q h;exact jS.1 O h;exact jS.1 B h) (jS.1 A)]
      exact wau _)
    (λ i x v r e N M z p=>by
     refine waB ?_;simp only[qnR,qeb,ql];have l:=wa v;have J:=jJ t x l;rw[qBP r];refine wav e (waw N (wat (G x l (by omega) (y x l) (qrR t g o x l)) (way (λ h=>?_) λ h=>?_)))
     ·rw[bnt,qh]at h;rw[if_pos (show(if(zN x).2≠0 then(zN x).2 else erN (t.kids.drop (i+1)))≠0 from by rw[if_pos h];exact h),if_pos h];exact wau _
     ·rw[bnf,qk]at h;rw[if_neg (show ¬ (zN x).2≠0 from by omega)];have S:(nks (t.kids.take i)).length<=t.kids.length:=by rw[qs9,wm];omega
      refine wav (qD (by omega) (by omega)) ?_
      have z:=z λ k f=>by
       rw[zq v]at f;rcases ww.1 f with f | f
       ·exact p k f
       ·rw[wH.1 f];exact h
      rw[M];refine z.congr λ m k=>?_;rw[qDQ v])
   refine waC (L := λ m k=>JP m (je m) k 0 t.kind t.name t.sort t.kids 0 [] 0 [] []) ?_;exact(u 0 (we _)) (λ k f=>by rw[xF]at f;cases f)
theorem qkH(t:T):qlo t=if qcj t≠0 then(zT,qcj t)else if(zN t).2≠0 then(zT,(zN t).2)else if qS (zN t).1≠0 then(zT,qS (zN t).1)else zN t:=rfl
theorem qGq(t:T)(d:size t<=1000000000):Ev (λ m _=>qgh m t) (qlo t):=by
 refine waA ?_;simp only[qvG,qgU,ql];rw[qkH];refine wat (qF8 t d) (way (λ h=>?_) λ h=>?_)
 ·rw[bnt,qh]at h;rw[if_pos h];exact wau _
 rw[bnf,qk]at h;rw[if_neg (by omega)];obtain⟨c,e⟩:=qrU h;have f:=QZ c;have g:=qyk t;refine wat (qJt t (by omega) e) (way (λ a=>?_) λ a=>?_)
 ·rw[qk]at a;rw[if_neg (by omega)];refine wat (qdf _ (by omega)) (way (λ b=>?_) λ b=>?_)
  ·rw[bnt,qh]at b;rw[if_pos b];exact wau _
  ·rw[bnf,qk]at b;rw[if_neg (by omega)];exact waz (by rw[<- a])
 ·rw[qh]at a;rw[if_pos a];exact wav (bnt.2 (qh.2 a)) (wau _)
theorem qGJ(t:T)(d:size t<=1000000000):Ev (λ m _=>qix m t) (qlo t):=by
 refine waA ?_;simp only[qyM,qhJ,ql];rw[qkH];refine wat (qyE t d) (way (λ h=>?_) λ h=>?_)
 ·rw[bnt,qh]at h;rw[if_pos h];exact wau _
 rw[bnf,qk]at h;rw[if_neg (by omega)];obtain⟨c,e⟩:=qrU h;have f:=QZ c;have g:=qyk t;refine wat (qGX t (by omega) e (qJz t (qEu c))) (way (λ a=>?_) λ a=>?_)
 ·rw[bnt,qh]at a;rw[if_pos a];exact wau _
 rw[bnf,qk]at a;rw[if_neg (by omega)];refine wat (qde _ (by omega)) (way (λ b=>?_) λ b=>?_)
 ·rw[bnt,qh]at b;rw[if_pos b];exact wau _
 ·rw[bnf,qk]at b;rw[if_neg (by omega)];exact waz (by rw[<- a])
theorem qxk(t:T):size (qlo t).1<=400:=by
 rw[qkH];have:=qlm;split
 ·show size zT<=_;omega
 ·split
  ·show size zT<=_;omega
  ·split
   ·show size zT<=_;omega
   ·rename_i h;exact QZ (kY h)
end Go.AmZ
namespace Go.AmZ
open Go Go.GxZ
def qf8(p:List UInt8->Bool):T->Bool:=T.para λ t a=>(!(t.kind==3)||p t.name)&&a.all id
theorem qrn(p:List UInt8->Bool)(t:T):qf8 p t=((!(t.kind==3)||p t.name)&&(t.kids.map (qf8 p)).all id):=T.para_eq _ _
def JA:T->List T:=T.para λ t a=>t::a.flatten
theorem qg5(t:T):JA t=t::(t.kids.map JA).flatten:=T.para_eq _ _
theorem qqr(t:T):(JA t).length=size t:=by
 refine T.ind (P := λ t=>(JA t).length=size t) ?_ t;intro t a;rw[qg5,qL,wu,List.length_flatten,xi];have:t.kids.map (List.length ∘ JA)=t.kids.map size:=k8 λ k b=>a k b;rw[this];omega
theorem qMW(t:T):∀ u∈JA t,size u<=size t:=by
 refine T.ind (P := λ t=>∀ u∈JA t,size u<=size t) ?_ t;intro t c u a;rw[qg5]at a;rcases wx.1 a with rfl | a
 ·exact wb _
 ·obtain⟨l,d,a⟩:=wai.1 a;obtain⟨k,b,rfl⟩:=wy.1 d;have f:=c k b u a;have e:=jJ t k b;omega
theorem qGD(p:List UInt8->Bool)(t:T):(JA t).all (λ u => !(u.kind==3)||p u.name)=qf8 p t:=by
 refine T.ind (P := λ t=>(JA t).all (λ u => !(u.kind==3)||p u.name)=qf8 p t) ?_ t;intro t b;rw[qg5,qrn,kC,List.all_flatten];congr 1;rw[waf,waf];rw[xh,wv,wv];exact⟨λ h k a=>(b k a).symm.trans (h k a),λ h k a=>(b k a).trans (h k a)⟩
def pPl(n:List UInt8):Bool:=qf (ieq (qH n).2.2 3)
theorem qIY(n:List UInt8):Ev (λ m _=>qfd m n) (pPl n):=by
 refine waA ?_;simp only[quB,qfU];refine wat (qzJ n) (waz ?_);unfold pPl;rw[<- qt9]
theorem qI8(t:T):size t<=1000000000->Ev (λ m _=>zc m t) (qf8 pPl t):=by
 induction t using T.ind with
 | h t j =>
   intro r;have s:=yz t;refine waA ?_;simp only[qqj,qaq]
   have d:=qr (P := λ i=>Ev (λ m k=>yH m (zc m) k t.kids t.kids.length i) (((t.kids.drop i).map (qf8 pPl)).all id)) t.kids (by omega)
    (λ f=>by
     refine waB ?_;simp only[qhj,qao];refine wax f (waz ?_);rw[wT];rfl)
    (λ i x l p f o n q=>by
     refine waB ?_;simp only[qhj,qao,ql];have g:=wa l;have u:=jJ t x g;rw[p,wo,kC];refine wav f (waw o (wat (j x g (by omega)) (way (λ b=>?_) λ b=>?_)))
     ·rw[bnt]at b;rw[b];exact wau _
     ·rw[bnf]at b;rw[b,n];exact q)
   have a:Ev (λ m _=>yH m (zc m) m t.kids t.kids.length 0) ((t.kids.map (qf8 pPl)).all id) :=
    waC (L := λ m k=>yH m (zc m) k t.kids t.kids.length 0) ((d 0 (we _)).res (by rw[wO]))
   rw[qrn];refine way (λ c=>?_) λ c=>?_
   ·rw[qk]at c;have e:(!(t.kind==3))=false:=by rw[c];rfl
    rw[e,xT];refine wat (qIY t.name) (way (λ h=>?_) λ h=>?_)
    ·rw[bnt]at h;rw[h];exact wau _
    ·rw[bnf]at h;rw[h];exact a
   ·rw[qh]at c;have e:(!(t.kind==3))=true:=by rw[wV,beq_eq_false_iff_ne];exact c
    rw[e,xB];exact a
theorem qE7(t:T):size t<=1000000000->Ev (λ m _=>Qm m t) (JA t):=by
 induction t using T.ind with
 | h t n =>
   intro r;have s:=yz t;have b:=qqr t;refine waA ?_;simp only[qD4,qis,ql];rw[qg5]at b |-
   have a:∀ i,((t.kids.take i).map JA).flatten.length<=(t.kids.map JA).flatten.length := λ i=>by
    have:=congrArg (λ l=>(l.map JA).flatten.length) (kz i t.kids);simp only[wS,xo,wc]at this;omega
   have c:=qr (P := λ i=>Ev (λ m k=>qcs m (Qm m) k i t.kind t.name t.sort t.kids (t::((t.kids.take i).map JA).flatten)) (t::(t.kids.map JA).flatten)) t.kids (by omega)
    (λ d=>by
     refine waB ?_;simp only[qrA,qic];refine wax d ?_;rw[wC];exact wau _)
    (λ i x f u d p o j=>by
     refine waB ?_;simp only[qrA,qic,ql];have g:=wa f;have v:=jJ t x g;have q:=a (i+1)
     have e:((t.kids.take (i+1)).map JA).flatten=((t.kids.take i).map JA).flatten++JA x:=by
      rw[zq f,wS,xo];simp
     rw[e,wc]at q;rw[e]at j;rw[wu]at b;refine wav d (waw p (wat (n x g (by omega)) (wav (qD (by rw[wu];omega) (by omega)) ?_)));rw[o];exact j)
   refine waC (L := λ m k=>qcs m (Qm m) k 0 t.kind t.name t.sort t.kids [t]) ?_;exact c 0 (we _)
def JL(t:T):Bool:=decide ((qlo t).2=0)&&(jk (qlo t).1 t&&qf8 pPl t)
theorem qzi(t:T)(a:size t<=1000000000):Ev (λ m _=>qeR m t) (JL t):=by
 have c:=qxk t;refine waA ?_;simp only[qyT,qho,ql];unfold JL;refine wat (qGq t a) (way (λ h=>?_) λ h=>?_)
 ·rw[qk]at h;rw[decide_eq_true h,w7];refine wat (qpK _ _ (by omega) a) (way (λ b=>?_) λ b=>?_)
  ·rw[b,w7];exact wat (qI8 t a) (wau _)
  ·rw[b,xb];exact wau _
 ·rw[qh]at h;rw[decide_eq_false h,xb];exact wau _
theorem qzU(t:T)(e:size t<=1000000000):Ev (λ m _=>qf7 m t) (JL t):=by
 have s:=qxk t;refine waA ?_;simp only[qAc,qfO,ql];unfold JL;refine wat (qGJ t e) (way (λ h=>?_) λ h=>?_)
 ·rw[bnt,qh]at h;rw[decide_eq_false h,xb];exact wau _
 rw[bnf,qk]at h;rw[decide_eq_true h,w7,qvC];refine wat (qgQ _ _ e (by omega)) (way (λ c=>?_) λ c=>?_)
 ·rw[bnt]at c;rw[c,xb];exact wau _
 rw[bnf]at c;rw[c,w7,<- qGD];refine wat (qE7 t e) ?_;have p:=qqr t;generalize JA t=l at *
 have d:=qr (P := λ i=>Ev (λ m k=>qaA m k l i) ((l.drop i).all λ u => !(u.kind==3)||pPl u.name)) l (by omega)
  (λ g=>by
   refine waB ?_;simp only[qo4,qfE];refine wax g (waz ?_);rw[wT];rfl)
  (λ i x r q g n j o=>by
   refine waB ?_;simp only[qo4,qfE];rw[q,kC];refine wav g (waw n (way (λ b=>?_) λ b=>?_))
   ·rw[qk]at b;have f:(!(x.kind==3))=false:=by rw[b];rfl
    rw[f,xT];refine waw n (wat (qyD x.name) (way (λ a=>?_) λ a=>?_))
    ·have:pPl x.name=false:=by unfold pPl;rw[a];rfl
     rw[this];exact wau _
    ·rw[j];refine o.res ?_;have:pPl x.name=true:=by unfold pPl;rw[a];rfl
     rw[this];rfl
   ·rw[qh]at b;have f:(!(x.kind==3))=true:=by rw[wV,beq_eq_false_iff_ne];exact b
    rw[f,xB,j,w7];exact o)
 refine waC (L := λ m k=>qaA m k l 0) ?_;exact(d 0 (we _)).res (by rw[wO])
end Go.AmZ
namespace Go.AmZ
open Go Go.GxZ Go.Sort Go.Proofs Go.Proofs.YtckmkimhkhilgaaGreat
def zQ(k:Int)(t:T):List T:=(JA t).filter λ x=>decide (x.kind=k)
def qfM(t:T):Bool:=(zQ 1 t).isEmpty
theorem qsz(k:Int)(t:T):zQ k t=(if t.kind=k then[t]else[])++(t.kids.map (zQ k)).flatten:=by
 unfold zQ;rw[qg5,vD,List.filter_flatten,xi];by_cases h:t.kind=k<;>simp[h,vy,zQ]
theorem qkC(k:Int)(t:T):(zQ k t).length<=size t:=by
 have:=xw (λ x:T=>decide (x.kind=k)) (JA t);rw[qqr]at this;exact this
theorem qy4(k:Int)(t:T):∀ u∈zQ k t,size u<=size t := λ u a=>qMW t u ((kG.1 a).1)
theorem qGf{s:Nat}:∀{l:List T},(∀ u∈l,size u<=s)->szL l<=l.length*s
 | [],_=>by simp[szL]
 | x::l,h=>by
   have:=qGf λ u a=>h u (wg _ a);have b:=h x (wh ..);rw[qR,wu,kU];omega
theorem qKR(x:T)(k:Int)(l:List T)(b:l.length<=1000000000):Ev (λ m _=>qaJ m x k l) ((k,l++(if x.kind=k then[x]else[]),()),()):=by
 refine waA ?_;simp only[qoh,qbI,ql];by_cases h:x.kind=k
 ·rw[if_pos h];refine wav (qk.2 h) (wav (qD (by omega) (by omega)) (waw (a:=T.mk 0 [] 0 []) (by rw[qU];simp) (waz ?_)));rw[QI];simp
 ·rw[if_neg h,wB];exact wax (qh.2 h) (wau _)
theorem qM2(t:T)(k:Int):size t<=1000000000->∀ l:List T,l.length+size t<=1000000000->Ev (λ m _=>zJ m t k l) ((k,l++zQ k t,()),()):=by
 induction t using T.ind with
 | h t v =>
   intro C l D;have w:=yz t;refine waA ?_;simp only[qss,qbw,ql];refine wat (qKR t k l (by omega)) ?_;simp only;obtain⟨b,a⟩:∃ b,b=l++(if t.kind=k then[t]else[]):=⟨_,rfl⟩
   rw[<- a];have j:=qkC k t;rw[qsz,wc]at j;have r:b.length+((t.kids.map (zQ k)).flatten).length=l.length+((if t.kind=k then[t]else[]).length+((t.kids.map (zQ k)).flatten).length):=by rw[a,wc];omega
   have p:∀ i,((t.kids.take i).map (zQ k)).flatten.length<=(t.kids.map (zQ k)).flatten.length := λ i=>by
    have:=congrArg (λ l=>(l.map (zQ k)).flatten.length) (kz i t.kids);simp only[wS,xo,wc]at this;omega
   have g:∀ i x,t.kids[i]?=some x->b.length+((t.kids.take i).map (zQ k)).flatten.length+size x<=1000000000 := λ i x c=>by
    have B:((t.kids.take i).map (zQ k)).flatten.length<=szL (t.kids.take i):=by
     have o:∀ l:List T,((l.map (zQ k)).flatten).length<=szL l:=by
      intro l
      induction l with
      | nil=>simp[szL]
      | cons y l u=>rw[wo,vx,wc,qR];have:=qkC k y;omega
     exact o _
    have H:=Qy c;have G:szL t.kids+1<=size t:=by rw[qL];unfold szL;omega
    have F:b.length<=l.length+1:=by rw[a,wc];split<;>simp
    omega
   have f:=qr (P := λ i=>Ev (λ m d=>Qb m (zJ m) d t.kids t.kids.length i k (b++((t.kids.take i).map (zQ k)).flatten)) ((k,b++(t.kids.map (zQ k)).flatten,()),())) t.kids (by omega)
    (λ n=>by
     refine waB ?_;simp only[qiB,qby];refine wax n ?_;rw[wC];exact wau _)
    (λ i x c E n A z s=>by
     refine waB ?_;simp only[qiB,qby,ql];have q:=wa c;have B:=jJ t x q;refine wav n (waw A (wat (v x q (by omega) _ (by rw[wc];exact g i x c)) ?_));rw[z]
     have e:((t.kids.take (i+1)).map (zQ k)).flatten=((t.kids.take i).map (zQ k)).flatten++zQ k x:=by
      rw[zq c,wS,xo];simp
     rw[e,<- wi]at s;exact s)
   rw[qsz,<- wi,<- a];refine waC (L := λ m d=>Qb m (zJ m) d t.kids t.kids.length 0 k b) ?_;have:=f 0 (we _);simpa using this
theorem qNG{F G:T->T->Option Int}{l:List T}(h:∀ x∈l,∀ y∈l,F x y=G x y):Jz F l=Jz G l:=by
 funext i j;unfold Jz;cases b:l[i % l.length]? with
 | none=>rfl
 | some x=>cases a:l[j % l.length]? with
   | none=>rfl
   | some y=>simp only;rw[h x (wa b) y (wa a)]
theorem qzE{a:Type}{F:T->T->Option a}{l:List T}(h:∀ x∈l,∀ y∈l,(F x y).isSome=true):qda F l=true :=
 wv.2 λ x c=>wv.2 λ y b=>h x c y b
theorem qNg{n:Nat}{lt:Nat->Nat->Bool}(h:SWO lt):qtT n lt=true:=by
 unfold qtT;refine wv.2 λ i _=>?_;rw[wd];refine⟨by rw[h.irrefl];rfl,wv.2 λ j _=>wv.2 λ k _=>?_⟩;rw[wd];constructor
 ·cases b:lt i j with
  | false=>rfl
  | true=>cases a:lt j k with
    | false=>rfl
    | true=>rw[h.trans i j k b a];rfl
 ·cases b:lt i j with
  | true=>rfl
  | false=>cases a:lt j k with
    | true=>rfl
    | false=>rw[h.ntrans i j k b a];rfl
theorem qPY(l:List T):SWO (ltOf (Jz (λ x y=>some (qu x y)) l)):=by
 have hlt:∀ i j,ltOf (Jz (λ x y=>some (qu x y)) l) i j=true↔∃ x y,l[i % l.length]?=some x/\l[j % l.length]?=some y/\qu x y=-1 := λ i j=>by
  unfold ltOf Jz;rw[decide_eq_true_iff];cases hx:l[i % l.length]? with
  | none=>simp
  | some x=>cases hy:l[j % l.length]? with
    | none=>simp
    | some y =>
      simp only[Option.getD_some];have:=ye.rng x y;constructor
      ·intro h;exact⟨x,y,rfl,rfl,by omega⟩
      ·rintro⟨_,_,h1,h2,h3⟩;cases h1;cases h2;omega
 refine⟨λ i=>?_,λ i j k h1 h2=>?_,λ i j k h1 h2=>?_⟩
 ·rw[Bool.eq_false_iff];intro h;obtain⟨x,y,h1,h2,h3⟩:=(hlt _ _).1 h;rw[h1]at h2;cases h2;rw[qst]at h3;cases h3
 ·obtain⟨x,y,a1,a2,a3⟩:=(hlt _ _).1 h1;obtain⟨y',z,b1,b2,b3⟩:=(hlt _ _).1 h2;rw[a2]at b1;cases b1;exact(hlt _ _).2 ⟨x,z,a1,b2,ye.trans x y z a3 b3⟩
 ·rw[Bool.eq_false_iff]at h1 h2 |-
  intro h;obtain⟨x,z,a1,a2,a3⟩:=(hlt _ _).1 h;have hn:0<l.length:=by have:=getElem?_lt a1;omega
  obtain⟨y,hj⟩:∃ y,l[j % l.length]?=some y:=⟨_,List.getElem?_eq_getElem (xU _ hn)⟩
  have n1:qu x y≠-1 := λ he=>h1 ((hlt _ _).2 ⟨x,_,a1,hj,he⟩);have n2:qu y z≠-1 := λ he=>h2 ((hlt _ _).2 ⟨_,z,hj,a2,he⟩);have r1:=ye.rng x y;have r2:=ye.rng y z;rcases r1 with r1 | r1 | r1
  ·exact n1 r1
  ·have:=qaX _ _ r1;rw[<- this]at n2;exact n2 a3
  ·rcases r2 with r2 | r2 | r2
   ·exact n2 r2
   ·have:=qaX _ _ r2;rw[this]at n1;exact n1 a3
   ·have e1:qu y x=-1:=by rw[ye.anti];omega
    have e2:qu z y=-1:=by rw[ye.anti];omega
    have e3:=ye.trans _ _ _ e2 e1;have e4:=ye.anti x z;omega
theorem qBo{k:Type}{F:Nat->T->T->Option k}{g:T->T->k}(l:List T)(h:∀ x∈l,∀ y∈l,Ev (λ m _=>F m x y) (g x y)):∃ B,∀ m,B<=m->∀ x∈l,∀ y∈l,F m x y=some (g x y):=by
 have d:∀(x:T),(∀ y∈l,Ev (λ m _=>F m x y) (g x y))->∀ r:List T,(∀ y∈r,y∈l)->∃ B,∀ m,B<=m->∀ y∈r,F m x y=some (g x y):=by
  intro x n r
  induction r with
  | nil=>exact λ _=>⟨0,λ _ _ y f=>by cases f⟩
  | cons y r e =>
    intro b;obtain⟨B,j⟩:=e λ z a=>b z (wg _ a);obtain⟨D,i⟩:=n y (b y (wh ..));refine⟨max B D,λ m o z a=>?_⟩;rcases wx.1 a with rfl | a
    ·exact i m D (by omega) (wb _)
    ·exact j m (by omega) z a
 have c:∀ r:List T,(∀ y∈r,y∈l)->∃ B,∀ m,B<=m->∀ x∈r,∀ y∈l,F m x y=some (g x y):=by
  intro r
  induction r with
  | nil=>exact λ _=>⟨0,λ _ _ y f=>by cases f⟩
  | cons x r e =>
    intro b;obtain⟨B,j⟩:=e λ z a=>b z (wg _ a);obtain⟨D,i⟩:=d x (h x (b x (wh ..))) l λ _ h=>h;refine⟨max B D,λ m o z a=>?_⟩;rcases wx.1 a with rfl | a
    ·exact i m (by omega)
    ·exact j m (by omega) z a
 exact c l λ _ h=>h
theorem qDR{α : Type}{l:List α}{b:List Nat}:∀ x∈pick l b,x∈l := λ x a=>by
 unfold pick at a;obtain⟨i,_,h⟩:=xa.1 a;exact wa h
theorem qNH(l:List T)(hl:l.length<=100000)(hs:∀ t∈l,size t<=1000000000):∃ l',Ev (λ m _=>zb m l) l'/\l'.length=l.length/\∀ x∈l',x∈l:=by
 cases hl0:l with
 | nil=>exact⟨[],waA (Ev.congr (wau _) λ m _=>rfl),rfl,λ x h=>h⟩
 | cons x0 r0 =>
   rw[<- hl0];obtain⟨B,hB⟩:=qBo (F := λ m x y=>qB m x y) l λ x hx y hy=>qd2 x (hs x hx) y (hs y hy);have hne:l≠[]:=by rw[hl0];exact vB _ _
   have hO:=qPY l;obtain⟨hp,_⟩:=qtI (λ x y=>some (qu x y)) l hO;have hlt:∀ i∈qbe (λ x y=>some (qu x y)) l,i<l.length := λ i hi=>kS.1 (hp.mem_iff.1 hi);refine⟨pick l (qbe (λ x y=>some (qu x y)) l),waA ⟨B,λ m k hm _=>?_⟩,by rw[qpA hlt,hp.length_eq,xm],qDR⟩;show zb (m+1) l=_;rw[qdb];have hcf:Jz (qB m) l=Jz (λ x y=>some (qu x y)) l:=qNG (hB m hm);have hall:qda (qB m) l=true:=qzE λ x hx y hy=>by rw[hB m hm x hx y hy];rfl
   have hix:qbe (qB m) l=qbe (λ x y=>some (qu x y)) l:=by unfold qbe;rw[hcf]
   have e:qs5 (qB m) l=cond (Nat.ble l.length 100000&&(qda (qB m) l&&qtT l.length (ltOf (Jz (qB m) l)))) (some (pick l (qbe (qB m) l))) none:=by rw[hl0];rfl
   rw[e,hcf,hall,hix,qNg hO,show Nat.ble l.length 100000=true from xI hl];rfl
theorem qGO(l:List T)(A:l.length<=100000)(v:∀ t∈l,size t<=1000000000):∃ r,Ev (λ m _=>qI m l) ((),r,())/\(r=[]↔l=[])/\r.length<=l.length/\∀ x∈r,x∈l:=by
 cases b:l with
 | nil=>exact⟨[],waA (Ev.congr (wau _) λ m _=>rfl),Iff.rfl,wb _,λ x h=>h⟩
 | cons D E =>
   rw[<- b]
   obtain⟨B,z⟩:=qBo (F := λ m x y=>jd m x y) (g := λ x y=>ieq (qu x y) 0) l λ x d y c=>by
    refine waA ?_;simp only[qup,qfW,ql];exact wat (qd2 x (v x d) y (v y c)) (wau _)
   have n:l≠[]:=by rw[b];exact vB _ _
   have f:0<l.length:=xg.2 n;obtain⟨a,s⟩:∃ a,a=qlv (λ x y=>some (ieq (qu x y) 0)) l:=⟨_,rfl⟩
   have o:∀ i∈zH a l.length,i<l.length:=qzV
   have p:(zH a l.length).length<=l.length:=by
    have:=xw (λ i=>decide (i=0) || !a i (i-1)) (List.range l.length);rw[xm]at this;exact this
   have C:0∈zH a l.length:=kG.2 ⟨kS.2 f,by simp⟩;refine⟨pick l (zH a l.length),waA ⟨B,λ m k w _=>?_⟩,⟨λ h=>?_,λ h=>absurd h n⟩,by rw[qpA o];exact p,qDR⟩
   ·show qI (m+1) l=_;rw[qb5]
    have u:qlv (jd m) l=a:=by
     rw[s];funext i j;unfold qlv;cases d:l[i % l.length]? with
     | none=>rfl
     | some x=>cases c:l[j % l.length]? with
       | none=>rfl
       | some y=>simp only;rw[z m w x (wa d) y (wa c)]
    have q:qda (jd m) l=true:=qzE λ x d y c=>by rw[z m w x d y c];rfl
    have e:qA4 (jd m) l=cond (Nat.ble l.length 100000&&qda (jd m) l) (some (pick l (zH (qlv (jd m) l) l.length))) none:=by rw[b];rfl
    unfold qv7;rw[e,q,u,show Nat.ble l.length 100000=true from xI A];rfl
   ·have:=qpA o;rw[h]at this;have G:=List.length_pos_of_mem C;simp at this;omega
theorem qGo(l:List T)(w:l.length<=100000)(f:∀ t∈l,size t<=1000000000):∃ o,Ev (λ m _=>qh5 m l) ((),o,())/\(o=[]↔l=[]):=by
 obtain⟨u,e1,b,n⟩:=qNH l w f;obtain⟨a,A,r,B,s⟩:=qGO u (by omega) λ t v=>f t (n t v);refine⟨a,?_,r.trans ⟨λ h=>wk (by rw[<- b,h];rfl),λ h=>wk (by rw[b,h];rfl)⟩⟩;refine waA ?_;simp only[qyQ,qeD];refine wat e1 (wav (by rw[b,Nat.beq_refl]) (wat A ?_))
 have c:=qr (P := λ i=>Ev (λ m k=>JZ m k a.length i a) ((),a,())) a (by omega)
  (λ g=>by
   refine waB ?_;simp only[qm0,qev];exact wax g (wau _))
  (λ i x d C g q y z=>by
   refine waB ?_;simp only[qm0,qev,ql];refine wav g (waw q (wat (qu1 x (f x (n x (s x (wa d))))) (waw q ?_)));rw[y]
   have e:yn a (i:Int) x=a:=by
    rw[QI];apply xd;intro j;by_cases p:i=j
    ·subst p;rw[List.getElem?_set_self (getElem?_lt d)];exact d.symm
    ·rw[List.getElem?_set_ne p]
   rw[e];exact z)
 exact waC (L := λ m k=>JZ m k a.length 0 a) (c 0 (we _))
theorem qNe(t:T)(d:size t<=100000):∃ l,Ev (λ m _=>qnP m t) l/\(l=[]↔zQ 1 t=[]):=by
 obtain⟨l,f,e⟩:=qGo (zQ 1 t) (wD (qkC 1 t) d) λ u c=>by have:=qy4 1 t u c;omega
 refine⟨l,?_,e⟩;refine waA ?_;simp only[qEg,qlW,ql];refine wat (a:=l) (waA ?_) (wau _);simp only[qAw,qiT,ql];have b:=qM2 t 1 (by omega) [] (by rw[ke];omega);rw[kV]at b;exact wat b (wat f (waz rfl))
theorem qFP(l:List T)(t:T):Jm l t≠[]:=by
 cases l with
 | nil=>simp[Jm]
 | cons x l =>
   unfold Jm
   repeat' split
   all_goals exact vB _ _
theorem qN1(l:List T)(o:szL l<=1000000000):Ev (λ m _=>qnn m l) (l.foldl Jm []):=by
 have g:=jT l;refine waA ?_;simp only[qD9,qib]
 have n:∀(l a:List T),szL (l.foldl Jm a)<=szL a+szL l:=by
  intro l
  induction l with
  | nil=>intro a;simp[szL]
  | cons x l f=>intro a;rw[kg,qR];have:=f (Jm a x);have:=qyR x a;omega
 have b:=qr (P := λ i=>Ev (λ m k=>qcm m k l ((l.take i).foldl Jm []) i) (l.foldl Jm [])) l (by omega)
  (λ c=>by
   refine waB ?_;simp only[qrF,qhS];refine wax c ?_;rw[wC];exact wau _)
  (λ i x d p c j h e=>by
   refine waB ?_;simp only[qrF,qhS,ql];have r:=n (l.take i) [];have q:=Qy d;have s:szL ([]:List T)=0:=rfl;refine wav c (waw j (wat (qIl _ x (by omega)) ?_));rw[h,qum];rw[zq d,xe]at e;exact e)
 exact waC (L := λ m k=>qcm m k l [] 0) (b 0 (we _))
theorem qIF(l:List T):l.foldl Jm []=[]↔l=[]:=by
 constructor
 ·intro h;cases d:l with
  | nil=>rfl
  | cons x r =>
    exfalso
    have b:∀(r a:List T),a≠[]->r.foldl Jm a≠[]:=by
     intro r
     induction r with
     | nil=>intro a h;exact h
     | cons y r c=>intro a _;exact c _ (qFP _ _)
    rw[d,kg]at h;exact b r _ (qFP _ _) h
 ·intro h;rw[h];rfl
theorem qKF(t:T)(k:Int)(g:size t<=10000):Ev (λ m _=>qkU m t k) ((zQ k t).foldl Jm []):=by
 refine waA ?_;simp only[qCK,qgo,ql];refine wat (qE7 t (by omega)) ?_;have h:=qqr t
 have a:szL (zQ k t)<=1000000000:=by
  have s:=qGf (qy4 k t);have r:(zQ k t).length*size t<=10000*10000:=vQ (wD (qkC k t) g) g;omega
 have d:=qr (P := λ i=>Ev (λ m c=>qa3 m c k (JA t) i (((JA t).take i).filter λ x=>decide (x.kind=k))) ((zQ k t).foldl Jm [])) (JA t) (by omega)
  (λ e=>by
   refine waB ?_;simp only[qqY,qgz];refine wax e ?_;rw[wC];exact wat (qN1 (zQ k t) a) (wau _))
  (λ i x n o e l j f=>by
   refine waB ?_;simp only[qqY,qgz,ql];have q:=xw (λ x:T=>decide (x.kind=k)) ((JA t).take i);have p:=List.length_take_le' i (JA t);rw[zq n,xH]at f;refine wav e (waw l ?_);by_cases b:x.kind=k
   ·refine wav (qk.2 b) (waw l (wav (qD (by omega) (by omega)) ?_));rw[j];simpa[b]using f
   ·refine wax (qh.2 b) ?_;rw[j];simpa[b]using f)
 exact waC (L := λ m c=>qa3 m c k (JA t) 0 []) (d 0 (we _))
theorem qI0(t:T)(c:size t<=10000):Ev (λ m _=>qhP m t) (qfM t):=by
 have b:Ev (λ m _=>qk3 m t) ((zQ 1 t).foldl Jm []):=by
  refine waA ?_;simp only[qBS,qj7,ql];exact wat (qKF t 1 c) (wau _)
 refine waA ?_;simp only[qxJ,qhX,ql];refine wat b (waz ?_);unfold qfM;by_cases h:zQ 1 t=[]
 ·rw[h];rfl
 ·have a:(zQ 1 t).foldl Jm []≠[] := λ a=>h ((qIF _).1 a);have e:0<((zQ 1 t).foldl Jm []).length:=xg.2 a;rw[qh.2 (by omega)];cases d:zQ 1 t with
  | nil=>exact absurd d h
  | cons x r=>rfl
end Go.AmZ
namespace Go.AmZ
open Go Go.GxZ
def nmL:List (List UInt8):=[[112,97,105,114],[101,110,99],[97,101,110,99],[112,107],[115,105,103,110],[104,97,115,104],[120,111,114],[122,101,114,111],[101,120,112],[109,117,108],[105,110,118],[111,110,101],[115,107],[115,104,107],[110,101,119]]
def esL:List (List UInt8 × (Int × Int)):=[([112,97,105,114],(2,2)),([101,110,99],(2,2)),([97,101,110,99],(2,2)),([112,107],(1,1)),([115,105,103,110],(2,2)),([104,97,115,104],(1,1)),([120,111,114],(2,8)),([122,101,114,111],(0,0)),([101,120,112],(2,2)),([109,117,108],(2,8)),([105,110,118],(1,1)),([111,110,101],(0,0)),([115,107],(1,1)),([115,104,107],(2,2)),([110,101,119],(1,8))]
theorem qGZ:esL.map (·.1)=nmL:=rfl
def qcg(n:List UInt8):Bool:=qy n qc5||(qy n qe8||qy n qiv)
def qqe:List (List UInt8 × (Int × Int))->List UInt8->Nat->Int
 | [],_,_=>-1
 | r::l,n,i=>if qy r.1 n=true then(i:Int)else qqe l n (i+1)
def qpY:List (List UInt8)->List UInt8->Nat->Int
 | [],_,_=>0
 | r::l,n,i=>if qy r n=true then(i:Int)else qpY l n (i+1)
theorem qIC:∀(l:List (List UInt8 × (Int × Int))) (n:List UInt8) (i:Nat),n∈l.map (·.1)->qqe l n i=qpY (l.map (·.1)) n i/\∃(j:Nat) (r:List UInt8 × (Int × Int)),qqe l n i=((i+j:Nat):Int)/\l[j]?=some r/\r.1=n
 | [],_,_,h=>by cases h
 | r::l,n,i,h=>by
   rw[qqe,wo,qpY];by_cases a:qy r.1 n=true
   ·rw[if_pos a,if_pos a];exact⟨rfl,0,r,rfl,rfl,yQ.1 a⟩
   ·rw[if_neg a,if_neg a];rw[wo]at h;rcases wx.1 h with h | h
    ·exact absurd (yQ.2 h.symm) a
    ·obtain⟨e,j,q,d,c,b⟩:=qIC l n (i+1) h;exact⟨e,j+1,q,by rw[d];omega,by simpa using c,b⟩
def hdE(n:List UInt8):Int:=iw .u8 (iw .i64 (qd 16 (qpY nmL n 0)))
def bI:T->List Int:=T.para λ t a=>if t.kind=2 then[iw .u8 t.sort,iw .u8 t.name.length]++Qw t.name else(if qcg t.name then[hdE t.name]++[iw .u8 t.kids.length]else[hdE t.name])++a.flatten
theorem qwh(t:T):bI t=if t.kind=2 then[iw .u8 t.sort,iw .u8 t.name.length]++Qw t.name else(if qcg t.name then[hdE t.name]++[iw .u8 t.kids.length]else[hdE t.name])++(t.kids.map bI).flatten:=T.para_eq _ _
def okN(u:T):Prop:=(u.kind=2\/u.kind=3/\u.name∈nmL)/\u.name.length<=24
def okE(t:T):Prop:=∀ u∈JA t,okN u
theorem qxA{t:T}(h:okE t):okN t:=h t (by rw[qg5];exact wh ..)
theorem qxW{t k:T}(h:okE t)(b:k∈t.kids):okE k := λ u a=>h u (by
 rw[qg5];exact wg _ (wai.2 ⟨_,wy.2 ⟨k,b,rfl⟩,a⟩))
theorem qqw(s:List UInt8):(Qw s).length=s.length:=wA ..
theorem qfP(s:List Int):(zK s).length=s.length:=wA ..
theorem qqc(a b:List Int):zK (a++b)=zK a++zK b:=wS ..
theorem qC1(s:List UInt8):zK (Qw s)=s:=by
 unfold zK Qw;rw[xi];refine(k8 (g:=id) λ c _=>?_).trans (List.map_id _);show UInt8.ofNat (Int.toNat ((c.toNat:Nat):Int))=c;rw[wF];exact UInt8.ofNat_toNat
theorem qO7(t:T):okE t->(bI t).length<=26*size t:=by
 induction t using T.ind with
 | h t d =>
   intro h;have f:=(qxA h).2;rw[qwh,qL];split
   ·rw[wc,qqw];show 2+_<=_;omega
   ·have c:∀ l:List T,(∀ k∈l,k∈t.kids)->((l.map bI).flatten).length<=26*(l.map size).sum:=by
      intro l
      induction l with
      | nil=>intro _;exact we _
      | cons k l a =>
        intro b;have f:=d k (b k (wh ..)) (qxW h (b k (wh ..)));have i:=a λ x e=>b x (wg _ e);rw[wo,vx,wc,wo,kD];omega
    have:=c t.kids λ _ h=>h;rw[wc];have g:(if qcg t.name=true then[hdE t.name]++[iw .u8 t.kids.length]else[hdE t.name]).length<=2:=by split<;>simp
    omega
theorem qME{n:List UInt8}(h:(qH n).2.2≠0)(a:pPl n=true):n∈nmL:=by
 have all:∀ r∈yU,r.2.2.2≠3->r.1∈nmL:=by decide
 unfold pPl at a;unfold qH at h a;cases b:yU.find? λ r=>r.1==n with
 | none=>rw[b]at h;exact absurd rfl h
 | some r =>
   rw[b]at a;have e:=List.mem_of_find?_eq_some b;have d:=List.find?_some b;have c:r.1=n:=by simpa using d
   rw[bnt,qh]at a;rw[<- c];exact all r e a
theorem qHm{t:T}(h:jM t=0):t.name.length<=24/\(t.kind=1\/t.kind=2\/t.kind=3)/\(t.kind≠3->t.kids=[]):=by
 unfold jM qjv at h
 have a:jR t.name=true->t.name.length<=24 := λ a=>by
  unfold jR at a;simp only[wd,decide_eq_true_eq]at a;exact a.1.1.2
 cases b:jR t.name with
 | false =>
   rw[b]at h;simp only[vq,if_false]at h;exfalso;revert h
   repeat' split
   all_goals omega
 | true =>
   rw[b]at h;refine⟨a b,?_,λ c=>?_⟩
   ·revert h;repeat' split
    all_goals intro h;omega
   ·apply wk;revert h;repeat' split
    all_goals intro h;omega
theorem qPD(t:T):jQ t=0->zl t=0->qf8 pPl t=true->zQ 1 t=[]->okE t:=by
 induction t using T.ind with
 | h t r =>
   intro v j e i;obtain⟨x,w⟩:=qn2 v;obtain⟨p,o,n⟩:=qHm x;rw[qrn,wd]at e;rw[qsz]at i;obtain⟨f,q⟩:=wU.1 i;have c:t.kind≠1 := λ h=>by rw[if_pos h]at f;cases f
   intro u b;rw[qg5]at b;rcases wx.1 b with rfl | b
   ·refine⟨?_,p⟩;rcases o with h | h | h
    ·exact absurd h c
    ·exact .inl h
    ·refine .inr ⟨h,?_⟩;obtain⟨z,_⟩:=qdc h j;obtain⟨m,_⟩:=quM h z;have g:=e.1;rw[show(u.kind==3)=true from beq_iff_eq.2 h]at g;exact qME m (by simpa using g)
   ·obtain⟨l,s,b⟩:=wai.1 b;obtain⟨k,a,rfl⟩:=wy.1 s
    have d:t.kind=3:=by
     by_cases h:t.kind=3
     ·exact h
     ·rw[n h]at a;cases a
    obtain⟨_,y⟩:=qdc d j;refine r k a (w k a) (y k a) ?_ ?_ u b
    ·have:=wv.1 e.2 (qf8 pPl k) (wy.2 ⟨k,a,rfl⟩);exact this
    ·exact List.flatten_eq_nil_iff.1 q _ (wy.2 ⟨k,a,rfl⟩)
end Go.AmZ
namespace Go.AmZ
open Go Go.GxZ
theorem qE4(t:T):T.mk t.kind t.name t.sort t.kids=t:=ql t
theorem qOS(t:T):Ev (λ m _=>za m esL t) ((t,()),(qqe esL t.name 0,())):=by
 refine waA ?_;simp only[JM,qP]
 have b:=qr (P := λ i=>Ev (λ m k=>qv m k esL esL.length i t.kind t.name t.sort t.kids) ((t,()),(qqe (esL.drop i) t.name i,()))) esL (by decide)
  (λ c=>by
   refine waB ?_;simp only[yT,qO];refine wax c (waz ?_);rw[wT,qqe,qE4])
  (λ i x j f c e d g=>by
   refine waB ?_;simp only[yT,qO,qE4];refine wav c (waw e ?_);refine wat (a:=((t,()),(qy x.1 t.name,()))) (waA (waz ?_)) ?_
   ·show _=_;simp only[qmP,qa4,ql]
   rw[f,qqe,d];refine way (λ h=>?_) λ h=>?_
   ·rw[if_pos h];simp only[ql];exact wau _
   ·rw[if_neg (by rw[show qy x.1 t.name=false from h];decide)];exact g)
 exact waC (L := λ m k=>qv m k esL esL.length 0 t.kind t.name t.sort t.kids) (b 0 (we _))
theorem qMS(n:List UInt8):Ev (λ m _=>qjw m n) (qpY nmL n 0):=by
 refine waA ?_;simp only[qAR,qfw];refine wat (a:=nmL) (waA (wau _)) ?_
 have b:=qr (P := λ i=>Ev (λ m k=>qaD m k n nmL i) (qpY (nmL.drop i) n i)) nmL (by decide)
  (λ c=>by
   refine waB ?_;simp only[qow,qfl];refine wax c (waz ?_);rw[wT,qpY])
  (λ i x j f c e d g=>by
   refine waB ?_;simp only[qow,qfl];refine wav c (waw e ?_);rw[f,qpY,d];refine way (λ h=>?_) λ h=>?_
   ·rw[if_pos h];exact wau _
   ·rw[if_neg (by rw[h];decide)];exact g)
 exact waC (L := λ m k=>qaD m k n nmL 0) (b 0 (we _))
theorem qFh(n:List UInt8):Ev (λ m _=>qdM m n) (qcg n):=by
 refine waA ?_;simp only[qv2,qgH];unfold qcg;refine way (λ h=>waz ?_) λ h=>way (λ a=>waz ?_) λ a=>waz ?_
 ·rw[show qy n qc5=true from h];rfl
 ·rw[show qy n qc5=false from h,show qy n qe8=true from a];rfl
 ·rw[show qy n qc5=false from h,show qy n qe8=false from a];rfl
theorem qH9:∀ r∈esL,qf (ieq r.2.1 r.2.2)=qcg r.1:=by decide
theorem qzs(t:T)(i:Nat):((t.kids.take i).map bI).flatten.length<=(t.kids.map bI).flatten.length:=by
 have:=congrArg (λ l=>(l.map bI).flatten.length) (kz i t.kids);simp only[wS,xo,wc]at this;omega
theorem qm9{t x:T}{i:Nat}(a:t.kids[i]?=some x):((t.kids.take (i+1)).map bI).flatten=((t.kids.take i).map bI).flatten++bI x:=by
 rw[zq a,wS,xo];simp
theorem qKM(t:T):okE t->size t<=100000->∀ c:List Int,c.length+(bI t).length<=1000000000->Ev (λ m _=>zW m c t) ((),(c++bI t,())):=by
 induction t using T.ind with
 | h t B =>
   intro f J c C;obtain⟨l,K⟩:=qxA f;refine waA ?_;simp only[quv,qcL,ql];rcases l with l | ⟨l,g⟩
   ·rw[qwh,if_pos l];refine wav (bnt.2 (qh.2 (by omega))) ?_;refine wav (qD (by omega) (by omega)) ?_;refine wav (qD (by rw[wc,qqw];show(c.length+2+_)*1<=_;omega) (by omega)) (waz ?_);rw[wi]
   ·have q:t.kind≠2:=by omega
    refine wax (bnf.2 (qk.2 l)) ?_;obtain⟨A,j,r,v,u,z⟩:=qIC esL t.name 0 (by rw[qGZ];exact g);rw[wG]at v;refine wat (a:=esL) (waA (wau _)) (wat (qOS t) ?_);refine wav (qD (by omega) (by omega)) (wat (a:=esL) (waA (wau _)) (waw (a:=r) (by rw[v,qU,u]) ?_));refine wat (a:=qcg t.name) (waA (waz ?_)) ?_
    ·simp only[qeg,QD];rw[<- z];exact qH9 r (wa u)
    rw[show iw .u8 (iw .i64 (qd 16 (qqe esL t.name 0)))=hdE t.name by unfold hdE;rw[A,qGZ]];obtain⟨e,b⟩:∃ e,e=(if qcg t.name then[hdE t.name]++[iw .u8 (t.kids.length:Int)]else[hdE t.name]):=⟨_,rfl⟩
    have w:bI t=e++(t.kids.map bI).flatten:=by rw[qwh,if_neg q,b]
    rw[w,wc]at C;have D:=yz t
    have o:=qr (P := λ i=>Ev (λ m k=>jY m (zW m) k t.kids t.kids.length i ((c++e)++((t.kids.take i).map bI).flatten)) ((),(c++bI t,()))) t.kids (by omega)
     (λ s=>by
      refine waB ?_;simp only[qkp,qcz];refine wax s (waz ?_);rw[wC,w,wi])
     (λ i x p G s F E y=>by
      refine waB ?_;simp only[qkp,qcz,ql];have g:=wa p;have M:=jJ t x g;have I:=qzs t (i+1);rw[qm9 p,wc]at I;refine wav s (waw F (wat (B x g (qxW f g) (by omega) _ (by rw[wc,wc];omega)) ?_));rw[qm9 p,<- wi]at y;rw[E];exact y)
    have d:=o 0 (we _);rw[xF,vt,List.flatten_nil,wB]at d;cases n:qcg t.name with
    | true =>
      rw[n]at b;have b:e=[hdE t.name]++[iw .u8 (t.kids.length:Int)]:=b;have H:e.length=2:=by rw[b];rfl
      rw[b,<- wi]at d;exact wav rfl (wav (qD (by rw[wc];show(c.length+1+1)*1<=_;omega) (by omega)) (waC (L := λ m k=>jY m (zW m) k t.kids t.kids.length 0 _) d))
    | false =>
      rw[n]at b;have b:e=[hdE t.name]:=b;rw[b]at d;exact wax rfl (waC (L := λ m k=>jY m (zW m) k t.kids t.kids.length 0 _) d)
theorem qJD(t:T):okE t->size t<=100000->(bI t).length<=1000000000->Ev (λ m _=>ji m t) (zK (bI t)):=by
 induction t using T.ind with
 | h t r =>
   intro d A s;obtain⟨f,B⟩:=qxA d;refine waA ?_;simp only[qAO,qfk];rcases f with f | ⟨f,j⟩
   ·rw[qwh,if_pos f,qqc,qC1];exact wav (qk.2 f) (wav (qi9 (by rw[qfP];show 2+_<_;omega)) (wau _))
   ·have e:t.kind≠2:=by omega
    refine wax (qh.2 e) (wat (qMS t.name) (wat (qFh t.name) ?_));rw[show iw .u8 (iw .i64 (qd 16 (qpY nmL t.name 0)))=hdE t.name from rfl];obtain⟨c,a⟩:∃ c,c=(if qcg t.name then[hdE t.name]++[iw .u8 (t.kids.length:Int)]else[hdE t.name]):=⟨_,rfl⟩
    have p:bI t=c++(t.kids.map bI).flatten:=by rw[qwh,if_neg e,a]
    rw[p,wc]at s;have u:=yz t
    have l:=qr (P := λ i=>Ev (λ m k=>Jx m (ji m) k (zK (c++((t.kids.take i).map bI).flatten)) i t.kind t.name t.sort t.kids) (zK (bI t))) t.kids (by omega)
     (λ o=>by
      refine waB ?_;simp only[qop,qfy];refine wax o (waz ?_);rw[wC,p])
     (λ i x n y o w v q=>by
      refine waB ?_;simp only[qop,qfy,ql];have j:=wa n;have C:=jJ t x j;have z:=qzs t (i+1);rw[qm9 n,wc]at z;refine wav o (waw w (wat (r x j (qxW d j) (by omega) (by omega)) (wav (qi9 (by rw[qfP,qfP,wc];omega)) ?_)));rw[qm9 n,<- wi,qqc]at q;rw[v];exact q)
    have b:=l 0 (we _);rw[xF,vt,List.flatten_nil,wB]at b;cases g:qcg t.name with
    | true =>
      rw[g]at a;have a:c=[hdE t.name]++[iw .u8 (t.kids.length:Int)]:=a;rw[a,qqc]at b;exact wav rfl (wav (qi9 (by rw[qfP,qfP];show 1+1<_;omega)) (waC (L := λ m k=>Jx m (ji m) k _ 0 t.kind t.name t.sort t.kids) b))
    | false =>
      rw[g]at a;have a:c=[hdE t.name]:=a;rw[a]at b;exact wax rfl (waC (L := λ m k=>Jx m (ji m) k _ 0 t.kind t.name t.sort t.kids) b)
end Go.AmZ
namespace Go.AmZ
open Go Go.GxZ
def okC(i:Nat)(c:UInt8):Bool:=if i=0 then qfT (c.toNat:Int)else Qp (c.toNat:Int)
def nmE(s:List UInt8)(b:Nat):Nat->Nat->Option Nat
 | 0,_=>none
 | d+1,i=>match s[b+i]? with
   | none=>some (b+i)
   | some c=>cond (okC i c) (nmE s b d (i+1)) (some (b+i))
def hdN(s:List UInt8)(a:Nat):Option (T × Nat) × Nat:=match s[a]? with
 | none=>(none,a)
 | some c=>if c.toNat<=5 then(match s[a+1]? with
   | none=>(none,a+1)
   | some n=>if n.toNat<1\/24<n.toNat then(none,a+1)else match nmE s (a+2) n.toNat 0 with
     | some e=>(none,e)
     | none=>(some (.mk 2 ((s.take (a+2+n.toNat)).drop (a+2)) c.toNat [],0),a+2+n.toNat))
   else if c.toNat<16 then(none,a)else match esL[c.toNat-16]? with
    | none=>(none,a)
    | some r=>if qcg r.1=true then(match s[a+1]? with
      | none=>(none,a+1)
      | some k=>if(k.toNat:Int)<r.2.1\/r.2.2<(k.toNat:Int)then(none,a+1)else(some (.mk 3 r.1 0 [],k.toNat),a+2))
      else(some (.mk 3 r.1 0 [],r.2.1.toNat),a+1)
theorem iwc(c:UInt8):iw .i64 ((c.toNat:Nat):Int)=(c.toNat:Int):=by
 have:=c.toNat_lt;exact jF (by omega)
theorem iwn{n:Nat}(d:Nat)(h:n+d<2 ^ 62):iw .i64 (qd (n:Int) (d:Int))=((n+d:Nat):Int):=by
 rw[qlS,jF (by omega)]
theorem qsK(s:List UInt8)(a:Nat)(b d:Int)(j:s.length<2 ^ 60) :
  Ev (λ m _=>zg m (s,((a:Int),false)) b d) (match s[a]? with
   | none=>(((s,((a:Int),true)),()),(b,()))
   | some c=>if b<=(c.toNat:Int)/\(c.toNat:Int)<=d then(((s,(((a+1:Nat):Int),false)),()),((c.toNat:Int),()))else(((s,((a:Int),true)),()),(b,()))):=by
 refine waA ?_;simp only[qn3,qbB];refine wax rfl ?_;cases h:s[a]? with
 | none=>exact wav (jm.2 (by have:=List.getElem?_eq_none_iff.1 h;omega)) (wau _)
 | some c =>
   have k:=(List.getElem?_eq_some_iff.1 h).1;have e:qc s (a:Int)=some c:=by rw[qU];exact h
   refine wax (yq.2 (by omega)) (waw e ?_);rw[iwc];by_cases g:b<=(c.toNat:Int)
   ·refine wax (qn.2 g) (waw e ?_);rw[iwc];by_cases f:(c.toNat:Int)<=d
    ·have e1:iw .i64 (qd (a:Int) 1)=((a+1:Nat):Int):=iwn 1 (by omega);rw[e1]
     have i:iw .i64 (zh ((a+1:Nat):Int) 1)=(a:Int):=by
      rw[show zh ((a+1:Nat):Int) 1=(a:Int) by unfold zh;omega,jF (by omega)]
     rw[i];refine wax (qn.2 f) (waw e (waz ?_));simp only[];rw[if_pos ⟨g,f⟩,iwc]
    ·refine wav (qs.2 (by omega)) (waz ?_);simp only[];rw[if_neg (λ h=>f h.2)]
   ·refine wav (qs.2 (by omega)) (waz ?_);simp only[];rw[if_neg (λ h=>g h.1)]
theorem qCH{s:List UInt8}{b:Nat}:∀{d i:Nat},nmE s b d i=none->∀ j,j<d->b+i+j<s.length
 | 0,_,_,j,f=>by omega
 | d+1,i,h,j,f=>by
   unfold nmE at h;split at h
   ·cases h
   ·rename_i c g;have e:=(List.getElem?_eq_some_iff.1 g).1;cases a:okC i c with
    | false=>rw[a]at h;cases h
    | true =>
      rw[a]at h;have h:nmE s b d (i+1)=none:=h;cases j with
      | zero=>exact e
      | succ j=>have:=qCH h j (by omega);omega
theorem qJh{α : Type}(i:Nat)(c:UInt8)(A B:Option α):(cond (ile 97 (c.toNat:Int)) (cond (ile (c.toNat:Int) 122) A (cond (ile 65 (c.toNat:Int)) (cond (qf (ile (c.toNat:Int) 90)) (cond (ieq (i:Int) 0) B (cond (ilt (c.toNat:Int) 48) (cond (qf (ieq (c.toNat:Int) 95)) (cond (qf (ieq (c.toNat:Int) 35)) B A) A) (cond (ilt 57 (c.toNat:Int)) (cond (qf (ieq (c.toNat:Int) 95)) (cond (qf (ieq (c.toNat:Int) 35)) B A) A) A))) A) (cond (ieq (i:Int) 0) B (cond (ilt (c.toNat:Int) 48) (cond (qf (ieq (c.toNat:Int) 95)) (cond (qf (ieq (c.toNat:Int) 35)) B A) A) (cond (ilt 57 (c.toNat:Int)) (cond (qf (ieq (c.toNat:Int) 95)) (cond (qf (ieq (c.toNat:Int) 35)) B A) A) A))))) (cond (ile 65 (c.toNat:Int)) (cond (qf (ile (c.toNat:Int) 90)) (cond (ieq (i:Int) 0) B (cond (ilt (c.toNat:Int) 48) (cond (qf (ieq (c.toNat:Int) 95)) (cond (qf (ieq (c.toNat:Int) 35)) B A) A) (cond (ilt 57 (c.toNat:Int)) (cond (qf (ieq (c.toNat:Int) 95)) (cond (qf (ieq (c.toNat:Int) 35)) B A) A) A))) A) (cond (ieq (i:Int) 0) B (cond (ilt (c.toNat:Int) 48) (cond (qf (ieq (c.toNat:Int) 95)) (cond (qf (ieq (c.toNat:Int) 35)) B A) A) (cond (ilt 57 (c.toNat:Int)) (cond (qf (ieq (c.toNat:Int) 95)) (cond (qf (ieq (c.toNat:Int) 35)) B A) A) A)))))=cond (okC i c) A B:=by
 generalize a:((c.toNat:Nat):Int)=x;unfold okC;rw[a];clear a;have b:ieq (i:Int) 0=decide (i=0):=by rw[qyW,xh,decide_eq_true_iff,decide_eq_true_iff];omega
 rw[b];simp only[qyW];have o:ilt x 48 = !decide (48<=x):=by unfold ilt;rw[<- decide_not,xh,decide_eq_true_iff,decide_eq_true_iff];omega
 have n:ilt 57 x = !decide (x<=57):=by unfold ilt;rw[<- decide_not,xh,decide_eq_true_iff,decide_eq_true_iff];omega
 rw[o,n];unfold Qp qfT qsH ile qf;by_cases m:i=0<;>by_cases l:97<=x<;>by_cases k:x<=122<;>by_cases j:65<=x<;>by_cases h:x<=90<;>by_cases g:48<=x<;>by_cases f:x<=57<;>by_cases e:x=95<;>by_cases d:x=35<;>simp[m,l,k,j,h,g,f,e,d]<;>omega
theorem qDa(s:List UInt8)(g:s.length<2 ^ 60)(b n:Nat)(j:n<=24):∀ d i,i+d=n->b+i<=s.length ->
  Ev (λ m k=>yg m k b n i s ((b+i:Nat):Int) false) (match nmE s b d i with
   | some e=>(((s,((e:Int),true)),()),([],()))
   | none=>(((s,(((b+n:Nat):Int),false)),()),((s.take (b+n)).drop b,())))
 | 0,i,l,a=>by
   refine waB ?_;simp only[qbC,Qh];obtain rfl:i=n:=by omega
   refine wax (qn.2 (vj _)) ?_;refine wav (by unfold inb;rw[decide_eq_true_iff];omega) (wav (by unfold inb;rw[decide_eq_true_iff];omega) (waz ?_));rfl
 | d+1,i,l,a=>by
   refine waB ?_;simp only[qbC,Qh];refine wav (qs.2 (by omega)) (wax rfl ?_);rw[nmE];cases h:s[b+i]? with
   | none=>exact wav (jm.2 (by have:=List.getElem?_eq_none_iff.1 h;omega)) (wau _)
   | some c =>
     have p:=(List.getElem?_eq_some_iff.1 h).1;refine wax (yq.2 (by omega)) (waw (by rw[qU];exact h) ?_);have f:=qDa s g b n j d (i+1) (by omega) (by omega);have e1:iw .i64 (qd (i:Int) 1)=((i+1:Nat):Int):=iwn 1 (by omega);have o:iw .i64 (qd ((b+i:Nat):Int) 1)=((b+(i+1):Nat):Int):=iwn (n:=b+i) 1 (by omega);rw[e1,o];refine Ev.congr (F := λ m k=>cond (okC i c) (yg m k b n ((i+1:Nat):Int) s ((b+(i+1):Nat):Int) false) (some (((s,(((b+i:Nat):Int),true)),()),([],())))) ?_ λ m k=>qJh i c _ _;simp only[];cases okC i c with
     | true=>exact f
     | false=>exact wau _
theorem qDr(s:List UInt8)(b a:Int):Ev (λ m k=>yg m k b 1 0 s a true) (((s,(a,true)),()),([],())):=by
 refine waB ?_;simp only[qbC,Qh];exact wav rfl (wav rfl (wau _))
theorem qNw(s:List UInt8)(c:s.length<2 ^ 60)(a:Nat):Ev (λ m _=>Jb m (s,((a:Int),false))) (match s[a]? with
  | none=>(((s,((a:Int),true)),()),([],()))
  | some n=>if n.toNat<1\/24<n.toNat then(((s,((a:Int),true)),()),([],()))else match nmE s (a+1) n.toNat 0 with
    | some e=>(((s,((e:Int),true)),()),([],()))
    | none=>(((s,(((a+1+n.toNat:Nat):Int),false)),()),((s.take (a+1+n.toNat)).drop (a+1),()))):=by
 refine waA ?_;simp only[qnS,JJ];have b:=qsK s a 1 24 c;cases h:s[a]? with
 | none =>
   rw[h]at b;exact wat b (waC (qDr s a a))
 | some n =>
   rw[h]at b;simp only[]at b |-
   by_cases d:n.toNat<1\/24<n.toNat
   ·rw[if_neg (by omega)]at b;rw[if_pos d];exact wat b (waC (qDr s a a))
   ·rw[if_pos (by omega)]at b;rw[if_neg d];have f:=(List.getElem?_eq_some_iff.1 h).1;exact wat b (waC (qDa s c (a+1) n.toNat (by omega) n.toNat 0 (by omega) (by omega)))
theorem qd3:Ev (λ m _=>ym m) esL:=by
 refine waA ?_;simp only[qrr,qd5];exact wau _
theorem qpa{r:List UInt8 × (Int × Int)}(a:r∈esL):Ev (λ m _=>yx m (r.1,(r.2.1,r.2.2))) (qcg r.1):=by
 refine waA ?_;simp only[qeg,QD];exact waz (qH9 r a)
theorem qxb:∀ r∈esL,0<=r.2.1/\r.2.1<=8/\r.2.2<=8:=by decide
theorem qta(s:List UInt8)(D:s.length<2 ^ 60)(b:Nat):(∀ t n p,hdN s b=(some (t,n),p)->Ev (λ m _=>qx m (s,((b:Int),false))) (((s,((p:Int),false)),()),((t.kind,(t.name,(t.sort,([],((n:Int),()))))),()))) /\
  (∀ e,hdN s b=(none,e)->∃ nk nm sk lf,Ev (λ m _=>qx m (s,((b:Int),false))) (((s,((e:Int),true)),()),((nk,(nm,(sk,([],(lf,()))))),()))):=by
 have K:∃ v:(Val RD × Unit) × ((Int × List UInt8 × Int × List T × Int × Unit) × Unit),Ev (λ m _=>qx m (s,((b:Int),false))) v/\match hdN s b with
   | (some (t,n),p)=>v=(((s,((p:Int),false)),()),((t.kind,(t.name,(t.sort,([],((n:Int),()))))),()))
   | (none,e)=>∃ nk nm sk lf,v=(((s,((e:Int),true)),()),((nk,(nm,(sk,([],(lf,()))))),())):=by
  have y:(∀ c,s[b]?=some c->¬ c.toNat<=5)->∃ v:(Val RD × Unit) × ((Int × List UInt8 × Int × List T × Int × Unit) × Unit),Ev (λ m _=>qa (ym m) λ J=>qa (ym m) λ I=>qa (zg m (s,((b:Int),false)) 16 (iw .i64 (zh (iw .i64 (qd 16 (List.length I))) 1))) λ j=>qa (qc J (iw .i64 (zh j.2.1 16))) λ g=>qa (yx m (g.1,(g.2.1,g.2.2))) λ H=>cond H (qa (zg m (j.1.1.1,(j.1.1.2.1,j.1.1.2.2)) g.2.1 g.2.2) λ o=>some (((o.1.1.1,(o.1.1.2.1,o.1.1.2.2)),()),((3,(g.1,(0,([],(o.2.1,()))))),()))) (some (((j.1.1.1,(j.1.1.2.1,j.1.1.2.2)),()),((3,(g.1,(0,([],(g.2.1,()))))),())))) v/\match hdN s b with
   | (some (t,n),p)=>v=(((s,((p:Int),false)),()),((t.kind,(t.name,(t.sort,([],((n:Int),()))))),()))
   | (none,e)=>∃ nk nm sk lf,v=(((s,((e:Int),true)),()),((nk,(nm,(sk,([],(lf,()))))),())):=by
   intro B;have f:=qsK s b 16 30 D
   have fail:(match s[b]? with
    | none=>True
    | some c=>c.toNat<16\/30<c.toNat)->∃ v:(Val RD × Unit) × ((Int × List UInt8 × Int × List T × Int × Unit) × Unit),Ev (λ m _=>qa (ym m) λ J=>qa (ym m) λ I=>qa (zg m (s,((b:Int),false)) 16 (iw .i64 (zh (iw .i64 (qd 16 (List.length I))) 1))) λ j=>qa (qc J (iw .i64 (zh j.2.1 16))) λ g=>qa (yx m (g.1,(g.2.1,g.2.2))) λ H=>cond H (qa (zg m (j.1.1.1,(j.1.1.2.1,j.1.1.2.2)) g.2.1 g.2.2) λ o=>some (((o.1.1.1,(o.1.1.2.1,o.1.1.2.2)),()),((3,(g.1,(0,([],(o.2.1,()))))),()))) (some (((j.1.1.1,(j.1.1.2.1,j.1.1.2.2)),()),((3,(g.1,(0,([],(g.2.1,()))))),())))) v/\match hdN s b with
   | (some (t,n),p)=>v=(((s,((p:Int),false)),()),((t.kind,(t.name,(t.sort,([],((n:Int),()))))),()))
   | (none,e)=>∃ nk nm sk lf,v=(((s,((e:Int),true)),()),((nk,(nm,(sk,([],(lf,()))))),())):=by
     intro F
     have L:Ev (λ m _=>zg m (s,((b:Int),false)) 16 30) (((s,((b:Int),true)),()),(16,())):=by
      cases h:s[b]? with
      | none=>rw[h]at f;exact f
      | some c =>
        rw[h]at f F;simp only[]at f F;rw[if_neg (by omega)]at f;exact f
     have A:hdN s b=(none,b):=by
      unfold hdN;cases h:s[b]? with
      | none=>rfl
      | some c =>
        rw[h]at F;simp only[]at F |-
        rw[if_neg (B c h)];by_cases C:c.toNat<16
        ·rw[if_pos C]
        ·rw[if_neg C,show esL[c.toNat-16]?=none from List.getElem?_eq_none_iff.2 (by show 15<=_;omega)]
     rw[A];refine⟨_,wat qd3 (wat qd3 (wat L (waw (a:=([112,97,105,114],(2,2))) rfl (wat (qpa (r:=([112,97,105,114],(2,2))) (wh ..)) (wax rfl (wau _)))))),3,_,0,_,rfl⟩
   cases h:s[b]? with
   | none=>rw[h]at fail;exact fail trivial
   | some c =>
     by_cases E:c.toNat<16\/30<c.toNat
     ·exact fail (by rw[h];exact E)
     ·rw[h]at f;simp only[]at f;rw[if_pos (by omega)]at f;have z:c.toNat-16<esL.length:=by show _<15;omega
      have q:=List.getElem?_eq_getElem z;generalize esL[c.toNat-16]=r at q;have i:=wa q;obtain⟨R,Q,P⟩:=qxb r i
      have A:hdN s b=(if qcg r.1=true then(match s[b+1]? with
        | none=>(none,b+1)
        | some k=>if(k.toNat:Int)<r.2.1\/r.2.2<(k.toNat:Int)then(none,b+1)else(some (.mk 3 r.1 0 [],k.toNat),b+2))
       else(some (.mk 3 r.1 0 [],r.2.1.toNat),b+1)):=by
       unfold hdN;rw[h];simp only[];rw[if_neg (B c h),if_neg (by omega),q]
      rw[A]
      have w:qc esL (iw .i64 (zh (c.toNat:Int) 16))=some r:=by
       rw[show iw .i64 (zh (c.toNat:Int) 16)=((c.toNat-16:Nat):Int) by rw[show zh (c.toNat:Int) 16=((c.toNat-16:Nat):Int) by unfold zh;omega,jF (by omega)],qU];exact q
      cases u:qcg r.1 with
      | false =>
        rw[if_neg (by decide)];refine⟨_,wat qd3 (wat qd3 (wat f (waw w (wat (qpa i) (wax u (wau _)))))),?_⟩;have e:((r.2.1.toNat:Nat):Int)=r.2.1:=by omega
        show _=_;rw[e];rfl
      | true =>
        rw[if_pos rfl];have d:=qsK s (b+1) r.2.1 r.2.2 D;cases l:s[b+1]? with
        | none=>rw[l]at d;exact⟨_,wat qd3 (wat qd3 (wat f (waw w (wat (qpa i) (wav u (wat d (wau _))))))),3,_,0,_,rfl⟩
        | some k =>
          rw[l]at d;simp only[]at d |-
          by_cases N:(k.toNat:Int)<r.2.1\/r.2.2<(k.toNat:Int)
          ·rw[if_neg (by omega)]at d;rw[if_pos N];exact⟨_,wat qd3 (wat qd3 (wat f (waw w (wat (qpa i) (wav u (wat d (wau _))))))),3,_,0,_,rfl⟩
          ·rw[if_pos (by omega)]at d;rw[if_neg N];exact⟨_,wat qd3 (wat qd3 (wat f (waw w (wat (qpa i) (wav u (wat d (wau _))))))),rfl⟩
  cases h:s[b]? with
  | none =>
    obtain⟨v,l,d⟩:=y (by rw[h];intro c u;cases u);refine⟨v,waA ?_,d⟩;simp only[qcr,Qi];exact wax (qn.2 (by have:=List.getElem?_eq_none_iff.1 h;omega)) l
  | some c =>
    have S:=(List.getElem?_eq_some_iff.1 h).1;have w:qc s (b:Int)=some c:=by rw[qU];exact h
    by_cases B:c.toNat<=5
    ·have f:=qsK s b 0 5 D;rw[h]at f;simp only[]at f;rw[if_pos (by omega)]at f;have i:=qNw s D (b+1)
     have A:hdN s b=(match s[b+1]? with
      | none=>(none,b+1)
      | some n=>if n.toNat<1\/24<n.toNat then(none,b+1)else match nmE s (b+2) n.toNat 0 with
        | some e=>(none,e)
        | none=>(some (.mk 2 ((s.take (b+2+n.toNat)).drop (b+2)) c.toNat [],0),b+2+n.toNat)):=by
      unfold hdN;rw[h];simp only[];rw[if_pos B]
     rw[A]
     have G:∀ x,Ev (λ m _=>Jb m (s,(((b+1:Nat):Int),false))) x->Ev (λ m _=>qx m (s,((b:Int),false))) (((x.1.1.1,(x.1.1.2.1,x.1.1.2.2)),()),((2,(x.2.1,((c.toNat:Int),([],(0,()))))),())) := λ x O=>by
      refine waA ?_;simp only[qcr,Qi];exact wav (qs.2 (by omega)) (waw w (wav (jm.2 (by omega)) (wat f (wat O (wau _)))))
     cases l:s[b+1]? with
     | none=>rw[l]at i;exact⟨_,G _ i,2,_,_,_,rfl⟩
     | some n =>
       rw[l]at i;simp only[]at i |-
       by_cases E:n.toNat<1\/24<n.toNat
       ·rw[if_pos E]at i |-;exact⟨_,G _ i,2,_,_,_,rfl⟩
       ·rw[if_neg E]at i |-
        cases d:nmE s (b+2) n.toNat 0 with
        | some e=>rw[show b+1+1=b+2 from rfl,d]at i;exact⟨_,G _ i,2,_,_,_,rfl⟩
        | none=>rw[show b+1+1=b+2 from rfl,d]at i;exact⟨_,G _ i,rfl⟩
    ·obtain⟨v,l,d⟩:=y (by rw[h];intro c' u;cases u;exact B);refine⟨v,waA ?_,d⟩;simp only[qcr,Qi];exact wav (qs.2 (by omega)) (waw w (wax (yq.2 (by omega)) l))
 obtain⟨v,l,d⟩:=K;refine⟨λ t n p M=>?_,λ e M=>?_⟩
 ·rw[M]at d;have d:v=_:=d;rw[<- d];exact l
 ·rw[M]at d;obtain⟨nk,nm,sk,lf,d⟩:∃ nk nm sk lf,v=_:=d;exact⟨nk,nm,sk,lf,by rw[<- d];exact l⟩
end Go.AmZ
namespace Go.AmZ
open Go Go.GxZ
def JY(R:Nat->Option T × Nat):Nat->Nat->Option (List T) × Nat
 | 0,p=>(some [],p)
 | n+1,p=>match R p with
   | (none,e)=>(none,e)
   | (some k,a)=>match JY R n a with
     | (none,e)=>(none,e)
     | (some ks,q)=>(some (k::ks),q)
def rdT(s:List UInt8):Nat->Nat->Option T × Nat
 | 0,p=>(none,p)
 | f+1,p=>match hdN s p with
   | (none,e)=>(none,e)
   | (some (t,n),q)=>match JY (rdT s f) n q with
     | (none,e)=>(none,e)
     | (some ks,a)=>(some (.mk t.kind t.name t.sort ks),a)
theorem qgS{s:List UInt8}{p q n:Nat}{t:T}(h:hdN s p=(some (t,n),q)):p<q/\q<=s.length/\n<=8/\t.kids=[]/\t.name.length<=24:=by
 unfold hdN at h;cases g:s[p]? with
 | none=>rw[g]at h;cases h
 | some c =>
   rw[g]at h;have u:=(List.getElem?_eq_some_iff.1 g).1;simp only[]at h;split at h
   ·cases a:s[p+1]? with
    | none=>rw[a]at h;cases h
    | some k =>
      rw[a]at h;have f:=(List.getElem?_eq_some_iff.1 a).1;simp only[]at h;split at h
      ·cases h
      ·rename_i v;cases i:nmE s (p+2) k.toNat 0 with
       | some e=>rw[i]at h;cases h
       | none =>
         rw[i]at h;cases h;have:=qCH i (k.toNat-1) (by omega);refine⟨by omega,by omega,by omega,rfl,?_⟩;show((s.take _).drop _).length<=24;rw[wQ,wm];omega
   ·split at h
    ·cases h
    ·cases d:esL[c.toNat-16]? with
     | none=>rw[d]at h;cases h
     | some r =>
       rw[d]at h;have j:=wa d;obtain⟨o,m,l⟩:=qxb r j;have b:r.1.length<=24:=(by decide:∀ r∈esL,r.1.length<=24) r j;simp only[]at h;split at h
       ·cases a:s[p+1]? with
        | none=>rw[a]at h;cases h
        | some k =>
          rw[a]at h;have f:=(List.getElem?_eq_some_iff.1 a).1;simp only[]at h;split at h
          ·cases h
          ·cases h;exact⟨by omega,by omega,by omega,rfl,b⟩
       ·cases h;exact⟨by omega,by omega,by omega,rfl,b⟩
theorem qyg{R:Nat->Option T × Nat}{L:Nat}(h:∀ p q t,R p=(some t,q)->p<q/\q<=L):∀ n p q ks,p<=L->JY R n p=(some ks,q)->p<=q/\q<=L/\ks.length=n
 | 0,p,q,ks,c,a=>by cases a;exact⟨wb _,c,rfl⟩
 | n+1,p,q,ks,c,a=>by
   unfold JY at a;split at a
   ·cases a
   ·rename_i k l e;obtain⟨o,i⟩:=h _ _ _ e;split at a
    ·cases a
    ·rename_i d j b;cases a;obtain⟨m,g,f⟩:=qyg h n _ _ _ i b;exact⟨by omega,g,by simp[f]⟩
theorem qpc(s:List UInt8):∀ f p q t,rdT s f p=(some t,q)->p<q/\q<=s.length
 | 0,p,q,t,h=>by cases h
 | f+1,p,q,t,h=>by
   unfold rdT at h;split at h
   ·cases h
   ·rename_i t0 n e b;obtain⟨j,d,_⟩:=qgS b;split at h
    ·cases h
    ·rename_i ks g a;cases h;obtain⟨i,c,_⟩:=qyg (qpc s f) _ _ _ _ d a;exact⟨by omega,c⟩
theorem qzd{b a:Val RD}{nk sk lf:Int}{nm:List UInt8}(h:Ev (λ m _=>qx m b) ((a,()),((nk,(nm,(sk,([],(lf,()))))),()))):Ev (λ m _=>qeW (qx m) b) (a,(nk,(nm,(sk,lf)))):=by
 obtain⟨B,h⟩:=h;refine⟨B,λ m k c d=>?_⟩;have e:qx m b=_:=h m k c d;show qeW _ b=_;unfold qeW;rw[e]
abbrev RdL := λ(a:List (T × Int)) (b:Val RD) (m k:Nat)=>qkI (qx m) k a b
theorem qB7(b:List (T × Int))(s:List UInt8)(a:Int):Ev (RdL b (s,(a,true))) (((s,(a,true)),()),(T.mk 0 [] 0 [],())):=by
 refine waB (L:=RdL b (s,(a,true))) ?_;exact wau _
theorem qFO(b:List (T × Int))(s:List UInt8)(a:Int)(t:T)(n:Nat)(i:n<8)(d:b.length<=1000000000){c:Val RD}{nk sk lf:Int}{nm:List UInt8}(h:Ev (λ m _=>qx m (s,(a,false))) ((c,()),((nk,(nm,(sk,([],(lf,()))))),()))){r:(Val RD × Unit) × (T × Unit)}
  (e:Ev (RdL ((b++[(t,(n:Int))])++[(T.mk nk nm sk [],lf)]) c) r):Ev (RdL (b++[(t,((n+1:Nat):Int))]) (s,(a,false))) r:=by
 refine waB (L:=RdL (b++[(t,((n+1:Nat):Int))]) (s,(a,false))) ?_;show Ev (λ m k=>qnC (qx m) (qkI (qx m) k) (b++[(t,((n+1:Nat):Int))]) (s,(a,false))) r;unfold qnC;have f:(b++[(t,((n+1:Nat):Int))]).length=b.length+1:=by simp
 rw[f,xV];refine wax rfl (waw (a:=(t,((n+1:Nat):Int))) (by rw[List.getElem?_append_right (wb _),kL];rfl) ?_);refine wav (qs.2 (by show(0:Int)<((n+1:Nat):Int);omega)) (wav (qD (by omega) (by decide)) (wat (qzd h) ?_));have e1:iw .i64 (zh ((n+1:Nat):Int) 1)=(n:Int):=by rw[show zh ((n+1:Nat):Int) 1=(n:Int) by unfold zh;omega,jF (by omega)]
 have g:(b++[(t,((n+1:Nat):Int))]).set b.length (t,iw .i64 (zh ((n+1:Nat):Int) 1))=b++[(t,(n:Int))]:=by
  rw[vH _ _ (wb _),kL,e1];rfl
 show Ev (λ m k=>qkI (qx m) k ((b++[(t,((n+1:Nat):Int))]).set b.length (t,iw .i64 (zh ((n+1:Nat):Int) 1))++[(T.mk nk nm sk [],lf)]) c) r;rw[g];exact e
theorem qPf(b:List (T × Int))(s:List UInt8)(a:Int)(t x:T)(n:Int)(g:t.kids.length<8){r:(Val RD × Unit) × (T × Unit)}
  (d:Ev (RdL (b++[(T.mk t.kind t.name t.sort (t.kids++[x]),n)]) (s,(a,false))) r):Ev (RdL ((b++[(t,n)])++[(x,0)]) (s,(a,false))) r:=by
 refine waB (L:=RdL ((b++[(t,n)])++[(x,0)]) (s,(a,false))) ?_;show Ev (λ m k=>qnC (qx m) (qkI (qx m) k) ((b++[(t,n)])++[(x,0)]) (s,(a,false))) r;unfold qnC;have f:((b++[(t,n)])++[(x,(0:Int))]).length=b.length+2:=by simp
 have c:(b++[(t,n)]).length=b.length+1:=by simp
 rw[f,show b.length+2-1=b.length+1 from rfl,xV];refine wax rfl (waw (a:=(x,(0:Int))) (by rw[List.getElem?_append_right (by omega),c,kL];rfl) ?_);refine wax (qn.2 (vj _)) (wax rfl (waw (a:=(t,n)) (by rw[List.getElem?_append_left (by omega),List.getElem?_append_right (wb _),kL];rfl) ?_));refine wav (qD (by show(t.kids.length+1)*56<=_;omega) (by decide)) ?_;have e:((b++[(t,n)])++[(x,(0:Int))]).take b.length=b:=by rw[wi,wap]
 rw[e];exact d
theorem qKA(s:List UInt8)(O:s.length<=1000000000):∀ f n p t b,s.length<p+f->p<=s.length->b.length<=p->t.kids.length+n<=8 ->
  (∀ ks q,JY (rdT s f) n p=(some ks,q)->∀ r,Ev (RdL (b++[(T.mk t.kind t.name t.sort (t.kids++ks),0)]) (s,((q:Int),false))) r->Ev (RdL (b++[(t,(n:Int))]) (s,((p:Int),false))) r) /\
  ∀ e,JY (rdT s f) n p=(none,e)->Ev (RdL (b++[(t,(n:Int))]) (s,((p:Int),false))) (((s,((e:Int),true)),()),(T.mk 0 [] 0 [],())):=by
 intro f
 induction f with
 | zero=>intro n p t b C B;omega
 | succ f x =>
   intro n
   induction n with
   | zero =>
     intro p t b C B J I;refine⟨λ ks q a r h=>?_,λ e a=>by cases a⟩;cases a;rw[wB]at h;have e:T.mk t.kind t.name t.sort t.kids=t:=ql t;rw[e]at h;exact h
   | succ n w =>
     intro p t b C B J I;cases j:hdN s p with
     | mk o l =>
     cases o with
     | none =>
       have k:rdT s (f+1) p=(none,l):=by unfold rdT;rw[j]
       have d:JY (rdT s (f+1)) (n+1) p=(none,l):=by unfold JY;rw[k]
       refine⟨λ ks q a=>(by rw[d]at a;cases a),λ e a=>?_⟩;rw[d]at a;cases a;obtain⟨nk,nm,sk,lf,y⟩:=(qta s (by omega) p).2 _ j;exact qFO b s p t n (by omega) (by omega) y (qB7 _ _ _)
     | some o =>
       obtain⟨t0,u⟩:=o;obtain⟨P,K,g3,A,_⟩:=qgS j;have y:=(qta s (by omega) p).1 _ _ _ j;have z := λ r=>qFO b s p t n (by omega) (by omega) y (r:=r);have L:T.mk t0.kind t0.name t0.sort []=t0:=by rw[<- A];exact ql t0
       rw[L]at z;obtain⟨F,E⟩:=x u l t0 (b++[(t,(n:Int))]) (by omega) K (by rw[wc];show b.length+1<=l;omega) (by rw[A];show 0+u<=8;omega);cases m:JY (rdT s f) u l with
       | mk o g =>
       cases o with
       | none =>
         have k:rdT s (f+1) p=(none,g):=by unfold rdT;rw[j];simp only[];rw[m]
         have d:JY (rdT s (f+1)) (n+1) p=(none,g):=by unfold JY;rw[k]
         refine⟨λ ks q a=>(by rw[d]at a;cases a),λ e a=>?_⟩;rw[d]at a;cases a;exact z _ (E _ m)
       | some c =>
         have k:rdT s (f+1) p=(some (.mk t0.kind t0.name t0.sort c),g):=by unfold rdT;rw[j];simp only[];rw[m]
         obtain⟨M,D⟩:=qpc s _ _ _ _ k
         have step:∀ r,Ev (RdL (b++[(T.mk t.kind t.name t.sort (t.kids++[.mk t0.kind t0.name t0.sort c]),(n:Int))]) (s,((g:Int),false))) r->Ev (RdL (b++[(t,((n+1:Nat):Int))]) (s,((p:Int),false))) r := λ r h=>by
          refine z r (F _ _ m r ?_);rw[A];exact qPf b s g t _ n (by omega) h
         obtain⟨H,G⟩:=w g (T.mk t.kind t.name t.sort (t.kids++[.mk t0.kind t0.name t0.sort c])) b (by omega) D (by omega) (by show(t.kids++[_]).length+n<=8;rw[wc];show t.kids.length+1+n<=8;omega)
         have d:JY (rdT s (f+1)) (n+1) p=(match JY (rdT s (f+1)) n g with
          | (none,e)=>(none,e)
          | (some ks,q)=>(some (.mk t0.kind t0.name t0.sort c::ks),q)):=by
          rw[JY,k]
         cases i:JY (rdT s (f+1)) n g with
         | mk o N =>
         rw[i]at d;cases o with
         | none =>
           refine⟨λ ks q a=>(by rw[d]at a;cases a),λ e a=>?_⟩;rw[d]at a;cases a;exact step _ (G _ i)
         | some v =>
           refine⟨λ ks q a r h=>?_,λ e a=>(by rw[d]at a;cases a)⟩;rw[d]at a;cases a;refine step _ (H _ _ i r ?_);show Ev (RdL (b++[(T.mk t.kind t.name t.sort ((t.kids++[.mk t0.kind t0.name t0.sort c])++v),0)]) _) r;rw[wi];exact h
theorem qIo(s:List UInt8)(w:s.length<=1000000000):(∀ t q,rdT s (s.length+1) 0=(some t,q)->Ev (λ m _=>jy m (s,(0,false))) (((s,((q:Int),false)),()),(t,()))) /\
  ∀ e,rdT s (s.length+1) 0=(none,e)->Ev (λ m _=>jy m (s,(0,false))) (((s,((e:Int),true)),()),(T.mk 0 [] 0 [],())):=by
 have start:∀{c:Val RD} {nk sk lf:Int} {nm:List UInt8} {r:(Val RD × Unit) × (T × Unit)},Ev (λ m _=>qx m (s,(0,false))) ((c,()),((nk,(nm,(sk,([],(lf,()))))),()))->Ev (RdL [(T.mk nk nm sk [],lf)] c) r->Ev (λ m _=>jy m (s,(0,false))) r:=by
  intro c nk sk lf nm r h x;refine waA ?_;simp only[qoa];unfold qp7;exact wat (qzd h) (waC x)
 cases d:hdN s 0 with
 | mk o j =>
 cases o with
 | none =>
   have b:rdT s (s.length+1) 0=(none,j):=by unfold rdT;rw[d]
   refine⟨λ t q a=>(by rw[b]at a;cases a),λ e a=>?_⟩;rw[b]at a;cases a;obtain⟨nk,nm,sk,lf,l⟩:=(qta s (by omega) 0).2 _ d;exact start l (qB7 _ _ _)
 | some o =>
   obtain⟨t0,k⟩:=o;obtain⟨A,y,g3,p,_⟩:=qgS d;have l:=(qta s (by omega) 0).1 _ _ _ d;have n := λ r=>start l (r:=r);have z:T.mk t0.kind t0.name t0.sort []=t0:=by rw[<- p];exact ql t0
   rw[z]at n;obtain⟨v,u⟩:=qKA s w s.length k j t0 [] (by omega) y (we _) (by rw[p];show 0+k<=8;omega);cases g:JY (rdT s s.length) k j with
   | mk o i =>
   cases o with
   | none =>
     have b:rdT s (s.length+1) 0=(none,i):=by unfold rdT;rw[d];simp only[];rw[g]
     refine⟨λ t q a=>(by rw[b]at a;cases a),λ e a=>?_⟩;rw[b]at a;cases a;exact n _ (u _ g)
   | some f =>
     have b:rdT s (s.length+1) 0=(some (.mk t0.kind t0.name t0.sort f),i):=by unfold rdT;rw[d];simp only[];rw[g]
     refine⟨λ t q a=>?_,λ e a=>(by rw[b]at a;cases a)⟩;rw[b]at a;cases a;refine n _ (v _ _ g _ ?_);rw[p];refine waB (L:=RdL ([]++[(T.mk t0.kind t0.name t0.sort ([]++f),(0:Int))]) (s,((i:Int),false))) ?_;exact wau _
end Go.AmZ
namespace Go.AmZ
open Go Go.GxZ
theorem qLj{i:Nat}{c:UInt8}(h:okC i c=true):Qp (c.toNat:Int)=true:=by
 unfold okC at h;split at h
 ·unfold Qp;rw[h];rfl
 ·exact h
theorem qDG{s:List UInt8}{b n:Nat}(w:n<24)(x:b+n<s.length)(h:∀ j c,j<n->s[b+j]?=some c->okC j c=true){c:UInt8}(g:s[b+n]?=some c):jR ((s.take (b+(n+1))).drop b)=okC n c:=by
 have f:((s.take (b+(n+1))).drop b).length=n+1:=by rw[wQ,wm];omega
 have a:∀ j,j<n+1->((s.take (b+(n+1))).drop b)[j]?=s[b+j]? := λ j e=>by
  rw[List.getElem?_drop,List.getElem?_take,if_pos (by omega)]
 unfold jR;rw[f,decide_eq_true (show 0<n+1 by omega),decide_eq_true (show n+1<=24 by omega)]
 have q:∀ o,s[b]?=some o->((s.take (b+(n+1))).drop b).getD 0 0=o := λ o d=>by
  rw[List.getD_eq_getElem?_getD,a 0 (by omega),wP,d];rfl
 cases n with
 | zero =>
   rw[q c g]
   have l:(s.take (b+(0+1))).drop b=[c]:=by
    apply xd;intro j;cases j with
    | zero=>rw[a 0 (by omega)];exact g
    | succ j=>rw[List.getElem?_eq_none_iff.2 (by omega)];rfl
   rw[l];unfold okC;rw[if_pos rfl];cases v:qfT (c.toNat:Int)with
   | true=>simp[Qp,v]
   | false=>rfl
 | succ n =>
   have u:b<s.length:=by omega
   have d:=List.getElem?_eq_getElem u;have k:=h 0 _ (by omega) d;unfold okC at k;rw[if_pos rfl]at k;rw[q _ d,k];have:okC (n+1) c=Qp (c.toNat:Int):=by unfold okC;rw[if_neg (by omega)]
   rw[this];cases p:Qp (c.toNat:Int)with
   | true =>
     simp only[w7,wv];intro y r;obtain⟨j,e⟩:=vG.1 r;have t:=(List.getElem?_eq_some_iff.1 e).1;rw[a j (by omega)]at e;by_cases m:j=n+1
     ·subst m;rw[g]at e;cases e;exact p
     ·exact qLj (h j y (by omega) e)
   | false =>
     simp only[w7];rw[List.all_eq_false];refine⟨c,wa (i:=n+1) ?_,by rw[p];decide⟩;rw[a (n+1) (by omega)];exact g
theorem qBK(s:List UInt8)(B:s.length<=1000000000)(a n:Nat)(g:Int)(C:n<=24)(w:1<=n):∀ d i,i+d=n->a+2+i<=s.length->(∀ j c,j<i->s[a+2+j]?=some c->okC j c=true) ->
  (∀ e,nmE s (a+2) d i=some e->∃ t,Ev (λ m k=>jH m k s a n ((i+1:Nat):Int) 0 [] 0 2 [] g [] []) (t,((e:Int),false))) /\
  (nmE s (a+2) d i=none->Ev (λ m k=>jH m k s a n ((i+1:Nat):Int) 0 [] 0 2 [] g [] []) (.mk 2 ((s.take (a+2+n)).drop (a+2)) g [],(((a+2+n:Nat):Int),true)))
 | 0,i,E,F,l=>by
   obtain rfl:i=n:=by omega
   refine⟨λ e f=>(by cases f),λ _=>waB ?_⟩;simp only[qq1,qgi];have e1:iw .i64 (qd (a:Int) 2)=((a+2:Nat):Int):=iwn 2 (by omega);have y:iw .i64 (qd ((a+2:Nat):Int) (i:Int))=((a+2+i:Nat):Int):=iwn i (by omega);rw[e1,y];refine wax (yq.2 (by omega)) (wav (by unfold inb;rw[decide_eq_true_iff];omega) (wav (by unfold inb;rw[decide_eq_true_iff];omega) (waz ?_)));rfl
 | d+1,i,E,F,l=>by
   have L:iw .i64 (qd (a:Int) 1)=((a+1:Nat):Int):=iwn 1 (by omega);have e1:iw .i64 (qd (a:Int) 2)=((a+2:Nat):Int):=iwn 2 (by omega);have y:iw .i64 (qd ((a+2:Nat):Int) ((i+1:Nat):Int))=((a+2+(i+1):Nat):Int):=iwn (i+1) (by omega);have K:iw .i64 (qd ((a+1:Nat):Int) ((i+1:Nat):Int))=((a+2+i:Nat):Int):=by rw[iwn (i+1) (by omega)];omega
   have J:iw .i64 (qd ((i+1:Nat):Int) 1)=((i+1+1:Nat):Int):=iwn 1 (by omega)
   have first:∀{G:Nat->Nat->Option (T × Int × Bool)} {r},Ev (λ m k=>cond (ile (s.length:Int) ((a+2+i:Nat):Int)) (some (T.mk 2 [] g [],((a+2+i:Nat):Int),false)) (cond (inb ((a+2+(i+1):Nat):Int) s.length) (cond (inb ((a+2:Nat):Int) (Int.toNat ((a+2+(i+1):Nat):Int))) (qa (qag m (QM s ((a+2:Nat):Int) ((a+2+(i+1):Nat):Int))) λ z=>cond (qf z) (some (T.mk 2 [] g [],((a+2+i:Nat):Int),false)) (jH m k s a n ((i+1+1:Nat):Int) 0 [] 0 2 [] g [] [])) none) none)) r->Ev (λ m k=>jH m k s a n ((i+1:Nat):Int) 0 [] 0 2 [] g [] []) r:=by
    intro G r h;refine waB ?_;simp only[qq1,qgi];rw[L,e1,y,K,J];exact wav (jm.2 (by omega)) h
   rw[nmE];cases q:s[a+2+i]? with
   | none =>
     refine⟨λ e f=>?_,λ f=>(by cases f)⟩;cases f;exact⟨_,first (G := λ _ _=>none) (wav (jm.2 (by have:=List.getElem?_eq_none_iff.1 q;omega)) (wau _))⟩
   | some c =>
     have D:=(List.getElem?_eq_some_iff.1 q).1;have v:=qDG (n:=i) (b:=a+2) (by omega) D l q;have p:=qzk ((s.take (a+2+(i+1))).drop (a+2));rw[v]at p
     have zu:∀{r},Ev (λ m k=>cond (qf (okC i c)) (some (T.mk 2 [] g [],((a+2+i:Nat):Int),false)) (jH m k s a n ((i+1+1:Nat):Int) 0 [] 0 2 [] g [] [])) r->Ev (λ m k=>jH m k s a n ((i+1:Nat):Int) 0 [] 0 2 [] g [] []) r := λ h =>
      first (G := λ _ _=>none) (wax (yq.2 (by omega)) (wav (by unfold inb;rw[decide_eq_true_iff];omega) (wav (by unfold inb;rw[decide_eq_true_iff];omega) (wat p h))))
     simp only[];cases u:okC i c with
     | false =>
       refine⟨λ e f=>?_,λ f=>(by cases f)⟩;cases f;rw[u]at zu;exact⟨_,zu (wav rfl (wau _))⟩
     | true =>
       rw[u]at zu
       obtain⟨I,H⟩:=qBK s B a n g C w d (i+1) (by omega) (by omega) (λ j M N o=>by
        by_cases x:j=i
        ·subst x;rw[q]at o;cases o;exact u
        ·exact l j M (by omega) o)
       refine⟨λ e f=>?_,λ f=>zu (wax rfl (H f))⟩;obtain⟨t,A⟩:=I e f;exact⟨t,zu (wax rfl A)⟩
theorem qLG(s:List UInt8)(x:s.length<=1000000000)(a:Nat)(c:UInt8)(l:s[a]?=some c)(z:c.toNat<=5):(∀ t n p,hdN s a=(some (t,n),p)->n=0/\Ev (λ m _=>qdx m s a) (t,((p:Int),true)))/\∀ e,hdN s a=(none,e)->∃ t,Ev (λ m _=>qdx m s a) (t,((e:Int),false)):=by
 have C:=(List.getElem?_eq_some_iff.1 l).1;have i:qc s (a:Int)=some c:=by rw[qU];exact l
 have g:iw .i64 (qd (a:Int) 1)=((a+1:Nat):Int):=iwn 1 (by omega);unfold hdN;rw[l];simp only[];rw[if_pos z];have fail:∀{G:Nat->Nat->Option (T × Int × Bool)} {b:Bool},b=true->Ev (λ m k=>cond b (some (T.mk 2 [] (c.toNat:Int) [],((a+1:Nat):Int),false)) (G m k)) (T.mk 2 [] (c.toNat:Int) [],((a+1:Nat):Int),false) := λ h=>wav h (wau _);cases q:s[a+1]? with
 | none =>
   refine⟨λ t n p d=>(by cases d),λ e d=>?_⟩;cases d;refine⟨T.mk 2 [] (c.toNat:Int) [],waA ?_⟩;simp only[qlR,qbK];refine waw i ?_;rw[iwc,g];exact fail (jm.2 (by have:=List.getElem?_eq_none_iff.1 q;omega))
 | some n =>
   have y:=(List.getElem?_eq_some_iff.1 q).1;have f:qc s ((a+1:Nat):Int)=some n:=by rw[qU];exact q
   simp only[];by_cases u:n.toNat<1\/24<n.toNat
   ·rw[if_pos u];refine⟨λ t n p d=>(by cases d),λ e d=>?_⟩;cases d;refine⟨T.mk 2 [] (c.toNat:Int) [],waA ?_⟩;simp only[qlR,qbK];refine waw i ?_;rw[iwc,g];refine wax (yq.2 (by omega)) (waw f ?_);rw[iwc];by_cases o:n.toNat<1
    ·exact fail (qs.2 (by omega))
    ·exact wax (qn.2 (by omega)) (fail (qs.2 (by omega)))
   ·rw[if_neg u]
    have v:∀{r},Ev (λ m k=>jH m k s a n.toNat ((0+1:Nat):Int) 0 [] 0 2 [] (c.toNat:Int) [] []) r->Ev (λ m _=>qdx m s a) r := λ h=>by
     refine waA ?_;simp only[qlR,qbK];refine waw i ?_;rw[iwc,g];refine wax (yq.2 (by omega)) (waw f ?_);rw[iwc];exact wax (qn.2 (by omega)) (wax (qn.2 (by omega)) (waC h))
    obtain⟨B,A⟩:=qBK s x a n.toNat (c.toNat:Int) (by omega) (by omega) n.toNat 0 (by omega) (by omega) (λ j c D=>by omega);cases o:nmE s (a+2) n.toNat 0 with
    | some g =>
      refine⟨λ t n p d=>(by cases d),λ e d=>?_⟩;cases d;obtain⟨t,w⟩:=B _ o;exact⟨t,v w⟩
    | none =>
      refine⟨λ t n p d=>?_,λ e d=>(by cases d)⟩;cases d;exact⟨rfl,v (A o)⟩
theorem qOO:∀ r∈esL,qcg r.1=true->(qy r.1 [110,101,119]=true/\r.2.1=1\/qy r.1 [110,101,119]=false/\r.2.1=2)/\r.2.2=8:=by decide
def lsF:List (List UInt8 × Int × Int × Int)->List UInt8->Option Int
 | [],_=>none
 | r::l,n=>cond (qy r.1 n) (some r.2.1) (lsF l n)
theorem qOb:∀ r∈esL,qcg r.1=false->lsF yU r.1=some r.2.1:=by decide
theorem qK3(s:List UInt8)(I:s.length<=1000000000)(p:Nat)(r:List UInt8 × (Int × Int))(q:r∈esL):Ev (λ m _=>qdm m s p r.1) (if qcg r.1=true then(match s[p]? with
  | none=>(0,((p:Int),false))
  | some k=>if(k.toNat:Int)<r.2.1\/r.2.2<(k.toNat:Int)then(0,((p:Int),false))else((k.toNat:Int),(((p+1:Nat):Int),true)))else(r.2.1,((p:Int),true))):=by
 refine waA ?_;simp only[qCv,qgu];refine wat (qFh r.1) ?_;cases g:qcg r.1 with
 | false =>
   rw[if_neg (by decide)];refine wav rfl (wat (a:=yU) (waA (wau _)) ?_)
   have o:=qr (P := λ i=>∀ v,lsF (yU.drop i) r.1=some v->Ev (λ m k=>qa5 m k s p r.1 yU i) (v,((p:Int),true))) yU (by decide)
    (λ g v c=>by rw[wT]at c;cases c)
    (λ i x H B g d A C v c=>by
     refine waB ?_;simp only[qz8,qj8];refine wav g (waw d ?_);rw[B]at c;rw[A];cases b:qy x.1 r.1 with
     | true =>
       rw[lsF,b]at c;refine wav rfl (waw d (waz ?_));cases c;rfl
     | false =>
       rw[lsF,b]at c;exact wax rfl (C v c))
   exact waC (L := λ m k=>qa5 m k s p r.1 yU 0) (o 0 (we _) _ (qOb r q g))
 | true =>
   rw[if_pos rfl];refine wax rfl ?_;obtain⟨u,J⟩:=qOO r q g;obtain⟨G,F,E⟩:=qxb r q;cases t:s[p]? with
   | none =>
     have z:=List.getElem?_eq_none_iff.1 t;rcases u with⟨b,_⟩ | ⟨b,_⟩
     ·exact wav b (wav (jm.2 (by omega)) (wau _))
     ·exact wax b (wav (jm.2 (by omega)) (wau _))
   | some k =>
     have z:=(List.getElem?_eq_some_iff.1 t).1;have d:qc s (p:Int)=some k:=by rw[qU];exact t
     have D:iw .i64 (qd (p:Int) 1)=((p+1:Nat):Int):=iwn 1 (by omega);simp only[]
     have e:r.2.1<=(k.toNat:Int)->Ev (λ m _=>qa (qc s (p:Int)) λ n=>cond (ilt 8 ((UInt8.toNat n:Nat):Int)) (some (0,(p:Int),false)) (qa (qc s (p:Int)) λ l=>some (iw .i64 ((UInt8.toNat l:Nat):Int),iw .i64 (qd (p:Int) 1),true))) (if(k.toNat:Int)<r.2.1\/r.2.2<(k.toNat:Int)then(0,((p:Int),false))else((k.toNat:Int),(((p+1:Nat):Int),true))) := λ y=>by
      refine waw d ?_;by_cases h:(8:Int)<(k.toNat:Int)
      ·rw[if_pos (by omega)];exact wav (qs.2 h) (wau _)
      ·rw[if_neg (by omega)];refine wax (qn.2 (by omega)) (waw d (waz ?_));rw[iwc,D]
     have f:∀ a:Int,r.2.1=a->Ev (λ m _=>cond (ile (s.length:Int) (p:Int)) (some (0,(p:Int),false)) (qa (qc s (p:Int)) λ w=>cond (ilt (iw .i64 ((UInt8.toNat w:Nat):Int)) a) (some (0,(p:Int),false)) (qa (qc s (p:Int)) λ n=>cond (ilt 8 ((UInt8.toNat n:Nat):Int)) (some (0,(p:Int),false)) (qa (qc s (p:Int)) λ l=>some (iw .i64 ((UInt8.toNat l:Nat):Int),iw .i64 (qd (p:Int) 1),true))))) (if(k.toNat:Int)<r.2.1\/r.2.2<(k.toNat:Int)then(0,((p:Int),false))else((k.toNat:Int),(((p+1:Nat):Int),true))) := λ a j=>by
      refine wax (yq.2 (by omega)) (waw d ?_);rw[iwc];by_cases h:(k.toNat:Int)<a
      ·rw[if_pos (by omega)];exact wav (qs.2 h) (wau _)
      ·exact wax (qn.2 (by omega)) (e (by omega))
     rcases u with⟨b,j⟩ | ⟨b,j⟩
     ·exact wav b (f 1 j)
     ·exact wax b (f 2 j)
end Go.AmZ
namespace Go.AmZ
open Go Go.GxZ Go.Lib
theorem qIq(t:T):qyu t->∀ a:Int,-1000000000<=a->a<=1000000000->Ev (λ m _=>jc m t a) (qbD t a):=by
 induction t using T.ind with
 | h t j =>
   intro p a d c;obtain⟨u,v,s⟩:=(qEZ t).1 p;refine waA ?_;simp only[qyB,qey];rw[qGe];refine way (λ h=>?_) λ h=>?_
   ·rw[jm]at h;exact waz (by rw[if_pos (.inl h)])
   rw[yq]at h;refine way (λ f=>?_) λ f=>?_
   ·rw[qs]at f;exact waz (by rw[if_pos (.inr (by omega))])
   rw[qn]at f;rw[if_neg (by omega),show zh a 1=a-1 from rfl,jF (by omega)]
   have b:=qr (P := λ i=>∀ a:Int,0<=a->a<=1000000000->Ev (λ m k=>J0 m (jc m) k a i t.kind t.name t.sort t.kids) (qmC ((t.kids.drop i).map qbD) a)) t.kids u
    (λ e a _ _=>by
     refine waB ?_;simp only[qnN,qee];refine wax e ?_;rw[wT];exact wau _)
    (λ i x l q e o n r a d c=>by
     refine waB ?_;simp only[qnN,qee,ql];have g:=wa l;refine wav e (waw o (wat (j x g (s x g) a (by omega) (by omega)) ?_));rw[q,wo,qmC,n];have:=qrj x a;refine way (λ h=>?_) λ h=>?_
     ·rw[qs]at h;exact waz (by rw[if_pos h])
     ·rw[qn]at h;rw[if_neg (by omega)];exact r _ (by omega) (by omega))
   refine waC (L := λ m k=>J0 m (jc m) k (a-1) 0 t.kind t.name t.sort t.kids) ?_;exact(b 0 (we _) (a-1) (by omega) (by omega)).res (by rw[wO])
theorem qOW(l:List T)(j:l.length<2 ^ 62)(q:∀ t∈l,qyu t)(n:Nat)(a:Int)(c:0<=a)(b:a<=1000000000):Ev (λ m _=>qni m l n a) (decide (l.length<=n)&&ql0 l a):=by
 refine waA ?_;simp only[qEy,qhN];refine way (λ h=>?_) λ h=>?_
 ·rw[qs]at h;exact waz (by rw[decide_eq_false (by omega)];rfl)
 rw[qn]at h;rw[decide_eq_true (by omega),w7]
 have d:=qr (P := λ i=>∀ a:Int,0<=a->a<=1000000000->Ev (λ m k=>qct m k l a i) (ql0 (l.drop i) a)) l j
  (λ e a _ _=>by
   refine waB ?_;simp only[qr0,qhu];refine wax e ?_;rw[wT];exact wau _)
  (λ i x f r e p o s a c b=>by
   refine waB ?_;simp only[qr0,qhu,ql];have g:=wa f;refine wav e (waw p (wat (qIq x (q x g) a (by omega) (by omega)) ?_));rw[r,ql0,o];have:=qrj x a;refine way (λ h=>?_) λ h=>?_
   ·rw[qs]at h;exact waz (by rw[if_pos h])
   ·rw[qn]at h;rw[if_neg (by omega)];exact s _ (by omega) (by omega))
 refine waC (L := λ m k=>qct m k l a 0) ?_;exact(d 0 (we _) a c b).res (by rw[wO])
end Go.AmZ
namespace Go.AmZ
theorem qIx(n:Nat):qf9 (n+3000)=some true:=by kernel_rfl
end Go.AmZ
namespace Go.AmZ
open Go Go.GxZ
def qc4(t:T):Int:=if qcj t≠0 then qcj t else if qfM t=false then 13 else if JL t=false then 10 else 0
def qhI(t:T):List UInt8:=if qc4 t=0 then zK (bI t)else[]
theorem qyC{t:T}(d:qcj t=0)(c:qfM t=true)(a:JL t=true):okE t:=by
 obtain⟨b,e⟩:=qrU d
 have g3:jQ t=0:=by
  unfold qS at b;by_cases h:jQ t=0
  ·exact h
  ·rw[if_pos h]at b;exact absurd b h
 unfold JL at a;simp only[wd]at a;exact qPD t g3 e a.2.2 (ve.1 c)
theorem qxR{t:T}(h:okE t)(a:size t<=10000):(bI t).length<=260000:=by
 have:=qO7 t h;omega
theorem qOQ(t:T)(j:size t<=10000):Ev (λ m _=>qeh m t) (qhI t,qc4 t):=by
 refine waA ?_;simp only[qtl,qeZ,ql];refine wat (qF8 t (by omega)) ?_;obtain⟨l,i,g⟩:=qNe t (by omega);by_cases b:qcj t=0
 ·refine wax (bnf.2 (qk.2 b)) (wat i ?_);cases a:qfM t with
  | false =>
    have k:zQ 1 t≠[] := λ h=>by unfold qfM at a;rw[h]at a;cases a
    have e:l≠[] := λ h=>k (g.1 h);have:=xg.2 e;refine wav (qs.2 (by omega)) (waz ?_);have c:qc4 t=13:=by unfold qc4;rw[if_neg (λ h=>h b),if_pos a]
    unfold qhI;rw[c];rfl
  | true =>
    have e:l=[]:=g.2 (ve.1 a);refine wax (qn.2 (by rw[e];exact vj _)) (wat (qzi t (by omega)) ?_);cases f:JL t with
    | false =>
      refine wav rfl (waz ?_);have c:qc4 t=10:=by unfold qc4;rw[if_neg (λ h=>h b),if_neg (by rw[a];decide),if_pos f]
      unfold qhI;rw[c];rfl
    | true =>
      have d:=qyC b a f;have n:=qxR d j;refine wax rfl (wat (qKM t d (by omega) [] (by show 0+_<=_;omega)) (waz ?_));have c:qc4 t=0:=by unfold qc4;rw[if_neg (λ h=>h b),if_neg (by rw[a];decide),if_neg (by rw[f];decide)]
      unfold qhI;rw[c];rfl
 ·refine wav (bnt.2 (qh.2 b)) (waz ?_);have c:qc4 t=qcj t:=if_pos b;unfold qhI;rw[c,if_neg b]
theorem qMz(t:T)(f:size t<=10000):Ev (λ m _=>qh8 m t) (qhI t,qc4 t):=by
 refine waA ?_;simp only[qyj,qh0,ql]
 have g:Ev (λ m _=>qjm m t) (qc4 t):=by
  refine waA ?_;simp only[qAh,qjc,ql];refine wat (qyE t (by omega)) ?_;unfold qc4;by_cases b:qcj t=0
  ·rw[if_neg (λ h=>h b)];refine wax (bnf.2 (qk.2 b)) (wat (qI0 t f) ?_);cases d:qfM t with
   | false=>exact wav rfl (wau _)
   | true =>
     refine wax rfl (wat (qzU t (by omega)) ?_);cases e:JL t with
     | false=>exact wav rfl (wau _)
     | true=>exact wax rfl (wau _)
  ·rw[if_pos b];exact wav (bnt.2 (qh.2 b)) (wau _)
 refine wat g ?_;by_cases a:qc4 t=0
 ·have c:okE t:=by
    unfold qc4 at a;by_cases b:qcj t=0
    ·rw[if_neg (λ h=>h b)]at a;cases d:qfM t with
     | false=>rw[if_pos d]at a;exact absurd a (by decide)
     | true =>
       rw[if_neg (by rw[d];decide)]at a;cases e:JL t with
       | false=>rw[if_pos e]at a;exact absurd a (by decide)
       | true=>exact qyC b d e
    ·rw[if_pos b]at a;exact absurd a b
  have i:=qxR c f;refine wax (bnf.2 (qk.2 a)) (wat (qJD t c (by omega) (by omega)) (waz ?_));unfold qhI;rw[if_pos a,a]
 ·refine wav (bnt.2 (qh.2 a)) (waz ?_);unfold qhI;rw[if_neg a]
theorem qu0(t:T)(e:size t<=10000):(qhI t).length<=260000:=by
 unfold qhI;by_cases a:qc4 t=0
 ·rw[if_pos a,qfP];refine qxR ?_ e;unfold qc4 at a;by_cases b:qcj t=0
  ·rw[if_neg (λ h=>h b)]at a;cases c:qfM t with
   | false=>rw[if_pos c]at a;exact absurd a (by decide)
   | true =>
     rw[if_neg (by rw[c];decide)]at a;cases d:JL t with
     | false=>rw[if_pos d]at a;exact absurd a (by decide)
     | true=>exact qyC b c d
  ·rw[if_pos b]at a;exact absurd a b
 ·rw[if_neg a];exact we _
abbrev Pk:=Int × (Int × (List UInt8 × Bool))
theorem qCs(n:Int)(l:List Pk)(i:Int):Ev (λ m _=>QS m (n,l,()) i) (((n,l,()),()),(decide (0<=i/\i<n),())):=by
 refine waA ?_;simp only[qmS,qbb];refine way (λ h=>waz ?_) λ h=>waz ?_
 ·rw[jm]at h
  have:ilt i n=decide (0<=i/\i<n):=by
   by_cases a:i<n
   ·rw[qs.2 a,decide_eq_true ⟨h,a⟩]
   ·rw[qn.2 (by omega),decide_eq_false (by omega)]
  rw[this]
 ·rw[yq]at h;rw[decide_eq_false (by omega)]
theorem qv3:Ev (λ m _=>qf9 m) true:=⟨3000,λ m k a _=>by
 obtain⟨n,rfl⟩:∃ n,m=n+3000:=⟨m-3000,by omega⟩
 exact qIx n⟩
end Go.AmZ
namespace Go.AmZ
open Go Go.GxZ
theorem qzl(s:List UInt8)(f:Nat)(w:∀ p,s.length<p+f->p<=s.length->(∀ t q,rdT s f p=(some t,q)->Ev (λ m _=>qW m s p) (t,((q:Int),true)))/\∀ e,rdT s f p=(none,e)->∃ t,Ev (λ m _=>qW m s p) (t,((e:Int),false)))(nm:List UInt8)(n:Nat)(E:n<=8) :
  ∀ d i ks p,i+d=n->ks.length=i->s.length<p+f->p<=s.length->(∀ b q,JY (rdT s f) d p=(some b,q)->Ev (λ m k=>Qu m (qW m) k s n p i 0 [] 0 3 nm 0 [] ks) (.mk 3 nm 0 (ks++b),((q:Int),true))) /\
   ∀ e,JY (rdT s f) d p=(none,e)->∃ t,Ev (λ m k=>Qu m (qW m) k s n p i 0 [] 0 3 nm 0 [] ks) (t,((e:Int),false))
 | 0,i,ks,p,F,v,y,x=>by
   obtain rfl:i=n:=by omega
   refine⟨λ b q a=>waB ?_,λ e a=>(by cases a)⟩;cases a;simp only[qkh,qdO];refine wax (qn.2 (vj _)) (waz ?_);rw[wB]
 | d+1,i,ks,p,F,v,y,x=>by
   have e1:iw .i64 (qd (i:Int) 1)=((i+1:Nat):Int):=iwn 1 (by omega);obtain⟨I,H⟩:=w p y x;cases l:rdT s f p with
   | mk o j =>
   cases o with
   | none =>
     have c:JY (rdT s f) (d+1) p=(none,j):=by unfold JY;rw[l]
     refine⟨λ b q a=>(by rw[c]at a;cases a),λ e a=>?_⟩;rw[c]at a;cases a;obtain⟨t,u⟩:=H _ l;refine⟨T.mk 3 nm 0 ks,waB ?_⟩;simp only[qkh,qdO];exact wav (qs.2 (by omega)) (wat u (wav rfl (wau _)))
   | some t =>
     obtain⟨J,z⟩:=qpc s _ _ _ _ l;have u:=I _ _ l;obtain⟨D,C⟩:=qzl s f w nm n E d (i+1) (ks++[t]) j (by omega) (by simp[v]) (by omega) z
     have step:∀{r},Ev (λ m k=>Qu m (qW m) k s n j ((i+1:Nat):Int) 0 [] 0 3 nm 0 [] (ks++[t])) r->Ev (λ m k=>Qu m (qW m) k s n p i 0 [] 0 3 nm 0 [] ks) r := λ h=>by
      refine waB ?_;simp only[qkh,qdO,ql];rw[e1];exact wav (qs.2 (by omega)) (wat u (wax rfl (wav (qD (by omega) (by decide)) h)))
     have c:JY (rdT s f) (d+1) p=(match JY (rdT s f) d j with
      | (none,e)=>(none,e)
      | (some ks,q)=>(some (t::ks),q)):=by rw[JY,l]<;>rfl
     cases g:JY (rdT s f) d j with
     | mk o K =>
     rw[g]at c;cases o with
     | none =>
       refine⟨λ b q a=>(by rw[c]at a;cases a),λ e a=>?_⟩;rw[c]at a;cases a;obtain⟨A,G⟩:=C _ g;exact⟨A,step G⟩
     | some B =>
       refine⟨λ b q a=>?_,λ e a=>(by rw[c]at a;cases a)⟩;rw[c]at a;cases a;have:=step (D _ _ g);rw[wi]at this;exact this
theorem qKh(s:List UInt8)(Q:s.length<=1000000000):∀ f p,s.length<p+f->p<=s.length->(∀ t q,rdT s f p=(some t,q)->Ev (λ m _=>qW m s p) (t,((q:Int),true)))/\∀ e,rdT s f p=(none,e)->∃ t,Ev (λ m _=>qW m s p) (t,((e:Int),false)):=by
 intro f
 induction f with
 | zero=>intro p N M;omega
 | succ f W =>
   intro p N M;have e1:iw .i64 (qd (p:Int) 1)=((p+1:Nat):Int):=iwn 1 (by omega);cases A:s[p]? with
   | none =>
     have i:hdN s p=(none,p):=by unfold hdN;rw[A]
     have g:rdT s (f+1) p=(none,p):=by unfold rdT;rw[i]
     refine⟨λ t q b=>(by rw[g]at b;cases b),λ e b=>?_⟩;rw[g]at b;cases b;refine⟨T.mk 0 [] 0 [],waA ?_⟩;simp only[qij,qay];exact wav (jm.2 (by have:=List.getElem?_eq_none_iff.1 A;omega)) (wau _)
   | some c =>
     have hl:=(List.getElem?_eq_some_iff.1 A).1;have y:qc s (p:Int)=some c:=by rw[qU];exact A
     by_cases L:c.toNat<=5
     ·obtain⟨a1,Z⟩:=qLG s Q p c A L
      have C:∀{v},Ev (λ m _=>qdx m s p) v->Ev (λ m _=>qW m s p) v := λ h=>by
       refine waA ?_;simp only[qij,qay,ql];exact wax (yq.2 (by omega)) (waw y (wav (jm.2 (by omega)) (wat h (wau _))))
      cases j:hdN s p with
      | mk o l =>
      cases o with
      | none =>
        have g:rdT s (f+1) p=(none,l):=by unfold rdT;rw[j]
        refine⟨λ t q b=>(by rw[g]at b;cases b),λ e b=>?_⟩;rw[g]at b;cases b;obtain⟨t,D⟩:=Z _ j;exact⟨t,C D⟩
      | some o =>
        obtain⟨t0,n0⟩:=o;obtain⟨rfl,D⟩:=a1 _ _ _ j;obtain⟨_,_,_,X,_⟩:=qgS j
        have g:rdT s (f+1) p=(some t0,l):=by
         unfold rdT;rw[j];show(some (T.mk t0.kind t0.name t0.sort []),l)=_;rw[<- X];exact congrArg (λ x=>(some x,l)) (ql t0)
        refine⟨λ t q b=>?_,λ e b=>(by rw[g]at b;cases b)⟩;rw[g]at b;cases b;exact C D
     ·have O:(c.toNat<16\/30<c.toNat)->(∀ t q,rdT s (f+1) p=(some t,q)->Ev (λ m _=>qW m s p) (t,((q:Int),true)))/\∀ e,rdT s (f+1) p=(none,e)->∃ t,Ev (λ m _=>qW m s p) (t,((e:Int),false)):=by
        intro S
        have i:hdN s p=(none,p):=by
         unfold hdN;rw[A];simp only[];rw[if_neg L];by_cases B:c.toNat<16
         ·rw[if_pos B]
         ·rw[if_neg B,show esL[c.toNat-16]?=none from List.getElem?_eq_none_iff.2 (by show 15<=_;omega)]
        have g:rdT s (f+1) p=(none,p):=by unfold rdT;rw[i]
        refine⟨λ t q b=>(by rw[g]at b;cases b),λ e b=>?_⟩;rw[g]at b;cases b;refine⟨T.mk 0 [] 0 [],waA ?_⟩;simp only[qij,qay];refine wax (yq.2 (by omega)) (waw y (wax (yq.2 (by omega)) (waw y ?_)));by_cases B:c.toNat<16
        ·exact wav (qs.2 (by omega)) (wau _)
        ·refine wax (qn.2 (by omega)) (waw y (wat (a:=nmL) (waA (wau _)) ?_));rw[iwc];exact wav (jm.2 (by show(31:Int)<=_;omega)) (wau _)
      by_cases S:c.toNat<16\/30<c.toNat
      ·exact O S
      ·have E:c.toNat-16<esL.length:=by show _<15;omega
       have u:=List.getElem?_eq_getElem E;generalize esL[c.toNat-16]=r at u;have R:=wa u;obtain⟨p0,p1,p2⟩:=qxb r R
       have K:qc nmL (iw .i64 (zh (c.toNat:Int) 16))=some r.1:=by
        rw[show iw .i64 (zh (c.toNat:Int) 16)=((c.toNat-16:Nat):Int) by rw[show zh (c.toNat:Int) 16=((c.toNat-16:Nat):Int) by unfold zh;omega,jF (by omega)],qU,<- qGZ,List.getElem?_map,u];rfl
       have i:hdN s p=(if qcg r.1=true then(match s[p+1]? with
         | none=>(none,p+1)
         | some k=>if(k.toNat:Int)<r.2.1\/r.2.2<(k.toNat:Int)then(none,p+1)else(some (.mk 3 r.1 0 [],k.toNat),p+2))
        else(some (.mk 3 r.1 0 [],r.2.1.toNat),p+1)):=by
        unfold hdN;rw[A];simp only[];rw[if_neg L,if_neg (by omega),u]<;>rfl
       have d:=qK3 s Q (p+1) r R
       have C:∀{v:Int × (Int × Bool)} {x},Ev (λ m _=>qdm m s ((p+1:Nat):Int) r.1) v->Ev (λ m _=>cond (qf v.2.2) (some (T.mk 3 r.1 0 [],v.2.1,false)) (Qu m (qW m) m s v.1 v.2.1 0 0 [] 0 3 r.1 0 [] [])) x->Ev (λ m _=>qW m s p) x := λ N M=>by
        refine waA ?_;simp only[qij,qay];refine wax (yq.2 (by omega)) (waw y (wax (yq.2 (by omega)) (waw y (wax (qn.2 (by omega)) (waw y (wat (a:=nmL) (waA (wau _)) ?_))))));rw[iwc];refine wax (yq.2 (by show _<(31:Int);omega)) (wat (a:=nmL) (waA (wau _)) (waw y ?_));rw[iwc,e1];exact waw K (wat N M)
       have H:∀ n l,hdN s p=(some (T.mk 3 r.1 0 [],n),l)->Ev (λ m _=>qdm m s ((p+1:Nat):Int) r.1) ((n:Int),((l:Int),true))->(∀ t q,rdT s (f+1) p=(some t,q)->Ev (λ m _=>qW m s p) (t,((q:Int),true)))/\∀ e,rdT s (f+1) p=(none,e)->∃ t,Ev (λ m _=>qW m s p) (t,((e:Int),false)):=by
        intro n l j w;obtain⟨g1,Y,g3,_⟩:=qgS j;obtain⟨V,U⟩:=qzl s f W r.1 n g3 n 0 [] l (by omega) rfl (by omega) Y;cases z:JY (rdT s f) n l with
        | mk o P =>
        cases o with
        | none =>
          have g:rdT s (f+1) p=(none,P):=by unfold rdT;rw[j];simp only[];rw[z]
          refine⟨λ t q b=>(by rw[g]at b;cases b),λ e b=>?_⟩;rw[g]at b;cases b;obtain⟨t,D⟩:=U _ z;exact⟨t,C w (wax rfl (waC D))⟩
        | some J =>
          have g:rdT s (f+1) p=(some (.mk 3 r.1 0 J),P):=by unfold rdT;rw[j];simp only[];rw[z];rfl
          refine⟨λ t q b=>?_,λ e b=>(by rw[g]at b;cases b)⟩;rw[g]at b;cases b;exact C w (wax rfl (waC (V _ _ z)))
       have I:hdN s p=(none,p+1)->Ev (λ m _=>qdm m s ((p+1:Nat):Int) r.1) (0,(((p+1:Nat):Int),false))->(∀ t q,rdT s (f+1) p=(some t,q)->Ev (λ m _=>qW m s p) (t,((q:Int),true)))/\∀ e,rdT s (f+1) p=(none,e)->∃ t,Ev (λ m _=>qW m s p) (t,((e:Int),false)):=by
        intro j w;have g:rdT s (f+1) p=(none,p+1):=by unfold rdT;rw[j]
        refine⟨λ t q b=>(by rw[g]at b;cases b),λ e b=>?_⟩;rw[g]at b;cases b;exact⟨_,C w (wav rfl (wau _))⟩
       cases G:qcg r.1 with
       | false =>
         rw[G,if_neg (by decide)]at i d;refine H _ _ i ?_;have e:((r.2.1.toNat:Nat):Int)=r.2.1:=by omega
         rw[e];exact d
       | true =>
         rw[G,if_pos rfl]at i d;cases z:s[p+1]? with
         | none=>rw[z]at i d;exact I i d
         | some k =>
           rw[z]at i d;simp only[]at i d;by_cases F:(k.toNat:Int)<r.2.1\/r.2.2<(k.toNat:Int)
           ·rw[if_pos F]at i d;exact I i d
           ·rw[if_neg F]at i d;exact H _ _ i d
end Go.AmZ
namespace Go.AmZ
open Go Go.GxZ
theorem qFb{s:List UInt8}{b:Nat}:∀{d i:Nat},nmE s b d i=none->∀ j c,j<d->s[b+i+j]?=some c->okC (i+j) c=true
 | 0,_,_,j,_,g,_=>by omega
 | d+1,i,h,j,c,g,a=>by
   unfold nmE at h;split at h
   ·cases h
   ·rename_i k f;cases e:okC i k with
    | false=>rw[e]at h;cases h
    | true =>
      rw[e]at h;have h:nmE s b d (i+1)=none:=h;cases j with
      | zero=>rw[wP]at a |-;rw[f]at a;cases a;exact e
      | succ j=>have:=qFb h j c (by omega) (by rw[show b+(i+1)+j=b+i+(j+1) by omega];exact a);rw[show i+(j+1)=i+1+j by omega];exact this
theorem qM4:∀ r∈esL,jR r.1=true:=by decide
theorem qLb{s:List UInt8}{p q n:Nat}{t:T}(h:hdN s p=(some (t,n),q))(ks:List T)(A:ks.length=n):jM (.mk t.kind t.name t.sort ks)=0:=by
 have C:=(qgS h).2.2.1;unfold hdN at h;cases o:s[p]? with
 | none=>rw[o]at h;cases h
 | some c =>
   rw[o]at h;simp only[]at h;split at h
   ·rename_i D;cases i:s[p+1]? with
    | none=>rw[i]at h;cases h
    | some k =>
      rw[i]at h;simp only[]at h;split at h
      ·cases h
      ·rename_i z;cases u:nmE s (p+2) k.toNat 0 with
       | some e=>rw[u]at h;cases h
       | none =>
         rw[u]at h;cases h;have y:=qCH u;have x:=qFb u;obtain⟨m,w⟩:∃ m,k.toNat=m+1:=⟨k.toNat-1,by omega⟩
         have d:=y m (by omega);rw[wP]at d;have g:=List.getElem?_eq_getElem d;have a:=qDG (s:=s) (b:=p+2) (n:=m) (by omega) d (λ j c B o=>by have:=x j c (by omega) (by rw[wP];exact o);rwa [wG]at this) g;have f:=x m _ (by omega) (by rw[wP];exact g);rw[wG]at f;rw[f]at a;unfold jM qjv;show(if(2:Int)=1\/(2:Int)=2 then(if(c.toNat:Int)<0\/5<(c.toNat:Int)\/0<ks.length then 1 else if jR ((s.take (p+2+k.toNat)).drop (p+2))=true then 0 else 2)else _)=(0:Int);rw[if_pos (.inr rfl),if_neg (by omega),w,a,if_pos rfl]
   ·split at h
    ·cases h
    ·cases v:esL[c.toNat-16]? with
     | none=>rw[v]at h;cases h
     | some r =>
       rw[v]at h;have a:=qM4 r (wa v)
       have l:∀ m,m=n->jM (.mk 3 r.1 0 ks)=0 := λ m w=>by
        unfold jM qjv;show(if(3:Int)=1\/(3:Int)=2 then _ else if(3:Int)=3 then(if(0:Int)≠0 then 1 else if jR r.1=true then(if 8<ks.length then 3 else 0)else 2)else 1)=(0:Int);rw[if_neg (by decide),if_pos rfl,if_neg (by decide),a,if_pos rfl,if_neg (by omega)]
       simp only[]at h;split at h
       ·cases i:s[p+1]? with
        | none=>rw[i]at h;cases h
        | some k =>
          rw[i]at h;simp only[]at h;split at h
          ·cases h
          ·cases h;exact l _ rfl
       ·cases h;exact l _ rfl
theorem qHw{t:T}(h:jM t=0)(b:∀ k∈t.kids,jQ k=0):jQ t=0:=by
 rw[qjF,h];generalize t.kids=l at b
 induction l with
 | nil=>rfl
 | cons x l c=>rw[wo,kg,b x (wh ..)];exact c λ k a=>b k (wg _ a)
theorem qDF{R:Nat->Option T × Nat}(h:∀ p q t,R p=(some t,q)->jQ t=0/\p+size t<=q):∀ n p q ks,JY R n p=(some ks,q)->(∀ k∈ks,jQ k=0)/\p+(ks.map size).sum<=q
 | 0,p,q,ks,a=>by cases a;exact⟨λ k d=>(by cases d),wb _⟩
 | n+1,p,q,ks,a=>by
   unfold JY at a;split at a
   ·cases a
   ·rename_i k l d;obtain⟨i,o⟩:=h _ _ _ d;split at a
    ·cases a
    ·rename_i e j c;cases a;obtain⟨g,m⟩:=qDF h n _ _ _ c;refine⟨λ f b=>?_,by rw[wo,kD];omega⟩;rcases wx.1 b with rfl | b
     ·exact i
     ·exact g f b
theorem qx4(s:List UInt8):∀ f p q t,rdT s f p=(some t,q)->jQ t=0/\p+size t<=q
 | 0,p,q,t,h=>by cases h
 | f+1,p,q,t,h=>by
   unfold rdT at h;split at h
   ·cases h
   ·rename_i t0 n g b;split at h
    ·cases h
    ·rename_i ks i a;cases h;obtain⟨k,e,_⟩:=qgS b;obtain⟨d,j⟩:=qDF (qx4 s f) _ _ _ _ a;obtain⟨_,_,c⟩:=qyg (qpc s f) _ _ _ _ e a;refine⟨qHw (qLb b ks c) d,?_⟩;rw[qL];show p+(1+(ks.map size).sum)<=q;omega
theorem qGL{t:T}(h:JL t=true):qcj t=0:=by
 unfold JL at h;simp only[wd,decide_eq_true_eq]at h;have a:=h.1;rw[qkH]at a;by_cases b:qcj t=0
 ·exact b
 ·rw[if_pos b]at a;exact a
def qlO(s:List UInt8):T × (Int × Int):=match rdT s (s.length+1) 0 with
 | (none,e)=>(.mk 0 [] 0 [],((e:Int),2))
 | (some t,q)=>if q≠s.length then(.mk 0 [] 0 [],((q:Int),2))else if 400<size t\/40<qc3 t then(.mk 0 [] 0 [],(0,3))else if JL t=true then(t,(0,0))else(.mk 0 [] 0 [],(0,10))
theorem qOE(s:List UInt8)(e:s.length<=1000000000):Ev (λ m _=>qek m s) (qlO s):=by
 refine waA ?_;simp only[qts,qeJ,ql];unfold qlO;obtain⟨i,g⟩:=qIo s e;cases b:rdT s (s.length+1) 0 with
 | mk o q =>
 cases o with
 | none=>exact wat (g _ b) (wav rfl (wau _))
 | some t =>
   obtain⟨f,j⟩:=qx4 s _ _ _ _ b;obtain⟨_,k⟩:=qpc s _ _ _ _ b;refine wat (i _ _ b) (wax rfl ?_);simp only[];by_cases a:q=s.length
   ·rw[if_neg (λ h=>h a)];refine wax (bnf.2 (qk.2 (by omega))) (wat (qdf t (by omega)) ?_);have d:qS t=if 400<size t\/40<qc3 t then 3 else 0:=by unfold qS;rw[if_neg (λ h=>h f)]
    rw[d];by_cases c:400<size t\/40<qc3 t
    ·rw[if_pos c,if_pos c];exact wav rfl (wau _)
    ·rw[if_neg c,if_neg c];refine wax rfl (wat (qzi t (by omega)) ?_);cases l:JL t with
     | true=>exact wax rfl (wau _)
     | false=>exact wav rfl (wau _)
   ·rw[if_pos a];exact wav (bnt.2 (qh.2 (by omega))) (wau _)
theorem qMM(s:List UInt8)(i:s.length<=1000000000):Ev (λ m _=>qia m s) (qlO s):=by
 refine waA ?_;simp only[qx1,qhY,ql];unfold qlO;obtain⟨k,j⟩:=qKh s i (s.length+1) 0 (by omega) (we _);cases c:rdT s (s.length+1) 0 with
 | mk o q =>
 cases o with
 | none =>
   obtain⟨t,g⟩:=j _ c;exact wat g (wav rfl (wau _))
 | some t =>
   obtain⟨p,l⟩:=qx4 s _ _ _ _ c;obtain⟨_,n⟩:=qpc s _ _ _ _ c;refine wat (k _ _ c) (wax rfl ?_);simp only[];by_cases a:q=s.length
   ·rw[if_neg (λ h=>h a)];refine wax (bnf.2 (qk.2 (by omega))) (wat (qpv t (by omega)) ?_);by_cases f:400<size t
    ·rw[if_pos (.inl f)];exact wav (qs.2 (by omega)) (wau _)
    ·refine wax (qn.2 (by omega)) (wat (qzG t (by omega)) ?_);by_cases e:40<qc3 t
     ·rw[if_pos (.inr e)];exact wav (qs.2 (by omega)) (wau _)
     ·rw[if_neg (by omega)];refine wax (qn.2 (by omega)) (wat (qyE t (by omega)) ?_);by_cases d:qcj t=0
      ·refine wax (bnf.2 (qk.2 d)) (wat (qzU t (by omega)) ?_);cases b:JL t with
       | true=>exact wax rfl (wau _)
       | false=>exact wav rfl (wau _)
      ·have b:JL t=false:=by
         cases b:JL t with
         | true=>exact absurd (qGL b) d
         | false=>rfl
       rw[b,if_neg (by decide)];exact wav (bnt.2 (qh.2 d)) (wau _)
   ·rw[if_pos a];exact wav (bnt.2 (qh.2 (by omega))) (wau _)
end Go.AmZ
namespace Go.AmZ
open Go Go.GxZ
def qb0(s:List UInt8):List UInt8 × Int:=if s.length<4 then([],2)else if qjl (s.drop 4)=s then(s.drop 4,0)else([],19)
theorem qMm{s:List UInt8}:QM s 4 (s.length:Int)=s.drop 4:=by
 unfold QM;rw[wF,wC];rfl
theorem qMN(s:List UInt8)(b:s.length<=1000000000):Ev (λ m _=>qm5 m s) (qb0 s):=by
 refine waA ?_;simp only[qEb,ql3,qMm];unfold qb0;by_cases h:s.length<4
 ·rw[if_pos h];exact wav (qs.2 (by omega)) (wau _)
 ·rw[if_neg h];refine wax (qn.2 (by omega)) (wav (qdK _) (wav (by unfold inb;rw[decide_eq_true_iff];omega) (wat (qFS (s.drop 4) (by rw[wQ];omega)) ?_)));by_cases a:qjl (s.drop 4)=s
  ·rw[if_pos a];exact wax (bnf.2 (yQ.2 a)) (wav (qdK _) (wav (by unfold inb;rw[decide_eq_true_iff];omega) (wau _)))
  ·rw[if_neg a];exact wav (bnt.2 (jS.2 a)) (wau _)
theorem qKT(s:List UInt8)(b:s.length<=1000000000):Ev (λ m _=>qlb m s) (qb0 s):=by
 refine waA ?_;simp only[qDJ,qj9,qMm];unfold qb0;by_cases h:s.length<4
 ·rw[if_pos h];exact wav (qs.2 (by omega)) (wau _)
 ·rw[if_neg h];refine wax (qn.2 (by omega)) (wav (qdK _) (wav (by unfold inb;rw[decide_eq_true_iff];omega) (wat (qBx (s.drop 4) (by rw[wQ];omega)) ?_)));by_cases a:qjl (s.drop 4)=s
  ·rw[if_pos a];exact wax (bnf.2 (yQ.2 a)) (wav (qdK _) (wav (by unfold inb;rw[decide_eq_true_iff];omega) (wau _)))
  ·rw[if_neg a];exact wav (bnt.2 (jS.2 a)) (wau _)
def jP(l:List Pk)(i:Int)(w:Bool):Int:=if i<0\/(l.length:Int)<=i then 4 else match l[i.toNat]? with
 | none=>4
 | some p=>if w=true/\p.2.2.2=false then 9 else 0
theorem qb6{l:List Pk}{i:Int}{w:Bool}(h:jP l i w=0):∃(j:Nat) (p:Pk),i=(j:Int)/\l[j]?=some p/\j<l.length/\(w=true->p.2.2.2=true)/\qc l i=some p:=by
 unfold jP at h;split at h
 ·cases h
 ·rename_i f;obtain⟨j,rfl⟩:=kt (show 0<=i by omega);have a:j<l.length:=by omega
  have e:l[(Int.ofNat j).toNat]?=l[j]?:=rfl;rw[show((j:Int)).toNat=j from wF j,List.getElem?_eq_getElem a]at h;simp only[]at h;refine⟨j,l[j],rfl,List.getElem?_eq_getElem a,a,λ b=>?_,by rw[qU];exact List.getElem?_eq_getElem a⟩;split at h
  ·cases h
  ·rename_i d;cases c:l[j].2.2.2 with
   | true=>rfl
   | false=>exact absurd ⟨b,c⟩ d
theorem qlM(n:Int)(l:List Pk)(i:Int)(w:Bool):Ev (λ m _=>js m (n,l,()) i w) (((n,l,()),()),(jP l i w,())):=by
 refine waA ?_;simp only[qp5,qcS];unfold jP;by_cases d:i<0
 ·rw[if_pos (.inl d)];exact wav (qs.2 d) (wau _)
 ·by_cases c:(l.length:Int)<=i
  ·rw[if_pos (.inr c)];exact wax (qn.2 (by omega)) (wav (jm.2 c) (wau _))
  ·rw[if_neg (by omega)];obtain⟨j,rfl⟩:=kt (show 0<=i by omega);have b:j<l.length:=by omega
   rw[wF,List.getElem?_eq_getElem b];refine wax (qn.2 (by omega)) (wax (yq.2 (by omega)) ?_);simp only[];cases w with
   | false=>rw[if_neg (λ h=>by cases h.1)];exact wax rfl (wau _)
   | true =>
     refine wav rfl (waw (a:=l[j]) (by rw[qU];exact List.getElem?_eq_getElem b) ?_);cases e:l[j].2.2.2 with
     | true=>rw[if_neg (λ h=>by cases h.2)];exact wax rfl (wau _)
     | false=>rw[if_pos ⟨rfl,rfl⟩];exact wav rfl (wau _)
theorem qt7{l:List Pk}{j:Nat}(a:j<l.length)(w:Bool):jP l (j:Int) w=if w=true/\l[j].2.2.2=false then 9 else 0:=by
 unfold jP;rw[if_neg (by omega),wF,List.getElem?_eq_getElem a]
theorem qg4{l:List Pk}{i:Int}(h:i<0\/(l.length:Int)<=i)(w:Bool):jP l i w=4:=if_pos h
theorem qxI(n:Int)(l:List Pk)(i:Int):Ev (λ m _=>jw m (n,l,()) i) (((n,l,()),()),(if jP l i true=0 then some i else none,(jP l i true,()))):=by
 refine waA ?_;simp only[qkT,qau];by_cases d:i<0
 ·exact wav (qs.2 d) (waz (by rw[qg4 (.inl d)];rfl))
 ·by_cases c:(l.length:Int)<=i
  ·exact wax (qn.2 (by omega)) (wav (jm.2 c) (waz (by rw[qg4 (.inr c)];rfl)))
  ·obtain⟨j,rfl⟩:=kt (show 0<=i by omega);have a:j<l.length:=by omega
   have b:qc l (j:Int)=some l[j]:=by rw[qU];exact List.getElem?_eq_getElem a
   refine wax (qn.2 (by omega)) (wax (yq.2 (by omega)) (waw b ?_));rw[qt7 a];cases e:l[j].2.2.2 with
   | true=>exact wax rfl (waw b (waz rfl))
   | false=>exact wav rfl (waz rfl)
def Sm(l:List Pk):Prop:=l.length<=400/\∀ p∈l,p.2.2.1.length<=300000
def qs1(p:Pk):Pk:=(p.1,(p.2.1,(p.2.2.1,false)))
def qeQ(l:List Pk)(i:Int):List Pk × (T × (Int × Int)):=if jP l i true≠0 then(l,(.mk 0 [] 0 [],(0,jP l i true)))else match l[i.toNat]? with
 | none=>(l,(.mk 0 [] 0 [],(0,0)))
 | some p=>(l.set i.toNat (qs1 p),if(qb0 p.2.2.1).2≠0 then(.mk 0 [] 0 [],(p.2.1,(qb0 p.2.2.1).2))else if(qlO (qb0 p.2.2.1).1).2.2≠0 then(.mk 0 [] 0 [],(p.2.1,(qlO (qb0 p.2.2.1).1).2.2))else((qlO (qb0 p.2.2.1).1).1,(p.2.1,0)))
theorem qze(s:List UInt8):(qb0 s).1.length<=s.length:=by
 unfold qb0;split
 ·exact we _
 ·split
  ·rw[wQ];omega
  ·exact we _
theorem qOo(n:Int)(l:List Pk)(f:Sm l)(i:Int):Ev (λ m _=>jv m (n,l,()) i) (((n,(qeQ l i).1,()),()),((qeQ l i).2.1,((qeQ l i).2.2.1,((qeQ l i).2.2.2,())))):=by
 refine waA ?_;simp only[qkE,qaB,ql];unfold qeQ;refine wat (qxI n l i) ?_;by_cases b:jP l i true=0
 ·rw[if_pos b,if_neg (λ h=>h b)];obtain⟨j,p,rfl,e,g,o,k⟩:=qb6 b;rw[wF,e];refine waw k (wax (bnf.2 (qk.2 b)) ?_);rw[QI];have a:qc (l.set j (qs1 p)) (j:Int)=some (qs1 p):=by rw[qU,List.getElem?_set_self g]
  have r:=f.2 p (wa e);have q:=qze p.2.2.1;refine waw a (wat (qMN p.2.2.1 (by omega)) ?_);by_cases d:(qb0 p.2.2.1).2=0
  ·simp only[];rw[if_neg (λ h=>h d)];refine wax (bnf.2 (qk.2 d)) (wat (qOE (qb0 p.2.2.1).1 (by omega)) ?_);by_cases c:(qlO (qb0 p.2.2.1).1).2.2=0
   ·rw[if_neg (λ h=>h c)];exact wax (bnf.2 (qk.2 c)) (waw a (wau _))
   ·rw[if_pos c];exact wav (bnt.2 (qh.2 c)) (waw a (wau _))
  ·simp only[];rw[if_pos d];exact wav (bnt.2 (qh.2 d)) (waw a (wau _))
 ·rw[if_neg b,if_pos b];exact wav (bnt.2 (qh.2 b)) (wau _)
theorem qMA(n:Int)(l:List Pk)(f:Sm l)(i:Int):Ev (λ m _=>qas m (n,l,()) i) (((n,(qeQ l i).1,()),()),((qeQ l i).2.1,((qeQ l i).2.2.1,((qeQ l i).2.2.2,())))):=by
 refine waA ?_;simp only[qmJ,qbl,ql];unfold qeQ;refine wat (qlM n l i true) ?_;by_cases b:jP l i true=0
 ·rw[if_neg (λ h=>h b)];obtain⟨j,p,rfl,e,g,o,k⟩:=qb6 b;rw[wF,e];refine wax (bnf.2 (qk.2 b)) (waw k ?_);rw[QI];have a:qc (l.set j (qs1 p)) (j:Int)=some (qs1 p):=by rw[qU,List.getElem?_set_self g]
  have r:=f.2 p (wa e);have q:=qze p.2.2.1;refine waw a (waw a (wat (qKT p.2.2.1 (by omega)) ?_));by_cases d:(qb0 p.2.2.1).2=0
  ·simp only[];rw[if_neg (λ h=>h d)];refine wax (bnf.2 (qk.2 d)) (wat (qMM (qb0 p.2.2.1).1 (by omega)) ?_);by_cases c:(qlO (qb0 p.2.2.1).1).2.2=0
   ·rw[if_neg (λ h=>h c)];exact wax (bnf.2 (qk.2 c)) (wau _)
   ·rw[if_pos c];exact wav (bnt.2 (qh.2 c)) (wau _)
  ·simp only[];rw[if_pos d];exact wav (bnt.2 (qh.2 d)) (wau _)
 ·rw[if_pos b];exact wav (bnt.2 (qh.2 b)) (wau _)
def qkJ(l:List Pk)(i:Int):List Pk × Int:=if jP l i true≠0 then(l,jP l i true)else match l[i.toNat]? with
 | none=>(l,0)
 | some p=>(l.set i.toNat (qs1 p),0)
theorem qNs(n:Int)(l:List Pk)(i:Int):Ev (λ m _=>qaV m (n,l,()) i) (((n,(qkJ l i).1,()),()),((qkJ l i).2,())):=by
 refine waA ?_;simp only[qok,qbJ];unfold qkJ;refine wat (qxI n l i) ?_;by_cases a:jP l i true=0
 ·rw[if_pos a,if_neg (λ h=>h a)];obtain⟨j,p,rfl,b,e,d,c⟩:=qb6 a;rw[wF,b];refine waw c (wav (qk.2 a) (waz ?_));rw[QI,a];rfl
 ·rw[if_neg a,if_pos a];exact wax (qh.2 a) (wau _)
theorem qKl(n:Int)(l:List Pk)(i:Int):Ev (λ m _=>qbQ m (n,l,()) i) (((n,(qkJ l i).1,()),()),((qkJ l i).2,())):=by
 refine waA ?_;simp only[qpP,qcX];unfold qkJ;refine wat (qlM n l i true) ?_;by_cases a:jP l i true=0
 ·rw[if_neg (λ h=>h a)];obtain⟨j,p,rfl,b,e,d,c⟩:=qb6 a;rw[wF,b];refine wax (bnf.2 (qk.2 a)) (waw c (waz ?_));rw[QI];rfl
 ·rw[if_pos a];exact wav (bnt.2 (qh.2 a)) (wau _)
def qhO(l:List Pk)(i:Int):List Pk × (Int × Int):=if jP l i false≠0 then(l,(0,jP l i false))else if 400<=l.length then(l,(0,3))else match l[i.toNat]? with
 | none=>(l,(0,0))
 | some p=>(l++[(p.1,(p.2.1,(p.2.2.1,true)))],((l.length:Int),0))
theorem qxG(l:List Pk)(p:Pk)(h:l.length<400):iw .i64 (zh (((l++[p]).length:Nat):Int) 1)=(l.length:Int):=by
 rw[wc];show iw .i64 (zh (((l.length+1:Nat)):Int) 1)=_;rw[jF (by unfold zh;omega)];unfold zh;omega
theorem qFf(n:Int)(l:List Pk)(p:Pk):Ev (λ m _=>JK m (n,l,()) p) (if 400<=l.length then(((n,l,()),()),(0,(3,())))else(((n,l++[p],()),()),((l.length:Int),(0,())))):=by
 refine waA ?_;simp only[qoE,qce];by_cases h:400<=l.length
 ·rw[if_pos h];exact wav (jm.2 (by omega)) (wau _)
 ·rw[if_neg h];refine wax (yq.2 (by omega)) (wav (qD (by omega) (by omega)) (waz ?_));rw[qxG l _ (by omega)]
theorem qNT(n:Int)(l:List Pk)(i:Int):Ev (λ m _=>Qt m (n,l,()) i) (((n,(qhO l i).1,()),()),((qhO l i).2.1,((qhO l i).2.2,()))):=by
 refine waA ?_;simp only[qmo,qaP];by_cases f:i<0
 ·refine wav (qs.2 f) (waz ?_);unfold qhO;rw[qg4 (.inl f)];rfl
 ·by_cases e:(l.length:Int)<=i
  ·refine wax (qn.2 (by omega)) (wav (jm.2 e) (waz ?_));unfold qhO;rw[qg4 (.inr e)];rfl
  ·obtain⟨j,rfl⟩:=kt (show 0<=i by omega);have b:j<l.length:=by omega
   have c:qc l (j:Int)=some l[j]:=by rw[qU];exact List.getElem?_eq_getElem b
   have k:jP l (j:Int) false=0:=by rw[qt7 b,if_neg (λ h=>by cases h.1)]
   have a:=qFf n l (l[j].1,(l[j].2.1,(l[j].2.2.1,true)))
   have g:qhO l (j:Int)=if 400<=l.length then(l,(0,3))else(l++[(l[j].1,(l[j].2.1,(l[j].2.2.1,true)))],((l.length:Int),0)):=by
    unfold qhO;rw[k,if_neg (λ h=>h rfl),wF,List.getElem?_eq_getElem b]
   rw[g];by_cases d:400<=l.length
   ·rw[if_pos d]at a |-
    exact wax (qn.2 (by omega)) (wax (yq.2 (by omega)) (waw c (wat a (wau _))))
   ·rw[if_neg d]at a |-
    exact wax (qn.2 (by omega)) (wax (yq.2 (by omega)) (waw c (wat a (wau _))))
theorem qMD(n:Int)(l:List Pk)(i:Int):Ev (λ m _=>qaT m (n,l,()) i) (((n,(qhO l i).1,()),()),((qhO l i).2.1,((qhO l i).2.2,()))):=by
 refine waA ?_;simp only[qn1,qbE];unfold qhO;refine wat (qlM n l i false) ?_;by_cases a:jP l i false=0
 ·rw[if_neg (λ h=>h a)];obtain⟨j,p,rfl,c,f,e,d⟩:=qb6 a;rw[wF,c];refine wax (bnf.2 (qk.2 a)) ?_;by_cases b:400<=l.length
  ·rw[if_pos b];exact wav (jm.2 (by show(400:Int)<=(l.length:Int);omega)) (wau _)
  ·rw[if_neg b];refine wax (yq.2 (by show(l.length:Int)<400;omega)) (waw d (wav (qD (by show(l.length+1)*40<=_;omega) (by omega)) (waz ?_)));rw[qxG l _ (by omega)]
 ·rw[if_pos a];exact wav (bnt.2 (qh.2 a)) (wau _)
def qjz(l:List Pk)(i:Int):List UInt8 × Int:=if jP l i false≠0 then([],jP l i false)else match l[i.toNat]? with
 | none=>([],0)
 | some p=>(p.2.2.1,0)
theorem qON(n:Int)(l:List Pk)(i:Int):Ev (λ m _=>qak m (n,l,()) i) (((n,l,()),()),((qjz l i).1,((qjz l i).2,()))):=by
 refine waA ?_;simp only[qmM,qbc];by_cases c:i<0
 ·refine wav (qs.2 c) (waz ?_);unfold qjz;rw[qg4 (.inl c)];rfl
 ·by_cases b:(l.length:Int)<=i
  ·refine wax (qn.2 (by omega)) (wav (jm.2 b) (waz ?_));unfold qjz;rw[qg4 (.inr b)];rfl
  ·obtain⟨j,rfl⟩:=kt (show 0<=i by omega);have a:j<l.length:=by omega
   have d:qc l (j:Int)=some l[j]:=by rw[qU];exact List.getElem?_eq_getElem a
   refine wax (qn.2 (by omega)) (wax (yq.2 (by omega)) (waw d (waz ?_)));have e:jP l (j:Int) false=0:=by rw[qt7 a,if_neg (λ h=>by cases h.1)]
   unfold qjz;rw[e,if_neg (λ h=>h rfl),wF,List.getElem?_eq_getElem a]
theorem qML(n:Int)(l:List Pk)(i:Int):Ev (λ m _=>qbu m (n,l,()) i) (((n,l,()),()),((qjz l i).1,((qjz l i).2,()))):=by
 refine waA ?_;simp only[qoU,qci];unfold qjz;refine wat (qlM n l i false) ?_;by_cases a:jP l i false=0
 ·rw[if_neg (λ h=>h a)];obtain⟨j,p,rfl,b,e,d,c⟩:=qb6 a;rw[wF,b];exact wax (bnf.2 (qk.2 a)) (waw c (wau _))
 ·rw[if_pos a];exact wav (bnt.2 (qh.2 a)) (wau _)
end Go.AmZ
namespace Go.AmZ
open Go Go.GxZ
def qPX(p:Pk)(j:Nat)(v:Int):Pk:=(p.1,(p.2.1,(p.2.2.1.set j (UInt8.ofNat v.toNat),p.2.2.2)))
def qp3(l:List Pk)(i a v:Int):List Pk × Int:=if jP l i true≠0 then(l,jP l i true)else match l[i.toNat]? with
 | none=>(l,0)
 | some p=>if a<0\/(p.2.2.1.length:Int)<=a then(l,7)else(l.set i.toNat (qPX p a.toNat v),0)
theorem qOD(n:Int)(l:List Pk)(i b v:Int):Ev (λ m _=>QY m (n,l,()) i b v) (((n,(qp3 l i b v).1,()),()),((qp3 l i b v).2,())):=by
 refine waA ?_;simp only[qmG,qbi];unfold qp3;refine wat (qxI n l i) ?_;by_cases c:jP l i true=0
 ·rw[if_pos c,if_neg (λ h=>h c)];obtain⟨j,p,rfl,k,s,r,o⟩:=qb6 c;rw[wF,k];refine waw o (wax (bnf.2 (qk.2 c)) ?_);simp only[];by_cases f:b<0
  ·rw[if_pos (.inl f)];exact wav (qs.2 f) (wau _)
  ·by_cases d:(p.2.2.1.length:Int)<=b
   ·rw[if_pos (.inr d)];exact wax (qn.2 (by omega)) (wav (jm.2 d) (wau _))
   ·rw[if_neg (by omega)];obtain⟨q,rfl⟩:=kt (show 0<=b by omega);have g:q<(Qw p.2.2.1).length:=by rw[qqw];omega
    refine wax (qn.2 (by omega)) (wax (yq.2 (by omega)) (waw (a:=(Qw p.2.2.1)[q]) (by rw[qU];exact List.getElem?_eq_getElem g) (waz ?_)));rw[QI,QI]
    have e:zK ((Qw p.2.2.1).set q v)=p.2.2.1.set q (UInt8.ofNat v.toNat):=by
     unfold zK;rw[List.map_set];exact congrArg (λ x=>List.set x q (UInt8.ofNat v.toNat)) (qC1 p.2.2.1)
    rw[e,wF];rfl
 ·rw[if_neg c,if_pos c];exact wav (bnt.2 (qh.2 c)) (wau _)
theorem qMJ(n:Int)(l:List Pk)(k:Sm l)(i a v:Int):Ev (λ m _=>qbz m (n,l,()) i a v) (((n,(qp3 l i a v).1,()),()),((qp3 l i a v).2,())):=by
 refine waA ?_;simp only[qoT,qcq];unfold qp3;refine wat (qlM n l i true) ?_;by_cases b:jP l i true=0
 ·rw[if_neg (λ h=>h b)];obtain⟨j,p,rfl,c,u,t,d⟩:=qb6 b;have w:=k.2 p (wa c);rw[wF,c];refine wax (bnf.2 (qk.2 b)) (waw d ?_);simp only[];by_cases f:a<0
  ·rw[if_pos (.inl f)];exact wav (qs.2 f) (wau _)
  ·by_cases e:(p.2.2.1.length:Int)<=a
   ·rw[if_pos (.inr e)];exact wax (qn.2 (by omega)) (wav (jm.2 e) (wau _))
   ·rw[if_neg (by omega)];obtain⟨q,rfl⟩:=kt (show 0<=a by omega);have g:q<p.2.2.1.length:=by omega
    have e1:iw .i64 (qd (q:Int) 1)=((q+1:Nat):Int):=iwn 1 (by omega);have s:QM p.2.2.1 0 (q:Int)=p.2.2.1.take q:=by unfold QM;rw[wF];rfl
    have r:QM p.2.2.1 ((q+1:Nat):Int) (p.2.2.1.length:Int)=p.2.2.1.drop (q+1):=by unfold QM;rw[wF,wF,wC]
    rw[e1,s,r]
    have o:(p.2.2.1.take q++zK [v])++p.2.2.1.drop (q+1)=p.2.2.1.set q (UInt8.ofNat v.toNat):=by
     rw[xK,if_pos g,wi];rfl
    rw[o];refine wax (qn.2 (by omega)) (wax (yq.2 (by omega)) (wav (by unfold inb;rw[decide_eq_true_iff];omega) (wav (by unfold inb;rw[decide_eq_true_iff];omega) (wav (qi9 (by rw[wm];show _+1<_;omega)) (wav (qdK _) (wav (by unfold inb;rw[decide_eq_true_iff];omega) (wav (qi9 (by rw[wc,wm,wQ];show _+1+_<_;omega)) (waw d (waz ?_)))))))));rw[QI,wF];rfl
 ·rw[if_pos b];exact wav (bnt.2 (qh.2 b)) (wau _)
def wtP(l:List Pk)(a:Int)(i:Nat):Bool:=match l[i]? with
 | none=>false
 | some p=>p.2.2.2&&ieq p.2.1 a
def wtO(l:List Pk)(a:Int)(i:Nat):List Int:=((List.range i).filter (wtP l a)).map λ(j:Nat)=>(j:Int)
theorem qqE(l:List Pk)(a:Int)(i:Nat):wtO l a (i+1)=if wtP l a i=true then wtO l a i++[(i:Int)]else wtO l a i:=by
 unfold wtO;rw[wak,xH,wS];cases h:wtP l a i with
 | true=>rw[if_pos rfl,xR h];rfl
 | false=>rw[if_neg (by decide),xQ (by rw[h];decide)];simp
theorem qos(l:List Pk)(a:Int)(i:Nat):(wtO l a i).length<=i:=by
 unfold wtO;rw[wA];have:=xw (wtP l a) (List.range i)
 rwa [xm]at this
theorem qvO(n:Int)(l:List Pk)(r:l.length<=1000)(a:Int):Ev (λ m _=>yb m (n,l,()) a) (((n,l,()),()),(wtO l a l.length,())):=by
 refine waA ?_;simp only[qk0,QB]
 have c:=qr (P := λ i=>Ev (λ m k=>yd m k a l.length i n l (wtO l a i)) (((n,l,()),()),(wtO l a l.length,()))) l (by omega)
  (λ d=>by
   refine waB ?_;simp only[qdW,QC];exact wax d (wau _))
  (λ i x e s d q p b=>by
   have o:=(List.getElem?_eq_some_iff.1 e).1;have f:=qos l a i;rw[qqE]at b;have j:wtP l a i=(x.2.2.2&&ieq x.2.1 a):=by unfold wtP;rw[e]
   rw[j]at b;refine waB ?_;simp only[qdW,QC];refine wav d (waw q ?_);rw[p];cases h:x.2.2.2 with
   | false=>rw[h,xb,if_neg (by decide)]at b;exact wax rfl b
   | true =>
     rw[h]at b;refine wav rfl ?_;cases g:ieq x.2.1 a with
     | false=>rw[g,w7,if_neg (by decide)]at b;exact wax rfl b
     | true=>rw[g,w7,if_pos rfl]at b;exact wav rfl (wav (qD (by omega) (by omega)) b))
 exact waC (L := λ m k=>yd m k a l.length 0 n l []) (c 0 (we _))
theorem qNy(n:Int)(l:List Pk)(r:l.length<=1000)(a:Int):Ev (λ m _=>qal m (n,l,()) a) (((n,l,()),()),(wtO l a l.length,())):=by
 refine waA ?_;simp only[qmT,Jf]
 have c:=qr (P := λ i=>Ev (λ m k=>yw m k a i n l (wtO l a i)) (((n,l,()),()),(wtO l a l.length,()))) l (by omega)
  (λ d=>by
   refine waB ?_;simp only[qeF,Jo];exact wax d (wau _))
  (λ i x e s d g q b=>by
   have p:=(List.getElem?_eq_some_iff.1 e).1;have f:=qos l a i;rw[qqE]at b;have o:wtP l a i=(x.2.2.2&&ieq x.2.1 a):=by unfold wtP;rw[e]
   rw[o]at b;refine waB ?_;simp only[qeF,Jo];refine wav d (waw g ?_);rw[q];cases j:x.2.2.2 with
   | false=>rw[j,xb,if_neg (by decide)]at b;exact wax rfl b
   | true =>
     rw[j]at b;refine wav rfl (waw g ?_);cases h:ieq x.2.1 a with
     | false=>rw[h,w7,if_neg (by decide)]at b;exact wax rfl b
     | true=>rw[h,w7,if_pos rfl]at b;exact wav rfl (wav (qD (by omega) (by omega)) b))
 exact waC (L := λ m k=>yw m k a 0 n l []) (c 0 (we _))
theorem qJS(l:List Int)(d:l.length<2 ^ 62):Ev (λ m _=>qaS m l l) true:=by
 refine waA ?_;simp only[qol,JF];refine wax (bnf.2 (qk.2 rfl)) ?_
 have a:=qr (P := λ i=>Ev (λ m k=>yL m k l l l.length i) true) l d
  (λ b=>by
   refine waB ?_;simp only[qfQ,JD];exact wax b (wau _))
  (λ i x g h b c e f=>by
   refine waB ?_;simp only[qfQ,JD];refine wav b (waw c (waw c (wax (bnf.2 (qk.2 rfl)) ?_)));rw[e];exact f)
 exact waC (L := λ m k=>yL m k l l l.length 0) (a 0 (we _))
def qmw(n:Int)(l:List Pk)(a b:Int)(t:T):List Pk × (Int × Int):=if ¬ (0<=a/\a<n)\/¬ (0<=b/\b<n)then(l,(0,7))else if 400<=l.length then(l,(0,3))else if qc4 t≠0 then(l,(0,qc4 t))else(l++[(a,(b,(qjl (qhI t),true)))],((l.length:Int),0))
theorem qPE(n:Int)(l:List Pk)(a b:Int)(t:T)(g:size t<=10000):Ev (λ m _=>Jj m (n,l,()) a b t) (((n,(qmw n l a b t).1,()),()),((qmw n l a b t).2.1,((qmw n l a b t).2.2,()))):=by
 refine waA ?_;simp only[qn0,qbH,ql];unfold qmw;refine wat (qCs n l a) ?_;by_cases e:0<=a/\a<n
 ·refine wax (by show qf (decide _)=false;rw[decide_eq_true e];rfl) (wat (qCs n l b) ?_);by_cases d:0<=b/\b<n
  ·rw[if_neg (λ h=>h.elim (λ h=>h e) λ h=>h d)];refine wax (by show qf (decide _)=false;rw[decide_eq_true d];rfl) ?_;by_cases f:400<=l.length
   ·rw[if_pos f];exact wav (jm.2 (by show(400:Int)<=(l.length:Int);omega)) (wau _)
   ·rw[if_neg f];refine wax (yq.2 (by show(l.length:Int)<400;omega)) (wat (qOQ t g) ?_);by_cases c:qc4 t=0
    ·rw[if_neg (λ h=>h c)];have j:=qu0 t g;have i:=qFf n l (a,(b,(qjl (qhI t),true)));rw[if_neg f]at i;exact wax (bnf.2 (qk.2 c)) (wat (qFS (qhI t) (by omega)) (wat i (wau _)))
    ·rw[if_pos c];exact wav (bnt.2 (qh.2 c)) (wau _)
  ·rw[if_pos (.inr d)];exact wav (by show qf (decide _)=true;rw[decide_eq_false d];rfl) (wau _)
 ·rw[if_pos (.inl e)];exact wav (by show qf (decide _)=true;rw[decide_eq_false e];rfl) (wau _)
theorem qNE(n:Int)(l:List Pk)(a b:Int)(t:T)(d:size t<=10000):Ev (λ m _=>qb7 m (n,l,()) a b t) (((n,(qmw n l a b t).1,()),()),((qmw n l a b t).2.1,((qmw n l a b t).2.2,()))):=by
 refine waA ?_;simp only[qpD,qcY,ql];unfold qmw;by_cases h:¬ (0<=a/\a<n)\/¬ (0<=b/\b<n)
 ·rw[if_pos h];by_cases f:a<0
  ·exact wav (qs.2 f) (wau _)
  ·refine wax (qn.2 (by omega)) ?_;by_cases i:n<=a
   ·exact wav (jm.2 i) (wau _)
   ·refine wax (yq.2 (by omega)) ?_;by_cases g:b<0
    ·exact wav (qs.2 g) (wau _)
    ·exact wax (qn.2 (by omega)) (wav (jm.2 (by omega)) (wau _))
 ·rw[if_neg h];refine wax (qn.2 (by omega)) (wax (yq.2 (by omega)) (wax (qn.2 (by omega)) (wax (yq.2 (by omega)) ?_)));by_cases e:400<=l.length
  ·rw[if_pos e];exact wav (jm.2 (by omega)) (wau _)
  ·rw[if_neg e];refine wax (yq.2 (by omega)) (wat (qMz t d) ?_);by_cases c:qc4 t=0
   ·rw[if_neg (λ h=>h c)];have f:=qu0 t d;refine wax (bnf.2 (qk.2 c)) (wat (qBx (qhI t) (by omega)) (wav (qD (by omega) (by omega)) (waz ?_)));rw[qxG l _ (by omega)]
   ·rw[if_pos c];exact wav (bnt.2 (qh.2 c)) (wau _)
theorem qMC(s:List UInt8):size (qlO s).1<=400:=by
 have a:size (T.mk 0 [] 0 [])<=400:=by rw[qL];exact(by decide:1+(([]:List T).map size).sum<=400)
 unfold qlO;split
 ·exact a
 ·split
  ·exact a
  ·split
   ·exact a
   ·rename_i h;split
    ·exact wae λ b=>h (.inl b)
    ·exact a
theorem qFd(l:List Pk)(i:Int):size (qeQ l i).2.1<=1000000000:=by
 have a:size (T.mk 0 [] 0 [])<=1000000000:=by rw[qL];exact(by decide:1+(([]:List T).map size).sum<=1000000000)
 unfold qeQ;split
 ·exact a
 ·split
  ·exact a
  ·split
   ·exact a
   ·split
    ·exact a
    ·exact wD (qMC _) (by decide)
abbrev OpV:=Int × (Int × (Int × (Int × (T × Int))))
def doO(n:Int)(l:List Pk)(o:OpV):List Pk :=
 if jq o.1 7=0 then(qmw n l o.2.1 o.2.2.1 o.2.2.2.2.1).1 else if jq o.1 7=1 then(qeQ l o.2.1).1 else if jq o.1 7=2 then(qkJ l o.2.1).1 else if jq o.1 7=3 then(qhO l o.2.1).1 else if jq o.1 7=4 then(qp3 l o.2.1 o.2.2.1 o.2.2.2.1).1 else l
theorem qPI(n:Int)(l:List Pk)(b:Sm l)(o:OpV)(h:size o.2.2.2.2.1<=10000):Ev (λ m _=>qpj m (n,l,()) (n,l,()) o) (((n,doO n l o,()),((n,doO n l o,()),())),(true,())):=by
 refine waA ?_;simp only[qHO,qn6,ql];unfold doO;have a:∀ x:Int,ieq x x=true := λ x=>qk.2 rfl;by_cases g:jq o.1 7=0
 ·rw[if_pos g];refine wav (qk.2 g) (wat (qPE n l _ _ _ h) (wat (qNE n l _ _ _ h) (wav (a _) (waz ?_))));rw[a]
 ·rw[if_neg g];refine wax (qh.2 g) ?_;by_cases f:jq o.1 7=1
  ·rw[if_pos f];refine wav (qk.2 f) (wat (qOo n l b _) (wat (qMA n l b _) (wat (qgQ (qeQ l o.2.1).2.1 (qeQ l o.2.1).2.1 (qFd l o.2.1) (qFd l o.2.1)) ?_)));refine wav (qb1.2 rfl) (wav (a _) (waz ?_));rw[a]
  ·rw[if_neg f];refine wax (qh.2 f) ?_;by_cases e:jq o.1 7=2
   ·rw[if_pos e];refine wav (qk.2 e) (wat (qNs n l _) (wat (qKl n l _) (waz ?_)));rw[a]
   ·rw[if_neg e];refine wax (qh.2 e) ?_;by_cases d:jq o.1 7=3
    ·rw[if_pos d];refine wav (qk.2 d) (wat (qNT n l _) (wat (qMD n l _) (wav (a _) (waz ?_))));rw[a]
    ·rw[if_neg d];refine wax (qh.2 d) ?_;by_cases c:jq o.1 7=4
     ·rw[if_pos c];refine wav (qk.2 c) (wat (qOD n l _ _ _) (wat (qMJ n l b _ _ _) (waz ?_)));rw[a]
     ·rw[if_neg c];refine wax (qh.2 c) ?_;by_cases i:jq o.1 7=5
      ·have j:=b.1;have k:=qos l o.2.1 l.length;exact wav (qk.2 i) (wat (qvO n l (by omega) _) (wat (qNy n l (by omega) _) (wat (qJS (wtO l o.2.1 l.length) (by omega)) (wau _))))
      ·refine wax (qh.2 i) (wat (qON n l _) (wat (qML n l _) (wav (yQ.2 rfl) (waz ?_))));rw[a]
end Go.AmZ
namespace Go.AmZ
open Go Go.GxZ Go.RowKit
open Go.ChangeShapes Go.WideShapes Go.ChangeAt Go.WideMaps Go.WideElems
theorem qzu(b o j:Nat):(⟨b,o,none⟩:Addr).add j=⟨b,o+j,none⟩:=by unfold Addr.add;split<;>simp_all
def Ty.wt:Ty->Nat
 | .int _ | .bool=>1
 | .str=>16
 | .list _=>24
 | .term=>56
 | .pair a b=>a.wt+b.wt
 | .one a=>a.wt
theorem Ty.wt_pos:∀ a:Ty,0<a.wt
 | .int _=>Nat.one_pos
 | .bool=>Nat.one_pos
 | .list _=>(by decide:0<24)
 | .str=>(by decide:0<16)
 | .term=>(by decide:0<56)
 | .pair a b=>wE (Ty.wt_pos a) (kF _ _)
 | .one a=>Ty.wt_pos a
mutual
def tyM(P:Program):Nat->Ty->TypeId->Bool
 | 0,_,_=>false
 | _+1,.int k,t=>match P.underlying t with
   | some (.int d)=>decide (d=k)&&decide (P.cellsOf t=1)
   | _=>false
 | _+1,.bool,t=>match P.underlying t with
   | some .bool=>decide (P.cellsOf t=1)
   | _=>false
 | _+1,.str,t=>match P.underlying t with
   | some .string=>decide (P.cellsOf t=1)
   | _=>false
 | n+1,.list a,t=>match P.underlying t with
   | some (.slice e)=>decide (P.cellsOf t=1)&&decide (P.cellsOf e=a.size)&&decide (a.wt<=P.bytesOf e)&&tyM P n a e
   | _=>false
 | n+1,.term,t=>qHL P n t
 | n+1,.pair a b,t=>match P.underlying t with
   | some (.struct c)=>decide (P.cellsOf t=a.size+b.size)&&fsM P n (.pair a b) 0 c.toList
   | _=>false
 | n+1,.one a,t=>match P.underlying t with
   | some (.struct c)=>decide (P.cellsOf t=a.size)&&fsM P n a 0 c.toList
   | _=>false
def fsM(P:Program):Nat->Ty->Nat->List Field->Bool
 | 0,_,_,_=>false
 | n+1,τ,off,[f]=>decide (f.offset=off)&&decide (P.cellsOf f.type = τ.size)&&tyM P n τ f.type
 | n+1,.pair a b,off,f::g::r=>decide (f.offset=off)&&decide (P.cellsOf f.type=a.size)&&tyM P n a f.type&&fsM P n b (off+a.size) (g::r)
 | _+1,_,_,_=>false
def qHL(P:Program):Nat->TypeId->Bool
 | 0,_=>false
 | n+1,t=>match P.underlying t with
   | some (.struct f)=>match f.toList with
     | [d,c,b,a]=>decide (P.cellsOf t=4)&&decide (d.offset=0)&&decide (c.offset=1)&&decide (b.offset=2)&&decide (a.offset=3)&&decide (P.cellsOf a.type=1) &&
      tyM P n (.int .i64) d.type&&tyM P n .str c.type&&tyM P n (.int .i64) b.type&&(match P.underlying a.type with
      | some (.slice e)=>decide (e=t)&&decide (0<P.bytesOf t)
      | _=>false)
     | _=>false
   | _=>false
end
def qlV:(τ : Ty)->Val τ -> Prop
 | .int k,n=>k.min<=n/\n<=k.max
 | .bool,_=>True
 | .str,s=>s.length<2 ^ 62
 | .term,t=>qyu t
 | .list a,l=>(l.length<2 ^ 62/\l.length*a.wt<=2 ^ 47)/\∀ x∈l,qlV a x
 | .pair a b,p=>qlV a p.1/\qlV b p.2
 | .one a,v=>qlV a v
def ghW(W:World):Gh:=⟨λ b o=>match W.cell? ⟨b,o,none⟩with | some u=>if u.oneCell'=true then some u else none | none=>none,0,λ _=>0,0,λ _=>0,λ _=>0,λ _=>0,λ _=>0,λ _=>0⟩
theorem qF1{W:World}{b o:Nat}{u:Value}:(ghW W).mem b o=some u↔W.cell? ⟨b,o,none⟩=some u/\u.oneCell'=true:=by
 show(match W.cell? ⟨b,o,none⟩with | some u=>if u.oneCell'=true then some u else none | none=>none)=some u↔_;cases W.cell? ⟨b,o,none⟩with
 | none=>simp
 | some v =>
   simp only[wz];constructor
   ·intro h;split at h
    ·cases h;exact⟨rfl,‹_›⟩
    ·cases h
   ·rintro⟨rfl,h⟩;rw[if_pos h]
theorem qMx(W:World):Inv (ghW W) emp W :=
 ⟨rfl,rfl,λ b o u h=>qF1.1 h,λ i cs h=>(by cases h),λ i j h=>absurd h (wL _),λ i h=>absurd h (wL _),λ r R h=>(by cases h),λ r a h=>absurd h (wL _)⟩
theorem cells_len{W:World}{zu:Nat}{a:Addr}:∀{n:Nat} {cs:List Value},W.cells? zu a n=some cs->cs.length=n/\∀ j u,cs[j]?=some u->W.cell? (a.add j)=some u:=by
 intro n cs h;unfold World.cells? at h;split at h
 case isFalse=>cases h
 have h1:=mapM_some_length h;rw[xm]at h1;refine⟨h1,λ j u hj=>?_⟩;have hlt:=getElem?_lt hj;have:=mapM_some_get h j j (by rw[List.getElem?_range (by omega)]);rw[this];exact hj
section
variable {H:Type} {enc:TypeId × Value->H} {P:Program} {W:World}
def qHp(enc:TypeId × Value->H)(P:Program)(W:World)(a:Nat):Prop:=∀(n:Nat) (τ : Ty) (t:TypeId) (cs:List Value) (x:DataW H × List MemPlace),tyM P n τ t=true->DataW.trod enc P W 0 (λ _=>true) true a t cs=some x->(∀ k∈x.1.weights P t,k<=reachBytes) ->
 ∃ v:Val τ,RepL (ghW W) (qj τ v) cs/\(∀ u∈cs,u.oneCell'=true)/\qlV τ v
theorem qo5{e:TypeId}:∀{ds:List (DataW H)} {d:DataW H},d∈ds->∀ n∈d.weights P e,n∈DataW.weightsAll P e ds
 | b::ds,d,h,n,a=>by
   simp only[DataW.weightsAll,ww];rcases wx.1 h with rfl | h
   ·exact Or.inl a
   ·exact Or.inr (qo5 h n a)
theorem qDH{n k:Nat}(h:n*k<=reachBytes)(a:0<k):n<2 ^ 62:=by
 have:n*1<=n*k:=vP _ a;have b:reachBytes=140737488351232:=rfl;omega
theorem qJE{α d:Type}{n:Nat}{Q:Nat -> α -> d->Prop}(e:0<n)(h:∀ i,i<n->∃ a b,Q i a b):∃(f:Nat -> α) (g:Nat->d),∀ i,i<n->Q i (f i) (g i):=by
 obtain⟨k,j,_⟩:=h 0 e;refine⟨λ i=>if c:i<n then(h i c).choose else k,λ i=>if c:i<n then(h i c).choose_spec.choose else j,λ i c=>?_⟩;simp only[dif_pos c];exact(h i c).choose_spec.choose_spec
theorem qBB{Γ : Gh}{x:AV}{u:Value}(h:Rep Γ x u):RepL Γ [x] [u]:=waF h RepL.nil
theorem qz6{A:Nat}(hA:∀ f,f<A->qHp enc P W f){a:Ty}{t e:TypeId}{m:Nat}{cs:List Value}{x:DataW H × List MemPlace}(T:P.underlying t=some (.slice e))(hc:P.cellsOf e=a.size)(hb:0<P.bytesOf e)(hm:tyM P m a e=true)
  (h:DataW.trod enc P W 0 (λ _=>true) true A t cs=some x) (M:∀ k∈x.1.weights P t,k<=reachBytes) :
  ∃(l:List (Val a)) (u:Value),cs=[u]/\u.oneCell'=true/\Rep (ghW W) (.sl a.size (l.map (qj a)) 1) u/\(l.length<2 ^ 62/\l.length*P.bytesOf e<=2 ^ 47)/\∀ v∈l,qlV a v:=by
 rcases DataW.trod_slice T h with⟨rfl,rfl⟩ | ⟨ad,d,cap,elems,E,n,rfl,rfl,rfl,_,U,_,I,O,_,_⟩
 ·refine⟨[],_,rfl,rfl,?_,⟨by simp,by simp⟩,(by intro v G;cases G)⟩;exact .sl _ _ _ none 0 0 0 0 (λ _ _=>undef) rfl (λ _=>wb _) (λ h=>by omega) (by intro e p;cases p) (by intro e p;cases p) (waE a) (.inl rfl) (by intro i e j x c;cases c) (by intro i e j x c;cases c)
 ·have F:(elems.length+E.length)*P.bytesOf e<=reachBytes/\∀ k∈DataW.weightsAll P e (elems.map (·.1)),k<=reachBytes:=by
    simp only[DataW.weights,T,wA,wx,ww]at M;exact⟨M _ (.inl rfl),λ k N=>M k (.inr (.inl N))⟩
  have B:∀ i,i<d->∃(v:Val a) (us:List Value),RepL (ghW W) (qj a v) us/\(∀ u∈us,u.oneCell'=true)/\qlV a v/\(∀ j u,us[j]?=some u->W.cell? ((ad.add (i*a.size)).add j)=some u):=by
   intro i c;have g:=O i c;rw[List.getElem?_eq_getElem (by omega),hc,Option.bind_eq_some_iff]at g;obtain⟨us,C,h3⟩:=g;obtain⟨z,D⟩:=cells_len C;obtain⟨v,Q,g2,g3⟩:=hA n (xu _) m a e us _ hm h3 λ k N=>F.2 k (qo5 (kO (wW _)) k N);exact⟨v,us,Q,g2,g3,D⟩
  by_cases h0:d=0
  ·subst h0;refine⟨[],_,rfl,rfl,?_,⟨by simp,by simp⟩,(by intro v G;cases G)⟩;exact .sl _ _ _ _ 0 cap 0 0 (λ _ _=>undef) rfl (λ _=>U) (λ h=>by omega) (by intro e p;cases p) (by intro e p;cases p) (waE a) (.inl rfl) (by intro i e j x c;cases c) (by intro i e j x c;cases c)
  obtain⟨b,o,rfl⟩:∃ b o,ad=⟨b,o,none⟩:=by
   obtain⟨v,us,Q,_,_,g4⟩:=B 0 (by omega);have aa:us.length=a.size:=by rw[Q.len];exact jA a v
   have hp:=waE a;have g:=g4 0 _ (List.getElem?_eq_getElem (by omega));rw[kQ]at g;have e1:(ad.add 0).add 0=ad:=rfl;rw[e1]at g;obtain⟨b,o,sp⟩:=ad;unfold World.cell? at g;split at g
   ·split at g
    ·cases g
    ·rename_i hs;cases sp with
     | none=>exact⟨b,o,rfl⟩
     | some s=>simp at hs
   ·cases g
  obtain⟨L,R,r⟩:=qJE (by omega:0<d) B;have Z := λ i c=>(r i c).1;have Y := λ i c=>(r i c).2.1;have X := λ i c=>(r i c).2.2.1;have V := λ i c=>(r i c).2.2.2;have K:∀ i,i<d->((List.range d).map L)[i]?=some (L i) := λ i c=>by rw[List.getElem?_map,List.getElem?_range c];rfl
  have q:∀(i:Nat) (w:List AV) (j:Nat) (y:AV),(((List.range d).map L).map (qj a))[i]?=some w->w[j]?=some y->i<d/\∃ u,(R i)[j]?=some u/\Rep (ghW W) y u/\(ghW W).mem b (o+i*a.size+j)=some u:=by
   intro i w j y g C;have c:i<d:=by have:=getElem?_lt g;simpa using this
   rw[List.getElem?_map,K i c]at g;cases g;obtain⟨u,z,D⟩:=(Z i c).get C;refine⟨c,u,z,D,qF1.2 ⟨?_,Y i c u (wa z)⟩⟩;have:=V i c j u z;rw[qzu,qzu]at this;exact this
  refine⟨(List.range d).map L,_,rfl,rfl,?_,?_,?_⟩
  ·refine .sl _ _ _ _ d cap b o (λ i j=>(R i).getD j undef) (by simp) (λ _=>U) (λ h=>by omega) ?_ ?_ (waE a) (.inr rfl) ?_ ?_
   ·intro w p;obtain⟨v,_,rfl⟩:=wy.1 p;exact jA a v
   ·intro w p;obtain⟨v,_,rfl⟩:=wy.1 p;exact zt a v
   ·intro i w j y g C;obtain⟨_,u,z,D,S⟩:=q i w j y g C;rw[List.getD_eq_getElem?_getD,z];exact S
   ·intro i w j y g C;obtain⟨_,u,z,D,S⟩:=q i w j y g C;rw[List.getD_eq_getElem?_getD,z];exact D
  ·rw[wA,xm,<- I];have J:elems.length*P.bytesOf e<=reachBytes:=wD (wn _ (kF _ _)) F.1;exact⟨qDH J hb,wD J (by decide)⟩
  ·intro v G;obtain⟨i,c,rfl⟩:=wy.1 G;exact X i (kS.1 c)
theorem qw5{c:Nat}(G:qHp enc P W c):∀(n:Nat) (τ : Ty) (off:Nat) (d:List Field) (cs:List Value) (xs:List (DataW H × List MemPlace)),fsM P n τ off d=true->xs.length=d.length ->
  (∀(i:Nat) (f:Field),d[i]?=some f->DataW.trod enc P W 0 (λ _=>true) true c f.type ((cs.drop f.offset).take (P.cellsOf f.type))=xs[i]?)->(∀ k∈DataW.weightsEach P (d.map (·.type)) (xs.map (·.1)),k<=reachBytes)->off + τ.size<=cs.length ->
  ∃ v:Val τ,RepL (ghW W) (qj τ v) ((cs.drop off).take τ.size)/\(∀ u∈(cs.drop off).take τ.size,u.oneCell'=true)/\qlV τ v:=by
 intro n
 induction n with
 | zero=>intro τ off d cs xs h;simp[fsM]at h
 | succ n M =>
   intro τ off d cs xs h A z m j
   have t:∀ f x,d=[f]->xs=[x]->(decide (f.offset=off)&&decide (P.cellsOf f.type = τ.size)&&tyM P n τ f.type)=true->∃ v:Val τ,RepL (ghW W) (qj τ v) ((cs.drop off).take τ.size)/\(∀ u∈(cs.drop off).take τ.size,u.oneCell'=true)/\qlV τ v:=by
    intro f x Q w h;simp only[wd,decide_eq_true_eq]at h;obtain⟨⟨E,D⟩,C⟩:=h;subst Q;subst w;have o:=z 0 f rfl;rw[E,D]at o;exact G n τ f.type _ x C o λ k l=>m k (by simp only[wo,vt,DataW.weightsEach,wB];exact l)
   cases d with
   | nil=>cases τ <;> simp[fsM]at h
   | cons f r =>
     cases xs with
     | nil=>simp at A
     | cons x xs =>
       cases r with
       | nil =>
         have y:xs=[]:=wk (by simpa using A);subst y;refine t f x rfl rfl ?_;cases τ <;> exact h
       | cons g r =>
         cases τ with
         | pair a b =>
           simp only[fsM,wd,decide_eq_true_eq]at h;obtain⟨⟨⟨E,D⟩,C⟩,o⟩:=h;have I:=z 0 f rfl;rw[E,D]at I;have O:off+(a.size+b.size)<=cs.length:=j;simp only[wo,DataW.weightsEach,ww]at m;obtain⟨v,L,K,J⟩:=G n a f.type _ x C I λ k l=>m k (.inl l);obtain⟨F,s,q,p⟩:=M b (off+a.size) (g::r) cs xs o (by simpa using A) (λ i R B=>z (i+1) R B) (λ k l=>m k (.inr l)) (by omega)
           have e:(cs.drop off).take (a.size+b.size)=(cs.drop off).take a.size++(cs.drop (off+a.size)).take b.size:=by
            rw[List.take_add,List.drop_drop]
           refine⟨(v,F),?_,?_,J,p⟩
           ·show RepL _ (qj a v++qj b F) ((cs.drop off).take (a.size+b.size));rw[e];exact L.append s
           ·show ∀ u∈(cs.drop off).take (a.size+b.size),_;rw[e];intro u N;exact(ww.1 N).elim (K u) (q u)
         | _=>simp[fsM]at h
theorem qMv{Γ : Gh}(k:IntKind)(n:Int):RepL Γ (qj (.int k) n) [.int k n]:=qBB (.v _ rfl)
theorem qMd:∀ fuel,qHp enc P W fuel:=by
 intro fuel
 induction fuel using Nat.strongRecOn with
 | ind fuel ihA =>
   have ints:∀{k:IntKind} {t:TypeId} {cs:List Value} {x:DataW H × List MemPlace} {f:Nat},P.underlying t=some (.int k)->DataW.trod enc P W 0 (λ _=>true) true f t cs=some x->∃ n:Int,cs=[.int k n]/\k.min<=n/\n<=k.max:=by
    intro k t cs x f ht h;obtain⟨n,rfl,_,hwf⟩:=DataW.trod_int ht h;simp only[Lit.wf,wd,decide_eq_true_eq]at hwf;exact⟨n,rfl,hwf⟩
   have strs:∀{t:TypeId} {cs:List Value} {x:DataW H × List MemPlace} {f:Nat},P.underlying t=some .string->DataW.trod enc P W 0 (λ _=>true) true f t cs=some x->(∀ k∈x.1.weights P t,k<=reachBytes)->∃ s:ByteArray,cs=[.string s]/\s.data.toList.length<2 ^ 62:=by
    intro t cs x f ht h hw;obtain⟨s,rfl,rfl,_⟩:=DataW.trod_string ht h;refine⟨s,rfl,?_⟩;have:=hw s.data.toList.length (by simp[DataW.weights]);exact qDH (k:=1) (by omega) (by decide)
   intro n τ t cs x hm h hw;cases n with
   | zero=>cases τ <;> simp[tyM]at hm
   | succ n =>
   cases τ with
   | int k =>
     simp only[tyM]at hm;split at hm
     ·rename_i k' ht;simp only[wd,decide_eq_true_eq]at hm;obtain⟨rfl,_⟩:=hm;obtain⟨i,rfl,h1,h2⟩:=ints ht h;exact⟨i,qMv _ _,by intro u hu;rw[wH.1 hu];rfl,h1,h2⟩
     ·cases hm
   | bool =>
     simp only[tyM]at hm;split at hm
     ·rename_i ht;obtain⟨b,rfl,_⟩:=DataW.trod_bool ht h;exact⟨b,qBB (.v _ rfl),by intro u hu;rw[wH.1 hu];rfl,trivial⟩
     ·cases hm
   | str =>
     simp only[tyM]at hm;split at hm
     ·rename_i ht;obtain⟨s,rfl,h1⟩:=strs ht h hw;refine⟨s.data.toList,?_,by intro u hu;rw[wH.1 hu];rfl,h1⟩;exact qBB (.v _ rfl)
     ·cases hm
   | list a =>
     simp only[tyM]at hm;split at hm
     ·rename_i e ht;simp only[wd,decide_eq_true_eq]at hm;obtain⟨⟨⟨_,hc⟩,hb⟩,hm⟩:=hm;obtain⟨l,u,rfl,h1,h2,h3,h4⟩:=qz6 (λ f hf=>ihA f hf) ht hc (wE (Ty.wt_pos a) hb) hm h hw;exact⟨l,qBB h2,by intro u' hu;rw[wH.1 hu];exact h1,⟨h3.1,wD (vP _ hb) h3.2⟩,h4⟩
     ·cases hm
   | pair a b =>
     simp only[tyM]at hm;split at hm
     ·rename_i fs ht;simp only[wd,decide_eq_true_eq]at hm;obtain⟨hc,hm⟩:=hm;obtain⟨xs,f,rfl,rfl,h1,h2,h3⟩:=DataW.trod_struct ht h;have hsz:(Ty.pair a b).size=a.size+b.size:=rfl;obtain⟨v,v1,v2,v3⟩:=qw5 (ihA f (xu _)) n (.pair a b) 0 fs.toList cs xs hm (by simpa using h2) (λ i g hg=>h3 i g (by simpa using hg)) (by simpa[DataW.weights,ht]using hw) (by rw[h1,hc,hsz];omega);rw[wO,kE (by rw[h1,hc,hsz];exact wb _)]at v1 v2;exact⟨v,v1,v2,v3⟩
     ·cases hm
   | one a =>
     simp only[tyM]at hm;split at hm
     ·rename_i fs ht;simp only[wd,decide_eq_true_eq]at hm;obtain⟨hc,hm⟩:=hm;obtain⟨xs,f,rfl,rfl,h1,h2,h3⟩:=DataW.trod_struct ht h;obtain⟨v,v1,v2,v3⟩:=qw5 (ihA f (xu _)) n a 0 fs.toList cs xs hm (by simpa using h2) (λ i g hg=>h3 i g (by simpa using hg)) (by simpa[DataW.weights,ht]using hw) (by rw[h1,hc];omega);rw[wO,kE (by rw[h1,hc];exact wb _)]at v1 v2;exact⟨v,v1,v2,v3⟩
     ·cases hm
   | term =>
     have hm0:=hm;simp only[tyM]at hm;cases n with
     | zero=>simp[qHL]at hm
     | succ n =>
     simp only[qHL]at hm;split at hm
     case h_2=>cases hm
     rename_i fs ht;split at hm
     case h_2=>cases hm
     rename_i f0 f1 f2 f3 hfs;simp only[wd,decide_eq_true_eq]at hm;obtain⟨⟨⟨⟨⟨⟨⟨⟨⟨hc,o0⟩,o1⟩,o2⟩,o3⟩,hc3⟩,m0⟩,m1⟩,m2⟩,m3⟩:=hm;split at m3
     case h_2=>cases m3
     rename_i e ht3;simp only[wd,decide_eq_true_eq]at m3;obtain⟨rfl,hb⟩:=m3;obtain⟨xs,f,rfl,rfl,h1,h2,h3⟩:=DataW.trod_struct ht h;have hsz:fs.size=4:=by rw[<- wM,hfs];rfl
     rw[hsz]at h2;rw[hc]at h1
     obtain⟨c0,c1,c2,c3,rfl⟩:∃ c0 c1 c2 c3,cs=[c0,c1,c2,c3]:=by
      match cs,h1 with
      | [a,b,c,d],_=>exact⟨a,b,c,d,rfl⟩
     obtain⟨x0,x1,x2,x3,rfl⟩:∃ x0 x1 x2 x3,xs=[x0,x1,x2,x3]:=by
      match xs,h2 with
      | [a,b,c,d],_=>exact⟨a,b,c,d,rfl⟩
     have fg:∀ i g,[f0,f1,f2,f3][i]?=some g->fs[i]?=some g := λ i g hg=>by rw[<- hfs,Array.getElem?_toList]at hg;exact hg
     have s0:=h3 0 f0 (fg 0 _ rfl);have s1:=h3 1 f1 (fg 1 _ rfl);have s2:=h3 2 f2 (fg 2 _ rfl);have s3:=h3 3 f3 (fg 3 _ rfl)
     have cOf:∀{τ : Ty} {t:TypeId},(∃ k,τ = .int k) \/ τ = .str->tyM P n τ t=true->P.cellsOf t=1:=by
      intro τ t hτ hm;cases n with
      | zero=>cases τ <;> simp[tyM]at hm
      | succ n =>
        rcases hτ with⟨k,rfl⟩ | rfl
        ·simp only[tyM]at hm;split at hm
         ·simp only[wd,decide_eq_true_eq]at hm;exact hm.2
         ·cases hm
        ·simp only[tyM]at hm;split at hm
         ·exact of_decide_eq_true hm
         ·cases hm
     have uInt:∀{k:IntKind} {t:TypeId},tyM P n (.int k) t=true->P.underlying t=some (.int k):=by
      intro k t hm;cases n with
      | zero=>simp[tyM]at hm
      | succ n =>
        simp only[tyM]at hm;split at hm
        ·rename_i k' ht;simp only[wd,decide_eq_true_eq]at hm;rw[ht,hm.1]
        ·cases hm
     have uStr:∀{t:TypeId},tyM P n .str t=true->P.underlying t=some .string:=by
      intro t hm;cases n with
      | zero=>simp[tyM]at hm
      | succ n =>
        simp only[tyM]at hm;split at hm
        ·assumption
        ·cases hm
     rw[o0,cOf (.inl ⟨_,rfl⟩) m0]at s0;rw[o1,cOf (.inr rfl) m1]at s1;rw[o2,cOf (.inl ⟨_,rfl⟩) m2]at s2;rw[o3,hc3]at s3
     have hwE:∀ k∈DataW.weightsEach P [f0.type,f1.type,f2.type,f3.type] [x0.1,x1.1,x2.1,x3.1],k<=reachBytes:=by
      intro k hk;refine hw k ?_;simp only[DataW.weights,ht,hfs];exact hk
     simp only[DataW.weightsEach,ww]at hwE;obtain⟨i0,e0,_,_⟩:=ints (uInt m0) (f:=f) (x:=x0) s0;obtain⟨i1,e1,b1⟩:=strs (uStr m1) (f:=f) (x:=x1) s1 λ k hk=>hwE k (.inr (.inl hk));obtain⟨i2,e2,_,_⟩:=ints (uInt m2) (f:=f) (x:=x2) s2;obtain⟨l,u,e3,b3,r3,l3,v3⟩:=qz6 (a := .term) (λ g hg=>ihA g (Nat.lt_succ_of_lt hg)) ht3 hc hb hm0 s3 λ k hk=>hwE k (.inr (.inr (.inr (.inl hk))));have g0:c0 = .int .i64 i0:=by simpa using e0
     have g1:c1 = .string i1:=by simpa using e1
     have g2:c2 = .int .i64 i2:=by simpa using e2
     have g3:c3=u:=by simpa using e3
     subst g0;subst g1;subst g2;subst g3;refine⟨.mk i0 i1.data.toList i2 l,?_,?_,(qEZ _).2 ⟨l3.1,b1,v3⟩⟩
     ·show RepL _ (J3 _) _;rw[J3,qlZ];exact waF (.v _ rfl) (waF (.v _ rfl) (waF (.v _ rfl) (qBB r3)))
     ·intro u hu;simp only[wx,xt,or_false]at hu;rcases hu with rfl | rfl | rfl | rfl
      ·rfl
      ·rfl
      ·rfl
      ·exact b3
end
end Go.AmZ
namespace Go.AmZ
open Go Go.GxZ
structure Gd (n:Int) (l:List Pk):Prop where
 len:l.length<=400
 all:∀ p∈l,p.2.2.1.length<=300000/\0<=p.2.1/\p.2.1<n
theorem Gd.sm{n:Int}{l:List Pk}(h:Gd n l):Sm l:=⟨h.len,λ p a=>(h.all p a).1⟩
theorem Gd.nil(n:Int):Gd n []:=⟨we _,λ p a=>by cases a⟩
theorem Gd.set{n:Int}{l:List Pk}(h:Gd n l)(i:Nat)(p:Pk)(b:p.2.2.1.length<=300000/\0<=p.2.1/\p.2.1<n):Gd n (l.set i p) :=
 ⟨by rw[wJ];exact h.len,λ q a=>(List.mem_or_eq_of_mem_set a).elim (h.all q) λ e=>e▸b⟩
theorem Gd.app{n:Int}{l:List Pk}(h:Gd n l)(c:l.length<400)(p:Pk)(b:p.2.2.1.length<=300000/\0<=p.2.1/\p.2.1<n):Gd n (l++[p]) :=
 ⟨by rw[wc];exact c,λ q a=>(ww.1 a).elim (h.all q) λ e=>by rw[wH.1 e];exact b⟩
theorem Gd.get{n:Int}{l:List Pk}(h:Gd n l){i:Nat}{p:Pk}(a:l[i]?=some p):p.2.2.1.length<=300000/\0<=p.2.1/\p.2.1<n:=h.all p (wa a)
theorem qOw{n:Int}{l:List Pk}(h:Gd n l)(a b:Int)(t:T)(c:size t<=10000):Gd n (qmw n l a b t).1:=by
 unfold qmw;split
 ·exact h
 ·rename_i d;split
  ·exact h
  ·rename_i e;split
   ·exact h
   ·refine h.app (by omega) _ ⟨?_,by show 0<=b;omega,by show b<n;omega⟩;have:=qu0 t c;show(qjl _).length<=_;rw[qI7];omega
theorem qOi{n:Int}{l:List Pk}(h:Gd n l)(i:Int):Gd n (qeQ l i).1:=by
 unfold qeQ;split
 ·exact h
 ·split
  ·exact h
  ·rename_i p a;exact h.set _ _ (by have:=h.get a;exact this)
theorem qMF{n:Int}{l:List Pk}(h:Gd n l)(i:Int):Gd n (qkJ l i).1:=by
 unfold qkJ;split
 ·exact h
 ·split
  ·exact h
  ·rename_i p a;exact h.set _ _ (by have:=h.get a;exact this)
theorem qPo{n:Int}{l:List Pk}(h:Gd n l)(i:Int):Gd n (qhO l i).1:=by
 unfold qhO;split
 ·exact h
 ·split
  ·exact h
  ·split
   ·exact h
   ·rename_i p a;exact h.app (by omega) _ (by have:=h.get a;exact this)
theorem qO4{n:Int}{l:List Pk}(h:Gd n l)(i a v:Int):Gd n (qp3 l i a v).1:=by
 unfold qp3;split
 ·exact h
 ·split
  ·exact h
  ·rename_i p b;split
   ·exact h
   ·have:=h.get b;refine h.set _ _ ⟨?_,this.2⟩;show(List.set _ _ _).length<=_;rw[wJ];exact this.1
theorem qPQ{n:Int}{l:List Pk}(h:Gd n l)(o:OpV)(a:size o.2.2.2.2.1<=10000):Gd n (doO n l o):=by
 unfold doO;split
 ·exact qOw h _ _ _ a
 ·split
  ·exact qOi h _
  ·split
   ·exact qMF h _
   ·split
    ·exact qPo h _
    ·split
     ·exact qO4 h _ _ _
     ·exact h
def qke(n:Int)(l:List Pk)(ops:List OpV):List Pk:=ops.foldl (doO n) l
theorem qDv{n:Int}:∀{ops:List OpV} {l:List Pk},Gd n l->(∀ o∈ops,size o.2.2.2.2.1<=10000)->Gd n (qke n l ops)
 | [],l,h,_=>h
 | o::ops,l,h,a=>qDv (ops:=ops) (qPQ h o (a o (wh ..))) λ q b=>a q (wg _ b)
abbrev qN8(l:List OpV):Prop:=qlV (.list (.pair (.int .u8) (.pair (.int .i64) (.pair (.int .i64) (.pair (.int .u8) (.pair .term (.int .u8))))))) l
theorem qIa(l:List OpV)(q:qN8 l):Ev (λ m _=>qna m l) (decide (l.length<=60)&&ql0 (l.map λ o=>o.2.2.2.2.1) 2000):=by
 obtain⟨⟨f,e⟩,r⟩:=q;have e:l.length*61<=2 ^ 47:=e;refine waA ?_;simp only[qEK,qid]
 have a:=qr (P := λ i=>Ev (λ m k=>qch m k l i ((l.take i).map λ o=>o.2.2.2.2.1)) (decide (l.length<=60)&&ql0 (l.map λ o=>o.2.2.2.2.1) 2000)) l f
  (λ b=>by
   refine waB ?_;simp only[qrS,qh7];rw[wC]
   have:=qOW (l.map λ o=>o.2.2.2.2.1) (by rw[wA];exact f) (λ t g=>by
    obtain⟨o,h,rfl⟩:=wy.1 g;exact(r o h).2.2.2.2.1) 60 2000 (by decide) (by decide)
   rw[wA]at this;exact wax b (wat this (wau _)))
  (λ i x c s b p n d=>by
   have j:=(List.getElem?_eq_some_iff.1 c).1;refine waB ?_;simp only[qrS,qh7,ql];rw[zq c,wS]at d;rw[n];refine wav b (waw p (wav (qD ?_ (by decide)) d));rw[wA,wm,kK (by omega)];omega)
 exact waC (L := λ m k=>qch m k l 0 []) (a 0 (we _))
theorem qHb{l:List OpV}(h:ql0 (l.map λ o=>o.2.2.2.2.1) 2000=true):∀ o∈l,size o.2.2.2.2.1<=10000 := λ o a=>by
 have:=qLv (by decide) h o.2.2.2.2.1 (kO a);omega
end Go.AmZ
namespace Go.AmZ
open Go Go.GxZ
theorem qGB(l:List OpV)(n:l.length<2 ^ 62)(g:∀ o∈l,size o.2.2.2.2.1<=10000):Ev (λ m _=>qgp m l) ((),(some (4,(qke 4 [] l,())),(some (4,(qke 4 [] l,())),(true,())))):=by
 refine waA ?_;simp only[qwy,qdw];refine wat (a:=((),(some (4,[],()),0,()))) (waA ?_) ?_
 ·simp only[qAb,qiF];exact wax rfl (wax rfl (wau _))
 refine wat (a:=((),((4,[],()),0,()))) (waA ?_) ?_
 ·simp only[qD7,qlI];exact wax rfl (wax rfl (wau _))
 refine wax rfl ?_
 have b:=qr (P := λ i=>Ev (λ m k=>Jn m k l l.length i 4 4 (qke 4 [] (l.take i)) (qke 4 [] (l.take i))) ((),(some (4,(qke 4 [] l,())),(some (4,(qke 4 [] l,())),(true,()))))) l n
  (λ d=>by
   refine waB ?_;simp only[qmn,qdB];rw[wC];exact wax d (wau _))
  (λ i x f r d q p h=>by
   refine waB ?_;simp only[qmn,qdB,ql]
   have e:qke 4 [] (l.take (i+1))=doO 4 (qke 4 [] (l.take i)) x:=by
    rw[zq f];unfold qke;rw[xe];rfl
   rw[e]at h;have c:Gd 4 (qke 4 [] (l.take i)):=qDv (Gd.nil 4) λ o j=>g o (wY j);refine wav d (waw q (wat (qPI 4 _ c.sm x (g x (wa f))) (wax rfl ?_)));rw[p];exact h)
 exact waC (L := λ m k=>Jn m k l l.length 0 4 4 [] []) (b 0 (we _))
end Go.AmZ
namespace Go.AmZ
open Go Go.GxZ
def qii(l:List Pk):Nat:=(l.filter λ p=>p.2.2.2).length
theorem qzI(p:Pk)(l:List Pk):qii (p::l)=(if p.2.2.2=true then 1 else 0)+qii l:=by
 unfold qii;by_cases h:p.2.2.2=true
 ·rw[vD,if_pos h,wu,if_pos h];omega
 ·rw[vD,if_neg h,if_neg h];omega
theorem qHR(l:List Pk)(p:Pk):qii (l++[p])=qii l+(if p.2.2.2=true then 1 else 0):=by
 have:=qzI p [];have a:qii []=0:=rfl;unfold qii at *;rw[xH,wc];omega
theorem qqi{l:List Pk}{i:Nat}{p:Pk}(h:l[i]?=some p)(d:Int):(wtO l d (i+1)).length=(wtO l d i).length+(if p.2.2.2=true/\p.2.1=d then 1 else 0):=by
 have e:wtP l d i=(p.2.2.2&&ieq p.2.1 d):=by unfold wtP;rw[h]
 rw[qqE,e];by_cases a:p.2.2.2=true/\p.2.1=d
 ·rw[if_pos (by rw[a.1,qk.2 a.2];rfl),if_pos a,wc];rfl
 ·rw[if_neg (by rw[wd,qk];exact a),if_neg a];rfl
theorem qF6{l:List Pk}(d:Gd 4 l):∀ i,i<=l.length->(wtO l 0 i).length+(wtO l 1 i).length+(wtO l 2 i).length+(wtO l 3 i).length=qii (l.take i)
 | 0,_=>rfl
 | i+1,h=>by
   have e:=qF6 d i (by omega);have a:l[i]?=some l[i]:=List.getElem?_eq_getElem (by omega);rw[zq a,qHR,qqi a,qqi a,qqi a,qqi a,<- e];have f:=(d.get a).2;generalize l[i]=p at f;by_cases c:p.2.2.2=true
   ·simp only[c,true_and];have b:p.2.1=0\/p.2.1=1\/p.2.1=2\/p.2.1=3:=by omega
    rcases b with q | q | q | q<;>rw[q]<;>simp<;>omega
   ·simp only[c,false_and,if_false,vq];omega
theorem qCM{l:List Pk}{d:Int}(h:∀ p∈l,p.2.1≠d):∀ i,wtO l d i=[]
 | 0=>rfl
 | i+1=>by
   have:wtP l d i=false:=by
    unfold wtP;cases a:l[i]? with
    | none=>rfl
    | some p =>
      have:=h p (wa a);show(p.2.2.2&&ieq p.2.1 d)=false;rw[qh.2 this,xN]
   rw[qqE,this,if_neg (by decide)];exact qCM h i
theorem qNd{l:List Pk}{d v:Int}{i:Nat}(h:v∈wtO l d i):∃(j:Nat) (p:Pk),v=(j:Int)/\l[j]?=some p/\p.2.2.2=true/\p.2.1=d:=by
 unfold wtO at h;obtain⟨j,c,rfl⟩:=wy.1 h;have a:=(kG.1 c).2;unfold wtP at a;cases b:l[j]? with
 | none=>rw[b]at a;cases a
 | some p =>
   rw[b]at a;have a:(p.2.2.2&&ieq p.2.1 d)=true:=a;rw[wd,qk]at a;exact⟨j,p,rfl,b,a.1,a.2⟩
theorem qIw(l:List Pk)(b:Gd 4 l):Ev (λ m k=>(qb m k).2.2.2.2.2.1 (qii l:Int) (l.length:Int) 0 4 l l) true:=by
 have q:∀ d:Int,(d<0\/4<=d)->wtO l d l.length=[] := λ d g=>qCM (λ p o=>by have:=b.all p o;omega) _
 have c:=qr (P := λ i=>Ev (λ m k=>(qb m k).2.2.2.2.2.1 (qii (l.drop i):Int) (l.length:Int) (i:Int) 4 l l) true) l (by have:=b.len;omega)
  (λ f=>by
   refine waB ?_;simp only[qhc,qaj];rw[wT];refine wax f (wav rfl ?_);have n:=qvO 4 l (by have:=b.len;omega) (-1);have j:=qvO 4 l (by have:=b.len;omega) 4;rw[q _ (by omega)]at n j;exact wat n (wav rfl (wat j (wau _))))
  (λ i x s g f e r h=>by
   refine waB ?_;simp only[qhc,qaj];have a:=xw (λ p:Pk=>p.2.2.2) (l.drop (i+1));have a:qii (l.drop (i+1))<=(l.drop (i+1)).length:=a;rw[wQ]at a;have:=b.len;rw[g,qzI,r];refine wav f (waw e ?_);cases t:x.2.2.2 with
   | true =>
     refine wav rfl ?_;rw[if_pos rfl,show iw .i64 (zh ((1+qii (l.drop (i+1)):Nat):Int) 1)=(qii (l.drop (i+1)):Int) by unfold zh;rw[jF (by omega)];omega];exact h
   | false =>
     refine wax rfl ?_;rw[if_neg (by decide),wG];exact h)
 exact c 0 (we _)
theorem qIz(l:List Pk)(z:Gd 4 l)(t d:Nat)(B:t<=2000)
  (r:Ev (λ m k=>(qb m k).1 ((t+(wtO l (d:Int) l.length).length:Nat):Int) (iw .i64 (qd (d:Int) 1)) 4 4 l l) true) :
  Ev (λ m k=>(qb m k).2.2.2.2.1 (t:Int) (d:Int) (d:Int) ((wtO l (d:Int) l.length).length:Int) 0 4 4 l l (wtO l (d:Int) l.length)) true:=by
 have e:=qos l (d:Int) l.length;have C:=z.len;have a:∀ v∈wtO l (d:Int) l.length,∃(j:Nat) (p:Pk),v=(j:Int)/\l[j]?=some p/\p.2.2.2=true/\p.2.1=(d:Int) := λ v s=>qNd s;generalize wtO l (d:Int) l.length=w at r e a
 have c:=qr (P := λ i=>Ev (λ m k=>(qb m k).2.2.2.2.1 ((t+i:Nat):Int) (d:Int) (d:Int) (w.length:Int) (i:Int) 4 4 l l w) true) w (by omega)
  (λ n=>by
   refine waB ?_;simp only[qhh,qan];exact wax n r)
  (λ i x o E n h y A=>by
   have u:=(List.getElem?_eq_some_iff.1 o).1;obtain⟨j,p,rfl,q,f,g⟩:=a x (wa o);have D:=(List.getElem?_eq_some_iff.1 q).1;refine waB ?_;simp only[qhh,qan];have b:qc l (j:Int)=some p:=by rw[qU];exact q
   rw[y];refine wav n (waw h (wax (qn.2 (by omega)) (wax (yq.2 (by omega)) (waw b (wax (bnf.2 f) (waw b (wax (bnf.2 (qk.2 g)) ?_)))))));rw[show iw .i64 (qd ((t+i:Nat):Int) 1)=((t+(i+1):Nat):Int) by unfold qd;rw[jF (by omega)];omega];exact A)
 exact c 0 (we _)
theorem networkWaits_ev(l:List OpV)(p:qN8 l):Ev (λ m _=>law31_NetworkWaits m l) true:=by
 refine waA ?_;simp only[qp1,qat,ql];refine wat qv3 (wax rfl (wat (qIa l p) ?_));cases f:decide (l.length<=60)&&ql0 (l.map λ o=>o.2.2.2.2.1) 2000 with
 | false=>exact wav rfl (wat qv3 (wau _))
 | true =>
 simp only[wd,decide_eq_true_eq]at f;obtain⟨q,g⟩:=f;have i:=qHb g;have c:=qDv (ops:=l) (Gd.nil 4) i;refine wax rfl (wat (qGB l (by omega) i) ?_);generalize qke 4 [] l=R at c;dsimp only[qhx];refine wax rfl ?_;have x:=c.len;have e:=qF6 c R.length (wb _);rw[wC]at e;have h:∀ d:Nat,(wtO R (d:Int) R.length).length<=R.length := λ d=>qos R _ _;have w:=h 0;have v:=h 1;have u:=h 2;have s:=h 3
 have a:∀(t d:Nat),t<=2000->d<4->Ev (λ m k=>(qb m k).1 ((t+(wtO R (d:Int) R.length).length:Nat):Int) ((d+1:Nat):Int) 4 4 R R) true->Ev (λ m k=>(qb m k).1 (t:Int) (d:Int) 4 4 R R) true := λ t d j y n=>by
  refine waB ?_;simp only[qhb,qar];refine wav (qs.2 (by omega)) (wat (qvO 4 R (by omega) (d:Int)) ?_);refine qIz R c t d j ?_;rw[show iw .i64 (qd (d:Int) 1)=((d+1:Nat):Int) by unfold qd;rw[jF (by omega)];omega];exact n
 have b:Ev (λ m k=>(qb m k).1 (qii R:Int) 4 4 4 R R) true:=by
  refine waB ?_;simp only[qhb,qar];exact wax rfl (qIw R c)
 have r:Ev (λ m k=>(qb m k).1 ((0:Nat):Int) ((0:Nat):Int) 4 4 R R) true:=by
  refine a 0 0 (by omega) (by omega) (a _ 1 (by omega) (by omega) (a _ 2 (by omega) (by omega) (a _ 3 (by omega) (by omega) ?_)));rw[wG];rw[<- e]at b;exact b
 exact waC (L := λ m k=>(qb m k).1 0 0 4 4 R R) r
end Go.AmZ
