/- Part 5 of what the proofs stand on: plain functions of the program, and that they are its functions. -/
import Derived.Test.YtbpnmbmdbblehaaGreatM4
import Derived.KernelRfl
import Derived.Test.YtbpnmbmdbblehaaGreatM3
import Derived.Shelf.SlSortCmp.NoneTotal
import Derived.Test.YtbpnmbmdbblehaaGreatProg
set_option linter.unusedVariables false
set_option linter.unusedSimpArgs false
namespace Go.AmYtbpnmbmdbblehaaGreat
open Go Go.GxYtbpnmbmdbblehaaGreat
theorem qEL (ls:List (List T)) (hn:ls.length<1000) (h:(ls.map List.length).sum≤100000000):Ev (λ m _=>zd m ls) ls.flatten:=by
 have hfl:∀ l:List (List T),l.flatten.length=(l.map List.length).sum := λ l=>List.length_flatten
 have k2:=qr (P := λ i=>Ev (λ m k=>(ql m k).2 ls ls.length i (ls.take i).flatten) ls.flatten) ls (by omega)
  (λ hc=>by
   refine Ev.loop ?_
   simp only [JF,yA]
   refine Ev.cf hc ?_
   rw [List.take_length]
   exact Ev.pure _)
  (λ i x hx hd hc hg hi hP=>by
   refine Ev.loop ?_
   simp only [JF,yA]
   have ht:ls.take (i+1)=ls.take i++[x]:=by rw [List.take_add_one,hx];rfl
   have hs:((ls.take (i+1)).map List.length).sum≤(ls.map List.length).sum:=by
    have:=congrArg (λ l=>(l.map List.length).sum) (List.take_append_drop (i+1) ls)
    simp only [List.map_append,List.sum_append] at this
    omega
   rw [ht] at hs
   simp only [List.map_append,List.sum_append,List.map_cons,List.map_nil,List.sum_cons,List.sum_nil] at hs
   refine Ev.ct hc (Ev.some hg (Ev.ct (zf ?_ (by omega)) ?_))
   ·rw [hfl];omega
   ·rw [hi]
    refine hP.congr λ m k=>?_
    rw [ht,List.flatten_append];simp)
 have k1:=qr (P := λ i=>∀ n:Nat,n+((ls.drop i).map List.length).sum≤100000000→Ev (λ m k=>(ql m k).1 ls n ls ls.length i) ls.flatten) ls (by omega)
  (λ hc n hn=>by
   refine Ev.loop ?_
   simp only [JH,yE]
   refine Ev.cf hc (Ev.some (a:=((),[],())) ?_ (k2 0 (Nat.zero_le _)))
   unfold yv
   rw [show inb (n:Int) 100000000=true from by unfold inb;rw [decide_eq_true_iff];omega]
   rfl)
  (λ i x hx hd hc hg hi hP n hn=>by
   refine Ev.loop ?_
   simp only [JH,yE]
   rw [hd,List.map_cons,List.sum_cons] at hn
   refine Ev.ct hc (Ev.some hg ?_)
   rw [qnd,Qq (by omega)]
   refine Ev.cf (qx.2 (by omega)) ?_
   rw [hi]
   exact hP (n+x.length) (by omega))
 refine Ev.succ ?_
 simp only [qey,yz]
 refine Ev.diag (L := λ m k=>(ql m k).1 ls 0 ls ls.length 0) ?_
 exact k1 0 (Nat.zero_le _) 0 (by rw [List.drop_zero];omega)
theorem qsy (a b:List T) (h:a.length+b.length≤100000000):Ev (λ m _=>zd m [a,b]) (a++b) :=
 (qEL [a,b] (by simp) (by simpa using h)).res (by simp)
theorem qok {f:T→Int} {l:List T} {i:Nat} {x:T} (h:l.drop i=x::l.drop (i+1)):((l.drop i).map f).foldl thn 0=if f x≠0 then f x else ((l.drop (i+1)).map f).foldl thn 0:=by
 rw [h,List.map_cons]
 by_cases hx:f x=0
 ·rw [if_neg (by simpa using hx),hx];rfl
 ·rw [if_pos hx]
  exact qL _ hx
theorem qGK (l:List T) (hs:szL l≤100000000):Ev (λ m _=>qhI m l []) (qlW l):=by
 have hl:=jd l
 refine Ev.succ ?_
 simp only [qAI,qgs]
 unfold qlW
 refine Ev.ite (λ h=>?_) λ h=>?_
 ·rw [qs] at h
  rw [if_pos (by omega)]
  exact Ev.pure _
 ·rw [qx] at h
  rw [if_neg (by omega)]
  refine Ev.bind (qsy l [] (by simp only [List.length_nil];omega)) ?_
  rw [List.append_nil]
  have key:=qr (P := λ i=>Ev (λ m k=>qa7 m k l l.length i) (((l.drop i).map qu).foldl thn 0)) l (by omega)
   (λ hc=>by
    refine Ev.loop ?_
    simp only [qoJ,qfP]
    refine Ev.cf hc ?_
    rw [List.drop_length]
    exact Ev.pure _)
   (λ i x hx hd hc hg hi hP=>by
    refine Ev.loop ?_
    simp only [qoJ,qfP,qe]
    have h1:=qbt (List.mem_of_getElem? hx)
    rw [qok hd]
    refine Ev.ct hc (Ev.some hg (Ev.bind (JZ x (by omega)) (Ev.ite (λ hv=>?_) λ hv=>?_)))
    ·rw [bnt,qh] at hv
     rw [if_pos hv]
     exact Ev.pure _
    ·rw [bnf,qj] at hv
     rw [if_neg (by omega),hi]
     exact hP)
  refine Ev.diag (L := λ m k=>qa7 m k l l.length 0) ?_
  exact (key 0 (Nat.zero_le _)).res (by rw [List.drop_zero])
theorem qCy (t:T) (hs:size t≤1000000000):Ev (λ m _=>qdh m t [] t) (t,0):=by
 refine Ev.succ ?_
 simp only [qvi,qcR,qe]
 refine Ev.bind (qmT t hs) ?_
 refine Ev.diag (L := λ m k=>J2 m k [] ([]:List Int).length 0 t.kind t.name t.sort t.kids 0 [] 0 t.kind t.name t.sort t.kids []) (Ev.loop ?_)
 simp only [qs7,qfH,qe]
 refine Ev.cf rfl ?_
 rw [show T.mk t.kind t.name t.sort t.kids=t from qe t]
 exact Ev.bind (qmT t hs) (Ev.pure _)
def qdp (l:List T) (i:Nat):List T:=l.take i++List.replicate (l.length-i) zT
theorem qGC {l:List T} {i:Nat} (h:i<l.length):(qdp l i)[i]? = some zT:=by
 unfold qdp
 rw [List.getElem?_append_right (by rw [List.length_take];omega),List.length_take,List.getElem?_replicate,if_pos (by omega)]
theorem qrQ {l:List T} {i:Nat} {x:T} (h:l[i]? = some x):(qdp l i).set i x=qdp l (i+1):=by
 have hi:=(List.getElem?_eq_some_iff.1 h).1
 unfold qdp
 have h1:l.take (i+1)=l.take i++[x]:=by rw [List.take_add_one,h];rfl
 have h2:List.replicate (l.length-i) zT=zT::List.replicate (l.length-(i+1)) zT:=by
  rw [show l.length-i=(l.length-(i+1))+1 by omega,List.replicate_succ]
 rw [h1,h2,List.set_append_right _ _ (by rw [List.length_take];omega),List.length_take,show i-min i l.length=0 by omega,List.set_cons_zero,List.append_assoc];rfl
theorem qEl {l:List T} {i:Nat} {x:T} (h:l[i]? = some x):(qdp l (i+1)).set i x=qdp l (i+1):=by
 rw [← qrQ h,List.set_set]
theorem qEB {l:List T} {i:Nat} {x:T} (h:l[i]? = some x):(qdp l (i+1))[i]? = some x:=by
 have hi:=(List.getElem?_eq_some_iff.1 h).1
 rw [← qrQ h,List.getElem?_set_self (by unfold qdp;rw [List.length_append,List.length_take,List.length_replicate];omega)]
theorem qdc {α : Type} (l:List α) (i:Nat) (v : α):jJ l (i:Int) v=l.set i v:=by
 unfold jJ
 rw [if_pos (by omega),Int.toNat_natCast]
theorem qIs:∀ (n:Nat) (l:List T),szL l≤n→n≤1000000→Ev (λ m _=>QX m l) l:=by
 intro n
 induction n using Nat.strongRecOn with
 | _ n ih =>
 intro l hs hn
 have hl:=jd l
 refine Ev.succ ?_
 simp only [qEG,qiM]
 have key:=qr (P := λ i=>Ev (λ m k=>qde m (QX m) k l l.length i (qdp l i)) l) l (by omega)
  (λ hc=>by
   refine Ev.loop ?_
   simp only [qr9,qiT]
   refine Ev.cf hc ?_
   exact Ev.ret (by unfold qdp;rw [List.take_length,Nat.sub_self];simp))
  (λ i x hx hd hc hg hi hP=>by
   refine Ev.loop ?_
   simp only [qr9,qiT,qe]
   have h1:=qbt (List.mem_of_getElem? hx)
   have h2:=qF x
   have hib:=(List.getElem?_eq_some_iff.1 hx).1
   have e:jJ (qdp l i) i x=qdp l (i+1):=by rw [qdc,qrQ hx]
   have e2:jJ (qdp l (i+1)) i x=qdp l (i+1):=by rw [qdc,qEl hx]
   have g:qd (qdp l (i+1)) i=some x:=by rw [jN,qEB hx]
   refine Ev.ct hc (Ev.some hg (Ev.bind (qCy x (by omega)) (Ev.some (a:=zT) (by rw [jN,qGC hib]) (Ev.bind (ih (szL x.kids) (by unfold szL at *;omega) x.kids (Nat.le_refl _) (by unfold szL at *;omega)) ?_))))
   rw [e]
   refine Ev.some g ?_
   rw [show T.mk x.kind x.name x.sort x.kids=x from qe x,e2,hi]
   refine Ev.ite (λ hk=>?_) λ hk=>hP
   rw [qj] at hk
   have hk:x.kids=[]:=List.eq_nil_of_length_eq_zero (by omega)
   refine Ev.some g ?_
   rw [show T.mk x.kind x.name x.sort []=x from by rw [← hk];exact qe x,e2]
   exact hP)
 refine Ev.ct (by unfold qDb;rw [decide_eq_true_iff,Int.toNat_natCast];omega) ?_
 refine Ev.diag (L := λ m k=>qde m (QX m) k l l.length 0 (List.replicate (Int.toNat (l.length:Int)) (T.mk 0 [] 0 []))) ?_
 refine (key 0 (Nat.zero_le _)).congr λ m k=>?_
 unfold qdp
 rw [List.take_zero,Int.toNat_natCast];rfl
theorem qIc (l:List T) (hs:szL l≤900000):Ev (λ m _=>ql0 m l) (qmL l):=by
 have hl:=jd l
 refine Ev.succ ?_
 simp only [qFh,qiS]
 unfold qmL
 refine Ev.bind (qGK l (by omega)) (Ev.ite (λ h=>?_) λ h=>?_)
 ·rw [bnt,qh] at h
  rw [if_pos h]
  exact Ev.pure _
 ·rw [bnf,qj] at h
  rw [if_neg (by omega)]
  have key:=qr (P := λ i=>Ev (λ m k=>qdl m k (((l.take i).map jt).foldl zh []) l l.length i 0 [] 0 []) (if qu (Jx (zD l))≠0 then (zT,3) else (Jx (zD l),0))) l (by omega)
   (λ hc=>by
    refine Ev.loop ?_
    simp only [qsW,qiQ,qe]
    refine Ev.cf hc ?_
    rw [List.take_length]
    have h1:=qdz l
    show Ev (λ m k=>qa (QX m (zD l)) _) _
    have h2:=jd (zD l)
    have fin:∀ u:T,u=Jx (zD l)→Ev (λ m _=>qa (zc m u) λ v=>cond (qb (ieq v 0)) (some (T.mk 0 [] 0 [],(3:Int))) (some (u,0))) (if qu (Jx (zD l))≠0 then (zT,3) else (Jx (zD l),0)):=by
     intro u hu
     have hz:size (Jx (zD l))≤1+szL (zD l):=by
      unfold Jx
      split
      ·rw [qF];show 1+0≤_;omega
      ·split
       ·rename_i _ h1l
        have:(zD l).getD 0 zT∈zD l:=by
         cases hh:zD l with
         | nil=>rw [hh] at h1l;cases h1l
         | cons x r=>exact List.mem_cons_self ..
        have:=qbt this;omega
       ·rw [qF];exact Nat.le_refl _
     subst hu
     refine Ev.bind (JZ _ (by omega)) (Ev.ite (λ h=>?_) λ h=>?_)
     ·rw [bnt,qh] at h
      rw [if_pos h];exact Ev.pure _
     ·rw [bnf,qj] at h
      rw [if_neg (by omega)];exact Ev.pure _
    refine Ev.bind (qIs _ (zD l) (Nat.le_refl _) (by omega)) (Ev.ite (λ h0=>?_) λ h0=>?_)
    ·rw [qj] at h0
     exact fin _ (by unfold Jx;rw [if_pos (by omega)];rfl)
    ·rw [qh] at h0
     refine Ev.ite (λ h1=>?_) λ h1=>?_
     ·rw [qj] at h1
      refine Ev.some (a:=(zD l).getD 0 zT) ?_ (fin _ (by unfold Jx;rw [if_neg (by omega),if_pos (by omega)]))
      rw [Jm,List.getD_eq_getElem?_getD]
      cases hh:zD l with
      | nil=>rw [hh] at h1;simp at h1
      | cons x r=>rfl
     ·rw [qh] at h1
      exact fin _ (by unfold Jx;rw [if_neg (by omega),if_neg (by omega)];rfl))
   (λ i x hx hd hc hg hi hP=>by
    refine Ev.loop ?_
    simp only [qsW,qiQ,qe]
    have hm:=List.mem_of_getElem? hx
    have h1:=qbt hm
    have h2:=qdz (l.take i)
    have h3:=jE hx
    have h4:=qj6 x
    refine Ev.ct hc (Ev.some hg (Ev.bind (qFx x (by omega)) (Ev.bind (qz9 _ _ ?_) ?_)))
    ·unfold zD at h2;omega
    ·rw [hi]
     refine hP.congr λ m k=>?_
     rw [qiO hx])
  refine Ev.diag (L := λ m k=>qdl m k [] l l.length 0 0 [] 0 []) ?_
  exact key 0 (Nat.zero_le _)
end Go.AmYtbpnmbmdbblehaaGreat
namespace Go.AmYtbpnmbmdbblehaaGreat
open Go Go.GxYtbpnmbmdbblehaaGreat
theorem qJ5 (l:List T) (t:T) (hs:szL l+size t≤1000000000):Ev (λ m _=>qhQ m l t) (l.any λ x=>yK x t):=by
 have hl:=jd l
 refine Ev.succ ?_
 simp only [qA4,qgq]
 have key:=qr (P := λ i=>Ev (λ m k=>qa0 m k l i t.kind t.name t.sort t.kids) ((l.drop i).any λ x=>yK x t)) l (by omega)
  (λ hc=>by
   refine Ev.loop ?_
   simp only [qpk,qfQ]
   refine Ev.cf hc (Ev.ret ?_)
   rw [List.drop_length];rfl)
  (λ i x hx hd hc hg hi hP=>by
   refine Ev.loop ?_
   simp only [qpk,qfQ,qe]
   have h1:=qbt (List.mem_of_getElem? hx)
   rw [hd,List.any_cons,show T.mk t.kind t.name t.sort t.kids=t from qe t]
   refine Ev.ct hc (Ev.some hg (Ev.bind (qb0 x t (by omega) (by omega)) (Ev.ite (λ h=>?_) λ h=>?_)))
   ·rw [h];exact Ev.pure _
   ·rw [h,hi];exact hP)
 refine Ev.diag (L := λ m k=>qa0 m k l 0 t.kind t.name t.sort t.kids) ?_
 exact (key 0 (Nat.zero_le _)).res (by rw [List.drop_zero])
theorem qzL (t:T):∀ (l:List T) (s:List T × Bool),(l.foldl (Q5 t) s).1.length≤s.1.length+2*l.length
 | [],s=>by simp
 | x::l,s=>by
   have h:=qzL t l (Q5 t s x)
   have:(Q5 t s x).1.length≤s.1.length+2:=by
    unfold Q5
    split
    ·simp only [List.length_append,List.length_cons,List.length_nil]
     split<;>simp
    ·simp
   rw [List.foldl_cons,List.length_cons];omega
theorem qD9 (l:List T) (t:T) (hs:szL l+size t≤1000000000):Ev (λ m _=>qft m l t) (qt4 l t):=by
 have hl:=jd l
 refine Ev.succ ?_
 simp only [qAS,qgD]
 have hlen:∀ i,((l.take i).foldl (Q5 t) ([],false)).1.length≤2*l.length := λ i=>by
  have:=qzL t (l.take i) ([],false)
  have h2:(l.take i).length≤l.length:=by rw [List.length_take];omega
  simp only [List.length_nil] at this;omega
 have key:=qr (P := λ i=>Ev (λ m k=>qa2 m k l ((l.take i).foldl (Q5 t) ([],false)).2 i t.kind t.name t.sort t.kids ((l.take i).foldl (Q5 t) ([],false)).1) (qt4 l t)) l (by omega)
  (λ hc=>by
   refine Ev.loop ?_
   simp only [qoC,qgE]
   refine Ev.cf hc ?_
   rw [List.take_length]
   unfold qt4
   have:=hlen l.length
   rw [List.take_length] at this
   refine Ev.ite (λ h=>?_) λ h=>?_
   ·rw [bnt] at h
    rw [if_neg (by rw [h];decide),show T.mk t.kind t.name t.sort t.kids=t from qe t]
    exact Ev.ct (zf (by omega) (by omega)) (Ev.pure _)
   ·rw [bnf] at h
    rw [if_pos h]
    exact Ev.pure _)
  (λ i x hx hd hc hg hi hP=>by
   refine Ev.loop ?_
   simp only [qoC,qgE,qe]
   have h1:=qbt (List.mem_of_getElem? hx)
   have h2:=hlen i
   have hstep:(l.take (i+1)).foldl (Q5 t) ([],false)=Q5 t ((l.take i).foldl (Q5 t) ([],false)) x:=by
    rw [List.take_add_one,hx,List.foldl_append];rfl
   rw [hstep] at hP
   generalize (l.take i).foldl (Q5 t) ([],false)=s at *
   rw [show T.mk t.kind t.name t.sort t.kids=t from qe t,hi]
   refine Ev.ct hc (Ev.some hg (Ev.bind (qhl t (by omega) x (by omega)) (Ev.ite (λ h=>?_) λ h=>?_)))
   ·rw [bnt] at h
    refine Ev.ite (λ hc1=>?_) λ hc1=>?_
    ·rw [qeg] at hc1
     unfold Q5 at hP
     rw [if_pos ⟨h,hc1⟩] at hP
     refine Ev.ite (λ hc2=>?_) λ hc2=>?_
     ·rw [qs] at hc2
      rw [if_pos hc2] at hP
      exact Ev.ct (zf (by omega) (by omega)) (Ev.some hg (Ev.ct (zf (by rw [List.length_append];simp only [List.length_cons,List.length_nil];omega) (by omega)) hP))
     ·rw [qx] at hc2
      rw [if_neg (by omega),List.append_nil] at hP
      exact Ev.some hg (Ev.ct (zf (by omega) (by omega)) hP)
    ·rw [qkt] at hc1
     unfold Q5 at hP
     rw [if_neg (by omega)] at hP
     exact Ev.some hg (Ev.ct (zf (by omega) (by omega)) hP)
   ·rw [bnf] at h
    unfold Q5 at hP
    rw [if_neg (by rw [h];intro hh;cases hh.1)] at hP
    exact Ev.some hg (Ev.ct (zf (by omega) (by omega)) hP))
 refine Ev.diag (L := λ m k=>qa2 m k l false 0 t.kind t.name t.sort t.kids []) ?_
 exact key 0 (Nat.zero_le _)
theorem qKc (l:List T) (t:T) (hs:szL l+size t≤1000000000):Ev (λ m _=>qdg m l t) (qgT l t):=by
 have hl:=jd l
 refine Ev.succ ?_
 simp only [qvb,qcF,qe]
 unfold qgT
 refine Ev.bind (qJ5 l t hs) (Ev.ite (λ h=>?_) λ h=>?_)
 ·rw [bnt] at h
  rw [if_neg (by rw [h];decide)]
  exact Ev.bind (qD9 l t hs) (Ev.pure _)
 ·rw [bnf] at h
  rw [if_pos h]
  have key:=qr (P := λ i=>Ev (λ m k=>QR m k l i t.kind t.name t.sort t.kids ((l.take i).filter λ x => !yK x t)) (l.filter λ x => !yK x t)) l (by omega)
   (λ hc=>by
    refine Ev.loop ?_
    simp only [qkJ,qcX]
    refine Ev.cf hc ?_
    rw [List.take_length]
    exact Ev.pure _)
   (λ i x hx hd hc hg hi hP=>by
    refine Ev.loop ?_
    simp only [qkJ,qcX,qe]
    have h1:=qbt (List.mem_of_getElem? hx)
    have h2:((l.take i).filter λ x => !yK x t).length≤l.length:=Nat.le_trans (List.length_filter_le _ _) (by rw [List.length_take];omega)
    rw [List.take_add_one,hx,List.filter_append] at hP
    rw [show T.mk t.kind t.name t.sort t.kids=t from qe t,hi]
    refine Ev.ct hc (Ev.some hg (Ev.bind (qb0 x t (by omega) (by omega)) (Ev.ite (λ h=>?_) λ h=>?_)))
    ·rw [bnt] at h
     have e:(Option.some x).toList.filter (λ x => !yK x t)=[x]:=by show [x].filter _=_;simp [h]
     rw [e] at hP
     exact Ev.some hg (Ev.ct (zf (by omega) (by omega)) hP)
    ·rw [bnf] at h
     have e:(Option.some x).toList.filter (λ x => !yK x t)=[]:=by show [x].filter _=_;simp [h]
     rw [e,List.append_nil] at hP
     exact hP)
  refine Ev.diag (L := λ m k=>QR m k l 0 t.kind t.name t.sort t.kids []) ?_
  exact key 0 (Nat.zero_le _)
theorem qum (t:T):∀ l:List T,szL (Qs l t)≤szL l+size t
 | []=>by rw [Qs,qK];omega
 | x::l=>by
   have:=qum t l
   rw [Qs]
   split
   ·rw [qK,qK];omega
   ·split
    ·omega
    ·rw [qK,qK];omega
theorem qv1 (p:T→Bool):∀ l:List T,szL (l.filter p)≤szL l
 | []=>Nat.le_refl _
 | x::l=>by
   have:=qv1 p l
   rw [List.filter_cons]
   split
   ·rw [qK,qK];omega
   ·rw [qK];omega
theorem qIo (l:List T) (t:T):szL (qgT l t)≤szL l+size t:=by
 unfold qgT
 split
 ·exact Nat.le_trans (qv1 _ l) (by omega)
 ·rw [qrV];exact qum t l
theorem qtE:∀ (b a:List T),szL (b.foldl qgT a)≤szL a+szL b
 | [],a=>by simp [szL]
 | x::b,a=>by
   have h1:=qtE b (qgT a x)
   have h2:=qIo a x
   rw [List.foldl_cons,qK];omega
theorem qx6 (a b:List T) (hs:szL a+szL b≤1000000000):Ev (λ m _=>qdM m a b) (qiW a b):=by
 have h1:=jd a
 have h2:=jd b
 refine Ev.succ ?_
 simp only [qzi,qeT]
 have key:=qr (P := λ i=>Ev (λ m k=>Jo m k b ((b.take i).foldl qgT a) i) (qiW a b)) b (by omega)
  (λ hc=>by
   refine Ev.loop ?_
   simp only [qno,qeK]
   refine Ev.cf hc ?_
   rw [List.take_length]
   exact Ev.pure _)
  (λ i x hx hd hc hg hi hP=>by
   refine Ev.loop ?_
   simp only [qno,qeK,qe]
   have h3:=jE hx
   have h4:=qtE (b.take i) a
   rw [List.take_add_one,hx,List.foldl_append] at hP
   refine Ev.ct hc (Ev.some hg (Ev.bind (qKc _ x (by omega)) ?_))
   rw [hi]
   exact hP)
 refine Ev.ct (zf (by simp only [List.length_nil];omega) (by omega)) ?_
 have main:Ev (λ m _=>Jo m m b a 0) (qiW a b):=Ev.diag (L := λ m k=>Jo m k b a 0) (key 0 (Nat.zero_le _))
 exact Ev.case (λ h=>by rw [h] at main ⊢;exact main) λ x r h=>by rw [h] at main ⊢;exact main
theorem qGi (t:T):size t≤1000000000→Ev (λ m _=>zw m t) (jt t):=by
 induction t using T.ind with
 | h t ih =>
   intro hs
   have hl:=yH t
   have hz:=qF t
   refine Ev.succ ?_
   simp only [qqT,qbm,qe]
   have key:=qr (P := λ i=>Ev (λ m k=>jo m (zw m) k (((t.kids.take i).map jt).foldl zh []) i t.kind t.name t.sort t.kids) ((t.kids.map jt).foldl zh [])) t.kids (by omega)
    (λ hc=>by
     refine Ev.loop ?_
     simp only [qik,qbk]
     refine Ev.cf hc ?_
     rw [List.take_length]
     exact Ev.pure _)
    (λ i x hx hd hc hg hi hP=>by
     refine Ev.loop ?_
     simp only [qik,qbk,qe]
     have hm:=List.mem_of_getElem? hx
     have h1:=y9 t x hm
     have h2:=qdz (t.kids.take i)
     have h3:=jE hx
     have h4:=qj6 x
     have ha:Asc (((t.kids.take i).map jt).foldl zh []):=qf1 _ _ List.Pairwise.nil λ l hl=>by
      obtain ⟨k,_,rfl⟩:=List.mem_map.1 hl
      exact qkq k
     refine Ev.ct hc (Ev.some hg (Ev.bind (ih x hm (by omega)) (Ev.bind (qx6 _ _ ?_) ?_)))
     ·unfold zD at h2;unfold szL at *;omega
     ·rw [hi,qy0 ha (qkq x)]
      refine hP.congr λ m k=>?_
      rw [qiO hx])
   have main:Ev (λ m _=>jo m (zw m) m [] 0 t.kind t.name t.sort t.kids) ((t.kids.map jt).foldl zh []) :=
    Ev.diag (L := λ m k=>jo m (zw m) k [] 0 t.kind t.name t.sort t.kids) (key 0 (Nat.zero_le _))
   rw [qj2]
   by_cases h3:t.kind=3
   ·have hk:ieq t.kind 3=true:=qj.2 h3
    have hk':qb (ieq t.kind 3)=false:=bnf.2 hk
    refine Ev.ct hk ?_
    refine Ev.ite (λ hn=>?_) λ hn=>?_
    ·rw [jb] at hn
     have hnz:isN t qbj=true:=yu.2 ⟨h3,hn⟩
     have hnx:isN t qcz=false:=by
      rw [← Bool.not_eq_true,yu];rintro ⟨_,h⟩;rw [hn] at h;exact absurd h (by decide)
     refine Ev.ite (λ he=>?_) λ he=>?_
     ·rw [qj] at he
      have he:t.kids=[]:=List.eq_nil_of_length_eq_zero (by omega)
      rw [hnz,he]
      exact Ev.pure _
     ·rw [qh] at he
      have he:t.kids.isEmpty=false:=by
       cases hh:t.kids with
       | nil=>rw [hh] at he;exact absurd rfl he
       | cons _ _=>rfl
      rw [hnz,he,hnx]
      exact Ev.cf hk' (Ev.ct (by rw [hn];rfl) (Ev.pure _))
    ·have hn':=jr.1 hn
     have hnz:isN t qbj=false:=by
      rw [← Bool.not_eq_true,yu];rintro ⟨_,h⟩;exact hn' h
     rw [hnz]
     refine Ev.cf hk' (Ev.ite (λ hx=>?_) λ hx=>?_)
     ·have hnx:isN t qcz=false:=by
        rw [← Bool.not_eq_true,yu];rintro ⟨_,h⟩;exact jr.1 (bnt.1 hx) h
      rw [hnx]
      exact Ev.pure _
     ·rw [show isN t qcz=true from yu.2 ⟨h3,jb.1 (bnf.1 hx)⟩]
      exact main
   ·have hk:ieq t.kind 3=false:=qh.2 h3
    have hnn:∀ n,isN t n=false := λ n=>by
     rw [← Bool.not_eq_true,yu];rintro ⟨h,_⟩;exact h3 h
    rw [hnn,hnn]
    exact Ev.cf hk (Ev.ct (bnt.2 hk) (Ev.pure _))
theorem qCO:qu (apT qbj [])=0:=by
 unfold qu
 rw [qhw,qF,qfo]
 have:Qm (apT qbj [])=0:=by decide
 show (if Qm (apT qbj [])≠0 then Qm (apT qbj []) else _)=0
 rw [this];rfl
theorem qDt (l:List T) (hs:szL l≤100000000):Ev (λ m _=>qeD m l (apT qbj [])) (qlW l):=by
 have hl:=jd l
 refine Ev.succ ?_
 simp only [qxy,qea]
 unfold qlW
 refine Ev.ite (λ h=>?_) λ h=>?_
 ·rw [qs] at h
  rw [if_pos (by omega)]
  exact Ev.pure _
 ·rw [qx] at h
  rw [if_neg (by omega)]
  have key:=qr (P := λ i=>Ev (λ m k=>Jy m k l i 3 qbj 0 []) (((l.drop i).map qu).foldl thn 0)) l (by omega)
   (λ hc=>by
    refine Ev.loop ?_
    simp only [qlO,qef]
    refine Ev.cf hc ?_
    rw [List.drop_length]
    refine Ev.bind (qaO (T.mk 3 qbj 0 []) (by rw [qF];show 1+0≤_;omega)) ?_
    exact Ev.ret qCO)
   (λ i x hx hd hc hg hi hP=>by
    refine Ev.loop ?_
    simp only [qlO,qef,qe]
    have h1:=qbt (List.mem_of_getElem? hx)
    rw [qok hd]
    refine Ev.ct hc (Ev.some hg (Ev.bind (qaO x (by omega)) (Ev.ite (λ hv=>?_) λ hv=>?_)))
    ·rw [bnt,qh] at hv
     rw [if_pos hv]
     exact Ev.pure _
    ·rw [bnf,qj] at hv
     rw [if_neg (by omega),hi]
     exact hP)
  refine Ev.diag (L := λ m k=>Jy m k l 0 3 qbj 0 []) ?_
  exact (key 0 (Nat.zero_le _)).res (by rw [List.drop_zero])
theorem qBV (l:List T):size (Jx l)≤1+szL l:=by
 unfold Jx
 split
 ·rw [qF];show 1+0≤_;omega
 ·split
  ·rename_i _ h1l
   have:l.getD 0 zT∈l:=by
    cases l with
    | nil=>cases h1l
    | cons x r=>exact List.mem_cons_self ..
   have:=qbt this;omega
  ·rw [qF];exact Nat.le_refl _
theorem qES (l:List T) (hs:szL l≤1000000000):Ev (λ m _=>qgg m l) (Jx l):=by
 have hl:=jd l
 refine Ev.succ ?_
 simp only [qAe,qif,qe]
 unfold Jx
 refine Ev.ite (λ h0=>?_) λ h0=>?_
 ·rw [qj] at h0
  rw [if_pos (by omega)]
  exact Ev.bind (Ju _ [] (by simp)) (Ev.pure _)
 ·rw [qh] at h0
  rw [if_neg (by omega)]
  refine Ev.ite (λ h1=>?_) λ h1=>?_
  ·rw [qj] at h1
   rw [if_pos (by omega)]
   refine Ev.some (a:=l.getD 0 zT) ?_ (Ev.pure _)
   rw [Jm,List.getD_eq_getElem?_getD]
   cases l with
   | nil=>simp at h1
   | cons x r=>rfl
  ·rw [qh] at h1
   rw [if_neg (by omega)]
   exact Ev.ct (zf (by simp only [List.length_nil];omega) (by omega)) (Ev.case (λ h=>Ev.ret (by rw [h];rfl)) λ x r h=>Ev.ret (by rw [h];rfl))
theorem qIN (l:List T) (hs:szL l≤900000):Ev (λ m _=>qhA m l) (qmL l):=by
 have hl:=jd l
 refine Ev.succ ?_
 simp only [qAH,qfU]
 unfold qmL
 have z:Ev (λ m _=>qgr m) (apT qbj []):=by
  refine Ev.succ ?_
  simp only [qzg,qh9,qe]
  exact Ev.bind (Ju _ [] (by simp)) (Ev.pure _)
 refine Ev.bind z ?_
 rw [qe]
 refine Ev.bind (qDt l (by omega)) (Ev.ite (λ h=>?_) λ h=>?_)
 ·rw [bnt,qh] at h
  rw [if_pos h]
  exact Ev.pure _
 ·rw [bnf,qj] at h
  rw [if_neg (by omega)]
  have key:=qr (P := λ i=>Ev (λ m k=>qba m k l (((l.take i).map jt).foldl zh []) i 0 [] 0 []) (if qu (Jx (zD l))≠0 then (zT,3) else (Jx (zD l),0))) l (by omega)
   (λ hc=>by
    refine Ev.loop ?_
    simp only [qo7,qf2,qe]
    refine Ev.cf hc ?_
    rw [List.take_length]
    have h1:=qdz l
    have h2:=qBV (zD l)
    refine Ev.bind (qES (zD l) (by omega)) (Ev.bind (qaO _ (by omega)) (Ev.ite (λ h=>?_) λ h=>?_))
    ·rw [bnt,qh] at h
     rw [if_pos h];exact Ev.pure _
    ·rw [bnf,qj] at h
     rw [if_neg (by omega)];exact Ev.pure _)
   (λ i x hx hd hc hg hi hP=>by
    refine Ev.loop ?_
    simp only [qo7,qf2,qe]
    have hm:=List.mem_of_getElem? hx
    have h1:=qbt hm
    have h2:=qdz (l.take i)
    have h3:=jE hx
    have h4:=qj6 x
    have ha:Asc (((l.take i).map jt).foldl zh []):=qf1 _ _ List.Pairwise.nil λ l hl=>by
     obtain ⟨k,_,rfl⟩:=List.mem_map.1 hl
     exact qkq k
    refine Ev.ct hc (Ev.some hg (Ev.bind (qGi x (by omega)) (Ev.bind (qx6 _ _ ?_) ?_)))
    ·unfold zD at h2;omega
    ·rw [hi,qy0 ha (qkq x)]
     refine hP.congr λ m k=>?_
     rw [qiO hx])
  refine Ev.diag (L := λ m k=>qba m k l [] 0 0 [] 0 []) ?_
  exact key 0 (Nat.zero_le _)
end Go.AmYtbpnmbmdbblehaaGreat
namespace Go.GxYtbpnmbmdbblehaaGreat
def qfd (l:List Pw):Prop:=Asc (l.map (·.1))
def NzP (l:List Pw):Prop:=∀ p∈l,p.2≠0
theorem qfh {p:Pw} {l:List Pw}:qfd (p::l)↔(∀ q∈l,qp p.1 q.1=-1)∧qfd l:=by
 unfold qfd
 rw [List.map_cons,qah]
 simp
theorem qdt {p:Pw} {l:List Pw}:NzP (p::l)↔p.2≠0∧NzP l:=by
 unfold NzP;simp
def j7 (l:List Pw):Nat:=(l.map λ p=>p.2.natAbs).sum
theorem qme:∀ (l:List Pw) (t:T) (n:Int) (p:Pw),p∈yf l t n→p.1=t∨p∈l
 | [],t,n,p,h=>by simp [yf] at h;exact .inl (by rw [h])
 | (x,m)::l,t,n,p,h=>by
   rw [yf] at h
   split at h
   ·rcases List.mem_cons.1 h with h | h
    ·exact .inl (by rw [h])
    ·exact .inr h
   ·split at h
    ·rename_i h0
     split at h
     ·exact .inr (List.mem_cons_of_mem _ h)
     ·rcases List.mem_cons.1 h with h | h
      ·left;rw [h];exact (JX t x h0).symm
      ·exact .inr (List.mem_cons_of_mem _ h)
    ·rcases List.mem_cons.1 h with h | h
     ·exact .inr (h▸List.mem_cons_self ..)
     ·rcases qme l t n p h with h | h
      ·exact .inl h
      ·exact .inr (List.mem_cons_of_mem _ h)
theorem qAa:∀ (l:List Pw) (t:T) (n:Int),qfd l→qfd (yf l t n)
 | [],_,_,_=>List.pairwise_singleton _ _
 | (x,m)::l,t,n,h=>by
   obtain ⟨h1,h2⟩:=qfh.1 h
   rw [yf]
   have hr:=zI.rng t x
   split
   ·rename_i hlt
    refine qfh.2 ⟨λ q hq=>?_,h⟩
    rcases List.mem_cons.1 hq with e | hq
    ·rw [e];exact hlt
    ·exact qdR hlt (h1 q hq)
   ·split
    ·split
     ·exact h2
     ·exact qfh.2 ⟨h1,h2⟩
    ·refine qfh.2 ⟨λ q hq=>?_,qAa l t n h2⟩
     rcases qme l t n q hq with e | hq
     ·rw [e];exact qvt.1 (show qp t x=1 by omega)
     ·exact h1 q hq
theorem qBm:∀ (l:List Pw) (t:T) (n:Int),NzP l→n≠0→NzP (yf l t n)
 | [],_,_,_,hn=>by intro p hp;simp [yf] at hp;rw [hp];exact hn
 | (x,m)::l,t,n,h,hn=>by
   obtain ⟨h1,h2⟩:=qdt.1 h
   rw [yf]
   split
   ·exact qdt.2 ⟨hn,h⟩
   ·split
    ·split
     ·exact h2
     ·exact qdt.2 ⟨by assumption,h2⟩
    ·exact qdt.2 ⟨h1,qBm l t n h2 hn⟩
theorem qrR:∀ (l:List Pw) (t:T) (n:Int),j7 (yf l t n)≤j7 l+n.natAbs
 | [],t,n=>by simp [yf,j7]
 | (x,m)::l,t,n=>by
   have ih:=qrR l t n
   unfold j7 at ih ⊢
   rw [yf]
   split
   ·simp only [List.map_cons,List.sum_cons];omega
   ·split
    ·split
     ·simp only [List.map_cons,List.sum_cons];omega
     ·simp only [List.map_cons,List.sum_cons];omega
    ·simp only [List.map_cons,List.sum_cons];omega
theorem qq5:∀ (l:List Pw) (t:T) (n:Int),(yf l t n).length≤l.length+1
 | [],t,n=>by simp [yf]
 | (x,m)::l,t,n=>by
   have ih:=qq5 l t n
   rw [yf]
   split
   ·simp
   ·split
    ·split
     ·simp;omega
     ·simp
    ·simp only [List.length_cons];omega
theorem qyT (l:List Pw) (p:Pw) (h:p∈l):p.2.natAbs≤j7 l:=by
 unfold j7
 induction l with
 | nil=>cases h
 | cons q l ih =>
   simp only [List.map_cons,List.sum_cons]
   rcases List.mem_cons.1 h with e | h
   ·rw [e];omega
   ·have:=ih h;omega
noncomputable def yB (t:T) (n:Int) (s:List Pw × Bool) (p:Pw):List Pw × Bool :=
 ((if s.2=false∧qp t p.1<0 then s.1++[(t,n)] else s.1)++(if (if qp t p.1=0 then p.2+n else p.2)=0 then [] else [(p.1,if qp t p.1=0 then p.2+n else p.2)]),
   s.2||decide (qp t p.1≤0))
noncomputable def qCQ (l:List Pw) (t:T) (n:Int):List Pw:=if (l.foldl (yB t n) ([],false)).2 then (l.foldl (yB t n) ([],false)).1 else (l.foldl (yB t n) ([],false)).1++[(t,n)]
theorem qmr (t:T) (n:Int):∀ (l out:List Pw),NzP l→(∀ q∈l,qp t q.1=-1)→l.foldl (yB t n) (out,true)=(out++l,true)
 | [],out,_,_=>by simp
 | (x,m)::l,out,h,k=>by
   obtain ⟨h1,h2⟩:=qdt.1 h
   have k1:=k _ (List.mem_cons_self ..)
   simp only at k1 h1
   have e:yB t n (out,true) (x,m)=(out++[(x,m)],true):=by simp [yB,k1,h1]
   rw [List.foldl_cons,e,qmr t n l _ h2 λ q hq=>k q (List.mem_cons_of_mem _ hq)]
   simp
theorem qqw (t:T) (n:Int):∀ (l out:List Pw),NzP l→qfd l→(if (l.foldl (yB t n) (out,false)).2 then (l.foldl (yB t n) (out,false)).1 else (l.foldl (yB t n) (out,false)).1++[(t,n)])=out++yf l t n
 | [],out,_,_=>by simp [yf]
 | (x,m)::l,out,h,k=>by
   obtain ⟨h1,h2⟩:=qdt.1 h
   obtain ⟨k1,k2⟩:=qfh.1 k
   simp only at h1 k1
   have hr:=zI.rng t x
   rw [List.foldl_cons,yf]
   by_cases c1:qp t x=-1
   ·have e:yB t n (out,false) (x,m)=(out++[(t,n)]++[(x,m)],true):=by simp [yB,c1,h1]
    rw [e,qmr t n l _ h2 λ q hq=>qdR c1 (k1 q hq),if_pos c1]
    simp
   ·by_cases c2:qp t x=0
    ·have e:yB t n (out,false) (x,m)=(out++(if m+n=0 then [] else [(x,m+n)]),true):=by simp [yB,c2]
     have ex:=JX t x c2
     rw [e,qmr t n l _ h2 λ q hq=>by rw [ex];exact k1 q hq,if_neg c1,if_pos c2]
     by_cases c3:m+n=0
     ·simp [c3]
     ·simp [c3]
    ·have e:yB t n (out,false) (x,m)=(out++[(x,m)],false):=by
       have g1:¬ qp t x<0:=by omega
       have g2:¬ qp t x≤0:=by omega
       simp [yB,g1,g2,c2,h1]
     rw [e,qqw t n l _ h2 k2,if_neg c1,if_neg c2]
     simp
theorem qFM {l:List Pw} (h:NzP l) (k:qfd l) (t:T) (n:Int):qCQ l t n=yf l t n:=by
 have:=qqw t n l [] h k
 simpa [qCQ] using this
def Jc (l:List Pw):Prop:=qfd l∧NzP l
theorem Jc.nil:Jc []:=⟨List.Pairwise.nil,λ _ h=>by cases h⟩
theorem Jc.ins {l:List Pw} (h:Jc l) (t:T) {n:Int} (hn:n≠0):Jc (yf l t n):=⟨qAa l t n h.1,qBm l t n h.2 hn⟩
theorem qId {t:T} {n:Int} (h:n≠0):J9 t n≠0:=by unfold J9;split<;>omega
theorem qHm (t:T) (n:Int):(J9 t n).natAbs=n.natAbs:=by unfold J9;split<;>omega
theorem qBD (fs:List T) (n:Int) (P:List Pw→Prop) (h:∀ k∈fs,∀ l,P l→P (yS k l n)):∀ l,P l→P ((fs.map yS).foldl (λ l f=>f l n) l):=by
 induction fs with
 | nil=>intro l hl;exact hl
 | cons k fs ih=>intro l hl;exact ih (λ k hk=>h k (List.mem_cons_of_mem _ hk)) _ (h k (List.mem_cons_self ..) l hl)
theorem qFj (t:T):∀ (l:List Pw) (n:Int),n≠0→Jc l→Jc (yS t l n):=by
 refine T.ind (P := λ t=>∀ (l:List Pw) (n:Int),n≠0→Jc l→Jc (yS t l n)) ?_ t
 intro t ih l n hn h
 rw [qfk]
 split
 ·exact qBD t.kids (J9 t n) Jc (λ k hk l hl=>ih k hk l _ (qId hn) hl) l h
 ·exact h.ins t hn
theorem qGO (t:T):∀ (l:List Pw) (n:Int),j7 (yS t l n)≤j7 l+size t*n.natAbs∧(yS t l n).length≤l.length+size t:=by
 refine T.ind (P := λ t=>∀ (l:List Pw) (n:Int),j7 (yS t l n)≤j7 l+size t*n.natAbs∧(yS t l n).length≤l.length+size t) ?_ t
 intro t ih l n
 rw [qfk,qF]
 split
 ·have:∀ (fs:List T),(∀ k∈fs,k∈t.kids)→∀ l,j7 ((fs.map yS).foldl (λ l f=>f l (J9 t n)) l)≤j7 l+(fs.map size).sum*n.natAbs∧((fs.map yS).foldl (λ l f=>f l (J9 t n)) l).length≤l.length+(fs.map size).sum:=by
    intro fs
    induction fs with
    | nil=>intro _ l;simp
    | cons k fs ihf =>
      intro hf l
      have h1:=ih k (hf k (List.mem_cons_self ..)) l (J9 t n)
      rw [qHm] at h1
      have h2:=ihf (λ k hk=>hf k (List.mem_cons_of_mem _ hk)) (yS k l (J9 t n))
      simp only [List.map_cons,List.foldl_cons,List.sum_cons,Nat.add_mul] at h2 ⊢
      omega
  have:=this t.kids (λ _ h=>h) l
  rw [Nat.add_mul]
  omega
 ·have h1:=qrR l t n
  have h2:=qq5 l t n
  rw [Nat.add_mul]
  omega
theorem qn6:∀ (b a:List Pw),Jc a→NzP b→Jc (Qp a b)
 | [],a,h,_=>h
 | p::b,a,h,k=>qn6 b (yf a p.1 p.2) (h.ins p.1 (qdt.1 k).1) (qdt.1 k).2
theorem qrs:∀ (b a:List Pw),j7 (Qp a b)≤j7 a+j7 b∧(Qp a b).length≤a.length+b.length
 | [],a=>by simp [Qp,j7]
 | p::b,a=>by
   have h1:=qrs b (yf a p.1 p.2)
   have h2:=qrR a p.1 p.2
   have h3:=qq5 a p.1 p.2
   have e:j7 (p::b)=p.2.natAbs+j7 b:=by simp [j7]
   rw [show Qp a (p::b)=Qp (yf a p.1 p.2) b from rfl,e,List.length_cons]
   omega
noncomputable def ixP:List Pw→T→Nat
 | [],_=>0
 | p::l,t=>if qp p.1 t=-1 then ixP l t+1 else 0
theorem qDK:∀ (l:List Pw) (t:T),ixP l t≤l.length
 | [],_=>Nat.le_refl _
 | p::l,t=>by
   have:=qDK l t
   rw [ixP]
   split
   ·simp;omega
   ·omega
theorem qE7:∀ (l:List Pw) (t:T) (i:Nat),i≤l.length→(∀ k p,k<i→l[k]? = some p→qp p.1 t=-1)→(∀ p,l[i]? = some p→qp p.1 t≠-1)→i=ixP l t
 | [],_,i,h,_,_=>by simp at h;rw [h];rfl
 | p::l,t,0,_,_,h=>by rw [ixP,if_neg (h p rfl)]
 | p::l,t,i+1,h,k,m=>by
   rw [ixP,if_pos (k 0 p (by omega) rfl)]
   rw [← qE7 l t i (by simpa using h) (λ j q hj hq=>k (j+1) q (by omega) (by simpa using hq)) (λ q hq=>m q (by simpa using hq))]
theorem qCf:∀ (l:List Pw) (t:T) (n:Int) (x:T) (m:Int),l[ixP l t]? = some (x,m)→qp x t=0 →
  yf l t n=if m+n=0 then l.take (ixP l t)++l.drop (ixP l t+1) else l.take (ixP l t)++[(x,m+n)]++l.drop (ixP l t+1)
 | [],_,_,_,_,h,_=>by simp at h
 | (y,k)::l,t,n,x,m,h,h0=>by
   have an:=zI.anti y t
   have rg:=zI.rng y t
   rw [ixP] at h
   rw [yf,ixP]
   simp only at h ⊢
   by_cases c:qp y t=-1
   ·rw [if_pos c] at h
    rw [if_neg (by omega),if_neg (by omega),if_pos c,qCf l t n x m (by simpa using h) h0]
    split<;>simp
   ·rw [if_neg c] at h
    simp at h
    obtain ⟨rfl,rfl⟩:=h
    rw [if_neg (by omega),if_pos (by omega),if_neg c]
    split<;>simp
theorem qzJ:∀ (l:List Pw) (t:T) (n:Int),(∀ p,l[ixP l t]? = some p→qp p.1 t≠0)→yf l t n=l.take (ixP l t)++[(t,n)]++l.drop (ixP l t)
 | [],_,_,_=>by simp [yf,ixP]
 | (y,k)::l,t,n,h=>by
   have an:=zI.anti y t
   have rg:=zI.rng y t
   rw [ixP] at h
   rw [yf,ixP]
   simp only at h ⊢
   by_cases c:qp y t=-1
   ·rw [if_pos c] at h
    rw [if_neg (by omega),if_neg (by omega),if_pos c,qzJ l t n λ p hp=>h p (by simpa using hp)]
    simp
   ·rw [if_neg c] at h
    have:=h (y,k) rfl
    simp only at this
    rw [if_pos (by omega),if_neg c]
    simp
theorem qBg {l:List Pw} (h:qfd l) {i j:Nat} {p q:Pw} (hi:l[i]? = some p) (hj:l[j]? = some q) (hij:i<j):qp p.1 q.1=-1:=by
 unfold qfd Asc at h
 rw [List.pairwise_iff_getElem] at h
 obtain ⟨hi1,hi2⟩:=List.getElem?_eq_some_iff.1 hi
 obtain ⟨hj1,hj2⟩:=List.getElem?_eq_some_iff.1 hj
 have:=h i j (by simpa using hi1) (by simpa using hj1) hij
 simpa [hi2,hj2] using this
end Go.GxYtbpnmbmdbblehaaGreat
namespace Go.AmYtbpnmbmdbblehaaGreat
open Go Go.GxYtbpnmbmdbblehaaGreat
theorem qBT (t:T):Ev (λ m _=>Jr m t) (qbT t):=by
 refine Ev.succ ?_
 simp only [qqi,qdm]
 unfold qbT
 by_cases h3:t.kind=3
 ·refine Ev.ct (qj.2 h3) (Ev.ite (λ h=>?_) λ h=>(Ev.ite (λ h2=>?_) λ h2=>?_))
  ·rw [jb] at h
   exact Ev.ret (by rw [h3,h];rfl)
  ·rw [jb] at h2
   exact Ev.ret (by rw [h3,h2];rfl)
  ·rw [jr] at h h2
   exact Ev.ret (by
    have a1:(t.name==qeu)=false:=by rw [beq_eq_false_iff_ne];exact h
    have a2:(t.name==j9)=false:=by rw [beq_eq_false_iff_ne];exact h2
    rw [h3,a1,a2];rfl)
 ·exact Ev.cf (qh.2 h3) (Ev.ret (by have:(t.kind==3)=false:=by rw [beq_eq_false_iff_ne];exact h3
                                    rw [this];rfl))
theorem qkv (t:T):size t≤100000000→Ev (λ m _=>za m t) t:=by
 induction t using T.ind with
 | h t ih =>
   intro hs
   have hl:=yH t
   refine Ev.succ ?_
   simp only [qqJ,qbi]
   have hc:zC 0 t.kids=some ((),t.kids,()):=by
    unfold zC
    rw [show Nat.ble t.kids.length 100000000=true from Nat.ble_eq_true_of_le (by omega)];rfl
   refine Ev.some hc ?_
   have key:=qr (P := λ i=>Ev (λ m k=>jM m (za m) k t.kids.length i t.kind t.name t.sort 0 [] 0 t.kids []) t) t.kids (by omega)
    (λ hc=>by
     refine Ev.loop ?_
     simp only [qin,qbg]
     exact Ev.cf hc (Ev.ret (qe t)))
    (λ i x hx hd hc hg hi hP=>by
     refine Ev.loop ?_
     simp only [qin,qbg,qe]
     have hm:=List.mem_of_getElem? hx
     have h1:=y9 t x hm
     have e:jJ t.kids (i:Int) x=t.kids:=by
      rw [qdc]
      obtain ⟨h2,h3⟩:=List.getElem?_eq_some_iff.1 hx
      rw [← h3,List.set_getElem_self]
     refine Ev.ct hc (Ev.some hg (Ev.bind (ih x hm (by omega)) (Ev.some hg ?_)))
     rw [e,hi]
     exact hP)
   refine Ev.diag (L := λ m k=>jM m (za m) k t.kids.length 0 t.kind t.name t.sort 0 [] 0 t.kids []) ?_
   exact key 0 (Nat.zero_le _)
theorem qJZ (lo hi:Nat) (h:lo+hi≤1000000000):iw .i64 (ql9 .u64 (iw .u64 (iw .i64 (qi (lo:Int) (hi:Int)))) 1)=(((lo+hi) / 2:Nat):Int):=by
 rw [qnd,show iw .i64 ((lo+hi:Nat):Int)=((lo+hi:Nat):Int) from Qq (by omega),show iw .u64 ((lo+hi:Nat):Int)=((lo+hi:Nat):Int) from IntWalk.u64_in _ (by omega)]
 have:ql9 .u64 ((lo+hi:Nat):Int) 1=(((lo+hi) / 2:Nat):Int):=by
  unfold ql9
  show Int.fdiv _ 2=_
  rw [Int.fdiv_eq_ediv_of_nonneg _ (by decide)];omega
 rw [this,Qq (by omega)]
noncomputable def szP (l:List Pw):Nat:=(l.map λ p=>size p.1).sum
theorem J7 (p:Pw) (l:List Pw):szP (p::l)=size p.1+szP l:=by simp [szP]
theorem qbx:∀ l:List Pw,l.length≤szP l
 | []=>Nat.zero_le _
 | p::l=>by
   have:=qbx l
   have:=size_pos p.1
   rw [J7,List.length_cons];omega
theorem qd7:∀ {l:List Pw} {p:Pw},p∈l→size p.1≤szP l
 | q::l,p,h=>by
   rw [J7]
   rcases List.mem_cons.1 h with rfl | h
   ·omega
   ·have:=qd7 h;omega
theorem qBC:∀ (l:List Pw) (t:T) (n:Int),szP (yf l t n)≤szP l+size t
 | [],t,n=>by rw [yf,J7];show size t+0≤0+size t;omega
 | (x,m)::l,t,n=>by
   have:=qBC l t n
   rw [yf]
   split
   ·rw [J7,J7];show size t+(size x+_)≤size x+_+size t;omega
   ·split
    ·split
     ·rw [J7];show _≤size x+_+_;omega
     ·rw [J7,J7];show size x+_≤size x+_+_;omega
    ·rw [J7,J7];show size x+_≤size x+_+_;omega
theorem qye (p:Pw) (t:T) (h1:size p.1≤1000000000) (h2:size t≤1000000000):Ev (λ m _=>Qv m p t) (qp p.1 t):=by
 refine Ev.succ ?_
 simp only [qnQ,qcc,qe]
 exact Ev.bind (qcq _ h1 _ h2) (Ev.pure _)
noncomputable def qrM (l:List Pw) (t:T):Bool:=match l[Go.GxYtbpnmbmdbblehaaGreat.ixP l t]? with
 | some p=>ieq (qp p.1 t) 0
 | none=>false
theorem qHX {l:List Pw} (ha:qfd l) (t:T) (hs:szP l+size t≤100000000):∀ (d lo hi:Nat),hi≤lo+d→lo≤hi→hi≤l.length→(∀ k p,k<lo→l[k]? = some p→qp p.1 t=-1)→(∀ k p,hi≤k→l[k]? = some p→qp p.1 t≠-1) →
  Ev (λ m k=>qn m k l l.length lo hi t.kind t.name t.sort t.kids) ((Go.GxYtbpnmbmdbblehaaGreat.ixP l t:Int),qrM l t):=by
 have hl:=qbx l
 intro d
 induction d with
 | zero =>
   intro lo hi h1 h2 h3 h4 h5
   have:lo=hi:=by omega
   subst this
   have hix:=qE7 l t lo h3 h4 (λ p hp=>h5 lo p (Nat.le_refl _) hp)
   subst hix
   refine Ev.loop ?_
   simp only [z8,qE,qe]
   rw [show T.mk t.kind t.name t.sort t.kids=t from qe t]
   refine Ev.cf (qx.2 (Int.le_refl _)) (Ev.ite (λ h=>?_) λ h=>?_)
   ·rw [qs] at h
    have hlt:Go.GxYtbpnmbmdbblehaaGreat.ixP l t<l.length:=by omega
    obtain ⟨p,hg⟩:∃ p,l[Go.GxYtbpnmbmdbblehaaGreat.ixP l t]? = some p:=⟨_,List.getElem?_eq_getElem hlt⟩
    have hm:=qd7 (List.mem_of_getElem? hg)
    refine Ev.some (a:=p) (by rw [jN,hg]) (Ev.bind (qye (p.1,p.2) _ (Nat.le_trans hm (by omega)) (by omega)) (Ev.ret ?_))
    unfold qrM
    rw [hg]
   ·rw [qx] at h
    refine Ev.ret ?_
    unfold qrM
    rw [List.getElem?_eq_none (by omega)]
 | succ d ih =>
   intro lo hi h1 h2 h3 h4 h5
   by_cases he:lo=hi
   ·exact ih lo hi (by omega) h2 h3 h4 h5
   refine Ev.loop ?_
   simp only [z8,qE,qe]
   rw [show T.mk t.kind t.name t.sort t.kids=t from qe t,qJZ lo hi (by omega)]
   have hm1:(lo+hi) / 2<hi:=by omega
   have hm2:lo≤(lo+hi) / 2:=by omega
   generalize (lo+hi) / 2=mid at *
   have hlt:mid<l.length:=by omega
   obtain ⟨p,hg⟩:∃ p,l[mid]? = some p:=⟨_,List.getElem?_eq_getElem hlt⟩
   have hm:=qd7 (List.mem_of_getElem? hg)
   refine Ev.ct (qs.2 (by omega)) (Ev.some (a:=p) (by rw [jN,hg]) (Ev.bind (qye (p.1,p.2) _ (Nat.le_trans hm (by omega)) (by omega)) (Ev.ite (λ hc=>?_) λ hc=>?_)))
   ·rw [qs] at hc
    have hc:qp p.1 t<0:=hc
    have hc:qp p.1 t=-1:=by rcases zI.rng p.1 t with h | h | h<;>omega
    rw [show qi ((mid:Nat):Int) 1=((mid+1:Nat):Int) from by unfold qi;omega,Qq (by omega)]
    refine ih (mid+1) hi (by omega) (by omega) h3 (λ k q hk hp=>?_) h5
    by_cases hkm:k=mid
    ·subst hkm;rw [hg] at hp;cases hp;exact hc
    ·exact zI.trans _ _ _ (qBg ha hp hg (by omega)) hc
   ·rw [qx] at hc
    have hc:0≤qp p.1 t:=hc
    refine ih lo mid (by omega) hm2 (by omega) h4 (λ k q hk hp=>?_)
    by_cases hkm:k=mid
    ·subst hkm;rw [hg] at hp;cases hp;omega
    ·intro hcp
     have:=zI.trans _ _ _ (qBg ha hg hp (by omega)) hcp
     omega
theorem qKz {l:List Pw} (ha:qfd l) (t:T) (hs:szP l+size t≤100000000):Ev (λ m _=>qy m l t) ((Go.GxYtbpnmbmdbblehaaGreat.ixP l t:Int),qrM l t):=by
 refine Ev.succ ?_
 simp only [Qb,qD]
 refine Ev.diag (L := λ m k=>qn m k l l.length 0 l.length t.kind t.name t.sort t.kids) ?_
 exact qHX ha t hs l.length 0 l.length (by omega) (Nat.zero_le _) (Nat.le_refl _) (λ k p hk=>by omega) (λ k p hk hp=>by rw [List.getElem?_eq_none hk] at hp;cases hp)
theorem qsv {l:List Pw} (ha:qfd l) (t:T) (n:Int) (hs:szP l+size t≤90000000) (hlen:l.length≤90000) (hn:j7 l+n.natAbs≤1000000000000):Ev (λ m _=>Jq m l (t,n)) ((),yf l t n,()):=by
 have hl:=qbx l
 have hix:=qDK l t
 refine Ev.succ ?_
 simp only [qp8,qdq,qe]
 refine Ev.bind (qKz ha t (by omega)) (Ev.ite (λ h=>?_) λ h=>?_)
 ·rw [bnt] at h
  refine Ev.bind (qkv t (by omega)) ?_
  have hI:zl 0 l (Go.GxYtbpnmbmdbblehaaGreat.ixP l t:Int) [(re t,n)]=some ((),yf l t n,()):=by
   unfold zl
   rw [show inb (Go.GxYtbpnmbmdbblehaaGreat.ixP l t:Int) l.length=true from by unfold inb;rw [decide_eq_true_iff];omega,show Nat.ble l.length 100000=true from Nat.ble_eq_true_of_le (by omega)]
   rw [qzJ l t n λ p hp hc=>by
    unfold qrM at h
    simp only [hp] at h
    rw [qh] at h
    exact h hc]
   rw [Int.toNat_natCast,qe,List.append_assoc];rfl
  rw [qe] at hI
  refine Ev.some hI (Ev.pure _)
 ·rw [bnf] at h
  cases hg:l[Go.GxYtbpnmbmdbblehaaGreat.ixP l t]? with
  | none=>unfold qrM at h;simp only [hg] at h;cases h
  | some p =>
    obtain ⟨x,k⟩:=p
    have hc:qp x t=0:=by
     unfold qrM at h
     simp only [hg] at h
     exact qj.1 h
    have hm:=qyT l _ (List.mem_of_getElem? hg)
    have hlt:Go.GxYtbpnmbmdbblehaaGreat.ixP l t<l.length:=(List.getElem?_eq_some_iff.1 hg).1
    simp only at hm
    have e1:iw .i64 (qi k n)=k+n:=by
     unfold qi
     exact Qq (by omega)
    have gset:qd (jJ l (Go.GxYtbpnmbmdbblehaaGreat.ixP l t:Int) (x,k+n)) (Go.GxYtbpnmbmdbblehaaGreat.ixP l t:Int)=some (x,k+n):=by
     rw [qdc,jN,List.getElem?_set_self hlt]
    have hsplit:l.set (Go.GxYtbpnmbmdbblehaaGreat.ixP l t) (x,k+n)=l.take (Go.GxYtbpnmbmdbblehaaGreat.ixP l t)++[(x,k+n)]++l.drop (Go.GxYtbpnmbmdbblehaaGreat.ixP l t+1):=by
     rw [List.set_eq_take_append_cons_drop,if_pos hlt,List.append_assoc];rfl
    refine Ev.some (by rw [jN,hg]) (Ev.some (by rw [jN,hg]) ?_)
    simp only [qe,e1]
    refine Ev.some gset ?_
    rw [qCf l t n x k hg hc]
    refine Ev.ite (λ hz=>?_) λ hz=>?_
    ·rw [qj] at hz
     rw [if_pos hz]
     have hD:zo 0 (jJ l (Go.GxYtbpnmbmdbblehaaGreat.ixP l t:Int) (x,k+n)) (Go.GxYtbpnmbmdbblehaaGreat.ixP l t:Int) (iw .i64 (qi (Go.GxYtbpnmbmdbblehaaGreat.ixP l t:Int) 1))=some ((),l.take (Go.GxYtbpnmbmdbblehaaGreat.ixP l t)++l.drop (Go.GxYtbpnmbmdbblehaaGreat.ixP l t+1),()):=by
      rw [show qi (Go.GxYtbpnmbmdbblehaaGreat.ixP l t:Int) 1=((Go.GxYtbpnmbmdbblehaaGreat.ixP l t+1:Nat):Int) from by unfold qi;omega,Qq (by omega),qdc]
      unfold zo
      rw [List.length_set,show inb ((Go.GxYtbpnmbmdbblehaaGreat.ixP l t+1:Nat):Int) l.length=true from by unfold inb;rw [decide_eq_true_iff];omega,show inb (Go.GxYtbpnmbmdbblehaaGreat.ixP l t:Int) l.length=true from by unfold inb;rw [decide_eq_true_iff];omega,
       show ieq ((Go.GxYtbpnmbmdbblehaaGreat.ixP l t+1:Nat):Int) (qi (Go.GxYtbpnmbmdbblehaaGreat.ixP l t:Int) 1)=true from qj.2 (by unfold qi;omega),show Nat.ble l.length 100000=true from Nat.ble_eq_true_of_le (by omega)]
      rw [Int.toNat_natCast,List.take_set_of_le (Nat.le_refl _),List.drop_set_of_lt (by omega)];rfl
     exact Ev.some hD (Ev.pure _)
    ·rw [qh] at hz
     rw [if_neg hz]
     refine Ev.ret ?_
     rw [qdc,hsplit]
end Go.AmYtbpnmbmdbblehaaGreat
namespace Go.GxYtbpnmbmdbblehaaGreat
open Go.RowKit
theorem qyx (q:Option T) (p:Pw):pvK q p=if qu p.1≠0 then qu p.1 else if qbT p.1 then 1 else if p.2=0∨p.2 < -1000∨1000<p.2 then 7 else match q with | some x=>if 0≤qp x p.1 then 5 else 0 | none=>0:=rfl
theorem qyf:∀ (l:List Pw) (q:Option T),pvL q l=0→qfd l∧(∀ p∈l,p.2≠0∧p.2.natAbs≤1000)∧(∀ x,q=some x→∀ p∈l,qp x p.1=-1)∧(∀ p∈l,qu p.1=0∧qbT p.1=false)
 | [],q,_=>⟨List.Pairwise.nil,(λ _ h=>by cases h),(λ _ _ _ h=>by cases h),(λ _ h=>by cases h)⟩
 | p::l,q,h=>by
   rw [pvL] at h
   unfold thn at h
   split at h
   rotate_left
   ·rename_i h1;exact absurd h h1
   ·rename_i h1
    have hk:=qyx q p
    obtain ⟨i1,i2,i3,i4⟩:=qyf l (some p.1) h
    rw [hk] at h1
    split at h1
    ·rename_i h2;exact absurd h1 h2
    rename_i h2
    split at h1
    ·cases h1
    rename_i h3
    split at h1
    ·cases h1
    rename_i h4
    have hq:∀ x,q=some x→qp x p.1=-1 := λ x hx=>by
     subst hx
     simp only at h1
     split at h1
     ·cases h1
     ·rename_i h5
      rcases zI.rng x p.1 with h | h | h<;>omega
    refine ⟨qfh.2 ⟨λ r hr=>i3 _ rfl r hr,i1⟩,λ r hr=>?_,λ x hx r hr=>?_,λ r hr=>?_⟩
    ·rcases List.mem_cons.1 hr with rfl | hr
     ·omega
     ·exact i2 r hr
    ·rcases List.mem_cons.1 hr with rfl | hr
     ·exact hq x hx
     ·exact qdR (hq x hx) (by have:=i3 _ rfl r hr;omega)
    ·rcases List.mem_cons.1 hr with rfl | hr
     ·exact ⟨by omega,by simpa using h3⟩
     ·exact i4 r hr
theorem qaC {l:List Pw} (h:QD l=0):Jc l∧l.length≤200∧(∀ p∈l,p.2.natAbs≤1000)∧(∀ p∈l,qu p.1=0∧qbT p.1=false):=by
 unfold QD at h
 split at h
 ·cases h
 ·obtain ⟨i1,i2,-,i4⟩:=qyf l none h
  exact ⟨⟨i1,λ p hp=>(i2 p hp).1⟩,by omega,λ p hp=>(i2 p hp).2,i4⟩
theorem qlr (k:Nat):∀ (l:List Pw),(∀ p∈l,p.2.natAbs≤k)→j7 l≤l.length*k
 | [],_=>by simp [j7]
 | p::l,h=>by
   have h1:=qlr k l λ q hq=>h q (List.mem_cons_of_mem _ hq)
   have h2:=h p (List.mem_cons_self ..)
   have e:j7 (p::l)=p.2.natAbs+j7 l:=rfl
   rw [e,List.length_cons,Nat.add_mul];omega
theorem qq1:∀ (b a:List Pw) (p:Pw),p∈Qp a b→(∃ q∈a,q.1=p.1)∨∃ q∈b,q.1=p.1
 | [],a,p,h => .inl ⟨p,h,rfl⟩
 | r::b,a,p,h=>by
   rcases qq1 b (yf a r.1 r.2) p h with ⟨q,hq,e⟩ | ⟨q,hq,e⟩
   ·rcases qme a r.1 r.2 q hq with h1 | h1
    ·exact .inr ⟨r,List.mem_cons_self ..,by rw [← h1];exact e⟩
    ·exact .inl ⟨q,h1,e⟩
   ·exact .inr ⟨q,List.mem_cons_of_mem _ hq,e⟩
theorem qvH (a b:List Pw) (p:Pw):Qp a (b++[p])=yf (Qp a b) p.1 p.2:=by unfold Qp;rw [List.foldl_append];rfl
theorem qDk {a b:List Pw} (ha:QD a=0) (hb:QD b=0) (S:Nat) (hsa:∀ p∈a,size p.1≤S) (hsb:∀ p∈b,size p.1≤S) (j:Nat) :
  qfd (Qp a (b.take j))∧(Qp a (b.take j)).length≤400∧(∀ p∈Qp a (b.take j),p.2.natAbs≤1000000)∧(∀ p∈Qp a (b.take j),size p.1≤S):=by
 obtain ⟨g1,l1,k1,-⟩:=qaC ha
 obtain ⟨g2,l2,k2,-⟩:=qaC hb
 have hm:∀ p∈b.take j,p∈b := λ p hp=>List.mem_of_mem_take hp
 have hg:=qn6 (b.take j) a g1 λ p hp=>g2.2 p (hm p hp)
 obtain ⟨h1,h2⟩:=qrs (b.take j) a
 have h3:=qlr 1000 a k1
 have h4:=qlr 1000 (b.take j) λ p hp=>k2 p (hm p hp)
 have h5:(b.take j).length≤200:=by rw [List.length_take];omega
 refine ⟨hg.1,by omega,λ p hp=>?_,λ p hp=>?_⟩
 ·have:=qyT _ p hp
  omega
 ·rcases qq1 _ _ p hp with ⟨q,hq,e⟩ | ⟨q,hq,e⟩
  ·rw [← e];exact hsa q hq
  ·rw [← e];exact hsb q (hm q hq)
end Go.GxYtbpnmbmdbblehaaGreat
namespace Go.AmYtbpnmbmdbblehaaGreat
open Go Go.GxYtbpnmbmdbblehaaGreat
theorem jU {t:T} (h:qu t=0):size t≤400:=by
 unfold qu at h
 split at h
 ·rename_i h1;exact absurd h h1
 ·split at h
  ·cases h
  ·omega
theorem qpu {t:T}:qbT t=true↔t.kind=3∧(t.name=qeu∨t.name=j9∨t.name=qgG):=by
 unfold qbT
 simp only [Bool.and_eq_true,Bool.or_eq_true,beq_iff_eq]
 constructor
 ·rintro ⟨h,(h1 | h1) | h1⟩
  ·exact ⟨h,.inl h1⟩
  ·exact ⟨h,.inr (.inl h1)⟩
  ·exact ⟨h,.inr (.inr h1)⟩
 ·rintro ⟨h,h1 | h1 | h1⟩
  ·exact ⟨h,.inl (.inl h1)⟩
  ·exact ⟨h,.inl (.inr h1)⟩
  ·exact ⟨h,.inr h1⟩
theorem qBj (t:T):∀ (l:List Pw) (n:Int),szP (yS t l n)≤szP l+size t:=by
 refine T.ind (P := λ t=>∀ (l:List Pw) (n:Int),szP (yS t l n)≤szP l+size t) ?_ t
 intro t ih l n
 rw [qfk]
 have hz:=qF t
 split
 ·have:∀ (fs:List T),(∀ k∈fs,k∈t.kids)→∀ l,szP ((fs.map yS).foldl (λ l f=>f l (J9 t n)) l)≤szP l+(fs.map size).sum:=by
    intro fs
    induction fs with
    | nil=>intro _ l;simp
    | cons k fs ihf =>
      intro hf l
      have h1:=ih k (hf k (List.mem_cons_self ..)) l (J9 t n)
      have h2:=ihf (λ k hk=>hf k (List.mem_cons_of_mem _ hk)) (yS k l (J9 t n))
      simp only [List.map_cons,List.foldl_cons,List.sum_cons] at h2 ⊢
      omega
  have:=this t.kids (λ _ h=>h) l
  omega
 ·exact qBC l t n
noncomputable def qem (ks:List T) (sg:Int) (l:List Pw) (i:Nat):List Pw:=((ks.take i).map yS).foldl (λ l f=>f l sg) l
theorem qws {ks:List T} {i:Nat} {x:T} (h:ks[i]? = some x) (sg:Int) (l:List Pw):qem ks sg l (i+1)=yS x (qem ks sg l i) sg:=by
 unfold qem
 rw [List.take_add_one,h,List.map_append,List.foldl_append];rfl
theorem qmC (sg:Int) (hsg:sg≠0):∀ (ks:List T) (l:List Pw),Jc l→Jc ((ks.map yS).foldl (λ l f=>f l sg) l)∧szP ((ks.map yS).foldl (λ l f=>f l sg) l)≤szP l+szL ks ∧
  j7 ((ks.map yS).foldl (λ l f=>f l sg) l)≤j7 l+szL ks*sg.natAbs∧((ks.map yS).foldl (λ l f=>f l sg) l).length≤l.length+szL ks
 | [],l,h=>⟨h,by simp,by simp,by simp⟩
 | k::ks,l,h=>by
   obtain ⟨i1,i2,i3,i4⟩:=qmC sg hsg ks (yS k l sg) (qFj k l sg hsg h)
   have h1:=qBj k l sg
   obtain ⟨h2,h3⟩:=qGO k l sg
   rw [List.map_cons,List.foldl_cons,qK,Nat.add_mul]
   exact ⟨i1,by omega,by omega,by omega⟩
noncomputable def qjl (t:T) (l:List Pw) (n:Int):Unit × List Pw × Bool × Unit:=((),if arT t then yS t l n else [],arT t,())
theorem qDn (t:T):∀ (l:List Pw) (n:Int),n≠0→Jc l→szP l+size t≤80000→j7 l+size t*n.natAbs≤100000000000→Ev (λ m _=>qY m l t n) (qjl t l n):=by
 induction t using T.ind with
 | h t ih =>
   intro l n hn hg hs hb
   have hl:=yH t
   have hz:=qF t
   have hll:=qbx l
   refine Ev.succ ?_
   simp only [qoA,qal,qe]
   refine Ev.bind (qBT t) (Ev.ite (λ h=>?_) λ h=>?_)
   ·rw [bnt] at h
    have hmul:n.natAbs≤size t*n.natAbs:=Nat.le_mul_of_pos_left _ (size_pos t)
    refine Ev.bind (qsv hg.1 t n (by omega) (by omega) (by omega)) (Ev.ret ?_)
    unfold qjl
    rw [qtg,qfk,h];rfl
   rw [bnf] at h
   obtain ⟨h3,hname⟩:=qpu.1 h
   have har:arT t=(arK t&&(t.kids.map arT).all id):=by rw [qtg,h];rfl
   have loop:∀ sg:Int,sg≠0→sg.natAbs=n.natAbs→J9 t n=sg→arK t=true→Ev (λ m _=>yP m (qY m) m sg t.kids t.kids.length 0 l) (qjl t l n):=by
    intro sg hsg hab hsn hk
    have hcol:yS t l n=qem t.kids sg l t.kids.length:=by rw [qfk,h,if_pos rfl,hsn];unfold qem;rw [List.take_length]
    have key:=qr (P := λ i=>(∀ k∈t.kids.take i,arT k=true)→Ev (λ m k=>yP m (qY m) k sg t.kids t.kids.length i (qem t.kids sg l i)) (qjl t l n)) t.kids (by omega)
     (λ hc ha=>by
      refine Ev.loop ?_
      simp only [qgI,qan]
      refine Ev.cf hc (Ev.ret ?_)
      unfold qjl
      have:arT t=true:=by
       rw [har,hk,Bool.true_and,List.all_eq_true]
       intro b hb
       obtain ⟨k,hk1,rfl⟩:=List.mem_map.1 hb
       rw [List.take_length] at ha
       exact ha k hk1
      rw [this,if_pos rfl,hcol])
     (λ i x hx hd hc hgt hi hP ha=>by
      refine Ev.loop ?_
      simp only [qgI,qan,qe]
      have hm:=List.mem_of_getElem? hx
      have h1:=y9 t x hm
      obtain ⟨f1,f2,f3,f4⟩:=qmC sg hsg (t.kids.take i) l hg
      have h5:=jE hx
      have h6:szL t.kids+1=size t:=by unfold szL;omega
      have h7:szL (t.kids.take i)*sg.natAbs+size x*sg.natAbs≤size t*n.natAbs:=by
       rw [← Nat.add_mul,hab]
       exact Nat.mul_le_mul_right _ (by omega)
      refine Ev.ct hc (Ev.some hgt (Ev.bind (ih x hm (qem t.kids sg l i) sg hsg f1 (by unfold qem;omega) (by unfold qem;omega)) (Ev.ite (λ hb1=>?_) λ hb1=>?_)))
      ·rw [bnt] at hb1
       have hb1:arT x=false:=hb1
       refine Ev.ret ?_
       unfold qjl
       have:arT t=false:=by
        rw [har,hk,Bool.true_and,← Bool.not_eq_true,List.all_eq_true]
        intro hall
        have:=hall (arT x) (List.mem_map_of_mem hm)
        rw [hb1] at this;cases this
       rw [this];rfl
      ·rw [bnf] at hb1
       have hb1:arT x=true:=hb1
       have hP:=hP λ k hk'=>by
        rw [List.take_add_one,hx] at hk'
        rcases List.mem_append.1 hk' with hk' | hk'
        ·exact ha k hk'
        ·rw [show k=x from by simpa using hk'];exact hb1
       rw [hi]
       refine hP.congr λ m k=>?_
       unfold qjl
       rw [qws hx,hb1];rfl)
    refine Ev.diag (L := λ m k=>yP m (qY m) k sg t.kids t.kids.length 0 l) ?_
    exact (key 0 (Nat.zero_le _)) (λ k hk=>by rw [List.take_zero] at hk;cases hk)
   have bad:arK t=false→Ev (λ _ _=>some ((),[],false,())) (qjl t l n) := λ hk=>by
    refine Ev.ret ?_
    unfold qjl
    rw [har,hk];rfl
   have hneg:iw .i64 (QC 0 n)=-n:=by
    have hmul:n.natAbs≤size t*n.natAbs:=Nat.le_mul_of_pos_left _ (size_pos t)
    unfold QC
    rw [Qq (by omega)];omega
   rcases hname with hn1 | hn1 | hn1
   ·refine Ev.cf (by rw [hn1];rfl) (Ev.cf (by rw [hn1];rfl) (Ev.ct (by rw [hn1];rfl) (Ev.ite (λ hk=>?_) λ hk=>?_)))
    ·rw [qs] at hk
     exact bad (by unfold arK;rw [hn1,decide_eq_true (show t.kids.length<2 by omega)];rfl)
    ·rw [qx] at hk
     exact Ev.cf (by rw [hn1];rfl) (loop n hn rfl (by unfold J9;rw [hn1];rfl) (by unfold arK;rw [hn1,decide_eq_false (show ¬ t.kids.length<2 by omega)];rfl))
   ·refine Ev.cf (by rw [hn1];rfl) (Ev.ct (by rw [hn1];rfl) (Ev.ite (λ hk=>?_) λ hk=>?_))
    ·rw [bnt,qh] at hk
     exact bad (by unfold arK;rw [hn1,show (t.kids.length != 1)=true from by rw [bne_iff_ne];omega];rfl)
    ·rw [bnf,qj] at hk
     rw [hneg]
     exact Ev.cf (by rw [hn1];rfl) (Ev.ct (by rw [hn1];rfl) (loop (-n) (by omega) (by omega) (by unfold J9;rw [if_pos hn1]) (by unfold arK;rw [hn1,show (t.kids.length != 1)=false from by rw [bne_eq_false_iff_eq];omega];rfl)))
   ·refine Ev.ct (by rw [hn1];rfl) (Ev.ite (λ hk=>?_) λ hk=>?_)
    ·rw [bnt,qh] at hk
     exact bad (by unfold arK;rw [hn1,show (t.kids.length != 0)=true from by rw [bne_iff_ne];omega];rfl)
    ·rw [bnf,qj] at hk
     exact Ev.cf (by rw [hn1];rfl) (Ev.cf (by rw [hn1];rfl) (Ev.cf (by rw [hn1];rfl) (loop n hn rfl (by unfold J9;rw [hn1];rfl) (by unfold arK;rw [hn1,show (t.kids.length != 0)=false from by rw [bne_eq_false_iff_eq];omega];rfl))))
theorem qzs (t:T) (hs:size t≤1000000000):Ev (λ m _=>JY m t) (ofP t):=by
 refine Ev.succ ?_
 simp only [qxz,qg6,qe]
 unfold ofP
 refine Ev.bind (JZ t hs) (Ev.ite (λ h=>?_) λ h=>?_)
 ·rw [bnt,qh] at h
  rw [if_pos h];exact Ev.pure _
 ·rw [bnf,qj] at h
  have hz:=jU h
  rw [if_neg (by omega)]
  refine Ev.bind (qDn t [] 1 (by decide) Jc.nil (by show 0+_≤_;omega) (by show 0+size t*1≤_;omega)) (Ev.ite (λ h1=>?_) λ h1=>?_)
  ·rw [bnt] at h1
   have h1:arT t=false:=h1
   rw [if_pos h1];exact Ev.pure _
  ·rw [bnf] at h1
   have h1:arT t=true:=h1
   rw [if_neg (by rw [h1];decide)]
   have e:(qjl t [] 1).2.1=yS t [] 1:=by unfold qjl;rw [h1];rfl
   rw [e]
   refine Ev.ite (λ h2=>?_) λ h2=>?_
   ·rw [qs] at h2
    rw [if_pos (by omega)];exact Ev.pure _
   ·rw [qx] at h2
    rw [if_neg (by omega)];exact Ev.pure _
noncomputable def qcL (l:List Pw) (i:Nat):Option T:=if i=0 then none else (l[i-1]?).map (·.1)
theorem qiX {l:List Pw} {i:Nat} {p:Pw} (h:l[i]? = some p):qcL l (i+1)=some p.1:=by
 unfold qcL
 rw [if_neg (by omega),Nat.add_sub_cancel,h];rfl
theorem qot (l:List Pw) (hs:szP l≤1000000000):Ev (λ m _=>QM m l) (QD l):=by
 have hl:=qbx l
 refine Ev.succ ?_
 simp only [qqA,qbb]
 unfold QD
 refine Ev.ite (λ h=>?_) λ h=>?_
 ·rw [qs] at h
  rw [if_pos (by omega)];exact Ev.pure _
 rw [qx] at h
 rw [if_neg (by omega)]
 have key:=qr (P := λ i=>Ev (λ m k=>jm m k l l l.length i) (pvL (qcL l i) (l.drop i))) l (by omega)
  (λ hc=>by
   refine Ev.loop ?_
   simp only [qir,qbh]
   refine Ev.cf hc (Ev.ret ?_)
   rw [List.drop_length];rfl)
  (λ i x hx hd hc hg hi hP=>by
   refine Ev.loop ?_
   simp only [qir,qbh,qe]
   have h1:=qd7 (List.mem_of_getElem? hx)
   rw [qiX hx] at hP
   rw [hd,pvL]
   have hk:=qyx (qcL l i) x
   have bad:∀ e:Int,pvK (qcL l i) x=e→e≠0→Ev (λ _ _=>some e) (thn (pvK (qcL l i) x) (pvL (some x.1) (l.drop (i+1)))) := λ e he h0=>by
    rw [he]
    exact Ev.ret (by unfold thn;rw [if_neg h0])
   have good:pvK (qcL l i) x=0→Ev (λ m k=>jm m k l l l.length ((i+1:Nat):Int)) (thn (pvK (qcL l i) x) (pvL (some x.1) (l.drop (i+1)))) := λ he=>by
    rw [he]
    exact hP.res (by unfold thn;rw [if_pos rfl])
   refine Ev.ct hc (Ev.some hg (Ev.bind (JZ x.1 (by omega)) (Ev.ite (λ hv=>?_) λ hv=>?_)))
   ·rw [bnt,qh] at hv
    exact bad _ (by rw [hk,if_pos hv]) hv
   rw [bnf,qj] at hv
   rw [if_neg (by omega)] at hk
   refine Ev.bind (qBT x.1) (Ev.ite (λ hv2=>?_) λ hv2=>?_)
   ·exact bad 1 (by rw [hk,if_pos hv2]) (by decide)
   rw [if_neg (by rw [hv2];decide)] at hk
   refine Ev.ite (λ hz=>?_) λ hz=>?_
   ·rw [qj] at hz
    exact bad 7 (by rw [hk,if_pos (by omega)]) (by decide)
   rw [qh] at hz
   refine Ev.ite (λ hz2=>?_) λ hz2=>?_
   ·rw [qs] at hz2
    exact bad 7 (by rw [hk,if_pos (by omega)]) (by decide)
   rw [qx] at hz2
   refine Ev.ite (λ hz3=>?_) λ hz3=>?_
   ·rw [qs] at hz3
    exact bad 7 (by rw [hk,if_pos (by omega)]) (by decide)
   rw [qx] at hz3
   rw [if_neg (by omega)] at hk
   rw [hi]
   refine Ev.ite (λ h0=>?_) λ h0=>?_
   ·rw [qs] at h0
    obtain ⟨j,rfl⟩:∃ j,i=j+1:=⟨i-1,by omega⟩
    have hlt:j<l.length:=by have:=(List.getElem?_eq_some_iff.1 hx).1;omega
    obtain ⟨q,hq⟩:∃ q,l[j]? = some q:=⟨_,List.getElem?_eq_getElem hlt⟩
    have h2:=qd7 (List.mem_of_getElem? hq)
    rw [qiX hq] at hk bad good ⊢
    simp only at hk
    refine Ev.some (a:=q) (by rw [show QC ((j+1:Nat):Int) 1=((j:Nat):Int) from by unfold QC;omega,Qq (by omega),jN,hq]) (Ev.bind (qcq q.1 (by omega) x.1 (by omega)) (Ev.ite (λ hc2=>?_) λ hc2=>?_))
    ·rw [qeg] at hc2
     exact bad 5 (by rw [hk,if_pos hc2]) (by decide)
    ·rw [qkt] at hc2
     exact good (by rw [hk,if_neg (by omega)])
   ·rw [qx] at h0
    have:i=0:=by omega
    subst this
    exact good (by rw [hk];rfl))
 refine Ev.diag (L := λ m k=>jm m k l l l.length 0) ?_
 exact key 0 (Nat.zero_le _)
end Go.AmYtbpnmbmdbblehaaGreat
namespace Go.AmYtbpnmbmdbblehaaGreat
open Go Go.GxYtbpnmbmdbblehaaGreat
theorem zQ {α : Type} {l:List α} {i:Nat} {x : α} (h:l[i]? = some x):l.take (i+1)=l.take i++[x]:=by rw [List.take_add_one,h];rfl
theorem qrt (a b:List Pw):zL (a++b)=zL a++zL b:=by unfold zL;rw [List.flatMap_append]
theorem qqW (a b:List Pw):zS (a++b)=zS a++zS b:=by unfold zS;rw [List.flatMap_append]
theorem qq9 (p:Pw):zL [p]=List.replicate p.2.toNat p.1:=by unfold zL;simp
theorem qqY (p:Pw):zS [p]=List.replicate (-p.2).toNat (apT j9 [p.1]):=by unfold zS;simp
theorem qBL (n:Nat) (x:T):szL (List.replicate n x)=n*size x:=by
 induction n with
 | zero=>simp [szL]
 | succ n ih=>rw [List.replicate_succ,qK,ih,Nat.add_mul];omega
theorem qyU (t:T):size (apT j9 [t])=1+size t:=by rw [qF];show 1+(size t+0)=_;omega
theorem qml {P:Nat→Prop} (N:Int) (hN:N≤1000000) (hend:P N.toNat) (hstep:∀ j:Nat,(j:Int)<N→iw .i64 (qi (j:Int) 1)=((j+1:Nat):Int)→P (j+1)→P j):∀ j:Nat,j≤N.toNat→P j:=by
 intro j hj
 obtain ⟨d,hd⟩:∃ d,N.toNat=j+d:=⟨N.toNat-j,by omega⟩
 induction d generalizing j with
 | zero =>
   have:j=N.toNat:=by omega
   subst this;exact hend
 | succ d ih =>
   refine hstep j (by omega) ?_ (ih (j+1) (by omega) (by omega))
   unfold qi
   rw [Qq (by omega)];omega
theorem qIU {l:List Pw} {p:Pw} (hp:p∈l) (h:8<p.2):8<(zL l++zS l).length:=by
 have:(List.replicate p.2.toNat p.1).length≤(zL l).length:=Nat.le_trans (List.sublist_flatten_of_mem (List.mem_map_of_mem (f := λ p:Pw=>List.replicate p.2.toNat p.1) hp)).length_le (by unfold zL;rw [List.flatMap_def];exact Nat.le_refl _)
 rw [List.length_replicate] at this
 rw [List.length_append];omega
theorem qIR {l:List Pw} {p:Pw} (hp:p∈l) (h:p.2 < -8):8<(zL l++zS l).length:=by
 have:(List.replicate (-p.2).toNat (apT j9 [p.1])).length≤(zS l).length:=Nat.le_trans (List.sublist_flatten_of_mem (List.mem_map_of_mem (f := λ p:Pw=>List.replicate (-p.2).toNat (apT j9 [p.1])) hp)).length_le (by unfold zS;rw [List.flatMap_def];exact Nat.le_refl _)
 rw [List.length_replicate] at this
 rw [List.length_append];omega
theorem qBU (o:List T):size (Jj o)≤1+szL o:=by
 unfold Jj
 split
 ·rw [qF];show 1+0≤_;omega
 ·split
  ·rename_i _ h1l
   have:o.getD 0 zT∈o:=by
    cases o with
    | nil=>cases h1l
    | cons x r=>exact List.mem_cons_self ..
   have:=qbt this;omega
  ·rw [qF];exact Nat.le_refl _
theorem qos {l:List Pw} (hsz:∀ p∈l,size p.1≤400):∀ (ks:List Pw),(∀ p∈ks,p∈l∧-8≤p.2∧p.2≤8)→(zL ks).length≤8*ks.length∧(zS ks).length≤8*ks.length∧szL (zL ks)≤3200*ks.length∧szL (zS ks)≤3208*ks.length
 | [],_=>⟨Nat.le_refl _,Nat.le_refl _,Nat.le_refl _,Nat.le_refl _⟩
 | p::ks,h=>by
   obtain ⟨i1,i2,i3,i4⟩:=qos hsz ks λ q hq=>h q (List.mem_cons_of_mem _ hq)
   obtain ⟨h1,h2,h3⟩:=h p (List.mem_cons_self ..)
   have h4:=hsz p h1
   have e1:zL (p::ks)=List.replicate p.2.toNat p.1++zL ks:=by rw [show p::ks=[p]++ks from rfl,qrt,qq9]
   have e2:zS (p::ks)=List.replicate (-p.2).toNat (apT j9 [p.1])++zS ks:=by rw [show p::ks=[p]++ks from rfl,qqW,qqY]
   have m1:p.2.toNat*size p.1≤8*400:=Nat.mul_le_mul (by omega) h4
   have m2:(-p.2).toNat*(1+size p.1)≤8*401:=Nat.mul_le_mul (by omega) (by omega)
   rw [e1,e2,qg4,qg4,qBL,qBL,qyU]
   simp only [List.length_append,List.length_replicate,List.length_cons]
   refine ⟨by omega,by omega,by omega,by omega⟩
noncomputable def qld (o:List T):T × Int:=if 8<o.length then (zT,3) else if qu (Jj o)≠0 then (zT,qu (Jj o)) else (Jj o,0)
theorem qor {l:List Pw} (h:QD l=0):qam l=qld (zL l++zS l):=by
 unfold qam qld
 rw [if_neg (by omega)]
theorem qxQ (l:List Pw) (hs:szP l≤1000000000):Ev (λ m _=>jG m l) (qam l):=by
 refine Ev.succ ?_
 simp only [qtt,qbO]
 refine Ev.bind (qot l hs) (Ev.ite (λ h=>?_) λ h=>?_)
 ·rw [bnt,qh] at h
  unfold qam
  rw [if_pos h];exact Ev.pure _
 rw [bnf,qj] at h
 obtain ⟨_,hlen,hN,hV⟩:=qaC h
 have hsz:∀ p∈l,size p.1≤400 := λ p hp=>jU (hV p hp).1
 rw [qor h]
 have key:=qr (P := λ i=>(∀ p∈l.take i,p∈l∧-8≤p.2∧p.2≤8)→Ev (λ m k=>(qv m k).1 l l.length i 0 [] 0 [] (zL (l.take i)) (zS (l.take i))) (qld (zL l++zS l))) l (by omega)
  (λ hc hb=>by
   refine Ev.loop ?_
   simp only [qjq,qcf,qe]
   rw [List.take_length] at hb ⊢
   obtain ⟨b1,b2,b3,b4⟩:=qos hsz l hb
   refine Ev.cf hc (Ev.bind (qsy (zL l) (zS l) (by omega)) ?_)
   have ho:szL (zL l++zS l)≤10000000:=by rw [qg4];omega
   generalize zL l++zS l=o at *
   have hol:=jd o
   have hoz:=qBU o
   unfold qld
   refine Ev.ite (λ h8=>?_) λ h8=>?_
   ·rw [qs] at h8
    rw [if_pos (by omega)];exact Ev.pure _
   rw [qx] at h8
   rw [if_neg (by omega)]
   have fin:∀ u:T,u=Jj o→Ev (λ m _=>qa (zc m u) λ v=>cond (qb (ieq v 0)) (some (T.mk 0 [] 0 [],v)) (some (u,0))) (if qu (Jj o)≠0 then (zT,qu (Jj o)) else (Jj o,0)):=by
    intro u hu
    subst hu
    refine Ev.bind (JZ _ (by omega)) (Ev.ite (λ h=>?_) λ h=>?_)
    ·rw [bnt,qh] at h
     rw [if_pos h];exact Ev.pure _
    ·rw [bnf,qj] at h
     rw [if_neg (by omega)];exact Ev.pure _
   have app:∀ (n:List UInt8) (x:List T),Ev (λ m _=>qbE m n x) (apT n x) := λ n x=>Ev.succ (Ev.pure _)
   refine Ev.bind (app [109,117,108] o) (Ev.ite (λ h0=>?_) λ h0=>?_)
   ·rw [qj] at h0
    exact Ev.bind (app [111,110,101] []) (fin _ (by unfold Jj;rw [if_pos (by omega)];rfl))
   ·rw [qh] at h0
    refine Ev.ite (λ h1=>?_) λ h1=>?_
    ·rw [qj] at h1
     refine Ev.some (a:=o.getD 0 zT) ?_ (fin _ (by unfold Jj;rw [if_neg (by omega),if_pos (by omega)]))
     rw [Jm,List.getD_eq_getElem?_getD]
     cases o with
     | nil=>simp at h1
     | cons x r=>rfl
    ·rw [qh] at h1
     exact fin _ (by unfold Jj;rw [if_neg (by omega),if_neg (by omega)];rfl))
  (λ i p hx hd hc hg hi hP hb=>by
   refine Ev.loop ?_
   simp only [qjq,qcf]
   have hm:=List.mem_of_getElem? hx
   have hn:=hN p hm
   have hz:=hsz p hm
   have hib:=(List.getElem?_eq_some_iff.1 hx).1
   refine Ev.ct hc (Ev.some hg (Ev.ite (λ h8=>?_) λ h8=>?_))
   ·rw [qs] at h8
    unfold qld
    rw [if_pos (qIU hm h8)];exact Ev.pure _
   rw [qx] at h8
   refine Ev.ite (λ h9=>?_) λ h9=>?_
   ·rw [qs] at h9
    unfold qld
    rw [if_pos (qIR hm h9)];exact Ev.pure _
   rw [qx] at h9
   obtain ⟨b1,b2,b3,b4⟩:=qos hsz _ hb
   have htl:(l.take i).length≤200:=by rw [List.length_take];omega
   have hP:=hP λ q hq=>by
    rw [zQ hx] at hq
    rcases List.mem_append.1 hq with hq | hq
    ·exact hb q hq
    ·rw [show q=p from by simpa using hq];exact ⟨hm,h9,h8⟩
   rw [zQ hx,qrt,qqW,qq9,qqY] at hP
   generalize zL (l.take i)=P0 at *
   generalize zS (l.take i)=N0 at *
   have k3:=qml (P := λ j=>Ev (λ m k=>(qv m k).2.2 l l.length i (-p.2) j 0 [] 0 p.1.kind p.1.name p.1.sort p.1.kids p.2 [] (P0++List.replicate p.2.toNat p.1) (N0++List.replicate j (apT j9 [p.1]))) (qld (zL l++zS l))) (-p.2) (by omega)
    (by
     refine Ev.loop ?_
     simp only [qjT,qcd]
     refine Ev.cf (qx.2 (by omega)) ?_
     rw [hi]
     exact hP)
    (λ j hj hji hPj=>by
     refine Ev.loop ?_
     simp only [qjT,qcd,qe]
     rw [show T.mk p.1.kind p.1.name p.1.sort p.1.kids=p.1 from qe p.1,hji]
     refine Ev.ct (qs.2 hj) (Ev.bind (qkv p.1 (by omega)) (Ev.bind (a:=apT j9 [p.1]) (Ev.succ (Ev.pure _)) (Ev.ct (zf (by rw [List.length_append,List.length_replicate];omega) (by omega)) ?_)))
     refine hPj.congr λ m k=>?_
     rw [List.replicate_succ',List.append_assoc])
   have k2:=qml (P := λ j=>Ev (λ m k=>(qv m k).2.1 l l.length i p.2 j 0 [] 0 p.1.kind p.1.name p.1.sort p.1.kids p.2 [] (P0++List.replicate j p.1) N0) (qld (zL l++zS l))) p.2 (by omega)
    (by
     refine Ev.loop ?_
     simp only [qjO,qca]
     refine Ev.cf (qx.2 (by omega)) ?_
     rw [show iw .i64 (QC 0 p.2)=-p.2 from by unfold QC;rw [Qq (by omega)];omega]
     have:=k3 0 (Nat.zero_le _)
     rw [List.replicate_zero,List.append_nil] at this
     exact this)
    (λ j hj hji hPj=>by
     refine Ev.loop ?_
     simp only [qjO,qca,qe]
     rw [show T.mk p.1.kind p.1.name p.1.sort p.1.kids=p.1 from qe p.1,hji]
     refine Ev.ct (qs.2 hj) (Ev.bind (qkv p.1 (by omega)) (Ev.ct (zf (by rw [List.length_append,List.length_replicate];omega) (by omega)) ?_))
     refine hPj.congr λ m k=>?_
     rw [List.replicate_succ',List.append_assoc])
   have:=k2 0 (Nat.zero_le _)
   rw [List.replicate_zero,List.append_nil] at this
   exact this)
 refine Ev.diag (L := λ m k=>(qv m k).1 l l.length 0 0 [] 0 [] [] []) ?_
 exact (key 0 (Nat.zero_le _)) (λ p hp=>by rw [List.take_zero] at hp;cases hp)
theorem qIF (l:List Pw) (hs:szP l≤100000000):Ev (λ m _=>qaK m l) ((),l,()):=by
 have hl:=qbx l
 refine Ev.succ ?_
 simp only [qp9,qaF]
 have key:=qr (P := λ i=>Ev (λ m k=>jx m k l l.length i (l.take i)) ((),l,())) l (by omega)
  (λ hc=>by
   refine Ev.loop ?_
   simp only [qhE,qaL]
   refine Ev.cf hc ?_
   rw [List.take_length];exact Ev.pure _)
  (λ i p hx hd hc hg hi hP=>by
   refine Ev.loop ?_
   simp only [qhE,qaL,qe]
   have h1:=qd7 (List.mem_of_getElem? hx)
   have h2:(l.take i).length≤l.length:=by rw [List.length_take];omega
   refine Ev.ct hc (Ev.some hg (Ev.bind (qkv p.1 (by omega)) (Ev.ct (zf (by omega) (by omega)) ?_)))
   rw [hi]
   refine hP.congr λ m k=>?_
   rw [zQ hx])
 refine Ev.diag (L := λ m k=>jx m k l l.length 0 []) ?_
 exact key 0 (Nat.zero_le _)
theorem qwv (p:Pw) (l:List Pw):qlf (p::l)=((decide (p.2 < -1000)||decide (1000<p.2))||qlf l):=rfl
theorem qIK (l:List Pw) (hl:l.length≤1000000000):∃ v,Ev (λ m _=>qX m l) v∧ile 0 v=qlf l:=by
 have key:=qr (P := λ i=>∃ v,Ev (λ m k=>qw m k l l.length i) v∧ile 0 v=qlf (l.drop i)) l (by omega)
  (λ hc=>by
   refine ⟨-1,Ev.loop ?_,by rw [List.drop_length];rfl⟩
   simp only [yb,qQ]
   exact Ev.cf hc (Ev.pure _))
  (λ i p hx hd hc hg hi hP=>by
   obtain ⟨v,hv,hf⟩:=hP
   rw [hd,qwv]
   have hq:Ev (λ m _=>JI m (p.1,p.2)) (decide (p.2 < -1000)||decide (1000<p.2)):=by
    refine Ev.succ ?_
    simp only [qnU,qb9]
    refine Ev.ite (λ h=>?_) λ h=>?_
    ·rw [qs] at h
     exact Ev.ret (by rw [decide_eq_true h];rfl)
    ·rw [qx] at h
     exact Ev.ret (by rw [decide_eq_false (show ¬ p.2 < -1000 by omega)];rfl)
   cases hb:decide (p.2 < -1000)||decide (1000<p.2) with
   | true =>
     refine ⟨i,Ev.loop ?_,by rw [Bool.true_or,qeg];omega⟩
     simp only [yb,qQ,qe]
     exact Ev.ct hc (Ev.some hg (Ev.bind hq (Ev.ct hb (Ev.pure _))))
   | false =>
     refine ⟨v,Ev.loop ?_,by rw [Bool.false_or];exact hf⟩
     simp only [yb,qQ,qe]
     refine Ev.ct hc (Ev.some hg (Ev.bind hq (Ev.cf hb ?_)))
     rw [hi];exact hv)
 obtain ⟨v,hv,hf⟩:=key 0 (Nat.zero_le _)
 refine ⟨v,Ev.succ ?_,by rw [hf,List.drop_zero]⟩
 simp only [qaN,zp]
 exact Ev.diag (L := λ m k=>qw m k l l.length 0) hv
noncomputable def qnf (l:List Pw):List Pw × Int:=if qlf l then ([],7) else if 200<l.length then ([],3) else (l,0)
theorem qIP (l:List Pw) (hl:l.length≤1000000000):Ev (λ m _=>qaT m l) (qnf l):=by
 obtain ⟨v,hv,hf⟩:=qIK l hl
 refine Ev.succ ?_
 simp only [qpY,qdj]
 have hc:Ev (λ m _=>qP m l) (qlf l):=by
  refine Ev.succ ?_
  simp only [qai,zM]
  exact Ev.bind hv (Ev.ret hf)
 unfold qnf
 refine Ev.bind hc (Ev.ite (λ h=>?_) λ h=>?_)
 ·rw [if_pos h];exact Ev.pure _
 ·rw [if_neg (by rw [h];decide)]
  refine Ev.ite (λ h2=>?_) λ h2=>?_
  ·rw [qs] at h2
   rw [if_pos (by omega)];exact Ev.pure _
  ·rw [qx] at h2
   rw [if_neg (by omega)];exact Ev.pure _
theorem qEd (S:Nat):∀ l:List Pw,(∀ p∈l,size p.1≤S)→szP l≤l.length*S
 | [],_=>by simp [szP]
 | p::l,h=>by
   have h1:=qEd S l λ q hq=>h q (List.mem_cons_of_mem _ hq)
   have h2:=h p (List.mem_cons_self ..)
   rw [J7,List.length_cons,Nat.add_mul];omega
theorem qtu (a b:List Pw):qkb a b=if QD a≠0 then ([],QD a) else if QD b≠0 then ([],QD b) else qnf (Qp a b):=rfl
theorem qgj {a b:List Pw} (ha:QD a=0) (hb:QD b=0) (j:Nat) :
  Jc (Qp a (b.take j))∧(Qp a (b.take j)).length≤400∧szP (Qp a (b.take j))≤160000∧j7 (Qp a (b.take j))≤400000:=by
 obtain ⟨g1,l1,k1,v1⟩:=qaC ha
 obtain ⟨g2,l2,k2,v2⟩:=qaC hb
 have hm:∀ p∈b.take j,p∈b := λ p hp=>List.mem_of_mem_take hp
 obtain ⟨h1,h2,h3,h4⟩:=qDk ha hb 400 (λ p hp=>jU (v1 p hp).1) (λ p hp=>jU (v2 p hp).1) j
 have h5:=qEd 400 _ h4
 obtain ⟨h6,_⟩:=qrs (b.take j) a
 have h7:=qlr 1000 a k1
 have h8:=qlr 1000 (b.take j) λ p hp=>k2 p (hm p hp)
 have h9:(b.take j).length≤200:=by rw [List.length_take];omega
 refine ⟨qn6 _ _ g1 λ p hp=>g2.2 p (hm p hp),h2,Nat.le_trans h5 (Nat.mul_le_mul_right 400 h2),?_⟩
 have m1:a.length*1000≤200*1000:=Nat.mul_le_mul_right _ l1
 have m2:(b.take j).length*1000≤200*1000:=Nat.mul_le_mul_right _ h9
 omega
theorem qH2 (a b:List Pw) (ha:szP a≤100000000) (hb:szP b≤100000000):Ev (λ m _=>qdu m a b) (qkb a b):=by
 have hl:=qbx b
 refine Ev.succ ?_
 simp only [qvc,qcS]
 rw [qtu]
 refine Ev.bind (qot a (by omega)) (Ev.ite (λ h=>?_) λ h=>?_)
 ·rw [bnt,qh] at h
  rw [if_pos h];exact Ev.pure _
 rw [bnf,qj] at h
 rw [if_neg (by omega)]
 refine Ev.bind (qot b (by omega)) (Ev.ite (λ h2=>?_) λ h2=>?_)
 ·rw [bnt,qh] at h2
  rw [if_pos h2];exact Ev.pure _
 rw [bnf,qj] at h2
 rw [if_neg (by omega)]
 refine Ev.bind (qIF a ha) ?_
 have key:=qr (P := λ i=>Ev (λ m k=>Q7 m k b b.length i (Qp a (b.take i))) (qnf (Qp a b))) b (by omega)
  (λ hc=>by
   refine Ev.loop ?_
   simp only [qkK,qcM]
   rw [List.take_length]
   obtain ⟨_,b2,_,_⟩:=qgj h h2 b.length
   rw [List.take_length] at b2
   exact Ev.cf hc (Ev.bind (qIP _ (by omega)) (Ev.pure _)))
  (λ i p hx hd hc hg hi hP=>by
   refine Ev.loop ?_
   simp only [qkK,qcM,qe]
   have hm:=List.mem_of_getElem? hx
   obtain ⟨b1,b2,b3,b4⟩:=qgj h h2 i
   obtain ⟨_,_,hn,hv⟩:=qaC h2
   have hz:=jU (hv p hm).1
   have hnp:=hn p hm
   refine Ev.ct hc (Ev.some hg (Ev.bind (qsv b1.1 p.1 p.2 (by omega) (by omega) (by omega)) ?_))
   rw [hi]
   refine hP.congr λ m k=>?_
   rw [zQ hx,qvH])
 refine Ev.diag (L := λ m k=>Q7 m k b b.length 0 a) ?_
 exact key 0 (Nat.zero_le _)
end Go.AmYtbpnmbmdbblehaaGreat
namespace Go.AmYtbpnmbmdbblehaaGreat
open Go Go.GxYtbpnmbmdbblehaaGreat
theorem qyP (t:T):Ev (λ m _=>JB m t) (qbT t):=by
 refine Ev.succ ?_
 simp only [qtv,qe7]
 unfold qbT
 by_cases h3:t.kind=3
 ·refine Ev.ct (qj.2 h3) (Ev.ite (λ h=>?_) λ h=>(Ev.ite (λ h2=>?_) λ h2=>?_))
  ·rw [jb] at h
   exact Ev.ret (by rw [h3,h];rfl)
  ·rw [jb] at h2
   exact Ev.ret (by rw [h3,h2];rfl)
  ·rw [jr] at h h2
   exact Ev.ret (by
    have a1:(t.name==qeu)=false:=by rw [beq_eq_false_iff_ne];exact h
    have a2:(t.name==j9)=false:=by rw [beq_eq_false_iff_ne];exact h2
    rw [h3,a1,a2];rfl)
 ·exact Ev.cf (qh.2 h3) (Ev.ret (by have:(t.kind==3)=false:=by rw [beq_eq_false_iff_ne];exact h3
                                    rw [this];rfl))
theorem qEx (t:T):size t≤1000000000→Ev (λ m _=>yr m t) (arT t):=by
 induction t using T.ind with
 | h t ih =>
   intro hs
   have hl:=yH t
   refine Ev.succ ?_
   simp only [qwN,qdL,qe]
   refine Ev.bind (qyP t) (Ev.ite (λ h=>?_) λ h=>?_)
   ·rw [bnt] at h
    exact Ev.ret (by rw [qtg,h];rfl)
   rw [bnf] at h
   obtain ⟨h3,hname⟩:=qpu.1 h
   have har:arT t=(arK t&&(t.kids.map arT).all id):=by rw [qtg,h];rfl
   have loop:arK t=true→Ev (λ m _=>Qy m (yr m) m t.kids.length 0 t.kind t.name t.sort t.kids) (arT t):=by
    intro hk
    rw [har,hk,Bool.true_and]
    have key:=qr (P := λ i=>Ev (λ m k=>Qy m (yr m) k t.kids.length i t.kind t.name t.sort t.kids) (((t.kids.drop i).map arT).all id)) t.kids (by omega)
     (λ hc=>by
      refine Ev.loop ?_
      simp only [qlw,qdS]
      refine Ev.cf hc (Ev.ret ?_)
      rw [List.drop_length];rfl)
     (λ i x hx hd hc hg hi hP=>by
      refine Ev.loop ?_
      simp only [qlw,qdS,qe]
      have hm:=List.mem_of_getElem? hx
      have h1:=y9 t x hm
      rw [hd,List.map_cons,List.all_cons]
      refine Ev.ct hc (Ev.some hg (Ev.bind (ih x hm (by omega)) (Ev.ite (λ hb=>?_) λ hb=>?_)))
      ·rw [bnt] at hb
       rw [hb];exact Ev.pure _
      ·rw [bnf] at hb
       rw [hb,hi]
       exact hP)
    refine Ev.diag (L := λ m k=>Qy m (yr m) k t.kids.length 0 t.kind t.name t.sort t.kids) ?_
    exact (key 0 (Nat.zero_le _)).res (by rw [List.drop_zero])
   have bad:arK t=false→Ev (λ _ _=>some false) (arT t) := λ hk=>Ev.ret (by rw [har,hk];rfl)
   rcases hname with hn1 | hn1 | hn1
   ·refine Ev.ct (by rw [hn1];rfl) (Ev.ite (λ hk=>?_) λ hk=>?_)
    ·rw [qs] at hk
     exact bad (by unfold arK;rw [hn1,decide_eq_true (show t.kids.length<2 by omega)];rfl)
    ·rw [qx] at hk
     exact Ev.cf (by rw [hn1];rfl) (Ev.cf (by rw [hn1];rfl) (loop (by unfold arK;rw [hn1,decide_eq_false (show ¬ t.kids.length<2 by omega)];rfl)))
   ·refine Ev.cf (by rw [hn1];rfl) (Ev.ct (by rw [hn1];rfl) (Ev.ite (λ hk=>?_) λ hk=>?_))
    ·rw [bnt,qh] at hk
     exact bad (by unfold arK;rw [hn1,show (t.kids.length != 1)=true from by rw [bne_iff_ne];omega];rfl)
    ·rw [bnf,qj] at hk
     exact Ev.cf (by rw [hn1];rfl) (loop (by unfold arK;rw [hn1,show (t.kids.length != 1)=false from by rw [bne_eq_false_iff_eq];omega];rfl))
   ·refine Ev.cf (by rw [hn1];rfl) (Ev.cf (by rw [hn1];rfl) (Ev.ct (by rw [hn1];rfl) (Ev.ite (λ hk=>?_) λ hk=>?_)))
    ·rw [bnt,qh] at hk
     exact bad (by unfold arK;rw [hn1,show (t.kids.length != 0)=true from by rw [bne_iff_ne];omega];rfl)
    ·rw [bnf,qj] at hk
     exact loop (by unfold arK;rw [hn1,show (t.kids.length != 0)=false from by rw [bne_eq_false_iff_eq];omega];rfl)
theorem qvU (t:T) (n:Int):∀ (l:List Pw) (s:List Pw × Bool),(l.foldl (yB t n) s).1.length≤s.1.length+2*l.length
 | [],s=>by simp
 | x::l,s=>by
   have h:=qvU t n l (yB t n s x)
   have:(yB t n s x).1.length≤s.1.length+2:=by
    unfold yB
    simp only [List.length_append]
    have a:(if s.2=false∧qp t x.1<0 then s.1++[(t,n)] else s.1).length≤s.1.length+1:=by split<;>simp
    have b:(if (if qp t x.1=0 then x.2+n else x.2)=0 then ([]:List Pw) else [(x.1,if qp t x.1=0 then x.2+n else x.2)]).length≤1:=by generalize (if qp t x.1=0 then x.2+n else x.2)=z;split<;>simp
    omega
   rw [List.foldl_cons,List.length_cons];omega
theorem qBp {l:List Pw} (hg:Jc l) (t:T) (n:Int) (hs:szP l+size t≤1000000000) (hn:j7 l+n.natAbs≤1000000000000):Ev (λ m _=>qfA m l t n) ((),yf l t n,()):=by
 have hl:=qbx l
 refine Ev.succ ?_
 simp only [qAJ,qfF]
 have hlen:∀ i,((l.take i).foldl (yB t n) ([],false)).1.length≤2*l.length := λ i=>by
  have:=qvU t n (l.take i) ([],false)
  have h2:(l.take i).length≤l.length:=by rw [List.length_take];omega
  simp only [List.length_nil] at this;omega
 have key:=qr (P := λ i=>Ev (λ m k=>Jb m k n ((l.take i).foldl (yB t n) ([],false)).2 i t.kind t.name t.sort t.kids l ((l.take i).foldl (yB t n) ([],false)).1) ((),yf l t n,())) l (by omega)
  (λ hc=>by
   refine Ev.loop ?_
   simp only [qof,qfZ]
   refine Ev.cf hc ?_
   have:=hlen l.length
   have he:=qFM hg.2 hg.1 t n
   rw [List.take_length] at this ⊢
   unfold qCQ at he
   refine Ev.ite (λ h=>?_) λ h=>?_
   ·rw [bnt] at h
    rw [if_neg (by rw [h];decide)] at he
    rw [show T.mk t.kind t.name t.sort t.kids=t from qe t,he]
    exact Ev.ct (zf (by omega) (by omega)) (Ev.pure _)
   ·rw [bnf] at h
    rw [if_pos h] at he
    rw [he]
    exact Ev.pure _)
  (λ i p hx hd hc hgt hi hP=>by
   refine Ev.loop ?_
   simp only [qof,qfZ,qe]
   have hm:=List.mem_of_getElem? hx
   have h1:=qd7 hm
   have h2:=hlen i
   have h3:=qyT l p hm
   have hnz:=hg.2 p hm
   rw [zQ hx,List.foldl_append] at hP
   generalize (l.take i).foldl (yB t n) ([],false)=s at *
   have go:∀ (b:Bool) (o:List Pw),yB t n s p=(o,b)→Ev (λ m k=>Jb m k n b ((i+1:Nat):Int) t.kind t.name t.sort t.kids l o) ((),yf l t n,()) := λ b o e=>by
    have hP:Ev (λ m k=>Jb m k n (yB t n s p).2 ((i+1:Nat):Int) t.kind t.name t.sort t.kids l (yB t n s p).1) ((),yf l t n,()):=hP
    rw [e] at hP;exact hP
   have e1:iw .i64 (qi p.2 n)=p.2+n:=by unfold qi;exact Qq (by omega)
   rw [show T.mk t.kind t.name t.sort t.kids=t from qe t,hi]
   have hz0:qb (ieq p.2 0)=true:=bnt.2 (qh.2 hnz)
   refine Ev.ct hc (Ev.some hgt (Ev.bind (qhl t (by omega) p.1 (by omega)) (Ev.ite (λ h=>?_) λ h=>?_)))
   ·rw [bnt] at h
    refine Ev.ite (λ hc1=>?_) λ hc1=>?_
    ·rw [qs] at hc1
     refine Ev.ct (zf (by omega) (by omega)) (Ev.some hgt (Ev.cf (qh.2 (by omega)) (Ev.ct hz0 (Ev.ct (zf (by rw [List.length_append];simp only [List.length_cons,List.length_nil];omega) (by omega)) (go _ _ ?_)))))
     unfold yB
     rw [if_pos ⟨h,hc1⟩,if_neg (show ¬ qp t p.1=0 by omega),if_neg hnz,decide_eq_true (show qp t p.1≤0 by omega),Bool.or_true]
    ·rw [qx] at hc1
     refine Ev.some hgt (Ev.ite (λ hc2=>?_) λ hc2=>?_)
     ·rw [qj] at hc2
      refine Ev.ite (λ hz=>?_) λ hz=>?_
      ·rw [bnt,qh,e1] at hz
       refine Ev.ct (zf (by omega) (by omega)) (go _ _ ?_)
       rw [e1]
       unfold yB
       rw [if_neg (by omega),if_pos hc2,if_neg hz,decide_eq_true (show qp t p.1≤0 by omega),Bool.or_true]
      ·rw [bnf,qj,e1] at hz
       refine go _ _ ?_
       unfold yB
       rw [if_neg (by omega),if_pos hc2,if_pos hz,decide_eq_true (show qp t p.1≤0 by omega),Bool.or_true,List.append_nil]
     ·rw [qh] at hc2
      refine Ev.ct hz0 (Ev.ct (zf (by omega) (by omega)) (go _ _ ?_))
      unfold yB
      rw [if_neg (by omega),if_neg hc2,if_neg hnz,decide_eq_false (show ¬ qp t p.1≤0 by omega),Bool.or_false]
   ·rw [bnf] at h
    refine Ev.some hgt (Ev.ite (λ hc2=>?_) λ hc2=>?_)
    ·rw [qj] at hc2
     refine Ev.ite (λ hz=>?_) λ hz=>?_
     ·rw [bnt,qh,e1] at hz
      refine Ev.ct (zf (by omega) (by omega)) (go _ _ ?_)
      rw [e1]
      unfold yB
      rw [if_neg (by omega),if_pos hc2,if_neg hz,decide_eq_true (show qp t p.1≤0 by omega),Bool.or_true]
     ·rw [bnf,qj,e1] at hz
      refine go _ _ ?_
      unfold yB
      rw [if_neg (by omega),if_pos hc2,if_pos hz,decide_eq_true (show qp t p.1≤0 by omega),Bool.or_true,List.append_nil]
    ·rw [qh] at hc2
     refine Ev.ct hz0 (Ev.ct (zf (by omega) (by omega)) (go _ _ ?_))
     unfold yB
     rw [if_neg (by rw [h];intro hh;cases hh.1),if_neg hc2,if_neg hnz,h,Bool.true_or])
 refine Ev.diag (L := λ m k=>Jb m k n false 0 t.kind t.name t.sort t.kids l []) ?_
 exact key 0 (Nat.zero_le _)
theorem qAq (t:T):∀ (l:List Pw) (n:Int),n≠0→Jc l→szP l+size t≤80000000→j7 l+size t*n.natAbs≤100000000000→Ev (λ m _=>zH m l t n) ((),yS t l n,()):=by
 induction t using T.ind with
 | h t ih =>
   intro l n hn hg hs hb
   have hl:=yH t
   have hz:=qF t
   refine Ev.succ ?_
   simp only [qte,qbQ,qe]
   have hmul:n.natAbs≤size t*n.natAbs:=Nat.le_mul_of_pos_left _ (size_pos t)
   refine Ev.bind (qyP t) (Ev.ite (λ h=>?_) λ h=>?_)
   ·rw [bnt] at h
    refine Ev.bind (qBp hg t n (by omega) (by omega)) (Ev.ret ?_)
    rw [qfk,h];rfl
   rw [bnf] at h
   obtain ⟨h3,hname⟩:=qpu.1 h
   have loop:∀ sg:Int,sg≠0→sg.natAbs=n.natAbs→J9 t n=sg→Ev (λ m _=>jA m (zH m) m sg 0 t.kind t.name t.sort t.kids l) ((),yS t l n,()):=by
    intro sg hsg hab hsn
    have hcol:yS t l n=qem t.kids sg l t.kids.length:=by rw [qfk,h,if_pos rfl,hsn];unfold qem;rw [List.take_length]
    rw [hcol]
    have key:=qr (P := λ i=>Ev (λ m k=>jA m (zH m) k sg i t.kind t.name t.sort t.kids (qem t.kids sg l i)) ((),qem t.kids sg l t.kids.length,())) t.kids (by omega)
     (λ hc=>by
      refine Ev.loop ?_
      simp only [qjI,qbM]
      exact Ev.cf hc (Ev.pure _))
     (λ i x hx hd hc hgt hi hP=>by
      refine Ev.loop ?_
      simp only [qjI,qbM,qe]
      have hm:=List.mem_of_getElem? hx
      have h1:=y9 t x hm
      obtain ⟨f1,f2,f3,f4⟩:=qmC sg hsg (t.kids.take i) l hg
      have h5:=jE hx
      have h6:szL t.kids+1=size t:=by unfold szL;omega
      have h7:szL (t.kids.take i)*sg.natAbs+size x*sg.natAbs≤size t*n.natAbs:=by
       rw [← Nat.add_mul,hab]
       exact Nat.mul_le_mul_right _ (by omega)
      refine Ev.ct hc (Ev.some hgt (Ev.bind (ih x hm (qem t.kids sg l i) sg hsg f1 (by unfold qem;omega) (by unfold qem;omega)) ?_))
      rw [hi]
      refine hP.congr λ m k=>?_
      rw [qws hx])
    refine Ev.diag (L := λ m k=>jA m (zH m) k sg 0 t.kind t.name t.sort t.kids l) ?_
    exact key 0 (Nat.zero_le _)
   have hneg:iw .i64 (QC 0 n)=-n:=by
    unfold QC
    rw [Qq (by omega)];omega
   refine Ev.ite (λ hk=>?_) λ hk=>?_
   ·rw [jb] at hk
    rw [hneg]
    exact loop (-n) (by omega) (by omega) (by unfold J9;rw [if_pos (show t.name=j9 from hk)])
   ·rw [jr] at hk
    exact loop n hn rfl (by unfold J9;rw [if_neg (show ¬ t.name=j9 from hk)])
theorem qyq (t:T) (hs:size t≤1000000000):Ev (λ m _=>qe8 m t) (ofP t):=by
 refine Ev.succ ?_
 simp only [qDy,qle,qe]
 unfold ofP
 refine Ev.bind (qaO t hs) (Ev.ite (λ h=>?_) λ h=>?_)
 ·rw [bnt,qh] at h
  rw [if_pos h];exact Ev.pure _
 ·rw [bnf,qj] at h
  have hz:=jU h
  rw [if_neg (by omega)]
  refine Ev.bind (qEx t hs) (Ev.ite (λ h1=>?_) λ h1=>?_)
  ·rw [bnt] at h1
   rw [if_pos h1];exact Ev.pure _
  ·rw [bnf] at h1
   rw [if_neg (by rw [h1];decide)]
   refine Ev.bind (qAq t [] 1 (by decide) Jc.nil (by show 0+_≤_;omega) (by show 0+size t*1≤_;omega)) (Ev.ite (λ h2=>?_) λ h2=>?_)
   ·rw [qs] at h2
    have h2:(200:Int)<((yS t [] 1).length:Int):=h2
    rw [if_pos (by omega)];exact Ev.pure _
   ·rw [qx] at h2
    have h2:((yS t [] 1).length:Int)≤200:=h2
    rw [if_neg (by omega)];exact Ev.pure _
theorem qqS (l:List Pw) (hs:szP l≤1000000000):Ev (λ m _=>qaV m l) (QD l):=by
 have hl:=qbx l
 refine Ev.succ ?_
 simp only [qxd,qeb]
 unfold QD
 refine Ev.ite (λ h=>?_) λ h=>?_
 ·rw [qs] at h
  rw [if_pos (by omega)];exact Ev.pure _
 rw [qx] at h
 rw [if_neg (by omega)]
 have key:=qr (P := λ i=>Ev (λ m k=>Qz m k l i) (pvL (qcL l i) (l.drop i))) l (by omega)
  (λ hc=>by
   refine Ev.loop ?_
   simp only [qlI,qdX]
   refine Ev.cf hc (Ev.ret ?_)
   rw [List.drop_length];rfl)
  (λ i x hx hd hc hg hi hP=>by
   refine Ev.loop ?_
   simp only [qlI,qdX,qe]
   have h1:=qd7 (List.mem_of_getElem? hx)
   rw [qiX hx] at hP
   rw [hd,pvL]
   have hk:=qyx (qcL l i) x
   have bad:∀ e:Int,pvK (qcL l i) x=e→e≠0→Ev (λ _ _=>some e) (thn (pvK (qcL l i) x) (pvL (some x.1) (l.drop (i+1)))) := λ e he h0=>by
    rw [he]
    exact Ev.ret (by unfold thn;rw [if_neg h0])
   have good:pvK (qcL l i) x=0→Ev (λ m k=>Qz m k l ((i+1:Nat):Int)) (thn (pvK (qcL l i) x) (pvL (some x.1) (l.drop (i+1)))) := λ he=>by
    rw [he]
    exact hP.res (by unfold thn;rw [if_pos rfl])
   refine Ev.ct hc (Ev.some hg (Ev.bind (qaO x.1 (by omega)) (Ev.ite (λ hv=>?_) λ hv=>?_)))
   ·rw [bnt,qh] at hv
    exact bad _ (by rw [hk,if_pos hv]) hv
   rw [bnf,qj] at hv
   rw [if_neg (by omega)] at hk
   refine Ev.some hg (Ev.bind (qyP x.1) (Ev.ite (λ hv2=>?_) λ hv2=>?_))
   ·exact bad 1 (by rw [hk,if_pos hv2]) (by decide)
   rw [if_neg (by rw [hv2];decide)] at hk
   refine Ev.some hg (Ev.ite (λ hz=>?_) λ hz=>?_)
   ·rw [qj] at hz
    exact bad 7 (by rw [hk,if_pos (by omega)]) (by decide)
   rw [qh] at hz
   refine Ev.some hg (Ev.ite (λ hz2=>?_) λ hz2=>?_)
   ·rw [qs] at hz2
    exact bad 7 (by rw [hk,if_pos (by omega)]) (by decide)
   rw [qx] at hz2
   refine Ev.some hg (Ev.ite (λ hz3=>?_) λ hz3=>?_)
   ·rw [qs] at hz3
    exact bad 7 (by rw [hk,if_pos (by omega)]) (by decide)
   rw [qx] at hz3
   rw [if_neg (by omega)] at hk
   rw [hi]
   refine Ev.ite (λ h0=>?_) λ h0=>?_
   ·rw [qs] at h0
    obtain ⟨j,rfl⟩:∃ j,i=j+1:=⟨i-1,by omega⟩
    have hlt:j<l.length:=by have:=(List.getElem?_eq_some_iff.1 hx).1;omega
    obtain ⟨q,hq⟩:∃ q,l[j]? = some q:=⟨_,List.getElem?_eq_getElem hlt⟩
    have h2:=qd7 (List.mem_of_getElem? hq)
    rw [qiX hq] at hk bad good ⊢
    simp only at hk
    refine Ev.some (a:=q) (by rw [show QC ((j+1:Nat):Int) 1=((j:Nat):Int) from by unfold QC;omega,Qq (by omega),jN,hq]) (Ev.some hg (Ev.bind (qhl q.1 (by omega) x.1 (by omega)) (Ev.ite (λ hc2=>?_) λ hc2=>?_)))
    ·rw [qeg] at hc2
     exact bad 5 (by rw [hk,if_pos hc2]) (by decide)
    ·rw [qkt] at hc2
     exact good (by rw [hk,if_neg (by omega)])
   ·rw [qx] at h0
    have:i=0:=by omega
    subst this
    exact good (by rw [hk];rfl))
 refine Ev.diag (L := λ m k=>Qz m k l 0) ?_
 exact key 0 (Nat.zero_le _)
end Go.AmYtbpnmbmdbblehaaGreat
namespace Go.AmYtbpnmbmdbblehaaGreat
open Go Go.GxYtbpnmbmdbblehaaGreat
theorem qsY (A:List T) (x:T) (h:(A.take 9).length<9):A.take 9++[x]=(A++[x]).take 9:=by
 rw [List.length_take] at h
 rw [List.take_of_length_le (by omega),List.take_of_length_le (by rw [List.length_append];simp only [List.length_cons,List.length_nil];omega)]
theorem qsM (A B:List T) (h:¬ (A.take 9).length<9):A.take 9=(A++B).take 9:=by
 rw [List.length_take] at h
 rw [List.take_append_of_le_length (by omega)]
theorem qHr (l:List Pw) (hl:l.length≤1000) (hn:∀ p∈l,p.2.natAbs≤1000):Ev (λ m _=>qbF m l) ((zL l++zS l).take 9):=by
 refine Ev.succ ?_
 simp only [qq7,qbn]
 have l9:∀ A:List T,(A.take 9).length≤9 := λ A=>by rw [List.length_take];omega
 have k3:=qr (P := λ i=>Ev (λ m k=>(qk m k).2.2.1 l i ((zL l++zS (l.take i)).take 9)) ((zL l++zS l).take 9)) l (by omega)
  (λ hc=>by
   refine Ev.loop ?_
   simp only [qii,qbf]
   refine Ev.cf hc ?_
   rw [List.take_length];exact Ev.pure _)
  (λ i p hx hd hc hg hi hP=>by
   refine Ev.loop ?_
   simp only [qii,qbf]
   refine Ev.ct hc ?_
   have hnp:=hn p (List.mem_of_getElem? hx)
   rw [zQ hx,qqW,qqY,← List.append_assoc] at hP
   generalize zL l++zS (l.take i)=A at *
   have hneg:iw .i64 (QC 0 p.2)=-p.2:=by unfold QC;rw [Qq (by omega)];omega
   have k4:=qml (P := λ j=>Ev (λ m k=>(qk m k).2.2.2 l i j ((A++List.replicate j (apT j9 [p.1])).take 9)) ((zL l++zS l).take 9)) (-p.2) (by omega)
    (by
     refine Ev.loop ?_
     simp only [qim,qbl,qe]
     refine Ev.some hg (Ev.cf (by rw [hneg,qx];omega) ?_)
     rw [hi]
     exact hP)
    (λ j hj hji hPj=>by
     refine Ev.loop ?_
     simp only [qim,qbl,qe]
     rw [List.replicate_succ',← List.append_assoc] at hPj
     have h9:=l9 (A++List.replicate j (apT j9 [p.1]))
     refine Ev.some hg (Ev.ct (by rw [hneg,qs];exact hj) (Ev.ite (λ h=>?_) λ h=>?_))
     ·rw [qs] at h
      refine Ev.some hg (Ev.bind (Ju [105,110,118] [p.1] (by simp)) (Ev.ct (zf (by omega) (by omega)) ?_))
      rw [hji]
      refine hPj.congr λ m k=>?_
      rw [← qsY _ _ (by omega)];rfl
     ·rw [qx] at h
      rw [hi]
      refine hP.congr λ m k=>?_
      obtain ⟨d,hd2⟩:∃ d,(-p.2).toNat=j+d:=⟨(-p.2).toNat-j,by omega⟩
      rw [hd2,← List.replicate_append_replicate,← List.append_assoc,← qsM (A++List.replicate j (apT j9 [p.1])) _ (by omega)])
   have:=k4 0 (Nat.zero_le _)
   rw [List.replicate_zero,List.append_nil] at this
   exact this)
 have k1:=qr (P := λ i=>Ev (λ m k=>(qk m k).1 l i ((zL (l.take i)).take 9)) ((zL l++zS l).take 9)) l (by omega)
  (λ hc=>by
   refine Ev.loop ?_
   simp only [qij,qbe]
   refine Ev.cf hc ?_
   rw [List.take_length]
   have:=k3 0 (Nat.zero_le _)
   rw [List.take_zero,show zS []=[] from rfl,List.append_nil] at this
   exact this)
  (λ i p hx hd hc hg hi hP=>by
   refine Ev.loop ?_
   simp only [qij,qbe]
   refine Ev.ct hc ?_
   have hnp:=hn p (List.mem_of_getElem? hx)
   rw [zQ hx,qrt,qq9] at hP
   generalize zL (l.take i)=A at *
   have k2:=qml (P := λ j=>Ev (λ m k=>(qk m k).2.1 l i j ((A++List.replicate j p.1).take 9)) ((zL l++zS l).take 9)) p.2 (by omega)
    (by
     refine Ev.loop ?_
     simp only [qip,qbd,qe]
     refine Ev.some hg (Ev.cf (by rw [qx];omega) ?_)
     rw [hi]
     exact hP)
    (λ j hj hji hPj=>by
     refine Ev.loop ?_
     simp only [qip,qbd,qe]
     rw [List.replicate_succ',← List.append_assoc] at hPj
     have h9:=l9 (A++List.replicate j p.1)
     refine Ev.some hg (Ev.ct (by rw [qs];exact hj) (Ev.ite (λ h=>?_) λ h=>?_))
     ·rw [qs] at h
      refine Ev.some hg (Ev.ct (zf (by omega) (by omega)) ?_)
      rw [hji]
      refine hPj.congr λ m k=>?_
      rw [← qsY _ _ (by omega)]
     ·rw [qx] at h
      rw [hi]
      refine hP.congr λ m k=>?_
      obtain ⟨d,hd2⟩:∃ d,p.2.toNat=j+d:=⟨p.2.toNat-j,by omega⟩
      rw [hd2,← List.replicate_append_replicate,← List.append_assoc,← qsM (A++List.replicate j p.1) _ (by omega)])
   have:=k2 0 (Nat.zero_le _)
   rw [List.replicate_zero,List.append_nil] at this
   exact this)
 refine Ev.diag (L := λ m k=>(qk m k).1 l 0 []) ?_
 exact k1 0 (Nat.zero_le _)
theorem qII (S:Nat):∀ l:List Pw,(∀ p∈l,size p.1≤S)→(∀ x∈zL l,size x≤S)∧∀ x∈zS l,size x≤1+S:=by
 intro l h
 refine ⟨λ x hx=>?_,λ x hx=>?_⟩
 ·unfold zL at hx
  obtain ⟨p,hp,hx⟩:=List.mem_flatMap.1 hx
  rw [List.eq_of_mem_replicate hx];exact h p hp
 ·unfold zS at hx
  obtain ⟨p,hp,hx⟩:=List.mem_flatMap.1 hx
  rw [List.eq_of_mem_replicate hx,qyU]
  have:=h p hp;omega
theorem qE2 (S:Nat):∀ l:List T,(∀ x∈l,size x≤S)→szL l≤l.length*S
 | [],_=>by simp [szL]
 | x::l,h=>by
   have h1:=qE2 S l λ q hq=>h q (List.mem_cons_of_mem _ hq)
   have h2:=h x (List.mem_cons_self ..)
   rw [qK,List.length_cons,Nat.add_mul];omega
theorem qzK (l:List Pw) (hs:szP l≤1000000000):Ev (λ m _=>qaD m l) (qam l):=by
 refine Ev.succ ?_
 simp only [qyN,qhX,qe]
 refine Ev.bind (qqS l hs) (Ev.ite (λ h=>?_) λ h=>?_)
 ·rw [bnt,qh] at h
  unfold qam
  rw [if_pos h];exact Ev.pure _
 rw [bnf,qj] at h
 obtain ⟨_,hlen,hN,hV⟩:=qaC h
 have hsz:∀ p∈l,size p.1≤400 := λ p hp=>jU (hV p hp).1
 rw [qor h]
 obtain ⟨s1,s2⟩:=qII 400 l hsz
 have hall:∀ x∈zL l++zS l,size x≤401 := λ x hx=>by
  rcases List.mem_append.1 hx with hx | hx
  ·have:=s1 x hx;omega
  ·exact s2 x hx
 refine Ev.bind (qHr l (by omega) hN) ?_
 generalize zL l++zS l=A at *
 unfold qld
 refine Ev.ite (λ h8=>?_) λ h8=>?_
 ·rw [qs,List.length_take] at h8
  rw [if_pos (by omega)];exact Ev.pure _
 rw [qx,List.length_take] at h8
 rw [if_neg (by omega),List.take_of_length_le (by omega)]
 have ho:=qE2 401 A hall
 have hoz:=qBU A
 have hm:A.length*401≤8*401:=Nat.mul_le_mul_right _ (by omega)
 have fin:∀ u:T,u=Jj A→Ev (λ m _=>qa (zJ m u) λ v=>cond (qb (ieq v 0)) (some (T.mk 0 [] 0 [],v)) (some (u,0))) (if qu (Jj A)≠0 then (zT,qu (Jj A)) else (Jj A,0)):=by
  intro u hu
  subst hu
  refine Ev.bind (qaO _ (by omega)) (Ev.ite (λ h=>?_) λ h=>?_)
  ·rw [bnt,qh] at h
   rw [if_pos h];exact Ev.pure _
  ·rw [bnf,qj] at h
   rw [if_neg (by omega)];exact Ev.pure _
 refine Ev.bind (Ju [109,117,108] A (by omega)) (Ev.ite (λ h0=>?_) λ h0=>?_)
 ·rw [qj] at h0
  refine Ev.bind (Ju [111,110,101] [] (by simp)) (Ev.cf (qh.2 (by omega)) (fin _ (by unfold Jj;rw [if_pos (by omega)];rfl)))
 ·rw [qh] at h0
  refine Ev.ite (λ h1=>?_) λ h1=>?_
  ·rw [qj] at h1
   refine Ev.some (a:=A.getD 0 zT) ?_ (fin _ (by unfold Jj;rw [if_neg (by omega),if_pos (by omega)]))
   rw [Jm,List.getD_eq_getElem?_getD]
   cases A with
   | nil=>simp at h1
   | cons x r=>rfl
  ·rw [qh] at h1
   exact fin _ (by unfold Jj;rw [if_neg (by omega),if_neg (by omega)];rfl)
theorem qEu (l:List Pw) (hl:l.length≤1000000000):Ev (λ m _=>qco m l) (if qlf l then 7 else if 200<l.length then 3 else 0):=by
 refine Ev.succ ?_
 simp only [qsd,qcg]
 have key:=qr (P := λ i=>Ev (λ m k=>Qd m k l i) (if qlf (l.drop i) then (7:Int) else if 200<l.length then 3 else 0)) l (by omega)
  (λ hc=>by
   refine Ev.loop ?_
   simp only [qjs,qb8]
   rw [List.drop_length,if_neg (by decide)]
   refine Ev.cf hc (Ev.ite (λ h=>?_) λ h=>?_)
   ·rw [qs] at h
    rw [if_pos (by omega)];exact Ev.pure _
   ·rw [qx] at h
    rw [if_neg (by omega)];exact Ev.pure _)
  (λ i p hx hd hc hg hi hP=>by
   refine Ev.loop ?_
   simp only [qjs,qb8]
   rw [hd,qwv]
   refine Ev.ct hc (Ev.some hg (Ev.ite (λ h=>?_) λ h=>?_))
   ·rw [qs] at h
    rw [decide_eq_true h,Bool.true_or,Bool.true_or,if_pos rfl];exact Ev.pure _
   ·rw [qx] at h
    rw [decide_eq_false (show ¬ p.2 < -1000 by omega),Bool.false_or]
    refine Ev.some hg (Ev.ite (λ h2=>?_) λ h2=>?_)
    ·rw [qs] at h2
     rw [decide_eq_true h2,Bool.true_or,if_pos rfl];exact Ev.pure _
    ·rw [qx] at h2
     rw [decide_eq_false (show ¬ 1000<p.2 by omega),Bool.false_or,hi]
     exact hP)
 refine Ev.diag (L := λ m k=>Qd m k l 0) ?_
 exact (key 0 (Nat.zero_le _)).res (by rw [List.drop_zero])
theorem qHS (a b:List Pw) (ha:szP a≤100000000) (hb:szP b≤100000000):Ev (λ m _=>qhB m a b) (qkb a b):=by
 have hl:=qbx b
 have hla:=qbx a
 refine Ev.succ ?_
 simp only [qAA,qgn]
 rw [qtu]
 refine Ev.bind (qqS a (by omega)) (Ev.ite (λ h=>?_) λ h=>?_)
 ·rw [bnt,qh] at h
  rw [if_pos h];exact Ev.pure _
 rw [bnf,qj] at h
 rw [if_neg (by omega)]
 refine Ev.bind (qqS b (by omega)) (Ev.ite (λ h2=>?_) λ h2=>?_)
 ·rw [bnt,qh] at h2
  rw [if_pos h2];exact Ev.pure _
 rw [bnf,qj] at h2
 rw [if_neg (by omega)]
 have key:=qr (P := λ i=>Ev (λ m k=>JW m k b i (Qp a (b.take i))) (qnf (Qp a b))) b (by omega)
  (λ hc=>by
   refine Ev.loop ?_
   simp only [qn5,qfT]
   rw [List.take_length]
   obtain ⟨_,b2,_,_⟩:=qgj h h2 b.length
   rw [List.take_length] at b2
   refine Ev.cf hc (Ev.bind (qEu _ (by omega)) ?_)
   unfold qnf
   by_cases hf:qlf (Qp a b)=true
   ·rw [if_pos hf,if_pos hf]
    exact Ev.ct rfl (Ev.pure _)
   ·rw [if_neg hf,if_neg hf]
    by_cases h200:200<(Qp a b).length
    ·rw [if_pos h200,if_pos h200]
     exact Ev.ct rfl (Ev.pure _)
    ·rw [if_neg h200,if_neg h200]
     exact Ev.cf rfl (Ev.pure _))
  (λ i p hx hd hc hg hi hP=>by
   refine Ev.loop ?_
   simp only [qn5,qfT,qe]
   have hm:=List.mem_of_getElem? hx
   obtain ⟨b1,b2,b3,b4⟩:=qgj h h2 i
   obtain ⟨_,_,hn,hv⟩:=qaC h2
   have hz:=jU (hv p hm).1
   have hnp:=hn p hm
   refine Ev.ct hc (Ev.some hg (Ev.some hg (Ev.bind (qBp b1 p.1 p.2 (by omega) (by omega)) ?_)))
   rw [hi]
   refine hP.congr λ m k=>?_
   rw [zQ hx,qvH])
 refine Ev.ct (zf (by simp only [List.length_nil];omega) (by omega)) ?_
 have main:Ev (λ m _=>JW m m b 0 a) (qnf (Qp a b)):=Ev.diag (L := λ m k=>JW m k b 0 a) (key 0 (Nat.zero_le _))
 exact Ev.case (λ h=>by rw [h] at main ⊢;exact main) λ x r h=>by rw [h] at main ⊢;exact main
end Go.AmYtbpnmbmdbblehaaGreat
namespace Go.AmYtbpnmbmdbblehaaGreat
open Go Go.GxYtbpnmbmdbblehaaGreat Go.Lib
theorem qkU {t:T} (h:qhg t=0):qu t=0∧qZ t=0:=by
 unfold qhg at h
 exact qfc h
theorem qmF {t:T} (h:qZ t=0) {n:List UInt8} (hn:isN t n=true) {a b c:Int} (hs:qB n=(a,b,c)):a≤(t.kids.length:Int)∧(t.kids.length:Int)≤b∧∀ k∈t.kids,qZ k=0:=by
 obtain ⟨h3,rfl⟩:=yu.1 hn
 obtain ⟨h1,h2⟩:=qfl h3 h
 obtain ⟨_,g1,g2,_⟩:=qz6 h3 h1
 rw [hs] at g1 g2
 exact ⟨g1,g2,h2⟩
end Go.AmYtbpnmbmdbblehaaGreat
namespace Go.AmYtbpnmbmdbblehaaGreat
open Go Go.GxYtbpnmbmdbblehaaGreat
def Cl (P:T→Prop):Prop:=∀ t:T,t.kind=3→P t→∀ k∈t.kids,P k
theorem qko:∀ (n:Nat) (a b:List T),a.length+b.length≤n→∀ x∈zh a b,x∈a∨x∈b
 | _,[],b,_,x,h=>by rw [zh] at h;exact .inr h
 | _,z::a,[],_,x,h=>by rw [zh] at h;exact .inl h
 | 0,z::a,y::b,hn,x,h=>by simp at hn
 | n+1,z::a,y::b,hn,x,h=>by
   simp only [List.length_cons] at hn
   rw [zh] at h
   split at h
   ·rcases List.mem_cons.1 h with rfl | h
    ·exact .inl (List.mem_cons_self ..)
    ·rcases qko n a (y::b) (by simp;omega) x h with h | h
     ·exact .inl (List.mem_cons_of_mem _ h)
     ·exact .inr h
   ·split at h
    ·rcases List.mem_cons.1 h with rfl | h
     ·exact .inr (List.mem_cons_self ..)
     ·rcases qko n (z::a) b (by simp;omega) x h with h | h
      ·exact .inl h
      ·exact .inr (List.mem_cons_of_mem _ h)
    ·rcases qko n a b (by omega) x h with h | h
     ·exact .inl (List.mem_cons_of_mem _ h)
     ·exact .inr (List.mem_cons_of_mem _ h)
theorem qj5:∀ (ls:List (List T)) (a:List T),∀ x∈ls.foldl zh a,x∈a∨∃ l∈ls,x∈l
 | [],a,x,h => .inl h
 | l::ls,a,x,h=>by
   rcases qj5 ls (zh a l) x h with h | ⟨m,hm,h⟩
   ·rcases qko _ a l (Nat.le_refl _) x h with h | h
    ·exact .inl h
    ·exact .inr ⟨l,List.mem_cons_self ..,h⟩
   ·exact .inr ⟨m,List.mem_cons_of_mem _ hm,h⟩
theorem qGo {P:T→Prop} (hP:Cl P) (t:T):P t→∀ x∈jt t,P x:=by
 refine T.ind (P := λ t=>P t→∀ x∈jt t,P x) ?_ t
 intro t ih ht x hx
 rw [qj2] at hx
 split at hx
 ·cases hx
 ·split at hx
  ·rename_i hn
   rcases qj5 _ _ x hx with h | ⟨l,hl,h⟩
   ·cases h
   ·obtain ⟨k,hk,rfl⟩:=List.mem_map.1 hl
    exact ih k hk (hP t (yu.1 hn).1 ht k hk) x h
  ·rw [List.mem_singleton.1 hx];exact ht
theorem qwn {P:T→Prop} (hP:Cl P) {l:List T} (h:∀ k∈l,P k):∀ x∈zD l,P x:=by
 intro x hx
 rcases qj5 _ _ x hx with h1 | ⟨m,hm,h1⟩
 ·cases h1
 ·obtain ⟨k,hk,rfl⟩:=List.mem_map.1 hm
  exact qGo hP k (h k hk) x h1
theorem qIG {P:T→Prop} {l:List Pw} {t:T} (n:Int) (ht:P t) (hl:∀ p∈l,P p.1):∀ p∈yf l t n,P p.1:=by
 intro p hp
 rcases qme l t n p hp with h | h
 ·rw [h];exact ht
 ·exact hl p h
theorem qIj {P:T→Prop} (hP:Cl P) (t:T):P t→∀ (l:List Pw) (n:Int),(∀ p∈l,P p.1)→∀ p∈yS t l n,P p.1:=by
 refine T.ind (P := λ t=>P t→∀ (l:List Pw) (n:Int),(∀ p∈l,P p.1)→∀ p∈yS t l n,P p.1) ?_ t
 intro t ih ht l n hl
 rw [qfk]
 split
 ·rename_i hs
  have h3:=(qpu.1 hs).1
  exact qBD t.kids (J9 t n) (λ l=>∀ p∈l,P p.1) (λ k hk l hl=>ih k hk (hP t h3 ht k hk) l _ hl) l hl
 ·exact qIG n ht hl
theorem qhC {P:T→Prop} (hP:Cl P) {t:T} (ht:P t):∀ p∈(ofP t).1,P p.1:=by
 intro p hp
 unfold ofP at hp
 split at hp
 ·cases hp
 ·split at hp
  ·cases hp
  ·split at hp
   ·cases hp
   ·exact qIj hP t ht [] 1 (λ _ h=>by cases h) p hp
theorem qBt {P:T→Prop} {a b:List Pw} (ha:∀ p∈a,P p.1) (hb:∀ p∈b,P p.1):∀ p∈(qkb a b).1,P p.1:=by
 intro p hp
 unfold qkb at hp
 split at hp
 ·cases hp
 ·split at hp
  ·cases hp
  ·split at hp
   ·cases hp
   ·split at hp
    ·cases hp
    ·rcases qq1 b a p hp with ⟨q,hq,e⟩ | ⟨q,hq,e⟩
     ·rw [← e];exact ha q hq
     ·rw [← e];exact hb q hq
theorem qzm {l:List Pw} {x:T} (h:x∈zL l):∃ p∈l,x=p.1:=by
 unfold zL at h
 obtain ⟨p,hp,h⟩:=List.mem_flatMap.1 h
 exact ⟨p,hp,List.eq_of_mem_replicate h⟩
theorem qzo {l:List Pw} {x:T} (h:x∈zS l):∃ p∈l,x=apT j9 [p.1]:=by
 unfold zS at h
 obtain ⟨p,hp,h⟩:=List.mem_flatMap.1 h
 exact ⟨p,hp,List.eq_of_mem_replicate h⟩
theorem Ji:Cl λ t=>qZ t=0 := λ t h3 h=>(qfl h3 h).2
theorem qjj:∀ (l:List Int),(∀ y∈l,y=0)→l.foldl thn 0=0
 | [],_=>rfl
 | z::l,h=>by
   rw [jO,h z (List.mem_cons_self ..)]
   exact qjj l λ y hy=>h y (List.mem_cons_of_mem _ hy)
theorem qf4 {t:T} (h:qas t=0) (hk:∀ k∈t.kids,qZ k=0):qZ t=0:=by
 rw [qi8]
 split
 ·rfl
 ·rw [h]
  refine qjj _ λ y hy=>?_
  obtain ⟨k,hk',rfl⟩:=List.mem_map.1 hy
  exact hk k hk'
theorem qce {n:List UInt8} {ks:List T} (h1:(qB n).2.2≠0) (h2:(qB n).1≤(ks.length:Int)) (h3:(ks.length:Int)≤(qB n).2.1) (h4:JU (apT n ks)=false):qas (apT n ks)=0:=by
 unfold qas
 show (if (3:Int)≠3 then (0:Int) else if (qB n).2.2=0 then 10 else if (ks.length:Int)<(qB n).1∨(qB n).2.1<(ks.length:Int) then 6 else if JU (apT n ks) then 10 else 0)=0
 rw [if_neg (by decide),if_neg h1,if_neg (by omega),h4];rfl
theorem qfx {n:List UInt8} (h1:n≠qg7) (h2:n≠nSk) (h3:n≠qru) (ks:List T):JU (apT n ks)=false:=by
 unfold JU
 rw [if_neg (show ¬ (apT n ks).name=qg7 from h1),if_neg (show ¬ ((apT n ks).name=nSk∨(apT n ks).name=qru) from λ h=>h.elim h2 h3)]
theorem qaM:qZ zT=0:=by rw [qi8];rfl
theorem qac {P:T→Prop} (hP:Cl P) (hz:P zT) {t:T} (h3:t.kind=3) (ht:P t) (i:Nat):P (kid t i):=by
 by_cases h:i<t.kids.length
 ·exact hP t h3 ht _ (qB7 h)
 ·unfold kid
  rw [List.getD_eq_getElem?_getD,List.getElem?_eq_none (by omega)];exact hz
theorem qpN {P:T→Prop} (hz:P zT) {l:List T} (h:∀ x∈l,P x):P (l.getD 0 zT):=by
 cases l with
 | nil=>exact hz
 | cons x r=>exact h x (List.mem_cons_self ..)
theorem qEo {t:T} (h3:t.kind=3) (h:qu t=0):t.kids.length≤8:=by
 unfold qu at h
 split at h
 ·rename_i h1;exact absurd h h1
 ·rename_i h1
  have h2:=(qk6 (t:=t) (by omega)).1
  unfold Qm qkY at h2
  rw [if_neg (by omega),if_pos h3] at h2
  split at h2
  ·cases h2
  ·split at h2
   ·split at h2
    ·cases h2
    ·omega
   ·cases h2
theorem qvI {l:List Pw} (hl:∀ p∈l,qZ p.1=0) (h:(qam l).2=0):qZ (qam l).1=0:=by
 by_cases hp:QD l=0
 ·rw [qor hp] at h ⊢
  unfold qld at h ⊢
  by_cases h8:8<(zL l++zS l).length
  ·rw [if_pos h8] at h;cases h
  rw [if_neg h8] at h ⊢
  by_cases hv:qu (Jj (zL l++zS l))=0
  ·rw [if_neg (by omega)]
   have hall:∀ x∈zL l++zS l,qZ x=0 := λ x hx=>by
    rcases List.mem_append.1 hx with hx | hx
    ·obtain ⟨p,hp,rfl⟩:=qzm hx
     exact hl p hp
    ·obtain ⟨p,hp,rfl⟩:=qzo hx
     exact qf4 (qce (by decide) (by show (1:Int)≤1;decide) (by show (1:Int)≤1;decide) (qfx (by decide) (by decide) (by decide) _)) λ k hk=>by rw [List.mem_singleton.1 hk];exact hl p hp
   generalize zL l++zS l=o at *
   unfold Jj
   split
   ·exact qf4 (qce (by decide) (by show (0:Int)≤0;decide) (by show (0:Int)≤0;decide) (qfx (by decide) (by decide) (by decide) _)) λ k hk=>by cases hk
   ·split
    ·exact qpN (P := λ t=>qZ t=0) qaM hall
    ·rename_i h0 h1
     exact qf4 (qce (by decide) (by show (2:Int)≤_;omega) (by show _≤(8:Int);omega) (qfx (by decide) (by decide) (by decide) _)) hall
  ·rw [if_pos hv] at h;exact absurd h hv
 ·unfold qam at h
  rw [if_pos hp] at h
  exact absurd h hp
theorem qyF {b:T} {l:List Pw} (hb:qZ b=0) (hl:∀ p∈l,qZ p.1=0) (h:(qgL b l).2=0):qZ (qgL b l).1=0:=by
 unfold qgL at h ⊢
 split at h
 ·rename_i h0;rw [if_pos h0];exact hb
 ·rename_i h0
  rw [if_neg h0]
  split at h
  ·rename_i h1;exact absurd h h1
  ·rename_i h1
   rw [if_neg h1]
   refine qf4 (qce (by decide) (by show (2:Int)≤2;decide) (by show (2:Int)≤2;decide) (qfx (by decide) (by decide) (by decide) _)) λ k hk=>?_
   rcases List.mem_cons.1 hk with rfl | hk
   ·exact hb
   ·rw [List.mem_singleton.1 hk];exact qvI hl (by omega)
theorem qGV {n:List UInt8} {ks:List T} (hks:∀ k∈ks,qZ k=0) (hK:qas (apT n ks)=0) (h0:(QV (apT n ks)).2=0):qZ (QV (apT n ks)).1=0:=by
 have ht:qZ (apT n ks)=0:=qf4 hK hks
 unfold QV at h0 ⊢
 by_cases hd:isD (apT n ks).name=true
 ·rw [if_pos hd]
  show qZ (qhW _)=0
  unfold qhW
  split
  ·rename_i hf
   have hk0:(kid (apT n ks) 0).kind=3:=by
    unfold zO at hf
    split at hf
    ·exact (yu.1 hf).1
    ·split at hf
     ·rw [Bool.and_eq_true] at hf;exact (yu.1 hf.1).1
     ·split at hf
      ·rw [Bool.and_eq_true,Bool.and_eq_true] at hf;exact (yu.1 hf.1.1).1
      ·split at hf
       ·rw [Bool.and_eq_true,Bool.and_eq_true] at hf;exact (yu.1 hf.1.1).1
       ·split at hf
        ·exact (yu.1 hf).1
        ·cases hf
   exact qac Ji qaM hk0 (qac Ji qaM rfl ht 0) _
  ·exact ht
 rw [if_neg hd] at h0 ⊢
 by_cases hx:(apT n ks).name=qcz
 ·rw [if_pos hx] at h0 ⊢
  unfold qmL at h0 ⊢
  split at h0
  ·rename_i h1;exact absurd h0 h1
  rename_i h1
  rw [if_neg h1]
  split at h0
  ·cases h0
  rename_i h2
  rw [if_neg h2]
  show qZ (Jx (zD ks))=0
  have hv:qu (Jx (zD ks))=0:=by
   have:¬ qu (Jx (zD (apT n ks).kids))≠0:=h2
   exact Decidable.of_not_not this
  have hall:=qwn Ji hks
  generalize zD ks=o at *
  unfold Jx at hv ⊢
  split
  ·exact qf4 (qce (by decide) (by show (0:Int)≤0;decide) (by show (0:Int)≤0;decide) (qfx (by decide) (by decide) (by decide) _)) λ k hk=>by cases hk
  ·rename_i g0
   split
   ·exact qpN (P := λ t=>qZ t=0) qaM hall
   ·rename_i g1
    rw [if_neg g0,if_neg g1] at hv
    have hl8:o.length≤8:=qEo (t:=apT qcz o) rfl hv
    exact qf4 (qce (by decide) (by show (2:Int)≤_;omega) (by show _≤(8:Int);omega) (qfx (by decide) (by decide) (by decide) _)) hall
 rw [if_neg hx] at h0 ⊢
 by_cases hm:(apT n ks).name=qeu∨(apT n ks).name=j9∨(apT n ks).name=qgG
 ·rw [if_pos hm] at h0 ⊢
  unfold qku at h0 ⊢
  split at h0
  ·rename_i h1;exact absurd h0 h1
  rename_i h1
  rw [if_neg h1]
  exact qvI (qhC Ji ht) h0
 rw [if_neg hm] at h0 ⊢
 by_cases he:(apT n ks).name=qcu
 ·rw [if_pos he] at h0 ⊢
  have hb:=qac Ji qaM (t:=apT n ks) rfl ht 0
  have hy:=qac Ji qaM (t:=apT n ks) rfl ht 1
  generalize kid (apT n ks) 0=b at *
  generalize kid (apT n ks) 1=y at *
  unfold qma at h0 ⊢
  split at h0
  ·rename_i h1;exact absurd h0 h1
  rename_i h1
  rw [if_neg h1]
  split at h0
  ·rename_i hbe
   rw [if_pos hbe]
   split at h0
   ·rename_i h2;exact absurd h0 h2
   rename_i h2
   rw [if_neg h2]
   split at h0
   ·rename_i h3;exact absurd h0 h3
   rename_i h3
   rw [if_neg h3]
   have hb3:=(yu.1 hbe).1
   exact qyF (qac Ji qaM hb3 hb 0) (qBt (P := λ t=>qZ t=0) (qhC Ji (qac Ji qaM hb3 hb 1)) (qhC Ji hy)) h0
  ·rename_i hbe
   rw [if_neg hbe]
   exact qyF hb (qhC Ji hy) h0
 ·rw [if_neg he];exact ht
theorem qi5:size zT=1:=by rw [qF];rfl
theorem J5 (t:T) (i:Nat):size (kid t i)≤size t:=by
 have:=size_pos t
 by_cases h:i<t.kids.length
 ·have:=y9 t _ (qB7 h);omega
 ·unfold kid
  rw [List.getD_eq_getElem?_getD,List.getElem?_eq_none (by omega)]
  show size zT≤_
  rw [qi5];omega
theorem qzX (l:List Pw):size (qam l).1≤400:=by
 unfold qam
 have:=qi5
 split
 ·show size zT≤_;omega
 ·split
  ·show size zT≤_;omega
  ·split
   ·show size zT≤_;omega
   ·rename_i h
    exact jU (Decidable.of_not_not h)
theorem qCb (b:T) (l:List Pw):size (qgL b l).1≤401+size b:=by
 unfold qgL
 have:=qi5
 have:=qzX l
 split
 ·show size b≤_;omega
 ·split
  ·show size zT≤_;omega
  ·rw [qF];show 1+(size b+(size (qam l).1+0))≤_;omega
theorem qIu (n:List UInt8) (ks:List T):size (QV (apT n ks)).1≤402+szL ks:=by
 have hz:=qi5
 have ht:size (apT n ks)=1+szL ks:=qF _
 unfold QV
 split
 ·show size (qhW _)≤_
  unfold qhW
  split
  ·have h1:=J5 (apT n ks) 0
   have h2:=J5 (kid (apT n ks) 0) (if (apT n ks).name=qux then 1 else 0)
   omega
  ·omega
 ·split
  ·unfold qmL
   split
   ·show size zT≤_;omega
   ·split
    ·show size zT≤_;omega
    ·have h1:=qBV (zD (apT n ks).kids)
     have h2:=qdz (apT n ks).kids
     have h3:szL (apT n ks).kids=szL ks:=rfl
     show size (Jx _)≤_
     omega
  ·split
   ·unfold qku
    split
    ·show size zT≤_;omega
    ·have:=qzX (ofP (apT n ks)).1;omega
   ·split
    ·have h0:=J5 (apT n ks) 0
     generalize kid (apT n ks) 0=b at *
     generalize kid (apT n ks) 1=y at *
     unfold qma
     split
     ·show size zT≤_;omega
     ·split
      ·split
       ·show size zT≤_;omega
       ·split
        ·show size zT≤_;omega
        ·have h1:=qCb (kid b 0) (qkb (ofP (kid b 1)).1 (ofP y).1).1
         have h2:=J5 b 0
         omega
      ·have h1:=qCb b (ofP y).1
       omega
    ·show size (apT n ks)≤_;omega
theorem qvA (t:T):size (zi t).1≤402*size t:=by
 refine T.ind (P := λ t=>size (zi t).1≤402*size t) ?_ t
 intro t ih
 have hz:=qi5
 have hp:=size_pos t
 rw [qlp]
 split
 ·show size t≤_;omega
 ·split
  ·show size zT≤_;omega
  ·have h1:=qIu t.name ((t.kids.map zi).map (·.1))
   have h2:szL ((t.kids.map zi).map (·.1))≤402*szL t.kids:=by
    have:∀ l:List T,(∀ k∈l,k∈t.kids)→szL ((l.map zi).map (·.1))≤402*szL l:=by
     intro l
     induction l with
     | nil=>intro _;exact Nat.le_refl _
     | cons k l ihl =>
       intro h
       have h1:=ih k (h k (List.mem_cons_self ..))
       have h2:=ihl λ x hx=>h x (List.mem_cons_of_mem _ hx)
       rw [List.map_cons,List.map_cons,qK,qK];omega
    exact this t.kids λ _ h=>h
   have h3:size t=1+szL t.kids:=qF t
   omega
theorem qqr:∀ (l:List Int),l.foldl thn 0=0→∀ y∈l,y=0
 | [],_,y,hy=>by cases hy
 | z::l,h,y,hy=>by
   rw [jO] at h
   by_cases hz:z=0
   ·subst hz
    rcases List.mem_cons.1 hy with rfl | hy
    ·rfl
    ·exact qqr l h y hy
   ·rw [qL _ hz] at h;exact absurd h hz
theorem qfq {t:T} (h:t.kind≠3):zi t=(t,0):=by rw [qlp,if_pos h]
theorem qHk {t:T} (h3:t.kind=3) (h:(zi t).2=0):(∀ k∈t.kids,(zi k).2=0)∧zi t=QV (apT t.name ((t.kids.map zi).map (·.1))):=by
 rw [qlp,if_neg (λ hh=>hh h3)] at h ⊢
 split at h
 ·rename_i h1;exact absurd h h1
 ·rename_i h1
  rw [if_neg h1]
  refine ⟨λ k hk=>?_,rfl⟩
  exact qqr _ (Decidable.of_not_not h1) _ (List.mem_map.2 ⟨_,List.mem_map.2 ⟨k,hk,rfl⟩,rfl⟩)
theorem qG9 (l:List T) (h:∀ k∈l,k.kind≠3):(l.map zi).map (·.1)=l:=by
 induction l with
 | nil=>rfl
 | cons k l ih =>
   rw [List.map_cons,List.map_cons,qfq (h k (List.mem_cons_self ..)),ih λ x hx=>h x (List.mem_cons_of_mem _ hx)]
theorem qyh {t:T} (h3:t.kind=3) (h:qas t=0):qas (apT t.name ((t.kids.map zi).map (·.1)))=0:=by
 obtain ⟨h1,h2,h4,h5⟩:=qz6 h3 h
 refine qce h1 (by simpa using h2) (by simpa using h4) ?_
 unfold JU at h5 ⊢
 show (if t.name=qg7 then decide ((kid (apT t.name ((t.kids.map zi).map (·.1))) 0).kind≠2) else if t.name=nSk∨t.name=qru then ((t.kids.map zi).map (·.1)).any λ k=>decide (k.kind=3)||decide (k.sort≠1) else false)=false
 split
 ·rename_i hn
  rw [if_pos hn] at h5
  have hk:(kid t 0).kind=2:=by simpa using h5
  cases hl:t.kids with
  | nil =>
    unfold kid at hk
    rw [hl] at hk
    exact absurd hk (by decide)
  | cons x r =>
    have hx:kid t 0=x:=by unfold kid;rw [hl];rfl
    rw [hx] at hk
    show decide ((zi x).1.kind≠2)=false
    rw [qfq (by omega)]
    simpa using hk
 ·rename_i hn
  rw [if_neg hn] at h5
  split
  ·rename_i hs
   rw [if_pos hs] at h5
   rw [qG9 t.kids λ k hk hk3=>?_]
   ·exact h5
   ·have:=List.any_eq_false.1 h5 k hk
    rw [hk3] at this
    exact this rfl
  ·rfl
theorem qHl (t:T):qZ t=0→(zi t).2=0→qZ (zi t).1=0:=by
 refine T.ind (P := λ t=>qZ t=0→(zi t).2=0→qZ (zi t).1=0) ?_ t
 intro t ih hc h0
 by_cases h3:t.kind=3
 ·obtain ⟨h1,h2⟩:=qHk h3 h0
  obtain ⟨g1,g2⟩:=qfl h3 hc
  rw [h2] at h0 ⊢
  refine qGV (λ k hk=>?_) (qyh h3 g1) h0
  obtain ⟨q,hq,rfl⟩:=List.mem_map.1 hk
  obtain ⟨j,hj,rfl⟩:=List.mem_map.1 hq
  exact ih j hj (g2 j hj) (h1 j hj)
 ·rw [qfq h3];exact hc
end Go.AmYtbpnmbmdbblehaaGreat
namespace Go.AmYtbpnmbmdbblehaaGreat
open Go Go.GxYtbpnmbmdbblehaaGreat
theorem zm (t:T) {b:Bool} (h:zO t=b):qhW t=if b then kid (kid t 0) (if t.name=qux then 1 else 0) else t:=by unfold qhW;rw [h]
theorem qbw {t:T} (h:qZ t=0) {n:List UInt8} (hn:isN t n=true) {a b c:Int} (hs:qB n=(a,b,c)) {i:Nat} (hi:(i:Int)<a):qd t.kids (i:Int)=some (kid t i):=by
 have:=(qmF h hn hs).1
 exact quq (by omega)
theorem qCk (t:T) (h3:t.kind=3) (hc:qZ t=0) (hD:isD t.name=true) (hs:size t≤1000000000):Ev (λ m _=>J0 m t) (qhW t):=by
 have hz:∀ i,size (kid t i)≤size t:=J5 t
 have hzz:∀ i j,size (kid (kid t i) j)≤1000000000 := λ i j=>by have:=J5 (kid t i) j;have:=hz i;omega
 have hzzz:∀ i j k,size (kid (kid (kid t i) j) k)≤1000000000 := λ i j k=>by have:=J5 (kid (kid t i) j) k;have:=hzz i j;omega
 have hck:∀ i,qZ (kid t i)=0 := λ i=>qac Ji qaM h3 hc i
 have hckk:∀ i j,(kid t i).kind=3→qZ (kid (kid t i) j)=0 := λ i j h=>qac Ji qaM h (hck i) j
 have isT:isN t t.name=true:=yu.2 ⟨h3,rfl⟩
 have k0:∀ {u:T} {n:List UInt8},qZ u=0→isN u n=true→∀ {b c:Int},qB n=(1,b,c)→qd u.kids 0=some (kid u 0) := λ h hn _ _ e=>qbw (i:=0) h hn e (by decide)
 have k20:∀ {u:T} {n:List UInt8},qZ u=0→isN u n=true→∀ {b c:Int},qB n=(2,b,c)→qd u.kids 0=some (kid u 0) := λ h hn _ _ e=>qbw (i:=0) h hn e (by decide)
 have k21:∀ {u:T} {n:List UInt8},qZ u=0→isN u n=true→∀ {b c:Int},qB n=(2,b,c)→qd u.kids 1=some (kid u 1) := λ h hn _ _ e=>qbw (i:=1) h hn e (by decide)
 have sP:qB qmE=(2,2,1):=by decide
 have sE:qB qk5=(2,2,1):=by decide
 have sA:qB qhu=(2,2,1):=by decide
 have sK:qB nPk=(1,1,1):=by decide
 have sS:qB qd3=(2,2,1):=by decide
 unfold isD at hD
 simp only [Bool.or_eq_true,beq_iff_eq] at hD
 refine Ev.succ ?_
 simp only [qrl,qen,qe]
 have one:∀ {a b c:Int},qB t.name=(a,b,c)→a=b→(t.kids.length:Int)=a := λ e hab=>by
  have:=qmF hc isT e;omega
 rcases hD with ((((hn | hn) | hn) | hn) | hn) | hn
 ·have hl:=one (a:=1) (b:=1) (c:=3) (by rw [hn];decide) rfl
  refine Ev.some (qcP (by omega)) (Ev.cf (qx.2 (by omega)) (Ev.ct (by rw [hn];rfl) (Ev.bind (qiU _ _) ?_)))
  have hf:zO t=isN (kid t 0) qmE:=by unfold zO;rw [if_pos (.inl hn)]
  refine Ev.ite (λ h=>?_) λ h=>?_
  ·refine Ev.some (k20 (hck 0) h sP) (Ev.ret ?_)
   rw [zm t (hf.trans h),if_pos rfl,if_neg (by rw [hn];decide)]
  ·refine Ev.ret ?_
   rw [zm t (hf.trans h),if_neg (by decide)]
 ·have hl:=one (a:=1) (b:=1) (c:=3) (by rw [hn];decide) rfl
  refine Ev.some (qcP (by omega)) (Ev.cf (qx.2 (by omega)) (Ev.cf (by rw [hn];rfl) (Ev.ct (by rw [hn];rfl) (Ev.bind (qiU _ _) ?_))))
  have hf:zO t=isN (kid t 0) qmE:=by unfold zO;rw [if_pos (.inr hn)]
  refine Ev.ite (λ h=>?_) λ h=>?_
  ·refine Ev.some (k21 (hck 0) h sP) (Ev.ret ?_)
   rw [zm t (hf.trans h),if_pos rfl,if_pos hn]
  ·refine Ev.ret ?_
   rw [zm t (hf.trans h),if_neg (by decide)]
 ·have hl:=one (a:=2) (b:=2) (c:=3) (by rw [hn];decide) rfl
  refine Ev.some (qcP (by omega)) (Ev.ct (qs.2 (by omega)) (Ev.some (qpE (by omega)) (Ev.cf (by rw [hn];rfl) (Ev.cf (by rw [hn];rfl) (Ev.ct (by rw [hn];rfl) (Ev.bind (qiU _ _) ?_))))))
  have hf:zO t=(isN (kid t 0) qk5&&yK (kid (kid t 0) 1) (kid t 1)):=by unfold zO;rw [if_neg (by rw [hn];decide),if_pos hn]
  refine Ev.ite (λ h=>?_) λ h=>?_
  ·refine Ev.some (k21 (hck 0) h sE) (Ev.bind (qmV _ _ (hzz 0 1) (by have:=hz 1;omega)) (Ev.ite (λ h2=>?_) λ h2=>?_))
   ·refine Ev.some (k20 (hck 0) h sE) (Ev.ret ?_)
    rw [zm t (b:=true) (by rw [hf,show isN (kid t 0) qk5=true from h,h2];rfl),if_pos rfl,if_neg (by rw [hn];decide)]
   ·refine Ev.ret ?_
    rw [zm t (b:=false) (by rw [hf,h2,Bool.and_false]),if_neg (by decide)]
  ·refine Ev.ret ?_
   rw [zm t (b:=false) (by rw [hf,show isN (kid t 0) qk5=false from h];rfl),if_neg (by decide)]
 ·have hl:=one (a:=2) (b:=2) (c:=3) (by rw [hn];decide) rfl
  refine Ev.some (qcP (by omega)) (Ev.ct (qs.2 (by omega)) (Ev.some (qpE (by omega)) (Ev.cf (by rw [hn];rfl) (Ev.cf (by rw [hn];rfl) (Ev.cf (by rw [hn];rfl) (Ev.ct (by rw [hn];rfl) (Ev.bind (qiU _ _) ?_)))))))
  have hf:zO t=(isN (kid t 0) qhu&&isN (kid (kid t 0) 1) nPk&&yK (kid (kid (kid t 0) 1) 0) (kid t 1)):=by unfold zO;rw [if_neg (by rw [hn];decide),if_neg (by rw [hn];decide),if_pos hn]
  refine Ev.ite (λ h=>?_) λ h=>?_
  ·have hk3:=(yu.1 h).1
   refine Ev.some (k21 (hck 0) h sA) (Ev.bind (qiU _ _) (Ev.ite (λ h2=>?_) λ h2=>?_))
   ·refine Ev.some (k21 (hck 0) h sA) (Ev.some (k0 (hckk 0 1 hk3) h2 sK) (Ev.bind (qmV _ _ (hzzz 0 1 0) (by have:=hz 1;omega)) (Ev.ite (λ h4=>?_) λ h4=>?_)))
    ·refine Ev.some (k20 (hck 0) h sA) (Ev.ret ?_)
     rw [zm t (b:=true) (by rw [hf,show isN (kid t 0) qhu=true from h,show isN (kid (kid t 0) 1) nPk=true from h2,h4];rfl),if_pos rfl,if_neg (by rw [hn];decide)]
    ·refine Ev.ret ?_
     rw [zm t (b:=false) (by rw [hf,h4,Bool.and_false]),if_neg (by decide)]
   ·refine Ev.ret ?_
    rw [zm t (b:=false) (by rw [hf,show isN (kid (kid t 0) 1) nPk=false from h2,Bool.and_false,Bool.false_and]),if_neg (by decide)]
  ·refine Ev.ret ?_
   rw [zm t (b:=false) (by rw [hf,show isN (kid t 0) qhu=false from h];rfl),if_neg (by decide)]
 ·have hl:=one (a:=2) (b:=2) (c:=3) (by rw [hn];decide) rfl
  refine Ev.some (qcP (by omega)) (Ev.ct (qs.2 (by omega)) (Ev.some (qpE (by omega)) (Ev.cf (by rw [hn];rfl) (Ev.cf (by rw [hn];rfl) (Ev.cf (by rw [hn];rfl) (Ev.cf (by rw [hn];rfl) (Ev.ct (by rw [hn];rfl) (Ev.bind (qiU _ _) ?_))))))))
  have hf:zO t=(isN (kid t 0) qd3&&isN (kid t 1) nPk&&yK (kid (kid t 0) 1) (kid (kid t 1) 0)):=by unfold zO;rw [if_neg (by rw [hn];decide),if_neg (by rw [hn];decide),if_neg (by rw [hn];decide),if_pos hn]
  refine Ev.ite (λ h=>?_) λ h=>?_
  ·refine Ev.bind (qiU _ _) (Ev.ite (λ h2=>?_) λ h2=>?_)
   ·refine Ev.some (k21 (hck 0) h sS) (Ev.some (k0 (hck 1) h2 sK) (Ev.bind (qmV _ _ (hzz 0 1) (hzz 1 0)) (Ev.ite (λ h4=>?_) λ h4=>?_)))
    ·refine Ev.some (k20 (hck 0) h sS) (Ev.ret ?_)
     rw [zm t (b:=true) (by rw [hf,show isN (kid t 0) qd3=true from h,show isN (kid t 1) nPk=true from h2,h4];rfl),if_pos rfl,if_neg (by rw [hn];decide)]
    ·refine Ev.ret ?_
     rw [zm t (b:=false) (by rw [hf,h4,Bool.and_false]),if_neg (by decide)]
   ·refine Ev.ret ?_
    rw [zm t (b:=false) (by rw [hf,show isN (kid t 1) nPk=false from h2,Bool.and_false,Bool.false_and]),if_neg (by decide)]
  ·refine Ev.ret ?_
   rw [zm t (b:=false) (by rw [hf,show isN (kid t 0) qd3=false from h];rfl),if_neg (by decide)]
 ·have hl:=one (a:=1) (b:=1) (c:=3) (by rw [hn];decide) rfl
  refine Ev.some (qcP (by omega)) (Ev.cf (qx.2 (by omega)) (Ev.cf (by rw [hn];rfl) (Ev.cf (by rw [hn];rfl) (Ev.cf (by rw [hn];rfl) (Ev.cf (by rw [hn];rfl) (Ev.cf (by rw [hn];rfl) (Ev.ct (by rw [hn];rfl) (Ev.bind (qiU _ _) ?_))))))))
  have hf:zO t=isN (kid t 0) qd3:=by unfold zO;rw [if_neg (by rw [hn];decide),if_neg (by rw [hn];decide),if_neg (by rw [hn];decide),if_neg (by rw [hn];decide),if_pos hn]
  refine Ev.ite (λ h=>?_) λ h=>?_
  ·refine Ev.some (k20 (hck 0) h sS) (Ev.ret ?_)
   rw [zm t (hf.trans h),if_pos rfl,if_neg (by rw [hn];decide)]
  ·refine Ev.ret ?_
   rw [zm t (hf.trans h),if_neg (by decide)]
end Go.AmYtbpnmbmdbblehaaGreat
namespace Go.AmYtbpnmbmdbblehaaGreat
open Go Go.GxYtbpnmbmdbblehaaGreat
noncomputable def qel:T→Prop:=T.para λ t rs=>(t.kind=3→t.sort=0)∧∀ p∈rs,p
theorem qlF (t:T):qel t↔(t.kind=3→t.sort=0)∧∀ k∈t.kids,qel k:=by
 have h:qel t=((t.kind=3→t.sort=0)∧∀ p∈t.kids.map qel,p):=T.para_eq _ _
 rw [h]
 refine and_congr_right λ _=>⟨λ h k hk=>h _ (List.mem_map_of_mem hk),λ h p hp=>?_⟩
 obtain ⟨k,hk,rfl⟩:=List.mem_map.1 hp
 exact h k hk
theorem qnW:Cl qel := λ t _ h=>((qlF t).1 h).2
theorem qzt:qel zT:=(qlF zT).2 ⟨λ h=>absurd h (by decide),λ _ h=>by cases h⟩
theorem qBi (n:List UInt8) (ks:List T) (h:∀ k∈ks,qel k):qel (apT n ks):=(qlF _).2 ⟨λ _=>rfl,h⟩
theorem qDv {t:T} (h3:t.kind=3) (h:Qm t=0):t.sort=0:=by
 unfold Qm qkY at h
 rw [if_neg (by omega),if_pos h3] at h
 split at h
 ·cases h
 ·omega
theorem qE3 (t:T):Jk t=0→qel t:=by
 refine T.ind (P := λ t=>Jk t=0→qel t) ?_ t
 intro t ih h
 obtain ⟨h1,h2⟩:=qk6 h
 exact (qlF t).2 ⟨λ h3=>qDv h3 h1,λ k hk=>ih k hk (h2 k hk)⟩
theorem qql {t:T} (h:qu t=0):Jk t=0:=by
 unfold qu at h
 split at h
 ·rename_i h1;exact absurd h h1
 ·rename_i h1;exact Decidable.of_not_not h1
theorem qI3 {P:T→Prop} (hP:Cl P) (hz:P zT) (hap:∀ n ks,(∀ k∈ks,P k)→P (apT n ks)) {n:List UInt8} {ks:List T} (hks:∀ k∈ks,P k):P (QV (apT n ks)).1:=by
 have ht:=hap n ks hks
 have hkid:∀ {t:T} (i:Nat),P t→t.kind=3→P (kid t i) := λ i h h3=>qac hP hz h3 h i
 have hterm:∀ l:List Pw,(∀ p∈l,P p.1)→P (qam l).1:=by
  intro l hl
  unfold qam
  split
  ·exact hz
  ·split
   ·exact hz
   ·split
    ·exact hz
    ·have hall:∀ x∈zL l++zS l,P x := λ x hx=>by
       rcases List.mem_append.1 hx with hx | hx
       ·obtain ⟨p,hp,rfl⟩:=qzm hx
        exact hl p hp
       ·obtain ⟨p,hp,rfl⟩:=qzo hx
        exact hap _ _ λ k hk=>by rw [List.mem_singleton.1 hk];exact hl p hp
     show P (Jj _)
     generalize zL l++zS l=o at *
     unfold Jj
     split
     ·exact hap _ _ λ k hk=>by cases hk
     ·split
      ·exact qpN hz hall
      ·exact hap _ _ hall
 have hexp:∀ (b:T) (l:List Pw),P b→(∀ p∈l,P p.1)→P (qgL b l).1:=by
  intro b l hb hl
  unfold qgL
  split
  ·exact hb
  ·split
   ·exact hz
   ·refine hap _ _ λ k hk=>?_
    rcases List.mem_cons.1 hk with rfl | hk
    ·exact hb
    ·rw [List.mem_singleton.1 hk];exact hterm l hl
 unfold QV
 split
 ·show P (qhW _)
  unfold qhW
  split
  ·rename_i hf
   have hk0:(kid (apT n ks) 0).kind=3:=by
    unfold zO at hf
    split at hf
    ·exact (yu.1 hf).1
    ·split at hf
     ·rw [Bool.and_eq_true] at hf;exact (yu.1 hf.1).1
     ·split at hf
      ·rw [Bool.and_eq_true,Bool.and_eq_true] at hf;exact (yu.1 hf.1.1).1
      ·split at hf
       ·rw [Bool.and_eq_true,Bool.and_eq_true] at hf;exact (yu.1 hf.1.1).1
       ·split at hf
        ·exact (yu.1 hf).1
        ·cases hf
   exact hkid _ (hkid 0 ht rfl) hk0
  ·exact ht
 ·split
  ·unfold qmL
   split
   ·exact hz
   ·split
    ·exact hz
    ·have hall:=qwn hP hks
     show P (Jx (zD ks))
     generalize zD ks=o at *
     unfold Jx
     split
     ·exact hap _ _ λ k hk=>by cases hk
     ·split
      ·exact qpN hz hall
      ·exact hap _ _ hall
  ·split
   ·unfold qku
    split
    ·exact hz
    ·exact hterm _ (qhC hP ht)
   ·split
    ·have hb:=hkid (t:=apT n ks) 0 ht rfl
     have hy:=hkid (t:=apT n ks) 1 ht rfl
     generalize kid (apT n ks) 0=b at *
     generalize kid (apT n ks) 1=y at *
     unfold qma
     split
     ·exact hz
     ·split
      ·rename_i hbe
       have hb3:=(yu.1 hbe).1
       split
       ·exact hz
       ·split
        ·exact hz
        ·exact hexp _ _ (hkid 0 hb hb3) (qBt (qhC hP (hkid 1 hb hb3)) (qhC hP hy))
      ·exact hexp _ _ hb (qhC hP hy)
    ·exact ht
theorem qIT {P:T→Prop} (hP:Cl P) (hz:P zT) (hap:∀ n ks,(∀ k∈ks,P k)→P (apT n ks)) (t:T):P t→P (zi t).1:=by
 refine T.ind (P := λ t=>P t→P (zi t).1) ?_ t
 intro t ih h
 rw [qlp]
 split
 ·exact h
 ·rename_i h3
  split
  ·exact hz
  ·refine qI3 hP hz hap λ k hk=>?_
   obtain ⟨q,hq,rfl⟩:=List.mem_map.1 hk
   obtain ⟨j,hj,rfl⟩:=List.mem_map.1 hq
   exact ih j hj (hP t (Decidable.of_not_not h3) h j hj)
theorem qB3 {u x:T} (hc:qZ u=0) (hs:qel u):yK u (apT nPk [x])=(isN u nPk&&yK (kid u 0) x):=by
 rw [Bool.eq_iff_iff,Bool.and_eq_true,jW,jW]
 constructor
 ·rintro rfl
  exact ⟨yu.2 ⟨rfl,rfl⟩,rfl⟩
 ·rintro ⟨h1,h2⟩
  obtain ⟨h3,hn⟩:=yu.1 h1
  have har:=qmF hc h1 (a:=1) (b:=1) (c:=1) (by decide)
  have hso:=((qlF u).1 hs).1 h3
  cases u with
  | mk k n so ks =>
    have h3:k=3:=h3
    have hn:n=nPk:=hn
    have hso:so=0:=hso
    have hl:ks.length=1:=by
     have h1:(1:Int)≤(ks.length:Int):=har.1
     have h2:(ks.length:Int)≤1:=har.2.1
     omega
    cases ks with
    | nil=>cases hl
    | cons y r =>
      cases r with
      | nil =>
        have:y=x:=h2
        subst h3;subst hn;subst hso;subst this;rfl
      | cons z r=>simp at hl
theorem qss (a b:T):yK a b=yK b a:=by
 rw [Bool.eq_iff_iff,jW,jW];exact eq_comm
theorem qA3 (t:T) (h3:t.kind=3) (hc:qZ t=0) (hso:qel t) (hD:isD t.name=true) (hs:size t≤900000000):Ev (λ m _=>qci m t) (qhW t,zO t):=by
 have hz:∀ i,size (kid t i)≤size t:=J5 t
 have hzz:∀ i j,size (kid (kid t i) j)≤900000000 := λ i j=>by have:=J5 (kid t i) j;have:=hz i;omega
 have hck:∀ i,qZ (kid t i)=0 := λ i=>qac Ji qaM h3 hc i
 have hckk:∀ i j,(kid t i).kind=3→qZ (kid (kid t i) j)=0 := λ i j h=>qac Ji qaM h (hck i) j
 have hsk:∀ i,qel (kid t i) := λ i=>qac qnW qzt h3 hso i
 have hskk:∀ i j,(kid t i).kind=3→qel (kid (kid t i) j) := λ i j h=>qac qnW qzt h (hsk i) j
 have isT:isN t t.name=true:=yu.2 ⟨h3,rfl⟩
 have k20:∀ {u:T} {n:List UInt8},qZ u=0→isN u n=true→∀ {b c:Int},qB n=(2,b,c)→qd u.kids 0=some (kid u 0) := λ h hn _ _ e=>qbw (i:=0) h hn e (by decide)
 have k21:∀ {u:T} {n:List UInt8},qZ u=0→isN u n=true→∀ {b c:Int},qB n=(2,b,c)→qd u.kids 1=some (kid u 1) := λ h hn _ _ e=>qbw (i:=1) h hn e (by decide)
 have sP:qB qmE=(2,2,1):=by decide
 have sE:qB qk5=(2,2,1):=by decide
 have sA:qB qhu=(2,2,1):=by decide
 have sS:qB qd3=(2,2,1):=by decide
 unfold isD at hD
 simp only [Bool.or_eq_true,beq_iff_eq] at hD
 refine Ev.succ ?_
 simp only [qst,qfa,qe]
 have one:∀ {a b c:Int},qB t.name=(a,b,c)→a=b→(t.kids.length:Int)=a := λ e hab=>by
  have:=qmF hc isT e;omega
 have size_pk:∀ x:T,size (apT nPk [x])=1+size x := λ x=>by rw [qF];show 1+(size x+0)=_;omega
 rcases hD with ((((hn | hn) | hn) | hn) | hn) | hn
 ·have hl:=one (a:=1) (b:=1) (c:=3) (by rw [hn];decide) rfl
  refine Ev.some (qcP (by omega)) (Ev.ct (by rw [hn];rfl) (Ev.bind (qjN _ _) ?_))
  have hf:zO t=isN (kid t 0) qmE:=by unfold zO;rw [if_pos (.inl hn)]
  refine Ev.ite (λ h=>?_) λ h=>?_
  ·refine Ev.some (k20 (hck 0) h sP) (Ev.ret ?_)
   rw [zm t (hf.trans h),if_pos rfl,if_neg (by rw [hn];decide),hf.trans h]
  ·repeat (refine Ev.cf (by rw [hn];rfl) ?_)
   refine Ev.ret ?_
   rw [zm t (hf.trans h),if_neg (by decide),hf.trans h]
 ·have hl:=one (a:=1) (b:=1) (c:=3) (by rw [hn];decide) rfl
  refine Ev.some (qcP (by omega)) (Ev.cf (by rw [hn];rfl) (Ev.ct (by rw [hn];rfl) (Ev.bind (qjN _ _) ?_)))
  have hf:zO t=isN (kid t 0) qmE:=by unfold zO;rw [if_pos (.inr hn)]
  refine Ev.ite (λ h=>?_) λ h=>?_
  ·refine Ev.some (k21 (hck 0) h sP) (Ev.ret ?_)
   rw [zm t (hf.trans h),if_pos rfl,if_pos hn,hf.trans h]
  ·repeat (refine Ev.cf (by rw [hn];rfl) ?_)
   refine Ev.ret ?_
   rw [zm t (hf.trans h),if_neg (by decide),hf.trans h]
 ·have hl:=one (a:=2) (b:=2) (c:=3) (by rw [hn];decide) rfl
  refine Ev.some (qcP (by omega)) (Ev.cf (by rw [hn];rfl) (Ev.cf (by rw [hn];rfl) (Ev.ct (by rw [hn];rfl) (Ev.bind (qjN _ _) ?_))))
  have hf:zO t=(isN (kid t 0) qk5&&yK (kid (kid t 0) 1) (kid t 1)):=by unfold zO;rw [if_neg (by rw [hn];decide),if_pos hn]
  refine Ev.ite (λ h=>?_) λ h=>?_
  ·refine Ev.some (k21 (hck 0) h sE) (Ev.some (qpE (by omega)) (Ev.bind (qb0 _ _ (by have:=hzz 0 1;omega) (by have:=hz 1;omega)) (Ev.ite (λ h2=>?_) λ h2=>?_)))
   ·have hb:zO t=true:=by rw [hf,show isN (kid t 0) qk5=true from h,h2];rfl
    refine Ev.some (k20 (hck 0) h sE) (Ev.ret ?_)
    rw [zm t hb,if_pos rfl,if_neg (by rw [hn];decide),hb]
   ·have hb:zO t=false:=by rw [hf,h2,Bool.and_false]
    repeat (refine Ev.cf (by rw [hn];rfl) ?_)
    refine Ev.ret ?_
    rw [zm t hb,if_neg (by decide),hb]
  ·have hb:zO t=false:=by rw [hf,show isN (kid t 0) qk5=false from h];rfl
   repeat (refine Ev.cf (by rw [hn];rfl) ?_)
   refine Ev.ret ?_
   rw [zm t hb,if_neg (by decide),hb]
 ·have hl:=one (a:=2) (b:=2) (c:=3) (by rw [hn];decide) rfl
  refine Ev.some (qcP (by omega)) (Ev.cf (by rw [hn];rfl) (Ev.cf (by rw [hn];rfl) (Ev.cf (by rw [hn];rfl) (Ev.ct (by rw [hn];rfl) (Ev.bind (qjN _ _) ?_)))))
  have hf:zO t=(isN (kid t 0) qhu&&isN (kid (kid t 0) 1) nPk&&yK (kid (kid (kid t 0) 1) 0) (kid t 1)):=by unfold zO;rw [if_neg (by rw [hn];decide),if_neg (by rw [hn];decide),if_pos hn]
  refine Ev.ite (λ h=>?_) λ h=>?_
  ·have hk3:=(yu.1 h).1
   refine Ev.some (k21 (hck 0) h sA) (Ev.some (qpE (by omega)) (Ev.bind (Ju nPk [kid t 1] (by simp)) (Ev.bind (qb0 _ _ (by have:=hzz 0 1;omega) (by rw [size_pk];have:=hz 1;omega)) ?_)))
   rw [qB3 (hckk 0 1 hk3) (hskk 0 1 hk3)]
   refine Ev.ite (λ h2=>?_) λ h2=>?_
   ·have hb:zO t=true:=by rw [hf,show isN (kid t 0) qhu=true from h,Bool.true_and,h2]
    refine Ev.some (k20 (hck 0) h sA) (Ev.ret ?_)
    rw [zm t hb,if_pos rfl,if_neg (by rw [hn];decide),hb]
   ·have hb:zO t=false:=by rw [hf,show isN (kid t 0) qhu=true from h,Bool.true_and,h2]
    repeat (refine Ev.cf (by rw [hn];rfl) ?_)
    refine Ev.ret ?_
    rw [zm t hb,if_neg (by decide),hb]
  ·have hb:zO t=false:=by rw [hf,show isN (kid t 0) qhu=false from h];rfl
   repeat (refine Ev.cf (by rw [hn];rfl) ?_)
   refine Ev.ret ?_
   rw [zm t hb,if_neg (by decide),hb]
 ·have hl:=one (a:=2) (b:=2) (c:=3) (by rw [hn];decide) rfl
  refine Ev.some (qcP (by omega)) (Ev.cf (by rw [hn];rfl) (Ev.cf (by rw [hn];rfl) (Ev.cf (by rw [hn];rfl) (Ev.cf (by rw [hn];rfl) (Ev.ct (by rw [hn];rfl) (Ev.bind (qjN _ _) ?_))))))
  have hf:zO t=(isN (kid t 0) qd3&&isN (kid t 1) nPk&&yK (kid (kid t 0) 1) (kid (kid t 1) 0)):=by unfold zO;rw [if_neg (by rw [hn];decide),if_neg (by rw [hn];decide),if_neg (by rw [hn];decide),if_pos hn]
  refine Ev.ite (λ h=>?_) λ h=>?_
  ·refine Ev.some (qpE (by omega)) (Ev.some (k21 (hck 0) h sS) (Ev.bind (Ju nPk [kid (kid t 0) 1] (by simp)) (Ev.bind (qb0 _ _ (by have:=hz 1;omega) (by rw [size_pk];have:=hzz 0 1;omega)) ?_)))
   rw [qB3 (hck 1) (hsk 1),qss (kid (kid t 1) 0)]
   refine Ev.ite (λ h2=>?_) λ h2=>?_
   ·have hb:zO t=true:=by rw [hf,show isN (kid t 0) qd3=true from h,Bool.true_and,h2]
    refine Ev.some (k20 (hck 0) h sS) (Ev.ret ?_)
    rw [zm t hb,if_pos rfl,if_neg (by rw [hn];decide),hb]
   ·have hb:zO t=false:=by rw [hf,show isN (kid t 0) qd3=true from h,Bool.true_and,h2]
    repeat (refine Ev.cf (by rw [hn];rfl) ?_)
    refine Ev.ret ?_
    rw [zm t hb,if_neg (by decide),hb]
  ·have hb:zO t=false:=by rw [hf,show isN (kid t 0) qd3=false from h];rfl
   repeat (refine Ev.cf (by rw [hn];rfl) ?_)
   refine Ev.ret ?_
   rw [zm t hb,if_neg (by decide),hb]
 ·have hl:=one (a:=1) (b:=1) (c:=3) (by rw [hn];decide) rfl
  refine Ev.some (qcP (by omega)) (Ev.cf (by rw [hn];rfl) (Ev.cf (by rw [hn];rfl) (Ev.cf (by rw [hn];rfl) (Ev.cf (by rw [hn];rfl) (Ev.cf (by rw [hn];rfl) (Ev.ct (by rw [hn];rfl) (Ev.bind (qjN _ _) ?_)))))))
  have hf:zO t=isN (kid t 0) qd3:=by unfold zO;rw [if_neg (by rw [hn];decide),if_neg (by rw [hn];decide),if_neg (by rw [hn];decide),if_neg (by rw [hn];decide),if_pos hn]
  refine Ev.ite (λ h=>?_) λ h=>?_
  ·refine Ev.some (k20 (hck 0) h sS) (Ev.ret ?_)
   rw [zm t (hf.trans h),if_pos rfl,if_neg (by rw [hn];decide),hf.trans h]
  ·repeat (refine Ev.cf (by rw [hn];rfl) ?_)
   refine Ev.ret ?_
   rw [zm t (hf.trans h),if_neg (by decide),hf.trans h]
end Go.AmYtbpnmbmdbblehaaGreat
namespace Go.AmYtbpnmbmdbblehaaGreat
open Go Go.GxYtbpnmbmdbblehaaGreat
theorem qhR (t:T):szP (ofP t).1≤400:=by
 unfold ofP
 split
 ·exact Nat.zero_le _
 ·rename_i h
  split
  ·exact Nat.zero_le _
  ·split
   ·exact Nat.zero_le _
   ·have h1:=qBj t [] 1
    have h2:=jU (Decidable.of_not_not h)
    have h3:szP ([]:List Pw)=0:=rfl
    show szP (yS t [] 1)≤_
    omega
theorem qCd (a b:List Pw):szP (qkb a b).1≤160000:=by
 unfold qkb
 split
 ·exact Nat.zero_le _
 ·rename_i h1
  split
  ·exact Nat.zero_le _
  ·rename_i h2
   split
   ·exact Nat.zero_le _
   ·split
    ·exact Nat.zero_le _
    ·obtain ⟨_,_,h,_⟩:=qgj (Decidable.of_not_not h1) (Decidable.of_not_not h2) b.length
     rw [List.take_length] at h
     exact h
theorem qFJ (b e:T) (hb:qZ b=0) (hsb:size b≤1000000000) (hse:size e≤1000000000):Ev (λ m _=>qc9 m b e) (qma b e):=by
 refine Ev.succ ?_
 simp only [quz,qgA,qe]
 have fin:∀ (l:List Pw) (x:T),szP l≤1000000000→Ev (λ m _=>cond (ieq (l.length:Int) 0) (some (x,(0:Int))) (qa (jG m l) λ v=>cond (qb (ieq v.2 0)) (some (T.mk 0 [] 0 [],v.2)) (qa (qdH m [101,120,112] [x,v.1]) λ w=>some (w,0)))) (qgL x l):=by
  intro l x hl
  unfold qgL
  refine Ev.ite (λ h=>?_) λ h=>?_
  ·rw [qj] at h
   rw [if_pos (by omega)];exact Ev.pure _
  ·rw [qh] at h
   rw [if_neg (by omega)]
   refine Ev.bind (qxQ l hl) (Ev.ite (λ h=>?_) λ h=>?_)
   ·rw [bnt,qh] at h
    rw [if_pos h];exact Ev.pure _
   ·rw [bnf,qj] at h
    rw [if_neg (by omega)]
    exact Ev.bind (qJH _ _) (Ev.pure _)
 unfold qma
 refine Ev.bind (qzs e hse) (Ev.ite (λ h=>?_) λ h=>?_)
 ·rw [bnt,qh] at h
  rw [if_pos h];exact Ev.pure _
 rw [bnf,qj] at h
 rw [if_neg (by omega)]
 refine Ev.bind (qiU _ _) (Ev.ite (λ hx=>?_) λ hx=>?_)
 ·rw [if_pos (show isN b qcu=true from hx)]
  have h1:=J5 b 1
  refine Ev.some (qbw (i:=1) hb hx (a:=2) (b:=2) (c:=1) (by decide) (by decide)) (Ev.bind (qzs _ (by omega)) (Ev.ite (λ h2=>?_) λ h2=>?_))
  ·rw [bnt,qh] at h2
   rw [if_pos h2];exact Ev.pure _
  rw [bnf,qj] at h2
  rw [if_neg (by omega)]
  have h3:=qhR (kid b 1)
  have h4:=qhR e
  have h5:=qCd (ofP (kid b 1)).1 (ofP e).1
  refine Ev.bind (qH2 _ _ (by omega) (by omega)) (Ev.ite (λ h2=>?_) λ h2=>?_)
  ·rw [bnt,qh] at h2
   rw [if_pos h2];exact Ev.pure _
  rw [bnf,qj] at h2
  rw [if_neg (by omega)]
  exact Ev.some (qbw (i:=0) hb hx (a:=2) (b:=2) (c:=1) (by decide) (by decide)) (fin _ _ (by omega))
 ·rw [if_neg (by rw [show isN b qcu=false from hx];decide)]
  have h4:=qhR e
  exact fin _ _ (by omega)
theorem qFK (b e:T) (hb:qZ b=0) (hsb:size b≤1000000000) (hse:size e≤1000000000):Ev (λ m _=>qew m b e) (qma b e):=by
 refine Ev.succ ?_
 simp only [qwD,qgU,qe]
 have fin:∀ (l:List Pw) (x:T),szP l≤1000000000→Ev (λ m _=>cond (ieq (l.length:Int) 0) (some (x,(0:Int))) (qa (qaD m l) λ v=>cond (qb (ieq v.2 0)) (some (T.mk 0 [] 0 [],v.2)) (qa (zW m [101,120,112] [x,v.1]) λ w=>some (w,0)))) (qgL x l):=by
  intro l x hl
  unfold qgL
  refine Ev.ite (λ h=>?_) λ h=>?_
  ·rw [qj] at h
   rw [if_pos (by omega)];exact Ev.pure _
  ·rw [qh] at h
   rw [if_neg (by omega)]
   refine Ev.bind (qzK l hl) (Ev.ite (λ h=>?_) λ h=>?_)
   ·rw [bnt,qh] at h
    rw [if_pos h];exact Ev.pure _
   ·rw [bnf,qj] at h
    rw [if_neg (by omega)]
    exact Ev.bind (Ju _ _ (by simp)) (Ev.pure _)
 unfold qma
 refine Ev.bind (qyq e hse) (Ev.ite (λ h=>?_) λ h=>?_)
 ·rw [bnt,qh] at h
  rw [if_pos h];exact Ev.pure _
 rw [bnf,qj] at h
 rw [if_neg (by omega)]
 refine Ev.bind (qjN _ _) (Ev.ite (λ hx=>?_) λ hx=>?_)
 ·rw [if_pos (show isN b qcu=true from hx)]
  have h1:=J5 b 1
  refine Ev.some (qbw (i:=1) hb hx (a:=2) (b:=2) (c:=1) (by decide) (by decide)) (Ev.bind (qyq _ (by omega)) (Ev.ite (λ h2=>?_) λ h2=>?_))
  ·rw [bnt,qh] at h2
   rw [if_pos h2];exact Ev.pure _
  rw [bnf,qj] at h2
  rw [if_neg (by omega)]
  have h3:=qhR (kid b 1)
  have h4:=qhR e
  have h5:=qCd (ofP (kid b 1)).1 (ofP e).1
  refine Ev.bind (qHS _ _ (by omega) (by omega)) (Ev.ite (λ h2=>?_) λ h2=>?_)
  ·rw [bnt,qh] at h2
   rw [if_pos h2];exact Ev.pure _
  rw [bnf,qj] at h2
  rw [if_neg (by omega)]
  exact Ev.some (qbw (i:=0) hb hx (a:=2) (b:=2) (c:=1) (by decide) (by decide)) (fin _ _ (by omega))
 ·rw [if_neg (by rw [show isN b qcu=false from hx];decide)]
  have h4:=qhR e
  exact fin _ _ (by omega)
theorem qzj {t:T} (h:isD t.name=true):QV t=(qhW t,0):=by unfold QV;rw [if_pos h]
theorem qxX {t:T} (h:t.name=qcz):QV t=qmL t.kids:=by unfold QV;rw [if_neg (by rw [h];decide),if_pos h]
theorem qzn {t:T} (h:t.name=qeu∨t.name=j9∨t.name=qgG):QV t=qku t:=by
 unfold QV
 rw [if_neg (by rcases h with h | h | h<;>rw [h]<;>decide),if_neg (by rcases h with h | h | h<;>rw [h]<;>decide),if_pos h]
theorem qze {t:T} (h:t.name=qcu):QV t=qma (kid t 0) (kid t 1):=by
 unfold QV
 rw [if_neg (by rw [h];decide),if_neg (by rw [h];decide),if_neg (by rw [h];decide),if_pos h]
theorem qom {t:T} (h1:isD t.name=false) (h2:t.name≠qcz) (h3:¬ (t.name=qeu∨t.name=j9∨t.name=qgG)) (h4:t.name≠qcu):QV t=(t,0):=by
 unfold QV
 rw [if_neg (by rw [h1];decide),if_neg h2,if_neg h3,if_neg h4]
theorem qEb (n:List UInt8):(qB n).2.2=3↔isD n=true:=by
 constructor
 ·intro h
  rcases qtI n with h1 | ⟨r,hr,hn,h1⟩
  ·rw [qsh h1] at h;cases h
  ·rw [qmg h1] at h
   have:jq.all (λ r => !decide (r.2.2.2=3)||isD r.1)=true:=by decide
   have:=List.all_eq_true.1 this r hr
   rw [decide_eq_true h] at this
   rw [← hn];exact this
 ·intro h
  unfold isD at h
  simp only [Bool.or_eq_true,beq_iff_eq] at h
  rcases h with ((((hn | hn) | hn) | hn) | hn) | hn<;>rw [hn]<;>decide
noncomputable def nks (l:List T):List T:=(l.map zi).map (·.1)
theorem qpv (l:List T):(nks l).length=l.length:=by unfold nks;simp
theorem qEp (l:List T):szL (nks l)≤402*szL l:=by
 induction l with
 | nil=>exact Nat.le_refl _
 | cons k l ih =>
   have:=qvA k
   show szL ((zi k).1::nks l)≤_
   rw [qK,qK];omega
theorem qyj {l:List T} {i:Nat} {x:T} (h:l[i]? = some x):nks (l.take (i+1))=nks (l.take i)++[(zi x).1]:=by
 unfold nks
 rw [zQ h,List.map_append,List.map_append];rfl
noncomputable def erN (l:List T):Int:=((l.map zi).map (·.2)).foldl thn 0
theorem qAf {l:List T} {i:Nat} {x:T} (h:l.drop i=x::l.drop (i+1)):erN (l.drop i)=if (zi x).2≠0 then (zi x).2 else erN (l.drop (i+1)):=by
 unfold erN
 rw [h,List.map_cons,List.map_cons]
 by_cases hx:(zi x).2=0
 ·rw [if_neg (by omega),hx];rfl
 ·rw [if_pos hx];exact qL _ hx
theorem qu7 {t:T} (h3:t.kind=3):zi t=if erN t.kids≠0 then (zT,erN t.kids) else QV (apT t.name (nks t.kids)):=by rw [qlp,if_neg (λ h=>h h3)];rfl
theorem qB6 {t:T} (h3:t.kind=3) (hc:qZ t=0) (he:∀ k∈t.kids,(zi k).2=0):qZ (apT t.name (nks t.kids))=0∧∀ k∈nks t.kids,qZ k=0:=by
 obtain ⟨g1,g2⟩:=qfl h3 hc
 have hk:∀ k∈nks t.kids,qZ k=0 := λ k hk=>by
  obtain ⟨q,hq,rfl⟩:=List.mem_map.1 hk
  obtain ⟨j,hj,rfl⟩:=List.mem_map.1 hq
  exact qHl j (g2 j hj) (he j hj)
 exact ⟨qf4 (qyh h3 g1) hk,hk⟩
theorem qEI (t:T):size t≤2000→qZ t=0→Ev (λ m _=>zP m t) (zi t):=by
 induction t using T.ind with
 | h t ih =>
   intro hs hc
   have hl:=yH t
   have hz:=qF t
   refine Ev.succ ?_
   simp only [qtb,qbR,qe]
   by_cases h3:t.kind=3
   rotate_left
   ·refine Ev.ct (bnt.2 (qh.2 h3)) (Ev.ret (qfq h3).symm)
   refine Ev.cf (bnf.2 (qj.2 h3)) ?_
   rw [qu7 h3]
   have hck:=(qfl h3 hc).2
   have key:=qr (P := λ i=>(∀ k∈t.kids.take i,(zi k).2=0)→Ev (λ m k=>Qg m (zP m) k t.kids t.kids.length i t.kind t.name t.sort t.kids 0 [] 0 3 t.name 0 [] (nks (t.kids.take i))) (if erN (t.kids.drop i)≠0 then (zT,erN (t.kids.drop i)) else QV (apT t.name (nks t.kids)))) t.kids (by omega)
    (λ hlen he=>by
     refine Ev.loop ?_
     simp only [qjB,qbL,qe]
     refine Ev.cf hlen ?_
     rw [List.take_length] at he ⊢
     rw [List.drop_length,if_neg (show ¬ erN []≠0 from λ h=>h rfl)]
     obtain ⟨c1,c2⟩:=qB6 h3 hc he
     have s1:=qEp t.kids
     have s2:szL t.kids+1=size t:=by unfold szL;omega
     have hnl:=qpv t.kids
     generalize nks t.kids=ks at *
     have hu:T.mk 3 t.name 0 ks=apT t.name ks:=rfl
     rw [hu]
     have su:size (apT t.name ks)=1+szL ks:=qF _
     have des:isD t.name=true→Ev (λ m _=>qa (J0 m (apT t.name ks)) λ v=>some (v,(0:Int))) (QV (apT t.name ks)) := λ hd=>by
      rw [qzj (show isD (apT t.name ks).name=true from hd)]
      exact Ev.bind (qCk _ rfl c1 hd (by omega)) (Ev.pure _)
     have prod:t.name=qeu∨t.name=j9∨t.name=qgG→Ev (λ m _=>qa (JY m (apT t.name ks)) λ v=>cond (qb (ieq v.2 0)) (some (T.mk 0 [] 0 [],v.2)) (qa (jG m v.1) λ w=>some (w.1,w.2))) (QV (apT t.name ks)) := λ hm=>by
      rw [qzn (show (apT t.name ks).name=qeu∨(apT t.name ks).name=j9∨(apT t.name ks).name=qgG from hm)]
      unfold qku
      have h4:=qhR (apT t.name ks)
      refine Ev.bind (qzs _ (by omega)) (Ev.ite (λ h=>?_) λ h=>?_)
      ·rw [bnt,qh] at h
       rw [if_pos h];exact Ev.pure _
      ·rw [bnf,qj] at h
       rw [if_neg (by omega)]
       exact Ev.bind (qxQ _ (by omega)) (Ev.pure _)
     refine Ev.ite (λ h=>des (by rw [jb.1 h];decide)) λ h1=>?_
     refine Ev.ite (λ h=>des (by rw [jb.1 h];decide)) λ h2=>?_
     refine Ev.ite (λ h=>des (by rw [jb.1 h];decide)) λ h3'=>?_
     refine Ev.ite (λ h=>des (by rw [jb.1 h];decide)) λ h4=>?_
     refine Ev.ite (λ h=>des (by rw [jb.1 h];decide)) λ h5=>?_
     refine Ev.ite (λ h=>des (by rw [jb.1 h];decide)) λ h6=>?_
     refine Ev.ite (λ h=>?_) λ h7=>?_
     ·rw [qxX (show (apT t.name ks).name=qcz from jb.1 h)]
      exact Ev.bind (qIc ks (by omega)) (Ev.pure _)
     refine Ev.ite (λ h=>prod (.inl (jb.1 h))) λ h8=>?_
     refine Ev.ite (λ h=>prod (.inr (.inl (jb.1 h)))) λ h9=>?_
     refine Ev.ite (λ h=>prod (.inr (.inr (jb.1 h)))) λ h10=>?_
     refine Ev.ite (λ h=>?_) λ h11=>?_
     ·have hn:t.name=qcu:=jb.1 h
      rw [qze (show (apT t.name ks).name=qcu from hn)]
      have isE:isN (apT t.name ks) qcu=true:=yu.2 ⟨rfl,hn⟩
      have q0:=J5 (apT t.name ks) 0
      have q1:=J5 (apT t.name ks) 1
      refine Ev.some (qbw (t:=apT t.name ks) (i:=0) c1 isE (a:=2) (b:=2) (c:=1) (by decide) (by decide)) (Ev.some (qbw (t:=apT t.name ks) (i:=1) c1 isE (a:=2) (b:=2) (c:=1) (by decide) (by decide)) ?_)
      exact Ev.bind (qFJ _ _ (qac Ji qaM rfl c1 0) (by omega) (by omega)) (Ev.pure _)
     ·rw [qom (t:=apT t.name ks) (show isD t.name=false from by
          rw [← Bool.not_eq_true]
          intro hd
          unfold isD at hd
          simp only [Bool.or_eq_true,beq_iff_eq] at hd
          rcases hd with ((((hn | hn) | hn) | hn) | hn) | hn
          ·exact jr.1 h1 hn
          ·exact jr.1 h2 hn
          ·exact jr.1 h3' hn
          ·exact jr.1 h4 hn
          ·exact jr.1 h5 hn
          ·exact jr.1 h6 hn) (jr.1 h7) (λ h=>by rcases h with h | h | h;exact jr.1 h8 h;exact jr.1 h9 h;exact jr.1 h10 h) (jr.1 h11)]
      exact Ev.pure _)
    (λ i x hx hd hlen hg hi hP he=>by
     refine Ev.loop ?_
     simp only [qjB,qbL,qe]
     have hm:=List.mem_of_getElem? hx
     have hlt:=y9 t x hm
     rw [qAf hd]
     refine Ev.ct hlen (Ev.some hg (Ev.bind (ih x hm (by omega) (hck x hm)) (Ev.ite (λ h=>?_) λ h=>?_)))
     ·rw [bnt,qh] at h
      rw [if_pos (show (if (zi x).2≠0 then (zi x).2 else erN (t.kids.drop (i+1)))≠0 from by rw [if_pos h];exact h),if_pos h]
      exact Ev.pure _
     ·rw [bnf,qj] at h
      rw [if_neg (show ¬ (zi x).2≠0 from by omega)]
      have h4:(nks (t.kids.take i)).length≤t.kids.length:=by rw [qpv,List.length_take];omega
      refine Ev.ct (zf (by omega) (by omega)) ?_
      have hP:=hP λ k hk=>by
       rw [zQ hx] at hk
       rcases List.mem_append.1 hk with hk | hk
       ·exact he k hk
       ·rw [List.mem_singleton.1 hk];exact h
      rw [hi]
      refine hP.congr λ m k=>?_
      rw [qyj hx])
   have hk3:=h3
   refine Ev.diag (L := λ m k=>Qg m (zP m) k t.kids t.kids.length 0 t.kind t.name t.sort t.kids 0 [] 0 3 t.name 0 [] []) ?_
   exact (key 0 (Nat.zero_le _)) (λ k hk=>by rw [List.take_zero] at hk;cases hk)
theorem qCW (t:T):size t≤2000→qZ t=0→qel t→Ev (λ m _=>yl m t) (zi t):=by
 induction t using T.ind with
 | h t ih =>
   intro hs hc hso
   have hl:=yH t
   have hz:=qF t
   refine Ev.succ ?_
   simp only [qvo,qcN,qe]
   by_cases h3:t.kind=3
   rotate_left
   ·refine Ev.ct (bnt.2 (qh.2 h3)) (Ev.ret (qfq h3).symm)
   refine Ev.cf (bnf.2 (qj.2 h3)) ?_
   rw [qu7 h3]
   have hck:=(qfl h3 hc).2
   have key:=qr (P := λ i=>(∀ k∈t.kids.take i,(zi k).2=0)→Ev (λ m k=>Q6 m (yl m) k i t.kind t.name t.sort t.kids 0 [] 0 [] (nks (t.kids.take i))) (if erN (t.kids.drop i)≠0 then (zT,erN (t.kids.drop i)) else QV (apT t.name (nks t.kids)))) t.kids (by omega)
    (λ hlen he=>by
     refine Ev.loop ?_
     simp only [qkL,qcU,qe]
     refine Ev.cf hlen ?_
     rw [List.take_length] at he ⊢
     rw [List.drop_length,if_neg (show ¬ erN []≠0 from λ h=>h rfl)]
     obtain ⟨c1,c2⟩:=qB6 h3 hc he
     have o1:qel (apT t.name (nks t.kids)):=qBi _ _ λ k hk=>by
      obtain ⟨q,hq,rfl⟩:=List.mem_map.1 hk
      obtain ⟨j,hj,rfl⟩:=List.mem_map.1 hq
      exact qIT qnW qzt qBi j (qnW t h3 hso j hj)
     have s1:=qEp t.kids
     have s2:szL t.kids+1=size t:=by unfold szL;omega
     have hnl:=qpv t.kids
     generalize nks t.kids=ks at *
     have su:size (apT t.name ks)=1+szL ks:=qF _
     have prod:t.name=qeu∨t.name=j9∨t.name=qgG→Ev (λ m _=>qa (qaz m (apT t.name ks)) λ w=>some (w.1,w.2)) (QV (apT t.name ks)) := λ hm=>by
      rw [qzn (show (apT t.name ks).name=qeu∨(apT t.name ks).name=j9∨(apT t.name ks).name=qgG from hm)]
      have h4:=qhR (apT t.name ks)
      have:Ev (λ m _=>qaz m (apT t.name ks)) (qku (apT t.name ks)):=by
       refine Ev.succ ?_
       simp only [qsm,qe9,qe]
       unfold qku
       refine Ev.bind (qyq _ (by omega)) (Ev.ite (λ h=>?_) λ h=>?_)
       ·rw [bnt,qh] at h
        rw [if_pos h];exact Ev.pure _
       ·rw [bnf,qj] at h
        rw [if_neg (by omega)]
        exact Ev.bind (qzK _ (by omega)) (Ev.pure _)
      exact Ev.bind this (Ev.pure _)
     have hksl:=jd ks
     refine Ev.bind (Ju t.name ks (by omega)) (Ev.bind (qvl t.name) (Ev.ite (λ h=>?_) λ h1=>?_))
     ·have hd:=(qEb t.name).1 (qj.1 h)
      rw [qzj (show isD (apT t.name ks).name=true from hd)]
      exact Ev.bind (qA3 _ rfl c1 o1 hd (by omega)) (Ev.pure _)
     refine Ev.ite (λ h=>?_) λ h7=>?_
     ·rw [qxX (show (apT t.name ks).name=qcz from jb.1 h)]
      exact Ev.bind (qIN ks (by omega)) (Ev.pure _)
     refine Ev.ite (λ h=>prod (.inl (jb.1 h))) λ h8=>?_
     refine Ev.ite (λ h=>prod (.inr (.inl (jb.1 h)))) λ h9=>?_
     refine Ev.ite (λ h=>prod (.inr (.inr (jb.1 h)))) λ h10=>?_
     refine Ev.ite (λ h=>?_) λ h11=>?_
     ·have hn:t.name=qcu:=jb.1 h
      rw [qze (show (apT t.name ks).name=qcu from hn)]
      have isE:isN (apT t.name ks) qcu=true:=yu.2 ⟨rfl,hn⟩
      have q0:=J5 (apT t.name ks) 0
      have q1:=J5 (apT t.name ks) 1
      refine Ev.some (qbw (t:=apT t.name ks) (i:=0) c1 isE (a:=2) (b:=2) (c:=1) (by decide) (by decide)) (Ev.some (qbw (t:=apT t.name ks) (i:=1) c1 isE (a:=2) (b:=2) (c:=1) (by decide) (by decide)) ?_)
      exact Ev.bind (qFK _ _ (qac Ji qaM rfl c1 0) (by omega) (by omega)) (Ev.pure _)
     ·rw [qom (t:=apT t.name ks) (show isD t.name=false from by
          rw [← Bool.not_eq_true,← qEb]
          exact qh.1 h1) (jr.1 h7) (λ h=>by rcases h with h | h | h;exact jr.1 h8 h;exact jr.1 h9 h;exact jr.1 h10 h) (jr.1 h11)]
      exact Ev.pure _)
    (λ i x hx hd hlen hg hi hP he=>by
     refine Ev.loop ?_
     simp only [qkL,qcU,qe]
     have hm:=List.mem_of_getElem? hx
     have hlt:=y9 t x hm
     rw [qAf hd]
     refine Ev.ct hlen (Ev.some hg (Ev.bind (ih x hm (by omega) (hck x hm) (qnW t h3 hso x hm)) (Ev.ite (λ h=>?_) λ h=>?_)))
     ·rw [bnt,qh] at h
      rw [if_pos (show (if (zi x).2≠0 then (zi x).2 else erN (t.kids.drop (i+1)))≠0 from by rw [if_pos h];exact h),if_pos h]
      exact Ev.pure _
     ·rw [bnf,qj] at h
      rw [if_neg (show ¬ (zi x).2≠0 from by omega)]
      have h4:(nks (t.kids.take i)).length≤t.kids.length:=by rw [qpv,List.length_take];omega
      refine Ev.ct (zf (by omega) (by omega)) ?_
      have hP:=hP λ k hk=>by
       rw [zQ hx] at hk
       rcases List.mem_append.1 hk with hk | hk
       ·exact he k hk
       ·rw [List.mem_singleton.1 hk];exact h
      rw [hi]
      refine hP.congr λ m k=>?_
      rw [qyj hx])
   refine Ev.diag (L := λ m k=>Q6 m (yl m) k 0 t.kind t.name t.sort t.kids 0 [] 0 [] []) ?_
   exact (key 0 (Nat.zero_le _)) (λ k hk=>by rw [List.take_zero] at hk;cases hk)
theorem qgF (t:T):qhf t=if qhg t≠0 then (zT,qhg t) else if (zi t).2≠0 then (zT,(zi t).2) else if qu (zi t).1≠0 then (zT,qu (zi t).1) else zi t:=rfl
theorem qCK (t:T) (hs:size t≤1000000000):Ev (λ m _=>qcj m t) (qhf t):=by
 refine Ev.succ ?_
 simp only [qs4,qff,qe]
 rw [qgF]
 refine Ev.bind (qI0 t hs) (Ev.ite (λ h=>?_) λ h=>?_)
 ·rw [bnt,qh] at h
  rw [if_pos h];exact Ev.pure _
 rw [bnf,qj] at h
 rw [if_neg (by omega)]
 obtain ⟨hv,hc⟩:=qkU h
 have hz:=jU hv
 have hn:=qvA t
 refine Ev.bind (qEI t (by omega) hc) (Ev.ite (λ h2=>?_) λ h2=>?_)
 ·rw [qj] at h2
  rw [if_neg (by omega)]
  refine Ev.bind (JZ _ (by omega)) (Ev.ite (λ h3=>?_) λ h3=>?_)
  ·rw [bnt,qh] at h3
   rw [if_pos h3];exact Ev.pure _
  ·rw [bnf,qj] at h3
   rw [if_neg (by omega)]
   exact Ev.ret (by rw [← h2])
 ·rw [qh] at h2
  rw [if_pos h2]
  exact Ev.ct (bnt.2 (qh.2 h2)) (Ev.pure _)
theorem qDh (t:T) (hs:size t≤1000000000):Ev (λ m _=>qda m t) (qhf t):=by
 refine Ev.succ ?_
 simp only [qvu,qfS,qe]
 rw [qgF]
 refine Ev.bind (qIl t hs) (Ev.ite (λ h=>?_) λ h=>?_)
 ·rw [bnt,qh] at h
  rw [if_pos h];exact Ev.pure _
 rw [bnf,qj] at h
 rw [if_neg (by omega)]
 obtain ⟨hv,hc⟩:=qkU h
 have hz:=jU hv
 have hn:=qvA t
 refine Ev.bind (qCW t (by omega) hc (qE3 t (qql hv))) (Ev.ite (λ h2=>?_) λ h2=>?_)
 ·rw [bnt,qh] at h2
  rw [if_pos h2];exact Ev.pure _
 rw [bnf,qj] at h2
 rw [if_neg (by omega)]
 refine Ev.bind (qaO _ (by omega)) (Ev.ite (λ h3=>?_) λ h3=>?_)
 ·rw [bnt,qh] at h3
  rw [if_pos h3];exact Ev.pure _
 ·rw [bnf,qj] at h3
  rw [if_neg (by omega)]
  exact Ev.ret (by rw [← h2])
theorem qsI (t:T):size (qhf t).1≤400:=by
 rw [qgF]
 have:=qi5
 split
 ·show size zT≤_;omega
 ·split
  ·show size zT≤_;omega
  ·split
   ·show size zT≤_;omega
   ·rename_i h
    exact jU (Decidable.of_not_not h)
end Go.AmYtbpnmbmdbblehaaGreat
namespace Go.AmYtbpnmbmdbblehaaGreat
open Go Go.GxYtbpnmbmdbblehaaGreat
noncomputable def qeA (p:List UInt8→Bool):T→Bool:=T.para λ t rs=>(!(t.kind==3)||p t.name)&&rs.all id
theorem qkg (p:List UInt8→Bool) (t:T):qeA p t=((!(t.kind==3)||p t.name)&&(t.kids.map (qeA p)).all id):=T.para_eq _ _
noncomputable def Q0:T→List T:=T.para λ t rs=>t::rs.flatten
theorem qlB (t:T):Q0 t=t::(t.kids.map Q0).flatten:=T.para_eq _ _
theorem qmi (t:T):(Q0 t).length=size t:=by
 refine T.ind (P := λ t=>(Q0 t).length=size t) ?_ t
 intro t ih
 rw [qlB,qF,List.length_cons,List.length_flatten,List.map_map]
 have:t.kids.map (List.length ∘ Q0)=t.kids.map size:=List.map_congr_left λ k hk=>ih k hk
 rw [this];omega
theorem qIy (t:T):∀ u∈Q0 t,size u≤size t:=by
 refine T.ind (P := λ t=>∀ u∈Q0 t,size u≤size t) ?_ t
 intro t ih u hu
 rw [qlB] at hu
 rcases List.mem_cons.1 hu with rfl | hu
 ·exact Nat.le_refl _
 ·obtain ⟨l,hl,hu⟩:=List.mem_flatten.1 hu
  obtain ⟨k,hk,rfl⟩:=List.mem_map.1 hl
  have h1:=ih k hk u hu
  have h2:=y9 t k hk
  omega
theorem qC4 (p:List UInt8→Bool) (t:T):(Q0 t).all (λ u => !(u.kind==3)||p u.name)=qeA p t:=by
 refine T.ind (P := λ t=>(Q0 t).all (λ u => !(u.kind==3)||p u.name)=qeA p t) ?_ t
 intro t ih
 rw [qlB,qkg,List.all_cons,List.all_flatten]
 congr 1
 rw [List.all_map,List.all_map]
 rw [Bool.eq_iff_iff,List.all_eq_true,List.all_eq_true]
 exact ⟨λ h k hk=>(ih k hk).symm.trans (h k hk),λ h k hk=>(ih k hk).trans (h k hk)⟩
def pPl (n:List UInt8):Bool:=qb (ieq (qB n).2.2 3)
theorem qEi (n:List UInt8):Ev (λ m _=>qbs m n) (pPl n):=by
 refine Ev.succ ?_
 simp only [qra,qeq]
 refine Ev.bind (qvN n) (Ev.ret ?_)
 unfold pPl
 rw [← qrD]
theorem qDY (t:T):size t≤1000000000→Ev (λ m _=>qJ m t) (qeA pPl t):=by
 induction t using T.ind with
 | h t ih =>
   intro hs
   have hl:=yH t
   refine Ev.succ ?_
   simp only [qmD,Jt]
   have key:=qr (P := λ i=>Ev (λ m k=>yj m (qJ m) k t.kids t.kids.length i) (((t.kids.drop i).map (qeA pPl)).all id)) t.kids (by omega)
    (λ hc=>by
     refine Ev.loop ?_
     simp only [qfC,Jw]
     refine Ev.cf hc (Ev.ret ?_)
     rw [List.drop_length];rfl)
    (λ i x hx hd hc hg hi hP=>by
     refine Ev.loop ?_
     simp only [qfC,Jw,qe]
     have hm:=List.mem_of_getElem? hx
     have h1:=y9 t x hm
     rw [hd,List.map_cons,List.all_cons]
     refine Ev.ct hc (Ev.some hg (Ev.bind (ih x hm (by omega)) (Ev.ite (λ hb=>?_) λ hb=>?_)))
     ·rw [bnt] at hb
      rw [hb];exact Ev.pure _
     ·rw [bnf] at hb
      rw [hb,hi]
      exact hP)
   have main:Ev (λ m _=>yj m (qJ m) m t.kids t.kids.length 0) ((t.kids.map (qeA pPl)).all id) :=
    Ev.diag (L := λ m k=>yj m (qJ m) k t.kids t.kids.length 0) ((key 0 (Nat.zero_le _)).res (by rw [List.drop_zero]))
   rw [qkg]
   refine Ev.ite (λ h3=>?_) λ h3=>?_
   ·rw [qj] at h3
    have hk:(!(t.kind==3))=false:=by rw [h3];rfl
    rw [hk,Bool.false_or]
    refine Ev.bind (qEi t.name) (Ev.ite (λ h=>?_) λ h=>?_)
    ·rw [bnt] at h
     rw [h];exact Ev.pure _
    ·rw [bnf] at h
     rw [h];exact main
   ·rw [qh] at h3
    have hk:(!(t.kind==3))=true:=by rw [Bool.not_eq_true',beq_eq_false_iff_ne];exact h3
    rw [hk,Bool.true_or]
    exact main
theorem qBn (t:T):size t≤1000000000→Ev (λ m _=>jh m t) (Q0 t):=by
 induction t using T.ind with
 | h t ih =>
   intro hs
   have hl:=yH t
   have hln:=qmi t
   refine Ev.succ ?_
   simp only [qAn,qf8,qe]
   rw [qlB] at hln ⊢
   have hpre:∀ i,((t.kids.take i).map Q0).flatten.length≤(t.kids.map Q0).flatten.length := λ i=>by
    have:=congrArg (λ l=>(l.map Q0).flatten.length) (List.take_append_drop i t.kids)
    simp only [List.map_append,List.flatten_append,List.length_append] at this
    omega
   have key:=qr (P := λ i=>Ev (λ m k=>qa3 m (jh m) k i t.kind t.name t.sort t.kids (t::((t.kids.take i).map Q0).flatten)) (t::(t.kids.map Q0).flatten)) t.kids (by omega)
    (λ hc=>by
     refine Ev.loop ?_
     simp only [qoR,qgz]
     refine Ev.cf hc ?_
     rw [List.take_length];exact Ev.pure _)
    (λ i x hx hd hc hg hi hP=>by
     refine Ev.loop ?_
     simp only [qoR,qgz,qe]
     have hm:=List.mem_of_getElem? hx
     have h1:=y9 t x hm
     have h2:=hpre (i+1)
     have e:((t.kids.take (i+1)).map Q0).flatten=((t.kids.take i).map Q0).flatten++Q0 x:=by
      rw [zQ hx,List.map_append,List.flatten_append];simp
     rw [e,List.length_append] at h2
     rw [e] at hP
     rw [List.length_cons] at hln
     refine Ev.ct hc (Ev.some hg (Ev.bind (ih x hm (by omega)) (Ev.ct (zf (by rw [List.length_cons];omega) (by omega)) ?_)))
     rw [hi]
     exact hP)
   refine Ev.diag (L := λ m k=>qa3 m (jh m) k 0 t.kind t.name t.sort t.kids [t]) ?_
   exact key 0 (Nat.zero_le _)
noncomputable def qaR (t:T):Bool:=decide ((qhf t).2=0)&&(yK (qhf t).1 t&&qeA pPl t)
theorem qEn (t:T) (hs:size t≤1000000000):Ev (λ m _=>qc5 m t) (qaR t):=by
 have h1:=qsI t
 refine Ev.succ ?_
 simp only [qt2,qgp,qe]
 unfold qaR
 refine Ev.bind (qCK t hs) (Ev.ite (λ h=>?_) λ h=>?_)
 ·rw [qj] at h
  rw [decide_eq_true h,Bool.true_and]
  refine Ev.bind (qmV _ _ (by omega) hs) (Ev.ite (λ h2=>?_) λ h2=>?_)
  ·rw [h2,Bool.true_and]
   exact Ev.bind (qDY t hs) (Ev.pure _)
  ·rw [h2,Bool.false_and];exact Ev.pure _
 ·rw [qh] at h
  rw [decide_eq_false h,Bool.false_and];exact Ev.pure _
theorem qEJ (t:T) (hs:size t≤1000000000):Ev (λ m _=>qeC m t) (qaR t):=by
 have h1:=qsI t
 refine Ev.succ ?_
 simp only [qw4,qd2,qe]
 unfold qaR
 refine Ev.bind (qDh t hs) (Ev.ite (λ h=>?_) λ h=>?_)
 ·rw [bnt,qh] at h
  rw [decide_eq_false h,Bool.false_and];exact Ev.pure _
 rw [bnf,qj] at h
 rw [decide_eq_true h,Bool.true_and,qss]
 refine Ev.bind (qb0 _ _ hs (by omega)) (Ev.ite (λ h2=>?_) λ h2=>?_)
 ·rw [bnt] at h2
  rw [h2,Bool.false_and];exact Ev.pure _
 rw [bnf] at h2
 rw [h2,Bool.true_and,← qC4]
 refine Ev.bind (qBn t hs) ?_
 have hln:=qmi t
 generalize Q0 t=l at *
 have key:=qr (P := λ i=>Ev (λ m k=>JE m k l i) ((l.drop i).all λ u => !(u.kind==3)||pPl u.name)) l (by omega)
  (λ hc=>by
   refine Ev.loop ?_
   simp only [qls,qd9]
   refine Ev.cf hc (Ev.ret ?_)
   rw [List.drop_length];rfl)
  (λ i x hx hd hc hg hi hP=>by
   refine Ev.loop ?_
   simp only [qls,qd9]
   rw [hd,List.all_cons]
   refine Ev.ct hc (Ev.some hg (Ev.ite (λ h3=>?_) λ h3=>?_))
   ·rw [qj] at h3
    have hk:(!(x.kind==3))=false:=by rw [h3];rfl
    rw [hk,Bool.false_or]
    refine Ev.some hg (Ev.bind (qvl x.name) (Ev.ite (λ hk3=>?_) λ hk3=>?_))
    ·have:pPl x.name=false:=by unfold pPl;rw [hk3];rfl
     rw [this];exact Ev.pure _
    ·rw [hi]
     refine hP.res ?_
     have:pPl x.name=true:=by unfold pPl;rw [hk3];rfl
     rw [this];rfl
   ·rw [qh] at h3
    have hk:(!(x.kind==3))=true:=by rw [Bool.not_eq_true',beq_eq_false_iff_ne];exact h3
    rw [hk,Bool.true_or,hi,Bool.true_and]
    exact hP)
 refine Ev.diag (L := λ m k=>JE m k l 0) ?_
 exact (key 0 (Nat.zero_le _)).res (by rw [List.drop_zero])
end Go.AmYtbpnmbmdbblehaaGreat
namespace Go.AmYtbpnmbmdbblehaaGreat
open Go Go.GxYtbpnmbmdbblehaaGreat Go.Sort Go.Proofs Go.Proofs.YtbpnmbmdbblehaaGreat
noncomputable def zq (k:Int) (t:T):List T:=(Q0 t).filter λ x=>decide (x.kind=k)
noncomputable def qfj (t:T):Bool:=(zq 1 t).isEmpty
theorem qkQ (k:Int) (t:T):zq k t=(if t.kind=k then [t] else [])++(t.kids.map (zq k)).flatten:=by
 unfold zq
 rw [qlB,List.filter_cons,List.filter_flatten,List.map_map]
 by_cases h:t.kind=k<;>simp [h,Function.comp_def,zq]
theorem qiG (k:Int) (t:T):(zq k t).length≤size t:=by
 have:=List.length_filter_le (λ x:T=>decide (x.kind=k)) (Q0 t)
 rw [qmi] at this
 exact this
theorem qv9 (k:Int) (t:T):∀ u∈zq k t,size u≤size t := λ u hu=>qIy t u ((List.mem_filter.1 hu).1)
theorem qBb {s:Nat}:∀ {l:List T},(∀ u∈l,size u≤s)→szL l≤l.length*s
 | [],_=>by simp [szL]
 | x::l,h=>by
   have:=qBb λ u hu=>h u (List.mem_cons_of_mem _ hu)
   have h1:=h x (List.mem_cons_self ..)
   rw [qK,List.length_cons,Nat.succ_mul];omega
theorem qGT (x:T) (k:Int) (l:List T) (hl:l.length≤1000000000):Ev (λ m _=>Qf m x k l) ((k,l++(if x.kind=k then [x] else []),()),()):=by
 refine Ev.succ ?_
 simp only [qlk,qaq,qe]
 by_cases h:x.kind=k
 ·rw [if_pos h]
  refine Ev.ct (qj.2 h) (Ev.ct (zf (by omega) (by omega)) (Ev.some (a:=T.mk 0 [] 0 []) (by rw [jN];simp) (Ev.ret ?_)))
  rw [qdc]
  simp
 ·rw [if_neg h,List.append_nil]
  exact Ev.cf (qh.2 h) (Ev.pure _)
theorem qHN (t:T) (k:Int):size t≤1000000000→∀ l:List T,l.length+size t≤1000000000→Ev (λ m _=>q9 m t k l) ((k,l++zq k t,()),()):=by
 induction t using T.ind with
 | h t ih =>
   intro hs l hl
   have hkl:=yH t
   refine Ev.succ ?_
   simp only [qnT,JM,qe]
   refine Ev.bind (qGT t k l (by omega)) ?_
   simp only
   obtain ⟨l0,hl0⟩:∃ l0,l0=l++(if t.kind=k then [t] else []):=⟨_,rfl⟩
   rw [← hl0]
   have hfl:=qiG k t
   rw [qkQ,List.length_append] at hfl
   have hl0n:l0.length+((t.kids.map (zq k)).flatten).length=l.length+((if t.kind=k then [t] else []).length+((t.kids.map (zq k)).flatten).length):=by rw [hl0,List.length_append];omega
   have hpre:∀ i,((t.kids.take i).map (zq k)).flatten.length≤(t.kids.map (zq k)).flatten.length := λ i=>by
    have:=congrArg (λ l=>(l.map (zq k)).flatten.length) (List.take_append_drop i t.kids)
    simp only [List.map_append,List.flatten_append,List.length_append] at this
    omega
   have hsz:∀ i x,t.kids[i]? = some x→l0.length+((t.kids.take i).map (zq k)).flatten.length+size x≤1000000000 := λ i x hx=>by
    have h1:((t.kids.take i).map (zq k)).flatten.length≤szL (t.kids.take i):=by
     have aux:∀ l:List T,((l.map (zq k)).flatten).length≤szL l:=by
      intro l
      induction l with
      | nil=>simp [szL]
      | cons y l ih'=>rw [List.map_cons,List.flatten_cons,List.length_append,qK];have:=qiG k y;omega
     exact aux _
    have h2:=jE hx
    have h3:szL t.kids+1≤size t:=by rw [qF];unfold szL;omega
    have h4:l0.length≤l.length+1:=by rw [hl0,List.length_append];split<;>simp
    omega
   have key:=qr (P := λ i=>Ev (λ m kk=>y8 m (q9 m) kk t.kids t.kids.length i k (l0++((t.kids.take i).map (zq k)).flatten)) ((k,l0++(t.kids.map (zq k)).flatten,()),())) t.kids (by omega)
    (λ hc=>by
     refine Ev.loop ?_
     simp only [qgk,JO]
     refine Ev.cf hc ?_
     rw [List.take_length];exact Ev.pure _)
    (λ i x hx hd hc hg hi hP=>by
     refine Ev.loop ?_
     simp only [qgk,JO,qe]
     have hm:=List.mem_of_getElem? hx
     have h1:=y9 t x hm
     refine Ev.ct hc (Ev.some hg (Ev.bind (ih x hm (by omega) _ (by rw [List.length_append];exact hsz i x hx)) ?_))
     rw [hi]
     have e:((t.kids.take (i+1)).map (zq k)).flatten=((t.kids.take i).map (zq k)).flatten++zq k x:=by
      rw [zQ hx,List.map_append,List.flatten_append];simp
     rw [e,← List.append_assoc] at hP
     exact hP)
   rw [qkQ,← List.append_assoc,← hl0]
   refine Ev.diag (L := λ m kk=>y8 m (q9 m) kk t.kids t.kids.length 0 k l0) ?_
   have:=key 0 (Nat.zero_le _)
   simpa using this
theorem qIh {F G:T→T→Option Int} {l:List T} (h:∀ x∈l,∀ y∈l,F x y=G x y):QA F l=QA G l:=by
 funext i j
 unfold QA
 cases hx:l[i % l.length]? with
 | none=>rfl
 | some x=>cases hy:l[j % l.length]? with
   | none=>rfl
   | some y=>simp only;rw [h x (List.mem_of_getElem? hx) y (List.mem_of_getElem? hy)]
theorem qwf {β : Type} {F:T→T→Option β} {l:List T} (h:∀ x∈l,∀ y∈l,(F x y).isSome=true):qbC F l=true :=
 List.all_eq_true.2 λ x hx=>List.all_eq_true.2 λ y hy=>h x hx y hy
theorem qIV {n:Nat} {lt:Nat→Nat→Bool} (h:SWO lt):qrf n lt=true:=by
 unfold qrf
 refine List.all_eq_true.2 λ i _=>?_
 rw [Bool.and_eq_true]
 refine ⟨by rw [h.irrefl];rfl,List.all_eq_true.2 λ j _=>List.all_eq_true.2 λ k _=>?_⟩
 rw [Bool.and_eq_true]
 constructor
 ·cases h1:lt i j with
  | false=>rfl
  | true=>cases h2:lt j k with
    | false=>rfl
    | true=>rw [h.trans i j k h1 h2];rfl
 ·cases h1:lt i j with
  | true=>rfl
  | false=>cases h2:lt j k with
    | true=>rfl
    | false=>rw [h.ntrans i j k h1 h2];rfl
theorem qKD (l:List T):SWO (ltOf (QA (λ x y=>some (qp x y)) l)):=by
 have hlt:∀ i j,ltOf (QA (λ x y=>some (qp x y)) l) i j=true↔∃ x y,l[i % l.length]? = some x∧l[j % l.length]? = some y∧qp x y=-1 := λ i j=>by
  unfold ltOf QA
  rw [decide_eq_true_iff]
  cases hx:l[i % l.length]? with
  | none=>simp
  | some x=>cases hy:l[j % l.length]? with
    | none=>simp
    | some y =>
      simp only [Option.getD_some]
      have:=zI.rng x y
      constructor
      ·intro h;exact ⟨x,y,rfl,rfl,by omega⟩
      ·rintro ⟨_,_,h1,h2,h3⟩;cases h1;cases h2;omega
 refine ⟨λ i=>?_,λ i j k h1 h2=>?_,λ i j k h1 h2=>?_⟩
 ·rw [Bool.eq_false_iff]
  intro h
  obtain ⟨x,y,h1,h2,h3⟩:=(hlt _ _).1 h
  rw [h1] at h2;cases h2
  rw [qoP] at h3;cases h3
 ·obtain ⟨x,y,a1,a2,a3⟩:=(hlt _ _).1 h1
  obtain ⟨y',z,b1,b2,b3⟩:=(hlt _ _).1 h2
  rw [a2] at b1;cases b1
  exact (hlt _ _).2 ⟨x,z,a1,b2,zI.trans x y z a3 b3⟩
 ·rw [Bool.eq_false_iff] at h1 h2 ⊢
  intro h
  obtain ⟨x,z,a1,a2,a3⟩:=(hlt _ _).1 h
  have hn:0<l.length:=by have:=getElem?_lt a1;omega
  obtain ⟨y,hj⟩:∃ y,l[j % l.length]? = some y:=⟨_,List.getElem?_eq_getElem (Nat.mod_lt _ hn)⟩
  have n1:qp x y≠-1 := λ he=>h1 ((hlt _ _).2 ⟨x,_,a1,hj,he⟩)
  have n2:qp y z≠-1 := λ he=>h2 ((hlt _ _).2 ⟨_,z,hj,a2,he⟩)
  have r1:=zI.rng x y
  have r2:=zI.rng y z
  rcases r1 with r1 | r1 | r1
  ·exact n1 r1
  ·have:=JX _ _ r1
   rw [← this] at n2;exact n2 a3
  ·rcases r2 with r2 | r2 | r2
   ·exact n2 r2
   ·have:=JX _ _ r2
    rw [this] at n1;exact n1 a3
   ·have e1:qp y x=-1:=by rw [zI.anti];omega
    have e2:qp z y=-1:=by rw [zI.anti];omega
    have e3:=zI.trans _ _ _ e2 e1
    have e4:=zI.anti x z
    omega
theorem qzF {β : Type} {F:Nat→T→T→Option β} {g:T→T → β} (l:List T) (h:∀ x∈l,∀ y∈l,Ev (λ m _=>F m x y) (g x y)):∃ B,∀ m,B≤m→∀ x∈l,∀ y∈l,F m x y=some (g x y):=by
 have one:∀ (x:T),(∀ y∈l,Ev (λ m _=>F m x y) (g x y))→∀ r:List T,(∀ y∈r,y∈l)→∃ B,∀ m,B≤m→∀ y∈r,F m x y=some (g x y):=by
  intro x hx r
  induction r with
  | nil=>exact λ _=>⟨0,λ _ _ y hy=>by cases hy⟩
  | cons y r ih =>
    intro hr
    obtain ⟨B,hB⟩:=ih λ z hz=>hr z (List.mem_cons_of_mem _ hz)
    obtain ⟨D,hD⟩:=hx y (hr y (List.mem_cons_self ..))
    refine ⟨max B D,λ m hm z hz=>?_⟩
    rcases List.mem_cons.1 hz with rfl | hz
    ·exact hD m D (by omega) (Nat.le_refl _)
    ·exact hB m (by omega) z hz
 have two:∀ r:List T,(∀ y∈r,y∈l)→∃ B,∀ m,B≤m→∀ x∈r,∀ y∈l,F m x y=some (g x y):=by
  intro r
  induction r with
  | nil=>exact λ _=>⟨0,λ _ _ y hy=>by cases hy⟩
  | cons x r ih =>
    intro hr
    obtain ⟨B,hB⟩:=ih λ z hz=>hr z (List.mem_cons_of_mem _ hz)
    obtain ⟨D,hD⟩:=one x (h x (hr x (List.mem_cons_self ..))) l λ _ h=>h
    refine ⟨max B D,λ m hm z hz=>?_⟩
    rcases List.mem_cons.1 hz with rfl | hz
    ·exact hD m (by omega)
    ·exact hB m (by omega) z hz
 exact two l λ _ h=>h
theorem qx2 {α : Type} {l:List α} {ix:List Nat}:∀ x∈pick l ix,x∈l := λ x hx=>by
 unfold pick at hx
 obtain ⟨i,_,h⟩:=List.mem_filterMap.1 hx
 exact List.mem_of_getElem? h
theorem qIJ (l:List T) (hl:l.length≤100000) (hs:∀ t∈l,size t≤1000000000):∃ l',Ev (λ m _=>qS m l) l'∧l'.length=l.length∧∀ x∈l',x∈l:=by
 cases hl0:l with
 | nil=>exact ⟨[],Ev.succ (Ev.congr (Ev.pure _) λ m _=>rfl),rfl,λ x h=>h⟩
 | cons x0 r0 =>
   rw [← hl0]
   obtain ⟨B,hB⟩:=qzF (F := λ m x y=>qt m x y) l λ x hx y hy=>qcq x (hs x hx) y (hs y hy)
   have hne:l≠[]:=by rw [hl0];exact List.cons_ne_nil _ _
   have hO:=qKD l
   obtain ⟨hp,_⟩:=qqv (λ x y=>some (qp x y)) l hO
   have hlt:∀ i∈qaf (λ x y=>some (qp x y)) l,i<l.length := λ i hi=>List.mem_range.1 (hp.mem_iff.1 hi)
   refine ⟨pick l (qaf (λ x y=>some (qp x y)) l),Ev.succ ⟨B,λ m k hm _=>?_⟩,by rw [qnb hlt,hp.length_eq,List.length_range],qx2⟩
   show qS (m+1) l=_
   rw [qbG]
   have hcf:QA (qt m) l=QA (λ x y=>some (qp x y)) l:=qIh (hB m hm)
   have hall:qbC (qt m) l=true:=qwf λ x hx y hy=>by rw [hB m hm x hx y hy];rfl
   have hix:qaf (qt m) l=qaf (λ x y=>some (qp x y)) l:=by unfold qaf;rw [hcf]
   have e:qpr (qt m) l=cond (Nat.ble l.length 100000&&(qbC (qt m) l&&qrf l.length (ltOf (QA (qt m) l)))) (some (pick l (qaf (qt m) l))) none:=by rw [hl0];rfl
   rw [e,hcf,hall,hix,qIV hO,show Nat.ble l.length 100000=true from Nat.ble_eq_true_of_le hl]
   rfl
theorem qDm (l:List T) (hl:l.length≤100000) (hs:∀ t∈l,size t≤1000000000):∃ l',Ev (λ m _=>qG m l) ((),l',())∧(l'=[]↔l=[])∧l'.length≤l.length∧∀ x∈l',x∈l:=by
 cases hl0:l with
 | nil=>exact ⟨[],Ev.succ (Ev.congr (Ev.pure _) λ m _=>rfl),Iff.rfl,Nat.le_refl _,λ x h=>h⟩
 | cons x0 r0 =>
   rw [← hl0]
   obtain ⟨B,hB⟩:=qzF (F := λ m x y=>yc m x y) (g := λ x y=>ieq (qp x y) 0) l λ x hx y hy=>by
    refine Ev.succ ?_
    simp only [qrJ,qet,qe]
    exact Ev.bind (qcq x (hs x hx) y (hs y hy)) (Ev.pure _)
   have hne:l≠[]:=by rw [hl0];exact List.cons_ne_nil _ _
   have hpos:0<l.length:=List.length_pos_iff.2 hne
   obtain ⟨ef,hef⟩:∃ ef,ef=qjz (λ x y=>some (ieq (qp x y) 0)) l:=⟨_,rfl⟩
   have hlt:∀ i∈zt ef l.length,i<l.length:=qwc
   have hlen:(zt ef l.length).length≤l.length:=by
    have:=List.length_filter_le (λ i=>decide (i=0) || !ef i (i-1)) (List.range l.length)
    rw [List.length_range] at this
    exact this
   have h0:0∈zt ef l.length:=List.mem_filter.2 ⟨List.mem_range.2 hpos,by simp⟩
   refine ⟨pick l (zt ef l.length),Ev.succ ⟨B,λ m k hm _=>?_⟩,⟨λ h=>?_,λ h=>absurd h hne⟩,by rw [qnb hlt];exact hlen,qx2⟩
   ·show qG (m+1) l=_
    rw [qaP]
    have hee:qjz (yc m) l=ef:=by
     rw [hef]
     funext i j
     unfold qjz
     cases hx:l[i % l.length]? with
     | none=>rfl
     | some x=>cases hy:l[j % l.length]? with
       | none=>rfl
       | some y=>simp only;rw [hB m hm x (List.mem_of_getElem? hx) y (List.mem_of_getElem? hy)]
    have hall:qbC (yc m) l=true:=qwf λ x hx y hy=>by rw [hB m hm x hx y hy];rfl
    have e:qxJ (yc m) l=cond (Nat.ble l.length 100000&&qbC (yc m) l) (some (pick l (zt (qjz (yc m) l) l.length))) none:=by rw [hl0];rfl
    unfold qtD
    rw [e,hall,hee,show Nat.ble l.length 100000=true from Nat.ble_eq_true_of_le hl]
    rfl
   ·have:=qnb hlt
    rw [h] at this
    have h1:=List.length_pos_of_mem h0
    simp at this
    omega
theorem qCA (l:List T) (hl:l.length≤100000) (hs:∀ t∈l,size t≤1000000000):∃ l',Ev (λ m _=>qc2 m l) ((),l',())∧(l'=[]↔l=[]):=by
 obtain ⟨l1,e1,n1,m1⟩:=qIJ l hl hs
 obtain ⟨l2,e2,n2,n3,m2⟩:=qDm l1 (by omega) λ t ht=>hs t (m1 t ht)
 refine ⟨l2,?_,n2.trans ⟨λ h=>List.eq_nil_of_length_eq_zero (by rw [← n1,h];rfl),λ h=>List.eq_nil_of_length_eq_zero (by rw [n1,h];rfl)⟩⟩
 refine Ev.succ ?_
 simp only [qvz,qcQ]
 refine Ev.bind e1 (Ev.ct (by rw [n1,Nat.beq_refl]) (Ev.bind e2 ?_))
 have key:=qr (P := λ i=>Ev (λ m k=>QO m k l2.length i l2) ((),l2,())) l2 (by omega)
  (λ hc=>by
   refine Ev.loop ?_
   simp only [qkC,qcY]
   exact Ev.cf hc (Ev.pure _))
  (λ i x hx hd hc hg hi hP=>by
   refine Ev.loop ?_
   simp only [qkC,qcY,qe]
   refine Ev.ct hc (Ev.some hg (Ev.bind (qmT x (hs x (m1 x (m2 x (List.mem_of_getElem? hx))))) (Ev.some hg ?_)))
   rw [hi]
   have e:jJ l2 (i:Int) x=l2:=by
    rw [qdc]
    apply List.ext_getElem?
    intro j
    by_cases hj:i=j
    ·subst hj;rw [List.getElem?_set_self (getElem?_lt hx)];exact hx.symm
    ·rw [List.getElem?_set_ne hj]
   rw [e]
   exact hP)
 exact Ev.diag (L := λ m k=>QO m k l2.length 0 l2) (key 0 (Nat.zero_le _))
theorem qHR (t:T) (hs:size t≤100000):∃ l,Ev (λ m _=>qhT m t) l∧(l=[]↔zq 1 t=[]):=by
 obtain ⟨l,h1,h2⟩:=qCA (zq 1 t) (Nat.le_trans (qiG 1 t) hs) λ u hu=>by have:=qv9 1 t u hu;omega
 refine ⟨l,?_,h2⟩
 refine Ev.succ ?_
 simp only [qAo,qj9,qe]
 refine Ev.bind (a:=l) (Ev.succ ?_) (Ev.pure _)
 simp only [qxl,qg5,qe]
 have hw:=qHN t 1 (by omega) [] (by rw [List.length_nil];omega)
 rw [List.nil_append] at hw
 exact Ev.bind hw (Ev.bind h1 (Ev.ret rfl))
noncomputable def ju (t:T):Bool:=qaR t&&qfj t
theorem qi2 (t:T) (hs:size t≤100000):Ev (λ m _=>yW m t) (ju t):=by
 obtain ⟨l,h1,h2⟩:=qHR t hs
 refine Ev.succ ?_
 simp only [qsL,qe6,qe]
 refine Ev.bind (qEn t (by omega)) ?_
 unfold ju qfj
 cases qaR t with
 | false=>exact Ev.cf rfl (Ev.pure _)
 | true =>
   refine Ev.ct rfl (Ev.bind h1 (Ev.ret ?_))
   rw [Bool.true_and]
   by_cases h:zq 1 t=[]
   ·rw [h,h2.2 h];rfl
   ·have hl:l≠[] := λ hl=>h (h2.1 hl)
    have hp:0<l.length:=List.length_pos_iff.2 hl
    rw [qh.2 (by omega)]
    cases hk:zq 1 t with
    | nil=>exact absurd hk h
    | cons x r=>rfl
theorem qBI (l:List T) (t:T):Qs l t≠[]:=by
 cases l with
 | nil=>simp [Qs]
 | cons x l =>
   unfold Qs
   repeat' split
   all_goals exact List.cons_ne_nil _ _
theorem qJz (l:List T) (hs:szL l≤1000000000):Ev (λ m _=>qhD m l) (l.foldl Qs []):=by
 have hll:=jd l
 refine Ev.succ ?_
 simp only [qA1,qgi]
 have fs:∀ (l acc:List T),szL (l.foldl Qs acc)≤szL acc+szL l:=by
  intro l
  induction l with
  | nil=>intro acc;simp [szL]
  | cons x l ih=>intro acc;rw [List.foldl_cons,qK];have:=ih (Qs acc x);have:=qum x acc;omega
 have key:=qr (P := λ i=>Ev (λ m k=>qa9 m k l ((l.take i).foldl Qs []) i) (l.foldl Qs [])) l (by omega)
  (λ hc=>by
   refine Ev.loop ?_
   simp only [qn1,qf0]
   refine Ev.cf hc ?_
   rw [List.take_length];exact Ev.pure _)
  (λ i x hx hd hc hg hi hP=>by
   refine Ev.loop ?_
   simp only [qn1,qf0,qe]
   have h1:=fs (l.take i) []
   have h2:=jE hx
   have h0:szL ([]:List T)=0:=rfl
   refine Ev.ct hc (Ev.some hg (Ev.bind (qD9 _ x (by omega)) ?_))
   rw [hi,qrV]
   rw [zQ hx,List.foldl_append] at hP
   exact hP)
 exact Ev.diag (L := λ m k=>qa9 m k l [] 0) (key 0 (Nat.zero_le _))
theorem qE8 (l:List T):l.foldl Qs []=[]↔l=[]:=by
 constructor
 ·intro h
  cases hl:l with
  | nil=>rfl
  | cons x r =>
    exfalso
    have ne:∀ (r acc:List T),acc≠[]→r.foldl Qs acc≠[]:=by
     intro r
     induction r with
     | nil=>intro acc h;exact h
     | cons y r ih=>intro acc _;exact ih _ (qBI _ _)
    rw [hl,List.foldl_cons] at h
    exact ne r _ (qBI _ _) h
 ·intro h;rw [h];rfl
theorem qGB (t:T) (k:Int) (hs:size t≤10000):Ev (λ m _=>qfR m t k) ((zq k t).foldl Qs []):=by
 refine Ev.succ ?_
 simp only [qyk,qe2,qe]
 refine Ev.bind (qBn t (by omega)) ?_
 have hlen:=qmi t
 have hksz:szL (zq k t)≤1000000000:=by
  have h1:=qBb (qv9 k t)
  have h2:(zq k t).length*size t≤10000*10000:=Nat.mul_le_mul (Nat.le_trans (qiG k t) hs) hs
  omega
 have key:=qr (P := λ i=>Ev (λ m kk=>J8 m kk k (Q0 t) i (((Q0 t).take i).filter λ x=>decide (x.kind=k))) ((zq k t).foldl Qs [])) (Q0 t) (by omega)
  (λ hc=>by
   refine Ev.loop ?_
   simp only [qnj,qe1]
   refine Ev.cf hc ?_
   rw [List.take_length]
   exact Ev.bind (qJz (zq k t) hksz) (Ev.pure _))
  (λ i x hx hd hc hg hi hP=>by
   refine Ev.loop ?_
   simp only [qnj,qe1,qe]
   have h3:=List.length_filter_le (λ x:T=>decide (x.kind=k)) ((Q0 t).take i)
   have h4:=List.length_take_le' i (Q0 t)
   rw [zQ hx,List.filter_append] at hP
   refine Ev.ct hc (Ev.some hg ?_)
   by_cases hk:x.kind=k
   ·refine Ev.ct (qj.2 hk) (Ev.some hg (Ev.ct (zf (by omega) (by omega)) ?_))
    rw [hi]
    simpa [hk] using hP
   ·refine Ev.cf (qh.2 hk) ?_
    rw [hi]
    simpa [hk] using hP)
 exact Ev.diag (L := λ m kk=>J8 m kk k (Q0 t) 0 []) (key 0 (Nat.zero_le _))
theorem qiE (t:T) (hs:size t≤10000):Ev (λ m _=>Qt m t) (ju t):=by
 refine Ev.succ ?_
 simp only [qvf,qgb,qe]
 refine Ev.bind (qEJ t (by omega)) ?_
 unfold ju qfj
 cases qaR t with
 | false=>exact Ev.cf rfl (Ev.pure _)
 | true =>
   have hv:Ev (λ m _=>qgc m t) ((zq 1 t).foldl Qs []):=by
    refine Ev.succ ?_
    simp only [qzW,qh7,qe]
    exact Ev.bind (qGB t 1 hs) (Ev.pure _)
   have hg:Ev (λ m _=>qdd m t) (zq 1 t).isEmpty:=by
    refine Ev.succ ?_
    simp only [qvk,qfE,qe]
    refine Ev.bind hv (Ev.ret ?_)
    by_cases h:zq 1 t=[]
    ·rw [h];rfl
    ·have hl:(zq 1 t).foldl Qs []≠[] := λ hl=>h ((qE8 _).1 hl)
     have hp:0<((zq 1 t).foldl Qs []).length:=List.length_pos_iff.2 hl
     rw [qh.2 (by omega)]
     cases hk:zq 1 t with
     | nil=>exact absurd hk h
     | cons x r=>rfl
   rw [Bool.true_and]
   exact Ev.ct rfl (Ev.bind hg (Ev.pure _))
end Go.AmYtbpnmbmdbblehaaGreat
namespace Go.AmYtbpnmbmdbblehaaGreat
theorem qDR (n:Nat):Jg (n+3000)=some true:=by kernel_rfl
end Go.AmYtbpnmbmdbblehaaGreat
namespace Go.AmYtbpnmbmdbblehaaGreat
open Go Go.GxYtbpnmbmdbblehaaGreat
abbrev Rt:=T × (Int × (List (Int × T) × Int))
theorem qFf (t:T):T.mk t.kind t.name t.sort t.kids=t:=qe t
theorem qtX:Ev (λ m _=>Jg m) true:=⟨3000,λ m k hm _=>by
 obtain ⟨n,rfl⟩:∃ n,m=n+3000:=⟨m-3000,by omega⟩
 exact qDR n⟩
theorem qnZ (t:T) (hs:size t≤1000000000):Ev (λ m _=>zF m t) t:=by
 have hA:Ev (λ m _=>qlR m t []) (t,0):=by
  refine Ev.succ ?_
  simp only [qEY,qiV]
  refine Ev.diag (L := λ m k=>qfm m k [] (([]:List Int).length) 0 t.kind t.name t.sort t.kids 0 [] 0 []) (Ev.loop ?_)
  simp only [qC1,qmX,qFf,qe]
  exact Ev.cf rfl (Ev.bind (qmT t hs) (Ev.pure _))
 refine Ev.succ ?_
 simp only [qq2,qek,qe]
 exact Ev.bind hA (Ev.pure _)
def nHa:List UInt8:=[104,97,115,104]
def nPa:List UInt8:=[112,97,105,114]
def nCh:List UInt8:=[99,104,97,105,110]
def nMs:List UInt8:=[109,101,115,115,97,103,101]
def qmm (s:List UInt8):T := .mk 2 s 5 []
def qe4 (c w:T):T := .mk 3 nHa 0 [.mk 3 nPa 0 [c,w]]
def qf3 (c:T):T:=qe4 c (qmm nCh)
def qdA (c:T):T:=qe4 c (qmm nMs)
theorem qjc (s:List UInt8):size (qmm s)=1:=by rw [qF];rfl
theorem qgo (c w:T):size (qe4 c w)=size c+size w+2:=by
 unfold qe4
 rw [qF]
 show 1+([T.mk 3 nPa 0 [c,w]].map size).sum=_
 rw [List.map_cons,List.map_nil,List.sum_cons,List.sum_nil,qF]
 show 1+(1+([c,w].map size).sum+0)=_
 simp only [List.map_cons,List.map_nil,List.sum_cons,List.sum_nil]
 omega
theorem qn2 (c:T):size (qf3 c)=size c+3:=by unfold qf3;rw [qgo,qjc]
theorem qrp (c:T):size (qdA c)=size c+3:=by unfold qdA;rw [qgo,qjc]
theorem qmN (c w:T) (h1:size c≤1000000000) (h2:size w≤1000000000):Ev (λ m _=>Qj m c w) (qe4 c w):=by
 refine Ev.succ ?_
 simp only [qp6,qds,qe]
 exact Ev.bind (qnZ c h1) (Ev.bind (qnZ w h2) (Ev.pure _))
theorem qEf (s:List UInt8):Ev (λ m _=>qev m s) (qmm s):=Ev.succ (Ev.pure _)
theorem qIL (c:T) (h:size c≤1000000000):Ev (λ m _=>qak m c) (qf3 c):=by
 refine Ev.succ ?_
 simp only [qub,qfK,qe]
 exact Ev.bind (qEf _) (Ev.bind (qmN c _ h (by rw [qjc];omega)) (Ev.pure _))
theorem qJR (c:T) (h:size c≤1000000000):Ev (λ m _=>qa4 m c) (qdA c):=by
 refine Ev.succ ?_
 simp only [qwK,qgR,qe]
 exact Ev.bind (qEf _) (Ev.bind (qmN c _ h (by rw [qjc];omega)) (Ev.pure _))
theorem qqu (c:T) (s:List UInt8):Ev (λ m _=>qau m c s) (qe4 c (qmm s)):=by
 refine Ev.succ ?_
 simp only [qtS,qfe,qe]
 refine Ev.bind (a:=qmm s) (Ev.succ (Ev.pure _)) (Ev.bind (Ju _ _ (by simp)) (Ev.bind (Ju _ _ (by simp)) (Ev.ret rfl)))
theorem qGg (c:T):Ev (λ m _=>qgf m c) (qf3 c):=by
 refine Ev.succ ?_
 simp only [qx7,qh3,qe]
 exact Ev.bind (qqu c _) (Ev.ret rfl)
theorem qHV (c:T):Ev (λ m _=>qhy m c) (qdA c):=by
 refine Ev.succ ?_
 simp only [qAu,qje,qe]
 exact Ev.bind (qqu c _) (Ev.ret rfl)
theorem quO (t:T) (h:size t≤1000000000):Ev (λ m _=>qbW m t) (!decide (qu t=0)):=by
 refine Ev.succ ?_
 simp only [qzk,qh4,qe]
 refine Ev.bind (qaO t h) (Ev.ret ?_)
 by_cases h0:qu t=0
 ·rw [qj.2 h0,decide_eq_true h0];rfl
 ·rw [qh.2 h0,decide_eq_false h0];rfl
def t00:T := .mk 0 [] 0 []
end Go.AmYtbpnmbmdbblehaaGreat
namespace Go.AmYtbpnmbmdbblehaaGreat
open Go Go.GxYtbpnmbmdbblehaaGreat
theorem Ev.iff {α : Type} {F G:Nat→Nat→Option α} {r s : α} {b:Bool} {p:Prop} [Decidable p] (hb:b=true↔p) (h:p→Ev F r) (g:¬p→Ev G s):Ev (λ m k=>cond b (F m k) (G m k)) (if p then r else s):=by
 by_cases hp:p
 ·rw [if_pos hp];exact Ev.ct (hb.2 hp) (h hp)
 ·rw [if_neg hp];exact Ev.cf (Bool.eq_false_iff.2 λ e=>hp (hb.1 e)) (g hp)
noncomputable def qcn (n:Int):Int→List (Int × T)→Int
 | _,[]=>0
 | last,s::l=>if s.1≤last then 1 else if n≤s.1 then 1 else if ju s.2=false then 1 else qcn n s.1 l
noncomputable def Q4 (r:Rt):Int :=
 if ju r.1=false then 1 else if r.2.1<0 then 1 else if 1000<r.2.1 then 1 else if r.2.2.2<0 then 1 else if 8<r.2.2.2 then 1
 else if r.2.2.2<(r.2.2.1.length:Int) then 1 else qcn r.2.1 (-1) r.2.2.1
def Small (s:Nat) (r:Rt):Prop:=r.2.2.1.length<2 ^ 40∧size r.1≤s∧∀ x∈r.2.2.1,size x.2≤s
theorem qhn (r:Rt) (h:Small 10000 r):Ev (λ m _=>yT m r) (Q4 r):=by
 obtain ⟨c,n,l,w⟩:=r
 obtain ⟨hl,h0,h1⟩:=h
 simp only at hl h0 h1
 refine Ev.succ ?_
 simp only [qtY,qbP,qe]
 refine Ev.bind (qi2 c (by omega)) ?_
 unfold Q4
 refine Ev.iff bnt (λ _=>Ev.pure _) λ _=>Ev.iff qs (λ _=>Ev.pure _) λ _=>Ev.iff qs (λ _=>Ev.pure _) λ _=>Ev.iff qs (λ _=>Ev.pure _) λ _=>Ev.iff qs (λ _=>Ev.pure _) λ _=>Ev.iff qs (λ _=>Ev.pure _) λ _=>?_
 have key:=qr (P := λ i=>∀ last,Ev (λ m k=>Qu m k last l l.length i c.kind c.name c.sort c.kids n l w) (qcn n last (l.drop i))) l (by omega)
  (λ hc last=>by
   refine Ev.loop ?_
   simp only [qjG,qb3]
   rw [List.drop_length]
   exact Ev.cf hc (Ev.pure _))
  (λ i x hx hd hc hg hi hP last=>by
   refine Ev.loop ?_
   simp only [qjG,qb3,qe]
   rw [hd]
   refine Ev.ct hc (Ev.some hg (Ev.iff qeg (λ _=>Ev.pure _) λ _=>Ev.iff qeg (λ _=>Ev.pure _) λ _=>?_))
   refine Ev.bind (qi2 x.2 (by have:=h1 x (List.mem_of_getElem? hx);omega)) (Ev.iff bnt (λ _=>Ev.pure _) λ _=>?_)
   rw [hi]
   exact hP x.1)
 exact Ev.diag (L := λ m k=>Qu m k (-1) l l.length 0 c.kind c.name c.sort c.kids n l w) (key 0 (Nat.zero_le _) (-1))
theorem qqt (r:Rt) (h:Small 10000 r):Ev (λ m _=>qaY m r) (Q4 r):=by
 obtain ⟨c,n,l,w⟩:=r
 obtain ⟨hl,h0,h1⟩:=h
 simp only at hl h0 h1
 refine Ev.succ ?_
 simp only [qxg,qd8,qe]
 refine Ev.bind (qiE c h0) ?_
 unfold Q4
 refine Ev.iff bnt (λ _=>Ev.pure _) λ _=>Ev.iff qs (λ _=>Ev.pure _) λ _=>Ev.iff qs (λ _=>Ev.pure _) λ _=>Ev.iff qs (λ _=>Ev.pure _) λ _=>Ev.iff qs (λ _=>Ev.pure _) λ _=>Ev.iff qs (λ _=>Ev.pure _) λ _=>?_
 have key:=qr (P := λ i=>∀ last,Ev (λ m k=>JD m k last i c.kind c.name c.sort c.kids n l w) (qcn n last (l.drop i))) l (by omega)
  (λ hc last=>by
   refine Ev.loop ?_
   simp only [qlz,qdZ]
   rw [List.drop_length]
   exact Ev.cf hc (Ev.pure _))
  (λ i x hx hd hc hg hi hP last=>by
   refine Ev.loop ?_
   simp only [qlz,qdZ,qe]
   rw [hd]
   refine Ev.ct hc (Ev.some hg (Ev.iff qeg (λ _=>Ev.pure _) λ _=>Ev.some hg (Ev.iff qeg (λ _=>Ev.pure _) λ _=>Ev.some hg ?_)))
   refine Ev.bind (qiE x.2 (h1 x (List.mem_of_getElem? hx))) (Ev.iff bnt (λ _=>Ev.pure _) λ _=>Ev.some hg ?_)
   rw [hi]
   exact hP x.1)
 exact Ev.diag (L := λ m k=>JD m k (-1) 0 c.kind c.name c.sort c.kids n l w) (key 0 (Nat.zero_le _) (-1))
def qjA (r:Rt):List T:=r.1::r.2.2.1.map (·.2)
theorem qCv (r:Rt) (h:r.2.2.1.length<2 ^ 40):Ev (λ m _=>qbD m r) (qjA r):=by
 obtain ⟨c,n,l,w⟩:=r
 have hl:=h
 simp only at hl
 refine Ev.succ ?_
 simp only [qun,qcC,qe]
 have key:=qr (P := λ i=>∀ o,o.length≤i+1→Ev (λ m k=>QY m k i c.kind c.name c.sort c.kids n l w o) (o++(l.drop i).map (·.2))) l (by omega)
  (λ hc o ho=>by
   refine Ev.loop ?_
   simp only [qkx,qcI]
   rw [List.drop_length,List.map_nil,List.append_nil]
   exact Ev.cf hc (Ev.pure _))
  (λ i x hx hd hc hg hi hP o ho=>by
   refine Ev.loop ?_
   simp only [qkx,qcI,qe]
   have hb:=getElem?_lt hx
   refine Ev.ct hc (Ev.some hg (Ev.ct (zf (by omega) (by omega)) ?_))
   have hP':=hP (o++[x.2]) (by rw [List.length_append,List.length_singleton];omega)
   rw [List.append_assoc,List.singleton_append] at hP'
   rw [hi,hd,List.map_cons]
   exact hP')
 refine Ev.diag (L := λ m k=>QY m k 0 c.kind c.name c.sort c.kids n l w [c]) ?_
 exact key 0 (Nat.zero_le _) [c] (by simp)
noncomputable def qsp (r:Rt):Bool:=decide (r.2.2.1.length≤12)&&(decide ((qjA r).length≤13)&&qmc (qjA r) 600)
theorem qGe (r:Rt) (hl:r.2.2.1.length<2 ^ 62) (hf:∀ x∈qjA r,qjD x):Ev (λ m _=>qfs m r) (qsp r):=by
 obtain ⟨c,n,l,w⟩:=r
 refine Ev.succ ?_
 simp only [qA5,qjx,qe]
 unfold qsp
 by_cases h:l.length≤12
 ·refine Ev.ct (qeg.2 (by omega)) (Ev.bind (qCv _ (by show l.length<_;omega)) (Ev.bind (qDP _ (by show (l.map _).length+1<_;rw [List.length_map];omega) hf 13 600 (by omega) (by omega)) (Ev.ret ?_)))
  rw [decide_eq_true (show ((c,n,l,w):Rt).2.2.1.length≤12 from h),Bool.true_and]
 ·refine Ev.cf (qkt.2 (by omega)) (Ev.ret ?_)
  rw [decide_eq_false (show ¬((c,n,l,w):Rt).2.2.1.length≤12 from h)];rfl
def qDG (r:Rt):Prop:=qjD r.1∧(IntKind.i64.min≤r.2.1∧r.2.1≤IntKind.i64.max)∧(r.2.2.1.length<2 ^ 62∧∀ x∈r.2.2.1,(IntKind.i64.min≤x.1∧x.1≤IntKind.i64.max)∧qjD x.2)∧(IntKind.i64.min≤r.2.2.2∧r.2.2.2≤IntKind.i64.max)
theorem qDG.fit {r:Rt} (h:qDG r):∀ x∈qjA r,qjD x := λ x hx=>by
 rcases List.mem_cons.1 hx with rfl | hx
 ·exact h.1
 ·obtain ⟨y,hy,rfl⟩:=List.mem_map.1 hx
  exact (h.2.2.1.2 y hy).2
theorem qAR {r:Rt} (h:qsp r=true):Small 600 r∧r.2.2.1.length≤12:=by
 unfold qsp at h
 rw [Bool.and_eq_true,Bool.and_eq_true,decide_eq_true_iff] at h
 have hs:=qyI (by omega) h.2.2
 exact ⟨⟨by have:=h.1;omega,by have:=hs r.1 (List.mem_cons_self ..);omega,λ x hx=>by have:=hs x.2 (List.mem_cons_of_mem _ (List.mem_map.2 ⟨x,hx,rfl⟩));omega⟩,h.1⟩
theorem Small.mono {a b:Nat} {r:Rt} (h:Small a r) (hab:a≤b):Small b r:=⟨h.1,Nat.le_trans h.2.1 hab,λ x hx=>Nat.le_trans (h.2.2 x hx) hab⟩
end Go.AmYtbpnmbmdbblehaaGreat
namespace Go.AmYtbpnmbmdbblehaaGreat
open Go Go.GxYtbpnmbmdbblehaaGreat
theorem qho {c:T} (h:qaR c=true):qu c=0∧qZ c=0∧zi c=(c,0)∧qeA pPl c=true:=by
 unfold qaR at h
 rw [Bool.and_eq_true,Bool.and_eq_true,decide_eq_true_iff] at h
 obtain ⟨h1,h2,h3⟩:=h
 rw [jW] at h2
 rw [qgF] at h1 h2
 by_cases a1:qhg c=0
 ·rw [if_neg (by rw [a1];decide)] at h1 h2
  by_cases a2:(zi c).2=0
  ·rw [if_neg (by rw [a2];decide)] at h1 h2
   by_cases a3:qu (zi c).1=0
   ·rw [if_neg (by rw [a3];decide)] at h1 h2
    exact ⟨(qkU a1).1,(qkU a1).2,Prod.ext h2 a2,h3⟩
   ·rw [if_pos a3] at h1;exact absurd h1 a3
  ·rw [if_pos a2] at h1;exact absurd h1 a2
 ·rw [if_pos a1] at h1;exact absurd h1 a1
theorem qzv {c:T} (h1:qu c=0) (h2:qZ c=0) (h3:zi c=(c,0)) (h4:qeA pPl c=true):qaR c=true:=by
 have hv:qhg c=0:=by unfold qhg;rw [h1,h2];rfl
 have hn:qhf c=(c,0):=by
  rw [qgF,if_neg (by rw [hv];decide),h3,if_neg (λ h=>h rfl),if_neg (by show ¬ qu c≠0;rw [h1];decide)]
 unfold qaR
 rw [hn,h4,Bool.and_true,Bool.and_eq_true]
 exact ⟨decide_eq_true rfl,jW.2 rfl⟩
theorem qEj {n:List UInt8} {ks:List T} (hk:∀ k∈ks,qaR k=true) (hK:qas (apT n ks)=0) (hp:pPl n=true) (h1:isD n=false) (h2:n≠qcz) (h3:¬ (n=qeu∨n=j9∨n=qgG)) (h4:n≠qcu) (hv:qu (apT n ks)=0):qaR (apT n ks)=true:=by
 have hks:nks ks=ks:=by
  unfold nks
  rw [List.map_map]
  conv=>rhs;rw [← List.map_id ks]
  exact List.map_congr_left λ k hk'=>by rw [Function.comp_apply,(qho (hk k hk')).2.2.1];rfl
 have her:erN ks=0:=qjj _ λ y hy=>by
  obtain ⟨x,hx,rfl⟩:=List.mem_map.1 hy
  obtain ⟨k,hk',rfl⟩:=List.mem_map.1 hx
  rw [(qho (hk k hk')).2.2.1]
 refine qzv hv (qf4 hK λ k hk'=>(qho (hk k hk')).2.1) ?_ ?_
 ·rw [qu7 rfl]
  show (if erN ks≠0 then _ else QV (apT n (nks ks)))=_
  rw [if_neg (by rw [her];decide),hks,qom (t:=apT n ks) h1 h2 h3 h4]
 ·rw [qkg,Bool.and_eq_true]
  constructor
  ·show (!((3:Int)==3)||pPl n)=true
   rw [hp,Bool.or_true]
  ·rw [List.all_eq_true]
   intro x hx
   obtain ⟨k,hk',rfl⟩:=List.mem_map.1 hx
   exact (qho (hk k hk')).2.2.2
theorem qCS {n:List UInt8} {ks:List T} (hk:∀ k∈ks,qfj k=true):qfj (apT n ks)=true:=by
 have:zq 1 (apT n ks)=[]:=by
  rw [qkQ,if_neg (by show ¬ ((3:Int)=1);decide),List.nil_append,List.flatten_eq_nil_iff]
  intro l hl
  obtain ⟨k,hk',rfl⟩:=List.mem_map.1 hl
  exact List.isEmpty_iff.1 (hk k hk')
 unfold qfj
 rw [this];rfl
theorem qvD {n:List UInt8} {ks:List T} (hk:∀ k∈ks,ju k=true) (hK:qas (apT n ks)=0) (hp:pPl n=true) (h1:isD n=false) (h2:n≠qcz) (h3:¬ (n=qeu∨n=j9∨n=qgG)) (h4:n≠qcu) (hv:qu (apT n ks)=0):ju (apT n ks)=true:=by
 unfold ju
 rw [Bool.and_eq_true]
 have hk':∀ k∈ks,qaR k=true∧qfj k=true := λ k h=>by have:=hk k h;unfold ju at this;rwa [Bool.and_eq_true] at this
 exact ⟨qEj (λ k h=>(hk' k h).1) hK hp h1 h2 h3 h4 hv,qCS λ k h=>(hk' k h).2⟩
theorem qDS {t k:T} (h:qu t=0) (hk:k∈t.kids):qu k=0:=by
 have hn:=qql h
 have hk0:=(qk6 hn).2 k hk
 unfold qu at h ⊢
 rw [if_neg (by rw [hn];decide)] at h
 rw [if_neg (by rw [hk0];decide),if_neg]
 have h1:¬ (400<size t∨40<qa6 t) := λ h'=>by rw [if_pos h'] at h;exact absurd h (by decide)
 have h2:=y9 t k hk
 have h3:qa6 k≤qa6 t:=by
  rw [qfo t]
  have aux:∀ (l:List T),k∈l→∀ a,qa6 k≤(l.map qa6).foldl max a:=by
   intro l
   induction l with
   | nil=>intro h;cases h
   | cons x l ih =>
     intro h a
     rw [List.map_cons,List.foldl_cons]
     rcases List.mem_cons.1 h with rfl | h
     ·exact Nat.le_trans (Nat.le_max_right _ _) (qzA _ _)
     ·exact ih h _
  have:=aux t.kids hk 0
  omega
 omega
theorem qr8 {c w:T} (hc:ju c=true) (hw:ju w=true) (hv:qu (qe4 c w)=0):ju (qe4 c w)=true:=by
 have hp:ju (apT nPa [c,w])=true:=by
  refine qvD (λ k hk=>?_) (qce (by decide) (show (qB nPa).1≤2 by decide) (show 2≤(qB nPa).2.1 by decide) (qfx (by decide) (by decide) (by decide) _)) (by decide) (by decide) (by decide) (by decide) (by decide) (qDS hv (List.mem_singleton.2 rfl))
  rcases List.mem_cons.1 hk with rfl | hk
  ·exact hc
  ·rw [List.mem_singleton.1 hk];exact hw
 refine qvD (n:=nHa) (ks:=[apT nPa [c,w]]) (λ k hk=>?_) (qce (by decide) (show (qB nHa).1≤1 by decide) (show 1≤(qB nHa).2.1 by decide) (qfx (by decide) (by decide) (by decide) _)) (by decide) (by decide) (by decide) (by decide) (by decide) hv
 rw [List.mem_singleton.1 hk];exact hp
theorem qE9 {s:List UInt8} (hn:QI s=true):ju (qmm s)=true:=by
 have h0:Jk (qmm s)=0:=by
  rw [qhw]
  show qkY 2 5 0 (QI s)=0
  rw [hn];rfl
 have hv:qu (qmm s)=0:=by
  unfold qu
  rw [if_neg (by rw [h0];decide),qjc,qfo]
  rfl
 unfold ju
 rw [Bool.and_eq_true]
 constructor
 ·refine qzv hv (by rw [qi8];rfl) (qfq (by show ¬ ((2:Int)=3);decide)) ?_
  rw [qkg];rfl
 ·unfold qfj
  rw [qkQ];rfl
theorem qDz {c:T} (hc:ju c=true) (hv:qu (qf3 c)=0):ju (qf3 c)=true:=qr8 hc (qE9 (by decide)) hv
theorem qsF (n:Int):∀ (l:List (Int × T)) (last:Int),qcn n last l=0∨qcn n last l=1
 | [],_ => .inl rfl
 | s::l,last=>by
   unfold qcn
   split
   ·exact .inr rfl
   split
   ·exact .inr rfl
   split
   ·exact .inr rfl
   ·exact qsF n l s.1
theorem qqo (r:Rt):Q4 r=0∨Q4 r=1:=by
 unfold Q4
 iterate 6
  split
  ·exact .inr rfl
 exact qsF _ _ _
theorem qqq {n n':Int} (h:n≤n'):∀ (l:List (Int × T)) (last:Int),qcn n last l=0→qcn n' last l=0
 | [],_ => λ h=>h
 | s::l,last=>by
   unfold qcn
   intro h0
   split at h0
   ·cases h0
   split at h0
   ·cases h0
   split at h0
   ·cases h0
   ·rename_i a b c
    rw [if_neg a,if_neg (by omega),if_neg c]
    exact qqq h l s.1 h0
theorem qeL {r:Rt} (h:Q4 r=0):ju r.1=true∧0≤r.2.1∧r.2.1≤1000∧0≤r.2.2.2∧r.2.2.2≤8∧(r.2.2.1.length:Int)≤r.2.2.2∧qcn r.2.1 (-1) r.2.2.1=0:=by
 unfold Q4 at h
 iterate 6
  split at h
  ·cases h
 rename_i a b c d e f
 exact ⟨Bool.not_eq_false _▸a,by omega,by omega,by omega,by omega,by omega,h⟩
theorem qsS {r:Rt} (h:ju r.1=true∧0≤r.2.1∧r.2.1≤1000∧0≤r.2.2.2∧r.2.2.2≤8∧(r.2.2.1.length:Int)≤r.2.2.2∧qcn r.2.1 (-1) r.2.2.1=0):Q4 r=0:=by
 obtain ⟨h1,h2,h3,h4,h5,h6,h7⟩:=h
 unfold Q4
 rw [if_neg (by rw [h1];decide),if_neg (by omega),if_neg (by omega),if_neg (by omega),if_neg (by omega),if_neg (by omega)]
 exact h7
theorem qEv (r:Rt) (h:Small 1000000000 r):Ev (λ m _=>qaX m r) ((),(r.1,r.2.1,r.2.2.1,r.2.2.2,()),()):=by
 obtain ⟨c,n,l,w⟩:=r
 obtain ⟨hl,h0,h1⟩:=h
 simp only at hl h0 h1
 refine Ev.succ ?_
 simp only [qwU,qdU,qe]
 refine Ev.bind (qnZ c h0) ?_
 have key:=qr (P := λ i=>∀ o,o.length≤i→Ev (λ m k=>JC m k l l.length i c.kind c.name c.sort c.kids n l w 0 [] 0 0 0 [] [] o) ((),(c,n,o++l.drop i,w,()),())) l (by omega)
  (λ hc o ho=>by
   refine Ev.loop ?_
   simp only [ql1,qd1,qFf]
   rw [List.drop_length,List.append_nil]
   exact Ev.cf hc (Ev.pure _))
  (λ i x hx hd hc hg hi hP o ho=>by
   refine Ev.loop ?_
   simp only [ql1,qd1,qe]
   have hb:=getElem?_lt hx
   refine Ev.ct hc (Ev.some hg (Ev.bind (qnZ x.2 (h1 x (List.mem_of_getElem? hx))) (Ev.ct (zf (by omega) (by omega)) ?_)))
   have hP':=hP (o++[x]) (by rw [List.length_append,List.length_singleton];omega)
   rw [List.append_assoc,List.singleton_append] at hP'
   rw [hi,hd]
   exact hP')
 exact Ev.diag (L := λ m k=>JC m k l l.length 0 c.kind c.name c.sort c.kids n l w 0 [] 0 0 0 [] [] []) (key 0 (Nat.zero_le _) [] (by simp))
def r00:Rt:=(t00,(0,([],0)))
def qmJ (m k:T):T := .mk 3 qk5 0 [m,k]
theorem qr0 (m k:T):size (qmJ m k)=size m+size k+1:=by
 unfold qmJ
 rw [qF]
 show 1+([m,k].map size).sum=_
 simp only [List.map_cons,List.map_nil,List.sum_cons,List.sum_nil]
 omega
noncomputable def qfN (r:Rt) (m:T):Rt × ((Int × T) × Int) :=
 if Q4 r≠0 then (r00,((0,t00),1)) else if ju m=false then (r00,((0,t00),10)) else if r.2.1=1000 then (r00,((0,t00),7))
 else if qu (qf3 r.1)≠0 then (r00,((0,t00),3)) else if qu (qmJ m (qdA r.1))≠0 then (r00,((0,t00),3))
 else ((qf3 r.1,(r.2.1+1,(r.2.2.1,r.2.2.2))),((r.2.1,qmJ m (qdA r.1)),0))
theorem qm5 {a b:Int}:qb (ieq a b)=true↔a≠b:=by rw [bnt,qh]
theorem qFZ (r:Rt) (m:T) (h:Small 10000 r) (hm:size m≤10000):Ev (λ n _=>qdC n r m) (qfN r m):=by
 obtain ⟨c,n,l,w⟩:=r
 have h0:=h.2.1
 simp only at h0
 refine Ev.succ ?_
 simp only [qvh,qfI,qe]
 unfold qfN
 refine Ev.bind (qhn _ h) (Ev.iff qm5 (λ _=>Ev.pure _) λ hv=>Ev.bind (qi2 m (by omega)) (Ev.iff bnt (λ _=>Ev.pure _) λ _=>Ev.iff qj (λ _=>Ev.pure _) λ _=>?_))
 have hf:=qeL (Decidable.not_not.1 hv)
 simp only at hf
 refine Ev.bind (qEv _ (h.mono (by omega))) (Ev.bind (qnZ m (by omega)) (Ev.bind (qJR c (by omega)) (Ev.bind (qIL c (by omega)) ?_)))
 refine Ev.bind (JZ _ (by rw [qn2];omega)) (Ev.iff qm5 (λ _=>Ev.pure _) λ _=>Ev.bind (JZ (qmJ m (qdA c)) (by rw [qr0,qrp];omega)) (Ev.iff qm5 (λ _=>Ev.pure _) λ _=>Ev.ret ?_))
 have e:iw .i64 (qi n 1)=n+1:=by rw [Qq (by unfold qi;omega)];rfl
 show (((qf3 c,(iw .i64 (qi n 1),(l,w))),((n,qmJ m (qdA c)),0)):Rt × ((Int × T) × Int))=_
 rw [e]
theorem qqD {t:T}:(!decide (qu t=0))=true↔qu t≠0:=by
 rw [Bool.not_eq_true',decide_eq_false_iff_not]
theorem qFG (r:Rt) (m:T) (h:Small 10000 r) (hm:size m≤10000):Ev (λ n _=>qd4 n r m) (qfN r m):=by
 obtain ⟨c,n,l,w⟩:=r
 have h0:=h.2.1
 simp only at h0
 refine Ev.succ ?_
 simp only [qzY,qid,qe]
 unfold qfN
 refine Ev.bind (qqt _ h) (Ev.iff qm5 (λ hv=>Ev.ret ?_) λ hv=>Ev.bind (qiE m hm) (Ev.iff bnt (λ _=>Ev.pure _) λ _=>Ev.iff qj (λ _=>Ev.pure _) λ _=>?_))
 ·rw [(qqo (c,n,l,w)).resolve_left hv];rfl
 have hf:=qeL (Decidable.not_not.1 hv)
 simp only at hf
 refine Ev.bind (qHV c) (Ev.bind (Ju _ _ (by simp)) (Ev.bind (qGg c) (Ev.bind (quO _ (by rw [qn2];omega)) ?_)))
 refine Ev.iff qqD (λ _=>Ev.pure _) λ _=>Ev.bind (quO (qmJ m (qdA c)) (by rw [qr0,qrp];omega)) (Ev.iff qqD (λ _=>Ev.pure _) λ _=>Ev.ret ?_)
 have e:iw .i64 (qi n 1)=n+1:=by rw [Qq (by unfold qi;omega)];rfl
 show (((qf3 c,(iw .i64 (qi n 1),(l,w))),((n,qmJ m (qdA c)),0)):Rt × ((Int × T) × Int))=_
 rw [e]
noncomputable def qeV (r:Rt) (m:T):Rt × Int :=
 if Q4 r≠0 then (r00,1) else if ju m=false then (r00,10) else if qu (qe4 r.1 m)≠0 then (r00,3) else ((qe4 r.1 m,(r.2.1,(r.2.2.1,r.2.2.2))),0)
theorem qFA (r:Rt) (m:T) (h:Small 10000 r) (hm:size m≤10000):Ev (λ n _=>qdo n r m) (qeV r m):=by
 obtain ⟨c,n,l,w⟩:=r
 have h0:=h.2.1
 simp only at h0
 refine Ev.succ ?_
 simp only [quv,qgt,qe]
 unfold qeV
 refine Ev.bind (qhn _ h) (Ev.iff qm5 (λ _=>Ev.pure _) λ hv=>Ev.bind (qi2 m (by omega)) (Ev.iff bnt (λ _=>Ev.pure _) λ _=>?_))
 refine Ev.bind (qEv _ (h.mono (by omega))) (Ev.bind (qmN c m (by omega) (by omega)) ?_)
 exact Ev.bind (JZ _ (by rw [qgo];omega)) (Ev.iff qm5 (λ _=>Ev.pure _) λ _=>Ev.pure _)
theorem qGI (r:Rt) (m:T) (h:Small 10000 r) (hm:size m≤10000):Ev (λ n _=>qga n r m) (qeV r m):=by
 obtain ⟨c,n,l,w⟩:=r
 have h0:=h.2.1
 simp only at h0
 refine Ev.succ ?_
 simp only [qxU,qh2,qe]
 unfold qeV
 refine Ev.bind (qqt _ h) (Ev.iff qm5 (λ hv=>Ev.ret ?_) λ hv=>Ev.bind (qiE m hm) (Ev.iff bnt (λ _=>Ev.pure _) λ _=>?_))
 ·rw [(qqo (c,n,l,w)).resolve_left hv];rfl
 refine Ev.bind (Ju _ _ (by simp)) (Ev.bind (Ju _ _ (by simp)) (Ev.bind (quO (qe4 c m) (by rw [qgo];omega)) ?_))
 exact Ev.iff qqD (λ _=>Ev.pure _) λ _=>Ev.pure _
end Go.AmYtbpnmbmdbblehaaGreat
namespace Go.AmYtbpnmbmdbblehaaGreat
open Go Go.GxYtbpnmbmdbblehaaGreat
theorem qvW (r:Rt) (hl:r.2.2.1.length<2 ^ 62) (h0:size r.1≤1000000000) (h1:∀ s∈r.2.2.1,size s.2≤1000000000):Ev (λ m _=>qdK m r r) true:=by
 obtain ⟨c,n,l,w⟩:=r
 refine Ev.succ ?_
 simp only [qya,qeQ,qe]
 have eq0:∀ x:Int,qb (ieq x x)=false := λ x=>bnf.2 (qj.2 rfl)
 refine Ev.cf (eq0 _) (Ev.cf (eq0 _) (Ev.cf (eq0 _) (Ev.bind (qb0 c c h0 h0) (Ev.cf (bnf.2 (jW.2 rfl)) ?_))))
 have key:=qr (P := λ i=>Ev (λ m k=>qae m k i c.kind c.name c.sort c.kids n l w c.kind c.name c.sort c.kids n l w) true) l hl
  (λ hc=>by
   refine Ev.loop ?_
   simp only [qnu,qeX]
   exact Ev.cf hc (Ev.pure _))
  (λ i x hx hd hc hg hi hP=>by
   refine Ev.loop ?_
   simp only [qnu,qeX,qe]
   have h2:=h1 x (List.mem_of_getElem? hx)
   refine Ev.ct hc (Ev.some hg (Ev.some hg (Ev.cf (eq0 _) (Ev.some hg (Ev.some hg (Ev.bind (qb0 _ _ h2 h2) (Ev.cf (bnf.2 (jW.2 rfl)) ?_)))))))
   rw [hi]
   exact hP)
 exact Ev.diag (L := λ m k=>qae m k 0 c.kind c.name c.sort c.kids n l w c.kind c.name c.sort c.kids n l w) (key 0 (Nat.zero_le _))
end Go.AmYtbpnmbmdbblehaaGreat
namespace Go.AmYtbpnmbmdbblehaaGreat
open Go Go.GxYtbpnmbmdbblehaaGreat
theorem qv2:Small 10000 r00:=⟨by show 0<_;omega,by show size t00≤_;rw [show size t00=1 by rw [qF];rfl];omega,λ x hx=>by cases hx⟩
theorem qAp {r:Rt} {m:T} (h:Small 600 r) (hm:size m≤100):Small 10000 (qfN r m).1∧size (qfN r m).2.1.2≤10000:=by
 have h0:size t00≤10000:=by rw [show size t00=1 by rw [qF];rfl];omega
 have h1:=h.2.1
 unfold qfN
 iterate 5
  split
  ·exact ⟨qv2,h0⟩
 exact ⟨⟨h.1,by show size (qf3 r.1)≤_;rw [qn2];omega,λ x hx=>by have:=h.2.2 x hx;omega⟩,by show size (qmJ m (qdA r.1))≤_;rw [qr0,qrp];omega⟩
theorem qAB {r:Rt} {m:T} (h:Small 600 r) (hm:size m≤100):Small 10000 (qeV r m).1:=by
 have h1:=h.2.1
 unfold qeV
 iterate 3
  split
  ·exact qv2
 exact ⟨h.1,by show size (qe4 r.1 m)≤_;rw [qgo];omega,λ x hx=>by have:=h.2.2 x hx;omega⟩
theorem qAv {r:Rt} {m:T} (h:(qfN r m).2.2=0):Q4 (qfN r m).1=0:=by
 unfold qfN at h ⊢
 iterate 5
  split at h
  ·cases h
 rename_i a b c d e
 rw [if_neg a,if_neg b,if_neg c,if_neg d,if_neg e]
 obtain ⟨h1,h2,h3,h4,h5,h6,h7⟩:=qeL (Decidable.not_not.1 a)
 exact qsS ⟨qDz h1 (Decidable.not_not.1 d),by show 0≤r.2.1+1;omega,by show r.2.1+1≤1000;omega,h4,h5,h6,qqq (by show r.2.1≤r.2.1+1;omega) _ _ h7⟩
theorem qAO {r:Rt} {m:T} (h:(qeV r m).2=0):Q4 (qeV r m).1=0:=by
 unfold qeV at h ⊢
 iterate 3
  split at h
  ·cases h
 rename_i a b c
 rw [if_neg a,if_neg b,if_neg c]
 obtain ⟨h1,h2,h3,h4,h5,h6,h7⟩:=qeL (Decidable.not_not.1 a)
 exact qsS ⟨qr8 h1 (Bool.not_eq_false _▸b) (Decidable.not_not.1 c),h2,h3,h4,h5,h6,h7⟩
theorem ratchetSend_ev (r:Rt) (m:T) (hf:qDG r) (hfm:qjD m):Ev (λ n _=>law53_RatchetSend n r m) true:=by
 refine Ev.succ ?_
 simp only [qnR,qb2,qe]
 have hj:Ev (λ m _=>qa (Jg m) λ v2=>some v2) true:=Ev.bind qtX (Ev.pure _)
 refine Ev.bind qtX (Ev.cf rfl (Ev.bind (qGe r hf.2.2.1.1 hf.fit) ?_))
 cases hb:qsp r with
 | false=>exact Ev.ct rfl hj
 | true =>
   obtain ⟨hs,h12⟩:=qAR hb
   refine Ev.cf rfl (Ev.bind (qDP [m] (by simp) (λ x hx=>by rw [List.mem_singleton.1 hx];exact hfm) 1 100 (by omega) (by omega)) ?_)
   cases hb2:(decide ([m].length≤1)&&qmc [m] 100) with
   | false=>exact Ev.ct rfl hj
   | true =>
     rw [Bool.and_eq_true] at hb2
     have hms:size m≤100:=by have:=qyI (by omega) hb2.2 m (List.mem_singleton.2 rfl);omega
     have h1:=qAp hs hms
     have h2:=qAB hs hms
     have eq0:∀ x:Int,qb (ieq x x)=false := λ x=>bnf.2 (qj.2 rfl)
     refine Ev.cf rfl (Ev.bind (qFZ r m (hs.mono (by omega)) (by omega)) (Ev.bind (qFG r m (hs.mono (by omega)) (by omega)) (Ev.bind (qFA r m (hs.mono (by omega)) (by omega)) (Ev.bind (qGI r m (hs.mono (by omega)) (by omega)) ?_))))
     refine Ev.cf (eq0 _) (Ev.cf (eq0 _) (Ev.bind (qvW (qfN r m).1 (by have:=h1.1.1;omega) (by have:=h1.1.2.1;omega) λ x hx=>by have:=h1.1.2.2 x hx;omega) (Ev.cf rfl ?_)))
     refine Ev.bind (qvW (qeV r m).1 (by have:=h2.1;omega) (by have:=h2.2.1;omega) λ x hx=>by have:=h2.2.2 x hx;omega) (Ev.cf rfl (Ev.cf (eq0 _) ?_))
     refine Ev.bind (qb0 _ _ (by have:=h1.2;omega) (by have:=h1.2;omega)) (Ev.cf (bnf.2 (jW.2 rfl)) ?_)
     have h3:Ev (λ n _=>cond (qb (ieq (qeV r m).2 0)) (some true) (qa (yT n (qeV r m).1) λ v14=>some (ieq v14 0))) true:=by
      refine Ev.ite (λ _=>Ev.pure _) λ he=>?_
      rw [bnf,qj] at he
      refine Ev.bind (qhn _ h2) (Ev.ret ?_)
      rw [qAO he];rfl
     refine Ev.ite (λ _=>h3) λ he=>?_
     rw [bnf,qj] at he
     refine Ev.bind (qhn _ h1.1) (Ev.ct ?_ h3)
     rw [qAv he];rfl
end Go.AmYtbpnmbmdbblehaaGreat
namespace Go.AmYtbpnmbmdbblehaaGreat
open Go Go.GxYtbpnmbmdbblehaaGreat
set_option linter.unusedVariables false
set_option maxRecDepth 100000
open Go.Proofs.Tryz (f6 f8 f10 f11 f12 f13 f14 f16 f17 f18 f19 f21 f22 f23 f24 f25 f26 f27 f28 f29 f30 f31 f35 f36 f37 f38 f39 f40 f41 f42 f43 f44 f45 f46 f47 f48 f49 f50 f51 f54 f62 f64 f65 f66 f67 f68 f69 f70 f71 f72 f73 f74 f75 f76 f77 f78 f79 f81 f85 f86 f87 f88 f89 f90 f91 f92 f93 f94 f95 f96 f97 f98 f99 f100 f101 f102 f103 f104 f120 f121 f122 f123 f124 f125 f127 f128 f129 f130 f131 f132 f133 f134 f143 f146 f147 f148 f149 f150 f151 f152 f156 f157 f158 f159 f160 f161 f163 f164 f167 f168 f169 f172 f173 f174 f175 f176 f177 f178 f179 f180 f181 f182 f183 f184 f185 f188 f189 f190 f191 f192 f193 f195 f197 f198 f199 f202 f203 f214 f215 f219 f220 f223 f224 f235)
noncomputable def i6:FI:=⟨f6,[.val (.pair .term (.pair (.int .i64) (.pair (.list (.pair (.int .i64) .term)) (.int .i64))))],[.bool],[],[],λ m x=>qhS m x.1⟩
noncomputable def i8:FI:=⟨f8,[.val (.pair .term (.pair (.int .i64) (.pair (.list (.pair (.int .i64) .term)) (.int .i64)))),.val .term],[.bool],[],[],λ m x=>law53_RatchetSend m x.1 x.2.1⟩
noncomputable def i10:FI:=⟨f10,[],[.bool],[],[],λ m x=>Jg m⟩
noncomputable def i11:FI:=⟨f11,[.val (.list .term),.val (.int .i64),.val (.int .i64)],[.bool],[(4,[(0,.list .term),(2,.keep),(7,.keep)])],[],λ m x=>qfB m x.1 x.2.1 x.2.2.1⟩
noncomputable def i12:FI:=⟨f12,[.val .term],[(.pair .term (.pair (.int .i64) (.pair (.list (.pair (.int .i64) .term)) (.int .i64)))),(.int .i64)],[],[],λ m x=>qlh m x.1⟩
noncomputable def i13:FI:=⟨f13,[.val .term],[(.pair .term (.pair (.int .i64) (.pair (.list (.pair (.int .i64) .term)) (.int .i64)))),(.int .i64)],[],[],λ m x=>qoD m x.1⟩
noncomputable def i14:FI:=⟨f14,[.val .term,.val (.int .i64)],[.term,(.int .i64)],[(7,[(4,.box [.keep,.keep,.keep,.row .term false]),(6,.box [.keep,.keep,.keep,.list .term]),(21,.keep),(22,.keep)])],[],λ m x=>qhk m x.1 x.2.1⟩
noncomputable def i16:FI:=⟨f16,[.val (.pair .term (.pair (.int .i64) (.pair (.list (.pair (.int .i64) .term)) (.int .i64)))),.val (.pair .term (.pair (.int .i64) (.pair (.list (.pair (.int .i64) .term)) (.int .i64))))],[.bool],[(4,[(2,.box [.keep,.keep,.keep,.list .term,.keep,.list (.pair (.int .i64) .term),.keep]),(3,.box [.keep,.keep,.keep,.list .term,.keep,.list (.pair (.int .i64) .term),.keep]),(5,.keep)])],[],λ m x=>qdK m x.1 x.2.1⟩
noncomputable def i17:FI:=⟨f17,[.val .term,.val .term],[.bool],[],[],λ m x=>yD m x.1 x.2.1⟩
noncomputable def i18:FI:=⟨f18,[.val (.pair .term (.pair (.int .i64) (.pair (.list (.pair (.int .i64) .term)) (.int .i64))))],[.bool],[],[],λ m x=>qfs m x.1⟩
noncomputable def i19:FI:=⟨f19,[.val (.pair .term (.pair (.int .i64) (.pair (.list (.pair (.int .i64) .term)) (.int .i64)))),.val (.pair (.int .i64) .term)],[(.pair .term (.pair (.int .i64) (.pair (.list (.pair (.int .i64) .term)) (.int .i64)))),.term,(.int .i64)],[(17,[(3,.box [.keep,.keep,.keep,.keep,.list .term]),(4,.box [.keep,.keep,.keep,.row .term false,.keep,.row (.pair (.int .i64) .term) false,.keep]),(5,.box [.keep,.keep,.keep,.row .term false]),(7,.box [.keep,.keep,.keep,.list .term,.keep,.row (.pair (.int .i64) .term) false,.keep])])],[],λ m x=>qaI m x.1 x.2.1⟩
noncomputable def i21:FI:=⟨f21,[.val (.pair .term (.pair (.int .i64) (.pair (.list (.pair (.int .i64) .term)) (.int .i64))))],[(.int .i64)],[(5,[(1,.box [.keep,.keep,.keep,.list .term,.keep,.list (.pair (.int .i64) .term),.keep]),(3,.keep),(39,.list (.pair (.int .i64) .term)),(40,.keep),(41,.keep)])],[],λ m x=>yT m x.1⟩
noncomputable def i22:FI:=⟨f22,[],[.term],[],[],λ m x=>qd6 m⟩
noncomputable def i23:FI:=⟨f23,[.val .str,.val (.int .i64)],[.term],[],[],λ m x=>qfO m x.1 x.2.1⟩
noncomputable def i24:FI:=⟨f24,[.val (.pair .term (.pair (.int .i64) (.pair (.list (.pair (.int .i64) .term)) (.int .i64)))),.val .term],[(.pair .term (.pair (.int .i64) (.pair (.list (.pair (.int .i64) .term)) (.int .i64)))),(.pair (.int .i64) .term),(.int .i64)],[],[],λ m x=>qdC m x.1 x.2.1⟩
noncomputable def i25:FI:=⟨f25,[.val (.pair .term (.pair (.int .i64) (.pair (.list (.pair (.int .i64) .term)) (.int .i64))))],[(.int .i64)],[(5,[(1,.box [.keep,.keep,.keep,.list .term,.keep,.list (.pair (.int .i64) .term),.keep]),(3,.keep),(4,.keep)])],[],λ m x=>qaY m x.1⟩
noncomputable def i26:FI:=⟨f26,[.val (.list .term),.val (.list .term)],[.bool],[(4,[(0,.list .term),(1,.list .term),(5,.keep)])],[],λ m x=>qlg m x.1 x.2.1⟩
noncomputable def i27:FI:=⟨f27,[.val (.pair .term (.pair (.int .i64) (.pair (.list (.pair (.int .i64) .term)) (.int .i64))))],[(.list .term)],[(3,[(3,.row .term true),(11,.list (.pair (.int .i64) .term)),(12,.keep),(13,.keep)])],[],λ m x=>qgY m x.1⟩
noncomputable def i28:FI:=⟨f28,[.val (.pair .term (.pair (.int .i64) (.pair (.list (.pair (.int .i64) .term)) (.int .i64))))],[(.list .term)],[(3,[(1,.box [.keep,.keep,.keep,.list .term,.keep,.list (.pair (.int .i64) .term),.keep]),(3,.row .term true),(4,.keep)])],[],λ m x=>qbD m x.1⟩
noncomputable def i29:FI:=⟨f29,[.val (.list (.int .i64)),.val (.list (.int .i64))],[.bool],[(4,[(0,.list (.int .i64)),(1,.list (.int .i64)),(12,.keep),(13,.keep)])],[],λ m x=>qbK m x.1 x.2.1⟩
noncomputable def i30:FI:=⟨f30,[.val (.pair .term (.pair (.int .i64) (.pair (.list (.pair (.int .i64) .term)) (.int .i64))))],[(.list (.int .i64))],[(3,[(3,.row (.int .i64) false),(7,.list (.pair (.int .i64) .term)),(8,.keep),(9,.keep)])],[],λ m x=>qgy m x.1⟩
noncomputable def i31:FI:=⟨f31,[.val (.pair .term (.pair (.int .i64) (.pair (.list (.pair (.int .i64) .term)) (.int .i64))))],[(.list (.int .i64))],[(3,[(1,.box [.keep,.keep,.keep,.list .term,.keep,.list (.pair (.int .i64) .term),.keep]),(3,.row (.int .i64) false),(4,.keep)])],[],λ m x=>qic m x.1⟩
noncomputable def i35:FI:=⟨f35,[.val (.pair .term (.pair (.int .i64) (.pair (.list (.pair (.int .i64) .term)) (.int .i64)))),.val .term],[(.pair .term (.pair (.int .i64) (.pair (.list (.pair (.int .i64) .term)) (.int .i64)))),(.pair (.int .i64) .term),(.int .i64)],[],[],λ m x=>qd4 m x.1 x.2.1⟩
noncomputable def i36:FI:=⟨f36,[.val (.pair .term (.pair (.int .i64) (.pair (.list (.pair (.int .i64) .term)) (.int .i64)))),.val .term],[(.pair .term (.pair (.int .i64) (.pair (.list (.pair (.int .i64) .term)) (.int .i64)))),(.int .i64)],[],[],λ m x=>qdo m x.1 x.2.1⟩
noncomputable def i37:FI:=⟨f37,[.val (.pair .term (.pair (.int .i64) (.pair (.list (.pair (.int .i64) .term)) (.int .i64)))),.val .term],[(.pair .term (.pair (.int .i64) (.pair (.list (.pair (.int .i64) .term)) (.int .i64)))),(.int .i64)],[],[],λ m x=>qga m x.1 x.2.1⟩
noncomputable def i38:FI:=⟨f38,[.val .str],[.term,(.int .i64)],[],[],λ m x=>qhr m x.1⟩
noncomputable def i39:FI:=⟨f39,[.val (.int .i64)],[(.list (.pair (.int .i64) .term))],[(4,[(0,.keep),(3,.box [.keep,.keep,.keep,.list .term,.keep,.list (.pair (.int .i64) .term),.keep]),(5,.row (.pair (.int .i64) .term) false),(6,.keep)])],[],λ m x=>qne m x.1⟩
noncomputable def i40:FI:=⟨f40,[.val .term,.val (.int .i64)],[(.int .i64)],[(5,[(1,.keep),(2,.box [.keep,.keep,.keep,.list .term]),(5,.keep)])],[],λ m x=>ym m x.1 x.2.1⟩
noncomputable def i41:FI:=⟨f41,[.val .term],[.bool],[],[],λ m x=>yW m x.1⟩
noncomputable def i42:FI:=⟨f42,[.val .term],[.term],[],[],λ m x=>zF m x.1⟩
noncomputable def i43:FI:=⟨f43,[.val .term],[.bool],[],[],λ m x=>Qt m x.1⟩
noncomputable def i44:FI:=⟨f44,[.val .term],[.term],[],[],λ m x=>qak m x.1⟩
noncomputable def i45:FI:=⟨f45,[.val .term],[(.int .i64)],[],[],λ m x=>zc m x.1⟩
noncomputable def i46:FI:=⟨f46,[.val .term],[.term],[],[],λ m x=>qa4 m x.1⟩
noncomputable def i47:FI:=⟨f47,[.val .term],[.term],[],[],λ m x=>qgf m x.1⟩
noncomputable def i48:FI:=⟨f48,[.val .term],[.bool],[],[],λ m x=>qbW m x.1⟩
noncomputable def i49:FI:=⟨f49,[.val .term],[.term],[],[],λ m x=>qhy m x.1⟩
noncomputable def i50:FI:=⟨f50,[.val .term,.val .term],[(.int .i64)],[(18,[(2,.box [.keep,.keep,.keep,.list .term]),(3,.box [.keep,.keep,.keep,.list .term]),(9,.keep)])],[],λ m x=>zk m x.1 x.2.1⟩
noncomputable def i51:SI:=⟨f51,[.val (.pair .term (.pair (.int .i64) (.pair (.list (.pair (.int .i64) .term)) (.int .i64))))],[.agg [.val .term,.val (.int .i64),.row (.pair (.int .i64) .term),.val (.int .i64)]],[(4,[(1,.box [.keep,.keep,.keep,.list .term,.keep,.list (.pair (.int .i64) .term),.keep]),(2,.box [.keep,.keep,.keep,.row .term false,.keep,.row (.pair (.int .i64) .term) false,.keep]),(3,.row (.pair (.int .i64) .term) false),(11,.list (.pair (.int .i64) .term)),(12,.keep),(13,.keep)])],[],λ m x=>qaX m x.1⟩
noncomputable def i54:FI:=⟨f54,[.val .term,.val .term],[.term,.bool],[],[],λ m x=>qdG m x.1 x.2.1⟩
noncomputable def i62:FI:=⟨f62,[.val (.list .term)],[(.list .term)],[(3,[(0,.list .term),(3,.list .term),(4,.keep)])],[],λ m x=>qhD m x.1⟩
noncomputable def i64:FI:=⟨f64,[.val .str,.val (.list .term)],[.term],[],[],λ m x=>zW m x.1 x.2.1⟩
noncomputable def i65:FI:=⟨f65,[.val .term,.val .term],[.term],[],[],λ m x=>Qj m x.1 x.2.1⟩
noncomputable def i66:FI:=⟨f66,[.val .str,.val (.int .i64)],[.term,.str,.bool],[(13,[(0,.keep),(1,.keep),(4,.box [.keep,.keep,.keep,.row .term false]),(7,.box [.keep,.keep,.keep,.row .term false])])],[],λ m x=>qgB m x.1 x.2.1⟩
noncomputable def i67:FI:=⟨f67,[.val .term],[(.int .i64)],[],[],λ m x=>zJ m x.1⟩
noncomputable def i68:FI:=⟨f68,[.val .term],[.bool],[],[],λ m x=>qc5 m x.1⟩
noncomputable def i69:FI:=⟨f69,[.val .term],[(.list .term)],[],[],λ m x=>qhT m x.1⟩
noncomputable def i70:FI:=⟨f70,[.val .term,.val (.list (.int .i64))],[.term,(.int .i64)],[(2,[(2,.box [.keep,.keep,.keep,.list .term]),(4,.box [.keep,.keep,.keep,.row .term false]),(8,.list (.int .i64)),(9,.keep),(10,.keep)])],[],λ m x=>qlR m x.1 x.2.1⟩
noncomputable def i71:FI:=⟨f71,[.val .term],[.bool],[(6,[(5,.list .term),(6,.keep)])],[],λ m x=>qeC m x.1⟩
noncomputable def i72:FI:=⟨f72,[.val .term],[.bool],[],[],λ m x=>qdd m x.1⟩
noncomputable def i73:FI:=⟨f73,[.val .str],[.term],[],[],λ m x=>qev m x.1⟩
noncomputable def i74:SI:=⟨f74,[.val .term,.val (.int .i64),.box [.val (.int .i64)],.box [.val (.int .i64)]],[.one (.val (.int .i64))],[(17,[(1,.keep),(2,.box [.keep]),(3,.box [.keep]),(57,.list .term),(58,.keep),(59,.keep)])],[],λ m x=>zG m x.1 x.2.1 x.2.2.1 x.2.2.2.1⟩
noncomputable def i75:FI:=⟨f75,[.val .term,.val .str],[.term],[],[],λ m x=>qau m x.1 x.2.1⟩
noncomputable def i76:FI:=⟨f76,[.val (.int .i64),.val (.int .i64)],[(.int .i64)],[],[],λ m x=>Jl m x.1 x.2.1⟩
noncomputable def i77:FI:=⟨f77,[.val .term],[(.int .i64)],[(3,[(1,.box [.keep,.keep,.keep,.list .term]),(3,.keep),(4,.keep)])],[],λ m x=>yC m x.1⟩
noncomputable def i78:FI:=⟨f78,[.val .term,.val .term],[(.int .i64)],[(11,[(2,.box [.keep,.keep,.keep,.list .term]),(3,.box [.keep,.keep,.keep,.list .term]),(5,.keep),(6,.keep)])],[],λ m x=>qt m x.1 x.2.1⟩
noncomputable def i79:FI:=⟨f79,[.val .term,.val .str],[.bool],[],[],λ m x=>qad m x.1 x.2.1⟩
noncomputable def i81:FI:=⟨f81,[.val (.list .term),.val .term],[.bool],[(2,[(0,.list .term),(3,.box [.keep,.keep,.keep,.list .term]),(5,.keep)])],[],λ m x=>qhQ m x.1 x.2.1⟩
noncomputable def i85:FI:=⟨f85,[.val (.list .term),.val .term],[(.list .term)],[(4,[(0,.list .term),(3,.box [.keep,.keep,.keep,.list .term]),(5,.row .term false),(6,.keep),(7,.keep)])],[],λ m x=>qft m x.1 x.2.1⟩
noncomputable def i86:FI:=⟨f86,[.val .str],[.str],[(2,[(0,.keep),(3,.keep)])],[],λ m x=>qfL m x.1⟩
noncomputable def i87:FI:=⟨f87,[.val .str],[.bool],[(4,[(0,.keep),(3,.keep)])],[],λ m x=>Qh m x.1⟩
noncomputable def i88:FI:=⟨f88,[.val .term,.val .str],[.term,.str,.bool],[(5,[(1,.keep),(2,.box [.keep,.keep,.keep,.list .term]),(4,.box [.keep,.keep,.keep,.row .term false]),(7,.keep),(8,.keep)])],[],λ m x=>qiH m x.1 x.2.1⟩
noncomputable def i89:FI:=⟨f89,[.val .term],[(.int .i64)],[(5,[(1,.box [.keep,.keep,.keep,.list .term]),(4,.keep)])],[],λ m x=>yI m x.1⟩
noncomputable def i90:FI:=⟨f90,[.val .term],[(.int .i64)],[(3,[(1,.box [.keep,.keep,.keep,.list .term]),(3,.keep),(4,.keep)])],[],λ m x=>yL m x.1⟩
noncomputable def i91:FI:=⟨f91,[.val .term],[.term,(.int .i64)],[],[],λ m x=>qcj m x.1⟩
noncomputable def i92:FI:=⟨f92,[.val .term,.val .term],[.bool],[],[],λ m x=>Qc m x.1 x.2.1⟩
noncomputable def i93:FI:=⟨f93,[.val .term,.fn],[.bool],[(4,[(1,.keep),(18,.list .term),(19,.keep),(20,.keep)])],[],λ m x=>qJ m x.1⟩
noncomputable def i94:FI:=⟨f94,[.val .str],[.bool],[],[],λ m x=>qbs m x.1⟩
noncomputable def i95:FI:=⟨f95,[.val .str],[(.pair .str (.pair (.int .i64) (.pair (.int .i64) (.int .i64))))],[(2,[(0,.keep),(2,.box [.keep,.keep,.keep,.keep]),(5,.list (.pair .str (.pair (.int .i64) (.pair (.int .i64) (.int .i64))))),(6,.keep),(7,.keep)])],[],λ m x=>qaw m x.1⟩
noncomputable def i96:FI:=⟨f96,[.val .term,.val (.int .i64)],[(.list .term)],[],[],λ m x=>qht m x.1 x.2.1⟩
noncomputable def i97:FI:=⟨f97,[.val .term],[.term],[(4,[(1,.box [.keep,.keep,.keep,.row .term false]),(2,.box [.keep,.keep,.keep,.row .term false]),(9,.list .term),(10,.keep),(11,.keep)])],[],λ m x=>yk m x.1⟩
noncomputable def i98:FI:=⟨f98,[.val .term],[.term,(.int .i64)],[],[],λ m x=>qda m x.1⟩
noncomputable def i99:FI:=⟨f99,[.val .term],[(.list .term)],[(3,[(1,.box [.keep,.keep,.keep,.list .term]),(3,.row .term true),(4,.keep)])],[],λ m x=>jh m x.1⟩
noncomputable def qGF:FI:=⟨f100,[.val .str],[(.int .i64)],[(3,[(0,.keep),(3,.list (.pair .str (.pair (.int .i64) (.pair (.int .i64) (.int .i64))))),(4,.keep)])],[],λ m x=>qb5 m x.1⟩
noncomputable def qJB:FI:=⟨f101,[.val .term],[(.list .term)],[],[],λ m x=>qgc m x.1⟩
noncomputable def qFW:FI:=⟨f102,[.val .str],[.bool],[(4,[(0,.keep),(38,.keep),(39,.keep)])],[],λ m x=>qa5 m x.1⟩
noncomputable def qJV:FI:=⟨f103,[.val (.int .i64),.val (.int .i64)],[(.int .i64)],[],[],λ m x=>qbH m x.1 x.2.1⟩
noncomputable def qGZ:FI:=⟨f104,[.val .term],[(.int .i64)],[(3,[(3,.keep),(7,.list .term),(8,.keep),(9,.keep)])],[],λ m x=>jk m x.1⟩
noncomputable def qJM:FI:=⟨f120,[.val (.int .u8)],[.bool],[],[],λ m x=>qab m x.1⟩
noncomputable def qJ2:FI:=⟨f121,[.val (.int .u8)],[.bool],[],[],λ m x=>qcs m x.1⟩
noncomputable def qJj:FI:=⟨f122,[.val (.int .i64)],[.str],[],[],λ m x=>qmo m x.1⟩
noncomputable def qJo:FI:=⟨f123,[.val .term],[(.int .i64)],[],[],λ m x=>qgC m x.1⟩
noncomputable def qKp:FI:=⟨f124,[.val .term],[(.int .i64)],[],[],λ m x=>qdn m x.1⟩
noncomputable def qF0:FI:=⟨f125,[.val .term],[.term,(.int .i64)],[(5,[(1,.box [.keep,.keep,.keep,.list .term]),(2,.box [.keep,.keep,.keep,.row .term false]),(4,.box [.keep,.keep,.keep,.row .term false]),(19,.list .term),(20,.keep),(21,.keep)])],[],λ m x=>zP m x.1⟩
noncomputable def qHA:SI:=⟨f127,[.val .term,.clo 128 2,.box [.val (.int .i64)],.box [.row .term]],[],[(3,[(1,.fn [.box [.keep],.box [.row .term false]]),(10,.list .term),(11,.keep),(12,.keep)])],[],λ m x=>q9 m x.1 x.2.1 x.2.2.1⟩
noncomputable def qJs:SI:=⟨f128,[.val .term,.box [.val (.int .i64)],.box [.row .term]],[],[],[],λ m x=>Qf m x.1 x.2.1 x.2.2.1⟩
noncomputable def qGL:SI:=⟨f129,[.row .term],[.one (.row .term)],[(4,[(0,.row .term false),(9,.keep),(10,.keep)])],[],λ m x=>qc2 m x.1⟩
noncomputable def qJN:FI:=⟨f130,[.val .term],[(.int .i64)],[],[],λ m x=>qeB m x.1⟩
noncomputable def qHo:FI:=⟨f131,[.val .term],[.term,(.int .i64)],[(5,[(1,.box [.keep,.keep,.keep,.list .term]),(2,.box [.keep,.keep,.keep,.row .term false]),(4,.row .term false),(5,.keep)])],[],λ m x=>yl m x.1⟩
noncomputable def qJF:FI:=⟨f132,[],[(.list (.pair .str (.pair (.int .i64) (.pair (.int .i64) (.int .i64)))))],[],[],λ m x=>qeJ m⟩
noncomputable def qFS:FI:=⟨f133,[.val .term,.val (.int .i64)],[(.list .term)],[(4,[(1,.keep),(5,.row .term false),(6,.list .term),(7,.keep)])],[],λ m x=>qfR m x.1 x.2.1⟩
noncomputable def qJt:FI:=⟨f134,[.val (.int .u8)],[.bool],[],[],λ m x=>qfz m x.1⟩
noncomputable def qG5:FI:=⟨f143,[.val (.list (.pair .term (.int .i64))),.val (.list (.pair .term (.int .i64)))],[(.list (.pair .term (.int .i64))),(.int .i64)],[(9,[(1,.list (.pair .term (.int .i64))),(8,.row (.pair .term (.int .i64)) false),(9,.keep)])],[],λ m x=>qhB m x.1 x.2.1⟩
noncomputable def qJf:FI:=⟨f146,[.val .term],[(.list (.pair .term (.int .i64))),(.int .i64)],[],[],λ m x=>qe8 m x.1⟩
noncomputable def qDF:FI:=⟨f147,[.val .term],[(.int .i64)],[(13,[(1,.box [.keep,.keep,.keep,.list .term]),(38,.list .term),(39,.keep),(40,.keep)]),(22,[(62,.list .term),(63,.keep),(64,.keep)])],[],λ m x=>qA m x.1⟩
noncomputable def qJh:FI:=⟨f148,[.val .term],[.term],[],[],λ m x=>J0 m x.1⟩
noncomputable def qFN:FI:=⟨f149,[.val (.list .term)],[.term,(.int .i64)],[(6,[(2,.box [.keep,.keep,.keep,.row .term true]),(5,.list .term),(15,.list .term),(16,.keep),(17,.keep)])],[],λ m x=>ql0 m x.1⟩
noncomputable def qKg:FI:=⟨f150,[.val .term],[(.list (.pair .term (.int .i64))),(.int .i64)],[],[],λ m x=>JY m x.1⟩
noncomputable def qzb:FI:=⟨f151,[.val (.list (.pair .term (.int .i64)))],[.term,(.int .i64)],[(6,[(2,.box [.keep,.keep,.keep,.row .term false]),(5,.row .term false),(6,.row .term false),(18,.list (.pair .term (.int .i64))),(19,.keep),(20,.keep)]),(11,[(2,.box [.keep,.keep,.keep,.row .term false]),(5,.row .term false),(6,.row .term false),(8,.box [.keep,.keep,.keep,.list .term,.keep]),(18,.list (.pair .term (.int .i64))),(19,.keep),(20,.keep),(34,.keep),(35,.keep)]),(15,[(2,.box [.keep,.keep,.keep,.row .term false]),(5,.row .term false),(6,.row .term false),(8,.box [.keep,.keep,.keep,.list .term,.keep]),(18,.list (.pair .term (.int .i64))),(19,.keep),(20,.keep),(46,.keep),(47,.keep)])],[],λ m x=>jG m x.1⟩
noncomputable def qJn:FI:=⟨f152,[.val .term,.val .term],[.term,(.int .i64)],[],[],λ m x=>qc9 m x.1 x.2.1⟩
noncomputable def qKi:FI:=⟨f156,[.val .term,.val .term],[.bool],[],[],λ m x=>yc m x.1 x.2.1⟩
noncomputable def qGj:FI:=⟨f157,[.val .term],[(.int .i64)],[(11,[(1,.box [.keep,.keep,.keep,.list .term]),(4,.keep)])],[],λ m x=>yq m x.1⟩
noncomputable def qJ9:FI:=⟨f158,[.val .term],[.term,.bool],[],[],λ m x=>qci m x.1⟩
noncomputable def qGD:FI:=⟨f159,[.val (.list .term)],[.term,(.int .i64)],[(6,[(0,.list .term),(2,.box [.keep,.keep,.keep,.row .term true]),(5,.list .term),(6,.keep)])],[],λ m x=>qhA m x.1⟩
noncomputable def qJC:FI:=⟨f160,[.val .term],[.term,(.int .i64)],[],[],λ m x=>qaz m x.1⟩
noncomputable def qJD:FI:=⟨f161,[.val .term,.val .term],[.term,(.int .i64)],[],[],λ m x=>qew m x.1 x.2.1⟩
noncomputable def qFQ:FI:=⟨f163,[.val .term],[(.list .term)],[(7,[(1,.box [.keep,.keep,.keep,.list .term]),(3,.list .term),(4,.keep)])],[],λ m x=>zw m x.1⟩
noncomputable def qGf:FI:=⟨f164,[.val (.list .term),.val .term],[(.int .i64)],[(4,[(0,.list .term),(3,.box [.keep,.keep,.keep,.list .term]),(5,.keep)])],[],λ m x=>qeD m x.1 x.2.1⟩
noncomputable def qFL:FI:=⟨f167,[.val (.list (.pair .term (.int .i64)))],[(.int .i64)],[(4,[(0,.list (.pair .term (.int .i64))),(3,.keep)])],[],λ m x=>qaV m x.1⟩
noncomputable def qGA:SI:=⟨f168,[.row (.pair .term (.int .i64)),.val .term,.val (.int .i64)],[.one (.row (.pair .term (.int .i64)))],[(4,[(0,.row (.pair .term (.int .i64)) false),(2,.keep),(4,.box [.keep,.keep,.keep,.list .term]),(7,.row (.pair .term (.int .i64)) false),(8,.keep),(9,.keep)])],[],λ m x=>qfA m x.1 x.2.1 x.2.2.1⟩
noncomputable def qGa:FI:=⟨f169,[.val (.list (.pair .term (.int .i64)))],[(.int .i64)],[(2,[(0,.list (.pair .term (.int .i64))),(3,.keep)])],[],λ m x=>qco m x.1⟩
noncomputable def qFX:FI:=⟨f172,[.val .term],[.bool],[(7,[(1,.box [.keep,.keep,.keep,.list .term]),(3,.keep),(4,.keep)])],[],λ m x=>yr m x.1⟩
noncomputable def qGz:SI:=⟨f173,[.row (.pair .term (.int .i64)),.val .term,.val (.int .i64)],[.one (.row (.pair .term (.int .i64)))],[(6,[(0,.row (.pair .term (.int .i64)) false),(2,.keep),(4,.box [.keep,.keep,.keep,.list .term]),(7,.keep)])],[],λ m x=>zH m x.1 x.2.1 x.2.2.1⟩
noncomputable def qJT:FI:=⟨f174,[.val .term,.val .str],[.bool],[],[],λ m x=>yw m x.1 x.2.1⟩
noncomputable def qHg:FI:=⟨f175,[.val (.list .term),.val (.list .term)],[(.int .i64)],[(4,[(14,.list .term),(15,.keep),(16,.keep)])],[],λ m x=>qhI m x.1 x.2.1⟩
noncomputable def qHe:FI:=⟨f176,[.val (.list .term),.val (.list .term)],[(.list .term)],[(2,[(0,.list .term),(1,.list .term),(5,.row .term false)])],[],λ m x=>qgV m x.1 x.2.1⟩
noncomputable def qFY:FI:=⟨f177,[.val .term],[(.list .term)],[(6,[(3,.list .term),(31,.list .term),(32,.keep),(33,.keep)])],[],λ m x=>zR m x.1⟩
noncomputable def qG3:FI:=⟨f178,[.val (.list .term)],[(.list .term)],[(3,[(3,.row .term false),(9,.list .term),(10,.keep),(11,.keep)])],[],λ m x=>QX m x.1⟩
noncomputable def qFV:SI:=⟨f179,[.row (.pair .term (.int .i64)),.val .term,.val (.int .i64)],[.one (.row (.pair .term (.int .i64))),.one (.val .bool)],[(12,[(0,.row (.pair .term (.int .i64)) false),(2,.keep),(52,.list .term),(53,.keep),(54,.keep)])],[],λ m x=>qY m x.1 x.2.1 x.2.2.1⟩
noncomputable def qHp:FI:=⟨f180,[.val (.list (.pair .term (.int .i64)))],[(.int .i64)],[(4,[(0,.list (.pair .term (.int .i64))),(9,.list (.pair .term (.int .i64))),(10,.keep),(11,.keep)])],[],λ m x=>QM m x.1⟩
noncomputable def qF4:FI:=⟨f181,[.val .term],[.term],[(3,[(1,.box [.keep,.keep,.keep,.row .term false]),(2,.box [.keep,.keep,.keep,.row .term false]),(10,.row .term false),(11,.keep),(12,.keep)])],[],λ m x=>za m x.1⟩
noncomputable def qKn:FI:=⟨f182,[.val .str,.val (.list .term)],[.term],[],[],λ m x=>qbE m x.1 x.2.1⟩
noncomputable def qCF:FI:=⟨f183,[.val (.list (.list .term))],[(.list .term)],[(3,[(0,.list (.list .term)),(3,.keep),(9,.list (.list .term)),(10,.keep),(11,.keep)]),(11,[(6,.row .term false),(25,.list (.list .term)),(26,.keep),(27,.keep)])],[],λ m x=>zd m x.1⟩
noncomputable def qHs:FI:=⟨f184,[.val (.list (.pair .term (.int .i64))),.val (.list (.pair .term (.int .i64)))],[(.list (.pair .term (.int .i64))),(.int .i64)],[(9,[(8,.row (.pair .term (.int .i64)) false),(23,.list (.pair .term (.int .i64))),(24,.keep),(25,.keep)])],[],λ m x=>qdu m x.1 x.2.1⟩
noncomputable def qJE:FI:=⟨f185,[.val .str,.val (.list .term)],[.term],[],[],λ m x=>qdH m x.1 x.2.1⟩
noncomputable def qFE:FI:=⟨f188,[.val .term],[.bool],[(3,[(1,.box [.keep,.keep,.keep,.list .term]),(3,.list (.pair .str (.pair (.int .i64) (.pair (.int .i64) (.int .i64))))),(4,.keep)])],[],λ m x=>qf9 m x.1⟩
noncomputable def qF9:FI:=⟨f189,[.val .term],[.bool],[(4,[(1,.box [.keep,.keep,.keep,.list .term]),(3,.keep)])],[],λ m x=>qdD m x.1⟩
noncomputable def qJg:FI:=⟨f190,[],[.term],[],[],λ m x=>qgr m⟩
noncomputable def qGt:FI:=⟨f191,[.val (.list .term),.val (.list .term)],[(.list .term)],[(3,[(1,.list .term),(5,.plist .term),(6,.keep)])],[],λ m x=>qdM m x.1 x.2.1⟩
noncomputable def qJS:FI:=⟨f192,[.val (.list .term)],[.term],[],[],λ m x=>qgg m x.1⟩
noncomputable def qJm:FI:=⟨f193,[.val (.list (.pair .term (.int .i64)))],[.term,(.int .i64)],[],[],λ m x=>qaD m x.1⟩
noncomputable def qI4:FI:=⟨f195,[.val .term],[.bool],[],[],λ m x=>JB m x.1⟩
noncomputable def qGn:FI:=⟨f197,[.val .term,.val (.list (.int .i64)),.val .term],[.term,(.int .i64)],[(4,[(5,.box [.keep,.keep,.keep,.list .term]),(6,.box [.keep,.keep,.keep,.row .term false]),(8,.box [.keep,.keep,.keep,.list .term]),(9,.box []),(14,.list (.int .i64)),(15,.keep),(16,.keep)])],[],λ m x=>qdh m x.1 x.2.1 x.2.2.1⟩
noncomputable def qJ8:FI:=⟨f198,[.val .term],[.bool],[],[],λ m x=>Jr m x.1⟩
noncomputable def qJ7:SI:=⟨f199,[.row (.pair .term (.int .i64)),.val (.pair .term (.int .i64))],[.one (.row (.pair .term (.int .i64)))],[],[],λ m x=>Jq m x.1 x.2.1⟩
noncomputable def qFP:SI:=⟨f202,[.val (.list (.pair .term (.int .i64)))],[.one (.row (.pair .term (.int .i64)))],[(3,[(3,.row (.pair .term (.int .i64)) false),(6,.list (.pair .term (.int .i64))),(7,.keep),(8,.keep)])],[],λ m x=>qaK m x.1⟩
noncomputable def qJA:FI:=⟨f203,[.val (.list (.pair .term (.int .i64)))],[(.list (.pair .term (.int .i64))),(.int .i64)],[],[],λ m x=>qaT m x.1⟩
noncomputable def qHh:FI:=⟨f214,[.val (.list .term),.val .term],[(.list .term)],[(5,[(0,.list .term),(3,.box [.keep,.keep,.keep,.list .term]),(5,.row .term false),(6,.keep)])],[],λ m x=>qdg m x.1 x.2.1⟩
noncomputable def qu4:FI:=⟨f215,[.val (.list (.pair .term (.int .i64)))],[(.list .term)],[(3,[(0,.list (.pair .term (.int .i64))),(3,.row .term false),(4,.keep)]),(6,[(0,.list (.pair .term (.int .i64))),(3,.row .term false),(4,.keep),(5,.keep)]),(10,[(0,.list (.pair .term (.int .i64))),(3,.row .term false),(6,.keep)]),(13,[(0,.list (.pair .term (.int .i64))),(3,.row .term false),(6,.keep),(7,.keep)])],[],λ m x=>qbF m x.1⟩
noncomputable def qF7:FI:=⟨f219,[.val (.list (.pair .term (.int .i64))),.val .term,.fn],[(.int .i64),.bool],[(3,[(0,.list (.pair .term (.int .i64))),(2,.keep),(4,.box [.keep,.keep,.keep,.list .term]),(8,.keep),(9,.keep),(10,.keep)])],[],λ m x=>qy m x.1 x.2.1⟩
noncomputable def qKk:FI:=⟨f220,[.val (.pair .term (.int .i64)),.val .term],[(.int .i64)],[],[],λ m x=>Qv m x.1 x.2.1⟩
noncomputable def qKe:FI:=⟨f223,[.val (.list (.pair .term (.int .i64))),.fn],[.bool],[],[],λ m x=>qP m x.1⟩
noncomputable def qI5:FI:=⟨f224,[.val (.pair .term (.int .i64))],[.bool],[],[],λ m x=>JI m x.1⟩
noncomputable def qGv:FI:=⟨f235,[.val (.list (.pair .term (.int .i64))),.fn],[(.int .i64)],[(2,[(0,.list (.pair .term (.int .i64))),(1,.keep),(7,.keep),(8,.keep)])],[],λ m x=>qX m x.1⟩
noncomputable def elT (f:Nat):Option Ty :=
cond (Nat.blt f 121)
 (cond (Nat.blt f 47)
 (cond (Nat.blt f 27)
 (cond (Nat.beq f 22) (some .term) (none))
 (cond (Nat.blt f 45)
 (cond (Nat.beq f 27) (some (.pair (.int .i64) .term)) (none))
 (cond (Nat.beq f 45) (some (.int .u8)) (none))))
 (cond (Nat.blt f 57)
 (cond (Nat.blt f 49)
 (cond (Nat.beq f 47) (some (.pair (.int .i64) .term)) (none))
 (cond (Nat.beq f 49) (some .str) (none)))
 (cond (Nat.blt f 59)
 (cond (Nat.beq f 57) (some (.int .i64)) (none))
 (cond (Nat.beq f 59) (some (.pair (.int .u8) (.int .u8))) (none)))))
 (cond (Nat.blt f 155)
 (cond (Nat.blt f 130)
 (cond (Nat.blt f 123)
 (cond (Nat.beq f 121) (some (.pair (.list (.int .i64)) (.int .i64))) (none))
 (cond (Nat.beq f 123) (some .bool) (none)))
 (cond (Nat.blt f 137)
 (cond (Nat.beq f 130) (some (.pair .str (.pair (.int .i64) (.pair (.int .i64) (.int .i64))))) (none))
 (cond (Nat.beq f 137) (some (.pair .term (.int .i64))) (none))))
 (cond (Nat.blt f 175)
 (cond (Nat.blt f 163)
 (cond (Nat.beq f 155) (some (.pair (.list .term) (.list (.int .i64)))) (none))
 (cond (Nat.beq f 163) (some (.list (.pair .term (.int .i64)))) (none)))
 (cond (Nat.blt f 182)
 (cond (Nat.beq f 175) (some (.list (.int .i64))) (none))
 (cond (Nat.beq f 182) (some (.list .term)) (none)))))
noncomputable def tb:Tb:=⟨tyT,elT,.node 102 (.node 51 (.node 29 (.node 18 (.node 12 (.node 10 (.node 8 (.node 6 .leaf .leaf (.pure [([],i6)])) .leaf (.pure [([],i8)])) (.node 11 .leaf .leaf (.pure [([],i11)])) (.pure [([],i10)])) (.node 16 (.node 14 (.node 13 .leaf .leaf (.pure [([],i13)])) .leaf (.pure [([],i14)])) (.node 17 .leaf .leaf (.pure [([],i17)])) (.pure [([],i16)])) (.pure [([],i12)])) (.node 24 (.node 22 (.node 21 (.node 19 .leaf .leaf (.pure [([],i19)])) .leaf (.pure [([],i21)])) (.node 23 .leaf .leaf (.pure [([],i23)])) (.pure [([],i22)])) (.node 27 (.node 26 (.node 25 .leaf .leaf (.pure [([],i25)])) .leaf (.pure [([],i26)])) (.node 28 .leaf .leaf (.pure [([],i28)])) (.pure [([],i27)])) (.pure [([],i24)])) (.pure [([],i18)])) (.node 42 (.node 37 (.node 35 (.node 31 (.node 30 .leaf .leaf (.pure [([],i30)])) .leaf (.pure [([],i31)])) (.node 36 .leaf .leaf (.pure [([],i36)])) (.pure [([],i35)])) (.node 40 (.node 39 (.node 38 .leaf .leaf (.pure [([],i38)])) .leaf (.pure [([],i39)])) (.node 41 .leaf .leaf (.pure [([],i41)])) (.pure [([],i40)])) (.pure [([],i37)])) (.node 47 (.node 45 (.node 44 (.node 43 .leaf .leaf (.pure [([],i43)])) .leaf (.pure [([],i44)])) (.node 46 .leaf .leaf (.pure [([],i46)])) (.pure [([],i45)])) (.node 49 (.node 48 .leaf .leaf (.pure [([],i48)])) (.node 50 .leaf .leaf (.pure [([],i50)])) (.pure [([],i49)])) (.pure [([],i47)])) (.pure [([],i42)])) (.pure [([],i29)])) (.node 79 (.node 69 (.node 64 (.node 55 (.node 54 (.node 52 .leaf .leaf (.hk λ _=>⟨[.row (.pair (.int .i64) .term),.clo 53 1,.box [.val (.pair (.int .i64) .term)]],λ x=>yN 0 x.1 x.2.1⟩)) .leaf (.pure [([],i54)])) (.node 62 .leaf .leaf (.pure [([],i62)])) (.hs ⟨[.row (.pair (.int .i64) .term),.val (.int .i64),.val (.int .i64)],[.one (.row (.pair (.int .i64) .term))],λ x=>yX 0 x.1 x.2.1 x.2.2.1⟩)) (.node 67 (.node 66 (.node 65 .leaf .leaf (.pure [([],i65)])) .leaf (.pure [([],i66)])) (.node 68 .leaf .leaf (.pure [([],i68)])) (.pure [([],i67)])) (.pure [([],i64)])) (.node 74 (.node 72 (.node 71 (.node 70 .leaf .leaf (.pure [([],i70)])) .leaf (.pure [([],i71)])) (.node 73 .leaf .leaf (.pure [([],i73)])) (.pure [([],i72)])) (.node 77 (.node 76 (.node 75 .leaf .leaf (.pure [([],i75)])) .leaf (.pure [([],i76)])) (.node 78 .leaf .leaf (.pure [([],i78)])) (.pure [([],i77)])) (.st i74)) (.pure [([],i69)])) (.node 93 (.node 88 (.node 86 (.node 85 (.node 81 .leaf .leaf (.pure [([],i81)])) .leaf (.pure [([],i85)])) (.node 87 .leaf .leaf (.pure [([],i87)])) (.pure [([],i86)])) (.node 91 (.node 90 (.node 89 .leaf .leaf (.pure [([],i89)])) .leaf (.pure [([],i90)])) (.node 92 .leaf .leaf (.pure [([],i92)])) (.pure [([],i91)])) (.pure [([],i88)])) (.node 98 (.node 96 (.node 95 (.node 94 .leaf .leaf (.pure [([],i94)])) .leaf (.pure [([],i95)])) (.node 97 .leaf .leaf (.pure [([],i97)])) (.pure [([],i96)])) (.node 100 (.node 99 .leaf .leaf (.pure [([],i99)])) (.node 101 .leaf .leaf (.pure [([],qJB)])) (.pure [([],qGF)])) (.pure [([],i98)])) (.pure [([94],i93)])) (.pure [([],i79)])) (.st i51)) (.node 169 (.node 146 (.node 126 (.node 121 (.node 105 (.node 104 (.node 103 .leaf .leaf (.pure [([],qJV)])) .leaf (.pure [([],qGZ)])) (.node 120 .leaf .leaf (.pure [([],qJM)])) (.hp ⟨[.val .str,.val .str],[(.int .i64)],λ x=>strings_Compare 0 x.1 x.2.1⟩)) (.node 124 (.node 123 (.node 122 .leaf .leaf (.pure [([],qJj)])) .leaf (.pure [([],qJo)])) (.node 125 .leaf .leaf (.pure [([],qF0)])) (.pure [([],qKp)])) (.pure [([],qJ2)])) (.node 131 (.node 129 (.node 128 (.node 127 .leaf .leaf (.st qHA)) .leaf (.st qJs)) (.node 130 .leaf .leaf (.pure [([],qJN)])) (.st qGL)) (.node 134 (.node 133 (.node 132 .leaf .leaf (.pure [([],qJF)])) .leaf (.pure [([],qFS)])) (.node 143 .leaf .leaf (.pure [([],qG5)])) (.pure [([],qJt)])) (.pure [([],qHo)])) (.hp ⟨[],[(.list (.pair .str (.pair (.int .i64) (.pair (.int .i64) (.int .i64)))))],λ x=>qg1 0⟩)) (.node 157 (.node 151 (.node 149 (.node 148 (.node 147 .leaf .leaf (.pure [([],qDF)])) .leaf (.pure [([],qJh)])) (.node 150 .leaf .leaf (.pure [([],qKg)])) (.pure [([],qFN)])) (.node 155 (.node 154 (.node 152 .leaf .leaf (.pure [([],qJn)])) .leaf (.hm λ m=>⟨.term,[.clo 78 0],λ x=>qS m x.1⟩)) (.node 156 .leaf .leaf (.pure [([],qKi)])) (.hx λ m=>⟨[.row .term,.clo 156 0],[.one (.row .term)],λ x=>qG m x.1⟩)) (.pure [([],qzb)])) (.node 163 (.node 160 (.node 159 (.node 158 .leaf .leaf (.pure [([],qJ9)])) .leaf (.pure [([],qGD)])) (.node 161 .leaf .leaf (.pure [([],qJD)])) (.pure [([],qJC)])) (.node 167 (.node 164 .leaf .leaf (.pure [([],qGf)])) (.node 168 .leaf .leaf (.st qGA)) (.pure [([],qFL)])) (.pure [([],qFQ)])) (.pure [([],qGj)])) (.pure [([],qJf)])) (.node 192 (.node 181 (.node 176 (.node 174 (.node 173 (.node 172 .leaf .leaf (.pure [([],qFX)])) .leaf (.st qGz)) (.node 175 .leaf .leaf (.pure [([],qHg)])) (.pure [([],qJT)])) (.node 179 (.node 178 (.node 177 .leaf .leaf (.pure [([],qFY)])) .leaf (.pure [([],qG3)])) (.node 180 .leaf .leaf (.pure [([],qHp)])) (.st qFV)) (.pure [([],qHe)])) (.node 188 (.node 184 (.node 183 (.node 182 .leaf .leaf (.pure [([],qKn)])) .leaf (.pure [([],qCF)])) (.node 185 .leaf .leaf (.pure [([],qJE)])) (.pure [([],qHs)])) (.node 190 (.node 189 .leaf .leaf (.pure [([],qF9)])) (.node 191 .leaf .leaf (.pure [([],qGt)])) (.pure [([],qJg)])) (.pure [([],qFE)])) (.pure [([],qF4)])) (.node 214 (.node 199 (.node 197 (.node 195 (.node 193 .leaf .leaf (.pure [([],qJm)])) .leaf (.pure [([],qI4)])) (.node 198 .leaf .leaf (.pure [([],qJ8)])) (.pure [([],qGn)])) (.node 202 (.node 201 (.node 200 .leaf .leaf (.hs ⟨[.val (.list .term)],[.one (.row .term)],λ x=>zC 0 x.1⟩)) .leaf (.hs ⟨[.nil,.val (.int .i64)],[.one (.row .term)],λ x=>yv 0 x.1⟩)) (.node 203 .leaf .leaf (.pure [([],qJA)])) (.st qFP)) (.st qJ7)) (.node 222 (.node 220 (.node 219 (.node 215 .leaf .leaf (.pure [([],qu4)])) .leaf (.pure [([220],qF7)])) (.node 221 .leaf .leaf (.hs ⟨[.row (.pair .term (.int .i64)),.val (.int .i64),.val (.list (.pair .term (.int .i64)))],[.one (.row (.pair .term (.int .i64)))],λ x=>zl 0 x.1 x.2.1 x.2.2.1⟩)) (.pure [([],qKk)])) (.node 224 (.node 223 .leaf .leaf (.pure [([224],qKe)])) (.node 235 .leaf .leaf (.pure [([224],qGv)])) (.pure [([],qI5)])) (.hs ⟨[.row (.pair .term (.int .i64)),.val (.int .i64),.val (.int .i64)],[.one (.row (.pair .term (.int .i64)))],λ x=>zo 0 x.1 x.2.1 x.2.2.1⟩)) (.pure [([],qHh)])) (.pure [([],qJS)])) (.pure [([],qGa)])) (.pure [([],qFW)])⟩
end Go.AmYtbpnmbmdbblehaaGreat
namespace Go.AmYtbpnmbmdbblehaaGreat
open Go Go.GxYtbpnmbmdbblehaaGreat
set_option linter.unusedVariables false
set_option maxRecDepth 100000
theorem qzP (m a0):qfz (m+1) a0=tb.runP1 m qJt [] (a0,()):=by kernel_rfl
noncomputable def qlV (m k x0 x1 x2):=tb.PL qFW 4 m k [(0,.s x0),(38,.i .i64 x1),(39,.i .i64 x2)] ⟨[],[]⟩
theorem qsu (m k):jH m k=qlV m k:=qI (M:=qlV m) rfl (λ _=>by kernel_rfl) k
theorem qvy (m a0):qa5 (m+1) a0=tb.runP1 m qFW [] (a0,()):=(congrArg (λ L=>qdI m L a0) (qsu m m)).trans (by kernel_rfl)
noncomputable def qnA (m k x0 x1 x2 x3 x4 x5):=tb.QL i74 17 m k [(1,.i .i64 x0),(2,.ptr 0 0),(3,.ptr 1 0),(57,.sl .term x1 1),(58,.i .i64 x2),(59,.i .i64 x3)] ⟨[[.i .i64 x4],[.i .i64 x5]],[]⟩
theorem qvv (m k):yU m (zG m) k=qnA m k:=qI (M:=qnA m) rfl (λ _=>by kernel_rfl) k
theorem qwE (m a0 a1 a2 a3):zG (m+1) a0 a1 a2 a3=tb.runS1 m i74 (a0,a1,a2,a3,()):=(congrArg (λ L=>qe3 m (zG m) L a0 a1 a2 a3) (qvv m m)).trans (by kernel_rfl)
theorem qxq (m a0):zc (m+1) a0=tb.runP1 m i45 [] (a0,()):=by kernel_rfl
noncomputable def qjZ (m k x0 x1 x2 x3 x4 x5 x6 x7):=tb.PL i95 2 m k [(0,.s x0),(2,.ptr 0 0),(5,.sl (.pair .str (.pair (.int .i64) (.pair (.int .i64) (.int .i64)))) x1 1),(6,.i .i64 x2),(7,.i .i64 x3)] ⟨[[.s x4,.i .i64 x5,.i .i64 x6,.i .i64 x7]],[]⟩
theorem qp3 (m k):Qn m k=qjZ m k:=qI (M:=qjZ m) rfl (λ _=>by kernel_rfl) k
theorem qry (m a0):qaw (m+1) a0=tb.runP1 m i95 [] (a0,()):=(congrArg (λ L=>qb6 m L a0) (qp3 m m)).trans (by kernel_rfl)
noncomputable def qkw (m k x0 x1 x2 x3 x4 x5 x6):=tb.PL qDF 13 m k [(1,.ptr 0 0),(38,.sl .term x0 1),(39,.i .i64 x1),(40,.i .i64 x2)] ⟨[[.i .i64 x3,.s x4,.i .i64 x5,.sl .term x6 1]],[]⟩
noncomputable def qkf (m k x0 x1 x2):=tb.PL qDF 22 m k [(62,.sl .term x0 1),(63,.i .i64 x1),(64,.i .i64 x2)] ⟨[],[]⟩
theorem qqF (m k):qO m (qA m) k=(qkw m k,qkf m k):=qI (M := λ k=>(qkw m k,qkf m k)) rfl (λ _=>by kernel_rfl) k
theorem qtC (m a0):qA (m+1) a0=tb.runP1 m qDF [] (a0,()):=(congrArg (a₁ := qO m (qA m) m) (λ L=>qcH m (qA m) L.1 L.2 a0) (qqF m m)).trans (by kernel_rfl)
theorem qtQ (m a0):qdn (m+1) a0=tb.runP1 m qKp [] (a0,()):=by kernel_rfl
theorem qyu (m a0 a1):qbH (m+1) a0 a1=tb.runP1 m qJV [] (a0,a1,()):=by kernel_rfl
noncomputable def qoW (m k x0 x1 x2 x3):=tb.PL qGZ 3 m k [(3,.i .i64 x0),(7,.sl .term x1 1),(8,.i .i64 x2),(9,.i .i64 x3)] ⟨[],[]⟩
theorem qxi (m k):qaW m (jk m) k=qoW m k:=qI (M:=qoW m) rfl (λ _=>by kernel_rfl) k
theorem qyW (m a0):jk (m+1) a0=tb.runP1 m qGZ [] (a0,()):=(congrArg (λ L=>qgd m (jk m) L a0) (qxi m m)).trans (by kernel_rfl)
noncomputable def qkB (m k x0 x1 x2 x3 x4 x5 x6 x7 x8 x9):=tb.PL i78 11 m k [(2,.ptr 0 0),(3,.ptr 1 0),(5,.i .i64 x0),(6,.i .i64 x1)] ⟨[[.i .i64 x2,.s x3,.i .i64 x4,.sl .term x5 1],[.i .i64 x6,.s x7,.i .i64 x8,.sl .term x9 1]],[]⟩
theorem qrF (m k):js m (qt m) k=qkB m k:=qI (M:=qkB m) rfl (λ _=>by kernel_rfl) k
theorem qs1 (m a0 a1):qt (m+1) a0 a1=tb.runP1 m i78 [] (a0,a1,()):=(congrArg (λ L=>qcO m (qt m) L a0 a1) (qrF m m)).trans (by kernel_rfl)
theorem qur (m a0 a1):Qc (m+1) a0 a1=tb.runP1 m i92 [] (a0,a1,()):=by kernel_rfl
theorem qy1 (m a0 a1):yw (m+1) a0 a1=tb.runP1 m qJT [] (a0,a1,()):=by kernel_rfl
theorem qpW (m a0):J0 (m+1) a0=tb.runP1 m qJh [] (a0,()):=by kernel_rfl
noncomputable def JG (m k x0 x1 x2 x3 x4):=tb.PL qCF 3 m k [(0,.sl (.list .term) x0 1),(3,.i .i64 x1),(9,.sl (.list .term) x2 1),(10,.i .i64 x3),(11,.i .i64 x4)] ⟨[],[]⟩
noncomputable def JJ (m k x0 x1 x2 x3):=tb.PL qCF 11 m k [(6,.row 0 0),(25,.sl (.list .term) x0 1),(26,.i .i64 x1),(27,.i .i64 x2)] ⟨[],[⟨.term,x3,0,0,false⟩]⟩
theorem qdV (m k):ql m k=(JG m k,JJ m k):=qI (M := λ k=>(JG m k,JJ m k)) rfl (λ _=>by kernel_rfl) k
theorem qej (m a0):zd (m+1) a0=tb.runP1 m qCF [] (a0,()):=(congrArg (a₁ := ql m m) (λ L=>yz m L.1 L.2 a0) (qdV m m)).trans (by kernel_rfl)
noncomputable def qoq (m k x0 x1 x2):=tb.PL qHg 4 m k [(14,.sl .term x0 1),(15,.i .i64 x1),(16,.i .i64 x2)] ⟨[],[]⟩
theorem qwS (m k):qa7 m k=qoq m k:=qI (M:=qoq m) rfl (λ _=>by kernel_rfl) k
theorem qAj (m a0 a1):qhI (m+1) a0 a1=tb.runP1 m qHg [] (a0,a1,()):=(congrArg (λ L=>qgs m L a0 a1) (qwS m m)).trans (by kernel_rfl)
noncomputable def qqy (m k x0 x1 x2):=tb.PL qHe 2 m k [(0,.sl .term x0 1),(1,.sl .term x1 1),(5,.row 0 0)] ⟨[],[⟨.term,x2,0,0,false⟩]⟩
theorem qzR (m k):qbN m k=qqy m k:=qI (M:=qqy m) rfl (λ _=>by kernel_rfl) k
theorem qAw (m a0 a1):qgV (m+1) a0 a1=tb.runP1 m qHe [] (a0,a1,()):=(congrArg (λ L=>qhq m L a0 a1) (qzR m m)).trans (by kernel_rfl)
noncomputable def qkH (m k x0 x1 x2 x3):=tb.PL qFY 6 m k [(3,.sl .term x0 1),(31,.sl .term x1 1),(32,.i .i64 x2),(33,.i .i64 x3)] ⟨[],[]⟩
theorem qrb (m k):jR m (zR m) k=qkH m k:=qI (M:=qkH m) rfl (λ _=>by kernel_rfl) k
theorem qtp (m a0):zR (m+1) a0=tb.runP1 m qFY [] (a0,()):=(congrArg (λ L=>qcZ m (zR m) L a0) (qrb m m)).trans (by kernel_rfl)
noncomputable def qnw (m k x0 x1 x2 x3 x4 x5 x6 x7 x8 x9 x10):=tb.PL i97 4 m k [(1,.ptr 0 0),(2,.ptr 1 0),(9,.sl .term x0 1),(10,.i .i64 x1),(11,.i .i64 x2)] ⟨[[.i .i64 x3,.s x4,.i .i64 x5,.row 0 0],[.i .i64 x6,.s x7,.i .i64 x8,.row 1 0]],[⟨.term,x9,0,0,false⟩,⟨.term,x10,0,0,false⟩]⟩
theorem quT (m k):J6 m (yk m) k=qnw m k:=qI (M:=qnw m) rfl (λ _=>by kernel_rfl) k
theorem qxb (m a0):yk (m+1) a0=tb.runP1 m i97 [] (a0,()):=(congrArg (λ L=>qeW m (yk m) L a0) (quT m m)).trans (by kernel_rfl)
noncomputable def qkM (m k x0 x1 x2 x3 x4 x5 x6 x7 x8 x9 x10 x11 x12 x13 x14):=tb.PL qGn 4 m k [(5,.ptr 0 0),(6,.ptr 1 0),(8,.ptr 2 0),(9,.ptr 2 0),(14,.sl (.int .i64) x0 1),(15,.i .i64 x1),(16,.i .i64 x2)] ⟨[[.i .i64 x3,.s x4,.i .i64 x5,.sl .term x6 1],[.i .i64 x7,.s x8,.i .i64 x9,.row 0 0],[.i .i64 x10,.s x11,.i .i64 x12,.sl .term x13 1]],[⟨.term,x14,0,0,false⟩]⟩
theorem qqz (m k):J2 m k=qkM m k:=qI (M:=qkM m) rfl (λ _=>by kernel_rfl) k
theorem qsH (m a0 a1 a2):qdh (m+1) a0 a1 a2=tb.runP1 m qGn [] (a0,a1,a2,()):=(congrArg (λ L=>qcR m L a0 a1 a2) (qqz m m)).trans (by kernel_rfl)
noncomputable def qsX (m k x0 x1 x2 x3):=tb.PL qG3 3 m k [(3,.row 0 0),(9,.sl .term x0 1),(10,.i .i64 x1),(11,.i .i64 x2)] ⟨[],[⟨.term,x3,0,0,false⟩]⟩
theorem qAy (m k):qde m (QX m) k=qsX m k:=qI (M:=qsX m) rfl (λ _=>by kernel_rfl) k
theorem qCp (m a0):QX (m+1) a0=tb.runP1 m qG3 [] (a0,()):=(congrArg (λ L=>qiM m (QX m) L a0) (qAy m m)).trans (by kernel_rfl)
noncomputable def qtU (m k x0 x1 x2 x3 x4 x5 x6 x7):=tb.PL qFN 6 m k [(2,.ptr 0 0),(5,.sl .term x0 1),(15,.sl .term x1 1),(16,.i .i64 x2),(17,.i .i64 x3)] ⟨[[.i .i64 x4,.s x5,.i .i64 x6,.row 0 0]],[⟨.term,x7,0,0,true⟩]⟩
theorem qAV (m k):qdl m k=qtU m k:=qI (M:=qtU m) rfl (λ _=>by kernel_rfl) k
theorem qCX (m a0):ql0 (m+1) a0=tb.runP1 m qFN [] (a0,()):=(congrArg (λ L=>qiS m L a0) (qAV m m)).trans (by kernel_rfl)
theorem qpe (m a0):Jr (m+1) a0=tb.runP1 m qJ8 [] (a0,()):=by kernel_rfl
noncomputable def qih (m k x0 x1 x2 x3 x4 x5 x6 x7 x8 x9):=tb.PL qF4 3 m k [(1,.ptr 0 0),(2,.ptr 1 0),(10,.row 0 0),(11,.i .i64 x0),(12,.i .i64 x1)] ⟨[[.i .i64 x2,.s x3,.i .i64 x4,.row 0 0],[.i .i64 x5,.s x6,.i .i64 x7,.row 1 0]],[⟨.term,x8,0,0,false⟩,⟨.term,x9,0,0,false⟩]⟩
theorem qoQ (m k):jM m (za m) k=qih m k:=qI (M:=qih m) rfl (λ _=>by kernel_rfl) k
theorem qqd (m a0):za (m+1) a0=tb.runP1 m qF4 [] (a0,()):=(congrArg (λ L=>qbi m (za m) L a0) (qoQ m m)).trans (by kernel_rfl)
theorem ql8 (m a0 a1):Qv (m+1) a0 a1=tb.runP1 m qKk [] (a0,a1,()):=by kernel_rfl
noncomputable def zZ (m k x0 x1 x2 x3 x4 x5 x6 x7):=tb.PL qF7 3 m k [(0,.sl (.pair .term (.int .i64)) x0 1),(2,.fn 220 []),(4,.ptr 0 0),(8,.i .i64 x1),(9,.i .i64 x2),(10,.i .i64 x3)] ⟨[[.i .i64 x4,.s x5,.i .i64 x6,.sl .term x7 1]],[]⟩
theorem jP (m k):qn m k=zZ m k:=qI (M:=zZ m) rfl (λ _=>by kernel_rfl) k
theorem j8 (m a0 a1):qy (m+1) a0 a1=tb.runP1 m qF7 [220] (a0,a1,()):=(congrArg (λ L=>qD m L a0 a1) (jP m m)).trans (by kernel_rfl)
theorem qpn (m a0 a1):Jq (m+1) a0 a1=tb.runS1 m qJ7 (a0,a1,()):=by kernel_rfl
noncomputable def qgH (m k x0 x1 x2 x3 x4):=tb.QL qFV 12 m k [(0,.row 0 0),(2,.i .i64 x0),(52,.sl .term x1 1),(53,.i .i64 x2),(54,.i .i64 x3)] ⟨[],[⟨(.pair .term (.int .i64)),x4,0,0,false⟩]⟩
theorem qmO (m k):yP m (qY m) k=qgH m k:=qI (M:=qgH m) rfl (λ _=>by kernel_rfl) k
theorem qnS (m a0 a1 a2):qY (m+1) a0 a1 a2=tb.runS1 m qFV (a0,a1,a2,()):=(congrArg (λ L=>qal m (qY m) L a0 a1 a2) (qmO m m)).trans (by kernel_rfl)
theorem quH (m a0):JY (m+1) a0=tb.runP1 m qKg [] (a0,()):=by kernel_rfl
noncomputable def qil (m k x0 x1 x2 x3):=tb.PL qHp 4 m k [(0,.sl (.pair .term (.int .i64)) x0 1),(9,.sl (.pair .term (.int .i64)) x1 1),(10,.i .i64 x2),(11,.i .i64 x3)] ⟨[],[]⟩
theorem qpm (m k):jm m k=qil m k:=qI (M:=qil m) rfl (λ _=>by kernel_rfl) k
theorem qp4 (m a0):QM (m+1) a0=tb.runP1 m qHp [] (a0,()):=(congrArg (λ L=>qbb m L a0) (qpm m m)).trans (by kernel_rfl)
theorem qsU (m a0 a1):qbE (m+1) a0 a1=tb.runP1 m qKn [] (a0,a1,()):=by kernel_rfl
noncomputable def qjR (m k x0 x1 x2 x3 x4 x5 x6 x7 x8):=tb.PL qzb 6 m k [(2,.ptr 0 0),(5,.row 1 0),(6,.row 2 0),(18,.sl (.pair .term (.int .i64)) x0 1),(19,.i .i64 x1),(20,.i .i64 x2)] ⟨[[.i .i64 x3,.s x4,.i .i64 x5,.row 0 0]],[⟨.term,x6,0,0,false⟩,⟨.term,x7,0,0,false⟩,⟨.term,x8,0,0,false⟩]⟩
noncomputable def qju (m k x0 x1 x2 x3 x4 x5 x6 x7 x8 x9 x10 x11 x12 x13 x14 x15):=tb.PL qzb 11 m k [(2,.ptr 0 0),(5,.row 1 0),(6,.row 2 0),(8,.ptr 1 0),(18,.sl (.pair .term (.int .i64)) x0 1),(19,.i .i64 x1),(20,.i .i64 x2),(34,.i .i64 x3),(35,.i .i64 x4)] ⟨[[.i .i64 x5,.s x6,.i .i64 x7,.row 0 0],[.i .i64 x8,.s x9,.i .i64 x10,.sl .term x11 1,.i .i64 x12]],[⟨.term,x13,0,0,false⟩,⟨.term,x14,0,0,false⟩,⟨.term,x15,0,0,false⟩]⟩
noncomputable def qjy (m k x0 x1 x2 x3 x4 x5 x6 x7 x8 x9 x10 x11 x12 x13 x14 x15):=tb.PL qzb 15 m k [(2,.ptr 0 0),(5,.row 1 0),(6,.row 2 0),(8,.ptr 1 0),(18,.sl (.pair .term (.int .i64)) x0 1),(19,.i .i64 x1),(20,.i .i64 x2),(46,.i .i64 x3),(47,.i .i64 x4)] ⟨[[.i .i64 x5,.s x6,.i .i64 x7,.row 0 0],[.i .i64 x8,.s x9,.i .i64 x10,.sl .term x11 1,.i .i64 x12]],[⟨.term,x13,0,0,false⟩,⟨.term,x14,0,0,false⟩,⟨.term,x15,0,0,false⟩]⟩
theorem qqb (m k):qv m k=(qjR m k,qju m k,qjy m k):=qI (M := λ k=>(qjR m k,qju m k,qjy m k)) rfl (λ _=>by kernel_rfl) k
theorem qro (m a0):jG (m+1) a0=tb.runP1 m qzb [] (a0,()):=(congrArg (a₁ := qv m m) (λ L=>qbO m L.1 L.2.1 L.2.2 a0) (qqb m m)).trans (by kernel_rfl)
noncomputable def qhO (m k x0 x1 x2 x3):=tb.QL qFP 3 m k [(3,.row 0 0),(6,.sl (.pair .term (.int .i64)) x0 1),(7,.i .i64 x1),(8,.i .i64 x2)] ⟨[],[⟨(.pair .term (.int .i64)),x3,0,0,false⟩]⟩
theorem qnN (m k):jx m k=qhO m k:=qI (M:=qhO m) rfl (λ _=>by kernel_rfl) k
theorem qoV (m a0):qaK (m+1) a0=tb.runS1 m qFP (a0,()):=(congrArg (λ L=>qaF m L a0) (qnN m m)).trans (by kernel_rfl)
theorem qnh (m a0):JI (m+1) a0=tb.runP1 m qI5 [] (a0,()):=by kernel_rfl
noncomputable def jv (m k x0 x1 x2):=tb.PL qGv 2 m k [(0,.sl (.pair .term (.int .i64)) x0 1),(1,.fn 224 []),(7,.i .i64 x1),(8,.i .i64 x2)] ⟨[],[]⟩
theorem qao (m k):qw m k=jv m k:=qI (M:=jv m) rfl (λ _=>by kernel_rfl) k
theorem qat (m a0):qX (m+1) a0=tb.runP1 m qGv [224] (a0,()):=(congrArg (λ L=>zp m L a0) (qao m m)).trans (by kernel_rfl)
theorem J1 (m a0):qP (m+1) a0=tb.runP1 m qKe [224] (a0,()):=by kernel_rfl
theorem qo9 (m a0):qaT (m+1) a0=tb.runP1 m qJA [] (a0,()):=by kernel_rfl
noncomputable def qkV (m k x0 x1 x2 x3):=tb.PL qHs 9 m k [(8,.row 0 0),(23,.sl (.pair .term (.int .i64)) x0 1),(24,.i .i64 x1),(25,.i .i64 x2)] ⟨[],[⟨(.pair .term (.int .i64)),x3,0,0,false⟩]⟩
theorem qrk (m k):Q7 m k=qkV m k:=qI (M:=qkV m) rfl (λ _=>by kernel_rfl) k
theorem qs0 (m a0 a1):qdu (m+1) a0 a1=tb.runP1 m qHs [] (a0,a1,()):=(congrArg (λ L=>qcS m L a0 a1) (qrk m m)).trans (by kernel_rfl)
theorem qwz (m a0 a1):qdH (m+1) a0 a1=tb.runP1 m qJE [] (a0,a1,()):=by kernel_rfl
theorem qtj (m a0 a1):qc9 (m+1) a0 a1=tb.runP1 m qJn [] (a0,a1,()):=by kernel_rfl
noncomputable def qjd (m k x0 x1 x2 x3 x4 x5 x6 x7 x8 x9 x10 x11 x12 x13 x14):=tb.PL qF0 5 m k [(1,.ptr 0 0),(2,.ptr 1 0),(4,.ptr 2 0),(19,.sl .term x0 1),(20,.i .i64 x1),(21,.i .i64 x2)] ⟨[[.i .i64 x3,.s x4,.i .i64 x5,.sl .term x6 1],[.i .i64 x7,.s x8,.i .i64 x9,.row 0 0],[.i .i64 x10,.s x11,.i .i64 x12,.row 1 0]],[⟨.term,x13,0,0,false⟩,⟨.term,x14,0,0,false⟩]⟩
theorem qqa (m k):Qg m (zP m) k=qjd m k:=qI (M:=qjd m) rfl (λ _=>by kernel_rfl) k
theorem qqV (m a0):zP (m+1) a0=tb.runP1 m qF0 [] (a0,()):=(congrArg (λ L=>qbR m (zP m) L a0) (qqa m m)).trans (by kernel_rfl)
theorem qrv (m a0):qcj (m+1) a0=tb.runP1 m i91 [] (a0,()):=by kernel_rfl
theorem qp5 (m a0):qbs (m+1) a0=tb.runP1 m i94 [] (a0,()):=by kernel_rfl
noncomputable def qfw (m k x0 x1 x2):=tb.PL i93 4 m k [(1,.fn 94 []),(18,.sl .term x0 1),(19,.i .i64 x1),(20,.i .i64 x2)] ⟨[],[]⟩
theorem qla (m k):yj m (qJ m) k=qfw m k:=qI (M:=qfw m) rfl (λ _=>by kernel_rfl) k
theorem qlS (m a0):qJ (m+1) a0=tb.runP1 m i93 [94] (a0,()):=(congrArg (λ L=>Jt m (qJ m) L a0) (qla m m)).trans (by kernel_rfl)
theorem qsl (m a0):qc5 (m+1) a0=tb.runP1 m i68 [] (a0,()):=by kernel_rfl
theorem qkc (m a0 a1 a2):Qf (m+1) a0 a1 a2=tb.runS1 m qJs (a0,a1,a2,()):=by kernel_rfl
noncomputable def qge (m k x0 x1 x2 x3 x4):=tb.QL qHA 3 m k [(1,.fn 128 [.ptr 0 0,.ptr 1 0]),(10,.sl .term x0 1),(11,.i .i64 x1),(12,.i .i64 x2)] ⟨[[.i .i64 x3],[.row 0 0]],[⟨.term,x4,0,0,false⟩]⟩
theorem qll (m k):y8 m (q9 m) k=qge m k:=qI (M:=qge m) rfl (λ _=>by kernel_rfl) k
theorem qm8 (m a0 a1_0 a1_1):q9 (m+1) a0 a1_0 a1_1=tb.runS1 m qHA (a0,a1_0,a1_1,()):=(congrArg (λ L=>JM m (q9 m) L a0 a1_0 a1_1) (qll m m)).trans (by kernel_rfl)
theorem qqc (m a0 a1):yc (m+1) a0 a1=tb.runP1 m qKi [] (a0,a1,()):=by kernel_rfl
noncomputable def qk1 (m k x0 x1 x2):=tb.QL qGL 4 m k [(0,.row 0 0),(9,.i .i64 x0),(10,.i .i64 x1)] ⟨[],[⟨.term,x2,0,0,false⟩]⟩
theorem qrK (m k):QO m k=qk1 m k:=qI (M:=qk1 m) rfl (λ _=>by kernel_rfl) k
theorem qse (m a0):qc2 (m+1) a0=tb.runS1 m qGL (a0,()):=(congrArg (λ L=>qcQ m L a0) (qrK m m)).trans (by kernel_rfl)
theorem quZ (m a0 a1):qht (m+1) a0 a1=tb.runP1 m i96 [] (a0,a1,()):=by kernel_rfl
theorem qyl (m a0):qhT (m+1) a0=tb.runP1 m i69 [] (a0,()):=by kernel_rfl
theorem qrW (m a0):yW (m+1) a0=tb.runP1 m i41 [] (a0,()):=by kernel_rfl
noncomputable def qtr (m k x0 x1 x2 x3 x4 x5 x6 x7 x8 x9 x10):=tb.PL i70 2 m k [(2,.ptr 0 0),(4,.ptr 1 0),(8,.sl (.int .i64) x0 1),(9,.i .i64 x1),(10,.i .i64 x2)] ⟨[[.i .i64 x3,.s x4,.i .i64 x5,.sl .term x6 1],[.i .i64 x7,.s x8,.i .i64 x9,.row 0 0]],[⟨.term,x10,0,0,false⟩]⟩
theorem qAt (m k):qfm m k=qtr m k:=qI (M:=qtr m) rfl (λ _=>by kernel_rfl) k
theorem qCD (m a0 a1):qlR (m+1) a0 a1=tb.runP1 m i70 [] (a0,a1,()):=(congrArg (λ L=>qiV m L a0 a1) (qAt m m)).trans (by kernel_rfl)
theorem qqg (m a0):zF (m+1) a0=tb.runP1 m i42 [] (a0,()):=by kernel_rfl
theorem quI (m a0):qlh (m+1) a0=tb.runP1 m i12 [] (a0,()):=by kernel_rfl
theorem qoh (m a0 a1):Qj (m+1) a0 a1=tb.runP1 m i65 [] (a0,a1,()):=by kernel_rfl
theorem quR (m a0):qev (m+1) a0=tb.runP1 m i73 [] (a0,()):=by kernel_rfl
theorem qta (m a0):qak (m+1) a0=tb.runP1 m i44 [] (a0,()):=by kernel_rfl
theorem qvs (m a0):qa4 (m+1) a0=tb.runP1 m i46 [] (a0,()):=by kernel_rfl
noncomputable def qlx (m k x0 x1 x2 x3 x4 x5 x6 x7 x8 x9):=tb.PL i14 7 m k [(4,.ptr 0 0),(6,.ptr 1 0),(21,.i .i64 x0),(22,.i .i64 x1)] ⟨[[.i .i64 x2,.s x3,.i .i64 x4,.row 0 0],[.i .i64 x5,.s x6,.i .i64 x7,.sl .term x8 1]],[⟨.term,x9,0,0,false⟩]⟩
theorem qs8 (m k):qnn m k=qlx m k:=qI (M:=qlx m) rfl (λ _=>by kernel_rfl) k
theorem qvm (m a0 a1):qhk (m+1) a0 a1=tb.runP1 m i14 [] (a0,a1,()):=(congrArg (λ L=>qlP m L a0 a1) (qs8 m m)).trans (by kernel_rfl)
theorem qtH (m a0 a1):Jl (m+1) a0 a1=tb.runP1 m i76 [] (a0,a1,()):=by kernel_rfl
noncomputable def qny (m k x0 x1 x2 x3 x4 x5):=tb.PL i77 3 m k [(1,.ptr 0 0),(3,.i .i64 x0),(4,.i .i64 x1)] ⟨[[.i .i64 x2,.s x3,.i .i64 x4,.sl .term x5 1]],[]⟩
theorem que (m k):qag m (yC m) k=qny m k:=qI (M:=qny m) rfl (λ _=>by kernel_rfl) k
theorem qw9 (m a0):yC (m+1) a0=tb.runP1 m i77 [] (a0,()):=(congrArg (λ L=>qeY m (yC m) L a0) (que m m)).trans (by kernel_rfl)
noncomputable def qjH (m k x0 x1 x2 x3 x4 x5 x6 x7 x8):=tb.PL i50 18 m k [(2,.ptr 0 0),(3,.ptr 1 0),(9,.i .i64 x0)] ⟨[[.i .i64 x1,.s x2,.i .i64 x3,.sl .term x4 1],[.i .i64 x5,.s x6,.i .i64 x7,.sl .term x8 1]],[]⟩
theorem qpV (m k):Qi m (zk m) k=qjH m k:=qI (M:=qjH m) rfl (λ _=>by kernel_rfl) k
theorem qqU (m a0 a1):zk (m+1) a0 a1=tb.runP1 m i50 [] (a0,a1,()):=(congrArg (λ L=>qb1 m (zk m) L a0 a1) (qpV m m)).trans (by kernel_rfl)
theorem qxA (m a0 a1):yD (m+1) a0 a1=tb.runP1 m i17 [] (a0,a1,()):=by kernel_rfl
noncomputable def qj3 (m k x0 x1 x2 x3 x4 x5 x6 x7 x8 x9 x10):=tb.PL i21 5 m k [(1,.ptr 0 0),(3,.i .i64 x0),(39,.sl (.pair (.int .i64) .term) x1 1),(40,.i .i64 x2),(41,.i .i64 x3)] ⟨[[.i .i64 x4,.s x5,.i .i64 x6,.sl .term x7 1,.i .i64 x8,.sl (.pair (.int .i64) .term) x9 1,.i .i64 x10]],[]⟩
theorem qp1 (m k):Qu m k=qj3 m k:=qI (M:=qj3 m) rfl (λ _=>by kernel_rfl) k
theorem qqB (m a0):yT (m+1) a0=tb.runP1 m i21 [] (a0,()):=(congrArg (λ L=>qbP m L a0) (qp1 m m)).trans (by kernel_rfl)
noncomputable def qlY (m k x0 x1 x2 x3 x4 x5 x6 x7 x8 x9 x10 x11 x12 x13 x14 x15 x16 x17):=tb.QL i51 4 m k [(1,.ptr 0 0),(2,.ptr 1 0),(3,.row 2 0),(11,.sl (.pair (.int .i64) .term) x0 1),(12,.i .i64 x1),(13,.i .i64 x2)] ⟨[[.i .i64 x3,.s x4,.i .i64 x5,.sl .term x6 1,.i .i64 x7,.sl (.pair (.int .i64) .term) x8 1,.i .i64 x9],[.i .i64 x10,.s x11,.i .i64 x12,.row 0 0,.i .i64 x13,.row 1 0,.i .i64 x14]],[⟨.term,x15,0,0,false⟩,⟨(.pair (.int .i64) .term),x16,0,0,false⟩,⟨(.pair (.int .i64) .term),x17,0,0,false⟩]⟩
theorem qtL (m k):JC m k=qlY m k:=qI (M:=qlY m) rfl (λ _=>by kernel_rfl) k
theorem quA (m a0):qaX (m+1) a0=tb.runS1 m i51 (a0,()):=(congrArg (λ L=>qdU m L a0) (qtL m m)).trans (by kernel_rfl)
theorem qp0 (m a0 a1):qdG (m+1) a0 a1=tb.runP1 m i54 [] (a0,a1,()):=by kernel_rfl
noncomputable def qhx (m k x0 x1 x2 x3 x4 x5 x6 x7 x8 x9 x10 x11 x12 x13 x14 x15 x16 x17 x18 x19 x20 x21 x22):=tb.PL i19 17 m k [(3,.ptr 0 0),(4,.ptr 1 0),(5,.ptr 2 0),(7,.ptr 3 0)] ⟨[[.i .i64 x0,.i .i64 x1,.s x2,.i .i64 x3,.sl .term x4 1],[.i .i64 x5,.s x6,.i .i64 x7,.row 0 0,.i .i64 x8,.row 1 0,.i .i64 x9],[.i .i64 x10,.s x11,.i .i64 x12,.row 2 0],[.i .i64 x13,.s x14,.i .i64 x15,.sl .term x16 1,.i .i64 x17,.row 3 0,.i .i64 x18]],[⟨.term,x19,0,0,false⟩,⟨(.pair (.int .i64) .term),x20,0,0,false⟩,⟨.term,x21,0,0,false⟩,⟨(.pair (.int .i64) .term),x22,0,0,false⟩]⟩
theorem qnV (m k):qiu m k=qhx m k:=qI (M:=qhx m) rfl (λ _=>by kernel_rfl) k
theorem qo0 (m a0 a1):qaI (m+1) a0 a1=tb.runP1 m i19 [] (a0,a1,()):=(congrArg (λ L=>qhN m L a0 a1) (qnV m m)).trans (by kernel_rfl)
theorem qwQ (m a0 a1):qfO (m+1) a0 a1=tb.runP1 m i23 [] (a0,a1,()):=by kernel_rfl
theorem qwT (m):qd6 (m+1)=tb.runP1 m i22 [] (()):=by kernel_rfl
theorem qth (m a0):qab (m+1) a0=tb.runP1 m qJM [] (a0,()):=by kernel_rfl
theorem qvd (m a0):qcs (m+1) a0=tb.runP1 m qJ2 [] (a0,()):=by kernel_rfl
noncomputable def qnm (m k x0 x1):=tb.PL i86 2 m k [(0,.s x0),(3,.i .i64 x1)] ⟨[],[]⟩
theorem quD (m k):qoa m k=qnm m k:=qI (M:=qnm m) rfl (λ _=>by kernel_rfl) k
theorem qw6 (m a0):qfL (m+1) a0=tb.runP1 m i86 [] (a0,()):=(congrArg (λ L=>qnE m L a0) (quD m m)).trans (by kernel_rfl)
noncomputable def qkN (m k x0 x1):=tb.PL i87 4 m k [(0,.s x0),(3,.i .i64 x1)] ⟨[],[]⟩
theorem qqC (m k):QP m k=qkN m k:=qI (M:=qkN m) rfl (λ _=>by kernel_rfl) k
theorem qsr (m a0):Qh (m+1) a0=tb.runP1 m i87 [] (a0,()):=(congrArg (λ L=>qcW m L a0) (qqC m m)).trans (by kernel_rfl)
theorem qxe (m a0):qmo (m+1) a0=tb.runP1 m qJj [] (a0,()):=by kernel_rfl
noncomputable def qnz (m k x0 x1 x2 x3 x4 x5 x6 x7 x8 x9 x10):=tb.PL i88 5 m k [(1,.s x0),(2,.ptr 0 0),(4,.ptr 1 0),(7,.s x1),(8,.i .i64 x2)] ⟨[[.i .i64 x3,.s x4,.i .i64 x5,.sl .term x6 1],[.i .i64 x7,.s x8,.i .i64 x9,.row 0 0]],[⟨.term,x10,0,0,false⟩]⟩
theorem qu9 (m k):qn3 m k=qnz m k:=qI (M:=qnz m) rfl (λ _=>by kernel_rfl) k
theorem qwI (m a0 a1):qiH (m+1) a0 a1=tb.runP1 m i88 [] (a0,a1,()):=(congrArg (λ L=>qnL m L a0 a1) (qu9 m m)).trans (by kernel_rfl)
noncomputable def qnl (m k x0 x1 x2 x3 x4 x5 x6 x7 x8 x9):=tb.PL i66 13 m k [(0,.s x0),(1,.i .i64 x1),(4,.ptr 0 0),(7,.ptr 1 0)] ⟨[[.i .i64 x2,.s x3,.i .i64 x4,.row 0 0],[.i .i64 x5,.s x6,.i .i64 x7,.row 1 0]],[⟨.term,x8,0,0,false⟩,⟨.term,x9,0,0,false⟩]⟩
theorem qvn (m k):qpj m (qgB m) k=qnl m k:=qI (M:=qnl m) rfl (λ _=>by kernel_rfl) k
theorem qw8 (m a0 a1):qgB (m+1) a0 a1=tb.runP1 m i66 [] (a0,a1,()):=(congrArg (λ L=>qnx m (qgB m) L a0 a1) (qvn m m)).trans (by kernel_rfl)
theorem qwH (m a0):qgC (m+1) a0=tb.runP1 m qJo [] (a0,()):=by kernel_rfl
noncomputable def qlD (m k x0 x1 x2 x3 x4):=tb.PL i89 5 m k [(1,.ptr 0 0),(4,.i .i64 x0)] ⟨[[.i .i64 x1,.s x2,.i .i64 x3,.sl .term x4 1]],[]⟩
theorem qsB (m k):Jz m (yI m) k=qlD m k:=qI (M:=qlD m) rfl (λ _=>by kernel_rfl) k
theorem qvx (m a0):yI (m+1) a0=tb.runP1 m i89 [] (a0,()):=(congrArg (λ L=>qdQ m (yI m) L a0) (qsB m m)).trans (by kernel_rfl)
noncomputable def qlu (m k x0 x1 x2 x3 x4 x5):=tb.PL i90 3 m k [(1,.ptr 0 0),(3,.i .i64 x0),(4,.i .i64 x1)] ⟨[[.i .i64 x2,.s x3,.i .i64 x4,.sl .term x5 1]],[]⟩
theorem qsZ (m k):JA m (yL m) k=qlu m k:=qI (M:=qlu m) rfl (λ _=>by kernel_rfl) k
theorem qua (m a0):yL (m+1) a0=tb.runP1 m i90 [] (a0,()):=(congrArg (λ L=>qdW m (yL m) L a0) (qsZ m m)).trans (by kernel_rfl)
theorem qvj (m a0):zJ (m+1) a0=tb.runP1 m i67 [] (a0,()):=by kernel_rfl
theorem qvr (m a0):qhr (m+1) a0=tb.runP1 m i38 [] (a0,()):=by kernel_rfl
theorem qqK (m):qeJ (m+1)=tb.runP1 m qJF [] (()):=by kernel_rfl
noncomputable def qnq (m k x0 x1 x2):=tb.PL qGF 3 m k [(0,.s x0),(3,.sl (.pair .str (.pair (.int .i64) (.pair (.int .i64) (.int .i64)))) x1 1),(4,.i .i64 x2)] ⟨[],[]⟩
theorem qvq (m k):qaj m k=qnq m k:=qI (M:=qnq m) rfl (λ _=>by kernel_rfl) k
theorem qwM (m a0):qb5 (m+1) a0=tb.runP1 m qGF [] (a0,()):=(congrArg (λ L=>qeS m L a0) (qvq m m)).trans (by kernel_rfl)
noncomputable def qnJ (m k x0 x1 x2 x3 x4 x5):=tb.PL qFE 3 m k [(1,.ptr 0 0),(3,.sl (.pair .str (.pair (.int .i64) (.pair (.int .i64) (.int .i64)))) x0 1),(4,.i .i64 x1)] ⟨[[.i .i64 x2,.s x3,.i .i64 x4,.sl .term x5 1]],[]⟩
theorem quJ (m k):J3 m k=qnJ m k:=qI (M:=qnJ m) rfl (λ _=>by kernel_rfl) k
theorem qwA (m a0):qf9 (m+1) a0=tb.runP1 m qFE [] (a0,()):=(congrArg (λ L=>qe0 m L a0) (quJ m m)).trans (by kernel_rfl)
noncomputable def qk0 (m k x0 x1 x2 x3 x4):=tb.PL qF9 4 m k [(1,.ptr 0 0),(3,.i .i64 x0)] ⟨[[.i .i64 x1,.s x2,.i .i64 x3,.sl .term x4 1]],[]⟩
theorem qqN (m k):Q8 m k=qk0 m k:=qI (M:=qk0 m) rfl (λ _=>by kernel_rfl) k
theorem qsb (m a0):qdD (m+1) a0=tb.runP1 m qF9 [] (a0,()):=(congrArg (λ L=>qcT m L a0) (qqN m m)).trans (by kernel_rfl)
noncomputable def qlq (m k x0 x1 x2 x3 x4):=tb.PL qGj 11 m k [(1,.ptr 0 0),(4,.i .i64 x0)] ⟨[[.i .i64 x1,.s x2,.i .i64 x3,.sl .term x4 1]],[]⟩
theorem qtk (m k):Qw m (yq m) k=qlq m k:=qI (M:=qlq m) rfl (λ _=>by kernel_rfl) k
theorem qva (m a0):yq (m+1) a0=tb.runP1 m qGj [] (a0,()):=(congrArg (λ L=>qdT m (yq m) L a0) (qtk m m)).trans (by kernel_rfl)
theorem qu5 (m a0):qeB (m+1) a0=tb.runP1 m qJN [] (a0,()):=by kernel_rfl
theorem qzu (m a0 a1):zW (m+1) a0 a1=tb.runP1 m i64 [] (a0,a1,()):=by kernel_rfl
theorem qAX (m a0 a1):qad (m+1) a0 a1=tb.runP1 m i79 [] (a0,a1,()):=by kernel_rfl
theorem qr2 (m a0):qci (m+1) a0=tb.runP1 m qJ9 [] (a0,()):=by kernel_rfl
noncomputable def qow (m k x0 x1 x2 x3 x4 x5):=tb.PL i81 2 m k [(0,.sl .term x0 1),(3,.ptr 0 0),(5,.i .i64 x1)] ⟨[[.i .i64 x2,.s x3,.i .i64 x4,.sl .term x5 1]],[]⟩
theorem qxr (m k):qa0 m k=qow m k:=qI (M:=qow m) rfl (λ _=>by kernel_rfl) k
theorem qy9 (m a0 a1):qhQ (m+1) a0 a1=tb.runP1 m i81 [] (a0,a1,()):=(congrArg (λ L=>qgq m L a0 a1) (qxr m m)).trans (by kernel_rfl)
noncomputable def qoG (m k x0 x1 x2 x3 x4 x5 x6 x7):=tb.PL i85 4 m k [(0,.sl .term x0 1),(3,.ptr 0 0),(5,.row 0 0),(6,.b x1),(7,.i .i64 x2)] ⟨[[.i .i64 x3,.s x4,.i .i64 x5,.sl .term x6 1]],[⟨.term,x7,0,0,false⟩]⟩
theorem qwR (m k):qa2 m k=qoG m k:=qI (M:=qoG m) rfl (λ _=>by kernel_rfl) k
theorem qyy (m a0 a1):qft (m+1) a0 a1=tb.runP1 m i85 [] (a0,a1,()):=(congrArg (λ L=>qgD m L a0 a1) (qwR m m)).trans (by kernel_rfl)
noncomputable def qkF (m k x0 x1 x2 x3 x4 x5 x6):=tb.PL qHh 5 m k [(0,.sl .term x0 1),(3,.ptr 0 0),(5,.row 0 0),(6,.i .i64 x1)] ⟨[[.i .i64 x2,.s x3,.i .i64 x4,.sl .term x5 1]],[⟨.term,x6,0,0,false⟩]⟩
theorem qqQ (m k):QR m k=qkF m k:=qI (M:=qkF m) rfl (λ _=>by kernel_rfl) k
theorem qsq (m a0 a1):qdg (m+1) a0 a1=tb.runP1 m qHh [] (a0,a1,()):=(congrArg (λ L=>qcF m L a0 a1) (qqQ m m)).trans (by kernel_rfl)
noncomputable def qnI (m k x0 x1 x2):=tb.PL qGt 3 m k [(1,.sl .term x0 1),(5,.sl .term x1 1),(6,.i .i64 x2)] ⟨[],[]⟩
theorem qu1 (m k):Jo m k=qnI m k:=qI (M:=qnI m) rfl (λ _=>by kernel_rfl) k
theorem qxx (m a0 a1):qdM (m+1) a0 a1=tb.runP1 m qGt [] (a0,a1,()):=(congrArg (λ L=>qeT m L a0 a1) (qu1 m m)).trans (by kernel_rfl)
noncomputable def qiv (m k x0 x1 x2 x3 x4 x5):=tb.PL qFQ 7 m k [(1,.ptr 0 0),(3,.sl .term x0 1),(4,.i .i64 x1)] ⟨[[.i .i64 x2,.s x3,.i .i64 x4,.sl .term x5 1]],[]⟩
theorem qoz (m k):jo m (zw m) k=qiv m k:=qI (M:=qiv m) rfl (λ _=>by kernel_rfl) k
theorem qp2 (m a0):zw (m+1) a0=tb.runP1 m qFQ [] (a0,()):=(congrArg (λ L=>qbm m (zw m) L a0) (qoz m m)).trans (by kernel_rfl)
noncomputable def qlA (m k x0 x1 x2 x3 x4 x5):=tb.PL qGf 4 m k [(0,.sl .term x0 1),(3,.ptr 0 0),(5,.i .i64 x1)] ⟨[[.i .i64 x2,.s x3,.i .i64 x4,.sl .term x5 1]],[]⟩
theorem qsC (m k):Jy m k=qlA m k:=qI (M:=qlA m) rfl (λ _=>by kernel_rfl) k
theorem qt6 (m a0 a1):qeD (m+1) a0 a1=tb.runP1 m qGf [] (a0,a1,()):=(congrArg (λ L=>qea m L a0 a1) (qsC m m)).trans (by kernel_rfl)
theorem qw0 (m):qgr (m+1)=tb.runP1 m qJg [] (()):=by kernel_rfl
theorem qxv (m a0):qgg (m+1) a0=tb.runP1 m qJS [] (a0,()):=by kernel_rfl
noncomputable def qoE (m k x0 x1 x2 x3 x4 x5 x6):=tb.PL qGD 6 m k [(0,.sl .term x0 1),(2,.ptr 0 0),(5,.sl .term x1 1),(6,.i .i64 x2)] ⟨[[.i .i64 x3,.s x4,.i .i64 x5,.row 0 0]],[⟨.term,x6,0,0,true⟩]⟩
theorem qw7 (m k):qba m k=qoE m k:=qI (M:=qoE m) rfl (λ _=>by kernel_rfl) k
theorem qzC (m a0):qhA (m+1) a0=tb.runP1 m qGD [] (a0,()):=(congrArg (λ L=>qfU m L a0) (qw7 m m)).trans (by kernel_rfl)
theorem qrX (m a0):JB (m+1) a0=tb.runP1 m qI4 [] (a0,()):=by kernel_rfl
noncomputable def qlH (m k x0 x1 x2 x3 x4 x5):=tb.PL qFX 7 m k [(1,.ptr 0 0),(3,.i .i64 x0),(4,.i .i64 x1)] ⟨[[.i .i64 x2,.s x3,.i .i64 x4,.sl .term x5 1]],[]⟩
theorem qsk (m k):Qy m (yr m) k=qlH m k:=qI (M:=qlH m) rfl (λ _=>by kernel_rfl) k
theorem qu0 (m a0):yr (m+1) a0=tb.runP1 m qFX [] (a0,()):=(congrArg (λ L=>qdL m (yr m) L a0) (qsk m m)).trans (by kernel_rfl)
noncomputable def qoI (m k x0 x1 x2 x3 x4 x5 x6 x7 x8):=tb.QL qGA 4 m k [(0,.row 0 0),(2,.i .i64 x0),(4,.ptr 0 0),(7,.row 1 0),(8,.b x1),(9,.i .i64 x2)] ⟨[[.i .i64 x3,.s x4,.i .i64 x5,.sl .term x6 1]],[⟨(.pair .term (.int .i64)),x7,0,0,false⟩,⟨(.pair .term (.int .i64)),x8,0,0,false⟩]⟩
theorem qwL (m k):Jb m k=qoI m k:=qI (M:=qoI m) rfl (λ _=>by kernel_rfl) k
theorem qzq (m a0 a1 a2):qfA (m+1) a0 a1 a2=tb.runS1 m qGA (a0,a1,a2,()):=(congrArg (λ L=>qfF m L a0 a1 a2) (qwL m m)).trans (by kernel_rfl)
noncomputable def qjX (m k x0 x1 x2 x3 x4 x5 x6):=tb.QL qGz 6 m k [(0,.row 0 0),(2,.i .i64 x0),(4,.ptr 0 0),(7,.i .i64 x1)] ⟨[[.i .i64 x2,.s x3,.i .i64 x4,.sl .term x5 1]],[⟨(.pair .term (.int .i64)),x6,0,0,false⟩]⟩
theorem qp7 (m k):jA m (zH m) k=qjX m k:=qI (M:=qjX m) rfl (λ _=>by kernel_rfl) k
theorem qq4 (m a0 a1 a2):zH (m+1) a0 a1 a2=tb.runS1 m qGz (a0,a1,a2,()):=(congrArg (λ L=>qbQ m (zH m) L a0 a1 a2) (qp7 m m)).trans (by kernel_rfl)
theorem qAU (m a0):qe8 (m+1) a0=tb.runP1 m qJf [] (a0,()):=by kernel_rfl
noncomputable def qlQ (m k x0 x1):=tb.PL qFL 4 m k [(0,.sl (.pair .term (.int .i64)) x0 1),(3,.i .i64 x1)] ⟨[],[]⟩
theorem qtO (m k):Qz m k=qlQ m k:=qI (M:=qlQ m) rfl (λ _=>by kernel_rfl) k
theorem qt3 (m a0):qaV (m+1) a0=tb.runP1 m qFL [] (a0,()):=(congrArg (λ L=>qeb m L a0) (qtO m m)).trans (by kernel_rfl)
noncomputable def qit (m k x0 x1 x2):=tb.PL qu4 3 m k [(0,.sl (.pair .term (.int .i64)) x0 1),(3,.row 0 0),(4,.i .i64 x1)] ⟨[],[⟨.term,x2,0,0,false⟩]⟩
noncomputable def qiq (m k x0 x1 x2 x3):=tb.PL qu4 6 m k [(0,.sl (.pair .term (.int .i64)) x0 1),(3,.row 0 0),(4,.i .i64 x1),(5,.i .i64 x2)] ⟨[],[⟨.term,x3,0,0,false⟩]⟩
noncomputable def qio (m k x0 x1 x2):=tb.PL qu4 10 m k [(0,.sl (.pair .term (.int .i64)) x0 1),(3,.row 0 0),(6,.i .i64 x1)] ⟨[],[⟨.term,x2,0,0,false⟩]⟩
noncomputable def qig (m k x0 x1 x2 x3):=tb.PL qu4 13 m k [(0,.sl (.pair .term (.int .i64)) x0 1),(3,.row 0 0),(6,.i .i64 x1),(7,.i .i64 x2)] ⟨[],[⟨.term,x3,0,0,false⟩]⟩
theorem qn4 (m k):qk m k=(qit m k,qiq m k,qio m k,qig m k):=qI (M := λ k=>(qit m k,qiq m k,qio m k,qig m k)) rfl (λ _=>by kernel_rfl) k
theorem qqh (m a0):qbF (m+1) a0=tb.runP1 m qu4 [] (a0,()):=(congrArg (a₁ := qk m m) (λ L=>qbn m L.1 L.2.1 L.2.2.1 L.2.2.2 a0) (qn4 m m)).trans (by kernel_rfl)
theorem qxn (m a0):qaD (m+1) a0=tb.runP1 m qJm [] (a0,()):=by kernel_rfl
theorem qrx (m a0):qaz (m+1) a0=tb.runP1 m qJC [] (a0,()):=by kernel_rfl
noncomputable def qjn (m k x0 x1):=tb.PL qGa 2 m k [(0,.sl (.pair .term (.int .i64)) x0 1),(3,.i .i64 x1)] ⟨[],[]⟩
theorem qqe (m k):Qd m k=qjn m k:=qI (M:=qjn m) rfl (λ _=>by kernel_rfl) k
theorem qrN (m a0):qco (m+1) a0=tb.runP1 m qGa [] (a0,()):=(congrArg (λ L=>qcg m L a0) (qqe m m)).trans (by kernel_rfl)
noncomputable def qoY (m k x0 x1 x2):=tb.PL qG5 9 m k [(1,.sl (.pair .term (.int .i64)) x0 1),(8,.row 0 0),(9,.i .i64 x1)] ⟨[],[⟨(.pair .term (.int .i64)),x2,0,0,false⟩]⟩
theorem qwy (m k):JW m k=qoY m k:=qI (M:=qoY m) rfl (λ _=>by kernel_rfl) k
theorem qAc (m a0 a1):qhB (m+1) a0 a1=tb.runP1 m qG5 [] (a0,a1,()):=(congrArg (λ L=>qgn m L a0 a1) (qwy m m)).trans (by kernel_rfl)
theorem quh (m a0 a1):qew (m+1) a0 a1=tb.runP1 m qJD [] (a0,a1,()):=by kernel_rfl
noncomputable def qkn (m k x0 x1 x2 x3 x4 x5 x6 x7 x8 x9):=tb.PL qHo 5 m k [(1,.ptr 0 0),(2,.ptr 1 0),(4,.row 1 0),(5,.i .i64 x0)] ⟨[[.i .i64 x1,.s x2,.i .i64 x3,.sl .term x4 1],[.i .i64 x5,.s x6,.i .i64 x7,.row 0 0]],[⟨.term,x8,0,0,false⟩,⟨.term,x9,0,0,false⟩]⟩
theorem qrq (m k):Q6 m (yl m) k=qkn m k:=qI (M:=qkn m) rfl (λ _=>by kernel_rfl) k
theorem qsi (m a0):yl (m+1) a0=tb.runP1 m qHo [] (a0,()):=(congrArg (λ L=>qcN m (yl m) L a0) (qrq m m)).trans (by kernel_rfl)
theorem qr5 (m a0):qda (m+1) a0=tb.runP1 m i98 [] (a0,()):=by kernel_rfl
noncomputable def qpa (m k x0 x1 x2 x3 x4 x5):=tb.PL i99 3 m k [(1,.ptr 0 0),(3,.row 0 0),(4,.i .i64 x0)] ⟨[[.i .i64 x1,.s x2,.i .i64 x3,.sl .term x4 1]],[⟨.term,x5,0,0,true⟩]⟩
theorem qxc (m k):qa3 m (jh m) k=qpa m k:=qI (M:=qpa m) rfl (λ _=>by kernel_rfl) k
theorem qzf (m a0):jh (m+1) a0=tb.runP1 m i99 [] (a0,()):=(congrArg (λ L=>qf8 m (jh m) L a0) (qxc m m)).trans (by kernel_rfl)
noncomputable def qlm (m k x0 x1):=tb.PL i71 6 m k [(5,.sl .term x0 1),(6,.i .i64 x1)] ⟨[],[]⟩
theorem qsA (m k):JE m k=qlm m k:=qI (M:=qlm m) rfl (λ _=>by kernel_rfl) k
theorem qu8 (m a0):qeC (m+1) a0=tb.runP1 m i71 [] (a0,()):=(congrArg (λ L=>qd2 m L a0) (qsA m m)).trans (by kernel_rfl)
noncomputable def qoS (m k x0 x1 x2):=tb.PL i62 3 m k [(0,.sl .term x0 1),(3,.sl .term x1 1),(4,.i .i64 x2)] ⟨[],[]⟩
theorem qxp (m k):qa9 m k=qoS m k:=qI (M:=qoS m) rfl (λ _=>by kernel_rfl) k
theorem qzV (m a0):qhD (m+1) a0=tb.runP1 m i62 [] (a0,()):=(congrArg (λ L=>qgi m L a0) (qxp m m)).trans (by kernel_rfl)
noncomputable def qnr (m k x0 x1 x2 x3):=tb.PL qFS 4 m k [(1,.i .i64 x0),(5,.row 0 0),(6,.sl .term x1 1),(7,.i .i64 x2)] ⟨[],[⟨.term,x3,0,0,false⟩]⟩
theorem qvw (m k):J8 m k=qnr m k:=qI (M:=qnr m) rfl (λ _=>by kernel_rfl) k
theorem qwC (m a0 a1):qfR (m+1) a0 a1=tb.runP1 m qFS [] (a0,a1,()):=(congrArg (λ L=>qe2 m L a0 a1) (qvw m m)).trans (by kernel_rfl)
theorem qwZ (m a0):qgc (m+1) a0=tb.runP1 m qJB [] (a0,()):=by kernel_rfl
theorem qs6 (m a0):qdd (m+1) a0=tb.runP1 m i72 [] (a0,()):=by kernel_rfl
theorem qtP (m a0):Qt (m+1) a0=tb.runP1 m i43 [] (a0,()):=by kernel_rfl
theorem qxR (m a0):qoD (m+1) a0=tb.runP1 m i13 [] (a0,()):=by kernel_rfl
noncomputable def qlo (m k x0 x1 x2 x3 x4 x5 x6 x7 x8):=tb.PL i25 5 m k [(1,.ptr 0 0),(3,.i .i64 x0),(4,.i .i64 x1)] ⟨[[.i .i64 x2,.s x3,.i .i64 x4,.sl .term x5 1,.i .i64 x6,.sl (.pair (.int .i64) .term) x7 1,.i .i64 x8]],[]⟩
theorem qsR (m k):JD m k=qlo m k:=qI (M:=qlo m) rfl (λ _=>by kernel_rfl) k
theorem qt7 (m a0):qaY (m+1) a0=tb.runP1 m i25 [] (a0,()):=(congrArg (λ L=>qd8 m L a0) (qsR m m)).trans (by kernel_rfl)
theorem qrd (m a0 a1):qau (m+1) a0 a1=tb.runP1 m i75 [] (a0,a1,()):=by kernel_rfl
theorem qwJ (m a0):qgf (m+1) a0=tb.runP1 m i47 [] (a0,()):=by kernel_rfl
theorem qxt (m a0):qbW (m+1) a0=tb.runP1 m i48 [] (a0,()):=by kernel_rfl
theorem qyb (m a0):qhy (m+1) a0=tb.runP1 m i49 [] (a0,()):=by kernel_rfl
theorem qxh (m a0 a1):qd4 (m+1) a0 a1=tb.runP1 m i35 [] (a0,a1,()):=by kernel_rfl
noncomputable def qnM (m k x0 x1 x2 x3 x4 x5 x6 x7 x8 x9):=tb.PL i39 4 m k [(0,.i .i64 x0),(3,.ptr 0 0),(5,.row 0 0),(6,.i .i64 x1)] ⟨[[.i .i64 x2,.s x3,.i .i64 x4,.sl .term x5 1,.i .i64 x6,.sl (.pair (.int .i64) .term) x7 1,.i .i64 x8]],[⟨(.pair (.int .i64) .term),x9,0,0,false⟩]⟩
theorem qu3 (m k):qn0 m k=qnM m k:=qI (M:=qnM m) rfl (λ _=>by kernel_rfl) k
theorem qwO (m a0):qne (m+1) a0=tb.runP1 m i39 [] (a0,()):=(congrArg (λ L=>qnC m L a0) (qu3 m m)).trans (by kernel_rfl)
theorem qvg (m):Jg (m+1)=tb.runP1 m i10 [] (()):=by kernel_rfl
noncomputable def qkE (m k x0 x1 x2 x3 x4 x5):=tb.PL i40 5 m k [(1,.i .i64 x0),(2,.ptr 0 0),(5,.i .i64 x1)] ⟨[[.i .i64 x2,.s x3,.i .i64 x4,.sl .term x5 1]],[]⟩
theorem qrS (m k):QK m (ym m) k=qkE m k:=qI (M:=qkE m) rfl (λ _=>by kernel_rfl) k
theorem qt0 (m a0 a1):ym (m+1) a0 a1=tb.runP1 m i40 [] (a0,a1,()):=(congrArg (λ L=>qcD m (ym m) L a0 a1) (qrS m m)).trans (by kernel_rfl)
noncomputable def qob (m k x0 x1 x2):=tb.PL i11 4 m k [(0,.sl .term x0 1),(2,.i .i64 x1),(7,.i .i64 x2)] ⟨[],[]⟩
theorem qxa (m k):qaZ m k=qob m k:=qI (M:=qob m) rfl (λ _=>by kernel_rfl) k
theorem qyX (m a0 a1 a2):qfB (m+1) a0 a1 a2=tb.runP1 m i11 [] (a0,a1,a2,()):=(congrArg (λ L=>qfJ m L a0 a1 a2) (qxa m m)).trans (by kernel_rfl)
noncomputable def qkj (m k x0 x1 x2 x3 x4 x5 x6 x7 x8):=tb.PL i28 3 m k [(1,.ptr 0 0),(3,.row 0 0),(4,.i .i64 x0)] ⟨[[.i .i64 x1,.s x2,.i .i64 x3,.sl .term x4 1,.i .i64 x5,.sl (.pair (.int .i64) .term) x6 1,.i .i64 x7]],[⟨.term,x8,0,0,true⟩]⟩
theorem qr3 (m k):QY m k=qkj m k:=qI (M:=qkj m) rfl (λ _=>by kernel_rfl) k
theorem qtT (m a0):qbD (m+1) a0=tb.runP1 m i28 [] (a0,()):=(congrArg (λ L=>qcC m L a0) (qr3 m m)).trans (by kernel_rfl)
theorem qyo (m a0):qfs (m+1) a0=tb.runP1 m i18 [] (a0,()):=by kernel_rfl
noncomputable def qln (m k x0 x1 x2):=tb.PL i26 4 m k [(0,.sl .term x0 1),(1,.sl .term x1 1),(5,.i .i64 x2)] ⟨[],[]⟩
theorem qtz (m k):qnB m k=qln m k:=qI (M:=qln m) rfl (λ _=>by kernel_rfl) k
theorem qt5 (m a0 a1):qlg (m+1) a0 a1=tb.runP1 m i26 [] (a0,a1,()):=(congrArg (λ L=>qlv m L a0 a1) (qtz m m)).trans (by kernel_rfl)
noncomputable def qis (m k x0 x1 x2 x3):=tb.PL i27 3 m k [(3,.row 0 0),(11,.sl (.pair (.int .i64) .term) x0 1),(12,.i .i64 x1),(13,.i .i64 x2)] ⟨[],[⟨.term,x3,0,0,true⟩]⟩
theorem qoM (m k):qjL m k=qis m k:=qI (M:=qis m) rfl (λ _=>by kernel_rfl) k
theorem qqf (m a0):qgY (m+1) a0=tb.runP1 m i27 [] (a0,()):=(congrArg (λ L=>qiw m L a0) (qoM m m)).trans (by kernel_rfl)
noncomputable def qei (m k x0 x1 x2 x3):=tb.PL i29 4 m k [(0,.sl (.int .i64) x0 1),(1,.sl (.int .i64) x1 1),(12,.i .i64 x2),(13,.i .i64 x3)] ⟨[],[]⟩
theorem qji (m k):qeH m k=qei m k:=qI (M:=qei m) rfl (λ _=>by kernel_rfl) k
theorem qkd (m a0 a1):qbK (m+1) a0 a1=tb.runP1 m i29 [] (a0,a1,()):=(congrArg (λ L=>qeh m L a0 a1) (qji m m)).trans (by kernel_rfl)
noncomputable def qhK (m k x0 x1 x2 x3):=tb.PL i30 3 m k [(3,.row 0 0),(7,.sl (.pair (.int .i64) .term) x0 1),(8,.i .i64 x1),(9,.i .i64 x2)] ⟨[],[⟨(.int .i64),x3,0,0,false⟩]⟩
theorem qnP (m k):qix m k=qhK m k:=qI (M:=qhK m) rfl (λ _=>by kernel_rfl) k
theorem qpg (m a0):qgy (m+1) a0=tb.runP1 m i30 [] (a0,()):=(congrArg (λ L=>qhz m L a0) (qnP m m)).trans (by kernel_rfl)
noncomputable def qjk (m k x0 x1 x2 x3 x4 x5 x6 x7 x8):=tb.PL i31 3 m k [(1,.ptr 0 0),(3,.row 0 0),(4,.i .i64 x0)] ⟨[[.i .i64 x1,.s x2,.i .i64 x3,.sl .term x4 1,.i .i64 x5,.sl (.pair (.int .i64) .term) x6 1,.i .i64 x7]],[⟨(.int .i64),x8,0,0,false⟩]⟩
theorem qpX (m k):qkX m k=qjk m k:=qI (M:=qjk m) rfl (λ _=>by kernel_rfl) k
theorem qqP (m a0):qic (m+1) a0=tb.runP1 m i31 [] (a0,()):=(congrArg (λ L=>qj1 m L a0) (qpX m m)).trans (by kernel_rfl)
theorem qlX (m a0):qhS (m+1) a0=tb.runP1 m i6 [] (a0,()):=by kernel_rfl
noncomputable def qnK (m k x0 x1 x2 x3 x4 x5 x6 x7 x8 x9 x10 x11 x12 x13 x14):=tb.PL i16 4 m k [(2,.ptr 0 0),(3,.ptr 1 0),(5,.i .i64 x0)] ⟨[[.i .i64 x1,.s x2,.i .i64 x3,.sl .term x4 1,.i .i64 x5,.sl (.pair (.int .i64) .term) x6 1,.i .i64 x7],[.i .i64 x8,.s x9,.i .i64 x10,.sl .term x11 1,.i .i64 x12,.sl (.pair (.int .i64) .term) x13 1,.i .i64 x14]],[]⟩
theorem quj (m k):qae m k=qnK m k:=qI (M:=qnK m) rfl (λ _=>by kernel_rfl) k
theorem qw2 (m a0 a1):qdK (m+1) a0 a1=tb.runP1 m i16 [] (a0,a1,()):=(congrArg (λ L=>qeQ m L a0 a1) (quj m m)).trans (by kernel_rfl)
theorem qsV (m a0 a1):qdC (m+1) a0 a1=tb.runP1 m i24 [] (a0,a1,()):=by kernel_rfl
theorem qsw (m a0 a1):qdo (m+1) a0 a1=tb.runP1 m i36 [] (a0,a1,()):=by kernel_rfl
theorem qxm (m a0 a1):qga (m+1) a0 a1=tb.runP1 m i37 [] (a0,a1,()):=by kernel_rfl
theorem qmt (m a0 a1):law53_RatchetSend (m+1) a0 a1=tb.runP1 m i8 [] (a0,a1,()):=by kernel_rfl
end Go.AmYtbpnmbmdbblehaaGreat
namespace Go.Proofs
open Go.Shelf
def Tryz.sortTrm_ren:Go.Shelf.Ren:=⟨λ | 6=>154 | 15=>187 | 14=>186 | 28=>212 | 29=>213 | 20=>204 | 21=>205 | 22=>206 | 23=>207 | 24=>208 | 25=>209 | 26=>210 | 27=>211 | 46=>225 | 47=>226 | 48=>227 | 49=>228 | 50=>229 | 57=>236 | n=>n,λ | 22=>22 | 24=>24 | 25=>78 | 3=>3 | 39=>172 | 0=>0 | 53=>194 | 55=>196 | 4=>4 | 46=>187 | 45=>186 | 50=>191 | 5=>5 | 9=>9 | 66=>210 | 70=>100 | 76=>222 | 77=>223 | n=>n,λ | n=>n⟩
theorem Tryz.sortTrm:Go.Proofs.SlLaysF0.n6 Tryz.prog Tryz.sortTrm_ren:={
 mixed:=by kernel_rfl
 f6:=⟨Tryz.f154.name,by decide,Tryz.func154.trans (congrArg some (by kernel_rfl))⟩
 f14:=⟨Tryz.f186.name,by decide,Tryz.func186.trans (congrArg some (by kernel_rfl))⟩
 f15:=Tryz.func187.trans (congrArg some (by kernel_rfl))
 f20:=⟨Tryz.f204.name,by decide,Tryz.func204.trans (congrArg some (by kernel_rfl))⟩
 f21:=⟨Tryz.f205.name,by decide,Tryz.func205.trans (congrArg some (by kernel_rfl))⟩
 f22:=⟨Tryz.f206.name,by decide,Tryz.func206.trans (congrArg some (by kernel_rfl))⟩
 f23:=⟨Tryz.f207.name,by decide,Tryz.func207.trans (congrArg some (by kernel_rfl))⟩
 f24:=⟨Tryz.f208.name,by decide,Tryz.func208.trans (congrArg some (by kernel_rfl))⟩
 f25:=⟨Tryz.f209.name,by decide,Tryz.func209.trans (congrArg some (by kernel_rfl))⟩
 f26:=⟨Tryz.f210.name,by decide,Tryz.func210.trans (congrArg some (by kernel_rfl))⟩
 f27:=⟨Tryz.f211.name,by decide,Tryz.func211.trans (congrArg some (by kernel_rfl))⟩
 f28:=Tryz.func212.trans (congrArg some (by kernel_rfl))
 f29:=Tryz.func213.trans (congrArg some (by kernel_rfl))
 f46:=⟨Tryz.f225.name,by decide,Tryz.func225.trans (congrArg some (by kernel_rfl))⟩
 f47:=Tryz.func226.trans (congrArg some (by kernel_rfl))
 f48:=Tryz.func227.trans (congrArg some (by kernel_rfl))
 f49:=⟨Tryz.f228.name,by decide,Tryz.func228.trans (congrArg some (by kernel_rfl))⟩
 f50:=⟨Tryz.f229.name,by decide,Tryz.func229.trans (congrArg some (by kernel_rfl))⟩
 f57:=⟨Tryz.f236.name,by decide,Tryz.func236.trans (congrArg some (by kernel_rfl))⟩
 t0:=Tryz.underlying0
 a0:=Tryz.isAgg0
 z0:=Tryz.sizeOf0
 v0:=Tryz.zeroValue0
 t3:=Tryz.underlying3
 a3:=Tryz.isAgg3
 z3:=Tryz.sizeOf3
 v3:=Tryz.zeroValue3
 t4:=Tryz.underlying4
 a4:=Tryz.isAgg4
 z4:=Tryz.sizeOf4
 v4:=Tryz.zeroValue4
 t5:=Tryz.underlying5
 a5:=Tryz.isAgg5
 z5:=Tryz.sizeOf5
 v5:=Tryz.zeroValue5
 t9:=Tryz.underlying9
 a9:=Tryz.isAgg9
 z9:=Tryz.sizeOf9
 v9:=Tryz.zeroValue9
 t22:=Tryz.underlying22
 a22:=Tryz.isAgg22
 z22:=Tryz.sizeOf22
 v22:=Tryz.zeroValue22
 t25:=Tryz.underlying78
 a25:=Tryz.isAgg78
 z25:=Tryz.sizeOf78
 v25:=Tryz.zeroValue78
 t39:=Tryz.underlying172
 a39:=Tryz.isAgg172
 z39:=Tryz.sizeOf172
 v39:=Tryz.zeroValue172
 t45:=Tryz.underlying186
 a45:=Tryz.isAgg186
 z45:=Tryz.sizeOf186
 v45:=Tryz.zeroValue186
 t46:=Tryz.underlying187
 a46:=Tryz.isAgg187
 z46:=Tryz.sizeOf187
 v46:=Tryz.zeroValue187
 t50:=Tryz.underlying191
 a50:=Tryz.isAgg191
 z50:=Tryz.sizeOf191
 v50:=Tryz.zeroValue191
 t53:=Tryz.underlying194
 a53:=Tryz.isAgg194
 z53:=Tryz.sizeOf194
 v53:=Tryz.zeroValue194
 t55:=Tryz.underlying196
 a55:=Tryz.isAgg196
 z55:=Tryz.sizeOf196
 v55:=Tryz.zeroValue196
 t66:=Tryz.underlying210
 a66:=Tryz.isAgg210
 z66:=Tryz.sizeOf210
 v66:=Tryz.zeroValue210
 t70:=Tryz.underlying100
 a70:=Tryz.isAgg100
 z70:=Tryz.sizeOf100
 v70:=Tryz.zeroValue100
 t76:=Tryz.underlying222
 a76:=Tryz.isAgg222
 z76:=Tryz.sizeOf222
 v76:=Tryz.zeroValue222
 t77:=Tryz.underlying223
 a77:=Tryz.isAgg223
 z77:=Tryz.sizeOf223
 v77:=Tryz.zeroValue223 }
end Go.Proofs
