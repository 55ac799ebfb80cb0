/- Part 5 of what the proofs stand on: plain functions of the program, and that they are its functions. -/
import Derived.Test.YtbpnmbmdbblehaaGreatM4
import Derived.KernelRfl
import Derived.Test.YtbpnmbmdbblehaaGreatM3
import Derived.Shelf.SlSortCmp.NoneTotal
import Derived.Test.YtbpnmbmdbblehaaGreatProg
set_option linter.unusedVariables false
set_option linter.unusedSimpArgs false
namespace Go.AmYtbpnmbmdbblehaaGreat
open Go Go.GxYtbpnmbmdbblehaaGreat
theorem qEq (ls:List (List T)) (hn:ls.length<1000) (h:(ls.map List.length).sum≤100000000):Ev (λ m _=>zd m ls) ls.flatten:=by
 have hfl:∀ l:List (List T),l.flatten.length=(l.map List.length).sum := λ l=>List.length_flatten
 have k2:=qr (P := λ i=>Ev (λ m k=>(ql m k).2 ls ls.length i (ls.take i).flatten) ls.flatten) ls (by omega)
  (λ hc=>by
   refine Ev.loop ?_
   simp only [JK,yE]
   refine Ev.cf hc ?_
   rw [List.take_length]
   exact Ev.pure _)
  (λ i x hx hd hc hg hi hP=>by
   refine Ev.loop ?_
   simp only [JK,yE]
   have ht:ls.take (i+1)=ls.take i++[x]:=by rw [List.take_add_one,hx];rfl
   have hs:((ls.take (i+1)).map List.length).sum≤(ls.map List.length).sum:=by
    have:=congrArg (λ l=>(l.map List.length).sum) (List.take_append_drop (i+1) ls)
    simp only [List.map_append,List.sum_append] at this
    omega
   rw [ht] at hs
   simp only [List.map_append,List.sum_append,List.map_cons,List.map_nil,List.sum_cons,List.sum_nil] at hs
   refine Ev.ct hc (Ev.some hg (Ev.ct (qY ?_ (by omega)) ?_))
   ·rw [hfl];omega
   ·rw [hi]
    refine hP.congr λ m k=>?_
    rw [ht,List.flatten_append];simp)
 have k1:=qr (P := λ i=>∀ n:Nat,n+((ls.drop i).map List.length).sum≤100000000→Ev (λ m k=>(ql m k).1 ls n ls ls.length i) ls.flatten) ls (by omega)
  (λ hc n hn=>by
   refine Ev.loop ?_
   simp only [JH,yG]
   refine Ev.cf hc (Ev.some (a:=((),[],())) ?_ (k2 0 (Nat.zero_le _)))
   unfold yw
   rw [show inb (n:Int) 100000000=true from by unfold inb;rw [decide_eq_true_iff];omega]
   rfl)
  (λ i x hx hd hc hg hi hP n hn=>by
   refine Ev.loop ?_
   simp only [JH,yG]
   rw [hd,List.map_cons,List.sum_cons] at hn
   refine Ev.ct hc (Ev.some hg ?_)
   rw [qlD,Jc (by omega)]
   refine Ev.cf (qw.2 (by omega)) ?_
   rw [hi]
   exact hP (n+x.length) (by omega))
 refine Ev.succ ?_
 simp only [qeD,yy]
 refine Ev.diag (L := λ m k=>(ql m k).1 ls 0 ls ls.length 0) ?_
 exact k1 0 (Nat.zero_le _) 0 (by rw [List.drop_zero];omega)
theorem qrE (a b:List T) (h:a.length+b.length≤100000000):Ev (λ m _=>zd m [a,b]) (a++b) :=
 (qEq [a,b] (by simp) (by simpa using h)).res (by simp)
theorem qoi {f:T→Int} {l:List T} {i:Nat} {x:T} (h:l.drop i=x::l.drop (i+1)):((l.drop i).map f).foldl thn 0=if f x≠0 then f x else ((l.drop (i+1)).map f).foldl thn 0:=by
 rw [h,List.map_cons]
 by_cases hx:f x=0
 ·rw [if_neg (by simpa using hx),hx];rfl
 ·rw [if_pos hx]
  exact qH _ hx
theorem qFS (l:List T) (hs:szL l≤100000000):Ev (λ m _=>qg9 m l []) (qk3 l):=by
 have hl:=jb l
 refine Ev.succ ?_
 simp only [qAq,qgi]
 unfold qk3
 refine Ev.ite (λ h=>?_) λ h=>?_
 ·rw [qs] at h
  rw [if_pos (by omega)]
  exact Ev.pure _
 ·rw [qw] at h
  rw [if_neg (by omega)]
  refine Ev.bind (qrE l [] (by simp only [List.length_nil];omega)) ?_
  rw [List.append_nil]
  have key:=qr (P := λ i=>Ev (λ m k=>qaY m k l l.length i) (((l.drop i).map qR).foldl thn 0)) l (by omega)
   (λ hc=>by
    refine Ev.loop ?_
    simp only [qov,qgn]
    refine Ev.cf hc ?_
    rw [List.drop_length]
    exact Ev.pure _)
   (λ i x hx hd hc hg hi hP=>by
    refine Ev.loop ?_
    simp only [qov,qgn,qf]
    have h1:=qbF (List.mem_of_getElem? hx)
    rw [qoi hd]
    refine Ev.ct hc (Ev.some hg (Ev.bind (qc8 x (by omega)) (Ev.ite (λ hv=>?_) λ hv=>?_)))
    ·rw [bnt,qh] at hv
     rw [if_pos hv]
     exact Ev.pure _
    ·rw [bnf,qj] at hv
     rw [if_neg (by omega),hi]
     exact hP)
  refine Ev.diag (L := λ m k=>qaY m k l l.length 0) ?_
  exact (key 0 (Nat.zero_le _)).res (by rw [List.drop_zero])
theorem qBG (t:T) (hs:size t≤1000000000):Ev (λ m _=>qdr m t [] t) (t,0):=by
 refine Ev.succ ?_
 simp only [quQ,qcD,qf]
 refine Ev.bind (ql7 t hs) ?_
 refine Ev.diag (L := λ m k=>J3 m k [] ([]:List Int).length 0 t.kind t.name t.sort t.kids 0 [] 0 t.kind t.name t.sort t.kids []) (Ev.loop ?_)
 simp only [qry,qf8,qf]
 refine Ev.cf rfl ?_
 rw [show T.mk t.kind t.name t.sort t.kids=t from qf t]
 exact Ev.bind (ql7 t hs) (Ev.pure _)
def qda (l:List T) (i:Nat):List T:=l.take i++List.replicate (l.length-i) zT
theorem qFy {l:List T} {i:Nat} (h:i<l.length):(qda l i)[i]? = some zT:=by
 unfold qda
 rw [List.getElem?_append_right (by rw [List.length_take];omega),List.length_take,List.getElem?_replicate,if_pos (by omega)]
theorem qru {l:List T} {i:Nat} {x:T} (h:l[i]? = some x):(qda l i).set i x=qda l (i+1):=by
 have hi:=(List.getElem?_eq_some_iff.1 h).1
 unfold qda
 have h1:l.take (i+1)=l.take i++[x]:=by rw [List.take_add_one,h];rfl
 have h2:List.replicate (l.length-i) zT=zT::List.replicate (l.length-(i+1)) zT:=by
  rw [show l.length-i=(l.length-(i+1))+1 by omega,List.replicate_succ]
 rw [h1,h2,List.set_append_right _ _ (by rw [List.length_take];omega),List.length_take,show i-min i l.length=0 by omega,List.set_cons_zero,List.append_assoc];rfl
theorem qDf {l:List T} {i:Nat} {x:T} (h:l[i]? = some x):(qda l (i+1)).set i x=qda l (i+1):=by
 rw [← qru h,List.set_set]
theorem qED {l:List T} {i:Nat} {x:T} (h:l[i]? = some x):(qda l (i+1))[i]? = some x:=by
 have hi:=(List.getElem?_eq_some_iff.1 h).1
 rw [← qru h,List.getElem?_set_self (by unfold qda;rw [List.length_append,List.length_take,List.length_replicate];omega)]
theorem qde {α : Type} (l:List α) (i:Nat) (v : α):jO l (i:Int) v=l.set i v:=by
 unfold jO
 rw [if_pos (by omega),Int.toNat_natCast]
theorem qG3:∀ (n:Nat) (l:List T),szL l≤n→n≤1000000→Ev (λ m _=>QX m l) l:=by
 intro n
 induction n using Nat.strongRecOn with
 | _ n ih =>
 intro l hs hn
 have hl:=jb l
 refine Ev.succ ?_
 simp only [qDM,qid]
 have key:=qr (P := λ i=>Ev (λ m k=>qc9 m (QX m) k l l.length i (qda l i)) l) l (by omega)
  (λ hc=>by
   refine Ev.loop ?_
   simp only [qsD,qiv]
   refine Ev.cf hc ?_
   exact Ev.ret (by unfold qda;rw [List.take_length,Nat.sub_self];simp))
  (λ i x hx hd hc hg hi hP=>by
   refine Ev.loop ?_
   simp only [qsD,qiv,qf]
   have h1:=qbF (List.mem_of_getElem? hx)
   have h2:=qS x
   have hib:=(List.getElem?_eq_some_iff.1 hx).1
   have e:jO (qda l i) i x=qda l (i+1):=by rw [qde,qru hx]
   have e2:jO (qda l (i+1)) i x=qda l (i+1):=by rw [qde,qDf hx]
   have g:qd (qda l (i+1)) i=some x:=by rw [jz,qED hx]
   refine Ev.ct hc (Ev.some hg (Ev.bind (qBG x (by omega)) (Ev.some (a:=zT) (by rw [jz,qFy hib]) (Ev.bind (ih (szL x.kids) (by unfold szL at *;omega) x.kids (Nat.le_refl _) (by unfold szL at *;omega)) ?_))))
   rw [e]
   refine Ev.some g ?_
   rw [show T.mk x.kind x.name x.sort x.kids=x from qf x,e2,hi]
   refine Ev.ite (λ hk=>?_) λ hk=>hP
   rw [qj] at hk
   have hk:x.kids=[]:=List.eq_nil_of_length_eq_zero (by omega)
   refine Ev.some g ?_
   rw [show T.mk x.kind x.name x.sort []=x from by rw [← hk];exact qf x,e2]
   exact hP)
 refine Ev.ct (by unfold qBO;rw [decide_eq_true_iff,Int.toNat_natCast];omega) ?_
 refine Ev.diag (L := λ m k=>qc9 m (QX m) k l l.length 0 (List.replicate (Int.toNat (l.length:Int)) (T.mk 0 [] 0 []))) ?_
 refine (key 0 (Nat.zero_le _)).congr λ m k=>?_
 unfold qda
 rw [List.take_zero,Int.toNat_natCast];rfl
theorem qHW (l:List T) (hs:szL l≤900000):Ev (λ m _=>qle m l) (ql3 l):=by
 have hl:=jb l
 refine Ev.succ ?_
 simp only [qDb,qh8]
 unfold ql3
 refine Ev.bind (qFS l (by omega)) (Ev.ite (λ h=>?_) λ h=>?_)
 ·rw [bnt,qh] at h
  rw [if_pos h]
  exact Ev.pure _
 ·rw [bnf,qj] at h
  rw [if_neg (by omega)]
  have key:=qr (P := λ i=>Ev (λ m k=>qdn m k (((l.take i).map ju).foldl zg []) l l.length i 0 [] 0 []) (if qR (JD (zF l))≠0 then (zT,3) else (JD (zF l),0))) l (by omega)
   (λ hc=>by
    refine Ev.loop ?_
    simp only [qr3,qil,qf]
    refine Ev.cf hc ?_
    rw [List.take_length]
    have h1:=qdv l
    show Ev (λ m k=>qa (QX m (zF l)) _) _
    have h2:=jb (zF l)
    have fin:∀ u:T,u=JD (zF l)→Ev (λ m _=>qa (zc m u) λ v=>cond (qb (ieq v 0)) (some (T.mk 0 [] 0 [],(3:Int))) (some (u,0))) (if qR (JD (zF l))≠0 then (zT,3) else (JD (zF l),0)):=by
     intro u hu
     have hz:size (JD (zF l))≤1+szL (zF l):=by
      unfold JD
      split
      ·rw [qS];show 1+0≤_;omega
      ·split
       ·rename_i _ h1l
        have:(zF l).getD 0 zT∈zF l:=by
         cases hh:zF l with
         | nil=>rw [hh] at h1l;cases h1l
         | cons x r=>exact List.mem_cons_self ..
        have:=qbF this;omega
       ·rw [qS];exact Nat.le_refl _
     subst hu
     refine Ev.bind (qc8 _ (by omega)) (Ev.ite (λ h=>?_) λ h=>?_)
     ·rw [bnt,qh] at h
      rw [if_pos h];exact Ev.pure _
     ·rw [bnf,qj] at h
      rw [if_neg (by omega)];exact Ev.pure _
    refine Ev.bind (qG3 _ (zF l) (Nat.le_refl _) (by omega)) (Ev.ite (λ h0=>?_) λ h0=>?_)
    ·rw [qj] at h0
     exact fin _ (by unfold JD;rw [if_pos (by omega)];rfl)
    ·rw [qh] at h0
     refine Ev.ite (λ h1=>?_) λ h1=>?_
     ·rw [qj] at h1
      refine Ev.some (a:=(zF l).getD 0 zT) ?_ (fin _ (by unfold JD;rw [if_neg (by omega),if_pos (by omega)]))
      rw [Jk,List.getD_eq_getElem?_getD]
      cases hh:zF l with
      | nil=>rw [hh] at h1;simp at h1
      | cons x r=>rfl
     ·rw [qh] at h1
      exact fin _ (by unfold JD;rw [if_neg (by omega),if_neg (by omega)];rfl))
   (λ i x hx hd hc hg hi hP=>by
    refine Ev.loop ?_
    simp only [qr3,qil,qf]
    have hm:=List.mem_of_getElem? hx
    have h1:=qbF hm
    have h2:=qdv (l.take i)
    have h3:=jJ hx
    have h4:=qjc x
    refine Ev.ct hc (Ev.some hg (Ev.bind (qFE x (by omega)) (Ev.bind (qx0 _ _ ?_) ?_)))
    ·unfold zF at h2;omega
    ·rw [hi]
     refine hP.congr λ m k=>?_
     rw [qim hx])
  refine Ev.diag (L := λ m k=>qdn m k [] l l.length 0 0 [] 0 []) ?_
  exact key 0 (Nat.zero_le _)
end Go.AmYtbpnmbmdbblehaaGreat
namespace Go.AmYtbpnmbmdbblehaaGreat
open Go Go.GxYtbpnmbmdbblehaaGreat
theorem qIC (l:List T) (t:T) (hs:szL l+size t≤1000000000):Ev (λ m _=>qhv m l t) (l.any λ x=>yz x t):=by
 have hl:=jb l
 refine Ev.succ ?_
 simp only [qz3,qfO]
 have key:=qr (P := λ i=>Ev (λ m k=>qaV m k l i t.kind t.name t.sort t.kids) ((l.drop i).any λ x=>yz x t)) l (by omega)
  (λ hc=>by
   refine Ev.loop ?_
   simp only [qoJ,qfN]
   refine Ev.cf hc (Ev.ret ?_)
   rw [List.drop_length];rfl)
  (λ i x hx hd hc hg hi hP=>by
   refine Ev.loop ?_
   simp only [qoJ,qfN,qf]
   have h1:=qbF (List.mem_of_getElem? hx)
   rw [hd,List.any_cons,show T.mk t.kind t.name t.sort t.kids=t from qf t]
   refine Ev.ct hc (Ev.some hg (Ev.bind (qe7 x t (by omega) (by omega)) (Ev.ite (λ h=>?_) λ h=>?_)))
   ·rw [h];exact Ev.pure _
   ·rw [h,hi];exact hP)
 refine Ev.diag (L := λ m k=>qaV m k l 0 t.kind t.name t.sort t.kids) ?_
 exact (key 0 (Nat.zero_le _)).res (by rw [List.drop_zero])
theorem qyA (t:T):∀ (l:List T) (s:List T × Bool),(l.foldl (QQ t) s).1.length≤s.1.length+2*l.length
 | [],s=>by simp
 | x::l,s=>by
   have h:=qyA t l (QQ t s x)
   have:(QQ t s x).1.length≤s.1.length+2:=by
    unfold QQ
    split
    ·simp only [List.length_append,List.length_cons,List.length_nil]
     split<;>simp
    ·simp
   rw [List.foldl_cons,List.length_cons];omega
theorem qD2 (l:List T) (t:T) (hs:szL l+size t≤1000000000):Ev (λ m _=>qfd m l t) (qtz l t):=by
 have hl:=jb l
 refine Ev.succ ?_
 simp only [qAa,qf0]
 have hlen:∀ i,((l.take i).foldl (QQ t) ([],false)).1.length≤2*l.length := λ i=>by
  have:=qyA t (l.take i) ([],false)
  have h2:(l.take i).length≤l.length:=by rw [List.length_take];omega
  simp only [List.length_nil] at this;omega
 have key:=qr (P := λ i=>Ev (λ m k=>qa0 m k l ((l.take i).foldl (QQ t) ([],false)).2 i t.kind t.name t.sort t.kids ((l.take i).foldl (QQ t) ([],false)).1) (qtz l t)) l (by omega)
  (λ hc=>by
   refine Ev.loop ?_
   simp only [qn8,qfv]
   refine Ev.cf hc ?_
   rw [List.take_length]
   unfold qtz
   have:=hlen l.length
   rw [List.take_length] at this
   refine Ev.ite (λ h=>?_) λ h=>?_
   ·rw [bnt] at h
    rw [if_neg (by rw [h];decide),show T.mk t.kind t.name t.sort t.kids=t from qf t]
    exact Ev.ct (qY (by omega) (by omega)) (Ev.pure _)
   ·rw [bnf] at h
    rw [if_pos h]
    exact Ev.pure _)
  (λ i x hx hd hc hg hi hP=>by
   refine Ev.loop ?_
   simp only [qn8,qfv,qf]
   have h1:=qbF (List.mem_of_getElem? hx)
   have h2:=hlen i
   have hstep:(l.take (i+1)).foldl (QQ t) ([],false)=QQ t ((l.take i).foldl (QQ t) ([],false)) x:=by
    rw [List.take_add_one,hx,List.foldl_append];rfl
   rw [hstep] at hP
   generalize (l.take i).foldl (QQ t) ([],false)=s at *
   rw [show T.mk t.kind t.name t.sort t.kids=t from qf t,hi]
   refine Ev.ct hc (Ev.some hg (Ev.bind (qg2 t (by omega) x (by omega)) (Ev.ite (λ h=>?_) λ h=>?_)))
   ·rw [bnt] at h
    refine Ev.ite (λ hc1=>?_) λ hc1=>?_
    ·rw [qd9] at hc1
     unfold QQ at hP
     rw [if_pos ⟨h,hc1⟩] at hP
     refine Ev.ite (λ hc2=>?_) λ hc2=>?_
     ·rw [qs] at hc2
      rw [if_pos hc2] at hP
      exact Ev.ct (qY (by omega) (by omega)) (Ev.some hg (Ev.ct (qY (by rw [List.length_append];simp only [List.length_cons,List.length_nil];omega) (by omega)) hP))
     ·rw [qw] at hc2
      rw [if_neg (by omega),List.append_nil] at hP
      exact Ev.some hg (Ev.ct (qY (by omega) (by omega)) hP)
    ·rw [qjS] at hc1
     unfold QQ at hP
     rw [if_neg (by omega)] at hP
     exact Ev.some hg (Ev.ct (qY (by omega) (by omega)) hP)
   ·rw [bnf] at h
    unfold QQ at hP
    rw [if_neg (by rw [h];intro hh;cases hh.1)] at hP
    exact Ev.some hg (Ev.ct (qY (by omega) (by omega)) hP))
 refine Ev.diag (L := λ m k=>qa0 m k l false 0 t.kind t.name t.sort t.kids []) ?_
 exact key 0 (Nat.zero_le _)
theorem qIY (l:List T) (t:T) (hs:szL l+size t≤1000000000):Ev (λ m _=>qdf m l t) (qgr l t):=by
 have hl:=jb l
 refine Ev.succ ?_
 simp only [qtH,qcA,qf]
 unfold qgr
 refine Ev.bind (qIC l t hs) (Ev.ite (λ h=>?_) λ h=>?_)
 ·rw [bnt] at h
  rw [if_neg (by rw [h];decide)]
  exact Ev.bind (qD2 l t hs) (Ev.pure _)
 ·rw [bnf] at h
  rw [if_pos h]
  have key:=qr (P := λ i=>Ev (λ m k=>QM m k l i t.kind t.name t.sort t.kids ((l.take i).filter λ x => !yz x t)) (l.filter λ x => !yz x t)) l (by omega)
   (λ hc=>by
    refine Ev.loop ?_
    simp only [qkt,qcz]
    refine Ev.cf hc ?_
    rw [List.take_length]
    exact Ev.pure _)
   (λ i x hx hd hc hg hi hP=>by
    refine Ev.loop ?_
    simp only [qkt,qcz,qf]
    have h1:=qbF (List.mem_of_getElem? hx)
    have h2:((l.take i).filter λ x => !yz x t).length≤l.length:=Nat.le_trans (List.length_filter_le _ _) (by rw [List.length_take];omega)
    rw [List.take_add_one,hx,List.filter_append] at hP
    rw [show T.mk t.kind t.name t.sort t.kids=t from qf t,hi]
    refine Ev.ct hc (Ev.some hg (Ev.bind (qe7 x t (by omega) (by omega)) (Ev.ite (λ h=>?_) λ h=>?_)))
    ·rw [bnt] at h
     have e:(Option.some x).toList.filter (λ x => !yz x t)=[x]:=by show [x].filter _=_;simp [h]
     rw [e] at hP
     exact Ev.some hg (Ev.ct (qY (by omega) (by omega)) hP)
    ·rw [bnf] at h
     have e:(Option.some x).toList.filter (λ x => !yz x t)=[]:=by show [x].filter _=_;simp [h]
     rw [e,List.append_nil] at hP
     exact hP)
  refine Ev.diag (L := λ m k=>QM m k l 0 t.kind t.name t.sort t.kids []) ?_
  exact key 0 (Nat.zero_le _)
theorem qux (t:T):∀ l:List T,szL (Qg l t)≤szL l+size t
 | []=>by rw [Qg,qJ];omega
 | x::l=>by
   have:=qux t l
   rw [Qg]
   split
   ·rw [qJ,qJ];omega
   ·split
    ·omega
    ·rw [qJ,qJ];omega
theorem qvJ (p:T→Bool):∀ l:List T,szL (l.filter p)≤szL l
 | []=>Nat.le_refl _
 | x::l=>by
   have:=qvJ p l
   rw [List.filter_cons]
   split
   ·rw [qJ,qJ];omega
   ·rw [qJ];omega
theorem qHa (l:List T) (t:T):szL (qgr l t)≤szL l+size t:=by
 unfold qgr
 split
 ·exact Nat.le_trans (qvJ _ l) (by omega)
 ·rw [qqc];exact qux t l
theorem qsW:∀ (b a:List T),szL (b.foldl qgr a)≤szL a+szL b
 | [],a=>by simp [szL]
 | x::b,a=>by
   have h1:=qsW b (qgr a x)
   have h2:=qHa a x
   rw [List.foldl_cons,qJ];omega
theorem qyE (a b:List T) (hs:szL a+szL b≤1000000000):Ev (λ m _=>qd6 m a b) (qiz a b):=by
 have h1:=jb a
 have h2:=jb b
 refine Ev.succ ?_
 simp only [qxS,qeF]
 have key:=qr (P := λ i=>Ev (λ m k=>Jo m k b ((b.take i).foldl qgr a) i) (qiz a b)) b (by omega)
  (λ hc=>by
   refine Ev.loop ?_
   simp only [qmS,qeV]
   refine Ev.cf hc ?_
   rw [List.take_length]
   exact Ev.pure _)
  (λ i x hx hd hc hg hi hP=>by
   refine Ev.loop ?_
   simp only [qmS,qeV,qf]
   have h3:=jJ hx
   have h4:=qsW (b.take i) a
   rw [List.take_add_one,hx,List.foldl_append] at hP
   refine Ev.ct hc (Ev.some hg (Ev.bind (qIY _ x (by omega)) ?_))
   rw [hi]
   exact hP)
 refine Ev.ct (qY (by simp only [List.length_nil];omega) (by omega)) ?_
 have main:Ev (λ m _=>Jo m m b a 0) (qiz a b):=Ev.diag (L := λ m k=>Jo m k b a 0) (key 0 (Nat.zero_le _))
 exact Ev.case (λ h=>by rw [h] at main ⊢;exact main) λ x r h=>by rw [h] at main ⊢;exact main
theorem qFx (t:T):size t≤1000000000→Ev (λ m _=>zt m t) (ju t):=by
 induction t using T.ind with
 | h t ih =>
   intro hs
   have hl:=yJ t
   have hz:=qS t
   refine Ev.succ ?_
   simp only [qqU,qbh,qf]
   have key:=qr (P := λ i=>Ev (λ m k=>jk m (zt m) k (((t.kids.take i).map ju).foldl zg []) i t.kind t.name t.sort t.kids) ((t.kids.map ju).foldl zg [])) t.kids (by omega)
    (λ hc=>by
     refine Ev.loop ?_
     simp only [qh3,qa9]
     refine Ev.cf hc ?_
     rw [List.take_length]
     exact Ev.pure _)
    (λ i x hx hd hc hg hi hP=>by
     refine Ev.loop ?_
     simp only [qh3,qa9,qf]
     have hm:=List.mem_of_getElem? hx
     have h1:=jl t x hm
     have h2:=qdv (t.kids.take i)
     have h3:=jJ hx
     have h4:=qjc x
     have ha:Asc (((t.kids.take i).map ju).foldl zg []):=qfU _ _ List.Pairwise.nil λ l hl=>by
      obtain ⟨k,_,rfl⟩:=List.mem_map.1 hl
      exact qkb k
     refine Ev.ct hc (Ev.some hg (Ev.bind (ih x hm (by omega)) (Ev.bind (qyE _ _ ?_) ?_)))
     ·unfold zF at h2;unfold szL at *;omega
     ·rw [hi,qyi ha (qkb x)]
      refine hP.congr λ m k=>?_
      rw [qim hx])
   have main:Ev (λ m _=>jk m (zt m) m [] 0 t.kind t.name t.sort t.kids) ((t.kids.map ju).foldl zg []) :=
    Ev.diag (L := λ m k=>jk m (zt m) k [] 0 t.kind t.name t.sort t.kids) (key 0 (Nat.zero_le _))
   rw [qiZ]
   by_cases h3:t.kind=3
   ·have hk:ieq t.kind 3=true:=qj.2 h3
    have hk':qb (ieq t.kind 3)=false:=bnf.2 hk
    refine Ev.ct hk ?_
    refine Ev.ite (λ hn=>?_) λ hn=>?_
    ·rw [y9] at hn
     have hnz:isN t qbk=true:=yv.2 ⟨h3,hn⟩
     have hnx:isN t qej=false:=by
      rw [← Bool.not_eq_true,yv];rintro ⟨_,h⟩;rw [hn] at h;exact absurd h (by decide)
     refine Ev.ite (λ he=>?_) λ he=>?_
     ·rw [qj] at he
      have he:t.kids=[]:=List.eq_nil_of_length_eq_zero (by omega)
      rw [hnz,he]
      exact Ev.pure _
     ·rw [qh] at he
      have he:t.kids.isEmpty=false:=by
       cases hh:t.kids with
       | nil=>rw [hh] at he;exact absurd rfl he
       | cons _ _=>rfl
      rw [hnz,he,hnx]
      exact Ev.cf hk' (Ev.ct (by rw [hn];rfl) (Ev.pure _))
    ·have hn':=jq.1 hn
     have hnz:isN t qbk=false:=by
      rw [← Bool.not_eq_true,yv];rintro ⟨_,h⟩;exact hn' h
     rw [hnz]
     refine Ev.cf hk' (Ev.ite (λ hx=>?_) λ hx=>?_)
     ·have hnx:isN t qej=false:=by
        rw [← Bool.not_eq_true,yv];rintro ⟨_,h⟩;exact jq.1 (bnt.1 hx) h
      rw [hnx]
      exact Ev.pure _
     ·rw [show isN t qej=true from yv.2 ⟨h3,y9.1 (bnf.1 hx)⟩]
      exact main
   ·have hk:ieq t.kind 3=false:=qh.2 h3
    have hnn:∀ n,isN t n=false := λ n=>by
     rw [← Bool.not_eq_true,yv];rintro ⟨h,_⟩;exact h3 h
    rw [hnn,hnn]
    exact Ev.cf hk (Ev.ct (bnt.2 hk) (Ev.pure _))
theorem qCk:qR (apT qbk [])=0:=by
 unfold qR
 rw [qjV,qS,qiG]
 have:Qu (apT qbk [])=0:=by decide
 show (if Qu (apT qbk [])≠0 then Qu (apT qbk []) else _)=0
 rw [this];rfl
theorem qCI (l:List T) (hs:szL l≤100000000):Ev (λ m _=>qeu m l (apT qbk [])) (qk3 l):=by
 have hl:=jb l
 refine Ev.succ ?_
 simp only [qwG,qd2]
 unfold qk3
 refine Ev.ite (λ h=>?_) λ h=>?_
 ·rw [qs] at h
  rw [if_pos (by omega)]
  exact Ev.pure _
 ·rw [qw] at h
  rw [if_neg (by omega)]
  have key:=qr (P := λ i=>Ev (λ m k=>JE m k l i 3 qbk 0 []) (((l.drop i).map qR).foldl thn 0)) l (by omega)
   (λ hc=>by
    refine Ev.loop ?_
    simp only [qlu,qdY]
    refine Ev.cf hc ?_
    rw [List.drop_length]
    refine Ev.bind (qbK (T.mk 3 qbk 0 []) (by rw [qS];show 1+0≤_;omega)) ?_
    exact Ev.ret qCk)
   (λ i x hx hd hc hg hi hP=>by
    refine Ev.loop ?_
    simp only [qlu,qdY,qf]
    have h1:=qbF (List.mem_of_getElem? hx)
    rw [qoi hd]
    refine Ev.ct hc (Ev.some hg (Ev.bind (qbK x (by omega)) (Ev.ite (λ hv=>?_) λ hv=>?_)))
    ·rw [bnt,qh] at hv
     rw [if_pos hv]
     exact Ev.pure _
    ·rw [bnf,qj] at hv
     rw [if_neg (by omega),hi]
     exact hP)
  refine Ev.diag (L := λ m k=>JE m k l 0 3 qbk 0 []) ?_
  exact (key 0 (Nat.zero_le _)).res (by rw [List.drop_zero])
theorem qAM (l:List T):size (JD l)≤1+szL l:=by
 unfold JD
 split
 ·rw [qS];show 1+0≤_;omega
 ·split
  ·rename_i _ h1l
   have:l.getD 0 zT∈l:=by
    cases l with
    | nil=>cases h1l
    | cons x r=>exact List.mem_cons_self ..
   have:=qbF this;omega
  ·rw [qS];exact Nat.le_refl _
theorem qC8 (l:List T) (hs:szL l≤1000000000):Ev (λ m _=>qgk m l) (JD l):=by
 have hl:=jb l
 refine Ev.succ ?_
 simp only [qya,qhL,qf]
 unfold JD
 refine Ev.ite (λ h0=>?_) λ h0=>?_
 ·rw [qj] at h0
  rw [if_pos (by omega)]
  exact Ev.bind (qea _ [] (by simp)) (Ev.pure _)
 ·rw [qh] at h0
  rw [if_neg (by omega)]
  refine Ev.ite (λ h1=>?_) λ h1=>?_
  ·rw [qj] at h1
   rw [if_pos (by omega)]
   refine Ev.some (a:=l.getD 0 zT) ?_ (Ev.pure _)
   rw [Jk,List.getD_eq_getElem?_getD]
   cases l with
   | nil=>simp at h1
   | cons x r=>rfl
  ·rw [qh] at h1
   rw [if_neg (by omega)]
   exact Ev.ct (qY (by simp only [List.length_nil];omega) (by omega)) (Ev.case (λ h=>Ev.ret (by rw [h];rfl)) λ x r h=>Ev.ret (by rw [h];rfl))
theorem qHb (l:List T) (hs:szL l≤900000):Ev (λ m _=>qhu m l) (ql3 l):=by
 have hl:=jb l
 refine Ev.succ ?_
 simp only [qAl,qf9]
 unfold ql3
 have z:Ev (λ m _=>qf5 m) (apT qbk []):=by
  refine Ev.succ ?_
  simp only [qzt,qhx,qf]
  exact Ev.bind (qea _ [] (by simp)) (Ev.pure _)
 refine Ev.bind z ?_
 rw [qf]
 refine Ev.bind (qCI l (by omega)) (Ev.ite (λ h=>?_) λ h=>?_)
 ·rw [bnt,qh] at h
  rw [if_pos h]
  exact Ev.pure _
 ·rw [bnf,qj] at h
  rw [if_neg (by omega)]
  have key:=qr (P := λ i=>Ev (λ m k=>qaU m k l (((l.take i).map ju).foldl zg []) i 0 [] 0 []) (if qR (JD (zF l))≠0 then (zT,3) else (JD (zF l),0))) l (by omega)
   (λ hc=>by
    refine Ev.loop ?_
    simp only [qnQ,qgd,qf]
    refine Ev.cf hc ?_
    rw [List.take_length]
    have h1:=qdv l
    have h2:=qAM (zF l)
    refine Ev.bind (qC8 (zF l) (by omega)) (Ev.bind (qbK _ (by omega)) (Ev.ite (λ h=>?_) λ h=>?_))
    ·rw [bnt,qh] at h
     rw [if_pos h];exact Ev.pure _
    ·rw [bnf,qj] at h
     rw [if_neg (by omega)];exact Ev.pure _)
   (λ i x hx hd hc hg hi hP=>by
    refine Ev.loop ?_
    simp only [qnQ,qgd,qf]
    have hm:=List.mem_of_getElem? hx
    have h1:=qbF hm
    have h2:=qdv (l.take i)
    have h3:=jJ hx
    have h4:=qjc x
    have ha:Asc (((l.take i).map ju).foldl zg []):=qfU _ _ List.Pairwise.nil λ l hl=>by
     obtain ⟨k,_,rfl⟩:=List.mem_map.1 hl
     exact qkb k
    refine Ev.ct hc (Ev.some hg (Ev.bind (qFx x (by omega)) (Ev.bind (qyE _ _ ?_) ?_)))
    ·unfold zF at h2;omega
    ·rw [hi,qyi ha (qkb x)]
     refine hP.congr λ m k=>?_
     rw [qim hx])
  refine Ev.diag (L := λ m k=>qaU m k l [] 0 0 [] 0 []) ?_
  exact key 0 (Nat.zero_le _)
end Go.AmYtbpnmbmdbblehaaGreat
namespace Go.GxYtbpnmbmdbblehaaGreat
def qeY (l:List Pw):Prop:=Asc (l.map (·.1))
def NzP (l:List Pw):Prop:=∀ p∈l,p.2≠0
theorem qfq {p:Pw} {l:List Pw}:qeY (p::l)↔(∀ q∈l,qp p.1 q.1=-1)∧qeY l:=by
 unfold qeY
 rw [List.map_cons,qaa]
 simp
theorem qdl {p:Pw} {l:List Pw}:NzP (p::l)↔p.2≠0∧NzP l:=by
 unfold NzP;simp
def j8 (l:List Pw):Nat:=(l.map λ p=>p.2.natAbs).sum
theorem qlU:∀ (l:List Pw) (t:T) (n:Int) (p:Pw),p∈yk l t n→p.1=t∨p∈l
 | [],t,n,p,h=>by simp [yk] at h;exact .inl (by rw [h])
 | (x,m)::l,t,n,p,h=>by
   rw [yk] at h
   split at h
   ·rcases List.mem_cons.1 h with h | h
    ·exact .inl (by rw [h])
    ·exact .inr h
   ·split at h
    ·rename_i h0
     split at h
     ·exact .inr (List.mem_cons_of_mem _ h)
     ·rcases List.mem_cons.1 h with h | h
      ·left;rw [h];exact (JZ t x h0).symm
      ·exact .inr (List.mem_cons_of_mem _ h)
    ·rcases List.mem_cons.1 h with h | h
     ·exact .inr (h▸List.mem_cons_self ..)
     ·rcases qlU l t n p h with h | h
      ·exact .inl h
      ·exact .inr (List.mem_cons_of_mem _ h)
theorem qxx:∀ (l:List Pw) (t:T) (n:Int),qeY l→qeY (yk l t n)
 | [],_,_,_=>List.pairwise_singleton _ _
 | (x,m)::l,t,n,h=>by
   obtain ⟨h1,h2⟩:=qfq.1 h
   rw [yk]
   have hr:=zI.rng t x
   split
   ·rename_i hlt
    refine qfq.2 ⟨λ q hq=>?_,h⟩
    rcases List.mem_cons.1 hq with e | hq
    ·rw [e];exact hlt
    ·exact qdC hlt (h1 q hq)
   ·split
    ·split
     ·exact h2
     ·exact qfq.2 ⟨h1,h2⟩
    ·refine qfq.2 ⟨λ q hq=>?_,qxx l t n h2⟩
     rcases qlU l t n q hq with e | hq
     ·rw [e];exact qtE.1 (show qp t x=1 by omega)
     ·exact h1 q hq
theorem qAK:∀ (l:List Pw) (t:T) (n:Int),NzP l→n≠0→NzP (yk l t n)
 | [],_,_,_,hn=>by intro p hp;simp [yk] at hp;rw [hp];exact hn
 | (x,m)::l,t,n,h,hn=>by
   obtain ⟨h1,h2⟩:=qdl.1 h
   rw [yk]
   split
   ·exact qdl.2 ⟨hn,h⟩
   ·split
    ·split
     ·exact h2
     ·exact qdl.2 ⟨by assumption,h2⟩
    ·exact qdl.2 ⟨h1,qAK l t n h2 hn⟩
theorem qqJ:∀ (l:List Pw) (t:T) (n:Int),j8 (yk l t n)≤j8 l+n.natAbs
 | [],t,n=>by simp [yk,j8]
 | (x,m)::l,t,n=>by
   have ih:=qqJ l t n
   unfold j8 at ih ⊢
   rw [yk]
   split
   ·simp only [List.map_cons,List.sum_cons];omega
   ·split
    ·split
     ·simp only [List.map_cons,List.sum_cons];omega
     ·simp only [List.map_cons,List.sum_cons];omega
    ·simp only [List.map_cons,List.sum_cons];omega
theorem qqS:∀ (l:List Pw) (t:T) (n:Int),(yk l t n).length≤l.length+1
 | [],t,n=>by simp [yk]
 | (x,m)::l,t,n=>by
   have ih:=qqS l t n
   rw [yk]
   split
   ·simp
   ·split
    ·split
     ·simp;omega
     ·simp
    ·simp only [List.length_cons];omega
theorem qzj (l:List Pw) (p:Pw) (h:p∈l):p.2.natAbs≤j8 l:=by
 unfold j8
 induction l with
 | nil=>cases h
 | cons q l ih =>
   simp only [List.map_cons,List.sum_cons]
   rcases List.mem_cons.1 h with e | h
   ·rw [e];omega
   ·have:=ih h;omega
noncomputable def yF (t:T) (n:Int) (s:List Pw × Bool) (p:Pw):List Pw × Bool :=
 ((if s.2=false∧qp t p.1<0 then s.1++[(t,n)] else s.1)++(if (if qp t p.1=0 then p.2+n else p.2)=0 then [] else [(p.1,if qp t p.1=0 then p.2+n else p.2)]),
   s.2||decide (qp t p.1≤0))
noncomputable def qCJ (l:List Pw) (t:T) (n:Int):List Pw:=if (l.foldl (yF t n) ([],false)).2 then (l.foldl (yF t n) ([],false)).1 else (l.foldl (yF t n) ([],false)).1++[(t,n)]
theorem qmJ (t:T) (n:Int):∀ (l out:List Pw),NzP l→(∀ q∈l,qp t q.1=-1)→l.foldl (yF t n) (out,true)=(out++l,true)
 | [],out,_,_=>by simp
 | (x,m)::l,out,h,k=>by
   obtain ⟨h1,h2⟩:=qdl.1 h
   have k1:=k _ (List.mem_cons_self ..)
   simp only at k1 h1
   have e:yF t n (out,true) (x,m)=(out++[(x,m)],true):=by simp [yF,k1,h1]
   rw [List.foldl_cons,e,qmJ t n l _ h2 λ q hq=>k q (List.mem_cons_of_mem _ hq)]
   simp
theorem qpZ (t:T) (n:Int):∀ (l out:List Pw),NzP l→qeY l→(if (l.foldl (yF t n) (out,false)).2 then (l.foldl (yF t n) (out,false)).1 else (l.foldl (yF t n) (out,false)).1++[(t,n)])=out++yk l t n
 | [],out,_,_=>by simp [yk]
 | (x,m)::l,out,h,k=>by
   obtain ⟨h1,h2⟩:=qdl.1 h
   obtain ⟨k1,k2⟩:=qfq.1 k
   simp only at h1 k1
   have hr:=zI.rng t x
   rw [List.foldl_cons,yk]
   by_cases c1:qp t x=-1
   ·have e:yF t n (out,false) (x,m)=(out++[(t,n)]++[(x,m)],true):=by simp [yF,c1,h1]
    rw [e,qmJ t n l _ h2 λ q hq=>qdC c1 (k1 q hq),if_pos c1]
    simp
   ·by_cases c2:qp t x=0
    ·have e:yF t n (out,false) (x,m)=(out++(if m+n=0 then [] else [(x,m+n)]),true):=by simp [yF,c2]
     have ex:=JZ t x c2
     rw [e,qmJ t n l _ h2 λ q hq=>by rw [ex];exact k1 q hq,if_neg c1,if_pos c2]
     by_cases c3:m+n=0
     ·simp [c3]
     ·simp [c3]
    ·have e:yF t n (out,false) (x,m)=(out++[(x,m)],false):=by
       have g1:¬ qp t x<0:=by omega
       have g2:¬ qp t x≤0:=by omega
       simp [yF,g1,g2,c2,h1]
     rw [e,qpZ t n l _ h2 k2,if_neg c1,if_neg c2]
     simp
theorem qFX {l:List Pw} (h:NzP l) (k:qeY l) (t:T) (n:Int):qCJ l t n=yk l t n:=by
 have:=qpZ t n l [] h k
 simpa [qCJ] using this
def Ji (l:List Pw):Prop:=qeY l∧NzP l
theorem Ji.nil:Ji []:=⟨List.Pairwise.nil,λ _ h=>by cases h⟩
theorem Ji.ins {l:List Pw} (h:Ji l) (t:T) {n:Int} (hn:n≠0):Ji (yk l t n):=⟨qxx l t n h.1,qAK l t n h.2 hn⟩
theorem qHO {t:T} {n:Int} (h:n≠0):J7 t n≠0:=by unfold J7;split<;>omega
theorem qE4 (t:T) (n:Int):(J7 t n).natAbs=n.natAbs:=by unfold J7;split<;>omega
theorem qAW (fs:List T) (n:Int) (P:List Pw→Prop) (h:∀ k∈fs,∀ l,P l→P (yT k l n)):∀ l,P l→P ((fs.map yT).foldl (λ l f=>f l n) l):=by
 induction fs with
 | nil=>intro l hl;exact hl
 | cons k fs ih=>intro l hl;exact ih (λ k hk=>h k (List.mem_cons_of_mem _ hk)) _ (h k (List.mem_cons_self ..) l hl)
theorem qDJ (t:T):∀ (l:List Pw) (n:Int),n≠0→Ji l→Ji (yT t l n):=by
 refine T.ind (P := λ t=>∀ (l:List Pw) (n:Int),n≠0→Ji l→Ji (yT t l n)) ?_ t
 intro t ih l n hn h
 rw [qfl]
 split
 ·exact qAW t.kids (J7 t n) Ji (λ k hk l hl=>ih k hk l _ (qHO hn) hl) l h
 ·exact h.ins t hn
theorem qF8 (t:T):∀ (l:List Pw) (n:Int),j8 (yT t l n)≤j8 l+size t*n.natAbs∧(yT t l n).length≤l.length+size t:=by
 refine T.ind (P := λ t=>∀ (l:List Pw) (n:Int),j8 (yT t l n)≤j8 l+size t*n.natAbs∧(yT t l n).length≤l.length+size t) ?_ t
 intro t ih l n
 rw [qfl,qS]
 split
 ·have:∀ (fs:List T),(∀ k∈fs,k∈t.kids)→∀ l,j8 ((fs.map yT).foldl (λ l f=>f l (J7 t n)) l)≤j8 l+(fs.map size).sum*n.natAbs∧((fs.map yT).foldl (λ l f=>f l (J7 t n)) l).length≤l.length+(fs.map size).sum:=by
    intro fs
    induction fs with
    | nil=>intro _ l;simp
    | cons k fs ihf =>
      intro hf l
      have h1:=ih k (hf k (List.mem_cons_self ..)) l (J7 t n)
      rw [qE4] at h1
      have h2:=ihf (λ k hk=>hf k (List.mem_cons_of_mem _ hk)) (yT k l (J7 t n))
      simp only [List.map_cons,List.foldl_cons,List.sum_cons,Nat.add_mul] at h2 ⊢
      omega
  have:=this t.kids (λ _ h=>h) l
  rw [Nat.add_mul]
  omega
 ·have h1:=qqJ l t n
  have h2:=qqS l t n
  rw [Nat.add_mul]
  omega
theorem qop:∀ (b a:List Pw),Ji a→NzP b→Ji (Qt a b)
 | [],a,h,_=>h
 | p::b,a,h,k=>qop b (yk a p.1 p.2) (h.ins p.1 (qdl.1 k).1) (qdl.1 k).2
theorem qqb:∀ (b a:List Pw),j8 (Qt a b)≤j8 a+j8 b∧(Qt a b).length≤a.length+b.length
 | [],a=>by simp [Qt,j8]
 | p::b,a=>by
   have h1:=qqb b (yk a p.1 p.2)
   have h2:=qqJ a p.1 p.2
   have h3:=qqS a p.1 p.2
   have e:j8 (p::b)=p.2.natAbs+j8 b:=by simp [j8]
   rw [show Qt a (p::b)=Qt (yk a p.1 p.2) b from rfl,e,List.length_cons]
   omega
noncomputable def ixP:List Pw→T→Nat
 | [],_=>0
 | p::l,t=>if qp p.1 t=-1 then ixP l t+1 else 0
theorem qDT:∀ (l:List Pw) (t:T),ixP l t≤l.length
 | [],_=>Nat.le_refl _
 | p::l,t=>by
   have:=qDT l t
   rw [ixP]
   split
   ·simp;omega
   ·omega
theorem qD5:∀ (l:List Pw) (t:T) (i:Nat),i≤l.length→(∀ k p,k<i→l[k]? = some p→qp p.1 t=-1)→(∀ p,l[i]? = some p→qp p.1 t≠-1)→i=ixP l t
 | [],_,i,h,_,_=>by simp at h;rw [h];rfl
 | p::l,t,0,_,_,h=>by rw [ixP,if_neg (h p rfl)]
 | p::l,t,i+1,h,k,m=>by
   rw [ixP,if_pos (k 0 p (by omega) rfl)]
   rw [← qD5 l t i (by simpa using h) (λ j q hj hq=>k (j+1) q (by omega) (by simpa using hq)) (λ q hq=>m q (by simpa using hq))]
theorem qBf:∀ (l:List Pw) (t:T) (n:Int) (x:T) (m:Int),l[ixP l t]? = some (x,m)→qp x t=0 →
  yk l t n=if m+n=0 then l.take (ixP l t)++l.drop (ixP l t+1) else l.take (ixP l t)++[(x,m+n)]++l.drop (ixP l t+1)
 | [],_,_,_,_,h,_=>by simp at h
 | (y,k)::l,t,n,x,m,h,h0=>by
   have an:=zI.anti y t
   have rg:=zI.rng y t
   rw [ixP] at h
   rw [yk,ixP]
   simp only at h ⊢
   by_cases c:qp y t=-1
   ·rw [if_pos c] at h
    rw [if_neg (by omega),if_neg (by omega),if_pos c,qBf l t n x m (by simpa using h) h0]
    split<;>simp
   ·rw [if_neg c] at h
    simp at h
    obtain ⟨rfl,rfl⟩:=h
    rw [if_neg (by omega),if_pos (by omega),if_neg c]
    split<;>simp
theorem qyM:∀ (l:List Pw) (t:T) (n:Int),(∀ p,l[ixP l t]? = some p→qp p.1 t≠0)→yk l t n=l.take (ixP l t)++[(t,n)]++l.drop (ixP l t)
 | [],_,_,_=>by simp [yk,ixP]
 | (y,k)::l,t,n,h=>by
   have an:=zI.anti y t
   have rg:=zI.rng y t
   rw [ixP] at h
   rw [yk,ixP]
   simp only at h ⊢
   by_cases c:qp y t=-1
   ·rw [if_pos c] at h
    rw [if_neg (by omega),if_neg (by omega),if_pos c,qyM l t n λ p hp=>h p (by simpa using hp)]
    simp
   ·rw [if_neg c] at h
    have:=h (y,k) rfl
    simp only at this
    rw [if_pos (by omega),if_neg c]
    simp
theorem qA6 {l:List Pw} (h:qeY l) {i j:Nat} {p q:Pw} (hi:l[i]? = some p) (hj:l[j]? = some q) (hij:i<j):qp p.1 q.1=-1:=by
 unfold qeY Asc at h
 rw [List.pairwise_iff_getElem] at h
 obtain ⟨hi1,hi2⟩:=List.getElem?_eq_some_iff.1 hi
 obtain ⟨hj1,hj2⟩:=List.getElem?_eq_some_iff.1 hj
 have:=h i j (by simpa using hi1) (by simpa using hj1) hij
 simpa [hi2,hj2] using this
end Go.GxYtbpnmbmdbblehaaGreat
namespace Go.AmYtbpnmbmdbblehaaGreat
open Go Go.GxYtbpnmbmdbblehaaGreat
theorem qA0 (t:T):Ev (λ m _=>Ju m t) (qbZ t):=by
 refine Ev.succ ?_
 simp only [qpv,qdb]
 unfold qbZ
 by_cases h3:t.kind=3
 ·refine Ev.ct (qj.2 h3) (Ev.ite (λ h=>?_) λ h=>(Ev.ite (λ h2=>?_) λ h2=>?_))
  ·rw [y9] at h
   exact Ev.ret (by rw [h3,h];rfl)
  ·rw [y9] at h2
   exact Ev.ret (by rw [h3,h2];rfl)
  ·rw [jq] at h h2
   exact Ev.ret (by
    have a1:(t.name==qf7)=false:=by rw [beq_eq_false_iff_ne];exact h
    have a2:(t.name==QB)=false:=by rw [beq_eq_false_iff_ne];exact h2
    rw [h3,a1,a2];rfl)
 ·exact Ev.cf (qh.2 h3) (Ev.ret (by have:(t.kind==3)=false:=by rw [beq_eq_false_iff_ne];exact h3
                                    rw [this];rfl))
theorem qko (t:T):size t≤100000000→Ev (λ m _=>zb m t) t:=by
 induction t using T.ind with
 | h t ih =>
   intro hs
   have hl:=yJ t
   refine Ev.succ ?_
   simp only [qp9,qbb]
   have hc:zG 0 t.kids=some ((),t.kids,()):=by
    unfold zG
    rw [show Nat.ble t.kids.length 100000000=true from Nat.ble_eq_true_of_le (by omega)];rfl
   refine Ev.some hc ?_
   have key:=qr (P := λ i=>Ev (λ m k=>jN m (zb m) k t.kids.length i t.kind t.name t.sort 0 [] 0 t.kids []) t) t.kids (by omega)
    (λ hc=>by
     refine Ev.loop ?_
     simp only [qhO,qa7]
     exact Ev.cf hc (Ev.ret (qf t)))
    (λ i x hx hd hc hg hi hP=>by
     refine Ev.loop ?_
     simp only [qhO,qa7,qf]
     have hm:=List.mem_of_getElem? hx
     have h1:=jl t x hm
     have e:jO t.kids (i:Int) x=t.kids:=by
      rw [qde]
      obtain ⟨h2,h3⟩:=List.getElem?_eq_some_iff.1 hx
      rw [← h3,List.set_getElem_self]
     refine Ev.ct hc (Ev.some hg (Ev.bind (ih x hm (by omega)) (Ev.some hg ?_)))
     rw [e,hi]
     exact hP)
   refine Ev.diag (L := λ m k=>jN m (zb m) k t.kids.length 0 t.kind t.name t.sort 0 [] 0 t.kids []) ?_
   exact key 0 (Nat.zero_le _)
theorem qJy (lo hi:Nat) (h:lo+hi≤1000000000):iw .i64 (qlG .u64 (iw .u64 (iw .i64 (qi (lo:Int) (hi:Int)))) 1)=(((lo+hi) / 2:Nat):Int):=by
 rw [qlD,show iw .i64 ((lo+hi:Nat):Int)=((lo+hi:Nat):Int) from Jc (by omega),show iw .u64 ((lo+hi:Nat):Int)=((lo+hi:Nat):Int) from IntWalk.u64_in _ (by omega)]
 have:qlG .u64 ((lo+hi:Nat):Int) 1=(((lo+hi) / 2:Nat):Int):=by
  unfold qlG
  show Int.fdiv _ 2=_
  rw [Int.fdiv_eq_ediv_of_nonneg _ (by decide)];omega
 rw [this,Jc (by omega)]
noncomputable def szP (l:List Pw):Nat:=(l.map λ p=>size p.1).sum
theorem J8 (p:Pw) (l:List Pw):szP (p::l)=size p.1+szP l:=by simp [szP]
theorem qbp:∀ l:List Pw,l.length≤szP l
 | []=>Nat.zero_le _
 | p::l=>by
   have:=qbp l
   have:=size_pos p.1
   rw [J8,List.length_cons];omega
theorem qdG:∀ {l:List Pw} {p:Pw},p∈l→size p.1≤szP l
 | q::l,p,h=>by
   rw [J8]
   rcases List.mem_cons.1 h with rfl | h
   ·omega
   ·have:=qdG h;omega
theorem qBE:∀ (l:List Pw) (t:T) (n:Int),szP (yk l t n)≤szP l+size t
 | [],t,n=>by rw [yk,J8];show size t+0≤0+size t;omega
 | (x,m)::l,t,n=>by
   have:=qBE l t n
   rw [yk]
   split
   ·rw [J8,J8];show size t+(size x+_)≤size x+_+size t;omega
   ·split
    ·split
     ·rw [J8];show _≤size x+_+_;omega
     ·rw [J8,J8];show size x+_≤size x+_+_;omega
    ·rw [J8,J8];show size x+_≤size x+_+_;omega
theorem qzr (p:Pw) (t:T) (h1:size p.1≤1000000000) (h2:size t≤1000000000):Ev (λ m _=>Qv m p t) (qp p.1 t):=by
 refine Ev.succ ?_
 simp only [qnp,qcg,qf]
 exact Ev.bind (qcp _ h1 _ h2) (Ev.pure _)
noncomputable def qq4 (l:List Pw) (t:T):Bool:=match l[Go.GxYtbpnmbmdbblehaaGreat.ixP l t]? with
 | some p=>ieq (qp p.1 t) 0
 | none=>false
theorem qHX {l:List Pw} (ha:qeY l) (t:T) (hs:szP l+size t≤100000000):∀ (d lo hi:Nat),hi≤lo+d→lo≤hi→hi≤l.length→(∀ k p,k<lo→l[k]? = some p→qp p.1 t=-1)→(∀ k p,hi≤k→l[k]? = some p→qp p.1 t≠-1) →
  Ev (λ m k=>qn m k l l.length lo hi t.kind t.name t.sort t.kids) ((Go.GxYtbpnmbmdbblehaaGreat.ixP l t:Int),qq4 l t):=by
 have hl:=qbp l
 intro d
 induction d with
 | zero =>
   intro lo hi h1 h2 h3 h4 h5
   have:lo=hi:=by omega
   subst this
   have hix:=qD5 l t lo h3 h4 (λ p hp=>h5 lo p (Nat.le_refl _) hp)
   subst hix
   refine Ev.loop ?_
   simp only [z8,qB,qf]
   rw [show T.mk t.kind t.name t.sort t.kids=t from qf t]
   refine Ev.cf (qw.2 (Int.le_refl _)) (Ev.ite (λ h=>?_) λ h=>?_)
   ·rw [qs] at h
    have hlt:Go.GxYtbpnmbmdbblehaaGreat.ixP l t<l.length:=by omega
    obtain ⟨p,hg⟩:∃ p,l[Go.GxYtbpnmbmdbblehaaGreat.ixP l t]? = some p:=⟨_,List.getElem?_eq_getElem hlt⟩
    have hm:=qdG (List.mem_of_getElem? hg)
    refine Ev.some (a:=p) (by rw [jz,hg]) (Ev.bind (qzr (p.1,p.2) _ (Nat.le_trans hm (by omega)) (by omega)) (Ev.ret ?_))
    unfold qq4
    rw [hg]
   ·rw [qw] at h
    refine Ev.ret ?_
    unfold qq4
    rw [List.getElem?_eq_none (by omega)]
 | succ d ih =>
   intro lo hi h1 h2 h3 h4 h5
   by_cases he:lo=hi
   ·exact ih lo hi (by omega) h2 h3 h4 h5
   refine Ev.loop ?_
   simp only [z8,qB,qf]
   rw [show T.mk t.kind t.name t.sort t.kids=t from qf t,qJy lo hi (by omega)]
   have hm1:(lo+hi) / 2<hi:=by omega
   have hm2:lo≤(lo+hi) / 2:=by omega
   generalize (lo+hi) / 2=mid at *
   have hlt:mid<l.length:=by omega
   obtain ⟨p,hg⟩:∃ p,l[mid]? = some p:=⟨_,List.getElem?_eq_getElem hlt⟩
   have hm:=qdG (List.mem_of_getElem? hg)
   refine Ev.ct (qs.2 (by omega)) (Ev.some (a:=p) (by rw [jz,hg]) (Ev.bind (qzr (p.1,p.2) _ (Nat.le_trans hm (by omega)) (by omega)) (Ev.ite (λ hc=>?_) λ hc=>?_)))
   ·rw [qs] at hc
    have hc:qp p.1 t<0:=hc
    have hc:qp p.1 t=-1:=by rcases zI.rng p.1 t with h | h | h<;>omega
    rw [show qi ((mid:Nat):Int) 1=((mid+1:Nat):Int) from by unfold qi;omega,Jc (by omega)]
    refine ih (mid+1) hi (by omega) (by omega) h3 (λ k q hk hp=>?_) h5
    by_cases hkm:k=mid
    ·subst hkm;rw [hg] at hp;cases hp;exact hc
    ·exact zI.trans _ _ _ (qA6 ha hp hg (by omega)) hc
   ·rw [qw] at hc
    have hc:0≤qp p.1 t:=hc
    refine ih lo mid (by omega) hm2 (by omega) h4 (λ k q hk hp=>?_)
    by_cases hkm:k=mid
    ·subst hkm;rw [hg] at hp;cases hp;omega
    ·intro hcp
     have:=zI.trans _ _ _ (qA6 ha hg hp (by omega)) hcp
     omega
theorem qJG {l:List Pw} (ha:qeY l) (t:T) (hs:szP l+size t≤100000000):Ev (λ m _=>qx m l t) ((Go.GxYtbpnmbmdbblehaaGreat.ixP l t:Int),qq4 l t):=by
 refine Ev.succ ?_
 simp only [Qb,qC]
 refine Ev.diag (L := λ m k=>qn m k l l.length 0 l.length t.kind t.name t.sort t.kids) ?_
 exact qHX ha t hs l.length 0 l.length (by omega) (Nat.zero_le _) (Nat.le_refl _) (λ k p hk=>by omega) (λ k p hk hp=>by rw [List.getElem?_eq_none hk] at hp;cases hp)
theorem qr4 {l:List Pw} (ha:qeY l) (t:T) (n:Int) (hs:szP l+size t≤90000000) (hlen:l.length≤90000) (hn:j8 l+n.natAbs≤1000000000000):Ev (λ m _=>Jt m l (t,n)) ((),yk l t n,()):=by
 have hl:=qbp l
 have hix:=qDT l t
 refine Ev.succ ?_
 simp only [qpt,qdk,qf]
 refine Ev.bind (qJG ha t (by omega)) (Ev.ite (λ h=>?_) λ h=>?_)
 ·rw [bnt] at h
  refine Ev.bind (qko t (by omega)) ?_
  have hI:zl 0 l (Go.GxYtbpnmbmdbblehaaGreat.ixP l t:Int) [(re t,n)]=some ((),yk l t n,()):=by
   unfold zl
   rw [show inb (Go.GxYtbpnmbmdbblehaaGreat.ixP l t:Int) l.length=true from by unfold inb;rw [decide_eq_true_iff];omega,show Nat.ble l.length 100000=true from Nat.ble_eq_true_of_le (by omega)]
   rw [qyM l t n λ p hp hc=>by
    unfold qq4 at h
    simp only [hp] at h
    rw [qh] at h
    exact h hc]
   rw [Int.toNat_natCast,qf,List.append_assoc];rfl
  rw [qf] at hI
  refine Ev.some hI (Ev.pure _)
 ·rw [bnf] at h
  cases hg:l[Go.GxYtbpnmbmdbblehaaGreat.ixP l t]? with
  | none=>unfold qq4 at h;simp only [hg] at h;cases h
  | some p =>
    obtain ⟨x,k⟩:=p
    have hc:qp x t=0:=by
     unfold qq4 at h
     simp only [hg] at h
     exact qj.1 h
    have hm:=qzj l _ (List.mem_of_getElem? hg)
    have hlt:Go.GxYtbpnmbmdbblehaaGreat.ixP l t<l.length:=(List.getElem?_eq_some_iff.1 hg).1
    simp only at hm
    have e1:iw .i64 (qi k n)=k+n:=by
     unfold qi
     exact Jc (by omega)
    have gset:qd (jO l (Go.GxYtbpnmbmdbblehaaGreat.ixP l t:Int) (x,k+n)) (Go.GxYtbpnmbmdbblehaaGreat.ixP l t:Int)=some (x,k+n):=by
     rw [qde,jz,List.getElem?_set_self hlt]
    have hsplit:l.set (Go.GxYtbpnmbmdbblehaaGreat.ixP l t) (x,k+n)=l.take (Go.GxYtbpnmbmdbblehaaGreat.ixP l t)++[(x,k+n)]++l.drop (Go.GxYtbpnmbmdbblehaaGreat.ixP l t+1):=by
     rw [List.set_eq_take_append_cons_drop,if_pos hlt,List.append_assoc];rfl
    refine Ev.some (by rw [jz,hg]) (Ev.some (by rw [jz,hg]) ?_)
    simp only [qf,e1]
    refine Ev.some gset ?_
    rw [qBf l t n x k hg hc]
    refine Ev.ite (λ hz=>?_) λ hz=>?_
    ·rw [qj] at hz
     rw [if_pos hz]
     have hD:zm 0 (jO l (Go.GxYtbpnmbmdbblehaaGreat.ixP l t:Int) (x,k+n)) (Go.GxYtbpnmbmdbblehaaGreat.ixP l t:Int) (iw .i64 (qi (Go.GxYtbpnmbmdbblehaaGreat.ixP l t:Int) 1))=some ((),l.take (Go.GxYtbpnmbmdbblehaaGreat.ixP l t)++l.drop (Go.GxYtbpnmbmdbblehaaGreat.ixP l t+1),()):=by
      rw [show qi (Go.GxYtbpnmbmdbblehaaGreat.ixP l t:Int) 1=((Go.GxYtbpnmbmdbblehaaGreat.ixP l t+1:Nat):Int) from by unfold qi;omega,Jc (by omega),qde]
      unfold zm
      rw [List.length_set,show inb ((Go.GxYtbpnmbmdbblehaaGreat.ixP l t+1:Nat):Int) l.length=true from by unfold inb;rw [decide_eq_true_iff];omega,show inb (Go.GxYtbpnmbmdbblehaaGreat.ixP l t:Int) l.length=true from by unfold inb;rw [decide_eq_true_iff];omega,
       show ieq ((Go.GxYtbpnmbmdbblehaaGreat.ixP l t+1:Nat):Int) (qi (Go.GxYtbpnmbmdbblehaaGreat.ixP l t:Int) 1)=true from qj.2 (by unfold qi;omega),show Nat.ble l.length 100000=true from Nat.ble_eq_true_of_le (by omega)]
      rw [Int.toNat_natCast,List.take_set_of_le (Nat.le_refl _),List.drop_set_of_lt (by omega)];rfl
     exact Ev.some hD (Ev.pure _)
    ·rw [qh] at hz
     rw [if_neg hz]
     refine Ev.ret ?_
     rw [qde,hsplit]
end Go.AmYtbpnmbmdbblehaaGreat
namespace Go.GxYtbpnmbmdbblehaaGreat
open Go.RowKit
theorem qxC (q:Option T) (p:Pw):pvK q p=if qR p.1≠0 then qR p.1 else if qbZ p.1 then 1 else if p.2=0∨p.2 < -1000∨1000<p.2 then 7 else match q with | some x=>if 0≤qp x p.1 then 5 else 0 | none=>0:=rfl
theorem qyu:∀ (l:List Pw) (q:Option T),pvL q l=0→qeY l∧(∀ p∈l,p.2≠0∧p.2.natAbs≤1000)∧(∀ x,q=some x→∀ p∈l,qp x p.1=-1)∧(∀ p∈l,qR p.1=0∧qbZ p.1=false)
 | [],q,_=>⟨List.Pairwise.nil,(λ _ h=>by cases h),(λ _ _ _ h=>by cases h),(λ _ h=>by cases h)⟩
 | p::l,q,h=>by
   rw [pvL] at h
   unfold thn at h
   split at h
   rotate_left
   ·rename_i h1;exact absurd h h1
   ·rename_i h1
    have hk:=qxC q p
    obtain ⟨i1,i2,i3,i4⟩:=qyu l (some p.1) h
    rw [hk] at h1
    split at h1
    ·rename_i h2;exact absurd h1 h2
    rename_i h2
    split at h1
    ·cases h1
    rename_i h3
    split at h1
    ·cases h1
    rename_i h4
    have hq:∀ x,q=some x→qp x p.1=-1 := λ x hx=>by
     subst hx
     simp only at h1
     split at h1
     ·cases h1
     ·rename_i h5
      rcases zI.rng x p.1 with h | h | h<;>omega
    refine ⟨qfq.2 ⟨λ r hr=>i3 _ rfl r hr,i1⟩,λ r hr=>?_,λ x hx r hr=>?_,λ r hr=>?_⟩
    ·rcases List.mem_cons.1 hr with rfl | hr
     ·omega
     ·exact i2 r hr
    ·rcases List.mem_cons.1 hr with rfl | hr
     ·exact hq x hx
     ·exact qdC (hq x hx) (by have:=i3 _ rfl r hr;omega)
    ·rcases List.mem_cons.1 hr with rfl | hr
     ·exact ⟨by omega,by simpa using h3⟩
     ·exact i4 r hr
theorem qaD {l:List Pw} (h:QI l=0):Ji l∧l.length≤200∧(∀ p∈l,p.2.natAbs≤1000)∧(∀ p∈l,qR p.1=0∧qbZ p.1=false):=by
 unfold QI at h
 split at h
 ·cases h
 ·obtain ⟨i1,i2,-,i4⟩:=qyu l none h
  exact ⟨⟨i1,λ p hp=>(i2 p hp).1⟩,by omega,λ p hp=>(i2 p hp).2,i4⟩
theorem qlc (k:Nat):∀ (l:List Pw),(∀ p∈l,p.2.natAbs≤k)→j8 l≤l.length*k
 | [],_=>by simp [j8]
 | p::l,h=>by
   have h1:=qlc k l λ q hq=>h q (List.mem_cons_of_mem _ hq)
   have h2:=h p (List.mem_cons_self ..)
   have e:j8 (p::l)=p.2.natAbs+j8 l:=rfl
   rw [e,List.length_cons,Nat.add_mul];omega
theorem qqr:∀ (b a:List Pw) (p:Pw),p∈Qt a b→(∃ q∈a,q.1=p.1)∨∃ q∈b,q.1=p.1
 | [],a,p,h => .inl ⟨p,h,rfl⟩
 | r::b,a,p,h=>by
   rcases qqr b (yk a r.1 r.2) p h with ⟨q,hq,e⟩ | ⟨q,hq,e⟩
   ·rcases qlU a r.1 r.2 q hq with h1 | h1
    ·exact .inr ⟨r,List.mem_cons_self ..,by rw [← h1];exact e⟩
    ·exact .inl ⟨q,h1,e⟩
   ·exact .inr ⟨q,List.mem_cons_of_mem _ hq,e⟩
theorem qvA (a b:List Pw) (p:Pw):Qt a (b++[p])=yk (Qt a b) p.1 p.2:=by unfold Qt;rw [List.foldl_append];rfl
theorem qC2 {a b:List Pw} (ha:QI a=0) (hb:QI b=0) (S:Nat) (hsa:∀ p∈a,size p.1≤S) (hsb:∀ p∈b,size p.1≤S) (j:Nat) :
  qeY (Qt a (b.take j))∧(Qt a (b.take j)).length≤400∧(∀ p∈Qt a (b.take j),p.2.natAbs≤1000000)∧(∀ p∈Qt a (b.take j),size p.1≤S):=by
 obtain ⟨g1,l1,k1,-⟩:=qaD ha
 obtain ⟨g2,l2,k2,-⟩:=qaD hb
 have hm:∀ p∈b.take j,p∈b := λ p hp=>List.mem_of_mem_take hp
 have hg:=qop (b.take j) a g1 λ p hp=>g2.2 p (hm p hp)
 obtain ⟨h1,h2⟩:=qqb (b.take j) a
 have h3:=qlc 1000 a k1
 have h4:=qlc 1000 (b.take j) λ p hp=>k2 p (hm p hp)
 have h5:(b.take j).length≤200:=by rw [List.length_take];omega
 refine ⟨hg.1,by omega,λ p hp=>?_,λ p hp=>?_⟩
 ·have:=qzj _ p hp
  omega
 ·rcases qqr _ _ p hp with ⟨q,hq,e⟩ | ⟨q,hq,e⟩
  ·rw [← e];exact hsa q hq
  ·rw [← e];exact hsb q (hm q hq)
end Go.GxYtbpnmbmdbblehaaGreat
namespace Go.AmYtbpnmbmdbblehaaGreat
open Go Go.GxYtbpnmbmdbblehaaGreat
theorem jQ {t:T} (h:qR t=0):size t≤400:=by
 unfold qR at h
 split at h
 ·rename_i h1;exact absurd h h1
 ·split at h
  ·cases h
  ·omega
theorem qoZ {t:T}:qbZ t=true↔t.kind=3∧(t.name=qf7∨t.name=QB∨t.name=qhG):=by
 unfold qbZ
 simp only [Bool.and_eq_true,Bool.or_eq_true,beq_iff_eq]
 constructor
 ·rintro ⟨h,(h1 | h1) | h1⟩
  ·exact ⟨h,.inl h1⟩
  ·exact ⟨h,.inr (.inl h1)⟩
  ·exact ⟨h,.inr (.inr h1)⟩
 ·rintro ⟨h,h1 | h1 | h1⟩
  ·exact ⟨h,.inl (.inl h1)⟩
  ·exact ⟨h,.inl (.inr h1)⟩
  ·exact ⟨h,.inr h1⟩
theorem qBa (t:T):∀ (l:List Pw) (n:Int),szP (yT t l n)≤szP l+size t:=by
 refine T.ind (P := λ t=>∀ (l:List Pw) (n:Int),szP (yT t l n)≤szP l+size t) ?_ t
 intro t ih l n
 rw [qfl]
 have hz:=qS t
 split
 ·have:∀ (fs:List T),(∀ k∈fs,k∈t.kids)→∀ l,szP ((fs.map yT).foldl (λ l f=>f l (J7 t n)) l)≤szP l+(fs.map size).sum:=by
    intro fs
    induction fs with
    | nil=>intro _ l;simp
    | cons k fs ihf =>
      intro hf l
      have h1:=ih k (hf k (List.mem_cons_self ..)) l (J7 t n)
      have h2:=ihf (λ k hk=>hf k (List.mem_cons_of_mem _ hk)) (yT k l (J7 t n))
      simp only [List.map_cons,List.foldl_cons,List.sum_cons] at h2 ⊢
      omega
  have:=this t.kids (λ _ h=>h) l
  omega
 ·exact qBE l t n
noncomputable def qeq (ks:List T) (sg:Int) (l:List Pw) (i:Nat):List Pw:=((ks.take i).map yT).foldl (λ l f=>f l sg) l
theorem qvW {ks:List T} {i:Nat} {x:T} (h:ks[i]? = some x) (sg:Int) (l:List Pw):qeq ks sg l (i+1)=yT x (qeq ks sg l i) sg:=by
 unfold qeq
 rw [List.take_add_one,h,List.map_append,List.foldl_append];rfl
theorem qlS (sg:Int) (hsg:sg≠0):∀ (ks:List T) (l:List Pw),Ji l→Ji ((ks.map yT).foldl (λ l f=>f l sg) l)∧szP ((ks.map yT).foldl (λ l f=>f l sg) l)≤szP l+szL ks ∧
  j8 ((ks.map yT).foldl (λ l f=>f l sg) l)≤j8 l+szL ks*sg.natAbs∧((ks.map yT).foldl (λ l f=>f l sg) l).length≤l.length+szL ks
 | [],l,h=>⟨h,by simp,by simp,by simp⟩
 | k::ks,l,h=>by
   obtain ⟨i1,i2,i3,i4⟩:=qlS sg hsg ks (yT k l sg) (qDJ k l sg hsg h)
   have h1:=qBa k l sg
   obtain ⟨h2,h3⟩:=qF8 k l sg
   rw [List.map_cons,List.foldl_cons,qJ,Nat.add_mul]
   exact ⟨i1,by omega,by omega,by omega⟩
noncomputable def qiS (t:T) (l:List Pw) (n:Int):Unit × List Pw × Bool × Unit:=((),if arT t then yT t l n else [],arT t,())
theorem qCq (t:T):∀ (l:List Pw) (n:Int),n≠0→Ji l→szP l+size t≤80000→j8 l+size t*n.natAbs≤100000000000→Ev (λ m _=>qZ m l t n) (qiS t l n):=by
 induction t using T.ind with
 | h t ih =>
   intro l n hn hg hs hb
   have hl:=yJ t
   have hz:=qS t
   have hll:=qbp l
   refine Ev.succ ?_
   simp only [qnI,qam,qf]
   refine Ev.bind (qA0 t) (Ev.ite (λ h=>?_) λ h=>?_)
   ·rw [bnt] at h
    have hmul:n.natAbs≤size t*n.natAbs:=Nat.le_mul_of_pos_left _ (size_pos t)
    refine Ev.bind (qr4 hg.1 t n (by omega) (by omega) (by omega)) (Ev.ret ?_)
    unfold qiS
    rw [qsO,qfl,h];rfl
   rw [bnf] at h
   obtain ⟨h3,hname⟩:=qoZ.1 h
   have har:arT t=(arK t&&(t.kids.map arT).all id):=by rw [qsO,h];rfl
   have loop:∀ sg:Int,sg≠0→sg.natAbs=n.natAbs→J7 t n=sg→arK t=true→Ev (λ m _=>yS m (qZ m) m sg t.kids t.kids.length 0 l) (qiS t l n):=by
    intro sg hsg hab hsn hk
    have hcol:yT t l n=qeq t.kids sg l t.kids.length:=by rw [qfl,h,if_pos rfl,hsn];unfold qeq;rw [List.take_length]
    have key:=qr (P := λ i=>(∀ k∈t.kids.take i,arT k=true)→Ev (λ m k=>yS m (qZ m) k sg t.kids t.kids.length i (qeq t.kids sg l i)) (qiS t l n)) t.kids (by omega)
     (λ hc ha=>by
      refine Ev.loop ?_
      simp only [qgp,qak]
      refine Ev.cf hc (Ev.ret ?_)
      unfold qiS
      have:arT t=true:=by
       rw [har,hk,Bool.true_and,List.all_eq_true]
       intro b hb
       obtain ⟨k,hk1,rfl⟩:=List.mem_map.1 hb
       rw [List.take_length] at ha
       exact ha k hk1
      rw [this,if_pos rfl,hcol])
     (λ i x hx hd hc hgt hi hP ha=>by
      refine Ev.loop ?_
      simp only [qgp,qak,qf]
      have hm:=List.mem_of_getElem? hx
      have h1:=jl t x hm
      obtain ⟨f1,f2,f3,f4⟩:=qlS sg hsg (t.kids.take i) l hg
      have h5:=jJ hx
      have h6:szL t.kids+1=size t:=by unfold szL;omega
      have h7:szL (t.kids.take i)*sg.natAbs+size x*sg.natAbs≤size t*n.natAbs:=by
       rw [← Nat.add_mul,hab]
       exact Nat.mul_le_mul_right _ (by omega)
      refine Ev.ct hc (Ev.some hgt (Ev.bind (ih x hm (qeq t.kids sg l i) sg hsg f1 (by unfold qeq;omega) (by unfold qeq;omega)) (Ev.ite (λ hb1=>?_) λ hb1=>?_)))
      ·rw [bnt] at hb1
       have hb1:arT x=false:=hb1
       refine Ev.ret ?_
       unfold qiS
       have:arT t=false:=by
        rw [har,hk,Bool.true_and,← Bool.not_eq_true,List.all_eq_true]
        intro hall
        have:=hall (arT x) (List.mem_map_of_mem hm)
        rw [hb1] at this;cases this
       rw [this];rfl
      ·rw [bnf] at hb1
       have hb1:arT x=true:=hb1
       have hP:=hP λ k hk'=>by
        rw [List.take_add_one,hx] at hk'
        rcases List.mem_append.1 hk' with hk' | hk'
        ·exact ha k hk'
        ·rw [show k=x from by simpa using hk'];exact hb1
       rw [hi]
       refine hP.congr λ m k=>?_
       unfold qiS
       rw [qvW hx,hb1];rfl)
    refine Ev.diag (L := λ m k=>yS m (qZ m) k sg t.kids t.kids.length 0 l) ?_
    exact (key 0 (Nat.zero_le _)) (λ k hk=>by rw [List.take_zero] at hk;cases hk)
   have bad:arK t=false→Ev (λ _ _=>some ((),[],false,())) (qiS t l n) := λ hk=>by
    refine Ev.ret ?_
    unfold qiS
    rw [har,hk];rfl
   have hneg:iw .i64 (QD 0 n)=-n:=by
    have hmul:n.natAbs≤size t*n.natAbs:=Nat.le_mul_of_pos_left _ (size_pos t)
    unfold QD
    rw [Jc (by omega)];omega
   rcases hname with hn1 | hn1 | hn1
   ·refine Ev.cf (by rw [hn1];rfl) (Ev.cf (by rw [hn1];rfl) (Ev.ct (by rw [hn1];rfl) (Ev.ite (λ hk=>?_) λ hk=>?_)))
    ·rw [qs] at hk
     exact bad (by unfold arK;rw [hn1,decide_eq_true (show t.kids.length<2 by omega)];rfl)
    ·rw [qw] at hk
     exact Ev.cf (by rw [hn1];rfl) (loop n hn rfl (by unfold J7;rw [hn1];rfl) (by unfold arK;rw [hn1,decide_eq_false (show ¬ t.kids.length<2 by omega)];rfl))
   ·refine Ev.cf (by rw [hn1];rfl) (Ev.ct (by rw [hn1];rfl) (Ev.ite (λ hk=>?_) λ hk=>?_))
    ·rw [bnt,qh] at hk
     exact bad (by unfold arK;rw [hn1,show (t.kids.length != 1)=true from by rw [bne_iff_ne];omega];rfl)
    ·rw [bnf,qj] at hk
     rw [hneg]
     exact Ev.cf (by rw [hn1];rfl) (Ev.ct (by rw [hn1];rfl) (loop (-n) (by omega) (by omega) (by unfold J7;rw [if_pos hn1]) (by unfold arK;rw [hn1,show (t.kids.length != 1)=false from by rw [bne_eq_false_iff_eq];omega];rfl)))
   ·refine Ev.ct (by rw [hn1];rfl) (Ev.ite (λ hk=>?_) λ hk=>?_)
    ·rw [bnt,qh] at hk
     exact bad (by unfold arK;rw [hn1,show (t.kids.length != 0)=true from by rw [bne_iff_ne];omega];rfl)
    ·rw [bnf,qj] at hk
     exact Ev.cf (by rw [hn1];rfl) (Ev.cf (by rw [hn1];rfl) (Ev.cf (by rw [hn1];rfl) (loop n hn rfl (by unfold J7;rw [hn1];rfl) (by unfold arK;rw [hn1,show (t.kids.length != 0)=false from by rw [bne_eq_false_iff_eq];omega];rfl))))
theorem qy9 (t:T) (hs:size t≤1000000000):Ev (λ m _=>JY m t) (ofP t):=by
 refine Ev.succ ?_
 simp only [qwR,qgG,qf]
 unfold ofP
 refine Ev.bind (qc8 t hs) (Ev.ite (λ h=>?_) λ h=>?_)
 ·rw [bnt,qh] at h
  rw [if_pos h];exact Ev.pure _
 ·rw [bnf,qj] at h
  have hz:=jQ h
  rw [if_neg (by omega)]
  refine Ev.bind (qCq t [] 1 (by decide) Ji.nil (by show 0+_≤_;omega) (by show 0+size t*1≤_;omega)) (Ev.ite (λ h1=>?_) λ h1=>?_)
  ·rw [bnt] at h1
   have h1:arT t=false:=h1
   rw [if_pos h1];exact Ev.pure _
  ·rw [bnf] at h1
   have h1:arT t=true:=h1
   rw [if_neg (by rw [h1];decide)]
   have e:(qiS t [] 1).2.1=yT t [] 1:=by unfold qiS;rw [h1];rfl
   rw [e]
   refine Ev.ite (λ h2=>?_) λ h2=>?_
   ·rw [qs] at h2
    rw [if_pos (by omega)];exact Ev.pure _
   ·rw [qw] at h2
    rw [if_neg (by omega)];exact Ev.pure _
noncomputable def qcU (l:List Pw) (i:Nat):Option T:=if i=0 then none else (l[i-1]?).map (·.1)
theorem qiu {l:List Pw} {i:Nat} {p:Pw} (h:l[i]? = some p):qcU l (i+1)=some p.1:=by
 unfold qcU
 rw [if_neg (by omega),Nat.add_sub_cancel,h];rfl
theorem qnt (l:List Pw) (hs:szP l≤1000000000):Ev (λ m _=>Q4 m l) (QI l):=by
 have hl:=qbp l
 refine Ev.succ ?_
 simp only [qro,qbl]
 unfold QI
 refine Ev.ite (λ h=>?_) λ h=>?_
 ·rw [qs] at h
  rw [if_pos (by omega)];exact Ev.pure _
 rw [qw] at h
 rw [if_neg (by omega)]
 have key:=qr (P := λ i=>Ev (λ m k=>jn m k l l l.length i) (pvL (qcU l i) (l.drop i))) l (by omega)
  (λ hc=>by
   refine Ev.loop ?_
   simp only [qh1,qbj]
   refine Ev.cf hc (Ev.ret ?_)
   rw [List.drop_length];rfl)
  (λ i x hx hd hc hg hi hP=>by
   refine Ev.loop ?_
   simp only [qh1,qbj,qf]
   have h1:=qdG (List.mem_of_getElem? hx)
   rw [qiu hx] at hP
   rw [hd,pvL]
   have hk:=qxC (qcU l i) x
   have bad:∀ e:Int,pvK (qcU l i) x=e→e≠0→Ev (λ _ _=>some e) (thn (pvK (qcU l i) x) (pvL (some x.1) (l.drop (i+1)))) := λ e he h0=>by
    rw [he]
    exact Ev.ret (by unfold thn;rw [if_neg h0])
   have good:pvK (qcU l i) x=0→Ev (λ m k=>jn m k l l l.length ((i+1:Nat):Int)) (thn (pvK (qcU l i) x) (pvL (some x.1) (l.drop (i+1)))) := λ he=>by
    rw [he]
    exact hP.res (by unfold thn;rw [if_pos rfl])
   refine Ev.ct hc (Ev.some hg (Ev.bind (qc8 x.1 (by omega)) (Ev.ite (λ hv=>?_) λ hv=>?_)))
   ·rw [bnt,qh] at hv
    exact bad _ (by rw [hk,if_pos hv]) hv
   rw [bnf,qj] at hv
   rw [if_neg (by omega)] at hk
   refine Ev.bind (qA0 x.1) (Ev.ite (λ hv2=>?_) λ hv2=>?_)
   ·exact bad 1 (by rw [hk,if_pos hv2]) (by decide)
   rw [if_neg (by rw [hv2];decide)] at hk
   refine Ev.ite (λ hz=>?_) λ hz=>?_
   ·rw [qj] at hz
    exact bad 7 (by rw [hk,if_pos (by omega)]) (by decide)
   rw [qh] at hz
   refine Ev.ite (λ hz2=>?_) λ hz2=>?_
   ·rw [qs] at hz2
    exact bad 7 (by rw [hk,if_pos (by omega)]) (by decide)
   rw [qw] at hz2
   refine Ev.ite (λ hz3=>?_) λ hz3=>?_
   ·rw [qs] at hz3
    exact bad 7 (by rw [hk,if_pos (by omega)]) (by decide)
   rw [qw] at hz3
   rw [if_neg (by omega)] at hk
   rw [hi]
   refine Ev.ite (λ h0=>?_) λ h0=>?_
   ·rw [qs] at h0
    obtain ⟨j,rfl⟩:∃ j,i=j+1:=⟨i-1,by omega⟩
    have hlt:j<l.length:=by have:=(List.getElem?_eq_some_iff.1 hx).1;omega
    obtain ⟨q,hq⟩:∃ q,l[j]? = some q:=⟨_,List.getElem?_eq_getElem hlt⟩
    have h2:=qdG (List.mem_of_getElem? hq)
    rw [qiu hq] at hk bad good ⊢
    simp only at hk
    refine Ev.some (a:=q) (by rw [show QD ((j+1:Nat):Int) 1=((j:Nat):Int) from by unfold QD;omega,Jc (by omega),jz,hq]) (Ev.bind (qcp q.1 (by omega) x.1 (by omega)) (Ev.ite (λ hc2=>?_) λ hc2=>?_))
    ·rw [qd9] at hc2
     exact bad 5 (by rw [hk,if_pos hc2]) (by decide)
    ·rw [qjS] at hc2
     exact good (by rw [hk,if_neg (by omega)])
   ·rw [qw] at h0
    have:i=0:=by omega
    subst this
    exact good (by rw [hk];rfl))
 refine Ev.diag (L := λ m k=>jn m k l l l.length 0) ?_
 exact key 0 (Nat.zero_le _)
end Go.AmYtbpnmbmdbblehaaGreat
namespace Go.AmYtbpnmbmdbblehaaGreat
open Go Go.GxYtbpnmbmdbblehaaGreat
theorem zS {α : Type} {l:List α} {i:Nat} {x : α} (h:l[i]? = some x):l.take (i+1)=l.take i++[x]:=by rw [List.take_add_one,h];rfl
theorem qqf (a b:List Pw):zK (a++b)=zK a++zK b:=by unfold zK;rw [List.flatMap_append]
theorem qrn (a b:List Pw):zQ (a++b)=zQ a++zQ b:=by unfold zQ;rw [List.flatMap_append]
theorem qqN (p:Pw):zK [p]=List.replicate p.2.toNat p.1:=by unfold zK;simp
theorem qrl (p:Pw):zQ [p]=List.replicate (-p.2).toNat (apT QB [p.1]):=by unfold zQ;simp
theorem qAH (n:Nat) (x:T):szL (List.replicate n x)=n*size x:=by
 induction n with
 | zero=>simp [szL]
 | succ n ih=>rw [List.replicate_succ,qJ,ih,Nat.add_mul];omega
theorem qyv (t:T):size (apT QB [t])=1+size t:=by rw [qS];show 1+(size t+0)=_;omega
theorem qmD {P:Nat→Prop} (N:Int) (hN:N≤1000000) (hend:P N.toNat) (hstep:∀ j:Nat,(j:Int)<N→iw .i64 (qi (j:Int) 1)=((j+1:Nat):Int)→P (j+1)→P j):∀ j:Nat,j≤N.toNat→P j:=by
 intro j hj
 obtain ⟨d,hd⟩:∃ d,N.toNat=j+d:=⟨N.toNat-j,by omega⟩
 induction d generalizing j with
 | zero =>
   have:j=N.toNat:=by omega
   subst this;exact hend
 | succ d ih =>
   refine hstep j (by omega) ?_ (ih (j+1) (by omega) (by omega))
   unfold qi
   rw [Jc (by omega)];omega
theorem qHM {l:List Pw} {p:Pw} (hp:p∈l) (h:8<p.2):8<(zK l++zQ l).length:=by
 have:(List.replicate p.2.toNat p.1).length≤(zK l).length:=Nat.le_trans (List.sublist_flatten_of_mem (List.mem_map_of_mem (f := λ p:Pw=>List.replicate p.2.toNat p.1) hp)).length_le (by unfold zK;rw [List.flatMap_def];exact Nat.le_refl _)
 rw [List.length_replicate] at this
 rw [List.length_append];omega
theorem qIg {l:List Pw} {p:Pw} (hp:p∈l) (h:p.2 < -8):8<(zK l++zQ l).length:=by
 have:(List.replicate (-p.2).toNat (apT QB [p.1])).length≤(zQ l).length:=Nat.le_trans (List.sublist_flatten_of_mem (List.mem_map_of_mem (f := λ p:Pw=>List.replicate (-p.2).toNat (apT QB [p.1])) hp)).length_le (by unfold zQ;rw [List.flatMap_def];exact Nat.le_refl _)
 rw [List.length_replicate] at this
 rw [List.length_append];omega
theorem qBz (o:List T):size (Jj o)≤1+szL o:=by
 unfold Jj
 split
 ·rw [qS];show 1+0≤_;omega
 ·split
  ·rename_i _ h1l
   have:o.getD 0 zT∈o:=by
    cases o with
    | nil=>cases h1l
    | cons x r=>exact List.mem_cons_self ..
   have:=qbF this;omega
  ·rw [qS];exact Nat.le_refl _
theorem qon {l:List Pw} (hsz:∀ p∈l,size p.1≤400):∀ (ks:List Pw),(∀ p∈ks,p∈l∧-8≤p.2∧p.2≤8)→(zK ks).length≤8*ks.length∧(zQ ks).length≤8*ks.length∧szL (zK ks)≤3200*ks.length∧szL (zQ ks)≤3208*ks.length
 | [],_=>⟨Nat.le_refl _,Nat.le_refl _,Nat.le_refl _,Nat.le_refl _⟩
 | p::ks,h=>by
   obtain ⟨i1,i2,i3,i4⟩:=qon hsz ks λ q hq=>h q (List.mem_cons_of_mem _ hq)
   obtain ⟨h1,h2,h3⟩:=h p (List.mem_cons_self ..)
   have h4:=hsz p h1
   have e1:zK (p::ks)=List.replicate p.2.toNat p.1++zK ks:=by rw [show p::ks=[p]++ks from rfl,qqf,qqN]
   have e2:zQ (p::ks)=List.replicate (-p.2).toNat (apT QB [p.1])++zQ ks:=by rw [show p::ks=[p]++ks from rfl,qrn,qrl]
   have m1:p.2.toNat*size p.1≤8*400:=Nat.mul_le_mul (by omega) h4
   have m2:(-p.2).toNat*(1+size p.1)≤8*401:=Nat.mul_le_mul (by omega) (by omega)
   rw [e1,e2,qgq,qgq,qAH,qAH,qyv]
   simp only [List.length_append,List.length_replicate,List.length_cons]
   refine ⟨by omega,by omega,by omega,by omega⟩
noncomputable def qkL (o:List T):T × Int:=if 8<o.length then (zT,3) else if qR (Jj o)≠0 then (zT,qR (Jj o)) else (Jj o,0)
theorem qnS {l:List Pw} (h:QI l=0):qal l=qkL (zK l++zQ l):=by
 unfold qal qkL
 rw [if_neg (by omega)]
theorem qxr (l:List Pw) (hs:szP l≤1000000000):Ev (λ m _=>jF m l) (qal l):=by
 refine Ev.succ ?_
 simp only [qrR,qce]
 refine Ev.bind (qnt l hs) (Ev.ite (λ h=>?_) λ h=>?_)
 ·rw [bnt,qh] at h
  unfold qal
  rw [if_pos h];exact Ev.pure _
 rw [bnf,qj] at h
 obtain ⟨_,hlen,hN,hV⟩:=qaD h
 have hsz:∀ p∈l,size p.1≤400 := λ p hp=>jQ (hV p hp).1
 rw [qnS h]
 have key:=qr (P := λ i=>(∀ p∈l.take i,p∈l∧-8≤p.2∧p.2≤8)→Ev (λ m k=>(qu m k).1 l l.length i 0 [] 0 [] (zK (l.take i)) (zQ (l.take i))) (qkL (zK l++zQ l))) l (by omega)
  (λ hc hb=>by
   refine Ev.loop ?_
   simp only [qiP,qcc,qf]
   rw [List.take_length] at hb ⊢
   obtain ⟨b1,b2,b3,b4⟩:=qon hsz l hb
   refine Ev.cf hc (Ev.bind (qrE (zK l) (zQ l) (by omega)) ?_)
   have ho:szL (zK l++zQ l)≤10000000:=by rw [qgq];omega
   generalize zK l++zQ l=o at *
   have hol:=jb o
   have hoz:=qBz o
   unfold qkL
   refine Ev.ite (λ h8=>?_) λ h8=>?_
   ·rw [qs] at h8
    rw [if_pos (by omega)];exact Ev.pure _
   rw [qw] at h8
   rw [if_neg (by omega)]
   have fin:∀ u:T,u=Jj o→Ev (λ m _=>qa (zc m u) λ v=>cond (qb (ieq v 0)) (some (T.mk 0 [] 0 [],v)) (some (u,0))) (if qR (Jj o)≠0 then (zT,qR (Jj o)) else (Jj o,0)):=by
    intro u hu
    subst hu
    refine Ev.bind (qc8 _ (by omega)) (Ev.ite (λ h=>?_) λ h=>?_)
    ·rw [bnt,qh] at h
     rw [if_pos h];exact Ev.pure _
    ·rw [bnf,qj] at h
     rw [if_neg (by omega)];exact Ev.pure _
   have app:∀ (n:List UInt8) (x:List T),Ev (λ m _=>qby m n x) (apT n x) := λ n x=>Ev.succ (Ev.pure _)
   refine Ev.bind (app [109,117,108] o) (Ev.ite (λ h0=>?_) λ h0=>?_)
   ·rw [qj] at h0
    exact Ev.bind (app [111,110,101] []) (fin _ (by unfold Jj;rw [if_pos (by omega)];rfl))
   ·rw [qh] at h0
    refine Ev.ite (λ h1=>?_) λ h1=>?_
    ·rw [qj] at h1
     refine Ev.some (a:=o.getD 0 zT) ?_ (fin _ (by unfold Jj;rw [if_neg (by omega),if_pos (by omega)]))
     rw [Jk,List.getD_eq_getElem?_getD]
     cases o with
     | nil=>simp at h1
     | cons x r=>rfl
    ·rw [qh] at h1
     exact fin _ (by unfold Jj;rw [if_neg (by omega),if_neg (by omega)];rfl))
  (λ i p hx hd hc hg hi hP hb=>by
   refine Ev.loop ?_
   simp only [qiP,qcc]
   have hm:=List.mem_of_getElem? hx
   have hn:=hN p hm
   have hz:=hsz p hm
   have hib:=(List.getElem?_eq_some_iff.1 hx).1
   refine Ev.ct hc (Ev.some hg (Ev.ite (λ h8=>?_) λ h8=>?_))
   ·rw [qs] at h8
    unfold qkL
    rw [if_pos (qHM hm h8)];exact Ev.pure _
   rw [qw] at h8
   refine Ev.ite (λ h9=>?_) λ h9=>?_
   ·rw [qs] at h9
    unfold qkL
    rw [if_pos (qIg hm h9)];exact Ev.pure _
   rw [qw] at h9
   obtain ⟨b1,b2,b3,b4⟩:=qon hsz _ hb
   have htl:(l.take i).length≤200:=by rw [List.length_take];omega
   have hP:=hP λ q hq=>by
    rw [zS hx] at hq
    rcases List.mem_append.1 hq with hq | hq
    ·exact hb q hq
    ·rw [show q=p from by simpa using hq];exact ⟨hm,h9,h8⟩
   rw [zS hx,qqf,qrn,qqN,qrl] at hP
   generalize zK (l.take i)=P0 at *
   generalize zQ (l.take i)=N0 at *
   have k3:=qmD (P := λ j=>Ev (λ m k=>(qu m k).2.2 l l.length i (-p.2) j 0 [] 0 p.1.kind p.1.name p.1.sort p.1.kids p.2 [] (P0++List.replicate p.2.toNat p.1) (N0++List.replicate j (apT QB [p.1]))) (qkL (zK l++zQ l))) (-p.2) (by omega)
    (by
     refine Ev.loop ?_
     simp only [qjH,qcd]
     refine Ev.cf (qw.2 (by omega)) ?_
     rw [hi]
     exact hP)
    (λ j hj hji hPj=>by
     refine Ev.loop ?_
     simp only [qjH,qcd,qf]
     rw [show T.mk p.1.kind p.1.name p.1.sort p.1.kids=p.1 from qf p.1,hji]
     refine Ev.ct (qs.2 hj) (Ev.bind (qko p.1 (by omega)) (Ev.bind (a:=apT QB [p.1]) (Ev.succ (Ev.pure _)) (Ev.ct (qY (by rw [List.length_append,List.length_replicate];omega) (by omega)) ?_)))
     refine hPj.congr λ m k=>?_
     rw [List.replicate_succ',List.append_assoc])
   have k2:=qmD (P := λ j=>Ev (λ m k=>(qu m k).2.1 l l.length i p.2 j 0 [] 0 p.1.kind p.1.name p.1.sort p.1.kids p.2 [] (P0++List.replicate j p.1) N0) (qkL (zK l++zQ l))) p.2 (by omega)
    (by
     refine Ev.loop ?_
     simp only [qjm,qbW]
     refine Ev.cf (qw.2 (by omega)) ?_
     rw [show iw .i64 (QD 0 p.2)=-p.2 from by unfold QD;rw [Jc (by omega)];omega]
     have:=k3 0 (Nat.zero_le _)
     rw [List.replicate_zero,List.append_nil] at this
     exact this)
    (λ j hj hji hPj=>by
     refine Ev.loop ?_
     simp only [qjm,qbW,qf]
     rw [show T.mk p.1.kind p.1.name p.1.sort p.1.kids=p.1 from qf p.1,hji]
     refine Ev.ct (qs.2 hj) (Ev.bind (qko p.1 (by omega)) (Ev.ct (qY (by rw [List.length_append,List.length_replicate];omega) (by omega)) ?_))
     refine hPj.congr λ m k=>?_
     rw [List.replicate_succ',List.append_assoc])
   have:=k2 0 (Nat.zero_le _)
   rw [List.replicate_zero,List.append_nil] at this
   exact this)
 refine Ev.diag (L := λ m k=>(qu m k).1 l l.length 0 0 [] 0 [] [] []) ?_
 exact (key 0 (Nat.zero_le _)) (λ p hp=>by rw [List.take_zero] at hp;cases hp)
theorem qHR (l:List Pw) (hs:szP l≤100000000):Ev (λ m _=>qaH m l) ((),l,()):=by
 have hl:=qbp l
 refine Ev.succ ?_
 simp only [qpy,qax]
 have key:=qr (P := λ i=>Ev (λ m k=>jx m k l l.length i (l.take i)) ((),l,())) l (by omega)
  (λ hc=>by
   refine Ev.loop ?_
   simp only [qho,qay]
   refine Ev.cf hc ?_
   rw [List.take_length];exact Ev.pure _)
  (λ i p hx hd hc hg hi hP=>by
   refine Ev.loop ?_
   simp only [qho,qay,qf]
   have h1:=qdG (List.mem_of_getElem? hx)
   have h2:(l.take i).length≤l.length:=by rw [List.length_take];omega
   refine Ev.ct hc (Ev.some hg (Ev.bind (qko p.1 (by omega)) (Ev.ct (qY (by omega) (by omega)) ?_)))
   rw [hi]
   refine hP.congr λ m k=>?_
   rw [zS hx])
 refine Ev.diag (L := λ m k=>jx m k l l.length 0 []) ?_
 exact key 0 (Nat.zero_le _)
theorem qvc (p:Pw) (l:List Pw):qkD (p::l)=((decide (p.2 < -1000)||decide (1000<p.2))||qkD l):=rfl
theorem qHl (l:List Pw) (hl:l.length≤1000000000):∃ v,Ev (λ m _=>qX m l) v∧ile 0 v=qkD l:=by
 have key:=qr (P := λ i=>∃ v,Ev (λ m k=>qv m k l l.length i) v∧ile 0 v=qkD (l.drop i)) l (by omega)
  (λ hc=>by
   refine ⟨-1,Ev.loop ?_,by rw [List.drop_length];rfl⟩
   simp only [yb,qO]
   exact Ev.cf hc (Ev.pure _))
  (λ i p hx hd hc hg hi hP=>by
   obtain ⟨v,hv,hf⟩:=hP
   rw [hd,qvc]
   have hq:Ev (λ m _=>JI m (p.1,p.2)) (decide (p.2 < -1000)||decide (1000<p.2)):=by
    refine Ev.succ ?_
    simp only [qnn,qbS]
    refine Ev.ite (λ h=>?_) λ h=>?_
    ·rw [qs] at h
     exact Ev.ret (by rw [decide_eq_true h];rfl)
    ·rw [qw] at h
     exact Ev.ret (by rw [decide_eq_false (show ¬ p.2 < -1000 by omega)];rfl)
   cases hb:decide (p.2 < -1000)||decide (1000<p.2) with
   | true =>
     refine ⟨i,Ev.loop ?_,by rw [Bool.true_or,qd9];omega⟩
     simp only [yb,qO,qf]
     exact Ev.ct hc (Ev.some hg (Ev.bind hq (Ev.ct hb (Ev.pure _))))
   | false =>
     refine ⟨v,Ev.loop ?_,by rw [Bool.false_or];exact hf⟩
     simp only [yb,qO,qf]
     refine Ev.ct hc (Ev.some hg (Ev.bind hq (Ev.cf hb ?_)))
     rw [hi];exact hv)
 obtain ⟨v,hv,hf⟩:=key 0 (Nat.zero_le _)
 refine ⟨v,Ev.succ ?_,by rw [hf,List.drop_zero]⟩
 simp only [qaR,zo]
 exact Ev.diag (L := λ m k=>qv m k l l.length 0) hv
noncomputable def qmb (l:List Pw):List Pw × Int:=if qkD l then ([],7) else if 200<l.length then ([],3) else (l,0)
theorem qHD (l:List Pw) (hl:l.length≤1000000000):Ev (λ m _=>qaJ m l) (qmb l):=by
 obtain ⟨v,hv,hf⟩:=qHl l hl
 refine Ev.succ ?_
 simp only [qpr,qc7]
 have hc:Ev (λ m _=>qN m l) (qkD l):=by
  refine Ev.succ ?_
  simp only [J5,zM]
  exact Ev.bind hv (Ev.ret hf)
 unfold qmb
 refine Ev.bind hc (Ev.ite (λ h=>?_) λ h=>?_)
 ·rw [if_pos h];exact Ev.pure _
 ·rw [if_neg (by rw [h];decide)]
  refine Ev.ite (λ h2=>?_) λ h2=>?_
  ·rw [qs] at h2
   rw [if_pos (by omega)];exact Ev.pure _
  ·rw [qw] at h2
   rw [if_neg (by omega)];exact Ev.pure _
theorem qDs (S:Nat):∀ l:List Pw,(∀ p∈l,size p.1≤S)→szP l≤l.length*S
 | [],_=>by simp [szP]
 | p::l,h=>by
   have h1:=qDs S l λ q hq=>h q (List.mem_cons_of_mem _ hq)
   have h2:=h p (List.mem_cons_self ..)
   rw [J8,List.length_cons,Nat.add_mul];omega
theorem qse (a b:List Pw):qiT a b=if QI a≠0 then ([],QI a) else if QI b≠0 then ([],QI b) else qmb (Qt a b):=rfl
theorem qge {a b:List Pw} (ha:QI a=0) (hb:QI b=0) (j:Nat) :
  Ji (Qt a (b.take j))∧(Qt a (b.take j)).length≤400∧szP (Qt a (b.take j))≤160000∧j8 (Qt a (b.take j))≤400000:=by
 obtain ⟨g1,l1,k1,v1⟩:=qaD ha
 obtain ⟨g2,l2,k2,v2⟩:=qaD hb
 have hm:∀ p∈b.take j,p∈b := λ p hp=>List.mem_of_mem_take hp
 obtain ⟨h1,h2,h3,h4⟩:=qC2 ha hb 400 (λ p hp=>jQ (v1 p hp).1) (λ p hp=>jQ (v2 p hp).1) j
 have h5:=qDs 400 _ h4
 obtain ⟨h6,_⟩:=qqb (b.take j) a
 have h7:=qlc 1000 a k1
 have h8:=qlc 1000 (b.take j) λ p hp=>k2 p (hm p hp)
 have h9:(b.take j).length≤200:=by rw [List.length_take];omega
 refine ⟨qop _ _ g1 λ p hp=>g2.2 p (hm p hp),h2,Nat.le_trans h5 (Nat.mul_le_mul_right 400 h2),?_⟩
 have m1:a.length*1000≤200*1000:=Nat.mul_le_mul_right _ l1
 have m2:(b.take j).length*1000≤200*1000:=Nat.mul_le_mul_right _ h9
 omega
theorem qHk (a b:List Pw) (ha:szP a≤100000000) (hb:szP b≤100000000):Ev (λ m _=>qc5 m a b) (qiT a b):=by
 have hl:=qbp b
 refine Ev.succ ?_
 simp only [quI,qcK]
 rw [qse]
 refine Ev.bind (qnt a (by omega)) (Ev.ite (λ h=>?_) λ h=>?_)
 ·rw [bnt,qh] at h
  rw [if_pos h];exact Ev.pure _
 rw [bnf,qj] at h
 rw [if_neg (by omega)]
 refine Ev.bind (qnt b (by omega)) (Ev.ite (λ h2=>?_) λ h2=>?_)
 ·rw [bnt,qh] at h2
  rw [if_pos h2];exact Ev.pure _
 rw [bnf,qj] at h2
 rw [if_neg (by omega)]
 refine Ev.bind (qHR a ha) ?_
 have key:=qr (P := λ i=>Ev (λ m k=>Q6 m k b b.length i (Qt a (b.take i))) (qmb (Qt a b))) b (by omega)
  (λ hc=>by
   refine Ev.loop ?_
   simp only [qkc,qcF]
   rw [List.take_length]
   obtain ⟨_,b2,_,_⟩:=qge h h2 b.length
   rw [List.take_length] at b2
   exact Ev.cf hc (Ev.bind (qHD _ (by omega)) (Ev.pure _)))
  (λ i p hx hd hc hg hi hP=>by
   refine Ev.loop ?_
   simp only [qkc,qcF,qf]
   have hm:=List.mem_of_getElem? hx
   obtain ⟨b1,b2,b3,b4⟩:=qge h h2 i
   obtain ⟨_,_,hn,hv⟩:=qaD h2
   have hz:=jQ (hv p hm).1
   have hnp:=hn p hm
   refine Ev.ct hc (Ev.some hg (Ev.bind (qr4 b1.1 p.1 p.2 (by omega) (by omega) (by omega)) ?_))
   rw [hi]
   refine hP.congr λ m k=>?_
   rw [zS hx,qvA])
 refine Ev.diag (L := λ m k=>Q6 m k b b.length 0 a) ?_
 exact key 0 (Nat.zero_le _)
end Go.AmYtbpnmbmdbblehaaGreat
namespace Go.AmYtbpnmbmdbblehaaGreat
open Go Go.GxYtbpnmbmdbblehaaGreat
theorem qyh (t:T):Ev (λ m _=>JA m t) (qbZ t):=by
 refine Ev.succ ?_
 simp only [qsq,qe1]
 unfold qbZ
 by_cases h3:t.kind=3
 ·refine Ev.ct (qj.2 h3) (Ev.ite (λ h=>?_) λ h=>(Ev.ite (λ h2=>?_) λ h2=>?_))
  ·rw [y9] at h
   exact Ev.ret (by rw [h3,h];rfl)
  ·rw [y9] at h2
   exact Ev.ret (by rw [h3,h2];rfl)
  ·rw [jq] at h h2
   exact Ev.ret (by
    have a1:(t.name==qf7)=false:=by rw [beq_eq_false_iff_ne];exact h
    have a2:(t.name==QB)=false:=by rw [beq_eq_false_iff_ne];exact h2
    rw [h3,a1,a2];rfl)
 ·exact Ev.cf (qh.2 h3) (Ev.ret (by have:(t.kind==3)=false:=by rw [beq_eq_false_iff_ne];exact h3
                                    rw [this];rfl))
theorem qDW (t:T):size t≤1000000000→Ev (λ m _=>yq m t) (arT t):=by
 induction t using T.ind with
 | h t ih =>
   intro hs
   have hl:=yJ t
   refine Ev.succ ?_
   simp only [qw2,qd4,qf]
   refine Ev.bind (qyh t) (Ev.ite (λ h=>?_) λ h=>?_)
   ·rw [bnt] at h
    exact Ev.ret (by rw [qsO,h];rfl)
   rw [bnf] at h
   obtain ⟨h3,hname⟩:=qoZ.1 h
   have har:arT t=(arK t&&(t.kids.map arT).all id):=by rw [qsO,h];rfl
   have loop:arK t=true→Ev (λ m _=>Qz m (yq m) m t.kids.length 0 t.kind t.name t.sort t.kids) (arT t):=by
    intro hk
    rw [har,hk,Bool.true_and]
    have key:=qr (P := λ i=>Ev (λ m k=>Qz m (yq m) k t.kids.length i t.kind t.name t.sort t.kids) (((t.kids.drop i).map arT).all id)) t.kids (by omega)
     (λ hc=>by
      refine Ev.loop ?_
      simp only [qk8,qdX]
      refine Ev.cf hc (Ev.ret ?_)
      rw [List.drop_length];rfl)
     (λ i x hx hd hc hg hi hP=>by
      refine Ev.loop ?_
      simp only [qk8,qdX,qf]
      have hm:=List.mem_of_getElem? hx
      have h1:=jl t x hm
      rw [hd,List.map_cons,List.all_cons]
      refine Ev.ct hc (Ev.some hg (Ev.bind (ih x hm (by omega)) (Ev.ite (λ hb=>?_) λ hb=>?_)))
      ·rw [bnt] at hb
       rw [hb];exact Ev.pure _
      ·rw [bnf] at hb
       rw [hb,hi]
       exact hP)
    refine Ev.diag (L := λ m k=>Qz m (yq m) k t.kids.length 0 t.kind t.name t.sort t.kids) ?_
    exact (key 0 (Nat.zero_le _)).res (by rw [List.drop_zero])
   have bad:arK t=false→Ev (λ _ _=>some false) (arT t) := λ hk=>Ev.ret (by rw [har,hk];rfl)
   rcases hname with hn1 | hn1 | hn1
   ·refine Ev.ct (by rw [hn1];rfl) (Ev.ite (λ hk=>?_) λ hk=>?_)
    ·rw [qs] at hk
     exact bad (by unfold arK;rw [hn1,decide_eq_true (show t.kids.length<2 by omega)];rfl)
    ·rw [qw] at hk
     exact Ev.cf (by rw [hn1];rfl) (Ev.cf (by rw [hn1];rfl) (loop (by unfold arK;rw [hn1,decide_eq_false (show ¬ t.kids.length<2 by omega)];rfl)))
   ·refine Ev.cf (by rw [hn1];rfl) (Ev.ct (by rw [hn1];rfl) (Ev.ite (λ hk=>?_) λ hk=>?_))
    ·rw [bnt,qh] at hk
     exact bad (by unfold arK;rw [hn1,show (t.kids.length != 1)=true from by rw [bne_iff_ne];omega];rfl)
    ·rw [bnf,qj] at hk
     exact Ev.cf (by rw [hn1];rfl) (loop (by unfold arK;rw [hn1,show (t.kids.length != 1)=false from by rw [bne_eq_false_iff_eq];omega];rfl))
   ·refine Ev.cf (by rw [hn1];rfl) (Ev.cf (by rw [hn1];rfl) (Ev.ct (by rw [hn1];rfl) (Ev.ite (λ hk=>?_) λ hk=>?_)))
    ·rw [bnt,qh] at hk
     exact bad (by unfold arK;rw [hn1,show (t.kids.length != 0)=true from by rw [bne_iff_ne];omega];rfl)
    ·rw [bnf,qj] at hk
     exact loop (by unfold arK;rw [hn1,show (t.kids.length != 0)=false from by rw [bne_eq_false_iff_eq];omega];rfl)
theorem qvg (t:T) (n:Int):∀ (l:List Pw) (s:List Pw × Bool),(l.foldl (yF t n) s).1.length≤s.1.length+2*l.length
 | [],s=>by simp
 | x::l,s=>by
   have h:=qvg t n l (yF t n s x)
   have:(yF t n s x).1.length≤s.1.length+2:=by
    unfold yF
    simp only [List.length_append]
    have a:(if s.2=false∧qp t x.1<0 then s.1++[(t,n)] else s.1).length≤s.1.length+1:=by split<;>simp
    have b:(if (if qp t x.1=0 then x.2+n else x.2)=0 then ([]:List Pw) else [(x.1,if qp t x.1=0 then x.2+n else x.2)]).length≤1:=by generalize (if qp t x.1=0 then x.2+n else x.2)=z;split<;>simp
    omega
   rw [List.foldl_cons,List.length_cons];omega
theorem qAu {l:List Pw} (hg:Ji l) (t:T) (n:Int) (hs:szP l+size t≤1000000000) (hn:j8 l+n.natAbs≤1000000000000):Ev (λ m _=>qfp m l t n) ((),yk l t n,()):=by
 have hl:=qbp l
 refine Ev.succ ?_
 simp only [qAb,qfA]
 have hlen:∀ i,((l.take i).foldl (yF t n) ([],false)).1.length≤2*l.length := λ i=>by
  have:=qvg t n (l.take i) ([],false)
  have h2:(l.take i).length≤l.length:=by rw [List.length_take];omega
  simp only [List.length_nil] at this;omega
 have key:=qr (P := λ i=>Ev (λ m k=>Jg m k n ((l.take i).foldl (yF t n) ([],false)).2 i t.kind t.name t.sort t.kids l ((l.take i).foldl (yF t n) ([],false)).1) ((),yk l t n,())) l (by omega)
  (λ hc=>by
   refine Ev.loop ?_
   simp only [qoy,qfu]
   refine Ev.cf hc ?_
   have:=hlen l.length
   have he:=qFX hg.2 hg.1 t n
   rw [List.take_length] at this ⊢
   unfold qCJ at he
   refine Ev.ite (λ h=>?_) λ h=>?_
   ·rw [bnt] at h
    rw [if_neg (by rw [h];decide)] at he
    rw [show T.mk t.kind t.name t.sort t.kids=t from qf t,he]
    exact Ev.ct (qY (by omega) (by omega)) (Ev.pure _)
   ·rw [bnf] at h
    rw [if_pos h] at he
    rw [he]
    exact Ev.pure _)
  (λ i p hx hd hc hgt hi hP=>by
   refine Ev.loop ?_
   simp only [qoy,qfu,qf]
   have hm:=List.mem_of_getElem? hx
   have h1:=qdG hm
   have h2:=hlen i
   have h3:=qzj l p hm
   have hnz:=hg.2 p hm
   rw [zS hx,List.foldl_append] at hP
   generalize (l.take i).foldl (yF t n) ([],false)=s at *
   have go:∀ (b:Bool) (o:List Pw),yF t n s p=(o,b)→Ev (λ m k=>Jg m k n b ((i+1:Nat):Int) t.kind t.name t.sort t.kids l o) ((),yk l t n,()) := λ b o e=>by
    have hP:Ev (λ m k=>Jg m k n (yF t n s p).2 ((i+1:Nat):Int) t.kind t.name t.sort t.kids l (yF t n s p).1) ((),yk l t n,()):=hP
    rw [e] at hP;exact hP
   have e1:iw .i64 (qi p.2 n)=p.2+n:=by unfold qi;exact Jc (by omega)
   rw [show T.mk t.kind t.name t.sort t.kids=t from qf t,hi]
   have hz0:qb (ieq p.2 0)=true:=bnt.2 (qh.2 hnz)
   refine Ev.ct hc (Ev.some hgt (Ev.bind (qg2 t (by omega) p.1 (by omega)) (Ev.ite (λ h=>?_) λ h=>?_)))
   ·rw [bnt] at h
    refine Ev.ite (λ hc1=>?_) λ hc1=>?_
    ·rw [qs] at hc1
     refine Ev.ct (qY (by omega) (by omega)) (Ev.some hgt (Ev.cf (qh.2 (by omega)) (Ev.ct hz0 (Ev.ct (qY (by rw [List.length_append];simp only [List.length_cons,List.length_nil];omega) (by omega)) (go _ _ ?_)))))
     unfold yF
     rw [if_pos ⟨h,hc1⟩,if_neg (show ¬ qp t p.1=0 by omega),if_neg hnz,decide_eq_true (show qp t p.1≤0 by omega),Bool.or_true]
    ·rw [qw] at hc1
     refine Ev.some hgt (Ev.ite (λ hc2=>?_) λ hc2=>?_)
     ·rw [qj] at hc2
      refine Ev.ite (λ hz=>?_) λ hz=>?_
      ·rw [bnt,qh,e1] at hz
       refine Ev.ct (qY (by omega) (by omega)) (go _ _ ?_)
       rw [e1]
       unfold yF
       rw [if_neg (by omega),if_pos hc2,if_neg hz,decide_eq_true (show qp t p.1≤0 by omega),Bool.or_true]
      ·rw [bnf,qj,e1] at hz
       refine go _ _ ?_
       unfold yF
       rw [if_neg (by omega),if_pos hc2,if_pos hz,decide_eq_true (show qp t p.1≤0 by omega),Bool.or_true,List.append_nil]
     ·rw [qh] at hc2
      refine Ev.ct hz0 (Ev.ct (qY (by omega) (by omega)) (go _ _ ?_))
      unfold yF
      rw [if_neg (by omega),if_neg hc2,if_neg hnz,decide_eq_false (show ¬ qp t p.1≤0 by omega),Bool.or_false]
   ·rw [bnf] at h
    refine Ev.some hgt (Ev.ite (λ hc2=>?_) λ hc2=>?_)
    ·rw [qj] at hc2
     refine Ev.ite (λ hz=>?_) λ hz=>?_
     ·rw [bnt,qh,e1] at hz
      refine Ev.ct (qY (by omega) (by omega)) (go _ _ ?_)
      rw [e1]
      unfold yF
      rw [if_neg (by omega),if_pos hc2,if_neg hz,decide_eq_true (show qp t p.1≤0 by omega),Bool.or_true]
     ·rw [bnf,qj,e1] at hz
      refine go _ _ ?_
      unfold yF
      rw [if_neg (by omega),if_pos hc2,if_pos hz,decide_eq_true (show qp t p.1≤0 by omega),Bool.or_true,List.append_nil]
    ·rw [qh] at hc2
     refine Ev.ct hz0 (Ev.ct (qY (by omega) (by omega)) (go _ _ ?_))
     unfold yF
     rw [if_neg (by rw [h];intro hh;cases hh.1),if_neg hc2,if_neg hnz,h,Bool.true_or])
 refine Ev.diag (L := λ m k=>Jg m k n false 0 t.kind t.name t.sort t.kids l []) ?_
 exact key 0 (Nat.zero_le _)
theorem qzM (t:T):∀ (l:List Pw) (n:Int),n≠0→Ji l→szP l+size t≤80000000→j8 l+size t*n.natAbs≤100000000000→Ev (λ m _=>zH m l t n) ((),yT t l n,()):=by
 induction t using T.ind with
 | h t ih =>
   intro l n hn hg hs hb
   have hl:=yJ t
   have hz:=qS t
   refine Ev.succ ?_
   simp only [qss,qca,qf]
   have hmul:n.natAbs≤size t*n.natAbs:=Nat.le_mul_of_pos_left _ (size_pos t)
   refine Ev.bind (qyh t) (Ev.ite (λ h=>?_) λ h=>?_)
   ·rw [bnt] at h
    refine Ev.bind (qAu hg t n (by omega) (by omega)) (Ev.ret ?_)
    rw [qfl,h];rfl
   rw [bnf] at h
   obtain ⟨h3,hname⟩:=qoZ.1 h
   have loop:∀ sg:Int,sg≠0→sg.natAbs=n.natAbs→J7 t n=sg→Ev (λ m _=>jC m (zH m) m sg 0 t.kind t.name t.sort t.kids l) ((),yT t l n,()):=by
    intro sg hsg hab hsn
    have hcol:yT t l n=qeq t.kids sg l t.kids.length:=by rw [qfl,h,if_pos rfl,hsn];unfold qeq;rw [List.take_length]
    rw [hcol]
    have key:=qr (P := λ i=>Ev (λ m k=>jC m (zH m) k sg i t.kind t.name t.sort t.kids (qeq t.kids sg l i)) ((),qeq t.kids sg l t.kids.length,())) t.kids (by omega)
     (λ hc=>by
      refine Ev.loop ?_
      simp only [qjF,qb4]
      exact Ev.cf hc (Ev.pure _))
     (λ i x hx hd hc hgt hi hP=>by
      refine Ev.loop ?_
      simp only [qjF,qb4,qf]
      have hm:=List.mem_of_getElem? hx
      have h1:=jl t x hm
      obtain ⟨f1,f2,f3,f4⟩:=qlS sg hsg (t.kids.take i) l hg
      have h5:=jJ hx
      have h6:szL t.kids+1=size t:=by unfold szL;omega
      have h7:szL (t.kids.take i)*sg.natAbs+size x*sg.natAbs≤size t*n.natAbs:=by
       rw [← Nat.add_mul,hab]
       exact Nat.mul_le_mul_right _ (by omega)
      refine Ev.ct hc (Ev.some hgt (Ev.bind (ih x hm (qeq t.kids sg l i) sg hsg f1 (by unfold qeq;omega) (by unfold qeq;omega)) ?_))
      rw [hi]
      refine hP.congr λ m k=>?_
      rw [qvW hx])
    refine Ev.diag (L := λ m k=>jC m (zH m) k sg 0 t.kind t.name t.sort t.kids l) ?_
    exact key 0 (Nat.zero_le _)
   have hneg:iw .i64 (QD 0 n)=-n:=by
    unfold QD
    rw [Jc (by omega)];omega
   refine Ev.ite (λ hk=>?_) λ hk=>?_
   ·rw [y9] at hk
    rw [hneg]
    exact loop (-n) (by omega) (by omega) (by unfold J7;rw [if_pos (show t.name=QB from hk)])
   ·rw [jq] at hk
    exact loop n hn rfl (by unfold J7;rw [if_neg (show ¬ t.name=QB from hk)])
theorem qx7 (t:T) (hs:size t≤1000000000):Ev (λ m _=>qeZ m t) (ofP t):=by
 refine Ev.succ ?_
 simp only [qCi,qkK,qf]
 unfold ofP
 refine Ev.bind (qbK t hs) (Ev.ite (λ h=>?_) λ h=>?_)
 ·rw [bnt,qh] at h
  rw [if_pos h];exact Ev.pure _
 ·rw [bnf,qj] at h
  have hz:=jQ h
  rw [if_neg (by omega)]
  refine Ev.bind (qDW t hs) (Ev.ite (λ h1=>?_) λ h1=>?_)
  ·rw [bnt] at h1
   rw [if_pos h1];exact Ev.pure _
  ·rw [bnf] at h1
   rw [if_neg (by rw [h1];decide)]
   refine Ev.bind (qzM t [] 1 (by decide) Ji.nil (by show 0+_≤_;omega) (by show 0+size t*1≤_;omega)) (Ev.ite (λ h2=>?_) λ h2=>?_)
   ·rw [qs] at h2
    have h2:(200:Int)<((yT t [] 1).length:Int):=h2
    rw [if_pos (by omega)];exact Ev.pure _
   ·rw [qw] at h2
    have h2:((yT t [] 1).length:Int)≤200:=h2
    rw [if_neg (by omega)];exact Ev.pure _
theorem qqu (l:List Pw) (hs:szP l≤1000000000):Ev (λ m _=>qa4 m l) (QI l):=by
 have hl:=qbp l
 refine Ev.succ ?_
 simp only [qwu,qd7]
 unfold QI
 refine Ev.ite (λ h=>?_) λ h=>?_
 ·rw [qs] at h
  rw [if_pos (by omega)];exact Ev.pure _
 rw [qw] at h
 rw [if_neg (by omega)]
 have key:=qr (P := λ i=>Ev (λ m k=>Qx m k l i) (pvL (qcU l i) (l.drop i))) l (by omega)
  (λ hc=>by
   refine Ev.loop ?_
   simp only [qli,qdT]
   refine Ev.cf hc (Ev.ret ?_)
   rw [List.drop_length];rfl)
  (λ i x hx hd hc hg hi hP=>by
   refine Ev.loop ?_
   simp only [qli,qdT,qf]
   have h1:=qdG (List.mem_of_getElem? hx)
   rw [qiu hx] at hP
   rw [hd,pvL]
   have hk:=qxC (qcU l i) x
   have bad:∀ e:Int,pvK (qcU l i) x=e→e≠0→Ev (λ _ _=>some e) (thn (pvK (qcU l i) x) (pvL (some x.1) (l.drop (i+1)))) := λ e he h0=>by
    rw [he]
    exact Ev.ret (by unfold thn;rw [if_neg h0])
   have good:pvK (qcU l i) x=0→Ev (λ m k=>Qx m k l ((i+1:Nat):Int)) (thn (pvK (qcU l i) x) (pvL (some x.1) (l.drop (i+1)))) := λ he=>by
    rw [he]
    exact hP.res (by unfold thn;rw [if_pos rfl])
   refine Ev.ct hc (Ev.some hg (Ev.bind (qbK x.1 (by omega)) (Ev.ite (λ hv=>?_) λ hv=>?_)))
   ·rw [bnt,qh] at hv
    exact bad _ (by rw [hk,if_pos hv]) hv
   rw [bnf,qj] at hv
   rw [if_neg (by omega)] at hk
   refine Ev.some hg (Ev.bind (qyh x.1) (Ev.ite (λ hv2=>?_) λ hv2=>?_))
   ·exact bad 1 (by rw [hk,if_pos hv2]) (by decide)
   rw [if_neg (by rw [hv2];decide)] at hk
   refine Ev.some hg (Ev.ite (λ hz=>?_) λ hz=>?_)
   ·rw [qj] at hz
    exact bad 7 (by rw [hk,if_pos (by omega)]) (by decide)
   rw [qh] at hz
   refine Ev.some hg (Ev.ite (λ hz2=>?_) λ hz2=>?_)
   ·rw [qs] at hz2
    exact bad 7 (by rw [hk,if_pos (by omega)]) (by decide)
   rw [qw] at hz2
   refine Ev.some hg (Ev.ite (λ hz3=>?_) λ hz3=>?_)
   ·rw [qs] at hz3
    exact bad 7 (by rw [hk,if_pos (by omega)]) (by decide)
   rw [qw] at hz3
   rw [if_neg (by omega)] at hk
   rw [hi]
   refine Ev.ite (λ h0=>?_) λ h0=>?_
   ·rw [qs] at h0
    obtain ⟨j,rfl⟩:∃ j,i=j+1:=⟨i-1,by omega⟩
    have hlt:j<l.length:=by have:=(List.getElem?_eq_some_iff.1 hx).1;omega
    obtain ⟨q,hq⟩:∃ q,l[j]? = some q:=⟨_,List.getElem?_eq_getElem hlt⟩
    have h2:=qdG (List.mem_of_getElem? hq)
    rw [qiu hq] at hk bad good ⊢
    simp only at hk
    refine Ev.some (a:=q) (by rw [show QD ((j+1:Nat):Int) 1=((j:Nat):Int) from by unfold QD;omega,Jc (by omega),jz,hq]) (Ev.some hg (Ev.bind (qg2 q.1 (by omega) x.1 (by omega)) (Ev.ite (λ hc2=>?_) λ hc2=>?_)))
    ·rw [qd9] at hc2
     exact bad 5 (by rw [hk,if_pos hc2]) (by decide)
    ·rw [qjS] at hc2
     exact good (by rw [hk,if_neg (by omega)])
   ·rw [qw] at h0
    have:i=0:=by omega
    subst this
    exact good (by rw [hk];rfl))
 refine Ev.diag (L := λ m k=>Qx m k l 0) ?_
 exact key 0 (Nat.zero_le _)
end Go.AmYtbpnmbmdbblehaaGreat
namespace Go.AmYtbpnmbmdbblehaaGreat
open Go Go.GxYtbpnmbmdbblehaaGreat
theorem qsN (A:List T) (x:T) (h:(A.take 9).length<9):A.take 9++[x]=(A++[x]).take 9:=by
 rw [List.length_take] at h
 rw [List.take_of_length_le (by omega),List.take_of_length_le (by rw [List.length_append];simp only [List.length_cons,List.length_nil];omega)]
theorem qsZ (A B:List T) (h:¬ (A.take 9).length<9):A.take 9=(A++B).take 9:=by
 rw [List.length_take] at h
 rw [List.take_append_of_le_length (by omega)]
theorem qE3 (l:List Pw) (hl:l.length≤1000) (hn:∀ p∈l,p.2.natAbs≤1000):Ev (λ m _=>qbs m l) ((zK l++zQ l).take 9):=by
 refine Ev.succ ?_
 simp only [qrs,qba]
 have l9:∀ A:List T,(A.take 9).length≤9 := λ A=>by rw [List.length_take];omega
 have k3:=qr (P := λ i=>Ev (λ m k=>(qk m k).2.2.1 l i ((zK l++zQ (l.take i)).take 9)) ((zK l++zQ l).take 9)) l (by omega)
  (λ hc=>by
   refine Ev.loop ?_
   simp only [qhQ,qbc]
   refine Ev.cf hc ?_
   rw [List.take_length];exact Ev.pure _)
  (λ i p hx hd hc hg hi hP=>by
   refine Ev.loop ?_
   simp only [qhQ,qbc]
   refine Ev.ct hc ?_
   have hnp:=hn p (List.mem_of_getElem? hx)
   rw [zS hx,qrn,qrl,← List.append_assoc] at hP
   generalize zK l++zQ (l.take i)=A at *
   have hneg:iw .i64 (QD 0 p.2)=-p.2:=by unfold QD;rw [Jc (by omega)];omega
   have k4:=qmD (P := λ j=>Ev (λ m k=>(qk m k).2.2.2 l i j ((A++List.replicate j (apT QB [p.1])).take 9)) ((zK l++zQ l).take 9)) (-p.2) (by omega)
    (by
     refine Ev.loop ?_
     simp only [qh5,qbn,qf]
     refine Ev.some hg (Ev.cf (by rw [hneg,qw];omega) ?_)
     rw [hi]
     exact hP)
    (λ j hj hji hPj=>by
     refine Ev.loop ?_
     simp only [qh5,qbn,qf]
     rw [List.replicate_succ',← List.append_assoc] at hPj
     have h9:=l9 (A++List.replicate j (apT QB [p.1]))
     refine Ev.some hg (Ev.ct (by rw [hneg,qs];exact hj) (Ev.ite (λ h=>?_) λ h=>?_))
     ·rw [qs] at h
      refine Ev.some hg (Ev.bind (qea [105,110,118] [p.1] (by simp)) (Ev.ct (qY (by omega) (by omega)) ?_))
      rw [hji]
      refine hPj.congr λ m k=>?_
      rw [← qsN _ _ (by omega)];rfl
     ·rw [qw] at h
      rw [hi]
      refine hP.congr λ m k=>?_
      obtain ⟨d,hd2⟩:∃ d,(-p.2).toNat=j+d:=⟨(-p.2).toNat-j,by omega⟩
      rw [hd2,← List.replicate_append_replicate,← List.append_assoc,← qsZ (A++List.replicate j (apT QB [p.1])) _ (by omega)])
   have:=k4 0 (Nat.zero_le _)
   rw [List.replicate_zero,List.append_nil] at this
   exact this)
 have k1:=qr (P := λ i=>Ev (λ m k=>(qk m k).1 l i ((zK (l.take i)).take 9)) ((zK l++zQ l).take 9)) l (by omega)
  (λ hc=>by
   refine Ev.loop ?_
   simp only [qhW,qbg]
   refine Ev.cf hc ?_
   rw [List.take_length]
   have:=k3 0 (Nat.zero_le _)
   rw [List.take_zero,show zQ []=[] from rfl,List.append_nil] at this
   exact this)
  (λ i p hx hd hc hg hi hP=>by
   refine Ev.loop ?_
   simp only [qhW,qbg]
   refine Ev.ct hc ?_
   have hnp:=hn p (List.mem_of_getElem? hx)
   rw [zS hx,qqf,qqN] at hP
   generalize zK (l.take i)=A at *
   have k2:=qmD (P := λ j=>Ev (λ m k=>(qk m k).2.1 l i j ((A++List.replicate j p.1).take 9)) ((zK l++zQ l).take 9)) p.2 (by omega)
    (by
     refine Ev.loop ?_
     simp only [qh2,qbm,qf]
     refine Ev.some hg (Ev.cf (by rw [qw];omega) ?_)
     rw [hi]
     exact hP)
    (λ j hj hji hPj=>by
     refine Ev.loop ?_
     simp only [qh2,qbm,qf]
     rw [List.replicate_succ',← List.append_assoc] at hPj
     have h9:=l9 (A++List.replicate j p.1)
     refine Ev.some hg (Ev.ct (by rw [qs];exact hj) (Ev.ite (λ h=>?_) λ h=>?_))
     ·rw [qs] at h
      refine Ev.some hg (Ev.ct (qY (by omega) (by omega)) ?_)
      rw [hji]
      refine hPj.congr λ m k=>?_
      rw [← qsN _ _ (by omega)]
     ·rw [qw] at h
      rw [hi]
      refine hP.congr λ m k=>?_
      obtain ⟨d,hd2⟩:∃ d,p.2.toNat=j+d:=⟨p.2.toNat-j,by omega⟩
      rw [hd2,← List.replicate_append_replicate,← List.append_assoc,← qsZ (A++List.replicate j p.1) _ (by omega)])
   have:=k2 0 (Nat.zero_le _)
   rw [List.replicate_zero,List.append_nil] at this
   exact this)
 refine Ev.diag (L := λ m k=>(qk m k).1 l 0 []) ?_
 exact k1 0 (Nat.zero_le _)
theorem qHB (S:Nat):∀ l:List Pw,(∀ p∈l,size p.1≤S)→(∀ x∈zK l,size x≤S)∧∀ x∈zQ l,size x≤1+S:=by
 intro l h
 refine ⟨λ x hx=>?_,λ x hx=>?_⟩
 ·unfold zK at hx
  obtain ⟨p,hp,hx⟩:=List.mem_flatMap.1 hx
  rw [List.eq_of_mem_replicate hx];exact h p hp
 ·unfold zQ at hx
  obtain ⟨p,hp,hx⟩:=List.mem_flatMap.1 hx
  rw [List.eq_of_mem_replicate hx,qyv]
  have:=h p hp;omega
theorem qEj (S:Nat):∀ l:List T,(∀ x∈l,size x≤S)→szL l≤l.length*S
 | [],_=>by simp [szL]
 | x::l,h=>by
   have h1:=qEj S l λ q hq=>h q (List.mem_cons_of_mem _ hq)
   have h2:=h x (List.mem_cons_self ..)
   rw [qJ,List.length_cons,Nat.add_mul];omega
theorem qzs (l:List Pw) (hs:szP l≤1000000000):Ev (λ m _=>qaG m l) (qal l):=by
 refine Ev.succ ?_
 simp only [qxv,qhC,qf]
 refine Ev.bind (qqu l hs) (Ev.ite (λ h=>?_) λ h=>?_)
 ·rw [bnt,qh] at h
  unfold qal
  rw [if_pos h];exact Ev.pure _
 rw [bnf,qj] at h
 obtain ⟨_,hlen,hN,hV⟩:=qaD h
 have hsz:∀ p∈l,size p.1≤400 := λ p hp=>jQ (hV p hp).1
 rw [qnS h]
 obtain ⟨s1,s2⟩:=qHB 400 l hsz
 have hall:∀ x∈zK l++zQ l,size x≤401 := λ x hx=>by
  rcases List.mem_append.1 hx with hx | hx
  ·have:=s1 x hx;omega
  ·exact s2 x hx
 refine Ev.bind (qE3 l (by omega) hN) ?_
 generalize zK l++zQ l=A at *
 unfold qkL
 refine Ev.ite (λ h8=>?_) λ h8=>?_
 ·rw [qs,List.length_take] at h8
  rw [if_pos (by omega)];exact Ev.pure _
 rw [qw,List.length_take] at h8
 rw [if_neg (by omega),List.take_of_length_le (by omega)]
 have ho:=qEj 401 A hall
 have hoz:=qBz A
 have hm:A.length*401≤8*401:=Nat.mul_le_mul_right _ (by omega)
 have fin:∀ u:T,u=Jj A→Ev (λ m _=>qa (zJ m u) λ v=>cond (qb (ieq v 0)) (some (T.mk 0 [] 0 [],v)) (some (u,0))) (if qR (Jj A)≠0 then (zT,qR (Jj A)) else (Jj A,0)):=by
  intro u hu
  subst hu
  refine Ev.bind (qbK _ (by omega)) (Ev.ite (λ h=>?_) λ h=>?_)
  ·rw [bnt,qh] at h
   rw [if_pos h];exact Ev.pure _
  ·rw [bnf,qj] at h
   rw [if_neg (by omega)];exact Ev.pure _
 refine Ev.bind (qea [109,117,108] A (by omega)) (Ev.ite (λ h0=>?_) λ h0=>?_)
 ·rw [qj] at h0
  refine Ev.bind (qea [111,110,101] [] (by simp)) (Ev.cf (qh.2 (by omega)) (fin _ (by unfold Jj;rw [if_pos (by omega)];rfl)))
 ·rw [qh] at h0
  refine Ev.ite (λ h1=>?_) λ h1=>?_
  ·rw [qj] at h1
   refine Ev.some (a:=A.getD 0 zT) ?_ (fin _ (by unfold Jj;rw [if_neg (by omega),if_pos (by omega)]))
   rw [Jk,List.getD_eq_getElem?_getD]
   cases A with
   | nil=>simp at h1
   | cons x r=>rfl
  ·rw [qh] at h1
   exact fin _ (by unfold Jj;rw [if_neg (by omega),if_neg (by omega)];rfl)
theorem qD4 (l:List Pw) (hl:l.length≤1000000000):Ev (λ m _=>qcj m l) (if qkD l then 7 else if 200<l.length then 3 else 0):=by
 refine Ev.succ ?_
 simp only [qrG,qbQ]
 have key:=qr (P := λ i=>Ev (λ m k=>Qj m k l i) (if qkD (l.drop i) then (7:Int) else if 200<l.length then 3 else 0)) l (by omega)
  (λ hc=>by
   refine Ev.loop ?_
   simp only [qjf,qb6]
   rw [List.drop_length,if_neg (by decide)]
   refine Ev.cf hc (Ev.ite (λ h=>?_) λ h=>?_)
   ·rw [qs] at h
    rw [if_pos (by omega)];exact Ev.pure _
   ·rw [qw] at h
    rw [if_neg (by omega)];exact Ev.pure _)
  (λ i p hx hd hc hg hi hP=>by
   refine Ev.loop ?_
   simp only [qjf,qb6]
   rw [hd,qvc]
   refine Ev.ct hc (Ev.some hg (Ev.ite (λ h=>?_) λ h=>?_))
   ·rw [qs] at h
    rw [decide_eq_true h,Bool.true_or,Bool.true_or,if_pos rfl];exact Ev.pure _
   ·rw [qw] at h
    rw [decide_eq_false (show ¬ p.2 < -1000 by omega),Bool.false_or]
    refine Ev.some hg (Ev.ite (λ h2=>?_) λ h2=>?_)
    ·rw [qs] at h2
     rw [decide_eq_true h2,Bool.true_or,if_pos rfl];exact Ev.pure _
    ·rw [qw] at h2
     rw [decide_eq_false (show ¬ 1000<p.2 by omega),Bool.false_or,hi]
     exact hP)
 refine Ev.diag (L := λ m k=>Qj m k l 0) ?_
 exact (key 0 (Nat.zero_le _)).res (by rw [List.drop_zero])
theorem qHu (a b:List Pw) (ha:szP a≤100000000) (hb:szP b≤100000000):Ev (λ m _=>qht m a b) (qiT a b):=by
 have hl:=qbp b
 have hla:=qbp a
 refine Ev.succ ?_
 simp only [qAk,qfL]
 rw [qse]
 refine Ev.bind (qqu a (by omega)) (Ev.ite (λ h=>?_) λ h=>?_)
 ·rw [bnt,qh] at h
  rw [if_pos h];exact Ev.pure _
 rw [bnf,qj] at h
 rw [if_neg (by omega)]
 refine Ev.bind (qqu b (by omega)) (Ev.ite (λ h2=>?_) λ h2=>?_)
 ·rw [bnt,qh] at h2
  rw [if_pos h2];exact Ev.pure _
 rw [bnf,qj] at h2
 rw [if_neg (by omega)]
 have key:=qr (P := λ i=>Ev (λ m k=>J0 m k b i (Qt a (b.take i))) (qmb (Qt a b))) b (by omega)
  (λ hc=>by
   refine Ev.loop ?_
   simp only [qoe,qgg]
   rw [List.take_length]
   obtain ⟨_,b2,_,_⟩:=qge h h2 b.length
   rw [List.take_length] at b2
   refine Ev.cf hc (Ev.bind (qD4 _ (by omega)) ?_)
   unfold qmb
   by_cases hf:qkD (Qt a b)=true
   ·rw [if_pos hf,if_pos hf]
    exact Ev.ct rfl (Ev.pure _)
   ·rw [if_neg hf,if_neg hf]
    by_cases h200:200<(Qt a b).length
    ·rw [if_pos h200,if_pos h200]
     exact Ev.ct rfl (Ev.pure _)
    ·rw [if_neg h200,if_neg h200]
     exact Ev.cf rfl (Ev.pure _))
  (λ i p hx hd hc hg hi hP=>by
   refine Ev.loop ?_
   simp only [qoe,qgg,qf]
   have hm:=List.mem_of_getElem? hx
   obtain ⟨b1,b2,b3,b4⟩:=qge h h2 i
   obtain ⟨_,_,hn,hv⟩:=qaD h2
   have hz:=jQ (hv p hm).1
   have hnp:=hn p hm
   refine Ev.ct hc (Ev.some hg (Ev.some hg (Ev.bind (qAu b1 p.1 p.2 (by omega) (by omega)) ?_)))
   rw [hi]
   refine hP.congr λ m k=>?_
   rw [zS hx,qvA])
 refine Ev.ct (qY (by simp only [List.length_nil];omega) (by omega)) ?_
 have main:Ev (λ m _=>J0 m m b 0 a) (qmb (Qt a b)):=Ev.diag (L := λ m k=>J0 m k b 0 a) (key 0 (Nat.zero_le _))
 exact Ev.case (λ h=>by rw [h] at main ⊢;exact main) λ x r h=>by rw [h] at main ⊢;exact main
end Go.AmYtbpnmbmdbblehaaGreat
namespace Go.AmYtbpnmbmdbblehaaGreat
open Go Go.GxYtbpnmbmdbblehaaGreat Go.Lib
theorem qvC {t:T} (h:qkJ t=0):qR t=0∧zf t=0:=by
 unfold qkJ at h
 exact qe0 h
theorem qmE {t:T} (h:zf t=0) {n:List UInt8} (hn:isN t n=true) {a b c:Int} (hs:qE n=(a,b,c)):a≤(t.kids.length:Int)∧(t.kids.length:Int)≤b∧∀ k∈t.kids,zf k=0:=by
 obtain ⟨h3,rfl⟩:=yv.1 hn
 obtain ⟨h1,h2⟩:=qfs h3 h
 obtain ⟨_,g1,g2,_⟩:=qx6 h3 h1
 rw [hs] at g1 g2
 exact ⟨g1,g2,h2⟩
end Go.AmYtbpnmbmdbblehaaGreat
namespace Go.AmYtbpnmbmdbblehaaGreat
open Go Go.GxYtbpnmbmdbblehaaGreat
def Cl (P:T→Prop):Prop:=∀ t:T,t.kind=3→P t→∀ k∈t.kids,P k
theorem qj3:∀ (n:Nat) (a b:List T),a.length+b.length≤n→∀ x∈zg a b,x∈a∨x∈b
 | _,[],b,_,x,h=>by rw [zg] at h;exact .inr h
 | _,z::a,[],_,x,h=>by rw [zg] at h;exact .inl h
 | 0,z::a,y::b,hn,x,h=>by simp at hn
 | n+1,z::a,y::b,hn,x,h=>by
   simp only [List.length_cons] at hn
   rw [zg] at h
   split at h
   ·rcases List.mem_cons.1 h with rfl | h
    ·exact .inl (List.mem_cons_self ..)
    ·rcases qj3 n a (y::b) (by simp;omega) x h with h | h
     ·exact .inl (List.mem_cons_of_mem _ h)
     ·exact .inr h
   ·split at h
    ·rcases List.mem_cons.1 h with rfl | h
     ·exact .inr (List.mem_cons_self ..)
     ·rcases qj3 n (z::a) b (by simp;omega) x h with h | h
      ·exact .inl h
      ·exact .inr (List.mem_cons_of_mem _ h)
    ·rcases qj3 n a b (by omega) x h with h | h
     ·exact .inl (List.mem_cons_of_mem _ h)
     ·exact .inr (List.mem_cons_of_mem _ h)
theorem qjo:∀ (ls:List (List T)) (a:List T),∀ x∈ls.foldl zg a,x∈a∨∃ l∈ls,x∈l
 | [],a,x,h => .inl h
 | l::ls,a,x,h=>by
   rcases qjo ls (zg a l) x h with h | ⟨m,hm,h⟩
   ·rcases qj3 _ a l (Nat.le_refl _) x h with h | h
    ·exact .inl h
    ·exact .inr ⟨l,List.mem_cons_self ..,h⟩
   ·exact .inr ⟨m,List.mem_cons_of_mem _ hm,h⟩
theorem qEX {P:T→Prop} (hP:Cl P) (t:T):P t→∀ x∈ju t,P x:=by
 refine T.ind (P := λ t=>P t→∀ x∈ju t,P x) ?_ t
 intro t ih ht x hx
 rw [qiZ] at hx
 split at hx
 ·cases hx
 ·split at hx
  ·rename_i hn
   rcases qjo _ _ x hx with h | ⟨l,hl,h⟩
   ·cases h
   ·obtain ⟨k,hk,rfl⟩:=List.mem_map.1 hl
    exact ih k hk (hP t (yv.1 hn).1 ht k hk) x h
  ·rw [List.mem_singleton.1 hx];exact ht
theorem qvy {P:T→Prop} (hP:Cl P) {l:List T} (h:∀ k∈l,P k):∀ x∈zF l,P x:=by
 intro x hx
 rcases qjo _ _ x hx with h1 | ⟨m,hm,h1⟩
 ·cases h1
 ·obtain ⟨k,hk,rfl⟩:=List.mem_map.1 hm
  exact qEX hP k (h k hk) x h1
theorem qId {P:T→Prop} {l:List Pw} {t:T} (n:Int) (ht:P t) (hl:∀ p∈l,P p.1):∀ p∈yk l t n,P p.1:=by
 intro p hp
 rcases qlU l t n p hp with h | h
 ·rw [h];exact ht
 ·exact hl p h
theorem qHz {P:T→Prop} (hP:Cl P) (t:T):P t→∀ (l:List Pw) (n:Int),(∀ p∈l,P p.1)→∀ p∈yT t l n,P p.1:=by
 refine T.ind (P := λ t=>P t→∀ (l:List Pw) (n:Int),(∀ p∈l,P p.1)→∀ p∈yT t l n,P p.1) ?_ t
 intro t ih ht l n hl
 rw [qfl]
 split
 ·rename_i hs
  have h3:=(qoZ.1 hs).1
  exact qAW t.kids (J7 t n) (λ l=>∀ p∈l,P p.1) (λ k hk l hl=>ih k hk (hP t h3 ht k hk) l _ hl) l hl
 ·exact qId n ht hl
theorem qha {P:T→Prop} (hP:Cl P) {t:T} (ht:P t):∀ p∈(ofP t).1,P p.1:=by
 intro p hp
 unfold ofP at hp
 split at hp
 ·cases hp
 ·split at hp
  ·cases hp
  ·split at hp
   ·cases hp
   ·exact qHz hP t ht [] 1 (λ _ h=>by cases h) p hp
theorem qAT {P:T→Prop} {a b:List Pw} (ha:∀ p∈a,P p.1) (hb:∀ p∈b,P p.1):∀ p∈(qiT a b).1,P p.1:=by
 intro p hp
 unfold qiT at hp
 split at hp
 ·cases hp
 ·split at hp
  ·cases hp
  ·split at hp
   ·cases hp
   ·split at hp
    ·cases hp
    ·rcases qqr b a p hp with ⟨q,hq,e⟩ | ⟨q,hq,e⟩
     ·rw [← e];exact ha q hq
     ·rw [← e];exact hb q hq
theorem qzk {l:List Pw} {x:T} (h:x∈zK l):∃ p∈l,x=p.1:=by
 unfold zK at h
 obtain ⟨p,hp,h⟩:=List.mem_flatMap.1 h
 exact ⟨p,hp,List.eq_of_mem_replicate h⟩
theorem qzG {l:List Pw} {x:T} (h:x∈zQ l):∃ p∈l,x=apT QB [p.1]:=by
 unfold zQ at h
 obtain ⟨p,hp,h⟩:=List.mem_flatMap.1 h
 exact ⟨p,hp,List.eq_of_mem_replicate h⟩
theorem Jm:Cl λ t=>zf t=0 := λ t h3 h=>(qfs h3 h).2
theorem qn7:∀ (l:List Int),(∀ y∈l,y=0)→l.foldl thn 0=0
 | [],_=>rfl
 | z::l,h=>by
   rw [jR,h z (List.mem_cons_self ..)]
   exact qn7 l λ y hy=>h y (List.mem_cons_of_mem _ hy)
theorem qhn {t:T} (h:qbC t=0) (hk:∀ k∈t.kids,zf k=0):zf t=0:=by
 rw [qll]
 split
 ·rfl
 ·rw [h]
  refine qn7 _ λ y hy=>?_
  obtain ⟨k,hk',rfl⟩:=List.mem_map.1 hy
  exact hk k hk'
theorem qe5 {n:List UInt8} {ks:List T} (h1:(qE n).2.2≠0) (h2:(qE n).1≤(ks.length:Int)) (h3:(ks.length:Int)≤(qE n).2.1) (h4:JO (apT n ks)=false):qbC (apT n ks)=0:=by
 unfold qbC
 show (if (3:Int)≠3 then (0:Int) else if (qE n).2.2=0 then 10 else if (ks.length:Int)<(qE n).1∨(qE n).2.1<(ks.length:Int) then 6 else if JO (apT n ks) then 10 else 0)=0
 rw [if_neg (by decide),if_neg h1,if_neg (by omega),h4];rfl
theorem qiB {n:List UInt8} (h1:n≠qgV) (h2:n≠nSk) (h3:n≠qp6) (ks:List T):JO (apT n ks)=false:=by
 unfold JO
 rw [if_neg (show ¬ (apT n ks).name=qgV from h1),if_neg (show ¬ ((apT n ks).name=nSk∨(apT n ks).name=qp6) from λ h=>h.elim h2 h3)]
theorem qaP:zf zT=0:=by rw [qll];rfl
theorem qag {P:T→Prop} (hP:Cl P) (hz:P zT) {t:T} (h3:t.kind=3) (ht:P t) (i:Nat):P (kid t i):=by
 by_cases h:i<t.kids.length
 ·exact hP t h3 ht _ (qBr h)
 ·unfold kid
  rw [List.getD_eq_getElem?_getD,List.getElem?_eq_none (by omega)];exact hz
theorem qpa {P:T→Prop} (hz:P zT) {l:List T} (h:∀ x∈l,P x):P (l.getD 0 zT):=by
 cases l with
 | nil=>exact hz
 | cons x r=>exact h x (List.mem_cons_self ..)
theorem qEm {t:T} (h3:t.kind=3) (h:qR t=0):t.kids.length≤8:=by
 unfold qR at h
 split at h
 ·rename_i h1;exact absurd h h1
 ·rename_i h1
  have h2:=(qpS (t:=t) (by omega)).1
  unfold Qu qmF at h2
  rw [if_neg (by omega),if_pos h3] at h2
  split at h2
  ·cases h2
  ·split at h2
   ·split at h2
    ·cases h2
    ·omega
   ·cases h2
theorem qvz {l:List Pw} (hl:∀ p∈l,zf p.1=0) (h:(qal l).2=0):zf (qal l).1=0:=by
 by_cases hp:QI l=0
 ·rw [qnS hp] at h ⊢
  unfold qkL at h ⊢
  by_cases h8:8<(zK l++zQ l).length
  ·rw [if_pos h8] at h;cases h
  rw [if_neg h8] at h ⊢
  by_cases hv:qR (Jj (zK l++zQ l))=0
  ·rw [if_neg (by omega)]
   have hall:∀ x∈zK l++zQ l,zf x=0 := λ x hx=>by
    rcases List.mem_append.1 hx with hx | hx
    ·obtain ⟨p,hp,rfl⟩:=qzk hx
     exact hl p hp
    ·obtain ⟨p,hp,rfl⟩:=qzG hx
     exact qhn (qe5 (by decide) (by show (1:Int)≤1;decide) (by show (1:Int)≤1;decide) (qiB (by decide) (by decide) (by decide) _)) λ k hk=>by rw [List.mem_singleton.1 hk];exact hl p hp
   generalize zK l++zQ l=o at *
   unfold Jj
   split
   ·exact qhn (qe5 (by decide) (by show (0:Int)≤0;decide) (by show (0:Int)≤0;decide) (qiB (by decide) (by decide) (by decide) _)) λ k hk=>by cases hk
   ·split
    ·exact qpa (P := λ t=>zf t=0) qaP hall
    ·rename_i h0 h1
     exact qhn (qe5 (by decide) (by show (2:Int)≤_;omega) (by show _≤(8:Int);omega) (qiB (by decide) (by decide) (by decide) _)) hall
  ·rw [if_pos hv] at h;exact absurd h hv
 ·unfold qal at h
  rw [if_pos hp] at h
  exact absurd h hp
theorem qxm {b:T} {l:List Pw} (hb:zf b=0) (hl:∀ p∈l,zf p.1=0) (h:(qgB b l).2=0):zf (qgB b l).1=0:=by
 unfold qgB at h ⊢
 split at h
 ·rename_i h0;rw [if_pos h0];exact hb
 ·rename_i h0
  rw [if_neg h0]
  split at h
  ·rename_i h1;exact absurd h h1
  ·rename_i h1
   rw [if_neg h1]
   refine qhn (qe5 (by decide) (by show (2:Int)≤2;decide) (by show (2:Int)≤2;decide) (qiB (by decide) (by decide) (by decide) _)) λ k hk=>?_
   rcases List.mem_cons.1 hk with rfl | hk
   ·exact hb
   ·rw [List.mem_singleton.1 hk];exact qvz hl (by omega)
theorem qFA {n:List UInt8} {ks:List T} (hks:∀ k∈ks,zf k=0) (hK:qbC (apT n ks)=0) (h0:(Jl (apT n ks)).2=0):zf (Jl (apT n ks)).1=0:=by
 have ht:zf (apT n ks)=0:=qhn hK hks
 unfold Jl at h0 ⊢
 by_cases hd:isD (apT n ks).name=true
 ·rw [if_pos hd]
  show zf (qhz _)=0
  unfold qhz
  split
  ·rename_i hf
   have hk0:(kid (apT n ks) 0).kind=3:=by
    unfold zO at hf
    split at hf
    ·exact (yv.1 hf).1
    ·split at hf
     ·rw [Bool.and_eq_true] at hf;exact (yv.1 hf.1).1
     ·split at hf
      ·rw [Bool.and_eq_true,Bool.and_eq_true] at hf;exact (yv.1 hf.1.1).1
      ·split at hf
       ·rw [Bool.and_eq_true,Bool.and_eq_true] at hf;exact (yv.1 hf.1.1).1
       ·split at hf
        ·exact (yv.1 hf).1
        ·cases hf
   exact qag Jm qaP hk0 (qag Jm qaP rfl ht 0) _
  ·exact ht
 rw [if_neg hd] at h0 ⊢
 by_cases hx:(apT n ks).name=qej
 ·rw [if_pos hx] at h0 ⊢
  unfold ql3 at h0 ⊢
  split at h0
  ·rename_i h1;exact absurd h0 h1
  rename_i h1
  rw [if_neg h1]
  split at h0
  ·cases h0
  rename_i h2
  rw [if_neg h2]
  show zf (JD (zF ks))=0
  have hv:qR (JD (zF ks))=0:=by
   have:¬ qR (JD (zF (apT n ks).kids))≠0:=h2
   exact Decidable.of_not_not this
  have hall:=qvy Jm hks
  generalize zF ks=o at *
  unfold JD at hv ⊢
  split
  ·exact qhn (qe5 (by decide) (by show (0:Int)≤0;decide) (by show (0:Int)≤0;decide) (qiB (by decide) (by decide) (by decide) _)) λ k hk=>by cases hk
  ·rename_i g0
   split
   ·exact qpa (P := λ t=>zf t=0) qaP hall
   ·rename_i g1
    rw [if_neg g0,if_neg g1] at hv
    have hl8:o.length≤8:=qEm (t:=apT qej o) rfl hv
    exact qhn (qe5 (by decide) (by show (2:Int)≤_;omega) (by show _≤(8:Int);omega) (qiB (by decide) (by decide) (by decide) _)) hall
 rw [if_neg hx] at h0 ⊢
 by_cases hm:(apT n ks).name=qf7∨(apT n ks).name=QB∨(apT n ks).name=qhG
 ·rw [if_pos hm] at h0 ⊢
  unfold qj5 at h0 ⊢
  split at h0
  ·rename_i h1;exact absurd h0 h1
  rename_i h1
  rw [if_neg h1]
  exact qvz (qha Jm ht) h0
 rw [if_neg hm] at h0 ⊢
 by_cases he:(apT n ks).name=qei
 ·rw [if_pos he] at h0 ⊢
  have hb:=qag Jm qaP (t:=apT n ks) rfl ht 0
  have hy:=qag Jm qaP (t:=apT n ks) rfl ht 1
  generalize kid (apT n ks) 0=b at *
  generalize kid (apT n ks) 1=y at *
  unfold qmc at h0 ⊢
  split at h0
  ·rename_i h1;exact absurd h0 h1
  rename_i h1
  rw [if_neg h1]
  split at h0
  ·rename_i hbe
   rw [if_pos hbe]
   split at h0
   ·rename_i h2;exact absurd h0 h2
   rename_i h2
   rw [if_neg h2]
   split at h0
   ·rename_i h3;exact absurd h0 h3
   rename_i h3
   rw [if_neg h3]
   have hb3:=(yv.1 hbe).1
   exact qxm (qag Jm qaP hb3 hb 0) (qAT (P := λ t=>zf t=0) (qha Jm (qag Jm qaP hb3 hb 1)) (qha Jm hy)) h0
  ·rename_i hbe
   rw [if_neg hbe]
   exact qxm hb (qha Jm hy) h0
 ·rw [if_neg he];exact ht
theorem qiJ:size zT=1:=by rw [qS];rfl
theorem qah (t:T) (i:Nat):size (kid t i)≤size t:=by
 have:=size_pos t
 by_cases h:i<t.kids.length
 ·have:=jl t _ (qBr h);omega
 ·unfold kid
  rw [List.getD_eq_getElem?_getD,List.getElem?_eq_none (by omega)]
  show size zT≤_
  rw [qiJ];omega
theorem qzx (l:List Pw):size (qal l).1≤400:=by
 unfold qal
 have:=qiJ
 split
 ·show size zT≤_;omega
 ·split
  ·show size zT≤_;omega
  ·split
   ·show size zT≤_;omega
   ·rename_i h
    exact jQ (Decidable.of_not_not h)
theorem qBy (b:T) (l:List Pw):size (qgB b l).1≤401+size b:=by
 unfold qgB
 have:=qiJ
 have:=qzx l
 split
 ·show size b≤_;omega
 ·split
  ·show size zT≤_;omega
  ·rw [qS];show 1+(size b+(size (qal l).1+0))≤_;omega
theorem qHx (n:List UInt8) (ks:List T):size (Jl (apT n ks)).1≤402+szL ks:=by
 have hz:=qiJ
 have ht:size (apT n ks)=1+szL ks:=qS _
 unfold Jl
 split
 ·show size (qhz _)≤_
  unfold qhz
  split
  ·have h1:=qah (apT n ks) 0
   have h2:=qah (kid (apT n ks) 0) (if (apT n ks).name=qug then 1 else 0)
   omega
  ·omega
 ·split
  ·unfold ql3
   split
   ·show size zT≤_;omega
   ·split
    ·show size zT≤_;omega
    ·have h1:=qAM (zF (apT n ks).kids)
     have h2:=qdv (apT n ks).kids
     have h3:szL (apT n ks).kids=szL ks:=rfl
     show size (JD _)≤_
     omega
  ·split
   ·unfold qj5
    split
    ·show size zT≤_;omega
    ·have:=qzx (ofP (apT n ks)).1;omega
   ·split
    ·have h0:=qah (apT n ks) 0
     generalize kid (apT n ks) 0=b at *
     generalize kid (apT n ks) 1=y at *
     unfold qmc
     split
     ·show size zT≤_;omega
     ·split
      ·split
       ·show size zT≤_;omega
       ·split
        ·show size zT≤_;omega
        ·have h1:=qBy (kid b 0) (qiT (ofP (kid b 1)).1 (ofP y).1).1
         have h2:=qah b 0
         omega
      ·have h1:=qBy b (ofP y).1
       omega
    ·show size (apT n ks)≤_;omega
theorem quq (t:T):size (zw t).1≤402*size t:=by
 refine T.ind (P := λ t=>size (zw t).1≤402*size t) ?_ t
 intro t ih
 have hz:=qiJ
 have hp:=size_pos t
 rw [qk0]
 split
 ·show size t≤_;omega
 ·split
  ·show size zT≤_;omega
  ·have h1:=qHx t.name ((t.kids.map zw).map (·.1))
   have h2:szL ((t.kids.map zw).map (·.1))≤402*szL t.kids:=by
    have:∀ l:List T,(∀ k∈l,k∈t.kids)→szL ((l.map zw).map (·.1))≤402*szL l:=by
     intro l
     induction l with
     | nil=>intro _;exact Nat.le_refl _
     | cons k l ihl =>
       intro h
       have h1:=ih k (h k (List.mem_cons_self ..))
       have h2:=ihl λ x hx=>h x (List.mem_cons_of_mem _ hx)
       rw [List.map_cons,List.map_cons,qJ,qJ];omega
    exact this t.kids λ _ h=>h
   have h3:size t=1+szL t.kids:=qS t
   omega
theorem qpQ:∀ (l:List Int),l.foldl thn 0=0→∀ y∈l,y=0
 | [],_,y,hy=>by cases hy
 | z::l,h,y,hy=>by
   rw [jR] at h
   by_cases hz:z=0
   ·subst hz
    rcases List.mem_cons.1 hy with rfl | hy
    ·rfl
    ·exact qpQ l h y hy
   ·rw [qH _ hz] at h;exact absurd h hz
theorem qhj {t:T} (h:t.kind≠3):zw t=(t,0):=by rw [qk0,if_pos h]
theorem qEV {t:T} (h3:t.kind=3) (h:(zw t).2=0):(∀ k∈t.kids,(zw k).2=0)∧zw t=Jl (apT t.name ((t.kids.map zw).map (·.1))):=by
 rw [qk0,if_neg (λ hh=>hh h3)] at h ⊢
 split at h
 ·rename_i h1;exact absurd h h1
 ·rename_i h1
  rw [if_neg h1]
  refine ⟨λ k hk=>?_,rfl⟩
  exact qpQ _ (Decidable.of_not_not h1) _ (List.mem_map.2 ⟨_,List.mem_map.2 ⟨k,hk,rfl⟩,rfl⟩)
theorem qFK (l:List T) (h:∀ k∈l,k.kind≠3):(l.map zw).map (·.1)=l:=by
 induction l with
 | nil=>rfl
 | cons k l ih =>
   rw [List.map_cons,List.map_cons,qhj (h k (List.mem_cons_self ..)),ih λ x hx=>h x (List.mem_cons_of_mem _ hx)]
theorem qzA {t:T} (h3:t.kind=3) (h:qbC t=0):qbC (apT t.name ((t.kids.map zw).map (·.1)))=0:=by
 obtain ⟨h1,h2,h4,h5⟩:=qx6 h3 h
 refine qe5 h1 (by simpa using h2) (by simpa using h4) ?_
 unfold JO at h5 ⊢
 show (if t.name=qgV then decide ((kid (apT t.name ((t.kids.map zw).map (·.1))) 0).kind≠2) else if t.name=nSk∨t.name=qp6 then ((t.kids.map zw).map (·.1)).any λ k=>decide (k.kind=3)||decide (k.sort≠1) else false)=false
 split
 ·rename_i hn
  rw [if_pos hn] at h5
  have hk:(kid t 0).kind=2:=by simpa using h5
  cases hl:t.kids with
  | nil =>
    unfold kid at hk
    rw [hl] at hk
    exact absurd hk (by decide)
  | cons x r =>
    have hx:kid t 0=x:=by unfold kid;rw [hl];rfl
    rw [hx] at hk
    show decide ((zw x).1.kind≠2)=false
    rw [qhj (by omega)]
    simpa using hk
 ·rename_i hn
  rw [if_neg hn] at h5
  split
  ·rename_i hs
   rw [if_pos hs] at h5
   rw [qFK t.kids λ k hk hk3=>?_]
   ·exact h5
   ·have:=List.any_eq_false.1 h5 k hk
    rw [hk3] at this
    exact this rfl
  ·rfl
theorem qE5 (t:T):zf t=0→(zw t).2=0→zf (zw t).1=0:=by
 refine T.ind (P := λ t=>zf t=0→(zw t).2=0→zf (zw t).1=0) ?_ t
 intro t ih hc h0
 by_cases h3:t.kind=3
 ·obtain ⟨h1,h2⟩:=qEV h3 h0
  obtain ⟨g1,g2⟩:=qfs h3 hc
  rw [h2] at h0 ⊢
  refine qFA (λ k hk=>?_) (qzA h3 g1) h0
  obtain ⟨q,hq,rfl⟩:=List.mem_map.1 hk
  obtain ⟨j,hj,rfl⟩:=List.mem_map.1 hq
  exact ih j hj (g2 j hj) (h1 j hj)
 ·rw [qhj h3];exact hc
end Go.AmYtbpnmbmdbblehaaGreat
namespace Go.AmYtbpnmbmdbblehaaGreat
open Go Go.GxYtbpnmbmdbblehaaGreat
theorem zk (t:T) {b:Bool} (h:zO t=b):qhz t=if b then kid (kid t 0) (if t.name=qug then 1 else 0) else t:=by unfold qhz;rw [h]
theorem qbq {t:T} (h:zf t=0) {n:List UInt8} (hn:isN t n=true) {a b c:Int} (hs:qE n=(a,b,c)) {i:Nat} (hi:(i:Int)<a):qd t.kids (i:Int)=some (kid t i):=by
 have:=(qmE h hn hs).1
 exact qtv (by omega)
theorem qCs (t:T) (h3:t.kind=3) (hc:zf t=0) (hD:isD t.name=true) (hs:size t≤1000000000):Ev (λ m _=>J1 m t) (qhz t):=by
 have hz:∀ i,size (kid t i)≤size t:=qah t
 have hzz:∀ i j,size (kid (kid t i) j)≤1000000000 := λ i j=>by have:=qah (kid t i) j;have:=hz i;omega
 have hzzz:∀ i j k,size (kid (kid (kid t i) j) k)≤1000000000 := λ i j k=>by have:=qah (kid (kid t i) j) k;have:=hzz i j;omega
 have hck:∀ i,zf (kid t i)=0 := λ i=>qag Jm qaP h3 hc i
 have hckk:∀ i j,(kid t i).kind=3→zf (kid (kid t i) j)=0 := λ i j h=>qag Jm qaP h (hck i) j
 have isT:isN t t.name=true:=yv.2 ⟨h3,rfl⟩
 have k0:∀ {u:T} {n:List UInt8},zf u=0→isN u n=true→∀ {b c:Int},qE n=(1,b,c)→qd u.kids 0=some (kid u 0) := λ h hn _ _ e=>qbq (i:=0) h hn e (by decide)
 have k20:∀ {u:T} {n:List UInt8},zf u=0→isN u n=true→∀ {b c:Int},qE n=(2,b,c)→qd u.kids 0=some (kid u 0) := λ h hn _ _ e=>qbq (i:=0) h hn e (by decide)
 have k21:∀ {u:T} {n:List UInt8},zf u=0→isN u n=true→∀ {b c:Int},qE n=(2,b,c)→qd u.kids 1=some (kid u 1) := λ h hn _ _ e=>qbq (i:=1) h hn e (by decide)
 have sP:qE qlQ=(2,2,1):=by decide
 have sE:qE ql5=(2,2,1):=by decide
 have sA:qE qgW=(2,2,1):=by decide
 have sK:qE nPk=(1,1,1):=by decide
 have sS:qE qdA=(2,2,1):=by decide
 unfold isD at hD
 simp only [Bool.or_eq_true,beq_iff_eq] at hD
 refine Ev.succ ?_
 simp only [qp7,qee,qf]
 have one:∀ {a b c:Int},qE t.name=(a,b,c)→a=b→(t.kids.length:Int)=a := λ e hab=>by
  have:=qmE hc isT e;omega
 rcases hD with ((((hn | hn) | hn) | hn) | hn) | hn
 ·have hl:=one (a:=1) (b:=1) (c:=3) (by rw [hn];decide) rfl
  refine Ev.some (qcX (by omega)) (Ev.cf (qw.2 (by omega)) (Ev.ct (by rw [hn];rfl) (Ev.bind (qij _ _) ?_)))
  have hf:zO t=isN (kid t 0) qlQ:=by unfold zO;rw [if_pos (.inl hn)]
  refine Ev.ite (λ h=>?_) λ h=>?_
  ·refine Ev.some (k20 (hck 0) h sP) (Ev.ret ?_)
   rw [zk t (hf.trans h),if_pos rfl,if_neg (by rw [hn];decide)]
  ·refine Ev.ret ?_
   rw [zk t (hf.trans h),if_neg (by decide)]
 ·have hl:=one (a:=1) (b:=1) (c:=3) (by rw [hn];decide) rfl
  refine Ev.some (qcX (by omega)) (Ev.cf (qw.2 (by omega)) (Ev.cf (by rw [hn];rfl) (Ev.ct (by rw [hn];rfl) (Ev.bind (qij _ _) ?_))))
  have hf:zO t=isN (kid t 0) qlQ:=by unfold zO;rw [if_pos (.inr hn)]
  refine Ev.ite (λ h=>?_) λ h=>?_
  ·refine Ev.some (k21 (hck 0) h sP) (Ev.ret ?_)
   rw [zk t (hf.trans h),if_pos rfl,if_pos hn]
  ·refine Ev.ret ?_
   rw [zk t (hf.trans h),if_neg (by decide)]
 ·have hl:=one (a:=2) (b:=2) (c:=3) (by rw [hn];decide) rfl
  refine Ev.some (qcX (by omega)) (Ev.ct (qs.2 (by omega)) (Ev.some (qpn (by omega)) (Ev.cf (by rw [hn];rfl) (Ev.cf (by rw [hn];rfl) (Ev.ct (by rw [hn];rfl) (Ev.bind (qij _ _) ?_))))))
  have hf:zO t=(isN (kid t 0) ql5&&yz (kid (kid t 0) 1) (kid t 1)):=by unfold zO;rw [if_neg (by rw [hn];decide),if_pos hn]
  refine Ev.ite (λ h=>?_) λ h=>?_
  ·refine Ev.some (k21 (hck 0) h sE) (Ev.bind (qlL _ _ (hzz 0 1) (by have:=hz 1;omega)) (Ev.ite (λ h2=>?_) λ h2=>?_))
   ·refine Ev.some (k20 (hck 0) h sE) (Ev.ret ?_)
    rw [zk t (b:=true) (by rw [hf,show isN (kid t 0) ql5=true from h,h2];rfl),if_pos rfl,if_neg (by rw [hn];decide)]
   ·refine Ev.ret ?_
    rw [zk t (b:=false) (by rw [hf,h2,Bool.and_false]),if_neg (by decide)]
  ·refine Ev.ret ?_
   rw [zk t (b:=false) (by rw [hf,show isN (kid t 0) ql5=false from h];rfl),if_neg (by decide)]
 ·have hl:=one (a:=2) (b:=2) (c:=3) (by rw [hn];decide) rfl
  refine Ev.some (qcX (by omega)) (Ev.ct (qs.2 (by omega)) (Ev.some (qpn (by omega)) (Ev.cf (by rw [hn];rfl) (Ev.cf (by rw [hn];rfl) (Ev.cf (by rw [hn];rfl) (Ev.ct (by rw [hn];rfl) (Ev.bind (qij _ _) ?_)))))))
  have hf:zO t=(isN (kid t 0) qgW&&isN (kid (kid t 0) 1) nPk&&yz (kid (kid (kid t 0) 1) 0) (kid t 1)):=by unfold zO;rw [if_neg (by rw [hn];decide),if_neg (by rw [hn];decide),if_pos hn]
  refine Ev.ite (λ h=>?_) λ h=>?_
  ·have hk3:=(yv.1 h).1
   refine Ev.some (k21 (hck 0) h sA) (Ev.bind (qij _ _) (Ev.ite (λ h2=>?_) λ h2=>?_))
   ·refine Ev.some (k21 (hck 0) h sA) (Ev.some (k0 (hckk 0 1 hk3) h2 sK) (Ev.bind (qlL _ _ (hzzz 0 1 0) (by have:=hz 1;omega)) (Ev.ite (λ h4=>?_) λ h4=>?_)))
    ·refine Ev.some (k20 (hck 0) h sA) (Ev.ret ?_)
     rw [zk t (b:=true) (by rw [hf,show isN (kid t 0) qgW=true from h,show isN (kid (kid t 0) 1) nPk=true from h2,h4];rfl),if_pos rfl,if_neg (by rw [hn];decide)]
    ·refine Ev.ret ?_
     rw [zk t (b:=false) (by rw [hf,h4,Bool.and_false]),if_neg (by decide)]
   ·refine Ev.ret ?_
    rw [zk t (b:=false) (by rw [hf,show isN (kid (kid t 0) 1) nPk=false from h2,Bool.and_false,Bool.false_and]),if_neg (by decide)]
  ·refine Ev.ret ?_
   rw [zk t (b:=false) (by rw [hf,show isN (kid t 0) qgW=false from h];rfl),if_neg (by decide)]
 ·have hl:=one (a:=2) (b:=2) (c:=3) (by rw [hn];decide) rfl
  refine Ev.some (qcX (by omega)) (Ev.ct (qs.2 (by omega)) (Ev.some (qpn (by omega)) (Ev.cf (by rw [hn];rfl) (Ev.cf (by rw [hn];rfl) (Ev.cf (by rw [hn];rfl) (Ev.cf (by rw [hn];rfl) (Ev.ct (by rw [hn];rfl) (Ev.bind (qij _ _) ?_))))))))
  have hf:zO t=(isN (kid t 0) qdA&&isN (kid t 1) nPk&&yz (kid (kid t 0) 1) (kid (kid t 1) 0)):=by unfold zO;rw [if_neg (by rw [hn];decide),if_neg (by rw [hn];decide),if_neg (by rw [hn];decide),if_pos hn]
  refine Ev.ite (λ h=>?_) λ h=>?_
  ·refine Ev.bind (qij _ _) (Ev.ite (λ h2=>?_) λ h2=>?_)
   ·refine Ev.some (k21 (hck 0) h sS) (Ev.some (k0 (hck 1) h2 sK) (Ev.bind (qlL _ _ (hzz 0 1) (hzz 1 0)) (Ev.ite (λ h4=>?_) λ h4=>?_)))
    ·refine Ev.some (k20 (hck 0) h sS) (Ev.ret ?_)
     rw [zk t (b:=true) (by rw [hf,show isN (kid t 0) qdA=true from h,show isN (kid t 1) nPk=true from h2,h4];rfl),if_pos rfl,if_neg (by rw [hn];decide)]
    ·refine Ev.ret ?_
     rw [zk t (b:=false) (by rw [hf,h4,Bool.and_false]),if_neg (by decide)]
   ·refine Ev.ret ?_
    rw [zk t (b:=false) (by rw [hf,show isN (kid t 1) nPk=false from h2,Bool.and_false,Bool.false_and]),if_neg (by decide)]
  ·refine Ev.ret ?_
   rw [zk t (b:=false) (by rw [hf,show isN (kid t 0) qdA=false from h];rfl),if_neg (by decide)]
 ·have hl:=one (a:=1) (b:=1) (c:=3) (by rw [hn];decide) rfl
  refine Ev.some (qcX (by omega)) (Ev.cf (qw.2 (by omega)) (Ev.cf (by rw [hn];rfl) (Ev.cf (by rw [hn];rfl) (Ev.cf (by rw [hn];rfl) (Ev.cf (by rw [hn];rfl) (Ev.cf (by rw [hn];rfl) (Ev.ct (by rw [hn];rfl) (Ev.bind (qij _ _) ?_))))))))
  have hf:zO t=isN (kid t 0) qdA:=by unfold zO;rw [if_neg (by rw [hn];decide),if_neg (by rw [hn];decide),if_neg (by rw [hn];decide),if_neg (by rw [hn];decide),if_pos hn]
  refine Ev.ite (λ h=>?_) λ h=>?_
  ·refine Ev.some (k20 (hck 0) h sS) (Ev.ret ?_)
   rw [zk t (hf.trans h),if_pos rfl,if_neg (by rw [hn];decide)]
  ·refine Ev.ret ?_
   rw [zk t (hf.trans h),if_neg (by decide)]
end Go.AmYtbpnmbmdbblehaaGreat
namespace Go.AmYtbpnmbmdbblehaaGreat
open Go Go.GxYtbpnmbmdbblehaaGreat
noncomputable def qer:T→Prop:=T.para λ t rs=>(t.kind=3→t.sort=0)∧∀ p∈rs,p
theorem qls (t:T):qer t↔(t.kind=3→t.sort=0)∧∀ k∈t.kids,qer k:=by
 have h:qer t=((t.kind=3→t.sort=0)∧∀ p∈t.kids.map qer,p):=T.para_eq _ _
 rw [h]
 refine and_congr_right λ _=>⟨λ h k hk=>h _ (List.mem_map_of_mem hk),λ h p hp=>?_⟩
 obtain ⟨k,hk,rfl⟩:=List.mem_map.1 hp
 exact h k hk
theorem qnL:Cl qer := λ t _ h=>((qls t).1 h).2
theorem qy5:qer zT:=(qls zT).2 ⟨λ h=>absurd h (by decide),λ _ h=>by cases h⟩
theorem qBx (n:List UInt8) (ks:List T) (h:∀ k∈ks,qer k):qer (apT n ks):=(qls _).2 ⟨λ _=>rfl,h⟩
theorem qB2 {t:T} (h3:t.kind=3) (h:Qu t=0):t.sort=0:=by
 unfold Qu qmF at h
 rw [if_neg (by omega),if_pos h3] at h
 split at h
 ·cases h
 ·omega
theorem qEr (t:T):JF t=0→qer t:=by
 refine T.ind (P := λ t=>JF t=0→qer t) ?_ t
 intro t ih h
 obtain ⟨h1,h2⟩:=qpS h
 exact (qls t).2 ⟨λ h3=>qB2 h3 h1,λ k hk=>ih k hk (h2 k hk)⟩
theorem qz5 {t:T} (h:qR t=0):JF t=0:=by
 unfold qR at h
 split at h
 ·rename_i h1;exact absurd h h1
 ·rename_i h1;exact Decidable.of_not_not h1
theorem qHY {P:T→Prop} (hP:Cl P) (hz:P zT) (hap:∀ n ks,(∀ k∈ks,P k)→P (apT n ks)) {n:List UInt8} {ks:List T} (hks:∀ k∈ks,P k):P (Jl (apT n ks)).1:=by
 have ht:=hap n ks hks
 have hkid:∀ {t:T} (i:Nat),P t→t.kind=3→P (kid t i) := λ i h h3=>qag hP hz h3 h i
 have hterm:∀ l:List Pw,(∀ p∈l,P p.1)→P (qal l).1:=by
  intro l hl
  unfold qal
  split
  ·exact hz
  ·split
   ·exact hz
   ·split
    ·exact hz
    ·have hall:∀ x∈zK l++zQ l,P x := λ x hx=>by
       rcases List.mem_append.1 hx with hx | hx
       ·obtain ⟨p,hp,rfl⟩:=qzk hx
        exact hl p hp
       ·obtain ⟨p,hp,rfl⟩:=qzG hx
        exact hap _ _ λ k hk=>by rw [List.mem_singleton.1 hk];exact hl p hp
     show P (Jj _)
     generalize zK l++zQ l=o at *
     unfold Jj
     split
     ·exact hap _ _ λ k hk=>by cases hk
     ·split
      ·exact qpa hz hall
      ·exact hap _ _ hall
 have hexp:∀ (b:T) (l:List Pw),P b→(∀ p∈l,P p.1)→P (qgB b l).1:=by
  intro b l hb hl
  unfold qgB
  split
  ·exact hb
  ·split
   ·exact hz
   ·refine hap _ _ λ k hk=>?_
    rcases List.mem_cons.1 hk with rfl | hk
    ·exact hb
    ·rw [List.mem_singleton.1 hk];exact hterm l hl
 unfold Jl
 split
 ·show P (qhz _)
  unfold qhz
  split
  ·rename_i hf
   have hk0:(kid (apT n ks) 0).kind=3:=by
    unfold zO at hf
    split at hf
    ·exact (yv.1 hf).1
    ·split at hf
     ·rw [Bool.and_eq_true] at hf;exact (yv.1 hf.1).1
     ·split at hf
      ·rw [Bool.and_eq_true,Bool.and_eq_true] at hf;exact (yv.1 hf.1.1).1
      ·split at hf
       ·rw [Bool.and_eq_true,Bool.and_eq_true] at hf;exact (yv.1 hf.1.1).1
       ·split at hf
        ·exact (yv.1 hf).1
        ·cases hf
   exact hkid _ (hkid 0 ht rfl) hk0
  ·exact ht
 ·split
  ·unfold ql3
   split
   ·exact hz
   ·split
    ·exact hz
    ·have hall:=qvy hP hks
     show P (JD (zF ks))
     generalize zF ks=o at *
     unfold JD
     split
     ·exact hap _ _ λ k hk=>by cases hk
     ·split
      ·exact qpa hz hall
      ·exact hap _ _ hall
  ·split
   ·unfold qj5
    split
    ·exact hz
    ·exact hterm _ (qha hP ht)
   ·split
    ·have hb:=hkid (t:=apT n ks) 0 ht rfl
     have hy:=hkid (t:=apT n ks) 1 ht rfl
     generalize kid (apT n ks) 0=b at *
     generalize kid (apT n ks) 1=y at *
     unfold qmc
     split
     ·exact hz
     ·split
      ·rename_i hbe
       have hb3:=(yv.1 hbe).1
       split
       ·exact hz
       ·split
        ·exact hz
        ·exact hexp _ _ (hkid 0 hb hb3) (qAT (qha hP (hkid 1 hb hb3)) (qha hP hy))
      ·exact hexp _ _ hb (qha hP hy)
    ·exact ht
theorem qH4 {P:T→Prop} (hP:Cl P) (hz:P zT) (hap:∀ n ks,(∀ k∈ks,P k)→P (apT n ks)) (t:T):P t→P (zw t).1:=by
 refine T.ind (P := λ t=>P t→P (zw t).1) ?_ t
 intro t ih h
 rw [qk0]
 split
 ·exact h
 ·rename_i h3
  split
  ·exact hz
  ·refine qHY hP hz hap λ k hk=>?_
   obtain ⟨q,hq,rfl⟩:=List.mem_map.1 hk
   obtain ⟨j,hj,rfl⟩:=List.mem_map.1 hq
   exact ih j hj (hP t (Decidable.of_not_not h3) h j hj)
theorem qAN {u x:T} (hc:zf u=0) (hs:qer u):yz u (apT nPk [x])=(isN u nPk&&yz (kid u 0) x):=by
 rw [Bool.eq_iff_iff,Bool.and_eq_true,qbM,qbM]
 constructor
 ·rintro rfl
  exact ⟨yv.2 ⟨rfl,rfl⟩,rfl⟩
 ·rintro ⟨h1,h2⟩
  obtain ⟨h3,hn⟩:=yv.1 h1
  have har:=qmE hc h1 (a:=1) (b:=1) (c:=1) (by decide)
  have hso:=((qls u).1 hs).1 h3
  cases u with
  | mk k n so ks =>
    have h3:k=3:=h3
    have hn:n=nPk:=hn
    have hso:so=0:=hso
    have hl:ks.length=1:=by
     have h1:(1:Int)≤(ks.length:Int):=har.1
     have h2:(ks.length:Int)≤1:=har.2.1
     omega
    cases ks with
    | nil=>cases hl
    | cons y r =>
      cases r with
      | nil =>
        have:y=x:=h2
        subst h3;subst hn;subst hso;subst this;rfl
      | cons z r=>simp at hl
theorem qr1 (a b:T):yz a b=yz b a:=by
 rw [Bool.eq_iff_iff,qbM,qbM];exact eq_comm
theorem qz1 (t:T) (h3:t.kind=3) (hc:zf t=0) (hso:qer t) (hD:isD t.name=true) (hs:size t≤900000000):Ev (λ m _=>qcm m t) (qhz t,zO t):=by
 have hz:∀ i,size (kid t i)≤size t:=qah t
 have hzz:∀ i j,size (kid (kid t i) j)≤900000000 := λ i j=>by have:=qah (kid t i) j;have:=hz i;omega
 have hck:∀ i,zf (kid t i)=0 := λ i=>qag Jm qaP h3 hc i
 have hckk:∀ i j,(kid t i).kind=3→zf (kid (kid t i) j)=0 := λ i j h=>qag Jm qaP h (hck i) j
 have hsk:∀ i,qer (kid t i) := λ i=>qag qnL qy5 h3 hso i
 have hskk:∀ i j,(kid t i).kind=3→qer (kid (kid t i) j) := λ i j h=>qag qnL qy5 h (hsk i) j
 have isT:isN t t.name=true:=yv.2 ⟨h3,rfl⟩
 have k20:∀ {u:T} {n:List UInt8},zf u=0→isN u n=true→∀ {b c:Int},qE n=(2,b,c)→qd u.kids 0=some (kid u 0) := λ h hn _ _ e=>qbq (i:=0) h hn e (by decide)
 have k21:∀ {u:T} {n:List UInt8},zf u=0→isN u n=true→∀ {b c:Int},qE n=(2,b,c)→qd u.kids 1=some (kid u 1) := λ h hn _ _ e=>qbq (i:=1) h hn e (by decide)
 have sP:qE qlQ=(2,2,1):=by decide
 have sE:qE ql5=(2,2,1):=by decide
 have sA:qE qgW=(2,2,1):=by decide
 have sS:qE qdA=(2,2,1):=by decide
 unfold isD at hD
 simp only [Bool.or_eq_true,beq_iff_eq] at hD
 refine Ev.succ ?_
 simp only [qr5,qe8,qf]
 have one:∀ {a b c:Int},qE t.name=(a,b,c)→a=b→(t.kids.length:Int)=a := λ e hab=>by
  have:=qmE hc isT e;omega
 have size_pk:∀ x:T,size (apT nPk [x])=1+size x := λ x=>by rw [qS];show 1+(size x+0)=_;omega
 rcases hD with ((((hn | hn) | hn) | hn) | hn) | hn
 ·have hl:=one (a:=1) (b:=1) (c:=3) (by rw [hn];decide) rfl
  refine Ev.some (qcX (by omega)) (Ev.ct (by rw [hn];rfl) (Ev.bind (qi0 _ _) ?_))
  have hf:zO t=isN (kid t 0) qlQ:=by unfold zO;rw [if_pos (.inl hn)]
  refine Ev.ite (λ h=>?_) λ h=>?_
  ·refine Ev.some (k20 (hck 0) h sP) (Ev.ret ?_)
   rw [zk t (hf.trans h),if_pos rfl,if_neg (by rw [hn];decide),hf.trans h]
  ·repeat (refine Ev.cf (by rw [hn];rfl) ?_)
   refine Ev.ret ?_
   rw [zk t (hf.trans h),if_neg (by decide),hf.trans h]
 ·have hl:=one (a:=1) (b:=1) (c:=3) (by rw [hn];decide) rfl
  refine Ev.some (qcX (by omega)) (Ev.cf (by rw [hn];rfl) (Ev.ct (by rw [hn];rfl) (Ev.bind (qi0 _ _) ?_)))
  have hf:zO t=isN (kid t 0) qlQ:=by unfold zO;rw [if_pos (.inr hn)]
  refine Ev.ite (λ h=>?_) λ h=>?_
  ·refine Ev.some (k21 (hck 0) h sP) (Ev.ret ?_)
   rw [zk t (hf.trans h),if_pos rfl,if_pos hn,hf.trans h]
  ·repeat (refine Ev.cf (by rw [hn];rfl) ?_)
   refine Ev.ret ?_
   rw [zk t (hf.trans h),if_neg (by decide),hf.trans h]
 ·have hl:=one (a:=2) (b:=2) (c:=3) (by rw [hn];decide) rfl
  refine Ev.some (qcX (by omega)) (Ev.cf (by rw [hn];rfl) (Ev.cf (by rw [hn];rfl) (Ev.ct (by rw [hn];rfl) (Ev.bind (qi0 _ _) ?_))))
  have hf:zO t=(isN (kid t 0) ql5&&yz (kid (kid t 0) 1) (kid t 1)):=by unfold zO;rw [if_neg (by rw [hn];decide),if_pos hn]
  refine Ev.ite (λ h=>?_) λ h=>?_
  ·refine Ev.some (k21 (hck 0) h sE) (Ev.some (qpn (by omega)) (Ev.bind (qe7 _ _ (by have:=hzz 0 1;omega) (by have:=hz 1;omega)) (Ev.ite (λ h2=>?_) λ h2=>?_)))
   ·have hb:zO t=true:=by rw [hf,show isN (kid t 0) ql5=true from h,h2];rfl
    refine Ev.some (k20 (hck 0) h sE) (Ev.ret ?_)
    rw [zk t hb,if_pos rfl,if_neg (by rw [hn];decide),hb]
   ·have hb:zO t=false:=by rw [hf,h2,Bool.and_false]
    repeat (refine Ev.cf (by rw [hn];rfl) ?_)
    refine Ev.ret ?_
    rw [zk t hb,if_neg (by decide),hb]
  ·have hb:zO t=false:=by rw [hf,show isN (kid t 0) ql5=false from h];rfl
   repeat (refine Ev.cf (by rw [hn];rfl) ?_)
   refine Ev.ret ?_
   rw [zk t hb,if_neg (by decide),hb]
 ·have hl:=one (a:=2) (b:=2) (c:=3) (by rw [hn];decide) rfl
  refine Ev.some (qcX (by omega)) (Ev.cf (by rw [hn];rfl) (Ev.cf (by rw [hn];rfl) (Ev.cf (by rw [hn];rfl) (Ev.ct (by rw [hn];rfl) (Ev.bind (qi0 _ _) ?_)))))
  have hf:zO t=(isN (kid t 0) qgW&&isN (kid (kid t 0) 1) nPk&&yz (kid (kid (kid t 0) 1) 0) (kid t 1)):=by unfold zO;rw [if_neg (by rw [hn];decide),if_neg (by rw [hn];decide),if_pos hn]
  refine Ev.ite (λ h=>?_) λ h=>?_
  ·have hk3:=(yv.1 h).1
   refine Ev.some (k21 (hck 0) h sA) (Ev.some (qpn (by omega)) (Ev.bind (qea nPk [kid t 1] (by simp)) (Ev.bind (qe7 _ _ (by have:=hzz 0 1;omega) (by rw [size_pk];have:=hz 1;omega)) ?_)))
   rw [qAN (hckk 0 1 hk3) (hskk 0 1 hk3)]
   refine Ev.ite (λ h2=>?_) λ h2=>?_
   ·have hb:zO t=true:=by rw [hf,show isN (kid t 0) qgW=true from h,Bool.true_and,h2]
    refine Ev.some (k20 (hck 0) h sA) (Ev.ret ?_)
    rw [zk t hb,if_pos rfl,if_neg (by rw [hn];decide),hb]
   ·have hb:zO t=false:=by rw [hf,show isN (kid t 0) qgW=true from h,Bool.true_and,h2]
    repeat (refine Ev.cf (by rw [hn];rfl) ?_)
    refine Ev.ret ?_
    rw [zk t hb,if_neg (by decide),hb]
  ·have hb:zO t=false:=by rw [hf,show isN (kid t 0) qgW=false from h];rfl
   repeat (refine Ev.cf (by rw [hn];rfl) ?_)
   refine Ev.ret ?_
   rw [zk t hb,if_neg (by decide),hb]
 ·have hl:=one (a:=2) (b:=2) (c:=3) (by rw [hn];decide) rfl
  refine Ev.some (qcX (by omega)) (Ev.cf (by rw [hn];rfl) (Ev.cf (by rw [hn];rfl) (Ev.cf (by rw [hn];rfl) (Ev.cf (by rw [hn];rfl) (Ev.ct (by rw [hn];rfl) (Ev.bind (qi0 _ _) ?_))))))
  have hf:zO t=(isN (kid t 0) qdA&&isN (kid t 1) nPk&&yz (kid (kid t 0) 1) (kid (kid t 1) 0)):=by unfold zO;rw [if_neg (by rw [hn];decide),if_neg (by rw [hn];decide),if_neg (by rw [hn];decide),if_pos hn]
  refine Ev.ite (λ h=>?_) λ h=>?_
  ·refine Ev.some (qpn (by omega)) (Ev.some (k21 (hck 0) h sS) (Ev.bind (qea nPk [kid (kid t 0) 1] (by simp)) (Ev.bind (qe7 _ _ (by have:=hz 1;omega) (by rw [size_pk];have:=hzz 0 1;omega)) ?_)))
   rw [qAN (hck 1) (hsk 1),qr1 (kid (kid t 1) 0)]
   refine Ev.ite (λ h2=>?_) λ h2=>?_
   ·have hb:zO t=true:=by rw [hf,show isN (kid t 0) qdA=true from h,Bool.true_and,h2]
    refine Ev.some (k20 (hck 0) h sS) (Ev.ret ?_)
    rw [zk t hb,if_pos rfl,if_neg (by rw [hn];decide),hb]
   ·have hb:zO t=false:=by rw [hf,show isN (kid t 0) qdA=true from h,Bool.true_and,h2]
    repeat (refine Ev.cf (by rw [hn];rfl) ?_)
    refine Ev.ret ?_
    rw [zk t hb,if_neg (by decide),hb]
  ·have hb:zO t=false:=by rw [hf,show isN (kid t 0) qdA=false from h];rfl
   repeat (refine Ev.cf (by rw [hn];rfl) ?_)
   refine Ev.ret ?_
   rw [zk t hb,if_neg (by decide),hb]
 ·have hl:=one (a:=1) (b:=1) (c:=3) (by rw [hn];decide) rfl
  refine Ev.some (qcX (by omega)) (Ev.cf (by rw [hn];rfl) (Ev.cf (by rw [hn];rfl) (Ev.cf (by rw [hn];rfl) (Ev.cf (by rw [hn];rfl) (Ev.cf (by rw [hn];rfl) (Ev.ct (by rw [hn];rfl) (Ev.bind (qi0 _ _) ?_)))))))
  have hf:zO t=isN (kid t 0) qdA:=by unfold zO;rw [if_neg (by rw [hn];decide),if_neg (by rw [hn];decide),if_neg (by rw [hn];decide),if_neg (by rw [hn];decide),if_pos hn]
  refine Ev.ite (λ h=>?_) λ h=>?_
  ·refine Ev.some (k20 (hck 0) h sS) (Ev.ret ?_)
   rw [zk t (hf.trans h),if_pos rfl,if_neg (by rw [hn];decide),hf.trans h]
  ·repeat (refine Ev.cf (by rw [hn];rfl) ?_)
   refine Ev.ret ?_
   rw [zk t (hf.trans h),if_neg (by decide),hf.trans h]
end Go.AmYtbpnmbmdbblehaaGreat
namespace Go.AmYtbpnmbmdbblehaaGreat
open Go Go.GxYtbpnmbmdbblehaaGreat
theorem qhb (t:T):szP (ofP t).1≤400:=by
 unfold ofP
 split
 ·exact Nat.zero_le _
 ·rename_i h
  split
  ·exact Nat.zero_le _
  ·split
   ·exact Nat.zero_le _
   ·have h1:=qBa t [] 1
    have h2:=jQ (Decidable.of_not_not h)
    have h3:szP ([]:List Pw)=0:=rfl
    show szP (yT t [] 1)≤_
    omega
theorem qAJ (a b:List Pw):szP (qiT a b).1≤160000:=by
 unfold qiT
 split
 ·exact Nat.zero_le _
 ·rename_i h1
  split
  ·exact Nat.zero_le _
  ·rename_i h2
   split
   ·exact Nat.zero_le _
   ·split
    ·exact Nat.zero_le _
    ·obtain ⟨_,_,h,_⟩:=qge (Decidable.of_not_not h1) (Decidable.of_not_not h2) b.length
     rw [List.take_length] at h
     exact h
theorem qFR (b e:T) (hb:zf b=0) (hsb:size b≤1000000000) (hse:size e≤1000000000):Ev (λ m _=>qdg m b e) (qmc b e):=by
 refine Ev.succ ?_
 simp only [quH,qgh,qf]
 have fin:∀ (l:List Pw) (x:T),szP l≤1000000000→Ev (λ m _=>cond (ieq (l.length:Int) 0) (some (x,(0:Int))) (qa (jF m l) λ v=>cond (qb (ieq v.2 0)) (some (T.mk 0 [] 0 [],v.2)) (qa (qdZ m [101,120,112] [x,v.1]) λ w=>some (w,0)))) (qgB x l):=by
  intro l x hl
  unfold qgB
  refine Ev.ite (λ h=>?_) λ h=>?_
  ·rw [qj] at h
   rw [if_pos (by omega)];exact Ev.pure _
  ·rw [qh] at h
   rw [if_neg (by omega)]
   refine Ev.bind (qxr l hl) (Ev.ite (λ h=>?_) λ h=>?_)
   ·rw [bnt,qh] at h
    rw [if_pos h];exact Ev.pure _
   ·rw [bnf,qj] at h
    rw [if_neg (by omega)]
    exact Ev.bind (qJt _ _) (Ev.pure _)
 unfold qmc
 refine Ev.bind (qy9 e hse) (Ev.ite (λ h=>?_) λ h=>?_)
 ·rw [bnt,qh] at h
  rw [if_pos h];exact Ev.pure _
 rw [bnf,qj] at h
 rw [if_neg (by omega)]
 refine Ev.bind (qij _ _) (Ev.ite (λ hx=>?_) λ hx=>?_)
 ·rw [if_pos (show isN b qei=true from hx)]
  have h1:=qah b 1
  refine Ev.some (qbq (i:=1) hb hx (a:=2) (b:=2) (c:=1) (by decide) (by decide)) (Ev.bind (qy9 _ (by omega)) (Ev.ite (λ h2=>?_) λ h2=>?_))
  ·rw [bnt,qh] at h2
   rw [if_pos h2];exact Ev.pure _
  rw [bnf,qj] at h2
  rw [if_neg (by omega)]
  have h3:=qhb (kid b 1)
  have h4:=qhb e
  have h5:=qAJ (ofP (kid b 1)).1 (ofP e).1
  refine Ev.bind (qHk _ _ (by omega) (by omega)) (Ev.ite (λ h2=>?_) λ h2=>?_)
  ·rw [bnt,qh] at h2
   rw [if_pos h2];exact Ev.pure _
  rw [bnf,qj] at h2
  rw [if_neg (by omega)]
  exact Ev.some (qbq (i:=0) hb hx (a:=2) (b:=2) (c:=1) (by decide) (by decide)) (fin _ _ (by omega))
 ·rw [if_neg (by rw [show isN b qei=false from hx];decide)]
  have h4:=qhb e
  exact fin _ _ (by omega)
theorem qGb (b e:T) (hb:zf b=0) (hsb:size b≤1000000000) (hse:size e≤1000000000):Ev (λ m _=>qes m b e) (qmc b e):=by
 refine Ev.succ ?_
 simp only [qwz,qgR,qf]
 have fin:∀ (l:List Pw) (x:T),szP l≤1000000000→Ev (λ m _=>cond (ieq (l.length:Int) 0) (some (x,(0:Int))) (qa (qaG m l) λ v=>cond (qb (ieq v.2 0)) (some (T.mk 0 [] 0 [],v.2)) (qa (zV m [101,120,112] [x,v.1]) λ w=>some (w,0)))) (qgB x l):=by
  intro l x hl
  unfold qgB
  refine Ev.ite (λ h=>?_) λ h=>?_
  ·rw [qj] at h
   rw [if_pos (by omega)];exact Ev.pure _
  ·rw [qh] at h
   rw [if_neg (by omega)]
   refine Ev.bind (qzs l hl) (Ev.ite (λ h=>?_) λ h=>?_)
   ·rw [bnt,qh] at h
    rw [if_pos h];exact Ev.pure _
   ·rw [bnf,qj] at h
    rw [if_neg (by omega)]
    exact Ev.bind (qea _ _ (by simp)) (Ev.pure _)
 unfold qmc
 refine Ev.bind (qx7 e hse) (Ev.ite (λ h=>?_) λ h=>?_)
 ·rw [bnt,qh] at h
  rw [if_pos h];exact Ev.pure _
 rw [bnf,qj] at h
 rw [if_neg (by omega)]
 refine Ev.bind (qi0 _ _) (Ev.ite (λ hx=>?_) λ hx=>?_)
 ·rw [if_pos (show isN b qei=true from hx)]
  have h1:=qah b 1
  refine Ev.some (qbq (i:=1) hb hx (a:=2) (b:=2) (c:=1) (by decide) (by decide)) (Ev.bind (qx7 _ (by omega)) (Ev.ite (λ h2=>?_) λ h2=>?_))
  ·rw [bnt,qh] at h2
   rw [if_pos h2];exact Ev.pure _
  rw [bnf,qj] at h2
  rw [if_neg (by omega)]
  have h3:=qhb (kid b 1)
  have h4:=qhb e
  have h5:=qAJ (ofP (kid b 1)).1 (ofP e).1
  refine Ev.bind (qHu _ _ (by omega) (by omega)) (Ev.ite (λ h2=>?_) λ h2=>?_)
  ·rw [bnt,qh] at h2
   rw [if_pos h2];exact Ev.pure _
  rw [bnf,qj] at h2
  rw [if_neg (by omega)]
  exact Ev.some (qbq (i:=0) hb hx (a:=2) (b:=2) (c:=1) (by decide) (by decide)) (fin _ _ (by omega))
 ·rw [if_neg (by rw [show isN b qei=false from hx];decide)]
  have h4:=qhb e
  exact fin _ _ (by omega)
theorem qyU {t:T} (h:isD t.name=true):Jl t=(qhz t,0):=by unfold Jl;rw [if_pos h]
theorem qym {t:T} (h:t.name=qej):Jl t=ql3 t.kids:=by unfold Jl;rw [if_neg (by rw [h];decide),if_pos h]
theorem qxG {t:T} (h:t.name=qf7∨t.name=QB∨t.name=qhG):Jl t=qj5 t:=by
 unfold Jl
 rw [if_neg (by rcases h with h | h | h<;>rw [h]<;>decide),if_neg (by rcases h with h | h | h<;>rw [h]<;>decide),if_pos h]
theorem qyI {t:T} (h:t.name=qei):Jl t=qmc (kid t 0) (kid t 1):=by
 unfold Jl
 rw [if_neg (by rw [h];decide),if_neg (by rw [h];decide),if_neg (by rw [h];decide),if_pos h]
theorem qvL {t:T} (h1:isD t.name=false) (h2:t.name≠qej) (h3:¬ (t.name=qf7∨t.name=QB∨t.name=qhG)) (h4:t.name≠qei):Jl t=(t,0):=by
 unfold Jl
 rw [if_neg (by rw [h1];decide),if_neg h2,if_neg h3,if_neg h4]
theorem qDh (n:List UInt8):(qE n).2.2=3↔isD n=true:=by
 constructor
 ·intro h
  rcases qsi n with h1 | ⟨r,hr,hn,h1⟩
  ·rw [qrz h1] at h;cases h
  ·rw [qmz h1] at h
   have:jt.all (λ r => !decide (r.2.2.2=3)||isD r.1)=true:=by decide
   have:=List.all_eq_true.1 this r hr
   rw [decide_eq_true h] at this
   rw [← hn];exact this
 ·intro h
  unfold isD at h
  simp only [Bool.or_eq_true,beq_iff_eq] at h
  rcases h with ((((hn | hn) | hn) | hn) | hn) | hn<;>rw [hn]<;>decide
noncomputable def nks (l:List T):List T:=(l.map zw).map (·.1)
theorem qoT (l:List T):(nks l).length=l.length:=by unfold nks;simp
theorem qDi (l:List T):szL (nks l)≤402*szL l:=by
 induction l with
 | nil=>exact Nat.le_refl _
 | cons k l ih =>
   have:=quq k
   show szL ((zw k).1::nks l)≤_
   rw [qJ,qJ];omega
theorem qyc {l:List T} {i:Nat} {x:T} (h:l[i]? = some x):nks (l.take (i+1))=nks (l.take i)++[(zw x).1]:=by
 unfold nks
 rw [zS h,List.map_append,List.map_append];rfl
noncomputable def erN (l:List T):Int:=((l.map zw).map (·.2)).foldl thn 0
theorem qxq {l:List T} {i:Nat} {x:T} (h:l.drop i=x::l.drop (i+1)):erN (l.drop i)=if (zw x).2≠0 then (zw x).2 else erN (l.drop (i+1)):=by
 unfold erN
 rw [h,List.map_cons,List.map_cons]
 by_cases hx:(zw x).2=0
 ·rw [if_neg (by omega),hx];rfl
 ·rw [if_pos hx];exact qH _ hx
theorem qBC {t:T} (h3:t.kind=3):zw t=if erN t.kids≠0 then (zT,erN t.kids) else Jl (apT t.name (nks t.kids)):=by rw [qk0,if_neg (λ h=>h h3)];rfl
theorem qAv {t:T} (h3:t.kind=3) (hc:zf t=0) (he:∀ k∈t.kids,(zw k).2=0):zf (apT t.name (nks t.kids))=0∧∀ k∈nks t.kids,zf k=0:=by
 obtain ⟨g1,g2⟩:=qfs h3 hc
 have hk:∀ k∈nks t.kids,zf k=0 := λ k hk=>by
  obtain ⟨q,hq,rfl⟩:=List.mem_map.1 hk
  obtain ⟨j,hj,rfl⟩:=List.mem_map.1 hq
  exact qE5 j (g2 j hj) (he j hj)
 exact ⟨qhn (qzA h3 g1) hk,hk⟩
theorem qDy (t:T):size t≤2000→zf t=0→Ev (λ m _=>zP m t) (zw t):=by
 induction t using T.ind with
 | h t ih =>
   intro hs hc
   have hl:=yJ t
   have hz:=qS t
   refine Ev.succ ?_
   simp only [qta,qbU,qf]
   by_cases h3:t.kind=3
   rotate_left
   ·refine Ev.ct (bnt.2 (qh.2 h3)) (Ev.ret (qhj h3).symm)
   refine Ev.cf (bnf.2 (qj.2 h3)) ?_
   rw [qBC h3]
   have hck:=(qfs h3 hc).2
   have key:=qr (P := λ i=>(∀ k∈t.kids.take i,(zw k).2=0)→Ev (λ m k=>Qe m (zP m) k t.kids t.kids.length i t.kind t.name t.sort t.kids 0 [] 0 3 t.name 0 [] (nks (t.kids.take i))) (if erN (t.kids.drop i)≠0 then (zT,erN (t.kids.drop i)) else Jl (apT t.name (nks t.kids)))) t.kids (by omega)
    (λ hlen he=>by
     refine Ev.loop ?_
     simp only [qja,qbO,qf]
     refine Ev.cf hlen ?_
     rw [List.take_length] at he ⊢
     rw [List.drop_length,if_neg (show ¬ erN []≠0 from λ h=>h rfl)]
     obtain ⟨c1,c2⟩:=qAv h3 hc he
     have s1:=qDi t.kids
     have s2:szL t.kids+1=size t:=by unfold szL;omega
     have hnl:=qoT t.kids
     generalize nks t.kids=ks at *
     have hu:T.mk 3 t.name 0 ks=apT t.name ks:=rfl
     rw [hu]
     have su:size (apT t.name ks)=1+szL ks:=qS _
     have des:isD t.name=true→Ev (λ m _=>qa (J1 m (apT t.name ks)) λ v=>some (v,(0:Int))) (Jl (apT t.name ks)) := λ hd=>by
      rw [qyU (show isD (apT t.name ks).name=true from hd)]
      exact Ev.bind (qCs _ rfl c1 hd (by omega)) (Ev.pure _)
     have prod:t.name=qf7∨t.name=QB∨t.name=qhG→Ev (λ m _=>qa (JY m (apT t.name ks)) λ v=>cond (qb (ieq v.2 0)) (some (T.mk 0 [] 0 [],v.2)) (qa (jF m v.1) λ w=>some (w.1,w.2))) (Jl (apT t.name ks)) := λ hm=>by
      rw [qxG (show (apT t.name ks).name=qf7∨(apT t.name ks).name=QB∨(apT t.name ks).name=qhG from hm)]
      unfold qj5
      have h4:=qhb (apT t.name ks)
      refine Ev.bind (qy9 _ (by omega)) (Ev.ite (λ h=>?_) λ h=>?_)
      ·rw [bnt,qh] at h
       rw [if_pos h];exact Ev.pure _
      ·rw [bnf,qj] at h
       rw [if_neg (by omega)]
       exact Ev.bind (qxr _ (by omega)) (Ev.pure _)
     refine Ev.ite (λ h=>des (by rw [y9.1 h];decide)) λ h1=>?_
     refine Ev.ite (λ h=>des (by rw [y9.1 h];decide)) λ h2=>?_
     refine Ev.ite (λ h=>des (by rw [y9.1 h];decide)) λ h3'=>?_
     refine Ev.ite (λ h=>des (by rw [y9.1 h];decide)) λ h4=>?_
     refine Ev.ite (λ h=>des (by rw [y9.1 h];decide)) λ h5=>?_
     refine Ev.ite (λ h=>des (by rw [y9.1 h];decide)) λ h6=>?_
     refine Ev.ite (λ h=>?_) λ h7=>?_
     ·rw [qym (show (apT t.name ks).name=qej from y9.1 h)]
      exact Ev.bind (qHW ks (by omega)) (Ev.pure _)
     refine Ev.ite (λ h=>prod (.inl (y9.1 h))) λ h8=>?_
     refine Ev.ite (λ h=>prod (.inr (.inl (y9.1 h)))) λ h9=>?_
     refine Ev.ite (λ h=>prod (.inr (.inr (y9.1 h)))) λ h10=>?_
     refine Ev.ite (λ h=>?_) λ h11=>?_
     ·have hn:t.name=qei:=y9.1 h
      rw [qyI (show (apT t.name ks).name=qei from hn)]
      have isE:isN (apT t.name ks) qei=true:=yv.2 ⟨rfl,hn⟩
      have q0:=qah (apT t.name ks) 0
      have q1:=qah (apT t.name ks) 1
      refine Ev.some (qbq (t:=apT t.name ks) (i:=0) c1 isE (a:=2) (b:=2) (c:=1) (by decide) (by decide)) (Ev.some (qbq (t:=apT t.name ks) (i:=1) c1 isE (a:=2) (b:=2) (c:=1) (by decide) (by decide)) ?_)
      exact Ev.bind (qFR _ _ (qag Jm qaP rfl c1 0) (by omega) (by omega)) (Ev.pure _)
     ·rw [qvL (t:=apT t.name ks) (show isD t.name=false from by
          rw [← Bool.not_eq_true]
          intro hd
          unfold isD at hd
          simp only [Bool.or_eq_true,beq_iff_eq] at hd
          rcases hd with ((((hn | hn) | hn) | hn) | hn) | hn
          ·exact jq.1 h1 hn
          ·exact jq.1 h2 hn
          ·exact jq.1 h3' hn
          ·exact jq.1 h4 hn
          ·exact jq.1 h5 hn
          ·exact jq.1 h6 hn) (jq.1 h7) (λ h=>by rcases h with h | h | h;exact jq.1 h8 h;exact jq.1 h9 h;exact jq.1 h10 h) (jq.1 h11)]
      exact Ev.pure _)
    (λ i x hx hd hlen hg hi hP he=>by
     refine Ev.loop ?_
     simp only [qja,qbO,qf]
     have hm:=List.mem_of_getElem? hx
     have hlt:=jl t x hm
     rw [qxq hd]
     refine Ev.ct hlen (Ev.some hg (Ev.bind (ih x hm (by omega) (hck x hm)) (Ev.ite (λ h=>?_) λ h=>?_)))
     ·rw [bnt,qh] at h
      rw [if_pos (show (if (zw x).2≠0 then (zw x).2 else erN (t.kids.drop (i+1)))≠0 from by rw [if_pos h];exact h),if_pos h]
      exact Ev.pure _
     ·rw [bnf,qj] at h
      rw [if_neg (show ¬ (zw x).2≠0 from by omega)]
      have h4:(nks (t.kids.take i)).length≤t.kids.length:=by rw [qoT,List.length_take];omega
      refine Ev.ct (qY (by omega) (by omega)) ?_
      have hP:=hP λ k hk=>by
       rw [zS hx] at hk
       rcases List.mem_append.1 hk with hk | hk
       ·exact he k hk
       ·rw [List.mem_singleton.1 hk];exact h
      rw [hi]
      refine hP.congr λ m k=>?_
      rw [qyc hx])
   have hk3:=h3
   refine Ev.diag (L := λ m k=>Qe m (zP m) k t.kids t.kids.length 0 t.kind t.name t.sort t.kids 0 [] 0 3 t.name 0 [] []) ?_
   exact (key 0 (Nat.zero_le _)) (λ k hk=>by rw [List.take_zero] at hk;cases hk)
theorem qCG (t:T):size t≤2000→zf t=0→qer t→Ev (λ m _=>ye m t) (zw t):=by
 induction t using T.ind with
 | h t ih =>
   intro hs hc hso
   have hl:=yJ t
   have hz:=qS t
   refine Ev.succ ?_
   simp only [quB,qcM,qf]
   by_cases h3:t.kind=3
   rotate_left
   ·refine Ev.ct (bnt.2 (qh.2 h3)) (Ev.ret (qhj h3).symm)
   refine Ev.cf (bnf.2 (qj.2 h3)) ?_
   rw [qBC h3]
   have hck:=(qfs h3 hc).2
   have key:=qr (P := λ i=>(∀ k∈t.kids.take i,(zw k).2=0)→Ev (λ m k=>QY m (ye m) k i t.kind t.name t.sort t.kids 0 [] 0 [] (nks (t.kids.take i))) (if erN (t.kids.drop i)≠0 then (zT,erN (t.kids.drop i)) else Jl (apT t.name (nks t.kids)))) t.kids (by omega)
    (λ hlen he=>by
     refine Ev.loop ?_
     simp only [qkh,qcE,qf]
     refine Ev.cf hlen ?_
     rw [List.take_length] at he ⊢
     rw [List.drop_length,if_neg (show ¬ erN []≠0 from λ h=>h rfl)]
     obtain ⟨c1,c2⟩:=qAv h3 hc he
     have o1:qer (apT t.name (nks t.kids)):=qBx _ _ λ k hk=>by
      obtain ⟨q,hq,rfl⟩:=List.mem_map.1 hk
      obtain ⟨j,hj,rfl⟩:=List.mem_map.1 hq
      exact qH4 qnL qy5 qBx j (qnL t h3 hso j hj)
     have s1:=qDi t.kids
     have s2:szL t.kids+1=size t:=by unfold szL;omega
     have hnl:=qoT t.kids
     generalize nks t.kids=ks at *
     have su:size (apT t.name ks)=1+szL ks:=qS _
     have prod:t.name=qf7∨t.name=QB∨t.name=qhG→Ev (λ m _=>qa (qat m (apT t.name ks)) λ w=>some (w.1,w.2)) (Jl (apT t.name ks)) := λ hm=>by
      rw [qxG (show (apT t.name ks).name=qf7∨(apT t.name ks).name=QB∨(apT t.name ks).name=qhG from hm)]
      have h4:=qhb (apT t.name ks)
      have:Ev (λ m _=>qat m (apT t.name ks)) (qj5 (apT t.name ks)):=by
       refine Ev.succ ?_
       simp only [qr8,qe4,qf]
       unfold qj5
       refine Ev.bind (qx7 _ (by omega)) (Ev.ite (λ h=>?_) λ h=>?_)
       ·rw [bnt,qh] at h
        rw [if_pos h];exact Ev.pure _
       ·rw [bnf,qj] at h
        rw [if_neg (by omega)]
        exact Ev.bind (qzs _ (by omega)) (Ev.pure _)
      exact Ev.bind this (Ev.pure _)
     have hksl:=jb ks
     refine Ev.bind (qea t.name ks (by omega)) (Ev.bind (qt5 t.name) (Ev.ite (λ h=>?_) λ h1=>?_))
     ·have hd:=(qDh t.name).1 (qj.1 h)
      rw [qyU (show isD (apT t.name ks).name=true from hd)]
      exact Ev.bind (qz1 _ rfl c1 o1 hd (by omega)) (Ev.pure _)
     refine Ev.ite (λ h=>?_) λ h7=>?_
     ·rw [qym (show (apT t.name ks).name=qej from y9.1 h)]
      exact Ev.bind (qHb ks (by omega)) (Ev.pure _)
     refine Ev.ite (λ h=>prod (.inl (y9.1 h))) λ h8=>?_
     refine Ev.ite (λ h=>prod (.inr (.inl (y9.1 h)))) λ h9=>?_
     refine Ev.ite (λ h=>prod (.inr (.inr (y9.1 h)))) λ h10=>?_
     refine Ev.ite (λ h=>?_) λ h11=>?_
     ·have hn:t.name=qei:=y9.1 h
      rw [qyI (show (apT t.name ks).name=qei from hn)]
      have isE:isN (apT t.name ks) qei=true:=yv.2 ⟨rfl,hn⟩
      have q0:=qah (apT t.name ks) 0
      have q1:=qah (apT t.name ks) 1
      refine Ev.some (qbq (t:=apT t.name ks) (i:=0) c1 isE (a:=2) (b:=2) (c:=1) (by decide) (by decide)) (Ev.some (qbq (t:=apT t.name ks) (i:=1) c1 isE (a:=2) (b:=2) (c:=1) (by decide) (by decide)) ?_)
      exact Ev.bind (qGb _ _ (qag Jm qaP rfl c1 0) (by omega) (by omega)) (Ev.pure _)
     ·rw [qvL (t:=apT t.name ks) (show isD t.name=false from by
          rw [← Bool.not_eq_true,← qDh]
          exact qh.1 h1) (jq.1 h7) (λ h=>by rcases h with h | h | h;exact jq.1 h8 h;exact jq.1 h9 h;exact jq.1 h10 h) (jq.1 h11)]
      exact Ev.pure _)
    (λ i x hx hd hlen hg hi hP he=>by
     refine Ev.loop ?_
     simp only [qkh,qcE,qf]
     have hm:=List.mem_of_getElem? hx
     have hlt:=jl t x hm
     rw [qxq hd]
     refine Ev.ct hlen (Ev.some hg (Ev.bind (ih x hm (by omega) (hck x hm) (qnL t h3 hso x hm)) (Ev.ite (λ h=>?_) λ h=>?_)))
     ·rw [bnt,qh] at h
      rw [if_pos (show (if (zw x).2≠0 then (zw x).2 else erN (t.kids.drop (i+1)))≠0 from by rw [if_pos h];exact h),if_pos h]
      exact Ev.pure _
     ·rw [bnf,qj] at h
      rw [if_neg (show ¬ (zw x).2≠0 from by omega)]
      have h4:(nks (t.kids.take i)).length≤t.kids.length:=by rw [qoT,List.length_take];omega
      refine Ev.ct (qY (by omega) (by omega)) ?_
      have hP:=hP λ k hk=>by
       rw [zS hx] at hk
       rcases List.mem_append.1 hk with hk | hk
       ·exact he k hk
       ·rw [List.mem_singleton.1 hk];exact h
      rw [hi]
      refine hP.congr λ m k=>?_
      rw [qyc hx])
   refine Ev.diag (L := λ m k=>QY m (ye m) k 0 t.kind t.name t.sort t.kids 0 [] 0 [] []) ?_
   exact (key 0 (Nat.zero_le _)) (λ k hk=>by rw [List.take_zero] at hk;cases hk)
theorem qmI (t:T):qiL t=if qkJ t≠0 then (zT,qkJ t) else if (zw t).2≠0 then (zT,(zw t).2) else if qR (zw t).1≠0 then (zT,qR (zw t).1) else zw t:=rfl
theorem qC3 (t:T) (hs:size t≤1000000000):Ev (λ m _=>qck m t) (qiL t):=by
 refine Ev.succ ?_
 simp only [qsk,qfa,qf]
 rw [qmI]
 refine Ev.bind (qG6 t hs) (Ev.ite (λ h=>?_) λ h=>?_)
 ·rw [bnt,qh] at h
  rw [if_pos h];exact Ev.pure _
 rw [bnf,qj] at h
 rw [if_neg (by omega)]
 obtain ⟨hv,hc⟩:=qvC h
 have hz:=jQ hv
 have hn:=quq t
 refine Ev.bind (qDy t (by omega) hc) (Ev.ite (λ h2=>?_) λ h2=>?_)
 ·rw [qj] at h2
  rw [if_neg (by omega)]
  refine Ev.bind (qc8 _ (by omega)) (Ev.ite (λ h3=>?_) λ h3=>?_)
  ·rw [bnt,qh] at h3
   rw [if_pos h3];exact Ev.pure _
  ·rw [bnf,qj] at h3
   rw [if_neg (by omega)]
   exact Ev.ret (by rw [← h2])
 ·rw [qh] at h2
  rw [if_pos h2]
  exact Ev.ct (bnt.2 (qh.2 h2)) (Ev.pure _)
theorem qB4 (t:T) (hs:size t≤1000000000):Ev (λ m _=>qcY m t) (qiL t):=by
 refine Ev.succ ?_
 simp only [qtT,qga,qf]
 rw [qmI]
 refine Ev.bind (qHs t hs) (Ev.ite (λ h=>?_) λ h=>?_)
 ·rw [bnt,qh] at h
  rw [if_pos h];exact Ev.pure _
 rw [bnf,qj] at h
 rw [if_neg (by omega)]
 obtain ⟨hv,hc⟩:=qvC h
 have hz:=jQ hv
 have hn:=quq t
 refine Ev.bind (qCG t (by omega) hc (qEr t (qz5 hv))) (Ev.ite (λ h2=>?_) λ h2=>?_)
 ·rw [bnt,qh] at h2
  rw [if_pos h2];exact Ev.pure _
 rw [bnf,qj] at h2
 rw [if_neg (by omega)]
 refine Ev.bind (qbK _ (by omega)) (Ev.ite (λ h3=>?_) λ h3=>?_)
 ·rw [bnt,qh] at h3
  rw [if_pos h3];exact Ev.pure _
 ·rw [bnf,qj] at h3
  rw [if_neg (by omega)]
  exact Ev.ret (by rw [← h2])
theorem qsu (t:T):size (qiL t).1≤400:=by
 rw [qmI]
 have:=qiJ
 split
 ·show size zT≤_;omega
 ·split
  ·show size zT≤_;omega
  ·split
   ·show size zT≤_;omega
   ·rename_i h
    exact jQ (Decidable.of_not_not h)
end Go.AmYtbpnmbmdbblehaaGreat
namespace Go.AmYtbpnmbmdbblehaaGreat
open Go Go.GxYtbpnmbmdbblehaaGreat
noncomputable def qhs (p:List UInt8→Bool):T→Bool:=T.para λ t rs=>(!(t.kind==3)||p t.name)&&rs.all id
theorem qve (p:List UInt8→Bool) (t:T):qhs p t=((!(t.kind==3)||p t.name)&&(t.kids.map (qhs p)).all id):=T.para_eq _ _
noncomputable def Q0:T→List T:=T.para λ t rs=>t::rs.flatten
theorem qlv (t:T):Q0 t=t::(t.kids.map Q0).flatten:=T.para_eq _ _
theorem qmH (t:T):(Q0 t).length=size t:=by
 refine T.ind (P := λ t=>(Q0 t).length=size t) ?_ t
 intro t ih
 rw [qlv,qS,List.length_cons,List.length_flatten,List.map_map]
 have:t.kids.map (List.length ∘ Q0)=t.kids.map size:=List.map_congr_left λ k hk=>ih k hk
 rw [this];omega
theorem qIe (t:T):∀ u∈Q0 t,size u≤size t:=by
 refine T.ind (P := λ t=>∀ u∈Q0 t,size u≤size t) ?_ t
 intro t ih u hu
 rw [qlv] at hu
 rcases List.mem_cons.1 hu with rfl | hu
 ·exact Nat.le_refl _
 ·obtain ⟨l,hl,hu⟩:=List.mem_flatten.1 hu
  obtain ⟨k,hk,rfl⟩:=List.mem_map.1 hl
  have h1:=ih k hk u hu
  have h2:=jl t k hk
  omega
theorem qBS (p:List UInt8→Bool) (t:T):(Q0 t).all (λ u => !(u.kind==3)||p u.name)=qhs p t:=by
 refine T.ind (P := λ t=>(Q0 t).all (λ u => !(u.kind==3)||p u.name)=qhs p t) ?_ t
 intro t ih
 rw [qlv,qve,List.all_cons,List.all_flatten]
 congr 1
 rw [List.all_map,List.all_map]
 rw [Bool.eq_iff_iff,List.all_eq_true,List.all_eq_true]
 exact ⟨λ h k hk=>(ih k hk).symm.trans (h k hk),λ h k hk=>(ih k hk).trans (h k hk)⟩
def pPl (n:List UInt8):Bool:=qb (ieq (qE n).2.2 3)
theorem qDd (n:List UInt8):Ev (λ m _=>qbt m n) (pPl n):=by
 refine Ev.succ ?_
 simp only [qqi,qep]
 refine Ev.bind (qu9 n) (Ev.ret ?_)
 unfold pPl
 rw [← qq3]
theorem qDI (t:T):size t≤1000000000→Ev (λ m _=>qI m t) (qhs pPl t):=by
 induction t using T.ind with
 | h t ih =>
   intro hs
   have hl:=yJ t
   refine Ev.succ ?_
   simp only [ql4,Jr]
   have key:=qr (P := λ i=>Ev (λ m k=>ym m (qI m) k t.kids t.kids.length i) (((t.kids.drop i).map (qhs pPl)).all id)) t.kids (by omega)
    (λ hc=>by
     refine Ev.loop ?_
     simp only [qfc,Jv]
     refine Ev.cf hc (Ev.ret ?_)
     rw [List.drop_length];rfl)
    (λ i x hx hd hc hg hi hP=>by
     refine Ev.loop ?_
     simp only [qfc,Jv,qf]
     have hm:=List.mem_of_getElem? hx
     have h1:=jl t x hm
     rw [hd,List.map_cons,List.all_cons]
     refine Ev.ct hc (Ev.some hg (Ev.bind (ih x hm (by omega)) (Ev.ite (λ hb=>?_) λ hb=>?_)))
     ·rw [bnt] at hb
      rw [hb];exact Ev.pure _
     ·rw [bnf] at hb
      rw [hb,hi]
      exact hP)
   have main:Ev (λ m _=>ym m (qI m) m t.kids t.kids.length 0) ((t.kids.map (qhs pPl)).all id) :=
    Ev.diag (L := λ m k=>ym m (qI m) k t.kids t.kids.length 0) ((key 0 (Nat.zero_le _)).res (by rw [List.drop_zero]))
   rw [qve]
   refine Ev.ite (λ h3=>?_) λ h3=>?_
   ·rw [qj] at h3
    have hk:(!(t.kind==3))=false:=by rw [h3];rfl
    rw [hk,Bool.false_or]
    refine Ev.bind (qDd t.name) (Ev.ite (λ h=>?_) λ h=>?_)
    ·rw [bnt] at h
     rw [h];exact Ev.pure _
    ·rw [bnf] at h
     rw [h];exact main
   ·rw [qh] at h3
    have hk:(!(t.kind==3))=true:=by rw [Bool.not_eq_true',beq_eq_false_iff_ne];exact h3
    rw [hk,Bool.true_or]
    exact main
theorem qAA (t:T):size t≤1000000000→Ev (λ m _=>jm m t) (Q0 t):=by
 induction t using T.ind with
 | h t ih =>
   intro hs
   have hl:=yJ t
   have hln:=qmH t
   refine Ev.succ ?_
   simp only [qAi,qfJ,qf]
   rw [qlv] at hln ⊢
   have hpre:∀ i,((t.kids.take i).map Q0).flatten.length≤(t.kids.map Q0).flatten.length := λ i=>by
    have:=congrArg (λ l=>(l.map Q0).flatten.length) (List.take_append_drop i t.kids)
    simp only [List.map_append,List.flatten_append,List.length_append] at this
    omega
   have key:=qr (P := λ i=>Ev (λ m k=>qa5 m (jm m) k i t.kind t.name t.sort t.kids (t::((t.kids.take i).map Q0).flatten)) (t::(t.kids.map Q0).flatten)) t.kids (by omega)
    (λ hc=>by
     refine Ev.loop ?_
     simp only [qoD,qfY]
     refine Ev.cf hc ?_
     rw [List.take_length];exact Ev.pure _)
    (λ i x hx hd hc hg hi hP=>by
     refine Ev.loop ?_
     simp only [qoD,qfY,qf]
     have hm:=List.mem_of_getElem? hx
     have h1:=jl t x hm
     have h2:=hpre (i+1)
     have e:((t.kids.take (i+1)).map Q0).flatten=((t.kids.take i).map Q0).flatten++Q0 x:=by
      rw [zS hx,List.map_append,List.flatten_append];simp
     rw [e,List.length_append] at h2
     rw [e] at hP
     rw [List.length_cons] at hln
     refine Ev.ct hc (Ev.some hg (Ev.bind (ih x hm (by omega)) (Ev.ct (qY (by rw [List.length_cons];omega) (by omega)) ?_)))
     rw [hi]
     exact hP)
   refine Ev.diag (L := λ m k=>qa5 m (jm m) k 0 t.kind t.name t.sort t.kids [t]) ?_
   exact key 0 (Nat.zero_le _)
noncomputable def qiW (t:T):Bool:=decide ((qiL t).2=0)&&(yz (qiL t).1 t&&qhs pPl t)
theorem qDj (t:T) (hs:size t≤1000000000):Ev (λ m _=>qdc m t) (qiW t):=by
 have h1:=qsu t
 refine Ev.succ ?_
 simp only [qus,qf2,qf]
 unfold qiW
 refine Ev.bind (qC3 t hs) (Ev.ite (λ h=>?_) λ h=>?_)
 ·rw [qj] at h
  rw [decide_eq_true h,Bool.true_and]
  refine Ev.bind (qlL _ _ (by omega) hs) (Ev.ite (λ h2=>?_) λ h2=>?_)
  ·rw [h2,Bool.true_and]
   exact Ev.bind (qDI t hs) (Ev.pure _)
  ·rw [h2,Bool.false_and];exact Ev.pure _
 ·rw [qh] at h
  rw [decide_eq_false h,Bool.false_and];exact Ev.pure _
theorem qEH (t:T) (hs:size t≤1000000000):Ev (λ m _=>qet m t) (qiW t):=by
 have h1:=qsu t
 refine Ev.succ ?_
 simp only [qws,qdQ,qf]
 unfold qiW
 refine Ev.bind (qB4 t hs) (Ev.ite (λ h=>?_) λ h=>?_)
 ·rw [bnt,qh] at h
  rw [decide_eq_false h,Bool.false_and];exact Ev.pure _
 rw [bnf,qj] at h
 rw [decide_eq_true h,Bool.true_and,qr1]
 refine Ev.bind (qe7 _ _ hs (by omega)) (Ev.ite (λ h2=>?_) λ h2=>?_)
 ·rw [bnt] at h2
  rw [h2,Bool.false_and];exact Ev.pure _
 rw [bnf] at h2
 rw [h2,Bool.true_and,← qBS]
 refine Ev.bind (qAA t hs) ?_
 have hln:=qmH t
 generalize Q0 t=l at *
 have key:=qr (P := λ i=>Ev (λ m k=>Jy m k l i) ((l.drop i).all λ u => !(u.kind==3)||pPl u.name)) l (by omega)
  (λ hc=>by
   refine Ev.loop ?_
   simp only [qlk,qdU]
   refine Ev.cf hc (Ev.ret ?_)
   rw [List.drop_length];rfl)
  (λ i x hx hd hc hg hi hP=>by
   refine Ev.loop ?_
   simp only [qlk,qdU]
   rw [hd,List.all_cons]
   refine Ev.ct hc (Ev.some hg (Ev.ite (λ h3=>?_) λ h3=>?_))
   ·rw [qj] at h3
    have hk:(!(x.kind==3))=false:=by rw [h3];rfl
    rw [hk,Bool.false_or]
    refine Ev.some hg (Ev.bind (qt5 x.name) (Ev.ite (λ hk3=>?_) λ hk3=>?_))
    ·have:pPl x.name=false:=by unfold pPl;rw [hk3];rfl
     rw [this];exact Ev.pure _
    ·rw [hi]
     refine hP.res ?_
     have:pPl x.name=true:=by unfold pPl;rw [hk3];rfl
     rw [this];rfl
   ·rw [qh] at h3
    have hk:(!(x.kind==3))=true:=by rw [Bool.not_eq_true',beq_eq_false_iff_ne];exact h3
    rw [hk,Bool.true_or,hi,Bool.true_and]
    exact hP)
 refine Ev.diag (L := λ m k=>Jy m k l 0) ?_
 exact (key 0 (Nat.zero_le _)).res (by rw [List.drop_zero])
end Go.AmYtbpnmbmdbblehaaGreat
namespace Go.AmYtbpnmbmdbblehaaGreat
open Go Go.GxYtbpnmbmdbblehaaGreat Go.Sort Go.Proofs Go.Proofs.YtbpnmbmdbblehaaGreat
noncomputable def zu (k:Int) (t:T):List T:=(Q0 t).filter λ x=>decide (x.kind=k)
noncomputable def qtX (t:T):Bool:=(zu 1 t).isEmpty
theorem qvE (k:Int) (t:T):zu k t=(if t.kind=k then [t] else [])++(t.kids.map (zu k)).flatten:=by
 unfold zu
 rw [qlv,List.filter_cons,List.filter_flatten,List.map_map]
 by_cases h:t.kind=k<;>simp [h,Function.comp_def,zu]
theorem qh9 (k:Int) (t:T):(zu k t).length≤size t:=by
 have:=List.length_filter_le (λ x:T=>decide (x.kind=k)) (Q0 t)
 rw [qmH] at this
 exact this
theorem qvu (k:Int) (t:T):∀ u∈zu k t,size u≤size t := λ u hu=>qIe t u ((List.mem_filter.1 hu).1)
theorem qBj {s:Nat}:∀ {l:List T},(∀ u∈l,size u≤s)→szL l≤l.length*s
 | [],_=>by simp [szL]
 | x::l,h=>by
   have:=qBj λ u hu=>h u (List.mem_cons_of_mem _ hu)
   have h1:=h x (List.mem_cons_self ..)
   rw [qJ,List.length_cons,Nat.succ_mul];omega
theorem qGz (x:T) (k:Int) (l:List T) (hl:l.length≤1000000000):Ev (λ m _=>Qs m x k l) ((k,l++(if x.kind=k then [x] else []),()),()):=by
 refine Ev.succ ?_
 simp only [qkB,qao,qf]
 by_cases h:x.kind=k
 ·rw [if_pos h]
  refine Ev.ct (qj.2 h) (Ev.ct (qY (by omega) (by omega)) (Ev.some (a:=T.mk 0 [] 0 []) (by rw [jz];simp) (Ev.ret ?_)))
  rw [qde]
  simp
 ·rw [if_neg h,List.append_nil]
  exact Ev.cf (qh.2 h) (Ev.pure _)
theorem qHo (t:T) (k:Int):size t≤1000000000→∀ l:List T,l.length+size t≤1000000000→Ev (λ m _=>q9 m t k l) ((k,l++zu k t,()),()):=by
 induction t using T.ind with
 | h t ih =>
   intro hs l hl
   have hkl:=yJ t
   refine Ev.succ ?_
   simp only [qno,JT,qf]
   refine Ev.bind (qGz t k l (by omega)) ?_
   simp only
   obtain ⟨l0,hl0⟩:∃ l0,l0=l++(if t.kind=k then [t] else []):=⟨_,rfl⟩
   rw [← hl0]
   have hfl:=qh9 k t
   rw [qvE,List.length_append] at hfl
   have hl0n:l0.length+((t.kids.map (zu k)).flatten).length=l.length+((if t.kind=k then [t] else []).length+((t.kids.map (zu k)).flatten).length):=by rw [hl0,List.length_append];omega
   have hpre:∀ i,((t.kids.take i).map (zu k)).flatten.length≤(t.kids.map (zu k)).flatten.length := λ i=>by
    have:=congrArg (λ l=>(l.map (zu k)).flatten.length) (List.take_append_drop i t.kids)
    simp only [List.map_append,List.flatten_append,List.length_append] at this
    omega
   have hsz:∀ i x,t.kids[i]? = some x→l0.length+((t.kids.take i).map (zu k)).flatten.length+size x≤1000000000 := λ i x hx=>by
    have h1:((t.kids.take i).map (zu k)).flatten.length≤szL (t.kids.take i):=by
     have aux:∀ l:List T,((l.map (zu k)).flatten).length≤szL l:=by
      intro l
      induction l with
      | nil=>simp [szL]
      | cons y l ih'=>rw [List.map_cons,List.flatten_cons,List.length_append,qJ];have:=qh9 k y;omega
     exact aux _
    have h2:=jJ hx
    have h3:szL t.kids+1≤size t:=by rw [qS];unfold szL;omega
    have h4:l0.length≤l.length+1:=by rw [hl0,List.length_append];split<;>simp
    omega
   have key:=qr (P := λ i=>Ev (λ m kk=>yY m (q9 m) kk t.kids t.kids.length i k (l0++((t.kids.take i).map (zu k)).flatten)) ((k,l0++(t.kids.map (zu k)).flatten,()),())) t.kids (by omega)
    (λ hc=>by
     refine Ev.loop ?_
     simp only [qgm,JQ]
     refine Ev.cf hc ?_
     rw [List.take_length];exact Ev.pure _)
    (λ i x hx hd hc hg hi hP=>by
     refine Ev.loop ?_
     simp only [qgm,JQ,qf]
     have hm:=List.mem_of_getElem? hx
     have h1:=jl t x hm
     refine Ev.ct hc (Ev.some hg (Ev.bind (ih x hm (by omega) _ (by rw [List.length_append];exact hsz i x hx)) ?_))
     rw [hi]
     have e:((t.kids.take (i+1)).map (zu k)).flatten=((t.kids.take i).map (zu k)).flatten++zu k x:=by
      rw [zS hx,List.map_append,List.flatten_append];simp
     rw [e,← List.append_assoc] at hP
     exact hP)
   rw [qvE,← List.append_assoc,← hl0]
   refine Ev.diag (L := λ m kk=>yY m (q9 m) kk t.kids t.kids.length 0 k l0) ?_
   have:=key 0 (Nat.zero_le _)
   simpa using this
theorem qG7 {F G:T→T→Option Int} {l:List T} (h:∀ x∈l,∀ y∈l,F x y=G x y):QA F l=QA G l:=by
 funext i j
 unfold QA
 cases hx:l[i % l.length]? with
 | none=>rfl
 | some x=>cases hy:l[j % l.length]? with
   | none=>rfl
   | some y=>simp only;rw [h x (List.mem_of_getElem? hx) y (List.mem_of_getElem? hy)]
theorem qvG {β : Type} {F:T→T→Option β} {l:List T} (h:∀ x∈l,∀ y∈l,(F x y).isSome=true):qbE F l=true :=
 List.all_eq_true.2 λ x hx=>List.all_eq_true.2 λ y hy=>h x hx y hy
theorem qHe {n:Nat} {lt:Nat→Nat→Bool} (h:SWO lt):qrm n lt=true:=by
 unfold qrm
 refine List.all_eq_true.2 λ i _=>?_
 rw [Bool.and_eq_true]
 refine ⟨by rw [h.irrefl];rfl,List.all_eq_true.2 λ j _=>List.all_eq_true.2 λ k _=>?_⟩
 rw [Bool.and_eq_true]
 constructor
 ·cases h1:lt i j with
  | false=>rfl
  | true=>cases h2:lt j k with
    | false=>rfl
    | true=>rw [h.trans i j k h1 h2];rfl
 ·cases h1:lt i j with
  | true=>rfl
  | false=>cases h2:lt j k with
    | true=>rfl
    | false=>rw [h.ntrans i j k h1 h2];rfl
theorem qJR (l:List T):SWO (ltOf (QA (λ x y=>some (qp x y)) l)):=by
 have hlt:∀ i j,ltOf (QA (λ x y=>some (qp x y)) l) i j=true↔∃ x y,l[i % l.length]? = some x∧l[j % l.length]? = some y∧qp x y=-1 := λ i j=>by
  unfold ltOf QA
  rw [decide_eq_true_iff]
  cases hx:l[i % l.length]? with
  | none=>simp
  | some x=>cases hy:l[j % l.length]? with
    | none=>simp
    | some y =>
      simp only [Option.getD_some]
      have:=zI.rng x y
      constructor
      ·intro h;exact ⟨x,y,rfl,rfl,by omega⟩
      ·rintro ⟨_,_,h1,h2,h3⟩;cases h1;cases h2;omega
 refine ⟨λ i=>?_,λ i j k h1 h2=>?_,λ i j k h1 h2=>?_⟩
 ·rw [Bool.eq_false_iff]
  intro h
  obtain ⟨x,y,h1,h2,h3⟩:=(hlt _ _).1 h
  rw [h1] at h2;cases h2
  rw [qoO] at h3;cases h3
 ·obtain ⟨x,y,a1,a2,a3⟩:=(hlt _ _).1 h1
  obtain ⟨y',z,b1,b2,b3⟩:=(hlt _ _).1 h2
  rw [a2] at b1;cases b1
  exact (hlt _ _).2 ⟨x,z,a1,b2,zI.trans x y z a3 b3⟩
 ·rw [Bool.eq_false_iff] at h1 h2 ⊢
  intro h
  obtain ⟨x,z,a1,a2,a3⟩:=(hlt _ _).1 h
  have hn:0<l.length:=by have:=getElem?_lt a1;omega
  obtain ⟨y,hj⟩:∃ y,l[j % l.length]? = some y:=⟨_,List.getElem?_eq_getElem (Nat.mod_lt _ hn)⟩
  have n1:qp x y≠-1 := λ he=>h1 ((hlt _ _).2 ⟨x,_,a1,hj,he⟩)
  have n2:qp y z≠-1 := λ he=>h2 ((hlt _ _).2 ⟨_,z,hj,a2,he⟩)
  have r1:=zI.rng x y
  have r2:=zI.rng y z
  rcases r1 with r1 | r1 | r1
  ·exact n1 r1
  ·have:=JZ _ _ r1
   rw [← this] at n2;exact n2 a3
  ·rcases r2 with r2 | r2 | r2
   ·exact n2 r2
   ·have:=JZ _ _ r2
    rw [this] at n1;exact n1 a3
   ·have e1:qp y x=-1:=by rw [zI.anti];omega
    have e2:qp z y=-1:=by rw [zI.anti];omega
    have e3:=zI.trans _ _ _ e2 e1
    have e4:=zI.anti x z
    omega
theorem qyw {β : Type} {F:Nat→T→T→Option β} {g:T→T → β} (l:List T) (h:∀ x∈l,∀ y∈l,Ev (λ m _=>F m x y) (g x y)):∃ B,∀ m,B≤m→∀ x∈l,∀ y∈l,F m x y=some (g x y):=by
 have one:∀ (x:T),(∀ y∈l,Ev (λ m _=>F m x y) (g x y))→∀ r:List T,(∀ y∈r,y∈l)→∃ B,∀ m,B≤m→∀ y∈r,F m x y=some (g x y):=by
  intro x hx r
  induction r with
  | nil=>exact λ _=>⟨0,λ _ _ y hy=>by cases hy⟩
  | cons y r ih =>
    intro hr
    obtain ⟨B,hB⟩:=ih λ z hz=>hr z (List.mem_cons_of_mem _ hz)
    obtain ⟨D,hD⟩:=hx y (hr y (List.mem_cons_self ..))
    refine ⟨max B D,λ m hm z hz=>?_⟩
    rcases List.mem_cons.1 hz with rfl | hz
    ·exact hD m D (by omega) (Nat.le_refl _)
    ·exact hB m (by omega) z hz
 have two:∀ r:List T,(∀ y∈r,y∈l)→∃ B,∀ m,B≤m→∀ x∈r,∀ y∈l,F m x y=some (g x y):=by
  intro r
  induction r with
  | nil=>exact λ _=>⟨0,λ _ _ y hy=>by cases hy⟩
  | cons x r ih =>
    intro hr
    obtain ⟨B,hB⟩:=ih λ z hz=>hr z (List.mem_cons_of_mem _ hz)
    obtain ⟨D,hD⟩:=one x (h x (hr x (List.mem_cons_self ..))) l λ _ h=>h
    refine ⟨max B D,λ m hm z hz=>?_⟩
    rcases List.mem_cons.1 hz with rfl | hz
    ·exact hD m (by omega)
    ·exact hB m (by omega) z hz
 exact two l λ _ h=>h
theorem qyo {α : Type} {l:List α} {ix:List Nat}:∀ x∈pick l ix,x∈l := λ x hx=>by
 unfold pick at hx
 obtain ⟨i,_,h⟩:=List.mem_filterMap.1 hx
 exact List.mem_of_getElem? h
theorem qHK (l:List T) (hl:l.length≤100000) (hs:∀ t∈l,size t≤1000000000):∃ l',Ev (λ m _=>qQ m l) l'∧l'.length=l.length∧∀ x∈l',x∈l:=by
 cases hl0:l with
 | nil=>exact ⟨[],Ev.succ (Ev.congr (Ev.pure _) λ m _=>rfl),rfl,λ x h=>h⟩
 | cons x0 r0 =>
   rw [← hl0]
   obtain ⟨B,hB⟩:=qyw (F := λ m x y=>qt m x y) l λ x hx y hy=>qcp x (hs x hx) y (hs y hy)
   have hne:l≠[]:=by rw [hl0];exact List.cons_ne_nil _ _
   have hO:=qJR l
   obtain ⟨hp,_⟩:=qpU (λ x y=>some (qp x y)) l hO
   have hlt:∀ i∈qai (λ x y=>some (qp x y)) l,i<l.length := λ i hi=>List.mem_range.1 (hp.mem_iff.1 hi)
   refine ⟨pick l (qai (λ x y=>some (qp x y)) l),Ev.succ ⟨B,λ m k hm _=>?_⟩,by rw [qmt hlt,hp.length_eq,List.length_range],qyo⟩
   show qQ (m+1) l=_
   rw [qbH]
   have hcf:QA (qt m) l=QA (λ x y=>some (qp x y)) l:=qG7 (hB m hm)
   have hall:qbE (qt m) l=true:=qvG λ x hx y hy=>by rw [hB m hm x hx y hy];rfl
   have hix:qai (qt m) l=qai (λ x y=>some (qp x y)) l:=by unfold qai;rw [hcf]
   have e:qo5 (qt m) l=cond (Nat.ble l.length 100000&&(qbE (qt m) l&&qrm l.length (ltOf (QA (qt m) l)))) (some (pick l (qai (qt m) l))) none:=by rw [hl0];rfl
   rw [e,hcf,hall,hix,qHe hO,show Nat.ble l.length 100000=true from Nat.ble_eq_true_of_le hl]
   rfl
theorem qB5 (l:List T) (hl:l.length≤100000) (hs:∀ t∈l,size t≤1000000000):∃ l',Ev (λ m _=>qD m l) ((),l',())∧(l'=[]↔l=[])∧l'.length≤l.length∧∀ x∈l',x∈l:=by
 cases hl0:l with
 | nil=>exact ⟨[],Ev.succ (Ev.congr (Ev.pure _) λ m _=>rfl),Iff.rfl,Nat.le_refl _,λ x h=>h⟩
 | cons x0 r0 =>
   rw [← hl0]
   obtain ⟨B,hB⟩:=qyw (F := λ m x y=>yd m x y) (g := λ x y=>ieq (qp x y) 0) l λ x hx y hy=>by
    refine Ev.succ ?_
    simp only [qrk,qeh,qf]
    exact Ev.bind (qcp x (hs x hx) y (hs y hy)) (Ev.pure _)
   have hne:l≠[]:=by rw [hl0];exact List.cons_ne_nil _ _
   have hpos:0<l.length:=List.length_pos_iff.2 hne
   obtain ⟨ef,hef⟩:∃ ef,ef=qiO (λ x y=>some (ieq (qp x y) 0)) l:=⟨_,rfl⟩
   have hlt:∀ i∈zq ef l.length,i<l.length:=qvF
   have hlen:(zq ef l.length).length≤l.length:=by
    have:=List.length_filter_le (λ i=>decide (i=0) || !ef i (i-1)) (List.range l.length)
    rw [List.length_range] at this
    exact this
   have h0:0∈zq ef l.length:=List.mem_filter.2 ⟨List.mem_range.2 hpos,by simp⟩
   refine ⟨pick l (zq ef l.length),Ev.succ ⟨B,λ m k hm _=>?_⟩,⟨λ h=>?_,λ h=>absurd h hne⟩,by rw [qmt hlt];exact hlen,qyo⟩
   ·show qD (m+1) l=_
    rw [qaA]
    have hee:qiO (yd m) l=ef:=by
     rw [hef]
     funext i j
     unfold qiO
     cases hx:l[i % l.length]? with
     | none=>rfl
     | some x=>cases hy:l[j % l.length]? with
       | none=>rfl
       | some y=>simp only;rw [hB m hm x (List.mem_of_getElem? hx) y (List.mem_of_getElem? hy)]
    have hall:qbE (yd m) l=true:=qvG λ x hx y hy=>by rw [hB m hm x hx y hy];rfl
    have e:qxf (yd m) l=cond (Nat.ble l.length 100000&&qbE (yd m) l) (some (pick l (zq (qiO (yd m) l) l.length))) none:=by rw [hl0];rfl
    unfold qsC
    rw [e,hall,hee,show Nat.ble l.length 100000=true from Nat.ble_eq_true_of_le hl]
    rfl
   ·have:=qmt hlt
    rw [h] at this
    have h1:=List.length_pos_of_mem h0
    simp at this
    omega
theorem qB9 (l:List T) (hl:l.length≤100000) (hs:∀ t∈l,size t≤1000000000):∃ l',Ev (λ m _=>qdp m l) ((),l',())∧(l'=[]↔l=[]):=by
 obtain ⟨l1,e1,n1,m1⟩:=qHK l hl hs
 obtain ⟨l2,e2,n2,n3,m2⟩:=qB5 l1 (by omega) λ t ht=>hs t (m1 t ht)
 refine ⟨l2,?_,n2.trans ⟨λ h=>List.eq_nil_of_length_eq_zero (by rw [← n1,h];rfl),λ h=>List.eq_nil_of_length_eq_zero (by rw [n1,h];rfl)⟩⟩
 refine Ev.succ ?_
 simp only [qtx,qcO]
 refine Ev.bind e1 (Ev.ct (by rw [n1,Nat.beq_refl]) (Ev.bind e2 ?_))
 have key:=qr (P := λ i=>Ev (λ m k=>QW m k l2.length i l2) ((),l2,())) l2 (by omega)
  (λ hc=>by
   refine Ev.loop ?_
   simp only [qjL,qcV]
   exact Ev.cf hc (Ev.pure _))
  (λ i x hx hd hc hg hi hP=>by
   refine Ev.loop ?_
   simp only [qjL,qcV,qf]
   refine Ev.ct hc (Ev.some hg (Ev.bind (ql7 x (hs x (m1 x (m2 x (List.mem_of_getElem? hx))))) (Ev.some hg ?_)))
   rw [hi]
   have e:jO l2 (i:Int) x=l2:=by
    rw [qde]
    apply List.ext_getElem?
    intro j
    by_cases hj:i=j
    ·subst hj;rw [List.getElem?_set_self (getElem?_lt hx)];exact hx.symm
    ·rw [List.getElem?_set_ne hj]
   rw [e]
   exact hP)
 exact Ev.diag (L := λ m k=>QW m k l2.length 0 l2) (key 0 (Nat.zero_le _))
theorem qG2 (t:T) (hs:size t≤100000):∃ l,Ev (λ m _=>qg7 m t) l∧(l=[]↔zu 1 t=[]):=by
 obtain ⟨l,h1,h2⟩:=qB9 (zu 1 t) (Nat.le_trans (qh9 1 t) hs) λ u hu=>by have:=qvu 1 t u hu;omega
 refine ⟨l,?_,h2⟩
 refine Ev.succ ?_
 simp only [qzQ,qjj,qf]
 refine Ev.bind (a:=l) (Ev.succ ?_) (Ev.pure _)
 simp only [qv6,qgH,qf]
 have hw:=qHo t 1 (by omega) [] (by rw [List.length_nil];omega)
 rw [List.nil_append] at hw
 exact Ev.bind hw (Ev.bind h1 (Ev.ret rfl))
noncomputable def qkU (t:T):Bool:=qiW t&&qtX t
theorem qsf (t:T) (hs:size t≤100000):Ev (λ m _=>yV m t) (qkU t):=by
 obtain ⟨l,h1,h2⟩:=qG2 t hs
 refine Ev.succ ?_
 simp only [qtf,qe3,qf]
 refine Ev.bind (qDj t (by omega)) ?_
 unfold qkU qtX
 cases qiW t with
 | false=>exact Ev.cf rfl (Ev.pure _)
 | true =>
   refine Ev.ct rfl (Ev.bind h1 (Ev.ret ?_))
   rw [Bool.true_and]
   by_cases h:zu 1 t=[]
   ·rw [h,h2.2 h];rfl
   ·have hl:l≠[] := λ hl=>h (h2.1 hl)
    have hp:0<l.length:=List.length_pos_iff.2 hl
    rw [qh.2 (by omega)]
    cases hk:zu 1 t with
    | nil=>exact absurd hk h
    | cons x r=>rfl
theorem qAw (l:List T) (t:T):Qg l t≠[]:=by
 cases l with
 | nil=>simp [Qg]
 | cons x l =>
   unfold Qg
   repeat' split
   all_goals exact List.cons_ne_nil _ _
theorem qJf (l:List T) (hs:szL l≤1000000000):Ev (λ m _=>qg8 m l) (l.foldl Qg []):=by
 have hll:=jb l
 refine Ev.succ ?_
 simp only [qAj,qfC]
 have fs:∀ (l acc:List T),szL (l.foldl Qg acc)≤szL acc+szL l:=by
  intro l
  induction l with
  | nil=>intro acc;simp [szL]
  | cons x l ih=>intro acc;rw [List.foldl_cons,qJ];have:=ih (Qg acc x);have:=qux x acc;omega
 have key:=qr (P := λ i=>Ev (λ m k=>qaT m k l ((l.take i).foldl Qg []) i) (l.foldl Qg [])) l (by omega)
  (λ hc=>by
   refine Ev.loop ?_
   simp only [qnr,qfx]
   refine Ev.cf hc ?_
   rw [List.take_length];exact Ev.pure _)
  (λ i x hx hd hc hg hi hP=>by
   refine Ev.loop ?_
   simp only [qnr,qfx,qf]
   have h1:=fs (l.take i) []
   have h2:=jJ hx
   have h0:szL ([]:List T)=0:=rfl
   refine Ev.ct hc (Ev.some hg (Ev.bind (qD2 _ x (by omega)) ?_))
   rw [hi,qqc]
   rw [zS hx,List.foldl_append] at hP
   exact hP)
 exact Ev.diag (L := λ m k=>qaT m k l [] 0) (key 0 (Nat.zero_le _))
theorem qEa (l:List T):l.foldl Qg []=[]↔l=[]:=by
 constructor
 ·intro h
  cases hl:l with
  | nil=>rfl
  | cons x r =>
    exfalso
    have ne:∀ (r acc:List T),acc≠[]→r.foldl Qg acc≠[]:=by
     intro r
     induction r with
     | nil=>intro acc h;exact h
     | cons y r ih=>intro acc _;exact ih _ (qAw _ _)
    rw [hl,List.foldl_cons] at h
    exact ne r _ (qAw _ _) h
 ·intro h;rw [h];rfl
theorem qFL (t:T) (k:Int) (hs:size t≤10000):Ev (λ m _=>qfZ m t k) ((zu k t).foldl Qg []):=by
 refine Ev.succ ?_
 simp only [qx9,qeL,qf]
 refine Ev.bind (qAA t (by omega)) ?_
 have hlen:=qmH t
 have hksz:szL (zu k t)≤1000000000:=by
  have h1:=qBj (qvu k t)
  have h2:(zu k t).length*size t≤10000*10000:=Nat.mul_le_mul (Nat.le_trans (qh9 k t) hs) hs
  omega
 have key:=qr (P := λ i=>Ev (λ m kk=>qad m kk k (Q0 t) i (((Q0 t).take i).filter λ x=>decide (x.kind=k))) ((zu k t).foldl Qg [])) (Q0 t) (by omega)
  (λ hc=>by
   refine Ev.loop ?_
   simp only [qnc,qeW]
   refine Ev.cf hc ?_
   rw [List.take_length]
   exact Ev.bind (qJf (zu k t) hksz) (Ev.pure _))
  (λ i x hx hd hc hg hi hP=>by
   refine Ev.loop ?_
   simp only [qnc,qeW,qf]
   have h3:=List.length_filter_le (λ x:T=>decide (x.kind=k)) ((Q0 t).take i)
   have h4:=List.length_take_le' i (Q0 t)
   rw [zS hx,List.filter_append] at hP
   refine Ev.ct hc (Ev.some hg ?_)
   by_cases hk:x.kind=k
   ·refine Ev.ct (qj.2 hk) (Ev.some hg (Ev.ct (qY (by omega) (by omega)) ?_))
    rw [hi]
    simpa [hk] using hP
   ·refine Ev.cf (qh.2 hk) ?_
    rw [hi]
    simpa [hk] using hP)
 exact Ev.diag (L := λ m kk=>qad m kk k (Q0 t) 0 []) (key 0 (Nat.zero_le _))
theorem qrJ (t:T) (hs:size t≤10000):Ev (λ m _=>Qp m t) (qkU t):=by
 refine Ev.succ ?_
 simp only [qul,qfH,qf]
 refine Ev.bind (qEH t (by omega)) ?_
 unfold qkU qtX
 cases qiW t with
 | false=>exact Ev.cf rfl (Ev.pure _)
 | true =>
   have hv:Ev (λ m _=>qfy m t) ((zu 1 t).foldl Qg []):=by
    refine Ev.succ ?_
    simp only [qxP,qhD,qf]
    exact Ev.bind (qFL t 1 hs) (Ev.pure _)
   have hg:Ev (λ m _=>qcZ m t) (zu 1 t).isEmpty:=by
    refine Ev.succ ?_
    simp only [qub,qfG,qf]
    refine Ev.bind hv (Ev.ret ?_)
    by_cases h:zu 1 t=[]
    ·rw [h];rfl
    ·have hl:(zu 1 t).foldl Qg []≠[] := λ hl=>h ((qEa _).1 hl)
     have hp:0<((zu 1 t).foldl Qg []).length:=List.length_pos_iff.2 hl
     rw [qh.2 (by omega)]
     cases hk:zu 1 t with
     | nil=>exact absurd hk h
     | cons x r=>rfl
   rw [Bool.true_and]
   exact Ev.ct rfl (Ev.bind hg (Ev.pure _))
end Go.AmYtbpnmbmdbblehaaGreat
namespace Go.AmYtbpnmbmdbblehaaGreat
theorem qDZ (n:Nat):Je (n+3000)=some true:=by kernel_rfl
end Go.AmYtbpnmbmdbblehaaGreat
namespace Go.AmYtbpnmbmdbblehaaGreat
open Go Go.GxYtbpnmbmdbblehaaGreat
abbrev Rt:=T × (Int × (List (Int × T) × Int))
theorem qJj (t:T):T.mk t.kind t.name t.sort t.kids=t:=qf t
theorem qsE:Ev (λ m _=>Je m) true:=⟨3000,λ m k hm _=>by
 obtain ⟨n,rfl⟩:∃ n,m=n+3000:=⟨m-3000,by omega⟩
 exact qDZ n⟩
theorem qDo (t:T) (hs:size t≤1000000000):Ev (λ m _=>zC m t) t:=by
 have hA:Ev (λ m _=>qlx m t []) (t,0):=by
  refine Ev.succ ?_
  simp only [qDe,qiy]
  refine Ev.diag (L := λ m k=>qfk m k [] (([]:List Int).length) 0 t.kind t.name t.sort t.kids 0 [] 0 []) (Ev.loop ?_)
  simp only [qCV,qly,qJj,qf]
  exact Ev.cf rfl (Ev.bind (ql7 t hs) (Ev.pure _))
 refine Ev.succ ?_
 simp only [qqa,qen,qf]
 exact Ev.bind hA (Ev.pure _)
end Go.AmYtbpnmbmdbblehaaGreat
namespace Go.AmYtbpnmbmdbblehaaGreat
open Go Go.GxYtbpnmbmdbblehaaGreat
theorem Ev.iff {α : Type} {F G:Nat→Nat→Option α} {r s : α} {b:Bool} {p:Prop} [Decidable p] (hb:b=true↔p) (h:p→Ev F r) (g:¬p→Ev G s):Ev (λ m k=>cond b (F m k) (G m k)) (if p then r else s):=by
 by_cases hp:p
 ·rw [if_pos hp];exact Ev.ct (hb.2 hp) (h hp)
 ·rw [if_neg hp];exact Ev.cf (Bool.eq_false_iff.2 λ e=>hp (hb.1 e)) (g hp)
noncomputable def qtb (n:Int):Int→List (Int × T)→Int
 | _,[]=>0
 | last,s::l=>if s.1≤last then 1 else if n≤s.1 then 1 else if qkU s.2=false then 1 else qtb n s.1 l
noncomputable def qo3 (r:Rt):Int :=
 if qkU r.1=false then 1 else if r.2.1<0 then 1 else if 1000<r.2.1 then 1 else if r.2.2.2<0 then 1 else if 8<r.2.2.2 then 1
 else if r.2.2.2<(r.2.2.1.length:Int) then 1 else qtb r.2.1 (-1) r.2.2.1
def Small (s:Nat) (r:Rt):Prop:=r.2.2.1.length<2 ^ 40∧size r.1≤s∧∀ x∈r.2.2.1,size x.2≤s
theorem qzO (r:Rt) (h:Small 10000 r):Ev (λ m _=>jp m r) (qo3 r):=by
 obtain ⟨c,n,l,w⟩:=r
 obtain ⟨hl,h0,h1⟩:=h
 simp only at hl h0 h1
 refine Ev.succ ?_
 simp only [qsG,qb1,qf]
 refine Ev.bind (qsf c (by omega)) ?_
 unfold qo3
 refine Ev.iff bnt (λ _=>Ev.pure _) λ _=>Ev.iff qs (λ _=>Ev.pure _) λ _=>Ev.iff qs (λ _=>Ev.pure _) λ _=>Ev.iff qs (λ _=>Ev.pure _) λ _=>Ev.iff qs (λ _=>Ev.pure _) λ _=>Ev.iff qs (λ _=>Ev.pure _) λ _=>?_
 have key:=qr (P := λ i=>∀ last,Ev (λ m k=>Qd m k last l l.length i c.kind c.name c.sort c.kids n l w) (qtb n last (l.drop i))) l (by omega)
  (λ hc last=>by
   refine Ev.loop ?_
   simp only [qjk,qb5]
   rw [List.drop_length]
   exact Ev.cf hc (Ev.pure _))
  (λ i x hx hd hc hg hi hP last=>by
   refine Ev.loop ?_
   simp only [qjk,qb5,qf]
   rw [hd]
   refine Ev.ct hc (Ev.some hg (Ev.iff qd9 (λ _=>Ev.pure _) λ _=>Ev.iff qd9 (λ _=>Ev.pure _) λ _=>?_))
   refine Ev.bind (qsf x.2 (by have:=h1 x (List.mem_of_getElem? hx);omega)) (Ev.iff bnt (λ _=>Ev.pure _) λ _=>?_)
   rw [hi]
   exact hP x.1)
 exact Ev.diag (L := λ m k=>Qd m k (-1) l l.length 0 c.kind c.name c.sort c.kids n l w) (key 0 (Nat.zero_le _) (-1))
theorem qzR (r:Rt) (h:Small 10000 r):Ev (λ m _=>qa2 m r) (qo3 r):=by
 obtain ⟨c,n,l,w⟩:=r
 obtain ⟨hl,h0,h1⟩:=h
 simp only at hl h0 h1
 refine Ev.succ ?_
 simp only [qwA,qdM,qf]
 refine Ev.bind (qrJ c h0) ?_
 unfold qo3
 refine Ev.iff bnt (λ _=>Ev.pure _) λ _=>Ev.iff qs (λ _=>Ev.pure _) λ _=>Ev.iff qs (λ _=>Ev.pure _) λ _=>Ev.iff qs (λ _=>Ev.pure _) λ _=>Ev.iff qs (λ _=>Ev.pure _) λ _=>Ev.iff qs (λ _=>Ev.pure _) λ _=>?_
 have key:=qr (P := λ i=>∀ last,Ev (λ m k=>Jx m k last i c.kind c.name c.sort c.kids n l w) (qtb n last (l.drop i))) l (by omega)
  (λ hc last=>by
   refine Ev.loop ?_
   simp only [qk2,qd0]
   rw [List.drop_length]
   exact Ev.cf hc (Ev.pure _))
  (λ i x hx hd hc hg hi hP last=>by
   refine Ev.loop ?_
   simp only [qk2,qd0,qf]
   rw [hd]
   refine Ev.ct hc (Ev.some hg (Ev.iff qd9 (λ _=>Ev.pure _) λ _=>Ev.some hg (Ev.iff qd9 (λ _=>Ev.pure _) λ _=>Ev.some hg ?_)))
   refine Ev.bind (qrJ x.2 (h1 x (List.mem_of_getElem? hx))) (Ev.iff bnt (λ _=>Ev.pure _) λ _=>Ev.some hg ?_)
   rw [hi]
   exact hP x.1)
 exact Ev.diag (L := λ m k=>Jx m k (-1) 0 c.kind c.name c.sort c.kids n l w) (key 0 (Nat.zero_le _) (-1))
def qe2 (r:Rt):List T:=r.1::r.2.2.1.map (·.2)
theorem qCB (r:Rt) (h:Small 1000000000 r):Ev (λ m _=>qbD m r) (qe2 r):=by
 obtain ⟨c,n,l,w⟩:=r
 obtain ⟨hl,h0,h1⟩:=h
 simp only at hl h0 h1
 refine Ev.succ ?_
 simp only [qqV,qbi,qf]
 refine Ev.bind (qDo c h0) ?_
 have key:=qr (P := λ i=>∀ o,o.length≤i+1→Ev (λ m k=>jP m k l l.length i o) (o++(l.drop i).map (·.2))) l (by omega)
  (λ hc o ho=>by
   refine Ev.loop ?_
   simp only [qhP,qbf]
   rw [List.drop_length,List.map_nil,List.append_nil]
   exact Ev.cf hc (Ev.pure _))
  (λ i x hx hd hc hg hi hP o ho=>by
   refine Ev.loop ?_
   simp only [qhP,qbf,qf]
   have hb:=getElem?_lt hx
   refine Ev.ct hc (Ev.some hg (Ev.bind (qDo x.2 (h1 x (List.mem_of_getElem? hx))) (Ev.ct (qY (by omega) (by omega)) ?_)))
   have hP':=hP (o++[x.2]) (by rw [List.length_append,List.length_singleton];omega)
   rw [List.append_assoc,List.singleton_append] at hP'
   rw [hi,hd,List.map_cons]
   exact hP')
 refine Ev.diag (L := λ m k=>jP m k l l.length 0 [c]) ?_
 exact key 0 (Nat.zero_le _) [c] (by simp)
theorem qsT (r:Rt) (h:r.2.2.1.length<2 ^ 40):Ev (λ m _=>qbv m r) (qe2 r):=by
 obtain ⟨c,n,l,w⟩:=r
 have hl:=h
 simp only at hl
 refine Ev.succ ?_
 simp only [qtK,qcG,qf]
 have key:=qr (P := λ i=>∀ o,o.length≤i+1→Ev (λ m k=>QP m k i c.kind c.name c.sort c.kids n l w o) (o++(l.drop i).map (·.2))) l (by omega)
  (λ hc o ho=>by
   refine Ev.loop ?_
   simp only [qke,qcC]
   rw [List.drop_length,List.map_nil,List.append_nil]
   exact Ev.cf hc (Ev.pure _))
  (λ i x hx hd hc hg hi hP o ho=>by
   refine Ev.loop ?_
   simp only [qke,qcC,qf]
   have hb:=getElem?_lt hx
   refine Ev.ct hc (Ev.some hg (Ev.ct (qY (by omega) (by omega)) ?_))
   have hP':=hP (o++[x.2]) (by rw [List.length_append,List.length_singleton];omega)
   rw [List.append_assoc,List.singleton_append] at hP'
   rw [hi,hd,List.map_cons]
   exact hP')
 refine Ev.diag (L := λ m k=>QP m k 0 c.kind c.name c.sort c.kids n l w [c]) ?_
 exact key 0 (Nat.zero_le _) [c] (by simp)
noncomputable def qsz (r:Rt):Bool:=decide (r.2.2.1.length≤12)&&(decide ((qe2 r).length≤13)&&qnW (qe2 r) 600)
theorem qFv (r:Rt) (hl:r.2.2.1.length<2 ^ 62) (hf:∀ x∈qe2 r,qku x):Ev (λ m _=>qff m r) (qsz r):=by
 obtain ⟨c,n,l,w⟩:=r
 refine Ev.succ ?_
 simp only [qAc,qjE,qf]
 unfold qsz
 by_cases h:l.length≤12
 ·refine Ev.ct (qd9.2 (by omega)) (Ev.bind (qsT _ (by show l.length<_;omega)) (Ev.bind (qIx _ (by show (l.map _).length+1<_;rw [List.length_map];omega) hf 13 600 (by omega) (by omega)) (Ev.ret ?_)))
  rw [decide_eq_true (show ((c,n,l,w):Rt).2.2.1.length≤12 from h),Bool.true_and]
 ·refine Ev.cf (qjS.2 (by omega)) (Ev.ret ?_)
  rw [decide_eq_false (show ¬((c,n,l,w):Rt).2.2.1.length≤12 from h)];rfl
def qC0 (r:Rt):Prop:=qku r.1∧(IntKind.i64.min≤r.2.1∧r.2.1≤IntKind.i64.max)∧(r.2.2.1.length<2 ^ 62∧∀ x∈r.2.2.1,(IntKind.i64.min≤x.1∧x.1≤IntKind.i64.max)∧qku x.2)∧(IntKind.i64.min≤r.2.2.2∧r.2.2.2≤IntKind.i64.max)
theorem qC0.fit {r:Rt} (h:qC0 r):∀ x∈qe2 r,qku x := λ x hx=>by
 rcases List.mem_cons.1 hx with rfl | hx
 ·exact h.1
 ·obtain ⟨y,hy,rfl⟩:=List.mem_map.1 hx
  exact (h.2.2.1.2 y hy).2
theorem qzW {r:Rt} (h:qsz r=true):Small 600 r∧r.2.2.1.length≤12:=by
 unfold qsz at h
 rw [Bool.and_eq_true,Bool.and_eq_true,decide_eq_true_iff] at h
 have hs:=qGQ (by omega) h.2.2
 exact ⟨⟨by have:=h.1;omega,by have:=hs r.1 (List.mem_cons_self ..);omega,λ x hx=>by have:=hs x.2 (List.mem_cons_of_mem _ (List.mem_map.2 ⟨x,hx,rfl⟩));omega⟩,h.1⟩
theorem Small.mono {a b:Nat} {r:Rt} (h:Small a r) (hab:a≤b):Small b r:=⟨h.1,Nat.le_trans h.2.1 hab,λ x hx=>Nat.le_trans (h.2.2 x hx) hab⟩
end Go.AmYtbpnmbmdbblehaaGreat
namespace Go.AmYtbpnmbmdbblehaaGreat
open Go Go.GxYtbpnmbmdbblehaaGreat Go.Lib
theorem qFW (l r:List T) (hl:l.length<2 ^ 62) (h1:∀ t∈l,size t≤1000000000) (h2:∀ t∈r,size t≤1000000000):Ev (λ m _=>qez m l r) (decide (l=r)):=by
 refine Ev.succ ?_
 simp only [qwQ,qdR]
 refine Ev.ite (λ h=>?_) λ h=>?_
 ·rw [bnt,qh] at h
  exact Ev.ret (by rw [decide_eq_false];intro he;subst he;exact h rfl)
 rw [bnf,qj] at h
 have key:=qr (P := λ i=>Ev (λ m k=>Jz m k l r i) (decide (l.drop i=r.drop i))) l hl
  (λ hc=>by
   refine Ev.loop ?_
   simp only [qlw,qdF]
   refine Ev.cf hc ?_
   refine Ev.ret ?_
   rw [List.drop_length,List.drop_eq_nil_of_le (by omega),decide_eq_true rfl])
  (λ i x hx hd hc hg hi hP=>by
   refine Ev.loop ?_
   simp only [qlw,qdF,qf]
   have hib:i<r.length:=by have:=(List.getElem?_eq_some_iff.1 hx).1;omega
   have hy:=List.getElem?_eq_getElem hib
   refine Ev.ct hc (Ev.some hg (Ev.some (by rw [jz];exact hy) ?_))
   refine Ev.bind (qe7 x _ (h1 x (List.mem_of_getElem? hx)) (h2 _ (List.mem_of_getElem? hy))) ?_
   rw [hd,qqZ hy,hi]
   unfold yz
   by_cases he:x=r[i]
   ·rw [decide_eq_true he]
    refine Ev.cf rfl (hP.res ?_)
    rw [Bool.eq_iff_iff,decide_eq_true_iff,decide_eq_true_iff,he]
    exact ⟨λ h=>by rw [h],λ h=>(List.cons.inj h).2⟩
   ·rw [decide_eq_false he]
    refine Ev.ct rfl (Ev.ret ?_)
    rw [decide_eq_false]
    intro hh;exact he (List.cons.inj hh).1)
 refine Ev.diag (L := λ m k=>Jz m k l r 0) ?_
 exact (key 0 (Nat.zero_le _)).res (by rw [List.drop_zero,List.drop_zero])
end Go.AmYtbpnmbmdbblehaaGreat
namespace Go.AmYtbpnmbmdbblehaaGreat
open Go Go.GxYtbpnmbmdbblehaaGreat
theorem qzZ (r:Rt) (h:r.2.2.1.length<2 ^ 40):Ev (λ m _=>qaB m r) (r.2.2.1.map (·.1)):=by
 obtain ⟨c,n,l,w⟩:=r
 have hl:=h
 simp only at hl
 refine Ev.succ ?_
 simp only [qpF,qaE]
 have key:=qr (P := λ i=>∀ o,o.length≤i→Ev (λ m k=>jy m k l l.length i o) (o++(l.drop i).map (·.1))) l (by omega)
  (λ hc o ho=>by
   refine Ev.loop ?_
   simp only [qhd,qaO]
   rw [List.drop_length,List.map_nil,List.append_nil]
   exact Ev.cf hc (Ev.pure _))
  (λ i x hx hd hc hg hi hP o ho=>by
   refine Ev.loop ?_
   simp only [qhd,qaO]
   have hb:=getElem?_lt hx
   refine Ev.ct hc (Ev.some hg (Ev.ct (qY (by omega) (by omega)) ?_))
   have hP':=hP (o++[x.1]) (by rw [List.length_append,List.length_singleton];omega)
   rw [List.append_assoc,List.singleton_append] at hP'
   rw [hi,hd,List.map_cons]
   exact hP')
 exact Ev.diag (L := λ m k=>jy m k l l.length 0 []) (key 0 (Nat.zero_le _) [] (by simp))
theorem qAs (r:Rt) (h:r.2.2.1.length<2 ^ 40):Ev (λ m _=>qci m r) (r.2.2.1.map (·.1)):=by
 obtain ⟨c,n,l,w⟩:=r
 have hl:=h
 simp only at hl
 refine Ev.succ ?_
 simp only [qrw,qbX]
 have key:=qr (P := λ i=>∀ o,o.length≤i→Ev (λ m k=>Qq m k i c.kind c.name c.sort c.kids n l w o) (o++(l.drop i).map (·.1))) l (by omega)
  (λ hc o ho=>by
   refine Ev.loop ?_
   simp only [qi8,qbY]
   rw [List.drop_length,List.map_nil,List.append_nil]
   exact Ev.cf hc (Ev.pure _))
  (λ i x hx hd hc hg hi hP o ho=>by
   refine Ev.loop ?_
   simp only [qi8,qbY]
   have hb:=getElem?_lt hx
   refine Ev.ct hc (Ev.some hg (Ev.ct (qY (by omega) (by omega)) ?_))
   have hP':=hP (o++[x.1]) (by rw [List.length_append,List.length_singleton];omega)
   rw [List.append_assoc,List.singleton_append] at hP'
   rw [hi,hd,List.map_cons]
   exact hP')
 exact Ev.diag (L := λ m k=>Qq m k 0 c.kind c.name c.sort c.kids n l w []) (key 0 (Nat.zero_le _) [] (by simp))
theorem qHh (l:List Int) (hl:l.length<2 ^ 62):Ev (λ m _=>Qk m l l) true:=by
 refine Ev.succ ?_
 simp only [qkv,QE]
 refine Ev.cf (bnf.2 (qj.2 rfl)) ?_
 have key:=qr (P := λ i=>Ev (λ m k=>yt m k l l l.length i) true) l hl
  (λ hc=>by
   refine Ev.loop ?_
   simp only [qed,QH]
   exact Ev.cf hc (Ev.pure _))
  (λ i x hx hd hc hg hi hP=>by
   refine Ev.loop ?_
   simp only [qed,QH]
   refine Ev.ct hc (Ev.some hg (Ev.some hg (Ev.cf (bnf.2 (qj.2 rfl)) ?_)))
   rw [hi]
   exact hP)
 exact Ev.diag (L := λ m k=>yt m k l l l.length 0) (key 0 (Nat.zero_le _))
theorem ratchetValid_ev (r:Rt) (hf:qC0 r):Ev (λ m _=>law53_RatchetValid m r) true:=by
 refine Ev.succ ?_
 simp only [qlB,qbx,qf]
 have hj:Ev (λ m _=>qa (Je m) λ v2=>some v2) true:=Ev.bind qsE (Ev.pure _)
 refine Ev.bind qsE (Ev.cf rfl (Ev.bind (qFv r hf.2.2.1.1 hf.fit) ?_))
 cases hb:qsz r with
 | false=>exact Ev.ct rfl hj
 | true =>
   obtain ⟨hs,h12⟩:=qzW hb
   have hl:r.2.2.1.length<2 ^ 40:=hs.1
   refine Ev.cf rfl (Ev.bind (qzO r (hs.mono (by omega))) (Ev.bind (qzR r (hs.mono (by omega))) (Ev.ct (qj.2 rfl) ?_)))
   have hz:∀ x∈qe2 r,size x≤1000000000 := λ x hx=>by
    rcases List.mem_cons.1 hx with rfl | hx
    ·have:=hs.2.1;omega
    ·obtain ⟨y,hy,rfl⟩:=List.mem_map.1 hx
     have:=hs.2.2 y hy;omega
   refine Ev.bind (qCB r (hs.mono (by omega))) (Ev.bind (qsT r hl) (Ev.bind (qFW _ _ (by show (r.2.2.1.map _).length+1<_;rw [List.length_map];omega) hz hz) (Ev.ct (decide_eq_true rfl) ?_)))
   exact Ev.bind (qzZ r hl) (Ev.bind (qAs r hl) (Ev.bind (qHh _ (by rw [List.length_map];omega)) (Ev.pure _)))
end Go.AmYtbpnmbmdbblehaaGreat
namespace Go.AmYtbpnmbmdbblehaaGreat
open Go Go.GxYtbpnmbmdbblehaaGreat
set_option linter.unusedVariables false
set_option maxRecDepth 100000
open Go.Proofs.Tryz (f6 f8 f10 f11 f12 f13 f14 f16 f17 f18 f19 f21 f22 f23 f24 f25 f26 f27 f28 f29 f30 f31 f35 f36 f37 f38 f39 f40 f41 f42 f43 f44 f45 f46 f47 f48 f49 f50 f51 f54 f62 f64 f65 f66 f67 f68 f69 f70 f71 f72 f73 f74 f75 f76 f77 f78 f79 f81 f85 f86 f87 f88 f89 f90 f91 f92 f93 f94 f95 f96 f97 f98 f99 f100 f101 f102 f103 f104 f120 f121 f122 f123 f124 f125 f127 f128 f129 f130 f131 f132 f133 f134 f143 f146 f147 f148 f149 f150 f151 f152 f156 f157 f158 f159 f160 f161 f163 f164 f167 f168 f169 f172 f173 f174 f175 f176 f177 f178 f179 f180 f181 f182 f183 f184 f185 f188 f189 f190 f191 f192 f193 f195 f197 f198 f199 f202 f203 f214 f215 f219 f220 f223 f224 f235)
noncomputable def i6:FI:=⟨f6,[.val (.pair .term (.pair (.int .i64) (.pair (.list (.pair (.int .i64) .term)) (.int .i64))))],[.bool],[],[],λ m x=>law53_RatchetValid m x.1⟩
noncomputable def i8:FI:=⟨f8,[.val (.pair .term (.pair (.int .i64) (.pair (.list (.pair (.int .i64) .term)) (.int .i64)))),.val .term],[.bool],[],[],λ m x=>qhZ m x.1 x.2.1⟩
noncomputable def i10:FI:=⟨f10,[],[.bool],[],[],λ m x=>Je m⟩
noncomputable def i11:FI:=⟨f11,[.val (.list .term),.val (.int .i64),.val (.int .i64)],[.bool],[(4,[(0,.list .term),(2,.keep),(7,.keep)])],[],λ m x=>qfo m x.1 x.2.1 x.2.2.1⟩
noncomputable def i12:FI:=⟨f12,[.val .term],[(.pair .term (.pair (.int .i64) (.pair (.list (.pair (.int .i64) .term)) (.int .i64)))),(.int .i64)],[],[],λ m x=>qkx m x.1⟩
noncomputable def i13:FI:=⟨f13,[.val .term],[(.pair .term (.pair (.int .i64) (.pair (.list (.pair (.int .i64) .term)) (.int .i64)))),(.int .i64)],[],[],λ m x=>qoP m x.1⟩
noncomputable def i14:FI:=⟨f14,[.val .term,.val (.int .i64)],[.term,(.int .i64)],[(7,[(4,.box [.keep,.keep,.keep,.row .term false]),(6,.box [.keep,.keep,.keep,.list .term]),(21,.keep),(22,.keep)])],[],λ m x=>qgY m x.1 x.2.1⟩
noncomputable def i16:FI:=⟨f16,[.val (.pair .term (.pair (.int .i64) (.pair (.list (.pair (.int .i64) .term)) (.int .i64)))),.val (.pair .term (.pair (.int .i64) (.pair (.list (.pair (.int .i64) .term)) (.int .i64))))],[.bool],[(4,[(2,.box [.keep,.keep,.keep,.list .term,.keep,.list (.pair (.int .i64) .term),.keep]),(3,.box [.keep,.keep,.keep,.list .term,.keep,.list (.pair (.int .i64) .term),.keep]),(5,.keep)])],[],λ m x=>qic m x.1 x.2.1⟩
noncomputable def i17:FI:=⟨f17,[.val .term,.val .term],[.bool],[],[],λ m x=>yB m x.1 x.2.1⟩
noncomputable def i18:FI:=⟨f18,[.val (.pair .term (.pair (.int .i64) (.pair (.list (.pair (.int .i64) .term)) (.int .i64))))],[.bool],[],[],λ m x=>qff m x.1⟩
noncomputable def i19:FI:=⟨f19,[.val (.pair .term (.pair (.int .i64) (.pair (.list (.pair (.int .i64) .term)) (.int .i64)))),.val (.pair (.int .i64) .term)],[(.pair .term (.pair (.int .i64) (.pair (.list (.pair (.int .i64) .term)) (.int .i64)))),.term,(.int .i64)],[(17,[(3,.box [.keep,.keep,.keep,.keep,.list .term]),(4,.box [.keep,.keep,.keep,.row .term false,.keep,.row (.pair (.int .i64) .term) false,.keep]),(5,.box [.keep,.keep,.keep,.row .term false]),(7,.box [.keep,.keep,.keep,.list .term,.keep,.row (.pair (.int .i64) .term) false,.keep])])],[],λ m x=>qaN m x.1 x.2.1⟩
noncomputable def i21:FI:=⟨f21,[.val (.pair .term (.pair (.int .i64) (.pair (.list (.pair (.int .i64) .term)) (.int .i64))))],[(.int .i64)],[(5,[(1,.box [.keep,.keep,.keep,.list .term,.keep,.list (.pair (.int .i64) .term),.keep]),(3,.keep),(39,.list (.pair (.int .i64) .term)),(40,.keep),(41,.keep)])],[],λ m x=>jp m x.1⟩
noncomputable def i22:FI:=⟨f22,[],[.term],[],[],λ m x=>qdL m⟩
noncomputable def i23:FI:=⟨f23,[.val .str,.val (.int .i64)],[.term],[],[],λ m x=>qfw m x.1 x.2.1⟩
noncomputable def i24:FI:=⟨f24,[.val (.pair .term (.pair (.int .i64) (.pair (.list (.pair (.int .i64) .term)) (.int .i64)))),.val .term],[(.pair .term (.pair (.int .i64) (.pair (.list (.pair (.int .i64) .term)) (.int .i64)))),(.pair (.int .i64) .term),(.int .i64)],[],[],λ m x=>qiQ m x.1 x.2.1⟩
noncomputable def i25:FI:=⟨f25,[.val (.pair .term (.pair (.int .i64) (.pair (.list (.pair (.int .i64) .term)) (.int .i64))))],[(.int .i64)],[(5,[(1,.box [.keep,.keep,.keep,.list .term,.keep,.list (.pair (.int .i64) .term),.keep]),(3,.keep),(4,.keep)])],[],λ m x=>qa2 m x.1⟩
noncomputable def i26:FI:=⟨f26,[.val (.list .term),.val (.list .term)],[.bool],[(4,[(0,.list .term),(1,.list .term),(5,.keep)])],[],λ m x=>qez m x.1 x.2.1⟩
noncomputable def i27:FI:=⟨f27,[.val (.pair .term (.pair (.int .i64) (.pair (.list (.pair (.int .i64) .term)) (.int .i64))))],[(.list .term)],[(3,[(3,.row .term true),(11,.list (.pair (.int .i64) .term)),(12,.keep),(13,.keep)])],[],λ m x=>qbD m x.1⟩
noncomputable def i28:FI:=⟨f28,[.val (.pair .term (.pair (.int .i64) (.pair (.list (.pair (.int .i64) .term)) (.int .i64))))],[(.list .term)],[(3,[(1,.box [.keep,.keep,.keep,.list .term,.keep,.list (.pair (.int .i64) .term),.keep]),(3,.row .term true),(4,.keep)])],[],λ m x=>qbv m x.1⟩
noncomputable def i29:FI:=⟨f29,[.val (.list (.int .i64)),.val (.list (.int .i64))],[.bool],[(4,[(0,.list (.int .i64)),(1,.list (.int .i64)),(12,.keep),(13,.keep)])],[],λ m x=>Qk m x.1 x.2.1⟩
noncomputable def i30:FI:=⟨f30,[.val (.pair .term (.pair (.int .i64) (.pair (.list (.pair (.int .i64) .term)) (.int .i64))))],[(.list (.int .i64))],[(3,[(3,.row (.int .i64) false),(7,.list (.pair (.int .i64) .term)),(8,.keep),(9,.keep)])],[],λ m x=>qaB m x.1⟩
noncomputable def i31:FI:=⟨f31,[.val (.pair .term (.pair (.int .i64) (.pair (.list (.pair (.int .i64) .term)) (.int .i64))))],[(.list (.int .i64))],[(3,[(1,.box [.keep,.keep,.keep,.list .term,.keep,.list (.pair (.int .i64) .term),.keep]),(3,.row (.int .i64) false),(4,.keep)])],[],λ m x=>qci m x.1⟩
noncomputable def i35:FI:=⟨f35,[.val (.pair .term (.pair (.int .i64) (.pair (.list (.pair (.int .i64) .term)) (.int .i64)))),.val .term],[(.pair .term (.pair (.int .i64) (.pair (.list (.pair (.int .i64) .term)) (.int .i64)))),(.pair (.int .i64) .term),(.int .i64)],[],[],λ m x=>qif m x.1 x.2.1⟩
noncomputable def i36:FI:=⟨f36,[.val (.pair .term (.pair (.int .i64) (.pair (.list (.pair (.int .i64) .term)) (.int .i64)))),.val .term],[(.pair .term (.pair (.int .i64) (.pair (.list (.pair (.int .i64) .term)) (.int .i64)))),(.int .i64)],[],[],λ m x=>qjb m x.1 x.2.1⟩
noncomputable def i37:FI:=⟨f37,[.val (.pair .term (.pair (.int .i64) (.pair (.list (.pair (.int .i64) .term)) (.int .i64)))),.val .term],[(.pair .term (.pair (.int .i64) (.pair (.list (.pair (.int .i64) .term)) (.int .i64)))),(.int .i64)],[],[],λ m x=>ql0 m x.1 x.2.1⟩
noncomputable def i38:FI:=⟨f38,[.val .str],[.term,(.int .i64)],[],[],λ m x=>qg1 m x.1⟩
noncomputable def i39:FI:=⟨f39,[.val (.int .i64)],[(.list (.pair (.int .i64) .term))],[(4,[(0,.keep),(3,.box [.keep,.keep,.keep,.list .term,.keep,.list (.pair (.int .i64) .term),.keep]),(5,.row (.pair (.int .i64) .term) false),(6,.keep)])],[],λ m x=>qml m x.1⟩
noncomputable def i40:FI:=⟨f40,[.val .term,.val (.int .i64)],[(.int .i64)],[(5,[(1,.keep),(2,.box [.keep,.keep,.keep,.list .term]),(5,.keep)])],[],λ m x=>yh m x.1 x.2.1⟩
noncomputable def i41:FI:=⟨f41,[.val .term],[.bool],[],[],λ m x=>yV m x.1⟩
noncomputable def i42:FI:=⟨f42,[.val .term],[.term],[],[],λ m x=>zC m x.1⟩
noncomputable def i43:FI:=⟨f43,[.val .term],[.bool],[],[],λ m x=>Qp m x.1⟩
noncomputable def i44:FI:=⟨f44,[.val .term],[.term],[],[],λ m x=>qc2 m x.1⟩
noncomputable def i45:FI:=⟨f45,[.val .term],[(.int .i64)],[],[],λ m x=>zc m x.1⟩
noncomputable def i46:FI:=⟨f46,[.val .term],[.term],[],[],λ m x=>qeC m x.1⟩
noncomputable def i47:FI:=⟨f47,[.val .term],[.term],[],[],λ m x=>qlT m x.1⟩
noncomputable def i48:FI:=⟨f48,[.val .term],[.bool],[],[],λ m x=>qfV m x.1⟩
noncomputable def i49:FI:=⟨f49,[.val .term],[.term],[],[],λ m x=>qoq m x.1⟩
noncomputable def i50:FI:=⟨f50,[.val .term,.val .term],[(.int .i64)],[(18,[(2,.box [.keep,.keep,.keep,.list .term]),(3,.box [.keep,.keep,.keep,.list .term]),(9,.keep)])],[],λ m x=>zj m x.1 x.2.1⟩
noncomputable def i51:SI:=⟨f51,[.val (.pair .term (.pair (.int .i64) (.pair (.list (.pair (.int .i64) .term)) (.int .i64))))],[.agg [.val .term,.val (.int .i64),.row (.pair (.int .i64) .term),.val (.int .i64)]],[(4,[(1,.box [.keep,.keep,.keep,.list .term,.keep,.list (.pair (.int .i64) .term),.keep]),(2,.box [.keep,.keep,.keep,.row .term false,.keep,.row (.pair (.int .i64) .term) false,.keep]),(3,.row (.pair (.int .i64) .term) false),(11,.list (.pair (.int .i64) .term)),(12,.keep),(13,.keep)])],[],λ m x=>qeA m x.1⟩
noncomputable def i54:FI:=⟨f54,[.val .term,.val .term],[.term,.bool],[],[],λ m x=>qdI m x.1 x.2.1⟩
noncomputable def i62:FI:=⟨f62,[.val (.list .term)],[(.list .term)],[(3,[(0,.list .term),(3,.list .term),(4,.keep)])],[],λ m x=>qg8 m x.1⟩
noncomputable def i64:FI:=⟨f64,[.val .str,.val (.list .term)],[.term],[],[],λ m x=>zV m x.1 x.2.1⟩
noncomputable def i65:FI:=⟨f65,[.val .term,.val .term],[.term],[],[],λ m x=>qaS m x.1 x.2.1⟩
noncomputable def i66:FI:=⟨f66,[.val .str,.val (.int .i64)],[.term,.str,.bool],[(13,[(0,.keep),(1,.keep),(4,.box [.keep,.keep,.keep,.row .term false]),(7,.box [.keep,.keep,.keep,.row .term false])])],[],λ m x=>qgb m x.1 x.2.1⟩
noncomputable def i67:FI:=⟨f67,[.val .term],[(.int .i64)],[],[],λ m x=>zJ m x.1⟩
noncomputable def i68:FI:=⟨f68,[.val .term],[.bool],[],[],λ m x=>qdc m x.1⟩
noncomputable def i69:FI:=⟨f69,[.val .term],[(.list .term)],[],[],λ m x=>qg7 m x.1⟩
noncomputable def i70:FI:=⟨f70,[.val .term,.val (.list (.int .i64))],[.term,(.int .i64)],[(2,[(2,.box [.keep,.keep,.keep,.list .term]),(4,.box [.keep,.keep,.keep,.row .term false]),(8,.list (.int .i64)),(9,.keep),(10,.keep)])],[],λ m x=>qlx m x.1 x.2.1⟩
noncomputable def i71:FI:=⟨f71,[.val .term],[.bool],[(6,[(5,.list .term),(6,.keep)])],[],λ m x=>qet m x.1⟩
noncomputable def i72:FI:=⟨f72,[.val .term],[.bool],[],[],λ m x=>qcZ m x.1⟩
noncomputable def i73:FI:=⟨f73,[.val .str],[.term],[],[],λ m x=>qgZ m x.1⟩
noncomputable def i74:SI:=⟨f74,[.val .term,.val (.int .i64),.box [.val (.int .i64)],.box [.val (.int .i64)]],[.one (.val (.int .i64))],[(17,[(1,.keep),(2,.box [.keep]),(3,.box [.keep]),(57,.list .term),(58,.keep),(59,.keep)])],[],λ m x=>zD m x.1 x.2.1 x.2.2.1 x.2.2.2.1⟩
noncomputable def i75:FI:=⟨f75,[.val .term,.val .str],[.term],[],[],λ m x=>qeQ m x.1 x.2.1⟩
noncomputable def i76:FI:=⟨f76,[.val (.int .i64),.val (.int .i64)],[(.int .i64)],[],[],λ m x=>Jp m x.1 x.2.1⟩
noncomputable def i77:FI:=⟨f77,[.val .term],[(.int .i64)],[(3,[(1,.box [.keep,.keep,.keep,.list .term]),(3,.keep),(4,.keep)])],[],λ m x=>yA m x.1⟩
noncomputable def i78:FI:=⟨f78,[.val .term,.val .term],[(.int .i64)],[(11,[(2,.box [.keep,.keep,.keep,.list .term]),(3,.box [.keep,.keep,.keep,.list .term]),(5,.keep),(6,.keep)])],[],λ m x=>qt m x.1 x.2.1⟩
noncomputable def i79:FI:=⟨f79,[.val .term,.val .str],[.bool],[],[],λ m x=>qaf m x.1 x.2.1⟩
noncomputable def i81:FI:=⟨f81,[.val (.list .term),.val .term],[.bool],[(2,[(0,.list .term),(3,.box [.keep,.keep,.keep,.list .term]),(5,.keep)])],[],λ m x=>qhv m x.1 x.2.1⟩
noncomputable def i85:FI:=⟨f85,[.val (.list .term),.val .term],[(.list .term)],[(4,[(0,.list .term),(3,.box [.keep,.keep,.keep,.list .term]),(5,.row .term false),(6,.keep),(7,.keep)])],[],λ m x=>qfd m x.1 x.2.1⟩
noncomputable def i86:FI:=⟨f86,[.val .str],[.str],[(2,[(0,.keep),(3,.keep)])],[],λ m x=>qfE m x.1⟩
noncomputable def i87:FI:=⟨f87,[.val .str],[.bool],[(4,[(0,.keep),(3,.keep)])],[],λ m x=>Qi m x.1⟩
noncomputable def i88:FI:=⟨f88,[.val .term,.val .str],[.term,.str,.bool],[(5,[(1,.keep),(2,.box [.keep,.keep,.keep,.list .term]),(4,.box [.keep,.keep,.keep,.row .term false]),(7,.keep),(8,.keep)])],[],λ m x=>qiq m x.1 x.2.1⟩
noncomputable def i89:FI:=⟨f89,[.val .term],[(.int .i64)],[(5,[(1,.box [.keep,.keep,.keep,.list .term]),(4,.keep)])],[],λ m x=>yL m x.1⟩
noncomputable def i90:FI:=⟨f90,[.val .term],[(.int .i64)],[(3,[(1,.box [.keep,.keep,.keep,.list .term]),(3,.keep),(4,.keep)])],[],λ m x=>yM m x.1⟩
noncomputable def i91:FI:=⟨f91,[.val .term],[.term,(.int .i64)],[],[],λ m x=>qck m x.1⟩
noncomputable def i92:FI:=⟨f92,[.val .term,.val .term],[.bool],[],[],λ m x=>Qc m x.1 x.2.1⟩
noncomputable def i93:FI:=⟨f93,[.val .term,.fn],[.bool],[(4,[(1,.keep),(18,.list .term),(19,.keep),(20,.keep)])],[],λ m x=>qI m x.1⟩
noncomputable def i94:FI:=⟨f94,[.val .str],[.bool],[],[],λ m x=>qbt m x.1⟩
noncomputable def i95:FI:=⟨f95,[.val .str],[(.pair .str (.pair (.int .i64) (.pair (.int .i64) (.int .i64))))],[(2,[(0,.keep),(2,.box [.keep,.keep,.keep,.keep]),(5,.list (.pair .str (.pair (.int .i64) (.pair (.int .i64) (.int .i64))))),(6,.keep),(7,.keep)])],[],λ m x=>qaw m x.1⟩
noncomputable def i96:FI:=⟨f96,[.val .term,.val (.int .i64)],[(.list .term)],[],[],λ m x=>qg6 m x.1 x.2.1⟩
noncomputable def i97:FI:=⟨f97,[.val .term],[.term],[(4,[(1,.box [.keep,.keep,.keep,.row .term false]),(2,.box [.keep,.keep,.keep,.row .term false]),(9,.list .term),(10,.keep),(11,.keep)])],[],λ m x=>yn m x.1⟩
noncomputable def i98:FI:=⟨f98,[.val .term],[.term,(.int .i64)],[],[],λ m x=>qcY m x.1⟩
noncomputable def i99:FI:=⟨f99,[.val .term],[(.list .term)],[(3,[(1,.box [.keep,.keep,.keep,.list .term]),(3,.row .term true),(4,.keep)])],[],λ m x=>jm m x.1⟩
noncomputable def qGx:FI:=⟨f100,[.val .str],[(.int .i64)],[(3,[(0,.keep),(3,.list (.pair .str (.pair (.int .i64) (.pair (.int .i64) (.int .i64))))),(4,.keep)])],[],λ m x=>qcf m x.1⟩
noncomputable def qIJ:FI:=⟨f101,[.val .term],[(.list .term)],[],[],λ m x=>qfy m x.1⟩
noncomputable def qFd:FI:=⟨f102,[.val .str],[.bool],[(4,[(0,.keep),(38,.keep),(39,.keep)])],[],λ m x=>qaW m x.1⟩
noncomputable def qIw:FI:=⟨f103,[.val (.int .i64),.val (.int .i64)],[(.int .i64)],[],[],λ m x=>qbJ m x.1 x.2.1⟩
noncomputable def qEY:FI:=⟨f104,[.val .term],[(.int .i64)],[(3,[(3,.keep),(7,.list .term),(8,.keep),(9,.keep)])],[],λ m x=>jo m x.1⟩
noncomputable def qIy:FI:=⟨f120,[.val (.int .u8)],[.bool],[],[],λ m x=>J9 m x.1⟩
noncomputable def qIo:FI:=⟨f121,[.val (.int .u8)],[.bool],[],[],λ m x=>qcr m x.1⟩
noncomputable def qII:FI:=⟨f122,[.val (.int .i64)],[.str],[],[],λ m x=>qlX m x.1⟩
noncomputable def qIL:FI:=⟨f123,[.val .term],[(.int .i64)],[],[],λ m x=>qfB m x.1⟩
noncomputable def qIO:FI:=⟨f124,[.val .term],[(.int .i64)],[],[],λ m x=>qdz m x.1⟩
noncomputable def qGP:FI:=⟨f125,[.val .term],[.term,(.int .i64)],[(5,[(1,.box [.keep,.keep,.keep,.list .term]),(2,.box [.keep,.keep,.keep,.row .term false]),(4,.box [.keep,.keep,.keep,.row .term false]),(19,.list .term),(20,.keep),(21,.keep)])],[],λ m x=>zP m x.1⟩
noncomputable def qF3:SI:=⟨f127,[.val .term,.clo 128 2,.box [.val (.int .i64)],.box [.row .term]],[],[(3,[(1,.fn [.box [.keep],.box [.row .term false]]),(10,.list .term),(11,.keep),(12,.keep)])],[],λ m x=>q9 m x.1 x.2.1 x.2.2.1⟩
noncomputable def qI5:SI:=⟨f128,[.val .term,.box [.val (.int .i64)],.box [.row .term]],[],[],[],λ m x=>Qs m x.1 x.2.1 x.2.2.1⟩
noncomputable def qGH:SI:=⟨f129,[.row .term],[.one (.row .term)],[(4,[(0,.row .term false),(9,.keep),(10,.keep)])],[],λ m x=>qdp m x.1⟩
noncomputable def qIB:FI:=⟨f130,[.val .term],[(.int .i64)],[],[],λ m x=>qew m x.1⟩
noncomputable def qET:FI:=⟨f131,[.val .term],[.term,(.int .i64)],[(5,[(1,.box [.keep,.keep,.keep,.list .term]),(2,.box [.keep,.keep,.keep,.row .term false]),(4,.row .term false),(5,.keep)])],[],λ m x=>ye m x.1⟩
noncomputable def qJp:FI:=⟨f132,[],[(.list (.pair .str (.pair (.int .i64) (.pair (.int .i64) (.int .i64)))))],[],[],λ m x=>qeK m⟩
noncomputable def qGe:FI:=⟨f133,[.val .term,.val (.int .i64)],[(.list .term)],[(4,[(1,.keep),(5,.row .term false),(6,.list .term),(7,.keep)])],[],λ m x=>qfZ m x.1 x.2.1⟩
noncomputable def qIh:FI:=⟨f134,[.val (.int .u8)],[.bool],[],[],λ m x=>qfh m x.1⟩
noncomputable def qER:FI:=⟨f143,[.val (.list (.pair .term (.int .i64))),.val (.list (.pair .term (.int .i64)))],[(.list (.pair .term (.int .i64))),(.int .i64)],[(9,[(1,.list (.pair .term (.int .i64))),(8,.row (.pair .term (.int .i64)) false),(9,.keep)])],[],λ m x=>qht m x.1 x.2.1⟩
noncomputable def qJo:FI:=⟨f146,[.val .term],[(.list (.pair .term (.int .i64))),(.int .i64)],[],[],λ m x=>qeZ m x.1⟩
noncomputable def qCy:FI:=⟨f147,[.val .term],[(.int .i64)],[(13,[(1,.box [.keep,.keep,.keep,.list .term]),(38,.list .term),(39,.keep),(40,.keep)]),(22,[(62,.list .term),(63,.keep),(64,.keep)])],[],λ m x=>qz m x.1⟩
noncomputable def qIt:FI:=⟨f148,[.val .term],[.term],[],[],λ m x=>J1 m x.1⟩
noncomputable def qGA:FI:=⟨f149,[.val (.list .term)],[.term,(.int .i64)],[(6,[(2,.box [.keep,.keep,.keep,.row .term true]),(5,.list .term),(15,.list .term),(16,.keep),(17,.keep)])],[],λ m x=>qle m x.1⟩
noncomputable def qIV:FI:=⟨f150,[.val .term],[(.list (.pair .term (.int .i64))),(.int .i64)],[],[],λ m x=>JY m x.1⟩
noncomputable def qyz:FI:=⟨f151,[.val (.list (.pair .term (.int .i64)))],[.term,(.int .i64)],[(6,[(2,.box [.keep,.keep,.keep,.row .term false]),(5,.row .term false),(6,.row .term false),(18,.list (.pair .term (.int .i64))),(19,.keep),(20,.keep)]),(11,[(2,.box [.keep,.keep,.keep,.row .term false]),(5,.row .term false),(6,.row .term false),(8,.box [.keep,.keep,.keep,.list .term,.keep]),(18,.list (.pair .term (.int .i64))),(19,.keep),(20,.keep),(34,.keep),(35,.keep)]),(15,[(2,.box [.keep,.keep,.keep,.row .term false]),(5,.row .term false),(6,.row .term false),(8,.box [.keep,.keep,.keep,.list .term,.keep]),(18,.list (.pair .term (.int .i64))),(19,.keep),(20,.keep),(46,.keep),(47,.keep)])],[],λ m x=>jF m x.1⟩
noncomputable def qIK:FI:=⟨f152,[.val .term,.val .term],[.term,(.int .i64)],[],[],λ m x=>qdg m x.1 x.2.1⟩
noncomputable def qJq:FI:=⟨f156,[.val .term,.val .term],[.bool],[],[],λ m x=>yd m x.1 x.2.1⟩
noncomputable def qGg:FI:=⟨f157,[.val .term],[(.int .i64)],[(11,[(1,.box [.keep,.keep,.keep,.list .term]),(4,.keep)])],[],λ m x=>yo m x.1⟩
noncomputable def qIF:FI:=⟨f158,[.val .term],[.term,.bool],[],[],λ m x=>qcm m x.1⟩
noncomputable def qGE:FI:=⟨f159,[.val (.list .term)],[.term,(.int .i64)],[(6,[(0,.list .term),(2,.box [.keep,.keep,.keep,.row .term true]),(5,.list .term),(6,.keep)])],[],λ m x=>qhu m x.1⟩
noncomputable def qIT:FI:=⟨f160,[.val .term],[.term,(.int .i64)],[],[],λ m x=>qat m x.1⟩
noncomputable def qI1:FI:=⟨f161,[.val .term,.val .term],[.term,(.int .i64)],[],[],λ m x=>qes m x.1 x.2.1⟩
noncomputable def qF7:FI:=⟨f163,[.val .term],[(.list .term)],[(7,[(1,.box [.keep,.keep,.keep,.list .term]),(3,.list .term),(4,.keep)])],[],λ m x=>zt m x.1⟩
noncomputable def qF2:FI:=⟨f164,[.val (.list .term),.val .term],[(.int .i64)],[(4,[(0,.list .term),(3,.box [.keep,.keep,.keep,.list .term]),(5,.keep)])],[],λ m x=>qeu m x.1 x.2.1⟩
noncomputable def qGC:FI:=⟨f167,[.val (.list (.pair .term (.int .i64)))],[(.int .i64)],[(4,[(0,.list (.pair .term (.int .i64))),(3,.keep)])],[],λ m x=>qa4 m x.1⟩
noncomputable def qFe:SI:=⟨f168,[.row (.pair .term (.int .i64)),.val .term,.val (.int .i64)],[.one (.row (.pair .term (.int .i64)))],[(4,[(0,.row (.pair .term (.int .i64)) false),(2,.keep),(4,.box [.keep,.keep,.keep,.list .term]),(7,.row (.pair .term (.int .i64)) false),(8,.keep),(9,.keep)])],[],λ m x=>qfp m x.1 x.2.1 x.2.2.1⟩
noncomputable def qF4:FI:=⟨f169,[.val (.list (.pair .term (.int .i64)))],[(.int .i64)],[(2,[(0,.list (.pair .term (.int .i64))),(3,.keep)])],[],λ m x=>qcj m x.1⟩
noncomputable def qGc:FI:=⟨f172,[.val .term],[.bool],[(7,[(1,.box [.keep,.keep,.keep,.list .term]),(3,.keep),(4,.keep)])],[],λ m x=>yq m x.1⟩
noncomputable def qFP:SI:=⟨f173,[.row (.pair .term (.int .i64)),.val .term,.val (.int .i64)],[.one (.row (.pair .term (.int .i64)))],[(6,[(0,.row (.pair .term (.int .i64)) false),(2,.keep),(4,.box [.keep,.keep,.keep,.list .term]),(7,.keep)])],[],λ m x=>zH m x.1 x.2.1 x.2.2.1⟩
noncomputable def qJs:FI:=⟨f174,[.val .term,.val .str],[.bool],[],[],λ m x=>yx m x.1 x.2.1⟩
noncomputable def qFb:FI:=⟨f175,[.val (.list .term),.val (.list .term)],[(.int .i64)],[(4,[(14,.list .term),(15,.keep),(16,.keep)])],[],λ m x=>qg9 m x.1 x.2.1⟩
noncomputable def qGo:FI:=⟨f176,[.val (.list .term),.val (.list .term)],[(.list .term)],[(2,[(0,.list .term),(1,.list .term),(5,.row .term false)])],[],λ m x=>qgO m x.1 x.2.1⟩
noncomputable def qGK:FI:=⟨f177,[.val .term],[(.list .term)],[(6,[(3,.list .term),(31,.list .term),(32,.keep),(33,.keep)])],[],λ m x=>zR m x.1⟩
noncomputable def qEO:FI:=⟨f178,[.val (.list .term)],[(.list .term)],[(3,[(3,.row .term false),(9,.list .term),(10,.keep),(11,.keep)])],[],λ m x=>QX m x.1⟩
noncomputable def qGO:SI:=⟨f179,[.row (.pair .term (.int .i64)),.val .term,.val (.int .i64)],[.one (.row (.pair .term (.int .i64))),.one (.val .bool)],[(12,[(0,.row (.pair .term (.int .i64)) false),(2,.keep),(52,.list .term),(53,.keep),(54,.keep)])],[],λ m x=>qZ m x.1 x.2.1 x.2.2.1⟩
noncomputable def qF5:FI:=⟨f180,[.val (.list (.pair .term (.int .i64)))],[(.int .i64)],[(4,[(0,.list (.pair .term (.int .i64))),(9,.list (.pair .term (.int .i64))),(10,.keep),(11,.keep)])],[],λ m x=>Q4 m x.1⟩
noncomputable def qFu:FI:=⟨f181,[.val .term],[.term],[(3,[(1,.box [.keep,.keep,.keep,.row .term false]),(2,.box [.keep,.keep,.keep,.row .term false]),(10,.row .term false),(11,.keep),(12,.keep)])],[],λ m x=>zb m x.1⟩
noncomputable def qIi:FI:=⟨f182,[.val .str,.val (.list .term)],[.term],[],[],λ m x=>qby m x.1 x.2.1⟩
noncomputable def qCK:FI:=⟨f183,[.val (.list (.list .term))],[(.list .term)],[(3,[(0,.list (.list .term)),(3,.keep),(9,.list (.list .term)),(10,.keep),(11,.keep)]),(11,[(6,.row .term false),(25,.list (.list .term)),(26,.keep),(27,.keep)])],[],λ m x=>zd m x.1⟩
noncomputable def qGr:FI:=⟨f184,[.val (.list (.pair .term (.int .i64))),.val (.list (.pair .term (.int .i64)))],[(.list (.pair .term (.int .i64))),(.int .i64)],[(9,[(8,.row (.pair .term (.int .i64)) false),(23,.list (.pair .term (.int .i64))),(24,.keep),(25,.keep)])],[],λ m x=>qc5 m x.1 x.2.1⟩
noncomputable def qIr:FI:=⟨f185,[.val .str,.val (.list .term)],[.term],[],[],λ m x=>qdZ m x.1 x.2.1⟩
noncomputable def qFQ:FI:=⟨f188,[.val .term],[.bool],[(3,[(1,.box [.keep,.keep,.keep,.list .term]),(3,.list (.pair .str (.pair (.int .i64) (.pair (.int .i64) (.int .i64))))),(4,.keep)])],[],λ m x=>qgf m x.1⟩
noncomputable def qF1:FI:=⟨f189,[.val .term],[.bool],[(4,[(1,.box [.keep,.keep,.keep,.list .term]),(3,.keep)])],[],λ m x=>qdd m x.1⟩
noncomputable def qJb:FI:=⟨f190,[],[.term],[],[],λ m x=>qf5 m⟩
noncomputable def qGj:FI:=⟨f191,[.val (.list .term),.val (.list .term)],[(.list .term)],[(3,[(1,.list .term),(5,.plist .term),(6,.keep)])],[],λ m x=>qd6 m x.1 x.2.1⟩
noncomputable def qIm:FI:=⟨f192,[.val (.list .term)],[.term],[],[],λ m x=>qgk m x.1⟩
noncomputable def qIA:FI:=⟨f193,[.val (.list (.pair .term (.int .i64)))],[.term,(.int .i64)],[],[],λ m x=>qaG m x.1⟩
noncomputable def qI2:FI:=⟨f195,[.val .term],[.bool],[],[],λ m x=>JA m x.1⟩
noncomputable def qFC:FI:=⟨f197,[.val .term,.val (.list (.int .i64)),.val .term],[.term,(.int .i64)],[(4,[(5,.box [.keep,.keep,.keep,.list .term]),(6,.box [.keep,.keep,.keep,.row .term false]),(8,.box [.keep,.keep,.keep,.list .term]),(9,.box []),(14,.list (.int .i64)),(15,.keep),(16,.keep)])],[],λ m x=>qdr m x.1 x.2.1 x.2.2.1⟩
noncomputable def qJd:FI:=⟨f198,[.val .term],[.bool],[],[],λ m x=>Ju m x.1⟩
noncomputable def qIl:SI:=⟨f199,[.row (.pair .term (.int .i64)),.val (.pair .term (.int .i64))],[.one (.row (.pair .term (.int .i64)))],[],[],λ m x=>Jt m x.1 x.2.1⟩
noncomputable def qE6:SI:=⟨f202,[.val (.list (.pair .term (.int .i64)))],[.one (.row (.pair .term (.int .i64)))],[(3,[(3,.row (.pair .term (.int .i64)) false),(6,.list (.pair .term (.int .i64))),(7,.keep),(8,.keep)])],[],λ m x=>qaH m x.1⟩
noncomputable def qIG:FI:=⟨f203,[.val (.list (.pair .term (.int .i64)))],[(.list (.pair .term (.int .i64))),(.int .i64)],[],[],λ m x=>qaJ m x.1⟩
noncomputable def qEP:FI:=⟨f214,[.val (.list .term),.val .term],[(.list .term)],[(5,[(0,.list .term),(3,.box [.keep,.keep,.keep,.list .term]),(5,.row .term false),(6,.keep)])],[],λ m x=>qdf m x.1 x.2.1⟩
noncomputable def quE:FI:=⟨f215,[.val (.list (.pair .term (.int .i64)))],[(.list .term)],[(3,[(0,.list (.pair .term (.int .i64))),(3,.row .term false),(4,.keep)]),(6,[(0,.list (.pair .term (.int .i64))),(3,.row .term false),(4,.keep),(5,.keep)]),(10,[(0,.list (.pair .term (.int .i64))),(3,.row .term false),(6,.keep)]),(13,[(0,.list (.pair .term (.int .i64))),(3,.row .term false),(6,.keep),(7,.keep)])],[],λ m x=>qbs m x.1⟩
noncomputable def qFz:FI:=⟨f219,[.val (.list (.pair .term (.int .i64))),.val .term,.fn],[(.int .i64),.bool],[(3,[(0,.list (.pair .term (.int .i64))),(2,.keep),(4,.box [.keep,.keep,.keep,.list .term]),(8,.keep),(9,.keep),(10,.keep)])],[],λ m x=>qx m x.1 x.2.1⟩
noncomputable def qI7:FI:=⟨f220,[.val (.pair .term (.int .i64)),.val .term],[(.int .i64)],[],[],λ m x=>Qv m x.1 x.2.1⟩
noncomputable def qJv:FI:=⟨f223,[.val (.list (.pair .term (.int .i64))),.fn],[.bool],[],[],λ m x=>qN m x.1⟩
noncomputable def qIQ:FI:=⟨f224,[.val (.pair .term (.int .i64))],[.bool],[],[],λ m x=>JI m x.1⟩
noncomputable def qFB:FI:=⟨f235,[.val (.list (.pair .term (.int .i64))),.fn],[(.int .i64)],[(2,[(0,.list (.pair .term (.int .i64))),(1,.keep),(7,.keep),(8,.keep)])],[],λ m x=>qX m x.1⟩
noncomputable def elT (f:Nat):Option Ty :=
cond (Nat.blt f 121)
 (cond (Nat.blt f 47)
 (cond (Nat.blt f 27)
 (cond (Nat.beq f 22) (some .term) (none))
 (cond (Nat.blt f 45)
 (cond (Nat.beq f 27) (some (.pair (.int .i64) .term)) (none))
 (cond (Nat.beq f 45) (some (.int .u8)) (none))))
 (cond (Nat.blt f 57)
 (cond (Nat.blt f 49)
 (cond (Nat.beq f 47) (some (.pair (.int .i64) .term)) (none))
 (cond (Nat.beq f 49) (some .str) (none)))
 (cond (Nat.blt f 59)
 (cond (Nat.beq f 57) (some (.int .i64)) (none))
 (cond (Nat.beq f 59) (some (.pair (.int .u8) (.int .u8))) (none)))))
 (cond (Nat.blt f 155)
 (cond (Nat.blt f 130)
 (cond (Nat.blt f 123)
 (cond (Nat.beq f 121) (some (.pair (.list (.int .i64)) (.int .i64))) (none))
 (cond (Nat.beq f 123) (some .bool) (none)))
 (cond (Nat.blt f 137)
 (cond (Nat.beq f 130) (some (.pair .str (.pair (.int .i64) (.pair (.int .i64) (.int .i64))))) (none))
 (cond (Nat.beq f 137) (some (.pair .term (.int .i64))) (none))))
 (cond (Nat.blt f 175)
 (cond (Nat.blt f 163)
 (cond (Nat.beq f 155) (some (.pair (.list .term) (.list (.int .i64)))) (none))
 (cond (Nat.beq f 163) (some (.list (.pair .term (.int .i64)))) (none)))
 (cond (Nat.blt f 182)
 (cond (Nat.beq f 175) (some (.list (.int .i64))) (none))
 (cond (Nat.beq f 182) (some (.list .term)) (none)))))
noncomputable def tb:Tb:=⟨tyT,elT,.node 102 (.node 51 (.node 29 (.node 18 (.node 12 (.node 10 (.node 8 (.node 6 .leaf .leaf (.pure [([],i6)])) .leaf (.pure [([],i8)])) (.node 11 .leaf .leaf (.pure [([],i11)])) (.pure [([],i10)])) (.node 16 (.node 14 (.node 13 .leaf .leaf (.pure [([],i13)])) .leaf (.pure [([],i14)])) (.node 17 .leaf .leaf (.pure [([],i17)])) (.pure [([],i16)])) (.pure [([],i12)])) (.node 24 (.node 22 (.node 21 (.node 19 .leaf .leaf (.pure [([],i19)])) .leaf (.pure [([],i21)])) (.node 23 .leaf .leaf (.pure [([],i23)])) (.pure [([],i22)])) (.node 27 (.node 26 (.node 25 .leaf .leaf (.pure [([],i25)])) .leaf (.pure [([],i26)])) (.node 28 .leaf .leaf (.pure [([],i28)])) (.pure [([],i27)])) (.pure [([],i24)])) (.pure [([],i18)])) (.node 42 (.node 37 (.node 35 (.node 31 (.node 30 .leaf .leaf (.pure [([],i30)])) .leaf (.pure [([],i31)])) (.node 36 .leaf .leaf (.pure [([],i36)])) (.pure [([],i35)])) (.node 40 (.node 39 (.node 38 .leaf .leaf (.pure [([],i38)])) .leaf (.pure [([],i39)])) (.node 41 .leaf .leaf (.pure [([],i41)])) (.pure [([],i40)])) (.pure [([],i37)])) (.node 47 (.node 45 (.node 44 (.node 43 .leaf .leaf (.pure [([],i43)])) .leaf (.pure [([],i44)])) (.node 46 .leaf .leaf (.pure [([],i46)])) (.pure [([],i45)])) (.node 49 (.node 48 .leaf .leaf (.pure [([],i48)])) (.node 50 .leaf .leaf (.pure [([],i50)])) (.pure [([],i49)])) (.pure [([],i47)])) (.pure [([],i42)])) (.pure [([],i29)])) (.node 79 (.node 69 (.node 64 (.node 55 (.node 54 (.node 52 .leaf .leaf (.hk λ _=>⟨[.row (.pair (.int .i64) .term),.clo 53 1,.box [.val (.pair (.int .i64) .term)]],λ x=>yN 0 x.1 x.2.1⟩)) .leaf (.pure [([],i54)])) (.node 62 .leaf .leaf (.pure [([],i62)])) (.hs ⟨[.row (.pair (.int .i64) .term),.val (.int .i64),.val (.int .i64)],[.one (.row (.pair (.int .i64) .term))],λ x=>yX 0 x.1 x.2.1 x.2.2.1⟩)) (.node 67 (.node 66 (.node 65 .leaf .leaf (.pure [([],i65)])) .leaf (.pure [([],i66)])) (.node 68 .leaf .leaf (.pure [([],i68)])) (.pure [([],i67)])) (.pure [([],i64)])) (.node 74 (.node 72 (.node 71 (.node 70 .leaf .leaf (.pure [([],i70)])) .leaf (.pure [([],i71)])) (.node 73 .leaf .leaf (.pure [([],i73)])) (.pure [([],i72)])) (.node 77 (.node 76 (.node 75 .leaf .leaf (.pure [([],i75)])) .leaf (.pure [([],i76)])) (.node 78 .leaf .leaf (.pure [([],i78)])) (.pure [([],i77)])) (.st i74)) (.pure [([],i69)])) (.node 93 (.node 88 (.node 86 (.node 85 (.node 81 .leaf .leaf (.pure [([],i81)])) .leaf (.pure [([],i85)])) (.node 87 .leaf .leaf (.pure [([],i87)])) (.pure [([],i86)])) (.node 91 (.node 90 (.node 89 .leaf .leaf (.pure [([],i89)])) .leaf (.pure [([],i90)])) (.node 92 .leaf .leaf (.pure [([],i92)])) (.pure [([],i91)])) (.pure [([],i88)])) (.node 98 (.node 96 (.node 95 (.node 94 .leaf .leaf (.pure [([],i94)])) .leaf (.pure [([],i95)])) (.node 97 .leaf .leaf (.pure [([],i97)])) (.pure [([],i96)])) (.node 100 (.node 99 .leaf .leaf (.pure [([],i99)])) (.node 101 .leaf .leaf (.pure [([],qIJ)])) (.pure [([],qGx)])) (.pure [([],i98)])) (.pure [([94],i93)])) (.pure [([],i79)])) (.st i51)) (.node 169 (.node 146 (.node 126 (.node 121 (.node 105 (.node 104 (.node 103 .leaf .leaf (.pure [([],qIw)])) .leaf (.pure [([],qEY)])) (.node 120 .leaf .leaf (.pure [([],qIy)])) (.hp ⟨[.val .str,.val .str],[(.int .i64)],λ x=>strings_Compare 0 x.1 x.2.1⟩)) (.node 124 (.node 123 (.node 122 .leaf .leaf (.pure [([],qII)])) .leaf (.pure [([],qIL)])) (.node 125 .leaf .leaf (.pure [([],qGP)])) (.pure [([],qIO)])) (.pure [([],qIo)])) (.node 131 (.node 129 (.node 128 (.node 127 .leaf .leaf (.st qF3)) .leaf (.st qI5)) (.node 130 .leaf .leaf (.pure [([],qIB)])) (.st qGH)) (.node 134 (.node 133 (.node 132 .leaf .leaf (.pure [([],qJp)])) .leaf (.pure [([],qGe)])) (.node 143 .leaf .leaf (.pure [([],qER)])) (.pure [([],qIh)])) (.pure [([],qET)])) (.hp ⟨[],[(.list (.pair .str (.pair (.int .i64) (.pair (.int .i64) (.int .i64)))))],λ x=>qgA 0⟩)) (.node 157 (.node 151 (.node 149 (.node 148 (.node 147 .leaf .leaf (.pure [([],qCy)])) .leaf (.pure [([],qIt)])) (.node 150 .leaf .leaf (.pure [([],qIV)])) (.pure [([],qGA)])) (.node 155 (.node 154 (.node 152 .leaf .leaf (.pure [([],qIK)])) .leaf (.hm λ m=>⟨.term,[.clo 78 0],λ x=>qQ m x.1⟩)) (.node 156 .leaf .leaf (.pure [([],qJq)])) (.hx λ m=>⟨[.row .term,.clo 156 0],[.one (.row .term)],λ x=>qD m x.1⟩)) (.pure [([],qyz)])) (.node 163 (.node 160 (.node 159 (.node 158 .leaf .leaf (.pure [([],qIF)])) .leaf (.pure [([],qGE)])) (.node 161 .leaf .leaf (.pure [([],qI1)])) (.pure [([],qIT)])) (.node 167 (.node 164 .leaf .leaf (.pure [([],qF2)])) (.node 168 .leaf .leaf (.st qFe)) (.pure [([],qGC)])) (.pure [([],qF7)])) (.pure [([],qGg)])) (.pure [([],qJo)])) (.node 192 (.node 181 (.node 176 (.node 174 (.node 173 (.node 172 .leaf .leaf (.pure [([],qGc)])) .leaf (.st qFP)) (.node 175 .leaf .leaf (.pure [([],qFb)])) (.pure [([],qJs)])) (.node 179 (.node 178 (.node 177 .leaf .leaf (.pure [([],qGK)])) .leaf (.pure [([],qEO)])) (.node 180 .leaf .leaf (.pure [([],qF5)])) (.st qGO)) (.pure [([],qGo)])) (.node 188 (.node 184 (.node 183 (.node 182 .leaf .leaf (.pure [([],qIi)])) .leaf (.pure [([],qCK)])) (.node 185 .leaf .leaf (.pure [([],qIr)])) (.pure [([],qGr)])) (.node 190 (.node 189 .leaf .leaf (.pure [([],qF1)])) (.node 191 .leaf .leaf (.pure [([],qGj)])) (.pure [([],qJb)])) (.pure [([],qFQ)])) (.pure [([],qFu)])) (.node 214 (.node 199 (.node 197 (.node 195 (.node 193 .leaf .leaf (.pure [([],qIA)])) .leaf (.pure [([],qI2)])) (.node 198 .leaf .leaf (.pure [([],qJd)])) (.pure [([],qFC)])) (.node 202 (.node 201 (.node 200 .leaf .leaf (.hs ⟨[.val (.list .term)],[.one (.row .term)],λ x=>zG 0 x.1⟩)) .leaf (.hs ⟨[.nil,.val (.int .i64)],[.one (.row .term)],λ x=>yw 0 x.1⟩)) (.node 203 .leaf .leaf (.pure [([],qIG)])) (.st qE6)) (.st qIl)) (.node 222 (.node 220 (.node 219 (.node 215 .leaf .leaf (.pure [([],quE)])) .leaf (.pure [([220],qFz)])) (.node 221 .leaf .leaf (.hs ⟨[.row (.pair .term (.int .i64)),.val (.int .i64),.val (.list (.pair .term (.int .i64)))],[.one (.row (.pair .term (.int .i64)))],λ x=>zl 0 x.1 x.2.1 x.2.2.1⟩)) (.pure [([],qI7)])) (.node 224 (.node 223 .leaf .leaf (.pure [([224],qJv)])) (.node 235 .leaf .leaf (.pure [([224],qFB)])) (.pure [([],qIQ)])) (.hs ⟨[.row (.pair .term (.int .i64)),.val (.int .i64),.val (.int .i64)],[.one (.row (.pair .term (.int .i64)))],λ x=>zm 0 x.1 x.2.1 x.2.2.1⟩)) (.pure [([],qEP)])) (.pure [([],qIm)])) (.pure [([],qF4)])) (.pure [([],qFd)])⟩
end Go.AmYtbpnmbmdbblehaaGreat
namespace Go.AmYtbpnmbmdbblehaaGreat
open Go Go.GxYtbpnmbmdbblehaaGreat
set_option linter.unusedVariables false
set_option maxRecDepth 100000
theorem qyp (m a0):qfh (m+1) a0=tb.runP1 m qIh [] (a0,()):=by kernel_rfl
noncomputable def qkN (m k x0 x1 x2):=tb.PL qFd 4 m k [(0,.s x0),(38,.i .i64 x1),(39,.i .i64 x2)] ⟨[],[]⟩
theorem qrM (m k):jH m k=qkN m k:=qG (M:=qkN m) rfl (λ _=>by kernel_rfl) k
theorem quT (m a0):qaW (m+1) a0=tb.runP1 m qFd [] (a0,()):=(congrArg (λ L=>qdJ m L a0) (qrM m m)).trans (by kernel_rfl)
noncomputable def qmZ (m k x0 x1 x2 x3 x4 x5):=tb.QL i74 17 m k [(1,.i .i64 x0),(2,.ptr 0 0),(3,.ptr 1 0),(57,.sl .term x1 1),(58,.i .i64 x2),(59,.i .i64 x3)] ⟨[[.i .i64 x4],[.i .i64 x5]],[]⟩
theorem qtJ (m k):yW m (zD m) k=qmZ m k:=qG (M:=qmZ m) rfl (λ _=>by kernel_rfl) k
theorem qwF (m a0 a1 a2 a3):zD (m+1) a0 a1 a2 a3=tb.runS1 m i74 (a0,a1,a2,a3,()):=(congrArg (λ L=>qeX m (zD m) L a0 a1 a2 a3) (qtJ m m)).trans (by kernel_rfl)
theorem qwv (m a0):zc (m+1) a0=tb.runP1 m i45 [] (a0,()):=by kernel_rfl
noncomputable def qjz (m k x0 x1 x2 x3 x4 x5 x6 x7):=tb.PL i95 2 m k [(0,.s x0),(2,.ptr 0 0),(5,.sl (.pair .str (.pair (.int .i64) (.pair (.int .i64) (.int .i64)))) x1 1),(6,.i .i64 x2),(7,.i .i64 x3)] ⟨[[.s x4,.i .i64 x5,.i .i64 x6,.i .i64 x7]],[]⟩
theorem qpK (m k):Qm m k=qjz m k:=qG (M:=qjz m) rfl (λ _=>by kernel_rfl) k
theorem qqe (m a0):qaw (m+1) a0=tb.runP1 m i95 [] (a0,()):=(congrArg (λ L=>qb8 m L a0) (qpK m m)).trans (by kernel_rfl)
noncomputable def qj9 (m k x0 x1 x2 x3 x4 x5 x6):=tb.PL qCy 13 m k [(1,.ptr 0 0),(38,.sl .term x0 1),(39,.i .i64 x1),(40,.i .i64 x2)] ⟨[[.i .i64 x3,.s x4,.i .i64 x5,.sl .term x6 1]],[]⟩
noncomputable def qkn (m k x0 x1 x2):=tb.PL qCy 22 m k [(62,.sl .term x0 1),(63,.i .i64 x1),(64,.i .i64 x2)] ⟨[],[]⟩
theorem qrc (m k):qM m (qz m) k=(qj9 m k,qkn m k):=qG (M := λ k=>(qj9 m k,qkn m k)) rfl (λ _=>by kernel_rfl) k
theorem qsR (m a0):qz (m+1) a0=tb.runP1 m qCy [] (a0,()):=(congrArg (a₁ := qM m (qz m) m) (λ L=>qcN m (qz m) L.1 L.2 a0) (qrc m m)).trans (by kernel_rfl)
theorem qtk (m a0):qdz (m+1) a0=tb.runP1 m qIO [] (a0,()):=by kernel_rfl
theorem qxV (m a0 a1):qbJ (m+1) a0 a1=tb.runP1 m qIw [] (a0,a1,()):=by kernel_rfl
noncomputable def qog (m k x0 x1 x2 x3):=tb.PL qEY 3 m k [(3,.i .i64 x0),(7,.sl .term x1 1),(8,.i .i64 x2),(9,.i .i64 x3)] ⟨[],[]⟩
theorem qwl (m k):qaX m (jo m) k=qog m k:=qG (M:=qog m) rfl (λ _=>by kernel_rfl) k
theorem qy2 (m a0):jo (m+1) a0=tb.runP1 m qEY [] (a0,()):=(congrArg (λ L=>qfF m (jo m) L a0) (qwl m m)).trans (by kernel_rfl)
noncomputable def qkg (m k x0 x1 x2 x3 x4 x5 x6 x7 x8 x9):=tb.PL i78 11 m k [(2,.ptr 0 0),(3,.ptr 1 0),(5,.i .i64 x0),(6,.i .i64 x1)] ⟨[[.i .i64 x2,.s x3,.i .i64 x4,.sl .term x5 1],[.i .i64 x6,.s x7,.i .i64 x8,.sl .term x9 1]],[]⟩
theorem qp8 (m k):jr m (qt m) k=qkg m k:=qG (M:=qkg m) rfl (λ _=>by kernel_rfl) k
theorem qtm (m a0 a1):qt (m+1) a0 a1=tb.runP1 m i78 [] (a0,a1,()):=(congrArg (λ L=>qcB m (qt m) L a0 a1) (qp8 m m)).trans (by kernel_rfl)
theorem qut (m a0 a1):Qc (m+1) a0 a1=tb.runP1 m i92 [] (a0,a1,()):=by kernel_rfl
theorem qyd (m a0 a1):yx (m+1) a0 a1=tb.runP1 m qJs [] (a0,a1,()):=by kernel_rfl
theorem qpO (m a0):J1 (m+1) a0=tb.runP1 m qIt [] (a0,()):=by kernel_rfl
noncomputable def JL (m k x0 x1 x2 x3 x4):=tb.PL qCK 3 m k [(0,.sl (.list .term) x0 1),(3,.i .i64 x1),(9,.sl (.list .term) x2 1),(10,.i .i64 x3),(11,.i .i64 x4)] ⟨[],[]⟩
noncomputable def JG (m k x0 x1 x2 x3):=tb.PL qCK 11 m k [(6,.row 0 0),(25,.sl (.list .term) x0 1),(26,.i .i64 x1),(27,.i .i64 x2)] ⟨[],[⟨.term,x3,0,0,false⟩]⟩
theorem qdN (m k):ql m k=(JL m k,JG m k):=qG (M := λ k=>(JL m k,JG m k)) rfl (λ _=>by kernel_rfl) k
theorem qeg (m a0):zd (m+1) a0=tb.runP1 m qCK [] (a0,()):=(congrArg (a₁ := ql m m) (λ L=>yy m L.1 L.2 a0) (qdN m m)).trans (by kernel_rfl)
noncomputable def qn2 (m k x0 x1 x2):=tb.PL qFb 4 m k [(14,.sl .term x0 1),(15,.i .i64 x1),(16,.i .i64 x2)] ⟨[],[]⟩
theorem qwL (m k):qaY m k=qn2 m k:=qG (M:=qn2 m) rfl (λ _=>by kernel_rfl) k
theorem qyg (m a0 a1):qg9 (m+1) a0 a1=tb.runP1 m qFb [] (a0,a1,()):=(congrArg (λ L=>qgi m L a0 a1) (qwL m m)).trans (by kernel_rfl)
noncomputable def qpT (m k x0 x1 x2):=tb.PL qGo 2 m k [(0,.sl .term x0 1),(1,.sl .term x1 1),(5,.row 0 0)] ⟨[],[⟨.term,x2,0,0,false⟩]⟩
theorem qzi (m k):qbN m k=qpT m k:=qG (M:=qpT m) rfl (λ _=>by kernel_rfl) k
theorem qz4 (m a0 a1):qgO (m+1) a0 a1=tb.runP1 m qGo [] (a0,a1,()):=(congrArg (λ L=>qg5 m L a0 a1) (qzi m m)).trans (by kernel_rfl)
noncomputable def qkp (m k x0 x1 x2 x3):=tb.PL qGK 6 m k [(3,.sl .term x0 1),(31,.sl .term x1 1),(32,.i .i64 x2),(33,.i .i64 x3)] ⟨[],[]⟩
theorem qrp (m k):jW m (zR m) k=qkp m k:=qG (M:=qkp m) rfl (λ _=>by kernel_rfl) k
theorem qti (m a0):zR (m+1) a0=tb.runP1 m qGK [] (a0,()):=(congrArg (λ L=>qcT m (zR m) L a0) (qrp m m)).trans (by kernel_rfl)
noncomputable def qmR (m k x0 x1 x2 x3 x4 x5 x6 x7 x8 x9 x10):=tb.PL i97 4 m k [(1,.ptr 0 0),(2,.ptr 1 0),(9,.sl .term x0 1),(10,.i .i64 x1),(11,.i .i64 x2)] ⟨[[.i .i64 x3,.s x4,.i .i64 x5,.row 0 0],[.i .i64 x6,.s x7,.i .i64 x8,.row 1 0]],[⟨.term,x9,0,0,false⟩,⟨.term,x10,0,0,false⟩]⟩
theorem qtG (m k):qac m (yn m) k=qmR m k:=qG (M:=qmR m) rfl (λ _=>by kernel_rfl) k
theorem qwJ (m a0):yn (m+1) a0=tb.runP1 m i97 [] (a0,()):=(congrArg (λ L=>qeI m (yn m) L a0) (qtG m m)).trans (by kernel_rfl)
noncomputable def qjO (m k x0 x1 x2 x3 x4 x5 x6 x7 x8 x9 x10 x11 x12 x13 x14):=tb.PL qFC 4 m k [(5,.ptr 0 0),(6,.ptr 1 0),(8,.ptr 2 0),(9,.ptr 2 0),(14,.sl (.int .i64) x0 1),(15,.i .i64 x1),(16,.i .i64 x2)] ⟨[[.i .i64 x3,.s x4,.i .i64 x5,.sl .term x6 1],[.i .i64 x7,.s x8,.i .i64 x9,.row 0 0],[.i .i64 x10,.s x11,.i .i64 x12,.sl .term x13 1]],[⟨.term,x14,0,0,false⟩]⟩
theorem qqy (m k):J3 m k=qjO m k:=qG (M:=qjO m) rfl (λ _=>by kernel_rfl) k
theorem qtu (m a0 a1 a2):qdr (m+1) a0 a1 a2=tb.runP1 m qFC [] (a0,a1,a2,()):=(congrArg (λ L=>qcD m L a0 a1 a2) (qqy m m)).trans (by kernel_rfl)
noncomputable def qsX (m k x0 x1 x2 x3):=tb.PL qEO 3 m k [(3,.row 0 0),(9,.sl .term x0 1),(10,.i .i64 x1),(11,.i .i64 x2)] ⟨[],[⟨.term,x3,0,0,false⟩]⟩
theorem qAe (m k):qc9 m (QX m) k=qsX m k:=qG (M:=qsX m) rfl (λ _=>by kernel_rfl) k
theorem qCT (m a0):QX (m+1) a0=tb.runP1 m qEO [] (a0,()):=(congrArg (λ L=>qid m (QX m) L a0) (qAe m m)).trans (by kernel_rfl)
noncomputable def qrK (m k x0 x1 x2 x3 x4 x5 x6 x7):=tb.PL qGA 6 m k [(2,.ptr 0 0),(5,.sl .term x0 1),(15,.sl .term x1 1),(16,.i .i64 x2),(17,.i .i64 x3)] ⟨[[.i .i64 x4,.s x5,.i .i64 x6,.row 0 0]],[⟨.term,x7,0,0,true⟩]⟩
theorem qz6 (m k):qdn m k=qrK m k:=qG (M:=qrK m) rfl (λ _=>by kernel_rfl) k
theorem qB7 (m a0):qle (m+1) a0=tb.runP1 m qGA [] (a0,()):=(congrArg (λ L=>qh8 m L a0) (qz6 m m)).trans (by kernel_rfl)
theorem qn5 (m a0):Ju (m+1) a0=tb.runP1 m qJd [] (a0,()):=by kernel_rfl
noncomputable def qhT (m k x0 x1 x2 x3 x4 x5 x6 x7 x8 x9):=tb.PL qFu 3 m k [(1,.ptr 0 0),(2,.ptr 1 0),(10,.row 0 0),(11,.i .i64 x0),(12,.i .i64 x1)] ⟨[[.i .i64 x2,.s x3,.i .i64 x4,.row 0 0],[.i .i64 x5,.s x6,.i .i64 x7,.row 1 0]],[⟨.term,x8,0,0,false⟩,⟨.term,x9,0,0,false⟩]⟩
theorem qnN (m k):jN m (zb m) k=qhT m k:=qG (M:=qhT m) rfl (λ _=>by kernel_rfl) k
theorem qpA (m a0):zb (m+1) a0=tb.runP1 m qFu [] (a0,()):=(congrArg (λ L=>qbb m (zb m) L a0) (qnN m m)).trans (by kernel_rfl)
theorem qlM (m a0 a1):Qv (m+1) a0 a1=tb.runP1 m qI7 [] (a0,a1,()):=by kernel_rfl
noncomputable def zZ (m k x0 x1 x2 x3 x4 x5 x6 x7):=tb.PL qFz 3 m k [(0,.sl (.pair .term (.int .i64)) x0 1),(2,.fn 220 []),(4,.ptr 0 0),(8,.i .i64 x1),(9,.i .i64 x2),(10,.i .i64 x3)] ⟨[[.i .i64 x4,.s x5,.i .i64 x6,.sl .term x7 1]],[]⟩
theorem jS (m k):qn m k=zZ m k:=qG (M:=zZ m) rfl (λ _=>by kernel_rfl) k
theorem Qa (m a0 a1):qx (m+1) a0 a1=tb.runP1 m qFz [220] (a0,a1,()):=(congrArg (λ L=>qC m L a0 a1) (jS m m)).trans (by kernel_rfl)
theorem qnK (m a0 a1):Jt (m+1) a0 a1=tb.runS1 m qIl (a0,a1,()):=by kernel_rfl
noncomputable def qgo (m k x0 x1 x2 x3 x4):=tb.QL qGO 12 m k [(0,.row 0 0),(2,.i .i64 x0),(52,.sl .term x1 1),(53,.i .i64 x2),(54,.i .i64 x3)] ⟨[],[⟨(.pair .term (.int .i64)),x4,0,0,false⟩]⟩
theorem qlz (m k):yS m (qZ m) k=qgo m k:=qG (M:=qgo m) rfl (λ _=>by kernel_rfl) k
theorem qni (m a0 a1 a2):qZ (m+1) a0 a1 a2=tb.runS1 m qGO (a0,a1,a2,()):=(congrArg (λ L=>qam m (qZ m) L a0 a1 a2) (qlz m m)).trans (by kernel_rfl)
theorem qtP (m a0):JY (m+1) a0=tb.runP1 m qIV [] (a0,()):=by kernel_rfl
noncomputable def qhS (m k x0 x1 x2 x3):=tb.PL qF5 4 m k [(0,.sl (.pair .term (.int .i64)) x0 1),(9,.sl (.pair .term (.int .i64)) x1 1),(10,.i .i64 x2),(11,.i .i64 x3)] ⟨[],[]⟩
theorem qoF (m k):jn m k=qhS m k:=qG (M:=qhS m) rfl (λ _=>by kernel_rfl) k
theorem qpM (m a0):Q4 (m+1) a0=tb.runP1 m qF5 [] (a0,()):=(congrArg (λ L=>qbl m L a0) (qoF m m)).trans (by kernel_rfl)
theorem qs3 (m a0 a1):qby (m+1) a0 a1=tb.runP1 m qIi [] (a0,a1,()):=by kernel_rfl
noncomputable def qiN (m k x0 x1 x2 x3 x4 x5 x6 x7 x8):=tb.PL qyz 6 m k [(2,.ptr 0 0),(5,.row 1 0),(6,.row 2 0),(18,.sl (.pair .term (.int .i64)) x0 1),(19,.i .i64 x1),(20,.i .i64 x2)] ⟨[[.i .i64 x3,.s x4,.i .i64 x5,.row 0 0]],[⟨.term,x6,0,0,false⟩,⟨.term,x7,0,0,false⟩,⟨.term,x8,0,0,false⟩]⟩
noncomputable def qi6 (m k x0 x1 x2 x3 x4 x5 x6 x7 x8 x9 x10 x11 x12 x13 x14 x15):=tb.PL qyz 11 m k [(2,.ptr 0 0),(5,.row 1 0),(6,.row 2 0),(8,.ptr 1 0),(18,.sl (.pair .term (.int .i64)) x0 1),(19,.i .i64 x1),(20,.i .i64 x2),(34,.i .i64 x3),(35,.i .i64 x4)] ⟨[[.i .i64 x5,.s x6,.i .i64 x7,.row 0 0],[.i .i64 x8,.s x9,.i .i64 x10,.sl .term x11 1,.i .i64 x12]],[⟨.term,x13,0,0,false⟩,⟨.term,x14,0,0,false⟩,⟨.term,x15,0,0,false⟩]⟩
noncomputable def qjp (m k x0 x1 x2 x3 x4 x5 x6 x7 x8 x9 x10 x11 x12 x13 x14 x15):=tb.PL qyz 15 m k [(2,.ptr 0 0),(5,.row 1 0),(6,.row 2 0),(8,.ptr 1 0),(18,.sl (.pair .term (.int .i64)) x0 1),(19,.i .i64 x1),(20,.i .i64 x2),(46,.i .i64 x3),(47,.i .i64 x4)] ⟨[[.i .i64 x5,.s x6,.i .i64 x7,.row 0 0],[.i .i64 x8,.s x9,.i .i64 x10,.sl .term x11 1,.i .i64 x12]],[⟨.term,x13,0,0,false⟩,⟨.term,x14,0,0,false⟩,⟨.term,x15,0,0,false⟩]⟩
theorem qpE (m k):qu m k=(qiN m k,qi6 m k,qjp m k):=qG (M := λ k=>(qiN m k,qi6 m k,qjp m k)) rfl (λ _=>by kernel_rfl) k
theorem qrb (m a0):jF (m+1) a0=tb.runP1 m qyz [] (a0,()):=(congrArg (a₁ := qu m m) (λ L=>qce m L.1 L.2.1 L.2.2 a0) (qpE m m)).trans (by kernel_rfl)
noncomputable def qhg (m k x0 x1 x2 x3):=tb.QL qE6 3 m k [(3,.row 0 0),(6,.sl (.pair .term (.int .i64)) x0 1),(7,.i .i64 x1),(8,.i .i64 x2)] ⟨[],[⟨(.pair .term (.int .i64)),x3,0,0,false⟩]⟩
theorem qnq (m k):jx m k=qhg m k:=qG (M:=qhg m) rfl (λ _=>by kernel_rfl) k
theorem qn4 (m a0):qaH (m+1) a0=tb.runS1 m qE6 (a0,()):=(congrArg (λ L=>qax m L a0) (qnq m m)).trans (by kernel_rfl)
theorem qlW (m a0):JI (m+1) a0=tb.runP1 m qIQ [] (a0,()):=by kernel_rfl
noncomputable def jw (m k x0 x1 x2):=tb.PL qFB 2 m k [(0,.sl (.pair .term (.int .i64)) x0 1),(1,.fn 224 []),(7,.i .i64 x1),(8,.i .i64 x2)] ⟨[],[]⟩
theorem qan (m k):qv m k=jw m k:=qG (M:=jw m) rfl (λ _=>by kernel_rfl) k
theorem qap (m a0):qX (m+1) a0=tb.runP1 m qFB [224] (a0,()):=(congrArg (λ L=>zo m L a0) (qan m m)).trans (by kernel_rfl)
theorem J2 (m a0):qN (m+1) a0=tb.runP1 m qJv [224] (a0,()):=by kernel_rfl
theorem qot (m a0):qaJ (m+1) a0=tb.runP1 m qIG [] (a0,()):=by kernel_rfl
noncomputable def qjY (m k x0 x1 x2 x3):=tb.PL qGr 9 m k [(8,.row 0 0),(23,.sl (.pair .term (.int .i64)) x0 1),(24,.i .i64 x1),(25,.i .i64 x2)] ⟨[],[⟨(.pair .term (.int .i64)),x3,0,0,false⟩]⟩
theorem qq7 (m k):Q6 m k=qjY m k:=qG (M:=qjY m) rfl (λ _=>by kernel_rfl) k
theorem qrv (m a0 a1):qc5 (m+1) a0 a1=tb.runP1 m qGr [] (a0,a1,()):=(congrArg (λ L=>qcK m L a0 a1) (qq7 m m)).trans (by kernel_rfl)
theorem qwh (m a0 a1):qdZ (m+1) a0 a1=tb.runP1 m qIr [] (a0,a1,()):=by kernel_rfl
theorem qsV (m a0 a1):qdg (m+1) a0 a1=tb.runP1 m qIK [] (a0,a1,()):=by kernel_rfl
noncomputable def qjI (m k x0 x1 x2 x3 x4 x5 x6 x7 x8 x9 x10 x11 x12 x13 x14):=tb.PL qGP 5 m k [(1,.ptr 0 0),(2,.ptr 1 0),(4,.ptr 2 0),(19,.sl .term x0 1),(20,.i .i64 x1),(21,.i .i64 x2)] ⟨[[.i .i64 x3,.s x4,.i .i64 x5,.sl .term x6 1],[.i .i64 x7,.s x8,.i .i64 x9,.row 0 0],[.i .i64 x10,.s x11,.i .i64 x12,.row 1 0]],[⟨.term,x13,0,0,false⟩,⟨.term,x14,0,0,false⟩]⟩
theorem qpJ (m k):Qe m (zP m) k=qjI m k:=qG (M:=qjI m) rfl (λ _=>by kernel_rfl) k
theorem qp5 (m a0):zP (m+1) a0=tb.runP1 m qGP [] (a0,()):=(congrArg (λ L=>qbU m (zP m) L a0) (qpJ m m)).trans (by kernel_rfl)
theorem qqM (m a0):qck (m+1) a0=tb.runP1 m i91 [] (a0,()):=by kernel_rfl
theorem qpu (m a0):qbt (m+1) a0=tb.runP1 m i94 [] (a0,()):=by kernel_rfl
noncomputable def qfj (m k x0 x1 x2):=tb.PL i93 4 m k [(1,.fn 94 []),(18,.sl .term x0 1),(19,.i .i64 x1),(20,.i .i64 x2)] ⟨[],[]⟩
theorem qkF (m k):ym m (qI m) k=qfj m k:=qG (M:=qfj m) rfl (λ _=>by kernel_rfl) k
theorem qkZ (m a0):qI (m+1) a0=tb.runP1 m i93 [94] (a0,()):=(congrArg (λ L=>Jr m (qI m) L a0) (qkF m m)).trans (by kernel_rfl)
theorem qtq (m a0):qdc (m+1) a0=tb.runP1 m i68 [] (a0,()):=by kernel_rfl
theorem qjJ (m a0 a1 a2):Qs (m+1) a0 a1 a2=tb.runS1 m qI5 (a0,a1,a2,()):=by kernel_rfl
noncomputable def qfD (m k x0 x1 x2 x3 x4):=tb.QL qF3 3 m k [(1,.fn 128 [.ptr 0 0,.ptr 1 0]),(10,.sl .term x0 1),(11,.i .i64 x1),(12,.i .i64 x2)] ⟨[[.i .i64 x3],[.row 0 0]],[⟨.term,x4,0,0,false⟩]⟩
theorem qkQ (m k):yY m (q9 m) k=qfD m k:=qG (M:=qfD m) rfl (λ _=>by kernel_rfl) k
theorem qlH (m a0 a1_0 a1_1):q9 (m+1) a0 a1_0 a1_1=tb.runS1 m qF3 (a0,a1_0,a1_1,()):=(congrArg (λ L=>JT m (q9 m) L a0 a1_0 a1_1) (qkQ m m)).trans (by kernel_rfl)
theorem qpz (m a0 a1):yd (m+1) a0 a1=tb.runP1 m qJq [] (a0,a1,()):=by kernel_rfl
noncomputable def qj4 (m k x0 x1 x2):=tb.QL qGH 4 m k [(0,.row 0 0),(9,.i .i64 x0),(10,.i .i64 x1)] ⟨[],[⟨.term,x2,0,0,false⟩]⟩
theorem qre (m k):QW m k=qj4 m k:=qG (M:=qj4 m) rfl (λ _=>by kernel_rfl) k
theorem qtn (m a0):qdp (m+1) a0=tb.runS1 m qGH (a0,()):=(congrArg (λ L=>qcO m L a0) (qre m m)).trans (by kernel_rfl)
theorem quc (m a0 a1):qg6 (m+1) a0 a1=tb.runP1 m i96 [] (a0,a1,()):=by kernel_rfl
theorem qyY (m a0):qg7 (m+1) a0=tb.runP1 m i69 [] (a0,()):=by kernel_rfl
theorem qqv (m a0):yV (m+1) a0=tb.runP1 m i41 [] (a0,()):=by kernel_rfl
noncomputable def qsK (m k x0 x1 x2 x3 x4 x5 x6 x7 x8 x9 x10):=tb.PL i70 2 m k [(2,.ptr 0 0),(4,.ptr 1 0),(8,.sl (.int .i64) x0 1),(9,.i .i64 x1),(10,.i .i64 x2)] ⟨[[.i .i64 x3,.s x4,.i .i64 x5,.sl .term x6 1],[.i .i64 x7,.s x8,.i .i64 x9,.row 0 0]],[⟨.term,x10,0,0,false⟩]⟩
theorem qz2 (m k):qfk m k=qsK m k:=qG (M:=qsK m) rfl (λ _=>by kernel_rfl) k
theorem qCA (m a0 a1):qlx (m+1) a0 a1=tb.runP1 m i70 [] (a0,a1,()):=(congrArg (λ L=>qiy m L a0 a1) (qz2 m m)).trans (by kernel_rfl)
theorem qpx (m a0):zC (m+1) a0=tb.runP1 m i42 [] (a0,()):=by kernel_rfl
theorem qt8 (m a0):qkx (m+1) a0=tb.runP1 m i12 [] (a0,()):=by kernel_rfl
theorem qnu (m a0 a1):qaS (m+1) a0 a1=tb.runP1 m i65 [] (a0,a1,()):=by kernel_rfl
theorem qtM (m a0):qgZ (m+1) a0=tb.runP1 m i73 [] (a0,()):=by kernel_rfl
theorem qs4 (m a0):qc2 (m+1) a0=tb.runP1 m i44 [] (a0,()):=by kernel_rfl
theorem quV (m a0):qeC (m+1) a0=tb.runP1 m i46 [] (a0,()):=by kernel_rfl
noncomputable def qkT (m k x0 x1 x2 x3 x4 x5 x6 x7 x8 x9):=tb.PL i14 7 m k [(4,.ptr 0 0),(6,.ptr 1 0),(21,.i .i64 x0),(22,.i .i64 x1)] ⟨[[.i .i64 x2,.s x3,.i .i64 x4,.row 0 0],[.i .i64 x5,.s x6,.i .i64 x7,.sl .term x8 1]],[⟨.term,x9,0,0,false⟩]⟩
theorem qsm (m k):qmT m k=qkT m k:=qG (M:=qkT m) rfl (λ _=>by kernel_rfl) k
theorem qtN (m a0 a1):qgY (m+1) a0 a1=tb.runP1 m i14 [] (a0,a1,()):=(congrArg (λ L=>qkP m L a0 a1) (qsm m m)).trans (by kernel_rfl)
theorem qsS (m a0 a1):Jp (m+1) a0 a1=tb.runP1 m i76 [] (a0,a1,()):=by kernel_rfl
noncomputable def qnf (m k x0 x1 x2 x3 x4 x5):=tb.PL i77 3 m k [(1,.ptr 0 0),(3,.i .i64 x0),(4,.i .i64 x1)] ⟨[[.i .i64 x2,.s x3,.i .i64 x4,.sl .term x5 1]],[]⟩
theorem quJ (m k):qae m (yA m) k=qnf m k:=qG (M:=qnf m) rfl (λ _=>by kernel_rfl) k
theorem qv1 (m a0):yA (m+1) a0=tb.runP1 m i77 [] (a0,()):=(congrArg (λ L=>qeJ m (yA m) L a0) (quJ m m)).trans (by kernel_rfl)
noncomputable def qi3 (m k x0 x1 x2 x3 x4 x5 x6 x7 x8):=tb.PL i50 18 m k [(2,.ptr 0 0),(3,.ptr 1 0),(9,.i .i64 x0)] ⟨[[.i .i64 x1,.s x2,.i .i64 x3,.sl .term x4 1],[.i .i64 x5,.s x6,.i .i64 x7,.sl .term x8 1]],[]⟩
theorem qpH (m k):Qf m (zj m) k=qi3 m k:=qG (M:=qi3 m) rfl (λ _=>by kernel_rfl) k
theorem qrj (m a0 a1):zj (m+1) a0 a1=tb.runP1 m i50 [] (a0,a1,()):=(congrArg (λ L=>qb7 m (zj m) L a0 a1) (qpH m m)).trans (by kernel_rfl)
theorem qv9 (m a0 a1):yB (m+1) a0 a1=tb.runP1 m i17 [] (a0,a1,()):=by kernel_rfl
noncomputable def qjl (m k x0 x1 x2 x3 x4 x5 x6 x7 x8 x9 x10):=tb.PL i21 5 m k [(1,.ptr 0 0),(3,.i .i64 x0),(39,.sl (.pair (.int .i64) .term) x1 1),(40,.i .i64 x2),(41,.i .i64 x3)] ⟨[[.i .i64 x4,.s x5,.i .i64 x6,.sl .term x7 1,.i .i64 x8,.sl (.pair (.int .i64) .term) x9 1,.i .i64 x10]],[]⟩
theorem qpG (m k):Qd m k=qjl m k:=qG (M:=qjl m) rfl (λ _=>by kernel_rfl) k
theorem qqL (m a0):jp (m+1) a0=tb.runP1 m i21 [] (a0,()):=(congrArg (λ L=>qb1 m L a0) (qpG m m)).trans (by kernel_rfl)
noncomputable def qk7 (m k x0 x1 x2 x3 x4 x5 x6 x7 x8 x9 x10 x11 x12 x13 x14 x15 x16 x17):=tb.QL i51 4 m k [(1,.ptr 0 0),(2,.ptr 1 0),(3,.row 2 0),(11,.sl (.pair (.int .i64) .term) x0 1),(12,.i .i64 x1),(13,.i .i64 x2)] ⟨[[.i .i64 x3,.s x4,.i .i64 x5,.sl .term x6 1,.i .i64 x7,.sl (.pair (.int .i64) .term) x8 1,.i .i64 x9],[.i .i64 x10,.s x11,.i .i64 x12,.row 0 0,.i .i64 x13,.row 1 0,.i .i64 x14]],[⟨.term,x15,0,0,false⟩,⟨(.pair (.int .i64) .term),x16,0,0,false⟩,⟨(.pair (.int .i64) .term),x17,0,0,false⟩]⟩
theorem qsx (m k):qm8 m k=qk7 m k:=qG (M:=qk7 m) rfl (λ _=>by kernel_rfl) k
theorem qt3 (m a0):qeA (m+1) a0=tb.runS1 m i51 (a0,()):=(congrArg (λ L=>qlb m L a0) (qsx m m)).trans (by kernel_rfl)
theorem qpB (m a0 a1):qdI (m+1) a0 a1=tb.runP1 m i54 [] (a0,a1,()):=by kernel_rfl
noncomputable def qhw (m k x0 x1 x2 x3 x4 x5 x6 x7 x8 x9 x10 x11 x12 x13 x14 x15 x16 x17 x18 x19 x20 x21 x22):=tb.PL i19 17 m k [(3,.ptr 0 0),(4,.ptr 1 0),(5,.ptr 2 0),(7,.ptr 3 0)] ⟨[[.i .i64 x0,.i .i64 x1,.s x2,.i .i64 x3,.sl .term x4 1],[.i .i64 x5,.s x6,.i .i64 x7,.row 0 0,.i .i64 x8,.row 1 0,.i .i64 x9],[.i .i64 x10,.s x11,.i .i64 x12,.row 2 0],[.i .i64 x13,.s x14,.i .i64 x15,.sl .term x16 1,.i .i64 x17,.row 3 0,.i .i64 x18]],[⟨.term,x19,0,0,false⟩,⟨(.pair (.int .i64) .term),x20,0,0,false⟩,⟨.term,x21,0,0,false⟩,⟨(.pair (.int .i64) .term),x22,0,0,false⟩]⟩
theorem qnk (m k):qh0 m k=qhw m k:=qG (M:=qhw m) rfl (λ _=>by kernel_rfl) k
theorem qoL (m a0 a1):qaN (m+1) a0 a1=tb.runP1 m i19 [] (a0,a1,()):=(congrArg (λ L=>qhr m L a0 a1) (qnk m m)).trans (by kernel_rfl)
theorem qwE (m a0 a1):qfw (m+1) a0 a1=tb.runP1 m i23 [] (a0,a1,()):=by kernel_rfl
theorem qwH (m):qdL (m+1)=tb.runP1 m i22 [] (()):=by kernel_rfl
theorem qrx (m a0):J9 (m+1) a0=tb.runP1 m qIy [] (a0,()):=by kernel_rfl
theorem quX (m a0):qcr (m+1) a0=tb.runP1 m qIo [] (a0,()):=by kernel_rfl
noncomputable def qm1 (m k x0 x1):=tb.PL i86 2 m k [(0,.s x0),(3,.i .i64 x1)] ⟨[],[]⟩
theorem qu0 (m k):qnG m k=qm1 m k:=qG (M:=qm1 m) rfl (λ _=>by kernel_rfl) k
theorem qwO (m a0):qfE (m+1) a0=tb.runP1 m i86 [] (a0,()):=(congrArg (λ L=>qm4 m L a0) (qu0 m m)).trans (by kernel_rfl)
noncomputable def qj1 (m k x0 x1):=tb.PL i87 4 m k [(0,.s x0),(3,.i .i64 x1)] ⟨[],[]⟩
theorem qq2 (m k):Q9 m k=qj1 m k:=qG (M:=qj1 m) rfl (λ _=>by kernel_rfl) k
theorem qrS (m a0):Qi (m+1) a0=tb.runP1 m i87 [] (a0,()):=(congrArg (λ L=>qcS m L a0) (qq2 m m)).trans (by kernel_rfl)
theorem qwx (m a0):qlX (m+1) a0=tb.runP1 m qII [] (a0,()):=by kernel_rfl
noncomputable def qm7 (m k x0 x1 x2 x3 x4 x5 x6 x7 x8 x9 x10):=tb.PL i88 5 m k [(1,.s x0),(2,.ptr 0 0),(4,.ptr 1 0),(7,.s x1),(8,.i .i64 x2)] ⟨[[.i .i64 x3,.s x4,.i .i64 x5,.sl .term x6 1],[.i .i64 x7,.s x8,.i .i64 x9,.row 0 0]],[⟨.term,x10,0,0,false⟩]⟩
theorem quK (m k):qoB m k=qm7 m k:=qG (M:=qm7 m) rfl (λ _=>by kernel_rfl) k
theorem qwo (m a0 a1):qiq (m+1) a0 a1=tb.runP1 m i88 [] (a0,a1,()):=(congrArg (λ L=>qne m L a0 a1) (quK m m)).trans (by kernel_rfl)
noncomputable def qmV (m k x0 x1 x2 x3 x4 x5 x6 x7 x8 x9):=tb.PL i66 13 m k [(0,.s x0),(1,.i .i64 x1),(4,.ptr 0 0),(7,.ptr 1 0)] ⟨[[.i .i64 x2,.s x3,.i .i64 x4,.row 0 0],[.i .i64 x5,.s x6,.i .i64 x7,.row 1 0]],[⟨.term,x8,0,0,false⟩,⟨.term,x9,0,0,false⟩]⟩
theorem qtS (m k):qoI m (qgb m) k=qmV m k:=qG (M:=qmV m) rfl (λ _=>by kernel_rfl) k
theorem qwI (m a0 a1):qgb (m+1) a0 a1=tb.runP1 m i66 [] (a0,a1,()):=(congrArg (λ L=>qm5 m (qgb m) L a0 a1) (qtS m m)).trans (by kernel_rfl)
theorem qwM (m a0):qfB (m+1) a0=tb.runP1 m qIL [] (a0,()):=by kernel_rfl
noncomputable def qlr (m k x0 x1 x2 x3 x4):=tb.PL i89 5 m k [(1,.ptr 0 0),(4,.i .i64 x0)] ⟨[[.i .i64 x1,.s x2,.i .i64 x3,.sl .term x4 1]],[]⟩
theorem qs5 (m k):JB m (yL m) k=qlr m k:=qG (M:=qlr m) rfl (λ _=>by kernel_rfl) k
theorem qtI (m a0):yL (m+1) a0=tb.runP1 m i89 [] (a0,()):=(congrArg (λ L=>qdB m (yL m) L a0) (qs5 m m)).trans (by kernel_rfl)
noncomputable def qlj (m k x0 x1 x2 x3 x4 x5):=tb.PL i90 3 m k [(1,.ptr 0 0),(3,.i .i64 x0),(4,.i .i64 x1)] ⟨[[.i .i64 x2,.s x3,.i .i64 x4,.sl .term x5 1]],[]⟩
theorem qsg (m k):JC m (yM m) k=qlj m k:=qG (M:=qlj m) rfl (λ _=>by kernel_rfl) k
theorem quO (m a0):yM (m+1) a0=tb.runP1 m i90 [] (a0,()):=(congrArg (λ L=>qdE m (yM m) L a0) (qsg m m)).trans (by kernel_rfl)
theorem quN (m a0):zJ (m+1) a0=tb.runP1 m i67 [] (a0,()):=by kernel_rfl
theorem qtU (m a0):qg1 (m+1) a0=tb.runP1 m i38 [] (a0,()):=by kernel_rfl
theorem qqk (m):qeK (m+1)=tb.runP1 m qJp [] (()):=by kernel_rfl
noncomputable def qm2 (m k x0 x1 x2):=tb.PL qGx 3 m k [(0,.s x0),(3,.sl (.pair .str (.pair (.int .i64) (.pair (.int .i64) (.int .i64)))) x1 1),(4,.i .i64 x2)] ⟨[],[]⟩
theorem qt9 (m k):J4 m k=qm2 m k:=qG (M:=qm2 m) rfl (λ _=>by kernel_rfl) k
theorem qwn (m a0):qcf (m+1) a0=tb.runP1 m qGx [] (a0,()):=(congrArg (λ L=>qeM m L a0) (qt9 m m)).trans (by kernel_rfl)
noncomputable def qm0 (m k x0 x1 x2 x3 x4 x5):=tb.PL qFQ 3 m k [(1,.ptr 0 0),(3,.sl (.pair .str (.pair (.int .i64) (.pair (.int .i64) (.int .i64)))) x0 1),(4,.i .i64 x1)] ⟨[[.i .i64 x2,.s x3,.i .i64 x4,.sl .term x5 1]],[]⟩
theorem quR (m k):J6 m k=qm0 m k:=qG (M:=qm0 m) rfl (λ _=>by kernel_rfl) k
theorem qv7 (m a0):qgf (m+1) a0=tb.runP1 m qFQ [] (a0,()):=(congrArg (λ L=>qeG m L a0) (quR m m)).trans (by kernel_rfl)
noncomputable def qjU (m k x0 x1 x2 x3 x4):=tb.PL qF1 4 m k [(1,.ptr 0 0),(3,.i .i64 x0)] ⟨[[.i .i64 x1,.s x2,.i .i64 x3,.sl .term x4 1]],[]⟩
theorem qqT (m k):Q3 m k=qjU m k:=qG (M:=qjU m) rfl (λ _=>by kernel_rfl) k
theorem qtr (m a0):qdd (m+1) a0=tb.runP1 m qF1 [] (a0,()):=(congrArg (λ L=>qcL m L a0) (qqT m m)).trans (by kernel_rfl)
noncomputable def qk4 (m k x0 x1 x2 x3 x4):=tb.PL qGg 11 m k [(1,.ptr 0 0),(4,.i .i64 x0)] ⟨[[.i .i64 x1,.s x2,.i .i64 x3,.sl .term x4 1]],[]⟩
theorem qsP (m k):Qy m (yo m) k=qk4 m k:=qG (M:=qk4 m) rfl (λ _=>by kernel_rfl) k
theorem qtY (m a0):yo (m+1) a0=tb.runP1 m qGg [] (a0,()):=(congrArg (λ L=>qdV m (yo m) L a0) (qsP m m)).trans (by kernel_rfl)
theorem qtL (m a0):qew (m+1) a0=tb.runP1 m qIB [] (a0,()):=by kernel_rfl
theorem qzE (m a0 a1):zV (m+1) a0 a1=tb.runP1 m i64 [] (a0,a1,()):=by kernel_rfl
theorem qzT (m a0 a1):qaf (m+1) a0 a1=tb.runP1 m i79 [] (a0,a1,()):=by kernel_rfl
theorem qrt (m a0):qcm (m+1) a0=tb.runP1 m qIF [] (a0,()):=by kernel_rfl
noncomputable def qn9 (m k x0 x1 x2 x3 x4 x5):=tb.PL i81 2 m k [(0,.sl .term x0 1),(3,.ptr 0 0),(5,.i .i64 x1)] ⟨[[.i .i64 x2,.s x3,.i .i64 x4,.sl .term x5 1]],[]⟩
theorem qwq (m k):qaV m k=qn9 m k:=qG (M:=qn9 m) rfl (λ _=>by kernel_rfl) k
theorem qyJ (m a0 a1):qhv (m+1) a0 a1=tb.runP1 m i81 [] (a0,a1,()):=(congrArg (λ L=>qfO m L a0 a1) (qwq m m)).trans (by kernel_rfl)
noncomputable def qns (m k x0 x1 x2 x3 x4 x5 x6 x7):=tb.PL i85 4 m k [(0,.sl .term x0 1),(3,.ptr 0 0),(5,.row 0 0),(6,.b x1),(7,.i .i64 x2)] ⟨[[.i .i64 x3,.s x4,.i .i64 x5,.sl .term x6 1]],[⟨.term,x7,0,0,false⟩]⟩
theorem qwt (m k):qa0 m k=qns m k:=qG (M:=qns m) rfl (λ _=>by kernel_rfl) k
theorem qyV (m a0 a1):qfd (m+1) a0 a1=tb.runP1 m i85 [] (a0,a1,()):=(congrArg (λ L=>qf0 m L a0 a1) (qwt m m)).trans (by kernel_rfl)
noncomputable def qkk (m k x0 x1 x2 x3 x4 x5 x6):=tb.PL qEP 5 m k [(0,.sl .term x0 1),(3,.ptr 0 0),(5,.row 0 0),(6,.i .i64 x1)] ⟨[[.i .i64 x2,.s x3,.i .i64 x4,.sl .term x5 1]],[⟨.term,x6,0,0,false⟩]⟩
theorem qqB (m k):QM m k=qkk m k:=qG (M:=qkk m) rfl (λ _=>by kernel_rfl) k
theorem qsj (m a0 a1):qdf (m+1) a0 a1=tb.runP1 m qEP [] (a0,a1,()):=(congrArg (λ L=>qcA m L a0 a1) (qqB m m)).trans (by kernel_rfl)
noncomputable def qna (m k x0 x1 x2):=tb.PL qGj 3 m k [(1,.sl .term x0 1),(5,.sl .term x1 1),(6,.i .i64 x2)] ⟨[],[]⟩
theorem qtw (m k):Jo m k=qna m k:=qG (M:=qna m) rfl (λ _=>by kernel_rfl) k
theorem qwc (m a0 a1):qd6 (m+1) a0 a1=tb.runP1 m qGj [] (a0,a1,()):=(congrArg (λ L=>qeF m L a0 a1) (qtw m m)).trans (by kernel_rfl)
noncomputable def qhV (m k x0 x1 x2 x3 x4 x5):=tb.PL qF7 7 m k [(1,.ptr 0 0),(3,.sl .term x0 1),(4,.i .i64 x1)] ⟨[[.i .i64 x2,.s x3,.i .i64 x4,.sl .term x5 1]],[]⟩
theorem qoh (m k):jk m (zt m) k=qhV m k:=qG (M:=qhV m) rfl (λ _=>by kernel_rfl) k
theorem qpI (m a0):zt (m+1) a0=tb.runP1 m qF7 [] (a0,()):=(congrArg (λ L=>qbh m (zt m) L a0) (qoh m m)).trans (by kernel_rfl)
noncomputable def qkV (m k x0 x1 x2 x3 x4 x5):=tb.PL qF2 4 m k [(0,.sl .term x0 1),(3,.ptr 0 0),(5,.i .i64 x1)] ⟨[[.i .i64 x2,.s x3,.i .i64 x4,.sl .term x5 1]],[]⟩
theorem qto (m k):JE m k=qkV m k:=qG (M:=qkV m) rfl (λ _=>by kernel_rfl) k
theorem que (m a0 a1):qeu (m+1) a0 a1=tb.runP1 m qF2 [] (a0,a1,()):=(congrArg (λ L=>qd2 m L a0 a1) (qto m m)).trans (by kernel_rfl)
theorem qw5 (m):qf5 (m+1)=tb.runP1 m qJb [] (()):=by kernel_rfl
theorem qwp (m a0):qgk (m+1) a0=tb.runP1 m qIm [] (a0,()):=by kernel_rfl
noncomputable def qor (m k x0 x1 x2 x3 x4 x5 x6):=tb.PL qGE 6 m k [(0,.sl .term x0 1),(2,.ptr 0 0),(5,.sl .term x1 1),(6,.i .i64 x2)] ⟨[[.i .i64 x3,.s x4,.i .i64 x5,.row 0 0]],[⟨.term,x6,0,0,true⟩]⟩
theorem qv4 (m k):qaU m k=qor m k:=qG (M:=qor m) rfl (λ _=>by kernel_rfl) k
theorem qzB (m a0):qhu (m+1) a0=tb.runP1 m qGE [] (a0,()):=(congrArg (λ L=>qf9 m L a0) (qv4 m m)).trans (by kernel_rfl)
theorem qp2 (m a0):JA (m+1) a0=tb.runP1 m qI2 [] (a0,()):=by kernel_rfl
noncomputable def qkY (m k x0 x1 x2 x3 x4 x5):=tb.PL qGc 7 m k [(1,.ptr 0 0),(3,.i .i64 x0),(4,.i .i64 x1)] ⟨[[.i .i64 x2,.s x3,.i .i64 x4,.sl .term x5 1]],[]⟩
theorem qtp (m k):Qz m (yq m) k=qkY m k:=qG (M:=qkY m) rfl (λ _=>by kernel_rfl) k
theorem quL (m a0):yq (m+1) a0=tb.runP1 m qGc [] (a0,()):=(congrArg (λ L=>qd4 m (yq m) L a0) (qtp m m)).trans (by kernel_rfl)
noncomputable def qnU (m k x0 x1 x2 x3 x4 x5 x6 x7 x8):=tb.QL qFe 4 m k [(0,.row 0 0),(2,.i .i64 x0),(4,.ptr 0 0),(7,.row 1 0),(8,.b x1),(9,.i .i64 x2)] ⟨[[.i .i64 x3,.s x4,.i .i64 x5,.sl .term x6 1]],[⟨(.pair .term (.int .i64)),x7,0,0,false⟩,⟨(.pair .term (.int .i64)),x8,0,0,false⟩]⟩
theorem qwT (m k):Jg m k=qnU m k:=qG (M:=qnU m) rfl (λ _=>by kernel_rfl) k
theorem qzJ (m a0 a1 a2):qfp (m+1) a0 a1 a2=tb.runS1 m qFe (a0,a1,a2,()):=(congrArg (λ L=>qfA m L a0 a1 a2) (qwT m m)).trans (by kernel_rfl)
noncomputable def qiV (m k x0 x1 x2 x3 x4 x5 x6):=tb.QL qFP 6 m k [(0,.row 0 0),(2,.i .i64 x0),(4,.ptr 0 0),(7,.i .i64 x1)] ⟨[[.i .i64 x2,.s x3,.i .i64 x4,.sl .term x5 1]],[⟨(.pair .term (.int .i64)),x6,0,0,false⟩]⟩
theorem qpN (m k):jC m (zH m) k=qiV m k:=qG (M:=qiV m) rfl (λ _=>by kernel_rfl) k
theorem qqm (m a0 a1 a2):zH (m+1) a0 a1 a2=tb.runS1 m qFP (a0,a1,a2,()):=(congrArg (λ L=>qca m (zH m) L a0 a1 a2) (qpN m m)).trans (by kernel_rfl)
theorem qzL (m a0):qeZ (m+1) a0=tb.runP1 m qJo [] (a0,()):=by kernel_rfl
noncomputable def qln (m k x0 x1):=tb.PL qGC 4 m k [(0,.sl (.pair .term (.int .i64)) x0 1),(3,.i .i64 x1)] ⟨[],[]⟩
theorem qtj (m k):Qx m k=qln m k:=qG (M:=qln m) rfl (λ _=>by kernel_rfl) k
theorem qty (m a0):qa4 (m+1) a0=tb.runP1 m qGC [] (a0,()):=(congrArg (λ L=>qd7 m L a0) (qtj m m)).trans (by kernel_rfl)
noncomputable def qhY (m k x0 x1 x2):=tb.PL quE 3 m k [(0,.sl (.pair .term (.int .i64)) x0 1),(3,.row 0 0),(4,.i .i64 x1)] ⟨[],[⟨.term,x2,0,0,false⟩]⟩
noncomputable def qhX (m k x0 x1 x2 x3):=tb.PL quE 6 m k [(0,.sl (.pair .term (.int .i64)) x0 1),(3,.row 0 0),(4,.i .i64 x1),(5,.i .i64 x2)] ⟨[],[⟨.term,x3,0,0,false⟩]⟩
noncomputable def qhU (m k x0 x1 x2):=tb.PL quE 10 m k [(0,.sl (.pair .term (.int .i64)) x0 1),(3,.row 0 0),(6,.i .i64 x1)] ⟨[],[⟨.term,x2,0,0,false⟩]⟩
noncomputable def qhR (m k x0 x1 x2 x3):=tb.PL quE 13 m k [(0,.sl (.pair .term (.int .i64)) x0 1),(3,.row 0 0),(6,.i .i64 x1),(7,.i .i64 x2)] ⟨[],[⟨.term,x3,0,0,false⟩]⟩
theorem qoR (m k):qk m k=(qhY m k,qhX m k,qhU m k,qhR m k):=qG (M := λ k=>(qhY m k,qhX m k,qhU m k,qhR m k)) rfl (λ _=>by kernel_rfl) k
theorem qps (m a0):qbs (m+1) a0=tb.runP1 m quE [] (a0,()):=(congrArg (a₁ := qk m m) (λ L=>qba m L.1 L.2.1 L.2.2.1 L.2.2.2 a0) (qoR m m)).trans (by kernel_rfl)
theorem qwW (m a0):qaG (m+1) a0=tb.runP1 m qIA [] (a0,()):=by kernel_rfl
theorem qqI (m a0):qat (m+1) a0=tb.runP1 m qIT [] (a0,()):=by kernel_rfl
noncomputable def qiU (m k x0 x1):=tb.PL qF4 2 m k [(0,.sl (.pair .term (.int .i64)) x0 1),(3,.i .i64 x1)] ⟨[],[]⟩
theorem qpC (m k):Qj m k=qiU m k:=qG (M:=qiU m) rfl (λ _=>by kernel_rfl) k
theorem qqK (m a0):qcj (m+1) a0=tb.runP1 m qF4 [] (a0,()):=(congrArg (λ L=>qbQ m L a0) (qpC m m)).trans (by kernel_rfl)
noncomputable def qoo (m k x0 x1 x2):=tb.PL qER 9 m k [(1,.sl (.pair .term (.int .i64)) x0 1),(8,.row 0 0),(9,.i .i64 x1)] ⟨[],[⟨(.pair .term (.int .i64)),x2,0,0,false⟩]⟩
theorem qwD (m k):J0 m k=qoo m k:=qG (M:=qoo m) rfl (λ _=>by kernel_rfl) k
theorem qxB (m a0 a1):qht (m+1) a0 a1=tb.runP1 m qER [] (a0,a1,()):=(congrArg (λ L=>qfL m L a0 a1) (qwD m m)).trans (by kernel_rfl)
theorem qt7 (m a0 a1):qes (m+1) a0 a1=tb.runP1 m qI1 [] (a0,a1,()):=by kernel_rfl
noncomputable def qjW (m k x0 x1 x2 x3 x4 x5 x6 x7 x8 x9):=tb.PL qET 5 m k [(1,.ptr 0 0),(2,.ptr 1 0),(4,.row 1 0),(5,.i .i64 x0)] ⟨[[.i .i64 x1,.s x2,.i .i64 x3,.sl .term x4 1],[.i .i64 x5,.s x6,.i .i64 x7,.row 0 0]],[⟨.term,x8,0,0,false⟩,⟨.term,x9,0,0,false⟩]⟩
theorem qrg (m k):QY m (ye m) k=qjW m k:=qG (M:=qjW m) rfl (λ _=>by kernel_rfl) k
theorem qr9 (m a0):ye (m+1) a0=tb.runP1 m qET [] (a0,()):=(congrArg (λ L=>qcM m (ye m) L a0) (qrg m m)).trans (by kernel_rfl)
theorem qs7 (m a0):qcY (m+1) a0=tb.runP1 m i98 [] (a0,()):=by kernel_rfl
noncomputable def qn0 (m k x0 x1 x2 x3 x4 x5):=tb.PL i99 3 m k [(1,.ptr 0 0),(3,.row 0 0),(4,.i .i64 x0)] ⟨[[.i .i64 x1,.s x2,.i .i64 x3,.sl .term x4 1]],[⟨.term,x5,0,0,true⟩]⟩
theorem qw0 (m k):qa5 m (jm m) k=qn0 m k:=qG (M:=qn0 m) rfl (λ _=>by kernel_rfl) k
theorem qzo (m a0):jm (m+1) a0=tb.runP1 m i99 [] (a0,()):=(congrArg (λ L=>qfJ m (jm m) L a0) (qw0 m m)).trans (by kernel_rfl)
noncomputable def qkS (m k x0 x1):=tb.PL i71 6 m k [(5,.sl .term x0 1),(6,.i .i64 x1)] ⟨[],[]⟩
theorem qsp (m k):Jy m k=qkS m k:=qG (M:=qkS m) rfl (λ _=>by kernel_rfl) k
theorem qur (m a0):qet (m+1) a0=tb.runP1 m i71 [] (a0,()):=(congrArg (λ L=>qdQ m L a0) (qsp m m)).trans (by kernel_rfl)
noncomputable def qnY (m k x0 x1 x2):=tb.PL i62 3 m k [(0,.sl .term x0 1),(3,.sl .term x1 1),(4,.i .i64 x2)] ⟨[],[]⟩
theorem qwm (m k):qaT m k=qnY m k:=qG (M:=qnY m) rfl (λ _=>by kernel_rfl) k
theorem qx5 (m a0):qg8 (m+1) a0=tb.runP1 m i62 [] (a0,()):=(congrArg (λ L=>qfC m L a0) (qwm m m)).trans (by kernel_rfl)
noncomputable def qmQ (m k x0 x1 x2 x3):=tb.PL qGe 4 m k [(1,.i .i64 x0),(5,.row 0 0),(6,.sl .term x1 1),(7,.i .i64 x2)] ⟨[],[⟨.term,x3,0,0,false⟩]⟩
theorem qtB (m k):qad m k=qmQ m k:=qG (M:=qmQ m) rfl (λ _=>by kernel_rfl) k
theorem qwC (m a0 a1):qfZ (m+1) a0 a1=tb.runP1 m qGe [] (a0,a1,()):=(congrArg (λ L=>qeL m L a0 a1) (qtB m m)).trans (by kernel_rfl)
theorem qv5 (m a0):qfy (m+1) a0=tb.runP1 m qIJ [] (a0,()):=by kernel_rfl
theorem qrN (m a0):qcZ (m+1) a0=tb.runP1 m i72 [] (a0,()):=by kernel_rfl
theorem qrL (m a0):Qp (m+1) a0=tb.runP1 m i43 [] (a0,()):=by kernel_rfl
theorem qx2 (m a0):qoP (m+1) a0=tb.runP1 m i13 [] (a0,()):=by kernel_rfl
noncomputable def qla (m k x0 x1 x2 x3 x4 x5 x6 x7 x8):=tb.PL i25 5 m k [(1,.ptr 0 0),(3,.i .i64 x0),(4,.i .i64 x1)] ⟨[[.i .i64 x2,.s x3,.i .i64 x4,.sl .term x5 1,.i .i64 x6,.sl (.pair (.int .i64) .term) x7 1,.i .i64 x8]],[]⟩
theorem qr6 (m k):Jx m k=qla m k:=qG (M:=qla m) rfl (λ _=>by kernel_rfl) k
theorem quW (m a0):qa2 (m+1) a0=tb.runP1 m i25 [] (a0,()):=(congrArg (λ L=>qdM m L a0) (qr6 m m)).trans (by kernel_rfl)
theorem qqh (m a0 a1):qeQ (m+1) a0 a1=tb.runP1 m i75 [] (a0,a1,()):=by kernel_rfl
theorem qwV (m a0):qlT (m+1) a0=tb.runP1 m i47 [] (a0,()):=by kernel_rfl
theorem qwZ (m a0):qfV (m+1) a0=tb.runP1 m i48 [] (a0,()):=by kernel_rfl
theorem qys (m a0):qoq (m+1) a0=tb.runP1 m i49 [] (a0,()):=by kernel_rfl
theorem qwe (m a0 a1):qif (m+1) a0 a1=tb.runP1 m i35 [] (a0,a1,()):=by kernel_rfl
noncomputable def qmY (m k x0 x1 x2 x3 x4 x5 x6 x7 x8 x9):=tb.PL i39 4 m k [(0,.i .i64 x0),(3,.ptr 0 0),(5,.row 0 0),(6,.i .i64 x1)] ⟨[[.i .i64 x2,.s x3,.i .i64 x4,.sl .term x5 1,.i .i64 x6,.sl (.pair (.int .i64) .term) x7 1,.i .i64 x8]],[⟨(.pair (.int .i64) .term),x9,0,0,false⟩]⟩
theorem qtQ (m k):qnC m k=qmY m k:=qG (M:=qmY m) rfl (λ _=>by kernel_rfl) k
theorem qwy (m a0):qml (m+1) a0=tb.runP1 m i39 [] (a0,()):=(congrArg (λ L=>qnb m L a0) (qtQ m m)).trans (by kernel_rfl)
theorem quu (m):Je (m+1)=tb.runP1 m i10 [] (()):=by kernel_rfl
noncomputable def qjN (m k x0 x1 x2 x3 x4 x5):=tb.PL i40 5 m k [(1,.i .i64 x0),(2,.ptr 0 0),(5,.i .i64 x1)] ⟨[[.i .i64 x2,.s x3,.i .i64 x4,.sl .term x5 1]],[]⟩
theorem qq1 (m k):QT m (yh m) k=qjN m k:=qG (M:=qjN m) rfl (λ _=>by kernel_rfl) k
theorem qrU (m a0 a1):yh (m+1) a0 a1=tb.runP1 m i40 [] (a0,a1,()):=(congrArg (λ L=>qcP m (yh m) L a0 a1) (qq1 m m)).trans (by kernel_rfl)
noncomputable def qn6 (m k x0 x1 x2):=tb.PL i11 4 m k [(0,.sl .term x0 1),(2,.i .i64 x1),(7,.i .i64 x2)] ⟨[],[]⟩
theorem qwd (m k):qa6 m k=qn6 m k:=qG (M:=qn6 m) rfl (λ _=>by kernel_rfl) k
theorem qyb (m a0 a1 a2):qfo (m+1) a0 a1 a2=tb.runP1 m i11 [] (a0,a1,a2,()):=(congrArg (λ L=>qfI m L a0 a1 a2) (qwd m m)).trans (by kernel_rfl)
noncomputable def qj8 (m k x0 x1 x2 x3 x4 x5 x6 x7 x8):=tb.PL i28 3 m k [(1,.ptr 0 0),(3,.row 0 0),(4,.i .i64 x0)] ⟨[[.i .i64 x1,.s x2,.i .i64 x3,.sl .term x4 1,.i .i64 x5,.sl (.pair (.int .i64) .term) x6 1,.i .i64 x7]],[⟨.term,x8,0,0,true⟩]⟩
theorem qqz (m k):QP m k=qj8 m k:=qG (M:=qj8 m) rfl (λ _=>by kernel_rfl) k
theorem qsr (m a0):qbv (m+1) a0=tb.runP1 m i28 [] (a0,()):=(congrArg (λ L=>qcG m L a0) (qqz m m)).trans (by kernel_rfl)
theorem qx1 (m a0):qff (m+1) a0=tb.runP1 m i18 [] (a0,()):=by kernel_rfl
noncomputable def qlf (m k x0 x1 x2):=tb.PL i26 4 m k [(0,.sl .term x0 1),(1,.sl .term x1 1),(5,.i .i64 x2)] ⟨[],[]⟩
theorem qst (m k):Jz m k=qlf m k:=qG (M:=qlf m) rfl (λ _=>by kernel_rfl) k
theorem qt1 (m a0 a1):qez (m+1) a0 a1=tb.runP1 m i26 [] (a0,a1,()):=(congrArg (λ L=>qdR m L a0 a1) (qst m m)).trans (by kernel_rfl)
noncomputable def qh4 (m k x0 x1 x2 x3):=tb.PL i27 3 m k [(3,.row 0 0),(11,.sl (.pair (.int .i64) .term) x0 1),(12,.i .i64 x1),(13,.i .i64 x2)] ⟨[],[⟨.term,x3,0,0,true⟩]⟩
theorem qol (m k):jP m k=qh4 m k:=qG (M:=qh4 m) rfl (λ _=>by kernel_rfl) k
theorem qpD (m a0):qbD (m+1) a0=tb.runP1 m i27 [] (a0,()):=(congrArg (λ L=>qbi m L a0) (qol m m)).trans (by kernel_rfl)
noncomputable def qec (m k x0 x1 x2 x3):=tb.PL i29 4 m k [(0,.sl (.int .i64) x0 1),(1,.sl (.int .i64) x1 1),(12,.i .i64 x2),(13,.i .i64 x3)] ⟨[],[]⟩
theorem qjq (m k):yt m k=qec m k:=qG (M:=qec m) rfl (λ _=>by kernel_rfl) k
theorem qjK (m a0 a1):Qk (m+1) a0 a1=tb.runP1 m i29 [] (a0,a1,()):=(congrArg (λ L=>QE m L a0 a1) (qjq m m)).trans (by kernel_rfl)
noncomputable def qhl (m k x0 x1 x2 x3):=tb.PL i30 3 m k [(3,.row 0 0),(7,.sl (.pair (.int .i64) .term) x0 1),(8,.i .i64 x1),(9,.i .i64 x2)] ⟨[],[⟨(.int .i64),x3,0,0,false⟩]⟩
theorem qnm (m k):jy m k=qhl m k:=qG (M:=qhl m) rfl (λ _=>by kernel_rfl) k
theorem qoG (m a0):qaB (m+1) a0=tb.runP1 m i30 [] (a0,()):=(congrArg (λ L=>qaE m L a0) (qnm m m)).trans (by kernel_rfl)
noncomputable def qiM (m k x0 x1 x2 x3 x4 x5 x6 x7 x8):=tb.PL i31 3 m k [(1,.ptr 0 0),(3,.row 0 0),(4,.i .i64 x0)] ⟨[[.i .i64 x1,.s x2,.i .i64 x3,.sl .term x4 1,.i .i64 x5,.sl (.pair (.int .i64) .term) x6 1,.i .i64 x7]],[⟨(.int .i64),x8,0,0,false⟩]⟩
theorem qpL (m k):Qq m k=qiM m k:=qG (M:=qiM m) rfl (λ _=>by kernel_rfl) k
theorem qqP (m a0):qci (m+1) a0=tb.runP1 m i31 [] (a0,()):=(congrArg (λ L=>qbX m L a0) (qpL m m)).trans (by kernel_rfl)
theorem qkX (m a0):law53_RatchetValid (m+1) a0=tb.runP1 m i6 [] (a0,()):=by kernel_rfl
noncomputable def qm3 (m k x0 x1 x2 x3 x4 x5 x6 x7 x8 x9 x10 x11 x12 x13 x14):=tb.PL i16 4 m k [(2,.ptr 0 0),(3,.ptr 1 0),(5,.i .i64 x0)] ⟨[[.i .i64 x1,.s x2,.i .i64 x3,.sl .term x4 1,.i .i64 x5,.sl (.pair (.int .i64) .term) x6 1,.i .i64 x7],[.i .i64 x8,.s x9,.i .i64 x10,.sl .term x11 1,.i .i64 x12,.sl (.pair (.int .i64) .term) x13 1,.i .i64 x14]],[]⟩
theorem quU (m k):qoz m k=qm3 m k:=qG (M:=qm3 m) rfl (λ _=>by kernel_rfl) k
theorem qwi (m a0 a1):qic (m+1) a0 a1=tb.runP1 m i16 [] (a0,a1,()):=(congrArg (λ L=>qng m L a0 a1) (quU m m)).trans (by kernel_rfl)
theorem qrF (m a0 a1):qiQ (m+1) a0 a1=tb.runP1 m i24 [] (a0,a1,()):=by kernel_rfl
theorem qsl (m a0 a1):qjb (m+1) a0 a1=tb.runP1 m i36 [] (a0,a1,()):=by kernel_rfl
theorem qww (m a0 a1):ql0 (m+1) a0 a1=tb.runP1 m i37 [] (a0,a1,()):=by kernel_rfl
theorem qlO (m a0 a1):qhZ (m+1) a0 a1=tb.runP1 m i8 [] (a0,a1,()):=by kernel_rfl
end Go.AmYtbpnmbmdbblehaaGreat
namespace Go.Proofs
open Go.Shelf
def Tryz.sortTrm_ren:Go.Shelf.Ren:=⟨λ | 6=>154 | 15=>187 | 14=>186 | 28=>212 | 29=>213 | 20=>204 | 21=>205 | 22=>206 | 23=>207 | 24=>208 | 25=>209 | 26=>210 | 27=>211 | 46=>225 | 47=>226 | 48=>227 | 49=>228 | 50=>229 | 57=>236 | n=>n,λ | 22=>22 | 24=>24 | 25=>78 | 3=>3 | 39=>172 | 0=>0 | 53=>194 | 55=>196 | 4=>4 | 46=>187 | 45=>186 | 50=>191 | 5=>5 | 9=>9 | 66=>210 | 70=>100 | 76=>222 | 77=>223 | n=>n,λ | n=>n⟩
theorem Tryz.sortTrm:Go.Proofs.SlLaysF0.n6 Tryz.prog Tryz.sortTrm_ren:={
 mixed:=by kernel_rfl
 f6:=⟨Tryz.f154.name,by decide,Tryz.func154.trans (congrArg some (by kernel_rfl))⟩
 f14:=⟨Tryz.f186.name,by decide,Tryz.func186.trans (congrArg some (by kernel_rfl))⟩
 f15:=Tryz.func187.trans (congrArg some (by kernel_rfl))
 f20:=⟨Tryz.f204.name,by decide,Tryz.func204.trans (congrArg some (by kernel_rfl))⟩
 f21:=⟨Tryz.f205.name,by decide,Tryz.func205.trans (congrArg some (by kernel_rfl))⟩
 f22:=⟨Tryz.f206.name,by decide,Tryz.func206.trans (congrArg some (by kernel_rfl))⟩
 f23:=⟨Tryz.f207.name,by decide,Tryz.func207.trans (congrArg some (by kernel_rfl))⟩
 f24:=⟨Tryz.f208.name,by decide,Tryz.func208.trans (congrArg some (by kernel_rfl))⟩
 f25:=⟨Tryz.f209.name,by decide,Tryz.func209.trans (congrArg some (by kernel_rfl))⟩
 f26:=⟨Tryz.f210.name,by decide,Tryz.func210.trans (congrArg some (by kernel_rfl))⟩
 f27:=⟨Tryz.f211.name,by decide,Tryz.func211.trans (congrArg some (by kernel_rfl))⟩
 f28:=Tryz.func212.trans (congrArg some (by kernel_rfl))
 f29:=Tryz.func213.trans (congrArg some (by kernel_rfl))
 f46:=⟨Tryz.f225.name,by decide,Tryz.func225.trans (congrArg some (by kernel_rfl))⟩
 f47:=Tryz.func226.trans (congrArg some (by kernel_rfl))
 f48:=Tryz.func227.trans (congrArg some (by kernel_rfl))
 f49:=⟨Tryz.f228.name,by decide,Tryz.func228.trans (congrArg some (by kernel_rfl))⟩
 f50:=⟨Tryz.f229.name,by decide,Tryz.func229.trans (congrArg some (by kernel_rfl))⟩
 f57:=⟨Tryz.f236.name,by decide,Tryz.func236.trans (congrArg some (by kernel_rfl))⟩
 t0:=Tryz.underlying0
 a0:=Tryz.isAgg0
 z0:=Tryz.sizeOf0
 v0:=Tryz.zeroValue0
 t3:=Tryz.underlying3
 a3:=Tryz.isAgg3
 z3:=Tryz.sizeOf3
 v3:=Tryz.zeroValue3
 t4:=Tryz.underlying4
 a4:=Tryz.isAgg4
 z4:=Tryz.sizeOf4
 v4:=Tryz.zeroValue4
 t5:=Tryz.underlying5
 a5:=Tryz.isAgg5
 z5:=Tryz.sizeOf5
 v5:=Tryz.zeroValue5
 t9:=Tryz.underlying9
 a9:=Tryz.isAgg9
 z9:=Tryz.sizeOf9
 v9:=Tryz.zeroValue9
 t22:=Tryz.underlying22
 a22:=Tryz.isAgg22
 z22:=Tryz.sizeOf22
 v22:=Tryz.zeroValue22
 t25:=Tryz.underlying78
 a25:=Tryz.isAgg78
 z25:=Tryz.sizeOf78
 v25:=Tryz.zeroValue78
 t39:=Tryz.underlying172
 a39:=Tryz.isAgg172
 z39:=Tryz.sizeOf172
 v39:=Tryz.zeroValue172
 t45:=Tryz.underlying186
 a45:=Tryz.isAgg186
 z45:=Tryz.sizeOf186
 v45:=Tryz.zeroValue186
 t46:=Tryz.underlying187
 a46:=Tryz.isAgg187
 z46:=Tryz.sizeOf187
 v46:=Tryz.zeroValue187
 t50:=Tryz.underlying191
 a50:=Tryz.isAgg191
 z50:=Tryz.sizeOf191
 v50:=Tryz.zeroValue191
 t53:=Tryz.underlying194
 a53:=Tryz.isAgg194
 z53:=Tryz.sizeOf194
 v53:=Tryz.zeroValue194
 t55:=Tryz.underlying196
 a55:=Tryz.isAgg196
 z55:=Tryz.sizeOf196
 v55:=Tryz.zeroValue196
 t66:=Tryz.underlying210
 a66:=Tryz.isAgg210
 z66:=Tryz.sizeOf210
 v66:=Tryz.zeroValue210
 t70:=Tryz.underlying100
 a70:=Tryz.isAgg100
 z70:=Tryz.sizeOf100
 v70:=Tryz.zeroValue100
 t76:=Tryz.underlying222
 a76:=Tryz.isAgg222
 z76:=Tryz.sizeOf222
 v76:=Tryz.zeroValue222
 t77:=Tryz.underlying223
 a77:=Tryz.isAgg223
 z77:=Tryz.sizeOf223
 v77:=Tryz.zeroValue223 }
end Go.Proofs
namespace Go.AmYtbpnmbmdbblehaaGreat
open Go Go.GxYtbpnmbmdbblehaaGreat
set_option linter.unusedVariables false
set_option maxRecDepth 100000
theorem qa1 (m:Nat) (h:yg Go.Proofs.Tryz.prog (tb.at m).pc.cfg):qW Go.Proofs.Tryz.prog 154 (mgP ⟨.term,[.clo 78 0],λ x=>qQ (m+1) x.1⟩):=qEu (τ := .term) Go.Proofs.Tryz.sortTrm (λ _=>rfl) Go.Proofs.Tryz.isAgg24 Go.Proofs.Tryz.sizeOf24 (qEL (τ := .term) (ρ := (.int .i64)) (qBd h (by kernel_rfl)) (F := λ x y=>qt m x y) (by kernel_rfl) (λ _=>rfl)) (QN Go.Proofs.Tryz.func154 (by kernel_rfl)) (λ _ _ h=>h)
theorem qab (m:Nat) (h:yg Go.Proofs.Tryz.prog (tb.at m).pc.cfg):qW Go.Proofs.Tryz.prog 155 (sgP ⟨[.row .term,.clo 156 0],[.one (.row .term)],λ x=>qD (m+1) x.1⟩):=qyk (qEL (τ := .term) (ρ := .bool) (qBd h (by kernel_rfl)) (F := λ x y=>yd m x y) (by kernel_rfl) (λ _=>rfl)) (λ _ _ h=>qCO h)
theorem tb_ok:∀ m,yg Go.Proofs.Tryz.prog (tb.at m).pc.cfg:=Tb.all_ok (by kernel_rfl) qEo (by kernel_rfl) ⟨nl1 ⟨Go.Proofs.Tryz.func102,λ _=>rfl,λ m a=>quT m a.1,trivial⟩,⟨⟨Go.Proofs.Tryz.func51,λ _=>rfl,λ m a=>qt3 m a.1⟩,⟨nl1 ⟨Go.Proofs.Tryz.func29,λ _=>rfl,λ m a=>qjK m a.1 a.2.1,trivial⟩,⟨nl1 ⟨Go.Proofs.Tryz.func18,λ _=>rfl,λ m a=>qx1 m a.1,trivial⟩,⟨nl1 ⟨Go.Proofs.Tryz.func12,λ _=>rfl,λ m a=>qt8 m a.1,trivial⟩,⟨nl1 ⟨Go.Proofs.Tryz.func10,λ _=>rfl,λ m a=>quu m,trivial⟩,⟨nl1 ⟨Go.Proofs.Tryz.func8,λ _=>rfl,λ m a=>qlO m a.1 a.2.1,trivial⟩,⟨nl1 ⟨Go.Proofs.Tryz.func6,λ _=>rfl,λ m a=>qkX m a.1,trivial⟩,trivial,trivial⟩,trivial⟩,⟨nl1 ⟨Go.Proofs.Tryz.func11,λ _=>rfl,λ m a=>qyb m a.1 a.2.1 a.2.2.1,trivial⟩,trivial,trivial⟩⟩,⟨nl1 ⟨Go.Proofs.Tryz.func16,λ _=>rfl,λ m a=>qwi m a.1 a.2.1,trivial⟩,⟨nl1 ⟨Go.Proofs.Tryz.func14,λ _=>rfl,λ m a=>qtN m a.1 a.2.1,trivial⟩,⟨nl1 ⟨Go.Proofs.Tryz.func13,λ _=>rfl,λ m a=>qx2 m a.1,trivial⟩,trivial,trivial⟩,trivial⟩,⟨nl1 ⟨Go.Proofs.Tryz.func17,λ _=>rfl,λ m a=>qv9 m a.1 a.2.1,trivial⟩,trivial,trivial⟩⟩⟩,⟨nl1 ⟨Go.Proofs.Tryz.func24,λ _=>rfl,λ m a=>qrF m a.1 a.2.1,trivial⟩,⟨nl1 ⟨Go.Proofs.Tryz.func22,λ _=>rfl,λ m a=>qwH m,trivial⟩,⟨nl1 ⟨Go.Proofs.Tryz.func21,λ _=>rfl,λ m a=>qqL m a.1,trivial⟩,⟨nl1 ⟨Go.Proofs.Tryz.func19,λ _=>rfl,λ m a=>qoL m a.1 a.2.1,trivial⟩,trivial,trivial⟩,trivial⟩,⟨nl1 ⟨Go.Proofs.Tryz.func23,λ _=>rfl,λ m a=>qwE m a.1 a.2.1,trivial⟩,trivial,trivial⟩⟩,⟨nl1 ⟨Go.Proofs.Tryz.func27,λ _=>rfl,λ m a=>qpD m a.1,trivial⟩,⟨nl1 ⟨Go.Proofs.Tryz.func26,λ _=>rfl,λ m a=>qt1 m a.1 a.2.1,trivial⟩,⟨nl1 ⟨Go.Proofs.Tryz.func25,λ _=>rfl,λ m a=>quW m a.1,trivial⟩,trivial,trivial⟩,trivial⟩,⟨nl1 ⟨Go.Proofs.Tryz.func28,λ _=>rfl,λ m a=>qsr m a.1,trivial⟩,trivial,trivial⟩⟩⟩⟩,⟨nl1 ⟨Go.Proofs.Tryz.func42,λ _=>rfl,λ m a=>qpx m a.1,trivial⟩,⟨nl1 ⟨Go.Proofs.Tryz.func37,λ _=>rfl,λ m a=>qww m a.1 a.2.1,trivial⟩,⟨nl1 ⟨Go.Proofs.Tryz.func35,λ _=>rfl,λ m a=>qwe m a.1 a.2.1,trivial⟩,⟨nl1 ⟨Go.Proofs.Tryz.func31,λ _=>rfl,λ m a=>qqP m a.1,trivial⟩,⟨nl1 ⟨Go.Proofs.Tryz.func30,λ _=>rfl,λ m a=>qoG m a.1,trivial⟩,trivial,trivial⟩,trivial⟩,⟨nl1 ⟨Go.Proofs.Tryz.func36,λ _=>rfl,λ m a=>qsl m a.1 a.2.1,trivial⟩,trivial,trivial⟩⟩,⟨nl1 ⟨Go.Proofs.Tryz.func40,λ _=>rfl,λ m a=>qrU m a.1 a.2.1,trivial⟩,⟨nl1 ⟨Go.Proofs.Tryz.func39,λ _=>rfl,λ m a=>qwy m a.1,trivial⟩,⟨nl1 ⟨Go.Proofs.Tryz.func38,λ _=>rfl,λ m a=>qtU m a.1,trivial⟩,trivial,trivial⟩,trivial⟩,⟨nl1 ⟨Go.Proofs.Tryz.func41,λ _=>rfl,λ m a=>qqv m a.1,trivial⟩,trivial,trivial⟩⟩⟩,⟨nl1 ⟨Go.Proofs.Tryz.func47,λ _=>rfl,λ m a=>qwV m a.1,trivial⟩,⟨nl1 ⟨Go.Proofs.Tryz.func45,λ _=>rfl,λ m a=>qwv m a.1,trivial⟩,⟨nl1 ⟨Go.Proofs.Tryz.func44,λ _=>rfl,λ m a=>qs4 m a.1,trivial⟩,⟨nl1 ⟨Go.Proofs.Tryz.func43,λ _=>rfl,λ m a=>qrL m a.1,trivial⟩,trivial,trivial⟩,trivial⟩,⟨nl1 ⟨Go.Proofs.Tryz.func46,λ _=>rfl,λ m a=>quV m a.1,trivial⟩,trivial,trivial⟩⟩,⟨nl1 ⟨Go.Proofs.Tryz.func49,λ _=>rfl,λ m a=>qys m a.1,trivial⟩,⟨nl1 ⟨Go.Proofs.Tryz.func48,λ _=>rfl,λ m a=>qwZ m a.1,trivial⟩,trivial,trivial⟩,⟨nl1 ⟨Go.Proofs.Tryz.func50,λ _=>rfl,λ m a=>qrj m a.1 a.2.1,trivial⟩,trivial,trivial⟩⟩⟩⟩⟩,⟨nl1 ⟨Go.Proofs.Tryz.func79,λ _=>rfl,λ m a=>qzT m a.1 a.2.1,trivial⟩,⟨nl1 ⟨Go.Proofs.Tryz.func69,λ _=>rfl,λ m a=>qyY m a.1,trivial⟩,⟨nl1 ⟨Go.Proofs.Tryz.func64,λ _=>rfl,λ m a=>qzE m a.1 a.2.1,trivial⟩,⟨qdj (m:=0),⟨nl1 ⟨Go.Proofs.Tryz.func54,λ _=>rfl,λ m a=>qpB m a.1 a.2.1,trivial⟩,⟨⟨jv,λ _ _=>jv⟩,trivial,trivial⟩,trivial⟩,⟨nl1 ⟨Go.Proofs.Tryz.func62,λ _=>rfl,λ m a=>qx5 m a.1,trivial⟩,trivial,trivial⟩⟩,⟨nl1 ⟨Go.Proofs.Tryz.func67,λ _=>rfl,λ m a=>quN m a.1,trivial⟩,⟨nl1 ⟨Go.Proofs.Tryz.func66,λ _=>rfl,λ m a=>qwI m a.1 a.2.1,trivial⟩,⟨nl1 ⟨Go.Proofs.Tryz.func65,λ _=>rfl,λ m a=>qnu m a.1 a.2.1,trivial⟩,trivial,trivial⟩,trivial⟩,⟨nl1 ⟨Go.Proofs.Tryz.func68,λ _=>rfl,λ m a=>qtq m a.1,trivial⟩,trivial,trivial⟩⟩⟩,⟨⟨Go.Proofs.Tryz.func74,λ _=>rfl,λ m a=>qwF m a.1 a.2.1 a.2.2.1 a.2.2.2.1⟩,⟨nl1 ⟨Go.Proofs.Tryz.func72,λ _=>rfl,λ m a=>qrN m a.1,trivial⟩,⟨nl1 ⟨Go.Proofs.Tryz.func71,λ _=>rfl,λ m a=>qur m a.1,trivial⟩,⟨nl1 ⟨Go.Proofs.Tryz.func70,λ _=>rfl,λ m a=>qCA m a.1 a.2.1,trivial⟩,trivial,trivial⟩,trivial⟩,⟨nl1 ⟨Go.Proofs.Tryz.func73,λ _=>rfl,λ m a=>qtM m a.1,trivial⟩,trivial,trivial⟩⟩,⟨nl1 ⟨Go.Proofs.Tryz.func77,λ _=>rfl,λ m a=>qv1 m a.1,trivial⟩,⟨nl1 ⟨Go.Proofs.Tryz.func76,λ _=>rfl,λ m a=>qsS m a.1 a.2.1,trivial⟩,⟨nl1 ⟨Go.Proofs.Tryz.func75,λ _=>rfl,λ m a=>qqh m a.1 a.2.1,trivial⟩,trivial,trivial⟩,trivial⟩,⟨nl1 ⟨Go.Proofs.Tryz.func78,λ _=>rfl,λ m a=>qtm m a.1 a.2.1,trivial⟩,trivial,trivial⟩⟩⟩⟩,⟨nl1 ⟨Go.Proofs.Tryz.func93,λ _=>rfl,λ m a=>qkZ m a.1,trivial⟩,⟨nl1 ⟨Go.Proofs.Tryz.func88,λ _=>rfl,λ m a=>qwo m a.1 a.2.1,trivial⟩,⟨nl1 ⟨Go.Proofs.Tryz.func86,λ _=>rfl,λ m a=>qwO m a.1,trivial⟩,⟨nl1 ⟨Go.Proofs.Tryz.func85,λ _=>rfl,λ m a=>qyV m a.1 a.2.1,trivial⟩,⟨nl1 ⟨Go.Proofs.Tryz.func81,λ _=>rfl,λ m a=>qyJ m a.1 a.2.1,trivial⟩,trivial,trivial⟩,trivial⟩,⟨nl1 ⟨Go.Proofs.Tryz.func87,λ _=>rfl,λ m a=>qrS m a.1,trivial⟩,trivial,trivial⟩⟩,⟨nl1 ⟨Go.Proofs.Tryz.func91,λ _=>rfl,λ m a=>qqM m a.1,trivial⟩,⟨nl1 ⟨Go.Proofs.Tryz.func90,λ _=>rfl,λ m a=>quO m a.1,trivial⟩,⟨nl1 ⟨Go.Proofs.Tryz.func89,λ _=>rfl,λ m a=>qtI m a.1,trivial⟩,trivial,trivial⟩,trivial⟩,⟨nl1 ⟨Go.Proofs.Tryz.func92,λ _=>rfl,λ m a=>qut m a.1 a.2.1,trivial⟩,trivial,trivial⟩⟩⟩,⟨nl1 ⟨Go.Proofs.Tryz.func98,λ _=>rfl,λ m a=>qs7 m a.1,trivial⟩,⟨nl1 ⟨Go.Proofs.Tryz.func96,λ _=>rfl,λ m a=>quc m a.1 a.2.1,trivial⟩,⟨nl1 ⟨Go.Proofs.Tryz.func95,λ _=>rfl,λ m a=>qqe m a.1,trivial⟩,⟨nl1 ⟨Go.Proofs.Tryz.func94,λ _=>rfl,λ m a=>qpu m a.1,trivial⟩,trivial,trivial⟩,trivial⟩,⟨nl1 ⟨Go.Proofs.Tryz.func97,λ _=>rfl,λ m a=>qwJ m a.1,trivial⟩,trivial,trivial⟩⟩,⟨nl1 ⟨Go.Proofs.Tryz.func100,λ _=>rfl,λ m a=>qwn m a.1,trivial⟩,⟨nl1 ⟨Go.Proofs.Tryz.func99,λ _=>rfl,λ m a=>qzo m a.1,trivial⟩,trivial,trivial⟩,⟨nl1 ⟨Go.Proofs.Tryz.func101,λ _=>rfl,λ m a=>qv5 m a.1,trivial⟩,trivial,trivial⟩⟩⟩⟩⟩⟩,⟨nl1 ⟨Go.Proofs.Tryz.func169,λ _=>rfl,λ m a=>qqK m a.1,trivial⟩,⟨nl1 ⟨Go.Proofs.Tryz.func146,λ _=>rfl,λ m a=>qzL m a.1,trivial⟩,⟨λ c hc=>qnl (m:=0) hc,⟨nl1 ⟨Go.Proofs.Tryz.func121,λ _=>rfl,λ m a=>quX m a.1,trivial⟩,⟨λ c hc=>qlK (m:=0) hc,⟨nl1 ⟨Go.Proofs.Tryz.func104,λ _=>rfl,λ m a=>qy2 m a.1,trivial⟩,⟨nl1 ⟨Go.Proofs.Tryz.func103,λ _=>rfl,λ m a=>qxV m a.1 a.2.1,trivial⟩,trivial,trivial⟩,trivial⟩,⟨nl1 ⟨Go.Proofs.Tryz.func120,λ _=>rfl,λ m a=>qrx m a.1,trivial⟩,trivial,trivial⟩⟩,⟨nl1 ⟨Go.Proofs.Tryz.func124,λ _=>rfl,λ m a=>qtk m a.1,trivial⟩,⟨nl1 ⟨Go.Proofs.Tryz.func123,λ _=>rfl,λ m a=>qwM m a.1,trivial⟩,⟨nl1 ⟨Go.Proofs.Tryz.func122,λ _=>rfl,λ m a=>qwx m a.1,trivial⟩,trivial,trivial⟩,trivial⟩,⟨nl1 ⟨Go.Proofs.Tryz.func125,λ _=>rfl,λ m a=>qp5 m a.1,trivial⟩,trivial,trivial⟩⟩⟩,⟨nl1 ⟨Go.Proofs.Tryz.func131,λ _=>rfl,λ m a=>qr9 m a.1,trivial⟩,⟨⟨Go.Proofs.Tryz.func129,λ _=>rfl,λ m a=>qtn m a.1⟩,⟨⟨Go.Proofs.Tryz.func128,λ _=>rfl,λ m a=>qjJ m a.1 a.2.1 a.2.2.1⟩,⟨⟨Go.Proofs.Tryz.func127,λ _=>rfl,λ m a=>qlH m a.1 a.2.1 a.2.2.1⟩,trivial,trivial⟩,trivial⟩,⟨nl1 ⟨Go.Proofs.Tryz.func130,λ _=>rfl,λ m a=>qtL m a.1,trivial⟩,trivial,trivial⟩⟩,⟨nl1 ⟨Go.Proofs.Tryz.func134,λ _=>rfl,λ m a=>qyp m a.1,trivial⟩,⟨nl1 ⟨Go.Proofs.Tryz.func133,λ _=>rfl,λ m a=>qwC m a.1 a.2.1,trivial⟩,⟨nl1 ⟨Go.Proofs.Tryz.func132,λ _=>rfl,λ m a=>qqk m,trivial⟩,trivial,trivial⟩,trivial⟩,⟨nl1 ⟨Go.Proofs.Tryz.func143,λ _=>rfl,λ m a=>qxB m a.1 a.2.1,trivial⟩,trivial,trivial⟩⟩⟩⟩,⟨nl1 ⟨Go.Proofs.Tryz.func157,λ _=>rfl,λ m a=>qtY m a.1,trivial⟩,⟨nl1 ⟨Go.Proofs.Tryz.func151,λ _=>rfl,λ m a=>qrb m a.1,trivial⟩,⟨nl1 ⟨Go.Proofs.Tryz.func149,λ _=>rfl,λ m a=>qB7 m a.1,trivial⟩,⟨nl1 ⟨Go.Proofs.Tryz.func148,λ _=>rfl,λ m a=>qpO m a.1,trivial⟩,⟨nl1 ⟨Go.Proofs.Tryz.func147,λ _=>rfl,λ m a=>qsR m a.1,trivial⟩,trivial,trivial⟩,trivial⟩,⟨nl1 ⟨Go.Proofs.Tryz.func150,λ _=>rfl,λ m a=>qtP m a.1,trivial⟩,trivial,trivial⟩⟩,⟨⟨qts (QN Go.Proofs.Tryz.func155 (by kernel_rfl)) λ _=>rfl,λ m h=>qab m h⟩,⟨⟨qDA (QN Go.Proofs.Tryz.func154 (by kernel_rfl)) λ _=>rfl,λ m h=>qa1 m h⟩,⟨nl1 ⟨Go.Proofs.Tryz.func152,λ _=>rfl,λ m a=>qsV m a.1 a.2.1,trivial⟩,trivial,trivial⟩,trivial⟩,⟨nl1 ⟨Go.Proofs.Tryz.func156,λ _=>rfl,λ m a=>qpz m a.1 a.2.1,trivial⟩,trivial,trivial⟩⟩⟩,⟨nl1 ⟨Go.Proofs.Tryz.func163,λ _=>rfl,λ m a=>qpI m a.1,trivial⟩,⟨nl1 ⟨Go.Proofs.Tryz.func160,λ _=>rfl,λ m a=>qqI m a.1,trivial⟩,⟨nl1 ⟨Go.Proofs.Tryz.func159,λ _=>rfl,λ m a=>qzB m a.1,trivial⟩,⟨nl1 ⟨Go.Proofs.Tryz.func158,λ _=>rfl,λ m a=>qrt m a.1,trivial⟩,trivial,trivial⟩,trivial⟩,⟨nl1 ⟨Go.Proofs.Tryz.func161,λ _=>rfl,λ m a=>qt7 m a.1 a.2.1,trivial⟩,trivial,trivial⟩⟩,⟨nl1 ⟨Go.Proofs.Tryz.func167,λ _=>rfl,λ m a=>qty m a.1,trivial⟩,⟨nl1 ⟨Go.Proofs.Tryz.func164,λ _=>rfl,λ m a=>que m a.1 a.2.1,trivial⟩,trivial,trivial⟩,⟨⟨Go.Proofs.Tryz.func168,λ _=>rfl,λ m a=>qzJ m a.1 a.2.1 a.2.2.1⟩,trivial,trivial⟩⟩⟩⟩⟩,⟨nl1 ⟨Go.Proofs.Tryz.func192,λ _=>rfl,λ m a=>qwp m a.1,trivial⟩,⟨nl1 ⟨Go.Proofs.Tryz.func181,λ _=>rfl,λ m a=>qpA m a.1,trivial⟩,⟨nl1 ⟨Go.Proofs.Tryz.func176,λ _=>rfl,λ m a=>qz4 m a.1 a.2.1,trivial⟩,⟨nl1 ⟨Go.Proofs.Tryz.func174,λ _=>rfl,λ m a=>qyd m a.1 a.2.1,trivial⟩,⟨⟨Go.Proofs.Tryz.func173,λ _=>rfl,λ m a=>qqm m a.1 a.2.1 a.2.2.1⟩,⟨nl1 ⟨Go.Proofs.Tryz.func172,λ _=>rfl,λ m a=>quL m a.1,trivial⟩,trivial,trivial⟩,trivial⟩,⟨nl1 ⟨Go.Proofs.Tryz.func175,λ _=>rfl,λ m a=>qyg m a.1 a.2.1,trivial⟩,trivial,trivial⟩⟩,⟨⟨Go.Proofs.Tryz.func179,λ _=>rfl,λ m a=>qni m a.1 a.2.1 a.2.2.1⟩,⟨nl1 ⟨Go.Proofs.Tryz.func178,λ _=>rfl,λ m a=>qCT m a.1,trivial⟩,⟨nl1 ⟨Go.Proofs.Tryz.func177,λ _=>rfl,λ m a=>qti m a.1,trivial⟩,trivial,trivial⟩,trivial⟩,⟨nl1 ⟨Go.Proofs.Tryz.func180,λ _=>rfl,λ m a=>qpM m a.1,trivial⟩,trivial,trivial⟩⟩⟩,⟨nl1 ⟨Go.Proofs.Tryz.func188,λ _=>rfl,λ m a=>qv7 m a.1,trivial⟩,⟨nl1 ⟨Go.Proofs.Tryz.func184,λ _=>rfl,λ m a=>qrv m a.1 a.2.1,trivial⟩,⟨nl1 ⟨Go.Proofs.Tryz.func183,λ _=>rfl,λ m a=>qeg m a.1,trivial⟩,⟨nl1 ⟨Go.Proofs.Tryz.func182,λ _=>rfl,λ m a=>qs3 m a.1 a.2.1,trivial⟩,trivial,trivial⟩,trivial⟩,⟨nl1 ⟨Go.Proofs.Tryz.func185,λ _=>rfl,λ m a=>qwh m a.1 a.2.1,trivial⟩,trivial,trivial⟩⟩,⟨nl1 ⟨Go.Proofs.Tryz.func190,λ _=>rfl,λ m a=>qw5 m,trivial⟩,⟨nl1 ⟨Go.Proofs.Tryz.func189,λ _=>rfl,λ m a=>qtr m a.1,trivial⟩,trivial,trivial⟩,⟨nl1 ⟨Go.Proofs.Tryz.func191,λ _=>rfl,λ m a=>qwc m a.1 a.2.1,trivial⟩,trivial,trivial⟩⟩⟩⟩,⟨nl1 ⟨Go.Proofs.Tryz.func214,λ _=>rfl,λ m a=>qsj m a.1 a.2.1,trivial⟩,⟨⟨Go.Proofs.Tryz.func199,λ _=>rfl,λ m a=>qnK m a.1 a.2.1⟩,⟨nl1 ⟨Go.Proofs.Tryz.func197,λ _=>rfl,λ m a=>qtu m a.1 a.2.1 a.2.2.1,trivial⟩,⟨nl1 ⟨Go.Proofs.Tryz.func195,λ _=>rfl,λ m a=>qp2 m a.1,trivial⟩,⟨nl1 ⟨Go.Proofs.Tryz.func193,λ _=>rfl,λ m a=>qwW m a.1,trivial⟩,trivial,trivial⟩,trivial⟩,⟨nl1 ⟨Go.Proofs.Tryz.func198,λ _=>rfl,λ m a=>qn5 m a.1,trivial⟩,trivial,trivial⟩⟩,⟨⟨Go.Proofs.Tryz.func202,λ _=>rfl,λ m a=>qn4 m a.1⟩,⟨qeo (m:=0),⟨qd5 (m:=0),trivial,trivial⟩,trivial⟩,⟨nl1 ⟨Go.Proofs.Tryz.func203,λ _=>rfl,λ m a=>qot m a.1,trivial⟩,trivial,trivial⟩⟩⟩,⟨qcx (m:=0),⟨nl1 ⟨Go.Proofs.Tryz.func220,λ _=>rfl,λ m a=>qlM m a.1 a.2.1,trivial⟩,⟨nl1 ⟨Go.Proofs.Tryz.func219,λ _=>rfl,λ m a=>Qa m a.1 a.2.1,trivial⟩,⟨nl1 ⟨Go.Proofs.Tryz.func215,λ _=>rfl,λ m a=>qps m a.1,trivial⟩,trivial,trivial⟩,trivial⟩,⟨qcw (m:=0),trivial,trivial⟩⟩,⟨nl1 ⟨Go.Proofs.Tryz.func224,λ _=>rfl,λ m a=>qlW m a.1,trivial⟩,⟨nl1 ⟨Go.Proofs.Tryz.func223,λ _=>rfl,λ m a=>J2 m a.1,trivial⟩,trivial,trivial⟩,⟨nl1 ⟨Go.Proofs.Tryz.func235,λ _=>rfl,λ m a=>qap m a.1,trivial⟩,trivial,trivial⟩⟩⟩⟩⟩⟩⟩
end Go.AmYtbpnmbmdbblehaaGreat
